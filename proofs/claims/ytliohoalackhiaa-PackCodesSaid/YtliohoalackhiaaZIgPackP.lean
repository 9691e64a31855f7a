/- pack.Parse reads a datagram out of bytes, and holds it against its own encoding: for every slice of bytes, in whatever memory. -/
import Derived.Test.YtliohoalackhiaaZIgPackE
import Derived.Test.YtliohoalackhiaaZIgGet
import Derived.Test.YtliohoalackhiaaZIgClone
import Derived.Test.YtliohoalackhiaaZIgChunkB
import Derived.Test.YtliohoalackhiaaZIx4
namespace Go.Proofs.Ytliohoalackhiaa.I
open Go.RowKit Go.Shelf Go.Proofs.YtliohoalackhiaaW.PrintWords Go.Proofs.YtliohoalackhiaaW.PrintLast Go.Proofs.YtliohoalackhiaaW.PrintMore
set_option linter.unusedVariables false
set_option linter.unusedSimpArgs false
attribute [local go_sem] Oper.semAt_some
def getN (l : List Int) : Int := getAll (backs (l.take 8) (l.take 8).length)
/-- from lo on, below hi -/
def mid (l : List Int) (lo hi : Nat) : List Int := (l.take hi).drop lo
/-- two by two -/
def pairs : List Int → List (List Int)
  | [] => []
  | [a] => [[a]]
  | a :: b :: t => [a, b] :: pairs t
/-- a datagram's kind, session, index, how many, sum; its sizes and body, of what is left -/
def parseK (l : List Int) : Int := wrap64 (rd l 0)
def parseX (l : List Int) : Int := getN (mid l 1 9)
def parseI (l : List Int) : Int := wrap64 (getN (mid l 9 11))
def parseO (l : List Int) : Int := wrap64 (getN (mid l 11 13))
def parseY (l : List Int) : Int := IntKind.u32.wrap (getN (mid l 13 17))
def parseS (kd : Int) (rest : List Int) : List Int := if kd = 1 then (pairs rest).map (fun p => wrap64 (getN p)) else []
def parseB (kd : Int) (rest : List Int) : List Int := if kd = 1 then [] else rest
/-- What pack.Parse computes. -/
def pack_Parse.f (k : Nat) (l0 : List Int) : Option (Int × Int × Int × Int × Int × List Int × List Int × Int) := if 17592186044416 ≤ l0.length then none else
  if (l0.length : Int) < 21 then some (0, 0, 0, 0, 0, [], [], 10) else
  (crc_Right.f k l0).bind fun ok => if ok = true then ((bytes_Clone.f (mid l0 17 (l0.length - 4))).bind fun rest =>
    (pack_Encode.f k (parseK l0) (parseX l0) (parseI l0) (parseO l0) (parseY l0) (parseS (parseK l0) rest) (parseB (parseK l0) rest)).bind fun ce =>
      if ce.2 = 0 then ((bytes_Equal.f l0 ce.1).bind fun q => if q = true then some (parseK l0, parseX l0, parseI l0, parseO l0, parseY l0, parseS (parseK l0) rest, parseB (parseK l0) rest, 0) else some (0, 0, 0, 0, 0, [], [], 11)) else some (0, 0, 0, 0, 0, [], [], 11))
  else some (0, 0, 0, 0, 0, [], [], 12)
/-- a cut at two numbers -/
theorem cut_at (A : Option Addr) (c : Nat) (l : List Int) (lo hi : Nat) (h1 : lo ≤ hi) (h2 : hi ≤ l.length) (hc : l.length ≤ c) :
    ∃ A' : Option Addr, (∀ W : World, (Instr.slice 22 (.slice A l.length c) (some (.int .i64 (lo : Int))) (some (.int .i64 (hi : Int))) none).run Try.prog W = .ok (.slice A' (mid l lo hi).length (c - lo)) W) ∧
      (∀ w : World, Kd.C (Kd.int .u8) w A l.length l → Kd.C (Kd.int .u8) w A' (mid l lo hi).length (mid l lo hi)) ∧ (mid l lo hi).length ≤ c - lo := by
  obtain ⟨i0, hi0, hz0, hz1, hz2⟩ := info_parts info5
  obtain ⟨A', g1, g2, g3⟩ := print_mid_int (P := Try.prog) (k := .u8) 22 5 Try.underlying22 hi0 hz1 A c l (lo : Int) (hi : Int) (by omega) (by omega) (by omega) hc
  exact ⟨A', g1, fun w h => Kd.C_of_reads (g2 w (Kd.reads_of_C (d := (0 : Int)) h)), g3⟩
/-- a row of integers of the call's own outlives what turns no cells -/
theorem own_Rk {β : Type} {ik : IntKind} {B e base : Nat} {ok : Nat → Prop} (g : β → List Int) (p : β → Value → World → Prop) (hp : ∀ v, OwnFrom B (fun s W => p s v W)) : OwnFrom B (fun s W => ∃ v, p s v W ∧ Kd.R (Kd.int ik) e W base ok v (g s)) := by
  rintro s W W' row ⟨v, h1, h2⟩ hg hr
  refine ⟨v, hp v s W W' row h1 hg hr, Kd.R_mono (Kd.R_grown (Kd.R_bound h2) hg ?_) (fun k hk => hk.1)⟩
  rintro k ⟨_, _, _, q, _, cells, hc⟩ hk
  obtain ⟨_, o, ho, hn⟩ := hr k hk.symm
  rw [hc] at ho
  cases ho
  cases hn
theorem own_row {β : Type} {ik : IntKind} {B e base : Nat} {ok : Nat → Prop} (v : Value) (xs : List Int) : OwnFrom B (fun (_ : β) W => Kd.R (Kd.int ik) e W base ok v xs) := by
  rintro s W W' row h2 hg hr
  refine Kd.R_mono (Kd.R_grown (Kd.R_bound h2) hg ?_) (fun k hk => hk.1)
  rintro k ⟨_, _, _, q, _, cells, hc⟩ hk
  obtain ⟨_, o, ho, hn⟩ := hr k hk.symm
  rw [hc] at ho
  cases ho
  cases hn
theorem not_ownK {ik : IntKind} {e base : Nat} {ok : Nat → Prop} {W : World} {v : Value} {xs : List Int} (h : Kd.R (Kd.int ik) e W base ok v xs) {k : Nat} {o : Obj} (ho : W.heap[k]? = some o) (hn : o.isCells = false) : some k ≠ v.ownBlock := by
  intro e_
  obtain ⟨_, _, _, q, _, cells, hc⟩ := (Kd.R_bound h).1 k e_.symm
  rw [hc] at ho
  cases ho
  cases hn
theorem row_put {ik : IntKind} {e base D : Nat} {ok : Nat → Prop} {W : World} {v : Value} {xs : List Int} (h : Kd.R (Kd.int ik) e W base ok v xs) (hD : W.heap[D]? = some (.deferred (some []))) : Kd.R (Kd.int ik) e (W.putObj D (.deferred none)) base (fun _ => True) v xs := by
  refine Kd.R_mono (Kd.R_grown (Kd.R_bound h) (grownBy_putObj' _ D (.deferred none)) ?_) (fun _ _ => trivial)
  rintro k_ ⟨_, _, _, q, _, cells, hq⟩ hk
  cases hk
  rw [hD] at hq
  cases hq
theorem row_other {base base' : Nat} {ok ok' : Nat → Prop} {W W' : World} {u v : Value} {xs ys : List Int} (h : Kd.R (Kd.int .u8) 5 W base ok u xs) (hv : Kd.R (Kd.int .i64) 3 W base' ok' v ys) (hg : W.grownBy W' v.ownBlock) : Kd.R (Kd.int .u8) 5 W' base ok u xs :=
  Kd.R_mono (Kd.R_grown (Kd.R_apartR h hv (by decide)) hg (fun _ hk => hk.2)) (fun _ hk => hk.1)
theorem piece_reads (ad : Addr) (l : List Int) (b n : Nat) (W : World) (h : Kd.C (Kd.int .u8) W (some ad) l.length l) (hb : b + n ≤ l.length) : Kd.C (Kd.int .u8) W (some (ad.add b)) (mid l b (b + n)).length (mid l b (b + n)) := by
  have := Kd.C_mid (c := l.length + 1) h (Nat.le_add_right b n) hb (by omega)
  rw [if_neg (by omega)] at this
  have e : (some ad).map (fun x : Addr => x.add (b * (Kd.int .u8).sz)) = some (ad.add b) := by
    show some (ad.add (b * 1)) = _
    rw [Nat.mul_one]
  rw [e] at this
  exact this
theorem mid_len (l : List Int) (b n : Nat) (h : b + n ≤ l.length) : (mid l b (b + n)).length = n := by
  unfold mid; rw [List.length_drop, List.length_take]; omega
/-- two by two is what slices.Chunk hands out -/
theorem pairs_chunk (l : List Int) : ∀ (f i : Nat), l.length < i + f → (ChunkB.chunkF 2 l.length f i).map (fun y => mid l y.1 (y.1 + y.2)) = pairs (l.drop i) := by
  intro f
  induction f with
  | zero => intro i h; rw [List.drop_eq_nil_of_le (by omega)]; rfl
  | succ f ih =>
    intro i h
    unfold ChunkB.chunkF
    by_cases hi : i < l.length
    · rw [if_pos hi, List.map_cons, ih (i + 2) (by omega)]
      by_cases h1 : i + 1 < l.length
      · have e : min 2 (l.length - i) = 2 := by omega
        have hd : l.drop i = l[i] :: l[i + 1] :: l.drop (i + 2) := by rw [List.drop_eq_getElem_cons hi, List.drop_eq_getElem_cons h1]
        have hm : mid l i (i + 2) = [l[i], l[i + 1]] := by
          unfold mid
          rw [List.drop_take, hd, show i + 2 - i = 2 by omega]; rfl
        dsimp only
        rw [e, hm, hd]; rfl
      · have e : min 2 (l.length - i) = 1 := by omega
        have hd : l.drop i = [l[i]] := by rw [List.drop_eq_getElem_cons hi, List.drop_eq_nil_of_le (by omega)]
        have hm : mid l i (i + 1) = [l[i]] := by
          unfold mid
          rw [List.drop_take, hd, show i + 1 - i = 1 by omega]; rfl
        dsimp only
        rw [e, hm, hd, List.drop_eq_nil_of_le (show l.length ≤ i + 2 by omega)]; rfl
    · rw [if_neg hi, List.drop_eq_nil_of_le (by omega)]; rfl
set_option maxRecDepth 100000 in
set_option maxHeartbeats 2000000 in
theorem parse_short (A0 : Option Addr) (c0 : Nat) (l0 : List Int) (w : World) (h21 : (l0.length : Int) < 21) :
    Calls Try.prog 86 #[.slice A0 l0.length c0] w fun e w' => e = .returned (.tuple #[.agg #[.int .i64 0, .int .u64 0, .int .i64 0, .int .i64 0, .int .u32 0, .slice none 0 0, .slice none 0 0], .int .u16 10]) ∧ Below w.heap.size w w' := by
  have h1 : decide ((l0.length : Int) < 21) = true := decide_eq_true h21
  clear h21
  go_enter Try.func86, Try.ntmps86
  go_wp2
  exact bodyPost_ret (v := .tuple #[.agg #[.int .i64 0, .int .u64 0, .int .i64 0, .int .i64 0, .int .u32 0, .slice none 0 0, .slice none 0 0], .int .u16 10]) (by simp [results, Try.results86, go_sem]) rfl ⟨rfl, (Below.refl _ _).alloc (Nat.le_refl _) _⟩
set_option maxRecDepth 100000 in
set_option maxHeartbeats 2000000 in
theorem parse_sum (k : Nat) (A0 : Option Addr) (c0 : Nat) (l0 : List Int) (w : World) (h21 : ¬ (l0.length : Int) < 21) (hr0 : Kd.C (Kd.int .u8) w A0 l0.length l0) (hc0 : l0.length ≤ c0) (h : crc_Right.f k l0 = some false) :
    Calls Try.prog 86 #[.slice A0 l0.length c0] w fun e w' => e = .returned (.tuple #[.agg #[.int .i64 0, .int .u64 0, .int .i64 0, .int .i64 0, .int .u32 0, .slice none 0 0, .slice none 0 0], .int .u16 12]) ∧ Below w.heap.size w w' := by
  have h1 : decide ((l0.length : Int) < 21) = false := decide_eq_false h21
  have HC := fun W h1 => crc_Right.calls k A0 c0 l0 false W h1 hc0 h
  have HR := Aside0.mk hr0
  clear h21 h hr0
  go_enter Try.func86, Try.ntmps86
  go_wp2_with fail
  refine (HC _ (Kd.C_alloc HR.out _)).mono ?_
  rintro e w1 ⟨rfl, hb⟩
  have hbk := blk_below (blk_new w (.cells #[.int .i64 0, .int .u64 0, .int .i64 0, .int .i64 0, .int .u32 0, .slice none 0 0, .slice none 0 0] 56)) hb
  have HB := Aside0.mk (below_step (below_alloc (Below.refl w.heap.size w) _) hb)
  have HK := Aside0.mk hbk
  have k0 : w1.cell? ⟨w.heap.size, 0, none⟩ = some (.int .i64 0) := (blk_cell hbk 0).trans rfl
  have k1 : w1.cell? ⟨w.heap.size, 1, none⟩ = some (.int .u64 0) := (blk_cell hbk 1).trans rfl
  have k2 : w1.cell? ⟨w.heap.size, 2, none⟩ = some (.int .i64 0) := (blk_cell hbk 2).trans rfl
  have k3 : w1.cell? ⟨w.heap.size, 3, none⟩ = some (.int .i64 0) := (blk_cell hbk 3).trans rfl
  have k4 : w1.cell? ⟨w.heap.size, 4, none⟩ = some (.int .u32 0) := (blk_cell hbk 4).trans rfl
  have k5 : w1.cell? ⟨w.heap.size, 5, none⟩ = some (.slice none 0 0) := (blk_cell hbk 5).trans rfl
  have k6 : w1.cell? ⟨w.heap.size, 6, none⟩ = some (.slice none 0 0) := (blk_cell hbk 6).trans rfl
  have kf0 : w1.frozen? ⟨w.heap.size, 0, none⟩ = false := blk_frozen hbk 0
  have kf1 : w1.frozen? ⟨w.heap.size, 1, none⟩ = false := blk_frozen hbk 1
  have kf2 : w1.frozen? ⟨w.heap.size, 2, none⟩ = false := blk_frozen hbk 2
  have kf3 : w1.frozen? ⟨w.heap.size, 3, none⟩ = false := blk_frozen hbk 3
  have kf4 : w1.frozen? ⟨w.heap.size, 4, none⟩ = false := blk_frozen hbk 4
  have kf5 : w1.frozen? ⟨w.heap.size, 5, none⟩ = false := blk_frozen hbk 5
  have kf6 : w1.frozen? ⟨w.heap.size, 6, none⟩ = false := blk_frozen hbk 6
  clear hb hbk
  go_wp2
  exact bodyPost_ret (v := .tuple #[.agg #[.int .i64 0, .int .u64 0, .int .i64 0, .int .i64 0, .int .u32 0, .slice none 0 0, .slice none 0 0], .int .u16 12]) (by simp [results, Try.results86, go_sem, k0, k1, k2, k3, k4, k5, k6]) rfl ⟨rfl, by (repeat (first | (with_reducible exact HB.out) | refine below_set ?_ (Nat.le_refl _)))⟩
set_option maxRecDepth 100000 in
set_option maxHeartbeats 16000000 in
theorem parse_other (k : Nat) (A0 : Option Addr) (c0 : Nat) (l0 : List Int) (w : World) (h21 : ¬ (l0.length : Int) < 21) (hr0 : Kd.C (Kd.int .u8) w A0 l0.length l0) (hc0 : l0.length ≤ c0) (h : crc_Right.f k l0 = some true) (b0 v1 v2 v3 v4 : Int) (e6 : rd l0 0 = b0) (e1 : getN (mid l0 1 9) = v1) (e2 : getN (mid l0 9 11) = v2) (e3 : getN (mid l0 11 13) = v3) (e4 : getN (mid l0 13 17) = v4) (rest : List Int) (hrest : bytes_Clone.f (mid l0 17 (l0.length - 4)) = some rest) (kd vi vo vy : Int) (hkd : wrap64 b0 = kd) (hvi : wrap64 v2 = vi) (hvo : wrap64 v3 = vo) (hvy : IntKind.u32.wrap v4 = vy) (hne1 : kd ≠ 1) (c : List Int) (er : Int) (q : Bool) (hce : pack_Encode.f k kd v1 vi vo vy [] rest = some (c, er)) (hq : bytes_Equal.f l0 c = some q) (r0 r1 r2 r3 r4 : Int) (r5 r6 : List Int) (r7 : Int) (hres : (if er = 0 then (if q = true then some (kd, v1, vi, vo, vy, [], rest, 0) else some (0, 0, 0, 0, 0, [], [], 11)) else some (0, 0, 0, 0, 0, [], [], 11)) = some (r0, r1, r2, r3, r4, r5, r6, r7)) :
    Calls Try.prog 86 #[.slice A0 l0.length c0] w fun e w' => ∃ v5_ v6_ : Value, e = .returned (.tuple #[.agg #[.int .i64 r0, .int .u64 r1, .int .i64 r2, .int .i64 r3, .int .u32 r4, v5_, v6_], .int .u16 r7]) ∧ Kd.R (Kd.int .i64) 3 w' w.heap.size (fun _ => True) v5_ r5 ∧ Kd.R (Kd.int .u8) 5 w' w.heap.size (fun _ => True) v6_ r6 ∧ Below w.heap.size w w' := by
  have h1 : decide ((l0.length : Int) < 21) = false := decide_eq_false h21
  have HC := fun W h1 => crc_Right.calls k A0 c0 l0 true W h1 hc0 h
  have HR := Aside0.mk hr0
  have hmx : (l0.length : Int) ≤ 9223372036854775807 := by have := (Kd.reads_of_C (d := (0 : Int)) hr0).2.1; unfold maxLen at this; omega
  obtain ⟨ad0, e0, hcell0⟩ := Kd.at_int hr0 (0 : Int) (by omega) (by omega)
  obtain ⟨A1, q1, p1, g1⟩ := cut_at A0 c0 l0 1 9 (by omega) (by omega) hc0
  obtain ⟨A2, q2, p2, g2⟩ := cut_at A0 c0 l0 9 11 (by omega) (by omega) hc0
  obtain ⟨A3, q3, p3, g3⟩ := cut_at A0 c0 l0 11 13 (by omega) (by omega) hc0
  obtain ⟨A4, q4, p4, g4⟩ := cut_at A0 c0 l0 13 17 (by omega) (by omega) hc0
  obtain ⟨A5, q5, p5, g5⟩ := cut_at A0 c0 l0 17 (l0.length - 4) (by omega) (by omega) hc0
  have q5' : ∀ W : World, (Instr.slice 22 (.slice A0 l0.length c0) (some (.int .i64 17)) (some (.int .i64 ((l0.length : Int) - 4))) none).run Try.prog W = .ok (.slice A5 (mid l0 17 (l0.length - 4)).length (c0 - 17)) W := by
    intro W; have := q5 W; rwa [show ((l0.length - 4 : Nat) : Int) = (l0.length : Int) - 4 by omega] at this
  have HC1 := Aside0.mk (p1 w hr0)
  have HC2 := Aside0.mk (p2 w hr0)
  have HC3 := Aside0.mk (p3 w hr0)
  have HC4 := Aside0.mk (p4 w hr0)
  have HC5 := Aside0.mk (p5 w hr0)
  have HL5 := Aside0.mk g5
  have HG1 := Aside0.mk (fun W h => word_Get.calls A1 (c0 - 1) (mid l0 1 9) v1 W h g1 (by rw [← e1]; rfl))
  have HG2 := Aside0.mk (fun W h => word_Get.calls A2 (c0 - 9) (mid l0 9 11) v2 W h g2 (by rw [← e2]; rfl))
  have HG3 := Aside0.mk (fun W h => word_Get.calls A3 (c0 - 11) (mid l0 11 13) v3 W h g3 (by rw [← e3]; rfl))
  have HG4 := Aside0.mk (fun W h => word_Get.calls A4 (c0 - 13) (mid l0 13 17) v4 W h g4 (by rw [← e4]; rfl))
  have q1' : ∀ W : World, (Instr.slice 22 (.slice A0 l0.length c0) (some (.int .i64 1)) (some (.int .i64 9)) none).run Try.prog W = .ok (.slice A1 (mid l0 1 9).length (c0 - 1)) W := q1
  have q2' : ∀ W : World, (Instr.slice 22 (.slice A0 l0.length c0) (some (.int .i64 9)) (some (.int .i64 11)) none).run Try.prog W = .ok (.slice A2 (mid l0 9 11).length (c0 - 9)) W := q2
  have q3' : ∀ W : World, (Instr.slice 22 (.slice A0 l0.length c0) (some (.int .i64 11)) (some (.int .i64 13)) none).run Try.prog W = .ok (.slice A3 (mid l0 11 13).length (c0 - 11)) W := q3
  have q4' : ∀ W : World, (Instr.slice 22 (.slice A0 l0.length c0) (some (.int .i64 13)) (some (.int .i64 17)) none).run Try.prog W = .ok (.slice A4 (mid l0 13 17).length (c0 - 13)) W := q4
  clear e1 e2 e3 e4 q1 q2 q3 q4 q5 p1 p2 p3 p4 p5 g1 g2 g3 g4 g5 h hr0
  have H21 := Aside0.mk h21
  have h17 : ((l0.length : Int) < 17) = False := eq_false (by omega)
  clear h21
  subst e0
  have h0l : 0 < l0.length := by have := H21.out; omega
  rw [show ad0.add (0 : Int).toNat = ad0 by simp [Addr.add], e6] at hcell0
  have H0 := Aside0.mk hcell0
  clear hcell0 e6
  have HCL := Aside0.mk hrest
  have HCE := Aside0.mk hce
  have HQ := Aside0.mk hq
  have HRES := Aside0.mk hres
  have HE1 := Aside0.mk hkd
  have HE2 := Aside0.mk hvi
  have HE3 := Aside0.mk hvo
  have HE4 := Aside0.mk hvy
  clear hrest hce hq hres hkd hvi hvo hvy
  go_enter Try.func86, Try.ntmps86
  go_wp2_with fail
  refine (HC _ (Kd.C_alloc HR.out _)).mono ?_
  rintro e w1 ⟨rfl, hb⟩
  have HK := Aside0.mk (blk_below (blk_new w (.cells #[.int .i64 0, .int .u64 0, .int .i64 0, .int .i64 0, .int .u32 0, .slice none 0 0, .slice none 0 0] 56)) hb)
  have HB := Aside0.mk (below_step (below_alloc (Below.refl w.heap.size w) _) hb)
  clear hb HC
  go_wp2_with fail
  have n0_ := Aside0.mk (blk_drew HK.out)
  have n1_ := Aside0.mk (below_drew1 HB.out)
  clear HK HB
  have HK := n0_
  have HB := n1_
  clear n0_ n1_
  refine start_ (n := 22) (S := fun w' => w'.cell? ad0 = some (.int .u8 b0)) (ds := []) #[false, false, false, false, false, false, false, false, false, false, false, false, false, false, false, false, false, false, false, false, false, false] (by kernel_rfl) rfl rfl (((HB.out.cell (World.block_lt_of_cell? _ _ H0.out)).trans H0.out)) (fun hHeld => ?_)
  generalize w1.drew = W1 at HK HB hHeld ⊢
  refine pure_ (i := 0) (N := some 19) (v := ?_) (a' := ?_) #[true, false, false, false, false, false, false, false, false, false, false, false, false, false, false, false, false, false, false, false, false, false] rfl rfl (by kernel_rfl) (fun _ _ _ h => h) (Or.inl ⟨by rfl, ?_⟩) ?_ ?_
  rotate_left
  · intro w'
    go_simp
    with_reducible rfl
  rotate_left
  · simp only [Act.put, List.setIfInBounds_toArray, List.set_cons_zero, List.set_cons_succ, i64_w, i32_w]
    rfl
  refine pure_ (i := 1) (N := some 20) (v := ?_) (a' := ?_) #[true, true, false, false, false, false, false, false, false, false, false, false, false, false, false, false, false, false, false, false, false, false] rfl rfl (by kernel_rfl) (fun _ _ _ h => h) (Or.inl ⟨by rfl, ?_⟩) ?_ ?_
  rotate_left
  · intro w'
    go_simp
    with_reducible rfl
  rotate_left
  · simp only [Act.put, List.setIfInBounds_toArray, List.set_cons_zero, List.set_cons_succ, i64_w, i32_w]
    rfl
  refine pure_ (i := 4) (N := some 23) (v := ?_) (a' := ?_) #[true, true, false, false, true, false, false, false, false, false, false, false, false, false, false, false, false, false, false, false, false, false] rfl rfl (by kernel_rfl) (fun _ _ _ h => h) (Or.inl ⟨by rfl, ?_⟩) ?_ ?_
  rotate_left
  · intro w'
    go_simp
    with_reducible rfl
  rotate_left
  · simp only [Act.put, List.setIfInBounds_toArray, List.set_cons_zero, List.set_cons_succ, i64_w, i32_w]
    rfl
  refine pure_ (i := 5) (N := some 24) (v := ?_) (a' := ?_) #[true, true, false, false, true, true, false, false, false, false, false, false, false, false, false, false, false, false, false, false, false, false] rfl rfl (by kernel_rfl) (fun _ _ _ h => h) (Or.inl ⟨by rfl, ?_⟩) ?_ ?_
  rotate_left
  · intro w'
    go_simp
    with_reducible rfl
  rotate_left
  · simp only [Act.put, List.setIfInBounds_toArray, List.set_cons_zero, List.set_cons_succ, i64_w, i32_w]
    rfl
  refine pure_ (i := 7) (N := some 26) (v := ?_) (a' := ?_) #[true, true, false, false, true, true, false, true, false, false, false, false, false, false, false, false, false, false, false, false, false, false] rfl rfl (by kernel_rfl) (fun _ _ _ h => h) (Or.inl ⟨by rfl, ?_⟩) ?_ ?_
  rotate_left
  · intro w'
    go_simp
    with_reducible rfl
  rotate_left
  · simp only [Act.put, List.setIfInBounds_toArray, List.set_cons_zero, List.set_cons_succ, i64_w, i32_w]
    rfl
  refine pure_ (i := 8) (N := some 27) (v := ?_) (a' := ?_) #[true, true, false, false, true, true, false, true, true, false, false, false, false, false, false, false, false, false, false, false, false, false] rfl rfl (by kernel_rfl) (fun _ _ _ h => h) (Or.inl ⟨by rfl, ?_⟩) ?_ ?_
  rotate_left
  · intro w'
    go_simp
    with_reducible rfl
  rotate_left
  · simp only [Act.put, List.setIfInBounds_toArray, List.set_cons_zero, List.set_cons_succ, i64_w, i32_w]
    rfl
  refine pure_ (i := 11) (N := some 30) (v := ?_) (a' := ?_) #[true, true, false, false, true, true, false, true, true, false, false, true, false, false, false, false, false, false, false, false, false, false] rfl rfl (by kernel_rfl) (fun _ _ _ h => h) (Or.inl ⟨by rfl, ?_⟩) ?_ ?_
  rotate_left
  · intro w'
    go_simp
    with_reducible rfl
  rotate_left
  · simp only [Act.put, List.setIfInBounds_toArray, List.set_cons_zero, List.set_cons_succ, i64_w, i32_w]
    rfl
  refine pure_ (i := 12) (N := some 31) (v := ?_) (a' := ?_) #[true, true, false, false, true, true, false, true, true, false, false, true, true, false, false, false, false, false, false, false, false, false] rfl rfl (by kernel_rfl) (fun _ _ _ h => h) (Or.inl ⟨by rfl, ?_⟩) ?_ ?_
  rotate_left
  · intro w'
    go_simp
    with_reducible rfl
  rotate_left
  · simp only [Act.put, List.setIfInBounds_toArray, List.set_cons_zero, List.set_cons_succ, i64_w, i32_w]
    rfl
  refine pure_ (i := 15) (N := some 34) (v := ?_) (a' := ?_) #[true, true, false, false, true, true, false, true, true, false, false, true, true, false, false, true, false, false, false, false, false, false] rfl rfl (by kernel_rfl) (fun _ _ _ h => h) (Or.inl ⟨by rfl, ?_⟩) ?_ ?_
  rotate_left
  · intro w'
    go_simp
    with_reducible rfl
  rotate_left
  · simp only [Act.put, List.setIfInBounds_toArray, List.set_cons_zero, List.set_cons_succ, i64_w, i32_w]
    rfl
  refine pure_ (i := 16) (N := some 35) (v := ?_) (a' := ?_) #[true, true, false, false, true, true, false, true, true, false, false, true, true, false, false, true, true, false, false, false, false, false] rfl rfl (by kernel_rfl) (fun _ _ _ h => h) (Or.inl ⟨by rfl, ?_⟩) ?_ ?_
  rotate_left
  · intro w'
    go_simp
    with_reducible rfl
  rotate_left
  · simp only [Act.put, List.setIfInBounds_toArray, List.set_cons_zero, List.set_cons_succ, i64_w, i32_w]
    rfl
  refine take_ (i := 2) (N := some 21) (v := ?_) (a' := ?_) #[true, true, true, false, true, true, false, true, true, false, false, true, true, false, false, true, true, false, false, false, false, false] rfl rfl (by kernel_rfl) (fun _ _ _ h => h) (Or.inl ⟨by rfl, ?_⟩) hHeld ?_ ?_
  rotate_left
  · intro w' s0
    go_simp
    with_reducible rfl
  rotate_left
  · simp only [Act.put, List.setIfInBounds_toArray, List.set_cons_zero, List.set_cons_succ, i64_w, i32_w]
    rfl
  refine pure_ (i := 3) (N := some 22) (v := ?_) (a' := ?_) #[true, true, true, true, true, true, false, true, true, false, false, true, true, false, false, true, true, false, false, false, false, false] rfl rfl (by kernel_rfl) (fun _ _ _ h => h) (Or.inl ⟨by rfl, ?_⟩) ?_ ?_
  rotate_left
  · intro w'
    go_simp
    with_reducible rfl
  rotate_left
  · simp only [Act.put, List.setIfInBounds_toArray, List.set_cons_zero, List.set_cons_succ, i64_w, i32_w]
    rfl
  refine join_ (σ := Nat) 1 #[true, true, true, true, true, true, true, true, true, true, true, true, true, true, true, true, true, true, true, true, true, false] (fun s => [(25, .int .u64 v1), (28, .int .u64 v2), (29, .int .i64 (wrap64 v2)), (32, .int .u64 v3), (33, .int .i64 (wrap64 v3)), (36, .int .u64 v4), (37, .int .u32 (IntKind.u32.wrap v4)), (38, .agg #[.int .i64 (wrap64 b0), .int .u64 v1, .int .i64 (wrap64 v2), .int .i64 (wrap64 v3), .int .u32 (IntKind.u32.wrap v4), .slice none 0 0, .slice none 0 0]), (4, .pointer (some ⟨s, 0, none⟩))]) (fun s w' => w'.heap[w.heap.size]? = some (.cells #[.int .i64 0, .int .u64 0, .int .i64 0, .int .i64 0, .int .u32 0, .slice none 0 0, .slice none 0 0] 56 (0, 0)) ∧ w'.heap[s]? = some (.cells #[.int .i64 0, .int .u64 0, .int .i64 0, .int .i64 0, .int .u32 0, .slice none 0 0, .slice none 0 0] 56 (0, 0)) ∧ Below w.heap.size w w' ∧ w.heap.size < s) ?_ ?_
  rotate_left
  · intro hCont
    refine two_ (i := 6) (j := 20) (Ni := some 25) (Nj := some 4) #[true, true, true, true, true, true, true, true, true, false, false, true, true, false, false, true, true, false, false, false, false, false] #[true, true, true, true, true, true, false, true, true, false, false, true, true, false, false, true, true, false, false, false, true, false] rfl rfl rfl rfl (by kernel_rfl) (by decide) (by decide) (fun K hK => ?_) (fun K hK => ?_)
    · skip
      refine goes_ Try.func129 (by kernel_rfl) rfl #[.slice A1 (mid l0 1 9).length (c0 - 1)] (by rfl) rfl rfl (by first | (simp only [List.map_toArray, List.map_cons, List.map_nil]; done) | (simp only [List.map_toArray, List.map_cons, List.map_nil]; rfl)) ?_
      with_reducible refine (HG1.out _ (Kd.C_below HC1.out HB.out)).mono ?_
      rintro e wc1 ⟨rfl, hb⟩
      refine ⟨_, rfl, ?_⟩
      have n0_ := Aside0.mk (blk_below HK.out hb)
      have n1_ := Aside0.mk (below_step HB.out hb)
      clear HK HB hb
      have HK := n0_
      have HB := n1_
      clear n0_ n1_
      refine hK.out _ _ (((HB.out.cell (World.block_lt_of_cell? _ _ H0.out)).trans H0.out)) (fun hHeld => ?_)
      clear hK K
      refine norm_ (a' := ?_) ?_ ?_
      rotate_left
      · show Act.put _ (some 25) _ = _
        simp only [Act.put, List.setIfInBounds_toArray, List.set_cons_zero, List.set_cons_succ, i64_w, i32_w]
        rfl
      refine two_ (i := 9) (j := 20) (Ni := some 28) (Nj := some 4) #[true, true, true, true, true, true, true, true, true, true, false, true, true, false, false, true, true, false, false, false, false, false] #[true, true, true, true, true, true, true, true, true, false, false, true, true, false, false, true, true, false, false, false, true, false] rfl rfl rfl rfl (by kernel_rfl) (by decide) (by decide) (fun K hK => ?_) (fun K hK => ?_)
      · skip
        refine goes_ Try.func129 (by kernel_rfl) rfl #[.slice A2 (mid l0 9 11).length (c0 - 9)] (by rfl) rfl rfl (by first | (simp only [List.map_toArray, List.map_cons, List.map_nil]; done) | (simp only [List.map_toArray, List.map_cons, List.map_nil]; rfl)) ?_
        with_reducible refine (HG2.out _ (Kd.C_below HC2.out HB.out)).mono ?_
        rintro e wc2 ⟨rfl, hb⟩
        refine ⟨_, rfl, ?_⟩
        have n0_ := Aside0.mk (blk_below HK.out hb)
        have n1_ := Aside0.mk (below_step HB.out hb)
        clear HK HB hb
        have HK := n0_
        have HB := n1_
        clear n0_ n1_
        refine hK.out _ _ (((HB.out.cell (World.block_lt_of_cell? _ _ H0.out)).trans H0.out)) (fun hHeld => ?_)
        clear hK K
        refine norm_ (a' := ?_) ?_ ?_
        rotate_left
        · show Act.put _ (some 28) _ = _
          simp only [Act.put, List.setIfInBounds_toArray, List.set_cons_zero, List.set_cons_succ, i64_w, i32_w]
          rfl
        refine pure_ (i := 10) (N := some 29) (v := ?_) (a' := ?_) #[true, true, true, true, true, true, true, true, true, true, true, true, true, false, false, true, true, false, false, false, false, false] rfl rfl (by kernel_rfl) (fun _ _ _ h => h) (Or.inl ⟨by rfl, ?_⟩) ?_ ?_
        rotate_left
        · intro w'
          go_simp
          with_reducible rfl
        rotate_left
        · simp only [Act.put, List.setIfInBounds_toArray, List.set_cons_zero, List.set_cons_succ, i64_w, i32_w]
          rfl
        refine two_ (i := 13) (j := 20) (Ni := some 32) (Nj := some 4) #[true, true, true, true, true, true, true, true, true, true, true, true, true, true, false, true, true, false, false, false, false, false] #[true, true, true, true, true, true, true, true, true, true, true, true, true, false, false, true, true, false, false, false, true, false] rfl rfl rfl rfl (by kernel_rfl) (by decide) (by decide) (fun K hK => ?_) (fun K hK => ?_)
        · skip
          refine goes_ Try.func129 (by kernel_rfl) rfl #[.slice A3 (mid l0 11 13).length (c0 - 11)] (by rfl) rfl rfl (by first | (simp only [List.map_toArray, List.map_cons, List.map_nil]; done) | (simp only [List.map_toArray, List.map_cons, List.map_nil]; rfl)) ?_
          with_reducible refine (HG3.out _ (Kd.C_below HC3.out HB.out)).mono ?_
          rintro e wc3 ⟨rfl, hb⟩
          refine ⟨_, rfl, ?_⟩
          have n0_ := Aside0.mk (blk_below HK.out hb)
          have n1_ := Aside0.mk (below_step HB.out hb)
          clear HK HB hb
          have HK := n0_
          have HB := n1_
          clear n0_ n1_
          refine hK.out _ _ (((HB.out.cell (World.block_lt_of_cell? _ _ H0.out)).trans H0.out)) (fun hHeld => ?_)
          clear hK K
          refine norm_ (a' := ?_) ?_ ?_
          rotate_left
          · show Act.put _ (some 32) _ = _
            simp only [Act.put, List.setIfInBounds_toArray, List.set_cons_zero, List.set_cons_succ, i64_w, i32_w]
            rfl
          refine pure_ (i := 14) (N := some 33) (v := ?_) (a' := ?_) #[true, true, true, true, true, true, true, true, true, true, true, true, true, true, true, true, true, false, false, false, false, false] rfl rfl (by kernel_rfl) (fun _ _ _ h => h) (Or.inl ⟨by rfl, ?_⟩) ?_ ?_
          rotate_left
          · intro w'
            go_simp
            with_reducible rfl
          rotate_left
          · simp only [Act.put, List.setIfInBounds_toArray, List.set_cons_zero, List.set_cons_succ, i64_w, i32_w]
            rfl
          refine two_ (i := 17) (j := 20) (Ni := some 36) (Nj := some 4) #[true, true, true, true, true, true, true, true, true, true, true, true, true, true, true, true, true, true, false, false, false, false] #[true, true, true, true, true, true, true, true, true, true, true, true, true, true, true, true, true, false, false, false, true, false] rfl rfl rfl rfl (by kernel_rfl) (by decide) (by decide) (fun K hK => ?_) (fun K hK => ?_)
          · skip
            refine goes_ Try.func129 (by kernel_rfl) rfl #[.slice A4 (mid l0 13 17).length (c0 - 13)] (by rfl) rfl rfl (by first | (simp only [List.map_toArray, List.map_cons, List.map_nil]; done) | (simp only [List.map_toArray, List.map_cons, List.map_nil]; rfl)) ?_
            with_reducible refine (HG4.out _ (Kd.C_below HC4.out HB.out)).mono ?_
            rintro e wc4 ⟨rfl, hb⟩
            refine ⟨_, rfl, ?_⟩
            have n0_ := Aside0.mk (blk_below HK.out hb)
            have n1_ := Aside0.mk (below_step HB.out hb)
            clear HK HB hb
            have HK := n0_
            have HB := n1_
            clear n0_ n1_
            refine hK.out _ _ (((HB.out.cell (World.block_lt_of_cell? _ _ H0.out)).trans H0.out)) (fun hHeld => ?_)
            clear hK K
            refine norm_ (a' := ?_) ?_ ?_
            rotate_left
            · show Act.put _ (some 36) _ = _
              simp only [Act.put, List.setIfInBounds_toArray, List.set_cons_zero, List.set_cons_succ, i64_w, i32_w]
              rfl
            refine pure_ (i := 18) (N := some 37) (v := ?_) (a' := ?_) #[true, true, true, true, true, true, true, true, true, true, true, true, true, true, true, true, true, true, true, false, false, false] rfl rfl (by kernel_rfl) (fun _ _ _ h => h) (Or.inl ⟨by rfl, ?_⟩) ?_ ?_
            rotate_left
            · intro w'
              go_simp
              with_reducible rfl
            rotate_left
            · simp only [Act.put, List.setIfInBounds_toArray, List.set_cons_zero, List.set_cons_succ, i64_w, i32_w]
              rfl
            refine pure_ (i := 19) (N := some 38) (v := ?_) (a' := ?_) #[true, true, true, true, true, true, true, true, true, true, true, true, true, true, true, true, true, true, true, true, false, false] rfl rfl (by kernel_rfl) (fun _ _ _ h => h) (Or.inl ⟨by rfl, ?_⟩) ?_ ?_
            rotate_left
            · intro w'
              go_simp
              with_reducible rfl
            rotate_left
            · simp only [Act.put, List.setIfInBounds_toArray, List.set_cons_zero, List.set_cons_succ, i64_w, i32_w]
              rfl
            refine one_ (i := 20) (N := some 4) #[true, true, true, true, true, true, true, true, true, true, true, true, true, true, true, true, true, true, true, true, true, false] rfl rfl (by kernel_rfl) (by decide) (fun K hK => ?_)
            have HL := Aside0.mk (blk_lt HK.out)
            refine value_ (w1 := ?_) (v := ?_) (by rfl) rfl ?_ ?_
            rotate_left 2
            · go_simp
              constructor
              · rfl
              · rfl
            have HT := Aside0.mk (blk_new _ (.cells #[.int .i64 0, .int .u64 0, .int .i64 0, .int .i64 0, .int .u32 0, .slice none 0 0, .slice none 0 0] 56) : (wc4.alloc (.cells #[.int .i64 0, .int .u64 0, .int .i64 0, .int .i64 0, .int .u32 0, .slice none 0 0, .slice none 0 0] 56)).heap[wc4.heap.size]? = _)
            have n0_ := Aside0.mk (blk_alloc HK.out (.cells #[.int .i64 0, .int .u64 0, .int .i64 0, .int .i64 0, .int .u32 0, .slice none 0 0, .slice none 0 0] 56))
            have n1_ := Aside0.mk (below_alloc HB.out (.cells #[.int .i64 0, .int .u64 0, .int .i64 0, .int .i64 0, .int .u32 0, .slice none 0 0, .slice none 0 0] 56))
            clear HK HB
            have HK := n0_
            have HB := n1_
            clear n0_ n1_
            refine hK.out _ _ (((HB.out.cell (World.block_lt_of_cell? _ _ H0.out)).trans H0.out)) (fun hHeld => ?_)
            clear hK K
            refine norm_ (a' := ?_) ?_ ?_
            rotate_left
            · show Act.put _ (some 4) _ = _
              simp only [Act.put, List.setIfInBounds_toArray, List.set_cons_zero, List.set_cons_succ, i64_w, i32_w]
              rfl
            exact norm_ (by simp only [putAll, Act.put, List.setIfInBounds_toArray, List.set_cons_zero, List.set_cons_succ]) (hCont wc4.heap.size _ ⟨HK.out, HT.out, HB.out, HL.out⟩)
          · skip
            have HL := Aside0.mk (blk_lt HK.out)
            refine value_ (w1 := ?_) (v := ?_) (by rfl) rfl ?_ ?_
            rotate_left 2
            · go_simp
              constructor
              · rfl
              · rfl
            have HT := Aside0.mk (blk_new _ (.cells #[.int .i64 0, .int .u64 0, .int .i64 0, .int .i64 0, .int .u32 0, .slice none 0 0, .slice none 0 0] 56) : (wc3.alloc (.cells #[.int .i64 0, .int .u64 0, .int .i64 0, .int .i64 0, .int .u32 0, .slice none 0 0, .slice none 0 0] 56)).heap[wc3.heap.size]? = _)
            have n0_ := Aside0.mk (blk_alloc HK.out (.cells #[.int .i64 0, .int .u64 0, .int .i64 0, .int .i64 0, .int .u32 0, .slice none 0 0, .slice none 0 0] 56))
            have n1_ := Aside0.mk (below_alloc HB.out (.cells #[.int .i64 0, .int .u64 0, .int .i64 0, .int .i64 0, .int .u32 0, .slice none 0 0, .slice none 0 0] 56))
            clear HK HB
            have HK := n0_
            have HB := n1_
            clear n0_ n1_
            refine hK.out _ _ (((HB.out.cell (World.block_lt_of_cell? _ _ H0.out)).trans H0.out)) (fun hHeld => ?_)
            clear hK K
            refine norm_ (a' := ?_) ?_ ?_
            rotate_left
            · show Act.put _ (some 4) _ = _
              simp only [Act.put, List.setIfInBounds_toArray, List.set_cons_zero, List.set_cons_succ, i64_w, i32_w]
              rfl
            refine one_ (i := 17) (N := some 36) #[true, true, true, true, true, true, true, true, true, true, true, true, true, true, true, true, true, true, false, false, true, false] rfl rfl (by kernel_rfl) (by decide) (fun K hK => ?_)
            refine goes_ Try.func129 (by kernel_rfl) rfl #[.slice A4 (mid l0 13 17).length (c0 - 13)] (by rfl) rfl rfl (by first | (simp only [List.map_toArray, List.map_cons, List.map_nil]; done) | (simp only [List.map_toArray, List.map_cons, List.map_nil]; rfl)) ?_
            with_reducible refine (HG4.out _ (Kd.C_below HC4.out HB.out)).mono ?_
            rintro e wc4 ⟨rfl, hb⟩
            refine ⟨_, rfl, ?_⟩
            have n0_ := Aside0.mk (blk_below HK.out hb)
            have n1_ := Aside0.mk (below_step HB.out hb)
            have n2_ := Aside0.mk (blk_below HT.out hb)
            clear HK HB HT hb
            have HK := n0_
            have HB := n1_
            have HT := n2_
            clear n2_
            clear n0_ n1_
            refine hK.out _ _ (((HB.out.cell (World.block_lt_of_cell? _ _ H0.out)).trans H0.out)) (fun hHeld => ?_)
            clear hK K
            refine norm_ (a' := ?_) ?_ ?_
            rotate_left
            · show Act.put _ (some 36) _ = _
              simp only [Act.put, List.setIfInBounds_toArray, List.set_cons_zero, List.set_cons_succ, i64_w, i32_w]
              rfl
            refine pure_ (i := 18) (N := some 37) (v := ?_) (a' := ?_) #[true, true, true, true, true, true, true, true, true, true, true, true, true, true, true, true, true, true, true, false, true, false] rfl rfl (by kernel_rfl) (fun _ _ _ h => h) (Or.inl ⟨by rfl, ?_⟩) ?_ ?_
            rotate_left
            · intro w'
              go_simp
              with_reducible rfl
            rotate_left
            · simp only [Act.put, List.setIfInBounds_toArray, List.set_cons_zero, List.set_cons_succ, i64_w, i32_w]
              rfl
            refine pure_ (i := 19) (N := some 38) (v := ?_) (a' := ?_) #[true, true, true, true, true, true, true, true, true, true, true, true, true, true, true, true, true, true, true, true, true, false] rfl rfl (by kernel_rfl) (fun _ _ _ h => h) (Or.inl ⟨by rfl, ?_⟩) ?_ ?_
            rotate_left
            · intro w'
              go_simp
              with_reducible rfl
            rotate_left
            · simp only [Act.put, List.setIfInBounds_toArray, List.set_cons_zero, List.set_cons_succ, i64_w, i32_w]
              rfl
            exact norm_ (by simp only [putAll, Act.put, List.setIfInBounds_toArray, List.set_cons_zero, List.set_cons_succ]) (hCont wc3.heap.size _ ⟨HK.out, HT.out, HB.out, HL.out⟩)
        · skip
          have HL := Aside0.mk (blk_lt HK.out)
          refine value_ (w1 := ?_) (v := ?_) (by rfl) rfl ?_ ?_
          rotate_left 2
          · go_simp
            constructor
            · rfl
            · rfl
          have HT := Aside0.mk (blk_new _ (.cells #[.int .i64 0, .int .u64 0, .int .i64 0, .int .i64 0, .int .u32 0, .slice none 0 0, .slice none 0 0] 56) : (wc2.alloc (.cells #[.int .i64 0, .int .u64 0, .int .i64 0, .int .i64 0, .int .u32 0, .slice none 0 0, .slice none 0 0] 56)).heap[wc2.heap.size]? = _)
          have n0_ := Aside0.mk (blk_alloc HK.out (.cells #[.int .i64 0, .int .u64 0, .int .i64 0, .int .i64 0, .int .u32 0, .slice none 0 0, .slice none 0 0] 56))
          have n1_ := Aside0.mk (below_alloc HB.out (.cells #[.int .i64 0, .int .u64 0, .int .i64 0, .int .i64 0, .int .u32 0, .slice none 0 0, .slice none 0 0] 56))
          clear HK HB
          have HK := n0_
          have HB := n1_
          clear n0_ n1_
          refine hK.out _ _ (((HB.out.cell (World.block_lt_of_cell? _ _ H0.out)).trans H0.out)) (fun hHeld => ?_)
          clear hK K
          refine norm_ (a' := ?_) ?_ ?_
          rotate_left
          · show Act.put _ (some 4) _ = _
            simp only [Act.put, List.setIfInBounds_toArray, List.set_cons_zero, List.set_cons_succ, i64_w, i32_w]
            rfl
          refine one_ (i := 13) (N := some 32) #[true, true, true, true, true, true, true, true, true, true, true, true, true, true, false, true, true, false, false, false, true, false] rfl rfl (by kernel_rfl) (by decide) (fun K hK => ?_)
          refine goes_ Try.func129 (by kernel_rfl) rfl #[.slice A3 (mid l0 11 13).length (c0 - 11)] (by rfl) rfl rfl (by first | (simp only [List.map_toArray, List.map_cons, List.map_nil]; done) | (simp only [List.map_toArray, List.map_cons, List.map_nil]; rfl)) ?_
          with_reducible refine (HG3.out _ (Kd.C_below HC3.out HB.out)).mono ?_
          rintro e wc3 ⟨rfl, hb⟩
          refine ⟨_, rfl, ?_⟩
          have n0_ := Aside0.mk (blk_below HK.out hb)
          have n1_ := Aside0.mk (below_step HB.out hb)
          have n2_ := Aside0.mk (blk_below HT.out hb)
          clear HK HB HT hb
          have HK := n0_
          have HB := n1_
          have HT := n2_
          clear n2_
          clear n0_ n1_
          refine hK.out _ _ (((HB.out.cell (World.block_lt_of_cell? _ _ H0.out)).trans H0.out)) (fun hHeld => ?_)
          clear hK K
          refine norm_ (a' := ?_) ?_ ?_
          rotate_left
          · show Act.put _ (some 32) _ = _
            simp only [Act.put, List.setIfInBounds_toArray, List.set_cons_zero, List.set_cons_succ, i64_w, i32_w]
            rfl
          refine pure_ (i := 14) (N := some 33) (v := ?_) (a' := ?_) #[true, true, true, true, true, true, true, true, true, true, true, true, true, true, true, true, true, false, false, false, true, false] rfl rfl (by kernel_rfl) (fun _ _ _ h => h) (Or.inl ⟨by rfl, ?_⟩) ?_ ?_
          rotate_left
          · intro w'
            go_simp
            with_reducible rfl
          rotate_left
          · simp only [Act.put, List.setIfInBounds_toArray, List.set_cons_zero, List.set_cons_succ, i64_w, i32_w]
            rfl
          refine one_ (i := 17) (N := some 36) #[true, true, true, true, true, true, true, true, true, true, true, true, true, true, true, true, true, true, false, false, true, false] rfl rfl (by kernel_rfl) (by decide) (fun K hK => ?_)
          refine goes_ Try.func129 (by kernel_rfl) rfl #[.slice A4 (mid l0 13 17).length (c0 - 13)] (by rfl) rfl rfl (by first | (simp only [List.map_toArray, List.map_cons, List.map_nil]; done) | (simp only [List.map_toArray, List.map_cons, List.map_nil]; rfl)) ?_
          with_reducible refine (HG4.out _ (Kd.C_below HC4.out HB.out)).mono ?_
          rintro e wc4 ⟨rfl, hb⟩
          refine ⟨_, rfl, ?_⟩
          have n0_ := Aside0.mk (blk_below HK.out hb)
          have n1_ := Aside0.mk (below_step HB.out hb)
          have n2_ := Aside0.mk (blk_below HT.out hb)
          clear HK HB HT hb
          have HK := n0_
          have HB := n1_
          have HT := n2_
          clear n2_
          clear n0_ n1_
          refine hK.out _ _ (((HB.out.cell (World.block_lt_of_cell? _ _ H0.out)).trans H0.out)) (fun hHeld => ?_)
          clear hK K
          refine norm_ (a' := ?_) ?_ ?_
          rotate_left
          · show Act.put _ (some 36) _ = _
            simp only [Act.put, List.setIfInBounds_toArray, List.set_cons_zero, List.set_cons_succ, i64_w, i32_w]
            rfl
          refine pure_ (i := 18) (N := some 37) (v := ?_) (a' := ?_) #[true, true, true, true, true, true, true, true, true, true, true, true, true, true, true, true, true, true, true, false, true, false] rfl rfl (by kernel_rfl) (fun _ _ _ h => h) (Or.inl ⟨by rfl, ?_⟩) ?_ ?_
          rotate_left
          · intro w'
            go_simp
            with_reducible rfl
          rotate_left
          · simp only [Act.put, List.setIfInBounds_toArray, List.set_cons_zero, List.set_cons_succ, i64_w, i32_w]
            rfl
          refine pure_ (i := 19) (N := some 38) (v := ?_) (a' := ?_) #[true, true, true, true, true, true, true, true, true, true, true, true, true, true, true, true, true, true, true, true, true, false] rfl rfl (by kernel_rfl) (fun _ _ _ h => h) (Or.inl ⟨by rfl, ?_⟩) ?_ ?_
          rotate_left
          · intro w'
            go_simp
            with_reducible rfl
          rotate_left
          · simp only [Act.put, List.setIfInBounds_toArray, List.set_cons_zero, List.set_cons_succ, i64_w, i32_w]
            rfl
          exact norm_ (by simp only [putAll, Act.put, List.setIfInBounds_toArray, List.set_cons_zero, List.set_cons_succ]) (hCont wc2.heap.size _ ⟨HK.out, HT.out, HB.out, HL.out⟩)
      · skip
        have HL := Aside0.mk (blk_lt HK.out)
        refine value_ (w1 := ?_) (v := ?_) (by rfl) rfl ?_ ?_
        rotate_left 2
        · go_simp
          constructor
          · rfl
          · rfl
        have HT := Aside0.mk (blk_new _ (.cells #[.int .i64 0, .int .u64 0, .int .i64 0, .int .i64 0, .int .u32 0, .slice none 0 0, .slice none 0 0] 56) : (wc1.alloc (.cells #[.int .i64 0, .int .u64 0, .int .i64 0, .int .i64 0, .int .u32 0, .slice none 0 0, .slice none 0 0] 56)).heap[wc1.heap.size]? = _)
        have n0_ := Aside0.mk (blk_alloc HK.out (.cells #[.int .i64 0, .int .u64 0, .int .i64 0, .int .i64 0, .int .u32 0, .slice none 0 0, .slice none 0 0] 56))
        have n1_ := Aside0.mk (below_alloc HB.out (.cells #[.int .i64 0, .int .u64 0, .int .i64 0, .int .i64 0, .int .u32 0, .slice none 0 0, .slice none 0 0] 56))
        clear HK HB
        have HK := n0_
        have HB := n1_
        clear n0_ n1_
        refine hK.out _ _ (((HB.out.cell (World.block_lt_of_cell? _ _ H0.out)).trans H0.out)) (fun hHeld => ?_)
        clear hK K
        refine norm_ (a' := ?_) ?_ ?_
        rotate_left
        · show Act.put _ (some 4) _ = _
          simp only [Act.put, List.setIfInBounds_toArray, List.set_cons_zero, List.set_cons_succ, i64_w, i32_w]
          rfl
        refine one_ (i := 9) (N := some 28) #[true, true, true, true, true, true, true, true, true, true, false, true, true, false, false, true, true, false, false, false, true, false] rfl rfl (by kernel_rfl) (by decide) (fun K hK => ?_)
        refine goes_ Try.func129 (by kernel_rfl) rfl #[.slice A2 (mid l0 9 11).length (c0 - 9)] (by rfl) rfl rfl (by first | (simp only [List.map_toArray, List.map_cons, List.map_nil]; done) | (simp only [List.map_toArray, List.map_cons, List.map_nil]; rfl)) ?_
        with_reducible refine (HG2.out _ (Kd.C_below HC2.out HB.out)).mono ?_
        rintro e wc2 ⟨rfl, hb⟩
        refine ⟨_, rfl, ?_⟩
        have n0_ := Aside0.mk (blk_below HK.out hb)
        have n1_ := Aside0.mk (below_step HB.out hb)
        have n2_ := Aside0.mk (blk_below HT.out hb)
        clear HK HB HT hb
        have HK := n0_
        have HB := n1_
        have HT := n2_
        clear n2_
        clear n0_ n1_
        refine hK.out _ _ (((HB.out.cell (World.block_lt_of_cell? _ _ H0.out)).trans H0.out)) (fun hHeld => ?_)
        clear hK K
        refine norm_ (a' := ?_) ?_ ?_
        rotate_left
        · show Act.put _ (some 28) _ = _
          simp only [Act.put, List.setIfInBounds_toArray, List.set_cons_zero, List.set_cons_succ, i64_w, i32_w]
          rfl
        refine pure_ (i := 10) (N := some 29) (v := ?_) (a' := ?_) #[true, true, true, true, true, true, true, true, true, true, true, true, true, false, false, true, true, false, false, false, true, false] rfl rfl (by kernel_rfl) (fun _ _ _ h => h) (Or.inl ⟨by rfl, ?_⟩) ?_ ?_
        rotate_left
        · intro w'
          go_simp
          with_reducible rfl
        rotate_left
        · simp only [Act.put, List.setIfInBounds_toArray, List.set_cons_zero, List.set_cons_succ, i64_w, i32_w]
          rfl
        refine one_ (i := 13) (N := some 32) #[true, true, true, true, true, true, true, true, true, true, true, true, true, true, false, true, true, false, false, false, true, false] rfl rfl (by kernel_rfl) (by decide) (fun K hK => ?_)
        refine goes_ Try.func129 (by kernel_rfl) rfl #[.slice A3 (mid l0 11 13).length (c0 - 11)] (by rfl) rfl rfl (by first | (simp only [List.map_toArray, List.map_cons, List.map_nil]; done) | (simp only [List.map_toArray, List.map_cons, List.map_nil]; rfl)) ?_
        with_reducible refine (HG3.out _ (Kd.C_below HC3.out HB.out)).mono ?_
        rintro e wc3 ⟨rfl, hb⟩
        refine ⟨_, rfl, ?_⟩
        have n0_ := Aside0.mk (blk_below HK.out hb)
        have n1_ := Aside0.mk (below_step HB.out hb)
        have n2_ := Aside0.mk (blk_below HT.out hb)
        clear HK HB HT hb
        have HK := n0_
        have HB := n1_
        have HT := n2_
        clear n2_
        clear n0_ n1_
        refine hK.out _ _ (((HB.out.cell (World.block_lt_of_cell? _ _ H0.out)).trans H0.out)) (fun hHeld => ?_)
        clear hK K
        refine norm_ (a' := ?_) ?_ ?_
        rotate_left
        · show Act.put _ (some 32) _ = _
          simp only [Act.put, List.setIfInBounds_toArray, List.set_cons_zero, List.set_cons_succ, i64_w, i32_w]
          rfl
        refine pure_ (i := 14) (N := some 33) (v := ?_) (a' := ?_) #[true, true, true, true, true, true, true, true, true, true, true, true, true, true, true, true, true, false, false, false, true, false] rfl rfl (by kernel_rfl) (fun _ _ _ h => h) (Or.inl ⟨by rfl, ?_⟩) ?_ ?_
        rotate_left
        · intro w'
          go_simp
          with_reducible rfl
        rotate_left
        · simp only [Act.put, List.setIfInBounds_toArray, List.set_cons_zero, List.set_cons_succ, i64_w, i32_w]
          rfl
        refine one_ (i := 17) (N := some 36) #[true, true, true, true, true, true, true, true, true, true, true, true, true, true, true, true, true, true, false, false, true, false] rfl rfl (by kernel_rfl) (by decide) (fun K hK => ?_)
        refine goes_ Try.func129 (by kernel_rfl) rfl #[.slice A4 (mid l0 13 17).length (c0 - 13)] (by rfl) rfl rfl (by first | (simp only [List.map_toArray, List.map_cons, List.map_nil]; done) | (simp only [List.map_toArray, List.map_cons, List.map_nil]; rfl)) ?_
        with_reducible refine (HG4.out _ (Kd.C_below HC4.out HB.out)).mono ?_
        rintro e wc4 ⟨rfl, hb⟩
        refine ⟨_, rfl, ?_⟩
        have n0_ := Aside0.mk (blk_below HK.out hb)
        have n1_ := Aside0.mk (below_step HB.out hb)
        have n2_ := Aside0.mk (blk_below HT.out hb)
        clear HK HB HT hb
        have HK := n0_
        have HB := n1_
        have HT := n2_
        clear n2_
        clear n0_ n1_
        refine hK.out _ _ (((HB.out.cell (World.block_lt_of_cell? _ _ H0.out)).trans H0.out)) (fun hHeld => ?_)
        clear hK K
        refine norm_ (a' := ?_) ?_ ?_
        rotate_left
        · show Act.put _ (some 36) _ = _
          simp only [Act.put, List.setIfInBounds_toArray, List.set_cons_zero, List.set_cons_succ, i64_w, i32_w]
          rfl
        refine pure_ (i := 18) (N := some 37) (v := ?_) (a' := ?_) #[true, true, true, true, true, true, true, true, true, true, true, true, true, true, true, true, true, true, true, false, true, false] rfl rfl (by kernel_rfl) (fun _ _ _ h => h) (Or.inl ⟨by rfl, ?_⟩) ?_ ?_
        rotate_left
        · intro w'
          go_simp
          with_reducible rfl
        rotate_left
        · simp only [Act.put, List.setIfInBounds_toArray, List.set_cons_zero, List.set_cons_succ, i64_w, i32_w]
          rfl
        refine pure_ (i := 19) (N := some 38) (v := ?_) (a' := ?_) #[true, true, true, true, true, true, true, true, true, true, true, true, true, true, true, true, true, true, true, true, true, false] rfl rfl (by kernel_rfl) (fun _ _ _ h => h) (Or.inl ⟨by rfl, ?_⟩) ?_ ?_
        rotate_left
        · intro w'
          go_simp
          with_reducible rfl
        rotate_left
        · simp only [Act.put, List.setIfInBounds_toArray, List.set_cons_zero, List.set_cons_succ, i64_w, i32_w]
          rfl
        exact norm_ (by simp only [putAll, Act.put, List.setIfInBounds_toArray, List.set_cons_zero, List.set_cons_succ]) (hCont wc1.heap.size _ ⟨HK.out, HT.out, HB.out, HL.out⟩)
    · skip
      have HL := Aside0.mk (blk_lt HK.out)
      refine value_ (w1 := ?_) (v := ?_) (by rfl) rfl ?_ ?_
      rotate_left 2
      · go_simp
        constructor
        · rfl
        · rfl
      have HT := Aside0.mk (blk_new _ (.cells #[.int .i64 0, .int .u64 0, .int .i64 0, .int .i64 0, .int .u32 0, .slice none 0 0, .slice none 0 0] 56) : (W1.alloc (.cells #[.int .i64 0, .int .u64 0, .int .i64 0, .int .i64 0, .int .u32 0, .slice none 0 0, .slice none 0 0] 56)).heap[W1.heap.size]? = _)
      have n0_ := Aside0.mk (blk_alloc HK.out (.cells #[.int .i64 0, .int .u64 0, .int .i64 0, .int .i64 0, .int .u32 0, .slice none 0 0, .slice none 0 0] 56))
      have n1_ := Aside0.mk (below_alloc HB.out (.cells #[.int .i64 0, .int .u64 0, .int .i64 0, .int .i64 0, .int .u32 0, .slice none 0 0, .slice none 0 0] 56))
      clear HK HB
      have HK := n0_
      have HB := n1_
      clear n0_ n1_
      refine hK.out _ _ (((HB.out.cell (World.block_lt_of_cell? _ _ H0.out)).trans H0.out)) (fun hHeld => ?_)
      clear hK K
      refine norm_ (a' := ?_) ?_ ?_
      rotate_left
      · show Act.put _ (some 4) _ = _
        simp only [Act.put, List.setIfInBounds_toArray, List.set_cons_zero, List.set_cons_succ, i64_w, i32_w]
        rfl
      refine one_ (i := 6) (N := some 25) #[true, true, true, true, true, true, true, true, true, false, false, true, true, false, false, true, true, false, false, false, true, false] rfl rfl (by kernel_rfl) (by decide) (fun K hK => ?_)
      refine goes_ Try.func129 (by kernel_rfl) rfl #[.slice A1 (mid l0 1 9).length (c0 - 1)] (by rfl) rfl rfl (by first | (simp only [List.map_toArray, List.map_cons, List.map_nil]; done) | (simp only [List.map_toArray, List.map_cons, List.map_nil]; rfl)) ?_
      with_reducible refine (HG1.out _ (Kd.C_below HC1.out HB.out)).mono ?_
      rintro e wc1 ⟨rfl, hb⟩
      refine ⟨_, rfl, ?_⟩
      have n0_ := Aside0.mk (blk_below HK.out hb)
      have n1_ := Aside0.mk (below_step HB.out hb)
      have n2_ := Aside0.mk (blk_below HT.out hb)
      clear HK HB HT hb
      have HK := n0_
      have HB := n1_
      have HT := n2_
      clear n2_
      clear n0_ n1_
      refine hK.out _ _ (((HB.out.cell (World.block_lt_of_cell? _ _ H0.out)).trans H0.out)) (fun hHeld => ?_)
      clear hK K
      refine norm_ (a' := ?_) ?_ ?_
      rotate_left
      · show Act.put _ (some 25) _ = _
        simp only [Act.put, List.setIfInBounds_toArray, List.set_cons_zero, List.set_cons_succ, i64_w, i32_w]
        rfl
      refine one_ (i := 9) (N := some 28) #[true, true, true, true, true, true, true, true, true, true, false, true, true, false, false, true, true, false, false, false, true, false] rfl rfl (by kernel_rfl) (by decide) (fun K hK => ?_)
      refine goes_ Try.func129 (by kernel_rfl) rfl #[.slice A2 (mid l0 9 11).length (c0 - 9)] (by rfl) rfl rfl (by first | (simp only [List.map_toArray, List.map_cons, List.map_nil]; done) | (simp only [List.map_toArray, List.map_cons, List.map_nil]; rfl)) ?_
      with_reducible refine (HG2.out _ (Kd.C_below HC2.out HB.out)).mono ?_
      rintro e wc2 ⟨rfl, hb⟩
      refine ⟨_, rfl, ?_⟩
      have n0_ := Aside0.mk (blk_below HK.out hb)
      have n1_ := Aside0.mk (below_step HB.out hb)
      have n2_ := Aside0.mk (blk_below HT.out hb)
      clear HK HB HT hb
      have HK := n0_
      have HB := n1_
      have HT := n2_
      clear n2_
      clear n0_ n1_
      refine hK.out _ _ (((HB.out.cell (World.block_lt_of_cell? _ _ H0.out)).trans H0.out)) (fun hHeld => ?_)
      clear hK K
      refine norm_ (a' := ?_) ?_ ?_
      rotate_left
      · show Act.put _ (some 28) _ = _
        simp only [Act.put, List.setIfInBounds_toArray, List.set_cons_zero, List.set_cons_succ, i64_w, i32_w]
        rfl
      refine pure_ (i := 10) (N := some 29) (v := ?_) (a' := ?_) #[true, true, true, true, true, true, true, true, true, true, true, true, true, false, false, true, true, false, false, false, true, false] rfl rfl (by kernel_rfl) (fun _ _ _ h => h) (Or.inl ⟨by rfl, ?_⟩) ?_ ?_
      rotate_left
      · intro w'
        go_simp
        with_reducible rfl
      rotate_left
      · simp only [Act.put, List.setIfInBounds_toArray, List.set_cons_zero, List.set_cons_succ, i64_w, i32_w]
        rfl
      refine one_ (i := 13) (N := some 32) #[true, true, true, true, true, true, true, true, true, true, true, true, true, true, false, true, true, false, false, false, true, false] rfl rfl (by kernel_rfl) (by decide) (fun K hK => ?_)
      refine goes_ Try.func129 (by kernel_rfl) rfl #[.slice A3 (mid l0 11 13).length (c0 - 11)] (by rfl) rfl rfl (by first | (simp only [List.map_toArray, List.map_cons, List.map_nil]; done) | (simp only [List.map_toArray, List.map_cons, List.map_nil]; rfl)) ?_
      with_reducible refine (HG3.out _ (Kd.C_below HC3.out HB.out)).mono ?_
      rintro e wc3 ⟨rfl, hb⟩
      refine ⟨_, rfl, ?_⟩
      have n0_ := Aside0.mk (blk_below HK.out hb)
      have n1_ := Aside0.mk (below_step HB.out hb)
      have n2_ := Aside0.mk (blk_below HT.out hb)
      clear HK HB HT hb
      have HK := n0_
      have HB := n1_
      have HT := n2_
      clear n2_
      clear n0_ n1_
      refine hK.out _ _ (((HB.out.cell (World.block_lt_of_cell? _ _ H0.out)).trans H0.out)) (fun hHeld => ?_)
      clear hK K
      refine norm_ (a' := ?_) ?_ ?_
      rotate_left
      · show Act.put _ (some 32) _ = _
        simp only [Act.put, List.setIfInBounds_toArray, List.set_cons_zero, List.set_cons_succ, i64_w, i32_w]
        rfl
      refine pure_ (i := 14) (N := some 33) (v := ?_) (a' := ?_) #[true, true, true, true, true, true, true, true, true, true, true, true, true, true, true, true, true, false, false, false, true, false] rfl rfl (by kernel_rfl) (fun _ _ _ h => h) (Or.inl ⟨by rfl, ?_⟩) ?_ ?_
      rotate_left
      · intro w'
        go_simp
        with_reducible rfl
      rotate_left
      · simp only [Act.put, List.setIfInBounds_toArray, List.set_cons_zero, List.set_cons_succ, i64_w, i32_w]
        rfl
      refine one_ (i := 17) (N := some 36) #[true, true, true, true, true, true, true, true, true, true, true, true, true, true, true, true, true, true, false, false, true, false] rfl rfl (by kernel_rfl) (by decide) (fun K hK => ?_)
      refine goes_ Try.func129 (by kernel_rfl) rfl #[.slice A4 (mid l0 13 17).length (c0 - 13)] (by rfl) rfl rfl (by first | (simp only [List.map_toArray, List.map_cons, List.map_nil]; done) | (simp only [List.map_toArray, List.map_cons, List.map_nil]; rfl)) ?_
      with_reducible refine (HG4.out _ (Kd.C_below HC4.out HB.out)).mono ?_
      rintro e wc4 ⟨rfl, hb⟩
      refine ⟨_, rfl, ?_⟩
      have n0_ := Aside0.mk (blk_below HK.out hb)
      have n1_ := Aside0.mk (below_step HB.out hb)
      have n2_ := Aside0.mk (blk_below HT.out hb)
      clear HK HB HT hb
      have HK := n0_
      have HB := n1_
      have HT := n2_
      clear n2_
      clear n0_ n1_
      refine hK.out _ _ (((HB.out.cell (World.block_lt_of_cell? _ _ H0.out)).trans H0.out)) (fun hHeld => ?_)
      clear hK K
      refine norm_ (a' := ?_) ?_ ?_
      rotate_left
      · show Act.put _ (some 36) _ = _
        simp only [Act.put, List.setIfInBounds_toArray, List.set_cons_zero, List.set_cons_succ, i64_w, i32_w]
        rfl
      refine pure_ (i := 18) (N := some 37) (v := ?_) (a' := ?_) #[true, true, true, true, true, true, true, true, true, true, true, true, true, true, true, true, true, true, true, false, true, false] rfl rfl (by kernel_rfl) (fun _ _ _ h => h) (Or.inl ⟨by rfl, ?_⟩) ?_ ?_
      rotate_left
      · intro w'
        go_simp
        with_reducible rfl
      rotate_left
      · simp only [Act.put, List.setIfInBounds_toArray, List.set_cons_zero, List.set_cons_succ, i64_w, i32_w]
        rfl
      refine pure_ (i := 19) (N := some 38) (v := ?_) (a' := ?_) #[true, true, true, true, true, true, true, true, true, true, true, true, true, true, true, true, true, true, true, true, true, false] rfl rfl (by kernel_rfl) (fun _ _ _ h => h) (Or.inl ⟨by rfl, ?_⟩) ?_ ?_
      rotate_left
      · intro w'
        go_simp
        with_reducible rfl
      rotate_left
      · simp only [Act.put, List.setIfInBounds_toArray, List.set_cons_zero, List.set_cons_succ, i64_w, i32_w]
        rfl
      exact norm_ (by simp only [putAll, Act.put, List.setIfInBounds_toArray, List.set_cons_zero, List.set_cons_succ]) (hCont W1.heap.size _ ⟨HK.out, HT.out, HB.out, HL.out⟩)
  rintro T w5 ⟨hk5, ht5, hb5, hl5⟩
  have HK := Aside0.mk hk5
  have HT := Aside0.mk ht5
  have HB := Aside0.mk hb5
  have HL := Aside0.mk hl5
  have hHeld : w5.cell? ad0 = some (.int .u8 b0) := ((HB.out.cell (World.block_lt_of_cell? _ _ H0.out)).trans H0.out)
  clear hk5 ht5 hb5 hl5
  refine norm_ (a' := ?_) ?_ ?_
  rotate_left
  · simp only [putAll, Act.put, List.setIfInBounds_toArray, List.set_cons_zero, List.set_cons_succ]
    rfl
  refine one_ (i := 21) (N := none) #[true, true, true, true, true, true, true, true, true, true, true, true, true, true, true, true, true, true, true, true, true, true] rfl rfl (by kernel_rfl) (by decide) (fun K hK => ?_)
  have t0 : w5.cell? ⟨T, 0, none⟩ = some (.int .i64 0) := (blk_cell HT.out 0).trans rfl
  have t1 : w5.cell? ⟨T, 1, none⟩ = some (.int .u64 0) := (blk_cell HT.out 1).trans rfl
  have t2 : w5.cell? ⟨T, 2, none⟩ = some (.int .i64 0) := (blk_cell HT.out 2).trans rfl
  have t3 : w5.cell? ⟨T, 3, none⟩ = some (.int .i64 0) := (blk_cell HT.out 3).trans rfl
  have t4 : w5.cell? ⟨T, 4, none⟩ = some (.int .u32 0) := (blk_cell HT.out 4).trans rfl
  have t5 : w5.cell? ⟨T, 5, none⟩ = some (.slice none 0 0) := (blk_cell HT.out 5).trans rfl
  have t6 : w5.cell? ⟨T, 6, none⟩ = some (.slice none 0 0) := (blk_cell HT.out 6).trans rfl
  have tf0 : w5.frozen? ⟨T, 0, none⟩ = false := blk_frozen HT.out 0
  have tf1 : w5.frozen? ⟨T, 1, none⟩ = false := blk_frozen HT.out 1
  have tf2 : w5.frozen? ⟨T, 2, none⟩ = false := blk_frozen HT.out 2
  have tf3 : w5.frozen? ⟨T, 3, none⟩ = false := blk_frozen HT.out 3
  have tf4 : w5.frozen? ⟨T, 4, none⟩ = false := blk_frozen HT.out 4
  have tf5 : w5.frozen? ⟨T, 5, none⟩ = false := blk_frozen HT.out 5
  have tf6 : w5.frozen? ⟨T, 6, none⟩ = false := blk_frozen HT.out 6
  refine skip_ (w1 := ?_) (by rfl) rfl ?_ ?_
  rotate_left
  · go_simp
    rfl
  clear t0 t1 t2 t3 t4 t5 t6 tf0 tf1 tf2 tf3 tf4 tf5 tf6
  have hne : w.heap.size ≠ T := Nat.ne_of_lt HL.out
  have hle : w.heap.size ≤ T := Nat.le_of_lt HL.out
  have n0_ := Aside0.mk (blk_far (blk_far (blk_far (blk_far (blk_far (blk_far (blk_far HK.out (p := ⟨T, 0, none⟩) hne (.int .i64 (wrap64 b0))) (p := ⟨T, 1, none⟩) hne (.int .u64 v1)) (p := ⟨T, 2, none⟩) hne (.int .i64 (wrap64 v2))) (p := ⟨T, 3, none⟩) hne (.int .i64 (wrap64 v3))) (p := ⟨T, 4, none⟩) hne (.int .u32 (IntKind.u32.wrap v4))) (p := ⟨T, 5, none⟩) hne (.slice none 0 0)) (p := ⟨T, 6, none⟩) hne (.slice none 0 0))
  have n1_ := Aside0.mk ((blk_put (blk_put (blk_put (blk_put (blk_put (blk_put (blk_put HT.out 0 (.int .i64 (wrap64 b0)) rfl) 1 (.int .u64 v1) rfl) 2 (.int .i64 (wrap64 v2)) rfl) 3 (.int .i64 (wrap64 v3)) rfl) 4 (.int .u32 (IntKind.u32.wrap v4)) rfl) 5 (.slice none 0 0) rfl) 6 (.slice none 0 0) rfl) : _ = some (Obj.cells #[.int .i64 (wrap64 b0), .int .u64 v1, .int .i64 (wrap64 v2), .int .i64 (wrap64 v3), .int .u32 (IntKind.u32.wrap v4), .slice none 0 0, .slice none 0 0] 56 (0, 0)))
  have n2_ := Aside0.mk (((((((HB.out.setCell (p := ⟨T, 0, none⟩) hle (.int .i64 (wrap64 b0))).setCell (p := ⟨T, 1, none⟩) hle (.int .u64 v1)).setCell (p := ⟨T, 2, none⟩) hle (.int .i64 (wrap64 v2))).setCell (p := ⟨T, 3, none⟩) hle (.int .i64 (wrap64 v3))).setCell (p := ⟨T, 4, none⟩) hle (.int .u32 (IntKind.u32.wrap v4))).setCell (p := ⟨T, 5, none⟩) hle (.slice none 0 0)).setCell (p := ⟨T, 6, none⟩) hle (.slice none 0 0))
  clear HK HT HB hne hle
  have HK := n0_
  have HT := n1_
  have HB := n2_
  clear n0_ n1_ n2_
  refine hK.out _ _ (((HB.out.cell (World.block_lt_of_cell? _ _ H0.out)).trans H0.out)) (fun hHeld => ?_)
  clear hK K
  refine done_ (by kernel_rfl) ?_

  clear q1' q2' q3' q4' HG1 HG2 HG3 HG4 HC1 HC2 HC3 HC4 hHeld
  rw [HE1.out, HE2.out, HE3.out, HE4.out] at HT HK HB ⊢
  clear HE1 HE2 HE3 HE4
  generalize (((((((w5.setCell ⟨T, 0, none⟩ (.int .i64 kd)).setCell ⟨T, 1, none⟩ (.int .u64 v1)).setCell ⟨T, 2, none⟩ (.int .i64 vi)).setCell ⟨T, 3, none⟩ (.int .i64 vo)).setCell ⟨T, 4, none⟩ (.int .u32 vy)).setCell ⟨T, 5, none⟩ (.slice none 0 0)).setCell ⟨T, 6, none⟩ (.slice none 0 0)) = W6 at HK HT HB ⊢
  have TN : T ≠ w.heap.size := Nat.ne_of_gt HL.out
  have TL : w.heap.size ≤ T := Nat.le_of_lt HL.out
  go_wp2_with fail
  refine (bytes_Clone.calls A5 (c0 - 17) (mid l0 17 (l0.length - 4)) rest W6 (Kd.C_below HC5.out HB.out) HL5.out HCL.out).mono ?_
  rintro e W ⟨v5, rfl, hR5, hb⟩
  obtain ⟨A6, c6, e6_⟩ := Kd.R_slice hR5
  subst e6_
  have n0_ := Aside0.mk (blk_below HK.out hb)
  have n1_ := Aside0.mk (blk_below HT.out hb)
  have n2_ := Aside0.mk (Kd.R_lower hR5 HB.out.size)
  have n3_ := Aside0.mk (below_step HB.out hb)
  clear HK HT HB hR5 hb
  have HK := n0_
  have HT := n1_
  have HRr := n2_
  have HB := n3_
  clear n0_ n1_ n2_ n3_
  have kk : W.cell? ⟨T, 0, none⟩ = some (.int .i64 kd) := (blk_cell HT.out 0).trans rfl
  have hk1 : ((kd : Int) == 1) = false := beq_eq_false_iff_ne.mpr hne1
  by_cases hpos : 0 < rest.length
  · have hp1 : decide (0 < rest.length) = true := decide_eq_true hpos
    have hp2 : decide ((0 : Int) < (rest.length : Int)) = true := decide_eq_true (by omega)
    have kf6 : W.frozen? ⟨T, 6, none⟩ = false := blk_frozen HT.out 6
    have k6 : W.cell? ⟨T, 6, none⟩ = some (.slice none 0 0) := (blk_cell HT.out 6).trans rfl
    go_upto_region 13 with (fail)
    clear kk kf6 k6
    have n0_ := Aside0.mk (blk_far HK.out (p := ⟨T, 6, none⟩) (Ne.symm TN) (.slice A6 rest.length c6))
    have n1_ := Aside0.mk (blk_put HT.out 6 (.slice A6 rest.length c6) rfl : _ = some (Obj.cells #[.int .i64 kd, .int .u64 v1, .int .i64 vi, .int .i64 vo, .int .u32 vy, .slice none 0 0, .slice A6 rest.length c6] 56 (0, 0)))
    have HBr := Aside0.mk (Kd.R_mono (Kd.R_far (p := ⟨T, 6, none⟩) (Kd.R_types HRr.out HT.out (by decide)) (fun _ hk => hk.2) (.slice A6 rest.length c6)) (fun _ _ => trivial) : Kd.R (Kd.int .u8) 5 (W.setCell ⟨T, 6, none⟩ (.slice A6 rest.length c6)) w.heap.size (fun _ => True) (.slice A6 rest.length c6) rest)
    have n3_ := Aside0.mk (HB.out.setCell (p := ⟨T, 6, none⟩) TL (.slice A6 rest.length c6))
    have HSr := Aside0.mk (Kd.R_nil (Kd.int .i64) 3 (W.setCell ⟨T, 6, none⟩ (.slice A6 rest.length c6)) w.heap.size (fun _ => True))
    clear HK HT HB HRr
    have HK := n0_
    have HT := n1_
    have HB := n3_
    clear n0_ n1_ n3_
    generalize W.setCell ⟨T, 6, none⟩ (.slice A6 rest.length c6) = W at HK HT HB HSr HBr ⊢
    have k0 : W.cell? ⟨T, 0, none⟩ = some (.int .i64 kd) := (blk_cell HT.out 0).trans rfl
    have k1 : W.cell? ⟨T, 1, none⟩ = some (.int .u64 v1) := (blk_cell HT.out 1).trans rfl
    have k2 : W.cell? ⟨T, 2, none⟩ = some (.int .i64 vi) := (blk_cell HT.out 2).trans rfl
    have k3 : W.cell? ⟨T, 3, none⟩ = some (.int .i64 vo) := (blk_cell HT.out 3).trans rfl
    have k4 : W.cell? ⟨T, 4, none⟩ = some (.int .u32 vy) := (blk_cell HT.out 4).trans rfl
    have k5 : W.cell? ⟨T, 5, none⟩ = some (.slice none 0 0) := (blk_cell HT.out 5).trans rfl
    have k6 : W.cell? ⟨T, 6, none⟩ = some (.slice A6 rest.length c6) := (blk_cell HT.out 6).trans rfl
    go_wp2_with fail
    clear k0 k1 k2 k3 k4 k5 k6
    refine (pack_Encode.calls k kd v1 vi vo vy none 0 [] A6 c6 rest c er W (Kd.R_reads' HSr.out).2.2 (Kd.R_reads' HSr.out).2.1 (Kd.R_reads' HBr.out).2.2 (Kd.R_reads' HBr.out).2.1 HCE.out).mono ?_
    rintro e W7 ⟨vc, rfl, hvc, hb⟩
    obtain ⟨Ac, cc, ec⟩ := Kd.R_slice hvc
    subst ec
    have HX := Aside0.mk hvc
    have n0_ := Aside0.mk (blk_below HK.out hb)
    have n1_ := Aside0.mk (blk_below HT.out hb)
    have n2_ := Aside0.mk (Kd.R_below HSr.out hb)
    have n3_ := Aside0.mk (Kd.R_below HBr.out hb)
    have n4_ := Aside0.mk (below_step HB.out hb)
    clear HK HT HSr HBr HB hvc hb
    have HK := n0_
    have HT := n1_
    have HSr := n2_
    have HBr := n3_
    have HB := n4_
    clear n0_ n1_ n2_ n3_ n4_
    by_cases he : er = 0
    · have he1 : ((er : Int) != 0) = false := bne_eq_false_iff_eq.mpr he
      have he2 : ((er : Int) == 0) = true := beq_iff_eq.mpr he
      have hr := HRES.out
      rw [if_pos he] at hr
      clear he
      go_wp2_with fail
      refine (bytes_Equal.calls (some ad0) c0 l0 Ac cc c q W7 (Kd.C_below HR.out HB.out) hc0 (Kd.R_reads' HX.out).2.2 (Kd.R_reads' HX.out).2.1 HQ.out).mono ?_
      rintro e W8 ⟨rfl, hd⟩
      have hb := hd.below
      have n0_ := Aside0.mk (blk_below HK.out hb)
      have n1_ := Aside0.mk (blk_below HT.out hb)
      have n2_ := Aside0.mk (Kd.R_below HSr.out hb)
      have n3_ := Aside0.mk (Kd.R_below HBr.out hb)
      have n4_ := Aside0.mk (below_step HB.out hb)
      clear HK HT HSr HBr HB hb hd HX
      have HK := n0_
      have HT := n1_
      have HSr := n2_
      have HBr := n3_
      have HB := n4_
      clear n0_ n1_ n2_ n3_ n4_
      have z0 : W8.cell? ⟨w.heap.size, 0, none⟩ = some (.int .i64 0) := (blk_cell HK.out 0).trans rfl
      have z1 : W8.cell? ⟨w.heap.size, 1, none⟩ = some (.int .u64 0) := (blk_cell HK.out 1).trans rfl
      have z2 : W8.cell? ⟨w.heap.size, 2, none⟩ = some (.int .i64 0) := (blk_cell HK.out 2).trans rfl
      have z3 : W8.cell? ⟨w.heap.size, 3, none⟩ = some (.int .i64 0) := (blk_cell HK.out 3).trans rfl
      have z4 : W8.cell? ⟨w.heap.size, 4, none⟩ = some (.int .u32 0) := (blk_cell HK.out 4).trans rfl
      have z5 : W8.cell? ⟨w.heap.size, 5, none⟩ = some (.slice none 0 0) := (blk_cell HK.out 5).trans rfl
      have z6 : W8.cell? ⟨w.heap.size, 6, none⟩ = some (.slice none 0 0) := (blk_cell HK.out 6).trans rfl
      have zf0 : W8.frozen? ⟨w.heap.size, 0, none⟩ = false := blk_frozen HK.out 0
      have zf1 : W8.frozen? ⟨w.heap.size, 1, none⟩ = false := blk_frozen HK.out 1
      have zf2 : W8.frozen? ⟨w.heap.size, 2, none⟩ = false := blk_frozen HK.out 2
      have zf3 : W8.frozen? ⟨w.heap.size, 3, none⟩ = false := blk_frozen HK.out 3
      have zf4 : W8.frozen? ⟨w.heap.size, 4, none⟩ = false := blk_frozen HK.out 4
      have zf5 : W8.frozen? ⟨w.heap.size, 5, none⟩ = false := blk_frozen HK.out 5
      have zf6 : W8.frozen? ⟨w.heap.size, 6, none⟩ = false := blk_frozen HK.out 6
      have k0 : W8.cell? ⟨T, 0, none⟩ = some (.int .i64 kd) := (blk_cell HT.out 0).trans rfl
      have k1 : W8.cell? ⟨T, 1, none⟩ = some (.int .u64 v1) := (blk_cell HT.out 1).trans rfl
      have k2 : W8.cell? ⟨T, 2, none⟩ = some (.int .i64 vi) := (blk_cell HT.out 2).trans rfl
      have k3 : W8.cell? ⟨T, 3, none⟩ = some (.int .i64 vo) := (blk_cell HT.out 3).trans rfl
      have k4 : W8.cell? ⟨T, 4, none⟩ = some (.int .u32 vy) := (blk_cell HT.out 4).trans rfl
      have k5 : W8.cell? ⟨T, 5, none⟩ = some (.slice none 0 0) := (blk_cell HT.out 5).trans rfl
      have k6 : W8.cell? ⟨T, 6, none⟩ = some (.slice A6 rest.length c6) := (blk_cell HT.out 6).trans rfl
      cases q with
      | true =>
        rw [if_pos rfl] at hr
        simp only [Option.some.injEq, Prod.mk.injEq] at hr
        obtain ⟨rfl, rfl, rfl, rfl, rfl, rfl, rfl, rfl⟩ := hr
        go_wp2
        exact bodyPost_ret (v := .tuple #[.agg #[.int .i64 kd, .int .u64 v1, .int .i64 vi, .int .i64 vo, .int .u32 vy, .slice none 0 0, .slice A6 rest.length c6], .int .u16 0]) (by simp [results, Try.results86, go_sem, z0, z1, z2, z3, z4, z5, z6]) rfl ⟨_, _, rfl, (Kd.R_mono (Kd.R_far (p := ⟨w.heap.size, 6, none⟩) (Kd.R_far (p := ⟨w.heap.size, 5, none⟩) (Kd.R_far (p := ⟨w.heap.size, 4, none⟩) (Kd.R_far (p := ⟨w.heap.size, 3, none⟩) (Kd.R_far (p := ⟨w.heap.size, 2, none⟩) (Kd.R_far (p := ⟨w.heap.size, 1, none⟩) (Kd.R_far (p := ⟨w.heap.size, 0, none⟩) (Kd.R_types HSr.out HK.out (by decide)) (fun _ hk => hk.2) (.int .i64 kd)) (fun _ hk => hk.2) (.int .u64 v1)) (fun _ hk => hk.2) (.int .i64 vi)) (fun _ hk => hk.2) (.int .i64 vo)) (fun _ hk => hk.2) (.int .u32 vy)) (fun _ hk => hk.2) (.slice none 0 0)) (fun _ hk => hk.2) (.slice A6 rest.length c6)) (fun _ _ => trivial)), (Kd.R_mono (Kd.R_far (p := ⟨w.heap.size, 6, none⟩) (Kd.R_far (p := ⟨w.heap.size, 5, none⟩) (Kd.R_far (p := ⟨w.heap.size, 4, none⟩) (Kd.R_far (p := ⟨w.heap.size, 3, none⟩) (Kd.R_far (p := ⟨w.heap.size, 2, none⟩) (Kd.R_far (p := ⟨w.heap.size, 1, none⟩) (Kd.R_far (p := ⟨w.heap.size, 0, none⟩) (Kd.R_types HBr.out HK.out (by decide)) (fun _ hk => hk.2) (.int .i64 kd)) (fun _ hk => hk.2) (.int .u64 v1)) (fun _ hk => hk.2) (.int .i64 vi)) (fun _ hk => hk.2) (.int .i64 vo)) (fun _ hk => hk.2) (.int .u32 vy)) (fun _ hk => hk.2) (.slice none 0 0)) (fun _ hk => hk.2) (.slice A6 rest.length c6)) (fun _ _ => trivial)), by (repeat (first | (with_reducible exact HB.out) | refine below_set ?_ (Nat.le_refl _)))⟩
      | false =>
        rw [if_neg (by simp)] at hr
        simp only [Option.some.injEq, Prod.mk.injEq] at hr
        obtain ⟨rfl, rfl, rfl, rfl, rfl, rfl, rfl, rfl⟩ := hr
        go_wp2
        exact bodyPost_ret (v := .tuple #[.agg #[.int .i64 0, .int .u64 0, .int .i64 0, .int .i64 0, .int .u32 0, .slice none 0 0, .slice none 0 0], .int .u16 11]) (by simp [results, Try.results86, go_sem, z0, z1, z2, z3, z4, z5, z6]) rfl ⟨_, _, rfl, Kd.R_nil _ _ _ _ _, Kd.R_nil _ _ _ _ _, by (repeat (first | (with_reducible exact HB.out) | refine below_set ?_ (Nat.le_refl _)))⟩
    · have he1 : ((er : Int) != 0) = true := bne_iff_ne.mpr he
      have he2 : ((er : Int) == 0) = false := beq_eq_false_iff_ne.mpr he
      have hr := HRES.out
      rw [if_neg he] at hr
      clear he
      simp only [Option.some.injEq, Prod.mk.injEq] at hr
      obtain ⟨rfl, rfl, rfl, rfl, rfl, rfl, rfl, rfl⟩ := hr
      have z0 : W7.cell? ⟨w.heap.size, 0, none⟩ = some (.int .i64 0) := (blk_cell HK.out 0).trans rfl
      have z1 : W7.cell? ⟨w.heap.size, 1, none⟩ = some (.int .u64 0) := (blk_cell HK.out 1).trans rfl
      have z2 : W7.cell? ⟨w.heap.size, 2, none⟩ = some (.int .i64 0) := (blk_cell HK.out 2).trans rfl
      have z3 : W7.cell? ⟨w.heap.size, 3, none⟩ = some (.int .i64 0) := (blk_cell HK.out 3).trans rfl
      have z4 : W7.cell? ⟨w.heap.size, 4, none⟩ = some (.int .u32 0) := (blk_cell HK.out 4).trans rfl
      have z5 : W7.cell? ⟨w.heap.size, 5, none⟩ = some (.slice none 0 0) := (blk_cell HK.out 5).trans rfl
      have z6 : W7.cell? ⟨w.heap.size, 6, none⟩ = some (.slice none 0 0) := (blk_cell HK.out 6).trans rfl
      have zf0 : W7.frozen? ⟨w.heap.size, 0, none⟩ = false := blk_frozen HK.out 0
      have zf1 : W7.frozen? ⟨w.heap.size, 1, none⟩ = false := blk_frozen HK.out 1
      have zf2 : W7.frozen? ⟨w.heap.size, 2, none⟩ = false := blk_frozen HK.out 2
      have zf3 : W7.frozen? ⟨w.heap.size, 3, none⟩ = false := blk_frozen HK.out 3
      have zf4 : W7.frozen? ⟨w.heap.size, 4, none⟩ = false := blk_frozen HK.out 4
      have zf5 : W7.frozen? ⟨w.heap.size, 5, none⟩ = false := blk_frozen HK.out 5
      have zf6 : W7.frozen? ⟨w.heap.size, 6, none⟩ = false := blk_frozen HK.out 6
      go_wp2
      exact bodyPost_ret (v := .tuple #[.agg #[.int .i64 0, .int .u64 0, .int .i64 0, .int .i64 0, .int .u32 0, .slice none 0 0, .slice none 0 0], .int .u16 11]) (by simp [results, Try.results86, go_sem, z0, z1, z2, z3, z4, z5, z6]) rfl ⟨_, _, rfl, Kd.R_nil _ _ _ _ _, Kd.R_nil _ _ _ _ _, by (repeat (first | (with_reducible exact HB.out) | refine below_set ?_ (Nat.le_refl _)))⟩
  · have hnil : rest = [] := List.eq_nil_of_length_eq_zero (by omega)
    have hp1 : decide (0 < rest.length) = false := decide_eq_false hpos
    have hp2 : decide ((0 : Int) < (rest.length : Int)) = false := decide_eq_false (by omega)
    go_upto_region 13 with (fail)
    clear kk hp1 hp2 hpos
    have HSr := Aside0.mk (Kd.R_nil (Kd.int .i64) 3 W w.heap.size (fun _ => True))
    have HBr := Aside0.mk (Kd.R_nil (Kd.int .u8) 5 W w.heap.size (fun _ => True))
    subst hnil
    have k0 : W.cell? ⟨T, 0, none⟩ = some (.int .i64 kd) := (blk_cell HT.out 0).trans rfl
    have k1 : W.cell? ⟨T, 1, none⟩ = some (.int .u64 v1) := (blk_cell HT.out 1).trans rfl
    have k2 : W.cell? ⟨T, 2, none⟩ = some (.int .i64 vi) := (blk_cell HT.out 2).trans rfl
    have k3 : W.cell? ⟨T, 3, none⟩ = some (.int .i64 vo) := (blk_cell HT.out 3).trans rfl
    have k4 : W.cell? ⟨T, 4, none⟩ = some (.int .u32 vy) := (blk_cell HT.out 4).trans rfl
    have k5 : W.cell? ⟨T, 5, none⟩ = some (.slice none 0 0) := (blk_cell HT.out 5).trans rfl
    have k6 : W.cell? ⟨T, 6, none⟩ = some (.slice none 0 0) := (blk_cell HT.out 6).trans rfl
    go_wp2_with fail
    clear k0 k1 k2 k3 k4 k5 k6
    refine (pack_Encode.calls k kd v1 vi vo vy none 0 [] none 0 [] c er W (Kd.R_reads' HSr.out).2.2 (Kd.R_reads' HSr.out).2.1 (Kd.R_reads' HBr.out).2.2 (Kd.R_reads' HBr.out).2.1 HCE.out).mono ?_
    rintro e W7 ⟨vc, rfl, hvc, hb⟩
    obtain ⟨Ac, cc, ec⟩ := Kd.R_slice hvc
    subst ec
    have HX := Aside0.mk hvc
    have n0_ := Aside0.mk (blk_below HK.out hb)
    have n1_ := Aside0.mk (blk_below HT.out hb)
    have n2_ := Aside0.mk (Kd.R_below HSr.out hb)
    have n3_ := Aside0.mk (Kd.R_below HBr.out hb)
    have n4_ := Aside0.mk (below_step HB.out hb)
    clear HK HT HSr HBr HB hvc hb
    have HK := n0_
    have HT := n1_
    have HSr := n2_
    have HBr := n3_
    have HB := n4_
    clear n0_ n1_ n2_ n3_ n4_
    by_cases he : er = 0
    · have he1 : ((er : Int) != 0) = false := bne_eq_false_iff_eq.mpr he
      have he2 : ((er : Int) == 0) = true := beq_iff_eq.mpr he
      have hr := HRES.out
      rw [if_pos he] at hr
      clear he
      go_wp2_with fail
      refine (bytes_Equal.calls (some ad0) c0 l0 Ac cc c q W7 (Kd.C_below HR.out HB.out) hc0 (Kd.R_reads' HX.out).2.2 (Kd.R_reads' HX.out).2.1 HQ.out).mono ?_
      rintro e W8 ⟨rfl, hd⟩
      have hb := hd.below
      have n0_ := Aside0.mk (blk_below HK.out hb)
      have n1_ := Aside0.mk (blk_below HT.out hb)
      have n2_ := Aside0.mk (Kd.R_below HSr.out hb)
      have n3_ := Aside0.mk (Kd.R_below HBr.out hb)
      have n4_ := Aside0.mk (below_step HB.out hb)
      clear HK HT HSr HBr HB hb hd HX
      have HK := n0_
      have HT := n1_
      have HSr := n2_
      have HBr := n3_
      have HB := n4_
      clear n0_ n1_ n2_ n3_ n4_
      have z0 : W8.cell? ⟨w.heap.size, 0, none⟩ = some (.int .i64 0) := (blk_cell HK.out 0).trans rfl
      have z1 : W8.cell? ⟨w.heap.size, 1, none⟩ = some (.int .u64 0) := (blk_cell HK.out 1).trans rfl
      have z2 : W8.cell? ⟨w.heap.size, 2, none⟩ = some (.int .i64 0) := (blk_cell HK.out 2).trans rfl
      have z3 : W8.cell? ⟨w.heap.size, 3, none⟩ = some (.int .i64 0) := (blk_cell HK.out 3).trans rfl
      have z4 : W8.cell? ⟨w.heap.size, 4, none⟩ = some (.int .u32 0) := (blk_cell HK.out 4).trans rfl
      have z5 : W8.cell? ⟨w.heap.size, 5, none⟩ = some (.slice none 0 0) := (blk_cell HK.out 5).trans rfl
      have z6 : W8.cell? ⟨w.heap.size, 6, none⟩ = some (.slice none 0 0) := (blk_cell HK.out 6).trans rfl
      have zf0 : W8.frozen? ⟨w.heap.size, 0, none⟩ = false := blk_frozen HK.out 0
      have zf1 : W8.frozen? ⟨w.heap.size, 1, none⟩ = false := blk_frozen HK.out 1
      have zf2 : W8.frozen? ⟨w.heap.size, 2, none⟩ = false := blk_frozen HK.out 2
      have zf3 : W8.frozen? ⟨w.heap.size, 3, none⟩ = false := blk_frozen HK.out 3
      have zf4 : W8.frozen? ⟨w.heap.size, 4, none⟩ = false := blk_frozen HK.out 4
      have zf5 : W8.frozen? ⟨w.heap.size, 5, none⟩ = false := blk_frozen HK.out 5
      have zf6 : W8.frozen? ⟨w.heap.size, 6, none⟩ = false := blk_frozen HK.out 6
      have k0 : W8.cell? ⟨T, 0, none⟩ = some (.int .i64 kd) := (blk_cell HT.out 0).trans rfl
      have k1 : W8.cell? ⟨T, 1, none⟩ = some (.int .u64 v1) := (blk_cell HT.out 1).trans rfl
      have k2 : W8.cell? ⟨T, 2, none⟩ = some (.int .i64 vi) := (blk_cell HT.out 2).trans rfl
      have k3 : W8.cell? ⟨T, 3, none⟩ = some (.int .i64 vo) := (blk_cell HT.out 3).trans rfl
      have k4 : W8.cell? ⟨T, 4, none⟩ = some (.int .u32 vy) := (blk_cell HT.out 4).trans rfl
      have k5 : W8.cell? ⟨T, 5, none⟩ = some (.slice none 0 0) := (blk_cell HT.out 5).trans rfl
      have k6 : W8.cell? ⟨T, 6, none⟩ = some (.slice none 0 0) := (blk_cell HT.out 6).trans rfl
      cases q with
      | true =>
        rw [if_pos rfl] at hr
        simp only [Option.some.injEq, Prod.mk.injEq] at hr
        obtain ⟨rfl, rfl, rfl, rfl, rfl, rfl, rfl, rfl⟩ := hr
        go_wp2
        exact bodyPost_ret (v := .tuple #[.agg #[.int .i64 kd, .int .u64 v1, .int .i64 vi, .int .i64 vo, .int .u32 vy, .slice none 0 0, .slice none 0 0], .int .u16 0]) (by simp [results, Try.results86, go_sem, z0, z1, z2, z3, z4, z5, z6]) rfl ⟨_, _, rfl, (Kd.R_mono (Kd.R_far (p := ⟨w.heap.size, 6, none⟩) (Kd.R_far (p := ⟨w.heap.size, 5, none⟩) (Kd.R_far (p := ⟨w.heap.size, 4, none⟩) (Kd.R_far (p := ⟨w.heap.size, 3, none⟩) (Kd.R_far (p := ⟨w.heap.size, 2, none⟩) (Kd.R_far (p := ⟨w.heap.size, 1, none⟩) (Kd.R_far (p := ⟨w.heap.size, 0, none⟩) (Kd.R_types HSr.out HK.out (by decide)) (fun _ hk => hk.2) (.int .i64 kd)) (fun _ hk => hk.2) (.int .u64 v1)) (fun _ hk => hk.2) (.int .i64 vi)) (fun _ hk => hk.2) (.int .i64 vo)) (fun _ hk => hk.2) (.int .u32 vy)) (fun _ hk => hk.2) (.slice none 0 0)) (fun _ hk => hk.2) (.slice none 0 0)) (fun _ _ => trivial)), (Kd.R_mono (Kd.R_far (p := ⟨w.heap.size, 6, none⟩) (Kd.R_far (p := ⟨w.heap.size, 5, none⟩) (Kd.R_far (p := ⟨w.heap.size, 4, none⟩) (Kd.R_far (p := ⟨w.heap.size, 3, none⟩) (Kd.R_far (p := ⟨w.heap.size, 2, none⟩) (Kd.R_far (p := ⟨w.heap.size, 1, none⟩) (Kd.R_far (p := ⟨w.heap.size, 0, none⟩) (Kd.R_types HBr.out HK.out (by decide)) (fun _ hk => hk.2) (.int .i64 kd)) (fun _ hk => hk.2) (.int .u64 v1)) (fun _ hk => hk.2) (.int .i64 vi)) (fun _ hk => hk.2) (.int .i64 vo)) (fun _ hk => hk.2) (.int .u32 vy)) (fun _ hk => hk.2) (.slice none 0 0)) (fun _ hk => hk.2) (.slice none 0 0)) (fun _ _ => trivial)), by (repeat (first | (with_reducible exact HB.out) | refine below_set ?_ (Nat.le_refl _)))⟩
      | false =>
        rw [if_neg (by simp)] at hr
        simp only [Option.some.injEq, Prod.mk.injEq] at hr
        obtain ⟨rfl, rfl, rfl, rfl, rfl, rfl, rfl, rfl⟩ := hr
        go_wp2
        exact bodyPost_ret (v := .tuple #[.agg #[.int .i64 0, .int .u64 0, .int .i64 0, .int .i64 0, .int .u32 0, .slice none 0 0, .slice none 0 0], .int .u16 11]) (by simp [results, Try.results86, go_sem, z0, z1, z2, z3, z4, z5, z6]) rfl ⟨_, _, rfl, Kd.R_nil _ _ _ _ _, Kd.R_nil _ _ _ _ _, by (repeat (first | (with_reducible exact HB.out) | refine below_set ?_ (Nat.le_refl _)))⟩
    · have he1 : ((er : Int) != 0) = true := bne_iff_ne.mpr he
      have he2 : ((er : Int) == 0) = false := beq_eq_false_iff_ne.mpr he
      have hr := HRES.out
      rw [if_neg he] at hr
      clear he
      simp only [Option.some.injEq, Prod.mk.injEq] at hr
      obtain ⟨rfl, rfl, rfl, rfl, rfl, rfl, rfl, rfl⟩ := hr
      have z0 : W7.cell? ⟨w.heap.size, 0, none⟩ = some (.int .i64 0) := (blk_cell HK.out 0).trans rfl
      have z1 : W7.cell? ⟨w.heap.size, 1, none⟩ = some (.int .u64 0) := (blk_cell HK.out 1).trans rfl
      have z2 : W7.cell? ⟨w.heap.size, 2, none⟩ = some (.int .i64 0) := (blk_cell HK.out 2).trans rfl
      have z3 : W7.cell? ⟨w.heap.size, 3, none⟩ = some (.int .i64 0) := (blk_cell HK.out 3).trans rfl
      have z4 : W7.cell? ⟨w.heap.size, 4, none⟩ = some (.int .u32 0) := (blk_cell HK.out 4).trans rfl
      have z5 : W7.cell? ⟨w.heap.size, 5, none⟩ = some (.slice none 0 0) := (blk_cell HK.out 5).trans rfl
      have z6 : W7.cell? ⟨w.heap.size, 6, none⟩ = some (.slice none 0 0) := (blk_cell HK.out 6).trans rfl
      have zf0 : W7.frozen? ⟨w.heap.size, 0, none⟩ = false := blk_frozen HK.out 0
      have zf1 : W7.frozen? ⟨w.heap.size, 1, none⟩ = false := blk_frozen HK.out 1
      have zf2 : W7.frozen? ⟨w.heap.size, 2, none⟩ = false := blk_frozen HK.out 2
      have zf3 : W7.frozen? ⟨w.heap.size, 3, none⟩ = false := blk_frozen HK.out 3
      have zf4 : W7.frozen? ⟨w.heap.size, 4, none⟩ = false := blk_frozen HK.out 4
      have zf5 : W7.frozen? ⟨w.heap.size, 5, none⟩ = false := blk_frozen HK.out 5
      have zf6 : W7.frozen? ⟨w.heap.size, 6, none⟩ = false := blk_frozen HK.out 6
      go_wp2
      exact bodyPost_ret (v := .tuple #[.agg #[.int .i64 0, .int .u64 0, .int .i64 0, .int .i64 0, .int .u32 0, .slice none 0 0, .slice none 0 0], .int .u16 11]) (by simp [results, Try.results86, go_sem, z0, z1, z2, z3, z4, z5, z6]) rfl ⟨_, _, rfl, Kd.R_nil _ _ _ _ _, Kd.R_nil _ _ _ _ _, by (repeat (first | (with_reducible exact HB.out) | refine below_set ?_ (Nat.le_refl _)))⟩
set_option maxRecDepth 100000 in
set_option maxHeartbeats 16000000 in
theorem parse_offer (k : Nat) (A0 : Option Addr) (c0 : Nat) (l0 : List Int) (w : World) (h21 : ¬ (l0.length : Int) < 21) (hr0 : Kd.C (Kd.int .u8) w A0 l0.length l0) (hc0 : l0.length ≤ c0) (h : crc_Right.f k l0 = some true) (b0 v1 v2 v3 v4 : Int) (e6 : rd l0 0 = b0) (e1 : getN (mid l0 1 9) = v1) (e2 : getN (mid l0 9 11) = v2) (e3 : getN (mid l0 11 13) = v3) (e4 : getN (mid l0 13 17) = v4) (rest : List Int) (hrest : bytes_Clone.f (mid l0 17 (l0.length - 4)) = some rest) (kd vi vo vy : Int) (hkd : wrap64 b0 = kd) (hvi : wrap64 v2 = vi) (hvo : wrap64 v3 = vo) (hvy : IntKind.u32.wrap v4 = vy) (he1 : kd = 1) (c : List Int) (er : Int) (q : Bool) (SZ : List Int) (hSZ : SZ = (pairs rest).map (fun p => wrap64 (getN p))) (hbig : l0.length < 17592186044416) (hce : pack_Encode.f k kd v1 vi vo vy SZ [] = some (c, er)) (hq : bytes_Equal.f l0 c = some q) (r0 r1 r2 r3 r4 : Int) (r5 r6 : List Int) (r7 : Int) (hres : (if er = 0 then (if q = true then some (kd, v1, vi, vo, vy, SZ, [], 0) else some (0, 0, 0, 0, 0, [], [], 11)) else some (0, 0, 0, 0, 0, [], [], 11)) = some (r0, r1, r2, r3, r4, r5, r6, r7)) :
    Calls Try.prog 86 #[.slice A0 l0.length c0] w fun e w' => ∃ v5_ v6_ : Value, e = .returned (.tuple #[.agg #[.int .i64 r0, .int .u64 r1, .int .i64 r2, .int .i64 r3, .int .u32 r4, v5_, v6_], .int .u16 r7]) ∧ Kd.R (Kd.int .i64) 3 w' w.heap.size (fun _ => True) v5_ r5 ∧ Kd.R (Kd.int .u8) 5 w' w.heap.size (fun _ => True) v6_ r6 ∧ Below w.heap.size w w' := by
  have h1 : decide ((l0.length : Int) < 21) = false := decide_eq_false h21
  have HC := fun W h1 => crc_Right.calls k A0 c0 l0 true W h1 hc0 h
  have HR := Aside0.mk hr0
  have hmx : (l0.length : Int) ≤ 9223372036854775807 := by have := (Kd.reads_of_C (d := (0 : Int)) hr0).2.1; unfold maxLen at this; omega
  obtain ⟨ad0, e0, hcell0⟩ := Kd.at_int hr0 (0 : Int) (by omega) (by omega)
  obtain ⟨A1, q1, p1, g1⟩ := cut_at A0 c0 l0 1 9 (by omega) (by omega) hc0
  obtain ⟨A2, q2, p2, g2⟩ := cut_at A0 c0 l0 9 11 (by omega) (by omega) hc0
  obtain ⟨A3, q3, p3, g3⟩ := cut_at A0 c0 l0 11 13 (by omega) (by omega) hc0
  obtain ⟨A4, q4, p4, g4⟩ := cut_at A0 c0 l0 13 17 (by omega) (by omega) hc0
  obtain ⟨A5, q5, p5, g5⟩ := cut_at A0 c0 l0 17 (l0.length - 4) (by omega) (by omega) hc0
  have q5' : ∀ W : World, (Instr.slice 22 (.slice A0 l0.length c0) (some (.int .i64 17)) (some (.int .i64 ((l0.length : Int) - 4))) none).run Try.prog W = .ok (.slice A5 (mid l0 17 (l0.length - 4)).length (c0 - 17)) W := by
    intro W; have := q5 W; rwa [show ((l0.length - 4 : Nat) : Int) = (l0.length : Int) - 4 by omega] at this
  have HC1 := Aside0.mk (p1 w hr0)
  have HC2 := Aside0.mk (p2 w hr0)
  have HC3 := Aside0.mk (p3 w hr0)
  have HC4 := Aside0.mk (p4 w hr0)
  have HC5 := Aside0.mk (p5 w hr0)
  have HL5 := Aside0.mk g5
  have HG1 := Aside0.mk (fun W h => word_Get.calls A1 (c0 - 1) (mid l0 1 9) v1 W h g1 (by rw [← e1]; rfl))
  have HG2 := Aside0.mk (fun W h => word_Get.calls A2 (c0 - 9) (mid l0 9 11) v2 W h g2 (by rw [← e2]; rfl))
  have HG3 := Aside0.mk (fun W h => word_Get.calls A3 (c0 - 11) (mid l0 11 13) v3 W h g3 (by rw [← e3]; rfl))
  have HG4 := Aside0.mk (fun W h => word_Get.calls A4 (c0 - 13) (mid l0 13 17) v4 W h g4 (by rw [← e4]; rfl))
  have q1' : ∀ W : World, (Instr.slice 22 (.slice A0 l0.length c0) (some (.int .i64 1)) (some (.int .i64 9)) none).run Try.prog W = .ok (.slice A1 (mid l0 1 9).length (c0 - 1)) W := q1
  have q2' : ∀ W : World, (Instr.slice 22 (.slice A0 l0.length c0) (some (.int .i64 9)) (some (.int .i64 11)) none).run Try.prog W = .ok (.slice A2 (mid l0 9 11).length (c0 - 9)) W := q2
  have q3' : ∀ W : World, (Instr.slice 22 (.slice A0 l0.length c0) (some (.int .i64 11)) (some (.int .i64 13)) none).run Try.prog W = .ok (.slice A3 (mid l0 11 13).length (c0 - 11)) W := q3
  have q4' : ∀ W : World, (Instr.slice 22 (.slice A0 l0.length c0) (some (.int .i64 13)) (some (.int .i64 17)) none).run Try.prog W = .ok (.slice A4 (mid l0 13 17).length (c0 - 13)) W := q4
  clear e1 e2 e3 e4 q1 q2 q3 q4 q5 p1 p2 p3 p4 p5 g1 g2 g3 g4 g5 h hr0
  have H21 := Aside0.mk h21
  have h17 : ((l0.length : Int) < 17) = False := eq_false (by omega)
  clear h21
  subst e0
  have h0l : 0 < l0.length := by have := H21.out; omega
  rw [show ad0.add (0 : Int).toNat = ad0 by simp [Addr.add], e6] at hcell0
  have H0 := Aside0.mk hcell0
  clear hcell0 e6
  have HCL := Aside0.mk hrest
  have HCE := Aside0.mk hce
  have HQ := Aside0.mk hq
  have HRES := Aside0.mk hres
  have HE1 := Aside0.mk hkd
  have HE2 := Aside0.mk hvi
  have HE3 := Aside0.mk hvo
  have HE4 := Aside0.mk hvy
  clear hrest hce hq hres hkd hvi hvo hvy
  refine (callsIn_wide (n := 3)).1 ?_
  refine callsIn_of_wp_marks Try.func86 rfl trivial ?_ rfl
  simp only [Try.ntmps86, List.size_toArray, List.length_cons, List.length_nil, Nat.reduceAdd, Nat.reduceSub, Array.replicate_succ, Array.replicate_zero, List.push_toArray, List.append_toArray, List.nil_append, List.cons_append]
  refine wpIn_wide.2 ?_
  go_wp2_with fail
  refine (HC _ (Kd.C_alloc HR.out _)).mono ?_
  rintro e w1 ⟨rfl, hb⟩
  have HK := Aside0.mk (blk_below (blk_new w (.cells #[.int .i64 0, .int .u64 0, .int .i64 0, .int .i64 0, .int .u32 0, .slice none 0 0, .slice none 0 0] 56)) hb)
  have HB := Aside0.mk (below_step (below_alloc (Below.refl w.heap.size w) _) hb)
  clear hb HC
  go_wp2_with fail
  have n0_ := Aside0.mk (blk_drew HK.out)
  have n1_ := Aside0.mk (below_drew1 HB.out)
  clear HK HB
  have HK := n0_
  have HB := n1_
  clear n0_ n1_
  refine Code.wp_mono noPanic_le ?_
  refine start_ (n := 22) (S := fun w' => w'.cell? ad0 = some (.int .u8 b0)) (ds := []) #[false, false, false, false, false, false, false, false, false, false, false, false, false, false, false, false, false, false, false, false, false, false] (by kernel_rfl) rfl rfl (((HB.out.cell (World.block_lt_of_cell? _ _ H0.out)).trans H0.out)) (fun hHeld => ?_)
  generalize w1.drew = W1 at HK HB hHeld ⊢
  refine pure_ (i := 0) (N := some 19) (v := ?_) (a' := ?_) #[true, false, false, false, false, false, false, false, false, false, false, false, false, false, false, false, false, false, false, false, false, false] rfl rfl (by kernel_rfl) (fun _ _ _ h => h) (Or.inl ⟨by rfl, ?_⟩) ?_ ?_
  rotate_left
  · intro w'
    go_simp
    with_reducible rfl
  rotate_left
  · simp only [Act.put, List.setIfInBounds_toArray, List.set_cons_zero, List.set_cons_succ, i64_w, i32_w]
    rfl
  refine pure_ (i := 1) (N := some 20) (v := ?_) (a' := ?_) #[true, true, false, false, false, false, false, false, false, false, false, false, false, false, false, false, false, false, false, false, false, false] rfl rfl (by kernel_rfl) (fun _ _ _ h => h) (Or.inl ⟨by rfl, ?_⟩) ?_ ?_
  rotate_left
  · intro w'
    go_simp
    with_reducible rfl
  rotate_left
  · simp only [Act.put, List.setIfInBounds_toArray, List.set_cons_zero, List.set_cons_succ, i64_w, i32_w]
    rfl
  refine pure_ (i := 4) (N := some 23) (v := ?_) (a' := ?_) #[true, true, false, false, true, false, false, false, false, false, false, false, false, false, false, false, false, false, false, false, false, false] rfl rfl (by kernel_rfl) (fun _ _ _ h => h) (Or.inl ⟨by rfl, ?_⟩) ?_ ?_
  rotate_left
  · intro w'
    go_simp
    with_reducible rfl
  rotate_left
  · simp only [Act.put, List.setIfInBounds_toArray, List.set_cons_zero, List.set_cons_succ, i64_w, i32_w]
    rfl
  refine pure_ (i := 5) (N := some 24) (v := ?_) (a' := ?_) #[true, true, false, false, true, true, false, false, false, false, false, false, false, false, false, false, false, false, false, false, false, false] rfl rfl (by kernel_rfl) (fun _ _ _ h => h) (Or.inl ⟨by rfl, ?_⟩) ?_ ?_
  rotate_left
  · intro w'
    go_simp
    with_reducible rfl
  rotate_left
  · simp only [Act.put, List.setIfInBounds_toArray, List.set_cons_zero, List.set_cons_succ, i64_w, i32_w]
    rfl
  refine pure_ (i := 7) (N := some 26) (v := ?_) (a' := ?_) #[true, true, false, false, true, true, false, true, false, false, false, false, false, false, false, false, false, false, false, false, false, false] rfl rfl (by kernel_rfl) (fun _ _ _ h => h) (Or.inl ⟨by rfl, ?_⟩) ?_ ?_
  rotate_left
  · intro w'
    go_simp
    with_reducible rfl
  rotate_left
  · simp only [Act.put, List.setIfInBounds_toArray, List.set_cons_zero, List.set_cons_succ, i64_w, i32_w]
    rfl
  refine pure_ (i := 8) (N := some 27) (v := ?_) (a' := ?_) #[true, true, false, false, true, true, false, true, true, false, false, false, false, false, false, false, false, false, false, false, false, false] rfl rfl (by kernel_rfl) (fun _ _ _ h => h) (Or.inl ⟨by rfl, ?_⟩) ?_ ?_
  rotate_left
  · intro w'
    go_simp
    with_reducible rfl
  rotate_left
  · simp only [Act.put, List.setIfInBounds_toArray, List.set_cons_zero, List.set_cons_succ, i64_w, i32_w]
    rfl
  refine pure_ (i := 11) (N := some 30) (v := ?_) (a' := ?_) #[true, true, false, false, true, true, false, true, true, false, false, true, false, false, false, false, false, false, false, false, false, false] rfl rfl (by kernel_rfl) (fun _ _ _ h => h) (Or.inl ⟨by rfl, ?_⟩) ?_ ?_
  rotate_left
  · intro w'
    go_simp
    with_reducible rfl
  rotate_left
  · simp only [Act.put, List.setIfInBounds_toArray, List.set_cons_zero, List.set_cons_succ, i64_w, i32_w]
    rfl
  refine pure_ (i := 12) (N := some 31) (v := ?_) (a' := ?_) #[true, true, false, false, true, true, false, true, true, false, false, true, true, false, false, false, false, false, false, false, false, false] rfl rfl (by kernel_rfl) (fun _ _ _ h => h) (Or.inl ⟨by rfl, ?_⟩) ?_ ?_
  rotate_left
  · intro w'
    go_simp
    with_reducible rfl
  rotate_left
  · simp only [Act.put, List.setIfInBounds_toArray, List.set_cons_zero, List.set_cons_succ, i64_w, i32_w]
    rfl
  refine pure_ (i := 15) (N := some 34) (v := ?_) (a' := ?_) #[true, true, false, false, true, true, false, true, true, false, false, true, true, false, false, true, false, false, false, false, false, false] rfl rfl (by kernel_rfl) (fun _ _ _ h => h) (Or.inl ⟨by rfl, ?_⟩) ?_ ?_
  rotate_left
  · intro w'
    go_simp
    with_reducible rfl
  rotate_left
  · simp only [Act.put, List.setIfInBounds_toArray, List.set_cons_zero, List.set_cons_succ, i64_w, i32_w]
    rfl
  refine pure_ (i := 16) (N := some 35) (v := ?_) (a' := ?_) #[true, true, false, false, true, true, false, true, true, false, false, true, true, false, false, true, true, false, false, false, false, false] rfl rfl (by kernel_rfl) (fun _ _ _ h => h) (Or.inl ⟨by rfl, ?_⟩) ?_ ?_
  rotate_left
  · intro w'
    go_simp
    with_reducible rfl
  rotate_left
  · simp only [Act.put, List.setIfInBounds_toArray, List.set_cons_zero, List.set_cons_succ, i64_w, i32_w]
    rfl
  refine take_ (i := 2) (N := some 21) (v := ?_) (a' := ?_) #[true, true, true, false, true, true, false, true, true, false, false, true, true, false, false, true, true, false, false, false, false, false] rfl rfl (by kernel_rfl) (fun _ _ _ h => h) (Or.inl ⟨by rfl, ?_⟩) hHeld ?_ ?_
  rotate_left
  · intro w' s0
    go_simp
    with_reducible rfl
  rotate_left
  · simp only [Act.put, List.setIfInBounds_toArray, List.set_cons_zero, List.set_cons_succ, i64_w, i32_w]
    rfl
  refine pure_ (i := 3) (N := some 22) (v := ?_) (a' := ?_) #[true, true, true, true, true, true, false, true, true, false, false, true, true, false, false, true, true, false, false, false, false, false] rfl rfl (by kernel_rfl) (fun _ _ _ h => h) (Or.inl ⟨by rfl, ?_⟩) ?_ ?_
  rotate_left
  · intro w'
    go_simp
    with_reducible rfl
  rotate_left
  · simp only [Act.put, List.setIfInBounds_toArray, List.set_cons_zero, List.set_cons_succ, i64_w, i32_w]
    rfl
  refine join_ (σ := Nat) 1 #[true, true, true, true, true, true, true, true, true, true, true, true, true, true, true, true, true, true, true, true, true, false] (fun s => [(25, .int .u64 v1), (28, .int .u64 v2), (29, .int .i64 (wrap64 v2)), (32, .int .u64 v3), (33, .int .i64 (wrap64 v3)), (36, .int .u64 v4), (37, .int .u32 (IntKind.u32.wrap v4)), (38, .agg #[.int .i64 (wrap64 b0), .int .u64 v1, .int .i64 (wrap64 v2), .int .i64 (wrap64 v3), .int .u32 (IntKind.u32.wrap v4), .slice none 0 0, .slice none 0 0]), (4, .pointer (some ⟨s, 0, none⟩))]) (fun s w' => w'.heap[w.heap.size]? = some (.cells #[.int .i64 0, .int .u64 0, .int .i64 0, .int .i64 0, .int .u32 0, .slice none 0 0, .slice none 0 0] 56 (0, 0)) ∧ w'.heap[s]? = some (.cells #[.int .i64 0, .int .u64 0, .int .i64 0, .int .i64 0, .int .u32 0, .slice none 0 0, .slice none 0 0] 56 (0, 0)) ∧ Below w.heap.size w w' ∧ w.heap.size < s) ?_ ?_
  rotate_left
  · intro hCont
    refine two_ (i := 6) (j := 20) (Ni := some 25) (Nj := some 4) #[true, true, true, true, true, true, true, true, true, false, false, true, true, false, false, true, true, false, false, false, false, false] #[true, true, true, true, true, true, false, true, true, false, false, true, true, false, false, true, true, false, false, false, true, false] rfl rfl rfl rfl (by kernel_rfl) (by decide) (by decide) (fun K hK => ?_) (fun K hK => ?_)
    · skip
      refine goes_ Try.func129 (by kernel_rfl) rfl #[.slice A1 (mid l0 1 9).length (c0 - 1)] (by rfl) rfl rfl (by first | (simp only [List.map_toArray, List.map_cons, List.map_nil]; done) | (simp only [List.map_toArray, List.map_cons, List.map_nil]; rfl)) ?_
      with_reducible refine (HG1.out _ (Kd.C_below HC1.out HB.out)).mono ?_
      rintro e wc1 ⟨rfl, hb⟩
      refine ⟨_, rfl, ?_⟩
      have n0_ := Aside0.mk (blk_below HK.out hb)
      have n1_ := Aside0.mk (below_step HB.out hb)
      clear HK HB hb
      have HK := n0_
      have HB := n1_
      clear n0_ n1_
      refine hK.out _ _ (((HB.out.cell (World.block_lt_of_cell? _ _ H0.out)).trans H0.out)) (fun hHeld => ?_)
      clear hK K
      refine norm_ (a' := ?_) ?_ ?_
      rotate_left
      · show Act.put _ (some 25) _ = _
        simp only [Act.put, List.setIfInBounds_toArray, List.set_cons_zero, List.set_cons_succ, i64_w, i32_w]
        rfl
      refine two_ (i := 9) (j := 20) (Ni := some 28) (Nj := some 4) #[true, true, true, true, true, true, true, true, true, true, false, true, true, false, false, true, true, false, false, false, false, false] #[true, true, true, true, true, true, true, true, true, false, false, true, true, false, false, true, true, false, false, false, true, false] rfl rfl rfl rfl (by kernel_rfl) (by decide) (by decide) (fun K hK => ?_) (fun K hK => ?_)
      · skip
        refine goes_ Try.func129 (by kernel_rfl) rfl #[.slice A2 (mid l0 9 11).length (c0 - 9)] (by rfl) rfl rfl (by first | (simp only [List.map_toArray, List.map_cons, List.map_nil]; done) | (simp only [List.map_toArray, List.map_cons, List.map_nil]; rfl)) ?_
        with_reducible refine (HG2.out _ (Kd.C_below HC2.out HB.out)).mono ?_
        rintro e wc2 ⟨rfl, hb⟩
        refine ⟨_, rfl, ?_⟩
        have n0_ := Aside0.mk (blk_below HK.out hb)
        have n1_ := Aside0.mk (below_step HB.out hb)
        clear HK HB hb
        have HK := n0_
        have HB := n1_
        clear n0_ n1_
        refine hK.out _ _ (((HB.out.cell (World.block_lt_of_cell? _ _ H0.out)).trans H0.out)) (fun hHeld => ?_)
        clear hK K
        refine norm_ (a' := ?_) ?_ ?_
        rotate_left
        · show Act.put _ (some 28) _ = _
          simp only [Act.put, List.setIfInBounds_toArray, List.set_cons_zero, List.set_cons_succ, i64_w, i32_w]
          rfl
        refine pure_ (i := 10) (N := some 29) (v := ?_) (a' := ?_) #[true, true, true, true, true, true, true, true, true, true, true, true, true, false, false, true, true, false, false, false, false, false] rfl rfl (by kernel_rfl) (fun _ _ _ h => h) (Or.inl ⟨by rfl, ?_⟩) ?_ ?_
        rotate_left
        · intro w'
          go_simp
          with_reducible rfl
        rotate_left
        · simp only [Act.put, List.setIfInBounds_toArray, List.set_cons_zero, List.set_cons_succ, i64_w, i32_w]
          rfl
        refine two_ (i := 13) (j := 20) (Ni := some 32) (Nj := some 4) #[true, true, true, true, true, true, true, true, true, true, true, true, true, true, false, true, true, false, false, false, false, false] #[true, true, true, true, true, true, true, true, true, true, true, true, true, false, false, true, true, false, false, false, true, false] rfl rfl rfl rfl (by kernel_rfl) (by decide) (by decide) (fun K hK => ?_) (fun K hK => ?_)
        · skip
          refine goes_ Try.func129 (by kernel_rfl) rfl #[.slice A3 (mid l0 11 13).length (c0 - 11)] (by rfl) rfl rfl (by first | (simp only [List.map_toArray, List.map_cons, List.map_nil]; done) | (simp only [List.map_toArray, List.map_cons, List.map_nil]; rfl)) ?_
          with_reducible refine (HG3.out _ (Kd.C_below HC3.out HB.out)).mono ?_
          rintro e wc3 ⟨rfl, hb⟩
          refine ⟨_, rfl, ?_⟩
          have n0_ := Aside0.mk (blk_below HK.out hb)
          have n1_ := Aside0.mk (below_step HB.out hb)
          clear HK HB hb
          have HK := n0_
          have HB := n1_
          clear n0_ n1_
          refine hK.out _ _ (((HB.out.cell (World.block_lt_of_cell? _ _ H0.out)).trans H0.out)) (fun hHeld => ?_)
          clear hK K
          refine norm_ (a' := ?_) ?_ ?_
          rotate_left
          · show Act.put _ (some 32) _ = _
            simp only [Act.put, List.setIfInBounds_toArray, List.set_cons_zero, List.set_cons_succ, i64_w, i32_w]
            rfl
          refine pure_ (i := 14) (N := some 33) (v := ?_) (a' := ?_) #[true, true, true, true, true, true, true, true, true, true, true, true, true, true, true, true, true, false, false, false, false, false] rfl rfl (by kernel_rfl) (fun _ _ _ h => h) (Or.inl ⟨by rfl, ?_⟩) ?_ ?_
          rotate_left
          · intro w'
            go_simp
            with_reducible rfl
          rotate_left
          · simp only [Act.put, List.setIfInBounds_toArray, List.set_cons_zero, List.set_cons_succ, i64_w, i32_w]
            rfl
          refine two_ (i := 17) (j := 20) (Ni := some 36) (Nj := some 4) #[true, true, true, true, true, true, true, true, true, true, true, true, true, true, true, true, true, true, false, false, false, false] #[true, true, true, true, true, true, true, true, true, true, true, true, true, true, true, true, true, false, false, false, true, false] rfl rfl rfl rfl (by kernel_rfl) (by decide) (by decide) (fun K hK => ?_) (fun K hK => ?_)
          · skip
            refine goes_ Try.func129 (by kernel_rfl) rfl #[.slice A4 (mid l0 13 17).length (c0 - 13)] (by rfl) rfl rfl (by first | (simp only [List.map_toArray, List.map_cons, List.map_nil]; done) | (simp only [List.map_toArray, List.map_cons, List.map_nil]; rfl)) ?_
            with_reducible refine (HG4.out _ (Kd.C_below HC4.out HB.out)).mono ?_
            rintro e wc4 ⟨rfl, hb⟩
            refine ⟨_, rfl, ?_⟩
            have n0_ := Aside0.mk (blk_below HK.out hb)
            have n1_ := Aside0.mk (below_step HB.out hb)
            clear HK HB hb
            have HK := n0_
            have HB := n1_
            clear n0_ n1_
            refine hK.out _ _ (((HB.out.cell (World.block_lt_of_cell? _ _ H0.out)).trans H0.out)) (fun hHeld => ?_)
            clear hK K
            refine norm_ (a' := ?_) ?_ ?_
            rotate_left
            · show Act.put _ (some 36) _ = _
              simp only [Act.put, List.setIfInBounds_toArray, List.set_cons_zero, List.set_cons_succ, i64_w, i32_w]
              rfl
            refine pure_ (i := 18) (N := some 37) (v := ?_) (a' := ?_) #[true, true, true, true, true, true, true, true, true, true, true, true, true, true, true, true, true, true, true, false, false, false] rfl rfl (by kernel_rfl) (fun _ _ _ h => h) (Or.inl ⟨by rfl, ?_⟩) ?_ ?_
            rotate_left
            · intro w'
              go_simp
              with_reducible rfl
            rotate_left
            · simp only [Act.put, List.setIfInBounds_toArray, List.set_cons_zero, List.set_cons_succ, i64_w, i32_w]
              rfl
            refine pure_ (i := 19) (N := some 38) (v := ?_) (a' := ?_) #[true, true, true, true, true, true, true, true, true, true, true, true, true, true, true, true, true, true, true, true, false, false] rfl rfl (by kernel_rfl) (fun _ _ _ h => h) (Or.inl ⟨by rfl, ?_⟩) ?_ ?_
            rotate_left
            · intro w'
              go_simp
              with_reducible rfl
            rotate_left
            · simp only [Act.put, List.setIfInBounds_toArray, List.set_cons_zero, List.set_cons_succ, i64_w, i32_w]
              rfl
            refine one_ (i := 20) (N := some 4) #[true, true, true, true, true, true, true, true, true, true, true, true, true, true, true, true, true, true, true, true, true, false] rfl rfl (by kernel_rfl) (by decide) (fun K hK => ?_)
            have HL := Aside0.mk (blk_lt HK.out)
            refine value_ (w1 := ?_) (v := ?_) (by rfl) rfl ?_ ?_
            rotate_left 2
            · go_simp
              constructor
              · rfl
              · rfl
            have HT := Aside0.mk (blk_new _ (.cells #[.int .i64 0, .int .u64 0, .int .i64 0, .int .i64 0, .int .u32 0, .slice none 0 0, .slice none 0 0] 56) : (wc4.alloc (.cells #[.int .i64 0, .int .u64 0, .int .i64 0, .int .i64 0, .int .u32 0, .slice none 0 0, .slice none 0 0] 56)).heap[wc4.heap.size]? = _)
            have n0_ := Aside0.mk (blk_alloc HK.out (.cells #[.int .i64 0, .int .u64 0, .int .i64 0, .int .i64 0, .int .u32 0, .slice none 0 0, .slice none 0 0] 56))
            have n1_ := Aside0.mk (below_alloc HB.out (.cells #[.int .i64 0, .int .u64 0, .int .i64 0, .int .i64 0, .int .u32 0, .slice none 0 0, .slice none 0 0] 56))
            clear HK HB
            have HK := n0_
            have HB := n1_
            clear n0_ n1_
            refine hK.out _ _ (((HB.out.cell (World.block_lt_of_cell? _ _ H0.out)).trans H0.out)) (fun hHeld => ?_)
            clear hK K
            refine norm_ (a' := ?_) ?_ ?_
            rotate_left
            · show Act.put _ (some 4) _ = _
              simp only [Act.put, List.setIfInBounds_toArray, List.set_cons_zero, List.set_cons_succ, i64_w, i32_w]
              rfl
            exact norm_ (by simp only [putAll, Act.put, List.setIfInBounds_toArray, List.set_cons_zero, List.set_cons_succ]) (hCont wc4.heap.size _ ⟨HK.out, HT.out, HB.out, HL.out⟩)
          · skip
            have HL := Aside0.mk (blk_lt HK.out)
            refine value_ (w1 := ?_) (v := ?_) (by rfl) rfl ?_ ?_
            rotate_left 2
            · go_simp
              constructor
              · rfl
              · rfl
            have HT := Aside0.mk (blk_new _ (.cells #[.int .i64 0, .int .u64 0, .int .i64 0, .int .i64 0, .int .u32 0, .slice none 0 0, .slice none 0 0] 56) : (wc3.alloc (.cells #[.int .i64 0, .int .u64 0, .int .i64 0, .int .i64 0, .int .u32 0, .slice none 0 0, .slice none 0 0] 56)).heap[wc3.heap.size]? = _)
            have n0_ := Aside0.mk (blk_alloc HK.out (.cells #[.int .i64 0, .int .u64 0, .int .i64 0, .int .i64 0, .int .u32 0, .slice none 0 0, .slice none 0 0] 56))
            have n1_ := Aside0.mk (below_alloc HB.out (.cells #[.int .i64 0, .int .u64 0, .int .i64 0, .int .i64 0, .int .u32 0, .slice none 0 0, .slice none 0 0] 56))
            clear HK HB
            have HK := n0_
            have HB := n1_
            clear n0_ n1_
            refine hK.out _ _ (((HB.out.cell (World.block_lt_of_cell? _ _ H0.out)).trans H0.out)) (fun hHeld => ?_)
            clear hK K
            refine norm_ (a' := ?_) ?_ ?_
            rotate_left
            · show Act.put _ (some 4) _ = _
              simp only [Act.put, List.setIfInBounds_toArray, List.set_cons_zero, List.set_cons_succ, i64_w, i32_w]
              rfl
            refine one_ (i := 17) (N := some 36) #[true, true, true, true, true, true, true, true, true, true, true, true, true, true, true, true, true, true, false, false, true, false] rfl rfl (by kernel_rfl) (by decide) (fun K hK => ?_)
            refine goes_ Try.func129 (by kernel_rfl) rfl #[.slice A4 (mid l0 13 17).length (c0 - 13)] (by rfl) rfl rfl (by first | (simp only [List.map_toArray, List.map_cons, List.map_nil]; done) | (simp only [List.map_toArray, List.map_cons, List.map_nil]; rfl)) ?_
            with_reducible refine (HG4.out _ (Kd.C_below HC4.out HB.out)).mono ?_
            rintro e wc4 ⟨rfl, hb⟩
            refine ⟨_, rfl, ?_⟩
            have n0_ := Aside0.mk (blk_below HK.out hb)
            have n1_ := Aside0.mk (below_step HB.out hb)
            have n2_ := Aside0.mk (blk_below HT.out hb)
            clear HK HB HT hb
            have HK := n0_
            have HB := n1_
            have HT := n2_
            clear n2_
            clear n0_ n1_
            refine hK.out _ _ (((HB.out.cell (World.block_lt_of_cell? _ _ H0.out)).trans H0.out)) (fun hHeld => ?_)
            clear hK K
            refine norm_ (a' := ?_) ?_ ?_
            rotate_left
            · show Act.put _ (some 36) _ = _
              simp only [Act.put, List.setIfInBounds_toArray, List.set_cons_zero, List.set_cons_succ, i64_w, i32_w]
              rfl
            refine pure_ (i := 18) (N := some 37) (v := ?_) (a' := ?_) #[true, true, true, true, true, true, true, true, true, true, true, true, true, true, true, true, true, true, true, false, true, false] rfl rfl (by kernel_rfl) (fun _ _ _ h => h) (Or.inl ⟨by rfl, ?_⟩) ?_ ?_
            rotate_left
            · intro w'
              go_simp
              with_reducible rfl
            rotate_left
            · simp only [Act.put, List.setIfInBounds_toArray, List.set_cons_zero, List.set_cons_succ, i64_w, i32_w]
              rfl
            refine pure_ (i := 19) (N := some 38) (v := ?_) (a' := ?_) #[true, true, true, true, true, true, true, true, true, true, true, true, true, true, true, true, true, true, true, true, true, false] rfl rfl (by kernel_rfl) (fun _ _ _ h => h) (Or.inl ⟨by rfl, ?_⟩) ?_ ?_
            rotate_left
            · intro w'
              go_simp
              with_reducible rfl
            rotate_left
            · simp only [Act.put, List.setIfInBounds_toArray, List.set_cons_zero, List.set_cons_succ, i64_w, i32_w]
              rfl
            exact norm_ (by simp only [putAll, Act.put, List.setIfInBounds_toArray, List.set_cons_zero, List.set_cons_succ]) (hCont wc3.heap.size _ ⟨HK.out, HT.out, HB.out, HL.out⟩)
        · skip
          have HL := Aside0.mk (blk_lt HK.out)
          refine value_ (w1 := ?_) (v := ?_) (by rfl) rfl ?_ ?_
          rotate_left 2
          · go_simp
            constructor
            · rfl
            · rfl
          have HT := Aside0.mk (blk_new _ (.cells #[.int .i64 0, .int .u64 0, .int .i64 0, .int .i64 0, .int .u32 0, .slice none 0 0, .slice none 0 0] 56) : (wc2.alloc (.cells #[.int .i64 0, .int .u64 0, .int .i64 0, .int .i64 0, .int .u32 0, .slice none 0 0, .slice none 0 0] 56)).heap[wc2.heap.size]? = _)
          have n0_ := Aside0.mk (blk_alloc HK.out (.cells #[.int .i64 0, .int .u64 0, .int .i64 0, .int .i64 0, .int .u32 0, .slice none 0 0, .slice none 0 0] 56))
          have n1_ := Aside0.mk (below_alloc HB.out (.cells #[.int .i64 0, .int .u64 0, .int .i64 0, .int .i64 0, .int .u32 0, .slice none 0 0, .slice none 0 0] 56))
          clear HK HB
          have HK := n0_
          have HB := n1_
          clear n0_ n1_
          refine hK.out _ _ (((HB.out.cell (World.block_lt_of_cell? _ _ H0.out)).trans H0.out)) (fun hHeld => ?_)
          clear hK K
          refine norm_ (a' := ?_) ?_ ?_
          rotate_left
          · show Act.put _ (some 4) _ = _
            simp only [Act.put, List.setIfInBounds_toArray, List.set_cons_zero, List.set_cons_succ, i64_w, i32_w]
            rfl
          refine one_ (i := 13) (N := some 32) #[true, true, true, true, true, true, true, true, true, true, true, true, true, true, false, true, true, false, false, false, true, false] rfl rfl (by kernel_rfl) (by decide) (fun K hK => ?_)
          refine goes_ Try.func129 (by kernel_rfl) rfl #[.slice A3 (mid l0 11 13).length (c0 - 11)] (by rfl) rfl rfl (by first | (simp only [List.map_toArray, List.map_cons, List.map_nil]; done) | (simp only [List.map_toArray, List.map_cons, List.map_nil]; rfl)) ?_
          with_reducible refine (HG3.out _ (Kd.C_below HC3.out HB.out)).mono ?_
          rintro e wc3 ⟨rfl, hb⟩
          refine ⟨_, rfl, ?_⟩
          have n0_ := Aside0.mk (blk_below HK.out hb)
          have n1_ := Aside0.mk (below_step HB.out hb)
          have n2_ := Aside0.mk (blk_below HT.out hb)
          clear HK HB HT hb
          have HK := n0_
          have HB := n1_
          have HT := n2_
          clear n2_
          clear n0_ n1_
          refine hK.out _ _ (((HB.out.cell (World.block_lt_of_cell? _ _ H0.out)).trans H0.out)) (fun hHeld => ?_)
          clear hK K
          refine norm_ (a' := ?_) ?_ ?_
          rotate_left
          · show Act.put _ (some 32) _ = _
            simp only [Act.put, List.setIfInBounds_toArray, List.set_cons_zero, List.set_cons_succ, i64_w, i32_w]
            rfl
          refine pure_ (i := 14) (N := some 33) (v := ?_) (a' := ?_) #[true, true, true, true, true, true, true, true, true, true, true, true, true, true, true, true, true, false, false, false, true, false] rfl rfl (by kernel_rfl) (fun _ _ _ h => h) (Or.inl ⟨by rfl, ?_⟩) ?_ ?_
          rotate_left
          · intro w'
            go_simp
            with_reducible rfl
          rotate_left
          · simp only [Act.put, List.setIfInBounds_toArray, List.set_cons_zero, List.set_cons_succ, i64_w, i32_w]
            rfl
          refine one_ (i := 17) (N := some 36) #[true, true, true, true, true, true, true, true, true, true, true, true, true, true, true, true, true, true, false, false, true, false] rfl rfl (by kernel_rfl) (by decide) (fun K hK => ?_)
          refine goes_ Try.func129 (by kernel_rfl) rfl #[.slice A4 (mid l0 13 17).length (c0 - 13)] (by rfl) rfl rfl (by first | (simp only [List.map_toArray, List.map_cons, List.map_nil]; done) | (simp only [List.map_toArray, List.map_cons, List.map_nil]; rfl)) ?_
          with_reducible refine (HG4.out _ (Kd.C_below HC4.out HB.out)).mono ?_
          rintro e wc4 ⟨rfl, hb⟩
          refine ⟨_, rfl, ?_⟩
          have n0_ := Aside0.mk (blk_below HK.out hb)
          have n1_ := Aside0.mk (below_step HB.out hb)
          have n2_ := Aside0.mk (blk_below HT.out hb)
          clear HK HB HT hb
          have HK := n0_
          have HB := n1_
          have HT := n2_
          clear n2_
          clear n0_ n1_
          refine hK.out _ _ (((HB.out.cell (World.block_lt_of_cell? _ _ H0.out)).trans H0.out)) (fun hHeld => ?_)
          clear hK K
          refine norm_ (a' := ?_) ?_ ?_
          rotate_left
          · show Act.put _ (some 36) _ = _
            simp only [Act.put, List.setIfInBounds_toArray, List.set_cons_zero, List.set_cons_succ, i64_w, i32_w]
            rfl
          refine pure_ (i := 18) (N := some 37) (v := ?_) (a' := ?_) #[true, true, true, true, true, true, true, true, true, true, true, true, true, true, true, true, true, true, true, false, true, false] rfl rfl (by kernel_rfl) (fun _ _ _ h => h) (Or.inl ⟨by rfl, ?_⟩) ?_ ?_
          rotate_left
          · intro w'
            go_simp
            with_reducible rfl
          rotate_left
          · simp only [Act.put, List.setIfInBounds_toArray, List.set_cons_zero, List.set_cons_succ, i64_w, i32_w]
            rfl
          refine pure_ (i := 19) (N := some 38) (v := ?_) (a' := ?_) #[true, true, true, true, true, true, true, true, true, true, true, true, true, true, true, true, true, true, true, true, true, false] rfl rfl (by kernel_rfl) (fun _ _ _ h => h) (Or.inl ⟨by rfl, ?_⟩) ?_ ?_
          rotate_left
          · intro w'
            go_simp
            with_reducible rfl
          rotate_left
          · simp only [Act.put, List.setIfInBounds_toArray, List.set_cons_zero, List.set_cons_succ, i64_w, i32_w]
            rfl
          exact norm_ (by simp only [putAll, Act.put, List.setIfInBounds_toArray, List.set_cons_zero, List.set_cons_succ]) (hCont wc2.heap.size _ ⟨HK.out, HT.out, HB.out, HL.out⟩)
      · skip
        have HL := Aside0.mk (blk_lt HK.out)
        refine value_ (w1 := ?_) (v := ?_) (by rfl) rfl ?_ ?_
        rotate_left 2
        · go_simp
          constructor
          · rfl
          · rfl
        have HT := Aside0.mk (blk_new _ (.cells #[.int .i64 0, .int .u64 0, .int .i64 0, .int .i64 0, .int .u32 0, .slice none 0 0, .slice none 0 0] 56) : (wc1.alloc (.cells #[.int .i64 0, .int .u64 0, .int .i64 0, .int .i64 0, .int .u32 0, .slice none 0 0, .slice none 0 0] 56)).heap[wc1.heap.size]? = _)
        have n0_ := Aside0.mk (blk_alloc HK.out (.cells #[.int .i64 0, .int .u64 0, .int .i64 0, .int .i64 0, .int .u32 0, .slice none 0 0, .slice none 0 0] 56))
        have n1_ := Aside0.mk (below_alloc HB.out (.cells #[.int .i64 0, .int .u64 0, .int .i64 0, .int .i64 0, .int .u32 0, .slice none 0 0, .slice none 0 0] 56))
        clear HK HB
        have HK := n0_
        have HB := n1_
        clear n0_ n1_
        refine hK.out _ _ (((HB.out.cell (World.block_lt_of_cell? _ _ H0.out)).trans H0.out)) (fun hHeld => ?_)
        clear hK K
        refine norm_ (a' := ?_) ?_ ?_
        rotate_left
        · show Act.put _ (some 4) _ = _
          simp only [Act.put, List.setIfInBounds_toArray, List.set_cons_zero, List.set_cons_succ, i64_w, i32_w]
          rfl
        refine one_ (i := 9) (N := some 28) #[true, true, true, true, true, true, true, true, true, true, false, true, true, false, false, true, true, false, false, false, true, false] rfl rfl (by kernel_rfl) (by decide) (fun K hK => ?_)
        refine goes_ Try.func129 (by kernel_rfl) rfl #[.slice A2 (mid l0 9 11).length (c0 - 9)] (by rfl) rfl rfl (by first | (simp only [List.map_toArray, List.map_cons, List.map_nil]; done) | (simp only [List.map_toArray, List.map_cons, List.map_nil]; rfl)) ?_
        with_reducible refine (HG2.out _ (Kd.C_below HC2.out HB.out)).mono ?_
        rintro e wc2 ⟨rfl, hb⟩
        refine ⟨_, rfl, ?_⟩
        have n0_ := Aside0.mk (blk_below HK.out hb)
        have n1_ := Aside0.mk (below_step HB.out hb)
        have n2_ := Aside0.mk (blk_below HT.out hb)
        clear HK HB HT hb
        have HK := n0_
        have HB := n1_
        have HT := n2_
        clear n2_
        clear n0_ n1_
        refine hK.out _ _ (((HB.out.cell (World.block_lt_of_cell? _ _ H0.out)).trans H0.out)) (fun hHeld => ?_)
        clear hK K
        refine norm_ (a' := ?_) ?_ ?_
        rotate_left
        · show Act.put _ (some 28) _ = _
          simp only [Act.put, List.setIfInBounds_toArray, List.set_cons_zero, List.set_cons_succ, i64_w, i32_w]
          rfl
        refine pure_ (i := 10) (N := some 29) (v := ?_) (a' := ?_) #[true, true, true, true, true, true, true, true, true, true, true, true, true, false, false, true, true, false, false, false, true, false] rfl rfl (by kernel_rfl) (fun _ _ _ h => h) (Or.inl ⟨by rfl, ?_⟩) ?_ ?_
        rotate_left
        · intro w'
          go_simp
          with_reducible rfl
        rotate_left
        · simp only [Act.put, List.setIfInBounds_toArray, List.set_cons_zero, List.set_cons_succ, i64_w, i32_w]
          rfl
        refine one_ (i := 13) (N := some 32) #[true, true, true, true, true, true, true, true, true, true, true, true, true, true, false, true, true, false, false, false, true, false] rfl rfl (by kernel_rfl) (by decide) (fun K hK => ?_)
        refine goes_ Try.func129 (by kernel_rfl) rfl #[.slice A3 (mid l0 11 13).length (c0 - 11)] (by rfl) rfl rfl (by first | (simp only [List.map_toArray, List.map_cons, List.map_nil]; done) | (simp only [List.map_toArray, List.map_cons, List.map_nil]; rfl)) ?_
        with_reducible refine (HG3.out _ (Kd.C_below HC3.out HB.out)).mono ?_
        rintro e wc3 ⟨rfl, hb⟩
        refine ⟨_, rfl, ?_⟩
        have n0_ := Aside0.mk (blk_below HK.out hb)
        have n1_ := Aside0.mk (below_step HB.out hb)
        have n2_ := Aside0.mk (blk_below HT.out hb)
        clear HK HB HT hb
        have HK := n0_
        have HB := n1_
        have HT := n2_
        clear n2_
        clear n0_ n1_
        refine hK.out _ _ (((HB.out.cell (World.block_lt_of_cell? _ _ H0.out)).trans H0.out)) (fun hHeld => ?_)
        clear hK K
        refine norm_ (a' := ?_) ?_ ?_
        rotate_left
        · show Act.put _ (some 32) _ = _
          simp only [Act.put, List.setIfInBounds_toArray, List.set_cons_zero, List.set_cons_succ, i64_w, i32_w]
          rfl
        refine pure_ (i := 14) (N := some 33) (v := ?_) (a' := ?_) #[true, true, true, true, true, true, true, true, true, true, true, true, true, true, true, true, true, false, false, false, true, false] rfl rfl (by kernel_rfl) (fun _ _ _ h => h) (Or.inl ⟨by rfl, ?_⟩) ?_ ?_
        rotate_left
        · intro w'
          go_simp
          with_reducible rfl
        rotate_left
        · simp only [Act.put, List.setIfInBounds_toArray, List.set_cons_zero, List.set_cons_succ, i64_w, i32_w]
          rfl
        refine one_ (i := 17) (N := some 36) #[true, true, true, true, true, true, true, true, true, true, true, true, true, true, true, true, true, true, false, false, true, false] rfl rfl (by kernel_rfl) (by decide) (fun K hK => ?_)
        refine goes_ Try.func129 (by kernel_rfl) rfl #[.slice A4 (mid l0 13 17).length (c0 - 13)] (by rfl) rfl rfl (by first | (simp only [List.map_toArray, List.map_cons, List.map_nil]; done) | (simp only [List.map_toArray, List.map_cons, List.map_nil]; rfl)) ?_
        with_reducible refine (HG4.out _ (Kd.C_below HC4.out HB.out)).mono ?_
        rintro e wc4 ⟨rfl, hb⟩
        refine ⟨_, rfl, ?_⟩
        have n0_ := Aside0.mk (blk_below HK.out hb)
        have n1_ := Aside0.mk (below_step HB.out hb)
        have n2_ := Aside0.mk (blk_below HT.out hb)
        clear HK HB HT hb
        have HK := n0_
        have HB := n1_
        have HT := n2_
        clear n2_
        clear n0_ n1_
        refine hK.out _ _ (((HB.out.cell (World.block_lt_of_cell? _ _ H0.out)).trans H0.out)) (fun hHeld => ?_)
        clear hK K
        refine norm_ (a' := ?_) ?_ ?_
        rotate_left
        · show Act.put _ (some 36) _ = _
          simp only [Act.put, List.setIfInBounds_toArray, List.set_cons_zero, List.set_cons_succ, i64_w, i32_w]
          rfl
        refine pure_ (i := 18) (N := some 37) (v := ?_) (a' := ?_) #[true, true, true, true, true, true, true, true, true, true, true, true, true, true, true, true, true, true, true, false, true, false] rfl rfl (by kernel_rfl) (fun _ _ _ h => h) (Or.inl ⟨by rfl, ?_⟩) ?_ ?_
        rotate_left
        · intro w'
          go_simp
          with_reducible rfl
        rotate_left
        · simp only [Act.put, List.setIfInBounds_toArray, List.set_cons_zero, List.set_cons_succ, i64_w, i32_w]
          rfl
        refine pure_ (i := 19) (N := some 38) (v := ?_) (a' := ?_) #[true, true, true, true, true, true, true, true, true, true, true, true, true, true, true, true, true, true, true, true, true, false] rfl rfl (by kernel_rfl) (fun _ _ _ h => h) (Or.inl ⟨by rfl, ?_⟩) ?_ ?_
        rotate_left
        · intro w'
          go_simp
          with_reducible rfl
        rotate_left
        · simp only [Act.put, List.setIfInBounds_toArray, List.set_cons_zero, List.set_cons_succ, i64_w, i32_w]
          rfl
        exact norm_ (by simp only [putAll, Act.put, List.setIfInBounds_toArray, List.set_cons_zero, List.set_cons_succ]) (hCont wc1.heap.size _ ⟨HK.out, HT.out, HB.out, HL.out⟩)
    · skip
      have HL := Aside0.mk (blk_lt HK.out)
      refine value_ (w1 := ?_) (v := ?_) (by rfl) rfl ?_ ?_
      rotate_left 2
      · go_simp
        constructor
        · rfl
        · rfl
      have HT := Aside0.mk (blk_new _ (.cells #[.int .i64 0, .int .u64 0, .int .i64 0, .int .i64 0, .int .u32 0, .slice none 0 0, .slice none 0 0] 56) : (W1.alloc (.cells #[.int .i64 0, .int .u64 0, .int .i64 0, .int .i64 0, .int .u32 0, .slice none 0 0, .slice none 0 0] 56)).heap[W1.heap.size]? = _)
      have n0_ := Aside0.mk (blk_alloc HK.out (.cells #[.int .i64 0, .int .u64 0, .int .i64 0, .int .i64 0, .int .u32 0, .slice none 0 0, .slice none 0 0] 56))
      have n1_ := Aside0.mk (below_alloc HB.out (.cells #[.int .i64 0, .int .u64 0, .int .i64 0, .int .i64 0, .int .u32 0, .slice none 0 0, .slice none 0 0] 56))
      clear HK HB
      have HK := n0_
      have HB := n1_
      clear n0_ n1_
      refine hK.out _ _ (((HB.out.cell (World.block_lt_of_cell? _ _ H0.out)).trans H0.out)) (fun hHeld => ?_)
      clear hK K
      refine norm_ (a' := ?_) ?_ ?_
      rotate_left
      · show Act.put _ (some 4) _ = _
        simp only [Act.put, List.setIfInBounds_toArray, List.set_cons_zero, List.set_cons_succ, i64_w, i32_w]
        rfl
      refine one_ (i := 6) (N := some 25) #[true, true, true, true, true, true, true, true, true, false, false, true, true, false, false, true, true, false, false, false, true, false] rfl rfl (by kernel_rfl) (by decide) (fun K hK => ?_)
      refine goes_ Try.func129 (by kernel_rfl) rfl #[.slice A1 (mid l0 1 9).length (c0 - 1)] (by rfl) rfl rfl (by first | (simp only [List.map_toArray, List.map_cons, List.map_nil]; done) | (simp only [List.map_toArray, List.map_cons, List.map_nil]; rfl)) ?_
      with_reducible refine (HG1.out _ (Kd.C_below HC1.out HB.out)).mono ?_
      rintro e wc1 ⟨rfl, hb⟩
      refine ⟨_, rfl, ?_⟩
      have n0_ := Aside0.mk (blk_below HK.out hb)
      have n1_ := Aside0.mk (below_step HB.out hb)
      have n2_ := Aside0.mk (blk_below HT.out hb)
      clear HK HB HT hb
      have HK := n0_
      have HB := n1_
      have HT := n2_
      clear n2_
      clear n0_ n1_
      refine hK.out _ _ (((HB.out.cell (World.block_lt_of_cell? _ _ H0.out)).trans H0.out)) (fun hHeld => ?_)
      clear hK K
      refine norm_ (a' := ?_) ?_ ?_
      rotate_left
      · show Act.put _ (some 25) _ = _
        simp only [Act.put, List.setIfInBounds_toArray, List.set_cons_zero, List.set_cons_succ, i64_w, i32_w]
        rfl
      refine one_ (i := 9) (N := some 28) #[true, true, true, true, true, true, true, true, true, true, false, true, true, false, false, true, true, false, false, false, true, false] rfl rfl (by kernel_rfl) (by decide) (fun K hK => ?_)
      refine goes_ Try.func129 (by kernel_rfl) rfl #[.slice A2 (mid l0 9 11).length (c0 - 9)] (by rfl) rfl rfl (by first | (simp only [List.map_toArray, List.map_cons, List.map_nil]; done) | (simp only [List.map_toArray, List.map_cons, List.map_nil]; rfl)) ?_
      with_reducible refine (HG2.out _ (Kd.C_below HC2.out HB.out)).mono ?_
      rintro e wc2 ⟨rfl, hb⟩
      refine ⟨_, rfl, ?_⟩
      have n0_ := Aside0.mk (blk_below HK.out hb)
      have n1_ := Aside0.mk (below_step HB.out hb)
      have n2_ := Aside0.mk (blk_below HT.out hb)
      clear HK HB HT hb
      have HK := n0_
      have HB := n1_
      have HT := n2_
      clear n2_
      clear n0_ n1_
      refine hK.out _ _ (((HB.out.cell (World.block_lt_of_cell? _ _ H0.out)).trans H0.out)) (fun hHeld => ?_)
      clear hK K
      refine norm_ (a' := ?_) ?_ ?_
      rotate_left
      · show Act.put _ (some 28) _ = _
        simp only [Act.put, List.setIfInBounds_toArray, List.set_cons_zero, List.set_cons_succ, i64_w, i32_w]
        rfl
      refine pure_ (i := 10) (N := some 29) (v := ?_) (a' := ?_) #[true, true, true, true, true, true, true, true, true, true, true, true, true, false, false, true, true, false, false, false, true, false] rfl rfl (by kernel_rfl) (fun _ _ _ h => h) (Or.inl ⟨by rfl, ?_⟩) ?_ ?_
      rotate_left
      · intro w'
        go_simp
        with_reducible rfl
      rotate_left
      · simp only [Act.put, List.setIfInBounds_toArray, List.set_cons_zero, List.set_cons_succ, i64_w, i32_w]
        rfl
      refine one_ (i := 13) (N := some 32) #[true, true, true, true, true, true, true, true, true, true, true, true, true, true, false, true, true, false, false, false, true, false] rfl rfl (by kernel_rfl) (by decide) (fun K hK => ?_)
      refine goes_ Try.func129 (by kernel_rfl) rfl #[.slice A3 (mid l0 11 13).length (c0 - 11)] (by rfl) rfl rfl (by first | (simp only [List.map_toArray, List.map_cons, List.map_nil]; done) | (simp only [List.map_toArray, List.map_cons, List.map_nil]; rfl)) ?_
      with_reducible refine (HG3.out _ (Kd.C_below HC3.out HB.out)).mono ?_
      rintro e wc3 ⟨rfl, hb⟩
      refine ⟨_, rfl, ?_⟩
      have n0_ := Aside0.mk (blk_below HK.out hb)
      have n1_ := Aside0.mk (below_step HB.out hb)
      have n2_ := Aside0.mk (blk_below HT.out hb)
      clear HK HB HT hb
      have HK := n0_
      have HB := n1_
      have HT := n2_
      clear n2_
      clear n0_ n1_
      refine hK.out _ _ (((HB.out.cell (World.block_lt_of_cell? _ _ H0.out)).trans H0.out)) (fun hHeld => ?_)
      clear hK K
      refine norm_ (a' := ?_) ?_ ?_
      rotate_left
      · show Act.put _ (some 32) _ = _
        simp only [Act.put, List.setIfInBounds_toArray, List.set_cons_zero, List.set_cons_succ, i64_w, i32_w]
        rfl
      refine pure_ (i := 14) (N := some 33) (v := ?_) (a' := ?_) #[true, true, true, true, true, true, true, true, true, true, true, true, true, true, true, true, true, false, false, false, true, false] rfl rfl (by kernel_rfl) (fun _ _ _ h => h) (Or.inl ⟨by rfl, ?_⟩) ?_ ?_
      rotate_left
      · intro w'
        go_simp
        with_reducible rfl
      rotate_left
      · simp only [Act.put, List.setIfInBounds_toArray, List.set_cons_zero, List.set_cons_succ, i64_w, i32_w]
        rfl
      refine one_ (i := 17) (N := some 36) #[true, true, true, true, true, true, true, true, true, true, true, true, true, true, true, true, true, true, false, false, true, false] rfl rfl (by kernel_rfl) (by decide) (fun K hK => ?_)
      refine goes_ Try.func129 (by kernel_rfl) rfl #[.slice A4 (mid l0 13 17).length (c0 - 13)] (by rfl) rfl rfl (by first | (simp only [List.map_toArray, List.map_cons, List.map_nil]; done) | (simp only [List.map_toArray, List.map_cons, List.map_nil]; rfl)) ?_
      with_reducible refine (HG4.out _ (Kd.C_below HC4.out HB.out)).mono ?_
      rintro e wc4 ⟨rfl, hb⟩
      refine ⟨_, rfl, ?_⟩
      have n0_ := Aside0.mk (blk_below HK.out hb)
      have n1_ := Aside0.mk (below_step HB.out hb)
      have n2_ := Aside0.mk (blk_below HT.out hb)
      clear HK HB HT hb
      have HK := n0_
      have HB := n1_
      have HT := n2_
      clear n2_
      clear n0_ n1_
      refine hK.out _ _ (((HB.out.cell (World.block_lt_of_cell? _ _ H0.out)).trans H0.out)) (fun hHeld => ?_)
      clear hK K
      refine norm_ (a' := ?_) ?_ ?_
      rotate_left
      · show Act.put _ (some 36) _ = _
        simp only [Act.put, List.setIfInBounds_toArray, List.set_cons_zero, List.set_cons_succ, i64_w, i32_w]
        rfl
      refine pure_ (i := 18) (N := some 37) (v := ?_) (a' := ?_) #[true, true, true, true, true, true, true, true, true, true, true, true, true, true, true, true, true, true, true, false, true, false] rfl rfl (by kernel_rfl) (fun _ _ _ h => h) (Or.inl ⟨by rfl, ?_⟩) ?_ ?_
      rotate_left
      · intro w'
        go_simp
        with_reducible rfl
      rotate_left
      · simp only [Act.put, List.setIfInBounds_toArray, List.set_cons_zero, List.set_cons_succ, i64_w, i32_w]
        rfl
      refine pure_ (i := 19) (N := some 38) (v := ?_) (a' := ?_) #[true, true, true, true, true, true, true, true, true, true, true, true, true, true, true, true, true, true, true, true, true, false] rfl rfl (by kernel_rfl) (fun _ _ _ h => h) (Or.inl ⟨by rfl, ?_⟩) ?_ ?_
      rotate_left
      · intro w'
        go_simp
        with_reducible rfl
      rotate_left
      · simp only [Act.put, List.setIfInBounds_toArray, List.set_cons_zero, List.set_cons_succ, i64_w, i32_w]
        rfl
      exact norm_ (by simp only [putAll, Act.put, List.setIfInBounds_toArray, List.set_cons_zero, List.set_cons_succ]) (hCont W1.heap.size _ ⟨HK.out, HT.out, HB.out, HL.out⟩)
  rintro T w5 ⟨hk5, ht5, hb5, hl5⟩
  have HK := Aside0.mk hk5
  have HT := Aside0.mk ht5
  have HB := Aside0.mk hb5
  have HL := Aside0.mk hl5
  have hHeld : w5.cell? ad0 = some (.int .u8 b0) := ((HB.out.cell (World.block_lt_of_cell? _ _ H0.out)).trans H0.out)
  clear hk5 ht5 hb5 hl5
  refine norm_ (a' := ?_) ?_ ?_
  rotate_left
  · simp only [putAll, Act.put, List.setIfInBounds_toArray, List.set_cons_zero, List.set_cons_succ]
    rfl
  refine one_ (i := 21) (N := none) #[true, true, true, true, true, true, true, true, true, true, true, true, true, true, true, true, true, true, true, true, true, true] rfl rfl (by kernel_rfl) (by decide) (fun K hK => ?_)
  have t0 : w5.cell? ⟨T, 0, none⟩ = some (.int .i64 0) := (blk_cell HT.out 0).trans rfl
  have t1 : w5.cell? ⟨T, 1, none⟩ = some (.int .u64 0) := (blk_cell HT.out 1).trans rfl
  have t2 : w5.cell? ⟨T, 2, none⟩ = some (.int .i64 0) := (blk_cell HT.out 2).trans rfl
  have t3 : w5.cell? ⟨T, 3, none⟩ = some (.int .i64 0) := (blk_cell HT.out 3).trans rfl
  have t4 : w5.cell? ⟨T, 4, none⟩ = some (.int .u32 0) := (blk_cell HT.out 4).trans rfl
  have t5 : w5.cell? ⟨T, 5, none⟩ = some (.slice none 0 0) := (blk_cell HT.out 5).trans rfl
  have t6 : w5.cell? ⟨T, 6, none⟩ = some (.slice none 0 0) := (blk_cell HT.out 6).trans rfl
  have tf0 : w5.frozen? ⟨T, 0, none⟩ = false := blk_frozen HT.out 0
  have tf1 : w5.frozen? ⟨T, 1, none⟩ = false := blk_frozen HT.out 1
  have tf2 : w5.frozen? ⟨T, 2, none⟩ = false := blk_frozen HT.out 2
  have tf3 : w5.frozen? ⟨T, 3, none⟩ = false := blk_frozen HT.out 3
  have tf4 : w5.frozen? ⟨T, 4, none⟩ = false := blk_frozen HT.out 4
  have tf5 : w5.frozen? ⟨T, 5, none⟩ = false := blk_frozen HT.out 5
  have tf6 : w5.frozen? ⟨T, 6, none⟩ = false := blk_frozen HT.out 6
  refine skip_ (w1 := ?_) (by rfl) rfl ?_ ?_
  rotate_left
  · go_simp
    rfl
  clear t0 t1 t2 t3 t4 t5 t6 tf0 tf1 tf2 tf3 tf4 tf5 tf6
  have hne : w.heap.size ≠ T := Nat.ne_of_lt HL.out
  have hle : w.heap.size ≤ T := Nat.le_of_lt HL.out
  have n0_ := Aside0.mk (blk_far (blk_far (blk_far (blk_far (blk_far (blk_far (blk_far HK.out (p := ⟨T, 0, none⟩) hne (.int .i64 (wrap64 b0))) (p := ⟨T, 1, none⟩) hne (.int .u64 v1)) (p := ⟨T, 2, none⟩) hne (.int .i64 (wrap64 v2))) (p := ⟨T, 3, none⟩) hne (.int .i64 (wrap64 v3))) (p := ⟨T, 4, none⟩) hne (.int .u32 (IntKind.u32.wrap v4))) (p := ⟨T, 5, none⟩) hne (.slice none 0 0)) (p := ⟨T, 6, none⟩) hne (.slice none 0 0))
  have n1_ := Aside0.mk ((blk_put (blk_put (blk_put (blk_put (blk_put (blk_put (blk_put HT.out 0 (.int .i64 (wrap64 b0)) rfl) 1 (.int .u64 v1) rfl) 2 (.int .i64 (wrap64 v2)) rfl) 3 (.int .i64 (wrap64 v3)) rfl) 4 (.int .u32 (IntKind.u32.wrap v4)) rfl) 5 (.slice none 0 0) rfl) 6 (.slice none 0 0) rfl) : _ = some (Obj.cells #[.int .i64 (wrap64 b0), .int .u64 v1, .int .i64 (wrap64 v2), .int .i64 (wrap64 v3), .int .u32 (IntKind.u32.wrap v4), .slice none 0 0, .slice none 0 0] 56 (0, 0)))
  have n2_ := Aside0.mk (((((((HB.out.setCell (p := ⟨T, 0, none⟩) hle (.int .i64 (wrap64 b0))).setCell (p := ⟨T, 1, none⟩) hle (.int .u64 v1)).setCell (p := ⟨T, 2, none⟩) hle (.int .i64 (wrap64 v2))).setCell (p := ⟨T, 3, none⟩) hle (.int .i64 (wrap64 v3))).setCell (p := ⟨T, 4, none⟩) hle (.int .u32 (IntKind.u32.wrap v4))).setCell (p := ⟨T, 5, none⟩) hle (.slice none 0 0)).setCell (p := ⟨T, 6, none⟩) hle (.slice none 0 0))
  clear HK HT HB hne hle
  have HK := n0_
  have HT := n1_
  have HB := n2_
  clear n0_ n1_ n2_
  refine hK.out _ _ (((HB.out.cell (World.block_lt_of_cell? _ _ H0.out)).trans H0.out)) (fun hHeld => ?_)
  clear hK K
  refine done_ (by kernel_rfl) ?_

  dsimp only [noPanic]
  clear q1' q2' q3' q4' HG1 HG2 HG3 HG4 HC1 HC2 HC3 HC4 hHeld
  rw [HE1.out, HE2.out, HE3.out, HE4.out] at HT HK HB ⊢
  clear HE1 HE2 HE3 HE4
  generalize (((((((w5.setCell ⟨T, 0, none⟩ (.int .i64 kd)).setCell ⟨T, 1, none⟩ (.int .u64 v1)).setCell ⟨T, 2, none⟩ (.int .i64 vi)).setCell ⟨T, 3, none⟩ (.int .i64 vo)).setCell ⟨T, 4, none⟩ (.int .u32 vy)).setCell ⟨T, 5, none⟩ (.slice none 0 0)).setCell ⟨T, 6, none⟩ (.slice none 0 0)) = W6 at HK HT HB ⊢
  have TN : T ≠ w.heap.size := Nat.ne_of_gt HL.out
  have TL : w.heap.size ≤ T := Nat.le_of_lt HL.out
  go_wp2_with fail
  refine (bytes_Clone.calls A5 (c0 - 17) (mid l0 17 (l0.length - 4)) rest W6 (Kd.C_below HC5.out HB.out) HL5.out HCL.out).mono ?_
  rintro e W ⟨v5, rfl, hR5, hb⟩
  obtain ⟨A6, c6, e6_⟩ := Kd.R_slice hR5
  subst e6_
  have n0_ := Aside0.mk (blk_below HK.out hb)
  have n1_ := Aside0.mk (blk_below HT.out hb)
  have n2_ := Aside0.mk (Kd.R_lower hR5 HB.out.size)
  have n3_ := Aside0.mk (below_step HB.out hb)
  clear HK HT HB hR5 hb
  have HK := n0_
  have HT := n1_
  have HRr := n2_
  have HB := n3_
  clear n0_ n1_ n2_ n3_
  have kk : W.cell? ⟨T, 0, none⟩ = some (.int .i64 kd) := (blk_cell HT.out 0).trans rfl
  have HSZ_ := Aside0.mk hSZ
  have HBIG := Aside0.mk hbig
  have hk1 : ((kd : Int) == 1) = true := beq_iff_eq.mpr he1
  clear hSZ hbig he1
  go_wp2_with fail
  clear kk
  refine (callsIn_wide.1 (ChunkB.chunk_in 3 A6 rest.length c6 2 (by omega) _)).mono ?_
  rintro e w3 ⟨rfl, rfl⟩
  go_wp2_with fail
  have HK0 := Aside0.mk (blk_alloc (blk_alloc HK.out (.cells #[.slice A6 rest.length c6] 22)) (.cells #[.int .i64 2] 3))
  have HT0 := Aside0.mk (blk_alloc (blk_alloc HT.out (.cells #[.slice A6 rest.length c6] 22)) (.cells #[.int .i64 2] 3))
  have HS0 := Aside0.mk (blk_alloc (blk_new W (.cells #[.slice A6 rest.length c6] 22)) (.cells #[.int .i64 2] 3))
  have HN0 := Aside0.mk (blk_new (W.alloc (.cells #[.slice A6 rest.length c6] 22)) (.cells #[.int .i64 2] 3))
  have HB0 := Aside0.mk (below_alloc (below_alloc HB.out (.cells #[.slice A6 rest.length c6] 22)) (.cells #[.int .i64 2] 3))
  have HR0 := Aside0.mk (Kd.R_below HRr.out (below_alloc (below_alloc (Below.refl W.heap.size W) (.cells #[.slice A6 rest.length c6] 22)) (.cells #[.int .i64 2] 3)))
  have hsz : ((W.alloc (.cells #[.slice A6 rest.length c6] 22)).alloc (.cells #[.int .i64 2] 3)).heap.size = W.heap.size + 2 := by simp
  have hA6 : 0 < rest.length → ∃ ad, A6 = some ad := fun hn => by
    obtain ⟨ad, e_, _⟩ := (Kd.reads_of_C (d := (0 : Int)) (Kd.R_reads' HRr.out).2.2).2.2 hn
    exact ⟨ad, e_⟩
  have hc6 : rest.length ≤ c6 := (Kd.R_reads' HRr.out).2.1
  have hrl : rest.length ≤ l0.length := by
    have := HCL.out
    unfold bytes_Clone.f at this
    split at this
    · rw [← Option.some.inj this]; unfold mid; rw [List.length_drop, List.length_take]; omega
    · cases this
  have HRL := Aside0.mk hrl
  have hbig2 : rest.length < 17592186044416 := by have := HBIG.out; omega
  have hLT := Aside0.mk (And.intro (blk_lt HK.out) (blk_lt HT.out))
  rw [World.size_alloc] at HN0
  clear HK HT HB HRr
  generalize (W.alloc (.cells #[.slice A6 rest.length c6] 22)).alloc (.cells #[.int .i64 2] 3) = W0 at HK0 HT0 HS0 HN0 HB0 HR0 hsz ⊢
  generalize W.heap.size = Bs at HS0 HN0 hsz hLT ⊢
  have hl1 : w.heap.size < Bs := hLT.out.1
  have hl2 : T < Bs := hLT.out.2
  refine (wpIn_wide (n := 3)).1 ?_
  refine wpIn_rangeFunc_ownG rfl (by omega) (gf := 155) (lb := #[.pointer (some ⟨Bs, 0, none⟩), .pointer (some ⟨Bs + 1, 0, none⟩)]) rfl trivial (enters_of Try.func155 (by kernel_rfl) rfl)
    (ChunkB.chunk_stops (3 - 1) (by omega) Bs (Bs + 1) A6 rest.length c6 2 hA6 (by omega) hc6 (by omega) W0 HS0.out HN0.out) (fun h k => ChunkB.keepTwo_t _ _ h k)
    (fun W l o o' hl _ _ _ => ChunkB.keepTwo_put _ _ W l o' (by omega) (by omega)) (Below.refl _ _) (fun _ => rfl)
    (fun pre W => (∃ v, W.heap[T]? = some (.cells #[.int .i64 kd, .int .u64 v1, .int .i64 vi, .int .i64 vo, .int .u32 vy, v, .slice none 0 0] 56 (0, 0)) ∧ Kd.R (Kd.int .i64) 3 W w.heap.size (fun k_ => k_ ≠ Bs + 1) v (pre.map (fun x : ChunkB.Piece rest.length => wrap64 (getN (mid rest x.1.1 (x.1.1 + x.1.2)))))) ∧ ((W.heap[w.heap.size]? = some (.cells #[.int .i64 0, .int .u64 0, .int .i64 0, .int .i64 0, .int .u32 0, .slice none 0 0, .slice none 0 0] 56 (0, 0)) ∧ W.heap[Bs]? = some (.cells #[.slice A6 rest.length c6] 22 (0, 0)) ∧ W.heap[Bs + 1]? = some (.cells #[.int .i64 2] 3 (0, 0))) ∧ Kd.R (Kd.int .u8) 5 W w.heap.size (fun _ => True) (.slice A6 rest.length c6) rest ∧ Below w.heap.size w W))
    (fun _ _ _ => False)
    (OwnFrom.and (own_Rk _ (fun _ v W => W.heap[T]? = some (.cells #[.int .i64 kd, .int .u64 v1, .int .i64 vi, .int .i64 vo, .int .u32 vy, v, .slice none 0 0] 56 (0, 0))) (fun v => own_blk _ _ _ _)) (OwnFrom.and (OwnFrom.and (own_blk _ _ _ _) (OwnFrom.and (own_blk _ _ _ _) (own_blk _ _ _ _))) (OwnFrom.and (own_row _ _) (ownFrom_below (Nat.le_refl _) (by omega)))))
    (fun _ _ _ _ _ hs _ _ => hs)
    ⟨⟨_, HT0.out, Kd.R_nil _ _ _ _ _⟩, ⟨HK0.out, HS0.out, HN0.out⟩, HR0.out, HB0.out⟩
    (fun x => { tmps := #[(.slice (some ad0) l0.length c0), undef, (.pointer (some ⟨w.heap.size, 0, none⟩)), (.int .u16 0), (.pointer (some ⟨T, 0, none⟩)), (.slice A6 rest.length c6), (.slice (A6.map (·.add x.1.1)) x.1.2 x.1.2), undef, undef, (.bool false), (.slice (some ad0) l0.length c0), (.int .i64 (l0.length : Int)), (.bool false), undef, (.bool false), (.slice (some ad0) l0.length c0), (.bool true), (.bool false), undef, (.slice (some ad0) l0.length c0), (.pointer (some ad0)), (.int .u8 b0), (.int .i64 kd), (.slice (some ad0) l0.length c0), (.slice A1 (mid l0 1 9).length (c0 - 1)), (.int .u64 v1), (.slice (some ad0) l0.length c0), (.slice A2 (mid l0 9 11).length (c0 - 9)), (.int .u64 v2), (.int .i64 vi), (.slice (some ad0) l0.length c0), (.slice A3 (mid l0 11 13).length (c0 - 11)), (.int .u64 v3), (.int .i64 vo), (.slice (some ad0) l0.length c0), (.slice A4 (mid l0 13 17).length (c0 - 13)), (.int .u64 v4), (.int .u32 vy), (.agg #[.int .i64 kd, .int .u64 v1, .int .i64 vi, .int .i64 vo, .int .u32 vy, .slice none 0 0, .slice none 0 0]), (.slice (some ad0) l0.length c0), (.slice (some ad0) l0.length c0), (.int .i64 (l0.length : Int)), (.int .i64 ((l0.length : Int) - 4)), (.slice A5 (mid l0 17 (l0.length - 4)).length (c0 - 17)), (.slice A6 rest.length c6), (.pointer (some ⟨T, 0, none⟩)), (.int .i64 kd), (.bool true), (.slice A6 rest.length c6), (.func (.func 155) #[] #[.pointer (some ⟨Bs, 0, none⟩), .pointer (some ⟨Bs + 1, 0, none⟩)]), (.slice (A6.map (·.add x.1.1)) x.1.2 x.1.2), undef, undef, undef, undef, undef, undef, undef, undef, undef, undef, undef, undef, undef, undef, undef, undef, undef, undef, undef, undef, undef, undef, undef, undef, undef, undef, undef, undef], defers := [] }) ?assign ?body ?done ?stop
  case assign =>
    intro l x W K hK
    gi_wp2
    simpa using hK
  case body =>
    rintro l pre x W ⟨⟨u, ht, hR⟩, ⟨hk, hbs, hbn2⟩, hrr, hB⟩ hpl
    have hx0 := x.2.2
    have hbn := x.2.1
    obtain ⟨ad, had⟩ := hA6 (by omega)
    obtain ⟨xs, hxs⟩ : ∃ xs, pre.map (fun x : ChunkB.Piece rest.length => wrap64 (getN (mid rest x.1.1 (x.1.1 + x.1.2)))) = xs := ⟨_, rfl⟩
    obtain ⟨ys, hys⟩ : ∃ ys, (pre ++ [x]).map (fun x : ChunkB.Piece rest.length => wrap64 (getN (mid rest x.1.1 (x.1.1 + x.1.2)))) = ys := ⟨_, rfl⟩
    obtain ⟨va, hva⟩ : ∃ va, getN (mid rest x.1.1 (x.1.1 + x.1.2)) = va := ⟨_, rfl⟩
    have HYS := Aside0.mk (show xs ++ [wrap64 va] = ys by rw [← hys, ← hxs, ← hva, List.map_append, List.map_cons, List.map_nil])
    have HXL := Aside0.mk (show xs.length < 17592186044416 by rw [← hxs, List.length_map]; omega)
    have HYS_ := Aside0.mk hys
    rw [hxs] at hR
    subst had
    dsimp only [Option.map_some]
    generalize hb_ : x.1.1 = b at hbn hva ⊢
    generalize hn_ : x.1.2 = n at hbn hx0 hva ⊢
    have HGX := Aside0.mk (fun (W : World) (h : Kd.C (Kd.int .u8) W (some (ad.add b)) (mid rest b (b + n)).length (mid rest b (b + n))) => (by have g := word_Get.calls (some (ad.add b)) n (mid rest b (b + n)) va W h (by rw [mid_len rest b n hbn]; exact Nat.le_refl _) (by rw [← hva]; rfl); rwa [mid_len rest b n hbn] at g : Calls Try.prog 129 #[.slice (some (ad.add b)) n n] W _))
    have HT1 := Aside0.mk (blk_drew ht)
    have HK1 := Aside0.mk (blk_drew hk)
    have HS1 := Aside0.mk (Kd.R_drew hR)
    have HR1 := Aside0.mk (Kd.R_drew hrr)
    have HB1 := Aside0.mk (below_drew1 hB)
    have Hb11 := Aside0.mk (blk_drew hbs)
    have Hb21 := Aside0.mk (blk_drew hbn2)
    have HDR := Aside0.mk (And.intro ht (And.intro hbs hbn2))
    clear ht hR hk hbs hbn2 hrr hB hxs hys hva hb_ hn_ hpl
    gi_wp2_with fail
    refine start_in (n := 9) (S := fun w' => w'.cell? ⟨T, 5, none⟩ = some u) (ds := [6, 8]) #[false, false, false, false, false, false, false, false, false] (by kernel_rfl) (by rintro ⟨_, _, h_⟩; exact h_) (by kernel_rfl) rfl rfl (((blk_cell HT1.out 5).trans rfl)) (fun hHeld => ?_)
    refine pure_ (i := 0) (N := some 51) (v := ?_) (a' := ?_) #[true, false, false, false, false, false, false, false, false] rfl rfl (by kernel_rfl) (fun _ _ _ h => h) (Or.inl ⟨by rfl, ?_⟩) ?_ ?_
    rotate_left
    · intro w'
      go_simp
      with_reducible rfl
    rotate_left
    · simp only [Act.put, List.setIfInBounds_toArray, List.set_cons_zero, List.set_cons_succ, i64_w, i32_w]
      rfl
    refine pure_ (i := 2) (N := some 53) (v := ?_) (a' := ?_) #[true, false, true, false, false, false, false, false, false] rfl rfl (by kernel_rfl) (fun _ _ _ h => h) (Or.inl ⟨by rfl, ?_⟩) ?_ ?_
    rotate_left
    · intro w'
      go_simp
      with_reducible rfl
    rotate_left
    · simp only [Act.put, List.setIfInBounds_toArray, List.set_cons_zero, List.set_cons_succ, i64_w, i32_w]
      rfl
    refine take_ (i := 1) (N := some 52) (v := ?_) (a' := ?_) #[true, true, true, false, false, false, false, false, false] rfl rfl (by kernel_rfl) (fun _ _ _ h => h) (Or.inl ⟨by rfl, ?_⟩) hHeld ?_ ?_
    rotate_left
    · intro w' s0
      go_simp
      with_reducible rfl
    rotate_left
    · simp only [Act.put, List.setIfInBounds_toArray, List.set_cons_zero, List.set_cons_succ, i64_w, i32_w]
      rfl
    refine one_ (i := 3) (N := some 54) #[true, true, true, true, false, false, false, false, false] rfl rfl (by kernel_rfl) (by decide) (fun K hK => ?_)
    refine goes_ Try.func129 (by kernel_rfl) rfl #[.slice (some (ad.add b)) n n] (by rfl) rfl rfl (by first | (simp only [List.map_toArray, List.map_cons, List.map_nil]; done) | (simp only [List.map_toArray, List.map_cons, List.map_nil]; rfl)) ?_
    with_reducible refine (HGX.out _ (piece_reads ad rest b n _ (Kd.R_reads' HR1.out).2.2 hbn)).mono ?_
    rintro e W3 ⟨rfl, hb⟩
    refine ⟨_, rfl, ?_⟩
    have HT3 := Aside0.mk (blk_below HT1.out hb)
    have HK3 := Aside0.mk (blk_below HK1.out hb)
    have HS3 := Aside0.mk (Kd.R_below HS1.out hb)
    have HR3 := Aside0.mk (Kd.R_below HR1.out hb)
    have HB3 := Aside0.mk (below_step HB1.out hb)
    have Hb13 := Aside0.mk (blk_below Hb11.out hb)
    have Hb23 := Aside0.mk (blk_below Hb21.out hb)
    have HD3 := Aside0.mk hb
    clear hb HT1 HK1 HS1 HR1 HB1 Hb11 Hb21
    refine hK.out _ _ (((blk_cell HT3.out 5).trans rfl)) (fun hHeld => ?_)
    clear hK K
    refine norm_ (a' := ?_) ?_ ?_
    rotate_left
    · show Act.put _ (some 54) _ = _
      simp only [Act.put, List.setIfInBounds_toArray, List.set_cons_zero, List.set_cons_succ, i64_w, i32_w]
      rfl
    refine pure_ (i := 4) (N := some 55) (v := ?_) (a' := ?_) #[true, true, true, true, true, false, false, false, false] rfl rfl (by kernel_rfl) (fun _ _ _ h => h) (Or.inl ⟨by rfl, ?_⟩) ?_ ?_
    rotate_left
    · intro w'
      go_simp
      with_reducible rfl
    rotate_left
    · simp only [Act.put, List.setIfInBounds_toArray, List.set_cons_zero, List.set_cons_succ, i64_w, i32_w]
      rfl
    refine one_ (i := 5) (N := some 56) #[true, true, true, true, true, true, false, false, false] rfl rfl (by kernel_rfl) (by decide) (fun K hK => ?_)
    refine value_ (w1 := ?_) (v := ?_) (by rfl) rfl ?_ ?_
    rotate_left 2
    · go_simp
      constructor
      · rfl
      · rfl
    refine hK.out _ _ (((blk_cell (blk_alloc HT3.out _) 5).trans rfl)) (fun hHeld => ?_)
    clear hK K
    refine norm_ (a' := ?_) ?_ ?_
    rotate_left
    · show Act.put _ (some 56) _ = _
      simp only [Act.put, List.setIfInBounds_toArray, List.set_cons_zero, List.set_cons_succ, i64_w, i32_w]
      rfl
    refine last_ (i := 6) (N := some 57) #[true, true, true, true, true, true, true, false, false] rfl rfl (by kernel_rfl) (by decide) (fun K hK => ?_)
    refine Kd.R_append_step (Kd.int .i64) (w0 := w) w.heap.size (by rfl) (.tmp 52) (.tmp 56) 42 3 (.int .i64 0) 8 rfl Try.underlying42 info3 rfl (by decide) (by omega) u xs (wrap64 va) [.int .i64 (wrap64 va)] (fun k_ => k_ ≠ Bs + 1) (fun _ => False) rfl rfl ?aP (fun _ hk => hk.elim) ?aF ?aO ?aB ?aS ?aL ?_
    (case aP => exact rfl)
    (case aB => exact HB3.out)
    (case aF => intro k_ hk_ e_; have := blk_lt Hb23.out; omega)
    (case aO => exact HS3.out)
    (case aS => exact HB3.out.size)
    (case aL => have := HXL.out; omega)
    intro v7 W7 ho hb hg hat
    rw [HYS.out] at ho
    have HO7 := Aside0.mk ho
    have HB7 := Aside0.mk hb
    have HG7 := Aside0.mk hg
    have HT7 := Aside0.mk (blk_grown HT3.out hg (Kd.R_ne HS3.out HT3.out (by decide)))
    have HK7 := Aside0.mk (blk_grown HK3.out hg (Kd.R_ne HS3.out HK3.out (by decide)))
    have Hb17 := Aside0.mk (blk_grown Hb13.out hg (Kd.R_ne HS3.out Hb13.out (by decide)))
    have Hb27 := Aside0.mk (blk_grown Hb23.out hg (fun e_ => HS3.out.1 _ e_.symm rfl))
    have HR7 := Aside0.mk (row_other HR3.out HS3.out hg)
    clear ho hb hg hat
    obtain ⟨A7, c7, e7⟩ := Kd.R_slice HO7.out
    subst e7
    have t5 : W7.cell? ⟨T, 5, none⟩ = some u := (blk_cell HT7.out 5).trans rfl
    have tf5 : W7.frozen? ⟨T, 5, none⟩ = false := blk_frozen HT7.out 5
    refine hK.out _ _ ?_
    clear hK K
    refine norm_ (a' := ?_) ?_ ?_
    rotate_left
    · show Act.put _ (some 57) _ = _
      simp only [Act.put, List.setIfInBounds_toArray, List.set_cons_zero, List.set_cons_succ, i64_w, i32_w]
      rfl
    refine pure_ (i := 7) (N := some 58) (v := ?_) (a' := ?_) #[true, true, true, true, true, true, true, true, false] rfl rfl (by kernel_rfl) (fun _ _ _ h => h) (Or.inl ⟨by rfl, ?_⟩) ?_ ?_
    rotate_left
    · intro w'
      go_simp
      with_reducible rfl
    rotate_left
    · simp only [Act.put, List.setIfInBounds_toArray, List.set_cons_zero, List.set_cons_succ, i64_w, i32_w]
      rfl
    refine last_ (i := 8) (N := none) #[true, true, true, true, true, true, true, true, true] rfl rfl (by kernel_rfl) (by decide) (fun K hK => ?_)
    refine skip_ (w1 := ?_) (by rfl) rfl ?_ ?_
    rotate_left
    · go_simp
      rfl
    refine hK.out _ _ ?_
    clear hK K
    refine done_ (by kernel_rfl) ?_

    have nT := blk_put HT7.out 5 (.slice A7 ys.length c7) rfl
    have nK := blk_far HK7.out (p := ⟨T, 5, none⟩) (Ne.symm TN) (.slice A7 ys.length c7)
    have nS := blk_far Hb17.out (p := ⟨T, 5, none⟩) (by show Bs ≠ T; omega) (.slice A7 ys.length c7)
    have nN := blk_far Hb27.out (p := ⟨T, 5, none⟩) (by show Bs + 1 ≠ T; omega) (.slice A7 ys.length c7)
    have nR := Kd.R_mono (Kd.R_far (p := ⟨T, 5, none⟩) (Kd.R_types HR7.out HT7.out (by decide)) (fun _ hk => hk.2) (.slice A7 ys.length c7)) (fun _ _ => trivial)
    have nO := Kd.R_mono (Kd.R_far (p := ⟨T, 5, none⟩) (Kd.R_types HO7.out HT7.out (by decide)) (fun _ hk => hk.2) (.slice A7 ys.length c7)) (fun _ hk => hk.1)
    refine ⟨⟨?_, ?_⟩, ⟨?_, ?_⟩, ⟨.slice A7 ys.length c7, nT, ?_⟩, ⟨nK, nS, nN⟩, nR, HB7.out.setCell (p := ⟨T, 5, none⟩) TL _⟩
    · rw [World.size_setCell]
      exact Nat.le_trans HD3.out.size HG7.out.size
    · intro k_ o hk ho hn
      have h3 : W3.heap[k_]? = some o := (HD3.out.block k_ (Array.getElem?_eq_some_iff.1 ho).1).trans ho
      have h7 := blk_grown h3 HG7.out (not_ownK HS3.out h3 hn)
      rw [Below.heap_setCell _ _ _ _ (by show k_ ≠ T; rintro rfl; rw [HT7.out] at h7; cases h7; cases hn)]
      exact h7
    · intro o ho
      cases (HDR.out.2.1.symm.trans ho)
      exact nS
    · intro o ho
      cases (HDR.out.2.2.symm.trans ho)
      exact nN
    · rw [HYS_.out]
      exact nO
  case done =>
    rintro D ys W hD hS ⟨⟨u, ht, hR⟩, ⟨hk, hbs, hbn⟩, hrr, hB⟩ hK
    have hys : ys.map (fun x : ChunkB.Piece rest.length => wrap64 (getN (mid rest x.1.1 (x.1.1 + x.1.2)))) = SZ := by
      have e : ys.map (fun x : ChunkB.Piece rest.length => wrap64 (getN (mid rest x.1.1 (x.1.1 + x.1.2)))) = (ys.map (·.1)).map (fun y => wrap64 (getN (mid rest y.1 (y.1 + y.2)))) := by rw [List.map_map]; rfl
      have hS' : ys.map (·.1) = ChunkB.chunkF 2 rest.length (rest.length + 1) 0 := hS
      have g := congrArg (List.map (fun p => wrap64 (getN p))) (pairs_chunk rest (rest.length + 1) 0 (by omega))
      rw [List.map_map, List.drop_zero] at g
      rw [e, hS', HSZ_.out, ← g]; rfl
    rw [hys] at hR
    obtain ⟨A7, c7, e7⟩ := Kd.R_slice hR
    subst e7
    have HK := Aside0.mk hk
    have HT := Aside0.mk ht
    have HSr := Aside0.mk (Kd.R_mono hR (fun _ _ => trivial) : Kd.R (Kd.int .i64) 3 W w.heap.size (fun _ => True) (.slice A7 SZ.length c7) SZ)
    have HBr := Aside0.mk (Kd.R_nil (Kd.int .u8) 5 W w.heap.size (fun _ => True))
    have HB := Aside0.mk hB
    have HD := Aside0.mk hK
    have hDl : w.heap.size ≤ D := by omega
    have hDn : D ≠ w.heap.size := by omega
    clear ht hR hk hbs hbn hrr hB hys hS hK hHeld HK0 HT0 HB0 HN0 HR0 HS0
    have k0 : W.cell? ⟨T, 0, none⟩ = some (.int .i64 kd) := (blk_cell HT.out 0).trans rfl
    have k1 : W.cell? ⟨T, 1, none⟩ = some (.int .u64 v1) := (blk_cell HT.out 1).trans rfl
    have k2 : W.cell? ⟨T, 2, none⟩ = some (.int .i64 vi) := (blk_cell HT.out 2).trans rfl
    have k3 : W.cell? ⟨T, 3, none⟩ = some (.int .i64 vo) := (blk_cell HT.out 3).trans rfl
    have k4 : W.cell? ⟨T, 4, none⟩ = some (.int .u32 vy) := (blk_cell HT.out 4).trans rfl
    have k5 : W.cell? ⟨T, 5, none⟩ = some (.slice A7 SZ.length c7) := (blk_cell HT.out 5).trans rfl
    have k6 : W.cell? ⟨T, 6, none⟩ = some (.slice none 0 0) := (blk_cell HT.out 6).trans rfl
    go_wp2_with fail
    clear k0 k1 k2 k3 k4 k5 k6
    refine (pack_Encode.calls k kd v1 vi vo vy A7 c7 SZ none 0 [] c er W (Kd.R_reads' HSr.out).2.2 (Kd.R_reads' HSr.out).2.1 (Kd.R_reads' HBr.out).2.2 (Kd.R_reads' HBr.out).2.1 HCE.out).mono ?_
    rintro e W7 ⟨vc, rfl, hvc, hb⟩
    obtain ⟨Ac, cc, ec⟩ := Kd.R_slice hvc
    subst ec
    have HX := Aside0.mk hvc
    have n0_ := Aside0.mk (blk_below HK.out hb)
    have n1_ := Aside0.mk (blk_below HT.out hb)
    have n2_ := Aside0.mk (Kd.R_below HSr.out hb)
    have n3_ := Aside0.mk (Kd.R_below HBr.out hb)
    have n4_ := Aside0.mk (below_step HB.out hb)
    have nD_ := Aside0.mk ((hb.block _ (Array.getElem?_eq_some_iff.1 HD.out).1).trans HD.out)
    clear HD
    have HD := nD_
    clear nD_
    clear HK HT HSr HBr HB hvc hb
    have HK := n0_
    have HT := n1_
    have HSr := n2_
    have HBr := n3_
    have HB := n4_
    clear n0_ n1_ n2_ n3_ n4_
    by_cases he : er = 0
    · have he1 : ((er : Int) != 0) = false := bne_eq_false_iff_eq.mpr he
      have he2 : ((er : Int) == 0) = true := beq_iff_eq.mpr he
      have hr := HRES.out
      rw [if_pos he] at hr
      clear he
      go_wp2_with fail
      refine (bytes_Equal.calls (some ad0) c0 l0 Ac cc c q W7 (Kd.C_below HR.out HB.out) hc0 (Kd.R_reads' HX.out).2.2 (Kd.R_reads' HX.out).2.1 HQ.out).mono ?_
      rintro e W8 ⟨rfl, hd⟩
      have hb := hd.below
      have n0_ := Aside0.mk (blk_below HK.out hb)
      have n1_ := Aside0.mk (blk_below HT.out hb)
      have n2_ := Aside0.mk (Kd.R_below HSr.out hb)
      have n3_ := Aside0.mk (Kd.R_below HBr.out hb)
      have n4_ := Aside0.mk (below_step HB.out hb)
      have nD_ := Aside0.mk ((hb.block _ (Array.getElem?_eq_some_iff.1 HD.out).1).trans HD.out)
      clear HD
      have HD := nD_
      clear nD_
      clear HK HT HSr HBr HB hb hd HX
      have HK := n0_
      have HT := n1_
      have HSr := n2_
      have HBr := n3_
      have HB := n4_
      clear n0_ n1_ n2_ n3_ n4_
      have z0 : W8.cell? ⟨w.heap.size, 0, none⟩ = some (.int .i64 0) := (blk_cell HK.out 0).trans rfl
      have z1 : W8.cell? ⟨w.heap.size, 1, none⟩ = some (.int .u64 0) := (blk_cell HK.out 1).trans rfl
      have z2 : W8.cell? ⟨w.heap.size, 2, none⟩ = some (.int .i64 0) := (blk_cell HK.out 2).trans rfl
      have z3 : W8.cell? ⟨w.heap.size, 3, none⟩ = some (.int .i64 0) := (blk_cell HK.out 3).trans rfl
      have z4 : W8.cell? ⟨w.heap.size, 4, none⟩ = some (.int .u32 0) := (blk_cell HK.out 4).trans rfl
      have z5 : W8.cell? ⟨w.heap.size, 5, none⟩ = some (.slice none 0 0) := (blk_cell HK.out 5).trans rfl
      have z6 : W8.cell? ⟨w.heap.size, 6, none⟩ = some (.slice none 0 0) := (blk_cell HK.out 6).trans rfl
      have zf0 : W8.frozen? ⟨w.heap.size, 0, none⟩ = false := blk_frozen HK.out 0
      have zf1 : W8.frozen? ⟨w.heap.size, 1, none⟩ = false := blk_frozen HK.out 1
      have zf2 : W8.frozen? ⟨w.heap.size, 2, none⟩ = false := blk_frozen HK.out 2
      have zf3 : W8.frozen? ⟨w.heap.size, 3, none⟩ = false := blk_frozen HK.out 3
      have zf4 : W8.frozen? ⟨w.heap.size, 4, none⟩ = false := blk_frozen HK.out 4
      have zf5 : W8.frozen? ⟨w.heap.size, 5, none⟩ = false := blk_frozen HK.out 5
      have zf6 : W8.frozen? ⟨w.heap.size, 6, none⟩ = false := blk_frozen HK.out 6
      have k0 : W8.cell? ⟨T, 0, none⟩ = some (.int .i64 kd) := (blk_cell HT.out 0).trans rfl
      have k1 : W8.cell? ⟨T, 1, none⟩ = some (.int .u64 v1) := (blk_cell HT.out 1).trans rfl
      have k2 : W8.cell? ⟨T, 2, none⟩ = some (.int .i64 vi) := (blk_cell HT.out 2).trans rfl
      have k3 : W8.cell? ⟨T, 3, none⟩ = some (.int .i64 vo) := (blk_cell HT.out 3).trans rfl
      have k4 : W8.cell? ⟨T, 4, none⟩ = some (.int .u32 vy) := (blk_cell HT.out 4).trans rfl
      have k5 : W8.cell? ⟨T, 5, none⟩ = some (.slice A7 SZ.length c7) := (blk_cell HT.out 5).trans rfl
      have k6 : W8.cell? ⟨T, 6, none⟩ = some (.slice none 0 0) := (blk_cell HT.out 6).trans rfl
      cases q with
      | true =>
        rw [if_pos rfl] at hr
        simp only [Option.some.injEq, Prod.mk.injEq] at hr
        obtain ⟨rfl, rfl, rfl, rfl, rfl, rfl, rfl, rfl⟩ := hr
        go_wp2
        have mK : (World.setCell (World.setCell (World.setCell (World.setCell (World.setCell (World.setCell (World.setCell W8 ⟨w.heap.size, 0, none⟩ (.int .i64 kd)) ⟨w.heap.size, 1, none⟩ (.int .u64 v1)) ⟨w.heap.size, 2, none⟩ (.int .i64 vi)) ⟨w.heap.size, 3, none⟩ (.int .i64 vo)) ⟨w.heap.size, 4, none⟩ (.int .u32 vy)) ⟨w.heap.size, 5, none⟩ (.slice A7 SZ.length c7)) ⟨w.heap.size, 6, none⟩ (.slice none 0 0)).heap[w.heap.size]? = some (.cells #[.int .i64 kd, .int .u64 v1, .int .i64 vi, .int .i64 vo, .int .u32 vy, .slice A7 SZ.length c7, .slice none 0 0] 56 (0, 0)) := (blk_put (blk_put (blk_put (blk_put (blk_put (blk_put (blk_put HK.out 0 (.int .i64 kd) rfl) 1 (.int .u64 v1) rfl) 2 (.int .i64 vi) rfl) 3 (.int .i64 vo) rfl) 4 (.int .u32 vy) rfl) 5 (.slice A7 SZ.length c7) rfl) 6 (.slice none 0 0) rfl)
        have mB : Below w.heap.size w (World.setCell (World.setCell (World.setCell (World.setCell (World.setCell (World.setCell (World.setCell W8 ⟨w.heap.size, 0, none⟩ (.int .i64 kd)) ⟨w.heap.size, 1, none⟩ (.int .u64 v1)) ⟨w.heap.size, 2, none⟩ (.int .i64 vi)) ⟨w.heap.size, 3, none⟩ (.int .i64 vo)) ⟨w.heap.size, 4, none⟩ (.int .u32 vy)) ⟨w.heap.size, 5, none⟩ (.slice A7 SZ.length c7)) ⟨w.heap.size, 6, none⟩ (.slice none 0 0)) := by (repeat (first | (with_reducible exact HB.out) | refine below_set ?_ (Nat.le_refl _)))
        have mD : (World.setCell (World.setCell (World.setCell (World.setCell (World.setCell (World.setCell (World.setCell W8 ⟨w.heap.size, 0, none⟩ (.int .i64 kd)) ⟨w.heap.size, 1, none⟩ (.int .u64 v1)) ⟨w.heap.size, 2, none⟩ (.int .i64 vi)) ⟨w.heap.size, 3, none⟩ (.int .i64 vo)) ⟨w.heap.size, 4, none⟩ (.int .u32 vy)) ⟨w.heap.size, 5, none⟩ (.slice A7 SZ.length c7)) ⟨w.heap.size, 6, none⟩ (.slice none 0 0)).heap[D]? = some (.deferred (some [])) := by
          iterate 7 rw [Below.heap_setCell _ _ _ _ hDn]
          exact HD.out
        have mS := (Kd.R_mono (Kd.R_far (p := ⟨w.heap.size, 6, none⟩) (Kd.R_far (p := ⟨w.heap.size, 5, none⟩) (Kd.R_far (p := ⟨w.heap.size, 4, none⟩) (Kd.R_far (p := ⟨w.heap.size, 3, none⟩) (Kd.R_far (p := ⟨w.heap.size, 2, none⟩) (Kd.R_far (p := ⟨w.heap.size, 1, none⟩) (Kd.R_far (p := ⟨w.heap.size, 0, none⟩) (Kd.R_types HSr.out HK.out (by decide)) (fun _ hk => hk.2) (.int .i64 kd)) (fun _ hk => hk.2) (.int .u64 v1)) (fun _ hk => hk.2) (.int .i64 vi)) (fun _ hk => hk.2) (.int .i64 vo)) (fun _ hk => hk.2) (.int .u32 vy)) (fun _ hk => hk.2) (.slice A7 SZ.length c7)) (fun _ hk => hk.2) (.slice none 0 0)) (fun _ _ => trivial))
        have mR := (Kd.R_mono (Kd.R_far (p := ⟨w.heap.size, 6, none⟩) (Kd.R_far (p := ⟨w.heap.size, 5, none⟩) (Kd.R_far (p := ⟨w.heap.size, 4, none⟩) (Kd.R_far (p := ⟨w.heap.size, 3, none⟩) (Kd.R_far (p := ⟨w.heap.size, 2, none⟩) (Kd.R_far (p := ⟨w.heap.size, 1, none⟩) (Kd.R_far (p := ⟨w.heap.size, 0, none⟩) (Kd.R_types HBr.out HK.out (by decide)) (fun _ hk => hk.2) (.int .i64 kd)) (fun _ hk => hk.2) (.int .u64 v1)) (fun _ hk => hk.2) (.int .i64 vi)) (fun _ hk => hk.2) (.int .i64 vo)) (fun _ hk => hk.2) (.int .u32 vy)) (fun _ hk => hk.2) (.slice A7 SZ.length c7)) (fun _ hk => hk.2) (.slice none 0 0)) (fun _ _ => trivial))
        generalize (World.setCell (World.setCell (World.setCell (World.setCell (World.setCell (World.setCell (World.setCell W8 ⟨w.heap.size, 0, none⟩ (.int .i64 kd)) ⟨w.heap.size, 1, none⟩ (.int .u64 v1)) ⟨w.heap.size, 2, none⟩ (.int .i64 vi)) ⟨w.heap.size, 3, none⟩ (.int .i64 vo)) ⟨w.heap.size, 4, none⟩ (.int .u32 vy)) ⟨w.heap.size, 5, none⟩ (.slice A7 SZ.length c7)) ⟨w.heap.size, 6, none⟩ (.slice none 0 0)) = Wf at mK mB mD mS mR ⊢
        refine ⟨by simp, .inl ⟨_, _, rfl, run_takeDeferred mD, ?_⟩⟩
        have mP : (Wf.putObj D (.deferred none)).heap[w.heap.size]? = _ := (World.putObj_heap_other (Ne.symm hDn)).trans mK
        have y0 : (Wf.putObj D (.deferred none)).cell? ⟨w.heap.size, 0, none⟩ = some (.int .i64 kd) := (blk_cell mP 0).trans rfl
        have y1 : (Wf.putObj D (.deferred none)).cell? ⟨w.heap.size, 1, none⟩ = some (.int .u64 v1) := (blk_cell mP 1).trans rfl
        have y2 : (Wf.putObj D (.deferred none)).cell? ⟨w.heap.size, 2, none⟩ = some (.int .i64 vi) := (blk_cell mP 2).trans rfl
        have y3 : (Wf.putObj D (.deferred none)).cell? ⟨w.heap.size, 3, none⟩ = some (.int .i64 vo) := (blk_cell mP 3).trans rfl
        have y4 : (Wf.putObj D (.deferred none)).cell? ⟨w.heap.size, 4, none⟩ = some (.int .u32 vy) := (blk_cell mP 4).trans rfl
        have y5 : (Wf.putObj D (.deferred none)).cell? ⟨w.heap.size, 5, none⟩ = some (.slice A7 SZ.length c7) := (blk_cell mP 5).trans rfl
        have y6 : (Wf.putObj D (.deferred none)).cell? ⟨w.heap.size, 6, none⟩ = some (.slice none 0 0) := (blk_cell mP 6).trans rfl
        exact ⟨_, (by simp [results, Try.results86, go_sem, y0, y1, y2, y3, y4, y5, y6] : _ = Result.ok (Value.tuple #[.agg #[.int .i64 kd, .int .u64 v1, .int .i64 vi, .int .i64 vo, .int .u32 vy, .slice A7 SZ.length c7, .slice none 0 0], .int .u16 0]) _), _, _, rfl, row_put mS mD, row_put mR mD, mB.trans (belowK_b (w := w) (Nat.le_refl _) Wf D _ _ hDl mD rfl rfl)⟩
      | false =>
        rw [if_neg (by simp)] at hr
        simp only [Option.some.injEq, Prod.mk.injEq] at hr
        obtain ⟨rfl, rfl, rfl, rfl, rfl, rfl, rfl, rfl⟩ := hr
        go_wp2
        have mK : (World.setCell (World.setCell (World.setCell (World.setCell (World.setCell (World.setCell (World.setCell W8 ⟨w.heap.size, 0, none⟩ (.int .i64 0)) ⟨w.heap.size, 1, none⟩ (.int .u64 0)) ⟨w.heap.size, 2, none⟩ (.int .i64 0)) ⟨w.heap.size, 3, none⟩ (.int .i64 0)) ⟨w.heap.size, 4, none⟩ (.int .u32 0)) ⟨w.heap.size, 5, none⟩ (.slice none 0 0)) ⟨w.heap.size, 6, none⟩ (.slice none 0 0)).heap[w.heap.size]? = some (.cells #[.int .i64 0, .int .u64 0, .int .i64 0, .int .i64 0, .int .u32 0, .slice none 0 0, .slice none 0 0] 56 (0, 0)) := (blk_put (blk_put (blk_put (blk_put (blk_put (blk_put (blk_put HK.out 0 (.int .i64 0) rfl) 1 (.int .u64 0) rfl) 2 (.int .i64 0) rfl) 3 (.int .i64 0) rfl) 4 (.int .u32 0) rfl) 5 (.slice none 0 0) rfl) 6 (.slice none 0 0) rfl)
        have mB : Below w.heap.size w (World.setCell (World.setCell (World.setCell (World.setCell (World.setCell (World.setCell (World.setCell W8 ⟨w.heap.size, 0, none⟩ (.int .i64 0)) ⟨w.heap.size, 1, none⟩ (.int .u64 0)) ⟨w.heap.size, 2, none⟩ (.int .i64 0)) ⟨w.heap.size, 3, none⟩ (.int .i64 0)) ⟨w.heap.size, 4, none⟩ (.int .u32 0)) ⟨w.heap.size, 5, none⟩ (.slice none 0 0)) ⟨w.heap.size, 6, none⟩ (.slice none 0 0)) := by (repeat (first | (with_reducible exact HB.out) | refine below_set ?_ (Nat.le_refl _)))
        have mD : (World.setCell (World.setCell (World.setCell (World.setCell (World.setCell (World.setCell (World.setCell W8 ⟨w.heap.size, 0, none⟩ (.int .i64 0)) ⟨w.heap.size, 1, none⟩ (.int .u64 0)) ⟨w.heap.size, 2, none⟩ (.int .i64 0)) ⟨w.heap.size, 3, none⟩ (.int .i64 0)) ⟨w.heap.size, 4, none⟩ (.int .u32 0)) ⟨w.heap.size, 5, none⟩ (.slice none 0 0)) ⟨w.heap.size, 6, none⟩ (.slice none 0 0)).heap[D]? = some (.deferred (some [])) := by
          iterate 7 rw [Below.heap_setCell _ _ _ _ hDn]
          exact HD.out
        generalize (World.setCell (World.setCell (World.setCell (World.setCell (World.setCell (World.setCell (World.setCell W8 ⟨w.heap.size, 0, none⟩ (.int .i64 0)) ⟨w.heap.size, 1, none⟩ (.int .u64 0)) ⟨w.heap.size, 2, none⟩ (.int .i64 0)) ⟨w.heap.size, 3, none⟩ (.int .i64 0)) ⟨w.heap.size, 4, none⟩ (.int .u32 0)) ⟨w.heap.size, 5, none⟩ (.slice none 0 0)) ⟨w.heap.size, 6, none⟩ (.slice none 0 0)) = Wf at mK mB mD ⊢
        refine ⟨by simp, .inl ⟨_, _, rfl, run_takeDeferred mD, ?_⟩⟩
        have mP : (Wf.putObj D (.deferred none)).heap[w.heap.size]? = _ := (World.putObj_heap_other (Ne.symm hDn)).trans mK
        have y0 : (Wf.putObj D (.deferred none)).cell? ⟨w.heap.size, 0, none⟩ = some (.int .i64 0) := (blk_cell mP 0).trans rfl
        have y1 : (Wf.putObj D (.deferred none)).cell? ⟨w.heap.size, 1, none⟩ = some (.int .u64 0) := (blk_cell mP 1).trans rfl
        have y2 : (Wf.putObj D (.deferred none)).cell? ⟨w.heap.size, 2, none⟩ = some (.int .i64 0) := (blk_cell mP 2).trans rfl
        have y3 : (Wf.putObj D (.deferred none)).cell? ⟨w.heap.size, 3, none⟩ = some (.int .i64 0) := (blk_cell mP 3).trans rfl
        have y4 : (Wf.putObj D (.deferred none)).cell? ⟨w.heap.size, 4, none⟩ = some (.int .u32 0) := (blk_cell mP 4).trans rfl
        have y5 : (Wf.putObj D (.deferred none)).cell? ⟨w.heap.size, 5, none⟩ = some (.slice none 0 0) := (blk_cell mP 5).trans rfl
        have y6 : (Wf.putObj D (.deferred none)).cell? ⟨w.heap.size, 6, none⟩ = some (.slice none 0 0) := (blk_cell mP 6).trans rfl
        exact ⟨_, (by simp [results, Try.results86, go_sem, y0, y1, y2, y3, y4, y5, y6] : _ = Result.ok (Value.tuple #[.agg #[.int .i64 0, .int .u64 0, .int .i64 0, .int .i64 0, .int .u32 0, .slice none 0 0, .slice none 0 0], .int .u16 11]) _), _, _, rfl, Kd.R_nil _ _ _ _ _, Kd.R_nil _ _ _ _ _, mB.trans (belowK_b (w := w) (Nat.le_refl _) Wf D _ _ hDl mD rfl rfl)⟩
    · have he1 : ((er : Int) != 0) = true := bne_iff_ne.mpr he
      have he2 : ((er : Int) == 0) = false := beq_eq_false_iff_ne.mpr he
      have hr := HRES.out
      rw [if_neg he] at hr
      clear he
      simp only [Option.some.injEq, Prod.mk.injEq] at hr
      obtain ⟨rfl, rfl, rfl, rfl, rfl, rfl, rfl, rfl⟩ := hr
      have z0 : W7.cell? ⟨w.heap.size, 0, none⟩ = some (.int .i64 0) := (blk_cell HK.out 0).trans rfl
      have z1 : W7.cell? ⟨w.heap.size, 1, none⟩ = some (.int .u64 0) := (blk_cell HK.out 1).trans rfl
      have z2 : W7.cell? ⟨w.heap.size, 2, none⟩ = some (.int .i64 0) := (blk_cell HK.out 2).trans rfl
      have z3 : W7.cell? ⟨w.heap.size, 3, none⟩ = some (.int .i64 0) := (blk_cell HK.out 3).trans rfl
      have z4 : W7.cell? ⟨w.heap.size, 4, none⟩ = some (.int .u32 0) := (blk_cell HK.out 4).trans rfl
      have z5 : W7.cell? ⟨w.heap.size, 5, none⟩ = some (.slice none 0 0) := (blk_cell HK.out 5).trans rfl
      have z6 : W7.cell? ⟨w.heap.size, 6, none⟩ = some (.slice none 0 0) := (blk_cell HK.out 6).trans rfl
      have zf0 : W7.frozen? ⟨w.heap.size, 0, none⟩ = false := blk_frozen HK.out 0
      have zf1 : W7.frozen? ⟨w.heap.size, 1, none⟩ = false := blk_frozen HK.out 1
      have zf2 : W7.frozen? ⟨w.heap.size, 2, none⟩ = false := blk_frozen HK.out 2
      have zf3 : W7.frozen? ⟨w.heap.size, 3, none⟩ = false := blk_frozen HK.out 3
      have zf4 : W7.frozen? ⟨w.heap.size, 4, none⟩ = false := blk_frozen HK.out 4
      have zf5 : W7.frozen? ⟨w.heap.size, 5, none⟩ = false := blk_frozen HK.out 5
      have zf6 : W7.frozen? ⟨w.heap.size, 6, none⟩ = false := blk_frozen HK.out 6
      go_wp2
      have mK : (World.setCell (World.setCell (World.setCell (World.setCell (World.setCell (World.setCell (World.setCell W7 ⟨w.heap.size, 0, none⟩ (.int .i64 0)) ⟨w.heap.size, 1, none⟩ (.int .u64 0)) ⟨w.heap.size, 2, none⟩ (.int .i64 0)) ⟨w.heap.size, 3, none⟩ (.int .i64 0)) ⟨w.heap.size, 4, none⟩ (.int .u32 0)) ⟨w.heap.size, 5, none⟩ (.slice none 0 0)) ⟨w.heap.size, 6, none⟩ (.slice none 0 0)).heap[w.heap.size]? = some (.cells #[.int .i64 0, .int .u64 0, .int .i64 0, .int .i64 0, .int .u32 0, .slice none 0 0, .slice none 0 0] 56 (0, 0)) := (blk_put (blk_put (blk_put (blk_put (blk_put (blk_put (blk_put HK.out 0 (.int .i64 0) rfl) 1 (.int .u64 0) rfl) 2 (.int .i64 0) rfl) 3 (.int .i64 0) rfl) 4 (.int .u32 0) rfl) 5 (.slice none 0 0) rfl) 6 (.slice none 0 0) rfl)
      have mB : Below w.heap.size w (World.setCell (World.setCell (World.setCell (World.setCell (World.setCell (World.setCell (World.setCell W7 ⟨w.heap.size, 0, none⟩ (.int .i64 0)) ⟨w.heap.size, 1, none⟩ (.int .u64 0)) ⟨w.heap.size, 2, none⟩ (.int .i64 0)) ⟨w.heap.size, 3, none⟩ (.int .i64 0)) ⟨w.heap.size, 4, none⟩ (.int .u32 0)) ⟨w.heap.size, 5, none⟩ (.slice none 0 0)) ⟨w.heap.size, 6, none⟩ (.slice none 0 0)) := by (repeat (first | (with_reducible exact HB.out) | refine below_set ?_ (Nat.le_refl _)))
      have mD : (World.setCell (World.setCell (World.setCell (World.setCell (World.setCell (World.setCell (World.setCell W7 ⟨w.heap.size, 0, none⟩ (.int .i64 0)) ⟨w.heap.size, 1, none⟩ (.int .u64 0)) ⟨w.heap.size, 2, none⟩ (.int .i64 0)) ⟨w.heap.size, 3, none⟩ (.int .i64 0)) ⟨w.heap.size, 4, none⟩ (.int .u32 0)) ⟨w.heap.size, 5, none⟩ (.slice none 0 0)) ⟨w.heap.size, 6, none⟩ (.slice none 0 0)).heap[D]? = some (.deferred (some [])) := by
        iterate 7 rw [Below.heap_setCell _ _ _ _ hDn]
        exact HD.out
      generalize (World.setCell (World.setCell (World.setCell (World.setCell (World.setCell (World.setCell (World.setCell W7 ⟨w.heap.size, 0, none⟩ (.int .i64 0)) ⟨w.heap.size, 1, none⟩ (.int .u64 0)) ⟨w.heap.size, 2, none⟩ (.int .i64 0)) ⟨w.heap.size, 3, none⟩ (.int .i64 0)) ⟨w.heap.size, 4, none⟩ (.int .u32 0)) ⟨w.heap.size, 5, none⟩ (.slice none 0 0)) ⟨w.heap.size, 6, none⟩ (.slice none 0 0)) = Wf at mK mB mD ⊢
      refine ⟨by simp, .inl ⟨_, _, rfl, run_takeDeferred mD, ?_⟩⟩
      have mP : (Wf.putObj D (.deferred none)).heap[w.heap.size]? = _ := (World.putObj_heap_other (Ne.symm hDn)).trans mK
      have y0 : (Wf.putObj D (.deferred none)).cell? ⟨w.heap.size, 0, none⟩ = some (.int .i64 0) := (blk_cell mP 0).trans rfl
      have y1 : (Wf.putObj D (.deferred none)).cell? ⟨w.heap.size, 1, none⟩ = some (.int .u64 0) := (blk_cell mP 1).trans rfl
      have y2 : (Wf.putObj D (.deferred none)).cell? ⟨w.heap.size, 2, none⟩ = some (.int .i64 0) := (blk_cell mP 2).trans rfl
      have y3 : (Wf.putObj D (.deferred none)).cell? ⟨w.heap.size, 3, none⟩ = some (.int .i64 0) := (blk_cell mP 3).trans rfl
      have y4 : (Wf.putObj D (.deferred none)).cell? ⟨w.heap.size, 4, none⟩ = some (.int .u32 0) := (blk_cell mP 4).trans rfl
      have y5 : (Wf.putObj D (.deferred none)).cell? ⟨w.heap.size, 5, none⟩ = some (.slice none 0 0) := (blk_cell mP 5).trans rfl
      have y6 : (Wf.putObj D (.deferred none)).cell? ⟨w.heap.size, 6, none⟩ = some (.slice none 0 0) := (blk_cell mP 6).trans rfl
      exact ⟨_, (by simp [results, Try.results86, go_sem, y0, y1, y2, y3, y4, y5, y6] : _ = Result.ok (Value.tuple #[.agg #[.int .i64 0, .int .u64 0, .int .i64 0, .int .i64 0, .int .u32 0, .slice none 0 0, .slice none 0 0], .int .u16 11]) _), _, _, rfl, Kd.R_nil _ _ _ _ _, Kd.R_nil _ _ _ _ _, mB.trans (belowK_b (w := w) (Nat.le_refl _) Wf D _ _ hDl mD rfl rfl)⟩
  case stop =>
    rintro D c pre W _ _ h _
    exact h.elim
theorem pack_Parse.calls (k : Nat) (A0 : Option Addr) (c0 : Nat) (l0 : List Int) (r0 r1 r2 r3 r4 : Int) (r5 r6 : List Int) (r7 : Int) (w : World) (hr0 : Kd.C (Kd.int .u8) w A0 l0.length l0) (hc0 : l0.length ≤ c0) (h : pack_Parse.f k l0 = some (r0, r1, r2, r3, r4, r5, r6, r7)) :
    Calls Try.prog 86 #[.slice A0 l0.length c0] w fun e w' => ∃ v5_ v6_ : Value, e = .returned (.tuple #[.agg #[.int .i64 r0, .int .u64 r1, .int .i64 r2, .int .i64 r3, .int .u32 r4, v5_, v6_], .int .u16 r7]) ∧ Kd.R (Kd.int .i64) 3 w' w.heap.size (fun _ => True) v5_ r5 ∧ Kd.R (Kd.int .u8) 5 w' w.heap.size (fun _ => True) v6_ r6 ∧ Below w.heap.size w w' := by
  unfold pack_Parse.f at h
  by_cases hbig : 17592186044416 ≤ l0.length
  · rw [if_pos hbig] at h; cases h
  rw [if_neg hbig] at h
  by_cases h21 : (l0.length : Int) < 21
  · rw [if_pos h21] at h
    simp only [Option.some.injEq, Prod.mk.injEq] at h
    obtain ⟨rfl, rfl, rfl, rfl, rfl, rfl, rfl, rfl⟩ := h
    exact (parse_short A0 c0 l0 w h21).mono fun e w' ⟨he, hb⟩ => ⟨_, _, he, Kd.R_nil _ _ _ _ _, Kd.R_nil _ _ _ _ _, hb⟩
  rw [if_neg h21] at h
  obtain ⟨ok, hok, h⟩ := Option.bind_eq_some_iff.mp h
  cases ok with
  | false =>
    rw [if_neg (by simp)] at h
    simp only [Option.some.injEq, Prod.mk.injEq] at h
    obtain ⟨rfl, rfl, rfl, rfl, rfl, rfl, rfl, rfl⟩ := h
    exact (parse_sum k A0 c0 l0 w h21 hr0 hc0 hok).mono fun e w' ⟨he, hb⟩ => ⟨_, _, he, Kd.R_nil _ _ _ _ _, Kd.R_nil _ _ _ _ _, hb⟩
  | true =>
    rw [if_pos rfl] at h
    obtain ⟨rest, hrest, h⟩ := Option.bind_eq_some_iff.mp h
    obtain ⟨⟨c, er⟩, hce, h⟩ := Option.bind_eq_some_iff.mp h
    obtain ⟨q, hq⟩ : ∃ q, bytes_Equal.f l0 c = some q := ⟨_, rfl⟩
    have h2 : (if er = 0 then (if q = true then some (parseK l0, parseX l0, parseI l0, parseO l0, parseY l0, parseS (parseK l0) rest, parseB (parseK l0) rest, (0 : Int)) else some (0, 0, 0, 0, 0, [], [], 11)) else some (0, 0, 0, 0, 0, [], [], 11)) = some (r0, r1, r2, r3, r4, r5, r6, r7) := by
      rw [← h]
      dsimp only
      by_cases he : er = 0
      · rw [if_pos he, if_pos he, hq]; rfl
      · rw [if_neg he, if_neg he]
    clear h
    by_cases hk1 : parseK l0 = 1
    · have eS : parseS (parseK l0) rest = (pairs rest).map (fun p => wrap64 (getN p)) := if_pos hk1
      have eB : parseB (parseK l0) rest = [] := if_pos hk1
      rw [eB] at hce h2
      exact parse_offer k A0 c0 l0 w h21 hr0 hc0 hok _ _ _ _ _ rfl rfl rfl rfl rfl rest hrest (parseK l0) _ _ _ rfl rfl rfl rfl hk1 c er q (parseS (parseK l0) rest) eS (by omega) hce hq r0 r1 r2 r3 r4 r5 r6 r7 h2
    · have eS : parseS (parseK l0) rest = [] := if_neg hk1
      have eB : parseB (parseK l0) rest = rest := if_neg hk1
      rw [eS, eB] at hce h2
      exact parse_other k A0 c0 l0 w h21 hr0 hc0 hok _ _ _ _ _ rfl rfl rfl rfl rfl rest hrest (parseK l0) _ _ _ rfl rfl rfl rfl hk1 c er q hce hq r0 r1 r2 r3 r4 r5 r6 r7 h2
end Go.Proofs.Ytliohoalackhiaa.I
