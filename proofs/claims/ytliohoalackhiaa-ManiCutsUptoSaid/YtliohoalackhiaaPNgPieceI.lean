/- mani.piece hands back the i-th piece of a row, so many each, in new memory; none, if there is none: for every row, in whatever memory. -/
import Derived.Test.YtliohoalackhiaaPNgChunkI
import Derived.Test.YtliohoalackhiaaPNgCloneI
namespace Go.Proofs.Ytliohoalackhiaa.N.PieceI
open Go.RowKit Go.Shelf Go.Proofs.YtliohoalackhiaaW.PrintWords Go.Proofs.YtliohoalackhiaaW.PrintLast Go.Proofs.YtliohoalackhiaaW.PrintMore ChunkI
set_option linter.unusedVariables false
set_option linter.unusedSimpArgs false
attribute [local go_sem] Oper.semAt_some
attribute [local go_sem] max2_int min2_int max_two min_two
/-- the i-th piece of a row, m each -/
def pieceAt (l : List Int) (m i : Int) : List Int := if 0 ≤ i then (l.drop (m.toNat * i.toNat)).take m.toNat else []
theorem chunkF_get (m n : Nat) (hm : 1 ≤ m) : ∀ (f i k : Nat), n < i + f → (chunkF m n f i)[k]? = if i + m * k < n then some (i + m * k, min m (n - (i + m * k))) else none := by
  intro f
  induction f with
  | zero => intro i k h; rw [chunkF, if_neg (by have := Nat.zero_le (m * k); omega)]; rfl
  | succ f ih =>
    intro i k h
    rw [chunkF]
    by_cases hi : i < n
    · rw [if_pos hi]
      cases k with
      | zero => rw [Nat.mul_zero, Nat.add_zero, if_pos hi]; rfl
      | succ k =>
        rw [List.getElem?_cons_succ, ih (i + m) k (by omega), show i + m + m * k = i + m * (k + 1) by rw [Nat.mul_succ]; omega]
    · rw [if_neg hi, if_neg (by have := Nat.zero_le (m * k); omega)]; rfl
/-- a piece that is read -/
theorem piece_reads (ad : Addr) (l : List Int) (b n : Nat) (W : World) (h : Kd.C (Kd.int .i64) W (some ad) l.length l) (hb : b + n ≤ l.length) : Kd.C (Kd.int .i64) W (some (ad.add b)) ((l.take (b + n)).drop b).length ((l.take (b + n)).drop b) := by
  refine Kd.C_of_reads (d := (0 : Int)) (h1 := fun _ => rfl) ?_
  have hr := Kd.reads_of_C (d := (0 : Int)) h
  have hl : ((l.take (b + n)).drop b).length = n := by rw [List.length_drop, List.length_take]; omega
  refine ⟨by rw [hl], by rw [hl]; have := hr.2.1; omega, fun hp => ?_⟩
  obtain ⟨ad', e, hc⟩ := hr.2.2 (by omega)
  cases e
  refine ⟨_, rfl, fun i hi => ?_⟩
  rw [hl] at hi
  rw [show (ad.add b).add i = ad.add (b + i) from Addr.add_add _ _ _]
  have := hc (b + i) (by omega)
  rw [this]
  congr 2
  rw [List.getD_eq_getElem?_getD, List.getD_eq_getElem?_getD, List.getElem?_drop, List.getElem?_take_of_lt (by omega)]
/-- a block of cells outlives what turns no cells -/
theorem own_blk {β : Type} (B g : Nat) (cs : Array Value) (t : Nat) : OwnFrom B (fun (_ : β) W => W.heap[g]? = some (.cells cs t (0, 0))) := by
  rintro s W W' row h hg hr
  refine (hg.block g (Array.getElem?_eq_some_iff.1 h).1 ?_).trans h
  rintro e
  obtain ⟨_, o, ho, hn⟩ := hr g e.symm
  rw [h] at ho
  cases ho
  cases hn
theorem own_len {α : Type} {B g t : Nat} : OwnFrom B (fun (pre : List α) W => W.heap[g]? = some (.cells #[.int .i64 (pre.length : Int)] t (0, 0))) := fun s W W' row h hg hr => own_blk (β := Unit) B g _ t () W W' row h hg hr
theorem own_found {n B g e t base : Nat} {l : List Int} {a2 : Int} {cd : Code} {ok : Nat → Prop} : OwnFrom B (fun (pre : List (Piece n)) W => cd = .ret ∧ ∃ (p : List (Piece n)) (x : Piece n), pre = p ++ [x] ∧ (p.length : Int) = a2 ∧ ∃ v, W.heap[g]? = some (.cells #[v] t (0, 0)) ∧ Kd.R (Kd.int .i64) e W base ok v ((l.take (x.1.1 + x.1.2)).drop x.1.1)) := by
  rintro s W W' row ⟨h0, p, x, h1, h2, v, h3, h4⟩ hg hr
  refine ⟨h0, p, x, h1, h2, v, own_blk (β := Unit) B g _ t () W W' row h3 hg hr, Kd.R_mono (Kd.R_grown (Kd.R_bound h4) hg ?_) (fun k hk => hk.1)⟩
  rintro k ⟨_, _, _, q, _, cells, hc⟩ hk
  obtain ⟨_, o, ho, hn⟩ := hr k hk.symm
  rw [hc] at ho
  cases ho
  cases hn
set_option maxRecDepth 100000 in
set_option maxHeartbeats 4000000 in
theorem piece_in (A : Option Addr) (c : Nat) (l0 : List Int) (m : Nat) (a2 : Int) (w : World) (hm : 1 ≤ m ∧ m ≤ 1000) (hbig : l0.length < 17592186044416) (hC : Kd.C (Kd.int .i64) w A l0.length l0) (hc : l0.length ≤ c) :
    CallsIn Fence.wide 3 Try.prog 105 #[.slice A l0.length c, .int .i64 (m : Int), .int .i64 a2] w fun e W' => ∃ v0_ : Value, e = .returned v0_ ∧ Kd.R (Kd.int .i64) 3 W' w.heap.size (fun _ => True) v0_ (pieceAt l0 (m : Int) a2) ∧ Below w.heap.size w W' := by
  have HC := Aside0.mk hC
  have HBIG := Aside0.mk hbig
  have hA : 0 < l0.length → ∃ ad, A = some ad := fun hn => by
    obtain ⟨ad, e_, _⟩ := (Kd.reads_of_C (d := (0 : Int)) hC).2.2 hn
    exact ⟨ad, e_⟩
  have HA := Aside0.mk hA
  clear hC hbig hA
  refine callsIn_of_wp_marks Try.func105 rfl trivial ?_ rfl
  simp only [Try.ntmps105, List.size_toArray, List.length_cons, List.length_nil, Nat.reduceAdd, Nat.reduceSub, Array.replicate_succ, Array.replicate_zero, List.push_toArray, List.append_toArray, List.nil_append, List.cons_append]
  gi_wp2_with (refine ⟨trivial, ?_⟩; gi_at_call 140; refine (chunk_in _ A l0.length c m (by omega) _).mono ?_; rintro e w' ⟨rfl, rfl⟩)
  have J0 : (((((w.alloc (.cells #[.int .i64 a2] 3)).alloc (.cells #[.slice none 0 0] 42)).alloc (.cells #[.int .i64 0] 3)).alloc (.cells #[.slice A l0.length c] 42)).alloc (.cells #[.int .i64 (m : Int)] 3)).heap.size = w.heap.size + 5 := by simp
  have k0 := blk_alloc (blk_alloc (blk_alloc (blk_alloc (blk_new w (.cells #[.int .i64 a2] 3)) (.cells #[.slice none 0 0] 42)) (.cells #[.int .i64 0] 3)) (.cells #[.slice A l0.length c] 42)) (.cells #[.int .i64 (m : Int)] 3)
  have k1 := blk_alloc (blk_alloc (blk_alloc (blk_new (w.alloc (.cells #[.int .i64 a2] 3)) (.cells #[.slice none 0 0] 42)) (.cells #[.int .i64 0] 3)) (.cells #[.slice A l0.length c] 42)) (.cells #[.int .i64 (m : Int)] 3)
  have k2 := blk_alloc (blk_alloc (blk_new ((w.alloc (.cells #[.int .i64 a2] 3)).alloc (.cells #[.slice none 0 0] 42)) (.cells #[.int .i64 0] 3)) (.cells #[.slice A l0.length c] 42)) (.cells #[.int .i64 (m : Int)] 3)
  have k3 := blk_alloc (blk_new (((w.alloc (.cells #[.int .i64 a2] 3)).alloc (.cells #[.slice none 0 0] 42)).alloc (.cells #[.int .i64 0] 3)) (.cells #[.slice A l0.length c] 42)) (.cells #[.int .i64 (m : Int)] 3)
  have k4 := blk_new ((((w.alloc (.cells #[.int .i64 a2] 3)).alloc (.cells #[.slice none 0 0] 42)).alloc (.cells #[.int .i64 0] 3)).alloc (.cells #[.slice A l0.length c] 42)) (.cells #[.int .i64 (m : Int)] 3)
  have hB0 := below_alloc (below_alloc (below_alloc (below_alloc (below_alloc (Below.refl w.heap.size w) (.cells #[.int .i64 a2] 3)) (.cells #[.slice none 0 0] 42)) (.cells #[.int .i64 0] 3)) (.cells #[.slice A l0.length c] 42)) (.cells #[.int .i64 (m : Int)] 3)
  simp only [World.size_alloc] at k1 k2 k3 k4
  generalize (((((w.alloc (.cells #[.int .i64 a2] 3)).alloc (.cells #[.slice none 0 0] 42)).alloc (.cells #[.int .i64 0] 3)).alloc (.cells #[.slice A l0.length c] 42)).alloc (.cells #[.int .i64 (m : Int)] 3)) = W0 at J0 k0 k1 k2 k3 k4 hB0 ⊢
  obtain ⟨n0, hn0⟩ : ∃ n0, w.heap.size = n0 := ⟨_, rfl⟩
  rw [hn0] at J0 k0 k1 k2 k3 k4 ⊢
  refine wpIn_rangeFunc_ownG rfl (by omega) (gf := 157) (lb := #[.pointer (some ⟨n0 + 1 + 1 + 1, 0, none⟩), .pointer (some ⟨n0 + 1 + 1 + 1 + 1, 0, none⟩)]) rfl trivial (enters_of Try.func157 (by kernel_rfl) rfl)
    (chunk_stops (3 - 1) (by omega) (n0 + 1 + 1 + 1) (n0 + 1 + 1 + 1 + 1) A l0.length c m HA.out hm hc (by have := HBIG.out; omega) W0 k3 k4) (fun h k => keepTwo_t _ _ h k)
    (fun W l o o' hl _ _ _ => keepTwo_put _ _ W l o' (by omega) (by omega)) (Below.refl _ _) (fun _ => rfl)
    (fun pre W => (∀ k : Nat, k < pre.length → (k : Int) ≠ a2) ∧ (W.heap[n0]? = some (.cells #[.int .i64 a2] 3 (0, 0)) ∧ W.heap[n0 + 1]? = some (.cells #[.slice none 0 0] 42 (0, 0)) ∧ W.heap[n0 + 1 + 1]? = some (.cells #[.int .i64 (pre.length : Int)] 3 (0, 0)) ∧ W.heap[n0 + 1 + 1 + 1]? = some (.cells #[.slice A l0.length c] 42 (0, 0)) ∧ W.heap[n0 + 1 + 1 + 1 + 1]? = some (.cells #[.int .i64 (m : Int)] 3 (0, 0))) ∧ Below w.heap.size w W)
    (fun cd pre W => (cd = .ret ∧ ∃ (p : List (Piece l0.length)) (x : Piece l0.length), pre = p ++ [x] ∧ (p.length : Int) = a2 ∧ ∃ v, W.heap[n0 + 1]? = some (.cells #[v] 42 (0, 0)) ∧ Kd.R (Kd.int .i64) 3 W w.heap.size (fun k_ => k_ ≠ n0 + 1) v ((l0.take (x.1.1 + x.1.2)).drop x.1.1)) ∧ Below w.heap.size w W)
    (OwnFrom.and (ownFrom_pure _ _) (OwnFrom.and (OwnFrom.and (own_blk _ _ _ _) (OwnFrom.and (own_blk _ _ _ _) (OwnFrom.and own_len (OwnFrom.and (own_blk _ _ _ _) (own_blk _ _ _ _))))) (ownFrom_below (Nat.le_refl _) (by omega))))
    (fun cd => OwnFrom.and own_found (ownFrom_below (Nat.le_refl _) (by omega)))
    ⟨fun k h => absurd h (Nat.not_lt_zero _), ⟨k0, k1, k2, k3, k4⟩, hB0⟩
    (fun x => { tmps := #[.slice A l0.length c, .int .i64 (m : Int), .int .i64 a2, undef, undef, .pointer (some ⟨n0, 0, none⟩), .pointer (some ⟨n0 + 1, 0, none⟩), .pointer (some ⟨n0 + 1 + 1, 0, none⟩), .slice (A.map (·.add x.1.1)) x.1.2 x.1.2, .slice A l0.length c, .int .i64 (m : Int), .func (.func 157) #[] #[.pointer (some ⟨n0 + 1 + 1 + 1, 0, none⟩), .pointer (some ⟨n0 + 1 + 1 + 1 + 1, 0, none⟩)], .slice (A.map (·.add x.1.1)) x.1.2 x.1.2, undef, undef, undef, undef, undef, undef, undef], defers := [] })
    ?assign ?body ?done ?stop
  case assign =>
    intro l x W K hK
    gi_wp2
    simpa using hK
  case body =>
    rintro l pre x W ⟨hno, ⟨b0, b1, b2, b3, b4⟩, hB⟩ hpl
    have hx0 := x.2.2
    have hxn := x.2.1
    obtain ⟨ad, had⟩ := HA.out (by omega)
    subst had
    dsimp only [Option.map_some]
    have hbg := HBIG.out
    obtain ⟨L, hL⟩ : ∃ L, L = (l0.take (x.1.1 + x.1.2)).drop x.1.1 := ⟨_, rfl⟩
    have hLl : L.length = x.1.2 := by rw [hL, List.length_drop, List.length_take]; omega
    have HCL := Aside0.mk (fun (W : World) (hC : Kd.C (Kd.int .i64) W (some (ad.add x.1.1)) L.length L) => (by have g := slices_Clone_int_int.calls (some (ad.add x.1.1)) L.length L L W hC (Nat.le_refl _) (by unfold slices_Clone_int_int.f; rw [if_pos (by omega)]); rwa [hLl] at g : Calls Try.prog 141 #[.slice (some (ad.add x.1.1)) x.1.2 x.1.2] W _))
    have HPR := Aside0.mk (hL ▸ piece_reads ad l0 x.1.1 x.1.2 w HC.out hxn : Kd.C (Kd.int .i64) w (some (ad.add x.1.1)) L.length L)
    have HL_ := Aside0.mk hL
    have hw1 : IntKind.i64.wrap ((pre.length : Int) + 1) = (pre.length : Int) + 1 := (i64_w _).trans (by unfold wrap64; omega)
    have c0 : W.cell? ⟨n0, 0, none⟩ = some (.int .i64 a2) := (blk_cell b0 0).trans rfl
    have c2 : W.cell? ⟨n0 + 1 + 1, 0, none⟩ = some (.int .i64 (pre.length : Int)) := (blk_cell b2 0).trans rfl
    have f2 : W.frozen? ⟨n0 + 1 + 1, 0, none⟩ = false := blk_frozen b2 0
    have B0 := Aside0.mk b0
    have B1 := Aside0.mk b1
    have B2 := Aside0.mk b2
    have B3 := Aside0.mk b3
    have B4 := Aside0.mk b4
    have HB := Aside0.mk hB
    have HNO := Aside0.mk hno
    have HPL := Aside0.mk hpl
    have HN0 := Aside0.mk hn0
    have HJ := Aside0.mk J0
    clear hL hLl hno b0 b1 b2 b3 b4 hB hpl hbg hn0 J0 k0 k1 k2 k3 k4 hB0
    generalize x.1.2 = xn at HCL hx0 hxn ⊢
    by_cases he : (pre.length : Int) = a2
    · have he1 : ((pre.length : Int) == a2) = true := beq_iff_eq.mpr he
      have HE := Aside0.mk he
      clear he
      gi_wp2_with (refine ⟨trivial, ?_⟩; gi_at_call 141; refine (CallsIn.inRound l (callsIn_wide.2 (HCL.out W (Kd.C_below HPR.out HB.out)))).mono ?_; rintro e W1 ⟨v, rfl, hR, hb⟩; obtain ⟨Av, cv, ev⟩ := Kd.R_slice hR; subst ev; have c1 : W1.cell? ⟨n0 + 1, 0, none⟩ = some (.slice none 0 0) := (blk_cell (blk_below B1.out hb) 0).trans rfl; have f1 : W1.frozen? ⟨n0 + 1, 0, none⟩ = false := blk_frozen (blk_below B1.out hb) 0; have HRR := Aside0.mk hR; have HBB := Aside0.mk hb; clear hR hb)
      have hw0 := HN0.out
      have hj0 := HJ.out
      refine ⟨⟨by rw [World.size_setCell]; exact HBB.out.size, fun k o hk ho hn => ?_⟩, ⟨rfl, pre, x, rfl, HE.out, _, blk_put (blk_below B1.out HBB.out) 0 (.slice Av L.length cv) rfl, ?_⟩, below_set (below_step HB.out HBB.out) (by omega)⟩
      · rw [Below.heap_setCell _ _ _ _ (by show k ≠ n0 + 1; omega)]
        exact (HBB.out.block k (Array.getElem?_eq_some_iff.1 ho).1).trans ho
      · rw [← HL_.out]
        exact Kd.R_mono (Kd.R_far (p := ⟨n0 + 1, 0, none⟩) (Kd.R_types (Kd.R_lower HRR.out HB.out.size) (blk_below B1.out HBB.out) (by decide)) (fun _ hk => hk.2) (.slice Av L.length cv)) (fun _ hk => hk.2)
    · have he1 : ((pre.length : Int) == a2) = false := beq_eq_false_iff_ne.mpr he
      have HE := Aside0.mk he
      clear he
      gi_wp2
      have hw0 := HN0.out
      have hj0 := HJ.out
      have hll : ((pre ++ [x]).length : Int) = (pre.length : Int) + 1 := by simp
      refine ⟨⟨by rw [World.size_setCell]; exact Nat.le_refl _, fun k o hk ho hn => ?_⟩, ⟨fun o ho => ?_, fun o ho => ?_⟩, fun k hk => ?_, ⟨?_, ?_, ?_, ?_, ?_⟩, below_set HB.out (by omega)⟩
      · rw [Below.heap_setCell _ _ _ _ (by show k ≠ n0 + 1 + 1; omega)]
        exact ho
      · rw [Below.heap_setCell _ _ _ _ (by show n0 + 1 + 1 + 1 ≠ n0 + 1 + 1; omega)]
        exact ho
      · rw [Below.heap_setCell _ _ _ _ (by show n0 + 1 + 1 + 1 + 1 ≠ n0 + 1 + 1; omega)]
        exact ho
      · rw [List.length_append, List.length_singleton] at hk
        by_cases e : k = pre.length
        · subst e; exact HE.out
        · exact HNO.out k (by omega)
      · exact blk_far B0.out (p := ⟨n0 + 1 + 1, 0, none⟩) (by show n0 ≠ n0 + 1 + 1; omega) _
      · exact blk_far B1.out (p := ⟨n0 + 1 + 1, 0, none⟩) (by show n0 + 1 ≠ n0 + 1 + 1; omega) _
      · rw [hll]; exact blk_put B2.out 0 (.int .i64 ((pre.length : Int) + 1)) rfl
      · exact blk_far B3.out (p := ⟨n0 + 1 + 1, 0, none⟩) (by show n0 + 1 + 1 + 1 ≠ n0 + 1 + 1; omega) _
      · exact blk_far B4.out (p := ⟨n0 + 1 + 1, 0, none⟩) (by show n0 + 1 + 1 + 1 + 1 ≠ n0 + 1 + 1; omega) _
  case done =>
    rintro D ys W hD hS ⟨hno, ⟨b0, b1, b2, b3, b4⟩, hB⟩ hK
    have hD1 : n0 + 1 ≠ D := by omega
    have hDw : w.heap.size ≤ D := by omega
    have HDW := Aside0.mk hDw
    clear hDw
    have hpc : pieceAt l0 (m : Int) a2 = [] := by
      unfold pieceAt
      by_cases h0 : 0 ≤ a2
      · rw [if_pos h0]
        obtain ⟨k, rfl⟩ : ∃ k : Nat, a2 = k := ⟨a2.toNat, by omega⟩
        have h1 : ys.length ≤ k := by
          by_cases h : k < ys.length
          · exact absurd rfl (hno k h)
          · omega
        have hS' : ys.map (·.1) = chunkF m l0.length (l0.length + 1) 0 := hS
        have h2 := chunkF_get m l0.length hm.1 (l0.length + 1) 0 k (by omega)
        rw [← hS', List.getElem?_eq_none (by rw [List.length_map]; exact h1)] at h2
        have h3 : l0.length ≤ m * k := by
          by_cases h : 0 + m * k < l0.length
          · rw [if_pos h] at h2; cases h2
          · omega
        rw [Int.toNat_natCast, Int.toNat_natCast, List.drop_of_length_le h3, List.take_nil]
      · rw [if_neg h0]
    have c1 : W.cell? ⟨n0 + 1, 0, none⟩ = some (.slice none 0 0) := (blk_cell b1 0).trans rfl
    have f1 : W.frozen? ⟨n0 + 1, 0, none⟩ = false := blk_frozen b1 0
    have B1 := Aside0.mk b1
    have HB := Aside0.mk hB
    have HK := Aside0.mk hK
    have HPC := Aside0.mk hpc
    have HN0 := Aside0.mk hn0
    clear hno hS b0 b1 b2 b3 b4 hB hK hpc hn0 J0 k0 k1 k2 k3 k4 hB0
    gi_wp2
    have mK := blk_put B1.out 0 (.slice none 0 0) rfl
    have mB := below_set (j := 0) (v := .slice none 0 0) HB.out (g := n0 + 1) (by have := HN0.out; omega)
    have mD : (W.setCell ⟨n0 + 1, 0, none⟩ (.slice none 0 0)).heap[D]? = some (.deferred (some [])) := by rw [Below.heap_setCell _ _ _ _ (Ne.symm hD1)]; exact HK.out
    clear c1 f1 B1 HB HK
    generalize W.setCell ⟨n0 + 1, 0, none⟩ (.slice none 0 0) = Wf at mK mB mD ⊢
    refine ⟨by simp, .inl ⟨_, _, rfl, run_takeDeferred mD, ?_⟩⟩
    have mP : (Wf.putObj D (.deferred none)).heap[n0 + 1]? = _ := (World.putObj_heap_other hD1).trans mK
    have y0 : (Wf.putObj D (.deferred none)).cell? ⟨n0 + 1, 0, none⟩ = some (.slice none 0 0) := (blk_cell mP 0).trans rfl
    exact ⟨_, (by simp [results, Try.results105, loadVar, go_sem, y0] : _ = Result.ok (Value.slice none 0 0) _), _, rfl, by rw [HPC.out]; exact Kd.R_nil _ _ _ _ _, mB.trans (belowK_b (w := w) (Nat.le_refl _) Wf D _ _ HDW.out mD rfl rfl)⟩
  case stop =>
    rintro D cd pre W hD hSp ⟨⟨rfl, p, x, rfl, hp, v, hv, hR⟩, hB⟩ hK
    have hD1 : n0 + 1 ≠ D := by omega
    have hDw : w.heap.size ≤ D := by omega
    have HDW := Aside0.mk hDw
    clear hDw
    have hpc : pieceAt l0 (m : Int) a2 = (l0.take (x.1.1 + x.1.2)).drop x.1.1 := by
      subst hp
      obtain ⟨rest, hr⟩ := hSp
      have h2 := chunkF_get m l0.length hm.1 (l0.length + 1) 0 p.length (by omega)
      rw [← hr, List.map_append, List.append_assoc, List.getElem?_append_right (by rw [List.length_map]; exact Nat.le_refl _), List.length_map, Nat.sub_self] at h2
      have h3 : some x.1 = if 0 + m * p.length < l0.length then some (0 + m * p.length, min m (l0.length - (0 + m * p.length))) else none := h2
      by_cases h : 0 + m * p.length < l0.length
      · rw [if_pos h] at h3
        have e1 := congrArg (fun z => (z.getD (0, 0)).1) h3
        have e2 := congrArg (fun z => (z.getD (0, 0)).2) h3
        simp only [Option.getD_some, Nat.zero_add] at e1 e2
        unfold pieceAt
        rw [if_pos (by omega), Int.toNat_natCast, Int.toNat_natCast, e1, e2, List.drop_take, show m * p.length + min m (l0.length - m * p.length) - m * p.length = min m (l0.length - m * p.length) by omega]
        by_cases hh : m ≤ l0.length - m * p.length
        · rw [Nat.min_eq_left hh]
        · rw [Nat.min_eq_right (by omega), List.take_of_length_le (by rw [List.length_drop]; omega), List.take_of_length_le (by rw [List.length_drop]; exact Nat.le_refl _)]
      · rw [if_neg h] at h3; cases h3
    have mP : (W.putObj D (.deferred none)).heap[n0 + 1]? = _ := (World.putObj_heap_other hD1).trans hv
    have y0 : (W.putObj D (.deferred none)).cell? ⟨n0 + 1, 0, none⟩ = some v := (blk_cell mP 0).trans rfl
    have HB := Aside0.mk hB
    have HK := Aside0.mk hK
    have HPC := Aside0.mk hpc
    have HN0 := Aside0.mk hn0
    have HRV := Aside0.mk hR
    have HY := Aside0.mk y0
    clear hSp hp hv hR hB hK hpc hn0 J0 k0 k1 k2 k3 k4 hB0 mP y0
    gi_wp2
    refine ⟨by simp, .inl ⟨_, _, rfl, run_takeDeferred HK.out, ?_⟩⟩
    have y0 := HY.out
    refine ⟨_, (by simp [results, Try.results105, loadVar, go_sem, y0] : _ = Result.ok v _), _, rfl, ?_, HB.out.trans (belowK_b (w := w) (Nat.le_refl _) W D _ _ HDW.out HK.out rfl rfl)⟩
    rw [HPC.out]
    refine Kd.R_mono (Kd.R_grown (Kd.R_bound HRV.out) (grownBy_putObj' _ D (.deferred none)) ?_) (fun _ _ => trivial)
    rintro k_ ⟨_, _, _, q, _, cells, hq⟩ hk
    cases hk
    rw [HK.out] at hq
    cases hq
end Go.Proofs.Ytliohoalackhiaa.N.PieceI
namespace Go.Proofs.Ytliohoalackhiaa.N
open Go.RowKit Go.Proofs.YtliohoalackhiaaW.PrintWords Go.Proofs.YtliohoalackhiaaW.PrintLast Go.Proofs.YtliohoalackhiaaW.PrintMore
set_option linter.unusedVariables false
/-- What mani.piece hands back. -/
def mani_piece_int.f (l0 : List Int) (a1 a2 : Int) : Option (List Int) := if 1 ≤ a1 ∧ a1 ≤ 1000 ∧ l0.length < 17592186044416 then some (PieceI.pieceAt l0 a1 a2) else none
theorem mani_piece_int.calls (A0 : Option Addr) (c0 : Nat) (l0 : List Int) (a1 a2 : Int) (r : List Int) (w : World) (hr0 : Kd.C (Kd.int .i64) w A0 l0.length l0) (hc0 : l0.length ≤ c0) (h : mani_piece_int.f l0 a1 a2 = some r) :
    Calls Try.prog 105 #[.slice A0 l0.length c0, .int .i64 a1, .int .i64 a2] w fun e w' => ∃ v0_ : Value, e = .returned v0_ ∧ Kd.R (Kd.int .i64) 3 w' w.heap.size (fun _ => True) v0_ r ∧ Below w.heap.size w w' := by
  unfold mani_piece_int.f at h
  by_cases hg : 1 ≤ a1 ∧ a1 ≤ 1000 ∧ l0.length < 17592186044416
  · rw [if_pos hg] at h
    obtain rfl := Option.some.inj h
    obtain ⟨m, rfl⟩ : ∃ m : Nat, a1 = m := ⟨a1.toNat, by omega⟩
    exact (callsIn_wide (n := 3)).1 (PieceI.piece_in A0 c0 l0 m a2 w (by omega) (by omega) hr0 hc0)
  · rw [if_neg hg] at h; cases h
end Go.Proofs.Ytliohoalackhiaa.N
