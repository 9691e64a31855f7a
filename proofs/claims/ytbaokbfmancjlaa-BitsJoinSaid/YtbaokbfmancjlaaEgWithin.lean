/- bits.Within says whether each place that is set in one row is set in another: for all slices of bytes, in whatever memory. -/
import Derived.Test.YtbaokbfmancjlaaEgFirst
import Derived.Test.YtbaokbfmancjlaaEx1
namespace Go.Proofs.Ytbaokbfmancjlaa.E
open Go.RowKit Go.Shelf Go.Proofs.YtbaokbfmancjlaaW.PrintWords Go.Proofs.YtbaokbfmancjlaaW.PrintMore
set_option linter.unusedVariables false
set_option linter.unusedSimpArgs false
attribute [local go_sem] Oper.semAt_some

theorem lowB_mem {c x : Int} (h : x ∈ lowB c) : 0 ≤ x ∧ x < 8 := by
  unfold lowB at h
  obtain ⟨i, hi, rfl⟩ := List.mem_map.1 h
  have := List.mem_range.1 (List.mem_filter.1 hi).1
  omega
theorem posns_mem (l : List Int) : ∀ (k x : Int), x ∈ posns k l → k * 8 ≤ x ∧ x < k * 8 + 8 * l.length := by
  induction l with
  | nil => intro k x h; simp [posns] at h
  | cons c t ih =>
    intro k x h
    rcases List.mem_append.1 h with h | h
    · obtain ⟨i, hi, rfl⟩ := List.mem_map.1 h
      have := lowB_mem hi
      simp only [List.length_cons]; omega
    · have := ih _ _ h
      simp only [List.length_cons]; omega

/-- whether each of these places is set -/
def withinL (l1 : List Int) : List Int → Option Bool
  | [] => some true
  | i :: t => (bits_Get.f l1 i).bind fun b => if b then withinL l1 t else some false
/-- What bits.Within computes. -/
def bits_Within.f (l0 l1 : List Int) : Option Bool := if l0.length < 140737488355328 ∧ bytesB l0 = true then withinL l1 (posns 0 l0) else none

theorem get_total (l : List Int) (x : Int) (h0 : 0 ≤ x) (h1 : x < 1125899906842624) : ∃ b, bits_Get.f l x = some b := by
  unfold bits_Get.f
  rw [Int.tdiv_eq_ediv_of_nonneg h0, Int.tmod_eq_emod_of_nonneg h0]
  have hw : wrap64 (x / 8) = x / 8 := by unfold wrap64; omega
  rw [hw]
  rw [if_pos (by omega)]
  split
  · rw [if_pos (by omega), if_pos (by omega)]; exact ⟨_, rfl⟩
  · exact ⟨_, rfl⟩

theorem each_stops_mem (n : Nat) (hn : 1 ≤ n) (Bs : Nat) (ok : Nat → Prop) (A : Option Addr) (cap : Nat) (zs : List Int) (hz8 : ∀ j, j < zs.length → 0 ≤ zs.getD j 0 ∧ zs.getD j 0 ≤ 255) (hmax : zs.length < 140737488355328) (w : World) (hBs : Bs < w.heap.size) (hoks : ok Bs)
    (hc : w.cell? ⟨Bs, 0, none⟩ = some (.slice A zs.length cap)) (hokb : 0 < zs.length → ∀ ad, A = some ad → ok ad.block) (hI : 0 < zs.length → ∃ ad, A = some ad ∧ ∀ j, j < zs.length → w.cell? (ad.add j) = some (.int .u8 (zs.getD j 0))) :
    SeqStopsK Fence.wide n Try.prog 77 #[.pointer (some ⟨Bs, 0, none⟩)] (fun x : {x : Int // x ∈ posns 0 zs} => #[Value.int .i64 x.1]) (Kb ok) (fun ys => ys.map (·.1) = posns 0 zs) (fun pre => ∃ rest, pre.map (·.1) ++ rest = posns 0 zs) (posns 0 zs).length w := fun l J Jx W hW aJ aX hY h0 => by
  have hc' := (hW.cell (p := ⟨Bs, 0, none⟩) hBs).trans hc
  refine (each1_in n hn l Bs ok A cap zs hz8 hmax hokb hoks (fun pre W => ∃ q : List {x : Int // x ∈ posns 0 zs}, q.map (·.1) = pre ∧ J q W) (fun pre W => ∃ q : List {x : Int // x ∈ posns 0 zs}, q.map (·.1) = pre ∧ Jx q W) ?_ W hc' (fun hp => ?_) ⟨[], rfl, h0⟩).mono ?_
  · rintro pre x W ⟨q, rfl, hJ⟩ hlen hx
    refine (hY q ⟨x, hx⟩ W hJ (by simpa using hlen)).mono ?_
    rintro e W' (⟨rfl, h1, h2⟩ | ⟨rfl, h1⟩)
    · exact .inl ⟨rfl, ⟨_, by simp, h1⟩, h2⟩
    · exact .inr ⟨rfl, ⟨_, by simp, h1⟩⟩
  · obtain ⟨ad, rfl, hcs⟩ := hI hp
    exact ⟨ad, rfl, fun j hj => (hW.cell (p := ad.add j) (World.block_lt_of_cell? w _ (hcs j hj))).trans (hcs j hj)⟩
  · rintro e W' ⟨he, (⟨ys, hys, q, hq, hJ⟩ | ⟨pre, hpre, q, hq, hJ⟩)⟩
    · exact ⟨he, .inl ⟨q, hq.trans hys, hJ⟩⟩
    · exact ⟨he, .inr ⟨q, by show ∃ rest, q.map (·.1) ++ rest = _; rw [hq]; exact hpre, hJ⟩⟩

theorem results_cell {fn : Func} {t : Tmp} {ty : TypeId} (h : fn.results = #[.cell t ty]) (tmps : Array Value) (P : Program) (w : World) (p : Addr) (v : Value) (hp : tmps.getD t undef = .pointer (some p)) (hl : (loadVar ty p).run P w = .ok v w) :
    (results fn tmps).run P w = .ok v w := by
  have hp' : tmps[t]?.getD undef = .pointer (some p) := by simpa using hp
  simp [results, h, hp', hl, asAddr]

theorem kb_drewN (ok : Nat → Prop) (W : World) (m : Nat) : Kb ok W (W.drewN m) := by
  have h : (W.drewN m).heap = W.heap := by simp
  exact ⟨by rw [h]; exact Nat.le_refl _, fun k _ _ => by rw [h]⟩
theorem keeps_drewN (B : Nat) (W : World) (m : Nat) : KeepsFrom B W (W.drewN m) := by
  have h : (W.drewN m).heap = W.heap := by simp
  exact ⟨by rw [h]; exact Nat.le_refl _, fun k o _ ho _ => by rw [h]; exact ho⟩

set_option maxRecDepth 100000 in
set_option maxHeartbeats 4000000 in
theorem within_in (A : Option Addr) (cap : Nat) (zs : List Int) (A1 : Option Addr) (c1 : Nat) (l1 : List Int) (r : Bool) (w : World) (hz8 : ∀ j, j < zs.length → 0 ≤ zs.getD j 0 ∧ zs.getD j 0 ≤ 255) (hmax : zs.length < 140737488355328) (hcap : zs.length ≤ cap)
    (hok : 0 < zs.length → ∀ ad, A = some ad → ad.block < w.heap.size) (hI : 0 < zs.length → ∃ ad, A = some ad ∧ ∀ j, j < zs.length → w.cell? (ad.add j) = some (.int .u8 (zs.getD j 0)))
    (hr1 : Kd.C (Kd.int .u8) w A1 l1.length l1) (hc1 : l1.length ≤ c1) (h : withinL l1 (posns 0 zs) = some r) :
    CallsIn Fence.wide 3 Try.prog 61 #[.slice A zs.length cap, .slice A1 l1.length c1] w fun e W' => e = .returned (.bool r) ∧ Below w.heap.size w W' := by
  refine callsIn_of_wp_marks Try.func61 rfl trivial ?_ rfl
  simp only [Try.ntmps61, List.size_toArray, List.length_cons, List.length_nil, Nat.reduceAdd, Nat.reduceSub, Array.replicate_succ, Array.replicate_zero, List.push_toArray, List.append_toArray, List.nil_append, List.cons_append]
  have H := Lib.hid h
  have HR1 := Aside0.mk hr1
  clear h hr1
  gi_wp2_with (refine ⟨trivial, ?_⟩; gi_at_call 69; refine (each_in _ _ _ _ _).mono ?_; rintro e w' ⟨rfl, rfl⟩)
  have bB := Boxed.new w 37 (.slice A1 l1.length c1)
  have bS := Boxed.new (w.alloc (.cells #[.slice A1 l1.length c1] 37)) 4 (.bool false)
  have bN := Boxed.new ((w.alloc (.cells #[.slice A1 l1.length c1] 37)).alloc (.cells #[.bool false] 4)) 37 (.slice A zs.length cap)
  simp only [World.size_alloc] at bS bN
  have hB0 : Below w.heap.size w (((w.alloc (.cells #[.slice A1 l1.length c1] 37)).alloc (.cells #[.bool false] 4)).alloc (.cells #[.slice A zs.length cap] 37)) := (((Below.refl _ w).alloc (Nat.le_refl _) _).alloc (by simp) _).alloc (by simp; omega) _
  refine wpIn_rangeFunc_ownG rfl (by omega) (gf := 77) (lb := #[.pointer (some ⟨w.heap.size + 1 + 1, 0, none⟩)]) rfl trivial (enters_of Try.func77 (by kernel_rfl) rfl)
    (each_stops_mem (3 - 1) (by omega) (w.heap.size + 1 + 1) (fun k => k < w.heap.size ∨ k = w.heap.size + 1 + 1) A cap zs hz8 hmax _ (by simp) (.inr rfl) bN.cell (fun hp ad h => .inl (hok hp ad h)) (fun hp => ?hI)) Kb.trans (Kb.putObj (fun k hk => by simp; omega)) (Below.refl _ _) (fun _ => rfl)
    (fun pre W => (((W.cell? ⟨w.heap.size, 0, none⟩ = some (.slice A1 l1.length c1) ∧ W.cell? ⟨w.heap.size + 1, 0, none⟩ = some (.bool false)) ∧ W.frozen? ⟨w.heap.size + 1, 0, none⟩ = false) ∧ ∀ rest, withinL l1 (pre.map (·.1) ++ rest) = withinL l1 rest) ∧ Below w.heap.size w W)
    (fun c pre W => ((c = .ret ∧ (W.cell? ⟨w.heap.size + 1, 0, none⟩ = some (.bool false)) ∧ ∀ rest, withinL l1 (pre.map (·.1) ++ rest) = some false)) ∧ Below w.heap.size w W)
    ?own1 ?own2
    ⟨⟨⟨⟨((bB.alloc _).alloc _).cell, (bS.alloc _).cell⟩, (bS.alloc _).frozen⟩, fun _ => rfl⟩, hB0⟩
    (fun x => { tmps := #[.slice A zs.length cap, .slice A1 l1.length c1, undef, .pointer (some ⟨w.heap.size, 0, none⟩), .pointer (some ⟨w.heap.size + 1, 0, none⟩), .int .i64 x.1, .slice A zs.length cap, .func (.func 77) #[] #[.pointer (some ⟨w.heap.size + 1 + 1, 0, none⟩)], .int .i64 x.1, undef, undef, undef, undef], defers := [] }) ?assign ?body ?done ?stop
  case own1 =>
    exact OwnFrom.and (Own.from (fun s A B row hs hg hr => ⟨⟨⟨cell_kept hs.1.1.1 hg hr, cell_kept hs.1.1.2 hg hr⟩, (frozen_kept hs.1.1.2 hg hr).trans hs.1.2⟩, hs.2⟩) _) (ownFrom_below (Nat.le_refl _) (by simp; omega))
  case own2 =>
    intro c
    refine OwnFrom.and (Own.from (fun s A B row hs hg hr => ⟨hs.1, cell_kept hs.2.1 hg hr, hs.2.2⟩) _) (ownFrom_below (Nat.le_refl _) (by simp; omega))
  case hI =>
    obtain ⟨ad, rfl, hcs⟩ := hI hp
    exact ⟨ad, rfl, fun j hj => (hB0.cell (World.block_lt_of_cell? w _ (hcs j hj))).trans (hcs j hj)⟩
  case assign =>
    intro l x W K hK
    gi_wp2
    exact hK
  case body =>
    rintro l pre ⟨x, hx⟩ W ⟨⟨⟨⟨hb, hc⟩, hf⟩, hfo⟩, hB⟩ hpl
    have hxr := posns_mem zs 0 x hx
    obtain ⟨b, hgb⟩ := get_total l1 x (by omega) (by omega)
    have HW := Kd.C_below HR1.out hB
    have HG := fun n => (callsIn_wide (n := n)).2 (bits_Get.calls A1 c1 l1 x b W HW hc1 hgb)
    cases b with
    | true =>
      gi_wp2_with (refine ⟨trivial, ?_⟩; gi_at_call 52; refine (HG _).mono ?_; rintro e w' ⟨rfl, ⟨m, rfl⟩⟩)
      refine ⟨keeps_drewN _ _ _, kb_drewN _ _ _, ⟨⟨⟨⟨hb, hc⟩, hf⟩, fun rest => ?_⟩, pw_below_drewN hB _⟩⟩
      rw [List.map_append, List.append_assoc, hfo]
      show (bits_Get.f l1 x).bind _ = _
      rw [hgb]; rfl
    | false =>
      gi_wp2_with (refine ⟨trivial, ?_⟩; gi_at_call 52; refine (HG _).mono ?_; rintro e w' ⟨rfl, ⟨m, rfl⟩⟩)
      refine ⟨(keeps_drewN _ _ _).trans ((KeepsOthers.setCell _ _ _).from _), ⟨rfl, World.cell?_setCell_same' _ _ _ (by rw [World.cell?_drewN, hc]; rfl), fun rest => ?_⟩, Below.setCell (p := ⟨w.heap.size + 1, 0, none⟩) (pw_below_drewN hB _) (by show w.heap.size ≤ w.heap.size + 1; omega) _⟩
      rw [List.map_append, List.append_assoc, hfo]
      show (bits_Get.f l1 x).bind _ = _
      rw [hgb]; rfl
  case done =>
    rintro D ys W hD hS ⟨⟨⟨⟨_, hc⟩, hf⟩, hfo⟩, hB⟩ hK
    have hS' : ys.map (·.1) = posns 0 zs := hS
    have hq := (hfo []).symm.trans ((congrArg (withinL l1) (by rw [List.append_nil, hS'])).trans H.out)
    obtain rfl := Option.some.inj hq
    clear hq
    gi_wp2
    have hK2 := (Below.heap_setCell W ⟨w.heap.size + 1, 0, none⟩ (.bool true) D (by simp at hD; show _ ≠ _; simp; omega)).trans hK
    refine ⟨by simp, .inl ⟨_, _, rfl, run_takeDeferred hK2, ?_⟩⟩
    have hne : w.heap.size + 1 ≠ D := by simp at hD; omega
    refine ⟨_, results_cell rfl _ _ _ ⟨w.heap.size + 1, 0, none⟩ (.bool true) rfl ?_, rfl, (hB.setCell (p := ⟨w.heap.size + 1, 0, none⟩) (by show w.heap.size ≤ w.heap.size + 1; omega) _).trans (belowK_b (w := w) (Nat.le_refl _) _ D _ _ (by simp at hD; omega) hK2 rfl rfl)⟩
    have hcell : ((W.setCell ⟨w.heap.size + 1, 0, none⟩ (.bool true)).putObj D (.deferred none)).cell? ⟨w.heap.size + 1, 0, none⟩ = some (.bool true) := by
      rw [World.cell?_of_block (World.putObj_heap_other (fun e => hne e))]
      exact World.cell?_setCell_same' _ _ _ (by rw [hc]; rfl)
    simp [loadVar, go_sem, hcell]
  case stop =>
    rintro D c pre W hD ⟨rest, hrest⟩ ⟨⟨rfl, hc, hfo⟩, hB⟩ hK
    have hq := (hfo rest).symm.trans ((congrArg (withinL l1) hrest).trans H.out)
    obtain rfl := Option.some.inj hq
    clear hq
    gi_wp2
    refine ⟨by simp, .inl ⟨_, _, rfl, run_takeDeferred hK, ?_⟩⟩
    have hne : w.heap.size + 1 ≠ D := by simp at hD; omega
    refine ⟨_, results_cell rfl _ _ _ ⟨w.heap.size + 1, 0, none⟩ (.bool false) rfl ?_, rfl, hB.trans (belowK_b (w := w) (Nat.le_refl _) _ D _ _ (by simp at hD; omega) hK rfl rfl)⟩
    have hcell : (W.putObj D (.deferred none)).cell? ⟨w.heap.size + 1, 0, none⟩ = some (.bool false) := by
      rw [World.cell?_of_block (World.putObj_heap_other (fun e => hne e))]
      exact hc
    simp [loadVar, go_sem, hcell]

theorem bits_Within.calls (A0 : Option Addr) (c0 : Nat) (l0 : List Int) (A1 : Option Addr) (c1 : Nat) (l1 : List Int) (r : Bool) (w : World) (hr0 : Kd.C (Kd.int .u8) w A0 l0.length l0) (hc0 : l0.length ≤ c0) (hr1 : Kd.C (Kd.int .u8) w A1 l1.length l1) (hc1 : l1.length ≤ c1) (h : bits_Within.f l0 l1 = some r) :
    Calls Try.prog 61 #[.slice A0 l0.length c0, .slice A1 l1.length c1] w fun e w' => e = .returned (.bool r) ∧ Below w.heap.size w w' := by
  unfold bits_Within.f at h
  by_cases hl : l0.length < 140737488355328 ∧ bytesB l0 = true
  · rw [if_pos hl] at h
    have hr : ReadsInt w .u8 A0 l0.length l0 := Kd.reads_of_C (d := (0 : Int)) hr0
    refine (callsIn_wide (n := 3)).1 ?_
    exact within_in A0 c0 l0 A1 c1 l1 r w (bytesB_at hl.2) hl.1 hc0 (fun hp ad h => by
      obtain ⟨ad2, e, hc⟩ := hr.2.2 hp
      cases h.symm.trans e
      exact World.block_lt_of_cell? w _ (hc 0 hp)) hr.2.2 hr1 hc1 h
  · rw [if_neg hl] at h; cases h
end Go.Proofs.Ytbaokbfmancjlaa.E
