/- Flush, Loose, Get of a store. -/
import Derived.Test.YtliohoalackhiaaHTKeepF
namespace Go.Proofs.Ytliohoalackhiaa.T
open Go.ChangeMaps hiding rd
open Go.RowKit Go.Maps Go.Proofs.YtliohoalackhiaaW.PrintWords Go.Proofs.YtliohoalackhiaaW.PrintLast Go.Proofs.YtliohoalackhiaaW.PrintMore
set_option linter.unusedVariables false
set_option linter.unusedSimpArgs false
theorem flush_sto {w w1 : World} {base g m1 m2 m' : Nat} {lo t1 t2 : Value} {A1 A2 : Hist × List Int} {steps : List Step} (h : Sto w base g m1 m2 lo A1 A2 steps) (hgc : w.heap[g]? = some (.cells #[.map (some m1), t1, .map (some m2), t2, lo] 112 (0, 0))) (hr : Rd w t2 A2.2)
    (hb : Below w.heap.size w w1) (hm : MapIs w1 m' A2.1) (hm' : w.heap.size ≤ m') (hbase : base ≤ w.heap.size) (w2 : World) (hw2 : w2 = ((w1.setCell ⟨g, 0, none⟩ (.map (some m'))).setCell ⟨g, 1, none⟩ t2).setCell ⟨g, 4, none⟩ (.slice none 0 0)) :
    Sto w2 base g m' m2 (.slice none 0 0) A2 A2 [] ∧ Mv w w2 (Own g m1 m2 lo) ∧ (∀ k, Own g m' m2 (.slice none 0 0) k → Own g m1 m2 lo k ∨ w.heap.size ≤ k) := by
  have hne := h.gl
  have hlt := fun k hk => h.lt (k := k) hk
  have hard := h.h2.lt
  obtain ⟨_, h1, h2, ne, bg, b1, b2, hl⟩ := h
  have hg1 := blk_below hgc hb
  have hp0 := blk_put hg1 0 (.map (some m')) rfl
  have hs0 := softKept_set (j := 0) hg1 (.map (some m'))
  have hp1 := blk_put hp0 1 t2 rfl
  have hs1 := hs0.trans (softKept_set (j := 1) hp0 t2)
  have hp2 := blk_put hp1 4 (.slice none 0 0) rfl
  have hs2 := (softKept_below hb).trans (hs1.trans (softKept_set (j := 4) hp1 (.slice none 0 0)))
  have hk2 : ∀ k, k ≠ g → w2.heap[k]? = w1.heap[k]? := fun k hk => by rw [hw2]; exact (heap_set _ hk).trans ((heap_set _ hk).trans (heap_set _ hk))
  have hsz : w2.heap.size = w1.heap.size := by rw [hw2]; simp [World.setCell]
  have hx : w2.os = w1.os ∧ w2.tape = w1.tape ∧ w2.output = w1.output := by rw [hw2]; exact ⟨rfl, rfl, rfl⟩
  rw [← hw2] at hp2 hs2
  have hgl := hlt g (.inl rfl)
  have hmg : m' ≠ g := by omega
  have hs12 : SoftKept w1 w2 := fun k hk => hk2 k (fun e => sto_soft hg1 (e ▸ hk))
  refine ⟨⟨⟨t2, t2, hp2, hr.step hs2, hr.step hs2⟩, hm.step hs12 (hk2 m' hmg), h2.step hs2 ((hk2 m2 hne.2.1).trans (hb.block m2 hard)), by omega, bg, by omega, b2, loose_nil _ _⟩, ⟨⟨hx.1.trans hb.os, hx.2.1.trans hb.tape, hx.2.2.trans hb.output, by rw [hsz]; exact hb.size, fun _ hk => by omega⟩, by rw [hsz]; exact hb.size, fun k hk hn => (hk2 k (fun e => hn (.inl e))).trans (hb.block k hk)⟩, fun k hk => ?_⟩
  rcases hk with hk | hk | hk | hk
  · exact .inl (.inl hk)
  · exact .inr (by omega)
  · exact .inl (.inr (.inr (.inl hk)))
  · cases hk
set_option maxRecDepth 100000 in
set_option maxHeartbeats 4000000 in
theorem keep_flush (w : World) (base g m1 m2 : Nat) (lo : Value) (A1 A2 : Hist × List Int) (steps : List Step) (h : Sto w base g m1 m2 lo A1 A2 steps) (hbase : base ≤ w.heap.size) :
    Calls Try.prog 17 #[.pointer (some ⟨g, 0, none⟩)] w fun e w' => (∃ v, e = .returned v) ∧ ∃ m1', Sto w' base g m1' m2 (.slice none 0 0) A2 A2 [] ∧ Mv w w' (Own g m1 m2 lo) ∧ (∀ k, Own g m1' m2 (.slice none 0 0) k → Own g m1 m2 lo k ∨ w.heap.size ≤ k) := by
  have HS := Aside0.mk h
  obtain ⟨⟨t1, t2, hgc, r1, r2⟩, h1, h2, ne, bg, b1, b2, hl⟩ := h
  have HC := Aside0.mk (copied_any w m2 A2.1 t2 A2.2 h2 r2)
  have HR := Aside0.mk r2
  have HG := Aside0.mk hgc
  obtain ⟨A, c, e, hl, hC⟩ := r2.reads
  obtain ⟨B, b, e', hl', hC'⟩ := r1.reads
  subst e e'
  have d0 : w.cell? ⟨g, 0, none⟩ = some (.map (some m1)) := (blk_cell hgc 0).trans rfl
  have d1 : w.cell? ⟨g, 1, none⟩ = some (.slice B A1.2.length b) := (blk_cell hgc 1).trans rfl
  have d2 : w.cell? ⟨g, 2, none⟩ = some (.map (some m2)) := (blk_cell hgc 2).trans rfl
  have d3 : w.cell? ⟨g, 3, none⟩ = some (.slice A A2.2.length c) := (blk_cell hgc 3).trans rfl
  clear hgc r1 r2 h1 h2 ne bg b1 b2 hl hl' hC hC'
  go_enter Try.func17, Try.ntmps17
  go_wp2_with fail
  refine HC.out.mono ?_
  rintro e w1 ⟨m', rfl, hm', hM, hb⟩
  have HM := Aside0.mk hM
  have HB := Aside0.mk hb
  have HL := Aside0.mk hm'
  have hg1 := blk_below HG.out HB.out
  have e0 : w1.cell? ⟨g, 0, none⟩ = some (.map (some m1)) := (blk_cell hg1 0).trans rfl
  have e1 : w1.cell? ⟨g, 1, none⟩ = some (.slice B A1.2.length b) := (blk_cell hg1 1).trans rfl
  have e4 : w1.cell? ⟨g, 4, none⟩ = some lo := (blk_cell hg1 4).trans rfl
  have f0 := blk_frozen hg1 0
  have f1 := blk_frozen hg1 1
  have f4 := blk_frozen hg1 4
  clear hM hb hm' hg1 d0 d1 d2 d3
  go_wp2_with fail
  go_end0
  obtain ⟨q1, q2, q3⟩ := flush_sto HS.out HG.out HR.out HB.out HM.out HL.out hbase _ rfl
  exact ⟨⟨_, rfl⟩, m', q1, q2, q3⟩
set_option maxRecDepth 100000 in
set_option maxHeartbeats 4000000 in
theorem keep_loose (w : World) (base g m1 m2 : Nat) (lo : Value) (A1 A2 : Hist × List Int) (steps : List Step) (h : Sto w base g m1 m2 lo A1 A2 steps) :
    Calls Try.prog 22 #[.pointer (some ⟨g, 0, none⟩)] w fun e w' => e = .returned (.int .i64 steps.length) ∧ w' = w := by
  obtain ⟨⟨t1, t2, hgc, r1, r2⟩, h1, h2, ne, bg, b1, b2, fs, hR, hfs⟩ := h
  obtain ⟨A, c, e⟩ := Kd.R_slice hR
  rw [List.length_map, hfs.length] at e
  subst e
  have d4 : w.cell? ⟨g, 4, none⟩ = some (.slice A steps.length c) := (blk_cell hgc 4).trans rfl
  clear hgc r1 r2 h1 h2 ne bg b1 b2 hR hfs
  go_enter Try.func22, Try.ntmps22
  go_wp2_with fail
  go_ret
  exact ⟨rfl, rfl⟩
/-- a chunk that is there -/
def getA (H : Hist) (i : Int) : Option (List Int) := (H.find? (fun p => p.1 == i)).map (·.2)
theorem get_all2 {w : World} {vals : List (Int × Value)} {H : Hist} (h : All2 (fun p q => p.1 = q.1 ∧ Rd w p.2 q.2) vals H) (i : Int) :
    (∃ p xs, vals.find? (fun p => p.1 == i) = some p ∧ getA H i = some xs ∧ Rd w p.2 xs) ∨ (vals.find? (fun p => p.1 == i) = none ∧ getA H i = none) := by
  induction h with
  | nil => exact .inr ⟨rfl, rfl⟩
  | @cons a b l m h t ih =>
    unfold getA at ih ⊢
    rw [List.find?_cons, List.find?_cons, h.1]
    by_cases e : (b.1 == i) = true
    · rw [e]; exact .inl ⟨a, b.2, rfl, rfl, h.2⟩
    · rw [Bool.eq_false_iff.mpr e]; exact ih
theorem any_find {α : Type} (l : List α) (p : α → Bool) : l.any p = (l.find? p).isSome := by
  induction l with
  | nil => rfl
  | cons a t ih =>
    rw [List.any_cons, List.find?_cons]
    cases h : p a with
    | true => rfl
    | false => rw [Bool.false_or, ih]
theorem map_look {w : World} {m : Nat} {H : Hist} (h : MapIs w m H) (i : Int) (hi : (Lit.int .i64 i).wf = true) :
    ∃ v, (Instr.lookup 107 (.map (some m)) (.int .i64 i) true).run Try.prog w = .ok (.tuple #[v, .bool (getA H i).isSome]) w ∧ Rd w v ((getA H i).getD []) := by
  obtain ⟨vals, ho, hv, _⟩ := h
  have law : Keyed Try.prog 3 := int_keyed Try.underlying3
  obtain ⟨v, ps, hrun, hat⟩ := ho.look_ok law Try.underlying107 (show (zeroValue 22).run Try.prog w = .ok (.slice none 0 0) w from Try.zeroValue22 w) (zd := .held (.slice none 0 0)) (zp := []) rfl (ikey Try.underlying3 i hi)
  rw [kindD_at] at hat
  rw [kindD_has, any_find] at hrun
  unfold asIs at hat
  rcases get_all2 hv i with ⟨p, xs, e1, e2, hr⟩ | ⟨e1, e2⟩
  · rw [e1] at hat hrun
    rw [e2]
    simp only [Option.some.injEq, Prod.mk.injEq, DataW.held.injEq] at hat
    obtain rfl := hat.1
    exact ⟨_, hrun, hr⟩
  · rw [e1] at hat hrun
    rw [e2]
    simp only [Option.some.injEq, Prod.mk.injEq, DataW.held.injEq] at hat
    obtain rfl := hat.1
    exact ⟨_, hrun, Rd.nil w⟩
set_option maxRecDepth 100000 in
set_option maxHeartbeats 4000000 in
theorem keep_get (w : World) (base g m1 m2 : Nat) (lo : Value) (A1 A2 : Hist × List Int) (steps : List Step) (h : Sto w base g m1 m2 lo A1 A2 steps) (i : Int) (hi : (Lit.int .i64 i).wf = true) (hs : ((getA A2.1 i).getD []).length ≤ 1000000) :
    Calls Try.prog 20 #[.pointer (some ⟨g, 0, none⟩), .int .i64 i] w fun e w' => ∃ v, e = .returned (.tuple #[v, .bool (getA A2.1 i).isSome]) ∧ Kd.R (Kd.int .u8) 5 w' w.heap.size (fun _ => True) v ((getA A2.1 i).getD []) ∧ Below w.heap.size w w' := by
  obtain ⟨⟨t1, t2, hgc, r1, r2⟩, h1, h2, ne, bg, b1, b2, hl⟩ := h
  obtain ⟨v, hrun, hr⟩ := map_look h2 i hi
  obtain ⟨A, c, e, hc, hC⟩ := hr.reads
  have HC := Aside0.mk (bytes_Clone.calls A c _ _ w hC hc (by unfold bytes_Clone.f; rw [if_pos (by omega)]))
  subst e
  have d2 : w.cell? ⟨g, 2, none⟩ = some (.map (some m2)) := (blk_cell hgc 2).trans rfl
  clear hgc r1 r2 h1 h2 ne bg b1 b2 hl hr hC
  generalize (getA A2.1 i).isSome = is at hrun ⊢
  generalize (getA A2.1 i).getD [] = xs at hrun HC hs hc ⊢
  go_enter Try.func20, Try.ntmps20
  go_wp2_with fail
  refine HC.out.mono ?_
  rintro e w1 ⟨v0, rfl, hR, hb⟩
  have HR := Aside0.mk hR
  have HB := Aside0.mk hb
  clear hR hb
  go_wp2
  go_ret2
  exact ⟨_, rfl, HR.out, HB.out⟩
end Go.Proofs.Ytliohoalackhiaa.T
