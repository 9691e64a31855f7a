/- Held of a store: the bits of the chunks that are there, in whatever order the map hands them out. -/
import Derived.Test.YtliohoalackhiaaKEKeepH
import Derived.Test.YtliohoalackhiaaKEEBits
import Derived.Maps.RangeWalk
namespace Go.Proofs.Ytliohoalackhiaa.E
open Go.ChangeMaps hiding rd
open Go.RowKit Go.Maps Go.Proofs.YtliohoalackhiaaW.PrintWords Go.Proofs.YtliohoalackhiaaW.PrintLast Go.Proofs.YtliohoalackhiaaW.PrintMore Go.Proofs.Ytliohoalackhiaa.Num
set_option linter.unusedVariables false
set_option linter.unusedSimpArgs false
theorem all2_any {w : World} {vals : List (Int × Value)} {H : Hist} (h : All2 (fun p q => p.1 = q.1 ∧ Rd w p.2 q.2) vals H) (i : Int) : vals.any (fun p => p.1 == i) = (getA H i).isSome := by
  rw [any_find]
  rcases get_all2 h i with ⟨p, xs, e1, e2, _⟩ | ⟨e1, e2⟩
  · rw [e1, e2]; rfl
  · rw [e1, e2]; rfl
theorem getA_range {H : Hist} (hb : ∀ p ∈ H, 0 ≤ p.1 ∧ p.1 < 512) {i : Int} (h : (getA H i).isSome = true) : 0 ≤ i ∧ i < 512 := by
  unfold getA at h
  rw [Option.isSome_map] at h
  obtain ⟨p, hp⟩ := Option.isSome_iff_exists.1 h
  have h1 := List.find?_some hp
  have h2 := List.mem_of_find?_eq_some hp
  have := hb p h2
  simp at h1
  omega
theorem same_int (i x : Int) : (Lit.int .i64 i).sameKey (.int .i64 x) = decide (i = x) := by
  by_cases h : i = x
  · subst h
    rw [decide_eq_true rfl]
    exact WideAt.sameKey_self (by trivial)
  · rw [decide_eq_false h]
    cases hs : (Lit.int .i64 i).sameKey (.int .i64 x) with
    | false => rfl
    | true => have := WideAt.sameKey_eq hs; cases this; exact absurd rfl h
theorem ranges_step {H : Type} {P : Program} {k : TypeId} {R : Value → Option (DataW H × List MemPlace)} {w w' : World} {b r n : Nat} {D : DataW H} {left : Lit → Bool} {cnt : Nat} (h : w.ranges P k R b r n D left cnt) (hb : Below w.heap.size w w') : w'.ranges P k R b r n D left cnt := by
  have h1 := h.owns.lt
  have h2 := h.lt
  obtain ⟨es, clock, since, seen, c0, e1, F, hs, hD, e2, rest⟩ := h
  exact ⟨es, clock, since, seen, c0, (hb.block b h1).trans e1, F, hs, hD, (hb.block r h2).trans e2, rest⟩
theorem ranges_R {H : Type} {P : Program} {k : TypeId} {R : Value → Option (DataW H × List MemPlace)} {w w' : World} {b r n : Nat} {D : DataW H} {left : Lit → Bool} {cnt : Nat} (h : w.ranges P k R b r n D left cnt) {base : Nat} {v : Value} {l : List Int} (hR : Kd.R (Kd.int .u8) 5 w base (fun _ => True) v l) (hg : w.grownBy w' (some r)) : Kd.R (Kd.int .u8) 5 w' base (fun _ => True) v l := by
  refine Kd.R_mono (Kd.R_step (Kd.R_tight rfl hR) (fun k hk hlt => hg.block k hlt (fun e => ?_))) (fun _ _ => trivial)
  injection e with e
  subst e
  obtain ⟨cells, hc⟩ := Kd.R_typed hR k hk.symm
  obtain ⟨es, clock, since, seen, c0, e1, F, hs, hD, e2, rest⟩ := h
  rw [hc] at e2
  cases e2
set_option maxRecDepth 100000 in
set_option maxHeartbeats 4000000 in
theorem keep_held (w : World) (base g m1 m2 : Nat) (lo : Value) (A1 A2 : Hist × List Int) (steps : List Step) (h : Sto w base g m1 m2 lo A1 A2 steps) :
    Calls Try.prog 18 #[.pointer (some ⟨g, 0, none⟩)] w fun e w' => ∃ v l, e = .returned v ∧ Kd.R (Kd.int .u8) 5 w' w.heap.size (fun _ => True) v l ∧ l.length = 64 ∧ Bytes l ∧ (∀ i, i < 512 → B l i = (getA A2.1 (i : Int)).isSome) ∧ Below w.heap.size w w' := by
  have HS := Aside0.mk h
  have law : Keyed Try.prog 3 := int_keyed Try.underlying3
  obtain ⟨⟨t1, t2, hgc, r1, r2⟩, h1, ⟨vals, ho, hv, hbd⟩, ne, bg, b1, b2, hl⟩ := h
  have hany : ∀ i : Int, Maps.has (kindD vals) (.int .i64 i) = (getA A2.1 i).isSome := fun i => by rw [kindD_has, all2_any hv i]
  have HANY := Aside0.mk hany
  have HBD := Aside0.mk hbd
  have HG := Aside0.mk hgc
  have HO := Aside0.mk ho
  clear hgc r1 r2 h1 ho hv hbd ne bg b1 b2 hl hany
  go_enter Try.func18, Try.ntmps18
  go_wp2_with fail
  refine (bits_Make.calls 512 (List.replicate 64 0) w (make_nat (n := 512) (by omega))).mono ?_
  rintro e w1 ⟨v0, rfl, hR, hb⟩
  obtain ⟨A0, c0, ev⟩ := Kd.R_slice hR
  subst ev
  have HR := Aside0.mk hR
  have HB := Aside0.mk hb
  have hg1 := blk_below HG.out hb
  have d2 : w1.cell? ⟨g, 2, none⟩ = some (.map (some m2)) := (blk_cell hg1 2).trans rfl
  have HO1 := Aside0.mk (ownsMap_step HO.out (hb.block m2 HO.out.lt))
  clear hR hb hg1
  obtain ⟨l0, hl0⟩ : ∃ l0 : List Int, List.replicate 64 0 = l0 := ⟨_, rfl⟩
  have hl64 : l0.length = 64 := by rw [← hl0, List.length_replicate]
  rw [hl0] at HR ⊢
  have HL64 := Aside0.mk hl64
  clear hl64
  have HZ : Aside0 (Bytes l0 ∧ ∀ i, B l0 i = false) := ⟨by rw [← hl0]; exact ⟨Bytes.zeros 64, B_zeros 64⟩⟩
  clear hl0
  go_wp2_with (at_range; refine wpList_range_own _ rfl _ 107 rfl 3 22 law Try.underlying107 asIs m2 _ _ rfl HO1.out ?_; intro w2 hrg hg hs)
  obtain ⟨rI, hrI⟩ : ∃ r, w1.heap.size = r := ⟨_, rfl⟩
  have hrw : w.heap.size ≤ rI := by rw [← hrI]; exact HB.out.size
  have HB2 : Aside0 (Below w.heap.size w w2) := ⟨HB.out.grown hg HB.out.size (fun k e => by cases e)⟩
  have HR2 := Aside0.mk (Kd.R_grown HR.out hg (fun _ _ => by simp))
  rw [hrI] at hrg ⊢
  have HRG := Aside0.mk hrg
  clear hrg hg hs hrI HB HR HO1 d2
  go_frame
  go_loopw [3] (fun out wr => ∃ (left : Lit → Bool) (cnt : Nat) (A : Option Addr) (c : Nat) (l : List Int), out = .slice A l.length c ∧ Aside0 (wr.ranges Try.prog 3 asIs m2 rI A2.1.length (kindD vals) left cnt) ∧ Aside0 (Kd.R (Kd.int .u8) 5 wr w.heap.size (fun _ => True) (.slice A l.length c) l) ∧ Aside0 (l.length = 64 ∧ Bytes l ∧ ∀ i, i < 512 → B l i = ((getA A2.1 (i : Int)).isSome && !left (.int .i64 (i : Int)))) ∧ Aside0 (Below w.heap.size w wr) ∧ Aside0 (∀ i : Int, left (.int .i64 i) = true → (getA A2.1 i).isSome = true))
    (fun _ wr => wr.rangeLeft m2 rI)
  case atStart =>
    exact ⟨_, _, A0, c0, l0, rfl, HRG, ⟨Kd.R_lower HR2.out (Nat.le_refl _)⟩, ⟨HL64.out, HZ.out.1, fun i hi => by rw [HZ.out.2, HANY.out]; simp⟩, HB2, ⟨fun i hi => by rw [HANY.out] at hi; exact hi⟩⟩
  case round =>
    obtain ⟨left, cnt, A, c, l, rfl, HRr, HOr, HLr, HBr, HFr⟩ := hrel
    go_wp2_with (at_next; refine wpList_next_ranges _ rfl _ rfl 3 law asIs (Value.int .i64) (fun v : Value => v) (fun key kl hkey => by obtain ⟨x, rfl, _⟩ := Maps.keyOf_int_inv Try.underlying3 hkey; exact ⟨x, rfl⟩) (fun v y hv => ⟨v, rfl⟩) m2 rI _ _ left cnt rfl HRr.out ?_ ?_)
    case refine_1 =>
      intro hc0 hl0
      have HL0 := Aside0.mk hl0
      clear hl0
      go_wp2
      go_ret
      exact ⟨_, l, rfl, HOr.out, HLr.out.1, HLr.out.2.1, fun i hi => by rw [HLr.out.2.2 i hi, HL0.out]; simp, HBr.out⟩
    case refine_2 =>
      intro x cv kl y ps w3 cnt3 hkey hlk hv hat hrg hlt hg hsz hen
      obtain ⟨x', ex, rfl, hwx⟩ := Maps.keyOf_int_inv Try.underlying3 hkey
      cases ex
      have hx := getA_range HBD.out (HFr.out x hlk)
      have HX := Aside0.mk hx
      have HHAS := Aside0.mk (HFr.out x hlk)
      have HR3 := Aside0.mk (ranges_R HRr.out HOr.out hg)
      have HRG3 := Aside0.mk hrg
      have HB3 : Aside0 (Below w.heap.size w w3) := ⟨HBr.out.grown hg HBr.out.size (fun k e => by injection e with e; omega)⟩
      have HLT := Aside0.mk hlt
      clear hkey hlk hv hat hrg hlt hg hsz hx hwx
      go_wp2_with fail
      refine (bits_Set.calls A c l x (setB l x.toNat) w3 (Kd.R_reads' HR3.out).2.2 (Kd.R_reads' HR3.out).2.1 (by rw [set_eq HLr.out.2.1 (by have := HLr.out.1; omega) (by have := HX.out; omega), if_pos HX.out.1])).mono ?_
      rintro e w4 ⟨v4, rfl, hR4, hb4⟩
      obtain ⟨A4, c4, ev4⟩ := Kd.R_slice hR4
      subst ev4
      have HR4 := Aside0.mk (Kd.R_lower hR4 HB3.out.size)
      have HB4 := Aside0.mk (below_step HB3.out hb4)
      have HRG4 := Aside0.mk (ranges_step HRG3.out hb4)
      clear hR4 hb4 hen
      go_wp2_with fail
      go_roundw
      case measure => rw [HRG4.out.left_eq, HRr.out.left_eq]; exact HLT.out
      case rel =>
        refine ⟨_, cnt3, A4, c4, setB l x.toNat, rfl, HRG4, HR4, ⟨by rw [setB_length]; exact HLr.out.1, setB_bytes HLr.out.2.1 _, fun i hi => ?_⟩, HB4, ⟨fun i hi => ?_⟩⟩
        · rw [B_set, HLr.out.2.2 i hi, same_int, HLr.out.1]
          have hxx := HX.out
          have hh := HHAS.out
          by_cases e : (i : Int) = x
          · have e2 : x.toNat = i := by omega
            rw [e2, decide_eq_true (show i = i ∧ i < 8 * 64 from ⟨rfl, by omega⟩), decide_eq_true e, e, hh]; simp
          · rw [decide_eq_false (show ¬ (x.toNat = i ∧ x.toNat < 8 * 64) from fun q => e (by omega)), decide_eq_false e]; simp
        · rw [Bool.and_eq_true] at hi
          exact HFr.out i hi.1
end Go.Proofs.Ytliohoalackhiaa.E
