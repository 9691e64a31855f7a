/- The chapter's example of a store holds. -/
import Derived.Test.YtliohoalackhiaaHTKeepH
import Derived.Test.YtliohoalackhiaaHTBitsK
import Derived.Maps.RangeWalk
import Derived.Lib.SlBytesConst
namespace Go.Proofs.Ytliohoalackhiaa.T
open Go.ChangeMaps hiding rd
open Go.RowKit Go.Maps Go.Proofs.YtliohoalackhiaaW.PrintWords Go.Proofs.YtliohoalackhiaaW.PrintLast Go.Proofs.YtliohoalackhiaaW.PrintMore Go.Proofs.Ytliohoalackhiaa.Num
set_option linter.unusedVariables false
set_option linter.unusedSimpArgs false
/-- a literal row that is read -/
theorem C_lit {k : IntKind} {w : World} {g : Nat} {t : TypeId} (l : List Int) {cs : Array Value} {fr : Nat × Nat} (h : w.heap[g]? = some (.cells cs t fr)) (hcs : cs = (l.map (Value.int k)).toArray) (hl : l.length ≤ 9223372036854775807) : Kd.C (Kd.int k) w (some ⟨g, 0, none⟩) l.length l := by
  subst hcs
  refine ⟨rfl, hl, fun _ => ⟨⟨g, 0, none⟩, rfl, fun j p hj => ⟨[.int k p], rfl, rfl, fun i u hu => ?_⟩⟩⟩
  have hi0 : i = 0 := by
    have := (List.getElem?_eq_some_iff.1 hu).1
    simpa using this
  subst hi0
  have hu' : u = .int k p := by simpa using hu.symm
  subst hu'
  show w.cell? ((⟨g, 0, none⟩ : Addr).add (j * 1 + 0)) = _
  rw [add_at, Nat.mul_one, Nat.add_zero, Nat.zero_add]
  simp [World.cell?, h, hj]
theorem B_lit {w : World} {g : Nat} {t : TypeId} (l : List Bool) {cs : Array Value} {fr : Nat × Nat} (h : w.heap[g]? = some (.cells cs t fr)) (hcs : cs = (l.map Value.bool).toArray) (hl : l.length ≤ 9223372036854775807) : Kd.C Kd.bool w (some ⟨g, 0, none⟩) l.length l := by
  subst hcs
  refine ⟨rfl, hl, fun _ => ⟨⟨g, 0, none⟩, rfl, fun j p hj => ⟨[.bool p], rfl, rfl, fun i u hu => ?_⟩⟩⟩
  have hi0 : i = 0 := by
    have := (List.getElem?_eq_some_iff.1 hu).1
    simpa using this
  subst hi0
  have hu' : u = .bool p := by simpa using hu.symm
  subst hu'
  show w.cell? ((⟨g, 0, none⟩ : Addr).add (j * 1 + 0)) = _
  rw [add_at, Nat.mul_one, Nat.add_zero, Nat.zero_add]
  simp [World.cell?, h, hj]
theorem Mv.lift {w0 w w1 : World} {base g m1 m2 : Nat} {lo : Value} {A1 A2 : Hist × List Int} {steps : List Step} (mv : Mv w w1 (Own g m1 m2 lo)) (hs : Sto w base g m1 m2 lo A1 A2 steps) (hb : Below base w0 w) (hbase : base ≤ w.heap.size) : Below base w0 w1 ∧ base ≤ w1.heap.size :=
  ⟨mv.then_below hb hbase (fun k q => hs.base q), Nat.le_trans hbase mv.b.size⟩
theorem blk_newf (w : World) (cs : Array Value) (t : TypeId) (fr : Nat × Nat) : (w.alloc (.cells cs t fr)).heap[w.heap.size]? = some (.cells cs t fr) := by
  show (w.heap.push (.cells cs t fr))[w.heap.size]? = _
  simp
set_option maxRecDepth 100000 in
set_option maxHeartbeats 4000000 in
theorem keep_known (w : World) : Calls Try.prog 14 #[] w fun e w' => e = .returned (.bool true) ∧ Below w.heap.size w w' := by
  have kc := fun (w : World) (C : Array Value) (n c : Nat) => Lib.run_convert_bytes_const (P := Try.prog) w 22 5 C n c Try.underlying22 Try.underlying5
  go_enter Try.func14, Try.ntmps14
  go_wp2_with fail
  refine (keep_new w).mono ?_
  rintro e w1 ⟨g, m1, m2, rfl, hS, hb⟩
  have HS := Aside0.mk hS
  have HB := Aside0.mk hb
  clear hS hb
  go_wp2_with fail
  have hb0 := below_alloc (Below.refl w1.heap.size w1) (.cells #[.int .u8 97] 5 (1, 2))
  have hc0 := C_lit (k := .u8) [97] (blk_newf w1 #[.int .u8 97] 5 (1, 2)) rfl (by simp)
  generalize w1.alloc (.cells #[.int .u8 97] 5 (1, 2)) = wx at hb0 hc0 ⊢
  have HSx := Aside0.mk (HS.out.below hb0)
  have HBx := Aside0.mk (below_step HB.out hb0)
  clear HS HB
  refine (keep_put wx w.heap.size g _ _ _ _ _ _ HSx.out HBx.out.size (by simp) (by simp) 0 _ 1 [97] hc0 (by simp) (by omega) (by simp)).mono ?_
  rintro e w2 ⟨rfl, m21, lo1, hS, hV, _⟩
  have HS := Aside0.mk (show Sto w2 w.heap.size g _ _ _ ([], []) ([(0, [97])], []) [.put 0 [97]] from hS)
  have HB := Aside0.mk (hV.lift HSx.out HBx.out HBx.out.size).1
  clear hS hV hb0 hc0 HSx HBx
  go_wp2_with fail
  refine (keep_crash w2 w.heap.size g _ _ _ _ _ _ HS.out HB.out.size (by simp) none 0 [] (fun w' _ => Kd.C_nil _ _) (Nat.le_refl _)).mono ?_
  rintro e w3 ⟨⟨rv2, rfl⟩, m1c2, m2c2, hS, hV, _⟩
  have HSn := Aside0.mk (show Sto w3 w.heap.size g _ _ _ ([], []) ([], []) [] from hS)
  have HBn := Aside0.mk (hV.lift HS.out HB.out HB.out.size).1
  clear hS hV HS HB
  have HS := HSn
  have HB := HBn
  clear HSn HBn
  go_wp2_with fail
  refine (keep_get w3 w.heap.size g _ _ _ _ _ _ HS.out 0 (wf_i64 (by omega)) (by decide)).mono ?_
  rintro e w4 ⟨v3, hv_, hR, hb⟩
  obtain rfl : e = .returned (.tuple #[v3, .bool false]) := hv_
  obtain ⟨A3, c3, e3⟩ := Kd.R_slice hR
  subst e3
  have HR3 := Aside0.mk hR
  have HSn := Aside0.mk (HS.out.below hb)
  have HBn := Aside0.mk (below_step HB.out hb)
  clear hR hb HS HB
  have HS := HSn
  have HB := HBn
  clear HSn HBn
  go_wp2_with fail
  have hb0 := below_alloc (Below.refl w4.heap.size w4) (.cells #[.int .u8 97] 5 (1, 2))
  have hc0 := C_lit (k := .u8) [97] (blk_newf w4 #[.int .u8 97] 5 (1, 2)) rfl (by simp)
  generalize w4.alloc (.cells #[.int .u8 97] 5 (1, 2)) = wx at hb0 hc0 ⊢
  have HSx := Aside0.mk (HS.out.below hb0)
  have HBx := Aside0.mk (below_step HB.out hb0)
  clear HS HB
  refine (keep_put wx w.heap.size g _ _ _ _ _ _ HSx.out HBx.out.size (by simp) (by simp) 0 _ 1 [97] hc0 (by simp) (by omega) (by simp)).mono ?_
  rintro e w5 ⟨rfl, m24, lo4, hS, hV, _⟩
  have HS := Aside0.mk (show Sto w5 w.heap.size g _ _ _ ([], []) ([(0, [97])], []) [.put 0 [97]] from hS)
  have HB := Aside0.mk (hV.lift HSx.out HBx.out HBx.out.size).1
  clear hS hV hb0 hc0 HSx HBx
  go_wp2_with fail
  refine (keep_flush w5 w.heap.size g _ _ _ _ _ _ HS.out HB.out.size).mono ?_
  rintro e w6 ⟨⟨rv5, rfl⟩, m1f5, hS, hV, _⟩
  have HSn := Aside0.mk (show Sto w6 w.heap.size g _ _ _ ([(0, [97])], []) ([(0, [97])], []) [] from hS)
  have HBn := Aside0.mk (hV.lift HS.out HB.out HB.out.size).1
  clear hS hV HS HB
  have HS := HSn
  have HB := HBn
  clear HSn HBn
  go_wp2_with fail
  refine (keep_crash w6 w.heap.size g _ _ _ _ _ _ HS.out HB.out.size (by simp) none 0 [] (fun w' _ => Kd.C_nil _ _) (Nat.le_refl _)).mono ?_
  rintro e w7 ⟨⟨rv6, rfl⟩, m1c6, m2c6, hS, hV, _⟩
  have HSn := Aside0.mk (show Sto w7 w.heap.size g _ _ _ ([(0, [97])], []) ([(0, [97])], []) [] from hS)
  have HBn := Aside0.mk (hV.lift HS.out HB.out HB.out.size).1
  clear hS hV HS HB
  have HS := HSn
  have HB := HBn
  clear HSn HBn
  go_wp2_with fail
  refine (keep_get w7 w.heap.size g _ _ _ _ _ _ HS.out 0 (wf_i64 (by omega)) (by decide)).mono ?_
  rintro e w8 ⟨v7, hv_, hR, hb⟩
  obtain rfl : e = .returned (.tuple #[v7, .bool true]) := hv_
  have hR : Kd.R (Kd.int .u8) 5 w8 w7.heap.size (fun _ => True) v7 [97] := hR
  have hstr := own_string (P := Try.prog) Try.underlying22 Try.underlying5 Try.underlying9 (Kd.own_of_R hR)
  have HR7 := Aside0.mk hR
  have HSn := Aside0.mk (HS.out.below hb)
  have HBn := Aside0.mk (below_step HB.out hb)
  clear hR hb HS HB
  have HS := HSn
  have HB := HBn
  clear HSn HBn
  have hs97 : ((strOfNums [97]).toList == ([97] : List UInt8)) = true := by first | rfl | (simp [strOfNums]; done) | decide +kernel | kernel_rfl
  go_wp2_with fail
  refine (keep_loose w8 w.heap.size g _ _ _ _ _ _ HS.out).mono ?_
  rintro e w9 ⟨he, rfl⟩
  obtain rfl : e = .returned (.int .i64 0) := he
  go_wp2
  go_ret
  exact ⟨rfl, HB.out⟩
end Go.Proofs.Ytliohoalackhiaa.T
