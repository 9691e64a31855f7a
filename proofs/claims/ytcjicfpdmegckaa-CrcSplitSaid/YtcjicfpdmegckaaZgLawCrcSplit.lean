/- The law CrcSplit returns true, for every two rows of bytes and every place, in whatever memory. Conditions: lengths as a memory has them. -/
import Derived.Test.YtcjicfpdmegckaaZgCrc
import Derived.Test.YtcjicfpdmegckaaZgKnown02
import Derived.Test.YtcjicfpdmegckaaZCrcS
import Derived.LaidEqlPtr
import Derived.RegionTactic
namespace Go.Proofs.Ytcjicfpdmegckaa.Z
open Go.RowKit Go.Proofs.YtcjicfpdmegckaaW.PrintWords Go.Proofs.YtcjicfpdmegckaaW.PrintMore Go.Proofs.YtcjicfpdmegckaaW.PrintLast Go.Proofs.Ytcjicfpdmegckaa.Num Go.Proofs.Ytcjicfpdmegckaa.CrcN
set_option linter.unusedVariables false
set_option linter.unusedSimpArgs false
theorem tabTo_far {w : World} {g k : Nat} {p : Addr} (h : TabTo w g k) (hp : g ≠ p.block) (v : Value) : TabTo (w.setCell p v) g k := by
  obtain ⟨cs, hh, h1, h2, h3⟩ := h
  exact ⟨cs, blk_far hh hp v, h1, h2, h3⟩
theorem tabTo_below {w w' : World} {g k : Nat} (h : TabTo w g k) (hb : Below w.heap.size w w') : TabTo w' g k := h.below hb h.lt
theorem ptrs_other {w : World} {g1 g2 k1 k2 : Nat} (h1 : TabTo w g1 k1) (h2 : TabTo w g2 k2) (hne : g1 ≠ g2) : (binOp .eql 30 (.pointer (some ⟨g1, 0, none⟩)) (.pointer (some ⟨g2, 0, none⟩))).run Try.prog w = .ok (.bool false) w := by
  obtain ⟨j, hj, hs⟩ := Option.map_eq_some_iff.1 (by kernel_rfl : (Try.prog.info? 156).map (fun i => i.size) = some 256)
  obtain ⟨c1, e1, _⟩ := h1
  obtain ⟨c2, e2, _⟩ := h2
  exact run_eql_ptr_other w Try.underlying30 hj (by omega) (fun e => hne (congrArg Addr.block e)) e1 e2
set_option maxRecDepth 100000 in
set_option maxHeartbeats 4000000 in
theorem split_big (A0 : Option Addr) (c0 : Nat) (l0 : List Int) (A1 : Option Addr) (c1 : Nat) (l1 : List Int) (k : Int) (w : World) (h0 : (l0.length : Int) ≤ 140737488351232) (h1 : (l1.length : Int) ≤ 140737488351232) (hl : (l0.length : Int) + (l1.length : Int) > 500) :
    Calls Try.prog 5 #[.slice A0 l0.length c0, .slice A1 l1.length c1, .int .u8 k] w fun e w' => e = .returned (.bool true) ∧ Below w.heap.size w w' := by
  have hw : IntKind.i64.wrap ((l0.length : Int) + (l1.length : Int)) = (l0.length : Int) + (l1.length : Int) := (i64_w _).trans (w64 (by omega) (by omega))
  have hd : decide ((500 : Int) < (l0.length : Int) + (l1.length : Int)) = true := decide_eq_true (by omega)
  clear hl h0 h1
  go_enter Try.func5, Try.ntmps5
  go_wp2_with fail
  refine (scullerlaw02_known.calls 9 true _ rfl).mono ?_
  rintro e w2 ⟨rfl, hb⟩
  have HB := Aside0.mk hb
  clear hb
  go_wp2
  go_ret
  exact ⟨rfl, HB.out⟩
set_option maxRecDepth 100000 in
set_option maxHeartbeats 4000000 in
theorem split_small (A0 : Option Addr) (c0 : Nat) (l0 : List Int) (A1 : Option Addr) (c1 : Nat) (l1 : List Int) (k : Nat) (hk : k ≤ 255) (w : World) (hr0 : Kd.C (Kd.int .u8) w A0 l0.length l0) (hr1 : Kd.C (Kd.int .u8) w A1 l1.length l1) (hl : ¬ (l0.length : Int) + (l1.length : Int) > 500)
    (s t : Int) (hs : moreI tabI 0 l0 = s) (ht : moreI tabI s l1 = t) (hst : moreI tabI 0 (l0 ++ l1) = t) :
    Calls Try.prog 5 #[.slice A0 l0.length c0, .slice A1 l1.length c1, .int .u8 (k : Int)] w fun e w' => e = .returned (.bool true) ∧ Below w.heap.size w w' := by
  have hw : IntKind.i64.wrap ((l0.length : Int) + (l1.length : Int)) = (l0.length : Int) + (l1.length : Int) := (i64_w _).trans (w64 (by omega) (by omega))
  have hd : decide ((500 : Int) < (l0.length : Int) + (l1.length : Int)) = false := decide_eq_false (by omega)
  have HL := Aside0.mk hl
  have HR0 := Aside0.mk hr0
  have HR1 := Aside0.mk hr1
  have HS := Aside0.mk hs
  have HT := Aside0.mk ht
  have HST := Aside0.mk hst
  clear hl hr0 hr1 hs ht hst
  go_enter Try.func5, Try.ntmps5
  have A1_ := Aside0.mk (Kd.R_nil (Kd.int .u8) 5 w w.heap.size (fun _ => True))
  go_upto_region 5 with (refine Kd.R_append_rows (Kd.int .u8) (w0 := w) w.heap.size rfl (.tmp 18) (.tmp 19) 29 5 (.int .u8 0) 1 rfl Try.underlying29 info5 rfl (by decide) (by omega) (.slice none 0 0) [] l0 A0 l0.length c0 (fun _ => True) (fun _ => False) rfl rfl ?aO ?aR (fun _ _ h => h) (fun _ h => h.elim) ?aF ?aB ?aS ?aL ?_; (case aO => exact A1_.out); (case aR => exact HR0.out); (case aF => exact fun _ _ => trivial); (case aB => exact Below.refl _ _); (case aS => exact Nat.le_refl _); (case aL => have := HL.out; simp; omega); intro v7 w7 ho hb hg hat; rw [List.nil_append] at ho; have HO7 := Aside0.mk ho; have HN7 := Aside0.mk hb; clear ho hb hg hat; obtain ⟨A7, c7, e7⟩ := Kd.R_slice HO7.out; subst e7)
  go_upto_region 6 with (refine Kd.R_append_rows (Kd.int .u8) (w0 := w) w.heap.size rfl (.tmp 21) (.tmp 22) 29 5 (.int .u8 0) 1 rfl Try.underlying29 info5 rfl (by decide) (by omega) (.slice A7 l0.length c7) l0 l1 A1 l1.length c1 (fun _ => True) (fun _ => False) rfl rfl ?aO ?aR (fun _ _ h => h) (fun _ h => h.elim) ?aF ?aB ?aS ?aL ?_; (case aO => exact HO7.out); (case aR => exact Kd.C_below HR1.out HN7.out); (case aF => exact fun _ _ => trivial); (case aB => exact HN7.out); (case aS => exact HN7.out.size); (case aL => have := HL.out; omega); intro v8 w8 ho hb hg hat; obtain ⟨X, hX⟩ : ∃ X, X = l0 ++ l1 := ⟨_, rfl⟩; rw [← hX] at ho; have HX_ := Aside0.mk hX; have HO8 := Aside0.mk ho; have HN8 := Aside0.mk hb; clear hX ho hb hg hat; obtain ⟨A8, c8, e8⟩ := Kd.R_slice HO8.out; subst e8)
  clear HO7 HN7 A1_
  go_wp2_with fail
  refine (table_any _).mono ?_
  rintro e w9 ⟨g1, rfl, hg1, hT1, hb⟩
  have HO9 := Aside0.mk (Kd.R_below HO8.out hb)
  have HN9 := Aside0.mk (below_step HN8.out hb)
  have HG1 := Aside0.mk hT1
  have HL1 := Aside0.mk (Nat.le_trans HN8.out.size hg1)
  clear HO8 HN8 hT1 hb hg1
  go_wp2_with fail
  refine (table_any _).mono ?_
  rintro e w10 ⟨g2, rfl, hg2, hT2, hb⟩
  have HO10 := Aside0.mk (Kd.R_below HO9.out hb)
  have HN10 := Aside0.mk (below_step HN9.out hb)
  have HG10 := Aside0.mk (tabTo_below HG1.out hb)
  have HG2 := Aside0.mk hT2
  have hne : g1 ≠ g2 := by have := HG1.out.lt; omega
  have HL2 := Aside0.mk (Nat.le_trans HN9.out.size hg2)
  clear HO9 HN9 HG1 hT2 hb hg2
  have hp1 := ptrs_other HG10.out HG2.out hne
  go_wp2_with fail
  refine (more_any g1 tabI 0 A0 c0 l0 w10 HG10.out.is (Kd.reads_of_C (d := (0 : Int)) (Kd.C_below HR0.out HN10.out))).mono ?_
  rintro e w11 ⟨rfl, rfl⟩
  rw [HS.out]
  go_wp2_with fail
  refine (more_any g1 tabI s A1 c1 l1 w10 HG10.out.is (Kd.reads_of_C (d := (0 : Int)) (Kd.C_below HR1.out HN10.out))).mono ?_
  rintro e w11 ⟨rfl, rfl⟩
  rw [HT.out]
  clear hp1
  go_wp2_with fail
  obtain ⟨x, hx, hf⟩ := HG2.out.cell (j := k) (by omega)
  have hi256 : ((k : Int) < 256) = True := eq_true (by omega)
  refine start_ (n := 9) (S := fun w' => w'.cell? ⟨g2, k, none⟩ = some (.int .u32 x)) (ds := [8]) #[false, false, false, false, false, false, false, false, false] (by kernel_rfl) rfl rfl (hx) (fun hHeld => ?_)
  refine pure_ (i := 0) (N := some 43) (v := ?_) (a' := ?_) #[true, false, false, false, false, false, false, false, false] rfl rfl (by kernel_rfl) (fun _ _ _ h => h) (Or.inl ⟨by rfl, ?_⟩) ?_ ?_
  rotate_left
  · intro w'
    go_simp
    with_reducible rfl
  rotate_left
  · simp only [Act.put, List.setIfInBounds_toArray, List.set_cons_zero, List.set_cons_succ, i64_w, i32_w]
    rfl
  refine pure_ (i := 1) (N := some 44) (v := ?_) (a' := ?_) #[true, true, false, false, false, false, false, false, false] rfl rfl (by kernel_rfl) (fun _ _ _ h => h) (Or.inl ⟨by rfl, ?_⟩) ?_ ?_
  rotate_left
  · intro w'
    go_simp
    with_reducible rfl
  rotate_left
  · simp only [Act.put, List.setIfInBounds_toArray, List.set_cons_zero, List.set_cons_succ, i64_w, i32_w]
    rfl
  refine pure_ (i := 2) (N := some 45) (v := ?_) (a' := ?_) #[true, true, true, false, false, false, false, false, false] rfl rfl (by kernel_rfl) (fun _ _ _ h => h) (Or.inl ⟨by rfl, ?_⟩) ?_ ?_
  rotate_left
  · intro w'
    go_simp
    with_reducible rfl
  rotate_left
  · simp only [Act.put, List.setIfInBounds_toArray, List.set_cons_zero, List.set_cons_succ, i64_w, i32_w]
    rfl
  refine pure_ (i := 3) (N := some 46) (v := ?_) (a' := ?_) #[true, true, true, true, false, false, false, false, false] rfl rfl (by kernel_rfl) (fun _ _ _ h => h) (Or.inl ⟨by rfl, ?_⟩) ?_ ?_
  rotate_left
  · intro w'
    go_simp
    with_reducible rfl
  rotate_left
  · simp only [Act.put, List.setIfInBounds_toArray, List.set_cons_zero, List.set_cons_succ, i64_w, i32_w]
    rfl
  refine pure_ (i := 6) (N := some 49) (v := ?_) (a' := ?_) #[true, true, true, true, false, false, true, false, false] rfl rfl (by kernel_rfl) (fun _ _ _ h => h) (Or.inl ⟨by rfl, ?_⟩) ?_ ?_
  rotate_left
  · intro w'
    go_simp
    with_reducible rfl
  rotate_left
  · simp only [Act.put, List.setIfInBounds_toArray, List.set_cons_zero, List.set_cons_succ, i64_w, i32_w]
    rfl
  refine take_ (i := 4) (N := some 47) (v := ?_) (a' := ?_) #[true, true, true, true, true, false, true, false, false] rfl rfl (by kernel_rfl) (fun _ _ _ h => h) (Or.inl ⟨by rfl, ?_⟩) hHeld ?_ ?_
  rotate_left
  · intro w' s0
    go_simp
    with_reducible rfl
  rotate_left
  · simp only [Act.put, List.setIfInBounds_toArray, List.set_cons_zero, List.set_cons_succ, i64_w, i32_w]
    rfl
  refine pure_ (i := 5) (N := some 48) (v := ?_) (a' := ?_) #[true, true, true, true, true, true, true, false, false] rfl rfl (by kernel_rfl) (fun _ _ _ h => h) (Or.inl ⟨by rfl, ?_⟩) ?_ ?_
  rotate_left
  · intro w'
    go_simp
    with_reducible rfl
  rotate_left
  · simp only [Act.put, List.setIfInBounds_toArray, List.set_cons_zero, List.set_cons_succ, i64_w, i32_w]
    rfl
  refine pure_ (i := 7) (N := some 50) (v := ?_) (a' := ?_) #[true, true, true, true, true, true, true, true, false] rfl rfl (by kernel_rfl) (fun _ _ _ h => h) (Or.inl ⟨by rfl, ?_⟩) ?_ ?_
  rotate_left
  · intro w'
    go_simp
    with_reducible rfl
  rotate_left
  · simp only [Act.put, List.setIfInBounds_toArray, List.set_cons_zero, List.set_cons_succ, i64_w, i32_w]
    rfl
  refine last_ (i := 8) (N := none) #[true, true, true, true, true, true, true, true, true] rfl rfl (by kernel_rfl) (by decide) (fun K hK => ?_)
  have hf_ : w10.drew.frozen? ⟨g2, k, none⟩ = false := hf
  refine skip_ (w1 := ?_) (by rfl) rfl ?_ ?_
  rotate_left
  · go_simp
    rfl
  refine hK.out _ _ ?_
  clear hK K
  refine done_ (by kernel_rfl) ?_

  obtain ⟨cs2, hcs2, _⟩ := HG2.out
  have HO11 := Aside0.mk (Kd.R_drew (Kd.R_mono (Kd.R_far (p := ⟨g2, k, none⟩) (Kd.R_types HO10.out hcs2 (by decide)) (fun _ hk => hk.2) (.int .u32 (IntKind.u32.wrap (x + 1)))) (fun _ _ => trivial) : Kd.R (Kd.int .u8) 5 _ w.heap.size (fun _ => True) (.slice A8 X.length c8) X))
  have HG11 := Aside0.mk (tabTo_far (p := ⟨g2, k, none⟩) HG10.out hne (.int .u32 (IntKind.u32.wrap (x + 1)))).drew
  have HN11 := Aside0.mk (below_drew1 (HN10.out.setCell (p := ⟨g2, k, none⟩) HL2.out (.int .u32 (IntKind.u32.wrap (x + 1)))))
  clear HO10 HG10 HN10 HG2 hcs2 hx hf hHeld hf_
  generalize (w10.setCell ⟨g2, k, none⟩ (.int .u32 (IntKind.u32.wrap (x + 1)))).drew = W at HO11 HG11 HN11 ⊢
  have HSX := Aside0.mk (show moreI tabI 0 X = t by rw [HX_.out]; exact HST.out)
  go_wp2_with fail
  refine (scullerlaw02_known.calls 9 true _ rfl).mono ?_
  rintro e w12 ⟨rfl, hb⟩
  have HO12 := Aside0.mk (Kd.R_below HO11.out hb)
  have HG12 := Aside0.mk (tabTo_below HG11.out hb)
  have HN12 := Aside0.mk (below_step HN11.out hb)
  clear HO11 HG11 HN11 hb
  go_wp2_with fail
  refine (crc_Sum.calls A8 c8 X t w12 (Kd.R_reads' HO12.out).2.2 (Kd.R_reads' HO12.out).2.1 (by unfold crc_Sum.f; rw [HSX.out])).mono ?_
  rintro e w13 ⟨rfl, hb⟩
  have HO13 := Aside0.mk (Kd.R_below HO12.out hb)
  have HG13 := Aside0.mk (tabTo_below HG12.out hb)
  have HN13 := Aside0.mk (below_step HN12.out hb)
  clear HO12 HG12 HN12 hb
  go_wp2_with fail
  refine (more_any g1 tabI 0 A8 c8 X w13 HG13.out.is (Kd.reads_of_C (d := (0 : Int)) (Kd.R_reads' HO13.out).2.2)).mono ?_
  rintro e w14 ⟨rfl, rfl⟩
  rw [HSX.out]
  go_wp2
  go_ret
  exact ⟨by first | rfl | simp, HN13.out⟩
theorem split_law (l0 l1 : List Int) (h0 : Bytes l0) (h1 : Bytes l1) : moreI tabI (moreI tabI 0 l0) l1 = moreI tabI 0 (l0 ++ l1) := by
  have e0 := more_nat 0 (by decide) (nats l0) (nats_lt h0)
  rw [ints_nats h0] at e0
  have hlt : top ^^^ F (top ^^^ 0) (nats l0) < 4294967296 := Nat.xor_lt_two_pow (n := 32) (show top < 2 ^ 32 from top_lt) (F_lt (Nat.xor_lt_two_pow (n := 32) (show top < 2 ^ 32 from top_lt) (by decide)) (nats l0) (nats_lt h0))
  have e1 := more_nat _ hlt (nats l1) (nats_lt h1)
  rw [ints_nats h1] at e1
  have e2 := more_nat 0 (by decide) (nats (l0 ++ l1)) (nats_lt (h0.append h1))
  rw [ints_nats (h0.append h1)] at e2
  rw [show ((0 : Nat) : Int) = 0 from rfl] at e0 e2
  rw [e0, e1, e2, nats_append, F_append, ← Nat.xor_assoc, Nat.xor_self, Nat.zero_xor]
theorem crcSplit_walk (A0 : Option Addr) (c0 : Nat) (l0 : List Int) (A1 : Option Addr) (c1 : Nat) (l1 : List Int) (k : Int) (w : World) (h0 : (l0.length : Int) ≤ 140737488351232) (h1 : (l1.length : Int) ≤ 140737488351232) (hb0 : Bytes l0) (hb1 : Bytes l1) (hk : 0 ≤ k ∧ k ≤ 255) (hr0 : Kd.C (Kd.int .u8) w A0 l0.length l0) (hr1 : Kd.C (Kd.int .u8) w A1 l1.length l1) :
    Calls Try.prog 5 #[.slice A0 l0.length c0, .slice A1 l1.length c1, .int .u8 k] w fun e w' => e = .returned (.bool true) ∧ Below w.heap.size w w' := by
  by_cases hl : (l0.length : Int) + (l1.length : Int) > 500
  · exact split_big A0 c0 l0 A1 c1 l1 k w h0 h1 hl
  · obtain ⟨j, rfl⟩ : ∃ j : Nat, k = j := ⟨k.toNat, by omega⟩
    exact split_small A0 c0 l0 A1 c1 l1 j (by omega) w hr0 hr1 hl _ _ rfl rfl (split_law l0 l1 hb0 hb1).symm
/-- What the law CrcSplit computes. -/
def scullerlaw02_CrcSplit.f (l0 l1 : List Int) (a2 : Int) : Option Bool := if (l0.length ≤ 140737488351232 ∧ l1.length ≤ 140737488351232) ∧ (∀ x ∈ l0, (Lit.int .u8 x).wf = true) ∧ (∀ x ∈ l1, (Lit.int .u8 x).wf = true) ∧ (Lit.int .u8 a2).wf = true then some true else none
theorem scullerlaw02_CrcSplit.calls (A0 : Option Addr) (c0 : Nat) (l0 : List Int) (A1 : Option Addr) (c1 : Nat) (l1 : List Int) (a2 : Int) (r : Bool) (w : World) (hr0 : Kd.C (Kd.int .u8) w A0 l0.length l0) (hc0 : l0.length ≤ c0) (hr1 : Kd.C (Kd.int .u8) w A1 l1.length l1) (hc1 : l1.length ≤ c1) (h : scullerlaw02_CrcSplit.f l0 l1 a2 = some r) :
    Calls Try.prog 5 #[.slice A0 l0.length c0, .slice A1 l1.length c1, .int .u8 a2] w fun e w' => e = .returned (.bool r) ∧ Below w.heap.size w w' := by
  unfold scullerlaw02_CrcSplit.f at h
  split at h
  · rename_i hh
    obtain ⟨⟨h0, h1⟩, h2, h3, h4⟩ := hh
    obtain rfl := Option.some.inj h
    exact crcSplit_walk A0 c0 l0 A1 c1 l1 a2 w (by omega) (by omega) (Bytes.of_wf h2) (Bytes.of_wf h3) (bounds_u8 h4) hr0 hr1
  · cases h
end Go.Proofs.Ytcjicfpdmegckaa.Z
