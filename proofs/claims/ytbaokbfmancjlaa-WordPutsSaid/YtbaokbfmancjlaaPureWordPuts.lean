/- WordPuts: for every number, size and slice of bytes (of at most 100; else the law asks nothing more than its example), Put and Get are what the document's are. Conditions: none. -/
import Derived.Test.YtbaokbfmancjlaaAx3
import Derived.Test.YtbaokbfmancjlaaAPut
namespace Go.Proofs.Ytbaokbfmancjlaa.Pure
open Go.RowKit Go.Proofs.Ytbaokbfmancjlaa.A Go.Proofs.YtbaokbfmancjlaaW.PrintWords Go.Proofs.YtbaokbfmancjlaaW.PrintLast Go.Proofs.YtbaokbfmancjlaaW.PrintMore Go.Proofs.Ytbaokbfmancjlaa.Num

theorem WordPuts : scullerlaw01_WordPuts.Pure := by
  intro n s l k hn hs hl hl2 hw hk
  obtain ⟨n0, n1⟩ := bounds_u64 hn
  refine ⟨11, ?_⟩
  have h11 : scullerlaw01_known.f 11 = some true := by decide +kernel
  have h10 : scullerlaw01_known.f 10 = some true := by decide +kernel
  have hj : ∀ b, scullerlaw01_WordPuts.j0 11 n s l k b = some true := by
    intro b
    simp only [scullerlaw01_WordPuts.j0, h10, put_eq 10 (by omega), ref_put_eq 10 (by omega) _ _ n0 n1, get_eq l (Bytes.of_wf hw), ref_get_eq 10 (by omega) l (Bytes.of_wf hw), Option.bind_some]
    cases b <;> simp
  unfold scullerlaw01_WordPuts.f
  rw [h11]
  simp only [Option.bind_some, hj]
  split <;> rfl

end Go.Proofs.Ytbaokbfmancjlaa.Pure
