/- What is handed in stays, and what is answered is new memory, for every input; no condition. -/
import Derived.Test.YtlbfdmoocgjiaaaPNetBagx5
namespace Go.Proofs.Ytlbfdmoocgjiaaa.Pure
open Go Go.RowKit Go.Proofs.Ytlbfdmoocgjiaaa.PNetBag Go.Proofs.YtlbfdmoocgjiaaaW.PrintWords Go.Proofs.YtlbfdmoocgjiaaaW.PrintLast Go.Proofs.YtlbfdmoocgjiaaaW.PrintMore

theorem wf32 {x : Int} (h : (Lit.int .u32 x).wf = true) : 0 ≤ x ∧ x < 4294967296 := by
  simp only [Lit.wf, IntKind.min, IntKind.max, IntKind.signed, IntKind.bits, Bool.and_eq_true] at h
  simp at h
  omega
theorem wf8 {x : Int} (h : (Lit.int .u8 x).wf = true) : 0 ≤ x ∧ x < 256 := by
  simp only [Lit.wf, IntKind.min, IntKind.max, IntKind.signed, IntKind.bits, Bool.and_eq_true] at h
  simp at h
  omega
theorem wf16 {x : Int} (h : (Lit.int .u16 x).wf = true) : 0 ≤ x ∧ x < 65536 := by
  simp only [Lit.wf, IntKind.min, IntKind.max, IntKind.signed, IntKind.bits, Bool.and_eq_true] at h
  simp at h
  omega
theorem wf64 {x : Int} (h : (Lit.int .i64 x).wf = true) : -9223372036854775808 ≤ x ∧ x ≤ 9223372036854775807 := by
  simp only [Lit.wf, IntKind.min, IntKind.max, IntKind.signed, IntKind.bits, Bool.and_eq_true] at h
  simp at h
  omega
theorem w64 {x : Int} (h1 : -9223372036854775808 ≤ x) (h2 : x ≤ 9223372036854775807) : wrap64 x = x := by
  unfold wrap64
  omega
theorem NetBag : chamberlainlaw06_NetBag.Pure := by
  unfold chamberlainlaw06_NetBag.Pure
  intro a0 l1 a2 h0 _ _ h1 h2
  unfold chamberlainlaw06_NetBag.f
  rw [if_pos ⟨(wf8 h0).1, (wf8 h0).2, fun x hx => wf8 (h1 x hx), (wf8 h2).1, (wf8 h2).2⟩]

end Go.Proofs.Ytlbfdmoocgjiaaa.Pure
