/- HeaderPrints: the bytes of any headers, and descriptors: the walk, as the row wants it. -/
import Derived.Test.YtnjfddmajiihjaaHeaderWalk
namespace Go.Proofs.Ytnjfddmajiihjaa.Walk
set_option linter.unusedVariables false
open Go Go.RowKit Go.Proofs.Ytnjfddmajiihjaa.P Go.Proofs.Ytnjfddmajiihjaa.B Go.Proofs.YtnjfddmajiihjaaW.PrintWords
theorem HeaderPrints (a : S25) (csa : Array Value) (b : S27) (csb : Array Value) (d : S30) (csd : Array Value) (wide : Bool) (more : Int) (w : World) (hKa : k25.K w a csa.toList)
    (ha : ((Lit.int .u16 a.f0).wf = true) ∧ ((Lit.int .u16 a.f1).wf = true) ∧ ((Lit.int .u16 a.f2).wf = true) ∧ ((Lit.int .u32 a.f3).wf = true) ∧ ((Lit.int .u32 a.f4).wf = true) ∧ ((Lit.int .u32 a.f5).wf = true) ∧ ((Lit.int .u32 a.f6).wf = true) ∧ (a.f7.size ≤ maxLen) ∧ (a.f8.size ≤ maxLen))
    (hKb : k27.K w b csb.toList)
    (hb : ((Lit.int .u16 b.f0).wf = true) ∧ ((Lit.int .u16 b.f1).wf = true) ∧ ((Lit.int .u16 b.f2).wf = true) ∧ ((Lit.int .u16 b.f3).wf = true) ∧ ((Lit.int .u32 b.f4).wf = true) ∧ ((Lit.int .u32 b.f5).wf = true) ∧ ((Lit.int .u32 b.f6).wf = true) ∧ ((Lit.int .u32 b.f7).wf = true) ∧ ((Lit.int .u16 b.f8).wf = true) ∧ ((Lit.int .u16 b.f9).wf = true) ∧ ((Lit.int .u32 b.f10).wf = true) ∧ ((Lit.int .u32 b.f11).wf = true) ∧ (b.f12.size ≤ maxLen) ∧ (b.f13.size ≤ maxLen) ∧ (b.f14.size ≤ maxLen))
    (hKd : k30.K w d csd.toList) (hd : ((Lit.int .u32 d.f0).wf = true) ∧ ((Lit.int .u64 d.f1).wf = true) ∧ ((Lit.int .u64 d.f2).wf = true)) (hm : (Lit.int .u8 more).wf = true) :
    Calls Try.prog 3 #[.agg csa, .agg csb, .agg csd, .bool wide, .int .u8 more] w fun e w' => e = .returned (.bool true) ∧ Below w.heap.size w w' := by
  have h1 := k25_open hKa
  have h2 := k27_open hKb
  have h3 := k30_open hKd
  have e1 := congrArg List.toArray h1
  simp only [Array.toArray_toList] at e1
  subst e1
  have e2 := congrArg List.toArray h2
  simp only [Array.toArray_toList] at e2
  subst e2
  have e3 := congrArg List.toArray h3
  simp only [Array.toArray_toList] at e3
  subst e3
  obtain ⟨q0, q1, q2, q3, q4, q5, q6, _, _⟩ := ha
  obtain ⟨p0, p1, p2, p3, p4, p5, p6, p7, p8, p9, p10, p11, _, _, _⟩ := hb
  obtain ⟨r0, r1, r2⟩ := hd
  have z1 := wf_u64 r1
  have z2 := wf_u64 r2
  obtain ⟨d0, d1, d2⟩ := d
  simp only at z1 z2 r0
  obtain ⟨n1, rfl⟩ : ∃ x : Nat, d1 = (x : Int) := ⟨d1.toNat, by omega⟩
  obtain ⟨n2, rfl⟩ : ∃ x : Nat, d2 = (x : Int) := ⟨d2.toNat, by omega⟩
  exact HP _ _ _ _ _ _ _ _ _ _ _ _ _ _ _ _ _ _ _ _ _ _ _ _ d0 n1 n2 wide more w (wf_u16 q0) (wf_u16 q1) (wf_u16 q2) (wf_u32 q3) (wf_u32 q4) (wf_u32 q5) (wf_u32 q6)
    (wf_u16 p0) (wf_u16 p1) (wf_u16 p2) (wf_u16 p3) (wf_u32 p4) (wf_u32 p5) (wf_u32 p6) (wf_u32 p7) (wf_u16 p8) (wf_u16 p9) (wf_u32 p10) (wf_u32 p11) (wf_u32 r0) (by omega) (by omega) (wf_u8 hm)
end Go.Proofs.Ytnjfddmajiihjaa.Walk
