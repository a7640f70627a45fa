/- A zone that comes in is a pair of whole numbers; a task four of them and a truth. -/
import Derived.Test.YtpehicdglooeaaaPTx0
import Derived.Test.YtpehicdglooeaaaK
import Derived.WalkKit
import Derived.ProofKit
import Derived.OpenShut
import Derived.SizedLaws
import Derived.Lib.SmallJoins
import Derived.KernelRfl
namespace Go.Proofs.Ytpehicdglooeaaa
set_option linter.unusedSimpArgs false
open Go.ChangeShapes Go.WideShapes Go.ChangeAt Go.RowKit Go.Joins
open Go.Proofs.YtpehicdglooeaaaW.PrintWords Go.Proofs.Ytpehicdglooeaaa.PT

theorem open_S23 {H : Type} {enc : TypeId × Value → H} {W : World} {base : Nat} {v : Value} {d : DataW H} {p : List MemPlace}
    (hv : Value.okWide Try.prog W .any base 23 v) (h : DataW.Trod enc Try.prog W 0 (fun _ => true) true 23 v d p) :
    ∃ a0 a1 : Int, v = .agg #[.int .i64 a0, .int .i64 a1] ∧ (Lit.int .i64 a0).wf = true ∧ (Lit.int .i64 a1).wf = true := by
  obtain ⟨c0, c1, y0, y1, m, rfl, rfl, rfl, hy0, hy1⟩ := open_agg2 Try.underlying23 (by kernel_rfl) (by kernel_rfl) hv h
  obtain ⟨a0, e0, rfl, w0⟩ := DataW.trod_int Try.underlying2 hy0
  obtain ⟨a1, e1, rfl, w1⟩ := DataW.trod_int Try.underlying2 hy1
  simp at e0 e1
  subst e0 e1
  exact ⟨a0, a1, rfl, w0, w1⟩
theorem array5 {α : Type} {cs : Array α} (h : cs.size = 5) : ∃ c0 c1 c2 c3 c4, cs = #[c0, c1, c2, c3, c4] := by
  obtain ⟨l⟩ := cs
  match l, h with
  | [c0, c1, c2, c3, c4], _ => exact ⟨c0, c1, c2, c3, c4, rfl⟩
theorem open_S25 {H : Type} {enc : TypeId × Value → H} {W : World} {base : Nat} {v : Value} {d : DataW H} {p : List MemPlace}
    (hv : Value.okWide Try.prog W .any base 25 v) (h : DataW.Trod enc Try.prog W 0 (fun _ => true) true 25 v d p) :
    ∃ (a0 a1 a2 a3 : Int) (a4 : Bool), v = .agg #[.int .i64 a0, .int .i64 a1, .int .i64 a2, .int .i64 a3, .bool a4] ∧ (Lit.int .i64 a0).wf = true ∧ (Lit.int .i64 a1).wf = true ∧ (Lit.int .i64 a2).wf = true ∧ (Lit.int .i64 a3).wf = true := by
  obtain ⟨cs, rfl, hsz⟩ := okWide_struct Try.underlying25 hv
  have hC : Try.prog.cellsOf 25 = 5 := by kernel_rfl
  obtain ⟨c0, c1, c2, c3, c4, rfl⟩ := array5 (hsz.trans hC)
  obtain ⟨fuel, hf⟩ := h
  obtain ⟨xs, n, _, hx, hl, hlen, hf⟩ := DataW.trod_struct Try.underlying25 hf
  have e2 : Try.prog.cellsOf 2 = 1 := by kernel_rfl
  have e3 : Try.prog.cellsOf 3 = 1 := by kernel_rfl
  have e4 : Try.prog.cellsOf 4 = 1 := by kernel_rfl
  match xs, hlen with
  | [y0, y1, y2, y3, y4], _ =>
    have g0 := hf 0 { name := "Now", type := 2, offset := 0, embedded := false, tag := "", pkgPath := "", byteOffset := 0 } rfl
    have g1 := hf 1 { name := "Target", type := 2, offset := 1, embedded := false, tag := "", pkgPath := "", byteOffset := 8 } rfl
    have g2 := hf 2 { name := "From", type := 3, offset := 2, embedded := false, tag := "", pkgPath := "", byteOffset := 16 } rfl
    have g3 := hf 3 { name := "By", type := 3, offset := 3, embedded := false, tag := "", pkgPath := "", byteOffset := 24 } rfl
    have g4 := hf 4 { name := "Cooling", type := 4, offset := 4, embedded := false, tag := "", pkgPath := "", byteOffset := 32 } rfl
    simp only [Value.cells, e2, e3, e4, List.drop_zero, List.take_succ_cons, List.take_zero, List.drop_succ_cons, List.getElem?_cons_zero, List.getElem?_cons_succ] at g0 g1 g2 g3 g4
    obtain ⟨a0, q0, _, w0⟩ := DataW.trod_int Try.underlying2 g0
    obtain ⟨a1, q1, _, w1⟩ := DataW.trod_int Try.underlying2 g1
    obtain ⟨a2, q2, _, w2⟩ := DataW.trod_int Try.underlying3 g2
    obtain ⟨a3, q3, _, w3⟩ := DataW.trod_int Try.underlying3 g3
    obtain ⟨a4, q4, _⟩ := DataW.trod_bool Try.underlying4 g4
    simp at q0 q1 q2 q3 q4
    subst q0 q1 q2 q3 q4
    exact ⟨a0, a1, a2, a3, a4, rfl, w0, w1, w2, w3⟩
end Go.Proofs.Ytpehicdglooeaaa
