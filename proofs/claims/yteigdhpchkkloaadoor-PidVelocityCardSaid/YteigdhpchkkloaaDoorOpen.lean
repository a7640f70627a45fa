/- Settings that come in are four whole numbers and a truth. -/
import Derived.Test.YteigdhpchkkloaaDoorPTx0
import Derived.Test.YteigdhpchkkloaaDoorK
import Derived.WalkKit
import Derived.ProofKit
import Derived.OpenShut
import Derived.SizedLaws
import Derived.Lib.SmallJoins
import Derived.KernelRfl
namespace Go.Proofs.YteigdhpchkkloaaDoor
set_option linter.unusedSimpArgs false
open Go.ChangeShapes Go.WideShapes Go.ChangeAt Go.RowKit Go.Joins
open Go.Proofs.YteigdhpchkkloaaDoorW.PrintWords Go.Proofs.YteigdhpchkkloaaDoor.PT
theorem settings5 {α : Type} {cs : Array α} (h : cs.size = 5) : ∃ c0 c1 c2 c3 c4, cs = #[c0, c1, c2, c3, c4] := by
  obtain ⟨l⟩ := cs
  match l, h with
  | [c0, c1, c2, c3, c4], _ => exact ⟨c0, c1, c2, c3, c4, rfl⟩
theorem open_S23 {H : Type} {enc : TypeId × Value → H} {W : World} {base : Nat} {v : Value} {d : DataW H} {p : List MemPlace}
    (hv : Value.okWide Tryd.prog W .any base 23 v) (h : DataW.Trod enc Tryd.prog W 0 (fun _ => true) true 23 v d p) :
    ∃ (a0 a1 a2 a3 : Int) (a4 : Bool), v = .agg #[.int .i64 a0, .int .i64 a1, .int .i64 a2, .int .i64 a3, .bool a4] ∧ (Lit.int .i64 a0).wf = true ∧ (Lit.int .i64 a1).wf = true ∧ (Lit.int .i64 a2).wf = true ∧ (Lit.int .i64 a3).wf = true := by
  obtain ⟨cs, rfl, hsz⟩ := okWide_struct Tryd.underlying23 hv
  have hC : Tryd.prog.cellsOf 23 = 5 := by kernel_rfl
  obtain ⟨c0, c1, c2, c3, c4, rfl⟩ := settings5 (hsz.trans hC)
  obtain ⟨fuel, hf⟩ := h
  obtain ⟨xs, n, _, hx, hl, hlen, hf⟩ := DataW.trod_struct Tryd.underlying23 hf
  have e2 : Tryd.prog.cellsOf 2 = 1 := by kernel_rfl
  have e4 : Tryd.prog.cellsOf 4 = 1 := by kernel_rfl
  match xs, hlen with
  | [y0, y1, y2, y3, y4], _ =>
    have g0 := hf 0 _ rfl
    have g1 := hf 1 _ rfl
    have g2 := hf 2 _ rfl
    have g3 := hf 3 _ rfl
    have g4 := hf 4 _ rfl
    simp [Value.cells, e2, e4] at g0 g1 g2 g3 g4
    obtain ⟨a0, q0, _, w0⟩ := DataW.trod_int Tryd.underlying2 g0
    obtain ⟨a1, q1, _, w1⟩ := DataW.trod_int Tryd.underlying2 g1
    obtain ⟨a2, q2, _, w2⟩ := DataW.trod_int Tryd.underlying2 g2
    obtain ⟨a3, q3, _, w3⟩ := DataW.trod_int Tryd.underlying2 g3
    obtain ⟨a4, q4, _⟩ := DataW.trod_bool Tryd.underlying4 g4
    simp at q0 q1 q2 q3 q4
    subst q0 q1 q2 q3 q4
    exact ⟨a0, a1, a2, a3, a4, rfl, w0, w1, w2, w3⟩
end Go.Proofs.YteigdhpchkkloaaDoor
