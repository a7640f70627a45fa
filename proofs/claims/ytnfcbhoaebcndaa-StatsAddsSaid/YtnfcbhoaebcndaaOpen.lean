/- A slice of samples that comes in is a list of triples of whole numbers; a value that comes in is a pair of them. -/
import Derived.Test.YtnfcbhoaebcndaaPTx0
import Derived.Test.YtnfcbhoaebcndaaK
import Derived.WalkKit
import Derived.ProofKit
import Derived.OpenShut
import Derived.SizedLaws
import Derived.Deep.SlicePairs
import Derived.Lib.SmallJoins
import Derived.KernelRfl
namespace Go.Proofs.Ytnfcbhoaebcndaa
set_option linter.unusedSimpArgs false
open Go.ChangeShapes Go.WideShapes Go.ChangeAt Go.RowKit Go.Deep Go.Joins
open Go.Proofs.YtnfcbhoaebcndaaW.PrintWords Go.Proofs.Ytnfcbhoaebcndaa.PT

theorem open_S45 {H : Type} {enc : TypeId × Value → H} {W : World} {base : Nat} {v : Value} {d : DataW H} {p : List MemPlace}
    (hv : Value.okWide Try.prog W .any base 45 v) (h : DataW.Trod enc Try.prog W 0 (fun _ => true) true 45 v d p) :
    ∃ a0 a1 : Int, v = .agg #[.int .i64 a0, .int .i64 a1] ∧ (Lit.int .i64 a0).wf = true ∧ (Lit.int .i64 a1).wf = true := by
  obtain ⟨c0, c1, y0, y1, m, rfl, rfl, rfl, hy0, hy1⟩ := open_agg2 Try.underlying45 (by kernel_rfl) (by kernel_rfl) hv h
  obtain ⟨a0, e0, rfl, w0⟩ := DataW.trod_int Try.underlying3 hy0
  obtain ⟨a1, e1, rfl, w1⟩ := DataW.trod_int Try.underlying2 hy1
  simp at e0 e1
  subst e0 e1
  exact ⟨a0, a1, rfl, w0, w1⟩

theorem open_T57 {H : Type} {enc : TypeId × Value → H} {W : World} {ts : List TypeId} {ds : List (DataW H)} {j : Nat} {a : Option Addr} {len cap : Nat} {d : DataW H} {ps : List MemPlace}
    (hsz : (DataW.weightsEach Try.prog ts ds).all (· ≤ reachBytes) = true) (ht : ts[j]? = some 22) (hd : ds[j]? = some d) (h : DataW.Trod enc Try.prog W 0 (fun _ => true) true 22 (.slice a len cap) d ps) :
    ∃ l : List S57, len = l.length ∧ Kd.C k57 W a l.length l ∧ l.length ≤ cap ∧ l.length ≤ maxLen ∧ l.length * 24 ≤ 140737488351232 ∧ ∀ x ∈ l, (Lit.int .i64 x.f0).wf = true ∧ (Lit.int .i64 x.f1.f0).wf = true ∧ (Lit.int .i64 x.f1.f1).wf = true := by
  obtain ⟨fuel, hf⟩ := h
  have ce : Try.prog.cellsOf 57 = 3 := by kernel_rfl
  rcases open_slice Try.underlying22 hf with ⟨hcs, _⟩ | ⟨x, l, c, m, n, D, Pl, hcs, hb, hl, hm, hmm, hx, hcell⟩
  · simp [Value.cells] at hcs
    obtain ⟨rfl, rfl, rfl⟩ := hcs
    exact ⟨[], rfl, ⟨rfl, by simp, fun h => by simp at h⟩, by simp, by simp, by simp, by simp⟩
  · simp [Value.cells] at hcs
    obtain ⟨rfl, rfl, rfl⟩ := hcs
    simp only [if_true] at hmm
    subst hmm
    have each : ∀ i, ∃ p : S57, i < len → W.cell? (x.add (i * 3)) = some (.int .i64 p.f0) ∧ W.cell? (x.add (i * 3 + 1)) = some (.int .i64 p.f1.f0) ∧ W.cell? (x.add (i * 3 + 2)) = some (.int .i64 p.f1.f1) ∧ (Lit.int .i64 p.f0).wf = true ∧ (Lit.int .i64 p.f1.f0).wf = true ∧ (Lit.int .i64 p.f1.f1).wf = true := by
      intro i
      by_cases hi : i < len
      · obtain ⟨cs', h1, h2⟩ := hcell i (by omega)
        rw [ce] at h1
        obtain ⟨_, hlen, hc⟩ := World.cells?_some h1
        obtain ⟨ys, k, hk, hxy, _, hxl, hf2⟩ := DataW.trod_struct Try.underlying57 h2
        match ys, hxl, cs', hlen with
        | [y0, y1], _, [v0, v1, v2], _ =>
          have g0 := hf2 0 { name := "At", type := 3, offset := 0, embedded := false, tag := "", pkgPath := "", byteOffset := 0 } rfl
          have g1 := hf2 1 { name := "Value", type := 45, offset := 1, embedded := false, tag := "", pkgPath := "", byteOffset := 8 } rfl
          have c0 : Try.prog.cellsOf 3 = 1 := by kernel_rfl
          have c1 : Try.prog.cellsOf 45 = 2 := by kernel_rfl
          simp only [c0, c1, List.drop_zero, List.take_succ_cons, List.take_zero, List.drop_succ_cons, List.getElem?_cons_zero, List.getElem?_cons_succ] at g0 g1
          obtain ⟨zs, k2, hk2, hzy, _, hzl, hf3⟩ := DataW.trod_struct Try.underlying45 g1
          match zs, hzl with
          | [z0, z1], _ =>
            have q0 := hf3 0 { name := "Kind", type := 3, offset := 0, embedded := false, tag := "", pkgPath := "", byteOffset := 0 } rfl
            have q1 := hf3 1 { name := "N", type := 2, offset := 1, embedded := false, tag := "", pkgPath := "", byteOffset := 8 } rfl
            have c2 : Try.prog.cellsOf 2 = 1 := by kernel_rfl
            simp only [c0, c2, List.drop_zero, List.take_succ_cons, List.take_zero, List.drop_succ_cons, List.getElem?_cons_zero, List.getElem?_cons_succ] at q0 q1
            obtain ⟨a0, e0, _, w0⟩ := DataW.trod_int Try.underlying3 g0
            obtain ⟨a1, e1, _, w1⟩ := DataW.trod_int Try.underlying3 q0
            obtain ⟨a2, e2, _, w2⟩ := DataW.trod_int Try.underlying2 q1
            simp at e0 e1 e2
            have d0 := hc 0 (by omega)
            have d1 := hc 1 (by omega)
            have d2 := hc 2 (by omega)
            rw [Deep.add_add] at d0 d1 d2
            exact ⟨⟨a0, ⟨a1, a2⟩⟩, fun _ => ⟨by simpa [e0] using d0, by simpa [e1] using d1, by simpa [e2] using d2, w0, w1, w2⟩⟩
      · exact ⟨z57, fun h => absurd h hi⟩
    obtain ⟨f, hf'⟩ := Classical.skolem.1 each
    have hlen : len = ((List.range len).map f).length := by simp
    have hz : len * 24 ≤ 140737488351232 := by
      obtain ⟨hx, _⟩ := Prod.mk.inj hx
      subst hx
      have z := sized_slice hsz ht hd Try.underlying22
      have hB : Try.prog.bytesOf 57 = 24 := by kernel_rfl
      rw [hB] at z
      simp only [List.length_map, List.length_range] at z
      exact Nat.le_trans (Nat.mul_le_mul_right _ (by omega)) z
    refine ⟨(List.range len).map f, hlen, ⟨rfl, by rw [← hlen]; have : maxLen = 9223372036854775807 := rfl; omega, fun _ => ⟨x, rfl, fun i p hp => ⟨[.int .i64 p.f0, .int .i64 p.f1.f0, .int .i64 p.f1.f1], rfl, k57_mk W p, fun q u hu => ?_⟩⟩⟩, by rw [← hlen]; exact hl, by rw [← hlen]; omega, by rw [← hlen]; exact hz, ?_⟩
    · have hi : i < len := by have := (List.getElem?_eq_some_iff.1 hp).1; rwa [← hlen] at this
      have hfp : f i = p := by simpa [hi] using hp
      obtain ⟨c0, c1, c2, _⟩ := hf' i hi
      rw [hfp] at c0 c1 c2
      match q, hu with
      | 0, hu => simp at hu; subst hu; exact c0
      | 1, hu => simp at hu; subst hu; exact c1
      | 2, hu => simp at hu; subst hu; exact c2
    · intro p hp
      obtain ⟨i, hi, rfl⟩ := List.mem_map.1 hp
      exact (hf' i (List.mem_range.1 hi)).2.2.2

end Go.Proofs.Ytnfcbhoaebcndaa
