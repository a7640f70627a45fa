/- A slice of knots that comes in is a list of pairs of whole numbers. -/
import Derived.Test.YtacheoimnckghaaPTx0
import Derived.Test.YtacheoimnckghaaK
import Derived.WalkKit
import Derived.ProofKit
import Derived.OpenShut
import Derived.SizedLaws
import Derived.Deep.SlicePairs
namespace Go.Proofs.Ytacheoimnckghaa
open Go.ChangeShapes Go.WideShapes Go.ChangeAt Go.RowKit Go.Deep
open Go.Proofs.YtacheoimnckghaaW.PrintWords Go.Proofs.Ytacheoimnckghaa.PT

theorem open_T50 {H : Type} {enc : TypeId × Value → H} {W : World} {ts : List TypeId} {ds : List (DataW H)} {j : Nat} {a : Option Addr} {len cap : Nat} {d : DataW H} {ps : List MemPlace}
    (hsz : (DataW.weightsEach Try.prog ts ds).all (· ≤ reachBytes) = true) (ht : ts[j]? = some 22) (hd : ds[j]? = some d) (h : DataW.Trod enc Try.prog W 0 (fun _ => true) true 22 (.slice a len cap) d ps) :
    ∃ l : List S50, len = l.length ∧ Kd.C k50 W a l.length l ∧ l.length ≤ cap ∧ l.length ≤ maxLen ∧ l.length * 16 ≤ 140737488351232 ∧ ∀ x ∈ l, (Lit.int .i64 x.f0).wf = true ∧ (Lit.int .i64 x.f1).wf = true := by
  obtain ⟨fuel, hf⟩ := h
  rcases open_slice_pairs Try.underlying22 Try.underlying50 (by kernel_rfl) rfl rfl (by kernel_rfl) (by kernel_rfl) hf with ⟨hcs, _⟩ | ⟨x, l, c, m, n, V0, V1, D0, D1, P0, P1, hcs, hb, hl, hm, hmm, hx, hcell⟩
  · simp [Value.cells] at hcs
    obtain ⟨rfl, rfl, rfl⟩ := hcs
    exact ⟨[], rfl, ⟨rfl, by simp, fun h => by simp at h⟩, by simp, by simp, by simp, by simp⟩
  · simp [Value.cells] at hcs
    obtain ⟨rfl, rfl, rfl⟩ := hcs
    simp only [if_true] at hmm
    subst hmm
    have each : ∀ i, ∃ p : S50, i < len → W.cell? (x.add (i * 2)) = some (.int .i64 p.f0) ∧ W.cell? (x.add (i * 2 + 1)) = some (.int .i64 p.f1) ∧ (Lit.int .i64 p.f0).wf = true ∧ (Lit.int .i64 p.f1).wf = true := by
      intro i
      by_cases hi : i < len
      · obtain ⟨h0, h1, t0, t1⟩ := hcell i (by omega)
        obtain ⟨a0, e0, _, w0⟩ := DataW.trod_int Try.underlying2 t0
        obtain ⟨a1, e1, _, w1⟩ := DataW.trod_int Try.underlying2 t1
        simp at e0 e1
        exact ⟨⟨a0, a1⟩, fun _ => ⟨by rw [h0, e0], by rw [h1, e1], w0, w1⟩⟩
      · exact ⟨z50, fun h => absurd h hi⟩
    obtain ⟨f, hf'⟩ := Classical.skolem.1 each
    have hlen : len = ((List.range len).map f).length := by simp
    have hz : len * 16 ≤ 140737488351232 := by
      obtain ⟨hx, _⟩ := Prod.mk.inj hx
      subst hx
      have z := sized_slice hsz ht hd Try.underlying22
      have hB : Try.prog.bytesOf 50 = 16 := by kernel_rfl
      rw [hB] at z
      simp only [List.length_map, List.length_range] at z
      exact Nat.le_trans (Nat.mul_le_mul_right _ (by omega)) z
    refine ⟨(List.range len).map f, hlen, ⟨rfl, by rw [← hlen]; have : maxLen = 9223372036854775807 := rfl; omega, fun _ => ⟨x, rfl, fun i p hp => ⟨[.int .i64 p.f0, .int .i64 p.f1], rfl, k50_mk W p, fun q u hu => ?_⟩⟩⟩, by rw [← hlen]; exact hl, by rw [← hlen]; omega, by rw [← hlen]; exact hz, ?_⟩
    · have hi : i < len := by have := (List.getElem?_eq_some_iff.1 hp).1; rwa [← hlen] at this
      have hfp : f i = p := by simpa [hi] using hp
      obtain ⟨c0, c1, _, _⟩ := hf' i hi
      rw [hfp] at c0 c1
      match q, hu with
      | 0, hu => simp at hu; subst hu; exact c0
      | 1, hu => simp at hu; subst hu; exact c1
    · intro p hp
      obtain ⟨i, hi, rfl⟩ := List.mem_map.1 hp
      exact (hf' i (List.mem_range.1 hi)).2.2

end Go.Proofs.Ytacheoimnckghaa
