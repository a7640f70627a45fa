/- A slice of values that comes in is a list of pairs of whole numbers; an array of three is three of them. -/
import Derived.Test.YtbfcplnaafnlhaaDoorPTx0
import Derived.Test.YtbfcplnaafnlhaaDoorK
import Derived.WalkKit
import Derived.ProofKit
import Derived.OpenShut
import Derived.SizedLaws
import Derived.Deep.SlicePairs
namespace Go.Proofs.YtbfcplnaafnlhaaDoor
open Go.ChangeShapes Go.WideShapes Go.ChangeAt Go.RowKit Go.Deep
open Go.Proofs.YtbfcplnaafnlhaaDoorW.PrintWords Go.Proofs.YtbfcplnaafnlhaaDoor.PT

theorem open_T37 {H : Type} {enc : TypeId × Value → H} {W : World} {ts : List TypeId} {ds : List (DataW H)} {j : Nat} {a : Option Addr} {len cap : Nat} {d : DataW H} {ps : List MemPlace}
    (hsz : (DataW.weightsEach Tryd.prog ts ds).all (· ≤ reachBytes) = true) (ht : ts[j]? = some 35) (hd : ds[j]? = some d) (h : DataW.Trod enc Tryd.prog W 0 (fun _ => true) true 35 (.slice a len cap) d ps) :
    ∃ l : List S37, len = l.length ∧ Kd.C k37 W a l.length l ∧ l.length ≤ cap ∧ l.length ≤ maxLen ∧ l.length * 16 ≤ 140737488351232 ∧ ∀ x ∈ l, (Lit.int .i64 x.f0).wf = true ∧ (Lit.int .i64 x.f1).wf = true := by
  obtain ⟨fuel, hf⟩ := h
  rcases open_slice_pairs Tryd.underlying35 Tryd.underlying37 (by kernel_rfl) rfl rfl (by kernel_rfl) (by kernel_rfl) hf with ⟨hcs, _⟩ | ⟨x, l, c, m, n, V0, V1, D0, D1, P0, P1, hcs, hb, hl, hm, hmm, hx, hcell⟩
  · simp [Value.cells] at hcs
    obtain ⟨rfl, rfl, rfl⟩ := hcs
    exact ⟨[], rfl, ⟨rfl, by simp, fun h => by simp at h⟩, by simp, by simp, by simp, by simp⟩
  · simp [Value.cells] at hcs
    obtain ⟨rfl, rfl, rfl⟩ := hcs
    simp only [if_true] at hmm
    subst hmm
    have each : ∀ i, ∃ p : S37, i < len → W.cell? (x.add (i * 2)) = some (.int .i64 p.f0) ∧ W.cell? (x.add (i * 2 + 1)) = some (.int .i64 p.f1) ∧ (Lit.int .i64 p.f0).wf = true ∧ (Lit.int .i64 p.f1).wf = true := by
      intro i
      by_cases hi : i < len
      · obtain ⟨h0, h1, t0, t1⟩ := hcell i (by omega)
        obtain ⟨a0, e0, _, w0⟩ := DataW.trod_int Tryd.underlying3 t0
        obtain ⟨a1, e1, _, w1⟩ := DataW.trod_int Tryd.underlying2 t1
        simp at e0 e1
        exact ⟨⟨a0, a1⟩, fun _ => ⟨by rw [h0, e0], by rw [h1, e1], w0, w1⟩⟩
      · exact ⟨z37, fun h => absurd h hi⟩
    obtain ⟨f, hf'⟩ := Classical.skolem.1 each
    have hlen : len = ((List.range len).map f).length := by simp
    have hz : len * 16 ≤ 140737488351232 := by
      obtain ⟨hx, _⟩ := Prod.mk.inj hx
      subst hx
      have z := sized_slice hsz ht hd Tryd.underlying35
      have hB : Tryd.prog.bytesOf 37 = 16 := by kernel_rfl
      rw [hB] at z
      simp only [List.length_map, List.length_range] at z
      exact Nat.le_trans (Nat.mul_le_mul_right _ (by omega)) z
    refine ⟨(List.range len).map f, hlen, ⟨rfl, by rw [← hlen]; have : maxLen = 9223372036854775807 := rfl; omega, fun _ => ⟨x, rfl, fun i p hp => ⟨[.int .i64 p.f0, .int .i64 p.f1], rfl, k37_mk W p, fun q u hu => ?_⟩⟩⟩, by rw [← hlen]; exact hl, by rw [← hlen]; omega, by rw [← hlen]; exact hz, ?_⟩
    · have hi : i < len := by have := (List.getElem?_eq_some_iff.1 hp).1; rwa [← hlen] at this
      have hfp : f i = p := by simpa [hi] using hp
      obtain ⟨c0, c1, _, _⟩ := hf' i hi
      rw [hfp] at c0 c1
      match q, hu with
      | 0, hu => simp at hu; subst hu; exact c0
      | 1, hu => simp at hu; subst hu; exact c1
    · intro p hp
      obtain ⟨i, hi, rfl⟩ := List.mem_map.1 hp
      exact (hf' i (List.mem_range.1 hi)).2.2

theorem array3 {α : Type} {cs : Array α} (h : cs.size = 3) : ∃ c0 c1 c2, cs = #[c0, c1, c2] := by
  obtain ⟨l⟩ := cs
  match l, h with
  | [c0, c1, c2], _ => exact ⟨c0, c1, c2, rfl⟩
theorem open_S22 {H : Type} {enc : TypeId × Value → H} {W : World} {base : Nat} {v : Value} {d : DataW H} {p : List MemPlace}
    (hv : Value.okWide Tryd.prog W .any base 22 v) (h : DataW.Trod enc Tryd.prog W 0 (fun _ => true) true 22 v d p) :
    ∃ a0 a1 a2 : Int, v = .agg #[.int .i64 a0, .int .i64 a1, .int .i64 a2] ∧ (Lit.int .i64 a0).wf = true ∧ (Lit.int .i64 a1).wf = true ∧ (Lit.int .i64 a2).wf = true := by
  have u22 : Tryd.prog.underlying 22 = some (.array 3 2) := by kernel_rfl
  simp only [Value.okWide, u22] at hv
  obtain ⟨cs, rfl, hsz, _⟩ := hv
  have hC : Tryd.prog.cellsOf 22 = 3 := by kernel_rfl
  obtain ⟨c0, c1, c2, rfl⟩ := array3 (hsz.trans hC)
  obtain ⟨fuel, hf⟩ := h
  obtain ⟨xs, m, rfl, hx, hlen, hn, hel⟩ := DataW.trod_array u22 hf
  have e2 : Tryd.prog.cellsOf 2 = 1 := by kernel_rfl
  match xs, hn with
  | [y0, y1, y2], _ =>
    have h0 := hel 0 (by decide)
    have h1 := hel 1 (by decide)
    have h2 := hel 2 (by decide)
    rw [e2] at h0 h1 h2
    obtain ⟨a0, q0, _, w0⟩ := DataW.trod_int (show Tryd.prog.underlying 2 = some (.int .i64) from Tryd.underlying2) (show DataW.trod _ Tryd.prog W 0 _ true m 2 _ = some y0 from h0)
    obtain ⟨a1, q1, _, w1⟩ := DataW.trod_int (show Tryd.prog.underlying 2 = some (.int .i64) from Tryd.underlying2) (show DataW.trod _ Tryd.prog W 0 _ true m 2 _ = some y1 from h1)
    obtain ⟨a2, q2, _, w2⟩ := DataW.trod_int (show Tryd.prog.underlying 2 = some (.int .i64) from Tryd.underlying2) (show DataW.trod _ Tryd.prog W 0 _ true m 2 _ = some y2 from h2)
    simp [Value.cells] at q0 q1 q2
    subst q0 q1 q2
    exact ⟨a0, a1, a2, rfl, w0, w1, w2⟩

end Go.Proofs.YtbfcplnaafnlhaaDoor
