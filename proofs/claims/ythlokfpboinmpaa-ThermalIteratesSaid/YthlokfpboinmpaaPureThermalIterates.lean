/- ThermalIterates: Run is a step after the other, and a run of two parts is the run of the second from where the first ends (at most 100 steps); no condition. -/
import Derived.Test.YthlokfpboinmpaaHL
import Derived.Test.YthlokfpboinmpaaPTx14
namespace Go.Proofs.Ythlokfpboinmpaa.Pure
open Go.RowKit Go.Proofs.Ythlokfpboinmpaa.PT Go.Proofs.YthlokfpboinmpaaW.PrintWords Go.Proofs.YthlokfpboinmpaaW.PrintLast Go.Proofs.YthlokfpboinmpaaW.PrintMore Go.Proofs.Ythlokfpboinmpaa.M
/-- The temperature behind i steps of a run. -/
def tm (z0 z1 d t : Int) (os hs : List Int) : Nat → Int
  | 0 => t
  | i + 1 => (rl z0 z1 d t os hs).getD i 0
theorem rl_drop (z0 z1 d : Int) : ∀ (i : Nat) (t : Int) (os hs : List Int), os.length = hs.length → i ≤ os.length → (rl z0 z1 d t os hs).drop i = rl z0 z1 d (tm z0 z1 d t os hs i) (os.drop i) (hs.drop i)
  | 0, t, os, hs, _, _ => by simp [tm]
  | i + 1, t, o :: os, h :: hs, hl, hi => by
    have e := rl_drop z0 z1 d i (nx z0 z1 o h d t) os hs (by simpa using hl) (by simpa using hi)
    simp only [rl, List.drop_succ_cons]
    rw [e]
    cases i with
    | zero => simp [tm, rl]
    | succ i => simp [tm, rl]
  | i + 1, t, [], hs, _, hi => by simp at hi
  | i + 1, t, o :: os, [], hl, _ => by simp at hl
theorem rl_at (z0 z1 d : Int) (i : Nat) (t : Int) (os hs : List Int) (hl : os.length = hs.length) (hi : i < os.length) : tm z0 z1 d t os hs (i + 1) = nx z0 z1 (os[i]) (hs[i]'(by omega)) d (tm z0 z1 d t os hs i) := by
  have e := rl_drop z0 z1 d i t os hs hl (by omega)
  rw [List.drop_eq_getElem_cons hi, List.drop_eq_getElem_cons (show i < hs.length by omega)] at e
  simp only [rl] at e
  have hlen := rl_length z0 z1 d t os hs hl
  rw [List.drop_eq_getElem_cons (show i < (rl z0 z1 d t os hs).length by omega)] at e
  simp only [List.cons.injEq] at e
  simp only [tm, List.getD_eq_getElem?_getD]
  rw [List.getElem?_eq_getElem (by omega)]
  exact e.1
theorem tm_Tok {z0 z1 d t : Int} {os hs : List Int} (hl : os.length = hs.length) (ht : Tok t) (i : Nat) (hi : i ≤ os.length) : Tok (tm z0 z1 d t os hs i) := by
  cases i with
  | zero => exact ht
  | succ i => rw [rl_at z0 z1 d i t os hs hl (by omega)]; exact nx_Tok _ _ _ _ _ _
theorem last_loop (x5 : Nat) (a : List Int) (b : List Int) (hb : b = a.drop x5) (ha : a.length ≤ 100) (hx : x5 ≤ a.length) : ∀ (n i k : Nat), b.length - i = n → i ≤ b.length → n < k → plenumlaw35_ThermalIterates.l1 k (x5 : Int) a b (i : Int) = some true := by
  have hbl : b.length = a.length - x5 := by rw [hb, List.length_drop]
  intro n
  induction n with
  | zero =>
    intro i k hn hi hk
    obtain ⟨k, rfl⟩ : ∃ m, k = m + 1 := ⟨k - 1, by omega⟩
    simp only [plenumlaw35_ThermalIterates.l1]
    rw [if_neg (by omega)]
  | succ n ih =>
    intro i k hn hi hk
    obtain ⟨k, rfl⟩ : ∃ m, k = m + 1 := ⟨k - 1, by omega⟩
    simp only [plenumlaw35_ThermalIterates.l1]
    rw [w64 (x := (x5 : Int) + (i : Int)) (by omega) (by omega), w64 (x := (i : Int) + 1) (by omega) (by omega), if_pos (by omega), if_pos (by omega), if_pos (by omega), if_pos (by omega)]
    rw [show (x5 : Int) + (i : Int) = ((x5 + i : Nat) : Int) from by omega, rd_at a (x5 + i) (by omega), rd_at b i (by omega)]
    rw [if_pos (by subst hb; rw [List.getElem_drop])]
    exact ih (i + 1) k (by omega) (by omega) (by omega)
theorem iter_loop {z0 z1 t d : Int} {os hs : List Int} (s : Lok z0 z1 t d os hs) (hb : os.length ≤ 100) (at_ : Nat) (h0 : 1 ≤ at_) (h1 : at_ ≤ os.length) : ∀ (n i k : Nat), os.length - i = n → i ≤ os.length → n + 10200 < k →
    plenumlaw35_ThermalIterates.l0 k os hs d (at_ : Int) (rl z0 z1 d t os hs) (tm z0 z1 d t os hs i) (i : Int) z0 z1 = some true := by
  have hz := s.1
  have hl := s.2.1
  have ht := s.2.2.2.1
  have hd := s.2.2.2.2.1
  have ho := s.2.2.2.2.2.1
  have hh := s.2.2.2.2.2.2
  have hlen := rl_length z0 z1 d t os hs hl
  intro n
  induction n with
  | zero =>
    intro i k hn hi hk
    obtain ⟨k, rfl⟩ : ∃ m, k = m + 2 := ⟨k - 2, by omega⟩
    simp only [plenumlaw35_ThermalIterates.l0]
    rw [if_neg (by omega), w64 (x := (at_ : Int) - 1) (by omega) (by omega), if_pos (by omega), if_pos (by omega), if_pos (by omega), if_pos (by omega), if_pos (by omega)]
    obtain ⟨q, rfl⟩ : ∃ q, at_ = q + 1 := ⟨at_ - 1, by omega⟩
    have e1 : rd (rl z0 z1 d t os hs) (((q + 1 : Nat) : Int) - 1) = tm z0 z1 d t os hs (q + 1) := by
      rw [show ((q + 1 : Nat) : Int) - 1 = (q : Int) from by omega]
      rfl
    have e2 : (((q + 1 : Nat) : Int)).toNat = q + 1 := by omega
    have s' : Lok z0 z1 (tm z0 z1 d t os hs (q + 1)) d (os.drop (q + 1)) (hs.drop (q + 1)) := by
      refine ⟨hz, by simp; omega, by simp; omega, tm_Tok hl ht _ (by omega), hd, fun x hx => ho x (List.mem_of_mem_drop hx), fun x hx => hh x (List.mem_of_mem_drop hx)⟩
    rw [e1, e2, Run_ok s' (k + 1) (by omega)]
    simp only [Option.bind_some, if_true]
    have e3 := rl_drop z0 z1 d (q + 1) t os hs hl h1
    have e4 := rl_length z0 z1 d (tm z0 z1 d t os hs (q + 1)) (os.drop (q + 1)) (hs.drop (q + 1)) (by simp; omega)
    rw [List.length_drop] at e4
    rw [w64 (x := ((rl z0 z1 d t os hs).length : Int) - ((q + 1 : Nat) : Int)) (by omega) (by omega)]
    simp only [plenumlaw35_ThermalIterates.j2]
    rw [if_neg (by rw [bne_iff_ne]; omega)]
    exact last_loop (q + 1) _ _ e3.symm (by omega) (by omega) _ 0 k rfl (by omega) (by omega)
  | succ n ih =>
    intro i k hn hi hk
    obtain ⟨k, rfl⟩ : ∃ m, k = m + 1 := ⟨k - 1, by omega⟩
    have i1 : i < os.length := by omega
    have i2 : i < hs.length := by omega
    simp only [plenumlaw35_ThermalIterates.l0]
    rw [if_pos (by omega), if_pos (by omega), if_pos (by omega), rd_at os i i1, rd_at hs i i2, Step_ok ⟨hz, tm_Tok hl ht i (by omega), ho _ (List.getElem_mem i1), hh _ (List.getElem_mem i2), hd⟩ k (by omega)]
    simp only [Option.bind_some, if_true]
    rw [← rl_at z0 z1 d i t os hs hl i1, if_pos (by omega), if_pos (by rfl), w64 (x := (i : Int) + 1) (by omega) (by omega)]
    exact ih (i + 1) k (by omega) (by omega) (by omega)
theorem ThermalIterates : plenumlaw35_ThermalIterates.Pure := by
  intro z0 z1 t os hs d at_ _ _ _ b1 b2 _ b3 b4 _ _ _
  have yes : ∀ k, plenumlaw35_ThermalIterates.j0 (k + 1) t os hs d at_ true z0 z1 = some true := fun k => by simp [plenumlaw35_ThermalIterates.j0]
  by_cases c : os.length ≤ 100 ∧ hs.length = os.length ∧ 1 ≤ at_ ∧ at_ ≤ os.length
  · have key : ∃ K, ∀ k, K ≤ k → plenumlaw35_ThermalIterates.j0 k t os hs d at_ false z0 z1 = some true := by
      obtain ⟨c1, c2, c3, c4⟩ := c
      by_cases s : Lok z0 z1 t d os hs
      · refine ⟨20000, fun k hk => ?_⟩
        obtain ⟨k, rfl⟩ : ∃ m, k = m + 1 := ⟨k - 1, by omega⟩
        simp only [plenumlaw35_ThermalIterates.j0, Bool.false_eq_true, if_false]
        rw [Run_ok s k (by omega)]
        simp only [Option.bind_some, if_true]
        have := iter_loop s c1 at_.toNat (by omega) (by omega) os.length 0 k (by omega) (by omega) (by omega)
        rw [show ((at_.toNat : Nat) : Int) = at_ from by omega] at this
        exact this
      · obtain ⟨K, hK⟩ := Run_no (by omega) s
        refine ⟨K + 1, fun k hk => ?_⟩
        obtain ⟨k, rfl⟩ : ∃ m, k = m + 1 := ⟨k - 1, by omega⟩
        simp only [plenumlaw35_ThermalIterates.j0, Bool.false_eq_true, if_false]
        rw [hK k (by omega)]
        simp only [Option.bind_some]
        rw [if_neg (by repeat' split
                       all_goals omega)]
        rfl
    obtain ⟨K, key⟩ := key
    refine ⟨K + 1, ?_⟩
    have both : ∀ b, plenumlaw35_ThermalIterates.j0 (K + 1) t os hs d at_ b z0 z1 = some true := fun b => by
      cases b with
      | true => exact yes K
      | false => exact key _ (by omega)
    unfold plenumlaw35_ThermalIterates.f plenumlaw35_awake.f
    simp only [Option.bind_some, if_true]
    repeat' split
    all_goals exact both _
  · refine ⟨1, ?_⟩
    unfold plenumlaw35_ThermalIterates.f plenumlaw35_awake.f
    simp only [Option.bind_some, if_true]
    by_cases c1 : (os.length : Int) > 100
    · rw [if_pos c1, yes]
    rw [if_neg c1]
    by_cases c2 : (hs.length : Int) = (os.length : Int)
    · rw [if_pos c2]
      by_cases c3 : at_ < 1
      · rw [if_pos c3, yes]
      · rw [if_neg c3, decide_eq_true (by omega), yes]
    · rw [if_neg c2, yes]
end Go.Proofs.Ythlokfpboinmpaa.Pure
