-- Two regions of stats.Extremes that draw their order (written by genregion.py).
import Derived.Test.YtnfcbhoaebcndaaIter
namespace Go.Proofs.Ytnfcbhoaebcndaa.PT
open Go.RowKit Go.Shelf Go.Proofs.YtnfcbhoaebcndaaW.PrintWords Go.Proofs.YtnfcbhoaebcndaaW.PrintLast Go.Proofs.YtnfcbhoaebcndaaW.PrintMore Go.Proofs.Ytnfcbhoaebcndaa.Loop
attribute [local go_sem] Oper.semAt_some max2_int min2_int max_two min_two
set_option linter.unusedVariables false
set_option linter.unusedSimpArgs false

abbrev exRegion9.o0 : Oper := { dst := some 30, op := Go.Op.fieldAddr 45 (Go.Operand.tmp 11) 1, type := 0, pos := "stats.go:144", after := #[], guard := none }
abbrev exRegion9.o1 : Oper := { dst := some 31, op := Go.Op.load 2 (Go.Operand.tmp 30), type := 2, pos := "stats.go:144", after := #[{ on := 0, ground := Go.Ground.data }], guard := none }
abbrev exRegion9.o2 : Oper := { dst := some 32, op := Go.Op.fieldAddr 45 (Go.Operand.tmp 11) 1, type := 0, pos := "stats.go:144", after := #[{ on := 4, ground := Go.Ground.gcOnly Go.Departure.lateStores }], guard := none }
abbrev exRegion9.o3 : Oper := { dst := some 33, op := Go.Op.load 2 (Go.Operand.tmp 32), type := 2, pos := "stats.go:144", after := #[{ on := 2, ground := Go.Ground.data }, { on := 4, ground := Go.Ground.gcOnly Go.Departure.lateStores }], guard := none }
abbrev exRegion9.o4 : Oper := { dst := none, op := Go.Op.store 2 (Go.Operand.tmp 6) (Go.Operand.tmp 31), type := 0, pos := "stats.go:144", after := #[{ on := 1, ground := Go.Ground.data }, { on := 0, ground := Go.Ground.phase }, { on := 1, ground := Go.Ground.phase }, { on := 2, ground := Go.Ground.textOnly Go.Departure.lateStores }, { on := 3, ground := Go.Ground.textOnly Go.Departure.lateStores }], guard := none }
abbrev exRegion9.o5 : Oper := { dst := none, op := Go.Op.store 2 (Go.Operand.tmp 7) (Go.Operand.tmp 33), type := 0, pos := "stats.go:144", after := #[{ on := 3, ground := Go.Ground.data }, { on := 4, ground := Go.Ground.chain }, { on := 0, ground := Go.Ground.phase }, { on := 1, ground := Go.Ground.phase }, { on := 2, ground := Go.Ground.phase }, { on := 3, ground := Go.Ground.phase }, { on := 4, ground := Go.Ground.phase }], guard := none }
abbrev exRegion9.o6 : Oper := { dst := none, op := Go.Op.store 4 (Go.Operand.tmp 10) (Go.Operand.const (Go.Value.bool true)), type := 0, pos := "stats.go:144", after := #[{ on := 5, ground := Go.Ground.chain }, { on := 0, ground := Go.Ground.phase }, { on := 1, ground := Go.Ground.phase }, { on := 2, ground := Go.Ground.phase }, { on := 3, ground := Go.Ground.phase }, { on := 4, ground := Go.Ground.phase }, { on := 5, ground := Go.Ground.phase }], guard := none }
abbrev exRegion9.ops : Array Oper := #[exRegion9.o0, exRegion9.o1, exRegion9.o2, exRegion9.o3, exRegion9.o4, exRegion9.o5, exRegion9.o6]
set_option maxRecDepth 100000 in
set_option maxHeartbeats 8000000 in
theorem exRegion9 (n : Nat) (bl bh bx bf : Nat) (lo hi z : Int) (v0 : Value) {u0 u1 u2 u3 u4 u5 u8 u9 u12 u13 u14 u15 u16 u17 u18 u19 u20 u21 u22 u23 u24 u25 u26 u27 u28 u29 u30 u31 u32 u33 u34 u35 u36 u37 u38 u39 u40 u41 u42 u43 u44 u45 : Value} (W : World) (cl : W.cell? ⟨bl, 0, none⟩ = some (.int .i64 lo)) (fl : W.frozen? ⟨bl, 0, none⟩ = false) (ch : W.cell? ⟨bh, 0, none⟩ = some (.int .i64 hi)) (fh : W.frozen? ⟨bh, 0, none⟩ = false) (cx : W.cell? ⟨bx, 1, none⟩ = some (.int .i64 z)) (hlh : bl ≠ bh) (hlx : bl ≠ bx) (hhx : bh ≠ bx) (cf : W.cell? ⟨bf, 0, none⟩ = some v0) (ff : W.frozen? ⟨bf, 0, none⟩ = false) (hfl : bf ≠ bl) (hfh : bf ≠ bh) (hfx : bf ≠ bx) (Q : Exit → Act → World → Prop) (hQ : ∀ (c : List PanicEntry) (a : Act) (d : Option Tmp) (v : Value) (w : World), Q (.panic c) (a.put d v) w → Q (.panic c) a w) (h : Q .normal { tmps := #[u0, u1, u2, u3, u4, u5, .pointer (some ⟨bl, 0, none⟩), .pointer (some ⟨bh, 0, none⟩), u8, u9, .pointer (some ⟨bf, 0, none⟩), .pointer (some ⟨bx, 0, none⟩), u12, u13, u14, u15, u16, u17, u18, u19, u20, u21, u22, u23, u24, u25, u26, u27, u28, u29, .pointer (some ⟨bx, 1, none⟩), .int .i64 z, .pointer (some ⟨bx, 1, none⟩), .int .i64 z, u34, u35, u36, u37, u38, u39, u40, u41, u42, u43, u44, u45], defers := [] } (((W.setCell ⟨bl, 0, none⟩ (.int .i64 z)).setCell ⟨bh, 0, none⟩ (.int .i64 z)).setCell ⟨bf, 0, none⟩ (.bool true)).drew) :
    wpAnyIn Fence.wide n Try.prog .any exRegion9.ops Q 7 (Array.replicate 7 false) { tmps := #[u0, u1, u2, u3, u4, u5, .pointer (some ⟨bl, 0, none⟩), .pointer (some ⟨bh, 0, none⟩), u8, u9, .pointer (some ⟨bf, 0, none⟩), .pointer (some ⟨bx, 0, none⟩), u12, u13, u14, u15, u16, u17, u18, u19, u20, u21, u22, u23, u24, u25, u26, u27, u28, u29, u30, u31, u32, u33, u34, u35, u36, u37, u38, u39, u40, u41, u42, u43, u44, u45], defers := [] } W.drew := by
  have s0_1_2_3_4_5_6 : wpAnyIn Fence.wide n Try.prog .any exRegion9.ops Q 0 #[true, true, true, true, true, true, true] { tmps := #[u0, u1, u2, u3, u4, u5, .pointer (some ⟨bl, 0, none⟩), .pointer (some ⟨bh, 0, none⟩), u8, u9, .pointer (some ⟨bf, 0, none⟩), .pointer (some ⟨bx, 0, none⟩), u12, u13, u14, u15, u16, u17, u18, u19, u20, u21, u22, u23, u24, u25, u26, u27, u28, u29, .pointer (some ⟨bx, 1, none⟩), .int .i64 z, .pointer (some ⟨bx, 1, none⟩), .int .i64 z, u34, u35, u36, u37, u38, u39, u40, u41, u42, u43, u44, u45], defers := [] } (((W.setCell ⟨bl, 0, none⟩ (.int .i64 z)).setCell ⟨bh, 0, none⟩ (.int .i64 z)).setCell ⟨bf, 0, none⟩ (.bool true)).drew := by
    exact wpAnyIn_done (by kernel_rfl) h _
  have s0_1_2_3_4_5 : wpAnyIn Fence.wide n Try.prog .any exRegion9.ops Q 1 #[true, true, true, true, true, true, false] { tmps := #[u0, u1, u2, u3, u4, u5, .pointer (some ⟨bl, 0, none⟩), .pointer (some ⟨bh, 0, none⟩), u8, u9, .pointer (some ⟨bf, 0, none⟩), .pointer (some ⟨bx, 0, none⟩), u12, u13, u14, u15, u16, u17, u18, u19, u20, u21, u22, u23, u24, u25, u26, u27, u28, u29, .pointer (some ⟨bx, 1, none⟩), .int .i64 z, .pointer (some ⟨bx, 1, none⟩), .int .i64 z, u34, u35, u36, u37, u38, u39, u40, u41, u42, u43, u44, u45], defers := [] } ((W.setCell ⟨bl, 0, none⟩ (.int .i64 z)).setCell ⟨bh, 0, none⟩ (.int .i64 z)).drew := by
    refine wpAnyIn_ready (rs := [6]) (by kernel_rfl) (by simp) ?_
    refine AllReadyIn.cons (o := { dst := none, op := Go.Op.store 4 (Go.Operand.tmp 10) (Go.Operand.const (Go.Value.bool true)), type := 0, pos := "stats.go:144", after := #[{ on := 5, ground := Go.Ground.chain }, { on := 0, ground := Go.Ground.phase }, { on := 1, ground := Go.Ground.phase }, { on := 2, ground := Go.Ground.phase }, { on := 3, ground := Go.Ground.phase }, { on := 4, ground := Go.Ground.phase }, { on := 5, ground := Go.Ground.phase }], guard := none }) rfl (fun K hK => ?_) ?_
    · go_simp
      refine hK _ _ ?_
      exact s0_1_2_3_4_5_6
    exact AllReadyIn.nil
  have s0_1_2_3_4 : wpAnyIn Fence.wide n Try.prog .any exRegion9.ops Q 2 #[true, true, true, true, true, false, false] { tmps := #[u0, u1, u2, u3, u4, u5, .pointer (some ⟨bl, 0, none⟩), .pointer (some ⟨bh, 0, none⟩), u8, u9, .pointer (some ⟨bf, 0, none⟩), .pointer (some ⟨bx, 0, none⟩), u12, u13, u14, u15, u16, u17, u18, u19, u20, u21, u22, u23, u24, u25, u26, u27, u28, u29, .pointer (some ⟨bx, 1, none⟩), .int .i64 z, .pointer (some ⟨bx, 1, none⟩), .int .i64 z, u34, u35, u36, u37, u38, u39, u40, u41, u42, u43, u44, u45], defers := [] } (W.setCell ⟨bl, 0, none⟩ (.int .i64 z)).drew := by
    refine wpAnyIn_ready (rs := [5]) (by kernel_rfl) (by simp) ?_
    refine AllReadyIn.cons (o := { dst := none, op := Go.Op.store 2 (Go.Operand.tmp 7) (Go.Operand.tmp 33), type := 0, pos := "stats.go:144", after := #[{ on := 3, ground := Go.Ground.data }, { on := 4, ground := Go.Ground.chain }, { on := 0, ground := Go.Ground.phase }, { on := 1, ground := Go.Ground.phase }, { on := 2, ground := Go.Ground.phase }, { on := 3, ground := Go.Ground.phase }, { on := 4, ground := Go.Ground.phase }], guard := none }) rfl (fun K hK => ?_) ?_
    · go_simp
      refine hK _ _ ?_
      exact s0_1_2_3_4_5
    exact AllReadyIn.nil
  have s0_1_2_3 : wpAnyIn Fence.wide n Try.prog .any exRegion9.ops Q 3 #[true, true, true, true, false, false, false] { tmps := #[u0, u1, u2, u3, u4, u5, .pointer (some ⟨bl, 0, none⟩), .pointer (some ⟨bh, 0, none⟩), u8, u9, .pointer (some ⟨bf, 0, none⟩), .pointer (some ⟨bx, 0, none⟩), u12, u13, u14, u15, u16, u17, u18, u19, u20, u21, u22, u23, u24, u25, u26, u27, u28, u29, .pointer (some ⟨bx, 1, none⟩), .int .i64 z, .pointer (some ⟨bx, 1, none⟩), .int .i64 z, u34, u35, u36, u37, u38, u39, u40, u41, u42, u43, u44, u45], defers := [] } W.drew := by
    refine wpAnyIn_ready (rs := [4]) (by kernel_rfl) (by simp) ?_
    refine AllReadyIn.cons (o := { dst := none, op := Go.Op.store 2 (Go.Operand.tmp 6) (Go.Operand.tmp 31), type := 0, pos := "stats.go:144", after := #[{ on := 1, ground := Go.Ground.data }, { on := 0, ground := Go.Ground.phase }, { on := 1, ground := Go.Ground.phase }, { on := 2, ground := Go.Ground.textOnly Go.Departure.lateStores }, { on := 3, ground := Go.Ground.textOnly Go.Departure.lateStores }], guard := none }) rfl (fun K hK => ?_) ?_
    · go_simp
      refine hK _ _ ?_
      exact s0_1_2_3_4
    exact AllReadyIn.nil
  have s0_1_2_4 : wpAnyIn Fence.wide n Try.prog .any exRegion9.ops Q 3 #[true, true, true, false, true, false, false] { tmps := #[u0, u1, u2, u3, u4, u5, .pointer (some ⟨bl, 0, none⟩), .pointer (some ⟨bh, 0, none⟩), u8, u9, .pointer (some ⟨bf, 0, none⟩), .pointer (some ⟨bx, 0, none⟩), u12, u13, u14, u15, u16, u17, u18, u19, u20, u21, u22, u23, u24, u25, u26, u27, u28, u29, .pointer (some ⟨bx, 1, none⟩), .int .i64 z, .pointer (some ⟨bx, 1, none⟩), u33, u34, u35, u36, u37, u38, u39, u40, u41, u42, u43, u44, u45], defers := [] } (W.setCell ⟨bl, 0, none⟩ (.int .i64 z)).drew := by
    refine wpAnyIn_ready (rs := [3]) (by kernel_rfl) (by simp) ?_
    refine AllReadyIn.cons (o := { dst := some 33, op := Go.Op.load 2 (Go.Operand.tmp 32), type := 2, pos := "stats.go:144", after := #[{ on := 2, ground := Go.Ground.data }, { on := 4, ground := Go.Ground.gcOnly Go.Departure.lateStores }], guard := none }) rfl (fun K hK => ?_) ?_
    · go_simp
      refine hK _ _ ?_
      exact s0_1_2_3_4
    exact AllReadyIn.nil
  have s0_1_2 : wpAnyIn Fence.wide n Try.prog .any exRegion9.ops Q 4 #[true, true, true, false, false, false, false] { tmps := #[u0, u1, u2, u3, u4, u5, .pointer (some ⟨bl, 0, none⟩), .pointer (some ⟨bh, 0, none⟩), u8, u9, .pointer (some ⟨bf, 0, none⟩), .pointer (some ⟨bx, 0, none⟩), u12, u13, u14, u15, u16, u17, u18, u19, u20, u21, u22, u23, u24, u25, u26, u27, u28, u29, .pointer (some ⟨bx, 1, none⟩), .int .i64 z, .pointer (some ⟨bx, 1, none⟩), u33, u34, u35, u36, u37, u38, u39, u40, u41, u42, u43, u44, u45], defers := [] } W.drew := by
    refine wpAnyIn_ready (rs := [3, 4]) (by kernel_rfl) (by simp) ?_
    refine AllReadyIn.cons (o := { dst := some 33, op := Go.Op.load 2 (Go.Operand.tmp 32), type := 2, pos := "stats.go:144", after := #[{ on := 2, ground := Go.Ground.data }, { on := 4, ground := Go.Ground.gcOnly Go.Departure.lateStores }], guard := none }) rfl (fun K hK => ?_) ?_
    · go_simp
      refine hK _ _ ?_
      exact s0_1_2_3
    refine AllReadyIn.cons (o := { dst := none, op := Go.Op.store 2 (Go.Operand.tmp 6) (Go.Operand.tmp 31), type := 0, pos := "stats.go:144", after := #[{ on := 1, ground := Go.Ground.data }, { on := 0, ground := Go.Ground.phase }, { on := 1, ground := Go.Ground.phase }, { on := 2, ground := Go.Ground.textOnly Go.Departure.lateStores }, { on := 3, ground := Go.Ground.textOnly Go.Departure.lateStores }], guard := none }) rfl (fun K hK => ?_) ?_
    · go_simp
      refine hK _ _ ?_
      exact s0_1_2_4
    exact AllReadyIn.nil
  have s0_2_3 : wpAnyIn Fence.wide n Try.prog .any exRegion9.ops Q 4 #[true, false, true, true, false, false, false] { tmps := #[u0, u1, u2, u3, u4, u5, .pointer (some ⟨bl, 0, none⟩), .pointer (some ⟨bh, 0, none⟩), u8, u9, .pointer (some ⟨bf, 0, none⟩), .pointer (some ⟨bx, 0, none⟩), u12, u13, u14, u15, u16, u17, u18, u19, u20, u21, u22, u23, u24, u25, u26, u27, u28, u29, .pointer (some ⟨bx, 1, none⟩), u31, .pointer (some ⟨bx, 1, none⟩), .int .i64 z, u34, u35, u36, u37, u38, u39, u40, u41, u42, u43, u44, u45], defers := [] } W.drew := by
    refine wpAnyIn_ready (rs := [1]) (by kernel_rfl) (by simp) ?_
    refine AllReadyIn.cons (o := { dst := some 31, op := Go.Op.load 2 (Go.Operand.tmp 30), type := 2, pos := "stats.go:144", after := #[{ on := 0, ground := Go.Ground.data }], guard := none }) rfl (fun K hK => ?_) ?_
    · go_simp
      refine hK _ _ ?_
      exact s0_1_2_3
    exact AllReadyIn.nil
  have s0_2 : wpAnyIn Fence.wide n Try.prog .any exRegion9.ops Q 5 #[true, false, true, false, false, false, false] { tmps := #[u0, u1, u2, u3, u4, u5, .pointer (some ⟨bl, 0, none⟩), .pointer (some ⟨bh, 0, none⟩), u8, u9, .pointer (some ⟨bf, 0, none⟩), .pointer (some ⟨bx, 0, none⟩), u12, u13, u14, u15, u16, u17, u18, u19, u20, u21, u22, u23, u24, u25, u26, u27, u28, u29, .pointer (some ⟨bx, 1, none⟩), u31, .pointer (some ⟨bx, 1, none⟩), u33, u34, u35, u36, u37, u38, u39, u40, u41, u42, u43, u44, u45], defers := [] } W.drew := by
    refine wpAnyIn_ready (rs := [1, 3]) (by kernel_rfl) (by simp) ?_
    refine AllReadyIn.cons (o := { dst := some 31, op := Go.Op.load 2 (Go.Operand.tmp 30), type := 2, pos := "stats.go:144", after := #[{ on := 0, ground := Go.Ground.data }], guard := none }) rfl (fun K hK => ?_) ?_
    · go_simp
      refine hK _ _ ?_
      exact s0_1_2
    refine AllReadyIn.cons (o := { dst := some 33, op := Go.Op.load 2 (Go.Operand.tmp 32), type := 2, pos := "stats.go:144", after := #[{ on := 2, ground := Go.Ground.data }, { on := 4, ground := Go.Ground.gcOnly Go.Departure.lateStores }], guard := none }) rfl (fun K hK => ?_) ?_
    · go_simp
      refine hK _ _ ?_
      exact s0_2_3
    exact AllReadyIn.nil
  refine wpAnyIn_take (i := 0) (oi := { dst := some 30, op := Go.Op.fieldAddr 45 (Go.Operand.tmp 11) 1, type := 0, pos := "stats.go:144", after := #[], guard := none }) (v := .pointer (some ⟨bx, 1, none⟩)) rfl rfl (by kernel_rfl) (by kernel_rfl) (by kernel_rfl) (fun _ _ _ h => hQ _ _ _ _ _ h) ⟨Or.inl ⟨by rfl, by intro w; (try simp only [mn, mx]); go_simp⟩, fun _ => rfl⟩ ?_
  refine wpAnyIn_take (i := 2) (oi := { dst := some 32, op := Go.Op.fieldAddr 45 (Go.Operand.tmp 11) 1, type := 0, pos := "stats.go:144", after := #[{ on := 4, ground := Go.Ground.gcOnly Go.Departure.lateStores }], guard := none }) (v := .pointer (some ⟨bx, 1, none⟩)) rfl rfl (by kernel_rfl) (by kernel_rfl) (by kernel_rfl) (fun _ _ _ h => hQ _ _ _ _ _ h) ⟨Or.inl ⟨by rfl, by intro w; (try simp only [mn, mx]); go_simp⟩, fun _ => rfl⟩ ?_
  exact s0_2
abbrev exRegion10.o0 : Oper := { dst := some 34, op := Go.Op.load 2 (Go.Operand.tmp 6), type := 2, pos := "stats.go:146", after := #[], guard := none }
abbrev exRegion10.o1 : Oper := { dst := some 35, op := Go.Op.fieldAddr 45 (Go.Operand.tmp 11) 1, type := 0, pos := "stats.go:146", after := #[], guard := none }
abbrev exRegion10.o2 : Oper := { dst := some 36, op := Go.Op.load 2 (Go.Operand.tmp 35), type := 2, pos := "stats.go:146", after := #[{ on := 1, ground := Go.Ground.data }], guard := none }
abbrev exRegion10.o3 : Oper := { dst := some 37, op := Go.Op.call { callee := Go.Callee.builtin Go.Builtin.min, args := #[Go.Operand.tmp 34, Go.Operand.tmp 36], argTypes := #[2, 2] }, type := 2, pos := "stats.go:146", after := #[{ on := 0, ground := Go.Ground.data }, { on := 2, ground := Go.Ground.data }], guard := none }
abbrev exRegion10.o4 : Oper := { dst := some 38, op := Go.Op.load 2 (Go.Operand.tmp 7), type := 2, pos := "stats.go:146", after := #[], guard := none }
abbrev exRegion10.o5 : Oper := { dst := some 39, op := Go.Op.fieldAddr 45 (Go.Operand.tmp 11) 1, type := 0, pos := "stats.go:146", after := #[], guard := none }
abbrev exRegion10.o6 : Oper := { dst := some 40, op := Go.Op.load 2 (Go.Operand.tmp 39), type := 2, pos := "stats.go:146", after := #[{ on := 5, ground := Go.Ground.data }], guard := none }
abbrev exRegion10.o7 : Oper := { dst := some 41, op := Go.Op.call { callee := Go.Callee.builtin Go.Builtin.max, args := #[Go.Operand.tmp 38, Go.Operand.tmp 40], argTypes := #[2, 2] }, type := 2, pos := "stats.go:146", after := #[{ on := 4, ground := Go.Ground.data }, { on := 6, ground := Go.Ground.data }], guard := none }
abbrev exRegion10.o8 : Oper := { dst := none, op := Go.Op.store 2 (Go.Operand.tmp 6) (Go.Operand.tmp 37), type := 0, pos := "stats.go:146", after := #[{ on := 3, ground := Go.Ground.data }, { on := 0, ground := Go.Ground.phase }, { on := 1, ground := Go.Ground.phase }, { on := 2, ground := Go.Ground.phase }, { on := 3, ground := Go.Ground.phase }, { on := 4, ground := Go.Ground.textOnly Go.Departure.inlinedCapture }, { on := 5, ground := Go.Ground.textOnly Go.Departure.lateStores }, { on := 6, ground := Go.Ground.textOnly Go.Departure.lateStores }, { on := 7, ground := Go.Ground.textOnly Go.Departure.lateStoresUnsure }], guard := none }
abbrev exRegion10.o9 : Oper := { dst := none, op := Go.Op.store 2 (Go.Operand.tmp 7) (Go.Operand.tmp 41), type := 0, pos := "stats.go:146", after := #[{ on := 7, ground := Go.Ground.data }, { on := 8, ground := Go.Ground.chain }, { on := 0, ground := Go.Ground.phase }, { on := 1, ground := Go.Ground.phase }, { on := 2, ground := Go.Ground.phase }, { on := 3, ground := Go.Ground.phase }, { on := 4, ground := Go.Ground.phase }, { on := 5, ground := Go.Ground.phase }, { on := 6, ground := Go.Ground.phase }, { on := 7, ground := Go.Ground.phase }, { on := 8, ground := Go.Ground.phase }], guard := none }
abbrev exRegion10.ops : Array Oper := #[exRegion10.o0, exRegion10.o1, exRegion10.o2, exRegion10.o3, exRegion10.o4, exRegion10.o5, exRegion10.o6, exRegion10.o7, exRegion10.o8, exRegion10.o9]
set_option maxRecDepth 100000 in
set_option maxHeartbeats 8000000 in
theorem exRegion10 (n : Nat) (bl bh bx : Nat) (lo hi z : Int) {u0 u1 u2 u3 u4 u5 u8 u9 u10 u12 u13 u14 u15 u16 u17 u18 u19 u20 u21 u22 u23 u24 u25 u26 u27 u28 u29 u30 u31 u32 u33 u34 u35 u36 u37 u38 u39 u40 u41 u42 u43 u44 u45 : Value} (W : World) (cl : W.cell? ⟨bl, 0, none⟩ = some (.int .i64 lo)) (fl : W.frozen? ⟨bl, 0, none⟩ = false) (ch : W.cell? ⟨bh, 0, none⟩ = some (.int .i64 hi)) (fh : W.frozen? ⟨bh, 0, none⟩ = false) (cx : W.cell? ⟨bx, 1, none⟩ = some (.int .i64 z)) (hlh : bl ≠ bh) (hlx : bl ≠ bx) (hhx : bh ≠ bx) (Q : Exit → Act → World → Prop) (hQ : ∀ (c : List PanicEntry) (a : Act) (d : Option Tmp) (v : Value) (w : World), Q (.panic c) (a.put d v) w → Q (.panic c) a w) (h : Q .normal { tmps := #[u0, u1, u2, u3, u4, u5, .pointer (some ⟨bl, 0, none⟩), .pointer (some ⟨bh, 0, none⟩), u8, u9, u10, .pointer (some ⟨bx, 0, none⟩), u12, u13, u14, u15, u16, u17, u18, u19, u20, u21, u22, u23, u24, u25, u26, u27, u28, u29, u30, u31, u32, u33, .int .i64 lo, .pointer (some ⟨bx, 1, none⟩), .int .i64 z, .int .i64 (mn lo z), .int .i64 hi, .pointer (some ⟨bx, 1, none⟩), .int .i64 z, .int .i64 (mx hi z), u42, u43, u44, u45], defers := [] } ((W.setCell ⟨bl, 0, none⟩ (.int .i64 (mn lo z))).setCell ⟨bh, 0, none⟩ (.int .i64 (mx hi z))).drew) :
    wpAnyIn Fence.wide n Try.prog .any exRegion10.ops Q 10 (Array.replicate 10 false) { tmps := #[u0, u1, u2, u3, u4, u5, .pointer (some ⟨bl, 0, none⟩), .pointer (some ⟨bh, 0, none⟩), u8, u9, u10, .pointer (some ⟨bx, 0, none⟩), u12, u13, u14, u15, u16, u17, u18, u19, u20, u21, u22, u23, u24, u25, u26, u27, u28, u29, u30, u31, u32, u33, u34, u35, u36, u37, u38, u39, u40, u41, u42, u43, u44, u45], defers := [] } W.drew := by
  have s0_1_2_3_4_5_6_7_8_9 : wpAnyIn Fence.wide n Try.prog .any exRegion10.ops Q 0 #[true, true, true, true, true, true, true, true, true, true] { tmps := #[u0, u1, u2, u3, u4, u5, .pointer (some ⟨bl, 0, none⟩), .pointer (some ⟨bh, 0, none⟩), u8, u9, u10, .pointer (some ⟨bx, 0, none⟩), u12, u13, u14, u15, u16, u17, u18, u19, u20, u21, u22, u23, u24, u25, u26, u27, u28, u29, u30, u31, u32, u33, .int .i64 lo, .pointer (some ⟨bx, 1, none⟩), .int .i64 z, .int .i64 (mn lo z), .int .i64 hi, .pointer (some ⟨bx, 1, none⟩), .int .i64 z, .int .i64 (mx hi z), u42, u43, u44, u45], defers := [] } ((W.setCell ⟨bl, 0, none⟩ (.int .i64 (mn lo z))).setCell ⟨bh, 0, none⟩ (.int .i64 (mx hi z))).drew := by
    exact wpAnyIn_done (by kernel_rfl) h _
  have s0_1_2_3_4_5_6_7_8 : wpAnyIn Fence.wide n Try.prog .any exRegion10.ops Q 1 #[true, true, true, true, true, true, true, true, true, false] { tmps := #[u0, u1, u2, u3, u4, u5, .pointer (some ⟨bl, 0, none⟩), .pointer (some ⟨bh, 0, none⟩), u8, u9, u10, .pointer (some ⟨bx, 0, none⟩), u12, u13, u14, u15, u16, u17, u18, u19, u20, u21, u22, u23, u24, u25, u26, u27, u28, u29, u30, u31, u32, u33, .int .i64 lo, .pointer (some ⟨bx, 1, none⟩), .int .i64 z, .int .i64 (mn lo z), .int .i64 hi, .pointer (some ⟨bx, 1, none⟩), .int .i64 z, .int .i64 (mx hi z), u42, u43, u44, u45], defers := [] } (W.setCell ⟨bl, 0, none⟩ (.int .i64 (mn lo z))).drew := by
    refine wpAnyIn_ready (rs := [9]) (by kernel_rfl) (by simp) ?_
    refine AllReadyIn.cons (o := { dst := none, op := Go.Op.store 2 (Go.Operand.tmp 7) (Go.Operand.tmp 41), type := 0, pos := "stats.go:146", after := #[{ on := 7, ground := Go.Ground.data }, { on := 8, ground := Go.Ground.chain }, { on := 0, ground := Go.Ground.phase }, { on := 1, ground := Go.Ground.phase }, { on := 2, ground := Go.Ground.phase }, { on := 3, ground := Go.Ground.phase }, { on := 4, ground := Go.Ground.phase }, { on := 5, ground := Go.Ground.phase }, { on := 6, ground := Go.Ground.phase }, { on := 7, ground := Go.Ground.phase }, { on := 8, ground := Go.Ground.phase }], guard := none }) rfl (fun K hK => ?_) ?_
    · go_simp
      refine hK _ _ ?_
      exact s0_1_2_3_4_5_6_7_8_9
    exact AllReadyIn.nil
  have s0_1_2_3_4_5_6_7 : wpAnyIn Fence.wide n Try.prog .any exRegion10.ops Q 2 #[true, true, true, true, true, true, true, true, false, false] { tmps := #[u0, u1, u2, u3, u4, u5, .pointer (some ⟨bl, 0, none⟩), .pointer (some ⟨bh, 0, none⟩), u8, u9, u10, .pointer (some ⟨bx, 0, none⟩), u12, u13, u14, u15, u16, u17, u18, u19, u20, u21, u22, u23, u24, u25, u26, u27, u28, u29, u30, u31, u32, u33, .int .i64 lo, .pointer (some ⟨bx, 1, none⟩), .int .i64 z, .int .i64 (mn lo z), .int .i64 hi, .pointer (some ⟨bx, 1, none⟩), .int .i64 z, .int .i64 (mx hi z), u42, u43, u44, u45], defers := [] } W.drew := by
    refine wpAnyIn_ready (rs := [8]) (by kernel_rfl) (by simp) ?_
    refine AllReadyIn.cons (o := { dst := none, op := Go.Op.store 2 (Go.Operand.tmp 6) (Go.Operand.tmp 37), type := 0, pos := "stats.go:146", after := #[{ on := 3, ground := Go.Ground.data }, { on := 0, ground := Go.Ground.phase }, { on := 1, ground := Go.Ground.phase }, { on := 2, ground := Go.Ground.phase }, { on := 3, ground := Go.Ground.phase }, { on := 4, ground := Go.Ground.textOnly Go.Departure.inlinedCapture }, { on := 5, ground := Go.Ground.textOnly Go.Departure.lateStores }, { on := 6, ground := Go.Ground.textOnly Go.Departure.lateStores }, { on := 7, ground := Go.Ground.textOnly Go.Departure.lateStoresUnsure }], guard := none }) rfl (fun K hK => ?_) ?_
    · go_simp
      refine hK _ _ ?_
      exact s0_1_2_3_4_5_6_7_8
    exact AllReadyIn.nil
  have s0_1_2_3_4_5_8 : wpAnyIn Fence.wide n Try.prog .any exRegion10.ops Q 3 #[true, true, true, true, true, true, false, false, true, false] { tmps := #[u0, u1, u2, u3, u4, u5, .pointer (some ⟨bl, 0, none⟩), .pointer (some ⟨bh, 0, none⟩), u8, u9, u10, .pointer (some ⟨bx, 0, none⟩), u12, u13, u14, u15, u16, u17, u18, u19, u20, u21, u22, u23, u24, u25, u26, u27, u28, u29, u30, u31, u32, u33, .int .i64 lo, .pointer (some ⟨bx, 1, none⟩), .int .i64 z, .int .i64 (mn lo z), .int .i64 hi, .pointer (some ⟨bx, 1, none⟩), u40, u41, u42, u43, u44, u45], defers := [] } (W.setCell ⟨bl, 0, none⟩ (.int .i64 (mn lo z))).drew := by
    refine wpAnyIn_ready (rs := [6]) (by kernel_rfl) (by simp) ?_
    refine AllReadyIn.cons (o := { dst := some 40, op := Go.Op.load 2 (Go.Operand.tmp 39), type := 2, pos := "stats.go:146", after := #[{ on := 5, ground := Go.Ground.data }], guard := none }) rfl (fun K hK => ?_) ?_
    · go_simp
      refine hK _ _ ?_
      refine wpAnyIn_take (i := 7) (oi := { dst := some 41, op := Go.Op.call { callee := Go.Callee.builtin Go.Builtin.max, args := #[Go.Operand.tmp 38, Go.Operand.tmp 40], argTypes := #[2, 2] }, type := 2, pos := "stats.go:146", after := #[{ on := 4, ground := Go.Ground.data }, { on := 6, ground := Go.Ground.data }], guard := none }) (v := .int .i64 (mx hi z)) rfl rfl (by kernel_rfl) (by kernel_rfl) (by kernel_rfl) (fun _ _ _ h => hQ _ _ _ _ _ h) ⟨Or.inl ⟨by rfl, by intro w; (try simp only [mn, mx]); go_simp⟩, fun _ => rfl⟩ ?_
      exact s0_1_2_3_4_5_6_7_8
    exact AllReadyIn.nil
  have s0_1_2_3_4_5 : wpAnyIn Fence.wide n Try.prog .any exRegion10.ops Q 4 #[true, true, true, true, true, true, false, false, false, false] { tmps := #[u0, u1, u2, u3, u4, u5, .pointer (some ⟨bl, 0, none⟩), .pointer (some ⟨bh, 0, none⟩), u8, u9, u10, .pointer (some ⟨bx, 0, none⟩), u12, u13, u14, u15, u16, u17, u18, u19, u20, u21, u22, u23, u24, u25, u26, u27, u28, u29, u30, u31, u32, u33, .int .i64 lo, .pointer (some ⟨bx, 1, none⟩), .int .i64 z, .int .i64 (mn lo z), .int .i64 hi, .pointer (some ⟨bx, 1, none⟩), u40, u41, u42, u43, u44, u45], defers := [] } W.drew := by
    refine wpAnyIn_ready (rs := [6, 8]) (by kernel_rfl) (by simp) ?_
    refine AllReadyIn.cons (o := { dst := some 40, op := Go.Op.load 2 (Go.Operand.tmp 39), type := 2, pos := "stats.go:146", after := #[{ on := 5, ground := Go.Ground.data }], guard := none }) rfl (fun K hK => ?_) ?_
    · go_simp
      refine hK _ _ ?_
      refine wpAnyIn_take (i := 7) (oi := { dst := some 41, op := Go.Op.call { callee := Go.Callee.builtin Go.Builtin.max, args := #[Go.Operand.tmp 38, Go.Operand.tmp 40], argTypes := #[2, 2] }, type := 2, pos := "stats.go:146", after := #[{ on := 4, ground := Go.Ground.data }, { on := 6, ground := Go.Ground.data }], guard := none }) (v := .int .i64 (mx hi z)) rfl rfl (by kernel_rfl) (by kernel_rfl) (by kernel_rfl) (fun _ _ _ h => hQ _ _ _ _ _ h) ⟨Or.inl ⟨by rfl, by intro w; (try simp only [mn, mx]); go_simp⟩, fun _ => rfl⟩ ?_
      exact s0_1_2_3_4_5_6_7
    refine AllReadyIn.cons (o := { dst := none, op := Go.Op.store 2 (Go.Operand.tmp 6) (Go.Operand.tmp 37), type := 0, pos := "stats.go:146", after := #[{ on := 3, ground := Go.Ground.data }, { on := 0, ground := Go.Ground.phase }, { on := 1, ground := Go.Ground.phase }, { on := 2, ground := Go.Ground.phase }, { on := 3, ground := Go.Ground.phase }, { on := 4, ground := Go.Ground.textOnly Go.Departure.inlinedCapture }, { on := 5, ground := Go.Ground.textOnly Go.Departure.lateStores }, { on := 6, ground := Go.Ground.textOnly Go.Departure.lateStores }, { on := 7, ground := Go.Ground.textOnly Go.Departure.lateStoresUnsure }], guard := none }) rfl (fun K hK => ?_) ?_
    · go_simp
      refine hK _ _ ?_
      exact s0_1_2_3_4_5_8
    exact AllReadyIn.nil
  have s0_1_2_3_5_6_8 : wpAnyIn Fence.wide n Try.prog .any exRegion10.ops Q 3 #[true, true, true, true, false, true, true, false, true, false] { tmps := #[u0, u1, u2, u3, u4, u5, .pointer (some ⟨bl, 0, none⟩), .pointer (some ⟨bh, 0, none⟩), u8, u9, u10, .pointer (some ⟨bx, 0, none⟩), u12, u13, u14, u15, u16, u17, u18, u19, u20, u21, u22, u23, u24, u25, u26, u27, u28, u29, u30, u31, u32, u33, .int .i64 lo, .pointer (some ⟨bx, 1, none⟩), .int .i64 z, .int .i64 (mn lo z), u38, .pointer (some ⟨bx, 1, none⟩), .int .i64 z, u41, u42, u43, u44, u45], defers := [] } (W.setCell ⟨bl, 0, none⟩ (.int .i64 (mn lo z))).drew := by
    refine wpAnyIn_ready (rs := [4]) (by kernel_rfl) (by simp) ?_
    refine AllReadyIn.cons (o := { dst := some 38, op := Go.Op.load 2 (Go.Operand.tmp 7), type := 2, pos := "stats.go:146", after := #[], guard := none }) rfl (fun K hK => ?_) ?_
    · go_simp
      refine hK _ _ ?_
      refine wpAnyIn_take (i := 7) (oi := { dst := some 41, op := Go.Op.call { callee := Go.Callee.builtin Go.Builtin.max, args := #[Go.Operand.tmp 38, Go.Operand.tmp 40], argTypes := #[2, 2] }, type := 2, pos := "stats.go:146", after := #[{ on := 4, ground := Go.Ground.data }, { on := 6, ground := Go.Ground.data }], guard := none }) (v := .int .i64 (mx hi z)) rfl rfl (by kernel_rfl) (by kernel_rfl) (by kernel_rfl) (fun _ _ _ h => hQ _ _ _ _ _ h) ⟨Or.inl ⟨by rfl, by intro w; (try simp only [mn, mx]); go_simp⟩, fun _ => rfl⟩ ?_
      exact s0_1_2_3_4_5_6_7_8
    exact AllReadyIn.nil
  have s0_1_2_3_5_6 : wpAnyIn Fence.wide n Try.prog .any exRegion10.ops Q 4 #[true, true, true, true, false, true, true, false, false, false] { tmps := #[u0, u1, u2, u3, u4, u5, .pointer (some ⟨bl, 0, none⟩), .pointer (some ⟨bh, 0, none⟩), u8, u9, u10, .pointer (some ⟨bx, 0, none⟩), u12, u13, u14, u15, u16, u17, u18, u19, u20, u21, u22, u23, u24, u25, u26, u27, u28, u29, u30, u31, u32, u33, .int .i64 lo, .pointer (some ⟨bx, 1, none⟩), .int .i64 z, .int .i64 (mn lo z), u38, .pointer (some ⟨bx, 1, none⟩), .int .i64 z, u41, u42, u43, u44, u45], defers := [] } W.drew := by
    refine wpAnyIn_ready (rs := [4, 8]) (by kernel_rfl) (by simp) ?_
    refine AllReadyIn.cons (o := { dst := some 38, op := Go.Op.load 2 (Go.Operand.tmp 7), type := 2, pos := "stats.go:146", after := #[], guard := none }) rfl (fun K hK => ?_) ?_
    · go_simp
      refine hK _ _ ?_
      refine wpAnyIn_take (i := 7) (oi := { dst := some 41, op := Go.Op.call { callee := Go.Callee.builtin Go.Builtin.max, args := #[Go.Operand.tmp 38, Go.Operand.tmp 40], argTypes := #[2, 2] }, type := 2, pos := "stats.go:146", after := #[{ on := 4, ground := Go.Ground.data }, { on := 6, ground := Go.Ground.data }], guard := none }) (v := .int .i64 (mx hi z)) rfl rfl (by kernel_rfl) (by kernel_rfl) (by kernel_rfl) (fun _ _ _ h => hQ _ _ _ _ _ h) ⟨Or.inl ⟨by rfl, by intro w; (try simp only [mn, mx]); go_simp⟩, fun _ => rfl⟩ ?_
      exact s0_1_2_3_4_5_6_7
    refine AllReadyIn.cons (o := { dst := none, op := Go.Op.store 2 (Go.Operand.tmp 6) (Go.Operand.tmp 37), type := 0, pos := "stats.go:146", after := #[{ on := 3, ground := Go.Ground.data }, { on := 0, ground := Go.Ground.phase }, { on := 1, ground := Go.Ground.phase }, { on := 2, ground := Go.Ground.phase }, { on := 3, ground := Go.Ground.phase }, { on := 4, ground := Go.Ground.textOnly Go.Departure.inlinedCapture }, { on := 5, ground := Go.Ground.textOnly Go.Departure.lateStores }, { on := 6, ground := Go.Ground.textOnly Go.Departure.lateStores }, { on := 7, ground := Go.Ground.textOnly Go.Departure.lateStoresUnsure }], guard := none }) rfl (fun K hK => ?_) ?_
    · go_simp
      refine hK _ _ ?_
      exact s0_1_2_3_5_6_8
    exact AllReadyIn.nil
  have s0_1_2_3_5_8 : wpAnyIn Fence.wide n Try.prog .any exRegion10.ops Q 4 #[true, true, true, true, false, true, false, false, true, false] { tmps := #[u0, u1, u2, u3, u4, u5, .pointer (some ⟨bl, 0, none⟩), .pointer (some ⟨bh, 0, none⟩), u8, u9, u10, .pointer (some ⟨bx, 0, none⟩), u12, u13, u14, u15, u16, u17, u18, u19, u20, u21, u22, u23, u24, u25, u26, u27, u28, u29, u30, u31, u32, u33, .int .i64 lo, .pointer (some ⟨bx, 1, none⟩), .int .i64 z, .int .i64 (mn lo z), u38, .pointer (some ⟨bx, 1, none⟩), u40, u41, u42, u43, u44, u45], defers := [] } (W.setCell ⟨bl, 0, none⟩ (.int .i64 (mn lo z))).drew := by
    refine wpAnyIn_ready (rs := [4, 6]) (by kernel_rfl) (by simp) ?_
    refine AllReadyIn.cons (o := { dst := some 38, op := Go.Op.load 2 (Go.Operand.tmp 7), type := 2, pos := "stats.go:146", after := #[], guard := none }) rfl (fun K hK => ?_) ?_
    · go_simp
      refine hK _ _ ?_
      exact s0_1_2_3_4_5_8
    refine AllReadyIn.cons (o := { dst := some 40, op := Go.Op.load 2 (Go.Operand.tmp 39), type := 2, pos := "stats.go:146", after := #[{ on := 5, ground := Go.Ground.data }], guard := none }) rfl (fun K hK => ?_) ?_
    · go_simp
      refine hK _ _ ?_
      exact s0_1_2_3_5_6_8
    exact AllReadyIn.nil
  have s0_1_2_3_5 : wpAnyIn Fence.wide n Try.prog .any exRegion10.ops Q 5 #[true, true, true, true, false, true, false, false, false, false] { tmps := #[u0, u1, u2, u3, u4, u5, .pointer (some ⟨bl, 0, none⟩), .pointer (some ⟨bh, 0, none⟩), u8, u9, u10, .pointer (some ⟨bx, 0, none⟩), u12, u13, u14, u15, u16, u17, u18, u19, u20, u21, u22, u23, u24, u25, u26, u27, u28, u29, u30, u31, u32, u33, .int .i64 lo, .pointer (some ⟨bx, 1, none⟩), .int .i64 z, .int .i64 (mn lo z), u38, .pointer (some ⟨bx, 1, none⟩), u40, u41, u42, u43, u44, u45], defers := [] } W.drew := by
    refine wpAnyIn_ready (rs := [4, 6, 8]) (by kernel_rfl) (by simp) ?_
    refine AllReadyIn.cons (o := { dst := some 38, op := Go.Op.load 2 (Go.Operand.tmp 7), type := 2, pos := "stats.go:146", after := #[], guard := none }) rfl (fun K hK => ?_) ?_
    · go_simp
      refine hK _ _ ?_
      exact s0_1_2_3_4_5
    refine AllReadyIn.cons (o := { dst := some 40, op := Go.Op.load 2 (Go.Operand.tmp 39), type := 2, pos := "stats.go:146", after := #[{ on := 5, ground := Go.Ground.data }], guard := none }) rfl (fun K hK => ?_) ?_
    · go_simp
      refine hK _ _ ?_
      exact s0_1_2_3_5_6
    refine AllReadyIn.cons (o := { dst := none, op := Go.Op.store 2 (Go.Operand.tmp 6) (Go.Operand.tmp 37), type := 0, pos := "stats.go:146", after := #[{ on := 3, ground := Go.Ground.data }, { on := 0, ground := Go.Ground.phase }, { on := 1, ground := Go.Ground.phase }, { on := 2, ground := Go.Ground.phase }, { on := 3, ground := Go.Ground.phase }, { on := 4, ground := Go.Ground.textOnly Go.Departure.inlinedCapture }, { on := 5, ground := Go.Ground.textOnly Go.Departure.lateStores }, { on := 6, ground := Go.Ground.textOnly Go.Departure.lateStores }, { on := 7, ground := Go.Ground.textOnly Go.Departure.lateStoresUnsure }], guard := none }) rfl (fun K hK => ?_) ?_
    · go_simp
      refine hK _ _ ?_
      exact s0_1_2_3_5_8
    exact AllReadyIn.nil
  have s0_1_4_5_6_7 : wpAnyIn Fence.wide n Try.prog .any exRegion10.ops Q 4 #[true, true, false, false, true, true, true, true, false, false] { tmps := #[u0, u1, u2, u3, u4, u5, .pointer (some ⟨bl, 0, none⟩), .pointer (some ⟨bh, 0, none⟩), u8, u9, u10, .pointer (some ⟨bx, 0, none⟩), u12, u13, u14, u15, u16, u17, u18, u19, u20, u21, u22, u23, u24, u25, u26, u27, u28, u29, u30, u31, u32, u33, .int .i64 lo, .pointer (some ⟨bx, 1, none⟩), u36, u37, .int .i64 hi, .pointer (some ⟨bx, 1, none⟩), .int .i64 z, .int .i64 (mx hi z), u42, u43, u44, u45], defers := [] } W.drew := by
    refine wpAnyIn_ready (rs := [2]) (by kernel_rfl) (by simp) ?_
    refine AllReadyIn.cons (o := { dst := some 36, op := Go.Op.load 2 (Go.Operand.tmp 35), type := 2, pos := "stats.go:146", after := #[{ on := 1, ground := Go.Ground.data }], guard := none }) rfl (fun K hK => ?_) ?_
    · go_simp
      refine hK _ _ ?_
      refine wpAnyIn_take (i := 3) (oi := { dst := some 37, op := Go.Op.call { callee := Go.Callee.builtin Go.Builtin.min, args := #[Go.Operand.tmp 34, Go.Operand.tmp 36], argTypes := #[2, 2] }, type := 2, pos := "stats.go:146", after := #[{ on := 0, ground := Go.Ground.data }, { on := 2, ground := Go.Ground.data }], guard := none }) (v := .int .i64 (mn lo z)) rfl rfl (by kernel_rfl) (by kernel_rfl) (by kernel_rfl) (fun _ _ _ h => hQ _ _ _ _ _ h) ⟨Or.inl ⟨by rfl, by intro w; (try simp only [mn, mx]); go_simp⟩, fun _ => rfl⟩ ?_
      exact s0_1_2_3_4_5_6_7
    exact AllReadyIn.nil
  have s0_1_4_5 : wpAnyIn Fence.wide n Try.prog .any exRegion10.ops Q 6 #[true, true, false, false, true, true, false, false, false, false] { tmps := #[u0, u1, u2, u3, u4, u5, .pointer (some ⟨bl, 0, none⟩), .pointer (some ⟨bh, 0, none⟩), u8, u9, u10, .pointer (some ⟨bx, 0, none⟩), u12, u13, u14, u15, u16, u17, u18, u19, u20, u21, u22, u23, u24, u25, u26, u27, u28, u29, u30, u31, u32, u33, .int .i64 lo, .pointer (some ⟨bx, 1, none⟩), u36, u37, .int .i64 hi, .pointer (some ⟨bx, 1, none⟩), u40, u41, u42, u43, u44, u45], defers := [] } W.drew := by
    refine wpAnyIn_ready (rs := [2, 6]) (by kernel_rfl) (by simp) ?_
    refine AllReadyIn.cons (o := { dst := some 36, op := Go.Op.load 2 (Go.Operand.tmp 35), type := 2, pos := "stats.go:146", after := #[{ on := 1, ground := Go.Ground.data }], guard := none }) rfl (fun K hK => ?_) ?_
    · go_simp
      refine hK _ _ ?_
      refine wpAnyIn_take (i := 3) (oi := { dst := some 37, op := Go.Op.call { callee := Go.Callee.builtin Go.Builtin.min, args := #[Go.Operand.tmp 34, Go.Operand.tmp 36], argTypes := #[2, 2] }, type := 2, pos := "stats.go:146", after := #[{ on := 0, ground := Go.Ground.data }, { on := 2, ground := Go.Ground.data }], guard := none }) (v := .int .i64 (mn lo z)) rfl rfl (by kernel_rfl) (by kernel_rfl) (by kernel_rfl) (fun _ _ _ h => hQ _ _ _ _ _ h) ⟨Or.inl ⟨by rfl, by intro w; (try simp only [mn, mx]); go_simp⟩, fun _ => rfl⟩ ?_
      exact s0_1_2_3_4_5
    refine AllReadyIn.cons (o := { dst := some 40, op := Go.Op.load 2 (Go.Operand.tmp 39), type := 2, pos := "stats.go:146", after := #[{ on := 5, ground := Go.Ground.data }], guard := none }) rfl (fun K hK => ?_) ?_
    · go_simp
      refine hK _ _ ?_
      refine wpAnyIn_take (i := 7) (oi := { dst := some 41, op := Go.Op.call { callee := Go.Callee.builtin Go.Builtin.max, args := #[Go.Operand.tmp 38, Go.Operand.tmp 40], argTypes := #[2, 2] }, type := 2, pos := "stats.go:146", after := #[{ on := 4, ground := Go.Ground.data }, { on := 6, ground := Go.Ground.data }], guard := none }) (v := .int .i64 (mx hi z)) rfl rfl (by kernel_rfl) (by kernel_rfl) (by kernel_rfl) (fun _ _ _ h => hQ _ _ _ _ _ h) ⟨Or.inl ⟨by rfl, by intro w; (try simp only [mn, mx]); go_simp⟩, fun _ => rfl⟩ ?_
      exact s0_1_4_5_6_7
    exact AllReadyIn.nil
  have s0_1_5_6 : wpAnyIn Fence.wide n Try.prog .any exRegion10.ops Q 6 #[true, true, false, false, false, true, true, false, false, false] { tmps := #[u0, u1, u2, u3, u4, u5, .pointer (some ⟨bl, 0, none⟩), .pointer (some ⟨bh, 0, none⟩), u8, u9, u10, .pointer (some ⟨bx, 0, none⟩), u12, u13, u14, u15, u16, u17, u18, u19, u20, u21, u22, u23, u24, u25, u26, u27, u28, u29, u30, u31, u32, u33, .int .i64 lo, .pointer (some ⟨bx, 1, none⟩), u36, u37, u38, .pointer (some ⟨bx, 1, none⟩), .int .i64 z, u41, u42, u43, u44, u45], defers := [] } W.drew := by
    refine wpAnyIn_ready (rs := [2, 4]) (by kernel_rfl) (by simp) ?_
    refine AllReadyIn.cons (o := { dst := some 36, op := Go.Op.load 2 (Go.Operand.tmp 35), type := 2, pos := "stats.go:146", after := #[{ on := 1, ground := Go.Ground.data }], guard := none }) rfl (fun K hK => ?_) ?_
    · go_simp
      refine hK _ _ ?_
      refine wpAnyIn_take (i := 3) (oi := { dst := some 37, op := Go.Op.call { callee := Go.Callee.builtin Go.Builtin.min, args := #[Go.Operand.tmp 34, Go.Operand.tmp 36], argTypes := #[2, 2] }, type := 2, pos := "stats.go:146", after := #[{ on := 0, ground := Go.Ground.data }, { on := 2, ground := Go.Ground.data }], guard := none }) (v := .int .i64 (mn lo z)) rfl rfl (by kernel_rfl) (by kernel_rfl) (by kernel_rfl) (fun _ _ _ h => hQ _ _ _ _ _ h) ⟨Or.inl ⟨by rfl, by intro w; (try simp only [mn, mx]); go_simp⟩, fun _ => rfl⟩ ?_
      exact s0_1_2_3_5_6
    refine AllReadyIn.cons (o := { dst := some 38, op := Go.Op.load 2 (Go.Operand.tmp 7), type := 2, pos := "stats.go:146", after := #[], guard := none }) rfl (fun K hK => ?_) ?_
    · go_simp
      refine hK _ _ ?_
      refine wpAnyIn_take (i := 7) (oi := { dst := some 41, op := Go.Op.call { callee := Go.Callee.builtin Go.Builtin.max, args := #[Go.Operand.tmp 38, Go.Operand.tmp 40], argTypes := #[2, 2] }, type := 2, pos := "stats.go:146", after := #[{ on := 4, ground := Go.Ground.data }, { on := 6, ground := Go.Ground.data }], guard := none }) (v := .int .i64 (mx hi z)) rfl rfl (by kernel_rfl) (by kernel_rfl) (by kernel_rfl) (fun _ _ _ h => hQ _ _ _ _ _ h) ⟨Or.inl ⟨by rfl, by intro w; (try simp only [mn, mx]); go_simp⟩, fun _ => rfl⟩ ?_
      exact s0_1_4_5_6_7
    exact AllReadyIn.nil
  have s0_1_5 : wpAnyIn Fence.wide n Try.prog .any exRegion10.ops Q 7 #[true, true, false, false, false, true, false, false, false, false] { tmps := #[u0, u1, u2, u3, u4, u5, .pointer (some ⟨bl, 0, none⟩), .pointer (some ⟨bh, 0, none⟩), u8, u9, u10, .pointer (some ⟨bx, 0, none⟩), u12, u13, u14, u15, u16, u17, u18, u19, u20, u21, u22, u23, u24, u25, u26, u27, u28, u29, u30, u31, u32, u33, .int .i64 lo, .pointer (some ⟨bx, 1, none⟩), u36, u37, u38, .pointer (some ⟨bx, 1, none⟩), u40, u41, u42, u43, u44, u45], defers := [] } W.drew := by
    refine wpAnyIn_ready (rs := [2, 4, 6]) (by kernel_rfl) (by simp) ?_
    refine AllReadyIn.cons (o := { dst := some 36, op := Go.Op.load 2 (Go.Operand.tmp 35), type := 2, pos := "stats.go:146", after := #[{ on := 1, ground := Go.Ground.data }], guard := none }) rfl (fun K hK => ?_) ?_
    · go_simp
      refine hK _ _ ?_
      refine wpAnyIn_take (i := 3) (oi := { dst := some 37, op := Go.Op.call { callee := Go.Callee.builtin Go.Builtin.min, args := #[Go.Operand.tmp 34, Go.Operand.tmp 36], argTypes := #[2, 2] }, type := 2, pos := "stats.go:146", after := #[{ on := 0, ground := Go.Ground.data }, { on := 2, ground := Go.Ground.data }], guard := none }) (v := .int .i64 (mn lo z)) rfl rfl (by kernel_rfl) (by kernel_rfl) (by kernel_rfl) (fun _ _ _ h => hQ _ _ _ _ _ h) ⟨Or.inl ⟨by rfl, by intro w; (try simp only [mn, mx]); go_simp⟩, fun _ => rfl⟩ ?_
      exact s0_1_2_3_5
    refine AllReadyIn.cons (o := { dst := some 38, op := Go.Op.load 2 (Go.Operand.tmp 7), type := 2, pos := "stats.go:146", after := #[], guard := none }) rfl (fun K hK => ?_) ?_
    · go_simp
      refine hK _ _ ?_
      exact s0_1_4_5
    refine AllReadyIn.cons (o := { dst := some 40, op := Go.Op.load 2 (Go.Operand.tmp 39), type := 2, pos := "stats.go:146", after := #[{ on := 5, ground := Go.Ground.data }], guard := none }) rfl (fun K hK => ?_) ?_
    · go_simp
      refine hK _ _ ?_
      exact s0_1_5_6
    exact AllReadyIn.nil
  have s1_2_4_5_6_7 : wpAnyIn Fence.wide n Try.prog .any exRegion10.ops Q 4 #[false, true, true, false, true, true, true, true, false, false] { tmps := #[u0, u1, u2, u3, u4, u5, .pointer (some ⟨bl, 0, none⟩), .pointer (some ⟨bh, 0, none⟩), u8, u9, u10, .pointer (some ⟨bx, 0, none⟩), u12, u13, u14, u15, u16, u17, u18, u19, u20, u21, u22, u23, u24, u25, u26, u27, u28, u29, u30, u31, u32, u33, u34, .pointer (some ⟨bx, 1, none⟩), .int .i64 z, u37, .int .i64 hi, .pointer (some ⟨bx, 1, none⟩), .int .i64 z, .int .i64 (mx hi z), u42, u43, u44, u45], defers := [] } W.drew := by
    refine wpAnyIn_ready (rs := [0]) (by kernel_rfl) (by simp) ?_
    refine AllReadyIn.cons (o := { dst := some 34, op := Go.Op.load 2 (Go.Operand.tmp 6), type := 2, pos := "stats.go:146", after := #[], guard := none }) rfl (fun K hK => ?_) ?_
    · go_simp
      refine hK _ _ ?_
      refine wpAnyIn_take (i := 3) (oi := { dst := some 37, op := Go.Op.call { callee := Go.Callee.builtin Go.Builtin.min, args := #[Go.Operand.tmp 34, Go.Operand.tmp 36], argTypes := #[2, 2] }, type := 2, pos := "stats.go:146", after := #[{ on := 0, ground := Go.Ground.data }, { on := 2, ground := Go.Ground.data }], guard := none }) (v := .int .i64 (mn lo z)) rfl rfl (by kernel_rfl) (by kernel_rfl) (by kernel_rfl) (fun _ _ _ h => hQ _ _ _ _ _ h) ⟨Or.inl ⟨by rfl, by intro w; (try simp only [mn, mx]); go_simp⟩, fun _ => rfl⟩ ?_
      exact s0_1_2_3_4_5_6_7
    exact AllReadyIn.nil
  have s1_2_4_5 : wpAnyIn Fence.wide n Try.prog .any exRegion10.ops Q 6 #[false, true, true, false, true, true, false, false, false, false] { tmps := #[u0, u1, u2, u3, u4, u5, .pointer (some ⟨bl, 0, none⟩), .pointer (some ⟨bh, 0, none⟩), u8, u9, u10, .pointer (some ⟨bx, 0, none⟩), u12, u13, u14, u15, u16, u17, u18, u19, u20, u21, u22, u23, u24, u25, u26, u27, u28, u29, u30, u31, u32, u33, u34, .pointer (some ⟨bx, 1, none⟩), .int .i64 z, u37, .int .i64 hi, .pointer (some ⟨bx, 1, none⟩), u40, u41, u42, u43, u44, u45], defers := [] } W.drew := by
    refine wpAnyIn_ready (rs := [0, 6]) (by kernel_rfl) (by simp) ?_
    refine AllReadyIn.cons (o := { dst := some 34, op := Go.Op.load 2 (Go.Operand.tmp 6), type := 2, pos := "stats.go:146", after := #[], guard := none }) rfl (fun K hK => ?_) ?_
    · go_simp
      refine hK _ _ ?_
      refine wpAnyIn_take (i := 3) (oi := { dst := some 37, op := Go.Op.call { callee := Go.Callee.builtin Go.Builtin.min, args := #[Go.Operand.tmp 34, Go.Operand.tmp 36], argTypes := #[2, 2] }, type := 2, pos := "stats.go:146", after := #[{ on := 0, ground := Go.Ground.data }, { on := 2, ground := Go.Ground.data }], guard := none }) (v := .int .i64 (mn lo z)) rfl rfl (by kernel_rfl) (by kernel_rfl) (by kernel_rfl) (fun _ _ _ h => hQ _ _ _ _ _ h) ⟨Or.inl ⟨by rfl, by intro w; (try simp only [mn, mx]); go_simp⟩, fun _ => rfl⟩ ?_
      exact s0_1_2_3_4_5
    refine AllReadyIn.cons (o := { dst := some 40, op := Go.Op.load 2 (Go.Operand.tmp 39), type := 2, pos := "stats.go:146", after := #[{ on := 5, ground := Go.Ground.data }], guard := none }) rfl (fun K hK => ?_) ?_
    · go_simp
      refine hK _ _ ?_
      refine wpAnyIn_take (i := 7) (oi := { dst := some 41, op := Go.Op.call { callee := Go.Callee.builtin Go.Builtin.max, args := #[Go.Operand.tmp 38, Go.Operand.tmp 40], argTypes := #[2, 2] }, type := 2, pos := "stats.go:146", after := #[{ on := 4, ground := Go.Ground.data }, { on := 6, ground := Go.Ground.data }], guard := none }) (v := .int .i64 (mx hi z)) rfl rfl (by kernel_rfl) (by kernel_rfl) (by kernel_rfl) (fun _ _ _ h => hQ _ _ _ _ _ h) ⟨Or.inl ⟨by rfl, by intro w; (try simp only [mn, mx]); go_simp⟩, fun _ => rfl⟩ ?_
      exact s1_2_4_5_6_7
    exact AllReadyIn.nil
  have s1_2_5_6 : wpAnyIn Fence.wide n Try.prog .any exRegion10.ops Q 6 #[false, true, true, false, false, true, true, false, false, false] { tmps := #[u0, u1, u2, u3, u4, u5, .pointer (some ⟨bl, 0, none⟩), .pointer (some ⟨bh, 0, none⟩), u8, u9, u10, .pointer (some ⟨bx, 0, none⟩), u12, u13, u14, u15, u16, u17, u18, u19, u20, u21, u22, u23, u24, u25, u26, u27, u28, u29, u30, u31, u32, u33, u34, .pointer (some ⟨bx, 1, none⟩), .int .i64 z, u37, u38, .pointer (some ⟨bx, 1, none⟩), .int .i64 z, u41, u42, u43, u44, u45], defers := [] } W.drew := by
    refine wpAnyIn_ready (rs := [0, 4]) (by kernel_rfl) (by simp) ?_
    refine AllReadyIn.cons (o := { dst := some 34, op := Go.Op.load 2 (Go.Operand.tmp 6), type := 2, pos := "stats.go:146", after := #[], guard := none }) rfl (fun K hK => ?_) ?_
    · go_simp
      refine hK _ _ ?_
      refine wpAnyIn_take (i := 3) (oi := { dst := some 37, op := Go.Op.call { callee := Go.Callee.builtin Go.Builtin.min, args := #[Go.Operand.tmp 34, Go.Operand.tmp 36], argTypes := #[2, 2] }, type := 2, pos := "stats.go:146", after := #[{ on := 0, ground := Go.Ground.data }, { on := 2, ground := Go.Ground.data }], guard := none }) (v := .int .i64 (mn lo z)) rfl rfl (by kernel_rfl) (by kernel_rfl) (by kernel_rfl) (fun _ _ _ h => hQ _ _ _ _ _ h) ⟨Or.inl ⟨by rfl, by intro w; (try simp only [mn, mx]); go_simp⟩, fun _ => rfl⟩ ?_
      exact s0_1_2_3_5_6
    refine AllReadyIn.cons (o := { dst := some 38, op := Go.Op.load 2 (Go.Operand.tmp 7), type := 2, pos := "stats.go:146", after := #[], guard := none }) rfl (fun K hK => ?_) ?_
    · go_simp
      refine hK _ _ ?_
      refine wpAnyIn_take (i := 7) (oi := { dst := some 41, op := Go.Op.call { callee := Go.Callee.builtin Go.Builtin.max, args := #[Go.Operand.tmp 38, Go.Operand.tmp 40], argTypes := #[2, 2] }, type := 2, pos := "stats.go:146", after := #[{ on := 4, ground := Go.Ground.data }, { on := 6, ground := Go.Ground.data }], guard := none }) (v := .int .i64 (mx hi z)) rfl rfl (by kernel_rfl) (by kernel_rfl) (by kernel_rfl) (fun _ _ _ h => hQ _ _ _ _ _ h) ⟨Or.inl ⟨by rfl, by intro w; (try simp only [mn, mx]); go_simp⟩, fun _ => rfl⟩ ?_
      exact s1_2_4_5_6_7
    exact AllReadyIn.nil
  have s1_2_5 : wpAnyIn Fence.wide n Try.prog .any exRegion10.ops Q 7 #[false, true, true, false, false, true, false, false, false, false] { tmps := #[u0, u1, u2, u3, u4, u5, .pointer (some ⟨bl, 0, none⟩), .pointer (some ⟨bh, 0, none⟩), u8, u9, u10, .pointer (some ⟨bx, 0, none⟩), u12, u13, u14, u15, u16, u17, u18, u19, u20, u21, u22, u23, u24, u25, u26, u27, u28, u29, u30, u31, u32, u33, u34, .pointer (some ⟨bx, 1, none⟩), .int .i64 z, u37, u38, .pointer (some ⟨bx, 1, none⟩), u40, u41, u42, u43, u44, u45], defers := [] } W.drew := by
    refine wpAnyIn_ready (rs := [0, 4, 6]) (by kernel_rfl) (by simp) ?_
    refine AllReadyIn.cons (o := { dst := some 34, op := Go.Op.load 2 (Go.Operand.tmp 6), type := 2, pos := "stats.go:146", after := #[], guard := none }) rfl (fun K hK => ?_) ?_
    · go_simp
      refine hK _ _ ?_
      refine wpAnyIn_take (i := 3) (oi := { dst := some 37, op := Go.Op.call { callee := Go.Callee.builtin Go.Builtin.min, args := #[Go.Operand.tmp 34, Go.Operand.tmp 36], argTypes := #[2, 2] }, type := 2, pos := "stats.go:146", after := #[{ on := 0, ground := Go.Ground.data }, { on := 2, ground := Go.Ground.data }], guard := none }) (v := .int .i64 (mn lo z)) rfl rfl (by kernel_rfl) (by kernel_rfl) (by kernel_rfl) (fun _ _ _ h => hQ _ _ _ _ _ h) ⟨Or.inl ⟨by rfl, by intro w; (try simp only [mn, mx]); go_simp⟩, fun _ => rfl⟩ ?_
      exact s0_1_2_3_5
    refine AllReadyIn.cons (o := { dst := some 38, op := Go.Op.load 2 (Go.Operand.tmp 7), type := 2, pos := "stats.go:146", after := #[], guard := none }) rfl (fun K hK => ?_) ?_
    · go_simp
      refine hK _ _ ?_
      exact s1_2_4_5
    refine AllReadyIn.cons (o := { dst := some 40, op := Go.Op.load 2 (Go.Operand.tmp 39), type := 2, pos := "stats.go:146", after := #[{ on := 5, ground := Go.Ground.data }], guard := none }) rfl (fun K hK => ?_) ?_
    · go_simp
      refine hK _ _ ?_
      exact s1_2_5_6
    exact AllReadyIn.nil
  have s1_4_5_6_7 : wpAnyIn Fence.wide n Try.prog .any exRegion10.ops Q 5 #[false, true, false, false, true, true, true, true, false, false] { tmps := #[u0, u1, u2, u3, u4, u5, .pointer (some ⟨bl, 0, none⟩), .pointer (some ⟨bh, 0, none⟩), u8, u9, u10, .pointer (some ⟨bx, 0, none⟩), u12, u13, u14, u15, u16, u17, u18, u19, u20, u21, u22, u23, u24, u25, u26, u27, u28, u29, u30, u31, u32, u33, u34, .pointer (some ⟨bx, 1, none⟩), u36, u37, .int .i64 hi, .pointer (some ⟨bx, 1, none⟩), .int .i64 z, .int .i64 (mx hi z), u42, u43, u44, u45], defers := [] } W.drew := by
    refine wpAnyIn_ready (rs := [0, 2]) (by kernel_rfl) (by simp) ?_
    refine AllReadyIn.cons (o := { dst := some 34, op := Go.Op.load 2 (Go.Operand.tmp 6), type := 2, pos := "stats.go:146", after := #[], guard := none }) rfl (fun K hK => ?_) ?_
    · go_simp
      refine hK _ _ ?_
      exact s0_1_4_5_6_7
    refine AllReadyIn.cons (o := { dst := some 36, op := Go.Op.load 2 (Go.Operand.tmp 35), type := 2, pos := "stats.go:146", after := #[{ on := 1, ground := Go.Ground.data }], guard := none }) rfl (fun K hK => ?_) ?_
    · go_simp
      refine hK _ _ ?_
      exact s1_2_4_5_6_7
    exact AllReadyIn.nil
  have s1_4_5 : wpAnyIn Fence.wide n Try.prog .any exRegion10.ops Q 7 #[false, true, false, false, true, true, false, false, false, false] { tmps := #[u0, u1, u2, u3, u4, u5, .pointer (some ⟨bl, 0, none⟩), .pointer (some ⟨bh, 0, none⟩), u8, u9, u10, .pointer (some ⟨bx, 0, none⟩), u12, u13, u14, u15, u16, u17, u18, u19, u20, u21, u22, u23, u24, u25, u26, u27, u28, u29, u30, u31, u32, u33, u34, .pointer (some ⟨bx, 1, none⟩), u36, u37, .int .i64 hi, .pointer (some ⟨bx, 1, none⟩), u40, u41, u42, u43, u44, u45], defers := [] } W.drew := by
    refine wpAnyIn_ready (rs := [0, 2, 6]) (by kernel_rfl) (by simp) ?_
    refine AllReadyIn.cons (o := { dst := some 34, op := Go.Op.load 2 (Go.Operand.tmp 6), type := 2, pos := "stats.go:146", after := #[], guard := none }) rfl (fun K hK => ?_) ?_
    · go_simp
      refine hK _ _ ?_
      exact s0_1_4_5
    refine AllReadyIn.cons (o := { dst := some 36, op := Go.Op.load 2 (Go.Operand.tmp 35), type := 2, pos := "stats.go:146", after := #[{ on := 1, ground := Go.Ground.data }], guard := none }) rfl (fun K hK => ?_) ?_
    · go_simp
      refine hK _ _ ?_
      exact s1_2_4_5
    refine AllReadyIn.cons (o := { dst := some 40, op := Go.Op.load 2 (Go.Operand.tmp 39), type := 2, pos := "stats.go:146", after := #[{ on := 5, ground := Go.Ground.data }], guard := none }) rfl (fun K hK => ?_) ?_
    · go_simp
      refine hK _ _ ?_
      refine wpAnyIn_take (i := 7) (oi := { dst := some 41, op := Go.Op.call { callee := Go.Callee.builtin Go.Builtin.max, args := #[Go.Operand.tmp 38, Go.Operand.tmp 40], argTypes := #[2, 2] }, type := 2, pos := "stats.go:146", after := #[{ on := 4, ground := Go.Ground.data }, { on := 6, ground := Go.Ground.data }], guard := none }) (v := .int .i64 (mx hi z)) rfl rfl (by kernel_rfl) (by kernel_rfl) (by kernel_rfl) (fun _ _ _ h => hQ _ _ _ _ _ h) ⟨Or.inl ⟨by rfl, by intro w; (try simp only [mn, mx]); go_simp⟩, fun _ => rfl⟩ ?_
      exact s1_4_5_6_7
    exact AllReadyIn.nil
  have s1_5_6 : wpAnyIn Fence.wide n Try.prog .any exRegion10.ops Q 7 #[false, true, false, false, false, true, true, false, false, false] { tmps := #[u0, u1, u2, u3, u4, u5, .pointer (some ⟨bl, 0, none⟩), .pointer (some ⟨bh, 0, none⟩), u8, u9, u10, .pointer (some ⟨bx, 0, none⟩), u12, u13, u14, u15, u16, u17, u18, u19, u20, u21, u22, u23, u24, u25, u26, u27, u28, u29, u30, u31, u32, u33, u34, .pointer (some ⟨bx, 1, none⟩), u36, u37, u38, .pointer (some ⟨bx, 1, none⟩), .int .i64 z, u41, u42, u43, u44, u45], defers := [] } W.drew := by
    refine wpAnyIn_ready (rs := [0, 2, 4]) (by kernel_rfl) (by simp) ?_
    refine AllReadyIn.cons (o := { dst := some 34, op := Go.Op.load 2 (Go.Operand.tmp 6), type := 2, pos := "stats.go:146", after := #[], guard := none }) rfl (fun K hK => ?_) ?_
    · go_simp
      refine hK _ _ ?_
      exact s0_1_5_6
    refine AllReadyIn.cons (o := { dst := some 36, op := Go.Op.load 2 (Go.Operand.tmp 35), type := 2, pos := "stats.go:146", after := #[{ on := 1, ground := Go.Ground.data }], guard := none }) rfl (fun K hK => ?_) ?_
    · go_simp
      refine hK _ _ ?_
      exact s1_2_5_6
    refine AllReadyIn.cons (o := { dst := some 38, op := Go.Op.load 2 (Go.Operand.tmp 7), type := 2, pos := "stats.go:146", after := #[], guard := none }) rfl (fun K hK => ?_) ?_
    · go_simp
      refine hK _ _ ?_
      refine wpAnyIn_take (i := 7) (oi := { dst := some 41, op := Go.Op.call { callee := Go.Callee.builtin Go.Builtin.max, args := #[Go.Operand.tmp 38, Go.Operand.tmp 40], argTypes := #[2, 2] }, type := 2, pos := "stats.go:146", after := #[{ on := 4, ground := Go.Ground.data }, { on := 6, ground := Go.Ground.data }], guard := none }) (v := .int .i64 (mx hi z)) rfl rfl (by kernel_rfl) (by kernel_rfl) (by kernel_rfl) (fun _ _ _ h => hQ _ _ _ _ _ h) ⟨Or.inl ⟨by rfl, by intro w; (try simp only [mn, mx]); go_simp⟩, fun _ => rfl⟩ ?_
      exact s1_4_5_6_7
    exact AllReadyIn.nil
  have s1_5 : wpAnyIn Fence.wide n Try.prog .any exRegion10.ops Q 8 #[false, true, false, false, false, true, false, false, false, false] { tmps := #[u0, u1, u2, u3, u4, u5, .pointer (some ⟨bl, 0, none⟩), .pointer (some ⟨bh, 0, none⟩), u8, u9, u10, .pointer (some ⟨bx, 0, none⟩), u12, u13, u14, u15, u16, u17, u18, u19, u20, u21, u22, u23, u24, u25, u26, u27, u28, u29, u30, u31, u32, u33, u34, .pointer (some ⟨bx, 1, none⟩), u36, u37, u38, .pointer (some ⟨bx, 1, none⟩), u40, u41, u42, u43, u44, u45], defers := [] } W.drew := by
    refine wpAnyIn_ready (rs := [0, 2, 4, 6]) (by kernel_rfl) (by simp) ?_
    refine AllReadyIn.cons (o := { dst := some 34, op := Go.Op.load 2 (Go.Operand.tmp 6), type := 2, pos := "stats.go:146", after := #[], guard := none }) rfl (fun K hK => ?_) ?_
    · go_simp
      refine hK _ _ ?_
      exact s0_1_5
    refine AllReadyIn.cons (o := { dst := some 36, op := Go.Op.load 2 (Go.Operand.tmp 35), type := 2, pos := "stats.go:146", after := #[{ on := 1, ground := Go.Ground.data }], guard := none }) rfl (fun K hK => ?_) ?_
    · go_simp
      refine hK _ _ ?_
      exact s1_2_5
    refine AllReadyIn.cons (o := { dst := some 38, op := Go.Op.load 2 (Go.Operand.tmp 7), type := 2, pos := "stats.go:146", after := #[], guard := none }) rfl (fun K hK => ?_) ?_
    · go_simp
      refine hK _ _ ?_
      exact s1_4_5
    refine AllReadyIn.cons (o := { dst := some 40, op := Go.Op.load 2 (Go.Operand.tmp 39), type := 2, pos := "stats.go:146", after := #[{ on := 5, ground := Go.Ground.data }], guard := none }) rfl (fun K hK => ?_) ?_
    · go_simp
      refine hK _ _ ?_
      exact s1_5_6
    exact AllReadyIn.nil
  refine wpAnyIn_take (i := 1) (oi := { dst := some 35, op := Go.Op.fieldAddr 45 (Go.Operand.tmp 11) 1, type := 0, pos := "stats.go:146", after := #[], guard := none }) (v := .pointer (some ⟨bx, 1, none⟩)) rfl rfl (by kernel_rfl) (by kernel_rfl) (by kernel_rfl) (fun _ _ _ h => hQ _ _ _ _ _ h) ⟨Or.inl ⟨by rfl, by intro w; (try simp only [mn, mx]); go_simp⟩, fun _ => rfl⟩ ?_
  refine wpAnyIn_take (i := 5) (oi := { dst := some 39, op := Go.Op.fieldAddr 45 (Go.Operand.tmp 11) 1, type := 0, pos := "stats.go:146", after := #[], guard := none }) (v := .pointer (some ⟨bx, 1, none⟩)) rfl rfl (by kernel_rfl) (by kernel_rfl) (by kernel_rfl) (fun _ _ _ h => hQ _ _ _ _ _ h) ⟨Or.inl ⟨by rfl, by intro w; (try simp only [mn, mx]); go_simp⟩, fun _ => rfl⟩ ?_
  exact s1_5
end Go.Proofs.Ytnfcbhoaebcndaa.PT
