/- Lemmas and walks: The walks of image's takes (printed by gen_takes.py). The walks of image's takes (printed by gen_takes.py). The walks of image.writer: numbers, texts, truths. Amid a put: the writer, and the boxed argument. The walks of image's puts (printed by gen_puts.py). The walks of image's puts (printed by gen_puts.py). The walks of image's puts (printed by gen_puts.py). -/
import Derived.Test.YtllkjfadeaoicaaGreatJReads09
import Derived.Test.YtllkjfadeaoicaaGreatJReads05
set_option linter.unusedVariables false
set_option linter.unusedSimpArgs false
namespace Go.Proofs.YtllkjfadeaoicaaGreat
open Go.RowKit

set_option maxHeartbeats 1600000 in
set_option maxRecDepth 100000 in
theorem take_Live (rb : Nat) (r : Rdr) (w : World) (h : RdrAt w rb r) :
    Calls Tryz.prog 46 #[.pointer (some ⟨rb, 0, none⟩)] w (TookX w rb elLive (takeLive r)) := by
  have ST0 := Lib.hid ((InTake.start h).alloc (.cells #[.int .i64 0, .int .i64 0, .int .i64 0, .int .i64 0, .int .i64 0, .int .i64 0, .int .i64 0, .string { data := #[] }, .string { data := #[] }, .int .i64 0, .bool false, .slice none 0 0] 121))
  have HRES0 := Lib.hid (heap_alloc_new w (.cells #[.int .i64 0, .int .i64 0, .int .i64 0, .int .i64 0, .int .i64 0, .int .i64 0, .int .i64 0, .string { data := #[] }, .string { data := #[] }, .int .i64 0, .bool false, .slice none 0 0] 121))
  have hlt := h.lt
  clear h
  unfold takeLive
  go_enter Tryz.func46, Tryz.ntmps46
  go_wp2_with fail
  (with_reducible refine (take_num ST0.out).mono ?_)
  rintro e w1 ⟨rfl, st, hu⟩
  have hsz1 := hu.size
  have HRES1' := Lib.hid (keep_own hu HRES0.out hlt)
  simp only [World.heap_size_alloc'] at hsz1
  have ST1 := Lib.hid (st.alloc (.cells #[.int .i64 (takeNum r).1, .int .i64 0, .int .i64 0, .int .i64 0, .int .i64 0, .int .i64 0, .int .i64 0, .string { data := #[] }, .string { data := #[] }, .int .i64 0, .bool false, .slice none 0 0] 121))
  have HRES1 : Hid ((w1.alloc (.cells #[.int .i64 (takeNum r).1, .int .i64 0, .int .i64 0, .int .i64 0, .int .i64 0, .int .i64 0, .int .i64 0, .string { data := #[] }, .string { data := #[] }, .int .i64 0, .bool false, .slice none 0 0] 121)).heap[w.heap.size]? = some (.cells #[.int .i64 0, .int .i64 0, .int .i64 0, .int .i64 0, .int .i64 0, .int .i64 0, .int .i64 0, .string { data := #[] }, .string { data := #[] }, .int .i64 0, .bool false, .slice none 0 0] 121 (0, 0))) := heap_keep (World.grownBy_alloc _ _ none) HRES1'.out (by simp)
  have HLOC1 : Hid ((w1.alloc (.cells #[.int .i64 (takeNum r).1, .int .i64 0, .int .i64 0, .int .i64 0, .int .i64 0, .int .i64 0, .int .i64 0, .string { data := #[] }, .string { data := #[] }, .int .i64 0, .bool false, .slice none 0 0] 121)).heap[w1.heap.size]? = some (.cells #[.int .i64 (takeNum r).1, .int .i64 0, .int .i64 0, .int .i64 0, .int .i64 0, .int .i64 0, .int .i64 0, .string { data := #[] }, .string { data := #[] }, .int .i64 0, .bool false, .slice none 0 0] 121 (0, 0))) := heap_alloc_new _ _
  clear st hu
  go_wp2_with fail
  (with_reducible refine (take_num ST1.out).mono ?_)
  rintro e w2 ⟨rfl, st, hu⟩
  have hsz2 := hu.size
  have HRES2' := Lib.hid (keep_own hu HRES1.out hlt)
  have HLOC2' := Lib.hid (keep_own hu HLOC1.out (by omega))
  have l1 : w2.cell? ⟨w1.heap.size, 1, none⟩ = some (.int .i64 0) := by rw [cell_of HLOC2'.out]; rfl
  have g1 : w2.frozen? ⟨w1.heap.size, 1, none⟩ = false := frozen_of HLOC2'.out 1
  have ST2 := Lib.hid (st.set (w1.heap.size) 1 (.int .i64 (takeNum (takeNum r).2).1) (by omega))
  have HLOC2 : Hid ((w2.setCell ⟨w1.heap.size, 1, none⟩ (.int .i64 (takeNum (takeNum r).2).1)).heap[w1.heap.size]? = some (.cells #[.int .i64 (takeNum r).1, .int .i64 (takeNum (takeNum r).2).1, .int .i64 0, .int .i64 0, .int .i64 0, .int .i64 0, .int .i64 0, .string { data := #[] }, .string { data := #[] }, .int .i64 0, .bool false, .slice none 0 0] 121 (0, 0))) := (heap_set HLOC2'.out 1 (.int .i64 (takeNum (takeNum r).2).1))
  have HRES2 : Hid ((w2.setCell ⟨w1.heap.size, 1, none⟩ (.int .i64 (takeNum (takeNum r).2).1)).heap[w.heap.size]? = some (.cells #[.int .i64 0, .int .i64 0, .int .i64 0, .int .i64 0, .int .i64 0, .int .i64 0, .int .i64 0, .string { data := #[] }, .string { data := #[] }, .int .i64 0, .bool false, .slice none 0 0] 121 (0, 0))) := (heap_keep (grownBy_set w2 (w1.heap.size) 1 (.int .i64 (takeNum (takeNum r).2).1)) HRES2'.out (by simp; omega))
  clear st hu
  go_wp2_with fail
  clear l1 g1
  (with_reducible refine (take_Cmd rb _ _ ST2.out.rdr).mono ?_)
  rintro e w3 ⟨⟨cs, rfl, rfl, hk1, hk2⟩, tk⟩
  simp only [str]
  have hu := tk.upd; have hsz3 := hu.size
  have st := ST2.out.step tk.rdr hu
  clear tk
  have HRES3' := Lib.hid (keep_own hu HRES2.out hlt)
  have HLOC3' := Lib.hid (keep_own hu HLOC2.out (by omega))
  have l2 : w3.cell? ⟨w1.heap.size, 2, none⟩ = some (.int .i64 0) := by rw [cell_of HLOC3'.out]; rfl
  have g2 : w3.frozen? ⟨w1.heap.size, 2, none⟩ = false := frozen_of HLOC3'.out 2
  have l3 : w3.cell? ⟨w1.heap.size, 3, none⟩ = some (.int .i64 0) := by rw [cell_of HLOC3'.out]; rfl
  have g3 : w3.frozen? ⟨w1.heap.size, 3, none⟩ = false := frozen_of HLOC3'.out 3
  have l4 : w3.cell? ⟨w1.heap.size, 4, none⟩ = some (.int .i64 0) := by rw [cell_of HLOC3'.out]; rfl
  have g4 : w3.frozen? ⟨w1.heap.size, 4, none⟩ = false := frozen_of HLOC3'.out 4
  have l5 : w3.cell? ⟨w1.heap.size, 5, none⟩ = some (.int .i64 0) := by rw [cell_of HLOC3'.out]; rfl
  have g5 : w3.frozen? ⟨w1.heap.size, 5, none⟩ = false := frozen_of HLOC3'.out 5
  have l6 : w3.cell? ⟨w1.heap.size, 6, none⟩ = some (.int .i64 0) := by rw [cell_of HLOC3'.out]; rfl
  have g6 : w3.frozen? ⟨w1.heap.size, 6, none⟩ = false := frozen_of HLOC3'.out 6
  have l7 : w3.cell? ⟨w1.heap.size, 7, none⟩ = some (.string { data := #[] }) := by rw [cell_of HLOC3'.out]; rfl
  have g7 : w3.frozen? ⟨w1.heap.size, 7, none⟩ = false := frozen_of HLOC3'.out 7
  have l8 : w3.cell? ⟨w1.heap.size, 8, none⟩ = some (.string { data := #[] }) := by rw [cell_of HLOC3'.out]; rfl
  have g8 : w3.frozen? ⟨w1.heap.size, 8, none⟩ = false := frozen_of HLOC3'.out 8
  have l9 : w3.cell? ⟨w1.heap.size, 9, none⟩ = some (.int .i64 0) := by rw [cell_of HLOC3'.out]; rfl
  have g9 : w3.frozen? ⟨w1.heap.size, 9, none⟩ = false := frozen_of HLOC3'.out 9
  have l10 : w3.cell? ⟨w1.heap.size, 10, none⟩ = some (.bool false) := by rw [cell_of HLOC3'.out]; rfl
  have g10 : w3.frozen? ⟨w1.heap.size, 10, none⟩ = false := frozen_of HLOC3'.out 10
  have hl2 : (w3.setCell ⟨w1.heap.size, 2, none⟩ (.int .i64 (takeCmd (takeNum (takeNum r).2).2).1.kind)).heap[w1.heap.size]? = some (.cells #[.int .i64 (takeNum r).1, .int .i64 (takeNum (takeNum r).2).1, .int .i64 (takeCmd (takeNum (takeNum r).2).2).1.kind, .int .i64 0, .int .i64 0, .int .i64 0, .int .i64 0, .string { data := #[] }, .string { data := #[] }, .int .i64 0, .bool false, .slice none 0 0] 121 (0, 0)) := (heap_set HLOC3'.out 2 (.int .i64 (takeCmd (takeNum (takeNum r).2).2).1.kind))
  have hl3 : ((w3.setCell ⟨w1.heap.size, 2, none⟩ (.int .i64 (takeCmd (takeNum (takeNum r).2).2).1.kind)).setCell ⟨w1.heap.size, 3, none⟩ (.int .i64 (takeCmd (takeNum (takeNum r).2).2).1.tx)).heap[w1.heap.size]? = some (.cells #[.int .i64 (takeNum r).1, .int .i64 (takeNum (takeNum r).2).1, .int .i64 (takeCmd (takeNum (takeNum r).2).2).1.kind, .int .i64 (takeCmd (takeNum (takeNum r).2).2).1.tx, .int .i64 0, .int .i64 0, .int .i64 0, .string { data := #[] }, .string { data := #[] }, .int .i64 0, .bool false, .slice none 0 0] 121 (0, 0)) := (heap_set hl2 3 (.int .i64 (takeCmd (takeNum (takeNum r).2).2).1.tx))
  have hl4 : (((w3.setCell ⟨w1.heap.size, 2, none⟩ (.int .i64 (takeCmd (takeNum (takeNum r).2).2).1.kind)).setCell ⟨w1.heap.size, 3, none⟩ (.int .i64 (takeCmd (takeNum (takeNum r).2).2).1.tx)).setCell ⟨w1.heap.size, 4, none⟩ (.int .i64 (takeCmd (takeNum (takeNum r).2).2).1.attempt)).heap[w1.heap.size]? = some (.cells #[.int .i64 (takeNum r).1, .int .i64 (takeNum (takeNum r).2).1, .int .i64 (takeCmd (takeNum (takeNum r).2).2).1.kind, .int .i64 (takeCmd (takeNum (takeNum r).2).2).1.tx, .int .i64 (takeCmd (takeNum (takeNum r).2).2).1.attempt, .int .i64 0, .int .i64 0, .string { data := #[] }, .string { data := #[] }, .int .i64 0, .bool false, .slice none 0 0] 121 (0, 0)) := (heap_set hl3 4 (.int .i64 (takeCmd (takeNum (takeNum r).2).2).1.attempt))
  have hl5 : ((((w3.setCell ⟨w1.heap.size, 2, none⟩ (.int .i64 (takeCmd (takeNum (takeNum r).2).2).1.kind)).setCell ⟨w1.heap.size, 3, none⟩ (.int .i64 (takeCmd (takeNum (takeNum r).2).2).1.tx)).setCell ⟨w1.heap.size, 4, none⟩ (.int .i64 (takeCmd (takeNum (takeNum r).2).2).1.attempt)).setCell ⟨w1.heap.size, 5, none⟩ (.int .i64 (takeCmd (takeNum (takeNum r).2).2).1.stamp)).heap[w1.heap.size]? = some (.cells #[.int .i64 (takeNum r).1, .int .i64 (takeNum (takeNum r).2).1, .int .i64 (takeCmd (takeNum (takeNum r).2).2).1.kind, .int .i64 (takeCmd (takeNum (takeNum r).2).2).1.tx, .int .i64 (takeCmd (takeNum (takeNum r).2).2).1.attempt, .int .i64 (takeCmd (takeNum (takeNum r).2).2).1.stamp, .int .i64 0, .string { data := #[] }, .string { data := #[] }, .int .i64 0, .bool false, .slice none 0 0] 121 (0, 0)) := (heap_set hl4 5 (.int .i64 (takeCmd (takeNum (takeNum r).2).2).1.stamp))
  have hl6 : (((((w3.setCell ⟨w1.heap.size, 2, none⟩ (.int .i64 (takeCmd (takeNum (takeNum r).2).2).1.kind)).setCell ⟨w1.heap.size, 3, none⟩ (.int .i64 (takeCmd (takeNum (takeNum r).2).2).1.tx)).setCell ⟨w1.heap.size, 4, none⟩ (.int .i64 (takeCmd (takeNum (takeNum r).2).2).1.attempt)).setCell ⟨w1.heap.size, 5, none⟩ (.int .i64 (takeCmd (takeNum (takeNum r).2).2).1.stamp)).setCell ⟨w1.heap.size, 6, none⟩ (.int .i64 (takeCmd (takeNum (takeNum r).2).2).1.op)).heap[w1.heap.size]? = some (.cells #[.int .i64 (takeNum r).1, .int .i64 (takeNum (takeNum r).2).1, .int .i64 (takeCmd (takeNum (takeNum r).2).2).1.kind, .int .i64 (takeCmd (takeNum (takeNum r).2).2).1.tx, .int .i64 (takeCmd (takeNum (takeNum r).2).2).1.attempt, .int .i64 (takeCmd (takeNum (takeNum r).2).2).1.stamp, .int .i64 (takeCmd (takeNum (takeNum r).2).2).1.op, .string { data := #[] }, .string { data := #[] }, .int .i64 0, .bool false, .slice none 0 0] 121 (0, 0)) := (heap_set hl5 6 (.int .i64 (takeCmd (takeNum (takeNum r).2).2).1.op))
  have hl7 : ((((((w3.setCell ⟨w1.heap.size, 2, none⟩ (.int .i64 (takeCmd (takeNum (takeNum r).2).2).1.kind)).setCell ⟨w1.heap.size, 3, none⟩ (.int .i64 (takeCmd (takeNum (takeNum r).2).2).1.tx)).setCell ⟨w1.heap.size, 4, none⟩ (.int .i64 (takeCmd (takeNum (takeNum r).2).2).1.attempt)).setCell ⟨w1.heap.size, 5, none⟩ (.int .i64 (takeCmd (takeNum (takeNum r).2).2).1.stamp)).setCell ⟨w1.heap.size, 6, none⟩ (.int .i64 (takeCmd (takeNum (takeNum r).2).2).1.op)).setCell ⟨w1.heap.size, 7, none⟩ (.string ⟨(takeCmd (takeNum (takeNum r).2).2).1.key.toArray⟩)).heap[w1.heap.size]? = some (.cells #[.int .i64 (takeNum r).1, .int .i64 (takeNum (takeNum r).2).1, .int .i64 (takeCmd (takeNum (takeNum r).2).2).1.kind, .int .i64 (takeCmd (takeNum (takeNum r).2).2).1.tx, .int .i64 (takeCmd (takeNum (takeNum r).2).2).1.attempt, .int .i64 (takeCmd (takeNum (takeNum r).2).2).1.stamp, .int .i64 (takeCmd (takeNum (takeNum r).2).2).1.op, .string ⟨(takeCmd (takeNum (takeNum r).2).2).1.key.toArray⟩, .string { data := #[] }, .int .i64 0, .bool false, .slice none 0 0] 121 (0, 0)) := (heap_set hl6 7 (.string ⟨(takeCmd (takeNum (takeNum r).2).2).1.key.toArray⟩))
  have hl8 : (((((((w3.setCell ⟨w1.heap.size, 2, none⟩ (.int .i64 (takeCmd (takeNum (takeNum r).2).2).1.kind)).setCell ⟨w1.heap.size, 3, none⟩ (.int .i64 (takeCmd (takeNum (takeNum r).2).2).1.tx)).setCell ⟨w1.heap.size, 4, none⟩ (.int .i64 (takeCmd (takeNum (takeNum r).2).2).1.attempt)).setCell ⟨w1.heap.size, 5, none⟩ (.int .i64 (takeCmd (takeNum (takeNum r).2).2).1.stamp)).setCell ⟨w1.heap.size, 6, none⟩ (.int .i64 (takeCmd (takeNum (takeNum r).2).2).1.op)).setCell ⟨w1.heap.size, 7, none⟩ (.string ⟨(takeCmd (takeNum (takeNum r).2).2).1.key.toArray⟩)).setCell ⟨w1.heap.size, 8, none⟩ (.string ⟨(takeCmd (takeNum (takeNum r).2).2).1.value.toArray⟩)).heap[w1.heap.size]? = some (.cells #[.int .i64 (takeNum r).1, .int .i64 (takeNum (takeNum r).2).1, .int .i64 (takeCmd (takeNum (takeNum r).2).2).1.kind, .int .i64 (takeCmd (takeNum (takeNum r).2).2).1.tx, .int .i64 (takeCmd (takeNum (takeNum r).2).2).1.attempt, .int .i64 (takeCmd (takeNum (takeNum r).2).2).1.stamp, .int .i64 (takeCmd (takeNum (takeNum r).2).2).1.op, .string ⟨(takeCmd (takeNum (takeNum r).2).2).1.key.toArray⟩, .string ⟨(takeCmd (takeNum (takeNum r).2).2).1.value.toArray⟩, .int .i64 0, .bool false, .slice none 0 0] 121 (0, 0)) := (heap_set hl7 8 (.string ⟨(takeCmd (takeNum (takeNum r).2).2).1.value.toArray⟩))
  have hl9 : ((((((((w3.setCell ⟨w1.heap.size, 2, none⟩ (.int .i64 (takeCmd (takeNum (takeNum r).2).2).1.kind)).setCell ⟨w1.heap.size, 3, none⟩ (.int .i64 (takeCmd (takeNum (takeNum r).2).2).1.tx)).setCell ⟨w1.heap.size, 4, none⟩ (.int .i64 (takeCmd (takeNum (takeNum r).2).2).1.attempt)).setCell ⟨w1.heap.size, 5, none⟩ (.int .i64 (takeCmd (takeNum (takeNum r).2).2).1.stamp)).setCell ⟨w1.heap.size, 6, none⟩ (.int .i64 (takeCmd (takeNum (takeNum r).2).2).1.op)).setCell ⟨w1.heap.size, 7, none⟩ (.string ⟨(takeCmd (takeNum (takeNum r).2).2).1.key.toArray⟩)).setCell ⟨w1.heap.size, 8, none⟩ (.string ⟨(takeCmd (takeNum (takeNum r).2).2).1.value.toArray⟩)).setCell ⟨w1.heap.size, 9, none⟩ (.int .i64 (takeCmd (takeNum (takeNum r).2).2).1.mode)).heap[w1.heap.size]? = some (.cells #[.int .i64 (takeNum r).1, .int .i64 (takeNum (takeNum r).2).1, .int .i64 (takeCmd (takeNum (takeNum r).2).2).1.kind, .int .i64 (takeCmd (takeNum (takeNum r).2).2).1.tx, .int .i64 (takeCmd (takeNum (takeNum r).2).2).1.attempt, .int .i64 (takeCmd (takeNum (takeNum r).2).2).1.stamp, .int .i64 (takeCmd (takeNum (takeNum r).2).2).1.op, .string ⟨(takeCmd (takeNum (takeNum r).2).2).1.key.toArray⟩, .string ⟨(takeCmd (takeNum (takeNum r).2).2).1.value.toArray⟩, .int .i64 (takeCmd (takeNum (takeNum r).2).2).1.mode, .bool false, .slice none 0 0] 121 (0, 0)) := (heap_set hl8 9 (.int .i64 (takeCmd (takeNum (takeNum r).2).2).1.mode))
  have hl10 : (((((((((w3.setCell ⟨w1.heap.size, 2, none⟩ (.int .i64 (takeCmd (takeNum (takeNum r).2).2).1.kind)).setCell ⟨w1.heap.size, 3, none⟩ (.int .i64 (takeCmd (takeNum (takeNum r).2).2).1.tx)).setCell ⟨w1.heap.size, 4, none⟩ (.int .i64 (takeCmd (takeNum (takeNum r).2).2).1.attempt)).setCell ⟨w1.heap.size, 5, none⟩ (.int .i64 (takeCmd (takeNum (takeNum r).2).2).1.stamp)).setCell ⟨w1.heap.size, 6, none⟩ (.int .i64 (takeCmd (takeNum (takeNum r).2).2).1.op)).setCell ⟨w1.heap.size, 7, none⟩ (.string ⟨(takeCmd (takeNum (takeNum r).2).2).1.key.toArray⟩)).setCell ⟨w1.heap.size, 8, none⟩ (.string ⟨(takeCmd (takeNum (takeNum r).2).2).1.value.toArray⟩)).setCell ⟨w1.heap.size, 9, none⟩ (.int .i64 (takeCmd (takeNum (takeNum r).2).2).1.mode)).setCell ⟨w1.heap.size, 10, none⟩ (.bool (takeCmd (takeNum (takeNum r).2).2).1.yes)).heap[w1.heap.size]? = some (.cells #[.int .i64 (takeNum r).1, .int .i64 (takeNum (takeNum r).2).1, .int .i64 (takeCmd (takeNum (takeNum r).2).2).1.kind, .int .i64 (takeCmd (takeNum (takeNum r).2).2).1.tx, .int .i64 (takeCmd (takeNum (takeNum r).2).2).1.attempt, .int .i64 (takeCmd (takeNum (takeNum r).2).2).1.stamp, .int .i64 (takeCmd (takeNum (takeNum r).2).2).1.op, .string ⟨(takeCmd (takeNum (takeNum r).2).2).1.key.toArray⟩, .string ⟨(takeCmd (takeNum (takeNum r).2).2).1.value.toArray⟩, .int .i64 (takeCmd (takeNum (takeNum r).2).2).1.mode, .bool (takeCmd (takeNum (takeNum r).2).2).1.yes, .slice none 0 0] 121 (0, 0)) := (heap_set hl9 10 (.bool (takeCmd (takeNum (takeNum r).2).2).1.yes))
  have ST3 := Lib.hid (((((((((st.set (w1.heap.size) 2 (.int .i64 (takeCmd (takeNum (takeNum r).2).2).1.kind) (by omega)).set (w1.heap.size) 3 (.int .i64 (takeCmd (takeNum (takeNum r).2).2).1.tx) (by omega)).set (w1.heap.size) 4 (.int .i64 (takeCmd (takeNum (takeNum r).2).2).1.attempt) (by omega)).set (w1.heap.size) 5 (.int .i64 (takeCmd (takeNum (takeNum r).2).2).1.stamp) (by omega)).set (w1.heap.size) 6 (.int .i64 (takeCmd (takeNum (takeNum r).2).2).1.op) (by omega)).set (w1.heap.size) 7 (.string ⟨(takeCmd (takeNum (takeNum r).2).2).1.key.toArray⟩) (by omega)).set (w1.heap.size) 8 (.string ⟨(takeCmd (takeNum (takeNum r).2).2).1.value.toArray⟩) (by omega)).set (w1.heap.size) 9 (.int .i64 (takeCmd (takeNum (takeNum r).2).2).1.mode) (by omega)).set (w1.heap.size) 10 (.bool (takeCmd (takeNum (takeNum r).2).2).1.yes) (by omega))
  have HLOC3 : Hid ((((((((((w3.setCell ⟨w1.heap.size, 2, none⟩ (.int .i64 (takeCmd (takeNum (takeNum r).2).2).1.kind)).setCell ⟨w1.heap.size, 3, none⟩ (.int .i64 (takeCmd (takeNum (takeNum r).2).2).1.tx)).setCell ⟨w1.heap.size, 4, none⟩ (.int .i64 (takeCmd (takeNum (takeNum r).2).2).1.attempt)).setCell ⟨w1.heap.size, 5, none⟩ (.int .i64 (takeCmd (takeNum (takeNum r).2).2).1.stamp)).setCell ⟨w1.heap.size, 6, none⟩ (.int .i64 (takeCmd (takeNum (takeNum r).2).2).1.op)).setCell ⟨w1.heap.size, 7, none⟩ (.string ⟨(takeCmd (takeNum (takeNum r).2).2).1.key.toArray⟩)).setCell ⟨w1.heap.size, 8, none⟩ (.string ⟨(takeCmd (takeNum (takeNum r).2).2).1.value.toArray⟩)).setCell ⟨w1.heap.size, 9, none⟩ (.int .i64 (takeCmd (takeNum (takeNum r).2).2).1.mode)).setCell ⟨w1.heap.size, 10, none⟩ (.bool (takeCmd (takeNum (takeNum r).2).2).1.yes)).heap[w1.heap.size]? = some (.cells #[.int .i64 (takeNum r).1, .int .i64 (takeNum (takeNum r).2).1, .int .i64 (takeCmd (takeNum (takeNum r).2).2).1.kind, .int .i64 (takeCmd (takeNum (takeNum r).2).2).1.tx, .int .i64 (takeCmd (takeNum (takeNum r).2).2).1.attempt, .int .i64 (takeCmd (takeNum (takeNum r).2).2).1.stamp, .int .i64 (takeCmd (takeNum (takeNum r).2).2).1.op, .string ⟨(takeCmd (takeNum (takeNum r).2).2).1.key.toArray⟩, .string ⟨(takeCmd (takeNum (takeNum r).2).2).1.value.toArray⟩, .int .i64 (takeCmd (takeNum (takeNum r).2).2).1.mode, .bool (takeCmd (takeNum (takeNum r).2).2).1.yes, .slice none 0 0] 121 (0, 0))) := hl10
  have HRES3 : Hid ((((((((((w3.setCell ⟨w1.heap.size, 2, none⟩ (.int .i64 (takeCmd (takeNum (takeNum r).2).2).1.kind)).setCell ⟨w1.heap.size, 3, none⟩ (.int .i64 (takeCmd (takeNum (takeNum r).2).2).1.tx)).setCell ⟨w1.heap.size, 4, none⟩ (.int .i64 (takeCmd (takeNum (takeNum r).2).2).1.attempt)).setCell ⟨w1.heap.size, 5, none⟩ (.int .i64 (takeCmd (takeNum (takeNum r).2).2).1.stamp)).setCell ⟨w1.heap.size, 6, none⟩ (.int .i64 (takeCmd (takeNum (takeNum r).2).2).1.op)).setCell ⟨w1.heap.size, 7, none⟩ (.string ⟨(takeCmd (takeNum (takeNum r).2).2).1.key.toArray⟩)).setCell ⟨w1.heap.size, 8, none⟩ (.string ⟨(takeCmd (takeNum (takeNum r).2).2).1.value.toArray⟩)).setCell ⟨w1.heap.size, 9, none⟩ (.int .i64 (takeCmd (takeNum (takeNum r).2).2).1.mode)).setCell ⟨w1.heap.size, 10, none⟩ (.bool (takeCmd (takeNum (takeNum r).2).2).1.yes)).heap[w.heap.size]? = some (.cells #[.int .i64 0, .int .i64 0, .int .i64 0, .int .i64 0, .int .i64 0, .int .i64 0, .int .i64 0, .string { data := #[] }, .string { data := #[] }, .int .i64 0, .bool false, .slice none 0 0] 121 (0, 0))) := (heap_keep (grownBy_set ((((((((w3.setCell ⟨w1.heap.size, 2, none⟩ (.int .i64 (takeCmd (takeNum (takeNum r).2).2).1.kind)).setCell ⟨w1.heap.size, 3, none⟩ (.int .i64 (takeCmd (takeNum (takeNum r).2).2).1.tx)).setCell ⟨w1.heap.size, 4, none⟩ (.int .i64 (takeCmd (takeNum (takeNum r).2).2).1.attempt)).setCell ⟨w1.heap.size, 5, none⟩ (.int .i64 (takeCmd (takeNum (takeNum r).2).2).1.stamp)).setCell ⟨w1.heap.size, 6, none⟩ (.int .i64 (takeCmd (takeNum (takeNum r).2).2).1.op)).setCell ⟨w1.heap.size, 7, none⟩ (.string ⟨(takeCmd (takeNum (takeNum r).2).2).1.key.toArray⟩)).setCell ⟨w1.heap.size, 8, none⟩ (.string ⟨(takeCmd (takeNum (takeNum r).2).2).1.value.toArray⟩)).setCell ⟨w1.heap.size, 9, none⟩ (.int .i64 (takeCmd (takeNum (takeNum r).2).2).1.mode)) (w1.heap.size) 10 (.bool (takeCmd (takeNum (takeNum r).2).2).1.yes)) (heap_keep (grownBy_set (((((((w3.setCell ⟨w1.heap.size, 2, none⟩ (.int .i64 (takeCmd (takeNum (takeNum r).2).2).1.kind)).setCell ⟨w1.heap.size, 3, none⟩ (.int .i64 (takeCmd (takeNum (takeNum r).2).2).1.tx)).setCell ⟨w1.heap.size, 4, none⟩ (.int .i64 (takeCmd (takeNum (takeNum r).2).2).1.attempt)).setCell ⟨w1.heap.size, 5, none⟩ (.int .i64 (takeCmd (takeNum (takeNum r).2).2).1.stamp)).setCell ⟨w1.heap.size, 6, none⟩ (.int .i64 (takeCmd (takeNum (takeNum r).2).2).1.op)).setCell ⟨w1.heap.size, 7, none⟩ (.string ⟨(takeCmd (takeNum (takeNum r).2).2).1.key.toArray⟩)).setCell ⟨w1.heap.size, 8, none⟩ (.string ⟨(takeCmd (takeNum (takeNum r).2).2).1.value.toArray⟩)) (w1.heap.size) 9 (.int .i64 (takeCmd (takeNum (takeNum r).2).2).1.mode)) (heap_keep (grownBy_set ((((((w3.setCell ⟨w1.heap.size, 2, none⟩ (.int .i64 (takeCmd (takeNum (takeNum r).2).2).1.kind)).setCell ⟨w1.heap.size, 3, none⟩ (.int .i64 (takeCmd (takeNum (takeNum r).2).2).1.tx)).setCell ⟨w1.heap.size, 4, none⟩ (.int .i64 (takeCmd (takeNum (takeNum r).2).2).1.attempt)).setCell ⟨w1.heap.size, 5, none⟩ (.int .i64 (takeCmd (takeNum (takeNum r).2).2).1.stamp)).setCell ⟨w1.heap.size, 6, none⟩ (.int .i64 (takeCmd (takeNum (takeNum r).2).2).1.op)).setCell ⟨w1.heap.size, 7, none⟩ (.string ⟨(takeCmd (takeNum (takeNum r).2).2).1.key.toArray⟩)) (w1.heap.size) 8 (.string ⟨(takeCmd (takeNum (takeNum r).2).2).1.value.toArray⟩)) (heap_keep (grownBy_set (((((w3.setCell ⟨w1.heap.size, 2, none⟩ (.int .i64 (takeCmd (takeNum (takeNum r).2).2).1.kind)).setCell ⟨w1.heap.size, 3, none⟩ (.int .i64 (takeCmd (takeNum (takeNum r).2).2).1.tx)).setCell ⟨w1.heap.size, 4, none⟩ (.int .i64 (takeCmd (takeNum (takeNum r).2).2).1.attempt)).setCell ⟨w1.heap.size, 5, none⟩ (.int .i64 (takeCmd (takeNum (takeNum r).2).2).1.stamp)).setCell ⟨w1.heap.size, 6, none⟩ (.int .i64 (takeCmd (takeNum (takeNum r).2).2).1.op)) (w1.heap.size) 7 (.string ⟨(takeCmd (takeNum (takeNum r).2).2).1.key.toArray⟩)) (heap_keep (grownBy_set ((((w3.setCell ⟨w1.heap.size, 2, none⟩ (.int .i64 (takeCmd (takeNum (takeNum r).2).2).1.kind)).setCell ⟨w1.heap.size, 3, none⟩ (.int .i64 (takeCmd (takeNum (takeNum r).2).2).1.tx)).setCell ⟨w1.heap.size, 4, none⟩ (.int .i64 (takeCmd (takeNum (takeNum r).2).2).1.attempt)).setCell ⟨w1.heap.size, 5, none⟩ (.int .i64 (takeCmd (takeNum (takeNum r).2).2).1.stamp)) (w1.heap.size) 6 (.int .i64 (takeCmd (takeNum (takeNum r).2).2).1.op)) (heap_keep (grownBy_set (((w3.setCell ⟨w1.heap.size, 2, none⟩ (.int .i64 (takeCmd (takeNum (takeNum r).2).2).1.kind)).setCell ⟨w1.heap.size, 3, none⟩ (.int .i64 (takeCmd (takeNum (takeNum r).2).2).1.tx)).setCell ⟨w1.heap.size, 4, none⟩ (.int .i64 (takeCmd (takeNum (takeNum r).2).2).1.attempt)) (w1.heap.size) 5 (.int .i64 (takeCmd (takeNum (takeNum r).2).2).1.stamp)) (heap_keep (grownBy_set ((w3.setCell ⟨w1.heap.size, 2, none⟩ (.int .i64 (takeCmd (takeNum (takeNum r).2).2).1.kind)).setCell ⟨w1.heap.size, 3, none⟩ (.int .i64 (takeCmd (takeNum (takeNum r).2).2).1.tx)) (w1.heap.size) 4 (.int .i64 (takeCmd (takeNum (takeNum r).2).2).1.attempt)) (heap_keep (grownBy_set (w3.setCell ⟨w1.heap.size, 2, none⟩ (.int .i64 (takeCmd (takeNum (takeNum r).2).2).1.kind)) (w1.heap.size) 3 (.int .i64 (takeCmd (takeNum (takeNum r).2).2).1.tx)) (heap_keep (grownBy_set w3 (w1.heap.size) 2 (.int .i64 (takeCmd (takeNum (takeNum r).2).2).1.kind)) HRES3'.out (by simp; omega)) (by simp; omega)) (by simp; omega)) (by simp; omega)) (by simp; omega)) (by simp; omega)) (by simp; omega)) (by simp; omega)) (by simp; omega))
  clear st hu hl2 hl3 hl4 hl5 hl6 hl7 hl8 hl9 hl10
  go_wp2_with fail
  clear l2 g2
  clear l3 g3
  clear l4 g4
  clear l5 g5
  clear l6 g6
  clear l7 g7
  clear l8 g8
  clear l9 g9
  clear l10 g10
  (with_reducible refine (takes_Write rb _ _ ST3.out.rdr).mono ?_)
  rintro e w4 ⟨⟨v4, rfl, hr⟩, tk⟩
  obtain ⟨A1, n1, c1, rfl⟩ := hr.form
  have HR1 := Lib.hid hr; have hu := tk.upd; have hsz4 := hu.size; clear hr
  have st := ST3.out.step tk.rdr hu
  clear tk
  have HRES4' := Lib.hid (keep_own hu HRES3.out hlt)
  have HLOC4' := Lib.hid (keep_own hu HLOC3.out (by omega))
  have l11 : w4.cell? ⟨w1.heap.size, 11, none⟩ = some (.slice none 0 0) := by rw [cell_of HLOC4'.out]; rfl
  have g11 : w4.frozen? ⟨w1.heap.size, 11, none⟩ = false := frozen_of HLOC4'.out 11
  have ST4 := Lib.hid (st.set (w1.heap.size) 11 (.slice A1 n1 c1) (by omega))
  have HLOC4 : Hid ((w4.setCell ⟨w1.heap.size, 11, none⟩ (.slice A1 n1 c1)).heap[w1.heap.size]? = some (.cells #[.int .i64 (takeNum r).1, .int .i64 (takeNum (takeNum r).2).1, .int .i64 (takeCmd (takeNum (takeNum r).2).2).1.kind, .int .i64 (takeCmd (takeNum (takeNum r).2).2).1.tx, .int .i64 (takeCmd (takeNum (takeNum r).2).2).1.attempt, .int .i64 (takeCmd (takeNum (takeNum r).2).2).1.stamp, .int .i64 (takeCmd (takeNum (takeNum r).2).2).1.op, .string ⟨(takeCmd (takeNum (takeNum r).2).2).1.key.toArray⟩, .string ⟨(takeCmd (takeNum (takeNum r).2).2).1.value.toArray⟩, .int .i64 (takeCmd (takeNum (takeNum r).2).2).1.mode, .bool (takeCmd (takeNum (takeNum r).2).2).1.yes, .slice A1 n1 c1] 121 (0, 0))) := (heap_set HLOC4'.out 11 (.slice A1 n1 c1))
  have HRES4 : Hid ((w4.setCell ⟨w1.heap.size, 11, none⟩ (.slice A1 n1 c1)).heap[w.heap.size]? = some (.cells #[.int .i64 0, .int .i64 0, .int .i64 0, .int .i64 0, .int .i64 0, .int .i64 0, .int .i64 0, .string { data := #[] }, .string { data := #[] }, .int .i64 0, .bool false, .slice none 0 0] 121 (0, 0))) := (heap_keep (grownBy_set w4 (w1.heap.size) 11 (.slice A1 n1 c1)) HRES4'.out (by simp; omega))
  have HC1_4 : Hid (Upd (fun k => k = rb ∨ k = w1.heap.size ∨ k = w.heap.size) w4 (w4.setCell ⟨w1.heap.size, 11, none⟩ (.slice A1 n1 c1))) := ((Upd.refl (fun k => k = rb ∨ k = w1.heap.size ∨ k = w.heap.size) w4).trans (Upd.set w4 (w1.heap.size) 11 (.slice A1 n1 c1)) fun k g => .inl (.inr (.inl g)))
  clear st hu
  have a0 : (w4.setCell ⟨w1.heap.size, 11, none⟩ (.slice A1 n1 c1)).cell? ⟨w1.heap.size, 0, none⟩ = some (.int .i64 (takeNum r).1) := by rw [cell_of HLOC4.out]; rfl
  have r0 : (w4.setCell ⟨w1.heap.size, 11, none⟩ (.slice A1 n1 c1)).cell? ⟨w.heap.size, 0, none⟩ = some (.int .i64 0) := by rw [cell_of HRES4.out]; rfl
  have f0 : (w4.setCell ⟨w1.heap.size, 11, none⟩ (.slice A1 n1 c1)).frozen? ⟨w.heap.size, 0, none⟩ = false := frozen_of HRES4.out 0
  have a1 : (w4.setCell ⟨w1.heap.size, 11, none⟩ (.slice A1 n1 c1)).cell? ⟨w1.heap.size, 1, none⟩ = some (.int .i64 (takeNum (takeNum r).2).1) := by rw [cell_of HLOC4.out]; rfl
  have r1 : (w4.setCell ⟨w1.heap.size, 11, none⟩ (.slice A1 n1 c1)).cell? ⟨w.heap.size, 1, none⟩ = some (.int .i64 0) := by rw [cell_of HRES4.out]; rfl
  have f1 : (w4.setCell ⟨w1.heap.size, 11, none⟩ (.slice A1 n1 c1)).frozen? ⟨w.heap.size, 1, none⟩ = false := frozen_of HRES4.out 1
  have a2 : (w4.setCell ⟨w1.heap.size, 11, none⟩ (.slice A1 n1 c1)).cell? ⟨w1.heap.size, 2, none⟩ = some (.int .i64 (takeCmd (takeNum (takeNum r).2).2).1.kind) := by rw [cell_of HLOC4.out]; rfl
  have r2 : (w4.setCell ⟨w1.heap.size, 11, none⟩ (.slice A1 n1 c1)).cell? ⟨w.heap.size, 2, none⟩ = some (.int .i64 0) := by rw [cell_of HRES4.out]; rfl
  have f2 : (w4.setCell ⟨w1.heap.size, 11, none⟩ (.slice A1 n1 c1)).frozen? ⟨w.heap.size, 2, none⟩ = false := frozen_of HRES4.out 2
  have a3 : (w4.setCell ⟨w1.heap.size, 11, none⟩ (.slice A1 n1 c1)).cell? ⟨w1.heap.size, 3, none⟩ = some (.int .i64 (takeCmd (takeNum (takeNum r).2).2).1.tx) := by rw [cell_of HLOC4.out]; rfl
  have r3 : (w4.setCell ⟨w1.heap.size, 11, none⟩ (.slice A1 n1 c1)).cell? ⟨w.heap.size, 3, none⟩ = some (.int .i64 0) := by rw [cell_of HRES4.out]; rfl
  have f3 : (w4.setCell ⟨w1.heap.size, 11, none⟩ (.slice A1 n1 c1)).frozen? ⟨w.heap.size, 3, none⟩ = false := frozen_of HRES4.out 3
  have a4 : (w4.setCell ⟨w1.heap.size, 11, none⟩ (.slice A1 n1 c1)).cell? ⟨w1.heap.size, 4, none⟩ = some (.int .i64 (takeCmd (takeNum (takeNum r).2).2).1.attempt) := by rw [cell_of HLOC4.out]; rfl
  have r4 : (w4.setCell ⟨w1.heap.size, 11, none⟩ (.slice A1 n1 c1)).cell? ⟨w.heap.size, 4, none⟩ = some (.int .i64 0) := by rw [cell_of HRES4.out]; rfl
  have f4 : (w4.setCell ⟨w1.heap.size, 11, none⟩ (.slice A1 n1 c1)).frozen? ⟨w.heap.size, 4, none⟩ = false := frozen_of HRES4.out 4
  have a5 : (w4.setCell ⟨w1.heap.size, 11, none⟩ (.slice A1 n1 c1)).cell? ⟨w1.heap.size, 5, none⟩ = some (.int .i64 (takeCmd (takeNum (takeNum r).2).2).1.stamp) := by rw [cell_of HLOC4.out]; rfl
  have r5 : (w4.setCell ⟨w1.heap.size, 11, none⟩ (.slice A1 n1 c1)).cell? ⟨w.heap.size, 5, none⟩ = some (.int .i64 0) := by rw [cell_of HRES4.out]; rfl
  have f5 : (w4.setCell ⟨w1.heap.size, 11, none⟩ (.slice A1 n1 c1)).frozen? ⟨w.heap.size, 5, none⟩ = false := frozen_of HRES4.out 5
  have a6 : (w4.setCell ⟨w1.heap.size, 11, none⟩ (.slice A1 n1 c1)).cell? ⟨w1.heap.size, 6, none⟩ = some (.int .i64 (takeCmd (takeNum (takeNum r).2).2).1.op) := by rw [cell_of HLOC4.out]; rfl
  have r6 : (w4.setCell ⟨w1.heap.size, 11, none⟩ (.slice A1 n1 c1)).cell? ⟨w.heap.size, 6, none⟩ = some (.int .i64 0) := by rw [cell_of HRES4.out]; rfl
  have f6 : (w4.setCell ⟨w1.heap.size, 11, none⟩ (.slice A1 n1 c1)).frozen? ⟨w.heap.size, 6, none⟩ = false := frozen_of HRES4.out 6
  have a7 : (w4.setCell ⟨w1.heap.size, 11, none⟩ (.slice A1 n1 c1)).cell? ⟨w1.heap.size, 7, none⟩ = some (.string ⟨(takeCmd (takeNum (takeNum r).2).2).1.key.toArray⟩) := by rw [cell_of HLOC4.out]; rfl
  have r7 : (w4.setCell ⟨w1.heap.size, 11, none⟩ (.slice A1 n1 c1)).cell? ⟨w.heap.size, 7, none⟩ = some (.string { data := #[] }) := by rw [cell_of HRES4.out]; rfl
  have f7 : (w4.setCell ⟨w1.heap.size, 11, none⟩ (.slice A1 n1 c1)).frozen? ⟨w.heap.size, 7, none⟩ = false := frozen_of HRES4.out 7
  have a8 : (w4.setCell ⟨w1.heap.size, 11, none⟩ (.slice A1 n1 c1)).cell? ⟨w1.heap.size, 8, none⟩ = some (.string ⟨(takeCmd (takeNum (takeNum r).2).2).1.value.toArray⟩) := by rw [cell_of HLOC4.out]; rfl
  have r8 : (w4.setCell ⟨w1.heap.size, 11, none⟩ (.slice A1 n1 c1)).cell? ⟨w.heap.size, 8, none⟩ = some (.string { data := #[] }) := by rw [cell_of HRES4.out]; rfl
  have f8 : (w4.setCell ⟨w1.heap.size, 11, none⟩ (.slice A1 n1 c1)).frozen? ⟨w.heap.size, 8, none⟩ = false := frozen_of HRES4.out 8
  have a9 : (w4.setCell ⟨w1.heap.size, 11, none⟩ (.slice A1 n1 c1)).cell? ⟨w1.heap.size, 9, none⟩ = some (.int .i64 (takeCmd (takeNum (takeNum r).2).2).1.mode) := by rw [cell_of HLOC4.out]; rfl
  have r9 : (w4.setCell ⟨w1.heap.size, 11, none⟩ (.slice A1 n1 c1)).cell? ⟨w.heap.size, 9, none⟩ = some (.int .i64 0) := by rw [cell_of HRES4.out]; rfl
  have f9 : (w4.setCell ⟨w1.heap.size, 11, none⟩ (.slice A1 n1 c1)).frozen? ⟨w.heap.size, 9, none⟩ = false := frozen_of HRES4.out 9
  have a10 : (w4.setCell ⟨w1.heap.size, 11, none⟩ (.slice A1 n1 c1)).cell? ⟨w1.heap.size, 10, none⟩ = some (.bool (takeCmd (takeNum (takeNum r).2).2).1.yes) := by rw [cell_of HLOC4.out]; rfl
  have r10 : (w4.setCell ⟨w1.heap.size, 11, none⟩ (.slice A1 n1 c1)).cell? ⟨w.heap.size, 10, none⟩ = some (.bool false) := by rw [cell_of HRES4.out]; rfl
  have f10 : (w4.setCell ⟨w1.heap.size, 11, none⟩ (.slice A1 n1 c1)).frozen? ⟨w.heap.size, 10, none⟩ = false := frozen_of HRES4.out 10
  have a11 : (w4.setCell ⟨w1.heap.size, 11, none⟩ (.slice A1 n1 c1)).cell? ⟨w1.heap.size, 11, none⟩ = some (.slice A1 n1 c1) := by rw [cell_of HLOC4.out]; rfl
  have r11 : (w4.setCell ⟨w1.heap.size, 11, none⟩ (.slice A1 n1 c1)).cell? ⟨w.heap.size, 11, none⟩ = some (.slice none 0 0) := by rw [cell_of HRES4.out]; rfl
  have f11 : (w4.setCell ⟨w1.heap.size, 11, none⟩ (.slice A1 n1 c1)).frozen? ⟨w.heap.size, 11, none⟩ = false := frozen_of HRES4.out 11
  go_wp2_with fail
  refine bodyPost_ret (v := .agg #[.int .i64 (takeNum r).1, .int .i64 (takeNum (takeNum r).2).1, .int .i64 (takeCmd (takeNum (takeNum r).2).2).1.kind, .int .i64 (takeCmd (takeNum (takeNum r).2).2).1.tx, .int .i64 (takeCmd (takeNum (takeNum r).2).2).1.attempt, .int .i64 (takeCmd (takeNum (takeNum r).2).2).1.stamp, .int .i64 (takeCmd (takeNum (takeNum r).2).2).1.op, .string ⟨(takeCmd (takeNum (takeNum r).2).2).1.key.toArray⟩, .string ⟨(takeCmd (takeNum (takeNum r).2).2).1.value.toArray⟩, .int .i64 (takeCmd (takeNum (takeNum r).2).2).1.mode, .bool (takeCmd (takeNum (takeNum r).2).2).1.yes, .slice A1 n1 c1]) ?_ rfl ?_
  · simp [results, Tryz.results46, go_sem, r0, r1, r2, r3, r4, r5, r6, r7, r8, r9, r10, r11]
  have hset : Upd (fun k => k = w.heap.size) (w4.setCell ⟨w1.heap.size, 11, none⟩ (.slice A1 n1 c1)) (((((((((((((w4.setCell ⟨w1.heap.size, 11, none⟩ (.slice A1 n1 c1)).setCell ⟨w.heap.size, 0, none⟩ (.int .i64 (takeNum r).1)).setCell ⟨w.heap.size, 1, none⟩ (.int .i64 (takeNum (takeNum r).2).1)).setCell ⟨w.heap.size, 2, none⟩ (.int .i64 (takeCmd (takeNum (takeNum r).2).2).1.kind)).setCell ⟨w.heap.size, 3, none⟩ (.int .i64 (takeCmd (takeNum (takeNum r).2).2).1.tx)).setCell ⟨w.heap.size, 4, none⟩ (.int .i64 (takeCmd (takeNum (takeNum r).2).2).1.attempt)).setCell ⟨w.heap.size, 5, none⟩ (.int .i64 (takeCmd (takeNum (takeNum r).2).2).1.stamp)).setCell ⟨w.heap.size, 6, none⟩ (.int .i64 (takeCmd (takeNum (takeNum r).2).2).1.op)).setCell ⟨w.heap.size, 7, none⟩ (.string ⟨(takeCmd (takeNum (takeNum r).2).2).1.key.toArray⟩)).setCell ⟨w.heap.size, 8, none⟩ (.string ⟨(takeCmd (takeNum (takeNum r).2).2).1.value.toArray⟩)).setCell ⟨w.heap.size, 9, none⟩ (.int .i64 (takeCmd (takeNum (takeNum r).2).2).1.mode)).setCell ⟨w.heap.size, 10, none⟩ (.bool (takeCmd (takeNum (takeNum r).2).2).1.yes)).setCell ⟨w.heap.size, 11, none⟩ (.slice A1 n1 c1)) := (Upd.trans (Upd.trans (Upd.trans (Upd.trans (Upd.trans (Upd.trans (Upd.trans (Upd.trans (Upd.trans (Upd.trans (Upd.trans (Upd.set (w4.setCell ⟨w1.heap.size, 11, none⟩ (.slice A1 n1 c1)) w.heap.size 0 (.int .i64 (takeNum r).1)) (Upd.set _ w.heap.size 1 (.int .i64 (takeNum (takeNum r).2).1)) (fun k g => .inl g)) (Upd.set _ w.heap.size 2 (.int .i64 (takeCmd (takeNum (takeNum r).2).2).1.kind)) (fun k g => .inl g)) (Upd.set _ w.heap.size 3 (.int .i64 (takeCmd (takeNum (takeNum r).2).2).1.tx)) (fun k g => .inl g)) (Upd.set _ w.heap.size 4 (.int .i64 (takeCmd (takeNum (takeNum r).2).2).1.attempt)) (fun k g => .inl g)) (Upd.set _ w.heap.size 5 (.int .i64 (takeCmd (takeNum (takeNum r).2).2).1.stamp)) (fun k g => .inl g)) (Upd.set _ w.heap.size 6 (.int .i64 (takeCmd (takeNum (takeNum r).2).2).1.op)) (fun k g => .inl g)) (Upd.set _ w.heap.size 7 (.string ⟨(takeCmd (takeNum (takeNum r).2).2).1.key.toArray⟩)) (fun k g => .inl g)) (Upd.set _ w.heap.size 8 (.string ⟨(takeCmd (takeNum (takeNum r).2).2).1.value.toArray⟩)) (fun k g => .inl g)) (Upd.set _ w.heap.size 9 (.int .i64 (takeCmd (takeNum (takeNum r).2).2).1.mode)) (fun k g => .inl g)) (Upd.set _ w.heap.size 10 (.bool (takeCmd (takeNum (takeNum r).2).2).1.yes)) (fun k g => .inl g)) (Upd.set _ w.heap.size 11 (.slice A1 n1 c1)) (fun k g => .inl g))
  refine ⟨⟨_, rfl, ?_⟩, ST4.out.upd' hset fun k g => by rw [g]; exact Nat.le_refl _⟩
  have hfs := hset.size
  have hc1 := HC1_4.out.trans hset fun k g => .inl (.inr (.inr g))
  have hcs1 := hc1.size
  simp only [World.setCell_size', World.heap_size_alloc'] at *
  exact ⟨_, rfl, hk1, hk2, HR1.out.imp (fun k hk => ⟨by have := hk.1; omega, Nat.lt_of_lt_of_le hk.2 hcs1⟩) (fun a ha => hc1.cellEq ha.2 (fun g => by have := ha.1; omega)) (fun _ _ h => h)⟩
end Go.Proofs.YtllkjfadeaoicaaGreat

set_option linter.unusedVariables false
set_option linter.unusedSimpArgs false
namespace Go.Proofs.YtllkjfadeaoicaaGreat
open Go.RowKit
theorem info_Live : (Tryz.prog.info? 121).map (fun i => (i.zero, i.size, i.bytes)) = some (some (.agg #[.int .i64 0, .int .i64 0, .int .i64 0, .int .i64 0, .int .i64 0, .int .i64 0, .int .i64 0, .string { data := #[] }, .string { data := #[] }, .int .i64 0, .bool false, .slice none 0 0]), 12, 128) := by kernel_rfl
set_option maxHeartbeats 1600000 in
set_option maxRecDepth 100000 in
theorem takes_Live (rb : Nat) (r : Rdr) (w : World) (h : RdrAt w rb r) :
    Calls Tryz.prog 45 #[.pointer (some ⟨rb, 0, none⟩), .func (.func 46) #[] #[]] w (TookL w rb elLive 12 (takeList takeLive r)) := by
  have hlt := h.lt
  have ST0 := Lib.hid (InTake.start h)
  clear h
  go_enter Tryz.func45, Tryz.ntmps45
  go_wp2_with fail
  refine (rdr_Int rb r 0 65535 w ST0.out.rdr).mono ?_
  rintro e w1 ⟨rfl, p1, p2⟩
  have hn0 := takeInt_range r
  have HN := Lib.hid (show takeList takeLive r = takeN takeLive (takeInt 0 65535 r).1.toNat (takeInt 0 65535 r).2 from rfl)
  have ST1 := Lib.hid (ST0.out.step p1 (upd_one p2)); clear p1 p2
  generalize (takeInt 0 65535 r).1 = nn at *
  generalize (takeInt 0 65535 r).2 = r1 at *
  obtain ⟨n0, rfl⟩ := Int.eq_ofNat_of_zero_le hn0.1
  rw [Int.toNat_natCast] at HN
  have LP0 := Lib.hid (InLoop.start (el := elLive) (one := takeLive) (E := 121) (sz := 12) ST1.out (show n0 ≤ 65535 by omega))
  clear hn0
  go_wp2_with fail
  go_loopw [5, 6] (fun out i wr => ∃ (m : Nat) (xs : List Live) (css : List (List Value)) (r2 : Rdr), i = .int .i64 m ∧ InLoop w wr rb takeLive elLive 121 12 n0 r1 out m xs css r2) (fun _ i _ => (intOf i).toNat)
  case atStart => exact ⟨n0, [], [], r1, rfl, LP0.out⟩
  case round =>
    obtain ⟨m, xs, css, r2, rfl, lp⟩ := hrel
    have hfew := lp.few
    have LP := Lib.hid lp; clear lp
    have HF := Lib.hid (rdr_Fail rb r2 wr LP.out.tk.rdr)
    by_cases hm : 0 < m
    · by_cases hb : r2.bad = true
      · rw [hb] at HF
        have HB := Lib.hid hb; clear hb
        go_wp2_with (go_at_call 100; refine HF.out.mono ?_; rintro e w' ⟨rfl, rfl⟩)
        go_ret
        exact LP.out.done keep_Live (.inr HB.out) HN.out
      · have hb : r2.bad = false := by simpa using hb
        rw [hb] at HF
        have HB := Lib.hid hb; clear hb
        obtain ⟨m, rfl⟩ : ∃ k, m = k + 1 := ⟨m - 1, by omega⟩
        have HT := Lib.hid (take_Live rb r2 wr LP.out.tk.rdr)
        go_wp2_with (first
          | (go_at_call 100; refine HF.out.mono ?_; rintro e w' ⟨rfl, rfl⟩)
          | (go_at_call 46; refine HT.out.mono ?_; rintro e w2 ⟨⟨cs, rfl, hel⟩, tk⟩; have hel0 := hel; obtain ⟨q1, rfl, _, _, hr1⟩ := hel; obtain ⟨A1, n1, c1, rfl⟩ := hr1.form; clear hr1; simp only [str] at hel0 ⊢; have HEL := Lib.hid hel0; clear hel0; have OWN := Lib.hid (own_keep tk.upd LP.out.own (fun k hk e => by have := LP.out.fresh k hk; omega)); have TK := Lib.hid tk; clear tk)
          | (at_builtin; refine app_one rfl _ _ 30 121 (.agg #[.int .i64 0, .int .i64 0, .int .i64 0, .int .i64 0, .int .i64 0, .int .i64 0, .int .i64 0, .string { data := #[] }, .string { data := #[] }, .int .i64 0, .bool false, .slice none 0 0]) 12 128 rfl Tryz.underlying30 info_Live rfl (by decide) (by decide) u5 xs.length css.flatten [.int .i64 (takeLive r2).1.tx, .int .i64 (takeLive r2).1.attempt, .int .i64 (takeLive r2).1.last.kind, .int .i64 (takeLive r2).1.last.tx, .int .i64 (takeLive r2).1.last.attempt, .int .i64 (takeLive r2).1.last.stamp, .int .i64 (takeLive r2).1.last.op, .string ⟨(takeLive r2).1.last.key.toArray⟩, .string ⟨(takeLive r2).1.last.value.toArray⟩, .int .i64 (takeLive r2).1.last.mode, .bool (takeLive r2).1.last.yes, .slice A1 n1 c1] rfl rfl rfl rfl OWN.out (by omega) ?_; intro v1 w3 hown1 hg1; have HO1 := Lib.hid hown1; have HG1 := Lib.hid hg1; clear hown1 hg1))
        go_roundw
        case rel => exact ⟨m, _, _, _, by go_num, LP.out.next keep_Live HB.out HEL.out rfl TK.out HO1.out HG1.out⟩
        case measure => (simp [intOf]; try omega)
    · obtain rfl : m = 0 := by omega
      go_wp2_with fail
      go_ret
      exact LP.out.done keep_Live (.inl rfl) HN.out


end Go.Proofs.YtllkjfadeaoicaaGreat

set_option linter.unusedVariables false
set_option linter.unusedSimpArgs false
namespace Go.Proofs.YtllkjfadeaoicaaGreat
open Go.RowKit

/-- block wb is a writer: v is its row, with these bytes; all of it lies from B on -/
structure WrAt (w : World) (wb : Nat) (v : Value) (l : Bs) (long : Bool) (B : Nat) : Prop where
  heap : w.heap[wb]? = some (.cells #[v, .bool long] 129 (0, 0))
  row : w.ownsRow 0 5 1 v l.length (u8s l)
  ne : v.ownBlock ≠ some wb
  base : B ≤ wb
  baseV : ∀ k, v.ownBlock = some k → B ≤ k
/-- what putting does -/
def Puts (w : World) (wb : Nat) (v : Value) (l : Bs) (long : Bool) (B : Nat) (e : Ending) (w' : World) : Prop :=
  e = .returned (.tuple #[]) ∧ (∃ v', WrAt w' wb v' l long B ∧ (v'.ownBlock = v.ownBlock ∨ ∃ k, v'.ownBlock = some k ∧ w.heap.size ≤ k)) ∧ Upd (fun k => k = wb ∨ v.ownBlock = some k) w w'

theorem WrAt.lt {w : World} {wb : Nat} {v : Value} {l : Bs} {long : Bool} {B : Nat} (h : WrAt w wb v l long B) : wb < w.heap.size := lt_of_heap h.heap
theorem WrAt.vlt {w : World} {wb : Nat} {v : Value} {l : Bs} {long : Bool} {B : Nat} (h : WrAt w wb v l long B) : ∀ k, v.ownBlock = some k → k < w.heap.size := fun k hk => (h.row.lt k hk).2
/-- what writes neither to the writer nor to its row -/
theorem WrAt.keep {w w' : World} {wb : Nat} {v : Value} {l : Bs} {long : Bool} {B : Nat} (h : WrAt w wb v l long B) {S : Nat → Prop} (hu : Upd S w w') (h1 : ¬ S wb) (h2 : ∀ k, v.ownBlock = some k → ¬ S k) : WrAt w' wb v l long B :=
  ⟨hu.heap h.heap h1, own_keep hu h.row h2, h.ne, h.base, h.baseV⟩
theorem WrAt.alloc {w : World} {wb : Nat} {v : Value} {l : Bs} {long : Bool} {B : Nat} (h : WrAt w wb v l long B) (o : Obj) : WrAt (w.alloc o) wb v l long B :=
  h.keep (Upd.alloc (fun _ => False) w o) (fun g => g) (fun _ _ g => g)
/-- another row in the writer -/
theorem WrAt.put {w w1 : World} {wb : Nat} {v v1 : Value} {l l1 : Bs} {long : Bool} {B : Nat} (h : WrAt w wb v l long B) (hg : Grows w w1 v v1) (hr : w1.ownsRow 0 5 1 v1 l1.length (u8s l1)) :
    WrAt (w1.setCell ⟨wb, 0, none⟩ v1) wb v1 l1 long B ∧ Upd (fun k => k = wb ∨ v.ownBlock = some k) w (w1.setCell ⟨wb, 0, none⟩ v1) := by
  have h1 : w1.heap[wb]? = some (.cells #[v, .bool long] 129 (0, 0)) := heap_keep hg.g h.heap (fun e => h.ne e.symm)
  have hne : v1.ownBlock ≠ some wb := by
    rcases hg.b with e | ⟨k, e, hk⟩
    · rw [e]; exact h.ne
    · rw [e]; intro g; cases g; have := h.lt; omega
  have hb1 : ∀ k, v1.ownBlock = some k → B ≤ k := by
    intro k hk
    rcases hg.b with e | ⟨k', e, hk'⟩
    · exact h.baseV k (e ▸ hk)
    · rw [e] at hk; cases hk; have := h.lt; have := h.base; omega
  exact ⟨⟨heap_set h1 0 v1, hr.kept (grownBy_set w1 wb 0 v1) (.inr hne), hne, h.base, hb1⟩,
    ((Upd.of_grown hg.g).mono fun k e => .inl (.inr e)).trans (Upd.set w1 wb 0 v1) fun k e => .inl (.inl e)⟩
theorem WrAt.flag {w : World} {wb : Nat} {v : Value} {l : Bs} {long : Bool} {B : Nat} (h : WrAt w wb v l long B) (long' : Bool) :
    WrAt (w.setCell ⟨wb, 1, none⟩ (.bool long')) wb v l long' B ∧ Upd (fun k => k = wb ∨ v.ownBlock = some k) w (w.setCell ⟨wb, 1, none⟩ (.bool long')) :=
  ⟨⟨heap_set h.heap 1 _, h.row.kept (grownBy_set w wb 1 _) (.inr h.ne), h.ne, h.base, h.baseV⟩, (Upd.set w wb 1 _).mono fun k e => .inl (.inl e)⟩
/-- one put behind another -/
theorem upd_put {w w1 w2 : World} {wb : Nat} {v v1 : Value} (h : Upd (fun k => k = wb ∨ v.ownBlock = some k) w w1) (hv : v1.ownBlock = v.ownBlock ∨ ∃ k, v1.ownBlock = some k ∧ w.heap.size ≤ k)
    (g : Upd (fun k => k = wb ∨ v1.ownBlock = some k) w1 w2) : Upd (fun k => k = wb ∨ v.ownBlock = some k) w w2 :=
  h.trans g fun k hk => by
    rcases hk with e | e
    · exact .inl (.inl e)
    · rcases hv with f | ⟨x, f, hx⟩
      · exact .inl (.inr (f ▸ e))
      · rw [f] at e; cases e; exact .inr hx
theorem grown_ref {w w1 : World} {v v1 v2 : Value} (h1 : v1.ownBlock = v.ownBlock ∨ ∃ x, v1.ownBlock = some x ∧ w.heap.size ≤ x) (h2 : v2.ownBlock = v1.ownBlock ∨ ∃ x, v2.ownBlock = some x ∧ w1.heap.size ≤ x) (hs : w.heap.size ≤ w1.heap.size) :
    v2.ownBlock = v.ownBlock ∨ ∃ x, v2.ownBlock = some x ∧ w.heap.size ≤ x := by
  rcases h2 with e | ⟨x, e, hx⟩
  · rw [e]; exact h1
  · exact .inr ⟨x, e, Nat.le_trans hs hx⟩

theorem enc_ints_length : ∀ ns : List Int, (ns.flatMap encInt).length = 8 * ns.length
  | [] => rfl
  | n :: ns => by rw [List.flatMap_cons, List.length_append, enc_ints_length ns, encInt_length, List.length_cons]; omega
theorem flat_snoc (ns : List Int) (k : Nat) (h : k < ns.length) : (ns.take (k + 1)).flatMap encInt = (ns.take k).flatMap encInt ++ encInt (ns.getD k 0) := by
  rw [List.take_succ_eq_append_getElem h, List.flatMap_append]
  simp [List.getD_eq_getElem?_getD, List.getElem?_eq_getElem h]
set_option maxHeartbeats 800000 in
theorem wr_ints (wb : Nat) (v : Value) (l : Bs) (long : Bool) (B : Nat) (ab ao : Nat) (ns : List Int) (w : World) (h : WrAt w wb v l long B) (hab : ab ≠ wb) (habv : v.ownBlock ≠ some ab) (hab0 : ab < w.heap.size)
    (hc : ∀ j, j < ns.length → w.cell? ⟨ab, ao + j, none⟩ = some (.int .i64 (ns.getD j 0))) (hl : l.length + 8 * ns.length ≤ 1099511627776) (m : Nat) (hm : ns.length = m) (c : Nat) :
    Calls Tryz.prog 50 #[.pointer (some ⟨wb, 0, none⟩), .slice (some ⟨ab, ao, none⟩) m c] w (Puts w wb v (l ++ ns.flatMap encInt) long B) := by
  have HW := Lib.hid h; have HC := Lib.hid hc; have HV := Lib.hid habv; have HM := Lib.hid hm
  clear h hc habv
  rw [hm] at hl
  clear hm
  go_enter Tryz.func50, Tryz.ntmps50
  go_wp2_with fail
  go_loopw [8] (fun i wr => ∃ (k : Nat) (v1 : Value), k ≤ m ∧ i = .int .i64 k ∧ WrAt wr wb v1 (l ++ (ns.take k).flatMap encInt) long B ∧ Upd (fun k => k = wb ∨ v.ownBlock = some k) w wr ∧ (v1.ownBlock = v.ownBlock ∨ ∃ x, v1.ownBlock = some x ∧ w.heap.size ≤ x) ∧ wr.heap[ab]? = w.heap[ab]?) (fun i _ => m - (intOf i).toNat)
  case atStart => exact ⟨0, v, Nat.zero_le _, rfl, by simpa using HW.out, Upd.refl _ _, .inl rfl, rfl⟩
  case round =>
    obtain ⟨k, v1, hk, rfl, hwr, hbl, hv1, hab1⟩ := hrel
    have HWR := Lib.hid hwr; have HBL := Lib.hid hbl; have HV1 := Lib.hid hv1; have HAB := Lib.hid hab1
    clear hwr hbl hv1 hab1
    by_cases hlt : k < m
    · have hcell : wr.cell? ⟨ab, ao + k, none⟩ = some (.int .i64 (ns.getD k 0)) := (World.cell?_of_block (w := w) HAB.out).trans (HC.out k (by rw [HM.out]; exact hlt))
      have c0 : wr.cell? ⟨wb, 0, none⟩ = some v1 := by rw [cell_of HWR.out.heap]; rfl
      have hlen : (l ++ (ns.take k).flatMap encInt).length ≤ 1099511627776 := by
        have := enc_ints_length (ns.take k)
        simp only [List.length_append, this, List.length_take]; omega
      have HX := Lib.hid (flat_snoc ns k (by rw [HM.out]; exact hlt))
      have HI := Lib.hid (word_Int v1 (l ++ (ns.take k).flatMap encInt) (ns.getD k 0) wr HWR.out.row hlen)
      have hvn : v1.ownBlock ≠ some ab := by
        rcases HV1.out with e | ⟨x, e, hx⟩
        · rw [e]; exact HV.out
        · rw [e]; intro g; cases g; omega
      have HVN := Lib.hid hvn
      clear hvn hlen
      generalize ns.getD k 0 = n0 at *
      go_wp2_with (go_at_call 83; refine HI.out.mono ?_; rintro e w1 ⟨v2, rfl, q1, q2⟩; obtain ⟨A2, n2, c2, rfl⟩ := own_form q1; have c1 : w1.cell? ⟨wb, 0, none⟩ = some v1 := q2.g.cell c0 (fun e => HWR.out.ne e.symm); have f1 : w1.frozen? ⟨wb, 0, none⟩ = false := frozen_of (heap_keep q2.g HWR.out.heap (fun e => HWR.out.ne e.symm)) 0; have Q1 := Lib.hid q1; have Q2 := Lib.hid q2; clear q1 q2)
      obtain ⟨p1, p2⟩ := HWR.out.put Q2.out Q1.out
      go_roundw
      case rel =>
        refine ⟨k + 1, .slice A2 n2 c2, by omega, by go_num, ?_, upd_put HBL.out HV1.out p2, ?_, ?_⟩
        · rw [HX.out, ← List.append_assoc]; exact p1
        · exact grown_ref HV1.out Q2.out.b HBL.out.size
        · rw [Below.heap_setCell _ _ _ _ (by exact hab), Q2.out.g.block ab (Nat.lt_of_lt_of_le hab0 HBL.out.size) (fun e => HVN.out e.symm)]; exact HAB.out
      case measure => simp [intOf]; omega
    · obtain rfl : k = m := by omega
      have ht : ns.take k = ns := List.take_of_length_le (by rw [HM.out]; omega)
      rw [ht] at HWR
      go_wp2_with fail
      go_end0
      exact ⟨rfl, ⟨v1, HWR.out, HV1.out⟩, HBL.out⟩

set_option maxHeartbeats 800000 in
set_option maxRecDepth 100000 in
theorem wr_text (wb : Nat) (v : Value) (l s : Bs) (long : Bool) (B : Nat) (w : World) (h : WrAt w wb v l long B) (hl : l.length ≤ 1099511627776) (hs : s.length ≤ 140737488355327) :
    Calls Tryz.prog 109 #[.pointer (some ⟨wb, 0, none⟩), .string ⟨s.toArray⟩] w (Puts w wb v (l ++ encText s) (long || longText s) B) := by
  have hsz : (⟨s.toArray⟩ : ByteArray).size = s.length := by simp [ByteArray.size]
  have HF (b : Bool) := h.flag b
  have HW := Lib.hid HF; clear HF
  have c0 : w.cell? ⟨wb, 0, none⟩ = some v := by rw [cell_of h.heap]; rfl
  have c1 : w.cell? ⟨wb, 1, none⟩ = some (.bool long) := by rw [cell_of h.heap]; rfl
  have f0 : w.frozen? ⟨wb, 0, none⟩ = false := frozen_of h.heap 0
  have f1 : w.frozen? ⟨wb, 1, none⟩ = false := frozen_of h.heap 1
  have HN := Lib.hid h.ne
  clear h
  have fin (b : Bool) (w1 : World) (v2 : Value) (q1 : w1.ownsRow 0 5 1 v2 (l ++ encText s).length (u8s (l ++ encText s))) (q2 : Grows (w.setCell ⟨wb, 1, none⟩ (.bool b)) w1 v v2) :
      Puts w wb v (l ++ encText s) b B (.returned (.tuple #[])) (w1.setCell ⟨wb, 0, none⟩ v2) := by
    obtain ⟨p1, p2⟩ := (HW.out b).1.put q2 q1
    refine ⟨rfl, ⟨v2, p1, ?_⟩, upd_put (HW.out b).2 (.inl rfl) p2⟩
    rcases q2.b with e | ⟨x, e, hx⟩
    · exact .inl e
    · exact .inr ⟨x, e, by simpa using hx⟩
  have FIN := Lib.hid fin; clear fin
  cases long with
  | true =>
    have HI := Lib.hid (word_Text v l s (w.setCell ⟨wb, 1, none⟩ (.bool true)) (HW.out true).1.row hl hs)
    have hk (w1 : World) (v2 : Value) (q2 : Grows (w.setCell ⟨wb, 1, none⟩ (.bool true)) w1 v v2) := heap_keep q2.g (HW.out true).1.heap (fun e => HN.out e.symm)
    have HK := Lib.hid hk; clear hk
    go_enter Tryz.func109, Tryz.ntmps109
    go_wp2_with (go_at_call 88; go_must (refine HI.out.mono ?_); rintro e w1 ⟨v2, rfl, q1, q2⟩; obtain ⟨A2, n2, c2, rfl⟩ := own_form q1; have d1 : w1.cell? ⟨wb, 0, none⟩ = some v := by { rw [cell_of (HK.out _ _ q2)]; rfl }; have e1 : w1.frozen? ⟨wb, 0, none⟩ = false := frozen_of (HK.out _ _ q2) 0; have Q1 := Lib.hid q1; have Q2 := Lib.hid q2; clear q1 q2)
    go_end0
    exact FIN.out _ _ _ Q1.out Q2.out
  | false =>
    have hlt : longText s = decide (65535 < (s.length : Int)) := by
      unfold longText; rw [Bool.eq_iff_iff]; simp; omega
    rw [hlt, Bool.false_or]
    clear hlt
    have HI := Lib.hid (word_Text v l s (w.setCell ⟨wb, 1, none⟩ (.bool (decide (65535 < (s.length : Int))))) (HW.out (decide (65535 < (s.length : Int)))).1.row hl hs)
    have hk (w1 : World) (v2 : Value) (q2 : Grows (w.setCell ⟨wb, 1, none⟩ (.bool (decide (65535 < (s.length : Int))))) w1 v v2) := heap_keep q2.g (HW.out (decide (65535 < (s.length : Int)))).1.heap (fun e => HN.out e.symm)
    have HK := Lib.hid hk; clear hk
    go_enter Tryz.func109, Tryz.ntmps109
    go_wp2_with (go_at_call 88; go_must (refine HI.out.mono ?_); rintro e w1 ⟨v2, rfl, q1, q2⟩; obtain ⟨A2, n2, c2, rfl⟩ := own_form q1; have d1 : w1.cell? ⟨wb, 0, none⟩ = some v := by { rw [cell_of (HK.out _ _ q2)]; rfl }; have e1 : w1.frozen? ⟨wb, 0, none⟩ = false := frozen_of (HK.out _ _ q2) 0; have Q1 := Lib.hid q1; have Q2 := Lib.hid q2; clear q1 q2)
    go_end0
    exact FIN.out _ _ _ Q1.out Q2.out

set_option maxHeartbeats 800000 in
theorem wr_yes (wb : Nat) (v : Value) (l : Bs) (y long : Bool) (B : Nat) (w : World) (h : WrAt w wb v l long B) (hl : l.length ≤ 1099511627776) :
    Calls Tryz.prog 169 #[.pointer (some ⟨wb, 0, none⟩), .bool y] w (Puts w wb v (l ++ encBool y) long B) := by
  have c0 : w.cell? ⟨wb, 0, none⟩ = some v := by rw [cell_of h.heap]; rfl
  have f0 : w.frozen? ⟨wb, 0, none⟩ = false := frozen_of h.heap 0
  have HW := Lib.hid h; clear h
  have HI := Lib.hid (word_Bool v l y w HW.out.row hl)
  have hk (w1 : World) (v2 : Value) (q2 : Grows w w1 v v2) := heap_keep q2.g HW.out.heap (fun e => HW.out.ne e.symm)
  have HK := Lib.hid hk; clear hk
  go_enter Tryz.func169, Tryz.ntmps169
  go_wp2_with (go_at_call 155; refine HI.out.mono ?_; rintro e w1 ⟨v2, rfl, q1, q2⟩; obtain ⟨A2, n2, c2, rfl⟩ := own_form q1; have d1 : w1.cell? ⟨wb, 0, none⟩ = some v := by { rw [cell_of (HK.out _ _ q2)]; rfl }; have e1 : w1.frozen? ⟨wb, 0, none⟩ = false := frozen_of (HK.out _ _ q2) 0; have Q1 := Lib.hid q1; have Q2 := Lib.hid q2; clear q1 q2)
  go_end0
  obtain ⟨p1, p2⟩ := HW.out.put Q2.out Q1.out
  exact ⟨rfl, ⟨_, p1, Q2.out.b⟩, p2⟩
end Go.Proofs.YtllkjfadeaoicaaGreat

set_option linter.unusedVariables false
set_option linter.unusedSimpArgs false
namespace Go.Proofs.YtllkjfadeaoicaaGreat
open Go.RowKit

structure InPut (w wr : World) (wb : Nat) (v v1 : Value) (l1 : Bs) (long1 : Bool) (B : Nat) (bx : Array Value) (T : TypeId) : Prop where
  wat : WrAt wr wb v1 l1 long1 B
  ref : v1.ownBlock = v.ownBlock ∨ ∃ x, v1.ownBlock = some x ∧ w.heap.size ≤ x
  ne : v1.ownBlock ≠ some w.heap.size
  wlt : wb < w.heap.size
  upd : Upd (fun k => k = wb ∨ v.ownBlock = some k) w wr
  box : wr.heap[w.heap.size]? = some (.cells bx T (0, 0))
theorem InPut.start {w : World} {wb : Nat} {v : Value} {l : Bs} {long : Bool} {B : Nat} (h : WrAt w wb v l long B) (bx : Array Value) (T : TypeId) : InPut w (w.alloc (.cells bx T)) wb v v l long B bx T :=
  ⟨h.alloc _, .inl rfl, fun g => by have := h.vlt _ g; omega, h.lt, Upd.alloc _ w _, heap_alloc_new w _⟩
theorem InPut.alloc {w wr : World} {wb : Nat} {v v1 : Value} {l1 : Bs} {long1 : Bool} {B : Nat} {bx : Array Value} {T : TypeId} (h : InPut w wr wb v v1 l1 long1 B bx T) (o : Obj) : InPut w (wr.alloc o) wb v v1 l1 long1 B bx T :=
  ⟨h.wat.alloc o, h.ref, h.ne, h.wlt, h.upd.trans (Upd.alloc (fun _ => False) wr o) (fun _ g => g.elim), heap_keep (World.grownBy_alloc wr o none) h.box (by simp)⟩
theorem InPut.step {w wr w1 : World} {wb : Nat} {v v1 : Value} {l1 l2 : Bs} {long1 long2 : Bool} {B : Nat} {bx : Array Value} {T : TypeId} {e : Ending} (h : InPut w wr wb v v1 l1 long1 B bx T) (g : Puts wr wb v1 l2 long2 B e w1) :
    e = .returned (.tuple #[]) ∧ ∃ v2, InPut w w1 wb v v2 l2 long2 B bx T := by
  obtain ⟨he, ⟨v2, p1, p2⟩, p3⟩ := g
  have hs := lt_of_heap h.box
  refine ⟨he, v2, p1, grown_ref h.ref p2 (Nat.le_of_lt hs), ?_, h.wlt, upd_put h.upd h.ref p3, p3.heap h.box ?_⟩
  · rcases p2 with q | ⟨x, q, hx⟩
    · rw [q]; exact h.ne
    · rw [q]; intro r; cases r; omega
  · rintro (q | q)
    · have := h.wlt; omega
    · exact h.ne q
theorem InPut.cell {w wr : World} {wb : Nat} {v v1 : Value} {l1 : Bs} {long1 : Bool} {B : Nat} {bx : Array Value} {T : TypeId} (h : InPut w wr wb v v1 l1 long1 B bx T) (i : Nat) {u : Value} (hu : bx[i]? = some u) : wr.cell? ⟨w.heap.size, i, none⟩ = some u := by
  rw [cell_of h.box]; exact hu
theorem InPut.done {w wr : World} {wb : Nat} {v v1 : Value} {l1 : Bs} {long1 : Bool} {B : Nat} {bx : Array Value} {T : TypeId} (h : InPut w wr wb v v1 l1 long1 B bx T) : Puts w wb v l1 long1 B (.returned (.tuple #[])) wr :=
  ⟨rfl, ⟨v1, h.wat, h.ref⟩, h.upd⟩

theorem st_ints {w wr : World} {wb : Nat} {v v1 : Value} {l1 : Bs} {long1 : Bool} {B : Nat} {bx : Array Value} {T : TypeId} (h : InPut w wr wb v v1 l1 long1 B bx T) (ns : List Int) (m : Nat) (hm : ns.length = m) (hl : l1.length + 8 * m ≤ 1099511627776) {ab : Nat} (hab : ab = wr.heap.size) {arr : Array Value} (harr : arr = (ns.map fun n => Value.int .i64 n).toArray) :
    Calls Tryz.prog 50 #[.pointer (some ⟨wb, 0, none⟩), .slice (some ⟨ab, 0, none⟩) m m] (wr.alloc (.cells arr 3))
      fun e w1 => e = .returned (.tuple #[]) ∧ ∃ v2, InPut w w1 wb v v2 (l1 ++ ns.flatMap encInt) long1 B bx T := by
  subst hab; subst harr
  have hn := heap_alloc_new wr (.cells (ns.map fun n => Value.int .i64 n).toArray 3)
  refine (wr_ints wb v1 l1 long1 B wr.heap.size 0 ns _ (h.wat.alloc _) (by have := h.wat.lt; omega) (fun g => by have := h.wat.vlt _ g; omega) (by simp) (fun j hj => ?_) (by omega) m hm m).mono fun e w1 g => (h.alloc _).step g
  rw [Nat.zero_add, cell_of hn]
  simp [List.getD_eq_getElem?_getD, List.getElem?_eq_getElem hj]
theorem st_text {w wr : World} {wb : Nat} {v v1 : Value} {l1 : Bs} {long1 : Bool} {B : Nat} {bx : Array Value} {T : TypeId} (h : InPut w wr wb v v1 l1 long1 B bx T) (s : Bs) (hl : l1.length ≤ 1099511627776) (hs : lenOk s) :
    Calls Tryz.prog 109 #[.pointer (some ⟨wb, 0, none⟩), .string ⟨s.toArray⟩] wr fun e w1 => e = .returned (.tuple #[]) ∧ ∃ v2, InPut w w1 wb v v2 (l1 ++ encText s) (long1 || longText s) B bx T :=
  (wr_text wb v1 l1 s long1 B wr h.wat hl hs).mono fun e w1 g => h.step g
theorem st_yes {w wr : World} {wb : Nat} {v v1 : Value} {l1 : Bs} {long1 : Bool} {B : Nat} {bx : Array Value} {T : TypeId} (h : InPut w wr wb v v1 l1 long1 B bx T) (y : Bool) (hl : l1.length ≤ 1099511627776) :
    Calls Tryz.prog 169 #[.pointer (some ⟨wb, 0, none⟩), .bool y] wr fun e w1 => e = .returned (.tuple #[]) ∧ ∃ v2, InPut w w1 wb v v2 (l1 ++ encBool y) long1 B bx T :=
  (wr_yes wb v1 l1 y long1 B wr h.wat hl).mono fun e w1 g => h.step g

theorem InPut.keepB {w wr : World} {wb : Nat} {v v1 : Value} {l1 : Bs} {long1 : Bool} {B : Nat} {bx : Array Value} {T : TypeId} (h : InPut w wr wb v v1 l1 long1 B bx T) (hwb : B ≤ wb) (hv : ∀ k, v.ownBlock = some k → B ≤ k) (hB : B ≤ w.heap.size) : ∀ a : Addr, a.block < B → wr.cell? a = w.cell? a :=
  below_cells (h.upd.below hB fun k hk => by
    rcases hk with e | g
    · rw [e]; exact hwb
    · exact hv k g)
/-- amid a list -/
structure InList (w wr : World) (wb : Nat) (v v1 : Value) (l1 : Bs) (long1 : Bool) (B : Nat) : Prop where
  wat : WrAt wr wb v1 l1 long1 B
  ref : v1.ownBlock = v.ownBlock ∨ ∃ x, v1.ownBlock = some x ∧ w.heap.size ≤ x
  upd : Upd (fun k => k = wb ∨ v.ownBlock = some k) w wr
theorem InList.alloc {w wr : World} {wb : Nat} {v v1 : Value} {l1 : Bs} {long1 : Bool} {B : Nat} (h : InList w wr wb v v1 l1 long1 B) (o : Obj) : InList w (wr.alloc o) wb v v1 l1 long1 B :=
  ⟨h.wat.alloc o, h.ref, h.upd.trans (Upd.alloc (fun _ => False) wr o) (fun _ g => g.elim)⟩
theorem InList.step {w wr w1 : World} {wb : Nat} {v v1 : Value} {l1 l2 : Bs} {long1 long2 : Bool} {B : Nat} {e : Ending} (h : InList w wr wb v v1 l1 long1 B) (g : Puts wr wb v1 l2 long2 B e w1) :
    e = .returned (.tuple #[]) ∧ ∃ v2, InList w w1 wb v v2 l2 long2 B := by
  obtain ⟨he, ⟨v2, p1, p2⟩, p3⟩ := g
  exact ⟨he, v2, p1, grown_ref h.ref p2 h.upd.size, upd_put h.upd h.ref p3⟩
theorem InList.done {w wr : World} {wb : Nat} {v v1 : Value} {l1 : Bs} {long1 : Bool} {B : Nat} (h : InList w wr wb v v1 l1 long1 B) : Puts w wb v l1 long1 B (.returned (.tuple #[])) wr :=
  ⟨rfl, ⟨v1, h.wat, h.ref⟩, h.upd⟩
theorem InList.keepB {w wr : World} {wb : Nat} {v v1 : Value} {l1 : Bs} {long1 : Bool} {B : Nat} (h : InList w wr wb v v1 l1 long1 B) (hwb : B ≤ wb) (hv : ∀ k, v.ownBlock = some k → B ≤ k) (hB : B ≤ w.heap.size) : ∀ a : Addr, a.block < B → wr.cell? a = w.cell? a :=
  below_cells (h.upd.below hB fun k hk => by
    rcases hk with e | g
    · rw [e]; exact hwb
    · exact hv k g)
theorem ls_ints {w wr : World} {wb : Nat} {v v1 : Value} {l1 : Bs} {long1 : Bool} {B : Nat} (h : InList w wr wb v v1 l1 long1 B) (ns : List Int) (m : Nat) (hm : ns.length = m) (hl : l1.length + 8 * m ≤ 1099511627776) {ab : Nat} (hab : ab = wr.heap.size) {arr : Array Value} (harr : arr = (ns.map fun n => Value.int .i64 n).toArray) :
    Calls Tryz.prog 50 #[.pointer (some ⟨wb, 0, none⟩), .slice (some ⟨ab, 0, none⟩) m m] (wr.alloc (.cells arr 3))
      fun e w1 => e = .returned (.tuple #[]) ∧ ∃ v2, InList w w1 wb v v2 (l1 ++ ns.flatMap encInt) long1 B := by
  subst hab; subst harr
  have hn := heap_alloc_new wr (.cells (ns.map fun n => Value.int .i64 n).toArray 3)
  refine (wr_ints wb v1 l1 long1 B wr.heap.size 0 ns _ (h.wat.alloc _) (by have := h.wat.lt; omega) (fun g => by have := h.wat.vlt _ g; omega) (by simp) (fun j hj => ?_) (by omega) m hm m).mono fun e w1 g => (h.alloc _).step g
  rw [Nat.zero_add, cell_of hn]
  simp [List.getD_eq_getElem?_getD, List.getElem?_eq_getElem hj]
theorem flatMap_le {α : Type} (f : α → Bs) (xs : List α) (k : Nat) : ((xs.take k).flatMap f).length ≤ (xs.flatMap f).length := by
  conv => rhs; rw [← List.take_append_drop k xs, List.flatMap_append, List.length_append]
  omega
theorem take_snoc' {α : Type} {xs : List α} {k : Nat} {x : α} (h : xs[k]? = some x) : xs.take (k + 1) = xs.take k ++ [x] := by
  rw [List.take_add_one, h]; rfl
theorem flatMap_le_snoc {α : Type} (f : α → Bs) {xs : List α} {k : Nat} {x : α} (h : xs[k]? = some x) : ((xs.take k).flatMap f).length + (f x).length ≤ (xs.flatMap f).length := by
  have := flatMap_le f xs (k + 1)
  rw [take_snoc' h, List.flatMap_append, List.length_append] at this
  simpa using this
theorem World.alloc_size' (w : World) (o : Obj) : (w.alloc o).heap.size = w.heap.size + 1 := by simp
end Go.Proofs.YtllkjfadeaoicaaGreat

set_option linter.unusedVariables false
set_option linter.unusedSimpArgs false
namespace Go.Proofs.YtllkjfadeaoicaaGreat
open Go.RowKit
set_option maxHeartbeats 1600000 in
set_option maxRecDepth 100000 in
theorem put_Version (wb : Nat) (v : Value) (l : Bs) (long : Bool) (B : Nat) (x : Version) (cs : List Value) (w : World) (h : WrAt w wb v l long B) (hx : elVersion x cs) (hl : (l ++ encVersion x).length ≤ 1099511627776) :
    Calls Tryz.prog 111 #[.pointer (some ⟨wb, 0, none⟩), .agg cs.toArray] w (Puts w wb v (l ++ encVersion x) (long || longVersion x) B) := by
  obtain ⟨rfl, hlen0⟩ := hx
  try simp only [str]
  have hBw : B ≤ w.heap.size := Nat.le_trans h.base (Nat.le_of_lt h.lt)
  have HB := Lib.hid h.base; have HBV := Lib.hid h.baseV
  have hs0 := InPut.start h #[.int .i64 x.at_, .string ⟨x.value.toArray⟩, .bool x.has] 194
  have ST0 := Lib.hid hs0; clear h hs0
  have hfin : l ++ encVersion x = l ++ [x.at_].flatMap encInt ++ encText x.value ++ encBool x.has := by simp [encVersion]
  have hlong : (long || longVersion x) = (long || longText x.value) := by simp [longVersion, longCmd, Bool.or_assoc]
  rw [hfin] at hl
  have HFIN := Lib.hid hfin; have HLONG := Lib.hid hlong; clear hfin hlong
  simp only [List.length_append, enc_ints_length, List.length_cons, List.length_nil] at hl
  go_enter Tryz.func111, Tryz.ntmps111
  go_wp2_with fail
  (with_reducible refine (st_ints ST0.out [x.at_] 1 rfl (by first | omega | (simp only [List.length_append, enc_ints_length, List.length_cons, List.length_nil]; omega)) ?sz ?ar).mono ?_)
  case sz => simp
  case ar => rfl
  rintro e w1 ⟨rfl, v1, st⟩
  have ST1 := Lib.hid st; clear st
  have c1_1 := ST1.out.cell 1 rfl
  go_wp2_with fail
  (with_reducible refine (st_text ST1.out x.value (by first | omega | (simp only [List.length_append, enc_ints_length, List.length_cons, List.length_nil]; omega)) hlen0).mono ?_)
  rintro e w2 ⟨rfl, v2, st⟩
  have ST2 := Lib.hid st; clear st
  clear c1_1
  have c2_2 := ST2.out.cell 2 rfl
  go_wp2_with fail
  (with_reducible refine (st_yes ST2.out x.has (by first | omega | (simp only [List.length_append, enc_ints_length, List.length_cons, List.length_nil]; omega))).mono ?_)
  rintro e w3 ⟨rfl, v3, st⟩
  have ST3 := Lib.hid st; clear st
  clear c2_2
  go_wp2_with fail
  go_end0
  rw [HFIN.out, HLONG.out]
  exact ST3.out.done

set_option maxHeartbeats 1600000 in
set_option maxRecDepth 100000 in
theorem put_Hold (wb : Nat) (v : Value) (l : Bs) (long : Bool) (B : Nat) (x : Hold) (cs : List Value) (w : World) (h : WrAt w wb v l long B) (hx : elHold x cs) (hl : (l ++ encHold x).length ≤ 1099511627776) :
    Calls Tryz.prog 113 #[.pointer (some ⟨wb, 0, none⟩), .agg cs.toArray] w (Puts w wb v (l ++ encHold x) (long || longHold x) B) := by
  obtain rfl := hx
  try simp only [str]
  have hBw : B ≤ w.heap.size := Nat.le_trans h.base (Nat.le_of_lt h.lt)
  have HB := Lib.hid h.base; have HBV := Lib.hid h.baseV
  have hs0 := InPut.start h #[.int .i64 x.owner, .int .i64 x.mode] 198
  have ST0 := Lib.hid hs0; clear h hs0
  have hfin : l ++ encHold x = l ++ [x.owner, x.mode].flatMap encInt := by simp [encHold]
  have hlong : (long || longHold x) = long := by simp [longHold, longCmd, Bool.or_assoc]
  rw [hfin] at hl
  have HFIN := Lib.hid hfin; have HLONG := Lib.hid hlong; clear hfin hlong
  simp only [List.length_append, enc_ints_length, List.length_cons, List.length_nil] at hl
  go_enter Tryz.func113, Tryz.ntmps113
  go_wp2_with fail
  (with_reducible refine (st_ints ST0.out [x.owner, x.mode] 2 rfl (by first | omega | (simp only [List.length_append, enc_ints_length, List.length_cons, List.length_nil]; omega)) ?sz ?ar).mono ?_)
  case sz => simp
  case ar => rfl
  rintro e w1 ⟨rfl, v1, st⟩
  have ST1 := Lib.hid st; clear st
  go_wp2_with fail
  go_end0
  rw [HFIN.out, HLONG.out]
  exact ST1.out.done

set_option maxHeartbeats 1600000 in
set_option maxRecDepth 100000 in
theorem put_Row (wb : Nat) (v : Value) (l : Bs) (long : Bool) (B : Nat) (x : Row) (cs : List Value) (w : World) (h : WrAt w wb v l long B) (hx : elRow x cs) (hl : (l ++ encRow x).length ≤ 1099511627776) :
    Calls Tryz.prog 56 #[.pointer (some ⟨wb, 0, none⟩), .agg cs.toArray] w (Puts w wb v (l ++ encRow x) (long || longRow x) B) := by
  obtain rfl := hx
  try simp only [str]
  have hBw : B ≤ w.heap.size := Nat.le_trans h.base (Nat.le_of_lt h.lt)
  have HB := Lib.hid h.base; have HBV := Lib.hid h.baseV
  have hs0 := InPut.start h #[.int .i64 x.tx, .int .i64 x.attempt, .int .i64 x.stamp, .int .i64 x.state, .int .i64 x.heard] 116
  have ST0 := Lib.hid hs0; clear h hs0
  have hfin : l ++ encRow x = l ++ [x.tx, x.attempt, x.stamp, x.state, x.heard].flatMap encInt := by simp [encRow]
  have hlong : (long || longRow x) = long := by simp [longRow, longCmd, Bool.or_assoc]
  rw [hfin] at hl
  have HFIN := Lib.hid hfin; have HLONG := Lib.hid hlong; clear hfin hlong
  simp only [List.length_append, enc_ints_length, List.length_cons, List.length_nil] at hl
  go_enter Tryz.func56, Tryz.ntmps56
  go_wp2_with fail
  (with_reducible refine (st_ints ST0.out [x.tx, x.attempt, x.stamp, x.state, x.heard] 5 rfl (by first | omega | (simp only [List.length_append, enc_ints_length, List.length_cons, List.length_nil]; omega)) ?sz ?ar).mono ?_)
  case sz => simp
  case ar => rfl
  rintro e w1 ⟨rfl, v1, st⟩
  have ST1 := Lib.hid st; clear st
  go_wp2_with fail
  go_end0
  rw [HFIN.out, HLONG.out]
  exact ST1.out.done

set_option maxHeartbeats 1600000 in
set_option maxRecDepth 100000 in
theorem put_Done (wb : Nat) (v : Value) (l : Bs) (long : Bool) (B : Nat) (x : Done) (cs : List Value) (w : World) (h : WrAt w wb v l long B) (hx : elDone x cs) (hl : (l ++ encDone x).length ≤ 1099511627776) :
    Calls Tryz.prog 60 #[.pointer (some ⟨wb, 0, none⟩), .agg cs.toArray] w (Puts w wb v (l ++ encDone x) (long || longDone x) B) := by
  obtain rfl := hx
  try simp only [str]
  have hBw : B ≤ w.heap.size := Nat.le_trans h.base (Nat.le_of_lt h.lt)
  have HB := Lib.hid h.base; have HBV := Lib.hid h.baseV
  have hs0 := InPut.start h #[.int .i64 x.tx, .int .i64 x.attempt] 125
  have ST0 := Lib.hid hs0; clear h hs0
  have hfin : l ++ encDone x = l ++ [x.tx, x.attempt].flatMap encInt := by simp [encDone]
  have hlong : (long || longDone x) = long := by simp [longDone, longCmd, Bool.or_assoc]
  rw [hfin] at hl
  have HFIN := Lib.hid hfin; have HLONG := Lib.hid hlong; clear hfin hlong
  simp only [List.length_append, enc_ints_length, List.length_cons, List.length_nil] at hl
  go_enter Tryz.func60, Tryz.ntmps60
  go_wp2_with fail
  (with_reducible refine (st_ints ST0.out [x.tx, x.attempt] 2 rfl (by first | omega | (simp only [List.length_append, enc_ints_length, List.length_cons, List.length_nil]; omega)) ?sz ?ar).mono ?_)
  case sz => simp
  case ar => rfl
  rintro e w1 ⟨rfl, v1, st⟩
  have ST1 := Lib.hid st; clear st
  go_wp2_with fail
  go_end0
  rw [HFIN.out, HLONG.out]
  exact ST1.out.done

set_option maxHeartbeats 1600000 in
set_option maxRecDepth 100000 in
theorem put_Write (wb : Nat) (v : Value) (l : Bs) (long : Bool) (B : Nat) (x : Write) (cs : List Value) (w : World) (h : WrAt w wb v l long B) (hx : elWrite x cs) (hl : (l ++ encWrite x).length ≤ 1099511627776) :
    Calls Tryz.prog 116 #[.pointer (some ⟨wb, 0, none⟩), .agg cs.toArray] w (Puts w wb v (l ++ encWrite x) (long || longWrite x) B) := by
  obtain ⟨rfl, hlen0, hlen1⟩ := hx
  try simp only [str]
  have hBw : B ≤ w.heap.size := Nat.le_trans h.base (Nat.le_of_lt h.lt)
  have HB := Lib.hid h.base; have HBV := Lib.hid h.baseV
  have hs0 := InPut.start h #[.string ⟨x.key.toArray⟩, .string ⟨x.value.toArray⟩, .bool x.has] 204
  have ST0 := Lib.hid hs0; clear h hs0
  have hfin : l ++ encWrite x = l ++ encText x.key ++ encText x.value ++ encBool x.has := by simp [encWrite]
  have hlong : (long || longWrite x) = ((long || longText x.key) || longText x.value) := by simp [longWrite, longCmd, Bool.or_assoc]
  rw [hfin] at hl
  have HFIN := Lib.hid hfin; have HLONG := Lib.hid hlong; clear hfin hlong
  simp only [List.length_append, enc_ints_length, List.length_cons, List.length_nil] at hl
  go_enter Tryz.func116, Tryz.ntmps116
  go_wp2_with fail
  (with_reducible refine (st_text ST0.out x.key (by first | omega | (simp only [List.length_append, enc_ints_length, List.length_cons, List.length_nil]; omega)) hlen0).mono ?_)
  rintro e w1 ⟨rfl, v1, st⟩
  have ST1 := Lib.hid st; clear st
  have c1_1 := ST1.out.cell 1 rfl
  go_wp2_with fail
  (with_reducible refine (st_text ST1.out x.value (by first | omega | (simp only [List.length_append, enc_ints_length, List.length_cons, List.length_nil]; omega)) hlen1).mono ?_)
  rintro e w2 ⟨rfl, v2, st⟩
  have ST2 := Lib.hid st; clear st
  clear c1_1
  have c2_2 := ST2.out.cell 2 rfl
  go_wp2_with fail
  (with_reducible refine (st_yes ST2.out x.has (by first | omega | (simp only [List.length_append, enc_ints_length, List.length_cons, List.length_nil]; omega))).mono ?_)
  rintro e w3 ⟨rfl, v3, st⟩
  have ST3 := Lib.hid st; clear st
  clear c2_2
  go_wp2_with fail
  go_end0
  rw [HFIN.out, HLONG.out]
  exact ST3.out.done

set_option maxHeartbeats 1600000 in
set_option maxRecDepth 100000 in
theorem put_Cmd (wb : Nat) (v : Value) (l : Bs) (long : Bool) (B : Nat) (x : Cmd) (cs : List Value) (w : World) (h : WrAt w wb v l long B) (hx : elCmd x cs) (hl : (l ++ encCmd x).length ≤ 1099511627776) :
    Calls Tryz.prog 114 #[.pointer (some ⟨wb, 0, none⟩), .agg cs.toArray] w (Puts w wb v (l ++ encCmd x) (long || longCmd x) B) := by
  obtain ⟨rfl, hlen0, hlen1⟩ := hx
  try simp only [str]
  have hBw : B ≤ w.heap.size := Nat.le_trans h.base (Nat.le_of_lt h.lt)
  have HB := Lib.hid h.base; have HBV := Lib.hid h.baseV
  have hs0 := InPut.start h #[.int .i64 x.kind, .int .i64 x.tx, .int .i64 x.attempt, .int .i64 x.stamp, .int .i64 x.op, .string ⟨x.key.toArray⟩, .string ⟨x.value.toArray⟩, .int .i64 x.mode, .bool x.yes] 45
  have ST0 := Lib.hid hs0; clear h hs0
  have hfin : l ++ encCmd x = l ++ [x.kind, x.tx, x.attempt, x.stamp, x.op].flatMap encInt ++ encText x.key ++ encText x.value ++ [x.mode].flatMap encInt ++ encBool x.yes := by simp [encCmd]
  have hlong : (long || longCmd x) = ((long || longText x.key) || longText x.value) := by simp [longCmd, longCmd, Bool.or_assoc]
  rw [hfin] at hl
  have HFIN := Lib.hid hfin; have HLONG := Lib.hid hlong; clear hfin hlong
  simp only [List.length_append, enc_ints_length, List.length_cons, List.length_nil] at hl
  go_enter Tryz.func114, Tryz.ntmps114
  go_wp2_with fail
  (with_reducible refine (st_ints ST0.out [x.kind, x.tx, x.attempt, x.stamp, x.op] 5 rfl (by first | omega | (simp only [List.length_append, enc_ints_length, List.length_cons, List.length_nil]; omega)) ?sz ?ar).mono ?_)
  case sz => simp
  case ar => rfl
  rintro e w1 ⟨rfl, v1, st⟩
  have ST1 := Lib.hid st; clear st
  have c1_5 := ST1.out.cell 5 rfl
  go_wp2_with fail
  (with_reducible refine (st_text ST1.out x.key (by first | omega | (simp only [List.length_append, enc_ints_length, List.length_cons, List.length_nil]; omega)) hlen0).mono ?_)
  rintro e w2 ⟨rfl, v2, st⟩
  have ST2 := Lib.hid st; clear st
  clear c1_5
  have c2_6 := ST2.out.cell 6 rfl
  go_wp2_with fail
  (with_reducible refine (st_text ST2.out x.value (by first | omega | (simp only [List.length_append, enc_ints_length, List.length_cons, List.length_nil]; omega)) hlen1).mono ?_)
  rintro e w3 ⟨rfl, v3, st⟩
  have ST3 := Lib.hid st; clear st
  clear c2_6
  have c3_7 := ST3.out.cell 7 rfl
  go_wp2_with fail
  (with_reducible refine (st_ints ST3.out [x.mode] 1 rfl (by first | omega | (simp only [List.length_append, enc_ints_length, List.length_cons, List.length_nil]; omega)) ?sz ?ar).mono ?_)
  case sz => simp
  case ar => rfl
  rintro e w4 ⟨rfl, v4, st⟩
  have ST4 := Lib.hid st; clear st
  clear c3_7
  have c4_8 := ST4.out.cell 8 rfl
  go_wp2_with fail
  (with_reducible refine (st_yes ST4.out x.yes (by first | omega | (simp only [List.length_append, enc_ints_length, List.length_cons, List.length_nil]; omega))).mono ?_)
  rintro e w5 ⟨rfl, v5, st⟩
  have ST5 := Lib.hid st; clear st
  clear c4_8
  go_wp2_with fail
  go_end0
  rw [HFIN.out, HLONG.out]
  exact ST5.out.done

end Go.Proofs.YtllkjfadeaoicaaGreat

set_option linter.unusedVariables false
set_option linter.unusedSimpArgs false
namespace Go.Proofs.YtllkjfadeaoicaaGreat
open Go.RowKit
set_option maxHeartbeats 1600000 in
set_option maxRecDepth 100000 in
theorem puts_Version (wb : Nat) (v : Value) (l : Bs) (long : Bool) (B : Nat) (sv : Value) (xs : List Version) (w : World) (h : WrAt w wb v l long B) (hr : Rows w (fun k => k < B) (elVersion) 3 sv xs) (hl : (l ++ encList encVersion xs).length ≤ 1099511627776) :
    Calls Tryz.prog 110 #[.pointer (some ⟨wb, 0, none⟩), sv, .func (.func 111) #[] #[]] w (Puts w wb v (l ++ encList encVersion xs) (long || longList longVersion xs) B) := by
  obtain ⟨A, n, c, rfl, hlen, hnc, hc, hrow⟩ := hr
  have hf := h.flag (long || decide (65535 < (n : Int)))
  have HB := Lib.hid h.base; have HBV := Lib.hid h.baseV
  have hBw : B ≤ w.heap.size := Nat.le_trans h.base (Nat.le_of_lt h.lt)
  have c1 : w.cell? ⟨wb, 1, none⟩ = some (.bool long) := by rw [cell_of h.heap]; rfl
  have f1 : w.frozen? ⟨wb, 1, none⟩ = false := frozen_of h.heap 1
  have hst : InList w (w.setCell ⟨wb, 1, none⟩ (.bool (long || decide (65535 < (n : Int))))) wb v v l (long || decide (65535 < (n : Int))) B := ⟨hf.1, .inl rfl, hf.2⟩
  have ST0 := Lib.hid hst
  clear hf h hst
  have HROW := Lib.hid hrow; have HLEN := Lib.hid hlen
  clear hrow hlen
  have hfin : longList longVersion xs = (decide (65535 < (n : Int)) || xs.any longVersion) := by
    unfold longList; rw [HLEN.out]; congr 1; rw [Bool.eq_iff_iff]; simp; omega
  rw [hfin, ← Bool.or_assoc]
  unfold encList at hl ⊢
  rw [HLEN.out] at hl ⊢
  simp only [List.length_append, encInt_length] at hl
  clear hfin
  generalize hBB : (long || decide (65535 < (n : Int))) = BB at ST0 ⊢
  have HBB2 : long = true → BB = true := by intro g; rw [← hBB, g]; rfl
  have HBB3 : long = false → BB = decide (65535 < (n : Int)) := by intro g; rw [← hBB, g]; rfl
  clear hBB
  cases long
  · obtain rfl := HBB3 rfl
    clear HBB2 HBB3
    go_enter Tryz.func110, Tryz.ntmps110
    go_wp2_with fail
    (with_reducible refine (ls_ints ST0.out [(n : Int)] 1 rfl (by omega) ?sz ?ar).mono ?_)
    case sz => simp
    case ar => rfl
    rintro e w1 ⟨rfl, v1, st⟩
    have ST1 := Lib.hid st; clear st
    go_wp2_with fail
    go_loopw [27] (fun i wr => ∃ (k : Nat) (v2 : Value), k ≤ n ∧ i = .int .i64 k ∧ InList w wr wb v v2 (l ++ (encInt n ++ (xs.take k).flatMap encVersion)) (decide (65535 < (n : Int)) || (xs.take k).any longVersion) B) (fun i _ => n - (intOf i).toNat)
    case atStart => exact ⟨0, v1, Nat.zero_le _, rfl, by simpa using ST1.out⟩
    case round =>
      obtain ⟨k, v2, hk, rfl, st⟩ := hrel
      have ST2 := Lib.hid st; clear st
      by_cases hlt : k < n
      · obtain ⟨b, o, rfl, hb, hrw⟩ := HROW.out (by omega)
        replace hb : b < B := hb
        obtain ⟨x, hx⟩ : ∃ x, xs[k]? = some x := ⟨_, List.getElem?_eq_getElem (by rw [HLEN.out]; exact hlt)⟩
        obtain ⟨cs, hcs, hel, hcell⟩ := hrw k x hx
        have hkeep := ST2.out.keepB HB.out HBV.out hBw
        have hle := flatMap_le_snoc encVersion hx
        have HX := Lib.hid (take_snoc' hx); have HEL := Lib.hid hel; clear hx hrw
        have HEL0 := hel; clear hel
        obtain ⟨rfl, hlen0⟩ := HEL0
        have d0 := (hkeep ⟨b, _, none⟩ hb).trans (hcell 0 _ rfl)
        have d1 := (hkeep ⟨b, _, none⟩ hb).trans (hcell 1 _ rfl)
        have d2 := (hkeep ⟨b, _, none⟩ hb).trans (hcell 2 _ rfl)
        rw [Nat.add_zero] at d0
        simp only [str] at d0 d1 d2 HEL
        clear hcell hkeep hcs
        go_wp2_with fail
        (with_reducible refine (put_Version wb _ _ _ B x _ _ (ST2.out.alloc _).wat HEL.out (by simp only [List.length_append, encInt_length]; omega)).mono ?_)
        rintro e w3 g
        obtain ⟨rfl, v3, st⟩ := (ST2.out.alloc _).step g
        clear g
        have ST3 := Lib.hid st; clear st
        go_wp2_with fail
        go_roundw
        case rel => exact ⟨k + 1, v3, by omega, by go_num, by rw [HX.out, List.flatMap_append, List.any_append]; simpa [Bool.or_assoc] using ST3.out⟩
        case measure => simp [intOf]; omega
      · obtain rfl : k = n := by omega
        have ht : xs.take k = xs := List.take_of_length_le (by rw [HLEN.out]; omega)
        rw [ht] at ST2
        go_wp2_with fail
        go_end0
        exact ST2.out.done

  · obtain rfl := HBB2 rfl
    clear HBB2 HBB3
    go_enter Tryz.func110, Tryz.ntmps110
    go_wp2_with fail
    (with_reducible refine (ls_ints ST0.out [(n : Int)] 1 rfl (by omega) ?sz ?ar).mono ?_)
    case sz => simp
    case ar => rfl
    rintro e w1 ⟨rfl, v1, st⟩
    have ST1 := Lib.hid st; clear st
    go_wp2_with fail
    go_loopw [27] (fun i wr => ∃ (k : Nat) (v2 : Value), k ≤ n ∧ i = .int .i64 k ∧ InList w wr wb v v2 (l ++ (encInt n ++ (xs.take k).flatMap encVersion)) (true || (xs.take k).any longVersion) B) (fun i _ => n - (intOf i).toNat)
    case atStart => exact ⟨0, v1, Nat.zero_le _, rfl, by simpa using ST1.out⟩
    case round =>
      obtain ⟨k, v2, hk, rfl, st⟩ := hrel
      have ST2 := Lib.hid st; clear st
      by_cases hlt : k < n
      · obtain ⟨b, o, rfl, hb, hrw⟩ := HROW.out (by omega)
        replace hb : b < B := hb
        obtain ⟨x, hx⟩ : ∃ x, xs[k]? = some x := ⟨_, List.getElem?_eq_getElem (by rw [HLEN.out]; exact hlt)⟩
        obtain ⟨cs, hcs, hel, hcell⟩ := hrw k x hx
        have hkeep := ST2.out.keepB HB.out HBV.out hBw
        have hle := flatMap_le_snoc encVersion hx
        have HX := Lib.hid (take_snoc' hx); have HEL := Lib.hid hel; clear hx hrw
        have HEL0 := hel; clear hel
        obtain ⟨rfl, hlen0⟩ := HEL0
        have d0 := (hkeep ⟨b, _, none⟩ hb).trans (hcell 0 _ rfl)
        have d1 := (hkeep ⟨b, _, none⟩ hb).trans (hcell 1 _ rfl)
        have d2 := (hkeep ⟨b, _, none⟩ hb).trans (hcell 2 _ rfl)
        rw [Nat.add_zero] at d0
        simp only [str] at d0 d1 d2 HEL
        clear hcell hkeep hcs
        go_wp2_with fail
        (with_reducible refine (put_Version wb _ _ _ B x _ _ (ST2.out.alloc _).wat HEL.out (by simp only [List.length_append, encInt_length]; omega)).mono ?_)
        rintro e w3 g
        obtain ⟨rfl, v3, st⟩ := (ST2.out.alloc _).step g
        clear g
        have ST3 := Lib.hid st; clear st
        go_wp2_with fail
        go_roundw
        case rel => exact ⟨k + 1, v3, by omega, by go_num, by rw [HX.out, List.flatMap_append, List.any_append]; simpa [Bool.or_assoc] using ST3.out⟩
        case measure => simp [intOf]; omega
      · obtain rfl : k = n := by omega
        have ht : xs.take k = xs := List.take_of_length_le (by rw [HLEN.out]; omega)
        rw [ht] at ST2
        go_wp2_with fail
        go_end0
        exact ST2.out.done


set_option maxHeartbeats 1600000 in
set_option maxRecDepth 100000 in
theorem puts_Hold (wb : Nat) (v : Value) (l : Bs) (long : Bool) (B : Nat) (sv : Value) (xs : List Hold) (w : World) (h : WrAt w wb v l long B) (hr : Rows w (fun k => k < B) (elHold) 2 sv xs) (hl : (l ++ encList encHold xs).length ≤ 1099511627776) :
    Calls Tryz.prog 112 #[.pointer (some ⟨wb, 0, none⟩), sv, .func (.func 113) #[] #[]] w (Puts w wb v (l ++ encList encHold xs) (long || longList longHold xs) B) := by
  obtain ⟨A, n, c, rfl, hlen, hnc, hc, hrow⟩ := hr
  have hf := h.flag (long || decide (65535 < (n : Int)))
  have HB := Lib.hid h.base; have HBV := Lib.hid h.baseV
  have hBw : B ≤ w.heap.size := Nat.le_trans h.base (Nat.le_of_lt h.lt)
  have c1 : w.cell? ⟨wb, 1, none⟩ = some (.bool long) := by rw [cell_of h.heap]; rfl
  have f1 : w.frozen? ⟨wb, 1, none⟩ = false := frozen_of h.heap 1
  have hst : InList w (w.setCell ⟨wb, 1, none⟩ (.bool (long || decide (65535 < (n : Int))))) wb v v l (long || decide (65535 < (n : Int))) B := ⟨hf.1, .inl rfl, hf.2⟩
  have ST0 := Lib.hid hst
  clear hf h hst
  have HROW := Lib.hid hrow; have HLEN := Lib.hid hlen
  clear hrow hlen
  have hfin : longList longHold xs = (decide (65535 < (n : Int)) || xs.any longHold) := by
    unfold longList; rw [HLEN.out]; congr 1; rw [Bool.eq_iff_iff]; simp; omega
  rw [hfin, ← Bool.or_assoc]
  unfold encList at hl ⊢
  rw [HLEN.out] at hl ⊢
  simp only [List.length_append, encInt_length] at hl
  clear hfin
  generalize hBB : (long || decide (65535 < (n : Int))) = BB at ST0 ⊢
  have HBB2 : long = true → BB = true := by intro g; rw [← hBB, g]; rfl
  have HBB3 : long = false → BB = decide (65535 < (n : Int)) := by intro g; rw [← hBB, g]; rfl
  clear hBB
  cases long
  · obtain rfl := HBB3 rfl
    clear HBB2 HBB3
    go_enter Tryz.func112, Tryz.ntmps112
    go_wp2_with fail
    (with_reducible refine (ls_ints ST0.out [(n : Int)] 1 rfl (by omega) ?sz ?ar).mono ?_)
    case sz => simp
    case ar => rfl
    rintro e w1 ⟨rfl, v1, st⟩
    have ST1 := Lib.hid st; clear st
    go_wp2_with fail
    go_loopw [27] (fun i wr => ∃ (k : Nat) (v2 : Value), k ≤ n ∧ i = .int .i64 k ∧ InList w wr wb v v2 (l ++ (encInt n ++ (xs.take k).flatMap encHold)) (decide (65535 < (n : Int)) || (xs.take k).any longHold) B) (fun i _ => n - (intOf i).toNat)
    case atStart => exact ⟨0, v1, Nat.zero_le _, rfl, by simpa using ST1.out⟩
    case round =>
      obtain ⟨k, v2, hk, rfl, st⟩ := hrel
      have ST2 := Lib.hid st; clear st
      by_cases hlt : k < n
      · obtain ⟨b, o, rfl, hb, hrw⟩ := HROW.out (by omega)
        replace hb : b < B := hb
        obtain ⟨x, hx⟩ : ∃ x, xs[k]? = some x := ⟨_, List.getElem?_eq_getElem (by rw [HLEN.out]; exact hlt)⟩
        obtain ⟨cs, hcs, hel, hcell⟩ := hrw k x hx
        have hkeep := ST2.out.keepB HB.out HBV.out hBw
        have hle := flatMap_le_snoc encHold hx
        have HX := Lib.hid (take_snoc' hx); have HEL := Lib.hid hel; clear hx hrw
        have HEL0 := hel; clear hel
        obtain rfl := HEL0
        have d0 := (hkeep ⟨b, _, none⟩ hb).trans (hcell 0 _ rfl)
        have d1 := (hkeep ⟨b, _, none⟩ hb).trans (hcell 1 _ rfl)
        rw [Nat.add_zero] at d0
        clear hcell hkeep hcs
        go_wp2_with fail
        (with_reducible refine (put_Hold wb _ _ _ B x _ _ (ST2.out.alloc _).wat HEL.out (by simp only [List.length_append, encInt_length]; omega)).mono ?_)
        rintro e w3 g
        obtain ⟨rfl, v3, st⟩ := (ST2.out.alloc _).step g
        clear g
        have ST3 := Lib.hid st; clear st
        go_wp2_with fail
        go_roundw
        case rel => exact ⟨k + 1, v3, by omega, by go_num, by rw [HX.out, List.flatMap_append, List.any_append]; simpa [Bool.or_assoc] using ST3.out⟩
        case measure => simp [intOf]; omega
      · obtain rfl : k = n := by omega
        have ht : xs.take k = xs := List.take_of_length_le (by rw [HLEN.out]; omega)
        rw [ht] at ST2
        go_wp2_with fail
        go_end0
        exact ST2.out.done

  · obtain rfl := HBB2 rfl
    clear HBB2 HBB3
    go_enter Tryz.func112, Tryz.ntmps112
    go_wp2_with fail
    (with_reducible refine (ls_ints ST0.out [(n : Int)] 1 rfl (by omega) ?sz ?ar).mono ?_)
    case sz => simp
    case ar => rfl
    rintro e w1 ⟨rfl, v1, st⟩
    have ST1 := Lib.hid st; clear st
    go_wp2_with fail
    go_loopw [27] (fun i wr => ∃ (k : Nat) (v2 : Value), k ≤ n ∧ i = .int .i64 k ∧ InList w wr wb v v2 (l ++ (encInt n ++ (xs.take k).flatMap encHold)) (true || (xs.take k).any longHold) B) (fun i _ => n - (intOf i).toNat)
    case atStart => exact ⟨0, v1, Nat.zero_le _, rfl, by simpa using ST1.out⟩
    case round =>
      obtain ⟨k, v2, hk, rfl, st⟩ := hrel
      have ST2 := Lib.hid st; clear st
      by_cases hlt : k < n
      · obtain ⟨b, o, rfl, hb, hrw⟩ := HROW.out (by omega)
        replace hb : b < B := hb
        obtain ⟨x, hx⟩ : ∃ x, xs[k]? = some x := ⟨_, List.getElem?_eq_getElem (by rw [HLEN.out]; exact hlt)⟩
        obtain ⟨cs, hcs, hel, hcell⟩ := hrw k x hx
        have hkeep := ST2.out.keepB HB.out HBV.out hBw
        have hle := flatMap_le_snoc encHold hx
        have HX := Lib.hid (take_snoc' hx); have HEL := Lib.hid hel; clear hx hrw
        have HEL0 := hel; clear hel
        obtain rfl := HEL0
        have d0 := (hkeep ⟨b, _, none⟩ hb).trans (hcell 0 _ rfl)
        have d1 := (hkeep ⟨b, _, none⟩ hb).trans (hcell 1 _ rfl)
        rw [Nat.add_zero] at d0
        clear hcell hkeep hcs
        go_wp2_with fail
        (with_reducible refine (put_Hold wb _ _ _ B x _ _ (ST2.out.alloc _).wat HEL.out (by simp only [List.length_append, encInt_length]; omega)).mono ?_)
        rintro e w3 g
        obtain ⟨rfl, v3, st⟩ := (ST2.out.alloc _).step g
        clear g
        have ST3 := Lib.hid st; clear st
        go_wp2_with fail
        go_roundw
        case rel => exact ⟨k + 1, v3, by omega, by go_num, by rw [HX.out, List.flatMap_append, List.any_append]; simpa [Bool.or_assoc] using ST3.out⟩
        case measure => simp [intOf]; omega
      · obtain rfl : k = n := by omega
        have ht : xs.take k = xs := List.take_of_length_le (by rw [HLEN.out]; omega)
        rw [ht] at ST2
        go_wp2_with fail
        go_end0
        exact ST2.out.done


set_option maxHeartbeats 1600000 in
set_option maxRecDepth 100000 in
theorem puts_Write (wb : Nat) (v : Value) (l : Bs) (long : Bool) (B : Nat) (sv : Value) (xs : List Write) (w : World) (h : WrAt w wb v l long B) (hr : Rows w (fun k => k < B) (elWrite) 3 sv xs) (hl : (l ++ encList encWrite xs).length ≤ 1099511627776) :
    Calls Tryz.prog 115 #[.pointer (some ⟨wb, 0, none⟩), sv, .func (.func 116) #[] #[]] w (Puts w wb v (l ++ encList encWrite xs) (long || longList longWrite xs) B) := by
  obtain ⟨A, n, c, rfl, hlen, hnc, hc, hrow⟩ := hr
  have hf := h.flag (long || decide (65535 < (n : Int)))
  have HB := Lib.hid h.base; have HBV := Lib.hid h.baseV
  have hBw : B ≤ w.heap.size := Nat.le_trans h.base (Nat.le_of_lt h.lt)
  have c1 : w.cell? ⟨wb, 1, none⟩ = some (.bool long) := by rw [cell_of h.heap]; rfl
  have f1 : w.frozen? ⟨wb, 1, none⟩ = false := frozen_of h.heap 1
  have hst : InList w (w.setCell ⟨wb, 1, none⟩ (.bool (long || decide (65535 < (n : Int))))) wb v v l (long || decide (65535 < (n : Int))) B := ⟨hf.1, .inl rfl, hf.2⟩
  have ST0 := Lib.hid hst
  clear hf h hst
  have HROW := Lib.hid hrow; have HLEN := Lib.hid hlen
  clear hrow hlen
  have hfin : longList longWrite xs = (decide (65535 < (n : Int)) || xs.any longWrite) := by
    unfold longList; rw [HLEN.out]; congr 1; rw [Bool.eq_iff_iff]; simp; omega
  rw [hfin, ← Bool.or_assoc]
  unfold encList at hl ⊢
  rw [HLEN.out] at hl ⊢
  simp only [List.length_append, encInt_length] at hl
  clear hfin
  generalize hBB : (long || decide (65535 < (n : Int))) = BB at ST0 ⊢
  have HBB2 : long = true → BB = true := by intro g; rw [← hBB, g]; rfl
  have HBB3 : long = false → BB = decide (65535 < (n : Int)) := by intro g; rw [← hBB, g]; rfl
  clear hBB
  cases long
  · obtain rfl := HBB3 rfl
    clear HBB2 HBB3
    go_enter Tryz.func115, Tryz.ntmps115
    go_wp2_with fail
    (with_reducible refine (ls_ints ST0.out [(n : Int)] 1 rfl (by omega) ?sz ?ar).mono ?_)
    case sz => simp
    case ar => rfl
    rintro e w1 ⟨rfl, v1, st⟩
    have ST1 := Lib.hid st; clear st
    go_wp2_with fail
    go_loopw [27] (fun i wr => ∃ (k : Nat) (v2 : Value), k ≤ n ∧ i = .int .i64 k ∧ InList w wr wb v v2 (l ++ (encInt n ++ (xs.take k).flatMap encWrite)) (decide (65535 < (n : Int)) || (xs.take k).any longWrite) B) (fun i _ => n - (intOf i).toNat)
    case atStart => exact ⟨0, v1, Nat.zero_le _, rfl, by simpa using ST1.out⟩
    case round =>
      obtain ⟨k, v2, hk, rfl, st⟩ := hrel
      have ST2 := Lib.hid st; clear st
      by_cases hlt : k < n
      · obtain ⟨b, o, rfl, hb, hrw⟩ := HROW.out (by omega)
        replace hb : b < B := hb
        obtain ⟨x, hx⟩ : ∃ x, xs[k]? = some x := ⟨_, List.getElem?_eq_getElem (by rw [HLEN.out]; exact hlt)⟩
        obtain ⟨cs, hcs, hel, hcell⟩ := hrw k x hx
        have hkeep := ST2.out.keepB HB.out HBV.out hBw
        have hle := flatMap_le_snoc encWrite hx
        have HX := Lib.hid (take_snoc' hx); have HEL := Lib.hid hel; clear hx hrw
        have HEL0 := hel; clear hel
        obtain ⟨rfl, hlen0, hlen1⟩ := HEL0
        have d0 := (hkeep ⟨b, _, none⟩ hb).trans (hcell 0 _ rfl)
        have d1 := (hkeep ⟨b, _, none⟩ hb).trans (hcell 1 _ rfl)
        have d2 := (hkeep ⟨b, _, none⟩ hb).trans (hcell 2 _ rfl)
        rw [Nat.add_zero] at d0
        simp only [str] at d0 d1 d2 HEL
        clear hcell hkeep hcs
        go_wp2_with fail
        (with_reducible refine (put_Write wb _ _ _ B x _ _ (ST2.out.alloc _).wat HEL.out (by simp only [List.length_append, encInt_length]; omega)).mono ?_)
        rintro e w3 g
        obtain ⟨rfl, v3, st⟩ := (ST2.out.alloc _).step g
        clear g
        have ST3 := Lib.hid st; clear st
        go_wp2_with fail
        go_roundw
        case rel => exact ⟨k + 1, v3, by omega, by go_num, by rw [HX.out, List.flatMap_append, List.any_append]; simpa [Bool.or_assoc] using ST3.out⟩
        case measure => simp [intOf]; omega
      · obtain rfl : k = n := by omega
        have ht : xs.take k = xs := List.take_of_length_le (by rw [HLEN.out]; omega)
        rw [ht] at ST2
        go_wp2_with fail
        go_end0
        exact ST2.out.done

  · obtain rfl := HBB2 rfl
    clear HBB2 HBB3
    go_enter Tryz.func115, Tryz.ntmps115
    go_wp2_with fail
    (with_reducible refine (ls_ints ST0.out [(n : Int)] 1 rfl (by omega) ?sz ?ar).mono ?_)
    case sz => simp
    case ar => rfl
    rintro e w1 ⟨rfl, v1, st⟩
    have ST1 := Lib.hid st; clear st
    go_wp2_with fail
    go_loopw [27] (fun i wr => ∃ (k : Nat) (v2 : Value), k ≤ n ∧ i = .int .i64 k ∧ InList w wr wb v v2 (l ++ (encInt n ++ (xs.take k).flatMap encWrite)) (true || (xs.take k).any longWrite) B) (fun i _ => n - (intOf i).toNat)
    case atStart => exact ⟨0, v1, Nat.zero_le _, rfl, by simpa using ST1.out⟩
    case round =>
      obtain ⟨k, v2, hk, rfl, st⟩ := hrel
      have ST2 := Lib.hid st; clear st
      by_cases hlt : k < n
      · obtain ⟨b, o, rfl, hb, hrw⟩ := HROW.out (by omega)
        replace hb : b < B := hb
        obtain ⟨x, hx⟩ : ∃ x, xs[k]? = some x := ⟨_, List.getElem?_eq_getElem (by rw [HLEN.out]; exact hlt)⟩
        obtain ⟨cs, hcs, hel, hcell⟩ := hrw k x hx
        have hkeep := ST2.out.keepB HB.out HBV.out hBw
        have hle := flatMap_le_snoc encWrite hx
        have HX := Lib.hid (take_snoc' hx); have HEL := Lib.hid hel; clear hx hrw
        have HEL0 := hel; clear hel
        obtain ⟨rfl, hlen0, hlen1⟩ := HEL0
        have d0 := (hkeep ⟨b, _, none⟩ hb).trans (hcell 0 _ rfl)
        have d1 := (hkeep ⟨b, _, none⟩ hb).trans (hcell 1 _ rfl)
        have d2 := (hkeep ⟨b, _, none⟩ hb).trans (hcell 2 _ rfl)
        rw [Nat.add_zero] at d0
        simp only [str] at d0 d1 d2 HEL
        clear hcell hkeep hcs
        go_wp2_with fail
        (with_reducible refine (put_Write wb _ _ _ B x _ _ (ST2.out.alloc _).wat HEL.out (by simp only [List.length_append, encInt_length]; omega)).mono ?_)
        rintro e w3 g
        obtain ⟨rfl, v3, st⟩ := (ST2.out.alloc _).step g
        clear g
        have ST3 := Lib.hid st; clear st
        go_wp2_with fail
        go_roundw
        case rel => exact ⟨k + 1, v3, by omega, by go_num, by rw [HX.out, List.flatMap_append, List.any_append]; simpa [Bool.or_assoc] using ST3.out⟩
        case measure => simp [intOf]; omega
      · obtain rfl : k = n := by omega
        have ht : xs.take k = xs := List.take_of_length_le (by rw [HLEN.out]; omega)
        rw [ht] at ST2
        go_wp2_with fail
        go_end0
        exact ST2.out.done


end Go.Proofs.YtllkjfadeaoicaaGreat

set_option linter.unusedVariables false
set_option linter.unusedSimpArgs false
namespace Go.Proofs.YtllkjfadeaoicaaGreat
open Go.RowKit
set_option maxHeartbeats 1600000 in
set_option maxRecDepth 100000 in
theorem put_Cell (wb : Nat) (v : Value) (l : Bs) (long : Bool) (B : Nat) (x : Cell) (cs : List Value) (w : World) (h : WrAt w wb v l long B) (hx : elCell w (fun k => k < B) x cs) (hl : (l ++ encCell x).length ≤ 1099511627776) :
    Calls Tryz.prog 52 #[.pointer (some ⟨wb, 0, none⟩), .agg cs.toArray] w (Puts w wb v (l ++ encCell x) (long || longCell x) B) := by
  obtain ⟨q1, rfl, hlen0, hr1⟩ := hx
  obtain ⟨A1, n1, c1, rfl⟩ := hr1.form
  try simp only [str]
  have hBw : B ≤ w.heap.size := Nat.le_trans h.base (Nat.le_of_lt h.lt)
  have HB := Lib.hid h.base; have HBV := Lib.hid h.baseV
  have hs0 := InPut.start h #[.string ⟨x.key.toArray⟩, .slice A1 n1 c1] 107
  have ST0 := Lib.hid hs0; clear h hs0
  have hfin : l ++ encCell x = l ++ encText x.key ++ encList encVersion x.versions := by simp [encCell]
  have hlong : (long || longCell x) = ((long || longText x.key) || longList longVersion x.versions) := by simp [longCell, longCmd, Bool.or_assoc]
  rw [hfin] at hl
  have HFIN := Lib.hid hfin; have HLONG := Lib.hid hlong; clear hfin hlong
  simp only [List.length_append, enc_ints_length, List.length_cons, List.length_nil] at hl
  have HR1 := Lib.hid hr1; clear hr1
  go_enter Tryz.func52, Tryz.ntmps52
  go_wp2_with fail
  (with_reducible refine (st_text ST0.out x.key (by first | omega | (simp only [List.length_append, enc_ints_length, List.length_cons, List.length_nil]; omega)) hlen0).mono ?_)
  rintro e w1 ⟨rfl, v1, st⟩
  have ST1 := Lib.hid st; clear st
  have c1_1 := ST1.out.cell 1 rfl
  go_wp2_with fail
  (with_reducible refine (puts_Version wb _ _ _ B _ x.versions _ ST1.out.wat ((HR1.out).imp (fun _ h => h) (ST1.out.keepB HB.out HBV.out hBw) fun _ _ h => h) (by first | omega | (simp only [List.length_append, enc_ints_length, List.length_cons, List.length_nil]; omega))).mono ?_)
  rintro e w2 g
  obtain ⟨rfl, v2, st⟩ := ST1.out.step g
  clear g
  have ST2 := Lib.hid st; clear st
  clear c1_1
  go_wp2_with fail
  go_end0
  rw [HFIN.out, HLONG.out]
  exact ST2.out.done

set_option maxHeartbeats 1600000 in
set_option maxRecDepth 100000 in
theorem put_Line (wb : Nat) (v : Value) (l : Bs) (long : Bool) (B : Nat) (x : Line) (cs : List Value) (w : World) (h : WrAt w wb v l long B) (hx : elLine w (fun k => k < B) x cs) (hl : (l ++ encLine x).length ≤ 1099511627776) :
    Calls Tryz.prog 54 #[.pointer (some ⟨wb, 0, none⟩), .agg cs.toArray] w (Puts w wb v (l ++ encLine x) (long || longLine x) B) := by
  obtain ⟨q1, q2, rfl, hlen0, hr1, hr2⟩ := hx
  obtain ⟨A1, n1, c1, rfl⟩ := hr1.form
  obtain ⟨A2, n2, c2, rfl⟩ := hr2.form
  try simp only [str]
  have hBw : B ≤ w.heap.size := Nat.le_trans h.base (Nat.le_of_lt h.lt)
  have HB := Lib.hid h.base; have HBV := Lib.hid h.baseV
  have hs0 := InPut.start h #[.string ⟨x.key.toArray⟩, .slice A1 n1 c1, .slice A2 n2 c2] 112
  have ST0 := Lib.hid hs0; clear h hs0
  have hfin : l ++ encLine x = l ++ encText x.key ++ encList encHold x.holders ++ encList encHold x.queue := by simp [encLine]
  have hlong : (long || longLine x) = (((long || longText x.key) || longList longHold x.holders) || longList longHold x.queue) := by simp [longLine, longCmd, Bool.or_assoc]
  rw [hfin] at hl
  have HFIN := Lib.hid hfin; have HLONG := Lib.hid hlong; clear hfin hlong
  simp only [List.length_append, enc_ints_length, List.length_cons, List.length_nil] at hl
  have HR1 := Lib.hid hr1; clear hr1
  have HR2 := Lib.hid hr2; clear hr2
  go_enter Tryz.func54, Tryz.ntmps54
  go_wp2_with fail
  (with_reducible refine (st_text ST0.out x.key (by first | omega | (simp only [List.length_append, enc_ints_length, List.length_cons, List.length_nil]; omega)) hlen0).mono ?_)
  rintro e w1 ⟨rfl, v1, st⟩
  have ST1 := Lib.hid st; clear st
  have c1_1 := ST1.out.cell 1 rfl
  go_wp2_with fail
  (with_reducible refine (puts_Hold wb _ _ _ B _ x.holders _ ST1.out.wat ((HR1.out).imp (fun _ h => h) (ST1.out.keepB HB.out HBV.out hBw) fun _ _ h => h) (by first | omega | (simp only [List.length_append, enc_ints_length, List.length_cons, List.length_nil]; omega))).mono ?_)
  rintro e w2 g
  obtain ⟨rfl, v2, st⟩ := ST1.out.step g
  clear g
  have ST2 := Lib.hid st; clear st
  clear c1_1
  have c2_2 := ST2.out.cell 2 rfl
  go_wp2_with fail
  (with_reducible refine (puts_Hold wb _ _ _ B _ x.queue _ ST2.out.wat ((HR2.out).imp (fun _ h => h) (ST2.out.keepB HB.out HBV.out hBw) fun _ _ h => h) (by first | omega | (simp only [List.length_append, enc_ints_length, List.length_cons, List.length_nil]; omega))).mono ?_)
  rintro e w3 g
  obtain ⟨rfl, v3, st⟩ := ST2.out.step g
  clear g
  have ST3 := Lib.hid st; clear st
  clear c2_2
  go_wp2_with fail
  go_end0
  rw [HFIN.out, HLONG.out]
  exact ST3.out.done

set_option maxHeartbeats 1600000 in
set_option maxRecDepth 100000 in
theorem put_Live (wb : Nat) (v : Value) (l : Bs) (long : Bool) (B : Nat) (x : Live) (cs : List Value) (w : World) (h : WrAt w wb v l long B) (hx : elLive w (fun k => k < B) x cs) (hl : (l ++ encLive x).length ≤ 1099511627776) :
    Calls Tryz.prog 58 #[.pointer (some ⟨wb, 0, none⟩), .agg cs.toArray] w (Puts w wb v (l ++ encLive x) (long || longLive x) B) := by
  obtain ⟨q1, rfl, hlen0, hlen1, hr1⟩ := hx
  obtain ⟨A1, n1, c1, rfl⟩ := hr1.form
  try simp only [str]
  have hBw : B ≤ w.heap.size := Nat.le_trans h.base (Nat.le_of_lt h.lt)
  have HB := Lib.hid h.base; have HBV := Lib.hid h.baseV
  have hs0 := InPut.start h #[.int .i64 x.tx, .int .i64 x.attempt, .int .i64 x.last.kind, .int .i64 x.last.tx, .int .i64 x.last.attempt, .int .i64 x.last.stamp, .int .i64 x.last.op, .string ⟨x.last.key.toArray⟩, .string ⟨x.last.value.toArray⟩, .int .i64 x.last.mode, .bool x.last.yes, .slice A1 n1 c1] 121
  have ST0 := Lib.hid hs0; clear h hs0
  have hfin : l ++ encLive x = l ++ [x.tx, x.attempt].flatMap encInt ++ encCmd x.last ++ encList encWrite x.writes := by simp [encLive]
  have hlong : (long || longLive x) = ((long || longCmd x.last) || longList longWrite x.writes) := by simp [longLive, longCmd, Bool.or_assoc]
  rw [hfin] at hl
  have HFIN := Lib.hid hfin; have HLONG := Lib.hid hlong; clear hfin hlong
  simp only [List.length_append, enc_ints_length, List.length_cons, List.length_nil] at hl
  have HR1 := Lib.hid hr1; clear hr1
  go_enter Tryz.func58, Tryz.ntmps58
  go_wp2_with fail
  (with_reducible refine (st_ints ST0.out [x.tx, x.attempt] 2 rfl (by first | omega | (simp only [List.length_append, enc_ints_length, List.length_cons, List.length_nil]; omega)) ?sz ?ar).mono ?_)
  case sz => simp
  case ar => rfl
  rintro e w1 ⟨rfl, v1, st⟩
  have ST1 := Lib.hid st; clear st
  have c1_2 := ST1.out.cell 2 rfl
  have c1_3 := ST1.out.cell 3 rfl
  have c1_4 := ST1.out.cell 4 rfl
  have c1_5 := ST1.out.cell 5 rfl
  have c1_6 := ST1.out.cell 6 rfl
  have c1_7 := ST1.out.cell 7 rfl
  have c1_8 := ST1.out.cell 8 rfl
  have c1_9 := ST1.out.cell 9 rfl
  have c1_10 := ST1.out.cell 10 rfl
  go_wp2_with fail
  have HCMD : elCmd x.last [.int .i64 x.last.kind, .int .i64 x.last.tx, .int .i64 x.last.attempt, .int .i64 x.last.stamp, .int .i64 x.last.op, .string ⟨x.last.key.toArray⟩, .string ⟨x.last.value.toArray⟩, .int .i64 x.last.mode, .bool x.last.yes] := ⟨rfl, hlen0, hlen1⟩
  (with_reducible refine (put_Cmd wb _ _ _ B x.last [.int .i64 x.last.kind, .int .i64 x.last.tx, .int .i64 x.last.attempt, .int .i64 x.last.stamp, .int .i64 x.last.op, .string ⟨x.last.key.toArray⟩, .string ⟨x.last.value.toArray⟩, .int .i64 x.last.mode, .bool x.last.yes] _ ST1.out.wat HCMD (by first | omega | (simp only [List.length_append, enc_ints_length, List.length_cons, List.length_nil]; omega))).mono ?_)
  rintro e w2 g
  obtain ⟨rfl, v2, st⟩ := ST1.out.step g
  clear g
  have ST2 := Lib.hid st; clear st
  clear c1_2
  clear c1_3
  clear c1_4
  clear c1_5
  clear c1_6
  clear c1_7
  clear c1_8
  clear c1_9
  clear c1_10
  have c2_11 := ST2.out.cell 11 rfl
  go_wp2_with fail
  (with_reducible refine (puts_Write wb _ _ _ B _ x.writes _ ST2.out.wat ((HR1.out).imp (fun _ h => h) (ST2.out.keepB HB.out HBV.out hBw) fun _ _ h => h) (by first | omega | (simp only [List.length_append, enc_ints_length, List.length_cons, List.length_nil]; omega))).mono ?_)
  rintro e w3 g
  obtain ⟨rfl, v3, st⟩ := ST2.out.step g
  clear g
  have ST3 := Lib.hid st; clear st
  clear c2_11
  go_wp2_with fail
  go_end0
  rw [HFIN.out, HLONG.out]
  exact ST3.out.done

end Go.Proofs.YtllkjfadeaoicaaGreat
