/- The walks of cells.New, locks.New, status.New, shard.New. -/
import Derived.Test.YtllkjfadeaoicaaGreatJReads05
import Derived.Test.YtllkjfadeaoicaaGreatJReads03
set_option linter.unusedVariables false
set_option linter.unusedSimpArgs false
namespace Go.Proofs.YtllkjfadeaoicaaGreat
open Go.RowKit

theorem cells_New (w : World) : Calls Tryz.prog 66 #[] w fun e w' => e = .returned (.pointer (some ⟨w.heap.size + 1, 0, none⟩)) ∧
    w' = (w.alloc (.map #[] 0)).alloc (.cells #[.map (some w.heap.size), .int .i64 0, .int .i64 0] 216) := by
  have hmm := @run_makeMap Tryz.prog
  go_enter Tryz.func66, Tryz.ntmps66
  go_wp2_with fail
  go_ret
  exact ⟨rfl, rfl⟩
theorem locks_New (w : World) : Calls Tryz.prog 67 #[] w fun e w' => e = .returned (.pointer (some ⟨w.heap.size, 0, none⟩)) ∧
    w' = w.alloc (.cells #[.slice none 0 0] 218) := by
  go_enter Tryz.func67, Tryz.ntmps67
  go_wp2_with fail
  go_ret
  exact ⟨rfl, rfl⟩
theorem status_New (w : World) : Calls Tryz.prog 68 #[] w fun e w' => e = .returned (.pointer (some ⟨w.heap.size, 0, none⟩)) ∧
    w' = w.alloc (.cells #[.slice none 0 0] 220) := by
  go_enter Tryz.func68, Tryz.ntmps68
  go_wp2_with fail
  go_ret
  exact ⟨rfl, rfl⟩
/-- what shard.New makes -/
def newW (w : World) : World :=
  ((((((w.alloc (.map #[] 0)).alloc (.cells #[.map (some w.heap.size), .int .i64 0, .int .i64 0] 216)).alloc (.cells #[.slice none 0 0] 218)).alloc (.cells #[.slice none 0 0] 220)).alloc (.map #[] 0)).alloc (.map #[] 0)).alloc
    (.cells #[.int .i64 0, .int .i64 0, .pointer (some ⟨w.heap.size + 1, 0, none⟩), .pointer (some ⟨w.heap.size + 2, 0, none⟩), .pointer (some ⟨w.heap.size + 3, 0, none⟩), .map (some (w.heap.size + 4)), .map (some (w.heap.size + 5))] 155)
theorem shard_New (w : World) : Calls Tryz.prog 16 #[] w fun e w' => e = .returned (.pointer (some ⟨w.heap.size + 6, 0, none⟩)) ∧ w' = newW w := by
  have hmm := @run_makeMap Tryz.prog
  go_enter Tryz.func16, Tryz.ntmps16
  go_wp2_with (first
    | (go_at_call 66; refine (cells_New _).mono ?_; rintro e w' ⟨rfl, rfl⟩)
    | (go_at_call 67; refine (locks_New _).mono ?_; rintro e w' ⟨rfl, rfl⟩)
    | (go_at_call 68; refine (status_New _).mono ?_; rintro e w' ⟨rfl, rfl⟩))
  go_ret
  exact ⟨rfl, rfl⟩
theorem newW_size (w : World) : (newW w).heap.size = w.heap.size + 7 := by unfold newW; simp
theorem newW_grown (w : World) : w.grownBy (newW w) none := by
  unfold newW
  exact grownBy_trans' (grownBy_trans' (grownBy_trans' (grownBy_trans' (grownBy_trans' (grownBy_trans' (World.grownBy_alloc w _ none) (World.grownBy_alloc _ _ none) (.inl rfl)) (World.grownBy_alloc _ _ none) (.inl rfl)) (World.grownBy_alloc _ _ none) (.inl rfl)) (World.grownBy_alloc _ _ none) (.inl rfl)) (World.grownBy_alloc _ _ none) (.inl rfl)) (World.grownBy_alloc _ _ none) (.inl rfl)
theorem alloc_sz (w : World) (o : Obj) : (w.alloc o).heap.size = w.heap.size + 1 := by simp
theorem alloc_get (w : World) (o : Obj) (k : Nat) : (w.alloc o).heap[k]? = if k = w.heap.size then some o else w.heap[k]? := by
  show (w.heap.push o)[k]? = _
  rw [Array.getElem?_push]
theorem newW_heap (w : World) : (newW w).heap[w.heap.size]? = some (.map #[] 0) ∧ (newW w).heap[w.heap.size + 1]? = some (.cells #[.map (some w.heap.size), .int .i64 0, .int .i64 0] 216 (0, 0)) ∧
    (newW w).heap[w.heap.size + 2]? = some (.cells #[.slice none 0 0] 218 (0, 0)) ∧ (newW w).heap[w.heap.size + 3]? = some (.cells #[.slice none 0 0] 220 (0, 0)) ∧
    (newW w).heap[w.heap.size + 4]? = some (.map #[] 0) ∧ (newW w).heap[w.heap.size + 5]? = some (.map #[] 0) ∧
    (newW w).heap[w.heap.size + 6]? = some (.cells #[.int .i64 0, .int .i64 0, .pointer (some ⟨w.heap.size + 1, 0, none⟩), .pointer (some ⟨w.heap.size + 2, 0, none⟩), .pointer (some ⟨w.heap.size + 3, 0, none⟩), .map (some (w.heap.size + 4)), .map (some (w.heap.size + 5))] 155 (0, 0)) := by
  unfold newW
  simp only [alloc_get, alloc_sz]
  refine ⟨?_, ?_, ?_, ?_, ?_, ?_, ?_⟩ <;> (repeat (first | rw [if_pos trivial] | rw [if_pos (by omega)] | rw [if_neg (by omega)]))
end Go.Proofs.YtllkjfadeaoicaaGreat
