/- The walk of shard.From at an empty whole. -/
import Derived.Test.YtllkjfadeaoicaaGreatJReads06
import Derived.Deep.AppendSrc
set_option linter.unusedVariables false
set_option linter.unusedSimpArgs false
namespace Go.Proofs.YtllkjfadeaoicaaGreat
open Go.RowKit

set_option maxHeartbeats 400000 in
set_option maxRecDepth 100000 in
theorem cells_From0 (A : Option Addr) (c : Nat) (w : World) : Calls Tryz.prog 193 #[.slice A 0 c, .int .i64 0] w fun e w' => e = .returned (.tuple #[.pointer (some ⟨w.heap.size + 1, 0, none⟩), .int .i64 0]) ∧
    w' = (w.alloc (.map #[] 0)).alloc (.cells #[.map (some w.heap.size), .int .i64 0, .int .i64 0] 216) := by
  go_enter Tryz.func193, Tryz.ntmps193
  go_wp2_with (first
    | (go_at_call 170; refine (cells_moment _ _).mono ?_; rintro e w' ⟨rfl, rfl⟩; rw [upTo_yes (by omega) (by omega)])
    | (go_at_call 66; refine (cells_New _).mono ?_; rintro e w' ⟨rfl, rfl⟩))
  go_loop [19] (fun i => i = .int .i64 0) (fun _ => 0)
  case atStart => exact rfl
  case round =>
    obtain rfl := hrel
    go_wp2_with fail
    go_ret2
    exact ⟨rfl, rfl⟩

set_option maxHeartbeats 400000 in
set_option maxRecDepth 100000 in
theorem locks_copied0 (A : Option Addr) (c : Nat) (w : World) : Calls Tryz.prog 201 #[.slice A 0 c] w fun e w' => e = .returned (.slice none 0 0) ∧ w = w' := by
  go_enter Tryz.func201, Tryz.ntmps201
  go_wp2_with fail
  go_loop [3, 8] (fun v i => v = .slice none 0 0 ∧ i = .int .i64 0) (fun _ _ => 0)
  case atStart => exact ⟨rfl, rfl⟩
  case round =>
    obtain ⟨rfl, rfl⟩ := hrel
    go_wp2_with fail
    go_ret
    exact ⟨rfl, rfl⟩
set_option maxHeartbeats 400000 in
set_option maxRecDepth 100000 in
theorem locks_From0 (A : Option Addr) (c : Nat) (w : World) : Calls Tryz.prog 194 #[.slice A 0 c] w fun e w' => e = .returned (.tuple #[.pointer (some ⟨w.heap.size, 0, none⟩), .int .i64 0]) ∧
    w' = w.alloc (.cells #[.slice none 0 0] 218) := by
  go_enter Tryz.func194, Tryz.ntmps194
  go_wp2_with fail
  go_loop [8] (fun i => i = .int .i64 0) (fun _ => 0)
  case atStart => exact rfl
  case round =>
    obtain rfl := hrel
    go_wp2_with (go_at_call 201; refine (locks_copied0 _ _ _).mono ?_; rintro e w' ⟨rfl, rfl⟩)
    go_ret2
    exact ⟨rfl, rfl⟩
section
variable {P : Program} {ops : Array Oper} {rest : List Oper} {o : Oper} {a : Act} {Q : Exit → Act → World → Prop}
/-- append(v, x...) where x has no elements -/
theorem app_zero {W : World} (hgd : o.guard = none) (s x : Operand) (t e : TypeId) (i : TypeInfo)
    (ho : o.op = .call { callee := .builtin .append, args := #[s, x], argTypes := #[t, t] })
    (ht : P.underlying t = some (.slice e)) (hi : P.info? e = some i) (b off n m : Nat) (A : Option Addr) (c : Nat)
    (hs : a.eval s = .slice (some ⟨b, off, none⟩) n m) (hx : a.eval x = .slice A 0 c) (hnm : n ≤ m)
    (h : wpList P ops Q rest (a.put o.dst (.slice (some ⟨b, off, none⟩) n m)) W) : wpList P ops Q (o :: rest) a W := by
  refine wpList_plain hgd fun K hK => ?_
  have hsrc : Src P i.size t (.slice A 0 c) 0 [] W := by
    cases A with
    | none => exact Src.ofNil W ht c
    | some ad => exact Src.ofSlice W ht ad 0 c [] (by simp) (fun j u hj => by simp at hj) (fun u hu => by cases hu)
  have hr := run_append_room_src (P := P) (w := W) t t o.type e i ht hi b off n m (.slice A 0 c) 0 [] hsrc (by omega) (fun j hj => absurd hj (by simp)) (fun j hj => absurd hj (by simp))
  unfold Oper.wp execOp
  simp only [ho, resolve, invoke, builtin, Sem.run_bind, Sem.run_pure, Result.andThen_ok, List.map_toArray, List.map_cons, List.map_nil, hs, hx, hr]
  exact hK _ _ h
end
set_option maxHeartbeats 400000 in
set_option maxRecDepth 100000 in
theorem clone_Row0 (A : Option Addr) (c : Nat) (w : World) :
    Calls Tryz.prog 202 #[.slice A 0 c] w fun e w' => ∃ B d, e = .returned (.slice B 0 d) ∧ w.grownBy w' none := by
  obtain ⟨i0, hi0, hz0, hz1, hz2⟩ := info_parts Tryz.infoRow
  cases A with
  | none =>
    go_enter Tryz.func202, Tryz.ntmps202
    go_wp2_with fail
    go_ret
    exact ⟨none, 0, rfl, grownBy_refl w _⟩
  | some ad =>
    go_enter Tryz.func202, Tryz.ntmps202
    go_wp2_with (at_builtin; refine app_zero rfl _ _ 29 116 i0 rfl Tryz.underlying29 hi0 w.heap.size 0 0 0 (some ad) c rfl rfl (Nat.le_refl _) ?_)
    go_ret
    exact ⟨_, 0, rfl, World.grownBy_alloc w _ none⟩
set_option maxHeartbeats 400000 in
set_option maxRecDepth 100000 in
theorem status_From0 (A : Option Addr) (c : Nat) (w : World) : Calls Tryz.prog 195 #[.slice A 0 c] w fun e w' => ∃ B d W, e = .returned (.tuple #[.pointer (some ⟨W.heap.size, 0, none⟩), .int .i64 0]) ∧
    w.grownBy W none ∧ w' = W.alloc (.cells #[.slice B 0 d] 220) := by
  go_enter Tryz.func195, Tryz.ntmps195
  go_wp2_with (go_at_call 202; refine (clone_Row0 A c _).mono ?_; rintro e w1 ⟨B, d, rfl, hg⟩; have HG := Lib.hid hg; clear hg)
  go_loop [13] (fun i => i = .int .i64 0) (fun _ => 0)
  case atStart => exact rfl
  case round =>
    obtain rfl := hrel
    go_wp2_with fail
    go_ret2
    exact ⟨B, d, w1, rfl, HG.out, rfl⟩
theorem cells_Last (cb : Nat) (m : Value) (last floor : Int) (w : World) (h : w.heap[cb]? = some (.cells #[m, .int .i64 last, .int .i64 floor] 216 (0, 0))) :
    Calls Tryz.prog 196 #[.pointer (some ⟨cb, 0, none⟩)] w fun e w' => e = .returned (.int .i64 last) ∧ w' = w := by
  have h1 : w.cell? ⟨cb, 1, none⟩ = some (.int .i64 last) := by rw [cell_of h]; rfl
  clear h
  go_enter Tryz.func196, Tryz.ntmps196
  go_wp2_with fail
  go_ret
  exact ⟨rfl, rfl⟩

theorem cells_From0' (A : Option Addr) (c : Nat) (w : World) : Calls Tryz.prog 193 #[.slice A 0 c, .int .i64 0] w fun e w' => ∃ cb m, e = .returned (.tuple #[.pointer (some ⟨cb, 0, none⟩), .int .i64 0]) ∧
    w'.heap[cb]? = some (.cells #[m, .int .i64 0, .int .i64 0] 216 (0, 0)) ∧ w.grownBy w' none ∧ w.heap.size ≤ cb := by
  refine (cells_From0 A c w).mono ?_
  rintro e w' ⟨rfl, rfl⟩
  exact ⟨w.heap.size + 1, _, rfl, by rw [alloc_get, alloc_sz, if_pos rfl], grownBy_trans' (World.grownBy_alloc w _ none) (World.grownBy_alloc _ _ none) (.inl rfl), by omega⟩
theorem locks_From0' (A : Option Addr) (c : Nat) (w : World) : Calls Tryz.prog 194 #[.slice A 0 c] w fun e w' => ∃ lb, e = .returned (.tuple #[.pointer (some ⟨lb, 0, none⟩), .int .i64 0]) ∧
    w'.heap[lb]? = some (.cells #[.slice none 0 0] 218 (0, 0)) ∧ w.grownBy w' none ∧ w.heap.size ≤ lb := by
  refine (locks_From0 A c w).mono ?_
  rintro e w' ⟨rfl, rfl⟩
  exact ⟨w.heap.size, rfl, heap_alloc_new w _, World.grownBy_alloc w _ none, by omega⟩
theorem status_From0' (A : Option Addr) (c : Nat) (w : World) : Calls Tryz.prog 195 #[.slice A 0 c] w fun e w' => ∃ tb, e = .returned (.tuple #[.pointer (some ⟨tb, 0, none⟩), .int .i64 0]) ∧
    w.grownBy w' none ∧ w.heap.size ≤ tb := by
  refine (status_From0 A c w).mono ?_
  rintro e w' ⟨B, d, W, rfl, hg, rfl⟩
  exact ⟨W.heap.size, rfl, grownBy_trans' hg (World.grownBy_alloc W _ none) (.inl rfl), hg.size⟩

set_option maxHeartbeats 800000 in
set_option maxRecDepth 100000 in
theorem shard_parts0 (sb : Nat) (p2 p3 p4 m5 m6 : Value) (A1 A2 A3 A4 A5 : Option Addr) (c1 c2 c3 c4 c5 : Nat) (w : World)
    (h : w.heap[sb]? = some (.cells #[.int .i64 0, .int .i64 0, p2, p3, p4, m5, m6] 155 (0, 0))) :
    Calls Tryz.prog 130 #[.pointer (some ⟨sb, 0, none⟩), .agg #[.int .i64 0, .int .i64 0, .slice A1 0 c1, .slice A2 0 c2, .slice A3 0 c3, .slice A4 0 c4, .slice A5 0 c5]] w
      fun e w' => ∃ cb lb tb, e = .returned (.bool true) ∧ w'.heap[sb]? = some (.cells #[.int .i64 0, .int .i64 0, .pointer (some ⟨cb, 0, none⟩), .pointer (some ⟨lb, 0, none⟩), .pointer (some ⟨tb, 0, none⟩), m5, m6] 155 (0, 0)) ∧
        w'.heap[lb]? = some (.cells #[.slice none 0 0] 218 (0, 0)) ∧ Upd (fun k => k = sb) w w' := by
  have hlt := lt_of_heap h
  have hb1 := heap_alloc_new w (.cells #[.int .i64 0, .int .i64 0, .slice A1 0 c1, .slice A2 0 c2, .slice A3 0 c3, .slice A4 0 c4, .slice A5 0 c5] 33)
  have hs1 := heap_keep (World.grownBy_alloc w (.cells #[.int .i64 0, .int .i64 0, .slice A1 0 c1, .slice A2 0 c2, .slice A3 0 c3, .slice A4 0 c4, .slice A5 0 c5] 33) none) h (by simp)
  have H1 := Lib.hid hs1; have B1 := Lib.hid hb1
  clear h hb1 hs1
  have hw1 : Hid (Upd (fun k => k = sb) w (w.alloc (.cells #[.int .i64 0, .int .i64 0, .slice A1 0 c1, .slice A2 0 c2, .slice A3 0 c3, .slice A4 0 c4, .slice A5 0 c5] 33))) := Upd.alloc _ w _
  have hz1 : w.heap.size < (w.alloc (.cells #[.int .i64 0, .int .i64 0, .slice A1 0 c1, .slice A2 0 c2, .slice A3 0 c3, .slice A4 0 c4, .slice A5 0 c5] 33)).heap.size := by rw [alloc_sz]; omega
  have hne : sb ≠ w.heap.size := by omega
  go_enter Tryz.func130, Tryz.ntmps130
  go_wp2_with fail
  (with_reducible refine (cells_From0' _ _ _).mono ?_)
  rintro e w2 ⟨cb, m, rfl, q1, q2, q3⟩
  have hs := heap_keep q2 H1.out (by simp)
  have hb := heap_keep q2 B1.out (by simp)
  have x1 : w2.cell? ⟨sb, 2, none⟩ = some p2 := by rw [cell_of hs]; rfl
  have x2 : w2.frozen? ⟨sb, 2, none⟩ = false := frozen_of hs 2
  have x3 : w2.cell? ⟨w.heap.size, 3, none⟩ = some (.slice A2 0 c2) := by rw [cell_of hb]; rfl
  have H2 : Hid ((w2.setCell ⟨sb, 2, none⟩ (.pointer (some ⟨cb, 0, none⟩))).heap[sb]? = _) := heap_set hs 2 _
  have B2 : Hid ((w2.setCell ⟨sb, 2, none⟩ (.pointer (some ⟨cb, 0, none⟩))).heap[w.heap.size]? = _) := heap_keep (grownBy_set w2 sb 2 _) hb (by simp; omega)
  have C2 : Hid ((w2.setCell ⟨sb, 2, none⟩ (.pointer (some ⟨cb, 0, none⟩))).heap[cb]? = _) := heap_keep (grownBy_set w2 sb 2 _) q1 (by simp; omega)
  have U2 := Lib.hid ((hw1.out.trans ((Upd.of_grown q2).mono (T := fun k => k = sb) (fun k g => by cases g)) (fun k g => .inl g)).trans (Upd.set w2 sb 2 (.pointer (some ⟨cb, 0, none⟩))) (fun k g => .inl g))
  have hz2 : w.heap.size < (w2.setCell ⟨sb, 2, none⟩ (.pointer (some ⟨cb, 0, none⟩))).heap.size := by have := q2.size; simp; simp at this; omega
  have hcb : cb < (w2.setCell ⟨sb, 2, none⟩ (.pointer (some ⟨cb, 0, none⟩))).heap.size := lt_of_heap C2.out
  clear hs hb q1 q2
  go_wp2_with fail
  clear x1 x2 x3
  (with_reducible refine (locks_From0' _ _ _).mono ?_)
  rintro e w3 ⟨lb, rfl, q1, q2, q4⟩
  have hs := heap_keep q2 H2.out (by simp)
  have hb := heap_keep q2 B2.out (by simp)
  have hc := heap_keep q2 C2.out (by simp)
  have x1 : w3.cell? ⟨sb, 3, none⟩ = some p3 := by rw [cell_of hs]; rfl
  have x2 : w3.frozen? ⟨sb, 3, none⟩ = false := frozen_of hs 3
  have x3 : w3.cell? ⟨w.heap.size, 4, none⟩ = some (.slice A3 0 c3) := by rw [cell_of hb]; rfl
  have H3 : Hid ((w3.setCell ⟨sb, 3, none⟩ (.pointer (some ⟨lb, 0, none⟩))).heap[sb]? = _) := heap_set hs 3 _
  have B3 : Hid ((w3.setCell ⟨sb, 3, none⟩ (.pointer (some ⟨lb, 0, none⟩))).heap[w.heap.size]? = _) := heap_keep (grownBy_set w3 sb 3 _) hb (by simp; omega)
  have C3 : Hid ((w3.setCell ⟨sb, 3, none⟩ (.pointer (some ⟨lb, 0, none⟩))).heap[cb]? = _) := heap_keep (grownBy_set w3 sb 3 _) hc (by simp; omega)
  have L3 : Hid ((w3.setCell ⟨sb, 3, none⟩ (.pointer (some ⟨lb, 0, none⟩))).heap[lb]? = _) := heap_keep (grownBy_set w3 sb 3 _) q1 (by simp; omega)
  have U3 := Lib.hid ((U2.out.trans ((Upd.of_grown q2).mono (T := fun k => k = sb) (fun k g => by cases g)) (fun k g => .inl g)).trans (Upd.set w3 sb 3 (.pointer (some ⟨lb, 0, none⟩))) (fun k g => .inl g))
  have hz3 : w.heap.size < (w3.setCell ⟨sb, 3, none⟩ (.pointer (some ⟨lb, 0, none⟩))).heap.size := by have := q2.size; simp; simp at this hz2; omega
  have hlb : lb < (w3.setCell ⟨sb, 3, none⟩ (.pointer (some ⟨lb, 0, none⟩))).heap.size := lt_of_heap L3.out
  clear hs hb hc q1 q2
  go_wp2_with fail
  clear x1 x2 x3
  (with_reducible refine (status_From0' _ _ _).mono ?_)
  rintro e w4 ⟨tb, rfl, q2, q5⟩
  have hs := heap_keep q2 H3.out (by simp)
  have hb := heap_keep q2 B3.out (by simp)
  have hc := heap_keep q2 C3.out (by simp)
  have hl := heap_keep q2 L3.out (by simp)
  have x1 : w4.cell? ⟨sb, 4, none⟩ = some p4 := by rw [cell_of hs]; rfl
  have x2 : w4.frozen? ⟨sb, 4, none⟩ = false := frozen_of hs 4
  have x3 : w4.cell? ⟨sb, 2, none⟩ = some (.pointer (some ⟨cb, 0, none⟩)) := by rw [cell_of hs]; rfl
  have x4 : w4.cell? ⟨w.heap.size, 1, none⟩ = some (.int .i64 0) := by rw [cell_of hb]; rfl
  have H4 : Hid ((w4.setCell ⟨sb, 4, none⟩ (.pointer (some ⟨tb, 0, none⟩))).heap[sb]? = _) := heap_set hs 4 _
  have hc4 : (w4.setCell ⟨sb, 4, none⟩ (.pointer (some ⟨tb, 0, none⟩))).heap[cb]? = _ := heap_keep (grownBy_set w4 sb 4 _) hc (by simp; omega)
  have L4 : Hid ((w4.setCell ⟨sb, 4, none⟩ (.pointer (some ⟨tb, 0, none⟩))).heap[lb]? = _) := heap_keep (grownBy_set w4 sb 4 _) hl (by simp; omega)
  have U4 := Lib.hid ((U3.out.trans ((Upd.of_grown q2).mono (T := fun k => k = sb) (fun k g => by cases g)) (fun k g => .inl g)).trans (Upd.set w4 sb 4 (.pointer (some ⟨tb, 0, none⟩))) (fun k g => .inl g))
  have hlast (n : Nat) := cells_Last cb _ 0 0 ((w4.setCell ⟨sb, 4, none⟩ (.pointer (some ⟨tb, 0, none⟩))).drewN n) hc4
  have HL := Lib.hid hlast
  clear hs hb hc hl q2 hc4 hlast
  go_wp2_with fail
  go_quiet ((go_at_call 196; exact Calls.quiet_of_same (HL.out _)))
  go_wp2_with fail
  go_ret
  exact ⟨cb, lb, tb, rfl, H4.out, L4.out, U4.out.drewN nq⟩
end Go.Proofs.YtllkjfadeaoicaaGreat
