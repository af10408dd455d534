/- Words on memory: a map whose entries are known one by one; over any program. -/
import Derived.Maps.OwnSet
import Derived.Test.YtllkjfadeaoicaaGreatJReads01
set_option linter.unusedVariables false
set_option linter.unusedSimpArgs false
namespace Go.Proofs.YtllkjfadeaoicaaGreat
open Go.Maps (Keyed has)

/-- an element's value itself -/
def heldR (v : Value) : Option (DataW Value × List MemPlace) := some (.held v, [])
def ents {α : Type} (key : α → Lit) (val : α → Value) (l : List α) : DataW Value := .map (l.map fun x => (key x, .held (val x)))
/-- block b is a map that has these entries -/
def MapIs {α : Type} (w : World) (P : Program) (k : TypeId) (b n : Nat) (key : α → Lit) (val : α → Value) (l : List α) : Prop := w.ownsMap P k heldR b n (ents key val l)

section
variable {α : Type} {P : Program} {w : World} {k : TypeId} {b n : Nat} {key : α → Lit} {val : α → Value} {l : List α}
theorem mapIs_congr {val' : α → Value} (h : MapIs w P k b n key val l) (hv : ∀ x ∈ l, val x = val' x) : MapIs w P k b n key val' l := by
  unfold MapIs ents at *
  have : l.map (fun x => (key x, (DataW.held (val x) : DataW Value))) = l.map fun x => (key x, .held (val' x)) := List.map_congr_left fun x hx => by rw [hv x hx]
  rw [← this]; exact h
theorem find_ents (kl : Lit) : ∀ l : List α, (l.map fun x => (key x, (DataW.held (val x) : DataW Value))).find? (fun p => p.1.sameKey kl) = (l.find? fun x => (key x).sameKey kl).map fun x => (key x, .held (val x))
  | [] => rfl
  | x :: l => by
    rw [List.map_cons, List.find?_cons, List.find?_cons]
    cases h : (key x).sameKey kl
    · exact find_ents kl l
    · rfl
theorem at_some {kl : Lit} {x : α} (h : l.find? (fun x => (key x).sameKey kl) = some x) (z : DataW Value) : (ents key val l).atKey kl z = .held (val x) ∧ has (ents key val l) kl = true := by
  have e := find_ents (key := key) (val := val) kl l
  rw [h] at e
  refine ⟨by unfold ents DataW.atKey; simp only [e, Option.map_some], ?_⟩
  unfold ents
  rw [Maps.has_eq, List.any_eq_true]
  have := List.find?_some e
  exact ⟨_, List.mem_of_find?_eq_some e, this⟩
theorem at_none {kl : Lit} (h : l.find? (fun x => (key x).sameKey kl) = none) (z : DataW Value) : (ents key val l).atKey kl z = z ∧ has (ents key val l) kl = false := by
  have e := find_ents (key := key) (val := val) kl l
  rw [h] at e
  refine ⟨by unfold ents DataW.atKey; simp only [e, Option.map_none], ?_⟩
  unfold ents
  rw [Maps.has_eq]
  rw [Option.map_none, List.find?_eq_none] at e
  rw [List.any_eq_false]
  exact fun p hp => e p hp
theorem heldR_inv {v : Value} {d : Value} {ps : List MemPlace} (h : heldR v = some (.held d, ps)) : v = d := by
  unfold heldR at h
  simp only [Option.some.injEq, Prod.mk.injEq, DataW.held.injEq] at h
  exact h.1

/-- v, ok := m[k], where it is -/
theorem wpList_look_some {ops : Array Oper} {rest : List Oper} {o : Oper} {a : Act} {Q : Exit → Act → World → Prop} (hg : o.guard = none) (m x : Operand) (t : TypeId) (hop : o.op = Op.lookup t m x true)
    (e : TypeId) (K : Keyed P k) (ht : P.underlying t = some (.map k e)) {z : Value} (hz : (zeroValue e).run P w = .ok z w) (hm : a.eval m = .map (some b)) (hown : MapIs w P k b n key val l)
    (kv : Value) (kl : Lit) (hx : a.eval x = kv) (hkey : keyOf P k kv = some kl) {y : α} (hf : l.find? (fun x => (key x).sameKey kl) = some y)
    (hK : wpList P ops Q rest (a.put o.dst (.tuple #[val y, .bool true])) w) : wpList P ops Q (o :: rest) a w := by
  refine wpList_lookup_own_ok w hg m x t hop k e K ht heldR hz (.held z) [] rfl b n _ hm hown kv kl hx hkey fun v ps hv => ?_
  obtain ⟨h1, h2⟩ := at_some (key := key) (val := val) hf (.held z)
  rw [h1] at hv
  rw [heldR_inv hv, h2]; exact hK
theorem wpList_look_none {ops : Array Oper} {rest : List Oper} {o : Oper} {a : Act} {Q : Exit → Act → World → Prop} (hg : o.guard = none) (m x : Operand) (t : TypeId) (hop : o.op = Op.lookup t m x true)
    (e : TypeId) (K : Keyed P k) (ht : P.underlying t = some (.map k e)) {z : Value} (hz : (zeroValue e).run P w = .ok z w) (hm : a.eval m = .map (some b)) (hown : MapIs w P k b n key val l)
    (kv : Value) (kl : Lit) (hx : a.eval x = kv) (hkey : keyOf P k kv = some kl) (hf : l.find? (fun x => (key x).sameKey kl) = none)
    (hK : wpList P ops Q rest (a.put o.dst (.tuple #[z, .bool false])) w) : wpList P ops Q (o :: rest) a w := by
  refine wpList_lookup_own_ok w hg m x t hop k e K ht heldR hz (.held z) [] rfl b n _ hm hown kv kl hx hkey fun v ps hv => ?_
  obtain ⟨h1, h2⟩ := at_none (key := key) (val := val) hf (.held z)
  rw [h1] at hv
  rw [heldR_inv hv, h2]; exact hK
/-- m[k] -/
theorem wpList_at_any {ops : Array Oper} {rest : List Oper} {o : Oper} {a : Act} {Q : Exit → Act → World → Prop} (hg : o.guard = none) (m x : Operand) (t : TypeId) (hop : o.op = Op.lookup t m x false)
    (e : TypeId) (K : Keyed P k) (ht : P.underlying t = some (.map k e)) {z : Value} (hz : (zeroValue e).run P w = .ok z w) (hm : a.eval m = .map (some b)) (hown : MapIs w P k b n key val l)
    (kv : Value) (kl : Lit) (hx : a.eval x = kv) (hkey : keyOf P k kv = some kl) (v : Value) (hf : ((l.find? fun x => (key x).sameKey kl).map val).getD z = v)
    (hK : wpList P ops Q rest (a.put o.dst v) w) : wpList P ops Q (o :: rest) a w := by
  refine wpList_plain hg fun K' hK' => ?_
  obtain ⟨u, ps, hrun, hu⟩ := World.ownsMap.lookup hown K ht hz (zd := .held z) (zp := []) rfl hkey
  have : u = v := by
    subst hf
    cases hl : l.find? fun x => (key x).sameKey kl with
    | none => rw [(at_none (key := key) (val := val) hl (.held z)).1] at hu; exact heldR_inv hu
    | some y => rw [(at_some (key := key) (val := val) hl (.held z)).1] at hu; exact heldR_inv hu
  subst this
  unfold Oper.wp
  simp [execOp, hop, hm, hx, hrun, Result.andThen]
  exact hK' _ _ hK
/-- m[k] = v -/
theorem wpList_store {β : Type} {key' : β → Lit} {val' : β → Value} {ops : Array Oper} {rest : List Oper} {o : Oper} {a : Act} {Q : Exit → Act → World → Prop} (hg : o.guard = none) (m x v : Operand) (t : TypeId) (hop : o.op = Op.mapUpdate t m x v)
    (e : TypeId) (K : Keyed P k) (ht : P.underlying t = some (.map k e)) (hm : a.eval m = .map (some b)) (hown : MapIs w P k b n key val l) (hn : n < maxLen)
    (kv u : Value) (kl : Lit) (hx : a.eval x = kv) (hv : a.eval v = u) (hkey : keyOf P k kv = some kl) (l' : List β) (hl' : (ents key val l).put kl (.held u) = ents key' val' l')
    (hK : ∀ w', MapIs w' P k b (n + 1) key' val' l' → w.grownBy w' (some b) → wpList P ops Q rest (a.put o.dst undef) w') : wpList P ops Q (o :: rest) a w := by
  refine wpList_mapUpdate_own w hg m x v t hop k e K ht heldR b n _ hm hown hn kv u kl hx hv hkey (.held u) [] rfl fun w' h1 h2 => hK w' ?_ h2
  unfold MapIs
  rw [← hl']; exact h1
/-- delete(m, k) -/
theorem wpList_del {ops : Array Oper} {rest : List Oper} {o : Oper} {a : Act} {Q : Exit → Act → World → Prop} (hg : o.guard = none) (m x : Operand) (t : TypeId) (hop : o.op = Op.call { callee := Callee.builtin Builtin.delete, args := #[m, x], argTypes := #[t, k] })
    (e : TypeId) (K : Keyed P k) (ht : P.underlying t = some (.map k e)) (hm : a.eval m = .map (some b)) (hown : MapIs w P k b n key val l) (kv : Value) (kl : Lit) (hx : a.eval x = kv) (hkey : keyOf P k kv = some kl)
    (hK : ∀ w', MapIs w' P k b n key val (l.filter fun x => !(key x).sameKey kl) → w.grownBy w' (some b) → wpList P ops Q rest (a.put o.dst (.tuple #[])) w') : wpList P ops Q (o :: rest) a w := by
  refine wpList_delete_own w hg m x t k hop e K ht heldR b n _ hm hown kv kl hx hkey fun w' h1 h2 => hK w' ?_ h2.grown
  have e : (ents key val l).del kl = ents key val (l.filter fun x => !(key x).sameKey kl) := by
    unfold ents DataW.del
    simp only [List.filter_map]
    rfl
  unfold MapIs
  rw [← e]; exact h1
/-- make -/
theorem mapIs_made (w : World) (P : Program) (k : TypeId) : MapIs (w.alloc (.map #[] 0)) P k w.heap.size 0 key val ([] : List α) := World.ownsMap_made w P k heldR
theorem MapIs.kept {w' : World} {row : Option Nat} (h : MapIs w P k b n key val l) (hg : w.grownBy w' row) (hne : some b ≠ row) : MapIs w' P k b n key val l := World.ownsMap.kept h hg hne
theorem MapIs.lt (h : MapIs w P k b n key val l) : b < w.heap.size := World.ownsMap.lt h
theorem MapIs.heap {w' : World} (h : MapIs w P k b n key val l) (e : w'.heap[b]? = w.heap[b]?) : MapIs w' P k b n key val l := by
  obtain ⟨es, clock, hb, r⟩ := h
  exact ⟨es, clock, e.trans hb, r⟩
end

/-! ### keys -/
def keyI {α : Type} (f : α → Int) (x : α) : Lit := .int .i64 (f x)
def keyS {α : Type} (f : α → Bs) (x : α) : Lit := .string (f x)
theorem same_I {α : Type} (f : α → Int) (x : α) (n : Int) : (keyI f x).sameKey (.int .i64 n) = (f x == n) := by
  unfold keyI Lit.sameKey
  rw [Bool.eq_iff_iff]; simp
theorem same_S {α : Type} (f : α → Bs) (x : α) (s : Bs) : (keyS f x).sameKey (.string s) = (f x == s) := rfl
theorem filter_away {α : Type} (p : α → Bool) (l : List α) (h : ∀ x ∈ l, p x = true) : l.filter p = l := List.filter_eq_self.2 h
/-- an entry put into a rising row -/
theorem put_ents {α κ : Type} [DecidableEq κ] {key : α → κ} {lt : κ → κ → Bool} (L : Lt lt) (lit : κ → Lit) (hb : ∀ a c, (lit a).before (lit c) = lt a c) (hs : ∀ a c, (lit a).sameKey (lit c) = decide (a = c))
    (val : α → Value) {l : List α} (h : Rises key lt l) (x : α) : (ents (fun y => lit (key y)) val l).put (lit (key x)) (.held (val x)) = ents (fun y => lit (key y)) val (upsert key lt x l) := by
  have ins : ∀ (a b : List α), (∀ z ∈ a, lt (key z) (key x) = true) → (∀ z ∈ b, lt (key x) (key z) = true) →
      DataW.insert (lit (key x), DataW.held (val x)) ((a ++ b).map fun y => (lit (key y), DataW.held (val y))) = (a ++ x :: b).map fun y => (lit (key y), DataW.held (val y)) := by
    intro a
    induction a with
    | nil =>
      intro b _ hb'
      cases b with
      | nil => rfl
      | cons y t =>
        simp only [List.nil_append, List.map_cons, DataW.insert]
        rw [if_pos (by rw [hb]; exact hb' y (List.mem_cons_self ..))]
    | cons z a ih =>
      intro b ha hb'
      simp only [List.cons_append, List.map_cons, DataW.insert]
      rw [if_neg (by rw [hb, L.asymm (ha z (List.mem_cons_self ..))]; simp)]
      rw [ih b (fun y hy => ha y (List.mem_cons_of_mem _ hy)) hb']
  have keep : ∀ (a : List α), (∀ z ∈ a, key z ≠ key x) → (a.map fun y => (lit (key y), (DataW.held (val y) : DataW Value))).filter (fun p => !p.1.sameKey (lit (key x))) = a.map fun y => (lit (key y), DataW.held (val y)) := by
    intro a ha
    refine filter_away _ _ fun p hp => ?_
    obtain ⟨z, hz, rfl⟩ := List.mem_map.1 hp
    simp [hs, ha z hz]
  unfold ents DataW.put
  simp only
  rcases upsert_cut L h x with ⟨a, y, b, e, hk, ha, hb', hu⟩ | ⟨a, b, e, ha, hb', hu⟩
  · rw [hu, e]
    have : ((a ++ y :: b).map fun z => (lit (key z), (DataW.held (val z) : DataW Value))).filter (fun p => !p.1.sameKey (lit (key x))) = (a ++ b).map fun z => (lit (key z), DataW.held (val z)) := by
      simp only [List.map_append, List.map_cons, List.filter_append]
      rw [keep a fun z hz => ne_of_lt L (ha z hz), List.filter_cons_of_neg (by simp [hs, hk]), keep b fun z hz => (ne_of_lt L (hb' z hz)).symm]
    rw [this, ins a b ha hb']
  · rw [hu, e]
    rw [keep (a ++ b) fun z hz => by
      rcases List.mem_append.1 hz with hz | hz
      · exact ne_of_lt L (ha z hz)
      · exact (ne_of_lt L (hb' z hz)).symm]
    rw [ins a b ha hb']
theorem put_I {α : Type} (f : α → Int) (val : α → Value) {l : List α} (h : Rises f ltI l) (x : α) : (ents (keyI f) val l).put (.int .i64 (f x)) (.held (val x)) = ents (keyI f) val (upsert f ltI x l) :=
  put_ents lt_I (fun n => .int .i64 n) (fun a c => rfl) (fun a c => by simp [Lit.sameKey]) val h x
theorem bytesBefore_eq : ∀ a b : Bs, bytesBefore a b = ltB a b
  | [], [] => rfl
  | [], _ :: _ => rfl
  | _ :: _, [] => rfl
  | a :: x, b :: y => by
    have ih := bytesBefore_eq x y
    unfold bytesBefore ltB
    rw [ih]
theorem put_S {α : Type} (f : α → Bs) (val : α → Value) {l : List α} (h : Rises f ltB l) (x : α) : (ents (keyS f) val l).put (.string (f x)) (.held (val x)) = ents (keyS f) val (upsert f ltB x l) :=
  put_ents lt_B (fun s => .string s) (fun a c => bytesBefore_eq a c) (fun a c => by rw [Bool.eq_iff_iff]; simp [Lit.sameKey]) val h x
end Go.Proofs.YtllkjfadeaoicaaGreat
