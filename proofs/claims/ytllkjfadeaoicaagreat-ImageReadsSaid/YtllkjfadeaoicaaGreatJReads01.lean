/- Lemmas and walks: Plain lemmas: a whole's bytes and how they are read back; no program in sight. Plain model: locks, cells, the table of transactions, a shard. No program in sight. Plain lemmas: rows that rise by a key. Plain lemmas: lines of locks stay as they may be. Plain lemmas: asking and leaving keep all lines as they may be. Plain lemmas: a shard stays one that can be made of its whole. -/
namespace Go.Proofs.YtllkjfadeaoicaaGreat

/-! ### data -/
abbrev Bs := List UInt8

structure Hold where
  owner : Int
  mode : Int
  deriving DecidableEq
structure Version where
  at_ : Int
  value : Bs
  has : Bool
  deriving DecidableEq
structure Cell where
  key : Bs
  versions : List Version
  deriving DecidableEq
structure Line where
  key : Bs
  holders : List Hold
  queue : List Hold
  deriving DecidableEq
structure Row where
  tx : Int
  attempt : Int
  stamp : Int
  state : Int
  heard : Int
  deriving DecidableEq
structure Cmd where
  kind : Int
  tx : Int
  attempt : Int
  stamp : Int
  op : Int
  key : Bs
  value : Bs
  mode : Int
  yes : Bool
  deriving DecidableEq
structure Write where
  key : Bs
  value : Bs
  has : Bool
  deriving DecidableEq
structure Live where
  tx : Int
  attempt : Int
  last : Cmd
  writes : List Write
  deriving DecidableEq
structure Done where
  tx : Int
  attempt : Int
  deriving DecidableEq
structure Whole where
  clock : Int
  moment : Int
  cells : List Cell
  lines : List Line
  rows : List Row
  lives : List Live
  dones : List Done
  deriving DecidableEq

def Whole.empty : Whole := ⟨0, 0, [], [], [], [], []⟩

/-! ### as bytes -/
/-- the low byte of a number -/
def lowB (n : Int) : UInt8 := UInt8.ofNat (n % 256).toNat
/-- an int as its uint64 -/
def u64 (n : Int) : Int := n % 18446744073709551616
def encInt (n : Int) : Bs :=
  [lowB (u64 n / 72057594037927936), lowB (u64 n / 281474976710656), lowB (u64 n / 1099511627776), lowB (u64 n / 4294967296),
   lowB (u64 n / 16777216), lowB (u64 n / 65536), lowB (u64 n / 256), lowB (u64 n)]
def encText (s : Bs) : Bs := lowB ((min s.length 65535 : Nat) / 256) :: lowB (min s.length 65535 : Nat) :: s.take 65535
def encBool (b : Bool) : Bs := [if b then 1 else 0]
def encList {α : Type} (one : α → Bs) (l : List α) : Bs := encInt l.length ++ l.flatMap one
def encHold (h : Hold) : Bs := encInt h.owner ++ encInt h.mode
def encVersion (v : Version) : Bs := encInt v.at_ ++ encText v.value ++ encBool v.has
def encCell (c : Cell) : Bs := encText c.key ++ encList encVersion c.versions
def encLine (l : Line) : Bs := encText l.key ++ encList encHold l.holders ++ encList encHold l.queue
def encRow (r : Row) : Bs := encInt r.tx ++ encInt r.attempt ++ encInt r.stamp ++ encInt r.state ++ encInt r.heard
def encCmd (c : Cmd) : Bs := encInt c.kind ++ encInt c.tx ++ encInt c.attempt ++ encInt c.stamp ++ encInt c.op ++ encText c.key ++ encText c.value ++ encInt c.mode ++ encBool c.yes
def encWrite (w : Write) : Bs := encText w.key ++ encText w.value ++ encBool w.has
def encLive (x : Live) : Bs := encInt x.tx ++ encInt x.attempt ++ encCmd x.last ++ encList encWrite x.writes
def encDone (d : Done) : Bs := encInt d.tx ++ encInt d.attempt
def encWhole (w : Whole) : Bs :=
  encInt w.clock ++ encInt w.moment ++ encList encCell w.cells ++ encList encLine w.lines ++ encList encRow w.rows ++ encList encLive w.lives ++ encList encDone w.dones

/-! ### what is too long -/
def longList {α : Type} (one : α → Bool) (l : List α) : Bool := decide (65535 < l.length) || l.any one
def longText (s : Bs) : Bool := decide (65535 < s.length)
def longVersion (v : Version) : Bool := longText v.value
def longCell (c : Cell) : Bool := longText c.key || longList longVersion c.versions
def longHold (_ : Hold) : Bool := false
def longLine (l : Line) : Bool := longText l.key || longList longHold l.holders || longList longHold l.queue
def longRow (_ : Row) : Bool := false
def longWrite (w : Write) : Bool := longText w.key || longText w.value
def longLive (x : Live) : Bool := longText x.last.key || longText x.last.value || longList longWrite x.writes
def longDone (_ : Done) : Bool := false
def longWhole (w : Whole) : Bool :=
  longList longCell w.cells || longList longLine w.lines || longList longRow w.rows || longList longLive w.lives || longList longDone w.dones

/-! ### read back -/
structure Rdr where
  b : Bs
  bad : Bool
  deriving DecidableEq

def Rdr.failed : Rdr := ⟨[], true⟩
/-- so many bytes -/
def Rdr.part (n : Nat) (r : Rdr) : Bs × Rdr := if r.bad || decide (r.b.length < n) then ([], .failed) else (r.b.take n, ⟨r.b.drop n, false⟩)
/-- bytes as a uint64, the highest first -/
def decU (l : Bs) : Int := l.foldl (fun u c => (u * 256 + (c.toNat : Int)) % 18446744073709551616) 0
/-- a uint64 as an int -/
def s64 (n : Int) : Int := if n < 9223372036854775808 then n else n - 18446744073709551616
def takeInt (least most : Int) (r : Rdr) : Int × Rdr :=
  if r.bad || decide (r.b.length < 8) then (0, .failed)
  else if least ≤ s64 (decU (r.b.take 8)) ∧ s64 (decU (r.b.take 8)) ≤ most then (s64 (decU (r.b.take 8)), ⟨r.b.drop 8, false⟩) else (0, .failed)
def takeNum (r : Rdr) : Int × Rdr := takeInt (-9223372036854775808) 9223372036854775807 r
def takeText (most : Int) (r : Rdr) : Bs × Rdr :=
  if r.bad || decide (r.b.length < 2) then ([], .failed)
  else
    let n := (r.b.getD 0 0).toNat * 256 + (r.b.getD 1 0).toNat
    if most < (n : Int) then ([], .failed) else Rdr.part n ⟨r.b.drop 2, false⟩
def takeBool (r : Rdr) : Bool × Rdr :=
  if r.bad || decide (r.b.length < 1) then (false, .failed)
  else if 1 < (r.b.getD 0 0).toNat then (false, .failed) else ((r.b.getD 0 0).toNat == 1, ⟨r.b.drop 1, false⟩)
def takeN {α : Type} (one : Rdr → α × Rdr) : Nat → Rdr → List α × Rdr
  | 0, r => ([], r)
  | n + 1, r => if r.bad then ([], r) else let p := one r; let q := takeN one n p.2; (p.1 :: q.1, q.2)
def takeList {α : Type} (one : Rdr → α × Rdr) (r : Rdr) : List α × Rdr := let p := takeInt 0 65535 r; takeN one p.1.toNat p.2
def takeVersion (r : Rdr) : Version × Rdr := let a := takeNum r; let v := takeText 65535 a.2; let h := takeBool v.2; (⟨a.1, v.1, h.1⟩, h.2)
def takeCell (r : Rdr) : Cell × Rdr := let k := takeText 65535 r; let v := takeList takeVersion k.2; (⟨k.1, v.1⟩, v.2)
def takeHold (r : Rdr) : Hold × Rdr := let o := takeNum r; let m := takeNum o.2; (⟨o.1, m.1⟩, m.2)
def takeLine (r : Rdr) : Line × Rdr := let k := takeText 65535 r; let h := takeList takeHold k.2; let q := takeList takeHold h.2; (⟨k.1, h.1, q.1⟩, q.2)
def takeRow (r : Rdr) : Row × Rdr := let a := takeNum r; let b := takeNum a.2; let c := takeNum b.2; let d := takeNum c.2; let e := takeNum d.2; (⟨a.1, b.1, c.1, d.1, e.1⟩, e.2)
def takeCmd (r : Rdr) : Cmd × Rdr :=
  let x := takeRow r; let k := takeText 65535 x.2; let v := takeText 65535 k.2; let m := takeNum v.2; let y := takeBool m.2
  (⟨x.1.tx, x.1.attempt, x.1.stamp, x.1.state, x.1.heard, k.1, v.1, m.1, y.1⟩, y.2)
def takeWrite (r : Rdr) : Write × Rdr := let k := takeText 65535 r; let v := takeText 65535 k.2; let h := takeBool v.2; (⟨k.1, v.1, h.1⟩, h.2)
def takeLive (r : Rdr) : Live × Rdr := let t := takeNum r; let a := takeNum t.2; let c := takeCmd a.2; let w := takeList takeWrite c.2; (⟨t.1, a.1, c.1, w.1⟩, w.2)
def takeDone (r : Rdr) : Done × Rdr := let t := takeNum r; let a := takeNum t.2; (⟨t.1, a.1⟩, a.2)
def takeWhole (r : Rdr) : Whole × Rdr :=
  let a := takeNum r; let m := takeNum a.2; let c := takeList takeCell m.2; let l := takeList takeLine c.2; let w := takeList takeRow l.2
  let v := takeList takeLive w.2; let d := takeList takeDone v.2
  (⟨a.1, m.1, c.1, l.1, w.1, v.1, d.1⟩, d.2)

/-! ### what is read was told -/
theorem lowB_toNat (n : Int) : ((lowB n).toNat : Int) = n % 256 := by
  unfold lowB
  have h0 : 0 ≤ n % 256 := by omega
  have h1 : n % 256 < 256 := by omega
  simp only [UInt8.toNat_ofNat']
  omega
theorem lowB_of (n : Int) (c : UInt8) (h : n % 256 = (c.toNat : Int)) : lowB n = c := by
  apply UInt8.toNat_inj.1
  have := lowB_toNat n
  omega
theorem u64_range (n : Int) : 0 ≤ u64 n ∧ u64 n < 18446744073709551616 := by unfold u64; omega
theorem s64_u64 {n : Int} (h0 : 0 ≤ n) (h1 : n < 18446744073709551616) : u64 (s64 n) = n := by unfold u64 s64; split <;> omega

theorem dec_enc (a b c d e f g h : UInt8) : encInt (s64 (decU [a, b, c, d, e, f, g, h])) = [a, b, c, d, e, f, g, h] := by
  have ha := a.toNat_lt; have hb := b.toNat_lt; have hc := c.toNat_lt; have hd := d.toNat_lt
  have he := e.toNat_lt; have hf := f.toNat_lt; have hg := g.toNat_lt; have hh := h.toNat_lt
  have hv : decU [a, b, c, d, e, f, g, h] = ((((((((a.toNat : Int) * 256 + b.toNat) * 256 + c.toNat) * 256 + d.toNat) * 256 + e.toNat) * 256 + f.toNat) * 256 + g.toNat) * 256 + h.toNat) := by
    simp only [decU, List.foldl_cons, List.foldl_nil]
    omega
  unfold encInt
  rw [s64_u64 (by omega) (by omega), hv]
  simp only [List.cons.injEq, and_true]
  refine ⟨?_, ?_, ?_, ?_, ?_, ?_, ?_, ?_⟩ <;> apply lowB_of <;> omega

theorem encInt_length (n : Int) : (encInt n).length = 8 := rfl

theorem take8 {l : Bs} (h : 8 ≤ l.length) : ∃ a b c d e f g i, l.take 8 = [a, b, c, d, e, f, g, i] := by
  match l, h with
  | a :: b :: c :: d :: e :: f :: g :: i :: l, _ => exact ⟨a, b, c, d, e, f, g, i, rfl⟩

theorem takeInt_ok {least most : Int} {r : Rdr} (h : (takeInt least most r).2.bad = false) :
    r.bad = false ∧ r.b = encInt (takeInt least most r).1 ++ (takeInt least most r).2.b ∧ least ≤ (takeInt least most r).1 ∧ (takeInt least most r).1 ≤ most := by
  unfold takeInt at h ⊢
  split at h
  · simp [Rdr.failed] at h
  · rename_i h1
    split at h
    · rename_i h2
      rw [if_neg h1, if_pos h2]
      simp only [Bool.or_eq_true, decide_eq_true_eq, not_or, Bool.not_eq_true] at h1
      refine ⟨h1.1, ?_, h2.1, h2.2⟩
      obtain ⟨a, b, c, d, e, f, g, i, he⟩ := take8 (l := r.b) (by omega)
      simp only
      rw [he, dec_enc, ← he, List.take_append_drop]
    · simp [Rdr.failed] at h

theorem takeNum_ok {r : Rdr} (h : (takeNum r).2.bad = false) : r.bad = false ∧ r.b = encInt (takeNum r).1 ++ (takeNum r).2.b :=
  ⟨(takeInt_ok h).1, (takeInt_ok h).2.1⟩

theorem part_ok {n : Nat} {r : Rdr} (h : (r.part n).2.bad = false) : r.bad = false ∧ r.b = (r.part n).1 ++ (r.part n).2.b ∧ (r.part n).1.length = n := by
  unfold Rdr.part at h ⊢
  split at h
  · simp [Rdr.failed] at h
  · rename_i h1
    rw [if_neg h1]
    simp only [Bool.or_eq_true, decide_eq_true_eq, not_or, Bool.not_eq_true] at h1
    exact ⟨h1.1, (List.take_append_drop n r.b).symm, by simp; omega⟩

theorem two_of {l : Bs} (h : 2 ≤ l.length) : ∃ x y t, l = x :: y :: t := by
  match l, h with
  | x :: y :: t, _ => exact ⟨x, y, t, rfl⟩

theorem takeText_ok {most : Int} {r : Rdr} (hm : most ≤ 65535) (h : (takeText most r).2.bad = false) :
    r.bad = false ∧ r.b = encText (takeText most r).1 ++ (takeText most r).2.b ∧ ((takeText most r).1.length : Int) ≤ most := by
  unfold takeText at h ⊢
  split at h
  · simp [Rdr.failed] at h
  · rename_i h1
    rw [if_neg h1]
    simp only [Bool.or_eq_true, decide_eq_true_eq, not_or, Bool.not_eq_true] at h1
    obtain ⟨x, y, l, hl⟩ := two_of (l := r.b) (by omega)
    rw [hl] at h ⊢
    simp only [List.getD_cons_zero, List.getD_cons_succ, List.drop_succ_cons, List.drop_zero] at h ⊢
    split at h
    · simp [Rdr.failed] at h
    · rename_i h2
      rw [if_neg h2]
      obtain ⟨p1, p2, p3⟩ := part_ok h
      simp only at p2
      refine ⟨h1.1, ?_, by omega⟩
      unfold encText
      have hx := x.toNat_lt; have hy := y.toNat_lt
      rw [p3, List.take_of_length_le (by omega), show min (x.toNat * 256 + y.toNat) 65535 = x.toNat * 256 + y.toNat from by omega]
      rw [lowB_of _ x (by omega), lowB_of _ y (by omega)]
      rw [List.cons_append, List.cons_append, ← p2]

theorem takeBool_ok {r : Rdr} (h : (takeBool r).2.bad = false) : r.bad = false ∧ r.b = encBool (takeBool r).1 ++ (takeBool r).2.b := by
  unfold takeBool at h ⊢
  split at h
  · simp [Rdr.failed] at h
  · rename_i h1
    rw [if_neg h1]
    simp only [Bool.or_eq_true, decide_eq_true_eq, not_or, Bool.not_eq_true] at h1
    obtain ⟨b, bad⟩ := r
    match b, h1 with
    | x :: l, h1 =>
      simp only [List.getD_cons_zero, List.drop_succ_cons, List.drop_zero] at h ⊢
      split at h
      · simp [Rdr.failed] at h
      · rename_i h2
        rw [if_neg h2]
        refine ⟨h1.1, ?_⟩
        have : x = 0 ∨ x = 1 := by
          rcases Nat.eq_zero_or_pos x.toNat with h0 | h0
          · exact .inl (UInt8.toNat_inj.1 h0)
          · exact .inr (UInt8.toNat_inj.1 (by show x.toNat = 1; omega))
        rcases this with rfl | rfl <;> rfl
    | [], h1 => simp at h1

/-- what is read, is told by those bytes; and it is not too long -/
def Good {α : Type} (take : Rdr → α × Rdr) (enc : α → Bs) (long : α → Bool) : Prop :=
  ∀ r, (take r).2.bad = false → r.bad = false ∧ r.b = enc (take r).1 ++ (take r).2.b ∧ long (take r).1 = false

theorem takeN_ok {α : Type} {take : Rdr → α × Rdr} {enc : α → Bs} {long : α → Bool} (H : Good take enc long) :
    ∀ n r, (takeN take n r).2.bad = false → r.bad = false ∧ r.b = (takeN take n r).1.flatMap enc ++ (takeN take n r).2.b ∧ (takeN take n r).1.any long = false ∧ (takeN take n r).1.length = n
  | 0, r, h => ⟨h, by simp [takeN], rfl, rfl⟩
  | n + 1, r, h => by
    unfold takeN at h ⊢
    split at h
    · rename_i hb
      simp [hb] at h
    · rename_i hb
      rw [if_neg hb]
      obtain ⟨h1, h2, h3, h4⟩ := takeN_ok H n _ h
      obtain ⟨g1, g2, g3⟩ := H _ h1
      refine ⟨g1, ?_, by simp only [List.any_cons, Bool.or_eq_false_iff]; exact ⟨g3, h3⟩, by simp [h4]⟩
      simp only [List.flatMap_cons, List.append_assoc]
      rw [← h2]
      exact g2

theorem takeList_ok {α : Type} {take : Rdr → α × Rdr} {enc : α → Bs} {long : α → Bool} (H : Good take enc long) : Good (takeList take) (encList enc) (longList long) := by
  intro r h
  unfold takeList at h ⊢
  obtain ⟨h1, h2, h3, h4⟩ := takeN_ok H _ _ h
  obtain ⟨g1, g2, g3, g4⟩ := takeInt_ok h1
  refine ⟨g1, ?_, ?_⟩
  · unfold encList
    simp only
    rw [h4, show (((takeInt 0 65535 r).1.toNat : Nat) : Int) = (takeInt 0 65535 r).1 from by omega]
    rw [List.append_assoc, ← h2]
    exact g2
  · unfold longList
    simp only [Bool.or_eq_false_iff, decide_eq_false_iff_not]
    exact ⟨by omega, h3⟩

theorem text_ok {r : Rdr} (h : (takeText 65535 r).2.bad = false) :
    r.bad = false ∧ r.b = encText (takeText 65535 r).1 ++ (takeText 65535 r).2.b ∧ longText (takeText 65535 r).1 = false := by
  obtain ⟨a, b, c⟩ := takeText_ok (by omega) h
  exact ⟨a, b, by unfold longText; simp only [decide_eq_false_iff_not]; omega⟩

theorem takeVersion_ok : Good takeVersion encVersion longVersion := by
  intro r h
  unfold takeVersion at h ⊢
  obtain ⟨a1, a2⟩ := takeBool_ok h
  obtain ⟨b1, b2, b3⟩ := text_ok a1
  obtain ⟨c1, c2⟩ := takeNum_ok b1
  refine ⟨c1, ?_, b3⟩
  simp only [encVersion, List.append_assoc]
  rw [← a2, ← b2]; exact c2
theorem takeHold_ok : Good takeHold encHold longHold := by
  intro r h
  unfold takeHold at h ⊢
  obtain ⟨a1, a2⟩ := takeNum_ok h
  obtain ⟨b1, b2⟩ := takeNum_ok a1
  refine ⟨b1, ?_, rfl⟩
  simp only [encHold, List.append_assoc]
  rw [← a2]; exact b2
theorem takeCell_ok : Good takeCell encCell longCell := by
  intro r h
  unfold takeCell at h ⊢
  obtain ⟨a1, a2, a3⟩ := takeList_ok takeVersion_ok _ h
  obtain ⟨b1, b2, b3⟩ := text_ok a1
  refine ⟨b1, ?_, ?_⟩
  · simp only [encCell, List.append_assoc]
    rw [← a2]; exact b2
  · simp only [longCell, Bool.or_eq_false_iff]; exact ⟨b3, a3⟩
theorem takeLine_ok : Good takeLine encLine longLine := by
  intro r h
  unfold takeLine at h ⊢
  obtain ⟨z1, z2, z3⟩ := takeList_ok takeHold_ok _ h
  obtain ⟨a1, a2, a3⟩ := takeList_ok takeHold_ok _ z1
  obtain ⟨b1, b2, b3⟩ := text_ok a1
  refine ⟨b1, ?_, ?_⟩
  · simp only [encLine, List.append_assoc]
    rw [← z2, ← a2]; exact b2
  · simp only [longLine, Bool.or_eq_false_iff]; exact ⟨⟨b3, a3⟩, z3⟩
theorem takeRow_ok : Good takeRow encRow longRow := by
  intro r h
  unfold takeRow at h ⊢
  obtain ⟨a1, a2⟩ := takeNum_ok h
  obtain ⟨b1, b2⟩ := takeNum_ok a1
  obtain ⟨c1, c2⟩ := takeNum_ok b1
  obtain ⟨d1, d2⟩ := takeNum_ok c1
  obtain ⟨e1, e2⟩ := takeNum_ok d1
  refine ⟨e1, ?_, rfl⟩
  simp only [encRow, List.append_assoc]
  rw [← a2, ← b2, ← c2, ← d2]; exact e2
def longCmd (c : Cmd) : Bool := longText c.key || longText c.value
theorem takeCmd_ok : Good takeCmd encCmd longCmd := by
  intro r h
  unfold takeCmd at h ⊢
  obtain ⟨a1, a2⟩ := takeBool_ok h
  obtain ⟨b1, b2⟩ := takeNum_ok a1
  obtain ⟨c1, c2, c3⟩ := text_ok b1
  obtain ⟨d1, d2, d3⟩ := text_ok c1
  obtain ⟨e1, e2, _⟩ := takeRow_ok _ d1
  refine ⟨e1, ?_, ?_⟩
  · simp only [encCmd, List.append_assoc]
    rw [← a2, ← b2, ← c2, ← d2]; simpa only [encRow, List.append_assoc] using e2
  · simp only [longCmd, Bool.or_eq_false_iff]; exact ⟨d3, c3⟩
theorem takeWrite_ok : Good takeWrite encWrite longWrite := by
  intro r h
  unfold takeWrite at h ⊢
  obtain ⟨a1, a2⟩ := takeBool_ok h
  obtain ⟨b1, b2, b3⟩ := text_ok a1
  obtain ⟨c1, c2, c3⟩ := text_ok b1
  refine ⟨c1, ?_, ?_⟩
  · simp only [encWrite, List.append_assoc]
    rw [← a2, ← b2]; exact c2
  · simp only [longWrite, Bool.or_eq_false_iff]; exact ⟨c3, b3⟩
theorem takeLive_ok : Good takeLive encLive longLive := by
  intro r h
  unfold takeLive at h ⊢
  obtain ⟨a1, a2, a3⟩ := takeList_ok takeWrite_ok _ h
  obtain ⟨b1, b2, b3⟩ := takeCmd_ok _ a1
  obtain ⟨c1, c2⟩ := takeNum_ok b1
  obtain ⟨d1, d2⟩ := takeNum_ok c1
  refine ⟨d1, ?_, ?_⟩
  · simp only [encLive, List.append_assoc]
    rw [← a2, ← b2, ← c2]; exact d2
  · simp only [longLive, Bool.or_eq_false_iff]
    simp only [longCmd, Bool.or_eq_false_iff] at b3
    exact ⟨b3, a3⟩
theorem takeDone_ok : Good takeDone encDone longDone := by
  intro r h
  unfold takeDone at h ⊢
  obtain ⟨a1, a2⟩ := takeNum_ok h
  obtain ⟨b1, b2⟩ := takeNum_ok a1
  refine ⟨b1, ?_, rfl⟩
  simp only [encDone, List.append_assoc]
  rw [← a2]; exact b2
theorem takeWhole_ok : Good takeWhole encWhole longWhole := by
  intro r h
  unfold takeWhole at h ⊢
  obtain ⟨a1, a2, a3⟩ := takeList_ok takeDone_ok _ h
  obtain ⟨b1, b2, b3⟩ := takeList_ok takeLive_ok _ a1
  obtain ⟨c1, c2, c3⟩ := takeList_ok takeRow_ok _ b1
  obtain ⟨d1, d2, d3⟩ := takeList_ok takeLine_ok _ c1
  obtain ⟨e1, e2, e3⟩ := takeList_ok takeCell_ok _ d1
  obtain ⟨f1, f2⟩ := takeNum_ok e1
  obtain ⟨g1, g2⟩ := takeNum_ok f1
  refine ⟨g1, ?_, ?_⟩
  · simp only [encWhole, List.append_assoc]
    rw [← a2, ← b2, ← c2, ← d2, ← e2, ← f2]; exact g2
  · simp only [longWhole, Bool.or_eq_false_iff]; exact ⟨⟨⟨⟨e3, d3⟩, c3⟩, b3⟩, a3⟩
end Go.Proofs.YtllkjfadeaoicaaGreat

namespace Go.Proofs.YtllkjfadeaoicaaGreat

/-! ### order of texts -/
def ltB : Bs → Bs → Bool
  | [], [] => false
  | [], _ :: _ => true
  | _ :: _, [] => false
  | a :: x, b :: y => a < b || (a == b && ltB x y)
theorem ltB_irrefl : ∀ a, ltB a a = false
  | [] => rfl
  | a :: x => by simp [ltB, ltB_irrefl x]
theorem u8_cmp (a b : UInt8) : (a < b ↔ a.toNat < b.toNat) ∧ (a = b ↔ a.toNat = b.toNat) := ⟨UInt8.lt_iff_toNat_lt, UInt8.toNat_inj.symm⟩
theorem ltB_cons (a b : UInt8) (x y : Bs) : ltB (a :: x) (b :: y) = true ↔ a.toNat < b.toNat ∨ (a.toNat = b.toNat ∧ ltB x y = true) := by
  simp [ltB, (u8_cmp a b).1, (u8_cmp a b).2]
theorem ltB_trans : ∀ {a b c : Bs}, ltB a b = true → ltB b c = true → ltB a c = true
  | [], [], _, h, _ => by simp [ltB] at h
  | [], _ :: _, [], _, h => by simp [ltB] at h
  | [], _ :: _, _ :: _, _, _ => rfl
  | _ :: _, [], _, h, _ => by simp [ltB] at h
  | _ :: _, _ :: _, [], _, h => by simp [ltB] at h
  | a :: x, b :: y, c :: z, h1, h2 => by
    rw [ltB_cons] at h1 h2 ⊢
    rcases h1 with h1 | ⟨e1, h1⟩ <;> rcases h2 with h2 | ⟨e2, h2⟩
    · left; omega
    · left; omega
    · left; omega
    · right; exact ⟨by omega, ltB_trans h1 h2⟩
theorem ltB_tri : ∀ (a b : Bs), ltB a b = true ∨ a = b ∨ ltB b a = true
  | [], [] => .inr (.inl rfl)
  | [], _ :: _ => .inl rfl
  | _ :: _, [] => .inr (.inr rfl)
  | a :: x, b :: y => by
    rw [ltB_cons, ltB_cons]
    rcases Nat.lt_trichotomy a.toNat b.toNat with h | h | h
    · exact .inl (.inl h)
    · rcases ltB_tri x y with g | g | g
      · exact .inl (.inr ⟨h, g⟩)
      · exact .inr (.inl (by rw [(u8_cmp a b).2.2 h, g]))
      · exact .inr (.inr (.inr ⟨h.symm, g⟩))
    · exact .inr (.inr (.inl h))

/-! ### rows by a key, rising -/
/-- how many stand ahead of a key -/
def ahead {α : Type} (less : α → Bool) (l : List α) : Nat := (l.takeWhile less).length

/-! ### locks -/
def isMode (m : Int) : Bool := m == 1 || m == 2
def clash (a b : Int) : Bool := a == 2 || b == 2
def modeOf (l : List Hold) (owner : Int) : Int := match l.find? fun h => h.owner == owner with | some h => h.mode | none => 0
def fitsH (l : List Hold) (m : Int) : Bool := l.all fun h => !clash h.mode m
def putHold (l : List Hold) (h : Hold) : List Hold :=
  let at_ := ahead (fun x : Hold => decide (x.owner < h.owner)) l
  if (l[at_]?.map (·.owner)) = some h.owner then l.set at_ h else l.take at_ ++ h :: l.drop at_
def mayIn (l : Line) : Bool :=
  match l.queue with
  | [] => false
  | w :: _ => if modeOf l.holders w.owner > 0 then l.holders.length == 1 else fitsH l.holders w.mode
/-- those that may be are let in: at most as many as wait -/
def letIn : Nat → Line → Line
  | 0, l => l
  | n + 1, l => if mayIn l then
      match l.queue with
      | [] => l
      | w :: q => letIn n ⟨l.key, putHold l.holders w, q⟩
    else l
def letAll (l : Line) : Line := letIn l.queue.length l
def upgrades (l : Line) : Nat := ahead (fun w : Hold => decide (modeOf l.holders w.owner > 0)) l.queue
def lineAt (ls : List Line) (key : Bs) : Nat := ahead (fun l : Line => ltB l.key key) ls
def lineIs (ls : List Line) (key : Bs) : Bool := (ls[lineAt ls key]?.map (·.key)) == some key
def lineOf (ls : List Line) (key : Bs) : Line := if lineIs ls key then ls.getD (lineAt ls key) ⟨[], [], []⟩ else ⟨[], [], []⟩
/-- Ask of a key that has a line -/
def askLine (l : Line) (owner m : Int) : Line × Int :=
  if modeOf l.holders owner ≥ m then (l, 0)
  else if modeOf l.queue owner > 0 then (l, 10)
  else
    let l1 : Line := if modeOf l.holders owner > 0 then ⟨l.key, l.holders, l.queue.take (upgrades l) ++ ⟨owner, m⟩ :: l.queue.drop (upgrades l)⟩ else ⟨l.key, l.holders, l.queue ++ [⟨owner, m⟩]⟩
    let l2 := letAll l1
    (l2, if modeOf l2.holders owner ≥ m then 0 else 10)
def askL (ls : List Line) (owner : Int) (key : Bs) (m : Int) : List Line × Int :=
  if owner < 0 ∨ key.length > 16 ∨ isMode m = false then (ls, 1)
  else if lineIs ls key then
    let r := askLine (ls.getD (lineAt ls key) ⟨[], [], []⟩) owner m
    (ls.set (lineAt ls key) r.1, r.2)
  else (ls.take (lineAt ls key) ++ ⟨key, [⟨owner, m⟩], []⟩ :: ls.drop (lineAt ls key), 0)
def leaveLine (owner : Int) (l : Line) : Line := letAll ⟨l.key, l.holders.filter (fun h => !(h.owner == owner)), l.queue.filter (fun h => !(h.owner == owner))⟩
def leaveL (ls : List Line) (owner : Int) : List Line := (ls.map (leaveLine owner)).filter fun l => !(l.holders.length + l.queue.length == 0)
def holdsL (ls : List Line) (owner : Int) (key : Bs) : Int := modeOf (lineOf ls key).holders owner
/-- a number into rising numbers, once -/
def insInt (n : Int) : List Int → List Int
  | [] => [n]
  | x :: l => if n < x then n :: x :: l else if n = x then x :: l else x :: insInt n l
def setOf (l : List Int) : List Int := l.foldr insInt []
def ownersL (ls : List Line) : List Int := setOf (ls.flatMap fun l => l.holders.map (·.owner) ++ l.queue.map (·.owner))

def heldOk (l : List Hold) : Bool :=
  l.all (fun h => decide (0 ≤ h.owner) && isMode h.mode && !(h.mode == 2 && decide (l.length > 1))) && decide (l.Pairwise fun a b => a.owner < b.owner)
/-- a queue beside its holders: 'seen' are those ahead, 'plain': one of them isn't an upgrade -/
def queuedOk (holders : List Hold) : List Hold → Bool → List Hold → Bool
  | _, _, [] => true
  | seen, plain, w :: q =>
    let has := modeOf holders w.owner
    if w.owner < 0 ∨ isMode w.mode = false ∨ has ≥ w.mode ∨ modeOf seen w.owner > 0 ∨ (has > 0 ∧ plain = true) then false
    else queuedOk holders (seen ++ [w]) (plain || has == 0) q
def lineOk (l : Line) : Bool := decide (l.key.length ≤ 16) && decide (l.holders.length + l.queue.length > 0) && heldOk l.holders && queuedOk l.holders [] false l.queue && !mayIn l
def linesOk (ls : List Line) : Bool := ls.all lineOk && decide (ls.Pairwise fun a b => ltB a.key b.key = true)

/-! ### cells -/
structure Cells where
  l : List Cell
  last : Int
  deriving DecidableEq
def cellAt (l : List Cell) (key : Bs) : Nat := ahead (fun c : Cell => ltB c.key key) l
def versionsOf (l : List Cell) (key : Bs) : List Version := match l.find? fun c => c.key == key with | some c => c.versions | none => []
def setCellL (l : List Cell) (c : Cell) : List Cell :=
  if (l[cellAt l c.key]?.map (·.key)) = some c.key then l.set (cellAt l c.key) c else l.take (cellAt l c.key) ++ c :: l.drop (cellAt l c.key)
def putVersion (vs : List Version) (value : Bs) (has : Bool) (at_ : Int) : List Version :=
  (if (vs.getLast?.map (·.at_)) = some at_ then vs.dropLast else vs) ++ [⟨at_, if has then value else [], has⟩]
def putCell (c : Cells) (key value : Bs) (has : Bool) (at_ : Int) : Cells × Int :=
  if key.length > 16 ∨ value.length > 32 ∨ at_ < 0 ∨ 1099511627776 < at_ then (c, 1)
  else if at_ < c.last ∨ at_ ≤ 0 then (c, 5)
  else (⟨setCellL c.l ⟨key, putVersion (versionsOf c.l key) value has at_⟩, at_⟩, 0)
/-- what a row tells of a moment -/
def valueAt (vs : List Version) (at_ : Int) : Bs × Bool :=
  match (vs.takeWhile fun v => decide (v.at_ ≤ at_)).getLast? with
  | none => ([], false)
  | some v => (v.value, v.has)
def getCell (c : Cells) (key : Bs) : Bs × Bool := valueAt (versionsOf c.l key) 1099511627776
def versionsOk (vs : List Version) : Bool :=
  vs.all (fun v => decide (0 ≤ v.at_) && decide (v.at_ ≤ 1099511627776) && decide (v.value.length ≤ 32) && (v.has || v.value == [])) && decide (vs.Pairwise fun a b => a.at_ < b.at_)
/-- with the floor 0: the first version isn't 'none' at the moment 0, nor followed by another one of the moment 0 -/
def cellOk (c : Cell) : Bool :=
  versionsOk c.versions && decide (c.key.length ≤ 16) && (match c.versions with | [] => false | v :: _ => v.has || decide (0 < v.at_))
def lastOf (l : List Cell) : Int := l.foldl (fun m c => max m ((c.versions.getLast?.map (·.at_)).getD 0)) 0
def cellsOk (l : List Cell) : Bool := l.all cellOk && decide (l.Pairwise fun a b => ltB a.key b.key = true)

/-! ### the table of transactions -/
def rowAt (l : List Row) (tx : Int) : Nat := ahead (fun r : Row => decide (r.tx < tx)) l
def rowIs (l : List Row) (tx : Int) : Bool := (l[rowAt l tx]?.map (·.tx)) == some tx
def rowOf (l : List Row) (tx : Int) : Row := l.getD (rowAt l tx) ⟨0, 0, 0, 0, 0⟩
def txOk (tx attempt now : Int) : Bool := decide (0 ≤ tx) && decide (tx ≤ 1048576) && decide (0 ≤ attempt) && decide (attempt ≤ 1048576) && decide (0 ≤ now) && decide (now ≤ 1099511627776)
def putRow (l : List Row) (r : Row) : List Row × Int × Int :=
  if rowIs l r.tx then
    let old := rowOf l r.tx
    if old.state ≠ 3 then (l, 0, 8)
    else (l.set (rowAt l r.tx) ⟨r.tx, r.attempt, if old.stamp > 0 then old.stamp else r.stamp, r.state, r.heard⟩, r.state, 0)
  else (l.take (rowAt l r.tx) ++ r :: l.drop (rowAt l r.tx), r.state, 0)
/-- newer 1, the same 0, elder -1 -/
def howRow (l : List Row) (tx attempt : Int) : Int :=
  if rowIs l tx then (if attempt < (rowOf l tx).attempt then -1 else if attempt > (rowOf l tx).attempt then 1 else 0) else 1
def Row.inState (r : Row) (s : Int) : Row := ⟨r.tx, r.attempt, r.stamp, s, r.heard⟩
def Row.atHeard (r : Row) (n : Int) : Row := ⟨r.tx, r.attempt, r.stamp, r.state, n⟩
def setState (l : List Row) (tx s : Int) : List Row := l.set (rowAt l tx) ((rowOf l tx).inState s)
def openR (l : List Row) (tx attempt stamp now : Int) : List Row × Int × Int :=
  if txOk tx attempt now = false ∨ stamp < 1 ∨ stamp > 1099511627776 then (l, 0, 1)
  else if howRow l tx attempt > 0 then putRow l ⟨tx, attempt, stamp, 1, now⟩
  else if howRow l tx attempt < 0 ∨ (rowOf l tx).state = 3 then (l, 0, 9)
  else (l, (rowOf l tx).state, 0)
def decideR (l : List Row) (tx attempt : Int) : List Row × Int × Int :=
  if txOk tx attempt 0 = false then (l, 0, 1)
  else if howRow l tx attempt > 0 then (l, 0, 6)
  else if howRow l tx attempt < 0 then (l, 3, 0)
  else if (rowOf l tx).state = 1 then (setState l tx 2, 2, 0)
  else if (rowOf l tx).state = 2 then (l, 2, 0)
  else (l, 3, 0)
def killR (l : List Row) (tx attempt now : Int) : List Row × Int × Int :=
  if txOk tx attempt now = false then (l, 0, 1)
  else if howRow l tx attempt > 0 then putRow l ⟨tx, attempt, 0, 3, now⟩
  else if howRow l tx attempt < 0 then (l, 3, 0)
  else if (rowOf l tx).state = 1 then (setState l tx 3, 3, 0)
  else if (rowOf l tx).state = 3 then (l, 3, 0)
  else (l, 2, 0)
def beatR (l : List Row) (tx attempt now : Int) : List Row × Int × Int :=
  if txOk tx attempt now = false then (l, 0, 1)
  else if howRow l tx attempt > 0 then (l, 0, 6)
  else if howRow l tx attempt < 0 then (l, 3, 0)
  else if (rowOf l tx).state = 1 then (l.set (rowAt l tx) ((rowOf l tx).atHeard (max (rowOf l tx).heard now)), 1, 0)
  else (l, (rowOf l tx).state, 0)
def rowOk (r : Row) : Bool := txOk r.tx r.attempt r.heard && decide (0 ≤ r.stamp) && decide (r.stamp ≤ 1099511627776) && decide (1 ≤ r.state) && decide (r.state ≤ 3)
def rowsOk (l : List Row) : Bool := l.all rowOk && decide (l.Pairwise fun a b => a.tx < b.tx)

/-! ### a shard -/
structure Shard where
  clock : Int
  moment : Int
  cells : Cells
  lines : List Line
  rows : List Row
  lives : List Live
  dones : List Done
  deriving DecidableEq
def Shard.new : Shard := ⟨0, 0, ⟨[], 0⟩, [], [], [], []⟩
structure Reply where
  code : Int
  state : Int
  value : Bs
  has : Bool
  deriving DecidableEq
def rep (code : Int) : Reply := ⟨code, 0, [], false⟩

def liveOf (l : List Live) (tx : Int) : Option Live := l.find? fun x => x.tx == tx
def doneOf (l : List Done) (tx : Int) : Option Done := l.find? fun x => x.tx == tx
def setLive (l : List Live) (x : Live) : List Live :=
  let at_ := ahead (fun y : Live => decide (y.tx < x.tx)) l
  if (l[at_]?.map (·.tx)) = some x.tx then l.set at_ x else l.take at_ ++ x :: l.drop at_
def delLive (l : List Live) (tx : Int) : List Live := l.filter fun x => !(x.tx == tx)
def setDone (l : List Done) (x : Done) : List Done :=
  let at_ := ahead (fun y : Done => decide (y.tx < x.tx)) l
  if (l[at_]?.map (·.tx)) = some x.tx then l.set at_ x else l.take at_ ++ x :: l.drop at_

def cmdOk (c : Cmd) : Bool :=
  if c.kind = 9 then true
  else if c.kind = 1 ∧ (c.stamp < 1 ∨ c.stamp > 1099511627776) then false
  else if (c.kind = 2 ∨ c.kind = 3 ∨ c.kind = 4) ∧ (c.op < 0 ∨ c.op > 1048576 ∨ c.key.length > 16) then false
  else if c.kind < 1 ∨ c.kind > 9 then false
  else if (c.kind = 2 ∧ isMode c.mode = false) ∨ (c.kind = 4 ∧ c.yes = true ∧ c.value.length > 32) then false
  else decide (0 ≤ c.tx) && decide (c.tx ≤ 1048576) && decide (0 ≤ c.attempt) && decide (c.attempt ≤ 1048576)
def overS (s : Shard) (tx attempt : Int) : Bool := match doneOf s.dones tx with | some d => decide (attempt ≤ d.attempt) | none => false
def lateS (s : Shard) (c : Cmd) : Int :=
  match liveOf s.lives c.tx with
  | none => if overS s c.tx c.attempt then 9 else 0
  | some x =>
    if overS s c.tx c.attempt = true ∨ c.attempt < x.attempt then 9
    else if c.attempt > x.attempt then 8
    else if c.op < x.last.op ∨ (c.op = x.last.op ∧ c ≠ x.last) then 9 else 0
def liveWrites : Option Live → List Write
  | some x => x.writes
  | none => []
def lockS (s : Shard) (c : Cmd) : Shard × Reply :=
  let ws := liveWrites (liveOf s.lives c.tx)
  let r := askL s.lines c.tx c.key c.mode
  ({ s with lives := setLive s.lives ⟨c.tx, c.attempt, c, ws⟩, lines := r.1 }, rep r.2)
def writeAt (l : List Write) (key : Bs) : Nat := ahead (fun w : Write => ltB w.key key) l
def writeIs (l : List Write) (key : Bs) : Bool := (l[writeAt l key]?.map (·.key)) == some key
def getS (s : Shard) (c : Cmd) : Shard × Reply :=
  match liveOf s.lives c.tx with
  | none => (s, rep 8)
  | some x =>
    if holdsL s.lines c.tx c.key = 0 then (s, rep 8)
    else ({ s with lives := setLive s.lives { x with last := c } },
      if writeIs x.writes c.key then let w := x.writes.getD (writeAt x.writes c.key) ⟨[], [], false⟩; ⟨0, 0, w.value, w.has⟩
      else let v := getCell s.cells c.key; ⟨0, 0, v.1, v.2⟩)
def putW (l : List Write) (w : Write) : List Write := if writeIs l w.key then l.set (writeAt l w.key) w else l.take (writeAt l w.key) ++ w :: l.drop (writeAt l w.key)
def putS (s : Shard) (c : Cmd) : Shard × Reply :=
  match liveOf s.lives c.tx with
  | none => (s, rep 8)
  | some x =>
    if holdsL s.lines c.tx c.key ≠ 2 then (s, rep 8)
    else ({ s with lives := setLive s.lives { x with last := c, writes := putW x.writes ⟨c.key, if c.yes then c.value else [], c.yes⟩ } }, rep 0)
def finishS (s : Shard) (c : Cmd) : Shard × Reply :=
  if overS s c.tx c.attempt then (s, rep 0)
  else match liveOf s.lives c.tx with
  | none => ({ s with dones := setDone s.dones ⟨c.tx, c.attempt⟩ }, rep 0)
  | some x =>
    if x.attempt < c.attempt then (s, rep 8)
    else
      let d := setDone s.dones ⟨c.tx, c.attempt⟩
      if x.attempt ≠ c.attempt then ({ s with dones := d }, rep 0)
      else
        let m := if c.yes = true ∧ x.writes ≠ [] then min (s.moment + 1) 1099511627776 else s.moment
        let cs := if c.yes = true then x.writes.foldl (fun cs w => (putCell cs w.key w.value w.has m).1) s.cells else s.cells
        ({ s with dones := d, moment := m, cells := cs, lines := leaveL s.lines c.tx, lives := delLive s.lives c.tx }, rep 0)
def tableS (s : Shard) (c : Cmd) : Shard × Reply :=
  let r := if c.kind = 1 then openR s.rows c.tx c.attempt c.stamp s.clock
    else if c.kind = 5 then decideR s.rows c.tx c.attempt
    else if c.kind = 6 then killR s.rows c.tx c.attempt s.clock
    else beatR s.rows c.tx c.attempt s.clock
  ({ s with rows := r.1 }, ⟨r.2.2, r.2.1, [], false⟩)
def doS (s : Shard) (c : Cmd) : Shard × Reply :=
  if cmdOk c = false then (s, rep 1)
  else if c.kind = 9 then ({ s with clock := min (s.clock + 1) 1099511627776 }, rep 0)
  else if c.kind = 7 then finishS s c
  else if c.kind = 1 ∨ c.kind = 5 ∨ c.kind = 6 ∨ c.kind = 8 then tableS s c
  else if lateS s c ≠ 0 then (s, rep (lateS s c))
  else if c.kind = 2 then lockS s c
  else if c.kind = 3 then getS s c
  else putS s c

def wholeS (s : Shard) : Whole := ⟨s.clock, s.moment, s.cells.l, s.lines, s.rows, s.lives, s.dones⟩

def donesOk (l : List Done) : Bool :=
  l.all (fun d => decide (0 ≤ d.tx) && decide (d.tx ≤ 1048576) && decide (0 ≤ d.attempt) && decide (d.attempt ≤ 1048576)) && decide (l.Pairwise fun a b => a.tx < b.tx)
def writesOk (lines : List Line) (tx : Int) (l : List Write) : Bool :=
  l.all (fun w => decide (holdsL lines tx w.key = 2) && decide (w.value.length ≤ 32) && (w.has || w.value == [])) && decide (l.Pairwise fun a b => ltB a.key b.key = true)
def liveOk (lines : List Line) (dones : List Done) (x : Live) : Bool :=
  decide (x.last.tx = x.tx) && decide (x.last.attempt = x.attempt) && decide (2 ≤ x.last.kind) && decide (x.last.kind ≤ 4) && cmdOk x.last
    && !(match doneOf dones x.tx with | some d => decide (x.attempt ≤ d.attempt) | none => false) && writesOk lines x.tx x.writes
def livesOk (lines : List Line) (dones : List Done) (l : List Live) : Bool := decide (l.map (·.tx) = ownersL lines) && l.all (liveOk lines dones)
def wholeOk (w : Whole) : Bool :=
  decide (0 ≤ w.clock) && decide (w.clock ≤ 1099511627776) && decide (0 ≤ w.moment) && decide (w.moment ≤ 1099511627776)
    && cellsOk w.cells && linesOk w.lines && rowsOk w.rows && decide (lastOf w.cells ≤ w.moment) && donesOk w.dones && livesOk w.lines w.dones w.lives
def fromW (w : Whole) : Option Shard :=
  if wholeOk w then some ⟨w.clock, w.moment, ⟨w.cells, lastOf w.cells⟩, w.lines, w.rows, w.lives, w.dones⟩ else none
end Go.Proofs.YtllkjfadeaoicaaGreat

namespace Go.Proofs.YtllkjfadeaoicaaGreat

/-- a strict order -/
structure Lt {κ : Type} (lt : κ → κ → Bool) : Prop where
  irrefl : ∀ a, lt a a = false
  trans : ∀ {a b c}, lt a b = true → lt b c = true → lt a c = true
  tri : ∀ a b, lt a b = true ∨ a = b ∨ lt b a = true
theorem lt_B : Lt ltB := ⟨ltB_irrefl, ltB_trans, ltB_tri⟩
def ltI (a b : Int) : Bool := decide (a < b)
theorem lt_I : Lt ltI := ⟨fun a => by simp [ltI], fun h g => by simp [ltI] at *; omega, fun a b => by simp [ltI]; omega⟩
theorem Lt.asymm {κ : Type} {lt : κ → κ → Bool} (L : Lt lt) {a b : κ} (h : lt a b = true) : lt b a = false := by
  cases hb : lt b a with
  | false => rfl
  | true => have := L.trans h hb; rw [L.irrefl] at this; cases this

section
variable {α κ : Type} {key : α → κ} {lt : κ → κ → Bool}
/-- it rises -/
def Rises (key : α → κ) (lt : κ → κ → Bool) (l : List α) : Prop := l.Pairwise fun a b => lt (key a) (key b) = true
def before (key : α → κ) (lt : κ → κ → Bool) (k : κ) (l : List α) : Nat := ahead (fun x => lt (key x) k) l
theorem ahead_le (p : α → Bool) (l : List α) : ahead p l ≤ l.length := by
  unfold ahead; induction l with
  | nil => simp
  | cons x l ih => rw [List.takeWhile_cons]; split <;> simp <;> omega
theorem ahead_cons (p : α → Bool) (x : α) (l : List α) : ahead p (x :: l) = if p x then ahead p l + 1 else 0 := by
  unfold ahead; rw [List.takeWhile_cons]; split <;> simp
theorem take_ahead (p : α → Bool) : ∀ (l : List α), ∀ x ∈ l.take (ahead p l), p x = true
  | [], x, h => by simp at h
  | y :: l, x, h => by
    rw [ahead_cons] at h
    by_cases hp : p y = true
    · rw [if_pos hp] at h
      simp only [List.take_succ_cons, List.mem_cons] at h
      rcases h with rfl | h
      · exact hp
      · exact take_ahead p l x h
    · rw [if_neg hp] at h; simp at h
theorem at_ahead (p : α → Bool) : ∀ (l : List α) (x : α), l[ahead p l]? = some x → p x = false
  | [], x, h => by simp at h
  | y :: l, x, h => by
    rw [ahead_cons] at h
    by_cases hp : p y = true
    · rw [if_pos hp] at h
      simp only [List.getElem?_cons_succ] at h
      exact at_ahead p l x h
    · rw [if_neg hp] at h
      simp only [List.getElem?_cons_zero, Option.some.injEq] at h
      subst h; simpa using hp
theorem Rises.drop {l : List α} (h : Rises key lt l) (n : Nat) : Rises key lt (l.drop n) := List.Pairwise.sublist (List.drop_sublist n l) h
theorem Rises.take {l : List α} (h : Rises key lt l) (n : Nat) : Rises key lt (l.take n) := List.Pairwise.sublist (List.take_sublist n l) h
/-- nobody behind the place is less -/
theorem drop_before (L : Lt lt) {l : List α} (h : Rises key lt l) (k : κ) : ∀ x ∈ l.drop (before key lt k l), lt (key x) k = false := by
  intro x hx
  have hr := h.drop (before key lt k l)
  cases hd : l.drop (before key lt k l) with
  | nil => rw [hd] at hx; cases hx
  | cons y t =>
    rw [hd] at hx hr
    have hy : l[before key lt k l]? = some y := by rw [← List.head?_drop, hd]; rfl
    have hyk := at_ahead _ _ _ hy
    rcases List.mem_cons.1 hx with rfl | hx
    · exact hyk
    · have hyx := (List.pairwise_cons.1 hr).1 x hx
      cases hc : lt (key x) k with
      | false => rfl
      | true => have := L.trans hyx hc; rw [this] at hyk; cases hyk
theorem take_before (k : κ) (l : List α) : ∀ x ∈ l.take (before key lt k l), lt (key x) k = true := take_ahead _ l

/-- in its place, or instead of the one with its key -/
def upsert [DecidableEq κ] (key : α → κ) (lt : κ → κ → Bool) (x : α) (l : List α) : List α :=
  if (l[before key lt (key x) l]?.map key) = some (key x) then l.set (before key lt (key x) l) x else l.take (before key lt (key x) l) ++ x :: l.drop (before key lt (key x) l)

/-- cut at the place -/
theorem cut_at (L : Lt lt) {l : List α} (h : Rises key lt l) (k : κ) :
    (∃ a y b, l = a ++ y :: b ∧ a.length = before key lt k l ∧ key y = k ∧ (∀ x ∈ a, lt (key x) k = true) ∧ (∀ x ∈ b, lt k (key x) = true) ∧ (l[before key lt k l]?.map key) = some k) ∨
    (∃ a b, l = a ++ b ∧ a.length = before key lt k l ∧ (∀ x ∈ a, lt (key x) k = true) ∧ (∀ x ∈ b, lt k (key x) = true) ∧ (l[before key lt k l]?.map key) ≠ some k) := by
  have e := (List.take_append_drop (before key lt k l) l).symm
  have hl : (l.take (before key lt k l)).length = before key lt k l := by rw [List.length_take]; have := ahead_le (fun x => lt (key x) k) l; unfold before; omega
  have ht := take_before (key := key) (lt := lt) k l
  have hdp := drop_before L h k
  have hhead : l[before key lt k l]? = (l.drop (before key lt k l)).head? := (List.head?_drop ..).symm
  have hdr := h.drop (before key lt k l)
  cases hd : l.drop (before key lt k l) with
  | nil =>
    right
    refine ⟨_, _, e, hl, ht, ?_, ?_⟩
    · rw [hd]; intro x hx; cases hx
    · rw [hhead, hd]; simp
  | cons y t =>
    rw [hd] at hdp hdr
    have hyt : ∀ x ∈ t, lt (key y) (key x) = true := (List.pairwise_cons.1 hdr).1
    have hy := hdp y (List.mem_cons_self ..)
    rcases L.tri (key y) k with g | g | g
    · rw [g] at hy; cases hy
    · left
      refine ⟨l.take (before key lt k l), y, t, by rw [← hd]; exact e, hl, g, ht, fun x hx => g ▸ hyt x hx, ?_⟩
      rw [hhead, hd]; simp [g]
    · right
      refine ⟨_, _, e, hl, ht, ?_, ?_⟩
      · rw [hd]; intro x hx
        rcases List.mem_cons.1 hx with rfl | hx
        · exact g
        · exact L.trans g (hyt x hx)
      · rw [hhead, hd]
        intro hk
        have : key y = k := by simpa using hk
        rw [this, L.irrefl] at g
        cases g
theorem upsert_cut [DecidableEq κ] (L : Lt lt) {l : List α} (h : Rises key lt l) (x : α) :
    (∃ a y b, l = a ++ y :: b ∧ key y = key x ∧ (∀ z ∈ a, lt (key z) (key x) = true) ∧ (∀ z ∈ b, lt (key x) (key z) = true) ∧ upsert key lt x l = a ++ x :: b) ∨
    (∃ a b, l = a ++ b ∧ (∀ z ∈ a, lt (key z) (key x) = true) ∧ (∀ z ∈ b, lt (key x) (key z) = true) ∧ upsert key lt x l = a ++ x :: b) := by
  rcases cut_at L h (key x) with ⟨a, y, b, e, hn, hk, ha, hb, hs⟩ | ⟨a, b, e, hn, ha, hb, hs⟩
  · left
    refine ⟨a, y, b, e, hk, ha, hb, ?_⟩
    unfold upsert
    rw [if_pos hs, ← hn, e]
    simp
  · right
    refine ⟨a, b, e, ha, hb, ?_⟩
    unfold upsert
    rw [if_neg hs, ← hn, e]
    simp
theorem Rises.append_iff {a b : List α} : Rises key lt (a ++ b) ↔ Rises key lt a ∧ Rises key lt b ∧ ∀ x ∈ a, ∀ y ∈ b, lt (key x) (key y) = true := List.pairwise_append
theorem Rises.cons_iff {x : α} {b : List α} : Rises key lt (x :: b) ↔ (∀ y ∈ b, lt (key x) (key y) = true) ∧ Rises key lt b := List.pairwise_cons
theorem upsert_rises [DecidableEq κ] (L : Lt lt) {l : List α} (h : Rises key lt l) (x : α) : Rises key lt (upsert key lt x l) := by
  rcases upsert_cut L h x with ⟨a, y, b, e, hk, ha, hb, hu⟩ | ⟨a, b, e, ha, hb, hu⟩
  · rw [hu]; rw [e] at h
    obtain ⟨h1, h2, h3⟩ := Rises.append_iff.1 h
    obtain ⟨h4, h5⟩ := Rises.cons_iff.1 h2
    refine Rises.append_iff.2 ⟨h1, Rises.cons_iff.2 ⟨hb, h5⟩, ?_⟩
    intro z hz w hw
    rcases List.mem_cons.1 hw with rfl | hw
    · exact ha z hz
    · exact L.trans (ha z hz) (hb w hw)
  · rw [hu]; rw [e] at h
    obtain ⟨h1, h2, h3⟩ := Rises.append_iff.1 h
    refine Rises.append_iff.2 ⟨h1, Rises.cons_iff.2 ⟨hb, h2⟩, ?_⟩
    intro z hz w hw
    rcases List.mem_cons.1 hw with rfl | hw
    · exact ha z hz
    · exact L.trans (ha z hz) (hb w hw)
theorem ne_of_lt (L : Lt lt) {a b : κ} (h : lt a b = true) : a ≠ b := fun e => by rw [e, L.irrefl] at h; cases h
theorem mem_upsert [DecidableEq κ] (L : Lt lt) {l : List α} (h : Rises key lt l) (x z : α) : z ∈ upsert key lt x l ↔ z = x ∨ (z ∈ l ∧ key z ≠ key x) := by
  rcases upsert_cut L h x with ⟨a, y, b, e, hk, ha, hb, hu⟩ | ⟨a, b, e, ha, hb, hu⟩
  · rw [hu, e]
    simp only [List.mem_append, List.mem_cons]
    constructor
    · rintro (hz | rfl | hz)
      · exact .inr ⟨.inl hz, ne_of_lt L (ha z hz)⟩
      · exact .inl rfl
      · exact .inr ⟨.inr (.inr hz), fun g => ne_of_lt L (hb z hz) g.symm⟩
    · rintro (rfl | ⟨hz | rfl | hz, hn⟩)
      · exact .inr (.inl rfl)
      · exact .inl hz
      · exact absurd hk hn
      · exact .inr (.inr hz)
  · rw [hu, e]
    simp only [List.mem_append, List.mem_cons]
    constructor
    · rintro (hz | rfl | hz)
      · exact .inr ⟨.inl hz, ne_of_lt L (ha z hz)⟩
      · exact .inl rfl
      · exact .inr ⟨.inr hz, fun g => ne_of_lt L (hb z hz) g.symm⟩
    · rintro (rfl | ⟨hz | hz, hn⟩)
      · exact .inr (.inl rfl)
      · exact .inl hz
      · exact .inr (.inr hz)
/-- one key, one element -/
theorem Rises.uniq (L : Lt lt) {l : List α} (h : Rises key lt l) {x y : α} (hx : x ∈ l) (hy : y ∈ l) (hk : key x = key y) : x = y := by
  induction l with
  | nil => cases hx
  | cons z t ih =>
    obtain ⟨h1, h2⟩ := Rises.cons_iff.1 h
    rcases List.mem_cons.1 hx with ex | hx' <;> rcases List.mem_cons.1 hy with ey | hy'
    · rw [ex, ey]
    · exact absurd (ex ▸ hk) (ne_of_lt L (h1 y hy'))
    · exact absurd (ey ▸ hk.symm) (ne_of_lt L (h1 x hx'))
    · exact ih h2 hx' hy'
theorem find_iff (L : Lt lt) {l : List α} (h : Rises key lt l) (k : κ) (x : α) (p : α → Bool) (hp : ∀ z, p z = true ↔ key z = k) : l.find? p = some x ↔ x ∈ l ∧ key x = k := by
  constructor
  · intro hf
    exact ⟨List.mem_of_find?_eq_some hf, (hp x).1 (List.find?_some hf)⟩
  · rintro ⟨hx, hk⟩
    cases hf : l.find? p with
    | none => exact absurd ((hp x).2 hk) (by simpa using List.find?_eq_none.1 hf x hx)
    | some y =>
      have hy := List.mem_of_find?_eq_some hf
      have hyk := (hp y).1 (List.find?_some hf)
      rw [h.uniq L hy hx (hyk.trans hk.symm)]
theorem at_iff (L : Lt lt) {l : List α} (h : Rises key lt l) (k : κ) (x : α) : (l[before key lt k l]? = some x ∧ key x = k) ↔ (x ∈ l ∧ key x = k) := by
  constructor
  · rintro ⟨h1, h2⟩; exact ⟨List.mem_of_getElem? h1, h2⟩
  · rintro ⟨h1, h2⟩
    rcases cut_at L h k with ⟨a, y, b, e, hn, hk, ha, hb, hs⟩ | ⟨a, b, e, hn, ha, hb, hs⟩
    · have hg : l[before key lt k l]? = some y := by rw [← hn, e]; simp
      have : x = y := h.uniq L h1 (List.mem_of_getElem? hg) (h2.trans hk.symm)
      exact ⟨this ▸ hg, h2⟩
    · rw [e] at h1
      rcases List.mem_append.1 h1 with g | g
      · exact absurd h2 (ne_of_lt L (ha x g))
      · exact absurd h2.symm (ne_of_lt L (hb x g))
/-- two rising rows with the same elements are one -/
theorem rises_ext (L : Lt lt) : ∀ {l m : List α}, Rises key lt l → Rises key lt m → (∀ x, x ∈ l ↔ x ∈ m) → l = m
  | [], [], _, _, _ => rfl
  | [], y :: m, _, _, h => absurd ((h y).2 (List.mem_cons_self ..)) (by simp)
  | x :: l, [], _, _, h => absurd ((h x).1 (List.mem_cons_self ..)) (by simp)
  | x :: l, y :: m, hl, hm, h => by
    obtain ⟨l1, l2⟩ := Rises.cons_iff.1 hl
    obtain ⟨m1, m2⟩ := Rises.cons_iff.1 hm
    have hxy : x = y := by
      have hx := (h x).1 (List.mem_cons_self ..)
      have hy := (h y).2 (List.mem_cons_self ..)
      rcases List.mem_cons.1 hx with rfl | hx
      · rfl
      · rcases List.mem_cons.1 hy with rfl | hy
        · rfl
        · have a := m1 x hx; have b := l1 y hy
          rw [L.asymm a] at b; cases b
    subst hxy
    congr 1
    apply rises_ext L l2 m2
    intro z
    constructor
    · intro hz
      rcases List.mem_cons.1 ((h z).1 (List.mem_cons_of_mem _ hz)) with rfl | g
      · exact absurd rfl (ne_of_lt L (l1 z hz))
      · exact g
    · intro hz
      rcases List.mem_cons.1 ((h z).2 (List.mem_cons_of_mem _ hz)) with rfl | g
      · exact absurd rfl (ne_of_lt L (m1 z hz))
      · exact g
end
end Go.Proofs.YtllkjfadeaoicaaGreat

namespace Go.Proofs.YtllkjfadeaoicaaGreat

theorem modeOf_cons (h : Hold) (l : List Hold) (o : Int) : modeOf (h :: l) o = if h.owner = o then h.mode else modeOf l o := by
  unfold modeOf; rw [List.find?_cons]
  by_cases e : h.owner = o
  · simp [e]
  · simp [e, show (h.owner == o) = false from by simpa using e]
theorem modeOf_nil (o : Int) : modeOf [] o = 0 := rfl
theorem modeOf_none {l : List Hold} {o : Int} (h : ∀ x ∈ l, x.owner ≠ o) : modeOf l o = 0 := by
  induction l with
  | nil => rfl
  | cons x l ih => rw [modeOf_cons, if_neg (h x (List.mem_cons_self ..))]; exact ih fun y hy => h y (List.mem_cons_of_mem _ hy)
theorem modeOf_append (a b : List Hold) (o : Int) : modeOf (a ++ b) o = if ∃ x ∈ a, x.owner = o then modeOf a o else modeOf b o := by
  induction a with
  | nil => simp
  | cons x a ih =>
    rw [List.cons_append, modeOf_cons, modeOf_cons, ih]
    by_cases e : x.owner = o
    · simp [e]
    · simp [e]
/-- modes that are -/
def ModesOk (l : List Hold) : Prop := ∀ h ∈ l, 0 ≤ h.owner ∧ (h.mode = 1 ∨ h.mode = 2)
theorem modeOf_pos {l : List Hold} (hm : ModesOk l) (o : Int) : (0 < modeOf l o ↔ ∃ x ∈ l, x.owner = o) ∧ 0 ≤ modeOf l o ∧ modeOf l o ≤ 2 := by
  induction l with
  | nil => simp [modeOf_nil]
  | cons x l ih =>
    have hx := hm x (List.mem_cons_self ..)
    obtain ⟨h1, h2, h3⟩ := ih fun y hy => hm y (List.mem_cons_of_mem _ hy)
    rw [modeOf_cons]
    by_cases e : x.owner = o
    · rw [if_pos e]
      exact ⟨⟨fun _ => ⟨x, List.mem_cons_self .., e⟩, fun _ => by omega⟩, by omega, by omega⟩
    · rw [if_neg e]
      refine ⟨h1.trans ⟨fun ⟨y, hy, g⟩ => ⟨y, List.mem_cons_of_mem _ hy, g⟩, fun ⟨y, hy, g⟩ => ?_⟩, h2, h3⟩
      rcases List.mem_cons.1 hy with rfl | hy
      · exact absurd g e
      · exact ⟨y, hy, g⟩

/-- holders as they may be -/
structure HeldP (l : List Hold) : Prop where
  modes : ModesOk l
  sole : ∀ h ∈ l, h.mode = 2 → l.length ≤ 1
  rises : Rises Hold.owner ltI l
/-- a queue as it may be, beside its holders -/
structure QueuedP (hs q : List Hold) : Prop where
  modes : ModesOk q
  more : ∀ w ∈ q, modeOf hs w.owner < w.mode
  once : q.Pairwise fun a b => a.owner ≠ b.owner
  first : q.Pairwise fun a b => 0 < modeOf hs b.owner → 0 < modeOf hs a.owner

theorem isMode_iff (m : Int) : isMode m = true ↔ m = 1 ∨ m = 2 := by simp [isMode]
theorem heldOk_iff (l : List Hold) : heldOk l = true ↔ HeldP l := by
  unfold heldOk
  simp only [Bool.and_eq_true, List.all_eq_true, decide_eq_true_eq, Bool.not_eq_true', Bool.and_eq_false_iff, beq_eq_false_iff_ne, decide_eq_false_iff_not, isMode_iff]
  constructor
  · rintro ⟨h1, h2⟩
    refine ⟨fun h hh => (h1 h hh).1, fun h hh h2' => ?_, ?_⟩
    · rcases (h1 h hh).2 with g | g
      · exact absurd h2' g
      · omega
    · exact h2.imp fun {a b} g => by simpa [ltI] using g
  · rintro ⟨h1, h2, h3⟩
    refine ⟨fun h hh => ⟨h1 h hh, ?_⟩, h3.imp fun {a b} g => by simpa [ltI] using g⟩
    by_cases e : h.mode = 2
    · exact .inr (by have := h2 h hh e; omega)
    · exact .inl e
theorem queuedOk_iff (hs : List Hold) : ∀ (q seen : List Hold) (plain : Bool), ModesOk seen → (queuedOk hs seen plain q = true ↔
    (ModesOk q ∧ (∀ w ∈ q, modeOf hs w.owner < w.mode) ∧ (q.Pairwise fun a b => a.owner ≠ b.owner) ∧ (∀ a ∈ seen, ∀ b ∈ q, a.owner ≠ b.owner) ∧
     (plain = true → ∀ w ∈ q, ¬ 0 < modeOf hs w.owner) ∧ (q.Pairwise fun a b => 0 < modeOf hs b.owner → modeOf hs a.owner ≠ 0)))
  | [], seen, plain, hseen => by simp [queuedOk, ModesOk]
  | w :: q, seen, plain, hseen => by
    unfold queuedOk
    simp only
    split
    · rename_i h
      simp only [Bool.false_eq_true, false_iff]
      rintro ⟨h1, h2, h3, h4, h5, h6⟩
      have hw := h1 w (List.mem_cons_self ..)
      rcases h with h | h | h | h | ⟨h, hp⟩
      · omega
      · rw [← Bool.not_eq_true, isMode_iff] at h; exact h hw.2
      · have := h2 w (List.mem_cons_self ..); omega
      · obtain ⟨x, hx, e⟩ := (modeOf_pos hseen w.owner).1.1 h
        exact h4 x hx w (List.mem_cons_self ..) e
      · exact h5 hp w (List.mem_cons_self ..) h
    · rename_i h
      simp only [not_or, not_and] at h
      obtain ⟨a1, a2, a3, a4, a5⟩ := h
      have hw : 0 ≤ w.owner ∧ (w.mode = 1 ∨ w.mode = 2) := ⟨by omega, (isMode_iff _).1 (by simpa using a2)⟩
      have hseen' : ModesOk (seen ++ [w]) := fun y hy => by
        rcases List.mem_append.1 hy with hy | hy
        · exact hseen y hy
        · rw [List.mem_singleton.1 hy]; exact hw
      have hns : ∀ a ∈ seen, a.owner ≠ w.owner := fun a ha e => a4 ((modeOf_pos hseen w.owner).1.2 ⟨a, ha, e⟩)
      rw [queuedOk_iff hs q (seen ++ [w]) _ hseen']
      simp only [List.pairwise_cons, List.forall_mem_cons, List.mem_append, List.mem_singleton, Bool.or_eq_true, beq_iff_eq]
      constructor
      · rintro ⟨h1, h2, h3, h4, h5, h6⟩
        refine ⟨fun y hy => ?_, ⟨by omega, h2⟩, ⟨fun b hb => h4 w (.inr rfl) b hb, h3⟩, fun a ha => ⟨hns a ha, fun b hb => h4 a (.inl ha) b hb⟩, fun hp => ⟨fun g => a5 g hp, h5 (.inl hp)⟩, ?_, h6⟩
        · rcases List.mem_cons.1 hy with rfl | hy
          · exact hw
          · exact h1 y hy
        · intro b hb hb0 hw0
          exact h5 (.inr hw0) b hb hb0
      · rintro ⟨h1, ⟨h2, h2'⟩, ⟨h3, h3'⟩, h4, h5, h6, h6'⟩
        refine ⟨fun y hy => h1 y (List.mem_cons_of_mem _ hy), h2', h3', ?_, ?_, h6'⟩
        · intro a ha b hb
          rcases ha with ha | rfl
          · exact (h4 a ha).2 b hb
          · exact h3 b hb
        · intro hp b hb hb0
          rcases hp with hp | hp
          · exact (h5 hp).2 b hb hb0
          · exact h6 b hb hb0 hp

theorem queuedOk_of {hs q : List Hold} (hh : ModesOk hs) : queuedOk hs [] false q = true ↔ QueuedP hs q := by
  rw [queuedOk_iff hs q [] false (fun _ h => by cases h)]
  constructor
  · rintro ⟨h1, h2, h3, _, _, h6⟩
    exact ⟨h1, h2, h3, h6.imp fun {a b} g hb => by have := g hb; have := (modeOf_pos hh a.owner).2.1; omega⟩
  · rintro ⟨h1, h2, h3, h6⟩
    exact ⟨h1, h2, h3, fun _ h => (by cases h), fun h => (by cases h), h6.imp fun {a b} g hb => by have := g hb; omega⟩

/-- a line as it may be, but that the first one may be to be let in, or that it may be empty -/
structure LineP (l : Line) : Prop where
  key : l.key.length ≤ 16
  held : HeldP l.holders
  queued : QueuedP l.holders l.queue

theorem lineOk_iff (l : Line) : lineOk l = true ↔ LineP l ∧ 0 < l.holders.length + l.queue.length ∧ mayIn l = false := by
  unfold lineOk
  simp only [Bool.and_eq_true, decide_eq_true_eq, Bool.not_eq_true', heldOk_iff]
  constructor
  · rintro ⟨⟨⟨⟨h1, h2⟩, h3⟩, h4⟩, h5⟩
    exact ⟨⟨h1, h3, (queuedOk_of h3.modes).1 h4⟩, h2, h5⟩
  · rintro ⟨⟨h1, h3, h4⟩, h2, h5⟩
    exact ⟨⟨⟨⟨h1, h2⟩, h3⟩, (queuedOk_of h3.modes).2 h4⟩, h5⟩

/-! ### a holder more -/
theorem putHold_eq (l : List Hold) (h : Hold) : putHold l h = upsert Hold.owner ltI h l := rfl
theorem modeOf_upsert {l : List Hold} (hl : Rises Hold.owner ltI l) (h : Hold) (o : Int) : modeOf (upsert Hold.owner ltI h l) o = if o = h.owner then h.mode else modeOf l o := by
  have key : ∀ (a b : List Hold), (∀ z ∈ a, ltI z.owner h.owner = true) → (∀ z ∈ b, ltI h.owner z.owner = true) → o = h.owner → modeOf (a ++ h :: b) o = h.mode := by
    intro a b ha hb e
    rw [modeOf_append, if_neg, modeOf_cons, if_pos e.symm]
    rintro ⟨x, hx, g⟩
    have := ne_of_lt lt_I (ha x hx)
    exact this (g.trans e)
  rcases upsert_cut lt_I hl h with ⟨a, y, b, e, hk, ha, hb, hu⟩ | ⟨a, b, e, ha, hb, hu⟩
  · rw [hu, e]
    by_cases ho : o = h.owner
    · rw [if_pos ho]; exact key a b ha hb ho
    · rw [if_neg ho, modeOf_append, modeOf_append, modeOf_cons h, modeOf_cons y, if_neg (show ¬ h.owner = o from fun g => ho g.symm), if_neg (show ¬ y.owner = o from fun g => ho (g.symm.trans hk))]
  · rw [hu, e]
    by_cases ho : o = h.owner
    · rw [if_pos ho]; exact key a b ha hb ho
    · rw [if_neg ho, modeOf_append, modeOf_append, modeOf_cons h, if_neg (show ¬ h.owner = o from fun g => ho g.symm)]

theorem fitsH_iff (l : List Hold) (m : Int) : fitsH l m = true ↔ ∀ h ∈ l, h.mode ≠ 2 ∧ m ≠ 2 := by
  unfold fitsH clash
  simp [List.all_eq_true]

/-- one step of letting in -/
theorem let_step {l : Line} (h : LineP l) {w : Hold} {q : List Hold} (hq : l.queue = w :: q) (hm : mayIn l = true) : LineP ⟨l.key, putHold l.holders w, q⟩ := by
  obtain ⟨hk, hh, hqq⟩ := h
  rw [hq] at hqq
  obtain ⟨q1, q2, q3, q4⟩ := hqq
  have hw := q1 w (List.mem_cons_self ..)
  have hmore := q2 w (List.mem_cons_self ..)
  obtain ⟨q3a, q3b⟩ := List.pairwise_cons.1 q3
  obtain ⟨q4a, q4b⟩ := List.pairwise_cons.1 q4
  have hrise := upsert_rises lt_I hh.rises w
  unfold mayIn at hm
  rw [hq] at hm
  simp only at hm
  rw [putHold_eq]
  have hmo : ∀ b ∈ q, modeOf (upsert Hold.owner ltI w l.holders) b.owner = modeOf l.holders b.owner := fun b hb => by
    rw [modeOf_upsert hh.rises, if_neg (fun e => q3a b hb e.symm)]
  refine ⟨hk, ⟨?_, ?_, hrise⟩, ⟨fun b hb => q1 b (List.mem_cons_of_mem _ hb), fun b hb => by simp only; rw [hmo b hb]; exact q2 b (List.mem_cons_of_mem _ hb), q3b, ?_⟩⟩
  · intro x hx
    rcases (mem_upsert lt_I hh.rises w x).1 hx with rfl | ⟨hx, _⟩
    · exact hw
    · exact hh.modes x hx
  · by_cases hup : modeOf l.holders w.owner > 0
    · rw [if_pos hup] at hm
      obtain ⟨x, hx, hxo⟩ := (modeOf_pos hh.modes w.owner).1.1 hup
      have hlen : l.holders.length = 1 := by simpa using hm
      intro y hy _
      have : upsert Hold.owner ltI w l.holders = [w] := by
        match hl : l.holders, hlen with
        | [z], _ =>
          rw [hl] at hx
          have hz : z.owner = w.owner := by rw [← List.mem_singleton.1 hx]; exact hxo
          unfold upsert before
          rw [ahead_cons]
          simp [lt_I.irrefl, hz]
      simp only
      rw [this]; simp
    · rw [if_neg hup] at hm
      have hf := (fitsH_iff _ _).1 hm
      intro y hy hy2
      cases hl : l.holders with
      | nil => simp [upsert, before, ahead]
      | cons z t =>
        have hz := hf z (by rw [hl]; exact List.mem_cons_self ..)
        rcases (mem_upsert lt_I hh.rises w y).1 hy with rfl | ⟨hy', _⟩
        · exact absurd hy2 hz.2
        · exact absurd hy2 (hf y hy').1
  · refine q4b.imp_of_mem fun {a b} ha hb g => ?_
    simp only
    rw [hmo a ha, hmo b hb]
    exact g

theorem letIn_ok : ∀ (n : Nat) (l : Line), l.queue.length ≤ n → LineP l → LineP (letIn n l) ∧ mayIn (letIn n l) = false
  | 0, l, hn, h => by
    refine ⟨h, ?_⟩
    have : l.queue = [] := List.eq_nil_of_length_eq_zero (by omega)
    simp [letIn, mayIn, this]
  | n + 1, l, hn, h => by
    unfold letIn
    by_cases hm : mayIn l = true
    · rw [if_pos hm]
      cases hq : l.queue with
      | nil => simp only; simp [mayIn, hq] at hm
      | cons w q =>
        simp only
        refine letIn_ok n _ ?_ (let_step h hq hm)
        rw [hq] at hn
        simp at hn
        exact hn
    · rw [if_neg hm]
      exact ⟨h, by simpa using hm⟩
theorem letAll_ok {l : Line} (h : LineP l) : LineP (letAll l) ∧ mayIn (letAll l) = false := letIn_ok _ l (Nat.le_refl _) h

/-- whoever is there before is there behind -/
def inLine (l : Line) (o : Int) : Prop := (∃ x ∈ l.holders, x.owner = o) ∨ ∃ x ∈ l.queue, x.owner = o
theorem letIn_in : ∀ (n : Nat) (l : Line), LineP l → ∀ o, inLine (letIn n l) o ↔ inLine l o
  | 0, l, _, o => Iff.rfl
  | n + 1, l, h, o => by
    unfold letIn
    by_cases hm : mayIn l = true
    · rw [if_pos hm]
      cases hq : l.queue with
      | nil => simp only
      | cons w q =>
        simp only
        rw [letIn_in n _ (let_step h hq hm) o]
        unfold inLine
        simp only [putHold_eq, mem_upsert lt_I h.held.rises, hq, List.mem_cons]
        constructor
        · rintro (⟨x, rfl | ⟨hx, _⟩, e⟩ | ⟨x, hx, e⟩)
          · exact .inr ⟨x, .inl rfl, e⟩
          · exact .inl ⟨x, hx, e⟩
          · exact .inr ⟨x, .inr hx, e⟩
        · rintro (⟨x, hx, e⟩ | ⟨x, rfl | hx, e⟩)
          · by_cases g : x.owner = w.owner
            · exact .inl ⟨w, .inl rfl, g.symm.trans e⟩
            · exact .inl ⟨x, .inr ⟨hx, g⟩, e⟩
          · exact .inl ⟨x, .inl rfl, e⟩
          · exact .inr ⟨x, hx, e⟩
    · rw [if_neg hm]
theorem letAll_in {l : Line} (h : LineP l) (o : Int) : inLine (letAll l) o ↔ inLine l o := letIn_in _ l h o
theorem letIn_key : ∀ (n : Nat) (l : Line), (letIn n l).key = l.key
  | 0, l => rfl
  | n + 1, l => by
    unfold letIn
    split
    · split
      · rfl
      · rw [letIn_key]
    · rfl
theorem letAll_key (l : Line) : (letAll l).key = l.key := letIn_key _ l
/-- who holds Sole keeps it, and nobody is let in beside -/
theorem letIn_sole : ∀ (n : Nat) (l : Line), LineP l → ∀ o, modeOf l.holders o = 2 → letIn n l = l
  | 0, l, _, o, _ => rfl
  | n + 1, l, h, o, ho => by
    unfold letIn
    rw [if_neg]
    intro hm
    unfold mayIn at hm
    obtain ⟨x, hx, hxo⟩ := (modeOf_pos h.held.modes o).1.1 (by omega)
    have hx2 : x.mode = 2 := by
      have hf := (find_iff lt_I h.held.rises o x (fun h => h.owner == o) (fun z => by simp)).2 ⟨hx, hxo⟩
      unfold modeOf at ho; rw [hf] at ho; exact ho
    cases hq : l.queue with
    | nil => rw [hq] at hm; cases hm
    | cons w q =>
      rw [hq] at hm
      simp only at hm
      have hmore := h.queued.more w (by rw [hq]; exact List.mem_cons_self ..)
      have hwm := (h.queued.modes w (by rw [hq]; exact List.mem_cons_self ..)).2
      by_cases hup : modeOf l.holders w.owner > 0
      · obtain ⟨y, hy, hyo⟩ := (modeOf_pos h.held.modes w.owner).1.1 hup
        have hlen := h.held.sole x hx hx2
        have hxy : y = x := by
          match hl : l.holders, hlen with
          | [z], _ => rw [hl] at hx hy; rw [List.mem_singleton.1 hx, List.mem_singleton.1 hy]
          | [], _ => rw [hl] at hx; cases hx
        have : modeOf l.holders w.owner = 2 := by rw [← hyo, hxy, hxo]; exact ho
        omega
      · rw [if_neg hup] at hm
        exact ((fitsH_iff _ _).1 hm x hx).1 hx2
theorem letAll_sole {l : Line} (h : LineP l) {o : Int} (ho : modeOf l.holders o = 2) : letAll l = l := letIn_sole _ l h o ho
end Go.Proofs.YtllkjfadeaoicaaGreat

namespace Go.Proofs.YtllkjfadeaoicaaGreat

theorem askLine_key (l : Line) (o m : Int) : (askLine l o m).1.key = l.key := by
  unfold askLine
  split
  · rfl
  · split
    · rfl
    · simp only
      rw [letAll_key]
      split <;> rfl

theorem LineP.modes {l : Line} (h : LineP l) : ModesOk (l.holders ++ l.queue) := fun x hx => by
  rcases List.mem_append.1 hx with hx | hx
  · exact h.held.modes x hx
  · exact h.queued.modes x hx

/-- the line with one more that waits -/
def joined (l : Line) (o m : Int) : Line :=
  if modeOf l.holders o > 0 then ⟨l.key, l.holders, l.queue.take (upgrades l) ++ ⟨o, m⟩ :: l.queue.drop (upgrades l)⟩ else ⟨l.key, l.holders, l.queue ++ [⟨o, m⟩]⟩

theorem joined_ok {l : Line} (h : LineP l) {o m : Int} (ho : 0 ≤ o) (hm : m = 1 ∨ m = 2) (h1 : modeOf l.holders o < m) (h2 : ¬ modeOf l.queue o > 0) : LineP (joined l o m) := by
  have hno : ∀ x ∈ l.queue, x.owner ≠ o := fun x hx e => h2 ((modeOf_pos h.queued.modes o).1.2 ⟨x, hx, e⟩)
  unfold joined
  split
  · rename_i hup
    have e := (List.take_append_drop (upgrades l) l.queue)
    have ht : ∀ x ∈ l.queue.take (upgrades l), 0 < modeOf l.holders x.owner := fun x hx => by
      have := take_ahead _ l.queue x hx
      simpa using this
    have hmem : ∀ x, x ∈ l.queue.take (upgrades l) ++ (⟨o, m⟩ : Hold) :: l.queue.drop (upgrades l) ↔ x = ⟨o, m⟩ ∨ x ∈ l.queue := fun x => by
      rw [List.mem_append, List.mem_cons]
      conv => rhs; rw [← e, List.mem_append]
      constructor
      · rintro (a | a | a)
        · exact .inr (.inl a)
        · exact .inl a
        · exact .inr (.inr a)
      · rintro (a | a | a)
        · exact .inr (.inl a)
        · exact .inl a
        · exact .inr (.inr a)
    refine ⟨h.key, h.held, ⟨fun x hx => ?_, fun x hx => ?_, ?_, ?_⟩⟩
    · rcases (hmem x).1 hx with rfl | hx
      · exact ⟨ho, hm⟩
      · exact h.queued.modes x hx
    · rcases (hmem x).1 hx with rfl | hx
      · exact h1
      · exact h.queued.more x hx
    · have hq := h.queued.once
      rw [← e, List.pairwise_append] at hq
      simp only
      rw [List.pairwise_append, List.pairwise_cons]
      refine ⟨hq.1, ⟨fun x hx => fun g => hno x (List.mem_of_mem_drop hx) g.symm, hq.2.1⟩, fun x hx y hy => ?_⟩
      rcases List.mem_cons.1 hy with rfl | hy
      · exact hno x (List.mem_of_mem_take hx)
      · exact hq.2.2 x hx y hy
    · have hq := h.queued.first
      rw [← e, List.pairwise_append] at hq
      simp only
      rw [List.pairwise_append, List.pairwise_cons]
      exact ⟨hq.1, ⟨fun _ _ _ => hup, hq.2.1⟩, fun x hx y hy _ => ht x hx⟩
  · rename_i hup
    refine ⟨h.key, h.held, ⟨fun x hx => ?_, fun x hx => ?_, ?_, ?_⟩⟩
    · rcases List.mem_append.1 hx with hx | hx
      · exact h.queued.modes x hx
      · rw [List.mem_singleton.1 hx]; exact ⟨ho, hm⟩
    · rcases List.mem_append.1 hx with hx | hx
      · exact h.queued.more x hx
      · rw [List.mem_singleton.1 hx]; exact h1
    · simp only
      rw [List.pairwise_append]
      refine ⟨h.queued.once, List.pairwise_singleton .., fun x hx y hy => ?_⟩
      rw [List.mem_singleton.1 hy]; exact hno x hx
    · simp only
      rw [List.pairwise_append]
      refine ⟨h.queued.first, List.pairwise_singleton .., fun x hx y hy g => ?_⟩
      rw [List.mem_singleton.1 hy] at g; exact absurd g hup

theorem joined_in (l : Line) (o m x : Int) : inLine (joined l o m) x ↔ x = o ∨ inLine l x := by
  have e := (List.take_append_drop (upgrades l) l.queue)
  have key : (∃ y ∈ (joined l o m).queue, y.owner = x) ↔ x = o ∨ ∃ y ∈ l.queue, y.owner = x := by
    unfold joined
    split
    · simp only [List.mem_append, List.mem_cons]
      constructor
      · rintro ⟨y, a | rfl | a, g⟩
        · exact .inr ⟨y, List.mem_of_mem_take a, g⟩
        · exact .inl g.symm
        · exact .inr ⟨y, List.mem_of_mem_drop a, g⟩
      · rintro (rfl | ⟨y, hy, g⟩)
        · exact ⟨_, .inr (.inl rfl), rfl⟩
        · rw [← e, List.mem_append] at hy
          rcases hy with hy | hy
          · exact ⟨y, .inl hy, g⟩
          · exact ⟨y, .inr (.inr hy), g⟩
    · simp only [List.mem_append, List.mem_singleton]
      constructor
      · rintro ⟨y, a | rfl, g⟩
        · exact .inr ⟨y, a, g⟩
        · exact .inl g.symm
      · rintro (rfl | ⟨y, hy, g⟩)
        · exact ⟨_, .inr rfl, rfl⟩
        · exact ⟨y, .inl hy, g⟩
  have hh : (joined l o m).holders = l.holders := by unfold joined; split <;> rfl
  unfold inLine
  rw [key, hh]
  constructor
  · rintro (a | a | a)
    · exact .inr (.inl a)
    · exact .inl a
    · exact .inr (.inr a)
  · rintro (a | a | a)
    · exact .inr (.inl a)
    · exact .inl a
    · exact .inr (.inr a)

theorem askLine_eq (l : Line) (o m : Int) : (askLine l o m).1 = if modeOf l.holders o ≥ m then l else if modeOf l.queue o > 0 then l else letAll (joined l o m) := by
  unfold askLine joined
  split
  · rfl
  · split
    · rfl
    · split <;> rfl

theorem askLine_ok {l : Line} (h : LineP l) (hn : mayIn l = false) {o m : Int} (ho : 0 ≤ o) (hm : m = 1 ∨ m = 2) :
    LineP (askLine l o m).1 ∧ mayIn (askLine l o m).1 = false ∧ (∀ x, inLine (askLine l o m).1 x ↔ x = o ∨ inLine l x) := by
  rw [askLine_eq]
  split
  · rename_i h1
    refine ⟨h, hn, fun x => ⟨.inr, ?_⟩⟩
    rintro (rfl | g)
    · obtain ⟨y, hy, e⟩ := (modeOf_pos h.held.modes x).1.1 (by omega)
      exact .inl ⟨y, hy, e⟩
    · exact g
  · rename_i h1
    split
    · rename_i h2
      refine ⟨h, hn, fun x => ⟨.inr, ?_⟩⟩
      rintro (rfl | g)
      · obtain ⟨y, hy, e⟩ := (modeOf_pos h.queued.modes x).1.1 h2
        exact .inr ⟨y, hy, e⟩
      · exact g
    · rename_i h2
      have hj := joined_ok h ho hm (by omega) h2
      obtain ⟨a, b⟩ := letAll_ok hj
      exact ⟨a, b, fun x => by rw [letAll_in hj, joined_in]⟩

/-- who holds Sole goes on to -/
theorem askLine_sole {l : Line} (h : LineP l) {o m x : Int} (ho : 0 ≤ o) (hm : m = 1 ∨ m = 2) (hx : modeOf l.holders x = 2) : modeOf (askLine l o m).1.holders x = 2 := by
  rw [askLine_eq]
  split
  · exact hx
  · rename_i h1
    split
    · exact hx
    · rename_i h2
      have hj := joined_ok h ho hm (by omega) h2
      have hh : (joined l o m).holders = l.holders := by unfold joined; split <;> rfl
      rw [letAll_sole hj (o := x) (by rw [hh]; exact hx), hh]; exact hx

/-! ### leaving -/
theorem modeOf_filter (l : List Hold) (o x : Int) (hx : x ≠ o) : modeOf (l.filter fun h => !(h.owner == o)) x = modeOf l x := by
  induction l with
  | nil => rfl
  | cons y l ih =>
    rw [List.filter_cons]
    by_cases e : y.owner = o
    · rw [if_neg (by simp [e]), ih, modeOf_cons, if_neg (fun g => hx (g.symm.trans e))]
    · rw [if_pos (by simp [e]), modeOf_cons, modeOf_cons, ih]
def without (o : Int) (l : Line) : Line := ⟨l.key, l.holders.filter (fun h => !(h.owner == o)), l.queue.filter (fun h => !(h.owner == o))⟩
theorem mem_without (l : List Hold) (o : Int) (x : Hold) : x ∈ l.filter (fun h => !(h.owner == o)) ↔ x ∈ l ∧ x.owner ≠ o := by simp [List.mem_filter]
theorem without_ok {l : Line} (h : LineP l) (o : Int) : LineP (without o l) := by
  refine ⟨h.key, ⟨fun x hx => h.held.modes x ((mem_without ..).1 hx).1, fun x hx h2 => ?_, List.Pairwise.sublist (List.filter_sublist) h.held.rises⟩,
    ⟨fun x hx => h.queued.modes x ((mem_without ..).1 hx).1, fun x hx => ?_, List.Pairwise.sublist (List.filter_sublist) h.queued.once, ?_⟩⟩
  · have := h.held.sole x ((mem_without ..).1 hx).1 h2
    exact Nat.le_trans (List.length_filter_le ..) this
  · obtain ⟨a, b⟩ := (mem_without ..).1 hx
    simp only [without]
    rw [modeOf_filter _ _ _ b]; exact h.queued.more x a
  · have hp := List.Pairwise.sublist (List.filter_sublist (p := fun h => !(h.owner == o))) h.queued.first
    refine hp.imp_of_mem fun {a b} ha hb g => ?_
    simp only [without]
    rw [modeOf_filter _ _ _ ((mem_without ..).1 ha).2, modeOf_filter _ _ _ ((mem_without ..).1 hb).2]
    exact g
theorem leaveLine_eq (o : Int) (l : Line) : leaveLine o l = letAll (without o l) := rfl
theorem leaveLine_ok {l : Line} (h : LineP l) (o : Int) : LineP (leaveLine o l) ∧ mayIn (leaveLine o l) = false ∧ (∀ x, inLine (leaveLine o l) x ↔ x ≠ o ∧ inLine l x) := by
  have hw := without_ok h o
  obtain ⟨a, b⟩ := letAll_ok hw
  rw [leaveLine_eq]
  refine ⟨a, b, fun x => ?_⟩
  rw [letAll_in hw]
  unfold inLine without
  simp only [mem_without]
  constructor
  · rintro (⟨y, ⟨hy, hn⟩, e⟩ | ⟨y, ⟨hy, hn⟩, e⟩)
    · exact ⟨e ▸ hn, .inl ⟨y, hy, e⟩⟩
    · exact ⟨e ▸ hn, .inr ⟨y, hy, e⟩⟩
  · rintro ⟨hn, ⟨y, hy, e⟩ | ⟨y, hy, e⟩⟩
    · exact .inl ⟨y, ⟨hy, e ▸ hn⟩, e⟩
    · exact .inr ⟨y, ⟨hy, e ▸ hn⟩, e⟩
theorem leaveLine_sole {l : Line} (h : LineP l) {o x : Int} (hxo : x ≠ o) (hx : modeOf l.holders x = 2) : modeOf (leaveLine o l).holders x = 2 := by
  have hw := without_ok h o
  have e : modeOf (without o l).holders x = 2 := by unfold without; simp only; rw [modeOf_filter _ _ _ hxo]; exact hx
  rw [leaveLine_eq, letAll_sole hw e]; exact e

/-! ### all lines -/
structure LinesP (ls : List Line) : Prop where
  each : ∀ l ∈ ls, LineP l ∧ 0 < l.holders.length + l.queue.length ∧ mayIn l = false
  rises : Rises Line.key ltB ls
theorem linesOk_iff (ls : List Line) : linesOk ls = true ↔ LinesP ls := by
  unfold linesOk
  simp only [Bool.and_eq_true, List.all_eq_true, decide_eq_true_eq, lineOk_iff]
  exact ⟨fun ⟨a, b⟩ => ⟨a, b⟩, fun ⟨a, b⟩ => ⟨a, b⟩⟩
theorem lineAt_eq (ls : List Line) (k : Bs) : lineAt ls k = before Line.key ltB k ls := rfl
theorem lineIs_eq (ls : List Line) (k : Bs) : lineIs ls k = decide ((ls[before Line.key ltB k ls]?.map Line.key) = some k) := by
  unfold lineIs; rw [lineAt_eq]
  rw [Bool.eq_iff_iff]; simp
theorem lineOf_mem {ls : List Line} (h : LinesP ls) {l : Line} (hl : l ∈ ls) : lineOf ls l.key = l := by
  have := (at_iff lt_B h.rises l.key l).2 ⟨hl, rfl⟩
  unfold lineOf
  rw [lineIs_eq, lineAt_eq, this.1]
  simp [List.getD_eq_getElem?_getD, this.1]
theorem lineOf_none {ls : List Line} (_h : LinesP ls) {k : Bs} (hk : ∀ l ∈ ls, l.key ≠ k) : lineOf ls k = ⟨[], [], []⟩ := by
  unfold lineOf
  rw [lineIs_eq]
  rw [if_neg]
  simp only [decide_eq_true_eq]
  intro he
  cases hg : ls[before Line.key ltB k ls]? with
  | none => rw [hg] at he; cases he
  | some l =>
    rw [hg] at he
    exact hk l (List.mem_of_getElem? hg) (by simpa using he)
theorem askL_eq (ls : List Line) (_h : LinesP ls) {o m : Int} {k : Bs} (ho : 0 ≤ o) (hk : k.length ≤ 16) (hm : m = 1 ∨ m = 2) :
    (askL ls o k m).1 = upsert Line.key ltB (if lineIs ls k then (askLine (lineOf ls k) o m).1 else ⟨k, [⟨o, m⟩], []⟩) ls := by
  unfold askL
  rw [if_neg (by
    rintro (g | g | g)
    · omega
    · omega
    · rw [(isMode_iff m).2 hm] at g; cases g)]
  by_cases hi : lineIs ls k = true
  · rw [if_pos hi, if_pos hi]
    have hlo : lineOf ls k = ls.getD (lineAt ls k) ⟨[], [], []⟩ := by unfold lineOf; rw [if_pos hi]
    rw [hlo]
    have hkey : (ls.getD (lineAt ls k) ⟨[], [], []⟩).key = k := by
      rw [lineIs_eq, decide_eq_true_eq] at hi
      rw [lineAt_eq, List.getD_eq_getElem?_getD]
      cases hg : ls[before Line.key ltB k ls]? with
      | none => rw [hg] at hi; cases hi
      | some l => rw [hg] at hi; simpa using hi
    simp only
    unfold upsert
    rw [askLine_key, hkey]
    rw [if_pos (by rw [lineIs_eq, decide_eq_true_eq] at hi; exact hi)]
    rfl
  · rw [if_neg hi, if_neg hi]
    unfold upsert
    simp only
    rw [if_neg (by rw [lineIs_eq, decide_eq_true_eq] at hi; exact hi)]
    rfl
theorem lineIs_iff {ls : List Line} (h : LinesP ls) (k : Bs) : lineIs ls k = true ↔ ∃ l ∈ ls, l.key = k := by
  rw [lineIs_eq, decide_eq_true_eq]
  constructor
  · intro he
    cases hg : ls[before Line.key ltB k ls]? with
    | none => rw [hg] at he; cases he
    | some l => rw [hg] at he; exact ⟨l, List.mem_of_getElem? hg, by simpa using he⟩
  · rintro ⟨l, hl, rfl⟩
    rw [((at_iff lt_B h.rises l.key l).2 ⟨hl, rfl⟩).1]; rfl
/-- the owners of all lines -/
def inLines (ls : List Line) (o : Int) : Prop := ∃ l ∈ ls, inLine l o

theorem askL_ok {ls : List Line} (h : LinesP ls) {o m : Int} {k : Bs} (ho : 0 ≤ o) (hk : k.length ≤ 16) (hm : m = 1 ∨ m = 2) :
    LinesP (askL ls o k m).1 ∧ (∀ x, inLines (askL ls o k m).1 x ↔ x = o ∨ inLines ls x) ∧ (∀ x k', holdsL ls x k' = 2 → holdsL (askL ls o k m).1 x k' = 2) := by
  rw [askL_eq ls h ho hk hm]
  by_cases hi : lineIs ls k = true
  · rw [if_pos hi]
    obtain ⟨l, hl, rfl⟩ := (lineIs_iff h k).1 hi
    rw [lineOf_mem h hl]
    obtain ⟨e1, e2, e3⟩ := h.each l hl
    obtain ⟨a1, a2, a3⟩ := askLine_ok e1 e3 ho hm
    have hkey := askLine_key l o m
    have hmem : ∀ z, z ∈ upsert Line.key ltB (askLine l o m).1 ls ↔ z = (askLine l o m).1 ∨ (z ∈ ls ∧ z.key ≠ l.key) := fun z => by rw [mem_upsert lt_B h.rises, hkey]
    have hne : 0 < (askLine l o m).1.holders.length + (askLine l o m).1.queue.length := by
      rcases (a3 o).2 (.inl rfl) with ⟨y, hy, _⟩ | ⟨y, hy, _⟩
      · have := List.length_pos_of_mem hy; omega
      · have := List.length_pos_of_mem hy; omega
    have hP : LinesP (upsert Line.key ltB (askLine l o m).1 ls) := ⟨fun z hz => by
      rcases (hmem z).1 hz with rfl | ⟨hz, _⟩
      · exact ⟨a1, hne, a2⟩
      · exact h.each z hz, upsert_rises lt_B h.rises _⟩
    refine ⟨hP, fun x => ?_, fun x k' hx => ?_⟩
    · unfold inLines
      constructor
      · rintro ⟨z, hz, g⟩
        rcases (hmem z).1 hz with rfl | ⟨hz, _⟩
        · rcases (a3 x).1 g with g | g
          · exact .inl g
          · exact .inr ⟨l, hl, g⟩
        · exact .inr ⟨z, hz, g⟩
      · rintro (rfl | ⟨z, hz, g⟩)
        · exact ⟨_, (hmem _).2 (.inl rfl), (a3 x).2 (.inl rfl)⟩
        · by_cases ek : z.key = l.key
          · have : z = l := h.rises.uniq lt_B hz hl ek
            exact ⟨_, (hmem _).2 (.inl rfl), (a3 x).2 (.inr (this ▸ g))⟩
          · exact ⟨z, (hmem z).2 (.inr ⟨hz, ek⟩), g⟩
    · unfold holdsL at hx ⊢
      by_cases ek : k' = l.key
      · subst ek
        rw [lineOf_mem h hl] at hx
        have := lineOf_mem hP ((hmem _).2 (.inl rfl))
        rw [hkey] at this
        rw [this]
        exact askLine_sole e1 ho hm hx
      · by_cases hex : ∃ z ∈ ls, z.key = k'
        · obtain ⟨z, hz, rfl⟩ := hex
          rw [lineOf_mem h hz] at hx
          rw [lineOf_mem hP ((hmem z).2 (.inr ⟨hz, ek⟩))]; exact hx
        · rw [lineOf_none h (fun z hz e => hex ⟨z, hz, e⟩)] at hx
          simp [modeOf_nil] at hx
  · rw [if_neg hi]
    have hnk : ∀ l ∈ ls, l.key ≠ k := fun l hl e => hi ((lineIs_iff h k).2 ⟨l, hl, e⟩)
    have hmem : ∀ z, z ∈ upsert Line.key ltB (⟨k, [⟨o, m⟩], []⟩ : Line) ls ↔ z = ⟨k, [⟨o, m⟩], []⟩ ∨ z ∈ ls := fun z => by
      rw [mem_upsert lt_B h.rises]
      exact ⟨fun g => g.imp_right And.left, fun g => g.imp_right fun hz => ⟨hz, hnk z hz⟩⟩
    have hnew : LineP (⟨k, [⟨o, m⟩], []⟩ : Line) := ⟨hk, ⟨fun x hx => by rw [List.mem_singleton.1 hx]; exact ⟨ho, hm⟩, fun _ _ _ => by simp, List.pairwise_singleton ..⟩, ⟨fun x hx => (by cases hx), fun x hx => (by cases hx), List.Pairwise.nil, List.Pairwise.nil⟩⟩
    have hP : LinesP (upsert Line.key ltB (⟨k, [⟨o, m⟩], []⟩ : Line) ls) := ⟨fun z hz => by
      rcases (hmem z).1 hz with rfl | hz
      · exact ⟨hnew, by simp, rfl⟩
      · exact h.each z hz, upsert_rises lt_B h.rises _⟩
    refine ⟨hP, fun x => ?_, fun x k' hx => ?_⟩
    · unfold inLines
      constructor
      · rintro ⟨z, hz, g⟩
        rcases (hmem z).1 hz with rfl | hz
        · rcases g with ⟨y, hy, e⟩ | ⟨y, hy, e⟩
          · rw [List.mem_singleton.1 hy] at e; exact .inl e.symm
          · cases hy
        · exact .inr ⟨z, hz, g⟩
      · rintro (rfl | ⟨z, hz, g⟩)
        · exact ⟨_, (hmem _).2 (.inl rfl), .inl ⟨_, List.mem_singleton.2 rfl, rfl⟩⟩
        · exact ⟨z, (hmem z).2 (.inr hz), g⟩
    · unfold holdsL at hx ⊢
      by_cases hex : ∃ z ∈ ls, z.key = k'
      · obtain ⟨z, hz, rfl⟩ := hex
        rw [lineOf_mem h hz] at hx
        rw [lineOf_mem hP ((hmem z).2 (.inr hz))]; exact hx
      · rw [lineOf_none h (fun z hz e => hex ⟨z, hz, e⟩)] at hx
        simp [modeOf_nil] at hx

theorem leaveL_ok {ls : List Line} (h : LinesP ls) (o : Int) :
    LinesP (leaveL ls o) ∧ (∀ x, inLines (leaveL ls o) x ↔ x ≠ o ∧ inLines ls x) ∧ (∀ x k', x ≠ o → holdsL ls x k' = 2 → holdsL (leaveL ls o) x k' = 2) := by
  have hmem : ∀ z, z ∈ leaveL ls o ↔ ∃ l ∈ ls, leaveLine o l = z ∧ 0 < z.holders.length + z.queue.length := fun z => by
    unfold leaveL
    simp only [List.mem_filter, List.mem_map, Bool.not_eq_true', beq_eq_false_iff_ne]
    constructor
    · rintro ⟨⟨l, hl, e⟩, g⟩; exact ⟨l, hl, e, by omega⟩
    · rintro ⟨l, hl, e, g⟩; exact ⟨⟨l, hl, e⟩, by omega⟩
  have hkey : ∀ l, (leaveLine o l).key = l.key := fun l => by rw [leaveLine_eq, letAll_key]; rfl
  have hP : LinesP (leaveL ls o) := by
    refine ⟨fun z hz => ?_, ?_⟩
    · obtain ⟨l, hl, rfl, g⟩ := (hmem z).1 hz
      obtain ⟨a, b, _⟩ := leaveLine_ok (h.each l hl).1 o
      exact ⟨a, g, b⟩
    · unfold leaveL
      refine List.Pairwise.sublist List.filter_sublist ?_
      refine List.Pairwise.map _ ?_ h.rises
      intro a b g
      rw [hkey, hkey]; exact g
  have hin : ∀ l ∈ ls, ∀ x, inLine (leaveLine o l) x → leaveLine o l ∈ leaveL ls o := fun l hl x g => (hmem _).2 ⟨l, hl, rfl, by
    rcases g with ⟨y, hy, _⟩ | ⟨y, hy, _⟩
    · have := List.length_pos_of_mem hy; omega
    · have := List.length_pos_of_mem hy; omega⟩
  refine ⟨hP, fun x => ?_, fun x k' hxo hx => ?_⟩
  · unfold inLines
    constructor
    · rintro ⟨z, hz, g⟩
      obtain ⟨l, hl, rfl, _⟩ := (hmem z).1 hz
      obtain ⟨a, b⟩ := ((leaveLine_ok (h.each l hl).1 o).2.2 x).1 g
      exact ⟨a, l, hl, b⟩
    · rintro ⟨hn, l, hl, g⟩
      have := ((leaveLine_ok (h.each l hl).1 o).2.2 x).2 ⟨hn, g⟩
      exact ⟨_, hin l hl x this, this⟩
  · unfold holdsL at hx ⊢
    by_cases hex : ∃ z ∈ ls, z.key = k'
    · obtain ⟨z, hz, rfl⟩ := hex
      rw [lineOf_mem h hz] at hx
      have hs := leaveLine_sole (h.each z hz).1 hxo hx
      have hpos : inLine (leaveLine o z) x := by
        obtain ⟨y, hy, e⟩ := (modeOf_pos (leaveLine_ok (h.each z hz).1 o).1.held.modes x).1.1 (by omega)
        exact .inl ⟨y, hy, e⟩
      have := lineOf_mem hP (hin z hz x hpos)
      rw [hkey] at this
      rw [this]; exact hs
    · rw [lineOf_none h (fun z hz e => hex ⟨z, hz, e⟩)] at hx
      simp [modeOf_nil] at hx

/-! ### numbers, once, rising -/
theorem mem_insInt (n x : Int) : ∀ l, x ∈ insInt n l ↔ x = n ∨ x ∈ l
  | [] => by simp [insInt]
  | y :: l => by
    unfold insInt
    split
    · simp
    · split
      · rename_i e; subst e; simp
      · simp only [List.mem_cons, mem_insInt n x l]
        constructor
        · rintro (a | a | a)
          · exact .inr (.inl a)
          · exact .inl a
          · exact .inr (.inr a)
        · rintro (a | a | a)
          · exact .inr (.inl a)
          · exact .inl a
          · exact .inr (.inr a)
theorem insInt_rises (n : Int) : ∀ l, Rises id ltI l → Rises id ltI (insInt n l)
  | [], _ => List.pairwise_singleton ..
  | y :: l, h => by
    obtain ⟨h1, h2⟩ := Rises.cons_iff.1 h
    unfold insInt
    split
    · rename_i g
      refine Rises.cons_iff.2 ⟨fun z hz => ?_, h⟩
      rcases List.mem_cons.1 hz with rfl | hz
      · simpa [ltI] using g
      · exact lt_I.trans (by simpa [ltI] using g) (h1 z hz)
    · split
      · exact h
      · rename_i g1 g2
        refine Rises.cons_iff.2 ⟨fun z hz => ?_, insInt_rises n l h2⟩
        rcases (mem_insInt n z l).1 hz with rfl | hz
        · simp [ltI]; omega
        · exact h1 z hz
theorem mem_setOf (x : Int) : ∀ l, x ∈ setOf l ↔ x ∈ l
  | [] => Iff.rfl
  | y :: l => by
    show x ∈ insInt y (setOf l) ↔ _
    rw [mem_insInt, mem_setOf x l, List.mem_cons]
theorem setOf_rises : ∀ l, Rises id ltI (setOf l)
  | [] => List.Pairwise.nil
  | y :: l => insInt_rises y _ (setOf_rises l)
theorem mem_owners (ls : List Line) (x : Int) : x ∈ ownersL ls ↔ inLines ls x := by
  unfold ownersL
  rw [mem_setOf]
  simp only [List.mem_flatMap, List.mem_append, List.mem_map]
  rfl
theorem owners_rises (ls : List Line) : Rises id ltI (ownersL ls) := setOf_rises _
end Go.Proofs.YtllkjfadeaoicaaGreat

namespace Go.Proofs.YtllkjfadeaoicaaGreat

/-! ### cells -/
structure CellsP (c : Cells) : Prop where
  each : ∀ x ∈ c.l, x.key.length ≤ 16 ∧ x.versions ≠ [] ∧ (∀ v ∈ x.versions, 1 ≤ v.at_ ∧ v.at_ ≤ c.last ∧ v.value.length ≤ 32 ∧ (v.has = false → v.value = [])) ∧ (x.versions.Pairwise fun a b => a.at_ < b.at_)
  rises : Rises Cell.key ltB c.l
  bound : c.last ≤ 1099511627776
  last : (c.l = [] ∧ c.last = 0) ∨ (∃ x ∈ c.l, ∃ v ∈ x.versions, v.at_ = c.last)

theorem getLast_max {l : List Version} (h : l.Pairwise fun a b => a.at_ < b.at_) {v : Version} (hv : v ∈ l) : ∃ u, l.getLast? = some u ∧ v.at_ ≤ u.at_ ∧ u ∈ l := by
  induction l generalizing v with
  | nil => cases hv
  | cons x l ih =>
    obtain ⟨h1, h2⟩ := List.pairwise_cons.1 h
    cases hl : l with
    | nil =>
      rw [hl] at hv
      rw [List.mem_singleton.1 hv]
      exact ⟨x, rfl, Int.le_refl _, List.mem_singleton.2 rfl⟩
    | cons y t =>
      rw [← hl]
      have hy : y ∈ l := by rw [hl]; exact List.mem_cons_self ..
      rcases List.mem_cons.1 hv with rfl | hv
      · obtain ⟨u, a, b, c⟩ := ih h2 hy
        refine ⟨u, ?_, ?_, List.mem_cons_of_mem _ c⟩
        · rw [hl, List.getLast?_cons_cons, ← hl]; exact a
        · have := h1 u c; omega
      · obtain ⟨u, a, b, c⟩ := ih h2 hv
        refine ⟨u, ?_, b, List.mem_cons_of_mem _ c⟩
        rw [hl, List.getLast?_cons_cons, ← hl]; exact a

theorem foldl_last (l : List Cell) : ∀ m : Int, (∀ M, (m ≤ M ∧ ∀ x ∈ l, ((x.versions.getLast?.map (·.at_)).getD 0) ≤ M) → l.foldl (fun m c => max m ((c.versions.getLast?.map (·.at_)).getD 0)) m ≤ M)
    ∧ m ≤ l.foldl (fun m c => max m ((c.versions.getLast?.map (·.at_)).getD 0)) m ∧ ∀ x ∈ l, ((x.versions.getLast?.map (·.at_)).getD 0) ≤ l.foldl (fun m c => max m ((c.versions.getLast?.map (·.at_)).getD 0)) m := by
  induction l with
  | nil => intro m; exact ⟨fun M h => h.1, Int.le_refl _, fun x hx => by cases hx⟩
  | cons y l ih =>
    intro m
    rw [List.foldl_cons]
    obtain ⟨a, b, c⟩ := ih (max m ((y.versions.getLast?.map (·.at_)).getD 0))
    refine ⟨fun M ⟨h1, h2⟩ => a M ⟨by have := h2 y (List.mem_cons_self ..); omega, fun x hx => h2 x (List.mem_cons_of_mem _ hx)⟩, by omega, fun x hx => ?_⟩
    rcases List.mem_cons.1 hx with rfl | hx
    · omega
    · exact c x hx

theorem CellsP.lastOf {c : Cells} (h : CellsP c) : lastOf c.l = c.last := by
  obtain ⟨a, b, d⟩ := foldl_last c.l 0
  unfold Go.Proofs.YtllkjfadeaoicaaGreat.lastOf
  apply Int.le_antisymm
  · apply a
    rcases h.last with ⟨e, g⟩ | ⟨x, hx, v, hv, e⟩
    · rw [e, g]; exact ⟨Int.le_refl _, fun x hx => by cases hx⟩
    · have h0 := ((h.each x hx).2.2.1 v hv).1
      refine ⟨by omega, fun y hy => ?_⟩
      obtain ⟨p1, p2, p3, p4⟩ := h.each y hy
      cases hv' : y.versions with
      | nil => exact absurd hv' p2
      | cons u t =>
        obtain ⟨z, q1, q2, q3⟩ := getLast_max p4 (v := u) (by rw [hv']; exact List.mem_cons_self ..)
        rw [← hv', q1]
        exact (p3 z q3).2.1
  · rcases h.last with ⟨e, g⟩ | ⟨x, hx, v, hv, e⟩
    · rw [g]; exact b
    · obtain ⟨z, q1, q2, q3⟩ := getLast_max (h.each x hx).2.2.2 hv
      have := d x hx
      rw [q1] at this
      simp at this
      omega

theorem versionsOf_mem {l : List Cell} (h : Rises Cell.key ltB l) {x : Cell} (hx : x ∈ l) : versionsOf l x.key = x.versions := by
  unfold versionsOf
  rw [(find_iff lt_B h x.key x (fun c => c.key == x.key) (fun z => by simp)).2 ⟨hx, rfl⟩]
theorem versionsOf_cases (l : List Cell) (k : Bs) : versionsOf l k = [] ∨ ∃ x ∈ l, x.key = k ∧ versionsOf l k = x.versions := by
  unfold versionsOf
  cases hf : l.find? (fun c => c.key == k) with
  | none => exact .inl rfl
  | some x => exact .inr ⟨x, List.mem_of_find?_eq_some hf, by simpa using List.find?_some hf, rfl⟩

theorem putCell_ok {c : Cells} (h : CellsP c) {k v : Bs} {has : Bool} {at_ : Int} (hk : k.length ≤ 16) (hv : v.length ≤ 32) (h1 : 1 ≤ at_) (h2 : at_ ≤ 1099511627776) (h3 : c.last ≤ at_) :
    CellsP (putCell c k v has at_).1 ∧ (putCell c k v has at_).1.last = at_ := by
  have e : (putCell c k v has at_).1 = ⟨upsert Cell.key ltB ⟨k, putVersion (versionsOf c.l k) v has at_⟩ c.l, at_⟩ := by
    unfold putCell
    rw [if_neg (by omega), if_neg (by omega)]
    rfl
  rw [e]
  refine ⟨⟨fun x hx => ?_, upsert_rises lt_B h.rises _, h2, .inr ⟨⟨k, putVersion (versionsOf c.l k) v has at_⟩, (mem_upsert lt_B h.rises _ _).2 (.inl rfl), ⟨at_, if has then v else [], has⟩, by unfold putVersion; simp, rfl⟩⟩, rfl⟩
  rcases (mem_upsert lt_B h.rises _ x).1 hx with rfl | ⟨hx, _⟩
  · simp only
    have hold : (∀ u ∈ versionsOf c.l k, 1 ≤ u.at_ ∧ u.at_ ≤ c.last ∧ u.value.length ≤ 32 ∧ (u.has = false → u.value = [])) ∧ ((versionsOf c.l k).Pairwise fun a b => a.at_ < b.at_) := by
      rcases versionsOf_cases c.l k with g | ⟨y, hy, _, g⟩
      · rw [g]; exact ⟨fun u hu => (by cases hu), List.Pairwise.nil⟩
      · rw [g]; exact (h.each y hy).2.2
    obtain ⟨o1, o2⟩ := hold
    generalize versionsOf c.l k = vs at o1 o2
    have hsub : ∀ u ∈ (if (vs.getLast?.map (·.at_)) = some at_ then vs.dropLast else vs), u ∈ vs := by
      intro u hu
      split at hu
      · exact (List.dropLast_sublist vs).subset hu
      · exact hu
    have hlt : ∀ u ∈ (if (vs.getLast?.map (·.at_)) = some at_ then vs.dropLast else vs), u.at_ < at_ := by
      intro u hu
      split at hu
      · rename_i g
        cases hg : vs.getLast? with
        | none => rw [hg] at g; cases g
        | some z =>
          rw [hg] at g
          have hz : z.at_ = at_ := by simpa using g
          have hd : vs = vs.dropLast ++ [z] := by
            have hne : vs ≠ [] := fun e => by rw [e] at hg; cases hg
            have := (List.dropLast_concat_getLast hne).symm
            rw [List.getLast?_eq_some_getLast hne] at hg
            rw [Option.some.inj hg] at this
            exact this
          rw [hd, List.pairwise_append] at o2
          have := o2.2.2 u hu z (List.mem_singleton.2 rfl)
          omega
      · rename_i g
        obtain ⟨z, q1, q2, q3⟩ := getLast_max o2 hu
        rw [q1] at g
        have hz : z.at_ ≠ at_ := by simpa using g
        have := (o1 z q3).2.1
        omega
    refine ⟨hk, by unfold putVersion; simp, fun u hu => ?_, ?_⟩
    · unfold putVersion at hu
      rcases List.mem_append.1 hu with hu | hu
      · obtain ⟨p1, p2, p3, p4⟩ := o1 u (hsub u hu)
        exact ⟨p1, by omega, p3, p4⟩
      · rw [List.mem_singleton.1 hu]
        refine ⟨h1, Int.le_refl _, ?_, fun g => ?_⟩
        · cases has <;> simp [hv]
        · simp only at g; rw [g]; rfl
    · unfold putVersion
      rw [List.pairwise_append]
      refine ⟨?_, List.pairwise_singleton .., fun a ha b hb => ?_⟩
      · split
        · exact List.Pairwise.sublist (List.dropLast_sublist _) o2
        · exact o2
      · rw [List.mem_singleton.1 hb]; exact hlt a ha
  · obtain ⟨p1, p2, p3, p4⟩ := h.each x hx
    exact ⟨p1, p2, fun u hu => by obtain ⟨q1, q2, q3, q4⟩ := p3 u hu; exact ⟨q1, Int.le_trans q2 h3, q3, q4⟩, p4⟩

theorem CellsP.ok {c : Cells} (h : CellsP c) : cellsOk c.l = true := by
  unfold cellsOk
  simp only [Bool.and_eq_true, List.all_eq_true, decide_eq_true_eq]
  refine ⟨fun x hx => ?_, h.rises⟩
  obtain ⟨p1, p2, p3, p4⟩ := h.each x hx
  unfold cellOk versionsOk
  simp only [Bool.and_eq_true, List.all_eq_true, decide_eq_true_eq, Bool.or_eq_true, beq_iff_eq]
  refine ⟨⟨⟨fun v hv => ?_, p4⟩, p1⟩, ?_⟩
  · obtain ⟨q1, q2, q3, q4⟩ := p3 v hv
    have := h.bound
    refine ⟨⟨⟨by omega, by omega⟩, q3⟩, ?_⟩
    cases hh : v.has with
    | true => exact .inl rfl
    | false => exact .inr (q4 hh)
  · cases hv : x.versions with
    | nil => exact absurd hv p2
    | cons v t =>
      simp only [Bool.or_eq_true, decide_eq_true_eq]
      have := (p3 v (by rw [hv]; exact List.mem_cons_self ..)).1
      exact .inr (by omega)

/-! ### the table -/
structure RowsP (l : List Row) : Prop where
  each : ∀ r ∈ l, 0 ≤ r.tx ∧ r.tx ≤ 1048576 ∧ 0 ≤ r.attempt ∧ r.attempt ≤ 1048576 ∧ 0 ≤ r.heard ∧ r.heard ≤ 1099511627776 ∧ 0 ≤ r.stamp ∧ r.stamp ≤ 1099511627776 ∧ 1 ≤ r.state ∧ r.state ≤ 3
  rises : Rises Row.tx ltI l
theorem rowsOk_iff (l : List Row) : rowsOk l = true ↔ RowsP l := by
  unfold rowsOk rowOk txOk
  simp only [Bool.and_eq_true, List.all_eq_true, decide_eq_true_eq]
  constructor
  · rintro ⟨a, b⟩
    refine ⟨fun r hr => ?_, b.imp fun {x y} g => by simpa [ltI] using g⟩
    obtain ⟨⟨⟨⟨⟨⟨⟨⟨⟨h1, h2⟩, h3⟩, h4⟩, h5⟩, h6⟩, h7⟩, h8⟩, h9⟩, h10⟩ := a r hr
    exact ⟨h1, h2, h3, h4, h5, h6, h7, h8, h9, h10⟩
  · rintro ⟨a, b⟩
    refine ⟨fun r hr => ?_, b.imp fun {x y} g => by simpa [ltI] using g⟩
    obtain ⟨h1, h2, h3, h4, h5, h6, h7, h8, h9, h10⟩ := a r hr
    exact ⟨⟨⟨⟨⟨⟨⟨⟨⟨h1, h2⟩, h3⟩, h4⟩, h5⟩, h6⟩, h7⟩, h8⟩, h9⟩, h10⟩
theorem rowAt_eq (l : List Row) (tx : Int) : rowAt l tx = before Row.tx ltI tx l := rfl
theorem rowOf_mem {l : List Row} {tx : Int} (h : rowIs l tx = true) : rowOf l tx ∈ l ∧ (rowOf l tx).tx = tx := by
  unfold rowIs at h
  unfold rowOf
  rw [List.getD_eq_getElem?_getD]
  cases hg : l[rowAt l tx]? with
  | none => rw [hg] at h; simp at h
  | some r => rw [hg] at h; simp at h; exact ⟨by simpa using List.mem_of_getElem? hg, by simpa using h⟩
/-- another row in the place of the one of its transaction -/
theorem set_row {l : List Row} {r : Row} (hi : rowIs l r.tx = true) : l.set (rowAt l r.tx) r = upsert Row.tx ltI r l := by
  unfold upsert
  rw [if_pos]
  · rfl
  · unfold rowIs at hi; simpa [rowAt_eq] using hi
theorem ins_row {l : List Row} {r : Row} (hi : ¬ rowIs l r.tx = true) : l.take (rowAt l r.tx) ++ r :: l.drop (rowAt l r.tx) = upsert Row.tx ltI r l := by
  unfold upsert
  rw [if_neg]
  · rfl
  · unfold rowIs at hi; simpa [rowAt_eq] using hi
def RowGood (r : Row) : Prop := 0 ≤ r.tx ∧ r.tx ≤ 1048576 ∧ 0 ≤ r.attempt ∧ r.attempt ≤ 1048576 ∧ 0 ≤ r.heard ∧ r.heard ≤ 1099511627776 ∧ 0 ≤ r.stamp ∧ r.stamp ≤ 1099511627776 ∧ 1 ≤ r.state ∧ r.state ≤ 3
theorem RowsP.upsert {l : List Row} (h : RowsP l) {r : Row} (hr : RowGood r) : RowsP (upsert Row.tx ltI r l) :=
  ⟨fun x hx => by
    rcases (mem_upsert lt_I h.rises r x).1 hx with rfl | ⟨hx, _⟩
    · exact hr
    · exact h.each x hx, upsert_rises lt_I h.rises r⟩
theorem putRow_ok {l : List Row} (h : RowsP l) {r : Row} (hr : RowGood r) : RowsP (putRow l r).1 := by
  unfold putRow
  split
  · rename_i hi
    have ho := h.each _ (rowOf_mem hi).1
    simp only
    split
    · exact h
    · simp only
      have : RowGood ⟨r.tx, r.attempt, if (rowOf l r.tx).stamp > 0 then (rowOf l r.tx).stamp else r.stamp, r.state, r.heard⟩ := by
        obtain ⟨h1, h2, h3, h4, h5, h6, h7, h8, h9, h10⟩ := hr
        obtain ⟨_, _, _, _, _, _, o7, o8, _, _⟩ := ho
        refine ⟨h1, h2, h3, h4, h5, h6, ?_, ?_, h9, h10⟩ <;> (simp only; split <;> omega)
      have e := set_row (l := l) (r := ⟨r.tx, r.attempt, if (rowOf l r.tx).stamp > 0 then (rowOf l r.tx).stamp else r.stamp, r.state, r.heard⟩) hi
      rw [show l.set (rowAt l r.tx) _ = _ from e]
      exact h.upsert this
  · rename_i hi
    simp only
    rw [ins_row hi]
    exact h.upsert hr
theorem howRow_is {l : List Row} {tx at_ : Int} (h : ¬ howRow l tx at_ > 0) : rowIs l tx = true := by
  unfold howRow at h
  split at h
  · assumption
  · exact absurd (by decide : (1 : Int) > 0) h
theorem setState_ok {l : List Row} (h : RowsP l) {tx s : Int} (hi : rowIs l tx = true) (h1 : 1 ≤ s) (h2 : s ≤ 3) : RowsP (setState l tx s) := by
  obtain ⟨a, b⟩ := rowOf_mem hi
  obtain ⟨o1, o2, o3, o4, o5, o6, o7, o8, o9, o10⟩ := h.each _ a
  unfold setState
  have e := set_row (l := l) (r := (rowOf l tx).inState s) (by show rowIs l (rowOf l tx).tx = true; rw [b]; exact hi)
  rw [show ((rowOf l tx).inState s).tx = tx from b] at e
  rw [e]
  exact h.upsert ⟨o1, o2, o3, o4, o5, o6, o7, o8, h1, h2⟩
theorem txOk_iff (tx at_ now : Int) : txOk tx at_ now = true ↔ 0 ≤ tx ∧ tx ≤ 1048576 ∧ 0 ≤ at_ ∧ at_ ≤ 1048576 ∧ 0 ≤ now ∧ now ≤ 1099511627776 := by
  unfold txOk
  simp only [Bool.and_eq_true, decide_eq_true_eq]
  constructor
  · rintro ⟨⟨⟨⟨⟨a, b⟩, c⟩, d⟩, e⟩, f⟩; exact ⟨a, b, c, d, e, f⟩
  · rintro ⟨a, b, c, d, e, f⟩; exact ⟨⟨⟨⟨⟨a, b⟩, c⟩, d⟩, e⟩, f⟩
theorem openR_ok {l : List Row} (h : RowsP l) (tx at_ st now : Int) : RowsP (openR l tx at_ st now).1 := by
  unfold openR
  split
  · exact h
  · rename_i g
    have g1 : txOk tx at_ now = true := by cases ht : txOk tx at_ now with | true => rfl | false => exact absurd (.inl ht) g
    rw [txOk_iff] at g1
    split
    · exact putRow_ok h ⟨g1.1, g1.2.1, g1.2.2.1, g1.2.2.2.1, g1.2.2.2.2.1, g1.2.2.2.2.2, by simp only; omega, by simp only; omega, by simp, by simp⟩
    · split
      · exact h
      · exact h
theorem decideR_ok {l : List Row} (h : RowsP l) (tx at_ : Int) : RowsP (decideR l tx at_).1 := by
  unfold decideR
  split
  · exact h
  · split
    · exact h
    · rename_i g1
      split
      · exact h
      · split
        · exact setState_ok h (howRow_is g1) (by omega) (by omega)
        · split
          · exact h
          · exact h
theorem killR_ok {l : List Row} (h : RowsP l) (tx at_ now : Int) : RowsP (killR l tx at_ now).1 := by
  unfold killR
  split
  · exact h
  · rename_i g
    have g1 : txOk tx at_ now = true := by cases ht : txOk tx at_ now with | true => rfl | false => exact absurd ht g
    rw [txOk_iff] at g1
    split
    · exact putRow_ok h ⟨g1.1, g1.2.1, g1.2.2.1, g1.2.2.2.1, g1.2.2.2.2.1, g1.2.2.2.2.2, by simp, by simp, by simp, by simp⟩
    · rename_i g1
      split
      · exact h
      · split
        · exact setState_ok h (howRow_is g1) (by omega) (by omega)
        · split
          · exact h
          · exact h
theorem beatR_ok {l : List Row} (h : RowsP l) (tx at_ now : Int) : RowsP (beatR l tx at_ now).1 := by
  unfold beatR
  split
  · exact h
  · rename_i g
    have g1 : txOk tx at_ now = true := by cases ht : txOk tx at_ now with | true => rfl | false => exact absurd ht g
    rw [txOk_iff] at g1
    split
    · exact h
    · rename_i g2
      have hi := howRow_is g2
      split
      · exact h
      · split
        · obtain ⟨a, b⟩ := rowOf_mem hi
          obtain ⟨o1, o2, o3, o4, o5, o6, o7, o8, o9, o10⟩ := h.each _ a
          have e := set_row (l := l) (r := (rowOf l tx).atHeard (max (rowOf l tx).heard now)) (by show rowIs l (rowOf l tx).tx = true; rw [b]; exact hi)
          rw [show ((rowOf l tx).atHeard (max (rowOf l tx).heard now)).tx = tx from b] at e
          simp only
          rw [e]
          exact h.upsert ⟨o1, o2, o3, o4, by show 0 ≤ max (rowOf l tx).heard now; omega, by show max (rowOf l tx).heard now ≤ 1099511627776; omega, o7, o8, o9, o10⟩
        · exact h
end Go.Proofs.YtllkjfadeaoicaaGreat
