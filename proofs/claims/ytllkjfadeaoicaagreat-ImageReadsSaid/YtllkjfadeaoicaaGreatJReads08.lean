/- Lemmas and walks: The walks of package crc, and of sync.Once over its table. The walks of package crc: the sum. The walks of kissinggateref02: the sum by definition. -/
import Derived.Test.YtllkjfadeaoicaaGreatJReads05
import Derived.Test.YtllkjfadeaoicaaGreatJReads02
import Derived.Defers
import Derived.Laws.Pointers
import Derived.Laws.LoneSync
import Derived.RegionTactic
import Derived.RegionCalls
import Derived.ChangeAlike
import Derived.Laws.NewBlocks
set_option linter.unusedVariables false
set_option linter.unusedSimpArgs false
namespace Go.Proofs.YtllkjfadeaoicaaGreat
open Go.RowKit

theorem disable (w : World) : (callFunc 315 #[]).run Tryz.prog w = .ok (.value (.tuple #[])) w := run_call_mark0 Tryz.func315 (by kernel_rfl) (by kernel_rfl) (by kernel_rfl) .disable (by kernel_rfl) w
theorem enable (w : World) : (callFunc 317 #[]).run Tryz.prog w = .ok (.value (.tuple #[])) w := run_call_mark0 Tryz.func317 (by kernel_rfl) (by kernel_rfl) (by kernel_rfl) .enable (by kernel_rfl) w
theorem acquire (a : Addr) (w : World) : (callFunc 318 #[.pointer (some a)]).run Tryz.prog w = .ok (.value (.tuple #[])) w := run_call_marked Tryz.func318 (by kernel_rfl) (by kernel_rfl) (by kernel_rfl) .acquire (by kernel_rfl) a w
theorem releaseMerge (a : Addr) (w : World) : (callFunc 320 #[.pointer (some a)]).run Tryz.prog w = .ok (.value (.tuple #[])) w := run_call_marked Tryz.func320 (by kernel_rfl) (by kernel_rfl) (by kernel_rfl) .releaseMerge (by kernel_rfl) a w

/-- '(*sync/atomic.Bool).Store(true)', as a deferred call: the cell holds 1. -/
theorem store_deferred (a : Addr) (x : Value) (u : FrameMode) (w : World) (hc : w.cell? a = some x) (hz : w.frozen? a = false) :
    CallsD Tryz.prog 293 #[.pointer (some a), .bool true] u w fun e u' w' => u' = u ∧ (e = .returned (.tuple #[]) ∧ w' = w.drew.setCell a (.int .u32 1)) := by
  have hc' : w.drew.cell? a = some x := by go_simp
  have hz' : w.drew.frozen? a = false := by go_simp
  have hst := run_call_store (P := Tryz.prog) Tryz.func303 (by kernel_rfl) (by kernel_rfl) (by kernel_rfl) (by kernel_rfl) (k := .u32) (y := 1) hc' hz'
  go_enter_d Tryz.func293, Tryz.ntmps293
  go_wp2
  go_region_calls
  all_goals (go_end0; exact ⟨rfl, rfl⟩)

set_option maxRecDepth 100000 in
/-- '(*sync.Mutex).Unlock', as a deferred call, the lock held and nobody waiting. -/
theorem unlock_deferred (a : Addr) (u : FrameMode) (w : World) (hc : w.cell? a = some (.int .i32 1)) (hz : w.frozen? a = false) :
    CallsD Tryz.prog 292 #[.pointer (some a)] u w fun e u' w' => u' = u ∧ (e = .returned (.tuple #[]) ∧ w' = w.setCell a (.int .i32 0)) := by
  have hd := disable
  have he := enable
  have hr := releaseMerge
  have hadd := run_call_add (P := Tryz.prog) Tryz.func321 (by kernel_rfl) (by kernel_rfl) (by kernel_rfl) .i32 (by kernel_rfl) (y := -1) (s := 0) hc hz (by simp [go_sem]; rfl)
  have hcv := run_convert_to_unsafe (P := Tryz.prog) (src := 403) (dst := 407) Tryz.underlying403 Tryz.underlying407 (by kernel_rfl) hc
  go_enter_d Tryz.func292, Tryz.ntmps292
  go_wp2
  go_end0
  go_wp2
  go_end0
  exact ⟨rfl, rfl⟩

set_option maxRecDepth 100000 in
/-- '(*sync.Mutex).Lock', the lock free. -/
theorem lock_free (a : Addr) (w : World) (hc : w.cell? a = some (.int .i32 0)) (hz : w.frozen? a = false) :
    Calls Tryz.prog 291 #[.pointer (some a)] w fun e w' => e = .returned (.tuple #[]) ∧ w' = w.setCell a (.int .i32 1) := by
  have hd := disable
  have he := enable
  have ha := acquire
  have hcas := run_call_cas_hit (P := Tryz.prog) Tryz.func316 (by kernel_rfl) (by kernel_rfl) (by kernel_rfl) .i32 (by kernel_rfl) (y := 1) hc hz
  have hc' : (w.setCell a (.int .i32 1)).cell? a = some (.int .i32 1) := World.cell?_setCell_same w a _ hc
  have hcv := run_convert_to_unsafe (P := Tryz.prog) (src := 403) (dst := 407) Tryz.underlying403 Tryz.underlying407 (by kernel_rfl) hc'
  go_enter Tryz.func291, Tryz.ntmps291
  go_wp2
  first | go_end0 | (simp only [Exit.inBlock, Exit.then]; refine bodyPost_ret (results_none rfl _ _ _) rfl ?_) | refine bodyPost_ret (results_none rfl _ _ _) rfl ?_
  go_wp2
  go_end0
  exact ⟨rfl, rfl⟩

/-- the table's block -/
def TabHas (w : World) (b n : Nat) (a0 a1 : Int) : Prop :=
  ∃ cs : Array Value, w.heap[b]? = some (.cells cs 278 (0, 0)) ∧ cs.size = 260 ∧ cs[0]? = some (.int .u32 a0) ∧ cs[1]? = some (.int .i32 a1) ∧ (∃ m, cs[3]? = some (.int .i64 m)) ∧ ∀ i, i < n → cs[4 + i]? = some (.int .u32 ((crcN 8 i : Nat) : Int))

theorem and_one_u32 (x : Nat) (hx : x < 4294967296) : bits .and .u32 (x : Int) 1 = ((x % 2 : Nat) : Int) := by
  have := u32_and_nat x 1 hx (by omega)
  rw [Nat.and_one_is_mod] at this
  exact this
theorem xor_half (x : Nat) (hx : x < 4294967296) : bits .xor .u32 ((x : Int) / 2) 2197175160 = ((x / 2 ^^^ 2197175160 : Nat) : Int) := by
  have := u32_xor_nat (x / 2) 2197175160 (by omega) (by omega)
  rw [← this]
  congr 1
theorem crc_odd {n x k : Nat} (hn : n < 8) (hx : x < 4294967296) (h : crcN (8 - n) x = crcN 8 k) (ho : (bits BinOp.and IntKind.u32 (x : Int) 1 == 1) = true) :
    ∃ n_1 x_1 : Nat, n_1 ≤ 8 ∧ Value.int .i64 ((n : Int) + 1) = .int .i64 (n_1 : Int) ∧ Value.int .u32 (bits BinOp.xor IntKind.u32 ((x : Int) / 2) 2197175160) = .int .u32 (x_1 : Int) ∧ x_1 < 4294967296 ∧ crcN (8 - n_1) x_1 = crcN 8 k := by
  rw [and_one_u32 x hx] at ho
  have ho : x % 2 = 1 := by simp at ho; omega
  rw [show 8 - n = (8 - (n + 1)) + 1 from by omega] at h
  have e : crcStep x = x / 2 ^^^ 2197175160 := by unfold crcStep; rw [if_pos ho]
  refine ⟨n + 1, x / 2 ^^^ 2197175160, by omega, rfl, by rw [xor_half x hx], by rw [← e]; exact crcStep_lt hx, ?_⟩
  rw [← e]; exact h
theorem crc_even {n x k : Nat} (hn : n < 8) (hx : x < 4294967296) (h : crcN (8 - n) x = crcN 8 k) (ho : (bits BinOp.and IntKind.u32 (x : Int) 1 == 1) = false) :
    ∃ n_1 x_1 : Nat, n_1 ≤ 8 ∧ Value.int .i64 ((n : Int) + 1) = .int .i64 (n_1 : Int) ∧ Value.int .u32 ((x : Int) / 2) = .int .u32 (x_1 : Int) ∧ x_1 < 4294967296 ∧ crcN (8 - n_1) x_1 = crcN 8 k := by
  rw [and_one_u32 x hx] at ho
  have ho : ¬ x % 2 = 1 := by
    intro g; rw [g] at ho; simp at ho
  rw [show 8 - n = (8 - (n + 1)) + 1 from by omega] at h
  have e : crcStep x = x / 2 := by unfold crcStep; rw [if_neg ho]
  refine ⟨n + 1, x / 2, by omega, rfl, rfl, by omega, ?_⟩
  rw [← e]; exact h
set_option maxHeartbeats 1600000 in
set_option maxRecDepth 100000 in
theorem crc_fill (b : Nat) (a0 a1 : Int) (w : World) (h : TabHas w b 0 a0 a1) :
    Calls Tryz.prog 226 #[.pointer (some ⟨b, 0, none⟩)] w fun e w' => e = .returned (.tuple #[]) ∧ TabHas w' b 256 a0 a1 ∧ w.grownBy w' (some b) := by
  obtain ⟨cs, hb, hs, h0, h1, ⟨m, h3⟩, _⟩ := h
  have c3 : w.cell? ⟨b, 3, none⟩ = some (.int .i64 m) := by rw [cell_of hb]; exact h3
  have f3 : w.frozen? ⟨b, 3, none⟩ = false := frozen_of hb 3
  have HB := Lib.hid hb; have H0 := Lib.hid h0; have H1 := Lib.hid h1; have HS := Lib.hid hs
  clear hb h0 h1 h3 hs
  go_enter Tryz.func226, Tryz.ntmps226
  go_wp2_with fail
  go_loopw [12] (fun i wr => ∃ k : Nat, k ≤ 256 ∧ i = .int .i64 k ∧ TabHas wr b k a0 a1 ∧ w.grownBy wr (some b)) (fun i _ => (256 - intOf i).toNat)
  case atStart =>
    refine ⟨0, by omega, rfl, ⟨_, heap_set HB.out 3 _, by simpa using HS.out, ?_, ?_, ⟨_, by rw [Array.getElem?_setIfInBounds_self_of_lt (by rw [HS.out]; omega)]⟩, fun i hi => absurd hi (by omega)⟩, grownBy_set ..⟩
    · rw [Array.getElem?_setIfInBounds_ne (by omega)]; exact H0.out
    · rw [Array.getElem?_setIfInBounds_ne (by omega)]; exact H1.out
  case round =>
    obtain ⟨k, hk, rfl, ht, hg⟩ := hrel
    have HG := Lib.hid hg; clear hg
    have HT := Lib.hid ht; clear ht
    by_cases hlt : k < 256
    · go_wp2_with fail
      go_loop [3, 17] (fun r j => ∃ (n x : Nat), n ≤ 8 ∧ j = .int .i64 n ∧ r = .int .u32 x ∧ x < 4294967296 ∧ crcN (8 - n) x = crcN 8 k) (fun _ j => (8 - intOf j).toNat)
      case atStart => exact ⟨0, k, by omega, rfl, rfl, by omega, rfl⟩
      case round =>
        obtain ⟨n, x, hn, rfl, rfl, hx, hX⟩ := hrel
        have HX := Lib.hid hX; clear hX
        by_cases hnl : n < 8
        · go_wp2_with fail
          all_goals go_round
          case rel => exact crc_odd hnl hx HX.out (by assumption)
          case measure => simp [intOf]; omega
          case rel => exact crc_even hnl hx HX.out (by assumption)
          case measure => simp [intOf]; omega
        · obtain rfl : n = 8 := by omega
          obtain ⟨cs', hb', hs', h0', h1', ⟨m', h3'⟩, hr'⟩ := HT.out
          obtain ⟨y, hy⟩ : ∃ y, cs'[4 + k]? = some y := ⟨_, Array.getElem?_eq_getElem (by omega)⟩
          have ck : wr.cell? ⟨b, 4 + k, none⟩ = some y := by rw [cell_of hb']; exact hy
          have fk : wr.frozen? ⟨b, 4 + k, none⟩ = false := frozen_of hb' _
          have hfin : TabHas (wr.setCell ⟨b, 4 + k, none⟩ (.int .u32 (x : Int))) b (k + 1) a0 a1 := by
            refine ⟨_, heap_set hb' _ _, by simpa using hs', ?_, ?_, ⟨m', ?_⟩, fun i hi => ?_⟩
            · rw [Array.getElem?_setIfInBounds_ne (by omega)]; exact h0'
            · rw [Array.getElem?_setIfInBounds_ne (by omega)]; exact h1'
            · rw [Array.getElem?_setIfInBounds_ne (by omega)]; exact h3'
            · by_cases hik : i = k
              · subst hik
                rw [Array.getElem?_setIfInBounds_self_of_lt (by omega)]
                have : x = crcN 8 i := HX.out
                rw [this]
              · rw [Array.getElem?_setIfInBounds_ne (by omega)]; exact hr' i (by omega)
          have HF := Lib.hid hfin
          clear hfin hb' hs' h0' h1' h3' hr' hy
          go_wp2_with fail
          go_roundw
          case rel => exact ⟨k + 1, by omega, by go_num, HF.out, grownBy_trans' HG.out (grownBy_set ..) (.inl rfl)⟩
          case measure => simp [intOf]; omega
    · obtain rfl : k = 256 := by omega
      go_wp2_with fail
      go_end0
      exact ⟨rfl, HT.out, HG.out⟩
end Go.Proofs.YtllkjfadeaoicaaGreat

set_option linter.unusedVariables false
set_option linter.unusedSimpArgs false
namespace Go.Proofs.YtllkjfadeaoicaaGreat
open Go.RowKit

set_option maxRecDepth 100000 in
set_option maxHeartbeats 1600000 in
theorem once_slow (b : Nat) (w : World) (h : TabHas w b 0 0 0) :
    Calls Tryz.prog 265 #[.pointer (some ⟨b, 0, none⟩), .func (.func 226) #[.pointer (some ⟨b, 0, none⟩)] #[]] w fun e w' => e = .returned (.tuple #[]) ∧ TabHas w' b 256 1 0 ∧ w.grownBy w' (some b) := by
  obtain ⟨cs, hb, hs, h0, h1, ⟨m, h3⟩, _⟩ := h
  have c1 : w.cell? ⟨b, 1, none⟩ = some (.int .i32 0) := by rw [cell_of hb]; exact h1
  have f1 : w.frozen? ⟨b, 1, none⟩ = false := frozen_of hb 1
  have hlocked : TabHas (w.setCell ⟨b, 1, none⟩ (.int .i32 1)) b 0 0 1 := by
    refine ⟨_, heap_set hb _ _, by simpa using hs, ?_, ?_, ⟨m, ?_⟩, fun i hi => absurd hi (by omega)⟩
    · rw [Array.getElem?_setIfInBounds_ne (by omega)]; exact h0
    · rw [Array.getElem?_setIfInBounds_self_of_lt (by omega)]
    · rw [Array.getElem?_setIfInBounds_ne (by omega)]; exact h3
  have HL := Lib.hid hlocked
  have c0 : (w.setCell ⟨b, 1, none⟩ (.int .i32 1)).cell? ⟨b, 0, none⟩ = some (.int .u32 0) := by rw [cell_of (heap_set hb 1 _), Array.getElem?_setIfInBounds_ne (by omega)]; exact h0
  have hl := run_call_load (P := Tryz.prog) Tryz.func290 (by kernel_rfl) (by kernel_rfl) (by kernel_rfl) .u32 (by kernel_rfl) (w := w.setCell ⟨b, 1, none⟩ (.int .i32 1)) (a := ⟨b, 0, none⟩) (x := 0) c0
  have hnot : ∀ (x : Bool) (w : World), (Op.unary .not (.bool x)).run Tryz.prog w = .ok (.bool (!x)) w := fun _ _ => rfl
  clear hlocked hb hs h0 h1 h3
  go_enter_defers Tryz.func265, Tryz.ntmps265
  go_wp2_with (first
    | (go_at_call 291; refine (lock_free ⟨b, 1, none⟩ _ c1 f1).mono ?_; rintro e w' ⟨rfl, rfl⟩)
    | (go_at_call 264; go_in)
    | (go_at_call 226; refine (crc_fill b 0 1 _ HL.out).mono ?_; rintro e w2 ⟨rfl, p1, p2⟩; have P1 := Lib.hid p1; have P2 := Lib.hid p2; clear p1 p2))
  obtain ⟨cs2, hb2, hs2, h02, h12, ⟨m2, h32⟩, hr2⟩ := P1.out
  refine leaves_cons (f := 293) (args := #[.pointer (some ⟨b, 0, none⟩), .bool true]) (by simp) (by simp [go_sem]) ?_
  refine (store_deferred ⟨b, 0, none⟩ (.int .u32 0) .returning _ (by rw [cell_of hb2]; exact h02) (frozen_of hb2 0)).mono ?_
  rintro e u' w'' ⟨rfl, rfl, rfl⟩
  have hb3 : (w2.drew.setCell ⟨b, 0, none⟩ (.int .u32 1)).heap[b]? = some (.cells (cs2.setIfInBounds 0 (.int .u32 1)) 278 (0, 0)) := heap_set (w := w2.drew) hb2 0 _
  refine leaves_cons (f := 292) (args := #[.pointer (some ⟨b, 1, none⟩)]) (by simp [settle]) (by simp [go_sem]) ?_
  refine (unlock_deferred ⟨b, 1, none⟩ _ _ (by rw [cell_of hb3, Array.getElem?_setIfInBounds_ne (by omega)]; exact h12) (frozen_of hb3 1)).mono ?_
  rintro e u' w'' ⟨rfl, rfl, rfl⟩
  have hend : TabHas ((w2.drew.setCell ⟨b, 0, none⟩ (.int .u32 1)).setCell ⟨b, 1, none⟩ (.int .i32 0)) b 256 1 0 := by
    refine ⟨_, heap_set hb3 1 _, by simpa using hs2, ?_, ?_, ⟨m2, ?_⟩, fun i hi => ?_⟩
    · rw [Array.getElem?_setIfInBounds_ne (by omega), Array.getElem?_setIfInBounds_self_of_lt (by omega)]
    · rw [Array.getElem?_setIfInBounds_self_of_lt (by simp; omega)]
    · rw [Array.getElem?_setIfInBounds_ne (by omega), Array.getElem?_setIfInBounds_ne (by omega)]; exact h32
    · rw [Array.getElem?_setIfInBounds_ne (by omega), Array.getElem?_setIfInBounds_ne (by omega)]; exact hr2 i hi
  have hgr : w.grownBy ((w2.drew.setCell ⟨b, 0, none⟩ (.int .u32 1)).setCell ⟨b, 1, none⟩ (.int .i32 0)) (some b) := by
    refine grownBy_trans' (grownBy_trans' (grownBy_set w b 1 (.int .i32 1)) P2.out (.inl rfl)) ?_ (.inl rfl)
    exact grownBy_from_drewN (n := 1) (grownBy_trans' (grownBy_set (w2.drewN 1) b 0 _) (grownBy_set _ b 1 _) (.inl rfl))
  have HE := Lib.hid hend; have HGR := Lib.hid hgr
  clear hend hgr hb2 hb3 hs2 h02 h12 h32 hr2
  simp [Leaves, settle, results, Tryz.results265]
  exact ⟨HE.out, HGR.out⟩

set_option maxHeartbeats 800000 in
set_option maxRecDepth 100000 in
theorem once_first (b : Nat) (w : World) (h : TabHas w b 0 0 0) :
    Calls Tryz.prog 225 #[.pointer (some ⟨b, 0, none⟩), .func (.func 226) #[.pointer (some ⟨b, 0, none⟩)] #[]] w fun e w' => e = .returned (.tuple #[]) ∧ TabHas w' b 256 1 0 ∧ w.grownBy w' (some b) := by
  have HS := Lib.hid (once_slow b w h)
  obtain ⟨cs, hb, hs, h0, h1, ⟨m, h3⟩, _⟩ := h
  have c0 : w.cell? ⟨b, 0, none⟩ = some (.int .u32 0) := by rw [cell_of hb]; exact h0
  have hl := run_call_load (P := Tryz.prog) Tryz.func290 (by kernel_rfl) (by kernel_rfl) (by kernel_rfl) .u32 (by kernel_rfl) (a := ⟨b, 0, none⟩) (x := 0) c0
  have hnot : ∀ (x : Bool) (w : World), (Op.unary .not (.bool x)).run Tryz.prog w = .ok (.bool (!x)) w := fun _ _ => rfl
  clear hb hs h0 h1 h3
  go_enter Tryz.func225, Tryz.ntmps225
  go_wp2_with (first
    | (go_at_call 265; refine HS.out.mono ?_; rintro e w' ⟨rfl, p1, p2⟩; have P1 := Lib.hid p1; have P2 := Lib.hid p2; clear p1 p2)
    | (go_at_call 264; go_in))
  go_end0
  exact ⟨rfl, P1.out, P2.out⟩
theorem zc_size : Tryz.zeroCells278.size = 260 := by kernel_rfl
theorem zc0 : Tryz.zeroCells278[0]? = some (.int .u32 0) := by kernel_rfl
theorem zc1 : Tryz.zeroCells278[1]? = some (.int .i32 0) := by kernel_rfl
theorem zc3 : Tryz.zeroCells278[3]? = some (.int .i64 0) := by kernel_rfl
set_option maxHeartbeats 400000 in
set_option maxRecDepth 100000 in
theorem crc_New (w : World) :
    Calls Tryz.prog 98 #[] w fun e w' => e = .returned (.pointer (some ⟨w.heap.size, 0, none⟩)) ∧ TabHas w' w.heap.size 0 0 0 ∧ w.grownBy w' none := by
  go_enter Tryz.func98, Tryz.ntmps98
  go_wp2_with fail
  go_ret
  exact ⟨rfl, ⟨_, heap_alloc_new w _, zc_size, zc0, zc1, ⟨0, zc3⟩, fun i hi => absurd hi (by omega)⟩, grownBy_alloc' ..⟩

theorem not_u32 (x : Nat) (hx : x < 4294967296) : bits .xor .u32 IntKind.u32.max (x : Int) = ((4294967295 - x : Nat) : Int) := by
  have h := u32_xor_nat 4294967295 x (by omega) hx
  rw [show IntKind.u32.max = ((4294967295 : Nat) : Int) from rfl, h]
  congr 1
  apply Nat.eq_of_testBit_eq
  intro i
  have e := Nat.testBit_two_pow_sub_succ (n := 32) (x := x) hx i
  rw [show 2 ^ 32 - (x + 1) = 4294967295 - x from by omega] at e
  rw [e, Nat.testBit_xor, show 4294967295 = 2 ^ 32 - 1 from rfl, Nat.testBit_two_pow_sub_one]
  by_cases h32 : i < 32
  · simp [h32]
  · have : x.testBit i = false := Nat.testBit_lt_two_pow (Nat.lt_of_lt_of_le hx (Nat.pow_le_pow_right (n := 2) (i := 32) (by omega) (by omega)))
    simp [h32, this]
theorem xor_u8 {r x : Nat} (hx : x < 256) : bits .xor .u8 ((r : Int) % 256) (x : Int) = ((r % 256 ^^^ x : Nat) : Int) := u8_xor_nat (r % 256) x (by omega) hx
theorem xor_step {r z : Nat} (hr : r < 4294967296) (hz : z < 4294967296) : bits .xor .u32 ((r : Int) / 256) (z : Int) = ((r / 256 ^^^ z : Nat) : Int) := u32_xor_nat (r / 256) z (by omega) hz
theorem xor_lt {r x : Nat} (hx : x < 256) : r % 256 ^^^ x < 256 := Nat.xor_lt_two_pow (n := 8) (by omega) (by omega)
theorem reg_snoc (l : Bs) (k : Nat) (h : k < l.length) : crcReg 4294967295 (l.take (k + 1)) = crcTab (crcReg 4294967295 (l.take k)) (l.getD k 0) := by
  unfold crcReg
  rw [List.take_succ_eq_append_getElem h, List.foldl_append]
  simp only [List.foldl_cons, List.foldl_nil]
  rw [← crcTab_eq]
  simp [List.getD_eq_getElem?_getD, List.getElem?_eq_getElem h]

set_option maxHeartbeats 1600000 in
set_option maxRecDepth 100000 in
theorem crc_Add (b : Nat) (A : Option Addr) (n c : Nat) (l : Bs) (w : World) (h : TabHas w b 0 0 0) (hr : ReadsU8 w A n l) (hA : ∀ a, A = some a → a.block ≠ b) (hn : n ≤ 9223372036854775807) :
    Calls Tryz.prog 167 #[.pointer (some ⟨b, 0, none⟩), .int .u32 0, .slice A n c] w fun e w' => e = .returned (.int .u32 (crcOf l : Nat)) ∧ w.grownBy w' (some b) := by
  have HD := Lib.hid (once_first b w h)
  have HR := Lib.hid hr; have HA := Lib.hid hA
  clear h hr hA
  have hmf : ∀ (fn : Fn) (first cap : Array Value) (w : World), (Instr.makeFunc fn first cap).run Tryz.prog w = .ok (.func fn first cap) w := fun _ _ _ _ => rfl
  go_enter Tryz.func167, Tryz.ntmps167
  go_wp2_with (go_at_call 225; refine HD.out.mono ?_; rintro e w1 ⟨rfl, p1, p2⟩; have P1 := Lib.hid p1; have P2 := Lib.hid p2; clear p1 p2)
  have hstart : bits BinOp.xor IntKind.u32 IntKind.u32.max 0 = ((4294967295 : Nat) : Int) := not_u32 0 (by omega)
  rw [hstart]
  clear hstart
  go_loop [7, 22] (fun r i => ∃ k : Nat, k ≤ n ∧ i = .int .i64 k ∧ r = .int .u32 ((crcReg 4294967295 (l.take k) : Nat) : Int)) (fun _ i => n - (intOf i).toNat)
  case atStart => exact ⟨0, Nat.zero_le _, rfl, rfl⟩
  case round =>
    obtain ⟨k, hk, rfl, rfl⟩ := hrel
    have hlt0 := crcReg_lt (l.take k) (r := 4294967295) (by omega)
    by_cases hlt : k < n
    · obtain ⟨b', o', rfl, hc⟩ := HR.out.2 (by omega)
      have hcell : w1.cell? ⟨b', o' + k, none⟩ = some (.int .u8 ((l.getD k 0).toNat : Int)) := P2.out.cell (hc k hlt) (by have := HA.out ⟨b', o', none⟩ rfl; simpa using this)
      clear hc
      have hx := (l.getD k 0).toNat_lt
      have HS := Lib.hid (reg_snoc l k (by rw [HR.out.1]; exact hlt))
      unfold crcTab at HS
      obtain ⟨cs, hb, _, _, _, _, ht⟩ := P1.out
      generalize crcReg 4294967295 (l.take k) = r at *
      generalize (l.getD k 0).toNat = x at *
      have hy := xor_lt (r := r) hx
      have hidx := xor_u8 (r := r) hx
      have hz := crcN_lt 8 (r := r % 256 ^^^ x) (by omega)
      have hstep := xor_step hlt0 hz
      have htab : w1.cell? ⟨b, 4 + (r % 256 ^^^ x), none⟩ = some (.int .u32 ((crcN 8 (r % 256 ^^^ x) : Nat) : Int)) := by rw [cell_of hb]; exact ht _ hy
      clear hb ht
      generalize crcN 8 (r % 256 ^^^ x) = z at *
      generalize r % 256 ^^^ x = y at *
      generalize r / 256 ^^^ z = rr at *
      go_wp2_with fail
      go_round
      case rel => exact ⟨k + 1, by omega, by go_num, by rw [HS.out]⟩
      case measure => simp [intOf]; omega
    · obtain rfl : k = n := by omega
      have hl : l.take k = l := List.take_of_length_le (by rw [HR.out.1]; omega)
      rw [hl] at hlt0 ⊢
      have HN := Lib.hid (not_u32 (crcReg 4294967295 l) hlt0)
      go_wp2_with fail
      go_ret
      refine ⟨?_, P2.out⟩
      show Ending.returned (.int .u32 (bits BinOp.xor IntKind.u32 IntKind.u32.max ((crcReg 4294967295 l : Nat) : Int))) = _
      rw [HN.out]; rfl

theorem crc_Sum (b : Nat) (A : Option Addr) (n c : Nat) (l : Bs) (w : World) (h : TabHas w b 0 0 0) (hr : ReadsU8 w A n l) (hA : ∀ a, A = some a → a.block ≠ b) (hn : n ≤ 9223372036854775807) :
    Calls Tryz.prog 99 #[.pointer (some ⟨b, 0, none⟩), .slice A n c] w fun e w' => e = .returned (.int .u32 (crcOf l : Nat)) ∧ w.grownBy w' (some b) := by
  have HD := Lib.hid (crc_Add b A n c l w h hr hA hn)
  clear h hr hA
  go_enter Tryz.func99, Tryz.ntmps99
  go_wp2_with (go_at_call 167; refine HD.out.mono ?_; rintro e w1 ⟨rfl, p1⟩; have P1 := Lib.hid p1; clear p1)
  go_ret
  exact ⟨rfl, P1.out⟩
/-- crc.Of: nothing that was there is written. -/
theorem crc_Of (A : Option Addr) (n c : Nat) (l : Bs) (w : World) (hr : ReadsU8 w A n l) (hA : ∀ a, A = some a → a.block < w.heap.size) (hn : n ≤ 9223372036854775807) :
    Calls Tryz.prog 36 #[.slice A n c] w fun e w' => e = .returned (.int .u32 (crcOf l : Nat)) ∧ w.grownBy w' none := by
  have HR := Lib.hid hr; have HA := Lib.hid hA
  clear hr hA
  go_enter Tryz.func36, Tryz.ntmps36
  go_wp2_with (first
    | (go_at_call 98; refine (crc_New _).mono ?_; rintro e w1 ⟨rfl, p1, p2⟩; have P1 := Lib.hid p1; have P2 := Lib.hid p2; clear p1 p2)
    | (go_at_call 99; refine (crc_Sum _ A n c l _ P1.out (HR.out.keep P2.out (by simp)) (fun a g => Nat.ne_of_lt (HA.out a g)) hn).mono ?_; rintro e w2 ⟨rfl, p3⟩; have P3 := Lib.hid p3; clear p3))
  go_ret
  refine ⟨rfl, grownBy_fresh P2.out P3.out (Nat.le_refl _)⟩
end Go.Proofs.YtllkjfadeaoicaaGreat

set_option linter.unusedVariables false
set_option linter.unusedSimpArgs false
namespace Go.Proofs.YtllkjfadeaoicaaGreat
open Go.RowKit

set_option maxHeartbeats 400000 in
set_option maxRecDepth 100000 in
theorem ref_Bytes (s : Nat) (w : World) (hs : s < 4294967296) :
    Calls Tryz.prog 11 #[.int .u32 s] w fun e w' => e = .returned (.slice (some ⟨w.heap.size, 0, none⟩) 4 4) ∧ w'.ownsRow 0 5 1 (.slice (some ⟨w.heap.size, 0, none⟩) 4 4) 4 (u8s (crcBytes s)) ∧ w.grownBy w' none := by
  have e : (#[.int .u8 ((s : Int) % 256), .int .u8 ((s : Int) / 256 % 256), .int .u8 ((s : Int) / 65536 % 256), .int .u8 ((s : Int) / 16777216)] : Array Value) = (u8s (crcBytes s)).toArray := by
    simp [u8s, crcBytes]; omega
  have E := Lib.hid e; clear e
  go_enter Tryz.func11, Tryz.ntmps11
  go_wp2_with fail
  rw [E.out]
  go_ret
  exact ⟨rfl, ⟨by simp [u8s, crcBytes], .inr ⟨_, 4, _, rfl, Nat.zero_le _, heap_alloc_new w _, by omega, by simp [maxLen], by simp [u8s, crcBytes], by simp [u8s, crcBytes]⟩⟩, grownBy_alloc' ..⟩

theorem xor_u32 {r x : Nat} (hr : r < 4294967296) (hx : x < 256) : bits .xor .u32 (r : Int) (x : Int) = ((r ^^^ x : Nat) : Int) := u32_xor_nat r x hr (by omega)
theorem ref_snoc (l : Bs) (k : Nat) (h : k < l.length) : crcReg 4294967295 (l.take (k + 1)) = crcN 8 (crcReg 4294967295 (l.take k) ^^^ (l.getD k 0).toNat) := by
  rw [reg_snoc l k h, crcTab_eq]

set_option maxHeartbeats 800000 in
set_option maxRecDepth 100000 in
theorem ref_Of (A : Option Addr) (n c : Nat) (l : Bs) (w : World) (hr : ReadsU8 w A n l) (hn : n ≤ 9223372036854775807) :
    Calls Tryz.prog 12 #[.slice A n c] w fun e w' => e = .returned (.int .u32 (crcOf l : Nat)) ∧ w = w' := by
  have HR := Lib.hid hr
  clear hr
  go_enter Tryz.func12, Tryz.ntmps12
  go_wp2_with fail
  go_loop [3, 10] (fun r i => ∃ k : Nat, k ≤ n ∧ i = .int .i64 k ∧ r = .int .u32 ((crcReg 4294967295 (l.take k) : Nat) : Int)) (fun _ i => n - (intOf i).toNat)
  case atStart => exact ⟨0, Nat.zero_le _, rfl, rfl⟩
  case round =>
    obtain ⟨k, hk, rfl, rfl⟩ := hrel
    have hlt0 := crcReg_lt (l.take k) (r := 4294967295) (by omega)
    by_cases hlt : k < n
    · obtain ⟨b', o', rfl, hc⟩ := HR.out.2 (by omega)
      have hcell : w.cell? ⟨b', o' + k, none⟩ = some (.int .u8 ((l.getD k 0).toNat : Int)) := hc k hlt
      clear hc
      have hx := (l.getD k 0).toNat_lt
      have HS := Lib.hid (ref_snoc l k (by rw [HR.out.1]; exact hlt))
      generalize crcReg 4294967295 (l.take k) = r at *
      generalize (l.getD k 0).toNat = x at *
      have hxx := xor_u32 hlt0 hx
      have hrx : r ^^^ x < 4294967296 := Nat.xor_lt_two_pow (n := 32) (by omega) (by omega)
      generalize r ^^^ x = y0 at *
      go_wp2_with fail
      go_loop [3, 6] (fun r j => ∃ (n x : Nat), n ≤ 8 ∧ j = .int .i64 n ∧ r = .int .u32 x ∧ x < 4294967296 ∧ crcN (8 - n) x = crcN 8 y0) (fun _ j => (8 - intOf j).toNat)
      case atStart => exact ⟨0, y0, by omega, rfl, rfl, by omega, rfl⟩
      case round =>
        obtain ⟨m, z, hm, rfl, rfl, hz, hX⟩ := hrel
        have HX := Lib.hid hX; clear hX
        by_cases hml : m < 8
        · by_cases ho : z % 2 = 1
          · have hoi : (z : Int) % 2 = 1 := by omega
            have HE := Lib.hid (crc_odd hml hz HX.out (by rw [and_one_u32 z hz, ho]; rfl))
            go_wp2_with fail
            go_round
            case rel => exact HE.out
            case measure => simp [intOf]; omega
          · have hoi : (z : Int) % 2 = 0 := by omega
            have HE := Lib.hid (crc_even hml hz HX.out (by rw [and_one_u32 z hz, show z % 2 = 0 from by omega]; rfl))
            go_wp2_with fail
            go_round
            case rel => exact HE.out
            case measure => simp [intOf]; omega
        · obtain rfl : m = 8 := by omega
          go_wp2_with fail
          go_round
          case rel => exact ⟨k + 1, by omega, by go_num, by rw [HS.out]; have := HX.out; rw [show z = crcN 8 y0 from this]⟩
          case measure => simp [intOf]; omega
    · obtain rfl : k = n := by omega
      have hl : l.take k = l := List.take_of_length_le (by rw [HR.out.1]; omega)
      rw [hl] at hlt0 ⊢
      go_wp2_with fail
      go_ret
      have e : ((4294967295 - crcReg 4294967295 l : Nat) : Int) = 4294967295 - (crcReg 4294967295 l : Int) := by omega
      refine ⟨?_, rfl⟩
      unfold crcOf
      rw [e]; rfl
end Go.Proofs.YtllkjfadeaoicaaGreat
