/-
  No cell of these rows narrows 'for every input' (looked for: loops, veiled, ifaces, maps, wideKeys, modest, calm, conditions, laid).
  DERIVED. THE GIVEN ROWS OF THIS SEAT. 7 by the template 'for every input the law returns true; each argument reads behind the call as it read before'; 0 by the template 'total and deterministic' (their statements: YtllkjfadeaoicaaGreatTotals.lean).
  GIVEN WITH THE SEED: the statements are not yours to turn. If you find one false, say at which input.
  Laid BY PROGRAM, IN A SANDBOX (cutbox-rows.mjs): the forced cells as the released guide's own fill.sh prints them over the translation 074cdafac65c8898… (all of the seat's roots in one cut). By AI agents, Wed Nov 11 2026. No macro, syntax, notation, axiom, sorry.
-/
import Derived.Test.YtllkjfadeaoicaaGreatChecked
import GoSem.Claim
import GoSem.ClaimJoined
import GoSem.ClaimMapViews
import Derived.JoinedTies
import Derived.KernelRfl
namespace Go.Proofs.YtllkjfadeaoicaaGreat
/- THE CELL 'sum', in the pinned program and in every row, IS THE sha256 OF THE DUMP (.gsa) THAT YtllkjfadeaoicaaGreatProg.lean LOADS. Nothing in Lean hashes anything: it is a label: what it is worth is what the hold of that sum in a sandbox is worth. -/
noncomputable def Tryz.pinned : Pinned := { name := "ytllkjfadeaoicaagreat", sum := "074cdafac65c8898a91fbb3ce9bfec13e4a98a46a07957139fad80a0a2c16ecb", checked := Tryz.checked }
namespace Rows
def none {H : Type} : Left H := { results := [], args := [] }

/-- 'kissinggatelaw19.ImageReads': WHATEVER THE INPUT: true; the input reads as it did. -/
def imageReadsSpec : ChangeSpec := { name := "imageReads", fn := fun _ => fun
  | [d1, d2] => { results := [.lit (.bool true)], args := [d1, d2] }
  | _ => none }
def imageReadsRow : OpenClaim := { program := "ytllkjfadeaoicaagreat", sum := "074cdafac65c8898a91fbb3ce9bfec13e4a98a46a07957139fad80a0a2c16ecb", func := "kissinggate/kissinggatelaw19.ImageReads", spec := "imageReads", inPlace := ["sync/atomic.LoadUint32", "(*internal/sync.Mutex).Lock", "internal/race.Disable", "sync/atomic.CompareAndSwapInt32", "internal/race.Enable", "internal/race.Acquire", "(*internal/sync.Mutex).lockSlow", "internal/sync.runtime_canSpin", "internal/sync.runtime_doSpin", "internal/sync.throw", "internal/sync.runtime_nanotime", "internal/sync.runtime_SemacquireMutex", "sync/atomic.AddInt32", "(*internal/sync.Mutex).Unlock", "internal/race.ReleaseMerge", "(*internal/sync.Mutex).unlockSlow", "internal/sync.fatal", "internal/sync.runtime_Semrelease", "sync/atomic.StoreUint32", "slices.overlaps[kissinggate/api.Hold]", "slices.overlaps[kissinggate/api.Row]", "slices.overlaps[kissinggate/api.Line]", "slices.overlaps[kissinggate/api.Write]"], unfollowed := true, recurses := true, apart := false }
def ImageReadsSaid : Prop := imageReadsRow.holds Tryz.pinned (OpenSpec.ofChange imageReadsSpec)

/-- ITS FALSE NEIGHBOUR: 'it returns false'. Refute it at one input. -/
def imageReadsWrong : ChangeSpec := { name := "imageReads", fn := fun _ => fun
  | [d1, d2] => { results := [.lit (.bool false)], args := [d1, d2] }
  | _ => none }
def ImageReadsWrongFalsely : Prop := imageReadsRow.holds Tryz.pinned (OpenSpec.ofChange imageReadsWrong)

/-- 'kissinggatelaw19.ImageGoes': WHATEVER THE INPUT: true; the input reads as it did. -/
def imageGoesSpec : ChangeSpec := { name := "imageGoes", fn := fun _ => fun
  | [d1, d2] => { results := [.lit (.bool true)], args := [d1, d2] }
  | _ => none }
def imageGoesRow : OpenClaim := { program := "ytllkjfadeaoicaagreat", sum := "074cdafac65c8898a91fbb3ce9bfec13e4a98a46a07957139fad80a0a2c16ecb", func := "kissinggate/kissinggatelaw19.ImageGoes", spec := "imageGoes", inPlace := ["sync/atomic.LoadUint32", "(*internal/sync.Mutex).Lock", "internal/race.Disable", "sync/atomic.CompareAndSwapInt32", "internal/race.Enable", "internal/race.Acquire", "(*internal/sync.Mutex).lockSlow", "internal/sync.runtime_canSpin", "internal/sync.runtime_doSpin", "internal/sync.throw", "internal/sync.runtime_nanotime", "internal/sync.runtime_SemacquireMutex", "sync/atomic.AddInt32", "(*internal/sync.Mutex).Unlock", "internal/race.ReleaseMerge", "(*internal/sync.Mutex).unlockSlow", "internal/sync.fatal", "internal/sync.runtime_Semrelease", "sync/atomic.StoreUint32", "slices.overlaps[kissinggate/api.Hold]", "slices.overlaps[kissinggate/api.Row]", "slices.overlaps[kissinggate/api.Line]", "slices.overlaps[kissinggate/api.Write]"], unfollowed := true, recurses := true, apart := false }
def ImageGoesSaid : Prop := imageGoesRow.holds Tryz.pinned (OpenSpec.ofChange imageGoesSpec)

/-- ITS FALSE NEIGHBOUR: 'it returns false'. Refute it at one input. -/
def imageGoesWrong : ChangeSpec := { name := "imageGoes", fn := fun _ => fun
  | [d1, d2] => { results := [.lit (.bool false)], args := [d1, d2] }
  | _ => none }
def ImageGoesWrongFalsely : Prop := imageGoesRow.holds Tryz.pinned (OpenSpec.ofChange imageGoesWrong)

/-- 'kissinggatelaw19.ImageTurned': WHATEVER THE INPUT: true; the input reads as it did. -/
def imageTurnedSpec : ChangeSpec := { name := "imageTurned", fn := fun _ => fun
  | [d1, d2, d3] => { results := [.lit (.bool true)], args := [d1, d2, d3] }
  | _ => none }
def imageTurnedRow : OpenClaim := { program := "ytllkjfadeaoicaagreat", sum := "074cdafac65c8898a91fbb3ce9bfec13e4a98a46a07957139fad80a0a2c16ecb", func := "kissinggate/kissinggatelaw19.ImageTurned", spec := "imageTurned", inPlace := ["sync/atomic.LoadUint32", "(*internal/sync.Mutex).Lock", "internal/race.Disable", "sync/atomic.CompareAndSwapInt32", "internal/race.Enable", "internal/race.Acquire", "(*internal/sync.Mutex).lockSlow", "internal/sync.runtime_canSpin", "internal/sync.runtime_doSpin", "internal/sync.throw", "internal/sync.runtime_nanotime", "internal/sync.runtime_SemacquireMutex", "sync/atomic.AddInt32", "(*internal/sync.Mutex).Unlock", "internal/race.ReleaseMerge", "(*internal/sync.Mutex).unlockSlow", "internal/sync.fatal", "internal/sync.runtime_Semrelease", "sync/atomic.StoreUint32", "slices.overlaps[kissinggate/api.Hold]", "slices.overlaps[kissinggate/api.Row]", "slices.overlaps[kissinggate/api.Line]", "slices.overlaps[kissinggate/api.Write]"], unfollowed := true, recurses := true, apart := false }
def ImageTurnedSaid : Prop := imageTurnedRow.holds Tryz.pinned (OpenSpec.ofChange imageTurnedSpec)

/-- ITS FALSE NEIGHBOUR: 'it returns false'. Refute it at one input. -/
def imageTurnedWrong : ChangeSpec := { name := "imageTurned", fn := fun _ => fun
  | [d1, d2, d3] => { results := [.lit (.bool false)], args := [d1, d2, d3] }
  | _ => none }
def ImageTurnedWrongFalsely : Prop := imageTurnedRow.holds Tryz.pinned (OpenSpec.ofChange imageTurnedWrong)

/-- 'kissinggatelaw24.ReplicaPlays': WHATEVER THE INPUT: true; the input reads as it did. -/
def replicaPlaysSpec : ChangeSpec := { name := "replicaPlays", fn := fun _ => fun
  | [d] => { results := [.lit (.bool true)], args := [d] }
  | _ => none }
def replicaPlaysRow : OpenClaim := { program := "ytllkjfadeaoicaagreat", sum := "074cdafac65c8898a91fbb3ce9bfec13e4a98a46a07957139fad80a0a2c16ecb", func := "kissinggate/kissinggatelaw24.ReplicaPlays", spec := "replicaPlays", inPlace := ["slices.overlaps[kissinggate/api.Hold]", "slices.overlaps[kissinggate/api.Row]", "slices.overlaps[kissinggate/api.Line]", "slices.overlaps[kissinggate/api.Write]", "sync/atomic.LoadUint32", "(*internal/sync.Mutex).Lock", "internal/race.Disable", "sync/atomic.CompareAndSwapInt32", "internal/race.Enable", "internal/race.Acquire", "(*internal/sync.Mutex).lockSlow", "internal/sync.runtime_canSpin", "internal/sync.runtime_doSpin", "internal/sync.throw", "internal/sync.runtime_nanotime", "internal/sync.runtime_SemacquireMutex", "sync/atomic.AddInt32", "(*internal/sync.Mutex).Unlock", "internal/race.ReleaseMerge", "(*internal/sync.Mutex).unlockSlow", "internal/sync.fatal", "internal/sync.runtime_Semrelease", "sync/atomic.StoreUint32"], unfollowed := true, recurses := true, apart := false }
def ReplicaPlaysSaid : Prop := replicaPlaysRow.holds Tryz.pinned (OpenSpec.ofChange replicaPlaysSpec)

/-- ITS FALSE NEIGHBOUR: 'it returns false'. Refute it at one input. -/
def replicaPlaysWrong : ChangeSpec := { name := "replicaPlays", fn := fun _ => fun
  | [d] => { results := [.lit (.bool false)], args := [d] }
  | _ => none }
def ReplicaPlaysWrongFalsely : Prop := replicaPlaysRow.holds Tryz.pinned (OpenSpec.ofChange replicaPlaysWrong)

/-- 'kissinggatelaw24.ReplicaParts': WHATEVER THE INPUT: true; the input reads as it did. -/
def replicaPartsSpec : ChangeSpec := { name := "replicaParts", fn := fun _ => fun
  | [d1, d2] => { results := [.lit (.bool true)], args := [d1, d2] }
  | _ => none }
def replicaPartsRow : OpenClaim := { program := "ytllkjfadeaoicaagreat", sum := "074cdafac65c8898a91fbb3ce9bfec13e4a98a46a07957139fad80a0a2c16ecb", func := "kissinggate/kissinggatelaw24.ReplicaParts", spec := "replicaParts", inPlace := ["slices.overlaps[kissinggate/api.Hold]", "slices.overlaps[kissinggate/api.Row]", "slices.overlaps[kissinggate/api.Line]", "slices.overlaps[kissinggate/api.Write]", "sync/atomic.LoadUint32", "(*internal/sync.Mutex).Lock", "internal/race.Disable", "sync/atomic.CompareAndSwapInt32", "internal/race.Enable", "internal/race.Acquire", "(*internal/sync.Mutex).lockSlow", "internal/sync.runtime_canSpin", "internal/sync.runtime_doSpin", "internal/sync.throw", "internal/sync.runtime_nanotime", "internal/sync.runtime_SemacquireMutex", "sync/atomic.AddInt32", "(*internal/sync.Mutex).Unlock", "internal/race.ReleaseMerge", "(*internal/sync.Mutex).unlockSlow", "internal/sync.fatal", "internal/sync.runtime_Semrelease", "sync/atomic.StoreUint32"], unfollowed := true, recurses := true, apart := false }
def ReplicaPartsSaid : Prop := replicaPartsRow.holds Tryz.pinned (OpenSpec.ofChange replicaPartsSpec)

/-- ITS FALSE NEIGHBOUR: 'it returns false'. Refute it at one input. -/
def replicaPartsWrong : ChangeSpec := { name := "replicaParts", fn := fun _ => fun
  | [d1, d2] => { results := [.lit (.bool false)], args := [d1, d2] }
  | _ => none }
def ReplicaPartsWrongFalsely : Prop := replicaPartsRow.holds Tryz.pinned (OpenSpec.ofChange replicaPartsWrong)

/-- 'kissinggatelaw24.ReplicaSaved': WHATEVER THE INPUT: true; the input reads as it did. -/
def replicaSavedSpec : ChangeSpec := { name := "replicaSaved", fn := fun _ => fun
  | [d1, d2] => { results := [.lit (.bool true)], args := [d1, d2] }
  | _ => none }
def replicaSavedRow : OpenClaim := { program := "ytllkjfadeaoicaagreat", sum := "074cdafac65c8898a91fbb3ce9bfec13e4a98a46a07957139fad80a0a2c16ecb", func := "kissinggate/kissinggatelaw24.ReplicaSaved", spec := "replicaSaved", inPlace := ["slices.overlaps[kissinggate/api.Hold]", "slices.overlaps[kissinggate/api.Row]", "slices.overlaps[kissinggate/api.Line]", "slices.overlaps[kissinggate/api.Write]", "sync/atomic.LoadUint32", "(*internal/sync.Mutex).Lock", "internal/race.Disable", "sync/atomic.CompareAndSwapInt32", "internal/race.Enable", "internal/race.Acquire", "(*internal/sync.Mutex).lockSlow", "internal/sync.runtime_canSpin", "internal/sync.runtime_doSpin", "internal/sync.throw", "internal/sync.runtime_nanotime", "internal/sync.runtime_SemacquireMutex", "sync/atomic.AddInt32", "(*internal/sync.Mutex).Unlock", "internal/race.ReleaseMerge", "(*internal/sync.Mutex).unlockSlow", "internal/sync.fatal", "internal/sync.runtime_Semrelease", "sync/atomic.StoreUint32"], unfollowed := true, recurses := true, apart := false }
def ReplicaSavedSaid : Prop := replicaSavedRow.holds Tryz.pinned (OpenSpec.ofChange replicaSavedSpec)

/-- ITS FALSE NEIGHBOUR: 'it returns false'. Refute it at one input. -/
def replicaSavedWrong : ChangeSpec := { name := "replicaSaved", fn := fun _ => fun
  | [d1, d2] => { results := [.lit (.bool false)], args := [d1, d2] }
  | _ => none }
def ReplicaSavedWrongFalsely : Prop := replicaSavedRow.holds Tryz.pinned (OpenSpec.ofChange replicaSavedWrong)

/-- 'kissinggatelaw24.ReplicaLoads': WHATEVER THE INPUT: true; the input reads as it did. -/
def replicaLoadsSpec : ChangeSpec := { name := "replicaLoads", fn := fun _ => fun
  | [d1, d2] => { results := [.lit (.bool true)], args := [d1, d2] }
  | _ => none }
def replicaLoadsRow : OpenClaim := { program := "ytllkjfadeaoicaagreat", sum := "074cdafac65c8898a91fbb3ce9bfec13e4a98a46a07957139fad80a0a2c16ecb", func := "kissinggate/kissinggatelaw24.ReplicaLoads", spec := "replicaLoads", inPlace := ["slices.overlaps[kissinggate/api.Hold]", "slices.overlaps[kissinggate/api.Row]", "slices.overlaps[kissinggate/api.Line]", "slices.overlaps[kissinggate/api.Write]", "sync/atomic.LoadUint32", "(*internal/sync.Mutex).Lock", "internal/race.Disable", "sync/atomic.CompareAndSwapInt32", "internal/race.Enable", "internal/race.Acquire", "(*internal/sync.Mutex).lockSlow", "internal/sync.runtime_canSpin", "internal/sync.runtime_doSpin", "internal/sync.throw", "internal/sync.runtime_nanotime", "internal/sync.runtime_SemacquireMutex", "sync/atomic.AddInt32", "(*internal/sync.Mutex).Unlock", "internal/race.ReleaseMerge", "(*internal/sync.Mutex).unlockSlow", "internal/sync.fatal", "internal/sync.runtime_Semrelease", "sync/atomic.StoreUint32"], unfollowed := true, recurses := true, apart := false }
def ReplicaLoadsSaid : Prop := replicaLoadsRow.holds Tryz.pinned (OpenSpec.ofChange replicaLoadsSpec)

/-- ITS FALSE NEIGHBOUR: 'it returns false'. Refute it at one input. -/
def replicaLoadsWrong : ChangeSpec := { name := "replicaLoads", fn := fun _ => fun
  | [d1, d2] => { results := [.lit (.bool false)], args := [d1, d2] }
  | _ => none }
def ReplicaLoadsWrongFalsely : Prop := replicaLoadsRow.holds Tryz.pinned (OpenSpec.ofChange replicaLoadsWrong)

/- THE SECOND FORM. 'bulk': how many values and letters a reading holds, each counted each time it is reached (what is shared counts as often as it is met; a slice's spare places count too). A statement '..UptoSaid' is the law's where the arguments, and the package variables that the reading takes, are together of bulk at most 1048576: NARROWER than '..Said'. Prove '..Said' where nothing that the law and all that it calls make is longer than what came in: it says more and counts as full. Else prove '..UptoSaid'. A law counts once. -/
mutual
def uptoBulk {H : Type} : DataW H → Nat
  | .lit (.string bytes) => bytes.length + 1
  | .lit _ => 1
  | .nil => 1
  | .ptr d => uptoBulk d + 1
  | .slice elems spare => uptoBulkAll elems + uptoBulkAll spare + 1
  | .agg parts => uptoBulkAll parts + 1
  | .iface _ d => uptoBulk d + 1
  | .map entries => uptoBulkEntries entries + 1
  | .held _ => 1
def uptoBulkAll {H : Type} : List (DataW H) → Nat
  | [] => 0
  | d :: r => uptoBulk d + uptoBulkAll r
def uptoBulkEntries {H : Type} : List (Lit × DataW H) → Nat
  | [] => 0
  | x :: r => uptoBulkEntry x + uptoBulkEntries r
def uptoBulkEntry {H : Type} : Lit × DataW H → Nat
  | (.string bytes, d) => bytes.length + uptoBulk d + 1
  | (_, d) => uptoBulk d + 1
 end
def uptoSmall : (H : Type) → List (DataW H) → Bool := fun _ ds => decide (uptoBulkAll ds ≤ 1048576)
def OpenSpec.upto (s : _root_.Go.ChangeSpec) : _root_.Go.OpenSpec := { _root_.Go.OpenSpec.ofChange s with cond := some uptoSmall }

/-- 'kissinggatelaw19.ImageReads', WHERE WHAT IT READS IS OF BULK AT MOST 1048576: true; the input reads as it did. -/
def imageReadsUptoRow : OpenClaim := { program := "ytllkjfadeaoicaagreat", sum := "074cdafac65c8898a91fbb3ce9bfec13e4a98a46a07957139fad80a0a2c16ecb", func := "kissinggate/kissinggatelaw19.ImageReads", spec := "imageReads", inPlace := ["sync/atomic.LoadUint32", "(*internal/sync.Mutex).Lock", "internal/race.Disable", "sync/atomic.CompareAndSwapInt32", "internal/race.Enable", "internal/race.Acquire", "(*internal/sync.Mutex).lockSlow", "internal/sync.runtime_canSpin", "internal/sync.runtime_doSpin", "internal/sync.throw", "internal/sync.runtime_nanotime", "internal/sync.runtime_SemacquireMutex", "sync/atomic.AddInt32", "(*internal/sync.Mutex).Unlock", "internal/race.ReleaseMerge", "(*internal/sync.Mutex).unlockSlow", "internal/sync.fatal", "internal/sync.runtime_Semrelease", "sync/atomic.StoreUint32", "slices.overlaps[kissinggate/api.Hold]", "slices.overlaps[kissinggate/api.Row]", "slices.overlaps[kissinggate/api.Line]", "slices.overlaps[kissinggate/api.Write]"], unfollowed := true, recurses := true, apart := false, narrowed := true }
def ImageReadsUptoSaid : Prop := imageReadsUptoRow.holds Tryz.pinned (OpenSpec.upto imageReadsSpec)

/-- 'kissinggatelaw19.ImageGoes', WHERE WHAT IT READS IS OF BULK AT MOST 1048576: true; the input reads as it did. -/
def imageGoesUptoRow : OpenClaim := { program := "ytllkjfadeaoicaagreat", sum := "074cdafac65c8898a91fbb3ce9bfec13e4a98a46a07957139fad80a0a2c16ecb", func := "kissinggate/kissinggatelaw19.ImageGoes", spec := "imageGoes", inPlace := ["sync/atomic.LoadUint32", "(*internal/sync.Mutex).Lock", "internal/race.Disable", "sync/atomic.CompareAndSwapInt32", "internal/race.Enable", "internal/race.Acquire", "(*internal/sync.Mutex).lockSlow", "internal/sync.runtime_canSpin", "internal/sync.runtime_doSpin", "internal/sync.throw", "internal/sync.runtime_nanotime", "internal/sync.runtime_SemacquireMutex", "sync/atomic.AddInt32", "(*internal/sync.Mutex).Unlock", "internal/race.ReleaseMerge", "(*internal/sync.Mutex).unlockSlow", "internal/sync.fatal", "internal/sync.runtime_Semrelease", "sync/atomic.StoreUint32", "slices.overlaps[kissinggate/api.Hold]", "slices.overlaps[kissinggate/api.Row]", "slices.overlaps[kissinggate/api.Line]", "slices.overlaps[kissinggate/api.Write]"], unfollowed := true, recurses := true, apart := false, narrowed := true }
def ImageGoesUptoSaid : Prop := imageGoesUptoRow.holds Tryz.pinned (OpenSpec.upto imageGoesSpec)

/-- 'kissinggatelaw19.ImageTurned', WHERE WHAT IT READS IS OF BULK AT MOST 1048576: true; the input reads as it did. -/
def imageTurnedUptoRow : OpenClaim := { program := "ytllkjfadeaoicaagreat", sum := "074cdafac65c8898a91fbb3ce9bfec13e4a98a46a07957139fad80a0a2c16ecb", func := "kissinggate/kissinggatelaw19.ImageTurned", spec := "imageTurned", inPlace := ["sync/atomic.LoadUint32", "(*internal/sync.Mutex).Lock", "internal/race.Disable", "sync/atomic.CompareAndSwapInt32", "internal/race.Enable", "internal/race.Acquire", "(*internal/sync.Mutex).lockSlow", "internal/sync.runtime_canSpin", "internal/sync.runtime_doSpin", "internal/sync.throw", "internal/sync.runtime_nanotime", "internal/sync.runtime_SemacquireMutex", "sync/atomic.AddInt32", "(*internal/sync.Mutex).Unlock", "internal/race.ReleaseMerge", "(*internal/sync.Mutex).unlockSlow", "internal/sync.fatal", "internal/sync.runtime_Semrelease", "sync/atomic.StoreUint32", "slices.overlaps[kissinggate/api.Hold]", "slices.overlaps[kissinggate/api.Row]", "slices.overlaps[kissinggate/api.Line]", "slices.overlaps[kissinggate/api.Write]"], unfollowed := true, recurses := true, apart := false, narrowed := true }
def ImageTurnedUptoSaid : Prop := imageTurnedUptoRow.holds Tryz.pinned (OpenSpec.upto imageTurnedSpec)

/-- 'kissinggatelaw24.ReplicaPlays', WHERE WHAT IT READS IS OF BULK AT MOST 1048576: true; the input reads as it did. -/
def replicaPlaysUptoRow : OpenClaim := { program := "ytllkjfadeaoicaagreat", sum := "074cdafac65c8898a91fbb3ce9bfec13e4a98a46a07957139fad80a0a2c16ecb", func := "kissinggate/kissinggatelaw24.ReplicaPlays", spec := "replicaPlays", inPlace := ["slices.overlaps[kissinggate/api.Hold]", "slices.overlaps[kissinggate/api.Row]", "slices.overlaps[kissinggate/api.Line]", "slices.overlaps[kissinggate/api.Write]", "sync/atomic.LoadUint32", "(*internal/sync.Mutex).Lock", "internal/race.Disable", "sync/atomic.CompareAndSwapInt32", "internal/race.Enable", "internal/race.Acquire", "(*internal/sync.Mutex).lockSlow", "internal/sync.runtime_canSpin", "internal/sync.runtime_doSpin", "internal/sync.throw", "internal/sync.runtime_nanotime", "internal/sync.runtime_SemacquireMutex", "sync/atomic.AddInt32", "(*internal/sync.Mutex).Unlock", "internal/race.ReleaseMerge", "(*internal/sync.Mutex).unlockSlow", "internal/sync.fatal", "internal/sync.runtime_Semrelease", "sync/atomic.StoreUint32"], unfollowed := true, recurses := true, apart := false, narrowed := true }
def ReplicaPlaysUptoSaid : Prop := replicaPlaysUptoRow.holds Tryz.pinned (OpenSpec.upto replicaPlaysSpec)

/-- 'kissinggatelaw24.ReplicaParts', WHERE WHAT IT READS IS OF BULK AT MOST 1048576: true; the input reads as it did. -/
def replicaPartsUptoRow : OpenClaim := { program := "ytllkjfadeaoicaagreat", sum := "074cdafac65c8898a91fbb3ce9bfec13e4a98a46a07957139fad80a0a2c16ecb", func := "kissinggate/kissinggatelaw24.ReplicaParts", spec := "replicaParts", inPlace := ["slices.overlaps[kissinggate/api.Hold]", "slices.overlaps[kissinggate/api.Row]", "slices.overlaps[kissinggate/api.Line]", "slices.overlaps[kissinggate/api.Write]", "sync/atomic.LoadUint32", "(*internal/sync.Mutex).Lock", "internal/race.Disable", "sync/atomic.CompareAndSwapInt32", "internal/race.Enable", "internal/race.Acquire", "(*internal/sync.Mutex).lockSlow", "internal/sync.runtime_canSpin", "internal/sync.runtime_doSpin", "internal/sync.throw", "internal/sync.runtime_nanotime", "internal/sync.runtime_SemacquireMutex", "sync/atomic.AddInt32", "(*internal/sync.Mutex).Unlock", "internal/race.ReleaseMerge", "(*internal/sync.Mutex).unlockSlow", "internal/sync.fatal", "internal/sync.runtime_Semrelease", "sync/atomic.StoreUint32"], unfollowed := true, recurses := true, apart := false, narrowed := true }
def ReplicaPartsUptoSaid : Prop := replicaPartsUptoRow.holds Tryz.pinned (OpenSpec.upto replicaPartsSpec)

/-- 'kissinggatelaw24.ReplicaSaved', WHERE WHAT IT READS IS OF BULK AT MOST 1048576: true; the input reads as it did. -/
def replicaSavedUptoRow : OpenClaim := { program := "ytllkjfadeaoicaagreat", sum := "074cdafac65c8898a91fbb3ce9bfec13e4a98a46a07957139fad80a0a2c16ecb", func := "kissinggate/kissinggatelaw24.ReplicaSaved", spec := "replicaSaved", inPlace := ["slices.overlaps[kissinggate/api.Hold]", "slices.overlaps[kissinggate/api.Row]", "slices.overlaps[kissinggate/api.Line]", "slices.overlaps[kissinggate/api.Write]", "sync/atomic.LoadUint32", "(*internal/sync.Mutex).Lock", "internal/race.Disable", "sync/atomic.CompareAndSwapInt32", "internal/race.Enable", "internal/race.Acquire", "(*internal/sync.Mutex).lockSlow", "internal/sync.runtime_canSpin", "internal/sync.runtime_doSpin", "internal/sync.throw", "internal/sync.runtime_nanotime", "internal/sync.runtime_SemacquireMutex", "sync/atomic.AddInt32", "(*internal/sync.Mutex).Unlock", "internal/race.ReleaseMerge", "(*internal/sync.Mutex).unlockSlow", "internal/sync.fatal", "internal/sync.runtime_Semrelease", "sync/atomic.StoreUint32"], unfollowed := true, recurses := true, apart := false, narrowed := true }
def ReplicaSavedUptoSaid : Prop := replicaSavedUptoRow.holds Tryz.pinned (OpenSpec.upto replicaSavedSpec)

/-- 'kissinggatelaw24.ReplicaLoads', WHERE WHAT IT READS IS OF BULK AT MOST 1048576: true; the input reads as it did. -/
def replicaLoadsUptoRow : OpenClaim := { program := "ytllkjfadeaoicaagreat", sum := "074cdafac65c8898a91fbb3ce9bfec13e4a98a46a07957139fad80a0a2c16ecb", func := "kissinggate/kissinggatelaw24.ReplicaLoads", spec := "replicaLoads", inPlace := ["slices.overlaps[kissinggate/api.Hold]", "slices.overlaps[kissinggate/api.Row]", "slices.overlaps[kissinggate/api.Line]", "slices.overlaps[kissinggate/api.Write]", "sync/atomic.LoadUint32", "(*internal/sync.Mutex).Lock", "internal/race.Disable", "sync/atomic.CompareAndSwapInt32", "internal/race.Enable", "internal/race.Acquire", "(*internal/sync.Mutex).lockSlow", "internal/sync.runtime_canSpin", "internal/sync.runtime_doSpin", "internal/sync.throw", "internal/sync.runtime_nanotime", "internal/sync.runtime_SemacquireMutex", "sync/atomic.AddInt32", "(*internal/sync.Mutex).Unlock", "internal/race.ReleaseMerge", "(*internal/sync.Mutex).unlockSlow", "internal/sync.fatal", "internal/sync.runtime_Semrelease", "sync/atomic.StoreUint32"], unfollowed := true, recurses := true, apart := false, narrowed := true }
def ReplicaLoadsUptoSaid : Prop := replicaLoadsUptoRow.holds Tryz.pinned (OpenSpec.upto replicaLoadsSpec)

end Rows
end Go.Proofs.YtllkjfadeaoicaaGreat
