/-
  No cell of these rows narrows 'for every input' (looked for: loops, veiled, ifaces, maps, wideKeys, modest, calm, conditions, laid).
  DERIVED. THE GIVEN ROWS OF THIS SEAT. 8 by the template 'for every input the law returns true; each argument reads behind the call as it read before'; 0 by the template 'total and deterministic' (their statements: YtpllomffpohefaaGreatTotals.lean).
  GIVEN WITH THE SEED: the statements are not yours to turn. If you find one false, say at which input.
  Laid BY PROGRAM, IN A SANDBOX (cutbox-rows.mjs): the forced cells as the released guide's own fill.sh prints them over the translation 9fa068491970544a… (all of the seat's roots in one cut). By AI agents, Wed Nov 11 2026. No macro, syntax, notation, axiom, sorry.
-/
import Derived.Test.YtpllomffpohefaaGreatChecked
import GoSem.Claim
import GoSem.ClaimJoined
import GoSem.ClaimMapViews
import Derived.JoinedTies
import Derived.KernelRfl
namespace Go.Proofs.YtpllomffpohefaaGreat
/- THE CELL 'sum', in the pinned program and in every row, IS THE sha256 OF THE DUMP (.gsa) THAT YtpllomffpohefaaGreatProg.lean LOADS. Nothing in Lean hashes anything: it is a label: what it is worth is what the hold of that sum in a sandbox is worth. -/
noncomputable def Tryz.pinned : Pinned := { name := "ytpllomffpohefaagreat", sum := "9fa068491970544aba496932fe5fd335e48be8e3482f6e9626a3a6ad491e11ef", checked := Tryz.checked }
namespace Rows
def none {H : Type} : Left H := { results := [], args := [] }

/-- 'greenhouselaw18.CoreKept': WHATEVER THE INPUT: true; the input reads as it did. -/
def coreKeptSpec : ChangeSpec := { name := "coreKept", fn := fun _ => fun
  | [d1, d2, d3] => { results := [.lit (.bool true)], args := [d1, d2, d3] }
  | _ => none }
def coreKeptRow : OpenClaim := { program := "ytpllomffpohefaagreat", sum := "9fa068491970544aba496932fe5fd335e48be8e3482f6e9626a3a6ad491e11ef", func := "greenhouse/greenhouselaw18.CoreKept", spec := "coreKept", inPlace := ["math/bits.Add64", "sync/atomic.LoadInt64", "sync/atomic.CompareAndSwapInt64"], unfollowed := true, recurses := true, named := ["math/bits.divideError", "math/bits.overflowError"], plainKeys := false, apart := false }
def CoreKeptSaid : Prop := coreKeptRow.holds Tryz.pinned (OpenSpec.ofChange coreKeptSpec)

/-- ITS FALSE NEIGHBOUR: 'it returns false'. Refute it at one input. -/
def coreKeptWrong : ChangeSpec := { name := "coreKept", fn := fun _ => fun
  | [d1, d2, d3] => { results := [.lit (.bool false)], args := [d1, d2, d3] }
  | _ => none }
def CoreKeptWrongFalsely : Prop := coreKeptRow.holds Tryz.pinned (OpenSpec.ofChange coreKeptWrong)

/-- 'greenhouselaw18.CoreMemory': WHATEVER THE INPUT: true; the input reads as it did. -/
def coreMemorySpec : ChangeSpec := { name := "coreMemory", fn := fun _ => fun
  | [d] => { results := [.lit (.bool true)], args := [d] }
  | _ => none }
def coreMemoryRow : OpenClaim := { program := "ytpllomffpohefaagreat", sum := "9fa068491970544aba496932fe5fd335e48be8e3482f6e9626a3a6ad491e11ef", func := "greenhouse/greenhouselaw18.CoreMemory", spec := "coreMemory", inPlace := ["math/bits.Add64", "sync/atomic.LoadInt64", "sync/atomic.CompareAndSwapInt64"], unfollowed := true, recurses := true, named := ["math/bits.divideError", "math/bits.overflowError"], plainKeys := false, apart := false }
def CoreMemorySaid : Prop := coreMemoryRow.holds Tryz.pinned (OpenSpec.ofChange coreMemorySpec)

/-- ITS FALSE NEIGHBOUR: 'it returns false'. Refute it at one input. -/
def coreMemoryWrong : ChangeSpec := { name := "coreMemory", fn := fun _ => fun
  | [d] => { results := [.lit (.bool false)], args := [d] }
  | _ => none }
def CoreMemoryWrongFalsely : Prop := coreMemoryRow.holds Tryz.pinned (OpenSpec.ofChange coreMemoryWrong)

/-- 'greenhouselaw18.CoreDrains': WHATEVER THE INPUT: true; the input reads as it did. -/
def coreDrainsSpec : ChangeSpec := { name := "coreDrains", fn := fun _ => fun
  | [d1, d2] => { results := [.lit (.bool true)], args := [d1, d2] }
  | _ => none }
def coreDrainsRow : OpenClaim := { program := "ytpllomffpohefaagreat", sum := "9fa068491970544aba496932fe5fd335e48be8e3482f6e9626a3a6ad491e11ef", func := "greenhouse/greenhouselaw18.CoreDrains", spec := "coreDrains", inPlace := ["math/bits.Add64", "sync/atomic.LoadInt64", "sync/atomic.CompareAndSwapInt64"], unfollowed := true, recurses := true, named := ["math/bits.divideError", "math/bits.overflowError"], plainKeys := false, apart := false }
def CoreDrainsSaid : Prop := coreDrainsRow.holds Tryz.pinned (OpenSpec.ofChange coreDrainsSpec)

/-- ITS FALSE NEIGHBOUR: 'it returns false'. Refute it at one input. -/
def coreDrainsWrong : ChangeSpec := { name := "coreDrains", fn := fun _ => fun
  | [d1, d2] => { results := [.lit (.bool false)], args := [d1, d2] }
  | _ => none }
def CoreDrainsWrongFalsely : Prop := coreDrainsRow.holds Tryz.pinned (OpenSpec.ofChange coreDrainsWrong)

/-- 'greenhouselaw18.CoreFails': WHATEVER THE INPUT: true; the input reads as it did. -/
def coreFailsSpec : ChangeSpec := { name := "coreFails", fn := fun _ => fun
  | [d1, d2] => { results := [.lit (.bool true)], args := [d1, d2] }
  | _ => none }
def coreFailsRow : OpenClaim := { program := "ytpllomffpohefaagreat", sum := "9fa068491970544aba496932fe5fd335e48be8e3482f6e9626a3a6ad491e11ef", func := "greenhouse/greenhouselaw18.CoreFails", spec := "coreFails", inPlace := ["math/bits.Add64", "sync/atomic.LoadInt64", "sync/atomic.CompareAndSwapInt64"], unfollowed := true, recurses := true, named := ["math/bits.divideError", "math/bits.overflowError"], plainKeys := false, apart := false }
def CoreFailsSaid : Prop := coreFailsRow.holds Tryz.pinned (OpenSpec.ofChange coreFailsSpec)

/-- ITS FALSE NEIGHBOUR: 'it returns false'. Refute it at one input. -/
def coreFailsWrong : ChangeSpec := { name := "coreFails", fn := fun _ => fun
  | [d1, d2] => { results := [.lit (.bool false)], args := [d1, d2] }
  | _ => none }
def CoreFailsWrongFalsely : Prop := coreFailsRow.holds Tryz.pinned (OpenSpec.ofChange coreFailsWrong)

/-- 'greenhouselaw18.CorePinned': WHATEVER THE INPUT: true; the input reads as it did. -/
def corePinnedSpec : ChangeSpec := { name := "corePinned", fn := fun _ => fun
  | [d] => { results := [.lit (.bool true)], args := [d] }
  | _ => none }
def corePinnedRow : OpenClaim := { program := "ytpllomffpohefaagreat", sum := "9fa068491970544aba496932fe5fd335e48be8e3482f6e9626a3a6ad491e11ef", func := "greenhouse/greenhouselaw18.CorePinned", spec := "corePinned", inPlace := ["math/bits.Add64", "sync/atomic.LoadInt64", "sync/atomic.CompareAndSwapInt64"], unfollowed := true, recurses := true, named := ["math/bits.divideError", "math/bits.overflowError"], plainKeys := false, apart := false }
def CorePinnedSaid : Prop := corePinnedRow.holds Tryz.pinned (OpenSpec.ofChange corePinnedSpec)

/-- ITS FALSE NEIGHBOUR: 'it returns false'. Refute it at one input. -/
def corePinnedWrong : ChangeSpec := { name := "corePinned", fn := fun _ => fun
  | [d] => { results := [.lit (.bool false)], args := [d] }
  | _ => none }
def CorePinnedWrongFalsely : Prop := corePinnedRow.holds Tryz.pinned (OpenSpec.ofChange corePinnedWrong)

/-- 'greenhouselaw18.CoreEnds': WHATEVER THE INPUT: true; the input reads as it did. -/
def coreEndsSpec : ChangeSpec := { name := "coreEnds", fn := fun _ => fun
  | [d1, d2] => { results := [.lit (.bool true)], args := [d1, d2] }
  | _ => none }
def coreEndsRow : OpenClaim := { program := "ytpllomffpohefaagreat", sum := "9fa068491970544aba496932fe5fd335e48be8e3482f6e9626a3a6ad491e11ef", func := "greenhouse/greenhouselaw18.CoreEnds", spec := "coreEnds", inPlace := ["math/bits.Add64", "sync/atomic.LoadInt64", "sync/atomic.CompareAndSwapInt64"], unfollowed := true, recurses := true, named := ["math/bits.divideError", "math/bits.overflowError"], plainKeys := false, apart := false }
def CoreEndsSaid : Prop := coreEndsRow.holds Tryz.pinned (OpenSpec.ofChange coreEndsSpec)

/-- ITS FALSE NEIGHBOUR: 'it returns false'. Refute it at one input. -/
def coreEndsWrong : ChangeSpec := { name := "coreEnds", fn := fun _ => fun
  | [d1, d2] => { results := [.lit (.bool false)], args := [d1, d2] }
  | _ => none }
def CoreEndsWrongFalsely : Prop := coreEndsRow.holds Tryz.pinned (OpenSpec.ofChange coreEndsWrong)

/-- 'greenhouselaw18.CoreRefuses': WHATEVER THE INPUT: true; the input reads as it did. -/
def coreRefusesSpec : ChangeSpec := { name := "coreRefuses", fn := fun _ => fun
  | [d1, d2] => { results := [.lit (.bool true)], args := [d1, d2] }
  | _ => none }
def coreRefusesRow : OpenClaim := { program := "ytpllomffpohefaagreat", sum := "9fa068491970544aba496932fe5fd335e48be8e3482f6e9626a3a6ad491e11ef", func := "greenhouse/greenhouselaw18.CoreRefuses", spec := "coreRefuses", inPlace := ["math/bits.Add64", "sync/atomic.LoadInt64", "sync/atomic.CompareAndSwapInt64"], unfollowed := true, recurses := true, named := ["math/bits.divideError", "math/bits.overflowError"], plainKeys := false, apart := false }
def CoreRefusesSaid : Prop := coreRefusesRow.holds Tryz.pinned (OpenSpec.ofChange coreRefusesSpec)

/-- ITS FALSE NEIGHBOUR: 'it returns false'. Refute it at one input. -/
def coreRefusesWrong : ChangeSpec := { name := "coreRefuses", fn := fun _ => fun
  | [d1, d2] => { results := [.lit (.bool false)], args := [d1, d2] }
  | _ => none }
def CoreRefusesWrongFalsely : Prop := coreRefusesRow.holds Tryz.pinned (OpenSpec.ofChange coreRefusesWrong)

/-- 'greenhouselaw18.CoreEvents': WHATEVER THE INPUT: true; the input reads as it did. -/
def coreEventsSpec : ChangeSpec := { name := "coreEvents", fn := fun _ => fun
  | [d] => { results := [.lit (.bool true)], args := [d] }
  | _ => none }
def coreEventsRow : OpenClaim := { program := "ytpllomffpohefaagreat", sum := "9fa068491970544aba496932fe5fd335e48be8e3482f6e9626a3a6ad491e11ef", func := "greenhouse/greenhouselaw18.CoreEvents", spec := "coreEvents", inPlace := ["math/bits.Add64", "sync/atomic.LoadInt64", "sync/atomic.CompareAndSwapInt64"], unfollowed := true, recurses := true, named := ["math/bits.divideError", "math/bits.overflowError"], plainKeys := false, apart := false }
def CoreEventsSaid : Prop := coreEventsRow.holds Tryz.pinned (OpenSpec.ofChange coreEventsSpec)

/-- ITS FALSE NEIGHBOUR: 'it returns false'. Refute it at one input. -/
def coreEventsWrong : ChangeSpec := { name := "coreEvents", fn := fun _ => fun
  | [d] => { results := [.lit (.bool false)], args := [d] }
  | _ => none }
def CoreEventsWrongFalsely : Prop := coreEventsRow.holds Tryz.pinned (OpenSpec.ofChange coreEventsWrong)

/- THE SECOND FORM. 'bulk': how many values and letters a reading holds, each counted each time it is reached (what is shared counts as often as it is met; a slice's spare places count too). A statement '..UptoSaid' is the law's where the arguments, and the package variables that the reading takes, are together of bulk at most 1048576: NARROWER than '..Said'. Prove '..Said' where nothing that the law and all that it calls make is longer than what came in: it says more and counts as full. Else prove '..UptoSaid'. A law counts once. -/
mutual
def uptoBulk {H : Type} : DataW H → Nat
  | .lit (.string bytes) => bytes.length + 1
  | .lit _ => 1
  | .nil => 1
  | .ptr d => uptoBulk d + 1
  | .slice elems spare => uptoBulkAll elems + uptoBulkAll spare + 1
  | .agg parts => uptoBulkAll parts + 1
  | .iface _ d => uptoBulk d + 1
  | .map entries => uptoBulkEntries entries + 1
  | .held _ => 1
def uptoBulkAll {H : Type} : List (DataW H) → Nat
  | [] => 0
  | d :: r => uptoBulk d + uptoBulkAll r
def uptoBulkEntries {H : Type} : List (Lit × DataW H) → Nat
  | [] => 0
  | x :: r => uptoBulkEntry x + uptoBulkEntries r
def uptoBulkEntry {H : Type} : Lit × DataW H → Nat
  | (.string bytes, d) => bytes.length + uptoBulk d + 1
  | (_, d) => uptoBulk d + 1
 end
def uptoSmall : (H : Type) → List (DataW H) → Bool := fun _ ds => decide (uptoBulkAll ds ≤ 1048576)
def OpenSpec.upto (s : _root_.Go.ChangeSpec) : _root_.Go.OpenSpec := { _root_.Go.OpenSpec.ofChange s with cond := some uptoSmall }

/-- 'greenhouselaw18.CoreKept', WHERE WHAT IT READS IS OF BULK AT MOST 1048576: true; the input reads as it did. -/
def coreKeptUptoRow : OpenClaim := { program := "ytpllomffpohefaagreat", sum := "9fa068491970544aba496932fe5fd335e48be8e3482f6e9626a3a6ad491e11ef", func := "greenhouse/greenhouselaw18.CoreKept", spec := "coreKept", inPlace := ["math/bits.Add64", "sync/atomic.LoadInt64", "sync/atomic.CompareAndSwapInt64"], unfollowed := true, recurses := true, named := ["math/bits.divideError", "math/bits.overflowError"], plainKeys := false, apart := false, narrowed := true }
def CoreKeptUptoSaid : Prop := coreKeptUptoRow.holds Tryz.pinned (OpenSpec.upto coreKeptSpec)

/-- 'greenhouselaw18.CoreMemory', WHERE WHAT IT READS IS OF BULK AT MOST 1048576: true; the input reads as it did. -/
def coreMemoryUptoRow : OpenClaim := { program := "ytpllomffpohefaagreat", sum := "9fa068491970544aba496932fe5fd335e48be8e3482f6e9626a3a6ad491e11ef", func := "greenhouse/greenhouselaw18.CoreMemory", spec := "coreMemory", inPlace := ["math/bits.Add64", "sync/atomic.LoadInt64", "sync/atomic.CompareAndSwapInt64"], unfollowed := true, recurses := true, named := ["math/bits.divideError", "math/bits.overflowError"], plainKeys := false, apart := false, narrowed := true }
def CoreMemoryUptoSaid : Prop := coreMemoryUptoRow.holds Tryz.pinned (OpenSpec.upto coreMemorySpec)

/-- 'greenhouselaw18.CoreDrains', WHERE WHAT IT READS IS OF BULK AT MOST 1048576: true; the input reads as it did. -/
def coreDrainsUptoRow : OpenClaim := { program := "ytpllomffpohefaagreat", sum := "9fa068491970544aba496932fe5fd335e48be8e3482f6e9626a3a6ad491e11ef", func := "greenhouse/greenhouselaw18.CoreDrains", spec := "coreDrains", inPlace := ["math/bits.Add64", "sync/atomic.LoadInt64", "sync/atomic.CompareAndSwapInt64"], unfollowed := true, recurses := true, named := ["math/bits.divideError", "math/bits.overflowError"], plainKeys := false, apart := false, narrowed := true }
def CoreDrainsUptoSaid : Prop := coreDrainsUptoRow.holds Tryz.pinned (OpenSpec.upto coreDrainsSpec)

/-- 'greenhouselaw18.CoreFails', WHERE WHAT IT READS IS OF BULK AT MOST 1048576: true; the input reads as it did. -/
def coreFailsUptoRow : OpenClaim := { program := "ytpllomffpohefaagreat", sum := "9fa068491970544aba496932fe5fd335e48be8e3482f6e9626a3a6ad491e11ef", func := "greenhouse/greenhouselaw18.CoreFails", spec := "coreFails", inPlace := ["math/bits.Add64", "sync/atomic.LoadInt64", "sync/atomic.CompareAndSwapInt64"], unfollowed := true, recurses := true, named := ["math/bits.divideError", "math/bits.overflowError"], plainKeys := false, apart := false, narrowed := true }
def CoreFailsUptoSaid : Prop := coreFailsUptoRow.holds Tryz.pinned (OpenSpec.upto coreFailsSpec)

/-- 'greenhouselaw18.CorePinned', WHERE WHAT IT READS IS OF BULK AT MOST 1048576: true; the input reads as it did. -/
def corePinnedUptoRow : OpenClaim := { program := "ytpllomffpohefaagreat", sum := "9fa068491970544aba496932fe5fd335e48be8e3482f6e9626a3a6ad491e11ef", func := "greenhouse/greenhouselaw18.CorePinned", spec := "corePinned", inPlace := ["math/bits.Add64", "sync/atomic.LoadInt64", "sync/atomic.CompareAndSwapInt64"], unfollowed := true, recurses := true, named := ["math/bits.divideError", "math/bits.overflowError"], plainKeys := false, apart := false, narrowed := true }
def CorePinnedUptoSaid : Prop := corePinnedUptoRow.holds Tryz.pinned (OpenSpec.upto corePinnedSpec)

/-- 'greenhouselaw18.CoreEnds', WHERE WHAT IT READS IS OF BULK AT MOST 1048576: true; the input reads as it did. -/
def coreEndsUptoRow : OpenClaim := { program := "ytpllomffpohefaagreat", sum := "9fa068491970544aba496932fe5fd335e48be8e3482f6e9626a3a6ad491e11ef", func := "greenhouse/greenhouselaw18.CoreEnds", spec := "coreEnds", inPlace := ["math/bits.Add64", "sync/atomic.LoadInt64", "sync/atomic.CompareAndSwapInt64"], unfollowed := true, recurses := true, named := ["math/bits.divideError", "math/bits.overflowError"], plainKeys := false, apart := false, narrowed := true }
def CoreEndsUptoSaid : Prop := coreEndsUptoRow.holds Tryz.pinned (OpenSpec.upto coreEndsSpec)

/-- 'greenhouselaw18.CoreRefuses', WHERE WHAT IT READS IS OF BULK AT MOST 1048576: true; the input reads as it did. -/
def coreRefusesUptoRow : OpenClaim := { program := "ytpllomffpohefaagreat", sum := "9fa068491970544aba496932fe5fd335e48be8e3482f6e9626a3a6ad491e11ef", func := "greenhouse/greenhouselaw18.CoreRefuses", spec := "coreRefuses", inPlace := ["math/bits.Add64", "sync/atomic.LoadInt64", "sync/atomic.CompareAndSwapInt64"], unfollowed := true, recurses := true, named := ["math/bits.divideError", "math/bits.overflowError"], plainKeys := false, apart := false, narrowed := true }
def CoreRefusesUptoSaid : Prop := coreRefusesUptoRow.holds Tryz.pinned (OpenSpec.upto coreRefusesSpec)

/-- 'greenhouselaw18.CoreEvents', WHERE WHAT IT READS IS OF BULK AT MOST 1048576: true; the input reads as it did. -/
def coreEventsUptoRow : OpenClaim := { program := "ytpllomffpohefaagreat", sum := "9fa068491970544aba496932fe5fd335e48be8e3482f6e9626a3a6ad491e11ef", func := "greenhouse/greenhouselaw18.CoreEvents", spec := "coreEvents", inPlace := ["math/bits.Add64", "sync/atomic.LoadInt64", "sync/atomic.CompareAndSwapInt64"], unfollowed := true, recurses := true, named := ["math/bits.divideError", "math/bits.overflowError"], plainKeys := false, apart := false, narrowed := true }
def CoreEventsUptoSaid : Prop := coreEventsUptoRow.holds Tryz.pinned (OpenSpec.upto coreEventsSpec)

end Rows
end Go.Proofs.YtpllomffpohefaaGreat
