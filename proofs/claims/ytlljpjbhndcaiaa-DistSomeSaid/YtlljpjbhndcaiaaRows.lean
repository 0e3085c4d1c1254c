/-
  No cell of these rows narrows 'for every input' (looked for: loops, veiled, ifaces, maps, wideKeys, modest, calm, conditions, laid).
  DERIVED. THE GIVEN ROWS OF THIS SEAT. 15 by the template 'for every input the law returns true; each argument reads behind the call as it read before'; 0 by the template 'total and deterministic' (their statements: YtlljpjbhndcaiaaTotals.lean).
  GIVEN WITH THE SEED: the statements are not yours to turn. If you find one false, say at which input.
  Laid BY PROGRAM, IN A SANDBOX (cutbox-rows.mjs): the forced cells as the released guide's own fill.sh prints them over the translation 18fca53db0d01da4… (all of the seat's roots in one cut). By AI agents, Wed Nov 11 2026. No macro, syntax, notation, axiom, sorry.
-/
import Derived.Test.YtlljpjbhndcaiaaChecked
import GoSem.Claim
import GoSem.ClaimJoined
import GoSem.ClaimMapViews
import Derived.JoinedTies
import Derived.KernelRfl
namespace Go.Proofs.Ytlljpjbhndcaiaa
/- THE CELL 'sum', in the pinned program and in every row, IS THE sha256 OF THE DUMP (.gsa) THAT YtlljpjbhndcaiaaProg.lean LOADS. Nothing in Lean hashes anything: it is a label: what it is worth is what the hold of that sum in a sandbox is worth. -/
noncomputable def Try.pinned : Pinned := { name := "ytlljpjbhndcaiaa", sum := "18fca53db0d01da4f02e0db972458d5307c581007a0d024ea4a2805f5d4cd340", checked := Try.checked }
namespace Rows
def none {H : Type} : Left H := { results := [], args := [] }

/-- 'punchcutlaw08.DistSome': WHATEVER THE INPUT: true; the input reads as it did. -/
def distSomeSpec : ChangeSpec := { name := "distSome", fn := fun _ => fun
  | [d1, d2, d3, d4] => { results := [.lit (.bool true)], args := [d1, d2, d3, d4] }
  | _ => none }
def distSomeRow : OpenClaim := { program := "ytlljpjbhndcaiaa", sum := "18fca53db0d01da4f02e0db972458d5307c581007a0d024ea4a2805f5d4cd340", func := "punchcut/punchcutlaw08.DistSome", spec := "distSome", unfollowed := true, recurses := true, apart := false }
def DistSomeSaid : Prop := distSomeRow.holds Try.pinned (OpenSpec.ofChange distSomeSpec)

/-- ITS FALSE NEIGHBOUR: 'it returns false'. Refute it at one input. -/
def distSomeWrong : ChangeSpec := { name := "distSome", fn := fun _ => fun
  | [d1, d2, d3, d4] => { results := [.lit (.bool false)], args := [d1, d2, d3, d4] }
  | _ => none }
def DistSomeWrongFalsely : Prop := distSomeRow.holds Try.pinned (OpenSpec.ofChange distSomeWrong)

/-- 'punchcutlaw08.DistStep': WHATEVER THE INPUT: true; the input reads as it did. -/
def distStepSpec : ChangeSpec := { name := "distStep", fn := fun _ => fun
  | [d1, d2, d3, d4, d5] => { results := [.lit (.bool true)], args := [d1, d2, d3, d4, d5] }
  | _ => none }
def distStepRow : OpenClaim := { program := "ytlljpjbhndcaiaa", sum := "18fca53db0d01da4f02e0db972458d5307c581007a0d024ea4a2805f5d4cd340", func := "punchcut/punchcutlaw08.DistStep", spec := "distStep", unfollowed := true, recurses := true, apart := false }
def DistStepSaid : Prop := distStepRow.holds Try.pinned (OpenSpec.ofChange distStepSpec)

/-- ITS FALSE NEIGHBOUR: 'it returns false'. Refute it at one input. -/
def distStepWrong : ChangeSpec := { name := "distStep", fn := fun _ => fun
  | [d1, d2, d3, d4, d5] => { results := [.lit (.bool false)], args := [d1, d2, d3, d4, d5] }
  | _ => none }
def DistStepWrongFalsely : Prop := distStepRow.holds Try.pinned (OpenSpec.ofChange distStepWrong)

/-- 'punchcutlaw08.DistMore': WHATEVER THE INPUT: true; the input reads as it did. -/
def distMoreSpec : ChangeSpec := { name := "distMore", fn := fun _ => fun
  | [d1, d2, d3, d4] => { results := [.lit (.bool true)], args := [d1, d2, d3, d4] }
  | _ => none }
def distMoreRow : OpenClaim := { program := "ytlljpjbhndcaiaa", sum := "18fca53db0d01da4f02e0db972458d5307c581007a0d024ea4a2805f5d4cd340", func := "punchcut/punchcutlaw08.DistMore", spec := "distMore", unfollowed := true, recurses := true, apart := false }
def DistMoreSaid : Prop := distMoreRow.holds Try.pinned (OpenSpec.ofChange distMoreSpec)

/-- ITS FALSE NEIGHBOUR: 'it returns false'. Refute it at one input. -/
def distMoreWrong : ChangeSpec := { name := "distMore", fn := fun _ => fun
  | [d1, d2, d3, d4] => { results := [.lit (.bool false)], args := [d1, d2, d3, d4] }
  | _ => none }
def DistMoreWrongFalsely : Prop := distMoreRow.holds Try.pinned (OpenSpec.ofChange distMoreWrong)

/-- 'punchcutlaw13.SweepOne': WHATEVER THE INPUT: true; the input reads as it did. -/
def sweepOneSpec : ChangeSpec := { name := "sweepOne", fn := fun _ => fun
  | [d1, d2, d3] => { results := [.lit (.bool true)], args := [d1, d2, d3] }
  | _ => none }
def sweepOneRow : OpenClaim := { program := "ytlljpjbhndcaiaa", sum := "18fca53db0d01da4f02e0db972458d5307c581007a0d024ea4a2805f5d4cd340", func := "punchcut/punchcutlaw13.SweepOne", spec := "sweepOne", unfollowed := true, recurses := true, apart := false }
def SweepOneSaid : Prop := sweepOneRow.holds Try.pinned (OpenSpec.ofChange sweepOneSpec)

/-- ITS FALSE NEIGHBOUR: 'it returns false'. Refute it at one input. -/
def sweepOneWrong : ChangeSpec := { name := "sweepOne", fn := fun _ => fun
  | [d1, d2, d3] => { results := [.lit (.bool false)], args := [d1, d2, d3] }
  | _ => none }
def SweepOneWrongFalsely : Prop := sweepOneRow.holds Try.pinned (OpenSpec.ofChange sweepOneWrong)

/-- 'punchcutlaw10.SdfMake': WHATEVER THE INPUT: true; the input reads as it did. -/
def sdfMakeSpec : ChangeSpec := { name := "sdfMake", fn := fun _ => fun
  | [d1, d2] => { results := [.lit (.bool true)], args := [d1, d2] }
  | _ => none }
def sdfMakeRow : OpenClaim := { program := "ytlljpjbhndcaiaa", sum := "18fca53db0d01da4f02e0db972458d5307c581007a0d024ea4a2805f5d4cd340", func := "punchcut/punchcutlaw10.SdfMake", spec := "sdfMake", unfollowed := true, recurses := true, apart := false }
def SdfMakeSaid : Prop := sdfMakeRow.holds Try.pinned (OpenSpec.ofChange sdfMakeSpec)

/-- ITS FALSE NEIGHBOUR: 'it returns false'. Refute it at one input. -/
def sdfMakeWrong : ChangeSpec := { name := "sdfMake", fn := fun _ => fun
  | [d1, d2] => { results := [.lit (.bool false)], args := [d1, d2] }
  | _ => none }
def SdfMakeWrongFalsely : Prop := sdfMakeRow.holds Try.pinned (OpenSpec.ofChange sdfMakeWrong)

/-- 'punchcutlaw10.SdfTexel': WHATEVER THE INPUT: true; the input reads as it did. -/
def sdfTexelSpec : ChangeSpec := { name := "sdfTexel", fn := fun _ => fun
  | [d1, d2, d3, d4] => { results := [.lit (.bool true)], args := [d1, d2, d3, d4] }
  | _ => none }
def sdfTexelRow : OpenClaim := { program := "ytlljpjbhndcaiaa", sum := "18fca53db0d01da4f02e0db972458d5307c581007a0d024ea4a2805f5d4cd340", func := "punchcut/punchcutlaw10.SdfTexel", spec := "sdfTexel", unfollowed := true, recurses := true, apart := false }
def SdfTexelSaid : Prop := sdfTexelRow.holds Try.pinned (OpenSpec.ofChange sdfTexelSpec)

/-- ITS FALSE NEIGHBOUR: 'it returns false'. Refute it at one input. -/
def sdfTexelWrong : ChangeSpec := { name := "sdfTexel", fn := fun _ => fun
  | [d1, d2, d3, d4] => { results := [.lit (.bool false)], args := [d1, d2, d3, d4] }
  | _ => none }
def SdfTexelWrongFalsely : Prop := sdfTexelRow.holds Try.pinned (OpenSpec.ofChange sdfTexelWrong)

/-- 'punchcutlaw10.SdfWrong': WHATEVER THE INPUT: true; the input reads as it did. -/
def sdfWrongSpec : ChangeSpec := { name := "sdfWrong", fn := fun _ => fun
  | [d1, d2] => { results := [.lit (.bool true)], args := [d1, d2] }
  | _ => none }
def sdfWrongRow : OpenClaim := { program := "ytlljpjbhndcaiaa", sum := "18fca53db0d01da4f02e0db972458d5307c581007a0d024ea4a2805f5d4cd340", func := "punchcut/punchcutlaw10.SdfWrong", spec := "sdfWrong", unfollowed := true, recurses := true, apart := false }
def SdfWrongSaid : Prop := sdfWrongRow.holds Try.pinned (OpenSpec.ofChange sdfWrongSpec)

/-- ITS FALSE NEIGHBOUR: 'it returns false'. Refute it at one input. -/
def sdfWrongWrong : ChangeSpec := { name := "sdfWrong", fn := fun _ => fun
  | [d1, d2] => { results := [.lit (.bool false)], args := [d1, d2] }
  | _ => none }
def SdfWrongWrongFalsely : Prop := sdfWrongRow.holds Try.pinned (OpenSpec.ofChange sdfWrongWrong)

/-- 'punchcutlaw10.SdfMove': WHATEVER THE INPUT: true; the input reads as it did. -/
def sdfMoveSpec : ChangeSpec := { name := "sdfMove", fn := fun _ => fun
  | [d1, d2, d3, d4] => { results := [.lit (.bool true)], args := [d1, d2, d3, d4] }
  | _ => none }
def sdfMoveRow : OpenClaim := { program := "ytlljpjbhndcaiaa", sum := "18fca53db0d01da4f02e0db972458d5307c581007a0d024ea4a2805f5d4cd340", func := "punchcut/punchcutlaw10.SdfMove", spec := "sdfMove", unfollowed := true, recurses := true, apart := false }
def SdfMoveSaid : Prop := sdfMoveRow.holds Try.pinned (OpenSpec.ofChange sdfMoveSpec)

/-- ITS FALSE NEIGHBOUR: 'it returns false'. Refute it at one input. -/
def sdfMoveWrong : ChangeSpec := { name := "sdfMove", fn := fun _ => fun
  | [d1, d2, d3, d4] => { results := [.lit (.bool false)], args := [d1, d2, d3, d4] }
  | _ => none }
def SdfMoveWrongFalsely : Prop := sdfMoveRow.holds Try.pinned (OpenSpec.ofChange sdfMoveWrong)

/-- 'punchcutlaw10.SdfBack': WHATEVER THE INPUT: true; the input reads as it did. -/
def sdfBackSpec : ChangeSpec := { name := "sdfBack", fn := fun _ => fun
  | [d1, d2] => { results := [.lit (.bool true)], args := [d1, d2] }
  | _ => none }
def sdfBackRow : OpenClaim := { program := "ytlljpjbhndcaiaa", sum := "18fca53db0d01da4f02e0db972458d5307c581007a0d024ea4a2805f5d4cd340", func := "punchcut/punchcutlaw10.SdfBack", spec := "sdfBack", unfollowed := true, recurses := true, apart := false }
def SdfBackSaid : Prop := sdfBackRow.holds Try.pinned (OpenSpec.ofChange sdfBackSpec)

/-- ITS FALSE NEIGHBOUR: 'it returns false'. Refute it at one input. -/
def sdfBackWrong : ChangeSpec := { name := "sdfBack", fn := fun _ => fun
  | [d1, d2] => { results := [.lit (.bool false)], args := [d1, d2] }
  | _ => none }
def SdfBackWrongFalsely : Prop := sdfBackRow.holds Try.pinned (OpenSpec.ofChange sdfBackWrong)

/-- 'punchcutlaw10.SdfSign': WHATEVER THE INPUT: true; the input reads as it did. -/
def sdfSignSpec : ChangeSpec := { name := "sdfSign", fn := fun _ => fun
  | [d1, d2] => { results := [.lit (.bool true)], args := [d1, d2] }
  | _ => none }
def sdfSignRow : OpenClaim := { program := "ytlljpjbhndcaiaa", sum := "18fca53db0d01da4f02e0db972458d5307c581007a0d024ea4a2805f5d4cd340", func := "punchcut/punchcutlaw10.SdfSign", spec := "sdfSign", unfollowed := true, recurses := true, apart := false }
def SdfSignSaid : Prop := sdfSignRow.holds Try.pinned (OpenSpec.ofChange sdfSignSpec)

/-- ITS FALSE NEIGHBOUR: 'it returns false'. Refute it at one input. -/
def sdfSignWrong : ChangeSpec := { name := "sdfSign", fn := fun _ => fun
  | [d1, d2] => { results := [.lit (.bool false)], args := [d1, d2] }
  | _ => none }
def SdfSignWrongFalsely : Prop := sdfSignRow.holds Try.pinned (OpenSpec.ofChange sdfSignWrong)

/-- 'punchcutlaw10.SdfSmooth': WHATEVER THE INPUT: true; the input reads as it did. -/
def sdfSmoothSpec : ChangeSpec := { name := "sdfSmooth", fn := fun _ => fun
  | [d1, d2] => { results := [.lit (.bool true)], args := [d1, d2] }
  | _ => none }
def sdfSmoothRow : OpenClaim := { program := "ytlljpjbhndcaiaa", sum := "18fca53db0d01da4f02e0db972458d5307c581007a0d024ea4a2805f5d4cd340", func := "punchcut/punchcutlaw10.SdfSmooth", spec := "sdfSmooth", unfollowed := true, recurses := true, apart := false }
def SdfSmoothSaid : Prop := sdfSmoothRow.holds Try.pinned (OpenSpec.ofChange sdfSmoothSpec)

/-- ITS FALSE NEIGHBOUR: 'it returns false'. Refute it at one input. -/
def sdfSmoothWrong : ChangeSpec := { name := "sdfSmooth", fn := fun _ => fun
  | [d1, d2] => { results := [.lit (.bool false)], args := [d1, d2] }
  | _ => none }
def SdfSmoothWrongFalsely : Prop := sdfSmoothRow.holds Try.pinned (OpenSpec.ofChange sdfSmoothWrong)

/-- 'punchcutlaw12.MsdfMedian': WHATEVER THE INPUT: true; the input reads as it did. -/
def msdfMedianSpec : ChangeSpec := { name := "msdfMedian", fn := fun _ => fun
  | [d1, d2, d3] => { results := [.lit (.bool true)], args := [d1, d2, d3] }
  | _ => none }
def msdfMedianRow : OpenClaim := { program := "ytlljpjbhndcaiaa", sum := "18fca53db0d01da4f02e0db972458d5307c581007a0d024ea4a2805f5d4cd340", func := "punchcut/punchcutlaw12.MsdfMedian", spec := "msdfMedian", unfollowed := true, recurses := true, apart := false }
def MsdfMedianSaid : Prop := msdfMedianRow.holds Try.pinned (OpenSpec.ofChange msdfMedianSpec)

/-- ITS FALSE NEIGHBOUR: 'it returns false'. Refute it at one input. -/
def msdfMedianWrong : ChangeSpec := { name := "msdfMedian", fn := fun _ => fun
  | [d1, d2, d3] => { results := [.lit (.bool false)], args := [d1, d2, d3] }
  | _ => none }
def MsdfMedianWrongFalsely : Prop := msdfMedianRow.holds Try.pinned (OpenSpec.ofChange msdfMedianWrong)

/-- 'punchcutlaw12.MsdfMerge': WHATEVER THE INPUT: true; the input reads as it did. -/
def msdfMergeSpec : ChangeSpec := { name := "msdfMerge", fn := fun _ => fun
  | [d1, d2, d3, d4, d5, d6] => { results := [.lit (.bool true)], args := [d1, d2, d3, d4, d5, d6] }
  | _ => none }
def msdfMergeRow : OpenClaim := { program := "ytlljpjbhndcaiaa", sum := "18fca53db0d01da4f02e0db972458d5307c581007a0d024ea4a2805f5d4cd340", func := "punchcut/punchcutlaw12.MsdfMerge", spec := "msdfMerge", unfollowed := true, recurses := true, apart := false }
def MsdfMergeSaid : Prop := msdfMergeRow.holds Try.pinned (OpenSpec.ofChange msdfMergeSpec)

/-- ITS FALSE NEIGHBOUR: 'it returns false'. Refute it at one input. -/
def msdfMergeWrong : ChangeSpec := { name := "msdfMerge", fn := fun _ => fun
  | [d1, d2, d3, d4, d5, d6] => { results := [.lit (.bool false)], args := [d1, d2, d3, d4, d5, d6] }
  | _ => none }
def MsdfMergeWrongFalsely : Prop := msdfMergeRow.holds Try.pinned (OpenSpec.ofChange msdfMergeWrong)

/-- 'punchcutlaw13.SweepKnown': WHATEVER THE INPUT: true; the input reads as it did. -/
def sweepKnownSpec : ChangeSpec := { name := "sweepKnown", fn := fun _ => fun
  | [d1, d2] => { results := [.lit (.bool true)], args := [d1, d2] }
  | _ => none }
def sweepKnownRow : OpenClaim := { program := "ytlljpjbhndcaiaa", sum := "18fca53db0d01da4f02e0db972458d5307c581007a0d024ea4a2805f5d4cd340", func := "punchcut/punchcutlaw13.SweepKnown", spec := "sweepKnown", unfollowed := true, recurses := true, apart := false }
def SweepKnownSaid : Prop := sweepKnownRow.holds Try.pinned (OpenSpec.ofChange sweepKnownSpec)

/-- ITS FALSE NEIGHBOUR: 'it returns false'. Refute it at one input. -/
def sweepKnownWrong : ChangeSpec := { name := "sweepKnown", fn := fun _ => fun
  | [d1, d2] => { results := [.lit (.bool false)], args := [d1, d2] }
  | _ => none }
def SweepKnownWrongFalsely : Prop := sweepKnownRow.holds Try.pinned (OpenSpec.ofChange sweepKnownWrong)

/-- 'punchcutlaw13.SweepMake': WHATEVER THE INPUT: true; the input reads as it did. -/
def sweepMakeSpec : ChangeSpec := { name := "sweepMake", fn := fun _ => fun
  | [d1, d2, d3] => { results := [.lit (.bool true)], args := [d1, d2, d3] }
  | _ => none }
def sweepMakeRow : OpenClaim := { program := "ytlljpjbhndcaiaa", sum := "18fca53db0d01da4f02e0db972458d5307c581007a0d024ea4a2805f5d4cd340", func := "punchcut/punchcutlaw13.SweepMake", spec := "sweepMake", unfollowed := true, recurses := true, apart := false }
def SweepMakeSaid : Prop := sweepMakeRow.holds Try.pinned (OpenSpec.ofChange sweepMakeSpec)

/-- ITS FALSE NEIGHBOUR: 'it returns false'. Refute it at one input. -/
def sweepMakeWrong : ChangeSpec := { name := "sweepMake", fn := fun _ => fun
  | [d1, d2, d3] => { results := [.lit (.bool false)], args := [d1, d2, d3] }
  | _ => none }
def SweepMakeWrongFalsely : Prop := sweepMakeRow.holds Try.pinned (OpenSpec.ofChange sweepMakeWrong)

/- THE SECOND FORM. 'bulk': how many values and letters a reading holds, each counted each time it is reached (what is shared counts as often as it is met; a slice's spare places count too). A statement '..UptoSaid' is the law's where the arguments, and the package variables that the reading takes, are together of bulk at most 1048576: NARROWER than '..Said'. Prove '..Said' where nothing that the law and all that it calls make is longer than what came in: it says more and counts as full. Else prove '..UptoSaid'. A law counts once. -/
mutual
def uptoBulk {H : Type} : DataW H → Nat
  | .lit (.string bytes) => bytes.length + 1
  | .lit _ => 1
  | .nil => 1
  | .ptr d => uptoBulk d + 1
  | .slice elems spare => uptoBulkAll elems + uptoBulkAll spare + 1
  | .agg parts => uptoBulkAll parts + 1
  | .iface _ d => uptoBulk d + 1
  | .map entries => uptoBulkEntries entries + 1
  | .held _ => 1
def uptoBulkAll {H : Type} : List (DataW H) → Nat
  | [] => 0
  | d :: r => uptoBulk d + uptoBulkAll r
def uptoBulkEntries {H : Type} : List (Lit × DataW H) → Nat
  | [] => 0
  | x :: r => uptoBulkEntry x + uptoBulkEntries r
def uptoBulkEntry {H : Type} : Lit × DataW H → Nat
  | (.string bytes, d) => bytes.length + uptoBulk d + 1
  | (_, d) => uptoBulk d + 1
 end
def uptoSmall : (H : Type) → List (DataW H) → Bool := fun _ ds => decide (uptoBulkAll ds ≤ 1048576)
def OpenSpec.upto (s : _root_.Go.ChangeSpec) : _root_.Go.OpenSpec := { _root_.Go.OpenSpec.ofChange s with cond := some uptoSmall }

/-- 'punchcutlaw08.DistSome', WHERE WHAT IT READS IS OF BULK AT MOST 1048576: true; the input reads as it did. -/
def distSomeUptoRow : OpenClaim := { program := "ytlljpjbhndcaiaa", sum := "18fca53db0d01da4f02e0db972458d5307c581007a0d024ea4a2805f5d4cd340", func := "punchcut/punchcutlaw08.DistSome", spec := "distSome", unfollowed := true, recurses := true, apart := false, narrowed := true }
def DistSomeUptoSaid : Prop := distSomeUptoRow.holds Try.pinned (OpenSpec.upto distSomeSpec)

/-- 'punchcutlaw08.DistStep', WHERE WHAT IT READS IS OF BULK AT MOST 1048576: true; the input reads as it did. -/
def distStepUptoRow : OpenClaim := { program := "ytlljpjbhndcaiaa", sum := "18fca53db0d01da4f02e0db972458d5307c581007a0d024ea4a2805f5d4cd340", func := "punchcut/punchcutlaw08.DistStep", spec := "distStep", unfollowed := true, recurses := true, apart := false, narrowed := true }
def DistStepUptoSaid : Prop := distStepUptoRow.holds Try.pinned (OpenSpec.upto distStepSpec)

/-- 'punchcutlaw08.DistMore', WHERE WHAT IT READS IS OF BULK AT MOST 1048576: true; the input reads as it did. -/
def distMoreUptoRow : OpenClaim := { program := "ytlljpjbhndcaiaa", sum := "18fca53db0d01da4f02e0db972458d5307c581007a0d024ea4a2805f5d4cd340", func := "punchcut/punchcutlaw08.DistMore", spec := "distMore", unfollowed := true, recurses := true, apart := false, narrowed := true }
def DistMoreUptoSaid : Prop := distMoreUptoRow.holds Try.pinned (OpenSpec.upto distMoreSpec)

/-- 'punchcutlaw13.SweepOne', WHERE WHAT IT READS IS OF BULK AT MOST 1048576: true; the input reads as it did. -/
def sweepOneUptoRow : OpenClaim := { program := "ytlljpjbhndcaiaa", sum := "18fca53db0d01da4f02e0db972458d5307c581007a0d024ea4a2805f5d4cd340", func := "punchcut/punchcutlaw13.SweepOne", spec := "sweepOne", unfollowed := true, recurses := true, apart := false, narrowed := true }
def SweepOneUptoSaid : Prop := sweepOneUptoRow.holds Try.pinned (OpenSpec.upto sweepOneSpec)

/-- 'punchcutlaw10.SdfMake', WHERE WHAT IT READS IS OF BULK AT MOST 1048576: true; the input reads as it did. -/
def sdfMakeUptoRow : OpenClaim := { program := "ytlljpjbhndcaiaa", sum := "18fca53db0d01da4f02e0db972458d5307c581007a0d024ea4a2805f5d4cd340", func := "punchcut/punchcutlaw10.SdfMake", spec := "sdfMake", unfollowed := true, recurses := true, apart := false, narrowed := true }
def SdfMakeUptoSaid : Prop := sdfMakeUptoRow.holds Try.pinned (OpenSpec.upto sdfMakeSpec)

/-- 'punchcutlaw10.SdfTexel', WHERE WHAT IT READS IS OF BULK AT MOST 1048576: true; the input reads as it did. -/
def sdfTexelUptoRow : OpenClaim := { program := "ytlljpjbhndcaiaa", sum := "18fca53db0d01da4f02e0db972458d5307c581007a0d024ea4a2805f5d4cd340", func := "punchcut/punchcutlaw10.SdfTexel", spec := "sdfTexel", unfollowed := true, recurses := true, apart := false, narrowed := true }
def SdfTexelUptoSaid : Prop := sdfTexelUptoRow.holds Try.pinned (OpenSpec.upto sdfTexelSpec)

/-- 'punchcutlaw10.SdfWrong', WHERE WHAT IT READS IS OF BULK AT MOST 1048576: true; the input reads as it did. -/
def sdfWrongUptoRow : OpenClaim := { program := "ytlljpjbhndcaiaa", sum := "18fca53db0d01da4f02e0db972458d5307c581007a0d024ea4a2805f5d4cd340", func := "punchcut/punchcutlaw10.SdfWrong", spec := "sdfWrong", unfollowed := true, recurses := true, apart := false, narrowed := true }
def SdfWrongUptoSaid : Prop := sdfWrongUptoRow.holds Try.pinned (OpenSpec.upto sdfWrongSpec)

/-- 'punchcutlaw10.SdfMove', WHERE WHAT IT READS IS OF BULK AT MOST 1048576: true; the input reads as it did. -/
def sdfMoveUptoRow : OpenClaim := { program := "ytlljpjbhndcaiaa", sum := "18fca53db0d01da4f02e0db972458d5307c581007a0d024ea4a2805f5d4cd340", func := "punchcut/punchcutlaw10.SdfMove", spec := "sdfMove", unfollowed := true, recurses := true, apart := false, narrowed := true }
def SdfMoveUptoSaid : Prop := sdfMoveUptoRow.holds Try.pinned (OpenSpec.upto sdfMoveSpec)

/-- 'punchcutlaw10.SdfBack', WHERE WHAT IT READS IS OF BULK AT MOST 1048576: true; the input reads as it did. -/
def sdfBackUptoRow : OpenClaim := { program := "ytlljpjbhndcaiaa", sum := "18fca53db0d01da4f02e0db972458d5307c581007a0d024ea4a2805f5d4cd340", func := "punchcut/punchcutlaw10.SdfBack", spec := "sdfBack", unfollowed := true, recurses := true, apart := false, narrowed := true }
def SdfBackUptoSaid : Prop := sdfBackUptoRow.holds Try.pinned (OpenSpec.upto sdfBackSpec)

/-- 'punchcutlaw10.SdfSign', WHERE WHAT IT READS IS OF BULK AT MOST 1048576: true; the input reads as it did. -/
def sdfSignUptoRow : OpenClaim := { program := "ytlljpjbhndcaiaa", sum := "18fca53db0d01da4f02e0db972458d5307c581007a0d024ea4a2805f5d4cd340", func := "punchcut/punchcutlaw10.SdfSign", spec := "sdfSign", unfollowed := true, recurses := true, apart := false, narrowed := true }
def SdfSignUptoSaid : Prop := sdfSignUptoRow.holds Try.pinned (OpenSpec.upto sdfSignSpec)

/-- 'punchcutlaw10.SdfSmooth', WHERE WHAT IT READS IS OF BULK AT MOST 1048576: true; the input reads as it did. -/
def sdfSmoothUptoRow : OpenClaim := { program := "ytlljpjbhndcaiaa", sum := "18fca53db0d01da4f02e0db972458d5307c581007a0d024ea4a2805f5d4cd340", func := "punchcut/punchcutlaw10.SdfSmooth", spec := "sdfSmooth", unfollowed := true, recurses := true, apart := false, narrowed := true }
def SdfSmoothUptoSaid : Prop := sdfSmoothUptoRow.holds Try.pinned (OpenSpec.upto sdfSmoothSpec)

/-- 'punchcutlaw12.MsdfMedian', WHERE WHAT IT READS IS OF BULK AT MOST 1048576: true; the input reads as it did. -/
def msdfMedianUptoRow : OpenClaim := { program := "ytlljpjbhndcaiaa", sum := "18fca53db0d01da4f02e0db972458d5307c581007a0d024ea4a2805f5d4cd340", func := "punchcut/punchcutlaw12.MsdfMedian", spec := "msdfMedian", unfollowed := true, recurses := true, apart := false, narrowed := true }
def MsdfMedianUptoSaid : Prop := msdfMedianUptoRow.holds Try.pinned (OpenSpec.upto msdfMedianSpec)

/-- 'punchcutlaw12.MsdfMerge', WHERE WHAT IT READS IS OF BULK AT MOST 1048576: true; the input reads as it did. -/
def msdfMergeUptoRow : OpenClaim := { program := "ytlljpjbhndcaiaa", sum := "18fca53db0d01da4f02e0db972458d5307c581007a0d024ea4a2805f5d4cd340", func := "punchcut/punchcutlaw12.MsdfMerge", spec := "msdfMerge", unfollowed := true, recurses := true, apart := false, narrowed := true }
def MsdfMergeUptoSaid : Prop := msdfMergeUptoRow.holds Try.pinned (OpenSpec.upto msdfMergeSpec)

/-- 'punchcutlaw13.SweepKnown', WHERE WHAT IT READS IS OF BULK AT MOST 1048576: true; the input reads as it did. -/
def sweepKnownUptoRow : OpenClaim := { program := "ytlljpjbhndcaiaa", sum := "18fca53db0d01da4f02e0db972458d5307c581007a0d024ea4a2805f5d4cd340", func := "punchcut/punchcutlaw13.SweepKnown", spec := "sweepKnown", unfollowed := true, recurses := true, apart := false, narrowed := true }
def SweepKnownUptoSaid : Prop := sweepKnownUptoRow.holds Try.pinned (OpenSpec.upto sweepKnownSpec)

/-- 'punchcutlaw13.SweepMake', WHERE WHAT IT READS IS OF BULK AT MOST 1048576: true; the input reads as it did. -/
def sweepMakeUptoRow : OpenClaim := { program := "ytlljpjbhndcaiaa", sum := "18fca53db0d01da4f02e0db972458d5307c581007a0d024ea4a2805f5d4cd340", func := "punchcut/punchcutlaw13.SweepMake", spec := "sweepMake", unfollowed := true, recurses := true, apart := false, narrowed := true }
def SweepMakeUptoSaid : Prop := sweepMakeUptoRow.holds Try.pinned (OpenSpec.upto sweepMakeSpec)

end Rows
end Go.Proofs.Ytlljpjbhndcaiaa
