/-
  No cell of these rows narrows 'for every input' (looked for: loops, veiled, ifaces, maps, wideKeys, modest, calm, conditions, laid).
  DERIVED. THE GIVEN ROWS OF THIS SEAT. 6 by the template 'for every input the law returns true; each argument reads behind the call as it read before'; 0 by the template 'total and deterministic' (their statements: YtalfaopffbkdnaaGreatTotals.lean).
  GIVEN WITH THE SEED: the statements are not yours to turn. If you find one false, say at which input.
  Laid BY PROGRAM, IN A SANDBOX (cutbox-rows.mjs): the forced cells as the released guide's own fill.sh prints them over the translation 66baa56d699847df… (all of the seat's roots in one cut). By AI agents, Wed Nov 11 2026. No macro, syntax, notation, axiom, sorry.
-/
import Derived.Test.YtalfaopffbkdnaaGreatChecked
import GoSem.Claim
import GoSem.ClaimJoined
import GoSem.ClaimMapViews
import Derived.JoinedTies
import Derived.KernelRfl
namespace Go.Proofs.YtalfaopffbkdnaaGreat
/- THE CELL 'sum', in the pinned program and in every row, IS THE sha256 OF THE DUMP (.gsa) THAT YtalfaopffbkdnaaGreatProg.lean LOADS. Nothing in Lean hashes anything: it is a label: what it is worth is what the hold of that sum in a sandbox is worth. -/
noncomputable def Tryz.pinned : Pinned := { name := "ytalfaopffbkdnaagreat", sum := "66baa56d699847df186012254a93190213ab96a0ceae0fec4170a42939ac1c82", checked := Tryz.checked }
namespace Rows
def none {H : Type} : Left H := { results := [], args := [] }

/-- 'purselaw19.ShardFull': WHATEVER THE INPUT: true; the input reads as it did. -/
def shardFullSpec : ChangeSpec := { name := "shardFull", fn := fun _ => fun
  | [d1, d2] => { results := [.lit (.bool true)], args := [d1, d2] }
  | _ => none }
def shardFullRow : OpenClaim := { program := "ytalfaopffbkdnaagreat", sum := "66baa56d699847df186012254a93190213ab96a0ceae0fec4170a42939ac1c82", func := "purse/purselaw19.ShardFull", spec := "shardFull", inPlace := ["math/bits.Add64", "slices.overlaps[purse/api.Mark]", "internal/bytealg.abigen_runtime_cmpstring", "slices.overlaps[purse/api.Account]", "slices.overlaps[purse/api.End]", "slices.overlaps[purse/api.Holder]"], unfollowed := true, recurses := true, apart := false }
def ShardFullSaid : Prop := shardFullRow.holds Tryz.pinned (OpenSpec.ofChange shardFullSpec)

/-- ITS FALSE NEIGHBOUR: 'it returns false'. Refute it at one input. -/
def shardFullWrong : ChangeSpec := { name := "shardFull", fn := fun _ => fun
  | [d1, d2] => { results := [.lit (.bool false)], args := [d1, d2] }
  | _ => none }
def ShardFullWrongFalsely : Prop := shardFullRow.holds Tryz.pinned (OpenSpec.ofChange shardFullWrong)

/-- 'purselaw19.ShardStays': WHATEVER THE INPUT: true; the input reads as it did. -/
def shardStaysSpec : ChangeSpec := { name := "shardStays", fn := fun _ => fun
  | [d1, d2, d3] => { results := [.lit (.bool true)], args := [d1, d2, d3] }
  | _ => none }
def shardStaysRow : OpenClaim := { program := "ytalfaopffbkdnaagreat", sum := "66baa56d699847df186012254a93190213ab96a0ceae0fec4170a42939ac1c82", func := "purse/purselaw19.ShardStays", spec := "shardStays", inPlace := ["math/bits.Add64", "slices.overlaps[purse/api.Mark]", "internal/bytealg.abigen_runtime_cmpstring", "slices.overlaps[purse/api.Account]", "slices.overlaps[purse/api.End]", "slices.overlaps[purse/api.Holder]"], unfollowed := true, recurses := true, apart := false }
def ShardStaysSaid : Prop := shardStaysRow.holds Tryz.pinned (OpenSpec.ofChange shardStaysSpec)

/-- ITS FALSE NEIGHBOUR: 'it returns false'. Refute it at one input. -/
def shardStaysWrong : ChangeSpec := { name := "shardStays", fn := fun _ => fun
  | [d1, d2, d3] => { results := [.lit (.bool false)], args := [d1, d2, d3] }
  | _ => none }
def ShardStaysWrongFalsely : Prop := shardStaysRow.holds Tryz.pinned (OpenSpec.ofChange shardStaysWrong)

/-- 'purselaw19.ShardOnce': WHATEVER THE INPUT: true; the input reads as it did. -/
def shardOnceSpec : ChangeSpec := { name := "shardOnce", fn := fun _ => fun
  | [d1, d2, d3] => { results := [.lit (.bool true)], args := [d1, d2, d3] }
  | _ => none }
def shardOnceRow : OpenClaim := { program := "ytalfaopffbkdnaagreat", sum := "66baa56d699847df186012254a93190213ab96a0ceae0fec4170a42939ac1c82", func := "purse/purselaw19.ShardOnce", spec := "shardOnce", inPlace := ["math/bits.Add64", "slices.overlaps[purse/api.Mark]", "internal/bytealg.abigen_runtime_cmpstring", "slices.overlaps[purse/api.Account]", "slices.overlaps[purse/api.End]", "slices.overlaps[purse/api.Holder]"], unfollowed := true, recurses := true, apart := false }
def ShardOnceSaid : Prop := shardOnceRow.holds Tryz.pinned (OpenSpec.ofChange shardOnceSpec)

/-- ITS FALSE NEIGHBOUR: 'it returns false'. Refute it at one input. -/
def shardOnceWrong : ChangeSpec := { name := "shardOnce", fn := fun _ => fun
  | [d1, d2, d3] => { results := [.lit (.bool false)], args := [d1, d2, d3] }
  | _ => none }
def ShardOnceWrongFalsely : Prop := shardOnceRow.holds Tryz.pinned (OpenSpec.ofChange shardOnceWrong)

/-- 'purselaw19.ShardQuiet': WHATEVER THE INPUT: true; the input reads as it did. -/
def shardQuietSpec : ChangeSpec := { name := "shardQuiet", fn := fun _ => fun
  | [d1, d2, d3] => { results := [.lit (.bool true)], args := [d1, d2, d3] }
  | _ => none }
def shardQuietRow : OpenClaim := { program := "ytalfaopffbkdnaagreat", sum := "66baa56d699847df186012254a93190213ab96a0ceae0fec4170a42939ac1c82", func := "purse/purselaw19.ShardQuiet", spec := "shardQuiet", inPlace := ["math/bits.Add64", "slices.overlaps[purse/api.Mark]", "internal/bytealg.abigen_runtime_cmpstring", "slices.overlaps[purse/api.Account]", "slices.overlaps[purse/api.End]", "slices.overlaps[purse/api.Holder]"], unfollowed := true, recurses := true, apart := false }
def ShardQuietSaid : Prop := shardQuietRow.holds Tryz.pinned (OpenSpec.ofChange shardQuietSpec)

/-- ITS FALSE NEIGHBOUR: 'it returns false'. Refute it at one input. -/
def shardQuietWrong : ChangeSpec := { name := "shardQuiet", fn := fun _ => fun
  | [d1, d2, d3] => { results := [.lit (.bool false)], args := [d1, d2, d3] }
  | _ => none }
def ShardQuietWrongFalsely : Prop := shardQuietRow.holds Tryz.pinned (OpenSpec.ofChange shardQuietWrong)

/-- 'purselaw19.ShardSame': WHATEVER THE INPUT: true; the input reads as it did. -/
def shardSameSpec : ChangeSpec := { name := "shardSame", fn := fun _ => fun
  | [d1, d2, d3] => { results := [.lit (.bool true)], args := [d1, d2, d3] }
  | _ => none }
def shardSameRow : OpenClaim := { program := "ytalfaopffbkdnaagreat", sum := "66baa56d699847df186012254a93190213ab96a0ceae0fec4170a42939ac1c82", func := "purse/purselaw19.ShardSame", spec := "shardSame", inPlace := ["math/bits.Add64", "slices.overlaps[purse/api.Mark]", "internal/bytealg.abigen_runtime_cmpstring", "slices.overlaps[purse/api.Account]", "slices.overlaps[purse/api.End]", "slices.overlaps[purse/api.Holder]"], unfollowed := true, recurses := true, apart := false }
def ShardSameSaid : Prop := shardSameRow.holds Tryz.pinned (OpenSpec.ofChange shardSameSpec)

/-- ITS FALSE NEIGHBOUR: 'it returns false'. Refute it at one input. -/
def shardSameWrong : ChangeSpec := { name := "shardSame", fn := fun _ => fun
  | [d1, d2, d3] => { results := [.lit (.bool false)], args := [d1, d2, d3] }
  | _ => none }
def ShardSameWrongFalsely : Prop := shardSameRow.holds Tryz.pinned (OpenSpec.ofChange shardSameWrong)

/-- 'purselaw19.ShardLine': WHATEVER THE INPUT: true; the input reads as it did. -/
def shardLineSpec : ChangeSpec := { name := "shardLine", fn := fun _ => fun
  | [d1, d2] => { results := [.lit (.bool true)], args := [d1, d2] }
  | _ => none }
def shardLineRow : OpenClaim := { program := "ytalfaopffbkdnaagreat", sum := "66baa56d699847df186012254a93190213ab96a0ceae0fec4170a42939ac1c82", func := "purse/purselaw19.ShardLine", spec := "shardLine", inPlace := ["math/bits.Add64", "slices.overlaps[purse/api.Mark]", "internal/bytealg.abigen_runtime_cmpstring", "slices.overlaps[purse/api.Account]", "slices.overlaps[purse/api.End]", "slices.overlaps[purse/api.Holder]"], unfollowed := true, recurses := true, apart := false }
def ShardLineSaid : Prop := shardLineRow.holds Tryz.pinned (OpenSpec.ofChange shardLineSpec)

/-- ITS FALSE NEIGHBOUR: 'it returns false'. Refute it at one input. -/
def shardLineWrong : ChangeSpec := { name := "shardLine", fn := fun _ => fun
  | [d1, d2] => { results := [.lit (.bool false)], args := [d1, d2] }
  | _ => none }
def ShardLineWrongFalsely : Prop := shardLineRow.holds Tryz.pinned (OpenSpec.ofChange shardLineWrong)

/- THE SECOND FORM. 'bulk': how many values and letters a reading holds, each counted each time it is reached (what is shared counts as often as it is met; a slice's spare places count too). A statement '..UptoSaid' is the law's where the arguments, and the package variables that the reading takes, are together of bulk at most 1048576: NARROWER than '..Said'. Prove '..Said' where nothing that the law and all that it calls make is longer than what came in: it says more and counts as full. Else prove '..UptoSaid'. A law counts once. -/
mutual
def uptoBulk {H : Type} : DataW H → Nat
  | .lit (.string bytes) => bytes.length + 1
  | .lit _ => 1
  | .nil => 1
  | .ptr d => uptoBulk d + 1
  | .slice elems spare => uptoBulkAll elems + uptoBulkAll spare + 1
  | .agg parts => uptoBulkAll parts + 1
  | .iface _ d => uptoBulk d + 1
  | .map entries => uptoBulkEntries entries + 1
  | .held _ => 1
def uptoBulkAll {H : Type} : List (DataW H) → Nat
  | [] => 0
  | d :: r => uptoBulk d + uptoBulkAll r
def uptoBulkEntries {H : Type} : List (Lit × DataW H) → Nat
  | [] => 0
  | x :: r => uptoBulkEntry x + uptoBulkEntries r
def uptoBulkEntry {H : Type} : Lit × DataW H → Nat
  | (.string bytes, d) => bytes.length + uptoBulk d + 1
  | (_, d) => uptoBulk d + 1
 end
def uptoSmall : (H : Type) → List (DataW H) → Bool := fun _ ds => decide (uptoBulkAll ds ≤ 1048576)
def OpenSpec.upto (s : _root_.Go.ChangeSpec) : _root_.Go.OpenSpec := { _root_.Go.OpenSpec.ofChange s with cond := some uptoSmall }

/-- 'purselaw19.ShardFull', WHERE WHAT IT READS IS OF BULK AT MOST 1048576: true; the input reads as it did. -/
def shardFullUptoRow : OpenClaim := { program := "ytalfaopffbkdnaagreat", sum := "66baa56d699847df186012254a93190213ab96a0ceae0fec4170a42939ac1c82", func := "purse/purselaw19.ShardFull", spec := "shardFull", inPlace := ["math/bits.Add64", "slices.overlaps[purse/api.Mark]", "internal/bytealg.abigen_runtime_cmpstring", "slices.overlaps[purse/api.Account]", "slices.overlaps[purse/api.End]", "slices.overlaps[purse/api.Holder]"], unfollowed := true, recurses := true, apart := false, narrowed := true }
def ShardFullUptoSaid : Prop := shardFullUptoRow.holds Tryz.pinned (OpenSpec.upto shardFullSpec)

/-- 'purselaw19.ShardStays', WHERE WHAT IT READS IS OF BULK AT MOST 1048576: true; the input reads as it did. -/
def shardStaysUptoRow : OpenClaim := { program := "ytalfaopffbkdnaagreat", sum := "66baa56d699847df186012254a93190213ab96a0ceae0fec4170a42939ac1c82", func := "purse/purselaw19.ShardStays", spec := "shardStays", inPlace := ["math/bits.Add64", "slices.overlaps[purse/api.Mark]", "internal/bytealg.abigen_runtime_cmpstring", "slices.overlaps[purse/api.Account]", "slices.overlaps[purse/api.End]", "slices.overlaps[purse/api.Holder]"], unfollowed := true, recurses := true, apart := false, narrowed := true }
def ShardStaysUptoSaid : Prop := shardStaysUptoRow.holds Tryz.pinned (OpenSpec.upto shardStaysSpec)

/-- 'purselaw19.ShardOnce', WHERE WHAT IT READS IS OF BULK AT MOST 1048576: true; the input reads as it did. -/
def shardOnceUptoRow : OpenClaim := { program := "ytalfaopffbkdnaagreat", sum := "66baa56d699847df186012254a93190213ab96a0ceae0fec4170a42939ac1c82", func := "purse/purselaw19.ShardOnce", spec := "shardOnce", inPlace := ["math/bits.Add64", "slices.overlaps[purse/api.Mark]", "internal/bytealg.abigen_runtime_cmpstring", "slices.overlaps[purse/api.Account]", "slices.overlaps[purse/api.End]", "slices.overlaps[purse/api.Holder]"], unfollowed := true, recurses := true, apart := false, narrowed := true }
def ShardOnceUptoSaid : Prop := shardOnceUptoRow.holds Tryz.pinned (OpenSpec.upto shardOnceSpec)

/-- 'purselaw19.ShardQuiet', WHERE WHAT IT READS IS OF BULK AT MOST 1048576: true; the input reads as it did. -/
def shardQuietUptoRow : OpenClaim := { program := "ytalfaopffbkdnaagreat", sum := "66baa56d699847df186012254a93190213ab96a0ceae0fec4170a42939ac1c82", func := "purse/purselaw19.ShardQuiet", spec := "shardQuiet", inPlace := ["math/bits.Add64", "slices.overlaps[purse/api.Mark]", "internal/bytealg.abigen_runtime_cmpstring", "slices.overlaps[purse/api.Account]", "slices.overlaps[purse/api.End]", "slices.overlaps[purse/api.Holder]"], unfollowed := true, recurses := true, apart := false, narrowed := true }
def ShardQuietUptoSaid : Prop := shardQuietUptoRow.holds Tryz.pinned (OpenSpec.upto shardQuietSpec)

/-- 'purselaw19.ShardSame', WHERE WHAT IT READS IS OF BULK AT MOST 1048576: true; the input reads as it did. -/
def shardSameUptoRow : OpenClaim := { program := "ytalfaopffbkdnaagreat", sum := "66baa56d699847df186012254a93190213ab96a0ceae0fec4170a42939ac1c82", func := "purse/purselaw19.ShardSame", spec := "shardSame", inPlace := ["math/bits.Add64", "slices.overlaps[purse/api.Mark]", "internal/bytealg.abigen_runtime_cmpstring", "slices.overlaps[purse/api.Account]", "slices.overlaps[purse/api.End]", "slices.overlaps[purse/api.Holder]"], unfollowed := true, recurses := true, apart := false, narrowed := true }
def ShardSameUptoSaid : Prop := shardSameUptoRow.holds Tryz.pinned (OpenSpec.upto shardSameSpec)

/-- 'purselaw19.ShardLine', WHERE WHAT IT READS IS OF BULK AT MOST 1048576: true; the input reads as it did. -/
def shardLineUptoRow : OpenClaim := { program := "ytalfaopffbkdnaagreat", sum := "66baa56d699847df186012254a93190213ab96a0ceae0fec4170a42939ac1c82", func := "purse/purselaw19.ShardLine", spec := "shardLine", inPlace := ["math/bits.Add64", "slices.overlaps[purse/api.Mark]", "internal/bytealg.abigen_runtime_cmpstring", "slices.overlaps[purse/api.Account]", "slices.overlaps[purse/api.End]", "slices.overlaps[purse/api.Holder]"], unfollowed := true, recurses := true, apart := false, narrowed := true }
def ShardLineUptoSaid : Prop := shardLineUptoRow.holds Tryz.pinned (OpenSpec.upto shardLineSpec)

end Rows
end Go.Proofs.YtalfaopffbkdnaaGreat
