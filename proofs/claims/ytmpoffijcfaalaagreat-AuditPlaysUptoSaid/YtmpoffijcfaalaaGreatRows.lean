/-
  No cell of these rows narrows 'for every input' (looked for: loops, veiled, ifaces, maps, wideKeys, modest, calm, conditions, laid).
  DERIVED. THE GIVEN ROWS OF THIS SEAT. 5 by the template 'for every input the law returns true; each argument reads behind the call as it read before'; 0 by the template 'total and deterministic' (their statements: YtmpoffijcfaalaaGreatTotals.lean).
  GIVEN WITH THE SEED: the statements are not yours to turn. If you find one false, say at which input.
  Laid BY PROGRAM, IN A SANDBOX (cutbox-rows.mjs): the forced cells as the released guide's own fill.sh prints them over the translation 365234f596728f37… (all of the seat's roots in one cut). By AI agents, Wed Nov 11 2026. No macro, syntax, notation, axiom, sorry.
-/
import Derived.Test.YtmpoffijcfaalaaGreatChecked
import GoSem.Claim
import GoSem.ClaimJoined
import GoSem.ClaimMapViews
import Derived.JoinedTies
import Derived.KernelRfl
namespace Go.Proofs.YtmpoffijcfaalaaGreat
/- THE CELL 'sum', in the pinned program and in every row, IS THE sha256 OF THE DUMP (.gsa) THAT YtmpoffijcfaalaaGreatProg.lean LOADS. Nothing in Lean hashes anything: it is a label: what it is worth is what the hold of that sum in a sandbox is worth. -/
noncomputable def Tryz.pinned : Pinned := { name := "ytmpoffijcfaalaagreat", sum := "365234f596728f37a7fcfb09bf6aa69963d6a34d1262d44e2aa546ad66cf27b4", checked := Tryz.checked }
namespace Rows
def none {H : Type} : Left H := { results := [], args := [] }

/-- 'purselaw22.DutyRoutes': WHATEVER THE INPUT: true; the input reads as it did. -/
def dutyRoutesSpec : ChangeSpec := { name := "dutyRoutes", fn := fun _ => fun
  | [d1, d2, d3, d4] => { results := [.lit (.bool true)], args := [d1, d2, d3, d4] }
  | _ => none }
def dutyRoutesRow : OpenClaim := { program := "ytmpoffijcfaalaagreat", sum := "365234f596728f37a7fcfb09bf6aa69963d6a34d1262d44e2aa546ad66cf27b4", func := "purse/purselaw22.DutyRoutes", spec := "dutyRoutes", inPlace := ["math/bits.Add64", "internal/bytealg.abigen_runtime_cmpstring"], unfollowed := true, recurses := true, apart := false }
def DutyRoutesSaid : Prop := dutyRoutesRow.holds Tryz.pinned (OpenSpec.ofChange dutyRoutesSpec)

/-- ITS FALSE NEIGHBOUR: 'it returns false'. Refute it at one input. -/
def dutyRoutesWrong : ChangeSpec := { name := "dutyRoutes", fn := fun _ => fun
  | [d1, d2, d3, d4] => { results := [.lit (.bool false)], args := [d1, d2, d3, d4] }
  | _ => none }
def DutyRoutesWrongFalsely : Prop := dutyRoutesRow.holds Tryz.pinned (OpenSpec.ofChange dutyRoutesWrong)

/-- 'purselaw22.DutyPlays': WHATEVER THE INPUT: true; the input reads as it did. -/
def dutyPlaysSpec : ChangeSpec := { name := "dutyPlays", fn := fun _ => fun
  | [d1, d2] => { results := [.lit (.bool true)], args := [d1, d2] }
  | _ => none }
def dutyPlaysRow : OpenClaim := { program := "ytmpoffijcfaalaagreat", sum := "365234f596728f37a7fcfb09bf6aa69963d6a34d1262d44e2aa546ad66cf27b4", func := "purse/purselaw22.DutyPlays", spec := "dutyPlays", inPlace := ["math/bits.Add64", "internal/bytealg.abigen_runtime_cmpstring"], unfollowed := true, recurses := true, apart := false }
def DutyPlaysSaid : Prop := dutyPlaysRow.holds Tryz.pinned (OpenSpec.ofChange dutyPlaysSpec)

/-- ITS FALSE NEIGHBOUR: 'it returns false'. Refute it at one input. -/
def dutyPlaysWrong : ChangeSpec := { name := "dutyPlays", fn := fun _ => fun
  | [d1, d2] => { results := [.lit (.bool false)], args := [d1, d2] }
  | _ => none }
def DutyPlaysWrongFalsely : Prop := dutyPlaysRow.holds Tryz.pinned (OpenSpec.ofChange dutyPlaysWrong)

/-- 'purselaw22.DutyQuiet': WHATEVER THE INPUT: true; the input reads as it did. -/
def dutyQuietSpec : ChangeSpec := { name := "dutyQuiet", fn := fun _ => fun
  | [d1, d2] => { results := [.lit (.bool true)], args := [d1, d2] }
  | _ => none }
def dutyQuietRow : OpenClaim := { program := "ytmpoffijcfaalaagreat", sum := "365234f596728f37a7fcfb09bf6aa69963d6a34d1262d44e2aa546ad66cf27b4", func := "purse/purselaw22.DutyQuiet", spec := "dutyQuiet", inPlace := ["math/bits.Add64", "internal/bytealg.abigen_runtime_cmpstring"], unfollowed := true, recurses := true, apart := false }
def DutyQuietSaid : Prop := dutyQuietRow.holds Tryz.pinned (OpenSpec.ofChange dutyQuietSpec)

/-- ITS FALSE NEIGHBOUR: 'it returns false'. Refute it at one input. -/
def dutyQuietWrong : ChangeSpec := { name := "dutyQuiet", fn := fun _ => fun
  | [d1, d2] => { results := [.lit (.bool false)], args := [d1, d2] }
  | _ => none }
def DutyQuietWrongFalsely : Prop := dutyQuietRow.holds Tryz.pinned (OpenSpec.ofChange dutyQuietWrong)

/-- 'purselaw25.AuditOrder': WHATEVER THE INPUT: true; the input reads as it did. -/
def auditOrderSpec : ChangeSpec := { name := "auditOrder", fn := fun _ => fun
  | [d1, d2, d3] => { results := [.lit (.bool true)], args := [d1, d2, d3] }
  | _ => none }
def auditOrderRow : OpenClaim := { program := "ytmpoffijcfaalaagreat", sum := "365234f596728f37a7fcfb09bf6aa69963d6a34d1262d44e2aa546ad66cf27b4", func := "purse/purselaw25.AuditOrder", spec := "auditOrder", inPlace := ["math/bits.Add64", "internal/bytealg.abigen_runtime_cmpstring"], unfollowed := true, recurses := true, apart := false }
def AuditOrderSaid : Prop := auditOrderRow.holds Tryz.pinned (OpenSpec.ofChange auditOrderSpec)

/-- ITS FALSE NEIGHBOUR: 'it returns false'. Refute it at one input. -/
def auditOrderWrong : ChangeSpec := { name := "auditOrder", fn := fun _ => fun
  | [d1, d2, d3] => { results := [.lit (.bool false)], args := [d1, d2, d3] }
  | _ => none }
def AuditOrderWrongFalsely : Prop := auditOrderRow.holds Tryz.pinned (OpenSpec.ofChange auditOrderWrong)

/-- 'purselaw25.AuditPlays': WHATEVER THE INPUT: true; the input reads as it did. -/
def auditPlaysSpec : ChangeSpec := { name := "auditPlays", fn := fun _ => fun
  | [d1, d2, d3] => { results := [.lit (.bool true)], args := [d1, d2, d3] }
  | _ => none }
def auditPlaysRow : OpenClaim := { program := "ytmpoffijcfaalaagreat", sum := "365234f596728f37a7fcfb09bf6aa69963d6a34d1262d44e2aa546ad66cf27b4", func := "purse/purselaw25.AuditPlays", spec := "auditPlays", inPlace := ["math/bits.Add64", "internal/bytealg.abigen_runtime_cmpstring"], unfollowed := true, recurses := true, apart := false }
def AuditPlaysSaid : Prop := auditPlaysRow.holds Tryz.pinned (OpenSpec.ofChange auditPlaysSpec)

/-- ITS FALSE NEIGHBOUR: 'it returns false'. Refute it at one input. -/
def auditPlaysWrong : ChangeSpec := { name := "auditPlays", fn := fun _ => fun
  | [d1, d2, d3] => { results := [.lit (.bool false)], args := [d1, d2, d3] }
  | _ => none }
def AuditPlaysWrongFalsely : Prop := auditPlaysRow.holds Tryz.pinned (OpenSpec.ofChange auditPlaysWrong)

/- THE SECOND FORM. 'bulk': how many values and letters a reading holds, each counted each time it is reached (what is shared counts as often as it is met; a slice's spare places count too). A statement '..UptoSaid' is the law's where the arguments, and the package variables that the reading takes, are together of bulk at most 1048576: NARROWER than '..Said'. Prove '..Said' where nothing that the law and all that it calls make is longer than what came in: it says more and counts as full. Else prove '..UptoSaid'. A law counts once. -/
mutual
def uptoBulk {H : Type} : DataW H → Nat
  | .lit (.string bytes) => bytes.length + 1
  | .lit _ => 1
  | .nil => 1
  | .ptr d => uptoBulk d + 1
  | .slice elems spare => uptoBulkAll elems + uptoBulkAll spare + 1
  | .agg parts => uptoBulkAll parts + 1
  | .iface _ d => uptoBulk d + 1
  | .map entries => uptoBulkEntries entries + 1
  | .held _ => 1
def uptoBulkAll {H : Type} : List (DataW H) → Nat
  | [] => 0
  | d :: r => uptoBulk d + uptoBulkAll r
def uptoBulkEntries {H : Type} : List (Lit × DataW H) → Nat
  | [] => 0
  | x :: r => uptoBulkEntry x + uptoBulkEntries r
def uptoBulkEntry {H : Type} : Lit × DataW H → Nat
  | (.string bytes, d) => bytes.length + uptoBulk d + 1
  | (_, d) => uptoBulk d + 1
 end
def uptoSmall : (H : Type) → List (DataW H) → Bool := fun _ ds => decide (uptoBulkAll ds ≤ 1048576)
def OpenSpec.upto (s : _root_.Go.ChangeSpec) : _root_.Go.OpenSpec := { _root_.Go.OpenSpec.ofChange s with cond := some uptoSmall }

/-- 'purselaw22.DutyRoutes', WHERE WHAT IT READS IS OF BULK AT MOST 1048576: true; the input reads as it did. -/
def dutyRoutesUptoRow : OpenClaim := { program := "ytmpoffijcfaalaagreat", sum := "365234f596728f37a7fcfb09bf6aa69963d6a34d1262d44e2aa546ad66cf27b4", func := "purse/purselaw22.DutyRoutes", spec := "dutyRoutes", inPlace := ["math/bits.Add64", "internal/bytealg.abigen_runtime_cmpstring"], unfollowed := true, recurses := true, apart := false, narrowed := true }
def DutyRoutesUptoSaid : Prop := dutyRoutesUptoRow.holds Tryz.pinned (OpenSpec.upto dutyRoutesSpec)

/-- 'purselaw22.DutyPlays', WHERE WHAT IT READS IS OF BULK AT MOST 1048576: true; the input reads as it did. -/
def dutyPlaysUptoRow : OpenClaim := { program := "ytmpoffijcfaalaagreat", sum := "365234f596728f37a7fcfb09bf6aa69963d6a34d1262d44e2aa546ad66cf27b4", func := "purse/purselaw22.DutyPlays", spec := "dutyPlays", inPlace := ["math/bits.Add64", "internal/bytealg.abigen_runtime_cmpstring"], unfollowed := true, recurses := true, apart := false, narrowed := true }
def DutyPlaysUptoSaid : Prop := dutyPlaysUptoRow.holds Tryz.pinned (OpenSpec.upto dutyPlaysSpec)

/-- 'purselaw22.DutyQuiet', WHERE WHAT IT READS IS OF BULK AT MOST 1048576: true; the input reads as it did. -/
def dutyQuietUptoRow : OpenClaim := { program := "ytmpoffijcfaalaagreat", sum := "365234f596728f37a7fcfb09bf6aa69963d6a34d1262d44e2aa546ad66cf27b4", func := "purse/purselaw22.DutyQuiet", spec := "dutyQuiet", inPlace := ["math/bits.Add64", "internal/bytealg.abigen_runtime_cmpstring"], unfollowed := true, recurses := true, apart := false, narrowed := true }
def DutyQuietUptoSaid : Prop := dutyQuietUptoRow.holds Tryz.pinned (OpenSpec.upto dutyQuietSpec)

/-- 'purselaw25.AuditOrder', WHERE WHAT IT READS IS OF BULK AT MOST 1048576: true; the input reads as it did. -/
def auditOrderUptoRow : OpenClaim := { program := "ytmpoffijcfaalaagreat", sum := "365234f596728f37a7fcfb09bf6aa69963d6a34d1262d44e2aa546ad66cf27b4", func := "purse/purselaw25.AuditOrder", spec := "auditOrder", inPlace := ["math/bits.Add64", "internal/bytealg.abigen_runtime_cmpstring"], unfollowed := true, recurses := true, apart := false, narrowed := true }
def AuditOrderUptoSaid : Prop := auditOrderUptoRow.holds Tryz.pinned (OpenSpec.upto auditOrderSpec)

/-- 'purselaw25.AuditPlays', WHERE WHAT IT READS IS OF BULK AT MOST 1048576: true; the input reads as it did. -/
def auditPlaysUptoRow : OpenClaim := { program := "ytmpoffijcfaalaagreat", sum := "365234f596728f37a7fcfb09bf6aa69963d6a34d1262d44e2aa546ad66cf27b4", func := "purse/purselaw25.AuditPlays", spec := "auditPlays", inPlace := ["math/bits.Add64", "internal/bytealg.abigen_runtime_cmpstring"], unfollowed := true, recurses := true, apart := false, narrowed := true }
def AuditPlaysUptoSaid : Prop := auditPlaysUptoRow.holds Tryz.pinned (OpenSpec.upto auditPlaysSpec)

end Rows
end Go.Proofs.YtmpoffijcfaalaaGreat
