/-
  No cell of these rows narrows 'for every input' (looked for: loops, veiled, ifaces, maps, wideKeys, modest, calm, conditions, laid).
  DERIVED. THE GIVEN ROWS OF THIS SEAT. 11 by the template 'for every input the law returns true; each argument reads behind the call as it read before'; 0 by the template 'total and deterministic' (their statements: YtlfjioigkojjdaaGreatTotals.lean).
  GIVEN WITH THE SEED: the statements are not yours to turn. If you find one false, say at which input.
  Laid BY PROGRAM, IN A SANDBOX (cutbox-rows.mjs): the forced cells as the released guide's own fill.sh prints them over the translation bcd863bc99ff767a… (all of the seat's roots in one cut). By AI agents, Wed Nov 11 2026. No macro, syntax, notation, axiom, sorry.
-/
import Derived.Test.YtlfjioigkojjdaaGreatChecked
import GoSem.Claim
import GoSem.ClaimJoined
import GoSem.ClaimMapViews
import Derived.JoinedTies
import Derived.KernelRfl
namespace Go.Proofs.YtlfjioigkojjdaaGreat
/- THE CELL 'sum', in the pinned program and in every row, IS THE sha256 OF THE DUMP (.gsa) THAT YtlfjioigkojjdaaGreatProg.lean LOADS. Nothing in Lean hashes anything: it is a label: what it is worth is what the hold of that sum in a sandbox is worth. -/
noncomputable def Tryz.pinned : Pinned := { name := "ytlfjioigkojjdaagreat", sum := "bcd863bc99ff767a73f94eea250fba5f7af4f77a7b0d2902398523fd00fc0fcc", checked := Tryz.checked }
namespace Rows
def none {H : Type} : Left H := { results := [], args := [] }

/-- 'busbarlaw14.PduParses': WHATEVER THE INPUT: true; the input reads as it did. -/
def pduParsesSpec : ChangeSpec := { name := "pduParses", fn := fun _ => fun
  | [d1, d2] => { results := [.lit (.bool true)], args := [d1, d2] }
  | _ => none }
def pduParsesRow : OpenClaim := { program := "ytlfjioigkojjdaagreat", sum := "bcd863bc99ff767a73f94eea250fba5f7af4f77a7b0d2902398523fd00fc0fcc", func := "busbar/busbarlaw14.PduParses", spec := "pduParses", unfollowed := true, recurses := true, apart := false }
def PduParsesSaid : Prop := pduParsesRow.holds Tryz.pinned (OpenSpec.ofChange pduParsesSpec)

/-- ITS FALSE NEIGHBOUR: 'it returns false'. Refute it at one input. -/
def pduParsesWrong : ChangeSpec := { name := "pduParses", fn := fun _ => fun
  | [d1, d2] => { results := [.lit (.bool false)], args := [d1, d2] }
  | _ => none }
def PduParsesWrongFalsely : Prop := pduParsesRow.holds Tryz.pinned (OpenSpec.ofChange pduParsesWrong)

/-- 'busbarlaw14.PduWrites': WHATEVER THE INPUT: true; the input reads as it did. -/
def pduWritesSpec : ChangeSpec := { name := "pduWrites", fn := fun _ => fun
  | [d1, d2] => { results := [.lit (.bool true)], args := [d1, d2] }
  | _ => none }
def pduWritesRow : OpenClaim := { program := "ytlfjioigkojjdaagreat", sum := "bcd863bc99ff767a73f94eea250fba5f7af4f77a7b0d2902398523fd00fc0fcc", func := "busbar/busbarlaw14.PduWrites", spec := "pduWrites", unfollowed := true, recurses := true, apart := false }
def PduWritesSaid : Prop := pduWritesRow.holds Tryz.pinned (OpenSpec.ofChange pduWritesSpec)

/-- ITS FALSE NEIGHBOUR: 'it returns false'. Refute it at one input. -/
def pduWritesWrong : ChangeSpec := { name := "pduWrites", fn := fun _ => fun
  | [d1, d2] => { results := [.lit (.bool false)], args := [d1, d2] }
  | _ => none }
def PduWritesWrongFalsely : Prop := pduWritesRow.holds Tryz.pinned (OpenSpec.ofChange pduWritesWrong)

/-- 'busbarlaw17.MbapParses': WHATEVER THE INPUT: true; the input reads as it did. -/
def mbapParsesSpec : ChangeSpec := { name := "mbapParses", fn := fun _ => fun
  | [d1, d2] => { results := [.lit (.bool true)], args := [d1, d2] }
  | _ => none }
def mbapParsesRow : OpenClaim := { program := "ytlfjioigkojjdaagreat", sum := "bcd863bc99ff767a73f94eea250fba5f7af4f77a7b0d2902398523fd00fc0fcc", func := "busbar/busbarlaw17.MbapParses", spec := "mbapParses", unfollowed := true, recurses := true, apart := false }
def MbapParsesSaid : Prop := mbapParsesRow.holds Tryz.pinned (OpenSpec.ofChange mbapParsesSpec)

/-- ITS FALSE NEIGHBOUR: 'it returns false'. Refute it at one input. -/
def mbapParsesWrong : ChangeSpec := { name := "mbapParses", fn := fun _ => fun
  | [d1, d2] => { results := [.lit (.bool false)], args := [d1, d2] }
  | _ => none }
def MbapParsesWrongFalsely : Prop := mbapParsesRow.holds Tryz.pinned (OpenSpec.ofChange mbapParsesWrong)

/-- 'busbarlaw17.MbapWrites': WHATEVER THE INPUT: true; the input reads as it did. -/
def mbapWritesSpec : ChangeSpec := { name := "mbapWrites", fn := fun _ => fun
  | [d1, d2] => { results := [.lit (.bool true)], args := [d1, d2] }
  | _ => none }
def mbapWritesRow : OpenClaim := { program := "ytlfjioigkojjdaagreat", sum := "bcd863bc99ff767a73f94eea250fba5f7af4f77a7b0d2902398523fd00fc0fcc", func := "busbar/busbarlaw17.MbapWrites", spec := "mbapWrites", unfollowed := true, recurses := true, apart := false }
def MbapWritesSaid : Prop := mbapWritesRow.holds Tryz.pinned (OpenSpec.ofChange mbapWritesSpec)

/-- ITS FALSE NEIGHBOUR: 'it returns false'. Refute it at one input. -/
def mbapWritesWrong : ChangeSpec := { name := "mbapWrites", fn := fun _ => fun
  | [d1, d2] => { results := [.lit (.bool false)], args := [d1, d2] }
  | _ => none }
def MbapWritesWrongFalsely : Prop := mbapWritesRow.holds Tryz.pinned (OpenSpec.ofChange mbapWritesWrong)

/-- 'busbarlaw19.SrtuTells': WHATEVER THE INPUT: true; the input reads as it did. -/
def srtuTellsSpec : ChangeSpec := { name := "srtuTells", fn := fun _ => fun
  | [d1, d2, d3] => { results := [.lit (.bool true)], args := [d1, d2, d3] }
  | _ => none }
def srtuTellsRow : OpenClaim := { program := "ytlfjioigkojjdaagreat", sum := "bcd863bc99ff767a73f94eea250fba5f7af4f77a7b0d2902398523fd00fc0fcc", func := "busbar/busbarlaw19.SrtuTells", spec := "srtuTells", unfollowed := true, recurses := true, apart := false }
def SrtuTellsSaid : Prop := srtuTellsRow.holds Tryz.pinned (OpenSpec.ofChange srtuTellsSpec)

/-- ITS FALSE NEIGHBOUR: 'it returns false'. Refute it at one input. -/
def srtuTellsWrong : ChangeSpec := { name := "srtuTells", fn := fun _ => fun
  | [d1, d2, d3] => { results := [.lit (.bool false)], args := [d1, d2, d3] }
  | _ => none }
def SrtuTellsWrongFalsely : Prop := srtuTellsRow.holds Tryz.pinned (OpenSpec.ofChange srtuTellsWrong)

/-- 'busbarlaw21.SmbapTells': WHATEVER THE INPUT: true; the input reads as it did. -/
def smbapTellsSpec : ChangeSpec := { name := "smbapTells", fn := fun _ => fun
  | [d1, d2] => { results := [.lit (.bool true)], args := [d1, d2] }
  | _ => none }
def smbapTellsRow : OpenClaim := { program := "ytlfjioigkojjdaagreat", sum := "bcd863bc99ff767a73f94eea250fba5f7af4f77a7b0d2902398523fd00fc0fcc", func := "busbar/busbarlaw21.SmbapTells", spec := "smbapTells", unfollowed := true, recurses := true, apart := false }
def SmbapTellsSaid : Prop := smbapTellsRow.holds Tryz.pinned (OpenSpec.ofChange smbapTellsSpec)

/-- ITS FALSE NEIGHBOUR: 'it returns false'. Refute it at one input. -/
def smbapTellsWrong : ChangeSpec := { name := "smbapTells", fn := fun _ => fun
  | [d1, d2] => { results := [.lit (.bool false)], args := [d1, d2] }
  | _ => none }
def SmbapTellsWrongFalsely : Prop := smbapTellsRow.holds Tryz.pinned (OpenSpec.ofChange smbapTellsWrong)

/-- 'busbarlaw15.RtuParses': WHATEVER THE INPUT: true; the input reads as it did. -/
def rtuParsesSpec : ChangeSpec := { name := "rtuParses", fn := fun _ => fun
  | [d1, d2] => { results := [.lit (.bool true)], args := [d1, d2] }
  | _ => none }
def rtuParsesRow : OpenClaim := { program := "ytlfjioigkojjdaagreat", sum := "bcd863bc99ff767a73f94eea250fba5f7af4f77a7b0d2902398523fd00fc0fcc", func := "busbar/busbarlaw15.RtuParses", spec := "rtuParses", unfollowed := true, recurses := true, apart := false }
def RtuParsesSaid : Prop := rtuParsesRow.holds Tryz.pinned (OpenSpec.ofChange rtuParsesSpec)

/-- ITS FALSE NEIGHBOUR: 'it returns false'. Refute it at one input. -/
def rtuParsesWrong : ChangeSpec := { name := "rtuParses", fn := fun _ => fun
  | [d1, d2] => { results := [.lit (.bool false)], args := [d1, d2] }
  | _ => none }
def RtuParsesWrongFalsely : Prop := rtuParsesRow.holds Tryz.pinned (OpenSpec.ofChange rtuParsesWrong)

/-- 'busbarlaw15.RtuWrites': WHATEVER THE INPUT: true; the input reads as it did. -/
def rtuWritesSpec : ChangeSpec := { name := "rtuWrites", fn := fun _ => fun
  | [d1, d2] => { results := [.lit (.bool true)], args := [d1, d2] }
  | _ => none }
def rtuWritesRow : OpenClaim := { program := "ytlfjioigkojjdaagreat", sum := "bcd863bc99ff767a73f94eea250fba5f7af4f77a7b0d2902398523fd00fc0fcc", func := "busbar/busbarlaw15.RtuWrites", spec := "rtuWrites", unfollowed := true, recurses := true, apart := false }
def RtuWritesSaid : Prop := rtuWritesRow.holds Tryz.pinned (OpenSpec.ofChange rtuWritesSpec)

/-- ITS FALSE NEIGHBOUR: 'it returns false'. Refute it at one input. -/
def rtuWritesWrong : ChangeSpec := { name := "rtuWrites", fn := fun _ => fun
  | [d1, d2] => { results := [.lit (.bool false)], args := [d1, d2] }
  | _ => none }
def RtuWritesWrongFalsely : Prop := rtuWritesRow.holds Tryz.pinned (OpenSpec.ofChange rtuWritesWrong)

/-- 'busbarlaw20.SascTells': WHATEVER THE INPUT: true; the input reads as it did. -/
def sascTellsSpec : ChangeSpec := { name := "sascTells", fn := fun _ => fun
  | [d1, d2] => { results := [.lit (.bool true)], args := [d1, d2] }
  | _ => none }
def sascTellsRow : OpenClaim := { program := "ytlfjioigkojjdaagreat", sum := "bcd863bc99ff767a73f94eea250fba5f7af4f77a7b0d2902398523fd00fc0fcc", func := "busbar/busbarlaw20.SascTells", spec := "sascTells", unfollowed := true, recurses := true, apart := false }
def SascTellsSaid : Prop := sascTellsRow.holds Tryz.pinned (OpenSpec.ofChange sascTellsSpec)

/-- ITS FALSE NEIGHBOUR: 'it returns false'. Refute it at one input. -/
def sascTellsWrong : ChangeSpec := { name := "sascTells", fn := fun _ => fun
  | [d1, d2] => { results := [.lit (.bool false)], args := [d1, d2] }
  | _ => none }
def SascTellsWrongFalsely : Prop := sascTellsRow.holds Tryz.pinned (OpenSpec.ofChange sascTellsWrong)

/-- 'busbarlaw16.AscParses': WHATEVER THE INPUT: true; the input reads as it did. -/
def ascParsesSpec : ChangeSpec := { name := "ascParses", fn := fun _ => fun
  | [d1, d2] => { results := [.lit (.bool true)], args := [d1, d2] }
  | _ => none }
def ascParsesRow : OpenClaim := { program := "ytlfjioigkojjdaagreat", sum := "bcd863bc99ff767a73f94eea250fba5f7af4f77a7b0d2902398523fd00fc0fcc", func := "busbar/busbarlaw16.AscParses", spec := "ascParses", inPlace := ["internal/abi.NoEscape"], unfollowed := true, recurses := true, apart := false }
def AscParsesSaid : Prop := ascParsesRow.holds Tryz.pinned (OpenSpec.ofChange ascParsesSpec)

/-- ITS FALSE NEIGHBOUR: 'it returns false'. Refute it at one input. -/
def ascParsesWrong : ChangeSpec := { name := "ascParses", fn := fun _ => fun
  | [d1, d2] => { results := [.lit (.bool false)], args := [d1, d2] }
  | _ => none }
def AscParsesWrongFalsely : Prop := ascParsesRow.holds Tryz.pinned (OpenSpec.ofChange ascParsesWrong)

/-- 'busbarlaw16.AscWrites': WHATEVER THE INPUT: true; the input reads as it did. -/
def ascWritesSpec : ChangeSpec := { name := "ascWrites", fn := fun _ => fun
  | [d1, d2] => { results := [.lit (.bool true)], args := [d1, d2] }
  | _ => none }
def ascWritesRow : OpenClaim := { program := "ytlfjioigkojjdaagreat", sum := "bcd863bc99ff767a73f94eea250fba5f7af4f77a7b0d2902398523fd00fc0fcc", func := "busbar/busbarlaw16.AscWrites", spec := "ascWrites", inPlace := ["internal/abi.NoEscape"], unfollowed := true, recurses := true, apart := false }
def AscWritesSaid : Prop := ascWritesRow.holds Tryz.pinned (OpenSpec.ofChange ascWritesSpec)

/-- ITS FALSE NEIGHBOUR: 'it returns false'. Refute it at one input. -/
def ascWritesWrong : ChangeSpec := { name := "ascWrites", fn := fun _ => fun
  | [d1, d2] => { results := [.lit (.bool false)], args := [d1, d2] }
  | _ => none }
def AscWritesWrongFalsely : Prop := ascWritesRow.holds Tryz.pinned (OpenSpec.ofChange ascWritesWrong)

/- THE SECOND FORM. 'bulk': how many values and letters a reading holds, each counted each time it is reached (what is shared counts as often as it is met; a slice's spare places count too). A statement '..UptoSaid' is the law's where the arguments, and the package variables that the reading takes, are together of bulk at most 1048576: NARROWER than '..Said'. Prove '..Said' where nothing that the law and all that it calls make is longer than what came in: it says more and counts as full. Else prove '..UptoSaid'. A law counts once. -/
mutual
def uptoBulk {H : Type} : DataW H → Nat
  | .lit (.string bytes) => bytes.length + 1
  | .lit _ => 1
  | .nil => 1
  | .ptr d => uptoBulk d + 1
  | .slice elems spare => uptoBulkAll elems + uptoBulkAll spare + 1
  | .agg parts => uptoBulkAll parts + 1
  | .iface _ d => uptoBulk d + 1
  | .map entries => uptoBulkEntries entries + 1
  | .held _ => 1
def uptoBulkAll {H : Type} : List (DataW H) → Nat
  | [] => 0
  | d :: r => uptoBulk d + uptoBulkAll r
def uptoBulkEntries {H : Type} : List (Lit × DataW H) → Nat
  | [] => 0
  | x :: r => uptoBulkEntry x + uptoBulkEntries r
def uptoBulkEntry {H : Type} : Lit × DataW H → Nat
  | (.string bytes, d) => bytes.length + uptoBulk d + 1
  | (_, d) => uptoBulk d + 1
 end
def uptoSmall : (H : Type) → List (DataW H) → Bool := fun _ ds => decide (uptoBulkAll ds ≤ 1048576)
def OpenSpec.upto (s : _root_.Go.ChangeSpec) : _root_.Go.OpenSpec := { _root_.Go.OpenSpec.ofChange s with cond := some uptoSmall }

/-- 'busbarlaw14.PduParses', WHERE WHAT IT READS IS OF BULK AT MOST 1048576: true; the input reads as it did. -/
def pduParsesUptoRow : OpenClaim := { program := "ytlfjioigkojjdaagreat", sum := "bcd863bc99ff767a73f94eea250fba5f7af4f77a7b0d2902398523fd00fc0fcc", func := "busbar/busbarlaw14.PduParses", spec := "pduParses", unfollowed := true, recurses := true, apart := false, narrowed := true }
def PduParsesUptoSaid : Prop := pduParsesUptoRow.holds Tryz.pinned (OpenSpec.upto pduParsesSpec)

/-- 'busbarlaw14.PduWrites', WHERE WHAT IT READS IS OF BULK AT MOST 1048576: true; the input reads as it did. -/
def pduWritesUptoRow : OpenClaim := { program := "ytlfjioigkojjdaagreat", sum := "bcd863bc99ff767a73f94eea250fba5f7af4f77a7b0d2902398523fd00fc0fcc", func := "busbar/busbarlaw14.PduWrites", spec := "pduWrites", unfollowed := true, recurses := true, apart := false, narrowed := true }
def PduWritesUptoSaid : Prop := pduWritesUptoRow.holds Tryz.pinned (OpenSpec.upto pduWritesSpec)

/-- 'busbarlaw17.MbapParses', WHERE WHAT IT READS IS OF BULK AT MOST 1048576: true; the input reads as it did. -/
def mbapParsesUptoRow : OpenClaim := { program := "ytlfjioigkojjdaagreat", sum := "bcd863bc99ff767a73f94eea250fba5f7af4f77a7b0d2902398523fd00fc0fcc", func := "busbar/busbarlaw17.MbapParses", spec := "mbapParses", unfollowed := true, recurses := true, apart := false, narrowed := true }
def MbapParsesUptoSaid : Prop := mbapParsesUptoRow.holds Tryz.pinned (OpenSpec.upto mbapParsesSpec)

/-- 'busbarlaw17.MbapWrites', WHERE WHAT IT READS IS OF BULK AT MOST 1048576: true; the input reads as it did. -/
def mbapWritesUptoRow : OpenClaim := { program := "ytlfjioigkojjdaagreat", sum := "bcd863bc99ff767a73f94eea250fba5f7af4f77a7b0d2902398523fd00fc0fcc", func := "busbar/busbarlaw17.MbapWrites", spec := "mbapWrites", unfollowed := true, recurses := true, apart := false, narrowed := true }
def MbapWritesUptoSaid : Prop := mbapWritesUptoRow.holds Tryz.pinned (OpenSpec.upto mbapWritesSpec)

/-- 'busbarlaw19.SrtuTells', WHERE WHAT IT READS IS OF BULK AT MOST 1048576: true; the input reads as it did. -/
def srtuTellsUptoRow : OpenClaim := { program := "ytlfjioigkojjdaagreat", sum := "bcd863bc99ff767a73f94eea250fba5f7af4f77a7b0d2902398523fd00fc0fcc", func := "busbar/busbarlaw19.SrtuTells", spec := "srtuTells", unfollowed := true, recurses := true, apart := false, narrowed := true }
def SrtuTellsUptoSaid : Prop := srtuTellsUptoRow.holds Tryz.pinned (OpenSpec.upto srtuTellsSpec)

/-- 'busbarlaw21.SmbapTells', WHERE WHAT IT READS IS OF BULK AT MOST 1048576: true; the input reads as it did. -/
def smbapTellsUptoRow : OpenClaim := { program := "ytlfjioigkojjdaagreat", sum := "bcd863bc99ff767a73f94eea250fba5f7af4f77a7b0d2902398523fd00fc0fcc", func := "busbar/busbarlaw21.SmbapTells", spec := "smbapTells", unfollowed := true, recurses := true, apart := false, narrowed := true }
def SmbapTellsUptoSaid : Prop := smbapTellsUptoRow.holds Tryz.pinned (OpenSpec.upto smbapTellsSpec)

/-- 'busbarlaw15.RtuParses', WHERE WHAT IT READS IS OF BULK AT MOST 1048576: true; the input reads as it did. -/
def rtuParsesUptoRow : OpenClaim := { program := "ytlfjioigkojjdaagreat", sum := "bcd863bc99ff767a73f94eea250fba5f7af4f77a7b0d2902398523fd00fc0fcc", func := "busbar/busbarlaw15.RtuParses", spec := "rtuParses", unfollowed := true, recurses := true, apart := false, narrowed := true }
def RtuParsesUptoSaid : Prop := rtuParsesUptoRow.holds Tryz.pinned (OpenSpec.upto rtuParsesSpec)

/-- 'busbarlaw15.RtuWrites', WHERE WHAT IT READS IS OF BULK AT MOST 1048576: true; the input reads as it did. -/
def rtuWritesUptoRow : OpenClaim := { program := "ytlfjioigkojjdaagreat", sum := "bcd863bc99ff767a73f94eea250fba5f7af4f77a7b0d2902398523fd00fc0fcc", func := "busbar/busbarlaw15.RtuWrites", spec := "rtuWrites", unfollowed := true, recurses := true, apart := false, narrowed := true }
def RtuWritesUptoSaid : Prop := rtuWritesUptoRow.holds Tryz.pinned (OpenSpec.upto rtuWritesSpec)

/-- 'busbarlaw20.SascTells', WHERE WHAT IT READS IS OF BULK AT MOST 1048576: true; the input reads as it did. -/
def sascTellsUptoRow : OpenClaim := { program := "ytlfjioigkojjdaagreat", sum := "bcd863bc99ff767a73f94eea250fba5f7af4f77a7b0d2902398523fd00fc0fcc", func := "busbar/busbarlaw20.SascTells", spec := "sascTells", unfollowed := true, recurses := true, apart := false, narrowed := true }
def SascTellsUptoSaid : Prop := sascTellsUptoRow.holds Tryz.pinned (OpenSpec.upto sascTellsSpec)

/-- 'busbarlaw16.AscParses', WHERE WHAT IT READS IS OF BULK AT MOST 1048576: true; the input reads as it did. -/
def ascParsesUptoRow : OpenClaim := { program := "ytlfjioigkojjdaagreat", sum := "bcd863bc99ff767a73f94eea250fba5f7af4f77a7b0d2902398523fd00fc0fcc", func := "busbar/busbarlaw16.AscParses", spec := "ascParses", inPlace := ["internal/abi.NoEscape"], unfollowed := true, recurses := true, apart := false, narrowed := true }
def AscParsesUptoSaid : Prop := ascParsesUptoRow.holds Tryz.pinned (OpenSpec.upto ascParsesSpec)

/-- 'busbarlaw16.AscWrites', WHERE WHAT IT READS IS OF BULK AT MOST 1048576: true; the input reads as it did. -/
def ascWritesUptoRow : OpenClaim := { program := "ytlfjioigkojjdaagreat", sum := "bcd863bc99ff767a73f94eea250fba5f7af4f77a7b0d2902398523fd00fc0fcc", func := "busbar/busbarlaw16.AscWrites", spec := "ascWrites", inPlace := ["internal/abi.NoEscape"], unfollowed := true, recurses := true, apart := false, narrowed := true }
def AscWritesUptoSaid : Prop := ascWritesUptoRow.holds Tryz.pinned (OpenSpec.upto ascWritesSpec)

end Rows
end Go.Proofs.YtlfjioigkojjdaaGreat
