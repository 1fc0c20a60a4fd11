/-
  No cell of these rows narrows 'for every input' (looked for: loops, veiled, ifaces, maps, wideKeys, modest, calm, conditions, laid).
  DERIVED. THE GIVEN ROWS OF THIS SEAT. 4 by the template 'for every input the law returns true; each argument reads behind the call as it read before'; 0 by the template 'total and deterministic' (their statements: YtejdoilocmoojaaGreatTotals.lean).
  GIVEN WITH THE SEED: the statements are not yours to turn. If you find one false, say at which input.
  Laid BY PROGRAM, IN A SANDBOX (cutbox-rows.mjs): the forced cells as the released guide's own fill.sh prints them over the translation ef506c6afcf4f0cd… (all of the seat's roots in one cut). By AI agents, Wed Nov 11 2026. No macro, syntax, notation, axiom, sorry.
-/
import Derived.Test.YtejdoilocmoojaaGreatChecked
import GoSem.Claim
import GoSem.ClaimJoined
import GoSem.ClaimMapViews
import Derived.JoinedTies
import Derived.KernelRfl
namespace Go.Proofs.YtejdoilocmoojaaGreat
/- THE CELL 'sum', in the pinned program and in every row, IS THE sha256 OF THE DUMP (.gsa) THAT YtejdoilocmoojaaGreatProg.lean LOADS. Nothing in Lean hashes anything: it is a label: what it is worth is what the hold of that sum in a sandbox is worth. -/
noncomputable def Tryz.pinned : Pinned := { name := "ytejdoilocmoojaagreat", sum := "ef506c6afcf4f0cd313904efb759b763cae16289dc91466b22ad02361e6f94f6", checked := Tryz.checked }
namespace Rows
def none {H : Type} : Left H := { results := [], args := [] }

/-- 'granarylaw16.TxnNumbers': WHATEVER THE INPUT: true; the input reads as it did. -/
def txnNumbersSpec : ChangeSpec := { name := "txnNumbers", fn := fun _ => fun
  | [d] => { results := [.lit (.bool true)], args := [d] }
  | _ => none }
def txnNumbersRow : OpenClaim := { program := "ytejdoilocmoojaagreat", sum := "ef506c6afcf4f0cd313904efb759b763cae16289dc91466b22ad02361e6f94f6", func := "granary/granarylaw16.TxnNumbers", spec := "txnNumbers", inPlace := ["maps.clone", "internal/bytealg.abigen_runtime_cmpstring", "slices.overlaps[granary/api.Entry]", "slices.overlaps[uint64]", "slices.overlaps[[]granary/api.Msg]", "slices.overlaps[string]"], unfollowed := true, recurses := true, plainKeys := false, apart := false }
def TxnNumbersSaid : Prop := txnNumbersRow.holds Tryz.pinned (OpenSpec.ofChange txnNumbersSpec)

/-- ITS FALSE NEIGHBOUR: 'it returns false'. Refute it at one input. -/
def txnNumbersWrong : ChangeSpec := { name := "txnNumbers", fn := fun _ => fun
  | [d] => { results := [.lit (.bool false)], args := [d] }
  | _ => none }
def TxnNumbersWrongFalsely : Prop := txnNumbersRow.holds Tryz.pinned (OpenSpec.ofChange txnNumbersWrong)

/-- 'granarylaw16.TxnApart': WHATEVER THE INPUT: true; the input reads as it did. -/
def txnApartSpec : ChangeSpec := { name := "txnApart", fn := fun _ => fun
  | [d1, d2] => { results := [.lit (.bool true)], args := [d1, d2] }
  | _ => none }
def txnApartRow : OpenClaim := { program := "ytejdoilocmoojaagreat", sum := "ef506c6afcf4f0cd313904efb759b763cae16289dc91466b22ad02361e6f94f6", func := "granary/granarylaw16.TxnApart", spec := "txnApart", inPlace := ["maps.clone", "internal/bytealg.abigen_runtime_cmpstring", "slices.overlaps[granary/api.Entry]", "slices.overlaps[uint64]", "slices.overlaps[[]granary/api.Msg]", "slices.overlaps[string]"], unfollowed := true, recurses := true, plainKeys := false, apart := false }
def TxnApartSaid : Prop := txnApartRow.holds Tryz.pinned (OpenSpec.ofChange txnApartSpec)

/-- ITS FALSE NEIGHBOUR: 'it returns false'. Refute it at one input. -/
def txnApartWrong : ChangeSpec := { name := "txnApart", fn := fun _ => fun
  | [d1, d2] => { results := [.lit (.bool false)], args := [d1, d2] }
  | _ => none }
def TxnApartWrongFalsely : Prop := txnApartRow.holds Tryz.pinned (OpenSpec.ofChange txnApartWrong)

/-- 'granarylaw16.TxnAlone': WHATEVER THE INPUT: true; the input reads as it did. -/
def txnAloneSpec : ChangeSpec := { name := "txnAlone", fn := fun _ => fun
  | [d] => { results := [.lit (.bool true)], args := [d] }
  | _ => none }
def txnAloneRow : OpenClaim := { program := "ytejdoilocmoojaagreat", sum := "ef506c6afcf4f0cd313904efb759b763cae16289dc91466b22ad02361e6f94f6", func := "granary/granarylaw16.TxnAlone", spec := "txnAlone", inPlace := ["maps.clone", "internal/bytealg.abigen_runtime_cmpstring", "slices.overlaps[granary/api.Entry]", "slices.overlaps[uint64]", "slices.overlaps[[]granary/api.Msg]", "slices.overlaps[string]"], unfollowed := true, recurses := true, plainKeys := false, apart := false }
def TxnAloneSaid : Prop := txnAloneRow.holds Tryz.pinned (OpenSpec.ofChange txnAloneSpec)

/-- ITS FALSE NEIGHBOUR: 'it returns false'. Refute it at one input. -/
def txnAloneWrong : ChangeSpec := { name := "txnAlone", fn := fun _ => fun
  | [d] => { results := [.lit (.bool false)], args := [d] }
  | _ => none }
def TxnAloneWrongFalsely : Prop := txnAloneRow.holds Tryz.pinned (OpenSpec.ofChange txnAloneWrong)

/-- 'granarylaw16.TxnRolls': WHATEVER THE INPUT: true; the input reads as it did. -/
def txnRollsSpec : ChangeSpec := { name := "txnRolls", fn := fun _ => fun
  | [d1, d2] => { results := [.lit (.bool true)], args := [d1, d2] }
  | _ => none }
def txnRollsRow : OpenClaim := { program := "ytejdoilocmoojaagreat", sum := "ef506c6afcf4f0cd313904efb759b763cae16289dc91466b22ad02361e6f94f6", func := "granary/granarylaw16.TxnRolls", spec := "txnRolls", inPlace := ["maps.clone", "internal/bytealg.abigen_runtime_cmpstring", "slices.overlaps[granary/api.Entry]", "slices.overlaps[uint64]", "slices.overlaps[[]granary/api.Msg]", "slices.overlaps[string]"], unfollowed := true, recurses := true, plainKeys := false, apart := false }
def TxnRollsSaid : Prop := txnRollsRow.holds Tryz.pinned (OpenSpec.ofChange txnRollsSpec)

/-- ITS FALSE NEIGHBOUR: 'it returns false'. Refute it at one input. -/
def txnRollsWrong : ChangeSpec := { name := "txnRolls", fn := fun _ => fun
  | [d1, d2] => { results := [.lit (.bool false)], args := [d1, d2] }
  | _ => none }
def TxnRollsWrongFalsely : Prop := txnRollsRow.holds Tryz.pinned (OpenSpec.ofChange txnRollsWrong)

/- THE SECOND FORM. 'bulk': how many values and letters a reading holds, each counted each time it is reached (what is shared counts as often as it is met; a slice's spare places count too). A statement '..UptoSaid' is the law's where the arguments, and the package variables that the reading takes, are together of bulk at most 1048576: NARROWER than '..Said'. Prove '..Said' where nothing that the law and all that it calls make is longer than what came in: it says more and counts as full. Else prove '..UptoSaid'. A law counts once. -/
mutual
def uptoBulk {H : Type} : DataW H → Nat
  | .lit (.string bytes) => bytes.length + 1
  | .lit _ => 1
  | .nil => 1
  | .ptr d => uptoBulk d + 1
  | .slice elems spare => uptoBulkAll elems + uptoBulkAll spare + 1
  | .agg parts => uptoBulkAll parts + 1
  | .iface _ d => uptoBulk d + 1
  | .map entries => uptoBulkEntries entries + 1
  | .held _ => 1
def uptoBulkAll {H : Type} : List (DataW H) → Nat
  | [] => 0
  | d :: r => uptoBulk d + uptoBulkAll r
def uptoBulkEntries {H : Type} : List (Lit × DataW H) → Nat
  | [] => 0
  | x :: r => uptoBulkEntry x + uptoBulkEntries r
def uptoBulkEntry {H : Type} : Lit × DataW H → Nat
  | (.string bytes, d) => bytes.length + uptoBulk d + 1
  | (_, d) => uptoBulk d + 1
 end
def uptoSmall : (H : Type) → List (DataW H) → Bool := fun _ ds => decide (uptoBulkAll ds ≤ 1048576)
def OpenSpec.upto (s : _root_.Go.ChangeSpec) : _root_.Go.OpenSpec := { _root_.Go.OpenSpec.ofChange s with cond := some uptoSmall }

/-- 'granarylaw16.TxnNumbers', WHERE WHAT IT READS IS OF BULK AT MOST 1048576: true; the input reads as it did. -/
def txnNumbersUptoRow : OpenClaim := { program := "ytejdoilocmoojaagreat", sum := "ef506c6afcf4f0cd313904efb759b763cae16289dc91466b22ad02361e6f94f6", func := "granary/granarylaw16.TxnNumbers", spec := "txnNumbers", inPlace := ["maps.clone", "internal/bytealg.abigen_runtime_cmpstring", "slices.overlaps[granary/api.Entry]", "slices.overlaps[uint64]", "slices.overlaps[[]granary/api.Msg]", "slices.overlaps[string]"], unfollowed := true, recurses := true, plainKeys := false, apart := false, narrowed := true }
def TxnNumbersUptoSaid : Prop := txnNumbersUptoRow.holds Tryz.pinned (OpenSpec.upto txnNumbersSpec)

/-- 'granarylaw16.TxnApart', WHERE WHAT IT READS IS OF BULK AT MOST 1048576: true; the input reads as it did. -/
def txnApartUptoRow : OpenClaim := { program := "ytejdoilocmoojaagreat", sum := "ef506c6afcf4f0cd313904efb759b763cae16289dc91466b22ad02361e6f94f6", func := "granary/granarylaw16.TxnApart", spec := "txnApart", inPlace := ["maps.clone", "internal/bytealg.abigen_runtime_cmpstring", "slices.overlaps[granary/api.Entry]", "slices.overlaps[uint64]", "slices.overlaps[[]granary/api.Msg]", "slices.overlaps[string]"], unfollowed := true, recurses := true, plainKeys := false, apart := false, narrowed := true }
def TxnApartUptoSaid : Prop := txnApartUptoRow.holds Tryz.pinned (OpenSpec.upto txnApartSpec)

/-- 'granarylaw16.TxnAlone', WHERE WHAT IT READS IS OF BULK AT MOST 1048576: true; the input reads as it did. -/
def txnAloneUptoRow : OpenClaim := { program := "ytejdoilocmoojaagreat", sum := "ef506c6afcf4f0cd313904efb759b763cae16289dc91466b22ad02361e6f94f6", func := "granary/granarylaw16.TxnAlone", spec := "txnAlone", inPlace := ["maps.clone", "internal/bytealg.abigen_runtime_cmpstring", "slices.overlaps[granary/api.Entry]", "slices.overlaps[uint64]", "slices.overlaps[[]granary/api.Msg]", "slices.overlaps[string]"], unfollowed := true, recurses := true, plainKeys := false, apart := false, narrowed := true }
def TxnAloneUptoSaid : Prop := txnAloneUptoRow.holds Tryz.pinned (OpenSpec.upto txnAloneSpec)

/-- 'granarylaw16.TxnRolls', WHERE WHAT IT READS IS OF BULK AT MOST 1048576: true; the input reads as it did. -/
def txnRollsUptoRow : OpenClaim := { program := "ytejdoilocmoojaagreat", sum := "ef506c6afcf4f0cd313904efb759b763cae16289dc91466b22ad02361e6f94f6", func := "granary/granarylaw16.TxnRolls", spec := "txnRolls", inPlace := ["maps.clone", "internal/bytealg.abigen_runtime_cmpstring", "slices.overlaps[granary/api.Entry]", "slices.overlaps[uint64]", "slices.overlaps[[]granary/api.Msg]", "slices.overlaps[string]"], unfollowed := true, recurses := true, plainKeys := false, apart := false, narrowed := true }
def TxnRollsUptoSaid : Prop := txnRollsUptoRow.holds Tryz.pinned (OpenSpec.upto txnRollsSpec)

end Rows
end Go.Proofs.YtejdoilocmoojaaGreat
