/-
  No cell of these rows narrows 'for every input' (looked for: loops, veiled, ifaces, maps, wideKeys, modest, calm, conditions, laid).
  DERIVED. THE GIVEN ROWS OF THIS SEAT. 4 by the template 'for every input the law returns true; each argument reads behind the call as it read before'; 0 by the template 'total and deterministic' (their statements: YtpmkdhdcejcpfaaTotals.lean).
  GIVEN WITH THE SEED: the statements are not yours to turn. If you find one false, say at which input.
  Laid BY PROGRAM, IN A SANDBOX (cutbox-rows.mjs): the forced cells as the released guide's own fill.sh prints them over the translation 157080f39dc78bba… (all of the seat's roots in one cut). By AI agents, Wed Nov 11 2026. No macro, syntax, notation, axiom, sorry.
-/
import Derived.Test.YtpmkdhdcejcpfaaChecked
import GoSem.Claim
import GoSem.ClaimJoined
import GoSem.ClaimMapViews
import Derived.JoinedTies
import Derived.KernelRfl
namespace Go.Proofs.Ytpmkdhdcejcpfaa
/- THE CELL 'sum', in the pinned program and in every row, IS THE sha256 OF THE DUMP (.gsa) THAT YtpmkdhdcejcpfaaProg.lean LOADS. Nothing in Lean hashes anything: it is a label: what it is worth is what the hold of that sum in a sandbox is worth. -/
noncomputable def Try.pinned : Pinned := { name := "ytpmkdhdcejcpfaa", sum := "157080f39dc78bbabca0f76400209e6d9de8dc92aad452e4bc9fdba2eca72af8", checked := Try.checked }
namespace Rows
def none {H : Type} : Left H := { results := [], args := [] }

/-- 'magnetolaw42.SignaldbBits': WHATEVER THE INPUT: true; the input reads as it did. -/
def signaldbBitsSpec : ChangeSpec := { name := "signaldbBits", fn := fun _ => fun
  | [d] => { results := [.lit (.bool true)], args := [d] }
  | _ => none }
def signaldbBitsRow : OpenClaim := { program := "ytpmkdhdcejcpfaa", sum := "157080f39dc78bbabca0f76400209e6d9de8dc92aad452e4bc9fdba2eca72af8", func := "magneto/magnetolaw42.SignaldbBits", spec := "signaldbBits", apart := false }
def SignaldbBitsSaid : Prop := signaldbBitsRow.holds Try.pinned (OpenSpec.ofChange signaldbBitsSpec)

/-- ITS FALSE NEIGHBOUR: 'it returns false'. Refute it at one input. -/
def signaldbBitsWrong : ChangeSpec := { name := "signaldbBits", fn := fun _ => fun
  | [d] => { results := [.lit (.bool false)], args := [d] }
  | _ => none }
def SignaldbBitsWrongFalsely : Prop := signaldbBitsRow.holds Try.pinned (OpenSpec.ofChange signaldbBitsWrong)

/-- 'magnetolaw42.SignaldbOrders': WHATEVER THE INPUT: true; the input reads as it did. -/
def signaldbOrdersSpec : ChangeSpec := { name := "signaldbOrders", fn := fun _ => fun
  | [d] => { results := [.lit (.bool true)], args := [d] }
  | _ => none }
def signaldbOrdersRow : OpenClaim := { program := "ytpmkdhdcejcpfaa", sum := "157080f39dc78bbabca0f76400209e6d9de8dc92aad452e4bc9fdba2eca72af8", func := "magneto/magnetolaw42.SignaldbOrders", spec := "signaldbOrders", apart := false }
def SignaldbOrdersSaid : Prop := signaldbOrdersRow.holds Try.pinned (OpenSpec.ofChange signaldbOrdersSpec)

/-- ITS FALSE NEIGHBOUR: 'it returns false'. Refute it at one input. -/
def signaldbOrdersWrong : ChangeSpec := { name := "signaldbOrders", fn := fun _ => fun
  | [d] => { results := [.lit (.bool false)], args := [d] }
  | _ => none }
def SignaldbOrdersWrongFalsely : Prop := signaldbOrdersRow.holds Try.pinned (OpenSpec.ofChange signaldbOrdersWrong)

/-- 'magnetolaw42.SignaldbFaults': WHATEVER THE INPUT: true; the input reads as it did. -/
def signaldbFaultsSpec : ChangeSpec := { name := "signaldbFaults", fn := fun _ => fun
  | [d] => { results := [.lit (.bool true)], args := [d] }
  | _ => none }
def signaldbFaultsRow : OpenClaim := { program := "ytpmkdhdcejcpfaa", sum := "157080f39dc78bbabca0f76400209e6d9de8dc92aad452e4bc9fdba2eca72af8", func := "magneto/magnetolaw42.SignaldbFaults", spec := "signaldbFaults", unfollowed := true, recurses := true, apart := false }
def SignaldbFaultsSaid : Prop := signaldbFaultsRow.holds Try.pinned (OpenSpec.ofChange signaldbFaultsSpec)

/-- ITS FALSE NEIGHBOUR: 'it returns false'. Refute it at one input. -/
def signaldbFaultsWrong : ChangeSpec := { name := "signaldbFaults", fn := fun _ => fun
  | [d] => { results := [.lit (.bool false)], args := [d] }
  | _ => none }
def SignaldbFaultsWrongFalsely : Prop := signaldbFaultsRow.holds Try.pinned (OpenSpec.ofChange signaldbFaultsWrong)

/-- 'magnetolaw42.SignaldbApart': WHATEVER THE INPUT: true; the input reads as it did. -/
def signaldbApartSpec : ChangeSpec := { name := "signaldbApart", fn := fun _ => fun
  | [d] => { results := [.lit (.bool true)], args := [d] }
  | _ => none }
def signaldbApartRow : OpenClaim := { program := "ytpmkdhdcejcpfaa", sum := "157080f39dc78bbabca0f76400209e6d9de8dc92aad452e4bc9fdba2eca72af8", func := "magneto/magnetolaw42.SignaldbApart", spec := "signaldbApart", unfollowed := true, recurses := true, apart := false }
def SignaldbApartSaid : Prop := signaldbApartRow.holds Try.pinned (OpenSpec.ofChange signaldbApartSpec)

/-- ITS FALSE NEIGHBOUR: 'it returns false'. Refute it at one input. -/
def signaldbApartWrong : ChangeSpec := { name := "signaldbApart", fn := fun _ => fun
  | [d] => { results := [.lit (.bool false)], args := [d] }
  | _ => none }
def SignaldbApartWrongFalsely : Prop := signaldbApartRow.holds Try.pinned (OpenSpec.ofChange signaldbApartWrong)

/- THE SECOND FORM. 'bulk': how many values and letters a reading holds, each counted each time it is reached (what is shared counts as often as it is met; a slice's spare places count too). A statement '..UptoSaid' is the law's where the arguments, and the package variables that the reading takes, are together of bulk at most 1048576: NARROWER than '..Said'. Prove '..Said' where nothing that the law and all that it calls make is longer than what came in: it says more and counts as full. Else prove '..UptoSaid'. A law counts once. -/
mutual
def uptoBulk {H : Type} : DataW H → Nat
  | .lit (.string bytes) => bytes.length + 1
  | .lit _ => 1
  | .nil => 1
  | .ptr d => uptoBulk d + 1
  | .slice elems spare => uptoBulkAll elems + uptoBulkAll spare + 1
  | .agg parts => uptoBulkAll parts + 1
  | .iface _ d => uptoBulk d + 1
  | .map entries => uptoBulkEntries entries + 1
  | .held _ => 1
def uptoBulkAll {H : Type} : List (DataW H) → Nat
  | [] => 0
  | d :: r => uptoBulk d + uptoBulkAll r
def uptoBulkEntries {H : Type} : List (Lit × DataW H) → Nat
  | [] => 0
  | x :: r => uptoBulkEntry x + uptoBulkEntries r
def uptoBulkEntry {H : Type} : Lit × DataW H → Nat
  | (.string bytes, d) => bytes.length + uptoBulk d + 1
  | (_, d) => uptoBulk d + 1
 end
def uptoSmall : (H : Type) → List (DataW H) → Bool := fun _ ds => decide (uptoBulkAll ds ≤ 1048576)
def OpenSpec.upto (s : _root_.Go.ChangeSpec) : _root_.Go.OpenSpec := { _root_.Go.OpenSpec.ofChange s with cond := some uptoSmall }

/-- 'magnetolaw42.SignaldbBits', WHERE WHAT IT READS IS OF BULK AT MOST 1048576: true; the input reads as it did. -/
def signaldbBitsUptoRow : OpenClaim := { program := "ytpmkdhdcejcpfaa", sum := "157080f39dc78bbabca0f76400209e6d9de8dc92aad452e4bc9fdba2eca72af8", func := "magneto/magnetolaw42.SignaldbBits", spec := "signaldbBits", apart := false, narrowed := true }
def SignaldbBitsUptoSaid : Prop := signaldbBitsUptoRow.holds Try.pinned (OpenSpec.upto signaldbBitsSpec)

/-- 'magnetolaw42.SignaldbOrders', WHERE WHAT IT READS IS OF BULK AT MOST 1048576: true; the input reads as it did. -/
def signaldbOrdersUptoRow : OpenClaim := { program := "ytpmkdhdcejcpfaa", sum := "157080f39dc78bbabca0f76400209e6d9de8dc92aad452e4bc9fdba2eca72af8", func := "magneto/magnetolaw42.SignaldbOrders", spec := "signaldbOrders", apart := false, narrowed := true }
def SignaldbOrdersUptoSaid : Prop := signaldbOrdersUptoRow.holds Try.pinned (OpenSpec.upto signaldbOrdersSpec)

/-- 'magnetolaw42.SignaldbFaults', WHERE WHAT IT READS IS OF BULK AT MOST 1048576: true; the input reads as it did. -/
def signaldbFaultsUptoRow : OpenClaim := { program := "ytpmkdhdcejcpfaa", sum := "157080f39dc78bbabca0f76400209e6d9de8dc92aad452e4bc9fdba2eca72af8", func := "magneto/magnetolaw42.SignaldbFaults", spec := "signaldbFaults", unfollowed := true, recurses := true, apart := false, narrowed := true }
def SignaldbFaultsUptoSaid : Prop := signaldbFaultsUptoRow.holds Try.pinned (OpenSpec.upto signaldbFaultsSpec)

/-- 'magnetolaw42.SignaldbApart', WHERE WHAT IT READS IS OF BULK AT MOST 1048576: true; the input reads as it did. -/
def signaldbApartUptoRow : OpenClaim := { program := "ytpmkdhdcejcpfaa", sum := "157080f39dc78bbabca0f76400209e6d9de8dc92aad452e4bc9fdba2eca72af8", func := "magneto/magnetolaw42.SignaldbApart", spec := "signaldbApart", unfollowed := true, recurses := true, apart := false, narrowed := true }
def SignaldbApartUptoSaid : Prop := signaldbApartUptoRow.holds Try.pinned (OpenSpec.upto signaldbApartSpec)

end Rows
end Go.Proofs.Ytpmkdhdcejcpfaa
