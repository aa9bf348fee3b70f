/-
  NARROWER THAN 'FOR EVERY INPUT', by the rows' own cells (each row's printed sentence says how): NeighbourForm: laid · NeighbourVerify: laid · NeighbourRaw: laid · NeighbourKeeps: laid · NeighbourGram: laid · NeighbourIndex: laid · NeighbourMembers: laid · NeighbourBack: laid.
  DERIVED. THE GIVEN ROWS OF THIS SEAT. 8 by the template 'for every input the law returns true; each argument reads behind the call as it read before'; 0 by the template 'total and deterministic' (their statements: YtdobfmlmenaajaaGreatDoorTotals.lean).
  GIVEN WITH THE SEED: the statements are not yours to turn. If you find one false, say at which input.
  Laid BY PROGRAM, IN A SANDBOX (cutbox-rows.mjs): the forced cells as the released guide's own fill.sh prints them over the translation 685e7f6a05d9a3a0… (all of the seat's roots in one cut). By AI agents, Wed Nov 11 2026. No macro, syntax, notation, axiom, sorry.
-/
import Derived.Test.YtdobfmlmenaajaaGreatDoorChecked
import GoSem.Claim
import GoSem.ClaimJoined
import GoSem.ClaimMapViews
import Derived.JoinedTies
import Derived.KernelRfl
namespace Go.Proofs.YtdobfmlmenaajaaGreatDoor
/- THE CELL 'sum', in the pinned program and in every row, IS THE sha256 OF THE DUMP (.gsa) THAT YtdobfmlmenaajaaGreatDoorProg.lean LOADS. Nothing in Lean hashes anything: it is a label: what it is worth is what the hold of that sum in a sandbox is worth. -/
noncomputable def Tryz.pinned : Pinned := { name := "ytdobfmlmenaajaagreatdoor", sum := "685e7f6a05d9a3a0eca7b9ad1808e76ce00b17d9435fec123ab40ed31e5f11f7", checked := Tryz.checked }
namespace Rows
def none {H : Type} : Left H := { results := [], args := [] }

/- WHAT THE LISTED PACKAGE-LEVEL VARIABLES READ AS WHEN THE CALL BEGINS. Each datum BY PROGRAM (the guide's laid-datum.mjs) off the statement by which the dump's own 'gosem.cut.vars' lays the variable. In a bare row this is a premise. The card (YtdobfmlmenaajaaGreatDoorCards.lean) ties it to the program's text. -/
def laid_quadform_prime_offsets {H : Type} : DataW H := .agg [.lit (.int .i64 7), .lit (.int .i64 11), .lit (.int .i64 13), .lit (.int .i64 17), .lit (.int .i64 19), .lit (.int .i64 23), .lit (.int .i64 29), .lit (.int .i64 31)]

/-- 'quadformlaw35.NeighbourForm': WHATEVER THE INPUT: true; the input reads as it did. -/
def neighbourFormSpec : ChangeSpec := { name := "neighbourForm", fn := fun _ => fun
  | [d1, d2, d3, d4, d5] => { results := [.lit (.bool true)], args := [d1, d2, d3, d4, d5] }
  | _ => none }
def neighbourFormRow : OpenClaim := { program := "ytdobfmlmenaajaagreatdoor", sum := "685e7f6a05d9a3a0eca7b9ad1808e76ce00b17d9435fec123ab40ed31e5f11f7", func := "quadform/quadformlaw35.NeighbourForm", spec := "neighbourForm", inPlace := ["math/bits.Add64", "math/bits.Sub64"], unfollowed := true, recurses := true, named := ["quadform/prime.offsets"], apart := false, laid := [("quadform/prime.offsets", laid_quadform_prime_offsets)] }
def NeighbourFormSaid : Prop := neighbourFormRow.holds Tryz.pinned (OpenSpec.ofChange neighbourFormSpec)

/-- ITS FALSE NEIGHBOUR: 'it returns false'. Refute it at one input. -/
def neighbourFormWrong : ChangeSpec := { name := "neighbourForm", fn := fun _ => fun
  | [d1, d2, d3, d4, d5] => { results := [.lit (.bool false)], args := [d1, d2, d3, d4, d5] }
  | _ => none }
def NeighbourFormWrongFalsely : Prop := neighbourFormRow.holds Tryz.pinned (OpenSpec.ofChange neighbourFormWrong)

/-- 'quadformlaw35.NeighbourVerify': WHATEVER THE INPUT: true; the input reads as it did. -/
def neighbourVerifySpec : ChangeSpec := { name := "neighbourVerify", fn := fun _ => fun
  | [d1, d2, d3, d4] => { results := [.lit (.bool true)], args := [d1, d2, d3, d4] }
  | _ => none }
def neighbourVerifyRow : OpenClaim := { program := "ytdobfmlmenaajaagreatdoor", sum := "685e7f6a05d9a3a0eca7b9ad1808e76ce00b17d9435fec123ab40ed31e5f11f7", func := "quadform/quadformlaw35.NeighbourVerify", spec := "neighbourVerify", inPlace := ["math/bits.Add64", "math/bits.Sub64"], unfollowed := true, recurses := true, named := ["quadform/prime.offsets"], apart := false, laid := [("quadform/prime.offsets", laid_quadform_prime_offsets)] }
def NeighbourVerifySaid : Prop := neighbourVerifyRow.holds Tryz.pinned (OpenSpec.ofChange neighbourVerifySpec)

/-- ITS FALSE NEIGHBOUR: 'it returns false'. Refute it at one input. -/
def neighbourVerifyWrong : ChangeSpec := { name := "neighbourVerify", fn := fun _ => fun
  | [d1, d2, d3, d4] => { results := [.lit (.bool false)], args := [d1, d2, d3, d4] }
  | _ => none }
def NeighbourVerifyWrongFalsely : Prop := neighbourVerifyRow.holds Tryz.pinned (OpenSpec.ofChange neighbourVerifyWrong)

/-- 'quadformlaw35.NeighbourRaw': WHATEVER THE INPUT: true; the input reads as it did. -/
def neighbourRawSpec : ChangeSpec := { name := "neighbourRaw", fn := fun _ => fun
  | [d1, d2, d3, d4, d5, d6, d7] => { results := [.lit (.bool true)], args := [d1, d2, d3, d4, d5, d6, d7] }
  | _ => none }
def neighbourRawRow : OpenClaim := { program := "ytdobfmlmenaajaagreatdoor", sum := "685e7f6a05d9a3a0eca7b9ad1808e76ce00b17d9435fec123ab40ed31e5f11f7", func := "quadform/quadformlaw35.NeighbourRaw", spec := "neighbourRaw", inPlace := ["math/bits.Add64", "math/bits.Sub64"], unfollowed := true, recurses := true, named := ["quadform/prime.offsets"], apart := false, laid := [("quadform/prime.offsets", laid_quadform_prime_offsets)] }
def NeighbourRawSaid : Prop := neighbourRawRow.holds Tryz.pinned (OpenSpec.ofChange neighbourRawSpec)

/-- ITS FALSE NEIGHBOUR: 'it returns false'. Refute it at one input. -/
def neighbourRawWrong : ChangeSpec := { name := "neighbourRaw", fn := fun _ => fun
  | [d1, d2, d3, d4, d5, d6, d7] => { results := [.lit (.bool false)], args := [d1, d2, d3, d4, d5, d6, d7] }
  | _ => none }
def NeighbourRawWrongFalsely : Prop := neighbourRawRow.holds Tryz.pinned (OpenSpec.ofChange neighbourRawWrong)

/-- 'quadformlaw35.NeighbourKeeps': WHATEVER THE INPUT: true; the input reads as it did. -/
def neighbourKeepsSpec : ChangeSpec := { name := "neighbourKeeps", fn := fun _ => fun
  | [d] => { results := [.lit (.bool true)], args := [d] }
  | _ => none }
def neighbourKeepsRow : OpenClaim := { program := "ytdobfmlmenaajaagreatdoor", sum := "685e7f6a05d9a3a0eca7b9ad1808e76ce00b17d9435fec123ab40ed31e5f11f7", func := "quadform/quadformlaw35.NeighbourKeeps", spec := "neighbourKeeps", inPlace := ["math/bits.Add64", "math/bits.Sub64"], unfollowed := true, recurses := true, named := ["quadform/prime.offsets"], apart := false, laid := [("quadform/prime.offsets", laid_quadform_prime_offsets)] }
def NeighbourKeepsSaid : Prop := neighbourKeepsRow.holds Tryz.pinned (OpenSpec.ofChange neighbourKeepsSpec)

/-- ITS FALSE NEIGHBOUR: 'it returns false'. Refute it at one input. -/
def neighbourKeepsWrong : ChangeSpec := { name := "neighbourKeeps", fn := fun _ => fun
  | [d] => { results := [.lit (.bool false)], args := [d] }
  | _ => none }
def NeighbourKeepsWrongFalsely : Prop := neighbourKeepsRow.holds Tryz.pinned (OpenSpec.ofChange neighbourKeepsWrong)

/-- 'quadformlaw35.NeighbourGram': WHATEVER THE INPUT: true; the input reads as it did. -/
def neighbourGramSpec : ChangeSpec := { name := "neighbourGram", fn := fun _ => fun
  | [d1, d2, d3, d4, d5] => { results := [.lit (.bool true)], args := [d1, d2, d3, d4, d5] }
  | _ => none }
def neighbourGramRow : OpenClaim := { program := "ytdobfmlmenaajaagreatdoor", sum := "685e7f6a05d9a3a0eca7b9ad1808e76ce00b17d9435fec123ab40ed31e5f11f7", func := "quadform/quadformlaw35.NeighbourGram", spec := "neighbourGram", inPlace := ["math/bits.Add64", "math/bits.Sub64"], unfollowed := true, recurses := true, named := ["quadform/prime.offsets"], apart := false, laid := [("quadform/prime.offsets", laid_quadform_prime_offsets)] }
def NeighbourGramSaid : Prop := neighbourGramRow.holds Tryz.pinned (OpenSpec.ofChange neighbourGramSpec)

/-- ITS FALSE NEIGHBOUR: 'it returns false'. Refute it at one input. -/
def neighbourGramWrong : ChangeSpec := { name := "neighbourGram", fn := fun _ => fun
  | [d1, d2, d3, d4, d5] => { results := [.lit (.bool false)], args := [d1, d2, d3, d4, d5] }
  | _ => none }
def NeighbourGramWrongFalsely : Prop := neighbourGramRow.holds Tryz.pinned (OpenSpec.ofChange neighbourGramWrong)

/-- 'quadformlaw35.NeighbourIndex': WHATEVER THE INPUT: true; the input reads as it did. -/
def neighbourIndexSpec : ChangeSpec := { name := "neighbourIndex", fn := fun _ => fun
  | [d] => { results := [.lit (.bool true)], args := [d] }
  | _ => none }
def neighbourIndexRow : OpenClaim := { program := "ytdobfmlmenaajaagreatdoor", sum := "685e7f6a05d9a3a0eca7b9ad1808e76ce00b17d9435fec123ab40ed31e5f11f7", func := "quadform/quadformlaw35.NeighbourIndex", spec := "neighbourIndex", inPlace := ["math/bits.Add64", "math/bits.Sub64"], unfollowed := true, recurses := true, named := ["quadform/prime.offsets"], apart := false, laid := [("quadform/prime.offsets", laid_quadform_prime_offsets)] }
def NeighbourIndexSaid : Prop := neighbourIndexRow.holds Tryz.pinned (OpenSpec.ofChange neighbourIndexSpec)

/-- ITS FALSE NEIGHBOUR: 'it returns false'. Refute it at one input. -/
def neighbourIndexWrong : ChangeSpec := { name := "neighbourIndex", fn := fun _ => fun
  | [d] => { results := [.lit (.bool false)], args := [d] }
  | _ => none }
def NeighbourIndexWrongFalsely : Prop := neighbourIndexRow.holds Tryz.pinned (OpenSpec.ofChange neighbourIndexWrong)

/-- 'quadformlaw35.NeighbourMembers': WHATEVER THE INPUT: true; the input reads as it did. -/
def neighbourMembersSpec : ChangeSpec := { name := "neighbourMembers", fn := fun _ => fun
  | [d1, d2] => { results := [.lit (.bool true)], args := [d1, d2] }
  | _ => none }
def neighbourMembersRow : OpenClaim := { program := "ytdobfmlmenaajaagreatdoor", sum := "685e7f6a05d9a3a0eca7b9ad1808e76ce00b17d9435fec123ab40ed31e5f11f7", func := "quadform/quadformlaw35.NeighbourMembers", spec := "neighbourMembers", inPlace := ["math/bits.Add64", "math/bits.Sub64"], unfollowed := true, recurses := true, named := ["quadform/prime.offsets"], apart := false, laid := [("quadform/prime.offsets", laid_quadform_prime_offsets)] }
def NeighbourMembersSaid : Prop := neighbourMembersRow.holds Tryz.pinned (OpenSpec.ofChange neighbourMembersSpec)

/-- ITS FALSE NEIGHBOUR: 'it returns false'. Refute it at one input. -/
def neighbourMembersWrong : ChangeSpec := { name := "neighbourMembers", fn := fun _ => fun
  | [d1, d2] => { results := [.lit (.bool false)], args := [d1, d2] }
  | _ => none }
def NeighbourMembersWrongFalsely : Prop := neighbourMembersRow.holds Tryz.pinned (OpenSpec.ofChange neighbourMembersWrong)

/-- 'quadformlaw35.NeighbourBack': WHATEVER THE INPUT: true; the input reads as it did. -/
def neighbourBackSpec : ChangeSpec := { name := "neighbourBack", fn := fun _ => fun
  | [d1, d2, d3, d4, d5] => { results := [.lit (.bool true)], args := [d1, d2, d3, d4, d5] }
  | _ => none }
def neighbourBackRow : OpenClaim := { program := "ytdobfmlmenaajaagreatdoor", sum := "685e7f6a05d9a3a0eca7b9ad1808e76ce00b17d9435fec123ab40ed31e5f11f7", func := "quadform/quadformlaw35.NeighbourBack", spec := "neighbourBack", inPlace := ["math/bits.Add64", "math/bits.Sub64"], unfollowed := true, recurses := true, named := ["quadform/prime.offsets"], apart := false, laid := [("quadform/prime.offsets", laid_quadform_prime_offsets)] }
def NeighbourBackSaid : Prop := neighbourBackRow.holds Tryz.pinned (OpenSpec.ofChange neighbourBackSpec)

/-- ITS FALSE NEIGHBOUR: 'it returns false'. Refute it at one input. -/
def neighbourBackWrong : ChangeSpec := { name := "neighbourBack", fn := fun _ => fun
  | [d1, d2, d3, d4, d5] => { results := [.lit (.bool false)], args := [d1, d2, d3, d4, d5] }
  | _ => none }
def NeighbourBackWrongFalsely : Prop := neighbourBackRow.holds Tryz.pinned (OpenSpec.ofChange neighbourBackWrong)

/- THE SECOND FORM. 'bulk': how many values and letters a reading holds, each counted each time it is reached (what is shared counts as often as it is met; a slice's spare places count too). A statement '..UptoSaid' is the law's where the arguments, and the package variables that the reading takes, are together of bulk at most 1048576: NARROWER than '..Said'. Prove '..Said' where nothing that the law and all that it calls make is longer than what came in: it says more and counts as full. Else prove '..UptoSaid'. A law counts once. -/
mutual
def uptoBulk {H : Type} : DataW H → Nat
  | .lit (.string bytes) => bytes.length + 1
  | .lit _ => 1
  | .nil => 1
  | .ptr d => uptoBulk d + 1
  | .slice elems spare => uptoBulkAll elems + uptoBulkAll spare + 1
  | .agg parts => uptoBulkAll parts + 1
  | .iface _ d => uptoBulk d + 1
  | .map entries => uptoBulkEntries entries + 1
  | .held _ => 1
def uptoBulkAll {H : Type} : List (DataW H) → Nat
  | [] => 0
  | d :: r => uptoBulk d + uptoBulkAll r
def uptoBulkEntries {H : Type} : List (Lit × DataW H) → Nat
  | [] => 0
  | x :: r => uptoBulkEntry x + uptoBulkEntries r
def uptoBulkEntry {H : Type} : Lit × DataW H → Nat
  | (.string bytes, d) => bytes.length + uptoBulk d + 1
  | (_, d) => uptoBulk d + 1
 end
def uptoSmall : (H : Type) → List (DataW H) → Bool := fun _ ds => decide (uptoBulkAll ds ≤ 1048576)
def OpenSpec.upto (s : _root_.Go.ChangeSpec) : _root_.Go.OpenSpec := { _root_.Go.OpenSpec.ofChange s with cond := some uptoSmall }

/-- 'quadformlaw35.NeighbourForm', WHERE WHAT IT READS IS OF BULK AT MOST 1048576: true; the input reads as it did. -/
def neighbourFormUptoRow : OpenClaim := { program := "ytdobfmlmenaajaagreatdoor", sum := "685e7f6a05d9a3a0eca7b9ad1808e76ce00b17d9435fec123ab40ed31e5f11f7", func := "quadform/quadformlaw35.NeighbourForm", spec := "neighbourForm", inPlace := ["math/bits.Add64", "math/bits.Sub64"], unfollowed := true, recurses := true, named := ["quadform/prime.offsets"], apart := false, laid := [("quadform/prime.offsets", laid_quadform_prime_offsets)], narrowed := true }
def NeighbourFormUptoSaid : Prop := neighbourFormUptoRow.holds Tryz.pinned (OpenSpec.upto neighbourFormSpec)

/-- 'quadformlaw35.NeighbourVerify', WHERE WHAT IT READS IS OF BULK AT MOST 1048576: true; the input reads as it did. -/
def neighbourVerifyUptoRow : OpenClaim := { program := "ytdobfmlmenaajaagreatdoor", sum := "685e7f6a05d9a3a0eca7b9ad1808e76ce00b17d9435fec123ab40ed31e5f11f7", func := "quadform/quadformlaw35.NeighbourVerify", spec := "neighbourVerify", inPlace := ["math/bits.Add64", "math/bits.Sub64"], unfollowed := true, recurses := true, named := ["quadform/prime.offsets"], apart := false, laid := [("quadform/prime.offsets", laid_quadform_prime_offsets)], narrowed := true }
def NeighbourVerifyUptoSaid : Prop := neighbourVerifyUptoRow.holds Tryz.pinned (OpenSpec.upto neighbourVerifySpec)

/-- 'quadformlaw35.NeighbourRaw', WHERE WHAT IT READS IS OF BULK AT MOST 1048576: true; the input reads as it did. -/
def neighbourRawUptoRow : OpenClaim := { program := "ytdobfmlmenaajaagreatdoor", sum := "685e7f6a05d9a3a0eca7b9ad1808e76ce00b17d9435fec123ab40ed31e5f11f7", func := "quadform/quadformlaw35.NeighbourRaw", spec := "neighbourRaw", inPlace := ["math/bits.Add64", "math/bits.Sub64"], unfollowed := true, recurses := true, named := ["quadform/prime.offsets"], apart := false, laid := [("quadform/prime.offsets", laid_quadform_prime_offsets)], narrowed := true }
def NeighbourRawUptoSaid : Prop := neighbourRawUptoRow.holds Tryz.pinned (OpenSpec.upto neighbourRawSpec)

/-- 'quadformlaw35.NeighbourKeeps', WHERE WHAT IT READS IS OF BULK AT MOST 1048576: true; the input reads as it did. -/
def neighbourKeepsUptoRow : OpenClaim := { program := "ytdobfmlmenaajaagreatdoor", sum := "685e7f6a05d9a3a0eca7b9ad1808e76ce00b17d9435fec123ab40ed31e5f11f7", func := "quadform/quadformlaw35.NeighbourKeeps", spec := "neighbourKeeps", inPlace := ["math/bits.Add64", "math/bits.Sub64"], unfollowed := true, recurses := true, named := ["quadform/prime.offsets"], apart := false, laid := [("quadform/prime.offsets", laid_quadform_prime_offsets)], narrowed := true }
def NeighbourKeepsUptoSaid : Prop := neighbourKeepsUptoRow.holds Tryz.pinned (OpenSpec.upto neighbourKeepsSpec)

/-- 'quadformlaw35.NeighbourGram', WHERE WHAT IT READS IS OF BULK AT MOST 1048576: true; the input reads as it did. -/
def neighbourGramUptoRow : OpenClaim := { program := "ytdobfmlmenaajaagreatdoor", sum := "685e7f6a05d9a3a0eca7b9ad1808e76ce00b17d9435fec123ab40ed31e5f11f7", func := "quadform/quadformlaw35.NeighbourGram", spec := "neighbourGram", inPlace := ["math/bits.Add64", "math/bits.Sub64"], unfollowed := true, recurses := true, named := ["quadform/prime.offsets"], apart := false, laid := [("quadform/prime.offsets", laid_quadform_prime_offsets)], narrowed := true }
def NeighbourGramUptoSaid : Prop := neighbourGramUptoRow.holds Tryz.pinned (OpenSpec.upto neighbourGramSpec)

/-- 'quadformlaw35.NeighbourIndex', WHERE WHAT IT READS IS OF BULK AT MOST 1048576: true; the input reads as it did. -/
def neighbourIndexUptoRow : OpenClaim := { program := "ytdobfmlmenaajaagreatdoor", sum := "685e7f6a05d9a3a0eca7b9ad1808e76ce00b17d9435fec123ab40ed31e5f11f7", func := "quadform/quadformlaw35.NeighbourIndex", spec := "neighbourIndex", inPlace := ["math/bits.Add64", "math/bits.Sub64"], unfollowed := true, recurses := true, named := ["quadform/prime.offsets"], apart := false, laid := [("quadform/prime.offsets", laid_quadform_prime_offsets)], narrowed := true }
def NeighbourIndexUptoSaid : Prop := neighbourIndexUptoRow.holds Tryz.pinned (OpenSpec.upto neighbourIndexSpec)

/-- 'quadformlaw35.NeighbourMembers', WHERE WHAT IT READS IS OF BULK AT MOST 1048576: true; the input reads as it did. -/
def neighbourMembersUptoRow : OpenClaim := { program := "ytdobfmlmenaajaagreatdoor", sum := "685e7f6a05d9a3a0eca7b9ad1808e76ce00b17d9435fec123ab40ed31e5f11f7", func := "quadform/quadformlaw35.NeighbourMembers", spec := "neighbourMembers", inPlace := ["math/bits.Add64", "math/bits.Sub64"], unfollowed := true, recurses := true, named := ["quadform/prime.offsets"], apart := false, laid := [("quadform/prime.offsets", laid_quadform_prime_offsets)], narrowed := true }
def NeighbourMembersUptoSaid : Prop := neighbourMembersUptoRow.holds Tryz.pinned (OpenSpec.upto neighbourMembersSpec)

/-- 'quadformlaw35.NeighbourBack', WHERE WHAT IT READS IS OF BULK AT MOST 1048576: true; the input reads as it did. -/
def neighbourBackUptoRow : OpenClaim := { program := "ytdobfmlmenaajaagreatdoor", sum := "685e7f6a05d9a3a0eca7b9ad1808e76ce00b17d9435fec123ab40ed31e5f11f7", func := "quadform/quadformlaw35.NeighbourBack", spec := "neighbourBack", inPlace := ["math/bits.Add64", "math/bits.Sub64"], unfollowed := true, recurses := true, named := ["quadform/prime.offsets"], apart := false, laid := [("quadform/prime.offsets", laid_quadform_prime_offsets)], narrowed := true }
def NeighbourBackUptoSaid : Prop := neighbourBackUptoRow.holds Tryz.pinned (OpenSpec.upto neighbourBackSpec)

end Rows
end Go.Proofs.YtdobfmlmenaajaaGreatDoor
