/-
  NARROWER THAN 'FOR EVERY INPUT', by the rows' own cells (each row's printed sentence says how): SockPlays: laid · JournalAnew: laid · JournalOpens: laid · JournalRoom: laid · JournalWhole: laid · JournalCuts: laid.
  DERIVED. THE GIVEN ROWS OF THIS SEAT. 6 by the template 'for every input the law returns true; each argument reads behind the call as it read before'; 0 by the template 'total and deterministic' (their statements: YtgegpjkihbhndaaDoorTotals.lean).
  GIVEN WITH THE SEED: the statements are not yours to turn. If you find one false, say at which input.
  Laid BY PROGRAM, IN A SANDBOX (cutbox-rows.mjs): the forced cells as the released guide's own fill.sh prints them over the translation d7fdd8a595727b13… (all of the seat's roots in one cut). By AI agents, Wed Nov 11 2026. No macro, syntax, notation, axiom, sorry.
-/
import Derived.Test.YtgegpjkihbhndaaDoorChecked
import GoSem.Claim
import GoSem.ClaimJoined
import GoSem.ClaimMapViews
import Derived.JoinedTies
import Derived.KernelRfl
namespace Go.Proofs.YtgegpjkihbhndaaDoor
/- THE CELL 'sum', in the pinned program and in every row, IS THE sha256 OF THE DUMP (.gsa) THAT YtgegpjkihbhndaaDoorProg.lean LOADS. Nothing in Lean hashes anything: it is a label: what it is worth is what the hold of that sum in a sandbox is worth. -/
noncomputable def Tryd.pinned : Pinned := { name := "ytgegpjkihbhndaadoor", sum := "d7fdd8a595727b136ba45f04a10070fb014bd5dbcb8935ca1fa94800c45d7fe6", checked := Tryd.checked }
namespace Rows
def none {H : Type} : Left H := { results := [], args := [] }

/- WHAT THE LISTED PACKAGE-LEVEL VARIABLES READ AS WHEN THE CALL BEGINS. Each datum BY PROGRAM (the guide's laid-datum.mjs) off the statement by which the dump's own 'gosem.cut.vars' lays the variable. In a bare row this is a premise. The card (YtgegpjkihbhndaaDoorCards.lean) ties it to the program's text. -/
def laid_jackfield_api_ErrRange {H : Type} : DataW H := .iface "*errors.errorString" (.ptr (.agg [.lit (.string [106, 97, 99, 107, 102, 105, 101, 108, 100, 58, 32, 114, 97, 110, 103, 101])]))
def laid_jackfield_api_ErrShort {H : Type} : DataW H := .iface "*errors.errorString" (.ptr (.agg [.lit (.string [106, 97, 99, 107, 102, 105, 101, 108, 100, 58, 32, 115, 104, 111, 114, 116])]))
def laid_jackfield_api_ErrLong {H : Type} : DataW H := .iface "*errors.errorString" (.ptr (.agg [.lit (.string [106, 97, 99, 107, 102, 105, 101, 108, 100, 58, 32, 108, 111, 110, 103])]))
def laid_jackfield_api_ErrTail {H : Type} : DataW H := .iface "*errors.errorString" (.ptr (.agg [.lit (.string [106, 97, 99, 107, 102, 105, 101, 108, 100, 58, 32, 116, 97, 105, 108])]))
def laid_jackfield_api_ErrBroken {H : Type} : DataW H := .iface "*errors.errorString" (.ptr (.agg [.lit (.string [106, 97, 99, 107, 102, 105, 101, 108, 100, 58, 32, 98, 114, 111, 107, 101, 110])]))
def laid_jackfield_api_ErrPower {H : Type} : DataW H := .iface "*errors.errorString" (.ptr (.agg [.lit (.string [106, 97, 99, 107, 102, 105, 101, 108, 100, 58, 32, 112, 111, 119, 101, 114])]))
def laid_jackfield_api_ErrFrame {H : Type} : DataW H := .iface "*errors.errorString" (.ptr (.agg [.lit (.string [106, 97, 99, 107, 102, 105, 101, 108, 100, 58, 32, 102, 114, 97, 109, 101])]))
def laid_jackfield_api_ErrFull {H : Type} : DataW H := .iface "*errors.errorString" (.ptr (.agg [.lit (.string [106, 97, 99, 107, 102, 105, 101, 108, 100, 58, 32, 102, 117, 108, 108])]))
def laid_jackfield_api_ErrGap {H : Type} : DataW H := .iface "*errors.errorString" (.ptr (.agg [.lit (.string [106, 97, 99, 107, 102, 105, 101, 108, 100, 58, 32, 103, 97, 112])]))
def laid_jackfield_api_ErrName {H : Type} : DataW H := .iface "*errors.errorString" (.ptr (.agg [.lit (.string [106, 97, 99, 107, 102, 105, 101, 108, 100, 58, 32, 110, 97, 109, 101])]))
def laid_jackfield_api_ErrTaken {H : Type} : DataW H := .iface "*errors.errorString" (.ptr (.agg [.lit (.string [106, 97, 99, 107, 102, 105, 101, 108, 100, 58, 32, 116, 97, 107, 101, 110])]))
def laid_jackfield_api_ErrNone {H : Type} : DataW H := .iface "*errors.errorString" (.ptr (.agg [.lit (.string [106, 97, 99, 107, 102, 105, 101, 108, 100, 58, 32, 110, 111, 110, 101])]))
def laid_jackfield_api_ErrOwner {H : Type} : DataW H := .iface "*errors.errorString" (.ptr (.agg [.lit (.string [106, 97, 99, 107, 102, 105, 101, 108, 100, 58, 32, 111, 119, 110, 101, 114])]))
def laid_jackfield_api_ErrProof {H : Type} : DataW H := .iface "*errors.errorString" (.ptr (.agg [.lit (.string [106, 97, 99, 107, 102, 105, 101, 108, 100, 58, 32, 112, 114, 111, 111, 102])]))
def laid_jackfield_api_ErrWindow {H : Type} : DataW H := .iface "*errors.errorString" (.ptr (.agg [.lit (.string [106, 97, 99, 107, 102, 105, 101, 108, 100, 58, 32, 119, 105, 110, 100, 111, 119])]))
def laid_jackfield_api_ErrStream {H : Type} : DataW H := .iface "*errors.errorString" (.ptr (.agg [.lit (.string [106, 97, 99, 107, 102, 105, 101, 108, 100, 58, 32, 115, 116, 114, 101, 97, 109])]))
def laid_jackfield_api_ErrState {H : Type} : DataW H := .iface "*errors.errorString" (.ptr (.agg [.lit (.string [106, 97, 99, 107, 102, 105, 101, 108, 100, 58, 32, 115, 116, 97, 116, 101])]))
def laid_jackfield_api_ErrBusy {H : Type} : DataW H := .iface "*errors.errorString" (.ptr (.agg [.lit (.string [106, 97, 99, 107, 102, 105, 101, 108, 100, 58, 32, 98, 117, 115, 121])]))
def laid_jackfield_hash_round {H : Type} : DataW H := .agg [.lit (.int .u32 1116352408), .lit (.int .u32 1899447441), .lit (.int .u32 3049323471), .lit (.int .u32 3921009573), .lit (.int .u32 961987163), .lit (.int .u32 1508970993), .lit (.int .u32 2453635748), .lit (.int .u32 2870763221), .lit (.int .u32 3624381080), .lit (.int .u32 310598401), .lit (.int .u32 607225278), .lit (.int .u32 1426881987), .lit (.int .u32 1925078388), .lit (.int .u32 2162078206), .lit (.int .u32 2614888103), .lit (.int .u32 3248222580), .lit (.int .u32 3835390401), .lit (.int .u32 4022224774), .lit (.int .u32 264347078), .lit (.int .u32 604807628), .lit (.int .u32 770255983), .lit (.int .u32 1249150122), .lit (.int .u32 1555081692), .lit (.int .u32 1996064986), .lit (.int .u32 2554220882), .lit (.int .u32 2821834349), .lit (.int .u32 2952996808), .lit (.int .u32 3210313671), .lit (.int .u32 3336571891), .lit (.int .u32 3584528711), .lit (.int .u32 113926993), .lit (.int .u32 338241895), .lit (.int .u32 666307205), .lit (.int .u32 773529912), .lit (.int .u32 1294757372), .lit (.int .u32 1396182291), .lit (.int .u32 1695183700), .lit (.int .u32 1986661051), .lit (.int .u32 2177026350), .lit (.int .u32 2456956037), .lit (.int .u32 2730485921), .lit (.int .u32 2820302411), .lit (.int .u32 3259730800), .lit (.int .u32 3345764771), .lit (.int .u32 3516065817), .lit (.int .u32 3600352804), .lit (.int .u32 4094571909), .lit (.int .u32 275423344), .lit (.int .u32 430227734), .lit (.int .u32 506948616), .lit (.int .u32 659060556), .lit (.int .u32 883997877), .lit (.int .u32 958139571), .lit (.int .u32 1322822218), .lit (.int .u32 1537002063), .lit (.int .u32 1747873779), .lit (.int .u32 1955562222), .lit (.int .u32 2024104815), .lit (.int .u32 2227730452), .lit (.int .u32 2361852424), .lit (.int .u32 2428436474), .lit (.int .u32 2756734187), .lit (.int .u32 3204031479), .lit (.int .u32 3329325298)]

/-- 'jackfieldlaw03.SockPlays': WHATEVER THE INPUT: true; the input reads as it did. -/
def sockPlaysSpec : ChangeSpec := { name := "sockPlays", fn := fun _ => fun
  | [d1, d2] => { results := [.lit (.bool true)], args := [d1, d2] }
  | _ => none }
def sockPlaysRow : OpenClaim := { program := "ytgegpjkihbhndaadoor", sum := "d7fdd8a595727b136ba45f04a10070fb014bd5dbcb8935ca1fa94800c45d7fe6", func := "jackfield/jackfieldlaw03.SockPlays", spec := "sockPlays", named := ["jackfield/api.ErrRange", "jackfield/api.ErrBroken", "jackfield/api.ErrState", "jackfield/api.ErrShort", "jackfield/api.ErrLong", "jackfield/api.ErrTail", "jackfield/api.ErrPower", "jackfield/api.ErrFrame", "jackfield/api.ErrFull", "jackfield/api.ErrGap", "jackfield/api.ErrName", "jackfield/api.ErrTaken", "jackfield/api.ErrNone", "jackfield/api.ErrOwner", "jackfield/api.ErrProof", "jackfield/api.ErrWindow", "jackfield/api.ErrStream", "jackfield/api.ErrBusy"], apart := false, laid := [("jackfield/api.ErrRange", laid_jackfield_api_ErrRange), ("jackfield/api.ErrShort", laid_jackfield_api_ErrShort), ("jackfield/api.ErrLong", laid_jackfield_api_ErrLong), ("jackfield/api.ErrTail", laid_jackfield_api_ErrTail), ("jackfield/api.ErrBroken", laid_jackfield_api_ErrBroken), ("jackfield/api.ErrPower", laid_jackfield_api_ErrPower), ("jackfield/api.ErrFrame", laid_jackfield_api_ErrFrame), ("jackfield/api.ErrFull", laid_jackfield_api_ErrFull), ("jackfield/api.ErrGap", laid_jackfield_api_ErrGap), ("jackfield/api.ErrName", laid_jackfield_api_ErrName), ("jackfield/api.ErrTaken", laid_jackfield_api_ErrTaken), ("jackfield/api.ErrNone", laid_jackfield_api_ErrNone), ("jackfield/api.ErrOwner", laid_jackfield_api_ErrOwner), ("jackfield/api.ErrProof", laid_jackfield_api_ErrProof), ("jackfield/api.ErrWindow", laid_jackfield_api_ErrWindow), ("jackfield/api.ErrStream", laid_jackfield_api_ErrStream), ("jackfield/api.ErrState", laid_jackfield_api_ErrState), ("jackfield/api.ErrBusy", laid_jackfield_api_ErrBusy)] }
def SockPlaysSaid : Prop := sockPlaysRow.holds Tryd.pinned (OpenSpec.ofChange sockPlaysSpec)

/-- ITS FALSE NEIGHBOUR: 'it returns false'. Refute it at one input. -/
def sockPlaysWrong : ChangeSpec := { name := "sockPlays", fn := fun _ => fun
  | [d1, d2] => { results := [.lit (.bool false)], args := [d1, d2] }
  | _ => none }
def SockPlaysWrongFalsely : Prop := sockPlaysRow.holds Tryd.pinned (OpenSpec.ofChange sockPlaysWrong)

/-- 'jackfieldlaw07.JournalAnew': WHATEVER THE INPUT: true; the input reads as it did. -/
def journalAnewSpec : ChangeSpec := { name := "journalAnew", fn := fun _ => fun
  | [d1, d2] => { results := [.lit (.bool true)], args := [d1, d2] }
  | _ => none }
def journalAnewRow : OpenClaim := { program := "ytgegpjkihbhndaadoor", sum := "d7fdd8a595727b136ba45f04a10070fb014bd5dbcb8935ca1fa94800c45d7fe6", func := "jackfield/jackfieldlaw07.JournalAnew", spec := "journalAnew", inPlace := ["internal/bytealg.IndexByteString", "math.Float64frombits", "math.Float64bits", "internal/reflectlite.TypeOf"], unfollowed := true, recurses := true, named := ["jackfield/api.ErrNone", "jackfield/api.ErrRange", "jackfield/api.ErrLong", "jackfield/api.ErrFull", "jackfield/api.ErrPower", "jackfield/hash.round", "jackfield/api.ErrState", "jackfield/api.ErrTail", "jackfield/api.ErrShort"], apart := false, laid := [("jackfield/api.ErrRange", laid_jackfield_api_ErrRange), ("jackfield/api.ErrShort", laid_jackfield_api_ErrShort), ("jackfield/api.ErrLong", laid_jackfield_api_ErrLong), ("jackfield/api.ErrTail", laid_jackfield_api_ErrTail), ("jackfield/api.ErrPower", laid_jackfield_api_ErrPower), ("jackfield/api.ErrFull", laid_jackfield_api_ErrFull), ("jackfield/api.ErrNone", laid_jackfield_api_ErrNone), ("jackfield/api.ErrState", laid_jackfield_api_ErrState), ("jackfield/hash.round", laid_jackfield_hash_round)] }
def JournalAnewSaid : Prop := journalAnewRow.holds Tryd.pinned (OpenSpec.ofChange journalAnewSpec)

/-- ITS FALSE NEIGHBOUR: 'it returns false'. Refute it at one input. -/
def journalAnewWrong : ChangeSpec := { name := "journalAnew", fn := fun _ => fun
  | [d1, d2] => { results := [.lit (.bool false)], args := [d1, d2] }
  | _ => none }
def JournalAnewWrongFalsely : Prop := journalAnewRow.holds Tryd.pinned (OpenSpec.ofChange journalAnewWrong)

/-- 'jackfieldlaw07.JournalOpens': WHATEVER THE INPUT: true; the input reads as it did. -/
def journalOpensSpec : ChangeSpec := { name := "journalOpens", fn := fun _ => fun
  | [d1, d2] => { results := [.lit (.bool true)], args := [d1, d2] }
  | _ => none }
def journalOpensRow : OpenClaim := { program := "ytgegpjkihbhndaadoor", sum := "d7fdd8a595727b136ba45f04a10070fb014bd5dbcb8935ca1fa94800c45d7fe6", func := "jackfield/jackfieldlaw07.JournalOpens", spec := "journalOpens", inPlace := ["internal/bytealg.IndexByteString", "math.Float64frombits", "math.Float64bits", "internal/reflectlite.TypeOf"], unfollowed := true, recurses := true, named := ["jackfield/api.ErrPower", "jackfield/api.ErrRange", "jackfield/api.ErrLong", "jackfield/api.ErrFull", "jackfield/hash.round", "jackfield/api.ErrState", "jackfield/api.ErrTail", "jackfield/api.ErrShort", "jackfield/api.ErrNone"], apart := false, laid := [("jackfield/api.ErrRange", laid_jackfield_api_ErrRange), ("jackfield/api.ErrShort", laid_jackfield_api_ErrShort), ("jackfield/api.ErrLong", laid_jackfield_api_ErrLong), ("jackfield/api.ErrTail", laid_jackfield_api_ErrTail), ("jackfield/api.ErrPower", laid_jackfield_api_ErrPower), ("jackfield/api.ErrFull", laid_jackfield_api_ErrFull), ("jackfield/api.ErrNone", laid_jackfield_api_ErrNone), ("jackfield/api.ErrState", laid_jackfield_api_ErrState), ("jackfield/hash.round", laid_jackfield_hash_round)] }
def JournalOpensSaid : Prop := journalOpensRow.holds Tryd.pinned (OpenSpec.ofChange journalOpensSpec)

/-- ITS FALSE NEIGHBOUR: 'it returns false'. Refute it at one input. -/
def journalOpensWrong : ChangeSpec := { name := "journalOpens", fn := fun _ => fun
  | [d1, d2] => { results := [.lit (.bool false)], args := [d1, d2] }
  | _ => none }
def JournalOpensWrongFalsely : Prop := journalOpensRow.holds Tryd.pinned (OpenSpec.ofChange journalOpensWrong)

/-- 'jackfieldlaw07.JournalRoom': WHATEVER THE INPUT: true; the input reads as it did. -/
def journalRoomSpec : ChangeSpec := { name := "journalRoom", fn := fun _ => fun
  | [d1, d2] => { results := [.lit (.bool true)], args := [d1, d2] }
  | _ => none }
def journalRoomRow : OpenClaim := { program := "ytgegpjkihbhndaadoor", sum := "d7fdd8a595727b136ba45f04a10070fb014bd5dbcb8935ca1fa94800c45d7fe6", func := "jackfield/jackfieldlaw07.JournalRoom", spec := "journalRoom", inPlace := ["internal/bytealg.IndexByteString", "math.Float64frombits", "math.Float64bits", "internal/reflectlite.TypeOf"], unfollowed := true, recurses := true, named := ["jackfield/api.ErrLong", "jackfield/api.ErrFull", "jackfield/api.ErrRange", "jackfield/api.ErrPower", "jackfield/hash.round", "jackfield/api.ErrState", "jackfield/api.ErrTail", "jackfield/api.ErrShort", "jackfield/api.ErrNone"], apart := false, laid := [("jackfield/api.ErrRange", laid_jackfield_api_ErrRange), ("jackfield/api.ErrShort", laid_jackfield_api_ErrShort), ("jackfield/api.ErrLong", laid_jackfield_api_ErrLong), ("jackfield/api.ErrTail", laid_jackfield_api_ErrTail), ("jackfield/api.ErrPower", laid_jackfield_api_ErrPower), ("jackfield/api.ErrFull", laid_jackfield_api_ErrFull), ("jackfield/api.ErrNone", laid_jackfield_api_ErrNone), ("jackfield/api.ErrState", laid_jackfield_api_ErrState), ("jackfield/hash.round", laid_jackfield_hash_round)] }
def JournalRoomSaid : Prop := journalRoomRow.holds Tryd.pinned (OpenSpec.ofChange journalRoomSpec)

/-- ITS FALSE NEIGHBOUR: 'it returns false'. Refute it at one input. -/
def journalRoomWrong : ChangeSpec := { name := "journalRoom", fn := fun _ => fun
  | [d1, d2] => { results := [.lit (.bool false)], args := [d1, d2] }
  | _ => none }
def JournalRoomWrongFalsely : Prop := journalRoomRow.holds Tryd.pinned (OpenSpec.ofChange journalRoomWrong)

/-- 'jackfieldlaw07.JournalWhole': WHATEVER THE INPUT: true; the input reads as it did. -/
def journalWholeSpec : ChangeSpec := { name := "journalWhole", fn := fun _ => fun
  | [d] => { results := [.lit (.bool true)], args := [d] }
  | _ => none }
def journalWholeRow : OpenClaim := { program := "ytgegpjkihbhndaadoor", sum := "d7fdd8a595727b136ba45f04a10070fb014bd5dbcb8935ca1fa94800c45d7fe6", func := "jackfield/jackfieldlaw07.JournalWhole", spec := "journalWhole", inPlace := ["internal/bytealg.IndexByteString", "math.Float64frombits", "math.Float64bits", "internal/reflectlite.TypeOf"], unfollowed := true, recurses := true, named := ["jackfield/api.ErrPower", "jackfield/api.ErrFull", "jackfield/api.ErrRange", "jackfield/api.ErrLong", "jackfield/hash.round", "jackfield/api.ErrState", "jackfield/api.ErrTail", "jackfield/api.ErrShort", "jackfield/api.ErrNone"], apart := false, laid := [("jackfield/api.ErrRange", laid_jackfield_api_ErrRange), ("jackfield/api.ErrShort", laid_jackfield_api_ErrShort), ("jackfield/api.ErrLong", laid_jackfield_api_ErrLong), ("jackfield/api.ErrTail", laid_jackfield_api_ErrTail), ("jackfield/api.ErrPower", laid_jackfield_api_ErrPower), ("jackfield/api.ErrFull", laid_jackfield_api_ErrFull), ("jackfield/api.ErrNone", laid_jackfield_api_ErrNone), ("jackfield/api.ErrState", laid_jackfield_api_ErrState), ("jackfield/hash.round", laid_jackfield_hash_round)] }
def JournalWholeSaid : Prop := journalWholeRow.holds Tryd.pinned (OpenSpec.ofChange journalWholeSpec)

/-- ITS FALSE NEIGHBOUR: 'it returns false'. Refute it at one input. -/
def journalWholeWrong : ChangeSpec := { name := "journalWhole", fn := fun _ => fun
  | [d] => { results := [.lit (.bool false)], args := [d] }
  | _ => none }
def JournalWholeWrongFalsely : Prop := journalWholeRow.holds Tryd.pinned (OpenSpec.ofChange journalWholeWrong)

/-- 'jackfieldlaw07.JournalCuts': WHATEVER THE INPUT: true; the input reads as it did. -/
def journalCutsSpec : ChangeSpec := { name := "journalCuts", fn := fun _ => fun
  | [d1, d2, d3] => { results := [.lit (.bool true)], args := [d1, d2, d3] }
  | _ => none }
def journalCutsRow : OpenClaim := { program := "ytgegpjkihbhndaadoor", sum := "d7fdd8a595727b136ba45f04a10070fb014bd5dbcb8935ca1fa94800c45d7fe6", func := "jackfield/jackfieldlaw07.JournalCuts", spec := "journalCuts", inPlace := ["internal/bytealg.IndexByteString", "math.Float64frombits", "math.Float64bits", "internal/reflectlite.TypeOf"], unfollowed := true, recurses := true, named := ["jackfield/api.ErrPower", "jackfield/api.ErrRange", "jackfield/api.ErrLong", "jackfield/api.ErrFull", "jackfield/hash.round", "jackfield/api.ErrState", "jackfield/api.ErrTail", "jackfield/api.ErrShort", "jackfield/api.ErrNone"], apart := false, laid := [("jackfield/api.ErrRange", laid_jackfield_api_ErrRange), ("jackfield/api.ErrShort", laid_jackfield_api_ErrShort), ("jackfield/api.ErrLong", laid_jackfield_api_ErrLong), ("jackfield/api.ErrTail", laid_jackfield_api_ErrTail), ("jackfield/api.ErrPower", laid_jackfield_api_ErrPower), ("jackfield/api.ErrFull", laid_jackfield_api_ErrFull), ("jackfield/api.ErrNone", laid_jackfield_api_ErrNone), ("jackfield/api.ErrState", laid_jackfield_api_ErrState), ("jackfield/hash.round", laid_jackfield_hash_round)] }
def JournalCutsSaid : Prop := journalCutsRow.holds Tryd.pinned (OpenSpec.ofChange journalCutsSpec)

/-- ITS FALSE NEIGHBOUR: 'it returns false'. Refute it at one input. -/
def journalCutsWrong : ChangeSpec := { name := "journalCuts", fn := fun _ => fun
  | [d1, d2, d3] => { results := [.lit (.bool false)], args := [d1, d2, d3] }
  | _ => none }
def JournalCutsWrongFalsely : Prop := journalCutsRow.holds Tryd.pinned (OpenSpec.ofChange journalCutsWrong)

/- THE SECOND FORM. 'bulk': how many values and letters a reading holds, each counted each time it is reached (what is shared counts as often as it is met; a slice's spare places count too). A statement '..UptoSaid' is the law's where the arguments, and the package variables that the reading takes, are together of bulk at most 1048576: NARROWER than '..Said'. Prove '..Said' where nothing that the law and all that it calls make is longer than what came in: it says more and counts as full. Else prove '..UptoSaid'. A law counts once. -/
mutual
def uptoBulk {H : Type} : DataW H → Nat
  | .lit (.string bytes) => bytes.length + 1
  | .lit _ => 1
  | .nil => 1
  | .ptr d => uptoBulk d + 1
  | .slice elems spare => uptoBulkAll elems + uptoBulkAll spare + 1
  | .agg parts => uptoBulkAll parts + 1
  | .iface _ d => uptoBulk d + 1
  | .map entries => uptoBulkEntries entries + 1
  | .held _ => 1
def uptoBulkAll {H : Type} : List (DataW H) → Nat
  | [] => 0
  | d :: r => uptoBulk d + uptoBulkAll r
def uptoBulkEntries {H : Type} : List (Lit × DataW H) → Nat
  | [] => 0
  | x :: r => uptoBulkEntry x + uptoBulkEntries r
def uptoBulkEntry {H : Type} : Lit × DataW H → Nat
  | (.string bytes, d) => bytes.length + uptoBulk d + 1
  | (_, d) => uptoBulk d + 1
 end
def uptoSmall : (H : Type) → List (DataW H) → Bool := fun _ ds => decide (uptoBulkAll ds ≤ 1048576)
def OpenSpec.upto (s : _root_.Go.ChangeSpec) : _root_.Go.OpenSpec := { _root_.Go.OpenSpec.ofChange s with cond := some uptoSmall }

/-- 'jackfieldlaw03.SockPlays', WHERE WHAT IT READS IS OF BULK AT MOST 1048576: true; the input reads as it did. -/
def sockPlaysUptoRow : OpenClaim := { program := "ytgegpjkihbhndaadoor", sum := "d7fdd8a595727b136ba45f04a10070fb014bd5dbcb8935ca1fa94800c45d7fe6", func := "jackfield/jackfieldlaw03.SockPlays", spec := "sockPlays", named := ["jackfield/api.ErrRange", "jackfield/api.ErrBroken", "jackfield/api.ErrState", "jackfield/api.ErrShort", "jackfield/api.ErrLong", "jackfield/api.ErrTail", "jackfield/api.ErrPower", "jackfield/api.ErrFrame", "jackfield/api.ErrFull", "jackfield/api.ErrGap", "jackfield/api.ErrName", "jackfield/api.ErrTaken", "jackfield/api.ErrNone", "jackfield/api.ErrOwner", "jackfield/api.ErrProof", "jackfield/api.ErrWindow", "jackfield/api.ErrStream", "jackfield/api.ErrBusy"], apart := false, laid := [("jackfield/api.ErrRange", laid_jackfield_api_ErrRange), ("jackfield/api.ErrShort", laid_jackfield_api_ErrShort), ("jackfield/api.ErrLong", laid_jackfield_api_ErrLong), ("jackfield/api.ErrTail", laid_jackfield_api_ErrTail), ("jackfield/api.ErrBroken", laid_jackfield_api_ErrBroken), ("jackfield/api.ErrPower", laid_jackfield_api_ErrPower), ("jackfield/api.ErrFrame", laid_jackfield_api_ErrFrame), ("jackfield/api.ErrFull", laid_jackfield_api_ErrFull), ("jackfield/api.ErrGap", laid_jackfield_api_ErrGap), ("jackfield/api.ErrName", laid_jackfield_api_ErrName), ("jackfield/api.ErrTaken", laid_jackfield_api_ErrTaken), ("jackfield/api.ErrNone", laid_jackfield_api_ErrNone), ("jackfield/api.ErrOwner", laid_jackfield_api_ErrOwner), ("jackfield/api.ErrProof", laid_jackfield_api_ErrProof), ("jackfield/api.ErrWindow", laid_jackfield_api_ErrWindow), ("jackfield/api.ErrStream", laid_jackfield_api_ErrStream), ("jackfield/api.ErrState", laid_jackfield_api_ErrState), ("jackfield/api.ErrBusy", laid_jackfield_api_ErrBusy)], narrowed := true }
def SockPlaysUptoSaid : Prop := sockPlaysUptoRow.holds Tryd.pinned (OpenSpec.upto sockPlaysSpec)

/-- 'jackfieldlaw07.JournalAnew', WHERE WHAT IT READS IS OF BULK AT MOST 1048576: true; the input reads as it did. -/
def journalAnewUptoRow : OpenClaim := { program := "ytgegpjkihbhndaadoor", sum := "d7fdd8a595727b136ba45f04a10070fb014bd5dbcb8935ca1fa94800c45d7fe6", func := "jackfield/jackfieldlaw07.JournalAnew", spec := "journalAnew", inPlace := ["internal/bytealg.IndexByteString", "math.Float64frombits", "math.Float64bits", "internal/reflectlite.TypeOf"], unfollowed := true, recurses := true, named := ["jackfield/api.ErrNone", "jackfield/api.ErrRange", "jackfield/api.ErrLong", "jackfield/api.ErrFull", "jackfield/api.ErrPower", "jackfield/hash.round", "jackfield/api.ErrState", "jackfield/api.ErrTail", "jackfield/api.ErrShort"], apart := false, laid := [("jackfield/api.ErrRange", laid_jackfield_api_ErrRange), ("jackfield/api.ErrShort", laid_jackfield_api_ErrShort), ("jackfield/api.ErrLong", laid_jackfield_api_ErrLong), ("jackfield/api.ErrTail", laid_jackfield_api_ErrTail), ("jackfield/api.ErrPower", laid_jackfield_api_ErrPower), ("jackfield/api.ErrFull", laid_jackfield_api_ErrFull), ("jackfield/api.ErrNone", laid_jackfield_api_ErrNone), ("jackfield/api.ErrState", laid_jackfield_api_ErrState), ("jackfield/hash.round", laid_jackfield_hash_round)], narrowed := true }
def JournalAnewUptoSaid : Prop := journalAnewUptoRow.holds Tryd.pinned (OpenSpec.upto journalAnewSpec)

/-- 'jackfieldlaw07.JournalOpens', WHERE WHAT IT READS IS OF BULK AT MOST 1048576: true; the input reads as it did. -/
def journalOpensUptoRow : OpenClaim := { program := "ytgegpjkihbhndaadoor", sum := "d7fdd8a595727b136ba45f04a10070fb014bd5dbcb8935ca1fa94800c45d7fe6", func := "jackfield/jackfieldlaw07.JournalOpens", spec := "journalOpens", inPlace := ["internal/bytealg.IndexByteString", "math.Float64frombits", "math.Float64bits", "internal/reflectlite.TypeOf"], unfollowed := true, recurses := true, named := ["jackfield/api.ErrPower", "jackfield/api.ErrRange", "jackfield/api.ErrLong", "jackfield/api.ErrFull", "jackfield/hash.round", "jackfield/api.ErrState", "jackfield/api.ErrTail", "jackfield/api.ErrShort", "jackfield/api.ErrNone"], apart := false, laid := [("jackfield/api.ErrRange", laid_jackfield_api_ErrRange), ("jackfield/api.ErrShort", laid_jackfield_api_ErrShort), ("jackfield/api.ErrLong", laid_jackfield_api_ErrLong), ("jackfield/api.ErrTail", laid_jackfield_api_ErrTail), ("jackfield/api.ErrPower", laid_jackfield_api_ErrPower), ("jackfield/api.ErrFull", laid_jackfield_api_ErrFull), ("jackfield/api.ErrNone", laid_jackfield_api_ErrNone), ("jackfield/api.ErrState", laid_jackfield_api_ErrState), ("jackfield/hash.round", laid_jackfield_hash_round)], narrowed := true }
def JournalOpensUptoSaid : Prop := journalOpensUptoRow.holds Tryd.pinned (OpenSpec.upto journalOpensSpec)

/-- 'jackfieldlaw07.JournalRoom', WHERE WHAT IT READS IS OF BULK AT MOST 1048576: true; the input reads as it did. -/
def journalRoomUptoRow : OpenClaim := { program := "ytgegpjkihbhndaadoor", sum := "d7fdd8a595727b136ba45f04a10070fb014bd5dbcb8935ca1fa94800c45d7fe6", func := "jackfield/jackfieldlaw07.JournalRoom", spec := "journalRoom", inPlace := ["internal/bytealg.IndexByteString", "math.Float64frombits", "math.Float64bits", "internal/reflectlite.TypeOf"], unfollowed := true, recurses := true, named := ["jackfield/api.ErrLong", "jackfield/api.ErrFull", "jackfield/api.ErrRange", "jackfield/api.ErrPower", "jackfield/hash.round", "jackfield/api.ErrState", "jackfield/api.ErrTail", "jackfield/api.ErrShort", "jackfield/api.ErrNone"], apart := false, laid := [("jackfield/api.ErrRange", laid_jackfield_api_ErrRange), ("jackfield/api.ErrShort", laid_jackfield_api_ErrShort), ("jackfield/api.ErrLong", laid_jackfield_api_ErrLong), ("jackfield/api.ErrTail", laid_jackfield_api_ErrTail), ("jackfield/api.ErrPower", laid_jackfield_api_ErrPower), ("jackfield/api.ErrFull", laid_jackfield_api_ErrFull), ("jackfield/api.ErrNone", laid_jackfield_api_ErrNone), ("jackfield/api.ErrState", laid_jackfield_api_ErrState), ("jackfield/hash.round", laid_jackfield_hash_round)], narrowed := true }
def JournalRoomUptoSaid : Prop := journalRoomUptoRow.holds Tryd.pinned (OpenSpec.upto journalRoomSpec)

/-- 'jackfieldlaw07.JournalWhole', WHERE WHAT IT READS IS OF BULK AT MOST 1048576: true; the input reads as it did. -/
def journalWholeUptoRow : OpenClaim := { program := "ytgegpjkihbhndaadoor", sum := "d7fdd8a595727b136ba45f04a10070fb014bd5dbcb8935ca1fa94800c45d7fe6", func := "jackfield/jackfieldlaw07.JournalWhole", spec := "journalWhole", inPlace := ["internal/bytealg.IndexByteString", "math.Float64frombits", "math.Float64bits", "internal/reflectlite.TypeOf"], unfollowed := true, recurses := true, named := ["jackfield/api.ErrPower", "jackfield/api.ErrFull", "jackfield/api.ErrRange", "jackfield/api.ErrLong", "jackfield/hash.round", "jackfield/api.ErrState", "jackfield/api.ErrTail", "jackfield/api.ErrShort", "jackfield/api.ErrNone"], apart := false, laid := [("jackfield/api.ErrRange", laid_jackfield_api_ErrRange), ("jackfield/api.ErrShort", laid_jackfield_api_ErrShort), ("jackfield/api.ErrLong", laid_jackfield_api_ErrLong), ("jackfield/api.ErrTail", laid_jackfield_api_ErrTail), ("jackfield/api.ErrPower", laid_jackfield_api_ErrPower), ("jackfield/api.ErrFull", laid_jackfield_api_ErrFull), ("jackfield/api.ErrNone", laid_jackfield_api_ErrNone), ("jackfield/api.ErrState", laid_jackfield_api_ErrState), ("jackfield/hash.round", laid_jackfield_hash_round)], narrowed := true }
def JournalWholeUptoSaid : Prop := journalWholeUptoRow.holds Tryd.pinned (OpenSpec.upto journalWholeSpec)

/-- 'jackfieldlaw07.JournalCuts', WHERE WHAT IT READS IS OF BULK AT MOST 1048576: true; the input reads as it did. -/
def journalCutsUptoRow : OpenClaim := { program := "ytgegpjkihbhndaadoor", sum := "d7fdd8a595727b136ba45f04a10070fb014bd5dbcb8935ca1fa94800c45d7fe6", func := "jackfield/jackfieldlaw07.JournalCuts", spec := "journalCuts", inPlace := ["internal/bytealg.IndexByteString", "math.Float64frombits", "math.Float64bits", "internal/reflectlite.TypeOf"], unfollowed := true, recurses := true, named := ["jackfield/api.ErrPower", "jackfield/api.ErrRange", "jackfield/api.ErrLong", "jackfield/api.ErrFull", "jackfield/hash.round", "jackfield/api.ErrState", "jackfield/api.ErrTail", "jackfield/api.ErrShort", "jackfield/api.ErrNone"], apart := false, laid := [("jackfield/api.ErrRange", laid_jackfield_api_ErrRange), ("jackfield/api.ErrShort", laid_jackfield_api_ErrShort), ("jackfield/api.ErrLong", laid_jackfield_api_ErrLong), ("jackfield/api.ErrTail", laid_jackfield_api_ErrTail), ("jackfield/api.ErrPower", laid_jackfield_api_ErrPower), ("jackfield/api.ErrFull", laid_jackfield_api_ErrFull), ("jackfield/api.ErrNone", laid_jackfield_api_ErrNone), ("jackfield/api.ErrState", laid_jackfield_api_ErrState), ("jackfield/hash.round", laid_jackfield_hash_round)], narrowed := true }
def JournalCutsUptoSaid : Prop := journalCutsUptoRow.holds Tryd.pinned (OpenSpec.upto journalCutsSpec)

end Rows
end Go.Proofs.YtgegpjkihbhndaaDoor
