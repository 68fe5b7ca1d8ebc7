/-
  NARROWER THAN 'FOR EVERY INPUT', by the rows' own cells (each row's printed sentence says how): SealApart: laid · SealSeals: laid · SealLens: laid · ShaSums: laid · ShaParts: laid · ShaBad: laid · ShaHex: laid · ShaBack: laid · SealClashes: laid · SealTwo: laid.
  DERIVED. THE GIVEN ROWS OF THIS SEAT. 10 by the template 'for every input the law returns true; each argument reads behind the call as it read before'; 0 by the template 'total and deterministic' (their statements: YtjcfimnijpcjmaaDoorTotals.lean).
  GIVEN WITH THE SEED: the statements are not yours to turn. If you find one false, say at which input.
  Laid BY PROGRAM, IN A SANDBOX (cutbox-rows.mjs): the forced cells as the released guide's own fill.sh prints them over the translation d9817afc8c154c65… (all of the seat's roots in one cut). By AI agents, Wed Nov 11 2026. No macro, syntax, notation, axiom, sorry.
-/
import Derived.Test.YtjcfimnijpcjmaaDoorChecked
import GoSem.Claim
import GoSem.ClaimJoined
import GoSem.ClaimMapViews
import Derived.JoinedTies
import Derived.KernelRfl
namespace Go.Proofs.YtjcfimnijpcjmaaDoor
/- THE CELL 'sum', in the pinned program and in every row, IS THE sha256 OF THE DUMP (.gsa) THAT YtjcfimnijpcjmaaDoorProg.lean LOADS. Nothing in Lean hashes anything: it is a label: what it is worth is what the hold of that sum in a sandbox is worth. -/
noncomputable def Tryd.pinned : Pinned := { name := "ytjcfimnijpcjmaadoor", sum := "d9817afc8c154c656f7a8952499e55cca0e140234d2fd141eb840f83c99093e2", checked := Tryd.checked }
namespace Rows
def none {H : Type} : Left H := { results := [], args := [] }

/- WHAT THE LISTED PACKAGE-LEVEL VARIABLES READ AS WHEN THE CALL BEGINS. Each datum BY PROGRAM (the guide's laid-datum.mjs) off the statement by which the dump's own 'gosem.cut.vars' lays the variable. In a bare row this is a premise. The card (YtjcfimnijpcjmaaDoorCards.lean) ties it to the program's text. -/
def laid_rubrick_sha_words {H : Type} : DataW H := .agg [.lit (.int .u32 1116352408), .lit (.int .u32 1899447441), .lit (.int .u32 3049323471), .lit (.int .u32 3921009573), .lit (.int .u32 961987163), .lit (.int .u32 1508970993), .lit (.int .u32 2453635748), .lit (.int .u32 2870763221), .lit (.int .u32 3624381080), .lit (.int .u32 310598401), .lit (.int .u32 607225278), .lit (.int .u32 1426881987), .lit (.int .u32 1925078388), .lit (.int .u32 2162078206), .lit (.int .u32 2614888103), .lit (.int .u32 3248222580), .lit (.int .u32 3835390401), .lit (.int .u32 4022224774), .lit (.int .u32 264347078), .lit (.int .u32 604807628), .lit (.int .u32 770255983), .lit (.int .u32 1249150122), .lit (.int .u32 1555081692), .lit (.int .u32 1996064986), .lit (.int .u32 2554220882), .lit (.int .u32 2821834349), .lit (.int .u32 2952996808), .lit (.int .u32 3210313671), .lit (.int .u32 3336571891), .lit (.int .u32 3584528711), .lit (.int .u32 113926993), .lit (.int .u32 338241895), .lit (.int .u32 666307205), .lit (.int .u32 773529912), .lit (.int .u32 1294757372), .lit (.int .u32 1396182291), .lit (.int .u32 1695183700), .lit (.int .u32 1986661051), .lit (.int .u32 2177026350), .lit (.int .u32 2456956037), .lit (.int .u32 2730485921), .lit (.int .u32 2820302411), .lit (.int .u32 3259730800), .lit (.int .u32 3345764771), .lit (.int .u32 3516065817), .lit (.int .u32 3600352804), .lit (.int .u32 4094571909), .lit (.int .u32 275423344), .lit (.int .u32 430227734), .lit (.int .u32 506948616), .lit (.int .u32 659060556), .lit (.int .u32 883997877), .lit (.int .u32 958139571), .lit (.int .u32 1322822218), .lit (.int .u32 1537002063), .lit (.int .u32 1747873779), .lit (.int .u32 1955562222), .lit (.int .u32 2024104815), .lit (.int .u32 2227730452), .lit (.int .u32 2361852424), .lit (.int .u32 2428436474), .lit (.int .u32 2756734187), .lit (.int .u32 3204031479), .lit (.int .u32 3329325298)]

/-- 'rubricklaw03.SealApart': WHATEVER THE INPUT: true; the input reads as it did. -/
def sealApartSpec : ChangeSpec := { name := "sealApart", fn := fun _ => fun
  | [d1, d2, d3, d4, d5, d6] => { results := [.lit (.bool true)], args := [d1, d2, d3, d4, d5, d6] }
  | _ => none }
def sealApartRow : OpenClaim := { program := "ytjcfimnijpcjmaadoor", sum := "d9817afc8c154c656f7a8952499e55cca0e140234d2fd141eb840f83c99093e2", func := "rubrick/rubricklaw03.SealApart", spec := "sealApart", named := ["rubrick/sha.words"], apart := false, laid := [("rubrick/sha.words", laid_rubrick_sha_words)] }
def SealApartSaid : Prop := sealApartRow.holds Tryd.pinned (OpenSpec.ofChange sealApartSpec)

/-- ITS FALSE NEIGHBOUR: 'it returns false'. Refute it at one input. -/
def sealApartWrong : ChangeSpec := { name := "sealApart", fn := fun _ => fun
  | [d1, d2, d3, d4, d5, d6] => { results := [.lit (.bool false)], args := [d1, d2, d3, d4, d5, d6] }
  | _ => none }
def SealApartWrongFalsely : Prop := sealApartRow.holds Tryd.pinned (OpenSpec.ofChange sealApartWrong)

/-- 'rubricklaw03.SealSeals': WHATEVER THE INPUT: true; the input reads as it did. -/
def sealSealsSpec : ChangeSpec := { name := "sealSeals", fn := fun _ => fun
  | [d1, d2, d3] => { results := [.lit (.bool true)], args := [d1, d2, d3] }
  | _ => none }
def sealSealsRow : OpenClaim := { program := "ytjcfimnijpcjmaadoor", sum := "d9817afc8c154c656f7a8952499e55cca0e140234d2fd141eb840f83c99093e2", func := "rubrick/rubricklaw03.SealSeals", spec := "sealSeals", named := ["rubrick/sha.words"], apart := false, laid := [("rubrick/sha.words", laid_rubrick_sha_words)] }
def SealSealsSaid : Prop := sealSealsRow.holds Tryd.pinned (OpenSpec.ofChange sealSealsSpec)

/-- ITS FALSE NEIGHBOUR: 'it returns false'. Refute it at one input. -/
def sealSealsWrong : ChangeSpec := { name := "sealSeals", fn := fun _ => fun
  | [d1, d2, d3] => { results := [.lit (.bool false)], args := [d1, d2, d3] }
  | _ => none }
def SealSealsWrongFalsely : Prop := sealSealsRow.holds Tryd.pinned (OpenSpec.ofChange sealSealsWrong)

/-- 'rubricklaw03.SealLens': WHATEVER THE INPUT: true; the input reads as it did. -/
def sealLensSpec : ChangeSpec := { name := "sealLens", fn := fun _ => fun
  | [d1, d2, d3] => { results := [.lit (.bool true)], args := [d1, d2, d3] }
  | _ => none }
def sealLensRow : OpenClaim := { program := "ytjcfimnijpcjmaadoor", sum := "d9817afc8c154c656f7a8952499e55cca0e140234d2fd141eb840f83c99093e2", func := "rubrick/rubricklaw03.SealLens", spec := "sealLens", named := ["rubrick/sha.words"], apart := false, laid := [("rubrick/sha.words", laid_rubrick_sha_words)] }
def SealLensSaid : Prop := sealLensRow.holds Tryd.pinned (OpenSpec.ofChange sealLensSpec)

/-- ITS FALSE NEIGHBOUR: 'it returns false'. Refute it at one input. -/
def sealLensWrong : ChangeSpec := { name := "sealLens", fn := fun _ => fun
  | [d1, d2, d3] => { results := [.lit (.bool false)], args := [d1, d2, d3] }
  | _ => none }
def SealLensWrongFalsely : Prop := sealLensRow.holds Tryd.pinned (OpenSpec.ofChange sealLensWrong)

/-- 'rubricklaw01.ShaSums': WHATEVER THE INPUT: true; the input reads as it did. -/
def shaSumsSpec : ChangeSpec := { name := "shaSums", fn := fun _ => fun
  | [d] => { results := [.lit (.bool true)], args := [d] }
  | _ => none }
def shaSumsRow : OpenClaim := { program := "ytjcfimnijpcjmaadoor", sum := "d9817afc8c154c656f7a8952499e55cca0e140234d2fd141eb840f83c99093e2", func := "rubrick/rubricklaw01.ShaSums", spec := "shaSums", named := ["rubrick/sha.words"], apart := false, laid := [("rubrick/sha.words", laid_rubrick_sha_words)] }
def ShaSumsSaid : Prop := shaSumsRow.holds Tryd.pinned (OpenSpec.ofChange shaSumsSpec)

/-- ITS FALSE NEIGHBOUR: 'it returns false'. Refute it at one input. -/
def shaSumsWrong : ChangeSpec := { name := "shaSums", fn := fun _ => fun
  | [d] => { results := [.lit (.bool false)], args := [d] }
  | _ => none }
def ShaSumsWrongFalsely : Prop := shaSumsRow.holds Tryd.pinned (OpenSpec.ofChange shaSumsWrong)

/-- 'rubricklaw01.ShaParts': WHATEVER THE INPUT: true; the input reads as it did. -/
def shaPartsSpec : ChangeSpec := { name := "shaParts", fn := fun _ => fun
  | [d] => { results := [.lit (.bool true)], args := [d] }
  | _ => none }
def shaPartsRow : OpenClaim := { program := "ytjcfimnijpcjmaadoor", sum := "d9817afc8c154c656f7a8952499e55cca0e140234d2fd141eb840f83c99093e2", func := "rubrick/rubricklaw01.ShaParts", spec := "shaParts", named := ["rubrick/sha.words"], apart := false, laid := [("rubrick/sha.words", laid_rubrick_sha_words)] }
def ShaPartsSaid : Prop := shaPartsRow.holds Tryd.pinned (OpenSpec.ofChange shaPartsSpec)

/-- ITS FALSE NEIGHBOUR: 'it returns false'. Refute it at one input. -/
def shaPartsWrong : ChangeSpec := { name := "shaParts", fn := fun _ => fun
  | [d] => { results := [.lit (.bool false)], args := [d] }
  | _ => none }
def ShaPartsWrongFalsely : Prop := shaPartsRow.holds Tryd.pinned (OpenSpec.ofChange shaPartsWrong)

/-- 'rubricklaw01.ShaBad': WHATEVER THE INPUT: true; the input reads as it did. -/
def shaBadSpec : ChangeSpec := { name := "shaBad", fn := fun _ => fun
  | [d1, d2, d3] => { results := [.lit (.bool true)], args := [d1, d2, d3] }
  | _ => none }
def shaBadRow : OpenClaim := { program := "ytjcfimnijpcjmaadoor", sum := "d9817afc8c154c656f7a8952499e55cca0e140234d2fd141eb840f83c99093e2", func := "rubrick/rubricklaw01.ShaBad", spec := "shaBad", named := ["rubrick/sha.words"], apart := false, laid := [("rubrick/sha.words", laid_rubrick_sha_words)] }
def ShaBadSaid : Prop := shaBadRow.holds Tryd.pinned (OpenSpec.ofChange shaBadSpec)

/-- ITS FALSE NEIGHBOUR: 'it returns false'. Refute it at one input. -/
def shaBadWrong : ChangeSpec := { name := "shaBad", fn := fun _ => fun
  | [d1, d2, d3] => { results := [.lit (.bool false)], args := [d1, d2, d3] }
  | _ => none }
def ShaBadWrongFalsely : Prop := shaBadRow.holds Tryd.pinned (OpenSpec.ofChange shaBadWrong)

/-- 'rubricklaw01.ShaHex': WHATEVER THE INPUT: true; the input reads as it did. -/
def shaHexSpec : ChangeSpec := { name := "shaHex", fn := fun _ => fun
  | [d1, d2] => { results := [.lit (.bool true)], args := [d1, d2] }
  | _ => none }
def shaHexRow : OpenClaim := { program := "ytjcfimnijpcjmaadoor", sum := "d9817afc8c154c656f7a8952499e55cca0e140234d2fd141eb840f83c99093e2", func := "rubrick/rubricklaw01.ShaHex", spec := "shaHex", named := ["rubrick/sha.words"], apart := false, laid := [("rubrick/sha.words", laid_rubrick_sha_words)] }
def ShaHexSaid : Prop := shaHexRow.holds Tryd.pinned (OpenSpec.ofChange shaHexSpec)

/-- ITS FALSE NEIGHBOUR: 'it returns false'. Refute it at one input. -/
def shaHexWrong : ChangeSpec := { name := "shaHex", fn := fun _ => fun
  | [d1, d2] => { results := [.lit (.bool false)], args := [d1, d2] }
  | _ => none }
def ShaHexWrongFalsely : Prop := shaHexRow.holds Tryd.pinned (OpenSpec.ofChange shaHexWrong)

/-- 'rubricklaw01.ShaBack': WHATEVER THE INPUT: true; the input reads as it did. -/
def shaBackSpec : ChangeSpec := { name := "shaBack", fn := fun _ => fun
  | [d1, d2] => { results := [.lit (.bool true)], args := [d1, d2] }
  | _ => none }
def shaBackRow : OpenClaim := { program := "ytjcfimnijpcjmaadoor", sum := "d9817afc8c154c656f7a8952499e55cca0e140234d2fd141eb840f83c99093e2", func := "rubrick/rubricklaw01.ShaBack", spec := "shaBack", named := ["rubrick/sha.words"], apart := false, laid := [("rubrick/sha.words", laid_rubrick_sha_words)] }
def ShaBackSaid : Prop := shaBackRow.holds Tryd.pinned (OpenSpec.ofChange shaBackSpec)

/-- ITS FALSE NEIGHBOUR: 'it returns false'. Refute it at one input. -/
def shaBackWrong : ChangeSpec := { name := "shaBack", fn := fun _ => fun
  | [d1, d2] => { results := [.lit (.bool false)], args := [d1, d2] }
  | _ => none }
def ShaBackWrongFalsely : Prop := shaBackRow.holds Tryd.pinned (OpenSpec.ofChange shaBackWrong)

/-- 'rubricklaw03.SealClashes': WHATEVER THE INPUT: true; the input reads as it did. -/
def sealClashesSpec : ChangeSpec := { name := "sealClashes", fn := fun _ => fun
  | [d1, d2] => { results := [.lit (.bool true)], args := [d1, d2] }
  | _ => none }
def sealClashesRow : OpenClaim := { program := "ytjcfimnijpcjmaadoor", sum := "d9817afc8c154c656f7a8952499e55cca0e140234d2fd141eb840f83c99093e2", func := "rubrick/rubricklaw03.SealClashes", spec := "sealClashes", named := ["rubrick/sha.words"], apart := false, laid := [("rubrick/sha.words", laid_rubrick_sha_words)] }
def SealClashesSaid : Prop := sealClashesRow.holds Tryd.pinned (OpenSpec.ofChange sealClashesSpec)

/-- ITS FALSE NEIGHBOUR: 'it returns false'. Refute it at one input. -/
def sealClashesWrong : ChangeSpec := { name := "sealClashes", fn := fun _ => fun
  | [d1, d2] => { results := [.lit (.bool false)], args := [d1, d2] }
  | _ => none }
def SealClashesWrongFalsely : Prop := sealClashesRow.holds Tryd.pinned (OpenSpec.ofChange sealClashesWrong)

/-- 'rubricklaw03.SealTwo': WHATEVER THE INPUT: true; the input reads as it did. -/
def sealTwoSpec : ChangeSpec := { name := "sealTwo", fn := fun _ => fun
  | [d1, d2, d3, d4, d5, d6] => { results := [.lit (.bool true)], args := [d1, d2, d3, d4, d5, d6] }
  | _ => none }
def sealTwoRow : OpenClaim := { program := "ytjcfimnijpcjmaadoor", sum := "d9817afc8c154c656f7a8952499e55cca0e140234d2fd141eb840f83c99093e2", func := "rubrick/rubricklaw03.SealTwo", spec := "sealTwo", named := ["rubrick/sha.words"], apart := false, laid := [("rubrick/sha.words", laid_rubrick_sha_words)] }
def SealTwoSaid : Prop := sealTwoRow.holds Tryd.pinned (OpenSpec.ofChange sealTwoSpec)

/-- ITS FALSE NEIGHBOUR: 'it returns false'. Refute it at one input. -/
def sealTwoWrong : ChangeSpec := { name := "sealTwo", fn := fun _ => fun
  | [d1, d2, d3, d4, d5, d6] => { results := [.lit (.bool false)], args := [d1, d2, d3, d4, d5, d6] }
  | _ => none }
def SealTwoWrongFalsely : Prop := sealTwoRow.holds Tryd.pinned (OpenSpec.ofChange sealTwoWrong)

/- THE SECOND FORM. 'bulk': how many values and letters a reading holds, each counted each time it is reached (what is shared counts as often as it is met; a slice's spare places count too). A statement '..UptoSaid' is the law's where the arguments, and the package variables that the reading takes, are together of bulk at most 1048576: NARROWER than '..Said'. Prove '..Said' where nothing that the law and all that it calls make is longer than what came in: it says more and counts as full. Else prove '..UptoSaid'. A law counts once. -/
mutual
def uptoBulk {H : Type} : DataW H → Nat
  | .lit (.string bytes) => bytes.length + 1
  | .lit _ => 1
  | .nil => 1
  | .ptr d => uptoBulk d + 1
  | .slice elems spare => uptoBulkAll elems + uptoBulkAll spare + 1
  | .agg parts => uptoBulkAll parts + 1
  | .iface _ d => uptoBulk d + 1
  | .map entries => uptoBulkEntries entries + 1
  | .held _ => 1
def uptoBulkAll {H : Type} : List (DataW H) → Nat
  | [] => 0
  | d :: r => uptoBulk d + uptoBulkAll r
def uptoBulkEntries {H : Type} : List (Lit × DataW H) → Nat
  | [] => 0
  | x :: r => uptoBulkEntry x + uptoBulkEntries r
def uptoBulkEntry {H : Type} : Lit × DataW H → Nat
  | (.string bytes, d) => bytes.length + uptoBulk d + 1
  | (_, d) => uptoBulk d + 1
 end
def uptoSmall : (H : Type) → List (DataW H) → Bool := fun _ ds => decide (uptoBulkAll ds ≤ 1048576)
def OpenSpec.upto (s : _root_.Go.ChangeSpec) : _root_.Go.OpenSpec := { _root_.Go.OpenSpec.ofChange s with cond := some uptoSmall }

/-- 'rubricklaw03.SealApart', WHERE WHAT IT READS IS OF BULK AT MOST 1048576: true; the input reads as it did. -/
def sealApartUptoRow : OpenClaim := { program := "ytjcfimnijpcjmaadoor", sum := "d9817afc8c154c656f7a8952499e55cca0e140234d2fd141eb840f83c99093e2", func := "rubrick/rubricklaw03.SealApart", spec := "sealApart", named := ["rubrick/sha.words"], apart := false, laid := [("rubrick/sha.words", laid_rubrick_sha_words)], narrowed := true }
def SealApartUptoSaid : Prop := sealApartUptoRow.holds Tryd.pinned (OpenSpec.upto sealApartSpec)

/-- 'rubricklaw03.SealSeals', WHERE WHAT IT READS IS OF BULK AT MOST 1048576: true; the input reads as it did. -/
def sealSealsUptoRow : OpenClaim := { program := "ytjcfimnijpcjmaadoor", sum := "d9817afc8c154c656f7a8952499e55cca0e140234d2fd141eb840f83c99093e2", func := "rubrick/rubricklaw03.SealSeals", spec := "sealSeals", named := ["rubrick/sha.words"], apart := false, laid := [("rubrick/sha.words", laid_rubrick_sha_words)], narrowed := true }
def SealSealsUptoSaid : Prop := sealSealsUptoRow.holds Tryd.pinned (OpenSpec.upto sealSealsSpec)

/-- 'rubricklaw03.SealLens', WHERE WHAT IT READS IS OF BULK AT MOST 1048576: true; the input reads as it did. -/
def sealLensUptoRow : OpenClaim := { program := "ytjcfimnijpcjmaadoor", sum := "d9817afc8c154c656f7a8952499e55cca0e140234d2fd141eb840f83c99093e2", func := "rubrick/rubricklaw03.SealLens", spec := "sealLens", named := ["rubrick/sha.words"], apart := false, laid := [("rubrick/sha.words", laid_rubrick_sha_words)], narrowed := true }
def SealLensUptoSaid : Prop := sealLensUptoRow.holds Tryd.pinned (OpenSpec.upto sealLensSpec)

/-- 'rubricklaw01.ShaSums', WHERE WHAT IT READS IS OF BULK AT MOST 1048576: true; the input reads as it did. -/
def shaSumsUptoRow : OpenClaim := { program := "ytjcfimnijpcjmaadoor", sum := "d9817afc8c154c656f7a8952499e55cca0e140234d2fd141eb840f83c99093e2", func := "rubrick/rubricklaw01.ShaSums", spec := "shaSums", named := ["rubrick/sha.words"], apart := false, laid := [("rubrick/sha.words", laid_rubrick_sha_words)], narrowed := true }
def ShaSumsUptoSaid : Prop := shaSumsUptoRow.holds Tryd.pinned (OpenSpec.upto shaSumsSpec)

/-- 'rubricklaw01.ShaParts', WHERE WHAT IT READS IS OF BULK AT MOST 1048576: true; the input reads as it did. -/
def shaPartsUptoRow : OpenClaim := { program := "ytjcfimnijpcjmaadoor", sum := "d9817afc8c154c656f7a8952499e55cca0e140234d2fd141eb840f83c99093e2", func := "rubrick/rubricklaw01.ShaParts", spec := "shaParts", named := ["rubrick/sha.words"], apart := false, laid := [("rubrick/sha.words", laid_rubrick_sha_words)], narrowed := true }
def ShaPartsUptoSaid : Prop := shaPartsUptoRow.holds Tryd.pinned (OpenSpec.upto shaPartsSpec)

/-- 'rubricklaw01.ShaBad', WHERE WHAT IT READS IS OF BULK AT MOST 1048576: true; the input reads as it did. -/
def shaBadUptoRow : OpenClaim := { program := "ytjcfimnijpcjmaadoor", sum := "d9817afc8c154c656f7a8952499e55cca0e140234d2fd141eb840f83c99093e2", func := "rubrick/rubricklaw01.ShaBad", spec := "shaBad", named := ["rubrick/sha.words"], apart := false, laid := [("rubrick/sha.words", laid_rubrick_sha_words)], narrowed := true }
def ShaBadUptoSaid : Prop := shaBadUptoRow.holds Tryd.pinned (OpenSpec.upto shaBadSpec)

/-- 'rubricklaw01.ShaHex', WHERE WHAT IT READS IS OF BULK AT MOST 1048576: true; the input reads as it did. -/
def shaHexUptoRow : OpenClaim := { program := "ytjcfimnijpcjmaadoor", sum := "d9817afc8c154c656f7a8952499e55cca0e140234d2fd141eb840f83c99093e2", func := "rubrick/rubricklaw01.ShaHex", spec := "shaHex", named := ["rubrick/sha.words"], apart := false, laid := [("rubrick/sha.words", laid_rubrick_sha_words)], narrowed := true }
def ShaHexUptoSaid : Prop := shaHexUptoRow.holds Tryd.pinned (OpenSpec.upto shaHexSpec)

/-- 'rubricklaw01.ShaBack', WHERE WHAT IT READS IS OF BULK AT MOST 1048576: true; the input reads as it did. -/
def shaBackUptoRow : OpenClaim := { program := "ytjcfimnijpcjmaadoor", sum := "d9817afc8c154c656f7a8952499e55cca0e140234d2fd141eb840f83c99093e2", func := "rubrick/rubricklaw01.ShaBack", spec := "shaBack", named := ["rubrick/sha.words"], apart := false, laid := [("rubrick/sha.words", laid_rubrick_sha_words)], narrowed := true }
def ShaBackUptoSaid : Prop := shaBackUptoRow.holds Tryd.pinned (OpenSpec.upto shaBackSpec)

/-- 'rubricklaw03.SealClashes', WHERE WHAT IT READS IS OF BULK AT MOST 1048576: true; the input reads as it did. -/
def sealClashesUptoRow : OpenClaim := { program := "ytjcfimnijpcjmaadoor", sum := "d9817afc8c154c656f7a8952499e55cca0e140234d2fd141eb840f83c99093e2", func := "rubrick/rubricklaw03.SealClashes", spec := "sealClashes", named := ["rubrick/sha.words"], apart := false, laid := [("rubrick/sha.words", laid_rubrick_sha_words)], narrowed := true }
def SealClashesUptoSaid : Prop := sealClashesUptoRow.holds Tryd.pinned (OpenSpec.upto sealClashesSpec)

/-- 'rubricklaw03.SealTwo', WHERE WHAT IT READS IS OF BULK AT MOST 1048576: true; the input reads as it did. -/
def sealTwoUptoRow : OpenClaim := { program := "ytjcfimnijpcjmaadoor", sum := "d9817afc8c154c656f7a8952499e55cca0e140234d2fd141eb840f83c99093e2", func := "rubrick/rubricklaw03.SealTwo", spec := "sealTwo", named := ["rubrick/sha.words"], apart := false, laid := [("rubrick/sha.words", laid_rubrick_sha_words)], narrowed := true }
def SealTwoUptoSaid : Prop := sealTwoUptoRow.holds Tryd.pinned (OpenSpec.upto sealTwoSpec)

end Rows
end Go.Proofs.YtjcfimnijpcjmaaDoor
