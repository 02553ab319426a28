/-
  NARROWER THAN 'FOR EVERY INPUT', by the rows' own cells (each row's printed sentence says how): CreditLimits: laid · CreditCombines: laid · CreditOrder: laid · CreditRises: laid · CreditBest: laid · CreditScales: laid · CreditAdds: laid.
  DERIVED. THE GIVEN ROWS OF THIS SEAT. 7 by the template 'for every input the law returns true; each argument reads behind the call as it read before'; 0 by the template 'total and deterministic' (their statements: YtdajoilaakiinaaGreatDoorTotals.lean).
  GIVEN WITH THE SEED: the statements are not yours to turn. If you find one false, say at which input.
  Laid BY PROGRAM, IN A SANDBOX (cutbox-rows.mjs): the forced cells as the released guide's own fill.sh prints them over the translation cabc62733ef09731… (all of the seat's roots in one cut). By AI agents, Wed Nov 11 2026. No macro, syntax, notation, axiom, sorry.
-/
import Derived.Test.YtdajoilaakiinaaGreatDoorChecked
import GoSem.Claim
import GoSem.ClaimJoined
import GoSem.ClaimMapViews
import Derived.JoinedTies
import Derived.KernelRfl
namespace Go.Proofs.YtdajoilaakiinaaGreatDoor
/- THE CELL 'sum', in the pinned program and in every row, IS THE sha256 OF THE DUMP (.gsa) THAT YtdajoilaakiinaaGreatDoorProg.lean LOADS. Nothing in Lean hashes anything: it is a label: what it is worth is what the hold of that sum in a sandbox is worth. -/
noncomputable def Tryz.pinned : Pinned := { name := "ytdajoilaakiinaagreatdoor", sum := "cabc62733ef0973104d8e6c851ea79d3be6d9e615e53288b655175f3a0fde899", checked := Tryz.checked }
namespace Rows
def none {H : Type} : Left H := { results := [], args := [] }

/- WHAT THE LISTED PACKAGE-LEVEL VARIABLES READ AS WHEN THE CALL BEGINS. Each datum BY PROGRAM (the guide's laid-datum.mjs) off the statement by which the dump's own 'gosem.cut.vars' lays the variable. In a bare row this is a premise. The card (YtdajoilaakiinaaGreatDoorCards.lean) ties it to the program's text. -/
def laid_math_bits_deBruijn32tab {H : Type} : DataW H := .agg [.lit (.int .u8 0), .lit (.int .u8 1), .lit (.int .u8 28), .lit (.int .u8 2), .lit (.int .u8 29), .lit (.int .u8 14), .lit (.int .u8 24), .lit (.int .u8 3), .lit (.int .u8 30), .lit (.int .u8 22), .lit (.int .u8 20), .lit (.int .u8 15), .lit (.int .u8 25), .lit (.int .u8 17), .lit (.int .u8 4), .lit (.int .u8 8), .lit (.int .u8 31), .lit (.int .u8 27), .lit (.int .u8 13), .lit (.int .u8 23), .lit (.int .u8 21), .lit (.int .u8 19), .lit (.int .u8 16), .lit (.int .u8 7), .lit (.int .u8 26), .lit (.int .u8 12), .lit (.int .u8 18), .lit (.int .u8 6), .lit (.int .u8 11), .lit (.int .u8 5), .lit (.int .u8 10), .lit (.int .u8 9)]
def laid_math_bits_deBruijn64tab {H : Type} : DataW H := .agg [.lit (.int .u8 0), .lit (.int .u8 1), .lit (.int .u8 56), .lit (.int .u8 2), .lit (.int .u8 57), .lit (.int .u8 49), .lit (.int .u8 28), .lit (.int .u8 3), .lit (.int .u8 61), .lit (.int .u8 58), .lit (.int .u8 42), .lit (.int .u8 50), .lit (.int .u8 38), .lit (.int .u8 29), .lit (.int .u8 17), .lit (.int .u8 4), .lit (.int .u8 62), .lit (.int .u8 47), .lit (.int .u8 59), .lit (.int .u8 36), .lit (.int .u8 45), .lit (.int .u8 43), .lit (.int .u8 51), .lit (.int .u8 22), .lit (.int .u8 53), .lit (.int .u8 39), .lit (.int .u8 33), .lit (.int .u8 30), .lit (.int .u8 24), .lit (.int .u8 18), .lit (.int .u8 12), .lit (.int .u8 5), .lit (.int .u8 63), .lit (.int .u8 55), .lit (.int .u8 48), .lit (.int .u8 27), .lit (.int .u8 60), .lit (.int .u8 41), .lit (.int .u8 37), .lit (.int .u8 16), .lit (.int .u8 46), .lit (.int .u8 35), .lit (.int .u8 44), .lit (.int .u8 21), .lit (.int .u8 52), .lit (.int .u8 32), .lit (.int .u8 23), .lit (.int .u8 11), .lit (.int .u8 54), .lit (.int .u8 26), .lit (.int .u8 40), .lit (.int .u8 15), .lit (.int .u8 34), .lit (.int .u8 20), .lit (.int .u8 31), .lit (.int .u8 10), .lit (.int .u8 25), .lit (.int .u8 14), .lit (.int .u8 19), .lit (.int .u8 9), .lit (.int .u8 13), .lit (.int .u8 8), .lit (.int .u8 7), .lit (.int .u8 6)]
def laid_internal_strconv_uint64pow10 {H : Type} : DataW H := .agg [.lit (.int .u64 1), .lit (.int .u64 10), .lit (.int .u64 100), .lit (.int .u64 1000), .lit (.int .u64 10000), .lit (.int .u64 100000), .lit (.int .u64 1000000), .lit (.int .u64 10000000), .lit (.int .u64 100000000), .lit (.int .u64 1000000000), .lit (.int .u64 10000000000), .lit (.int .u64 100000000000), .lit (.int .u64 1000000000000), .lit (.int .u64 10000000000000), .lit (.int .u64 100000000000000), .lit (.int .u64 1000000000000000), .lit (.int .u64 10000000000000000), .lit (.int .u64 100000000000000000), .lit (.int .u64 1000000000000000000), .lit (.int .u64 10000000000000000000)]
def laid_assessor_credit_zero {H : Type} : DataW H := .agg [.lit (.int .i64 0), .lit (.int .i64 1)]

/-- 'assessorlaw50.CreditLimits': WHATEVER THE INPUT: true; the input reads as it did. -/
def creditLimitsSpec : ChangeSpec := { name := "creditLimits", fn := fun _ => fun
  | [d] => { results := [.lit (.bool true)], args := [d] }
  | _ => none }
def creditLimitsRow : OpenClaim := { program := "ytdajoilaakiinaagreatdoor", sum := "cabc62733ef0973104d8e6c851ea79d3be6d9e615e53288b655175f3a0fde899", func := "assessor/assessorlaw50.CreditLimits", spec := "creditLimits", inPlace := ["internal/bytealg.IndexByteString", "internal/bytealg.IndexString", "internal/abi.NoEscape", "internal/bytealg.MakeNoZero"], unfollowed := true, recurses := true, named := ["assessor/credit.zero", "internal/strconv.uint64pow10", "math/bits.deBruijn32tab", "math/bits.deBruijn64tab", "internal/bytealg.MaxLen"], apart := false, laid := [("math/bits.deBruijn32tab", laid_math_bits_deBruijn32tab), ("math/bits.deBruijn64tab", laid_math_bits_deBruijn64tab), ("internal/strconv.uint64pow10", laid_internal_strconv_uint64pow10), ("assessor/credit.zero", laid_assessor_credit_zero)] }
def CreditLimitsSaid : Prop := creditLimitsRow.holds Tryz.pinned (OpenSpec.ofChange creditLimitsSpec)

/-- ITS FALSE NEIGHBOUR: 'it returns false'. Refute it at one input. -/
def creditLimitsWrong : ChangeSpec := { name := "creditLimits", fn := fun _ => fun
  | [d] => { results := [.lit (.bool false)], args := [d] }
  | _ => none }
def CreditLimitsWrongFalsely : Prop := creditLimitsRow.holds Tryz.pinned (OpenSpec.ofChange creditLimitsWrong)

/-- 'assessorlaw50.CreditCombines': WHATEVER THE INPUT: true; the input reads as it did. -/
def creditCombinesSpec : ChangeSpec := { name := "creditCombines", fn := fun _ => fun
  | [d] => { results := [.lit (.bool true)], args := [d] }
  | _ => none }
def creditCombinesRow : OpenClaim := { program := "ytdajoilaakiinaagreatdoor", sum := "cabc62733ef0973104d8e6c851ea79d3be6d9e615e53288b655175f3a0fde899", func := "assessor/assessorlaw50.CreditCombines", spec := "creditCombines", inPlace := ["internal/bytealg.IndexByteString", "internal/bytealg.IndexString", "internal/abi.NoEscape", "internal/bytealg.MakeNoZero"], unfollowed := true, recurses := true, named := ["assessor/credit.zero", "internal/strconv.uint64pow10", "math/bits.deBruijn32tab", "math/bits.deBruijn64tab", "internal/bytealg.MaxLen"], apart := false, laid := [("math/bits.deBruijn32tab", laid_math_bits_deBruijn32tab), ("math/bits.deBruijn64tab", laid_math_bits_deBruijn64tab), ("internal/strconv.uint64pow10", laid_internal_strconv_uint64pow10), ("assessor/credit.zero", laid_assessor_credit_zero)] }
def CreditCombinesSaid : Prop := creditCombinesRow.holds Tryz.pinned (OpenSpec.ofChange creditCombinesSpec)

/-- ITS FALSE NEIGHBOUR: 'it returns false'. Refute it at one input. -/
def creditCombinesWrong : ChangeSpec := { name := "creditCombines", fn := fun _ => fun
  | [d] => { results := [.lit (.bool false)], args := [d] }
  | _ => none }
def CreditCombinesWrongFalsely : Prop := creditCombinesRow.holds Tryz.pinned (OpenSpec.ofChange creditCombinesWrong)

/-- 'assessorlaw50.CreditOrder': WHATEVER THE INPUT: true; the input reads as it did. -/
def creditOrderSpec : ChangeSpec := { name := "creditOrder", fn := fun _ => fun
  | [d1, d2, d3] => { results := [.lit (.bool true)], args := [d1, d2, d3] }
  | _ => none }
def creditOrderRow : OpenClaim := { program := "ytdajoilaakiinaagreatdoor", sum := "cabc62733ef0973104d8e6c851ea79d3be6d9e615e53288b655175f3a0fde899", func := "assessor/assessorlaw50.CreditOrder", spec := "creditOrder", inPlace := ["internal/bytealg.IndexByteString", "internal/bytealg.IndexString", "internal/abi.NoEscape", "internal/bytealg.MakeNoZero"], unfollowed := true, recurses := true, named := ["assessor/credit.zero", "internal/strconv.uint64pow10", "math/bits.deBruijn32tab", "math/bits.deBruijn64tab", "internal/bytealg.MaxLen"], apart := false, laid := [("math/bits.deBruijn32tab", laid_math_bits_deBruijn32tab), ("math/bits.deBruijn64tab", laid_math_bits_deBruijn64tab), ("internal/strconv.uint64pow10", laid_internal_strconv_uint64pow10), ("assessor/credit.zero", laid_assessor_credit_zero)] }
def CreditOrderSaid : Prop := creditOrderRow.holds Tryz.pinned (OpenSpec.ofChange creditOrderSpec)

/-- ITS FALSE NEIGHBOUR: 'it returns false'. Refute it at one input. -/
def creditOrderWrong : ChangeSpec := { name := "creditOrder", fn := fun _ => fun
  | [d1, d2, d3] => { results := [.lit (.bool false)], args := [d1, d2, d3] }
  | _ => none }
def CreditOrderWrongFalsely : Prop := creditOrderRow.holds Tryz.pinned (OpenSpec.ofChange creditOrderWrong)

/-- 'assessorlaw50.CreditRises': WHATEVER THE INPUT: true; the input reads as it did. -/
def creditRisesSpec : ChangeSpec := { name := "creditRises", fn := fun _ => fun
  | [d1, d2, d3] => { results := [.lit (.bool true)], args := [d1, d2, d3] }
  | _ => none }
def creditRisesRow : OpenClaim := { program := "ytdajoilaakiinaagreatdoor", sum := "cabc62733ef0973104d8e6c851ea79d3be6d9e615e53288b655175f3a0fde899", func := "assessor/assessorlaw50.CreditRises", spec := "creditRises", inPlace := ["internal/bytealg.IndexByteString", "internal/bytealg.IndexString", "internal/abi.NoEscape", "internal/bytealg.MakeNoZero"], unfollowed := true, recurses := true, named := ["assessor/credit.zero", "internal/strconv.uint64pow10", "math/bits.deBruijn32tab", "math/bits.deBruijn64tab", "internal/bytealg.MaxLen"], apart := false, laid := [("math/bits.deBruijn32tab", laid_math_bits_deBruijn32tab), ("math/bits.deBruijn64tab", laid_math_bits_deBruijn64tab), ("internal/strconv.uint64pow10", laid_internal_strconv_uint64pow10), ("assessor/credit.zero", laid_assessor_credit_zero)] }
def CreditRisesSaid : Prop := creditRisesRow.holds Tryz.pinned (OpenSpec.ofChange creditRisesSpec)

/-- ITS FALSE NEIGHBOUR: 'it returns false'. Refute it at one input. -/
def creditRisesWrong : ChangeSpec := { name := "creditRises", fn := fun _ => fun
  | [d1, d2, d3] => { results := [.lit (.bool false)], args := [d1, d2, d3] }
  | _ => none }
def CreditRisesWrongFalsely : Prop := creditRisesRow.holds Tryz.pinned (OpenSpec.ofChange creditRisesWrong)

/-- 'assessorlaw50.CreditBest': WHATEVER THE INPUT: true; the input reads as it did. -/
def creditBestSpec : ChangeSpec := { name := "creditBest", fn := fun _ => fun
  | [d1, d2, d3] => { results := [.lit (.bool true)], args := [d1, d2, d3] }
  | _ => none }
def creditBestRow : OpenClaim := { program := "ytdajoilaakiinaagreatdoor", sum := "cabc62733ef0973104d8e6c851ea79d3be6d9e615e53288b655175f3a0fde899", func := "assessor/assessorlaw50.CreditBest", spec := "creditBest", inPlace := ["internal/bytealg.IndexByteString", "internal/bytealg.IndexString", "internal/abi.NoEscape", "internal/bytealg.MakeNoZero"], unfollowed := true, recurses := true, named := ["assessor/credit.zero", "internal/strconv.uint64pow10", "math/bits.deBruijn32tab", "math/bits.deBruijn64tab", "internal/bytealg.MaxLen"], apart := false, laid := [("math/bits.deBruijn32tab", laid_math_bits_deBruijn32tab), ("math/bits.deBruijn64tab", laid_math_bits_deBruijn64tab), ("internal/strconv.uint64pow10", laid_internal_strconv_uint64pow10), ("assessor/credit.zero", laid_assessor_credit_zero)] }
def CreditBestSaid : Prop := creditBestRow.holds Tryz.pinned (OpenSpec.ofChange creditBestSpec)

/-- ITS FALSE NEIGHBOUR: 'it returns false'. Refute it at one input. -/
def creditBestWrong : ChangeSpec := { name := "creditBest", fn := fun _ => fun
  | [d1, d2, d3] => { results := [.lit (.bool false)], args := [d1, d2, d3] }
  | _ => none }
def CreditBestWrongFalsely : Prop := creditBestRow.holds Tryz.pinned (OpenSpec.ofChange creditBestWrong)

/-- 'assessorlaw50.CreditScales': WHATEVER THE INPUT: true; the input reads as it did. -/
def creditScalesSpec : ChangeSpec := { name := "creditScales", fn := fun _ => fun
  | [d1, d2, d3] => { results := [.lit (.bool true)], args := [d1, d2, d3] }
  | _ => none }
def creditScalesRow : OpenClaim := { program := "ytdajoilaakiinaagreatdoor", sum := "cabc62733ef0973104d8e6c851ea79d3be6d9e615e53288b655175f3a0fde899", func := "assessor/assessorlaw50.CreditScales", spec := "creditScales", inPlace := ["internal/bytealg.IndexByteString", "internal/bytealg.IndexString", "internal/abi.NoEscape", "internal/bytealg.MakeNoZero"], unfollowed := true, recurses := true, named := ["assessor/credit.zero", "internal/strconv.uint64pow10", "math/bits.deBruijn32tab", "math/bits.deBruijn64tab", "internal/bytealg.MaxLen"], apart := false, laid := [("math/bits.deBruijn32tab", laid_math_bits_deBruijn32tab), ("math/bits.deBruijn64tab", laid_math_bits_deBruijn64tab), ("internal/strconv.uint64pow10", laid_internal_strconv_uint64pow10), ("assessor/credit.zero", laid_assessor_credit_zero)] }
def CreditScalesSaid : Prop := creditScalesRow.holds Tryz.pinned (OpenSpec.ofChange creditScalesSpec)

/-- ITS FALSE NEIGHBOUR: 'it returns false'. Refute it at one input. -/
def creditScalesWrong : ChangeSpec := { name := "creditScales", fn := fun _ => fun
  | [d1, d2, d3] => { results := [.lit (.bool false)], args := [d1, d2, d3] }
  | _ => none }
def CreditScalesWrongFalsely : Prop := creditScalesRow.holds Tryz.pinned (OpenSpec.ofChange creditScalesWrong)

/-- 'assessorlaw50.CreditAdds': WHATEVER THE INPUT: true; the input reads as it did. -/
def creditAddsSpec : ChangeSpec := { name := "creditAdds", fn := fun _ => fun
  | [d1, d2] => { results := [.lit (.bool true)], args := [d1, d2] }
  | _ => none }
def creditAddsRow : OpenClaim := { program := "ytdajoilaakiinaagreatdoor", sum := "cabc62733ef0973104d8e6c851ea79d3be6d9e615e53288b655175f3a0fde899", func := "assessor/assessorlaw50.CreditAdds", spec := "creditAdds", inPlace := ["internal/bytealg.IndexByteString", "internal/bytealg.IndexString", "internal/abi.NoEscape", "internal/bytealg.MakeNoZero"], unfollowed := true, recurses := true, named := ["assessor/credit.zero", "internal/strconv.uint64pow10", "math/bits.deBruijn32tab", "math/bits.deBruijn64tab", "internal/bytealg.MaxLen"], apart := false, laid := [("math/bits.deBruijn32tab", laid_math_bits_deBruijn32tab), ("math/bits.deBruijn64tab", laid_math_bits_deBruijn64tab), ("internal/strconv.uint64pow10", laid_internal_strconv_uint64pow10), ("assessor/credit.zero", laid_assessor_credit_zero)] }
def CreditAddsSaid : Prop := creditAddsRow.holds Tryz.pinned (OpenSpec.ofChange creditAddsSpec)

/-- ITS FALSE NEIGHBOUR: 'it returns false'. Refute it at one input. -/
def creditAddsWrong : ChangeSpec := { name := "creditAdds", fn := fun _ => fun
  | [d1, d2] => { results := [.lit (.bool false)], args := [d1, d2] }
  | _ => none }
def CreditAddsWrongFalsely : Prop := creditAddsRow.holds Tryz.pinned (OpenSpec.ofChange creditAddsWrong)

/- THE SECOND FORM. 'bulk': how many values and letters a reading holds, each counted each time it is reached (what is shared counts as often as it is met; a slice's spare places count too). A statement '..UptoSaid' is the law's where the arguments, and the package variables that the reading takes, are together of bulk at most 1048576: NARROWER than '..Said'. Prove '..Said' where nothing that the law and all that it calls make is longer than what came in: it says more and counts as full. Else prove '..UptoSaid'. A law counts once. -/
mutual
def uptoBulk {H : Type} : DataW H → Nat
  | .lit (.string bytes) => bytes.length + 1
  | .lit _ => 1
  | .nil => 1
  | .ptr d => uptoBulk d + 1
  | .slice elems spare => uptoBulkAll elems + uptoBulkAll spare + 1
  | .agg parts => uptoBulkAll parts + 1
  | .iface _ d => uptoBulk d + 1
  | .map entries => uptoBulkEntries entries + 1
  | .held _ => 1
def uptoBulkAll {H : Type} : List (DataW H) → Nat
  | [] => 0
  | d :: r => uptoBulk d + uptoBulkAll r
def uptoBulkEntries {H : Type} : List (Lit × DataW H) → Nat
  | [] => 0
  | x :: r => uptoBulkEntry x + uptoBulkEntries r
def uptoBulkEntry {H : Type} : Lit × DataW H → Nat
  | (.string bytes, d) => bytes.length + uptoBulk d + 1
  | (_, d) => uptoBulk d + 1
 end
def uptoSmall : (H : Type) → List (DataW H) → Bool := fun _ ds => decide (uptoBulkAll ds ≤ 1048576)
def OpenSpec.upto (s : _root_.Go.ChangeSpec) : _root_.Go.OpenSpec := { _root_.Go.OpenSpec.ofChange s with cond := some uptoSmall }

/-- 'assessorlaw50.CreditLimits', WHERE WHAT IT READS IS OF BULK AT MOST 1048576: true; the input reads as it did. -/
def creditLimitsUptoRow : OpenClaim := { program := "ytdajoilaakiinaagreatdoor", sum := "cabc62733ef0973104d8e6c851ea79d3be6d9e615e53288b655175f3a0fde899", func := "assessor/assessorlaw50.CreditLimits", spec := "creditLimits", inPlace := ["internal/bytealg.IndexByteString", "internal/bytealg.IndexString", "internal/abi.NoEscape", "internal/bytealg.MakeNoZero"], unfollowed := true, recurses := true, named := ["assessor/credit.zero", "internal/strconv.uint64pow10", "math/bits.deBruijn32tab", "math/bits.deBruijn64tab", "internal/bytealg.MaxLen"], apart := false, laid := [("math/bits.deBruijn32tab", laid_math_bits_deBruijn32tab), ("math/bits.deBruijn64tab", laid_math_bits_deBruijn64tab), ("internal/strconv.uint64pow10", laid_internal_strconv_uint64pow10), ("assessor/credit.zero", laid_assessor_credit_zero)], narrowed := true }
def CreditLimitsUptoSaid : Prop := creditLimitsUptoRow.holds Tryz.pinned (OpenSpec.upto creditLimitsSpec)

/-- 'assessorlaw50.CreditCombines', WHERE WHAT IT READS IS OF BULK AT MOST 1048576: true; the input reads as it did. -/
def creditCombinesUptoRow : OpenClaim := { program := "ytdajoilaakiinaagreatdoor", sum := "cabc62733ef0973104d8e6c851ea79d3be6d9e615e53288b655175f3a0fde899", func := "assessor/assessorlaw50.CreditCombines", spec := "creditCombines", inPlace := ["internal/bytealg.IndexByteString", "internal/bytealg.IndexString", "internal/abi.NoEscape", "internal/bytealg.MakeNoZero"], unfollowed := true, recurses := true, named := ["assessor/credit.zero", "internal/strconv.uint64pow10", "math/bits.deBruijn32tab", "math/bits.deBruijn64tab", "internal/bytealg.MaxLen"], apart := false, laid := [("math/bits.deBruijn32tab", laid_math_bits_deBruijn32tab), ("math/bits.deBruijn64tab", laid_math_bits_deBruijn64tab), ("internal/strconv.uint64pow10", laid_internal_strconv_uint64pow10), ("assessor/credit.zero", laid_assessor_credit_zero)], narrowed := true }
def CreditCombinesUptoSaid : Prop := creditCombinesUptoRow.holds Tryz.pinned (OpenSpec.upto creditCombinesSpec)

/-- 'assessorlaw50.CreditOrder', WHERE WHAT IT READS IS OF BULK AT MOST 1048576: true; the input reads as it did. -/
def creditOrderUptoRow : OpenClaim := { program := "ytdajoilaakiinaagreatdoor", sum := "cabc62733ef0973104d8e6c851ea79d3be6d9e615e53288b655175f3a0fde899", func := "assessor/assessorlaw50.CreditOrder", spec := "creditOrder", inPlace := ["internal/bytealg.IndexByteString", "internal/bytealg.IndexString", "internal/abi.NoEscape", "internal/bytealg.MakeNoZero"], unfollowed := true, recurses := true, named := ["assessor/credit.zero", "internal/strconv.uint64pow10", "math/bits.deBruijn32tab", "math/bits.deBruijn64tab", "internal/bytealg.MaxLen"], apart := false, laid := [("math/bits.deBruijn32tab", laid_math_bits_deBruijn32tab), ("math/bits.deBruijn64tab", laid_math_bits_deBruijn64tab), ("internal/strconv.uint64pow10", laid_internal_strconv_uint64pow10), ("assessor/credit.zero", laid_assessor_credit_zero)], narrowed := true }
def CreditOrderUptoSaid : Prop := creditOrderUptoRow.holds Tryz.pinned (OpenSpec.upto creditOrderSpec)

/-- 'assessorlaw50.CreditRises', WHERE WHAT IT READS IS OF BULK AT MOST 1048576: true; the input reads as it did. -/
def creditRisesUptoRow : OpenClaim := { program := "ytdajoilaakiinaagreatdoor", sum := "cabc62733ef0973104d8e6c851ea79d3be6d9e615e53288b655175f3a0fde899", func := "assessor/assessorlaw50.CreditRises", spec := "creditRises", inPlace := ["internal/bytealg.IndexByteString", "internal/bytealg.IndexString", "internal/abi.NoEscape", "internal/bytealg.MakeNoZero"], unfollowed := true, recurses := true, named := ["assessor/credit.zero", "internal/strconv.uint64pow10", "math/bits.deBruijn32tab", "math/bits.deBruijn64tab", "internal/bytealg.MaxLen"], apart := false, laid := [("math/bits.deBruijn32tab", laid_math_bits_deBruijn32tab), ("math/bits.deBruijn64tab", laid_math_bits_deBruijn64tab), ("internal/strconv.uint64pow10", laid_internal_strconv_uint64pow10), ("assessor/credit.zero", laid_assessor_credit_zero)], narrowed := true }
def CreditRisesUptoSaid : Prop := creditRisesUptoRow.holds Tryz.pinned (OpenSpec.upto creditRisesSpec)

/-- 'assessorlaw50.CreditBest', WHERE WHAT IT READS IS OF BULK AT MOST 1048576: true; the input reads as it did. -/
def creditBestUptoRow : OpenClaim := { program := "ytdajoilaakiinaagreatdoor", sum := "cabc62733ef0973104d8e6c851ea79d3be6d9e615e53288b655175f3a0fde899", func := "assessor/assessorlaw50.CreditBest", spec := "creditBest", inPlace := ["internal/bytealg.IndexByteString", "internal/bytealg.IndexString", "internal/abi.NoEscape", "internal/bytealg.MakeNoZero"], unfollowed := true, recurses := true, named := ["assessor/credit.zero", "internal/strconv.uint64pow10", "math/bits.deBruijn32tab", "math/bits.deBruijn64tab", "internal/bytealg.MaxLen"], apart := false, laid := [("math/bits.deBruijn32tab", laid_math_bits_deBruijn32tab), ("math/bits.deBruijn64tab", laid_math_bits_deBruijn64tab), ("internal/strconv.uint64pow10", laid_internal_strconv_uint64pow10), ("assessor/credit.zero", laid_assessor_credit_zero)], narrowed := true }
def CreditBestUptoSaid : Prop := creditBestUptoRow.holds Tryz.pinned (OpenSpec.upto creditBestSpec)

/-- 'assessorlaw50.CreditScales', WHERE WHAT IT READS IS OF BULK AT MOST 1048576: true; the input reads as it did. -/
def creditScalesUptoRow : OpenClaim := { program := "ytdajoilaakiinaagreatdoor", sum := "cabc62733ef0973104d8e6c851ea79d3be6d9e615e53288b655175f3a0fde899", func := "assessor/assessorlaw50.CreditScales", spec := "creditScales", inPlace := ["internal/bytealg.IndexByteString", "internal/bytealg.IndexString", "internal/abi.NoEscape", "internal/bytealg.MakeNoZero"], unfollowed := true, recurses := true, named := ["assessor/credit.zero", "internal/strconv.uint64pow10", "math/bits.deBruijn32tab", "math/bits.deBruijn64tab", "internal/bytealg.MaxLen"], apart := false, laid := [("math/bits.deBruijn32tab", laid_math_bits_deBruijn32tab), ("math/bits.deBruijn64tab", laid_math_bits_deBruijn64tab), ("internal/strconv.uint64pow10", laid_internal_strconv_uint64pow10), ("assessor/credit.zero", laid_assessor_credit_zero)], narrowed := true }
def CreditScalesUptoSaid : Prop := creditScalesUptoRow.holds Tryz.pinned (OpenSpec.upto creditScalesSpec)

/-- 'assessorlaw50.CreditAdds', WHERE WHAT IT READS IS OF BULK AT MOST 1048576: true; the input reads as it did. -/
def creditAddsUptoRow : OpenClaim := { program := "ytdajoilaakiinaagreatdoor", sum := "cabc62733ef0973104d8e6c851ea79d3be6d9e615e53288b655175f3a0fde899", func := "assessor/assessorlaw50.CreditAdds", spec := "creditAdds", inPlace := ["internal/bytealg.IndexByteString", "internal/bytealg.IndexString", "internal/abi.NoEscape", "internal/bytealg.MakeNoZero"], unfollowed := true, recurses := true, named := ["assessor/credit.zero", "internal/strconv.uint64pow10", "math/bits.deBruijn32tab", "math/bits.deBruijn64tab", "internal/bytealg.MaxLen"], apart := false, laid := [("math/bits.deBruijn32tab", laid_math_bits_deBruijn32tab), ("math/bits.deBruijn64tab", laid_math_bits_deBruijn64tab), ("internal/strconv.uint64pow10", laid_internal_strconv_uint64pow10), ("assessor/credit.zero", laid_assessor_credit_zero)], narrowed := true }
def CreditAddsUptoSaid : Prop := creditAddsUptoRow.holds Tryz.pinned (OpenSpec.upto creditAddsSpec)

end Rows
end Go.Proofs.YtdajoilaakiinaaGreatDoor
