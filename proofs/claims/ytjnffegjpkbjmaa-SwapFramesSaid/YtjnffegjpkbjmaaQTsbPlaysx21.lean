-- Taken out of a text that a program of this session printed (wip/print/myprint.py, wip/print/take.py); Lean checks it.
import Derived.Test.YtjnffegjpkbjmaaQTsbPlaysx20
namespace Go.Proofs.Ytjnffegjpkbjmaa.QTsbPlays
open Go.RowKit Go.Proofs.YtjnffegjpkbjmaaW.PrintWords Go.Proofs.YtjnffegjpkbjmaaW.PrintLast Go.Proofs.YtjnffegjpkbjmaaW.PrintMore
attribute [local go_sem] max2_int min2_int max_two min_two max_three min_three max_four min_four   -- for this text's walks alone
set_option linter.unusedVariables false
set_option linter.unusedSimpArgs false
/-! ### tte_May: function 88 -/
def tte_May.j0 : Nat → Bool → Int → Int → Int → Int → Bool → Bool → Bool → Bool → Bool → Bool → Bool → Option (Bool)
  | 0, _, _, _, _, _, _, _, _, _, _, _, _ => none
  | k + 1, x31, x307000, x307001, x307002, x307003, x307004, x307005, x307006, x307007, x307008, x307009, x307010 => if x31 = true then (some false) else ((page_Hole.f x307002).bind fun t308 => (if t308 = true then (some false) else ((page_Starts.f x307002 x307000).bind fun t309 => (if t309 = true then ((field_Fits.f x307003 41).bind fun t310 => (if t310 = true then ((page_Starts.f x307003 x307000).bind fun t311 => (some t311)) else (some false))) else (some false)))))
def tte_May.f (k : Nat) (a0_0 : Int) (a0_1 : Int) (a0_2 : Int) (a0_3 : Int) (a0_4 : Bool) (a0_5 : Bool) (a0_6 : Bool) (a0_7 : Bool) (a0_8 : Bool) (a0_9 : Bool) (a0_10 : Bool) : Option (Bool) := if a0_10 = true then ((page_May.f a0_0).bind fun t307 => (if t307 = true then (if a0_1 < 0 then (tte_May.j0 k true a0_0 a0_1 a0_2 a0_3 a0_4 a0_5 a0_6 a0_7 a0_8 a0_9 a0_10) else (if a0_1 > 8191 then (tte_May.j0 k true a0_0 a0_1 a0_2 a0_3 a0_4 a0_5 a0_6 a0_7 a0_8 a0_9 a0_10) else (if a0_8 = true then (tte_May.j0 k (a0_1 != 0) a0_0 a0_1 a0_2 a0_3 a0_4 a0_5 a0_6 a0_7 a0_8 a0_9 a0_10) else (tte_May.j0 k false a0_0 a0_1 a0_2 a0_3 a0_4 a0_5 a0_6 a0_7 a0_8 a0_9 a0_10)))) else (tte_May.j0 k true a0_0 a0_1 a0_2 a0_3 a0_4 a0_5 a0_6 a0_7 a0_8 a0_9 a0_10))) else (tte_May.j0 k true a0_0 a0_1 a0_2 a0_3 a0_4 a0_5 a0_6 a0_7 a0_8 a0_9 a0_10)
-- NOT PRINTED: function 56 (tsb_Tsb_may)
/-! ### field_Put: function 96 -/
/-! ### field_Set: function 95 -/
/-! ### tte_flags: function 97 -/
/-! ### tte_Data: function 65 -/
-- NOT PRINTED: function 28 (tsb_Tsb_PutData)
/-! ### page_Tag: function 121 -/
/-! ### tte_Target: function 98 -/
/-! ### tte_Tag: function 66 -/
-- NOT PRINTED: function 29 (tsb_Tsb_PutTag)

-- NOT PRINTED: function 22 (tsb_Tsb_Insert)

-- NOT PRINTED: function 89 (memory_Memory_Pair)
/-! ### tte_Valid: function 117 -/
/-! ### page_Base: function 118 -/
/-! ### tte_Read: function 90 -/
-- NOT PRINTED: function 58 (tsb_Tsb_read)
/-! ### page_In: function 92 -/
/-! ### tte_Hits: function 60 -/
-- NOT PRINTED: function 24 (tsb_Tsb_Find)

-- NOT PRINTED: function 26 (lookasidelaw10_lives)
end Go.Proofs.Ytjnffegjpkbjmaa.QTsbPlays
