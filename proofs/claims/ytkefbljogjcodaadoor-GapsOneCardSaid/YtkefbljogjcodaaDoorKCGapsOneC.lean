import Derived.Test.YtkefbljogjcodaaDoorKCGapsOneB
import Derived.Below
import Derived.Deep.Draws
import Derived.Deep.AppendLies
import Derived.Maps.AppendAt
import Derived.OwnWalk
import Derived.Laws.BytesArg
import Derived.Laws.MakeOwn
import Derived.Laws.OwnMore
import Derived.Deep.OwnRows
import Derived.Tactics
import Derived.Lib.ConvBytes
import Derived.Laws.Slices
import Derived.WalkKit
import Derived.KernelRfl
import Derived.RowKit3
import Derived.Deep.LoopGhost
import Derived.Deep.QuietTactic
import Derived.BigQuiet
import Derived.WideLaws
import Derived.Deep.DeepCutAuto
import Derived.Deep.CutBlock
import Derived.Deep.RegionHeld3
import Derived.Laws.Rows
import Derived.Lib.AppendStr
import Derived.ArgAppend
import Derived.Laws.IdiomCopy
import Derived.RowKit
import Derived.OrdersHeld
import Derived.Laws.BitsLemmas
import Derived.Laws.StructEq
import Derived.Test.YtkefbljogjcodaaDoorProg
import Derived.Handy
import Derived.Shelf.Unicode.DecodeSlow
import Derived.Ground.NamesProg
import Derived.Shelf.Unicode.ValidAny
import Derived.Laws.RangeString
import Derived.Laws.RangeAny
import Derived.Lib.RuneCount
import Derived.Laws.IdiomStrings
import Derived.Laws.Cover4
section
namespace Go.Proofs.YtkefbljogjcodaaDoor.F
open Go.RowKit Go.Proofs.YtkefbljogjcodaaDoorW.PrintWords Go.Proofs.YtkefbljogjcodaaDoorW.PrintLast Go.Proofs.YtkefbljogjcodaaDoorW.PrintMore
attribute [local go_sem] max2_int min2_int max_two min_two max_three min_three max_four min_four cell_setCell_isSome
set_option linter.unusedVariables false
set_option linter.unusedSimpArgs false
mutual
def epitomelaw06_GapsOne.j0 : Nat → ByteArray → Int → Int → Int → Bool → List ByteArray → List Bool → Option (Bool)
  | 0, _, _, _, _, _, _, _ => none
  | k + 1, x6, x7, x8, x9, x75, x115000, x115001 => if x75 = true then (some false) else (epitomelaw06_GapsOne.l0 k x6 x7 x8 x9 0 x115000 x115001)
def epitomelaw06_GapsOne.l0 : Nat → ByteArray → Int → Int → Int → Int → List ByteArray → List Bool → Option (Bool)
  | 0, _, _, _, _, _, _, _ => none
  | k + 1, x6, x7, x8, x9, x12, x115000, x115001 => if x12 ≤ x7 then (if 0 ≤ x12 then (if x12 < (x115000.length : Int) then (if ((x12 == x8) != ((rdOf ByteArray.empty x115000 x12).toList == x6.toList)) = true then (if x6.toList = ([] : List UInt8) then (if x12 = x8 then (if x12 < x7 then (if x12 < (x115001.length : Int) then (if x12 ≥ x8 then (if ((rdOf false x115001 x12) != (decide (x12 < (wrap64 (x8 + x9))))) = true then (some false) else (epitomelaw06_GapsOne.l0 k x6 x7 x8 x9 (wrap64 (x12 + 1)) x115000 x115001)) else (if ((rdOf false x115001 x12) != false) = true then (some false) else (epitomelaw06_GapsOne.l0 k x6 x7 x8 x9 (wrap64 (x12 + 1)) x115000 x115001))) else (none)) else (epitomelaw06_GapsOne.l0 k x6 x7 x8 x9 (wrap64 (x12 + 1)) x115000 x115001)) else (if (rdOf ByteArray.empty x115000 x12).toList = ([] : List UInt8) then (if x12 < x7 then (if x12 < (x115001.length : Int) then (if x12 ≥ x8 then (if ((rdOf false x115001 x12) != (decide (x12 < (wrap64 (x8 + x9))))) = true then (some false) else (epitomelaw06_GapsOne.l0 k x6 x7 x8 x9 (wrap64 (x12 + 1)) x115000 x115001)) else (if ((rdOf false x115001 x12) != false) = true then (some false) else (epitomelaw06_GapsOne.l0 k x6 x7 x8 x9 (wrap64 (x12 + 1)) x115000 x115001))) else (none)) else (epitomelaw06_GapsOne.l0 k x6 x7 x8 x9 (wrap64 (x12 + 1)) x115000 x115001)) else (some false))) else (some false)) else (if x12 = x8 then (if x12 < x7 then (if x12 < (x115001.length : Int) then (if x12 ≥ x8 then (if ((rdOf false x115001 x12) != (decide (x12 < (wrap64 (x8 + x9))))) = true then (some false) else (epitomelaw06_GapsOne.l0 k x6 x7 x8 x9 (wrap64 (x12 + 1)) x115000 x115001)) else (if ((rdOf false x115001 x12) != false) = true then (some false) else (epitomelaw06_GapsOne.l0 k x6 x7 x8 x9 (wrap64 (x12 + 1)) x115000 x115001))) else (none)) else (epitomelaw06_GapsOne.l0 k x6 x7 x8 x9 (wrap64 (x12 + 1)) x115000 x115001)) else (if (rdOf ByteArray.empty x115000 x12).toList = ([] : List UInt8) then (if x12 < x7 then (if x12 < (x115001.length : Int) then (if x12 ≥ x8 then (if ((rdOf false x115001 x12) != (decide (x12 < (wrap64 (x8 + x9))))) = true then (some false) else (epitomelaw06_GapsOne.l0 k x6 x7 x8 x9 (wrap64 (x12 + 1)) x115000 x115001)) else (if ((rdOf false x115001 x12) != false) = true then (some false) else (epitomelaw06_GapsOne.l0 k x6 x7 x8 x9 (wrap64 (x12 + 1)) x115000 x115001))) else (none)) else (epitomelaw06_GapsOne.l0 k x6 x7 x8 x9 (wrap64 (x12 + 1)) x115000 x115001)) else (some false)))) else (none)) else (none)) else (some true)
end
def epitomelaw06_GapsOne.f (k : Nat) (a0 : ByteArray) (a1_0 : Int) (a1_1 : Int) (a1_2 : Int) : Option (Bool) := (epitomelaw06_shown.f k).bind fun t102 => (if 0 ≤ (mn (a0.size : Int) 20) then (if (mn (a0.size : Int) 20) ≤ (a0.size : Int) then ((epitomeref01_Fit.f k (a0.extract 0 ((mn (a0.size : Int) 20) : Int).toNat)).bind fun t103 => (if (wrap64 ((wrap64 (Int.tmod a1_0 64)) + 1)) = 0 then (none) else (if (wrap64 ((wrap64 ((wrap64 (Int.tmod a1_0 64)) - (Int.tmod (wrap64 (a1_1)) (wrap64 ((wrap64 (Int.tmod a1_0 64)) + 1))))) + 1)) = 0 then (none) else ((gaps_Of.f k (([(⟨1, Int.tmod (wrap64 (a1_1)) (wrap64 ((wrap64 (Int.tmod a1_0 64)) + 1)), (⟨#[]⟩ : ByteArray)⟩ : S26), (⟨2, 0, t103⟩ : S26), (⟨3, Int.tmod (wrap64 (a1_2)) (wrap64 ((wrap64 ((wrap64 (Int.tmod a1_0 64)) - (Int.tmod (wrap64 (a1_1)) (wrap64 ((wrap64 (Int.tmod a1_0 64)) + 1))))) + 1)), (⟨#[]⟩ : ByteArray)⟩ : S26), (⟨1, wrap64 ((wrap64 ((wrap64 (Int.tmod a1_0 64)) - (Int.tmod (wrap64 (a1_1)) (wrap64 ((wrap64 (Int.tmod a1_0 64)) + 1))))) - (Int.tmod (wrap64 (a1_2)) (wrap64 ((wrap64 ((wrap64 (Int.tmod a1_0 64)) - (Int.tmod (wrap64 (a1_1)) (wrap64 ((wrap64 (Int.tmod a1_0 64)) + 1))))) + 1)))), (⟨#[]⟩ : ByteArray)⟩ : S26)] : List (S26)))).bind fun bt107 => (if t102 = true then (if bt107.2.2 = 0 then (if (bt107.1.length : Int) = (wrap64 ((wrap64 (Int.tmod a1_0 64)) + 1)) then (epitomelaw06_GapsOne.j0 k t103 (wrap64 (Int.tmod a1_0 64)) (Int.tmod (wrap64 (a1_1)) (wrap64 ((wrap64 (Int.tmod a1_0 64)) + 1))) (Int.tmod (wrap64 (a1_2)) (wrap64 ((wrap64 ((wrap64 (Int.tmod a1_0 64)) - (Int.tmod (wrap64 (a1_1)) (wrap64 ((wrap64 (Int.tmod a1_0 64)) + 1))))) + 1))) ((bt107.2.1.length : Int) != (wrap64 (Int.tmod a1_0 64))) bt107.1 bt107.2.1) else (epitomelaw06_GapsOne.j0 k t103 (wrap64 (Int.tmod a1_0 64)) (Int.tmod (wrap64 (a1_1)) (wrap64 ((wrap64 (Int.tmod a1_0 64)) + 1))) (Int.tmod (wrap64 (a1_2)) (wrap64 ((wrap64 ((wrap64 (Int.tmod a1_0 64)) - (Int.tmod (wrap64 (a1_1)) (wrap64 ((wrap64 (Int.tmod a1_0 64)) + 1))))) + 1))) true bt107.1 bt107.2.1)) else (epitomelaw06_GapsOne.j0 k t103 (wrap64 (Int.tmod a1_0 64)) (Int.tmod (wrap64 (a1_1)) (wrap64 ((wrap64 (Int.tmod a1_0 64)) + 1))) (Int.tmod (wrap64 (a1_2)) (wrap64 ((wrap64 ((wrap64 (Int.tmod a1_0 64)) - (Int.tmod (wrap64 (a1_1)) (wrap64 ((wrap64 (Int.tmod a1_0 64)) + 1))))) + 1))) true bt107.1 bt107.2.1)) else (epitomelaw06_GapsOne.j0 k t103 (wrap64 (Int.tmod a1_0 64)) (Int.tmod (wrap64 (a1_1)) (wrap64 ((wrap64 (Int.tmod a1_0 64)) + 1))) (Int.tmod (wrap64 (a1_2)) (wrap64 ((wrap64 ((wrap64 (Int.tmod a1_0 64)) - (Int.tmod (wrap64 (a1_1)) (wrap64 ((wrap64 (Int.tmod a1_0 64)) + 1))))) + 1))) true bt107.1 bt107.2.1)))))) else (none)) else (none))
theorem bb_no1 {X : Bool} {a b : List UInt8} (hn : ¬ a = b) (h : (X == (a == b)) = true) (hx : X = true) : False := by subst hx; exact hn (by simpa using h)
theorem bb_no2 {X : Bool} {a b : List UInt8} (hn : a = b) (h : (X == (a == b)) = true) (hx : X = false) : False := by subst hx; subst hn; simp at h
theorem bb_no3 {X : Bool} {a b : List UInt8} (hn : a = b) (h : (X != (a == b)) = true) (hx : X = true) : False := by subst hx; subst hn; simp at h
theorem bb_no4 {X : Bool} {a b : List UInt8} (hn : ¬ a = b) (h : (X != (a == b)) = true) (hx : X = false) : False := by subst hx; exact hn (by simpa using h)
set_option maxHeartbeats 8000000 in
set_option maxRecDepth 100000 in
theorem epitomelaw06_GapsOne.calls (k : Nat) (a0 : ByteArray) (a1_0 : Int) (a1_1 : Int) (a1_2 : Int) (r : Bool) (hr_ : Aside0 (r = true)) (w : World) (hG : Glob w) (h : epitomelaw06_GapsOne.f k a0 a1_0 a1_1 a1_2 = some r) :
    Calls Tryd.prog 11 #[.string a0, .agg #[.int .u8 a1_0, .int .u8 a1_1, .int .u8 a1_2]] w fun e w' => e = .returned (.bool r) ∧ Below w.heap.size w w' := by
  have hu59 := Tryd.underlying59
  have hu26 := Tryd.underlying26
  have hu49 := Tryd.underlying49
  have HG := Aside0.mk hG
  clear hG
  have HB := Aside0.mk (Below.refl w.heap.size w)
  have H : ((epitomelaw06_shown.f k).bind fun t102 => (if 0 ≤ (mn (a0.size : Int) 20) then (if (mn (a0.size : Int) 20) ≤ (a0.size : Int) then ((epitomeref01_Fit.f k (a0.extract 0 ((mn (a0.size : Int) 20) : Int).toNat)).bind fun t103 => (if (wrap64 ((wrap64 (Int.tmod a1_0 64)) + 1)) = 0 then (none) else (if (wrap64 ((wrap64 ((wrap64 (Int.tmod a1_0 64)) - (Int.tmod (wrap64 (a1_1)) (wrap64 ((wrap64 (Int.tmod a1_0 64)) + 1))))) + 1)) = 0 then (none) else ((gaps_Of.f k (([(⟨1, Int.tmod (wrap64 (a1_1)) (wrap64 ((wrap64 (Int.tmod a1_0 64)) + 1)), (⟨#[]⟩ : ByteArray)⟩ : S26), (⟨2, 0, t103⟩ : S26), (⟨3, Int.tmod (wrap64 (a1_2)) (wrap64 ((wrap64 ((wrap64 (Int.tmod a1_0 64)) - (Int.tmod (wrap64 (a1_1)) (wrap64 ((wrap64 (Int.tmod a1_0 64)) + 1))))) + 1)), (⟨#[]⟩ : ByteArray)⟩ : S26), (⟨1, wrap64 ((wrap64 ((wrap64 (Int.tmod a1_0 64)) - (Int.tmod (wrap64 (a1_1)) (wrap64 ((wrap64 (Int.tmod a1_0 64)) + 1))))) - (Int.tmod (wrap64 (a1_2)) (wrap64 ((wrap64 ((wrap64 (Int.tmod a1_0 64)) - (Int.tmod (wrap64 (a1_1)) (wrap64 ((wrap64 (Int.tmod a1_0 64)) + 1))))) + 1)))), (⟨#[]⟩ : ByteArray)⟩ : S26)] : List (S26)))).bind fun bt107 => (if t102 = true then (if bt107.2.2 = 0 then (if (bt107.1.length : Int) = (wrap64 ((wrap64 (Int.tmod a1_0 64)) + 1)) then (epitomelaw06_GapsOne.j0 k t103 (wrap64 (Int.tmod a1_0 64)) (Int.tmod (wrap64 (a1_1)) (wrap64 ((wrap64 (Int.tmod a1_0 64)) + 1))) (Int.tmod (wrap64 (a1_2)) (wrap64 ((wrap64 ((wrap64 (Int.tmod a1_0 64)) - (Int.tmod (wrap64 (a1_1)) (wrap64 ((wrap64 (Int.tmod a1_0 64)) + 1))))) + 1))) ((bt107.2.1.length : Int) != (wrap64 (Int.tmod a1_0 64))) bt107.1 bt107.2.1) else (epitomelaw06_GapsOne.j0 k t103 (wrap64 (Int.tmod a1_0 64)) (Int.tmod (wrap64 (a1_1)) (wrap64 ((wrap64 (Int.tmod a1_0 64)) + 1))) (Int.tmod (wrap64 (a1_2)) (wrap64 ((wrap64 ((wrap64 (Int.tmod a1_0 64)) - (Int.tmod (wrap64 (a1_1)) (wrap64 ((wrap64 (Int.tmod a1_0 64)) + 1))))) + 1))) true bt107.1 bt107.2.1)) else (epitomelaw06_GapsOne.j0 k t103 (wrap64 (Int.tmod a1_0 64)) (Int.tmod (wrap64 (a1_1)) (wrap64 ((wrap64 (Int.tmod a1_0 64)) + 1))) (Int.tmod (wrap64 (a1_2)) (wrap64 ((wrap64 ((wrap64 (Int.tmod a1_0 64)) - (Int.tmod (wrap64 (a1_1)) (wrap64 ((wrap64 (Int.tmod a1_0 64)) + 1))))) + 1))) true bt107.1 bt107.2.1)) else (epitomelaw06_GapsOne.j0 k t103 (wrap64 (Int.tmod a1_0 64)) (Int.tmod (wrap64 (a1_1)) (wrap64 ((wrap64 (Int.tmod a1_0 64)) + 1))) (Int.tmod (wrap64 (a1_2)) (wrap64 ((wrap64 ((wrap64 (Int.tmod a1_0 64)) - (Int.tmod (wrap64 (a1_1)) (wrap64 ((wrap64 (Int.tmod a1_0 64)) + 1))))) + 1))) true bt107.1 bt107.2.1)))))) else (none)) else (none))) = some r := h
  clear h
  replace H := Option.bind_eq_some_iff.mp H
  obtain ⟨t102, A30, H⟩ := H
  replace H : (if 0 ≤ (mn (a0.size : Int) 20) then (if (mn (a0.size : Int) 20) ≤ (a0.size : Int) then ((epitomeref01_Fit.f k (a0.extract 0 ((mn (a0.size : Int) 20) : Int).toNat)).bind fun t103 => (if (wrap64 ((wrap64 (Int.tmod a1_0 64)) + 1)) = 0 then (none) else (if (wrap64 ((wrap64 ((wrap64 (Int.tmod a1_0 64)) - (Int.tmod (wrap64 (a1_1)) (wrap64 ((wrap64 (Int.tmod a1_0 64)) + 1))))) + 1)) = 0 then (none) else ((gaps_Of.f k (([(⟨1, Int.tmod (wrap64 (a1_1)) (wrap64 ((wrap64 (Int.tmod a1_0 64)) + 1)), (⟨#[]⟩ : ByteArray)⟩ : S26), (⟨2, 0, t103⟩ : S26), (⟨3, Int.tmod (wrap64 (a1_2)) (wrap64 ((wrap64 ((wrap64 (Int.tmod a1_0 64)) - (Int.tmod (wrap64 (a1_1)) (wrap64 ((wrap64 (Int.tmod a1_0 64)) + 1))))) + 1)), (⟨#[]⟩ : ByteArray)⟩ : S26), (⟨1, wrap64 ((wrap64 ((wrap64 (Int.tmod a1_0 64)) - (Int.tmod (wrap64 (a1_1)) (wrap64 ((wrap64 (Int.tmod a1_0 64)) + 1))))) - (Int.tmod (wrap64 (a1_2)) (wrap64 ((wrap64 ((wrap64 (Int.tmod a1_0 64)) - (Int.tmod (wrap64 (a1_1)) (wrap64 ((wrap64 (Int.tmod a1_0 64)) + 1))))) + 1)))), (⟨#[]⟩ : ByteArray)⟩ : S26)] : List (S26)))).bind fun bt107 => (if t102 = true then (if bt107.2.2 = 0 then (if (bt107.1.length : Int) = (wrap64 ((wrap64 (Int.tmod a1_0 64)) + 1)) then (epitomelaw06_GapsOne.j0 k t103 (wrap64 (Int.tmod a1_0 64)) (Int.tmod (wrap64 (a1_1)) (wrap64 ((wrap64 (Int.tmod a1_0 64)) + 1))) (Int.tmod (wrap64 (a1_2)) (wrap64 ((wrap64 ((wrap64 (Int.tmod a1_0 64)) - (Int.tmod (wrap64 (a1_1)) (wrap64 ((wrap64 (Int.tmod a1_0 64)) + 1))))) + 1))) ((bt107.2.1.length : Int) != (wrap64 (Int.tmod a1_0 64))) bt107.1 bt107.2.1) else (epitomelaw06_GapsOne.j0 k t103 (wrap64 (Int.tmod a1_0 64)) (Int.tmod (wrap64 (a1_1)) (wrap64 ((wrap64 (Int.tmod a1_0 64)) + 1))) (Int.tmod (wrap64 (a1_2)) (wrap64 ((wrap64 ((wrap64 (Int.tmod a1_0 64)) - (Int.tmod (wrap64 (a1_1)) (wrap64 ((wrap64 (Int.tmod a1_0 64)) + 1))))) + 1))) true bt107.1 bt107.2.1)) else (epitomelaw06_GapsOne.j0 k t103 (wrap64 (Int.tmod a1_0 64)) (Int.tmod (wrap64 (a1_1)) (wrap64 ((wrap64 (Int.tmod a1_0 64)) + 1))) (Int.tmod (wrap64 (a1_2)) (wrap64 ((wrap64 ((wrap64 (Int.tmod a1_0 64)) - (Int.tmod (wrap64 (a1_1)) (wrap64 ((wrap64 (Int.tmod a1_0 64)) + 1))))) + 1))) true bt107.1 bt107.2.1)) else (epitomelaw06_GapsOne.j0 k t103 (wrap64 (Int.tmod a1_0 64)) (Int.tmod (wrap64 (a1_1)) (wrap64 ((wrap64 (Int.tmod a1_0 64)) + 1))) (Int.tmod (wrap64 (a1_2)) (wrap64 ((wrap64 ((wrap64 (Int.tmod a1_0 64)) - (Int.tmod (wrap64 (a1_1)) (wrap64 ((wrap64 (Int.tmod a1_0 64)) + 1))))) + 1))) true bt107.1 bt107.2.1)))))) else (none)) else (none)) = some r := H
  have A3 := Aside0.mk A30
  clear A30
  obtain ⟨ji4, hji4⟩ : ∃ j_ : Int, (mn (a0.size : Int) 20) = j_ := ⟨_, rfl⟩
  replace H : (if 0 ≤ (ji4) then (if (ji4) ≤ (a0.size : Int) then ((epitomeref01_Fit.f k (a0.extract 0 ((ji4) : Int).toNat)).bind fun t103 => (if (wrap64 ((wrap64 (Int.tmod a1_0 64)) + 1)) = 0 then (none) else (if (wrap64 ((wrap64 ((wrap64 (Int.tmod a1_0 64)) - (Int.tmod (wrap64 (a1_1)) (wrap64 ((wrap64 (Int.tmod a1_0 64)) + 1))))) + 1)) = 0 then (none) else ((gaps_Of.f k (([(⟨1, Int.tmod (wrap64 (a1_1)) (wrap64 ((wrap64 (Int.tmod a1_0 64)) + 1)), (⟨#[]⟩ : ByteArray)⟩ : S26), (⟨2, 0, t103⟩ : S26), (⟨3, Int.tmod (wrap64 (a1_2)) (wrap64 ((wrap64 ((wrap64 (Int.tmod a1_0 64)) - (Int.tmod (wrap64 (a1_1)) (wrap64 ((wrap64 (Int.tmod a1_0 64)) + 1))))) + 1)), (⟨#[]⟩ : ByteArray)⟩ : S26), (⟨1, wrap64 ((wrap64 ((wrap64 (Int.tmod a1_0 64)) - (Int.tmod (wrap64 (a1_1)) (wrap64 ((wrap64 (Int.tmod a1_0 64)) + 1))))) - (Int.tmod (wrap64 (a1_2)) (wrap64 ((wrap64 ((wrap64 (Int.tmod a1_0 64)) - (Int.tmod (wrap64 (a1_1)) (wrap64 ((wrap64 (Int.tmod a1_0 64)) + 1))))) + 1)))), (⟨#[]⟩ : ByteArray)⟩ : S26)] : List (S26)))).bind fun bt107 => (if t102 = true then (if bt107.2.2 = 0 then (if (bt107.1.length : Int) = (wrap64 ((wrap64 (Int.tmod a1_0 64)) + 1)) then (epitomelaw06_GapsOne.j0 k t103 (wrap64 (Int.tmod a1_0 64)) (Int.tmod (wrap64 (a1_1)) (wrap64 ((wrap64 (Int.tmod a1_0 64)) + 1))) (Int.tmod (wrap64 (a1_2)) (wrap64 ((wrap64 ((wrap64 (Int.tmod a1_0 64)) - (Int.tmod (wrap64 (a1_1)) (wrap64 ((wrap64 (Int.tmod a1_0 64)) + 1))))) + 1))) ((bt107.2.1.length : Int) != (wrap64 (Int.tmod a1_0 64))) bt107.1 bt107.2.1) else (epitomelaw06_GapsOne.j0 k t103 (wrap64 (Int.tmod a1_0 64)) (Int.tmod (wrap64 (a1_1)) (wrap64 ((wrap64 (Int.tmod a1_0 64)) + 1))) (Int.tmod (wrap64 (a1_2)) (wrap64 ((wrap64 ((wrap64 (Int.tmod a1_0 64)) - (Int.tmod (wrap64 (a1_1)) (wrap64 ((wrap64 (Int.tmod a1_0 64)) + 1))))) + 1))) true bt107.1 bt107.2.1)) else (epitomelaw06_GapsOne.j0 k t103 (wrap64 (Int.tmod a1_0 64)) (Int.tmod (wrap64 (a1_1)) (wrap64 ((wrap64 (Int.tmod a1_0 64)) + 1))) (Int.tmod (wrap64 (a1_2)) (wrap64 ((wrap64 ((wrap64 (Int.tmod a1_0 64)) - (Int.tmod (wrap64 (a1_1)) (wrap64 ((wrap64 (Int.tmod a1_0 64)) + 1))))) + 1))) true bt107.1 bt107.2.1)) else (epitomelaw06_GapsOne.j0 k t103 (wrap64 (Int.tmod a1_0 64)) (Int.tmod (wrap64 (a1_1)) (wrap64 ((wrap64 (Int.tmod a1_0 64)) + 1))) (Int.tmod (wrap64 (a1_2)) (wrap64 ((wrap64 ((wrap64 (Int.tmod a1_0 64)) - (Int.tmod (wrap64 (a1_1)) (wrap64 ((wrap64 (Int.tmod a1_0 64)) + 1))))) + 1))) true bt107.1 bt107.2.1)))))) else (none)) else (none)) = some r := by first | (rw [hji4] at H; exact H) | (simp only [hji4] at H ⊢; exact H)
  (try rw [hji4] at A3)
  (try (have hji4h : ji4 ≤ 20 := by (rw [← hji4]; unfold mn; (repeat' split) <;> omega)))
  (try (have hji4g : ji4 ≤ 64 := by omega))
  (try (have hji4l : 0 ≤ ji4 := by (rw [← hji4]; unfold mn; (repeat' split) <;> omega)))
  (try (have hji4m : 0 ≤ ji4 := by omega))
  have hji4_ : (if 20 < (a0.size : Int) then 20 else (a0.size : Int)) = ji4 := hji4
  by_cases c5 : 0 ≤ (ji4)
  · rw [if_pos c5] at H
    have c5b0 := eq_true c5
    have c5b1 : decide (0 ≤ (ji4)) = true := decide_eq_true c5
    clear c5
    by_cases c6 : (ji4) ≤ (a0.size : Int)
    · rw [if_pos c6] at H
      have c6b0 := eq_true c6
      have c6b1 : decide ((ji4) ≤ (a0.size : Int)) = true := decide_eq_true c6
      clear c6
      replace H := Option.bind_eq_some_iff.mp H
      obtain ⟨t103, A70, H⟩ := H
      replace H : (if (wrap64 ((wrap64 (Int.tmod a1_0 64)) + 1)) = 0 then (none) else (if (wrap64 ((wrap64 ((wrap64 (Int.tmod a1_0 64)) - (Int.tmod (wrap64 (a1_1)) (wrap64 ((wrap64 (Int.tmod a1_0 64)) + 1))))) + 1)) = 0 then (none) else ((gaps_Of.f k (([(⟨1, Int.tmod (wrap64 (a1_1)) (wrap64 ((wrap64 (Int.tmod a1_0 64)) + 1)), (⟨#[]⟩ : ByteArray)⟩ : S26), (⟨2, 0, t103⟩ : S26), (⟨3, Int.tmod (wrap64 (a1_2)) (wrap64 ((wrap64 ((wrap64 (Int.tmod a1_0 64)) - (Int.tmod (wrap64 (a1_1)) (wrap64 ((wrap64 (Int.tmod a1_0 64)) + 1))))) + 1)), (⟨#[]⟩ : ByteArray)⟩ : S26), (⟨1, wrap64 ((wrap64 ((wrap64 (Int.tmod a1_0 64)) - (Int.tmod (wrap64 (a1_1)) (wrap64 ((wrap64 (Int.tmod a1_0 64)) + 1))))) - (Int.tmod (wrap64 (a1_2)) (wrap64 ((wrap64 ((wrap64 (Int.tmod a1_0 64)) - (Int.tmod (wrap64 (a1_1)) (wrap64 ((wrap64 (Int.tmod a1_0 64)) + 1))))) + 1)))), (⟨#[]⟩ : ByteArray)⟩ : S26)] : List (S26)))).bind fun bt107 => (if t102 = true then (if bt107.2.2 = 0 then (if (bt107.1.length : Int) = (wrap64 ((wrap64 (Int.tmod a1_0 64)) + 1)) then (epitomelaw06_GapsOne.j0 k t103 (wrap64 (Int.tmod a1_0 64)) (Int.tmod (wrap64 (a1_1)) (wrap64 ((wrap64 (Int.tmod a1_0 64)) + 1))) (Int.tmod (wrap64 (a1_2)) (wrap64 ((wrap64 ((wrap64 (Int.tmod a1_0 64)) - (Int.tmod (wrap64 (a1_1)) (wrap64 ((wrap64 (Int.tmod a1_0 64)) + 1))))) + 1))) ((bt107.2.1.length : Int) != (wrap64 (Int.tmod a1_0 64))) bt107.1 bt107.2.1) else (epitomelaw06_GapsOne.j0 k t103 (wrap64 (Int.tmod a1_0 64)) (Int.tmod (wrap64 (a1_1)) (wrap64 ((wrap64 (Int.tmod a1_0 64)) + 1))) (Int.tmod (wrap64 (a1_2)) (wrap64 ((wrap64 ((wrap64 (Int.tmod a1_0 64)) - (Int.tmod (wrap64 (a1_1)) (wrap64 ((wrap64 (Int.tmod a1_0 64)) + 1))))) + 1))) true bt107.1 bt107.2.1)) else (epitomelaw06_GapsOne.j0 k t103 (wrap64 (Int.tmod a1_0 64)) (Int.tmod (wrap64 (a1_1)) (wrap64 ((wrap64 (Int.tmod a1_0 64)) + 1))) (Int.tmod (wrap64 (a1_2)) (wrap64 ((wrap64 ((wrap64 (Int.tmod a1_0 64)) - (Int.tmod (wrap64 (a1_1)) (wrap64 ((wrap64 (Int.tmod a1_0 64)) + 1))))) + 1))) true bt107.1 bt107.2.1)) else (epitomelaw06_GapsOne.j0 k t103 (wrap64 (Int.tmod a1_0 64)) (Int.tmod (wrap64 (a1_1)) (wrap64 ((wrap64 (Int.tmod a1_0 64)) + 1))) (Int.tmod (wrap64 (a1_2)) (wrap64 ((wrap64 ((wrap64 (Int.tmod a1_0 64)) - (Int.tmod (wrap64 (a1_1)) (wrap64 ((wrap64 (Int.tmod a1_0 64)) + 1))))) + 1))) true bt107.1 bt107.2.1))))) = some r := H
      have A7 := Aside0.mk A70
      clear A70
      by_cases c8 : (wrap64 ((wrap64 (Int.tmod a1_0 64)) + 1)) = 0
      · rw [if_pos c8] at H
        exact absurd H (by simp)
      · rw [if_neg c8] at H
        have c8b0 : ((wrap64 ((wrap64 (Int.tmod a1_0 64)) + 1)) == 0) = false := beq_eq_false_iff_ne.mpr c8
        have c8b1 : ((wrap64 ((wrap64 (Int.tmod a1_0 64)) + 1)) != 0) = true := bne_iff_ne.mpr c8
        by_cases c9 : (wrap64 ((wrap64 ((wrap64 (Int.tmod a1_0 64)) - (Int.tmod (wrap64 (a1_1)) (wrap64 ((wrap64 (Int.tmod a1_0 64)) + 1))))) + 1)) = 0
        · rw [if_pos c9] at H
          exact absurd H (by simp)
        · rw [if_neg c9] at H
          have c9b0 : ((wrap64 ((wrap64 ((wrap64 (Int.tmod a1_0 64)) - (Int.tmod (wrap64 (a1_1)) (wrap64 ((wrap64 (Int.tmod a1_0 64)) + 1))))) + 1)) == 0) = false := beq_eq_false_iff_ne.mpr c9
          have c9b1 : ((wrap64 ((wrap64 ((wrap64 (Int.tmod a1_0 64)) - (Int.tmod (wrap64 (a1_1)) (wrap64 ((wrap64 (Int.tmod a1_0 64)) + 1))))) + 1)) != 0) = true := bne_iff_ne.mpr c9
          obtain ⟨y104, hy104⟩ : ∃ y_ : List (S26), y_ = (([(⟨1, Int.tmod (wrap64 (a1_1)) (wrap64 ((wrap64 (Int.tmod a1_0 64)) + 1)), (⟨#[]⟩ : ByteArray)⟩ : S26), (⟨2, 0, t103⟩ : S26), (⟨3, Int.tmod (wrap64 (a1_2)) (wrap64 ((wrap64 ((wrap64 (Int.tmod a1_0 64)) - (Int.tmod (wrap64 (a1_1)) (wrap64 ((wrap64 (Int.tmod a1_0 64)) + 1))))) + 1)), (⟨#[]⟩ : ByteArray)⟩ : S26), (⟨1, wrap64 ((wrap64 ((wrap64 (Int.tmod a1_0 64)) - (Int.tmod (wrap64 (a1_1)) (wrap64 ((wrap64 (Int.tmod a1_0 64)) + 1))))) - (Int.tmod (wrap64 (a1_2)) (wrap64 ((wrap64 ((wrap64 (Int.tmod a1_0 64)) - (Int.tmod (wrap64 (a1_1)) (wrap64 ((wrap64 (Int.tmod a1_0 64)) + 1))))) + 1)))), (⟨#[]⟩ : ByteArray)⟩ : S26)] : List (S26))) := ⟨_, rfl⟩
          replace H : ((gaps_Of.f k y104).bind fun bt107 => (if t102 = true then (if bt107.2.2 = 0 then (if (bt107.1.length : Int) = (wrap64 ((wrap64 (Int.tmod a1_0 64)) + 1)) then (epitomelaw06_GapsOne.j0 k t103 (wrap64 (Int.tmod a1_0 64)) (Int.tmod (wrap64 (a1_1)) (wrap64 ((wrap64 (Int.tmod a1_0 64)) + 1))) (Int.tmod (wrap64 (a1_2)) (wrap64 ((wrap64 ((wrap64 (Int.tmod a1_0 64)) - (Int.tmod (wrap64 (a1_1)) (wrap64 ((wrap64 (Int.tmod a1_0 64)) + 1))))) + 1))) ((bt107.2.1.length : Int) != (wrap64 (Int.tmod a1_0 64))) bt107.1 bt107.2.1) else (epitomelaw06_GapsOne.j0 k t103 (wrap64 (Int.tmod a1_0 64)) (Int.tmod (wrap64 (a1_1)) (wrap64 ((wrap64 (Int.tmod a1_0 64)) + 1))) (Int.tmod (wrap64 (a1_2)) (wrap64 ((wrap64 ((wrap64 (Int.tmod a1_0 64)) - (Int.tmod (wrap64 (a1_1)) (wrap64 ((wrap64 (Int.tmod a1_0 64)) + 1))))) + 1))) true bt107.1 bt107.2.1)) else (epitomelaw06_GapsOne.j0 k t103 (wrap64 (Int.tmod a1_0 64)) (Int.tmod (wrap64 (a1_1)) (wrap64 ((wrap64 (Int.tmod a1_0 64)) + 1))) (Int.tmod (wrap64 (a1_2)) (wrap64 ((wrap64 ((wrap64 (Int.tmod a1_0 64)) - (Int.tmod (wrap64 (a1_1)) (wrap64 ((wrap64 (Int.tmod a1_0 64)) + 1))))) + 1))) true bt107.1 bt107.2.1)) else (epitomelaw06_GapsOne.j0 k t103 (wrap64 (Int.tmod a1_0 64)) (Int.tmod (wrap64 (a1_1)) (wrap64 ((wrap64 (Int.tmod a1_0 64)) + 1))) (Int.tmod (wrap64 (a1_2)) (wrap64 ((wrap64 ((wrap64 (Int.tmod a1_0 64)) - (Int.tmod (wrap64 (a1_1)) (wrap64 ((wrap64 (Int.tmod a1_0 64)) + 1))))) + 1))) true bt107.1 bt107.2.1))) = some r := by first | (rw [hy104]; with_reducible exact H) | (have H2_ := (Option.bind_some _ _).symm.trans H; rw [hy104]; with_reducible exact H2_) | (have H2_ := (Option.bind_some _ _).symm.trans H; with_reducible exact H2_) | with_reducible exact H | (rw [hy104]; exact H) | exact H
          have Ny104 := Aside0.mk hy104
          clear hy104
          replace H := Option.bind_eq_some_iff.mp H
          obtain ⟨⟨t107, t110, t113⟩, A100, H⟩ := H
          replace H : (if t102 = true then (if t113 = 0 then (if (t107.length : Int) = (wrap64 ((wrap64 (Int.tmod a1_0 64)) + 1)) then (epitomelaw06_GapsOne.j0 k t103 (wrap64 (Int.tmod a1_0 64)) (Int.tmod (wrap64 (a1_1)) (wrap64 ((wrap64 (Int.tmod a1_0 64)) + 1))) (Int.tmod (wrap64 (a1_2)) (wrap64 ((wrap64 ((wrap64 (Int.tmod a1_0 64)) - (Int.tmod (wrap64 (a1_1)) (wrap64 ((wrap64 (Int.tmod a1_0 64)) + 1))))) + 1))) ((t110.length : Int) != (wrap64 (Int.tmod a1_0 64))) t107 t110) else (epitomelaw06_GapsOne.j0 k t103 (wrap64 (Int.tmod a1_0 64)) (Int.tmod (wrap64 (a1_1)) (wrap64 ((wrap64 (Int.tmod a1_0 64)) + 1))) (Int.tmod (wrap64 (a1_2)) (wrap64 ((wrap64 ((wrap64 (Int.tmod a1_0 64)) - (Int.tmod (wrap64 (a1_1)) (wrap64 ((wrap64 (Int.tmod a1_0 64)) + 1))))) + 1))) true t107 t110)) else (epitomelaw06_GapsOne.j0 k t103 (wrap64 (Int.tmod a1_0 64)) (Int.tmod (wrap64 (a1_1)) (wrap64 ((wrap64 (Int.tmod a1_0 64)) + 1))) (Int.tmod (wrap64 (a1_2)) (wrap64 ((wrap64 ((wrap64 (Int.tmod a1_0 64)) - (Int.tmod (wrap64 (a1_1)) (wrap64 ((wrap64 (Int.tmod a1_0 64)) + 1))))) + 1))) true t107 t110)) else (epitomelaw06_GapsOne.j0 k t103 (wrap64 (Int.tmod a1_0 64)) (Int.tmod (wrap64 (a1_1)) (wrap64 ((wrap64 (Int.tmod a1_0 64)) + 1))) (Int.tmod (wrap64 (a1_2)) (wrap64 ((wrap64 ((wrap64 (Int.tmod a1_0 64)) - (Int.tmod (wrap64 (a1_1)) (wrap64 ((wrap64 (Int.tmod a1_0 64)) + 1))))) + 1))) true t107 t110)) = some r := H
          have A10 := Aside0.mk A100
          clear A100
          have HC11 := Aside0.mk H
          clear H
          go_enter Tryd.func11, Tryd.ntmps11
          go_upto_region 7 with (first | ((with_reducible refine gate_dst (N := 3) rfl ?_); (try (refine gate_guard (by rfl) ?_; dsimp only)); refine box_event ?hg (N := 3) ?hd (cs := #[.int .u8 a1_0, .int .u8 a1_1, .int .u8 a1_2]) (t := 59) ?hr ?_; (case hd => rfl); (case hg => rfl); (case hr => first | (go_simp; done) | (go_simp; rfl)); intro gb101 hg w12 hbox hb; have n0_ := Aside0.mk (below_step (by repeat (first | (with_reducible first | exact HB.out | apply below_alloc | apply pw_below_drewN | apply below_drew1) | exact HB.out)) hb); have n1_ := Aside0.mk (hbox); have n2_ := Aside0.mk ((by rw [hg]; exact (below_size (by repeat (first | (with_reducible first | exact HB.out | apply below_alloc | apply pw_below_drewN | apply below_drew1) | exact HB.out))) : w.heap.size ≤ gb101)); have n3_ := Aside0.mk ((by rw [hg]; exact (below_size (by repeat (first | (with_reducible first | exact HB.out | apply below_alloc | apply pw_below_drewN | apply below_drew1) | exact HB.out))) : w.heap.size ≤ gb101)); clear HB; have HB := n0_; have BK101 := n1_; have GW101 := n2_; have GE101 := n3_; clear n0_ n1_ n2_ n3_; clear hb hbox hg) | ((with_reducible refine gate_callee (f := 44) rfl ?_); refine goesL_ (some 13) rfl rfl Tryd.func44 (by kernel_rfl) rfl #[] rfl (by (try simp only [List.map_toArray, List.map_cons, List.map_nil]); first | done | rfl | (simp only [List.length_drop, List.length_take]; rfl)) ?_; (with_reducible refine (epitomelaw06_shown.calls k  t102 _ ?side1 A3.out).mono ?_); (case side1 => first | (with_reducible exact HG.out) | exact Glob.below HG.out (by repeat (first | (with_reducible first | exact HB.out | apply below_alloc | apply pw_below_drewN | apply below_drew1 | refine below_set ?_ GE101.out) | exact HB.out)) | exact Glob.drawn HG.out (by repeat (first | exact Drawn0.refl _ | apply Drawn0.step))); rintro e w13 ⟨rfl, hb⟩; refine ⟨_, rfl, ?_⟩; have n0_ := Aside0.mk (blk_below (g := gb101) (o := .cells #[.int .u8 a1_0, .int .u8 a1_1, .int .u8 a1_2] 59 (0, 0)) (by (with_reducible repeat (first | refine blk_drewN ?_ _ | refine blk_drew ?_ | refine blk_alloc ?_ _)); exact BK101.out) hb); have n1_ := Aside0.mk (below_step (by repeat (first | (with_reducible first | exact HB.out | apply below_alloc | apply pw_below_drewN | apply below_drew1 | refine below_set ?_ GE101.out) | exact HB.out)) hb); clear BK101; clear HB; have BK101 := n0_; have HB := n1_; clear n0_ n1_; (try clear hb); (try clear hb2); (try clear hk); (try clear hi)) | ((with_reducible refine gate_callee (f := 14) rfl ?_); refine goesL_ (some 19) rfl rfl Tryd.func14 (by kernel_rfl) rfl #[.string (a0.extract 0 ((ji4) : Int).toNat)] rfl (by (try simp only [List.map_toArray, List.map_cons, List.map_nil]); first | done | (simp only [hji4]; rfl) | rfl | (simp only [List.length_drop, List.length_take]; rfl)) ?_; (with_reducible refine (epitomeref01_Fit.calls k (a0.extract 0 ((ji4) : Int).toNat) t103 _ A7.out).mono ?_); rintro e w14 ⟨rfl, hb⟩; refine ⟨_, rfl, ?_⟩; have n0_ := Aside0.mk (blk_below (g := gb101) (o := .cells #[.int .u8 a1_0, .int .u8 a1_1, .int .u8 a1_2] 59 (0, 0)) (by (with_reducible repeat (first | refine blk_drewN ?_ _ | refine blk_drew ?_ | refine blk_alloc ?_ _)); exact BK101.out) hb); have n1_ := Aside0.mk (below_step (by repeat (first | (with_reducible first | exact HB.out | apply below_alloc | apply pw_below_drewN | apply below_drew1 | refine below_set ?_ GE101.out) | exact HB.out)) hb); clear BK101; clear HB; have BK101 := n0_; have HB := n1_; clear n0_ n1_; (try clear hb); (try clear hb2); (try clear hk); (try clear hi); have hcz15_0 : w14.cell? ⟨gb101, 0, none⟩ = some (.int .u8 a1_0) := (blk_cell BK101.out 0).trans rfl; have hcz15_1 : w14.cell? ⟨gb101, 1, none⟩ = some (.int .u8 a1_1) := (blk_cell BK101.out 1).trans rfl; have hcz15_2 : w14.cell? ⟨gb101, 2, none⟩ = some (.int .u8 a1_2) := (blk_cell BK101.out 2).trans rfl; have hfz15_0 := blk_frozen BK101.out 0; have hfz15_1 := blk_frozen BK101.out 1; have hfz15_2 := blk_frozen BK101.out 2) | ((with_reducible refine gate_dst (N := 51) rfl ?_); (try (refine gate_guard (by rfl) ?_; dsimp only)); refine Kd.R_lit k26 _ 26 ?hg (N := 51) ?hd (xs := ([(⟨1, Int.tmod (wrap64 (a1_1)) (wrap64 ((wrap64 (Int.tmod a1_0 64)) + 1)), (⟨#[]⟩ : ByteArray)⟩ : S26), (⟨2, 0, t103⟩ : S26), (⟨3, Int.tmod (wrap64 (a1_2)) (wrap64 ((wrap64 ((wrap64 (Int.tmod a1_0 64)) - (Int.tmod (wrap64 (a1_1)) (wrap64 ((wrap64 (Int.tmod a1_0 64)) + 1))))) + 1)), (⟨#[]⟩ : ByteArray)⟩ : S26), (⟨1, wrap64 ((wrap64 ((wrap64 (Int.tmod a1_0 64)) - (Int.tmod (wrap64 (a1_1)) (wrap64 ((wrap64 (Int.tmod a1_0 64)) + 1))))) - (Int.tmod (wrap64 (a1_2)) (wrap64 ((wrap64 ((wrap64 (Int.tmod a1_0 64)) - (Int.tmod (wrap64 (a1_1)) (wrap64 ((wrap64 (Int.tmod a1_0 64)) + 1))))) + 1)))), (⟨#[]⟩ : ByteArray)⟩ : S26)] : List (S26))) (inner := [.int .i64 1, .int .i64 (Int.tmod (wrap64 (a1_1)) (wrap64 ((wrap64 (Int.tmod a1_0 64)) + 1))), .string (⟨#[]⟩ : ByteArray), .int .i64 2, .int .i64 0, .string t103, .int .i64 3, .int .i64 (Int.tmod (wrap64 (a1_2)) (wrap64 ((wrap64 ((wrap64 (Int.tmod a1_0 64)) - (Int.tmod (wrap64 (a1_1)) (wrap64 ((wrap64 (Int.tmod a1_0 64)) + 1))))) + 1))), .string (⟨#[]⟩ : ByteArray), .int .i64 1, .int .i64 (wrap64 ((wrap64 ((wrap64 (Int.tmod a1_0 64)) - (Int.tmod (wrap64 (a1_1)) (wrap64 ((wrap64 (Int.tmod a1_0 64)) + 1))))) - (Int.tmod (wrap64 (a1_2)) (wrap64 ((wrap64 ((wrap64 (Int.tmod a1_0 64)) - (Int.tmod (wrap64 (a1_1)) (wrap64 ((wrap64 (Int.tmod a1_0 64)) + 1))))) + 1))))), .string (⟨#[]⟩ : ByteArray)]) (ok := fun _ => True) (okp := fun _ => True) ?hr ?hp (fun _ hk => hk) trivial (Below.refl _ _) (Nat.le_refl _) (by simp) ?_; (case hd => rfl); (case hg => rfl); (case hr => first | (go_simp; done) | (go_simp; rfl)); (case hp => exact (Reps.c3 (show Kd.M k26 _ _ _ (⟨1, Int.tmod (wrap64 (a1_1)) (wrap64 ((wrap64 (Int.tmod a1_0 64)) + 1)), (⟨#[]⟩ : ByteArray)⟩ : S26) [.int .i64 1, .int .i64 (Int.tmod (wrap64 (a1_1)) (wrap64 ((wrap64 (Int.tmod a1_0 64)) + 1))), .string (⟨#[]⟩ : ByteArray)] from (k26_mkM _ _ _ (⟨1, Int.tmod (wrap64 (a1_1)) (wrap64 ((wrap64 (Int.tmod a1_0 64)) + 1)), (⟨#[]⟩ : ByteArray)⟩ : S26) )) (Reps.c3 (show Kd.M k26 _ _ _ (⟨2, 0, t103⟩ : S26) [.int .i64 2, .int .i64 0, .string t103] from (k26_mkM _ _ _ (⟨2, 0, t103⟩ : S26) )) (Reps.c3 (show Kd.M k26 _ _ _ (⟨3, Int.tmod (wrap64 (a1_2)) (wrap64 ((wrap64 ((wrap64 (Int.tmod a1_0 64)) - (Int.tmod (wrap64 (a1_1)) (wrap64 ((wrap64 (Int.tmod a1_0 64)) + 1))))) + 1)), (⟨#[]⟩ : ByteArray)⟩ : S26) [.int .i64 3, .int .i64 (Int.tmod (wrap64 (a1_2)) (wrap64 ((wrap64 ((wrap64 (Int.tmod a1_0 64)) - (Int.tmod (wrap64 (a1_1)) (wrap64 ((wrap64 (Int.tmod a1_0 64)) + 1))))) + 1))), .string (⟨#[]⟩ : ByteArray)] from (k26_mkM _ _ _ (⟨3, Int.tmod (wrap64 (a1_2)) (wrap64 ((wrap64 ((wrap64 (Int.tmod a1_0 64)) - (Int.tmod (wrap64 (a1_1)) (wrap64 ((wrap64 (Int.tmod a1_0 64)) + 1))))) + 1)), (⟨#[]⟩ : ByteArray)⟩ : S26) )) (Reps.c3 (show Kd.M k26 _ _ _ (⟨1, wrap64 ((wrap64 ((wrap64 (Int.tmod a1_0 64)) - (Int.tmod (wrap64 (a1_1)) (wrap64 ((wrap64 (Int.tmod a1_0 64)) + 1))))) - (Int.tmod (wrap64 (a1_2)) (wrap64 ((wrap64 ((wrap64 (Int.tmod a1_0 64)) - (Int.tmod (wrap64 (a1_1)) (wrap64 ((wrap64 (Int.tmod a1_0 64)) + 1))))) + 1)))), (⟨#[]⟩ : ByteArray)⟩ : S26) [.int .i64 1, .int .i64 (wrap64 ((wrap64 ((wrap64 (Int.tmod a1_0 64)) - (Int.tmod (wrap64 (a1_1)) (wrap64 ((wrap64 (Int.tmod a1_0 64)) + 1))))) - (Int.tmod (wrap64 (a1_2)) (wrap64 ((wrap64 ((wrap64 (Int.tmod a1_0 64)) - (Int.tmod (wrap64 (a1_1)) (wrap64 ((wrap64 (Int.tmod a1_0 64)) + 1))))) + 1))))), .string (⟨#[]⟩ : ByteArray)] from (k26_mkM _ _ _ (⟨1, wrap64 ((wrap64 ((wrap64 (Int.tmod a1_0 64)) - (Int.tmod (wrap64 (a1_1)) (wrap64 ((wrap64 (Int.tmod a1_0 64)) + 1))))) - (Int.tmod (wrap64 (a1_2)) (wrap64 ((wrap64 ((wrap64 (Int.tmod a1_0 64)) - (Int.tmod (wrap64 (a1_1)) (wrap64 ((wrap64 (Int.tmod a1_0 64)) + 1))))) + 1)))), (⟨#[]⟩ : ByteArray)⟩ : S26) )) (Reps.none _ _)))))); intro v105 w16 ho17 hb hg_ hnew_; clear hg_ hnew_; (first | rw [← Ny104.out] at ho17 | (simp only [Int.reduceToNat] at ho17; rw [← Ny104.out] at ho17)); have n0_ := Aside0.mk (Kd.R_lower ho17 (below_size (by repeat (first | (with_reducible first | exact HB.out | apply below_alloc | apply pw_below_drewN | apply below_drew1 | refine below_set ?_ GE101.out) | exact HB.out)))); have n1_ := Aside0.mk (blk_below (g := gb101) (o := .cells #[.int .u8 a1_0, .int .u8 a1_1, .int .u8 a1_2] 59 (0, 0)) (by (with_reducible repeat (first | refine blk_drewN ?_ _ | refine blk_drew ?_ | refine blk_alloc ?_ _)); exact BK101.out) hb); have n2_ := Aside0.mk (below_step (by repeat (first | (with_reducible first | exact HB.out | apply below_alloc | apply pw_below_drewN | apply below_drew1 | refine below_set ?_ GE101.out) | exact HB.out)) hb); clear BK101; clear HB; have HO106 := n0_; have BK101 := n1_; have HB := n2_; clear n0_ n1_ n2_; clear hb ho17; obtain ⟨Ao18, co18, eo18⟩ := Kd.R_slice HO106.out; subst eo18) | ((with_reducible refine gate_callee (f := 31) rfl ?_); refine goesL_ (some 52) rfl rfl Tryd.func31 (by kernel_rfl) rfl #[.slice Ao18 y104.length co18] rfl (by (try simp only [List.map_toArray, List.map_cons, List.map_nil]); first | done | rfl | (simp only [List.length_drop, List.length_take]; rfl)) ?_; (with_reducible refine (gaps_Of.calls k _ _ y104 t107 t110 t113 _ ?side1 ?side2 ?side3 A10.out).mono ?_); (case side1 => first | (with_reducible exact HG.out) | exact Glob.below HG.out (by repeat (first | (with_reducible first | exact HB.out | apply below_alloc | apply pw_below_drewN | apply below_drew1 | refine below_set ?_ GE101.out) | exact HB.out)) | exact Glob.drawn HG.out (by repeat (first | exact Drawn0.refl _ | apply Drawn0.step))); (case side2 => repeat (first | exact (Kd.R_reads' HO106.out).2.2 | (with_reducible refine Kd.C_alloc ?_ _) | (with_reducible refine Kd.C_drewN ?_ _) | (with_reducible refine Kd.C_drew ?_))); (case side3 => exact (Kd.R_reads' HO106.out).2.1); rintro e w19 ⟨v108, v111, rfl, ho0, ho1, hb⟩; refine ⟨_, rfl, ?_⟩; have n0_ := Aside0.mk (Kd.R_below (by (with_reducible repeat (first | apply Kd.R_alloc | apply Kd.R_drewN | apply Kd.R_drew)); exact HO106.out) hb); have n1_ := Aside0.mk (Kd.V_lower (Kd.V_mono (ok' := fun k_ => some k_ ≠ (.slice Ao18 y104.length co18 : Value).ownBlock ∧ k_ ≠ gb101) ho0 (fun k_ hk_ => ⟨(Kd.fresh' (Kd.R_lt (by (with_reducible repeat (first | apply Kd.R_alloc | apply Kd.R_drewN | apply Kd.R_drew)); exact HO106.out)) k_ hk_), (Kd.freshB (g := gb101) (o := .cells #[.int .u8 a1_0, .int .u8 a1_1, .int .u8 a1_2] 59 (0, 0)) (by (with_reducible repeat (first | refine blk_drewN ?_ _ | refine blk_drew ?_ | refine blk_alloc ?_ _)); exact BK101.out) k_ hk_)⟩)) (below_size (by repeat (first | (with_reducible first | exact HB.out | apply below_alloc | apply pw_below_drewN | apply below_drew1 | refine below_set ?_ GE101.out) | exact HB.out)))); have n2_ := Aside0.mk (Kd.V_lower (Kd.V_mono (ok' := fun k_ => some k_ ≠ (.slice Ao18 y104.length co18 : Value).ownBlock ∧ k_ ≠ gb101) ho1 (fun k_ hk_ => ⟨(Kd.fresh' (Kd.R_lt (by (with_reducible repeat (first | apply Kd.R_alloc | apply Kd.R_drewN | apply Kd.R_drew)); exact HO106.out)) k_ hk_), (Kd.freshB (g := gb101) (o := .cells #[.int .u8 a1_0, .int .u8 a1_1, .int .u8 a1_2] 59 (0, 0)) (by (with_reducible repeat (first | refine blk_drewN ?_ _ | refine blk_drew ?_ | refine blk_alloc ?_ _)); exact BK101.out) k_ hk_)⟩)) (below_size (by repeat (first | (with_reducible first | exact HB.out | apply below_alloc | apply pw_below_drewN | apply below_drew1 | refine below_set ?_ GE101.out) | exact HB.out)))); have n3_ := Aside0.mk (blk_below (g := gb101) (o := .cells #[.int .u8 a1_0, .int .u8 a1_1, .int .u8 a1_2] 59 (0, 0)) (by (with_reducible repeat (first | refine blk_drewN ?_ _ | refine blk_drew ?_ | refine blk_alloc ?_ _)); exact BK101.out) hb); have n4_ := Aside0.mk (below_step (by repeat (first | (with_reducible first | exact HB.out | apply below_alloc | apply pw_below_drewN | apply below_drew1 | refine below_set ?_ GE101.out) | exact HB.out)) hb); clear HO106; clear BK101; clear HB; have HO106 := n0_; have HO109 := n1_; have HO112 := n2_; have BK101 := n3_; have HB := n4_; clear n0_ n1_ n2_ n3_ n4_; (try clear hb); (try clear hb2); (try clear hk); (try clear hi); (try clear ho0); (try clear ho1)) | ((with_reducible refine gate_dst (N := 10) rfl ?_); (try (refine gate_guard (by rfl) ?_; dsimp only)); refine box_event ?hg (N := 10) ?hd (cs := #[.slice none 0 0, .slice none 0 0]) (t := 49) ?hr ?_; (case hd => rfl); (case hg => rfl); (case hr => first | (go_simp; done) | (go_simp; rfl)); intro gb114 hg w20 hbox hb; have n0_ := Aside0.mk (Kd.R_below (by (with_reducible repeat (first | apply Kd.R_alloc | apply Kd.R_drewN | apply Kd.R_drew)); exact HO106.out) hb); have n1_ := Aside0.mk (Kd.V_below (Kd.V_elderB (by (with_reducible repeat (first | apply Kd.V_alloc | apply Kd.V_drewN | apply Kd.V_drew)); exact HO109.out) gb114 (Nat.le_of_eq hg.symm)) hb); have n2_ := Aside0.mk (Kd.V_below (Kd.V_elderB (by (with_reducible repeat (first | apply Kd.V_alloc | apply Kd.V_drewN | apply Kd.V_drew)); exact HO112.out) gb114 (Nat.le_of_eq hg.symm)) hb); have n3_ := Aside0.mk (blk_below (g := gb101) (o := .cells #[.int .u8 a1_0, .int .u8 a1_1, .int .u8 a1_2] 59 (0, 0)) (by (with_reducible repeat (first | refine blk_drewN ?_ _ | refine blk_drew ?_ | refine blk_alloc ?_ _)); exact BK101.out) hb); have n4_ := Aside0.mk (below_step (by repeat (first | (with_reducible first | exact HB.out | apply below_alloc | apply pw_below_drewN | apply below_drew1 | refine below_set ?_ GE101.out) | exact HB.out)) hb); have n5_ := Aside0.mk (hbox); have n6_ := Aside0.mk ((by rw [hg]; exact (below_size (by repeat (first | (with_reducible first | exact HB.out | apply below_alloc | apply pw_below_drewN | apply below_drew1 | refine below_set ?_ GE101.out) | exact HB.out))) : w.heap.size ≤ gb114)); have n7_ := Aside0.mk ((by rw [hg]; exact (below_size (by repeat (first | (with_reducible first | exact HB.out | apply below_alloc | apply pw_below_drewN | apply below_drew1 | refine below_set ?_ GE101.out) | exact HB.out))) : w.heap.size ≤ gb114)); have n8_ := Aside0.mk ((by rw [hg]; exact Nat.ne_of_lt (blk_lt (g := gb101) (o := .cells #[.int .u8 a1_0, .int .u8 a1_1, .int .u8 a1_2] 59 (0, 0)) (by (with_reducible repeat (first | refine blk_drewN ?_ _ | refine blk_drew ?_ | refine blk_alloc ?_ _)); exact BK101.out)) : gb101 ≠ gb114)); have n9_ := Aside0.mk ((by rw [hg]; exact Nat.ne_of_gt (blk_lt (g := gb101) (o := .cells #[.int .u8 a1_0, .int .u8 a1_1, .int .u8 a1_2] 59 (0, 0)) (by (with_reducible repeat (first | refine blk_drewN ?_ _ | refine blk_drew ?_ | refine blk_alloc ?_ _)); exact BK101.out)) : gb114 ≠ gb101)); clear HO106; clear HO109; clear HO112; clear BK101; clear HB; have HO106 := n0_; have HO109 := n1_; have HO112 := n2_; have BK101 := n3_; have HB := n4_; have BK114 := n5_; have GW114 := n6_; have GE114 := n7_; have NB101_114 := n8_; have NB114_101 := n9_; clear n0_ n1_ n2_ n3_ n4_ n5_ n6_ n7_ n8_ n9_; clear hb hbox hg; obtain ⟨Ao21, co21, eo21⟩ := Kd.V_slice HO109.out; subst eo21; have hnb22 := NB114_101.out; have hnc22 := NB101_114.out; have hcz23_0 : w20.cell? ⟨gb114, 0, none⟩ = some (.slice none 0 0) := (blk_cell BK114.out 0).trans rfl; have hcz23_1 : w20.cell? ⟨gb114, 1, none⟩ = some (.slice none 0 0) := (blk_cell BK114.out 1).trans rfl; have hfz23_0 := blk_frozen BK114.out 0; have hfz23_1 := blk_frozen BK114.out 1; obtain ⟨Ao24, co24, eo24⟩ := Kd.V_slice HO112.out; subst eo24))
          (try simp only [Act.put, List.setIfInBounds_toArray, List.set_cons_zero, List.set_cons_succ])
          go_cut [75] (fun v75 wc => ∃ (kq : Nat) (x75_10 : Bool), v75 = .bool x75_10 ∧ Aside0 (epitomelaw06_GapsOne.j0 kq t103 (wrap64 (Int.tmod a1_0 64)) (Int.tmod (wrap64 (a1_1)) (wrap64 ((wrap64 (Int.tmod a1_0 64)) + 1))) (Int.tmod (wrap64 (a1_2)) (wrap64 ((wrap64 ((wrap64 (Int.tmod a1_0 64)) - (Int.tmod (wrap64 (a1_1)) (wrap64 ((wrap64 (Int.tmod a1_0 64)) + 1))))) + 1))) x75_10 t107 t110 = some r) ∧ Aside0 (kq ≤ k) ∧ Aside0 (Kd.V Kd.string 9 wc w.heap.size (fun k_ => k_ ≠ gb101 ∧ k_ ≠ gb114) (.slice Ao21 t107.length co21) t107) ∧ Aside0 (Kd.V Kd.bool 4 wc w.heap.size (fun k_ => k_ ≠ gb101 ∧ k_ ≠ gb114) (.slice Ao24 t110.length co24) t110) ∧ Aside0 (wc.heap[gb101]? = some (.cells #[.int .u8 a1_0, .int .u8 a1_1, .int .u8 a1_2] 59 (0, 0))) ∧ Aside0 (wc.heap[gb114]? = some (.cells #[(.slice Ao21 t107.length co21), (.slice Ao24 t110.length co24)] 49 (0, 0))) ∧ Aside0 (Below w.heap.size w wc))
          case first =>
            have H := HC11.out
            clear HC11
            by_cases c25 : t102 = true
            · subst c25
              have H1 : (if t113 = 0 then (if (t107.length : Int) = (wrap64 ((wrap64 (Int.tmod a1_0 64)) + 1)) then (epitomelaw06_GapsOne.j0 k t103 (wrap64 (Int.tmod a1_0 64)) (Int.tmod (wrap64 (a1_1)) (wrap64 ((wrap64 (Int.tmod a1_0 64)) + 1))) (Int.tmod (wrap64 (a1_2)) (wrap64 ((wrap64 ((wrap64 (Int.tmod a1_0 64)) - (Int.tmod (wrap64 (a1_1)) (wrap64 ((wrap64 (Int.tmod a1_0 64)) + 1))))) + 1))) ((t110.length : Int) != (wrap64 (Int.tmod a1_0 64))) t107 t110) else (epitomelaw06_GapsOne.j0 k t103 (wrap64 (Int.tmod a1_0 64)) (Int.tmod (wrap64 (a1_1)) (wrap64 ((wrap64 (Int.tmod a1_0 64)) + 1))) (Int.tmod (wrap64 (a1_2)) (wrap64 ((wrap64 ((wrap64 (Int.tmod a1_0 64)) - (Int.tmod (wrap64 (a1_1)) (wrap64 ((wrap64 (Int.tmod a1_0 64)) + 1))))) + 1))) true t107 t110)) else (epitomelaw06_GapsOne.j0 k t103 (wrap64 (Int.tmod a1_0 64)) (Int.tmod (wrap64 (a1_1)) (wrap64 ((wrap64 (Int.tmod a1_0 64)) + 1))) (Int.tmod (wrap64 (a1_2)) (wrap64 ((wrap64 ((wrap64 (Int.tmod a1_0 64)) - (Int.tmod (wrap64 (a1_1)) (wrap64 ((wrap64 (Int.tmod a1_0 64)) + 1))))) + 1))) true t107 t110)) = some r := by rw [if_pos rfl] at H; exact H
              clear H
              have H := H1
              clear H1
              by_cases c26 : t113 = 0
              · rw [if_pos c26] at H
                have c26b0 : (t113 == 0) = true := beq_iff_eq.mpr c26
                have c26b1 : (t113 != 0) = false := bne_eq_false_iff_eq.mpr c26
                clear c26
                (first | rw [c26b0] | (simp only [i64_w, i32_w]; rw [c26b0]) | skip)
                by_cases c27 : (t107.length : Int) = (wrap64 ((wrap64 (Int.tmod a1_0 64)) + 1))
                · rw [if_pos c27] at H
                  have c27b0 : ((t107.length : Int) == (wrap64 ((wrap64 (Int.tmod a1_0 64)) + 1))) = true := beq_iff_eq.mpr c27
                  have c27b1 : ((t107.length : Int) != (wrap64 ((wrap64 (Int.tmod a1_0 64)) + 1))) = false := bne_eq_false_iff_eq.mpr c27
                  clear c27
                  have H' := Aside0.mk H
                  clear H
                  have hnb28 := NB114_101.out
                  have hnc28 := NB101_114.out
                  have hcz29_0 : w20.cell? ⟨gb114, 0, none⟩ = some (.slice none 0 0) := (blk_cell BK114.out 0).trans rfl
                  have hcz29_1 : w20.cell? ⟨gb114, 1, none⟩ = some (.slice none 0 0) := (blk_cell BK114.out 1).trans rfl
                  have hfz29_0 := blk_frozen BK114.out 0
                  have hfz29_1 := blk_frozen BK114.out 1
                  go_wp2
                  go_meet
                  case rel => exact ⟨_, (((t110.length : Int) != (wrap64 (Int.tmod a1_0 64)))), (by first | rfl | (simp; done) | (simp [*]; done) | (simp [isEmpty_bne]; done)), H', ⟨by first | omega | exact Nat.le_refl _⟩, ⟨by (with_reducible repeat (first | apply Kd.V_alloc | apply Kd.V_drewN | apply Kd.V_drew)); exact Kd.V_mono (Kd.V_far (p := ⟨gb114, 1, none⟩) (Kd.V_far (p := ⟨gb114, 0, none⟩) (Kd.V_mono HO109.out (fun k_ hk => (⟨hk, hk.2⟩ : _ ∧ k_ ≠ gb114))) (fun _ hk => hk.2) (.slice Ao21 t107.length co21)) (fun _ hk => hk.2) (.slice Ao24 t110.length co24)) (fun _ hk => ⟨hk.1.1.2, hk.1.2⟩)⟩, ⟨by (with_reducible repeat (first | apply Kd.V_alloc | apply Kd.V_drewN | apply Kd.V_drew)); exact Kd.V_mono (Kd.V_far (p := ⟨gb114, 1, none⟩) (Kd.V_far (p := ⟨gb114, 0, none⟩) (Kd.V_mono HO112.out (fun k_ hk => (⟨hk, hk.2⟩ : _ ∧ k_ ≠ gb114))) (fun _ hk => hk.2) (.slice Ao21 t107.length co21)) (fun _ hk => hk.2) (.slice Ao24 t110.length co24)) (fun _ hk => ⟨hk.1.1.2, hk.1.2⟩)⟩, ⟨by (with_reducible repeat (first | refine blk_drewN ?_ _ | refine blk_drew ?_ | refine blk_alloc ?_ _)); refine blk_far ?_ NB101_114.out _; (with_reducible repeat (first | refine blk_drewN ?_ _ | refine blk_drew ?_ | refine blk_alloc ?_ _)); refine blk_far ?_ NB101_114.out _; (with_reducible repeat (first | refine blk_drewN ?_ _ | refine blk_drew ?_ | refine blk_alloc ?_ _)); exact BK101.out⟩, ⟨by (with_reducible repeat (first | refine blk_drewN ?_ _ | refine blk_drew ?_ | refine blk_alloc ?_ _)); refine blk_put (cs := #[.slice Ao21 t107.length co21, .slice none 0 0]) ?_ 1 _ rfl; (with_reducible repeat (first | refine blk_drewN ?_ _ | refine blk_drew ?_ | refine blk_alloc ?_ _)); refine blk_put (cs := #[.slice none 0 0, .slice none 0 0]) ?_ 0 _ rfl; (with_reducible repeat (first | refine blk_drewN ?_ _ | refine blk_drew ?_ | refine blk_alloc ?_ _)); exact BK114.out⟩, ⟨by repeat (first | (with_reducible first | exact HB.out | apply below_alloc | apply pw_below_drewN | apply below_drew1 | refine below_set ?_ GE101.out | refine below_set ?_ GE114.out) | exact HB.out)⟩⟩
                · rw [if_neg c27] at H
                  have c27b0 : ((t107.length : Int) == (wrap64 ((wrap64 (Int.tmod a1_0 64)) + 1))) = false := beq_eq_false_iff_ne.mpr c27
                  have c27b1 : ((t107.length : Int) != (wrap64 ((wrap64 (Int.tmod a1_0 64)) + 1))) = true := bne_iff_ne.mpr c27
                  have H' := Aside0.mk H
                  clear H
                  have hnb30 := NB114_101.out
                  have hnc30 := NB101_114.out
                  have hcz31_0 : w20.cell? ⟨gb114, 0, none⟩ = some (.slice none 0 0) := (blk_cell BK114.out 0).trans rfl
                  have hcz31_1 : w20.cell? ⟨gb114, 1, none⟩ = some (.slice none 0 0) := (blk_cell BK114.out 1).trans rfl
                  have hfz31_0 := blk_frozen BK114.out 0
                  have hfz31_1 := blk_frozen BK114.out 1
                  go_wp2
                  go_meet
                  case rel => exact ⟨_, (true), (by first | rfl | (simp; done) | (simp [*]; done) | (simp [isEmpty_bne]; done)), H', ⟨by first | omega | exact Nat.le_refl _⟩, ⟨by (with_reducible repeat (first | apply Kd.V_alloc | apply Kd.V_drewN | apply Kd.V_drew)); exact Kd.V_mono (Kd.V_far (p := ⟨gb114, 1, none⟩) (Kd.V_far (p := ⟨gb114, 0, none⟩) (Kd.V_mono HO109.out (fun k_ hk => (⟨hk, hk.2⟩ : _ ∧ k_ ≠ gb114))) (fun _ hk => hk.2) (.slice Ao21 t107.length co21)) (fun _ hk => hk.2) (.slice Ao24 t110.length co24)) (fun _ hk => ⟨hk.1.1.2, hk.1.2⟩)⟩, ⟨by (with_reducible repeat (first | apply Kd.V_alloc | apply Kd.V_drewN | apply Kd.V_drew)); exact Kd.V_mono (Kd.V_far (p := ⟨gb114, 1, none⟩) (Kd.V_far (p := ⟨gb114, 0, none⟩) (Kd.V_mono HO112.out (fun k_ hk => (⟨hk, hk.2⟩ : _ ∧ k_ ≠ gb114))) (fun _ hk => hk.2) (.slice Ao21 t107.length co21)) (fun _ hk => hk.2) (.slice Ao24 t110.length co24)) (fun _ hk => ⟨hk.1.1.2, hk.1.2⟩)⟩, ⟨by (with_reducible repeat (first | refine blk_drewN ?_ _ | refine blk_drew ?_ | refine blk_alloc ?_ _)); refine blk_far ?_ NB101_114.out _; (with_reducible repeat (first | refine blk_drewN ?_ _ | refine blk_drew ?_ | refine blk_alloc ?_ _)); refine blk_far ?_ NB101_114.out _; (with_reducible repeat (first | refine blk_drewN ?_ _ | refine blk_drew ?_ | refine blk_alloc ?_ _)); exact BK101.out⟩, ⟨by (with_reducible repeat (first | refine blk_drewN ?_ _ | refine blk_drew ?_ | refine blk_alloc ?_ _)); refine blk_put (cs := #[.slice Ao21 t107.length co21, .slice none 0 0]) ?_ 1 _ rfl; (with_reducible repeat (first | refine blk_drewN ?_ _ | refine blk_drew ?_ | refine blk_alloc ?_ _)); refine blk_put (cs := #[.slice none 0 0, .slice none 0 0]) ?_ 0 _ rfl; (with_reducible repeat (first | refine blk_drewN ?_ _ | refine blk_drew ?_ | refine blk_alloc ?_ _)); exact BK114.out⟩, ⟨by repeat (first | (with_reducible first | exact HB.out | apply below_alloc | apply pw_below_drewN | apply below_drew1 | refine below_set ?_ GE101.out | refine below_set ?_ GE114.out) | exact HB.out)⟩⟩
              · rw [if_neg c26] at H
                have c26b0 : (t113 == 0) = false := beq_eq_false_iff_ne.mpr c26
                have c26b1 : (t113 != 0) = true := bne_iff_ne.mpr c26
                (first | rw [c26b0] | (simp only [i64_w, i32_w]; rw [c26b0]) | skip)
                have H' := Aside0.mk H
                clear H
                go_wp2
                go_meet
                case rel => exact ⟨_, (true), (by first | rfl | (simp; done) | (simp [*]; done) | (simp [isEmpty_bne]; done)), H', ⟨by first | omega | exact Nat.le_refl _⟩, ⟨by (with_reducible repeat (first | apply Kd.V_alloc | apply Kd.V_drewN | apply Kd.V_drew)); exact Kd.V_mono (Kd.V_far (p := ⟨gb114, 1, none⟩) (Kd.V_far (p := ⟨gb114, 0, none⟩) (Kd.V_mono HO109.out (fun k_ hk => (⟨hk, hk.2⟩ : _ ∧ k_ ≠ gb114))) (fun _ hk => hk.2) (.slice Ao21 t107.length co21)) (fun _ hk => hk.2) (.slice Ao24 t110.length co24)) (fun _ hk => ⟨hk.1.1.2, hk.1.2⟩)⟩, ⟨by (with_reducible repeat (first | apply Kd.V_alloc | apply Kd.V_drewN | apply Kd.V_drew)); exact Kd.V_mono (Kd.V_far (p := ⟨gb114, 1, none⟩) (Kd.V_far (p := ⟨gb114, 0, none⟩) (Kd.V_mono HO112.out (fun k_ hk => (⟨hk, hk.2⟩ : _ ∧ k_ ≠ gb114))) (fun _ hk => hk.2) (.slice Ao21 t107.length co21)) (fun _ hk => hk.2) (.slice Ao24 t110.length co24)) (fun _ hk => ⟨hk.1.1.2, hk.1.2⟩)⟩, ⟨by (with_reducible repeat (first | refine blk_drewN ?_ _ | refine blk_drew ?_ | refine blk_alloc ?_ _)); refine blk_far ?_ NB101_114.out _; (with_reducible repeat (first | refine blk_drewN ?_ _ | refine blk_drew ?_ | refine blk_alloc ?_ _)); refine blk_far ?_ NB101_114.out _; (with_reducible repeat (first | refine blk_drewN ?_ _ | refine blk_drew ?_ | refine blk_alloc ?_ _)); exact BK101.out⟩, ⟨by (with_reducible repeat (first | refine blk_drewN ?_ _ | refine blk_drew ?_ | refine blk_alloc ?_ _)); refine blk_put (cs := #[.slice Ao21 t107.length co21, .slice none 0 0]) ?_ 1 _ rfl; (with_reducible repeat (first | refine blk_drewN ?_ _ | refine blk_drew ?_ | refine blk_alloc ?_ _)); refine blk_put (cs := #[.slice none 0 0, .slice none 0 0]) ?_ 0 _ rfl; (with_reducible repeat (first | refine blk_drewN ?_ _ | refine blk_drew ?_ | refine blk_alloc ?_ _)); exact BK114.out⟩, ⟨by repeat (first | (with_reducible first | exact HB.out | apply below_alloc | apply pw_below_drewN | apply below_drew1 | refine below_set ?_ GE101.out | refine below_set ?_ GE114.out) | exact HB.out)⟩⟩
            · replace c25 := Bool.eq_false_iff.mpr c25
              subst c25
              have H1 : (epitomelaw06_GapsOne.j0 k t103 (wrap64 (Int.tmod a1_0 64)) (Int.tmod (wrap64 (a1_1)) (wrap64 ((wrap64 (Int.tmod a1_0 64)) + 1))) (Int.tmod (wrap64 (a1_2)) (wrap64 ((wrap64 ((wrap64 (Int.tmod a1_0 64)) - (Int.tmod (wrap64 (a1_1)) (wrap64 ((wrap64 (Int.tmod a1_0 64)) + 1))))) + 1))) true t107 t110) = some r := by rw [if_neg (show ¬ (false = true) by decide)] at H; exact H
              clear H
              have H := H1
              clear H1
              have H' := Aside0.mk H
              clear H
              go_wp2
              go_meet
              case rel => exact ⟨_, (true), (by first | rfl | (simp; done) | (simp [*]; done) | (simp [isEmpty_bne]; done)), H', ⟨by first | omega | exact Nat.le_refl _⟩, ⟨by (with_reducible repeat (first | apply Kd.V_alloc | apply Kd.V_drewN | apply Kd.V_drew)); exact Kd.V_mono (Kd.V_far (p := ⟨gb114, 1, none⟩) (Kd.V_far (p := ⟨gb114, 0, none⟩) (Kd.V_mono HO109.out (fun k_ hk => (⟨hk, hk.2⟩ : _ ∧ k_ ≠ gb114))) (fun _ hk => hk.2) (.slice Ao21 t107.length co21)) (fun _ hk => hk.2) (.slice Ao24 t110.length co24)) (fun _ hk => ⟨hk.1.1.2, hk.1.2⟩)⟩, ⟨by (with_reducible repeat (first | apply Kd.V_alloc | apply Kd.V_drewN | apply Kd.V_drew)); exact Kd.V_mono (Kd.V_far (p := ⟨gb114, 1, none⟩) (Kd.V_far (p := ⟨gb114, 0, none⟩) (Kd.V_mono HO112.out (fun k_ hk => (⟨hk, hk.2⟩ : _ ∧ k_ ≠ gb114))) (fun _ hk => hk.2) (.slice Ao21 t107.length co21)) (fun _ hk => hk.2) (.slice Ao24 t110.length co24)) (fun _ hk => ⟨hk.1.1.2, hk.1.2⟩)⟩, ⟨by (with_reducible repeat (first | refine blk_drewN ?_ _ | refine blk_drew ?_ | refine blk_alloc ?_ _)); refine blk_far ?_ NB101_114.out _; (with_reducible repeat (first | refine blk_drewN ?_ _ | refine blk_drew ?_ | refine blk_alloc ?_ _)); refine blk_far ?_ NB101_114.out _; (with_reducible repeat (first | refine blk_drewN ?_ _ | refine blk_drew ?_ | refine blk_alloc ?_ _)); exact BK101.out⟩, ⟨by (with_reducible repeat (first | refine blk_drewN ?_ _ | refine blk_drew ?_ | refine blk_alloc ?_ _)); refine blk_put (cs := #[.slice Ao21 t107.length co21, .slice none 0 0]) ?_ 1 _ rfl; (with_reducible repeat (first | refine blk_drewN ?_ _ | refine blk_drew ?_ | refine blk_alloc ?_ _)); refine blk_put (cs := #[.slice none 0 0, .slice none 0 0]) ?_ 0 _ rfl; (with_reducible repeat (first | refine blk_drewN ?_ _ | refine blk_drew ?_ | refine blk_alloc ?_ _)); exact BK114.out⟩, ⟨by repeat (first | (with_reducible first | exact HB.out | apply below_alloc | apply pw_below_drewN | apply below_drew1 | refine below_set ?_ GE101.out | refine below_set ?_ GE114.out) | exact HB.out)⟩⟩
          case rest =>
            clear HC11
            try clear c1
            try clear c2
            try clear p2
            try clear c3
            try clear c4
            try clear c5
            try clear c5b0
            try clear c5b1
            try clear c6
            try clear c6b0
            try clear c6b1
            try clear p6
            try clear c8
            try clear c8b0
            try clear c8b1
            try clear c9
            try clear c9b0
            try clear c9b1
            try clear c11
            try clear c14
            try clear c22
            try clear c25
            try clear c26
            try clear c26b0
            try clear c26b1
            try clear c27
            try clear c27b0
            try clear c27b1
            try clear c28
            try clear c30
            try clear c31
            try clear hcz15_0
            try clear hcz15_1
            try clear hcz15_2
            try clear hcz23_0
            try clear hcz23_1
            try clear hcz29_0
            try clear hcz29_1
            try clear hcz31_0
            try clear hcz31_1
            try clear hfz15_0
            try clear hfz15_1
            try clear hfz15_2
            try clear hfz23_0
            try clear hfz23_1
            try clear hfz29_0
            try clear hfz29_1
            try clear hfz31_0
            try clear hfz31_1
            obtain ⟨kq, x75_10, rfl, HA, HJ10, HO_115000, HO_115001, BK101, BK114, HB⟩ := hcut
            cases kq with
            | zero => exact absurd HA.out (by simp [epitomelaw06_GapsOne.j0])
            | succ kj10 =>
              have H := HA.out
              clear HA
              simp only [epitomelaw06_GapsOne.j0] at H
              by_cases c32 : x75_10 = true
              · subst c32
                have H1 : (some false) = some r := by rw [if_pos rfl] at H; exact H
                clear H
                have H := H1
                clear H1
                exact Bool.noConfusion ((Option.some.inj H).trans hr_.out)
              · replace c32 := Bool.eq_false_iff.mpr c32
                subst c32
                have H1 : (epitomelaw06_GapsOne.l0 kj10 t103 (wrap64 (Int.tmod a1_0 64)) (Int.tmod (wrap64 (a1_1)) (wrap64 ((wrap64 (Int.tmod a1_0 64)) + 1))) (Int.tmod (wrap64 (a1_2)) (wrap64 ((wrap64 ((wrap64 (Int.tmod a1_0 64)) - (Int.tmod (wrap64 (a1_1)) (wrap64 ((wrap64 (Int.tmod a1_0 64)) + 1))))) + 1))) 0 t107 t110) = some r := by rw [if_neg (show ¬ (false = true) by decide)] at H; exact H
                clear H
                have H := H1
                clear H1
                have H' := Aside0.mk H
                clear H
                go_wp2
                go_loopg [12] kj10 (fun kq v12 w' => ∃ (x12_2 : Int), v12 = .int .i64 x12_2 ∧ Aside0 (epitomelaw06_GapsOne.l0 kq t103 (wrap64 (Int.tmod a1_0 64)) (Int.tmod (wrap64 (a1_1)) (wrap64 ((wrap64 (Int.tmod a1_0 64)) + 1))) (Int.tmod (wrap64 (a1_2)) (wrap64 ((wrap64 ((wrap64 (Int.tmod a1_0 64)) - (Int.tmod (wrap64 (a1_1)) (wrap64 ((wrap64 (Int.tmod a1_0 64)) + 1))))) + 1))) x12_2 t107 t110 = some r) ∧ Aside0 (kq ≤ kj10) ∧ Aside0 (Kd.V Kd.string 9 w' w.heap.size (fun k_ => k_ ≠ gb101 ∧ k_ ≠ gb114) (.slice Ao21 t107.length co21) t107) ∧ Aside0 (Kd.V Kd.bool 4 w' w.heap.size (fun k_ => k_ ≠ gb101 ∧ k_ ≠ gb114) (.slice Ao24 t110.length co24) t110) ∧ Aside0 (w'.heap[gb101]? = some (.cells #[.int .u8 a1_0, .int .u8 a1_1, .int .u8 a1_2] 59 (0, 0))) ∧ Aside0 (w'.heap[gb114]? = some (.cells #[(.slice Ao21 t107.length co21), (.slice Ao24 t110.length co24)] 49 (0, 0))) ∧ Aside0 (Below w.heap.size w w'))
                case atStart => exact ⟨(0), (by first | rfl | (simp; done) | (simp [*]; done) | (simp [isEmpty_bne]; done)), H', ⟨Nat.le_refl _⟩, ⟨by (with_reducible repeat (first | apply Kd.V_alloc | apply Kd.V_drewN | apply Kd.V_drew)); exact HO_115000.out⟩, ⟨by (with_reducible repeat (first | apply Kd.V_alloc | apply Kd.V_drewN | apply Kd.V_drew)); exact HO_115001.out⟩, ⟨by (with_reducible repeat (first | refine blk_drewN ?_ _ | refine blk_drew ?_ | refine blk_alloc ?_ _)); exact BK101.out⟩, ⟨by (with_reducible repeat (first | refine blk_drewN ?_ _ | refine blk_drew ?_ | refine blk_alloc ?_ _)); exact BK114.out⟩, ⟨by repeat (first | (with_reducible first | exact HB.out | apply below_alloc | apply pw_below_drewN | apply below_drew1 | refine below_set ?_ GE101.out | refine below_set ?_ GE114.out) | exact HB.out)⟩⟩
                case round =>
                  clear H'
                  try clear c1
                  try clear c2
                  try clear p2
                  try clear c3
                  try clear c4
                  try clear c5
                  try clear c5b0
                  try clear c5b1
                  try clear c6
                  try clear c6b0
                  try clear c6b1
                  try clear p6
                  try clear c8
                  try clear c8b0
                  try clear c8b1
                  try clear c9
                  try clear c9b0
                  try clear c9b1
                  try clear c11
                  try clear c14
                  try clear c22
                  try clear c25
                  try clear c26
                  try clear c26b0
                  try clear c26b1
                  try clear c27
                  try clear c27b0
                  try clear c27b1
                  try clear c28
                  try clear c30
                  try clear c31
                  try clear c32
                  try clear hcz15_0
                  try clear hcz15_1
                  try clear hcz15_2
                  try clear hcz23_0
                  try clear hcz23_1
                  try clear hcz29_0
                  try clear hcz29_1
                  try clear hcz31_0
                  try clear hcz31_1
                  try clear hfz15_0
                  try clear hfz15_1
                  try clear hfz15_2
                  try clear hfz23_0
                  try clear hfz23_1
                  try clear hfz29_0
                  try clear hfz29_1
                  try clear hfz31_0
                  try clear hfz31_1
                  try clear p2
                  try clear p6
                  obtain ⟨x12_2, rfl, HA, HK2, HO_115000, HO_115001, BK101, BK114, HB⟩ := hrel
                  cases gk with
                  | zero => exact absurd HA.out (by simp [epitomelaw06_GapsOne.l0])
                  | succ k2 =>
                    have H := HA.out
                    clear HA
                    simp only [epitomelaw06_GapsOne.l0] at H
                    by_cases c33 : x12_2 ≤ (wrap64 (Int.tmod a1_0 64))
                    · rw [if_pos c33] at H
                      have c33b0 : decide (x12_2 ≤ (wrap64 (Int.tmod a1_0 64))) = true := decide_eq_true c33
                      clear c33
                      by_cases c34 : 0 ≤ x12_2
                      · rw [if_pos c34] at H
                        have c34b0 : decide (0 ≤ x12_2) = true := decide_eq_true c34
                        clear c34
                        by_cases c35 : x12_2 < (t107.length : Int)
                        · rw [if_pos c35] at H
                          have c35b0 : decide (x12_2 < (t107.length : Int)) = true := decide_eq_true c35
                          clear c35
                          by_cases c36 : ((x12_2 == (Int.tmod (wrap64 (a1_1)) (wrap64 ((wrap64 (Int.tmod a1_0 64)) + 1)))) != ((rdOf ByteArray.empty t107 x12_2).toList == t103.toList)) = true
                          · rw [if_pos c36] at H
                            have c36b0 : ((x12_2 == (Int.tmod (wrap64 (a1_1)) (wrap64 ((wrap64 (Int.tmod a1_0 64)) + 1)))) != ((rdOf ByteArray.empty t107 x12_2).toList == t103.toList)) = true := c36
                            (try (have c36b1 : decide ((x12_2 == (Int.tmod (wrap64 (a1_1)) (wrap64 ((wrap64 (Int.tmod a1_0 64)) + 1)))) = ((rdOf ByteArray.empty t107 x12_2).toList == t103.toList)) = false := by simpa using c36))
                            (try (have c36b2 : ((x12_2 == (Int.tmod (wrap64 (a1_1)) (wrap64 ((wrap64 (Int.tmod a1_0 64)) + 1)))) == ((rdOf ByteArray.empty t107 x12_2).toList == t103.toList)) = false := by simpa using c36))
                            (try (have c36b3 : ¬ ((x12_2 == (Int.tmod (wrap64 (a1_1)) (wrap64 ((wrap64 (Int.tmod a1_0 64)) + 1)))) = ((rdOf ByteArray.empty t107 x12_2).toList == t103.toList)) := by simpa using c36))
                            (try (have c36b4 : (x12_2 == (Int.tmod (wrap64 (a1_1)) (wrap64 ((wrap64 (Int.tmod a1_0 64)) + 1)))) = true := neb_l (a := (x12_2 == (Int.tmod (wrap64 (a1_1)) (wrap64 ((wrap64 (Int.tmod a1_0 64)) + 1))))) (b := ((rdOf ByteArray.empty t107 x12_2).toList == t103.toList)) (v := false) (by first | exact c36 | simpa using c36) (by assumption)))
                            (try (have c36b5 : (x12_2 == (Int.tmod (wrap64 (a1_1)) (wrap64 ((wrap64 (Int.tmod a1_0 64)) + 1)))) = false := neb_l (a := (x12_2 == (Int.tmod (wrap64 (a1_1)) (wrap64 ((wrap64 (Int.tmod a1_0 64)) + 1))))) (b := ((rdOf ByteArray.empty t107 x12_2).toList == t103.toList)) (v := true) (by first | exact c36 | simpa using c36) (by assumption)))
                            (try (have c36b6 : ((rdOf ByteArray.empty t107 x12_2).toList == t103.toList) = true := neb_r (a := (x12_2 == (Int.tmod (wrap64 (a1_1)) (wrap64 ((wrap64 (Int.tmod a1_0 64)) + 1))))) (b := ((rdOf ByteArray.empty t107 x12_2).toList == t103.toList)) (v := false) (by first | exact c36 | simpa using c36) (by assumption)))
                            (try (have c36b7 : ((rdOf ByteArray.empty t107 x12_2).toList == t103.toList) = false := neb_r (a := (x12_2 == (Int.tmod (wrap64 (a1_1)) (wrap64 ((wrap64 (Int.tmod a1_0 64)) + 1))))) (b := ((rdOf ByteArray.empty t107 x12_2).toList == t103.toList)) (v := true) (by first | exact c36 | simpa using c36) (by assumption)))
                            clear c36
                            by_cases c37 : t103.toList = ([] : List UInt8)
                            · rw [if_pos c37] at H
                              have c37b0 : (t103.toList == ([] : List UInt8)) = true := beq_iff_eq.mpr c37
                              (try (have c37b0e : (t103.toList.isEmpty) = true := by simpa using c37b0))
                              have c37b1 : (t103.toList != ([] : List UInt8)) = false := bne_eq_false_iff_eq.mpr c37
                              clear c37
                              by_cases c38 : x12_2 = (Int.tmod (wrap64 (a1_1)) (wrap64 ((wrap64 (Int.tmod a1_0 64)) + 1)))
                              · rw [if_pos c38] at H
                                have c38b0 : (x12_2 == (Int.tmod (wrap64 (a1_1)) (wrap64 ((wrap64 (Int.tmod a1_0 64)) + 1)))) = true := beq_iff_eq.mpr c38
                                have c38b1 : (x12_2 != (Int.tmod (wrap64 (a1_1)) (wrap64 ((wrap64 (Int.tmod a1_0 64)) + 1)))) = false := bne_eq_false_iff_eq.mpr c38
                                clear c38
                                by_cases c39 : x12_2 < (wrap64 (Int.tmod a1_0 64))
                                · rw [if_pos c39] at H
                                  have c39b0 : decide (x12_2 < (wrap64 (Int.tmod a1_0 64))) = true := decide_eq_true c39
                                  clear c39
                                  by_cases c40 : x12_2 < (t110.length : Int)
                                  · rw [if_pos c40] at H
                                    have c40b0 : decide (x12_2 < (t110.length : Int)) = true := decide_eq_true c40
                                    clear c40
                                    by_cases c41 : x12_2 ≥ (Int.tmod (wrap64 (a1_1)) (wrap64 ((wrap64 (Int.tmod a1_0 64)) + 1)))
                                    · rw [if_pos c41] at H
                                      have c41b0 : decide ((Int.tmod (wrap64 (a1_1)) (wrap64 ((wrap64 (Int.tmod a1_0 64)) + 1))) ≤ x12_2) = true := decide_eq_true c41
                                      clear c41
                                      by_cases c42 : ((rdOf false t110 x12_2) != (decide (x12_2 < (wrap64 ((Int.tmod (wrap64 (a1_1)) (wrap64 ((wrap64 (Int.tmod a1_0 64)) + 1))) + (Int.tmod (wrap64 (a1_2)) (wrap64 ((wrap64 ((wrap64 (Int.tmod a1_0 64)) - (Int.tmod (wrap64 (a1_1)) (wrap64 ((wrap64 (Int.tmod a1_0 64)) + 1))))) + 1)))))))) = true
                                      · rw [if_pos c42] at H
                                        have c42b0 : ((rdOf false t110 x12_2) != (decide (x12_2 < (wrap64 ((Int.tmod (wrap64 (a1_1)) (wrap64 ((wrap64 (Int.tmod a1_0 64)) + 1))) + (Int.tmod (wrap64 (a1_2)) (wrap64 ((wrap64 ((wrap64 (Int.tmod a1_0 64)) - (Int.tmod (wrap64 (a1_1)) (wrap64 ((wrap64 (Int.tmod a1_0 64)) + 1))))) + 1)))))))) = true := c42
                                        (try (have c42b1 : decide ((rdOf false t110 x12_2) = (decide (x12_2 < (wrap64 ((Int.tmod (wrap64 (a1_1)) (wrap64 ((wrap64 (Int.tmod a1_0 64)) + 1))) + (Int.tmod (wrap64 (a1_2)) (wrap64 ((wrap64 ((wrap64 (Int.tmod a1_0 64)) - (Int.tmod (wrap64 (a1_1)) (wrap64 ((wrap64 (Int.tmod a1_0 64)) + 1))))) + 1)))))))) = false := by simpa using c42))
                                        (try (have c42b2 : ((rdOf false t110 x12_2) == (decide (x12_2 < (wrap64 ((Int.tmod (wrap64 (a1_1)) (wrap64 ((wrap64 (Int.tmod a1_0 64)) + 1))) + (Int.tmod (wrap64 (a1_2)) (wrap64 ((wrap64 ((wrap64 (Int.tmod a1_0 64)) - (Int.tmod (wrap64 (a1_1)) (wrap64 ((wrap64 (Int.tmod a1_0 64)) + 1))))) + 1)))))))) = false := by simpa using c42))
                                        (try (have c42b3 : ¬ ((rdOf false t110 x12_2) = (decide (x12_2 < (wrap64 ((Int.tmod (wrap64 (a1_1)) (wrap64 ((wrap64 (Int.tmod a1_0 64)) + 1))) + (Int.tmod (wrap64 (a1_2)) (wrap64 ((wrap64 ((wrap64 (Int.tmod a1_0 64)) - (Int.tmod (wrap64 (a1_1)) (wrap64 ((wrap64 (Int.tmod a1_0 64)) + 1))))) + 1)))))))) := by simpa using c42))
                                        (try (have c42b4 : (rdOf false t110 x12_2) = true := neb_l (a := (rdOf false t110 x12_2)) (b := (decide (x12_2 < (wrap64 ((Int.tmod (wrap64 (a1_1)) (wrap64 ((wrap64 (Int.tmod a1_0 64)) + 1))) + (Int.tmod (wrap64 (a1_2)) (wrap64 ((wrap64 ((wrap64 (Int.tmod a1_0 64)) - (Int.tmod (wrap64 (a1_1)) (wrap64 ((wrap64 (Int.tmod a1_0 64)) + 1))))) + 1)))))))) (v := false) (by first | exact c42 | simpa using c42) (by assumption)))
                                        (try (have c42b5 : (rdOf false t110 x12_2) = false := neb_l (a := (rdOf false t110 x12_2)) (b := (decide (x12_2 < (wrap64 ((Int.tmod (wrap64 (a1_1)) (wrap64 ((wrap64 (Int.tmod a1_0 64)) + 1))) + (Int.tmod (wrap64 (a1_2)) (wrap64 ((wrap64 ((wrap64 (Int.tmod a1_0 64)) - (Int.tmod (wrap64 (a1_1)) (wrap64 ((wrap64 (Int.tmod a1_0 64)) + 1))))) + 1)))))))) (v := true) (by first | exact c42 | simpa using c42) (by assumption)))
                                        (try (have c42b6 : (decide (x12_2 < (wrap64 ((Int.tmod (wrap64 (a1_1)) (wrap64 ((wrap64 (Int.tmod a1_0 64)) + 1))) + (Int.tmod (wrap64 (a1_2)) (wrap64 ((wrap64 ((wrap64 (Int.tmod a1_0 64)) - (Int.tmod (wrap64 (a1_1)) (wrap64 ((wrap64 (Int.tmod a1_0 64)) + 1))))) + 1))))))) = true := neb_r (a := (rdOf false t110 x12_2)) (b := (decide (x12_2 < (wrap64 ((Int.tmod (wrap64 (a1_1)) (wrap64 ((wrap64 (Int.tmod a1_0 64)) + 1))) + (Int.tmod (wrap64 (a1_2)) (wrap64 ((wrap64 ((wrap64 (Int.tmod a1_0 64)) - (Int.tmod (wrap64 (a1_1)) (wrap64 ((wrap64 (Int.tmod a1_0 64)) + 1))))) + 1)))))))) (v := false) (by first | exact c42 | simpa using c42) (by assumption)))
                                        (try (have c42b7 : (decide (x12_2 < (wrap64 ((Int.tmod (wrap64 (a1_1)) (wrap64 ((wrap64 (Int.tmod a1_0 64)) + 1))) + (Int.tmod (wrap64 (a1_2)) (wrap64 ((wrap64 ((wrap64 (Int.tmod a1_0 64)) - (Int.tmod (wrap64 (a1_1)) (wrap64 ((wrap64 (Int.tmod a1_0 64)) + 1))))) + 1))))))) = false := neb_r (a := (rdOf false t110 x12_2)) (b := (decide (x12_2 < (wrap64 ((Int.tmod (wrap64 (a1_1)) (wrap64 ((wrap64 (Int.tmod a1_0 64)) + 1))) + (Int.tmod (wrap64 (a1_2)) (wrap64 ((wrap64 ((wrap64 (Int.tmod a1_0 64)) - (Int.tmod (wrap64 (a1_1)) (wrap64 ((wrap64 (Int.tmod a1_0 64)) + 1))))) + 1)))))))) (v := true) (by first | exact c42 | simpa using c42) (by assumption)))
                                        clear c42
                                        exact Bool.noConfusion ((Option.some.inj H).trans hr_.out)
                                      · rw [if_neg c42] at H
                                        have c42b0 : ((rdOf false t110 x12_2) != (decide (x12_2 < (wrap64 ((Int.tmod (wrap64 (a1_1)) (wrap64 ((wrap64 (Int.tmod a1_0 64)) + 1))) + (Int.tmod (wrap64 (a1_2)) (wrap64 ((wrap64 ((wrap64 (Int.tmod a1_0 64)) - (Int.tmod (wrap64 (a1_1)) (wrap64 ((wrap64 (Int.tmod a1_0 64)) + 1))))) + 1)))))))) = false := by simpa using c42
                                        (try (have c42b1 : decide ((rdOf false t110 x12_2) = (decide (x12_2 < (wrap64 ((Int.tmod (wrap64 (a1_1)) (wrap64 ((wrap64 (Int.tmod a1_0 64)) + 1))) + (Int.tmod (wrap64 (a1_2)) (wrap64 ((wrap64 ((wrap64 (Int.tmod a1_0 64)) - (Int.tmod (wrap64 (a1_1)) (wrap64 ((wrap64 (Int.tmod a1_0 64)) + 1))))) + 1)))))))) = true := by simpa using c42))
                                        (try (have c42b2 : ((rdOf false t110 x12_2) == (decide (x12_2 < (wrap64 ((Int.tmod (wrap64 (a1_1)) (wrap64 ((wrap64 (Int.tmod a1_0 64)) + 1))) + (Int.tmod (wrap64 (a1_2)) (wrap64 ((wrap64 ((wrap64 (Int.tmod a1_0 64)) - (Int.tmod (wrap64 (a1_1)) (wrap64 ((wrap64 (Int.tmod a1_0 64)) + 1))))) + 1)))))))) = true := by simpa using c42))
                                        (try (have c42b3 : (rdOf false t110 x12_2) = true := eqb_l (a := (rdOf false t110 x12_2)) (b := (decide (x12_2 < (wrap64 ((Int.tmod (wrap64 (a1_1)) (wrap64 ((wrap64 (Int.tmod a1_0 64)) + 1))) + (Int.tmod (wrap64 (a1_2)) (wrap64 ((wrap64 ((wrap64 (Int.tmod a1_0 64)) - (Int.tmod (wrap64 (a1_1)) (wrap64 ((wrap64 (Int.tmod a1_0 64)) + 1))))) + 1)))))))) (v := true) (by first | exact c42 | simpa using c42) (by assumption)))
                                        (try (have c42b4 : (rdOf false t110 x12_2) = false := eqb_l (a := (rdOf false t110 x12_2)) (b := (decide (x12_2 < (wrap64 ((Int.tmod (wrap64 (a1_1)) (wrap64 ((wrap64 (Int.tmod a1_0 64)) + 1))) + (Int.tmod (wrap64 (a1_2)) (wrap64 ((wrap64 ((wrap64 (Int.tmod a1_0 64)) - (Int.tmod (wrap64 (a1_1)) (wrap64 ((wrap64 (Int.tmod a1_0 64)) + 1))))) + 1)))))))) (v := false) (by first | exact c42 | simpa using c42) (by assumption)))
                                        (try (have c42b5 : (decide (x12_2 < (wrap64 ((Int.tmod (wrap64 (a1_1)) (wrap64 ((wrap64 (Int.tmod a1_0 64)) + 1))) + (Int.tmod (wrap64 (a1_2)) (wrap64 ((wrap64 ((wrap64 (Int.tmod a1_0 64)) - (Int.tmod (wrap64 (a1_1)) (wrap64 ((wrap64 (Int.tmod a1_0 64)) + 1))))) + 1))))))) = true := eqb_r (a := (rdOf false t110 x12_2)) (b := (decide (x12_2 < (wrap64 ((Int.tmod (wrap64 (a1_1)) (wrap64 ((wrap64 (Int.tmod a1_0 64)) + 1))) + (Int.tmod (wrap64 (a1_2)) (wrap64 ((wrap64 ((wrap64 (Int.tmod a1_0 64)) - (Int.tmod (wrap64 (a1_1)) (wrap64 ((wrap64 (Int.tmod a1_0 64)) + 1))))) + 1)))))))) (v := true) (by first | exact c42 | simpa using c42) (by assumption)))
                                        (try (have c42b6 : (decide (x12_2 < (wrap64 ((Int.tmod (wrap64 (a1_1)) (wrap64 ((wrap64 (Int.tmod a1_0 64)) + 1))) + (Int.tmod (wrap64 (a1_2)) (wrap64 ((wrap64 ((wrap64 (Int.tmod a1_0 64)) - (Int.tmod (wrap64 (a1_1)) (wrap64 ((wrap64 (Int.tmod a1_0 64)) + 1))))) + 1))))))) = false := eqb_r (a := (rdOf false t110 x12_2)) (b := (decide (x12_2 < (wrap64 ((Int.tmod (wrap64 (a1_1)) (wrap64 ((wrap64 (Int.tmod a1_0 64)) + 1))) + (Int.tmod (wrap64 (a1_2)) (wrap64 ((wrap64 ((wrap64 (Int.tmod a1_0 64)) - (Int.tmod (wrap64 (a1_1)) (wrap64 ((wrap64 (Int.tmod a1_0 64)) + 1))))) + 1)))))))) (v := false) (by first | exact c42 | simpa using c42) (by assumption)))
                                        clear c42
                                        have H' := Aside0.mk H
                                        clear H
                                        have hnb45 := NB114_101.out
                                        have hnc45 := NB101_114.out
                                        have hcz46_0 : wr.cell? ⟨gb114, 0, none⟩ = some (.slice Ao21 t107.length co21) := (blk_cell BK114.out 0).trans rfl
                                        have hcz46_1 : wr.cell? ⟨gb114, 1, none⟩ = some (.slice Ao24 t110.length co24) := (blk_cell BK114.out 1).trans rfl
                                        have hfz46_0 := blk_frozen BK114.out 0
                                        have hfz46_1 := blk_frozen BK114.out 1
                                        have p115 : 0 ≤ (x12_2 : Int) := of_decide_eq_true (by first | (with_reducible assumption) | assumption)
                                        have q115 : x12_2 < (t107.length : Int) := of_decide_eq_true (by first | (with_reducible assumption) | assumption)
                                        obtain ⟨ad115, e115, hx115_0⟩ := Kd.at_string (Kd.V_reads' HO_115000.out).2.2 x12_2 p115 q115
                                        cases e115
                                        replace p115 := eq_true p115
                                        replace q115 := eq_true q115
                                        have p116 : 0 ≤ (x12_2 : Int) := of_decide_eq_true (by first | (with_reducible assumption) | assumption)
                                        have q116 : x12_2 < (t110.length : Int) := of_decide_eq_true (by first | (with_reducible assumption) | assumption)
                                        obtain ⟨ad116, e116, hx116_0⟩ := Kd.at_bool (Kd.V_reads' HO_115001.out).2.2 x12_2 p116 q116
                                        cases e116
                                        replace p116 := eq_true p116
                                        replace q116 := eq_true q116
                                        go_wp2
                                        all_goals first | (go_roundg k2; (case measure => have := HJ10.out; have := HK2.out; omega); (case rel => exact ⟨(wrap64 (x12_2 + 1)), (by first | rfl | (simp; done) | (simp [*]; done) | (simp [isEmpty_bne]; done)), H', ⟨by have := HJ10.out; have := HK2.out; omega⟩, ⟨by (with_reducible repeat (first | apply Kd.V_alloc | apply Kd.V_drewN | apply Kd.V_drew)); exact HO_115000.out⟩, ⟨by (with_reducible repeat (first | apply Kd.V_alloc | apply Kd.V_drewN | apply Kd.V_drew)); exact HO_115001.out⟩, ⟨by (with_reducible repeat (first | refine blk_drewN ?_ _ | refine blk_drew ?_ | refine blk_alloc ?_ _)); exact BK101.out⟩, ⟨by (with_reducible repeat (first | refine blk_drewN ?_ _ | refine blk_drew ?_ | refine blk_alloc ?_ _)); exact BK114.out⟩, ⟨by repeat (first | (with_reducible first | exact HB.out | apply below_alloc | apply pw_below_drewN | apply below_drew1 | refine below_set ?_ GE101.out | refine below_set ?_ GE114.out) | exact HB.out)⟩⟩)) | (exfalso; first | exact bb_no1 ‹¬ (rdOf ByteArray.empty t107 x12_2).toList = t103.toList› (by assumption) (by assumption) | exact bb_no2 ‹(rdOf ByteArray.empty t107 x12_2).toList = t103.toList› (by assumption) (by assumption) | exact bb_no3 ‹(rdOf ByteArray.empty t107 x12_2).toList = t103.toList› (by assumption) (by assumption) | exact bb_no4 ‹¬ (rdOf ByteArray.empty t107 x12_2).toList = t103.toList› (by assumption) (by assumption))
                                    · rw [if_neg c41] at H
                                      have c41b0 : decide ((Int.tmod (wrap64 (a1_1)) (wrap64 ((wrap64 (Int.tmod a1_0 64)) + 1))) ≤ x12_2) = false := decide_eq_false c41
                                      clear c41
                                      by_cases c47 : ((rdOf false t110 x12_2) != false) = true
                                      · rw [if_pos c47] at H
                                        have c47b0 : ((rdOf false t110 x12_2) != false) = true := c47
                                        (try (have c47b1 : decide ((rdOf false t110 x12_2) = false) = false := by simpa using c47))
                                        (try (have c47b2 : ((rdOf false t110 x12_2) == false) = false := by simpa using c47))
                                        (try (have c47b3 : ¬ ((rdOf false t110 x12_2) = false) := by simpa using c47))
                                        (try (have c47b4 : (rdOf false t110 x12_2) = true := neb_l (a := (rdOf false t110 x12_2)) (b := false) (v := false) (by first | exact c47 | simpa using c47) (by assumption)))
                                        (try (have c47b5 : (rdOf false t110 x12_2) = false := neb_l (a := (rdOf false t110 x12_2)) (b := false) (v := true) (by first | exact c47 | simpa using c47) (by assumption)))
                                        (try (have c47b6 : false = true := neb_r (a := (rdOf false t110 x12_2)) (b := false) (v := false) (by first | exact c47 | simpa using c47) (by assumption)))
                                        (try (have c47b7 : false = false := neb_r (a := (rdOf false t110 x12_2)) (b := false) (v := true) (by first | exact c47 | simpa using c47) (by assumption)))
                                        clear c47
                                        exact Bool.noConfusion ((Option.some.inj H).trans hr_.out)
                                      · rw [if_neg c47] at H
                                        have c47b0 : ((rdOf false t110 x12_2) != false) = false := by simpa using c47
                                        (try (have c47b1 : decide ((rdOf false t110 x12_2) = false) = true := by simpa using c47))
                                        (try (have c47b2 : ((rdOf false t110 x12_2) == false) = true := by simpa using c47))
                                        (try (have c47b3 : (rdOf false t110 x12_2) = true := eqb_l (a := (rdOf false t110 x12_2)) (b := false) (v := true) (by first | exact c47 | simpa using c47) (by assumption)))
                                        (try (have c47b4 : (rdOf false t110 x12_2) = false := eqb_l (a := (rdOf false t110 x12_2)) (b := false) (v := false) (by first | exact c47 | simpa using c47) (by assumption)))
                                        (try (have c47b5 : false = true := eqb_r (a := (rdOf false t110 x12_2)) (b := false) (v := true) (by first | exact c47 | simpa using c47) (by assumption)))
                                        (try (have c47b6 : false = false := eqb_r (a := (rdOf false t110 x12_2)) (b := false) (v := false) (by first | exact c47 | simpa using c47) (by assumption)))
                                        clear c47
                                        have H' := Aside0.mk H
                                        clear H
                                        have hnb50 := NB114_101.out
                                        have hnc50 := NB101_114.out
                                        have hcz51_0 : wr.cell? ⟨gb114, 0, none⟩ = some (.slice Ao21 t107.length co21) := (blk_cell BK114.out 0).trans rfl
                                        have hcz51_1 : wr.cell? ⟨gb114, 1, none⟩ = some (.slice Ao24 t110.length co24) := (blk_cell BK114.out 1).trans rfl
                                        have hfz51_0 := blk_frozen BK114.out 0
                                        have hfz51_1 := blk_frozen BK114.out 1
                                        have p115 : 0 ≤ (x12_2 : Int) := of_decide_eq_true (by first | (with_reducible assumption) | assumption)
                                        have q115 : x12_2 < (t107.length : Int) := of_decide_eq_true (by first | (with_reducible assumption) | assumption)
                                        obtain ⟨ad115, e115, hx115_0⟩ := Kd.at_string (Kd.V_reads' HO_115000.out).2.2 x12_2 p115 q115
                                        cases e115
                                        replace p115 := eq_true p115
                                        replace q115 := eq_true q115
                                        have p116 : 0 ≤ (x12_2 : Int) := of_decide_eq_true (by first | (with_reducible assumption) | assumption)
                                        have q116 : x12_2 < (t110.length : Int) := of_decide_eq_true (by first | (with_reducible assumption) | assumption)
                                        obtain ⟨ad116, e116, hx116_0⟩ := Kd.at_bool (Kd.V_reads' HO_115001.out).2.2 x12_2 p116 q116
                                        cases e116
                                        replace p116 := eq_true p116
                                        replace q116 := eq_true q116
                                        go_wp2
                                        all_goals first | (go_roundg k2; (case measure => have := HJ10.out; have := HK2.out; omega); (case rel => exact ⟨(wrap64 (x12_2 + 1)), (by first | rfl | (simp; done) | (simp [*]; done) | (simp [isEmpty_bne]; done)), H', ⟨by have := HJ10.out; have := HK2.out; omega⟩, ⟨by (with_reducible repeat (first | apply Kd.V_alloc | apply Kd.V_drewN | apply Kd.V_drew)); exact HO_115000.out⟩, ⟨by (with_reducible repeat (first | apply Kd.V_alloc | apply Kd.V_drewN | apply Kd.V_drew)); exact HO_115001.out⟩, ⟨by (with_reducible repeat (first | refine blk_drewN ?_ _ | refine blk_drew ?_ | refine blk_alloc ?_ _)); exact BK101.out⟩, ⟨by (with_reducible repeat (first | refine blk_drewN ?_ _ | refine blk_drew ?_ | refine blk_alloc ?_ _)); exact BK114.out⟩, ⟨by repeat (first | (with_reducible first | exact HB.out | apply below_alloc | apply pw_below_drewN | apply below_drew1 | refine below_set ?_ GE101.out | refine below_set ?_ GE114.out) | exact HB.out)⟩⟩)) | (exfalso; first | exact bb_no1 ‹¬ (rdOf ByteArray.empty t107 x12_2).toList = t103.toList› (by assumption) (by assumption) | exact bb_no2 ‹(rdOf ByteArray.empty t107 x12_2).toList = t103.toList› (by assumption) (by assumption) | exact bb_no3 ‹(rdOf ByteArray.empty t107 x12_2).toList = t103.toList› (by assumption) (by assumption) | exact bb_no4 ‹¬ (rdOf ByteArray.empty t107 x12_2).toList = t103.toList› (by assumption) (by assumption))
                                  · rw [if_neg c40] at H
                                    exact absurd H (by simp)
                                · rw [if_neg c39] at H
                                  have c39b0 : decide (x12_2 < (wrap64 (Int.tmod a1_0 64))) = false := decide_eq_false c39
                                  clear c39
                                  have H' := Aside0.mk H
                                  clear H
                                  have hnb52 := NB114_101.out
                                  have hnc52 := NB101_114.out
                                  have hcz53_0 : wr.cell? ⟨gb114, 0, none⟩ = some (.slice Ao21 t107.length co21) := (blk_cell BK114.out 0).trans rfl
                                  have hcz53_1 : wr.cell? ⟨gb114, 1, none⟩ = some (.slice Ao24 t110.length co24) := (blk_cell BK114.out 1).trans rfl
                                  have hfz53_0 := blk_frozen BK114.out 0
                                  have hfz53_1 := blk_frozen BK114.out 1
                                  have p115 : 0 ≤ (x12_2 : Int) := of_decide_eq_true (by first | (with_reducible assumption) | assumption)
                                  have q115 : x12_2 < (t107.length : Int) := of_decide_eq_true (by first | (with_reducible assumption) | assumption)
                                  obtain ⟨ad115, e115, hx115_0⟩ := Kd.at_string (Kd.V_reads' HO_115000.out).2.2 x12_2 p115 q115
                                  cases e115
                                  replace p115 := eq_true p115
                                  replace q115 := eq_true q115
                                  go_wp2
                                  all_goals first | (go_roundg k2; (case measure => have := HJ10.out; have := HK2.out; omega); (case rel => exact ⟨(wrap64 (x12_2 + 1)), (by first | rfl | (simp; done) | (simp [*]; done) | (simp [isEmpty_bne]; done)), H', ⟨by have := HJ10.out; have := HK2.out; omega⟩, ⟨by (with_reducible repeat (first | apply Kd.V_alloc | apply Kd.V_drewN | apply Kd.V_drew)); exact HO_115000.out⟩, ⟨by (with_reducible repeat (first | apply Kd.V_alloc | apply Kd.V_drewN | apply Kd.V_drew)); exact HO_115001.out⟩, ⟨by (with_reducible repeat (first | refine blk_drewN ?_ _ | refine blk_drew ?_ | refine blk_alloc ?_ _)); exact BK101.out⟩, ⟨by (with_reducible repeat (first | refine blk_drewN ?_ _ | refine blk_drew ?_ | refine blk_alloc ?_ _)); exact BK114.out⟩, ⟨by repeat (first | (with_reducible first | exact HB.out | apply below_alloc | apply pw_below_drewN | apply below_drew1 | refine below_set ?_ GE101.out | refine below_set ?_ GE114.out) | exact HB.out)⟩⟩)) | (exfalso; first | exact bb_no1 ‹¬ (rdOf ByteArray.empty t107 x12_2).toList = t103.toList› (by assumption) (by assumption) | exact bb_no2 ‹(rdOf ByteArray.empty t107 x12_2).toList = t103.toList› (by assumption) (by assumption) | exact bb_no3 ‹(rdOf ByteArray.empty t107 x12_2).toList = t103.toList› (by assumption) (by assumption) | exact bb_no4 ‹¬ (rdOf ByteArray.empty t107 x12_2).toList = t103.toList› (by assumption) (by assumption))
                              · rw [if_neg c38] at H
                                have c38b0 : (x12_2 == (Int.tmod (wrap64 (a1_1)) (wrap64 ((wrap64 (Int.tmod a1_0 64)) + 1)))) = false := beq_eq_false_iff_ne.mpr c38
                                have c38b1 : (x12_2 != (Int.tmod (wrap64 (a1_1)) (wrap64 ((wrap64 (Int.tmod a1_0 64)) + 1)))) = true := bne_iff_ne.mpr c38
                                by_cases c54 : (rdOf ByteArray.empty t107 x12_2).toList = ([] : List UInt8)
                                · rw [if_pos c54] at H
                                  have c54b0 : ((rdOf ByteArray.empty t107 x12_2).toList == ([] : List UInt8)) = true := beq_iff_eq.mpr c54
                                  (try (have c54b0e : ((rdOf ByteArray.empty t107 x12_2).toList.isEmpty) = true := by simpa using c54b0))
                                  have c54b1 : ((rdOf ByteArray.empty t107 x12_2).toList != ([] : List UInt8)) = false := bne_eq_false_iff_eq.mpr c54
                                  clear c54
                                  by_cases c55 : x12_2 < (wrap64 (Int.tmod a1_0 64))
                                  · rw [if_pos c55] at H
                                    have c55b0 : decide (x12_2 < (wrap64 (Int.tmod a1_0 64))) = true := decide_eq_true c55
                                    clear c55
                                    by_cases c56 : x12_2 < (t110.length : Int)
                                    · rw [if_pos c56] at H
                                      have c56b0 : decide (x12_2 < (t110.length : Int)) = true := decide_eq_true c56
                                      clear c56
                                      by_cases c57 : x12_2 ≥ (Int.tmod (wrap64 (a1_1)) (wrap64 ((wrap64 (Int.tmod a1_0 64)) + 1)))
                                      · rw [if_pos c57] at H
                                        have c57b0 : decide ((Int.tmod (wrap64 (a1_1)) (wrap64 ((wrap64 (Int.tmod a1_0 64)) + 1))) ≤ x12_2) = true := decide_eq_true c57
                                        clear c57
                                        by_cases c58 : ((rdOf false t110 x12_2) != (decide (x12_2 < (wrap64 ((Int.tmod (wrap64 (a1_1)) (wrap64 ((wrap64 (Int.tmod a1_0 64)) + 1))) + (Int.tmod (wrap64 (a1_2)) (wrap64 ((wrap64 ((wrap64 (Int.tmod a1_0 64)) - (Int.tmod (wrap64 (a1_1)) (wrap64 ((wrap64 (Int.tmod a1_0 64)) + 1))))) + 1)))))))) = true
                                        · rw [if_pos c58] at H
                                          have c58b0 : ((rdOf false t110 x12_2) != (decide (x12_2 < (wrap64 ((Int.tmod (wrap64 (a1_1)) (wrap64 ((wrap64 (Int.tmod a1_0 64)) + 1))) + (Int.tmod (wrap64 (a1_2)) (wrap64 ((wrap64 ((wrap64 (Int.tmod a1_0 64)) - (Int.tmod (wrap64 (a1_1)) (wrap64 ((wrap64 (Int.tmod a1_0 64)) + 1))))) + 1)))))))) = true := c58
                                          (try (have c58b1 : decide ((rdOf false t110 x12_2) = (decide (x12_2 < (wrap64 ((Int.tmod (wrap64 (a1_1)) (wrap64 ((wrap64 (Int.tmod a1_0 64)) + 1))) + (Int.tmod (wrap64 (a1_2)) (wrap64 ((wrap64 ((wrap64 (Int.tmod a1_0 64)) - (Int.tmod (wrap64 (a1_1)) (wrap64 ((wrap64 (Int.tmod a1_0 64)) + 1))))) + 1)))))))) = false := by simpa using c58))
                                          (try (have c58b2 : ((rdOf false t110 x12_2) == (decide (x12_2 < (wrap64 ((Int.tmod (wrap64 (a1_1)) (wrap64 ((wrap64 (Int.tmod a1_0 64)) + 1))) + (Int.tmod (wrap64 (a1_2)) (wrap64 ((wrap64 ((wrap64 (Int.tmod a1_0 64)) - (Int.tmod (wrap64 (a1_1)) (wrap64 ((wrap64 (Int.tmod a1_0 64)) + 1))))) + 1)))))))) = false := by simpa using c58))
                                          (try (have c58b3 : ¬ ((rdOf false t110 x12_2) = (decide (x12_2 < (wrap64 ((Int.tmod (wrap64 (a1_1)) (wrap64 ((wrap64 (Int.tmod a1_0 64)) + 1))) + (Int.tmod (wrap64 (a1_2)) (wrap64 ((wrap64 ((wrap64 (Int.tmod a1_0 64)) - (Int.tmod (wrap64 (a1_1)) (wrap64 ((wrap64 (Int.tmod a1_0 64)) + 1))))) + 1)))))))) := by simpa using c58))
                                          (try (have c58b4 : (rdOf false t110 x12_2) = true := neb_l (a := (rdOf false t110 x12_2)) (b := (decide (x12_2 < (wrap64 ((Int.tmod (wrap64 (a1_1)) (wrap64 ((wrap64 (Int.tmod a1_0 64)) + 1))) + (Int.tmod (wrap64 (a1_2)) (wrap64 ((wrap64 ((wrap64 (Int.tmod a1_0 64)) - (Int.tmod (wrap64 (a1_1)) (wrap64 ((wrap64 (Int.tmod a1_0 64)) + 1))))) + 1)))))))) (v := false) (by first | exact c58 | simpa using c58) (by assumption)))
                                          (try (have c58b5 : (rdOf false t110 x12_2) = false := neb_l (a := (rdOf false t110 x12_2)) (b := (decide (x12_2 < (wrap64 ((Int.tmod (wrap64 (a1_1)) (wrap64 ((wrap64 (Int.tmod a1_0 64)) + 1))) + (Int.tmod (wrap64 (a1_2)) (wrap64 ((wrap64 ((wrap64 (Int.tmod a1_0 64)) - (Int.tmod (wrap64 (a1_1)) (wrap64 ((wrap64 (Int.tmod a1_0 64)) + 1))))) + 1)))))))) (v := true) (by first | exact c58 | simpa using c58) (by assumption)))
                                          (try (have c58b6 : (decide (x12_2 < (wrap64 ((Int.tmod (wrap64 (a1_1)) (wrap64 ((wrap64 (Int.tmod a1_0 64)) + 1))) + (Int.tmod (wrap64 (a1_2)) (wrap64 ((wrap64 ((wrap64 (Int.tmod a1_0 64)) - (Int.tmod (wrap64 (a1_1)) (wrap64 ((wrap64 (Int.tmod a1_0 64)) + 1))))) + 1))))))) = true := neb_r (a := (rdOf false t110 x12_2)) (b := (decide (x12_2 < (wrap64 ((Int.tmod (wrap64 (a1_1)) (wrap64 ((wrap64 (Int.tmod a1_0 64)) + 1))) + (Int.tmod (wrap64 (a1_2)) (wrap64 ((wrap64 ((wrap64 (Int.tmod a1_0 64)) - (Int.tmod (wrap64 (a1_1)) (wrap64 ((wrap64 (Int.tmod a1_0 64)) + 1))))) + 1)))))))) (v := false) (by first | exact c58 | simpa using c58) (by assumption)))
                                          (try (have c58b7 : (decide (x12_2 < (wrap64 ((Int.tmod (wrap64 (a1_1)) (wrap64 ((wrap64 (Int.tmod a1_0 64)) + 1))) + (Int.tmod (wrap64 (a1_2)) (wrap64 ((wrap64 ((wrap64 (Int.tmod a1_0 64)) - (Int.tmod (wrap64 (a1_1)) (wrap64 ((wrap64 (Int.tmod a1_0 64)) + 1))))) + 1))))))) = false := neb_r (a := (rdOf false t110 x12_2)) (b := (decide (x12_2 < (wrap64 ((Int.tmod (wrap64 (a1_1)) (wrap64 ((wrap64 (Int.tmod a1_0 64)) + 1))) + (Int.tmod (wrap64 (a1_2)) (wrap64 ((wrap64 ((wrap64 (Int.tmod a1_0 64)) - (Int.tmod (wrap64 (a1_1)) (wrap64 ((wrap64 (Int.tmod a1_0 64)) + 1))))) + 1)))))))) (v := true) (by first | exact c58 | simpa using c58) (by assumption)))
                                          clear c58
                                          exact Bool.noConfusion ((Option.some.inj H).trans hr_.out)
                                        · rw [if_neg c58] at H
                                          have c58b0 : ((rdOf false t110 x12_2) != (decide (x12_2 < (wrap64 ((Int.tmod (wrap64 (a1_1)) (wrap64 ((wrap64 (Int.tmod a1_0 64)) + 1))) + (Int.tmod (wrap64 (a1_2)) (wrap64 ((wrap64 ((wrap64 (Int.tmod a1_0 64)) - (Int.tmod (wrap64 (a1_1)) (wrap64 ((wrap64 (Int.tmod a1_0 64)) + 1))))) + 1)))))))) = false := by simpa using c58
                                          (try (have c58b1 : decide ((rdOf false t110 x12_2) = (decide (x12_2 < (wrap64 ((Int.tmod (wrap64 (a1_1)) (wrap64 ((wrap64 (Int.tmod a1_0 64)) + 1))) + (Int.tmod (wrap64 (a1_2)) (wrap64 ((wrap64 ((wrap64 (Int.tmod a1_0 64)) - (Int.tmod (wrap64 (a1_1)) (wrap64 ((wrap64 (Int.tmod a1_0 64)) + 1))))) + 1)))))))) = true := by simpa using c58))
                                          (try (have c58b2 : ((rdOf false t110 x12_2) == (decide (x12_2 < (wrap64 ((Int.tmod (wrap64 (a1_1)) (wrap64 ((wrap64 (Int.tmod a1_0 64)) + 1))) + (Int.tmod (wrap64 (a1_2)) (wrap64 ((wrap64 ((wrap64 (Int.tmod a1_0 64)) - (Int.tmod (wrap64 (a1_1)) (wrap64 ((wrap64 (Int.tmod a1_0 64)) + 1))))) + 1)))))))) = true := by simpa using c58))
                                          (try (have c58b3 : (rdOf false t110 x12_2) = true := eqb_l (a := (rdOf false t110 x12_2)) (b := (decide (x12_2 < (wrap64 ((Int.tmod (wrap64 (a1_1)) (wrap64 ((wrap64 (Int.tmod a1_0 64)) + 1))) + (Int.tmod (wrap64 (a1_2)) (wrap64 ((wrap64 ((wrap64 (Int.tmod a1_0 64)) - (Int.tmod (wrap64 (a1_1)) (wrap64 ((wrap64 (Int.tmod a1_0 64)) + 1))))) + 1)))))))) (v := true) (by first | exact c58 | simpa using c58) (by assumption)))
                                          (try (have c58b4 : (rdOf false t110 x12_2) = false := eqb_l (a := (rdOf false t110 x12_2)) (b := (decide (x12_2 < (wrap64 ((Int.tmod (wrap64 (a1_1)) (wrap64 ((wrap64 (Int.tmod a1_0 64)) + 1))) + (Int.tmod (wrap64 (a1_2)) (wrap64 ((wrap64 ((wrap64 (Int.tmod a1_0 64)) - (Int.tmod (wrap64 (a1_1)) (wrap64 ((wrap64 (Int.tmod a1_0 64)) + 1))))) + 1)))))))) (v := false) (by first | exact c58 | simpa using c58) (by assumption)))
                                          (try (have c58b5 : (decide (x12_2 < (wrap64 ((Int.tmod (wrap64 (a1_1)) (wrap64 ((wrap64 (Int.tmod a1_0 64)) + 1))) + (Int.tmod (wrap64 (a1_2)) (wrap64 ((wrap64 ((wrap64 (Int.tmod a1_0 64)) - (Int.tmod (wrap64 (a1_1)) (wrap64 ((wrap64 (Int.tmod a1_0 64)) + 1))))) + 1))))))) = true := eqb_r (a := (rdOf false t110 x12_2)) (b := (decide (x12_2 < (wrap64 ((Int.tmod (wrap64 (a1_1)) (wrap64 ((wrap64 (Int.tmod a1_0 64)) + 1))) + (Int.tmod (wrap64 (a1_2)) (wrap64 ((wrap64 ((wrap64 (Int.tmod a1_0 64)) - (Int.tmod (wrap64 (a1_1)) (wrap64 ((wrap64 (Int.tmod a1_0 64)) + 1))))) + 1)))))))) (v := true) (by first | exact c58 | simpa using c58) (by assumption)))
                                          (try (have c58b6 : (decide (x12_2 < (wrap64 ((Int.tmod (wrap64 (a1_1)) (wrap64 ((wrap64 (Int.tmod a1_0 64)) + 1))) + (Int.tmod (wrap64 (a1_2)) (wrap64 ((wrap64 ((wrap64 (Int.tmod a1_0 64)) - (Int.tmod (wrap64 (a1_1)) (wrap64 ((wrap64 (Int.tmod a1_0 64)) + 1))))) + 1))))))) = false := eqb_r (a := (rdOf false t110 x12_2)) (b := (decide (x12_2 < (wrap64 ((Int.tmod (wrap64 (a1_1)) (wrap64 ((wrap64 (Int.tmod a1_0 64)) + 1))) + (Int.tmod (wrap64 (a1_2)) (wrap64 ((wrap64 ((wrap64 (Int.tmod a1_0 64)) - (Int.tmod (wrap64 (a1_1)) (wrap64 ((wrap64 (Int.tmod a1_0 64)) + 1))))) + 1)))))))) (v := false) (by first | exact c58 | simpa using c58) (by assumption)))
                                          clear c58
                                          have H' := Aside0.mk H
                                          clear H
                                          have hnb61 := NB114_101.out
                                          have hnc61 := NB101_114.out
                                          have hcz62_0 : wr.cell? ⟨gb114, 0, none⟩ = some (.slice Ao21 t107.length co21) := (blk_cell BK114.out 0).trans rfl
                                          have hcz62_1 : wr.cell? ⟨gb114, 1, none⟩ = some (.slice Ao24 t110.length co24) := (blk_cell BK114.out 1).trans rfl
                                          have hfz62_0 := blk_frozen BK114.out 0
                                          have hfz62_1 := blk_frozen BK114.out 1
                                          have p115 : 0 ≤ (x12_2 : Int) := of_decide_eq_true (by first | (with_reducible assumption) | assumption)
                                          have q115 : x12_2 < (t107.length : Int) := of_decide_eq_true (by first | (with_reducible assumption) | assumption)
                                          obtain ⟨ad115, e115, hx115_0⟩ := Kd.at_string (Kd.V_reads' HO_115000.out).2.2 x12_2 p115 q115
                                          cases e115
                                          replace p115 := eq_true p115
                                          replace q115 := eq_true q115
                                          have p117 : 0 ≤ (x12_2 : Int) := of_decide_eq_true (by first | (with_reducible assumption) | assumption)
                                          have q117 : x12_2 < (t107.length : Int) := of_decide_eq_true (by first | (with_reducible assumption) | assumption)
                                          obtain ⟨ad117, e117, hx117_0⟩ := Kd.at_string (Kd.V_reads' HO_115000.out).2.2 x12_2 p117 q117
                                          obtain rfl : ad115 = ad117 := (by injection e117)
                                          replace p117 := eq_true p117
                                          replace q117 := eq_true q117
                                          have p118 : 0 ≤ (x12_2 : Int) := of_decide_eq_true (by first | (with_reducible assumption) | assumption)
                                          have q118 : x12_2 < (t110.length : Int) := of_decide_eq_true (by first | (with_reducible assumption) | assumption)
                                          obtain ⟨ad118, e118, hx118_0⟩ := Kd.at_bool (Kd.V_reads' HO_115001.out).2.2 x12_2 p118 q118
                                          cases e118
                                          replace p118 := eq_true p118
                                          replace q118 := eq_true q118
                                          go_wp2
                                          all_goals first | (go_roundg k2; (case measure => have := HJ10.out; have := HK2.out; omega); (case rel => exact ⟨(wrap64 (x12_2 + 1)), (by first | rfl | (simp; done) | (simp [*]; done) | (simp [isEmpty_bne]; done)), H', ⟨by have := HJ10.out; have := HK2.out; omega⟩, ⟨by (with_reducible repeat (first | apply Kd.V_alloc | apply Kd.V_drewN | apply Kd.V_drew)); exact HO_115000.out⟩, ⟨by (with_reducible repeat (first | apply Kd.V_alloc | apply Kd.V_drewN | apply Kd.V_drew)); exact HO_115001.out⟩, ⟨by (with_reducible repeat (first | refine blk_drewN ?_ _ | refine blk_drew ?_ | refine blk_alloc ?_ _)); exact BK101.out⟩, ⟨by (with_reducible repeat (first | refine blk_drewN ?_ _ | refine blk_drew ?_ | refine blk_alloc ?_ _)); exact BK114.out⟩, ⟨by repeat (first | (with_reducible first | exact HB.out | apply below_alloc | apply pw_below_drewN | apply below_drew1 | refine below_set ?_ GE101.out | refine below_set ?_ GE114.out) | exact HB.out)⟩⟩)) | (exfalso; first | exact bb_no1 ‹¬ (rdOf ByteArray.empty t107 x12_2).toList = t103.toList› (by assumption) (by assumption) | exact bb_no2 ‹(rdOf ByteArray.empty t107 x12_2).toList = t103.toList› (by assumption) (by assumption) | exact bb_no3 ‹(rdOf ByteArray.empty t107 x12_2).toList = t103.toList› (by assumption) (by assumption) | exact bb_no4 ‹¬ (rdOf ByteArray.empty t107 x12_2).toList = t103.toList› (by assumption) (by assumption))
                                      · rw [if_neg c57] at H
                                        have c57b0 : decide ((Int.tmod (wrap64 (a1_1)) (wrap64 ((wrap64 (Int.tmod a1_0 64)) + 1))) ≤ x12_2) = false := decide_eq_false c57
                                        clear c57
                                        by_cases c63 : ((rdOf false t110 x12_2) != false) = true
                                        · rw [if_pos c63] at H
                                          have c63b0 : ((rdOf false t110 x12_2) != false) = true := c63
                                          (try (have c63b1 : decide ((rdOf false t110 x12_2) = false) = false := by simpa using c63))
                                          (try (have c63b2 : ((rdOf false t110 x12_2) == false) = false := by simpa using c63))
                                          (try (have c63b3 : ¬ ((rdOf false t110 x12_2) = false) := by simpa using c63))
                                          (try (have c63b4 : (rdOf false t110 x12_2) = true := neb_l (a := (rdOf false t110 x12_2)) (b := false) (v := false) (by first | exact c63 | simpa using c63) (by assumption)))
                                          (try (have c63b5 : (rdOf false t110 x12_2) = false := neb_l (a := (rdOf false t110 x12_2)) (b := false) (v := true) (by first | exact c63 | simpa using c63) (by assumption)))
                                          (try (have c63b6 : false = true := neb_r (a := (rdOf false t110 x12_2)) (b := false) (v := false) (by first | exact c63 | simpa using c63) (by assumption)))
                                          (try (have c63b7 : false = false := neb_r (a := (rdOf false t110 x12_2)) (b := false) (v := true) (by first | exact c63 | simpa using c63) (by assumption)))
                                          clear c63
                                          exact Bool.noConfusion ((Option.some.inj H).trans hr_.out)
                                        · rw [if_neg c63] at H
                                          have c63b0 : ((rdOf false t110 x12_2) != false) = false := by simpa using c63
                                          (try (have c63b1 : decide ((rdOf false t110 x12_2) = false) = true := by simpa using c63))
                                          (try (have c63b2 : ((rdOf false t110 x12_2) == false) = true := by simpa using c63))
                                          (try (have c63b3 : (rdOf false t110 x12_2) = true := eqb_l (a := (rdOf false t110 x12_2)) (b := false) (v := true) (by first | exact c63 | simpa using c63) (by assumption)))
                                          (try (have c63b4 : (rdOf false t110 x12_2) = false := eqb_l (a := (rdOf false t110 x12_2)) (b := false) (v := false) (by first | exact c63 | simpa using c63) (by assumption)))
                                          (try (have c63b5 : false = true := eqb_r (a := (rdOf false t110 x12_2)) (b := false) (v := true) (by first | exact c63 | simpa using c63) (by assumption)))
                                          (try (have c63b6 : false = false := eqb_r (a := (rdOf false t110 x12_2)) (b := false) (v := false) (by first | exact c63 | simpa using c63) (by assumption)))
                                          clear c63
                                          have H' := Aside0.mk H
                                          clear H
                                          have hnb66 := NB114_101.out
                                          have hnc66 := NB101_114.out
                                          have hcz67_0 : wr.cell? ⟨gb114, 0, none⟩ = some (.slice Ao21 t107.length co21) := (blk_cell BK114.out 0).trans rfl
                                          have hcz67_1 : wr.cell? ⟨gb114, 1, none⟩ = some (.slice Ao24 t110.length co24) := (blk_cell BK114.out 1).trans rfl
                                          have hfz67_0 := blk_frozen BK114.out 0
                                          have hfz67_1 := blk_frozen BK114.out 1
                                          have p115 : 0 ≤ (x12_2 : Int) := of_decide_eq_true (by first | (with_reducible assumption) | assumption)
                                          have q115 : x12_2 < (t107.length : Int) := of_decide_eq_true (by first | (with_reducible assumption) | assumption)
                                          obtain ⟨ad115, e115, hx115_0⟩ := Kd.at_string (Kd.V_reads' HO_115000.out).2.2 x12_2 p115 q115
                                          cases e115
                                          replace p115 := eq_true p115
                                          replace q115 := eq_true q115
                                          have p117 : 0 ≤ (x12_2 : Int) := of_decide_eq_true (by first | (with_reducible assumption) | assumption)
                                          have q117 : x12_2 < (t107.length : Int) := of_decide_eq_true (by first | (with_reducible assumption) | assumption)
                                          obtain ⟨ad117, e117, hx117_0⟩ := Kd.at_string (Kd.V_reads' HO_115000.out).2.2 x12_2 p117 q117
                                          obtain rfl : ad115 = ad117 := (by injection e117)
                                          replace p117 := eq_true p117
                                          replace q117 := eq_true q117
                                          have p118 : 0 ≤ (x12_2 : Int) := of_decide_eq_true (by first | (with_reducible assumption) | assumption)
                                          have q118 : x12_2 < (t110.length : Int) := of_decide_eq_true (by first | (with_reducible assumption) | assumption)
                                          obtain ⟨ad118, e118, hx118_0⟩ := Kd.at_bool (Kd.V_reads' HO_115001.out).2.2 x12_2 p118 q118
                                          cases e118
                                          replace p118 := eq_true p118
                                          replace q118 := eq_true q118
                                          go_wp2
                                          all_goals first | (go_roundg k2; (case measure => have := HJ10.out; have := HK2.out; omega); (case rel => exact ⟨(wrap64 (x12_2 + 1)), (by first | rfl | (simp; done) | (simp [*]; done) | (simp [isEmpty_bne]; done)), H', ⟨by have := HJ10.out; have := HK2.out; omega⟩, ⟨by (with_reducible repeat (first | apply Kd.V_alloc | apply Kd.V_drewN | apply Kd.V_drew)); exact HO_115000.out⟩, ⟨by (with_reducible repeat (first | apply Kd.V_alloc | apply Kd.V_drewN | apply Kd.V_drew)); exact HO_115001.out⟩, ⟨by (with_reducible repeat (first | refine blk_drewN ?_ _ | refine blk_drew ?_ | refine blk_alloc ?_ _)); exact BK101.out⟩, ⟨by (with_reducible repeat (first | refine blk_drewN ?_ _ | refine blk_drew ?_ | refine blk_alloc ?_ _)); exact BK114.out⟩, ⟨by repeat (first | (with_reducible first | exact HB.out | apply below_alloc | apply pw_below_drewN | apply below_drew1 | refine below_set ?_ GE101.out | refine below_set ?_ GE114.out) | exact HB.out)⟩⟩)) | (exfalso; first | exact bb_no1 ‹¬ (rdOf ByteArray.empty t107 x12_2).toList = t103.toList› (by assumption) (by assumption) | exact bb_no2 ‹(rdOf ByteArray.empty t107 x12_2).toList = t103.toList› (by assumption) (by assumption) | exact bb_no3 ‹(rdOf ByteArray.empty t107 x12_2).toList = t103.toList› (by assumption) (by assumption) | exact bb_no4 ‹¬ (rdOf ByteArray.empty t107 x12_2).toList = t103.toList› (by assumption) (by assumption))
                                    · rw [if_neg c56] at H
                                      exact absurd H (by simp)
                                  · rw [if_neg c55] at H
                                    have c55b0 : decide (x12_2 < (wrap64 (Int.tmod a1_0 64))) = false := decide_eq_false c55
                                    clear c55
                                    have H' := Aside0.mk H
                                    clear H
                                    have hnb68 := NB114_101.out
                                    have hnc68 := NB101_114.out
                                    have hcz69_0 : wr.cell? ⟨gb114, 0, none⟩ = some (.slice Ao21 t107.length co21) := (blk_cell BK114.out 0).trans rfl
                                    have hcz69_1 : wr.cell? ⟨gb114, 1, none⟩ = some (.slice Ao24 t110.length co24) := (blk_cell BK114.out 1).trans rfl
                                    have hfz69_0 := blk_frozen BK114.out 0
                                    have hfz69_1 := blk_frozen BK114.out 1
                                    have p115 : 0 ≤ (x12_2 : Int) := of_decide_eq_true (by first | (with_reducible assumption) | assumption)
                                    have q115 : x12_2 < (t107.length : Int) := of_decide_eq_true (by first | (with_reducible assumption) | assumption)
                                    obtain ⟨ad115, e115, hx115_0⟩ := Kd.at_string (Kd.V_reads' HO_115000.out).2.2 x12_2 p115 q115
                                    cases e115
                                    replace p115 := eq_true p115
                                    replace q115 := eq_true q115
                                    have p117 : 0 ≤ (x12_2 : Int) := of_decide_eq_true (by first | (with_reducible assumption) | assumption)
                                    have q117 : x12_2 < (t107.length : Int) := of_decide_eq_true (by first | (with_reducible assumption) | assumption)
                                    obtain ⟨ad117, e117, hx117_0⟩ := Kd.at_string (Kd.V_reads' HO_115000.out).2.2 x12_2 p117 q117
                                    obtain rfl : ad115 = ad117 := (by injection e117)
                                    replace p117 := eq_true p117
                                    replace q117 := eq_true q117
                                    go_wp2
                                    all_goals first | (go_roundg k2; (case measure => have := HJ10.out; have := HK2.out; omega); (case rel => exact ⟨(wrap64 (x12_2 + 1)), (by first | rfl | (simp; done) | (simp [*]; done) | (simp [isEmpty_bne]; done)), H', ⟨by have := HJ10.out; have := HK2.out; omega⟩, ⟨by (with_reducible repeat (first | apply Kd.V_alloc | apply Kd.V_drewN | apply Kd.V_drew)); exact HO_115000.out⟩, ⟨by (with_reducible repeat (first | apply Kd.V_alloc | apply Kd.V_drewN | apply Kd.V_drew)); exact HO_115001.out⟩, ⟨by (with_reducible repeat (first | refine blk_drewN ?_ _ | refine blk_drew ?_ | refine blk_alloc ?_ _)); exact BK101.out⟩, ⟨by (with_reducible repeat (first | refine blk_drewN ?_ _ | refine blk_drew ?_ | refine blk_alloc ?_ _)); exact BK114.out⟩, ⟨by repeat (first | (with_reducible first | exact HB.out | apply below_alloc | apply pw_below_drewN | apply below_drew1 | refine below_set ?_ GE101.out | refine below_set ?_ GE114.out) | exact HB.out)⟩⟩)) | (exfalso; first | exact bb_no1 ‹¬ (rdOf ByteArray.empty t107 x12_2).toList = t103.toList› (by assumption) (by assumption) | exact bb_no2 ‹(rdOf ByteArray.empty t107 x12_2).toList = t103.toList› (by assumption) (by assumption) | exact bb_no3 ‹(rdOf ByteArray.empty t107 x12_2).toList = t103.toList› (by assumption) (by assumption) | exact bb_no4 ‹¬ (rdOf ByteArray.empty t107 x12_2).toList = t103.toList› (by assumption) (by assumption))
                                · rw [if_neg c54] at H
                                  have c54b0 : ((rdOf ByteArray.empty t107 x12_2).toList == ([] : List UInt8)) = false := beq_eq_false_iff_ne.mpr c54
                                  (try (have c54b0e : ((rdOf ByteArray.empty t107 x12_2).toList.isEmpty) = false := by simpa using c54b0))
                                  have c54b1 : ((rdOf ByteArray.empty t107 x12_2).toList != ([] : List UInt8)) = true := bne_iff_ne.mpr c54
                                  exact Bool.noConfusion ((Option.some.inj H).trans hr_.out)
                            · rw [if_neg c37] at H
                              have c37b0 : (t103.toList == ([] : List UInt8)) = false := beq_eq_false_iff_ne.mpr c37
                              (try (have c37b0e : (t103.toList.isEmpty) = false := by simpa using c37b0))
                              have c37b1 : (t103.toList != ([] : List UInt8)) = true := bne_iff_ne.mpr c37
                              exact Bool.noConfusion ((Option.some.inj H).trans hr_.out)
                          · rw [if_neg c36] at H
                            have c36b0 : ((x12_2 == (Int.tmod (wrap64 (a1_1)) (wrap64 ((wrap64 (Int.tmod a1_0 64)) + 1)))) != ((rdOf ByteArray.empty t107 x12_2).toList == t103.toList)) = false := by simpa using c36
                            (try (have c36b1 : decide ((x12_2 == (Int.tmod (wrap64 (a1_1)) (wrap64 ((wrap64 (Int.tmod a1_0 64)) + 1)))) = ((rdOf ByteArray.empty t107 x12_2).toList == t103.toList)) = true := by simpa using c36))
                            (try (have c36b2 : ((x12_2 == (Int.tmod (wrap64 (a1_1)) (wrap64 ((wrap64 (Int.tmod a1_0 64)) + 1)))) == ((rdOf ByteArray.empty t107 x12_2).toList == t103.toList)) = true := by simpa using c36))
                            (try (have c36b3 : (x12_2 == (Int.tmod (wrap64 (a1_1)) (wrap64 ((wrap64 (Int.tmod a1_0 64)) + 1)))) = true := eqb_l (a := (x12_2 == (Int.tmod (wrap64 (a1_1)) (wrap64 ((wrap64 (Int.tmod a1_0 64)) + 1))))) (b := ((rdOf ByteArray.empty t107 x12_2).toList == t103.toList)) (v := true) (by first | exact c36 | simpa using c36) (by assumption)))
                            (try (have c36b4 : (x12_2 == (Int.tmod (wrap64 (a1_1)) (wrap64 ((wrap64 (Int.tmod a1_0 64)) + 1)))) = false := eqb_l (a := (x12_2 == (Int.tmod (wrap64 (a1_1)) (wrap64 ((wrap64 (Int.tmod a1_0 64)) + 1))))) (b := ((rdOf ByteArray.empty t107 x12_2).toList == t103.toList)) (v := false) (by first | exact c36 | simpa using c36) (by assumption)))
                            (try (have c36b5 : ((rdOf ByteArray.empty t107 x12_2).toList == t103.toList) = true := eqb_r (a := (x12_2 == (Int.tmod (wrap64 (a1_1)) (wrap64 ((wrap64 (Int.tmod a1_0 64)) + 1))))) (b := ((rdOf ByteArray.empty t107 x12_2).toList == t103.toList)) (v := true) (by first | exact c36 | simpa using c36) (by assumption)))
                            (try (have c36b6 : ((rdOf ByteArray.empty t107 x12_2).toList == t103.toList) = false := eqb_r (a := (x12_2 == (Int.tmod (wrap64 (a1_1)) (wrap64 ((wrap64 (Int.tmod a1_0 64)) + 1))))) (b := ((rdOf ByteArray.empty t107 x12_2).toList == t103.toList)) (v := false) (by first | exact c36 | simpa using c36) (by assumption)))
                            clear c36
                            by_cases c74 : x12_2 = (Int.tmod (wrap64 (a1_1)) (wrap64 ((wrap64 (Int.tmod a1_0 64)) + 1)))
                            · rw [if_pos c74] at H
                              have c74b0 : (x12_2 == (Int.tmod (wrap64 (a1_1)) (wrap64 ((wrap64 (Int.tmod a1_0 64)) + 1)))) = true := beq_iff_eq.mpr c74
                              have c74b1 : (x12_2 != (Int.tmod (wrap64 (a1_1)) (wrap64 ((wrap64 (Int.tmod a1_0 64)) + 1)))) = false := bne_eq_false_iff_eq.mpr c74
                              clear c74
                              by_cases c75 : x12_2 < (wrap64 (Int.tmod a1_0 64))
                              · rw [if_pos c75] at H
                                have c75b0 : decide (x12_2 < (wrap64 (Int.tmod a1_0 64))) = true := decide_eq_true c75
                                clear c75
                                by_cases c76 : x12_2 < (t110.length : Int)
                                · rw [if_pos c76] at H
                                  have c76b0 : decide (x12_2 < (t110.length : Int)) = true := decide_eq_true c76
                                  clear c76
                                  by_cases c77 : x12_2 ≥ (Int.tmod (wrap64 (a1_1)) (wrap64 ((wrap64 (Int.tmod a1_0 64)) + 1)))
                                  · rw [if_pos c77] at H
                                    have c77b0 : decide ((Int.tmod (wrap64 (a1_1)) (wrap64 ((wrap64 (Int.tmod a1_0 64)) + 1))) ≤ x12_2) = true := decide_eq_true c77
                                    clear c77
                                    by_cases c78 : ((rdOf false t110 x12_2) != (decide (x12_2 < (wrap64 ((Int.tmod (wrap64 (a1_1)) (wrap64 ((wrap64 (Int.tmod a1_0 64)) + 1))) + (Int.tmod (wrap64 (a1_2)) (wrap64 ((wrap64 ((wrap64 (Int.tmod a1_0 64)) - (Int.tmod (wrap64 (a1_1)) (wrap64 ((wrap64 (Int.tmod a1_0 64)) + 1))))) + 1)))))))) = true
                                    · rw [if_pos c78] at H
                                      have c78b0 : ((rdOf false t110 x12_2) != (decide (x12_2 < (wrap64 ((Int.tmod (wrap64 (a1_1)) (wrap64 ((wrap64 (Int.tmod a1_0 64)) + 1))) + (Int.tmod (wrap64 (a1_2)) (wrap64 ((wrap64 ((wrap64 (Int.tmod a1_0 64)) - (Int.tmod (wrap64 (a1_1)) (wrap64 ((wrap64 (Int.tmod a1_0 64)) + 1))))) + 1)))))))) = true := c78
                                      (try (have c78b1 : decide ((rdOf false t110 x12_2) = (decide (x12_2 < (wrap64 ((Int.tmod (wrap64 (a1_1)) (wrap64 ((wrap64 (Int.tmod a1_0 64)) + 1))) + (Int.tmod (wrap64 (a1_2)) (wrap64 ((wrap64 ((wrap64 (Int.tmod a1_0 64)) - (Int.tmod (wrap64 (a1_1)) (wrap64 ((wrap64 (Int.tmod a1_0 64)) + 1))))) + 1)))))))) = false := by simpa using c78))
                                      (try (have c78b2 : ((rdOf false t110 x12_2) == (decide (x12_2 < (wrap64 ((Int.tmod (wrap64 (a1_1)) (wrap64 ((wrap64 (Int.tmod a1_0 64)) + 1))) + (Int.tmod (wrap64 (a1_2)) (wrap64 ((wrap64 ((wrap64 (Int.tmod a1_0 64)) - (Int.tmod (wrap64 (a1_1)) (wrap64 ((wrap64 (Int.tmod a1_0 64)) + 1))))) + 1)))))))) = false := by simpa using c78))
                                      (try (have c78b3 : ¬ ((rdOf false t110 x12_2) = (decide (x12_2 < (wrap64 ((Int.tmod (wrap64 (a1_1)) (wrap64 ((wrap64 (Int.tmod a1_0 64)) + 1))) + (Int.tmod (wrap64 (a1_2)) (wrap64 ((wrap64 ((wrap64 (Int.tmod a1_0 64)) - (Int.tmod (wrap64 (a1_1)) (wrap64 ((wrap64 (Int.tmod a1_0 64)) + 1))))) + 1)))))))) := by simpa using c78))
                                      (try (have c78b4 : (rdOf false t110 x12_2) = true := neb_l (a := (rdOf false t110 x12_2)) (b := (decide (x12_2 < (wrap64 ((Int.tmod (wrap64 (a1_1)) (wrap64 ((wrap64 (Int.tmod a1_0 64)) + 1))) + (Int.tmod (wrap64 (a1_2)) (wrap64 ((wrap64 ((wrap64 (Int.tmod a1_0 64)) - (Int.tmod (wrap64 (a1_1)) (wrap64 ((wrap64 (Int.tmod a1_0 64)) + 1))))) + 1)))))))) (v := false) (by first | exact c78 | simpa using c78) (by assumption)))
                                      (try (have c78b5 : (rdOf false t110 x12_2) = false := neb_l (a := (rdOf false t110 x12_2)) (b := (decide (x12_2 < (wrap64 ((Int.tmod (wrap64 (a1_1)) (wrap64 ((wrap64 (Int.tmod a1_0 64)) + 1))) + (Int.tmod (wrap64 (a1_2)) (wrap64 ((wrap64 ((wrap64 (Int.tmod a1_0 64)) - (Int.tmod (wrap64 (a1_1)) (wrap64 ((wrap64 (Int.tmod a1_0 64)) + 1))))) + 1)))))))) (v := true) (by first | exact c78 | simpa using c78) (by assumption)))
                                      (try (have c78b6 : (decide (x12_2 < (wrap64 ((Int.tmod (wrap64 (a1_1)) (wrap64 ((wrap64 (Int.tmod a1_0 64)) + 1))) + (Int.tmod (wrap64 (a1_2)) (wrap64 ((wrap64 ((wrap64 (Int.tmod a1_0 64)) - (Int.tmod (wrap64 (a1_1)) (wrap64 ((wrap64 (Int.tmod a1_0 64)) + 1))))) + 1))))))) = true := neb_r (a := (rdOf false t110 x12_2)) (b := (decide (x12_2 < (wrap64 ((Int.tmod (wrap64 (a1_1)) (wrap64 ((wrap64 (Int.tmod a1_0 64)) + 1))) + (Int.tmod (wrap64 (a1_2)) (wrap64 ((wrap64 ((wrap64 (Int.tmod a1_0 64)) - (Int.tmod (wrap64 (a1_1)) (wrap64 ((wrap64 (Int.tmod a1_0 64)) + 1))))) + 1)))))))) (v := false) (by first | exact c78 | simpa using c78) (by assumption)))
                                      (try (have c78b7 : (decide (x12_2 < (wrap64 ((Int.tmod (wrap64 (a1_1)) (wrap64 ((wrap64 (Int.tmod a1_0 64)) + 1))) + (Int.tmod (wrap64 (a1_2)) (wrap64 ((wrap64 ((wrap64 (Int.tmod a1_0 64)) - (Int.tmod (wrap64 (a1_1)) (wrap64 ((wrap64 (Int.tmod a1_0 64)) + 1))))) + 1))))))) = false := neb_r (a := (rdOf false t110 x12_2)) (b := (decide (x12_2 < (wrap64 ((Int.tmod (wrap64 (a1_1)) (wrap64 ((wrap64 (Int.tmod a1_0 64)) + 1))) + (Int.tmod (wrap64 (a1_2)) (wrap64 ((wrap64 ((wrap64 (Int.tmod a1_0 64)) - (Int.tmod (wrap64 (a1_1)) (wrap64 ((wrap64 (Int.tmod a1_0 64)) + 1))))) + 1)))))))) (v := true) (by first | exact c78 | simpa using c78) (by assumption)))
                                      clear c78
                                      exact Bool.noConfusion ((Option.some.inj H).trans hr_.out)
                                    · rw [if_neg c78] at H
                                      have c78b0 : ((rdOf false t110 x12_2) != (decide (x12_2 < (wrap64 ((Int.tmod (wrap64 (a1_1)) (wrap64 ((wrap64 (Int.tmod a1_0 64)) + 1))) + (Int.tmod (wrap64 (a1_2)) (wrap64 ((wrap64 ((wrap64 (Int.tmod a1_0 64)) - (Int.tmod (wrap64 (a1_1)) (wrap64 ((wrap64 (Int.tmod a1_0 64)) + 1))))) + 1)))))))) = false := by simpa using c78
                                      (try (have c78b1 : decide ((rdOf false t110 x12_2) = (decide (x12_2 < (wrap64 ((Int.tmod (wrap64 (a1_1)) (wrap64 ((wrap64 (Int.tmod a1_0 64)) + 1))) + (Int.tmod (wrap64 (a1_2)) (wrap64 ((wrap64 ((wrap64 (Int.tmod a1_0 64)) - (Int.tmod (wrap64 (a1_1)) (wrap64 ((wrap64 (Int.tmod a1_0 64)) + 1))))) + 1)))))))) = true := by simpa using c78))
                                      (try (have c78b2 : ((rdOf false t110 x12_2) == (decide (x12_2 < (wrap64 ((Int.tmod (wrap64 (a1_1)) (wrap64 ((wrap64 (Int.tmod a1_0 64)) + 1))) + (Int.tmod (wrap64 (a1_2)) (wrap64 ((wrap64 ((wrap64 (Int.tmod a1_0 64)) - (Int.tmod (wrap64 (a1_1)) (wrap64 ((wrap64 (Int.tmod a1_0 64)) + 1))))) + 1)))))))) = true := by simpa using c78))
                                      (try (have c78b3 : (rdOf false t110 x12_2) = true := eqb_l (a := (rdOf false t110 x12_2)) (b := (decide (x12_2 < (wrap64 ((Int.tmod (wrap64 (a1_1)) (wrap64 ((wrap64 (Int.tmod a1_0 64)) + 1))) + (Int.tmod (wrap64 (a1_2)) (wrap64 ((wrap64 ((wrap64 (Int.tmod a1_0 64)) - (Int.tmod (wrap64 (a1_1)) (wrap64 ((wrap64 (Int.tmod a1_0 64)) + 1))))) + 1)))))))) (v := true) (by first | exact c78 | simpa using c78) (by assumption)))
                                      (try (have c78b4 : (rdOf false t110 x12_2) = false := eqb_l (a := (rdOf false t110 x12_2)) (b := (decide (x12_2 < (wrap64 ((Int.tmod (wrap64 (a1_1)) (wrap64 ((wrap64 (Int.tmod a1_0 64)) + 1))) + (Int.tmod (wrap64 (a1_2)) (wrap64 ((wrap64 ((wrap64 (Int.tmod a1_0 64)) - (Int.tmod (wrap64 (a1_1)) (wrap64 ((wrap64 (Int.tmod a1_0 64)) + 1))))) + 1)))))))) (v := false) (by first | exact c78 | simpa using c78) (by assumption)))
                                      (try (have c78b5 : (decide (x12_2 < (wrap64 ((Int.tmod (wrap64 (a1_1)) (wrap64 ((wrap64 (Int.tmod a1_0 64)) + 1))) + (Int.tmod (wrap64 (a1_2)) (wrap64 ((wrap64 ((wrap64 (Int.tmod a1_0 64)) - (Int.tmod (wrap64 (a1_1)) (wrap64 ((wrap64 (Int.tmod a1_0 64)) + 1))))) + 1))))))) = true := eqb_r (a := (rdOf false t110 x12_2)) (b := (decide (x12_2 < (wrap64 ((Int.tmod (wrap64 (a1_1)) (wrap64 ((wrap64 (Int.tmod a1_0 64)) + 1))) + (Int.tmod (wrap64 (a1_2)) (wrap64 ((wrap64 ((wrap64 (Int.tmod a1_0 64)) - (Int.tmod (wrap64 (a1_1)) (wrap64 ((wrap64 (Int.tmod a1_0 64)) + 1))))) + 1)))))))) (v := true) (by first | exact c78 | simpa using c78) (by assumption)))
                                      (try (have c78b6 : (decide (x12_2 < (wrap64 ((Int.tmod (wrap64 (a1_1)) (wrap64 ((wrap64 (Int.tmod a1_0 64)) + 1))) + (Int.tmod (wrap64 (a1_2)) (wrap64 ((wrap64 ((wrap64 (Int.tmod a1_0 64)) - (Int.tmod (wrap64 (a1_1)) (wrap64 ((wrap64 (Int.tmod a1_0 64)) + 1))))) + 1))))))) = false := eqb_r (a := (rdOf false t110 x12_2)) (b := (decide (x12_2 < (wrap64 ((Int.tmod (wrap64 (a1_1)) (wrap64 ((wrap64 (Int.tmod a1_0 64)) + 1))) + (Int.tmod (wrap64 (a1_2)) (wrap64 ((wrap64 ((wrap64 (Int.tmod a1_0 64)) - (Int.tmod (wrap64 (a1_1)) (wrap64 ((wrap64 (Int.tmod a1_0 64)) + 1))))) + 1)))))))) (v := false) (by first | exact c78 | simpa using c78) (by assumption)))
                                      clear c78
                                      have H' := Aside0.mk H
                                      clear H
                                      have hnb81 := NB114_101.out
                                      have hnc81 := NB101_114.out
                                      have hcz82_0 : wr.cell? ⟨gb114, 0, none⟩ = some (.slice Ao21 t107.length co21) := (blk_cell BK114.out 0).trans rfl
                                      have hcz82_1 : wr.cell? ⟨gb114, 1, none⟩ = some (.slice Ao24 t110.length co24) := (blk_cell BK114.out 1).trans rfl
                                      have hfz82_0 := blk_frozen BK114.out 0
                                      have hfz82_1 := blk_frozen BK114.out 1
                                      have p115 : 0 ≤ (x12_2 : Int) := of_decide_eq_true (by first | (with_reducible assumption) | assumption)
                                      have q115 : x12_2 < (t107.length : Int) := of_decide_eq_true (by first | (with_reducible assumption) | assumption)
                                      obtain ⟨ad115, e115, hx115_0⟩ := Kd.at_string (Kd.V_reads' HO_115000.out).2.2 x12_2 p115 q115
                                      cases e115
                                      replace p115 := eq_true p115
                                      replace q115 := eq_true q115
                                      have p119 : 0 ≤ (x12_2 : Int) := of_decide_eq_true (by first | (with_reducible assumption) | assumption)
                                      have q119 : x12_2 < (t110.length : Int) := of_decide_eq_true (by first | (with_reducible assumption) | assumption)
                                      obtain ⟨ad119, e119, hx119_0⟩ := Kd.at_bool (Kd.V_reads' HO_115001.out).2.2 x12_2 p119 q119
                                      cases e119
                                      replace p119 := eq_true p119
                                      replace q119 := eq_true q119
                                      go_wp2
                                      all_goals first | (go_roundg k2; (case measure => have := HJ10.out; have := HK2.out; omega); (case rel => exact ⟨(wrap64 (x12_2 + 1)), (by first | rfl | (simp; done) | (simp [*]; done) | (simp [isEmpty_bne]; done)), H', ⟨by have := HJ10.out; have := HK2.out; omega⟩, ⟨by (with_reducible repeat (first | apply Kd.V_alloc | apply Kd.V_drewN | apply Kd.V_drew)); exact HO_115000.out⟩, ⟨by (with_reducible repeat (first | apply Kd.V_alloc | apply Kd.V_drewN | apply Kd.V_drew)); exact HO_115001.out⟩, ⟨by (with_reducible repeat (first | refine blk_drewN ?_ _ | refine blk_drew ?_ | refine blk_alloc ?_ _)); exact BK101.out⟩, ⟨by (with_reducible repeat (first | refine blk_drewN ?_ _ | refine blk_drew ?_ | refine blk_alloc ?_ _)); exact BK114.out⟩, ⟨by repeat (first | (with_reducible first | exact HB.out | apply below_alloc | apply pw_below_drewN | apply below_drew1 | refine below_set ?_ GE101.out | refine below_set ?_ GE114.out) | exact HB.out)⟩⟩)) | (exfalso; first | exact bb_no1 ‹¬ (rdOf ByteArray.empty t107 x12_2).toList = t103.toList› (by assumption) (by assumption) | exact bb_no2 ‹(rdOf ByteArray.empty t107 x12_2).toList = t103.toList› (by assumption) (by assumption) | exact bb_no3 ‹(rdOf ByteArray.empty t107 x12_2).toList = t103.toList› (by assumption) (by assumption) | exact bb_no4 ‹¬ (rdOf ByteArray.empty t107 x12_2).toList = t103.toList› (by assumption) (by assumption))
                                  · rw [if_neg c77] at H
                                    have c77b0 : decide ((Int.tmod (wrap64 (a1_1)) (wrap64 ((wrap64 (Int.tmod a1_0 64)) + 1))) ≤ x12_2) = false := decide_eq_false c77
                                    clear c77
                                    by_cases c83 : ((rdOf false t110 x12_2) != false) = true
                                    · rw [if_pos c83] at H
                                      have c83b0 : ((rdOf false t110 x12_2) != false) = true := c83
                                      (try (have c83b1 : decide ((rdOf false t110 x12_2) = false) = false := by simpa using c83))
                                      (try (have c83b2 : ((rdOf false t110 x12_2) == false) = false := by simpa using c83))
                                      (try (have c83b3 : ¬ ((rdOf false t110 x12_2) = false) := by simpa using c83))
                                      (try (have c83b4 : (rdOf false t110 x12_2) = true := neb_l (a := (rdOf false t110 x12_2)) (b := false) (v := false) (by first | exact c83 | simpa using c83) (by assumption)))
                                      (try (have c83b5 : (rdOf false t110 x12_2) = false := neb_l (a := (rdOf false t110 x12_2)) (b := false) (v := true) (by first | exact c83 | simpa using c83) (by assumption)))
                                      (try (have c83b6 : false = true := neb_r (a := (rdOf false t110 x12_2)) (b := false) (v := false) (by first | exact c83 | simpa using c83) (by assumption)))
                                      (try (have c83b7 : false = false := neb_r (a := (rdOf false t110 x12_2)) (b := false) (v := true) (by first | exact c83 | simpa using c83) (by assumption)))
                                      clear c83
                                      exact Bool.noConfusion ((Option.some.inj H).trans hr_.out)
                                    · rw [if_neg c83] at H
                                      have c83b0 : ((rdOf false t110 x12_2) != false) = false := by simpa using c83
                                      (try (have c83b1 : decide ((rdOf false t110 x12_2) = false) = true := by simpa using c83))
                                      (try (have c83b2 : ((rdOf false t110 x12_2) == false) = true := by simpa using c83))
                                      (try (have c83b3 : (rdOf false t110 x12_2) = true := eqb_l (a := (rdOf false t110 x12_2)) (b := false) (v := true) (by first | exact c83 | simpa using c83) (by assumption)))
                                      (try (have c83b4 : (rdOf false t110 x12_2) = false := eqb_l (a := (rdOf false t110 x12_2)) (b := false) (v := false) (by first | exact c83 | simpa using c83) (by assumption)))
                                      (try (have c83b5 : false = true := eqb_r (a := (rdOf false t110 x12_2)) (b := false) (v := true) (by first | exact c83 | simpa using c83) (by assumption)))
                                      (try (have c83b6 : false = false := eqb_r (a := (rdOf false t110 x12_2)) (b := false) (v := false) (by first | exact c83 | simpa using c83) (by assumption)))
                                      clear c83
                                      have H' := Aside0.mk H
                                      clear H
                                      have hnb86 := NB114_101.out
                                      have hnc86 := NB101_114.out
                                      have hcz87_0 : wr.cell? ⟨gb114, 0, none⟩ = some (.slice Ao21 t107.length co21) := (blk_cell BK114.out 0).trans rfl
                                      have hcz87_1 : wr.cell? ⟨gb114, 1, none⟩ = some (.slice Ao24 t110.length co24) := (blk_cell BK114.out 1).trans rfl
                                      have hfz87_0 := blk_frozen BK114.out 0
                                      have hfz87_1 := blk_frozen BK114.out 1
                                      have p115 : 0 ≤ (x12_2 : Int) := of_decide_eq_true (by first | (with_reducible assumption) | assumption)
                                      have q115 : x12_2 < (t107.length : Int) := of_decide_eq_true (by first | (with_reducible assumption) | assumption)
                                      obtain ⟨ad115, e115, hx115_0⟩ := Kd.at_string (Kd.V_reads' HO_115000.out).2.2 x12_2 p115 q115
                                      cases e115
                                      replace p115 := eq_true p115
                                      replace q115 := eq_true q115
                                      have p119 : 0 ≤ (x12_2 : Int) := of_decide_eq_true (by first | (with_reducible assumption) | assumption)
                                      have q119 : x12_2 < (t110.length : Int) := of_decide_eq_true (by first | (with_reducible assumption) | assumption)
                                      obtain ⟨ad119, e119, hx119_0⟩ := Kd.at_bool (Kd.V_reads' HO_115001.out).2.2 x12_2 p119 q119
                                      cases e119
                                      replace p119 := eq_true p119
                                      replace q119 := eq_true q119
                                      go_wp2
                                      all_goals first | (go_roundg k2; (case measure => have := HJ10.out; have := HK2.out; omega); (case rel => exact ⟨(wrap64 (x12_2 + 1)), (by first | rfl | (simp; done) | (simp [*]; done) | (simp [isEmpty_bne]; done)), H', ⟨by have := HJ10.out; have := HK2.out; omega⟩, ⟨by (with_reducible repeat (first | apply Kd.V_alloc | apply Kd.V_drewN | apply Kd.V_drew)); exact HO_115000.out⟩, ⟨by (with_reducible repeat (first | apply Kd.V_alloc | apply Kd.V_drewN | apply Kd.V_drew)); exact HO_115001.out⟩, ⟨by (with_reducible repeat (first | refine blk_drewN ?_ _ | refine blk_drew ?_ | refine blk_alloc ?_ _)); exact BK101.out⟩, ⟨by (with_reducible repeat (first | refine blk_drewN ?_ _ | refine blk_drew ?_ | refine blk_alloc ?_ _)); exact BK114.out⟩, ⟨by repeat (first | (with_reducible first | exact HB.out | apply below_alloc | apply pw_below_drewN | apply below_drew1 | refine below_set ?_ GE101.out | refine below_set ?_ GE114.out) | exact HB.out)⟩⟩)) | (exfalso; first | exact bb_no1 ‹¬ (rdOf ByteArray.empty t107 x12_2).toList = t103.toList› (by assumption) (by assumption) | exact bb_no2 ‹(rdOf ByteArray.empty t107 x12_2).toList = t103.toList› (by assumption) (by assumption) | exact bb_no3 ‹(rdOf ByteArray.empty t107 x12_2).toList = t103.toList› (by assumption) (by assumption) | exact bb_no4 ‹¬ (rdOf ByteArray.empty t107 x12_2).toList = t103.toList› (by assumption) (by assumption))
                                · rw [if_neg c76] at H
                                  exact absurd H (by simp)
                              · rw [if_neg c75] at H
                                have c75b0 : decide (x12_2 < (wrap64 (Int.tmod a1_0 64))) = false := decide_eq_false c75
                                clear c75
                                have H' := Aside0.mk H
                                clear H
                                have hnb88 := NB114_101.out
                                have hnc88 := NB101_114.out
                                have hcz89_0 : wr.cell? ⟨gb114, 0, none⟩ = some (.slice Ao21 t107.length co21) := (blk_cell BK114.out 0).trans rfl
                                have hcz89_1 : wr.cell? ⟨gb114, 1, none⟩ = some (.slice Ao24 t110.length co24) := (blk_cell BK114.out 1).trans rfl
                                have hfz89_0 := blk_frozen BK114.out 0
                                have hfz89_1 := blk_frozen BK114.out 1
                                have p115 : 0 ≤ (x12_2 : Int) := of_decide_eq_true (by first | (with_reducible assumption) | assumption)
                                have q115 : x12_2 < (t107.length : Int) := of_decide_eq_true (by first | (with_reducible assumption) | assumption)
                                obtain ⟨ad115, e115, hx115_0⟩ := Kd.at_string (Kd.V_reads' HO_115000.out).2.2 x12_2 p115 q115
                                cases e115
                                replace p115 := eq_true p115
                                replace q115 := eq_true q115
                                go_wp2
                                all_goals first | (go_roundg k2; (case measure => have := HJ10.out; have := HK2.out; omega); (case rel => exact ⟨(wrap64 (x12_2 + 1)), (by first | rfl | (simp; done) | (simp [*]; done) | (simp [isEmpty_bne]; done)), H', ⟨by have := HJ10.out; have := HK2.out; omega⟩, ⟨by (with_reducible repeat (first | apply Kd.V_alloc | apply Kd.V_drewN | apply Kd.V_drew)); exact HO_115000.out⟩, ⟨by (with_reducible repeat (first | apply Kd.V_alloc | apply Kd.V_drewN | apply Kd.V_drew)); exact HO_115001.out⟩, ⟨by (with_reducible repeat (first | refine blk_drewN ?_ _ | refine blk_drew ?_ | refine blk_alloc ?_ _)); exact BK101.out⟩, ⟨by (with_reducible repeat (first | refine blk_drewN ?_ _ | refine blk_drew ?_ | refine blk_alloc ?_ _)); exact BK114.out⟩, ⟨by repeat (first | (with_reducible first | exact HB.out | apply below_alloc | apply pw_below_drewN | apply below_drew1 | refine below_set ?_ GE101.out | refine below_set ?_ GE114.out) | exact HB.out)⟩⟩)) | (exfalso; first | exact bb_no1 ‹¬ (rdOf ByteArray.empty t107 x12_2).toList = t103.toList› (by assumption) (by assumption) | exact bb_no2 ‹(rdOf ByteArray.empty t107 x12_2).toList = t103.toList› (by assumption) (by assumption) | exact bb_no3 ‹(rdOf ByteArray.empty t107 x12_2).toList = t103.toList› (by assumption) (by assumption) | exact bb_no4 ‹¬ (rdOf ByteArray.empty t107 x12_2).toList = t103.toList› (by assumption) (by assumption))
                            · rw [if_neg c74] at H
                              have c74b0 : (x12_2 == (Int.tmod (wrap64 (a1_1)) (wrap64 ((wrap64 (Int.tmod a1_0 64)) + 1)))) = false := beq_eq_false_iff_ne.mpr c74
                              have c74b1 : (x12_2 != (Int.tmod (wrap64 (a1_1)) (wrap64 ((wrap64 (Int.tmod a1_0 64)) + 1)))) = true := bne_iff_ne.mpr c74
                              by_cases c90 : (rdOf ByteArray.empty t107 x12_2).toList = ([] : List UInt8)
                              · rw [if_pos c90] at H
                                have c90b0 : ((rdOf ByteArray.empty t107 x12_2).toList == ([] : List UInt8)) = true := beq_iff_eq.mpr c90
                                (try (have c90b0e : ((rdOf ByteArray.empty t107 x12_2).toList.isEmpty) = true := by simpa using c90b0))
                                have c90b1 : ((rdOf ByteArray.empty t107 x12_2).toList != ([] : List UInt8)) = false := bne_eq_false_iff_eq.mpr c90
                                clear c90
                                by_cases c91 : x12_2 < (wrap64 (Int.tmod a1_0 64))
                                · rw [if_pos c91] at H
                                  have c91b0 : decide (x12_2 < (wrap64 (Int.tmod a1_0 64))) = true := decide_eq_true c91
                                  clear c91
                                  by_cases c92 : x12_2 < (t110.length : Int)
                                  · rw [if_pos c92] at H
                                    have c92b0 : decide (x12_2 < (t110.length : Int)) = true := decide_eq_true c92
                                    clear c92
                                    by_cases c93 : x12_2 ≥ (Int.tmod (wrap64 (a1_1)) (wrap64 ((wrap64 (Int.tmod a1_0 64)) + 1)))
                                    · rw [if_pos c93] at H
                                      have c93b0 : decide ((Int.tmod (wrap64 (a1_1)) (wrap64 ((wrap64 (Int.tmod a1_0 64)) + 1))) ≤ x12_2) = true := decide_eq_true c93
                                      clear c93
                                      by_cases c94 : ((rdOf false t110 x12_2) != (decide (x12_2 < (wrap64 ((Int.tmod (wrap64 (a1_1)) (wrap64 ((wrap64 (Int.tmod a1_0 64)) + 1))) + (Int.tmod (wrap64 (a1_2)) (wrap64 ((wrap64 ((wrap64 (Int.tmod a1_0 64)) - (Int.tmod (wrap64 (a1_1)) (wrap64 ((wrap64 (Int.tmod a1_0 64)) + 1))))) + 1)))))))) = true
                                      · rw [if_pos c94] at H
                                        have c94b0 : ((rdOf false t110 x12_2) != (decide (x12_2 < (wrap64 ((Int.tmod (wrap64 (a1_1)) (wrap64 ((wrap64 (Int.tmod a1_0 64)) + 1))) + (Int.tmod (wrap64 (a1_2)) (wrap64 ((wrap64 ((wrap64 (Int.tmod a1_0 64)) - (Int.tmod (wrap64 (a1_1)) (wrap64 ((wrap64 (Int.tmod a1_0 64)) + 1))))) + 1)))))))) = true := c94
                                        (try (have c94b1 : decide ((rdOf false t110 x12_2) = (decide (x12_2 < (wrap64 ((Int.tmod (wrap64 (a1_1)) (wrap64 ((wrap64 (Int.tmod a1_0 64)) + 1))) + (Int.tmod (wrap64 (a1_2)) (wrap64 ((wrap64 ((wrap64 (Int.tmod a1_0 64)) - (Int.tmod (wrap64 (a1_1)) (wrap64 ((wrap64 (Int.tmod a1_0 64)) + 1))))) + 1)))))))) = false := by simpa using c94))
                                        (try (have c94b2 : ((rdOf false t110 x12_2) == (decide (x12_2 < (wrap64 ((Int.tmod (wrap64 (a1_1)) (wrap64 ((wrap64 (Int.tmod a1_0 64)) + 1))) + (Int.tmod (wrap64 (a1_2)) (wrap64 ((wrap64 ((wrap64 (Int.tmod a1_0 64)) - (Int.tmod (wrap64 (a1_1)) (wrap64 ((wrap64 (Int.tmod a1_0 64)) + 1))))) + 1)))))))) = false := by simpa using c94))
                                        (try (have c94b3 : ¬ ((rdOf false t110 x12_2) = (decide (x12_2 < (wrap64 ((Int.tmod (wrap64 (a1_1)) (wrap64 ((wrap64 (Int.tmod a1_0 64)) + 1))) + (Int.tmod (wrap64 (a1_2)) (wrap64 ((wrap64 ((wrap64 (Int.tmod a1_0 64)) - (Int.tmod (wrap64 (a1_1)) (wrap64 ((wrap64 (Int.tmod a1_0 64)) + 1))))) + 1)))))))) := by simpa using c94))
                                        (try (have c94b4 : (rdOf false t110 x12_2) = true := neb_l (a := (rdOf false t110 x12_2)) (b := (decide (x12_2 < (wrap64 ((Int.tmod (wrap64 (a1_1)) (wrap64 ((wrap64 (Int.tmod a1_0 64)) + 1))) + (Int.tmod (wrap64 (a1_2)) (wrap64 ((wrap64 ((wrap64 (Int.tmod a1_0 64)) - (Int.tmod (wrap64 (a1_1)) (wrap64 ((wrap64 (Int.tmod a1_0 64)) + 1))))) + 1)))))))) (v := false) (by first | exact c94 | simpa using c94) (by assumption)))
                                        (try (have c94b5 : (rdOf false t110 x12_2) = false := neb_l (a := (rdOf false t110 x12_2)) (b := (decide (x12_2 < (wrap64 ((Int.tmod (wrap64 (a1_1)) (wrap64 ((wrap64 (Int.tmod a1_0 64)) + 1))) + (Int.tmod (wrap64 (a1_2)) (wrap64 ((wrap64 ((wrap64 (Int.tmod a1_0 64)) - (Int.tmod (wrap64 (a1_1)) (wrap64 ((wrap64 (Int.tmod a1_0 64)) + 1))))) + 1)))))))) (v := true) (by first | exact c94 | simpa using c94) (by assumption)))
                                        (try (have c94b6 : (decide (x12_2 < (wrap64 ((Int.tmod (wrap64 (a1_1)) (wrap64 ((wrap64 (Int.tmod a1_0 64)) + 1))) + (Int.tmod (wrap64 (a1_2)) (wrap64 ((wrap64 ((wrap64 (Int.tmod a1_0 64)) - (Int.tmod (wrap64 (a1_1)) (wrap64 ((wrap64 (Int.tmod a1_0 64)) + 1))))) + 1))))))) = true := neb_r (a := (rdOf false t110 x12_2)) (b := (decide (x12_2 < (wrap64 ((Int.tmod (wrap64 (a1_1)) (wrap64 ((wrap64 (Int.tmod a1_0 64)) + 1))) + (Int.tmod (wrap64 (a1_2)) (wrap64 ((wrap64 ((wrap64 (Int.tmod a1_0 64)) - (Int.tmod (wrap64 (a1_1)) (wrap64 ((wrap64 (Int.tmod a1_0 64)) + 1))))) + 1)))))))) (v := false) (by first | exact c94 | simpa using c94) (by assumption)))
                                        (try (have c94b7 : (decide (x12_2 < (wrap64 ((Int.tmod (wrap64 (a1_1)) (wrap64 ((wrap64 (Int.tmod a1_0 64)) + 1))) + (Int.tmod (wrap64 (a1_2)) (wrap64 ((wrap64 ((wrap64 (Int.tmod a1_0 64)) - (Int.tmod (wrap64 (a1_1)) (wrap64 ((wrap64 (Int.tmod a1_0 64)) + 1))))) + 1))))))) = false := neb_r (a := (rdOf false t110 x12_2)) (b := (decide (x12_2 < (wrap64 ((Int.tmod (wrap64 (a1_1)) (wrap64 ((wrap64 (Int.tmod a1_0 64)) + 1))) + (Int.tmod (wrap64 (a1_2)) (wrap64 ((wrap64 ((wrap64 (Int.tmod a1_0 64)) - (Int.tmod (wrap64 (a1_1)) (wrap64 ((wrap64 (Int.tmod a1_0 64)) + 1))))) + 1)))))))) (v := true) (by first | exact c94 | simpa using c94) (by assumption)))
                                        clear c94
                                        exact Bool.noConfusion ((Option.some.inj H).trans hr_.out)
                                      · rw [if_neg c94] at H
                                        have c94b0 : ((rdOf false t110 x12_2) != (decide (x12_2 < (wrap64 ((Int.tmod (wrap64 (a1_1)) (wrap64 ((wrap64 (Int.tmod a1_0 64)) + 1))) + (Int.tmod (wrap64 (a1_2)) (wrap64 ((wrap64 ((wrap64 (Int.tmod a1_0 64)) - (Int.tmod (wrap64 (a1_1)) (wrap64 ((wrap64 (Int.tmod a1_0 64)) + 1))))) + 1)))))))) = false := by simpa using c94
                                        (try (have c94b1 : decide ((rdOf false t110 x12_2) = (decide (x12_2 < (wrap64 ((Int.tmod (wrap64 (a1_1)) (wrap64 ((wrap64 (Int.tmod a1_0 64)) + 1))) + (Int.tmod (wrap64 (a1_2)) (wrap64 ((wrap64 ((wrap64 (Int.tmod a1_0 64)) - (Int.tmod (wrap64 (a1_1)) (wrap64 ((wrap64 (Int.tmod a1_0 64)) + 1))))) + 1)))))))) = true := by simpa using c94))
                                        (try (have c94b2 : ((rdOf false t110 x12_2) == (decide (x12_2 < (wrap64 ((Int.tmod (wrap64 (a1_1)) (wrap64 ((wrap64 (Int.tmod a1_0 64)) + 1))) + (Int.tmod (wrap64 (a1_2)) (wrap64 ((wrap64 ((wrap64 (Int.tmod a1_0 64)) - (Int.tmod (wrap64 (a1_1)) (wrap64 ((wrap64 (Int.tmod a1_0 64)) + 1))))) + 1)))))))) = true := by simpa using c94))
                                        (try (have c94b3 : (rdOf false t110 x12_2) = true := eqb_l (a := (rdOf false t110 x12_2)) (b := (decide (x12_2 < (wrap64 ((Int.tmod (wrap64 (a1_1)) (wrap64 ((wrap64 (Int.tmod a1_0 64)) + 1))) + (Int.tmod (wrap64 (a1_2)) (wrap64 ((wrap64 ((wrap64 (Int.tmod a1_0 64)) - (Int.tmod (wrap64 (a1_1)) (wrap64 ((wrap64 (Int.tmod a1_0 64)) + 1))))) + 1)))))))) (v := true) (by first | exact c94 | simpa using c94) (by assumption)))
                                        (try (have c94b4 : (rdOf false t110 x12_2) = false := eqb_l (a := (rdOf false t110 x12_2)) (b := (decide (x12_2 < (wrap64 ((Int.tmod (wrap64 (a1_1)) (wrap64 ((wrap64 (Int.tmod a1_0 64)) + 1))) + (Int.tmod (wrap64 (a1_2)) (wrap64 ((wrap64 ((wrap64 (Int.tmod a1_0 64)) - (Int.tmod (wrap64 (a1_1)) (wrap64 ((wrap64 (Int.tmod a1_0 64)) + 1))))) + 1)))))))) (v := false) (by first | exact c94 | simpa using c94) (by assumption)))
                                        (try (have c94b5 : (decide (x12_2 < (wrap64 ((Int.tmod (wrap64 (a1_1)) (wrap64 ((wrap64 (Int.tmod a1_0 64)) + 1))) + (Int.tmod (wrap64 (a1_2)) (wrap64 ((wrap64 ((wrap64 (Int.tmod a1_0 64)) - (Int.tmod (wrap64 (a1_1)) (wrap64 ((wrap64 (Int.tmod a1_0 64)) + 1))))) + 1))))))) = true := eqb_r (a := (rdOf false t110 x12_2)) (b := (decide (x12_2 < (wrap64 ((Int.tmod (wrap64 (a1_1)) (wrap64 ((wrap64 (Int.tmod a1_0 64)) + 1))) + (Int.tmod (wrap64 (a1_2)) (wrap64 ((wrap64 ((wrap64 (Int.tmod a1_0 64)) - (Int.tmod (wrap64 (a1_1)) (wrap64 ((wrap64 (Int.tmod a1_0 64)) + 1))))) + 1)))))))) (v := true) (by first | exact c94 | simpa using c94) (by assumption)))
                                        (try (have c94b6 : (decide (x12_2 < (wrap64 ((Int.tmod (wrap64 (a1_1)) (wrap64 ((wrap64 (Int.tmod a1_0 64)) + 1))) + (Int.tmod (wrap64 (a1_2)) (wrap64 ((wrap64 ((wrap64 (Int.tmod a1_0 64)) - (Int.tmod (wrap64 (a1_1)) (wrap64 ((wrap64 (Int.tmod a1_0 64)) + 1))))) + 1))))))) = false := eqb_r (a := (rdOf false t110 x12_2)) (b := (decide (x12_2 < (wrap64 ((Int.tmod (wrap64 (a1_1)) (wrap64 ((wrap64 (Int.tmod a1_0 64)) + 1))) + (Int.tmod (wrap64 (a1_2)) (wrap64 ((wrap64 ((wrap64 (Int.tmod a1_0 64)) - (Int.tmod (wrap64 (a1_1)) (wrap64 ((wrap64 (Int.tmod a1_0 64)) + 1))))) + 1)))))))) (v := false) (by first | exact c94 | simpa using c94) (by assumption)))
                                        clear c94
                                        have H' := Aside0.mk H
                                        clear H
                                        have hnb97 := NB114_101.out
                                        have hnc97 := NB101_114.out
                                        have hcz98_0 : wr.cell? ⟨gb114, 0, none⟩ = some (.slice Ao21 t107.length co21) := (blk_cell BK114.out 0).trans rfl
                                        have hcz98_1 : wr.cell? ⟨gb114, 1, none⟩ = some (.slice Ao24 t110.length co24) := (blk_cell BK114.out 1).trans rfl
                                        have hfz98_0 := blk_frozen BK114.out 0
                                        have hfz98_1 := blk_frozen BK114.out 1
                                        have p115 : 0 ≤ (x12_2 : Int) := of_decide_eq_true (by first | (with_reducible assumption) | assumption)
                                        have q115 : x12_2 < (t107.length : Int) := of_decide_eq_true (by first | (with_reducible assumption) | assumption)
                                        obtain ⟨ad115, e115, hx115_0⟩ := Kd.at_string (Kd.V_reads' HO_115000.out).2.2 x12_2 p115 q115
                                        cases e115
                                        replace p115 := eq_true p115
                                        replace q115 := eq_true q115
                                        have p120 : 0 ≤ (x12_2 : Int) := of_decide_eq_true (by first | (with_reducible assumption) | assumption)
                                        have q120 : x12_2 < (t107.length : Int) := of_decide_eq_true (by first | (with_reducible assumption) | assumption)
                                        obtain ⟨ad120, e120, hx120_0⟩ := Kd.at_string (Kd.V_reads' HO_115000.out).2.2 x12_2 p120 q120
                                        obtain rfl : ad115 = ad120 := (by injection e120)
                                        replace p120 := eq_true p120
                                        replace q120 := eq_true q120
                                        have p121 : 0 ≤ (x12_2 : Int) := of_decide_eq_true (by first | (with_reducible assumption) | assumption)
                                        have q121 : x12_2 < (t110.length : Int) := of_decide_eq_true (by first | (with_reducible assumption) | assumption)
                                        obtain ⟨ad121, e121, hx121_0⟩ := Kd.at_bool (Kd.V_reads' HO_115001.out).2.2 x12_2 p121 q121
                                        cases e121
                                        replace p121 := eq_true p121
                                        replace q121 := eq_true q121
                                        go_wp2
                                        all_goals first | (go_roundg k2; (case measure => have := HJ10.out; have := HK2.out; omega); (case rel => exact ⟨(wrap64 (x12_2 + 1)), (by first | rfl | (simp; done) | (simp [*]; done) | (simp [isEmpty_bne]; done)), H', ⟨by have := HJ10.out; have := HK2.out; omega⟩, ⟨by (with_reducible repeat (first | apply Kd.V_alloc | apply Kd.V_drewN | apply Kd.V_drew)); exact HO_115000.out⟩, ⟨by (with_reducible repeat (first | apply Kd.V_alloc | apply Kd.V_drewN | apply Kd.V_drew)); exact HO_115001.out⟩, ⟨by (with_reducible repeat (first | refine blk_drewN ?_ _ | refine blk_drew ?_ | refine blk_alloc ?_ _)); exact BK101.out⟩, ⟨by (with_reducible repeat (first | refine blk_drewN ?_ _ | refine blk_drew ?_ | refine blk_alloc ?_ _)); exact BK114.out⟩, ⟨by repeat (first | (with_reducible first | exact HB.out | apply below_alloc | apply pw_below_drewN | apply below_drew1 | refine below_set ?_ GE101.out | refine below_set ?_ GE114.out) | exact HB.out)⟩⟩)) | (exfalso; first | exact bb_no1 ‹¬ (rdOf ByteArray.empty t107 x12_2).toList = t103.toList› (by assumption) (by assumption) | exact bb_no2 ‹(rdOf ByteArray.empty t107 x12_2).toList = t103.toList› (by assumption) (by assumption) | exact bb_no3 ‹(rdOf ByteArray.empty t107 x12_2).toList = t103.toList› (by assumption) (by assumption) | exact bb_no4 ‹¬ (rdOf ByteArray.empty t107 x12_2).toList = t103.toList› (by assumption) (by assumption))
                                    · rw [if_neg c93] at H
                                      have c93b0 : decide ((Int.tmod (wrap64 (a1_1)) (wrap64 ((wrap64 (Int.tmod a1_0 64)) + 1))) ≤ x12_2) = false := decide_eq_false c93
                                      clear c93
                                      by_cases c99 : ((rdOf false t110 x12_2) != false) = true
                                      · rw [if_pos c99] at H
                                        have c99b0 : ((rdOf false t110 x12_2) != false) = true := c99
                                        (try (have c99b1 : decide ((rdOf false t110 x12_2) = false) = false := by simpa using c99))
                                        (try (have c99b2 : ((rdOf false t110 x12_2) == false) = false := by simpa using c99))
                                        (try (have c99b3 : ¬ ((rdOf false t110 x12_2) = false) := by simpa using c99))
                                        (try (have c99b4 : (rdOf false t110 x12_2) = true := neb_l (a := (rdOf false t110 x12_2)) (b := false) (v := false) (by first | exact c99 | simpa using c99) (by assumption)))
                                        (try (have c99b5 : (rdOf false t110 x12_2) = false := neb_l (a := (rdOf false t110 x12_2)) (b := false) (v := true) (by first | exact c99 | simpa using c99) (by assumption)))
                                        (try (have c99b6 : false = true := neb_r (a := (rdOf false t110 x12_2)) (b := false) (v := false) (by first | exact c99 | simpa using c99) (by assumption)))
                                        (try (have c99b7 : false = false := neb_r (a := (rdOf false t110 x12_2)) (b := false) (v := true) (by first | exact c99 | simpa using c99) (by assumption)))
                                        clear c99
                                        exact Bool.noConfusion ((Option.some.inj H).trans hr_.out)
                                      · rw [if_neg c99] at H
                                        have c99b0 : ((rdOf false t110 x12_2) != false) = false := by simpa using c99
                                        (try (have c99b1 : decide ((rdOf false t110 x12_2) = false) = true := by simpa using c99))
                                        (try (have c99b2 : ((rdOf false t110 x12_2) == false) = true := by simpa using c99))
                                        (try (have c99b3 : (rdOf false t110 x12_2) = true := eqb_l (a := (rdOf false t110 x12_2)) (b := false) (v := true) (by first | exact c99 | simpa using c99) (by assumption)))
                                        (try (have c99b4 : (rdOf false t110 x12_2) = false := eqb_l (a := (rdOf false t110 x12_2)) (b := false) (v := false) (by first | exact c99 | simpa using c99) (by assumption)))
                                        (try (have c99b5 : false = true := eqb_r (a := (rdOf false t110 x12_2)) (b := false) (v := true) (by first | exact c99 | simpa using c99) (by assumption)))
                                        (try (have c99b6 : false = false := eqb_r (a := (rdOf false t110 x12_2)) (b := false) (v := false) (by first | exact c99 | simpa using c99) (by assumption)))
                                        clear c99
                                        have H' := Aside0.mk H
                                        clear H
                                        have hnb102 := NB114_101.out
                                        have hnc102 := NB101_114.out
                                        have hcz103_0 : wr.cell? ⟨gb114, 0, none⟩ = some (.slice Ao21 t107.length co21) := (blk_cell BK114.out 0).trans rfl
                                        have hcz103_1 : wr.cell? ⟨gb114, 1, none⟩ = some (.slice Ao24 t110.length co24) := (blk_cell BK114.out 1).trans rfl
                                        have hfz103_0 := blk_frozen BK114.out 0
                                        have hfz103_1 := blk_frozen BK114.out 1
                                        have p115 : 0 ≤ (x12_2 : Int) := of_decide_eq_true (by first | (with_reducible assumption) | assumption)
                                        have q115 : x12_2 < (t107.length : Int) := of_decide_eq_true (by first | (with_reducible assumption) | assumption)
                                        obtain ⟨ad115, e115, hx115_0⟩ := Kd.at_string (Kd.V_reads' HO_115000.out).2.2 x12_2 p115 q115
                                        cases e115
                                        replace p115 := eq_true p115
                                        replace q115 := eq_true q115
                                        have p120 : 0 ≤ (x12_2 : Int) := of_decide_eq_true (by first | (with_reducible assumption) | assumption)
                                        have q120 : x12_2 < (t107.length : Int) := of_decide_eq_true (by first | (with_reducible assumption) | assumption)
                                        obtain ⟨ad120, e120, hx120_0⟩ := Kd.at_string (Kd.V_reads' HO_115000.out).2.2 x12_2 p120 q120
                                        obtain rfl : ad115 = ad120 := (by injection e120)
                                        replace p120 := eq_true p120
                                        replace q120 := eq_true q120
                                        have p121 : 0 ≤ (x12_2 : Int) := of_decide_eq_true (by first | (with_reducible assumption) | assumption)
                                        have q121 : x12_2 < (t110.length : Int) := of_decide_eq_true (by first | (with_reducible assumption) | assumption)
                                        obtain ⟨ad121, e121, hx121_0⟩ := Kd.at_bool (Kd.V_reads' HO_115001.out).2.2 x12_2 p121 q121
                                        cases e121
                                        replace p121 := eq_true p121
                                        replace q121 := eq_true q121
                                        go_wp2
                                        all_goals first | (go_roundg k2; (case measure => have := HJ10.out; have := HK2.out; omega); (case rel => exact ⟨(wrap64 (x12_2 + 1)), (by first | rfl | (simp; done) | (simp [*]; done) | (simp [isEmpty_bne]; done)), H', ⟨by have := HJ10.out; have := HK2.out; omega⟩, ⟨by (with_reducible repeat (first | apply Kd.V_alloc | apply Kd.V_drewN | apply Kd.V_drew)); exact HO_115000.out⟩, ⟨by (with_reducible repeat (first | apply Kd.V_alloc | apply Kd.V_drewN | apply Kd.V_drew)); exact HO_115001.out⟩, ⟨by (with_reducible repeat (first | refine blk_drewN ?_ _ | refine blk_drew ?_ | refine blk_alloc ?_ _)); exact BK101.out⟩, ⟨by (with_reducible repeat (first | refine blk_drewN ?_ _ | refine blk_drew ?_ | refine blk_alloc ?_ _)); exact BK114.out⟩, ⟨by repeat (first | (with_reducible first | exact HB.out | apply below_alloc | apply pw_below_drewN | apply below_drew1 | refine below_set ?_ GE101.out | refine below_set ?_ GE114.out) | exact HB.out)⟩⟩)) | (exfalso; first | exact bb_no1 ‹¬ (rdOf ByteArray.empty t107 x12_2).toList = t103.toList› (by assumption) (by assumption) | exact bb_no2 ‹(rdOf ByteArray.empty t107 x12_2).toList = t103.toList› (by assumption) (by assumption) | exact bb_no3 ‹(rdOf ByteArray.empty t107 x12_2).toList = t103.toList› (by assumption) (by assumption) | exact bb_no4 ‹¬ (rdOf ByteArray.empty t107 x12_2).toList = t103.toList› (by assumption) (by assumption))
                                  · rw [if_neg c92] at H
                                    exact absurd H (by simp)
                                · rw [if_neg c91] at H
                                  have c91b0 : decide (x12_2 < (wrap64 (Int.tmod a1_0 64))) = false := decide_eq_false c91
                                  clear c91
                                  have H' := Aside0.mk H
                                  clear H
                                  have hnb104 := NB114_101.out
                                  have hnc104 := NB101_114.out
                                  have hcz105_0 : wr.cell? ⟨gb114, 0, none⟩ = some (.slice Ao21 t107.length co21) := (blk_cell BK114.out 0).trans rfl
                                  have hcz105_1 : wr.cell? ⟨gb114, 1, none⟩ = some (.slice Ao24 t110.length co24) := (blk_cell BK114.out 1).trans rfl
                                  have hfz105_0 := blk_frozen BK114.out 0
                                  have hfz105_1 := blk_frozen BK114.out 1
                                  have p115 : 0 ≤ (x12_2 : Int) := of_decide_eq_true (by first | (with_reducible assumption) | assumption)
                                  have q115 : x12_2 < (t107.length : Int) := of_decide_eq_true (by first | (with_reducible assumption) | assumption)
                                  obtain ⟨ad115, e115, hx115_0⟩ := Kd.at_string (Kd.V_reads' HO_115000.out).2.2 x12_2 p115 q115
                                  cases e115
                                  replace p115 := eq_true p115
                                  replace q115 := eq_true q115
                                  have p120 : 0 ≤ (x12_2 : Int) := of_decide_eq_true (by first | (with_reducible assumption) | assumption)
                                  have q120 : x12_2 < (t107.length : Int) := of_decide_eq_true (by first | (with_reducible assumption) | assumption)
                                  obtain ⟨ad120, e120, hx120_0⟩ := Kd.at_string (Kd.V_reads' HO_115000.out).2.2 x12_2 p120 q120
                                  obtain rfl : ad115 = ad120 := (by injection e120)
                                  replace p120 := eq_true p120
                                  replace q120 := eq_true q120
                                  go_wp2
                                  all_goals first | (go_roundg k2; (case measure => have := HJ10.out; have := HK2.out; omega); (case rel => exact ⟨(wrap64 (x12_2 + 1)), (by first | rfl | (simp; done) | (simp [*]; done) | (simp [isEmpty_bne]; done)), H', ⟨by have := HJ10.out; have := HK2.out; omega⟩, ⟨by (with_reducible repeat (first | apply Kd.V_alloc | apply Kd.V_drewN | apply Kd.V_drew)); exact HO_115000.out⟩, ⟨by (with_reducible repeat (first | apply Kd.V_alloc | apply Kd.V_drewN | apply Kd.V_drew)); exact HO_115001.out⟩, ⟨by (with_reducible repeat (first | refine blk_drewN ?_ _ | refine blk_drew ?_ | refine blk_alloc ?_ _)); exact BK101.out⟩, ⟨by (with_reducible repeat (first | refine blk_drewN ?_ _ | refine blk_drew ?_ | refine blk_alloc ?_ _)); exact BK114.out⟩, ⟨by repeat (first | (with_reducible first | exact HB.out | apply below_alloc | apply pw_below_drewN | apply below_drew1 | refine below_set ?_ GE101.out | refine below_set ?_ GE114.out) | exact HB.out)⟩⟩)) | (exfalso; first | exact bb_no1 ‹¬ (rdOf ByteArray.empty t107 x12_2).toList = t103.toList› (by assumption) (by assumption) | exact bb_no2 ‹(rdOf ByteArray.empty t107 x12_2).toList = t103.toList› (by assumption) (by assumption) | exact bb_no3 ‹(rdOf ByteArray.empty t107 x12_2).toList = t103.toList› (by assumption) (by assumption) | exact bb_no4 ‹¬ (rdOf ByteArray.empty t107 x12_2).toList = t103.toList› (by assumption) (by assumption))
                              · rw [if_neg c90] at H
                                have c90b0 : ((rdOf ByteArray.empty t107 x12_2).toList == ([] : List UInt8)) = false := beq_eq_false_iff_ne.mpr c90
                                (try (have c90b0e : ((rdOf ByteArray.empty t107 x12_2).toList.isEmpty) = false := by simpa using c90b0))
                                have c90b1 : ((rdOf ByteArray.empty t107 x12_2).toList != ([] : List UInt8)) = true := bne_iff_ne.mpr c90
                                exact Bool.noConfusion ((Option.some.inj H).trans hr_.out)
                        · rw [if_neg c35] at H
                          exact absurd H (by simp)
                      · rw [if_neg c34] at H
                        exact absurd H (by simp)
                    · rw [if_neg c33] at H
                      have c33b0 : decide (x12_2 ≤ (wrap64 (Int.tmod a1_0 64))) = false := decide_eq_false c33
                      clear c33
                      obtain rfl := Option.some.inj H
                      go_wp2
                      go_ret
                      exact ⟨by first | rfl | (simp [errW_none, errW_some] <;> rfl) | (simp only [← hji4]; first | rfl | (simp [errW_none, errW_some] <;> rfl)) | (simp [*, errW_none, errW_some] <;> rfl), by repeat (first | (with_reducible first | exact HB.out | apply below_alloc | apply pw_below_drewN | apply below_drew1 | refine below_set ?_ GE101.out | refine below_set ?_ GE114.out) | exact HB.out)⟩
    · rw [if_neg c6] at H
      exact absurd H (by simp)
  · rw [if_neg c5] at H
    exact absurd H (by simp)
end Go.Proofs.YtkefbljogjcodaaDoor.F
end
section
namespace Go.Proofs.YtkefbljogjcodaaDoor.F
open Go.RowKit Go.Proofs.YtkefbljogjcodaaDoorW.PrintWords Go.Proofs.YtkefbljogjcodaaDoorW.PrintLast Go.Proofs.YtkefbljogjcodaaDoorW.PrintMore
attribute [local go_sem] max2_int min2_int max_two min_two max_three min_three max_four min_four cell_setCell_isSome
set_option linter.unusedVariables false
set_option linter.unusedSimpArgs false
theorem eqA26 (d : Nat) (w : World) (x0 y0 : Int) (x1 y1 : Int) (x2 y2 : ByteArray) :
    (Op.equalIn (d + 2) 26 (.agg #[.int .i64 x0, .int .i64 x1, .string x2]) (.agg #[.int .i64 y0, .int .i64 y1, .string y2])).run Tryd.prog w = .ok (x0 == y0 && (x1 == y1 && (x2.toList == y2.toList))) w := by
  refine eqA_of Tryd.underlying26 (by kernel_rfl) ?_
  refine eqf_cons (by rfl) (by go_simp; rfl) (by go_simp; rfl) (by go_simp) ?_
  refine eqf_cons (by rfl) (by go_simp; rfl) (by go_simp; rfl) (by go_simp) ?_
  exact eqf_last (by rfl) (by go_simp; rfl) (by go_simp; rfl) (by go_simp)
end Go.Proofs.YtkefbljogjcodaaDoor.F
end
section
namespace Go.Proofs.YtkefbljogjcodaaDoor.F
open Go.RowKit Go.Proofs.YtkefbljogjcodaaDoorW.PrintWords Go.Proofs.YtkefbljogjcodaaDoorW.PrintLast Go.Proofs.YtkefbljogjcodaaDoorW.PrintMore
set_option linter.unusedVariables false
set_option linter.unusedSimpArgs false
theorem valid_some {a0 : ByteArray} {b : Bool} (hs : a0.size ≤ 9223372036854775807) (h : Lib.validD a0.data.toList = b) : points_Valid.f a0 = some b := by
  unfold points_Valid.f utf8_ValidString.f
  rw [if_pos (by omega), h]
  rfl
end Go.Proofs.YtkefbljogjcodaaDoor.F
end
section
namespace Go.Proofs.YtkefbljogjcodaaDoor.F
open Go.RowKit Go.Proofs.YtkefbljogjcodaaDoorW.PrintWords Go.Proofs.YtkefbljogjcodaaDoorW.PrintLast Go.Proofs.YtkefbljogjcodaaDoorW.PrintMore
set_option linter.unusedVariables false
set_option linter.unusedSimpArgs false
section
variable {P : Program} {ops : Array Oper} {rest : List Oper} {o : Oper} {a : Act} {Q : Exit → Act → World → Prop} {W : World}
def ConvCalls (P : Program) (src dst : TypeId) (v : Value) (w : World) (post : Ending → World → Prop) : Prop := ∃ u w', (convert src dst v).run P w = .ok u w' ∧ post (.returned u) w'
theorem ConvCalls.mono {src dst : TypeId} {v : Value} {w : World} {p q : Ending → World → Prop} (h : ConvCalls P src dst v w p) (hpq : ∀ e w', p e w' → q e w') : ConvCalls P src dst v w q := by
  obtain ⟨u, w', h1, h2⟩ := h
  exact ⟨u, w', h1, hpq _ _ h2⟩
end
end Go.Proofs.YtkefbljogjcodaaDoor.F
end
