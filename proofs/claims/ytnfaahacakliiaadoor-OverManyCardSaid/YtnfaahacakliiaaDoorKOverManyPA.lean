import Derived.Test.YtnfaahacakliiaaDoorKOverManyA
import Derived.Test.YtnfaahacakliiaaDoorKOPA
import Derived.Below
import Derived.Deep.Draws
import Derived.Deep.AppendLies
import Derived.Maps.AppendAt
import Derived.OwnWalk
import Derived.Laws.BytesArg
import Derived.Laws.MakeOwn
import Derived.Laws.OwnMore
import Derived.Deep.OwnRows
import Derived.Tactics
import Derived.Lib.ConvBytes
import Derived.Laws.Slices
import Derived.WalkKit
import Derived.KernelRfl
import Derived.RowKit3
import Derived.Deep.LoopGhost
import Derived.Deep.QuietTactic
import Derived.BigQuiet
import Derived.WideLaws
import Derived.Deep.DeepCutAuto
import Derived.Deep.CutBlock
import Derived.Deep.RegionHeld3
import Derived.Laws.Rows
import Derived.Lib.AppendStr
import Derived.ArgAppend
import Derived.Laws.IdiomCopy
import Derived.RowKit
import Derived.OrdersHeld
import Derived.Laws.BitsLemmas
import Derived.Laws.StructEq
import Derived.Test.YtnfaahacakliiaaDoorProg
import Derived.Handy
import Derived.Shelf.Unicode.DecodeSlow
import Derived.Ground.NamesProg
import Derived.Shelf.Unicode.ValidAny
import Derived.Laws.RangeString
import Derived.Laws.RangeAny
import Derived.Lib.RuneCount
import Derived.Laws.IdiomStrings
import Derived.Laws.Cover4
import Derived.Great.BuildSlice
import Derived.Defers
import Derived.ProofKit
import Derived.OpenShut
import Derived.ShutString
import Derived.ChangeOld
import Derived.SizedLaws
import Derived.Lib.ValidLaws
import Derived.Test.YtnfaahacakliiaaDoorRows
import Derived.Lib.LaidU8T
import Derived.Lib.LaidIn
import Derived.LaidLaws
import Derived.Test.YtnfaahacakliiaaDoorTie
import Derived.Test.YtnfaahacakliiaaDoorCards
import Derived.Carry
import Derived.ChangeSame
import Derived.ChangeVars
import Derived.JoinedOf
import Derived.SevenTiedAt
section
namespace Go.Proofs.YtnfaahacakliiaaDoor.F
open Go.RowKit Go.Proofs.YtnfaahacakliiaaDoorW.PrintWords Go.Proofs.YtnfaahacakliiaaDoorW.PrintLast Go.Proofs.YtnfaahacakliiaaDoorW.PrintMore
attribute [local go_sem] max2_int min2_int max_two min_two max_three min_three max_four min_four cell_setCell_isSome
set_option linter.unusedVariables false
set_option linter.unusedSimpArgs false
def epitomelaw11_OverMany.Pure : Prop := ∀ (l0 : List (S32)) (l1 : List (List (S32))) (a2 : Int), (l0.length ≤ maxLen ∧ ∀ x_ ∈ l0, V32 x_) → (l1.length ≤ maxLen ∧ ∀ x_ ∈ l1, (x_.length ≤ maxLen ∧ ∀ x_x_ ∈ x_, V32 x_x_)) → (Lit.int .u8 a2).wf = true → ∃ k, epitomelaw11_OverMany.f k l0 l1 a2 = some true
end Go.Proofs.YtnfaahacakliiaaDoor.F
end
section
namespace Go.Proofs.YtnfaahacakliiaaDoor.F
open Go.RowKit Go.Proofs.YtnfaahacakliiaaDoorW.PrintWords Go.Proofs.YtnfaahacakliiaaDoorW.PrintLast Go.Proofs.YtnfaahacakliiaaDoorW.PrintMore
set_option linter.unusedVariables false
set_option linter.unusedSimpArgs false
def sizeD (r : Int) : Int := if r < 0 ∨ r > 1114111 ∨ (55296 ≤ r ∧ r ≤ 57343) then 0 else if r < 128 then 1 else if r < 2048 then 2 else if r < 65536 then 3 else 4
theorem sizeAny_is (r : Int) : Ev (fun k => epitomeref01_size.f k r) (sizeD r) := by
  have hj : ∀ b, (b = true ↔ (r < 0 ∨ r > 1114111 ∨ (55296 ≤ r ∧ r ≤ 57343))) → Ev (fun k => epitomeref01_size.j0 k r b) (sizeD r) := by
    intro b hb
    refine Ev.step (f := fun _ => some (sizeD r)) (fun k => ?_) (Ev.now _)
    rw [epitomeref01_size.j0]
    unfold sizeD
    cases b
    · have h : ¬ (r < 0 ∨ r > 1114111 ∨ (55296 ≤ r ∧ r ≤ 57343)) := fun e => by have := hb.2 e; cases this
      rw [if_neg (by simp), if_neg h]
      split
      · rfl
      · split
        · rfl
        · split <;> rfl
    · have h := hb.1 rfl
      rw [if_pos rfl, if_pos h]
  unfold epitomeref01_size.f
  by_cases h1 : r < 0
  · exact ev_if_pos h1 (hj true (by simp [h1]))
  · refine ev_if_neg h1 ?_
    by_cases h2 : r > 1114111
    · exact ev_if_pos h2 (hj true (by simp [h2]))
    · refine ev_if_neg h2 ?_
      by_cases h3 : r ≥ 55296
      · refine ev_if_pos h3 (hj _ ?_)
        simp
        omega
      · refine ev_if_neg h3 (hj false ?_)
        simp
        omega
def bN (s : ByteArray) (i : Nat) : Nat := (s.data.toList.getD i 0).toNat
theorem bN_lt (s : ByteArray) (i : Nat) : bN s i < 256 := by unfold bN; exact UInt8.toNat_lt _
theorem bt_bN (s : ByteArray) (i : Nat) : bt s (i : Int) = (bN s i : Int) := by
  rw [← rd_bytesOf]
  unfold rd bytesOf bN
  rw [Int.toNat_natCast, List.getD_eq_getElem?_getD, List.getD_eq_getElem?_getD, List.getElem?_map]
  cases s.data.toList[i]? <;> simp
theorem decode_bN (s : ByteArray) : Lib.decodeL s.data.toList = Lib.decodeN s.size (bN s 0) (bN s 1) (bN s 2) (bN s 3) := by
  rw [Lib.decodeL_N, data_length]
  rfl
def firstD (s : ByteArray) : Int × Int := if s.size = 0 then (0, 0) else if Lib.decodeL s.data.toList = (65533, 1) then (0, 0) else (((Lib.decodeL s.data.toList).1 : Nat), ((Lib.decodeL s.data.toList).2 : Nat))
theorem first_out (s : ByteArray) (m i : Nat) (r : Int) (hi : i ≤ m) (hs : i < s.size) (hm : m ≤ 10) (hb : bN s i / 64 ≠ 2) : Ev (fun k => epitomeref01_first.l0 k s (m : Int) r (i : Int)) (0, 0) := by
  have hl := bN_lt s i
  refine Ev.step (f := fun _ => some (0, 0)) (fun k => ?_) (Ev.now _)
  rw [epitomeref01_first.l0, if_pos (by omega), if_pos (by omega), if_pos (by omega), bt_bN, w64 (by omega) (by omega)]
  by_cases h : (bN s i : Int) < 128
  · rw [if_pos h]
  · rw [if_neg h, if_pos (by omega)]
theorem first_in (s : ByteArray) (m i : Nat) (r : Nat) (v : Int × Int) (hi : i ≤ m) (hs : i < s.size) (hm : m ≤ 10) (hr : r ≤ 1000000) (hb : bN s i / 64 = 2) (h : Ev (fun k => epitomeref01_first.l0 k s (m : Int) ((r * 64 + bN s i % 64 : Nat) : Int) ((i + 1 : Nat) : Int)) v) :
    Ev (fun k => epitomeref01_first.l0 k s (m : Int) (r : Int) (i : Int)) v := by
  have hl := bN_lt s i
  refine Ev.step (fun k => ?_) h
  have e : wrap64 (wrap64 (wrap64 ((r : Int) * 64) + (bN s i : Int)) - 128) = ((r * 64 + bN s i % 64 : Nat) : Int) := by
    rw [w64 (x := (r : Int) * 64) (by omega) (by omega), w64 (x := (r : Int) * 64 + _) (by omega) (by omega), w64 (by omega) (by omega)]
    omega
  rw [epitomeref01_first.l0, if_pos (by omega), if_pos (by omega), if_pos (by omega), bt_bN, w64 (x := (bN s i : Int)) (by omega) (by omega), if_neg (by omega), if_neg (by omega), e, w64_succ _ (by omega)]
theorem first_end (s : ByteArray) (m : Nat) (r : Int) (hm : m ≤ 10) : Ev (fun k => epitomeref01_first.l0 k s (m : Int) r ((m + 1 : Nat) : Int)) (if sizeD r = ((m + 1 : Nat) : Int) then (r, ((m + 1 : Nat) : Int)) else (0, 0)) := by
  refine Ev.step (f := fun k => _) (fun k => by rw [epitomeref01_first.l0, if_neg (by omega), w64_succ _ (by omega)]) ?_
  refine Ev.bind (sizeAny_is r) ?_
  by_cases h : sizeD r = ((m + 1 : Nat) : Int)
  · simp only [if_pos h]; exact Ev.now _
  · simp only [if_neg h]; exact Ev.now _
theorem first_j3 (s : ByteArray) (m r : Nat) (hm : m ≤ 10) (v : Int × Int) (h1 : s.size < m + 1 → v = (0, 0)) (h2 : m + 1 ≤ s.size → Ev (fun k => epitomeref01_first.l0 k s (m : Int) (r : Int) 1) v) : Ev (fun k => epitomeref01_first.j3 k s (m : Int) (r : Int)) v := by
  by_cases h : s.size < m + 1
  · refine Ev.step (f := fun _ => some v) (fun k => ?_) (Ev.now _)
    rw [epitomeref01_first.j3, w64_succ _ (by omega), if_pos (by omega), h1 h]
  · refine Ev.step (fun k => ?_) (h2 (by omega))
    rw [epitomeref01_first.j3, w64_succ _ (by omega), if_neg (by omega)]
theorem first_is (s : ByteArray) : Ev (fun k => epitomeref01_first.f k s) (firstD s) := by
  unfold epitomeref01_first.f firstD
  by_cases h0 : s.size = 0
  · rw [if_pos h0]
    exact ev_if_pos (by omega) (Ev.now _)
  rw [if_neg h0]
  refine ev_if_neg (by omega) (ev_if_pos (by omega) ?_)
  have b0 := bN_lt s 0
  have e0 : wrap64 (bt s 0) = (bN s 0 : Int) := by
    have := bt_bN s 0
    rw [show ((0 : Nat) : Int) = 0 from rfl] at this
    rw [this, w64 (by omega) (by omega)]
  rw [e0, decode_bN]
  generalize hd : Lib.decodeN s.size (bN s 0) (bN s 1) (bN s 2) (bN s 3) = d
  generalize hv : (if d = (65533, 1) then ((0 : Int), (0 : Int)) else ((d.1 : Int), (d.2 : Int))) = v
  have err : d = (65533, 1) → v = (0, 0) := fun e => by rw [← hv, if_pos e]
  have good : ∀ a b : Nat, d = (a, b) → b ≠ 1 ∨ a < 128 → v = ((a : Int), (b : Int)) := fun a b e hn => by
    rw [← hv, if_neg, e]
    rw [e]
    rintro h
    injection h with h1 h2
    omega
  unfold Lib.decodeN at hd
  -- the four ways
  have j2f : bN s 0 < 192 → Ev (fun k => epitomeref01_first.j2 k s (bN s 0 : Int) 0 (bN s 0 : Int) false) v := by
    intro h
    by_cases h1 : bN s 0 < 128
    · rw [if_pos h1] at hd
      refine Ev.step (f := fun k => epitomeref01_first.j3 k s 0 (bN s 0 : Int)) (fun k => ?_) ?_
      · rw [epitomeref01_first.j2, if_neg (by simp), if_neg (by omega)]
      · refine first_j3 s 0 _ (by omega) v (by omega) (fun _ => ?_)
        have := first_end s 0 (bN s 0 : Int) (by omega)
        rw [if_pos (by unfold sizeD; rw [if_neg (by omega), if_pos (by omega)]; rfl)] at this
        rw [good _ _ hd.symm (.inr h1)]
        exact this
    · rw [if_neg h1, if_neg (by omega), if_neg (by omega), if_neg (by omega)] at hd
      refine Ev.step (f := fun _ => some (0, 0)) (fun k => ?_) (by rw [err hd.symm]; exact Ev.now _)
      rw [epitomeref01_first.j2, if_neg (by simp), if_pos (by omega)]
  have j2t : 192 ≤ bN s 0 → bN s 0 < 224 → Ev (fun k => epitomeref01_first.j2 k s (bN s 0 : Int) 0 (bN s 0 : Int) true) v := by
    intro h h1
    rw [if_neg (by omega)] at hd
    refine Ev.step (f := fun k => epitomeref01_first.j3 k s 1 ((bN s 0 - 192 : Nat) : Int)) (fun k => ?_) ?_
    · rw [epitomeref01_first.j2, if_pos rfl, w64 (by omega) (by omega), Int.ofNat_sub h]
      rfl
    · refine first_j3 s 1 _ (by omega) v (fun hs => ?_) (fun hs => ?_)
      · rw [if_neg (by omega), if_neg (by omega), if_neg (by omega)] at hd
        exact err hd.symm
      · by_cases c1 : bN s 1 / 64 = 2
        · rw [if_pos ⟨by omega, by omega, c1⟩] at hd
          refine first_in s 1 1 _ v (by omega) (by omega) (by omega) (by omega) c1 ?_
          have := first_end s 1 (((bN s 0 - 192) * 64 + bN s 1 % 64 : Nat) : Int) (by omega)
          have e : bN s 0 % 32 * 64 + bN s 1 % 64 = (bN s 0 - 192) * 64 + bN s 1 % 64 := by omega
          rw [e] at hd
          generalize (bN s 0 - 192) * 64 + bN s 1 % 64 = r at *
          by_cases c2 : r ≥ 128
          · rw [if_pos c2] at hd
            rw [if_pos (by unfold sizeD; rw [if_neg (by omega), if_neg (by omega), if_pos (by omega)]; rfl)] at this
            rw [good _ _ hd.symm (.inl (by omega))]
            exact this
          · rw [if_neg c2] at hd
            rw [if_neg (by unfold sizeD; rw [if_neg (by omega), if_pos (by omega)]; decide)] at this
            rw [err hd.symm]
            exact this
        · rw [if_neg (fun e => c1 e.2.2), if_neg (by omega), if_neg (by omega)] at hd
          rw [err hd.symm]
          exact first_out s 1 1 _ (by omega) (by omega) (by omega) c1
  have j1t : 224 ≤ bN s 0 → bN s 0 < 240 → Ev (fun k => epitomeref01_first.j1 k s (bN s 0 : Int) 0 (bN s 0 : Int) true) v := by
    intro h h1
    rw [if_neg (by omega), if_neg (by omega)] at hd
    refine Ev.step (f := fun k => epitomeref01_first.j3 k s 2 ((bN s 0 - 224 : Nat) : Int)) (fun k => ?_) ?_
    · rw [epitomeref01_first.j1, if_pos rfl, w64 (by omega) (by omega), Int.ofNat_sub h]
      rfl
    · refine first_j3 s 2 _ (by omega) v (fun hs => ?_) (fun hs => ?_)
      · rw [if_neg (by omega), if_neg (by omega)] at hd
        exact err hd.symm
      · by_cases c1 : bN s 1 / 64 = 2
        · refine first_in s 2 1 _ v (by omega) (by omega) (by omega) (by omega) c1 ?_
          by_cases c2 : bN s 2 / 64 = 2
          · rw [if_pos ⟨by omega, ⟨by omega, c1⟩, by omega, c2⟩] at hd
            refine first_in s 2 2 _ v (by omega) (by omega) (by omega) (by omega) c2 ?_
            have := first_end s 2 ((((bN s 0 - 224) * 64 + bN s 1 % 64) * 64 + bN s 2 % 64 : Nat) : Int) (by omega)
            have e : bN s 0 % 16 * 4096 + bN s 1 % 64 * 64 + bN s 2 % 64 = ((bN s 0 - 224) * 64 + bN s 1 % 64) * 64 + bN s 2 % 64 := by omega
            rw [e] at hd
            generalize ((bN s 0 - 224) * 64 + bN s 1 % 64) * 64 + bN s 2 % 64 = r at *
            have hr : r < 65536 := by omega
            by_cases c3 : r ≥ 2048 ∧ (r < 55296 ∨ (57344 ≤ r ∧ r ≤ 1114111))
            · rw [if_pos c3] at hd
              rw [if_pos (by unfold sizeD; rw [if_neg (by omega), if_neg (by omega), if_neg (by omega), if_pos (by omega)]; rfl)] at this
              rw [good _ _ hd.symm (.inl (by omega))]
              exact this
            · rw [if_neg c3] at hd
              rw [if_neg (by unfold sizeD; split <;> (try split) <;> (try split) <;> (try split) <;> omega)] at this
              rw [err hd.symm]
              exact this
          · rw [if_neg (fun e => c2 e.2.2.2), if_neg (by omega)] at hd
            rw [err hd.symm]
            exact first_out s 2 2 _ (by omega) (by omega) (by omega) c2
        · rw [if_neg (fun e => c1 e.2.1.2), if_neg (by omega)] at hd
          rw [err hd.symm]
          exact first_out s 2 1 _ (by omega) (by omega) (by omega) c1
  have j0t : 240 ≤ bN s 0 → bN s 0 < 248 → Ev (fun k => epitomeref01_first.j0 k s (bN s 0 : Int) 0 (bN s 0 : Int) true) v := by
    intro h h1
    rw [if_neg (by omega), if_neg (by omega), if_neg (by omega)] at hd
    refine Ev.step (f := fun k => epitomeref01_first.j3 k s 3 ((bN s 0 - 240 : Nat) : Int)) (fun k => ?_) ?_
    · rw [epitomeref01_first.j0, if_pos rfl, w64 (by omega) (by omega), Int.ofNat_sub h]
      rfl
    · refine first_j3 s 3 _ (by omega) v (fun hs => ?_) (fun hs => ?_)
      · rw [if_neg (by omega)] at hd
        exact err hd.symm
      · by_cases c1 : bN s 1 / 64 = 2
        · refine first_in s 3 1 _ v (by omega) (by omega) (by omega) (by omega) c1 ?_
          by_cases c2 : bN s 2 / 64 = 2
          · refine first_in s 3 2 _ v (by omega) (by omega) (by omega) (by omega) c2 ?_
            by_cases c4 : bN s 3 / 64 = 2
            · rw [if_pos ⟨by omega, ⟨by omega, c1⟩, ⟨by omega, c2⟩, by omega, c4⟩] at hd
              refine first_in s 3 3 _ v (by omega) (by omega) (by omega) (by omega) c4 ?_
              have := first_end s 3 (((((bN s 0 - 240) * 64 + bN s 1 % 64) * 64 + bN s 2 % 64) * 64 + bN s 3 % 64 : Nat) : Int) (by omega)
              have e : bN s 0 % 8 * 262144 + bN s 1 % 64 * 4096 + bN s 2 % 64 * 64 + bN s 3 % 64 = (((bN s 0 - 240) * 64 + bN s 1 % 64) * 64 + bN s 2 % 64) * 64 + bN s 3 % 64 := by omega
              rw [e] at hd
              generalize (((bN s 0 - 240) * 64 + bN s 1 % 64) * 64 + bN s 2 % 64) * 64 + bN s 3 % 64 = r at *
              by_cases c3 : r ≥ 65536 ∧ (r < 55296 ∨ (57344 ≤ r ∧ r ≤ 1114111))
              · rw [if_pos c3] at hd
                rw [if_pos (by unfold sizeD; rw [if_neg (by omega), if_neg (by omega), if_neg (by omega), if_neg (by omega)]; rfl)] at this
                rw [good _ _ hd.symm (.inl (by omega))]
                exact this
              · rw [if_neg c3] at hd
                rw [if_neg (by unfold sizeD; split <;> (try split) <;> (try split) <;> (try split) <;> omega)] at this
                rw [err hd.symm]
                exact this
            · rw [if_neg (fun e => c4 e.2.2.2.2)] at hd
              rw [err hd.symm]
              exact first_out s 3 3 _ (by omega) (by omega) (by omega) c4
          · rw [if_neg (fun e => c2 e.2.2.1.2)] at hd
            rw [err hd.symm]
            exact first_out s 3 2 _ (by omega) (by omega) (by omega) c2
        · rw [if_neg (fun e => c1 e.2.1.2)] at hd
          rw [err hd.symm]
          exact first_out s 3 1 _ (by omega) (by omega) (by omega) c1
  have j2 : bN s 0 < 224 ∨ 248 ≤ bN s 0 → Ev (fun k => epitomeref01_first.j1 k s (bN s 0 : Int) 0 (bN s 0 : Int) false) v := by
    intro h
    by_cases h1 : 192 ≤ bN s 0
    · refine Ev.step (f := fun k => epitomeref01_first.j2 k s (bN s 0 : Int) 0 (bN s 0 : Int) (decide ((bN s 0 : Int) < 224))) (fun k => by rw [epitomeref01_first.j1, if_neg (by simp), if_pos (by omega)]) ?_
      by_cases h2 : bN s 0 < 224
      · rw [decide_eq_true (by omega)]
        exact j2t h1 h2
      · rw [decide_eq_false (by omega)]
        rw [if_neg (by omega), if_neg (by omega), if_neg (by omega), if_neg (by omega)] at hd
        refine Ev.step (f := fun _ => some (0, 0)) (fun k => ?_) (by rw [err hd.symm]; exact Ev.now _)
        rw [epitomeref01_first.j2, if_neg (by simp), if_pos (by omega)]
    · exact Ev.step (fun k => by rw [epitomeref01_first.j1, if_neg (by simp), if_neg (by omega)]) (j2f (by omega))
  have j1 : bN s 0 < 240 ∨ 248 ≤ bN s 0 → Ev (fun k => epitomeref01_first.j0 k s (bN s 0 : Int) 0 (bN s 0 : Int) false) v := by
    intro h
    by_cases h1 : 224 ≤ bN s 0
    · refine Ev.step (f := fun k => epitomeref01_first.j1 k s (bN s 0 : Int) 0 (bN s 0 : Int) (decide ((bN s 0 : Int) < 240))) (fun k => by rw [epitomeref01_first.j0, if_neg (by simp), if_pos (by omega)]) ?_
      by_cases h2 : bN s 0 < 240
      · rw [decide_eq_true (by omega)]
        exact j1t h1 h2
      · rw [decide_eq_false (by omega)]
        exact j2 (by omega)
    · exact Ev.step (fun k => by rw [epitomeref01_first.j0, if_neg (by simp), if_neg (by omega)]) (j2 (by omega))
  by_cases h1 : 240 ≤ bN s 0
  · refine ev_if_pos (by omega) ?_
    by_cases h2 : bN s 0 < 248
    · rw [decide_eq_true (by omega)]
      exact j0t h1 h2
    · rw [decide_eq_false (by omega)]
      exact j1 (by omega)
  · exact ev_if_neg (by omega) (j1 (by omega))
end Go.Proofs.YtnfaahacakliiaaDoor.F
end
section
namespace Go.Proofs.YtnfaahacakliiaaDoor.F
open Go.RowKit Go.Proofs.YtnfaahacakliiaaDoorW.PrintWords Go.Proofs.YtnfaahacakliiaaDoorW.PrintLast Go.Proofs.YtnfaahacakliiaaDoorW.PrintMore
set_option linter.unusedVariables false
set_option linter.unusedSimpArgs false
theorem tail_list (s : ByteArray) (i : Nat) : (s.extract i s.size).data.toList = s.data.toList.drop i := by
  rw [ByteArray.data_extract, Array.toList_extract, List.extract_eq_take_drop]
  rw [List.take_of_length_le]
  rw [List.length_drop, data_length]
  exact Nat.le_refl _
theorem tail_size (s : ByteArray) (i : Nat) : (s.extract i s.size).size = s.size - i := by
  rw [← data_length, tail_list, List.length_drop, data_length]
def offs (l : List Int) : List Int := (List.range (l.length + 1)).map (fun i => ((encT (l.take i)).size : Int))
theorem offs_length (l : List Int) : (offs l).length = l.length + 1 := by simp [offs]
theorem offs_snoc (l : List Int) (r : Int) : offs (l ++ [r]) = offs l ++ [((encT (l ++ [r])).size : Int)] := by
  unfold offs
  rw [show (l ++ [r]).length + 1 = (l.length + 1) + 1 by simp, List.range_succ, List.map_append]
  congr 1
  · refine List.map_congr_left (fun i hi => ?_)
    have := List.mem_range.1 hi
    rw [List.take_append_of_le_length (by omega)]
  · rw [List.map_cons, List.map_nil, List.take_of_length_le (by simp)]
theorem starts_loop (l : List Int) (hl : Runes l) (hb : l.length ≤ 1099511627776) : ∀ (r pre : List Int), l = pre ++ r →
    Ev (fun k => epitomeref01_Starts.l0 k (encT l) (offs pre) ((encT pre).size : Int)) (offs l, true)
  | [], pre, h => by
    rw [List.append_nil] at h
    subst h
    refine Ev.step (f := fun _ => some (offs l, true)) (fun k => ?_) (Ev.now _)
    rw [epitomeref01_Starts.l0, if_neg (by omega)]
  | t :: r, pre, h => by
    have hbig := big_enc hb
    have hlt := encT_lt pre t r
    rw [← h] at hlt
    have hr : isRune t := hl t (by rw [h]; simp)
    have ih := starts_loop l hl hb r (pre ++ [t]) (by simp [h])
    rw [offs_snoc] at ih
    have hsn := encT_snoc_size pre t
    have e1 := enc1_length t
    have hll : pre.length + (r.length + 1) = l.length := by rw [h]; simp
    have hd : Lib.decodeL ((encT l).extract (encT pre).size (encT l).size).data.toList = (t.toNat, (enc1 t).length) := by
      rw [tail_list, Lib.decodeL_drop, h]
      exact decode_at_enc pre t r hr
    have hf : firstD ((encT l).extract (encT pre).size (encT l).size) = (t, ((enc1 t).length : Int)) := by
      unfold firstD
      rw [tail_size, if_neg (by omega), hd, if_neg]
      · have : ((t.toNat : Nat) : Int) = t := by unfold isRune at hr; omega
        rw [this]
      · intro e
        injection e with e1 e2
        have ht : t = 65533 := by unfold isRune at hr; omega
        subst ht
        simp [enc1] at e2
    refine Ev.step (f := fun k => _) (fun k => by rw [epitomeref01_Starts.l0, if_pos (by omega), if_pos (by omega), if_pos (by omega), Int.toNat_natCast]) ?_
    have hF := first_is ((encT l).extract (encT pre).size (encT l).size)
    rw [hf] at hF
    refine Ev.bind hF ?_
    refine ev_if_neg (show ¬ (((enc1 t).length : Int) = 0) by omega) (ev_if_pos (by rw [offs_length]; omega) ?_)
    rw [show wrap64 (((encT pre).size : Int) + ((enc1 t).length : Int)) = ((encT (pre ++ [t])).size : Int) by rw [w64 (by omega) (by omega)]; omega]
    exact ih
theorem starts_enc (l : List Int) (hl : Runes l) (hb : l.length ≤ 1099511627776) : Ev (fun k => epitomeref01_Starts.f k (encT l)) (offs l, true) := by
  unfold epitomeref01_Starts.f
  exact starts_loop l hl hb l [] rfl
theorem refCount_enc (l : List Int) (hl : Runes l) (hb : l.length ≤ 1099511627776) : Ev (fun k => epitomeref01_Count.f k (encT l)) (l.length : Int) := by
  unfold epitomeref01_Count.f
  refine Ev.bind (starts_enc l hl hb) ?_
  rw [offs_length, w64 (by omega) (by omega), show (((l.length + 1 : Nat) : Int) - 1) = (l.length : Int) by omega]
  exact Ev.now _
end Go.Proofs.YtnfaahacakliiaaDoor.F
end
section
namespace Go.Proofs.YtnfaahacakliiaaDoor.F
open Go.RowKit Go.Proofs.YtnfaahacakliiaaDoorW.PrintWords Go.Proofs.YtnfaahacakliiaaDoorW.PrintLast Go.Proofs.YtnfaahacakliiaaDoorW.PrintMore
set_option linter.unusedVariables false
set_option linter.unusedSimpArgs false
theorem refSpanOut_is (u : Un) (h : u.ok) (h2 : u.cout ≤ 1099511627776) : Ev (fun k => epitomeref03_Out.f k u.sp.f0 u.sp.f1 u.sp.f2) (u.cout : Int) := by
  unfold epitomeref03_Out.f
  cases u with
  | keep n => exact Ev.now _
  | put l =>
    refine ev_if_neg (by simp [Un.sp]) (ev_if_pos rfl (Ev.bind (refCount_enc l h h2) ?_))
    rw [show mx (l.length : Int) 0 = (l.length : Int) by unfold mx; rw [if_neg (by omega)]]
    exact Ev.now _
  | drop n => exact Ev.now _
theorem refOut_loop (l : List Un) (hl : Ok l) : ∀ (r pre : List Un), l = pre ++ r →
    Ev (fun k => epitomeref04_Out.l0 k (l.map Un.sp) (((pre.map Un.cout).sum : Nat) : Int) (pre.length : Int)) (((l.map Un.cout).sum : Nat) : Int)
  | [], pre, h => by
    rw [List.append_nil] at h
    subst h
    refine Ev.step (f := fun _ => some (((l.map Un.cout).sum : Nat) : Int)) (fun k => ?_) (Ev.now _)
    rw [epitomeref04_Out.l0, if_neg (by simp)]
  | u :: r, pre, h => by
    have hlt : (pre.length : Int) < ((l.map Un.sp).length : Int) := by subst h; simp <;> omega
    have hll : pre.length + (r.length + 1) = l.length := by subst h; simp
    have hle := hl.len
    have hco := hl.cout
    have hrd : rd_T32 (l.map Un.sp) (pre.length : Int) = u.sp := by
      rw [h, List.map_append, List.map_cons]
      exact rdS_at (by simp)
    have ih := refOut_loop l hl r (pre ++ [u]) (by simp [h])
    have hs : ((pre ++ [u]).map Un.cout).sum = (pre.map Un.cout).sum + u.cout := by simp
    have hle2 : (pre.map Un.cout).sum + u.cout ≤ (l.map Un.cout).sum := by rw [h]; simp <;> omega
    rw [hs, List.length_append] at ih
    refine Ev.step (f := fun k => (epitomeref03_Out.f k u.sp.f0 u.sp.f1 u.sp.f2).bind fun t => epitomeref04_Out.l0 k (l.map Un.sp) (wrap64 ((((pre.map Un.cout).sum : Nat) : Int) + t)) (wrap64 ((pre.length : Int) + 1))) (fun k => ?_) ?_
    · rw [epitomeref04_Out.l0, if_pos hlt, if_pos (by omega), hrd]
    · refine Ev.bind (refSpanOut_is u (hl.ok u (by rw [h]; simp)) (hl.cout_mem (by rw [h]; simp))) ?_
      rw [w64 (by omega) (by omega), w64_succ _ (by omega)]
      exact ih
theorem refOut_is {us : List Un} (h : Ok us) : Ev (fun k => epitomeref04_Out.f k (us.map Un.sp)) (((us.map Un.cout).sum : Nat) : Int) := by
  unfold epitomeref04_Out.f
  exact refOut_loop us h us [] rfl
end Go.Proofs.YtnfaahacakliiaaDoor.F
end
section
namespace Go.Proofs.YtnfaahacakliiaaDoor.F
open Go.RowKit Go.Proofs.YtnfaahacakliiaaDoorW.PrintWords Go.Proofs.YtnfaahacakliiaaDoorW.PrintLast Go.Proofs.YtnfaahacakliiaaDoorW.PrintMore
set_option linter.unusedVariables false
set_option linter.unusedSimpArgs false
def ChainOk : Nat → List (List Un) → Prop
  | _, [] => True
  | n, us :: r => FitB us n ∧ ChainOk ((us.map Un.cout).sum) r
def rowsS (w : List (List Un)) : List (List Sp) := w.map (fun us => us.map Un.sp)
theorem chain_loop (l : List (List Sp)) (hl : l.length ≤ maxLen) (hw : ∀ y ∈ l, y.length ≤ maxLen ∧ ∀ x ∈ y, (Lit.int .i64 x.f0).wf = true ∧ (Lit.int .i64 x.f1).wf = true ∧ x.f2.size ≤ maxLen) :
    ∀ (d i n : Nat) (out : List (List Un)), out.length = i → i + d = min l.length 20 → n ≤ 63 + 78 * i → ∃ w, Ev (fun k => epitomeref04_Chain.l0 k l (n : Int) (rowsS out) (i : Int)) (rowsS (out ++ w)) ∧ ChainOk n w ∧ w.length = d
  | 0, i, n, out, ho, hi, hn => by
    refine ⟨[], ?_, trivial, rfl⟩
    rw [List.append_nil]
    have j1 : Ev (fun k => epitomeref04_Chain.j1 k l (n : Int) (rowsS out) (i : Int) false) (rowsS out) :=
      Ev.step (f := fun _ => some (rowsS out)) (fun k => by rw [epitomeref04_Chain.j1, if_neg (by simp)]) (Ev.now _)
    by_cases h : i < l.length
    · refine Ev.step (f := fun k => epitomeref04_Chain.j1 k l (n : Int) (rowsS out) (i : Int) false) (fun k => ?_) j1
      rw [epitomeref04_Chain.l0, if_pos (by omega), decide_eq_false (by omega)]
    · refine Ev.step (f := fun k => epitomeref04_Chain.j1 k l (n : Int) (rowsS out) (i : Int) false) (fun k => ?_) j1
      rw [epitomeref04_Chain.l0, if_neg (by omega)]
  | d + 1, i, n, out, ho, hi, hn => by
    have hil : i < l.length := by omega
    have hi20 : i < 20 := by omega
    have hy := hw l[i] (List.getElem_mem _)
    obtain ⟨us, ef, fu⟩ := fitB l[i] hy.1 hy.2 n (by omega)
    have hco := fu.cout
    obtain ⟨w, ew, hcw, hlw⟩ := chain_loop l hl hw d (i + 1) ((us.map Un.cout).sum) (out ++ [us]) (by simp [ho]) (by omega) (by omega)
    refine ⟨us :: w, ?_, ⟨fu, hcw⟩, by simp [hlw]⟩
    have hol : (rowsS out).length = i := by unfold rowsS; rw [List.length_map, ho]
    refine Ev.step (f := fun k => epitomeref04_Chain.j1 k l (n : Int) (rowsS out) (i : Int) true) (fun k => by rw [epitomeref04_Chain.l0, if_pos (by omega), decide_eq_true (by omega)]) ?_
    refine Ev.step (f := fun k => (epitomeref04_Fit.f k l[i] (n : Int)).bind fun t105 => if (rowsS out).length < 5864062014805 then (epitomeref04_Out.f k t105).bind fun t111 => epitomeref04_Chain.l0 k l t111 (rowsS out ++ [t105]) (wrap64 ((i : Int) + 1)) else none) (fun k => ?_) ?_
    · rw [epitomeref04_Chain.j1, if_pos rfl, if_pos (by omega), if_pos (by omega)]
      have e : l.getD (i : Int).toNat [] = l[i] := by rw [Int.toNat_natCast, List.getD_eq_getElem?_getD, List.getElem?_eq_getElem hil]; rfl
      rw [← e]
      rfl
    · refine Ev.bind ef (ev_if_pos (by omega) (Ev.bind (refOut_is fu.ok) ?_))
      rw [w64_succ i (by omega)]
      have e1 : rowsS out ++ [us.map Un.sp] = rowsS (out ++ [us]) := by simp [rowsS]
      have e2 : rowsS (out ++ us :: w) = rowsS (out ++ [us] ++ w) := by simp
      rw [e1, e2]
      exact ew
theorem chain_is (l : List (List Sp)) (hl : l.length ≤ maxLen) (hw : ∀ y ∈ l, y.length ≤ maxLen ∧ ∀ x ∈ y, (Lit.int .i64 x.f0).wf = true ∧ (Lit.int .i64 x.f1).wf = true ∧ x.f2.size ≤ maxLen) (n : Nat) (hn : n ≤ 63) :
    ∃ w, Ev (fun k => epitomeref04_Chain.f k l (n : Int)) (rowsS w) ∧ ChainOk n w ∧ w.length ≤ 20 := by
  obtain ⟨w, ew, hc, hlen⟩ := chain_loop l hl hw (min l.length 20) 0 n [] rfl (by omega) (by omega)
  refine ⟨w, ?_, hc, by omega⟩
  unfold epitomeref04_Chain.f
  simpa [rowsS] using ew
end Go.Proofs.YtnfaahacakliiaaDoor.F
end
section
namespace Go.Proofs.YtnfaahacakliiaaDoor.F
open Go.RowKit Go.Proofs.YtnfaahacakliiaaDoorW.PrintWords Go.Proofs.YtnfaahacakliiaaDoorW.PrintLast Go.Proofs.YtnfaahacakliiaaDoorW.PrintMore
set_option linter.unusedVariables false
set_option linter.unusedSimpArgs false
def fuseU : List U → List (List U) → List U
  | x, [] => x
  | x, y :: r => fuseU (compU x y) r
def exR (w : List (List Un)) : List (List U) := w.map exU
theorem fuse_all : ∀ (w : List (List Un)) (x : List U), RunesU x → cinU x ≤ 1048576 → coutU x + 78 * w.length ≤ 1048576 → ChainOk (coutU x) w →
    Ev (fun k => fuseL k ((canon x).map Un.sp) (rowsS w)) ((canon (fuseU x (exR w))).map Un.sp, 0) ∧ RunesU (fuseU x (exR w)) ∧ cinU (fuseU x (exR w)) = cinU x ∧ coutU (fuseU x (exR w)) ≤ coutU x + 78 * w.length
  | [], x, hr, h1, h2, _ => ⟨Ev.now _, hr, rfl, Nat.le_add_right _ _⟩
  | us :: w, x, hr, h1, h2, ⟨fu, hc⟩ => by
    simp only [List.length_cons] at h2
    have hci := fu.cin
    have hcu := fu.cinU
    have hco := fu.cout
    have hou := fu.coutU
    obtain ⟨s1, s2⟩ := comp_sizes x (exU us) (by omega)
    have ci := canon_in x
    have co := canon_out x
    have e := compose_is (canon_ok hr h1 (by omega)) fu.ok (by omega) (by omega) (by omega)
    rw [ex_canon] at e
    obtain ⟨e2, r2, i2, o2⟩ := fuse_all w (compU x (exU us)) (comp_runes _ _ hr fu.runes) (by omega) (by omega) (by rw [s2, hou]; exact hc)
    refine ⟨?_, r2, by rw [show exR (us :: w) = exU us :: exR w from rfl, fuseU, i2, s1], by rw [show exR (us :: w) = exU us :: exR w from rfl, fuseU]; simp only [List.length_cons]; omega⟩
    rw [show exR (us :: w) = exU us :: exR w from rfl, fuseU, show rowsS (us :: w) = us.map Un.sp :: rowsS w from rfl]
    show Ev (fun k => (compose_Of.f k ((canon x).map Un.sp) (us.map Un.sp)).bind fun z => if z.2 = 0 then fuseL k z.1 (rowsS w) else some ([], z.2)) _
    exact Ev.bind e (ev_if_pos rfl e2)
theorem fuse_is {w : List (List Un)} {n : Nat} (h : ChainOk n w) (hn : n + 78 * w.length ≤ 1048576) :
    Ev (fun k => fuse_Of.f k (n : Int) (rowsS w)) ((canon (fuseU (List.replicate n .k) (exR w))).map Un.sp, 0) ∧ RunesU (fuseU (List.replicate n .k) (exR w)) ∧ cinU (fuseU (List.replicate n .k) (exR w)) = n ∧ coutU (fuseU (List.replicate n .k) (exR w)) ≤ n + 78 * w.length := by
  have c1 : cinU (List.replicate n U.k) = n := by have := cinU_un (.keep n); exact this
  have c2 : coutU (List.replicate n U.k) = n := by have := coutU_un (.keep n); exact this
  have hr : RunesU (List.replicate n U.k) := fun r hr => by have := List.eq_of_mem_replicate hr; cases this
  obtain ⟨e, r, i, o⟩ := fuse_all w (List.replicate n .k) hr (by omega) (by omega) (by rw [c2]; exact h)
  rw [canon_keeps] at e
  refine ⟨?_, r, by omega, by omega⟩
  unfold fuse_Of.f
  exact Ev.bind (opKeep_is n (by omega)) (ev_if_pos rfl e)
end Go.Proofs.YtnfaahacakliiaaDoor.F
end
section
namespace Go.Proofs.YtnfaahacakliiaaDoor.F
open Go.RowKit Go.Proofs.YtnfaahacakliiaaDoorW.PrintWords Go.Proofs.YtnfaahacakliiaaDoorW.PrintLast Go.Proofs.YtnfaahacakliiaaDoorW.PrintMore
set_option linter.unusedVariables false
set_option linter.unusedSimpArgs false
def oversU : List U → List (List U) → List U
  | a, [] => a
  | a, y :: r => oversU (overU a y) r
theorem overs_fuse : ∀ (w : List (List Un)) (a x : List U), cinU a = cinU x → ChainOk (coutU x) w → overU a (fuseU x (exR w)) = oversU (overU a x) (exR w)
  | [], a, x, _, _ => rfl
  | us :: w, a, x, h, ⟨fu, hc⟩ => by
    have hcu := fu.cinU
    have hou := fu.coutU
    obtain ⟨s1, s2⟩ := comp_sizes x (exU us) (by omega)
    rw [show exR (us :: w) = exU us :: exR w from rfl, fuseU, oversU, overs_fuse w a (compU x (exU us)) (by omega) (by rw [s2, hou]; exact hc), over_comp _ _ _ _ (Nat.le_refl _) h (by omega)]
theorem many_loop (t : List (List Un)) (ht : t.length ≤ 20) (r0 : List U) : ∀ (w pre : List (List Un)) (a : List U) (m : Nat), t = pre ++ w → RunesU a → cinU a = m → ChainOk m w → putsU a ≤ 200 → m ≤ 63 + 78 * pre.length → oversU a (exR w) = r0 → (canon r0).length ≤ 100000 →
    Ev (fun k => epitomelaw11_OverMany.l0 k true ((canon a).map Un.sp) (rowsS t) 0 ((canon r0).map Un.sp) 0 (pre.length : Int)) true
  | [], pre, a, m, h, hr, hm, hc, hp, hb, ho, hl => by
    rw [List.append_nil] at h
    subst h
    have ho' : a = r0 := ho
    subst ho'
    refine Ev.step (f := fun k => (epitomeref04_Same.f k ((canon a).map Un.sp) ((canon a).map Un.sp)).bind fun t124 => some t124) (fun k => ?_) ?_
    · rw [epitomelaw11_OverMany.l0, if_neg (by simp [rowsS]), if_pos rfl, if_pos rfl, if_pos rfl]
    · have sm := same_is ((canon a).map Un.sp) ((canon a).map Un.sp) (by rw [List.length_map]; omega)
      rw [decide_eq_true rfl] at sm
      exact Ev.bind sm (Ev.now true)
  | us :: w, pre, a, m, h, hr, hm, ⟨fu, hc⟩, hp, hb, ho, hl => by
    have hlen : (rowsS t).length = t.length := by simp [rowsS]
    have htl : t.length = pre.length + (w.length + 1) := by rw [h]; simp
    have hcu := fu.cinU
    have hou := fu.coutU
    have hco := fu.cout
    have hci := fu.cin
    have hcc : cinU a = cinU (exU us) := by omega
    have s1 := over_sizes a (exU us) hcc
    have hao := cout_le a
    have ci := canon_in a
    have co := canon_out a
    have e := over_is (canon_ok hr (by omega) (by omega)) fu.ok (by omega) (by omega) (by omega)
    rw [ex_canon] at e
    have ih := many_loop t ht r0 w (pre ++ [us]) (overU a (exU us)) _ (by simp [h]) (over_runes _ _ hr) (by rw [s1.1, hou]) hc (by omega) (by simp; omega) ho hl
    rw [List.length_append, List.length_singleton] at ih
    refine Ev.step (f := fun k => (over_Of.f k ((canon a).map Un.sp) (us.map Un.sp)).bind fun bt120 => if bt120.2 = 0 then epitomelaw11_OverMany.l0 k true bt120.1 (rowsS t) 0 ((canon r0).map Un.sp) 0 ((pre.length + 1 : Nat) : Int) else some false) (fun k => ?_) (Ev.bind e (ev_if_pos rfl ih))
    rw [epitomelaw11_OverMany.l0, if_pos (by omega), if_pos (by omega), w64_succ _ (by omega)]
    have eg : (rowsS t).getD (pre.length : Int).toNat [] = us.map Un.sp := by
      rw [Int.toNat_natCast, List.getD_eq_getElem?_getD, h]
      simp [rowsS]
    rw [← eg]
    rfl
theorem Pure.OverMany : epitomelaw11_OverMany.Pure := by
  intro l0 l1 a h0 h1 h2
  apply Ev.rounds
  obtain ⟨n, hn, en⟩ := rem64 a h2
  obtain ⟨us, hf0, f0⟩ := fitB l0 h0.1 h0.2 n (by omega)
  obtain ⟨w, hcw, hc, hwl⟩ := chain_is l1 h1.1 h1.2 n (by omega)
  have c0 := f0.cout
  have i0 := f0.cinU
  have o0 := f0.coutU
  have n0 := f0.cin
  have p0 := puts_le (exU us)
  obtain ⟨e1, r1, i1, o1⟩ := fuse_is hc (by omega)
  have ci := canon_in (exU us)
  have co := canon_out (exU us)
  have fi := canon_in (fuseU (List.replicate n .k) (exR w))
  have fo := canon_out (fuseU (List.replicate n .k) (exR w))
  have ok1 := canon_ok f0.runes (by omega) (by omega)
  have ok2 := canon_ok r1 (by omega) (by omega)
  have e2 := over_is ok1 ok2 (by omega) (by omega) (by omega)
  rw [ex_canon, ex_canon] at e2
  have c1 : cinU (List.replicate n U.k) = n := by have := cinU_un (.keep n); exact this
  have c2 : coutU (List.replicate n U.k) = n := by have := coutU_un (.keep n); exact this
  have eo : oversU (exU us) (exR w) = overU (exU us) (fuseU (List.replicate n .k) (exR w)) := by
    rw [overs_fuse w (exU us) (List.replicate n .k) (by omega) (by rw [c2]; exact hc), show List.replicate n U.k = List.replicate (cinU (exU us)) .k by rw [i0], over_keep_right]
  have hcc : cinU (exU us) = cinU (fuseU (List.replicate n .k) (exR w)) := by omega
  have s1 := over_sizes (exU us) (fuseU (List.replicate n .k) (exR w)) hcc
  have s2 := cout_le (overU (exU us) (fuseU (List.replicate n .k) (exR w)))
  have m0 := canon_length (overU (exU us) (fuseU (List.replicate n .k) (exR w)))
  have m1 := length_two (overU (exU us) (fuseU (List.replicate n .k) (exR w)))
  have lp := many_loop w hwl _ w [] (exU us) n rfl f0.runes i0 hc (by omega) (by simp; omega) eo (by omega)
  unfold epitomelaw11_OverMany.f
  rw [en]
  refine Ev.bind shown11 (Ev.bind hf0 (Ev.bind (normalOk_is f0.ok) (Ev.bind hcw (Ev.bind e1 (Ev.bind e2 ?_)))))
  exact lp
end Go.Proofs.YtnfaahacakliiaaDoor.F
end
section
namespace Go.Proofs.YtnfaahacakliiaaDoor.overMany
open Go.ChangeShapes Go.WideShapes Go.ChangeAt Go.RowKit Go.Proofs.YtnfaahacakliiaaDoor.F
open Go.Proofs.YtnfaahacakliiaaDoorW.PrintWords
open Go.ChangeMaps (open_string shut_string)
set_option linter.unusedVariables false
theorem own : ownKnob Tryd.prog.godebug = none := by kernel_rfl
theorem laidOut : laidOutB Tryd.prog = true := by kernel_rfl
theorem laid_met (os : Os) (args : Array Value) : laidMetH Tryd.prog Rows.overManyRow.laid ((laidWorld os).forCall (fun _ _ => 0) ⟨#[], args, []⟩).memory :=
  (LaidIn.of_run (l := Rows.overManyRow.laid) [2, 0, 1] 8 (by kernel_rfl) (by kernel_rfl) (by kernel_rfl) (by kernel_rfl)).met
set_option maxRecDepth 100000 in
theorem lifted (os : Os) (started : os.Started) (H : Type) (enc : TypeId × Value → H) :
    ReturnsInHanded {} Tryd.checked os 10 .any (fun w args => (Rows.overManySpec.pre enc Tryd.prog Tryd.f10 [] false w args ∧ laidMetH Tryd.prog Rows.overManyRow.laid w) ∧ sizedMet enc Tryd.prog Tryd.f10 (OpenSpec.ofChange Rows.overManySpec) false w args) (Rows.overManySpec.post enc Tryd.prog Tryd.f10 false true false false) := by
  refine returnsInHanded_of_change_and (C := Tryd.checked) (X := (fun w _ => laidMetH Tryd.prog Rows.overManyRow.laid w)) (fun _ _ _ hh h => h.of_heap hh) own started (by kernel_rfl) Tryd.func10
    (ChangeSpec.witness_at (enc := enc) (C := Tryd.checked) (os := os) (X := (fun w _ => laidMetH Tryd.prog Rows.overManyRow.laid w)) false (laidWorld os) #[.slice none 0 0, .slice none 0 0, .int .u8 0] 8 rfl (by kernel_rfl) (by kernel_rfl) (by kernel_rfl) (by kernel_rfl) (by kernel_rfl) (laid_met os _)) ?_
  intro W base args ds gs before hval0 hW _ _ hL _
  have hG : Glob W := glob_of_reads (Lib.laidMet.reads hL (.tail _ (.tail _ (.head _)))) (Lib.laidMet.reads hL (.head _)) (Lib.laidMet.reads hL (.tail _ (.head _)))
  have hval : ∀ (j : Nat) t v, Tryd.f10.params[j]? = some t → args[j]? = some v → Value.okWide Tryd.prog W .any base t v := hval0
  have hW' := hW
  obtain ⟨p, q, hA0, hV, rfl, hfz, hnd⟩ := hW
  have hA : DataW.TrodAll enc Tryd.prog W 0 (fun _ => true) true Tryd.f10.params.toList args.toList ds p := hA0
  rw [Tryd.params10] at hA hval
  obtain ⟨v0, vs0, d0, ds0, p0, q0, hargs, rfl, rfl, h0, r0⟩ := trodAll_cons hA
  obtain ⟨v1, vs1, d1, ds1, p1, q1, rfl, rfl, rfl, h1, r1⟩ := trodAll_cons r0
  obtain ⟨v2, vs2, d2, ds2, p2, q2, rfl, rfl, rfl, h2, r2⟩ := trodAll_cons r1
  obtain ⟨rfl, rfl, rfl⟩ := trodAll_nil r2
  obtain rfl : args = #[v0, v1, v2] := by cases args; simp_all
  obtain ⟨rfl, rfl⟩ := trodVars_none hV
  obtain ⟨A0, n0, c0, rfl⟩ := okWide_slice Tryd.underlying22 (hval 0 22 v0 rfl rfl)
  have k0 := h0
  have lt0 : ∀ x ∈ p0, x.block < W.heap.size := by obtain ⟨m, hm⟩ := k0; exact DataW.trod_lt m _ _ _ hm
  obtain ⟨l0, z0, hv0⟩ : ∃ l, (Kd.slice 32 k32).K W l [Value.slice A0 n0 c0] ∧ (fun v_ => (v_.length ≤ maxLen ∧ ∀ x_ ∈ v_, V32 x_)) l := by
    obtain ⟨fuel, hf⟩ := h0
    exact (opens_slice Tryd.underlying22 (by kernel_rfl) opens32) enc W _ _ _ _ _ _ hf
  obtain ⟨A_, c_, e, hc0, hr0⟩ := z0
  simp only [List.cons.injEq, Value.slice.injEq, and_true] at e
  obtain ⟨rfl, rfl, rfl⟩ := e
  obtain ⟨A1, n1, c1, rfl⟩ := okWide_slice Tryd.underlying53 (hval 1 53 v1 rfl rfl)
  have k1 := h1
  have lt1 : ∀ x ∈ p1, x.block < W.heap.size := by obtain ⟨m, hm⟩ := k1; exact DataW.trod_lt m _ _ _ hm
  obtain ⟨l1, z1, hv1⟩ : ∃ l, (Kd.slice 22 (Kd.slice 32 k32)).K W l [Value.slice A1 n1 c1] ∧ (fun v_ => (v_.length ≤ maxLen ∧ ∀ x_ ∈ v_, (x_.length ≤ maxLen ∧ ∀ x_x_ ∈ x_, V32 x_x_))) l := by
    obtain ⟨fuel, hf⟩ := h1
    exact (opens_slice Tryd.underlying53 (by kernel_rfl) (opens_slice Tryd.underlying22 (by kernel_rfl) opens32)) enc W _ _ _ _ _ _ hf
  obtain ⟨A_, c_, e, hc1, hr1⟩ := z1
  simp only [List.cons.injEq, Value.slice.injEq, and_true] at e
  obtain ⟨rfl, rfl, rfl⟩ := e
  obtain ⟨a2, rfl, rfl, rfl, hv2⟩ := open_int Tryd.underlying5 (hval 2 5 v2 rfl rfl) h2
  obtain ⟨k, h⟩ := Pure.OverMany l0 l1 a2 hv0 hv1 hv2
  refine (epitomelaw11_OverMany.calls k _ _ l0 _ _ l1 a2 true W hG hr0 hc0 hr1 hc1 h).mono ?_
  rintro e W' ⟨rfl, hd⟩
  have bel : Below W.heap.size W W' := hd
  exact ⟨_, rfl, _, _, _, [], _, [], hW', trodAll_mk1 (shut_bool Tryd.underlying4 _), (trodAll_cons_mk (Below.trod laidOut (by kernel_rfl) (of_decide_eq_true (by kernel_rfl)) k0 bel lt0) (trodAll_cons_mk (Below.trod laidOut (by kernel_rfl) (of_decide_eq_true (by kernel_rfl)) k1 bel lt1) (trodAll_cons_mk (shut_int Tryd.underlying5 hv2) trodAll_mk0))), rfl, bel.frame _, fun h => by cases h⟩
theorem over : Rows.overManyRow.holds Tryd.pinned (OpenSpec.ofChange Rows.overManySpec) :=
  OpenClaim.holds_of_wide 10 Tryd.f10 rfl rfl rfl rfl rfl rfl rfl ⟨rfl, rfl, rfl, rfl, rfl⟩ rfl rfl rfl rfl rfl (by kernel_rfl) Tryd.func10 (by kernel_rfl)
    (of_decide_eq_true (by kernel_rfl)) (by unfold Func.isWrapper; first | (rw [if_pos (by decide +kernel)]; kernel_rfl) | (rw [if_neg (by decide +kernel)]; exact ⟨rfl, rfl⟩))
    (fun os started H enc _ => lifted os started H enc)
theorem card : Claim7.holds Tryd.pinned (.plain (OpenSpec.ofChange Rows.overManySpec)) Rows.overManyCard :=
  Claim7.holds_tied_plain_at .later [] [.data, .data, .pinned] true (true, "5629122fc7e22ec38083d154da1d52d5b6c509a811ad847a0e4b167bf671c9f1") false
    over (fun _ h => by cases h) (by kernel_rfl) (fun _ h => by cases h) overMany_row_tie rfl ⟨rfl, rfl⟩ (by kernel_rfl) rfl
    (fun f fn hf hfn => by
      obtain rfl : f = 10 := Option.some.inj ((show Tryd.prog.funcNamed "epitome/epitomelaw11.OverMany" = some 10 by kernel_rfl).symm.trans hf) |>.symm
      obtain rfl : fn = Tryd.f10 := (Option.some.inj (Tryd.func10.symm.trans hfn)).symm
      exact ⟨by kernel_rfl, fun j t ht => by
        rw [Tryd.params10] at ht
        match j, ht with
        | 0, ht =>
          obtain rfl : t = 22 := by simpa using ht.symm
          exact (show Tryd.prog.wantsStandIn 22 = false by kernel_rfl)
        | 1, ht =>
          obtain rfl : t = 53 := by simpa using ht.symm
          exact (show Tryd.prog.wantsStandIn 53 = false by kernel_rfl)
        | 2, ht =>
          obtain rfl : t = 5 := by simpa using ht.symm
          exact (show Tryd.prog.wantsStandIn 5 = false by kernel_rfl)
        | j + 3, ht => simp at ht⟩)
    (by kernel_rfl)
theorem proved : Rows.OverManyCardSaid := card
end Go.Proofs.YtnfaahacakliiaaDoor.overMany
namespace Go.Proofs.YtnfaahacakliiaaDoor
theorem overMany_holds : Rows.OverManyCardSaid := overMany.proved
#print axioms overMany_holds
end Go.Proofs.YtnfaahacakliiaaDoor
end
