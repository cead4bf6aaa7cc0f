import Derived.Test.YtphbemkdhneklaaDoorKPlaceAllA
import Derived.Test.YtphbemkdhneklaaDoorKPPA
import Derived.Below
import Derived.Deep.Draws
import Derived.Deep.AppendLies
import Derived.Maps.AppendAt
import Derived.OwnWalk
import Derived.Laws.BytesArg
import Derived.Laws.MakeOwn
import Derived.Laws.OwnMore
import Derived.Deep.OwnRows
import Derived.Tactics
import Derived.Lib.ConvBytes
import Derived.Laws.Slices
import Derived.WalkKit
import Derived.KernelRfl
import Derived.RowKit3
import Derived.Deep.LoopGhost
import Derived.Deep.QuietTactic
import Derived.BigQuiet
import Derived.WideLaws
import Derived.Deep.DeepCutAuto
import Derived.Deep.CutBlock
import Derived.Deep.RegionHeld3
import Derived.Laws.Rows
import Derived.Lib.AppendStr
import Derived.ArgAppend
import Derived.Laws.IdiomCopy
import Derived.RowKit
import Derived.OrdersHeld
import Derived.Laws.BitsLemmas
import Derived.Laws.StructEq
import Derived.Test.YtphbemkdhneklaaDoorProg
import Derived.Handy
import Derived.Shelf.Unicode.DecodeSlow
import Derived.Ground.NamesProg
import Derived.Shelf.Unicode.ValidAny
import Derived.Laws.RangeString
import Derived.Laws.RangeAny
import Derived.Lib.RuneCount
import Derived.RangeFuncNested
import Derived.RangeFuncBound
import Derived.RangeFuncCalls
import Derived.RangeFuncLeaves
import Derived.Shelf.Abstract
import Derived.Shelf.RegionOpen
import Derived.OwnWalkIn
import Derived.TacticsInMore
import Derived.LoopNIn
import Derived.LoopIn
import Derived.Laws.IdiomStrings
import Derived.Laws.Cover4
import Derived.ProofKit
import Derived.OpenShut
import Derived.ShutString
import Derived.ChangeOld
import Derived.SizedLaws
import Derived.Lib.ValidLaws
import Derived.Test.YtphbemkdhneklaaDoorRows
import Derived.Lib.LaidU8T
import Derived.Lib.LaidIn
import Derived.LaidLaws
import Derived.Test.YtphbemkdhneklaaDoorTie
import Derived.Test.YtphbemkdhneklaaDoorCards
import Derived.Carry
import Derived.ChangeSame
import Derived.ChangeVars
import Derived.JoinedOf
import Derived.SevenTiedAt
section
namespace Go.Proofs.YtphbemkdhneklaaDoor.F
open Go.RowKit Go.Proofs.YtphbemkdhneklaaDoorW.PrintWords Go.Proofs.YtphbemkdhneklaaDoorW.PrintLast Go.Proofs.YtphbemkdhneklaaDoorW.PrintMore
attribute [local go_sem] max2_int min2_int max_two min_two max_three min_three max_four min_four cell_setCell_isSome
set_option linter.unusedVariables false
set_option linter.unusedSimpArgs false
def epitomelaw08_PlaceAll.Pure : Prop := ∀ (l0 : List (S51)) (a1 : Int) (a2 : Int), (l0.length ≤ maxLen ∧ ∀ x_ ∈ l0, V51 x_) → (Lit.int .i64 a1).wf = true → (Lit.int .i64 a2).wf = true → ∃ k, epitomelaw08_PlaceAll.f k l0 a1 a2 = some true
end Go.Proofs.YtphbemkdhneklaaDoor.F
end
section
namespace Go.Proofs.YtphbemkdhneklaaDoor.F
open Go.RowKit Go.Proofs.YtphbemkdhneklaaDoorW.PrintWords Go.Proofs.YtphbemkdhneklaaDoorW.PrintLast Go.Proofs.YtphbemkdhneklaaDoorW.PrintMore
set_option linter.unusedVariables false
set_option linter.unusedSimpArgs false
def cutT (m : Nat) (s : ByteArray) : ByteArray := s.extract 0 (mn (s.size : Int) (m : Int)).toNat
theorem cutT_size (m : Nat) (s : ByteArray) : (cutT m s).size ≤ m := by
  have h1 := mn_le (s.size : Int) (m : Int)
  have h2 := extract_size s (mn (s.size : Int) (m : Int)).toNat
  unfold cutT
  omega
def cutS (m : Nat) (s : Sp) : Sp := ⟨s.f0, s.f1, cutT m s.f2⟩
end Go.Proofs.YtphbemkdhneklaaDoor.F
end
section
namespace Go.Proofs.YtphbemkdhneklaaDoor.F
open Go.RowKit Go.Proofs.YtphbemkdhneklaaDoorW.PrintWords Go.Proofs.YtphbemkdhneklaaDoorW.PrintLast Go.Proofs.YtphbemkdhneklaaDoorW.PrintMore
set_option linter.unusedVariables false
set_option linter.unusedSimpArgs false
def sizeD (r : Int) : Int := if r < 0 ∨ r > 1114111 ∨ (55296 ≤ r ∧ r ≤ 57343) then 0 else if r < 128 then 1 else if r < 2048 then 2 else if r < 65536 then 3 else 4
theorem sizeAny_is (r : Int) : Ev (fun k => epitomeref01_size.f k r) (sizeD r) := by
  have hj : ∀ b, (b = true ↔ (r < 0 ∨ r > 1114111 ∨ (55296 ≤ r ∧ r ≤ 57343))) → Ev (fun k => epitomeref01_size.j0 k r b) (sizeD r) := by
    intro b hb
    refine Ev.step (f := fun _ => some (sizeD r)) (fun k => ?_) (Ev.now _)
    rw [epitomeref01_size.j0]
    unfold sizeD
    cases b
    · have h : ¬ (r < 0 ∨ r > 1114111 ∨ (55296 ≤ r ∧ r ≤ 57343)) := fun e => by have := hb.2 e; cases this
      rw [if_neg (by simp), if_neg h]
      split
      · rfl
      · split
        · rfl
        · split <;> rfl
    · have h := hb.1 rfl
      rw [if_pos rfl, if_pos h]
  unfold epitomeref01_size.f
  by_cases h1 : r < 0
  · exact ev_if_pos h1 (hj true (by simp [h1]))
  · refine ev_if_neg h1 ?_
    by_cases h2 : r > 1114111
    · exact ev_if_pos h2 (hj true (by simp [h2]))
    · refine ev_if_neg h2 ?_
      by_cases h3 : r ≥ 55296
      · refine ev_if_pos h3 (hj _ ?_)
        simp
        omega
      · refine ev_if_neg h3 (hj false ?_)
        simp
        omega
def bN (s : ByteArray) (i : Nat) : Nat := (s.data.toList.getD i 0).toNat
theorem bN_lt (s : ByteArray) (i : Nat) : bN s i < 256 := by unfold bN; exact UInt8.toNat_lt _
theorem bt_bN (s : ByteArray) (i : Nat) : bt s (i : Int) = (bN s i : Int) := by
  rw [← rd_bytesOf]
  unfold rd bytesOf bN
  rw [Int.toNat_natCast, List.getD_eq_getElem?_getD, List.getD_eq_getElem?_getD, List.getElem?_map]
  cases s.data.toList[i]? <;> simp
theorem decode_bN (s : ByteArray) : Lib.decodeL s.data.toList = Lib.decodeN s.size (bN s 0) (bN s 1) (bN s 2) (bN s 3) := by
  rw [Lib.decodeL_N, data_length]
  rfl
def firstD (s : ByteArray) : Int × Int := if s.size = 0 then (0, 0) else if Lib.decodeL s.data.toList = (65533, 1) then (0, 0) else (((Lib.decodeL s.data.toList).1 : Nat), ((Lib.decodeL s.data.toList).2 : Nat))
theorem first_out (s : ByteArray) (m i : Nat) (r : Int) (hi : i ≤ m) (hs : i < s.size) (hm : m ≤ 10) (hb : bN s i / 64 ≠ 2) : Ev (fun k => epitomeref01_first.l0 k s (m : Int) r (i : Int)) (0, 0) := by
  have hl := bN_lt s i
  refine Ev.step (f := fun _ => some (0, 0)) (fun k => ?_) (Ev.now _)
  rw [epitomeref01_first.l0, if_pos (by omega), if_pos (by omega), if_pos (by omega), bt_bN, w64 (by omega) (by omega)]
  by_cases h : (bN s i : Int) < 128
  · rw [if_pos h]
  · rw [if_neg h, if_pos (by omega)]
theorem first_in (s : ByteArray) (m i : Nat) (r : Nat) (v : Int × Int) (hi : i ≤ m) (hs : i < s.size) (hm : m ≤ 10) (hr : r ≤ 1000000) (hb : bN s i / 64 = 2) (h : Ev (fun k => epitomeref01_first.l0 k s (m : Int) ((r * 64 + bN s i % 64 : Nat) : Int) ((i + 1 : Nat) : Int)) v) :
    Ev (fun k => epitomeref01_first.l0 k s (m : Int) (r : Int) (i : Int)) v := by
  have hl := bN_lt s i
  refine Ev.step (fun k => ?_) h
  have e : wrap64 (wrap64 (wrap64 ((r : Int) * 64) + (bN s i : Int)) - 128) = ((r * 64 + bN s i % 64 : Nat) : Int) := by
    rw [w64 (x := (r : Int) * 64) (by omega) (by omega), w64 (x := (r : Int) * 64 + _) (by omega) (by omega), w64 (by omega) (by omega)]
    omega
  rw [epitomeref01_first.l0, if_pos (by omega), if_pos (by omega), if_pos (by omega), bt_bN, w64 (x := (bN s i : Int)) (by omega) (by omega), if_neg (by omega), if_neg (by omega), e, w64_succ _ (by omega)]
theorem first_end (s : ByteArray) (m : Nat) (r : Int) (hm : m ≤ 10) : Ev (fun k => epitomeref01_first.l0 k s (m : Int) r ((m + 1 : Nat) : Int)) (if sizeD r = ((m + 1 : Nat) : Int) then (r, ((m + 1 : Nat) : Int)) else (0, 0)) := by
  refine Ev.step (f := fun k => _) (fun k => by rw [epitomeref01_first.l0, if_neg (by omega), w64_succ _ (by omega)]) ?_
  refine Ev.bind (sizeAny_is r) ?_
  by_cases h : sizeD r = ((m + 1 : Nat) : Int)
  · simp only [if_pos h]; exact Ev.now _
  · simp only [if_neg h]; exact Ev.now _
theorem first_j3 (s : ByteArray) (m r : Nat) (hm : m ≤ 10) (v : Int × Int) (h1 : s.size < m + 1 → v = (0, 0)) (h2 : m + 1 ≤ s.size → Ev (fun k => epitomeref01_first.l0 k s (m : Int) (r : Int) 1) v) : Ev (fun k => epitomeref01_first.j3 k s (m : Int) (r : Int)) v := by
  by_cases h : s.size < m + 1
  · refine Ev.step (f := fun _ => some v) (fun k => ?_) (Ev.now _)
    rw [epitomeref01_first.j3, w64_succ _ (by omega), if_pos (by omega), h1 h]
  · refine Ev.step (fun k => ?_) (h2 (by omega))
    rw [epitomeref01_first.j3, w64_succ _ (by omega), if_neg (by omega)]
theorem first_is (s : ByteArray) : Ev (fun k => epitomeref01_first.f k s) (firstD s) := by
  unfold epitomeref01_first.f firstD
  by_cases h0 : s.size = 0
  · rw [if_pos h0]
    exact ev_if_pos (by omega) (Ev.now _)
  rw [if_neg h0]
  refine ev_if_neg (by omega) (ev_if_pos (by omega) ?_)
  have b0 := bN_lt s 0
  have e0 : wrap64 (bt s 0) = (bN s 0 : Int) := by
    have := bt_bN s 0
    rw [show ((0 : Nat) : Int) = 0 from rfl] at this
    rw [this, w64 (by omega) (by omega)]
  rw [e0, decode_bN]
  generalize hd : Lib.decodeN s.size (bN s 0) (bN s 1) (bN s 2) (bN s 3) = d
  generalize hv : (if d = (65533, 1) then ((0 : Int), (0 : Int)) else ((d.1 : Int), (d.2 : Int))) = v
  have err : d = (65533, 1) → v = (0, 0) := fun e => by rw [← hv, if_pos e]
  have good : ∀ a b : Nat, d = (a, b) → b ≠ 1 ∨ a < 128 → v = ((a : Int), (b : Int)) := fun a b e hn => by
    rw [← hv, if_neg, e]
    rw [e]
    rintro h
    injection h with h1 h2
    omega
  unfold Lib.decodeN at hd
  -- the four ways
  have j2f : bN s 0 < 192 → Ev (fun k => epitomeref01_first.j2 k s (bN s 0 : Int) 0 (bN s 0 : Int) false) v := by
    intro h
    by_cases h1 : bN s 0 < 128
    · rw [if_pos h1] at hd
      refine Ev.step (f := fun k => epitomeref01_first.j3 k s 0 (bN s 0 : Int)) (fun k => ?_) ?_
      · rw [epitomeref01_first.j2, if_neg (by simp), if_neg (by omega)]
      · refine first_j3 s 0 _ (by omega) v (by omega) (fun _ => ?_)
        have := first_end s 0 (bN s 0 : Int) (by omega)
        rw [if_pos (by unfold sizeD; rw [if_neg (by omega), if_pos (by omega)]; rfl)] at this
        rw [good _ _ hd.symm (.inr h1)]
        exact this
    · rw [if_neg h1, if_neg (by omega), if_neg (by omega), if_neg (by omega)] at hd
      refine Ev.step (f := fun _ => some (0, 0)) (fun k => ?_) (by rw [err hd.symm]; exact Ev.now _)
      rw [epitomeref01_first.j2, if_neg (by simp), if_pos (by omega)]
  have j2t : 192 ≤ bN s 0 → bN s 0 < 224 → Ev (fun k => epitomeref01_first.j2 k s (bN s 0 : Int) 0 (bN s 0 : Int) true) v := by
    intro h h1
    rw [if_neg (by omega)] at hd
    refine Ev.step (f := fun k => epitomeref01_first.j3 k s 1 ((bN s 0 - 192 : Nat) : Int)) (fun k => ?_) ?_
    · rw [epitomeref01_first.j2, if_pos rfl, w64 (by omega) (by omega), Int.ofNat_sub h]
      rfl
    · refine first_j3 s 1 _ (by omega) v (fun hs => ?_) (fun hs => ?_)
      · rw [if_neg (by omega), if_neg (by omega), if_neg (by omega)] at hd
        exact err hd.symm
      · by_cases c1 : bN s 1 / 64 = 2
        · rw [if_pos ⟨by omega, by omega, c1⟩] at hd
          refine first_in s 1 1 _ v (by omega) (by omega) (by omega) (by omega) c1 ?_
          have := first_end s 1 (((bN s 0 - 192) * 64 + bN s 1 % 64 : Nat) : Int) (by omega)
          have e : bN s 0 % 32 * 64 + bN s 1 % 64 = (bN s 0 - 192) * 64 + bN s 1 % 64 := by omega
          rw [e] at hd
          generalize (bN s 0 - 192) * 64 + bN s 1 % 64 = r at *
          by_cases c2 : r ≥ 128
          · rw [if_pos c2] at hd
            rw [if_pos (by unfold sizeD; rw [if_neg (by omega), if_neg (by omega), if_pos (by omega)]; rfl)] at this
            rw [good _ _ hd.symm (.inl (by omega))]
            exact this
          · rw [if_neg c2] at hd
            rw [if_neg (by unfold sizeD; rw [if_neg (by omega), if_pos (by omega)]; decide)] at this
            rw [err hd.symm]
            exact this
        · rw [if_neg (fun e => c1 e.2.2), if_neg (by omega), if_neg (by omega)] at hd
          rw [err hd.symm]
          exact first_out s 1 1 _ (by omega) (by omega) (by omega) c1
  have j1t : 224 ≤ bN s 0 → bN s 0 < 240 → Ev (fun k => epitomeref01_first.j1 k s (bN s 0 : Int) 0 (bN s 0 : Int) true) v := by
    intro h h1
    rw [if_neg (by omega), if_neg (by omega)] at hd
    refine Ev.step (f := fun k => epitomeref01_first.j3 k s 2 ((bN s 0 - 224 : Nat) : Int)) (fun k => ?_) ?_
    · rw [epitomeref01_first.j1, if_pos rfl, w64 (by omega) (by omega), Int.ofNat_sub h]
      rfl
    · refine first_j3 s 2 _ (by omega) v (fun hs => ?_) (fun hs => ?_)
      · rw [if_neg (by omega), if_neg (by omega)] at hd
        exact err hd.symm
      · by_cases c1 : bN s 1 / 64 = 2
        · refine first_in s 2 1 _ v (by omega) (by omega) (by omega) (by omega) c1 ?_
          by_cases c2 : bN s 2 / 64 = 2
          · rw [if_pos ⟨by omega, ⟨by omega, c1⟩, by omega, c2⟩] at hd
            refine first_in s 2 2 _ v (by omega) (by omega) (by omega) (by omega) c2 ?_
            have := first_end s 2 ((((bN s 0 - 224) * 64 + bN s 1 % 64) * 64 + bN s 2 % 64 : Nat) : Int) (by omega)
            have e : bN s 0 % 16 * 4096 + bN s 1 % 64 * 64 + bN s 2 % 64 = ((bN s 0 - 224) * 64 + bN s 1 % 64) * 64 + bN s 2 % 64 := by omega
            rw [e] at hd
            generalize ((bN s 0 - 224) * 64 + bN s 1 % 64) * 64 + bN s 2 % 64 = r at *
            have hr : r < 65536 := by omega
            by_cases c3 : r ≥ 2048 ∧ (r < 55296 ∨ (57344 ≤ r ∧ r ≤ 1114111))
            · rw [if_pos c3] at hd
              rw [if_pos (by unfold sizeD; rw [if_neg (by omega), if_neg (by omega), if_neg (by omega), if_pos (by omega)]; rfl)] at this
              rw [good _ _ hd.symm (.inl (by omega))]
              exact this
            · rw [if_neg c3] at hd
              rw [if_neg (by unfold sizeD; split <;> (try split) <;> (try split) <;> (try split) <;> omega)] at this
              rw [err hd.symm]
              exact this
          · rw [if_neg (fun e => c2 e.2.2.2), if_neg (by omega)] at hd
            rw [err hd.symm]
            exact first_out s 2 2 _ (by omega) (by omega) (by omega) c2
        · rw [if_neg (fun e => c1 e.2.1.2), if_neg (by omega)] at hd
          rw [err hd.symm]
          exact first_out s 2 1 _ (by omega) (by omega) (by omega) c1
  have j0t : 240 ≤ bN s 0 → bN s 0 < 248 → Ev (fun k => epitomeref01_first.j0 k s (bN s 0 : Int) 0 (bN s 0 : Int) true) v := by
    intro h h1
    rw [if_neg (by omega), if_neg (by omega), if_neg (by omega)] at hd
    refine Ev.step (f := fun k => epitomeref01_first.j3 k s 3 ((bN s 0 - 240 : Nat) : Int)) (fun k => ?_) ?_
    · rw [epitomeref01_first.j0, if_pos rfl, w64 (by omega) (by omega), Int.ofNat_sub h]
      rfl
    · refine first_j3 s 3 _ (by omega) v (fun hs => ?_) (fun hs => ?_)
      · rw [if_neg (by omega)] at hd
        exact err hd.symm
      · by_cases c1 : bN s 1 / 64 = 2
        · refine first_in s 3 1 _ v (by omega) (by omega) (by omega) (by omega) c1 ?_
          by_cases c2 : bN s 2 / 64 = 2
          · refine first_in s 3 2 _ v (by omega) (by omega) (by omega) (by omega) c2 ?_
            by_cases c4 : bN s 3 / 64 = 2
            · rw [if_pos ⟨by omega, ⟨by omega, c1⟩, ⟨by omega, c2⟩, by omega, c4⟩] at hd
              refine first_in s 3 3 _ v (by omega) (by omega) (by omega) (by omega) c4 ?_
              have := first_end s 3 (((((bN s 0 - 240) * 64 + bN s 1 % 64) * 64 + bN s 2 % 64) * 64 + bN s 3 % 64 : Nat) : Int) (by omega)
              have e : bN s 0 % 8 * 262144 + bN s 1 % 64 * 4096 + bN s 2 % 64 * 64 + bN s 3 % 64 = (((bN s 0 - 240) * 64 + bN s 1 % 64) * 64 + bN s 2 % 64) * 64 + bN s 3 % 64 := by omega
              rw [e] at hd
              generalize (((bN s 0 - 240) * 64 + bN s 1 % 64) * 64 + bN s 2 % 64) * 64 + bN s 3 % 64 = r at *
              by_cases c3 : r ≥ 65536 ∧ (r < 55296 ∨ (57344 ≤ r ∧ r ≤ 1114111))
              · rw [if_pos c3] at hd
                rw [if_pos (by unfold sizeD; rw [if_neg (by omega), if_neg (by omega), if_neg (by omega), if_neg (by omega)]; rfl)] at this
                rw [good _ _ hd.symm (.inl (by omega))]
                exact this
              · rw [if_neg c3] at hd
                rw [if_neg (by unfold sizeD; split <;> (try split) <;> (try split) <;> (try split) <;> omega)] at this
                rw [err hd.symm]
                exact this
            · rw [if_neg (fun e => c4 e.2.2.2.2)] at hd
              rw [err hd.symm]
              exact first_out s 3 3 _ (by omega) (by omega) (by omega) c4
          · rw [if_neg (fun e => c2 e.2.2.1.2)] at hd
            rw [err hd.symm]
            exact first_out s 3 2 _ (by omega) (by omega) (by omega) c2
        · rw [if_neg (fun e => c1 e.2.1.2)] at hd
          rw [err hd.symm]
          exact first_out s 3 1 _ (by omega) (by omega) (by omega) c1
  have j2 : bN s 0 < 224 ∨ 248 ≤ bN s 0 → Ev (fun k => epitomeref01_first.j1 k s (bN s 0 : Int) 0 (bN s 0 : Int) false) v := by
    intro h
    by_cases h1 : 192 ≤ bN s 0
    · refine Ev.step (f := fun k => epitomeref01_first.j2 k s (bN s 0 : Int) 0 (bN s 0 : Int) (decide ((bN s 0 : Int) < 224))) (fun k => by rw [epitomeref01_first.j1, if_neg (by simp), if_pos (by omega)]) ?_
      by_cases h2 : bN s 0 < 224
      · rw [decide_eq_true (by omega)]
        exact j2t h1 h2
      · rw [decide_eq_false (by omega)]
        rw [if_neg (by omega), if_neg (by omega), if_neg (by omega), if_neg (by omega)] at hd
        refine Ev.step (f := fun _ => some (0, 0)) (fun k => ?_) (by rw [err hd.symm]; exact Ev.now _)
        rw [epitomeref01_first.j2, if_neg (by simp), if_pos (by omega)]
    · exact Ev.step (fun k => by rw [epitomeref01_first.j1, if_neg (by simp), if_neg (by omega)]) (j2f (by omega))
  have j1 : bN s 0 < 240 ∨ 248 ≤ bN s 0 → Ev (fun k => epitomeref01_first.j0 k s (bN s 0 : Int) 0 (bN s 0 : Int) false) v := by
    intro h
    by_cases h1 : 224 ≤ bN s 0
    · refine Ev.step (f := fun k => epitomeref01_first.j1 k s (bN s 0 : Int) 0 (bN s 0 : Int) (decide ((bN s 0 : Int) < 240))) (fun k => by rw [epitomeref01_first.j0, if_neg (by simp), if_pos (by omega)]) ?_
      by_cases h2 : bN s 0 < 240
      · rw [decide_eq_true (by omega)]
        exact j1t h1 h2
      · rw [decide_eq_false (by omega)]
        exact j2 (by omega)
    · exact Ev.step (fun k => by rw [epitomeref01_first.j0, if_neg (by simp), if_neg (by omega)]) (j2 (by omega))
  by_cases h1 : 240 ≤ bN s 0
  · refine ev_if_pos (by omega) ?_
    by_cases h2 : bN s 0 < 248
    · rw [decide_eq_true (by omega)]
      exact j0t h1 h2
    · rw [decide_eq_false (by omega)]
      exact j1 (by omega)
  · exact ev_if_neg (by omega) (j1 (by omega))
end Go.Proofs.YtphbemkdhneklaaDoor.F
end
section
namespace Go.Proofs.YtphbemkdhneklaaDoor.F
open Go.RowKit Go.Proofs.YtphbemkdhneklaaDoorW.PrintWords Go.Proofs.YtphbemkdhneklaaDoorW.PrintLast Go.Proofs.YtphbemkdhneklaaDoorW.PrintMore
set_option linter.unusedVariables false
set_option linter.unusedSimpArgs false
theorem u8_back (x : UInt8) {n : Nat} (h : n = x.toNat) : UInt8.ofNat n = x := by subst h; exact UInt8.ofNat_toNat
theorem decode_back (L : List UInt8) (hne : L ≠ []) (h : Lib.decodeL L ≠ (65533, 1)) : isRune ((Lib.decodeL L).1 : Int) ∧ L = (enc1 ((Lib.decodeL L).1 : Int)).map (fun n => UInt8.ofNat n.toNat) ++ L.drop (Lib.decodeL L).2 := by
  rw [Lib.decodeL_N] at h ⊢
  rcases L with _ | ⟨x0, L⟩
  · exact absurd rfl hne
  simp only [List.getD_cons_zero, List.getD_cons_succ] at h ⊢
  have q0 := UInt8.toNat_lt x0
  generalize hd : Lib.decodeN (x0 :: L).length x0.toNat (L.getD 0 0).toNat (L.getD 1 0).toNat (L.getD 2 0).toNat = d at h ⊢
  unfold Lib.decodeN at hd
  by_cases c1 : x0.toNat < 128
  · rw [if_pos c1] at hd
    rw [← hd]
    refine ⟨.inl ⟨by simp only; omega, by simp only; omega⟩, ?_⟩
    simp only
    rw [enc1_nat, if_pos c1, u8_back x0 rfl]
    rfl
  rw [if_neg c1] at hd
  by_cases c2 : x0.toNat / 32 = 6 ∧ (1 < (x0 :: L).length ∧ (L.getD 0 0).toNat / 64 = 2)
  · rw [if_pos c2] at hd
    rcases L with _ | ⟨x1, L⟩
    · simp at c2
    simp only [List.getD_cons_zero] at hd c2
    have q1 := UInt8.toNat_lt x1
    split at hd
    · next c =>
      rw [← hd]
      generalize hm : x0.toNat % 32 * 64 + x1.toNat % 64 = m at *
      refine ⟨by unfold isRune; simp only; omega, ?_⟩
      simp only
      rw [enc1_nat, if_neg (by omega), if_pos (by omega), u8_back x0 (by omega), u8_back x1 (by omega)]
      rfl
    · exact absurd hd.symm h
  rw [if_neg c2] at hd
  by_cases c3 : x0.toNat / 16 = 14 ∧ (1 < (x0 :: L).length ∧ (L.getD 0 0).toNat / 64 = 2) ∧ (2 < (x0 :: L).length ∧ (L.getD 1 0).toNat / 64 = 2)
  · rw [if_pos c3] at hd
    rcases L with _ | ⟨x1, _ | ⟨x2, L⟩⟩
    · simp at c3
    · simp at c3
    simp only [List.getD_cons_zero, List.getD_cons_succ] at hd c3
    have q1 := UInt8.toNat_lt x1
    have q2 := UInt8.toNat_lt x2
    split at hd
    · next c =>
      rw [← hd]
      generalize hm : x0.toNat % 16 * 4096 + x1.toNat % 64 * 64 + x2.toNat % 64 = m at *
      refine ⟨by unfold isRune; simp only; omega, ?_⟩
      simp only
      rw [enc1_nat, if_neg (by omega), if_neg (by omega), if_pos (by omega), u8_back x0 (by omega), u8_back x1 (by omega), u8_back x2 (by omega)]
      rfl
    · exact absurd hd.symm h
  rw [if_neg c3] at hd
  by_cases c4 : x0.toNat / 8 = 30 ∧ (1 < (x0 :: L).length ∧ (L.getD 0 0).toNat / 64 = 2) ∧ (2 < (x0 :: L).length ∧ (L.getD 1 0).toNat / 64 = 2) ∧ (3 < (x0 :: L).length ∧ (L.getD 2 0).toNat / 64 = 2)
  · rw [if_pos c4] at hd
    rcases L with _ | ⟨x1, _ | ⟨x2, _ | ⟨x3, L⟩⟩⟩
    · simp at c4
    · simp at c4
    · simp at c4
    simp only [List.getD_cons_zero, List.getD_cons_succ] at hd c4
    have q1 := UInt8.toNat_lt x1
    have q2 := UInt8.toNat_lt x2
    have q3 := UInt8.toNat_lt x3
    split at hd
    · next c =>
      rw [← hd]
      generalize hm : x0.toNat % 8 * 262144 + x1.toNat % 64 * 4096 + x2.toNat % 64 * 64 + x3.toNat % 64 = m at *
      refine ⟨by unfold isRune; simp only; omega, ?_⟩
      simp only
      rw [enc1_nat, if_neg (by omega), if_neg (by omega), if_neg (by omega), u8_back x0 (by omega), u8_back x1 (by omega), u8_back x2 (by omega), u8_back x3 (by omega)]
      rfl
    · exact absurd hd.symm h
  rw [if_neg c4] at hd
  exact absurd hd.symm h
theorem valid_ex : ∀ (n : Nat) (L : List UInt8), L.length ≤ n → Lib.validD L = true → ∃ l, Runes l ∧ L = encL l
  | _, [], _, _ => ⟨[], Runes.nil, rfl⟩
  | 0, x :: L, h, _ => by simp at h
  | n + 1, x :: L, h, hv => by
    have hne : x :: L ≠ [] := by simp
    rw [Lib.validD_step _ hne] at hv
    have hw := Lib.decodeL_width (x :: L)
    split at hv
    · cases hv
    · next hc =>
      have hb := decode_back (x :: L) hne (fun e => hc (by rw [e]; exact ⟨rfl, rfl⟩))
      obtain ⟨l, hl, e⟩ := valid_ex n _ (by rw [List.length_drop]; simp only [List.length_cons] at h ⊢; omega) hv
      refine ⟨((Lib.decodeL (x :: L)).1 : Int) :: l, ?_, ?_⟩
      · intro r hr
        rcases List.mem_cons.1 hr with rfl | hr
        · exact hb.1
        · exact hl r hr
      · rw [encL_cons, ← e]
        exact hb.2
theorem valid_text (s : ByteArray) (h : Lib.validD s.data.toList = true) : ∃ l, Runes l ∧ s = encT l := by
  obtain ⟨l, hl, e⟩ := valid_ex _ _ (Nat.le_refl _) h
  refine ⟨l, hl, ?_⟩
  apply ByteArray.ext
  apply Array.ext'
  rw [e, encT_list]
theorem tail_list (s : ByteArray) (i : Nat) : (s.extract i s.size).data.toList = s.data.toList.drop i := by
  rw [ByteArray.data_extract, Array.toList_extract, List.extract_eq_take_drop]
  rw [List.take_of_length_le]
  rw [List.length_drop, data_length]
  exact Nat.le_refl _
theorem tail_size (s : ByteArray) (i : Nat) : (s.extract i s.size).size = s.size - i := by
  rw [← data_length, tail_list, List.length_drop, data_length]
def offs (l : List Int) : List Int := (List.range (l.length + 1)).map (fun i => ((encT (l.take i)).size : Int))
theorem offs_length (l : List Int) : (offs l).length = l.length + 1 := by simp [offs]
theorem offs_snoc (l : List Int) (r : Int) : offs (l ++ [r]) = offs l ++ [((encT (l ++ [r])).size : Int)] := by
  unfold offs
  rw [show (l ++ [r]).length + 1 = (l.length + 1) + 1 by simp, List.range_succ, List.map_append]
  congr 1
  · refine List.map_congr_left (fun i hi => ?_)
    have := List.mem_range.1 hi
    rw [List.take_append_of_le_length (by omega)]
  · rw [List.map_cons, List.map_nil, List.take_of_length_le (by simp)]
theorem starts_loop (l : List Int) (hl : Runes l) (hb : l.length ≤ 1099511627776) : ∀ (r pre : List Int), l = pre ++ r →
    Ev (fun k => epitomeref01_Starts.l0 k (encT l) (offs pre) ((encT pre).size : Int)) (offs l, true)
  | [], pre, h => by
    rw [List.append_nil] at h
    subst h
    refine Ev.step (f := fun _ => some (offs l, true)) (fun k => ?_) (Ev.now _)
    rw [epitomeref01_Starts.l0, if_neg (by omega)]
  | t :: r, pre, h => by
    have hbig := big_enc hb
    have hlt := encT_lt pre t r
    rw [← h] at hlt
    have hr : isRune t := hl t (by rw [h]; simp)
    have ih := starts_loop l hl hb r (pre ++ [t]) (by simp [h])
    rw [offs_snoc] at ih
    have hsn := encT_snoc_size pre t
    have e1 := enc1_length t
    have hll : pre.length + (r.length + 1) = l.length := by rw [h]; simp
    have hd : Lib.decodeL ((encT l).extract (encT pre).size (encT l).size).data.toList = (t.toNat, (enc1 t).length) := by
      rw [tail_list, Lib.decodeL_drop, h]
      exact decode_at_enc pre t r hr
    have hf : firstD ((encT l).extract (encT pre).size (encT l).size) = (t, ((enc1 t).length : Int)) := by
      unfold firstD
      rw [tail_size, if_neg (by omega), hd, if_neg]
      · have : ((t.toNat : Nat) : Int) = t := by unfold isRune at hr; omega
        rw [this]
      · intro e
        injection e with e1 e2
        have ht : t = 65533 := by unfold isRune at hr; omega
        subst ht
        simp [enc1] at e2
    refine Ev.step (f := fun k => _) (fun k => by rw [epitomeref01_Starts.l0, if_pos (by omega), if_pos (by omega), if_pos (by omega), Int.toNat_natCast]) ?_
    have hF := first_is ((encT l).extract (encT pre).size (encT l).size)
    rw [hf] at hF
    refine Ev.bind hF ?_
    refine ev_if_neg (show ¬ (((enc1 t).length : Int) = 0) by omega) (ev_if_pos (by rw [offs_length]; omega) ?_)
    rw [show wrap64 (((encT pre).size : Int) + ((enc1 t).length : Int)) = ((encT (pre ++ [t])).size : Int) by rw [w64 (by omega) (by omega)]; omega]
    exact ih
theorem starts_enc (l : List Int) (hl : Runes l) (hb : l.length ≤ 1099511627776) : Ev (fun k => epitomeref01_Starts.f k (encT l)) (offs l, true) := by
  unfold epitomeref01_Starts.f
  exact starts_loop l hl hb l [] rfl
theorem starts_bad_loop (s : ByteArray) (hs : s.size ≤ 4398046511104) : ∀ (n i : Nat) (acc : List Int), s.size ≤ i + n → i ≤ s.size → acc.length ≤ i + 1 → Lib.validD (s.data.toList.drop i) = false →
    Ev (fun k => epitomeref01_Starts.l0 k s acc (i : Int)) ([], false)
  | 0, i, acc, h1, h2, h3, hv => by
    have : s.data.toList.drop i = [] := List.drop_eq_nil_of_le (by rw [data_length]; omega)
    rw [this] at hv
    cases hv
  | n + 1, i, acc, h1, h2, h3, hv => by
    by_cases hne : s.data.toList.drop i = []
    · rw [hne] at hv
      cases hv
    have hlt : i < s.size := by
      rcases Nat.lt_or_ge i s.size with h | h
      · exact h
      · exact absurd (List.drop_eq_nil_of_le (by rw [data_length]; omega)) hne
    rw [Lib.validD_step _ hne] at hv
    have hw := Lib.decodeL_width (s.data.toList.drop i)
    refine Ev.step (f := fun k => _) (fun k => by rw [epitomeref01_Starts.l0, if_pos (by omega), if_pos (by omega), if_pos (by omega), Int.toNat_natCast]) ?_
    refine Ev.bind (first_is (s.extract i s.size)) ?_
    unfold firstD
    rw [tail_size, if_neg (by omega), tail_list]
    generalize hd : Lib.decodeL (s.data.toList.drop i) = d at *
    by_cases he : d = (65533, 1)
    · rw [if_pos he]
      exact ev_if_pos rfl (Ev.now _)
    · rw [if_neg he]
      refine ev_if_neg (show ¬ ((d.2 : Nat) : Int) = 0 by omega) (ev_if_pos (by omega) ?_)
      have hn : ¬ (d.1 = 65533 ∧ d.2 = 1) := fun e => he (Prod.ext e.1 e.2)
      rw [if_neg hn, List.drop_drop] at hv
      have hin : i + d.2 ≤ s.size := by
        rcases Nat.lt_or_ge s.size (i + d.2) with h | h
        · exfalso
          rw [List.drop_eq_nil_of_le (by rw [data_length]; omega)] at hv
          cases hv
        · exact h
      rw [show wrap64 ((i : Int) + (d.2 : Int)) = ((i + d.2 : Nat) : Int) by rw [w64 (by omega) (by omega)]; omega]
      exact starts_bad_loop s hs n (i + d.2) _ (by omega) hin (by simp; omega) hv
theorem starts_bad (s : ByteArray) (hs : s.size ≤ 4398046511104) (h : Lib.validD s.data.toList = false) : Ev (fun k => epitomeref01_Starts.f k s) ([], false) := by
  unfold epitomeref01_Starts.f
  exact starts_bad_loop s hs s.size 0 [0] (by omega) (by omega) (by simp) (by simpa using h)
theorem refValid_is (s : ByteArray) (hs : s.size ≤ 1099511627776) : Ev (fun k => epitomeref01_Valid.f k s) (Lib.validD s.data.toList) := by
  unfold epitomeref01_Valid.f
  cases h : Lib.validD s.data.toList with
  | true =>
    obtain ⟨l, hl, rfl⟩ := valid_text s h
    have := (encT_size l).1
    exact Ev.bind (starts_enc l hl (by omega)) (Ev.now _)
  | false => exact Ev.bind (starts_bad s (by omega) h) (Ev.now _)
theorem refCount_enc (l : List Int) (hl : Runes l) (hb : l.length ≤ 1099511627776) : Ev (fun k => epitomeref01_Count.f k (encT l)) (l.length : Int) := by
  unfold epitomeref01_Count.f
  refine Ev.bind (starts_enc l hl hb) ?_
  rw [offs_length, w64 (by omega) (by omega), show (((l.length + 1 : Nat) : Int) - 1) = (l.length : Int) by omega]
  exact Ev.now _
end Go.Proofs.YtphbemkdhneklaaDoor.F
end
section
namespace Go.Proofs.YtphbemkdhneklaaDoor.F
open Go.RowKit Go.Proofs.YtphbemkdhneklaaDoorW.PrintWords Go.Proofs.YtphbemkdhneklaaDoorW.PrintLast Go.Proofs.YtphbemkdhneklaaDoorW.PrintMore
set_option linter.unusedVariables false
set_option linter.unusedSimpArgs false
def spMayD (s : Sp) : Int := if s.f0 = 1 ∨ s.f0 = 3 then (if s.f1 < 0 ∨ s.f1 > 1048576 then 2 else if s.f2.toList = [] then 0 else 3) else if s.f0 = 2 then (if s.f1 = 0 then (if Lib.validD s.f2.data.toList = true then 0 else 3) else 2) else 1
theorem spanMay_all (s : Sp) (hs : s.f2.size ≤ 1099511627776) : Ev (fun k => span_May.f k s.f0 s.f1 s.f2) (spMayD s) := by
  obtain ⟨a0, a1, a2⟩ := s
  simp only at hs ⊢
  have hv : points_Valid.f a2 = some (Lib.validD a2.data.toList) := valid_some (by omega) rfl
  have j1t : ∀ x b, Ev (fun k => span_May.j1 k true a0 a1 a2 x b) 2 := by
    intro x b
    refine Ev.step (f := fun _ => some 2) (fun k => ?_) (Ev.now _)
    rw [span_May.j1, if_pos rfl]
  have j0t : ∀ x b, Ev (fun k => span_May.j0 k true a0 a1 a2 x b) 2 := by
    intro x b
    refine Ev.step (fun k => ?_) (j1t x b)
    rw [span_May.j0, if_pos rfl]
  have j2f : ∀ v, (if Lib.validD a2.data.toList = true then (0 : Int) else 3) = v → Ev (fun k => span_May.j2 k false a0 a1 a2) v := by
    rintro v rfl
    refine Ev.step (f := fun _ => some (if Lib.validD a2.data.toList = true then (0 : Int) else 3)) (fun k => ?_) (Ev.now _)
    rw [span_May.j2, if_neg (by simp), hv, Option.bind_some]
    split <;> rfl
  have takes : ∀ (k3 : Int) (b : Bool), a0 = k3 → (k3 = 1 ∨ k3 = 3) → span_of.f a0 a1 a2 = some (true, b, true) → Ev (fun k => span_May.f k a0 a1 a2) (spMayD ⟨a0, a1, a2⟩) := by
    intro k3 b e0 e1 e2
    unfold span_May.f spMayD
    simp only
    rw [if_pos (by omega)]
    refine ev_some e2 (ev_if_pos rfl (ev_if_pos rfl ?_))
    by_cases c1 : a1 < 0
    · rw [if_pos (.inl c1)]
      exact ev_if_pos c1 (j0t _ _)
    · refine ev_if_neg c1 ?_
      by_cases c2 : a1 > 1048576
      · rw [if_pos (.inr c2), decide_eq_true c2]
        exact j0t _ _
      · rw [if_neg (by omega), decide_eq_false c2]
        refine Ev.step (f := fun k => span_May.j1 k false a0 a1 a2 true b) (fun k => by rw [span_May.j0, if_neg (by simp), if_pos rfl]) ?_
        refine Ev.step (f := fun k => span_May.j2 k (a2.toList != []) a0 a1 a2) (fun k => by rw [span_May.j1, if_neg (by simp), if_pos rfl]) ?_
        by_cases c3 : a2.toList = []
        · rw [if_pos c3, show (a2.toList != ([] : List UInt8)) = false by simp [c3]]
          refine j2f 0 ?_
          have : a2.data.toList = [] := by rw [← ByteArray.toList_eq, c3]
          rw [this]
          rfl
        · rw [if_neg c3, show (a2.toList != ([] : List UInt8)) = true by simp [c3]]
          refine Ev.step (f := fun _ => some 3) (fun k => ?_) (Ev.now _)
          rw [span_May.j2, if_pos rfl]
  by_cases c1 : a0 = 1
  · subst c1
    exact takes 1 true rfl (.inl rfl) rfl
  by_cases c3 : a0 = 3
  · subst c3
    exact takes 3 false rfl (.inr rfl) rfl
  unfold span_May.f spMayD
  simp only
  rw [if_neg (by omega)]
  by_cases c2 : a0 = 2
  · subst c2
    rw [if_pos rfl]
    refine ev_some (show span_of.f 2 a1 a2 = some (false, false, true) from rfl) (ev_if_pos rfl (ev_if_neg (by simp) ?_))
    refine Ev.step (f := fun k => span_May.j1 k (a1 != 0) 2 a1 a2 false false) (fun k => by rw [span_May.j0, if_neg (by simp), if_neg (by simp)]) ?_
    by_cases c4 : a1 = 0
    · rw [if_pos c4, show (a1 != 0) = false by simp [c4]]
      refine Ev.step (fun k => ?_) (j2f _ rfl)
      rw [span_May.j1, if_neg (by simp), if_neg (by simp)]
    · rw [if_neg c4, show (a1 != 0) = true by simp [c4]]
      exact j1t _ _
  · rw [if_neg c2]
    have : span_of.f a0 a1 a2 = some (false, false, false) := by unfold span_of.f; rw [if_neg c1, if_neg c2, if_neg c3]
    exact ev_some this (ev_if_neg (by simp) (Ev.now _))
theorem refMay_all (s : Sp) (hs : s.f2.size ≤ 1099511627776) : Ev (fun k => epitomeref03_May.f k s.f0 s.f1 s.f2) (spMayD s) := by
  obtain ⟨a0, a1, a2⟩ := s
  simp only at hs ⊢
  have j1t : Ev (fun k => epitomeref03_May.j1 k true a0 a1 a2) 2 := by
    refine Ev.step (f := fun _ => some 2) (fun k => ?_) (Ev.now _)
    rw [epitomeref03_May.j1, if_pos rfl]
  have takes : (a0 = 1 ∨ a0 = 3) → Ev (fun k => epitomeref03_May.j0 k a0 true a0 a1 a2) (spMayD ⟨a0, a1, a2⟩) := by
    intro e
    refine Ev.step (f := fun k => _) (fun k => by rw [epitomeref03_May.j0, if_pos rfl]) ?_
    unfold spMayD
    simp only
    rw [if_pos e]
    by_cases c1 : a1 < 0
    · rw [if_pos (.inl c1)]
      exact ev_if_pos c1 j1t
    · refine ev_if_neg c1 ?_
      by_cases c2 : a1 > 1048576
      · rw [if_pos (.inr c2), decide_eq_true c2]
        exact j1t
      · rw [if_neg (by omega), decide_eq_false c2]
        refine Ev.step (f := fun _ => some (if a2.toList = [] then 0 else 3)) (fun k => ?_) (Ev.now _)
        rw [epitomeref03_May.j1, if_neg (by simp)]
        split <;> rfl
  unfold epitomeref03_May.f
  by_cases c1 : a0 = 1
  · refine ev_if_pos c1 ?_
    rw [show (a0 == 1) = true by simp [c1]]
    exact takes (.inl c1)
  refine ev_if_neg c1 ?_
  by_cases c3 : a0 = 3
  · rw [show (a0 == 3) = true by simp [c3]]
    exact takes (.inr c3)
  rw [show (a0 == 3) = false by simp [c3]]
  refine Ev.step (f := fun k => _) (fun k => by rw [epitomeref03_May.j0, if_neg (by simp)]) ?_
  unfold spMayD
  simp only
  rw [if_neg (by omega)]
  by_cases c2 : a0 = 2
  · rw [if_pos c2]
    refine ev_if_pos c2 ?_
    by_cases c4 : a1 = 0
    · rw [if_pos c4]
      refine ev_if_pos c4 (Ev.bind (refValid_is a2 hs) ?_)
      by_cases c5 : Lib.validD a2.data.toList = true
      · simp only [if_pos c5]
        exact Ev.now _
      · simp only [if_neg c5]
        exact Ev.now _
    · rw [if_neg c4]
      exact ev_if_neg c4 (Ev.now _)
  · rw [if_neg c2]
    exact ev_if_neg c2 (Ev.now _)
theorem spMay_un (s : Sp) (hs : s.f2.size ≤ 1099511627776) (h : spMayD s = 0) : ∃ u : Un, s = u.sp ∧ u.ok ∧ u.cin ≤ 1048576 ∧ u.cout ≤ 1048576 + s.f2.size := by
  obtain ⟨a0, a1, a2⟩ := s
  unfold spMayD at h
  simp only at h hs
  have emp : a2.toList = [] → a2 = ⟨#[]⟩ := by
    intro e
    apply toList_inj
    rw [e, ByteArray.toList_eq]
  split at h
  · next c =>
    split at h
    · omega
    · next c1 =>
      split at h
      · next c2 =>
        have := emp c2
        subst this
        obtain ⟨n, rfl⟩ : ∃ n : Nat, a1 = (n : Int) := ⟨a1.toNat, by omega⟩
        rcases c with rfl | rfl
        · exact ⟨.keep n, rfl, trivial, by show n ≤ _; omega, by show n ≤ _; omega⟩
        · exact ⟨.drop n, rfl, trivial, by show n ≤ _; omega, Nat.zero_le _⟩
      · omega
  · split at h
    · next c =>
      split at h
      · next c1 =>
        split at h
        · next c2 =>
          obtain ⟨l, hl, rfl⟩ := valid_text a2 c2
          subst c
          subst c1
          have := (encT_size l).1
          exact ⟨.put l, rfl, hl, Nat.zero_le _, by show l.length ≤ 1048576 + (encT l).size; omega⟩
        · omega
      · omega
    · omega
def opMayD : List Sp → Int
  | [] => 0
  | s :: r => if spMayD s = 0 then opMayD r else spMayD s
theorem opMay_un : ∀ (l : List Sp), (∀ s ∈ l, s.f2.size ≤ 1048576) → opMayD l = 0 → ∃ us : List Un, l = us.map Un.sp ∧ (∀ u ∈ us, u.ok) ∧ (us.map Un.cin).sum ≤ 1048576 * l.length ∧ (us.map Un.cout).sum ≤ 2097152 * l.length
  | [], _, _ => ⟨[], rfl, by simp, by simp, by simp⟩
  | s :: r, h, e => by
    rw [opMayD] at e
    have hs := h s (by simp)
    split at e
    · next c =>
      obtain ⟨u, e1, e2, e3, e4⟩ := spMay_un s (by omega) c
      obtain ⟨us, d1, d2, d3, d4⟩ := opMay_un r (fun x hx => h x (by simp [hx])) e
      refine ⟨u :: us, by rw [e1, d1]; rfl, ?_, ?_, ?_⟩
      · intro v hv
        rcases List.mem_cons.1 hv with rfl | hv
        · exact e2
        · exact d2 v hv
      · simp only [List.map_cons, List.sum_cons, List.length_cons]; omega
      · simp only [List.map_cons, List.sum_cons, List.length_cons]; omega
    · next c => exact absurd e c
theorem rowSum_big (l : List Un) (hl : l.length ≤ 2097152) (hc : (l.map Un.cin).sum ≤ 4611686018427387904) : ∀ (r pre : List Un), l = pre ++ r →
    Ev (fun k => op_row_sum.l0 k (((pre.map Un.cin).sum : Nat) : Int) (l.map Un.sp) ((l.map Un.sp).length : Int) (pre.length : Int)) (((l.map Un.cin).sum : Nat) : Int) ∧
    Ev (fun k => epitomeref04_In.l0 k (l.map Un.sp) (((pre.map Un.cin).sum : Nat) : Int) (pre.length : Int)) (((l.map Un.cin).sum : Nat) : Int)
  | [], pre, h => by
    refine ⟨Ev.step (f := fun _ => some (((l.map Un.cin).sum : Nat) : Int)) (fun k => ?_) (Ev.now _), Ev.step (f := fun _ => some (((l.map Un.cin).sum : Nat) : Int)) (fun k => ?_) (Ev.now _)⟩
    · rw [op_row_sum.l0, if_neg (by subst h; simp)]
      subst h
      simp
    · rw [epitomeref04_In.l0, if_neg (by subst h; simp)]
      subst h
      simp
  | u :: r, pre, h => by
    have hlt : (pre.length : Int) < ((l.map Un.sp).length : Int) := by subst h; simp <;> omega
    have hll : pre.length + (r.length + 1) = l.length := by subst h; simp
    have hrd : rd_T51 (l.map Un.sp) (pre.length : Int) = u.sp := by
      rw [h, List.map_append, List.map_cons]
      exact rdS_at (by simp)
    have hs : (l.map Un.cin).sum = (pre.map Un.cin).sum + (u.cin + (r.map Un.cin).sum) := by rw [h]; simp
    have ih := rowSum_big l hl hc r (pre ++ [u]) (by simp [h])
    have hin : epitomeref03_In.f u.sp.f0 u.sp.f1 u.sp.f2 = some (u.cin : Int) := by cases u <;> rfl
    refine ⟨Ev.step (fun k => ?_) ih.1, Ev.step (fun k => ?_) ih.2⟩
    · rw [op_row_sum.l0, if_pos hlt, if_pos (by omega), if_pos hlt, hrd, spanIn_is, Option.bind_some, w64_succ _ (by omega), w64 (by omega) (by omega)]
      simp
    · rw [epitomeref04_In.l0, if_pos hlt, if_pos (by omega), hrd, hin, Option.bind_some, w64_succ _ (by omega), w64 (by omega) (by omega)]
      simp
theorem refIn_is {us : List Un} (h : Ok us) : Ev (fun k => epitomeref04_In.f k (us.map Un.sp)) (((us.map Un.cin).sum : Nat) : Int) := by
  unfold epitomeref04_In.f
  have hc := h.cin
  exact (rowSum_big us h.len (by omega) us [] rfl).2
theorem may_loop (l : List Sp) (hl : l.length ≤ 2097152) (hz : ∀ s ∈ l, s.f2.size ≤ 1048576) (e : Int) (hin : opMayD l = 0 → Ev (fun k => (op_In.f k l).bind fun t104 => if t104 > 1048576 then some 4 else some 0) e ∧ Ev (fun k => (epitomeref04_In.f k l).bind fun t104 => if t104 > 1048576 then some 4 else some 0) e) (hno : opMayD l ≠ 0 → e = opMayD l) :
    ∀ (r pre : List Sp), l = pre ++ r → opMayD l = opMayD r →
    Ev (fun k => op_May.l0 k l l (l.length : Int) (pre.length : Int)) e ∧ Ev (fun k => epitomeref04_May.l0 k l (pre.length : Int)) e
  | [], pre, h, hm => by
    have := hin hm
    refine ⟨Ev.step (fun k => ?_) this.1, Ev.step (fun k => ?_) this.2⟩
    · rw [op_May.l0, if_neg (by subst h; simp)]
    · rw [epitomeref04_May.l0, if_neg (by subst h; simp)]
  | s :: r, pre, h, hm => by
    have hlt : (pre.length : Int) < (l.length : Int) := by subst h; simp <;> omega
    have hll : pre.length + (r.length + 1) = l.length := by subst h; simp
    have hrd : rd_T51 l (pre.length : Int) = s := by
      rw [h]
      exact rdS_at rfl
    have hs := hz s (by rw [h]; simp)
    by_cases c : spMayD s = 0
    · rw [opMayD, if_pos c] at hm
      have ih := may_loop l hl hz e hin hno r (pre ++ [s]) (by simp [h]) hm
      refine ⟨Ev.step (f := fun k => _) (fun k => by rw [op_May.l0, if_pos hlt, if_pos (by omega), if_pos hlt, hrd, w64_succ _ (by omega)]) ?_, Ev.step (f := fun k => _) (fun k => by rw [epitomeref04_May.l0, if_pos hlt, if_pos (by omega), hrd, w64_succ _ (by omega)]) ?_⟩
      · refine Ev.bind (spanMay_all s (by omega)) (ev_if_pos c ?_)
        simpa using ih.1
      · refine Ev.bind (refMay_all s (by omega)) (ev_if_pos c ?_)
        simpa using ih.2
    · rw [opMayD, if_neg c] at hm
      have he : e = spMayD s := by rw [hno (by rw [hm]; exact c), hm]
      subst he
      refine ⟨Ev.step (f := fun k => _) (fun k => by rw [op_May.l0, if_pos hlt, if_pos (by omega), if_pos hlt, hrd, w64_succ _ (by omega)]) ?_, Ev.step (f := fun k => _) (fun k => by rw [epitomeref04_May.l0, if_pos hlt, if_pos (by omega), hrd, w64_succ _ (by omega)]) ?_⟩
      · exact Ev.bind (spanMay_all s (by omega)) (ev_if_neg c (Ev.now _))
      · exact Ev.bind (refMay_all s (by omega)) (ev_if_neg c (Ev.now _))
theorem may_all (l : List Sp) (hl : l.length ≤ 500000) (hz : ∀ s ∈ l, s.f2.size ≤ 1048576) : ∃ e : Int, Ev (fun k => op_May.f k l) e ∧ Ev (fun k => epitomeref04_May.f k l) e ∧ (e = 0 → ∃ us, l = us.map Un.sp ∧ Ok us) := by
  unfold op_May.f epitomeref04_May.f
  by_cases h0 : opMayD l = 0
  · obtain ⟨us, e1, e2, e3, e4⟩ := opMay_un l hz h0
    have hul : us.length = l.length := by rw [e1]; simp
    have hsum := rowSum_big us (by omega) (by omega) us [] rfl
    have i1 : Ev (fun k => op_In.f k l) (((us.map Un.cin).sum : Nat) : Int) := by
      unfold op_In.f op_row_sum.f
      rw [e1]
      exact Ev.bind hsum.1 (Ev.now _)
    have i2 : Ev (fun k => epitomeref04_In.f k l) (((us.map Un.cin).sum : Nat) : Int) := by
      unfold epitomeref04_In.f
      rw [e1]
      exact hsum.2
    by_cases hb : (us.map Un.cin).sum ≤ 1048576
    · have := may_loop l (by omega) hz 0 (fun _ => ⟨Ev.bind i1 (ev_if_neg (by omega) (Ev.now _)), Ev.bind i2 (ev_if_neg (by omega) (Ev.now _))⟩) (fun h => absurd h0 h) l [] rfl rfl
      exact ⟨0, this.1, this.2, fun _ => ⟨us, e1, e2, by omega, hb, by omega⟩⟩
    · have := may_loop l (by omega) hz 4 (fun _ => ⟨Ev.bind i1 (ev_if_pos (by omega) (Ev.now _)), Ev.bind i2 (ev_if_pos (by omega) (Ev.now _))⟩) (fun h => absurd h0 h) l [] rfl rfl
      exact ⟨4, this.1, this.2, fun h => by omega⟩
  · have := may_loop l (by omega) hz (opMayD l) (fun h => absurd h h0) (fun _ => rfl) l [] rfl rfl
    exact ⟨opMayD l, this.1, this.2, fun h => absurd h h0⟩
end Go.Proofs.YtphbemkdhneklaaDoor.F
end
section
namespace Go.Proofs.YtphbemkdhneklaaDoor.F
open Go.RowKit Go.Proofs.YtphbemkdhneklaaDoorW.PrintWords Go.Proofs.YtphbemkdhneklaaDoorW.PrintLast Go.Proofs.YtphbemkdhneklaaDoorW.PrintMore
set_option linter.unusedVariables false
set_option linter.unusedSimpArgs false
theorem refSpanIn_is (u : Un) : epitomeref03_In.f u.sp.f0 u.sp.f1 u.sp.f2 = some (u.cin : Int) := by cases u <;> rfl
theorem refSpanOut_is (u : Un) (h : u.ok) (h2 : u.cout ≤ 1099511627776) : Ev (fun k => epitomeref03_Out.f k u.sp.f0 u.sp.f1 u.sp.f2) (u.cout : Int) := by
  unfold epitomeref03_Out.f
  cases u with
  | keep n => exact Ev.now _
  | put l =>
    refine ev_if_neg (by simp [Un.sp]) (ev_if_pos rfl (Ev.bind (refCount_enc l h h2) ?_))
    rw [show mx (l.length : Int) 0 = (l.length : Int) by unfold mx; rw [if_neg (by omega)]]
    exact Ev.now _
  | drop n => exact Ev.now _
theorem refWhere_loop (l : List Un) (hl : Ok l) (gap : Nat) (hg : gap ≤ 1048576) : ∀ (r pre : List Un) (i o : Nat), l = pre ++ r → i + (r.map Un.cin).sum ≤ 2097152 → o + (r.map Un.cout).sum ≤ 1099511627776 →
    Ev (fun k => epitomeref08_where.l0 k (l.map Un.sp) (gap : Int) (o : Int) (i : Int) (pre.length : Int)) (if i ≤ gap then ((o + whereU (exU r) (gap - i) : Nat) : Int) else (o : Int))
  | [], pre, i, o, h, _, _ => by
    refine Ev.step (f := fun k => epitomeref08_where.j1 k (l.map Un.sp) (gap : Int) (o : Int) (i : Int) (pre.length : Int) false) (fun k => ?_) ?_
    · rw [epitomeref08_where.l0, if_neg (by subst h; simp)]
    · refine Ev.step (f := fun _ => some (o : Int)) (fun k => ?_) ?_
      · rw [epitomeref08_where.j1, if_neg (by simp)]
      · have : (if i ≤ gap then ((o + whereU (exU []) (gap - i) : Nat) : Int) else (o : Int)) = (o : Int) := by split <;> rfl
        rw [this]
        exact Ev.now _
  | u :: r, pre, i, o, h, hi, ho => by
    have hlt : (pre.length : Int) < ((l.map Un.sp).length : Int) := by subst h; simp <;> omega
    have hll : pre.length + (r.length + 1) = l.length := by subst h; simp
    have hle := hl.len
    have hrd : rd_T51 (l.map Un.sp) (pre.length : Int) = u.sp := by
      rw [h, List.map_append, List.map_cons]
      exact rdS_at (by simp)
    have hok := hl.ok u (by rw [h]; simp)
    have hco := hl.cout_mem (u := u) (by rw [h]; simp)
    have ih := fun i o => refWhere_loop l hl gap hg r (pre ++ [u]) i o (by simp [h])
    simp only [List.map_cons, List.sum_cons] at hi ho
    refine Ev.step (f := fun k => epitomeref08_where.j1 k (l.map Un.sp) (gap : Int) (o : Int) (i : Int) (pre.length : Int) (decide ((i : Int) ≤ (gap : Int)))) (fun k => by rw [epitomeref08_where.l0, if_pos hlt]) ?_
    by_cases hc : i ≤ gap
    · rw [if_pos hc, decide_eq_true (by omega), exU_cons]
      have next : ∀ (o2 : Nat) (v : Int), o2 + (r.map Un.cout).sum ≤ 1099511627776 → (if i + u.cin ≤ gap then ((o2 + whereU (exU r) (gap - (i + u.cin)) : Nat) : Int) else (o2 : Int)) = v →
          Ev (fun k => epitomeref08_where.l0 k (l.map Un.sp) (gap : Int) (o2 : Int) (wrap64 ((i : Int) + (u.cin : Int))) (wrap64 ((pre.length : Int) + 1))) v := by
        rintro o2 v h1 rfl
        have := ih (i + u.cin) o2 (by omega) h1
        rw [w64 (by omega) (by omega), w64_succ _ (by omega)]
        rw [List.length_append] at this
        exact this
      cases u with
      | keep n =>
        have hw : wrap64 ((gap : Int) - (i : Int)) = (gap : Int) - (i : Int) := w64 (by omega) (by omega)
        have hm : wrap64 ((o : Int) + mn (n : Int) ((gap : Int) - (i : Int))) = ((o + min n (gap - i) : Nat) : Int) := by
          have : mn (n : Int) ((gap : Int) - (i : Int)) = ((min n (gap - i) : Nat) : Int) := by unfold mn; split <;> omega
          rw [this, w64 (by omega) (by have : (Un.keep n).cout = n := rfl; omega)]
          omega
        have hn := next (o + min n (gap - i)) ((o + whereU ((Un.keep n).ex ++ exU r) (gap - i) : Nat) : Int) (by have : (Un.keep n).cout = n := rfl; omega) (by
          rw [show (Un.keep n).ex = List.replicate n .k from rfl, where_keeps, show (Un.keep n).cin = n from rfl]
          by_cases hh : gap - i < n
          · rw [if_neg (by omega), if_pos hh, Nat.min_eq_right (by omega)]
          · rw [if_pos (by omega), if_neg hh, Nat.min_eq_left (by omega), show gap - (i + n) = gap - i - n by omega]; omega)
        refine Ev.step (f := fun k => epitomeref08_where.j2 k (l.map Un.sp) (gap : Int) ((o + min n (gap - i) : Nat) : Int) (i : Int) (pre.length : Int)) (fun k => ?_) ?_
        · rw [epitomeref08_where.j1, if_pos rfl, if_pos (by omega), if_pos hlt, hrd, if_pos (show (Un.keep n).sp.f0 = 1 from rfl), show (Un.keep n).sp.f1 = (n : Int) from rfl, hw, hm]
        · refine Ev.step (fun k => ?_) hn
          rw [epitomeref08_where.j2, if_pos (by omega), if_pos hlt, hrd, if_neg (show ¬ (Un.keep n).sp.f0 = 2 by simp [Un.sp]), refSpanIn_is, Option.bind_some]
      | put t =>
        have hn := next (o + t.length) ((o + whereU ((Un.put t).ex ++ exU r) (gap - i) : Nat) : Int) (by have : (Un.put t).cout = t.length := rfl; omega) (by
          rw [show (Un.put t).ex = t.map .p from rfl, where_puts, show (Un.put t).cin = 0 from rfl, if_pos (by omega), Nat.add_zero]; omega)
        refine Ev.step (f := fun k => epitomeref08_where.j2 k (l.map Un.sp) (gap : Int) (o : Int) (i : Int) (pre.length : Int)) (fun k => ?_) ?_
        · rw [epitomeref08_where.j1, if_pos rfl, if_pos (by omega), if_pos hlt, hrd, if_neg (show ¬ (Un.put t).sp.f0 = 1 by simp [Un.sp])]
        · have hk : wrap64 ((o : Int) + ((Un.put t).cout : Int)) = ((o + t.length : Nat) : Int) := by
            have : (Un.put t).cout = t.length := rfl
            rw [this, w64 (by omega) (by omega)]; omega
          refine Ev.step (f := fun k => (epitomeref03_Out.f k (Un.put t).sp.f0 (Un.put t).sp.f1 (Un.put t).sp.f2).bind fun t105 => epitomeref08_where.l0 k (l.map Un.sp) (gap : Int) (wrap64 ((o : Int) + t105)) (wrap64 ((i : Int) + ((Un.put t).cin : Int))) (wrap64 ((pre.length : Int) + 1))) (fun k => ?_) ?_
          · rw [epitomeref08_where.j2, if_pos (by omega), if_pos hlt, hrd, if_pos (show (Un.put t).sp.f0 = 2 from rfl)]
            simp only [refSpanIn_is, Option.bind_some]
          · refine Ev.bind (refSpanOut_is (.put t) hok hco) ?_
            rw [hk]
            exact hn
      | drop n =>
        have hn := next o ((o + whereU ((Un.drop n).ex ++ exU r) (gap - i) : Nat) : Int) (by omega) (by
          rw [show (Un.drop n).ex = List.replicate n .d from rfl, where_drops, show (Un.drop n).cin = n from rfl]
          by_cases hh : gap - i < n
          · rw [if_neg (by omega), if_pos hh]; rfl
          · rw [if_pos (by omega), if_neg hh, show gap - (i + n) = gap - i - n by omega])
        refine Ev.step (f := fun k => epitomeref08_where.j2 k (l.map Un.sp) (gap : Int) (o : Int) (i : Int) (pre.length : Int)) (fun k => ?_) ?_
        · rw [epitomeref08_where.j1, if_pos rfl, if_pos (by omega), if_pos hlt, hrd, if_neg (show ¬ (Un.drop n).sp.f0 = 1 by simp [Un.sp])]
        · refine Ev.step (fun k => ?_) hn
          rw [epitomeref08_where.j2, if_pos (by omega), if_pos hlt, hrd, if_neg (show ¬ (Un.drop n).sp.f0 = 2 by simp [Un.sp]), refSpanIn_is, Option.bind_some]
    · rw [if_neg hc, decide_eq_false (by omega)]
      refine Ev.step (f := fun _ => some (o : Int)) (fun k => ?_) (Ev.now _)
      rw [epitomeref08_where.j1, if_neg (by simp)]
theorem refWhere_is {us : List Un} (h : Ok us) (g : Nat) (hg : g ≤ 1048576) : Ev (fun k => epitomeref08_where.f k (us.map Un.sp) (g : Int)) ((whereU (exU us) g : Nat) : Int) := by
  have h1 := h.cin
  have h2 := h.cout
  have := refWhere_loop us h g hg us [] 0 0 rfl (by omega) (by omega)
  rw [if_pos (Nat.zero_le _), Nat.zero_add, Nat.sub_zero] at this
  exact this
theorem refLeast_loop {us : List Un} (h : Ok us) (t : Nat) (ht : t ≤ coutU (exU us)) : ∀ (n low high : Nat), high - low ≤ n → low ≤ leastU (exU us) t → leastU (exU us) t ≤ high → high ≤ cinU (exU us) →
    Ev (fun k => epitomeref08_Least.l0 k (us.map Un.sp) (t : Int) (low : Int) (high : Int)) (((leastU (exU us) t : Nat) : Int), 0) := by
  intro n
  induction n with
  | zero =>
    intro low high h1 h2 h3 h4
    refine Ev.step (f := fun _ => some ((low : Int), 0)) (fun k => ?_) ?_
    · rw [epitomeref08_Least.l0, if_neg (by omega)]
    · rw [show leastU (exU us) t = low by omega]
      exact Ev.now _
  | succ n ih =>
    intro low high h1 h2 h3 h4
    have hci := h.cin
    have hce := cinU_ex us
    by_cases hlt : low < high
    · obtain ⟨m, hm⟩ : ∃ m, (low + high) / 2 = m := ⟨_, rfl⟩
      have hmid : Aside0 (wrap64 (Int.tdiv (wrap64 ((low : Int) + (high : Int))) 2) = (m : Int)) := ⟨by
        rw [w64 (x := (low : Int) + (high : Int)) (by omega) (by omega)]
        rw [Int.tdiv_eq_ediv_of_nonneg (by omega)]
        rw [w64 (by omega) (by omega)]
        omega⟩
      have hw := least_where (exU us) m t (by omega) ht
      refine Ev.step (f := fun k => (epitomeref08_where.f k (us.map Un.sp) (m : Int)).bind fun t104 => if t104 ≥ (t : Int) then epitomeref08_Least.l0 k (us.map Un.sp) (t : Int) (low : Int) (m : Int) else epitomeref08_Least.l0 k (us.map Un.sp) (t : Int) (wrap64 ((m : Int) + 1)) (high : Int)) (fun k => ?_) ?_
      · rw [epitomeref08_Least.l0, if_pos (by omega), hmid.out]
      · refine Ev.bind (refWhere_is h m (by omega)) ?_
        by_cases hc : t ≤ whereU (exU us) m
        · exact ev_if_pos (by omega) (ih low m (by omega) h2 (hw.2 hc) (by omega))
        · have : ¬ leastU (exU us) t ≤ m := fun hh => hc (hw.1 hh)
          refine ev_if_neg (by omega) ?_
          rw [w64_succ _ (by omega)]
          exact ih (m + 1) high (by omega) (by omega) h3 h4
    · refine Ev.step (f := fun _ => some ((low : Int), 0)) (fun k => ?_) ?_
      · rw [epitomeref08_Least.l0, if_neg (by omega)]
      · rw [show leastU (exU us) t = low by omega]
        exact Ev.now _
theorem refOut_loop (l : List Un) (hl : Ok l) : ∀ (r pre : List Un), l = pre ++ r →
    Ev (fun k => epitomeref04_Out.l0 k (l.map Un.sp) (((pre.map Un.cout).sum : Nat) : Int) (pre.length : Int)) (((l.map Un.cout).sum : Nat) : Int)
  | [], pre, h => by
    rw [List.append_nil] at h
    subst h
    refine Ev.step (f := fun _ => some (((l.map Un.cout).sum : Nat) : Int)) (fun k => ?_) (Ev.now _)
    rw [epitomeref04_Out.l0, if_neg (by simp)]
  | u :: r, pre, h => by
    have hlt : (pre.length : Int) < ((l.map Un.sp).length : Int) := by subst h; simp <;> omega
    have hll : pre.length + (r.length + 1) = l.length := by subst h; simp
    have hle := hl.len
    have hco := hl.cout
    have hrd : rd_T51 (l.map Un.sp) (pre.length : Int) = u.sp := by
      rw [h, List.map_append, List.map_cons]
      exact rdS_at (by simp)
    have ih := refOut_loop l hl r (pre ++ [u]) (by simp [h])
    have hs : ((pre ++ [u]).map Un.cout).sum = (pre.map Un.cout).sum + u.cout := by simp
    have hle2 : (pre.map Un.cout).sum + u.cout ≤ (l.map Un.cout).sum := by rw [h]; simp <;> omega
    rw [hs, List.length_append] at ih
    refine Ev.step (f := fun k => (epitomeref03_Out.f k u.sp.f0 u.sp.f1 u.sp.f2).bind fun t => epitomeref04_Out.l0 k (l.map Un.sp) (wrap64 ((((pre.map Un.cout).sum : Nat) : Int) + t)) (wrap64 ((pre.length : Int) + 1))) (fun k => ?_) ?_
    · rw [epitomeref04_Out.l0, if_pos hlt, if_pos (by omega), hrd]
    · refine Ev.bind (refSpanOut_is u (hl.ok u (by rw [h]; simp)) (hl.cout_mem (by rw [h]; simp))) ?_
      rw [w64 (by omega) (by omega), w64_succ _ (by omega)]
      exact ih
theorem refOut_is {us : List Un} (h : Ok us) : Ev (fun k => epitomeref04_Out.f k (us.map Un.sp)) (((us.map Un.cout).sum : Nat) : Int) := by
  unfold epitomeref04_Out.f
  exact refOut_loop us h us [] rfl
theorem where_all_ops (l : List Sp) (hl : l.length ≤ 500000) (hz : ∀ s ∈ l, s.f2.size ≤ 1048576) (g : Int) : ∃ r : Int × Int, Ev (fun k => place_Where.f k l g) r ∧ Ev (fun k => epitomeref08_Where.f k l g) r := by
  obtain ⟨e, m1, m2, hu⟩ := may_all l hl hz
  by_cases h0 : e = 0
  · subst h0
    obtain ⟨us, rfl, ok⟩ := hu rfl
    have hci := ok.cin
    by_cases hb : g < 0 ∨ (((us.map Un.cin).sum : Nat) : Int) < g
    · refine ⟨(0, 6), placeWhere_out ok g hb, ?_⟩
      unfold epitomeref08_Where.f
      refine Ev.bind m2 (ev_if_pos rfl ?_)
      by_cases hn : g < 0
      · exact ev_if_pos hn (Ev.now _)
      · exact ev_if_neg hn (Ev.bind (refIn_is ok) (ev_if_pos (by omega) (Ev.now _)))
    · obtain ⟨n, rfl⟩ : ∃ n : Nat, g = (n : Int) := ⟨g.toNat, by omega⟩
      refine ⟨_, placeWhere_is ok n (by omega), ?_⟩
      unfold epitomeref08_Where.f
      exact Ev.bind m2 (ev_if_pos rfl (ev_if_neg (by omega) (Ev.bind (refIn_is ok) (ev_if_neg (by omega) (Ev.bind (refWhere_is ok n (by omega)) (Ev.now _))))))
  · refine ⟨(0, e), ?_, ?_⟩
    · unfold place_Where.f
      exact ev_if_pos (stepsOk_any l (fun s hs => by have := hz s hs; omega)) (Ev.bind m1 (ev_if_neg h0 (Ev.now _)))
    · unfold epitomeref08_Where.f
      exact Ev.bind m2 (ev_if_neg h0 (Ev.now _))
theorem least_all_ops (l : List Sp) (hl : l.length ≤ 500000) (hz : ∀ s ∈ l, s.f2.size ≤ 1048576) (g : Int) : ∃ r : Int × Int, Ev (fun k => place_Least.f k l g) r ∧ Ev (fun k => epitomeref08_Least.f k l g) r := by
  obtain ⟨e, m1, m2, hu⟩ := may_all l hl hz
  by_cases h0 : e = 0
  · subst h0
    obtain ⟨us, rfl, ok⟩ := hu rfl
    have hci := ok.cin
    have hco := ok.cout
    by_cases hb : g < 0 ∨ (((us.map Un.cout).sum : Nat) : Int) < g
    · refine ⟨(0, 6), placeLeast_out ok g hb, ?_⟩
      have jt : Ev (fun k => epitomeref08_Least.j0 k (us.map Un.sp) g true) (0, 6) := by
        refine Ev.step (f := fun _ => some (0, 6)) (fun k => ?_) (Ev.now _)
        rw [epitomeref08_Least.j0, if_pos rfl]
      unfold epitomeref08_Least.f
      refine Ev.bind m2 (ev_if_pos rfl ?_)
      by_cases hn : g < 0
      · exact ev_if_pos hn jt
      · refine ev_if_neg hn (Ev.bind (refOut_is ok) ?_)
        rw [decide_eq_true (by omega)]
        exact jt
    · obtain ⟨n, rfl⟩ : ∃ n : Nat, g = (n : Int) := ⟨g.toNat, by omega⟩
      refine ⟨_, placeLeast_is ok n (by omega), ?_⟩
      unfold epitomeref08_Least.f
      refine Ev.bind m2 (ev_if_pos rfl (ev_if_neg (by omega) (Ev.bind (refOut_is ok) ?_)))
      rw [decide_eq_false (by omega)]
      refine Ev.step (f := fun k => (epitomeref04_In.f k (us.map Un.sp)).bind fun t103 => epitomeref08_Least.l0 k (us.map Un.sp) (n : Int) 0 t103) (fun k => by rw [epitomeref08_Least.j0, if_neg (by simp)]) ?_
      refine Ev.bind (refIn_is ok) ?_
      have hce := cinU_ex us
      have hoe := coutU_ex us
      have := refLeast_loop ok n (by omega) _ 0 (us.map Un.cin).sum (Nat.le_refl _) (Nat.zero_le _) (by have := least_le (exU us) n; omega) (by omega)
      exact this
  · refine ⟨(0, e), ?_, ?_⟩
    · unfold place_Least.f
      exact ev_if_pos (stepsOk_any l (fun s hs => by have := hz s hs; omega)) (Ev.bind m1 (ev_if_neg h0 (Ev.now _)))
    · unfold epitomeref08_Least.f
      exact Ev.bind m2 (ev_if_neg h0 (Ev.now _))
end Go.Proofs.YtphbemkdhneklaaDoor.F
end
section
namespace Go.Proofs.YtphbemkdhneklaaDoor.F
open Go.RowKit Go.Proofs.YtphbemkdhneklaaDoorW.PrintWords Go.Proofs.YtphbemkdhneklaaDoorW.PrintLast Go.Proofs.YtphbemkdhneklaaDoorW.PrintMore
set_option linter.unusedVariables false
set_option linter.unusedSimpArgs false
theorem few08_loop (l : List Sp) (hl : l.length ≤ maxLen) : ∀ (r pre : List Sp), l = pre ++ r → pre.length ≤ 20 →
    Ev (fun k => epitomelaw08_few.l0 k l (pre.map (cutS 60)) (pre.length : Int)) ((l.take 20).map (cutS 60))
  | [], pre, h, hp => by
    rw [List.append_nil] at h
    subst h
    refine Ev.step (f := fun _ => some ((l.take 20).map (cutS 60))) (fun k => ?_) (Ev.now _)
    rw [epitomelaw08_few.l0, if_neg (by omega), List.take_of_length_le hp]
  | s :: r, pre, h, hp => by
    have hll : pre.length + (r.length + 1) = l.length := by rw [h]; simp
    by_cases h20 : pre.length = 20
    · refine Ev.step (f := fun _ => some ((l.take 20).map (cutS 60))) (fun k => ?_) (Ev.now _)
      rw [epitomelaw08_few.l0, if_pos (by omega), if_neg (by omega), h, ← h20, List.take_left]
    · have hrd : rd_T51 l (pre.length : Int) = s := by rw [h]; exact rdS_at rfl
      have h1 := mn_le (s.f2.size : Int) 60
      have ih := few08_loop l hl r (pre ++ [s]) (by simp [h]) (by simp; omega)
      refine Ev.step (fun k => ?_) ih
      rw [epitomelaw08_few.l0, if_pos (by omega), if_pos (by omega), if_pos (by omega), hrd, if_pos (by omega), if_pos (by omega), if_pos (by rw [List.length_map]; omega), w64_succ _ (by omega)]
      simp [cutS, cutT]
theorem few08_is (l : List Sp) (hl : l.length ≤ maxLen) : Ev (fun k => epitomelaw08_few.f k l) ((l.take 20).map (cutS 60)) := by
  unfold epitomelaw08_few.f
  exact few08_loop l hl l [] rfl (by simp)
theorem Pure.PlaceAll : epitomelaw08_PlaceAll.Pure := by
  intro l0 a1 a2 h0 h1 h2
  apply Ev.rounds
  have hz : ∀ s ∈ (l0.take 20).map (cutS 60), s.f2.size ≤ 1048576 := by
    intro s hs
    obtain ⟨x, _, rfl⟩ := List.mem_map.1 hs
    have := cutT_size 60 x.f2
    show (cutT 60 x.f2).size ≤ _
    omega
  obtain ⟨r1, p1, q1⟩ := where_all_ops ((l0.take 20).map (cutS 60)) (by simp; omega) hz a1
  obtain ⟨r2, p2, q2⟩ := least_all_ops ((l0.take 20).map (cutS 60)) (by simp; omega) hz a2
  unfold epitomelaw08_PlaceAll.f
  refine Ev.bind shown08 (Ev.bind (few08_is l0 h0.1) ?_)
  refine Ev.bind p1 (Ev.bind q1 (Ev.bind p2 (Ev.bind q2 ?_)))
  refine ev_if_pos rfl (ev_if_pos rfl (ev_if_pos rfl (ev_if_pos rfl ?_)))
  rw [beq_self_eq_true]
  exact Ev.now _
end Go.Proofs.YtphbemkdhneklaaDoor.F
end
section
namespace Go.Proofs.YtphbemkdhneklaaDoor.placeAll
open Go.ChangeShapes Go.WideShapes Go.ChangeAt Go.RowKit Go.Proofs.YtphbemkdhneklaaDoor.F
open Go.Proofs.YtphbemkdhneklaaDoorW.PrintWords
open Go.ChangeMaps (open_string shut_string)
set_option linter.unusedVariables false
theorem own : ownKnob Tryd.prog.godebug = none := by kernel_rfl
theorem laidOut : laidOutB Tryd.prog = true := by kernel_rfl
theorem laid_met (os : Os) (args : Array Value) : laidMetH Tryd.prog Rows.placeAllRow.laid ((laidWorld os).forCall (fun _ _ => 0) ⟨#[], args, []⟩).memory :=
  (LaidIn.of_run (l := Rows.placeAllRow.laid) [2, 0, 1] 8 (by kernel_rfl) (by kernel_rfl) (by kernel_rfl) (by kernel_rfl)).met
set_option maxRecDepth 100000 in
theorem lifted (os : Os) (started : os.Started) (H : Type) (enc : TypeId × Value → H) :
    ReturnsInHanded {} Tryd.checked os 4 .any (fun w args => (Rows.placeAllSpec.pre enc Tryd.prog Tryd.f4 [] false w args ∧ laidMetH Tryd.prog Rows.placeAllRow.laid w) ∧ sizedMet enc Tryd.prog Tryd.f4 (OpenSpec.ofChange Rows.placeAllSpec) false w args) (Rows.placeAllSpec.post enc Tryd.prog Tryd.f4 false true false false) := by
  refine returnsInHanded_of_change_and (C := Tryd.checked) (X := (fun w _ => laidMetH Tryd.prog Rows.placeAllRow.laid w)) (fun _ _ _ hh h => h.of_heap hh) own started (by kernel_rfl) Tryd.func4
    (ChangeSpec.witness_at (enc := enc) (C := Tryd.checked) (os := os) (X := (fun w _ => laidMetH Tryd.prog Rows.placeAllRow.laid w)) false (laidWorld os) #[.slice none 0 0, .int .i64 0, .int .i64 0] 8 rfl (by kernel_rfl) (by kernel_rfl) (by kernel_rfl) (by kernel_rfl) (by kernel_rfl) (laid_met os _)) ?_
  intro W base args ds gs before hval0 hW _ _ hL _
  have hG : Glob W := glob_of_reads (Lib.laidMet.reads hL (.tail _ (.tail _ (.head _)))) (Lib.laidMet.reads hL (.head _)) (Lib.laidMet.reads hL (.tail _ (.head _)))
  have hval : ∀ (j : Nat) t v, Tryd.f4.params[j]? = some t → args[j]? = some v → Value.okWide Tryd.prog W .any base t v := hval0
  have hW' := hW
  obtain ⟨p, q, hA0, hV, rfl, hfz, hnd⟩ := hW
  have hA : DataW.TrodAll enc Tryd.prog W 0 (fun _ => true) true Tryd.f4.params.toList args.toList ds p := hA0
  rw [Tryd.params4] at hA hval
  obtain ⟨v0, vs0, d0, ds0, p0, q0, hargs, rfl, rfl, h0, r0⟩ := trodAll_cons hA
  obtain ⟨v1, vs1, d1, ds1, p1, q1, rfl, rfl, rfl, h1, r1⟩ := trodAll_cons r0
  obtain ⟨v2, vs2, d2, ds2, p2, q2, rfl, rfl, rfl, h2, r2⟩ := trodAll_cons r1
  obtain ⟨rfl, rfl, rfl⟩ := trodAll_nil r2
  obtain rfl : args = #[v0, v1, v2] := by cases args; simp_all
  obtain ⟨rfl, rfl⟩ := trodVars_none hV
  obtain ⟨A0, n0, c0, rfl⟩ := okWide_slice Tryd.underlying22 (hval 0 22 v0 rfl rfl)
  have k0 := h0
  have lt0 : ∀ x ∈ p0, x.block < W.heap.size := by obtain ⟨m, hm⟩ := k0; exact DataW.trod_lt m _ _ _ hm
  obtain ⟨l0, z0, hv0⟩ : ∃ l, (Kd.slice 51 k51).K W l [Value.slice A0 n0 c0] ∧ (fun v_ => (v_.length ≤ maxLen ∧ ∀ x_ ∈ v_, V51 x_)) l := by
    obtain ⟨fuel, hf⟩ := h0
    exact (opens_slice Tryd.underlying22 (by kernel_rfl) opens51) enc W _ _ _ _ _ _ hf
  obtain ⟨A_, c_, e, hc0, hr0⟩ := z0
  simp only [List.cons.injEq, Value.slice.injEq, and_true] at e
  obtain ⟨rfl, rfl, rfl⟩ := e
  obtain ⟨a1, rfl, rfl, rfl, hv1⟩ := open_int Tryd.underlying3 (hval 1 3 v1 rfl rfl) h1
  obtain ⟨a2, rfl, rfl, rfl, hv2⟩ := open_int Tryd.underlying3 (hval 2 3 v2 rfl rfl) h2
  obtain ⟨k, h⟩ := Pure.PlaceAll l0 a1 a2 hv0 hv1 hv2
  refine (epitomelaw08_PlaceAll.calls k _ _ l0 a1 a2 true W hG hr0 hc0 h).mono ?_
  rintro e W' ⟨rfl, hd⟩
  have bel : Below W.heap.size W W' := hd
  exact ⟨_, rfl, _, _, _, [], _, [], hW', trodAll_mk1 (shut_bool Tryd.underlying4 _), (trodAll_cons_mk (Below.trod laidOut (by kernel_rfl) (of_decide_eq_true (by kernel_rfl)) k0 bel lt0) (trodAll_cons_mk (shut_int Tryd.underlying3 hv1) (trodAll_cons_mk (shut_int Tryd.underlying3 hv2) trodAll_mk0))), rfl, bel.frame _, fun h => by cases h⟩
theorem over : Rows.placeAllRow.holds Tryd.pinned (OpenSpec.ofChange Rows.placeAllSpec) :=
  OpenClaim.holds_of_wide 4 Tryd.f4 rfl rfl rfl rfl rfl rfl rfl ⟨rfl, rfl, rfl, rfl, rfl⟩ rfl rfl rfl rfl rfl (by kernel_rfl) Tryd.func4 (by kernel_rfl)
    (of_decide_eq_true (by kernel_rfl)) (by unfold Func.isWrapper; first | (rw [if_pos (by decide +kernel)]; kernel_rfl) | (rw [if_neg (by decide +kernel)]; exact ⟨rfl, rfl⟩))
    (fun os started H enc _ => lifted os started H enc)
theorem card : Claim7.holds Tryd.pinned (.plain (OpenSpec.ofChange Rows.placeAllSpec)) Rows.placeAllCard :=
  Claim7.holds_tied_plain_at .later [] [.data, .data, .pinned] true (true, "b59fba76812983a2edbfeb7dc69721ef72231d0e5408923366ca0978bc32635f") false
    over (fun _ h => by cases h) (by kernel_rfl) (fun _ h => by cases h) placeAll_row_tie rfl ⟨rfl, rfl⟩ (by kernel_rfl) rfl
    (fun f fn hf hfn => by
      obtain rfl : f = 4 := Option.some.inj ((show Tryd.prog.funcNamed "epitome/epitomelaw08.PlaceAll" = some 4 by kernel_rfl).symm.trans hf) |>.symm
      obtain rfl : fn = Tryd.f4 := (Option.some.inj (Tryd.func4.symm.trans hfn)).symm
      exact ⟨by kernel_rfl, fun j t ht => by
        rw [Tryd.params4] at ht
        match j, ht with
        | 0, ht =>
          obtain rfl : t = 22 := by simpa using ht.symm
          exact (show Tryd.prog.wantsStandIn 22 = false by kernel_rfl)
        | 1, ht =>
          obtain rfl : t = 3 := by simpa using ht.symm
          exact (show Tryd.prog.wantsStandIn 3 = false by kernel_rfl)
        | 2, ht =>
          obtain rfl : t = 3 := by simpa using ht.symm
          exact (show Tryd.prog.wantsStandIn 3 = false by kernel_rfl)
        | j + 3, ht => simp at ht⟩)
    (by kernel_rfl)
theorem proved : Rows.PlaceAllCardSaid := card
end Go.Proofs.YtphbemkdhneklaaDoor.placeAll
namespace Go.Proofs.YtphbemkdhneklaaDoor
theorem placeAll_holds : Rows.PlaceAllCardSaid := placeAll.proved
#print axioms placeAll_holds
end Go.Proofs.YtphbemkdhneklaaDoor
end
