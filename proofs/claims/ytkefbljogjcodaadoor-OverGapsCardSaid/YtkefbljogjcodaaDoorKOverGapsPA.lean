import Derived.Test.YtkefbljogjcodaaDoorKCOverGapsD
import Derived.Test.YtkefbljogjcodaaDoorKCOverGapsPA
import Derived.Below
import Derived.Deep.Draws
import Derived.Deep.AppendLies
import Derived.Maps.AppendAt
import Derived.OwnWalk
import Derived.Laws.BytesArg
import Derived.Laws.MakeOwn
import Derived.Laws.OwnMore
import Derived.Deep.OwnRows
import Derived.Tactics
import Derived.Lib.ConvBytes
import Derived.Laws.Slices
import Derived.WalkKit
import Derived.KernelRfl
import Derived.RowKit3
import Derived.Deep.LoopGhost
import Derived.Deep.QuietTactic
import Derived.BigQuiet
import Derived.WideLaws
import Derived.Deep.DeepCutAuto
import Derived.Deep.CutBlock
import Derived.Deep.RegionHeld3
import Derived.Laws.Rows
import Derived.Lib.AppendStr
import Derived.ArgAppend
import Derived.Laws.IdiomCopy
import Derived.RowKit
import Derived.OrdersHeld
import Derived.Laws.BitsLemmas
import Derived.Laws.StructEq
import Derived.Test.YtkefbljogjcodaaDoorProg
import Derived.Handy
import Derived.Shelf.Unicode.DecodeSlow
import Derived.Ground.NamesProg
import Derived.Shelf.Unicode.ValidAny
import Derived.Laws.RangeString
import Derived.Laws.RangeAny
import Derived.Lib.RuneCount
import Derived.Laws.IdiomStrings
import Derived.Laws.Cover4
import Derived.Great.BuildSlice
import Derived.Defers
import Derived.RangeFuncNested
import Derived.RangeFuncBound
import Derived.RangeFuncCalls
import Derived.RangeFuncLeaves
import Derived.Shelf.Abstract
import Derived.Shelf.RegionOpen
import Derived.OwnWalkIn
import Derived.TacticsInMore
import Derived.LoopNIn
import Derived.LoopIn
import Derived.ProofKit
import Derived.OpenShut
import Derived.ShutString
import Derived.ChangeOld
import Derived.SizedLaws
import Derived.Lib.ValidLaws
import Derived.Test.YtkefbljogjcodaaDoorRows
import Derived.Lib.LaidU8T
import Derived.Lib.LaidIn
import Derived.LaidLaws
import Derived.Test.YtkefbljogjcodaaDoorTie
import Derived.Test.YtkefbljogjcodaaDoorCards
import Derived.Carry
import Derived.ChangeSame
import Derived.ChangeVars
import Derived.JoinedOf
import Derived.SevenTiedAt
section
namespace Go.Proofs.YtkefbljogjcodaaDoor.F
open Go.RowKit Go.Proofs.YtkefbljogjcodaaDoorW.PrintWords Go.Proofs.YtkefbljogjcodaaDoorW.PrintLast Go.Proofs.YtkefbljogjcodaaDoorW.PrintMore
attribute [local go_sem] max2_int min2_int max_two min_two max_three min_three max_four min_four cell_setCell_isSome
set_option linter.unusedVariables false
set_option linter.unusedSimpArgs false
def epitomelaw11_OverGaps.Pure : Prop := ∀ (l0 : List (S26)) (l1 : List (S26)) (a2 : Int), (l0.length ≤ maxLen ∧ ∀ x_ ∈ l0, V26 x_) → (l1.length ≤ maxLen ∧ ∀ x_ ∈ l1, V26 x_) → (Lit.int .u8 a2).wf = true → ∃ k, epitomelaw11_OverGaps.f k l0 l1 a2 = some true
end Go.Proofs.YtkefbljogjcodaaDoor.F
end
section
namespace Go.Proofs.YtkefbljogjcodaaDoor.F
open Go.RowKit Go.Proofs.YtkefbljogjcodaaDoorW.PrintWords Go.Proofs.YtkefbljogjcodaaDoorW.PrintLast Go.Proofs.YtkefbljogjcodaaDoorW.PrintMore
set_option linter.unusedVariables false
set_option linter.unusedSimpArgs false
theorem overU_puts : ∀ (xp : List Int) (rest Y : List U), (∀ r Y', Y ≠ .p r :: Y') → overU (xp.map U.p ++ rest) Y = xp.map U.p ++ overU rest Y
 | [], rest, Y, _ => rfl
 | x :: xp, rest, Y, h => by
  have ih := overU_puts xp rest Y h
  cases Y with
  | nil => rw [List.map_cons, List.cons_append, overU, ih, List.cons_append]
  | cons u Y' =>
   cases u with
   | p r => exact absurd rfl (h r Y')
   | k => rw [List.map_cons, List.cons_append, overU, ih, List.cons_append]
   | d => rw [List.map_cons, List.cons_append, overU, ih, List.cons_append]
theorem split_puts : ∀ X : List U, ∃ (xp : List Int) (rest : List U), X = xp.map U.p ++ rest ∧ (rest = [] ∨ (∃ X', rest = .k :: X') ∨ ∃ X', rest = .d :: X')
 | [] => ⟨[], [], rfl, .inl rfl⟩
 | .k :: X => ⟨[], _, rfl, .inr (.inl ⟨X, rfl⟩)⟩
 | .d :: X => ⟨[], _, rfl, .inr (.inr ⟨X, rfl⟩)⟩
 | .p r :: X => by
  obtain ⟨xp, rest, h, h2⟩ := split_puts X
  exact ⟨r :: xp, rest, by rw [h]; rfl, h2⟩
theorem cinU_puts : ∀ (xp : List Int) (rest : List U), cinU (xp.map U.p ++ rest) = cinU rest
 | [], _ => rfl
 | _ :: xp, rest => cinU_puts xp rest
theorem rdOf_at0 {α : Type} (d x : α) (pre r : List α) : rdOf d (pre ++ x :: r) (pre.length : Int) = x := by
 unfold rdOf
 rw [Int.toNat_natCast, List.getD_eq_getElem?_getD, List.getElem?_append_right (Nat.le_refl _), Nat.sub_self]
 rfl
theorem set_at0 {α : Type} (x y : α) (pre r : List α) : (pre ++ x :: r).set pre.length y = pre ++ y :: r := by
 rw [List.set_append_right _ _ (Nat.le_refl _), Nat.sub_self, List.set_cons_zero]
theorem map_mid0 (L R : List (List Int)) (q : List Int) : (L ++ q :: R).map encT = L.map encT ++ encT q :: R.map encT := by simp
section
variable {vs : List Un} {m out : Nat} {P YPut : List ByteArray} {G YG : List Bool} {Z : List U}
theorem og_put (hok : Ok vs) (hm : m ≤ 63) (hcin : (vs.map Un.cin).sum = m) (ho : out ≤ 1000) {i K : Nat} (hi : i ≤ m) (hK : whereU (exU vs) i = K) (hKo : K ≤ out)
  {L : List (List Int)} {q xp : List Int} {c : Nat} {GW : List Bool} (hL : L.length = K) (hPl : i < P.length) (hP : rdOf ByteArray.empty P (i : Int) = encT xp) (hq : q.length + xp.length ≤ 100000)
  (hG : i < m → i < YG.length)
  (hn : Ev (fun k => epitomelaw11_OverGaps.j3 k (m : Int) (vs.map Un.sp) (out : Int) (i : Int) (K : Int) (if i < m then !(rdOf false YG (i : Int)) else false) P G YPut YG ((gpP Z).map encT) (gpG Z) ((L ++ (q ++ xp) :: List.replicate c []).map encT) GW) true) :
  Ev (fun k => epitomelaw11_OverGaps.l0 k (m : Int) (vs.map Un.sp) (out : Int) (i : Int) P G YPut YG ((gpP Z).map encT) (gpG Z) ((L ++ q :: List.replicate c []).map encT) GW) true := by
 have pw := placeWhere_is hok i (by omega)
 rw [hK] at pw
 have hzq_ := (encT_size q).2
 have hzx_ := (encT_size xp).2
 have hr : rdOf ByteArray.empty ((L ++ q :: List.replicate c []).map encT) (K : Int) = encT q := by
  rw [map_mid0, ← hL, show L.length = (L.map encT).length from (List.length_map _).symm, rdOf_at0]
 have hs : ((L ++ q :: List.replicate c []).map encT).set K (encT q ++ encT xp) = (L ++ (q ++ xp) :: List.replicate c []).map encT := by
  rw [map_mid0, ← hL, show L.length = (L.map encT).length from (List.length_map _).symm, set_at0, map_mid0, encT_append]
 have hl : K < ((L ++ q :: List.replicate c []).map encT).length := by simp; omega
 refine Ev.step (f := fun k => (place_Where.f k (vs.map Un.sp) (i : Int)).bind fun bt145 => (if bt145.2 = 0 then (if bt145.1 < 0 then (epitomelaw11_OverGaps.j2 k (m : Int) (vs.map Un.sp) (out : Int) (i : Int) bt145.1 true P G YPut YG ((gpP Z).map encT) (gpG Z) ((L ++ q :: List.replicate c []).map encT) GW) else (epitomelaw11_OverGaps.j2 k (m : Int) (vs.map Un.sp) (out : Int) (i : Int) bt145.1 (decide (bt145.1 > (out : Int))) P G YPut YG ((gpP Z).map encT) (gpG Z) ((L ++ q :: List.replicate c []).map encT) GW)) else (epitomelaw11_OverGaps.j2 k (m : Int) (vs.map Un.sp) (out : Int) (i : Int) bt145.1 true P G YPut YG ((gpP Z).map encT) (gpG Z) ((L ++ q :: List.replicate c []).map encT) GW))) (fun k => by rw [epitomelaw11_OverGaps.l0, if_pos (by omega)]) ?_
 refine Ev.bind pw (ev_if_pos rfl (ev_if_neg (by omega) ?_))
 rw [show decide ((K : Int) > (out : Int)) = false from decide_eq_false (by omega)]
 by_cases c1 : i < m
 ·rw [if_pos c1] at hn
  refine Ev.step (fun k => ?_) hn
  rw [epitomelaw11_OverGaps.j2, if_neg (by decide), if_pos (by omega), if_pos (by omega), if_pos (by omega), if_pos (by omega), hr, hP, if_pos (by omega), Int.toNat_natCast, hs]
  show (if _ then _ else _) = _
  have := hG c1
  rw [if_pos (by omega), if_pos (by omega)]
 ·rw [if_neg c1] at hn
  refine Ev.step (fun k => ?_) hn
  rw [epitomelaw11_OverGaps.j2, if_neg (by decide), if_pos (by omega), if_pos (by omega), if_pos (by omega), if_pos (by omega), hr, hP, if_pos (by omega), Int.toNat_natCast, hs]
  show (if _ then _ else _) = _
  rw [if_neg (by omega)]
end
theorem gpP_ug (b : Bool) (X : List U) : gpP (ug b :: X) = [] :: gpP X := by cases b <;> rfl
theorem gpG_ug (b : Bool) (X : List U) : gpG (ug b :: X) = b :: gpG X := by cases b <;> rfl
theorem putsU_ug (b : Bool) (X : List U) : putsU (ug b :: X) = putsU X := by cases b <;> rfl
theorem overU_ugk (b : Bool) (X Y : List U) : overU (ug b :: X) (.k :: Y) = ug b :: overU X Y := by cases b <;> simp [ug, overU]
theorem overU_ugd (b : Bool) (X Y : List U) : overU (ug b :: X) (.d :: Y) = overU X Y := by cases b <;> simp [ug, overU]
theorem putsU_puts : ∀ (xp : List Int) (rest : List U), putsU (xp.map U.p ++ rest) = xp.length + putsU rest
 | [], rest => by simp
 | x :: xp, rest => by
  have := putsU_puts xp rest
  rw [List.map_cons, List.cons_append, putsU, this, List.length_cons]
  omega
theorem split_more {X : List U} {c : Nat} (h : cinU X = c + 1) : ∃ (xp : List Int) (b : Bool) (X' : List U), X = xp.map U.p ++ ug b :: X' ∧ cinU X' = c := by
 obtain ⟨xp, rest, rfl, h2⟩ := split_puts X
 rw [cinU_puts] at h
 rcases h2 with rfl | ⟨X', rfl⟩ | ⟨X', rfl⟩
 ·simp [cinU] at h
 ·exact ⟨xp, false, X', rfl, by simpa [cinU] using h⟩
 ·exact ⟨xp, true, X', rfl, by simpa [cinU] using h⟩
theorem snoc_rep {α : Type} (L : List α) (a z : α) (c : Nat) : L ++ a :: List.replicate (c + 1) z = (L ++ [a]) ++ z :: List.replicate c z := by
 rw [List.replicate_succ, List.append_assoc]
 rfl
theorem og_loop {vs : List Un} {m out : Nat} {YPut : List ByteArray} {Xf Z : List U} (hok : Ok vs) (hm : m ≤ 63) (hcin : (vs.map Un.cin).sum = m) (ho : out ≤ 1000) (hxc : cinU Xf = m) (hyc : cinU (exU vs) = m) :
  ∀ (Y X : List U) (L : List (List Int)) (q : List Int) (GL : List Bool) (i : Nat) (PP : List (List Int)) (GP YP : List Bool),
   cinU X = cinU Y → i + cinU Y = m → PP.length = i → GP.length = i → YP.length = i → gpP Xf = PP ++ gpP X → gpG Xf = GP ++ gpG X → gpG (exU vs) = YP ++ gpG Y →
   GL.length = L.length → (∀ j, j ≤ cinU Y → whereU (exU vs) (i + j) = L.length + whereU Y j) → L.length + coutU Y = out →
   L ++ preq q (gpP (overU X Y)) = gpP Z → GL ++ gpG (overU X Y) = gpG Z → q.length + putsU X ≤ 100000 →
   Ev (fun k => epitomelaw11_OverGaps.l0 k (m : Int) (vs.map Un.sp) (out : Int) (i : Int) ((gpP Xf).map encT) (gpG Xf) YPut (gpG (exU vs)) ((gpP Z).map encT) (gpG Z) ((L ++ q :: List.replicate (coutU Y) []).map encT) (GL ++ List.replicate (coutU Y) false)) true
 | .p r :: Y, X, L, q, GL, i, PP, GP, YP, hc, hi, h1, h2, h3, h4, h5, h6, h7, h8, h9, h10, h11, h12 => by
  have hcY : cinU (.p r :: Y) = cinU Y := rfl
  have hoY : coutU (.p r :: Y) = coutU Y + 1 := rfl
  rw [over_p, gpP, preq, List.append_nil] at h10
  rw [over_p, gpG] at h11
  rw [hcY] at hc hi
  have ih := og_loop (YPut := YPut) (Z := Z) hok hm hcin ho hxc hyc Y X (L ++ [q]) [] (GL ++ [false]) i PP GP YP hc hi h1 h2 h3 h4 h5 h6 (by simp [h7]) (fun j hj => by
   rw [h8 j (by omega)]
   show L.length + (whereU Y j + 1) = _
   simp
   omega) (by simp; omega) (by rw [preq_nil (gpP_ne _), List.append_assoc]; exact h10) (by rw [List.append_assoc]; exact h11) (by simp; omega)
  rw [hoY, snoc_rep, List.replicate_succ, show GL ++ false :: List.replicate (coutU Y) false = (GL ++ [false]) ++ List.replicate (coutU Y) false by simp]
  exact ih
 | [], X, L, q, GL, i, PP, GP, YP, hc, hi, h1, h2, h3, h4, h5, h6, h7, h8, h9, h10, h11, h12 => by
  have hi0 : i = m := hi
  obtain ⟨xp, rest, rfl, hr⟩ := split_puts X
  rw [cinU_puts] at hc
  have hrest : rest = [] := by
   rcases hr with rfl | ⟨X', rfl⟩ | ⟨X', rfl⟩
   ·rfl
   ·simp [cinU] at hc
   ·simp [cinU] at hc
  subst hrest
  rw [putsU_puts] at h12
  have e0 : whereU (exU vs) i = L.length := by have := h8 0 (Nat.zero_le _); rw [Nat.add_zero] at this; exact this
  have gx : gpP (xp.map U.p ++ []) = [xp] := by rw [gpP_put]; simp [gpP, preq]
  rw [overU_puts xp [] [] (by intro _ _ h; cases h), show overU [] [] = [] by rw [overU], gpP_put, show preq xp (gpP []) = [xp] by simp [gpP, preq], show preq q [xp] = [q ++ xp] from rfl] at h10
  rw [overU_puts xp [] [] (by intro _ _ h; cases h), show overU [] [] = [] by rw [overU], gpG_put, show gpG [] = [] from rfl, List.append_nil] at h11
  rw [gx] at h4
  have hl := congrArg List.length h4
  rw [List.length_append, List.length_singleton] at hl
  have h9' : L.length + 0 = out := h9
  refine og_put (YPut := YPut) hok hm hcin ho (by omega) e0 (by omega) rfl (xp := xp) (by rw [List.length_map]; omega) (by rw [h4, map_mid0, ← h1, show PP.length = (PP.map encT).length from (List.length_map _).symm, rdOf_at0]) (by omega) (fun h => by omega) ?_
  rw [if_neg (by omega)]
  refine Ev.step (f := fun k => epitomelaw11_OverGaps.l0 k (m : Int) (vs.map Un.sp) (out : Int) ((m + 1 : Nat) : Int) ((gpP Xf).map encT) (gpG Xf) YPut (gpG (exU vs)) ((gpP Z).map encT) (gpG Z) ((L ++ (q ++ xp) :: List.replicate 0 []).map encT) (GL ++ List.replicate 0 false)) (fun k => by rw [epitomelaw11_OverGaps.j3, if_neg (by decide), w64_succ _ (by omega), hi0]; rfl) ?_
  have lz := congrArg List.length h10
  have lg := congrArg List.length h11
  rw [List.length_append, List.length_singleton] at lz
  have sm := same6_is ((gpP Z).map encT) ((gpP Z).map encT) (gpG Z) (gpG Z) (by rw [List.length_map]; omega) (by omega)
  rw [decide_eq_true ⟨rfl, rfl⟩] at sm
  refine Ev.step (f := fun k => (epitomeref06_Same.f k ((gpP Z).map encT) (gpG Z) ((gpP Z).map encT) (gpG Z)).bind fun t144 => some t144) (fun k => ?_) (Ev.bind sm (Ev.now true))
  rw [epitomelaw11_OverGaps.l0, if_neg (by omega), show L ++ (q ++ xp) :: List.replicate 0 [] = gpP Z from h10, show GL ++ List.replicate 0 false = gpG Z by rw [← h11]; simp]
 | .k :: Y, X, L, q, GL, i, PP, GP, YP, hc, hi, h1, h2, h3, h4, h5, h6, h7, h8, h9, h10, h11, h12 => by
  have hcY : cinU (.k :: Y) = cinU Y + 1 := rfl
  have hoY : coutU (.k :: Y) = coutU Y + 1 := rfl
  rw [hcY] at hc hi
  rw [hoY] at h9
  obtain ⟨xp, b, X', rfl, hcX⟩ := split_more hc
  rw [putsU_puts, putsU_ug] at h12
  have e0 : whereU (exU vs) i = L.length := by have := h8 0 (Nat.zero_le _); rw [Nat.add_zero] at this; exact this
  have gx : gpP (xp.map U.p ++ ug b :: X') = xp :: gpP X' := by rw [gpP_put, gpP_ug, preq, List.append_nil]
  have gg : gpG (xp.map U.p ++ ug b :: X') = b :: gpG X' := by rw [gpG_put, gpG_ug]
  rw [overU_puts xp _ _ (by intro _ _ h; cases h), overU_ugk, gpP_put, gpP_ug, preq, List.append_nil, preq] at h10
  rw [overU_puts xp _ _ (by intro _ _ h; cases h), overU_ugk, gpG_put, gpG_ug] at h11
  rw [gx] at h4
  rw [gg] at h5
  rw [gpG] at h6
  have lp := gpP_length Xf
  have lg := gpG_length Xf
  have ly := gpG_length (exU vs)
  have ih := og_loop (YPut := YPut) (Z := Z) hok hm hcin ho hxc hyc Y X' (L ++ [q ++ xp]) [] (GL ++ [b]) (i + 1) (PP ++ [xp]) (GP ++ [b]) (YP ++ [false]) hcX (by omega) (by simp [h1]) (by simp [h2]) (by simp [h3]) (by rw [h4]; simp) (by rw [h5]; simp) (by rw [h6]; simp) (by simp [h7]) (fun j hj => by
   have := h8 (j + 1) (by omega)
   rw [show i + 1 + j = i + (j + 1) by omega, this]
   show L.length + (whereU Y j + 1) = _
   simp
   omega) (by simp; omega) (by rw [preq_nil (gpP_ne _), List.append_assoc]; exact h10) (by rw [List.append_assoc]; exact h11) (by simp; omega)
  refine og_put (YPut := YPut) hok hm hcin ho (by omega) e0 (by omega) rfl (xp := xp) (by rw [List.length_map]; omega) (by rw [h4, map_mid0, ← h1, show PP.length = (PP.map encT).length from (List.length_map _).symm, rdOf_at0]) (by omega) (fun h => by omega) ?_
  rw [if_pos (by omega), show rdOf false (gpG (exU vs)) (i : Int) = false by rw [h6, ← h3, rdOf_at0]]
  have hg : rdOf false (gpG Xf) (i : Int) = b := by rw [h5, ← h2, rdOf_at0]
  have hs : (GL ++ List.replicate (coutU Y + 1) false).set L.length b = (GL ++ [b]) ++ List.replicate (coutU Y) false := by
   rw [← h7, List.replicate_succ, set_at0]
   simp
  have hgl : (GL ++ List.replicate (coutU Y + 1) false).length = GL.length + (coutU Y + 1) := by simp
  rw [hoY, snoc_rep]
  refine Ev.step (fun k => ?_) ih
  rw [epitomelaw11_OverGaps.j3, if_pos (show (!false) = true from rfl), if_neg (by omega), if_pos (by omega), if_pos (by omega), if_pos (by omega), if_pos (by omega), w64_succ _ (by omega), hg, Int.toNat_natCast, hs]
 | .d :: Y, X, L, q, GL, i, PP, GP, YP, hc, hi, h1, h2, h3, h4, h5, h6, h7, h8, h9, h10, h11, h12 => by
  have hcY : cinU (.d :: Y) = cinU Y + 1 := rfl
  have hoY : coutU (.d :: Y) = coutU Y := rfl
  rw [hcY] at hc hi
  rw [hoY] at h9
  obtain ⟨xp, b, X', rfl, hcX⟩ := split_more hc
  rw [putsU_puts, putsU_ug] at h12
  have e0 : whereU (exU vs) i = L.length := by have := h8 0 (Nat.zero_le _); rw [Nat.add_zero] at this; exact this
  have gx : gpP (xp.map U.p ++ ug b :: X') = xp :: gpP X' := by rw [gpP_put, gpP_ug, preq, List.append_nil]
  have gg : gpG (xp.map U.p ++ ug b :: X') = b :: gpG X' := by rw [gpG_put, gpG_ug]
  rw [overU_puts xp _ _ (by intro _ _ h; cases h), overU_ugd, gpP_put, preq_preq] at h10
  rw [overU_puts xp _ _ (by intro _ _ h; cases h), overU_ugd, gpG_put] at h11
  rw [gx] at h4
  rw [gg] at h5
  rw [gpG] at h6
  have lp := gpP_length Xf
  have lg := gpG_length Xf
  have ly := gpG_length (exU vs)
  have ih := og_loop (YPut := YPut) (Z := Z) hok hm hcin ho hxc hyc Y X' L (q ++ xp) GL (i + 1) (PP ++ [xp]) (GP ++ [b]) (YP ++ [true]) hcX (by omega) (by simp [h1]) (by simp [h2]) (by simp [h3]) (by rw [h4]; simp) (by rw [h5]; simp) (by rw [h6]; simp) h7 (fun j hj => by
   have := h8 (j + 1) (by omega)
   rw [show i + 1 + j = i + (j + 1) by omega, this]
   rfl) h9 h10 h11 (by simp; omega)
  refine og_put (YPut := YPut) hok hm hcin ho (by omega) e0 (by omega) rfl (xp := xp) (by rw [List.length_map]; omega) (by rw [h4, map_mid0, ← h1, show PP.length = (PP.map encT).length from (List.length_map _).symm, rdOf_at0]) (by omega) (fun h => by omega) ?_
  rw [if_pos (by omega), show rdOf false (gpG (exU vs)) (i : Int) = true by rw [h6, ← h3, rdOf_at0], hoY]
  refine Ev.step (fun k => ?_) ih
  rw [epitomelaw11_OverGaps.j3, if_neg (show ¬ ((!true) = true) by decide), w64_succ _ (by omega)]
set_option maxHeartbeats 4000000 in
theorem Pure.OverGaps : epitomelaw11_OverGaps.Pure := by
 intro l0 l1 a h0 h1 h2
 apply Ev.rounds
 obtain ⟨n, hn, en⟩ := rem64 a h2
 obtain ⟨us, hf0, f0⟩ := fitB l0 h0.1 h0.2 n (by omega)
 obtain ⟨vs, hf1, f1⟩ := fitB l1 h1.1 h1.2 n (by omega)
 have c0 := f0.cout
 have c1 := f1.cout
 have i0 := f0.cinU
 have i1 := f1.cinU
 have o0 := f0.coutU
 have o1 := f1.coutU
 have n0 := f0.cin
 have n1 := f1.cin
 have p0 := puts_le (exU us)
 have hcu : cinU (exU us) = cinU (exU vs) := by omega
 have e1 := over_is f0.ok f1.ok (by omega) (by omega) (by omega)
 have s1 := over_sizes (exU us) (exU vs) hcu
 have okz := overOk f0.runes hcu (by omega) (by omega)
 have g0 := gapsOf_is f0.ok (by omega)
 have g1 := gapsOf_is f1.ok (by omega)
 have g2 := gapsOf_is okz (by rw [canon_in]; omega)
 rw [ex_canon] at g2
 have lp := gpP_length (exU us)
 have lg := gpG_length (exU us)
 have ly := gpG_length (exU vs)
 have eo := opOut_is f1.ok
 have lo := og_loop (YPut := (gpP (exU vs)).map encT) (Xf := exU us) (Z := overU (exU us) (exU vs)) f1.ok hn n1 (out := coutU (exU vs)) (by omega) i0 i1 (exU vs) (exU us) [] [] [] 0 [] [] [] hcu (by omega) rfl rfl rfl rfl rfl rfl rfl (fun j _ => by rw [Nat.zero_add]; exact (Nat.zero_add _).symm) (Nat.zero_add _) (preq_nil (gpP_ne _)) rfl (by simp; omega)
 rw [← o1] at eo
 generalize hO : coutU (exU vs) = out at *
 have hol : out ≤ 200 := by omega
 have q1 : (0 : Int) ≤ ((out + 1 : Nat) : Int) := Int.natCast_nonneg _
 have q2 : out + 1 ≤ 17592186044416 := Nat.le_trans (Nat.add_le_add_right hol 1) (by decide)
 have q3 : (0 : Int) ≤ (out : Int) := Int.natCast_nonneg _
 have q4 : out ≤ 281474976710656 := Nat.le_trans hol (by decide)
 have q5 : ((gpG (exU us)).length : Int) = (n : Int) := by rw [lg, i0]
 have q6 : ((gpG (exU vs)).length : Int) = (n : Int) := by rw [ly, i1]
 have q7 : (((gpP (exU us)).map encT).length : Int) = ((n + 1 : Nat) : Int) := by rw [List.length_map, lp, i0]
 clear c0 c1 o0 o1 p0 s1 lp lg ly
 have en1 : wrap64 ((n : Int) + 1) = ((n + 1 : Nat) : Int) := w64_succ n (by omega)
 have eo1 : wrap64 ((out : Int) + 1) = ((out + 1 : Nat) : Int) := w64_succ out (by omega)
 unfold epitomelaw11_OverGaps.f
 rw [en, en1]
 refine Ev.bind shown11 (Ev.bind hf0 (Ev.bind hf1 (Ev.bind e1 (Ev.bind g0 (Ev.bind g1 (Ev.bind g2 ?_))))))
 dsimp only
 refine ev_if_pos rfl (ev_if_pos rfl (ev_if_pos rfl (ev_if_pos rfl (ev_if_pos rfl (ev_if_pos q5 (ev_if_pos q6 ?_))))))
 have ez : ((((gpP (exU us)).map encT).length : Int) != ((n + 1 : Nat) : Int)) = false := by
  rw [bne_eq_false_iff_eq]; exact q7
 rw [ez]
 refine Ev.step (f := fun k => (op_Out.f k (vs.map Un.sp)).bind fun t136 => (if 0 ≤ (wrap64 (t136 + 1)) then (if (wrap64 (t136 + 1) : Int).toNat ≤ 17592186044416 then (if 0 ≤ t136 then (if (t136 : Int).toNat ≤ 281474976710656 then (epitomelaw11_OverGaps.l0 k (n : Int) (vs.map Un.sp) t136 0 ((gpP (exU us)).map encT) (gpG (exU us)) ((gpP (exU vs)).map encT) (gpG (exU vs)) ((gpP (overU (exU us) (exU vs))).map encT) (gpG (overU (exU us) (exU vs))) (List.replicate (wrap64 (t136 + 1) : Int).toNat (⟨#[]⟩ : ByteArray)) (List.replicate (t136 : Int).toNat false)) else (none)) else (none)) else (none)) else (none))) (fun k => by rw [epitomelaw11_OverGaps.j0, if_neg (by decide)]) ?_
 refine Ev.bind eo ?_
 rw [eo1, Int.toNat_natCast, Int.toNat_natCast]
 refine ev_if_pos q1 (ev_if_pos q2 (ev_if_pos q3 (ev_if_pos q4 ?_)))
 have er : List.replicate (out + 1) (⟨#[]⟩ : ByteArray) = (([] : List (List Int)) ++ [] :: List.replicate out []).map encT := by
  simp [List.replicate_succ, encT_nil]
 rw [er]
 rw [List.nil_append (List.replicate out false)] at lo
 exact lo
end Go.Proofs.YtkefbljogjcodaaDoor.F
end
section
namespace Go.Proofs.YtkefbljogjcodaaDoor.overGaps
open Go.ChangeShapes Go.WideShapes Go.ChangeAt Go.RowKit Go.Proofs.YtkefbljogjcodaaDoor.F
open Go.Proofs.YtkefbljogjcodaaDoorW.PrintWords
open Go.ChangeMaps (open_string shut_string)
set_option linter.unusedVariables false
theorem own : ownKnob Tryd.prog.godebug = none := by kernel_rfl
theorem laidOut : laidOutB Tryd.prog = true := by kernel_rfl
theorem laid_met (os : Os) (args : Array Value) : laidMetH Tryd.prog Rows.overGapsRow.laid ((laidWorld os).forCall (fun _ _ => 0) ⟨#[], args, []⟩).memory :=
  (LaidIn.of_run (l := Rows.overGapsRow.laid) [2, 0, 1] 8 (by kernel_rfl) (by kernel_rfl) (by kernel_rfl) (by kernel_rfl)).met
set_option maxRecDepth 100000 in
theorem lifted (os : Os) (started : os.Started) (H : Type) (enc : TypeId × Value → H) :
    ReturnsInHanded {} Tryd.checked os 7 .any (fun w args => (Rows.overGapsSpec.pre enc Tryd.prog Tryd.f7 [] false w args ∧ laidMetH Tryd.prog Rows.overGapsRow.laid w) ∧ sizedMet enc Tryd.prog Tryd.f7 (OpenSpec.ofChange Rows.overGapsSpec) false w args) (Rows.overGapsSpec.post enc Tryd.prog Tryd.f7 false true false false) := by
  refine returnsInHanded_of_change_and (C := Tryd.checked) (X := (fun w _ => laidMetH Tryd.prog Rows.overGapsRow.laid w)) (fun _ _ _ hh h => h.of_heap hh) own started (by kernel_rfl) Tryd.func7
    (ChangeSpec.witness_at (enc := enc) (C := Tryd.checked) (os := os) (X := (fun w _ => laidMetH Tryd.prog Rows.overGapsRow.laid w)) false (laidWorld os) #[.slice none 0 0, .slice none 0 0, .int .u8 0] 8 rfl (by kernel_rfl) (by kernel_rfl) (by kernel_rfl) (by kernel_rfl) (by kernel_rfl) (laid_met os _)) ?_
  intro W base args ds gs before hval0 hW _ _ hL _
  have hG : Glob W := glob_of_reads (Lib.laidMet.reads hL (.tail _ (.tail _ (.head _)))) (Lib.laidMet.reads hL (.head _)) (Lib.laidMet.reads hL (.tail _ (.head _)))
  have hval : ∀ (j : Nat) t v, Tryd.f7.params[j]? = some t → args[j]? = some v → Value.okWide Tryd.prog W .any base t v := hval0
  have hW' := hW
  obtain ⟨p, q, hA0, hV, rfl, hfz, hnd⟩ := hW
  have hA : DataW.TrodAll enc Tryd.prog W 0 (fun _ => true) true Tryd.f7.params.toList args.toList ds p := hA0
  rw [Tryd.params7] at hA hval
  obtain ⟨v0, vs0, d0, ds0, p0, q0, hargs, rfl, rfl, h0, r0⟩ := trodAll_cons hA
  obtain ⟨v1, vs1, d1, ds1, p1, q1, rfl, rfl, rfl, h1, r1⟩ := trodAll_cons r0
  obtain ⟨v2, vs2, d2, ds2, p2, q2, rfl, rfl, rfl, h2, r2⟩ := trodAll_cons r1
  obtain ⟨rfl, rfl, rfl⟩ := trodAll_nil r2
  obtain rfl : args = #[v0, v1, v2] := by cases args; simp_all
  obtain ⟨rfl, rfl⟩ := trodVars_none hV
  obtain ⟨A0, n0, c0, rfl⟩ := okWide_slice Tryd.underlying27 (hval 0 27 v0 rfl rfl)
  have k0 := h0
  have lt0 : ∀ x ∈ p0, x.block < W.heap.size := by obtain ⟨m, hm⟩ := k0; exact DataW.trod_lt m _ _ _ hm
  obtain ⟨l0, z0, hv0⟩ : ∃ l, (Kd.slice 26 k26).K W l [Value.slice A0 n0 c0] ∧ (fun v_ => (v_.length ≤ maxLen ∧ ∀ x_ ∈ v_, V26 x_)) l := by
    obtain ⟨fuel, hf⟩ := h0
    exact (opens_slice Tryd.underlying27 (by kernel_rfl) opens26) enc W _ _ _ _ _ _ hf
  obtain ⟨A_, c_, e, hc0, hr0⟩ := z0
  simp only [List.cons.injEq, Value.slice.injEq, and_true] at e
  obtain ⟨rfl, rfl, rfl⟩ := e
  obtain ⟨A1, n1, c1, rfl⟩ := okWide_slice Tryd.underlying27 (hval 1 27 v1 rfl rfl)
  have k1 := h1
  have lt1 : ∀ x ∈ p1, x.block < W.heap.size := by obtain ⟨m, hm⟩ := k1; exact DataW.trod_lt m _ _ _ hm
  obtain ⟨l1, z1, hv1⟩ : ∃ l, (Kd.slice 26 k26).K W l [Value.slice A1 n1 c1] ∧ (fun v_ => (v_.length ≤ maxLen ∧ ∀ x_ ∈ v_, V26 x_)) l := by
    obtain ⟨fuel, hf⟩ := h1
    exact (opens_slice Tryd.underlying27 (by kernel_rfl) opens26) enc W _ _ _ _ _ _ hf
  obtain ⟨A_, c_, e, hc1, hr1⟩ := z1
  simp only [List.cons.injEq, Value.slice.injEq, and_true] at e
  obtain ⟨rfl, rfl, rfl⟩ := e
  obtain ⟨a2, rfl, rfl, rfl, hv2⟩ := open_int Tryd.underlying5 (hval 2 5 v2 rfl rfl) h2
  obtain ⟨k, h⟩ := Pure.OverGaps l0 l1 a2 hv0 hv1 hv2
  refine (epitomelaw11_OverGaps.calls k _ _ l0 _ _ l1 a2 true ⟨rfl⟩ W hG hr0 hc0 hr1 hc1 h).mono ?_
  rintro e W' ⟨rfl, hd⟩
  have bel : Below W.heap.size W W' := hd
  exact ⟨_, rfl, _, _, _, [], _, [], hW', trodAll_mk1 (shut_bool Tryd.underlying4 _), (trodAll_cons_mk (Below.trod laidOut (by kernel_rfl) (of_decide_eq_true (by kernel_rfl)) k0 bel lt0) (trodAll_cons_mk (Below.trod laidOut (by kernel_rfl) (of_decide_eq_true (by kernel_rfl)) k1 bel lt1) (trodAll_cons_mk (shut_int Tryd.underlying5 hv2) trodAll_mk0))), rfl, bel.frame _, fun h => by cases h⟩
theorem over : Rows.overGapsRow.holds Tryd.pinned (OpenSpec.ofChange Rows.overGapsSpec) :=
  OpenClaim.holds_of_wide 7 Tryd.f7 rfl rfl rfl rfl rfl rfl rfl ⟨rfl, rfl, rfl, rfl, rfl⟩ rfl rfl rfl rfl rfl (by kernel_rfl) Tryd.func7 (by kernel_rfl)
    (of_decide_eq_true (by kernel_rfl)) (by unfold Func.isWrapper; first | (rw [if_pos (by decide +kernel)]; kernel_rfl) | (rw [if_neg (by decide +kernel)]; exact ⟨rfl, rfl⟩))
    (fun os started H enc _ => lifted os started H enc)
theorem card : Claim7.holds Tryd.pinned (.plain (OpenSpec.ofChange Rows.overGapsSpec)) Rows.overGapsCard :=
  Claim7.holds_tied_plain_at .later [] [.data, .data, .pinned] true (true, "cb220046ee5715416f27fb58bb862ce5d799745ed337233484527cd9cd290028") false
    over (fun _ h => by cases h) (by kernel_rfl) (fun _ h => by cases h) overGaps_row_tie rfl ⟨rfl, rfl⟩ (by kernel_rfl) rfl
    (fun f fn hf hfn => by
      obtain rfl : f = 7 := Option.some.inj ((show Tryd.prog.funcNamed "epitome/epitomelaw11.OverGaps" = some 7 by kernel_rfl).symm.trans hf) |>.symm
      obtain rfl : fn = Tryd.f7 := (Option.some.inj (Tryd.func7.symm.trans hfn)).symm
      exact ⟨by kernel_rfl, fun j t ht => by
        rw [Tryd.params7] at ht
        match j, ht with
        | 0, ht =>
          obtain rfl : t = 27 := by simpa using ht.symm
          exact (show Tryd.prog.wantsStandIn 27 = false by kernel_rfl)
        | 1, ht =>
          obtain rfl : t = 27 := by simpa using ht.symm
          exact (show Tryd.prog.wantsStandIn 27 = false by kernel_rfl)
        | 2, ht =>
          obtain rfl : t = 5 := by simpa using ht.symm
          exact (show Tryd.prog.wantsStandIn 5 = false by kernel_rfl)
        | j + 3, ht => simp at ht⟩)
    (by kernel_rfl)
theorem proved : Rows.OverGapsCardSaid := card
end Go.Proofs.YtkefbljogjcodaaDoor.overGaps
namespace Go.Proofs.YtkefbljogjcodaaDoor
theorem overGaps_holds : Rows.OverGapsCardSaid := overGaps.proved
#print axioms overGaps_holds
end Go.Proofs.YtkefbljogjcodaaDoor
end
