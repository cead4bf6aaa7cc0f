import Derived.Test.YtkgicpnnlkcaeaaDoorKZGapsAllF
import Derived.Test.YtkgicpnnlkcaeaaDoorKZGapsAllPA
import Derived.Below
import Derived.Deep.Draws
import Derived.Deep.AppendLies
import Derived.Maps.AppendAt
import Derived.OwnWalk
import Derived.Laws.BytesArg
import Derived.Laws.MakeOwn
import Derived.Laws.OwnMore
import Derived.Deep.OwnRows
import Derived.Tactics
import Derived.Lib.ConvBytes
import Derived.Laws.Slices
import Derived.WalkKit
import Derived.KernelRfl
import Derived.RowKit3
import Derived.Deep.LoopGhost
import Derived.Deep.QuietTactic
import Derived.BigQuiet
import Derived.WideLaws
import Derived.Deep.DeepCutAuto
import Derived.Deep.CutBlock
import Derived.Deep.RegionHeld3
import Derived.Laws.Rows
import Derived.Lib.AppendStr
import Derived.ArgAppend
import Derived.Laws.IdiomCopy
import Derived.RowKit
import Derived.OrdersHeld
import Derived.Laws.BitsLemmas
import Derived.Laws.StructEq
import Derived.Test.YtkgicpnnlkcaeaaDoorProg
import Derived.Handy
import Derived.Shelf.Unicode.DecodeSlow
import Derived.Ground.NamesProg
import Derived.Shelf.Unicode.ValidAny
import Derived.Maps.OwnOps
import Derived.Maps.Views
import Derived.Laws.RangeString
import Derived.Laws.RangeAny
import Derived.Lib.RuneCount
import Derived.Laws.IdiomStrings
import Derived.Laws.Cover4
import Derived.ProofKit
import Derived.OpenShut
import Derived.ShutString
import Derived.ChangeOld
import Derived.SizedLaws
import Derived.Lib.ValidLaws
import Derived.Test.YtkgicpnnlkcaeaaDoorRows
import Derived.Lib.LaidU8T
import Derived.Lib.LaidIn
import Derived.LaidLaws
import Derived.Test.YtkgicpnnlkcaeaaDoorTie
import Derived.Test.YtkgicpnnlkcaeaaDoorCards
import Derived.Carry
import Derived.ChangeSame
import Derived.ChangeVars
import Derived.JoinedOf
import Derived.SevenTiedAt
section
namespace Go.Proofs.YtkgicpnnlkcaeaaDoor.F
open Go.RowKit Go.Proofs.YtkgicpnnlkcaeaaDoorW.PrintWords Go.Proofs.YtkgicpnnlkcaeaaDoorW.PrintLast Go.Proofs.YtkgicpnnlkcaeaaDoorW.PrintMore
attribute [local go_sem] max2_int min2_int max_two min_two max_three min_three max_four min_four cell_setCell_isSome
set_option linter.unusedVariables false
set_option linter.unusedSimpArgs false
def epitomelaw06_GapsAll.Pure : Prop := ∀ (l0 : List (S33)) (l1_0 : List ByteArray) (l1_1 : List Bool), (l0.length ≤ maxLen ∧ ∀ x_ ∈ l0, V33 x_) → (l1_0.length ≤ maxLen ∧ ∀ x_ ∈ l1_0, x_.size ≤ maxLen) → (l1_1.length ≤ maxLen ∧ ∀ x_ ∈ l1_1, True) → ∃ k, epitomelaw06_GapsAll.f k l0 l1_0 l1_1 = some true
end Go.Proofs.YtkgicpnnlkcaeaaDoor.F
end
section
namespace Go.Proofs.YtkgicpnnlkcaeaaDoor.F
open Go.RowKit Go.Proofs.YtkgicpnnlkcaeaaDoorW.PrintWords Go.Proofs.YtkgicpnnlkcaeaaDoorW.PrintLast Go.Proofs.YtkgicpnnlkcaeaaDoorW.PrintMore
set_option linter.unusedVariables false
set_option linter.unusedSimpArgs false
theorem preq_app (B : List (List Int)) (q : List Int) (ps : List (List Int)) (h : ps ≠ []) : B ++ preq q ([] :: ps) = (B ++ [q]) ++ preq [] ps := by
  rw [preq_nil h]
  simp [preq]
theorem cells_one (B : List (List Int)) (q : List Int) (m : Nat) : cells B q (m + 1) = cells (B ++ [q]) [] m := by
  have := cells_more B q 0 (m + 1) (by omega)
  simpa using this
theorem ref06_l1 (l : List Sp) (s : Sp) (pre rs : List Sp) (hl : l = pre ++ s :: rs) (hll : l.length ≤ 2097152) (n : Nat) (hn : s.f1 = (n : Int)) (hnn : n ≤ 1048576) (u : U) (y : List U)
    (hu : (u = .k ∧ (s.f0 == 3) = false) ∨ (u = .d ∧ (s.f0 == 3) = true)) (tot Q : Nat) (htot : tot ≤ 1048576)
    (hnext : ∀ (B : List (List Int)) (q : List Int) (m : Nat) (C G : List Bool), C.length = B.length → G.length = m → m = cinU y → B.length + m = tot → q.length ≤ Q → Ev (fun k => epitomeref06_Of.l0 k l (B.length : Int) ((pre.length + 1 : Nat) : Int) (cells B q m) (C ++ G)) ((B ++ preq q (gpP y)).map encT, C ++ gpG y, 0)) :
    ∀ (c j : Nat) (B : List (List Int)) (q : List Int) (m : Nat) (C G : List Bool), j + c = n → C.length = B.length → G.length = m → m = c + cinU y → B.length + m = tot → q.length ≤ Q →
    Ev (fun k => epitomeref06_Of.l1 k l (B.length : Int) (pre.length : Int) (j : Int) (cells B q m) (C ++ G)) ((B ++ preq q (gpP (List.replicate c u ++ y))).map encT, C ++ gpG (List.replicate c u ++ y), 0)
  | 0, j, B, q, m, C, G, hj, hC, hG, hm, ht, hQ => by
    have hlt : pre.length < l.length := by rw [hl]; simp
    have hrd : rd_T33 l (pre.length : Int) = s := by rw [hl]; exact rdS_at rfl
    have := hnext B q m C G hC hG (by omega) ht hQ
    refine Ev.step (fun k => ?_) this
    rw [epitomeref06_Of.l1, if_pos (by omega), if_pos (by omega), hrd, hn, if_neg (by omega), w64_succ _ (by omega)]
  | c + 1, j, B, q, m, C, G, hj, hC, hG, hm, ht, hQ => by
    have hlt : pre.length < l.length := by rw [hl]; simp
    have hrd : rd_T33 l (pre.length : Int) = s := by rw [hl]; exact rdS_at rfl
    obtain ⟨m1, rfl⟩ : ∃ m1, m = m1 + 1 := ⟨m - 1, by omega⟩
    rcases G with _ | ⟨g, G⟩
    · simp at hG
    have hset : ∀ b : Bool, (C ++ g :: G).set B.length b = (C ++ [b]) ++ G := by
      intro b
      rw [← hC]
      simp [List.set_append]
    have step : ∀ b, b = (s.f0 == 3) → Ev (fun k => epitomeref06_Of.l1 k l ((B.length + 1 : Nat) : Int) (pre.length : Int) ((j + 1 : Nat) : Int) (cells B q (m1 + 1)) ((C ++ [b]) ++ G)) ((B ++ preq q (gpP (List.replicate (c + 1) u ++ y))).map encT, C ++ gpG (List.replicate (c + 1) u ++ y), 0) := by
      intro b hb
      have ih := ref06_l1 l s pre rs hl hll n hn hnn u y hu tot Q htot hnext c (j + 1) (B ++ [q]) [] m1 (C ++ [b]) G (by omega) (by simp [hC]) (by simpa using hG) (by omega) (by simp; omega) (by simp)
      rw [← cells_one] at ih
      have e1 : B ++ preq q (gpP (List.replicate (c + 1) u ++ y)) = (B ++ [q]) ++ preq [] (gpP (List.replicate c u ++ y)) := by
        rw [List.replicate_succ, List.cons_append]
        rcases hu with ⟨rfl, _⟩ | ⟨rfl, _⟩
        · exact preq_app _ _ _ (gpP_ne _)
        · exact preq_app _ _ _ (gpP_ne _)
      have e2 : C ++ gpG (List.replicate (c + 1) u ++ y) = (C ++ [b]) ++ gpG (List.replicate c u ++ y) := by
        rw [List.replicate_succ, List.cons_append]
        rcases hu with ⟨rfl, hf⟩ | ⟨rfl, hf⟩
        · rw [hb, hf]; simp [gpG]
        · rw [hb, hf]; simp [gpG]
      rw [e1, e2]
      simpa using ih
    refine Ev.step (fun k => ?_) (step _ rfl)
    rw [epitomeref06_Of.l1, if_pos (by omega), if_pos (by omega), hrd, hn, if_pos (by omega), if_pos (by omega), if_pos (by simp; omega), Int.toNat_natCast, hset, w64_succ _ (by omega), w64_succ _ (by omega)]
theorem ref06_loop (l : List Un) (ok : Ok l) (tot : Nat) (htot : tot ≤ 1048576) : ∀ (r pre : List Un) (B : List (List Int)) (q : List Int) (m : Nat) (C G : List Bool), l = pre ++ r → C.length = B.length → G.length = m → m = cinU (exU r) → B.length + m = tot → q.length + coutU (exU r) ≤ 1099511627776 →
    Ev (fun k => epitomeref06_Of.l0 k (l.map Un.sp) (B.length : Int) (pre.length : Int) (cells B q m) (C ++ G)) ((B ++ preq q (gpP (exU r))).map encT, C ++ gpG (exU r), 0)
  | [], pre, B, q, m, C, G, h, hC, hG, hm, ht, ho => by
    have hm0 : m = 0 := hm
    subst hm0
    have hG0 : G = [] := List.eq_nil_of_length_eq_zero hG
    subst hG0
    refine Ev.step (f := fun _ => some (cells B q 0, C ++ [], 0)) (fun k => ?_) ?_
    · rw [epitomeref06_Of.l0, if_neg (by subst h; simp)]
    · have e : ((B ++ preq q (gpP (exU []))).map encT, C ++ gpG (exU []), (0 : Int)) = (cells B q 0, C ++ [], 0) := by simp [exU, gpP, gpG, preq, cells]
      rw [e]
      exact Ev.now _
  | u :: r, pre, B, q, m, C, G, h, hC, hG, hm, ht, ho => by
    have hlt : (pre.length : Int) < ((l.map Un.sp).length : Int) := by subst h; simp <;> omega
    have hll : pre.length + (r.length + 1) = l.length := by subst h; simp
    have hle := ok.len
    have hspl : l.map Un.sp = pre.map Un.sp ++ u.sp :: r.map Un.sp := by rw [h, List.map_append, List.map_cons]
    have hrd : rd_T33 (l.map Un.sp) (pre.length : Int) = u.sp := by
      rw [hspl]
      exact rdS_at (by simp)
    have sz := fun l : List Int => (encT_size l).2
    have sq := sz q
    rw [exU_cons] at hm ho ⊢
    rw [cinU_append] at hm
    rw [coutU_append] at ho
    have ih := fun B q m C G => ref06_loop l ok tot htot r (pre ++ [u]) B q m C G (by simp [h])
    have many : ∀ (n : Nat) (x : U), u.sp.f1 = (n : Int) → u.sp.f0 ≠ 2 → u.ex = List.replicate n x → ((x = .k ∧ (u.sp.f0 == 3) = false) ∨ (x = .d ∧ (u.sp.f0 == 3) = true)) → cinU u.ex = n →
        Ev (fun k => epitomeref06_Of.l0 k (l.map Un.sp) (B.length : Int) (pre.length : Int) (cells B q m) (C ++ G)) ((B ++ preq q (gpP (u.ex ++ exU r))).map encT, C ++ gpG (u.ex ++ exU r), 0) := by
      intro n x e1 e2 e3 e4 e5
      refine Ev.step (f := fun k => epitomeref06_Of.l1 k (l.map Un.sp) (B.length : Int) (pre.length : Int) 0 (cells B q m) (C ++ G)) (fun k => by rw [epitomeref06_Of.l0, if_pos hlt, if_pos (by omega), hrd, if_neg e2]) ?_
      rw [e3]
      have hpl : pre.length = (pre.map Un.sp).length := by simp
      rw [hpl]
      refine ref06_l1 (l.map Un.sp) u.sp (pre.map Un.sp) (r.map Un.sp) hspl (by rw [List.length_map]; exact hle) n e1 (by omega) x (exU r) e4 tot q.length htot ?_ n 0 B q m C G (by omega) hC hG (by omega) ht (Nat.le_refl _)
      intro B2 q2 m2 C2 G2 a1 a2 a3 a4 a5
      have := ih B2 q2 m2 C2 G2 a1 a2 a3 a4 (by omega)
      simpa using this
    cases u with
    | put p =>
      have e1 : cinU (Un.put p).ex = 0 := cinU_un (.put p)
      have e2 : coutU (Un.put p).ex = p.length := coutU_un (.put p)
      have sp := sz p
      have hBl : B.length < (cells B q m).length := by unfold cells; simp
      have hrq : rdOf ByteArray.empty (cells B q m) (B.length : Int) = encT q := by
        unfold rdOf
        rw [Int.toNat_natCast]
        have := cells_get B q m
        rw [List.getD_eq_getElem?_getD, List.getElem?_eq_getElem hBl] at this ⊢
        exact this
      have := ih B (q ++ p) m C G hC hG (by omega) ht (by simp; omega)
      rw [show (Un.put p).ex = p.map .p from rfl, gpP_put, gpG_put, preq_preq]
      refine Ev.step (fun k => ?_) this
      rw [epitomeref06_Of.l0, if_pos hlt, if_pos (by omega), hrd, if_pos (show (Un.put p).sp.f0 = 2 from rfl), if_pos (by omega), if_pos (by omega), hrq, show (Un.put p).sp.f2 = encT p from rfl, if_pos (by omega), ← encT_append, Int.toNat_natCast, cells_set, w64_succ _ (by omega)]
      simp
    | keep n => exact many n .k rfl (by simp [Un.sp]) rfl (.inl ⟨rfl, rfl⟩) (cinU_un (.keep n))
    | drop n => exact many n .d rfl (by simp [Un.sp]) rfl (.inr ⟨rfl, rfl⟩) (cinU_un (.drop n))
theorem gaps_all (l : List Sp) (hl : l.length ≤ 500000) (hz : ∀ s ∈ l, s.f2.size ≤ 1048576) : ∃ r : List ByteArray × List Bool × Int, Ev (fun k => gaps_Of.f k l) r ∧ Ev (fun k => epitomeref06_Of.f k l) r ∧ r.1.length ≤ 1000 ∧ r.2.1.length ≤ 1000 := by
  obtain ⟨e, m1, m2, hu⟩ := may_all l hl hz
  by_cases h0 : e = 0
  · subst h0
    obtain ⟨us, rfl, ok⟩ := hu rfl
    have hci := ok.cin
    have hco := ok.cout
    by_cases h5 : (us.map Un.cin).sum ≤ 512
    · refine ⟨((gpP (exU us)).map encT, gpG (exU us), 0), gapsOf_is ok h5, ?_, ?_, ?_⟩
      · unfold epitomeref06_Of.f
        refine Ev.bind m2 (ev_if_pos rfl (Ev.bind (refIn_is ok) (ev_if_neg (by omega) ?_)))
        have hw : wrap64 ((((us.map Un.cin).sum : Nat) : Int) + 1) = (((us.map Un.cin).sum + 1 : Nat) : Int) := w64_succ _ (by omega)
        rw [hw]
        refine ev_if_pos (by omega) (ev_if_pos (by omega) (ev_if_pos (by omega) (ev_if_pos (by omega) ?_)))
        rw [Int.toNat_natCast, Int.toNat_natCast]
        have := ref06_loop us ok (us.map Un.cin).sum (by omega) us [] [] [] (us.map Un.cin).sum [] (List.replicate (us.map Un.cin).sum false) rfl rfl (by simp) (by rw [cinU_ex]) (by simp) (by rw [coutU_ex]; simpa using hco)
        have e1 : cells [] [] (us.map Un.cin).sum = List.replicate ((us.map Un.cin).sum + 1) ⟨#[]⟩ := by
          unfold cells
          rw [List.nil_append, ← List.replicate_succ, List.map_replicate, encT_nil]
        rw [e1] at this
        simp only [List.length_nil, List.nil_append] at this
        rw [preq_nil (gpP_ne _)] at this
        exact this
      · rw [List.length_map, gpP_length, cinU_ex]; omega
      · rw [gpG_length, cinU_ex]; omega
    · refine ⟨([], [], 4), ?_, ?_, by simp, by simp⟩
      · unfold gaps_Of.f
        exact Ev.bind m1 (ev_if_pos rfl (Ev.bind (opIn_is ok) (ev_if_pos (by omega) (Ev.now _))))
      · unfold epitomeref06_Of.f
        exact Ev.bind m2 (ev_if_pos rfl (Ev.bind (refIn_is ok) (ev_if_pos (by omega) (Ev.now _))))
  · refine ⟨([], [], e), ?_, ?_, by simp, by simp⟩
    · unfold gaps_Of.f
      exact Ev.bind m1 (ev_if_neg h0 (Ev.now _))
    · unfold epitomeref06_Of.f
      exact Ev.bind m2 (ev_if_neg h0 (Ev.now _))
theorem first_bad : ∀ T : List ByteArray, (∃ ps : List (List Int), T = ps.map encT ∧ ∀ p ∈ ps, Runes p) ∨ (∃ (ps : List (List Int)) (b : ByteArray) (r : List ByteArray), T = ps.map encT ++ b :: r ∧ (∀ p ∈ ps, Runes p) ∧ Lib.validD b.data.toList = false)
  | [] => .inl ⟨[], rfl, by simp⟩
  | s :: T => by
    cases hv : Lib.validD s.data.toList with
    | false => exact .inr ⟨[], s, T, rfl, by simp, hv⟩
    | true =>
      obtain ⟨p, hp, rfl⟩ := valid_text s hv
      have hp' : ∀ ps : List (List Int), (∀ q ∈ ps, Runes q) → ∀ q ∈ p :: ps, Runes q := by
        intro ps h q hq
        rcases List.mem_cons.1 hq with rfl | hq
        · exact hp
        · exact h q hq
      rcases first_bad T with ⟨ps, rfl, h⟩ | ⟨ps, b, r, rfl, h, hb⟩
      · exact .inl ⟨p :: ps, rfl, hp' ps h⟩
      · exact .inr ⟨p :: ps, b, r, rfl, hp' ps h, hb⟩
theorem spansL_bad (b : ByteArray) (hb : Lib.validD b.data.toList = false) (hbs : b.size ≤ 1000) (rest : List ByteArray) : ∀ (ps : List (List Int)) (gs : List Bool) (y : List U), ps.length ≤ gs.length → (∀ p ∈ ps, Runes p) → cinU y + gs.length ≤ 1000000 → coutU y + gs.length + (ps.map List.length).sum ≤ 1000000 →
    spansL (ps.map encT ++ b :: rest) gs ((canon y).map Un.sp) = some ([], 3)
  | [], gs, y, _, _, _, _ => by
    have hv : points_Valid.f b = some false := valid_some (by omega) hb
    cases gs with
    | nil => rw [List.map_nil, List.nil_append, spansL, hv]; rfl
    | cons g gs => rw [List.map_nil, List.nil_append, spansL, hv]; rfl
  | p :: ps, [], y, h, _, _, _ => by simp at h
  | p :: ps, g :: gs, y, h, hr, h1, h2 => by
    simp only [List.map_cons, List.sum_cons, List.length_cons] at h2 h1 h
    have a1 := addW_canon y (.put p) ⟨by show cinU y + 0 ≤ _; omega, by show coutU y + p.length ≤ _; omega⟩
    have e1 : cinU (p.map U.p) = 0 := cinU_un (.put p)
    have e2 : coutU (p.map U.p) = p.length := coutU_un (.put p)
    have e3 : cinU [ug g] = 1 := by cases g <;> rfl
    have e4 : coutU [ug g] ≤ 1 := by cases g <;> simp [ug, coutU]
    have c1 := cinU_append y (p.map U.p)
    have c2 := coutU_append y (p.map U.p)
    have c3 := cinU_append (y ++ p.map U.p) [ug g]
    have c4 := coutU_append (y ++ p.map U.p) [ug g]
    have a2 : addW ((canon (y ++ p.map U.p)).map Un.sp) (if g = true then 3 else 1) 1 ⟨#[]⟩ = some ((canon (y ++ p.map U.p ++ [ug g])).map Un.sp) := by
      cases g
      · exact addW_canon (y ++ p.map U.p) (.keep 1) ⟨by show _ + 1 ≤ _; omega, by show _ + 1 ≤ _; omega⟩
      · exact addW_canon (y ++ p.map U.p) (.drop 1) ⟨by show _ + 1 ≤ _; omega, by show _ + 0 ≤ _; omega⟩
    rw [List.map_cons, List.cons_append, spansL, validStr_enc p (hr p (by simp)) (by omega), Option.bind_some, if_pos rfl]
    rw [show addW ((canon y).map Un.sp) 2 0 (encT p) = _ from a1, Option.bind_some, show canon (y ++ (Un.put p).ex) = canon (y ++ p.map U.p) from rfl, a2, Option.bind_some]
    exact spansL_bad b hb hbs rest ps gs _ (by omega) (fun x hx => hr x (by simp [hx])) (by omega) (by omega)
def gUn (g : Bool) : Un := if g = true then .drop 1 else .keep 1
def rawU : List (List Int) → List Bool → List Un
  | [], _ => []
  | p :: _, [] => [.put p]
  | p :: ps, g :: gs => .put p :: gUn g :: rawU ps gs
theorem rawU_ex : ∀ (ps : List (List Int)) (gs : List Bool), exU (rawU ps gs) = ungp ps gs
  | [], gs => by cases gs <;> rfl
  | p :: ps, [] => by simp [rawU, ungp, exU, Un.ex]
  | p :: ps, g :: gs => by
    rw [rawU, ungp, exU_cons, exU_cons, rawU_ex ps gs]
    cases g <;> rfl
theorem ref06s_good (ps : List (List Int)) (gs : List Bool) (hr : ∀ p ∈ ps, Runes p) (hz : ∀ p ∈ ps, p.length ≤ 1000) (hl : ps.length = gs.length + 1) (hg : gs.length ≤ 512) (all : List Un) (hall : all = rawU ps gs) (hN : Ev (fun k => epitomeref05_Of.f k (all.map Un.sp)) (norm (all.map Un.sp))) :
    ∀ (r pre : List (List Int)) (g pg : List Bool) (out : List Un), ps = pre ++ r → gs = pg ++ g → (r ≠ [] → pre.length = pg.length ∧ r.length = g.length + 1) → all = out ++ rawU r g → out.length ≤ 2 * pre.length →
    Ev (fun k => epitomeref06_Spans.l0 k (out.map Un.sp) (pre.length : Int) (ps.map encT) gs) (norm (all.map Un.sp), 0)
  | [], pre, g, pg, out, h1, h2, h3, h4, h5 => by
    have ho : out = all := by rw [h4]; simp [rawU]
    subst ho
    refine Ev.step (f := fun k => _) (fun k => by rw [epitomeref06_Spans.l0, if_neg (by rw [List.length_map, h1]; simp)]) ?_
    exact Ev.bind hN (Ev.now _)
  | p :: r, pre, g, pg, out, h1, h2, h3, h4, h5 => by
    obtain ⟨e1, e2⟩ := h3 (by simp)
    have hll : pre.length + (r.length + 1) = ps.length := by rw [h1]; simp
    have hgl : pg.length + g.length = gs.length := by rw [h2]; simp
    have hrd : rdOf ByteArray.empty (ps.map encT) (pre.length : Int) = encT p := by
      have := rdB_at (ps.map encT) (pre.map encT) (r.map encT) (encT p) (by rw [h1]; simp)
      simpa using this
    have hp := hr p (by rw [h1]; simp)
    have hpz := hz p (by rw [h1]; simp)
    have sp := (encT_size p).2
    have hv : Lib.validD (encT p).data.toList = true := by rw [encT_list]; exact validD_enc p hp
    have hV := refValid_is (encT p) (by omega)
    rw [hv] at hV
    refine Ev.step (f := fun k => _) (fun k => by rw [epitomeref06_Spans.l0, if_pos (by rw [List.length_map]; omega), if_pos (by omega), hrd]) ?_
    refine Ev.bind hV (ev_if_pos rfl (ev_if_pos (by rw [List.length_map]; omega) (ev_some rfl ?_)))
    have hput : out.map Un.sp ++ [(⟨2, 0, encT p⟩ : Sp)] = (out ++ [Un.put p]).map Un.sp := by simp [Un.sp]
    rw [hput, w64_succ _ (by omega)]
    rcases g with _ | ⟨g0, g⟩
    · have hr0 : r = [] := List.eq_nil_of_length_eq_zero (by simpa using e2)
      subst hr0
      refine ev_if_neg (by simp at hgl; omega) ?_
      have := ref06s_good ps gs hr hz hl hg all hall hN [] (pre ++ [p]) [] pg (out ++ [.put p]) (by simp [h1]) (by simpa using h2) (fun h => absurd rfl h) (by rw [h4]; simp [rawU]) (by simp; omega)
      simpa using this
    · have hgd := rdG_at gs pg g g0 h2
      rw [← e1] at hgd
      refine ev_if_pos (by simp at hgl; omega) ?_
      rw [hgd]
      have := ref06s_good ps gs hr hz hl hg all hall hN r (pre ++ [p]) g (pg ++ [g0]) (out ++ [.put p, gUn g0]) (by simp [h1]) (by simp [h2]) (fun _ => ⟨by simp [e1], by simpa using e2⟩) (by rw [h4]; simp [rawU]) (by simp; omega)
      have e3 : (out ++ [Un.put p, gUn g0]).map Un.sp = (out ++ [Un.put p]).map Un.sp ++ [(gUn g0).sp] := by simp
      rw [e3] at this
      cases g0
      · refine ev_if_neg (by simp) (ev_if_pos (by simp; omega) ?_)
        rw [show (gUn false).sp = (⟨1, 1, ⟨#[]⟩⟩ : Sp) from rfl] at this
        simpa using this
      · refine ev_if_pos rfl (ev_if_pos (by simp; omega) ?_)
        rw [show (gUn true).sp = (⟨3, 1, ⟨#[]⟩⟩ : Sp) from rfl] at this
        simpa using this
theorem ref06s_bad (T : List ByteArray) (ps : List (List Int)) (b : ByteArray) (rest : List ByteArray) (hT : T = ps.map encT ++ b :: rest) (hb : Lib.validD b.data.toList = false) (hbz : b.size ≤ 1000) (gs : List Bool) (hr : ∀ p ∈ ps, Runes p) (hz : ∀ p ∈ ps, p.length ≤ 1000) (hl : T.length = gs.length + 1) (hg : gs.length ≤ 512) :
    ∀ (r pre : List (List Int)) (g pg : List Bool) (out : List Un), ps = pre ++ r → gs = pg ++ g → pre.length = pg.length → out.length ≤ 2 * pre.length →
    Ev (fun k => epitomeref06_Spans.l0 k (out.map Un.sp) (pre.length : Int) T gs) ([], 3)
  | [], pre, g, pg, out, h1, h2, h3, h5 => by
    have hTl : T.length = ps.length + (rest.length + 1) := by rw [hT]; simp
    have hrd : rdOf ByteArray.empty T (pre.length : Int) = b := by
      have := rdB_at T (ps.map encT) rest b hT
      rw [h1] at this
      simpa using this
    have hps : ps.length = pre.length := by rw [h1]; simp
    have hV := refValid_is b (by omega)
    rw [hb] at hV
    refine Ev.step (f := fun k => _) (fun k => by rw [epitomeref06_Spans.l0, if_pos (by omega), if_pos (by omega), hrd]) ?_
    exact Ev.bind hV (ev_if_neg (by simp) (Ev.now _))
  | p :: r, pre, g, pg, out, h1, h2, h3, h5 => by
    have hTl : T.length = ps.length + (rest.length + 1) := by rw [hT]; simp
    have hll : pre.length + (r.length + 1) = ps.length := by rw [h1]; simp
    have hgl : pg.length + g.length = gs.length := by rw [h2]; simp
    have hrd : rdOf ByteArray.empty T (pre.length : Int) = encT p := by
      have := rdB_at T (pre.map encT) (r.map encT ++ b :: rest) (encT p) (by rw [hT, h1]; simp)
      simpa using this
    have hp := hr p (by rw [h1]; simp)
    have hpz := hz p (by rw [h1]; simp)
    have sp := (encT_size p).2
    have hv : Lib.validD (encT p).data.toList = true := by rw [encT_list]; exact validD_enc p hp
    have hV := refValid_is (encT p) (by omega)
    rw [hv] at hV
    refine Ev.step (f := fun k => _) (fun k => by rw [epitomeref06_Spans.l0, if_pos (by omega), if_pos (by omega), hrd]) ?_
    refine Ev.bind hV (ev_if_pos rfl (ev_if_pos (by rw [List.length_map]; omega) (ev_some rfl ?_)))
    have hput : out.map Un.sp ++ [(⟨2, 0, encT p⟩ : Sp)] = (out ++ [Un.put p]).map Un.sp := by simp [Un.sp]
    rw [hput, w64_succ _ (by omega)]
    rcases g with _ | ⟨g0, g⟩
    · simp at hgl; omega
    · have hgd := rdG_at gs pg g g0 h2
      rw [← h3] at hgd
      refine ev_if_pos (by simp at hgl; omega) ?_
      rw [hgd]
      have := ref06s_bad T ps b rest hT hb hbz gs hr hz hl hg r (pre ++ [p]) g (pg ++ [g0]) (out ++ [.put p, gUn g0]) (by simp [h1]) (by simp [h2]) (by simp [h3]) (by simp; omega)
      have e3 : (out ++ [Un.put p, gUn g0]).map Un.sp = (out ++ [Un.put p]).map Un.sp ++ [(gUn g0).sp] := by simp
      rw [e3] at this
      cases g0
      · refine ev_if_neg (by simp) (ev_if_pos (by simp; omega) ?_)
        rw [show (gUn false).sp = (⟨1, 1, ⟨#[]⟩⟩ : Sp) from rfl] at this
        simpa using this
      · refine ev_if_pos rfl (ev_if_pos (by simp; omega) ?_)
        rw [show (gUn true).sp = (⟨3, 1, ⟨#[]⟩⟩ : Sp) from rfl] at this
        simpa using this
theorem rawU_length : ∀ (ps : List (List Int)) (gs : List Bool), (rawU ps gs).length ≤ 2 * ps.length
  | [], gs => by cases gs <;> simp [rawU]
  | p :: ps, [] => by simp [rawU]; omega
  | p :: ps, g :: gs => by
    have := rawU_length ps gs
    simp [rawU]
    omega
theorem rawU_size : ∀ (ps : List (List Int)) (gs : List Bool) (m : Nat), (∀ p ∈ ps, p.length ≤ m) → sizeS ((rawU ps gs).map Un.sp) ≤ 4 * m * ps.length
  | [], gs, m, _ => by cases gs <;> simp [rawU, sizeS]
  | p :: ps, [], m, h => by
    have h1 := h p (by simp)
    have h2 := (encT_size p).2
    have : sizeS ((rawU (p :: ps) []).map Un.sp) = (encT p).size := by simp [rawU, sizeS, Un.sp]
    rw [this, List.length_cons, Nat.mul_succ]
    omega
  | p :: ps, g :: gs, m, h => by
    have h1 := h p (by simp)
    have h2 := (encT_size p).2
    have ih := rawU_size ps gs m (fun q hq => h q (by simp [hq]))
    have : sizeS ((rawU (p :: ps) (g :: gs)).map Un.sp) = (encT p).size + sizeS ((rawU ps gs).map Un.sp) := by
      cases g <;> simp [rawU, sizeS, Un.sp, gUn, size_none]
    rw [this, List.length_cons, Nat.mul_succ]
    omega
theorem spans_all (T : List ByteArray) (gs : List Bool) (hg : gs.length ≤ 512) (hz : ∀ s ∈ T, s.size ≤ 1000) : ∃ r : List Sp × Int, gaps_Spans.f T gs = some r ∧ Ev (fun k => epitomeref06_Spans.f k T gs) r ∧ r.1.length ≤ 2000000 := by
  unfold gaps_Spans.f epitomeref06_Spans.f
  rw [if_pos (by omega), w64_succ _ (by omega)]
  by_cases hl : T.length = gs.length + 1
  · rw [if_pos hl, if_pos hg]
    rcases first_bad T with ⟨ps, rfl, hr⟩ | ⟨ps, b, rest, rfl, hr, hb⟩
    · have hpz : ∀ p ∈ ps, p.length ≤ 1000 := by
        intro p hp
        have h1 := hz (encT p) (List.mem_map_of_mem hp)
        have h2 := (encT_size p).1
        omega
      have hpl : ps.length = gs.length + 1 := by simpa using hl
      have hsum : (ps.map List.length).sum ≤ 1000 * ps.length := by
        clear hz hl hr hpl
        induction ps with
        | nil => simp
        | cons p ps ih =>
          have h1 := hpz p (by simp)
          have h2 := ih (fun q hq => hpz q (by simp [hq]))
          simp only [List.map_cons, List.sum_cons, List.length_cons, Nat.mul_succ]
          omega
      have hp := spansL_is ps gs [] hpl hr (by show 0 + _ ≤ _; omega) (by show 0 + _ + _ ≤ _; omega)
      have hrl := rawU_length ps gs
      have hrs := rawU_size ps gs 1000 hpz
      have hcin : ((rawU ps gs).map Un.cin).sum ≤ 4611686018427387904 := by
        rw [← cinU_ex, rawU_ex]
        have := cinU_append [] (ungp ps gs)
        have hh : ∀ (ps : List (List Int)) (gs : List Bool), cinU (ungp ps gs) ≤ gs.length := by
          intro ps
          induction ps with
          | nil => intro gs; exact Nat.zero_le _
          | cons p ps ih =>
            intro gs
            have e1 : cinU (p.map U.p) = 0 := cinU_un (.put p)
            cases gs with
            | nil => rw [ungp, e1]; exact Nat.zero_le _
            | cons g gs =>
              have := ih gs
              rw [ungp, cinU_append, e1]
              cases g <;> simp [ug, cinU] <;> omega
        have := hh ps gs
        omega
      have hn := norm_ex (rawU ps gs) hcin
      rw [rawU_ex] at hn
      refine ⟨((canon (ungp ps gs)).map Un.sp, 0), hp, ?_, ?_⟩
      · refine ev_if_pos (by omega) (ev_if_neg (by omega) ?_)
        have := ref06s_good ps gs hr hpz hpl hg (rawU ps gs) rfl (refNorm_is _ (by rw [List.length_map]; omega) (by omega)) ps [] gs [] [] rfl rfl (fun _ => ⟨rfl, hpl⟩) rfl (by simp)
        rw [hn] at this
        exact this
      · rw [← hn]
        have := norm_length ((rawU ps gs).map Un.sp)
        rw [List.length_map] at this
        show (norm _).length ≤ _
        omega
    · have hbz : b.size ≤ 1000 := hz b (by simp)
      have hpz : ∀ p ∈ ps, p.length ≤ 1000 := by
        intro p hp
        have h1 := hz (encT p) (by simp; exact .inl ⟨p, hp, rfl⟩)
        have h2 := (encT_size p).1
        omega
      have hpl : ps.length + (rest.length + 1) = gs.length + 1 := by simpa using hl
      have hsum : (ps.map List.length).sum ≤ 1000 * ps.length := by
        clear hz hl hr hpl
        induction ps with
        | nil => simp
        | cons p ps ih =>
          have h1 := hpz p (by simp)
          have h2 := ih (fun q hq => hpz q (by simp [hq]))
          simp only [List.map_cons, List.sum_cons, List.length_cons, Nat.mul_succ]
          omega
      have hp := spansL_bad b hb hbz rest ps gs [] (by omega) hr (by show 0 + _ ≤ _; omega) (by show 0 + _ + _ ≤ _; omega)
      refine ⟨([], 3), hp, ?_, by simp⟩
      refine ev_if_pos (by omega) (ev_if_neg (by omega) ?_)
      exact ref06s_bad _ ps b rest rfl hb hbz gs hr hpz hl hg ps [] gs [] [] rfl rfl rfl (by simp)
  · refine ⟨([], 5), by rw [if_neg hl], ?_, by simp⟩
    exact ev_if_neg (by omega) (Ev.now _)
theorem all_j1 (x : List Sp) (hx : x.length ≤ 30) (hz : ∀ s ∈ x, s.f2.size ≤ 60) (T : List ByteArray) (gs : List Bool) (hT : T.length ≤ maxLen) : Ev (fun k => epitomelaw06_GapsAll.j1 k true x T gs) true := by
  obtain ⟨r1, a1, a2, a3, a4⟩ := gaps_all x (by omega) (fun s hs => by have := hz s hs; omega)
  have few := few06_is T gs hT
  obtain ⟨r2, b1, b2, b3⟩ := spans_all ((T.take 41).map (cutT 20)) (gs.take 40) (by simp; omega) (by
    intro s hs
    obtain ⟨y, _, rfl⟩ := List.mem_map.1 hs
    have := cutT_size 20 y
    omega)
  refine Ev.step (f := fun k => _) (fun k => by rw [epitomelaw06_GapsAll.j1]) ?_
  refine Ev.bind a1 ?_
  refine Ev.bind a2 ?_
  refine Ev.bind few ?_
  refine ev_some b1 ?_
  refine Ev.bind few ?_
  refine Ev.bind b2 ?_
  have s6 := same6_is r1.1 r1.1 r1.2.1 r1.2.1 (by omega) (by omega)
  rw [decide_eq_true ⟨rfl, rfl⟩] at s6
  have s4 := same_is r2.1 r2.1 (by omega)
  rw [decide_eq_true rfl] at s4
  refine ev_if_pos rfl (Ev.bind s6 (ev_if_pos rfl (ev_if_pos rfl ?_)))
  refine Ev.bind s4 (ev_if_pos rfl ?_)
  rw [beq_self_eq_true]
  exact Ev.now _
theorem all_fin (pre : List Sp) (hp : pre.length ≤ 30) (T : List ByteArray) (gs : List Bool) (hT : T.length ≤ maxLen) : Ev (fun k => epitomelaw06_GapsAll.j1 k true (pre.map (fun s => (⟨s.f0, s.f1, cutT 60 s.f2⟩ : Sp))) T gs) true :=
  all_j1 _ (by simpa using hp) (by
    intro s hs
    obtain ⟨y, _, rfl⟩ := List.mem_map.1 hs
    exact cutT_size 60 y.f2) T gs hT
theorem all_loop (l : List Sp) (hl : l.length ≤ maxLen) (T : List ByteArray) (gs : List Bool) (hT : T.length ≤ maxLen) : ∀ (r pre : List Sp), l = pre ++ r → pre.length ≤ 30 →
    Ev (fun k => epitomelaw06_GapsAll.l0 k l true (pre.map (fun s => (⟨s.f0, s.f1, cutT 60 s.f2⟩ : Sp))) (pre.length : Int) T gs) true
  | [], pre, h, hp => by
    rw [List.append_nil] at h
    subst h
    refine Ev.step (fun k => ?_) (all_fin l hp T gs hT)
    rw [epitomelaw06_GapsAll.l0, if_neg (by omega)]
  | s :: r, pre, h, hp => by
    have hll : pre.length + (r.length + 1) = l.length := by rw [h]; simp
    by_cases h30 : pre.length = 30
    · refine Ev.step (fun k => ?_) (all_fin pre hp T gs hT)
      rw [epitomelaw06_GapsAll.l0, if_pos (by omega), if_neg (by omega)]
    · have hrd : rd_T33 l (pre.length : Int) = s := by rw [h]; exact rdS_at rfl
      have h1 := mn_le (s.f2.size : Int) 60
      have ih := all_loop l hl T gs hT r (pre ++ [s]) (by simp [h]) (by simp; omega)
      refine Ev.step (fun k => ?_) ih
      rw [epitomelaw06_GapsAll.l0, if_pos (by omega), if_pos (by omega), if_pos (by omega), hrd, if_pos (by omega), if_pos (by omega), if_pos (by rw [List.length_map]; omega), w64_succ _ (by omega)]
      simp [cutT]
theorem Pure.GapsAll : epitomelaw06_GapsAll.Pure := by
  intro l0 l1 l2 h0 h1 h2
  apply Ev.rounds
  unfold epitomelaw06_GapsAll.f
  refine Ev.bind shown06 ?_
  exact all_loop l0 h0.1 l1 l2 h1.1 l0 [] rfl (by simp)
end Go.Proofs.YtkgicpnnlkcaeaaDoor.F
end
section
namespace Go.Proofs.YtkgicpnnlkcaeaaDoor.gapsAll
open Go.ChangeShapes Go.WideShapes Go.ChangeAt Go.RowKit Go.Proofs.YtkgicpnnlkcaeaaDoor.F
open Go.Proofs.YtkgicpnnlkcaeaaDoorW.PrintWords
open Go.ChangeMaps (open_string shut_string)
set_option linter.unusedVariables false
theorem own : ownKnob Tryd.prog.godebug = none := by kernel_rfl
theorem laidOut : laidOutB Tryd.prog = true := by kernel_rfl
theorem laid_met (os : Os) (args : Array Value) : laidMetH Tryd.prog Rows.gapsAllRow.laid ((laidWorld os).forCall (fun _ _ => 0) ⟨#[], args, []⟩).memory :=
  (LaidIn.of_run (l := Rows.gapsAllRow.laid) [2, 0, 1] 8 (by kernel_rfl) (by kernel_rfl) (by kernel_rfl) (by kernel_rfl)).met
set_option maxRecDepth 100000 in
theorem lifted (os : Os) (started : os.Started) (H : Type) (enc : TypeId × Value → H) :
    ReturnsInHanded {} Tryd.checked os 8 .any (fun w args => (Rows.gapsAllSpec.pre enc Tryd.prog Tryd.f8 [] false w args ∧ laidMetH Tryd.prog Rows.gapsAllRow.laid w) ∧ sizedMet enc Tryd.prog Tryd.f8 (OpenSpec.ofChange Rows.gapsAllSpec) false w args) (Rows.gapsAllSpec.post enc Tryd.prog Tryd.f8 false true false false) := by
  refine returnsInHanded_of_change_and (C := Tryd.checked) (X := (fun w _ => laidMetH Tryd.prog Rows.gapsAllRow.laid w)) (fun _ _ _ hh h => h.of_heap hh) own started (by kernel_rfl) Tryd.func8
    (ChangeSpec.witness_at (enc := enc) (C := Tryd.checked) (os := os) (X := (fun w _ => laidMetH Tryd.prog Rows.gapsAllRow.laid w)) false (laidWorld os) #[.slice none 0 0, .agg #[.slice none 0 0, .slice none 0 0]] 8 rfl (by kernel_rfl) (by kernel_rfl) (by kernel_rfl) (by kernel_rfl) (by kernel_rfl) (laid_met os _)) ?_
  intro W base args ds gs before hval0 hW _ _ hL _
  have hG : Glob W := glob_of_reads (Lib.laidMet.reads hL (.tail _ (.tail _ (.head _)))) (Lib.laidMet.reads hL (.head _)) (Lib.laidMet.reads hL (.tail _ (.head _)))
  have hval : ∀ (j : Nat) t v, Tryd.f8.params[j]? = some t → args[j]? = some v → Value.okWide Tryd.prog W .any base t v := hval0
  have hW' := hW
  obtain ⟨p, q, hA0, hV, rfl, hfz, hnd⟩ := hW
  have hA : DataW.TrodAll enc Tryd.prog W 0 (fun _ => true) true Tryd.f8.params.toList args.toList ds p := hA0
  rw [Tryd.params8] at hA hval
  obtain ⟨v0, vs0, d0, ds0, p0, q0, hargs, rfl, rfl, h0, r0⟩ := trodAll_cons hA
  obtain ⟨v1, vs1, d1, ds1, p1, q1, rfl, rfl, rfl, h1, r1⟩ := trodAll_cons r0
  obtain ⟨rfl, rfl, rfl⟩ := trodAll_nil r1
  obtain rfl : args = #[v0, v1] := by cases args; simp_all
  obtain ⟨rfl, rfl⟩ := trodVars_none hV
  obtain ⟨A0, n0, c0, rfl⟩ := okWide_slice Tryd.underlying34 (hval 0 34 v0 rfl rfl)
  have k0 := h0
  have lt0 : ∀ x ∈ p0, x.block < W.heap.size := by obtain ⟨m, hm⟩ := k0; exact DataW.trod_lt m _ _ _ hm
  obtain ⟨l0, z0, hv0⟩ : ∃ l, (Kd.slice 33 k33).K W l [Value.slice A0 n0 c0] ∧ (fun v_ => (v_.length ≤ maxLen ∧ ∀ x_ ∈ v_, V33 x_)) l := by
    obtain ⟨fuel, hf⟩ := h0
    exact (opens_slice Tryd.underlying34 (by kernel_rfl) opens33) enc W _ _ _ _ _ _ hf
  obtain ⟨A_, c_, e, hc0, hr0⟩ := z0
  simp only [List.cons.injEq, Value.slice.injEq, and_true] at e
  obtain ⟨rfl, rfl, rfl⟩ := e
  obtain ⟨cs1, rfl⟩ := agg_struct Tryd.underlying28 (hval 1 28 v1 rfl rfl)
  have k1 := h1
  have lt1 : ∀ x ∈ p1, x.block < W.heap.size := by obtain ⟨m, hm⟩ := k1; exact DataW.trod_lt m _ _ _ hm
  obtain ⟨x1, z1, hv1⟩ : ∃ x, k28.K W x cs1.toList ∧ V28 x := by
    obtain ⟨fuel, hf⟩ := h1
    exact opens28 enc W _ _ _ _ _ _ hf
  obtain ⟨c1_0, w1_0, e1_0, h1_0, h1_1⟩ := z1
  obtain ⟨A1_0, c_1_0, ec1_0, hc1_0, hr1_0⟩ := h1_0
  obtain ⟨A1_1, c_1_1, ec1_1, hc1_1, hr1_1⟩ := h1_1
  obtain rfl : cs1 = #[.slice A1_0 x1.f0.length c_1_0, .slice A1_1 x1.f1.length c_1_1] := by
    apply arr_of (l := [.slice A1_0 x1.f0.length c_1_0, .slice A1_1 x1.f1.length c_1_1])
    rw [e1_0, ec1_0, ec1_1]
    rfl
  obtain ⟨b1_0, b1_1⟩ := x1
  obtain ⟨k, h⟩ := Pure.GapsAll l0 b1_0 b1_1 hv0 (by exact hv1.1) (by exact hv1.2)
  refine (epitomelaw06_GapsAll.calls k _ _ l0 _ _ b1_0 _ _ b1_1 true W hG hr0 hc0 hr1_0 hc1_0 hr1_1 hc1_1 h).mono ?_
  rintro e W' ⟨rfl, hd⟩
  have bel : Below W.heap.size W W' := hd
  exact ⟨_, rfl, _, _, _, [], _, [], hW', trodAll_mk1 (shut_bool Tryd.underlying4 _), (trodAll_cons_mk (Below.trod laidOut (by kernel_rfl) (of_decide_eq_true (by kernel_rfl)) k0 bel lt0) (trodAll_cons_mk (Below.trod laidOut (by kernel_rfl) (of_decide_eq_true (by kernel_rfl)) k1 bel lt1) trodAll_mk0)), rfl, bel.frame _, fun h => by cases h⟩
theorem over : Rows.gapsAllRow.holds Tryd.pinned (OpenSpec.ofChange Rows.gapsAllSpec) :=
  OpenClaim.holds_of_wide 8 Tryd.f8 rfl rfl rfl rfl rfl rfl rfl ⟨rfl, rfl, rfl, rfl, rfl⟩ rfl rfl rfl rfl rfl (by kernel_rfl) Tryd.func8 (by kernel_rfl)
    (of_decide_eq_true (by kernel_rfl)) (by unfold Func.isWrapper; first | (rw [if_pos (by decide +kernel)]; kernel_rfl) | (rw [if_neg (by decide +kernel)]; exact ⟨rfl, rfl⟩))
    (fun os started H enc _ => lifted os started H enc)
theorem card : Claim7.holds Tryd.pinned (.plain (OpenSpec.ofChange Rows.gapsAllSpec)) Rows.gapsAllCard :=
  Claim7.holds_tied_plain_at .later [] [.data, .data, .pinned] true (true, "8ebf4b5b935d62fb34083f0ec33522bf7d163fe9f2247210fb781f7bf7557387") false
    over (fun _ h => by cases h) (by kernel_rfl) (fun _ h => by cases h) gapsAll_row_tie rfl ⟨rfl, rfl⟩ (by kernel_rfl) rfl
    (fun f fn hf hfn => by
      obtain rfl : f = 8 := Option.some.inj ((show Tryd.prog.funcNamed "epitome/epitomelaw06.GapsAll" = some 8 by kernel_rfl).symm.trans hf) |>.symm
      obtain rfl : fn = Tryd.f8 := (Option.some.inj (Tryd.func8.symm.trans hfn)).symm
      exact ⟨by kernel_rfl, fun j t ht => by
        rw [Tryd.params8] at ht
        match j, ht with
        | 0, ht =>
          obtain rfl : t = 34 := by simpa using ht.symm
          exact (show Tryd.prog.wantsStandIn 34 = false by kernel_rfl)
        | 1, ht =>
          obtain rfl : t = 28 := by simpa using ht.symm
          exact (show Tryd.prog.wantsStandIn 28 = false by kernel_rfl)
        | j + 2, ht => simp at ht⟩)
    (by kernel_rfl)
theorem proved : Rows.GapsAllCardSaid := card
end Go.Proofs.YtkgicpnnlkcaeaaDoor.gapsAll
namespace Go.Proofs.YtkgicpnnlkcaeaaDoor
theorem gapsAll_holds : Rows.GapsAllCardSaid := gapsAll.proved
#print axioms gapsAll_holds
end Go.Proofs.YtkgicpnnlkcaeaaDoor
end
