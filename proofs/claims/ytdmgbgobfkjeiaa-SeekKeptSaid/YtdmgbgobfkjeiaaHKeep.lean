-- YtdmgbgobfkjeiaaHKeep
import Derived.Test.YtdmgbgobfkjeiaaBase
import Derived.Test.YtdmgbgobfkjeiaaFKeepFloor
import Derived.Test.YtdmgbgobfkjeiaaHSeek
import Derived.Maps.OwnOps
import Derived.Maps.OwnSet
import Derived.Maps.Views
namespace Go.Proofs.Ytdmgbgobfkjeiaa.F
open Go.RowKit Go.Proofs.YtdmgbgobfkjeiaaW.PrintWords Go.Proofs.YtdmgbgobfkjeiaaW.PrintLast Go.Proofs.YtdmgbgobfkjeiaaW.PrintMore
set_option linter.unusedVariables false
set_option linter.unusedSimpArgs false
--IMPORT Derived.Maps.OwnOps
--IMPORT Derived.Maps.OwnSet
--IMPORT Derived.Maps.Views
-- HAND epitome/keep.Of | keep_Of | rounds=0 making=1
/-! keep.Of: a map of what is wanted, made by the call itself. -/
def floorOf (l : List Int) (a : Int) : Nat := above a l - 1

theorem keep_Floor_from (l : List Int) (a : Int) (hm : l.length ≤ 9223372036854775807) : ∀ d i : Nat, l.length - i = d → i ≤ above a l → i ≤ l.length →
    keep_Floor.l0 (d + 1) a ((i - 1 : Nat) : Int) l (l.length : Int) i = some (floorOf l a : Int) := by
  intro d
  have hle := above_le a l
  induction d with
  | zero =>
    intro i hd hi hn
    simp only [keep_Floor.l0]
    rw [if_neg (by omega)]
    have : above a l = i := by omega
    unfold floorOf
    rw [this]
  | succ d ih =>
    intro i hd hi hn
    simp only [keep_Floor.l0]
    rw [if_pos (by omega), if_pos (by omega), if_pos (by omega)]
    by_cases hp : rd l i > a
    · rw [if_pos hp, floorOf, above_here a l i hi (by omega) (by simpa [rd] using hp)]
    · rw [if_neg hp, show wrap64 ((i : Int) + 1) = ((i + 1 : Nat) : Int) by unfold wrap64; omega]
      have := ih (i + 1) (by omega) (above_step a l i hi (by omega) (by simpa [rd] using hp)) (by omega)
      rw [show i + 1 - 1 = i by omega] at this
      exact this

theorem keep_Floor_is (l : List Int) (a : Int) (hm : l.length ≤ 9223372036854775807) : keep_Floor.f (l.length + 1) l a = some (floorOf l a : Int) := by
  have := keep_Floor_from l a hm l.length 0 (by omega) (by omega) (by omega)
  simpa [keep_Floor.f] using this

theorem floorOf_lt (l : List Int) (a : Int) (h : 0 < l.length) : floorOf l a < l.length := by
  have := above_le a l
  unfold floorOf
  omega

/-- What is kept: of those from the floor on the first one, the last one, and those of the set. -/
def wants (l set : List Int) (x : Int) : Bool := x == rd l 0 || x == rd l (l.length - 1) || set.contains x
def keptOf (l set : List Int) : List Int := l.filter (wants l set)
/-- Is it a number of the kind int? -/
def isInt (x : Int) : Bool := decide (-9223372036854775808 ≤ x ∧ x ≤ 9223372036854775807)
def keep_Of.f (l set : List Int) (floor : Int) : Option (List Int) :=
  if 0 < l.length ∧ l.length < 17592186044416 ∧ set.length < 17592186044416 ∧ l.all isInt = true ∧ set.all isInt = true then some (keptOf (l.drop (floorOf l floor)) set) else none

theorem wf_isInt {x : Int} (h : isInt x = true) : (Lit.int .i64 x).wf = true := by
  unfold isInt at h
  simp at h
  simp [Lit.wf, IntKind.min, IntKind.max, IntKind.bits, IntKind.signed]
  omega

/-- Block b is a map from int to bool of n entries at most, that holds true at those of which S holds, and nothing else. -/
def OwnsSet (w : World) (b n : Nat) (S : Int → Bool) : Prop :=
  ∃ D : DataW Unit, w.ownsMap Try.prog 3 (plainElem Try.prog 4) b n D ∧ Maps.IsMap D ∧ ∀ x : Int, D.atKey (.int .i64 x) (.lit (.bool false)) = .lit (.bool (S x))

theorem ownsSet_made (w : World) : OwnsSet (w.alloc (.map #[] 0)) w.heap.size 0 (fun _ => false) :=
  ⟨.map [], World.ownsMap_made _ _ _ _, Maps.isMap_empty, fun x => by simp [DataW.atKey]⟩

theorem ownsSet_put {w : World} {b n : Nat} {S : Int → Bool} (h : OwnsSet w b n S) (hn : n < maxLen) {x : Int} (hx : isInt x = true) :
    ∃ w1, (Instr.mapUpdate 38 (.map (some b)) (.int .i64 x) (.bool true)).run Try.prog w = .ok () w1 ∧ OwnsSet w1 b (n + 1) (fun y => y == x || S y) ∧ w.grownBy w1 (some b) := by
  obtain ⟨D, ho, hm, hs⟩ := h
  obtain ⟨w1, hr, ho1, hg⟩ := ho.update (Maps.int_keyed Try.underlying3) Try.underlying38 hn (Maps.keyOf_int_mk Try.underlying3 (wf_isInt hx)) (plainElem_bool Try.underlying4 true)
  refine ⟨w1, hr, ⟨_, ho1, hm.put _ _, fun y => ?_⟩, hg⟩
  by_cases e : y = x
  · subst e
    rw [Maps.atKey_put_same hm (by simp [WideAt.IsKeyLit])]
    simp
  · rw [Maps.atKey_put_other (by intro h; injection h with _ h; exact e h), hs]
    simp [e]

theorem plainElem_bool_inv {v : Value} {z : DataW Unit × List MemPlace} (h : plainElem Try.prog 4 v = some z) : ∃ x, v = .bool x ∧ z = (.lit (.bool x), []) := by
  unfold plainElem at h
  rw [Try.underlying4] at h
  cases v <;> simp at h
  exact ⟨_, rfl, h.symm⟩

theorem ownsSet_get {w : World} {b n : Nat} {S : Int → Bool} (h : OwnsSet w b n S) {x : Int} (hx : isInt x = true) :
    (Instr.lookup 38 (.map (some b)) (.int .i64 x) false).run Try.prog w = .ok (.bool (S x)) w := by
  obtain ⟨D, ho, hm, hs⟩ := h
  obtain ⟨v, ps, hr, hv⟩ := ho.lookup (Maps.int_keyed Try.underlying3) Try.underlying38 (z := .bool false) (by kernel_rfl) (plainElem_bool Try.underlying4 false) (Maps.keyOf_int_mk Try.underlying3 (wf_isInt hx))
  obtain ⟨y, rfl, hz⟩ := plainElem_bool_inv hv
  rw [hs] at hz
  simp at hz
  rw [hz.1]
  exact hr

theorem ownsSet_kept {w w1 : World} {b n : Nat} {S : Int → Bool} (h : OwnsSet w b n S) {row : Option Nat} (hg : w.grownBy w1 row) (hne : some b ≠ row) : OwnsSet w1 b n S := by
  obtain ⟨D, ho, hm, hs⟩ := h
  exact ⟨D, ho.kept hg hne, hm, hs⟩
theorem ownsSet_lt {w : World} {b n : Nat} {S : Int → Bool} (h : OwnsSet w b n S) : b < w.heap.size := by
  obtain ⟨D, ho, _⟩ := h
  exact ho.lt
theorem ownsSet_imp {w : World} {b n : Nat} {S S' : Int → Bool} (h : OwnsSet w b n S) (he : ∀ x, S x = S' x) : OwnsSet w b n S' := by
  obtain ⟨D, ho, hm, hs⟩ := h
  exact ⟨D, ho, hm, fun x => by rw [hs, he]⟩

/-- Where two keys of a literal are filled in, in whichever order. -/
theorem ownsSet_two {W0 W : World} {b : Nat} (hb : Below W0.heap.size W0 W) (hbs : W.heap.size = b) (x y : Int) (hx : isInt x = true) (hy : isInt y = true) :
    ∃ w1 w2, (Instr.mapUpdate 38 (.map (some b)) (.int .i64 x) (.bool true)).run Try.prog (W.alloc (.map #[] 0)) = .ok () w1 ∧ Below W0.heap.size W0 w1 ∧
      (Instr.mapUpdate 38 (.map (some b)) (.int .i64 y) (.bool true)).run Try.prog w1 = .ok () w2 ∧ Below W0.heap.size W0 w2 ∧ b < w2.heap.size ∧ OwnsSet w2 b 2 (fun z => z == x || z == y) := by
  subst hbs
  obtain ⟨w1, h1, o1, g1⟩ := ownsSet_put (ownsSet_made W) (by unfold maxLen; omega) hx
  have b0 := below_alloc hb (.map #[] 0)
  have b1 : Below W0.heap.size W0 w1 := pw_below_grown b0 (some W.heap.size) b0.size g1 (fun k e => by cases e; exact hb.size)
  obtain ⟨w2, h2, o2, g2⟩ := ownsSet_put o1 (by unfold maxLen; omega) hy
  have b2 : Below W0.heap.size W0 w2 := pw_below_grown b1 (some W.heap.size) b1.size g2 (fun k e => by cases e; exact hb.size)
  refine ⟨w1, w2, h1, b1, h2, b2, ownsSet_lt o2, ownsSet_imp o2 fun z => ?_⟩
  simp [Bool.or_comm]

theorem rd_all {l : List Int} {i : Int} (h : l.all isInt = true) (h0 : 0 ≤ i) (h1 : i < l.length) : isInt (rd l i) = true := by
  unfold rd
  rw [List.getD_eq_getElem?_getD, List.getElem?_eq_getElem (by omega)]
  exact List.all_eq_true.mp h _ (List.getElem_mem _)

theorem take_contains (l : List Int) (i : Nat) (h : i < l.length) (x : Int) : (l.take (i + 1)).contains x = ((x == rd l i) || (l.take i).contains x) := by
  rw [List.take_succ_eq_append_getElem h]
  have : rd l i = l[i] := by simp [rd, List.getD_eq_getElem?_getD, h]
  rw [this]
  simp only [List.contains_eq_mem, List.mem_append, List.mem_singleton]
  by_cases e : x = l[i] <;> simp [e, Bool.or_comm]

theorem filter_take (p : Int → Bool) (l : List Int) (i : Nat) (h : i < l.length) : (l.take (i + 1)).filter p = (l.take i).filter p ++ (if p (rd l i) = true then [rd l i] else []) := by
  rw [List.take_succ_eq_append_getElem h]
  have : rd l i = l[i] := by simp [rd, List.getD_eq_getElem?_getD, h]
  rw [this, List.filter_append]
  by_cases e : p l[i] = true
  · simp [e]
  · simp [e]

set_option maxHeartbeats 4000000 in
theorem keep_Of.calls (A0 : Option Addr) (c0 : Nat) (l0 : List Int) (A1 : Option Addr) (c1 : Nat) (l1 : List Int) (a2 : Int) (r : List Int) (w : World) (hr0 : Kd.C (Kd.int .i64) w A0 l0.length l0) (hc0 : l0.length ≤ c0) (hr1 : Kd.C (Kd.int .i64) w A1 l1.length l1) (hc1 : l1.length ≤ c1) (h : keep_Of.f l0 l1 a2 = some r) :
    Calls Try.prog 16 #[.slice A0 l0.length c0, .slice A1 l1.length c1, .int .i64 a2] w fun e w' => ∃ v0_ : Value, e = .returned (v0_) ∧ Kd.R (Kd.int .i64) 3 w' w.heap.size (fun _ => True) v0_ r ∧ Below w.heap.size w w' := by
  unfold keep_Of.f at h
  split at h
  · next hcd =>
    obtain ⟨hn, hbig, hbig1, hint, hint1⟩ := hcd
    obtain rfl := Option.some.inj h
    have HR0 := Aside0.mk hr0
    have HC0 := Aside0.mk hc0
    have HR1 := Aside0.mk hr1
    have HC1 := Aside0.mk hc1
    have HI1 := Aside0.mk hint1
    have HM : Aside0 (l0.length ≤ 9223372036854775807) := ⟨hr0.2.1⟩
    have HF := Aside0.mk (keep_Floor_is l0 a2 HM.out)
    have hlt := floorOf_lt l0 a2 (by omega)
    obtain ⟨fl, hfl⟩ : ∃ fl, floorOf l0 a2 = fl := ⟨_, rfl⟩
    rw [hfl] at HF hlt ⊢
    obtain ⟨i0, hi, hz0, hz1, hz2⟩ := info_parts info3
    have hcut := cut_from 22 3 .i64 Try.underlying22 hi 1 hz1 A0 l0.length c0 fl (by omega) (by omega)
    have hr := Kd.C_drop (m := fl) (c := c0) hr0 (by omega) hc0
    have hmx : (l0.drop fl).length < 17592186044416 := by rw [List.length_drop]; omega
    have hpos : 0 < (l0.drop fl).length := by rw [List.length_drop]; omega
    have hdi : (l0.drop fl).all isInt = true := by
      rw [List.all_eq_true] at hint ⊢
      exact fun x hx => hint x (List.mem_of_mem_drop hx)
    rw [if_neg (by omega)] at hr
    simp only [Int.toNat_natCast, Nat.mul_one, if_neg (show ¬ c0 = fl by omega)] at hcut
    obtain ⟨ad, rfl, _⟩ := hr0.2.2 (by omega)
    simp only [Option.map_some, show (Kd.int .i64).sz = 1 from rfl, Nat.mul_one] at hr hcut
    obtain ⟨bd, hbd⟩ : ∃ bd, ad.add fl = bd := ⟨_, rfl⟩
    rw [hbd] at hr hcut
    have hll : l0.length - fl = (l0.drop fl).length := by rw [List.length_drop]
    rw [hll] at hcut
    obtain ⟨lm, hlm⟩ : ∃ lm, l0.drop fl = lm := ⟨_, rfl⟩
    rw [hlm] at hr hcut hmx hpos hdi ⊢
    obtain ⟨cc, hcc⟩ : ∃ cc, c0 - fl = cc := ⟨_, rfl⟩
    rw [hcc] at hcut
    have HR := Aside0.mk hr
    have HMX := Aside0.mk hmx
    have HPOS := Aside0.mk hpos
    have HDI := Aside0.mk hdi
    have hw : wrap64 ((lm.length : Int) - 1) = (lm.length : Int) - 1 := by unfold wrap64; omega
    have HW := Aside0.mk hw
    obtain ⟨_, e, hx0⟩ := Kd.at_int hr 0 (by omega) (by omega)
    cases e
    replace hx0 : w.cell? bd = some (.int .i64 (rd lm 0)) := by simpa [Addr.add_zero'] using hx0
    obtain ⟨_, e, hx1⟩ := Kd.at_int hr (wrap64 ((lm.length : Int) - 1)) (by omega) (by omega)
    cases e
    have HX0 := Aside0.mk hx0
    have HX1 := Aside0.mk hx1
    have hp := eq_true hpos
    have p0 := eq_true (show 0 ≤ wrap64 ((lm.length : Int) - 1) by omega)
    have q0 := eq_true (show wrap64 ((lm.length : Int) - 1) < lm.length by omega)
    have hmm := @run_makeMap Try.prog
    have ia := rd_all hdi (i := 0) (by omega) (by omega)
    have ib := rd_all hdi (i := wrap64 ((lm.length : Int) - 1)) (by omega) (by omega)
    have two := fun n => ownsSet_two (pw_below_drewN (Below.refl w.heap.size w) n) (b := w.heap.size) rfl (rd lm 0) (rd lm (wrap64 ((lm.length : Int) - 1))) ia ib
    have two' := fun n => ownsSet_two (pw_below_drewN (Below.refl w.heap.size w) n) (b := w.heap.size) rfl (rd lm (wrap64 ((lm.length : Int) - 1))) (rd lm 0) ib ia
    have TWO := Aside0.mk two
    have TWO' := Aside0.mk two'
    clear hr0 hc0 hr1 hc1 h hr hmx hw hn hlt hfl hi hz0 hz1 hz2 hll hpos hbd hlm hcc two two' ia ib hdi hint1 hint hbig
    go_enter Try.func16, Try.ntmps16
    go_wp2_with (go_at_call 13; (with_reducible refine (keep_Floor.calls (l0.length + 1) _ _ l0 a2 fl _ ?side1 ?side2 HF.out).mono ?_); (case side1 => exact HR0.out); (case side2 => exact HC0.out); rintro e w' ⟨rfl, ⟨nd, rfl⟩⟩)
    obtain ⟨u1, u2, r1, b1, r2, b2, hsz, os⟩ := TWO.out (nd + 1)
    obtain ⟨t1, t2, s1, d1, s2, d2, hsz', os'⟩ := TWO'.out (nd + 1)
    have y0 : ((w.drewN (nd + 1)).alloc (Obj.map #[] 0)).cell? bd = some (.int .i64 (rd lm 0)) := ((below_alloc (pw_below_drewN (Below.refl w.heap.size w) (nd + 1)) (Obj.map #[] 0)).cell (World.block_lt_of_cell? w _ hx0)).trans hx0
    have y1 := ((below_alloc (pw_below_drewN (Below.refl w.heap.size w) (nd + 1)) (Obj.map #[] 0)).cell (World.block_lt_of_cell? w _ hx1)).trans hx1
    have y2 := (b1.cell (World.block_lt_of_cell? w _ hx1)).trans hx1
    have y3 : t1.cell? bd = some (.int .i64 (rd lm 0)) := (d1.cell (World.block_lt_of_cell? w _ hx0)).trans hx0
    clear TWO TWO'
    have BB2 := Aside0.mk b2
    have DD2 := Aside0.mk d2
    have OS := Aside0.mk os
    have OS' := Aside0.mk os'
    have SZ := Aside0.mk hsz
    have SZ' := Aside0.mk hsz'
    clear b1 b2 d1 d2 os os' hsz hsz'
    go_region
    · obtain ⟨HB, HO⟩ : Aside0 (Below w.heap.size w u2) ∧ Aside0 (OwnsSet u2 w.heap.size 2 (fun z => z == rd lm 0 || z == rd lm (wrap64 ((lm.length : Int) - 1)))) := ⟨BB2, OS⟩
      clear BB2 OS DD2 OS' SZ SZ' r1 r2 s1 s2 y0 y1 y2 y3 hcut hmm hx0 hx1 HX0 HX1
      go_wp2
      go_loopg [31] l1.length (fun kq v31 w' => ∃ i : Nat, v31 = .int .i64 i ∧ Aside0 (i ≤ l1.length) ∧ Aside0 (kq = l1.length - i) ∧ Aside0 (OwnsSet w' w.heap.size (2 + i) (fun z => (z == rd lm 0 || z == rd lm (wrap64 ((lm.length : Int) - 1))) || (l1.take i).contains z)) ∧ Aside0 (Below w.heap.size w w'))
      case atStart => exact ⟨0, rfl, ⟨Nat.zero_le _⟩, ⟨rfl⟩, ⟨ownsSet_imp HO.out (fun z => by simp)⟩, HB⟩
      case round =>
        clear HB HO
        obtain ⟨i, rfl, HI, HK, HO, HB⟩ := hrel
        by_cases hi : i < l1.length
        · obtain ⟨ad1, e, hx⟩ := Kd.at_int HR1.out i (by omega) (by omega)
          cases e
          replace hx := (HB.out.cell (World.block_lt_of_cell? w _ hx)).trans hx
          simp only [Int.toNat_natCast] at hx
          have hie := rd_all HI1.out (i := i) (by omega) (by omega)
          obtain ⟨w1, hr, ho, hg⟩ := ownsSet_put HO.out (by unfold maxLen; omega) hie
          have HO1 := Aside0.mk (ownsSet_imp ho (S' := fun z => (z == rd lm 0 || z == rd lm (wrap64 ((lm.length : Int) - 1))) || (l1.take (i + 1)).contains z) (fun z => by
            show (z == rd l1 i || ((z == rd lm 0 || z == rd lm (wrap64 ((lm.length : Int) - 1))) || (l1.take i).contains z)) = _
            rw [take_contains l1 i hi]
            cases (z == rd l1 i) <;> simp))
          have HB1 := Aside0.mk (pw_below_grown HB.out (some w.heap.size) HB.out.size hg (fun k e => by cases e; exact Nat.le_refl _))
          clear ho hg hie HO HB
          go_wp2
          go_roundg (l1.length - (i + 1))
          case measure => have := HK.out; omega
          case rel => exact ⟨i + 1, by go_num, ⟨by omega⟩, ⟨rfl⟩, HO1, HB1⟩
        · obtain rfl : i = l1.length := by have := HI.out; omega
          have HO1 := Aside0.mk (ownsSet_imp HO.out (S' := wants lm l1) (fun z => by unfold wants; rw [HW.out, List.take_of_length_le (Nat.le_refl _)]))
          clear HO hi HI HK
          go_wp2
          go_loopg [10, 40] lm.length (fun kq v10 v40 w' => ∃ i : Nat, v40 = .int .i64 i ∧ Aside0 (i ≤ lm.length) ∧ Aside0 (kq = lm.length - i) ∧ Aside0 (OwnsSet w' w.heap.size (2 + l1.length) (wants lm l1)) ∧ Aside0 (Below w.heap.size w w') ∧ Aside0 (Kd.R (Kd.int .i64) 3 w' w.heap.size (fun k => k ≠ w.heap.size) v10 ((lm.take i).filter (wants lm l1))))
          case atStart => exact ⟨0, rfl, ⟨Nat.zero_le _⟩, ⟨rfl⟩, HO1, HB, ⟨Kd.R_nil _ _ _ _ _⟩⟩
          case round =>
            clear HB HO1
            obtain ⟨i, rfl, HI, HK, HO, HB, HV⟩ := hrel
            by_cases hi : i < lm.length
            · obtain ⟨ad1, e, hx⟩ := Kd.at_int HR.out i (by omega) (by omega)
              cases e
              replace hx := (HB.out.cell (World.block_lt_of_cell? w _ hx)).trans hx
              simp only [Int.toNat_natCast] at hx
              have hie := rd_all HDI.out (i := i) (by omega) (by omega)
              have hlk := ownsSet_get HO.out hie
              have hft := filter_take (wants lm l1) lm i hi
              have hlen : ((lm.take i).filter (wants lm l1)).length ≤ i := Nat.le_trans (List.length_filter_le _ _) (List.length_take_le _ _)
              cases hwt : wants lm l1 (rd lm i) with
              | true =>
                rw [hwt] at hlk
                rw [hwt, if_pos rfl] at hft
                have HFT := Aside0.mk hft
                have HLEN := Aside0.mk hlen
                clear hft hlen hie hwt
                go_wp2_with (first | ((with_reducible refine gate_builtin (b := .append) (xs := #[.tmp 47, .tmp 49]) rfl ?_); at_builtin; refine Kd.R_append (Kd.int .i64) (w0 := w) w.heap.size rfl (.tmp 47) (.tmp 49) 22 3 (.int .i64 0) 8 rfl Try.underlying22 info3 rfl (by decide) (by omega) u10 ((lm.take i).filter (wants lm l1)) (rd lm i) [.int .i64 (rd lm i)] (fun k => k ≠ w.heap.size) (fun _ => False) rfl rfl ?aP (fun _ hk => hk.elim) ?aF ?aO ?aB ?aS ?aL ?_; (case aP => exact rfl); (case aB => exact HB.out); (case aF => exact (fun k hk e => by have := ownsSet_lt HO.out; subst e; exact Nat.lt_irrefl _ (Nat.lt_of_lt_of_le this hk))); (case aO => exact HV.out); (case aS => exact HB.out.size); (case aL => have := HLEN.out; have := HMX.out; omega); intro v136 w11 ho hb hg hat; have n0_ := Aside0.mk hb; have n1_ := Aside0.mk ho; have n2_ := Aside0.mk (ownsSet_kept HO.out hg (fun e => HV.out.1 _ e.symm rfl)); clear ho hb hg hat))
                go_roundg (lm.length - (i + 1))
                case measure => have := HK.out; omega
                case rel => exact ⟨i + 1, (by have hmx_ := HMX.out; rw [show wrap64 ((i : Int) + 1) = ((i + 1 : Nat) : Int) by unfold wrap64; omega]), ⟨by omega⟩, ⟨rfl⟩, n2_, n0_, ⟨by rw [HFT.out]; exact n1_.out⟩⟩
              | false =>
                rw [hwt] at hlk
                rw [hwt, if_neg (by decide), List.append_nil] at hft
                have HFT := Aside0.mk hft
                clear hft hlen hie hwt
                go_wp2
                go_roundg (lm.length - (i + 1))
                case measure => have := HK.out; omega
                case rel => exact ⟨i + 1, (by have hmx_ := HMX.out; rw [show wrap64 ((i : Int) + 1) = ((i + 1 : Nat) : Int) by unfold wrap64; omega]), ⟨by omega⟩, ⟨rfl⟩, HO, HB, ⟨by rw [HFT.out]; exact HV.out⟩⟩
            · obtain rfl : i = lm.length := by have := HI.out; omega
              clear hi HI HK
              go_wp2
              go_ret
              exact ⟨_, rfl, Kd.R_mono (by have := HV.out; rw [List.take_of_length_le (Nat.le_refl _)] at this; exact this) (fun _ _ => trivial), HB.out⟩
    · obtain ⟨HB, HO⟩ : Aside0 (Below w.heap.size w t2) ∧ Aside0 (OwnsSet t2 w.heap.size 2 (fun z => z == rd lm 0 || z == rd lm (wrap64 ((lm.length : Int) - 1)))) := ⟨DD2, ⟨ownsSet_imp OS'.out (fun z => Bool.or_comm _ _)⟩⟩
      clear BB2 OS DD2 OS' SZ SZ' r1 r2 s1 s2 y0 y1 y2 y3 hcut hmm hx0 hx1 HX0 HX1
      go_wp2
      go_loopg [31] l1.length (fun kq v31 w' => ∃ i : Nat, v31 = .int .i64 i ∧ Aside0 (i ≤ l1.length) ∧ Aside0 (kq = l1.length - i) ∧ Aside0 (OwnsSet w' w.heap.size (2 + i) (fun z => (z == rd lm 0 || z == rd lm (wrap64 ((lm.length : Int) - 1))) || (l1.take i).contains z)) ∧ Aside0 (Below w.heap.size w w'))
      case atStart => exact ⟨0, rfl, ⟨Nat.zero_le _⟩, ⟨rfl⟩, ⟨ownsSet_imp HO.out (fun z => by simp)⟩, HB⟩
      case round =>
        clear HB HO
        obtain ⟨i, rfl, HI, HK, HO, HB⟩ := hrel
        by_cases hi : i < l1.length
        · obtain ⟨ad1, e, hx⟩ := Kd.at_int HR1.out i (by omega) (by omega)
          cases e
          replace hx := (HB.out.cell (World.block_lt_of_cell? w _ hx)).trans hx
          simp only [Int.toNat_natCast] at hx
          have hie := rd_all HI1.out (i := i) (by omega) (by omega)
          obtain ⟨w1, hr, ho, hg⟩ := ownsSet_put HO.out (by unfold maxLen; omega) hie
          have HO1 := Aside0.mk (ownsSet_imp ho (S' := fun z => (z == rd lm 0 || z == rd lm (wrap64 ((lm.length : Int) - 1))) || (l1.take (i + 1)).contains z) (fun z => by
            show (z == rd l1 i || ((z == rd lm 0 || z == rd lm (wrap64 ((lm.length : Int) - 1))) || (l1.take i).contains z)) = _
            rw [take_contains l1 i hi]
            cases (z == rd l1 i) <;> simp))
          have HB1 := Aside0.mk (pw_below_grown HB.out (some w.heap.size) HB.out.size hg (fun k e => by cases e; exact Nat.le_refl _))
          clear ho hg hie HO HB
          go_wp2
          go_roundg (l1.length - (i + 1))
          case measure => have := HK.out; omega
          case rel => exact ⟨i + 1, by go_num, ⟨by omega⟩, ⟨rfl⟩, HO1, HB1⟩
        · obtain rfl : i = l1.length := by have := HI.out; omega
          have HO1 := Aside0.mk (ownsSet_imp HO.out (S' := wants lm l1) (fun z => by unfold wants; rw [HW.out, List.take_of_length_le (Nat.le_refl _)]))
          clear HO hi HI HK
          go_wp2
          go_loopg [10, 40] lm.length (fun kq v10 v40 w' => ∃ i : Nat, v40 = .int .i64 i ∧ Aside0 (i ≤ lm.length) ∧ Aside0 (kq = lm.length - i) ∧ Aside0 (OwnsSet w' w.heap.size (2 + l1.length) (wants lm l1)) ∧ Aside0 (Below w.heap.size w w') ∧ Aside0 (Kd.R (Kd.int .i64) 3 w' w.heap.size (fun k => k ≠ w.heap.size) v10 ((lm.take i).filter (wants lm l1))))
          case atStart => exact ⟨0, rfl, ⟨Nat.zero_le _⟩, ⟨rfl⟩, HO1, HB, ⟨Kd.R_nil _ _ _ _ _⟩⟩
          case round =>
            clear HB HO1
            obtain ⟨i, rfl, HI, HK, HO, HB, HV⟩ := hrel
            by_cases hi : i < lm.length
            · obtain ⟨ad1, e, hx⟩ := Kd.at_int HR.out i (by omega) (by omega)
              cases e
              replace hx := (HB.out.cell (World.block_lt_of_cell? w _ hx)).trans hx
              simp only [Int.toNat_natCast] at hx
              have hie := rd_all HDI.out (i := i) (by omega) (by omega)
              have hlk := ownsSet_get HO.out hie
              have hft := filter_take (wants lm l1) lm i hi
              have hlen : ((lm.take i).filter (wants lm l1)).length ≤ i := Nat.le_trans (List.length_filter_le _ _) (List.length_take_le _ _)
              cases hwt : wants lm l1 (rd lm i) with
              | true =>
                rw [hwt] at hlk
                rw [hwt, if_pos rfl] at hft
                have HFT := Aside0.mk hft
                have HLEN := Aside0.mk hlen
                clear hft hlen hie hwt
                go_wp2_with (first | ((with_reducible refine gate_builtin (b := .append) (xs := #[.tmp 47, .tmp 49]) rfl ?_); at_builtin; refine Kd.R_append (Kd.int .i64) (w0 := w) w.heap.size rfl (.tmp 47) (.tmp 49) 22 3 (.int .i64 0) 8 rfl Try.underlying22 info3 rfl (by decide) (by omega) u10 ((lm.take i).filter (wants lm l1)) (rd lm i) [.int .i64 (rd lm i)] (fun k => k ≠ w.heap.size) (fun _ => False) rfl rfl ?aP (fun _ hk => hk.elim) ?aF ?aO ?aB ?aS ?aL ?_; (case aP => exact rfl); (case aB => exact HB.out); (case aF => exact (fun k hk e => by have := ownsSet_lt HO.out; subst e; exact Nat.lt_irrefl _ (Nat.lt_of_lt_of_le this hk))); (case aO => exact HV.out); (case aS => exact HB.out.size); (case aL => have := HLEN.out; have := HMX.out; omega); intro v136 w11 ho hb hg hat; have n0_ := Aside0.mk hb; have n1_ := Aside0.mk ho; have n2_ := Aside0.mk (ownsSet_kept HO.out hg (fun e => HV.out.1 _ e.symm rfl)); clear ho hb hg hat))
                go_roundg (lm.length - (i + 1))
                case measure => have := HK.out; omega
                case rel => exact ⟨i + 1, (by have hmx_ := HMX.out; rw [show wrap64 ((i : Int) + 1) = ((i + 1 : Nat) : Int) by unfold wrap64; omega]), ⟨by omega⟩, ⟨rfl⟩, n2_, n0_, ⟨by rw [HFT.out]; exact n1_.out⟩⟩
              | false =>
                rw [hwt] at hlk
                rw [hwt, if_neg (by decide), List.append_nil] at hft
                have HFT := Aside0.mk hft
                clear hft hlen hie hwt
                go_wp2
                go_roundg (lm.length - (i + 1))
                case measure => have := HK.out; omega
                case rel => exact ⟨i + 1, (by have hmx_ := HMX.out; rw [show wrap64 ((i : Int) + 1) = ((i + 1 : Nat) : Int) by unfold wrap64; omega]), ⟨by omega⟩, ⟨rfl⟩, HO, HB, ⟨by rw [HFT.out]; exact HV.out⟩⟩
            · obtain rfl : i = lm.length := by have := HI.out; omega
              clear hi HI HK
              go_wp2
              go_ret
              exact ⟨_, rfl, Kd.R_mono (by have := HV.out; rw [List.take_of_length_le (Nat.le_refl _)] at this; exact this) (fun _ _ => trivial), HB.out⟩
  · cases h

end Go.Proofs.Ytdmgbgobfkjeiaa.F
