-- YtidmodnfodifgaaHCopy
import Derived.Test.YtidmodnfodifgaaBase
namespace Go.Proofs.Ytidmodnfodifgaa.F
open Go.RowKit Go.Proofs.YtidmodnfodifgaaW.PrintWords Go.Proofs.YtidmodnfodifgaaW.PrintLast Go.Proofs.YtidmodnfodifgaaW.PrintMore
set_option linter.unusedVariables false
set_option linter.unusedSimpArgs false
/-! copy and clear at rows of elements of more than one cell. -/
section
variable {P : Program}
theorem info_size {e s b : Nat} {z : Option Value} (h : (P.info? e).map (fun i => (i.zero, i.size, i.bytes)) = some (z, s, b)) : (P.info? e).map (·.size) = some s := by
  cases hi : P.info? e with
  | none => rw [hi] at h; cases h
  | some i => rw [hi] at h; simp only [Option.map_some, Option.some.injEq, Prod.mk.injEq] at h ⊢; exact h.2.1
theorem run_copy_many (w : World) (dT sT ty elem : TypeId) (b dLen dCap : Nat) (a : Addr) (sLen sCap : Nat) (cs : List Value) {i : TypeInfo} (sz : Nat)
    (hu : P.underlying dT = some (.slice elem)) (hi : P.info? elem = some i) (hs : i.size = sz) (hn : cs.length = Nat.min sLen dLen * sz)
    (hsrc : ∀ j v, cs[j]? = some v → w.cell? (a.add j) = some v) (hc : ∀ j, j < cs.length → (w.cell? ⟨b, j, none⟩).isSome = true) (hf : ∀ j, j < cs.length → w.frozen? ⟨b, j, none⟩ = false) (h1 : ∀ v ∈ cs, v.oneCell' = true) :
    (Builtin.copy_ #[dT, sT] ty #[.slice (some ⟨b, 0, none⟩) dLen dCap, .slice (some a) sLen sCap]).run P w = .ok (goInt (Nat.min sLen dLen : Nat)) (w.setCells b 0 cs) := by
  have hl := run_loadCells_list (P := P) w a cs hsrc
  have hst := run_storeCells_cells (P := P) b 0 cs 0 w (by simpa using hc) (by simpa using hf) h1
  rw [hn] at hl
  simp [Builtin.copy_, run_underlying hu, Builtin.lenOf, Builtin.firstCells, sizeOf, typeInfo, hi, hs, hl, hst]

theorem run_copy_zero (w : World) (dT sT ty elem : TypeId) (dp sp : Option Addr) (dCap sLen sCap : Nat) {i : TypeInfo}
    (hu : P.underlying dT = some (.slice elem)) (hi : P.info? elem = some i) :
    (Builtin.copy_ #[dT, sT] ty #[.slice dp 0 dCap, .slice sp sLen sCap]).run P w = .ok (goInt (0 : Nat)) w := by
  cases dp <;> cases sp <;> simp [Builtin.copy_, run_underlying hu, Builtin.lenOf, Builtin.firstCells, sizeOf, typeInfo, hi, loadCells, loadCellsFrom, storeCells]

variable {ops : Array Oper} {rest : List Oper} {o : Oper} {a : Act} {Q : Exit → Act → World → Prop} {α : Type}
/-- copy(v, ys), v a row of one's own of as many elements: it is ys then. -/
theorem R_copy_rows (d : Kd α) {w0 W : World} (base : Nat) (hgd : o.guard = none) (s x : Operand) (t t' e : TypeId) (hs0 : 0 < d.sz)
    (ho : o.op = .call { callee := .builtin .copy, args := #[s, x], argTypes := #[t, t'] }) (ht : P.underlying t = some (.slice e)) (hinfo : (P.info? e).map (·.size) = some d.sz)
    (v : Value) (xs ys : List α) (A : Option Addr) (m c : Nat) (ok okp : Nat → Prop) (hs : a.eval s = v) (hx : a.eval x = .slice A m c)
    (HO : d.R e W base ok v xs) (HR : d.C W A m ys) (hl : xs.length = m) (hKM : ∀ x cs, d.K W x cs → d.M W base okp x cs) (hokp : ∀ k, okp k → ok k ∧ some k ≠ v.ownBlock) (HB : Below base w0 W) (hbase : base ≤ W.heap.size)
    (h : ∀ w1, d.R e w1 base ok v ys → Below base w0 w1 → W.grownBy w1 v.ownBlock → wpList P ops Q rest (a.put o.dst (goInt m)) w1) :
    wpList P ops Q (o :: rest) a W := by
  obtain ⟨i0, hi, hsz⟩ := Option.map_eq_some_iff.1 hinfo
  have hm : ys.length = m := HR.1
  obtain ⟨hok, inner, hown, hr⟩ := HO
  have fin : ∀ w1, (Builtin.copy_ #[t, t'] o.type #[v, .slice A m c]).run P W = .ok (goInt m) w1 → d.R e w1 base ok v ys → W.grownBy w1 v.ownBlock → wpList P ops Q (o :: rest) a W := by
    intro w1 hr hrow hg
    refine wpList_plain hgd fun K hK => ?_
    unfold Oper.wp execOp
    simp only [ho, resolve, invoke, builtin, Sem.run_bind, Sem.run_pure, Result.andThen_ok, List.map_toArray, List.map_cons, List.map_nil, hs, hx, hr]
    exact hK _ _ (h w1 hrow (HB.grown hg hbase (own_base hown)) hg)
  rcases Nat.eq_zero_or_pos m with h0 | hp
  · subst h0
    obtain rfl : ys = [] := List.eq_nil_of_length_eq_zero hm
    obtain rfl : xs = [] := List.eq_nil_of_length_eq_zero hl
    obtain ⟨A', c', hv⟩ := own_slice hown
    refine fin W ?_ ⟨hok, inner, hown, hr⟩ (World.grownBy.refl W _)
    rw [hv]
    exact run_copy_zero W t t' o.type e A' A c' 0 c ht hi
  · rcases hown.2 with ⟨_, hx0⟩ | ⟨g, cap, cur, hv, hb, hh, hnc, hcm, hcs, htake⟩
    · omega
    obtain ⟨ad, hA, _⟩ := HR.2.2 (by omega)
    subst hA
    obtain ⟨news, hnr, hnc2⟩ := ReadsRow.inner_ HR
    have hnM : Reps (d.M W base okp) d.sz ys news := hnr.imp_ (fun p c hp => hKM p c hp)
    have hone : ∀ u ∈ news, u.oneCell' = true := by
      intro u hu
      obtain ⟨q, hq, rfl⟩ := List.mem_iff_getElem.1 hu
      have hql : q / d.sz < ys.length := by
        rw [Nat.div_lt_iff_lt_mul hs0]
        rw [← hnM.1]
        exact hq
      have hc := hnM.2 (q / d.sz) _ (List.getElem?_eq_getElem hql)
      refine d.K_one (d.K_of_M hc) _ ?_
      rw [List.mem_iff_getElem?]
      refine ⟨q % d.sz, ?_⟩
      rw [List.getElem?_take, if_pos (Nat.mod_lt _ hs0), List.getElem?_drop, Nat.mul_comm, Nat.div_add_mod, List.getElem?_eq_getElem hq]
    have hnl : news.length = m * d.sz := by rw [hnM.1, hm]
    have hcap : m * d.sz ≤ cap * d.sz := Nat.mul_le_mul_right _ (by omega)
    have hrun := run_copy_many (P := P) W t t' o.type e g m cap ad m c news d.sz ht hi hsz (by rw [hnl, show Nat.min m m = m from Nat.min_self m]) hnc2
      (fun j hj => by rw [cell_of_row W g _ cur e (0, 0) hh]; simp; omega) (fun j _ => blk_frozen hh _) hone
    rw [show Nat.min m m = m from Nat.min_self m] at hrun
    obtain ⟨cur', h3, h4, h5⟩ := setCells_row news 0 W cur hh (by omega)
    obtain ⟨s1, s2, s3, s4⟩ := setCells_same g news 0 W
    have hgr : W.grownBy (W.setCells g 0 news) v.ownBlock := ⟨s1, s2, s3, by rw [s4]; exact Nat.le_refl _, fun k _ hk => setCells_far _ _ k (fun he => hk (by rw [hv, he]; simp [Value.ownBlock]))⟩
    refine fin _ (by rw [hv, hl]; exact hrun) ⟨hok, news, ?_, hnM.imp_ fun q c hq => ?_⟩ hgr
    · rw [hm]
      refine ⟨hnl, .inr ⟨g, cap, cur', by rw [hv, hl], hb, h3, by omega, hcm, by rw [h4, hcs], ?_⟩⟩
      rw [h5, List.take_zero, List.nil_append, ← hnl, List.take_append_of_le_length (Nat.le_refl _), List.take_length]
    · have h1 := d.M_move (w1 := W.setCells g 0 news) (fun k hk => hgr.block k hk.2.2.1 (hokp k hk.1).2) (d.M_bound hq)
      exact d.M_mono (fun k hk => hokp k hk.1) h1

/-- clear(v[j:]), v a row of one's own: v[:j] stays. -/
theorem R_clear_tail (d : Kd α) {w0 W : World} (base : Nat) (hgd : o.guard = none) (x : Operand) (t e : TypeId) (hs0 : 0 < d.sz) (hdst : o.dst = none)
    (ho : o.op = .call { callee := .builtin .clear, args := #[x], argTypes := #[t] }) (ht : P.underlying t = some (.slice e)) (z : Value) (hzv : ∀ w, (zeroValue e).run P w = .ok z w) (hz : z.cells.size = d.sz) (h1 : ∀ u ∈ z.cells.toList, u.oneCell' = true)
    (xs : List α) (A : Option Addr) (n c j : Nat) (ok : Nat → Prop) (hj : j ≤ n) (Ac : Option Addr) (hAc : Ac = (if c = j then A else A.map (·.add (j * d.sz)))) (hx : a.eval x = .slice Ac (n - j) (c - j))
    (HO : d.R e W base ok (.slice A n c) xs) (HB : Below base w0 W) (hbase : base ≤ W.heap.size)
    (h : ∀ w1, d.R e w1 base ok (.slice A j c) (xs.take j) → Below base w0 w1 → W.grownBy w1 (Value.slice A j c).ownBlock → wpList P ops Q rest a w1) :
    wpList P ops Q (o :: rest) a W := by
  subst hAc
  have hlen : xs.length = n := by
    obtain ⟨A', c', he⟩ := Kd.R_slice HO
    injection he with _ h2 _
    exact h2.symm
  have HT := Kd.R_take (m := j) HO (by omega)
  obtain ⟨hok, inner, hown, hr⟩ := HO
  have fin : ∀ w1, (Builtin.clear_ #[t] o.type #[.slice (if c = j then A else A.map (·.add (j * d.sz))) (n - j) (c - j)]).run P W = .ok (.tuple #[]) w1 → d.R e w1 base ok (.slice A j c) (xs.take j) → W.grownBy w1 (Value.slice A j c).ownBlock → wpList P ops Q (o :: rest) a W := by
    intro w1 hr hrow hg
    refine wpList_plain hgd fun K hK => ?_
    unfold Oper.wp execOp
    simp only [ho, resolve, invoke, builtin, Sem.run_bind, Sem.run_pure, Result.andThen_ok, List.map_toArray, List.map_cons, List.map_nil, hx, hr, hdst]
    have hput : a.put o.dst (.tuple #[]) = a := by rw [hdst]; rfl
    have hob : (Value.slice A j c).ownBlock = (Value.slice A n c).ownBlock := by cases A <;> rfl
    have hw := h w1 hrow (HB.grown hg hbase (fun k hk => own_base hown k (hob ▸ hk))) hg
    rw [← hput] at hw
    exact hK _ _ hw
  rcases Nat.lt_or_ge j n with hjn | hjn
  · rcases hown.2 with ⟨_, hx0⟩ | ⟨g, cap, cur, hv, hb, hh, hnc, hcm, hcs, htake⟩
    · omega
    injection hv with hA hn hc
    subst hA; subst hc
    have hne : c ≠ j := by omega
    obtain ⟨m, hm⟩ : ∃ m, n - j = m + 1 := ⟨n - j - 1, by omega⟩
    have hmul : j * d.sz + (m + 1) * d.sz ≤ c * d.sz := by rw [← Nat.add_mul]; exact Nat.mul_le_mul_right _ (by omega)
    obtain ⟨zs, hzs⟩ : ∃ zs, zs = (Builtin.zeroCells z.cells (m + 1)).toList := ⟨_, rfl⟩
    have hzl : zs.length = (m + 1) * d.sz := by rw [hzs]; simp [Builtin.zeroCells, hz, Nat.mul_comm]
    have hzone : ∀ u ∈ zs, u.oneCell' = true := by
      intro u hu
      rw [hzs] at hu
      simp only [Builtin.zeroCells, Array.toList_map, List.mem_map] at hu
      obtain ⟨q, _, rfl⟩ := hu
      have hq : q % z.cells.size < z.cells.size := Nat.mod_lt _ (by omega)
      rw [getElem!_pos z.cells _ hq]
      exact h1 _ (by rw [← Array.getElem_toList (h := by simpa using hq)]; exact List.getElem_mem _)
    have hst := run_storeCells_cells (P := P) g (j * d.sz) zs 0 W (fun q hq => by rw [cell_of_row W g _ cur e (0, 0) hh]; simp; omega) (fun q _ => blk_frozen hh _) hzone
    obtain ⟨cur', h3, h4, h5⟩ := setCells_row zs (j * d.sz) W cur hh (by omega)
    obtain ⟨s1, s2, s3, s4⟩ := setCells_same g zs (j * d.sz) W
    have hgr : W.grownBy (W.setCells g (j * d.sz) zs) (Value.slice (some ⟨g, 0, none⟩) j c).ownBlock := ⟨s1, s2, s3, by rw [s4]; exact Nat.le_refl _, fun k _ hk => setCells_far _ _ k (fun he => hk (by rw [he]; simp [Value.ownBlock]))⟩
    have hadd : (⟨g, 0, none⟩ : Addr).add (j * d.sz) = ⟨g, j * d.sz, none⟩ := by rw [add_plain]
    have hmap : (some (⟨g, 0, none⟩ : Addr)).map (·.add (j * d.sz)) = some ⟨g, j * d.sz, none⟩ := by rw [Option.map_some, hadd]
    refine fin (W.setCells g (j * d.sz) zs) ?_ ?_ hgr
    · rw [if_neg hne, hm, hmap]
      simp only [Nat.add_zero] at hst
      simp [Builtin.clear_, run_underlying ht, hzv, ← hzs, hst]
    · obtain ⟨hokT, innerT, hownT, hrT⟩ := HT
      refine ⟨hokT, innerT, ?_, hrT.imp_ fun q cc hq => ?_⟩
      · refine ⟨hownT.1, .inr ⟨g, c, cur', by rw [List.length_take, hlen, Nat.min_eq_left hj], hb, h3, by rw [List.length_take]; omega, hcm, by rw [h4, hcs], ?_⟩⟩
        rcases hownT.2 with ⟨h0, _⟩ | ⟨g2, cap2, cur2, hv2, hb2, hh2, _, _, _, htake2⟩
        · simp at h0
        · injection hv2 with hA2 hn2 hc2
          injection hA2 with hA2
          injection hA2 with hA2
          subst hA2
          rw [hh] at hh2
          injection hh2 with hh2
          injection hh2 with hh2
          subst hh2
          rw [← htake2, h5, List.length_take, hlen, Nat.min_eq_left hj, List.append_assoc, List.take_append_of_le_length (by rw [List.length_take, Array.length_toList]; omega), List.take_take, Nat.min_self]
      · have h1 := d.M_move (w1 := W.setCells g (j * d.sz) zs) (fun k hk => hgr.block k hk.2.2.1 hk.1.2) (d.M_bound hq)
        exact d.M_mono (fun k hk => hk.1) h1
  · obtain rfl : j = n := by omega
    refine fin W ?_ HT (World.grownBy.refl W _)
    rw [Nat.sub_self]
    cases hA : (if c = j then A else A.map (·.add (j * d.sz))) <;> simp [Builtin.clear_, run_underlying ht]
end

section
variable {P : Program} {ops : Array Oper} {rest : List Oper} {o : Oper} {a : Act} {Q : Exit → Act → World → Prop} {W : World}
theorem gate_value {x : Operand} {ags : Array Operand} {ts : Array TypeId} (_ho : o.op = .call { callee := .value x, args := ags, argTypes := ts }) (h : wpList P ops Q (o :: rest) a W) : wpList P ops Q (o :: rest) a W := h
theorem gate_make {t : TypeId} {x y : Operand} (_ho : o.op = .makeSlice t x y) (h : wpList P ops Q (o :: rest) a W) : wpList P ops Q (o :: rest) a W := h
/-- A call by a value that is a function of the program. -/
theorem goesV_ {oi : Oper} {w : World} (N : Option Tmp) (hd : oi.dst = N) (hg : oi.guard = none) {f : FuncId} {fn : Func} {x : Operand} {ags : Array Operand} {ts : Array TypeId} (hf : P.funcs[f]? = some fn) (hname : (fn.name == "runtime.NumGoroutine") = false) (hb : fn.body.isSome = true) (args : Array Value)
    (hop : oi.op = .call { callee := .value x, args := ags, argTypes := ts }) (hx : a.eval x = .func (.func f) #[] #[]) (hargs : ags.map a.eval = args)
    (h : Calls P f args w fun e w' => ∃ v, e = .returned v ∧ wpList P ops Q rest (a.put N v) w') : wpList P ops Q (oi :: rest) a w := by
  have he := enters_ hf hname hb args w
  have hrun : (execOp a.eval oi).run P w = .ok (.enter f args) w := by
    unfold execOp
    simp [hop, resolve, Deferred.ofValue, invoke, hx, hargs, he]
  refine wpList_plain hg fun K hK => ?_
  unfold Oper.wp
  rw [hrun, Oper.upon_enter]
  refine h.mono fun e w'' hh => ?_
  obtain ⟨v, rfl, hk⟩ := hh
  subst hd
  exact hK _ _ hk
end

/-- The element of a local array of eight, at a place that is computed. -/
def fit_rune.f (a b c d e f g h i : Int) : Option Int := ([a, b, c, d, e, f, g, h] : List Int)[i.toNat]?
theorem fit_cell {w : World} {gb t : Nat} {a b c d e f g h i r : Int} (hb : w.heap[gb]? = some (.cells #[.int .i32 a, .int .i32 b, .int .i32 c, .int .i32 d, .int .i32 e, .int .i32 f, .int .i32 g, .int .i32 h] t (0, 0)))
    (hr : fit_rune.f a b c d e f g h i = some r) : w.cell? ⟨gb, i.toNat, none⟩ = some (.int .i32 r) := by
  rw [blk_cell hb]
  unfold fit_rune.f at hr
  have : (#[.int .i32 a, .int .i32 b, .int .i32 c, .int .i32 d, .int .i32 e, .int .i32 f, .int .i32 g, .int .i32 h] : Array Value) = (([a, b, c, d, e, f, g, h] : List Int).map (Value.int .i32)).toArray := rfl
  rw [this, List.getElem?_toArray, List.getElem?_map, hr]
  rfl
theorem rem8 (x : Int) (h : 0 ≤ x) : 0 ≤ Int.tmod x 8 ∧ Int.tmod x 8 < 8 := ⟨Int.tmod_nonneg _ h, Int.tmod_lt_of_pos _ (by decide)⟩
theorem bt_nonneg (s : ByteArray) (i : Int) : 0 ≤ bt s i := (bt_range s i).1

end Go.Proofs.Ytidmodnfodifgaa.F
