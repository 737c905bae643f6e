/- The VM's instructions that compute, compare and make: sound one by one. -/
import Derived.Test.YtjegabeechopdaaVmG
set_option linter.unusedSimpArgs false
set_option linter.unusedVariables false
namespace Go.Vm
open Go Go.RowKit
section
variable {P : Program} {gl : Nat → Option PV} {A : Nat → Prop} {w0 : World} {F : Nat → Prop} {m : Nat → Slot} {w : World} {G H : Hp} {a : Act} {env : Env} {o : Oper} {p : PV} {own : Bool}

theorem VRel.agg_inv {v : Value} {l : List PV} (h : VRel F w m v (.agg l)) : ∃ xs, v = .agg xs ∧ CsRel F m w xs l := by
  cases h with
  | agg xs _ hs h => exact ⟨xs, rfl, hs, h⟩

theorem ok_eqs (sim : Sim gl A w0 F m w G) {op : BinOp} {ne : Bool} {t yt : TypeId} {x y : Operand} {rx ry : RO} {ls : List (Nat × Nat)} (ho : o.op = .binOp op t x y yt) (hop : op = if ne then .neq else .eql)
    (hg : P.eqGuardType P.depth t = false) (hl : leavesOf P 20 t = some ls) (hx : roOf x = some rx) (hy : roOf y = some ry) (he : ERel F m w a env (rx.reads ++ ry.reads)) (n ext : Nat)
    (hp : stepN (RO.ev gl env) H (.eqs ne ls rx ry) = some (p, [])) (hagg : ∃ s, shp P t = some (some s) ∧ szOf P t = some s ∧ ∀ x ∈ ls, x.1 < s) : NOk P gl A w0 F m w G n a o p ext := by
  simp only [stepN, Option.bind_eq_bind, Option.bind_eq_some_iff] at hp
  obtain ⟨q, hq, q2, hq2, hp⟩ := hp
  obtain ⟨e1, e2⟩ := he.app
  have hv := RO.rel sim hx e1 hq
  have hv2 := RO.rel sim hy e2 hq2
  split at hp
  · rename_i l r
    simp only [Option.bind_eq_some_iff, Option.pure_def, Option.some.injEq, Prod.mk.injEq] at hp
    obtain ⟨b, hb, rfl, _⟩ := hp
    obtain ⟨xs, hxs, h1⟩ := hv.agg_inv
    obtain ⟨ys, hys, h2⟩ := hv2.agg_inv
    obtain ⟨s, hsh, hs, hlt⟩ := hagg
    -- the whole value as a part at place 0 of itself, in a wider look
    have hb' : eqL (l.take s) (r.take s) ls = some b := by
      have e := eqL_window l r 0 s ls hlt
      have id : (ls.map fun x => (0 + x.1, x.2)) = ls := by
        rw [show (fun x : Nat × Nat => (0 + x.1, x.2)) = id by funext x; simp]
        exact List.map_id ls
      rw [id, List.drop_zero, List.drop_zero] at e
      rw [← e]; exact hb
    have heq : (Op.equalIn 10000 t (.agg xs) (.agg ys)).run P w = .ok b w := by
      have hd : 20 ≤ 10000 := by omega
      -- unfold by the type: a struct or an array
      unfold leavesOf at hl
      split at hl
      · rename_i hu; simp [shp, hu] at hsh
      · rename_i k hu; simp [shp, hu] at hsh
      · rename_i hu; simp [shp, hu] at hsh
      · rename_i fs hu
        split at hl
        · cases hl
        · rename_i hst
          simp only [Option.bind_eq_bind, Option.bind_eq_some_iff] at hl
          obtain ⟨s', hs', L, hL, hl⟩ := hl
          split at hl
          · injection hl with hl
            subst hl
            have hf : P.fieldsOf t = fs := by simp [Program.fieldsOf, hu]
            rw [run_equalIn_agg w 9999 t _ _ (by rw [hf]; exact hu) (by simpa using hst), hf]
            exact eq_fields 9999 _ _ _ _ h1 h2 (leavesOf P 19) (fun t' ls' h' => eq_leaves 19 t' ls' 9999 h' (by omega)) fs.toList L b hL hb
          · cases hl
      · rename_i N e hu
        simp only [Option.bind_eq_bind, Option.bind_eq_some_iff] at hl
        obtain ⟨q, hq, z, hz, s', hs', hl⟩ := hl
        split at hl
        · injection hl with hl
          subst hl
          unfold szOf at hz
          rw [Option.map_eq_some_iff] at hz
          obtain ⟨ie, hie, rfl⟩ := hz
          rw [run_equalIn_array w 9999 _ _ hu hie]
          have hc : P.cellsOf e = ie.size := by simp [Program.cellsOf, hie]
          rw [hc]
          exact eq_items 9999 e ie.size q _ _ _ _ h1 h2 (eq_leaves 19 e q 9999 hq (by omega)) (List.range N) b hb
        · cases hl
      · cases hl
    refine .same sim (v := .bool (if ne then !b else b)) ?_ (.bool _)
    have hgd : (eqGuard op t x y (.agg xs) (.agg ys)).run P w = .ok () w := run_eqGuard_agg w op t x y xs ys hg
    cases ne with
    | true =>
      simp only [if_true] at hop
      subst hop
      simp only [execOp, ho, hxs, hys, Sem.run_bind, hgd, Result.andThen_ok, run_neq_struct, heq, Sem.run_pure, if_true]
    | false =>
      simp only [Bool.false_eq_true, if_false] at hop
      subst hop
      simp only [execOp, ho, hxs, hys, Sem.run_bind, hgd, Result.andThen_ok, run_eql_struct, heq, Sem.run_pure, Bool.false_eq_true, if_false]
  · cases hp

theorem guard_int (op : BinOp) (t : TypeId) (x y : Operand) (k k' : IntKind) (c d : Int) : (eqGuard op t x y (.int k c) (.int k' d)).run P w = .ok () w := by cases op <;> simp [eqGuard]
theorem guard_str (op : BinOp) (t : TypeId) (x y : Operand) (c d : ByteArray) : (eqGuard op t x y (.string c) (.string d)).run P w = .ok () w := by cases op <;> simp [eqGuard]
theorem guard_bool (op : BinOp) (t : TypeId) (x y : Operand) (c d : Bool) : (eqGuard op t x y (.bool c) (.bool d)).run P w = .ok () w := by cases op <;> simp [eqGuard]

theorem run_bin_int {op : BinOp} {t : TypeId} {k k' : IntKind} {c d : Int} (h : binP op (.int k c) (.int k' d) = some p) : ∃ v, (binOp op t (.int k c) (.int k' d)).run P w = .ok v w ∧ VRel F w m v p := by
  unfold binP at h
  cases op
  case shl =>
    simp only [shiftI] at h
    split at h
    · cases h
    · rename_i hn
      injection h with h
      subst h
      refine ⟨_, ?_, .int _ _⟩
      simp [binOp, Op.shift, hn]
  case shr =>
    simp only [shiftI] at h
    split at h
    · cases h
    · rename_i hn
      injection h with h
      subst h
      refine ⟨_, ?_, .int _ _⟩
      simp [binOp, Op.shift, hn]
  case quo =>
    simp only [binI] at h
    split at h
    · rename_i e; subst e
      split at h
      · cases h
      · rename_i hz; injection h with h; subst h; exact ⟨_, by simp [binOp, Op.intDiv, hz], .int _ _⟩
    · cases h
  case rem =>
    simp only [binI] at h
    split at h
    · rename_i e; subst e
      split at h
      · cases h
      · rename_i hz; injection h with h; subst h; exact ⟨_, by simp [binOp, Op.intDiv, hz], .int _ _⟩
    · cases h
  all_goals
    simp only [binI, bitsI, cmpI, Option.map_some] at h
    split at h
    · rename_i e; subst e; injection h with h; subst h
      first
        | (refine ⟨_, ?_, .int _ _⟩; simp only [binOp, ne_eq, not_true_eq_false, if_false]; rfl)
        | (refine ⟨_, ?_, .bool _⟩; simp only [binOp, ne_eq, not_true_eq_false, if_false]; rfl)
    · cases h

theorem ok_bin (sim : Sim gl A w0 F m w G) {op : BinOp} {t yt : TypeId} {x y : Operand} {rx ry : RO} (ho : o.op = .binOp op t x y yt) (hx : roOf x = some rx) (hy : roOf y = some ry) (he : ERel F m w a env (rx.reads ++ ry.reads)) (n ext : Nat)
    (hp : stepN (RO.ev gl env) H (.bin op rx ry) = some (p, [])) : NOk P gl A w0 F m w G n a o p ext := by
  simp only [stepN, Option.bind_eq_bind, Option.bind_eq_some_iff, Option.pure_def, Option.some.injEq, Prod.mk.injEq] at hp
  obtain ⟨q, hq, q2, hq2, p', hb, rfl, _⟩ := hp
  obtain ⟨e1, e2⟩ := he.app
  have hv := RO.rel sim hx e1 hq
  have hv2 := RO.rel sim hy e2 hq2
  generalize hev : a.eval x = va at hv
  generalize hev2 : a.eval y = vb at hv2
  cases q with
  | int k c =>
    cases q2 with
    | int k' d =>
      cases hv
      cases hv2
      obtain ⟨v, hr, hrel⟩ := run_bin_int (P := P) (F := F) (m := m) (w := w) (t := t) hb
      exact .same sim (v := v) (by simp only [execOp, ho, hev, hev2, Sem.run_bind, guard_int, Result.andThen_ok, hr, Sem.run_pure]) hrel
    | _ => simp [binP] at hb
  | str c =>
    cases q2 with
    | str d =>
      cases hv
      cases hv2
      cases op <;> simp [binP] at hb <;> subst hb <;>
        exact .same sim (by simp only [execOp, ho, hev, hev2, Sem.run_bind, guard_str, Result.andThen_ok, binOp, Op.stringOp, Sem.run_pure]) (.bool _)
    | _ => simp [binP] at hb
  | _ => simp [binP] at hb

theorem ok_binb (sim : Sim gl A w0 F m w G) {op : BinOp} {t yt : TypeId} {x y : Operand} {rx ry : RO} (ho : o.op = .binOp op t x y yt) (hu : P.underlying t = some .bool) (hx : roOf x = some rx) (hy : roOf y = some ry) (he : ERel F m w a env (rx.reads ++ ry.reads)) (n ext : Nat)
    (hp : stepN (RO.ev gl env) H (.binb op rx ry) = some (p, [])) : NOk P gl A w0 F m w G n a o p ext := by
  simp only [stepN, Option.bind_eq_bind, Option.bind_eq_some_iff, Option.pure_def, Option.some.injEq, Prod.mk.injEq] at hp
  obtain ⟨q, hq, q2, hq2, p', hb, rfl, _⟩ := hp
  obtain ⟨e1, e2⟩ := he.app
  have hv := RO.rel sim hx e1 hq
  have hv2 := RO.rel sim hy e2 hq2
  generalize hev : a.eval x = va at hv
  generalize hev2 : a.eval y = vb at hv2
  cases q with
  | bool c =>
    cases q2 with
    | bool d =>
      cases hv
      cases hv2
      cases op <;> simp [binB] at hb <;> subst hb <;>
        exact .same sim (by simp only [execOp, ho, hev, hev2, Sem.run_bind, guard_bool, Result.andThen_ok, binOp, run_equal_bool w t c d hu, Sem.run_pure]) (.bool _)
    | _ => simp [binB] at hb
  | _ => simp [binB] at hb

theorem ok_idxAddrA (sim : Sim gl A w0 F m w G) {t e : TypeId} {x i : Operand} {N sz : Nat} {r ri : RO} (ho : o.op = .indexAddr t x i) (hu : P.underlying t = some (.array N e)) (hsz : szOf P e = some sz)
    (hx : roOf x = some r) (hi : roOf i = some ri) (he : ERel F m w a env (r.reads ++ ri.reads)) (n ext : Nat) (hp : stepN (RO.ev gl env) H (.idxAddrA N sz r ri) = some (p, [])) : NOk P gl A w0 F m w G n a o p ext := by
  simp only [stepN, Option.bind_eq_bind, Option.bind_eq_some_iff] at hp
  obtain ⟨q, hq, q2, hq2, hp⟩ := hp
  obtain ⟨e1, e2⟩ := he.app
  have hv := RO.rel sim hx e1 hq
  have hv2 := RO.rel sim hi e2 hq2
  generalize hev : a.eval x = va at hv
  generalize hev2 : a.eval i = vi at hv2
  have hrun : ∀ (ad : Addr) (k : IntKind) (j : Int), va = .pointer (some ad) → vi = .int k j → 0 ≤ j → j < N → (execOp a.eval o).run P w = .ok (.value (.pointer (some (ad.add (j.toNat * sz))))) w := by
    rintro ad k j rfl rfl h0 h1
    simp only [execOp, ho, hev, hev2, Instr.indexAt, asIntOf, Instr.sureAddr, Sem.run_bind, Sem.run_pure, run_underlying hu w, Result.andThen_ok, Sem.run_ite, if_pos (And.intro h0 h1), run_sizeOf' hsz w]
  split at hp
  · rename_i b g i' off k j
    cases hv2
    split at hp
    · rename_i hc
      simp only [Option.some.injEq, Prod.mk.injEq] at hp
      obtain ⟨rfl, _⟩ := hp
      cases hv with
      | ptr ad _ _ _ _ h =>
        refine .same sim (hrun _ k j rfl rfl hc.1 hc.2) (.ptr _ _ _ _ _ ?_)
        cases hm : m b with
        | unborn => rw [hm] at h; exact h
        | dead => trivial
        | virt _ => rw [hm] at h; exact h
        | live β s g' =>
          rw [hm] at h
          refine ⟨h.1, fun e => ?_⟩
          rw [h.2 e, add_plain', Nat.add_assoc]
    · cases hp
  · rename_i l k j
    cases hv2
    split at hp
    · rename_i hc
      simp only [Option.some.injEq, Prod.mk.injEq] at hp
      obtain ⟨rfl, _⟩ := hp
      cases hv with
      | fptr ad _ cs hF hcell h =>
        refine .same sim (hrun _ k j rfl rfl hc.1 hc.2) (.fptr _ _ (fun q => cs (j.toNat * sz + q)) (by rw [add_block]; exact hF) (fun q hq => ?_) (fun q hq => ?_))
        · simp at hq
          rw [Addr.add_add]
          exact hcell _ (by omega)
        · simp at hq
          simpa using h (j.toNat * sz + q) (by omega)
    · cases hp
  · cases hp

theorem mm_run (mx : Bool) {x y : Value} {px py pz : PV} (hx : VRel F w m x px) (hy : VRel F w m y py) (h : mm2 mx px py = some pz) :
    ∃ z, (if mx then Builtin.max2 x y else Builtin.min2 x y).run P w = .ok z w ∧ VRel F w m z pz := by
  unfold mm2 at h
  split at h
  · injection h with h
    subst h
    cases hx
    cases hy
    cases mx
    · exact ⟨_, by simp [Builtin.min2] <;> rfl, .int _ _⟩
    · exact ⟨_, by simp [Builtin.max2] <;> rfl, .int _ _⟩
  · cases h

theorem mm_fold (mx : Bool) (sim : Sim gl A w0 F m w G) : ∀ (l : List Operand) (rs : List RO) (x : Value) (px pz : PV), rosOf l = some rs → ERel F m w a env (readsL rs) → VRel F w m x px → mmL (RO.ev gl env) mx px rs = some pz →
    ∃ z, ((l.map a.eval).foldlM (if mx then Builtin.max2 else Builtin.min2) x).run P w = .ok z w ∧ VRel F w m z pz
  | [], rs, x, px, pz, h, _, hx, hm => by
    simp [rosOf] at h
    subst h
    simp [mmL] at hm
    subst hm
    exact ⟨x, by simp, hx⟩
  | y :: l, rs, x, px, pz, h, he, hx, hm => by
    simp only [rosOf, Option.bind_eq_bind, Option.bind_eq_some_iff, Option.some.injEq] at h
    obtain ⟨r, hr, rs', hrs, rfl⟩ := h
    simp only [mmL, Option.bind_eq_bind, Option.bind_eq_some_iff] at hm
    obtain ⟨py, hy, pq, h2, hm⟩ := hm
    simp only [readsL] at he
    obtain ⟨e1, e2⟩ := he.app
    obtain ⟨z, hz, hzr⟩ := mm_run (P := P) mx hx (RO.rel sim hr e1 hy) h2
    obtain ⟨z', hz', hzr'⟩ := mm_fold mx sim l rs' z pq pz hrs e2 hzr hm
    refine ⟨z', ?_, hzr'⟩
    rw [List.map_cons, List.foldlM_cons, Sem.run_bind]
    rw [show ((if mx then Builtin.max2 else Builtin.min2) x (a.eval y)) = (if mx then Builtin.max2 x (a.eval y) else Builtin.min2 x (a.eval y)) by cases mx <;> rfl, hz]
    exact hz'

theorem ok_mm (sim : Sim gl A w0 F m w G) {x : Operand} {l : List Operand} {r : RO} {rs : List RO} {c : Call} {mx : Bool} (ho : o.op = .call c) (hc : c.callee = .builtin (if mx then .max else .min)) (hargs : c.args.toList = x :: l)
    (hx : roOf x = some r) (hl : rosOf l = some rs) (he : ERel F m w a env (r.reads ++ readsL rs)) (n ext : Nat) (hp : stepN (RO.ev gl env) H (.mm mx r rs) = some (p, [])) : NOk P gl A w0 F m w G n a o p ext := by
  simp only [stepN, Option.bind_eq_bind, Option.bind_eq_some_iff, Option.pure_def, Option.some.injEq, Prod.mk.injEq] at hp
  obtain ⟨q, hq, p', hm, rfl, _⟩ := hp
  obtain ⟨e1, e2⟩ := he.app
  obtain ⟨z, hz, hzr⟩ := mm_fold mx (P := P) sim l rs (a.eval x) q p' hl e2 (RO.rel sim hx e1 hq) hm
  refine .same sim (v := z) ?_ hzr
  cases mx
  · simp only [Bool.false_eq_true, if_false] at hc hz
    simp only [execOp, ho, resolve, hc, Sem.run_bind, Sem.run_pure, Result.andThen_ok, invoke, builtin, Builtin.min_, Array.toList_map, hargs, List.map_cons, hz]
  · simp only [if_true] at hc hz
    simp only [execOp, ho, resolve, hc, Sem.run_bind, Sem.run_pure, Result.andThen_ok, invoke, builtin, Builtin.max_, Array.toList_map, hargs, List.map_cons, hz]
end
end Go.Vm
