/- More of the VM's instructions, sound one by one. -/
import Derived.Test.YtjegabeechopdaaVmE
set_option linter.unusedSimpArgs false
set_option linter.unusedVariables false
namespace Go.Vm
open Go Go.RowKit
section
variable {P : Program} {gl : Nat → Option PV} {A : Nat → Prop} {w0 : World} {F : Nat → Prop} {m : Nat → Slot} {w : World} {G H : Hp} {a : Act} {env : Env} {o : Oper} {p : PV} {own : Bool}

theorem ok_fieldAddr (sim : Sim gl A w0 F m w G) {s : TypeId} {x : Operand} {i : Nat} {r : RO} {fs : Array Field} {f : Field} (ho : o.op = .fieldAddr s x i) (hu : P.underlying s = some (.struct fs)) (hf : fs[i]? = some f)
    (hz : ¬ (szOf P f.type = some 0 ∨ szOf P f.type = none)) (hx : roOf x = some r) (he : ERel F m w a env r.reads) (n ext : Nat) (hp : stepN (RO.ev gl env) H (.fieldAddr f.offset r) = some (p, [])) : NOk P gl A w0 F m w G n a o p ext := by
  simp only [stepN, Option.bind_eq_bind, Option.bind_eq_some_iff] at hp
  obtain ⟨q, hq, hp⟩ := hp
  have hv := RO.rel sim hx he hq
  obtain ⟨z, hsz⟩ : ∃ z, szOf P f.type = some z := by
    cases h : szOf P f.type with
    | none => exact absurd (.inr h) hz
    | some z => exact ⟨z, rfl⟩
  have hz0 : z ≠ 0 := fun e => hz (.inl (by rw [hsz, e]))
  have hrun : ∀ ad : Addr, (Instr.fieldAt s (.pointer (some ad)) i).run P w = .ok (.pointer (some (ad.add f.offset))) w := by
    intro ad
    simp only [Instr.fieldAt, Sem.run_bind, run_underlying hu w, Result.andThen_ok, hf, Instr.sureAddr, Sem.run_pure, fieldPlace, run_sizeOf' hsz w, if_neg hz0]
  split at hp
  · rename_i b g j off
    simp only [Option.some.injEq, Prod.mk.injEq] at hp
    obtain ⟨rfl, _⟩ := hp
    generalize hev : a.eval x = va at hv
    cases hv with
    | ptr ad _ _ _ _ h =>
      refine .same sim (v := .pointer (some (ad.add f.offset))) (by simp only [execOp, ho, hev, Sem.run_bind, hrun, Result.andThen_ok, Sem.run_pure]) (.ptr _ _ _ _ _ ?_)
      cases hm : m b with
      | unborn => rw [hm] at h; exact h
      | dead => trivial
      | virt _ => rw [hm] at h; exact h
      | live β sz g' =>
        rw [hm] at h
        refine ⟨h.1, fun e => ?_⟩
        rw [h.2 e, add_plain', Nat.add_assoc]
  · rename_i l
    simp only [Option.some.injEq, Prod.mk.injEq] at hp
    obtain ⟨rfl, _⟩ := hp
    generalize hev : a.eval x = va at hv
    cases hv with
    | fptr ad _ cs hF hcell h =>
      refine .same sim (v := .pointer (some (ad.add f.offset))) (by simp only [execOp, ho, hev, Sem.run_bind, hrun, Result.andThen_ok, Sem.run_pure]) (.fptr _ _ (fun j => cs (f.offset + j)) (by rw [add_block]; exact hF) (fun j hj => ?_) (fun j hj => ?_))
      · simp at hj
        rw [Addr.add_add]
        exact hcell _ (by omega)
      · simp at hj
        simpa using h (f.offset + j) (by omega)
  · cases hp

/-- A part of a value. -/
theorem run_part' {t : TypeId} {es : Shape} {cs : Array Value} {l : List PV} {off : Nat} (ht : shp P t = some es) (hs : cs.size = l.length) (h : ∀ j (h1 : j < cs.size) (h2 : j < l.length), VRel F w m cs[j] l[j])
    (hp : subv es (l.drop off) = some p) : ∃ v, (part t cs off).run P w = .ok v w ∧ VRel F w m v p := by
  obtain ⟨ha, hn⟩ := run_isAgg ht w
  cases es with
  | none =>
    simp only [subv, List.head?_drop] at hp
    obtain ⟨hlt, rfl⟩ := List.getElem?_eq_some_iff.1 hp
    refine ⟨cs[off]'(by omega), ?_, h off (by omega) hlt⟩
    have : cs[off]? = some (cs[off]'(by omega)) := Array.getElem?_eq_getElem (by omega)
    simp only [part, Sem.run_bind, ha, Result.andThen_ok, Option.isSome_none, Bool.false_eq_true, if_false, this, Sem.run_pure]
  | some n =>
    simp only [subv] at hp
    split at hp
    · rename_i hle
      injection hp with hp
      subst hp
      refine ⟨.agg (cs.extract off (off + n)), ?_, .agg _ _ ?_ (fun i h1 h2 => ?_)⟩
      · simp only [part, Sem.run_bind, ha, Result.andThen_ok, Option.isSome_some, if_true, run_sizeOf' (hn n rfl) w, Sem.run_pure]
      · simp at hle ⊢
        omega
      · simp at h1 h2 hle
        simpa using h (off + i) (by omega) (by omega)
    · cases hp

theorem ok_field (sim : Sim gl A w0 F m w G) {s : TypeId} {x : Operand} {i : Nat} {r : RO} {fs : Array Field} {f : Field} {es : Shape} (ho : o.op = .field s x i) (hu : P.underlying s = some (.struct fs)) (hf : fs[i]? = some f)
    (hes : shp P f.type = some es) (hx : roOf x = some r) (he : ERel F m w a env r.reads) (n ext : Nat) (hp : stepN (RO.ev gl env) H (.field f.offset es r) = some (p, [])) : NOk P gl A w0 F m w G n a o p ext := by
  simp only [stepN, Option.bind_eq_bind, Option.bind_eq_some_iff] at hp
  obtain ⟨q, hq, hp⟩ := hp
  have hv := RO.rel sim hx he hq
  split at hp
  · rename_i l
    simp only [Option.bind_eq_some_iff, Option.pure_def, Option.some.injEq, Prod.mk.injEq] at hp
    obtain ⟨p', hsub, rfl, _⟩ := hp
    generalize hev : a.eval x = va at hv
    cases hv with
    | agg cs _ hs h =>
      obtain ⟨v, hr, hrel⟩ := run_part' (F := F) (m := m) (w := w) hes hs h hsub
      exact .same sim (v := v) (by simp only [execOp, ho, hev, Instr.field, Sem.run_bind, run_underlying hu w, Result.andThen_ok, hf, asAgg, Sem.run_pure, hr]) hrel
  · cases hp

theorem ok_idx (sim : Sim gl A w0 F m w G) {t e : TypeId} {x i : Operand} {N sz : Nat} {r ri : RO} {es : Shape} (ho : o.op = .index t x i) (hu : P.underlying t = some (.array N e)) (hsz : szOf P e = some sz)
    (hes : shp P e = some es) (hx : roOf x = some r) (hi : roOf i = some ri) (he : ERel F m w a env (r.reads ++ ri.reads)) (n ext : Nat) (hp : stepN (RO.ev gl env) H (.idx N sz es r ri) = some (p, [])) : NOk P gl A w0 F m w G n a o p ext := by
  simp only [stepN, Option.bind_eq_bind, Option.bind_eq_some_iff] at hp
  obtain ⟨q, hq, q2, hq2, hp⟩ := hp
  obtain ⟨e1, e2⟩ := he.app
  have hv := RO.rel sim hx e1 hq
  have hv2 := RO.rel sim hi e2 hq2
  split at hp
  · rename_i l k c
    split at hp
    · rename_i hb
      simp only [Option.bind_eq_some_iff, Option.pure_def, Option.some.injEq, Prod.mk.injEq] at hp
      obtain ⟨p', hsub, rfl, _⟩ := hp
      generalize hev : a.eval x = va at hv
      generalize hev2 : a.eval i = vi at hv2
      cases hv2
      cases hv with
      | agg cs _ hs h =>
        obtain ⟨v, hr, hrel⟩ := run_part' (F := F) (m := m) (w := w) hes hs h hsub
        exact .same sim (v := v) (by simp only [execOp, ho, hev, hev2, Instr.index, asIntOf, Sem.run_bind, Sem.run_pure, run_underlying hu w, Result.andThen_ok, Sem.run_ite, if_pos hb, run_sizeOf' hsz w, hr]) hrel
    · cases hp
  · cases hp

theorem ok_extract (sim : Sim gl A w0 F m w G) {x : Operand} {i : Nat} {r : RO} (ho : o.op = .extract x i) (hx : roOf x = some r) (he : ERel F m w a env r.reads) (n ext : Nat)
    (hp : stepN (RO.ev gl env) H (.extract i r) = some (p, [])) : NOk P gl A w0 F m w G n a o p ext := by
  simp only [stepN, Option.bind_eq_bind, Option.bind_eq_some_iff] at hp
  obtain ⟨q, hq, hp⟩ := hp
  have hv := RO.rel sim hx he hq
  split at hp
  · rename_i l
    simp only [Option.bind_eq_some_iff, Option.pure_def, Option.some.injEq, Prod.mk.injEq] at hp
    obtain ⟨p', hl, rfl, _⟩ := hp
    obtain ⟨hlt, rfl⟩ := List.getElem?_eq_some_iff.1 hl
    generalize hev : a.eval x = va at hv
    cases hv with
    | tup cs _ hs h =>
      have hc : cs[i]? = some (cs[i]'(by omega)) := Array.getElem?_eq_getElem (by omega)
      exact .same sim (v := cs[i]'(by omega)) (by simp only [execOp, ho, hev, Instr.extract, Sem.run_bind, hc, Sem.run_pure, Result.andThen_ok]) (h i (by omega) hlt)
  · cases hp

theorem ok_conv (sim : Sim gl A w0 F m w G) {s d : TypeId} {k k' : IntKind} {x : Operand} {r : RO} (ho : o.op = .convert s d x) (hs : P.underlying s = some (.int k')) (hd : P.underlying d = some (.int k)) (hx : roOf x = some r)
    (he : ERel F m w a env r.reads) (n ext : Nat) (hp : stepN (RO.ev gl env) H (.conv k r) = some (p, [])) : NOk P gl A w0 F m w G n a o p ext := by
  simp only [stepN, Option.bind_eq_bind, Option.bind_eq_some_iff] at hp
  obtain ⟨q, hq, hp⟩ := hp
  have hv := RO.rel sim hx he hq
  split at hp
  · rename_i kk c
    simp only [Option.some.injEq, Prod.mk.injEq] at hp
    obtain ⟨rfl, _⟩ := hp
    generalize hev : a.eval x = va at hv
    cases hv
    exact .same sim (v := .int k (k.wrap c)) (by simp only [execOp, ho, hev, convert, Sem.run_bind, run_underlying hs w, run_underlying hd w, Result.andThen_ok, Conv.intToInt, Sem.run_pure]) (.int _ _)
  · cases hp

theorem ok_un (sim : Sim gl A w0 F m w G) {op : UnOp} {t : TypeId} {x : Operand} {r : RO} (ho : o.op = .unOp op t x) (hx : roOf x = some r)
    (he : ERel F m w a env r.reads) (n ext : Nat) (hp : stepN (RO.ev gl env) H (.un op r) = some (p, [])) : NOk P gl A w0 F m w G n a o p ext := by
  simp only [stepN, Option.bind_eq_bind, Option.bind_eq_some_iff, Option.pure_def, Option.some.injEq, Prod.mk.injEq] at hp
  obtain ⟨q, hq, p', hu, rfl, _⟩ := hp
  have hv := RO.rel sim hx he hq
  generalize hev : a.eval x = va at hv
  unfold unP at hu
  split at hu
  · injection hu with hu
    subst hu
    cases hv
    exact .same sim (by simp only [execOp, ho, hev, Op.unary, Op.intArith, Sem.run_bind, Sem.run_pure, Result.andThen_ok]) (.int _ _)
  · injection hu with hu
    subst hu
    cases hv
    exact .same sim (by simp only [execOp, ho, hev, Op.unary, Sem.run_bind, Sem.run_pure, Result.andThen_ok]) (.bool _)
  · cases hu

theorem ok_len (sim : Sim gl A w0 F m w G) {t : TypeId} {x : Operand} {r : RO} {c : Call} {str : Bool} (ho : o.op = .call c) (hc : c.callee = .builtin .len) (hargs : c.args.toList = [x]) (ht : c.argTypes.toList = [t])
    (hu : if str then P.underlying t = some .string else ∃ e, P.underlying t = some (.slice e)) (hx : roOf x = some r)
    (he : ERel F m w a env r.reads) (n ext : Nat) (hp : stepN (RO.ev gl env) H (.len str r) = some (p, [])) : NOk P gl A w0 F m w G n a o p ext := by
  simp only [stepN, Option.bind_eq_bind, Option.bind_eq_some_iff, Option.pure_def, Option.some.injEq, Prod.mk.injEq] at hp
  obtain ⟨q, hq, N, hN, rfl, _⟩ := hp
  have hv := RO.rel sim hx he hq
  generalize hev : a.eval x = va at hv
  have ha : c.args.map a.eval = #[va] := by
    apply Array.toList_inj.1
    simp [hargs, hev]
  have htt : c.argTypes = #[t] := Array.toList_inj.1 (by simp [ht])
  have hrun : (execOp a.eval o).run P w = ((Builtin.len_ #[t] o.type #[va]).run P w).andThen fun v w' => .ok (.value v) w' := by
    simp only [execOp, ho, resolve, hc, Sem.run_bind, Sem.run_pure, Result.andThen_ok, invoke, builtin, ha, htt]
  refine .same sim (v := .int .i64 N) ?_ (.int _ _)
  rw [hrun]
  cases str with
  | true =>
    simp only [if_true] at hu
    simp only [lenOf, if_true] at hN
    split at hN
    · injection hN with hN
      subst hN
      cases hv
      simp [Builtin.len_, run_underlying hu]; rfl
    · cases hN
  | false =>
    simp only [Bool.false_eq_true, if_false] at hu
    obtain ⟨e, hu⟩ := hu
    simp only [lenOf, Bool.false_eq_true, if_false] at hN
    unfold PV.lenP at hN
    split at hN <;> first | (cases hN; done) | (injection hN with hN; subst hN; cases hv <;> (simp [Builtin.len_, run_underlying hu]; try rfl))

theorem evs_len {ev : RO → Option PV} : ∀ {l : List RO} {q : List PV}, evs ev l = some q → l.length = q.length
  | [], q, h => by simp [evs] at h; subst h; rfl
  | x :: r, q, h => by
    simp only [evs, Option.bind_eq_bind, Option.bind_eq_some_iff, Option.some.injEq] at h
    obtain ⟨v, _, l, hl, rfl⟩ := h
    simp [evs_len hl]

theorem evs_rel (sim : Sim gl A w0 F m w G) : ∀ {l : List Operand} {rs : List RO} {q : List PV}, rosOf l = some rs → ERel F m w a env (readsL rs) → evs (RO.ev gl env) rs = some q →
    l.length = q.length ∧ ∀ i (h1 : i < l.length) (h2 : i < q.length), VRel F w m (a.eval l[i]) q[i]
  | [], rs, q, h, _, hq => by
    simp [rosOf] at h
    subst h
    simp [evs] at hq
    subst hq
    exact ⟨rfl, fun i h1 => absurd h1 (by simp)⟩
  | x :: l, rs, q, h, he, hq => by
    simp only [rosOf, Option.bind_eq_bind, Option.bind_eq_some_iff, Option.some.injEq] at h
    obtain ⟨r, hr, rs', hrs, rfl⟩ := h
    simp only [evs, Option.bind_eq_bind, Option.bind_eq_some_iff, Option.some.injEq] at hq
    obtain ⟨v, hv, q', hq', rfl⟩ := hq
    simp only [readsL] at he
    obtain ⟨e1, e2⟩ := he.app
    obtain ⟨i1, i2⟩ := evs_rel sim hrs e2 hq'
    refine ⟨by simp [i1], fun i h1 h2 => ?_⟩
    cases i with
    | zero => exact RO.rel sim hr e1 hv
    | succ i => exact i2 i (by simpa using h1) (by simpa using h2)

theorem ok_mkfunc (sim : Sim gl A w0 F m w G) {f : FuncId} {first cap : Array Operand} {rs : List RO} (ho : o.op = .makeFunc (.func f) first cap) (h0 : first.isEmpty = true) (hr : rosOf cap.toList = some rs)
    (he : ERel F m w a env (readsL rs)) (n ext : Nat) (hp : stepN (RO.ev gl env) H (.mkfunc f rs) = some (p, [])) : NOk P gl A w0 F m w G n a o p ext := by
  simp only [stepN, Option.bind_eq_bind, Option.bind_eq_some_iff, Option.pure_def, Option.some.injEq, Prod.mk.injEq] at hp
  obtain ⟨q, hq, rfl, _⟩ := hp
  obtain ⟨i1, i2⟩ := evs_rel sim hr he hq
  have hf : first = #[] := by simpa using h0
  subst hf
  refine .same sim (v := .func (.func f) (#[].map a.eval) (cap.map a.eval)) (by simp only [execOp, ho, Instr.makeFunc, Sem.run_bind, Sem.run_pure, Result.andThen_ok]) (.fn _ _ _ _ (by simp) (by simpa using i1) (fun i h1 h2 => ?_))
  simp at h1
  have := i2 i (by simpa using h1) h2
  rw [Array.getElem_toList] at this
  simpa using this

theorem ok_idxAddr (sim : Sim gl A w0 F m w G) (hG : ∀ b k, H.f b = some k → G.f b = some k) {t e : TypeId} {x i : Operand} {sz : Nat} {r ri : RO} (ho : o.op = .indexAddr t x i) (hu : P.underlying t = some (.slice e)) (hsz : szOf P e = some sz)
    (hx : roOf x = some r) (hi : roOf i = some ri) (he : ERel F m w a env (r.reads ++ ri.reads)) (n ext : Nat) (hp : stepN (RO.ev gl env) H (.idxAddr sz r ri) = some (p, [])) : NOk P gl A w0 F m w G n a o p ext := by
  simp only [stepN, Option.bind_eq_bind, Option.bind_eq_some_iff] at hp
  obtain ⟨q, hq, q2, hq2, hp⟩ := hp
  obtain ⟨e1, e2⟩ := he.app
  have hv := RO.rel sim hx e1 hq
  have hv2 := RO.rel sim hi e2 hq2
  generalize hev : a.eval x = va at hv
  generalize hev2 : a.eval i = vi at hv2
  have hrun : ∀ (ad : Addr) (N c : Nat) (k : IntKind) (j : Int), va = .slice (some ad) N c → vi = .int k j → 0 ≤ j → j < N → (execOp a.eval o).run P w = .ok (.value (.pointer (some (ad.add (j.toNat * sz))))) w := by
    rintro ad N c k j rfl rfl h0 h1
    simp only [execOp, ho, hev, hev2, Instr.indexAt, asIntOf, Sem.run_bind, Sem.run_pure, run_underlying hu w, Result.andThen_ok, Sem.run_ite, if_pos (And.intro h0 h1), run_sizeOf' hsz w]
  -- of a frozen slice's element
  have frozen : ∀ (l : List PV) (ad : Addr) (c sz' : Nat) (cs : Nat → Nat → Value) (k : IntKind) (j : Int), F ad.block → (∀ e ∈ l, e.cells.length = sz') →
      (∀ i, i < l.length → ∀ j, j < sz' → w.cell? (ad.add (i * sz' + j)) = some (cs i j)) → (∀ i (h1 : i < l.length) j (h2 : j < (l[i]).cells.length), VRel F w m (cs i j) (l[i]).cells[j]) →
      va = .slice (some ad) l.length c → vi = .int k j → 0 ≤ j → ∀ y, l[j.toNat]? = some y → y.cells.length = sz → p = .fptr y.cells → NOk P gl A w0 F m w G n a o p ext := by
    intro l ad c sz' cs k j hF hz hcell h hva hvi h0 y hy hys hpp
    clear hp
    obtain ⟨hlt, rfl⟩ := List.getElem?_eq_some_iff.1 hy
    have hz' : sz' = sz := by rw [← hz _ (List.getElem_mem hlt)]; exact hys
    subst hz'
    subst hpp
    refine .same sim (hrun ad _ c k j hva hvi h0 (by omega)) (.fptr _ _ (cs j.toNat) (by rw [add_block]; exact hF) (fun q hq => ?_) (fun q hq => h _ hlt q hq))
    rw [Addr.add_add]
    exact hcell _ hlt q (by omega)
  split at hp
  · rename_i l k j
    cases hv2
    split at hp
    · rename_i h0
      simp only [Option.bind_eq_some_iff] at hp
      obtain ⟨y, hy, hp⟩ := hp
      split at hp
      · rename_i hys
        simp only [Option.some.injEq, Prod.mk.injEq] at hp
        cases hv with
        | slnil => simp at hy
        | sl ad c sz' _ cs hF hc hm hz hcell h => exact frozen l ad c sz' cs k j hF hz hcell (fun i h1 j h2 => (h i h1 j h2).weak m) rfl rfl h0 y hy hys hp.1.symm
      · cases hp
    · cases hp
  · rename_i l k j
    cases hv2
    split at hp
    · rename_i h0
      simp only [Option.bind_eq_some_iff] at hp
      obtain ⟨y, hy, hp⟩ := hp
      split at hp
      · rename_i hys
        simp only [Option.some.injEq, Prod.mk.injEq] at hp
        cases hv with
        | litnil => simp at hy
        | lit ad sz' _ cs hF hm hz hcell h => exact frozen l ad _ sz' cs k j hF hz hcell h rfl rfl h0 y hy hys hp.1.symm
      · cases hp
    · cases hp
  · rename_i b g off len k j
    cases hv2
    simp only [Option.bind_eq_some_iff] at hp
    obtain ⟨B, hB, hp⟩ := hp
    obtain ⟨hf, hg⟩ := Hp.blk_some hB
    split at hp
    · rename_i hc
      simp only [Option.some.injEq, Prod.mk.injEq] at hp
      obtain ⟨rfl, _⟩ := hp
      cases hv with
      | ref A c _ _ _ _ h =>
        have hnu : m b ≠ .unborn := fun e => by rw [e] at h; exact h
        rcases sim.blk b B (hG _ _ hf) hnu with ⟨β, hm, _⟩ | ⟨hvi, _⟩
        case inr =>
          rw [hvi] at h
          have := (h.2 hg.symm).1
          omega
        rw [hm] at h
        obtain ⟨rfl, _⟩ := h.2 hg.symm
        refine .same sim (hrun _ _ c k j rfl rfl hc.1 hc.2.1) (.ptr _ _ _ _ _ ?_)
        rw [hm]
        refine ⟨h.1, fun _ => ?_⟩
        rw [add_plain', hc.2.2, Nat.add_mul, Nat.add_zero]
    · cases hp
  · rename_i b g i' off len k j
    cases hv2
    simp only [Option.bind_eq_some_iff] at hp
    obtain ⟨B, hB, hp⟩ := hp
    obtain ⟨hf, hg⟩ := Hp.blk_some hB
    split at hp
    · rename_i hc
      simp only [Option.some.injEq, Prod.mk.injEq] at hp
      obtain ⟨rfl, _⟩ := hp
      cases hv with
      | cref A c _ _ _ _ _ h =>
        have hnu : m b ≠ .unborn := fun e => by rw [e] at h; exact h
        rcases sim.blk b B (hG _ _ hf) hnu with ⟨β, hm, _⟩ | ⟨hvi, _⟩
        case inr => rw [hvi] at h; exact h.elim
        rw [hm] at h
        obtain ⟨rfl, _⟩ := h.2 hg.symm
        refine .same sim (hrun _ _ c k j rfl rfl hc.1 hc.2.1) (.ptr _ _ _ _ _ ?_)
        rw [hm]
        refine ⟨h.1, fun _ => ?_⟩
        rw [add_plain', hc.2.2, Nat.mul_one, Nat.add_assoc]
    · cases hp
  · cases hp
end
end Go.Vm
