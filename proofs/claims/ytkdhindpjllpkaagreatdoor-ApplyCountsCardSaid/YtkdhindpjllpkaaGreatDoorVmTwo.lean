/- Laid. -/
import Derived.Test.YtkdhindpjllpkaaGreatDoorVmOne
import Derived.Laws.BytesString
set_option linter.unusedSimpArgs false
set_option linter.unusedVariables false
set_option maxRecDepth 100000
namespace Go.Vm
open Go Go.RowKit
section
variable {P : Program} {gl : Nat → Option PV} {A : Nat → Prop} {w0 : World} {F : Nat → Prop} {m : Nat → Slot} {w : World} {G H : Hp} {a : Act} {env : Env} {o : Oper} {p : PV} {own : Bool}
theorem flat_take {s : Nat} : ∀ {l : List PV} (n : Nat), (∀ e ∈ l, e.cells.length = s) → flat (l.take n) = (flat l).take (n * s)
  | [], n, _ => by simp [flat]
  | x :: l, 0, _ => by simp [flat]
  | x :: l, n + 1, h => by
    have hx := h x (by simp)
    have ih := flat_take (l := l) n (fun e he => h e (by simp [he]))
    unfold flat at ih ⊢
    rw [List.take_succ_cons, List.flatMap_cons, List.flatMap_cons, ih, show (n + 1) * s = x.cells.length + n * s by rw [Nat.add_mul, hx]; omega, List.take_length_add_append]
theorem flat_drop {s : Nat} : ∀ {l : List PV} (n : Nat), (∀ e ∈ l, e.cells.length = s) → flat (l.drop n) = (flat l).drop (n * s)
  | [], n, _ => by simp [flat]
  | x :: l, 0, _ => by simp
  | x :: l, n + 1, h => by
    have hx := h x (by simp)
    have ih := flat_drop (l := l) n (fun e he => h e (by simp [he]))
    unfold flat at ih ⊢
    rw [List.drop_succ_cons, ih, List.flatMap_cons, show (n + 1) * s = x.cells.length + n * s by rw [Nat.add_mul, hx]; omega, List.drop_length_add_append]
theorem slice_shape (sim : Sim gl A w0 F m w G) (hG : ∀ b k, H.f b = some k → G.f b = some k) {v : Value} {x : PV} {ys : List PV} (hv : VRel F w m v x) (he : elems H x = some ys) :
    ∃ As sc, v = .slice As ys.length sc ∧ (ys.length = 0 ∨ ∃ x, As = some x) ∧ ∃ s', ∀ y ∈ ys, y.cells.length = s' := by
  unfold elems at he
  split at he
  · injection he with he
    subst he
    cases hv with
    | slnil As c hc => exact ⟨As, c, rfl, .inl rfl, 0, by simp⟩
    | sl ad c s' _ cs hF hc hm hz hcell h => exact ⟨_, _, rfl, .inr ⟨_, rfl⟩, s', hz⟩
  · injection he with he
    subst he
    cases hv with
    | litnil => exact ⟨none, 0, rfl, .inl rfl, 0, by simp⟩
    | lit ad s' _ cs hF hm hz hcell h => exact ⟨_, _, rfl, .inr ⟨_, rfl⟩, s', hz⟩
  · rename_i b g off len
    simp only [Option.bind_eq_bind, Option.bind_eq_some_iff] at he
    obtain ⟨k, hk, he⟩ := he
    obtain ⟨hf, hg⟩ := Hp.blk_some hk
    split at he
    · rename_i hle
      injection he with he
      subst he
      cases hv with
      | ref Ad c _ _ _ _ h =>
        have hnu : m b ≠ .unborn := fun e => by rw [e] at h; exact h
        rcases sim.blk2 b k (hG _ _ hf) hnu (fun _ e => by rw [e] at h; exact h) with ⟨β, hm, ⟨cs, T, h1, h2, h3, h4⟩⟩ | ⟨hvi, hxs⟩
        case inr =>
          rw [hvi] at h
          obtain ⟨rfl, rfl⟩ := h.2 hg.symm
          exact ⟨Ad, 0, by simp, .inl (by simp), 0, by simp⟩
        rw [hm] at h
        obtain ⟨rfl, _⟩ := h.2 hg.symm
        have hlen : ((k.xs.drop off).take len).length = len := by simp; omega
        exact ⟨_, _, by rw [hlen], .inr ⟨_, rfl⟩, k.sz, fun e he => h3 e (List.mem_of_mem_drop (List.mem_of_mem_take he))⟩
    · cases he
  · rename_i b g i off len
    simp only [Option.bind_eq_bind, Option.bind_eq_some_iff] at he
    obtain ⟨k, hk, e, hel, he⟩ := he
    obtain ⟨hf, hg⟩ := Hp.blk_some hk
    obtain ⟨hi, rfl⟩ := List.getElem?_eq_some_iff.1 hel
    split at he
    · rename_i hle
      injection he with he
      subst he
      cases hv with
      | cref Ad c _ _ _ _ _ h =>
        have hnu : m b ≠ .unborn := fun e => by rw [e] at h; exact h
        rcases sim.blk2 b k (hG _ _ hf) hnu (fun _ e => by rw [e] at h; exact h) with ⟨β, hm, ⟨cs, T, h1, h2, h3, h4⟩⟩ | ⟨hvi, hxs⟩
        case inr => rw [hvi] at h; exact h.elim
        rw [hm] at h
        obtain ⟨rfl, _⟩ := h.2 hg.symm
        have hlen : (((k.xs[i]).cells.drop off).take len).length = len := by simp; omega
        exact ⟨_, _, by rw [hlen], .inr ⟨_, rfl⟩, 1, fun e he => by
          have := List.all_eq_true.1 hle.2 e he
          cases e <;> first | rfl | (exact absurd this (by simp [PV.one]))⟩
    · cases he
  · cases he
theorem flat_splice {s : Nat} {l c : List PV} {off : Nat} (hl : ∀ e ∈ l, e.cells.length = s) (hc : ∀ e ∈ c, e.cells.length = s) (h : off + c.length ≤ l.length) : flat (splice l off c) = splice (flat l) (off * s) (flat c) := by
  have e1 := flat_drop (off + c.length) hl
  unfold splice
  rw [flat_append, flat_append, flat_take _ hl, e1, flat_length hc, Nat.add_mul]
theorem copy_run (t u ty e : TypeId) (i : TypeInfo) (hu : P.underlying t = some (.slice e)) (hi : P.info? e = some i) (g o dl dc : Nat) (cur : Array Value) (T : TypeId) (hg : w.heap[g]? = some (.cells cur T (0, 0))) (As : Option Addr) (sl sc : Nat) (news : List Value)
    (hn : news.length = Nat.min sl dl * i.size) (hsrc : news = [] ∧ (sl = 0 ∨ ∃ x, As = some x) ∨ ∃ ad, As = some ad ∧ ∀ j v, news[j]? = some v → w.cell? (ad.add j) = some v) (hfit : o + news.length ≤ cur.size) (h1 : ∀ u ∈ news, u.oneCell' = true) :
    (Builtin.copy_ #[t, u] ty #[.slice (some ⟨g, o, none⟩) dl dc, .slice As sl sc]).run P w = .ok (goInt (Nat.min sl dl)) (w.setRow g (cur.toList.take o ++ news ++ cur.toList.drop (o + news.length)).toArray) := by
  have hst := run_storeCells_at P g o T news 0 cur w hg (by simpa using hfit) h1
  rcases hsrc with ⟨rfl, h⟩ | ⟨ad, rfl, hsrc⟩
  · have hn0 : Nat.min sl dl * i.size = 0 := by rw [← hn]; rfl
    have hfc : (Builtin.firstCells i.size (Nat.min sl dl) (.slice As sl sc)).run P w = .ok #[] w := by
      cases As with
      | none => rfl
      | some x =>
        have := run_loadCells_list (P := P) w x [] (by simp)
        simp only [Builtin.firstCells, hn0]
        simpa using this
    simp only [List.append_nil, List.length_nil, Nat.add_zero] at hst ⊢
    simp [Builtin.copy_, run_underlying hu, Builtin.lenOf, sizeOf, typeInfo, hi, hfc, hst]
  · have hl := run_loadCells_list (P := P) w ad news hsrc
    rw [hn] at hl
    simp only [Nat.add_zero] at hst
    simp [Builtin.copy_, run_underlying hu, Builtin.lenOf, Builtin.firstCells, sizeOf, typeInfo, hi, hl, hst]
theorem copy_run0 (t u ty e : TypeId) (i : TypeInfo) (hu : P.underlying t = some (.slice e)) (hi : P.info? e = some i) (Ad : Option Addr) (dc : Nat) (As : Option Addr) (sl sc : Nat) :
    (Builtin.copy_ #[t, u] ty #[.slice Ad 0 dc, .slice As sl sc]).run P w = .ok (goInt 0) w := by
  have hfc : (Builtin.firstCells i.size 0 (.slice As sl sc)).run P w = .ok #[] w := by
    cases As with
    | none => rfl
    | some x =>
      have := run_loadCells_list (P := P) w x [] (by simp)
      simp only [Builtin.firstCells, Nat.zero_mul]
      simpa using this
  have h0 : Nat.min sl 0 = 0 := Nat.min_zero sl
  cases Ad <;> simp [Builtin.copy_, run_underlying hu, Builtin.lenOf, sizeOf, typeInfo, hi, h0, hfc, storeCells]
theorem Hp.set_same {H : Hp} {b : Nat} {k : Blk} (h : H.f b = some k) : H.set b k = H := by
  have : (H.set b k).f = H.f := by
    funext c
    rw [Hp.set_f h]
    split
    · rename_i e; rw [e, h]
    · rfl
  cases H
  simp only [Hp.set] at this ⊢
  congr
theorem ok_copy (sim : Sim gl A w0 F m w H) (hub : ∀ b, H.n ≤ b → m b = .unborn) {c : Call} {t u e : TypeId} {d s : Operand} {rd rs : RO} {sz : Nat} {r : Option PV} {H' : Hp} (ho : o.op = .call c) (hcal : c.callee = .builtin .copy) (hargs : c.args.toList = [d, s])
    (hts : c.argTypes.toList = [t, u]) (hu : P.underlying t = some (.slice e)) (hsz : szOf P e = some sz) (hd : roOf d = some rd) (hs : roOf s = some rs) (he : ERel F m w a env (rd.reads ++ rs.reads))
    (hp : stepE (RO.ev gl env) H (.copy sz rd rs) = some (r, H')) : EOk P gl A w0 F m w a o r H' := by
  simp only [stepE, Option.bind_eq_bind, Option.bind_eq_some_iff] at hp
  obtain ⟨q, hq, hp⟩ := hp
  obtain ⟨e1, e2⟩ := he.app
  have hrd := RO.rel sim hd e1 hq
  split at hp
  · rename_i b g off len
    simp only [Option.bind_eq_some_iff] at hp
    obtain ⟨k, hk, qs, hqs, ys, hys, hp⟩ := hp
    have hrs := RO.rel sim hs e2 hqs
    obtain ⟨hf, hg⟩ := Hp.blk_some hk
    split at hp
    · rename_i hc
      simp only [Option.some.injEq, Prod.mk.injEq] at hp
      obtain ⟨rfl, rfl⟩ := hp
      obtain ⟨hfit, hksz, hall⟩ := hc
      have hall1 : ∀ y ∈ ys.take (min ys.length len), y.cells.length = sz := fun y hy => by have := List.all_eq_true.1 hall y hy; simp only [Bool.and_eq_true, beq_iff_eq] at this; exact this.1
      have hall2 : ∀ y ∈ ys.take (min ys.length len), y.cells.all PV.one = true := fun y hy => by have := List.all_eq_true.1 hall y hy; simp only [Bool.and_eq_true, beq_iff_eq] at this; exact this.2
      generalize hva : a.eval d = va at hrd
      generalize hvs : a.eval s = vs at hrs
      cases hrd with
      | ref Ad cc _ _ _ _ h =>
        have hnu : m b ≠ .unborn := fun e => by rw [e] at h; exact h
        unfold szOf at hsz
        rw [Option.map_eq_some_iff] at hsz
        obtain ⟨ie, hie, rfl⟩ := hsz
        rcases sim.blk2 b k hf hnu (fun _ e => by rw [e] at h; exact h) with ⟨β, hm, ⟨cs, T, h1, h2, h3, h4⟩⟩ | ⟨hvi, hxs⟩
        case inr =>
          rw [hvi] at h
          obtain ⟨hl0, rfl⟩ := h.2 hg.symm
          subst hl0
          obtain ⟨As, sc, rfl, _⟩ := slice_shape (H := H) sim (fun b k h => h) hrs hys
          have hrun := copy_run0 (P := P) (w := w) t u o.type e ie hu hie Ad 0 As ys.length sc
          have hrun' : (execOp a.eval o).run P w = .ok (.value (goInt 0)) w := by
            have a1 : c.args.map a.eval = #[a.eval d, a.eval s] := Array.toList_inj.1 (by simp [hargs])
            have a2 : c.argTypes = #[t, u] := Array.toList_inj.1 (by simp [hts])
            simp only [execOp, ho, resolve, hcal, Sem.run_bind, Sem.run_pure, Result.andThen_ok, invoke, builtin, a1, a2, hva, hvs, hrun]
          have hsp : splice k.xs off (List.take (min ys.length 0) ys) = k.xs := by
            rw [hxs]; simp [splice]
          have hH : H.set b ⟨g, ie.size, splice k.xs off (List.take (min ys.length 0) ys)⟩ = H := by
            rw [hsp, ← hksz, ← hg]
            exact Hp.set_same hf
          rw [hH]
          refine ⟨_, _, F, m, .inl hrun', sim, Ev.refl sim.fnl sim.liv, ?_, hub⟩
          intro p hp
          injection hp with hp
          subst hp
          have : min ys.length 0 = 0 := Nat.min_zero _
          rw [this]
          exact .int _ _
        rw [hm] at h
        obtain ⟨rfl, hlc, hcm, hcap⟩ := h.2 hg.symm
        -- the source's cells
        have hsrc : ∃ As sc news, vs = .slice As ys.length sc ∧ CsRel F m w (news : List Value).toArray (flat (ys.take (min ys.length len))) ∧ news.length = min ys.length len * ie.size ∧
            (news = [] ∧ (ys.length = 0 ∨ ∃ x, As = some x) ∨ ∃ ad, As = some ad ∧ ∀ j v, news[j]? = some v → w.cell? (ad.add j) = some v) := by
          obtain ⟨As, sc, rfl, hnil, s', hs'⟩ := slice_shape (H := H) sim (fun b k h => h) hrs hys
          by_cases hne : min ys.length len = 0
          · refine ⟨As, sc, [], rfl, ?_, by rw [hne]; simp, .inl ⟨rfl, hnil⟩⟩
            rw [hne]
            exact ⟨by simp [flat], fun j h1 => absurd h1 (by simp)⟩
          · have hy0 : 0 < ys.length := by omega
            have hss : s' = ie.size := by
              have h5 := hall1 (ys[0]'hy0) (by
                rw [List.mem_iff_getElem]
                exact ⟨0, by simp; omega, by simp⟩)
              rw [← h5]
              exact (hs' _ (List.getElem_mem hy0)).symm
            subst hss
            obtain ⟨news, ⟨⟨As', sc', hv', hcx⟩, hnr⟩⟩ := elems_shows (H := H) (s := ie.size) sim (fun b k h => h) hrs hys hs'
            injection hv' with hA _ hC
            subst hA
            subst hC
            rcases hcx with hcx | ⟨ad, hA, hnews⟩
            · rw [hcx] at hy0; simp at hy0
            · have hnl : news.length = ys.length * ie.size := by have := hnr.1; rw [flat_length hs'] at this; simpa using this
              have hle : min ys.length len * ie.size ≤ news.length := by rw [hnl]; exact Nat.mul_le_mul_right _ (Nat.min_le_left _ _)
              refine ⟨As, sc, news.take (min ys.length len * ie.size), rfl, ?_, by rw [List.length_take]; omega, .inr ⟨ad, hA, fun j v hj => hnews j v ?_⟩⟩
              · rw [flat_take _ hs']
                refine .of_get (by simp; have := hnr.1; simp at this; omega) (fun j q hq => ?_)
                rw [List.getElem?_take] at hq
                split at hq
                · rename_i hj
                  obtain ⟨v, hv, hvr⟩ := hnr.get hq
                  exact ⟨v, by simp only [List.getElem?_toArray] at hv ⊢; rw [List.getElem?_take_of_lt hj]; exact hv, hvr⟩
                · cases hq
              · rw [List.getElem?_take] at hj
                split at hj
                · exact hj
                · cases hj
        obtain ⟨As, sc, news, rfl, hnr, hnl, hsc⟩ := hsrc
        have hfit2 : off * k.sz + news.length ≤ cs.size := by
          rw [hnl, hksz, ← Nat.add_mul]
          have : (off + min ys.length len) * ie.size ≤ k.xs.length * ie.size := Nat.mul_le_mul_right _ (by omega)
          rw [hksz] at h2
          omega
        have hrun := copy_run (P := P) (w := w) t u o.type e ie hu hie β (off * k.sz) len cc cs T h1 As ys.length sc news hnl hsc hfit2 (one_of_rel hnr (flat_ones hall2))
        have hrun' : (execOp a.eval o).run P w = .ok (.value (.int .i64 ((min ys.length len : Nat) : Int))) (w.setRow β (cs.toList.take (off * k.sz) ++ news ++ cs.toList.drop (off * k.sz + news.length)).toArray) := by
          have a1 : c.args.map a.eval = #[a.eval d, a.eval s] := Array.toList_inj.1 (by simp [hargs])
          have a2 : c.argTypes = #[t, u] := Array.toList_inj.1 (by simp [hts])
          simp only [execOp, ho, resolve, hcal, Sem.run_bind, Sem.run_pure, Result.andThen_ok, invoke, builtin, a1, a2, hva, hvs, hrun]
          rfl
        have hxs : ∀ y ∈ k.xs, y.cells.length = ie.size := fun y hy => by rw [h3 y hy, hksz]
        have htl : (ys.take (min ys.length len)).length = min ys.length len := by simp
        have hsp : off + (ys.take (min ys.length len)).length ≤ k.xs.length := by rw [htl]; omega
        have hel : ∀ y ∈ splice k.xs off (ys.take (min ys.length len)), y.cells.length = ie.size := by
          intro y hy
          unfold splice at hy
          simp only [List.mem_append] at hy
          rcases hy with (hy | hy) | hy
          · exact hxs y (List.mem_of_mem_take hy)
          · exact hall1 y hy
          · exact hxs y (List.mem_of_mem_drop hy)
        have hsl : (splice k.xs off (ys.take (min ys.length len))).length = k.xs.length := splice_length hsp
        obtain ⟨s2, ev2⟩ := sim.write (g' := k.g) (xs' := splice k.xs off (ys.take (min ys.length len))) hf hm h1 (rowWrite_size cs news (off * k.sz) hfit2) (Nat.le_refl _)
          (by rw [rowWrite_size cs news (off * k.sz) hfit2, hsl]; exact h2) (by rw [hksz]; exact hel)
          (by
            rw [hksz]
            rw [hksz] at hfit2
            refine blk_of_flat' hel (by rw [rowWrite_size cs news (off * ie.size) hfit2, hsl, ← hksz]; exact h2) (fun j q hq => ?_)
            rw [flat_splice hxs hall1 hsp] at hq
            have fl : (flat (ys.take (min ys.length len))).length = news.length := by rw [flat_length hall1, htl, hnl]
            rw [splice_get (by rw [flat_length hall1, flat_length hxs, ← Nat.add_mul]; exact Nat.mul_le_mul_right _ hsp)] at hq
            rw [rowWrite_get cs news (off * ie.size) hfit2]
            rw [fl] at hq
            by_cases hj : off * ie.size ≤ j ∧ j < off * ie.size + news.length
            · rw [if_pos hj] at hq ⊢
              obtain ⟨v, hv, hvr⟩ := hnr.get hq
              exact ⟨v, by simpa using hv, hvr⟩
            · rw [if_neg hj] at hq ⊢
              obtain ⟨hlt, _⟩ := List.getElem?_eq_some_iff.1 hq
              rw [flat_length hxs] at hlt
              have hs0 : 0 < ie.size := by rcases Nat.eq_zero_or_pos ie.size with e | e; (rw [e] at hlt; simp at hlt); exact e
              have hi : j / ie.size < k.xs.length := Nat.div_lt_of_lt_mul (by rw [Nat.mul_comm]; exact hlt)
              have hgq := flat_get hxs (j / ie.size) hi (j % ie.size) (Nat.mod_lt _ hs0)
              rw [show j / ie.size * ie.size + j % ie.size = j by rw [Nat.mul_comm]; exact Nat.div_add_mod j _, hq] at hgq
              obtain ⟨h5, h6⟩ := List.getElem?_eq_some_iff.1 hgq.symm
              obtain ⟨v, hv, hvr⟩ := h4 _ hi _ h5
              rw [hksz, show j / ie.size * ie.size + j % ie.size = j by rw [Nat.mul_comm]; exact Nat.div_add_mod j _] at hv
              exact ⟨v, hv, by rw [← h6]; exact hvr⟩)
        rw [mput_same hm] at s2 ev2
        rw [hksz, hg] at s2
        rw [hksz] at hrun'
        exact ⟨_, _, F, m, .inl hrun', s2, by rw [hksz] at ev2; exact ev2, fun p hp => by injection hp with hp; subst hp; exact .int _ _, fun b' hb' => hub b' hb'⟩
    · cases hp
  · cases hp
end
end Go.Vm
namespace Go.Vm
open Go Go.RowKit
section
variable {P : Program} {gl : Nat → Option PV} {A : Nat → Prop} {w0 : World} {F : Nat → Prop} {m : Nat → Slot} {w : World} {G H : Hp} {a : Act} {env : Env} {o : Oper} {p : PV} {own : Bool}
theorem bound_run {n c : Nat} {v : Value} {q : PV} {k : Nat} {code : BoundsCode} (hv : VRel F w m v q) (h : bnd n q = some k) (hc : n ≤ c) : (Instr.sliceBound v c code).run P w = .ok k w ∧ k ≤ n := by
  unfold bnd at h
  split at h
  · rename_i kd i
    cases hv
    split at h
    · rename_i hi
      injection h with h
      subst h
      have h2 : (0 : Int) ≤ i ∧ i ≤ (c : Int) := by omega
      refine ⟨?_, by omega⟩
      simp only [Instr.sliceBound, asIntOf, Sem.run_bind, Sem.run_pure, Result.andThen_ok, Sem.run_ite, if_pos h2]
    · cases h
  · cases h
def VRels (F : Nat → Prop) (m : Nat → Slot) (w : World) : List Value → List PV → Prop
  | [], [] => True
  | v :: l, p :: r => VRel F w m v p ∧ VRels F m w l r
  | _, _ => False
theorem evs_rels (sim : Sim gl A w0 F m w G) : ∀ {l : List Operand} {rs : List RO} {q : List PV}, rosOf l = some rs → ERel F m w a env (readsL rs) → evs (RO.ev gl env) rs = some q → VRels F m w (l.map a.eval) q
  | [], rs, q, h, _, hq => by
    simp [rosOf] at h
    subst h
    simp [evs] at hq
    subst hq
    trivial
  | x :: l, rs, q, h, he, hq => by
    simp only [rosOf, Option.bind_eq_bind, Option.bind_eq_some_iff, Option.some.injEq] at h
    obtain ⟨r, hr, rs', hrs, rfl⟩ := h
    simp only [evs, Option.bind_eq_bind, Option.bind_eq_some_iff, Option.some.injEq] at hq
    obtain ⟨v, hv, q', hq', rfl⟩ := hq
    simp only [readsL] at he
    obtain ⟨e1, e2⟩ := he.app
    exact ⟨RO.rel sim hr e1 hv, evs_rels sim hrs e2 hq'⟩
theorem bounds_run {isSl : Bool} {lo hi mx : Option Value} {n c a1 b1 c1 : Nat} {bs : List PV} (hr : VRels F m w (lo.toList ++ (hi.toList ++ mx.toList)) bs) (h : bnds lo.isSome hi.isSome mx.isSome n bs = some (a1, b1, c1)) (hc : n ≤ c) :
    (Instr.sliceBounds isSl n c lo hi mx).run P w = .ok (a1, b1, if mx.isSome then c1 else c) w ∧ a1 ≤ b1 ∧ b1 ≤ n ∧ (mx.isSome = true → b1 ≤ c1 ∧ c1 ≤ n) := by
  cases lo <;> cases hi <;> cases mx <;> simp only [Option.isSome, bnds] at h <;> simp only [Option.toList, List.nil_append, List.cons_append] at hr
  · split at h <;> simp_all [VRels]
    obtain ⟨rfl, rfl, rfl⟩ := h
    simp [Instr.sliceBounds]
  · cases h
  · rename_i v
    match bs, hr with
    | [p], hr =>
      simp only [Option.map_eq_some_iff, Prod.mk.injEq] at h
      obtain ⟨k, hk, rfl, rfl, rfl⟩ := h
      obtain ⟨e1, e2⟩ := bound_run (P := P) (code := if isSl then .sliceAcap else .sliceAlen) hr.1 hk hc
      simp only [Instr.sliceBounds, Sem.run_bind, Sem.run_pure, Result.andThen_ok, e1, Option.isSome]
      exact ⟨rfl, Nat.zero_le _, e2, by simp⟩
  · rename_i v u
    match bs, hr with
    | [p, q], hr =>
      simp only [Option.bind_eq_bind, Option.bind_eq_some_iff, Option.some.injEq, Prod.mk.injEq] at h
      obtain ⟨k, hk, k2, hk2, rfl, rfl, rfl⟩ := h
      obtain ⟨e1, e2⟩ := bound_run (P := P) (code := if isSl then .slice3Acap else .slice3Alen) hr.2.1 hk hc
      obtain ⟨e3, e4⟩ := bound_run (P := P) (code := .slice3B) hr.1 hk2 (Nat.le_refl _)
      simp only [Instr.sliceBounds, Sem.run_bind, Sem.run_pure, Result.andThen_ok, e1, e3, Option.isSome]
      exact ⟨by simp, Nat.zero_le _, by omega, fun _ => ⟨e4, e2⟩⟩
  · rename_i v
    match bs, hr with
    | [p], hr =>
      simp only [Option.map_eq_some_iff, Prod.mk.injEq] at h
      obtain ⟨k, hk, rfl, rfl, rfl⟩ := h
      obtain ⟨e1, e2⟩ := bound_run (P := P) (code := .sliceB) hr.1 hk (Nat.le_refl _)
      simp only [Instr.sliceBounds, Sem.run_bind, Sem.run_pure, Result.andThen_ok, e1, Option.isSome, Bool.false_eq_true, if_false]
      exact ⟨trivial, e2, Nat.le_refl _, by simp⟩
  · cases h
  · rename_i v u
    match bs, hr with
    | [p, q], hr =>
      simp only [Option.bind_eq_bind, Option.bind_eq_some_iff, Option.some.injEq, Prod.mk.injEq] at h
      obtain ⟨k, hk, k2, hk2, rfl, rfl, rfl⟩ := h
      obtain ⟨e1, e2⟩ := bound_run (P := P) (code := if isSl then .sliceAcap else .sliceAlen) hr.2.1 hk hc
      obtain ⟨e3, e4⟩ := bound_run (P := P) (code := .sliceB) hr.1 hk2 (Nat.le_refl _)
      simp only [Instr.sliceBounds, Sem.run_bind, Sem.run_pure, Result.andThen_ok, e1, e3, Option.isSome, Bool.false_eq_true, if_false]
      exact ⟨trivial, e4, e2, by simp⟩
  · rename_i v u x
    match bs, hr with
    | [p, q, r], hr =>
      simp only [Option.bind_eq_bind, Option.bind_eq_some_iff, Option.some.injEq, Prod.mk.injEq] at h
      obtain ⟨k, hk, k2, hk2, k3, hk3, rfl, rfl, rfl⟩ := h
      obtain ⟨e1, e2⟩ := bound_run (P := P) (code := if isSl then .slice3Acap else .slice3Alen) hr.2.2.1 hk hc
      obtain ⟨e3, e4⟩ := bound_run (P := P) (code := .slice3B) hr.2.1 hk2 (Nat.le_refl _)
      obtain ⟨e5, e6⟩ := bound_run (P := P) (code := .slice3C) hr.1 hk3 (Nat.le_refl _)
      simp only [Instr.sliceBounds, Sem.run_bind, Sem.run_pure, Result.andThen_ok, e1, e3, e5, Option.isSome, if_true]
      exact ⟨by simp, e6, by omega, fun _ => ⟨e4, e2⟩⟩
theorem map_toList {α β : Type} (f : α → β) (x : Option α) : x.toList.map f = (x.map f).toList := by cases x <;> rfl
theorem isSome_map' {α β : Type} (f : α → β) (x : Option α) : (x.map f).isSome = x.isSome := by cases x <;> rfl
theorem sl_part {l : List PV} {ad : Addr} {sz : Nat} {cs : Nat → Nat → Value} {a1 b1 c1 : Nat} (hF : F ad.block) (hz : ∀ e ∈ l, e.cells.length = sz)
    (hcell : ∀ i, i < l.length → ∀ j, j < sz → w.cell? (ad.add (i * sz + j)) = some (cs i j)) (h : ∀ i (h1 : i < l.length) j (h2 : j < (l[i]).cells.length), VRel F w noM (cs i j) (l[i]).cells[j])
    (h1 : a1 < b1) (h2 : b1 ≤ l.length) (h3 : b1 ≤ c1) (h4 : c1 ≤ maxLen) : VRel F w m (.slice (some (ad.add (a1 * sz))) (b1 - a1) (c1 - a1)) (.sl ((l.drop a1).take (b1 - a1))) := by
  have e : ((l.drop a1).take (b1 - a1)).length = b1 - a1 := by simp; omega
  have hg : ∀ i (hi : i < ((l.drop a1).take (b1 - a1)).length), ((l.drop a1).take (b1 - a1))[i] = l[a1 + i]'(by omega) := fun i hi => by simp
  have := VRel.sl (F := F) (w := w) (m := m) (ad.add (a1 * sz)) (c1 - a1) sz ((l.drop a1).take (b1 - a1)) (fun i j => cs (a1 + i) j) (by rw [add_block]; exact hF) (by rw [e]; omega) (by omega)
    (fun x hx => hz x (List.mem_of_mem_drop (List.mem_of_mem_take hx))) (fun i hi j hj => ?_) (fun i h1 j h2 => ?_)
  · rw [e] at this; exact this
  · rw [Addr.add_add]
    have := hcell (a1 + i) (by omega) j hj
    rw [← this]
    congr 2
    rw [Nat.add_mul]; omega
  · simp only [hg] at h2 ⊢
    exact h (a1 + i) (by omega) j h2
theorem ok_sliceSl (sim : Sim gl A w0 F m w G) (hG : ∀ b k, H.f b = some k → G.f b = some k) {t e : TypeId} {x : Operand} {lo hi mx : Option Operand} {sz : Nat} {rs : List RO} (ho : o.op = .slice t x lo hi mx) (hu : P.underlying t = some (.slice e)) (hsz : szOf P e = some sz)
    (hx : rosOf (x :: (lo.toList ++ (hi.toList ++ mx.toList))) = some rs) (he : ERel F m w a env (readsL rs)) {q : List PV} (hq : evs (RO.ev gl env) rs = some q) (n ext : Nat) (hp : primF H (.sliceSl sz lo.isSome hi.isSome mx.isSome) q = some p) : NOk P gl A w0 F m w G n a o p ext := by
  have hr := evs_rels sim hx he hq
  simp only [List.map_cons, List.map_append, map_toList] at hr
  match q, hr with
  | y :: bs, hr =>
  obtain ⟨hv, hbs⟩ := hr
  simp only [primF, Option.bind_eq_bind, Option.bind_eq_some_iff] at hp
  obtain ⟨N, hN, ⟨a1, b1, c1⟩, hb, hp⟩ := hp
  generalize hev : a.eval x = va at hv
  have hb' : bnds (lo.map a.eval).isSome (hi.map a.eval).isSome (mx.map a.eval).isSome N bs = some (a1, b1, c1) := by simpa [isSome_map'] using hb
  have hrun : ∀ (A' : Option Addr) (c : Nat), va = .slice A' N c → N ≤ c → (execOp a.eval o).run P w = .ok (.value (.slice (if (if mx.isSome then c1 else c) = a1 then A' else A'.map (·.add (a1 * sz))) (b1 - a1) ((if mx.isSome then c1 else c) - a1))) w ∧ a1 ≤ b1 ∧ b1 ≤ N ∧ b1 ≤ (if mx.isSome then c1 else c) ∧ (if mx.isSome then c1 else c) ≤ c := by
    rintro A' c rfl hc
    obtain ⟨e1, e2, e3, e4⟩ := bounds_run (P := P) (isSl := true) hbs hb' hc
    rw [isSome_map'] at e1 e4
    refine ⟨?_, e2, e3, ?_⟩
    · simp only [execOp, ho, hev, Instr.sliceAt, Instr.slice, Sem.run_bind, run_underlying hu w, Result.andThen_ok, e1, Sem.run_pure, run_sizeOf' hsz w]
    · split
      · rename_i h; have := e4 h; omega
      · omega
  dsimp only at hp
  have fin : ∀ A' c, va = .slice A' N c → N ≤ c → c ≤ maxLen → a1 = b1 → NOk P gl A w0 F m w G n a o (.sl []) ext := by
    intro A' c hva hc hm hab
    obtain ⟨e1, e2, e3, e4, e5⟩ := hrun A' c hva hc
    refine .same sim e1 ?_
    rw [show b1 - a1 = 0 by omega]
    exact .slnil _ _ (by omega)
  split at hp
  · rename_i l
    simp only [PV.lenP, Option.some.injEq] at hN
    subst hN
    split at hp
    · rename_i hab
      injection hp with hp
      subst hp
      cases hv with
      | slnil A' c hc => exact fin _ _ rfl (Nat.zero_le _) hc hab
      | sl ad c sz' _ cs hF hc hm hz hcell h => exact fin _ _ rfl hc hm hab
    · rename_i hab
      split at hp
      · rename_i hall
        injection hp with hp
        subst hp
        cases hv with
        | slnil A' c hc =>
          obtain ⟨e1, e2, e3, e4, e5⟩ := hrun A' c rfl (Nat.zero_le _)
          simp at e3
          omega
        | sl ad c sz' _ cs hF hc hm hz hcell h =>
          obtain ⟨e1, e2, e3, e4, e5⟩ := hrun (some ad) c rfl hc
          have hsz' : sz' = sz := by
            have hl : 0 < l.length := by omega
            have := List.all_eq_true.1 hall _ (List.getElem_mem hl)
            rw [← hz _ (List.getElem_mem hl)]
            simpa using this
          subst hsz'
          refine .same sim e1 ?_
          generalize (if mx.isSome then c1 else c) = M at *
          rw [if_neg (by omega)]
          exact sl_part hF hz hcell h (by omega) e3 e4 (by omega)
      · cases hp
  · rename_i l
    simp only [PV.lenP, Option.some.injEq] at hN
    subst hN
    split at hp
    · rename_i hab
      injection hp with hp
      subst hp
      cases hv with
      | litnil => exact fin _ _ rfl (Nat.le_refl _) (by simp [maxLen]) hab
      | lit ad sz' _ cs hF hm hz hcell h => exact fin _ _ rfl (Nat.le_refl _) hm hab
    · rename_i hab
      split at hp
      · rename_i hall
        injection hp with hp
        subst hp
        simp only [List.all_eq_true, Bool.and_eq_true, beq_iff_eq] at hall
        cases hv with
        | litnil =>
          obtain ⟨e1, e2, e3, e4, e5⟩ := hrun none 0 rfl (Nat.zero_le _)
          simp at e3
          omega
        | lit ad sz' _ cs hF hm hz hcell h =>
          obtain ⟨e1, e2, e3, e4, e5⟩ := hrun (some ad) _ rfl (Nat.le_refl _)
          have hsz' : sz' = sz := by
            have hl : 0 < l.length := by omega
            have := (hall _ (List.getElem_mem hl)).1
            rw [← hz _ (List.getElem_mem hl)]
            simpa using this
          subst hsz'
          refine .same sim e1 ?_
          generalize (if mx.isSome then c1 else l.length) = M at *
          rw [if_neg (by omega)]
          exact sl_part hF hz hcell (fun i h1 j h2 => pureF_weak ((hall _ (List.getElem_mem h1)).2 _ (List.getElem_mem h2)) (h i h1 j h2)) (by omega) e3 e4 (by omega)
      · cases hp
  · rename_i b g off len
    split at hp
    · split at hp
      · skip
        simp only [Option.bind_eq_some_iff] at hp
        obtain ⟨k, hk, hp⟩ := hp
        obtain ⟨hf, hg⟩ := Hp.blk_some hk
        simp only [PV.lenP, Option.some.injEq] at hN
        subst hN
        cases hv with
        | ref A' c _ _ _ _ h =>
          have hnu : m b ≠ .unborn := fun e => by rw [e] at h; exact h
          rcases sim.blk2 b k (hG _ _ hf) hnu (fun _ e => by rw [e] at h; exact h) with ⟨β, hm, _⟩ | ⟨hvi, _⟩
          case inr =>
            rw [hvi] at h
            obtain ⟨rfl, rfl⟩ := h.2 hg.symm
            have hab : a1 = b1 := by
              obtain ⟨e1, e2, e3, e4⟩ := bounds_run (P := P) (isSl := true) hbs hb' (Nat.le_refl 0)
              omega
            rw [if_pos hab] at hp
            split at hp
            · injection hp with hp
              subst hp
              obtain ⟨e1, e2, e3, e4, e5⟩ := hrun _ 0 rfl (Nat.le_refl _)
              refine .same sim e1 ?_
              rw [show b1 - a1 = 0 by omega]
              refine .ref _ _ _ _ _ _ ?_
              rw [hvi]
              exact ⟨h.1, fun _ => ⟨rfl, by omega⟩⟩
            injection hp with hp
            subst hp
            exact fin _ _ rfl (Nat.le_refl _) (by simp [maxLen]) hab
          rw [hm] at h
          obtain ⟨rfl, h1, h2, h3⟩ := h.2 hg.symm
          split at hp
          · rename_i hab
            split at hp
            · rename_i hq
              simp only [Bool.and_eq_true, beq_iff_eq] at hq
              injection hp with hp
              subst hp
              obtain ⟨e1, e2, e3, e4, e5⟩ := hrun _ c rfl h1
              refine .same sim e1 ?_
              rw [show b1 - a1 = 0 by omega]
              refine .ref _ _ _ _ _ _ ?_
              rw [hm]
              refine ⟨h.1, fun _ => ?_⟩
              generalize (if mx.isSome then c1 else c) = M at *
              have ha : a1 = 0 := hq.1
              subst ha
              refine ⟨?_, Nat.zero_le _, by omega, Nat.le_trans (Nat.mul_le_mul_right _ (by omega)) h3⟩
              simp only [Option.map_some, add_plain', Nat.zero_mul, Nat.add_zero]
              split <;> rfl
            injection hp with hp
            subst hp
            exact fin _ _ rfl h1 h2 hab
          · rename_i hab
            split at hp
            · rename_i hks
              injection hp with hp
              subst hp
              obtain ⟨e1, e2, e3, e4, e5⟩ := hrun _ c rfl h1
              refine .same sim e1 (.ref _ _ _ _ _ _ ?_)
              rw [hm]
              refine ⟨h.1, fun _ => ?_⟩
              generalize (if mx.isSome then c1 else c) = M at *
              rw [if_neg (by omega)]
              simp only [Option.map_some, add_plain', hks]
              refine ⟨by rw [Nat.add_mul], by omega, by omega, Nat.le_trans (Nat.mul_le_mul_right _ (by omega)) (hks ▸ h3)⟩
            · cases hp
      · cases hp
    · skip
      simp only [Option.bind_eq_some_iff] at hp
      obtain ⟨k, hk, hp⟩ := hp
      obtain ⟨hf, hg⟩ := Hp.blk_some hk
      simp only [PV.lenP, Option.some.injEq] at hN
      subst hN
      cases hv with
      | ref A' c _ _ _ _ h =>
        have hnu : m b ≠ .unborn := fun e => by rw [e] at h; exact h
        rcases sim.blk2 b k (hG _ _ hf) hnu (fun _ e => by rw [e] at h; exact h) with ⟨β, hm, _⟩ | ⟨hvi, _⟩
        case inr =>
          rw [hvi] at h
          obtain ⟨rfl, rfl⟩ := h.2 hg.symm
          have hab : a1 = b1 := by
            obtain ⟨e1, e2, e3, e4⟩ := bounds_run (P := P) (isSl := true) hbs hb' (Nat.le_refl 0)
            omega
          rw [if_pos hab] at hp
          injection hp with hp
          subst hp
          exact fin _ _ rfl (Nat.le_refl _) (by simp [maxLen]) hab
        rw [hm] at h
        obtain ⟨rfl, h1, h2, h3⟩ := h.2 hg.symm
        split at hp
        · rename_i hab
          injection hp with hp
          subst hp
          exact fin _ _ rfl h1 h2 hab
        · rename_i hab
          split at hp
          · rename_i hks
            injection hp with hp
            subst hp
            obtain ⟨e1, e2, e3, e4, e5⟩ := hrun _ c rfl h1
            refine .same sim e1 (.ref _ _ _ _ _ _ ?_)
            rw [hm]
            refine ⟨h.1, fun _ => ?_⟩
            generalize (if mx.isSome then c1 else c) = M at *
            rw [if_neg (by omega)]
            simp only [Option.map_some, add_plain', hks]
            refine ⟨by rw [Nat.add_mul], by omega, by omega, Nat.le_trans (Nat.mul_le_mul_right _ (by omega)) (hks ▸ h3)⟩
          · cases hp
  · rename_i b g i off len
    split at hp
    · cases hp
    · skip
      simp only [Option.bind_eq_some_iff] at hp
      obtain ⟨k, hk, hp⟩ := hp
      obtain ⟨hf, hg⟩ := Hp.blk_some hk
      simp only [PV.lenP, Option.some.injEq] at hN
      subst hN
      cases hv with
      | cref A' c _ _ _ _ _ h =>
        have hnu : m b ≠ .unborn := fun e => by rw [e] at h; exact h
        rcases sim.blk2 b k (hG _ _ hf) hnu (fun _ e => by rw [e] at h; exact h) with ⟨β, hm, _⟩ | ⟨hvi, _⟩
        case inr => rw [hvi] at h; exact h.elim
        rw [hm] at h
        obtain ⟨rfl, h1, h2⟩ := h.2 hg.symm
        split at hp
        · rename_i hab
          injection hp with hp
          subst hp
          exact fin _ _ rfl h1 h2 hab
        · rename_i hab
          split at hp
          · rename_i hks
            injection hp with hp
            subst hp
            obtain ⟨e1, e2, e3, e4, e5⟩ := hrun _ c rfl h1
            refine .same sim e1 (.cref _ _ _ _ _ _ _ ?_)
            rw [hm]
            refine ⟨h.1, fun _ => ?_⟩
            generalize (if mx.isSome then c1 else c) = M at *
            rw [if_neg (by omega)]
            simp only [Option.map_some, add_plain', hks, Nat.mul_one]
            exact ⟨by rw [Nat.add_assoc], by omega, by omega⟩
          · cases hp
  · cases hp
theorem ok_sliceArr (sim : Sim gl A w0 F m w G) (hG : ∀ b k, H.f b = some k → G.f b = some k) {t e : TypeId} {x : Operand} {lo hi mx : Option Operand} {N : Nat} {rs : List RO} (ho : o.op = .slice t x lo hi mx) (hu : P.underlying t = some (.array N e)) (hsz : szOf P e = some 1) (hN : N ≤ 1048576)
    (hx : rosOf (x :: (lo.toList ++ (hi.toList ++ mx.toList))) = some rs) (he : ERel F m w a env (readsL rs)) {q : List PV} (hq : evs (RO.ev gl env) rs = some q) (n ext : Nat) (hp : primF H (.sliceArr N lo.isSome hi.isSome mx.isSome) q = some p) : NOk P gl A w0 F m w G n a o p ext := by
  have hr := evs_rels sim hx he hq
  simp only [List.map_cons, List.map_append, map_toList] at hr
  unfold primF at hp
  split at hp <;> try contradiction
  rename_i b g i off bs heq1
  injection heq1 with e1 e2 e3 e4
  subst e1 e2 e3 e4
  obtain ⟨hv, hbs⟩ := hr
  simp only [Option.bind_eq_bind, Option.bind_eq_some_iff] at hp
  obtain ⟨⟨a1, b1, c1⟩, hb, k, hk, hp⟩ := hp
  generalize hev : a.eval x = va at hv
  have hb' : bnds (lo.map a.eval).isSome (hi.map a.eval).isSome (mx.map a.eval).isSome N bs = some (a1, b1, c1) := by simpa [isSome_map'] using hb
  dsimp only at hp
  obtain ⟨hf, hg⟩ := Hp.blk_some hk
  obtain ⟨e1, e2, e3, e4⟩ := bounds_run (P := P) (isSl := false) hbs hb' (Nat.le_refl N)
  rw [isSome_map'] at e1 e4
  cases hv with
  | ptr ad _ _ _ _ h =>
    have hnu : m b ≠ .unborn := fun e => by rw [e] at h; exact h
    rcases sim.blk2 b k (hG _ _ hf) hnu (fun _ e => by rw [e] at h; exact h) with ⟨β, hm, _⟩ | ⟨hvi, _⟩
    case inr => rw [hvi] at h; exact h.elim
    rw [hm] at h
    obtain rfl := h.2 hg.symm
    have hM : b1 ≤ (if mx.isSome then c1 else N) ∧ (if mx.isSome then c1 else N) ≤ N := by
      split
      · rename_i h; have := e4 h; omega
      · omega
    have hmax : (1048576 : Nat) ≤ maxLen := by decide
    have hrun : (execOp a.eval o).run P w = .ok (.value (.slice (some (if (if mx.isSome then c1 else N) = a1 then ⟨β, i * k.sz + off, none⟩ else (⟨β, i * k.sz + off, none⟩ : Addr).add (a1 * 1))) (b1 - a1) ((if mx.isSome then c1 else N) - a1))) w := by
      simp only [execOp, ho, hev, Instr.sliceAt, Instr.sureAddr, Sem.run_bind, run_underlying hu w, Result.andThen_ok, e1, Sem.run_pure, run_sizeOf' hsz w]
    generalize (if mx.isSome then c1 else N) = M at *
    split at hp
    · injection hp with hp
      subst hp
      refine .same sim hrun ?_
      rw [show b1 - a1 = 0 by omega]
      exact .slnil _ _ (by omega)
    · injection hp with hp
      subst hp
      refine .same sim hrun (.cref _ _ _ _ _ _ _ ?_)
      rw [hm]
      refine ⟨h.1, fun _ => ?_⟩
      rw [if_neg (by omega)]
      simp only [add_plain', Nat.mul_one]
      exact ⟨by rw [Nat.add_assoc], by omega, by omega⟩
theorem ok_sliceStr (sim : Sim gl A w0 F m w G) {t : TypeId} {x : Operand} {lo hi : Option Operand} {rs : List RO} (ho : o.op = .slice t x lo hi none) (hu : P.underlying t = some .string)
    (hx : rosOf (x :: (lo.toList ++ (hi.toList ++ (none : Option Operand).toList))) = some rs) (he : ERel F m w a env (readsL rs)) {q : List PV} (hq : evs (RO.ev gl env) rs = some q) (n ext : Nat) (hp : primF H (.sliceStr lo.isSome hi.isSome) q = some p) : NOk P gl A w0 F m w G n a o p ext := by
  have hr := evs_rels sim hx he hq
  simp only [List.map_cons, List.map_append, map_toList] at hr
  unfold primF at hp
  split at hp <;> try contradiction
  rename_i s bs heq1
  injection heq1 with e1 e2
  subst e1 e2
  obtain ⟨hv, hbs⟩ := hr
  simp only [Option.bind_eq_bind, Option.bind_eq_some_iff, Option.some.injEq] at hp
  obtain ⟨⟨a1, b1, c1⟩, hb, rfl⟩ := hp
  generalize hev : a.eval x = va at hv
  have hb' : bnds (lo.map a.eval).isSome (hi.map a.eval).isSome ((none : Option Operand).map a.eval).isSome s.size bs = some (a1, b1, c1) := by simpa [isSome_map'] using hb
  obtain ⟨e1, e2, e3, e4⟩ := bounds_run (P := P) (isSl := false) hbs hb' (Nat.le_refl _)
  cases hv
  refine .same sim (v := .string (s.extract a1 b1)) ?_ (.str _)
  simp only [Option.map_none] at e1
  simp only [execOp, ho, hev, Instr.sliceAt, Instr.slice, Sem.run_bind, run_underlying hu w, Result.andThen_ok, e1, Sem.run_pure, Option.map_none, Option.isSome_none, Bool.false_eq_true, if_false]
theorem ok_sidx (sim : Sim gl A w0 F m w G) {t : TypeId} {x i : Operand} {rs : List RO} (ho : o.op = .index t x i) (hu : P.underlying t = some .string)
    (hx : rosOf [x, i] = some rs) (he : ERel F m w a env (readsL rs)) {q : List PV} (hq : evs (RO.ev gl env) rs = some q) (n ext : Nat) (hp : primF H .sidx q = some p) : NOk P gl A w0 F m w G n a o p ext := by
  have hr := evs_rels sim hx he hq
  simp only [List.map_cons, List.map_nil] at hr
  unfold primF at hp
  split at hp <;> try contradiction
  rename_i s k j heq0
  obtain ⟨hv, hv2, _⟩ := hr
  generalize hev : a.eval x = va at hv
  generalize hev2 : a.eval i = vi at hv2
  cases hv
  cases hv2
  split at hp
  · rename_i h0
    simp only [Option.map_eq_some_iff] at hp
    obtain ⟨b, hb, rfl⟩ := hp
    refine .same sim (v := .int .u8 b.toNat) ?_ (.int _ _)
    simp only [execOp, ho, hev, hev2, Instr.index, asIntOf, Sem.run_bind, Sem.run_pure, run_underlying hu w, Result.andThen_ok, if_pos h0, hb]
  · cases hp
theorem ok_nilCheck (sim : Sim gl A w0 F m w G) {x : Operand} {rs : List RO} (ho : o.op = .nilCheck x)
    (hx : rosOf [x] = some rs) (he : ERel F m w a env (readsL rs)) {q : List PV} (hq : evs (RO.ev gl env) rs = some q) (n ext : Nat) (hp : primF H .nilCheck q = some p) : NOk P gl A w0 F m w G n a o p ext := by
  have hr := evs_rels sim hx he hq
  simp only [List.map_cons, List.map_nil] at hr
  unfold primF at hp
  split at hp <;> try contradiction
  all_goals
    obtain ⟨hv, _⟩ := hr
    injection hp with hp
    subst hp
    generalize hev : a.eval x = va at hv
    refine .same sim (v := va) ?_ hv
    cases hv
    simp only [execOp, ho, hev, Sem.run_bind, Sem.run_pure, Result.andThen_ok]
theorem bytes_map : ∀ {l : List PV} {ns : List Int}, bytesOf l = some ns → l = ns.map (PV.int .u8)
  | [], ns, h => by
    injection h with h
    subst h
    rfl
  | x :: r, ns, h => by
    unfold bytesOf at h
    split at h
    · rename_i h0; cases h0
    · rename_i n r' h0
      injection h0 with e1 e2
      subst e1 e2
      rw [Option.map_eq_some_iff] at h
      obtain ⟨q, hq, rfl⟩ := h
      rw [List.map_cons, ← bytes_map hq]
    · cases h
theorem ok_tostr (sim : Sim gl A w0 F m w G) (hG : ∀ b k, H.f b = some k → G.f b = some k) {s d e : TypeId} {x : Operand} {rs : List RO} (ho : o.op = .convert s d x) (hs : P.underlying s = some (.slice e)) (hd : P.underlying d = some .string) (hu : P.underlying e = some (.int .u8))
    (hx : rosOf [x] = some rs) (he : ERel F m w a env (readsL rs)) {q : List PV} (hq : evs (RO.ev gl env) rs = some q) (n ext : Nat) (hp : primF H .tostr q = some p) : NOk P gl A w0 F m w G n a o p ext := by
  have hr := evs_rels sim hx he hq
  simp only [List.map_cons, List.map_nil] at hr
  unfold primF at hp
  split at hp <;> try contradiction
  rename_i x0 heq
  obtain ⟨hv, _⟩ := hr
  simp only [Option.bind_eq_bind, Option.bind_eq_some_iff, Option.some.injEq] at hp
  obtain ⟨l, hl, ns, hns, rfl⟩ := hp
  obtain rfl := bytes_map hns
  obtain ⟨news, ⟨⟨Ax, cx, hvx, hcx⟩, hnr⟩⟩ := elems_shows (s := 1) sim hG hv hl (fun y hy => by obtain ⟨n, _, rfl⟩ := List.mem_map.1 hy; rfl)
  have hfl : flat (ns.map (PV.int .u8)) = ns.map (PV.int .u8) := by
    clear hl hvx hcx hnr hns
    induction ns with
    | nil => rfl
    | cons n ns ih =>
      show PV.cells (.int .u8 n) ++ flat (ns.map (PV.int .u8)) = _
      rw [ih]; rfl
  rw [hfl] at hnr
  have hnews : news = ns.map (Value.int .u8) := by
    refine List.ext_getElem (by simpa using hnr.1) fun i h1 h2 => ?_
    have h2' : i < ns.length := by simpa using h2
    have := hnr.2 i (by simpa using h1) (by simpa using h2')
    simp only [List.getElem_map, List.getElem_toArray] at this ⊢
    generalize news[i] = nv at this ⊢
    generalize ns[i] = ni at this ⊢
    cases this
    rfl
  subst hnews
  refine .same sim (v := .string (strOf ns)) ?_ (.str _)
  simp only [execOp, ho, hvx, Sem.run_bind, run_convert_bytes_string w s d e Ax _ cx hs hu hd]
  rcases hcx with hcx | ⟨ad, rfl, hnew⟩
  · have e0 : ns = [] := by simpa using hcx
    subst e0
    cases Ax with
    | none => simp [Conv.bytesToString, Sem.run_pure, Result.andThen_ok, strOf]
    | some ad =>
      rw [run_bytesToString (P := P) w ad _ cx [] (by
        have := run_loadCells_list (P := P) (w := w) ad [] (fun j v hj => by simp at hj)
        simpa using this)]
      simp [Sem.run_pure, Result.andThen_ok, strOf]
  · rw [run_bytesToString (P := P) w ad _ cx ns (by
      have := run_loadCells_list (P := P) (w := w) ad (ns.map (Value.int .u8)) (fun j v hj => hnew j v hj)
      simpa using this)]
    simp [Sem.run_pure, Result.andThen_ok, strOf]
theorem run_eql_ptr_row {tp te : TypeId} {j : TypeInfo} (w : World) (β x y : Nat) (hp : P.underlying tp = some (.pointer te)) (hte : P.info? te = some j) (hz : j.size = 0 → x = y) :
    (Op.equal tp (.pointer (some ⟨β, x, none⟩)) (.pointer (some ⟨β, y, none⟩))).run P w = .ok (x == y) w := by
  have h : ∀ d : Nat, (Op.equalIn (d + 1) tp (.pointer (some ⟨β, x, none⟩)) (.pointer (some ⟨β, y, none⟩))).run P w = .ok (x == y) w := fun d => by
    by_cases hj : j.size = 0
    · obtain rfl := hz hj
      simp [Op.equalIn, run_underlying hp, sizeOf, typeInfo, hte, hj]
    · by_cases hxy : x = y
      · subst hxy
        simp [Op.equalIn, run_underlying hp, sizeOf, typeInfo, hte, hj, sameAddr]
      · have hne : (⟨β, x, none⟩ : Addr) ≠ ⟨β, y, none⟩ := fun h => by injection h with _ h2; exact hxy h2
        have e1 : (x == y) = false := by simpa using hxy
        have e2 : ((⟨β, x, none⟩ : Addr) == ⟨β, y, none⟩) = false := by simpa using hne
        rw [e1]
        simp [Op.equalIn, run_underlying hp, sizeOf, typeInfo, hte, hj, sameAddr, e2]
  simp [Op.equal, Op.maxDepth, h 9999]
theorem ok_ptreq (sim : Sim gl A w0 F m w G) (hG : ∀ b k, H.f b = some k → G.f b = some k) {ne : Bool} {t yt e : TypeId} {j : TypeInfo} {x y : Operand} {rs : List RO} (ho : o.op = .binOp (if ne then .neq else .eql) t x y yt) (hu : P.underlying t = some (.pointer e)) (hi : P.info? e = some j) (hj : j.size ≠ 0)
    (hx : rosOf [x, y] = some rs) (he : ERel F m w a env (readsL rs)) {q : List PV} (hq : evs (RO.ev gl env) rs = some q) (n ext : Nat) (hp : primF H (.ptreq ne) q = some p) : NOk P gl A w0 F m w G n a o p ext := by
  have hr := evs_rels sim hx he hq
  simp only [List.map_cons, List.map_nil] at hr
  unfold primF at hp
  split at hp <;> try contradiction
  rename_i ne' b g i o' c h i' q' heq0
  injection heq0 with heq0
  subst heq0
  obtain ⟨hv, hv2, _⟩ := hr
  simp only [Option.bind_eq_bind, Option.bind_eq_some_iff] at hp
  obtain ⟨k, hk, hp⟩ := hp
  split at hp
  · rename_i hc
    obtain ⟨rfl, rfl, rfl⟩ := hc
    injection hp with hp
    subst hp
    obtain ⟨hf, hg⟩ := Hp.blk_some hk
    obtain ⟨β, hm, _, e1⟩ := ptr_at sim hv (hG _ _ hf) hg
    obtain ⟨β', hm', _, e2⟩ := ptr_at sim hv2 (hG _ _ hf) hg
    rw [hm] at hm'
    injection hm' with hm'
    subst hm'
    have hb : (i * k.sz + o' == i * k.sz + q') = (o' == q') := by
      by_cases h : o' = q'
      · subst h; simp
      · have : ¬ i * k.sz + o' = i * k.sz + q' := by omega
        rw [show (o' == q') = false by simpa using h, show (i * k.sz + o' == i * k.sz + q') = false by simpa using this]
    have hrun := run_eql_ptr_row (P := P) w β (i * k.sz + o') (i * k.sz + q') hu hi (fun h => absurd h hj)
    rw [hb] at hrun
    cases ne with
    | false => exact .same sim (v := .bool (o' == q')) (by simp only [execOp, ho, e1, e2, Bool.false_eq_true, if_false, eqGuard, binOp, Sem.run_bind, Sem.run_pure, Result.andThen_ok, hrun]; simp [Sem.run_pure, Result.andThen_ok, hrun]) (.bool _)
    | true => exact .same sim (v := .bool (!(o' == q'))) (by simp only [execOp, ho, e1, e2, if_true, eqGuard, binOp, Sem.run_bind, Sem.run_pure, Result.andThen_ok, hrun]; simp [Sem.run_pure, Result.andThen_ok, hrun]) (.bool _)
  · cases hp
theorem ok_compl (sim : Sim gl A w0 F m w G) {t : TypeId} {x : Operand} {rs : List RO} (ho : o.op = .unOp .xor t x)
    (hx : rosOf [x] = some rs) (he : ERel F m w a env (readsL rs)) {q : List PV} (hq : evs (RO.ev gl env) rs = some q) (n ext : Nat) (hp : primF H .compl q = some p) : NOk P gl A w0 F m w G n a o p ext := by
  have hr := evs_rels sim hx he hq
  simp only [List.map_cons, List.map_nil] at hr
  unfold primF at hp
  split at hp <;> try contradiction
  rename_i k j heq0
  obtain ⟨hv, _⟩ := hr
  simp only [Option.map_eq_some_iff] at hp
  obtain ⟨r, hr, rfl⟩ := hp
  generalize hev : a.eval x = va at hv
  cases hv
  refine .same sim (v := .int k r) ?_ (.int _ _)
  simp only [bitsI, Option.some.injEq] at hr
  subst hr
  simp [execOp, ho, hev, Op.unary, Op.intBits]
theorem Sim.cells (sim : Sim gl A w0 F m w H) {b β : Nat} {k : Blk} {cs : Array Value} {T : TypeId} {xs' zs : List PV} {vs : List Value} {o : Nat} (hf : H.f b = some k) (hm : m b = .live β k.sz k.g) (h1 : w.heap[β]? = some (.cells cs T (0, 0)))
    (h2 : k.xs.length * k.sz ≤ cs.size) (h3 : ∀ x ∈ k.xs, x.cells.length = k.sz) (h4 : ∀ i (hi : i < k.xs.length) j (hj : j < (k.xs[i]).cells.length), ∃ v, cs[i * k.sz + j]? = some v ∧ VRel F w m v (k.xs[i]).cells[j])
    (hl : xs'.length = k.xs.length) (hz : ∀ x ∈ xs', x.cells.length = k.sz) (hv : CsRel F m w vs.toArray zs) (hfit : o + zs.length ≤ k.xs.length * k.sz) (hfl : ∀ j, (flat xs')[j]? = if o ≤ j ∧ j < o + zs.length then zs[j - o]? else (flat k.xs)[j]?) :
    Sim gl A w0 F m (w.setRow β (cs.toList.take o ++ vs ++ cs.toList.drop (o + vs.length)).toArray) (H.set b ⟨k.g, k.sz, xs'⟩) ∧ Ev F m w F m (w.setRow β (cs.toList.take o ++ vs ++ cs.toList.drop (o + vs.length)).toArray) := by
  have hvl : vs.length = zs.length := by simpa using hv.1
  have hfit2 : o + vs.length ≤ cs.size := by omega
  obtain ⟨s, ev⟩ := sim.write (g' := k.g) (xs' := xs') hf hm h1 (rowWrite_size cs vs o hfit2) (Nat.le_refl _) (by rw [rowWrite_size cs vs o hfit2, hl]; exact h2) hz (by
    refine blk_of_flat' hz (by rw [rowWrite_size cs vs o hfit2, hl]; exact h2) (fun j q hq => ?_)
    rw [hfl] at hq
    rw [rowWrite_get cs vs o hfit2]
    by_cases hin : o ≤ j ∧ j < o + zs.length
    · rw [if_pos hin] at hq
      rw [if_pos (by omega)]
      obtain ⟨v, hv1, hv2⟩ := hv.get hq
      exact ⟨v, by simpa using hv1, hv2⟩
    · rw [if_neg hin] at hq
      rw [if_neg (by omega)]
      have hj : j < k.xs.length * k.sz := by
        obtain ⟨hj, _⟩ := List.getElem?_eq_some_iff.1 hq
        rw [flat_length h3] at hj
        exact hj
      have hpos : 0 < k.sz := by
        rcases Nat.eq_zero_or_pos k.sz with h0 | h0
        · rw [h0] at hj; omega
        · exact h0
      have hi : j / k.sz < k.xs.length := by rw [Nat.div_lt_iff_lt_mul hpos]; exact hj
      have hr : j % k.sz < k.sz := Nat.mod_lt _ hpos
      have hdm : j / k.sz * k.sz + j % k.sz = j := by rw [Nat.mul_comm]; exact Nat.div_add_mod j k.sz
      have hg := flat_get h3 (j / k.sz) hi (j % k.sz) hr
      rw [hdm, hq] at hg
      obtain ⟨hc, hc2⟩ := List.getElem?_eq_some_iff.1 hg.symm
      obtain ⟨v, hv1, hv2⟩ := h4 _ hi _ hc
      exact ⟨v, by rw [← hdm]; exact hv1, by rw [← hc2]; exact hv2⟩)
  rw [mput_same hm] at s ev
  exact ⟨s, ev⟩
theorem ok_clear (sim : Sim gl A w0 F m w H) (hub : ∀ b, H.n ≤ b → m b = .unborn) {c : Call} {t e : TypeId} {x : Operand} {rs : List RO} {sz : Nat} {z : PV} {r : Option PV} {H' : Hp} (ho : o.op = .call c) (hcal : c.callee = .builtin .clear) (hargs : c.args.toList = [x])
    (hts : c.argTypes.toList = [t]) (hu : P.underlying t = some (.slice e)) (hsz : szOf P e = some sz) (hz : zeroOf P e = some z) (hx : rosOf [x] = some rs) (he : ERel F m w a env (readsL rs)) {q : List PV} (hq : evs (RO.ev gl env) rs = some q)
    (hp : eprimF H (.clear sz z) q = some (r, H')) : EOk P gl A w0 F m w a o r H' := by
  have hr := evs_rels sim hx he hq
  simp only [List.map_cons, List.map_nil] at hr
  unfold eprimF at hp
  split at hp <;> try contradiction
  rename_i sz' z' x0 heq
  injection heq with e1 e2
  subst e1 e2
  obtain ⟨hv, _⟩ := hr
  generalize hev : a.eval x = va at hv
  split at hp <;> try contradiction
  rename_i hzl
  obtain ⟨zv, hzr, hzv⟩ := run_zeroValue' hz w
  have hrunE : ∀ A' cc, va = .slice A' 0 cc → (execOp a.eval o).run P w = .ok (.value (.tuple #[])) w := by
    intro A' cc hva
    have a1 : c.args.map a.eval = #[a.eval x] := Array.toList_inj.1 (by simp [hargs])
    have a2 : c.argTypes = #[t] := Array.toList_inj.1 (by simp [hts])
    simp only [execOp, ho, resolve, hcal, Sem.run_bind, Sem.run_pure, Result.andThen_ok, invoke, builtin, a1, a2, hev, hva]
    cases A' <;> simp [Builtin.clear_, run_underlying hu]
  have hrun : ∀ β i n cc cs T, va = .slice (some ⟨β, i, none⟩) n cc → 0 < n → w.heap[β]? = some (.cells cs T (0, 0)) → i + (Builtin.zeroCells zv.cells n).toList.length ≤ cs.size → (∀ u ∈ (Builtin.zeroCells zv.cells n).toList, u.oneCell' = true) →
      (execOp a.eval o).run P w = .ok (.value (.tuple #[])) (w.setRow β (cs.toList.take i ++ (Builtin.zeroCells zv.cells n).toList ++ cs.toList.drop (i + (Builtin.zeroCells zv.cells n).toList.length)).toArray) := by
    intro β i n cc cs T hva hn hc hfit hone
    have a1 : c.args.map a.eval = #[a.eval x] := Array.toList_inj.1 (by simp [hargs])
    have a2 : c.argTypes = #[t] := Array.toList_inj.1 (by simp [hts])
    have hst := run_storeCells_at P β i T (Builtin.zeroCells zv.cells n).toList 0 cs w hc (by omega) hone
    obtain ⟨n', rfl⟩ : ∃ n', n = n' + 1 := ⟨n - 1, by omega⟩
    simp only [Nat.add_zero] at hst
    simp only [execOp, ho, resolve, hcal, Sem.run_bind, Sem.run_pure, Result.andThen_ok, invoke, builtin, a1, a2, hev, hva]
    simp [Builtin.clear_, run_underlying hu, hzr, hst]
  have hzs : zv.cells.size = z.cells.length := (ofZero_rel (F := F) (m := m) (w := w) hzv).size.1
  have hrel : ∀ n, CsRel F m w (Builtin.zeroCells zv.cells n) (flat (List.replicate n z)) := fun n => by
    have := made_rel (n := n) (s := z.cells.length) (ofZero_rel (F := F) (m := m) (w := w) hzv) rfl
    rw [← hzs] at this
    exact this
  have fl : ∀ n, (flat (List.replicate n z)).length = n * sz := fun n => by rw [flat_length (s := sz) (by intro e he; rw [List.eq_of_mem_replicate he]; exact hzl.1)]; simp
  have ones : ∀ n, ∀ u ∈ (Builtin.zeroCells zv.cells n).toList, u.oneCell' = true := by
    intro n
    refine one_of_rel (by simpa using hrel n) (flat_ones fun y hy => ?_)
    rw [List.eq_of_mem_replicate hy]
    exact hzl.2
  have zl : ∀ n, (Builtin.zeroCells zv.cells n).toList.length = n * sz := fun n => by rw [← fl n, ← (hrel n).1]; simp
  split at hp
  · simp only [Option.some.injEq, Prod.mk.injEq] at hp
    obtain ⟨rfl, rfl⟩ := hp
    have fin : (execOp a.eval o).run P w = .ok (.value (.tuple #[])) w := by
      cases hv with
      | slnil A' cc hc => exact hrunE _ _ rfl
      | sl ad cc s' l cs hF hc hm hz' hcell h => exact hrunE _ _ rfl
    refine ⟨_, _, F, m, .inl fin, sim, Ev.refl sim.fnl sim.liv, ?_, hub⟩
    intro p hp
    injection hp with hp
    subst hp
    exact .tup _ _ rfl (fun i h1 => absurd h1 (by simp))
  · rename_i b g i off len
    simp only [Option.bind_eq_bind, Option.bind_eq_some_iff] at hp
    obtain ⟨k, hk, el, hel, hp⟩ := hp
    obtain ⟨hf, hg⟩ := Hp.blk_some hk
    obtain ⟨hi, rfl⟩ := List.getElem?_eq_some_iff.1 hel
    split at hp <;> try contradiction
    rename_i hc
    simp only [Option.some.injEq, Prod.mk.injEq] at hp
    obtain ⟨rfl, rfl⟩ := hp
    obtain ⟨hs1, hlen, hfit⟩ := hc
    subst hs1
    cases hv with
    | cref A' cc _ _ _ _ _ h =>
      have hnu : m b ≠ .unborn := fun e => by rw [e] at h; exact h
      rcases sim.blk2 b k hf hnu (fun _ e => by rw [e] at h; exact h) with ⟨β, hm, ⟨cs, T, h1, h2, h3, h4⟩⟩ | ⟨hvi, _⟩
      case inr => rw [hvi] at h; exact h.elim
      rw [hm] at h
      obtain ⟨rfl, hlc, hcm⟩ := h.2 hg.symm
      have hlo : i * k.sz + k.sz ≤ k.xs.length * k.sz := by
        have : (i + 1) * k.sz ≤ k.xs.length * k.sz := Nat.mul_le_mul_right _ hi
        rwa [Nat.add_mul, Nat.one_mul] at this
      have hel2 := h3 _ (List.getElem_mem hi)
      have flz := fl len
      rw [Nat.mul_one] at flz
      have hfit2 : off + (flat (List.replicate len z)).length ≤ (k.xs[i]).cells.length := by rw [flz]; exact hfit
      have hsl : (splice (k.xs[i]).cells off (flat (List.replicate len z))).length = k.sz := by rw [splice_length hfit2, hel2]
      have hz' : ∀ x ∈ k.xs.set i (.agg (splice (k.xs[i]).cells off (flat (List.replicate len z)))), x.cells.length = k.sz := by
        intro y hy
        rcases List.mem_or_eq_of_mem_set hy with hy | rfl
        · exact h3 _ hy
        · exact hsl
      have zl' := zl len
      rw [Nat.mul_one] at zl'
      obtain ⟨s, ev⟩ := sim.cells (o := i * k.sz + off) (vs := (Builtin.zeroCells zv.cells len).toList) (zs := flat (List.replicate len z)) hf hm h1 h2 h3 h4 (xs' := k.xs.set i (.agg (splice (k.xs[i]).cells off (flat (List.replicate len z))))) (by simp) hz'
        (by simpa using hrel len) (by rw [flz]; omega) (fun j => by
          rw [flat_set i (.agg (splice (k.xs[i]).cells off (flat (List.replicate len z)))) h3 hi hsl, splice_get (by rw [flat_length h3]; show i * k.sz + (splice _ _ _).length ≤ _; rw [hsl]; exact hlo)]
          show (if i * k.sz ≤ j ∧ j < i * k.sz + (splice (k.xs[i]).cells off (flat (List.replicate len z))).length then (splice (k.xs[i]).cells off (flat (List.replicate len z)))[j - i * k.sz]? else (flat k.xs)[j]?) = _
          rw [hsl, splice_get hfit2, flz]
          by_cases hin : i * k.sz ≤ j ∧ j < i * k.sz + k.sz
          · rw [if_pos hin]
            by_cases hin2 : off ≤ j - i * k.sz ∧ j - i * k.sz < off + len
            · rw [if_pos hin2, if_pos (by omega)]
              congr 1
              omega
            · rw [if_neg hin2, if_neg (by omega)]
              have := flat_get h3 i hi (j - i * k.sz) (by omega)
              rw [show i * k.sz + (j - i * k.sz) = j by omega] at this
              exact this.symm
          · rw [if_neg hin, if_neg (by omega)])
      refine ⟨_, _, F, m, .inl (hrun β _ len cc cs T rfl hlen h1 (by rw [zl']; omega) (ones len)), hg ▸ s, ev, ?_, hub⟩
      intro p hp
      injection hp with hp
      subst hp
      exact .tup _ _ rfl (fun i h1 => absurd h1 (by simp))
  · rename_i b g off len
    simp only [Option.bind_eq_bind, Option.bind_eq_some_iff] at hp
    obtain ⟨k, hk, hp⟩ := hp
    obtain ⟨hf, hg⟩ := Hp.blk_some hk
    split at hp <;> try contradiction
    rename_i hc
    simp only [Option.some.injEq, Prod.mk.injEq] at hp
    obtain ⟨rfl, rfl⟩ := hp
    obtain ⟨hs1, hlen, hfit⟩ := hc
    subst hs1
    cases hv with
    | ref A' cc _ _ _ _ h =>
      have hnu : m b ≠ .unborn := fun e => by rw [e] at h; exact h
      rcases sim.blk2 b k hf hnu (fun _ e => by rw [e] at h; exact h) with ⟨β, hm, ⟨cs, T, h1, h2, h3, h4⟩⟩ | ⟨hvi, _⟩
      case inr =>
        rw [hvi] at h
        have := (h.2 hg.symm).1
        omega
      rw [hm] at h
      obtain ⟨rfl, hlc, hcm, hcap⟩ := h.2 hg.symm
      have hrl : ∀ e ∈ List.replicate len z, e.cells.length = k.sz := fun e he => by rw [List.eq_of_mem_replicate he]; exact hzl.1
      have hfit2 : off + (List.replicate len z).length ≤ k.xs.length := by simpa using hfit
      have hsp : (off + len) * k.sz ≤ k.xs.length * k.sz := Nat.mul_le_mul_right _ hfit
      rw [Nat.add_mul] at hsp
      have hz' : ∀ x ∈ splice k.xs off (List.replicate len z), x.cells.length = k.sz := by
        intro y hy
        unfold splice at hy
        simp only [List.mem_append] at hy
        rcases hy with (hy | hy) | hy
        · exact h3 y (List.mem_of_mem_take hy)
        · exact hrl y hy
        · exact h3 y (List.mem_of_mem_drop hy)
      obtain ⟨s, ev⟩ := sim.cells (o := off * k.sz) (vs := (Builtin.zeroCells zv.cells len).toList) (zs := flat (List.replicate len z)) hf hm h1 h2 h3 h4 (xs' := splice k.xs off (List.replicate len z)) (splice_length hfit2) hz'
        (by simpa using hrel len) (by rw [fl]; omega) (fun j => by
          rw [flat_splice h3 hrl hfit2, splice_get (by rw [flat_length h3, fl]; omega)])
      refine ⟨_, _, F, m, .inl (hrun β _ len cc cs T rfl hlen h1 (by rw [zl]; omega) (ones len)), hg ▸ s, ev, ?_, hub⟩
      intro p hp
      injection hp with hp
      subst hp
      exact .tup _ _ rfl (fun i h1 => absurd h1 (by simp))
  · cases hp
end
end Go.Vm
namespace Go.Vm
open Go Go.RowKit
section
variable {P : Program} {gl : Nat → Option PV} {A : Nat → Prop} {w0 : World} {F : Nat → Prop} {m : Nat → Slot} {w : World} {G H : Hp} {a : Act} {env : Env} {o : Oper} {p : PV} {own : Bool}
def EntsOk (es : List MapEntry) (xs : List PV) : Prop := es.length = xs.length ∧ ∀ i (h1 : i < es.length) (h2 : i < xs.length), ∃ (n : Int) (b : Bool), (es[i]).key = .int .i64 n ∧ (es[i]).val = .bool b ∧ xs[i] = .agg [.int .i64 n, .bool b]
theorem EntsOk.cons {e : MapEntry} {es : List MapEntry} {x : PV} {xs : List PV} (h : EntsOk (e :: es) (x :: xs)) : (∃ (n : Int) (b : Bool), e.key = .int .i64 n ∧ e.val = .bool b ∧ x = .agg [.int .i64 n, .bool b]) ∧ EntsOk es xs :=
  ⟨h.2 0 (by simp) (by simp), by have := h.1; simpa using this, fun i h1 h2 => h.2 (i + 1) (by simpa using h1) (by simpa using h2)⟩
theorem EntsOk.mk {e : MapEntry} {es : List MapEntry} {x : PV} {xs : List PV} (h1 : ∃ (n : Int) (b : Bool), e.key = .int .i64 n ∧ e.val = .bool b ∧ x = .agg [.int .i64 n, .bool b]) (h2 : EntsOk es xs) : EntsOk (e :: es) (x :: xs) := by
  refine ⟨by simp [h2.1], fun i q1 q2 => ?_⟩
  cases i with
  | zero => exact h1
  | succ i => exact h2.2 i (by simpa using q1) (by simpa using q2)
theorem mapOk_ents {w : World} {β : Nat} {xs : List PV} (h : MapOk w β xs) : ∃ (es : Array MapEntry) (c : Nat), w.heap[β]? = some (.map es c) ∧ EntsOk es.toList xs := by
  obtain ⟨es, c, h1, h2, h3⟩ := h
  exact ⟨es, c, h1, by simpa using h2, fun i q1 q2 => by simpa using h3 i (by simpa using q1) q2⟩
theorem mapOk_of {w : World} {β : Nat} {xs : List PV} {es : Array MapEntry} {c : Nat} (h1 : w.heap[β]? = some (.map es c)) (h2 : EntsOk es.toList xs) : MapOk w β xs :=
  ⟨es, c, h1, by simpa using h2.1, fun i q1 q2 => by have := h2.2 i (by simpa using q1) q2; simpa using this⟩
theorem EntsOk.all {es : List MapEntry} {xs : List PV} (h : EntsOk es xs) : ∀ x ∈ xs, ∃ (k : Int) (b : Bool), x = .agg [.int .i64 k, .bool b] := by
  intro x hx
  obtain ⟨i, hi, rfl⟩ := List.mem_iff_getElem.1 hx
  obtain ⟨n, b, _, _, h3⟩ := h.2 i (by rw [h.1]; exact hi) hi
  exact ⟨n, b, h3⟩
def keyAt (n : Int) : List PV → Nat → Option (Nat × Bool)
  | [], _ => none
  | .agg [.int .i64 a, .bool b] :: r, i => if n = a then some (i, b) else keyAt n r (i + 1)
  | _ :: r, i => keyAt n r (i + 1)
theorem findNow_ents {n : Int} : ∀ {es : List MapEntry} {xs : List PV} {i : Nat}, EntsOk es xs → Instr.findNow (.int .i64) (.int .i64 n) es i = some ((keyAt n xs i).map fun q => (q.1, .bool q.2))
  | [], [], i, _ => rfl
  | [], x :: xs, i, h => by have := h.1; simp at this
  | e :: es, [], i, h => by have := h.1; simp at this
  | e :: es, x :: xs, i, h => by
    obtain ⟨⟨k, b, h1, h2, rfl⟩, h3⟩ := h.cons
    simp only [Instr.findNow, h1, h2, Instr.sameNow, if_true, keyAt]
    by_cases hk : n = k
    · subst hk; simp
    · rw [if_neg hk, show (n == k) = false by simpa using hk]
      exact findNow_ents h3
theorem look_keyAt (n : Int) : ∀ (xs : List PV) (i : Nat), (∀ x ∈ xs, ∃ (k : Int) (b : Bool), x = .agg [.int .i64 k, .bool b]) → mapLook xs n = ((keyAt n xs i).map (·.2)).getD false
  | [], i, _ => rfl
  | x :: r, i, h => by
    obtain ⟨k, b, rfl⟩ := h x (by simp)
    simp only [mapLook, keyAt]
    by_cases hk : n = k
    · subst hk; simp
    · rw [if_neg (fun e => hk e.symm), if_neg hk]
      exact look_keyAt n r (i + 1) fun x hx => h x (by simp [hx])
theorem put_keyAt {n : Int} {v : Bool} : ∀ {es : List MapEntry} {xs : List PV} {c : Nat}, EntsOk es xs →
    (∀ i b, keyAt n xs 0 = some (i, b) → EntsOk (es.modify i fun e => { e with key := .int .i64 n, val := .bool v }) (mapPut xs n v)) ∧ (keyAt n xs 0 = none → EntsOk (es ++ [{ key := .int .i64 n, val := .bool v, born := c }]) (mapPut xs n v)) := by
  have shift : ∀ (xs : List PV) (i : Nat), (∀ x ∈ xs, ∃ (k : Int) (b : Bool), x = .agg [.int .i64 k, .bool b]) → keyAt n xs (i + 1) = (keyAt n xs i).map fun q => (q.1 + 1, q.2) := by
    intro xs
    induction xs with
    | nil => intro i _; rfl
    | cons x r ih =>
      intro i hall
      obtain ⟨k, b, rfl⟩ := hall x (by simp)
      simp only [keyAt]
      by_cases hk : n = k
      · rw [if_pos hk, if_pos hk]; rfl
      · rw [if_neg hk, if_neg hk]; exact ih (i + 1) fun x hx => hall x (by simp [hx])
  intro es xs c h
  induction es generalizing xs with
  | nil =>
    cases xs with
    | nil =>
      refine ⟨fun i b hk => by simp [keyAt] at hk, fun _ => ?_⟩
      exact .mk ⟨n, v, rfl, rfl, rfl⟩ h
    | cons x xs => have := h.1; simp at this
  | cons e es ih =>
    cases xs with
    | nil => have := h.1; simp at this
    | cons x xs =>
      obtain ⟨⟨k, b0, h1, h2, rfl⟩, h3⟩ := h.cons
      obtain ⟨i1, i2⟩ := ih h3
      simp only [keyAt, mapPut]
      by_cases hk : n = k
      · subst hk
        rw [if_pos rfl, if_pos rfl]
        refine ⟨fun i b hi => ?_, fun hi => by cases hi⟩
        injection hi with hi
        injection hi with hi1 hi2
        subst hi1
        exact .mk ⟨n, v, rfl, rfl, rfl⟩ h3
      · rw [if_neg hk, if_neg (fun e => hk e.symm), shift _ _ h3.all]
        refine ⟨fun i b hi => ?_, fun hi => ?_⟩
        · rw [Option.map_eq_some_iff] at hi
          obtain ⟨⟨j, b1⟩, hj, he⟩ := hi
          injection he with he1 he2
          subst he1
          exact .mk ⟨k, b0, h1, h2, rfl⟩ (i1 j b1 hj)
        · rw [Option.map_eq_none_iff] at hi
          exact .mk ⟨k, b0, h1, h2, rfl⟩ (i2 hi)
theorem checkKey_intN {t : TypeId} {k : IntKind} (ht : P.underlying t = some (.int k)) (b : Bool) (n : Int) (N : Nat) : (Instr.checkKey b (N + 1) t (.int .i64 n)).run P w = .ok () w := by
  unfold Instr.checkKey
  simp only [Sem.run_bind, run_underlying ht, Result.andThen_ok, Sem.run_pure]
theorem checkKey_int {t : TypeId} {k : IntKind} (ht : P.underlying t = some (.int k)) (b : Bool) (n : Int) : (Instr.checkKey b 10000 t (.int .i64 n)).run P w = .ok () w := checkKey_intN ht b n 9999
theorem run_lookup_ib {t K E : TypeId} (ht : P.underlying t = some (.map K E)) (hK : P.underlying K = some (.int .i64)) (hE : zeroOf P E = some (.bool false)) {β : Nat} {xs : List PV} (h : MapOk w β xs) (n : Int) :
    (Instr.lookup t (.map (some β)) (.int .i64 n) false).run P w = .ok (.bool (mapLook xs n)) w := by
  obtain ⟨es, c, h1, h2⟩ := mapOk_ents h
  obtain ⟨zv, hz, hrel⟩ := run_zeroValue' hE w
  have hzv := ofZero_rel (F := fun _ => True) (m := noM) (w := w) hrel
  generalize zv = z at hzv hz
  cases hzv
  have hg : (getObj β).run P w = .ok (.map es c) w := by simp [getObj, Sem.run, h1]
  rw [look_keyAt n xs 0 h2.all]
  simp only [Instr.lookup, run_underlying ht, Sem.run_bind, Sem.run_pure, Result.andThen_ok, hg, checkKey_int hK, Instr.findKey, run_underlying hK, findNow_ents h2]
  cases keyAt n xs 0 with
  | none => simp [hz]
  | some q => simp
theorem run_lookup_nil {t K E : TypeId} (ht : P.underlying t = some (.map K E)) (hK : P.underlying K = some (.int .i64)) (hE : zeroOf P E = some (.bool false)) (n : Int) :
    (Instr.lookup t (.map none) (.int .i64 n) false).run P w = .ok (.bool false) w := by
  obtain ⟨zv, hz, hrel⟩ := run_zeroValue' hE w
  have hzv := ofZero_rel (F := fun _ => True) (m := noM) (w := w) hrel
  generalize zv = z at hzv hz
  cases hzv
  simp [Instr.lookup, run_underlying ht, checkKey_int hK, Instr.findKey, run_underlying hK, Instr.findNow, hz]
theorem sameBits_int (n : Int) : Instr.sameBits 10000 (.int .i64 n) (.int .i64 n) = true := by simp [Instr.sameBits]
theorem keyAt_lt {n : Int} : ∀ {xs : List PV} {i j : Nat} {b : Bool}, keyAt n xs i = some (j, b) → i ≤ j ∧ ∃ x, xs[j - i]? = some x ∧ x = .agg [.int .i64 n, .bool b]
  | [], i, j, b, h => by simp [keyAt] at h
  | x :: r, i, j, b, h => by
    have next : keyAt n r (i + 1) = some (j, b) → i ≤ j ∧ ∃ y, (x :: r)[j - i]? = some y ∧ y = .agg [.int .i64 n, .bool b] := by
      intro h
      obtain ⟨h1, y, h2, h3⟩ := keyAt_lt h
      refine ⟨by omega, y, ?_, h3⟩
      rw [show j - i = (j - (i + 1)) + 1 by omega]
      exact h2
    unfold keyAt at h
    split at h
    · cases h
    · rename_i a b' r' _ he
      injection he with e1 e2
      subst e1 e2
      split at h
      · rename_i hn
        injection h with h
        injection h with h1 h2
        subst h1 h2 hn
        exact ⟨Nat.le_refl _, _, by simp, rfl⟩
      · exact next h
    · rename_i he
      injection he with e1 e2
      subst e2
      exact next h
theorem run_mapUpdate_ib {t K E : TypeId} (ht : P.underlying t = some (.map K E)) (hK : P.underlying K = some (.int .i64)) {β : Nat} {xs : List PV} (h : MapOk w β xs) (n : Int) (v : Bool) :
    ∃ (es' : Array MapEntry) (c' : Nat), (Instr.mapUpdate t (.map (some β)) (.int .i64 n) (.bool v)).run P w = .ok () { w with heap := w.heap.setIfInBounds β (.map es' c') } ∧ EntsOk es'.toList (mapPut xs n v) := by
  obtain ⟨es, c, h1, h2⟩ := mapOk_ents h
  have hg : (getObj β).run P w = .ok (.map es c) w := by simp [getObj, Sem.run, h1]
  have hs : ∀ o : Obj, (setObj β o).run P w = .ok () { w with heap := w.heap.setIfInBounds β o } := fun o => by simp [setObj, Sem.run, h1]
  obtain ⟨p1, p2⟩ := put_keyAt (n := n) (v := v) (c := c) h2
  simp only [Instr.mapUpdate, run_underlying ht, Sem.run_bind, Sem.run_pure, Result.andThen_ok, hg, checkKey_int hK, Instr.findKey, run_underlying hK, findNow_ents h2]
  cases hk : keyAt n xs 0 with
  | none =>
    simp only [Option.map_none, hs]
    exact ⟨_, _, rfl, by simpa using p2 hk⟩
  | some q =>
    obtain ⟨i, b⟩ := q
    simp only [Option.map_some]
    obtain ⟨_, x, hx, rfl⟩ := keyAt_lt hk
    obtain ⟨hi, hx⟩ := List.getElem?_eq_some_iff.1 hx
    have hi' : i < es.toList.length := by rw [h2.1]; simpa using hi
    obtain ⟨k0, b0, e1, _, e3⟩ := h2.2 i hi' (by simpa using hi)
    have hkey : ((es[i]?).map (·.key)).getD (.int .i64 n) = .int .i64 n := by
      have hi2 : i < es.size := by simpa using hi'
      rw [Array.getElem?_eq_getElem hi2]
      simp only [Nat.sub_zero] at hx
      rw [hx] at e3
      simp only [PV.agg.injEq, List.cons.injEq, PV.int.injEq, true_and] at e3
      obtain ⟨rfl, _⟩ := e3
      simpa using e1
    simp only [hkey, Instr.keyThatStays, sameBits_int, if_true, Sem.run_pure, Sem.run_bind, Result.andThen_ok, hs]
    refine ⟨_, _, rfl, ?_⟩
    have := p1 i b hk
    simpa using this
theorem Sim.mkMap (sim : Sim gl A w0 F m w H) (hu : ∀ b, H.n ≤ b → m b = .unborn) : Sim gl A w0 F (mput m H.n (.mp w.heap.size)) (w.alloc (.map #[] 0)) (H.add [⟨0, 2, []⟩]) ∧ Ev F m w F (mput m H.n (.mp w.heap.size)) (w.alloc (.map #[] 0)) := by
  have ev : Ev F m w F (mput m H.n (.mp w.heap.size)) (w.alloc (.map #[] 0)) := by
    refine ⟨by rw [size_alloc]; omega, fun _ h => h, sim.fnl, fun β hb _ => heap_push_lt _ _ hb, fun β ⟨c, hc⟩ => ?_, fun β hb => rowSize_lt _ _ hb, fun b => ?_, sim.liv, fun _ h => .inl h⟩
    · by_cases e : c = H.n
      · rw [e, mput_eq] at hc
        injection hc with hc
        exact .inr (by omega)
      · rw [mput_ne _ _ e] at hc
        exact .inl ⟨c, hc⟩
    · by_cases e : b = H.n
      · rw [e, hu _ (Nat.le_refl _)]; trivial
      · rw [mput_ne _ _ e]; exact slot_refl _
  refine ⟨⟨sim.below.alloc sim.below.size _, ?_, ?_, sim.frz, ?_, ?_, fun g p hp => (sim.glob g p hp).monoNo ev⟩, ev⟩
  · intro b β hb
    rw [size_alloc]
    by_cases e : b = H.n
    · rw [e, mput_eq] at hb
      injection hb with hb
      subst hb
      exact ⟨sim.below.size, by omega, fun hf => absurd (sim.frzlt _ hf) (by omega)⟩
    · rw [mput_ne _ _ e] at hb
      obtain ⟨a1, a2, a3⟩ := sim.live b β hb
      exact ⟨a1, by omega, a3⟩
  · intro b b' β hb hb'
    by_cases e : b = H.n <;> by_cases e' : b' = H.n
    · rw [e, e']
    · rw [e, mput_eq] at hb
      rw [mput_ne _ _ e'] at hb'
      injection hb with hb
      subst hb
      exact absurd (sim.live _ _ hb').2.1 (by omega)
    · rw [e', mput_eq] at hb'
      rw [mput_ne _ _ e] at hb
      injection hb' with hb'
      subst hb'
      exact absurd (sim.live _ _ hb).2.1 (by omega)
    · rw [mput_ne _ _ e] at hb
      rw [mput_ne _ _ e'] at hb'
      exact sim.inj b b' β hb hb'
  · intro β hb
    rw [size_alloc]
    have := sim.frzlt β hb
    omega
  · intro b k hk hnu
    by_cases e : b = H.n
    · subst e
      have : k = ⟨0, 2, []⟩ := by simp [Hp.add] at hk; exact hk.symm
      subst this
      exact .inr (.inr (.inl ⟨w.heap.size, mput_eq _ _ _, #[], 0, heap_push_eq _ _, rfl, fun i h => by simp at h⟩))
    · rw [mput_ne _ _ e] at hnu ⊢
      have hb : b < H.n := Nat.lt_of_not_le fun h => hnu (hu b h)
      have hk' : H.f b = some k := by simpa [Hp.add, hb] using hk
      rcases sim.blk b k hk' hnu with ⟨β, hm, hok⟩ | hv
      · exact .inl ⟨β, hm, hok.mono ev (heap_push_lt _ _ (sim.live _ _ (at_live hm)).2.1)⟩
      · exact .inr (hv.mono ev fun β e => heap_push_lt _ _ (sim.live _ _ (at_mp e)).2.1)
theorem set_other (w : World) (β i : Nat) (o : Obj) (h : i ≠ β) : ({ w with heap := w.heap.setIfInBounds β o } : World).heap[i]? = w.heap[i]? := by
  simp only
  rw [Array.getElem?_setIfInBounds_ne (Ne.symm h)]
theorem set_same (w : World) (β : Nat) (o : Obj) (h : β < w.heap.size) : ({ w with heap := w.heap.setIfInBounds β o } : World).heap[β]? = some o := by
  simp [h]
theorem Sim.putMap (sim : Sim gl A w0 F m w H) {b β : Nat} {k : Blk} {xs' : List PV} {es : Array MapEntry} {c : Nat} (hk : H.f b = some k) (hm : m b = .mp β) (hmap : ∃ es0 c0, w.heap[β]? = some (.map es0 c0)) (he : EntsOk es.toList xs') :
    Sim gl A w0 F m { w with heap := w.heap.setIfInBounds β (.map es c) } (H.set b ⟨k.g, k.sz, xs'⟩) ∧ Ev F m w F m { w with heap := w.heap.setIfInBounds β (.map es c) } := by
  have hlive := sim.live b β (at_mp hm)
  have hsz : ({ w with heap := w.heap.setIfInBounds β (.map es c) } : World).heap.size = w.heap.size := by simp
  have ev : Ev F m w F m { w with heap := w.heap.setIfInBounds β (.map es c) } := by
    refine ⟨by rw [hsz]; exact Nat.le_refl _, fun _ h => h, sim.fnl, fun x _ hx => set_other w β x _ (fun e => hx ⟨b, e ▸ at_mp hm⟩), fun x h => .inl h, fun x hx => ?_, fun _ => slot_refl _, sim.liv, fun _ h => .inl h⟩
    unfold rowSize
    by_cases e : x = β
    · subst e
      obtain ⟨es0, c0, h0⟩ := hmap
      rw [set_same w x _ hlive.2.1, h0]
    · rw [set_other w β x _ e]
  refine ⟨⟨⟨sim.below.os, sim.below.tape, sim.below.output, by rw [hsz]; exact sim.below.size, fun i hi => (set_other w β i _ (by have := hlive.1; omega)).trans (sim.below.block i hi)⟩, fun c' β' h => ?_, sim.inj, sim.frz, fun x hx => by rw [hsz]; exact sim.frzlt x hx, fun c' k' hk' hnu => ?_, fun g p hp => (sim.glob g p hp).monoNo ev⟩, ev⟩
  · rw [hsz]; exact sim.live c' β' h
  · rw [Hp.set_f hk] at hk'
    by_cases e : c' = b
    · subst e
      rw [if_pos rfl] at hk'
      injection hk' with hk'
      subst hk'
      exact .inr (.inr (.inl ⟨β, hm, mapOk_of (set_same w β _ hlive.2.1) he⟩))
    · rw [if_neg e] at hk'
      rcases sim.blk c' k' hk' hnu with ⟨β', hm', hok⟩ | hv
      · exact .inl ⟨β', hm', hok.mono ev (set_other w β β' _ fun e2 => e (sim.inj c' b β' (at_live hm') (e2 ▸ at_mp hm)))⟩
      · exact .inr (hv.mono ev fun β' e1 => set_other w β β' _ fun e2 => e (sim.inj c' b β' (at_mp e1) (e2 ▸ at_mp hm)))
theorem mp_at (sim : Sim gl A w0 F m w G) {v : Value} {b : Nat} {k : Blk} (hv : VRel F w m v (.mp b)) (hb : G.f b = some k) (hB : mapB k.xs = true) : ∃ β, m b = .mp β ∧ MapOk w β k.xs ∧ v = .map (some β) := by
  cases hv with
  | mp β _ h =>
    have hnu : m b ≠ .unborn := fun e => by rw [e] at h; simp at h
    rcases sim.blk b k hb hnu with ⟨β', hm, _⟩ | ⟨hm, _⟩ | ⟨β', hm, hok⟩ | ⟨_, _, _, _, _, hx, _⟩
    · rw [hm] at h; simp at h
    · rw [hm] at h; simp at h
    · rw [hm] at h
      simp only [Slot.mp.injEq, reduceCtorEq, or_false] at h
      subst h
      exact ⟨_, hm, hok, rfl⟩
    · rw [hx] at hB; cases hB
theorem ok_mkif (sim : Sim gl A w0 F m w G) {t : TypeId} {x : Operand} {rs : List RO} (ho : o.op = .makeInterface t x) {d : TypeDesc} (ht : P.underlying t = some d) (hd : ∀ ms, d ≠ .interface ms)
    (hx : rosOf [x] = some rs) (he : ERel F m w a env (readsL rs)) {q : List PV} (hq : evs (RO.ev gl env) rs = some q) (n ext : Nat) (hp : primF H (.mkif t) q = some p) : NOk P gl A w0 F m w G n a o p ext := by
  have hr := evs_rels sim hx he hq
  simp only [List.map_cons, List.map_nil] at hr
  unfold primF at hp
  split at hp <;> try contradiction
  rename_i t' x0 heq
  injection heq with heq
  subst heq
  obtain ⟨hv, _⟩ := hr
  injection hp with hp
  subst hp
  refine .same sim (v := .iface t (a.eval x)) ?_ (.ifc _ _ _ hv)
  simp only [execOp, ho, Instr.makeInterface, run_underlying ht, Sem.run_bind, Sem.run_pure, Result.andThen_ok]
theorem ok_mapget (sim : Sim gl A w0 F m w G) (hG : ∀ b k, H.f b = some k → G.f b = some k) {t K E : TypeId} {x y : Operand} {rs : List RO} (ho : o.op = .lookup t x y false) (ht : P.underlying t = some (.map K E)) (hK : P.underlying K = some (.int .i64)) (hE : zeroOf P E = some (.bool false))
    (hx : rosOf [x, y] = some rs) (he : ERel F m w a env (readsL rs)) {q : List PV} (hq : evs (RO.ev gl env) rs = some q) (n ext : Nat) (hp : primF H .mapget q = some p) : NOk P gl A w0 F m w G n a o p ext := by
  have hr := evs_rels sim hx he hq
  simp only [List.map_cons, List.map_nil] at hr
  unfold primF at hp
  split at hp <;> try contradiction
  · rename_i b i heq
    obtain ⟨hv, hv2, _⟩ := hr
    rw [Option.bind_eq_some_iff] at hp
    obtain ⟨k, hk, hp⟩ := hp
    split at hp <;> try contradiction
    rename_i hB
    injection hp with hp
    subst hp
    obtain ⟨β, hm, hok, hev⟩ := mp_at sim hv (hG _ _ hk) hB
    generalize hev2 : a.eval y = vy at hv2
    cases hv2
    exact .same sim (v := .bool (mapLook k.xs i)) (by simp only [execOp, ho, hev, hev2, run_lookup_ib ht hK hE hok, Sem.run_bind, Sem.run_pure, Result.andThen_ok]) (.bool _)
  · rename_i i heq
    obtain ⟨hv, hv2, _⟩ := hr
    injection hp with hp
    subst hp
    generalize hev2 : a.eval y = vy at hv2
    generalize hev : a.eval x = vx at hv
    cases hv2
    cases hv
    exact .same sim (v := .bool false) (by simp only [execOp, ho, hev, hev2, run_lookup_nil ht hK hE, Sem.run_bind, Sem.run_pure, Result.andThen_ok]) (.bool _)
theorem run_mkmap (t : TypeId) : (Instr.makeMap t none).run P w = .ok (.map (some w.heap.size)) (w.alloc (.map #[] 0)) := rfl
theorem ok_mkmap (sim : Sim gl A w0 F m w H) (hub : ∀ b, H.n ≤ b → m b = .unborn) {t : TypeId} (ho : o.op = .makeMap t none) {q : List PV} {r : Option PV} {H' : Hp} (hp : eprimF H .mkmap q = some (r, H')) : EOk P gl A w0 F m w a o r H' := by
  unfold eprimF at hp
  split at hp <;> try contradiction
  simp only [Option.some.injEq, Prod.mk.injEq] at hp
  obtain ⟨rfl, rfl⟩ := hp
  obtain ⟨s, ev⟩ := sim.mkMap hub
  refine ⟨.map (some w.heap.size), _, F, _, .inl ?_, s, ev, ?_, fun b hb => ?_⟩
  · simp only [execOp, ho, Option.map_none, Sem.run_bind, run_mkmap, Result.andThen_ok, Sem.run_pure]
  · intro p hp
    injection hp with hp
    subst hp
    exact .mp _ _ (.inl (mput_eq _ _ _))
  · simp only [Hp.add, List.length_singleton] at hb
    rw [mput_ne _ _ (by omega)]
    exact hub b (by omega)
theorem ok_mapset (sim : Sim gl A w0 F m w H) (hub : ∀ b, H.n ≤ b → m b = .unborn) {t K E : TypeId} {x y z : Operand} {rs : List RO} (ho : o.op = .mapUpdate t x y z) (ht : P.underlying t = some (.map K E)) (hK : P.underlying K = some (.int .i64))
    (hx : rosOf [x, y, z] = some rs) (he : ERel F m w a env (readsL rs)) {q : List PV} (hq : evs (RO.ev gl env) rs = some q) {r : Option PV} {H' : Hp} (hp : eprimF H .mapset q = some (r, H')) : EOk P gl A w0 F m w a o r H' := by
  have hr := evs_rels sim hx he hq
  simp only [List.map_cons, List.map_nil] at hr
  unfold eprimF at hp
  split at hp <;> try contradiction
  rename_i b i v heq
  obtain ⟨hv, hv2, hv3, _⟩ := hr
  rw [Option.bind_eq_some_iff] at hp
  obtain ⟨k, hk, hp⟩ := hp
  split at hp <;> try contradiction
  rename_i hB
  simp only [Option.some.injEq, Prod.mk.injEq] at hp
  obtain ⟨rfl, rfl⟩ := hp
  obtain ⟨β, hm, hok, hev⟩ := mp_at sim hv hk hB
  generalize hev2 : a.eval y = vy at hv2
  generalize hev3 : a.eval z = vz at hv3
  cases hv2
  cases hv3
  obtain ⟨es', c', hrun, hes⟩ := run_mapUpdate_ib ht hK hok i v
  obtain ⟨es0, c0, h0, _⟩ := id hok
  obtain ⟨s, ev⟩ := sim.putMap (c := c') hk hm ⟨es0, c0, h0⟩ hes
  refine ⟨undef, _, F, m, .inr ⟨?_, rfl⟩, s, ev, (fun p hp => by cases hp), fun b' hb' => hub b' hb'⟩
  simp only [execOp, ho, hev, hev2, hev3, hrun, Sem.run_bind, Sem.run_pure, Result.andThen_ok]
end
end Go.Vm
namespace Go.Vm
open Go Go.RowKit
def RI.makes : RI → Bool
  | .alloc _ | .box _ | .bslice .. | .mkslice .. => true
  | _ => false
theorem stepN_noext {ev : RO → Option PV} {H : Hp} {ri : RI} {p : PV} {ext : List Blk} (hm : ri.makes = false) (h : stepN ev H ri = some (p, ext)) : ext = [] := by
  cases ri <;> simp only [RI.makes, Bool.true_eq_false] at hm <;> simp only [stepN, Option.bind_eq_bind, Option.pure_def, Option.bind_eq_some_iff, Option.some.injEq, Prod.mk.injEq, reduceCtorEq] at h
  all_goals
    first
      | (obtain ⟨_, _, _, rfl⟩ := h; rfl)
      | (obtain ⟨_, _, _, _, _, rfl⟩ := h; rfl)
      | (obtain ⟨_, _, _, _, _, _, _, rfl⟩ := h; rfl)
      | (obtain ⟨_, _, _, _, _, _, _, _, _, rfl⟩ := h; rfl)
      | skip
  all_goals
    (obtain ⟨_, _, h⟩ := h)
  all_goals
    first
      | ((try obtain ⟨_, _, h⟩ := h); (repeat' split at h) <;> (try simp only [Option.bind_eq_some_iff, Option.some.injEq, Prod.mk.injEq, reduceCtorEq] at h) <;> (repeat (obtain ⟨_, _, h⟩ := h)) <;> simp_all)
section
variable {P : Program} {gl : Nat → Option PV} {A : Nat → Prop} {w0 : World} {F : Nat → Prop} {m : Nat → Slot} {w : World} {G H : Hp} {a : Act} {env : Env} {o : Oper} {p : PV} {own : Bool}
theorem leaves_agg {d : Nat} {t : TypeId} {ls : List (Nat × Nat)} (hl : leavesOf P d t = some ls) (h1 : scalarT P t = false) (h2 : P.underlying t ≠ some .bool) : ∃ s, shp P t = some (some s) ∧ szOf P t = some s ∧ ∀ x ∈ ls, x.1 < s := by
  cases d with
  | zero => simp [leavesOf] at hl
  | succ d =>
    unfold leavesOf at hl
    split at hl
    · rename_i hu; exact absurd hu h2
    · rename_i k hu; simp [scalarT, hu] at h1
    · rename_i hu; simp [scalarT, hu] at h1
    · rename_i fs hu
      split at hl
      · cases hl
      · simp only [Option.bind_eq_bind, Option.bind_eq_some_iff] at hl
        obtain ⟨s, hs, L, hL, hl⟩ := hl
        split at hl
        · rename_i hall
          injection hl with hl
          subst hl
          refine ⟨s, ?_, hs, fun x hx => by simpa using List.all_eq_true.1 hall x hx⟩
          unfold szOf at hs
          simp only [shp, hu]
          rw [Option.map_eq_some_iff] at hs ⊢
          obtain ⟨i, hi, rfl⟩ := hs
          exact ⟨i, hi, rfl⟩
        · cases hl
    · rename_i N e hu
      simp only [Option.bind_eq_bind, Option.bind_eq_some_iff] at hl
      obtain ⟨q, hq, z, hz, s, hs, hl⟩ := hl
      split at hl
      · rename_i hall
        injection hl with hl
        subst hl
        refine ⟨s, ?_, hs, fun x hx => by simpa using List.all_eq_true.1 hall x hx⟩
        unfold szOf at hs
        simp only [shp, hu]
        rw [Option.map_eq_some_iff] at hs ⊢
        obtain ⟨i, hi, rfl⟩ := hs
        exact ⟨i, hi, rfl⟩
      · cases hl
    · cases hl
theorem stepN_sound0 {ri : RI} {ext : List Blk} (hres : resolveR0 P own o = some ri) (sim : Sim gl A w0 F m w G) (hG : ∀ b k, H.f b = some k → G.f b = some k) (hX : ∀ k (h : k < ext.length), G.f (H.n + k) = some ext[k])
    (hU : ∀ k, k < ext.length → m (H.n + k) = .unborn) (he : ERel F m w a env ri.reads) (hp : stepN (RO.ev gl env) H ri = some (p, ext)) : NOk P gl A w0 F m w G H.n a o p ext.length := by
  unfold resolveR0 at hres
  cases hop : o.op <;> simp only [hop, reduceCtorEq] at hres
  case move x =>
    rw [Option.map_eq_some_iff] at hres
    obtain ⟨r, hr, rfl⟩ := hres
    obtain rfl := stepN_noext rfl hp
    simp only [stepN, Option.bind_eq_bind, Option.pure_def, Option.bind_eq_some_iff, Option.some.injEq, Prod.mk.injEq] at hp
    obtain ⟨q, hq, rfl, _⟩ := hp
    exact ok_move sim (.inl hop) hr he hq _ _
  case assign x =>
    rw [Option.map_eq_some_iff] at hres
    obtain ⟨r, hr, rfl⟩ := hres
    obtain rfl := stepN_noext rfl hp
    simp only [stepN, Option.bind_eq_bind, Option.pure_def, Option.bind_eq_some_iff, Option.some.injEq, Prod.mk.injEq] at hp
    obtain ⟨q, hq, rfl, _⟩ := hp
    exact ok_move sim (.inr hop) hr he hq _ _
  case pick c x y =>
    simp only [Option.bind_eq_bind, Option.bind_eq_some_iff, Option.some.injEq] at hres
    obtain ⟨rc, hc, rx, hx, ry, hy, rfl⟩ := hres
    obtain rfl := stepN_noext rfl hp
    simp only [stepN, Option.bind_eq_bind, Option.pure_def, Option.bind_eq_some_iff] at hp
    obtain ⟨q, hq, hp⟩ := hp
    split at hp
    · rename_i t
      simp only [Option.bind_eq_some_iff, Option.some.injEq, Prod.mk.injEq] at hp
      obtain ⟨q2, hq2, rfl, _⟩ := hp
      exact ok_pick sim hop hc hx hy he hq hq2 _ _
    · cases hp
  case alloc t =>
    rw [Option.map_eq_some_iff] at hres
    obtain ⟨z, hz, rfl⟩ := hres
    simp only [stepN, Option.some.injEq, Prod.mk.injEq] at hp
    obtain ⟨rfl, rfl⟩ := hp
    exact ok_alloc sim hop hz (by simpa using hX 0 (by simp)) (by simpa using hU 0 (by simp))
  case box t x =>
    rw [Option.map_eq_some_iff] at hres
    obtain ⟨r, hr, rfl⟩ := hres
    simp only [stepN, Option.bind_eq_bind, Option.bind_eq_some_iff] at hp
    obtain ⟨q, hq, hp⟩ := hp
    split at hp
    · cases hp
    · simp only [Option.some.injEq, Prod.mk.injEq] at hp
      obtain ⟨rfl, rfl⟩ := hp
      exact ok_box sim hop hr he hq (by simpa using hX 0 (by simp)) (by simpa using hU 0 (by simp))
  case build t parts =>
    split at hres
    · rename_i pl hpl
      simp only [Option.bind_eq_bind, Option.bind_eq_some_iff, Option.some.injEq] at hres
      obtain ⟨z, hz, qs, hqs, rfl⟩ := hres
      obtain rfl := stepN_noext rfl hp
      exact ok_build sim hop hz (.inl ⟨pl, hpl, rfl⟩) hqs he _ _ hp
    · split at hres
      · rename_i N e hu
        simp only [Option.bind_eq_bind, Option.bind_eq_some_iff, Option.some.injEq] at hres
        obtain ⟨s, hs, z, hz, qs, hqs, rfl⟩ := hres
        obtain rfl := stepN_noext rfl hp
        exact ok_build sim hop hz (.inr ⟨N, e, s, hu, hs, rfl⟩) hqs he _ _ hp
      · cases hres
  case buildSlice t N parts =>
    split at hres
    · rename_i e hu
      simp only [Option.bind_eq_bind, Option.bind_eq_some_iff] at hres
      obtain ⟨s, hs, hres⟩ := hres
      split at hres
      · cases hres
      · rename_i hs0
        simp only [Option.bind_eq_some_iff, Option.some.injEq] at hres
        obtain ⟨z, hz, es, hes, rfl⟩ := hres
        exact ok_bslice sim hop hu hs hs0 hz hes he hp hX hU
    · cases hres
  case load t x =>
    split at hres
    · simp only [Option.bind_eq_bind, Option.bind_eq_some_iff, Option.some.injEq] at hres
      obtain ⟨es, hes, r, hr, rfl⟩ := hres
      obtain rfl := stepN_noext rfl hp
      exact ok_load sim hG hop hr hes he _ _ hp
    · simp only [Option.bind_eq_bind, Option.bind_eq_some_iff, Option.some.injEq] at hres
      obtain ⟨es, hes, r, hr, rfl⟩ := hres
      obtain rfl := stepN_noext rfl hp
      exact ok_loadF sim hop hr hes he _ _ hp
  case store t x v =>
    simp only [Option.bind_eq_bind, Option.bind_eq_some_iff, Option.some.injEq] at hres
    obtain ⟨es, hes, r, hr, r2, hr2, rfl⟩ := hres
    simp [stepN] at hp
  case binOp op t x y yt =>
    split at hres
    · simp only [Option.bind_eq_bind, Option.bind_eq_some_iff, Option.some.injEq] at hres
      obtain ⟨rx, hx, ry, hy, rfl⟩ := hres
      obtain rfl := stepN_noext rfl hp
      exact ok_bin sim hop hx hy he _ _ hp
    · rename_i hsc
      split at hres
      · rename_i hb
        simp only [Option.bind_eq_bind, Option.bind_eq_some_iff, Option.some.injEq] at hres
        obtain ⟨rx, hx, ry, hy, rfl⟩ := hres
        obtain rfl := stepN_noext rfl hp
        refine ok_binb sim hop ?_ hx hy he _ _ hp
        unfold boolT at hb
        split at hb
        · assumption
        · cases hb
      · rename_i hb
        have hnb : P.underlying t ≠ some .bool := fun e => hb (by simp [boolT, e])
        split at hres
        · split at hres
          · cases hres
          · rename_i hg
            simp only [Option.bind_eq_bind, Option.bind_eq_some_iff, Option.some.injEq] at hres
            obtain ⟨ls, hls, rx, hx, ry, hy, rfl⟩ := hres
            obtain rfl := stepN_noext rfl hp
            exact ok_eqs sim hop rfl (by simpa using hg) hls hx hy he _ _ hp (leaves_agg hls (by simpa using hsc) hnb)
        · split at hres
          · cases hres
          · rename_i hg
            simp only [Option.bind_eq_bind, Option.bind_eq_some_iff, Option.some.injEq] at hres
            obtain ⟨ls, hls, rx, hx, ry, hy, rfl⟩ := hres
            obtain rfl := stepN_noext rfl hp
            exact ok_eqs sim hop rfl (by simpa using hg) hls hx hy he _ _ hp (leaves_agg hls (by simpa using hsc) hnb)
        · cases hres
  case unOp op t x =>
    rw [Option.map_eq_some_iff] at hres
    obtain ⟨r, hr, rfl⟩ := hres
    obtain rfl := stepN_noext rfl hp
    exact ok_un sim hop hr he _ _ hp
  case convert s d x =>
    split at hres
    · rename_i k' k hs hd
      rw [Option.map_eq_some_iff] at hres
      obtain ⟨r, hr, rfl⟩ := hres
      obtain rfl := stepN_noext rfl hp
      exact ok_conv sim hop hs hd hr he _ _ hp
    · cases hres
  case fieldAddr s x i =>
    split at hres
    · rename_i fs hu
      simp only [Option.bind_eq_bind, Option.bind_eq_some_iff] at hres
      obtain ⟨f, hf, hres⟩ := hres
      split at hres
      · cases hres
      · rename_i hz
        simp only [Option.bind_eq_some_iff, Option.some.injEq] at hres
        obtain ⟨r, hr, rfl⟩ := hres
        obtain rfl := stepN_noext rfl hp
        exact ok_fieldAddr sim hop hu hf hz hr he _ _ hp
    · cases hres
  case field s x i =>
    split at hres
    · rename_i fs hu
      simp only [Option.bind_eq_bind, Option.bind_eq_some_iff, Option.some.injEq] at hres
      obtain ⟨f, hf, es, hes, r, hr, rfl⟩ := hres
      obtain rfl := stepN_noext rfl hp
      exact ok_field sim hop hu hf hes hr he _ _ hp
    · cases hres
  case indexAddr t x i =>
    split at hres
    · rename_i e hu
      simp only [Option.bind_eq_bind, Option.bind_eq_some_iff, Option.some.injEq] at hres
      obtain ⟨s, hs, r, hr, r2, hr2, rfl⟩ := hres
      obtain rfl := stepN_noext rfl hp
      exact ok_idxAddr sim hG hop hu hs hr hr2 he _ _ hp
    · rename_i N e hu
      simp only [Option.bind_eq_bind, Option.bind_eq_some_iff, Option.some.injEq] at hres
      obtain ⟨s, hs, r, hr, r2, hr2, rfl⟩ := hres
      obtain rfl := stepN_noext rfl hp
      exact ok_idxAddrA sim hop hu hs hr hr2 he _ _ hp
    · cases hres
  case index t x i =>
    split at hres
    · rename_i N e hu
      simp only [Option.bind_eq_bind, Option.bind_eq_some_iff, Option.some.injEq] at hres
      obtain ⟨s, hs, es, hes, r, hr, r2, hr2, rfl⟩ := hres
      obtain rfl := stepN_noext rfl hp
      exact ok_idx sim hop hu hs hes hr hr2 he _ _ hp
    · cases hres
  case extract x i =>
    rw [Option.map_eq_some_iff] at hres
    obtain ⟨r, hr, rfl⟩ := hres
    obtain rfl := stepN_noext rfl hp
    exact ok_extract sim hop hr he _ _ hp
  case makeSlice t L C =>
    split at hres
    · rename_i e hu
      split at hres
      · rename_i a1 b1 h1 h2
        split at hres
        · rename_i hc
          obtain ⟨rfl, hb⟩ := hc
          simp only [Option.bind_eq_bind, Option.bind_eq_some_iff, Option.some.injEq] at hres
          obtain ⟨s, hs, z, hz, rfl⟩ := hres
          exact ok_mkslice sim hop hu hs hz hb h1 h2 he hp hX hU
        · cases hres
      · rename_i a1 b1 h1 h2
        split at hres
        · rename_i hc
          obtain ⟨rfl, hb⟩ := hc
          simp only [Option.bind_eq_bind, Option.bind_eq_some_iff, Option.some.injEq] at hres
          obtain ⟨s, hs, z, hz, rfl⟩ := hres
          exact ok_mkslice sim hop hu hs hz hb h1 h2 he hp hX hU
        · cases hres
      · cases hres
    · cases hres
  case makeFunc fn first cap =>
    split at hres
    · rename_i f
      split at hres
      · rename_i h0
        simp only [Option.bind_eq_bind, Option.bind_eq_some_iff, Option.some.injEq] at hres
        obtain ⟨rs, hrs, rfl⟩ := hres
        obtain rfl := stepN_noext rfl hp
        exact ok_mkfunc sim hop h0 hrs he _ _ hp
      · cases hres
    · cases hres
  case call c =>
    split at hres
    · split at hres
      · split at hres
        · split at hres <;>
          · simp only [Option.bind_eq_bind, Option.bind_eq_some_iff, Option.some.injEq] at hres
            obtain ⟨rs, hrs, rfl⟩ := hres
            simp [stepN] at hp
        · cases hres
      · simp only [Option.bind_eq_bind, Option.bind_eq_some_iff, Option.some.injEq] at hres
        obtain ⟨rs, hrs, rfl⟩ := hres
        simp [stepN] at hp
      · cases hres
    · rename_i hc
      split at hres
      · rename_i x t hargs hts
        split at hres
        · rename_i hu
          rw [Option.map_eq_some_iff] at hres
          obtain ⟨r, hr, rfl⟩ := hres
          obtain rfl := stepN_noext rfl hp
          exact ok_len sim hop hc hargs hts (by simpa using hu) hr he _ _ hp
        · rename_i e hu
          rw [Option.map_eq_some_iff] at hres
          obtain ⟨r, hr, rfl⟩ := hres
          obtain rfl := stepN_noext rfl hp
          exact ok_len sim hop hc hargs hts (by simpa using ⟨e, hu⟩) hr he _ _ hp
        · cases hres
      · cases hres
    · rename_i hc
      split at hres
      · rename_i x r hargs
        simp only [Option.bind_eq_bind, Option.bind_eq_some_iff, Option.some.injEq] at hres
        obtain ⟨rx, hx, rs, hrs, rfl⟩ := hres
        obtain rfl := stepN_noext rfl hp
        exact ok_mm sim hop (by simpa using hc) hargs hx hrs he _ _ hp
      · cases hres
    · rename_i hc
      split at hres
      · rename_i x r hargs
        simp only [Option.bind_eq_bind, Option.bind_eq_some_iff, Option.some.injEq] at hres
        obtain ⟨rx, hx, rs, hrs, rfl⟩ := hres
        obtain rfl := stepN_noext rfl hp
        exact ok_mm sim hop (by simpa using hc) hargs hx hrs he _ _ hp
      · cases hres
    · split at hres
      · split at hres
        · cases hres
        · split at hres
          · simp only [Option.bind_eq_bind, Option.bind_eq_some_iff] at hres
            obtain ⟨z, hz, q, hq, hres⟩ := hres
            split at hres
            · cases hres
            · rename_i hcond
              simp only [Option.bind_eq_some_iff, Option.some.injEq] at hres
              obtain ⟨r1, h1, r2, h2, rfl⟩ := hres
              cases own with
              | true => simp [stepN] at hp
              | false =>
                simp only [Bool.false_eq_true, if_false] at hp he
                obtain rfl := stepN_noext rfl hp
                rename_i htu _ _ hu
                have htu : _ = _ := Decidable.byContradiction fun e => htu e
                subst htu
                refine ok_appendF sim hG hop ‹_› ‹_› ‹_› hu hz hq ?_ ?_ h1 h2 he _ _ hp
                · exact Decidable.byContradiction fun e => hcond (.inr (.inl e))
                · exact Decidable.byContradiction fun e => hcond (.inr (.inr (by simpa using e)))
          · cases hres
      · cases hres
    · split at hres
      · split at hres
        · simp only [Option.bind_eq_bind, Option.bind_eq_some_iff, Option.some.injEq] at hres
          obtain ⟨z, hz, r1, h1, r2, h2, rfl⟩ := hres
          simp [stepN] at hp
        · cases hres
      · cases hres
    · cases hres
theorem stepE_sound0 {ri : RI} {r : Option PV} {H' : Hp} (hres : resolveR0 P own o = some ri) (sim : Sim gl A w0 F m w H) (hub : ∀ b, H.n ≤ b → m b = .unborn) (he : ERel F m w a env ri.reads) (hp : stepE (RO.ev gl env) H ri = some (r, H')) :
    EOk P gl A w0 F m w a o r H' := by
  unfold resolveR0 at hres
  have none : (∀ n x v, ri ≠ .store n x v) → (∀ sz z s x, ri ≠ .append sz z s x) → (∀ sz d s, ri ≠ .copy sz d s) → (∀ t l, ri ≠ .eprim t l) → False := by
    intro h1 h2 h3 h4
    cases ri <;> first | (exact h1 _ _ _ rfl) | (exact h2 _ _ _ _ rfl) | (exact h3 _ _ _ rfl) | (exact h4 _ _ rfl) | (simp [stepE] at hp)
  cases hop : o.op
  case store t x v =>
    simp only [hop, Option.bind_eq_bind, Option.bind_eq_some_iff, Option.some.injEq] at hres
    obtain ⟨n, hn, r, hr, r2, hr2, rfl⟩ := hres
    exact ok_store sim hub hop hn hr hr2 he hp
  case call c =>
    simp only [hop] at hres
    split at hres
    · split at hres
      · split at hres
        · split at hres <;>
          · simp only [Option.bind_eq_bind, Option.bind_eq_some_iff, Option.some.injEq] at hres
            obtain ⟨rs, hrs, rfl⟩ := hres
            simp [stepE] at hp
        · cases hres
      · simp only [Option.bind_eq_bind, Option.bind_eq_some_iff, Option.some.injEq] at hres
        obtain ⟨rs, hrs, rfl⟩ := hres
        simp [stepE] at hp
      · cases hres
    · split at hres
      · split at hres
        · rw [Option.map_eq_some_iff] at hres
          obtain ⟨r, hr, rfl⟩ := hres
          simp [stepE] at hp
        · rw [Option.map_eq_some_iff] at hres
          obtain ⟨r, hr, rfl⟩ := hres
          simp [stepE] at hp
        · cases hres
      · cases hres
    · split at hres
      · simp only [Option.bind_eq_bind, Option.bind_eq_some_iff, Option.some.injEq] at hres
        obtain ⟨rx, hx, rs, hrs, rfl⟩ := hres
        simp [stepE] at hp
      · cases hres
    · split at hres
      · simp only [Option.bind_eq_bind, Option.bind_eq_some_iff, Option.some.injEq] at hres
        obtain ⟨rx, hx, rs, hrs, rfl⟩ := hres
        simp [stepE] at hp
      · cases hres
    · rename_i hc
      split at hres
      · rename_i s x t u hargs hts
        split at hres
        · cases hres
        · rename_i htu
          have htu : t = u := by simpa using htu
          subst htu
          split at hres
          · rename_i e hu
            simp only [Option.bind_eq_bind, Option.bind_eq_some_iff] at hres
            obtain ⟨z, hz, q, hq, hres⟩ := hres
            split at hres
            · cases hres
            · rename_i hcond
              simp only [Option.bind_eq_some_iff, Option.some.injEq] at hres
              obtain ⟨r1, h1, r2, h2, rfl⟩ := hres
              cases own with
              | false => simp [stepE] at hp
              | true =>
              simp only [if_true] at hp he
              refine ok_append sim hub hop hc hargs hts hu hz hq ?_ ?_ h1 h2 he hp
              · exact Decidable.byContradiction fun e => hcond (.inr (.inl e))
              · exact Decidable.byContradiction fun e => hcond (.inr (.inr (by simpa using e)))
          · cases hres
      · cases hres
    · rename_i hc
      split at hres
      · rename_i d s t u hargs hts
        split at hres
        · rename_i e hu
          simp only [Option.bind_eq_bind, Option.bind_eq_some_iff, Option.some.injEq] at hres
          obtain ⟨z, hz, r1, h1, r2, h2, rfl⟩ := hres
          exact ok_copy sim hub hop hc hargs hts hu hz h1 h2 he hp
        · cases hres
      · cases hres
    · cases hres
  all_goals
    (simp only [hop, reduceCtorEq, Option.map_eq_some_iff, Option.bind_eq_bind, Option.bind_eq_some_iff, Option.some.injEq] at hres) <;>
    (exfalso; refine none ?_ ?_ ?_ ?_ <;> (intros; intro e; subst e; revert hres; (repeat' split) <;> simp [Option.bind_eq_some_iff]))
theorem stepX_sound {ri : RI} {ext : List Blk} (hres : resolveX P o = some ri) (sim : Sim gl A w0 F m w G) (hG : ∀ b k, H.f b = some k → G.f b = some k) (he : ERel F m w a env ri.reads) (hp : stepN (RO.ev gl env) H ri = some (p, ext)) : NOk P gl A w0 F m w G H.n a o p ext.length := by
  unfold resolveX at hres
  have prim : ∀ {t : Prim} {rs : List RO}, ri = .prim t rs → ∃ q, evs (RO.ev gl env) rs = some q ∧ primF H t q = some p := by
    rintro t rs rfl
    simp only [stepN, Option.bind_eq_bind, Option.bind_eq_some_iff, Option.pure_def, Option.some.injEq, Prod.mk.injEq] at hp
    obtain ⟨q, hq, r, hr, rfl, rfl⟩ := hp
    exact ⟨q, hq, hr⟩
  cases hop : o.op <;> simp only [hop, reduceCtorEq] at hres
  case slice t x lo hi mx =>
    split at hres
    · rename_i hu
      split at hres
      · cases hres
      · rename_i hmx
        rw [Option.map_eq_some_iff] at hres
        obtain ⟨rs, hrs, rfl⟩ := hres
        obtain ⟨q, hq, hpr⟩ := prim rfl
        obtain rfl : mx = none := by cases mx <;> simp_all
        exact ok_sliceStr sim hop hu hrs he hq _ _ hpr
    · rename_i e hu
      simp only [Option.bind_eq_bind, Option.bind_eq_some_iff, Option.some.injEq] at hres
      obtain ⟨s, hs, rs, hrs, rfl⟩ := hres
      obtain ⟨q, hq, hpr⟩ := prim rfl
      exact ok_sliceSl sim hG hop hu hs hrs he hq _ _ hpr
    · rename_i n e hu
      split at hres
      · rename_i hc
        rw [Option.map_eq_some_iff] at hres
        obtain ⟨rs, hrs, rfl⟩ := hres
        obtain ⟨q, hq, hpr⟩ := prim rfl
        exact ok_sliceArr sim hG hop hu hc.1 hc.2 hrs he hq _ _ hpr
      · cases hres
    · cases hres
  case index t x i =>
    split at hres
    · rename_i hu
      rw [Option.map_eq_some_iff] at hres
      obtain ⟨rs, hrs, rfl⟩ := hres
      obtain ⟨q, hq, hpr⟩ := prim rfl
      exact ok_sidx sim hop hu hrs he hq _ _ hpr
    · cases hres
  case convert s d x =>
    split at hres
    · rename_i e h1 h2
      split at hres
      · rename_i h3
        rw [Option.map_eq_some_iff] at hres
        obtain ⟨rs, hrs, rfl⟩ := hres
        obtain ⟨q, hq, hpr⟩ := prim rfl
        exact ok_tostr sim hG hop h1 h2 (isU8_spec h3) hrs he hq _ _ hpr
      · cases hres
    · cases hres
  case binOp op t x y yt =>
    cases op <;> simp only [reduceCtorEq] at hres
    case eql =>
      split at hres
      · rename_i e h1
        split at hres
        · rename_i h2
          rw [Option.map_eq_some_iff] at hres
          obtain ⟨rs, hrs, rfl⟩ := hres
          obtain ⟨q, hq, hpr⟩ := prim rfl
          obtain ⟨j, hj, hz⟩ := any_some h2
          exact ok_ptreq (ne := false) sim hG hop h1 hj (by simpa using hz) hrs he hq _ _ hpr
        · cases hres
      · cases hres
    case neq =>
      split at hres
      · rename_i e h1
        split at hres
        · rename_i h2
          rw [Option.map_eq_some_iff] at hres
          obtain ⟨rs, hrs, rfl⟩ := hres
          obtain ⟨q, hq, hpr⟩ := prim rfl
          obtain ⟨j, hj, hz⟩ := any_some h2
          exact ok_ptreq (ne := true) sim hG hop h1 hj (by simpa using hz) hrs he hq _ _ hpr
        · cases hres
      · cases hres
  case nilCheck x =>
    rw [Option.map_eq_some_iff] at hres
    obtain ⟨rs, hrs, rfl⟩ := hres
    obtain ⟨q, hq, hpr⟩ := prim rfl
    exact ok_nilCheck sim hop hrs he hq _ _ hpr
  case unOp op t x =>
    cases op <;> simp only [reduceCtorEq] at hres
    rw [Option.map_eq_some_iff] at hres
    obtain ⟨rs, hrs, rfl⟩ := hres
    obtain ⟨q, hq, hpr⟩ := prim rfl
    exact ok_compl sim hop hrs he hq _ _ hpr
  case makeInterface t x =>
    split at hres
    · cases hres
    · rename_i d hno hu
      rw [Option.map_eq_some_iff] at hres
      obtain ⟨rs, hrs, rfl⟩ := hres
      obtain ⟨q, hq, hpr⟩ := prim rfl
      exact ok_mkif sim hop hu (fun ms e => hno ms e) hrs he hq _ _ hpr
    · cases hres
  case lookup t x y ok =>
    cases ok <;> simp only [reduceCtorEq] at hres
    split at hres
    · rename_i K E hu
      split at hres
      · rename_i hc
        rw [Option.map_eq_some_iff] at hres
        obtain ⟨rs, hrs, rfl⟩ := hres
        obtain ⟨q, hq, hpr⟩ := prim rfl
        rw [Bool.and_eq_true] at hc
        exact ok_mapget sim hG hop hu (isI64_spec hc.1) (isBoolZ_spec hc.2) hrs he hq _ _ hpr
      · cases hres
    · cases hres
  case makeMap t r =>
    cases r <;> simp only [reduceCtorEq, Option.some.injEq] at hres
    subst hres
    simp [stepN] at hp
  case mapUpdate t x y z =>
    split at hres
    · split at hres
      · rw [Option.map_eq_some_iff] at hres
        obtain ⟨rs, hrs, rfl⟩ := hres
        simp [stepN] at hp
      · cases hres
    · cases hres
  case call c =>
    split at hres
    · split at hres
      · split at hres
        · simp only [Option.bind_eq_bind, Option.bind_eq_some_iff, Option.some.injEq] at hres
          obtain ⟨s, hs, z, hz, rs, hrs, rfl⟩ := hres
          simp [stepN] at hp
        · cases hres
      · cases hres
    · cases hres
theorem stepN_sound {ri : RI} {ext : List Blk} (hres : resolveRI P own o = some ri) (sim : Sim gl A w0 F m w G) (hG : ∀ b k, H.f b = some k → G.f b = some k) (hX : ∀ k (h : k < ext.length), G.f (H.n + k) = some ext[k])
    (hU : ∀ k, k < ext.length → m (H.n + k) = .unborn) (he : ERel F m w a env ri.reads) (hp : stepN (RO.ev gl env) H ri = some (p, ext)) : NOk P gl A w0 F m w G H.n a o p ext.length := by
  unfold resolveRI at hres
  split at hres
  · rename_i r hx
    injection hres with hres
    subst hres
    exact stepX_sound hx sim hG he hp
  · injection hres with hres
    cases h0 : resolveR0 P own o with
    | none => rw [h0] at hres; simp only [Option.getD_none] at hres; subst hres; simp [stepN] at hp
    | some r => rw [h0] at hres; simp only [Option.getD_some] at hres; subst hres; exact stepN_sound0 h0 sim hG hX hU he hp
theorem stepXE_sound {ri : RI} {r : Option PV} {H' : Hp} (hres : resolveX P o = some ri) (sim : Sim gl A w0 F m w H) (hub : ∀ b, H.n ≤ b → m b = .unborn) (he : ERel F m w a env ri.reads) (hp : stepE (RO.ev gl env) H ri = some (r, H')) :
    EOk P gl A w0 F m w a o r H' := by
  unfold resolveX at hres
  have eprim : ∀ {t : EPrim} {rs : List RO}, ri = .eprim t rs → ∃ q, evs (RO.ev gl env) rs = some q ∧ eprimF H t q = some (r, H') := by
    rintro t rs rfl
    simp only [stepE, Option.bind_eq_bind, Option.bind_eq_some_iff] at hp
    exact hp
  have no : ∀ {t : Prim} {rs : List RO}, ri = .prim t rs → False := by
    rintro t rs rfl
    simp [stepE] at hp
  cases hop : o.op <;> simp only [hop, reduceCtorEq] at hres
  case makeMap t rr =>
    cases rr <;> simp only [reduceCtorEq, Option.some.injEq] at hres
    subst hres
    obtain ⟨q, hq, hpr⟩ := eprim rfl
    exact ok_mkmap sim hub hop hpr
  case mapUpdate t x y z =>
    split at hres
    · rename_i K E hu
      split at hres
      · rename_i hc
        rw [Option.map_eq_some_iff] at hres
        obtain ⟨rs, hrs, rfl⟩ := hres
        obtain ⟨q, hq, hpr⟩ := eprim rfl
        exact ok_mapset sim hub hop hu (isI64_spec hc) hrs he hq hpr
      · cases hres
    · cases hres
  case call c =>
    split at hres
    · rename_i hc
      split at hres
      · rename_i x t hargs hts
        split at hres
        · rename_i e hu
          simp only [Option.bind_eq_bind, Option.bind_eq_some_iff, Option.some.injEq] at hres
          obtain ⟨s, hs, z, hz, rs, hrs, rfl⟩ := hres
          obtain ⟨q, hq, hpr⟩ := eprim rfl
          exact ok_clear sim hub hop hc hargs hts hu hs hz hrs he hq hpr
        · cases hres
      · cases hres
    · cases hres
  all_goals
    exfalso
    revert hres
    (repeat' split) <;> intro hres
    all_goals
      first
        | (cases hres; done)
        | (rw [Option.map_eq_some_iff] at hres; obtain ⟨_, _, h⟩ := hres; exact no h.symm)
        | (simp only [Option.bind_eq_bind, Option.bind_eq_some_iff, Option.some.injEq] at hres; obtain ⟨_, _, _, _, h⟩ := hres; exact no h.symm)
        | contradiction
theorem stepE_sound {ri : RI} {r : Option PV} {H' : Hp} (hres : resolveRI P own o = some ri) (sim : Sim gl A w0 F m w H) (hub : ∀ b, H.n ≤ b → m b = .unborn) (he : ERel F m w a env ri.reads) (hp : stepE (RO.ev gl env) H ri = some (r, H')) :
    EOk P gl A w0 F m w a o r H' := by
  unfold resolveRI at hres
  split at hres
  · rename_i r hx
    injection hres with hres
    subst hres
    exact stepXE_sound hx sim hub he hp
  · injection hres with hres
    cases h0 : resolveR0 P own o with
    | none => rw [h0] at hres; simp only [Option.getD_none] at hres; subst hres; simp [stepE] at hp
    | some r => rw [h0] at hres; simp only [Option.getD_some] at hres; subst hres; exact stepE_sound0 h0 sim hub he hp
end
end Go.Vm
namespace Go.Vm
open Go Go.RowKit
/-! ### Values without memory of one's own -/
mutual
def pure1 : PV → Bool
  | .int .. | .bool _ | .str _ | .nilp | .nilf | .nili | .nilm | .sl _ | .raw _ => true
  | .fn _ l | .fptr l => pure1s l
  | .ifc _ (.agg l) => pure1s l
  | .ifc _ p => pure1 p
  | _ => false
def pure1s : List PV → Bool
  | [] => true
  | x :: r => pure1 x && pure1s r
end
def pureE (p : PV) : Bool :=
  match p with
  | .agg l => l.all pure1
  | .tup _ => false
  | v => pure1 v
def pureI (p : PV) : Bool :=
  match p with
  | .agg l => pure1s l
  | p => pure1 p
theorem pure1_ifc (t : TypeId) (p : PV) : pure1 (.ifc t p) = pureI p := by cases p <;> rfl
theorem pure1_I {p : PV} (h : pure1 p = true) : pureI p = true := by cases p <;> first | exact h | (simp [pure1] at h)
theorem pure1s_get : ∀ {l : List PV}, pure1s l = true → ∀ i (h : i < l.length), pure1 l[i] = true
  | [], _, i, h => absurd h (by simp)
  | x :: r, hb, i, h => by
    simp only [pure1s, Bool.and_eq_true] at hb
    cases i with
    | zero => exact hb.1
    | succ i => exact pure1s_get hb.2 i (by simpa using h)
def mapO (f : PV → Option PV) : List PV → Option (List PV)
  | [] => some []
  | v :: r => do
    let x ← f v
    let l ← mapO f r
    some (x :: l)
def cellO (f : PV → Option PV) (p : PV) : Option PV :=
  match p with
  | .agg l => (mapO f l).map .agg
  | .tup _ => none
  | p => f p
theorem mapO_get {f : PV → Option PV} : ∀ {l q : List PV}, mapO f l = some q → l.length = q.length ∧ ∀ i (h1 : i < l.length) (h2 : i < q.length), f l[i] = some q[i]
  | [], q, h => by
    simp [mapO] at h
    subst h
    exact ⟨rfl, fun i h1 => absurd h1 (by simp)⟩
  | x :: r, q, h => by
    simp only [mapO, Option.bind_eq_bind, Option.bind_eq_some_iff, Option.some.injEq] at h
    obtain ⟨y, hy, l, hl, rfl⟩ := h
    obtain ⟨e, ih⟩ := mapO_get hl
    refine ⟨by simp [e], fun i h1 h2 => ?_⟩
    cases i with
    | zero => exact hy
    | succ i => exact ih i (by simpa using h1) (by simpa using h2)
def OneC (f : PV → Option PV) : Prop := ∀ x y, f x = some y → x.cells = [x] ∧ y.cells = [y]
theorem get_single {l : List PV} {x : PV} (e : l = [x]) (j : Nat) (h : j < l.length) : l[j] = x := by
  subst e
  obtain rfl : j = 0 := by simpa using h
  rfl
theorem cellO_cells {f : PV → Option PV} (hc : OneC f) {p q : PV} (h : cellO f p = some q) : p.cells.length = q.cells.length ∧ ∀ j (h1 : j < p.cells.length) (h2 : j < q.cells.length), f p.cells[j] = some q.cells[j] := by
  unfold cellO at h
  split at h
  · rw [Option.map_eq_some_iff] at h
    obtain ⟨l', hl, rfl⟩ := h
    exact mapO_get hl
  · cases h
  · obtain ⟨e1, e2⟩ := hc _ _ h
    refine ⟨by rw [e1, e2]; rfl, fun j h1 h2 => ?_⟩
    rw [get_single e1 j h1, get_single e2 j h2]
    exact h
def softN (H : Hp) (ok : Nat → Bool) : Nat → PV → Option PV
  | 0, p => if pure1 p then some p else none
  | n + 1, p =>
    match p with
    | .lit l => if l.all pureE then some (.sl l) else (mapO (cellO (softN H ok n)) l).map .sl
    | .ref b g off len =>
      if ok b then
        match elems H (.ref b g off len) with
        | some l => if l.all pureE then some (.sl l) else (mapO (cellO (softN H ok n)) l).map .sl
        | none => none
      else none
    | .cref b g i off len =>
      if ok b then
        match elems H (.cref b g i off len) with
        | some l => if l.all pureE then some (.sl l) else (mapO (cellO (softN H ok n)) l).map .sl
        | none => none
      else none
    | .ptr b g i off =>
      if ok b then
        match H.blk b g with
        | some k =>
          match k.xs[i]? with
          | some e => (mapO (softN H ok n) (e.cells.drop off)).map .fptr
          | none => none
        | none => none
      else none
    | .fptr l => if pure1s l then some (.fptr l) else (mapO (softN H ok n) l).map .fptr
    | .fn f caps => if pure1s caps then some (.fn f caps) else (mapO (softN H ok n) caps).map (.fn f)
    | .ifc t q => if pure1 (.ifc t q) then some (.ifc t q) else (cellO (softN H ok n) q).map (.ifc t)
    | v => if pure1 v then some v else none
def soft1 (H : Hp) (bor : Bool) (p : PV) : Option PV := softN H (fun _ => bor) 5 p
theorem soft1_row {H : Hp} {b g off len : Nat} {l : List PV} (he : elems H (.ref b g off len) = some l) (hp : l.all pureE = true) : soft1 H true (.ref b g off len) = some (.sl l) := by
  unfold soft1 softN
  simp only [he, hp, if_true]
def softL (H : Hp) (bor : Bool) : List PV → Option (List PV)
  | [] => some []
  | v :: r => do
    let x ← soft1 H bor v
    let l ← softL H bor r
    some (x :: l)
def soft0 (H : Hp) (bor : Bool) : PV → Option PV
  | .agg l => (softL H bor l).map .agg
  | v => soft1 H bor v
def softT (H : Hp) (bor : Bool) : List PV → Option (List PV)
  | [] => some []
  | v :: r => do
    let x ← soft0 H bor v
    let l ← softT H bor r
    some (x :: l)
def soft (H : Hp) (bor : Bool) : PV → Option PV
  | .tup l => (softT H bor l).map .tup
  | v => soft0 H bor v
def softs (H : Hp) (bor : Bool) : List PV → Option (List PV)
  | [] => some []
  | v :: r => do
    let x ← soft H bor v
    let l ← softs H bor r
    some (x :: l)
def scal1 : PV → Bool
  | .int .. | .bool _ | .str _ | .nilp | .nilf | .nili | .nilm => true
  | _ => false
def scal (p : PV) : Bool :=
  match p with
  | .agg l | .tup l => l.all scal1
  | v => scal1 v
section
variable {P : Program} {gl : Nat → Option PV} {A : Nat → Prop} {w0 : World} {F : Nat → Prop} {m : Nat → Slot} {w : World} {G H : Hp} {a : Act} {env : Env} {o : Oper} {p : PV} {own : Bool}
theorem pure1_cells {p : PV} (h : pure1 p = true) : p.cells = [p] := by
  cases p <;> first | rfl | (simp [pure1] at h)
theorem VRel.noM_mono {F' : Nat → Prop} (hF : ∀ β, F β → F' β) {v : Value} {p : PV} (h : VRel F w noM v p) : VRel F' w noM v p :=
  h.monoV ⟨hF, fun _ _ => rfl, fun _ _ => rfl, fun _ => trivial, fun _ _ h => by simp [noM, Slot.at] at h⟩
theorem pureI_rel {F' : Nat → Prop} (hF : ∀ β, F β → F' β) {v : Value} {p : PV} (h : VRel F w m v p) : pureI p = true → VRel F' w noM v p := by
  induction h with
  | int => exact fun _ => .int _ _
  | bool => exact fun _ => .bool _
  | str => exact fun _ => .str _
  | nilp => exact fun _ => .nilp
  | nilf => exact fun _ => .nilf
  | nili => exact fun _ => .nili
  | nilm => exact fun _ => .nilm
  | slnil A c hc => exact fun _ => .slnil A c hc
  | sl ad c sz l cs hF' hc hm hz hcell h _ => exact fun _ => .sl ad c sz l cs (hF _ hF') hc hm hz hcell (fun i h1 j h2 => (h i h1 j h2).noM_mono hF)
  | raw t v => exact fun _ => .raw t v
  | agg a l hs _ ih => exact fun hp => .agg a l hs fun i h1 h2 => ih i h1 h2 (pure1_I (pure1s_get hp i h2))
  | fptr ad l cs hF' hcell _ ih => exact fun hp => .fptr ad l cs (hF _ hF') hcell fun j h1 => ih j h1 (pure1_I (pure1s_get (by simpa [pureI, pure1] using hp) j h1))
  | fn f first captured caps h0 hs _ ih => exact fun hp => .fn f first captured caps h0 hs fun i h1 h2 => ih i h1 h2 (pure1_I (pure1s_get (by simpa [pureI, pure1] using hp) i h2))
  | ifc t v p h ih => exact fun hp => .ifc t v p (ih (by rw [← pure1_ifc t p]; exact hp))
  | _ => exact fun hp => by simp [pureI, pure1] at hp
theorem pure1_rel {F' : Nat → Prop} (hF : ∀ β, F β → F' β) {v : Value} {p : PV} (h : VRel F w m v p) (hp : pure1 p = true) : VRel F' w noM v p := pureI_rel hF h (pure1_I hp)
theorem pureE_cells {p : PV} (h : pureE p = true) : ∀ c ∈ p.cells, pure1 c = true := by
  intro c hc
  cases p <;> first
    | (simp only [PV.cells, List.mem_singleton] at hc; subst hc; exact h)
    | (exact List.all_eq_true.1 h c hc)
theorem sl_of {F' : Nat → Prop} {ad : Addr} {c sz : Nat} {l l' : List PV} (cs : Nat → Nat → Value) (hF : F' ad.block) (hc : l.length ≤ c) (hm : c ≤ maxLen) (hz : ∀ e ∈ l, e.cells.length = sz)
    (hcell : ∀ i, i < l.length → ∀ j, j < sz → w.cell? (ad.add (i * sz + j)) = some (cs i j)) (h : ∀ i (h1 : i < l.length) j (h2 : j < (l[i]).cells.length), VRel F w m (cs i j) (l[i]).cells[j])
    (hl : l.length = l'.length) (hel : ∀ i (h1 : i < l.length) (h2 : i < l'.length), (l[i]).cells.length = (l'[i]).cells.length ∧ ∀ j (q1 : j < (l[i]).cells.length) (q2 : j < (l'[i]).cells.length) (v : Value), VRel F w m v (l[i]).cells[j] → VRel F' w noM v (l'[i]).cells[j]) :
    VRel F' w noM (.slice (some ad) l.length c) (.sl l') := by
  rw [hl]
  refine .sl ad c sz l' cs hF (by omega) hm (fun e he => ?_) (fun i hi j hj => hcell i (by omega) j hj) (fun i h1 j h2 => ?_)
  · obtain ⟨i, hi, rfl⟩ := List.mem_iff_getElem.1 he
    rw [← (hel i (by omega) hi).1]
    exact hz _ (List.getElem_mem _)
  · obtain ⟨e, k⟩ := hel i (by omega) h1
    exact k j (by omega) h2 _ (h i (by omega) j (by omega))
theorem elems_ref (sim : Sim gl A w0 F m w G) (hG : ∀ b k, H.f b = some k → G.f b = some k) {v : Value} {b g off len : Nat} {l : List PV} (h : VRel F w m v (.ref b g off len)) (hl : elems H (.ref b g off len) = some l) :
    (l = [] ∧ ∃ Ad, v = .slice Ad 0 0) ∨ ∃ (ad : Addr) (c sz : Nat) (cs : Nat → Nat → Value) (s1 g1 : Nat), m b = .live ad.block s1 g1 ∧ v = .slice (some ad) l.length c ∧ l.length ≤ c ∧ c ≤ maxLen ∧ (∀ e ∈ l, e.cells.length = sz) ∧
      (∀ i, i < l.length → ∀ j, j < sz → w.cell? (ad.add (i * sz + j)) = some (cs i j)) ∧ (∀ i (h1 : i < l.length) j (h2 : j < (l[i]).cells.length), VRel F w m (cs i j) (l[i]).cells[j]) := by
  simp only [elems, Option.bind_eq_bind, Option.bind_eq_some_iff] at hl
  obtain ⟨k, hk, hl⟩ := hl
  obtain ⟨hf, hg⟩ := Hp.blk_some hk
  split at hl
  · rename_i hle
    injection hl with hl
    cases h with
    | ref Ad c _ _ _ _ h =>
      have hnu : m b ≠ .unborn := fun e => by rw [e] at h; exact h
      rcases sim.blk2 b k (hG _ _ hf) hnu (fun _ e => by rw [e] at h; exact h) with ⟨β, hm, ⟨cs, T, h1, h2, h3, h4⟩⟩ | ⟨hvi, hxs⟩
      case inr =>
        rw [hvi] at h
        obtain ⟨rfl, rfl⟩ := h.2 hg.symm
        exact .inl ⟨by rw [← hl]; simp, Ad, rfl⟩
      rw [hm] at h
      obtain ⟨rfl, hlc, hcm, _⟩ := h.2 hg.symm
      have hlen : l.length = len := by rw [← hl]; simp; omega
      refine .inr ⟨⟨β, off * k.sz, none⟩, c, k.sz, fun i j => cs.getD ((off + i) * k.sz + j) undef, _, _, hm, by rw [hlen], by omega, hcm, fun e he => h3 e (by rw [← hl] at he; exact List.mem_of_mem_drop (List.mem_of_mem_take he)), ?_, ?_⟩
      · intro i hi j hj
        obtain ⟨u, hu, _⟩ := h4 (off + i) (by omega) j (by rw [h3 _ (List.getElem_mem _)]; exact hj)
        rw [add_plain', cell_row h1, show off * k.sz + (i * k.sz + j) = (off + i) * k.sz + j by rw [Nat.add_mul]; omega, hu]
        dsimp only
        rw [Array.getD_eq_getD_getElem?, hu]
        rfl
      · intro i hi j hj
        have e : l[i] = k.xs[off + i]'(by omega) := by simp [← hl]
        have hj' : j < (k.xs[off + i]'(by omega)).cells.length := by rw [← e]; exact hj
        obtain ⟨u, hu, hr⟩ := h4 (off + i) (by omega) j hj'
        dsimp only
        rw [Array.getD_eq_getD_getElem?, hu]
        simp only [e]
        exact hr
  · cases hl
theorem elems_cref (sim : Sim gl A w0 F m w G) (hG : ∀ b k, H.f b = some k → G.f b = some k) {v : Value} {b g i0 off len : Nat} {l : List PV} (h : VRel F w m v (.cref b g i0 off len)) (hl : elems H (.cref b g i0 off len) = some l) :
    ∃ (ad : Addr) (c sz : Nat) (cs : Nat → Nat → Value) (s1 g1 : Nat), m b = .live ad.block s1 g1 ∧ v = .slice (some ad) l.length c ∧ l.length ≤ c ∧ c ≤ maxLen ∧ (∀ e ∈ l, e.cells.length = sz) ∧
      (∀ i, i < l.length → ∀ j, j < sz → w.cell? (ad.add (i * sz + j)) = some (cs i j)) ∧ (∀ i (h1 : i < l.length) j (h2 : j < (l[i]).cells.length), VRel F w m (cs i j) (l[i]).cells[j]) := by
  simp only [elems, Option.bind_eq_bind, Option.bind_eq_some_iff] at hl
  obtain ⟨k, hk, el, hel, hl⟩ := hl
  obtain ⟨hf, hg⟩ := Hp.blk_some hk
  obtain ⟨hi0, rfl⟩ := List.getElem?_eq_some_iff.1 hel
  split at hl
  · rename_i hle
    injection hl with hl
    cases h with
    | cref Ad c _ _ _ _ _ h =>
      have hnu : m b ≠ .unborn := fun e => by rw [e] at h; exact h
      rcases sim.blk2 b k (hG _ _ hf) hnu (fun _ e => by rw [e] at h; exact h) with ⟨β, hm, ⟨cs, T, h1, h2, h3, h4⟩⟩ | ⟨hvi, hxs⟩
      case inr => rw [hvi] at h; exact h.elim
      rw [hm] at h
      obtain ⟨rfl, hlc, hcm⟩ := h.2 hg.symm
      have hlen : l.length = len := by rw [← hl]; simp; omega
      have h1c : ∀ e ∈ l, e.cells = [e] := fun e he => by
        have := List.all_eq_true.1 hle.2 e (by rw [hl]; exact he)
        cases e <;> first | rfl | (exact absurd this (by simp [PV.one]))
      refine ⟨⟨β, i0 * k.sz + off, none⟩, c, 1, fun i j => cs.getD (i0 * k.sz + (off + i)) undef, _, _, hm, by rw [hlen], by omega, hcm, fun e he => by rw [h1c e he]; rfl, ?_, ?_⟩
      · intro i hi j hj
        obtain ⟨u, hu, _⟩ := h4 i0 hi0 (off + i) (by omega)
        rw [add_plain', cell_row h1, show i0 * k.sz + off + (i * 1 + j) = i0 * k.sz + (off + i) by omega, hu]
        dsimp only
        rw [Array.getD_eq_getD_getElem?, hu]
        rfl
      · intro i hi j hj
        have e : l[i] = (k.xs[i0]).cells[off + i]'(by omega) := by simp [← hl]
        rw [get_single (h1c _ (List.getElem_mem hi)) j hj]
        obtain ⟨u, hu, hr⟩ := h4 i0 hi0 (off + i) (by omega)
        dsimp only
        rw [Array.getD_eq_getD_getElem?, hu, e]
        exact hr
  · cases hl
theorem softN_cells {ok : Nat → Bool} : ∀ n, OneC (softN H ok n)
  | 0, x, y, h => by
    unfold softN at h
    split at h
    · rename_i hp
      injection h with h
      subst h
      exact ⟨pure1_cells hp, pure1_cells hp⟩
    · cases h
  | n + 1, x, y, h => by
    unfold softN at h
    split at h
    case h_8 =>
      split at h
      · rename_i hp
        injection h with h
        subst h
        exact ⟨pure1_cells hp, pure1_cells hp⟩
      · cases h
    all_goals (repeat (split at h)) <;> first | (cases h; done) | (injection h with h; subst h; exact ⟨rfl, rfl⟩) | (rw [Option.map_eq_some_iff] at h; obtain ⟨l', _, rfl⟩ := h; exact ⟨rfl, rfl⟩)
theorem softN_rel {ok : Nat → Bool} {F' : Nat → Prop} (sim : Sim gl A w0 F m w G) (hG : ∀ b k, H.f b = some k → G.f b = some k) (hF : ∀ β, F β → F' β) (hb : ∀ b β sz g, ok b = true → m b = .live β sz g → F' β) : ∀ (n : Nat) {v : Value} {p q : PV},
    VRel F w m v p → softN H ok n p = some q → VRel F' w noM v q
  | 0, v, p, q, h, hs => by
    unfold softN at hs
    split at hs
    · rename_i hp
      injection hs with hs
      subst hs
      exact pure1_rel hF h hp
    · cases hs
  | n + 1, v, p, q, h, hs => by
    have ih := fun v p q => softN_rel sim hG hF hb n (v := v) (p := p) (q := q)
    have pure_el : ∀ {l : List PV}, l.all pureE = true → ∀ i (h1 : i < l.length) (h2 : i < l.length), (l[i]).cells.length = (l[i]).cells.length ∧ ∀ j (q1 : j < (l[i]).cells.length) (q2 : j < (l[i]).cells.length) (v : Value), VRel F w m v (l[i]).cells[j] → VRel F' w noM v (l[i]).cells[j] :=
      fun hall i h1 _ => ⟨rfl, fun j q1 _ v hv => pure1_rel hF hv (pureE_cells (List.all_eq_true.1 hall _ (List.getElem_mem h1)) _ (List.getElem_mem q1))⟩
    have deep_el : ∀ {l l' : List PV}, mapO (cellO (softN H ok n)) l = some l' → ∀ i (h1 : i < l.length) (h2 : i < l'.length), (l[i]).cells.length = (l'[i]).cells.length ∧ ∀ j (q1 : j < (l[i]).cells.length) (q2 : j < (l'[i]).cells.length) (v : Value), VRel F w m v (l[i]).cells[j] → VRel F' w noM v (l'[i]).cells[j] := by
      intro l l' hl i h1 h2
      obtain ⟨e, k⟩ := cellO_cells (softN_cells n) ((mapO_get hl).2 i h1 h2)
      exact ⟨e, fun j q1 q2 v hv => ih v _ _ hv (k j q1 q2)⟩
    -- a row, in one of two ways
    have row : ∀ {ad : Addr} {c sz : Nat} {l : List PV} (cs : Nat → Nat → Value), F' ad.block → l.length ≤ c → c ≤ maxLen → (∀ e ∈ l, e.cells.length = sz) → (∀ i, i < l.length → ∀ j, j < sz → w.cell? (ad.add (i * sz + j)) = some (cs i j)) →
        (∀ i (h1 : i < l.length) j (h2 : j < (l[i]).cells.length), VRel F w m (cs i j) (l[i]).cells[j]) → (if l.all pureE then some (PV.sl l) else (mapO (cellO (softN H ok n)) l).map .sl) = some q → VRel F' w noM (.slice (some ad) l.length c) q := by
      intro ad c sz l cs a1 a2 a3 a4 a5 a6 hq
      split at hq
      · rename_i hall
        injection hq with hq
        subst hq
        exact sl_of cs a1 a2 a3 a4 a5 a6 rfl (pure_el hall)
      · rw [Option.map_eq_some_iff] at hq
        obtain ⟨l', hl', rfl⟩ := hq
        exact sl_of cs a1 a2 a3 a4 a5 a6 (mapO_get hl').1 (deep_el hl')
    have nilrow : ∀ {Ad : Option Addr} {c : Nat}, c ≤ maxLen → (if ([] : List PV).all pureE then some (PV.sl []) else (mapO (cellO (softN H ok n)) []).map .sl) = some q → VRel F' w noM (.slice Ad 0 c) q := by
      intro Ad c hc hq
      simp only [List.all_nil, if_true, Option.some.injEq] at hq
      subst hq
      exact .slnil _ _ hc
    unfold softN at hs
    split at hs
    · -- lit
      cases h with
      | litnil => exact nilrow (Nat.zero_le _) hs
      | lit ad sz _ cs hF' hm hz hcell h => exact row cs (hF _ hF') (Nat.le_refl _) hm hz hcell h hs
    · -- ref
      split at hs
      · rename_i hok
        split at hs
        · rename_i l hl
          rcases elems_ref sim hG h hl with ⟨rfl, Ad, rfl⟩ | ⟨ad, c, sz, cs, s1, g1, a0, rfl, a2, a3, a4, a5, a6⟩
          · exact nilrow (Nat.zero_le _) hs
          · exact row cs (hb _ _ _ _ hok a0) a2 a3 a4 a5 a6 hs
        · cases hs
      · cases hs
    · -- cref
      split at hs
      · rename_i hok
        split at hs
        · rename_i l hl
          obtain ⟨ad, c, sz, cs, s1, g1, a0, rfl, a2, a3, a4, a5, a6⟩ := elems_cref sim hG h hl
          exact row cs (hb _ _ _ _ hok a0) a2 a3 a4 a5 a6 hs
        · cases hs
      · cases hs
    · -- ptr
      rename_i b g i off
      split at hs
      · rename_i hok
        split at hs
        · rename_i k hk
          split at hs
          · rename_i e he
            rw [Option.map_eq_some_iff] at hs
            obtain ⟨l', hl', rfl⟩ := hs
            obtain ⟨hf, hg⟩ := Hp.blk_some hk
            obtain ⟨β, hm, ⟨cs, T, h1, h2, h3, h4⟩, rfl⟩ := ptr_at sim h (hG _ _ hf) hg
            obtain ⟨hi, rfl⟩ := List.getElem?_eq_some_iff.1 he
            obtain ⟨el, kk⟩ := mapO_get hl'
            have hlen : l'.length = (k.xs[i]).cells.length - off := by rw [← el, List.length_drop]
            refine .fptr _ l' (fun j => cs.getD (i * k.sz + (off + j)) undef) (hb _ _ _ _ hok hm) (fun j hj => ?_) (fun j hj => ?_)
            · obtain ⟨u, hu, _⟩ := h4 i hi (off + j) (by omega)
              rw [add_plain', cell_row h1, Nat.add_assoc, hu, Array.getD_eq_getD_getElem?, hu]
              rfl
            · obtain ⟨u, hu, hr⟩ := h4 i hi (off + j) (by omega)
              rw [Array.getD_eq_getD_getElem?, hu]
              refine ih _ _ _ ?_ (kk j (by omega) hj)
              rw [List.getElem_drop]
              exact hr
          · cases hs
        · cases hs
      · cases hs
    · -- fptr
      split at hs
      · rename_i hp
        injection hs with hs
        subst hs
        exact pure1_rel hF h (by simpa [pure1] using hp)
      · rw [Option.map_eq_some_iff] at hs
        obtain ⟨l', hl', rfl⟩ := hs
        obtain ⟨el, kk⟩ := mapO_get hl'
        cases h with
        | fptr ad _ cs hF' hcell h => exact .fptr ad l' cs (hF _ hF') (fun j hj => hcell j (by omega)) fun j hj => ih _ _ _ (h j (by omega)) (kk j (by omega) hj)
    · -- fn
      split at hs
      · rename_i hp
        injection hs with hs
        subst hs
        exact pure1_rel hF h (by simpa [pure1] using hp)
      · rw [Option.map_eq_some_iff] at hs
        obtain ⟨l', hl', rfl⟩ := hs
        obtain ⟨el, kk⟩ := mapO_get hl'
        cases h with
        | fn _ first captured _ h0 hsz h => exact .fn _ _ _ _ h0 (by omega) fun i h1 h2 => ih _ _ _ (h i h1 (by omega)) (kk i (by omega) h2)
    · -- ifc
      split at hs
      · rename_i hp
        injection hs with hs
        subst hs
        exact pure1_rel hF h hp
      · rw [Option.map_eq_some_iff] at hs
        obtain ⟨q', hq', rfl⟩ := hs
        cases h with
        | ifc _ v' _ h =>
          refine .ifc _ _ _ ?_
          unfold cellO at hq'
          split at hq'
          · rw [Option.map_eq_some_iff] at hq'
            obtain ⟨l', hl', rfl⟩ := hq'
            obtain ⟨el, kk⟩ := mapO_get hl'
            cases h with
            | agg a _ hsz h => exact .agg _ _ (by omega) fun i h1 h2 => ih _ _ _ (h i h1 (by omega)) (kk i (by omega) h2)
          · cases hq'
          · exact ih _ _ _ h hq'
    · split at hs
      · rename_i hp
        injection hs with hs
        subst hs
        exact pure1_rel hF h hp
      · cases hs
theorem soft1_rel {bor : Bool} {F' : Nat → Prop} (sim : Sim gl A w0 F m w G) (hG : ∀ b k, H.f b = some k → G.f b = some k) (hF : ∀ β, F β → F' β) (hb : bor = true → ∀ β, w0.heap.size ≤ β → β < w.heap.size → F' β) {v : Value} {p q : PV}
    (h : VRel F w m v p) (hs : soft1 H bor p = some q) : VRel F' w noM v q :=
  softN_rel sim hG hF (fun b β sz g hok hm => hb hok β (sim.live _ _ (at_live hm)).1 (sim.live _ _ (at_live hm)).2.1) 5 h hs
theorem softL_rel {bor : Bool} {F' : Nat → Prop} (sim : Sim gl A w0 F m w G) (hG : ∀ b k, H.f b = some k → G.f b = some k) (hF : ∀ β, F β → F' β) (hb : bor = true → ∀ β, w0.heap.size ≤ β → β < w.heap.size → F' β) : ∀ {l q : List PV} {vs : List Value},
    softL H bor l = some q → vs.length = l.length → (∀ i (h1 : i < vs.length) (h2 : i < l.length), VRel F w m vs[i] l[i]) → vs.length = q.length ∧ ∀ i (h1 : i < vs.length) (h2 : i < q.length), VRel F' w noM vs[i] q[i]
  | [], q, vs, h, hl, _ => by
    simp [softL] at h
    subst h
    exact ⟨hl, fun i h1 h2 => absurd h2 (by simp)⟩
  | p :: l, q, [], h, hl, _ => by simp at hl
  | p :: l, q, v :: vs, h, hl, hr => by
    simp only [softL, Option.bind_eq_bind, Option.bind_eq_some_iff, Option.some.injEq] at h
    obtain ⟨x, hx, q', hq, rfl⟩ := h
    obtain ⟨e, ih⟩ := softL_rel sim hG hF hb (vs := vs) hq (by simpa using hl) (fun i h1 h2 => hr (i + 1) (by simpa using h1) (by simpa using h2))
    refine ⟨by simp [e], fun i h1 h2 => ?_⟩
    cases i with
    | zero => exact soft1_rel sim hG hF hb (hr 0 (by simp) (by simp)) hx
    | succ i => exact ih i (by simpa using h1) (by simpa using h2)
theorem soft0_rel {bor : Bool} {F' : Nat → Prop} (sim : Sim gl A w0 F m w G) (hG : ∀ b k, H.f b = some k → G.f b = some k) (hF : ∀ β, F β → F' β) (hb : bor = true → ∀ β, w0.heap.size ≤ β → β < w.heap.size → F' β) {v : Value} {p q : PV}
    (h : VRel F w m v p) (hs : soft0 H bor p = some q) : VRel F' w noM v q := by
  unfold soft0 at hs
  split at hs
  · rename_i l
    rw [Option.map_eq_some_iff] at hs
    obtain ⟨q', hq, rfl⟩ := hs
    cases h with
    | agg xs _ hl h =>
      obtain ⟨e, ih⟩ := softL_rel sim hG hF hb (vs := xs.toList) hq (by simpa using hl) (fun i h1 h2 => by simpa using h i (by simpa using h1) h2)
      exact .agg _ _ (by simpa using e) (fun i h1 h2 => by have := ih i (by simpa using h1) h2; rwa [Array.getElem_toList] at this)
  · exact soft1_rel sim hG hF hb h hs
theorem softT_rel {bor : Bool} {F' : Nat → Prop} (sim : Sim gl A w0 F m w G) (hG : ∀ b k, H.f b = some k → G.f b = some k) (hF : ∀ β, F β → F' β) (hb : bor = true → ∀ β, w0.heap.size ≤ β → β < w.heap.size → F' β) : ∀ {l q : List PV} {vs : List Value},
    softT H bor l = some q → vs.length = l.length → (∀ i (h1 : i < vs.length) (h2 : i < l.length), VRel F w m vs[i] l[i]) → vs.length = q.length ∧ ∀ i (h1 : i < vs.length) (h2 : i < q.length), VRel F' w noM vs[i] q[i]
  | [], q, vs, h, hl, _ => by
    simp [softT] at h
    subst h
    exact ⟨hl, fun i h1 h2 => absurd h2 (by simp)⟩
  | p :: l, q, [], h, hl, _ => by simp at hl
  | p :: l, q, v :: vs, h, hl, hr => by
    simp only [softT, Option.bind_eq_bind, Option.bind_eq_some_iff, Option.some.injEq] at h
    obtain ⟨x, hx, q', hq, rfl⟩ := h
    obtain ⟨e, ih⟩ := softT_rel sim hG hF hb (vs := vs) hq (by simpa using hl) (fun i h1 h2 => hr (i + 1) (by simpa using h1) (by simpa using h2))
    refine ⟨by simp [e], fun i h1 h2 => ?_⟩
    cases i with
    | zero => exact soft0_rel sim hG hF hb (hr 0 (by simp) (by simp)) hx
    | succ i => exact ih i (by simpa using h1) (by simpa using h2)
theorem soft_rel {bor : Bool} {F' : Nat → Prop} (sim : Sim gl A w0 F m w G) (hG : ∀ b k, H.f b = some k → G.f b = some k) (hF : ∀ β, F β → F' β) (hb : bor = true → ∀ β, w0.heap.size ≤ β → β < w.heap.size → F' β) {v : Value} {p q : PV}
    (h : VRel F w m v p) (hs : soft H bor p = some q) : VRel F' w noM v q := by
  unfold soft at hs
  split at hs
  · rename_i l
    rw [Option.map_eq_some_iff] at hs
    obtain ⟨q', hq, rfl⟩ := hs
    cases h with
    | tup xs _ hl h =>
      obtain ⟨e, ih⟩ := softT_rel sim hG hF hb (vs := xs.toList) hq (by simpa using hl) (fun i h1 h2 => by simpa using h i (by simpa using h1) h2)
      exact .tup _ _ (by simpa using e) (fun i h1 h2 => by have := ih i (by simpa using h1) h2; rwa [Array.getElem_toList] at this)
  · exact soft0_rel sim hG hF hb h hs
theorem softs_rel {bor : Bool} {F' : Nat → Prop} (sim : Sim gl A w0 F m w G) (hG : ∀ b k, H.f b = some k → G.f b = some k) (hF : ∀ β, F β → F' β) (hb : bor = true → ∀ β, w0.heap.size ≤ β → β < w.heap.size → F' β) : ∀ {l q : List PV} {vs : List Value},
    softs H bor l = some q → vs.length = l.length → (∀ i (h1 : i < vs.length) (h2 : i < l.length), VRel F w m vs[i] l[i]) → vs.length = q.length ∧ ∀ i (h1 : i < vs.length) (h2 : i < q.length), VRel F' w noM vs[i] q[i]
  | [], q, vs, h, hl, _ => by
    simp [softs] at h
    subst h
    exact ⟨hl, fun i h1 h2 => absurd h2 (by simp)⟩
  | p :: l, q, [], h, hl, _ => by simp at hl
  | p :: l, q, v :: vs, h, hl, hr => by
    simp only [softs, Option.bind_eq_bind, Option.bind_eq_some_iff, Option.some.injEq] at h
    obtain ⟨x, hx, q', hq, rfl⟩ := h
    obtain ⟨e, ih⟩ := softs_rel sim hG hF hb (vs := vs) hq (by simpa using hl) (fun i h1 h2 => hr (i + 1) (by simpa using h1) (by simpa using h2))
    refine ⟨by simp [e], fun i h1 h2 => ?_⟩
    cases i with
    | zero => exact soft_rel sim hG hF hb (hr 0 (by simp) (by simp)) hx
    | succ i => exact ih i (by simpa using h1) (by simpa using h2)
theorem scal1_rel {F' : Nat → Prop} {m' : Nat → Slot} {w' : World} {v : Value} {p : PV} (h : VRel F w m v p) (hp : scal1 p = true) : VRel F' w' m' v p := by
  cases h <;> first | (exact .int _ _) | (exact .bool _) | (exact .str _) | (exact .nilp) | (exact .nilf) | (exact .nili) | (exact .nilm) | (simp [scal1] at hp)
theorem scal_rel {F' : Nat → Prop} {m' : Nat → Slot} {w' : World} {v : Value} {p : PV} (h : VRel F w m v p) (hp : scal p = true) : VRel F' w' m' v p := by
  unfold scal at hp
  split at hp
  · cases h with
    | agg xs _ hs h => exact .agg _ _ hs (fun i h1 h2 => scal1_rel (h i h1 h2) (List.all_eq_true.1 hp _ (List.getElem_mem h2)))
  · cases h with
    | tup xs _ hs h => exact .tup _ _ hs (fun i h1 h2 => scal1_rel (h i h1 h2) (List.all_eq_true.1 hp _ (List.getElem_mem h2)))
  · exact scal1_rel h hp
end
/-! ### What is said of a function -/
def Pure (P : Program) (gl : Nat → Option PV) (f : FuncId) (args : List PV) (r : PV) : Prop :=
  callOk P f = true ∧ ∀ (A : Nat → Prop) (w : World) (vs : Array Value), (∀ β, A β → β < w.heap.size) → (∀ g p, gl g = some p → VRel A w noM (.pointer (some ⟨g, 0, none⟩)) p) → CsRel A noM w vs args →
    Calls P f vs w fun e w' => ∃ v, e = .returned v ∧ Below w.heap.size w w' ∧ VRel (fun β => A β ∨ (w.heap.size ≤ β ∧ β < w'.heap.size)) w' noM v r
def HSpec (P : Program) (gl : Nat → Option PV) (f : FuncId) (args : List PV) (H : Hp) (R : PV → Hp → Prop) : Prop :=
  callOk P f = true ∧ ∀ (A : Nat → Prop) (w0 : World) (F : Nat → Prop) (m : Nat → Slot) (w : World) (vs : Array Value), Sim gl A w0 F m w H → (∀ b, H.n ≤ b → m b = .unborn) → CsRel F m w vs args →
    Calls P f vs w fun e w' => ∃ v F' m' r H', e = .returned v ∧ R r H' ∧ Sim gl A w0 F' m' w' H' ∧ (∀ b, H'.n ≤ b → m' b = .unborn) ∧ Ev F m w F' m' w' ∧ VRel F' w' m' v r
def RF (ro : Option Nat) : Fence := { Fence.wide with round := ro }
theorem callsIn_RF {ro : Option Nat} {n : Nat} {P : Program} {f : FuncId} {args : Array Value} {w : World} {R : Ending → World → Prop} (h : Calls P f args w R) : CallsIn (RF ro) n P f args w R :=
  (callsIn_wide (n := n)).2 h
def YSpec (P : Program) (gl : Nat → Option PV) (b : Nat) (args : List PV) (H : Hp) (R : PV → Hp → Prop) : Prop :=
  ∀ (A : Nat → Prop) (w0 : World) (F : Nat → Prop) (m : Nat → Slot) (w : World) (vs : Array Value) (β : Nat), Sim gl A w0 F m w H → (∀ b, H.n ≤ b → m b = .unborn) → (m b = .mp β ∨ m b = .dead) → CsRel F m w vs args →
    ∃ (f : FuncId) (tmps : Array Value) (assign body : Code), (Instr.yield β vs).run P w = .ok (.round β f tmps assign body) w ∧
      RoundIn Fence.wide 0 P β f tmps assign body w fun e w' => ∃ v F' m' r H', e = .returned v ∧ R r H' ∧ Sim gl A w0 F' m' w' H' ∧ (∀ b, H'.n ≤ b → m' b = .unborn) ∧ Ev F m w F' m' w' ∧ VRel F' w' m' v r
def Fresh (P : Program) (gl : Nat → Option PV) (f : FuncId) (args : List PV) (r : PV) (K : Hp) : Prop :=
  callOk P f = true ∧ ∀ (A : Nat → Prop) (w : World) (vs : Array Value), (∀ β, A β → β < w.heap.size) → (∀ g p, gl g = some p → VRel A w noM (.pointer (some ⟨g, 0, none⟩)) p) → CsRel A noM w vs args →
    Calls P f vs w fun e w' => ∃ v F' m', e = .returned v ∧ Sim gl A w F' m' w' K ∧ (∀ b, K.n ≤ b → m' b = .unborn) ∧ (∀ β, A β → F' β) ∧ VRel F' w' m' v r
def Hp.le (H G : Hp) : Prop := H.n ≤ G.n ∧ ∀ b, b < H.n → G.f b = H.f b
theorem Hp.le_refl (H : Hp) : H.le H := ⟨Nat.le_refl _, fun _ _ => rfl⟩
theorem Hp.le_trans {H G K : Hp} (h : H.le G) (k : G.le K) : H.le K := ⟨Nat.le_trans h.1 k.1, fun b hb => (k.2 b (Nat.lt_of_lt_of_le hb h.1)).trans (h.2 b hb)⟩
theorem Hp.le_some {H G : Hp} (h : H.le G) {b : Nat} {k : Blk} (hk : H.f b = some k) : G.f b = some k := by
  by_cases hb : b < H.n
  · rw [h.2 b hb, hk]
  · rw [H.wf b (by omega)] at hk; cases hk
theorem Hp.le_add (H : Hp) (l : List Blk) : H.le (H.add l) := ⟨by simp [Hp.add], fun b hb => by simp [Hp.add, hb]⟩
end Go.Vm
namespace Go.Vm
open Go Go.RowKit
structure ROper where
  dst : Option Nat
  op : RI
  guard : Option (Nat × Bool)
  bef : Nat
  deriving Inhabited
def Env.put (env : Env) (dst : Option Nat) (r : Option PV) : Env :=
  match dst with
  | none => env
  | some d => fun t => if t = d then r else env t
def NStep (P : Program) (gl : Nat → Option PV) (o : Oper) (reads : List Nat) (env : Env) (H : Hp) (r : Option PV) (H' : Hp) : Prop :=
  H.le H' ∧ ∀ (ro : Option Nat) (A : Nat → Prop) (w0 : World) (F : Nat → Prop) (m : Nat → Slot) (w : World) (G : Hp) (a : Act) (next : Act → World → Prop) (Q : Exit → Act → World → Prop), Sim gl A w0 F m w G → H'.le G → (∀ b, H.n ≤ b → b < H'.n → m b = .unborn) → ERel F m w a env reads →
    (∀ v w' F' m', Sim gl A w0 F' m' w' G → Ev F m w F' m' w' → ORel F' m' w' v r → (∀ b, ¬ (H.n ≤ b ∧ b < H'.n) → m b = .unborn → m' b = .unborn) → next (a.put o.dst v) w') → o.wpIn (RF ro) 0 P a w next Q
def IStep (P : Program) (gl : Nat → Option PV) (o : Oper) (reads : List Nat) (env : Env) (r : Option PV) : Prop :=
  ∀ (ro : Option Nat) (A : Nat → Prop) (w0 : World) (F : Nat → Prop) (m : Nat → Slot) (w : World) (G : Hp) (a : Act) (next : Act → World → Prop) (Q : Exit → Act → World → Prop), Sim gl A w0 F m w G → ERel F m w a env reads →
    (∀ v w' F' m', Sim gl A w0 F' m' w' G → Ev F m w F' m' w' → ORel F' m' w' v r → (∀ b, m b = .unborn → m' b = .unborn) → next (a.put o.dst v) w') → o.wpIn (RF ro) 0 P a w next Q
def EStep (P : Program) (gl : Nat → Option PV) (o : Oper) (reads : List Nat) (env : Env) (H : Hp) (r : Option PV) (H' : Hp) : Prop :=
  H.n ≤ H'.n ∧ ∀ (ro : Option Nat) (A : Nat → Prop) (w0 : World) (F : Nat → Prop) (m : Nat → Slot) (w : World) (a : Act) (next : Act → World → Prop) (Q : Exit → Act → World → Prop), Sim gl A w0 F m w H → (∀ b, H.n ≤ b → m b = .unborn) → ERel F m w a env reads →
    (∀ v w' F' m', Sim gl A w0 F' m' w' H' → Ev F m w F' m' w' → ORel F' m' w' v r → (∀ b, H'.n ≤ b → m' b = .unborn) → next (a.put o.dst v) w') → o.wpIn (RF ro) 0 P a w next Q
section
variable {P : Program} {gl : Nat → Option PV} {A : Nat → Prop} {w0 : World} {F : Nat → Prop} {m : Nat → Slot} {w : World} {G H : Hp} {a : Act} {env : Env} {o : Oper} {p : PV} {own : Bool}
theorem ext_le {H : Hp} {l : List Blk} {G : Hp} (h : (H.add l).le G) : ∀ k (hk : k < l.length), G.f (H.n + k) = some l[k] := by
  intro k hk
  rw [h.2 (H.n + k) (by simp [Hp.add]; omega)]
  unfold Hp.add
  simp only
  rw [if_neg (by omega), Nat.add_sub_cancel_left, List.getElem?_eq_getElem hk]
theorem resolve_nd {ri : RI} (hres : resolveRI P own o = some ri) (h : ri ≠ .nope) : ∀ c, o.op ≠ .defer c := by
  intro c hc
  apply h
  unfold resolveRI resolveX resolveR0 at hres
  simp only [hc] at hres
  simpa using hres.symm
theorem ow_of {ro : Option Nat} {next : Act → World → Prop} {Q : Exit → Act → World → Prop} {ri : RI} (hres : resolveRI P own o = some ri) (hn : ri ≠ .nope) (h : o.uponIn (RF ro) 0 P a next Q ((execOp a.eval o).run P w)) : o.wpIn (RF ro) 0 P a w next Q :=
  ⟨fun _ _ => trivial, by rw [Oper.semAt_eq _ _ _ (resolve_nd hres hn)]; exact h⟩
theorem nstep_of {ri : RI} {r : PV} {ext : List Blk} (hres : resolveRI P own o = some ri) (hp : stepN (RO.ev gl env) H ri = some (r, ext)) : NStep P gl o ri.reads env H (some r) (H.add ext) := by
  refine ⟨Hp.le_add _ _, fun ro A w0 F m w G a next Q sim hG hU he hk => ?_⟩
  obtain ⟨v, w', F', m', hr, s, e, hv, hm⟩ := stepN_sound hres sim (fun b k hk => Hp.le_some (Hp.le_trans (Hp.le_add H ext) hG) hk) (ext_le hG) (fun k hk => hU _ (by omega) (by simp [Hp.add]; omega)) he hp
  refine ow_of hres (fun e => by rw [e] at hp; cases hp) ?_
  rw [hr]
  refine hk v w' F' m' s e (fun p hp => by injection hp with hp; subst hp; exact hv) (fun b hb hu => ?_)
  rw [hm b (fun k hk e => hb ⟨by omega, by simp [Hp.add]; omega⟩)]
  exact hu
theorem estep_of {ri : RI} {r : Option PV} {H' : Hp} (hn : H.n ≤ H'.n) (hres : resolveRI P own o = some ri) (hp : stepE (RO.ev gl env) H ri = some (r, H')) : EStep P gl o ri.reads env H r H' := by
  refine ⟨hn, fun ro A w0 F m w a next Q sim hU he hk => ?_⟩
  obtain ⟨v, w', F', m', hr, s, e, hv, hm⟩ := stepE_sound hres sim hU he hp
  refine ow_of hres (fun e => by rw [e] at hp; cases hp) ?_
  rcases hr with hr | ⟨hr, rfl⟩
  · rw [hr]; exact hk v w' F' m' s e hv hm
  · rw [hr]; exact hk _ w' F' m' s e hv hm
theorem EStep.ofN {reads : List Nat} {r : Option PV} {H' : Hp} (h : NStep P gl o reads env H r H') : EStep P gl o reads env H r H' := by
  obtain ⟨hle, h⟩ := h
  refine ⟨hle.1, fun ro A w0 F m w a next Q sim hU he hk => ?_⟩
  have sim' : Sim gl A w0 F m w H' := ⟨sim.below, sim.live, sim.inj, sim.frz, sim.frzlt, fun b k hk hnu => by
    by_cases hb : b < H.n
    · rw [hle.2 b hb] at hk; exact sim.blk b k hk hnu
    · exact absurd (hU b (by omega)) hnu, sim.glob⟩
  exact h ro A w0 F m w H' a next Q sim' (Hp.le_refl _) (fun b hb _ => hU b hb) he (fun v w' F' m' s e hv hm => hk v w' F' m' s e hv (fun b hb => hm b (by omega) (hU b (by have := hle.1; omega))))
theorem Sim.ext {K : Hp} (sim : Sim gl A w0 F m w G) (h : ∀ b, m b ≠ .unborn → K.f b = G.f b) : Sim gl A w0 F m w K :=
  ⟨sim.below, sim.live, sim.inj, sim.frz, sim.frzlt, fun b k hk hnu => sim.blk b k (by rw [← h b hnu]; exact hk) hnu, sim.glob⟩
/-! ### Calls -/
theorem exec_call {f : FuncId} {args : Array Operand} {c : Call} (hok : callOk P f = true) (ho : o.op = .call c) {cap : Array Value} (hc : ∃ x first, c.callee = .value x ∧ a.eval x = .func (.func f) first cap ∧ first = #[]) (hargs : c.args = args) :
    (execOp a.eval o).run P w = .ok (.enter f (args.map a.eval ++ cap)) w := by
  obtain ⟨x, first, hx, hv, rfl⟩ := hc
  unfold callOk at hok
  split at hok
  · rename_i fn hfn
    simp only [Bool.and_eq_true, bne_iff_ne, ne_eq] at hok
    have h1 : (fn.name == "runtime.NumGoroutine") = false := by simpa using hok.2
    have h2 : fn.body.isNone = false := by
      cases hb : fn.body with
      | none => rw [hb] at hok; simp at hok
      | some b => rfl
    subst hargs
    simp only [execOp, ho, resolve, hx, hv, Deferred.ofValue, Sem.run_bind, Sem.run_pure, Result.andThen_ok, invoke, callFunc, run_program, hfn, h1, h2, Bool.false_eq_true, if_false, Array.empty_append]
  · cases hok
def callArgs (ev : RO → Option PV) : RI → Option (FuncId × List PV)
  | .call f args | .callP f args => do
    let l ← evs ev args
    some (f, l)
  | .callv x args => do
    match ← ev x with
    | .fn f caps => do
      let l ← evs ev args
      some (f, l ++ caps)
    | _ => none
  | _ => none
theorem CsRel.append {xs ys : Array Value} {l k : List PV} (h1 : CsRel F m w xs l) (h2 : CsRel F m w ys k) : CsRel F m w (xs ++ ys) (l ++ k) := by
  refine .of_get (by simp [h1.1, h2.1]) (fun i q hq => ?_)
  by_cases h : i < l.length
  · rw [List.getElem?_append_left h] at hq
    rw [Array.getElem?_append_left (by have := h1.1; omega)]
    exact h1.get hq
  · rw [List.getElem?_append_right (by omega)] at hq
    rw [Array.getElem?_append_right (by have := h1.1; omega), h1.1]
    exact h2.get hq
theorem call_args {ri : RI} {f : FuncId} {as : List PV} (hres : resolveRI P own o = some ri) (sim : Sim gl A w0 F m w G) (he : ERel F m w a env ri.reads) (hok : callOk P f = true) (hc : callArgs (RO.ev gl env) ri = some (f, as)) :
    ∃ vs, (execOp a.eval o).run P w = .ok (.enter f vs) w ∧ CsRel F m w vs as := by
  replace hres : resolveR0 P own o = some ri := by
    have hxc : resolveX P o = some ri → False := by
      intro hx
      unfold resolveX at hx
      revert hx
      cases o.op <;> (try simp only) <;> (repeat' split) <;> intro hx
      all_goals
        first
          | (cases hx; done)
          | contradiction
          | (rw [Option.map_eq_some_iff] at hx; obtain ⟨_, _, rfl⟩ := hx; simp [callArgs] at hc; done)
          | (simp only [Option.bind_eq_bind, Option.bind_eq_some_iff, Option.some.injEq] at hx; obtain ⟨_, _, _, _, rfl⟩ := hx; simp [callArgs] at hc; done)
          | (simp only [Option.bind_eq_bind, Option.bind_eq_some_iff, Option.some.injEq] at hx; obtain ⟨_, _, _, _, _, _, rfl⟩ := hx; simp [callArgs] at hc; done)
    unfold resolveRI at hres
    split at hres
    · rename_i r hx
      injection hres with hres
      subst hres
      exact (hxc hx).elim
    · injection hres with hres
      cases h0 : resolveR0 P own o with
      | none => rw [h0] at hres; simp only [Option.getD_none] at hres; subst hres; simp [callArgs] at hc
      | some r => rw [h0] at hres; simp only [Option.getD_some] at hres; subst hres; rfl
  unfold callArgs at hc
  split at hc
  · rename_i f' rs
    simp only [Option.bind_eq_bind, Option.bind_eq_some_iff, Option.some.injEq, Prod.mk.injEq] at hc
    obtain ⟨l, hl, rfl, rfl⟩ := hc
    have : ∃ c, o.op = .call c ∧ c.callee = .value (.func f') ∧ rosOf c.args.toList = some rs := by
      unfold resolveR0 at hres
      cases hop : o.op
      case call c =>
        refine ⟨c, rfl, ?_⟩
        simp only [hop] at hres
        split at hres
        · rename_i x hx
          split at hres
          · split at hres
            · split at hres
              all_goals (simp only [Option.bind_eq_bind, Option.bind_eq_some_iff, Option.some.injEq, RI.call.injEq, RI.callP.injEq, reduceCtorEq, and_false, exists_false] at hres)
              all_goals (obtain ⟨rs', hrs, rfl, rfl⟩ := hres)
              all_goals (exact ⟨hx, hrs⟩)
            · cases hres
          · simp [Option.bind_eq_some_iff] at hres
          · cases hres
        all_goals (revert hres; (repeat' split) <;> simp [Option.bind_eq_some_iff])
      all_goals (simp only [hop] at hres; revert hres; (repeat' split) <;> simp [Option.bind_eq_some_iff])
    obtain ⟨c, hop, hcal, hrs⟩ := this
    obtain ⟨e1, e2⟩ := evs_rel sim hrs he hl
    refine ⟨_, exec_call (cap := #[]) hok hop ⟨_, #[], hcal, rfl, rfl⟩ rfl, ?_⟩
    refine ⟨by simpa using e1, fun i h1 h2 => ?_⟩
    simp at h1
    have := e2 i (by simpa using h1) h2
    rw [Array.getElem_toList] at this
    simpa using this
  · rename_i f' rs
    simp only [Option.bind_eq_bind, Option.bind_eq_some_iff, Option.some.injEq, Prod.mk.injEq] at hc
    obtain ⟨l, hl, rfl, rfl⟩ := hc
    have : ∃ c, o.op = .call c ∧ c.callee = .value (.func f') ∧ rosOf c.args.toList = some rs := by
      unfold resolveR0 at hres
      cases hop : o.op
      case call c =>
        refine ⟨c, rfl, ?_⟩
        simp only [hop] at hres
        split at hres
        · rename_i x hx
          split at hres
          · split at hres
            · split at hres
              all_goals (simp only [Option.bind_eq_bind, Option.bind_eq_some_iff, Option.some.injEq, RI.call.injEq, RI.callP.injEq, reduceCtorEq, and_false, exists_false] at hres)
              all_goals (obtain ⟨rs', hrs, rfl, rfl⟩ := hres)
              all_goals (exact ⟨hx, hrs⟩)
            · cases hres
          · simp [Option.bind_eq_some_iff] at hres
          · cases hres
        all_goals (revert hres; (repeat' split) <;> simp [Option.bind_eq_some_iff])
      all_goals (simp only [hop] at hres; revert hres; (repeat' split) <;> simp [Option.bind_eq_some_iff])
    obtain ⟨c, hop, hcal, hrs⟩ := this
    obtain ⟨e1, e2⟩ := evs_rel sim hrs he hl
    refine ⟨_, exec_call (cap := #[]) hok hop ⟨_, #[], hcal, rfl, rfl⟩ rfl, ?_⟩
    refine ⟨by simpa using e1, fun i h1 h2 => ?_⟩
    simp at h1
    have := e2 i (by simpa using h1) h2
    rw [Array.getElem_toList] at this
    simpa using this
  · rename_i x rs
    simp only [Option.bind_eq_bind, Option.bind_eq_some_iff] at hc
    obtain ⟨q, hq, hc⟩ := hc
    split at hc
    · rename_i f' caps
      simp only [Option.bind_eq_some_iff, Option.some.injEq, Prod.mk.injEq] at hc
      obtain ⟨l, hl, rfl, rfl⟩ := hc
      have : ∃ c t, o.op = .call c ∧ c.callee = .value (.tmp t) ∧ x = .t t ∧ rosOf c.args.toList = some rs := by
        unfold resolveR0 at hres
        cases hop : o.op
        case call c =>
          refine ⟨c, ?_⟩
          simp only [hop] at hres
          split at hres
          · rename_i x' hx
            split at hres
            · split at hres
              · split at hres <;> simp [Option.bind_eq_some_iff] at hres
              · cases hres
            · rename_i t
              simp only [Option.bind_eq_bind, Option.bind_eq_some_iff, Option.some.injEq, RI.callv.injEq] at hres
              obtain ⟨rs', hrs, rfl, rfl⟩ := hres
              exact ⟨t, rfl, hx, rfl, hrs⟩
            · cases hres
          all_goals (revert hres; (repeat' split) <;> simp [Option.bind_eq_some_iff])
        all_goals (simp only [hop] at hres; revert hres; (repeat' split) <;> simp [Option.bind_eq_some_iff])
      obtain ⟨c, t, hop, hcal, rfl, hrs⟩ := this
      simp only [RI.reads] at he
      obtain ⟨he1, he2⟩ := he.app
      obtain ⟨e1, e2⟩ := evs_rel sim hrs he2 hl
      have hv := RO.rel (x := .tmp t) sim rfl he1 hq
      generalize hev : a.eval (.tmp t) = va at hv
      cases hv with
      | fn _ first captured _ h0 hs h =>
        refine ⟨_, exec_call (cap := captured) hok hop ⟨_, first, hcal, hev, h0⟩ rfl, .append ⟨by simpa using e1, fun i h1 h2 => ?_⟩ ⟨hs, h⟩⟩
        simp at h1
        have := e2 i (by simpa using h1) h2
        rw [Array.getElem_toList] at this
        simpa using this
    · cases hc
  · cases hc
theorem exec_yield {args : Array Operand} {c : Call} {β : Nat} (ho : o.op = .call c) {x : Operand} (hx : c.callee = .value x) (hv : a.eval x = .func (.yield β) #[] #[]) (hargs : c.args = args) :
    (execOp a.eval o).run P w = (Instr.yield β (args.map a.eval)).run P w := by
  subst hargs
  simp only [execOp, ho, resolve, hx, hv, Deferred.ofValue, Sem.run_bind, Sem.run_pure, Result.andThen_ok, invoke, Array.empty_append]
theorem yield_args {x : RO} {rs : List RO} {b : Nat} {as : List PV} (hres : resolveRI P own o = some (.callv x rs)) (sim : Sim gl A w0 F m w G) (he : ERel F m w a env (RI.callv x rs).reads) (hxv : x.ev gl env = some (.yld b)) (has : evs (RO.ev gl env) rs = some as) :
    ∃ vs β, (execOp a.eval o).run P w = (Instr.yield β vs).run P w ∧ (m b = .mp β ∨ m b = .dead) ∧ CsRel F m w vs as := by
  have hres : resolveR0 P own o = some (.callv x rs) := by
    have hxc : resolveX P o = some (.callv x rs) → False := by
      intro hx
      unfold resolveX at hx
      revert hx
      cases o.op <;> (try simp only) <;> (repeat' split) <;> intro hx
      all_goals
        first
          | (cases hx; done)
          | contradiction
          | (rw [Option.map_eq_some_iff] at hx; obtain ⟨_, _, hx⟩ := hx; cases hx; done)
          | (simp only [Option.bind_eq_bind, Option.bind_eq_some_iff, Option.some.injEq, reduceCtorEq, and_false, exists_false] at hx; done)
    unfold resolveRI at hres
    split at hres
    · rename_i r hx
      injection hres with hres
      subst hres
      exact (hxc hx).elim
    · injection hres with hres
      cases h0 : resolveR0 P own o with
      | none => rw [h0] at hres; simp only [Option.getD_none, reduceCtorEq] at hres
      | some r => rw [h0] at hres; simp only [Option.getD_some] at hres; subst hres; rfl
  have : ∃ c t, o.op = .call c ∧ c.callee = .value (.tmp t) ∧ x = .t t ∧ rosOf c.args.toList = some rs := by
    unfold resolveR0 at hres
    cases hop : o.op
    case call c =>
      refine ⟨c, ?_⟩
      simp only [hop] at hres
      split at hres
      · rename_i x' hx
        split at hres
        · split at hres
          · split at hres <;> simp [Option.bind_eq_some_iff] at hres
          · cases hres
        · rename_i t
          simp only [Option.bind_eq_bind, Option.bind_eq_some_iff, Option.some.injEq, RI.callv.injEq] at hres
          obtain ⟨rs', hrs, rfl, rfl⟩ := hres
          exact ⟨t, rfl, hx, rfl, hrs⟩
        · cases hres
      all_goals (revert hres; (repeat' split) <;> simp [Option.bind_eq_some_iff])
    all_goals (simp only [hop] at hres; revert hres; (repeat' split) <;> simp [Option.bind_eq_some_iff])
  obtain ⟨c, t, hop, hcal, rfl, hrs⟩ := this
  simp only [RI.reads] at he
  obtain ⟨he1, he2⟩ := he.app
  obtain ⟨e1, e2⟩ := evs_rel sim hrs he2 has
  have hv := RO.rel (x := .tmp t) sim rfl he1 hxv
  generalize hev : a.eval (.tmp t) = va at hv
  cases hv with
  | yld β _ h =>
    refine ⟨_, β, exec_yield hop hcal hev rfl, h, by simpa using e1, fun i h1 h2 => ?_⟩
    simp at h1
    have := e2 i (by simpa using h1) h2
    rw [Array.getElem_toList] at this
    simpa using this
theorem Sim.called (sim : Sim gl A w0 F m w G) {w' : World} (hb : Below w.heap.size w w') :
    Sim gl A w0 (fun β => F β ∨ (w.heap.size ≤ β ∧ β < w'.heap.size)) m w' G ∧ Ev F m w (fun β => F β ∨ (w.heap.size ≤ β ∧ β < w'.heap.size)) m w' := by
  have ev : Ev F m w (fun β => F β ∨ (w.heap.size ≤ β ∧ β < w'.heap.size)) m w' :=
    ⟨hb.size, fun _ h => .inl h, sim.fnl, fun β h _ => hb.block β h, fun _ h => .inl h, fun β h => by unfold rowSize; rw [hb.block β h], fun _ => slot_refl _, sim.liv, fun β h => h.elim .inl fun h => .inr (.inr h.1)⟩
  refine ⟨⟨sim.below.trans ⟨hb.os, hb.tape, hb.output, hb.size, fun k hk => hb.block k (Nat.lt_of_lt_of_le hk sim.below.size)⟩, ?_, sim.inj, ?_, ?_, ?_, fun g p hp => (sim.glob g p hp).monoNo ev⟩, ev⟩
  · intro b β h
    obtain ⟨a1, a2, a3⟩ := sim.live b β h
    exact ⟨a1, Nat.lt_of_lt_of_le a2 hb.size, fun h => h.elim a3 (fun h => by omega)⟩
  · intro β h
    rcases h with h | h
    · exact sim.frz β h
    · exact .inr (Nat.le_trans sim.below.size h.1)
  · intro β h
    rcases h with h | h
    · exact Nat.lt_of_lt_of_le (sim.frzlt β h) hb.size
    · exact h.2
  · intro b k hk hnu
    rcases sim.blk b k hk hnu with ⟨β, hm, hok⟩ | hv
    case inr => exact .inr (hv.mono ev fun β e => hb.block β (sim.live _ _ (at_mp e)).2.1)
    exact .inl ⟨β, hm, hok.mono ev (hb.block β (sim.live _ _ (at_live hm)).2.1)⟩
theorem nstep_pure {ri : RI} {f : FuncId} {as as' : List PV} {r : PV} {bor : Bool} (hres : resolveRI P own o = some ri) (hc : callArgs (RO.ev gl env) ri = some (f, as)) (hs : softs H bor as = some as') (hP : Pure P gl f as' r) (hb : bor = true → scal r = true) :
    NStep P gl o ri.reads env H (some r) H := by
  refine ⟨Hp.le_refl _, fun ro A w0 F m w G a next Q sim hG _ he hk => ?_⟩
  obtain ⟨vs, hr, hvs⟩ := call_args hres sim he hP.1 hc
  have hF' : ∃ F' : Nat → Prop, (∀ β, F β → F' β) ∧ (bor = true → ∀ β, β < w.heap.size → F' β) ∧ (∀ β, F' β → β < w.heap.size) ∧ (bor = false → F' = F) := by
    cases bor with
    | true => exact ⟨fun β => β < w.heap.size, fun β h => sim.frzlt β h, fun _ β h => h, fun β h => h, fun h => by cases h⟩
    | false => exact ⟨F, fun β h => h, fun h => by simp at h, sim.frzlt, fun _ => rfl⟩
  obtain ⟨F', h1, h2, h3, h4⟩ := hF'
  obtain ⟨e, hrel⟩ := softs_rel (F' := F') sim (fun b k hk => Hp.le_some hG hk) h1 (fun h β _ => h2 h β) (vs := vs.toList) hs (by simpa using hvs.1) (fun i q1 q2 => by have := hvs.2 i (by simpa using q1) q2; rwa [Array.getElem_toList])
  have hcs : CsRel F' noM w vs as' := ⟨by simpa using e, fun i q1 q2 => by have := hrel i (by simpa using q1) q2; rwa [Array.getElem_toList] at this⟩
  have hcall := hP.2 F' w vs h3 (fun g p hp => (sim.glob g p hp).monoV ⟨h1, fun _ _ => rfl, fun _ _ => rfl, fun _ => trivial, fun _ _ h => by simp [noM, Slot.at] at h⟩) hcs
  refine ow_of hres (fun e => by rw [e] at hc; cases hc) ?_
  rw [hr, Oper.uponIn_enter]
  refine ⟨fun h => (by cases h), callsIn_RF (hcall.mono ?_)⟩
  rintro e w' ⟨v, rfl, hbel, hv⟩
  obtain ⟨s, ev⟩ := sim.called hbel
  refine hk v w' _ m s ev (fun p hp => ?_) (fun b _ h => h)
  injection hp with hp
  subst hp
  cases bor with
  | true => exact scal_rel hv (hb rfl)
  | false =>
    rw [h4 rfl] at hv
    exact hv.weak m
/-! ### What a callee hands back that is its own -/
def shiftN (n : Nat) : Nat → PV → Option PV
  | 0, v => if pure1 v then some v else none
  | j + 1, v =>
    if pure1 v then some v else
    match v with
    | .ref b g off len => some (.ref (b + n) g off len)
    | .ptr b g i off => some (.ptr (b + n) g i off)
    | .cref b g i off len => some (.cref (b + n) g i off len)
    | .mp b => some (.mp (b + n))
    | .fn f caps => (mapO (shiftN n j) caps).map (.fn f)
    | .fptr l => (mapO (shiftN n j) l).map .fptr
    | .lit l => (mapO (cellO (shiftN n j)) l).map .lit
    | .ifc t q => (cellO (shiftN n j) q).map (.ifc t)
    | _ => none
def shift1 (n : Nat) (v : PV) : Option PV := shiftN n 4 v
def shiftL (n : Nat) : List PV → Option (List PV)
  | [] => some []
  | v :: r => do
    let x ← shift1 n v
    let l ← shiftL n r
    some (x :: l)
def shift0 (n : Nat) (v : PV) : Option PV :=
  match v with
  | .agg l => (shiftL n l).map .agg
  | v => shift1 n v
def shiftT (n : Nat) : List PV → Option (List PV)
  | [] => some []
  | v :: r => do
    let x ← shift0 n v
    let l ← shiftT n r
    some (x :: l)
def shiftP (n : Nat) (v : PV) : Option PV :=
  match v with
  | .tup l => (shiftT n l).map .tup
  | v => shift0 n v
def shiftPs (n : Nat) : List PV → Option (List PV)
  | [] => some []
  | v :: r => do
    let x ← shiftP n v
    let l ← shiftPs n r
    some (x :: l)
def shiftB (n : Nat) (k : Blk) : Option Blk := (shiftPs n k.xs).map fun xs => ⟨k.g, k.sz, xs⟩
def Hp.addH (H K : Hp) : Hp := ⟨H.n + K.n, fun c => if c < H.n then H.f c else (K.f (c - H.n)).bind (shiftB H.n), fun c hc => by
  rw [if_neg (by omega), K.wf (c - H.n) (by omega)]
  rfl⟩
theorem Hp.le_addH (H K : Hp) : H.le (H.addH K) := ⟨by simp [Hp.addH], fun b hb => by simp [Hp.addH, hb]⟩
theorem shiftN_cells {n : Nat} : ∀ k, OneC (shiftN n k)
  | 0, x, y, h => by
    unfold shiftN at h
    split at h
    · rename_i hp
      injection h with h
      subst h
      exact ⟨pure1_cells hp, pure1_cells hp⟩
    · cases h
  | k + 1, x, y, h => by
    unfold shiftN at h
    split at h
    · rename_i hp
      injection h with h
      subst h
      exact ⟨pure1_cells hp, pure1_cells hp⟩
    · split at h <;> first | (cases h; done) | (injection h with h; subst h; exact ⟨rfl, rfl⟩) | (rw [Option.map_eq_some_iff] at h; obtain ⟨l', _, rfl⟩ := h; exact ⟨rfl, rfl⟩)
theorem shiftN_rel {n : Nat} {m2 : Nat → Slot} (h2 : ∀ b, m b ≠ .unborn → m2 (b + n) = m b) : ∀ (k : Nat) {v : Value} {p q : PV}, VRel F w m v p → shiftN n k p = some q → VRel F w m2 v q
  | 0, v, p, q, h, hs => by
    unfold shiftN at hs
    split at hs
    · rename_i hp
      injection hs with hs
      subst hs
      exact (pure1_rel (fun _ h => h) h hp).weak m2
    · cases hs
  | k + 1, v, p, q, h, hs => by
    have ih := fun v p q => shiftN_rel h2 k (v := v) (p := p) (q := q)
    unfold shiftN at hs
    split at hs
    · rename_i hp
      injection hs with hs
      subst hs
      exact (pure1_rel (fun _ h => h) h hp).weak m2
    · split at hs
      · rename_i b g off len _
        injection hs with hs
        subst hs
        cases h with
        | ref A c _ _ _ _ h =>
          refine .ref _ _ _ _ _ _ ?_
          rw [h2 b (fun e => by rw [e] at h; exact h)]
          exact h
      · rename_i b g i off _
        injection hs with hs
        subst hs
        cases h with
        | ptr ad _ _ _ _ h =>
          refine .ptr _ _ _ _ _ ?_
          rw [h2 b (fun e => by rw [e] at h; exact h)]
          exact h
      · rename_i b g i off len _
        injection hs with hs
        subst hs
        cases h with
        | cref A c _ _ _ _ _ h =>
          refine .cref _ _ _ _ _ _ _ ?_
          rw [h2 b (fun e => by rw [e] at h; exact h)]
          exact h
      · rename_i b _
        injection hs with hs
        subst hs
        cases h with
        | mp β _ h =>
          refine .mp _ _ ?_
          rw [h2 b (fun e => by rw [e] at h; simp at h)]
          exact h
      · rw [Option.map_eq_some_iff] at hs
        obtain ⟨l', hl', rfl⟩ := hs
        obtain ⟨el, kk⟩ := mapO_get hl'
        cases h with
        | fn _ first captured _ h0 hsz h => exact .fn _ _ _ _ h0 (by omega) fun i h1 h3 => ih _ _ _ (h i h1 (by omega)) (kk i (by omega) h3)
      · rw [Option.map_eq_some_iff] at hs
        obtain ⟨l', hl', rfl⟩ := hs
        obtain ⟨el, kk⟩ := mapO_get hl'
        cases h with
        | fptr ad _ cs hF' hcell h => exact .fptr ad l' cs hF' (fun j hj => hcell j (by omega)) fun j hj => ih _ _ _ (h j (by omega)) (kk j (by omega) hj)
      · rw [Option.map_eq_some_iff] at hs
        obtain ⟨l', hl', rfl⟩ := hs
        obtain ⟨el, kk⟩ := mapO_get hl'
        cases h with
        | litnil =>
          simp only [List.length_nil] at el
          obtain rfl := List.eq_nil_of_length_eq_zero el.symm
          exact .litnil
        | lit ad sz l cs hF' hm hz hcell h =>
          rw [el]
          refine .lit ad sz l' cs hF' (by omega) (fun e he => ?_) (fun i hi j hj => hcell i (by omega) j hj) (fun i h1 j h3 => ?_)
          · obtain ⟨i, hi, rfl⟩ := List.mem_iff_getElem.1 he
            rw [← (cellO_cells (shiftN_cells k) (kk i (by omega) hi)).1]
            exact hz _ (List.getElem_mem _)
          · obtain ⟨e, kc⟩ := cellO_cells (shiftN_cells k) (kk i (by omega) h1)
            exact ih _ _ _ (h i (by omega) j (by omega)) (kc j (by omega) h3)
      · rw [Option.map_eq_some_iff] at hs
        obtain ⟨q', hq', rfl⟩ := hs
        cases h with
        | ifc _ v' _ h =>
          refine .ifc _ _ _ ?_
          unfold cellO at hq'
          split at hq'
          · rw [Option.map_eq_some_iff] at hq'
            obtain ⟨l', hl', rfl⟩ := hq'
            obtain ⟨el, kk⟩ := mapO_get hl'
            cases h with
            | agg a _ hsz h => exact .agg _ _ (by omega) fun i h1 h3 => ih _ _ _ (h i h1 (by omega)) (kk i (by omega) h3)
          · cases hq'
          · exact ih _ _ _ h hq'
      · cases hs
theorem shift1_rel {n : Nat} {m2 : Nat → Slot} (h2 : ∀ b, m b ≠ .unborn → m2 (b + n) = m b) {v : Value} {p q : PV} (h : VRel F w m v p) (hs : shift1 n p = some q) : VRel F w m2 v q := shiftN_rel h2 4 h hs
theorem shiftL_rel {n : Nat} {m2 : Nat → Slot} (h2 : ∀ b, m b ≠ .unborn → m2 (b + n) = m b) : ∀ {l q : List PV}, shiftL n l = some q → l.length = q.length ∧ ∀ i (h1 : i < l.length) (h3 : i < q.length) (v : Value), VRel F w m v l[i] → VRel F w m2 v q[i]
  | [], q, h => by
    simp [shiftL] at h
    subst h
    exact ⟨rfl, fun i h1 => absurd h1 (by simp)⟩
  | p :: l, q, h => by
    simp only [shiftL, Option.bind_eq_bind, Option.bind_eq_some_iff, Option.some.injEq] at h
    obtain ⟨x, hx, q', hq, rfl⟩ := h
    obtain ⟨e, ih⟩ := shiftL_rel h2 hq
    refine ⟨by simp [e], fun i h1 h3 v hv => ?_⟩
    cases i with
    | zero => exact shift1_rel h2 hv hx
    | succ i => exact ih i (by simpa using h1) (by simpa using h3) v hv
theorem shift1_cells {n : Nat} {p q : PV} (h : shift1 n p = some q) : p.cells = [p] ∧ q.cells = [q] := shiftN_cells 4 _ _ h
theorem shiftP_cells {n : Nat} {p q : PV} (h : shiftP n p = some q) : (∃ t, p = .tup t) ∨ shiftL n p.cells = some q.cells := by
  unfold shiftP at h
  split at h
  · exact .inl ⟨_, rfl⟩
  · unfold shift0 at h
    split at h
    · rw [Option.map_eq_some_iff] at h
      obtain ⟨q', hq, rfl⟩ := h
      exact .inr hq
    · obtain ⟨e1, e2⟩ := shift1_cells h
      rw [e1, e2]
      exact .inr (by simp [shiftL, h])
theorem shift0_rel {n : Nat} {m2 : Nat → Slot} (h2 : ∀ b, m b ≠ .unborn → m2 (b + n) = m b) {v : Value} {p q : PV} (h : VRel F w m v p) (hs : shift0 n p = some q) : VRel F w m2 v q := by
  unfold shift0 at hs
  split at hs
  · rw [Option.map_eq_some_iff] at hs
    obtain ⟨q', hq, rfl⟩ := hs
    obtain ⟨e, ih⟩ := shiftL_rel (F := F) (w := w) h2 hq
    cases h with
    | agg xs _ hl h => exact .agg _ _ (by omega) (fun i h1 h3 => ih i (by omega) h3 _ (h i h1 (by omega)))
  · exact shift1_rel h2 h hs
theorem shiftT_rel {n : Nat} {m2 : Nat → Slot} (h2 : ∀ b, m b ≠ .unborn → m2 (b + n) = m b) : ∀ {l q : List PV}, shiftT n l = some q → l.length = q.length ∧ ∀ i (h1 : i < l.length) (h3 : i < q.length) (v : Value), VRel F w m v l[i] → VRel F w m2 v q[i]
  | [], q, h => by
    simp [shiftT] at h
    subst h
    exact ⟨rfl, fun i h1 => absurd h1 (by simp)⟩
  | p :: l, q, h => by
    simp only [shiftT, Option.bind_eq_bind, Option.bind_eq_some_iff, Option.some.injEq] at h
    obtain ⟨x, hx, q', hq, rfl⟩ := h
    obtain ⟨e, ih⟩ := shiftT_rel h2 hq
    refine ⟨by simp [e], fun i h1 h3 v hv => ?_⟩
    cases i with
    | zero => exact shift0_rel h2 hv hx
    | succ i => exact ih i (by simpa using h1) (by simpa using h3) v hv
theorem shiftP_rel {n : Nat} {m2 : Nat → Slot} (h2 : ∀ b, m b ≠ .unborn → m2 (b + n) = m b) {v : Value} {p q : PV} (h : VRel F w m v p) (hs : shiftP n p = some q) : VRel F w m2 v q := by
  unfold shiftP at hs
  split at hs
  · rw [Option.map_eq_some_iff] at hs
    obtain ⟨q', hq, rfl⟩ := hs
    obtain ⟨e, ih⟩ := shiftT_rel (F := F) (w := w) h2 hq
    cases h with
    | tup xs _ hl h => exact .tup _ _ (by omega) (fun i h1 h3 => ih i (by omega) h3 _ (h i h1 (by omega)))
  · exact shift0_rel h2 h hs
theorem shiftPs_get {n : Nat} : ∀ {l q : List PV}, shiftPs n l = some q → l.length = q.length ∧ ∀ i (h1 : i < l.length) (h3 : i < q.length), shiftP n l[i] = some q[i]
  | [], q, h => by
    simp [shiftPs] at h
    subst h
    exact ⟨rfl, fun i h1 => absurd h1 (by simp)⟩
  | p :: l, q, h => by
    simp only [shiftPs, Option.bind_eq_bind, Option.bind_eq_some_iff, Option.some.injEq] at h
    obtain ⟨x, hx, q', hq, rfl⟩ := h
    obtain ⟨e, ih⟩ := shiftPs_get hq
    refine ⟨by simp [e], fun i h1 h3 => ?_⟩
    cases i with
    | zero => exact hx
    | succ i => exact ih i (by simpa using h1) (by simpa using h3)
theorem shiftB_ok {n : Nat} {m2 : Nat → Slot} (h2 : ∀ b, m b ≠ .unborn → m2 (b + n) = m b) {β : Nat} {k k' : Blk} (h : BlkOk F m w β k) (hs : shiftB n k = some k') : BlkOk F m2 w β k' ∧ k'.sz = k.sz ∧ k'.g = k.g := by
  unfold shiftB at hs
  rw [Option.map_eq_some_iff] at hs
  obtain ⟨xs, hxs, rfl⟩ := hs
  obtain ⟨cs, T, h1, h3, h4, h5⟩ := h
  obtain ⟨e, ih⟩ := shiftPs_get hxs
  have cell : ∀ i (h1 : i < k.xs.length) (h3 : i < xs.length), (k.xs[i]).cells.length = (xs[i]).cells.length ∧ ∀ j (q1 : j < (k.xs[i]).cells.length) (q2 : j < (xs[i]).cells.length) (v : Value), VRel F w m v (k.xs[i]).cells[j] → VRel F w m2 v (xs[i]).cells[j] := by
    intro i q1 q3
    have hsh := ih i q1 q3
    rcases shiftP_cells hsh with ⟨t, ht⟩ | hc
    · -- a tuple is one cell
      rw [ht] at hsh
      unfold shiftP at hsh
      simp only at hsh
      rw [Option.map_eq_some_iff] at hsh
      obtain ⟨q', hq', hx⟩ := hsh
      refine ⟨by rw [ht, ← hx]; rfl, fun j j1 j2 v hv => ?_⟩
      have hj : j = 0 := by rw [ht] at j1; simpa [PV.cells] using j1
      subst hj
      have e1 : (k.xs[i]).cells = [.tup t] := by rw [ht]; rfl
      have e2 : (xs[i]).cells = [.tup q'] := by rw [← hx]; rfl
      simp only [e1, e2, List.getElem_cons_zero] at hv ⊢
      exact shiftP_rel h2 hv (by simp [shiftP, hq'])
    · obtain ⟨el, hl⟩ := shiftL_rel (F := F) (w := w) h2 hc
      exact ⟨el, fun j j1 j2 v hv => hl j j1 j2 v hv⟩
  refine ⟨⟨cs, T, h1, by simp only; rw [← e]; exact h3, fun x hx => ?_, fun i hi j hj => ?_⟩, rfl, rfl⟩
  · obtain ⟨i, hi, rfl⟩ := List.mem_iff_getElem.1 hx
    rw [← (cell i (by simp only at hi; omega) hi).1]
    exact h4 _ (List.getElem_mem _)
  · simp only at hi hj
    obtain ⟨c1, c2⟩ := cell i (by omega) hi
    obtain ⟨v, hv, hr⟩ := h5 i (by omega) j (by omega)
    exact ⟨v, hv, c2 j _ hj v hr⟩
theorem shiftB_map {n : Nat} {β : Nat} {k k' : Blk} (h : MapOk w β k.xs) (hs : shiftB n k = some k') : MapOk w β k'.xs := by
  unfold shiftB at hs
  rw [Option.map_eq_some_iff] at hs
  obtain ⟨xs, hxs, rfl⟩ := hs
  obtain ⟨es, c, h1, h2, h3⟩ := h
  obtain ⟨e, ih⟩ := shiftPs_get hxs
  refine ⟨es, c, h1, by rw [h2, e], fun i q1 q2 => ?_⟩
  obtain ⟨nn, b, a1, a2, a3⟩ := h3 i q1 (by omega)
  refine ⟨nn, b, a1, a2, ?_⟩
  have := ih i (by omega) q2
  rw [a3] at this
  exact (Option.some.inj this).symm
theorem nstep_fresh {ri : RI} {f : FuncId} {as as' : List PV} {r r' : PV} {K : Hp} (hres : resolveRI P own o = some ri) (hc : callArgs (RO.ev gl env) ri = some (f, as)) (hs : softs H false as = some as') (hP : Fresh P gl f as' r K)
    (hr : shiftP H.n r = some r') : NStep P gl o ri.reads env H (some r') (H.addH K) := by
  refine ⟨Hp.le_addH H K, fun ro A w0 F m w G a next Q sim hG hU he hk => ?_⟩
  obtain ⟨vs, hex, hvs⟩ := call_args hres sim he hP.1 hc
  obtain ⟨e, hrel⟩ := softs_rel (F' := F) sim (fun b k hk => Hp.le_some (Hp.le_trans (Hp.le_addH H K) hG) hk) (fun _ h => h) (fun h => by simp at h) (vs := vs.toList) hs (by simpa using hvs.1) (fun i q1 q2 => by have := hvs.2 i (by simpa using q1) q2; rwa [Array.getElem_toList])
  have hcs : CsRel F noM w vs as' := ⟨by simpa using e, fun i q1 q2 => by have := hrel i (by simpa using q1) q2; rwa [Array.getElem_toList] at this⟩
  have hcall := hP.2 F w vs sim.frzlt sim.glob hcs
  refine ow_of hres (fun e => by rw [e] at hc; cases hc) ?_
  rw [hex, Oper.uponIn_enter]
  refine ⟨fun h => (by cases h), callsIn_RF (hcall.mono ?_)⟩
  rintro e' w' ⟨v, F', m', rfl, s, hu, hfz, hv⟩
  let m2 : Nat → Slot := fun c => if c < H.n then m c else if c < H.n + K.n then m' (c - H.n) else m c
  have hm2 : ∀ b, m' b ≠ .unborn → m2 (b + H.n) = m' b := by
    intro b hb
    have hbn : b < K.n := Nat.lt_of_not_le fun h => hb (hu b h)
    show (if b + H.n < H.n then m (b + H.n) else if b + H.n < H.n + K.n then m' (b + H.n - H.n) else m (b + H.n)) = m' b
    rw [if_neg (by omega), if_pos (by omega), Nat.add_sub_cancel]
  have m2lo : ∀ c, ¬ (H.n ≤ c ∧ c < H.n + K.n) → m2 c = m c := by
    intro c hc
    show (if c < H.n then m c else if c < H.n + K.n then m' (c - H.n) else m c) = m c
    by_cases h : c < H.n
    · rw [if_pos h]
    · rw [if_neg h, if_neg (by omega)]
  have m2hi : ∀ c, H.n ≤ c → c < H.n + K.n → m2 c = m' (c - H.n) := by
    intro c h1 h2
    show (if c < H.n then m c else if c < H.n + K.n then m' (c - H.n) else m c) = m' (c - H.n)
    rw [if_neg (by omega), if_pos h2]
  have live2 : ∀ {c β}, (m2 c).at = some β → ((m c).at = some β ∧ ¬ (H.n ≤ c ∧ c < H.n + K.n)) ∨ ((m' (c - H.n)).at = some β ∧ H.n ≤ c ∧ c < H.n + K.n) := by
    intro c β h
    by_cases hc' : H.n ≤ c ∧ c < H.n + K.n
    · rw [m2hi c hc'.1 hc'.2] at h; exact .inr ⟨h, hc'⟩
    · rw [m2lo c hc'] at h; exact .inl ⟨h, hc'⟩
  have ev2 : Ev F m w F' m2 w' := by
    refine ⟨s.below.size, hfz, sim.fnl, fun β hb _ => s.below.block β hb, fun β ⟨c, h⟩ => ?_, fun β hb => by unfold rowSize; rw [s.below.block β hb], fun c => ?_, sim.liv, fun β h => (s.frz β h).elim .inl fun h => .inr (.inr h)⟩
    · rcases live2 h with ⟨h, _⟩ | ⟨h, _⟩
      · exact .inl ⟨c, h⟩
      · exact .inr (s.live _ _ h).1
    · by_cases hc' : H.n ≤ c ∧ c < H.n + K.n
      · rw [hU c hc'.1 hc'.2]; trivial
      · rw [m2lo c hc']; exact slot_refl _
  have sim2 : Sim gl A w0 F' m2 w' G := by
    refine ⟨sim.below.trans ⟨s.below.os, s.below.tape, s.below.output, s.below.size, fun k hk => s.below.block k (Nat.lt_of_lt_of_le hk sim.below.size)⟩, ?_, ?_, ?_, s.frzlt, ?_, fun g p hp => (sim.glob g p hp).monoNo ev2⟩
    · intro c β h
      rcases live2 h with ⟨h, _⟩ | ⟨h, _⟩
      · obtain ⟨a1, a2, a3⟩ := sim.live c β h
        refine ⟨a1, Nat.lt_of_lt_of_le a2 s.below.size, fun hf => ?_⟩
        rcases s.frz β hf with h' | h'
        · exact a3 h'
        · omega
      · obtain ⟨a1, a2, a3⟩ := s.live _ β h
        exact ⟨Nat.le_trans sim.below.size a1, a2, a3⟩
    · intro c c' β h h'
      rcases live2 h with ⟨h, _⟩ | ⟨h, hc1⟩ <;> rcases live2 h' with ⟨h', _⟩ | ⟨h', hc2⟩
      · exact sim.inj c c' β h h'
      · have := (sim.live _ _ h).2.1; have := (s.live _ _ h').1; omega
      · have := (sim.live _ _ h').2.1; have := (s.live _ _ h).1; omega
      · have := s.inj _ _ β h h'; omega
    · intro β hf
      rcases s.frz β hf with h | h
      · exact sim.frz β h
      · exact .inr (Nat.le_trans sim.below.size h)
    · intro c k hk' hnu
      by_cases hc' : H.n ≤ c ∧ c < H.n + K.n
      · rw [m2hi c hc'.1 hc'.2] at hnu ⊢
        have hgc : G.f c = (K.f (c - H.n)).bind (shiftB H.n) := by
          rw [hG.2 c (by simp [Hp.addH]; omega)]
          simp only [Hp.addH]
          rw [if_neg (by omega)]
        rw [hgc, Option.bind_eq_some_iff] at hk'
        obtain ⟨k0, hk0, hsh⟩ := hk'
        rcases s.blk _ k0 hk0 hnu with ⟨β, hm, hok⟩ | ⟨hvi, hxs⟩ | ⟨β, hm, hok⟩ | ⟨β, hm, _, _, _, hx, _⟩
        case inr.inl =>
          unfold shiftB at hsh
          rw [hxs] at hsh
          simp only [shiftPs, Option.map_some, Option.some.injEq] at hsh
          subst hsh
          exact .inr (.inl ⟨hvi, rfl⟩)
        case inr.inr.inl =>
          exact .inr (.inr (.inl ⟨β, hm, shiftB_map hok hsh⟩))
        case inr.inr.inr =>
          unfold shiftB at hsh
          rw [hx] at hsh
          cases hsh
        obtain ⟨q1, q2, q3⟩ := shiftB_ok hm2 hok hsh
        exact .inl ⟨β, by rw [q2, q3]; exact hm, q1⟩
      · rw [m2lo c hc'] at hnu ⊢
        rcases sim.blk c k hk' hnu with ⟨β, hm, hok⟩ | hv
        case inr => exact .inr (hv.mono ev2 fun β e => s.below.block β (sim.live _ _ (at_mp e)).2.1)
        exact .inl ⟨β, hm, hok.mono ev2 (s.below.block β (sim.live _ _ (at_live hm)).2.1)⟩
  refine hk v w' F' m2 sim2 ev2 (fun p hp => ?_) (fun b hb h => by rw [m2lo b (by simpa [Hp.addH] using hb)]; exact h)
  injection hp with hp
  subst hp
  exact shiftP_rel hm2 hv hr
end
end Go.Vm
namespace Go.Vm
open Go Go.RowKit
def RI.inert : RI → Bool
  | .move _ | .pick .. | .build .. | .bin .. | .binb .. | .eqs .. | .un .. | .conv .. | .fieldAddr .. | .field .. | .loadF .. | .idxAddrA .. | .idx .. | .extract .. | .len .. | .mm .. | .mkfunc .. => true
  | .prim (.sliceSl sz false _ true) _ => sz != 3
  | _ => false
def ROper.names (o : ROper) : List Nat := o.dst.toList ++ (o.op.reads ++ (match o.guard with | some (s, _) => [s] | none => []))
def ROper.looks (o : ROper) : List Nat := o.op.reads ++ (match o.guard with | some (s, _) => [s] | none => [])
def apartOk (e : ROper → Bool) (x y : ROper) : Bool :=
  (x.dst.toList.all fun d => !y.names.contains d) && (y.dst.toList.all fun d => !x.names.contains d) && (!e x || y.op.inert) && (!e y || x.op.inert)
def regOk (e : ROper → Bool) (l : List ROper) : Bool :=
  (List.range l.length).all fun j => (List.range j).all fun i =>
    match l[i]?, l[j]? with
    | some x, some y => y.bef.testBit i || apartOk e x y
    | _, _ => true
def befOk (ops : Array Oper) (l : List ROper) : Bool :=
  (List.range l.length).all fun j =>
    match l[j]?, ops[j]? with
    | some y, some o => (o.after.all fun e => !Region.binds .any e || decide (e.on < j)) && (List.range j).all fun i => !y.bef.testBit i || o.after.any fun e => Region.binds .any e && (e.on == i || (decide (e.on < j) && decide (i < e.on) && (match l[e.on]? with | some x => x.bef.testBit i | none => false)))
    | _, _ => true
def OpsMatch (ops : Array Oper) (l : List ROper) : Prop :=
  ops.size = l.length ∧ ∀ (i : Nat) (o : Oper) (q : ROper), ops[i]? = some o → l[i]? = some q → q.dst = o.dst ∧
    (match o.guard with
     | none => q.guard = none
     | some (j, b) => ∃ s, q.guard = some (s, b) ∧ (ops[j]?).bind (·.dst) = some s)
def PV.goes (b : Bool) : PV → Bool
  | .bool x => x == b
  | _ => false
def Hp.res (H : Hp) (j : Nat) : Hp := ⟨H.n + j, H.f, fun b hb => H.wf b (by omega)⟩
theorem Hp.le_res (H : Hp) (j : Nat) : H.le (H.res j) := ⟨by simp [Hp.res], fun _ _ => rfl⟩
theorem Hp.res_zero (H : Hp) : H.res 0 = H := rfl
inductive StepK (P : Program) (gl : Nat → Option PV) (o : Oper) (q : ROper) (e : Bool) (e0 : Env) (H0 : Hp) (e1 : Env) (H1 : Hp) : Prop where
  | skip (s : Nat) (b : Bool) (p : PV) (j : Nat) (h1 : q.guard = some (s, b)) (h2 : e0 s = some p) (h2' : p.goes b = false) (h3 : e1 = e0.put q.dst (some (.tup []))) (h4 : H1 = H0.res j) (h5 : q.op.inert = true → j = 0)
  | run (hg : q.guard = none ∨ ∃ s b p, q.guard = some (s, b) ∧ e0 s = some p ∧ p.goes b = true) (r : Option PV) (h3 : e1 = e0.put q.dst r)
      (h : (q.op.inert = true ∧ IStep P gl o q.op.reads e0 r ∧ H1 = H0) ∨ (q.op.inert = false ∧ e = false ∧ NStep P gl o q.op.reads e0 H0 r H1) ∨ (e = true ∧ EStep P gl o q.op.reads e0 H0 r H1))
theorem StepK.env {P gl o q e e0 H0 e1 H1} (h : StepK P gl o q e e0 H0 e1 H1) {t : Nat} (ht : q.dst ≠ some t) : e1 t = e0 t := by
  have : ∀ r, e0.put q.dst r t = e0 t := by
    intro r
    unfold Env.put
    cases hd : q.dst with
    | none => rfl
    | some d => exact if_neg fun e => ht (by rw [hd, e])
  cases h with
  | skip s b p j h1 h2 h2' h3 h4 h5 => rw [h3]; exact this _
  | run hg r h3 h => rw [h3]; exact this r
theorem StepK.n {P gl o q e e0 H0 e1 H1} (h : StepK P gl o q e e0 H0 e1 H1) : H0.n ≤ H1.n := by
  cases h with
  | skip s b p j h1 h2 h2' h3 h4 h5 => rw [h4]; exact (Hp.le_res _ _).1
  | run hg r h3 h =>
    rcases h with ⟨_, _, h⟩ | ⟨_, _, h⟩ | ⟨_, h⟩
    · rw [h]; exact Nat.le_refl _
    · exact h.1.1
    · exact h.1
theorem StepK.le {P gl o q e e0 H0 e1 H1} (h : StepK P gl o q e e0 H0 e1 H1) (he : e = false) : H0.le H1 := by
  cases h with
  | skip s b p j h1 h2 h2' h3 h4 h5 => rw [h4]; exact Hp.le_res _ _
  | run hg r h3 h =>
    rcases h with ⟨_, _, h⟩ | ⟨_, _, h⟩ | ⟨h, _⟩
    · rw [h]; exact Hp.le_refl _
    · exact h.1
    · rw [he] at h; cases h
theorem StepK.inert {P gl o q e e0 H0 e1 H1} (h : StepK P gl o q e e0 H0 e1 H1) (hi : q.op.inert = true) (h2 : e = true → q.op.inert = false) : H1 = H0 := by
  cases h with
  | skip s b p j h1 h2 h2' h3 h4 h5 => rw [h4, h5 hi]; rfl
  | run hg r h3 h =>
    rcases h with ⟨_, _, h⟩ | ⟨h, _, _⟩ | ⟨h, _⟩
    · exact h
    · rw [hi] at h; cases h
    · rw [h2 h] at hi; cases hi
/-! ### The frame's temporaries as they are when some operations have been done -/
def envL (D : Nat → Option Nat) (env : Nat → Env) (L : Nat → Bool) : Nat → Env
  | 0 => env 0
  | k + 1 => fun t => if L k = true ∧ D k = some t then env (k + 1) t else envL D env L k t
theorem envL_skip {D env L t} : ∀ {a b : Nat}, a ≤ b → (∀ k, a ≤ k → k < b → ¬ (L k = true ∧ D k = some t)) → envL D env L b t = envL D env L a t := by
  intro a b hab h
  induction b with
  | zero =>
            obtain rfl : a = 0 := (by omega)
            rfl
  | succ b ih =>
    by_cases e : a = b + 1
    · rw [e]
    · show (if L b = true ∧ D b = some t then env (b + 1) t else envL D env L b t) = _
      rw [if_neg (h b (by omega) (by omega))]
      exact ih (by omega) (fun k h1 h2 => h k h1 (by omega))
theorem envL_done {D : Nat → Option Nat} {env : Nat → Env} {L : Nat → Bool} {t : Nat} {n : Nat} (hk : ∀ k, k < n → D k ≠ some t → env (k + 1) t = env k t) : ∀ {i : Nat}, i ≤ n → (∀ k, k < i → D k = some t → L k = true) → envL D env L i t = env i t := by
  intro i hi h
  induction i with
  | zero => rfl
  | succ i ih =>
    show (if L i = true ∧ D i = some t then env (i + 1) t else envL D env L i t) = _
    by_cases hd : D i = some t
    · rw [if_pos ⟨h i (by omega) hd, hd⟩]
    · rw [if_neg (fun e => hd e.2), ih (by omega) (fun k h1 h2 => h k (by omega) h2), hk i (by omega) hd]
theorem envL_congr {D env t} {L L' : Nat → Bool} : ∀ {n : Nat}, (∀ k, k < n → D k = some t → L k = L' k) → envL D env L n t = envL D env L' n t := by
  intro n h
  induction n with
  | zero => rfl
  | succ n ih =>
    show (if L n = true ∧ D n = some t then _ else _) = (if L' n = true ∧ D n = some t then _ else _)
    by_cases hd : D n = some t
    · rw [h n (by omega) hd, ih (fun k h1 h2 => h k (by omega) h2)]
    · rw [if_neg (fun e => hd e.2), if_neg (fun e => hd e.2)]
      exact ih (fun k h1 h2 => h k (by omega) h2)
/-! ### Counting what has been done -/
theorem count_set : ∀ (n : Nat) (f g : Nat → Bool) (i : Nat), i < n → f i = false → g i = true → (∀ k, k ≠ i → g k = f k) → (List.range n).countP g = (List.range n).countP f + 1
  | 0, f, g, i, h, _, _, _ => by omega
  | n + 1, f, g, i, h, hf, hg, hk => by
    rw [List.range_succ, List.countP_append, List.countP_append]
    by_cases e : i = n
    · subst e
      have : (List.range i).countP g = (List.range i).countP f := List.countP_congr fun k hk' => by rw [hk k (by have := List.mem_range.1 hk'; omega)]
      rw [this]
      simp [hf, hg]
    · rw [count_set n f g i (by omega) hf hg hk]
      have : g n = f n := hk n (by omega)
      simp [this]
      omega
theorem count_full : ∀ (n : Nat) (f : Nat → Bool), (List.range n).countP f = n → ∀ i, i < n → f i = true
  | 0, f, _, i, h => by omega
  | n + 1, f, h, i, hi => by
    rw [List.range_succ, List.countP_append] at h
    have h1 : (List.range n).countP f ≤ n := by have := List.countP_le_length (p := f) (l := List.range n); simpa using this
    have h2 : ([n] : List Nat).countP f ≤ 1 := by have := List.countP_le_length (p := f) (l := [n]); simpa using this
    by_cases e : i = n
    · subst e
      have h3 : ([i] : List Nat).countP f = 1 := by omega
      by_cases hf : f i = true
      · exact hf
      · simp [hf] at h3
    · exact count_full n f (by omega) i (by omega)
theorem le_span {hp : Nat → Hp} : ∀ {a b : Nat}, a ≤ b → (∀ k, a ≤ k → k < b → (hp k).le (hp (k + 1))) → (hp a).le (hp b) := by
  intro a b hab h
  induction b with
  | zero =>
            obtain rfl : a = 0 := (by omega)
            exact Hp.le_refl _
  | succ b ih =>
    by_cases e : a = b + 1
    · rw [e]; exact Hp.le_refl _
    · exact Hp.le_trans (ih (by omega) fun k h1 h2 => h k h1 (by omega)) (h b (by omega) (by omega))
theorem n_span {hp : Nat → Hp} {n : Nat} (h : ∀ k, k < n → (hp k).n ≤ (hp (k + 1)).n) : ∀ {a b : Nat}, a ≤ b → b ≤ n → (hp a).n ≤ (hp b).n := by
  intro a b hab hb
  induction b with
  | zero =>
            obtain rfl : a = 0 := (by omega)
            exact Nat.le_refl _
  | succ b ih =>
    by_cases e : a = b + 1
    · rw [e]; exact Nat.le_refl _
    · exact Nat.le_trans (ih (by omega) (by omega)) (h b (by omega))
theorem n_find {hp : Nat → Hp} {n : Nat} {x : Nat} : ∀ {i : Nat}, i ≤ n → (hp i).n ≤ x → (hp n).n ≤ x ∨ ∃ j, i ≤ j ∧ j < n ∧ (hp j).n ≤ x ∧ x < (hp (j + 1)).n := by
  intro i hi hx
  induction n with
  | zero =>
            obtain rfl : i = 0 := (by omega)
            exact .inl hx
  | succ n ih =>
    by_cases e : i = n + 1
    · rw [← e]; exact .inl hx
    · rcases ih (by omega) with h | ⟨j, h1, h2, h3, h4⟩
      · by_cases h5 : (hp (n + 1)).n ≤ x
        · exact .inl h5
        · exact .inr ⟨n, by omega, by omega, h, by omega⟩
      · exact .inr ⟨j, h1, by omega, h3, h4⟩
end Go.Vm
namespace Go.Vm
open Go Go.RowKit
structure Region1 (P : Program) (gl : Nat → Option PV) (ops : Array Oper) (l : List ROper) (e : ROper → Bool) (N : Nat) (env : Nat → Env) (hp : Nat → Hp) : Prop where
  mat : OpsMatch ops l
  reg : regOk e l = true
  bef : befOk ops l = true
  ei : ∀ q ∈ l, e q = true → q.op.inert = false
  step : ∀ (i : Nat) (o : Oper) (q : ROper), ops[i]? = some o → l[i]? = some q → StepK P gl o q (e q) (env i) (hp i) (env (i + 1)) (hp (i + 1))
  dst : ∀ q ∈ l, ∀ d, q.dst = some d → d < N
def Dof (l : List ROper) (k : Nat) : Option Nat := (l[k]?).bind (·.dst)
def Eof (e : ROper → Bool) (l : List ROper) (k : Nat) : Prop := ∃ q, l[k]? = some q ∧ e q = true
def Lof (listed : Array Bool) (k : Nat) : Bool := listed.getD k false
def DsOk (ds : List Deferred) (w00 : World) (F : Nat → Prop) (m : Nat → Slot) (a : Act) (w : World) : Prop :=
  ∃ Ds : List Nat, a.defers = (Ds.map fun D => { target := .collected D, args := #[] }) ++ ds ∧ Ds.Nodup ∧ ∀ D ∈ Ds, w.heap[D]? = some (.deferred (some [])) ∧ ¬ LiveIn m D ∧ ¬ F D ∧ w00.heap.size ≤ D
theorem DsOk.mono {ds : List Deferred} {w00 : World} {F m a w F' m' a' w'} (h : DsOk ds w00 F m a w) (ev : Ev F m w F' m' w') (hd : a'.defers = a.defers) : DsOk ds w00 F' m' a' w' := by
  obtain ⟨Ds, h1, h2, h3⟩ := h
  refine ⟨Ds, hd.trans h1, h2, fun D hD => ?_⟩
  obtain ⟨q1, q2, q3, q4⟩ := h3 D hD
  have hlt : D < w.heap.size := (Array.getElem?_eq_some_iff.1 q1).1
  refine ⟨(ev.keep D hlt q2).trans q1, fun hl => ?_, fun hf => ?_, q4⟩
  · rcases ev.fresh D hl with h | h
    · exact q2 h
    · omega
  · rcases ev.nfz D hf with h | h | h
    · exact q3 h
    · exact q2 h
    · omega
theorem DsOk.nil {w00 : World} {F m a w} (h : a.defers = []) : DsOk [] w00 F m a w := ⟨[], h, List.nodup_nil, fun D hD => by cases hD⟩
structure Inv (P : Program) (gl : Nat → Option PV) (ops : Array Oper) (l : List ROper) (e : ROper → Bool) (N : Nat) (env : Nat → Env) (hp : Nat → Hp) (A : Nat → Prop) (w0 : World) (F0 : Nat → Prop) (m0 : Nat → Slot) (w00 : World) (ds : List Deferred)
    (listed : Array Bool) (a : Act) (w : World) : Prop where
  size : listed.size = l.length
  closed : ∀ (j : Nat) (o : Oper), ops[j]? = some o → Lof listed j = true → ∀ x ∈ o.after, Region.binds .any x = true → Lof listed x.on = true
  state : ∃ F m k, k ≤ l.length ∧ (k < l.length → Eof e l k ∧ Lof listed k = false) ∧ (∀ j, j < k → Eof e l j → Lof listed j = true) ∧ Sim gl A w0 F m w (hp k) ∧ Ev F0 m0 w00 F m w ∧
    (∀ t p, envL (Dof l) env (Lof listed) l.length t = some p → VRel F w m (a.tmps.getD t undef) p) ∧ (∀ j, j < l.length → Lof listed j = false → ∀ b, (hp j).n ≤ b → b < (hp (j + 1)).n → m b = .unborn) ∧ (∀ b, (hp l.length).n ≤ b → m b = .unborn) ∧ DsOk ds w00 F m a w
  tmps : a.tmps.size = N
section
variable {P : Program} {gl : Nat → Option PV} {ops : Array Oper} {l : List ROper} {e : ROper → Bool} {N : Nat} {env : Nat → Env} {hp : Nat → Hp} {A : Nat → Prop} {w0 : World} {F0 : Nat → Prop} {m0 : Nat → Slot} {w00 : World} {ds : List Deferred}
theorem bef_listed (hb : befOk ops l = true) (hs : ops.size = l.length) {L : Nat → Bool} (hcl : ∀ (j : Nat) (o : Oper), ops[j]? = some o → L j = true → ∀ x ∈ o.after, Region.binds .any x = true → L x.on = true) :
    ∀ (j : Nat) (o : Oper) (q : ROper), ops[j]? = some o → l[j]? = some q → (∀ x ∈ o.after, Region.binds .any x = true → L x.on = true) → ∀ i, i < j → q.bef.testBit i = true → L i = true := by
  intro j
  induction j using Nat.strongRecOn with
  | _ j ih =>
    intro o q ho hq hedge i hi hbit
    have hj : j < l.length := (List.getElem?_eq_some_iff.1 hq).1
    have h1 := List.all_eq_true.1 hb j (List.mem_range.2 hj)
    simp only [hq, ho, Bool.and_eq_true] at h1
    have h2 := List.all_eq_true.1 h1.2 i (List.mem_range.2 hi)
    simp only [hbit, Bool.not_true, Bool.false_or] at h2
    rw [Array.any_eq_true'] at h2
    obtain ⟨x, hx, h3⟩ := h2
    simp only [Bool.and_eq_true, Bool.or_eq_true, beq_iff_eq, decide_eq_true_eq] at h3
    obtain ⟨hbind, h3⟩ := h3
    have hL := hedge x hx hbind
    rcases h3 with h3 | ⟨⟨h3, h4⟩, h5⟩
    · rw [← h3]; exact hL
    · split at h5
      · rename_i q' hq'
        have ho' : ops[x.on]? = some (ops[x.on]'(by omega)) := Array.getElem?_eq_getElem _
        exact ih x.on h3 _ q' ho' hq' (hcl x.on _ ho' hL) i h4 h5
      · cases h5
theorem edge_lt (hb : befOk ops l = true) {j : Nat} {o : Oper} (hj : j < l.length) (ho : ops[j]? = some o) {x : Edge} (hx : x ∈ o.after) (hbind : Region.binds .any x = true) : x.on < j := by
  have h1 := List.all_eq_true.1 hb j (List.mem_range.2 hj)
  simp only [List.getElem?_eq_getElem hj, ho, Bool.and_eq_true] at h1
  have h2 := Array.all_eq_true'.1 h1.1 x hx
  simpa [hbind] using h2
theorem pair_of (R : Region1 P gl ops l e N env hp) {listed : Array Bool} (hcl : ∀ (j : Nat) (o : Oper), ops[j]? = some o → Lof listed j = true → ∀ x ∈ o.after, Region.binds .any x = true → Lof listed x.on = true) {i : Nat} {o : Oper} {q : ROper}
    (ho : ops[i]? = some o) (hq : l[i]? = some q) (hedge : ∀ x ∈ o.after, Region.binds .any x = true → Lof listed x.on = true) (hni : Lof listed i = false) {j : Nat} {q' : ROper} (hq' : l[j]? = some q') (hne : j ≠ i) :
    (j < i ∧ Lof listed j = true) ∨ (i < j ∧ Lof listed j = false) ∨ ((∀ d, q'.dst = some d → d ∉ q.names) ∧ (e q' = true → q.op.inert = true) ∧ (e q = true → q'.op.inert = true)) := by
  have hi : i < l.length := (List.getElem?_eq_some_iff.1 hq).1
  have hj : j < l.length := (List.getElem?_eq_some_iff.1 hq').1
  rcases Nat.lt_or_gt_of_ne hne with h | h
  · have h1 := List.all_eq_true.1 (List.all_eq_true.1 R.reg i (List.mem_range.2 hi)) j (List.mem_range.2 h)
    simp only [hq, hq', Bool.or_eq_true] at h1
    rcases h1 with h1 | h1
    · exact .inl ⟨h, bef_listed R.bef R.mat.1 hcl i o q ho hq hedge j h h1⟩
    · refine .inr (.inr ?_)
      simp only [apartOk, Bool.and_eq_true, Bool.or_eq_true, Bool.not_eq_true', List.all_eq_true, Option.mem_toList] at h1
      obtain ⟨⟨⟨h2, h3⟩, h4⟩, h5⟩ := h1
      exact ⟨fun d hd hm => by have := h2 d hd; simp at this; exact this hm, fun he => h4.resolve_left (by simp [he]), fun he => h5.resolve_left (by simp [he])⟩
  · cases hL : Lof listed j with
    | false => exact .inr (.inl ⟨h, rfl⟩)
    | true =>
      refine .inr (.inr ?_)
      have h1 := List.all_eq_true.1 (List.all_eq_true.1 R.reg j (List.mem_range.2 hj)) i (List.mem_range.2 h)
      simp only [hq, hq', Bool.or_eq_true] at h1
      rcases h1 with h1 | h1
      · have ho' : ops[j]? = some (ops[j]'(by have := R.mat.1; omega)) := Array.getElem?_eq_getElem _
        have := bef_listed R.bef R.mat.1 hcl j _ q' ho' hq' (hcl j _ ho' hL) i h h1
        rw [this] at hni; cases hni
      · simp only [apartOk, Bool.and_eq_true, Bool.or_eq_true, Bool.not_eq_true', List.all_eq_true, Option.mem_toList] at h1
        obtain ⟨⟨⟨h2, h3⟩, h4⟩, h5⟩ := h1
        exact ⟨fun d hd hm => by have := h3 d hd; simp at this; exact this hm, fun he => h5.resolve_left (by simp [he]), fun he => h4.resolve_left (by simp [he])⟩
theorem names_looks {q : ROper} {t : Nat} (h : t ∈ q.looks) : t ∈ q.names := by
  unfold ROper.names
  exact List.mem_append_right _ h
theorem names_dst {q : ROper} {t : Nat} (h : q.dst = some t) : t ∈ q.names := by
  unfold ROper.names
  exact List.mem_append_left _ (by simp [h])
theorem wanted_of {o : Oper} {q : ROper} {a : Act} {F : Nat → Prop} {m : Nat → Slot} {w : World} {p : PV} (hm : q.dst = o.dst ∧ (match o.guard with
     | none => q.guard = none
     | some (j, b) => ∃ s, q.guard = some (s, b) ∧ (ops[j]?).bind (·.dst) = some s)) {s : Nat} {b : Bool} (hg : q.guard = some (s, b)) (hv : VRel F w m (a.tmps.getD s undef) p) : Region.wanted o (yielded ops a.tmps) = p.goes b := by
  have hm := hm.2
  unfold Region.wanted
  cases hog : o.guard with
  | none => rw [hog] at hm; rw [hm] at hg; cases hg
  | some jb =>
    obtain ⟨j, b0⟩ := jb
    rw [hog] at hm
    obtain ⟨s', hs', hd⟩ := hm
    rw [hs'] at hg
    injection hg with hg
    injection hg with h1 h2
    subst h1
    subst h2
    simp only
    rw [Array.getD_eq_getD_getElem?] at hv
    simp only [yielded, hd, Option.bind_some]
    cases ht : a.tmps[s']? with
    | none =>
      rw [ht] at hv
      simp only [Option.getD_none, undef] at hv
      cases hv
      all_goals rfl
    | some v =>
      rw [ht] at hv
      simp only [Option.getD_some] at hv
      cases hv <;> rfl
theorem wanted_none {o : Oper} {q : ROper} {a : Act} (hm : q.dst = o.dst ∧ (match o.guard with
     | none => q.guard = none
     | some (j, b) => ∃ s, q.guard = some (s, b) ∧ (ops[j]?).bind (·.dst) = some s)) (hg : q.guard = none) : Region.wanted o (yielded ops a.tmps) = true := by
  have hm := hm.2
  unfold Region.wanted
  cases hog : o.guard with
  | none => rfl
  | some jb =>
    obtain ⟨j, b0⟩ := jb
    rw [hog] at hm
    obtain ⟨s', hs', hd⟩ := hm
    rw [hs'] at hg
    cases hg
theorem put_get {a : Act} {d t : Nat} {v : Value} : (a.put (some d) v).tmps.getD t undef = if t = d ∧ d < a.tmps.size then v else a.tmps.getD t undef := by
  unfold Act.put
  simp only [Array.getD_eq_getD_getElem?]
  by_cases h : t = d
  · subst h
    by_cases h2 : t < a.tmps.size
    · rw [Array.getElem?_setIfInBounds_self_of_lt h2, if_pos ⟨rfl, h2⟩]; rfl
    · rw [if_neg (by omega)]
      congr 1
      rw [Array.getElem?_eq_none (by simp; omega), Array.getElem?_eq_none (by omega)]
  · rw [Array.getElem?_setIfInBounds_ne (Ne.symm h), if_neg (by omega)]
theorem put_size {a : Act} {d : Option Nat} {v : Value} : (a.put d v).tmps.size = a.tmps.size := by
  unfold Act.put
  split <;> simp
theorem put_defers' {a : Act} {d : Option Nat} {v : Value} : (a.put d v).defers = a.defers := by
  unfold Act.put
  split <;> rfl
theorem lof_set {listed : Array Bool} {i j : Nat} (hi : i < listed.size) : Lof (listed.setIfInBounds i true) j = if j = i then true else Lof listed j := by
  unfold Lof
  by_cases h : j = i
  · subst h
    rw [if_pos rfl]
    simp [hi]
  · rw [if_neg h]
    exact getD_set_ne false (Ne.symm h)
theorem any_order {ro : Option Nat} (R : Region1 P gl ops l e N env hp) {Q : Exit → Act → World → Prop}
    (fin : ∀ a w F m, Sim gl A w0 F m w (hp l.length) → Ev F0 m0 w00 F m w → (∀ t p, env l.length t = some p → VRel F w m (a.tmps.getD t undef) p) → (∀ b, (hp l.length).n ≤ b → m b = .unborn) → a.tmps.size = N → DsOk ds w00 F m a w → Q .normal a w) :
    ∀ (fuel : Nat) (listed : Array Bool) (a : Act) (w : World), Inv P gl ops l e N env hp A w0 F0 m0 w00 ds listed a w → (List.range l.length).countP (Lof listed) + fuel = l.length → wpAnyIn (RF ro) 0 P .any ops Q fuel listed a w := by
  have hsz := R.mat.1
  -- all is done
  have done : ∀ (listed : Array Bool) (a : Act) (w : World), Inv P gl ops l e N env hp A w0 F0 m0 w00 ds listed a w → (∀ i, i < l.length → Lof listed i = true) → Q .normal a w := by
    intro listed a w hI hall
    obtain ⟨F, m, k, hk, hk1, hk2, sim, ev, ht, hu1, hu2, hds⟩ := hI.state
    have : k = l.length := by
      rcases Nat.lt_or_ge k l.length with h | h
      · have := (hk1 h).2; rw [hall k h] at this; cases this
      · omega
    subst this
    refine fin a w F m sim ev (fun t p hp' => ht t p ?_) hu2 hI.tmps hds
    rw [← hp']
    refine envL_done (n := l.length) (fun k hk hd => ?_) (Nat.le_refl _) (fun k hk _ => hall k hk)
    have hq : l[k]? = some l[k] := List.getElem?_eq_getElem hk
    exact (R.step k _ _ (Array.getElem?_eq_getElem (by omega)) hq).env (by intro h; apply hd; simp [Dof, hq, h])
  -- who is first is ready
  have some_ready : ∀ (listed : Array Bool), listed.size = l.length → (∃ i, i < l.length ∧ Lof listed i = false) → Region.ready .any ops listed ≠ [] := by
    intro listed hls ⟨i, hi, hn⟩ hr
    obtain ⟨j, ⟨hj1, hj2⟩, hjmin⟩ := exists_least (p := fun i => i < l.length ∧ Lof listed i = false) ⟨i, hi, hn⟩
    have : j ∈ Region.ready .any ops listed := by
      rw [mem_ready]
      refine ⟨by rw [← hj2]; unfold Lof; simp [Array.getD, show j < listed.size by omega], ops[j]'(by omega), Array.getElem?_eq_getElem _, fun x hx hb => ?_⟩
      have hlt := edge_lt R.bef hj1 (Array.getElem?_eq_getElem (by omega)) hx hb
      cases h : Lof listed x.on with
      | true => exact h
      | false => exact absurd (hjmin x.on ⟨by omega, h⟩) (by omega)
    rw [hr] at this
    cases this
  intro fuel
  induction fuel with
  | zero =>
    intro listed a w hI hc
    have hall := count_full l.length (Lof listed) (by omega)
    refine ⟨?_, done listed a w hI hall⟩
    rcases hr : Region.ready .any ops listed with _ | ⟨j, r⟩
    · rfl
    · have hj : j ∈ Region.ready .any ops listed := by rw [hr]; simp
      rw [mem_ready] at hj
      obtain ⟨h1, o, ho, _⟩ := hj
      have hlt : j < ops.size := (Array.getElem?_eq_some_iff.1 ho).1
      have := hall j (by omega)
      unfold Lof at this
      have hls := hI.size
      simp [Array.getD, show j < listed.size by omega] at h1 this
      rw [h1] at this
      cases this
  | succ fuel ih =>
    intro listed a w hI hc
    have hls := hI.size
    refine ⟨fun hr => ?_, fun i hi => ?_⟩
    · by_cases hall : ∀ i, i < l.length → Lof listed i = true
      · exact done listed a w hI hall
      · exfalso
        apply some_ready listed hI.size _ hr
        refine Classical.byContradiction fun hno => hall fun i hi => ?_
        cases h : Lof listed i with
        | true => rfl
        | false => exact absurd ⟨i, hi, h⟩ hno
    · rw [mem_ready] at hi
      obtain ⟨h1, o, ho, hedge⟩ := hi
      have hil : i < l.length := by have := (Array.getElem?_eq_some_iff.1 ho).1; omega
      have hni : Lof listed i = false := by unfold Lof; simp [Array.getD, show i < listed.size by omega] at h1 ⊢; exact h1
      obtain ⟨q, hq⟩ : ∃ q, l[i]? = some q := ⟨l[i], List.getElem?_eq_getElem hil⟩
      have hm := R.mat.2 i o q ho hq
      have hqm : q ∈ l := List.mem_of_getElem? hq
      have step := R.step i o q ho hq
      obtain ⟨F, m, k, hk, hk1, hk2, sim, ev, ht, hu1, hu2, hds⟩ := hI.state
      have pair := fun {j : Nat} {q' : ROper} (hq' : l[j]? = some q') (hne : j ≠ i) => pair_of R hI.closed ho hq hedge hni hq' hne
      have keepK : ∀ k, k < l.length → ∀ t, Dof l k ≠ some t → env (k + 1) t = env k t := by
        intro k hk t hd
        have hq : l[k]? = some l[k] := List.getElem?_eq_getElem hk
        exact (R.step k _ _ (Array.getElem?_eq_getElem (by omega)) hq).env (by intro h; apply hd; simp [Dof, hq, h])
      -- what the operation looks at is as in the text
      have hlook : ∀ t, t ∈ q.looks → envL (Dof l) env (Lof listed) l.length t = env i t := by
        intro t htl
        have e1 : envL (Dof l) env (Lof listed) l.length t = envL (Dof l) env (Lof listed) i t := by
          refine envL_skip (by omega) (fun k hk1 hk2 hk3 => ?_)
          by_cases hki : k = i
          · subst hki; rw [hni] at hk3; cases hk3.1
          · obtain ⟨q', hq'⟩ : ∃ q', l[k]? = some q' := ⟨l[k], List.getElem?_eq_getElem hk2⟩
            have hd : q'.dst = some t := by have := hk3.2; simpa [Dof, hq'] using this
            rcases pair hq' hki with h | h | h
            · omega
            · rw [h.2] at hk3; cases hk3.1
            · exact h.1 t hd (names_looks htl)
        rw [e1]
        refine envL_done (n := l.length) (fun k hk hd => keepK k hk t hd) (by omega) (fun k hki hd => ?_)
        obtain ⟨q', hq'⟩ : ∃ q', l[k]? = some q' := ⟨l[k], List.getElem?_eq_getElem (by omega)⟩
        have hd' : q'.dst = some t := by simpa [Dof, hq'] using hd
        rcases pair hq' (by omega) with h | h | h
        · exact h.2
        · omega
        · exact absurd (names_looks htl) (h.1 t hd')
      have hER : ERel F m w a (env i) q.op.reads := by
        intro t htr p hp'
        exact ht t p (by rw [hlook t (by unfold ROper.looks; exact List.mem_append_left _ htr)]; exact hp')
      have hset := fun {j : Nat} => lof_set (listed := listed) (i := i) (j := j) (by omega)
      -- what is told of the temporaries behind it
      have hafter : ∀ (r : Option PV) (v : Value) (w' : World) (F' : Nat → Prop) (m' : Nat → Slot), env (i + 1) = (env i).put q.dst r → Ev F m w F' m' w' → ORel F' m' w' v r →
          ∀ t p, envL (Dof l) env (Lof (listed.setIfInBounds i true)) l.length t = some p → VRel F' w' m' ((a.put o.dst v).tmps.getD t undef) p := by
        intro r v w' F' m' hr hev hv t p hp'
        by_cases hd : q.dst = some t
        · have e1 : envL (Dof l) env (Lof (listed.setIfInBounds i true)) l.length t = env (i + 1) t := by
            have e2 : envL (Dof l) env (Lof (listed.setIfInBounds i true)) l.length t = envL (Dof l) env (Lof (listed.setIfInBounds i true)) (i + 1) t := by
              refine envL_skip (by omega) (fun k hk1 hk2 hk3 => ?_)
              obtain ⟨q', hq'⟩ : ∃ q', l[k]? = some q' := ⟨l[k], List.getElem?_eq_getElem hk2⟩
              have hd' : q'.dst = some t := by have := hk3.2; simpa [Dof, hq'] using this
              have hL := hk3.1
              rw [hset, if_neg (by omega)] at hL
              rcases pair hq' (by omega) with h | h | h
              · omega
              · rw [h.2] at hL; cases hL
              · exact h.1 t hd' (names_dst hd)
            rw [e2]
            show (if Lof (listed.setIfInBounds i true) i = true ∧ Dof l i = some t then env (i + 1) t else _) = _
            rw [if_pos ⟨by rw [hset, if_pos rfl], by simp [Dof, hq, hd]⟩]
          rw [e1, hr, hd] at hp'
          have hp2 : r = some p := by simpa [Env.put] using hp'
          have hlt := R.dst q hqm t hd
          rw [← hm.1, hd, put_get, if_pos ⟨rfl, by rw [hI.tmps]; exact hlt⟩]
          exact hv p hp2
        · have e1 : envL (Dof l) env (Lof (listed.setIfInBounds i true)) l.length t = envL (Dof l) env (Lof listed) l.length t := by
            refine envL_congr (fun k hk hd' => ?_)
            have hki : k ≠ i := by intro e; subst e; apply hd; simpa [Dof, hq] using hd'
            rw [hset, if_neg hki]
          rw [e1] at hp'
          have hold := (ht t p hp').mono hev
          rw [← hm.1]
          cases hqd : q.dst with
          | none => exact hold
          | some d =>
            rw [put_get, if_neg (fun e => hd (by rw [hqd, e.1]))]
            exact hold
      -- the next state, whatever was done
      have hcount : (List.range l.length).countP (Lof (listed.setIfInBounds i true)) + fuel = l.length := by
        rw [count_set l.length (Lof listed) (Lof (listed.setIfInBounds i true)) i hil hni (by rw [hset, if_pos rfl]) (fun k hk => by rw [hset, if_neg hk])]
        omega
      have hclosed' : ∀ (j : Nat) (o : Oper), ops[j]? = some o → Lof (listed.setIfInBounds i true) j = true → ∀ x ∈ o.after, Region.binds .any x = true → Lof (listed.setIfInBounds i true) x.on = true := by
        intro j o' ho' hL x hx hb
        rw [hset] at hL ⊢
        by_cases hxi : x.on = i
        · rw [if_pos hxi]
        · rw [if_neg hxi]
          by_cases hji : j = i
          · subst hji
            rw [ho] at ho'
            injection ho' with ho'
            subst ho'
            exact hedge x hx hb
          · rw [if_neg hji] at hL
            exact hI.closed j o' ho' hL x hx hb
      have nmono := fun {a b : Nat} => n_span (hp := hp) (n := l.length) (a := a) (b := b) (fun k hk => (R.step k _ _ (Array.getElem?_eq_getElem (by omega)) (List.getElem?_eq_getElem hk)).n)
      have next : ∀ (r : Option PV) (v : Value) (w' : World) (F' : Nat → Prop) (m' : Nat → Slot) (k' : Nat), env (i + 1) = (env i).put q.dst r → k' ≤ l.length → (k' < l.length → Eof e l k' ∧ Lof (listed.setIfInBounds i true) k' = false) →
          (∀ j, j < k' → Eof e l j → Lof (listed.setIfInBounds i true) j = true) → Sim gl A w0 F' m' w' (hp k') → Ev F m w F' m' w' → ORel F' m' w' v r → (∀ j, j < l.length → Lof (listed.setIfInBounds i true) j = false → ∀ b, (hp j).n ≤ b → b < (hp (j + 1)).n → m' b = .unborn) →
          (∀ b, (hp l.length).n ≤ b → m' b = .unborn) → wpAnyIn (RF ro) 0 P .any ops Q fuel (listed.setIfInBounds i true) (a.put o.dst v) w' := by
        intro r v w' F' m' k' h1 h2 h3 h4 h5 h6 h7 h8 h9
        refine ih _ _ _ ⟨by simpa using hI.size, hclosed', ⟨F', m', k', h2, h3, h4, h5, ev.trans h6, hafter r v w' F' m' h1 h6 h7, h8, h9, hds.mono h6 put_defers'⟩, by rw [put_size]; exact hI.tmps⟩ hcount
      -- an operation that is not done, or changes nothing
      have quiet : e q = false → ∀ (r : Option PV) (v : Value) (w' : World) (F' : Nat → Prop) (m' : Nat → Slot), env (i + 1) = (env i).put q.dst r → Sim gl A w0 F' m' w' (hp k) → Ev F m w F' m' w' → ORel F' m' w' v r →
          (∀ b, ¬ ((hp i).n ≤ b ∧ b < (hp (i + 1)).n) → m b = .unborn → m' b = .unborn) → wpAnyIn (RF ro) 0 P .any ops Q fuel (listed.setIfInBounds i true) (a.put o.dst v) w' := by
        intro heq r v w' F' m' h1 h5 h6 h7 h8
        have hki : k ≠ i := by
          intro e0
          have hkl : k < l.length := by omega
          obtain ⟨⟨q', hq', he'⟩, _⟩ := hk1 hkl
          rw [e0, hq] at hq'
          injection hq' with hq'
          subst hq'
          rw [heq] at he'
          cases he'
        refine next r v w' F' m' k h1 hk (fun h => ⟨(hk1 h).1, by rw [hset, if_neg hki]; exact (hk1 h).2⟩) (fun j hj hE => by rw [hset]; split; rfl; exact hk2 j hj hE) h5 h6 h7 (fun j hj hL b hb1 hb2 => ?_) (fun b hb => h8 b (fun h => ?_) (hu2 b hb))
        · rw [hset] at hL
          by_cases hji : j = i
          · rw [if_pos hji] at hL; cases hL
          · rw [if_neg hji] at hL
            refine h8 b (fun h => ?_) (hu1 j hj hL b hb1 hb2)
            rcases Nat.lt_or_gt_of_ne hji with hlt | hgt
            · have := nmono (show j + 1 ≤ i by omega) (by omega); omega
            · have := nmono (show i + 1 ≤ j by omega) (by omega); omega
        · have := nmono (show i + 1 ≤ l.length by omega) (Nat.le_refl _)
          omega
      -- an operation that may change what is there: the world holds just what it held in the text
      have loud : e q = true → k = i ∧ (∀ b, (hp i).n ≤ b → m b = .unborn) ∧ ∀ (r : Option PV) (v : Value) (w' : World) (F' : Nat → Prop) (m' : Nat → Slot), env (i + 1) = (env i).put q.dst r → Sim gl A w0 F' m' w' (hp (i + 1)) → Ev F m w F' m' w' → ORel F' m' w' v r →
          (∀ b, (hp (i + 1)).n ≤ b → m' b = .unborn) → wpAnyIn (RF ro) 0 P .any ops Q fuel (listed.setIfInBounds i true) (a.put o.dst v) w' := by
        intro heq
        have hnin := R.ei q hqm heq
        -- others that look at the heap have their order
        have ordered : ∀ {j : Nat} {q' : ROper}, l[j]? = some q' → j ≠ i → q'.op.inert = false → (j < i ∧ Lof listed j = true) ∨ (i < j ∧ Lof listed j = false) := by
          intro j q' hq' hne hin
          rcases pair hq' hne with h | h | h
          · exact .inl h
          · exact .inr h
          · rw [h.2.2 heq] at hin; cases hin
        have hki : k = i := by
          rcases Nat.lt_trichotomy k i with h | h | h
          · obtain ⟨⟨q', hq', he'⟩, hL⟩ := hk1 (by omega)
            rcases ordered hq' (by omega) (R.ei q' (List.mem_of_getElem? hq') he') with h2 | h2
            · rw [hL] at h2; cases h2.2
            · omega
          · exact h
          · have := hk2 i h ⟨q, hq, heq⟩
            rw [hni] at this; cases this
        have hlater : ∀ j, i ≤ j → j < l.length → ∀ b, (hp j).n ≤ b → b < (hp (j + 1)).n → m b = .unborn := by
          intro j hij hj b hb1 hb2
          by_cases hji : j = i
          · exact hu1 j hj (by rw [hji]; exact hni) b hb1 hb2
          · obtain ⟨q', hq'⟩ : ∃ q', l[j]? = some q' := ⟨l[j], List.getElem?_eq_getElem hj⟩
            cases hin : q'.op.inert with
            | false =>
              rcases ordered hq' hji hin with h | h
              · omega
              · exact hu1 j hj h.2 b hb1 hb2
            | true =>
              -- it makes nothing
              rw [(R.step j _ q' (Array.getElem?_eq_getElem (by omega)) hq').inert hin (R.ei q' (List.mem_of_getElem? hq'))] at hb2
              omega
        have hub : ∀ b, (hp i).n ≤ b → m b = .unborn := by
          intro b hb
          rcases n_find (hp := hp) (n := l.length) (x := b) (i := i) (by omega) hb with h | ⟨j, h1, h2, h3, h4⟩
          · exact hu2 b h
          · exact hlater j h1 h2 b h3 h4
        refine ⟨hki, hub, fun r v w' F' m' h1 h5 h6 h7 h8 => ?_⟩
        -- the next one that may change what is there
        obtain ⟨k', ⟨hk'1, hk'2⟩, hk'min⟩ := exists_least (p := fun k' => i < k' ∧ (k' = l.length ∨ Eof e l k')) ⟨l.length, hil, .inl rfl⟩
        have hk'l : k' ≤ l.length := hk'min _ ⟨hil, .inl rfl⟩
        have hle : (hp (i + 1)).le (hp k') := by
          refine le_span (by omega) (fun j hj1 hj2 => ?_)
          have hq' : l[j]? = some (l[j]'(by omega)) := List.getElem?_eq_getElem _
          refine (R.step j _ _ (Array.getElem?_eq_getElem (by omega)) hq').le ?_
          cases h : e l[j] with
          | false => rfl
          | true => exact absurd (hk'min j ⟨by omega, .inr ⟨_, hq', h⟩⟩) (by omega)
        refine next r v w' F' m' k' h1 hk'l (fun h => ?_) (fun j hj hE => ?_) (h5.ext fun b hb => ?_) h6 h7 (fun j hj hL b hb1 hb2 => ?_) (fun b hb => h8 b ?_)
        · have hE : Eof e l k' := hk'2.resolve_left (by omega)
          refine ⟨hE, ?_⟩
          obtain ⟨q', hq', he'⟩ := hE
          rw [hset, if_neg (by omega)]
          rcases ordered hq' (by omega) (R.ei q' (List.mem_of_getElem? hq') he') with h2 | h2
          · omega
          · exact h2.2
        · rw [hset]
          by_cases hji : j = i
          · rw [if_pos hji]
          · rw [if_neg hji]
            rcases Nat.lt_or_gt_of_ne hji with hlt | hgt
            · exact hk2 j (by omega) hE
            · exact absurd (hk'min j ⟨hgt, .inr hE⟩) (by omega)
        · refine hle.2 b ?_
          exact Nat.lt_of_not_le fun h => hb (h8 b h)
        · rw [hset] at hL
          by_cases hji : j = i
          · rw [if_pos hji] at hL; cases hL
          · rw [if_neg hji] at hL
            rcases Nat.lt_or_gt_of_ne hji with hlt | hgt
            · -- it stands ahead, and is not done: it makes nothing
              obtain ⟨q', hq'⟩ : ∃ q', l[j]? = some q' := ⟨l[j], List.getElem?_eq_getElem hj⟩
              cases hin : q'.op.inert with
              | false =>
                rcases ordered hq' hji hin with h | h
                · rw [hL] at h; cases h.2
                · omega
              | true =>
                rw [(R.step j _ q' (Array.getElem?_eq_getElem (by omega)) hq').inert hin (R.ei q' (List.mem_of_getElem? hq'))] at hb2
                omega
            · exact h8 b (Nat.le_trans (nmono (show i + 1 ≤ j by omega) (by omega)) hb1)
        · exact Nat.le_trans (nmono (show i + 1 ≤ l.length by omega) (Nat.le_refl _)) hb
      -- the operation itself
      have guardv : ∀ s b p, q.guard = some (s, b) → env i s = some p → VRel F w m (a.tmps.getD s undef) p := by
        intro s b p hg hs
        exact ht s _ (by rw [hlook s (by unfold ROper.looks; rw [hg]; simp)]; exact hs)
      have nolive : ORel F m w undef (some (.tup [])) := fun p hp => by
        injection hp with hp
        subst hp
        exact .tup #[] [] rfl (fun i h1 => absurd h1 (by simp))
      cases step with
      | skip s b p j g1 g2 g2' g3 g4 g5 =>
        have hw := wanted_of (ops := ops) (a := a) hm g1 (guardv s _ p g1 g2)
        have hw' : Region.wanted o (yielded ops a.tmps) = false := by rw [hw]; exact g2'
        unfold wpOpIn
        simp only [ho, hw', Bool.false_eq_true, if_false]
        cases heq : e q with
        | false => exact ⟨fun _ _ => trivial, quiet heq _ undef w F m g3 sim (Ev.refl sim.fnl sim.liv) nolive (fun b _ h => h)⟩
        | true =>
          obtain ⟨rfl, hub, go⟩ := loud heq
          refine ⟨fun _ _ => trivial, ?_⟩
          refine go _ undef w F m g3 (by rw [g4]; exact sim.ext (fun _ _ => rfl)) (Ev.refl sim.fnl sim.liv) nolive (fun b hb => hub b (by rw [g4] at hb; simp [Hp.res] at hb; omega))
      | run hg r g3 g =>
        have hw' : Region.wanted o (yielded ops a.tmps) = true := by
          rcases hg with hg | ⟨s, b, p, hg, hs, hp⟩
          · exact wanted_none hm hg
          · rw [wanted_of (ops := ops) (a := a) hm hg (guardv s b p hg hs)]; exact hp
        unfold wpOpIn
        simp only [ho, hw', if_true]
        rcases g with ⟨hin, hI', hH⟩ | ⟨hin, heq, hN⟩ | ⟨heq, hE⟩
        · have heq : e q = false := by
            cases h : e q with
            | false => rfl
            | true => have := R.ei q hqm h; rw [hin] at this; cases this
          exact hI' ro A w0 F m w (hp k) a _ _ sim hER (fun v w' F' m' s ev' hv hmu => quiet heq r v w' F' m' g3 s ev' hv (fun b _ h => hmu b h))
        · -- it makes blocks
          have hki : i < k := by
            rcases Nat.lt_trichotomy k i with h | h | h
            · obtain ⟨⟨q', hq', he'⟩, hL⟩ := hk1 (by omega)
              rcases pair hq' (by omega) with h2 | h2 | h2
              · rw [hL] at h2; cases h2.2
              · omega
              · have := h2.2.1 he'; rw [hin] at this; cases this
            · have hkl : k < l.length := by omega
              obtain ⟨⟨q', hq', he'⟩, _⟩ := hk1 hkl
              rw [h, hq] at hq'
              injection hq' with hq'
              subst hq'
              rw [heq] at he'
              cases he'
            · exact h
          have hle : (hp (i + 1)).le (hp k) := by
            refine le_span (by omega) (fun j hj1 hj2 => ?_)
            have hq' : l[j]? = some (l[j]'(by omega)) := List.getElem?_eq_getElem _
            refine (R.step j _ _ (Array.getElem?_eq_getElem (by omega)) hq').le ?_
            cases h : e l[j] with
            | false => rfl
            | true =>
              rcases pair hq' (by omega) with h2 | h2 | h2
              · omega
              · have := hk2 j hj2 ⟨_, hq', h⟩; rw [h2.2] at this; cases this
              · have := h2.2.1 h; rw [hin] at this; cases this
          exact hN.2 ro A w0 F m w (hp k) a _ _ sim hle (fun b hb1 hb2 => hu1 i hil hni b hb1 hb2) hER (fun v w' F' m' s ev' hv hmu => quiet heq r v w' F' m' g3 s ev' hv hmu)
        · obtain ⟨rfl, hub, go⟩ := loud heq
          exact hE.2 ro A w0 F m w a _ _ sim hub hER (fun v w' F' m' s ev' hv hmu => go r v w' F' m' g3 s ev' hv hmu)
end
end Go.Vm
