/- copy: sound; and all instructions together. -/
import Derived.Test.YtjegabeechopdaaVmM
set_option linter.unusedSimpArgs false
set_option linter.unusedVariables false
namespace Go.Vm
open Go Go.RowKit
section
variable {P : Program} {gl : Nat → Option PV} {A : Nat → Prop} {w0 : World} {F : Nat → Prop} {m : Nat → Slot} {w : World} {G H : Hp} {a : Act} {env : Env} {o : Oper} {p : PV} {own : Bool}

theorem flat_take {s : Nat} : ∀ {l : List PV} (n : Nat), (∀ e ∈ l, e.cells.length = s) → flat (l.take n) = (flat l).take (n * s)
  | [], n, _ => by simp [flat]
  | x :: l, 0, _ => by simp [flat]
  | x :: l, n + 1, h => by
    have hx := h x (by simp)
    have ih := flat_take (l := l) n (fun e he => h e (by simp [he]))
    unfold flat at ih ⊢
    rw [List.take_succ_cons, List.flatMap_cons, List.flatMap_cons, ih, show (n + 1) * s = x.cells.length + n * s by rw [Nat.add_mul, hx]; omega, List.take_length_add_append]

theorem flat_drop {s : Nat} : ∀ {l : List PV} (n : Nat), (∀ e ∈ l, e.cells.length = s) → flat (l.drop n) = (flat l).drop (n * s)
  | [], n, _ => by simp [flat]
  | x :: l, 0, _ => by simp
  | x :: l, n + 1, h => by
    have hx := h x (by simp)
    have ih := flat_drop (l := l) n (fun e he => h e (by simp [he]))
    unfold flat at ih ⊢
    rw [List.drop_succ_cons, ih, List.flatMap_cons, show (n + 1) * s = x.cells.length + n * s by rw [Nat.add_mul, hx]; omega, List.drop_length_add_append]

/-- What a slice's value is, whatever it shows. -/
theorem slice_shape (sim : Sim gl A w0 F m w G) (hG : ∀ b k, H.f b = some k → G.f b = some k) {v : Value} {x : PV} {ys : List PV} (hv : VRel F w m v x) (he : elems H x = some ys) :
    ∃ As sc, v = .slice As ys.length sc ∧ (ys.length = 0 ∨ ∃ x, As = some x) ∧ ∃ s', ∀ y ∈ ys, y.cells.length = s' := by
  unfold elems at he
  split at he
  · injection he with he
    subst he
    cases hv with
    | slnil As c hc => exact ⟨As, c, rfl, .inl rfl, 0, by simp⟩
    | sl ad c s' _ cs hF hc hm hz hcell h => exact ⟨_, _, rfl, .inr ⟨_, rfl⟩, s', hz⟩
  · injection he with he
    subst he
    cases hv with
    | litnil => exact ⟨none, 0, rfl, .inl rfl, 0, by simp⟩
    | lit ad s' _ cs hF hm hz hcell h => exact ⟨_, _, rfl, .inr ⟨_, rfl⟩, s', hz⟩
  · rename_i b g off len
    simp only [Option.bind_eq_bind, Option.bind_eq_some_iff] at he
    obtain ⟨k, hk, he⟩ := he
    obtain ⟨hf, hg⟩ := Hp.blk_some hk
    split at he
    · rename_i hle
      injection he with he
      subst he
      cases hv with
      | ref Ad c _ _ _ _ h =>
        have hnu : m b ≠ .unborn := fun e => by rw [e] at h; exact h
        rcases sim.blk b k (hG _ _ hf) hnu with ⟨β, hm, ⟨cs, T, h1, h2, h3, h4⟩⟩ | ⟨hvi, hxs⟩
        case inr =>
          rw [hvi] at h
          obtain ⟨rfl, rfl⟩ := h.2 hg.symm
          exact ⟨Ad, 0, by simp, .inl (by simp), 0, by simp⟩
        rw [hm] at h
        obtain ⟨rfl, _⟩ := h.2 hg.symm
        have hlen : ((k.xs.drop off).take len).length = len := by simp; omega
        exact ⟨_, _, by rw [hlen], .inr ⟨_, rfl⟩, k.sz, fun e he => h3 e (List.mem_of_mem_drop (List.mem_of_mem_take he))⟩
    · cases he
  · rename_i b g i off len
    simp only [Option.bind_eq_bind, Option.bind_eq_some_iff] at he
    obtain ⟨k, hk, e, hel, he⟩ := he
    obtain ⟨hf, hg⟩ := Hp.blk_some hk
    obtain ⟨hi, rfl⟩ := List.getElem?_eq_some_iff.1 hel
    split at he
    · rename_i hle
      injection he with he
      subst he
      cases hv with
      | cref Ad c _ _ _ _ _ h =>
        have hnu : m b ≠ .unborn := fun e => by rw [e] at h; exact h
        rcases sim.blk b k (hG _ _ hf) hnu with ⟨β, hm, ⟨cs, T, h1, h2, h3, h4⟩⟩ | ⟨hvi, hxs⟩
        case inr => rw [hvi] at h; exact h.elim
        rw [hm] at h
        obtain ⟨rfl, _⟩ := h.2 hg.symm
        have hlen : (((k.xs[i]).cells.drop off).take len).length = len := by simp; omega
        exact ⟨_, _, by rw [hlen], .inr ⟨_, rfl⟩, 1, fun e he => by
          have := List.all_eq_true.1 hle.2 e he
          cases e <;> first | rfl | (exact absurd this (by simp [PV.one]))⟩
    · cases he
  · cases he

theorem flat_splice {s : Nat} {l c : List PV} {off : Nat} (hl : ∀ e ∈ l, e.cells.length = s) (hc : ∀ e ∈ c, e.cells.length = s) (h : off + c.length ≤ l.length) : flat (splice l off c) = splice (flat l) (off * s) (flat c) := by
  have e1 := flat_drop (off + c.length) hl
  unfold splice
  rw [flat_append, flat_append, flat_take _ hl, e1, flat_length hc, Nat.add_mul]

theorem copy_run (t u ty e : TypeId) (i : TypeInfo) (hu : P.underlying t = some (.slice e)) (hi : P.info? e = some i) (g o dl dc : Nat) (cur : Array Value) (T : TypeId) (hg : w.heap[g]? = some (.cells cur T (0, 0))) (As : Option Addr) (sl sc : Nat) (news : List Value)
    (hn : news.length = Nat.min sl dl * i.size) (hsrc : news = [] ∧ (sl = 0 ∨ ∃ x, As = some x) ∨ ∃ ad, As = some ad ∧ ∀ j v, news[j]? = some v → w.cell? (ad.add j) = some v) (hfit : o + news.length ≤ cur.size) (h1 : ∀ u ∈ news, u.oneCell' = true) :
    (Builtin.copy_ #[t, u] ty #[.slice (some ⟨g, o, none⟩) dl dc, .slice As sl sc]).run P w = .ok (goInt (Nat.min sl dl)) (w.setRow g (cur.toList.take o ++ news ++ cur.toList.drop (o + news.length)).toArray) := by
  have hst := run_storeCells_at P g o T news 0 cur w hg (by simpa using hfit) h1
  rcases hsrc with ⟨rfl, h⟩ | ⟨ad, rfl, hsrc⟩
  · have hn0 : Nat.min sl dl * i.size = 0 := by rw [← hn]; rfl
    have hfc : (Builtin.firstCells i.size (Nat.min sl dl) (.slice As sl sc)).run P w = .ok #[] w := by
      cases As with
      | none => rfl
      | some x =>
        have := run_loadCells_list (P := P) w x [] (by simp)
        simp only [Builtin.firstCells, hn0]
        simpa using this
    simp only [List.append_nil, List.length_nil, Nat.add_zero] at hst ⊢
    simp [Builtin.copy_, run_underlying hu, Builtin.lenOf, sizeOf, typeInfo, hi, hfc, hst]
  · have hl := run_loadCells_list (P := P) w ad news hsrc
    rw [hn] at hl
    simp only [Nat.add_zero] at hst
    simp [Builtin.copy_, run_underlying hu, Builtin.lenOf, Builtin.firstCells, sizeOf, typeInfo, hi, hl, hst]

theorem copy_run0 (t u ty e : TypeId) (i : TypeInfo) (hu : P.underlying t = some (.slice e)) (hi : P.info? e = some i) (Ad : Option Addr) (dc : Nat) (As : Option Addr) (sl sc : Nat) :
    (Builtin.copy_ #[t, u] ty #[.slice Ad 0 dc, .slice As sl sc]).run P w = .ok (goInt 0) w := by
  have hfc : (Builtin.firstCells i.size 0 (.slice As sl sc)).run P w = .ok #[] w := by
    cases As with
    | none => rfl
    | some x =>
      have := run_loadCells_list (P := P) w x [] (by simp)
      simp only [Builtin.firstCells, Nat.zero_mul]
      simpa using this
  have h0 : Nat.min sl 0 = 0 := Nat.min_zero sl
  cases Ad <;> simp [Builtin.copy_, run_underlying hu, Builtin.lenOf, sizeOf, typeInfo, hi, h0, hfc, storeCells]

theorem Hp.set_same {H : Hp} {b : Nat} {k : Blk} (h : H.f b = some k) : H.set b k = H := by
  have : (H.set b k).f = H.f := by
    funext c
    rw [Hp.set_f h]
    split
    · rename_i e; rw [e, h]
    · rfl
  cases H
  simp only [Hp.set] at this ⊢
  congr

theorem ok_copy (sim : Sim gl A w0 F m w H) (hub : ∀ b, H.n ≤ b → m b = .unborn) {c : Call} {t u e : TypeId} {d s : Operand} {rd rs : RO} {sz : Nat} {r : Option PV} {H' : Hp} (ho : o.op = .call c) (hcal : c.callee = .builtin .copy) (hargs : c.args.toList = [d, s])
    (hts : c.argTypes.toList = [t, u]) (hu : P.underlying t = some (.slice e)) (hsz : szOf P e = some sz) (hd : roOf d = some rd) (hs : roOf s = some rs) (he : ERel F m w a env (rd.reads ++ rs.reads))
    (hp : stepE (RO.ev gl env) H (.copy sz rd rs) = some (r, H')) : EOk P gl A w0 F m w a o r H' := by
  simp only [stepE, Option.bind_eq_bind, Option.bind_eq_some_iff] at hp
  obtain ⟨q, hq, hp⟩ := hp
  obtain ⟨e1, e2⟩ := he.app
  have hrd := RO.rel sim hd e1 hq
  split at hp
  · rename_i b g off len
    simp only [Option.bind_eq_some_iff] at hp
    obtain ⟨k, hk, qs, hqs, ys, hys, hp⟩ := hp
    have hrs := RO.rel sim hs e2 hqs
    obtain ⟨hf, hg⟩ := Hp.blk_some hk
    split at hp
    · rename_i hc
      simp only [Option.some.injEq, Prod.mk.injEq] at hp
      obtain ⟨rfl, rfl⟩ := hp
      obtain ⟨hfit, hksz, hall⟩ := hc
      have hall1 : ∀ y ∈ ys.take (min ys.length len), y.cells.length = sz := fun y hy => by have := List.all_eq_true.1 hall y hy; simp only [Bool.and_eq_true, beq_iff_eq] at this; exact this.1
      have hall2 : ∀ y ∈ ys.take (min ys.length len), y.cells.all PV.one = true := fun y hy => by have := List.all_eq_true.1 hall y hy; simp only [Bool.and_eq_true, beq_iff_eq] at this; exact this.2
      generalize hva : a.eval d = va at hrd
      generalize hvs : a.eval s = vs at hrs
      cases hrd with
      | ref Ad cc _ _ _ _ h =>
        have hnu : m b ≠ .unborn := fun e => by rw [e] at h; exact h
        unfold szOf at hsz
        rw [Option.map_eq_some_iff] at hsz
        obtain ⟨ie, hie, rfl⟩ := hsz
        rcases sim.blk b k hf hnu with ⟨β, hm, ⟨cs, T, h1, h2, h3, h4⟩⟩ | ⟨hvi, hxs⟩
        case inr =>
          rw [hvi] at h
          obtain ⟨hl0, rfl⟩ := h.2 hg.symm
          subst hl0
          obtain ⟨As, sc, rfl, _⟩ := slice_shape (H := H) sim (fun b k h => h) hrs hys
          have hrun := copy_run0 (P := P) (w := w) t u o.type e ie hu hie Ad 0 As ys.length sc
          have hrun' : (execOp a.eval o).run P w = .ok (.value (goInt 0)) w := by
            have a1 : c.args.map a.eval = #[a.eval d, a.eval s] := Array.toList_inj.1 (by simp [hargs])
            have a2 : c.argTypes = #[t, u] := Array.toList_inj.1 (by simp [hts])
            simp only [execOp, ho, resolve, hcal, Sem.run_bind, Sem.run_pure, Result.andThen_ok, invoke, builtin, a1, a2, hva, hvs, hrun]
          have hsp : splice k.xs off (List.take (min ys.length 0) ys) = k.xs := by
            rw [hxs]; simp [splice]
          have hH : H.set b ⟨g, ie.size, splice k.xs off (List.take (min ys.length 0) ys)⟩ = H := by
            rw [hsp, ← hksz, ← hg]
            exact Hp.set_same hf
          rw [hH]
          refine ⟨_, _, F, m, .inl hrun', sim, Ev.refl sim.fnl sim.liv, ?_, hub⟩
          intro p hp
          injection hp with hp
          subst hp
          have : min ys.length 0 = 0 := Nat.min_zero _
          rw [this]
          exact .int _ _
        rw [hm] at h
        obtain ⟨rfl, hlc, hcm, hcap⟩ := h.2 hg.symm
        -- the source's cells
        have hsrc : ∃ As sc news, vs = .slice As ys.length sc ∧ CsRel F m w (news : List Value).toArray (flat (ys.take (min ys.length len))) ∧ news.length = min ys.length len * ie.size ∧
            (news = [] ∧ (ys.length = 0 ∨ ∃ x, As = some x) ∨ ∃ ad, As = some ad ∧ ∀ j v, news[j]? = some v → w.cell? (ad.add j) = some v) := by
          obtain ⟨As, sc, rfl, hnil, s', hs'⟩ := slice_shape (H := H) sim (fun b k h => h) hrs hys
          by_cases hne : min ys.length len = 0
          · refine ⟨As, sc, [], rfl, ?_, by rw [hne]; simp, .inl ⟨rfl, hnil⟩⟩
            rw [hne]
            exact ⟨by simp [flat], fun j h1 => absurd h1 (by simp)⟩
          · have hy0 : 0 < ys.length := by omega
            have hss : s' = ie.size := by
              have h5 := hall1 (ys[0]'hy0) (by
                rw [List.mem_iff_getElem]
                exact ⟨0, by simp; omega, by simp⟩)
              rw [← h5]
              exact (hs' _ (List.getElem_mem hy0)).symm
            subst hss
            obtain ⟨news, ⟨⟨As', sc', hv', hcx⟩, hnr⟩⟩ := elems_shows (H := H) (s := ie.size) sim (fun b k h => h) hrs hys hs'
            injection hv' with hA _ hC
            subst hA
            subst hC
            rcases hcx with hcx | ⟨ad, hA, hnews⟩
            · rw [hcx] at hy0; simp at hy0
            · have hnl : news.length = ys.length * ie.size := by have := hnr.1; rw [flat_length hs'] at this; simpa using this
              have hle : min ys.length len * ie.size ≤ news.length := by rw [hnl]; exact Nat.mul_le_mul_right _ (Nat.min_le_left _ _)
              refine ⟨As, sc, news.take (min ys.length len * ie.size), rfl, ?_, by rw [List.length_take]; omega, .inr ⟨ad, hA, fun j v hj => hnews j v ?_⟩⟩
              · rw [flat_take _ hs']
                refine .of_get (by simp; have := hnr.1; simp at this; omega) (fun j q hq => ?_)
                rw [List.getElem?_take] at hq
                split at hq
                · rename_i hj
                  obtain ⟨v, hv, hvr⟩ := hnr.get hq
                  exact ⟨v, by simp only [List.getElem?_toArray] at hv ⊢; rw [List.getElem?_take_of_lt hj]; exact hv, hvr⟩
                · cases hq
              · rw [List.getElem?_take] at hj
                split at hj
                · exact hj
                · cases hj
        obtain ⟨As, sc, news, rfl, hnr, hnl, hsc⟩ := hsrc
        have hfit2 : off * k.sz + news.length ≤ cs.size := by
          rw [hnl, hksz, ← Nat.add_mul]
          have : (off + min ys.length len) * ie.size ≤ k.xs.length * ie.size := Nat.mul_le_mul_right _ (by omega)
          rw [hksz] at h2
          omega
        have hrun := copy_run (P := P) (w := w) t u o.type e ie hu hie β (off * k.sz) len cc cs T h1 As ys.length sc news hnl hsc hfit2 (one_of_rel hnr (flat_ones hall2))
        have hrun' : (execOp a.eval o).run P w = .ok (.value (.int .i64 ((min ys.length len : Nat) : Int))) (w.setRow β (cs.toList.take (off * k.sz) ++ news ++ cs.toList.drop (off * k.sz + news.length)).toArray) := by
          have a1 : c.args.map a.eval = #[a.eval d, a.eval s] := Array.toList_inj.1 (by simp [hargs])
          have a2 : c.argTypes = #[t, u] := Array.toList_inj.1 (by simp [hts])
          simp only [execOp, ho, resolve, hcal, Sem.run_bind, Sem.run_pure, Result.andThen_ok, invoke, builtin, a1, a2, hva, hvs, hrun]
          rfl
        have hxs : ∀ y ∈ k.xs, y.cells.length = ie.size := fun y hy => by rw [h3 y hy, hksz]
        have htl : (ys.take (min ys.length len)).length = min ys.length len := by simp
        have hsp : off + (ys.take (min ys.length len)).length ≤ k.xs.length := by rw [htl]; omega
        have hel : ∀ y ∈ splice k.xs off (ys.take (min ys.length len)), y.cells.length = ie.size := by
          intro y hy
          unfold splice at hy
          simp only [List.mem_append] at hy
          rcases hy with (hy | hy) | hy
          · exact hxs y (List.mem_of_mem_take hy)
          · exact hall1 y hy
          · exact hxs y (List.mem_of_mem_drop hy)
        have hsl : (splice k.xs off (ys.take (min ys.length len))).length = k.xs.length := splice_length hsp
        obtain ⟨s2, ev2⟩ := sim.write (g' := k.g) (xs' := splice k.xs off (ys.take (min ys.length len))) hf hm h1 (rowWrite_size cs news (off * k.sz) hfit2) (Nat.le_refl _)
          (by rw [rowWrite_size cs news (off * k.sz) hfit2, hsl]; exact h2) (by rw [hksz]; exact hel)
          (by
            rw [hksz]
            rw [hksz] at hfit2
            refine blk_of_flat' hel (by rw [rowWrite_size cs news (off * ie.size) hfit2, hsl, ← hksz]; exact h2) (fun j q hq => ?_)
            rw [flat_splice hxs hall1 hsp] at hq
            have fl : (flat (ys.take (min ys.length len))).length = news.length := by rw [flat_length hall1, htl, hnl]
            rw [splice_get (by rw [flat_length hall1, flat_length hxs, ← Nat.add_mul]; exact Nat.mul_le_mul_right _ hsp)] at hq
            rw [rowWrite_get cs news (off * ie.size) hfit2]
            rw [fl] at hq
            by_cases hj : off * ie.size ≤ j ∧ j < off * ie.size + news.length
            · rw [if_pos hj] at hq ⊢
              obtain ⟨v, hv, hvr⟩ := hnr.get hq
              exact ⟨v, by simpa using hv, hvr⟩
            · rw [if_neg hj] at hq ⊢
              obtain ⟨hlt, _⟩ := List.getElem?_eq_some_iff.1 hq
              rw [flat_length hxs] at hlt
              have hs0 : 0 < ie.size := by rcases Nat.eq_zero_or_pos ie.size with e | e; (rw [e] at hlt; simp at hlt); exact e
              have hi : j / ie.size < k.xs.length := Nat.div_lt_of_lt_mul (by rw [Nat.mul_comm]; exact hlt)
              have hgq := flat_get hxs (j / ie.size) hi (j % ie.size) (Nat.mod_lt _ hs0)
              rw [show j / ie.size * ie.size + j % ie.size = j by rw [Nat.mul_comm]; exact Nat.div_add_mod j _, hq] at hgq
              obtain ⟨h5, h6⟩ := List.getElem?_eq_some_iff.1 hgq.symm
              obtain ⟨v, hv, hvr⟩ := h4 _ hi _ h5
              rw [hksz, show j / ie.size * ie.size + j % ie.size = j by rw [Nat.mul_comm]; exact Nat.div_add_mod j _] at hv
              exact ⟨v, hv, by rw [← h6]; exact hvr⟩)
        rw [mput_same hm] at s2 ev2
        rw [hksz, hg] at s2
        rw [hksz] at hrun'
        exact ⟨_, _, F, m, .inl hrun', s2, by rw [hksz] at ev2; exact ev2, fun p hp => by injection hp with hp; subst hp; exact .int _ _, fun b' hb' => hub b' hb'⟩
    · cases hp
  · cases hp
end
end Go.Vm
