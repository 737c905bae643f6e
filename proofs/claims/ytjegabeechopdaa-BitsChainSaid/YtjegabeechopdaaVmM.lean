/- append and copy, the operations: sound. -/
import Derived.Test.YtjegabeechopdaaVmL
import Derived.Deep.Upon
set_option linter.unusedSimpArgs false
set_option linter.unusedVariables false
namespace Go.Vm
open Go Go.RowKit
section
variable {P : Program} {gl : Nat → Option PV} {A : Nat → Prop} {w0 : World} {F : Nat → Prop} {m : Nat → Slot} {w : World} {G H : Hp} {a : Act} {env : Env} {o : Oper} {p : PV} {own : Bool}

theorem Sim.add (sim : Sim gl A w0 F m w H) (hub : ∀ b, H.n ≤ b → m b = .unborn) (l : List Blk) : Sim gl A w0 F m w (H.add l) := by
  refine ⟨sim.below, sim.live, sim.inj, sim.frz, sim.frzlt, fun b k hk hnu => ?_, sim.glob⟩
  refine sim.blk b k ?_ hnu
  by_cases h : b < H.n
  · simpa [Hp.add, h] using hk
  · exact absurd (hub b (by omega)) hnu

theorem run_append_room' (t ty e : TypeId) (i : TypeInfo) (ht : P.underlying t = some (.slice e)) (hi : P.info? e = some i) (g n cap : Nat) (cur : Array Value) (T : TypeId) (hg : w.heap[g]? = some (.cells cur T (0, 0)))
    (ad : Addr) (k c : Nat) (news : List Value) (hl : news.length = k * i.size) (hnews : ∀ j v, news[j]? = some v → w.cell? (ad.add j) = some v) (h1 : ∀ u ∈ news, u.oneCell' = true) (hroom : n + k ≤ cap) (hfit : n * i.size + news.length ≤ cur.size) :
    (Builtin.append_ #[t, t] ty #[.slice (some ⟨g, 0, none⟩) n cap, .slice (some ad) k c]).run P w =
      .ok (.slice (some ⟨g, 0, none⟩) (n + k) cap) (w.setRow g (cur.toList.take (n * i.size) ++ news ++ cur.toList.drop (n * i.size + news.length)).toArray) := by
  have hL := run_loadCells_list (P := P) w ad news hnews
  rw [hl] at hL
  have hst := run_storeCells_at P g (n * i.size) T news 0 cur w hg (by omega) h1
  have ha : (⟨g, 0, none⟩ : Addr).add (n * i.size) = ⟨g, n * i.size, none⟩ := by rw [add_plain', Nat.zero_add]
  simp [Builtin.append_, run_underlying ht, Builtin.lenOf, Builtin.firstCells, sizeOf, typeInfo, hi, hL, hroom, ha, hst]

theorem blk_of_flat' {cs : Array Value} {xs : List PV} {s : Nat} (hs : ∀ e ∈ xs, e.cells.length = s) (hle : xs.length * s ≤ cs.size) (h : ∀ (k : Nat) (q : PV), (flat xs)[k]? = some q → ∃ v, cs[k]? = some v ∧ VRel F w m v q) :
    ∀ i (hi : i < xs.length) j (hj : j < (xs[i]).cells.length), ∃ v, cs[i * s + j]? = some v ∧ VRel F w m v (xs[i]).cells[j] := fun i hi j hj => by
  have hj' : j < s := by rw [← hs _ (List.getElem_mem hi)]; exact hj
  exact h _ _ (by rw [flat_get hs i hi j hj']; exact List.getElem?_eq_getElem hj)

theorem flat_append (xs ys : List PV) : flat (xs ++ ys) = flat xs ++ flat ys := by simp [flat]

theorem one_of_rel {news : List Value} {q : List PV} (h : CsRel F m w news.toArray q) (ho : ∀ x ∈ q, x.one = true) : ∀ u ∈ news, u.oneCell' = true := by
  intro u hu
  obtain ⟨j, hj, rfl⟩ := List.mem_iff_getElem.1 hu
  have e : news.length = q.length := by simpa using h.1
  have hj2 : j < q.length := by omega
  have := h.2 j (by simpa using hj) hj2
  simp only [List.getElem_toArray] at this
  exact this.one (ho _ (List.getElem_mem hj2))

theorem flat_ones {ys : List PV} (h : ∀ y ∈ ys, y.cells.all PV.one = true) : ∀ x ∈ flat ys, x.one = true := by
  intro x hx
  obtain ⟨y, hy, hxy⟩ := List.mem_flatMap.1 hx
  exact List.all_eq_true.1 (h y hy) x hxy

/-- What a grown row holds. -/
theorem grown_rel {olds news : List Value} {xs ys : List PV} {s N : Nat} {z : Array Value} (ho : CsRel F m w olds.toArray (flat xs)) (hn : CsRel F m w news.toArray (flat ys)) (hxs : ∀ y ∈ xs, y.cells.length = s) (hys : ∀ y ∈ ys, y.cells.length = s)
    (zs : z.size = s) : ((olds.toArray ++ news.toArray ++ Builtin.zeroCells z N).size = (xs.length + ys.length + N) * s) ∧
      ∀ i (hi : i < (xs ++ ys).length) j (hj : j < ((xs ++ ys)[i]).cells.length), ∃ v, (olds.toArray ++ news.toArray ++ Builtin.zeroCells z N)[i * s + j]? = some v ∧ VRel F w m v ((xs ++ ys)[i]).cells[j] := by
  have e1 : olds.length = xs.length * s := by have := ho.1; rw [flat_length hxs] at this; simpa using this
  have e2 : news.length = ys.length * s := by have := hn.1; rw [flat_length hys] at this; simpa using this
  have hsz : (olds.toArray ++ news.toArray ++ Builtin.zeroCells z N).size = (xs.length + ys.length + N) * s := by
    rw [Array.size_append, Array.size_append, size_zeroCells, zs, Nat.add_mul, Nat.add_mul]
    simp [e1, e2]
  refine ⟨hsz, blk_of_flat' (by intro e he; rcases List.mem_append.1 he with h | h; exact hxs e h; exact hys e h) (by rw [hsz, List.length_append]; exact Nat.mul_le_mul_right _ (by omega)) (fun k q hq => ?_)⟩
  rw [flat_append] at hq
  have f1 : (flat xs).length = olds.length := by rw [flat_length hxs, e1]
  have f2 : (flat ys).length = news.length := by rw [flat_length hys, e2]
  by_cases h : k < olds.length
  · rw [List.getElem?_append_left (by omega)] at hq
    obtain ⟨v, hv, hr⟩ := ho.get hq
    exact ⟨v, by rw [Array.append_assoc, Array.getElem?_append_left (by simpa using h)]; exact hv, hr⟩
  · rw [List.getElem?_append_right (by omega)] at hq
    obtain ⟨v, hv, hr⟩ := hn.get hq
    obtain ⟨hk, _⟩ := List.getElem?_eq_some_iff.1 hq
    refine ⟨v, ?_, hr⟩
    rw [Array.append_assoc, Array.getElem?_append_right (by simp; omega), Array.getElem?_append_left (by simp; omega)]
    rw [f1] at hv
    simpa using hv

theorem ok_append (sim : Sim gl A w0 F m w H) (hub : ∀ b, H.n ≤ b → m b = .unborn) {c : Call} {t e : TypeId} {s x : Operand} {rs rx : RO} {sz : Nat} {z : PV} {r : Option PV} {H' : Hp} (ho : o.op = .call c) (hcal : c.callee = .builtin .append) (hargs : c.args.toList = [s, x])
    (hts : c.argTypes.toList = [t, t]) (hu : P.underlying t = some (.slice e)) (hsz : szOf P e = some sz) (hz : zeroOf P e = some z) (hzs : z.cells.length = sz) (hb : (P.info? e).any (fun i => decide (i.bytes ≤ 1048576)) = true)
    (hs : roOf s = some rs) (hx : roOf x = some rx) (he : ERel F m w a env (rs.reads ++ rx.reads)) (hp : stepE (RO.ev gl env) H (.append sz z rs rx) = some (r, H')) : EOk P gl A w0 F m w a o r H' := by
  simp only [stepE, Option.bind_eq_bind, Option.bind_eq_some_iff] at hp
  obtain ⟨q, hq, qx, hqx, ys, hys, hp⟩ := hp
  obtain ⟨e1, e2⟩ := he.app
  have hrs := RO.rel sim hs e1 hq
  have hrx := RO.rel sim hx e2 hqx
  split at hp
  rotate_left
  · cases hp
  · · rename_i hc
      simp only [Bool.and_eq_true, decide_eq_true_eq] at hc
      obtain ⟨hall, hbound⟩ := hc
      have hys1 : ∀ y ∈ ys, y.cells.length = sz := fun y hy => by have := List.all_eq_true.1 hall y hy; simp only [Bool.and_eq_true, beq_iff_eq] at this; exact this.1
      have hys2 : ∀ y ∈ ys, y.cells.all PV.one = true := fun y hy => by have := List.all_eq_true.1 hall y hy; simp only [Bool.and_eq_true, beq_iff_eq] at this; exact this.2
      obtain ⟨news, ⟨⟨Ax, cx, hvx, hcx⟩, hnr⟩⟩ := elems_shows (s := sz) sim (fun b k h => h) hrx hys hys1
      have hnl : news.length = ys.length * sz := by have := hnr.1; rw [flat_length hys1] at this; simpa using this
      -- the types
      unfold zeroOf at hz
      simp only [Option.bind_eq_some_iff] at hz
      obtain ⟨ie, hie, zv, hzv, hzz⟩ := hz
      unfold szOf at hsz
      rw [hie] at hsz hb
      simp only [Option.map_some, Option.some.injEq, Option.any_some, decide_eq_true_eq] at hsz hb
      subst hsz
      have zs : zv.cells.size = ie.size := by rw [(ofZero_rel (F := F) (m := m) (w := w) hzz).size.1]; exact hzs
      have hrun : ∀ {v w'}, (Builtin.append_ #[t, t] o.type #[a.eval s, a.eval x]).run P w = .ok v w' → (execOp a.eval o).run P w = .ok (.value v) w' := by
        intro v w' h
        have h1 : c.args.map a.eval = #[a.eval s, a.eval x] := Array.toList_inj.1 (by simp [hargs])
        have h2 : c.argTypes = #[t, t] := Array.toList_inj.1 (by simp [hts])
        simp only [execOp, ho, resolve, hcal, Sem.run_bind, Sem.run_pure, Result.andThen_ok, invoke, builtin, h1, h2, h]
      rw [hvx] at hrun
      split at hp
      · -- a frozen slice without room
        rename_i l
        split at hp
        · rename_i hl0
          simp only [Bool.and_eq_true, Bool.not_eq_true', List.isEmpty_eq_false_iff] at hl0
          obtain ⟨hl, hne⟩ := hl0
          rcases hcx with hcx | ⟨ad, rfl, hnews⟩
          · exact absurd hcx hne
          have hy0 : 0 < ys.length := by rcases Nat.eq_zero_or_pos ys.length with h | h; exact absurd (List.eq_nil_of_length_eq_zero h) hne; exact h
          simp only [Option.some.injEq, Prod.mk.injEq] at hp
          obtain ⟨rfl, rfl⟩ := hp
          simp only [PV.lenP, Option.getD_some] at hbound
          have hl1 : ∀ y ∈ l, y.cells.length = ie.size := fun y hy => by have := List.all_eq_true.1 hl y hy; simp only [Bool.and_eq_true, beq_iff_eq] at this; exact this.1
          have hfin : ∀ (olds : List Value) (N : Nat), CsRel F m w olds.toArray (flat l) → (Builtin.append_ #[t, t] o.type #[a.eval s, .slice (some ad) ys.length cx]).run P w =
              .ok (.slice (some ⟨w.heap.size, 0, none⟩) (l.length + ys.length) (grownCap w (l.length + ys.length) N e)) (w.drew.alloc (.cells (olds.toArray ++ news.toArray ++ Builtin.zeroCells zv.cells (grownCap w (l.length + ys.length) N e - (l.length + ys.length))) e)) →
              EOk P gl A w0 F m w a o (some (.ref H.n 0 0 (l.length + ys.length))) (H.add [⟨0, ie.size, l ++ ys⟩]) := by
            intro olds N hor hr
            obtain ⟨hs1, hs2⟩ := grown_rel (N := grownCap w (l.length + ys.length) N e - (l.length + ys.length)) hor hnr hl1 hys1 zs
            have hge := grownCap_ge w (l.length + ys.length) N e
            have hcm := grownCap_le_maxLen w (l.length + ys.length) N e (by simp only [maxLen]; omega)
            obtain ⟨sd, ed⟩ := (sim.add hub [⟨0, ie.size, l ++ ys⟩]).drew
            obtain ⟨s2, ev2⟩ := sd.alloc (olds.toArray ++ news.toArray ++ Builtin.zeroCells zv.cells (grownCap w (l.length + ys.length) N e - (l.length + ys.length))) e H.n (hub _ (Nat.le_refl _)) ⟨0, ie.size, l ++ ys⟩ (by simp [Hp.add])
              (by rw [hs1, List.length_append]; exact Nat.mul_le_mul_right _ (by omega)) (by intro y hy; rcases List.mem_append.1 hy with h | h; exact hl1 y h; exact hys1 y h)
              (fun i hi j hj => by obtain ⟨v, hv, hr⟩ := hs2 i hi j hj; exact ⟨v, hv, hr.mono ed⟩)
            refine ⟨_, _, F, _, .inl (hrun hr), s2, ed.trans ev2, ?_, fun b hb' => ?_⟩
            · intro p hp
              injection hp with hp
              subst hp
              refine .ref _ _ _ _ _ _ ?_
              rw [mput_eq]
              refine ⟨Nat.le_refl _, fun _ => ⟨by simp, hge, hcm, ?_⟩⟩
              unfold rowSize
              rw [heap_push_eq]
              simp only [Nat.zero_add]
              rw [hs1]
              exact Nat.mul_le_mul_right _ (by omega)
            · rw [mput_ne _ _ (by simp [Hp.add] at hb'; omega)]
              exact hub b (by simp [Hp.add] at hb'; omega)
          generalize hva : a.eval s = va at hrs
          rw [hva] at hfin
          obtain ⟨olds, ⟨⟨Al, cl, hvl, hcl⟩, hor⟩⟩ := elems_shows (s := ie.size) sim (fun b k h => h) hrs (ys := l) rfl hl1
          cases hrs with
          | litnil =>
            refine hfin [] 0 ⟨by simp [flat], fun j h1 => absurd h1 (by simp)⟩ ?_
            have hr := run_append_nil (P := P) w t o.type e ie zv hu hie hzv ad ys.length cx news hnl hnews hy0 (by omega) (by
              have : ys.length * ie.bytes ≤ 1048576 * 1048576 := Nat.mul_le_mul (by simp at hbound; omega) hb
              omega)
            simp only [List.length_nil, Nat.zero_add, List.nil_append, Array.empty_append]
            exact hr
          | lit lad s' _ cs hF hm hz' hcell h =>
            rcases hcl with hcl | ⟨ad', hA, holds⟩
            · subst hcl
              -- an empty literal that has an address
              have hoe : olds = [] := by have := hor.1; simp [flat] at this; exact this
              subst hoe
              refine hfin [] 0 hor ?_
              have hr := run_append_grow (P := P) w t o.type e ie zv hu hie hzv lad 0 0 [] (by simp) (by simp) ad ys.length cx news hnl hnews (by omega) (by omega) (by
                rw [Nat.zero_add]
                refine growslice_fits hy0 ?_
                have : ys.length * ie.bytes ≤ 1048576 * 1048576 := Nat.mul_le_mul (by simp at hbound; omega) hb
                omega)
              simpa using hr
            · injection hvl with hA' hlen hcap
              have hA2 : some lad = some ad' := hA'.trans hA
              injection hA2 with hA2
              subst hA2
              refine hfin olds l.length hor ?_
              exact run_append_grow (P := P) w t o.type e ie zv hu hie hzv lad l.length l.length olds (by have := hor.1; rw [flat_length hl1] at this; simpa using this) holds ad ys.length cx news hnl hnews (by omega) (by omega) (by
                refine growslice_fits (by omega) ?_
                have : (l.length + ys.length) * ie.bytes ≤ 1048576 * 1048576 := Nat.mul_le_mul hbound hb
                omega)
        · cases hp
      · -- a row of the call's own
        rename_i b g len
        simp only [Option.bind_eq_some_iff] at hp
        obtain ⟨k, hk, hp⟩ := hp
        obtain ⟨hf, hg⟩ := Hp.blk_some hk
        split at hp
        · rename_i hc
          simp only [Option.some.injEq, Prod.mk.injEq] at hp
          obtain ⟨rfl, rfl⟩ := hp
          obtain ⟨rfl, hksz⟩ := hc
          simp only [PV.lenP, Option.getD_some] at hbound
          generalize hva : a.eval s = va at hrs
          rw [hva] at hrun
          cases hrs with
          | ref Ad cc _ _ _ _ h =>
            have hnu : m b ≠ .unborn := fun e => by rw [e] at h; exact h
            have hbn : ∀ b', H.n ≤ b' → b' ≠ b := by
              intro b' hb' e
              rw [e] at hb'
              have := H.wf b hb'
              rw [this] at hf
              cases hf
            rcases hcx with hcx | ⟨ad, rfl, hnews⟩
            · -- nothing is appended
              subst hcx
              obtain ⟨s', s2, ev2, hs'⟩ := sim.bump hf hnu
              rw [hksz, hg] at s2
              simp only [List.append_nil, List.length_nil, Nat.add_zero]
              have hle : k.xs.length ≤ cc := by
                rcases hs' with ⟨β, hm, _⟩ | ⟨hm, hxs, _⟩
                · rw [hm] at h; exact (h.2 hg.symm).2.1
                · rw [hxs]; exact Nat.zero_le _
              have hr := run_append_nothing (P := P) w t t o.type e ie hu hie Ad k.xs.length cc hle (.slice Ax 0 cx) (by
                cases Ax with
                | none =>
                  refine ⟨.inl ⟨e, hu⟩, fun _ => rfl, run_firstCells_none w _ 0 0 cx, run_firstCells_none w.drew _ 0 0 cx, by simp, fun _ h => by cases h⟩
                | some ad => exact Src.ofSlice w hu ad 0 cx [] (by simp) (fun j u hj => by simp at hj) (fun _ h => by cases h))
              refine ⟨_, _, F, _, .inl (hrun hr), s2, ev2, ?_, fun b' hb' => by rw [mput_ne _ _ (hbn b' hb')]; exact hub b' hb'⟩
              intro p hp
              injection hp with hp
              subst hp
              refine .ref _ _ _ _ _ _ ?_
              rw [mput_eq]
              rcases hs' with ⟨β, hm, rfl⟩ | ⟨hm, hxs, rfl⟩
              · rw [hm] at h
                obtain ⟨q1, q2, q3, q4⟩ := h.2 hg.symm
                exact ⟨by omega, fun _ => ⟨q1, q2, q3, q4⟩⟩
              · rw [hm] at h
                exact ⟨by omega, fun _ => h.2 hg.symm⟩
            have hne : ys ≠ [] ∨ ys = [] := by by_cases h : ys = [] <;> simp [h]
            rcases sim.blk b k hf hnu with ⟨β, hm, ⟨cs, T, h1, h2, h3, h4⟩⟩ | ⟨hvi, hxs⟩
            case inr =>
              rw [hvi] at h
              obtain ⟨hx0, hc0⟩ := h.2 hg.symm
              subst hc0
              rw [hx0] at hrun
              have hfin : ∀ N, (Builtin.append_ #[t, t] o.type #[.slice Ad 0 0, .slice (some ad) ys.length cx]).run P w =
                  .ok (.slice (some ⟨w.heap.size, 0, none⟩) (0 + ys.length) (grownCap w (0 + ys.length) N e)) (w.drew.alloc (.cells (#[] ++ news.toArray ++ Builtin.zeroCells zv.cells (grownCap w (0 + ys.length) N e - (0 + ys.length))) e)) →
                  EOk P gl A w0 F m w a o (some (.ref b (g + 1) 0 (k.xs.length + ys.length))) (H.set b ⟨g + 1, ie.size, k.xs ++ ys⟩) := by
                intro N hr
                rw [hxs]
                simp only [List.nil_append, List.length_nil]
                obtain ⟨hs1, hs2⟩ := grown_rel (olds := []) (xs := []) (N := grownCap w (0 + ys.length) N e - (0 + ys.length)) (s := ie.size) ⟨by simp [flat], fun j h1 => absurd h1 (by simp)⟩ hnr (by simp) hys1 zs
                have hge := grownCap_ge w (0 + ys.length) N e
                have hcm' := grownCap_le_maxLen w (0 + ys.length) N e (by simp only [maxLen]; omega)
                simp only [List.nil_append, List.length_nil] at hs1 hs2
                obtain ⟨sd, ed⟩ := sim.drew
                obtain ⟨s2, ev2⟩ := sd.regrow (T := e) (cs' := #[] ++ news.toArray ++ Builtin.zeroCells zv.cells (grownCap w (0 + ys.length) N e - (0 + ys.length))) (xs' := ys) hf (.inl hvi)
                  (by rw [hs1, hksz]; exact Nat.mul_le_mul_right _ (by omega)) (by intro y hy; rw [hksz]; exact hys1 y hy)
                  (fun i hi j hj => by rw [hksz]; obtain ⟨v, hv, hr⟩ := hs2 i hi j hj; exact ⟨v, hv, hr.mono ed⟩)
                rw [hksz, hg] at s2 ev2
                refine ⟨_, _, F, _, .inl (hrun hr), s2, ed.trans ev2, ?_, fun b' hb' => by rw [mput_ne _ _ (hbn b' hb')]; exact hub b' hb'⟩
                intro p hp
                injection hp with hp
                subst hp
                refine .ref _ _ _ _ _ _ ?_
                rw [mput_eq]
                refine ⟨Nat.le_refl _, fun _ => ⟨by simp, hge, hcm', ?_⟩⟩
                unfold rowSize
                rw [heap_push_eq]
                simp only [Nat.zero_add] at hs1 ⊢
                rw [hs1]
                exact Nat.mul_le_mul_right _ (by omega)
              rcases Nat.eq_zero_or_pos ys.length with hy0 | hy0
              · have hye := List.eq_nil_of_length_eq_zero hy0
                subst hye
                obtain ⟨s', s2, ev2, hs'⟩ := sim.bump hf hnu
                rw [hksz, hg] at s2
                simp only [List.append_nil, List.length_nil, Nat.add_zero]
                have hr := run_append_nothing (P := P) w t t o.type e ie hu hie Ad 0 0 (Nat.le_refl _) (.slice (some ad) 0 cx) (Src.ofSlice w hu ad 0 cx [] (by simp) (fun j u hj => by simp at hj) (fun _ h => by cases h))
                refine ⟨_, _, F, _, .inl (hrun hr), s2, ev2, ?_, fun b' hb' => by rw [mput_ne _ _ (hbn b' hb')]; exact hub b' hb'⟩
                intro p hp
                injection hp with hp
                subst hp
                rw [hxs]
                refine .ref _ _ _ _ _ _ ?_
                rw [mput_eq]
                rcases hs' with ⟨β, hm, rfl⟩ | ⟨hm, _, rfl⟩
                · rw [hm] at hvi; cases hvi
                · exact ⟨by omega, fun _ => ⟨rfl, rfl⟩⟩
              · cases Ad with
                | none =>
                  refine hfin 0 ?_
                  have hr := run_append_nil (P := P) w t o.type e ie zv hu hie hzv ad ys.length cx news hnl hnews hy0 (by omega) (by
                    have : ys.length * ie.bytes ≤ 1048576 * 1048576 := Nat.mul_le_mul (by omega) hb
                    omega)
                  simp only [Nat.zero_add, Array.empty_append]
                  exact hr
                | some lad =>
                  refine hfin 0 ?_
                  have hr := run_append_grow (P := P) w t o.type e ie zv hu hie hzv lad 0 0 [] (by simp) (by simp) ad ys.length cx news hnl hnews (by omega) (by omega) (by
                    rw [Nat.zero_add]
                    refine growslice_fits hy0 ?_
                    have : ys.length * ie.bytes ≤ 1048576 * 1048576 := Nat.mul_le_mul (by omega) hb
                    omega)
                  simpa using hr
            rw [hm] at h
            obtain ⟨rfl, hlc, hcm, hcap⟩ := h.2 hg.symm
            rw [Nat.zero_mul] at hrun
            rw [Nat.zero_add] at hcap
            have hrow : rowSize w β = cs.size := by unfold rowSize; rw [h1]
            rw [hrow, hksz] at hcap
            have hxsz : ∀ y ∈ k.xs, y.cells.length = ie.size := fun y hy => by rw [h3 y hy, hksz]
            by_cases hroom : k.xs.length + ys.length ≤ cc
            · have hfit : k.xs.length * ie.size + news.length ≤ cs.size := by
                rw [hnl, ← Nat.add_mul]
                exact Nat.le_trans (Nat.mul_le_mul_right _ hroom) hcap
              have hr := run_append_room' (P := P) t o.type e ie hu hie β k.xs.length cc cs T h1 ad ys.length cx news hnl hnews (one_of_rel hnr (flat_ones hys2)) hroom hfit
              obtain ⟨s2, ev2⟩ := sim.write (g' := g + 1) (xs' := k.xs ++ ys) hf hm h1 (rowWrite_size cs news (k.xs.length * ie.size) hfit) (by omega)
                (by rw [rowWrite_size cs news (k.xs.length * ie.size) hfit, hksz, List.length_append, Nat.add_mul, ← hnl]; exact hfit)
                (by intro y hy; rw [hksz]; rcases List.mem_append.1 hy with h | h; exact hxsz y h; exact hys1 y h)
                (by
                  rw [hksz]
                  refine blk_of_flat' (by intro y hy; rcases List.mem_append.1 hy with h | h; exact hxsz y h; exact hys1 y h) (by rw [rowWrite_size cs news (k.xs.length * ie.size) hfit, List.length_append, Nat.add_mul, ← hnl]; exact hfit) (fun j q hq => ?_)
                  rw [flat_append] at hq
                  rw [rowWrite_get cs news (k.xs.length * ie.size) hfit]
                  have fl : (flat k.xs).length = k.xs.length * ie.size := flat_length hxsz
                  have fy : (flat ys).length = news.length := by rw [flat_length hys1, hnl]
                  by_cases hj : j < k.xs.length * ie.size
                  · rw [List.getElem?_append_left (by omega)] at hq
                    rw [if_neg (by omega)]
                    -- an old cell
                    have hs0 : 0 < ie.size := by rcases Nat.eq_zero_or_pos ie.size with e | e; (rw [e] at hj; simp at hj); exact e
                    have hi : j / ie.size < k.xs.length := Nat.div_lt_of_lt_mul (by rw [Nat.mul_comm]; exact hj)
                    have hgq := flat_get hxsz (j / ie.size) hi (j % ie.size) (Nat.mod_lt _ hs0)
                    rw [show j / ie.size * ie.size + j % ie.size = j by rw [Nat.mul_comm]; exact Nat.div_add_mod j _, hq] at hgq
                    obtain ⟨h5, h6⟩ := List.getElem?_eq_some_iff.1 hgq.symm
                    obtain ⟨v, hv, hvr⟩ := h4 _ hi _ h5
                    rw [hksz, show j / ie.size * ie.size + j % ie.size = j by rw [Nat.mul_comm]; exact Nat.div_add_mod j _] at hv
                    exact ⟨v, hv, by rw [← h6]; exact hvr⟩
                  · rw [List.getElem?_append_right (by omega)] at hq
                    obtain ⟨hlt, _⟩ := List.getElem?_eq_some_iff.1 hq
                    rw [if_pos (by omega)]
                    obtain ⟨v, hv, hvr⟩ := hnr.get hq
                    rw [fl] at hv
                    exact ⟨v, by simpa using hv, hvr⟩)
              rw [hksz] at s2
              refine ⟨_, _, F, _, .inl (hrun hr), s2, by rw [hksz] at ev2; exact ev2, ?_, fun b' hb' => ?_⟩
              · intro p hp
                injection hp with hp
                subst hp
                refine .ref _ _ _ _ _ _ ?_
                rw [mput_eq]
                refine ⟨Nat.le_refl _, fun _ => ⟨by simp, hroom, hcm, ?_⟩⟩
                unfold rowSize
                rw [setRow_heap w β cs _ T (0, 0) h1]
                simp only [Nat.zero_add]
                rw [rowWrite_size cs news (k.xs.length * ie.size) hfit]
                exact hcap
              · rw [mput_ne]
                · exact hub b' hb'
                · intro e
                  rw [e] at hb'
                  have := H.wf b hb'
                  rw [this] at hf
                  cases hf
            · -- it lies anew
              obtain ⟨olds, ⟨⟨Al, cl, hvl, hcl⟩, hor⟩⟩ := elems_shows (s := ie.size) (H := H) sim (fun b k h => h) (x := .ref b g 0 k.xs.length) (.ref _ cc _ _ _ _ (by rw [hm]; exact h)) (ys := k.xs) (by
                simp only [elems, hk, Option.bind_eq_bind, Option.bind_some, Nat.zero_add, Nat.le_refl, if_true, List.drop_zero, List.take_length]) hxsz
              rw [Nat.zero_mul] at hvl
              injection hvl with hA _ _
              subst hA
              have holen : olds.length = k.xs.length * ie.size := by have := hor.1; rw [flat_length hxsz] at this; simpa using this
              have holds : ∀ j v, olds[j]? = some v → w.cell? ((⟨β, 0, none⟩ : Addr).add j) = some v := by
                rcases hcl with hcl | ⟨ad', hA2, holds⟩
                · intro j v hj
                  have : olds = [] := List.eq_nil_of_length_eq_zero (by rw [holen, hcl]; simp)
                  subst this
                  simp at hj
                · injection hA2 with hA2
                  subst hA2
                  exact holds
              have hr := run_append_grow (P := P) w t o.type e ie zv hu hie hzv ⟨β, 0, none⟩ k.xs.length cc olds holen holds ad ys.length cx news hnl hnews (by omega) (by omega) (by
                refine growslice_fits (by omega) ?_
                have : (k.xs.length + ys.length) * ie.bytes ≤ 1048576 * 1048576 := Nat.mul_le_mul hbound hb
                omega)
              obtain ⟨hs1, hs2⟩ := grown_rel (N := grownCap w (k.xs.length + ys.length) cc e - (k.xs.length + ys.length)) hor hnr hxsz hys1 zs
              have hge := grownCap_ge w (k.xs.length + ys.length) cc e
              have hcm' := grownCap_le_maxLen w (k.xs.length + ys.length) cc e (by simp only [maxLen]; omega)
              obtain ⟨sd, ed⟩ := sim.drew
              obtain ⟨s2, ev2⟩ := sd.regrow (T := e) (cs' := olds.toArray ++ news.toArray ++ Builtin.zeroCells zv.cells (grownCap w (k.xs.length + ys.length) cc e - (k.xs.length + ys.length))) (xs' := k.xs ++ ys) hf (.inr ⟨β, hm⟩)
                (by rw [hs1, List.length_append, hksz]; exact Nat.mul_le_mul_right _ (by omega)) (by intro y hy; rw [hksz]; rcases List.mem_append.1 hy with h | h; exact hxsz y h; exact hys1 y h)
                (fun i hi j hj => by rw [hksz]; obtain ⟨v, hv, hr⟩ := hs2 i hi j hj; exact ⟨v, hv, hr.mono ed⟩)
              rw [hksz] at s2 ev2
              rw [hg] at s2 ev2
              refine ⟨_, _, F, _, .inl (hrun hr), s2, ed.trans ev2, ?_, fun b' hb' => ?_⟩
              · intro p hp
                injection hp with hp
                subst hp
                refine .ref _ _ _ _ _ _ ?_
                rw [mput_eq]
                refine ⟨Nat.le_refl _, fun _ => ⟨by simp, hge, hcm', ?_⟩⟩
                unfold rowSize
                rw [heap_push_eq]
                simp only [Nat.zero_add]
                rw [hs1]
                exact Nat.mul_le_mul_right _ (by omega)
              · rw [mput_ne]
                · exact hub b' hb'
                · intro e
                  rw [e] at hb'
                  have := H.wf b hb'
                  rw [this] at hf
                  cases hf
        · cases hp
      · cases hp

theorem pureF_weak {p : PV} (h : pureF p = true) {v : Value} {m' : Nat → Slot} (hv : VRel F w m v p) : VRel F w m' v p := by
  cases hv <;> first | (simp [pureF] at h; done) | skip
  case int => exact .int _ _
  case bool => exact .bool _
  case str => exact .str _
  case nilp => exact .nilp
  case nilf => exact .nilf
  case nili => exact .nili
  case nilm => exact .nilm
  case slnil hc => exact .slnil _ _ ‹_›
  case sl ad c sz l cs hF hc hm hz hcell h2 => exact .sl ad c sz l cs hF hc hm hz hcell h2

/-- Elements behind those of a slice without room, in a new row that nobody writes. -/
theorem ok_appendF (sim : Sim gl A w0 F m w G) (hG : ∀ b k, H.f b = some k → G.f b = some k) {c : Call} {t e : TypeId} {s x : Operand} {rs rx : RO} {sz : Nat} {z : PV} (ho : o.op = .call c) (hcal : c.callee = .builtin .append) (hargs : c.args.toList = [s, x])
    (hts : c.argTypes.toList = [t, t]) (hu : P.underlying t = some (.slice e)) (hsz : szOf P e = some sz) (hz : zeroOf P e = some z) (hzs : z.cells.length = sz) (hb : (P.info? e).any (fun i => decide (i.bytes ≤ 1048576)) = true)
    (hs : roOf s = some rs) (hx : roOf x = some rx) (he : ERel F m w a env (rs.reads ++ rx.reads)) (N ext : Nat) (hp : stepN (RO.ev gl env) H (.appendF sz z rs rx) = some (p, [])) : NOk P gl A w0 F m w G N a o p ext := by
  simp only [stepN, Option.bind_eq_bind, Option.bind_eq_some_iff] at hp
  obtain ⟨q, hq, hp⟩ := hp
  obtain ⟨e1, e2⟩ := he.app
  have hrs := RO.rel sim hs e1 hq
  split at hp
  · rename_i l
    simp only [Option.bind_eq_some_iff] at hp
    obtain ⟨qx, hqx, ys, hys, hp⟩ := hp
    have hrx := RO.rel sim hx e2 hqx
    split at hp
    · rename_i hc
      simp only [Bool.and_eq_true, decide_eq_true_eq] at hc
      obtain ⟨hall, hbound⟩ := hc
      simp only [Option.some.injEq, Prod.mk.injEq, and_true] at hp
      subst hp
      have hall1 : ∀ y ∈ l ++ ys, y.cells.length = sz := fun y hy => by have := List.all_eq_true.1 hall y hy; simp only [Bool.and_eq_true, beq_iff_eq] at this; exact this.1
      have hall2 : ∀ y ∈ l ++ ys, ∀ c ∈ y.cells, pureF c = true := fun y hy => by have := List.all_eq_true.1 hall y hy; simp only [Bool.and_eq_true, beq_iff_eq] at this; exact List.all_eq_true.1 this.2
      have hl1 : ∀ y ∈ l, y.cells.length = sz := fun y hy => hall1 y (List.mem_append_left _ hy)
      have hys1 : ∀ y ∈ ys, y.cells.length = sz := fun y hy => hall1 y (List.mem_append_right _ hy)
      obtain ⟨news, ⟨⟨Ax, cx, hvx, hcx⟩, hnr⟩⟩ := elems_shows (s := sz) sim hG hrx hys hys1
      have hnl : news.length = ys.length * sz := by have := hnr.1; rw [flat_length hys1] at this; simpa using this
      unfold zeroOf at hz
      simp only [Option.bind_eq_some_iff] at hz
      obtain ⟨ie, hie, zv, hzv, hzz⟩ := hz
      unfold szOf at hsz
      rw [hie] at hsz hb
      simp only [Option.map_some, Option.some.injEq, Option.any_some, decide_eq_true_eq] at hsz hb
      subst hsz
      have zs : zv.cells.size = ie.size := by rw [(ofZero_rel (F := F) (m := m) (w := w) hzz).size.1]; exact hzs
      have hrun : ∀ {v w'}, (Builtin.append_ #[t, t] o.type #[a.eval s, a.eval x]).run P w = .ok v w' → (execOp a.eval o).run P w = .ok (.value v) w' := by
        intro v w' h
        have h1 : c.args.map a.eval = #[a.eval s, a.eval x] := Array.toList_inj.1 (by simp [hargs])
        have h2 : c.argTypes = #[t, t] := Array.toList_inj.1 (by simp [hts])
        simp only [execOp, ho, resolve, hcal, Sem.run_bind, Sem.run_pure, Result.andThen_ok, invoke, builtin, h1, h2, h]
      rw [hvx] at hrun
      generalize hva : a.eval s = va at hrs
      rw [hva] at hrun
      obtain ⟨olds, ⟨⟨Al, cl, hvl, hcl⟩, hor⟩⟩ := elems_shows (s := ie.size) sim hG hrs (ys := l) rfl hl1
      rcases hcx with hcx | ⟨ad, rfl, hnews⟩
      · subst hcx
        have hle : l.length ≤ cl := by
          cases hrs with
          | litnil => simp
          | lit => injection hvl with _ _ h; omega
        have hr := run_append_nothing (P := P) w t t o.type e ie hu hie Al l.length cl hle (.slice Ax 0 cx) (by
          cases Ax with
          | none => exact ⟨.inl ⟨e, hu⟩, fun _ => rfl, run_firstCells_none w _ 0 0 cx, run_firstCells_none w.drew _ 0 0 cx, by simp, fun _ h => by cases h⟩
          | some ad => exact Src.ofSlice w hu ad 0 cx [] (by simp) (fun j u hj => by simp at hj) (fun _ h => by cases h))
        rw [← hvl] at hr
        refine .same sim (hrun hr) ?_
        rw [List.append_nil]
        cases hrs with
        | litnil => exact .slnil _ _ (Nat.zero_le _)
        | lit lad s' _ cs hF hm hz' hcell h => exact .sl lad _ s' l cs hF (Nat.le_refl _) hm hz' hcell (fun i h1 j h2 => pureF_weak (hall2 _ (List.mem_append_left _ (List.getElem_mem h1)) _ (List.getElem_mem h2)) (h i h1 j h2))
      · rcases Nat.eq_zero_or_pos ys.length with hy0 | hy0
        · have hye := List.eq_nil_of_length_eq_zero hy0
          subst hye
          have hle : l.length ≤ cl := by
            cases hrs with
            | litnil => simp
            | lit => injection hvl with _ _ h; omega
          have hr := run_append_nothing (P := P) w t t o.type e ie hu hie Al l.length cl hle (.slice (some ad) 0 cx) (Src.ofSlice w hu ad 0 cx [] (by simp) (fun j u hj => by simp at hj) (fun _ h => by cases h))
          rw [← hvl] at hr
          refine .same sim (hrun hr) ?_
          rw [List.append_nil]
          cases hrs with
          | litnil => exact .slnil _ _ (Nat.zero_le _)
          | lit lad s' _ cs hF hm hz' hcell h => exact .sl lad _ s' l cs hF (Nat.le_refl _) hm hz' hcell (fun i h1 j h2 => pureF_weak (hall2 _ (List.mem_append_left _ (List.getElem_mem h1)) _ (List.getElem_mem h2)) (h i h1 j h2))
        · have hbl : l.length + ys.length ≤ 1048576 := by simpa using hbound
          have hfin : ∀ N2, (Builtin.append_ #[t, t] o.type #[va, .slice (some ad) ys.length cx]).run P w =
              .ok (.slice (some ⟨w.heap.size, 0, none⟩) (l.length + ys.length) (grownCap w (l.length + ys.length) N2 e)) (w.drew.alloc (.cells (olds.toArray ++ news.toArray ++ Builtin.zeroCells zv.cells (grownCap w (l.length + ys.length) N2 e - (l.length + ys.length))) e)) →
              NOk P gl A w0 F m w G N a o (.sl (l ++ ys)) ext := by
            intro N2 hr
            obtain ⟨hs1, hs2⟩ := grown_rel (N := grownCap w (l.length + ys.length) N2 e - (l.length + ys.length)) hor hnr hl1 hys1 zs
            have hge := grownCap_ge w (l.length + ys.length) N2 e
            have hcm := grownCap_le_maxLen w (l.length + ys.length) N2 e (by simp only [maxLen]; omega)
            obtain ⟨sd, ed⟩ := sim.drew
            obtain ⟨s2, ev2⟩ := sd.allocF (.cells (olds.toArray ++ news.toArray ++ Builtin.zeroCells zv.cells (grownCap w (l.length + ys.length) N2 e - (l.length + ys.length))) e)
            refine ⟨_, _, _, m, hrun hr, s2, ed.trans ev2, ?_, fun _ _ => rfl⟩
            have e0 : l.length + ys.length = (l ++ ys).length := by simp
            generalize hcc : grownCap w (l.length + ys.length) N2 e = CC at *
            have hfinal : VRel (fun β => F β ∨ β = w.drew.heap.size) (w.drew.alloc (.cells (olds.toArray ++ news.toArray ++ Builtin.zeroCells zv.cells (CC - (l.length + ys.length))) e)) m (.slice (some ⟨w.heap.size, 0, none⟩) (l ++ ys).length CC) (.sl (l ++ ys)) := by
              refine .sl ⟨w.heap.size, 0, none⟩ CC ie.size (l ++ ys) (fun i j => (olds.toArray ++ news.toArray ++ Builtin.zeroCells zv.cells (CC - (l.length + ys.length))).getD (i * ie.size + j) undef) (.inr rfl) (by rw [← e0]; exact hge) hcm hall1 (fun i hi j hj => ?_) (fun i hi j hj => ?_)
              · obtain ⟨v, hv, _⟩ := hs2 i hi j (by rw [hall1 _ (List.getElem_mem hi)]; exact hj)
                rw [add_plain', Nat.zero_add]
                refine (cell_row (heap_push_eq w.drew _) _).trans ?_
                rw [hv, Array.getD_eq_getD_getElem?, hv]
                rfl
              · obtain ⟨v, hv, hr⟩ := hs2 i hi j hj
                rw [Array.getD_eq_getD_getElem?, hv]
                exact (pureF_weak (m' := noM) (hall2 _ (List.getElem_mem hi) _ (List.getElem_mem hj)) hr).monoNo (Ev.trans ed ev2)
            rwa [← e0] at hfinal
          cases hrs with
          | litnil =>
            refine hfin 0 ?_
            have hoe : olds = [] := by have := hor.1; simp [flat] at this; exact this
            subst hoe
            have hr := run_append_nil (P := P) w t o.type e ie zv hu hie hzv ad ys.length cx news hnl hnews hy0 (by omega) (by
              have : ys.length * ie.bytes ≤ 1048576 * 1048576 := Nat.mul_le_mul (by omega) hb
              omega)
            simp only [List.length_nil, Nat.zero_add, List.nil_append, Array.empty_append]
            exact hr
          | lit lad s' _ cs hF hm hz' hcell h =>
            rcases hcl with hcl | ⟨ad', hA, holds⟩
            · subst hcl
              have hoe : olds = [] := by have := hor.1; simp [flat] at this; exact this
              subst hoe
              refine hfin 0 ?_
              have hr := run_append_grow (P := P) w t o.type e ie zv hu hie hzv lad 0 0 [] (by simp) (by simp) ad ys.length cx news hnl hnews (by omega) (by omega) (by
                rw [Nat.zero_add]
                refine growslice_fits hy0 ?_
                have : ys.length * ie.bytes ≤ 1048576 * 1048576 := Nat.mul_le_mul (by omega) hb
                omega)
              simpa using hr
            · injection hvl with hA' hlen hcap
              have hA2 : some lad = some ad' := hA'.trans hA
              injection hA2 with hA2
              subst hA2
              refine hfin l.length ?_
              exact run_append_grow (P := P) w t o.type e ie zv hu hie hzv lad l.length l.length olds (by have := hor.1; rw [flat_length hl1] at this; simpa using this) holds ad ys.length cx news hnl hnews (by omega) (by omega) (by
                refine growslice_fits (by omega) ?_
                have : (l.length + ys.length) * ie.bytes ≤ 1048576 * 1048576 := Nat.mul_le_mul hbl hb
                omega)
    · cases hp
  · cases hp
end
end Go.Vm
