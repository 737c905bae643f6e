/- What a callee leaves behind, cut down to what is asked of it. -/
import Derived.Test.YtjegabeechopdaaVnC
set_option linter.unusedSimpArgs false
set_option linter.unusedVariables false
namespace Go.Vm
open Go Go.RowKit
section
variable {P : Program} {gl : Nat → Option PV} {n0 : Nat} {G H H' : Hp} {A : Nat → Prop} {w0 : World} {F F0 : Nat → Prop} {m m0 : Nat → Slot} {w w00 : World}

theorem sim_freeze (hm0 : ∀ b, n0 ≤ b → m0 b = .unborn) (sim : Sim gl A w0 F m w G) (ev : Ev F0 m0 w00 F m w) (hn : n0 ≤ H'.n) (hH : HpFz G H') :
    ∃ F' m', Sim gl A w0 F' m' w H' ∧ Ev F0 m0 w00 F' m' w ∧ (∀ b, H'.n ≤ b → m' b = .unborn) ∧ (∀ v p q, VRel F w m v p → fz G H'.n p = some q → VRel F' w m' v q) := by
  let m' : Nat → Slot := fun b => if b < H'.n then m b else .unborn
  let F' : Nat → Prop := fun β => F β ∨ ∃ b sz g, H'.n ≤ b ∧ m b = .live β sz g
  have m'lt : ∀ b, b < H'.n → m' b = m b := fun b hb => if_pos hb
  have m'ge : ∀ b, H'.n ≤ b → m' b = .unborn := fun b hb => if_neg (by omega)
  have live' : ∀ {b β sz g}, m' b = .live β sz g → b < H'.n ∧ m b = .live β sz g := by
    intro b β sz g h
    by_cases hb : b < H'.n
    · rw [m'lt b hb] at h; exact ⟨hb, h⟩
    · rw [m'ge b (by omega)] at h; cases h
  have hF : ∀ β, F β → F' β := fun β h => .inl h
  have hl : ∀ b β sz g, H'.n ≤ b → m b = .live β sz g → F' β := fun b β sz g h1 h2 => .inr ⟨b, sz, g, h1, h2⟩
  have rel : ∀ {v p q}, VRel F w m v p → fz G H'.n p = some q → VRel F' w m' v q := fun h hq => fz_rel sim hF m'lt hl h hq
  refine ⟨F', m', ⟨sim.below, fun b β sz g h => ?_, fun b b' β sz g sz' g' h h' => sim.inj b b' β sz g sz' g' (live' h).2 (live' h').2, fun β h => ?_, fun β h => ?_, fun b k hk hnu => ?_, fun g p hp => (sim.glob g p hp).monoV ⟨hF, fun _ _ => rfl, fun _ _ => rfl, fun _ => trivial, fun _ _ _ _ h => by simp [noM] at h⟩⟩,
    ⟨ev.grow, fun β h => hF β (ev.frz β h), ev.fnl, ev.keep, fun β ⟨b, sz, g, h⟩ => ev.fresh β ⟨b, sz, g, (live' h).2⟩, ev.size, fun b => ?_, ev.liv⟩, fun b hb => m'ge b hb, fun v p q h hq => rel h hq⟩
  · obtain ⟨hb, h⟩ := live' h
    obtain ⟨a1, a2, a3⟩ := sim.live b β sz g h
    refine ⟨a1, a2, fun hf => ?_⟩
    rcases hf with hf | ⟨b', sz', g', h1, h2⟩
    · exact a3 hf
    · have := sim.inj b b' β _ _ _ _ h h2
      omega
  · rcases h with h | ⟨b, sz, g, _, h⟩
    · exact sim.frz β h
    · exact .inr (sim.live b β sz g h).1
  · rcases h with h | ⟨b, sz, g, _, h⟩
    · exact sim.frzlt β h
    · exact (sim.live b β sz g h).2.1
  · by_cases hb : b < H'.n
    · rw [m'lt b hb] at hnu ⊢
      obtain ⟨k0, hk0, e1, e2, e3⟩ := hH b k hb hk
      obtain ⟨el, eg⟩ := fzP_get e3
      rcases sim.blk b k0 hk0 hnu with ⟨β, hm, ⟨cs, T, h1, h2, h3, h4⟩⟩ | ⟨hv, hx⟩
      · refine .inl ⟨β, by rw [e1, e2]; exact hm, cs, T, h1, by rw [e2, ← el]; exact h2, fun x hx => ?_, fun i hi j hj => ?_⟩
        · obtain ⟨i, hi, rfl⟩ := List.mem_iff_getElem.1 hx
          rw [e2, ← h3 _ (List.getElem_mem (show i < k0.xs.length by omega))]
          exact (fz_cells (eg i (by omega) hi)).1.symm
        · obtain ⟨c1, c2⟩ := fz_cells (eg i (by omega) hi)
          obtain ⟨v, hv, hrel⟩ := h4 i (by omega) j (by omega)
          rw [e2]
          exact ⟨v, hv, rel hrel (c2 j (by omega) hj)⟩
      · refine .inr ⟨by rw [e1]; exact hv, ?_⟩
        rw [hx] at el
        exact List.eq_nil_of_length_eq_zero el.symm
    · exact absurd (m'ge b (by omega)) hnu
  · by_cases hb : b < H'.n
    · rw [m'lt b hb]; exact ev.slot b
    · have : m0 b = .unborn := hm0 b (by omega)
      rw [this]; trivial

theorem hpfz_ofL {G : Hp} {l : List (Option Blk)} (h2 : chkH G l.length l 0) : HpFz G (Hp.ofL l) := by
  intro b k' hb hk
  simp only [Hp.ofL] at hb hk
  have hk2 : l[b]? = some (some k') := by
    cases h : l[b]? with
    | none => rw [h] at hk; cases hk
    | some o => rw [h] at hk; exact congrArg some hk
  have := chkH_get h2 b k' hk2
  rwa [Nat.zero_add] at this

theorem HSpec.cut {f : FuncId} {args : List PV} {R0 R : PV → Hp → Prop} (h : HSpec P gl f args H R0) (k : ∀ r G, R0 r G → ∃ r' H', H.n ≤ H'.n ∧ fz G H'.n r = some r' ∧ HpFz G H' ∧ R r' H') : HSpec P gl f args H R := by
  refine ⟨h.1, fun A w0 F m w vs sim hU hvs => (h.2 A w0 F m w vs sim hU hvs).mono ?_⟩
  rintro e w' ⟨v, F1, m1, r, G, rfl, hR, sim1, hU1, ev1, hrel⟩
  obtain ⟨r', H', h1, h2, h3, h4⟩ := k r G hR
  obtain ⟨F', m', s', e', u', rel⟩ := sim_freeze (n0 := H.n) hU sim1 ev1 h1 h3
  exact ⟨v, F', m', r', H', rfl, h4, s', u', e', rel v r r' hrel h2⟩

theorem Fresh.cut {f : FuncId} {args : List PV} {r r' : PV} {G K : Hp} (h : Fresh P gl f args r G) (h1 : fz G K.n r = some r') (h2 : HpFz G K) : Fresh P gl f args r' K := by
  refine ⟨h.1, fun A w vs hA hg hvs => (h.2 A w vs hA hg hvs).mono ?_⟩
  rintro e w' ⟨v, F1, m1, rfl, sim1, hU1, hF, hrel⟩
  have ev : Ev A noM w F1 m1 w' := ⟨sim1.below.size, hF, fun β hb => ⟨hA β hb, fun ⟨b, sz, g, e⟩ => by simp [noM] at e⟩, fun β hb _ => sim1.below.block β hb, fun β ⟨b, sz, g, e⟩ => .inr (sim1.live b β sz g e).1,
    fun β hb => by unfold rowSize; rw [sim1.below.block β hb], fun b => trivial, fun b β sz g e => by simp [noM] at e⟩
  obtain ⟨F', m', s', e', u', rel⟩ := sim_freeze (n0 := 0) (H' := K) (fun b _ => rfl) sim1 ev (Nat.zero_le _) h2
  exact ⟨v, F', m', rfl, s', u', e'.frz, rel v r r' hrel h1⟩

/-- A function's fresh answer, told block by block. -/
theorem Fresh.cutL {f : FuncId} {args : List PV} {r r' : PV} {G : Hp} {l : List (Option Blk)} (h : Fresh P gl f args r G) (h1 : fz G l.length r = some r') (h2 : chkH G l.length l 0) : Fresh P gl f args r' (Hp.ofL l) := by
  refine h.cut h1 fun b k' hb hk => ?_
  simp only [Hp.ofL] at hb hk
  have hk2 : l[b]? = some (some k') := by
    cases h : l[b]? with
    | none => rw [h] at hk; cases hk
    | some o => rw [h] at hk; exact congrArg some hk
  have := chkH_get h2 b k' hk2
  rwa [Nat.zero_add] at this

/-- A function's fresh answer out of its walk, told block by block. -/
theorem Fresh.fnL {ow : Nat → Nat → Bool} {f : FuncId} {c : RCode} {rs : List RRes} {args : List PV} {r' : PV} {l : List (Option Blk)} (hmix : P.follows .mixedOrders = true) (hf : fnOf P ow f = some ⟨c, rs⟩)
    (h : Tr P gl 0 c (envOf args) Hp.none (FnQ rs fun r0 G => fz G l.length r0 = some r' ∧ chkH G l.length l 0)) : Fresh P gl f args r' (Hp.ofL l) := by
  refine ⟨(fnOf_spec hf).1, fun A w vs hA hg hvs => ?_⟩
  refine (calls_tr (H := Hp.none) hmix hf h (Sim.none hA hg) (fun _ _ => rfl) hvs).mono ?_
  rintro e w' ⟨v, F1, m1, r, G, rfl, ⟨h1, h2⟩, sim1, hU1, ev, hrel⟩
  obtain ⟨F', m', s', e', u', rel⟩ := sim_freeze (n0 := 0) (H' := Hp.ofL l) (fun b _ => rfl) sim1 ev (Nat.zero_le _) (hpfz_ofL h2)
  exact ⟨v, F', m', rfl, s', u', e'.frz, rel v r r' hrel h1⟩

/-- What reaches into the caller's heap, told block by block. -/
theorem HSpec.fnL {ow : Nat → Nat → Bool} {f : FuncId} {c : RCode} {rs : List RRes} {args : List PV} {r' : PV} {l : List (Option Blk)} (hn : H.n ≤ l.length) (hmix : P.follows .mixedOrders = true) (hf : fnOf P ow f = some ⟨c, rs⟩)
    (h : Tr P gl H.n c (envOf args) H (FnQ rs fun r0 G => fz G l.length r0 = some r' ∧ chkH G l.length l 0)) : HSpec P gl f args H (fun r0 G => r0 = r' ∧ G = Hp.ofL l) := by
  refine HSpec.cut (HSpec.fn hmix hf h) ?_
  rintro r G ⟨h1, h2⟩
  exact ⟨r', Hp.ofL l, hn, h1, hpfz_ofL h2, rfl, rfl⟩

/-- What is handed back fresh, read as plain data. -/
theorem Fresh.pure {f : FuncId} {args : List PV} {r r' : PV} {K : Hp} (h : Fresh P gl f args r K) (h2 : soft K true r = some r') : Pure P gl f args r' := by
  refine ⟨h.1, fun A w vs hA hg hvs => (h.2 A w vs hA hg hvs).mono ?_⟩
  rintro e w' ⟨v, F', m', rfl, sim, hU, hF, hrel⟩
  refine ⟨v, rfl, sim.below, ?_⟩
  exact soft_rel sim (fun _ _ h => h) (fun β h => by
    rcases sim.frz β h with h' | h'
    · exact .inl h'
    · exact .inr ⟨h', sim.frzlt β h⟩) (fun _ β h1 h2 => .inr ⟨h1, h2⟩) hrel h2
end
section
variable {gl : Nat → Option PV} {s : Env} {H : Hp}
theorem fnQ_told_ret {rs : List RRes} {l : List (Option Blk)} {r r' : PV} (h : retOf rs H s = some r) (h1 : fz H l.length r = some r') (h2 : chkH H l.length l 0) : FnQ rs (fun r0 G => fz G l.length r0 = some r' ∧ chkH G l.length l 0) .ret s H := ⟨r, h, h1, h2⟩
end
end Go.Vm
namespace Go.Vm
open Go Go.RowKit
/-- Blocks as they stand behind n others. -/
inductive ShL (n : Nat) : List (Option Blk) → List (Option Blk) → Prop
  | nil : ShL n [] []
  | none {l l' : List (Option Blk)} (h : ShL n l l') : ShL n (none :: l) (none :: l')
  | some {g sz : Nat} {xs xs' : List PV} {l l' : List (Option Blk)} (hx : shiftPs n xs = .some xs') (h : ShL n l l') : ShL n (.some ⟨g, sz, xs⟩ :: l) (.some ⟨g, sz, xs'⟩ :: l')
theorem ShL.length {n : Nat} {l l' : List (Option Blk)} (h : ShL n l l') : l.length = l'.length := by
  induction h <;> simp [*]
theorem ShL.get {n : Nat} {l l' : List (Option Blk)} (h : ShL n l l') : ∀ i : Nat, (l'[i]?).join = ((l[i]?).join).bind (shiftB n) := by
  induction h with
  | nil => intro i; simp
  | none h ih => intro i; cases i with
    | zero => rfl
    | succ i => simpa using ih i
  | some hx h ih => intro i; cases i with
    | zero => simp [shiftB, hx]
    | succ i => simpa using ih i
/-- More blocks; some that nothing is known of. -/
def Hp.addO (H : Hp) (l : List (Option Blk)) : Hp := ⟨H.n + l.length, fun c => if c < H.n then H.f c else (l[c - H.n]?).join, fun c hc => by
  rw [if_neg (by omega), List.getElem?_eq_none (by omega)]
  rfl⟩
theorem hn5 (H : Hp) (l : List (Option Blk)) : (H.addO l).n = H.n + l.length := rfl
theorem addH_ofL {H : Hp} {n : Nat} (hn : H.n = n) {l l' : List (Option Blk)} (h : ShL n l l') : H.addH (Hp.ofL l) = H.addO l' := by
  subst hn
  refine Hp.ext ?_ ?_
  · show H.n + l.length = H.n + l'.length
    rw [h.length]
  · funext c
    show (if c < H.n then H.f c else ((l[c - H.n]?).join).bind (shiftB H.n)) = (if c < H.n then H.f c else (l'[c - H.n]?).join)
    rw [h.get]
theorem shift1_pure {n : Nat} {p : PV} (h : pure1 p = true) : shift1 n p = some p := by unfold shift1; rw [if_pos h]
theorem shiftL_pure {n : Nat} : ∀ {l : List PV}, l.all pure1 = true → shiftL n l = some l
  | [], _ => rfl
  | x :: r, h => by
    simp only [List.all_cons, Bool.and_eq_true] at h
    simp only [shiftL, shift1_pure h.1, shiftL_pure h.2, Option.bind_eq_bind, Option.bind_some]
theorem shiftP_pure {n : Nat} {p : PV} (h : pureE p = true) : shiftP n p = some p := by
  cases p
  case agg l => simp only [shiftP, shift0, shiftL_pure (l := l) (by simpa [pureE] using h), Option.map_some]
  case tup l => simp [pureE, pure1] at h
  all_goals
    unfold shiftP shift0
    exact shift1_pure (by exact h)
theorem shiftPs_pure {n : Nat} : ∀ {l : List PV}, l.all pureE = true → shiftPs n l = some l
  | [], _ => rfl
  | x :: r, h => by
    simp only [List.all_cons, Bool.and_eq_true] at h
    simp only [shiftPs, shiftP_pure h.1, shiftPs_pure h.2, Option.bind_eq_bind, Option.bind_some]
section
variable {P : Program} {gl : Nat → Option PV} {e : Bool} {s : Env} {H : Hp} {l : Nodes} {Q : Env → Hp → Prop} {d : Option Nat} {bf : Nat}
/-- Fresh blocks, told one by one. -/
theorem n_freshL {f : FuncId} {args : List RO} {as as' : List PV} {r r' : PV} {bl bl' : List (Option Blk)} {n : Nat} (hn : H.n = n) (h1 : evs (RO.ev gl s) args = some as) (h2 : softs H false as = some as') (h3 : Fresh P gl f as' r (Hp.ofL bl)) (h4 : shiftP n r = some r') (h5 : ShL n bl bl') (k : WN P gl e l (s.put d (some r')) (H.addO bl') Q) : WN P gl e (.op d (.call f args) bf l) s H Q :=
  n_fresh hn h1 h2 h3 h4 (by rw [addH_ofL hn h5]; exact k)
end
end Go.Vm
