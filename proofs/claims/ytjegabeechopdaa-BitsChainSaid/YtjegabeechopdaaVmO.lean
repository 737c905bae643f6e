/- All instructions together: what is resolved is sound. -/
import Derived.Test.YtjegabeechopdaaVmN
set_option linter.unusedSimpArgs false
set_option linter.unusedVariables false
namespace Go.Vm
open Go Go.RowKit

def RI.makes : RI → Bool
  | .alloc _ | .box _ | .bslice .. | .mkslice .. => true
  | _ => false

theorem stepN_noext {ev : RO → Option PV} {H : Hp} {ri : RI} {p : PV} {ext : List Blk} (hm : ri.makes = false) (h : stepN ev H ri = some (p, ext)) : ext = [] := by
  cases ri <;> simp only [RI.makes, Bool.true_eq_false] at hm <;> simp only [stepN, Option.bind_eq_bind, Option.pure_def, Option.bind_eq_some_iff, Option.some.injEq, Prod.mk.injEq, reduceCtorEq] at h
  all_goals
    first
      | (obtain ⟨_, _, _, rfl⟩ := h; rfl)
      | (obtain ⟨_, _, _, _, _, rfl⟩ := h; rfl)
      | (obtain ⟨_, _, _, _, _, _, _, rfl⟩ := h; rfl)
      | (obtain ⟨_, _, _, _, _, _, _, _, _, rfl⟩ := h; rfl)
      | skip
  all_goals
    (obtain ⟨_, _, h⟩ := h)
  all_goals
    first
      | ((try obtain ⟨_, _, h⟩ := h); (repeat' split at h) <;> (try simp only [Option.bind_eq_some_iff, Option.some.injEq, Prod.mk.injEq, reduceCtorEq] at h) <;> (repeat (obtain ⟨_, _, h⟩ := h)) <;> simp_all)

section
variable {P : Program} {gl : Nat → Option PV} {A : Nat → Prop} {w0 : World} {F : Nat → Prop} {m : Nat → Slot} {w : World} {G H : Hp} {a : Act} {env : Env} {o : Oper} {p : PV} {own : Bool}

theorem leaves_agg {d : Nat} {t : TypeId} {ls : List (Nat × Nat)} (hl : leavesOf P d t = some ls) (h1 : scalarT P t = false) (h2 : P.underlying t ≠ some .bool) : ∃ s, shp P t = some (some s) ∧ szOf P t = some s ∧ ∀ x ∈ ls, x.1 < s := by
  cases d with
  | zero => simp [leavesOf] at hl
  | succ d =>
    unfold leavesOf at hl
    split at hl
    · rename_i hu; exact absurd hu h2
    · rename_i k hu; simp [scalarT, hu] at h1
    · rename_i hu; simp [scalarT, hu] at h1
    · rename_i fs hu
      split at hl
      · cases hl
      · simp only [Option.bind_eq_bind, Option.bind_eq_some_iff] at hl
        obtain ⟨s, hs, L, hL, hl⟩ := hl
        split at hl
        · rename_i hall
          injection hl with hl
          subst hl
          refine ⟨s, ?_, hs, fun x hx => by simpa using List.all_eq_true.1 hall x hx⟩
          unfold szOf at hs
          simp only [shp, hu]
          rw [Option.map_eq_some_iff] at hs ⊢
          obtain ⟨i, hi, rfl⟩ := hs
          exact ⟨i, hi, rfl⟩
        · cases hl
    · rename_i N e hu
      simp only [Option.bind_eq_bind, Option.bind_eq_some_iff] at hl
      obtain ⟨q, hq, z, hz, s, hs, hl⟩ := hl
      split at hl
      · rename_i hall
        injection hl with hl
        subst hl
        refine ⟨s, ?_, hs, fun x hx => by simpa using List.all_eq_true.1 hall x hx⟩
        unfold szOf at hs
        simp only [shp, hu]
        rw [Option.map_eq_some_iff] at hs ⊢
        obtain ⟨i, hi, rfl⟩ := hs
        exact ⟨i, hi, rfl⟩
      · cases hl
    · cases hl

/-- WHAT AN INSTRUCTION THAT CHANGES NOTHING TELLS IS SO. -/
theorem stepN_sound {ri : RI} {ext : List Blk} (hres : resolveRI P own o = some ri) (sim : Sim gl A w0 F m w G) (hG : ∀ b k, H.f b = some k → G.f b = some k) (hX : ∀ k (h : k < ext.length), G.f (H.n + k) = some ext[k])
    (hU : ∀ k, k < ext.length → m (H.n + k) = .unborn) (he : ERel F m w a env ri.reads) (hp : stepN (RO.ev gl env) H ri = some (p, ext)) : NOk P gl A w0 F m w G H.n a o p ext.length := by
  unfold resolveRI at hres
  cases hop : o.op <;> simp only [hop, reduceCtorEq] at hres
  case move x =>
    rw [Option.map_eq_some_iff] at hres
    obtain ⟨r, hr, rfl⟩ := hres
    obtain rfl := stepN_noext rfl hp
    simp only [stepN, Option.bind_eq_bind, Option.pure_def, Option.bind_eq_some_iff, Option.some.injEq, Prod.mk.injEq] at hp
    obtain ⟨q, hq, rfl, _⟩ := hp
    exact ok_move sim (.inl hop) hr he hq _ _
  case assign x =>
    rw [Option.map_eq_some_iff] at hres
    obtain ⟨r, hr, rfl⟩ := hres
    obtain rfl := stepN_noext rfl hp
    simp only [stepN, Option.bind_eq_bind, Option.pure_def, Option.bind_eq_some_iff, Option.some.injEq, Prod.mk.injEq] at hp
    obtain ⟨q, hq, rfl, _⟩ := hp
    exact ok_move sim (.inr hop) hr he hq _ _
  case pick c x y =>
    simp only [Option.bind_eq_bind, Option.bind_eq_some_iff, Option.some.injEq] at hres
    obtain ⟨rc, hc, rx, hx, ry, hy, rfl⟩ := hres
    obtain rfl := stepN_noext rfl hp
    simp only [stepN, Option.bind_eq_bind, Option.pure_def, Option.bind_eq_some_iff] at hp
    obtain ⟨q, hq, hp⟩ := hp
    split at hp
    · rename_i t
      simp only [Option.bind_eq_some_iff, Option.some.injEq, Prod.mk.injEq] at hp
      obtain ⟨q2, hq2, rfl, _⟩ := hp
      exact ok_pick sim hop hc hx hy he hq hq2 _ _
    · cases hp
  case alloc t =>
    rw [Option.map_eq_some_iff] at hres
    obtain ⟨z, hz, rfl⟩ := hres
    simp only [stepN, Option.some.injEq, Prod.mk.injEq] at hp
    obtain ⟨rfl, rfl⟩ := hp
    exact ok_alloc sim hop hz (by simpa using hX 0 (by simp)) (by simpa using hU 0 (by simp))
  case box t x =>
    rw [Option.map_eq_some_iff] at hres
    obtain ⟨r, hr, rfl⟩ := hres
    simp only [stepN, Option.bind_eq_bind, Option.bind_eq_some_iff] at hp
    obtain ⟨q, hq, hp⟩ := hp
    split at hp
    · cases hp
    · simp only [Option.some.injEq, Prod.mk.injEq] at hp
      obtain ⟨rfl, rfl⟩ := hp
      exact ok_box sim hop hr he hq (by simpa using hX 0 (by simp)) (by simpa using hU 0 (by simp))
  case build t parts =>
    split at hres
    · rename_i pl hpl
      simp only [Option.bind_eq_bind, Option.bind_eq_some_iff, Option.some.injEq] at hres
      obtain ⟨z, hz, qs, hqs, rfl⟩ := hres
      obtain rfl := stepN_noext rfl hp
      exact ok_build sim hop hz (.inl ⟨pl, hpl, rfl⟩) hqs he _ _ hp
    · split at hres
      · rename_i N e hu
        simp only [Option.bind_eq_bind, Option.bind_eq_some_iff, Option.some.injEq] at hres
        obtain ⟨s, hs, z, hz, qs, hqs, rfl⟩ := hres
        obtain rfl := stepN_noext rfl hp
        exact ok_build sim hop hz (.inr ⟨N, e, s, hu, hs, rfl⟩) hqs he _ _ hp
      · cases hres
  case buildSlice t N parts =>
    split at hres
    · rename_i e hu
      simp only [Option.bind_eq_bind, Option.bind_eq_some_iff] at hres
      obtain ⟨s, hs, hres⟩ := hres
      split at hres
      · cases hres
      · rename_i hs0
        simp only [Option.bind_eq_some_iff, Option.some.injEq] at hres
        obtain ⟨z, hz, es, hes, rfl⟩ := hres
        exact ok_bslice sim hop hu hs hs0 hz hes he hp hX hU
    · cases hres
  case load t x =>
    simp only [Option.bind_eq_bind, Option.bind_eq_some_iff, Option.some.injEq] at hres
    obtain ⟨es, hes, r, hr, rfl⟩ := hres
    obtain rfl := stepN_noext rfl hp
    exact ok_load sim hG hop hr hes he _ _ hp
  case store t x v =>
    simp only [Option.bind_eq_bind, Option.bind_eq_some_iff, Option.some.injEq] at hres
    obtain ⟨es, hes, r, hr, r2, hr2, rfl⟩ := hres
    simp [stepN] at hp
  case binOp op t x y yt =>
    split at hres
    · simp only [Option.bind_eq_bind, Option.bind_eq_some_iff, Option.some.injEq] at hres
      obtain ⟨rx, hx, ry, hy, rfl⟩ := hres
      obtain rfl := stepN_noext rfl hp
      exact ok_bin sim hop hx hy he _ _ hp
    · rename_i hsc
      split at hres
      · rename_i hb
        simp only [Option.bind_eq_bind, Option.bind_eq_some_iff, Option.some.injEq] at hres
        obtain ⟨rx, hx, ry, hy, rfl⟩ := hres
        obtain rfl := stepN_noext rfl hp
        refine ok_binb sim hop ?_ hx hy he _ _ hp
        unfold boolT at hb
        split at hb
        · assumption
        · cases hb
      · rename_i hb
        have hnb : P.underlying t ≠ some .bool := fun e => hb (by simp [boolT, e])
        split at hres
        · split at hres
          · cases hres
          · rename_i hg
            simp only [Option.bind_eq_bind, Option.bind_eq_some_iff, Option.some.injEq] at hres
            obtain ⟨ls, hls, rx, hx, ry, hy, rfl⟩ := hres
            obtain rfl := stepN_noext rfl hp
            exact ok_eqs sim hop rfl (by simpa using hg) hls hx hy he _ _ hp (leaves_agg hls (by simpa using hsc) hnb)
        · split at hres
          · cases hres
          · rename_i hg
            simp only [Option.bind_eq_bind, Option.bind_eq_some_iff, Option.some.injEq] at hres
            obtain ⟨ls, hls, rx, hx, ry, hy, rfl⟩ := hres
            obtain rfl := stepN_noext rfl hp
            exact ok_eqs sim hop rfl (by simpa using hg) hls hx hy he _ _ hp (leaves_agg hls (by simpa using hsc) hnb)
        · cases hres
  case unOp op t x =>
    rw [Option.map_eq_some_iff] at hres
    obtain ⟨r, hr, rfl⟩ := hres
    obtain rfl := stepN_noext rfl hp
    exact ok_un sim hop hr he _ _ hp
  case convert s d x =>
    split at hres
    · rename_i k' k hs hd
      rw [Option.map_eq_some_iff] at hres
      obtain ⟨r, hr, rfl⟩ := hres
      obtain rfl := stepN_noext rfl hp
      exact ok_conv sim hop hs hd hr he _ _ hp
    · cases hres
  case fieldAddr s x i =>
    split at hres
    · rename_i fs hu
      simp only [Option.bind_eq_bind, Option.bind_eq_some_iff] at hres
      obtain ⟨f, hf, hres⟩ := hres
      split at hres
      · cases hres
      · rename_i hz
        simp only [Option.bind_eq_some_iff, Option.some.injEq] at hres
        obtain ⟨r, hr, rfl⟩ := hres
        obtain rfl := stepN_noext rfl hp
        exact ok_fieldAddr sim hop hu hf hz hr he _ _ hp
    · cases hres
  case field s x i =>
    split at hres
    · rename_i fs hu
      simp only [Option.bind_eq_bind, Option.bind_eq_some_iff, Option.some.injEq] at hres
      obtain ⟨f, hf, es, hes, r, hr, rfl⟩ := hres
      obtain rfl := stepN_noext rfl hp
      exact ok_field sim hop hu hf hes hr he _ _ hp
    · cases hres
  case indexAddr t x i =>
    split at hres
    · rename_i e hu
      simp only [Option.bind_eq_bind, Option.bind_eq_some_iff, Option.some.injEq] at hres
      obtain ⟨s, hs, r, hr, r2, hr2, rfl⟩ := hres
      obtain rfl := stepN_noext rfl hp
      exact ok_idxAddr sim hG hop hu hs hr hr2 he _ _ hp
    · rename_i N e hu
      simp only [Option.bind_eq_bind, Option.bind_eq_some_iff, Option.some.injEq] at hres
      obtain ⟨s, hs, r, hr, r2, hr2, rfl⟩ := hres
      obtain rfl := stepN_noext rfl hp
      exact ok_idxAddrA sim hop hu hs hr hr2 he _ _ hp
    · cases hres
  case index t x i =>
    split at hres
    · rename_i N e hu
      simp only [Option.bind_eq_bind, Option.bind_eq_some_iff, Option.some.injEq] at hres
      obtain ⟨s, hs, es, hes, r, hr, r2, hr2, rfl⟩ := hres
      obtain rfl := stepN_noext rfl hp
      exact ok_idx sim hop hu hs hes hr hr2 he _ _ hp
    · cases hres
  case extract x i =>
    rw [Option.map_eq_some_iff] at hres
    obtain ⟨r, hr, rfl⟩ := hres
    obtain rfl := stepN_noext rfl hp
    exact ok_extract sim hop hr he _ _ hp
  case makeSlice t L C =>
    split at hres
    · rename_i e hu
      split at hres
      · rename_i a1 b1 h1 h2
        split at hres
        · rename_i hc
          obtain ⟨rfl, hb⟩ := hc
          simp only [Option.bind_eq_bind, Option.bind_eq_some_iff, Option.some.injEq] at hres
          obtain ⟨s, hs, z, hz, rfl⟩ := hres
          exact ok_mkslice sim hop hu hs hz hb h1 h2 he hp hX hU
        · cases hres
      · rename_i a1 b1 h1 h2
        split at hres
        · rename_i hc
          obtain ⟨rfl, hb⟩ := hc
          simp only [Option.bind_eq_bind, Option.bind_eq_some_iff, Option.some.injEq] at hres
          obtain ⟨s, hs, z, hz, rfl⟩ := hres
          exact ok_mkslice sim hop hu hs hz hb h1 h2 he hp hX hU
        · cases hres
      · cases hres
    · cases hres
  case makeFunc fn first cap =>
    split at hres
    · rename_i f
      split at hres
      · rename_i h0
        simp only [Option.bind_eq_bind, Option.bind_eq_some_iff, Option.some.injEq] at hres
        obtain ⟨rs, hrs, rfl⟩ := hres
        obtain rfl := stepN_noext rfl hp
        exact ok_mkfunc sim hop h0 hrs he _ _ hp
      · cases hres
    · cases hres
  case call c =>
    split at hres
    · split at hres
      · split at hres
        · simp only [Option.bind_eq_bind, Option.bind_eq_some_iff, Option.some.injEq] at hres
          obtain ⟨rs, hrs, rfl⟩ := hres
          simp [stepN] at hp
        · cases hres
      · simp only [Option.bind_eq_bind, Option.bind_eq_some_iff, Option.some.injEq] at hres
        obtain ⟨rs, hrs, rfl⟩ := hres
        simp [stepN] at hp
      · cases hres
    · rename_i hc
      split at hres
      · rename_i x t hargs hts
        split at hres
        · rename_i hu
          rw [Option.map_eq_some_iff] at hres
          obtain ⟨r, hr, rfl⟩ := hres
          obtain rfl := stepN_noext rfl hp
          exact ok_len sim hop hc hargs hts (by simpa using hu) hr he _ _ hp
        · rename_i e hu
          rw [Option.map_eq_some_iff] at hres
          obtain ⟨r, hr, rfl⟩ := hres
          obtain rfl := stepN_noext rfl hp
          exact ok_len sim hop hc hargs hts (by simpa using ⟨e, hu⟩) hr he _ _ hp
        · cases hres
      · cases hres
    · rename_i hc
      split at hres
      · rename_i x r hargs
        simp only [Option.bind_eq_bind, Option.bind_eq_some_iff, Option.some.injEq] at hres
        obtain ⟨rx, hx, rs, hrs, rfl⟩ := hres
        obtain rfl := stepN_noext rfl hp
        exact ok_mm sim hop (by simpa using hc) hargs hx hrs he _ _ hp
      · cases hres
    · rename_i hc
      split at hres
      · rename_i x r hargs
        simp only [Option.bind_eq_bind, Option.bind_eq_some_iff, Option.some.injEq] at hres
        obtain ⟨rx, hx, rs, hrs, rfl⟩ := hres
        obtain rfl := stepN_noext rfl hp
        exact ok_mm sim hop (by simpa using hc) hargs hx hrs he _ _ hp
      · cases hres
    · split at hres
      · split at hres
        · cases hres
        · split at hres
          · simp only [Option.bind_eq_bind, Option.bind_eq_some_iff] at hres
            obtain ⟨z, hz, q, hq, hres⟩ := hres
            split at hres
            · cases hres
            · rename_i hcond
              simp only [Option.bind_eq_some_iff, Option.some.injEq] at hres
              obtain ⟨r1, h1, r2, h2, rfl⟩ := hres
              cases own with
              | true => simp [stepN] at hp
              | false =>
                simp only [Bool.false_eq_true, if_false] at hp he
                obtain rfl := stepN_noext rfl hp
                rename_i htu _ _ hu
                have htu : _ = _ := Decidable.byContradiction fun e => htu e
                subst htu
                refine ok_appendF sim hG hop ‹_› ‹_› ‹_› hu hz hq ?_ ?_ h1 h2 he _ _ hp
                · exact Decidable.byContradiction fun e => hcond (.inr (.inl e))
                · exact Decidable.byContradiction fun e => hcond (.inr (.inr (by simpa using e)))
          · cases hres
      · cases hres
    · split at hres
      · split at hres
        · simp only [Option.bind_eq_bind, Option.bind_eq_some_iff, Option.some.injEq] at hres
          obtain ⟨z, hz, r1, h1, r2, h2, rfl⟩ := hres
          simp [stepN] at hp
        · cases hres
      · cases hres
    · cases hres

/-- WHAT AN INSTRUCTION THAT CHANGES THE LOCAL HEAP TELLS IS SO. -/
theorem stepE_sound {ri : RI} {r : Option PV} {H' : Hp} (hres : resolveRI P own o = some ri) (sim : Sim gl A w0 F m w H) (hub : ∀ b, H.n ≤ b → m b = .unborn) (he : ERel F m w a env ri.reads) (hp : stepE (RO.ev gl env) H ri = some (r, H')) :
    EOk P gl A w0 F m w a o r H' := by
  unfold resolveRI at hres
  have none : (∀ n x v, ri ≠ .store n x v) → (∀ sz z s x, ri ≠ .append sz z s x) → (∀ sz d s, ri ≠ .copy sz d s) → False := by
    intro h1 h2 h3
    cases ri <;> first | (exact h1 _ _ _ rfl) | (exact h2 _ _ _ _ rfl) | (exact h3 _ _ _ rfl) | (simp [stepE] at hp)
  cases hop : o.op
  case store t x v =>
    simp only [hop, Option.bind_eq_bind, Option.bind_eq_some_iff, Option.some.injEq] at hres
    obtain ⟨n, hn, r, hr, r2, hr2, rfl⟩ := hres
    exact ok_store sim hub hop hn hr hr2 he hp
  case call c =>
    simp only [hop] at hres
    split at hres
    · split at hres
      · split at hres
        · simp only [Option.bind_eq_bind, Option.bind_eq_some_iff, Option.some.injEq] at hres
          obtain ⟨rs, hrs, rfl⟩ := hres
          simp [stepE] at hp
        · cases hres
      · simp only [Option.bind_eq_bind, Option.bind_eq_some_iff, Option.some.injEq] at hres
        obtain ⟨rs, hrs, rfl⟩ := hres
        simp [stepE] at hp
      · cases hres
    · split at hres
      · split at hres
        · rw [Option.map_eq_some_iff] at hres
          obtain ⟨r, hr, rfl⟩ := hres
          simp [stepE] at hp
        · rw [Option.map_eq_some_iff] at hres
          obtain ⟨r, hr, rfl⟩ := hres
          simp [stepE] at hp
        · cases hres
      · cases hres
    · split at hres
      · simp only [Option.bind_eq_bind, Option.bind_eq_some_iff, Option.some.injEq] at hres
        obtain ⟨rx, hx, rs, hrs, rfl⟩ := hres
        simp [stepE] at hp
      · cases hres
    · split at hres
      · simp only [Option.bind_eq_bind, Option.bind_eq_some_iff, Option.some.injEq] at hres
        obtain ⟨rx, hx, rs, hrs, rfl⟩ := hres
        simp [stepE] at hp
      · cases hres
    · rename_i hc
      split at hres
      · rename_i s x t u hargs hts
        split at hres
        · cases hres
        · rename_i htu
          have htu : t = u := by simpa using htu
          subst htu
          split at hres
          · rename_i e hu
            simp only [Option.bind_eq_bind, Option.bind_eq_some_iff] at hres
            obtain ⟨z, hz, q, hq, hres⟩ := hres
            split at hres
            · cases hres
            · rename_i hcond
              simp only [Option.bind_eq_some_iff, Option.some.injEq] at hres
              obtain ⟨r1, h1, r2, h2, rfl⟩ := hres
              cases own with
              | false => simp [stepE] at hp
              | true =>
              simp only [if_true] at hp he
              refine ok_append sim hub hop hc hargs hts hu hz hq ?_ ?_ h1 h2 he hp
              · exact Decidable.byContradiction fun e => hcond (.inr (.inl e))
              · exact Decidable.byContradiction fun e => hcond (.inr (.inr (by simpa using e)))
          · cases hres
      · cases hres
    · rename_i hc
      split at hres
      · rename_i d s t u hargs hts
        split at hres
        · rename_i e hu
          simp only [Option.bind_eq_bind, Option.bind_eq_some_iff, Option.some.injEq] at hres
          obtain ⟨z, hz, r1, h1, r2, h2, rfl⟩ := hres
          exact ok_copy sim hub hop hc hargs hts hu hz h1 h2 he hp
        · cases hres
      · cases hres
    · cases hres
  all_goals
    (simp only [hop, reduceCtorEq, Option.map_eq_some_iff, Option.bind_eq_bind, Option.bind_eq_some_iff, Option.some.injEq] at hres) <;>
    (exfalso; refine none ?_ ?_ ?_ <;> (intros; intro e; subst e; revert hres; (repeat' split) <;> simp [Option.bind_eq_some_iff]))
end
end Go.Vm
