/- Laid. -/
import Derived.Test.YtheihgmjjpjlmaaDoorLBitsAll
import Derived.Sort.Grow
import Derived.Test.YtheihgmjjpjlmaaDoorVmThree
import Derived.Laws.BitsLemmas
section
/- Rows of values of one kind. -/
set_option linter.unusedSimpArgs false
set_option linter.unusedVariables false
namespace Go.Vm
open Go Go.RowKit
section
variable {α : Type}
theorem take_snoc1 {l : List α} {k : Nat} (h : k < l.length) (d : α) : l.take k ++ [l.getD k d] = l.take (k + 1) := by
  rw [List.take_add_one, List.getElem?_eq_getElem h, List.getD_eq_getElem?_getD, List.getElem?_eq_getElem h]
  rfl
end
section
variable {P : Program} {gl : Nat → Option PV} {e : Bool} {s : Env} {H : Hp} {l : Nodes} {Q : Env → Hp → Prop} {d : Option Nat} {bf : Nat} {α : Type} {f : α → PV}
theorem n_append_vals {sz b g k : Nat} {z : PV} {x v : RO} {q : PV} {xs : List α} (a : α) (hx : x.ev gl s = some (.ref b g 0 k)) (hv : v.ev gl s = some (.lit [q])) (hb : H.f b = some ⟨g, sz, xs.map f⟩) (hq : q = f a) (hz : cellsOk sz [q] = true) (hl : k = xs.length) (hm : k + 1 ≤ 1048576)
    (kk : WN P gl e l (s.put d (some (.ref b (g + 1) 0 (k + 1)))) (H.set b ⟨g + 1, sz, (xs ++ [a]).map f⟩) Q) : WN P gl e (.op d (.append sz z x v) bf l) s H Q := by
  subst hq hl
  refine n_append (ys := [f a]) hx hv hb (by simp) rfl hz (by simpa using hm) (len' := xs.length + 1) (by simp) ?_
  rw [show xs.map f ++ [f a] = (xs ++ [a]).map f by simp]
  exact kk
theorem vals_pure (hf : ∀ a, pureE (f a) = true) (xs : List α) : (xs.map f).all pureE = true := by simp [hf]
theorem fzP_vals {k : Nat} {xs ys : List α} (hf : ∀ a, pureE (f a) = true) (h : xs = ys) : fzP H k (xs.map f) = some (ys.map f) := by subst h; exact fzP_pure (vals_pure hf _)
theorem soft_vals {b g sz len : Nat} {xs : List α} (hb : H.f b = some ⟨g, sz, xs.map f⟩) (hf : ∀ a, pureE (f a) = true) (hl : len = xs.length) : soft1 H true (.ref b g 0 len) = some (.sl (xs.map f)) := by
  subst hl
  have hp := vals_pure hf xs
  have e : elems H (.ref b g 0 xs.length) = some (xs.map f) := by simp [elems, Hp.blk, hb, List.take_of_length_le]
  exact soft1_row e hp
theorem fnQ_ret_vals {rs : List RRes} {b g sz len : Nat} {xs : List α} {rr : PV} (h : retOf rs H s = some (.ref b g 0 len)) (hb : H.f b = some ⟨g, sz, xs.map f⟩) (hf : ∀ a, pureE (f a) = true) (hl : len = xs.length) (h3 : .sl (xs.map f) = rr) : FnQ rs (fun r0 H' => soft H' true r0 = some rr) .ret s H :=
  ⟨_, h, (soft_vals hb hf hl).trans (congrArg some h3)⟩
end
end Go.Vm
namespace Go.Vm
section
variable {P : Program} {gl : Nat → Option PV} {e : Bool} {s : Env} {H : Hp} {l : Nodes} {Q : Env → Hp → Prop} {d : Option Nat} {bf : Nat}
end
end Go.Vm
namespace Go.Vm
section
variable {P : Program} {gl : Nat → Option PV} {e : Bool} {s : Env} {H : Hp} {l : Nodes} {Q : Env → Hp → Prop} {d : Option Nat} {bf : Nat}
end
end Go.Vm
namespace Go.Vm
section
variable {P : Program} {gl : Nat → Option PV} {e : Bool} {s : Env} {H : Hp} {l : Nodes} {Q : Env → Hp → Prop} {d : Option Nat} {bf : Nat}
end
end Go.Vm
namespace Go.Vm
end Go.Vm
namespace Go.Vm
section
variable {P : Program} {gl : Nat → Option PV} {e : Bool} {s : Env} {H : Hp} {l : Nodes} {Q : Env → Hp → Prop} {d : Option Nat} {bf : Nat}
end
end Go.Vm
end
section
/- A call with the heap told as a list. -/
set_option linter.unusedSimpArgs false
set_option linter.unusedVariables false
open Go
namespace Go.Vm
def sameL (H : Hp) : List (Option Blk) → Nat → Prop
  | [], _ => True
  | k :: l, b => H.f b = k ∧ sameL H l (b + 1)
theorem sameL_get {H : Hp} : ∀ {l : List (Option Blk)} {b : Nat}, sameL H l b → ∀ i, i < l.length → H.f (b + i) = (l[i]?).join
  | k :: l, b, h, 0, _ => by simpa using h.1
  | k :: l, b, h, i + 1, hi => by
    have := sameL_get h.2 i (by simpa using hi)
    rw [show b + 1 + i = b + (i + 1) by omega] at this
    simpa using this
theorem hp_ofL {H : Hp} {l : List (Option Blk)} (hn : H.n = l.length) (h : sameL H l 0) : H = Hp.ofL l := by
  obtain ⟨n, f, wf⟩ := H
  simp only at hn
  subst hn
  have e : f = fun b => (l[b]?).join := by
    funext b
    by_cases hb : b < l.length
    · have := sameL_get h b hb
      simpa using this
    · rw [List.getElem?_eq_none (by omega), wf b (by omega)]; rfl
  subst e
  rfl
section
variable {P : Program} {gl : Nat → Option PV} {s : Env} {H : Hp} {l : Nodes} {Q : Env → Hp → Prop} {d : Option Nat} {bf : Nat}
end
end Go.Vm
end
section
/- A call with a part of the heap: all else stays as it is. -/
set_option linter.unusedSimpArgs false
set_option linter.unusedVariables false
namespace Go.Vm
open Go Go.RowKit
mutual
def PV.ren (ρ : Nat → Nat) : PV → PV
  | .agg l => .agg (renL ρ l)
  | .tup l => .tup (renL ρ l)
  | .lit l => .lit (renL ρ l)
  | .fptr l => .fptr (renL ρ l)
  | .fn f l => .fn f (renL ρ l)
  | .ifc t p => .ifc t (p.ren ρ)
  | .ref b g o n => .ref (ρ b) g o n
  | .ptr b g i o => .ptr (ρ b) g i o
  | .cref b g i o n => .cref (ρ b) g i o n
  | .mp b => .mp (ρ b)
  | .yld b => .yld (ρ b)
  | .lp L ts => .lp L ts
  | .int k n => .int k n
  | .bool b => .bool b
  | .str s => .str s
  | .nilp => .nilp
  | .nilf => .nilf
  | .nili => .nili
  | .nilm => .nilm
  | .sl l => .sl l
  | .raw v => .raw v
def renL (ρ : Nat → Nat) : List PV → List PV
  | [] => []
  | x :: r => x.ren ρ :: renL ρ r
end
theorem renL_length {ρ : Nat → Nat} : ∀ (l : List PV), (renL ρ l).length = l.length
  | [] => rfl
  | x :: r => by simp [renL, renL_length r]
theorem renL_get {ρ : Nat → Nat} : ∀ (l : List PV) (i : Nat) (h : i < (renL ρ l).length) (h2 : i < l.length), (renL ρ l)[i] = (l[i]).ren ρ
  | [], i, h, _ => absurd h (by simp [renL])
  | x :: r, i, h, h2 => by
    cases i with
    | zero => rfl
    | succ i => exact renL_get r i (by simpa [renL] using h) (by simpa using h2)
theorem ren_cells {ρ : Nat → Nat} (p : PV) : (p.ren ρ).cells = renL ρ p.cells := by
  cases p <;> first | rfl
section
variable {P : Program} {gl : Nat → Option PV} {A : Nat → Prop} {w0 : World} {F : Nat → Prop} {m m1 m2 : Nat → Slot} {w : World} {G H K : Hp} {p : PV} {ρ : Nat → Nat}
theorem ren_rel {v : Value} {p : PV} (h : VRel F w m v p) : ∀ {m2 : Nat → Slot}, (∀ b, m b ≠ .unborn → m2 (ρ b) = m b) → VRel F w m2 v (p.ren ρ) := by
  induction h with
  | int => exact fun _ => .int _ _
  | bool => exact fun _ => .bool _
  | str => exact fun _ => .str _
  | nilp => exact fun _ => .nilp
  | nilf => exact fun _ => .nilf
  | nili => exact fun _ => .nili
  | nilm => exact fun _ => .nilm
  | slnil A c hc => exact fun _ => .slnil A c hc
  | litnil => exact fun _ => .litnil
  | raw t v => exact fun _ => .raw t v
  | sl ad c sz l cs hF hc hm hz hcell h _ => exact fun _ => .sl ad c sz l cs hF hc hm hz hcell h
  | agg a l hs _ ih => exact fun h2 => .agg a _ (by rw [renL_length]; exact hs) fun i q1 q2 => by rw [renL_get l i q2 (by rw [renL_length] at q2; exact q2)]; exact ih i q1 _ h2
  | tup a l hs _ ih => exact fun h2 => .tup a _ (by rw [renL_length]; exact hs) fun i q1 q2 => by rw [renL_get l i q2 (by rw [renL_length] at q2; exact q2)]; exact ih i q1 _ h2
  | fptr ad l cs hF hcell _ ih => exact fun h2 => .fptr ad _ cs hF (fun j hj => hcell j (by rw [renL_length] at hj; exact hj)) fun j q => by rw [renL_get l j q (by rw [renL_length] at q; exact q)]; exact ih j _ h2
  | fn f first captured caps h0 hs _ ih => exact fun h2 => .fn f first captured _ h0 (by rw [renL_length]; exact hs) fun i q1 q2 => by rw [renL_get caps i q2 (by rw [renL_length] at q2; exact q2)]; exact ih i q1 _ h2
  | ifc t v p _ ih => exact fun h2 => .ifc t v _ (ih h2)
  | lit ad sz l cs hF hm hz hcell _ ih =>
    intro m2 h2
    have e : (renL ρ l).length = l.length := renL_length l
    show VRel F w m2 (.slice (some ad) l.length l.length) (.lit (renL ρ l))
    rw [← e]
    refine .lit ad sz (renL ρ l) cs hF (by omega) (fun x hx => ?_) (fun i hi j hj => hcell i (by omega) j hj) (fun i q1 j q2 => ?_)
    · obtain ⟨i, hi, rfl⟩ := List.mem_iff_getElem.1 hx
      rw [renL_get l i hi (by omega), ren_cells, renL_length]
      exact hz _ (List.getElem_mem _)
    · have e1 := renL_get (ρ := ρ) l i q1 (by omega)
      have e2 : ((renL ρ l)[i]).cells = renL ρ (l[i]'(by omega)).cells := by rw [e1, ren_cells]
      have q3 : j < (l[i]'(by omega)).cells.length := by rw [e2, renL_length] at q2; exact q2
      have e3 : ((renL ρ l)[i]).cells[j] = ((l[i]'(by omega)).cells[j]).ren ρ := by
        simp only [e2]
        exact renL_get _ j _ q3
      rw [e3]
      exact ih i (by omega) j q3 h2
  | ref A c b g off len h =>
    intro m2 h2
    refine .ref A c _ g off len ?_
    rw [h2 b (fun e => by rw [e] at h; exact h)]
    exact h
  | ptr ad b g i off h =>
    intro m2 h2
    refine .ptr ad _ g i off ?_
    rw [h2 b (fun e => by rw [e] at h; exact h)]
    exact h
  | cref A c b g i off len h =>
    intro m2 h2
    refine .cref A c _ g i off len ?_
    rw [h2 b (fun e => by rw [e] at h; exact h)]
    exact h
  | mp β b h =>
    intro m2 h2
    refine .mp β _ ?_
    rw [h2 b (fun e => by rw [e] at h; simp at h)]
    exact h
  | yld β b h =>
    intro m2 h2
    refine .yld β _ ?_
    rw [h2 b (fun e => by rw [e] at h; simp at h)]
    exact h
theorem sizeOf_cells {p x : PV} (h : x ∈ p.cells) : SizeOf.sizeOf x ≤ SizeOf.sizeOf p := by
  have one : p.cells = [p] → SizeOf.sizeOf x ≤ SizeOf.sizeOf p := fun e => by
    rw [e, List.mem_singleton] at h
    subst h
    exact Nat.le_refl _
  cases p
  case agg l =>
    simp only [PV.cells] at h
    have := List.sizeOf_lt_of_mem h
    simp only [PV.agg.sizeOf_spec]
    omega
  all_goals exact one rfl
theorem ren_back {n : Nat} (h1 : ∀ b, b < n → m1 b = m (ρ b)) (p : PV) (v : Value) (hu : p.under n = true) (h : VRel F w m v (p.ren ρ)) : VRel F w m1 v p := by
  match p, hu, h with
  | .int _ _, _, h => simp only [PV.ren] at h; cases h; exact .int _ _
  | .bool _, _, h => simp only [PV.ren] at h; cases h; exact .bool _
  | .str _, _, h => simp only [PV.ren] at h; cases h; exact .str _
  | .nilp, _, h => simp only [PV.ren] at h; cases h; exact .nilp
  | .nilf, _, h => simp only [PV.ren] at h; cases h; exact .nilf
  | .nili, _, h => simp only [PV.ren] at h; cases h; exact .nili
  | .nilm, _, h => simp only [PV.ren] at h; cases h; exact .nilm
  | .raw _, _, h => simp only [PV.ren] at h; cases h; exact .raw _ _
  | .sl l, _, h =>
    simp only [PV.ren] at h
    cases h with
    | slnil A c hc => exact .slnil A c hc
    | sl ad c sz _ cs hF hc hm hz hcell hk => exact .sl ad c sz l cs hF hc hm hz hcell hk
  | .ref b g o len, hu, h =>
    simp only [PV.ren] at h
    cases h with
    | ref A c _ _ _ _ h => exact .ref A c b g o len (by rw [h1 b (by simpa [PV.under] using hu)]; exact h)
  | .ptr b g i o, hu, h =>
    simp only [PV.ren] at h
    cases h with
    | ptr ad _ _ _ _ h => exact .ptr ad b g i o (by rw [h1 b (by simpa [PV.under] using hu)]; exact h)
  | .cref b g i o len, hu, h =>
    simp only [PV.ren] at h
    cases h with
    | cref A c _ _ _ _ _ h => exact .cref A c b g i o len (by rw [h1 b (by simpa [PV.under] using hu)]; exact h)
  | .mp b, hu, h =>
    simp only [PV.ren] at h
    cases h with
    | mp β _ h => exact .mp β b (by rw [h1 b (by simpa [PV.under] using hu)]; exact h)
  | .yld b, hu, h =>
    simp only [PV.ren] at h
    cases h with
    | yld β _ h => exact .yld β b (by rw [h1 b (by simpa [PV.under] using hu)]; exact h)
  | .lp _ _, _, h => simp only [PV.ren] at h; cases h
  | .agg l, hu, h =>
    simp only [PV.ren] at h
    cases h with
    | agg a _ hs h =>
      rw [renL_length] at hs
      refine .agg a l hs fun i q1 q2 => ?_
      have := h i q1 (by rw [renL_length]; exact q2)
      rw [renL_get l i _ q2] at this
      have hlt := List.sizeOf_lt_of_mem (List.getElem_mem q2)
      exact ren_back h1 l[i] _ (underL_get (by simpa [PV.under] using hu) i q2) this
  | .tup l, hu, h =>
    simp only [PV.ren] at h
    cases h with
    | tup a _ hs h =>
      rw [renL_length] at hs
      refine .tup a l hs fun i q1 q2 => ?_
      have := h i q1 (by rw [renL_length]; exact q2)
      rw [renL_get l i _ q2] at this
      have hlt := List.sizeOf_lt_of_mem (List.getElem_mem q2)
      exact ren_back h1 l[i] _ (underL_get (by simpa [PV.under] using hu) i q2) this
  | .fn f l, hu, h =>
    simp only [PV.ren] at h
    cases h with
    | fn _ first a _ h0 hs h =>
      rw [renL_length] at hs
      refine .fn f first a l h0 hs fun i q1 q2 => ?_
      have := h i q1 (by rw [renL_length]; exact q2)
      rw [renL_get l i _ q2] at this
      have hlt := List.sizeOf_lt_of_mem (List.getElem_mem q2)
      exact ren_back h1 l[i] _ (underL_get (by simpa [PV.under] using hu) i q2) this
  | .fptr l, hu, h =>
    simp only [PV.ren] at h
    cases h with
    | fptr ad _ cs hF hcell h =>
      rw [renL_length] at hcell
      refine .fptr ad l cs hF hcell fun j q2 => ?_
      have := h j (by rw [renL_length]; exact q2)
      rw [renL_get l j _ q2] at this
      have hlt := List.sizeOf_lt_of_mem (List.getElem_mem q2)
      exact ren_back h1 l[j] _ (underL_get (by simpa [PV.under] using hu) j q2) this
  | .ifc t q, hu, h =>
    simp only [PV.ren] at h
    cases h with
    | ifc _ v' _ h => exact .ifc t v' q (ren_back h1 q v' (by simpa [PV.under] using hu) h)
  | .lit l, hu, h =>
    simp only [PV.ren] at h
    generalize hq : renL ρ l = q at h
    cases h with
    | litnil =>
      have : l = [] := List.eq_nil_of_length_eq_zero (by rw [← renL_length (ρ := ρ) l, hq]; rfl)
      subst this
      exact .litnil
    | lit ad sz _ cs hF hm hz hcell hk =>
      subst hq
      have e := renL_length (ρ := ρ) l
      rw [e]
      refine .lit ad sz l cs hF (by omega) (fun x hx => ?_) (fun i hi j hj => hcell i (by omega) j hj) (fun i q1 j q2 => ?_)
      · obtain ⟨i, hi, rfl⟩ := List.mem_iff_getElem.1 hx
        have := hz ((renL ρ l)[i]'(by omega)) (List.getElem_mem _)
        rw [renL_get l i _ hi, ren_cells, renL_length] at this
        exact this
      · have e1 := renL_get (ρ := ρ) l i (by omega) q1
        have e2 : ((renL ρ l)[i]'(by omega)).cells = renL ρ (l[i]).cells := by rw [e1, ren_cells]
        have q3 : j < ((renL ρ l)[i]'(by omega)).cells.length := by rw [e2, renL_length]; exact q2
        have e3 : ((renL ρ l)[i]'(by omega)).cells[j] = ((l[i]).cells[j]).ren ρ := by
          simp only [e2]
          exact renL_get _ j _ q2
        have := hk i (by omega) j q3
        rw [e3] at this
        have hlt := List.sizeOf_lt_of_mem (List.getElem_mem q1)
        have hle := sizeOf_cells (List.getElem_mem q2)
        exact ren_back h1 (l[i]).cells[j] _ (below_cells (underL_get (by simpa [PV.under] using hu) i q1) j q2) this
termination_by SizeOf.sizeOf p
decreasing_by all_goals (simp_wf; try omega)
def posOf (c : Nat) : List Nat → Nat → Option Nat
  | [], _ => none
  | x :: r, i => if x = c then some i else posOf c r (i + 1)
theorem posOf_some {c : Nat} : ∀ {l : List Nat} {i j : Nat}, posOf c l i = some j → i ≤ j ∧ l[j - i]? = some c
  | [], i, j, h => by simp [posOf] at h
  | x :: r, i, j, h => by
    unfold posOf at h
    split at h
    · rename_i e
      injection h with h
      subst h e
      simp
    · obtain ⟨h1, h2⟩ := posOf_some h
      refine ⟨by omega, ?_⟩
      rw [show j - i = (j - (i + 1)) + 1 by omega]
      exact h2
theorem posOf_get {c : Nat} : ∀ {l : List Nat} {i b : Nat}, l.Nodup → l[b]? = some c → posOf c l i = some (i + b)
  | [], i, b, _, h => by simp at h
  | x :: r, i, b, hd, h => by
    rw [List.nodup_cons] at hd
    unfold posOf
    cases b with
    | zero =>
      simp only [List.getElem?_cons_zero, Option.some.injEq] at h
      rw [if_pos h]; rfl
    | succ b =>
      simp only [List.getElem?_cons_succ] at h
      rw [if_neg (fun e => hd.1 (by subst e; exact List.mem_of_getElem? h)), posOf_get hd.2 h]
      congr 1; omega
def rho (l : List Nat) (n : Nat) (b : Nat) : Nat := match l[b]? with | some c => c | none => n + (b - l.length)
def renB (ρ : Nat → Nat) (k : Blk) : Blk := ⟨k.g, k.sz, renL ρ k.xs⟩
def Hp.graft (K : Hp) (l : List Nat) (H : Hp) : Hp := ⟨K.n + (H.n - l.length), fun c => if c < K.n then (match posOf c l 0 with | some b => (H.f b).map (renB (rho l K.n)) | .none => K.f c) else (H.f (c - K.n + l.length)).map (renB (rho l K.n)), fun c hc => by
  rw [if_neg (by omega), H.wf _ (by omega)]
  rfl⟩
theorem HSpec.frame {f : FuncId} {as : List PV} {R : PV → Hp → Prop} {l : List Nat} (hS : HSpec P gl f as H R) (hn : H.n = l.length) (hd : l.Nodup) (hlt : ∀ c ∈ l, c < K.n) (hblk : ∀ b k, H.f b = some k → ∃ c, l[b]? = some c ∧ K.f c = some (renB (rho l K.n) k) ∧ underL H.n k.xs = true) (has : underL H.n as = true) :
    HSpec P gl f (renL (rho l K.n) as) K (fun r K' => ∃ r0 H', R r0 H' ∧ r = r0.ren (rho l K.n) ∧ K' = K.graft l H') := by
  refine ⟨hS.1, fun A w0 F m w vs sim hU hvs => ?_⟩
  let ρ := rho l K.n
  have hρ : ∀ b c, l[b]? = some c → ρ b = c := fun b c h => by simp only [ρ, rho, h]
  have hρ2 : ∀ b, l.length ≤ b → ρ b = K.n + (b - l.length) := fun b h => by simp only [ρ, rho, List.getElem?_eq_none h]
  have hget : ∀ b, b < l.length → l[b]? = some (ρ b) := fun b h => by
    have e : l[b]? = some l[b] := List.getElem?_eq_getElem h
    rw [e, hρ b _ e]
  have hρlt : ∀ b, b < l.length → ρ b < K.n := fun b h => hlt _ (List.mem_of_getElem? (hget b h))
  have hinj : ∀ b b', b < l.length → b' < l.length → ρ b = ρ b' → b = b' := fun b b' h h' e => by
    have e1 := posOf_get (i := 0) hd (hget b h)
    have e2 := posOf_get (i := 0) hd (hget b' h')
    rw [e, e2] at e1
    have := Option.some.inj e1
    omega
  let m1 : Nat → Slot := fun b => if b < l.length then m (ρ b) else .unborn
  have m1lt : ∀ b, b < l.length → m1 b = m (ρ b) := fun b h => if_pos h
  have m1ge : ∀ b, l.length ≤ b → m1 b = .unborn := fun b h => if_neg (by omega)
  have at1 : ∀ {b β}, (m1 b).at = some β → b < l.length ∧ (m (ρ b)).at = some β := by
    intro b β h
    by_cases hb : b < l.length
    · rw [m1lt b hb] at h; exact ⟨hb, h⟩
    · rw [m1ge b (by omega)] at h; cases h
  -- the callee's heap
  have sim1 : Sim gl A w0 F m1 w H := by
    refine ⟨sim.below, fun b β h => sim.live _ β (at1 h).2, fun b b' β h h' => hinj b b' (at1 h).1 (at1 h').1 (sim.inj _ _ β (at1 h).2 (at1 h').2), sim.frz, sim.frzlt, fun b k hk hnu => ?_, sim.glob⟩
    obtain ⟨c, hc, hK, hund⟩ := hblk b k hk
    have hb : b < l.length := (List.getElem?_eq_some_iff.1 hc).1
    have hcρ : ρ b = c := hρ b c hc
    rw [m1lt b hb, hcρ] at hnu ⊢
    rcases sim.blk c _ hK hnu with ⟨β, hm, ⟨cs, T, h1, h2, h3, h4⟩⟩ | ⟨hv, hx⟩ | ⟨β, hm, es, cc, h1, h2, h3⟩ | ⟨β, hm, L, ts, ps, h1, h2, h3, h4⟩
    · simp only [renB] at h2 h3 h4 hm
      refine .inl ⟨β, hm, cs, T, h1, by rw [renL_length] at h2; exact h2, fun x hx => ?_, fun i hi j hj => ?_⟩
      · obtain ⟨i, hi, rfl⟩ := List.mem_iff_getElem.1 hx
        have := h3 ((renL ρ k.xs)[i]'(by rw [renL_length]; exact hi)) (List.getElem_mem _)
        rw [renL_get k.xs i _ hi, ren_cells, renL_length] at this
        exact this
      · have e2 : ((renL ρ k.xs)[i]'(by rw [renL_length]; exact hi)).cells = renL ρ (k.xs[i]).cells := by rw [renL_get k.xs i _ hi, ren_cells]
        obtain ⟨v, hv, hr⟩ := h4 i (by rw [renL_length]; exact hi) j (by rw [show ((renL (rho l K.n) k.xs)[i]'(by rw [renL_length]; exact hi)).cells = renL ρ (k.xs[i]).cells from e2, renL_length]; exact hj)
        refine ⟨v, hv, ?_⟩
        have e3 : ((renL ρ k.xs)[i]'(by rw [renL_length]; exact hi)).cells[j]'(by rw [e2, renL_length]; exact hj) = ((k.xs[i]).cells[j]).ren ρ := by
          simp only [e2]
          exact renL_get _ j _ hj
        have hr2 : VRel F w m v (((k.xs[i]).cells[j]).ren ρ) := by rw [← e3]; exact hr
        exact ren_back (n := l.length) (fun b hb => m1lt b hb) _ v (by rw [← hn]; exact below_cells (underL_get hund i hi) j hj) hr2
    · simp only [renB] at hv hx
      refine .inr (.inl ⟨hv, ?_⟩)
      exact List.eq_nil_of_length_eq_zero (by rw [← renL_length (ρ := rho l K.n) k.xs, hx]; rfl)
    · simp only [renB] at h2 h3
      refine .inr (.inr (.inl ⟨β, hm, es, cc, h1, by rw [h2, renL_length], fun i q1 q2 => ?_⟩))
      obtain ⟨nn, bb, a1, a2, a3⟩ := h3 i q1 (by rw [renL_length]; exact q2)
      refine ⟨nn, bb, a1, a2, ?_⟩
      rw [renL_get k.xs i _ q2] at a3
      generalize k.xs[i] = y at a3
      cases y <;> simp only [PV.ren, reduceCtorEq] at a3
      rename_i ly
      simp only [PV.agg.injEq] at a3
      match ly, a3 with
      | [y1, y2], a3 =>
        simp only [renL, List.cons.injEq, and_true] at a3
        obtain ⟨a4, a5⟩ := a3
        cases y1 <;> simp only [PV.ren, reduceCtorEq] at a4
        cases y2 <;> simp only [PV.ren, reduceCtorEq] at a5
        rw [a4, a5]
      | [], a3 => simp [renL] at a3
      | [_], a3 => simp [renL] at a3
      | _ :: _ :: _ :: _, a3 => simp [renL] at a3
    · simp only [renB] at h1
      generalize hk : k.xs = xs at h1
      rw [hk] at hund
      match xs, h1, hund with
      | [], h1, _ => simp [renL] at h1
      | x :: r, h1, hund =>
        simp only [renL, List.cons.injEq] at h1
        obtain ⟨a1, a2⟩ := h1
        have hx : x = .lp L ts := by
          cases x <;> simp only [PV.ren, reduceCtorEq] at a1
          exact a1
        refine .inr (.inr (.inr ⟨β, hm, L, ts, r, by rw [hk, hx], h2, by rw [h3, ← a2, renL_length], fun i q1 q2 => ?_⟩))
        have := h4 i q1 (by rw [← a2, renL_length]; exact q2)
        simp only [← a2] at this
        rw [renL_get r i _ q2] at this
        exact ren_back (n := l.length) (fun b hb => m1lt b hb) _ _ (by rw [← hn]; exact underL_get hund (i + 1) (by simpa using q2)) this
  have hvs1 : CsRel F m1 w vs as := by
    refine ⟨by rw [hvs.1, renL_length], fun i q1 q2 => ?_⟩
    have := hvs.2 i q1 (by rw [renL_length]; exact q2)
    rw [renL_get as i _ q2] at this
    exact ren_back (n := l.length) (fun b hb => m1lt b hb) _ _ (by rw [← hn]; exact underL_get has i q2) this
  refine (hS.2 A w0 F m1 w vs sim1 (fun b hb => m1ge b (by omega)) hvs1).mono ?_
  rintro e w' ⟨v, F', m1', r, H', rfl, hR, s, hu, ev, hv⟩
  let m' : Nat → Slot := fun c => if c < K.n then (match posOf c l 0 with | some b => m1' b | none => m c) else m1' (c - K.n + l.length)
  have m'ρ : ∀ b, b < l.length → m' (ρ b) = m1' b := fun b hb => by
    show (if ρ b < K.n then (match posOf (ρ b) l 0 with | some b => m1' b | none => m (ρ b)) else m1' (ρ b - K.n + l.length)) = m1' b
    rw [if_pos (hρlt b hb), posOf_get (i := 0) hd (hget b hb)]
    simp
  have m'no : ∀ c, c < K.n → posOf c l 0 = none → m' c = m c := fun c hc hp => by
    show (if c < K.n then (match posOf c l 0 with | some b => m1' b | none => m c) else m1' (c - K.n + l.length)) = m c
    rw [if_pos hc, hp]
  have m'new : ∀ c, K.n ≤ c → m' c = m1' (c - K.n + l.length) := fun c hc => if_neg (by omega)
  have pos : ∀ c b, posOf c l 0 = some b → b < l.length ∧ ρ b = c := fun c b h => by
    obtain ⟨_, h2⟩ := posOf_some h
    rw [Nat.sub_zero] at h2
    exact ⟨(List.getElem?_eq_some_iff.1 h2).1, hρ b c h2⟩
  -- each number of the caller's is one of three kinds
  have kind : ∀ c, (∃ b, b < l.length ∧ ρ b = c ∧ c < K.n ∧ posOf c l 0 = some b ∧ m' c = m1' b) ∨ (c < K.n ∧ posOf c l 0 = none ∧ m' c = m c) ∨ (K.n ≤ c ∧ m' c = m1' (c - K.n + l.length)) := by
    intro c
    by_cases hc : c < K.n
    · cases hp : posOf c l 0 with
      | some b =>
        obtain ⟨h1, h2⟩ := pos c b hp
        exact .inl ⟨b, h1, h2, hc, rfl, by rw [← h2, m'ρ b h1]⟩
      | none => exact .inr (.inl ⟨hc, rfl, m'no c hc hp⟩)
    · exact .inr (.inr ⟨by omega, m'new c (by omega)⟩)
  have m'all : ∀ b, m1' b ≠ .unborn → m' (ρ b) = m1' b := by
    intro b hb
    by_cases h : b < l.length
    · exact m'ρ b h
    · rw [hρ2 b (by omega), m'new _ (by omega)]
      congr 1; omega
  have live1 : ∀ β, LiveIn m1 β → LiveIn m β := fun β ⟨b, h⟩ => ⟨_, (at1 h).2⟩
  -- what is not the callee's stays
  have other : ∀ c β, posOf c l 0 = none → (m c).at = some β → β < w.heap.size ∧ ¬ LiveIn m1 β := fun c β hp h => ⟨(sim.live c β h).2.1, fun ⟨b, hb⟩ => by
    have := sim.inj c (ρ b) β h (at1 hb).2
    rw [this, posOf_get (i := 0) hd (hget b (at1 hb).1)] at hp
    cases hp⟩
  have ev' : Ev F m w F' m' w' := by
    refine ⟨ev.grow, ev.frz, sim.fnl, fun β hb hl => ev.keep β hb fun h => hl (live1 β h), fun β ⟨c, hc⟩ => ?_, ev.size, fun c => ?_, sim.liv, fun β hb => ?_⟩
    · rcases kind c with ⟨b, h1, h2, h3, h4, h5⟩ | ⟨h1, h2, h3⟩ | ⟨h1, h2⟩
      · rw [h5] at hc
        rcases ev.fresh β ⟨b, hc⟩ with h | h
        · exact .inl (live1 β h)
        · exact .inr h
      · rw [h3] at hc; exact .inl ⟨c, hc⟩
      · rw [h2] at hc
        rcases ev.fresh β ⟨_, hc⟩ with h | h
        · exact .inl (live1 β h)
        · exact .inr h
    · rcases kind c with ⟨b, h1, h2, h3, h4, h5⟩ | ⟨h1, h2, h3⟩ | ⟨h1, h2⟩
      · rw [h5]
        have := ev.slot b
        rw [m1lt b h1, h2] at this
        exact this
      · rw [h3]; exact slot_refl _
      · rw [hU c h1]; trivial
    · rcases ev.nfz β hb with h | h | h
      · exact .inl h
      · exact .inr (.inl (live1 β h))
      · exact .inr (.inr h)
  refine ⟨v, F', m', r.ren ρ, K.graft l H', rfl, ⟨r, H', hR, rfl, rfl⟩, ?_, fun c hc => ?_, ev', ren_rel hv m'all⟩
  · refine ⟨s.below, fun c β hc => ?_, fun c c' β hc hc' => ?_, s.frz, s.frzlt, fun c k hk hnu => ?_, fun g p hp => (sim.glob g p hp).monoNo ev'⟩
    · rcases kind c with ⟨b, h1, h2, h3, h4, h5⟩ | ⟨h1, h2, h3⟩ | ⟨h1, h2⟩
      · rw [h5] at hc; exact s.live b β hc
      · rw [h3] at hc
        obtain ⟨a1, a2, a3⟩ := sim.live c β hc
        refine ⟨a1, Nat.lt_of_lt_of_le a2 ev.grow, fun hf => ?_⟩
        rcases ev.nfz β hf with h | h | h
        · exact a3 h
        · exact (other c β h2 hc).2 h
        · omega
      · rw [h2] at hc; exact s.live _ β hc
    · have one : ∀ c, (m' c).at = some β → (∃ b, (m1' b).at = some β ∧ ρ b = c) ∨ ((m c).at = some β ∧ posOf c l 0 = none) := by
        intro c hc
        rcases kind c with ⟨b, h1, h2, h3, h4, h5⟩ | ⟨h1, h2, h3⟩ | ⟨h1, h2⟩
        · rw [h5] at hc; exact .inl ⟨b, hc, h2⟩
        · rw [h3] at hc; exact .inr ⟨hc, h2⟩
        · rw [h2] at hc; exact .inl ⟨_, hc, by rw [hρ2 _ (by omega)]; omega⟩
      have cross : ∀ c b, (m c).at = some β → posOf c l 0 = none → (m1' b).at = some β → False := by
        intro c b h1 h2 h3
        obtain ⟨a1, a2⟩ := other c β h2 h1
        rcases ev.fresh β ⟨b, h3⟩ with h | h
        · exact a2 h
        · omega
      rcases one c hc with ⟨b, h1, h2⟩ | ⟨h1, h2⟩ <;> rcases one c' hc' with ⟨b', h1', h2'⟩ | ⟨h1', h2'⟩
      · rw [← h2, ← h2', s.inj b b' β h1 h1']
      · exact (cross c' b h1' h2' h1).elim
      · exact (cross c b' h1 h2 h1').elim
      · exact sim.inj c c' β h1 h1'
    · -- the blocks
      have back : ∀ b k0, H'.f b = some k0 → m1' b ≠ .unborn → (∃ β, m1' b = .live β (renB ρ k0).sz (renB ρ k0).g ∧ BlkOk F' m' w' β (renB ρ k0)) ∨ Odd F' m' w' (m1' b) (renB ρ k0) := by
        intro b k0 hk0 hnu
        rcases s.blk b k0 hk0 hnu with ⟨β, hm, ⟨cs, T, h1, h2, h3, h4⟩⟩ | ⟨hv, hx⟩ | ⟨β, hm, es, cc, h1, h2, h3⟩ | ⟨β, hm, L, ts, ps, h1, h2, h3, h4⟩
        · refine .inl ⟨β, hm, cs, T, h1, by simp only [renB]; rw [renL_length]; exact h2, fun x hx => ?_, fun i hi j hj => ?_⟩
          · simp only [renB] at hx ⊢
            obtain ⟨i, hi, rfl⟩ := List.mem_iff_getElem.1 hx
            rw [renL_get k0.xs i hi (by rw [renL_length] at hi; exact hi), ren_cells, renL_length]
            exact h3 _ (List.getElem_mem _)
          · simp only [renB] at hi hj ⊢
            have hi' : i < k0.xs.length := by rw [renL_length] at hi; exact hi
            have e2 : ((renL ρ k0.xs)[i]).cells = renL ρ (k0.xs[i]).cells := by rw [renL_get k0.xs i _ hi', ren_cells]
            have hj' : j < (k0.xs[i]).cells.length := by rw [e2, renL_length] at hj; exact hj
            obtain ⟨v, hv, hr⟩ := h4 i hi' j hj'
            refine ⟨v, hv, ?_⟩
            have e3 : ((renL ρ k0.xs)[i]).cells[j] = ((k0.xs[i]).cells[j]).ren ρ := by
              simp only [e2]
              exact renL_get _ j _ hj'
            rw [e3]
            exact ren_rel hr m'all
        · exact .inr (.inl ⟨hv, by simp only [renB]; rw [hx]; rfl⟩)
        · refine .inr (.inr (.inl ⟨β, hm, es, cc, h1, by simp only [renB]; rw [h2, renL_length], fun i q1 q2 => ?_⟩))
          simp only [renB] at q2 ⊢
          obtain ⟨nn, bb, a1, a2, a3⟩ := h3 i q1 (by rw [renL_length] at q2; exact q2)
          refine ⟨nn, bb, a1, a2, ?_⟩
          rw [renL_get k0.xs i q2 (by rw [renL_length] at q2; exact q2), a3]
          rfl
        · refine .inr (.inr (.inr ⟨β, hm, L, ts, renL ρ ps, by simp only [renB]; rw [h1]; rfl, h2, by rw [renL_length]; exact h3, fun i q1 q2 => ?_⟩))
          rw [renL_get ps i q2 (by rw [renL_length] at q2; exact q2)]
          exact ren_rel (h4 i q1 (by rw [renL_length] at q2; exact q2)) m'all
      rcases kind c with ⟨b, h1, h2, h3, h4, h5⟩ | ⟨h1, h2, h3⟩ | ⟨h1, h2⟩
      · simp only [Hp.graft, if_pos h3, h4, Option.map_eq_some_iff] at hk
        obtain ⟨k0, hk0, rfl⟩ := hk
        rw [h5] at hnu ⊢
        exact back b k0 hk0 hnu
      · simp only [Hp.graft, if_pos h1, h2] at hk
        rw [h3] at hnu ⊢
        have same : ∀ β, (m c).at = some β → w'.heap[β]? = w.heap[β]? := fun β h => ev.keep β (other c β h2 h).1 (other c β h2 h).2
        rcases sim.blk c k hk hnu with ⟨β, hm, hok⟩ | hv
        · exact .inl ⟨β, hm, hok.mono ev' (same β (at_live hm))⟩
        · exact .inr (hv.mono ev' fun β e => same β (at_mp e))
      · simp only [Hp.graft, if_neg (show ¬ c < K.n by omega), Option.map_eq_some_iff] at hk
        obtain ⟨k0, hk0, rfl⟩ := hk
        rw [h2] at hnu ⊢
        exact back _ k0 hk0 hnu
  · rw [m'new c (by simp only [Hp.graft] at hc; omega)]
    refine hu _ ?_
    simp only [Hp.graft] at hc
    omega
end
end Go.Vm
end
section
/- Maps, closures that are handed on, answers told in part: rules. -/
set_option linter.unusedSimpArgs false
set_option linter.unusedVariables false
namespace Go.Vm
open Go Go.RowKit
def look : List (Int × Bool) → Int → Bool
  | [], _ => false
  | q :: r, n => if q.1 = n then q.2 else look r n
def upd : List (Int × Bool) → Int → Bool → List (Int × Bool)
  | [], n, v => [(n, v)]
  | q :: r, n, v => if q.1 = n then (n, v) :: r else q :: upd r n v
section
variable {P : Program} {gl : Nat → Option PV} {e : Bool} {s : Env} {H : Hp} {l : Nodes} {Q : Env → Hp → Prop} {d : Option Nat} {bf : Nat}
end
def Wk (p q : PV) : Prop := p = q ∨ ∃ t l, p = .ifc t (.fptr l) ∧ q = .ifc t (.fptr [])
theorem Wk.rfl {p : PV} : Wk p p := .inl _root_.rfl
theorem Wk.ptr {t : TypeId} {l : List PV} : Wk (.ifc t (.fptr l)) (.ifc t (.fptr [])) := .inr ⟨t, l, _root_.rfl, _root_.rfl⟩
theorem Wk.rel {F : Nat → Prop} {m : Nat → Slot} {w : World} {v : Value} {p q : PV} (h : VRel F w m v p) (k : Wk p q) : VRel F w m v q := by
  rcases k with rfl | ⟨t, l, rfl, rfl⟩
  · exact h
  · cases h with
    | ifc _ v' _ h =>
      cases h with
      | fptr ad _ cs hF hc hv => exact .ifc _ _ _ (.fptr ad [] cs hF (fun j hj => absurd hj (by simp)) fun j hj => absurd hj (by simp))
section
variable {P : Program} {gl : Nat → Option PV}
end
end Go.Vm
namespace Go.Vm
end Go.Vm
end
section
/- Calls with a part of the heap: rules. -/
set_option linter.unusedSimpArgs false
set_option linter.unusedVariables false
namespace Go.Vm
open Go Go.RowKit
mutual
theorem ren_pure (ρ : Nat → Nat) : ∀ (p : PV), pureI p = true → p.ren ρ = p
  | .int .., _ => rfl
  | .bool _, _ => rfl
  | .str _, _ => rfl
  | .nilp, _ => rfl
  | .nilf, _ => rfl
  | .nili, _ => rfl
  | .nilm, _ => rfl
  | .sl _, _ => rfl
  | .raw _, _ => rfl
  | .agg l, h => by
    simp only [PV.ren]
    rw [ren_pures ρ l (by simpa [pureI] using h)]
  | .fn _ l, h => by
    simp only [PV.ren]
    rw [ren_pures ρ l (by simpa [pureI, pure1] using h)]
  | .fptr l, h => by
    simp only [PV.ren]
    rw [ren_pures ρ l (by simpa [pureI, pure1] using h)]
  | .ifc t p, h => by
    simp only [PV.ren]
    rw [ren_pure ρ p (by rw [← pure1_ifc t p]; exact h)]
  | .tup _, h => by simp [pureI, pure1] at h
  | .lit _, h => by simp [pureI, pure1] at h
  | .ref .., h => by simp [pureI, pure1] at h
  | .ptr .., h => by simp [pureI, pure1] at h
  | .cref .., h => by simp [pureI, pure1] at h
  | .mp _, h => by simp [pureI, pure1] at h
  | .yld _, h => by simp [pureI, pure1] at h
  | .lp .., h => by simp [pureI, pure1] at h
theorem ren_pures (ρ : Nat → Nat) : ∀ (l : List PV), pure1s l = true → renL ρ l = l
  | [], _ => rfl
  | x :: r, h => by
    simp only [pure1s, Bool.and_eq_true] at h
    simp only [renL]
    rw [ren_pure ρ x (pure1_I h.1), ren_pures ρ r h.2]
end
inductive RenL (ρ : Nat → Nat) : List (Option Blk) → List (Option Blk) → Prop
  | nil : RenL ρ [] []
  | none {l l' : List (Option Blk)} (h : RenL ρ l l') : RenL ρ (none :: l) (none :: l')
  | some {g sz : Nat} {xs xs' : List PV} {l l' : List (Option Blk)} (hx : renL ρ xs = xs') (h : RenL ρ l l') : RenL ρ (.some ⟨g, sz, xs⟩ :: l) (.some ⟨g, sz, xs'⟩ :: l')
theorem RenL.length {ρ : Nat → Nat} {l l' : List (Option Blk)} (h : RenL ρ l l') : l.length = l'.length := by
  induction h <;> simp [*]
theorem RenL.get {ρ : Nat → Nat} {l l' : List (Option Blk)} (h : RenL ρ l l') : ∀ i : Nat, (l'[i]?).join = ((l[i]?).join).map (renB ρ) := by
  induction h with
  | nil => intro i; simp
  | none h ih => intro i; cases i with
    | zero => rfl
    | succ i => simpa using ih i
  | some hx h ih => intro i; cases i with
    | zero => simp [renB, hx]
    | succ i => simpa using ih i
section
variable {P : Program} {gl : Nat → Option PV} {s : Env} {H : Hp} {l : Nodes} {Q : Env → Hp → Prop} {d : Option Nat} {bf : Nat}
end
end Go.Vm
end
section
/- A row appended to a row. -/
set_option linter.unusedSimpArgs false
set_option linter.unusedVariables false
namespace Go.Vm
open Go
section
variable {P : Program} {gl : Nat → Option PV} {e : Bool} {s : Env} {H : Hp} {l : Nodes} {Q : Env → Hp → Prop} {d : Option Nat} {bf : Nat} {α : Type} {f : α → PV}
end
section
variable {P : Program} {gl : Nat → Option PV} {n0 : Nat} {s : Env} {H : Hp} {Q : Ex → Env → Hp → Prop}
theorem gh_virt_box (b sz : Nat) (hn : n0 ≤ H.n) {g z : Nat} (hb : H.f b = some ⟨g, z, [.lit []]⟩) :
    Gh gl n0 s H s ((H.set b ⟨g, z, [.ref H.n 0 0 0]⟩).add [⟨0, sz, []⟩]) := by
  rintro A w0 F0 m0 w00 N ds a w hm ⟨F, m, sim, ev, ht, hu, hrN, hr0⟩
  obtain ⟨sim', ev'⟩ := sim.virt hu sz
  have hr := And.intro hrN (hr0.mono (a' := a) ev' rfl)
  have hbn : b < H.n := Nat.lt_of_not_le fun h => by rw [H.wf b h] at hb; cases hb
  refine ⟨F, _, ?_, ev.trans ev', fun u p hp => (ht u p hp).mono ev', fun c hc => ?_, hr⟩
  · refine ⟨sim'.below, sim'.live, sim'.inj, sim'.frz, sim'.frzlt, fun c k hk hnu => ?_, sim'.glob⟩
    by_cases e : c = b
    · subst e
      have hk' : k = ⟨g, z, [.ref H.n 0 0 0]⟩ := by
        have h1 : (H.set c ⟨g, z, [.ref H.n 0 0 0]⟩).n = H.n := rfl
        simp only [Hp.add, h1, hbn, if_true] at hk
        rw [Hp.set_f hb, if_pos rfl] at hk
        exact (Option.some.inj hk).symm
      subst hk'
      rcases sim'.blk c ⟨g, z, [.lit []]⟩ (by simp [Hp.add, hbn, hb]) hnu with ⟨β, hm, ⟨cv, T, h1, h2, h3, h4⟩⟩ | ⟨_, hx⟩ | ⟨β, _, es, c0, _, h2, h3⟩ | ⟨_, _, _, _, _, hx, _⟩
      rotate_right
      · simp at hx
      rotate_right
      · obtain ⟨n, b, _, _, h⟩ := h3 0 (by rw [h2]; simp) (by simp)
        simp at h
      · refine .inl ⟨β, hm, cv, T, h1, h2, fun x hx => ?_, fun i hi q hq => ?_⟩
        · simp only [List.mem_singleton] at hx
          subst hx
          simpa [PV.cells] using h3 (.lit []) (by simp)
        · simp only [List.length_singleton] at hi
          obtain rfl : i = 0 := by omega
          simp only [List.getElem_cons_zero, PV.cells, List.length_singleton] at hq ⊢
          obtain rfl : q = 0 := by omega
          obtain ⟨v, hv, hrel⟩ := h4 0 (by simp) 0 (by simp [PV.cells])
          refine ⟨v, hv, ?_⟩
          simp only [List.getElem_cons_zero, PV.cells] at hrel ⊢
          exact lit_virt hrel (mput_eq _ _ _)
      · cases hx
    · have hk' : (H.add [⟨0, sz, []⟩]).f c = some k := by
        simp only [Hp.add] at hk ⊢
        have h1 : (H.set b ⟨g, z, [.ref H.n 0 0 0]⟩).n = H.n := rfl
        rw [h1] at hk
        by_cases hc : c < H.n
        · rw [if_pos hc] at hk ⊢
          rw [Hp.set_f hb, if_neg e] at hk
          exact hk
        · rw [if_neg hc] at hk ⊢
          exact hk
      exact sim'.blk c k hk' hnu
  · have hc' : H.n + 1 ≤ c := hc
    rw [mput_ne _ _ (by omega)]
    exact hu c (by omega)
theorem tr_virt_box {c : RCode} (b sz n : Nat) (hH : H.n = n) (hn0 : n0 ≤ n) {g z : Nat} (hb : H.f b = some ⟨g, z, [.lit []]⟩) (k : Tr P gl n0 c s ((H.set b ⟨g, z, [.ref n 0 0 0]⟩).add [⟨0, sz, []⟩]) Q) : Tr P gl n0 c s H Q := by
  subst hH
  exact tr_ghost (gh_virt_box b sz hn0 hb) k
end
end Go.Vm
end
section
/- The library's sort, as a spec over the small heap. -/
set_option linter.unusedSimpArgs false
set_option linter.unusedVariables false
namespace Go.Vm
open Go
abbrev pz : Int → PV := fun n => .int .i64 n
section
variable {P : Program} {gl : Nat → Option PV} {A : Nat → Prop} {w0 : World} {F : Nat → Prop} {m : Nat → Slot} {w : World} {H : Hp}
theorem Sim.ahead (sim : Sim gl A w0 F m w H) : ∀ n, Sim gl A w0 F m (Sort.ahead w n) H ∧ Ev F m w F m (Sort.ahead w n)
  | 0 => ⟨sim, Ev.refl sim.fnl sim.liv⟩
  | n + 1 => by
    obtain ⟨s1, e1⟩ := Sim.ahead sim n
    obtain ⟨s2, e2⟩ := s1.drew
    exact ⟨s2, e1.trans e2⟩
end
end Go.Vm
end
section
/- Ranges over functions: what a round comes to, what the statement comes to. -/
set_option linter.unusedSimpArgs false
set_option linter.unusedVariables false
namespace Go.Vm
open Go Go.RowKit
section
variable {P : Program} {gl : Nat → Option PV} {n0 : Nat} {s s' : Env} {H H' : Hp} {Q : Ex → Env → Hp → Prop} {A : Nat → Prop} {w0 : World} {F : Nat → Prop} {m : Nat → Slot} {w : World}
theorem Sim.alloc0 (sim : Sim gl A w0 F m w H) (o : Obj) : Sim gl A w0 F m (w.alloc o) H ∧ Ev F m w F m (w.alloc o) := by
  have ev : Ev F m w F m (w.alloc o) :=
    ⟨by rw [size_alloc]; omega, fun _ h => h, sim.fnl, fun β hb _ => heap_push_lt _ _ hb, fun _ h => .inl h, fun β hb => rowSize_lt _ _ hb, fun b => slot_refl _, sim.liv, fun β h => .inl h⟩
  refine ⟨⟨sim.below.alloc sim.below.size _, fun b β hb => ?_, sim.inj, sim.frz, fun β hb => ?_, fun b k hk hnu => ?_, fun g p hp => (sim.glob g p hp).monoNo ev⟩, ev⟩
  · obtain ⟨a1, a2, a3⟩ := sim.live b β hb
    rw [size_alloc]
    exact ⟨a1, by omega, a3⟩
  · rw [size_alloc]
    have := sim.frzlt β hb
    omega
  · rcases sim.blk b k hk hnu with ⟨β, hm, hok⟩ | hv
    · exact .inl ⟨β, hm, hok.mono ev (heap_push_lt _ _ (sim.live _ _ (at_live hm)).2.1)⟩
    · exact .inr (hv.mono ev fun β e => heap_push_lt _ _ (sim.live _ _ (at_mp e)).2.1)
theorem Sim.mkLp (sim : Sim gl A w0 F m w H) (hu : ∀ b, H.n ≤ b → m b = .unborn) (L : Loop) {ts : List Nat} {ps : List PV} (hl : ts.length = ps.length) (hr : ∀ i (h1 : i < ts.length) (h2 : i < ps.length), VRel F w m (L.tmps.getD ts[i] undef) ps[i]) :
    Sim gl A w0 F (mput m H.n (.mp w.heap.size)) (w.alloc (.loop L)) (H.add [⟨0, 1, .lp L ts :: ps⟩]) ∧ Ev F m w F (mput m H.n (.mp w.heap.size)) (w.alloc (.loop L)) := by
  have ev : Ev F m w F (mput m H.n (.mp w.heap.size)) (w.alloc (.loop L)) := by
    refine ⟨by rw [size_alloc]; omega, fun _ h => h, sim.fnl, fun β hb _ => heap_push_lt _ _ hb, fun x ⟨c, hc⟩ => ?_, fun β hb => rowSize_lt _ _ hb, fun b => ?_, sim.liv, fun _ h => .inl h⟩
    · by_cases e : c = H.n
      · rw [e, mput_eq] at hc
        injection hc with hc
        exact .inr (by omega)
      · rw [mput_ne _ _ e] at hc
        exact .inl ⟨c, hc⟩
    · by_cases e : b = H.n
      · rw [e, hu _ (Nat.le_refl _)]; trivial
      · rw [mput_ne _ _ e]; exact slot_refl _
  refine ⟨⟨sim.below.alloc sim.below.size _, ?_, ?_, sim.frz, ?_, ?_, fun g p hp => (sim.glob g p hp).monoNo ev⟩, ev⟩
  · intro b β hb
    rw [size_alloc]
    by_cases e : b = H.n
    · rw [e, mput_eq] at hb
      injection hb with hb
      subst hb
      exact ⟨sim.below.size, by omega, fun hf => absurd (sim.frzlt _ hf) (by omega)⟩
    · rw [mput_ne _ _ e] at hb
      obtain ⟨a1, a2, a3⟩ := sim.live b β hb
      exact ⟨a1, by omega, a3⟩
  · intro b b' β hb hb'
    by_cases e : b = H.n <;> by_cases e' : b' = H.n
    · rw [e, e']
    · rw [e, mput_eq] at hb
      rw [mput_ne _ _ e'] at hb'
      injection hb with hb
      subst hb
      exact absurd (sim.live _ _ hb').2.1 (by omega)
    · rw [e', mput_eq] at hb'
      rw [mput_ne _ _ e] at hb
      injection hb' with hb'
      subst hb'
      exact absurd (sim.live _ _ hb).2.1 (by omega)
    · rw [mput_ne _ _ e] at hb
      rw [mput_ne _ _ e'] at hb'
      exact sim.inj b b' β hb hb'
  · intro β hb
    rw [size_alloc]
    have := sim.frzlt β hb
    omega
  · intro b k hk hnu
    by_cases e : b = H.n
    · subst e
      have : k = ⟨0, 1, .lp L ts :: ps⟩ := by simp [Hp.add] at hk; exact hk.symm
      subst this
      exact .inr (.inr (.inr ⟨w.heap.size, mput_eq _ _ _, L, ts, ps, rfl, heap_push_eq _ _, hl, fun i h1 h2 => (hr i h1 h2).mono ev⟩))
    · rw [mput_ne _ _ e] at hnu ⊢
      have hb : b < H.n := Nat.lt_of_not_le fun h => hnu (hu b h)
      have hk' : H.f b = some k := by simpa [Hp.add, hb] using hk
      rcases sim.blk b k hk' hnu with ⟨β, hm, hok⟩ | hv
      · exact .inl ⟨β, hm, hok.mono ev (heap_push_lt _ _ (sim.live _ _ (at_live hm)).2.1)⟩
      · exact .inr (hv.mono ev fun β e => heap_push_lt _ _ (sim.live _ _ (at_mp e)).2.1)
theorem lp_at (sim : Sim gl A w0 F m w H) {b g z β : Nat} {L : Loop} {ts : List Nat} {ps : List PV} (hb : H.f b = some ⟨g, z, .lp L ts :: ps⟩) (h : m b = .mp β ∨ m b = .dead) :
    m b = .mp β ∧ w.heap[β]? = some (.loop L) ∧ ts.length = ps.length ∧ ∀ i (h1 : i < ts.length) (h2 : i < ps.length), VRel F w m (L.tmps.getD ts[i] undef) ps[i] := by
  have hnu : m b ≠ .unborn := fun e => by rw [e] at h; simp at h
  rcases sim.blk b _ hb hnu with ⟨β', hm, _⟩ | ⟨hm, _⟩ | ⟨β', hm, es, c, _, h2, h3⟩ | ⟨β', hm, L', ts', ps', h1, h2, h3, h4⟩
  · rw [hm] at h; simp at h
  · rw [hm] at h; simp at h
  · obtain ⟨_, _, _, _, h⟩ := h3 0 (by rw [h2]; simp) (by simp)
    simp at h
  · simp only [List.cons.injEq, PV.lp.injEq] at h1
    obtain ⟨⟨rfl, rfl⟩, rfl⟩ := h1
    rw [hm] at h
    simp only [Slot.mp.injEq, reduceCtorEq, or_false] at h
    subst h
    exact ⟨hm, h2, h3, h4⟩
theorem Sim.putLp (sim : Sim gl A w0 F m w H) {b g z β : Nat} {L L' : Loop} {ts : List Nat} {ps : List PV} (hb : H.f b = some ⟨g, z, .lp L ts :: ps⟩) (h : m b = .mp β ∨ m b = .dead) (ht : L'.tmps = L.tmps) :
    Sim gl A w0 F m (w.putObj β (.loop L')) (H.set b ⟨g, z, .lp L' ts :: ps⟩) ∧ Ev F m w F m (w.putObj β (.loop L')) := by
  obtain ⟨hm, hL, hl, hr⟩ := lp_at sim hb h
  have hlive := sim.live b β (at_mp hm)
  have hsz : (w.putObj β (.loop L')).heap.size = w.heap.size := World.putObj_size
  have other : ∀ {x}, x ≠ β → (w.putObj β (.loop L')).heap[x]? = w.heap[x]? := fun h => World.putObj_heap_other h
  have same : (w.putObj β (.loop L')).heap[β]? = some (.loop L') := World.putObj_heap_same hlive.2.1
  have ev : Ev F m w F m (w.putObj β (.loop L')) := by
    refine ⟨by rw [hsz]; exact Nat.le_refl _, fun _ h => h, sim.fnl, fun x _ hx => other (fun e => hx ⟨b, e ▸ at_mp hm⟩), fun x h => .inl h, fun x hx => ?_, fun _ => slot_refl _, sim.liv, fun _ h => .inl h⟩
    refine putObj_row ?_ x
    unfold rowSize
    rw [same, hL]
  refine ⟨⟨⟨sim.below.os, sim.below.tape, sim.below.output, by rw [hsz]; exact sim.below.size, fun i hi => (other (by have := hlive.1; omega)).trans (sim.below.block i hi)⟩, fun c' β' h => ?_, sim.inj, sim.frz, fun x hx => by rw [hsz]; exact sim.frzlt x hx, fun c' k' hk' hnu => ?_, fun g p hp => (sim.glob g p hp).monoNo ev⟩, ev⟩
  · rw [hsz]; exact sim.live c' β' h
  · rw [Hp.set_f hb] at hk'
    by_cases e : c' = b
    · subst e
      rw [if_pos rfl] at hk'
      injection hk' with hk'
      subst hk'
      exact .inr (.inr (.inr ⟨β, hm, L', ts, ps, rfl, same, hl, fun i h1 h2 => by rw [ht]; exact (hr i h1 h2).mono ev⟩))
    · rw [if_neg e] at hk'
      rcases sim.blk c' k' hk' hnu with ⟨β', hm', hok⟩ | hv
      · exact .inl ⟨β', hm', hok.mono ev (other fun e2 => e (sim.inj c' b β' (at_live hm') (e2 ▸ at_mp hm)))⟩
      · exact .inr (hv.mono ev fun β' e1 => other fun e2 => e (sim.inj c' b β' (at_mp e1) (e2 ▸ at_mp hm)))
def Hp.del (H : Hp) (b : Nat) : Hp := ⟨H.n, fun c => if c = b then Option.none else H.f c, fun c hc => by
  show (if c = b then Option.none else H.f c) = Option.none
  split
  · rfl
  · exact H.wf c hc⟩
theorem Sim.del (sim : Sim gl A w0 F m w H) (b : Nat) : Sim gl A w0 F m w (H.del b) :=
  ⟨sim.below, sim.live, sim.inj, sim.frz, sim.frzlt, fun c k hk hnu => by
    simp only [Hp.del] at hk
    split at hk
    · cases hk
    · exact sim.blk c k hk hnu, sim.glob⟩
/-! ### A round -/
def jumpOf : Ex → Option Code
  | .normal => none
  | .exit id => some (.exit id)
  | .ret => some .ret
def _root_.Go.Loop.busy (L : Loop) : Loop := { L with state := .busy }
def _root_.Go.Loop.fin (L : Loop) (j : Option Code) : Loop := { L with state := if j.isNone then .ready else .done, pending := j }
def envY (ts : List Nat) (ps : List PV) (qs : List Nat) (as : List PV) : Env := fun t =>
  match (qs.zip as).reverse.find? (·.1 == t) with
  | some x => some x.2
  | none => ((ts.zip ps).find? (·.1 == t)).map (·.2)
def RndQ (P : Program) (gl : Nat → Option PV) (n0 b g z : Nat) (L : Loop) (ts : List Nat) (ps : List PV) (rb : RCode) (R : PV → Hp → Prop) (e : Ex) (s1 : Env) (H1 : Hp) : Prop :=
  match e with
  | .normal => H1.f b = some ⟨g, z, .lp L ts :: ps⟩ ∧ Tr P gl n0 rb s1 (H1.set b ⟨g, z, .lp L.busy ts :: ps⟩) fun e s2 H2 =>
      H2.f b = some ⟨g, z, .lp L.busy ts :: ps⟩ ∧ R (.bool (jumpOf e).isNone) (H2.set b ⟨g, z, .lp (L.fin (jumpOf e)) ts :: ps⟩)
  | _ => False
theorem rndQ_n {b g z : Nat} {L : Loop} {ts : List Nat} {ps : List PV} {rb : RCode} {R : PV → Hp → Prop} {s1 : Env} {H1 : Hp} (h1 : H1.f b = some ⟨g, z, .lp L ts :: ps⟩) (h2 : Tr P gl n0 rb s1 (H1.set b ⟨g, z, .lp L.busy ts :: ps⟩) fun e s2 H2 =>
      H2.f b = some ⟨g, z, .lp L.busy ts :: ps⟩ ∧ R (.bool (jumpOf e).isNone) (H2.set b ⟨g, z, .lp (L.fin (jumpOf e)) ts :: ps⟩)) : RndQ P gl n0 b g z L ts ps rb R .normal s1 H1 := ⟨h1, h2⟩
theorem foldl_lp (l : List (Nat × Value)) : ∀ (tm : Array Value) (t : Nat), (∀ x ∈ l, x.1 < tm.size) →
    (l.foldl (fun (tm : Array Value) (x : Nat × Value) => tm.setIfInBounds x.1 x.2) tm).getD t undef = ((l.reverse.find? (·.1 == t)).map (·.2)).getD (tm.getD t undef) ∧ (l.foldl (fun (tm : Array Value) (x : Nat × Value) => tm.setIfInBounds x.1 x.2) tm).size = tm.size := by
  induction l with
  | nil => intro tm t _; exact ⟨rfl, rfl⟩
  | cons x r ih =>
    intro tm t h
    obtain ⟨e1, e2⟩ := ih (tm.setIfInBounds x.1 x.2) t (fun y hy => by simpa using h y (by simp [hy]))
    refine ⟨?_, by simp only [List.foldl_cons]; rw [e2]; simp⟩
    simp only [List.foldl_cons]
    rw [e1]
    simp only [List.reverse_cons, List.find?_append]
    cases hf : r.reverse.find? (·.1 == t) with
    | some y => simp
    | none =>
      simp only [Option.map_none, Option.getD_none, Option.none_or, List.find?_cons, List.find?_nil]
      by_cases hx : x.1 = t
      · subst hx
        simp only [beq_self_eq_true, Option.map_some, Option.getD_some]
        rw [Array.getD_eq_getD_getElem?, Array.getElem?_setIfInBounds_self_of_lt (h x (by simp))]
        rfl
      · rw [show (x.1 == t) = false by simpa using hx]
        simp only [Option.map_none, Option.getD_none]
        rw [Array.getD_eq_getD_getElem?, Array.getElem?_setIfInBounds_ne hx, ← Array.getD_eq_getD_getElem?]
theorem find_zip {α β : Type} [BEq α] : ∀ {xs : List α} {ys : List β} {t : α} {x : α × β}, (xs.zip ys).find? (·.1 == t) = some x → ∃ i, ∃ (h1 : i < xs.length) (h2 : i < ys.length), (xs[i] == t) = true ∧ ys[i] = x.2
  | [], _, _, _, h => by simp at h
  | _ :: _, [], _, _, h => by simp at h
  | a :: xs, b :: ys, t, x, h => by
    simp only [List.zip_cons_cons, List.find?_cons] at h
    split at h
    · rename_i he
      injection h with h
      subst h
      exact ⟨0, by simp, by simp, he, rfl⟩
    · obtain ⟨i, h1, h2, h3, h4⟩ := find_zip h
      exact ⟨i + 1, by simpa using h1, by simpa using h2, h3, h4⟩
theorem rev_zip {α β : Type} : ∀ {l : List α} {r : List β}, l.length = r.length → (l.zip r).reverse = l.reverse.zip r.reverse
  | [], [], _ => rfl
  | a :: l, b :: r, h => by
    have h : l.length = r.length := by simpa using h
    rw [List.zip_cons_cons, List.reverse_cons, rev_zip h, List.reverse_cons, List.reverse_cons, List.zip_append (by simpa using h)]
    rfl
  | [], _ :: _, h => by simp at h
  | _ :: _, [], h => by simp at h
theorem ySpec_of (hmix : P.follows .mixedOrders = true) {b g z : Nat} {L : Loop} {ts qs : List Nat} {ps as : List PV} {ow : Nat → Nat → Bool} {N : Nat} {ra rb : RCode} {R : PV → Hp → Prop} (hb : H.f b = some ⟨g, z, .lp L ts :: ps⟩) (hst : L.state = .ready) (hpar : L.params.toList = qs) (hlen : as.length = qs.length)
    (ha : resolveCode P ow N L.assign = some ra) (hbd : resolveCode P ow N L.body = some rb) (hN : N ≤ L.tmps.size) (hq : ∀ q ∈ qs, q < N) (hfl : (ra.flat && rb.flat) = true) (hn : H.n = n0)
    (h : Tr P gl n0 ra (envY ts ps qs as) H (RndQ P gl n0 b g z L ts ps rb R)) : YSpec P gl b as H R := by
  subst hn
  intro A w0 F m w vs β sim hU hmb hvs
  obtain ⟨hm, hL, hl, hr⟩ := lp_at sim hb hmb
  have hsz : vs.size = L.params.size := by rw [hvs.1, hlen, ← hpar]; simp
  refine ⟨_, _, _, _, run_yield hL hsz, roundIn_of_wpIn trivial ?_⟩
  have hflat := Bool.and_eq_true _ _ ▸ hfl
  -- the temporaries
  have hpz : (L.params.zip vs).toList = qs.zip vs.toList := by rw [Array.toList_zip, hpar]
  have hall : ∀ x ∈ qs.zip vs.toList, x.1 < L.tmps.size := fun x hx => Nat.lt_of_lt_of_le (hq _ (List.of_mem_zip hx).1) hN
  have hfold : (L.params.zip vs).foldl (fun tmps (x : Tmp × Value) => tmps.setIfInBounds x.1 x.2) L.tmps = (qs.zip vs.toList).foldl (fun tmps (x : Nat × Value) => tmps.setIfInBounds x.1 x.2) L.tmps := by
    rw [← Array.foldl_toList, hpz]
  have henv : ∀ t p, envY ts ps qs as t = some p → VRel F w m (((L.params.zip vs).foldl (fun tmps (x : Tmp × Value) => tmps.setIfInBounds x.1 x.2) L.tmps).getD t undef) p := by
    intro t p hp
    rw [hfold, (foldl_lp _ _ t hall).1]
    have hz : ∀ (t : Nat), ((qs.zip vs.toList).reverse.find? (·.1 == t)).isSome = ((qs.zip as).reverse.find? (·.1 == t)).isSome ∧ ∀ x y, (qs.zip vs.toList).reverse.find? (·.1 == t) = some x → (qs.zip as).reverse.find? (·.1 == t) = some y → VRel F w m x.2 y.2 := by
      intro t
      rw [rev_zip (by simp [hsz, ← hpar]), rev_zip (by simp [hlen])]
      have hlen2 : vs.toList.reverse.length = as.reverse.length := by simp [hvs.1]
      have hrel : ∀ i (h1 : i < vs.toList.reverse.length) (h2 : i < as.reverse.length), VRel F w m vs.toList.reverse[i] as.reverse[i] := by
        intro i h1 h2
        simp only [List.getElem_reverse, Array.getElem_toList, Array.length_toList]
        simp at h1 h2
        have e := hvs.1
        have := hvs.2 (vs.size - 1 - i) (by omega) (by omega)
        simpa only [e] using this
      generalize vs.toList.reverse = X at hlen2 hrel
      generalize as.reverse = Y at hlen2 hrel
      generalize qs.reverse = Z
      clear hfold hp
      induction Z generalizing X Y with
      | nil => exact ⟨rfl, fun x y h => by simp at h⟩
      | cons q Z ih =>
        match X, Y, hlen2, hrel with
        | [], [], _, _ => exact ⟨rfl, fun x y h => by simp at h⟩
        | x :: X, y :: Y, hlen2, hrel =>
          simp only [List.zip_cons_cons, List.find?_cons]
          by_cases hqt : (q == t) = true
          · simp only [hqt]
            refine ⟨rfl, fun x' y' h1 h2 => ?_⟩
            injection h1 with h1
            injection h2 with h2
            subst h1
            subst h2
            exact hrel 0 (by simp) (by simp)
          · simp only [hqt]
            exact ih X Y (by simpa using hlen2) (fun i h1 h2 => hrel (i + 1) (by simpa using h1) (by simpa using h2))
        | [], _ :: _, h, _ => simp at h
        | _ :: _, [], h, _ => simp at h
    unfold envY at hp
    obtain ⟨z1, z2⟩ := hz t
    cases hv : (qs.zip vs.toList).reverse.find? (·.1 == t) with
    | some x =>
      rw [hv] at z1
      obtain ⟨y, hy⟩ := Option.isSome_iff_exists.1 z1.symm
      rw [hy] at hp
      injection hp with hp
      subst hp
      exact z2 x y hv hy
    | none =>
      rw [hv] at z1
      have hy : (qs.zip as).reverse.find? (·.1 == t) = none := by simpa using z1.symm
      rw [hy] at hp
      simp only [Option.map_eq_some_iff] at hp
      obtain ⟨x, hx, rfl⟩ := hp
      obtain ⟨i, h1, h2, h3, h4⟩ := find_zip hx
      have h3 : ts[i] = t := by simpa using h3
      subst h3
      rw [← h4]
      exact hr i h1 h2
  refine wpi_mono ?_ (h hmix ow N _ ha (some β) (.inr hflat.1) A w0 F m w [] { tmps := _, defers := [] } w hU ⟨F, m, sim, Ev.refl sim.fnl sim.liv, henv, hU, by rw [show (Array.foldl _ L.tmps (L.params.zip vs)) = _ from hfold, (foldl_lp _ _ 0 hall).2]; exact hN, .nil rfl⟩)
  rintro e a1 w1 ⟨x, s1, H1, he, hq1, F1, m1, sim1, ev1, ht1, hu1, hN1, hds1⟩
  cases x with
  | normal =>
    cases e <;> simp only [exOf, Option.some.injEq, reduceCtorEq] at he
    obtain ⟨hb1, htr⟩ := hq1
    have hmb1 : m1 b = .mp β ∨ m1 b = .dead := by have := ev1.slot b; rw [hm] at this; exact this.symm
    obtain ⟨hm1, hL1, _, _⟩ := lp_at sim1 hb1 hmb1
    obtain ⟨sim2, ev2⟩ := sim1.putLp (L' := L.busy) hb1 hmb1 rfl
    refine ⟨_, run_beginRound hL1 hst, ?_⟩
    refine wpi_mono ?_ (htr hmix ow N _ hbd (some β) (.inr hflat.2) A w0 F m w [] a1 _ (fun b hb => hU b hb) ⟨F1, m1, sim2, ev1.trans ev2, fun t p hp => (ht1 t p hp).mono ev2, fun c hc => hu1 c hc, hN1, hds1.mono ev2 rfl⟩)
    rintro e a3 w3 ⟨x, s3, H3, he3, ⟨hb3, hR⟩, F3, m3, sim3, ev3, ht3, hu3, hN3, hds3⟩
    have hmb3 : m3 b = .mp β ∨ m3 b = .dead := by have := ev3.slot b; rw [hm] at this; exact this.symm
    obtain ⟨hm3, hL3, _, _⟩ := lp_at sim3 hb3 hmb3
    have fin : ∀ j, jumpOf x = j → ∃ v w', (Instr.endRound β j).run P w3 = .ok v w' ∧ ∃ v_1 F' m' r H', Ending.returned v = .returned v_1 ∧ R r H' ∧ Sim gl A w0 F' m' w' H' ∧ (∀ b, H'.n ≤ b → m' b = .unborn) ∧ Ev F m w F' m' w' ∧ VRel F' w' m' v_1 r := by
      rintro j rfl
      obtain ⟨sim4, ev4⟩ := sim3.putLp (L' := L.fin (jumpOf x)) hb3 hmb3 rfl
      exact ⟨_, _, run_endRound (jumpOf x) hL3, _, F3, m3, _, _, rfl, hR, sim4, fun c hc => hu3 c hc, ev3.trans ev4, .bool _⟩
    cases e <;> simp only [exOf, Option.some.injEq, reduceCtorEq] at he3
    · subst he3; exact fin none rfl
    · subst he3; exact fin _ rfl
    · subst he3; exact fin _ rfl
  | exit id => exact hq1.elim
  | ret => exact hq1.elim
theorem YSpec.cutL {b : Nat} {as : List PV} {R0 : PV → Hp → Prop} {r' : PV} {l : List (Option Blk)} (h : YSpec P gl b as H R0) (hn : H.n ≤ l.length) (k : ∀ r G, R0 r G → fz G l.length r = some r' ∧ chkH G l.length l 0) : YSpec P gl b as H (fun r0 G => r0 = r' ∧ G = Hp.ofL l) := by
  intro A w0 F m w vs β sim hU hmb hvs
  obtain ⟨f, tmps, assign, body, hy, hr⟩ := h A w0 F m w vs β sim hU hmb hvs
  refine ⟨f, tmps, assign, body, hy, hr.mono ?_⟩
  rintro e w' ⟨v, F1, m1, r, G, rfl, hR, sim1, hU1, ev1, hrel⟩
  obtain ⟨h1, h2⟩ := k r G hR
  obtain ⟨F', m', s', e', u', rel⟩ := sim_freeze (n0 := H.n) (H' := Hp.ofL l) hU sim1 ev1 hn (hpfz_ofL h2)
  exact ⟨v, F', m', r', _, rfl, ⟨rfl, rfl⟩, s', u', e', rel v r r' hrel h1⟩
theorem fin_none {L : Loop} (h1 : L.state = .ready) (h2 : L.pending = none) : L.fin none = L := by
  cases L
  simp only at h1 h2
  subst h1 h2
  rfl
/-! ### The statement -/
def RngQ (Q : Ex → Env → Hp → Prop) (b : Nat) (ts : List Nat) (s : Env) (r : PV) (H1 : Hp) : Prop :=
  ∃ (g z : Nat) (L : Loop) (ps : List PV) (e : Ex), H1.f b = some ⟨g, z, .lp L ts :: ps⟩ ∧ L.state ≠ .busy ∧ L.pending = jumpOf e ∧ Q e s (H1.del b)
theorem tr_range {x : RO} {qs : List Nat} {ra rb : RCode} {f : FuncId} {caps : List PV} (ts : List Nat) (ps : List PV) (hx : x.ev gl s = some (.fn f caps)) (hl : ts.length = ps.length) (hps : ∀ i (h1 : i < ts.length) (h2 : i < ps.length), s ts[i] = some ps[i])
    (h : ∀ (L : Loop) (ow : Nat → Nat → Bool) (N : Nat), L.state = .ready → L.pending = none → L.params.toList = qs → resolveCode P ow N L.assign = some ra → resolveCode P ow N L.body = some rb → N ≤ L.tmps.size →
      (∀ t ∈ qs, t < N) → HSpec P gl f (.yld H.n :: caps) (H.add [⟨0, 1, .lp L ts :: ps⟩]) (RngQ Q H.n ts s)) : Tr P gl n0 (.range x qs ra rb) s H Q := by
  intro hmix ow N c hr ro hro A w0 F0 m0 w00 ds a w hm0 ⟨F, m, sim, ev, ht, hu, hN, Ds, hd1, hd2, hd3⟩
  obtain rfl : ro = none := hro.resolve_right (by simp [RCode.flat])
  cases c <;> simp only [resolveCode, Option.bind_eq_bind, Option.bind_eq_some_iff, Option.map_eq_some_iff, Option.some.injEq, reduceCtorEq, RCode.range.injEq, and_false, exists_false] at hr
  case region id ops draw =>
    obtain ⟨l, _, hr⟩ := hr
    split at hr
    · split at hr <;> cases hr
    · cases hr
  case rangeFunc g pa ca cb =>
    obtain ⟨r0, hg, rx, hca, ry, hcb, rfl, rfl, rfl, rfl⟩ := hr
    unfold whenB at hcb
    split at hcb <;> try contradiction
    rename_i hps0
    have hlt0 : ∀ t ∈ pa.toList, t < N := fun t ht => by simpa using List.all_eq_true.1 hps0 t ht
    have hv := RO.rel sim hg (fun t _ p hp => ht t p hp) hx
    generalize hev : a.eval g = vg at hv
    cases hv with
    | fn _ first captured _ h0 hcs hcap =>
      subst h0
      refine wpIn_rangeFunc fun fn _ => ?_
      obtain ⟨L, hL⟩ : ∃ L : Loop, L = { state := .ready, pending := none, fn, tmps := a.tmps, params := pa, assign := ca, body := cb, defers := w.heap.size } := ⟨_, rfl⟩
      have hspec := h L ow N (by rw [hL]) (by rw [hL]) (by rw [hL]) (by rw [hL]; exact hca) (by rw [hL]; exact hcb) (by rw [hL]; exact hN) hlt0
      obtain ⟨sim1, ev1⟩ := sim.alloc0 (.deferred (some []))
      obtain ⟨sim2, ev2⟩ := sim1.mkLp hu L (ts := ts) (ps := ps) hl (fun i h1 h2 => by
        have := (ht _ _ (hps i h1 h2)).mono ev1
        rw [hL]
        exact this)
      have ev12 := ev1.trans ev2
      have hok := hspec.1
      have hD : w.heap[w.heap.size]? = none := Array.getElem?_eq_none (Nat.le_refl _)
      have hds : DsOk ds w00 F (mput m H.n (.mp (w.alloc (.deferred (some []))).heap.size)) { a with defers := [{ target := .collected w.heap.size, args := #[] }] ++ a.defers } ((w.alloc (.deferred (some []))).alloc (.loop L)) := by
        have hlt : ∀ D ∈ Ds, D < w.heap.size := fun D hD => (Array.getElem?_eq_some_iff.1 (hd3 D hD).1).1
        refine DsOk.mono (w := w.alloc (.deferred (some []))) (a := { a with defers := [{ target := .collected w.heap.size, args := #[] }] ++ a.defers }) ⟨w.heap.size :: Ds, by simp [hd1], List.nodup_cons.2 ⟨fun h => Nat.lt_irrefl _ (hlt _ h), hd2⟩, fun D hD => ?_⟩ ev2 rfl
        rcases List.mem_cons.1 hD with rfl | hD
        · refine ⟨heap_push_eq _ _, fun ⟨b, hb⟩ => ?_, fun hf => ?_, ev.grow⟩
          · have := (sim.live b _ hb).2.1; omega
          · have := sim.frzlt _ hf; omega
        · obtain ⟨q1, q2, q3, q4⟩ := hd3 D hD
          exact ⟨(heap_push_lt _ _ (hlt D hD)).trans q1, q2, q3, q4⟩
      have hargs : CsRel F (mput m H.n (.mp (w.alloc (.deferred (some []))).heap.size)) ((w.alloc (.deferred (some []))).alloc (.loop L)) (#[.func (.yield (w.heap.size + 1)) #[] #[]] ++ captured) (.yld H.n :: caps) := by
        refine CsRel.append (l := [.yld H.n]) ⟨rfl, fun i h1 h2 => ?_⟩ ⟨hcs, fun i h1 h2 => (hcap i h1 h2).mono ev12⟩
        simp at h1
        subst h1
        refine .yld _ _ (.inl ?_)
        rw [mput_eq, size_alloc]
      have hcall := hspec.2 A w0 F _ _ _ sim2 (fun b hb => by
        simp only [Hp.add, List.length_singleton] at hb
        rw [mput_ne _ _ (by omega)]
        exact hu b (by omega)) hargs
      have hslot : (mput m H.n (.mp (w.alloc (.deferred (some []))).heap.size)) H.n = .mp (w.heap.size + 1) := by rw [mput_eq, size_alloc]
      have henter : (Instr.enterLoop fn a.tmps pa ca cb (RF none).round).run P w = .ok (w.heap.size + 1, [{ target := .collected w.heap.size, args := #[] }]) ((w.alloc (.deferred (some []))).alloc (.loop L)) := by
        rw [hL]; exact run_enterLoop_outer _ _ _ _ _
      have hno : (RF none).depth.isSome = true → 1 ≤ 0 := fun h => by cases h
      clear hargs hL
      generalize mput m H.n (.mp (w.alloc (.deferred (some []))).heap.size) = M1 at *
      generalize (w.alloc (.deferred (some []))).alloc (.loop L) = W1 at *
      refine ⟨w.heap.size + 1, [{ target := .collected w.heap.size, args := #[] }], W1, { target := .fn (.func f) captured, args := #[.func (.yield (w.heap.size + 1)) #[] #[]] }, W1, f, #[.func (.yield (w.heap.size + 1)) #[] #[]] ++ captured, W1, henter, ?_, fun _ _ => trivial, ?_, hno, ?_⟩
      rotate_right
      refine callsIn_RF (hcall.mono ?_)
      rotate_left
      · simp only [resolve, hev, Deferred.ofValue]
        simp only [List.map_toArray, List.map_cons, List.map_nil, Act.eval]
        rfl
      · unfold callOk at hok
        split at hok
        · rename_i fn' hfn
          simp only [Bool.and_eq_true, bne_iff_ne, ne_eq] at hok
          have h1 : (fn'.name == "runtime.NumGoroutine") = false := by simpa using hok.2
          have h2 : fn'.body.isNone = false := by
            cases hb : fn'.body with
            | none => rw [hb] at hok; simp at hok
            | some b => rfl
          simp only [invoke, callFunc, Sem.run_bind, run_program, Result.andThen_ok, hfn, h1, h2, Bool.false_eq_true, if_false, Sem.run_pure]
        · cases hok
      · rintro e w3 ⟨v, F3, m3, r, H3, rfl, ⟨g3, z3, L3, ps3, ex, hb3, hst3, hpen3, hQ3⟩, sim3, hu3, ev3, hv3⟩
        have hmb3 : m3 H.n = .mp (w.heap.size + 1) ∨ m3 H.n = .dead := by
          have := ev3.slot H.n
          rw [hslot] at this
          exact this.symm
        obtain ⟨hm3, hL3, _, _⟩ := lp_at sim3 hb3 hmb3
        obtain ⟨sim4, ev4⟩ := sim3.putLp (L' := { L3 with state := .exhausted }) hb3 hmb3 rfl
        have hS : SRel gl A w0 F0 m0 w00 N ds { a with defers := [{ target := .collected w.heap.size, args := #[] }] ++ a.defers } (w3.putObj (w.heap.size + 1) (.loop { L3 with state := .exhausted })) s (H3.del H.n) := by
          refine ⟨F3, m3, ?_, ((ev.trans ev12).trans ev3).trans ev4, fun t p hp => (((ht t p hp).mono ev12).mono ev3).mono ev4, hu3, hN, (hds.mono ev3 rfl).mono ev4 rfl⟩
          refine ⟨sim4.below, sim4.live, sim4.inj, sim4.frz, sim4.frzlt, fun c k hk hnu => ?_, sim4.glob⟩
          simp only [Hp.del] at hk
          split at hk
          · cases hk
          · rename_i hne
            exact sim4.blk c k (by rw [Hp.set_f hb3, if_neg hne]; exact hk) hnu
        refine ⟨L3.pending, _, run_endLoop hL3 hst3, ?_⟩
        have hwp : ∀ p, L3.pending = p → p = jumpOf ex := fun p h => h.symm.trans hpen3
        generalize hgen : w3.putObj (w.heap.size + 1) (.loop { L3 with state := .exhausted }) = W4 at *
        rw [hpen3]
        cases ex with
        | normal => exact ⟨.normal, s, _, rfl, hQ3, hS⟩
        | exit id => exact wpIn_exit ⟨.exit id, s, _, rfl, hQ3, hS⟩
        | ret => exact wpIn_ret ⟨.ret, s, _, rfl, hQ3, hS⟩
theorem HSpec.toL {f : FuncId} {args : List PV} {R0 R : PV → Hp → Prop} {l : List (Option Blk)} (hn : H.n = l.length) (hq : sameL H l 0) (h : HSpec P gl f args (Hp.ofL l) R0) (k : ∀ r G, R0 r G → R r G) : HSpec P gl f args H R := by
  have e := hp_ofL hn hq
  subst e
  refine ⟨h.1, fun A w0 F m w vs sim hU hvs => (h.2 A w0 F m w vs sim hU hvs).mono ?_⟩
  rintro e w' ⟨v, F1, m1, r, G, rfl, hR, rest⟩
  exact ⟨v, F1, m1, r, G, rfl, k r G hR, rest⟩
theorem ySpecL (hmix : P.follows .mixedOrders = true) {b g z n : Nat} {L : Loop} {ts qs : List Nat} {ps as : List PV} {ow : Nat → Nat → Bool} {N : Nat} {ra rb : RCode} {r' : PV} {l0 l1 : List (Option Blk)} (hb : (Hp.ofL l0).f b = some ⟨g, z, .lp L ts :: ps⟩) (hst : L.state = .ready) (hpar : L.params.toList = qs)
    (ha : resolveCode P ow N L.assign = some ra) (hbd : resolveCode P ow N L.body = some rb) (hN : N ≤ L.tmps.size) (hq : ∀ q ∈ qs, q < N) (hlen : as.length = qs.length) (hfl : (ra.flat && rb.flat) = true) (hl : l0.length = n) (hle : n ≤ l1.length)
    (h : Tr P gl n ra (envY ts ps qs as) (Hp.ofL l0) (RndQ P gl n b g z L ts ps rb fun r G => fz G l1.length r = some r' ∧ chkH G l1.length l1 0)) : YSpec P gl b as (Hp.ofL l0) (fun r G => r = r' ∧ G = Hp.ofL l1) := by
  subst hl
  exact YSpec.cutL (ySpec_of hmix hb hst hpar hlen ha hbd hN hq hfl rfl h) hle fun _ _ h => h
end
section
variable {P : Program} {gl : Nat → Option PV} {s : Env} {H : Hp} {l : Nodes} {Q : Env → Hp → Prop} {d : Option Nat} {bf : Nat}
theorem n_yieldL {x : RO} {b : Nat} {args : List RO} {as : List PV} {r : PV} {H' : Hp} {l0 : List (Option Blk)} (h0 : x.ev gl s = some (.yld b)) (h1 : evs (RO.ev gl s) args = some as) (h3 : YSpec P gl b as (Hp.ofL l0) (fun r0 G => r0 = r ∧ G = H')) (hs : H.n = l0.length) (hq : sameL H l0 0) (hn : l0.length ≤ H'.n) (k : WN P gl true l (s.put d (some r)) H' Q) : WN P gl true (.op d (.callv x args) bf l) s H Q := by
  have e := hp_ofL hs hq
  subst e
  exact n_yield h0 h1 h3 hn k
end
end Go.Vm
end
section
/- The lattice of bottom, one number of 32 bits, and top: its laws, no program in sight. -/
set_option linter.unusedSimpArgs false
set_option linter.unusedVariables false
namespace Go.Vm
open Go
inductive V3 where
  | bot | one (c : BitVec 32) | top
  deriving DecidableEq
def V3.k : V3 → Int
  | .bot => 0 | .one _ => 1 | .top => 2
def V3.c : V3 → Int
  | .one c => c.toInt
  | _ => 0
abbrev pv (v : V3) : PV := .agg [.int .i64 v.k, .int .i64 v.c]
def V3.join : V3 → V3 → V3
  | .bot, b => b
  | a, .bot => a
  | a, b => if a = b then b else .top
def V3.leq (a b : V3) : Bool := decide (a.join b = b)
def V3.each (f : BitVec 32 → BitVec 32 → BitVec 32) : V3 → V3 → V3
  | .bot, _ => .bot
  | _, .bot => .bot
  | .one x, .one y => .one (f x y)
  | _, _ => .top
def V3.add := V3.each (· + ·)
def V3.sub := V3.each (· - ·)
def V3.mul := V3.each (· * ·)
def V3.neg (a : V3) : V3 := V3.sub (.one 0) a
variable (a b c : V3)
end Go.Vm
namespace Go.Vm
end Go.Vm
namespace Go.Vm
end Go.Vm
namespace Go.Vm
end Go.Vm
namespace Go.Vm
end Go.Vm
end
section
/- Numbers of 32 bits: the laws that the statements ask. -/
namespace Go.Vm
section
variable (x y z : BitVec 32)
end
end Go.Vm
namespace Go.Vm
section
variable (a b c : V3)
end
end Go.Vm
end
section
/- Sets of signs: three bits; the laws, no program in sight. -/
set_option linter.unusedSimpArgs false
set_option linter.unusedVariables false
namespace Go.Vm
open Go
def i64r (n : Int) : Prop := -9223372036854775808 ≤ n ∧ n ≤ 9223372036854775807
def sn (s : Int) : Int := if 0 ≤ s ∧ s ≤ 7 then s else 7
def sOr (a b : Int) : Int := IntKind.i64.wrap ((BitVec.ofInt 64 a ||| BitVec.ofInt 64 b).toNat : Int)
def sJoin (a b : Int) : Int := sOr (sn a) (sn b)
def sLeq (a b : Int) : Bool := IntKind.i64.wrap ((BitVec.ofInt 64 (sn a) &&& ~~~(BitVec.ofInt 64 (sn b))).toNat : Int) == 0
end Go.Vm
end
section
/- What is known of variables: a value for each, or nothing. -/
set_option linter.unusedSimpArgs false
set_option linter.unusedVariables false
namespace Go.Vm
open Go
abbrev pq (q : Int × Int) : PV := .agg [.int .i64 q.1, .int .i64 q.2]
section
variable {α T : Type}
end
end Go.Vm
namespace Go.Vm
section
variable {α T : Type}
end
end Go.Vm
end
section
/- What is known of variables' signs. -/
set_option linter.unusedSimpArgs false
set_option linter.unusedVariables false
namespace Go.Vm
open Go
abbrev I64 := {x : Int // i64r x}
abbrev S8 := {x : Int // 0 ≤ x ∧ x ≤ 7}
abbrev ps (x : S8) : PV := .int .i64 x.1
theorem sn_07 (x : Int) : 0 ≤ sn x ∧ sn x ≤ 7 := by unfold sn; split <;> omega
def S8.i (x : S8) : I64 := ⟨x.1, by have := x.2; unfold i64r; omega⟩
theorem sOr_07 : ∀ a b : Fin 8, 0 ≤ sOr (a.1 : Int) (b.1 : Int) ∧ sOr (a.1 : Int) (b.1 : Int) ≤ 7 := by decide +kernel
theorem sOr_r {a b : Int} (ha : 0 ≤ a ∧ a ≤ 7) (hb : 0 ≤ b ∧ b ≤ 7) : 0 ≤ sOr a b ∧ sOr a b ≤ 7 := by
  have := sOr_07 ⟨a.toNat, by omega⟩ ⟨b.toNat, by omega⟩
  simp only [Int.toNat_of_nonneg ha.1, Int.toNat_of_nonneg hb.1] at this
  exact this
def S8.join (a b : S8) : S8 := ⟨sJoin a.1 b.1, sOr_r (sn_07 _) (sn_07 _)⟩
def S8.leq (a b : S8) : Bool := sLeq a.1 b.1
theorem S8.i64 (a : S8) : i64r a.1 := by have := a.2; unfold i64r; omega
end Go.Vm
namespace Go.Vm
end Go.Vm
end
section
/- The lattice of what is known of variables: its laws, no program in sight. -/
set_option linter.unusedSimpArgs false
set_option linter.unusedVariables false
namespace Go.Vm
open Go
structure Lat {T : Type} (z : T) (j : T → T → T) (le : T → T → Bool) : Prop where
  comm : ∀ a b, j a b = j b a
  assoc : ∀ a b c, j (j a b) c = j a (j b c)
  idem : ∀ a, j a a = a
  bot : ∀ a, j z a = a
  refl : ∀ a, le a a = true
  trans : ∀ a b c, le a b = true → le b c = true → le a c = true
  up : ∀ a b, le a (j a b) = true
  two : ∀ a b c, (le a c && le b c) = le (j a b) c
  least : ∀ a, le z a = true
section
variable {T : Type} {z : T} {j : T → T → T} {le : T → T → Bool}
end
end Go.Vm
namespace Go.Vm
section
variable {α T : Type} {z : T}
end
end Go.Vm
end
section
/- Arguments: what is known of variables. -/
set_option linter.unusedSimpArgs false
set_option linter.unusedVariables false
namespace Go.Vm
open Go
end Go.Vm
end
section
/- Instructions: eleven numbers; what may be; no program in sight. -/
set_option linter.unusedSimpArgs false
set_option linter.unusedVariables false
namespace Go.Vm
open Go
structure In where
  id : Int
  kind : Int
  dst : Int
  a : Int
  b : Int
  c : Int
  f : Int
  n : Int
  x : Int
  y : Int
  z : Int
  deriving DecidableEq
def hD (k : Int) : Bool := decide (0 ≤ k) && decide (k ≤ 7)
def hA (k : Int) : Bool := decide (1 ≤ k) && decide (k ≤ 5) || k == 8 || k == 9
def hB (k : Int) : Bool := decide (3 ≤ k) && decide (k ≤ 5)
def hC (k : Int) : Bool := k == 0
def hF (k : Int) : Bool := k == 7
def bareI (i : In) : In := ⟨0, 0, if hD i.kind then 0 else i.dst, if hA i.kind then 0 else i.a, if hB i.kind then 0 else i.b, if hC i.kind then 0 else i.c, if hF i.kind then 0 else i.f, if hF i.kind then 0 else i.n,
  if hF i.kind && decide (0 < i.n) then 0 else i.x, if hF i.kind && decide (1 < i.n) then 0 else i.y, if hF i.kind && decide (2 < i.n) then 0 else i.z⟩
def i0 : In := ⟨0, 0, 0, 0, 0, 0, 0, 0, 0, 0, 0⟩
def form (i : In) : Bool :=
  decide (0 ≤ i.kind ∧ i.kind ≤ 9) && decide (0 ≤ i.id ∧ i.id ≤ 95) && decide (0 ≤ i.n ∧ i.n ≤ 3) && decide (-2147483648 ≤ i.c ∧ i.c ≤ 2147483647) &&
  decide (0 ≤ i.dst ∧ 0 ≤ i.a ∧ 0 ≤ i.b ∧ 0 ≤ i.f ∧ 0 ≤ i.x ∧ 0 ≤ i.y ∧ 0 ≤ i.z) && decide (bareI i = i0)
def defI (i : In) : Int := if form i && hD i.kind then i.dst else -1
def dedup (l : List Int) : List Int := l.foldl (fun o v => if o.contains v then o else o ++ [v]) []
def rawUses (i : In) : List Int := (if hA i.kind then [i.a] else []) ++ (if hB i.kind then [i.b] else []) ++ [i.x, i.y, i.z].take i.n.toNat
def usesI (i : In) : List Int := if form i then dedup (rawUses i) else []
def asciiL : List PV := (List.range 256).map fun i => .int .u8 (if i = 9 ∨ i = 10 ∨ i = 11 ∨ i = 12 ∨ i = 13 ∨ i = 32 then 1 else 0)
end Go.Vm
namespace Go.Vm
section
variable {P : Program} {gl : Nat → Option PV} {e : Bool} {s : Env} {H : Hp} {l : Nodes} {Q : Env → Hp → Prop} {d : Option Nat} {bf : Nat}
end
end Go.Vm
namespace Go.Vm
section
variable {P : Program} {gl : Nat → Option PV} {e : Bool} {s : Env} {H : Hp} {l : Nodes} {Q : Env → Hp → Prop} {d : Option Nat} {bf : Nat}
end
end Go.Vm
end
section
/- Rows of numbers; where one is; each once. -/
set_option linter.unusedSimpArgs false
set_option linter.unusedVariables false
namespace Go.Vm
open Go
section
variable {P : Program} {gl : Nat → Option PV} {e : Bool} {s : Env} {H : Hp} {l : Nodes} {Q : Env → Hp → Prop} {d : Option Nat} {bf : Nat} {α : Type} {f : α → PV}
end
def dd (o : List Int) (v : Int) : List Int := if o.contains v then o else o ++ [v]
end Go.Vm
namespace Go.Vm
section
variable {P : Program} {gl : Nat → Option PV} {e : Bool} {s : Env} {H : Hp} {l : Nodes} {Q : Env → Hp → Prop} {d : Option Nat} {bf : Nat} {α : Type} {f : α → PV}
end
end Go.Vm
end
section
/- What is live; what reaches; as numbers. -/
set_option linter.unusedSimpArgs false
set_option linter.unusedVariables false
set_option exponentiation.threshold 2000
namespace Go.Vm
open Go
end Go.Vm
end
section
/- What an instruction makes, of numbers. -/
set_option linter.unusedSimpArgs false
set_option linter.unusedVariables false
namespace Go.Vm
open Go
end Go.Vm
namespace Go.Vm
/-! ### Sorting by insertion -/
def swp (ys : List Int) (j : Nat) : List Int := (ys.set (j + 1) (ys.getD j 0)).set j (ys.getD (j + 1) 0)
def inn : Nat → List Int → List Int
  | 0, ys => ys
  | j + 1, ys => if ys.getD (j + 1) 0 < ys.getD j 0 then inn j (swp ys j) else ys
def srt : Nat → List Int → List Int
  | 0, xs => xs
  | k + 1, xs => inn (k + 1) (srt k xs)
end Go.Vm
namespace Go.Vm
end Go.Vm
end
section
/- A row without repeats; its room behind cleared. -/
set_option linter.unusedSimpArgs false
set_option linter.unusedVariables false
namespace Go.Vm
open Go
def cpS (o : List Int) (v : Int) : List Int := if o.getLast? = some v then o else o ++ [v]
def cp (l : List Int) : List Int := l.foldl cpS []
theorem cp_snoc (l : List Int) (v : Int) : cp (l ++ [v]) = cpS (cp l) v := by simp [cp, List.foldl_append]
theorem cp_last : ∀ (n : Nat) (l : List Int), l.length = n → (cp l).getLast? = l.getLast?
  | 0, l, h => by
    obtain rfl := List.length_eq_zero_iff.1 h
    rfl
  | n + 1, l, h => by
    have hne : l ≠ [] := by rintro rfl; simp at h
    obtain ⟨l', v, rfl⟩ : ∃ l' v, l = l' ++ [v] := ⟨l.dropLast, l.getLast hne, (List.dropLast_concat_getLast hne).symm⟩
    rw [cp_snoc, cpS]
    split
    · rename_i e
      rw [e]
      simp
    · simp
theorem last_take {l : List Int} {k : Nat} (h : k < l.length) : (l.take (k + 1)).getLast? = some (l.getD k 0) := by
  rw [← take_snoc1 h 0]
  simp
theorem cp_step_eq {l : List Int} {k : Nat} (h : k + 1 < l.length) (e : l.getD (k + 1) 0 = l.getD k 0) : cp (l.take (k + 1 + 1)) = cp (l.take (k + 1)) := by
  rw [← take_snoc1 h 0, cp_snoc, cpS, if_pos]
  rw [cp_last _ _ rfl, last_take (by omega), e]
theorem cp_step_ne {l : List Int} {k : Nat} (h : k + 1 < l.length) (e : l.getD (k + 1) 0 ≠ l.getD k 0) : cp (l.take (k + 1 + 1)) = cp (l.take (k + 1)) ++ [l.getD (k + 1) 0] := by
  rw [← take_snoc1 h 0, cp_snoc, cpS, if_neg]
  rw [cp_last _ _ rfl, last_take (by omega)]
  intro c
  exact e (Option.some.inj c).symm
section
variable {P : Program} {gl : Nat → Option PV} {e : Bool} {s : Env} {H : Hp} {l : Nodes} {Q : Env → Hp → Prop} {d : Option Nat} {bf : Nat} {α : Type} {f : α → PV}
end
structure Cpk (l : List Int) (k0 k j : Nat) (ys : List Int) : Prop where
  hj : 1 ≤ j
  hl : k0 + j ≤ l.length
  hk : k = (cp (l.take (k0 + j))).length
  hy : ys = cp (l.take (k0 + j)) ++ l.drop k
  hb : k < k0 + j
  h0 : 1 ≤ k0
  hm : 1 ≤ k
theorem Cpk.len {l : List Int} {k0 k j : Nat} {ys : List Int} (h : Cpk l k0 k j ys) : ys.length = l.length := by
  have h1 := h.hk
  have h2 := h.hb
  have h3 := h.hl
  rw [h.hy, List.length_append, List.length_drop, ← h.hk]
  omega
theorem Cpk.get {l : List Int} {k0 k j : Nat} {ys : List Int} (h : Cpk l k0 k j ys) (n : Nat) (hn : k ≤ n) : ys.getD n 0 = l.getD n 0 := by
  rw [h.hy, List.getD_eq_getElem?_getD, List.getD_eq_getElem?_getD, List.getElem?_append_right (by rw [← h.hk]; exact hn), List.getElem?_drop, ← h.hk]
  congr 2
  omega
theorem Cpk.ne {l : List Int} {k0 k j : Nat} {ys : List Int} (h : Cpk l k0 k j ys) (hlt : k0 + j < l.length) (e : ys.getD (k0 + j) 0 ≠ ys.getD (k0 + (j - 1)) 0) : Cpk l k0 (k + 1) (j + 1) (ys.set k (ys.getD (k0 + j) 0)) := by
  have h1 := h.hj
  have h2 := h.hb
  have h3 := h.hk
  have h4 := h.hy
  have e0 := h.get (k0 + j) (by omega)
  rw [e0, h.get (k0 + (j - 1)) (by omega)] at e
  rw [e0]
  obtain ⟨i, hi⟩ : ∃ i, k0 + j = i + 1 := ⟨k0 + j - 1, by omega⟩
  have e2 : cp (l.take (k0 + (j + 1))) = cp (l.take (k0 + j)) ++ [l.getD (k0 + j) 0] := by
    rw [show k0 + (j + 1) = i + 1 + 1 by omega, hi]
    refine cp_step_ne (by omega) ?_
    rw [← hi]
    intro c
    apply e
    rw [c]
    congr 1
    omega
  refine ⟨by omega, by omega, by rw [e2, List.length_append, ← h3]; rfl, ?_, by omega, h.h0, by have := h.hm; omega⟩
  rw [e2, h4, List.set_append_right _ _ (by rw [← h3]; exact Nat.le_refl _), ← h3, Nat.sub_self, List.append_assoc]
  congr 1
  rw [List.drop_eq_getElem_cons (by omega : k < l.length)]
  rfl
theorem Cpk.fin {l : List Int} {k0 k j : Nat} {ys : List Int} (h : Cpk l k0 k j ys) (hge : ¬ k0 + j < l.length) : cp l = ys.take k ∧ k = (cp l).length ∧ k < l.length := by
  have h1 := h.hl
  have h2 := h.hb
  have h3 := h.hk
  have h4 := h.hy
  rw [List.take_of_length_le (by omega)] at h3 h4
  refine ⟨?_, h3, by omega⟩
  rw [h4, h3, List.take_left]
theorem Cpk.start {l : List Int} {k : Nat} (h1 : 1 ≤ k) (hlt : k < l.length) (hc : cp (l.take k) = l.take k) (e : l.getD k 0 = l.getD (k - 1) 0) : Cpk l k k 1 l := by
  obtain ⟨i, rfl⟩ : ∃ i, k = i + 1 := ⟨k - 1, by omega⟩
  have e2 : cp (l.take (i + 1 + 1)) = l.take (i + 1) := by
    rw [cp_step_eq hlt e, hc]
  exact ⟨by omega, by omega, by rw [e2, List.length_take]; omega, by rw [e2, List.take_append_drop], by omega, h1, h1⟩
def varsI (i : In) : List Int := let l := if defI i = -1 then usesI i else usesI i ++ [defI i]; cp (srt (l.length - 1) l)
end Go.Vm
end
section
/- What an instruction tells: plain laws. -/
set_option linter.unusedSimpArgs false
set_option linter.unusedVariables false
set_option exponentiation.threshold 2000
open Go
namespace Go.Vm
end Go.Vm
end
section
/- The document's form of instructions. -/
set_option linter.unusedSimpArgs false
set_option linter.unusedVariables false
namespace Go.Vm
open Go
end Go.Vm
end
section
/- The sorted row without repeats: strictly rising, the same members. -/
set_option linter.unusedSimpArgs false
set_option linter.unusedVariables false
namespace Go.Vm
open Go
end Go.Vm
end
section
/- All variables of an instruction, as the document gathers them. -/
set_option linter.unusedSimpArgs false
set_option linter.unusedVariables false
namespace Go.Vm
open Go
end Go.Vm
end
section
/- The least above the last, again and again. -/
set_option linter.unusedSimpArgs false
set_option linter.unusedVariables false
namespace Go.Vm
open Go
def abv (S : List Int) (k : Nat) (x : Int) : Prop := k = 0 ∨ S.getD (k - 1) 0 < x
structure Bst (l S : List Int) (k j : Nat) (b : Int) : Prop where
  hj : j ≤ l.length
  hb : (b = -1 ∧ ∀ m, m < j → ¬ abv S k (l.getD m 0)) ∨ (b ∈ l ∧ abv S k b ∧ ∀ m, m < j → abv S k (l.getD m 0) → b ≤ l.getD m 0)
theorem getD_mem' {l : List Int} {m : Nat} (h : m < l.length) : l.getD m 0 ∈ l := by
  rw [List.getD_eq_getElem?_getD, List.getElem?_eq_getElem h, Option.getD_some]
  exact List.getElem_mem h
theorem Bst.start (l S : List Int) (k : Nat) : Bst l S k 0 (-1) := ⟨by omega, Or.inl ⟨rfl, fun m h => absurd h (by omega)⟩⟩
theorem Bst.take {l S : List Int} {k j : Nat} {b : Int} (h : Bst l S k j b) (hl : ∀ x ∈ l, 0 ≤ x) (hj : j < l.length) (ha : abv S k (l.getD j 0)) (hc : b < 0 ∨ l.getD j 0 < b) : Bst l S k (j + 1) (l.getD j 0) := by
  refine ⟨by omega, Or.inr ⟨getD_mem' hj, ha, fun m hm hab => ?_⟩⟩
  by_cases e : m = j
  · subst e; exact Int.le_refl _
  · rcases h.hb with ⟨_, h2⟩ | ⟨h1, _, h3⟩
    · exact absurd hab (h2 m (by omega))
    · have := h3 m (by omega) hab
      have := hl b h1
      omega
theorem rise_lt {S : List Int} (hs : S.Pairwise (· < ·)) {m n : Nat} (h : m < n) (hn : n < S.length) : S.getD m 0 < S.getD n 0 := by
  rw [List.getD_eq_getElem?_getD, List.getD_eq_getElem?_getD, List.getElem?_eq_getElem hn, List.getElem?_eq_getElem (by omega : m < S.length), Option.getD_some, Option.getD_some]
  exact List.pairwise_iff_getElem.1 hs m n (by omega) hn h
theorem Bst.fin {l S : List Int} {k j : Nat} {b : Int} (h : Bst l S k j b) (hs : S.Pairwise (· < ·)) (hm : ∀ x, x ∈ S ↔ x ∈ l) (hk : k < S.length) (hj : ¬ j < l.length) : b = S.getD k 0 := by
  have ha : abv S k (S.getD k 0) := by
    by_cases e : k = 0
    · exact Or.inl e
    · exact Or.inr (rise_lt hs (by omega) hk)
  have hS : S.getD k 0 ∈ l := (hm _).1 (getD_mem' hk)
  obtain ⟨m, hml, hme⟩ := List.mem_iff_getElem.1 hS
  have hme' : l.getD m 0 = S.getD k 0 := by
    rw [← hme, List.getD_eq_getElem?_getD, List.getElem?_eq_getElem hml, Option.getD_some]
  rcases h.hb with ⟨_, h2⟩ | ⟨h1, h3, h4⟩
  · exact absurd (by rw [hme']; exact ha) (h2 m (by omega))
  · have h5 := h4 m (by omega) (by rw [hme']; exact ha)
    rw [hme'] at h5
    obtain ⟨n, hnl, hne⟩ := List.mem_iff_getElem.1 ((hm _).2 h1)
    have hne' : S.getD n 0 = b := by
      rw [← hne, List.getD_eq_getElem?_getD, List.getElem?_eq_getElem hnl, Option.getD_some]
    by_cases c1 : k < n
    · have := rise_lt hs c1 hnl
      omega
    · by_cases c2 : n < k
      · exfalso
        rcases h3 with h3 | h3
        · omega
        · by_cases e : n = k - 1
          · subst e; omega
          · have := rise_lt hs (show n < k - 1 by omega) (by omega)
            omega
      · have : n = k := by omega
        subst this
        exact hne'.symm
end Go.Vm
end
section
/- Programs, as values: what may be, in plain words. -/
set_option linter.unusedSimpArgs false
set_option linter.unusedVariables false
namespace Go.Vm
open Go
structure Bk where
  live : Bool
  code : List In
  succ : List Int
structure Fn where
  ar : Int
  vs : Int
  bs : List Bk
def B0 : Bk := ⟨false, [], []⟩
def F0 : Fn := ⟨0, 0, []⟩
def liveF (f : Fn) (b : Int) : Bool := decide (b ≥ 0) && decide (b < (f.bs.length : Nat)) && (f.bs.getD b.toNat B0).live
def risesL (l : List Int) : Bool := (List.range (l.length - 1)).all fun k => decide (l.getD k 0 < l.getD (k + 1) 0)
def okI (p : List Fn) (f : Fn) (i : In) : Bool := form i && !(varsI i).any (fun v => decide (v ≥ f.vs)) && (i.kind != 7 || decide (i.f < (p.length : Nat)) && (p.getD i.f.toNat F0).ar == i.n)
def bad1 (x : Bk) : Bool := !x.live && decide ((x.code.length : Int) + (x.succ.length : Nat) > 0)
def bad2 (f : Fn) (x : Bk) : Bool := !risesL x.succ || x.succ.any fun b => !liveF f b
def bad3 (p : List Fn) (f : Fn) (x : Bk) : Bool := decide ((x.code.length : Int) > 16) || x.code.any fun i => !okI p f i
def okB (p : List Fn) (f : Fn) (x : Bk) : Bool := !bad1 x && !bad2 f x && !bad3 p f x
def bad4 (f : Fn) : Bool := decide (f.ar < 0) || decide (f.ar > 3) || decide (f.vs < f.ar) || decide (f.vs > 6)
def bad5 (f : Fn) : Bool := decide ((f.bs.length : Int) < 1) || decide ((f.bs.length : Int) > 12) || !(f.bs.getD (0 : Int).toNat B0).live || !(f.bs.getD ((f.bs.length : Int) - 1).toNat B0).live
def okF (p : List Fn) (f : Fn) : Bool := !bad4 f && !bad5 f && f.bs.all (okB p f)
def idsB (x : Bk) : List Int := x.code.map (·.id)
def idsF (f : Fn) : List Int := f.bs.flatMap idsB
def idsP (p : List Fn) : List Int := p.flatMap idsF
def sane (p : List Fn) : Bool := decide ((p.length : Int) ≤ 6) && p.all (okF p) && decide (idsP p).Nodup
structure Fit (p : List Fn) : Prop where
  funs : p.length ≤ 1000
  bs : ∀ f ∈ p, f.bs.length ≤ 1000
  code : ∀ f ∈ p, ∀ b ∈ f.bs, b.code.length ≤ 1000
  succ : ∀ f ∈ p, ∀ b ∈ f.bs, b.succ.length ≤ 1000
def leastV (es : List (Int × Bool)) (m : Nat) : Int := match (List.range m).find? fun k : Nat => !look es (k : Int) with | some k => (k : Int) | none => -1
end Go.Vm
end
section
/-! New numbers: what is met, told as a fold; what the least of them says. -/
set_option maxRecDepth 100000
set_option linter.unusedSimpArgs false
set_option linter.unusedVariables false
namespace Go.Vm
open Go
def entF (es : List (Int × Bool)) (l : List Int) : List (Int × Bool) := l.foldl (fun e i => upd e i true) es
def newIdV (p : List Fn) : Int := if sane p then leastV (entF [] (idsP p)) 96 else -1
end Go.Vm
end
section
/-! What follows is preceded: counted twice. -/
set_option maxRecDepth 100000
set_option linter.unusedSimpArgs false
set_option linter.unusedVariables false
namespace Go.Vm
open Go
end Go.Vm
end
section
/-! All instructions of a program; which numbers are met; what the least that is not had says. -/
set_option maxRecDepth 100000
set_option linter.unusedSimpArgs false
set_option linter.unusedVariables false
namespace Go.Vm
open Go
end Go.Vm
end
section
/-! What is met on a way through a program, place by place; calls; what sets a variable; counts. -/
set_option maxRecDepth 100000
set_option linter.unusedSimpArgs false
set_option linter.unusedVariables false
namespace Go.Vm
open Go
section
variable {α : Type} (p : List Fn) (g : Nat → Nat → Nat → List α)
end
section
variable {α : Type} {p : List Fn} {g : Nat → Nat → Nat → List α}
end
structure Ps where
  x : Int
  y : Int
  z : Int
  deriving DecidableEq
end Go.Vm
end
section
/-! Counting; what the library's sort gives of numbers below 96. -/
set_option maxRecDepth 100000
set_option linter.unusedSimpArgs false
set_option linter.unusedVariables false
namespace Go.Vm
open Go
end Go.Vm
end
section
/-! Counting: what calls, what sets. -/
set_option maxRecDepth 100000
set_option linter.unusedSimpArgs false
set_option linter.unusedVariables false
namespace Go.Vm
open Go
end Go.Vm
end
section
/-! Which changes may be: what package edit says, in plain words. -/
set_option maxRecDepth 100000
set_option linter.unusedSimpArgs false
set_option linter.unusedVariables false
namespace Go.Vm
open Go
structure Ed where
  op : Int
  f : Int
  b : Int
  to : Int
  ot : Int
  pos : Int
  i : In
  deriving DecidableEq
structure Rl where
  e : Int
  f : FuncId
  caps : List PV
  b : Bool
def R0 : Rl := ⟨0, 0, [], false⟩
def RsOk (P : Program) (gl : Nat → Option PV) : List Rl → Prop
  | [] => True
  | r :: l => r.caps.all pure1 = true ∧ Pure P gl r.f r.caps (.bool r.b) ∧ (r.b = false → RsOk P gl l)
theorem RsOk.get {P : Program} {gl : Nat → Option PV} : ∀ {l : List Rl}, RsOk P gl l → ∀ k, k < l.length → (∀ j, j < k → (l.getD j R0).b = false) → (l.getD k R0).caps.all pure1 = true ∧ Pure P gl (l.getD k R0).f (l.getD k R0).caps (.bool (l.getD k R0).b)
  | [], _, k, h, _ => absurd h (by simp)
  | r :: l, h, 0, _, _ => ⟨h.1, h.2.1⟩
  | r :: l, h, k + 1, hk, hj => RsOk.get (h.2.2 (hj 0 (by omega))) k (by simpa using hk) fun j hj' => by simpa using hj (j + 1) (by omega)
end Go.Vm
end
section
/- Digits of a word, one after the other. -/
set_option linter.unusedSimpArgs false
set_option linter.unusedVariables false
set_option exponentiation.threshold 2000
namespace Go.Vm
open Go
section
variable {P : Program} {gl : Nat → Option PV} {e : Bool} {s : Env} {H : Hp} {l : Nodes} {Q : Env → Hp → Prop} {d : Option Nat} {bf : Nat}
theorem n_unneg {x : RO} {k : IntKind} {a b : Int} (hx : x.ev gl s = some (.int k a)) (hr : k.wrap (0 - a) = b) (kk : WN P gl e l (s.put d (some (.int k b))) H Q) : WN P gl e (.op d (.un .neg x) bf l) s H Q := by
  refine n_val (r := .int k b) rfl ?_ kk
  simp only [stepN, hx, unP, hr, Option.bind_eq_bind, Option.bind_some, Option.pure_def]
theorem n_idxA {x i : RO} {n sz : Nat} {k : IntKind} {c : Int} {L : List PV} (hx : x.ev gl s = some (.fptr L)) (hi : i.ev gl s = some (.int k c)) (h : 0 ≤ c ∧ c < n) (kk : WN P gl e l (s.put d (some (.fptr (L.drop (c.toNat * sz))))) H Q) : WN P gl e (.op d (.idxAddrA n sz x i) bf l) s H Q := by
  refine n_val (r := .fptr (L.drop (c.toNat * sz))) rfl ?_ kk
  simp only [stepN, hx, hi, Option.bind_eq_bind, Option.bind_some, if_pos h]
theorem n_load_tab {x : RO} {i : Nat} {t : List Nat} (hx : x.ev gl s = some (.fptr ((t.map fun n : Nat => PV.int .u8 n).drop i))) (h : i < t.length) (kk : WN P gl e l (s.put d (some (.int .u8 (t.getD i 0 : Nat)))) H Q) : WN P gl e (.op d (.load none x) bf l) s H Q := by
  refine n_val (r := .int .u8 (t.getD i 0 : Nat)) rfl ?_ kk
  have : subv none ((t.map fun n : Nat => PV.int .u8 n).drop i) = some (.int .u8 (t.getD i 0 : Nat)) := by
    simp only [subv, List.head?_drop, List.getElem?_map, List.getElem?_eq_getElem h, Option.map_some, List.getD_eq_getElem?_getD, Option.getD_some]
  simp only [stepN, hx, this, Option.bind_eq_bind, Option.bind_some, Option.pure_def]
theorem n_load_rest {x : RO} {w : Nat} (hx : x.ev gl s = some (.fptr [.int .u64 (w : Int)])) (kk : WN P gl e l (s.put d (some (.int .u64 ((2 ^ 0 * (w / 2 ^ 0) : Nat) : Int)))) H Q) : WN P gl e (.op d (.load none x) bf l) s H Q := by
  refine n_val (r := .int .u64 ((2 ^ 0 * (w / 2 ^ 0) : Nat) : Int)) rfl ?_ kk
  have : 2 ^ 0 * (w / 2 ^ 0) = w := by simp
  rw [this]
  simp only [stepN, hx, subv, Option.bind_eq_bind, Option.bind_some, Option.pure_def, List.head?_cons]
end
def tzT : List Nat := [0, 1, 56, 2, 57, 49, 28, 3, 61, 58, 42, 50, 38, 29, 17, 4, 62, 47, 59, 36, 45, 43, 51, 22, 53, 39, 33, 30, 24, 18, 12, 5, 63, 55, 48, 27, 60, 41, 37, 16, 46, 35, 44, 21, 52, 32, 23, 11, 54, 26, 40, 15, 34, 20, 31, 10, 25, 14, 19, 9, 13, 8, 7, 6]
theorem tz_all : ∀ t, t < 64 → (2 ^ t * 285870213051353865 % 2 ^ 64) / 2 ^ 58 < 64 ∧ tzT.getD ((2 ^ t * 285870213051353865 % 2 ^ 64) / 2 ^ 58) 0 = t := by decide +kernel
theorem tz_odd {w : Nat} (h : w ≠ 0) : ∃ t q, w = 2 ^ t * (2 * q + 1) := by
  induction w using Nat.strongRecOn with
  | _ w ih =>
    by_cases he : w % 2 = 0
    · obtain ⟨t, q, hq⟩ := ih (w / 2) (by omega) (by omega)
      refine ⟨t + 1, q, ?_⟩
      rw [Nat.pow_succ, Nat.mul_comm (2 ^ t) 2, Nat.mul_assoc, ← hq]
      omega
    · exact ⟨0, w / 2, by omega⟩
theorem tz_lt {w t q : Nat} (h : w = 2 ^ t * (2 * q + 1)) (hw : w < 2 ^ 64) : t < 64 := by
  refine Nat.lt_of_not_le fun hle => ?_
  have h1 : 2 ^ 64 ≤ 2 ^ t := Nat.pow_le_pow_right (by omega) hle
  have h2 : 2 ^ t ≤ w := by rw [h]; exact Nat.le_mul_of_pos_right _ (by omega)
  omega
theorem tz_neg {w : Nat} (h0 : w ≠ 0) (hw : w < 2 ^ 64) : IntKind.u64.wrap (0 - (w : Int)) = ((2 ^ 64 - w : Nat) : Int) := by
  simp only [IntKind.wrap, IntKind.signed, IntKind.bits]
  simp
  omega
theorem tz_and {w t q : Nat} (h : w = 2 ^ t * (2 * q + 1)) (hw : w < 2 ^ 64) : w &&& (2 ^ 64 - w) = 2 ^ t := by
  have ht := tz_lt h hw
  obtain ⟨n, hn⟩ : ∃ n, 64 = t + (n + 1) := ⟨63 - t, by omega⟩
  have e64 : 2 ^ 64 = 2 ^ t * 2 ^ (n + 1) := by rw [hn, Nat.pow_add]
  have hq : 2 * q + 1 < 2 ^ (n + 1) := by
    refine Nat.lt_of_not_le fun hle => ?_
    have := Nat.mul_le_mul_left (2 ^ t) hle
    rw [← e64, ← h] at this
    omega
  have hq2 : q < 2 ^ n := by rw [Nat.pow_succ] at hq; omega
  have e2 : 2 ^ 64 - w = 2 ^ t * (2 * (2 ^ n - (q + 1)) + 1) := by
    rw [e64, h, ← Nat.mul_sub, Nat.pow_succ]
    congr 1
    omega
  have e3 : q &&& (2 ^ n - (q + 1)) = 0 := by
    refine Nat.eq_of_testBit_eq fun i => ?_
    rw [Nat.testBit_and, Nat.testBit_two_pow_sub_succ hq2, Nat.zero_testBit]
    cases q.testBit i <;> simp
  have e4 := and_split 1 q 1 (2 ^ n - (q + 1)) 1 (by omega) (by omega)
  have e5 := and_split t (2 * q + 1) 0 (2 * (2 ^ n - (q + 1)) + 1) 0 (Nat.two_pow_pos t) (Nat.two_pow_pos t)
  rw [e2, h]
  simp only [Nat.add_zero, Nat.pow_one] at e4 e5
  rw [e5, e4, e3]
  simp
theorem tz_less {w t q : Nat} (h : w = 2 ^ t * (2 * q + 1)) : w &&& (w - 1) = 2 ^ (t + 1) * q := by
  have hp := Nat.two_pow_pos t
  have e1 : w = 2 ^ (t + 1) * q + 2 ^ t := by rw [h, Nat.pow_succ, Nat.mul_add, Nat.mul_one, Nat.mul_assoc]
  have e2 : w - 1 = 2 ^ (t + 1) * q + (2 ^ t - 1) := by omega
  have h2 : 2 ^ (t + 1) = 2 * 2 ^ t := by rw [Nat.pow_succ, Nat.mul_comm]
  have e3 := and_split (t + 1) q (2 ^ t) q (2 ^ t - 1) (by omega) (by omega)
  have e4 : 2 ^ t &&& (2 ^ t - 1) = 0 := by rw [Nat.and_two_pow_sub_one_eq_mod, Nat.mod_self]
  rw [e2]
  conv => lhs; lhs; rw [e1]
  rw [e3, e4, Nat.and_self, Nat.add_zero]
theorem b_mulT {t : Nat} : binP .mul (.int .u64 ((2 ^ t : Nat) : Int)) (.int .u64 285870213051353865) = some (.int .u64 ((2 ^ t * 285870213051353865 % 2 ^ 64 : Nat) : Int)) := by
  show some (PV.int .u64 (IntKind.u64.wrap _)) = _
  congr 2
noncomputable def tzN (w : Nat) : Nat := if h : w ≠ 0 then (tz_odd h).choose else 64
theorem tzN_spec {w : Nat} (h : w ≠ 0) : ∃ q, w = 2 ^ tzN w * (2 * q + 1) := by
  rw [tzN, dif_pos h]
  exact (tz_odd h).choose_spec
def rest (w j : Nat) : Nat := 2 ^ j * (w / 2 ^ j)
theorem rest_bit (w j i : Nat) : (rest w j).testBit i = (decide (j ≤ i) && w.testBit i) := by
  rw [rest, Nat.testBit_two_pow_mul, Nat.testBit_div_two_pow]
  by_cases h : j ≤ i
  · simp [h, Nat.sub_add_cancel h]
  · simp [h]
theorem rest_lt {w : Nat} (h : w < 2 ^ 64) (j : Nat) : rest w j < 2 ^ 64 := Nat.lt_of_le_of_lt (Nat.mul_div_le _ _) h
theorem rest_step {w j : Nat} (hw : w < 2 ^ 64) (h0 : rest w j ≠ 0) : j ≤ tzN (rest w j) ∧ tzN (rest w j) < 64 ∧ w.testBit (tzN (rest w j)) = true ∧ (∀ i, j ≤ i → i < tzN (rest w j) → w.testBit i = false) ∧ rest w j &&& (rest w j - 1) = rest w (tzN (rest w j) + 1) := by
  obtain ⟨q, h⟩ := tzN_spec h0
  generalize tzN (rest w j) = t at *
  have ht := tz_lt h (rest_lt hw j)
  have bit : ∀ i, (rest w j).testBit i = (decide (t ≤ i) && (2 * q + 1).testBit (i - t)) := fun i => by rw [h, Nat.testBit_two_pow_mul]
  have b1 : (rest w j).testBit t = true := by rw [bit]; simp
  rw [rest_bit] at b1
  simp only [Bool.and_eq_true, decide_eq_true_eq] at b1
  refine ⟨b1.1, ht, b1.2, fun i h1 h2 => ?_, ?_⟩
  · have := bit i
    rw [rest_bit, decide_eq_true h1, decide_eq_false (show ¬ t ≤ i by omega)] at this
    simpa using this
  · rw [tz_less h]
    refine Nat.eq_of_testBit_eq fun i => ?_
    rw [rest_bit, Nat.testBit_two_pow_mul]
    by_cases hi : t + 1 ≤ i
    · rw [decide_eq_true hi, Bool.true_and, Bool.true_and]
      have := bit i
      rw [rest_bit, decide_eq_true (show j ≤ i by omega), decide_eq_true (show t ≤ i by omega), Bool.true_and, Bool.true_and] at this
      rw [this, show i - t = (i - (t + 1)) + 1 by omega, Nat.testBit_succ]
      congr 1
      omega
    · rw [decide_eq_false hi]; rfl
theorem ne_of_bne {n : Nat} (h : (((n : Nat) : Int) != 0) = true) : n ≠ 0 := by
  intro e
  subst e
  simp at h
theorem b_less {w j : Nat} (hw : w < 2 ^ 64) (h0 : rest w j ≠ 0) : binP .sub (.int .u64 (rest w j : Nat)) (.int .u64 1) = some (.int .u64 ((rest w j - 1 : Nat) : Int)) := by
  have := rest_lt hw j
  generalize rest w j = a at *
  show some (PV.int .u64 (IntKind.u64.wrap _)) = _
  congr 2
  rw [wrap_u64_of (by omega)]
  omega
theorem b_rest {w j : Nat} (hw : w < 2 ^ 64) (h0 : rest w j ≠ 0) : binP .and (.int .u64 (rest w j : Nat)) (.int .u64 ((rest w j - 1 : Nat) : Int)) = some (.int .u64 (rest w (tzN (rest w j) + 1) : Nat)) := by
  have := rest_lt hw j
  rw [b_and64 this (by omega), (rest_step hw h0).2.2.2.2]
theorem b_tz {k w j : Nat} (hk : k ≤ 16) (hw : w < 2 ^ 64) (h0 : rest w j ≠ 0) : binP .add (.int .i64 ((k : Int) * 64)) (.int .i64 (tzN (rest w j) : Nat)) = some (.int .i64 ((k : Int) * 64 + (tzN (rest w j) : Nat))) := by
  have := (rest_step hw h0).2.1
  exact b_add (by omega)
def bAt (ws : List Nat) (k j : Nat) : List Int := bList (val ws) (64 * k + j : Nat)
theorem bList_skip {v a : Nat} : ∀ (n : Nat), (∀ i, a ≤ i → i < a + n → v.testBit i = false) → bList v ((a + n : Nat) : Int) = bList v (a : Int)
  | 0, _ => rfl
  | n + 1, h => by
    rw [show ((a + (n + 1) : Nat) : Int) = ((a + n : Nat) : Int) + 1 by omega, bList_f (by omega) (by rw [Int.toNat_natCast]; exact h (a + n) (by omega) (by omega))]
    exact bList_skip n fun i h1 h2 => h i h1 (by omega)
theorem val_at {ws : List Nat} (hw : W64 ws) {k i : Nat} (hi : i < 64) : (val ws).testBit (64 * k + i) = (ws.getD k 0).testBit i := by
  rw [val_bit hw, show (64 * k + i) / 64 = k by omega, show (64 * k + i) % 64 = i by omega]
theorem bAt_step {ws : List Nat} (hw : W64 ws) {k j t : Nat} (h1 : j ≤ t) (h2 : t < 64) (h3 : (ws.getD k 0).testBit t = true) (h4 : ∀ i, j ≤ i → i < t → (ws.getD k 0).testBit i = false) : bAt ws k (t + 1) = bAt ws k j ++ [((64 * k + t : Nat) : Int)] := by
  unfold bAt
  rw [show ((64 * k + (t + 1) : Nat) : Int) = ((64 * k + t : Nat) : Int) + 1 by omega, bList_t (by omega) (by rw [Int.toNat_natCast, val_at hw h2]; exact h3)]
  congr 1
  have := bList_skip (v := val ws) (a := 64 * k + j) (t - j) fun i q1 q2 => by
    obtain ⟨r, rfl⟩ : ∃ r, i = 64 * k + r := ⟨i - 64 * k, by omega⟩
    rw [val_at hw (by omega)]
    exact h4 r (by omega) (by omega)
  rwa [show 64 * k + j + (t - j) = 64 * k + t by omega] at this
theorem bAt_next {ws : List Nat} (hw : W64 ws) {k j : Nat} (h1 : j ≤ 64) (h2 : rest (ws.getD k 0) j = 0) : bAt ws k j = bAt ws (k + 1) 0 := by
  unfold bAt
  have := bList_skip (v := val ws) (a := 64 * k + j) (64 - j) fun i q1 q2 => by
    obtain ⟨r, rfl⟩ : ∃ r, i = 64 * k + r := ⟨i - 64 * k, by omega⟩
    rw [val_at hw (by omega)]
    have h3 := rest_bit (ws.getD k 0) j r
    rw [h2, Nat.zero_testBit, decide_eq_true (show j ≤ r by omega), Bool.true_and] at h3
    exact h3.symm
  rw [show 64 * k + j + (64 - j) = 64 * (k + 1) + 0 by omega] at this
  exact this.symm
theorem bAt_all {n : Int} {ws : List Nat} (hl : ws.length = wN n) (h0 : 0 ≤ n) (hv : val ws < 2 ^ n.toNat) : bAt ws ws.length 0 = bList (val ws) n := by
  unfold bAt
  have hle := wN_le h0
  have := bList_skip (v := val ws) (a := n.toNat) (64 * ws.length - n.toNat) fun i q1 q2 => testBit_ge hv q1
  rw [show n.toNat + (64 * ws.length - n.toNat) = 64 * ws.length + 0 by omega, Int.toNat_of_nonneg h0] at this
  exact this
theorem bAt_len (ws : List Nat) (k j : Nat) : (bAt ws k j).length ≤ 64 * k + j := by
  have := bList_len (val ws) ((64 * k + j : Nat) : Int) (by omega)
  unfold bAt
  omega
end Go.Vm
namespace Go.Vm
open Go
theorem take_snocN2 {l : List Int} {k : Nat} (h : k < l.length) : l.take (k + 1) = l.take k ++ [l.getD k 0] := by
  rw [List.take_add_one, List.getElem?_eq_getElem h, List.getD_eq_getElem?_getD, List.getElem?_eq_getElem h]; rfl
theorem bList_mem {v : Nat} {N x : Int} (h : x ∈ bList v N) : 0 ≤ x ∧ x < N ∧ v.testBit x.toNat = true := by
  simp only [bList, List.mem_map, List.mem_filter, List.mem_range] at h
  obtain ⟨j, ⟨h1, h2⟩, rfl⟩ := h
  exact ⟨by omega, by omega, by rw [Int.toNat_natCast]; exact h2⟩
theorem bList_at {v : Nat} {N : Int} {k : Nat} (h : k < (bList v N).length) : 0 ≤ (bList v N).getD k 0 ∧ (bList v N).getD k 0 < N ∧ v.testBit ((bList v N).getD k 0).toNat = true := by
  refine bList_mem ?_
  rw [List.getD_eq_getElem?_getD, List.getElem?_eq_getElem h, Option.getD_some]
  exact List.getElem_mem h
theorem bList_rise {v : Nat} {N : Int} {j k : Nat} (hj : j < k) (h : k < (bList v N).length) : (bList v N).getD j 0 < (bList v N).getD k 0 := by
  have hp : (bList v N).Pairwise (· < ·) := by
    unfold bList
    rw [List.pairwise_map]
    refine List.Pairwise.imp (R := fun a b : Nat => a < b) (fun h => by omega) ?_
    exact List.Pairwise.filter _ List.pairwise_lt_range
  have := List.pairwise_iff_getElem.1 hp j k (by omega) h hj
  rw [List.getD_eq_getElem?_getD, List.getD_eq_getElem?_getD, List.getElem?_eq_getElem h, List.getElem?_eq_getElem (show j < _ by omega)]
  exact this
theorem bList_cn {N : Int} {v : Nat} (h : Ok N v) : (bList v N).length = cn v := by
  unfold bList cn
  rw [List.length_map, pop_more h.lt (by have := h.r; omega), pop_bit, List.countP_eq_length_filter]
theorem wout_list {N : Int} {v : Nat} {i : Int} (h : Ok N v) : ofV N ((bList v N).filter fun x => x != i) = vWout N v i := by
  refine Nat.eq_of_testBit_eq fun j => ?_
  rw [ofV_bit, vWout]
  have hv : v.testBit j = (bList v N).any (fun x => decide (0 ≤ x ∧ x < N ∧ j = x.toNat)) := by
    rw [← ofV_bit, ofV_bList h]
  have hr : (if 0 ≤ i ∧ i < N then minus v (2 ^ i.toNat) else v).testBit j = (v.testBit j && !decide (0 ≤ i ∧ i < N ∧ j = i.toNat)) := by
    by_cases hi : 0 ≤ i ∧ i < N
    · rw [if_pos hi, minus_bit, bit_pow]
      congr 2
      exact decide_eq_decide.mpr ⟨fun h => ⟨hi.1, hi.2, h⟩, fun h => h.2.2⟩
    · rw [if_neg hi, decide_eq_false (fun h => hi ⟨h.1, h.2.1⟩)]
      simp
  rw [hr, hv, Bool.eq_iff_iff]
  simp only [List.any_eq_true, List.mem_filter, decide_eq_true_eq, Bool.and_eq_true, Bool.not_eq_true', decide_eq_false_iff_not, bne_iff_ne, ne_eq]
  constructor
  · rintro ⟨x, ⟨h1, h2⟩, h3⟩
    exact ⟨⟨x, h1, h3⟩, fun h4 => h2 (by omega)⟩
  · rintro ⟨⟨x, h1, h3⟩, h4⟩
    exact ⟨x, ⟨h1, fun e => h4 ⟨by omega, by omega, by omega⟩⟩, h3⟩
end Go.Vm
end
section
/-! Changes done: what package apply says, in plain words; a program that may be stays one. -/
set_option maxRecDepth 100000
set_option linter.unusedSimpArgs false
set_option linter.unusedVariables false
namespace Go.Vm
open Go
/-! ### What may be, told as propositions -/
def Up (l : List Int) : Prop := l.Pairwise (· < ·)
structure OkB (p : List Fn) (f : Fn) (x : Bk) : Prop where
  dead : x.live = false → x.code = [] ∧ x.succ = []
  up : Up x.succ
  to : ∀ b ∈ x.succ, liveF f b = true
  len : x.code.length ≤ 16
  code : ∀ i ∈ x.code, okI p f i = true
structure OkF (p : List Fn) (f : Fn) : Prop where
  sig : bad4 f = false
  one : 1 ≤ f.bs.length
  top : f.bs.length ≤ 12
  fst : (f.bs.getD 0 B0).live = true
  lst : (f.bs.getD (f.bs.length - 1) B0).live = true
  bs : ∀ x ∈ f.bs, OkB p f x
structure OkP (p : List Fn) : Prop where
  len : p.length ≤ 6
  fs : ∀ f ∈ p, OkF p f
  ids : (idsP p).Nodup
theorem okI_sig {p q : List Fn} {f g : Fn} (hl : q.length = p.length) (ha : ∀ j, (q.getD j F0).ar = (p.getD j F0).ar) (hv : g.vs = f.vs) (i : In) : okI q g i = okI p f i := by
  unfold okI
  rw [hl, ha, hv]
theorem OkB.sig {p q : List Fn} {f : Fn} {x : Bk} (hl : q.length = p.length) (ha : ∀ j, (q.getD j F0).ar = (p.getD j F0).ar) (h : OkB p f x) : OkB q f x :=
  ⟨h.dead, h.up, h.to, h.len, fun i hi => by rw [okI_sig hl ha rfl]; exact h.code i hi⟩
theorem OkB.mono {p : List Fn} {f g : Fn} {x : Bk} (h : OkB p f x) (hv : g.vs = f.vs) (hl : ∀ b, liveF f b = true → liveF g b = true) : OkB p g x :=
  ⟨h.dead, h.up, fun b hb => hl b (h.to b hb), h.len, fun i hi => by rw [okI_sig rfl (fun _ => rfl) hv]; exact h.code i hi⟩
structure InsF (p : List Fn) (e : Ed) (g : Fn) : Prop where
  live : liveF g e.b = true
  pos : 0 ≤ e.pos ∧ e.pos.toNat ≤ (g.bs.getD e.b.toNat B0).code.length
  id0 : e.i.id = 0
  form : form e.i = true
  ok : okI p g { e.i with id := newIdV p } = true
  len : (g.bs.getD e.b.toNat B0).code.length < 16
  new : 0 ≤ newIdV p ∧ newIdV p ≤ 95 ∧ newIdV p ∉ idsP p
end Go.Vm
end
