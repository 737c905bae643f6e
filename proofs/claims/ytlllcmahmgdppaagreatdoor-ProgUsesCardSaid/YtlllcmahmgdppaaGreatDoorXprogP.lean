/- Laid. -/
import Derived.Test.YtlllcmahmgdppaaGreatDoorVmThree
import Derived.KernelRfl
import Derived.Test.YtlllcmahmgdppaaGreatDoorProg
import Derived.Test.YtlllcmahmgdppaaGreatDoorXprogO
import Derived.Test.YtlllcmahmgdppaaGreatDoorLAll
section
/- Code. -/
set_option maxRecDepth 100000
set_option linter.unusedSimpArgs false
set_option linter.unusedVariables false
namespace Go.Vm
open Go
def c3 : RFn := ⟨(.seq (rf (.o 1 (.box (.t 0)) (.o 2 (.move (.c (.bool false))) .nil))) (.seq (rf (.o 17 (.call 11 []) (.o 3 (.m 17) .nil))) (.seq (.seq (rf (.o 18 (.load (some 1) (.t 1)) (.o 19 (.call 12 [(.t 18)]) (.o 20 (.un .not (.t 19)) (.o 21 (.m 20) (.grd 21 false (.o 22 (.load (some 1) (.t 1)) (.o 23 (.call 13 [(.t 22)]) (.o 24 (.un .not (.t 23)) .nil))) (.o 25 (.pick (.t 21) (.c (.bool true)) (.t 24)) .nil))))))) (.cond (.t 25) (.seq (rf (.o 26 (.m 3) (.o 2 (.m 26) .nil))) .ret) .skip)) (.seq (rf (.o 4 (.move (.i 0)) .nil)) (.seq (rf (.o 5 (.move (.i 0)) .nil)) (.seq (.seq (rf (.o 6 (.move (.i 0)) .nil)) (.block 0 (.loop (.seq (.seq (rf (.o 27 (.m 6) (.o 28 (.fieldAddr 0 (.t 1)) (.o 29 (.load none (.t 28)) (.o 30 (.len false (.t 29)) (.o 31 (.bin .lss (.t 27) (.t 30)) .nil)))))) (.cond (.t 31) .skip (.exit 0))) (.seq (.block 1 (.seq (rf (.o 34 (.m 5) (.o 35 (.load (some 1) (.t 1)) (.o 36 (.m 6) (.o 37 (.call 14 [(.t 35), (.t 36)]) (.o 38 (.len false (.t 37)) (.o 39 (.bin .add (.t 34) (.t 38)) (.o 5 (.m 39) .nil)))))))) (.seq (rf (.o 7 (.move (.i 0)) .nil)) (.seq (.seq (rf (.o 8 (.move (.i 0)) .nil)) (.block 2 (.loop (.seq (.seq (rf (.o 40 (.m 8) (.o 41 (.fieldAddr 0 (.t 1)) (.o 42 (.load none (.t 41)) (.o 43 (.m 6) (.o 44 (.idxAddr 3 (.t 42) (.t 43)) (.o 45 (.fieldAddr 1 (.t 44)) (.o 46 (.load none (.t 45)) (.o 47 (.bin .lss (.t 40) (.t 46)) .nil))))))))) (.cond (.t 47) .skip (.exit 2))) (.seq (.block 3 (rf (.o 50 (.m 7) (.o 51 (.load (some 1) (.t 1)) (.o 52 (.m 6) (.o 53 (.m 8) (.o 54 (.call 15 [(.t 51), (.t 52), (.t 53)]) (.o 55 (.len false (.t 54)) (.o 56 (.bin .add (.t 50) (.t 55)) (.o 7 (.m 56) .nil)))))))))) (rf (.o 48 (.m 8) (.o 49 (.bin .add (.t 48) (.i 1)) (.o 8 (.m 49) .nil))))))))) (.seq (.seq (rf (.o 9 (.move (.i 0)) .nil)) (.block 4 (.loop (.seq (.seq (rf (.o 57 (.m 9) (.o 58 (.fieldAddr 0 (.t 1)) (.o 59 (.load none (.t 58)) (.o 60 (.m 6) (.o 61 (.idxAddr 3 (.t 59) (.t 60)) (.o 62 (.fieldAddr 2 (.t 61)) (.o 63 (.load none (.t 62)) (.o 64 (.len false (.t 63)) (.o 65 (.bin .lss (.t 57) (.t 64)) .nil)))))))))) (.cond (.t 65) .skip (.exit 4))) (.seq (.block 5 (.seq (rf (.o 10 (.move (.i 0)) .nil)) (.block 6 (.loop (.seq (.seq (rf (.o 68 (.m 10) (.o 69 (.fieldAddr 0 (.t 1)) (.o 70 (.load none (.t 69)) (.o 71 (.m 6) (.o 72 (.idxAddr 3 (.t 70) (.t 71)) (.o 73 (.fieldAddr 2 (.t 72)) (.o 74 (.load none (.t 73)) (.o 75 (.m 9) (.o 76 (.idxAddr 3 (.t 74) (.t 75)) (.o 77 (.fieldAddr 1 (.t 76)) (.o 78 (.load none (.t 77)) (.o 79 (.len false (.t 78)) (.o 80 (.bin .lss (.t 68) (.t 79)) .nil)))))))))))))) (.cond (.t 80) .skip (.exit 6))) (.seq (.block 7 (.seq (rf (.o 84 (.load (some 1) (.t 1)) (.o 85 (.m 6) (.o 86 (.m 9) (.o 87 (.m 10) (.o 88 (.call 16 [(.t 84), (.t 85), (.t 86), (.t 87)]) (.o 83 (.m 88) (.o 89 (.extract 0 (.t 83)) (.o 90 (.extract 1 (.t 83)) (.o 11 (.alloc (.agg [(.int .i64 0), (.int .i64 0), (.int .i64 0), (.int .i64 0), (.int .i64 0), (.int .i64 0), (.int .i64 0), (.int .i64 0), (.int .i64 0), (.int .i64 0), (.int .i64 0)])) (.op none (.store 11 (.t 11) (.t 89)) 0 (.o 12 (.m 90) .nil)))))))))))) (.seq (rf (.o 91 (.load (some 11) (.t 11)) (.o 92 (.call 17 [(.t 91)]) (.o 13 (.m 92) .nil)))) (.seq (.seq (rt (.o 93 (.m 12) (.op (some 94) (.un .not (.t 93)) 1 (.op (some 95) (.m 94) 3 (.grd 95 false (.op (some 96) (.m 13) 7 (.op (some 97) (.len false (.t 96)) 15 (.op (some 98) (.bin .gtr (.t 97) (.i 0)) 31 (.op (some 99) (.m 98) 63 (.grd 99 true (.op (some 100) (.m 13) 127 (.op (some 101) (.m 13) 127 (.op (some 102) (.len false (.t 101)) 383 (.op (some 103) (.bin .sub (.t 102) (.i 1)) 895 (.op (some 104) (.idxAddr 1 (.t 100) (.t 103)) 2047 (.op (some 105) (.load none (.t 104)) 4095 (.op (some 106) (.fieldAddr 0 (.t 1)) 127 (.op (some 107) (.load none (.t 106)) 8319 (.op (some 108) (.m 6) 127 (.op (some 109) (.idxAddr 3 (.t 107) (.t 108)) 57471 (.op (some 110) (.fieldAddr 1 (.t 109)) 123007 (.op (some 111) (.load none (.t 110)) 254079 (.op (some 112) (.bin .geq (.t 105) (.t 111)) 524287 .nil))))))))))))) (.op (some 113) (.pick (.t 99) (.t 112) (.c (.bool false))) 1048575 .nil)))))) (.op (some 114) (.pick (.t 95) (.c (.bool true)) (.t 113)) 2097151 .nil)))))) (.cond (.t 114) (.seq (rf (.o 2 (.move (.c (.bool false))) .nil)) .ret) .skip)) (.seq (.seq (rf (.o 115 (.fieldAddr 1 (.t 11)) (.o 116 (.load none (.t 115)) (.o 117 (.bin .eql (.t 116) (.i 7)) .nil)))) (.cond (.t 117) (rf (.o 118 (.m 4) (.o 119 (.bin .add (.t 118) (.i 1)) (.o 4 (.m 119) .nil)))) .skip)) (.seq (rf (.o 120 (.load (some 11) (.t 11)) (.o 121 (.call 18 [(.t 120)]) (.o 122 (.bin .geq (.t 121) (.i 0)) .nil)))) (.cond (.t 122) (rf (.o 123 (.m 7) (.o 124 (.bin .sub (.t 123) (.i 1)) (.o 7 (.m 124) .nil)))) .skip))))))) (rf (.o 81 (.m 10) (.o 82 (.bin .add (.t 81) (.i 1)) (.o 10 (.m 82) .nil)))))))))) (rf (.o 66 (.m 9) (.o 67 (.bin .add (.t 66) (.i 1)) (.o 9 (.m 67) .nil))))))))) (.seq (rf (.o 125 (.m 7) (.o 126 (.bin .neq (.t 125) (.i 0)) .nil))) (.cond (.t 126) (.seq (rf (.o 2 (.move (.c (.bool false))) .nil)) .ret) .skip))))))) (rf (.o 32 (.m 6) (.o 33 (.bin .add (.t 32) (.i 1)) (.o 6 (.m 33) .nil))))))))) (.seq (rf (.o 128 (.load (some 1) (.t 1)) (.o 129 (.call 19 [(.t 128)]) (.o 127 (.m 129) (.o 130 (.extract 0 (.t 127)) (.o 131 (.extract 1 (.t 127)) (.o 132 (.extract 2 (.t 127)) (.o 14 (.m 130) (.o 15 (.m 131) (.o 16 (.m 132) .nil)))))))))) (.seq (rf (.o 133 (.m 3) (.o 134 (.m 133) (.grd 134 true (.o 135 (.m 4) (.o 136 (.m 5) (.o 137 (.bin .eql (.t 135) (.t 136)) .nil))) (.o 138 (.pick (.t 134) (.t 137) (.c (.bool false))) (.o 139 (.m 138) (.grd 139 true (.o 140 (.m 16) (.o 141 (.load (some 1) (.t 1)) (.o 142 (.call 20 [(.t 141)]) (.o 143 (.len false (.t 142)) (.o 144 (.bin .eql (.t 140) (.t 143)) .nil))))) (.o 145 (.pick (.t 139) (.t 144) (.c (.bool false))) (.o 146 (.m 145) (.grd 146 true (.o 147 (.m 16) (.o 148 (.bin .leq (.t 147) (.i 96)) .nil)) (.o 149 (.pick (.t 146) (.t 148) (.c (.bool false))) (.o 2 (.m 149) .nil)))))))))))) .ret)))))))), [.tmp 2]⟩
theorem b3 : fnOf Go.Proofs.Tryz.prog (owOf []) 3 = some c3 := by kernel_rfl
end Go.Vm
end
section
/- Walks. -/
set_option maxRecDepth 100000
set_option linter.unusedSimpArgs false
set_option linter.unusedVariables false
namespace Go.Vm
open Go
set_option maxHeartbeats 4000000
theorem ins_96 {p : List Fn} (sp : sane p = true) : (insP p).length ≤ 96 := by
  have hd : (idsP p).Nodup := by
    simp only [sane, Bool.and_eq_true, decide_eq_true_eq] at sp
    exact sp.2
  have hr : ∀ x ∈ idsP p, 0 ≤ x ∧ x < ((96 : Nat) : Int) := fun x hx => by
    rw [ids_all, List.mem_map] at hx
    obtain ⟨a, ha, rfl⟩ := hx
    have := (form_iff _).1 (ins_form sp ha)
    omega
  have h1 := count_in hd hr
  have h2 := List.countP_le_length (l := List.range 96) (p := fun i : Nat => (idsP p).contains (i : Int))
  rw [h1, List.length_range, ids_all, List.length_map] at h2
  exact h2
theorem ins_ok {p : List Fn} (sp : sane p = true) {f : Fn} (hf : f ∈ p) {a : In} (h : a ∈ insF f) : okI p f a = true := by
  simp only [insF, List.mem_flatMap] at h
  obtain ⟨b, hb, ha⟩ := h
  have h3 := okF_blk (sane_ok sp hf) hb
  simp only [okB, bad3, Bool.and_eq_true, Bool.not_eq_true', Bool.or_eq_false_iff] at h3
  have h4 := List.any_eq_false.1 h3.2.2 a ha
  simpa using h4
theorem okI_vars {p : List Fn} {f : Fn} {a : In} (h : okI p f a = true) : ∀ v ∈ varsI a, v < f.vs := by
  simp only [okI, Bool.and_eq_true, Bool.not_eq_true'] at h
  intro v hv
  have := List.any_eq_false.1 h.1.2 v hv
  simpa using this
theorem varsI_def {a : In} (h : 0 ≤ defI a) : defI a ∈ varsI a := by
  rw [varsI]
  have h1 : (if defI a = -1 then usesI a else usesI a ++ [defI a]) = usesI a ++ [defI a] := if_neg (by omega)
  simp only [h1]
  rw [(cp_spec _ _ rfl (srt_all _).2).2, (srt_all _).1.mem_iff]
  simp
theorem vs_bd {p : List Fn} {f : Fn} (h : okF p f = true) : 0 ≤ f.vs ∧ f.vs ≤ 6 := by
  simp only [okF, bad4, Bool.and_eq_true, Bool.not_eq_true', Bool.or_eq_false_iff, decide_eq_false_iff_not] at h
  omega
theorem blk_live {p : List Fn} {f : Fn} {x : Bk} (h : okB p f x = true) (hc : 0 < x.code.length) : x.live = true := by
  cases hl : x.live with
  | true => rfl
  | false =>
    simp only [okB, bad1, hl, Bool.and_eq_true, Bool.not_eq_true', Bool.not_false, Bool.true_and, decide_eq_false_iff_not] at h
    omega
theorem at_code {p : List Fn} (sp : sane p = true) {f b k : Nat} (hf : f < p.length) (hb : b < (p.getD f F0).bs.length) (hk : k < ((p.getD f F0).bs.getD b B0).code.length) : atV p (f : Int) (b : Int) (k : Int) = some (((p.getD f F0).bs.getD b B0).code.getD k i0) := by
  have e1 : funV p (f : Int) = some (p.getD f F0) := by rw [funV, if_pos ⟨sp, by omega, by omega⟩, Int.toNat_natCast]
  have hl := blk_live (okF_blk (sane_ok sp (getD_mem F0 hf)) (getD_mem B0 hb)) (by omega)
  have e2 : blkV p (f : Int) (b : Int) = some ((p.getD f F0).bs.getD b B0) := by
    rw [blkV, e1, Option.getD_some, if_pos, Int.toNat_natCast]
    rw [liveF, Int.toNat_natCast, hl, decide_eq_true (by omega), decide_eq_true (by omega)]; rfl
  rw [atV, e2, Option.getD_some, if_pos (by omega), Int.toNat_natCast]
def foS (l : List In) (n : Nat) : Nat := ((List.range n).map fun i : Nat => l.countP (isCl (i : Int))).sum
theorem foS_s (l : List In) (n : Nat) : foS l (n + 1) = foS l n + l.countP (isCl (n : Int)) := by simp [foS, List.range_succ, List.sum_append]
def seS (l : List In) (n : Nat) : Nat := ((List.range n).map fun i : Nat => l.countP fun a => defI a == (i : Int)).sum
theorem seS_s (l : List In) (n : Nat) : seS l (n + 1) = seS l n + l.countP (fun a => defI a == (n : Int)) := by simp [seS, List.range_succ, List.sum_append]
abbrev isK : In → Bool := fun a => a.kind == 7
abbrev isD : In → Bool := fun a => decide (defI a ≥ 0)
def cdB (f : Fn) (b : Nat) : List In := (f.bs.take b).flatMap (·.code)
def cdK (f : Fn) (b k : Nat) : List In := cdB f b ++ (f.bs.getD b B0).code.take k
theorem cd_z (f : Fn) (b : Nat) : cdK f b 0 = cdB f b := by simp [cdK]
theorem cd_s {f : Fn} {b k : Nat} (h : k < (f.bs.getD b B0).code.length) : cdK f b (k + 1) = cdK f b k ++ [(f.bs.getD b B0).code.getD k i0] := by
  rw [cdK, cdK, take_snocI h, List.append_assoc]
theorem cd_n {f : Fn} {b k : Nat} (hb : b < f.bs.length) (h : ¬ k < (f.bs.getD b B0).code.length) : cdK f b k = cdB f (b + 1) := by
  rw [cdK, cdB, cdB, take_flat _ B0 hb, List.take_of_length_le (show (f.bs.getD b B0).code.length ≤ k by omega)]
theorem cd_all (f : Fn) : cdB f f.bs.length = insF f := by rw [cdB, List.take_length]; rfl
theorem cd_le {f : Fn} (h1 : f.bs.length ≤ 20) (h2 : ∀ j, (f.bs.getD j B0).code.length ≤ 30) (b k : Nat) : (cdK f b k).length ≤ 700 := by
  have := flat_le (l := f.bs.take b) (g := fun b : Bk => b.code) (c := 30) fun x hx => by
    obtain ⟨j, hj, rfl⟩ := List.mem_iff_getElem.1 (List.mem_of_mem_take hx)
    have := h2 j
    rwa [List.getD_eq_getElem?_getD, List.getElem?_eq_getElem hj, Option.getD_some] at this
  rw [List.length_take] at this
  have h3 := h2 b
  rw [cdK, List.length_append, cdB, List.length_take]
  omega
theorem cnt_s (q : In → Bool) (l : List In) (a : In) : (l ++ [a]).countP q = l.countP q + if q a then 1 else 0 := by
  rw [List.countP_append, List.countP_singleton]
structure UsesF (p : List Fn) : Prop where
  hvs : ∀ f, f < p.length → 0 ≤ (p.getD f F0).vs ∧ (p.getD f F0).vs ≤ 6
  eCl : ∀ f : Nat, f < p.length → (callsV p (f : Int)).length = (insP p).countP (isCl (f : Int))
  eDf : ∀ f v : Nat, f < p.length → (defsV p (f : Int) (v : Int)).length = (insF (p.getD f F0)).countP fun a => defI a == (v : Int)
  hD1 : ∀ f v : Nat, f < p.length → (defsV p (f : Int) (v : Int)).length ≤ 600
  hC1 : ∀ f : Nat, (callsV p (f : Int)).length ≤ 10000
  hla : ∀ f b k, f < p.length → b < (p.getD f F0).bs.length → k < ((p.getD f F0).bs.getD b B0).code.length → ∀ n : Int, 0 ≤ n → n < (((varsI (((p.getD f F0).bs.getD b B0).code.getD k i0)).length : Nat) : Int) → (varsI (((p.getD f F0).bs.getD b B0).code.getD k i0)).getD n.toNat 0 < (p.getD f F0).vs
  h70 : ∀ (q : In → Bool) f b k, (cdK (p.getD f F0) b k).countP q ≤ 700
  hK1 : ∀ f b k, b < (p.getD f F0).bs.length → k < ((p.getD f F0).bs.getD b B0).code.length → ((((p.getD f F0).bs.getD b B0).code.getD k i0).kind == 7) = true → (cdK (p.getD f F0) b (k + 1)).countP isK = (cdK (p.getD f F0) b k).countP isK + 1
  hK0 : ∀ f b k, b < (p.getD f F0).bs.length → k < ((p.getD f F0).bs.getD b B0).code.length → ((((p.getD f F0).bs.getD b B0).code.getD k i0).kind == 7) = false → (cdK (p.getD f F0) b (k + 1)).countP isK = (cdK (p.getD f F0) b k).countP isK
  hQ1 : ∀ f b k, b < (p.getD f F0).bs.length → k < ((p.getD f F0).bs.getD b B0).code.length → defI (((p.getD f F0).bs.getD b B0).code.getD k i0) ≥ 0 → (cdK (p.getD f F0) b (k + 1)).countP isD = (cdK (p.getD f F0) b k).countP isD + 1
  hQ0 : ∀ f b k, b < (p.getD f F0).bs.length → k < ((p.getD f F0).bs.getD b B0).code.length → ¬ defI (((p.getD f F0).bs.getD b B0).code.getD k i0) ≥ 0 → (cdK (p.getD f F0) b (k + 1)).countP isD = (cdK (p.getD f F0) b k).countP isD
  hset : ∀ f v : Nat, f < p.length → (v : Int) = (p.getD f F0).vs → seS (insF (p.getD f F0)) v = (insF (p.getD f F0)).countP isD
  hall : foS (insP p) p.length = (insP p).countP isK
  hal : ∀ f, f < p.length → (alT1 p (f + 1)).countP isK = (alT1 p f).countP isK + (insF (p.getD f F0)).countP isK
  hka : ∀ f, (alT1 p f).countP isK ≤ 6000
  hi96 : ∀ q : In → Bool, (insP p).countP q ≤ 96
  h96 : (insP p).length ≤ 96
  hvl : ∀ f b k, (varsI (((p.getD f F0).bs.getD b B0).code.getD k i0)).length ≤ 100000
  hfw : ∀ f, (p.getD f F0).bs.length ≤ 20 ∧ ∀ j, ((p.getD f F0).bs.getD j B0).code.length ≤ 30 ∧ ((p.getD f F0).bs.getD j B0).succ.length ≤ 30
theorem usesF {p : List Fn} (hf : few p = true) (sp : sane p = true) : UsesF p := by
  have hl := (few_bs hf).1
  have h96 := ins_96 sp
  have hfun : ∀ f : Nat, f < p.length → funV p (f : Int) = some (p.getD f F0) := fun f hf => by rw [funV, if_pos ⟨sp, by omega, by omega⟩, Int.toNat_natCast]
  have eCl : ∀ f : Nat, f < p.length → (callsV p (f : Int)).length = (insP p).countP (isCl (f : Int)) := fun f hf => calls_len (by rw [hfun f hf]; rfl)
  have eDf : ∀ f v : Nat, f < p.length → (defsV p (f : Int) (v : Int)).length = (insF (p.getD f F0)).countP fun a => defI a == (v : Int) := fun f v hf => defs_len (hfun f hf) (by omega)
  have hvs : ∀ f, f < p.length → 0 ≤ (p.getD f F0).vs ∧ (p.getD f F0).vs ≤ 6 := fun f hf => vs_bd (sane_ok sp (getD_mem F0 hf))
  have hok : ∀ f, f < p.length → ∀ a ∈ insF (p.getD f F0), okI p (p.getD f F0) a = true := fun f hf a ha => ins_ok sp (getD_mem F0 hf) ha
  have hcdm : ∀ f b k, b < (p.getD f F0).bs.length → k < ((p.getD f F0).bs.getD b B0).code.length → ((p.getD f F0).bs.getD b B0).code.getD k i0 ∈ insF (p.getD f F0) := fun f b k h1 h2 => by
    rw [insF, List.mem_flatMap]
    exact ⟨_, getD_mem B0 h1, getD_mem i0 h2⟩
  have hfw := fun f => few_at hf f
  have hle := fun f b k => cd_le (hfw f).1 (fun j => ((hfw f).2 j).1) b k
  have hcl : ∀ (q : In → Bool) (l : List In), l.countP q ≤ l.length := fun q l => List.countP_le_length
  have hvl : ∀ f b k, (varsI (((p.getD f F0).bs.getD b B0).code.getD k i0)).length ≤ 100000 := fun f b k => vars_len5 _
  have ht1 : ∀ f, (alT1 p f).length ≤ 6000 := fun f => alT1_le hf f
  have hD1 : ∀ f v : Nat, f < p.length → (defsV p (f : Int) (v : Int)).length ≤ 600 := fun f v hf' => by
    rw [eDf f v hf']
    exact Nat.le_trans List.countP_le_length (insF_le (hfw f).1 fun b hb => by
      obtain ⟨j, hj, rfl⟩ := List.mem_iff_getElem.1 hb
      have := ((hfw f).2 j).1
      rwa [List.getD_eq_getElem?_getD, List.getElem?_eq_getElem hj, Option.getD_some] at this)
  have hC1 : ∀ f : Nat, (callsV p (f : Int)).length ≤ 10000 := fun f => by
    rw [callsV]
    split
    · have := em1_le (g := clG p (f : Int)) hf (clG_le p (f : Int)) p.length
      omega
    · exact Nat.zero_le _
  have hla : ∀ f b k, f < p.length → b < (p.getD f F0).bs.length → k < ((p.getD f F0).bs.getD b B0).code.length → ∀ n : Int, 0 ≤ n → n < (((varsI (((p.getD f F0).bs.getD b B0).code.getD k i0)).length : Nat) : Int) → (varsI (((p.getD f F0).bs.getD b B0).code.getD k i0)).getD n.toNat 0 < (p.getD f F0).vs := fun f b k h1 h2 h3 n h4 h5 => okI_vars (hok f h1 _ (hcdm f b k h2 h3)) _ (getD_mem 0 (by omega))
  have hst : ∀ (q : In → Bool) f b k, b < (p.getD f F0).bs.length → k < ((p.getD f F0).bs.getD b B0).code.length → (cdK (p.getD f F0) b (k + 1)).countP q = (cdK (p.getD f F0) b k).countP q + if q (((p.getD f F0).bs.getD b B0).code.getD k i0) then 1 else 0 := fun q f b k h1 h2 => by rw [cd_s h2, cnt_s]
  have h70 : ∀ (q : In → Bool) f b k, (cdK (p.getD f F0) b k).countP q ≤ 700 := fun q f b k => Nat.le_trans List.countP_le_length (hle f b k)
  have hK1 : ∀ f b k, b < (p.getD f F0).bs.length → k < ((p.getD f F0).bs.getD b B0).code.length → ((((p.getD f F0).bs.getD b B0).code.getD k i0).kind == 7) = true → (cdK (p.getD f F0) b (k + 1)).countP isK = (cdK (p.getD f F0) b k).countP isK + 1 := fun f b k h1 h2 h3 => by rw [hst isK f b k h1 h2, if_pos h3]
  have hK0 : ∀ f b k, b < (p.getD f F0).bs.length → k < ((p.getD f F0).bs.getD b B0).code.length → ((((p.getD f F0).bs.getD b B0).code.getD k i0).kind == 7) = false → (cdK (p.getD f F0) b (k + 1)).countP isK = (cdK (p.getD f F0) b k).countP isK := fun f b k h1 h2 h3 => by rw [hst isK f b k h1 h2, if_neg (by show ¬ ((_ == _) = true); rw [h3]; simp)]; rfl
  have hQ1 : ∀ f b k, b < (p.getD f F0).bs.length → k < ((p.getD f F0).bs.getD b B0).code.length → defI (((p.getD f F0).bs.getD b B0).code.getD k i0) ≥ 0 → (cdK (p.getD f F0) b (k + 1)).countP isD = (cdK (p.getD f F0) b k).countP isD + 1 := fun f b k h1 h2 h3 => by rw [hst isD f b k h1 h2, if_pos (decide_eq_true h3)]
  have hQ0 : ∀ f b k, b < (p.getD f F0).bs.length → k < ((p.getD f F0).bs.getD b B0).code.length → ¬ defI (((p.getD f F0).bs.getD b B0).code.getD k i0) ≥ 0 → (cdK (p.getD f F0) b (k + 1)).countP isD = (cdK (p.getD f F0) b k).countP isD := fun f b k h1 h2 h3 => by rw [hst isD f b k h1 h2, if_neg (by simpa using h3)]; rfl
  have hset : ∀ f v : Nat, f < p.length → (v : Int) = (p.getD f F0).vs → seS (insF (p.getD f F0)) v = (insF (p.getD f F0)).countP isD := fun f v h1 h2 => sets_all fun a ha h0 => by
    have := okI_vars (hok f h1 a ha) _ (varsI_def h0)
    omega
  have hall : foS (insP p) p.length = (insP p).countP isK := calls_all fun a ha hk => by
    simp only [insP, List.mem_flatMap] at ha
    obtain ⟨f, hf', ha⟩ := ha
    have h1 := ins_ok sp hf' ha
    have h2 := form_call (ins_form sp (by rw [insP, List.mem_flatMap]; exact ⟨f, hf', ha⟩)) hk
    refine ⟨h2, ?_⟩
    simp only [okI, Bool.and_eq_true, Bool.or_eq_true, bne_iff_ne, decide_eq_true_eq] at h1
    rcases h1.2 with h3 | h3
    · exact absurd hk h3
    · exact h3.1
  have hal : ∀ f, f < p.length → (alT1 p (f + 1)).countP isK = (alT1 p f).countP isK + (insF (p.getD f F0)).countP isK := fun f h => by
    have : alT1 p (f + 1) = alT1 p f ++ insF (p.getD f F0) := by rw [alT1, alT1, insP, insP, take_flat insF F0 h]
    rw [this, List.countP_append]
  have hka : ∀ f, (alT1 p f).countP isK ≤ 6000 := fun f => Nat.le_trans List.countP_le_length (ht1 f)
  have hi96 : ∀ q : In → Bool, (insP p).countP q ≤ 96 := fun q => Nat.le_trans List.countP_le_length h96
  exact ⟨hvs, eCl, eDf, hD1, hC1, hla, h70, hK1, hK0, hQ1, hQ0, hset, hall, hal, hka, hi96, h96, hvl, hfw⟩
set_option maxHeartbeats 0 in
theorem l_ProgUses (p : List Fn) : Pure Go.Proofs.Tryz.prog glD 3 [pP p] (.bool true) := by
  have hw := p_Few (gl := glD) p
  cases hf : few p with
  | false =>
    rw [hf] at hw
    refine Pure.fn hmix b3 ?_
    repeat' first | (with_reducible first | refine tr_seq ?_ | refine n_nil ?_ | refine seqQ_normal ?_ | refine seqQ_exit ?_ | refine seqQ_ret ?_ | refine blkQ_normal ?_ | refine blkQ_exit ?_ | refine blkQ_ret ?_ | refine tr_block ?_ | refine tr_skip ?_ | refine tr_exit ?_ | refine tr_ret ?_ | refine condT_t ?_ | refine condT_f ?_ | refine loopV_exit ?_ | refine loopV_ret ?_) | ((with_reducible refine tr_region_f ?_ ?_); kernel_rfl) | ((with_reducible refine tr_region_t ?_ ?_ ?_); kernel_rfl; kernel_rfl) | exact ⟨rfl, rfl⟩ | ((with_reducible refine blkQ_exit_ne ?_ ?_); rfl) | ((with_reducible apply tr_cond_e); rfl) | ((with_reducible refine condT_T ?_ ?_); decide +kernel) | ((with_reducible refine condT_F ?_ ?_); decide +kernel) | ((with_reducible apply n_andF); rfl; rfl; decide +kernel) | ((with_reducible apply n_orT); rfl; rfl; decide +kernel) | ((with_reducible apply n_and); rfl; rfl; intro h) | ((with_reducible apply n_or); rfl; rfl; intro h) | with_reducible refine unrQ_normal ?_ | with_reducible refine unrQ_exit ?_ | with_reducible refine unrQ_ret ?_ | ((with_reducible apply n_call (f := 12)); rfl; rfl; exact hw) | ((with_reducible apply n_val); rfl; rfl) | ((with_reducible apply n_new); rfl; (first | (simp only [hn0, hn1, hn2, hn3, hn4, hn5, List.length_cons, List.length_nil, Nat.reduceAdd, Nat.zero_add]; first | done | rfl) | rfl); rfl) | ((with_reducible apply n_store); rfl; rfl; rfl; rfl; rfl) | ((with_reducible apply n_call (f := 11)); rfl; rfl; exact p_awake) | (with_reducible refine condT_split (fun h => ?_) (fun h => ?_)) | ((with_reducible apply fnQ_told_ret); rfl) | ((with_reducible apply fnQ_ret_soft); rfl; rfl)
    all_goals rfl
  | true =>
    rw [hf] at hw
    have hp := few_fit hf
    have hs := p_Sane p hp
    cases sp : sane p with
    | false =>
      rw [sp] at hs
      refine Pure.fn hmix b3 ?_
      repeat' first | (with_reducible first | refine tr_seq ?_ | refine n_nil ?_ | refine seqQ_normal ?_ | refine seqQ_exit ?_ | refine seqQ_ret ?_ | refine blkQ_normal ?_ | refine blkQ_exit ?_ | refine blkQ_ret ?_ | refine tr_block ?_ | refine tr_skip ?_ | refine tr_exit ?_ | refine tr_ret ?_ | refine condT_t ?_ | refine condT_f ?_ | refine loopV_exit ?_ | refine loopV_ret ?_) | ((with_reducible refine tr_region_f ?_ ?_); kernel_rfl) | ((with_reducible refine tr_region_t ?_ ?_ ?_); kernel_rfl; kernel_rfl) | exact ⟨rfl, rfl⟩ | ((with_reducible refine blkQ_exit_ne ?_ ?_); rfl) | ((with_reducible apply tr_cond_e); rfl) | ((with_reducible refine condT_T ?_ ?_); decide +kernel) | ((with_reducible refine condT_F ?_ ?_); decide +kernel) | ((with_reducible apply n_andF); rfl; rfl; decide +kernel) | ((with_reducible apply n_orT); rfl; rfl; decide +kernel) | ((with_reducible apply n_and); rfl; rfl; intro h) | ((with_reducible apply n_or); rfl; rfl; intro h) | with_reducible refine unrQ_normal ?_ | with_reducible refine unrQ_exit ?_ | with_reducible refine unrQ_ret ?_ | ((with_reducible apply n_call (f := 12)); rfl; rfl; exact hw) | ((with_reducible apply n_call (f := 13)); rfl; rfl; exact hs) | ((with_reducible apply n_val); rfl; rfl) | ((with_reducible apply n_new); rfl; (first | (simp only [hn0, hn1, hn2, hn3, hn4, hn5, List.length_cons, List.length_nil, Nat.reduceAdd, Nat.zero_add]; first | done | rfl) | rfl); rfl) | ((with_reducible apply n_store); rfl; rfl; rfl; rfl; rfl) | ((with_reducible apply n_call (f := 11)); rfl; rfl; exact p_awake) | (with_reducible refine condT_split (fun h => ?_) (fun h => ?_)) | ((with_reducible apply fnQ_told_ret); rfl) | ((with_reducible apply fnQ_ret_soft); rfl; rfl)
      all_goals rfl
    | true =>
      rw [sp] at hs
      have hI := p_Instrs (gl := glD) p hf
      have hC := p_Count p hf
      have eC : countV p = (((p.length : Nat) : Int), ((nlF p p.length : Nat) : Int), (((insP p).length : Nat) : Int)) := by rw [countV, if_pos sp]
      rw [eC] at hC
      have hl := (few_bs hf).1
      have U := usesF hf sp
      clear eC
      have hCl : ∀ f : Nat, Pure Go.Proofs.Tryz.prog glD 14 [pP p, .int .i64 (f : Int)] (.sl ((callsV p (f : Int)).map pPs)) := fun f => p_Calls p f hf
      have hDf : ∀ f v : Nat, Pure Go.Proofs.Tryz.prog glD 15 [pP p, .int .i64 (f : Int), .int .i64 (v : Int)] (.sl (ints (defsV p (f : Int) (v : Int)))) := fun f v => p_Defs p f v hf
      have hAt : ∀ f b k : Nat, f < p.length → b < (p.getD f F0).bs.length → k < ((p.getD f F0).bs.getD b B0).code.length → Pure Go.Proofs.Tryz.prog glD 16 [pP p, .int .i64 (f : Int), .int .i64 (b : Int), .int .i64 (k : Int)] (.tup [pI (((p.getD f F0).bs.getD b B0).code.getD k i0), .bool true]) := fun f b k h1 h2 h3 => by
        have := p_At p (f : Int) (b : Int) (k : Int) hp
        rw [at_code sp h1 h2 h3] at this
        exact this
      refine Pure.fn hmix b3 ?_
      repeat' first | (with_reducible first | refine tr_seq ?_ | refine n_nil ?_ | refine seqQ_normal ?_ | refine seqQ_exit ?_ | refine seqQ_ret ?_ | refine blkQ_normal ?_ | refine blkQ_exit ?_ | refine blkQ_ret ?_ | refine tr_block ?_ | refine tr_skip ?_ | refine tr_exit ?_ | refine tr_ret ?_ | refine condT_t ?_ | refine condT_f ?_ | refine loopV_exit ?_ | refine loopV_ret ?_) | ((with_reducible refine tr_region_f ?_ ?_); kernel_rfl) | ((with_reducible refine tr_region_t ?_ ?_ ?_); kernel_rfl; kernel_rfl) | exact ⟨rfl, rfl⟩ | ((with_reducible refine blkQ_exit_ne ?_ ?_); rfl) | ((with_reducible apply tr_cond_e); rfl) | ((with_reducible refine condT_T ?_ ?_); exact rfl) | ((with_reducible refine condT_F ?_ ?_); exact rfl) | ((with_reducible apply n_and); rfl; rfl; intro h) | ((with_reducible apply n_or); rfl; rfl; intro h) | ((with_reducible apply n_call (f := 12)); rfl; rfl; exact hw) | ((with_reducible apply n_call (f := 13)); rfl; rfl; exact hs) | ((with_reducible apply n_call (f := 19)); rfl; rfl; exact hC) | ((with_reducible apply n_call (f := 20)); rfl; rfl; exact hI) | ((with_reducible apply n_call (f := 14)); rfl; rfl; exact hCl f) | ((with_reducible apply n_call (f := 15)); rfl; rfl; exact hDf f v) | ((with_reducible apply n_call (f := 16)); rfl; rfl; exact hAt f b k (by first | omega | decide | (simp only [zz] at *; omega)) (by first | omega | decide | (simp only [zz] at *; omega)) (by first | omega | decide | (simp only [zz] at *; omega))) | ((with_reducible apply n_idx_vals F0); rfl; rfl; exact (fun _ => rfl); (first | omega | decide | (simp only [zz] at *; omega))) | ((with_reducible apply n_idx_vals B0); rfl; rfl; exact (fun _ => rfl); (first | omega | decide | (simp only [zz] at *; omega))) | ((with_reducible apply n_idx_vals i0); rfl; rfl; exact (fun _ => rfl); (first | omega | decide | (simp only [zz] at *; omega))) | ((with_reducible apply n_idx_ints); rfl; rfl; (have q1 := vars_len5 (((p.getD f F0).bs.getD b B0).code.getD k i0); simp only [decide_eq_true_eq, ints_length, Int.toNat_natCast] at h ⊢; omega)) | (first | ((with_reducible apply n_bin); rfl; rfl; focus ((with_reducible (first | apply b_add | apply b_sub)) <;> first | omega | decide | (simp only [zz] at *; omega))) | ((with_reducible apply n_max); rfl; rfl) | ((with_reducible apply n_min); rfl; rfl)) | ((with_reducible apply n_bin); rfl; rfl; focus ((with_reducible apply b_sub) <;> (have q1 := vars_len5 (((p.getD f F0).bs.getD b B0).code.getD k i0); simp only [decide_eq_true_eq, ints_length, Int.toNat_natCast] at h ⊢; omega))) | (refine tr_loop_v (α := Nat × Int × Int) 1 (fun | (f, c, fo) => [(4, some (.int .i64 c)), (5, some (.int .i64 fo)), (6, some (.int .i64 (f : Int))), (27, none), (28, none), (29, none), (30, none), (31, none), (34, none), (35, none), (36, none), (37, none), (38, none), (39, none), (7, none), (8, none), (40, none), (41, none), (42, none), (43, none), (44, none), (45, none), (46, none), (47, none), (50, none), (51, none), (52, none), (53, none), (54, none), (55, none), (56, none), (48, none), (49, none), (9, none), (57, none), (58, none), (59, none), (60, none), (61, none), (62, none), (63, none), (64, none), (65, none), (10, none), (68, none), (69, none), (70, none), (71, none), (72, none), (73, none), (74, none), (75, none), (76, none), (77, none), (78, none), (79, none), (80, none), (84, none), (85, none), (86, none), (87, none), (88, none), (83, none), (89, none), (90, none), (11, none), (12, none), (91, none), (92, none), (13, none), (93, none), (94, none), (95, none), (96, none), (97, none), (98, none), (99, none), (100, none), (101, none), (102, none), (103, none), (104, none), (105, none), (106, none), (107, none), (108, none), (109, none), (110, none), (111, none), (112, none), (113, none), (114, none), (2, none), (115, none), (116, none), (117, none), (118, none), (119, none), (120, none), (121, none), (122, none), (123, none), (124, none), (81, none), (82, none), (66, none), (67, none), (125, none), (126, none), (32, none), (33, none)]) (fun | (f, c, fo) => [some ⟨0, 1, [pP p]⟩]) (fun | (f, c, fo) => f ≤ p.length ∧ c = ((alT1 p f).countP isK : Nat) ∧ fo = (foS (insP p) f : Nat) ∧ foS (insP p) f ≤ f * 96 ∧ (callsV p (f : Int)).length ≤ 10000) (fun | (f, c, fo) => p.length - f) ((0, 0, 0)) (ks := [4, 5, 6, 27, 28, 29, 30, 31, 34, 35, 36, 37, 38, 39, 7, 8, 40, 41, 42, 43, 44, 45, 46, 47, 50, 51, 52, 53, 54, 55, 56, 48, 49, 9, 57, 58, 59, 60, 61, 62, 63, 64, 65, 10, 68, 69, 70, 71, 72, 73, 74, 75, 76, 77, 78, 79, 80, 84, 85, 86, 87, 88, 83, 89, 90, 11, 12, 91, 92, 13, 93, 94, 95, 96, 97, 98, 99, 100, 101, 102, 103, 104, 105, 106, 107, 108, 109, 110, 111, 112, 113, 114, 2, 115, 116, 117, 118, 119, 120, 121, 122, 123, 124, 81, 82, 66, 67, 125, 126, 32, 33]) (fun _ => rfl) (fun _ => rfl) rfl (by omega) ?_ ⟨⟨_, rfl, rfl⟩, ⟨_, rfl, rfl⟩, ⟨_, rfl, rfl⟩, trivial⟩ ⟨⟨_, rfl, rfl, rfl, rfl⟩, trivial⟩ ?_; rotate_left; rintro ⟨f, c, fo⟩ hx; try dsimp only at hx) | ((first | (refine loopV_normal ((f + 1, c2, fo + ((callsV p (f : Int)).map pPs).length)) ?_ ⟨⟨_, rfl, rfl⟩, ⟨_, rfl, rfl⟩, ⟨_, rfl, rfl⟩, trivial⟩ ⟨⟨_, rfl, rfl, rfl, rfl⟩, trivial⟩ ?_ ?_)); repeat (first | exact only_refl | refine only_put rfl ?_ | refine only_less rfl ?_ | refine only_ov rfl ?_)) | (refine tr_loop_v (α := Nat × Int) 1 (fun | (v, s) => [(7, some (.int .i64 s)), (8, some (.int .i64 (v : Int))), (40, none), (41, none), (42, none), (43, none), (44, none), (45, none), (46, none), (47, none), (50, none), (51, none), (52, none), (53, none), (54, none), (55, none), (56, none), (48, none), (49, none)]) (fun | (v, s) => [some ⟨0, 1, [pP p]⟩]) (fun | (v, s) => (v : Int) ≤ (p.getD f F0).vs ∧ s = (seS (insF (p.getD f F0)) v : Nat) ∧ seS (insF (p.getD f F0)) v ≤ v * 1000 ∧ (p.getD f F0).vs ≤ 6 ∧ (defsV p (f : Int) (v : Int)).length ≤ 1000) (fun | (v, s) => (p.getD f F0).vs.toNat - v) ((0, 0)) (ks := [7, 8, 40, 41, 42, 43, 44, 45, 46, 47, 50, 51, 52, 53, 54, 55, 56, 48, 49]) (fun _ => rfl) (fun _ => rfl) rfl (by omega) ?_ ⟨⟨_, rfl, rfl⟩, ⟨_, rfl, rfl⟩, trivial⟩ ⟨⟨_, rfl, rfl, rfl, rfl⟩, trivial⟩ ?_; rotate_left; rintro ⟨v, s⟩ hx; try dsimp only at hx) | ((first | (refine loopV_normal ((v + 1, s + (ints (defsV p (f : Int) (v : Int))).length)) ?_ ⟨⟨_, rfl, rfl⟩, ⟨_, rfl, rfl⟩, trivial⟩ ⟨⟨_, rfl, rfl, rfl, rfl⟩, trivial⟩ ?_ ?_)); repeat (first | exact only_refl | refine only_put rfl ?_ | refine only_less rfl ?_ | refine only_ov rfl ?_)) | (refine tr_loop_v (α := Nat × Int × Int) 1 (fun | (b, c2, s2) => [(4, some (.int .i64 c2)), (7, some (.int .i64 s2)), (9, some (.int .i64 (b : Int))), (57, none), (58, none), (59, none), (60, none), (61, none), (62, none), (63, none), (64, none), (65, none), (10, none), (68, none), (69, none), (70, none), (71, none), (72, none), (73, none), (74, none), (75, none), (76, none), (77, none), (78, none), (79, none), (80, none), (84, none), (85, none), (86, none), (87, none), (88, none), (83, none), (89, none), (90, none), (11, none), (12, none), (91, none), (92, none), (13, none), (93, none), (94, none), (95, none), (96, none), (97, none), (98, none), (99, none), (100, none), (101, none), (102, none), (103, none), (104, none), (105, none), (106, none), (107, none), (108, none), (109, none), (110, none), (111, none), (112, none), (113, none), (114, none), (2, none), (115, none), (116, none), (117, none), (118, none), (119, none), (120, none), (121, none), (122, none), (123, none), (124, none), (81, none), (82, none), (66, none), (67, none)]) (fun | (b, c2, s2) => [some ⟨0, 1, [pP p]⟩]) (fun | (b, c2, s2) => b ≤ (p.getD f F0).bs.length ∧ c2 = c + ((cdB (p.getD f F0) b).countP isK : Nat) ∧ s2 = s - ((cdB (p.getD f F0) b).countP isD : Nat) ∧ (p.getD f F0).bs.length ≤ 20 ∧ 0 ≤ c ∧ c ≤ 6000 ∧ 0 ≤ s ∧ s ≤ 6000) (fun | (b, c2, s2) => (p.getD f F0).bs.length - b) ((0, c, s)) (ks := [4, 7, 9, 57, 58, 59, 60, 61, 62, 63, 64, 65, 10, 68, 69, 70, 71, 72, 73, 74, 75, 76, 77, 78, 79, 80, 84, 85, 86, 87, 88, 83, 89, 90, 11, 12, 91, 92, 13, 93, 94, 95, 96, 97, 98, 99, 100, 101, 102, 103, 104, 105, 106, 107, 108, 109, 110, 111, 112, 113, 114, 2, 115, 116, 117, 118, 119, 120, 121, 122, 123, 124, 81, 82, 66, 67]) (fun _ => rfl) (fun _ => rfl) rfl (by omega) ?_ ⟨⟨_, rfl, rfl⟩, ⟨_, rfl, rfl⟩, ⟨_, rfl, rfl⟩, trivial⟩ ⟨⟨_, rfl, rfl, rfl, rfl⟩, trivial⟩ ?_; rotate_left; rintro ⟨b, c2, s2⟩ hx; try dsimp only at hx) | ((first | (refine loopV_normal ((b + 1, c3, s3)) ?_ ⟨⟨_, rfl, rfl⟩, ⟨_, rfl, rfl⟩, ⟨_, rfl, rfl⟩, trivial⟩ ⟨⟨_, rfl, rfl, rfl, rfl⟩, trivial⟩ ?_ ?_)); repeat (first | exact only_refl | refine only_put rfl ?_ | refine only_less rfl ?_ | refine only_ov rfl ?_)) | (refine tr_loop_v (α := Nat × Int × Int) 1 (fun | (k, c3, s3) => [(4, some (.int .i64 c3)), (7, some (.int .i64 s3)), (10, some (.int .i64 (k : Int))), (68, none), (69, none), (70, none), (71, none), (72, none), (73, none), (74, none), (75, none), (76, none), (77, none), (78, none), (79, none), (80, none), (84, none), (85, none), (86, none), (87, none), (88, none), (83, none), (89, none), (90, none), (11, none), (12, none), (91, none), (92, none), (13, none), (93, none), (94, none), (95, none), (96, none), (97, none), (98, none), (99, none), (100, none), (101, none), (102, none), (103, none), (104, none), (105, none), (106, none), (107, none), (108, none), (109, none), (110, none), (111, none), (112, none), (113, none), (114, none), (2, none), (115, none), (116, none), (117, none), (118, none), (119, none), (120, none), (121, none), (122, none), (123, none), (124, none), (81, none), (82, none)]) (fun | (k, c3, s3) => [some ⟨0, 1, [pP p]⟩]) (fun | (k, c3, s3) => k ≤ ((p.getD f F0).bs.getD b B0).code.length ∧ c3 = c + ((cdK (p.getD f F0) b k).countP isK : Nat) ∧ s3 = s - ((cdK (p.getD f F0) b k).countP isD : Nat) ∧ ((p.getD f F0).bs.getD b B0).code.length ≤ 30 ∧ (cdK (p.getD f F0) b k).countP isK ≤ 700 ∧ (cdK (p.getD f F0) b k).countP isD ≤ 700) (fun | (k, c3, s3) => ((p.getD f F0).bs.getD b B0).code.length - k) ((0, c2, s2)) (ks := [4, 7, 10, 68, 69, 70, 71, 72, 73, 74, 75, 76, 77, 78, 79, 80, 84, 85, 86, 87, 88, 83, 89, 90, 11, 12, 91, 92, 13, 93, 94, 95, 96, 97, 98, 99, 100, 101, 102, 103, 104, 105, 106, 107, 108, 109, 110, 111, 112, 113, 114, 2, 115, 116, 117, 118, 119, 120, 121, 122, 123, 124, 81, 82]) (fun _ => rfl) (fun _ => rfl) rfl (by omega) ?_ ⟨⟨_, rfl, rfl⟩, ⟨_, rfl, rfl⟩, ⟨_, rfl, rfl⟩, trivial⟩ ⟨⟨_, rfl, rfl, rfl, rfl⟩, trivial⟩ ?_; rotate_left; rintro ⟨k, c3, s3⟩ hx; try dsimp only at hx) | ((first | (refine loopV_normal ((k + 1, c3 + 1, s3 - 1)) ?_ ⟨⟨_, rfl, rfl⟩, ⟨_, rfl, rfl⟩, ⟨_, rfl, rfl⟩, trivial⟩ ⟨⟨_, rfl, rfl, rfl, rfl⟩, trivial⟩ ?_ ?_) | (refine loopV_normal ((k + 1, c3 + 1, s3)) ?_ ⟨⟨_, rfl, rfl⟩, ⟨_, rfl, rfl⟩, ⟨_, rfl, rfl⟩, trivial⟩ ⟨⟨_, rfl, rfl, rfl, rfl⟩, trivial⟩ ?_ ?_) | (refine loopV_normal ((k + 1, c3, s3 - 1)) ?_ ⟨⟨_, rfl, rfl⟩, ⟨_, rfl, rfl⟩, ⟨_, rfl, rfl⟩, trivial⟩ ⟨⟨_, rfl, rfl, rfl, rfl⟩, trivial⟩ ?_ ?_) | (refine loopV_normal ((k + 1, c3, s3)) ?_ ⟨⟨_, rfl, rfl⟩, ⟨_, rfl, rfl⟩, ⟨_, rfl, rfl⟩, trivial⟩ ⟨⟨_, rfl, rfl, rfl, rfl⟩, trivial⟩ ?_ ?_)); repeat (first | exact only_refl | refine only_put rfl ?_ | refine only_less rfl ?_ | refine only_ov rfl ?_)) | ((with_reducible apply n_val); rfl; rfl) | ((with_reducible apply n_new); rfl; (first | (simp only [hn0, hn1, hn2, hn3, hn4, hn5, List.length_cons, List.length_nil, Nat.reduceAdd, Nat.zero_add]; first | done | rfl) | rfl); rfl) | ((with_reducible apply n_store); rfl; rfl; rfl; rfl; rfl) | ((with_reducible apply n_call (f := 11)); rfl; rfl; exact p_awake) | ((with_reducible apply n_call (f := 17)); rfl; rfl; exact p_Vars _) | ((with_reducible apply n_call (f := 18)); rfl; rfl; exact p_Def _) | (with_reducible refine condT_split (fun h => ?_) (fun h => ?_)) | ((with_reducible apply fnQ_told_ret); rfl) | ((with_reducible apply fnQ_ret_soft); rfl; rfl)
      all_goals (try dsimp only at *)
      all_goals (clear hw hs hI hC hCl hDf hAt)
      all_goals (try simp only [decide_eq_true_eq, decide_eq_false_iff_not, List.length_map, ints_length, Int.toNat_natCast, Bool.not_true, Bool.false_or] at *)
      all_goals (obtain ⟨hvs, eCl, eDf, hD1, hC1, hla, h70, hK1, hK0, hQ1, hQ0, hset, hall, hal, hka, hi96, h96, hvl, hfw⟩ := U)
      all_goals first
        | omega
        | (have e1 := eDf f v (by omega); have e2 := seS_s (insF (p.getD f F0)) v; have e3 := hD1 f v (by omega); have e4 := hD1 f (v + 1) (by omega); exact ⟨by omega, by omega, by omega, by omega, by omega⟩)
        | (exfalso; rename (_ && _) = true => hq; simp only [Bool.and_eq_true, decide_eq_true_eq] at hq; have e1 := hla f b k (by omega) (by omega) (by omega) _ (show 0 ≤ (((varsI (((p.getD f F0).bs.getD b B0).code.getD k i0)).length : Nat) : Int) - 1 by omega) (by omega); omega)
        | exact ⟨by omega, by rw [hK1 f b k (by omega) (by omega) (by assumption)]; omega, by rw [hQ1 f b k (by omega) (by omega) (by assumption)]; omega, by omega, h70 _ f b (k + 1), h70 _ f b (k + 1)⟩
        | exact ⟨by omega, by rw [hK1 f b k (by omega) (by omega) (by assumption)]; omega, by rw [hQ0 f b k (by omega) (by omega) (by assumption)]; omega, by omega, h70 _ f b (k + 1), h70 _ f b (k + 1)⟩
        | exact ⟨by omega, by rw [hK0 f b k (by omega) (by omega) (by assumption)]; omega, by rw [hQ1 f b k (by omega) (by omega) (by assumption)]; omega, by omega, h70 _ f b (k + 1), h70 _ f b (k + 1)⟩
        | exact ⟨by omega, by rw [hK0 f b k (by omega) (by omega) (by assumption)]; omega, by rw [hQ0 f b k (by omega) (by omega) (by assumption)]; omega, by omega, h70 _ f b (k + 1), h70 _ f b (k + 1)⟩
        | exact ⟨by omega, by rw [← cd_n (k := k) (by omega) (by omega)]; exact hx.2.1, by rw [← cd_n (k := k) (by omega) (by omega)]; exact hx.2.2.1, by omega, by omega, by omega, by omega, by omega⟩
        | exact ⟨Nat.zero_le _, by rw [cd_z]; exact hx.2.1, by rw [cd_z]; exact hx.2.2.1, ((hfw f).2 b).1, h70 _ f b 0, h70 _ f b 0⟩
        | (exfalso
           rename (_ != _) = true => hq
           have e1 : b = (p.getD f F0).bs.length := by omega
           have e2 := hx.2.2.1
           rw [e1, cd_all] at e2
           have e3 := hset f v (by omega) (by omega)
           have e4 : s2 = 0 := by omega
           rw [e4] at hq
           simp at hq)
        | (have e1 : b = (p.getD f F0).bs.length := by omega
           have e2 := hx.2.1
           rw [e1, cd_all] at e2
           have e3 := hal f (by omega)
           have e4 := foS_s (insP p) f
           have e5 := eCl f (by omega)
           have e6 := hi96 (isCl (f : Int))
           exact ⟨by omega, by omega, by omega, by omega, hC1 (f + 1)⟩)
        | (have e1 := hka f; exact ⟨Nat.zero_le _, by simp [cdB], by simp [cdB], (hfw f).1, by omega, by omega, by omega, by omega⟩)
        | (have e1 := hvs f (by omega); have e2 := hD1 f 0 (by omega); exact ⟨by omega, by simp [seS], by simp [seS], by omega, by omega⟩)
        | (obtain rfl : f = p.length := by omega
           refine congrArg PV.bool ?_
           have e1 := hx.2.1
           have e2 := hx.2.2.1
           rw [alT1_all] at e1
           rw [e1, e2, hall, decide_eq_true (by omega)]
           simp)
        | exact ⟨Nat.zero_le _, by rw [alT1_z]; rfl, by simp [foS], by simp [foS], hC1 0⟩
        | skip
end Go.Vm
end
