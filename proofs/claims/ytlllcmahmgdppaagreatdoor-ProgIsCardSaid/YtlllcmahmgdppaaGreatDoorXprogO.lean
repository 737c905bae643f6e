/- Laid. -/
import Derived.Test.YtlllcmahmgdppaaGreatDoorVmThree
import Derived.KernelRfl
import Derived.Test.YtlllcmahmgdppaaGreatDoorProg
import Derived.Test.YtlllcmahmgdppaaGreatDoorXprogN
section
/- Code. -/
set_option maxRecDepth 100000
set_option linter.unusedSimpArgs false
set_option linter.unusedVariables false
namespace Go.Vm
open Go
def c4 : RFn := ⟨(.seq (rf (.o 5 (.box (.t 0)) (.o 10 (.move (.c (.bool false))) .nil))) (.seq (rf (.o 32 (.call 11 []) (.o 11 (.m 32) .nil))) (.seq (.seq (rf (.o 33 (.load (some 1) (.t 5)) (.o 34 (.call 12 [(.t 33)]) (.o 35 (.un .not (.t 34)) .nil)))) (.cond (.t 35) (.seq (rf (.o 36 (.m 11) (.o 10 (.m 36) .nil))) .ret) .skip)) (.seq (rf (.o 38 (.load (some 1) (.t 5)) (.o 39 (.m 1) (.o 40 (.call 21 [(.t 38), (.t 39)]) (.o 37 (.m 40) (.o 41 (.extract 0 (.t 37)) (.o 42 (.extract 1 (.t 37)) (.o 12 (.alloc (.agg [(.int .i64 0), (.int .i64 0), (.lit [])])) (.op none (.store 3 (.t 12) (.t 41)) 0 (.o 13 (.m 42) .nil)))))))))) (.seq (rf (.o 44 (.load (some 1) (.t 5)) (.o 45 (.m 1) (.o 46 (.call 22 [(.t 44), (.t 45)]) (.o 43 (.m 46) (.o 47 (.extract 0 (.t 43)) (.o 48 (.extract 1 (.t 43)) (.o 14 (.alloc (.agg [(.int .i64 0), (.int .i64 0), (.lit [])])) (.op none (.store 3 (.t 14) (.t 47)) 0 (.o 15 (.m 48) .nil)))))))))) (.seq (rf (.o 50 (.load (some 1) (.t 5)) (.o 51 (.m 1) (.o 52 (.m 2) (.o 53 (.call 23 [(.t 50), (.t 51), (.t 52)]) (.o 49 (.m 53) (.o 54 (.extract 0 (.t 49)) (.o 55 (.extract 1 (.t 49)) (.o 16 (.alloc (.agg [(.bool false), (.lit []), (.lit [])])) (.op none (.store 3 (.t 16) (.t 54)) 0 (.o 17 (.m 55) .nil))))))))))) (.seq (rf (.o 57 (.load (some 1) (.t 5)) (.o 58 (.m 1) (.o 59 (.m 2) (.o 60 (.call 24 [(.t 57), (.t 58), (.t 59)]) (.o 56 (.m 60) (.o 61 (.extract 0 (.t 56)) (.o 62 (.extract 1 (.t 56)) (.o 18 (.alloc (.agg [(.bool false), (.lit []), (.lit [])])) (.op none (.store 3 (.t 18) (.t 61)) 0 (.o 19 (.m 62) .nil))))))))))) (.seq (rf (.o 64 (.load (some 1) (.t 5)) (.o 65 (.m 1) (.o 66 (.m 2) (.o 67 (.m 3) (.o 68 (.call 16 [(.t 64), (.t 65), (.t 66), (.t 67)]) (.o 63 (.m 68) (.o 69 (.extract 0 (.t 63)) (.o 70 (.extract 1 (.t 63)) (.o 20 (.alloc (.agg [(.int .i64 0), (.int .i64 0), (.int .i64 0), (.int .i64 0), (.int .i64 0), (.int .i64 0), (.int .i64 0), (.int .i64 0), (.int .i64 0), (.int .i64 0), (.int .i64 0)])) (.op none (.store 11 (.t 20) (.t 69)) 0 (.o 21 (.m 70) .nil)))))))))))) (.seq (rf (.o 72 (.load (some 1) (.t 5)) (.o 73 (.m 1) (.o 74 (.m 2) (.o 75 (.m 3) (.o 76 (.call 25 [(.t 72), (.t 73), (.t 74), (.t 75)]) (.o 71 (.m 76) (.o 77 (.extract 0 (.t 71)) (.o 78 (.extract 1 (.t 71)) (.o 22 (.alloc (.agg [(.int .i64 0), (.int .i64 0), (.int .i64 0), (.int .i64 0), (.int .i64 0), (.int .i64 0), (.int .i64 0), (.int .i64 0), (.int .i64 0), (.int .i64 0), (.int .i64 0)])) (.op none (.store 11 (.t 22) (.t 77)) 0 (.o 23 (.m 78) .nil)))))))))))) (.seq (rf (.o 80 (.load (some 1) (.t 5)) (.o 81 (.call 19 [(.t 80)]) (.o 79 (.m 81) (.o 82 (.extract 0 (.t 79)) (.o 83 (.extract 1 (.t 79)) (.o 84 (.extract 2 (.t 79)) (.o 24 (.m 82) (.o 25 (.m 83) (.o 26 (.m 84) .nil)))))))))) (.seq (rf (.o 86 (.load (some 1) (.t 5)) (.o 87 (.call 26 [(.t 86)]) (.o 85 (.m 87) (.o 88 (.extract 0 (.t 85)) (.o 89 (.extract 1 (.t 85)) (.o 90 (.extract 2 (.t 85)) (.o 27 (.m 88) (.o 28 (.m 89) (.o 29 (.m 90) .nil)))))))))) (.seq (.seq (rt (.o 91 (.load (some 1) (.t 5)) (.op (some 92) (.call 13 [(.t 91)]) 1 (.o 93 (.load (some 1) (.t 5)) (.op (some 94) (.call 27 [(.t 93)]) 7 (.op (some 95) (.binb .neq (.t 92) (.t 94)) 15 (.op (some 96) (.m 95) 31 (.grd 96 false (.op (some 97) (.m 13) 63 (.op (some 98) (.m 15) 63 (.op (some 99) (.binb .neq (.t 97) (.t 98)) 255 .nil))) (.op (some 100) (.pick (.t 96) (.c (.bool true)) (.t 99)) 511 (.op (some 101) (.m 100) 1023 (.grd 101 false (.op (some 102) (.m 17) 2047 (.op (some 103) (.m 19) 2047 (.op (some 104) (.binb .neq (.t 102) (.t 103)) 8191 .nil))) (.op (some 105) (.pick (.t 101) (.c (.bool true)) (.t 104)) 16383 (.op (some 106) (.m 105) 32767 (.grd 106 false (.op (some 107) (.m 21) 65535 (.op (some 108) (.m 23) 65535 (.op (some 109) (.binb .neq (.t 107) (.t 108)) 262143 .nil))) (.op (some 110) (.pick (.t 106) (.c (.bool true)) (.t 109)) 524287 (.op (some 111) (.m 110) 1048575 (.grd 111 false (.op (some 112) (.load (some 11) (.t 20)) 2097151 (.op (some 113) (.load (some 11) (.t 22)) 2097151 (.op (some 114) (.eqs true [(0, 1), (1, 1), (2, 1), (3, 1), (4, 1), (5, 1), (6, 1), (7, 1), (8, 1), (9, 1), (10, 1)] (.t 112) (.t 113)) 8388607 .nil))) (.op (some 115) (.pick (.t 111) (.c (.bool true)) (.t 114)) 16777215 (.op (some 116) (.m 115) 33554431 (.grd 116 false (.op (some 117) (.m 24) 67108863 (.op (some 118) (.m 27) 67108863 (.op (some 119) (.bin .neq (.t 117) (.t 118)) 268435455 .nil))) (.op (some 120) (.pick (.t 116) (.c (.bool true)) (.t 119)) 536870911 (.op (some 121) (.m 120) 1073741823 (.grd 121 false (.op (some 122) (.m 25) 2147483647 (.op (some 123) (.m 28) 2147483647 (.op (some 124) (.bin .neq (.t 122) (.t 123)) 8589934591 .nil))) (.op (some 125) (.pick (.t 121) (.c (.bool true)) (.t 124)) 17179869183 (.op (some 126) (.m 125) 34359738367 (.grd 126 false (.op (some 127) (.m 26) 68719476735 (.op (some 128) (.m 29) 68719476735 (.op (some 129) (.bin .neq (.t 127) (.t 128)) 274877906943 .nil))) (.op (some 130) (.pick (.t 126) (.c (.bool true)) (.t 129)) 549755813887 .nil))))))))))))))))))))))))))) (.cond (.t 130) (.seq (rf (.o 10 (.move (.c (.bool false))) .nil)) .ret) .skip)) (.seq (rf (.o 131 (.load (some 3) (.t 12)) (.o 132 (.load (some 3) (.t 16)) (.o 133 (.bslice true 3 1 (.agg [(.bool false), (.lit []), (.lit [])]) [(0, (.t 132))]) (.o 134 (.build [(.int .i64 0), (.int .i64 0), (.lit [])] [(2, 1, (.t 133))]) (.o 135 (.bslice true 3 2 (.agg [(.int .i64 0), (.int .i64 0), (.lit [])]) [(0, (.t 131)), (1, (.t 134))]) (.o 136 (.build [(.lit [])] [(0, 1, (.t 135))]) (.o 30 (.alloc (.agg [(.lit [])])) (.op none (.store 1 (.t 30) (.t 136)) 0 .nil))))))))) (.seq (rf (.o 137 (.load (some 3) (.t 14)) (.o 138 (.load (some 3) (.t 18)) (.o 139 (.bslice true 3 1 (.agg [(.bool false), (.lit []), (.lit [])]) [(0, (.t 138))]) (.o 140 (.build [(.int .i64 0), (.int .i64 0), (.lit [])] [(2, 1, (.t 139))]) (.o 141 (.bslice true 3 2 (.agg [(.int .i64 0), (.int .i64 0), (.lit [])]) [(0, (.t 137)), (1, (.t 140))]) (.o 142 (.build [(.lit [])] [(0, 1, (.t 141))]) (.o 31 (.alloc (.agg [(.lit [])])) (.op none (.store 1 (.t 31) (.t 142)) 0 .nil))))))))) (.seq (rt (.o 143 (.m 11) (.op (some 144) (.m 143) 1 (.grd 144 true (.op (some 145) (.load (some 1) (.t 30)) 3 (.op (some 146) (.load (some 1) (.t 31)) 3 (.op (some 147) (.call 28 [(.t 145), (.t 146)]) 15 .nil))) (.op (some 148) (.pick (.t 144) (.t 147) (.c (.bool false))) 31 (.op (some 149) (.m 148) 63 (.grd 149 true (.op (some 150) (.load (some 1) (.t 5)) 127 (.op (some 151) (.m 1) 127 (.op (some 152) (.m 2) 127 (.op (some 153) (.call 30 [(.t 150), (.t 151), (.t 152)]) 1023 (.op (some 154) (.load (some 1) (.t 5)) 127 (.op (some 155) (.m 1) 127 (.op (some 156) (.m 2) 127 (.op (some 157) (.call 31 [(.t 154), (.t 155), (.t 156)]) 16383 (.op (some 158) (.call 29 [(.t 153), (.t 157)]) 32767 .nil))))))))) (.op (some 159) (.pick (.t 149) (.t 158) (.c (.bool false))) 65535 (.op (some 160) (.m 159) 131071 (.grd 160 true (.op (some 161) (.load (some 1) (.t 5)) 262143 (.op (some 162) (.m 1) 262143 (.op (some 163) (.m 4) 262143 (.op (some 164) (.call 15 [(.t 161), (.t 162), (.t 163)]) 2097151 (.op (some 165) (.load (some 1) (.t 5)) 262143 (.op (some 166) (.m 1) 262143 (.op (some 167) (.m 4) 262143 (.op (some 168) (.call 32 [(.t 165), (.t 166), (.t 167)]) 33554431 (.op (some 169) (.call 29 [(.t 164), (.t 168)]) 67108863 .nil))))))))) (.op (some 170) (.pick (.t 160) (.t 169) (.c (.bool false))) 134217727 (.op (some 171) (.m 170) 268435455 (.grd 171 true (.op (some 172) (.load (some 1) (.t 5)) 536870911 (.op (some 173) (.m 1) 536870911 (.op (some 174) (.call 14 [(.t 172), (.t 173)]) 2147483647 (.op (some 175) (.load (some 1) (.t 5)) 536870911 (.op (some 176) (.m 1) 536870911 (.op (some 177) (.call 34 [(.t 175), (.t 176)]) 17179869183 (.op (some 178) (.call 33 [(.t 174), (.t 177)]) 34359738367 .nil))))))) (.op (some 179) (.pick (.t 171) (.t 178) (.c (.bool false))) 68719476735 (.op (some 180) (.m 179) 137438953471 (.grd 180 true (.op (some 181) (.load (some 1) (.t 5)) 274877906943 (.op (some 182) (.call 35 [(.t 181)]) 549755813887 (.op (some 183) (.load (some 1) (.t 5)) 274877906943 (.op (some 184) (.call 36 [(.t 183)]) 2199023255551 (.op (some 185) (.bin .eql (.t 182) (.t 184)) 4398046511103 .nil))))) (.op (some 186) (.pick (.t 180) (.t 185) (.c (.bool false))) 8796093022207 (.op (some 187) (.m 186) 17592186044415 (.grd 187 true (.op (some 188) (.load (some 1) (.t 5)) 35184372088831 (.op (some 189) (.m 1) 35184372088831 (.op (some 190) (.call 37 [(.t 188), (.t 189)]) 140737488355327 (.op (some 191) (.load (some 1) (.t 5)) 35184372088831 (.op (some 192) (.m 1) 35184372088831 (.op (some 193) (.call 38 [(.t 191), (.t 192)]) 1125899906842623 (.op (some 194) (.bin .eql (.t 190) (.t 193)) 2251799813685247 .nil))))))) (.op (some 195) (.pick (.t 187) (.t 194) (.c (.bool false))) 4503599627370495 (.op (some 10) (.m 195) 9007199254740991 .nil))))))))))))))))))))) .ret))))))))))))))), [.tmp 10]⟩
theorem b4 : fnOf Go.Proofs.Tryz.prog (owOf []) 4 = some c4 := by kernel_rfl
end Go.Vm
end
section
/- Walks. -/
set_option maxRecDepth 100000
set_option linter.unusedSimpArgs false
set_option linter.unusedVariables false
namespace Go.Vm
open Go
set_option maxHeartbeats 4000000
theorem defs_eq {p : List Fn} {f v : Int} (hf : few p = true) : (if 0 ≤ v then rdV (insF ((funV p f).getD F0)) v else []) = defsV p f v := by
  by_cases hv : 0 ≤ v
  · rw [if_pos hv]
    cases h : funV p f with
    | none =>
      have e : defsV p f v = [] := by rw [defsV, h]; rfl
      rw [e, Option.getD_none]
      simp [rdV, insF, F0]
    | some x =>
      have e : defsV p f v = sortL (defsU p f v) := by rw [defsV, h, decide_eq_true hv]; rfl
      rw [e, Option.getD_some, defsU_eq h, rdV_num]
      refine byNum_sort fun a ha => ?_
      unfold funV at h
      split at h
      rotate_left
      · cases h
      · rename_i hc
        injection h with h
        simp only [dfM, List.mem_map, List.mem_filter] at ha
        obtain ⟨i, ⟨hi, _⟩, rfl⟩ := ha
        have hx : x ∈ p := h ▸ getD_mem F0 (by omega)
        have hm : i ∈ insP p := by
          rw [insP, List.mem_flatMap]
          exact ⟨x, hx, hi⟩
        have := (form_iff _).1 (ins_form hc.1 hm)
        omega
  · rw [if_neg hv, defsV, decide_eq_false hv, Bool.and_false]; rfl
theorem blk_few {p : List Fn} (hf : few p = true) (f b : Int) : ((blkV p f b).getD B0).code.length ≤ 30 ∧ ((blkV p f b).getD B0).succ.length ≤ 30 := by
  unfold blkV
  split
  · exact (few_fun2 hf f).2 _
  · exact ⟨Nat.zero_le _, Nat.zero_le _⟩
theorem fit_of {p : List Fn} (h1 : p.length ≤ 1000) (h2 : ∀ k, (p.getD k F0).bs.length ≤ 1000 ∧ ∀ j, ((p.getD k F0).bs.getD j B0).code.length ≤ 1000 ∧ ((p.getD k F0).bs.getD j B0).succ.length ≤ 1000) : Fit p := by
  have hm : ∀ f ∈ p, f.bs.length ≤ 1000 ∧ ∀ b ∈ f.bs, b.code.length ≤ 1000 ∧ b.succ.length ≤ 1000 := fun f hf => by
    obtain ⟨k, hk, rfl⟩ := List.mem_iff_getElem.1 hf
    have := h2 k
    rw [List.getD_eq_getElem?_getD, List.getElem?_eq_getElem hk, Option.getD_some] at this
    refine ⟨this.1, fun b hb => ?_⟩
    obtain ⟨j, hj, rfl⟩ := List.mem_iff_getElem.1 hb
    have h3 := this.2 j
    rwa [List.getD_eq_getElem?_getD, List.getElem?_eq_getElem hj, Option.getD_some] at h3
  exact ⟨h1, fun f hf => (hm f hf).1, fun f hf b hb => ((hm f hf).2 b hb).1, fun f hf b hb => ((hm f hf).2 b hb).2⟩
theorem fit_two {F : Fn} {B : Bk} (h1 : F.bs.length ≤ 20 ∧ ∀ j, (F.bs.getD j B0).code.length ≤ 30 ∧ (F.bs.getD j B0).succ.length ≤ 30) (h2 : B.code.length ≤ 30 ∧ B.succ.length ≤ 30) : Fit [F, ⟨0, 0, [B]⟩] := by
  refine fit_of (by simp) fun k => ?_
  match k with
  | 0 => exact ⟨Nat.le_trans h1.1 (by omega), fun j => ⟨Nat.le_trans (h1.2 j).1 (by omega), Nat.le_trans (h1.2 j).2 (by omega)⟩⟩
  | 1 =>
    refine ⟨by simp, fun j => ?_⟩
    match j with
    | 0 => exact ⟨Nat.le_trans h2.1 (by omega), Nat.le_trans h2.2 (by omega)⟩
    | j + 1 => exact ⟨Nat.zero_le _, Nat.zero_le _⟩
  | k + 2 => exact ⟨Nat.zero_le _, fun j => ⟨Nat.zero_le _, Nat.zero_le _⟩⟩
theorem l_ProgIs (p : List Fn) (f b n v : Int) : Pure Go.Proofs.Tryz.prog glD 4 [pP p, .int .i64 f, .int .i64 b, .int .i64 n, .int .i64 v] (.bool true) := by
  have hw := p_Few (gl := glD) p
  cases hf : few p with
  | false =>
    rw [hf] at hw
    refine Pure.fn hmix b4 ?_
    repeat' first | (with_reducible first | refine tr_seq ?_ | refine n_nil ?_ | refine seqQ_normal ?_ | refine seqQ_ret ?_ | refine blkQ_ret ?_ | refine tr_skip ?_ | refine tr_ret ?_ | refine condT_t ?_ | refine condT_f ?_) | ((with_reducible refine tr_region_f ?_ ?_); kernel_rfl) | ((with_reducible refine tr_region_t ?_ ?_ ?_); kernel_rfl; kernel_rfl) | exact ⟨rfl, rfl⟩ | ((with_reducible apply tr_cond_e); rfl) | ((with_reducible refine condT_T ?_ ?_); decide +kernel) | ((with_reducible refine condT_F ?_ ?_); decide +kernel) | ((with_reducible apply n_andF); rfl; rfl; decide +kernel) | ((with_reducible apply n_orT); rfl; rfl; decide +kernel) | ((with_reducible apply n_and); rfl; rfl; intro h) | ((with_reducible apply n_or); rfl; rfl; intro h) | with_reducible refine unrQ_normal ?_ | with_reducible refine unrQ_exit ?_ | with_reducible refine unrQ_ret ?_ | ((with_reducible apply n_call (f := 12)); rfl; rfl; exact hw) | ((with_reducible apply n_val); rfl; rfl) | ((with_reducible apply n_new); rfl; (first | (simp only [hn0, hn1, hn2, hn3, hn4, hn5, List.length_cons, List.length_nil, Nat.reduceAdd, Nat.zero_add]; first | done | rfl) | rfl); rfl) | ((with_reducible apply n_store); rfl; rfl; rfl; rfl; rfl) | ((with_reducible apply n_eqs_t); rfl; rfl; rfl) | ((with_reducible apply n_call (f := 11)); rfl; rfl; exact p_awake) | ((with_reducible apply n_row); rfl; (first | (simp only [hn0, hn1, hn2, hn3, hn4, hn5, List.length_cons, List.length_nil, Nat.reduceAdd, Nat.zero_add]; first | done | rfl) | rfl); rfl) | (with_reducible refine condT_split (fun h => ?_) (fun h => ?_)) | ((with_reducible apply fnQ_told_ret); rfl) | ((with_reducible apply fnQ_ret_soft); rfl; rfl)
    all_goals rfl
  | true =>
    rw [hf] at hw
    have hp := few_fit hf
    have hs := p_Sane p hp
    have hs2 := p_r_Sane (gl := glD) p hf
    have h1 : Pure Go.Proofs.Tryz.prog glD 21 [pP p, .int .i64 f] (.tup [pF ((funV p f).getD F0), .bool (funV p f).isSome]) := p_Fun p f hp
    have h2 : Pure Go.Proofs.Tryz.prog glD 22 [pP p, .int .i64 f] (.tup [pF ((funV p f).getD F0), .bool (funV p f).isSome]) := p_r_Fun p f hf
    have h3 : Pure Go.Proofs.Tryz.prog glD 23 [pP p, .int .i64 f, .int .i64 b] (.tup [pB ((blkV p f b).getD B0), .bool (blkV p f b).isSome]) := p_Block p f b hp
    have h4 : Pure Go.Proofs.Tryz.prog glD 24 [pP p, .int .i64 f, .int .i64 b] (.tup [pB ((blkV p f b).getD B0), .bool (blkV p f b).isSome]) := p_r_Block p f b hf
    have h5 : Pure Go.Proofs.Tryz.prog glD 16 [pP p, .int .i64 f, .int .i64 b, .int .i64 n] (.tup [pI ((atV p f b n).getD i0), .bool (atV p f b n).isSome]) := p_At p f b n hp
    have h6 : Pure Go.Proofs.Tryz.prog glD 25 [pP p, .int .i64 f, .int .i64 b, .int .i64 n] (.tup [pI ((atV p f b n).getD i0), .bool (atV p f b n).isSome]) := p_r_At p f b n hf
    have h7 := p_Count p hf
    have h8 := p_r_Count (gl := glD) p hf
    have h9 := p_Preds p f b hp
    have h10 := p_r_Preds (gl := glD) p f b hf
    have h11 := p_Defs p f v hf
    have h12 := p_r_Defs (gl := glD) p f v hf
    have h13 := p_Calls p f hf
    have h14 := p_r_Calls (gl := glD) p f hf
    have h15 := p_NewId p hp
    have h16 := p_r_NewId (gl := glD) p hf
    have h17 := p_NewBlock p f hp
    have h18 := p_r_NewBlock (gl := glD) p f hf
    rw [defs_eq hf] at h12
    have e1 : (predsV ((funV p f).getD F0) b).length ≤ 100000 := Nat.le_trans (predsV_le _ _) (Nat.le_trans (few_fun2 hf f).1 (by omega))
    have e2 : (defsV p f v).length ≤ 100000 := by
      rw [defsV]
      split
      · rw [sortL_len]
        have := em1_le (g := dfG p f v) hf (dfG_le p f v) p.length
        have := (few_bs hf).1
        rw [defsU]; omega
      · exact Nat.zero_le _
    have e3 : (callsV p f).length ≤ 100000 := by
      rw [callsV]
      split
      · have := em1_le (g := clG p f) hf (clG_le p f) p.length
        have := (few_bs hf).1
        omega
      · exact Nat.zero_le _
    have h19 := p_r1_IntsX (gl := glD) _ e1
    have h20 := p_r1_IntsX (gl := glD) _ e2
    have h21 := p_r_PlacesX (gl := glD) _ e3
    have h22 := p_r_SameX (gl := glD) _ (fit_two (few_fun2 hf f) (blk_few hf f b))
    generalize (funV p f).getD F0 = X at *
    generalize (funV p f).isSome = o1 at *
    generalize (blkV p f b).getD B0 = B at *
    generalize (blkV p f b).isSome = o2 at *
    generalize (atV p f b n).getD i0 = I at *
    generalize (atV p f b n).isSome = o3 at *
    generalize countV p = C at *
    generalize sane p = S at *
    generalize newIdV p = N1 at *
    generalize newBlockV p f = N2 at *
    generalize defsV p f v = D at *
    generalize callsV p f = L at *
    generalize predsV X b = R at *
    clear e1 e2 e3
    refine Pure.fn hmix b4 ?_
    repeat' first | (with_reducible first | refine tr_seq ?_ | refine n_nil ?_ | refine seqQ_normal ?_ | refine seqQ_ret ?_ | refine blkQ_ret ?_ | refine tr_skip ?_ | refine tr_ret ?_ | refine condT_t ?_ | refine condT_f ?_) | ((with_reducible refine tr_region_f ?_ ?_); kernel_rfl) | ((with_reducible refine tr_region_t ?_ ?_ ?_); kernel_rfl; kernel_rfl) | exact ⟨rfl, rfl⟩ | ((with_reducible apply tr_cond_e); rfl) | ((with_reducible refine condT_T ?_ ?_); exact rfl) | ((with_reducible refine condT_F ?_ ?_); exact rfl) | ((with_reducible apply n_and); rfl; rfl; intro h) | ((with_reducible apply n_or); rfl; rfl; intro h) | ((with_reducible apply n_call (f := 12)); rfl; rfl; exact hw) | ((with_reducible apply n_call (f := 13)); rfl; rfl; exact hs) | ((with_reducible apply n_call (f := 27)); rfl; rfl; exact hs2) | ((with_reducible apply n_call (f := 21)); rfl; rfl; exact h1) | ((with_reducible apply n_call (f := 22)); rfl; rfl; exact h2) | ((with_reducible apply n_call (f := 23)); rfl; rfl; exact h3) | ((with_reducible apply n_call (f := 24)); rfl; rfl; exact h4) | ((with_reducible apply n_call (f := 16)); rfl; rfl; exact h5) | ((with_reducible apply n_call (f := 25)); rfl; rfl; exact h6) | ((with_reducible apply n_call (f := 19)); rfl; rfl; exact h7) | ((with_reducible apply n_call (f := 26)); rfl; rfl; exact h8) | ((with_reducible apply n_call (f := 30)); rfl; rfl; exact h9) | ((with_reducible apply n_call (f := 31)); rfl; rfl; exact h10) | ((with_reducible apply n_call (f := 15)); rfl; rfl; exact h11) | ((with_reducible apply n_call (f := 32)); rfl; rfl; exact h12) | ((with_reducible apply n_call (f := 14)); rfl; rfl; exact h13) | ((with_reducible apply n_call (f := 34)); rfl; rfl; exact h14) | ((with_reducible apply n_call (f := 35)); rfl; rfl; exact h15) | ((with_reducible apply n_call (f := 36)); rfl; rfl; exact h16) | ((with_reducible apply n_call (f := 37)); rfl; rfl; exact h17) | ((with_reducible apply n_call (f := 38)); rfl; rfl; exact h18) | ((with_reducible apply n_call (f := 29)); rfl; rfl; exact h19) | ((with_reducible apply n_call (f := 29)); rfl; rfl; exact h20) | ((with_reducible apply n_call (f := 33)); rfl; rfl; exact h21) | ((with_reducible apply n_callb (f := 28)); rfl; rfl; exact h22; rfl) | (exfalso; rename (_ || _) = true => hq; simp at hq; done) | ((with_reducible apply n_val); rfl; rfl) | ((with_reducible apply n_new); rfl; (first | (simp only [hn0, hn1, hn2, hn3, hn4, hn5, List.length_cons, List.length_nil, Nat.reduceAdd, Nat.zero_add]; first | done | rfl) | rfl); rfl) | ((with_reducible apply n_store); rfl; rfl; rfl; rfl; rfl) | ((with_reducible apply n_eqs_t); rfl; rfl; rfl) | ((with_reducible apply n_call (f := 11)); rfl; rfl; exact p_awake) | ((with_reducible apply n_row); rfl; (first | (simp only [hn0, hn1, hn2, hn3, hn4, hn5, List.length_cons, List.length_nil, Nat.reduceAdd, Nat.zero_add]; first | done | rfl) | rfl); rfl) | (with_reducible refine condT_split (fun h => ?_) (fun h => ?_)) | ((with_reducible apply fnQ_told_ret); rfl) | ((with_reducible apply fnQ_ret_soft); rfl; rfl)
    refine congrArg PV.bool ?_
    simp
end Go.Vm
end
