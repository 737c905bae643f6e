/- Laid. -/
import Derived.Test.YtkdhindpjllpkaaGreatDoorVmThree
import Derived.KernelRfl
import Derived.Test.YtkdhindpjllpkaaGreatDoorProg
import Derived.Test.YtkdhindpjllpkaaGreatDoorXappU
set_option linter.unusedSimpArgs false
set_option linter.unusedVariables false
set_option maxRecDepth 100000
set_option maxHeartbeats 4000000
set_option exponentiation.threshold 2000
namespace Go.Vm
open Go
def c9 : RFn := ⟨(.seq (rf (.o 2 (.box (.t 0)) (.o 3 (.box (.t 1)) (.o 4 (.move (.c (.bool false))) .nil)))) (.seq (rf (.o 19 (.call 35 []) (.o 5 (.m 19) .nil))) (.seq (.seq (rf (.o 20 (.load (some 1) (.t 2)) (.o 21 (.call 16 [(.t 20)]) (.o 22 (.un .not (.t 21)) (.o 23 (.m 22) (.grd 23 false (.o 24 (.load (some 1) (.t 2)) (.o 25 (.call 17 [(.t 24)]) (.o 26 (.un .not (.t 25)) .nil))) (.o 27 (.pick (.t 23) (.c (.bool true)) (.t 26)) (.o 28 (.m 27) (.grd 28 false (.o 29 (.load (some 1) (.t 2)) (.o 30 (.load (some 17) (.t 3)) (.o 31 (.call 38 [(.t 29), (.t 30)]) (.o 32 (.bin .neq (.t 31) (.i 0)) .nil)))) (.o 33 (.pick (.t 28) (.c (.bool true)) (.t 32)) .nil)))))))))) (.cond (.t 33) (.seq (rf (.o 34 (.m 5) (.o 4 (.m 34) .nil))) .ret) .skip)) (.seq (rf (.o 36 (.load (some 1) (.t 2)) (.o 37 (.load (some 17) (.t 3)) (.o 38 (.call 39 [(.t 36), (.t 37)]) (.o 35 (.m 38) (.o 39 (.extract 0 (.t 35)) (.o 40 (.extract 1 (.t 35)) (.o 6 (.alloc (.agg [(.lit [])])) (.op none (.store 1 (.t 6) (.t 39)) 0 (.o 7 (.m 40) .nil)))))))))) (.seq (rf (.o 42 (.load (some 1) (.t 2)) (.o 43 (.call 40 [(.t 42)]) (.o 41 (.m 43) (.o 44 (.extract 0 (.t 41)) (.o 45 (.extract 1 (.t 41)) (.o 46 (.extract 2 (.t 41)) (.o 8 (.m 44) (.o 9 (.m 45) (.o 10 (.m 46) .nil)))))))))) (.seq (rf (.o 48 (.load (some 1) (.t 6)) (.o 49 (.call 40 [(.t 48)]) (.o 47 (.m 49) (.o 50 (.extract 0 (.t 47)) (.o 51 (.extract 1 (.t 47)) (.o 52 (.extract 2 (.t 47)) (.o 11 (.m 50) (.o 12 (.m 51) (.o 13 (.m 52) .nil)))))))))) (.seq (rf (.o 14 (.move (.i 0)) .nil)) (.seq (.seq (rf (.o 15 (.move (.i 0)) .nil)) (.block 0 (.loop (.seq (.seq (rf (.o 53 (.m 15) (.o 54 (.fieldAddr 0 (.t 2)) (.o 55 (.load none (.t 54)) (.o 56 (.len false (.t 55)) (.o 57 (.bin .lss (.t 53) (.t 56)) .nil)))))) (.cond (.t 57) .skip (.exit 0))) (.seq (.block 1 (.seq (rf (.o 16 (.move (.i 0)) .nil)) (.block 2 (.loop (.seq (.seq (rf (.o 60 (.m 16) (.o 61 (.fieldAddr 0 (.t 2)) (.o 62 (.load none (.t 61)) (.o 63 (.m 15) (.o 64 (.idxAddr 3 (.t 62) (.t 63)) (.o 65 (.fieldAddr 2 (.t 64)) (.o 66 (.load none (.t 65)) (.o 67 (.len false (.t 66)) (.o 68 (.bin .lss (.t 60) (.t 67)) .nil)))))))))) (.cond (.t 68) .skip (.exit 2))) (.seq (.block 3 (rf (.o 71 (.m 14) (.o 72 (.fieldAddr 0 (.t 2)) (.o 73 (.load none (.t 72)) (.o 74 (.m 15) (.o 75 (.idxAddr 3 (.t 73) (.t 74)) (.o 76 (.fieldAddr 2 (.t 75)) (.o 77 (.load none (.t 76)) (.o 78 (.m 16) (.o 79 (.idxAddr 3 (.t 77) (.t 78)) (.o 80 (.fieldAddr 2 (.t 79)) (.o 81 (.load none (.t 80)) (.o 82 (.len false (.t 81)) (.o 83 (.bin .sub (.t 71) (.t 82)) (.o 14 (.m 83) .nil)))))))))))))))) (rf (.o 69 (.m 16) (.o 70 (.bin .add (.t 69) (.i 1)) (.o 16 (.m 70) .nil)))))))))) (rf (.o 58 (.m 15) (.o 59 (.bin .add (.t 58) (.i 1)) (.o 15 (.m 59) .nil))))))))) (.seq (.seq (rf (.o 17 (.move (.i 0)) .nil)) (.block 4 (.loop (.seq (.seq (rf (.o 84 (.m 17) (.o 85 (.fieldAddr 0 (.t 6)) (.o 86 (.load none (.t 85)) (.o 87 (.len false (.t 86)) (.o 88 (.bin .lss (.t 84) (.t 87)) .nil)))))) (.cond (.t 88) .skip (.exit 4))) (.seq (.block 5 (.seq (rf (.o 18 (.move (.i 0)) .nil)) (.block 6 (.loop (.seq (.seq (rf (.o 91 (.m 18) (.o 92 (.fieldAddr 0 (.t 6)) (.o 93 (.load none (.t 92)) (.o 94 (.m 17) (.o 95 (.idxAddr 3 (.t 93) (.t 94)) (.o 96 (.fieldAddr 2 (.t 95)) (.o 97 (.load none (.t 96)) (.o 98 (.len false (.t 97)) (.o 99 (.bin .lss (.t 91) (.t 98)) .nil)))))))))) (.cond (.t 99) .skip (.exit 6))) (.seq (.block 7 (rf (.o 102 (.m 14) (.o 103 (.fieldAddr 0 (.t 6)) (.o 104 (.load none (.t 103)) (.o 105 (.m 17) (.o 106 (.idxAddr 3 (.t 104) (.t 105)) (.o 107 (.fieldAddr 2 (.t 106)) (.o 108 (.load none (.t 107)) (.o 109 (.m 18) (.o 110 (.idxAddr 3 (.t 108) (.t 109)) (.o 111 (.fieldAddr 2 (.t 110)) (.o 112 (.load none (.t 111)) (.o 113 (.len false (.t 112)) (.o 114 (.bin .add (.t 102) (.t 113)) (.o 14 (.m 114) .nil)))))))))))))))) (rf (.o 100 (.m 18) (.o 101 (.bin .add (.t 100) (.i 1)) (.o 18 (.m 101) .nil)))))))))) (rf (.o 89 (.m 17) (.o 90 (.bin .add (.t 89) (.i 1)) (.o 17 (.m 90) .nil))))))))) (.seq (.seq (rf (.o 115 (.fieldAddr 0 (.t 3)) (.o 116 (.load none (.t 115)) .nil))) (.block 8 (.seq (rf (.o 118 (.bin .eql (.t 116) (.i 0)) (.o 117 (.m 118) .nil))) (.cond (.t 117) (.seq (rf (.o 119 (.m 5) (.o 120 (.m 119) (.grd 120 true (.o 121 (.m 11) (.o 122 (.m 8) (.o 123 (.bin .add (.t 122) (.i 1)) (.o 124 (.bin .eql (.t 121) (.t 123)) .nil)))) (.o 125 (.pick (.t 120) (.t 124) (.c (.bool false))) (.o 126 (.m 125) (.grd 126 true (.o 127 (.m 12) (.o 128 (.m 9) (.o 129 (.bin .add (.t 128) (.i 1)) (.o 130 (.bin .eql (.t 127) (.t 129)) .nil)))) (.o 131 (.pick (.t 126) (.t 130) (.c (.bool false))) (.o 132 (.m 131) (.grd 132 true (.o 133 (.m 13) (.o 134 (.m 10) (.o 135 (.bin .eql (.t 133) (.t 134)) .nil))) (.o 136 (.pick (.t 132) (.t 135) (.c (.bool false))) (.o 137 (.m 136) (.grd 137 true (.o 138 (.m 14) (.o 139 (.bin .eql (.t 138) (.i 0)) .nil)) (.o 140 (.pick (.t 137) (.t 139) (.c (.bool false))) (.o 4 (.m 140) .nil))))))))))))))) .ret) (.seq (rf (.o 142 (.bin .eql (.t 116) (.i 1)) (.o 141 (.m 142) .nil))) (.cond (.t 141) (.seq (rf (.o 143 (.m 5) (.o 144 (.m 143) (.grd 144 true (.o 145 (.m 11) (.o 146 (.m 8) (.o 147 (.bin .eql (.t 145) (.t 146)) .nil))) (.o 148 (.pick (.t 144) (.t 147) (.c (.bool false))) (.o 149 (.m 148) (.grd 149 true (.o 150 (.m 12) (.o 151 (.m 9) (.o 152 (.bin .add (.t 151) (.i 1)) (.o 153 (.bin .eql (.t 150) (.t 152)) .nil)))) (.o 154 (.pick (.t 149) (.t 153) (.c (.bool false))) (.o 155 (.m 154) (.grd 155 true (.o 156 (.m 13) (.o 157 (.m 10) (.o 158 (.bin .eql (.t 156) (.t 157)) .nil))) (.o 159 (.pick (.t 155) (.t 158) (.c (.bool false))) (.o 160 (.m 159) (.grd 160 true (.o 161 (.m 14) (.o 162 (.bin .eql (.t 161) (.i 0)) .nil)) (.o 163 (.pick (.t 160) (.t 162) (.c (.bool false))) (.o 4 (.m 163) .nil))))))))))))))) .ret) (.seq (rf (.o 165 (.bin .eql (.t 116) (.i 2)) (.o 164 (.m 165) .nil))) (.cond (.t 164) (.seq (rf (.o 166 (.m 5) (.o 167 (.m 166) (.grd 167 true (.o 168 (.m 11) (.o 169 (.m 8) (.o 170 (.bin .eql (.t 168) (.t 169)) .nil))) (.o 171 (.pick (.t 167) (.t 170) (.c (.bool false))) (.o 172 (.m 171) (.grd 172 true (.o 173 (.m 12) (.o 174 (.m 9) (.o 175 (.bin .sub (.t 174) (.i 1)) (.o 176 (.bin .eql (.t 173) (.t 175)) .nil)))) (.o 177 (.pick (.t 172) (.t 176) (.c (.bool false))) (.o 178 (.m 177) (.grd 178 true (.o 179 (.m 13) (.o 180 (.m 10) (.o 181 (.bin .leq (.t 179) (.t 180)) .nil))) (.o 182 (.pick (.t 178) (.t 181) (.c (.bool false))) (.o 183 (.m 182) (.grd 183 true (.o 184 (.m 14) (.o 185 (.bin .leq (.t 184) (.i 0)) .nil)) (.o 186 (.pick (.t 183) (.t 185) (.c (.bool false))) (.o 4 (.m 186) .nil))))))))))))))) .ret) (.seq (rf (.o 188 (.bin .eql (.t 116) (.i 3)) (.o 187 (.m 188) .nil))) (.cond (.t 187) (.seq (rf (.o 189 (.m 5) (.o 190 (.m 189) (.grd 190 true (.o 191 (.m 11) (.o 192 (.m 8) (.o 193 (.bin .eql (.t 191) (.t 192)) .nil))) (.o 194 (.pick (.t 190) (.t 193) (.c (.bool false))) (.o 195 (.m 194) (.grd 195 true (.o 196 (.m 12) (.o 197 (.m 9) (.o 198 (.bin .eql (.t 196) (.t 197)) .nil))) (.o 199 (.pick (.t 195) (.t 198) (.c (.bool false))) (.o 200 (.m 199) (.grd 200 true (.o 201 (.m 13) (.o 202 (.m 10) (.o 203 (.bin .eql (.t 201) (.t 202)) .nil))) (.o 204 (.pick (.t 200) (.t 203) (.c (.bool false))) (.o 205 (.m 204) (.grd 205 true (.o 206 (.m 14) (.o 207 (.bin .eql (.t 206) (.i 1)) .nil)) (.o 208 (.pick (.t 205) (.t 207) (.c (.bool false))) (.o 4 (.m 208) .nil))))))))))))))) .ret) (.seq (rf (.o 210 (.bin .eql (.t 116) (.i 4)) (.o 209 (.m 210) .nil))) (.cond (.t 209) (.seq (rf (.o 211 (.m 5) (.o 212 (.m 211) (.grd 212 true (.o 213 (.m 11) (.o 214 (.m 8) (.o 215 (.bin .eql (.t 213) (.t 214)) .nil))) (.o 216 (.pick (.t 212) (.t 215) (.c (.bool false))) (.o 217 (.m 216) (.grd 217 true (.o 218 (.m 12) (.o 219 (.m 9) (.o 220 (.bin .eql (.t 218) (.t 219)) .nil))) (.o 221 (.pick (.t 217) (.t 220) (.c (.bool false))) (.o 222 (.m 221) (.grd 222 true (.o 223 (.m 13) (.o 224 (.m 10) (.o 225 (.bin .eql (.t 223) (.t 224)) .nil))) (.o 226 (.pick (.t 222) (.t 225) (.c (.bool false))) (.o 227 (.m 226) (.grd 227 true (.o 228 (.m 14) (.o 229 (.bin .eql (.t 228) (.c (.int .i64 (-1)))) .nil)) (.o 230 (.pick (.t 227) (.t 229) (.c (.bool false))) (.o 4 (.m 230) .nil))))))))))))))) .ret) (.seq (rf (.o 232 (.bin .eql (.t 116) (.i 5)) (.o 231 (.m 232) .nil))) (.cond (.t 231) (.seq (rf (.o 233 (.m 5) (.o 234 (.m 233) (.grd 234 true (.o 235 (.m 11) (.o 236 (.m 8) (.o 237 (.bin .eql (.t 235) (.t 236)) .nil))) (.o 238 (.pick (.t 234) (.t 237) (.c (.bool false))) (.o 239 (.m 238) (.grd 239 true (.o 240 (.m 12) (.o 241 (.m 9) (.o 242 (.bin .eql (.t 240) (.t 241)) .nil))) (.o 243 (.pick (.t 239) (.t 242) (.c (.bool false))) (.o 244 (.m 243) (.grd 244 true (.o 245 (.m 13) (.o 246 (.m 10) (.o 247 (.bin .eql (.t 245) (.t 246)) .nil))) (.o 248 (.pick (.t 244) (.t 247) (.c (.bool false))) (.o 249 (.m 248) (.grd 249 true (.o 250 (.m 14) (.o 251 (.bin .eql (.t 250) (.i 0)) .nil)) (.o 252 (.pick (.t 249) (.t 251) (.c (.bool false))) (.o 4 (.m 252) .nil))))))))))))))) .ret) (.seq (rf (.o 254 (.bin .eql (.t 116) (.i 6)) (.o 253 (.m 254) .nil))) (.cond (.t 253) (.seq (rf (.o 255 (.m 5) (.o 256 (.m 255) (.grd 256 true (.o 257 (.m 11) (.o 258 (.m 8) (.o 259 (.bin .eql (.t 257) (.t 258)) .nil))) (.o 260 (.pick (.t 256) (.t 259) (.c (.bool false))) (.o 261 (.m 260) (.grd 261 true (.o 262 (.m 12) (.o 263 (.m 9) (.o 264 (.bin .eql (.t 262) (.t 263)) .nil))) (.o 265 (.pick (.t 261) (.t 264) (.c (.bool false))) (.o 266 (.m 265) (.grd 266 true (.o 267 (.m 13) (.o 268 (.m 10) (.o 269 (.bin .add (.t 268) (.i 1)) (.o 270 (.bin .eql (.t 267) (.t 269)) .nil)))) (.o 271 (.pick (.t 266) (.t 270) (.c (.bool false))) (.o 272 (.m 271) (.grd 272 true (.o 273 (.m 14) (.o 274 (.bin .eql (.t 273) (.i 0)) .nil)) (.o 275 (.pick (.t 272) (.t 274) (.c (.bool false))) (.o 4 (.m 275) .nil))))))))))))))) .ret) .skip)))))))))))))))) (.seq (rf (.o 276 (.m 5) (.o 277 (.m 276) (.grd 277 true (.o 278 (.m 11) (.o 279 (.m 8) (.o 280 (.bin .eql (.t 278) (.t 279)) .nil))) (.o 281 (.pick (.t 277) (.t 280) (.c (.bool false))) (.o 282 (.m 281) (.grd 282 true (.o 283 (.m 12) (.o 284 (.m 9) (.o 285 (.bin .eql (.t 283) (.t 284)) .nil))) (.o 286 (.pick (.t 282) (.t 285) (.c (.bool false))) (.o 287 (.m 286) (.grd 287 true (.o 288 (.m 13) (.o 289 (.m 10) (.o 290 (.bin .sub (.t 289) (.i 1)) (.o 291 (.bin .eql (.t 288) (.t 290)) .nil)))) (.o 292 (.pick (.t 287) (.t 291) (.c (.bool false))) (.o 293 (.m 292) (.grd 293 true (.o 294 (.m 14) (.o 295 (.bin .eql (.t 294) (.i 0)) .nil)) (.o 296 (.pick (.t 293) (.t 295) (.c (.bool false))) (.o 4 (.m 296) .nil))))))))))))))) .ret))))))))))), [.tmp 4]⟩
theorem b9 : fnOf Go.Proofs.Tryz.prog (owOf []) 9 = some c9 := by kernel_rfl
def sA (p : List Fn) (k : Nat) : Nat := ((p.take k).map suF).sum
def sB (g : Fn) (j : Nat) : Nat := ((g.bs.take j).map fun b => b.succ.length).sum
theorem sA_s {p : List Fn} {k : Nat} (h : k < p.length) : sA p (k + 1) = sA p k + sB (p.getD k F0) (p.getD k F0).bs.length := by
  rw [sA, ← take_snoc1 h F0, List.map_append, List.sum_append, sB, List.take_length]
  simp [sA, suF]
theorem sB_s {g : Fn} {j : Nat} (h : j < g.bs.length) : sB g (j + 1) = sB g j + (g.bs.getD j B0).succ.length := by
  rw [sB, ← take_snoc1 h B0, List.map_append, List.sum_append]
  simp [sB]
theorem sB_le {p : List Fn} (hf : few p = true) (k : Nat) : ∀ j, j ≤ (p.getD k F0).bs.length → sB (p.getD k F0) j ≤ j * 30
  | 0, _ => by simp [sB]
  | j + 1, h => by
    rw [sB_s (by omega)]
    have := sB_le hf k j (by omega)
    have := ((few_at hf k).2 j).2
    omega
theorem sA_le {p : List Fn} (hf : few p = true) : ∀ k, k ≤ p.length → sA p k ≤ k * 600
  | 0, _ => by simp [sA]
  | k + 1, h => by
    rw [sA_s (by omega)]
    have := sA_le hf k (by omega)
    have := sB_le hf k _ (Nat.le_refl _)
    have := (few_at hf k).1
    omega
theorem sA_all (p : List Fn) : sA p p.length = suP p := by rw [sA, List.take_length]; rfl
theorem nlF_le2 {p : List Fn} (hf : few p = true) : ∀ k, k ≤ p.length → nlF p k ≤ k * 20
  | 0, _ => by simp [nlF]
  | k + 1, h => by
    rw [nlF_s (by omega)]
    have := nlF_le2 hf k (by omega)
    have := nlB_le (p.getD k F0).bs (p.getD k F0).bs.length
    have := (few_at hf k).1
    omega
theorem l_ApplyCounts (p : List Fn) (e : Ed) : Pure Go.Proofs.Tryz.prog glD 9 [pP p, pE e] (.bool true) := by
  have hw := p_Few (gl := glD) p
  cases hf : few p with
  | false =>
    rw [hf] at hw
    refine Pure.fn hmix b9 ?_
    repeat' first | (with_reducible first | refine tr_seq ?_ | refine n_nil ?_ | refine seqQ_normal ?_ | refine seqQ_exit ?_ | refine seqQ_ret ?_ | refine blkQ_normal ?_ | refine blkQ_exit ?_ | refine blkQ_ret ?_ | refine tr_block ?_ | refine tr_skip ?_ | refine tr_exit ?_ | refine tr_ret ?_ | refine condT_t ?_ | refine condT_f ?_ | refine loopV_exit ?_ | refine loopV_ret ?_) | ((with_reducible refine tr_region_f ?_ ?_); kernel_rfl) | exact ⟨rfl, rfl⟩ | ((with_reducible refine blkQ_exit_ne ?_ ?_); rfl) | ((with_reducible apply tr_cond_e); rfl) | ((with_reducible refine condT_T ?_ ?_); decide +kernel) | ((with_reducible refine condT_F ?_ ?_); decide +kernel) | ((with_reducible apply n_andF); rfl; rfl; decide +kernel) | ((with_reducible apply n_orT); rfl; rfl; decide +kernel) | ((with_reducible apply n_and); rfl; rfl; intro h) | ((with_reducible apply n_or); rfl; rfl; intro h) | with_reducible refine unrQ_normal ?_ | with_reducible refine unrQ_exit ?_ | with_reducible refine unrQ_ret ?_ | ((with_reducible apply n_call (f := 16)); rfl; rfl; exact hw) | ((with_reducible apply n_val); rfl; rfl) | ((with_reducible apply n_new); rfl; (first | (simp only [hn0, hn1, hn2, hn3, hn4, hn5, List.length_cons, List.length_nil, Nat.reduceAdd, Nat.zero_add]; first | done | rfl) | rfl); rfl) | ((with_reducible apply n_store); rfl; rfl; rfl; rfl; rfl) | ((with_reducible apply n_call (f := 35)); rfl; rfl; exact p_awake8) | (with_reducible refine condT_split (fun h => ?_) (fun h => ?_)) | ((with_reducible apply fnQ_told_ret); rfl) | ((with_reducible apply fnQ_ret_soft); rfl; rfl)
    all_goals rfl
  | true =>
    rw [hf] at hw
    have hs := p_Sane p (few_fit hf)
    have hc := p_edCheck p e hf
    by_cases hcS : sane p = true ∧ cheV p e = 0
    rotate_left
    · have hz : (!sane p || cheV p e != 0) = true := by
        by_cases h1 : sane p = true
        · have : cheV p e ≠ 0 := fun h => hcS ⟨h1, h⟩
          simp [h1, this]
        · simp [h1]
      generalize sane p = S at *
      generalize cheV p e = c at *
      refine Pure.fn hmix b9 ?_
      repeat' first | (with_reducible first | refine tr_seq ?_ | refine n_nil ?_ | refine seqQ_normal ?_ | refine seqQ_exit ?_ | refine seqQ_ret ?_ | refine blkQ_normal ?_ | refine blkQ_exit ?_ | refine blkQ_ret ?_ | refine tr_block ?_ | refine tr_skip ?_ | refine tr_exit ?_ | refine tr_ret ?_ | refine condT_t ?_ | refine condT_f ?_ | refine loopV_exit ?_ | refine loopV_ret ?_) | ((with_reducible refine tr_region_f ?_ ?_); kernel_rfl) | exact ⟨rfl, rfl⟩ | ((with_reducible refine blkQ_exit_ne ?_ ?_); rfl) | ((with_reducible apply tr_cond_e); rfl) | ((with_reducible refine condT_T ?_ ?_); exact rfl) | ((with_reducible refine condT_F ?_ ?_); exact rfl) | ((with_reducible apply n_and); rfl; rfl; intro h) | ((with_reducible apply n_or); rfl; rfl; intro h) | ((with_reducible apply n_call (f := 16)); rfl; rfl; exact hw) | ((with_reducible apply n_call (f := 17)); rfl; rfl; exact hs) | ((with_reducible apply n_call (f := 38)); rfl; rfl; exact hc) | (exfalso; rename (_ || _) = false => hy; rw [Bool.not_true, Bool.false_or, hz] at hy; cases hy) | (first | ((with_reducible apply n_bin); rfl; rfl; focus ((with_reducible (first | apply b_add | apply b_sub)) <;> first | omega | decide | (simp only [zz] at *; omega))) | ((with_reducible apply n_max); rfl; rfl) | ((with_reducible apply n_min); rfl; rfl)) | ((with_reducible apply n_val); rfl; rfl) | ((with_reducible apply n_new); rfl; (first | (simp only [hn0, hn1, hn2, hn3, hn4, hn5, List.length_cons, List.length_nil, Nat.reduceAdd, Nat.zero_add]; first | done | rfl) | rfl); rfl) | ((with_reducible apply n_store); rfl; rfl; rfl; rfl; rfl) | ((with_reducible apply n_call (f := 35)); rfl; rfl; exact p_awake8) | (with_reducible refine condT_split (fun h => ?_) (fun h => ?_)) | ((with_reducible apply fnQ_told_ret); rfl) | ((with_reducible apply fnQ_ret_soft); rfl; rfl)
      all_goals rfl
    obtain ⟨hS, hC⟩ := hcS
    rw [hS] at hs
    have hq := few_applyV e hf
    have hSq : sane (applyV p e) = true := sane_apply hC
    have h1 := p_Apply p e hf
    have h2 : Pure Go.Proofs.Tryz.prog glD 40 [pP p] (.tup [.int .i64 (p.length : Nat), .int .i64 (liP p : Nat), .int .i64 (coP p : Nat)]) := by
      have := p_Count p hf
      rwa [countV, if_pos hS, liP_eq, coP_eq] at this
    have h3 : Pure Go.Proofs.Tryz.prog glD 40 [pP (applyV p e)] (.tup [.int .i64 ((applyV p e).length : Nat), .int .i64 (liP (applyV p e) : Nat), .int .i64 (coP (applyV p e) : Nat)]) := by
      have := p_Count _ hq
      rwa [countV, if_pos hSq, liP_eq, coP_eq] at this
    have w1 := (few_bs hf).1
    have w2 := nlF_le2 hf _ (Nat.le_refl _)
    have w3 := insP_le hf
    have w4 := sA_le hf
    have w5 := fun k => (few_at hf k).1
    have w6 := sB_le hf
    have v1 := (few_bs hq).1
    have v4 := sA_le hq
    have v5 := fun k => (few_at hq k).1
    have v6 := sB_le hq
    rw [liP_eq] at w2
    rw [coP_eq] at w3
    obtain ⟨c0, c1, c2, c3, c4, c5, c6, c7⟩ := cnt_law hC
    have ho := che_op hC
    rw [hC] at hc h1
    generalize applyV p e = q at *
    generalize liP p = L1 at *
    generalize coP p = C1 at *
    generalize liP q = L2 at *
    generalize coP q = C2 at *
    refine Pure.fn hmix b9 ?_
    repeat' first | (with_reducible first | refine tr_seq ?_ | refine n_nil ?_ | refine seqQ_normal ?_ | refine seqQ_exit ?_ | refine seqQ_ret ?_ | refine blkQ_normal ?_ | refine blkQ_exit ?_ | refine blkQ_ret ?_ | refine tr_block ?_ | refine tr_skip ?_ | refine tr_exit ?_ | refine tr_ret ?_ | refine condT_t ?_ | refine condT_f ?_ | refine loopV_exit ?_ | refine loopV_ret ?_) | ((with_reducible refine tr_region_f ?_ ?_); kernel_rfl) | exact ⟨rfl, rfl⟩ | ((with_reducible refine blkQ_exit_ne ?_ ?_); rfl) | ((with_reducible apply tr_cond_e); rfl) | ((with_reducible refine condT_T ?_ ?_); exact rfl) | ((with_reducible refine condT_F ?_ ?_); exact rfl) | ((with_reducible apply n_and); rfl; rfl; intro h) | ((with_reducible apply n_or); rfl; rfl; intro h) | ((with_reducible apply n_call (f := 16)); rfl; rfl; exact hw) | ((with_reducible apply n_call (f := 17)); rfl; rfl; exact hs) | ((with_reducible apply n_call (f := 38)); rfl; rfl; exact hc) | ((with_reducible apply n_call (f := 39)); rfl; rfl; exact h1) | ((with_reducible apply n_call (f := 40)); rfl; rfl; exact h2) | ((with_reducible apply n_call (f := 40)); rfl; rfl; exact h3) | ((with_reducible apply n_idx_vals F0); rfl; rfl; exact (fun _ => rfl); (first | omega | decide | (simp only [zz] at *; omega))) | ((with_reducible apply n_idx_vals B0); rfl; rfl; exact (fun _ => rfl); (first | omega | decide | (simp only [zz] at *; omega))) | (first | ((with_reducible apply n_bin); rfl; rfl; focus ((with_reducible (first | apply b_add | apply b_sub)) <;> first | omega | decide | (simp only [zz] at *; omega))) | ((with_reducible apply n_max); rfl; rfl) | ((with_reducible apply n_min); rfl; rfl)) | (refine tr_loop_v (α := Nat × Int) 3 (fun | (k, n) => [(14, some (.int .i64 n)), (15, some (.int .i64 (k : Int))), (53, none), (54, none), (55, none), (56, none), (57, none), (16, none), (60, none), (61, none), (62, none), (63, none), (64, none), (65, none), (66, none), (67, none), (68, none), (71, none), (72, none), (73, none), (74, none), (75, none), (76, none), (77, none), (78, none), (79, none), (80, none), (81, none), (82, none), (83, none), (69, none), (70, none), (58, none), (59, none)]) (fun | (k, n) => [some ⟨0, 1, [pP p]⟩, some ⟨0, 17, [pE e]⟩, some ⟨0, 1, [pP q]⟩]) (fun | (k, n) => k ≤ p.length ∧ n = -(sA p k : Nat) ∧ sA p k ≤ 6000) (fun | (k, n) => p.length - k) ((0, 0)) (ks := [14, 15, 53, 54, 55, 56, 57, 16, 60, 61, 62, 63, 64, 65, 66, 67, 68, 71, 72, 73, 74, 75, 76, 77, 78, 79, 80, 81, 82, 83, 69, 70, 58, 59]) (fun _ => rfl) (fun _ => rfl) rfl (by omega) ?_ ⟨⟨_, rfl, rfl⟩, ⟨_, rfl, rfl⟩, trivial⟩ ⟨⟨_, rfl, rfl, rfl, rfl⟩, ⟨_, rfl, rfl, rfl, rfl⟩, ⟨_, rfl, rfl, rfl, rfl⟩, trivial⟩ ?_; rotate_left; rintro ⟨k, n⟩ hx; try dsimp only at hx) | ((first | (refine loopV_normal ((k + 1, n)) ?_ ⟨⟨_, rfl, rfl⟩, ⟨_, rfl, rfl⟩, trivial⟩ ⟨⟨_, rfl, rfl, rfl, rfl⟩, ⟨_, rfl, rfl, rfl, rfl⟩, ⟨_, rfl, rfl, rfl, rfl⟩, trivial⟩ ?_ ?_)); repeat (first | exact only_refl | refine only_put rfl ?_ | refine only_less rfl ?_ | refine only_ov rfl ?_)) | (refine tr_loop_v (α := Nat × Int) 3 (fun | (j, n) => [(14, some (.int .i64 n)), (16, some (.int .i64 (j : Int))), (60, none), (61, none), (62, none), (63, none), (64, none), (65, none), (66, none), (67, none), (68, none), (71, none), (72, none), (73, none), (74, none), (75, none), (76, none), (77, none), (78, none), (79, none), (80, none), (81, none), (82, none), (83, none), (69, none), (70, none)]) (fun | (j, n) => [some ⟨0, 1, [pP p]⟩, some ⟨0, 17, [pE e]⟩, some ⟨0, 1, [pP q]⟩]) (fun | (j, n) => j ≤ (p.getD k F0).bs.length ∧ n = -(sA p k : Nat) - (sB (p.getD k F0) j : Nat) ∧ sA p k ≤ 6000 ∧ sB (p.getD k F0) j ≤ 600 ∧ ((p.getD k F0).bs.getD j B0).succ.length ≤ 30 ∧ (p.getD k F0).bs.length ≤ 20 ∧ k < p.length) (fun | (j, n) => (p.getD k F0).bs.length - j) ((0, n)) (ks := [14, 16, 60, 61, 62, 63, 64, 65, 66, 67, 68, 71, 72, 73, 74, 75, 76, 77, 78, 79, 80, 81, 82, 83, 69, 70]) (fun _ => rfl) (fun _ => rfl) rfl (by omega) ?_ ⟨⟨_, rfl, rfl⟩, ⟨_, rfl, rfl⟩, trivial⟩ ⟨⟨_, rfl, rfl, rfl, rfl⟩, ⟨_, rfl, rfl, rfl, rfl⟩, ⟨_, rfl, rfl, rfl, rfl⟩, trivial⟩ ?_; rotate_left; rintro ⟨j, n⟩ hx; try dsimp only at hx) | ((first | (refine loopV_normal ((j + 1, n - ((ints ((p.getD k F0).bs.getD j B0).succ).length : Nat))) ?_ ⟨⟨_, rfl, rfl⟩, ⟨_, rfl, rfl⟩, trivial⟩ ⟨⟨_, rfl, rfl, rfl, rfl⟩, ⟨_, rfl, rfl, rfl, rfl⟩, ⟨_, rfl, rfl, rfl, rfl⟩, trivial⟩ ?_ ?_)); repeat (first | exact only_refl | refine only_put rfl ?_ | refine only_less rfl ?_ | refine only_ov rfl ?_)) | (refine tr_loop_v (α := Nat × Int) 3 (fun | (k, n) => [(14, some (.int .i64 n)), (17, some (.int .i64 (k : Int))), (84, none), (85, none), (86, none), (87, none), (88, none), (18, none), (91, none), (92, none), (93, none), (94, none), (95, none), (96, none), (97, none), (98, none), (99, none), (102, none), (103, none), (104, none), (105, none), (106, none), (107, none), (108, none), (109, none), (110, none), (111, none), (112, none), (113, none), (114, none), (100, none), (101, none), (89, none), (90, none)]) (fun | (k, n) => [some ⟨0, 1, [pP p]⟩, some ⟨0, 17, [pE e]⟩, some ⟨0, 1, [pP q]⟩]) (fun | (k, n) => k ≤ q.length ∧ n = -(suP p : Nat) + (sA q k : Nat) ∧ sA q k ≤ 6000 ∧ suP p ≤ 6000) (fun | (k, n) => q.length - k) ((0, n)) (ks := [14, 17, 84, 85, 86, 87, 88, 18, 91, 92, 93, 94, 95, 96, 97, 98, 99, 102, 103, 104, 105, 106, 107, 108, 109, 110, 111, 112, 113, 114, 100, 101, 89, 90]) (fun _ => rfl) (fun _ => rfl) rfl (by omega) ?_ ⟨⟨_, rfl, rfl⟩, ⟨_, rfl, rfl⟩, trivial⟩ ⟨⟨_, rfl, rfl, rfl, rfl⟩, ⟨_, rfl, rfl, rfl, rfl⟩, ⟨_, rfl, rfl, rfl, rfl⟩, trivial⟩ ?_; rotate_left; rintro ⟨k, n⟩ hx; try dsimp only at hx) | ((first | (refine loopV_normal ((k + 1, n)) ?_ ⟨⟨_, rfl, rfl⟩, ⟨_, rfl, rfl⟩, trivial⟩ ⟨⟨_, rfl, rfl, rfl, rfl⟩, ⟨_, rfl, rfl, rfl, rfl⟩, ⟨_, rfl, rfl, rfl, rfl⟩, trivial⟩ ?_ ?_)); repeat (first | exact only_refl | refine only_put rfl ?_ | refine only_less rfl ?_ | refine only_ov rfl ?_)) | (refine tr_loop_v (α := Nat × Int) 3 (fun | (j, n) => [(14, some (.int .i64 n)), (18, some (.int .i64 (j : Int))), (91, none), (92, none), (93, none), (94, none), (95, none), (96, none), (97, none), (98, none), (99, none), (102, none), (103, none), (104, none), (105, none), (106, none), (107, none), (108, none), (109, none), (110, none), (111, none), (112, none), (113, none), (114, none), (100, none), (101, none)]) (fun | (j, n) => [some ⟨0, 1, [pP p]⟩, some ⟨0, 17, [pE e]⟩, some ⟨0, 1, [pP q]⟩]) (fun | (j, n) => j ≤ (q.getD k F0).bs.length ∧ n = -(suP p : Nat) + (sA q k : Nat) + (sB (q.getD k F0) j : Nat) ∧ sA q k ≤ 6000 ∧ sB (q.getD k F0) j ≤ 600 ∧ ((q.getD k F0).bs.getD j B0).succ.length ≤ 30 ∧ (q.getD k F0).bs.length ≤ 20 ∧ k < q.length ∧ suP p ≤ 6000) (fun | (j, n) => (q.getD k F0).bs.length - j) ((0, n)) (ks := [14, 18, 91, 92, 93, 94, 95, 96, 97, 98, 99, 102, 103, 104, 105, 106, 107, 108, 109, 110, 111, 112, 113, 114, 100, 101]) (fun _ => rfl) (fun _ => rfl) rfl (by omega) ?_ ⟨⟨_, rfl, rfl⟩, ⟨_, rfl, rfl⟩, trivial⟩ ⟨⟨_, rfl, rfl, rfl, rfl⟩, ⟨_, rfl, rfl, rfl, rfl⟩, ⟨_, rfl, rfl, rfl, rfl⟩, trivial⟩ ?_; rotate_left; rintro ⟨j, n⟩ hx; try dsimp only at hx) | ((first | (refine loopV_normal ((j + 1, n + ((ints ((q.getD k F0).bs.getD j B0).succ).length : Nat))) ?_ ⟨⟨_, rfl, rfl⟩, ⟨_, rfl, rfl⟩, trivial⟩ ⟨⟨_, rfl, rfl, rfl, rfl⟩, ⟨_, rfl, rfl, rfl, rfl⟩, ⟨_, rfl, rfl, rfl, rfl⟩, trivial⟩ ?_ ?_)); repeat (first | exact only_refl | refine only_put rfl ?_ | refine only_less rfl ?_ | refine only_ov rfl ?_)) | ((with_reducible apply n_val); rfl; rfl) | ((with_reducible apply n_new); rfl; (first | (simp only [hn0, hn1, hn2, hn3, hn4, hn5, List.length_cons, List.length_nil, Nat.reduceAdd, Nat.zero_add]; first | done | rfl) | rfl); rfl) | ((with_reducible apply n_store); rfl; rfl; rfl; rfl; rfl) | ((with_reducible apply n_call (f := 35)); rfl; rfl; exact p_awake8) | (with_reducible refine condT_split (fun h => ?_) (fun h => ?_)) | ((with_reducible apply fnQ_told_ret); rfl) | ((with_reducible apply fnQ_ret_soft); rfl; rfl)
    all_goals (clear hw hs hc h1 h2 h3; try dsimp only at *)
    all_goals (try simp only [decide_eq_true_eq, decide_eq_false_iff_not, List.length_map, ints_length, Int.toNat_natCast] at *)
    · omega
    · have e := sB_s (g := p.getD k F0) (j := j) (by omega)
      have l := w6 k (j + 1) (by omega)
      have m := ((few_at hf k).2 (j + 1)).2
      refine ⟨by omega, by omega, by omega, by omega, m, by omega, by omega⟩
    · omega
    · have e := sA_s (p := p) (k := k) (by omega)
      have ej : j = (p.getD k F0).bs.length := by omega
      rw [ej] at hx
      have l := w4 (k + 1) (by omega)
      refine ⟨by omega, by omega, by omega⟩
    · have l := w4 k (by omega)
      have z : sB (p.getD k F0) 0 = 0 := by simp [sB]
      have m := ((few_at hf k).2 0).2
      have m2 := w5 k
      refine ⟨Nat.zero_le _, by omega, by omega, by omega, m, by omega, by omega⟩
    · omega
    · have e := sB_s (g := q.getD k F0) (j := j) (by omega)
      have l := v6 k (j + 1) (by omega)
      have m := ((few_at hq k).2 (j + 1)).2
      refine ⟨by omega, by omega, by omega, by omega, m, by omega, by omega, by omega⟩
    · omega
    · have e := sA_s (p := q) (k := k) (by omega)
      have ej : j = (q.getD k F0).bs.length := by omega
      rw [ej] at hx
      have l := v4 (k + 1) (by omega)
      refine ⟨by omega, by omega, by omega, by omega⟩
    · have l := v4 k (by omega)
      have z : sB (q.getD k F0) 0 = 0 := by simp [sB]
      have m := ((few_at hq k).2 0).2
      have m2 := v5 k
      refine ⟨Nat.zero_le _, by omega, by omega, by omega, m, by omega, by omega, by omega⟩
    · have o : e.op = 0 := by simpa using ‹(e.op == 0) = true›
      obtain ⟨z1, z2, z3, z4⟩ := c0 o
      have ek : k = q.length := by omega
      subst ek
      rw [sA_all] at hx
      refine congrArg PV.bool ?_
      simp only [Bool.true_and, Bool.and_eq_true, beq_iff_eq, decide_eq_true_eq]
      refine ⟨⟨⟨?_, ?_⟩, ?_⟩, ?_⟩ <;> omega
    · have o : e.op = 1 := by simpa using ‹(e.op == 1) = true›
      obtain ⟨z1, z2, z3, z4⟩ := c1 o
      have ek : k = q.length := by omega
      subst ek
      rw [sA_all] at hx
      refine congrArg PV.bool ?_
      simp only [Bool.true_and, Bool.and_eq_true, beq_iff_eq, decide_eq_true_eq]
      refine ⟨⟨⟨?_, ?_⟩, ?_⟩, ?_⟩ <;> omega
    · have o : e.op = 2 := by simpa using ‹(e.op == 2) = true›
      obtain ⟨z1, z2, z3, z4⟩ := c2 o
      have ek : k = q.length := by omega
      subst ek
      rw [sA_all] at hx
      refine congrArg PV.bool ?_
      simp only [Bool.true_and, Bool.and_eq_true, beq_iff_eq, decide_eq_true_eq]
      refine ⟨⟨⟨?_, ?_⟩, ?_⟩, ?_⟩ <;> omega
    · have o : e.op = 3 := by simpa using ‹(e.op == 3) = true›
      obtain ⟨z1, z2, z3, z4⟩ := c3 o
      have ek : k = q.length := by omega
      subst ek
      rw [sA_all] at hx
      refine congrArg PV.bool ?_
      simp only [Bool.true_and, Bool.and_eq_true, beq_iff_eq, decide_eq_true_eq]
      refine ⟨⟨⟨?_, ?_⟩, ?_⟩, ?_⟩ <;> omega
    · have o : e.op = 4 := by simpa using ‹(e.op == 4) = true›
      obtain ⟨z1, z2, z3, z4⟩ := c4 o
      have ek : k = q.length := by omega
      subst ek
      rw [sA_all] at hx
      refine congrArg PV.bool ?_
      simp only [Bool.true_and, Bool.and_eq_true, beq_iff_eq, decide_eq_true_eq]
      refine ⟨⟨⟨?_, ?_⟩, ?_⟩, ?_⟩ <;> omega
    · have o : e.op = 5 := by simpa using ‹(e.op == 5) = true›
      obtain ⟨z1, z2, z3, z4⟩ := c5 o
      have ek : k = q.length := by omega
      subst ek
      rw [sA_all] at hx
      refine congrArg PV.bool ?_
      simp only [Bool.true_and, Bool.and_eq_true, beq_iff_eq, decide_eq_true_eq]
      refine ⟨⟨⟨?_, ?_⟩, ?_⟩, ?_⟩ <;> omega
    · have o : e.op = 6 := by simpa using ‹(e.op == 6) = true›
      obtain ⟨z1, z2, z3, z4⟩ := c6 o
      have ek : k = q.length := by omega
      subst ek
      rw [sA_all] at hx
      refine congrArg PV.bool ?_
      simp only [Bool.true_and, Bool.and_eq_true, beq_iff_eq, decide_eq_true_eq]
      refine ⟨⟨⟨?_, ?_⟩, ?_⟩, ?_⟩ <;> omega
    · have o : e.op = 7 := by simp only [beq_eq_false_iff_ne, ne_eq] at *; omega
      obtain ⟨z1, z2, z3, z4⟩ := c7 o
      have ek : k = q.length := by omega
      subst ek
      rw [sA_all] at hx
      refine congrArg PV.bool ?_
      simp only [Bool.true_and, Bool.and_eq_true, beq_iff_eq, decide_eq_true_eq]
      refine ⟨⟨⟨?_, ?_⟩, ?_⟩, ?_⟩ <;> omega
    · have ek : k = p.length := by omega
      subst ek
      rw [sA_all] at hx
      have z : sA q 0 = 0 := by simp [sA]
      refine ⟨Nat.zero_le _, by omega, by omega, by omega⟩
    · have z : sA p 0 = 0 := by simp [sA]
      refine ⟨Nat.zero_le _, by omega, by omega⟩
end Go.Vm
