/- Laid. -/
import Derived.Test.YtlllcmahmgdppaaDoorVmThree
import Derived.KernelRfl
import Derived.Test.YtlllcmahmgdppaaDoorProg
import Derived.Test.YtlllcmahmgdppaaDoorXprogD
section
/- Code. -/
set_option maxRecDepth 100000
set_option linter.unusedSimpArgs false
set_option linter.unusedVariables false
namespace Go.Vm
open Go
def c5 : RFn := ⟨(.seq (.region (Nodes.flat none (.op (some 4) (.box (.t 0)) 0
  (.op (some 8) (.move (.c (.bool false))) 0
  .nil))) false)
 (.seq (.region (Nodes.flat none (.op (some 19) (.call 6 []) 0
  (.op (some 9) (.move (.t 19)) 0
  .nil))) false)
 (.seq (.seq (.region (Nodes.flat none (.op (some 20) (.load (some 1) (.t 4)) 0
  (.op (some 21) (.call 7 [(.t 20)]) 0
  (.op (some 22) (.un .not (.t 21)) 0
  (.op (some 23) (.move (.t 22)) 0
  (.grd 23 false
  (.op (some 24) (.load (some 1) (.t 4)) 0
  (.op (some 25) (.call 8 [(.t 24)]) 0
  (.op (some 26) (.un .not (.t 25)) 0
  .nil)))
  (.op (some 27) (.pick (.t 23) (.c (.bool true)) (.t 26)) 0
  .nil))))))) false)
 (.cond (.t 27)
 (.seq (.region (Nodes.flat none (.op (some 28) (.move (.t 9)) 0
  (.op (some 8) (.move (.t 28)) 0
  .nil))) false)
 .ret)
 .skip))
 (.seq (.region (Nodes.flat none (.op (some 30) (.load (some 1) (.t 4)) 0
  (.op (some 31) (.move (.t 1)) 0
  (.op (some 32) (.call 12 [(.t 30), (.t 31)]) 0
  (.op (some 29) (.move (.t 32)) 0
  (.op (some 33) (.extract 0 (.t 29)) 0
  (.op (some 34) (.extract 1 (.t 29)) 0
  (.op (some 10) (.alloc (.agg [(.int .i64 0), (.int .i64 0), (.lit [])])) 0
  (.op none (.store 3 (.t 10) (.t 33)) 0
  (.op (some 11) (.move (.t 34)) 0
  .nil)))))))))) false)
 (.seq (.region (Nodes.flat none (.op (some 36) (.load (some 1) (.t 4)) 0
  (.op (some 37) (.move (.t 1)) 0
  (.op (some 38) (.move (.t 2)) 0
  (.op (some 39) (.call 13 [(.t 36), (.t 37), (.t 38)]) 0
  (.op (some 35) (.move (.t 39)) 0
  (.op (some 40) (.extract 0 (.t 35)) 0
  (.op (some 41) (.extract 1 (.t 35)) 0
  (.op (some 12) (.alloc (.agg [(.bool false), (.lit []), (.lit [])])) 0
  (.op none (.store 3 (.t 12) (.t 40)) 0
  (.op (some 13) (.move (.t 41)) 0
  .nil))))))))))) false)
 (.seq (.region (Nodes.flat none (.op (some 43) (.load (some 1) (.t 4)) 0
  (.op (some 44) (.move (.t 1)) 0
  (.op (some 45) (.move (.t 2)) 0
  (.op (some 46) (.move (.t 3)) 0
  (.op (some 47) (.call 15 [(.t 43), (.t 44), (.t 45), (.t 46)]) 0
  (.op (some 42) (.move (.t 47)) 0
  (.op (some 48) (.extract 0 (.t 42)) 0
  (.op (some 49) (.extract 1 (.t 42)) 0
  (.op (some 14) (.alloc (.agg [(.int .i64 0), (.int .i64 0), (.int .i64 0), (.int .i64 0), (.int .i64 0), (.int .i64 0), (.int .i64 0), (.int .i64 0), (.int .i64 0), (.int .i64 0), (.int .i64 0)])) 0
  (.op none (.store 11 (.t 14) (.t 48)) 0
  (.op (some 15) (.move (.t 49)) 0
  .nil)))))))))))) false)
 (.seq (.region (Nodes.flat none (.op (some 50) (.move (.t 1)) 0
  (.op (some 51) (.bin .geq (.t 50) (.c (.int .i64 0))) 0
  (.op (some 52) (.move (.t 51)) 0
  (.grd 52 true
  (.op (some 53) (.move (.t 1)) 0
  (.op (some 54) (.fieldAddr 0 (.t 4)) 0
  (.op (some 55) (.load none (.t 54)) 0
  (.op (some 56) (.len false (.t 55)) 0
  (.op (some 57) (.bin .lss (.t 53) (.t 56)) 0
  .nil)))))
  (.op (some 58) (.pick (.t 52) (.t 57) (.c (.bool false))) 0
  (.op (some 16) (.move (.t 58)) 0
  .nil))))))) false)
 (.seq (.region (Nodes.flat none (.op (some 59) (.move (.t 16)) 0
  (.op (some 60) (.move (.t 59)) 0
  (.grd 60 true
  (.op (some 61) (.move (.t 2)) 0
  (.op (some 62) (.bin .geq (.t 61) (.c (.int .i64 0))) 0
  .nil))
  (.op (some 63) (.pick (.t 60) (.t 62) (.c (.bool false))) 0
  (.op (some 64) (.move (.t 63)) 0
  (.grd 64 true
  (.op (some 65) (.move (.t 2)) 0
  (.op (some 66) (.fieldAddr 0 (.t 4)) 0
  (.op (some 67) (.load none (.t 66)) 0
  (.op (some 68) (.move (.t 1)) 0
  (.op (some 69) (.idxAddr 3 (.t 67) (.t 68)) 0
  (.op (some 70) (.fieldAddr 2 (.t 69)) 0
  (.op (some 71) (.load none (.t 70)) 0
  (.op (some 72) (.len false (.t 71)) 0
  (.op (some 73) (.bin .lss (.t 65) (.t 72)) 0
  .nil)))))))))
  (.op (some 74) (.pick (.t 64) (.t 73) (.c (.bool false))) 0
  (.op (some 75) (.move (.t 74)) 0
  (.grd 75 true
  (.op (some 76) (.fieldAddr 0 (.t 4)) 0
  (.op (some 77) (.load none (.t 76)) 0
  (.op (some 78) (.move (.t 1)) 0
  (.op (some 79) (.idxAddr 3 (.t 77) (.t 78)) 0
  (.op (some 80) (.fieldAddr 2 (.t 79)) 0
  (.op (some 81) (.load none (.t 80)) 0
  (.op (some 82) (.move (.t 2)) 0
  (.op (some 83) (.idxAddr 3 (.t 81) (.t 82)) 0
  (.op (some 84) (.fieldAddr 0 (.t 83)) 0
  (.op (some 85) (.load none (.t 84)) 0
  .nil))))))))))
  (.op (some 86) (.pick (.t 75) (.t 85) (.c (.bool false))) 0
  (.op (some 17) (.move (.t 86)) 0
  .nil)))))))))))) false)
 (.seq (.region (Nodes.flat none (.op (some 87) (.move (.t 17)) 0
  (.op (some 88) (.move (.t 87)) 0
  (.grd 88 true
  (.op (some 89) (.move (.t 3)) 0
  (.op (some 90) (.bin .geq (.t 89) (.c (.int .i64 0))) 0
  .nil))
  (.op (some 91) (.pick (.t 88) (.t 90) (.c (.bool false))) 0
  (.op (some 92) (.move (.t 91)) 0
  (.grd 92 true
  (.op (some 93) (.move (.t 3)) 0
  (.op (some 94) (.fieldAddr 0 (.t 4)) 0
  (.op (some 95) (.load none (.t 94)) 0
  (.op (some 96) (.move (.t 1)) 0
  (.op (some 97) (.idxAddr 3 (.t 95) (.t 96)) 0
  (.op (some 98) (.fieldAddr 2 (.t 97)) 0
  (.op (some 99) (.load none (.t 98)) 0
  (.op (some 100) (.move (.t 2)) 0
  (.op (some 101) (.idxAddr 3 (.t 99) (.t 100)) 0
  (.op (some 102) (.fieldAddr 1 (.t 101)) 0
  (.op (some 103) (.load none (.t 102)) 0
  (.op (some 104) (.len false (.t 103)) 0
  (.op (some 105) (.bin .lss (.t 93) (.t 104)) 0
  .nil)))))))))))))
  (.op (some 106) (.pick (.t 92) (.t 105) (.c (.bool false))) 0
  (.op (some 18) (.move (.t 106)) 0
  .nil))))))))) false)
 (.seq (.seq (.region (Nodes.flat none (.op (some 107) (.move (.t 11)) 0
  (.op (some 108) (.move (.t 16)) 0
  (.op (some 109) (.binb .neq (.t 107) (.t 108)) 3
  (.op (some 110) (.move (.t 109)) 7
  (.grd 110 false
  (.op (some 111) (.move (.t 13)) 15
  (.op (some 112) (.move (.t 17)) 15
  (.op (some 113) (.binb .neq (.t 111) (.t 112)) 63
  .nil)))
  (.op (some 114) (.pick (.t 110) (.c (.bool true)) (.t 113)) 127
  (.op (some 115) (.move (.t 114)) 255
  (.grd 115 false
  (.op (some 116) (.move (.t 15)) 511
  (.op (some 117) (.move (.t 18)) 511
  (.op (some 118) (.binb .neq (.t 116) (.t 117)) 2047
  .nil)))
  (.op (some 119) (.pick (.t 115) (.c (.bool true)) (.t 118)) 4095
  (.op (some 120) (.move (.t 119)) 8191
  (.grd 120 false
  (.op (some 121) (.move (.t 18)) 16383
  (.op (some 122) (.move (.t 121)) 32767
  (.grd 122 true
  (.op (some 123) (.load (some 11) (.t 14)) 65535
  (.op (some 124) (.fieldAddr 0 (.t 4)) 65535
  (.op (some 125) (.load none (.t 124)) 196607
  (.op (some 126) (.move (.t 1)) 65535
  (.op (some 127) (.idxAddr 3 (.t 125) (.t 126)) 983039
  (.op (some 128) (.fieldAddr 2 (.t 127)) 2031615
  (.op (some 129) (.load none (.t 128)) 4128767
  (.op (some 130) (.move (.t 2)) 65535
  (.op (some 131) (.idxAddr 3 (.t 129) (.t 130)) 16711679
  (.op (some 132) (.fieldAddr 1 (.t 131)) 33488895
  (.op (some 133) (.load none (.t 132)) 67043327
  (.op (some 134) (.move (.t 3)) 65535
  (.op (some 135) (.idxAddr 11 (.t 133) (.t 134)) 268369919
  (.op (some 136) (.load (some 11) (.t 135)) 536805375
  (.op (some 137) (.eqs true [(0, 1), (1, 1), (2, 1), (3, 1), (4, 1), (5, 1), (6, 1), (7, 1), (8, 1), (9, 1), (10, 1)] (.t 123) (.t 136)) 1073741823
  .nil)))))))))))))))
  (.op (some 138) (.pick (.t 122) (.t 137) (.c (.bool false))) 2147483647
  .nil))))
  (.op (some 139) (.pick (.t 120) (.c (.bool true)) (.t 138)) 4294967295
  .nil))))))))))))) true)
 (.cond (.t 139)
 (.seq (.region (Nodes.flat none (.op (some 8) (.move (.c (.bool false))) 0
  .nil)) false)
 .ret)
 .skip))
 (.seq (.region (Nodes.flat none (.op (some 140) (.move (.t 9)) 0
  (.op (some 141) (.move (.t 140)) 1
  (.grd 141 true
  (.op (some 142) (.move (.t 16)) 3
  (.op (some 143) (.un .not (.t 142)) 7
  (.op (some 144) (.move (.t 143)) 15
  (.grd 144 false
  (.op (some 145) (.fieldAddr 1 (.t 10)) 31
  (.op (some 146) (.load none (.t 145)) 63
  (.op (some 147) (.fieldAddr 0 (.t 4)) 31
  (.op (some 148) (.load none (.t 147)) 159
  (.op (some 149) (.move (.t 1)) 31
  (.op (some 150) (.idxAddr 3 (.t 148) (.t 149)) 927
  (.op (some 151) (.fieldAddr 1 (.t 150)) 1951
  (.op (some 152) (.load none (.t 151)) 3999
  (.op (some 153) (.bin .eql (.t 146) (.t 152)) 8191
  (.op (some 154) (.move (.t 153)) 16383
  (.grd 154 true
  (.op (some 155) (.fieldAddr 0 (.t 10)) 32767
  (.op (some 156) (.load none (.t 155)) 65535
  (.op (some 157) (.fieldAddr 0 (.t 4)) 32767
  (.op (some 158) (.load none (.t 157)) 163839
  (.op (some 159) (.move (.t 1)) 32767
  (.op (some 160) (.idxAddr 3 (.t 158) (.t 159)) 950271
  (.op (some 161) (.fieldAddr 0 (.t 160)) 1998847
  (.op (some 162) (.load none (.t 161)) 4095999
  (.op (some 163) (.bin .eql (.t 156) (.t 162)) 8388607
  .nil)))))))))
  (.op (some 164) (.pick (.t 154) (.t 163) (.c (.bool false))) 16777215
  .nil))))))))))))
  (.op (some 165) (.pick (.t 144) (.c (.bool true)) (.t 164)) 33554431
  .nil)))))
  (.op (some 166) (.pick (.t 141) (.t 165) (.c (.bool false))) 67108863
  (.op (some 167) (.move (.t 166)) 134217727
  (.grd 167 true
  (.op (some 168) (.move (.t 17)) 268435455
  (.op (some 169) (.un .not (.t 168)) 536870911
  (.op (some 170) (.move (.t 169)) 1073741823
  (.grd 170 false
  (.op (some 171) (.fieldAddr 1 (.t 12)) 2147483647
  (.op (some 172) (.load none (.t 171)) 4294967295
  (.op (some 173) (.len false (.t 172)) 8589934591
  (.op (some 174) (.fieldAddr 0 (.t 4)) 2147483647
  (.op (some 175) (.load none (.t 174)) 19327352831
  (.op (some 176) (.move (.t 1)) 2147483647
  (.op (some 177) (.idxAddr 3 (.t 175) (.t 176)) 122406567935
  (.op (some 178) (.fieldAddr 2 (.t 177)) 259845521407
  (.op (some 179) (.load none (.t 178)) 534723428351
  (.op (some 180) (.move (.t 2)) 2147483647
  (.op (some 181) (.idxAddr 3 (.t 179) (.t 180)) 2183990870015
  (.op (some 182) (.fieldAddr 1 (.t 181)) 4383014125567
  (.op (some 183) (.load none (.t 182)) 8781060636671
  (.op (some 184) (.len false (.t 183)) 17577153658879
  (.op (some 185) (.bin .eql (.t 173) (.t 184)) 35184372088831
  .nil)))))))))))))))
  (.op (some 186) (.pick (.t 170) (.c (.bool true)) (.t 185)) 70368744177663
  .nil)))))
  (.op (some 187) (.pick (.t 167) (.t 186) (.c (.bool false))) 140737488355327
  (.op (some 188) (.move (.t 187)) 281474976710655
  (.grd 188 true
  (.op (some 189) (.move (.t 13)) 562949953421311
  (.op (some 190) (.move (.t 189)) 1125899906842623
  (.grd 190 false
  (.op (some 191) (.load (some 1) (.t 4)) 2251799813685247
  (.op (some 192) (.move (.t 1)) 2251799813685247
  (.op (some 193) (.move (.t 2)) 2251799813685247
  (.op (some 194) (.call 14 [(.t 191), (.t 192), (.t 193)]) 18014398509481983
  (.op (some 195) (.len false (.t 194)) 36028797018963967
  (.op (some 196) (.bin .eql (.t 195) (.c (.int .i64 0))) 72057594037927935
  .nil))))))
  (.op (some 197) (.pick (.t 190) (.c (.bool true)) (.t 196)) 144115188075855871
  .nil))))
  (.op (some 198) (.pick (.t 188) (.t 197) (.c (.bool false))) 288230376151711743
  (.op (some 8) (.move (.t 198)) 576460752303423487
  .nil)))))))))))) true)
 .ret))))))))))),
 [.tmp 8]⟩
def c6 : RFn := ⟨(.seq (.region (Nodes.flat none (.op (some 0) (.move (.c (.bool false))) 0
  .nil)) false)
 (.seq (.region (Nodes.flat none (.op (some 4) (.build [(.bool false), (.lit []), (.lit [])] [(0, 1, (.c (.bool true)))]) 0
  (.op (some 5) (.bslice true 3 1 (.agg [(.bool false), (.lit []), (.lit [])]) [(0, (.t 4))]) 0
  (.op (some 6) (.build [(.int .i64 0), (.int .i64 0), (.lit [])] [(2, 1, (.t 5))]) 0
  (.op (some 7) (.bslice true 3 1 (.agg [(.int .i64 0), (.int .i64 0), (.lit [])]) [(0, (.t 6))]) 0
  (.op (some 8) (.build [(.lit [])] [(0, 1, (.t 7))]) 0
  (.op (some 1) (.alloc (.agg [(.lit [])])) 0
  (.op none (.store 1 (.t 1) (.t 8)) 0
  .nil)))))))) false)
 (.seq (.region (Nodes.flat none (.op (some 10) (.load (some 1) (.t 1)) 0
  (.op (some 11) (.call 12 [(.t 10), (.c (.int .i64 0))]) 0
  (.op (some 9) (.move (.t 11)) 0
  (.op (some 12) (.extract 0 (.t 9)) 0
  (.op (some 13) (.extract 1 (.t 9)) 0
  (.op (some 2) (.alloc (.agg [(.int .i64 0), (.int .i64 0), (.lit [])])) 0
  (.op none (.store 3 (.t 2) (.t 12)) 0
  (.op (some 3) (.move (.t 13)) 0
  .nil))))))))) false)
 (.seq (.region (Nodes.flat none (.op (some 14) (.load (some 1) (.t 1)) 0
  (.op (some 15) (.call 8 [(.t 14)]) 0
  (.op (some 16) (.move (.t 15)) 0
  (.grd 16 true
  (.op (some 17) (.move (.t 3)) 0
  .nil)
  (.op (some 18) (.pick (.t 16) (.t 17) (.c (.bool false))) 0
  (.op (some 19) (.move (.t 18)) 0
  (.grd 19 true
  (.op (some 20) (.fieldAddr 2 (.t 2)) 0
  (.op (some 21) (.load none (.t 20)) 0
  (.op (some 22) (.len false (.t 21)) 0
  (.op (some 23) (.bin .eql (.t 22) (.c (.int .i64 1))) 0
  .nil))))
  (.op (some 24) (.pick (.t 19) (.t 23) (.c (.bool false))) 0
  (.op (some 25) (.move (.t 24)) 0
  (.grd 25 true
  (.op (some 26) (.load (some 1) (.t 1)) 0
  (.op (some 27) (.call 11 [(.t 26), (.c (.int .i64 0))]) 0
  (.op (some 28) (.bin .eql (.t 27) (.c (.int .i64 1))) 0
  .nil)))
  (.op (some 29) (.pick (.t 25) (.t 28) (.c (.bool false))) 0
  (.op (some 30) (.move (.t 29)) 0
  (.grd 30 true
  (.op (some 31) (.load (some 1) (.t 1)) 0
  (.op (some 32) (.call 9 [(.t 31)]) 0
  (.op (some 33) (.bin .eql (.t 32) (.c (.int .i64 0))) 0
  .nil)))
  (.op (some 34) (.pick (.t 30) (.t 33) (.c (.bool false))) 0
  (.op (some 0) (.move (.t 34)) 0
  .nil)))))))))))))))) false)
 .ret)))),
 [.tmp 0]⟩
theorem b6 : fnOf Go.Proofs.Tryd.prog (owOf []) 6 = some c6 := by kernel_rfl
end Go.Vm
end
section
/- Walks. -/
set_option maxRecDepth 100000
set_option linter.unusedSimpArgs false
set_option linter.unusedVariables false
namespace Go.Vm
open Go
set_option maxHeartbeats 4000000
def fAw : Fn := ⟨0, 0, [⟨true, [], []⟩]⟩
def pAw : List Fn := [fAw]
theorem fit_aw : Fit pAw := few_fit (by rfl)
theorem fun_aw : funV pAw 0 = some fAw := by rfl
theorem sane_aw : sane pAw = true := by rfl
theorem id_aw : newIdV pAw = 0 := by rfl
theorem blk_aw : newBlockV pAw 0 = 1 := by rfl
theorem tr_frz_aw {P : Program} {gl : Nat → Option PV} {s : Env} {H : Hp} {c : RCode} {Q : Ex → Env → Hp → Prop} (h1 : s 1 = some (.ptr 2 0 0 0)) (h0 : s 0 = some (.bool false)) (h2 : fz H 0 (.ptr 2 0 0 0) = some (.fptr [.sl [pF fAw]])) (k : Tr P gl 0 c (Env.ov (fun _ => none) [(0, some (.bool false)), (1, some (.fptr [.sl [pF fAw]]))]) (Hp.ofL []) Q) : Tr P gl 0 c s H Q := by
  refine tr_ghost (gh_to (s0 := fun _ => none) (l := []) rfl (Nat.le_refl _) (fun t p _ h => by cases h) (fun t p _ h => by cases h) ?_ trivial) k
  exact ⟨⟨_, h0, rfl⟩, ⟨_, h1, h2⟩, trivial⟩
theorem p_awake : Pure Go.Proofs.Tryd.prog glD 6 [] (.bool true) := by
  have h1 : Pure Go.Proofs.Tryd.prog glD 12 [pP pAw, .int .i64 0] (.tup [pF fAw, .bool true]) := by
    have := p_Fun pAw 0 fit_aw
    rw [fun_aw] at this
    exact this
  have h2 : Pure Go.Proofs.Tryd.prog glD 8 [pP pAw] (.bool true) := by
    have := p_Sane pAw fit_aw
    rw [sane_aw] at this
    exact this
  have h3 : Pure Go.Proofs.Tryd.prog glD 11 [pP pAw, .int .i64 0] (.int .i64 1) := by
    have := p_NewBlock pAw 0 fit_aw
    rw [blk_aw] at this
    exact this
  have h4 : Pure Go.Proofs.Tryd.prog glD 9 [pP pAw] (.int .i64 0) := by
    have := p_NewId pAw fit_aw
    rw [id_aw] at this
    exact this
  refine Pure.fn hmix b6 ?_
  repeat' first
    | (refine tr_frz_aw rfl rfl rfl ?_)
    | with_reducible refine tr_seq ?_
    | ((with_reducible refine tr_region_f ?_ ?_); kernel_rfl)
    | with_reducible refine n_nil ?_
    | exact ⟨rfl, rfl⟩
    | with_reducible refine seqQ_normal ?_
    | with_reducible refine seqQ_ret ?_
    | with_reducible refine blkQ_ret ?_
    | with_reducible refine tr_ret ?_
    | ((with_reducible apply n_and); rfl; rfl; intro h)
    | ((with_reducible apply n_or); rfl; rfl; intro h)
    | ((with_reducible apply n_call (f := 12)); rfl; rfl; exact h1)
    | ((with_reducible apply n_call (f := 8)); rfl; rfl; exact h2)
    | ((with_reducible apply n_call (f := 11)); rfl; rfl; exact h3)
    | ((with_reducible apply n_call (f := 9)); rfl; rfl; exact h4)
    | ((with_reducible apply n_val); rfl; rfl)
    | ((with_reducible apply n_new); rfl; (first | (simp only [hn0, hn1, hn2, hn3, hn4, hn5, List.length_cons, List.length_nil, Nat.reduceAdd, Nat.zero_add]; done) | (simp only [hn0, hn1, hn2, hn3, hn4, hn5, List.length_cons, List.length_nil, Nat.reduceAdd, Nat.zero_add]; rfl) | rfl); rfl)
    | ((with_reducible apply n_store); rfl; rfl; rfl; rfl; rfl)
    | ((with_reducible apply n_row); rfl; (first | (simp only [hn0, hn1, hn2, hn3, hn4, hn5, List.length_cons, List.length_nil, Nat.reduceAdd, Nat.zero_add]; done) | (simp only [hn0, hn1, hn2, hn3, hn4, hn5, List.length_cons, List.length_nil, Nat.reduceAdd, Nat.zero_add]; rfl) | rfl); rfl)
    | ((with_reducible apply fnQ_told_ret); rfl)
    | ((with_reducible apply fnQ_ret_soft); rfl; rfl)
  rfl
theorem sane_ok {p : List Fn} (h : sane p = true) {g : Fn} (hg : g ∈ p) : okF p g = true := by
  simp only [sane, Bool.and_eq_true] at h
  exact List.all_eq_true.mp h.1.2 g hg
theorem okF_blk {p : List Fn} {g : Fn} (h : okF p g = true) {x : Bk} (hx : x ∈ g.bs) : okB p g x = true := by
  simp only [okF, Bool.and_eq_true] at h
  exact List.all_eq_true.mp h.2 x hx
end Go.Vm
end
