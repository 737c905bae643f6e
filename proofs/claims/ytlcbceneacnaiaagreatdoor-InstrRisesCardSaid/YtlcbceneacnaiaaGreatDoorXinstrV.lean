/- Laid. -/
import Derived.Test.YtlcbceneacnaiaaGreatDoorVmThree
import Derived.KernelRfl
import Derived.Test.YtlcbceneacnaiaaGreatDoorProg
import Derived.Test.YtlcbceneacnaiaaGreatDoorXinstrU
section
/- Code. -/
set_option maxRecDepth 100000
set_option linter.unusedSimpArgs false
set_option linter.unusedVariables false
namespace Go.Vm
open Go
def c4 : RFn := ⟨(.seq (.region (Nodes.flat none (.op (some 9) (.box (.t 0)) 0
  (.op (some 10) (.box (.t 1)) 0
  (.op (some 11) (.box (.t 2)) 0
  (.op (some 12) (.box (.t 3)) 0
  (.op (some 13) (.box (.t 4)) 0
  (.op (some 14) (.box (.t 5)) 0
  (.op (some 15) (.box (.t 6)) 0
  (.op (some 18) (.move (.c (.bool false))) 0
  .nil))))))))) false)
 (.seq (.region (Nodes.flat none (.op (some 28) (.call 5 []) 0
  (.op (some 19) (.move (.t 28)) 0
  .nil))) false)
 (.seq (.seq (.region (Nodes.flat none (.op (some 29) (.fieldAddr 1 (.t 9)) 0
  (.op (some 30) (.load none (.t 29)) 0
  (.op (some 31) (.len false (.t 30)) 0
  (.op (some 32) (.bin .gtr (.t 31) (.c (.int .i64 20))) 0
  (.op (some 33) (.move (.t 32)) 0
  (.grd 33 false
  (.op (some 34) (.fieldAddr 1 (.t 10)) 0
  (.op (some 35) (.load none (.t 34)) 0
  (.op (some 36) (.len false (.t 35)) 0
  (.op (some 37) (.bin .gtr (.t 36) (.c (.int .i64 20))) 0
  .nil))))
  (.op (some 38) (.pick (.t 33) (.c (.bool true)) (.t 37)) 0
  (.op (some 39) (.move (.t 38)) 0
  (.grd 39 false
  (.op (some 40) (.fieldAddr 1 (.t 11)) 0
  (.op (some 41) (.load none (.t 40)) 0
  (.op (some 42) (.len false (.t 41)) 0
  (.op (some 43) (.bin .gtr (.t 42) (.c (.int .i64 50))) 0
  .nil))))
  (.op (some 44) (.pick (.t 39) (.c (.bool true)) (.t 43)) 0
  (.op (some 45) (.move (.t 44)) 0
  (.grd 45 false
  (.op (some 46) (.fieldAddr 1 (.t 12)) 0
  (.op (some 47) (.load none (.t 46)) 0
  (.op (some 48) (.len false (.t 47)) 0
  (.op (some 49) (.bin .gtr (.t 48) (.c (.int .i64 50))) 0
  .nil))))
  (.op (some 50) (.pick (.t 45) (.c (.bool true)) (.t 49)) 0
  (.op (some 51) (.move (.t 50)) 0
  (.grd 51 false
  (.op (some 52) (.fieldAddr 1 (.t 13)) 0
  (.op (some 53) (.load none (.t 52)) 0
  (.op (some 54) (.len false (.t 53)) 0
  (.op (some 55) (.bin .gtr (.t 54) (.c (.int .i64 50))) 0
  .nil))))
  (.op (some 56) (.pick (.t 51) (.c (.bool true)) (.t 55)) 0
  (.op (some 57) (.move (.t 56)) 0
  (.grd 57 false
  (.op (some 58) (.fieldAddr 1 (.t 14)) 0
  (.op (some 59) (.load none (.t 58)) 0
  (.op (some 60) (.len false (.t 59)) 0
  (.op (some 61) (.bin .gtr (.t 60) (.c (.int .i64 50))) 0
  .nil))))
  (.op (some 62) (.pick (.t 57) (.c (.bool true)) (.t 61)) 0
  .nil)))))))))))))))))))) false)
 (.cond (.t 62)
 (.seq (.region (Nodes.flat none (.op (some 63) (.move (.t 19)) 0
  (.op (some 18) (.move (.t 63)) 0
  .nil))) false)
 .ret)
 .skip))
 (.seq (.region (Nodes.flat none (.op (some 64) (.load (some 2) (.t 9)) 0
  (.op (some 65) (.call 17 [(.t 64)]) 1
  (.op (some 66) (.load (some 2) (.t 10)) 0
  (.op (some 67) (.call 17 [(.t 66)]) 7
  (.op (some 68) (.call 16 [(.t 65), (.t 67)]) 15
  (.op (some 20) (.alloc (.agg [(.int .i64 0), (.lit [])])) 0
  (.op none (.store 2 (.t 20) (.t 68)) 63
  .nil)))))))) true)
 (.seq (.region (Nodes.flat none (.op (some 69) (.load (some 2) (.t 9)) 0
  (.op (some 70) (.call 17 [(.t 69)]) 1
  (.op (some 71) (.fieldAddr 0 (.t 20)) 0
  (.op (some 72) (.load none (.t 71)) 4
  (.op (some 73) (.call 18 [(.t 72)]) 15
  (.op (some 74) (.call 16 [(.t 70), (.t 73)]) 31
  (.op (some 21) (.alloc (.agg [(.int .i64 0), (.lit [])])) 0
  (.op none (.store 2 (.t 21) (.t 74)) 127
  .nil))))))))) true)
 (.seq (.region (Nodes.flat none (.op (some 75) (.load (some 2) (.t 11)) 0
  (.op (some 76) (.call 9 [(.t 75)]) 1
  (.op (some 77) (.load (some 2) (.t 12)) 0
  (.op (some 78) (.call 9 [(.t 77)]) 7
  (.op (some 79) (.call 19 [(.t 76), (.t 78)]) 15
  (.op (some 22) (.alloc (.agg [(.bool false), (.lit [])])) 0
  (.op none (.store 2 (.t 22) (.t 79)) 63
  .nil)))))))) true)
 (.seq (.region (Nodes.flat none (.op (some 80) (.load (some 2) (.t 13)) 0
  (.op (some 81) (.call 14 [(.t 80)]) 1
  (.op (some 82) (.load (some 2) (.t 14)) 0
  (.op (some 83) (.call 14 [(.t 82)]) 7
  (.op (some 84) (.call 20 [(.t 81), (.t 83)]) 15
  (.op (some 23) (.alloc (.agg [(.bool false), (.lit [])])) 0
  (.op none (.store 2 (.t 23) (.t 84)) 63
  .nil)))))))) true)
 (.seq (.region (Nodes.flat none (.op (some 85) (.fieldAddr 1 (.t 22)) 0
  (.op (some 86) (.load none (.t 85)) 0
  (.op (some 87) (.len false (.t 86)) 0
  (.op (some 24) (.move (.t 87)) 0
  .nil))))) false)
 (.seq (.region (Nodes.flat none (.op (some 88) (.fieldAddr 1 (.t 23)) 0
  (.op (some 89) (.load none (.t 88)) 0
  (.op (some 90) (.len false (.t 89)) 0
  (.op (some 25) (.move (.t 90)) 0
  .nil))))) false)
 (.seq (.region (Nodes.flat none (.op (some 91) (.load (some 2) (.t 11)) 0
  (.op (some 92) (.call 9 [(.t 91)]) 0
  (.op (some 26) (.alloc (.agg [(.bool false), (.lit [])])) 0
  (.op none (.store 2 (.t 26) (.t 92)) 0
  .nil))))) false)
 (.seq (.region (Nodes.flat none (.op (some 93) (.load (some 2) (.t 13)) 0
  (.op (some 94) (.call 14 [(.t 93)]) 0
  (.op (some 27) (.alloc (.agg [(.bool false), (.lit [])])) 0
  (.op none (.store 2 (.t 27) (.t 94)) 0
  .nil))))) false)
 (.seq (.seq (.region (Nodes.flat none (.op (some 95) (.fieldAddr 0 (.t 11)) 0
  (.op (some 96) (.load none (.t 95)) 0
  (.op (some 97) (.move (.t 96)) 0
  (.grd 97 true
  (.op (some 98) (.fieldAddr 1 (.t 11)) 0
  (.op (some 99) (.load none (.t 98)) 0
  (.op (some 100) (.len false (.t 99)) 0
  (.op (some 101) (.move (.t 24)) 0
  (.op (some 102) (.bin .neq (.t 100) (.t 101)) 0
  .nil)))))
  (.op (some 103) (.pick (.t 97) (.t 102) (.c (.bool false))) 0
  (.op (some 104) (.move (.t 103)) 0
  (.grd 104 false
  (.op (some 105) (.fieldAddr 0 (.t 13)) 0
  (.op (some 106) (.load none (.t 105)) 0
  (.op (some 107) (.move (.t 106)) 0
  (.grd 107 true
  (.op (some 108) (.fieldAddr 1 (.t 13)) 0
  (.op (some 109) (.load none (.t 108)) 0
  (.op (some 110) (.len false (.t 109)) 0
  (.op (some 111) (.move (.t 25)) 0
  (.op (some 112) (.bin .neq (.t 110) (.t 111)) 0
  .nil)))))
  (.op (some 113) (.pick (.t 107) (.t 112) (.c (.bool false))) 0
  .nil)))))
  (.op (some 114) (.pick (.t 104) (.c (.bool true)) (.t 113)) 0
  .nil))))))))) false)
 (.cond (.t 114)
 (.seq (.region (Nodes.flat none (.op (some 115) (.move (.t 19)) 0
  (.op (some 18) (.move (.t 115)) 0
  .nil))) false)
 .ret)
 .skip))
 (.seq (.region (Nodes.flat none (.op (some 116) (.move (.t 19)) 0
  (.op (some 117) (.move (.t 116)) 1
  (.grd 117 true
  (.op (some 118) (.load (some 2) (.t 21)) 3
  (.op (some 119) (.load (some 11) (.t 15)) 3
  (.op (some 120) (.fieldAddr 0 (.t 15)) 3
  (.op (some 121) (.load none (.t 120)) 19
  (.op (some 122) (.bslice false 1 1 (.int .i64 0) [(0, (.t 121))]) 51
  (.op (some 123) (.call 22 [(.t 118), (.t 119), (.t 122)]) 127
  (.op (some 124) (.load (some 2) (.t 20)) 3
  (.op (some 125) (.load (some 11) (.t 15)) 3
  (.op (some 126) (.fieldAddr 0 (.t 15)) 3
  (.op (some 127) (.load none (.t 126)) 1027
  (.op (some 128) (.bslice false 1 1 (.int .i64 0) [(0, (.t 127))]) 3075
  (.op (some 129) (.call 22 [(.t 124), (.t 125), (.t 128)]) 8191
  (.op (some 130) (.call 21 [(.t 123), (.t 129)]) 16383
  .nil)))))))))))))
  (.op (some 131) (.pick (.t 117) (.t 130) (.c (.bool false))) 32767
  (.op (some 132) (.move (.t 131)) 65535
  (.grd 132 true
  (.op (some 133) (.load (some 2) (.t 21)) 131071
  (.op (some 134) (.load (some 11) (.t 15)) 131071
  (.op (some 135) (.call 23 [(.t 133), (.t 134)]) 524287
  (.op (some 136) (.load (some 2) (.t 20)) 131071
  (.op (some 137) (.load (some 11) (.t 15)) 131071
  (.op (some 138) (.call 23 [(.t 136), (.t 137)]) 4194303
  (.op (some 139) (.call 21 [(.t 135), (.t 138)]) 8388607
  .nil)))))))
  (.op (some 140) (.pick (.t 132) (.t 139) (.c (.bool false))) 16777215
  (.op (some 141) (.move (.t 140)) 33554431
  (.grd 141 true
  (.op (some 142) (.load (some 2) (.t 26)) 67108863
  (.op (some 143) (.load (some 11) (.t 15)) 67108863
  (.op (some 144) (.call 8 [(.t 142), (.t 143)]) 268435455
  (.op (some 145) (.load (some 2) (.t 22)) 67108863
  (.op (some 146) (.load (some 11) (.t 15)) 67108863
  (.op (some 147) (.call 8 [(.t 145), (.t 146)]) 2147483647
  (.op (some 148) (.call 24 [(.t 144), (.t 147)]) 4294967295
  .nil)))))))
  (.op (some 149) (.pick (.t 141) (.t 148) (.c (.bool false))) 8589934591
  (.op (some 150) (.move (.t 149)) 17179869183
  (.grd 150 true
  (.op (some 151) (.load (some 2) (.t 27)) 34359738367
  (.op (some 152) (.load (some 11) (.t 15)) 34359738367
  (.op (some 153) (.move (.t 7)) 34359738367
  (.op (some 154) (.bin .and (.t 153) (.c (.int .i64 7))) 171798691839
  (.op (some 155) (.move (.t 8)) 34359738367
  (.op (some 156) (.bin .and (.t 154) (.t 155)) 996432412671
  (.op (some 157) (.call 13 [(.t 151), (.t 152), (.t 156)]) 2199023255551
  (.op (some 158) (.load (some 2) (.t 23)) 34359738367
  (.op (some 159) (.load (some 11) (.t 15)) 34359738367
  (.op (some 160) (.move (.t 7)) 34359738367
  (.op (some 161) (.bin .and (.t 160) (.c (.int .i64 7))) 17626545782783
  (.op (some 162) (.call 13 [(.t 158), (.t 159), (.t 161)]) 70368744177663
  (.op (some 163) (.call 25 [(.t 157), (.t 162)]) 140737488355327
  .nil)))))))))))))
  (.op (some 164) (.pick (.t 150) (.t 163) (.c (.bool false))) 281474976710655
  (.op (some 18) (.move (.t 164)) 562949953421311
  .nil))))))))))))))) true)
 .ret))))))))))))),
 [.tmp 18]⟩
theorem b4 : fnOf Go.Proofs.Tryz.prog (owOf [(14, 6), (14, 12)]) 4 = some c4 := by kernel_rfl
end Go.Vm
end
section
/- Walks. -/
set_option maxRecDepth 100000
set_option linter.unusedSimpArgs false
set_option linter.unusedVariables false
namespace Go.Vm
open Go
set_option maxHeartbeats 4000000
set_option exponentiation.threshold 2000
theorem rise_reach (M : Int) (a b : Nat) (i : In) (ids : List Int) : minus (reachV M a i ids) (reachV M (a ||| b) i ids) = 0 := by
  rw [sub_iff]
  intro k
  unfold reachV
  split
  · rw [Nat.testBit_or]
    intro h
    rw [h]; rfl
  · simp only [vWith_bit, minus_bit, Nat.testBit_or]
    intro h
    revert h
    cases a.testBit k <;> cases b.testBit k <;> cases (ofV M ids).testBit k <;> simp
theorem rise_live (M : Int) (a b : Nat) (i : In) : minus (liveV M a i) (liveV M (a ||| b) i) = 0 := by
  rw [sub_iff]
  intro k
  simp only [liveV, vWout_bit, Nat.testBit_or]
  intro h
  revert h
  cases a.testBit k <;> cases b.testBit k <;> cases (ofV M (usesI i)).testBit k <;> simp
theorem Lat.set_up {T : Type} {z : T} {j : T → T → T} {le : T → T → Bool} (h : Lat z j le) (e f : Option (List T)) (i : Int) (y : T) : eLeq z le (eSet e i y) (eSet (eJoin z j e f) i y) = true := by
  cases e with
  | none => rfl
  | some l =>
    cases f with
    | none => exact h.e_refl _
    | some m =>
      have hu := (h.leq_iff _ _).1 (h.e_up (some l) (some m))
      simp only [eJoin] at hu ⊢
      have hlen : l.length ≤ (tab (max l.length m.length) fun k => j (l.getD k z) (m.getD k z)).length := by rw [tab_length]; omega
      generalize (tab (max l.length m.length) fun k => j (l.getD k z) (m.getD k z)) = l' at *
      simp only [eSet, Option.map_some]
      split
      · rw [h.leq_iff]
        intro k
        by_cases hk : k = i.toNat
        · subst hk
          by_cases hl : i.toNat < l.length
          · rw [List.getD_eq_getElem?_getD, List.getElem?_set_self hl, List.getD_eq_getElem?_getD, List.getElem?_set_self (by omega)]
            exact h.refl _
          · rw [List.set_eq_of_length_le (by omega), List.getD_eq_getElem?_getD, List.getElem?_eq_none (by omega)]
            exact h.least _
        · rw [List.getD_eq_getElem?_getD, List.getElem?_set_ne (by omega), List.getD_eq_getElem?_getD, List.getElem?_set_ne (by omega), ← List.getD_eq_getElem?_getD, ← List.getD_eq_getElem?_getD]
          exact hu k
      · rw [h.leq_iff]
        exact hu
theorem num_rises (e f : Option (List V3)) (i : In) : (numV e i).leq (numV (eJoin .bot V3.join e f) i) = true := by
  unfold numV
  simp only [latF.get_join]
  repeat' split
  · exact V3.leq_refl _
  · exact V3.leq_join _ _
  · exact V3.neg_rises _ _
  · exact V3.add_rises _ _ _ _
  · exact V3.sub_rises _ _ _ _
  · exact V3.mul_rises _ _ _ _
  · exact V3.leq_refl _
theorem flatE_rises (e f : Option (List V3)) (i : In) : eLeq .bot V3.leq (flatE e i) (flatE (eJoin .bot V3.join e f) i) = true :=
  latF.e_trans (latF.set_mono e (defI i) (num_rises e f i)) (latF.set_up e f (defI i) _)
abbrev sS (x : Int) : S8 := ⟨sn x, sn_07 _⟩
theorem s_mulL (a b c : S8) : (sS (sMul a.1 c.1)).leq (sS (sMul (a.join b).1 c.1)) = true := S8.all3 (p := fun a b c => (sS (sMul a.1 c.1)).leq (sS (sMul (a.join b).1 c.1))) (by decide +kernel) a b c
theorem s_mulR (a b c : S8) : (sS (sMul c.1 a.1)).leq (sS (sMul c.1 (a.join b).1)) = true := S8.all3 (p := fun a b c => (sS (sMul c.1 a.1)).leq (sS (sMul c.1 (a.join b).1))) (by decide +kernel) a b c
theorem s_addL (a b c : S8) : (sS (sAdd a.1 c.1)).leq (sS (sAdd (a.join b).1 c.1)) = true := S8.all3 (p := fun a b c => (sS (sAdd a.1 c.1)).leq (sS (sAdd (a.join b).1 c.1))) (by decide +kernel) a b c
theorem s_addR (a b c : S8) : (sS (sAdd c.1 a.1)).leq (sS (sAdd c.1 (a.join b).1)) = true := S8.all3 (p := fun a b c => (sS (sAdd c.1 a.1)).leq (sS (sAdd c.1 (a.join b).1))) (by decide +kernel) a b c
theorem s_subR (a b c : S8) : (sS (sAdd c.1 (sMul a.1 1))).leq (sS (sAdd c.1 (sMul (a.join b).1 1))) = true := S8.all3 (p := fun a b c => (sS (sAdd c.1 (sMul a.1 1))).leq (sS (sAdd c.1 (sMul (a.join b).1 1)))) (by decide +kernel) a b c
theorem s_subL (a b c : S8) : (sS (sAdd a.1 (sMul c.1 1))).leq (sS (sAdd (a.join b).1 (sMul c.1 1))) = true := S8.all3 (p := fun a b c => (sS (sAdd a.1 (sMul c.1 1))).leq (sS (sAdd (a.join b).1 (sMul c.1 1)))) (by decide +kernel) a b c
theorem s_neg (a b : S8) : (sS (sMul a.1 1)).leq (sS (sMul (a.join b).1 1)) = true := S8.all2 (p := fun a b => (sS (sMul a.1 1)).leq (sS (sMul (a.join b).1 1))) (by decide +kernel) a b
theorem sS_self (a : S8) : sS a.1 = a := Subtype.ext (if_pos a.2)
theorem sgS_rises (e f : Option (List S8)) (i : In) (x y : Int) (h : (sS x).leq (sS y) = true) : (sgS e i x).leq (sgS (eJoin z8 S8.join e f) i y) = true := by
  unfold sgS sgI
  simp only [latS.get_join]
  repeat' split
  · exact latS.refl _
  · have := latS.up (eGet z8 e i.a) (eGet z8 f i.a)
    show (sS (eGet z8 e i.a).1).leq (sS ((eGet z8 e i.a).join (eGet z8 f i.a)).1) = true
    rw [sS_self, sS_self]
    exact this
  · exact s_neg _ _
  · exact latS.trans _ _ _ (s_addL _ (eGet z8 f i.a) _) (s_addR _ _ _)
  · exact latS.trans _ _ _ (s_subL _ (eGet z8 f i.a) _) (s_subR _ _ _)
  · exact latS.trans _ _ _ (s_mulL _ (eGet z8 f i.a) _) (s_mulR _ _ _)
  · exact h
  · exact latS.refl _
theorem signE_rises (e f : Option (List S8)) (i : In) (x y : Int) (h : (sS x).leq (sS y) = true) : eLeq z8 S8.leq (signE e i x) (signE (eJoin z8 S8.join e f) i y) = true :=
  latS.e_trans (latS.set_mono e (defI i) (sgS_rises e f i x y h)) (latS.set_up e f (defI i) _)
def andI (x y : Int) : Int := IntKind.i64.wrap ((BitVec.ofInt 64 x &&& BitVec.ofInt 64 y).toNat : Int)
theorem and7_lt (v : BitVec 64) : (v &&& BitVec.ofInt 64 7).toNat < 8 := by
  rw [show BitVec.ofInt 64 7 = 7#64 from rfl, BitVec.toNat_and]
  exact Nat.lt_of_le_of_lt Nat.and_le_right (by decide)
theorem wrapv {v : BitVec 64} (h : v.toNat < 8) : IntKind.i64.wrap (v.toNat : Int) = (v.toNat : Int) := wrap_i64_of (by omega)
theorem ofv {v : BitVec 64} (h : v.toNat < 8) : BitVec.ofInt 64 (v.toNat : Int) = v := by
  apply BitVec.eq_of_toNat_eq
  rw [BitVec.toNat_ofInt]
  have := v.isLt
  omega
theorem and_i64 (x y : Int) (h : (BitVec.ofInt 64 x &&& BitVec.ofInt 64 y).toNat < 8) : i64r (andI x y) := by
  unfold andI
  rw [wrapv h]
  unfold i64r
  omega
theorem ans2_v (x : Int) : andI x 7 = ((BitVec.ofInt 64 x &&& BitVec.ofInt 64 7).toNat : Int) := wrapv (and7_lt _)
theorem ans1_lt (x y : Int) : (BitVec.ofInt 64 (andI x 7) &&& BitVec.ofInt 64 y).toNat < 8 := by
  rw [ans2_v, ofv (and7_lt _), BitVec.toNat_and]
  exact Nat.lt_of_le_of_lt Nat.and_le_left (and7_lt _)
theorem ans1_v (x y : Int) : andI (andI x 7) y = ((BitVec.ofInt 64 x &&& BitVec.ofInt 64 7 &&& BitVec.ofInt 64 y).toNat : Int) := by
  show IntKind.i64.wrap _ = _
  rw [wrapv (ans1_lt x y), ans2_v, ofv (and7_lt _)]
theorem ans1_i64 (x y : Int) : i64r (andI (andI x 7) y) := and_i64 _ _ (ans1_lt x y)
theorem ans2_i64 (x : Int) : i64r (andI x 7) := and_i64 _ _ (and7_lt _)
theorem ans_leq (x y : Int) : (sS (andI (andI x 7) y)).leq (sS (andI x 7)) = true := by
  have h2 := and7_lt (BitVec.ofInt 64 x)
  have h1 := ans1_lt x y
  have e1 := ans1_v x y
  have e2 := ans2_v x
  rw [e2, ofv h2] at h1
  generalize BitVec.ofInt 64 x &&& BitVec.ofInt 64 7 = B at *
  generalize BitVec.ofInt 64 y = Y at *
  rw [e1, e2]
  have q1 : sn ((B &&& Y).toNat : Int) = ((B &&& Y).toNat : Int) := if_pos (by omega)
  have q2 : sn (B.toNat : Int) = (B.toNat : Int) := if_pos (by omega)
  show (IntKind.i64.wrap ((BitVec.ofInt 64 (sn (sn ((B &&& Y).toNat : Int))) &&& ~~~(BitVec.ofInt 64 (sn (sn (B.toNat : Int))))).toNat : Int) == 0) = true
  rw [q1, q1, q2, q2, ofv h1, ofv h2]
  have : B &&& Y &&& ~~~B = 0#64 := by
    apply BitVec.eq_of_getLsbD_eq
    intro i hi
    simp only [BitVec.getLsbD_and, BitVec.getLsbD_not, hi, decide_true, Bool.true_and, BitVec.getLsbD_zero]
    cases B.getLsbD i <;> simp
  rw [this]
  decide +kernel
theorem union2 {gl : Nat → Option PV} {x : PV} {M N : Int} {a : Nat} (hx : Rep x M a) (hN : 0 ≤ N ∧ N ≤ 1024) : Pure Go.Proofs.Tryz.prog gl 16 [x, mk (clN (max M N)) 0] (mk (max M N) a) := by
  have hM := hx.ok.r
  have e : max M (clN (max M N)) = max M N := by unfold clN; omega
  have := r_bits_Union (gl := gl) hx (rep_mk (ok_zero (N := clN (max M N)) (by unfold clN; omega)))
  rwa [e, Nat.or_zero] at this
theorem l_InstrRises (m n : Int) (ws us : List Nat) (hw : W64 ws) (hu : W64 us) (oa ob oc od : Bool) (la lb : List (Int × Int)) (lc ld : List I64) (i : In) (x y : Int) : Pure Go.Proofs.Tryz.prog glD 4 [sv m ws, sv n us, eIn pq oa la, eIn pq ob lb, eIn pi oc lc, eIn pi od ld, pI i, .int .i64 x, .int .i64 y] (.bool true) := by
  have hx := rep_sv m ws hw
  have hy := rep_sv n us hu
  have hxo := hx.ok
  have hyo := hy.ok
  have hU := union2 (gl := glD) hx hyo.r
  have hux := ok_up (M := max (nN m ws) (nN n us)) hxo (by omega) (by have := hxo.r; have := hyo.r; omega)
  have l1 : ∀ M, minus (reachV M (vN m ws) i [i.id]) (reachV M (vN m ws ||| vN n us) i [i.id]) = 0 := fun M => rise_reach M _ _ i _
  have l2 : ∀ M, minus (liveV M (vN m ws) i) (liveV M (vN m ws ||| vN n us) i) = 0 := fun M => rise_live M _ _ i
  have l3 := flatE_rises (eAbs fq oa la) (eAbs fq ob lb) i
  have l4 := signE_rises (eAbs s8 oc lc) (eAbs s8 od ld) i _ _ (ans_leq x y)
  have hans1 := ans1_i64 x y
  have hans2 := ans2_i64 x
  have hS1 : ∀ {p : PV} {e : Option (List S8)}, RepE pi s8 p e → Pure Go.Proofs.Tryz.prog glD 13 [p, pI i, .int .i64 (andI (andI x 7) y)] (eOut ps (signE e i (andI (andI x 7) y))) := fun h => p_Sign i ⟨_, hans1⟩ h
  have hS2 : ∀ {p : PV} {e : Option (List S8)}, RepE pi s8 p e → Pure Go.Proofs.Tryz.prog glD 13 [p, pI i, .int .i64 (andI x 7)] (eOut ps (signE e i (andI x 7))) := fun h => p_Sign i ⟨_, hans2⟩ h
  generalize nN m ws = M at *
  generalize vN m ws = a at *
  generalize nN n us = N at *
  generalize vN n us = b at *
  refine Pure.fn hmix b4 ?_
  repeat' first
    | with_reducible refine tr_seq ?_
    | ((with_reducible refine tr_region_f ?_ ?_); kernel_rfl)
    | ((with_reducible refine tr_region_t ?_ ?_ ?_); kernel_rfl; kernel_rfl)
    | with_reducible refine n_nil ?_
    | exact ⟨rfl, rfl⟩
    | with_reducible refine seqQ_normal ?_
    | with_reducible refine seqQ_ret ?_
    | with_reducible refine blkQ_ret ?_
    | with_reducible refine tr_skip ?_
    | with_reducible refine tr_ret ?_
    | ((with_reducible apply tr_cond_e); rfl)
    | with_reducible refine condT_t ?_
    | with_reducible refine condT_f ?_
    | ((with_reducible apply n_and); rfl; rfl; intro h)
    | ((with_reducible apply n_or); rfl; rfl; intro h)
    | ((with_reducible apply n_call (f := 16)); rfl; rfl; exact hU)
    | ((with_reducible apply n_call (f := 13)); rfl; rfl; exact hS1 (by first | exact rep_inF _ _ (by first | omega | (simp only [decide_eq_true_eq, decide_eq_false_iff_not, Bool.or_eq_false_iff, Bool.not_eq_true', Bool.not_eq_false', Bool.not_true, Bool.not_false, ints_length, List.length_map, tab_length] at *; omega)) | exact rep_inS _ _ (by first | omega | (simp only [decide_eq_true_eq, decide_eq_false_iff_not, Bool.or_eq_false_iff, Bool.not_eq_true', Bool.not_eq_false', Bool.not_true, Bool.not_false, ints_length, List.length_map, tab_length] at *; omega)) | (refine rep_outF ?_; repeat (first | assumption | exact few_all | exact few_none | apply few_flatE | apply few_signE | apply few_join | apply few_set | exact (rep_inF _ _ (by first | omega | (simp only [decide_eq_true_eq, decide_eq_false_iff_not, Bool.or_eq_false_iff, Bool.not_eq_true', Bool.not_eq_false', Bool.not_true, Bool.not_false, ints_length, List.length_map, tab_length] at *; omega))).few | exact (rep_inS _ _ (by first | omega | (simp only [decide_eq_true_eq, decide_eq_false_iff_not, Bool.or_eq_false_iff, Bool.not_eq_true', Bool.not_eq_false', Bool.not_true, Bool.not_false, ints_length, List.length_map, tab_length] at *; omega))).few)) | (refine rep_outS ?_; repeat (first | assumption | exact few_all | exact few_none | apply few_flatE | apply few_signE | apply few_join | apply few_set | exact (rep_inF _ _ (by first | omega | (simp only [decide_eq_true_eq, decide_eq_false_iff_not, Bool.or_eq_false_iff, Bool.not_eq_true', Bool.not_eq_false', Bool.not_true, Bool.not_false, ints_length, List.length_map, tab_length] at *; omega))).few | exact (rep_inS _ _ (by first | omega | (simp only [decide_eq_true_eq, decide_eq_false_iff_not, Bool.or_eq_false_iff, Bool.not_eq_true', Bool.not_eq_false', Bool.not_true, Bool.not_false, ints_length, List.length_map, tab_length] at *; omega))).few))))
    | ((with_reducible apply n_call (f := 13)); rfl; rfl; exact hS2 (by first | exact rep_inF _ _ (by first | omega | (simp only [decide_eq_true_eq, decide_eq_false_iff_not, Bool.or_eq_false_iff, Bool.not_eq_true', Bool.not_eq_false', Bool.not_true, Bool.not_false, ints_length, List.length_map, tab_length] at *; omega)) | exact rep_inS _ _ (by first | omega | (simp only [decide_eq_true_eq, decide_eq_false_iff_not, Bool.or_eq_false_iff, Bool.not_eq_true', Bool.not_eq_false', Bool.not_true, Bool.not_false, ints_length, List.length_map, tab_length] at *; omega)) | (refine rep_outF ?_; repeat (first | assumption | exact few_all | exact few_none | apply few_flatE | apply few_signE | apply few_join | apply few_set | exact (rep_inF _ _ (by first | omega | (simp only [decide_eq_true_eq, decide_eq_false_iff_not, Bool.or_eq_false_iff, Bool.not_eq_true', Bool.not_eq_false', Bool.not_true, Bool.not_false, ints_length, List.length_map, tab_length] at *; omega))).few | exact (rep_inS _ _ (by first | omega | (simp only [decide_eq_true_eq, decide_eq_false_iff_not, Bool.or_eq_false_iff, Bool.not_eq_true', Bool.not_eq_false', Bool.not_true, Bool.not_false, ints_length, List.length_map, tab_length] at *; omega))).few)) | (refine rep_outS ?_; repeat (first | assumption | exact few_all | exact few_none | apply few_flatE | apply few_signE | apply few_join | apply few_set | exact (rep_inF _ _ (by first | omega | (simp only [decide_eq_true_eq, decide_eq_false_iff_not, Bool.or_eq_false_iff, Bool.not_eq_true', Bool.not_eq_false', Bool.not_true, Bool.not_false, ints_length, List.length_map, tab_length] at *; omega))).few | exact (rep_inS _ _ (by first | omega | (simp only [decide_eq_true_eq, decide_eq_false_iff_not, Bool.or_eq_false_iff, Bool.not_eq_true', Bool.not_eq_false', Bool.not_true, Bool.not_false, ints_length, List.length_map, tab_length] at *; omega))).few))))
    | ((with_reducible apply n_val); rfl; rfl)
    | ((with_reducible apply n_new); rfl; (first | (simp only [hn0, hn1, hn2, hn3, hn4, hn5, List.length_cons, List.length_nil, Nat.reduceAdd, Nat.zero_add]; done) | (simp only [hn0, hn1, hn2, hn3, hn4, hn5, List.length_cons, List.length_nil, Nat.reduceAdd, Nat.zero_add]; rfl) | rfl); rfl)
    | ((with_reducible apply n_store); rfl; rfl; rfl; rfl; rfl)
    | ((with_reducible apply n_call (f := 5)); rfl; rfl; exact p_law05_awake)
    | ((with_reducible apply n_call (f := 17)); rfl; rfl; exact p_law05_ours ..)
    | ((with_reducible apply n_call (f := 9)); rfl; rfl; exact p_law05_ourFlat _ _ (by first | omega | (simp only [decide_eq_true_eq, decide_eq_false_iff_not, Bool.or_eq_false_iff, Bool.not_eq_true', Bool.not_eq_false', Bool.not_true, Bool.not_false, ints_length, List.length_map, tab_length] at *; omega)))
    | ((with_reducible apply n_call (f := 14)); rfl; rfl; exact p_law05_ourSign ..)
    | ((with_reducible apply n_call (f := 18)); rfl; rfl; exact p_bits_New ..)
    | ((with_reducible apply n_call (f := 16)); rfl; rfl; exact r_bits_Union hx hy)
    | ((with_reducible apply n_call (f := 19)); rfl; rfl; exact p_env_JoinFlat (by first | exact rep_inF _ _ (by first | omega | (simp only [decide_eq_true_eq, decide_eq_false_iff_not, Bool.or_eq_false_iff, Bool.not_eq_true', Bool.not_eq_false', Bool.not_true, Bool.not_false, ints_length, List.length_map, tab_length] at *; omega)) | exact rep_inS _ _ (by first | omega | (simp only [decide_eq_true_eq, decide_eq_false_iff_not, Bool.or_eq_false_iff, Bool.not_eq_true', Bool.not_eq_false', Bool.not_true, Bool.not_false, ints_length, List.length_map, tab_length] at *; omega)) | (refine rep_outF ?_; repeat (first | assumption | exact few_all | exact few_none | apply few_flatE | apply few_signE | apply few_join | apply few_set | exact (rep_inF _ _ (by first | omega | (simp only [decide_eq_true_eq, decide_eq_false_iff_not, Bool.or_eq_false_iff, Bool.not_eq_true', Bool.not_eq_false', Bool.not_true, Bool.not_false, ints_length, List.length_map, tab_length] at *; omega))).few | exact (rep_inS _ _ (by first | omega | (simp only [decide_eq_true_eq, decide_eq_false_iff_not, Bool.or_eq_false_iff, Bool.not_eq_true', Bool.not_eq_false', Bool.not_true, Bool.not_false, ints_length, List.length_map, tab_length] at *; omega))).few)) | (refine rep_outS ?_; repeat (first | assumption | exact few_all | exact few_none | apply few_flatE | apply few_signE | apply few_join | apply few_set | exact (rep_inF _ _ (by first | omega | (simp only [decide_eq_true_eq, decide_eq_false_iff_not, Bool.or_eq_false_iff, Bool.not_eq_true', Bool.not_eq_false', Bool.not_true, Bool.not_false, ints_length, List.length_map, tab_length] at *; omega))).few | exact (rep_inS _ _ (by first | omega | (simp only [decide_eq_true_eq, decide_eq_false_iff_not, Bool.or_eq_false_iff, Bool.not_eq_true', Bool.not_eq_false', Bool.not_true, Bool.not_false, ints_length, List.length_map, tab_length] at *; omega))).few))) (by first | exact rep_inF _ _ (by first | omega | (simp only [decide_eq_true_eq, decide_eq_false_iff_not, Bool.or_eq_false_iff, Bool.not_eq_true', Bool.not_eq_false', Bool.not_true, Bool.not_false, ints_length, List.length_map, tab_length] at *; omega)) | exact rep_inS _ _ (by first | omega | (simp only [decide_eq_true_eq, decide_eq_false_iff_not, Bool.or_eq_false_iff, Bool.not_eq_true', Bool.not_eq_false', Bool.not_true, Bool.not_false, ints_length, List.length_map, tab_length] at *; omega)) | (refine rep_outF ?_; repeat (first | assumption | exact few_all | exact few_none | apply few_flatE | apply few_signE | apply few_join | apply few_set | exact (rep_inF _ _ (by first | omega | (simp only [decide_eq_true_eq, decide_eq_false_iff_not, Bool.or_eq_false_iff, Bool.not_eq_true', Bool.not_eq_false', Bool.not_true, Bool.not_false, ints_length, List.length_map, tab_length] at *; omega))).few | exact (rep_inS _ _ (by first | omega | (simp only [decide_eq_true_eq, decide_eq_false_iff_not, Bool.or_eq_false_iff, Bool.not_eq_true', Bool.not_eq_false', Bool.not_true, Bool.not_false, ints_length, List.length_map, tab_length] at *; omega))).few)) | (refine rep_outS ?_; repeat (first | assumption | exact few_all | exact few_none | apply few_flatE | apply few_signE | apply few_join | apply few_set | exact (rep_inF _ _ (by first | omega | (simp only [decide_eq_true_eq, decide_eq_false_iff_not, Bool.or_eq_false_iff, Bool.not_eq_true', Bool.not_eq_false', Bool.not_true, Bool.not_false, ints_length, List.length_map, tab_length] at *; omega))).few | exact (rep_inS _ _ (by first | omega | (simp only [decide_eq_true_eq, decide_eq_false_iff_not, Bool.or_eq_false_iff, Bool.not_eq_true', Bool.not_eq_false', Bool.not_true, Bool.not_false, ints_length, List.length_map, tab_length] at *; omega))).few))))
    | ((with_reducible apply n_call (f := 20)); rfl; rfl; exact p_env_JoinSign (by first | exact rep_inF _ _ (by first | omega | (simp only [decide_eq_true_eq, decide_eq_false_iff_not, Bool.or_eq_false_iff, Bool.not_eq_true', Bool.not_eq_false', Bool.not_true, Bool.not_false, ints_length, List.length_map, tab_length] at *; omega)) | exact rep_inS _ _ (by first | omega | (simp only [decide_eq_true_eq, decide_eq_false_iff_not, Bool.or_eq_false_iff, Bool.not_eq_true', Bool.not_eq_false', Bool.not_true, Bool.not_false, ints_length, List.length_map, tab_length] at *; omega)) | (refine rep_outF ?_; repeat (first | assumption | exact few_all | exact few_none | apply few_flatE | apply few_signE | apply few_join | apply few_set | exact (rep_inF _ _ (by first | omega | (simp only [decide_eq_true_eq, decide_eq_false_iff_not, Bool.or_eq_false_iff, Bool.not_eq_true', Bool.not_eq_false', Bool.not_true, Bool.not_false, ints_length, List.length_map, tab_length] at *; omega))).few | exact (rep_inS _ _ (by first | omega | (simp only [decide_eq_true_eq, decide_eq_false_iff_not, Bool.or_eq_false_iff, Bool.not_eq_true', Bool.not_eq_false', Bool.not_true, Bool.not_false, ints_length, List.length_map, tab_length] at *; omega))).few)) | (refine rep_outS ?_; repeat (first | assumption | exact few_all | exact few_none | apply few_flatE | apply few_signE | apply few_join | apply few_set | exact (rep_inF _ _ (by first | omega | (simp only [decide_eq_true_eq, decide_eq_false_iff_not, Bool.or_eq_false_iff, Bool.not_eq_true', Bool.not_eq_false', Bool.not_true, Bool.not_false, ints_length, List.length_map, tab_length] at *; omega))).few | exact (rep_inS _ _ (by first | omega | (simp only [decide_eq_true_eq, decide_eq_false_iff_not, Bool.or_eq_false_iff, Bool.not_eq_true', Bool.not_eq_false', Bool.not_true, Bool.not_false, ints_length, List.length_map, tab_length] at *; omega))).few))) (by first | exact rep_inF _ _ (by first | omega | (simp only [decide_eq_true_eq, decide_eq_false_iff_not, Bool.or_eq_false_iff, Bool.not_eq_true', Bool.not_eq_false', Bool.not_true, Bool.not_false, ints_length, List.length_map, tab_length] at *; omega)) | exact rep_inS _ _ (by first | omega | (simp only [decide_eq_true_eq, decide_eq_false_iff_not, Bool.or_eq_false_iff, Bool.not_eq_true', Bool.not_eq_false', Bool.not_true, Bool.not_false, ints_length, List.length_map, tab_length] at *; omega)) | (refine rep_outF ?_; repeat (first | assumption | exact few_all | exact few_none | apply few_flatE | apply few_signE | apply few_join | apply few_set | exact (rep_inF _ _ (by first | omega | (simp only [decide_eq_true_eq, decide_eq_false_iff_not, Bool.or_eq_false_iff, Bool.not_eq_true', Bool.not_eq_false', Bool.not_true, Bool.not_false, ints_length, List.length_map, tab_length] at *; omega))).few | exact (rep_inS _ _ (by first | omega | (simp only [decide_eq_true_eq, decide_eq_false_iff_not, Bool.or_eq_false_iff, Bool.not_eq_true', Bool.not_eq_false', Bool.not_true, Bool.not_false, ints_length, List.length_map, tab_length] at *; omega))).few)) | (refine rep_outS ?_; repeat (first | assumption | exact few_all | exact few_none | apply few_flatE | apply few_signE | apply few_join | apply few_set | exact (rep_inF _ _ (by first | omega | (simp only [decide_eq_true_eq, decide_eq_false_iff_not, Bool.or_eq_false_iff, Bool.not_eq_true', Bool.not_eq_false', Bool.not_true, Bool.not_false, ints_length, List.length_map, tab_length] at *; omega))).few | exact (rep_inS _ _ (by first | omega | (simp only [decide_eq_true_eq, decide_eq_false_iff_not, Bool.or_eq_false_iff, Bool.not_eq_true', Bool.not_eq_false', Bool.not_true, Bool.not_false, ints_length, List.length_map, tab_length] at *; omega))).few))))
    | ((with_reducible apply n_call (f := 24)); rfl; rfl; exact p_env_LeqFlat (by first | exact rep_inF _ _ (by first | omega | (simp only [decide_eq_true_eq, decide_eq_false_iff_not, Bool.or_eq_false_iff, Bool.not_eq_true', Bool.not_eq_false', Bool.not_true, Bool.not_false, ints_length, List.length_map, tab_length] at *; omega)) | exact rep_inS _ _ (by first | omega | (simp only [decide_eq_true_eq, decide_eq_false_iff_not, Bool.or_eq_false_iff, Bool.not_eq_true', Bool.not_eq_false', Bool.not_true, Bool.not_false, ints_length, List.length_map, tab_length] at *; omega)) | (refine rep_outF ?_; repeat (first | assumption | exact few_all | exact few_none | apply few_flatE | apply few_signE | apply few_join | apply few_set | exact (rep_inF _ _ (by first | omega | (simp only [decide_eq_true_eq, decide_eq_false_iff_not, Bool.or_eq_false_iff, Bool.not_eq_true', Bool.not_eq_false', Bool.not_true, Bool.not_false, ints_length, List.length_map, tab_length] at *; omega))).few | exact (rep_inS _ _ (by first | omega | (simp only [decide_eq_true_eq, decide_eq_false_iff_not, Bool.or_eq_false_iff, Bool.not_eq_true', Bool.not_eq_false', Bool.not_true, Bool.not_false, ints_length, List.length_map, tab_length] at *; omega))).few)) | (refine rep_outS ?_; repeat (first | assumption | exact few_all | exact few_none | apply few_flatE | apply few_signE | apply few_join | apply few_set | exact (rep_inF _ _ (by first | omega | (simp only [decide_eq_true_eq, decide_eq_false_iff_not, Bool.or_eq_false_iff, Bool.not_eq_true', Bool.not_eq_false', Bool.not_true, Bool.not_false, ints_length, List.length_map, tab_length] at *; omega))).few | exact (rep_inS _ _ (by first | omega | (simp only [decide_eq_true_eq, decide_eq_false_iff_not, Bool.or_eq_false_iff, Bool.not_eq_true', Bool.not_eq_false', Bool.not_true, Bool.not_false, ints_length, List.length_map, tab_length] at *; omega))).few))) (by first | exact rep_inF _ _ (by first | omega | (simp only [decide_eq_true_eq, decide_eq_false_iff_not, Bool.or_eq_false_iff, Bool.not_eq_true', Bool.not_eq_false', Bool.not_true, Bool.not_false, ints_length, List.length_map, tab_length] at *; omega)) | exact rep_inS _ _ (by first | omega | (simp only [decide_eq_true_eq, decide_eq_false_iff_not, Bool.or_eq_false_iff, Bool.not_eq_true', Bool.not_eq_false', Bool.not_true, Bool.not_false, ints_length, List.length_map, tab_length] at *; omega)) | (refine rep_outF ?_; repeat (first | assumption | exact few_all | exact few_none | apply few_flatE | apply few_signE | apply few_join | apply few_set | exact (rep_inF _ _ (by first | omega | (simp only [decide_eq_true_eq, decide_eq_false_iff_not, Bool.or_eq_false_iff, Bool.not_eq_true', Bool.not_eq_false', Bool.not_true, Bool.not_false, ints_length, List.length_map, tab_length] at *; omega))).few | exact (rep_inS _ _ (by first | omega | (simp only [decide_eq_true_eq, decide_eq_false_iff_not, Bool.or_eq_false_iff, Bool.not_eq_true', Bool.not_eq_false', Bool.not_true, Bool.not_false, ints_length, List.length_map, tab_length] at *; omega))).few)) | (refine rep_outS ?_; repeat (first | assumption | exact few_all | exact few_none | apply few_flatE | apply few_signE | apply few_join | apply few_set | exact (rep_inF _ _ (by first | omega | (simp only [decide_eq_true_eq, decide_eq_false_iff_not, Bool.or_eq_false_iff, Bool.not_eq_true', Bool.not_eq_false', Bool.not_true, Bool.not_false, ints_length, List.length_map, tab_length] at *; omega))).few | exact (rep_inS _ _ (by first | omega | (simp only [decide_eq_true_eq, decide_eq_false_iff_not, Bool.or_eq_false_iff, Bool.not_eq_true', Bool.not_eq_false', Bool.not_true, Bool.not_false, ints_length, List.length_map, tab_length] at *; omega))).few))))
    | ((with_reducible apply n_call (f := 25)); rfl; rfl; exact p_env_LeqSign (by first | exact rep_inF _ _ (by first | omega | (simp only [decide_eq_true_eq, decide_eq_false_iff_not, Bool.or_eq_false_iff, Bool.not_eq_true', Bool.not_eq_false', Bool.not_true, Bool.not_false, ints_length, List.length_map, tab_length] at *; omega)) | exact rep_inS _ _ (by first | omega | (simp only [decide_eq_true_eq, decide_eq_false_iff_not, Bool.or_eq_false_iff, Bool.not_eq_true', Bool.not_eq_false', Bool.not_true, Bool.not_false, ints_length, List.length_map, tab_length] at *; omega)) | (refine rep_outF ?_; repeat (first | assumption | exact few_all | exact few_none | apply few_flatE | apply few_signE | apply few_join | apply few_set | exact (rep_inF _ _ (by first | omega | (simp only [decide_eq_true_eq, decide_eq_false_iff_not, Bool.or_eq_false_iff, Bool.not_eq_true', Bool.not_eq_false', Bool.not_true, Bool.not_false, ints_length, List.length_map, tab_length] at *; omega))).few | exact (rep_inS _ _ (by first | omega | (simp only [decide_eq_true_eq, decide_eq_false_iff_not, Bool.or_eq_false_iff, Bool.not_eq_true', Bool.not_eq_false', Bool.not_true, Bool.not_false, ints_length, List.length_map, tab_length] at *; omega))).few)) | (refine rep_outS ?_; repeat (first | assumption | exact few_all | exact few_none | apply few_flatE | apply few_signE | apply few_join | apply few_set | exact (rep_inF _ _ (by first | omega | (simp only [decide_eq_true_eq, decide_eq_false_iff_not, Bool.or_eq_false_iff, Bool.not_eq_true', Bool.not_eq_false', Bool.not_true, Bool.not_false, ints_length, List.length_map, tab_length] at *; omega))).few | exact (rep_inS _ _ (by first | omega | (simp only [decide_eq_true_eq, decide_eq_false_iff_not, Bool.or_eq_false_iff, Bool.not_eq_true', Bool.not_eq_false', Bool.not_true, Bool.not_false, ints_length, List.length_map, tab_length] at *; omega))).few))) (by first | exact rep_inF _ _ (by first | omega | (simp only [decide_eq_true_eq, decide_eq_false_iff_not, Bool.or_eq_false_iff, Bool.not_eq_true', Bool.not_eq_false', Bool.not_true, Bool.not_false, ints_length, List.length_map, tab_length] at *; omega)) | exact rep_inS _ _ (by first | omega | (simp only [decide_eq_true_eq, decide_eq_false_iff_not, Bool.or_eq_false_iff, Bool.not_eq_true', Bool.not_eq_false', Bool.not_true, Bool.not_false, ints_length, List.length_map, tab_length] at *; omega)) | (refine rep_outF ?_; repeat (first | assumption | exact few_all | exact few_none | apply few_flatE | apply few_signE | apply few_join | apply few_set | exact (rep_inF _ _ (by first | omega | (simp only [decide_eq_true_eq, decide_eq_false_iff_not, Bool.or_eq_false_iff, Bool.not_eq_true', Bool.not_eq_false', Bool.not_true, Bool.not_false, ints_length, List.length_map, tab_length] at *; omega))).few | exact (rep_inS _ _ (by first | omega | (simp only [decide_eq_true_eq, decide_eq_false_iff_not, Bool.or_eq_false_iff, Bool.not_eq_true', Bool.not_eq_false', Bool.not_true, Bool.not_false, ints_length, List.length_map, tab_length] at *; omega))).few)) | (refine rep_outS ?_; repeat (first | assumption | exact few_all | exact few_none | apply few_flatE | apply few_signE | apply few_join | apply few_set | exact (rep_inF _ _ (by first | omega | (simp only [decide_eq_true_eq, decide_eq_false_iff_not, Bool.or_eq_false_iff, Bool.not_eq_true', Bool.not_eq_false', Bool.not_true, Bool.not_false, ints_length, List.length_map, tab_length] at *; omega))).few | exact (rep_inS _ _ (by first | omega | (simp only [decide_eq_true_eq, decide_eq_false_iff_not, Bool.or_eq_false_iff, Bool.not_eq_true', Bool.not_eq_false', Bool.not_true, Bool.not_false, ints_length, List.length_map, tab_length] at *; omega))).few))))
    | ((with_reducible apply n_call (f := 8)); rfl; rfl; exact p_Flat _ (by first | exact rep_inF _ _ (by first | omega | (simp only [decide_eq_true_eq, decide_eq_false_iff_not, Bool.or_eq_false_iff, Bool.not_eq_true', Bool.not_eq_false', Bool.not_true, Bool.not_false, ints_length, List.length_map, tab_length] at *; omega)) | exact rep_inS _ _ (by first | omega | (simp only [decide_eq_true_eq, decide_eq_false_iff_not, Bool.or_eq_false_iff, Bool.not_eq_true', Bool.not_eq_false', Bool.not_true, Bool.not_false, ints_length, List.length_map, tab_length] at *; omega)) | (refine rep_outF ?_; repeat (first | assumption | exact few_all | exact few_none | apply few_flatE | apply few_signE | apply few_join | apply few_set | exact (rep_inF _ _ (by first | omega | (simp only [decide_eq_true_eq, decide_eq_false_iff_not, Bool.or_eq_false_iff, Bool.not_eq_true', Bool.not_eq_false', Bool.not_true, Bool.not_false, ints_length, List.length_map, tab_length] at *; omega))).few | exact (rep_inS _ _ (by first | omega | (simp only [decide_eq_true_eq, decide_eq_false_iff_not, Bool.or_eq_false_iff, Bool.not_eq_true', Bool.not_eq_false', Bool.not_true, Bool.not_false, ints_length, List.length_map, tab_length] at *; omega))).few)) | (refine rep_outS ?_; repeat (first | assumption | exact few_all | exact few_none | apply few_flatE | apply few_signE | apply few_join | apply few_set | exact (rep_inF _ _ (by first | omega | (simp only [decide_eq_true_eq, decide_eq_false_iff_not, Bool.or_eq_false_iff, Bool.not_eq_true', Bool.not_eq_false', Bool.not_true, Bool.not_false, ints_length, List.length_map, tab_length] at *; omega))).few | exact (rep_inS _ _ (by first | omega | (simp only [decide_eq_true_eq, decide_eq_false_iff_not, Bool.or_eq_false_iff, Bool.not_eq_true', Bool.not_eq_false', Bool.not_true, Bool.not_false, ints_length, List.length_map, tab_length] at *; omega))).few))))
    | ((with_reducible apply n_call (f := 23)); rfl; rfl; exact r_Live (by first | exact hx | exact hy | (refine rep_mk ?_; (repeat (first | assumption | exact ok_zero (by omega) | exact ok_ofV _ _ (by decide) | apply ok_live | apply ok_reach | apply ok_or | apply ok_minus | apply ok_and | apply ok_with | apply ok_wout)))) _)
    | ((with_reducible apply n_call (f := 22)); rfl; rfl; exact r_Reach (by first | exact hx | exact hy | (refine rep_mk ?_; (repeat (first | assumption | exact ok_zero (by omega) | exact ok_ofV _ _ (by decide) | apply ok_live | apply ok_reach | apply ok_or | apply ok_minus | apply ok_and | apply ok_with | apply ok_wout)))) _ [i.id] (by simp))
    | ((with_reducible apply n_call (f := 21)); rfl; rfl; exact r_bits_Leq (by first | exact hx | exact hy | (refine rep_mk ?_; (repeat (first | assumption | exact ok_zero (by omega) | exact ok_ofV _ _ (by decide) | apply ok_live | apply ok_reach | apply ok_or | apply ok_minus | apply ok_and | apply ok_with | apply ok_wout)))) (by first | exact hx | exact hy | (refine rep_mk ?_; (repeat (first | assumption | exact ok_zero (by omega) | exact ok_ofV _ _ (by decide) | apply ok_live | apply ok_reach | apply ok_or | apply ok_minus | apply ok_and | apply ok_with | apply ok_wout)))))
    | (with_reducible refine condT_split (fun h => ?_) (fun h => ?_))
    | ((with_reducible apply fnQ_told_ret); rfl)
    | ((with_reducible apply fnQ_ret_soft); rfl; rfl)
  · rfl
  · rfl
  · rw [l1, l2, l3]
    exact congrArg PV.bool (by simpa using l4)
end Go.Vm
end
