/-
  Proved: a unifier that is found unifies, stays, and every other one comes of it: the law TopRobinson returns true. Conditions: none.
-/
import Derived.Test.YtohgkbgpcnmdpaaRob21
import Derived.Test.YtohgkbgpcnmdpaaRows
import Derived.ProofKit
import Derived.OpenShut
import Derived.JoinedCond
import Derived.Deep.Slices
namespace Go.Proofs.Ytohgkbgpcnmdpaa
open Go Go.RowKit
set_option linter.unusedVariables false
set_option linter.unusedSimpArgs false
set_option maxHeartbeats 1600000
abbrev nA : ByteArray := ⟨#[97]⟩
abbrev nB : ByteArray := ⟨#[98]⟩
abbrev nF : ByteArray := ⟨#[102]⟩
abbrev nX : ByteArray := ⟨#[88]⟩
abbrev nY : ByteArray := ⟨#[89]⟩
abbrev factL : Tm := .mk nF [.mk nA [], .mk nX []]
abbrev factR : Tm := .mk nF [.mk nY [], .mk nB []]
set_option maxRecDepth 100000 in
theorem factL_read : readOf ⟨#[102,40,97,44,88,41]⟩ = (factL, 0) := by kernel_rfl
set_option maxRecDepth 100000 in
theorem factR_read : readOf ⟨#[102,40,89,44,98,41]⟩ = (factR, 0) := by kernel_rfl
theorem fact_may : pairsMay [(factL, factR)] = 0 := by kernel_rfl
abbrev factS : List Bd := [(nX, .mk nB []), (nY, .mk nA [])]
theorem fact_ends : UEnds 3 [] [(factL, factR)] (factS, 0) := by
  refine .go (s' := []) (ps := [(.mk nA [], .mk nY []), (.mk nX [], .mk nB [])]) (by kernel_rfl) ?_
  refine .go (s' := [(nY, .mk nA [])]) (ps := []) (by kernel_rfl) ?_
  refine .go (s' := factS) (ps := []) (by kernel_rfl) ?_
  exact .nil
set_option maxRecDepth 20000 in
theorem fact_a : ACalls Try.prog 21 [] (aBool true) := by
  have h1 := parse_a ⟨#[102,40,97,44,88,41]⟩
  have h2 := parse_a ⟨#[102,40,89,44,98,41]⟩
  rw [factL_read] at h1
  rw [factR_read] at h2
  have h3 := unify_yes fact_may fact_ends
  unfold readV at h1 h2
  refine ac_metaprunetop_fact (Nat.le_of_ble_eq_true rfl) fun C hC => ?_
  unfold ir_metaprunetop_fact
  repeat' (first | (with_reducible first | refine Wa ?_ | refine Wb ?_ | refine Wc ?_ | refine Wd ?_ | refine We ?_ | refine Wf ?_ | refine Wg ?_ | refine Wh ?_ | refine Wi ?_ | refine Wj ?_ | refine Wk (by decide) ?_ | refine Wl ?_ | refine Wm ?_ | refine Wn ?_) | refine CallG.mk _ (h1) ?_ | refine CallG.mk _ (h2) ?_ | refine CallG.mk _ (h3) ?_ | ((with_reducible first | refine Wo (fun K hK => ?_) | refine Wp ?_ | refine Wq ?_ | refine Wr ?_); (try simp only [go_sem, List.forall_mem_nil, ↓guard_ite, ↓pick_ite, seval, encT_eq, inR_i64, encB, decide_eq_true_eq, decide_eq_false_iff_not, Int.ofNat_lt]); (repeat with_reducible refine And.intro (by first | omega | (with_reducible first | exact lens_encT | exact lens_encL | exact lens_encB | exact lens_encP) | (simp; done) | (simp only [List.length_take, List.length_map, List.length_append, maxLen_eq]; omega)) ?_); (try (with_reducible refine hK _ ?_; clear hK K)); (try with_reducible refine ite_conj ?_)))
  simp only [go_sem, List.forall_mem_nil, ↓guard_ite, ↓pick_ite, seval, FinQ, AS.result, resAll, resOne, tupV]
end Go.Proofs.Ytohgkbgpcnmdpaa

namespace Go.Proofs.Ytohgkbgpcnmdpaa
open Go Go.RowKit
set_option maxRecDepth 100000
def ir_metaprunetop_TopRobinson : IR :=
  (.seq
  (.ops
  [.mk (some 6) none (.mov (.c (.one (.st (.bool false)))))
  .no])
  (.seq
  (.seq
  (.ops
  [.mk (some 34) none (.mov (.t 0)) .no, .mk (some 35) none (.len false (.t 34)) .no, .mk (some 36) none (.bin .gtr (.t 35) (.c (.one (.st (.int .i64 256)))))
  .no])
  (.cond (.t 36)
  (.seq
  (.ops
  [.mk (some 6) none (.mov (.c (.one (.st (.bool true)))))
  .no])
  .ret)
  .skip))
  (.seq
  (.ops
  [.mk (some 7) none (.mov (.c (.one (.full []))))
  .no])
  (.seq
  (.seq
  (.ops
  [.mk (some 8) none (.mov (.c (.one (.st (.int .i64 0)))))
  .no])
  (.block 0
  (.loop
  (.seq
  (.seq
  (.ops
  [.mk (some 37) none (.mov (.t 8)) .no, .mk (some 38) none (.bin .lss (.t 37) (.c (.one (.st (.int .i64 3)))))
  .no])
  (.cond (.t 38) .skip (.exit 0)))
  (.seq
  (.block 1
  (.seq
  (.ops
  [.mk (some 42) none (.call 22
  [.c (.one (.st (.str (ByteArray.mk (#[85])))))])
  .no, .mk (some 43) none
  (.build
  [.st (.str (ByteArray.mk (#[]))), .st (.str (ByteArray.mk (#[]))),
  .full []]
  [(0, 1, .c (.one (.st (.str (ByteArray.mk (#[88])))))),
  (1, 2, .t 42)])
  .no, .mk (some 44) none (.buildSlice false 56 3 [.t 43]) .no, .mk (some 45) none (.mov (.t 0)) .no, .mk (some 46) none (.mov (.t 8)) .no, .mk (some 47) none (.bin .mul (.c (.one (.st (.int .i64 9)))) (.t 46))
  .no, .mk (some 48) none (.call 10
  [.t 45, .t 47, .c (.one (.st (.int .i64 6))), .c (.one (.st (.int .i64 1)))])
  .no, .mk (some 49) none (.call 20 [.t 44, .t 48])
  .no, .mk (some 41) none (.mov (.t 49)) .no, .mk (some 50) none (.extract 0 (.t 41)) .no, .mk (some 51) none (.extract 1 (.t 41)) .no, .mk (some 9) none
  (.alloc 24 [.st (.str (ByteArray.mk (#[]))), .full []])
  .no, .mk none none (.store 2 (.t 9) (.t 50))
  .no, .mk (some 10) none (.mov (.t 51)) .no])
  (.seq
  (.seq
  (.ops
  [.mk (some 52) none (.mov (.t 10)) .no, .mk (some 53) none (.un .not (.t 52)) .no])
  (.cond (.t 53)
  (.seq
  (.ops
  [.mk (some 6) none (.mov (.c (.one (.st (.bool true)))))
  .no])
  .ret)
  .skip))
  (.ops
  [.mk (some 54) none (.mov (.t 7)) .no, .mk (some 55) none
  (.buildFlat
  [.c (.one (.st (.str (ByteArray.mk (#[88]))))), .c (.one (.st (.str (ByteArray.mk (#[89]))))), .c (.one (.st (.str (ByteArray.mk (#[90])))))])
  .no, .mk (some 56) none (.mov (.t 8)) .no, .mk (some 57) none (.indexAddr 1 (.t 55) (.t 56))
  .no, .mk (some 58) none (.load false 1 (.t 57)) .no, .mk (some 59) none (.load true 2 (.t 9)) .no, .mk (some 60) none
  (.build
  [.st (.str (ByteArray.mk (#[]))), .st (.str (ByteArray.mk (#[]))), .full []]
  [(0, 1, .t 58), (1, 2, .t 59)])
  .no, .mk (some 61) none (.buildSlice false 56 3 [.t 60]) .no, .mk (some 62) none (.append false 56 3 56 (.t 54) (.t 61))
  .no, .mk (some 7) none (.mov (.t 62)) .no]))))
  (.ops
  [.mk (some 39) none (.mov (.t 8)) .no, .mk (some 40) none (.bin .add (.t 39) (.c (.one (.st (.int .i64 1)))))
  .no, .mk (some 8) none (.mov (.t 40)) .no]))))))
  (.seq
  (.ops
  [.mk (some 11) none (.mov (.c (.one (.full []))))
  .no])
  (.seq
  (.seq
  (.ops
  [.mk (some 12) none (.mov (.c (.one (.st (.int .i64 0)))))
  .no])
  (.block 2
  (.loop
  (.seq
  (.seq
  (.ops
  [.mk (some 63) none (.mov (.t 12)) .no, .mk (some 64) none (.mov (.t 1)) .no, .mk (some 65) none (.call 11
  [.t 64, .c (.one (.st (.int .i64 3)))])
  .no, .mk (some 66) none (.bin .add (.c (.one (.st (.int .i64 1)))) (.t 65))
  .no, .mk (some 67) none (.bin .lss (.t 63) (.t 66))
  .no])
  (.cond (.t 67) .skip (.exit 2)))
  (.seq
  (.block 3
  (.seq
  (.ops
  [.mk (some 70) none (.mov (.t 0)) .no, .mk (some 71) none (.mov (.t 12)) .no, .mk (some 72) none (.bin .mul (.c (.one (.st (.int .i64 20)))) (.t 71))
  .no, .mk (some 73) none (.bin .add (.c (.one (.st (.int .i64 40)))) (.t 72))
  .no, .mk (some 74) none (.mov (.t 2)) .no, .mk (some 75) none (.call 11
  [.t 74, .c (.one (.st (.int .i64 9)))])
  .no, .mk (some 76) none (.bin .add (.c (.one (.st (.int .i64 1)))) (.t 75))
  .no, .mk (some 77) none (.call 10
  [.t 70, .t 73, .t 76, .c (.one (.st (.int .i64 3)))])
  .no, .mk (some 13) none
  (.alloc 24 [.st (.str (ByteArray.mk (#[]))), .full []])
  .no, .mk none none (.store 2 (.t 13) (.t 77))
  .no])
  (.seq
  (.ops
  [.mk (some 79) none (.mov (.t 7)) .no, .mk (some 80) none (.mov (.t 1)) .no, .mk (some 81) none (.bin .quo (.t 80) (.c (.one (.st (.int .i64 3)))))
  .no, .mk (some 82) none (.call 11
  [.t 81, .c (.one (.st (.int .i64 3)))])
  .no, .mk (some 83) none
  (.sliceL 3 (.t 79) (some (.t 82)) none) .no, .mk (some 84) none (.load true 2 (.t 13)) .no, .mk (some 85) none (.call 20 [.t 83, .t 84])
  .no, .mk (some 78) none (.mov (.t 85)) .no, .mk (some 86) none (.extract 0 (.t 78)) .no, .mk (some 87) none (.extract 1 (.t 78)) .no, .mk (some 14) none
  (.alloc 24 [.st (.str (ByteArray.mk (#[]))), .full []])
  .no, .mk none none (.store 2 (.t 14) (.t 86))
  .no, .mk (some 15) none (.mov (.t 87)) .no])
  (.seq
  (.seq
  (.ops
  [.mk (some 88) none (.mov (.t 15)) .no, .mk (some 89) none (.un .not (.t 88)) .no, .mk (some 90) none (.mov (.t 89)) .no, .mk (some 91) (some (90, false)) (.load true 2 (.t 14))
  .no, .mk (some 92) (some (90, false)) (.call 23
  [.t 91, .c (.one (.st (.int .i64 200)))])
  .no, .mk (some 93) (some (90, false)) (.bin .gtr (.t 92) (.c (.one (.st (.int .i64 200)))))
  .no, .mk (some 94) none
  (.pick (.t 90) (.c (.one (.st (.bool true)))) (.t 93))
  .no])
  (.cond (.t 94)
  (.seq
  (.ops
  [.mk (some 6) none (.mov (.c (.one (.st (.bool true)))))
  .no])
  .ret)
  .skip))
  (.ops
  [.mk (some 95) none (.mov (.t 11)) .no, .mk (some 96) none (.load true 2 (.t 13)) .no, .mk (some 97) none (.load true 2 (.t 14)) .no, .mk (some 98) none
  (.build
  [.st (.str (ByteArray.mk (#[]))), .full [], .st (.str (ByteArray.mk (#[]))), .full []]
  [(0, 2, .t 96), (2, 2, .t 97)])
  .no, .mk (some 99) none (.buildSlice false 51 4 [.t 98]) .no, .mk (some 100) none
  (.append false 51 4 80 (.t 95) (.t 99)) .no, .mk (some 11) none (.mov (.t 100)) .no])))))
  (.ops
  [.mk (some 68) none (.mov (.t 12)) .no, .mk (some 69) none (.bin .add (.t 68) (.c (.one (.st (.int .i64 1)))))
  .no, .mk (some 12) none (.mov (.t 69)) .no]))))))
  (.seq
  (.ops
  [.mk (some 102) none (.mov (.t 11)) .no, .mk (some 103) none (.call 18 [.t 102]) .no, .mk (some 101) none (.mov (.t 103)) .no, .mk (some 104) none (.extract 0 (.t 101)) .no, .mk (some 105) none (.extract 1 (.t 101)) .no, .mk (some 16) none (.mov (.t 104)) .no, .mk (some 17) none (.mov (.t 105)) .no])
  (.seq
  (.ops
  [.mk (some 107) none (.mov (.t 16)) .no, .mk (some 108) none (.call 24 [.t 107]) .no, .mk (some 106) none (.mov (.t 108)) .no, .mk (some 109) none (.extract 0 (.t 106)) .no, .mk (some 110) none (.extract 1 (.t 106)) .no, .mk (some 111) none (.extract 2 (.t 106)) .no, .mk (some 18) none (.mov (.t 109)) .no, .mk (some 19) none (.mov (.t 110)) .no, .mk (some 20) none (.mov (.t 111)) .no])
  (.seq
  (.seq
  (.ops
  [.mk (some 112) none (.mov (.t 17)) .no, .mk (some 113) none (.bin .neq (.t 112) (.c (.one (.st (.int .i64 0)))))
  .no, .mk (some 114) none (.mov (.t 113)) .no, .mk (some 115) (some (114, false)) (.mov (.t 20)) .no, .mk (some 116) (some (114, false)) (.bin .neq (.t 115) (.c (.one (.st (.int .i64 0)))))
  .no, .mk (some 117) none
  (.pick (.t 114) (.c (.one (.st (.bool true)))) (.t 116))
  .no, .mk (some 118) none (.mov (.t 117)) .no, .mk (some 119) (some (118, false)) (.mov (.t 18)) .no, .mk (some 120) (some (118, false)) (.un .not (.t 119)) .no, .mk (some 121) none
  (.pick (.t 118) (.c (.one (.st (.bool true)))) (.t 120))
  .no, .mk (some 122) none (.mov (.t 121)) .no, .mk (some 123) (some (122, false)) (.call 21 []) .no, .mk (some 124) (some (122, false)) (.un .not (.t 123)) .no, .mk (some 125) none
  (.pick (.t 122) (.c (.one (.st (.bool true)))) (.t 124))
  .no])
  (.cond (.t 125)
  (.seq
  (.ops
  [.mk (some 6) none (.mov (.c (.one (.st (.bool false)))))
  .no])
  .ret)
  .skip))
  (.seq
  (.seq
  (.ops
  [.mk (some 21) none (.mov (.c (.one (.st (.int .i64 0)))))
  .no])
  (.block 4
  (.loop
  (.seq
  (.seq
  (.ops
  [.mk (some 126) none (.mov (.t 21)) .no, .mk (some 127) none (.mov (.t 11)) .no, .mk (some 128) none (.len false (.t 127)) .no, .mk (some 129) none (.bin .lss (.t 126) (.t 128))
  .no])
  (.cond (.t 129) .skip (.exit 4)))
  (.seq
  (.block 5
  (.seq
  (.ops
  [.mk (some 133) none (.mov (.t 16)) .no, .mk (some 134) none (.mov (.t 11)) .no, .mk (some 135) none (.mov (.t 21)) .no, .mk (some 136) none (.indexAddr 4 (.t 134) (.t 135))
  .no, .mk (some 137) none (.fieldAddr 0 (.t 136)) .no, .mk (some 138) none (.load true 2 (.t 137)) .no, .mk (some 139) none (.call 25 [.t 133, .t 138])
  .no, .mk (some 132) none (.mov (.t 139)) .no, .mk (some 140) none (.extract 0 (.t 132)) .no, .mk (some 141) none (.extract 1 (.t 132)) .no, .mk (some 22) none
  (.alloc 24 [.st (.str (ByteArray.mk (#[]))), .full []])
  .no, .mk none none (.store 2 (.t 22) (.t 140))
  .no, .mk (some 23) none (.mov (.t 141)) .no])
  (.seq
  (.ops
  [.mk (some 143) none (.mov (.t 16)) .no, .mk (some 144) none (.mov (.t 11)) .no, .mk (some 145) none (.mov (.t 21)) .no, .mk (some 146) none (.indexAddr 4 (.t 144) (.t 145))
  .no, .mk (some 147) none (.fieldAddr 2 (.t 146)) .no, .mk (some 148) none (.load true 2 (.t 147)) .no, .mk (some 149) none (.call 25 [.t 143, .t 148])
  .no, .mk (some 142) none (.mov (.t 149)) .no, .mk (some 150) none (.extract 0 (.t 142)) .no, .mk (some 151) none (.extract 1 (.t 142)) .no, .mk (some 24) none
  (.alloc 24 [.st (.str (ByteArray.mk (#[]))), .full []])
  .no, .mk none none (.store 2 (.t 24) (.t 150))
  .no, .mk (some 25) none (.mov (.t 151)) .no])
  (.seq
  (.ops
  [.mk (some 152) none (.mov (.t 23)) .no, .mk (some 153) none (.bin .neq (.t 152) (.c (.one (.st (.int .i64 0)))))
  .no, .mk (some 154) none (.mov (.t 153)) .no, .mk (some 155) (some (154, false)) (.mov (.t 25))
  .no, .mk (some 156) (some (154, false)) (.bin .neq (.t 155) (.c (.one (.st (.int .i64 0)))))
  .no, .mk (some 157) none
  (.pick (.t 154) (.c (.one (.st (.bool true)))) (.t 156))
  .no, .mk (some 158) none (.mov (.t 157)) .no, .mk (some 159) (some (158, false)) (.load true 2 (.t 22))
  .no, .mk (some 160) (some (158, false)) (.load true 2 (.t 24))
  .no, .mk (some 161) (some (158, false)) (.call 14 [.t 159, .t 160]) .no, .mk (some 162) (some (158, false)) (.un .not (.t 161))
  .no, .mk (some 163) none
  (.pick (.t 158) (.c (.one (.st (.bool true)))) (.t 162))
  .no])
  (.cond (.t 163)
  (.seq
  (.ops
  [.mk (some 6) none (.mov (.c (.one (.st (.bool false)))))
  .no])
  .ret)
  .skip)))))
  (.ops
  [.mk (some 130) none (.mov (.t 21)) .no, .mk (some 131) none (.bin .add (.t 130) (.c (.one (.st (.int .i64 1)))))
  .no, .mk (some 21) none (.mov (.t 131)) .no]))))))
  (.seq
  (.ops
  [.mk (some 164) none
  (.buildFlat
  [.c (.one (.st (.str (ByteArray.mk (#[88]))))), .c (.one (.st (.str (ByteArray.mk (#[89]))))), .c (.one (.st (.str (ByteArray.mk (#[90]))))), .c (.one (.st (.str (ByteArray.mk (#[85])))))])
  .no, .mk (some 26) none (.mov (.t 164)) .no])
  (.seq
  (.seq
  (.ops
  [.mk (some 27) none (.mov (.c (.one (.st (.int .i64 0)))))
  .no])
  (.block 6
  (.loop
  (.seq
  (.seq
  (.ops
  [.mk (some 165) none (.mov (.t 27)) .no, .mk (some 166) none (.bin .lss (.t 165) (.c (.one (.st (.int .i64 4)))))
  .no])
  (.cond (.t 166) .skip (.exit 6)))
  (.seq
  (.block 7
  (.seq
  (.ops
  [.mk (some 170) none (.mov (.t 16)) .no, .mk (some 171) none (.mov (.t 26)) .no, .mk (some 172) none (.mov (.t 27)) .no, .mk (some 173) none (.indexAddr 1 (.t 171) (.t 172))
  .no, .mk (some 174) none (.load false 1 (.t 173))
  .no, .mk (some 175) none (.call 22 [.t 174]) .no, .mk (some 176) none (.call 25 [.t 170, .t 175])
  .no, .mk (some 169) none (.mov (.t 176)) .no, .mk (some 177) none (.extract 0 (.t 169)) .no, .mk (some 178) none (.extract 1 (.t 169)) .no, .mk (some 28) none
  (.alloc 24 [.st (.str (ByteArray.mk (#[]))), .full []])
  .no, .mk none none (.store 2 (.t 28) (.t 177))
  .no, .mk (some 29) none (.mov (.t 178)) .no])
  (.seq
  (.seq
  (.ops
  [.mk (some 179) none (.mov (.t 29)) .no, .mk (some 180) none (.bin .neq (.t 179) (.c (.one (.st (.int .i64 0)))))
  .no])
  (.cond (.t 180)
  (.seq
  (.ops
  [.mk (some 6) none (.mov (.c (.one (.st (.bool false)))))
  .no])
  .ret)
  .skip))
  (.seq
  (.ops
  [.mk (some 182) none (.mov (.t 7)) .no, .mk (some 183) none (.load true 2 (.t 28))
  .no, .mk (some 184) none (.call 20 [.t 182, .t 183])
  .no, .mk (some 181) none (.mov (.t 184)) .no, .mk (some 185) none (.extract 0 (.t 181)) .no, .mk (some 186) none (.extract 1 (.t 181)) .no, .mk (some 30) none
  (.alloc 24 [.st (.str (ByteArray.mk (#[]))), .full []])
  .no, .mk none none (.store 2 (.t 30) (.t 185))
  .no, .mk (some 31) none (.mov (.t 186)) .no])
  (.seq
  (.ops
  [.mk (some 188) none (.mov (.t 7)) .no, .mk (some 189) none (.mov (.t 26)) .no, .mk (some 190) none (.mov (.t 27)) .no, .mk (some 191) none
  (.indexAddr 1 (.t 189) (.t 190)) .no, .mk (some 192) none (.load false 1 (.t 191))
  .no, .mk (some 193) none (.call 22 [.t 192]) .no, .mk (some 194) none (.call 20 [.t 188, .t 193])
  .no, .mk (some 187) none (.mov (.t 194)) .no, .mk (some 195) none (.extract 0 (.t 187)) .no, .mk (some 196) none (.extract 1 (.t 187)) .no, .mk (some 32) none
  (.alloc 24
  [.st (.str (ByteArray.mk (#[]))), .full []])
  .no, .mk none none (.store 2 (.t 32) (.t 195))
  .no, .mk (some 33) none (.mov (.t 196)) .no])
  (.seq
  (.ops
  [.mk (some 197) none (.mov (.t 31)) .no, .mk (some 198) none (.un .not (.t 197))
  .no, .mk (some 199) none (.mov (.t 198)) .no, .mk (some 200) (some (199, false)) (.mov (.t 33))
  .no, .mk (some 201) (some (199, false)) (.un .not (.t 200))
  .no, .mk (some 202) none
  (.pick (.t 199) (.c (.one (.st (.bool true)))) (.t 201))
  .no, .mk (some 203) none (.mov (.t 202)) .no, .mk (some 204) (some (203, false)) (.load true 2 (.t 30))
  .no, .mk (some 205) (some (203, false)) (.load true 2 (.t 32))
  .no, .mk (some 206) (some (203, false)) (.call 14 [.t 204, .t 205]) .no, .mk (some 207) (some (203, false)) (.un .not (.t 206))
  .no, .mk (some 208) none
  (.pick (.t 203) (.c (.one (.st (.bool true)))) (.t 207))
  .no])
  (.cond (.t 208)
  (.seq
  (.ops
  [.mk (some 6) none (.mov (.c (.one (.st (.bool false)))))
  .no])
  .ret)
  .skip)))))))
  (.ops
  [.mk (some 167) none (.mov (.t 27)) .no, .mk (some 168) none (.bin .add (.t 167) (.c (.one (.st (.int .i64 1)))))
  .no, .mk (some 27) none (.mov (.t 168)) .no]))))))
  (.seq
  (.ops
  [.mk (some 6) none (.mov (.c (.one (.st (.bool true)))))
  .no])
  .ret)))))))))))))
theorem tr_metaprunetop_TopRobinson : trCode Try.prog 209 [] (Try.f6.body.getD .skip) = some ir_metaprunetop_TopRobinson := by kernel_rfl
theorem ac_metaprunetop_TopRobinson {xs : List AV} {r : AV} (hn : xs.length ≤ 209) (h : ∀ C : Ctx, C.n = 209 → IWP Try.prog C [] ir_metaprunetop_TopRobinson (FinQ [.t 6] r) (AS.start xs)) : ACalls Try.prog 6 xs r :=
  acalls_of Try.func6 rfl tr_metaprunetop_TopRobinson rfl hn h
end Go.Proofs.Ytohgkbgpcnmdpaa

namespace Go.Proofs.Ytohgkbgpcnmdpaa
open Go Go.RowKit
set_option linter.unusedVariables false
set_option linter.unusedSimpArgs false
set_option maxHeartbeats 1600000
def nm4 (i : Nat) : ByteArray := [vX, vY, vZ, vU].getD i ⟨#[]⟩
def nmT (i : Nat) : ByteArray := [vX, vY, vZ].getD i ⟨#[]⟩
theorem three_of {T : Nat → Tm} (hT : ∀ i, i < 3 → (T i).size ≤ 11 ∧ (T i).chk = 0 ∧ NamesIn 1 (T i)) : Three ((List.range 3).map fun i => (nmT i, (T i).on [(vX, vT vU)])) := by
  have hmem : ∀ b ∈ (List.range 3).map fun i => (nmT i, (T i).on [(vX, vT vU)]), ∃ i, i < 3 ∧ b = (nmT i, (T i).on [(vX, vT vU)]) := fun b hb => by
    obtain ⟨i, hi, rfl⟩ := List.mem_map.1 hb
    exact ⟨i, List.mem_range.1 hi, rfl⟩
  have hv : ∀ i, i < 3 → isVar (nmT i) = true ∧ nmT i ≠ vU := by decide +kernel
  have hone : ∀ b ∈ ([(vX, vT vU)] : List Bd), isVar b.1 = true := by decide +kernel
  have honec : ∀ b ∈ ([(vX, vT vU)] : List Bd), b.2.chk = 0 := by decide +kernel
  refine ⟨?_, fun b hb => ?_, fun b hb => ?_, fun b hb => ?_, fun b hb y hy => ?_⟩
  · unfold Named
    rw [List.map_map]
    show (List.map nmT (List.range 3)).Nodup
    decide +kernel
  · obtain ⟨i, hi, rfl⟩ := hmem b hb
    exact hv i hi
  · obtain ⟨i, hi, rfl⟩ := hmem b hb
    exact chk_on honec (hT i hi).2.1
  · obtain ⟨i, hi, rfl⟩ := hmem b hb
    have := size_on_le (s := [(vX, vT vU)]) (c := 1) (by omega) (by decide +kernel) (T i)
    have := (hT i hi).1
    show ((T i).on _).size ≤ 11
    omega
  · obtain ⟨i, hi, rfl⟩ := hmem b hb
    rcases occ_on hone (hT i hi).2.1 hy with ⟨h1, h2⟩ | ⟨b, hb, h⟩
    · obtain ⟨k1, k2⟩ := names_occ (hT i hi).2.2 h1
      exact ⟨k1, fun hy => absurd (k2 rfl hy).symm (h2 (vX, vT vU) (by simp))⟩
    · rw [List.mem_singleton] at hb
      subst hb
      rcases occ_iff.1 h with h | ⟨a, ha, _⟩
      · change vU = y at h
        subst h
        exact ⟨by simp [names11], fun _ => rfl⟩
      · cases ha
theorem topRobinson_a (l : List Int) (many most : Int) (hl : ∀ n ∈ l, inR .i64 n) (hm : l.length ≤ maxLen) (h1 : inR .i64 many) (h2 : inR .i64 most) : ACalls Try.prog 6 [aInts l, aInt many, aInt most] (aBool true) := by
  by_cases h0 : (256 : Int) < l.length
  · refine ac_metaprunetop_TopRobinson (Nat.le_of_ble_eq_true rfl) fun C hC => ?_
    unfold ir_metaprunetop_TopRobinson
    repeat' (first | (with_reducible first | refine Wa ?_ | refine Wb ?_ | refine Wc ?_ | refine Wd ?_ | refine We ?_ | refine Wf ?_ | refine Wg ?_ | refine Wh ?_ | refine Wi ?_ | refine Wj ?_ | refine Wk (by decide) ?_ | refine Wl ?_ | refine Wm ?_ | refine Wn ?_) | ((with_reducible first | refine Wo (fun K hK => ?_) | refine Wp ?_ | refine Wq ?_ | refine Wr ?_); (try simp only [go_sem, List.forall_mem_nil, ↓guard_ite, ↓pick_ite, seval, encT_eq, inR_i64, h0, decide_eq_true_eq, decide_eq_false_iff_not, Int.ofNat_lt]); (repeat with_reducible refine And.intro (by first | omega | (with_reducible first | exact lens_encT | exact lens_encL | exact lens_encB | exact lens_encP) | (simp; done) | (simp only [List.length_take, List.length_map, List.length_append, maxLen_eq]; omega)) ?_); (try (with_reducible refine hK _ ?_; clear hK K)); (try with_reducible refine ite_conj ?_)))
    simp only [go_sem, List.forall_mem_nil, ↓guard_ite, ↓pick_ite, seval, FinQ, AS.result, resAll, resOne, tupV]
  have hT : ∀ i : Nat, ∃ t : Tm, i < 3 → ACalls Try.prog 10 [aInts l, aInt (9 * i), aInt 6, aInt 1] (aTm t) ∧ t.size ≤ 11 ∧ t.chk = 0 ∧ NamesIn 1 t := fun i => by
    by_cases hi : i < 3
    · obtain ⟨t, ht, hz, hc, hn⟩ := termOf_v l hl hm 1 (by omega) 6 (9 * i) (by omega) (by omega)
      refine ⟨t, fun _ => ⟨?_, by omega, hc, hn⟩⟩
      rw [show (((9 * i : Nat) : Int)) = 9 * (i : Int) by omega] at ht
      exact ht
    · exact ⟨Tm.nil, fun h => absurd h hi⟩
  obtain ⟨T, hT⟩ := Classical.skolem.1 hT
  obtain ⟨B, hB⟩ : ∃ B : Nat → List Bd, B = fun k => (List.range k).map fun i => (nmT i, (T i).on [(vX, vT vU)]) := ⟨_, rfl⟩
  have hB0 : B 0 = [] := by rw [hB]; rfl
  have hBs : ∀ k, B (k + 1) = B k ++ [(nmT k, (T k).on [(vX, vT vU)])] := fun k => by rw [hB]; simp [List.range_succ]
  have hBl : ∀ k, (B k).length = k := fun k => by rw [hB]; simp
  have hB3 : Three (B 3) := by rw [hB]; exact three_of fun i hi => (hT i hi).2
  clear hB
  have p1 := pick_a many 3 h1 (by omega)
  have q1 := pickI_range many 3 (by omega)
  generalize pickI many 3 = m1 at p1 q1
  obtain ⟨n1, rfl⟩ : ∃ n : Nat, m1 = n := ⟨m1.toNat, by omega⟩
  have p2 := pick_a most 9 h2 (by omega)
  have q2 := pickI_range most 9 (by omega)
  generalize pickI most 9 = m2 at p2 q2
  obtain ⟨n2, rfl⟩ : ∃ n : Nat, m2 = n := ⟨m2.toNat, by omega⟩
  rw [inR_i64] at h1
  have hq : -9223372036854775808 ≤ many.tdiv 3 ∧ many.tdiv 3 ≤ 9223372036854775807 := by
    by_cases hp : 0 ≤ many
    · have := tdiv_range (x := many) (n := 3) hp (by omega)
      omega
    · have := tdiv_range (x := -many) (n := 3) (by omega) (by omega)
      rw [Int.neg_tdiv] at this
      omega
  have p3 := pick_a (many.tdiv 3) 3 (by rw [inR_i64]; omega) (by omega)
  have q3 := pickI_range (many.tdiv 3) 3 (by omega)
  generalize pickI (many.tdiv 3) 3 = m3 at p3 q3
  obtain ⟨n3, rfl⟩ : ∃ n : Nat, m3 = n := ⟨m3.toNat, by omega⟩
  have hW : ∀ i : Nat, ∃ t : Tm, i < 3 → ACalls Try.prog 10 [aInts l, aInt (40 + 20 * i), aInt (1 + n2), aInt 3] (aTm t) ∧ t.size ≤ 17 ∧ t.chk = 0 ∧ NamesIn 3 t := fun i => by
    by_cases hi : i < 3
    · obtain ⟨t, ht, hz, hc, hn⟩ := termOf_v l hl hm 3 (by omega) (1 + n2) (40 + 20 * i) (by omega) (by omega)
      refine ⟨t, fun _ => ⟨?_, by omega, hc, hn⟩⟩
      rw [show (((40 + 20 * i : Nat) : Int)) = 40 + 20 * (i : Int) by omega, show (((1 + n2 : Nat) : Int)) = 1 + (n2 : Int) by omega] at ht
      exact ht
    · exact ⟨Tm.nil, fun h => absurd h hi⟩
  obtain ⟨W, hW⟩ := Classical.skolem.1 hW
  have hleaf := leaf_a vU
  refine ac_metaprunetop_TopRobinson (Nat.le_of_ble_eq_true rfl) fun C hC => ?_
  unfold ir_metaprunetop_TopRobinson
  repeat' (first | (with_reducible first | refine Wa ?_ | refine Wb ?_ | refine Wc ?_ | refine Wd ?_ | refine We ?_ | refine Wf ?_ | refine Wg ?_ | refine Wh ?_ | refine Wi ?_ | refine Wj ?_ | refine Wk (by decide) ?_ | refine Wl ?_ | refine Wm ?_ | refine Wn ?_) | ((with_reducible first | refine Wo (fun K hK => ?_) | refine Wp ?_ | refine Wq ?_ | refine Wr ?_); (try simp only [go_sem, List.forall_mem_nil, ↓guard_ite, ↓pick_ite, seval, encT_eq, inR_i64, h0, decide_eq_true_eq, decide_eq_false_iff_not, Int.ofNat_lt]); (repeat with_reducible refine And.intro (by first | omega | (with_reducible first | exact lens_encT | exact lens_encL | exact lens_encB | exact lens_encP) | (simp; done) | (simp only [List.length_take, List.length_map, List.length_append, maxLen_eq]; omega)) ?_); (try (with_reducible refine hK _ ?_; clear hK K)); (try with_reducible refine ite_conj ?_)))
  refine IWP.ghost (Ghost.own 7 900 56 3 (xs := []) rfl rfl (by simp) (by rw [hC]; decide)) ?_
  refine IWP.loopD [9] (fun m x => ∃ k, k ≤ 3 ∧ m = 3 - k ∧ x.env 0 = aInts l ∧ x.env 1 = aInt many ∧ x.env 2 = aInt most ∧ x.env 7 = .one (.row 900 (B k).length) ∧ x.env 8 = aInt k ∧ x.S 900 = some (.arow 56 3 ((B k).map encB)) ∧ x.S 9 = none ∧ x.S 13 = none ∧ x.S 14 = none ∧ x.S 22 = none ∧ x.S 24 = none ∧ x.S 28 = none ∧ x.S 30 = none ∧ x.S 32 = none ∧ x.S 901 = none) 3 ⟨0, Nat.zero_le _, rfl, rfl, rfl, rfl, by rw [hB0]; rfl, rfl, by rw [hB0]; rfl, rfl, rfl, rfl, rfl, rfl, rfl, rfl, rfl, rfl⟩ ?_
  rintro m ⟨env, S⟩ ⟨k, hk, rfl, e0, e1, e2, e7, e8, s900, s9, n13, n14, n22, n24, n28, n30, n32, n901⟩
  simp only at e0 e1 e2 e7 e8 s900 s9 n13 n14 n22 n24 n28 n30 n32 n901
  have hbl := hBl k
  by_cases hlt : (k : Int) < 3
  · obtain ⟨htk, hz, hc, hn⟩ := hT k (by omega)
    have hon := onRef_a [(vX, vT vU)] (T k) (by omega)
    have hov : onTo [(vX, vT vU)] (T k) = ((T k).on [(vX, vT vU)], true) := by
      unfold onTo
      have := size_on_le (s := [(vX, vT vU)]) (c := 1) (by omega) (by decide +kernel) (T k)
      rw [if_pos (by omega)]
    rw [hov] at hon
    have hnm : [([.str vX] : List SV), [.str vY], [.str vZ]][k]? = some [.str (nmT k)] := by
      match k, (show k < 3 by omega) with
      | 0, _ => rfl
      | 1, _ => rfl
      | 2, _ => rfl
    repeat' (first | (with_reducible first | refine Wa ?_ | refine Wb ?_ | refine Wc ?_ | refine Wd ?_ | refine We ?_ | refine Wf ?_ | refine Wg ?_ | refine Wh ?_ | refine Wi ?_ | refine Wj ?_ | refine Wk (by decide) ?_ | refine Wl ?_ | refine Wm ?_ | refine Wn ?_) | refine CallG.mk _ (hleaf) ?_ | refine CallG.mk _ (htk) ?_ | refine CallG.mk _ (hon) ?_ | ((with_reducible first | refine Wo (fun K hK => ?_) | refine Wp ?_ | refine Wq ?_ | refine Wr ?_); (try simp only [go_sem, List.forall_mem_nil, ↓guard_ite, ↓pick_ite, seval, encT_eq, inR_i64, e0, e1, e2, e7, e8, s900, s9, hlt, hbl, hnm, decide_eq_true_eq, decide_eq_false_iff_not, Int.ofNat_lt]); (repeat with_reducible refine And.intro (by first | omega | (with_reducible first | exact lens_encT | exact lens_encL | exact lens_encB | exact lens_encP) | (simp; done) | (simp only [List.length_take, List.length_map, List.length_append, maxLen_eq]; omega)) ?_); (try (with_reducible refine hK _ ?_; clear hK K)); (try with_reducible refine ite_conj ?_)))
    refine then_normal ⟨3 - (k + 1), by omega, k + 1, by omega, rfl, ?_⟩
    rw [hBs k]
    simp only [go_sem, List.forall_mem_nil, ↓guard_ite, ↓pick_ite, seval, AS.drop, dropS, AC.clears, AC.clear, AC.highs, AC.high, Bool.not_false, Bool.true_and, Bool.and_self, AV.purge, AV.purges, AC.purge, ABlk.purge, List.contains_cons, List.contains_nil, Nat.reduceBEq, Bool.or_self, Bool.or_false, Bool.false_or, Bool.or_true, encT_eq, inR_i64, e0, e1, e2, e7, e8, s900, s9, hbl, n13, n14, n22, n24, n28, n30, n32, n901]
    exact ⟨by congr 3, by rw [List.map_append]; rfl⟩
  obtain rfl : k = 3 := by omega
  have hlen : (B 3).length = 3 := hBl 3
  generalize B 3 = s at *
  clear hT hBs hBl hB0 hbl hk
  have htake : List.take 3 (s.map encB) = s.map encB := List.take_of_length_le (by rw [List.length_map]; omega)
  have hdrop : List.drop n3 (s.map encB) = (s.drop n3).map encB := List.map_drop.symm
  repeat' (first | (with_reducible first | refine Wa ?_ | refine Wb ?_ | refine Wc ?_ | refine Wd ?_ | refine We ?_ | refine Wf ?_ | refine Wg ?_ | refine Wh ?_ | refine Wi ?_ | refine Wj ?_ | refine Wk (by decide) ?_ | refine Wl ?_ | refine Wm ?_ | refine Wn ?_) | ((with_reducible first | refine Wo (fun K hK => ?_) | refine Wp ?_ | refine Wq ?_ | refine Wr ?_); (try simp only [go_sem, List.forall_mem_nil, ↓guard_ite, ↓pick_ite, seval, encT_eq, inR_i64, e0, e1, e2, e7, e8, s900, s9, hlt, hlen, decide_eq_true_eq, decide_eq_false_iff_not, Int.ofNat_lt]); (repeat with_reducible refine And.intro (by first | omega | (with_reducible first | exact lens_encT | exact lens_encL | exact lens_encB | exact lens_encP) | (simp; done) | (simp only [List.length_take, List.length_map, List.length_append, maxLen_eq]; omega)) ?_); (try (with_reducible refine hK _ ?_; clear hK K)); (try with_reducible refine ite_conj ?_)))
  obtain ⟨P, hP⟩ : ∃ P : Nat → List Pr, P = fun k => (List.range k).map fun i => (W i, (W i).on (s.drop n3)) := ⟨_, rfl⟩
  have hP0 : P 0 = [] := by rw [hP]; rfl
  have hPs : ∀ k, P (k + 1) = P k ++ [(W k, (W k).on (s.drop n3))] := fun k => by rw [hP]; simp [List.range_succ]
  have hPl : ∀ k, (P k).length = k := fun k => by rw [hP]; simp
  clear hP
  refine IWP.ghost (Ghost.own 11 901 51 4 (xs := []) (by simp only [go_sem, List.forall_mem_nil, ↓guard_ite, ↓pick_ite, seval, encT_eq, inR_i64]) (by simp only [go_sem, List.forall_mem_nil, ↓guard_ite, ↓pick_ite, seval, encT_eq, inR_i64, n901]) (by simp) (by rw [hC]; decide)) ?_
  refine IWP.loopD [13, 14] (fun m x => ∃ k, k ≤ 1 + n1 ∧ m = 1 + n1 - k ∧ (∀ p ∈ P k, PairOk s p) ∧ x.env 0 = aInts l ∧ x.env 1 = aInt many ∧ x.env 2 = aInt most ∧ x.env 7 = .one (.row 900 3) ∧ x.env 11 = .one (.row 901 (P k).length) ∧ x.env 12 = aInt k ∧ x.S 900 = some (.arow 56 3 (s.map encB)) ∧ x.S 901 = some (.arow 51 4 ((P k).map encP)) ∧ x.S 13 = none ∧ x.S 14 = none ∧ x.S 22 = none ∧ x.S 24 = none ∧ x.S 28 = none ∧ x.S 30 = none ∧ x.S 32 = none) (1 + n1) ⟨0, Nat.zero_le _, rfl, by rw [hP0]; simp, ?_⟩ ?_
  · rw [hP0]
    simp only [go_sem, List.forall_mem_nil, ↓guard_ite, ↓pick_ite, seval, encT_eq, inR_i64, e0, e1, e2, e7, e8, s900, s9, hlen, n13, n14, n22, n24, n28, n30, n32]
  clear e0 e1 e2 e7 e8 s900 s9 n13 n14 n22 n24 n28 n30 n32 n901 hlt
  rintro m ⟨env, S⟩ ⟨k, hk, rfl, hok, e0, e1, e2, e7, e11, e12, s900, s901, n13, n14, n22, n24, n28, n30, n32⟩
  simp only at e0 e1 e2 e7 e11 e12 s900 s901 n13 n14 n22 n24 n28 n30 n32
  have hpl := hPl k
  by_cases hlt : (k : Int) < 1 + n1
  · obtain ⟨hwk, hz, hc, hn⟩ := hW k (by omega)
    have hon := onRef_a (s.drop n3) (W k) (by omega)
    have hn3 : n3 ≤ 3 := by omega
    by_cases h2000 : ((W k).on (s.drop n3)).size ≤ 2000
    · have hov : onTo (s.drop n3) (W k) = ((W k).on (s.drop n3), true) := by unfold onTo; rw [if_pos h2000]
      rw [hov] at hon
      have hsz := sizeR_a ((W k).on (s.drop n3)) 200 (by omega) (by omega)
      by_cases h200 : ((W k).on (s.drop n3)).size ≤ 200
      · have hnew := pairOk_of hB3 n3 hc hz hn h200
        have hcap : ¬ (200 : Int) < capTo ((W k).on (s.drop n3)).size 200 := by unfold capTo; split <;> omega
        repeat' (first | (with_reducible first | refine Wa ?_ | refine Wb ?_ | refine Wc ?_ | refine Wd ?_ | refine We ?_ | refine Wf ?_ | refine Wg ?_ | refine Wh ?_ | refine Wi ?_ | refine Wj ?_ | refine Wk (by decide) ?_ | refine Wl ?_ | refine Wm ?_ | refine Wn ?_) | refine CallG.mk _ (p1) ?_ | refine CallG.mk _ (p2) ?_ | refine CallG.mk _ (hwk) ?_ | refine CallG.mk _ (p3) ?_ | refine CallG.mk _ (hon) ?_ | refine CallG.mk _ (hsz) ?_ | ((with_reducible first | refine Wo (fun K hK => ?_) | refine Wp ?_ | refine Wq ?_ | refine Wr ?_); (try simp only [go_sem, List.forall_mem_nil, ↓guard_ite, ↓pick_ite, seval, encT_eq, inR_i64, e0, e1, e2, e7, e11, e12, s900, s901, n13, n14, n22, n24, n28, n30, n32, hlt, hpl, hlen, htake, hdrop, hn3, hcap, decide_eq_true_eq, decide_eq_false_iff_not, Int.ofNat_lt]); (repeat with_reducible refine And.intro (by first | omega | (with_reducible first | exact lens_encT | exact lens_encL | exact lens_encB | exact lens_encP) | (simp; done) | (simp only [List.length_take, List.length_map, List.length_append, maxLen_eq]; omega)) ?_); (try (with_reducible refine hK _ ?_; clear hK K)); (try with_reducible refine ite_conj ?_)))
        refine then_normal ⟨1 + n1 - (k + 1), by omega, k + 1, by omega, rfl, fun p hp => ?_, ?_⟩
        · rw [hPs k] at hp
          rcases List.mem_append.1 hp with hp | hp
          · exact hok p hp
          · rw [List.mem_singleton] at hp
            rw [hp]
            exact hnew
        · rw [hPs k]
          simp only [go_sem, List.forall_mem_nil, ↓guard_ite, ↓pick_ite, seval, AS.drop, dropS, AC.clears, AC.clear, AC.highs, AC.high, Bool.not_false, Bool.true_and, Bool.and_self, AV.purge, AV.purges, AC.purge, ABlk.purge, List.contains_cons, List.contains_nil, Nat.reduceBEq, Bool.or_self, Bool.or_false, Bool.false_or, Bool.or_true, encT_eq, inR_i64, e0, e1, e2, e7, e11, e12, s900, s901, n13, n14, n22, n24, n28, n30, n32, hpl]
          exact ⟨by congr 3, by rw [List.map_append]; rfl⟩
      · have hcap : (200 : Int) < capTo ((W k).on (s.drop n3)).size 200 := by unfold capTo; split <;> omega
        repeat' (first | (with_reducible first | refine Wa ?_ | refine Wb ?_ | refine Wc ?_ | refine Wd ?_ | refine We ?_ | refine Wf ?_ | refine Wg ?_ | refine Wh ?_ | refine Wi ?_ | refine Wj ?_ | refine Wk (by decide) ?_ | refine Wl ?_ | refine Wm ?_ | refine Wn ?_) | refine CallG.mk _ (p1) ?_ | refine CallG.mk _ (p2) ?_ | refine CallG.mk _ (hwk) ?_ | refine CallG.mk _ (p3) ?_ | refine CallG.mk _ (hon) ?_ | refine CallG.mk _ (hsz) ?_ | ((with_reducible first | refine Wo (fun K hK => ?_) | refine Wp ?_ | refine Wq ?_ | refine Wr ?_); (try simp only [go_sem, List.forall_mem_nil, ↓guard_ite, ↓pick_ite, seval, encT_eq, inR_i64, e0, e1, e2, e7, e11, e12, s900, s901, n13, n14, n22, n24, n28, n30, n32, hlt, hpl, hlen, htake, hdrop, hn3, hcap, decide_eq_true_eq, decide_eq_false_iff_not, Int.ofNat_lt]); (repeat with_reducible refine And.intro (by first | omega | (with_reducible first | exact lens_encT | exact lens_encL | exact lens_encB | exact lens_encP) | (simp; done) | (simp only [List.length_take, List.length_map, List.length_append, maxLen_eq]; omega)) ?_); (try (with_reducible refine hK _ ?_; clear hK K)); (try with_reducible refine ite_conj ?_)))
        simp only [go_sem, List.forall_mem_nil, ↓guard_ite, ↓pick_ite, seval, FinQ, AS.result, resAll, resOne, tupV]
    · have hov : onTo (s.drop n3) (W k) = (Tm.nil, false) := by unfold onTo; rw [if_neg h2000]
      rw [hov] at hon
      repeat' (first | (with_reducible first | refine Wa ?_ | refine Wb ?_ | refine Wc ?_ | refine Wd ?_ | refine We ?_ | refine Wf ?_ | refine Wg ?_ | refine Wh ?_ | refine Wi ?_ | refine Wj ?_ | refine Wk (by decide) ?_ | refine Wl ?_ | refine Wm ?_ | refine Wn ?_) | refine CallG.mk _ (p1) ?_ | refine CallG.mk _ (p2) ?_ | refine CallG.mk _ (hwk) ?_ | refine CallG.mk _ (p3) ?_ | refine CallG.mk _ (hon) ?_ | ((with_reducible first | refine Wo (fun K hK => ?_) | refine Wp ?_ | refine Wq ?_ | refine Wr ?_); (try simp only [go_sem, List.forall_mem_nil, ↓guard_ite, ↓pick_ite, seval, encT_eq, inR_i64, e0, e1, e2, e7, e11, e12, s900, s901, n13, n14, n22, n24, n28, n30, n32, hlt, hpl, hlen, htake, hdrop, hn3, decide_eq_true_eq, decide_eq_false_iff_not, Int.ofNat_lt]); (repeat with_reducible refine And.intro (by first | omega | (with_reducible first | exact lens_encT | exact lens_encL | exact lens_encB | exact lens_encP) | (simp; done) | (simp only [List.length_take, List.length_map, List.length_append, maxLen_eq]; omega)) ?_); (try (with_reducible refine hK _ ?_; clear hK K)); (try with_reducible refine ite_conj ?_)))
      simp only [go_sem, List.forall_mem_nil, ↓guard_ite, ↓pick_ite, seval, FinQ, AS.result, resAll, resOne, tupV]
  obtain ⟨hpm, nn, m, hends, hk1, hk2, happ, hnames⟩ := robin_all hB3 (l := P k) (by omega) hok
  have hlk : (P k).length ≤ 100 := by omega
  generalize P k = ps at *
  clear hW hPs hPl hP0 hk hok
  have hu := unify_yes hpm hends
  have hkind := kind_a m
  rw [hk1, hk2] at hkind
  repeat' (first | (with_reducible first | refine Wa ?_ | refine Wb ?_ | refine Wc ?_ | refine Wd ?_ | refine We ?_ | refine Wf ?_ | refine Wg ?_ | refine Wh ?_ | refine Wi ?_ | refine Wj ?_ | refine Wk (by decide) ?_ | refine Wl ?_ | refine Wm ?_ | refine Wn ?_) | refine CallG.mk _ (p1) ?_ | refine CallG.mk _ (hu) ?_ | refine CallG.mk _ (hkind) ?_ | refine CallG.mk _ (fact_a) ?_ | ((with_reducible first | refine Wo (fun K hK => ?_) | refine Wp ?_ | refine Wq ?_ | refine Wr ?_); (try simp only [go_sem, List.forall_mem_nil, ↓guard_ite, ↓pick_ite, seval, encT_eq, inR_i64, e0, e1, e2, e7, e11, e12, s900, s901, n13, n14, n22, n24, n28, n30, n32, hlt, decide_eq_true_eq, decide_eq_false_iff_not, Int.ofNat_lt]); (repeat with_reducible refine And.intro (by first | omega | (with_reducible first | exact lens_encT | exact lens_encL | exact lens_encB | exact lens_encP) | (simp; done) | (simp only [List.length_take, List.length_map, List.length_append, maxLen_eq]; omega)) ?_); (try (with_reducible refine hK _ ?_; clear hK K)); (try with_reducible refine ite_conj ?_)))
  refine IWP.loopD [22, 24] (fun m' x => ∃ k, k ≤ ps.length ∧ m' = ps.length - k ∧ x.env 7 = .one (.row 900 3) ∧ x.env 11 = .one (.row 901 ps.length) ∧ x.env 16 = aBds m ∧ x.env 21 = aInt k ∧ x.S 900 = some (.arow 56 3 (s.map encB)) ∧ x.S 901 = some (.arow 51 4 (ps.map encP)) ∧ x.S 22 = none ∧ x.S 24 = none ∧ x.S 28 = none ∧ x.S 30 = none ∧ x.S 32 = none) ps.length ⟨0, Nat.zero_le _, rfl, ?_⟩ ?_
  · simp only [go_sem, List.forall_mem_nil, ↓guard_ite, ↓pick_ite, seval, encT_eq, inR_i64, e0, e1, e2, e7, e11, e12, s900, s901, n13, n14, n22, n24, n28, n30, n32]
  clear e0 e1 e2 e7 e11 e12 s900 s901 n13 n14 n22 n24 n28 n30 n32 hlt
  rintro m' ⟨env, S⟩ ⟨k, hk, rfl, e7, e11, e16, e21, s900, s901, n22, n24, n28, n30, n32⟩
  simp only at e7 e11 e16 e21 s900 s901 n22 n24 n28 n30 n32
  by_cases hlt : (k : Int) < ps.length
  · obtain ⟨p, hp⟩ := get_lt (show k < ps.length by omega)
    obtain ⟨a, ha1, ha2⟩ := happ p (List.mem_of_getElem? hp)
    have a1 := applyP_a m p.1
    have a2 := applyP_a m p.2
    rw [ha1] at a1
    rw [ha2] at a2
    have a3 := sameR_a a a
    rw [Tm.beq_refl] at a3
    repeat' (first | (with_reducible first | refine Wa ?_ | refine Wb ?_ | refine Wc ?_ | refine Wd ?_ | refine We ?_ | refine Wf ?_ | refine Wg ?_ | refine Wh ?_ | refine Wi ?_ | refine Wj ?_ | refine Wk (by decide) ?_ | refine Wl ?_ | refine Wm ?_ | refine Wn ?_) | refine CallG.mk _ (a1) ?_ | refine CallG.mk _ (a2) ?_ | refine CallG.mk _ (a3) ?_ | ((with_reducible first | refine Wo (fun K hK => ?_) | refine Wp ?_ | refine Wq ?_ | refine Wr ?_); (try simp only [go_sem, List.forall_mem_nil, ↓guard_ite, ↓pick_ite, seval, encT_eq, inR_i64, e7, e11, e16, e21, s900, s901, n22, n24, n28, n30, n32, hlt, hp, encP, decide_eq_true_eq, decide_eq_false_iff_not, Int.ofNat_lt]); (repeat with_reducible refine And.intro (by first | omega | (with_reducible first | exact lens_encT | exact lens_encL | exact lens_encB | exact lens_encP) | (simp; done) | (simp only [List.length_take, List.length_map, List.length_append, maxLen_eq]; omega)) ?_); (try (with_reducible refine hK _ ?_; clear hK K)); (try with_reducible refine ite_conj ?_)))
    refine then_normal ⟨ps.length - (k + 1), by omega, k + 1, by omega, rfl, ?_⟩
    simp only [go_sem, List.forall_mem_nil, ↓guard_ite, ↓pick_ite, seval, AS.drop, dropS, AC.clears, AC.clear, AC.highs, AC.high, Bool.not_false, Bool.true_and, Bool.and_self, AV.purge, AV.purges, AC.purge, ABlk.purge, List.contains_cons, List.contains_nil, Nat.reduceBEq, Bool.or_self, Bool.or_false, Bool.false_or, Bool.or_true, encT_eq, inR_i64, e7, e11, e16, e21, s900, s901, n22, n24, n28, n30, n32]
    rfl
  repeat' (first | (with_reducible first | refine Wa ?_ | refine Wb ?_ | refine Wc ?_ | refine Wd ?_ | refine We ?_ | refine Wf ?_ | refine Wg ?_ | refine Wh ?_ | refine Wi ?_ | refine Wj ?_ | refine Wk (by decide) ?_ | refine Wl ?_ | refine Wm ?_ | refine Wn ?_) | ((with_reducible first | refine Wo (fun K hK => ?_) | refine Wp ?_ | refine Wq ?_ | refine Wr ?_); (try simp only [go_sem, List.forall_mem_nil, ↓guard_ite, ↓pick_ite, seval, encT_eq, inR_i64, e7, e11, e16, e21, s900, s901, n22, n24, n28, n30, n32, hlt, decide_eq_true_eq, decide_eq_false_iff_not, Int.ofNat_lt]); (repeat with_reducible refine And.intro (by first | omega | (with_reducible first | exact lens_encT | exact lens_encL | exact lens_encB | exact lens_encP) | (simp; done) | (simp only [List.length_take, List.length_map, List.length_append, maxLen_eq]; omega)) ?_); (try (with_reducible refine hK _ ?_; clear hK K)); (try with_reducible refine ite_conj ?_)))
  have hnm4 : ∀ i : Nat, i < 4 → nm4 i ∈ names11 := by
    intro i hi
    match i, hi with
    | 0, _ => simp [nm4, names11]
    | 1, _ => simp [nm4, names11]
    | 2, _ => simp [nm4, names11]
    | 3, _ => simp [nm4, names11]
  refine IWP.loopD [28, 30, 32] (fun m' x => ∃ k, k ≤ 4 ∧ m' = 4 - k ∧ x.env 7 = .one (.row 900 3) ∧ x.env 16 = aBds m ∧ x.env 26 = .one (.full [[.str vX], [.str vY], [.str vZ], [.str vU]]) ∧ x.env 27 = aInt k ∧ x.S 900 = some (.arow 56 3 (s.map encB)) ∧ x.S 28 = none ∧ x.S 30 = none ∧ x.S 32 = none) 4 ⟨0, Nat.zero_le _, rfl, ?_⟩ ?_
  · simp only [go_sem, List.forall_mem_nil, ↓guard_ite, ↓pick_ite, seval, encT_eq, inR_i64, e7, e11, e16, e21, s900, s901, n22, n24, n28, n30, n32]
  clear e7 e11 e16 e21 s900 s901 n22 n24 n28 n30 n32 hlt hk
  rintro m' ⟨env, S⟩ ⟨k, hk, rfl, e7, e16, e26, e27, s900, n28, n30, n32⟩
  simp only at e7 e16 e26 e27 s900 n28 n30 n32
  by_cases hlt : (k : Int) < 4
  · obtain ⟨a, c, ha, hc1, hc2, hza⟩ := hnames (nm4 k) (hnm4 k (by omega))
    have hnm : [([.str vX] : List SV), [.str vY], [.str vZ], [.str vU]][k]? = some [.str (nm4 k)] := by
      match k, (show k < 4 by omega) with
      | 0, _ => rfl
      | 1, _ => rfl
      | 2, _ => rfl
      | 3, _ => rfl
    have b0 := leaf_a (nm4 k)
    have b1 := applyP_a m (vT (nm4 k))
    rw [ha] at b1
    have b2 := onRef_a s a hza
    rw [hc1] at b2
    have b3 := onRef_a s (vT (nm4 k)) (by simp [Tm.size, Tm.sizes])
    rw [hc2] at b3
    have b4 := sameR_a c c
    rw [Tm.beq_refl] at b4
    repeat' (first | (with_reducible first | refine Wa ?_ | refine Wb ?_ | refine Wc ?_ | refine Wd ?_ | refine We ?_ | refine Wf ?_ | refine Wg ?_ | refine Wh ?_ | refine Wi ?_ | refine Wj ?_ | refine Wk (by decide) ?_ | refine Wl ?_ | refine Wm ?_ | refine Wn ?_) | refine CallG.mk _ (b0) ?_ | refine CallG.mk _ (b1) ?_ | refine CallG.mk _ (b2) ?_ | refine CallG.mk _ (b3) ?_ | refine CallG.mk _ (b4) ?_ | ((with_reducible first | refine Wo (fun K hK => ?_) | refine Wp ?_ | refine Wq ?_ | refine Wr ?_); (try simp only [go_sem, List.forall_mem_nil, ↓guard_ite, ↓pick_ite, seval, encT_eq, inR_i64, e7, e16, e26, e27, s900, n28, n30, n32, hlt, hnm, hlen, decide_eq_true_eq, decide_eq_false_iff_not, Int.ofNat_lt]); (repeat with_reducible refine And.intro (by first | omega | (with_reducible first | exact lens_encT | exact lens_encL | exact lens_encB | exact lens_encP) | (simp; done) | (simp only [List.length_take, List.length_map, List.length_append, maxLen_eq]; omega)) ?_); (try (with_reducible refine hK _ ?_; clear hK K)); (try with_reducible refine ite_conj ?_)))
    refine then_normal ⟨4 - (k + 1), by omega, k + 1, by omega, rfl, ?_⟩
    simp only [go_sem, List.forall_mem_nil, ↓guard_ite, ↓pick_ite, seval, AS.drop, dropS, AC.clears, AC.clear, AC.highs, AC.high, Bool.not_false, Bool.true_and, Bool.and_self, AV.purge, AV.purges, AC.purge, ABlk.purge, List.contains_cons, List.contains_nil, Nat.reduceBEq, Bool.or_self, Bool.or_false, Bool.false_or, Bool.or_true, encT_eq, inR_i64, e7, e16, e26, e27, s900, n28, n30, n32]
    rfl
  · repeat' (first | (with_reducible first | refine Wa ?_ | refine Wb ?_ | refine Wc ?_ | refine Wd ?_ | refine We ?_ | refine Wf ?_ | refine Wg ?_ | refine Wh ?_ | refine Wi ?_ | refine Wj ?_ | refine Wk (by decide) ?_ | refine Wl ?_ | refine Wm ?_ | refine Wn ?_) | ((with_reducible first | refine Wo (fun K hK => ?_) | refine Wp ?_ | refine Wq ?_ | refine Wr ?_); (try simp only [go_sem, List.forall_mem_nil, ↓guard_ite, ↓pick_ite, seval, encT_eq, inR_i64, e7, e16, e26, e27, s900, n28, n30, n32, hlt, decide_eq_true_eq, decide_eq_false_iff_not, Int.ofNat_lt]); (repeat with_reducible refine And.intro (by first | omega | (with_reducible first | exact lens_encT | exact lens_encL | exact lens_encB | exact lens_encP) | (simp; done) | (simp only [List.length_take, List.length_map, List.length_append, maxLen_eq]; omega)) ?_); (try (with_reducible refine hK _ ?_; clear hK K)); (try with_reducible refine ite_conj ?_)))
    simp only [go_sem, List.forall_mem_nil, ↓guard_ite, ↓pick_ite, seval, FinQ, AS.result, resAll, resOne, tupV]
end Go.Proofs.Ytohgkbgpcnmdpaa

namespace Go.Proofs.Ytohgkbgpcnmdpaa
open Go Go.RowKit Go.ChangeShapes Go.WideShapes Go.ChangeAt
set_option maxHeartbeats 400000
set_option linter.unusedVariables false
section
variable {H : Type} {enc : TypeId × Value → H} {P : Program}
theorem trodAll_stays (hl : laidOutB P = true) : ∀ {ts : List TypeId} {vs : List Value} {ds : List (DataW H)} {ps : List MemPlace} {W W' : World} {sp : Nat → Bool},
    (∀ t ∈ ts, P.readableRec t = true ∧ t < P.types.size) → DataW.TrodAll enc P W 0 (fun _ => true) true ts vs ds ps → (∀ p ∈ ps, W.sameAt W' p) → (∀ p ∈ ps, sp p.block = true) → DataW.TrodAll enc P W' 0 sp true ts vs ds ps
  | [], [], [], _, _, _, _, _, h, _, _ => h
  | _ :: _, _ :: _, _ :: _, _, _, _, _, hT, ⟨p, q, h1, h2, e⟩, hsame, hs => ⟨p, q, WideElems.Trod_stays hl (hT _ (List.mem_cons.2 (Or.inl rfl))).1 (hT _ (List.mem_cons.2 (Or.inl rfl))).2 h1 (fun x hx => hsame x (by rw [e]; exact List.mem_append_left _ hx)) (fun x hx => hs x (by rw [e]; exact List.mem_append_left _ hx)),
      trodAll_stays hl (fun t ht => hT t (List.mem_cons.2 (Or.inr ht))) h2 (fun x hx => hsame x (by rw [e]; exact List.mem_append_right _ hx)) (fun x hx => hs x (by rw [e]; exact List.mem_append_right _ hx)), e⟩
  | [], _ :: _, _, _, _, _, _, _, h, _, _ => h.elim
  | [], [], _ :: _, _, _, _, _, _, h, _, _ => h.elim
  | _ :: _, [], _, _, _, _, _, _, h, _, _ => h.elim
  | _ :: _, _ :: _, [], _, _, _, _, _, h, _, _ => h.elim
theorem law_post {f : Func} {s : ChangeSpec} {apart fresh handsOn : Bool} {W W' : World} {args : Array Value} {ds : List (DataW H)} {before : List MemPlace} {tb : TypeId}
    (hW : DataW.Whole enc P f.params.toList s.vars apart W args.toList ds [] before) (hv : s.vars = []) (hr : f.resultTypes = #[tb]) (htb : P.underlying tb = some .bool)
    (hres : (s.fn H (ds ++ [])).results = [.lit (.bool true)]) (hargs : (s.fn H (ds ++ [])).args = ds) (hvs : (s.fn H (ds ++ [])).vars = [])
    (hl : laidOutB P = true) (hT : (f.params.toList.all fun t => P.readableRec t && decide (t < P.types.size)) = true) (hb : Below W.heap.size W W') :
    s.post enc P f apart fresh handsOn false W args (.bool true) W' := by
  have hlt : ∀ p ∈ before, p.block < W.heap.size := fun p hp => hW.lt p hp
  have hT' : ∀ t ∈ f.params.toList, P.readableRec t = true ∧ t < P.types.size := fun t ht => by
    have := List.all_eq_true.1 hT t ht
    simpa using this
  obtain ⟨p, q, hA, hV, rfl, hz, hn⟩ := hW
  rw [hv] at hV
  obtain ⟨_, rfl⟩ := trodVars_none hV
  have hargs' : ∀ sp : Nat → Bool, (∀ x ∈ p, sp x.block = true) → DataW.TrodAll enc P W' 0 sp true f.params.toList args.toList ds p := fun sp hsp =>
    trodAll_stays hl hT' hA (fun x hx => hb.same (hlt x (by simpa using hx))) hsp
  have hres' : ∀ (b : Nat) (sp : Nat → Bool) (hd : Bool), DataW.TrodAll enc P W' b sp hd f.resultTypes.toList ((Value.bool true).resultList f.resultTypes.size) (s.fn H (ds ++ [])).results [] := fun b sp hd => by
    rw [hres, hr]
    exact trodAll_cons_mk (shut_bool htb true) trodAll_mk0
  refine ⟨ds, [], p ++ [], [], p, [], ⟨p, [], hA, by rw [hv]; exact rfl, rfl, hz, hn⟩, hres' _ _ _, by rw [hargs]; exact hargs' _ (fun x hx => by simpa using hlt x (by simpa using hx)), by rw [hv, hvs]; exact rfl,
    World.keptBut_mono (fun x hx => ⟨hx, Or.inr (by simpa using hx)⟩) (hb.frame (· ∈ p ++ [])), fun h => by cases h⟩
variable {W : World} {sp : Nat → Bool} {hd : Bool} {base : Nat}
def sto (W : World) : Sto := look W
theorem fit_sto (W : World) : Fit (sto W) W := fun _ _ h => h
theorem spot_none {W : World} {a : Addr} {v : Value} (h : W.cell? a = some v) : a.spot = none := by
  cases hs : a.spot with
  | none => rfl
  | some n =>
    unfold World.cell? at h
    split at h
    · simp [hs] at h
    · cases h
theorem choose_list {α : Type} {p : Nat → α → Prop} {n : Nat} (h : ∀ i, i < n → ∃ b, p i b) : ∃ xs : List α, xs.length = n ∧ ∀ i (h : i < xs.length), p i xs[i] := by
  induction n with
  | zero => exact ⟨[], rfl, fun i h => absurd h (by simp)⟩
  | succ m ih =>
    obtain ⟨xs, h1, h2⟩ := ih (fun i hi => h i (by omega))
    obtain ⟨b, h3⟩ := h m (by omega)
    refine ⟨xs ++ [b], by simp [h1], fun i hi => ?_⟩
    by_cases him : i < xs.length
    · rw [List.getElem_append_left him]
      exact h2 i him
    · have : i = xs.length := by simp at hi; omega
      subst this
      rw [show (xs ++ [b])[xs.length]'hi = b by simp, h1]
      exact h3
theorem list_of_trod {α : Type} {e0 : α → List SV} {t e : TypeId} {k : Nat} {fuel : Nat} {cs : List Value} {x : DataW H × List MemPlace} (ht : P.underlying t = some (.slice e)) (hc : P.cellsOf e = k) (hlen : ∀ a, (e0 a).length = k) (hk : 0 < k)
    (f : ∀ (n : Nat) (cs : List Value) (y : DataW H × List MemPlace), n < fuel → DataW.trod enc P W base sp hd n e cs = some y → ∃ a : α, All2 (SRep (sto W)) cs (e0 a))
    (h : DataW.trod enc P W base sp hd fuel t cs = some x) (hs : hardRows = true → k < 2 := by decide) : ∃ xs : List α, All2 (SRep (sto W)) cs [.list (xs.map e0)] := by
  rcases DataW.trod_slice ht h with ⟨rfl, _⟩ | ⟨a, len, cap, elems, rest, n, hfu, rfl, _, hb, hl, hm, hlen', hel, _, _⟩
  · exact ⟨[], .cons srep_nil .nil⟩
  · have key : ∀ i, i < len → ∃ (b : α), ∃ (cs' : List Value), cs'.length = k ∧ (∀ j u, cs'[j]? = some u → W.cell? ((a.add (i * k)).add j) = some u) ∧ All2 (SRep (sto W)) cs' (e0 b) := fun i hi => by
      have h1 := hel i hi
      rw [List.getElem?_eq_getElem (by omega)] at h1
      obtain ⟨cs', h2, h3⟩ := Option.bind_eq_some_iff.1 h1
      obtain ⟨_, h4, h5⟩ := World.cells?_some h2
      obtain ⟨b, hb⟩ := f n cs' _ (by omega) h3
      rw [hc] at h4 h5
      refine ⟨b, cs', h4, fun j u hj => ?_, hb⟩
      rw [h5 j (by have := (List.getElem?_eq_some_iff.1 hj).1; omega)]
      exact hj
    obtain ⟨xs, hxl, hxs⟩ : ∃ xs : List α, xs.length = len ∧ ∀ i (h : i < xs.length), ∃ cs' : List Value, cs'.length = k ∧ (∀ j u, cs'[j]? = some u → W.cell? ((a.add (i * k)).add j) = some u) ∧ All2 (SRep (sto W)) cs' (e0 xs[i]) := choose_list key
    have cell : ∀ m y j z, (xs.map e0)[m]? = some y → y[j]? = some z → ∃ v, W.cell? ⟨a.block, a.off + m * k + j, none⟩ = some v ∧ SRep (sto W) v z := fun m y j z hy hz => by
      rw [List.getElem?_map, Option.map_eq_some_iff] at hy
      obtain ⟨b, hb', rfl⟩ := hy
      obtain ⟨hm', hbe⟩ := List.getElem?_eq_some_iff.1 hb'
      obtain ⟨cs', c1, c2, c3⟩ := hxs m hm'
      rw [hbe] at c3
      obtain ⟨v, v1, v2⟩ := c3.get hz
      refine ⟨v, ?_, v2⟩
      have := c2 j v v1
      have hsp := spot_none this
      rw [← this]
      congr 1
      have h7 : ((a.add (m * k)).add j).block = a.block ∧ ((a.add (m * k)).add j).off = a.off + m * k + j := by
        unfold Addr.add
        split <;> split <;> simp_all
      generalize (a.add (m * k)).add j = q at *
      cases q
      simp_all
    refine ⟨xs, .cons (.list (b := a.block) (o := a.off) (w := k) (fun m j => (W.cell? ⟨a.block, a.off + m * k + j, none⟩).getD undef) (by simp [hxl]) hl hm (by simp) (fun h0 => ?_) (fun y hy => ?_) (fun q1 q2 _ => absurd (hs q1) (by omega)) (fun m y j z hy hz => ?_) (fun m y j z hy hz => ?_)) .nil⟩
    · obtain ⟨cs', h1, h2, h3⟩ := hxs 0 (by omega)
      have h4 : W.cell? a = some (cs'[0]'(by omega)) := by
        have := h2 0 _ (List.getElem?_eq_getElem (by omega))
        simpa [Addr.add] using this
      have := spot_none h4
      cases a
      simp_all
    · obtain ⟨b, _, rfl⟩ := List.mem_map.1 hy
      exact hlen b
    · obtain ⟨v, v1, v2⟩ := cell m y j z hy hz
      show W.cell? _ = _
      rw [v1]; rfl
    · obtain ⟨v, v1, v2⟩ := cell m y j z hy hz
      rw [v1]; exact v2
theorem int_trod {t : TypeId} (ht : P.underlying t = some (.int .i64)) (fuel : Nat) (cs : List Value) (x : DataW H × List MemPlace) (h : DataW.trod enc P W base sp hd fuel t cs = some x) : ∃ n : Int, All2 (SRep (sto W)) cs (encI n) := by
  obtain ⟨n, rfl, _, hn⟩ := DataW.trod_int ht h
  exact ⟨n, .cons (.int (by rw [inR_i64]; simpa [Lit.wf, IntKind.min, IntKind.max, IntKind.signed, IntKind.bits] using hn)) .nil⟩
theorem arg_int {t : TypeId} (ht : P.underlying t = some (.int .i64)) {r : Reach} {b0 : Nat} {v : Value} {d : DataW H} {p : List MemPlace} (hv : Value.okWide P W r b0 t v) (h : DataW.Trod enc P W base sp hd t v d p) : ∃ n : Int, VRep (sto W) noS noH v (aInt n) := by
  obtain ⟨n, rfl⟩ := okWide_int ht hv
  obtain ⟨fuel, hf⟩ := h
  obtain ⟨m, hm⟩ := int_trod ht fuel _ _ hf
  have : All2 (SRep (sto W)) [.int .i64 n] (encI m) := hm
  cases this with
  | cons h1 h2 => exact ⟨m, .one (.st h1)⟩
theorem arg_list {α : Type} {e0 : α → List SV} {t e : TypeId} {k : Nat} (ht : P.underlying t = some (.slice e)) (hc : P.cellsOf e = k) (hlen : ∀ a, (e0 a).length = k) (hk : 0 < k) {r : Reach} {b0 : Nat} {v : Value} {d : DataW H} {p : List MemPlace} (hv : Value.okWide P W r b0 t v)
    (f : ∀ (n : Nat) (cs : List Value) (y : DataW H × List MemPlace), DataW.trod enc P W base sp hd n e cs = some y → ∃ a : α, All2 (SRep (sto W)) cs (e0 a)) (h : DataW.Trod enc P W base sp hd t v d p) (hs : hardRows = true → k < 2 := by decide) : ∃ xs : List α, VRep (sto W) noS noH v (.one (.st (.list (xs.map e0)))) := by
  obtain ⟨a, len, cap, rfl⟩ := okWide_slice ht hv
  obtain ⟨fuel, hf⟩ := h
  obtain ⟨xs, hxs⟩ := list_of_trod ht hc hlen hk (fun n cs y _ hy => f n cs y hy) hf hs
  have : All2 (SRep (sto W)) [.slice a len cap] [.list (xs.map e0)] := hxs
  cases this with
  | cons h1 h2 => exact ⟨xs, .one (.st h1)⟩
end
theorem globIn_nil {σ : Sto} (h : globs = [] := by rfl) : GlobIn σ := fun x hx => by simp [h] at hx
theorem acalls_true {P : Program} {f : FuncId} {xs : List AV} {b : Bool} (h : ACalls P f xs (aBool b)) {σ : Sto} {w : World} {vs : List Value} (hg : GlobIn σ) (hf : Fit σ w) (hv : All2 (VRep σ noS noH) vs xs) :
    Calls P f vs.toArray w fun e w' => e = .returned (.bool b) ∧ Below w.heap.size w w' := (h σ w vs hg hf hv).mono fun e w' ⟨v, σ', he, hv, _, _, hb⟩ => by
  rw [vrep_bool hv] at he
  exact ⟨he, hb⟩
end Go.Proofs.Ytohgkbgpcnmdpaa

namespace Go.Proofs.Ytohgkbgpcnmdpaa
open Go Go.RowKit Go.ChangeShapes Go.WideShapes Go.ChangeAt
set_option maxHeartbeats 400000
set_option linter.unusedVariables false
section
variable {H : Type} {enc : TypeId × Value → H} {W : World} {sp : Nat → Bool} {hd : Bool} {base : Nat}
set_option maxRecDepth 100000 in
theorem arg_ints {r : Reach} {b0 : Nat} {v : Value} {d : DataW H} {p : List MemPlace} (hv : Value.okWide Try.prog W r b0 30 v) (h : DataW.Trod enc Try.prog W base sp hd 30 v d p) : ∃ l : List Int, VRep (sto W) noS noH v (aInts l) :=
  arg_list (k := 1) Try.underlying30 (by kernel_rfl) (fun _ => rfl) (by decide) hv (int_trod Try.underlying3) h
end
end Go.Proofs.Ytohgkbgpcnmdpaa

namespace Go.Proofs.Ytohgkbgpcnmdpaa.topRobinson
open Go Go.RowKit Go.ChangeShapes Go.WideShapes Go.ChangeAt
set_option linter.unusedVariables false
theorem own : ownKnob Try.prog.godebug = none := by kernel_rfl
theorem laid : laidOutB Try.prog = true := by kernel_rfl
set_option maxRecDepth 100000 in
theorem contract (H : Type) (enc : TypeId × Value → H) (W : World) (base : Nat) (args : Array Value) (ds gs : List (DataW H)) (before : List MemPlace)
    (hval : ∀ (j : Nat) t v, Try.f6.params[j]? = some t → args[j]? = some v → Value.okWide Try.prog W .any base t v)
    (hW : DataW.Whole enc Try.prog Try.f6.params.toList Rows.topRobinsonSpec.vars false W args.toList ds gs before) :
    Calls Try.prog 6 args W fun e W' => ∃ v, e = .returned v ∧ Rows.topRobinsonSpec.post enc Try.prog Try.f6 false true false false W args v W' := by
  obtain ⟨p, q, hA0, hV, rfl, hfz, hnd⟩ := id hW
  obtain ⟨rfl, rfl⟩ := trodVars_none hV
  have hA : DataW.TrodAll enc Try.prog W 0 (fun _ => true) true Try.f6.params.toList args.toList ds p := hA0
  rw [Try.params6] at hA hval
  obtain ⟨v0, v1, v2, d0, d1, d2, p0, p1, p2, hargs, rfl, rfl, h0, h1, h2⟩ := trodAll_three hA
  obtain rfl : args = #[v0, v1, v2] := by cases args; simp_all
  obtain ⟨l, r0⟩ := arg_ints (hval 0 30 v0 rfl rfl) h0
  obtain ⟨m1, r1⟩ := arg_int Try.underlying3 (hval 1 3 v1 rfl rfl) h1
  obtain ⟨m2, r2⟩ := arg_int Try.underlying3 (hval 2 3 v2 rfl rfl) h2
  have k0 := known_ints r0.known
  refine (acalls_true (topRobinson_a l m1 m2 k0.2 k0.1 r1.known r2.known) globIn_nil (fit_sto W) (vs := [v0, v1, v2]) (.cons r0 (.cons r1 (.cons r2 .nil)))).mono fun e W' ⟨he, hb⟩ => ⟨_, he, ?_⟩
  exact law_post hW rfl rfl Try.underlying4 rfl rfl rfl laid (by kernel_rfl) hb
set_option maxRecDepth 100000 in
theorem lifted (os : Os) (started : os.Started) (H : Type) (enc : TypeId × Value → H) :
    ReturnsInHanded {} Try.checked os 6 .any (Rows.topRobinsonSpec.pre6 enc Try.prog Try.f6 Rows.topRobinsonRow.domain false) (Rows.topRobinsonSpec.post enc Try.prog Try.f6 false true false false) := by
  refine returnsInHanded_of_change (C := Try.checked) own started (by kernel_rfl) Try.func6
    (ChangeSpec.witness6 (enc := enc) (C := Try.checked) false ⟨#[], #[.slice none 0 0, .int .i64 0, .int .i64 0], []⟩ 8 (by kernel_rfl) (by kernel_rfl) (by kernel_rfl) (by kernel_rfl)) ?_
  intro W base args ds gs before hval hW _ _
  exact contract H enc W base args ds gs before hval hW
theorem proved : Rows.TopRobinsonSaid :=
  OpenClaim.holds_of_wide 6 Try.f6 rfl rfl rfl rfl rfl rfl rfl ⟨rfl, rfl, rfl, rfl, rfl⟩ rfl rfl rfl rfl rfl (by kernel_rfl) Try.func6 (by kernel_rfl)
    (of_decide_eq_true (by kernel_rfl)) (by unfold Func.isWrapper; first | (rw [if_pos (by decide +kernel)]; kernel_rfl) | (rw [if_neg (by decide +kernel)]; exact ⟨rfl, rfl⟩))
    (fun os started H enc _ => lifted os started H enc)
end Go.Proofs.Ytohgkbgpcnmdpaa.topRobinson
