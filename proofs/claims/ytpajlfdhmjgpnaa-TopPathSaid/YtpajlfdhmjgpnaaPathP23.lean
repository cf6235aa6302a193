/-
  Proved: the path order is a strict order with the subterm property, stable under substitution, kept by contexts, and total on ground terms: the law TopPath returns true. Conditions: none.
-/
import Derived.Test.YtpajlfdhmjgpnaaPathP22
import Derived.Test.YtpajlfdhmjgpnaaRows
import Derived.ProofKit
import Derived.OpenShut
import Derived.JoinedCond
import Derived.Deep.Slices
namespace Go.Proofs.Ytpajlfdhmjgpnaa
open Go Go.RowKit
set_option maxRecDepth 100000

def ir_metaprunetop_TopPath : IR :=
  (.seq
  (.ops
  [.mk (some 8) none (.mov (.c (.one (.st (.bool false)))))
  .no])
  (.seq
  (.seq
  (.ops
  [.mk (some 42) none (.mov (.t 0)) .no, .mk (some 43) none (.len false (.t 42)) .no, .mk (some 44) none (.bin .gtr (.t 43) (.c (.one (.st (.int .i64 256)))))
  .no])
  (.cond (.t 44)
  (.seq
  (.ops
  [.mk (some 8) none (.mov (.c (.one (.st (.bool true)))))
  .no])
  .ret)
  .skip))
  (.seq
  (.ops
  [.mk (some 45) none (.mov (.t 1)) .no, .mk (some 46) none (.call 34 [.t 45]) .no, .mk (some 9) none (.mov (.t 46)) .no])
  (.seq
  (.ops
  [.mk (some 47) none (.mov (.t 2)) .no, .mk (some 48) none (.call 20
  [.t 47, .c (.one (.st (.int .i64 9)))])
  .no, .mk (some 49) none (.bin .add (.c (.one (.st (.int .i64 1)))) (.t 48))
  .no, .mk (some 10) none (.mov (.t 49)) .no])
  (.seq
  (.ops
  [.mk (some 50) none (.mov (.t 0)) .no, .mk (some 51) none (.mov (.t 10)) .no, .mk (some 52) none (.call 19
  [.t 50, .c (.one (.st (.int .i64 0))), .t 51, .c (.one (.st (.int .i64 2)))])
  .no, .mk (some 11) none
  (.alloc 24 [.st (.str (ByteArray.mk (#[]))), .full []])
  .no, .mk none none (.store 2 (.t 11) (.t 52)) .no])
  (.seq
  (.ops
  [.mk (some 53) none (.mov (.t 0)) .no, .mk (some 54) none (.mov (.t 10)) .no, .mk (some 55) none (.call 19
  [.t 53, .c (.one (.st (.int .i64 30))), .t 54, .c (.one (.st (.int .i64 2)))])
  .no, .mk (some 12) none
  (.alloc 24 [.st (.str (ByteArray.mk (#[]))), .full []])
  .no, .mk none none (.store 2 (.t 12) (.t 55)) .no])
  (.seq
  (.ops
  [.mk (some 56) none (.mov (.t 0)) .no, .mk (some 57) none (.mov (.t 10)) .no, .mk (some 58) none (.call 19
  [.t 56, .c (.one (.st (.int .i64 60))), .t 57, .c (.one (.st (.int .i64 2)))])
  .no, .mk (some 13) none
  (.alloc 24 [.st (.str (ByteArray.mk (#[]))), .full []])
  .no, .mk none none (.store 2 (.t 13) (.t 58)) .no])
  (.seq
  (.ops
  [.mk (some 60) none (.mov (.t 9)) .no, .mk (some 61) none (.load true 2 (.t 11)) .no, .mk (some 62) none (.load true 2 (.t 12)) .no, .mk (some 63) none (.call 31 [.t 60, .t 61, .t 62]) .no, .mk (some 59) none (.mov (.t 63)) .no, .mk (some 64) none (.extract 0 (.t 59)) .no, .mk (some 65) none (.extract 1 (.t 59)) .no, .mk (some 14) none (.mov (.t 64)) .no, .mk (some 15) none (.mov (.t 65)) .no])
  (.seq
  (.ops
  [.mk (some 67) none (.mov (.t 9)) .no, .mk (some 68) none (.load true 2 (.t 12)) .no, .mk (some 69) none (.load true 2 (.t 13)) .no, .mk (some 70) none (.call 31 [.t 67, .t 68, .t 69]) .no, .mk (some 66) none (.mov (.t 70)) .no, .mk (some 71) none (.extract 0 (.t 66)) .no, .mk (some 72) none (.extract 1 (.t 66)) .no, .mk (some 16) none (.mov (.t 71)) .no, .mk (some 17) none (.mov (.t 72)) .no])
  (.seq
  (.ops
  [.mk (some 74) none (.mov (.t 9)) .no, .mk (some 75) none (.load true 2 (.t 11)) .no, .mk (some 76) none (.load true 2 (.t 13)) .no, .mk (some 77) none (.call 31 [.t 74, .t 75, .t 76]) .no, .mk (some 73) none (.mov (.t 77)) .no, .mk (some 78) none (.extract 0 (.t 73)) .no, .mk (some 79) none (.extract 1 (.t 73)) .no, .mk (some 18) none (.mov (.t 78)) .no, .mk (some 19) none (.mov (.t 79)) .no])
  (.seq
  (.ops
  [.mk (some 81) none (.mov (.t 9)) .no, .mk (some 82) none (.load true 2 (.t 12)) .no, .mk (some 83) none (.load true 2 (.t 11)) .no, .mk (some 84) none (.call 31 [.t 81, .t 82, .t 83]) .no, .mk (some 80) none (.mov (.t 84)) .no, .mk (some 85) none (.extract 0 (.t 80)) .no, .mk (some 86) none (.extract 1 (.t 80)) .no, .mk (some 20) none (.mov (.t 85)) .no, .mk (some 21) none (.mov (.t 86)) .no])
  (.seq
  (.ops
  [.mk (some 88) none (.mov (.t 9)) .no, .mk (some 89) none (.load true 2 (.t 11)) .no, .mk (some 90) none (.load true 2 (.t 11)) .no, .mk (some 91) none (.call 31 [.t 88, .t 89, .t 90]) .no, .mk (some 87) none (.mov (.t 91)) .no, .mk (some 92) none (.extract 0 (.t 87)) .no, .mk (some 93) none (.extract 1 (.t 87)) .no, .mk (some 22) none (.mov (.t 92)) .no, .mk (some 23) none (.mov (.t 93)) .no])
  (.seq
  (.seq
  (.ops
  [.mk (some 94) none (.mov (.t 15)) .no, .mk (some 95) none (.bin .neq (.t 94) (.c (.one (.st (.int .i64 0)))))
  .no, .mk (some 96) none (.mov (.t 95)) .no, .mk (some 97) (some (96, false)) (.mov (.t 17)) .no, .mk (some 98) (some (96, false)) (.bin .neq (.t 97) (.c (.one (.st (.int .i64 0)))))
  .no, .mk (some 99) none
  (.pick (.t 96) (.c (.one (.st (.bool true)))) (.t 98))
  .no, .mk (some 100) none (.mov (.t 99)) .no, .mk (some 101) (some (100, false)) (.mov (.t 19)) .no, .mk (some 102) (some (100, false)) (.bin .neq (.t 101) (.c (.one (.st (.int .i64 0)))))
  .no, .mk (some 103) none
  (.pick (.t 100) (.c (.one (.st (.bool true)))) (.t 102))
  .no, .mk (some 104) none (.mov (.t 103)) .no, .mk (some 105) (some (104, false)) (.mov (.t 21)) .no, .mk (some 106) (some (104, false)) (.bin .neq (.t 105) (.c (.one (.st (.int .i64 0)))))
  .no, .mk (some 107) none
  (.pick (.t 104) (.c (.one (.st (.bool true)))) (.t 106))
  .no, .mk (some 108) none (.mov (.t 107)) .no, .mk (some 109) (some (108, false)) (.mov (.t 23)) .no, .mk (some 110) (some (108, false)) (.bin .neq (.t 109) (.c (.one (.st (.int .i64 0)))))
  .no, .mk (some 111) none
  (.pick (.t 108) (.c (.one (.st (.bool true)))) (.t 110))
  .no, .mk (some 112) none (.mov (.t 111)) .no, .mk (some 113) (some (112, false)) (.mov (.t 22)) .no, .mk (some 114) none
  (.pick (.t 112) (.c (.one (.st (.bool true)))) (.t 113))
  .no, .mk (some 115) none (.mov (.t 114)) .no, .mk (some 116) (some (115, false)) (.mov (.t 14)) .no, .mk (some 117) (some (115, false)) (.mov (.t 116)) .no, .mk (some 118) (some (117, true)) (.mov (.t 20)) .no, .mk (some 119) (some (115, false))
  (.pick (.t 117) (.t 118) (.c (.one (.st (.bool false)))))
  .no, .mk (some 120) none
  (.pick (.t 115) (.c (.one (.st (.bool true)))) (.t 119))
  .no, .mk (some 121) none (.mov (.t 120)) .no, .mk (some 122) (some (121, false)) (.mov (.t 14)) .no, .mk (some 123) (some (121, false)) (.mov (.t 122)) .no, .mk (some 124) (some (123, true)) (.mov (.t 16)) .no, .mk (some 125) (some (121, false))
  (.pick (.t 123) (.t 124) (.c (.one (.st (.bool false)))))
  .no, .mk (some 126) (some (121, false)) (.mov (.t 125)) .no, .mk (some 127) (some (126, true)) (.mov (.t 18)) .no, .mk (some 128) (some (126, true)) (.un .not (.t 127))
  .no, .mk (some 129) (some (121, false))
  (.pick (.t 126) (.t 128) (.c (.one (.st (.bool false)))))
  .no, .mk (some 130) none
  (.pick (.t 121) (.c (.one (.st (.bool true)))) (.t 129))
  .no])
  (.cond (.t 130)
  (.seq
  (.ops
  [.mk (some 8) none (.mov (.c (.one (.st (.bool false)))))
  .no])
  .ret)
  .skip))
  (.seq
  (.ops
  [.mk (some 131) none (.call 25
  [.c (.one (.st (.str (ByteArray.mk (#[99])))))])
  .no, .mk (some 132) none (.load true 2 (.t 11)) .no, .mk (some 133) none
  (.buildSlice false 24 2 [.t 131, .t 132]) .no, .mk (some 134) none
  (.build [.st (.str (ByteArray.mk (#[]))), .full []]
  [(0, 1, .c (.one (.st (.str (ByteArray.mk (#[102])))))),
  (1, 1, .t 133)])
  .no, .mk (some 24) none
  (.alloc 24 [.st (.str (ByteArray.mk (#[]))), .full []])
  .no, .mk none none (.store 2 (.t 24) (.t 134))
  .no])
  (.seq
  (.ops
  [.mk (some 136) none (.mov (.t 9)) .no, .mk (some 137) none (.load true 2 (.t 24)) .no, .mk (some 138) none (.load true 2 (.t 11)) .no, .mk (some 139) none (.call 31 [.t 136, .t 137, .t 138]) .no, .mk (some 135) none (.mov (.t 139)) .no, .mk (some 140) none (.extract 0 (.t 135)) .no, .mk (some 141) none (.extract 1 (.t 135)) .no, .mk (some 25) none (.mov (.t 140)) .no, .mk (some 15) none (.mov (.t 141)) .no])
  (.seq
  (.ops
  [.mk (some 143) none (.mov (.t 9)) .no, .mk (some 144) none (.load true 2 (.t 11)) .no, .mk (some 145) none (.load true 2 (.t 24)) .no, .mk (some 146) none (.call 31 [.t 143, .t 144, .t 145]) .no, .mk (some 142) none (.mov (.t 146)) .no, .mk (some 147) none (.extract 0 (.t 142)) .no, .mk (some 148) none (.extract 1 (.t 142)) .no, .mk (some 26) none (.mov (.t 147)) .no, .mk (some 17) none (.mov (.t 148)) .no])
  (.seq
  (.seq
  (.ops
  [.mk (some 149) none (.mov (.t 15)) .no, .mk (some 150) none (.bin .neq (.t 149) (.c (.one (.st (.int .i64 0)))))
  .no, .mk (some 151) none (.mov (.t 150)) .no, .mk (some 152) (some (151, false)) (.mov (.t 17))
  .no, .mk (some 153) (some (151, false)) (.bin .neq (.t 152) (.c (.one (.st (.int .i64 0)))))
  .no, .mk (some 154) none
  (.pick (.t 151) (.c (.one (.st (.bool true)))) (.t 153))
  .no, .mk (some 155) none (.mov (.t 154)) .no, .mk (some 156) (some (155, false)) (.mov (.t 25))
  .no, .mk (some 157) (some (155, false)) (.un .not (.t 156))
  .no, .mk (some 158) none
  (.pick (.t 155) (.c (.one (.st (.bool true)))) (.t 157))
  .no, .mk (some 159) none (.mov (.t 158)) .no, .mk (some 160) (some (159, false)) (.mov (.t 26))
  .no, .mk (some 161) none
  (.pick (.t 159) (.c (.one (.st (.bool true)))) (.t 160))
  .no])
  (.cond (.t 161)
  (.seq
  (.ops
  [.mk (some 8) none (.mov (.c (.one (.st (.bool false)))))
  .no])
  .ret)
  .skip))
  (.seq
  (.ops
  [.mk (some 162) none (.mov (.t 0)) .no, .mk (some 163) none (.call 22
  [.t 162, .c (.one (.st (.int .i64 90))), .c (.one (.st (.int .i64 3))), .c (.one (.st (.int .i64 2)))])
  .no, .mk (some 27) none (.mov (.t 163)) .no])
  (.seq
  (.ops
  [.mk (some 165) none (.mov (.t 27)) .no, .mk (some 166) none (.load true 2 (.t 11)) .no, .mk (some 167) none (.call 21 [.t 165, .t 166])
  .no, .mk (some 164) none (.mov (.t 167)) .no, .mk (some 168) none (.extract 0 (.t 164)) .no, .mk (some 169) none (.extract 1 (.t 164)) .no, .mk (some 28) none
  (.alloc 24 [.st (.str (ByteArray.mk (#[]))), .full []])
  .no, .mk none none (.store 2 (.t 28) (.t 168))
  .no, .mk (some 29) none (.mov (.t 169)) .no])
  (.seq
  (.ops
  [.mk (some 171) none (.mov (.t 27)) .no, .mk (some 172) none (.load true 2 (.t 12))
  .no, .mk (some 173) none (.call 21 [.t 171, .t 172])
  .no, .mk (some 170) none (.mov (.t 173)) .no, .mk (some 174) none (.extract 0 (.t 170)) .no, .mk (some 175) none (.extract 1 (.t 170)) .no, .mk (some 30) none
  (.alloc 24 [.st (.str (ByteArray.mk (#[]))), .full []])
  .no, .mk none none (.store 2 (.t 30) (.t 174))
  .no, .mk (some 31) none (.mov (.t 175)) .no])
  (.seq
  (.seq
  (.ops
  [.mk (some 176) none (.mov (.t 29)) .no, .mk (some 177) none (.un .not (.t 176))
  .no, .mk (some 178) none (.mov (.t 177)) .no, .mk (some 179) (some (178, false)) (.mov (.t 31))
  .no, .mk (some 180) (some (178, false)) (.un .not (.t 179))
  .no, .mk (some 181) none
  (.pick (.t 178) (.c (.one (.st (.bool true)))) (.t 180))
  .no, .mk (some 182) none (.mov (.t 181)) .no, .mk (some 183) (some (182, false)) (.load true 2 (.t 28))
  .no, .mk (some 184) (some (182, false)) (.call 23
  [.t 183, .c (.one (.st (.int .i64 60)))])
  .no, .mk (some 185) (some (182, false)) (.bin .gtr (.t 184) (.c (.one (.st (.int .i64 60)))))
  .no, .mk (some 186) none
  (.pick (.t 182) (.c (.one (.st (.bool true)))) (.t 185))
  .no, .mk (some 187) none (.mov (.t 186)) .no, .mk (some 188) (some (187, false)) (.load true 2 (.t 30))
  .no, .mk (some 189) (some (187, false)) (.call 23
  [.t 188, .c (.one (.st (.int .i64 60)))])
  .no, .mk (some 190) (some (187, false)) (.bin .gtr (.t 189) (.c (.one (.st (.int .i64 60)))))
  .no, .mk (some 191) none
  (.pick (.t 187) (.c (.one (.st (.bool true)))) (.t 190))
  .no])
  (.cond (.t 191)
  (.seq
  (.ops
  [.mk (some 8) none (.mov (.c (.one (.st (.bool true)))))
  .no])
  .ret)
  .skip))
  (.seq
  (.ops
  [.mk (some 193) none (.mov (.t 9)) .no, .mk (some 194) none (.load true 2 (.t 28))
  .no, .mk (some 195) none (.load true 2 (.t 30))
  .no, .mk (some 196) none (.call 31 [.t 193, .t 194, .t 195])
  .no, .mk (some 192) none (.mov (.t 196)) .no, .mk (some 197) none (.extract 0 (.t 192)) .no, .mk (some 198) none (.extract 1 (.t 192)) .no, .mk (some 32) none (.mov (.t 197)) .no, .mk (some 15) none (.mov (.t 198)) .no])
  (.seq
  (.ops
  [.mk (some 199) none (.load true 2 (.t 11))
  .no, .mk (some 200) none (.load true 2 (.t 13))
  .no, .mk (some 201) none
  (.buildSlice false 24 2 [.t 199, .t 200]) .no, .mk (some 202) none
  (.build [.st (.str (ByteArray.mk (#[]))), .full []]
  [(0, 1, .c (.one (.st (.str (ByteArray.mk (#[102])))))),
  (1, 1, .t 201)])
  .no, .mk (some 203) none (.load true 2 (.t 12))
  .no, .mk (some 204) none (.load true 2 (.t 13))
  .no, .mk (some 205) none
  (.buildSlice false 24 2 [.t 203, .t 204]) .no, .mk (some 206) none
  (.build [.st (.str (ByteArray.mk (#[]))), .full []]
  [(0, 1, .c (.one (.st (.str (ByteArray.mk (#[102])))))),
  (1, 1, .t 205)])
  .no, .mk (some 207) none (.load true 2 (.t 13))
  .no, .mk (some 208) none (.load true 2 (.t 11))
  .no, .mk (some 209) none
  (.buildSlice false 24 2 [.t 207, .t 208]) .no, .mk (some 210) none
  (.build [.st (.str (ByteArray.mk (#[]))), .full []]
  [(0, 1, .c (.one (.st (.str (ByteArray.mk (#[103])))))),
  (1, 1, .t 209)])
  .no, .mk (some 211) none (.load true 2 (.t 13))
  .no, .mk (some 212) none (.load true 2 (.t 12))
  .no, .mk (some 213) none
  (.buildSlice false 24 2 [.t 211, .t 212]) .no, .mk (some 214) none
  (.build [.st (.str (ByteArray.mk (#[]))), .full []]
  [(0, 1, .c (.one (.st (.str (ByteArray.mk (#[103])))))),
  (1, 1, .t 213)])
  .no, .mk (some 215) none (.load true 2 (.t 11))
  .no, .mk (some 216) none (.buildSlice false 24 2 [.t 215])
  .no, .mk (some 217) none
  (.build [.st (.str (ByteArray.mk (#[]))), .full []]
  [(0, 1, .c (.one (.st (.str (ByteArray.mk (#[104])))))),
  (1, 1, .t 216)])
  .no, .mk (some 218) none (.load true 2 (.t 12))
  .no, .mk (some 219) none (.buildSlice false 24 2 [.t 218])
  .no, .mk (some 220) none
  (.build [.st (.str (ByteArray.mk (#[]))), .full []]
  [(0, 1, .c (.one (.st (.str (ByteArray.mk (#[104])))))),
  (1, 1, .t 219)])
  .no, .mk (some 221) none
  (.buildSlice false 24 2
  [.t 202, .t 206, .t 210, .t 214, .t 217, .t 220])
  .no, .mk (some 33) none (.mov (.t 221)) .no])
  (.seq
  (.ops
  [.mk (some 222) none (.mov (.t 3)) .no, .mk (some 223) none (.call 20
  [.t 222, .c (.one (.st (.int .i64 3)))])
  .no, .mk (some 224) none (.bin .mul (.c (.one (.st (.int .i64 2)))) (.t 223))
  .no, .mk (some 34) none (.mov (.t 224)) .no])
  (.seq
  (.ops
  [.mk (some 226) none (.mov (.t 9)) .no, .mk (some 227) none (.mov (.t 33)) .no, .mk (some 228) none (.mov (.t 34)) .no, .mk (some 229) none
  (.indexAddr 2 (.t 227) (.t 228)) .no, .mk (some 230) none (.load true 2 (.t 229))
  .no, .mk (some 231) none (.mov (.t 33)) .no, .mk (some 232) none (.mov (.t 34)) .no, .mk (some 233) none (.bin .add (.t 232) (.c (.one (.st (.int .i64 1)))))
  .no, .mk (some 234) none
  (.indexAddr 2 (.t 231) (.t 233)) .no, .mk (some 235) none (.load true 2 (.t 234))
  .no, .mk (some 236) none (.call 31 [.t 226, .t 230, .t 235])
  .no, .mk (some 225) none (.mov (.t 236)) .no, .mk (some 237) none (.extract 0 (.t 225))
  .no, .mk (some 238) none (.extract 1 (.t 225))
  .no, .mk (some 35) none (.mov (.t 237)) .no, .mk (some 17) none (.mov (.t 238)) .no])
  (.seq
  (.seq
  (.ops
  [.mk (some 239) none (.mov (.t 15))
  .no, .mk (some 240) none (.bin .neq (.t 239) (.c (.one (.st (.int .i64 0)))))
  .no, .mk (some 241) none (.mov (.t 240))
  .no, .mk (some 242) (some (241, false)) (.mov (.t 17))
  .no, .mk (some 243) (some (241, false)) (.bin .neq (.t 242) (.c (.one (.st (.int .i64 0)))))
  .no, .mk (some 244) none
  (.pick (.t 241) (.c (.one (.st (.bool true)))) (.t 243))
  .no, .mk (some 245) none (.mov (.t 244))
  .no, .mk (some 246) (some (245, false)) (.mov (.t 14))
  .no, .mk (some 247) (some (245, false)) (.mov (.t 246))
  .no, .mk (some 248) (some (247, true)) (.mov (.t 32))
  .no, .mk (some 249) (some (247, true)) (.un .not (.t 248))
  .no, .mk (some 250) (some (247, true)) (.mov (.t 249))
  .no, .mk (some 251) (some (250, false)) (.mov (.t 35))
  .no, .mk (some 252) (some (250, false)) (.un .not (.t 251))
  .no, .mk (some 253) (some (247, true))
  (.pick (.t 250) (.c (.one (.st (.bool true)))) (.t 252))
  .no, .mk (some 254) (some (245, false))
  (.pick (.t 247) (.t 253) (.c (.one (.st (.bool false)))))
  .no, .mk (some 255) none
  (.pick (.t 245) (.c (.one (.st (.bool true)))) (.t 254))
  .no])
  (.cond (.t 255)
  (.seq
  (.ops
  [.mk (some 8) none (.mov (.c (.one (.st (.bool false)))))
  .no])
  .ret)
  .skip))
  (.seq
  (.ops
  [.mk (some 257) none (.mov (.t 0)) .no, .mk (some 258) none (.mov (.t 10))
  .no, .mk (some 259) none (.call 35
  [.t 257, .c (.one (.st (.int .i64 130))), .t 258])
  .no, .mk (some 256) none (.mov (.t 259))
  .no, .mk (some 260) none (.extract 0 (.t 256))
  .no, .mk (some 261) none (.extract 1 (.t 256))
  .no, .mk (some 36) none
  (.alloc 24
  [.st (.str (ByteArray.mk (#[]))), .full []])
  .no, .mk none none (.store 2 (.t 36) (.t 260)) .no, .mk (some 37) none (.mov (.t 261))
  .no])
  (.seq
  (.ops
  [.mk (some 263) none (.mov (.t 0))
  .no, .mk (some 264) none (.mov (.t 10))
  .no, .mk (some 265) none (.call 35
  [.t 263, .c (.one (.st (.int .i64 160))), .t 264])
  .no, .mk (some 262) none (.mov (.t 265))
  .no, .mk (some 266) none (.extract 0 (.t 262))
  .no, .mk (some 267) none (.extract 1 (.t 262))
  .no, .mk (some 38) none
  (.alloc 24
  [.st (.str (ByteArray.mk (#[]))), .full []])
  .no, .mk none none (.store 2 (.t 38) (.t 266)) .no, .mk (some 39) none (.mov (.t 267))
  .no])
  (.seq
  (.ops
  [.mk (some 269) none (.mov (.t 9))
  .no, .mk (some 270) none (.load true 2 (.t 36))
  .no, .mk (some 271) none (.load true 2 (.t 38))
  .no, .mk (some 272) none (.call 31 [.t 269, .t 270, .t 271])
  .no, .mk (some 268) none (.mov (.t 272))
  .no, .mk (some 273) none (.extract 0 (.t 268))
  .no, .mk (some 274) none (.extract 1 (.t 268))
  .no, .mk (some 40) none (.mov (.t 273))
  .no, .mk (some 15) none (.mov (.t 274))
  .no])
  (.seq
  (.ops
  [.mk (some 276) none (.mov (.t 9))
  .no, .mk (some 277) none (.load true 2 (.t 38))
  .no, .mk (some 278) none (.load true 2 (.t 36))
  .no, .mk (some 279) none (.call 31 [.t 276, .t 277, .t 278])
  .no, .mk (some 275) none (.mov (.t 279))
  .no, .mk (some 280) none (.extract 0 (.t 275))
  .no, .mk (some 281) none (.extract 1 (.t 275))
  .no, .mk (some 41) none (.mov (.t 280))
  .no, .mk (some 17) none (.mov (.t 281))
  .no])
  (.seq
  (.ops
  [.mk (some 282) none (.mov (.t 15))
  .no, .mk (some 283) none (.bin .eql (.t 282) (.c (.one (.st (.int .i64 0)))))
  .no, .mk (some 284) none (.mov (.t 283))
  .no, .mk (some 285) (some (284, true)) (.mov (.t 17))
  .no, .mk (some 286) (some (284, true)) (.bin .eql (.t 285) (.c (.one (.st (.int .i64 0)))))
  .no, .mk (some 287) none
  (.pick (.t 284) (.t 286) (.c (.one (.st (.bool false)))))
  .no, .mk (some 288) none (.mov (.t 287))
  .no, .mk (some 289) (some (288, true)) (.load true 2 (.t 36)) .no, .mk (some 290) (some (288, true)) (.load true 2 (.t 38)) .no, .mk (some 291) (some (288, true)) (.call 26 [.t 289, .t 290]) .no, .mk (some 292) (some (288, true)) (.mov (.t 291))
  .no, .mk (some 293) (some (292, false)) (.mov (.t 40))
  .no, .mk (some 294) (some (292, false)) (.mov (.t 41))
  .no, .mk (some 295) (some (292, false))
  (.eqB true (.t 293) (.t 294)) .no, .mk (some 296) (some (288, true))
  (.pick (.t 292) (.c (.one (.st (.bool true)))) (.t 295))
  .no, .mk (some 297) none
  (.pick (.t 288) (.t 296) (.c (.one (.st (.bool false)))))
  .no, .mk (some 8) none (.mov (.t 297))
  .no])
  .ret)))))))))))))))))))))))))))))))
theorem tr_metaprunetop_TopPath : trCode Try.prog 298 [] (Try.f9.body.getD .skip) = some ir_metaprunetop_TopPath := by kernel_rfl
theorem ac_metaprunetop_TopPath {xs : List AV} {r : AV} (hn : xs.length ≤ 298) (h : ∀ C : Ctx, C.n = 298 → IWP Try.prog C [] ir_metaprunetop_TopPath (FinQ [.t 8] r) (AS.start xs)) : ACalls Try.prog 9 xs r :=
  acalls_of Try.func9 rfl tr_metaprunetop_TopPath rfl hn h
theorem acS_metaprunetop_TopPath {xs : List AV} {S S' : AStore} {r : AV} (hn : xs.length ≤ 298) (h : Clean S → ∀ C : Ctx, C.n = 298 → IWP Try.prog C [] ir_metaprunetop_TopPath (FinS C [.t 8] r S') (AS.startS xs S)) : ACallsS Try.prog 9 xs S r S' :=
  acallsS_of Try.func9 rfl tr_metaprunetop_TopPath rfl hn h

end Go.Proofs.Ytpajlfdhmjgpnaa

namespace Go.Proofs.Ytpajlfdhmjgpnaa
open Go Go.RowKit
set_option linter.unusedVariables false
set_option linter.unusedSimpArgs false
set_option maxHeartbeats 800000

abbrev boxTm (t : Tm) : ABlk := .box 24 [.st (.str t.name), .st (.list (t.args.map encT))]
set_option maxRecDepth 100000 in
theorem topPath_a (l : List Int) (m1 m2 m3 : Int) (hl : ∀ n ∈ l, inR .i64 n) (hm : l.length ≤ maxLen) (h1 : inR .i64 m1) (h2 : inR .i64 m2) (h3 : inR .i64 m3) : ACalls Try.prog 9 [aInts l, aInt m1, aInt m2, aInt m3] (aBool true) := by
  obtain ⟨row, hrow, hrm⟩ := rowFrom_a m1 h1
  have r2 := pickI_range m2 9 (by omega)
  have r3 := pickI_range m3 3 (by omega)
  have p2 := pick_a m2 9 h2 (by omega)
  have p3 := pick_a m3 3 h3 (by omega)
  obtain ⟨n, en⟩ : ∃ k : Nat, 1 + pickI m2 9 = k := ⟨(1 + pickI m2 9).toNat, by omega⟩
  generalize pickI m2 9 = x2 at *
  generalize pickI m3 3 = x3 at *
  obtain ⟨a, ca, za, ka⟩ := termOf_a l hl hm 2 (by omega) n 0 (by omega) (by omega)
  obtain ⟨b, cb, zb, kb⟩ := termOf_a l hl hm 2 (by omega) n 30 (by omega) (by omega)
  obtain ⟨c, cc, zc, kc⟩ := termOf_a l hl hm 2 (by omega) n 60 (by omega) (by omega)
  obtain ⟨s, cs, os, _, zs⟩ := bindsFrom_a l hl hm 2 (by omega) 90 3 (by omega) (by omega)
  obtain ⟨p, cp, zp, kp, gp⟩ := groundR_a l hl hm n 130 (by omega) (by omega)
  obtain ⟨q, cq, zq, kq, gq⟩ := groundR_a l hl hm n 160 (by omega) (by omega)
  have hsz := fun t => size_sub (M := 5) (by omega) (fun b hb => by have := zs b hb; omega) t
  have hx := hsz a
  have hy := hsz b
  have on1 := onRef_a s a (by omega)
  have on2 := onRef_a s b (by omega)
  rw [show onTo s a = (a.on s, true) by unfold onTo; rw [if_pos (by omega)]] at on1
  rw [show onTo s b = (b.on s, true) by unfold onTo; rw [if_pos (by omega)]] at on2
  have z1 := sizeR_a (a.on s) 60 (by omega) (by omega)
  have z2 := sizeR_a (b.on s) 60 (by omega) (by omega)
  have hW : ∀ t u : Tm, t.chk = 0 → t.size ≤ 200 → u.chk = 0 → u.size ≤ 200 → ACalls Try.prog 31 [aStrs row, aTm t, aTm u] (.tup [aBool (paB row t u), aInt 0]) := fun t u k1 q1 k2 q2 => by
    have e : argsMay row t u = 0 := by
      unfold argsMay twoMay
      rw [if_pos hrm, if_pos (may_of k1 q1)]
      exact may_of k2 q2
    have := orderPath_a row t u
    unfold pathOf at this
    rw [if_pos e, e] at this
    exact this
  have kx : (a.on s).chk = 0 := chk_sub os.chk ka
  have ky : (b.on s).chk = 0 := chk_sub os.chk kb
  have kup : ∀ (nm : ByteArray) (xs : List Tm), nameOk nm = true → isVar nm = false → (∀ x ∈ xs, x.chk = 0) → (Tm.mk nm xs).chk = 0 := fun nm xs h1 h2 h3 => chk_knot h1 h2 h3
  have wab := hW a b ka (by omega) kb (by omega)
  have wbc := hW b c kb (by omega) kc (by omega)
  have wac := hW a c ka (by omega) kc (by omega)
  have wba := hW b a kb (by omega) ka (by omega)
  have waa := hW a a ka (by omega) ka (by omega)
  have wxy := hW (a.on s) (b.on s) kx (by omega) ky (by omega)
  have wpq := hW p q kp (by omega) kq (by omega)
  have wqp := hW q p kq (by omega) kp (by omega)
  have wup := hW (.mk ⟨#[102]⟩ [.mk ⟨#[99]⟩ [], a]) a (kup _ _ (by decide +kernel) (by decide +kernel) (by simp [ka, (by decide +kernel : (Tm.mk ⟨#[99]⟩ []).chk = 0)])) (by simp only [Tm.size, Tm.sizes]; omega) ka (by omega)
  have wdn := hW a (.mk ⟨#[102]⟩ [.mk ⟨#[99]⟩ [], a]) ka (by omega) (kup _ _ (by decide +kernel) (by decide +kernel) (by simp [ka, (by decide +kernel : (Tm.mk ⟨#[99]⟩ []).chk = 0)])) (by simp only [Tm.size, Tm.sizes]; omega)
  have w0 := hW (.mk ⟨#[102]⟩ [a, c]) (.mk ⟨#[102]⟩ [b, c]) (kup _ _ (by decide +kernel) (by decide +kernel) (by simp [ka, kc])) (by simp only [Tm.size, Tm.sizes]; omega) (kup _ _ (by decide +kernel) (by decide +kernel) (by simp [kb, kc])) (by simp only [Tm.size, Tm.sizes]; omega)
  have w1 := hW (.mk ⟨#[103]⟩ [c, a]) (.mk ⟨#[103]⟩ [c, b]) (kup _ _ (by decide +kernel) (by decide +kernel) (by simp [ka, kc])) (by simp only [Tm.size, Tm.sizes]; omega) (kup _ _ (by decide +kernel) (by decide +kernel) (by simp [kb, kc])) (by simp only [Tm.size, Tm.sizes]; omega)
  have w2 := hW (.mk ⟨#[104]⟩ [a]) (.mk ⟨#[104]⟩ [b]) (kup _ _ (by decide +kernel) (by decide +kernel) (by simp [ka])) (by simp only [Tm.size, Tm.sizes]; omega) (kup _ _ (by decide +kernel) (by decide +kernel) (by simp [kb])) (by simp only [Tm.size, Tm.sizes]; omega)
  have haa : paB row a a = false := paB_no.2 (pa_irrefl a)
  have hup' : Pa row (.mk ⟨#[102]⟩ [.mk ⟨#[99]⟩ [], a]) a := pa_sub (by decide +kernel) (by simp)
  have hup : paB row (.mk ⟨#[102]⟩ [.mk ⟨#[99]⟩ [], a]) a = true := paB_iff.2 hup'
  have hdn : paB row a (.mk ⟨#[102]⟩ [.mk ⟨#[99]⟩ [], a]) = false := paB_no.2 (pa_asymm hup')
  have hba : paB row a b = true → paB row b a = false := fun h => paB_no.2 (pa_asymm (paB_iff.1 h))
  have hac : paB row a b = true → paB row b c = true → paB row a c = true := fun h k => paB_iff.2 (pa_trans (paB_iff.1 h) (paB_iff.1 k))
  have hxy : paB row a b = true → paB row (a.on s) (b.on s) = true := fun h => paB_iff.2 (pa_on os (paB_iff.1 h))
  have h0 : paB row a b = true → paB row (.mk ⟨#[102]⟩ [a, c]) (.mk ⟨#[102]⟩ [b, c]) = true := fun h => paB_iff.2 (pa_ctx (n := ⟨#[102]⟩) (by decide +kernel) [] [c] (paB_iff.1 h))
  have h1' : paB row a b = true → paB row (.mk ⟨#[103]⟩ [c, a]) (.mk ⟨#[103]⟩ [c, b]) = true := fun h => paB_iff.2 (pa_ctx (n := ⟨#[103]⟩) (by decide +kernel) [c] [] (paB_iff.1 h))
  have h2' : paB row a b = true → paB row (.mk ⟨#[104]⟩ [a]) (.mk ⟨#[104]⟩ [b]) = true := fun h => paB_iff.2 (pa_ctx (n := ⟨#[104]⟩) (by decide +kernel) [] [] (paB_iff.1 h))
  have hpq : p ≠ q → (paB row p q == paB row q p) = false := fun hne => by
    rcases pa_total (row := row) gp gq hne with h | h
    · rw [paB_no.2 (pa_asymm h), paB_iff.2 h]
      rfl
    · rw [paB_no.2 (pa_asymm h), paB_iff.2 h]
      rfl
  have hsame := sameR_a p q
  rw [haa] at waa
  rw [hup] at wup
  rw [hdn] at wdn
  generalize paB row (.mk ⟨#[102]⟩ [a, c]) (.mk ⟨#[102]⟩ [b, c]) = v0 at *
  generalize paB row (.mk ⟨#[103]⟩ [c, a]) (.mk ⟨#[103]⟩ [c, b]) = v1 at *
  generalize paB row (.mk ⟨#[104]⟩ [a]) (.mk ⟨#[104]⟩ [b]) = v2 at *
  generalize paB row (a.on s) (b.on s) = xy at *
  generalize paB row a b = ab at *
  generalize paB row b a = ba at *
  generalize paB row b c = bc at *
  generalize paB row a c = ac at *
  generalize paB row p q = pq at *
  generalize paB row q p = qp at *
  unfold aTm at wup wdn w0 w1 w2
  simp only [Tm.args_mk, Tm.name_mk, List.map_cons, List.map_nil, encT_eq] at wup wdn w0 w1 w2
  unfold MadeG at cp cq
  generalize a.on s = x at *
  generalize b.on s = y at *
  clear hW hsz haa hup hup' hdn kup
  refine ac_metaprunetop_TopPath (Nat.le_of_ble_eq_true rfl) fun C hC => ?_
  unfold ir_metaprunetop_TopPath
  by_cases h256 : (256 : Int) < l.length
  · repeat' (first | (with_reducible first | refine Wa ?_ | refine Wb ?_ | refine Wc ?_ | refine Wd ?_ | refine We ?_ | refine Wf ?_ | refine Wg ?_ | refine Wh ?_ | refine Wi ?_ | refine Wj ?_ | refine Wk (by decide) ?_ | refine Wl ?_ | refine Wm ?_ | refine Wn ?_) | ((with_reducible first | refine Wo (fun K hK => ?_) | refine Wp ?_ | refine Wq ?_ | refine Wr ?_); (try simp only [go_sem, List.forall_mem_nil, ↓guard_ite, ↓pick_ite, seval, encT_eq, inR_i64, h256, decide_eq_true_eq, decide_eq_false_iff_not, Int.ofNat_lt]); (repeat with_reducible refine And.intro (by first | omega | (with_reducible first | exact lens_encT | exact lens_encL | exact lens_encB | exact lens_encP) | (simp; done) | (simp only [List.length_take, List.length_map, List.length_append, maxLen_eq]; omega)) ?_); (try (with_reducible refine hK _ ?_; clear hK K)); (try with_reducible refine ite_conj ?_)))
    simp only [go_sem, List.forall_mem_nil, ↓guard_ite, ↓pick_ite, seval, FinQ, AS.result, resAll, resOne, tupV]
  repeat' (first | (with_reducible first | refine Wa ?_ | refine Wb ?_ | refine Wc ?_ | refine Wd ?_ | refine We ?_ | refine Wf ?_ | refine Wg ?_ | refine Wh ?_ | refine Wi ?_ | refine Wj ?_ | refine Wk (by decide) ?_ | refine Wl ?_ | refine Wm ?_ | refine Wn ?_) | refine CallG.mk _ (hrow) ?_ | refine CallG.mk _ (p2) ?_ | refine CallG.mk _ (ca) ?_ | refine CallG.mk _ (cb) ?_ | refine CallG.mk _ (cc) ?_ | refine CallG.mk _ (wab) ?_ | refine CallG.mk _ (wbc) ?_ | refine CallG.mk _ (wac) ?_ | refine CallG.mk _ (wba) ?_ | ((with_reducible first | refine Wo (fun K hK => ?_) | refine Wp ?_ | refine Wq ?_ | refine Wr ?_); (try simp only [go_sem, List.forall_mem_nil, ↓guard_ite, ↓pick_ite, seval, encT_eq, inR_i64, h256, en, decide_eq_true_eq, decide_eq_false_iff_not, Int.ofNat_lt]); (repeat with_reducible refine And.intro (by first | omega | (with_reducible first | exact lens_encT | exact lens_encL | exact lens_encB | exact lens_encP) | (simp; done) | (simp only [List.length_take, List.length_map, List.length_append, maxLen_eq]; omega)) ?_); (try (with_reducible refine hK _ ?_; clear hK K)); (try with_reducible refine ite_conj ?_)))
  refine CallG.mk _ waa ?_
  refine Wq ?_
  simp only [go_sem, List.forall_mem_nil, ↓guard_ite, ↓pick_ite, seval, encT_eq, inR_i64]
  refine hK _ ?_
  clear hK K
  refine Wb ?_
  refine IWP.mid (fun x => x.env 130 = aBool false ∧ x.env 0 = aInts l ∧ x.env 3 = aInt m3 ∧ x.env 9 = aStrs row ∧ x.env 10 = aInt n ∧ x.env 11 = .one (.ptr 11 1 0 0) ∧ x.env 12 = .one (.ptr 12 1 0 0) ∧ x.env 13 = .one (.ptr 13 1 0 0) ∧ x.env 14 = aBool ab ∧ x.S 11 = some (boxTm a) ∧ x.S 12 = some (boxTm b) ∧ x.S 13 = some (boxTm c) ∧ x.S 24 = none ∧ x.S 28 = none ∧ x.S 30 = none ∧ x.S 36 = none ∧ x.S 38 = none) ?_ ?_
  · cases ab with
    | false =>
      repeat' (first | (with_reducible first | refine Wa ?_ | refine Wb ?_ | refine Wc ?_ | refine Wd ?_ | refine We ?_ | refine Wf ?_ | refine Wg ?_ | refine Wh ?_ | refine Wi ?_ | refine Wj ?_ | refine Wk (by decide) ?_ | refine Wl ?_ | refine Wm ?_ | refine Wn ?_) | ((with_reducible first | refine Wo (fun K hK => ?_) | refine Wp ?_ | refine Wq ?_ | refine Wr ?_); (try simp only [go_sem, List.forall_mem_nil, ↓guard_ite, ↓pick_ite, seval, encT_eq, inR_i64, decide_eq_true_eq, decide_eq_false_iff_not, Int.ofNat_lt]); (repeat with_reducible refine And.intro (by first | omega | (with_reducible first | exact lens_encT | exact lens_encL | exact lens_encB | exact lens_encP) | (simp; done) | (simp only [List.length_take, List.length_map, List.length_append, maxLen_eq]; omega)) ?_); (try (with_reducible refine hK _ ?_; clear hK K)); (try with_reducible refine ite_conj ?_)))
      refine ⟨rfl, ?_⟩
      simp only [go_sem, List.forall_mem_nil, ↓guard_ite, ↓pick_ite, seval, encT_eq, inR_i64, en]
    | true =>
      have hba := hba rfl
      cases bc with
      | false =>
        repeat' (first | (with_reducible first | refine Wa ?_ | refine Wb ?_ | refine Wc ?_ | refine Wd ?_ | refine We ?_ | refine Wf ?_ | refine Wg ?_ | refine Wh ?_ | refine Wi ?_ | refine Wj ?_ | refine Wk (by decide) ?_ | refine Wl ?_ | refine Wm ?_ | refine Wn ?_) | ((with_reducible first | refine Wo (fun K hK => ?_) | refine Wp ?_ | refine Wq ?_ | refine Wr ?_); (try simp only [go_sem, List.forall_mem_nil, ↓guard_ite, ↓pick_ite, seval, encT_eq, inR_i64, hba, decide_eq_true_eq, decide_eq_false_iff_not, Int.ofNat_lt]); (repeat with_reducible refine And.intro (by first | omega | (with_reducible first | exact lens_encT | exact lens_encL | exact lens_encB | exact lens_encP) | (simp; done) | (simp only [List.length_take, List.length_map, List.length_append, maxLen_eq]; omega)) ?_); (try (with_reducible refine hK _ ?_; clear hK K)); (try with_reducible refine ite_conj ?_)))
        refine ⟨rfl, ?_⟩
        simp only [go_sem, List.forall_mem_nil, ↓guard_ite, ↓pick_ite, seval, encT_eq, inR_i64, en]
      | true =>
        have hac := hac rfl rfl
        repeat' (first | (with_reducible first | refine Wa ?_ | refine Wb ?_ | refine Wc ?_ | refine Wd ?_ | refine We ?_ | refine Wf ?_ | refine Wg ?_ | refine Wh ?_ | refine Wi ?_ | refine Wj ?_ | refine Wk (by decide) ?_ | refine Wl ?_ | refine Wm ?_ | refine Wn ?_) | ((with_reducible first | refine Wo (fun K hK => ?_) | refine Wp ?_ | refine Wq ?_ | refine Wr ?_); (try simp only [go_sem, List.forall_mem_nil, ↓guard_ite, ↓pick_ite, seval, encT_eq, inR_i64, hba, hac, decide_eq_true_eq, decide_eq_false_iff_not, Int.ofNat_lt]); (repeat with_reducible refine And.intro (by first | omega | (with_reducible first | exact lens_encT | exact lens_encL | exact lens_encB | exact lens_encP) | (simp; done) | (simp only [List.length_take, List.length_map, List.length_append, maxLen_eq]; omega)) ?_); (try (with_reducible refine hK _ ?_; clear hK K)); (try with_reducible refine ite_conj ?_)))
        refine ⟨rfl, ?_⟩
        simp only [go_sem, List.forall_mem_nil, ↓guard_ite, ↓pick_ite, seval, encT_eq, inR_i64, en]
  rintro ⟨env, S⟩ ⟨e130, e0, e3, e9, e10, e11, e12, e13, e14, s11, s12, s13, s24, s28, s30, s36, s38⟩
  simp only at e130 e0 e3 e9 e10 e11 e12 e13 e14 s11 s12 s13 s24 s28 s30 s36 s38
  by_cases q1 : (60 : Int) < capTo x.size 60
  · repeat' (first | (with_reducible first | refine Wa ?_ | refine Wb ?_ | refine Wc ?_ | refine Wd ?_ | refine We ?_ | refine Wf ?_ | refine Wg ?_ | refine Wh ?_ | refine Wi ?_ | refine Wj ?_ | refine Wk (by decide) ?_ | refine Wl ?_ | refine Wm ?_ | refine Wn ?_) | refine CallG.mk _ (leaf_a ⟨#[99]⟩) ?_ | refine CallG.mk _ (wup) ?_ | refine CallG.mk _ (wdn) ?_ | refine CallG.mk _ (cs) ?_ | refine CallG.mk _ (on1) ?_ | refine CallG.mk _ (on2) ?_ | refine CallG.mk _ (z1) ?_ | ((with_reducible first | refine Wo (fun K hK => ?_) | refine Wp ?_ | refine Wq ?_ | refine Wr ?_); (try simp only [go_sem, List.forall_mem_nil, ↓guard_ite, ↓pick_ite, seval, encT_eq, inR_i64, e0, e3, e9, e10, e11, e12, e13, e14, s11, s12, s13, s24, s28, s30, s36, s38, q1, decide_eq_true_eq, decide_eq_false_iff_not, Int.ofNat_lt]); (repeat with_reducible refine And.intro (by first | omega | (with_reducible first | exact lens_encT | exact lens_encL | exact lens_encB | exact lens_encP) | (simp; done) | (simp only [List.length_take, List.length_map, List.length_append, maxLen_eq]; omega)) ?_); (try (with_reducible refine hK _ ?_; clear hK K)); (try with_reducible refine ite_conj ?_)))
    simp only [go_sem, List.forall_mem_nil, ↓guard_ite, ↓pick_ite, seval, FinQ, AS.result, resAll, resOne, tupV]
  by_cases q2 : (60 : Int) < capTo y.size 60
  · repeat' (first | (with_reducible first | refine Wa ?_ | refine Wb ?_ | refine Wc ?_ | refine Wd ?_ | refine We ?_ | refine Wf ?_ | refine Wg ?_ | refine Wh ?_ | refine Wi ?_ | refine Wj ?_ | refine Wk (by decide) ?_ | refine Wl ?_ | refine Wm ?_ | refine Wn ?_) | refine CallG.mk _ (leaf_a ⟨#[99]⟩) ?_ | refine CallG.mk _ (wup) ?_ | refine CallG.mk _ (wdn) ?_ | refine CallG.mk _ (cs) ?_ | refine CallG.mk _ (on1) ?_ | refine CallG.mk _ (on2) ?_ | refine CallG.mk _ (z1) ?_ | refine CallG.mk _ (z2) ?_ | ((with_reducible first | refine Wo (fun K hK => ?_) | refine Wp ?_ | refine Wq ?_ | refine Wr ?_); (try simp only [go_sem, List.forall_mem_nil, ↓guard_ite, ↓pick_ite, seval, encT_eq, inR_i64, e0, e3, e9, e10, e11, e12, e13, e14, s11, s12, s13, s24, s28, s30, s36, s38, q1, q2, decide_eq_true_eq, decide_eq_false_iff_not, Int.ofNat_lt]); (repeat with_reducible refine And.intro (by first | omega | (with_reducible first | exact lens_encT | exact lens_encL | exact lens_encB | exact lens_encP) | (simp; done) | (simp only [List.length_take, List.length_map, List.length_append, maxLen_eq]; omega)) ?_); (try (with_reducible refine hK _ ?_; clear hK K)); (try with_reducible refine ite_conj ?_)))
    simp only [go_sem, List.forall_mem_nil, ↓guard_ite, ↓pick_ite, seval, FinQ, AS.result, resAll, resOne, tupV]
  have hx3 : x3 = 0 ∨ x3 = 1 ∨ x3 = 2 := by omega
  apply once
  · intro rest
    rcases hx3 with hx3 | hx3 | hx3
    · rw [hx3] at p3
      repeat' (first | (with_reducible first | refine Wa ?_ | refine Wb ?_ | refine Wc ?_ | refine Wd ?_ | refine We ?_ | refine Wf ?_ | refine Wg ?_ | refine Wh ?_ | refine Wi ?_ | refine Wj ?_ | refine Wk (by decide) ?_ | refine Wl ?_ | refine Wm ?_ | refine Wn ?_) | refine CallG.mk _ (leaf_a ⟨#[99]⟩) ?_ | refine CallG.mk _ (wup) ?_ | refine CallG.mk _ (wdn) ?_ | refine CallG.mk _ (cs) ?_ | refine CallG.mk _ (on1) ?_ | refine CallG.mk _ (on2) ?_ | refine CallG.mk _ (z1) ?_ | refine CallG.mk _ (z2) ?_ | refine CallG.mk _ (wxy) ?_ | refine CallG.mk _ (p3) ?_ | ((with_reducible first | refine Wo (fun K hK => ?_) | refine Wp ?_ | refine Wq ?_ | refine Wr ?_); (try simp only [go_sem, List.forall_mem_nil, ↓guard_ite, ↓pick_ite, seval, encT_eq, inR_i64, e0, e3, e9, e10, e11, e12, e13, e14, s11, s12, s13, s24, s28, s30, s36, s38, q1, q2, decide_eq_true_eq, decide_eq_false_iff_not, Int.ofNat_lt]); (repeat with_reducible refine And.intro (by first | omega | (with_reducible first | exact lens_encT | exact lens_encL | exact lens_encB | exact lens_encP) | (simp; done) | (simp only [List.length_take, List.length_map, List.length_append, maxLen_eq]; omega)) ?_); (try (with_reducible refine hK _ ?_; clear hK K)); (try with_reducible refine ite_conj ?_)))
      refine CallG.mk _ w0 ?_
      refine Wq ?_
      simp only [go_sem, List.forall_mem_nil, ↓guard_ite, ↓pick_ite, seval, encT_eq, inR_i64, e0, e3, e9, e10, e11, e12, e13, e14, s11, s12, s13, s24, s28, s30, s36, s38]
      refine hK _ ?_
      clear hK K
      refine Wb ?_
      refine IWP.mid (fun x => x.env 255 = aBool false ∧ x.env 0 = aInts l ∧ x.env 9 = aStrs row ∧ x.env 10 = aInt n ∧ x.S 36 = none ∧ x.S 38 = none) ?_ rest
      cases ab with
      | false =>
        repeat' (first | (with_reducible first | refine Wa ?_ | refine Wb ?_ | refine Wc ?_ | refine Wd ?_ | refine We ?_ | refine Wf ?_ | refine Wg ?_ | refine Wh ?_ | refine Wi ?_ | refine Wj ?_ | refine Wk (by decide) ?_ | refine Wl ?_ | refine Wm ?_ | refine Wn ?_) | ((with_reducible first | refine Wo (fun K hK => ?_) | refine Wp ?_ | refine Wq ?_ | refine Wr ?_); (try simp only [go_sem, List.forall_mem_nil, ↓guard_ite, ↓pick_ite, seval, encT_eq, inR_i64, e14, decide_eq_true_eq, decide_eq_false_iff_not, Int.ofNat_lt]); (repeat with_reducible refine And.intro (by first | omega | (with_reducible first | exact lens_encT | exact lens_encL | exact lens_encB | exact lens_encP) | (simp; done) | (simp only [List.length_take, List.length_map, List.length_append, maxLen_eq]; omega)) ?_); (try (with_reducible refine hK _ ?_; clear hK K)); (try with_reducible refine ite_conj ?_)))
        refine ⟨rfl, ?_⟩
        simp only [go_sem, List.forall_mem_nil, ↓guard_ite, ↓pick_ite, seval, encT_eq, inR_i64, e0, e9, e10, s36, s38]
      | true =>
        have hxy := hxy rfl
        have hh := h0 rfl
        repeat' (first | (with_reducible first | refine Wa ?_ | refine Wb ?_ | refine Wc ?_ | refine Wd ?_ | refine We ?_ | refine Wf ?_ | refine Wg ?_ | refine Wh ?_ | refine Wi ?_ | refine Wj ?_ | refine Wk (by decide) ?_ | refine Wl ?_ | refine Wm ?_ | refine Wn ?_) | ((with_reducible first | refine Wo (fun K hK => ?_) | refine Wp ?_ | refine Wq ?_ | refine Wr ?_); (try simp only [go_sem, List.forall_mem_nil, ↓guard_ite, ↓pick_ite, seval, encT_eq, inR_i64, e14, hxy, hh, decide_eq_true_eq, decide_eq_false_iff_not, Int.ofNat_lt]); (repeat with_reducible refine And.intro (by first | omega | (with_reducible first | exact lens_encT | exact lens_encL | exact lens_encB | exact lens_encP) | (simp; done) | (simp only [List.length_take, List.length_map, List.length_append, maxLen_eq]; omega)) ?_); (try (with_reducible refine hK _ ?_; clear hK K)); (try with_reducible refine ite_conj ?_)))
        refine ⟨rfl, ?_⟩
        simp only [go_sem, List.forall_mem_nil, ↓guard_ite, ↓pick_ite, seval, encT_eq, inR_i64, e0, e9, e10, s36, s38]
    · rw [hx3] at p3
      repeat' (first | (with_reducible first | refine Wa ?_ | refine Wb ?_ | refine Wc ?_ | refine Wd ?_ | refine We ?_ | refine Wf ?_ | refine Wg ?_ | refine Wh ?_ | refine Wi ?_ | refine Wj ?_ | refine Wk (by decide) ?_ | refine Wl ?_ | refine Wm ?_ | refine Wn ?_) | refine CallG.mk _ (leaf_a ⟨#[99]⟩) ?_ | refine CallG.mk _ (wup) ?_ | refine CallG.mk _ (wdn) ?_ | refine CallG.mk _ (cs) ?_ | refine CallG.mk _ (on1) ?_ | refine CallG.mk _ (on2) ?_ | refine CallG.mk _ (z1) ?_ | refine CallG.mk _ (z2) ?_ | refine CallG.mk _ (wxy) ?_ | refine CallG.mk _ (p3) ?_ | ((with_reducible first | refine Wo (fun K hK => ?_) | refine Wp ?_ | refine Wq ?_ | refine Wr ?_); (try simp only [go_sem, List.forall_mem_nil, ↓guard_ite, ↓pick_ite, seval, encT_eq, inR_i64, e0, e3, e9, e10, e11, e12, e13, e14, s11, s12, s13, s24, s28, s30, s36, s38, q1, q2, decide_eq_true_eq, decide_eq_false_iff_not, Int.ofNat_lt]); (repeat with_reducible refine And.intro (by first | omega | (with_reducible first | exact lens_encT | exact lens_encL | exact lens_encB | exact lens_encP) | (simp; done) | (simp only [List.length_take, List.length_map, List.length_append, maxLen_eq]; omega)) ?_); (try (with_reducible refine hK _ ?_; clear hK K)); (try with_reducible refine ite_conj ?_)))
      refine CallG.mk _ w1 ?_
      refine Wq ?_
      simp only [go_sem, List.forall_mem_nil, ↓guard_ite, ↓pick_ite, seval, encT_eq, inR_i64, e0, e3, e9, e10, e11, e12, e13, e14, s11, s12, s13, s24, s28, s30, s36, s38]
      refine hK _ ?_
      clear hK K
      refine Wb ?_
      refine IWP.mid (fun x => x.env 255 = aBool false ∧ x.env 0 = aInts l ∧ x.env 9 = aStrs row ∧ x.env 10 = aInt n ∧ x.S 36 = none ∧ x.S 38 = none) ?_ rest
      cases ab with
      | false =>
        repeat' (first | (with_reducible first | refine Wa ?_ | refine Wb ?_ | refine Wc ?_ | refine Wd ?_ | refine We ?_ | refine Wf ?_ | refine Wg ?_ | refine Wh ?_ | refine Wi ?_ | refine Wj ?_ | refine Wk (by decide) ?_ | refine Wl ?_ | refine Wm ?_ | refine Wn ?_) | ((with_reducible first | refine Wo (fun K hK => ?_) | refine Wp ?_ | refine Wq ?_ | refine Wr ?_); (try simp only [go_sem, List.forall_mem_nil, ↓guard_ite, ↓pick_ite, seval, encT_eq, inR_i64, e14, decide_eq_true_eq, decide_eq_false_iff_not, Int.ofNat_lt]); (repeat with_reducible refine And.intro (by first | omega | (with_reducible first | exact lens_encT | exact lens_encL | exact lens_encB | exact lens_encP) | (simp; done) | (simp only [List.length_take, List.length_map, List.length_append, maxLen_eq]; omega)) ?_); (try (with_reducible refine hK _ ?_; clear hK K)); (try with_reducible refine ite_conj ?_)))
        refine ⟨rfl, ?_⟩
        simp only [go_sem, List.forall_mem_nil, ↓guard_ite, ↓pick_ite, seval, encT_eq, inR_i64, e0, e9, e10, s36, s38]
      | true =>
        have hxy := hxy rfl
        have hh := h1' rfl
        repeat' (first | (with_reducible first | refine Wa ?_ | refine Wb ?_ | refine Wc ?_ | refine Wd ?_ | refine We ?_ | refine Wf ?_ | refine Wg ?_ | refine Wh ?_ | refine Wi ?_ | refine Wj ?_ | refine Wk (by decide) ?_ | refine Wl ?_ | refine Wm ?_ | refine Wn ?_) | ((with_reducible first | refine Wo (fun K hK => ?_) | refine Wp ?_ | refine Wq ?_ | refine Wr ?_); (try simp only [go_sem, List.forall_mem_nil, ↓guard_ite, ↓pick_ite, seval, encT_eq, inR_i64, e14, hxy, hh, decide_eq_true_eq, decide_eq_false_iff_not, Int.ofNat_lt]); (repeat with_reducible refine And.intro (by first | omega | (with_reducible first | exact lens_encT | exact lens_encL | exact lens_encB | exact lens_encP) | (simp; done) | (simp only [List.length_take, List.length_map, List.length_append, maxLen_eq]; omega)) ?_); (try (with_reducible refine hK _ ?_; clear hK K)); (try with_reducible refine ite_conj ?_)))
        refine ⟨rfl, ?_⟩
        simp only [go_sem, List.forall_mem_nil, ↓guard_ite, ↓pick_ite, seval, encT_eq, inR_i64, e0, e9, e10, s36, s38]
    · rw [hx3] at p3
      repeat' (first | (with_reducible first | refine Wa ?_ | refine Wb ?_ | refine Wc ?_ | refine Wd ?_ | refine We ?_ | refine Wf ?_ | refine Wg ?_ | refine Wh ?_ | refine Wi ?_ | refine Wj ?_ | refine Wk (by decide) ?_ | refine Wl ?_ | refine Wm ?_ | refine Wn ?_) | refine CallG.mk _ (leaf_a ⟨#[99]⟩) ?_ | refine CallG.mk _ (wup) ?_ | refine CallG.mk _ (wdn) ?_ | refine CallG.mk _ (cs) ?_ | refine CallG.mk _ (on1) ?_ | refine CallG.mk _ (on2) ?_ | refine CallG.mk _ (z1) ?_ | refine CallG.mk _ (z2) ?_ | refine CallG.mk _ (wxy) ?_ | refine CallG.mk _ (p3) ?_ | ((with_reducible first | refine Wo (fun K hK => ?_) | refine Wp ?_ | refine Wq ?_ | refine Wr ?_); (try simp only [go_sem, List.forall_mem_nil, ↓guard_ite, ↓pick_ite, seval, encT_eq, inR_i64, e0, e3, e9, e10, e11, e12, e13, e14, s11, s12, s13, s24, s28, s30, s36, s38, q1, q2, decide_eq_true_eq, decide_eq_false_iff_not, Int.ofNat_lt]); (repeat with_reducible refine And.intro (by first | omega | (with_reducible first | exact lens_encT | exact lens_encL | exact lens_encB | exact lens_encP) | (simp; done) | (simp only [List.length_take, List.length_map, List.length_append, maxLen_eq]; omega)) ?_); (try (with_reducible refine hK _ ?_; clear hK K)); (try with_reducible refine ite_conj ?_)))
      refine CallG.mk _ w2 ?_
      refine Wq ?_
      simp only [go_sem, List.forall_mem_nil, ↓guard_ite, ↓pick_ite, seval, encT_eq, inR_i64, e0, e3, e9, e10, e11, e12, e13, e14, s11, s12, s13, s24, s28, s30, s36, s38]
      refine hK _ ?_
      clear hK K
      refine Wb ?_
      refine IWP.mid (fun x => x.env 255 = aBool false ∧ x.env 0 = aInts l ∧ x.env 9 = aStrs row ∧ x.env 10 = aInt n ∧ x.S 36 = none ∧ x.S 38 = none) ?_ rest
      cases ab with
      | false =>
        repeat' (first | (with_reducible first | refine Wa ?_ | refine Wb ?_ | refine Wc ?_ | refine Wd ?_ | refine We ?_ | refine Wf ?_ | refine Wg ?_ | refine Wh ?_ | refine Wi ?_ | refine Wj ?_ | refine Wk (by decide) ?_ | refine Wl ?_ | refine Wm ?_ | refine Wn ?_) | ((with_reducible first | refine Wo (fun K hK => ?_) | refine Wp ?_ | refine Wq ?_ | refine Wr ?_); (try simp only [go_sem, List.forall_mem_nil, ↓guard_ite, ↓pick_ite, seval, encT_eq, inR_i64, e14, decide_eq_true_eq, decide_eq_false_iff_not, Int.ofNat_lt]); (repeat with_reducible refine And.intro (by first | omega | (with_reducible first | exact lens_encT | exact lens_encL | exact lens_encB | exact lens_encP) | (simp; done) | (simp only [List.length_take, List.length_map, List.length_append, maxLen_eq]; omega)) ?_); (try (with_reducible refine hK _ ?_; clear hK K)); (try with_reducible refine ite_conj ?_)))
        refine ⟨rfl, ?_⟩
        simp only [go_sem, List.forall_mem_nil, ↓guard_ite, ↓pick_ite, seval, encT_eq, inR_i64, e0, e9, e10, s36, s38]
      | true =>
        have hxy := hxy rfl
        have hh := h2' rfl
        repeat' (first | (with_reducible first | refine Wa ?_ | refine Wb ?_ | refine Wc ?_ | refine Wd ?_ | refine We ?_ | refine Wf ?_ | refine Wg ?_ | refine Wh ?_ | refine Wi ?_ | refine Wj ?_ | refine Wk (by decide) ?_ | refine Wl ?_ | refine Wm ?_ | refine Wn ?_) | ((with_reducible first | refine Wo (fun K hK => ?_) | refine Wp ?_ | refine Wq ?_ | refine Wr ?_); (try simp only [go_sem, List.forall_mem_nil, ↓guard_ite, ↓pick_ite, seval, encT_eq, inR_i64, e14, hxy, hh, decide_eq_true_eq, decide_eq_false_iff_not, Int.ofNat_lt]); (repeat with_reducible refine And.intro (by first | omega | (with_reducible first | exact lens_encT | exact lens_encL | exact lens_encB | exact lens_encP) | (simp; done) | (simp only [List.length_take, List.length_map, List.length_append, maxLen_eq]; omega)) ?_); (try (with_reducible refine hK _ ?_; clear hK K)); (try with_reducible refine ite_conj ?_)))
        refine ⟨rfl, ?_⟩
        simp only [go_sem, List.forall_mem_nil, ↓guard_ite, ↓pick_ite, seval, encT_eq, inR_i64, e0, e9, e10, s36, s38]
  rintro ⟨env, S⟩ ⟨e255, e0, e9, e10, s36, s38⟩
  simp only at e255 e0 e9 e10 s36 s38
  by_cases hpqe : p = q
  · have hb : p.beq q = true := (Tm.beq_iff p q).2 hpqe
    rw [hb] at hsame
    repeat' (first | (with_reducible first | refine Wa ?_ | refine Wb ?_ | refine Wc ?_ | refine Wd ?_ | refine We ?_ | refine Wf ?_ | refine Wg ?_ | refine Wh ?_ | refine Wi ?_ | refine Wj ?_ | refine Wk (by decide) ?_ | refine Wl ?_ | refine Wm ?_ | refine Wn ?_) | refine CallG.mk _ (cp) ?_ | refine CallG.mk _ (cq) ?_ | refine CallG.mk _ (wpq) ?_ | refine CallG.mk _ (wqp) ?_ | refine CallG.mk _ (hsame) ?_ | ((with_reducible first | refine Wo (fun K hK => ?_) | refine Wp ?_ | refine Wq ?_ | refine Wr ?_); (try simp only [go_sem, List.forall_mem_nil, ↓guard_ite, ↓pick_ite, seval, encT_eq, inR_i64, e0, e9, e10, s36, s38, decide_eq_true_eq, decide_eq_false_iff_not, Int.ofNat_lt]); (repeat with_reducible refine And.intro (by first | omega | (with_reducible first | exact lens_encT | exact lens_encL | exact lens_encB | exact lens_encP) | (simp; done) | (simp only [List.length_take, List.length_map, List.length_append, maxLen_eq]; omega)) ?_); (try (with_reducible refine hK _ ?_; clear hK K)); (try with_reducible refine ite_conj ?_)))
    simp only [go_sem, List.forall_mem_nil, ↓guard_ite, ↓pick_ite, seval, FinQ, AS.result, resAll, resOne, tupV]
  · have hb : p.beq q = false := by rw [← Bool.not_eq_true, Tm.beq_iff]; exact hpqe
    have hpq := hpq hpqe
    rw [hb] at hsame
    repeat' (first | (with_reducible first | refine Wa ?_ | refine Wb ?_ | refine Wc ?_ | refine Wd ?_ | refine We ?_ | refine Wf ?_ | refine Wg ?_ | refine Wh ?_ | refine Wi ?_ | refine Wj ?_ | refine Wk (by decide) ?_ | refine Wl ?_ | refine Wm ?_ | refine Wn ?_) | refine CallG.mk _ (cp) ?_ | refine CallG.mk _ (cq) ?_ | refine CallG.mk _ (wpq) ?_ | refine CallG.mk _ (wqp) ?_ | refine CallG.mk _ (hsame) ?_ | ((with_reducible first | refine Wo (fun K hK => ?_) | refine Wp ?_ | refine Wq ?_ | refine Wr ?_); (try simp only [go_sem, List.forall_mem_nil, ↓guard_ite, ↓pick_ite, seval, encT_eq, inR_i64, e0, e9, e10, s36, s38, hpq, decide_eq_true_eq, decide_eq_false_iff_not, Int.ofNat_lt]); (repeat with_reducible refine And.intro (by first | omega | (with_reducible first | exact lens_encT | exact lens_encL | exact lens_encB | exact lens_encP) | (simp; done) | (simp only [List.length_take, List.length_map, List.length_append, maxLen_eq]; omega)) ?_); (try (with_reducible refine hK _ ?_; clear hK K)); (try with_reducible refine ite_conj ?_)))
    simp only [go_sem, List.forall_mem_nil, ↓guard_ite, ↓pick_ite, seval, FinQ, AS.result, resAll, resOne, tupV]
end Go.Proofs.Ytpajlfdhmjgpnaa

namespace Go.Proofs.Ytpajlfdhmjgpnaa
open Go Go.RowKit Go.ChangeShapes Go.WideShapes Go.ChangeAt
set_option maxHeartbeats 400000
set_option linter.unusedVariables false

/-! ### the row's post -/
section
variable {H : Type} {enc : TypeId × Value → H} {P : Program}
theorem trodAll_stays (hl : laidOutB P = true) : ∀ {ts : List TypeId} {vs : List Value} {ds : List (DataW H)} {ps : List MemPlace} {W W' : World} {sp : Nat → Bool},
    (∀ t ∈ ts, P.readableRec t = true ∧ t < P.types.size) → DataW.TrodAll enc P W 0 (fun _ => true) true ts vs ds ps → (∀ p ∈ ps, W.sameAt W' p) → (∀ p ∈ ps, sp p.block = true) → DataW.TrodAll enc P W' 0 sp true ts vs ds ps
  | [], [], [], _, _, _, _, _, h, _, _ => h
  | _ :: _, _ :: _, _ :: _, _, _, _, _, hT, ⟨p, q, h1, h2, e⟩, hsame, hs => ⟨p, q, WideElems.Trod_stays hl (hT _ (List.mem_cons.2 (Or.inl rfl))).1 (hT _ (List.mem_cons.2 (Or.inl rfl))).2 h1 (fun x hx => hsame x (by rw [e]; exact List.mem_append_left _ hx)) (fun x hx => hs x (by rw [e]; exact List.mem_append_left _ hx)),
      trodAll_stays hl (fun t ht => hT t (List.mem_cons.2 (Or.inr ht))) h2 (fun x hx => hsame x (by rw [e]; exact List.mem_append_right _ hx)) (fun x hx => hs x (by rw [e]; exact List.mem_append_right _ hx)), e⟩
  | [], _ :: _, _, _, _, _, _, _, h, _, _ => h.elim
  | [], [], _ :: _, _, _, _, _, _, h, _, _ => h.elim
  | _ :: _, [], _, _, _, _, _, _, h, _, _ => h.elim
  | _ :: _, _ :: _, [], _, _, _, _, _, h, _, _ => h.elim

/-- A law that answers true, and below whose start nothing has turned. -/
theorem law_post {f : Func} {s : ChangeSpec} {apart fresh handsOn : Bool} {W W' : World} {args : Array Value} {ds : List (DataW H)} {before : List MemPlace} {tb : TypeId}
    (hW : DataW.Whole enc P f.params.toList s.vars apart W args.toList ds [] before) (hv : s.vars = []) (hr : f.resultTypes = #[tb]) (htb : P.underlying tb = some .bool)
    (hres : (s.fn H (ds ++ [])).results = [.lit (.bool true)]) (hargs : (s.fn H (ds ++ [])).args = ds) (hvs : (s.fn H (ds ++ [])).vars = [])
    (hl : laidOutB P = true) (hT : (f.params.toList.all fun t => P.readableRec t && decide (t < P.types.size)) = true) (hb : Below W.heap.size W W') :
    s.post enc P f apart fresh handsOn false W args (.bool true) W' := by
  have hlt : ∀ p ∈ before, p.block < W.heap.size := fun p hp => hW.lt p hp
  have hT' : ∀ t ∈ f.params.toList, P.readableRec t = true ∧ t < P.types.size := fun t ht => by
    have := List.all_eq_true.1 hT t ht
    simpa using this
  obtain ⟨p, q, hA, hV, rfl, hz, hn⟩ := hW
  rw [hv] at hV
  obtain ⟨_, rfl⟩ := trodVars_none hV
  have hargs' : ∀ sp : Nat → Bool, (∀ x ∈ p, sp x.block = true) → DataW.TrodAll enc P W' 0 sp true f.params.toList args.toList ds p := fun sp hsp =>
    trodAll_stays hl hT' hA (fun x hx => hb.same (hlt x (by simpa using hx))) hsp
  have hres' : ∀ (b : Nat) (sp : Nat → Bool) (hd : Bool), DataW.TrodAll enc P W' b sp hd f.resultTypes.toList ((Value.bool true).resultList f.resultTypes.size) (s.fn H (ds ++ [])).results [] := fun b sp hd => by
    rw [hres, hr]
    exact trodAll_cons_mk (shut_bool htb true) trodAll_mk0
  refine ⟨ds, [], p ++ [], [], p, [], ⟨p, [], hA, by rw [hv]; exact rfl, rfl, hz, hn⟩, hres' _ _ _, by rw [hargs]; exact hargs' _ (fun x hx => by simpa using hlt x (by simpa using hx)), by rw [hv, hvs]; exact rfl,
    World.keptBut_mono (fun x hx => ⟨hx, Or.inr (by simpa using hx)⟩) (hb.frame (· ∈ p ++ [])), fun h => by cases h⟩

/-! ### opening what comes in: the store is all of memory -/
variable {W : World} {sp : Nat → Bool} {hd : Bool} {base : Nat}
def sto (W : World) : Sto := look W
theorem fit_sto (W : World) : Fit (sto W) W := fun _ _ h => h

theorem spot_none {W : World} {a : Addr} {v : Value} (h : W.cell? a = some v) : a.spot = none := by
  cases hs : a.spot with
  | none => rfl
  | some n =>
    unfold World.cell? at h
    split at h
    · simp [hs] at h
    · cases h
theorem choose_list {α : Type} {p : Nat → α → Prop} {n : Nat} (h : ∀ i, i < n → ∃ b, p i b) : ∃ xs : List α, xs.length = n ∧ ∀ i (h : i < xs.length), p i xs[i] := by
  induction n with
  | zero => exact ⟨[], rfl, fun i h => absurd h (by simp)⟩
  | succ m ih =>
    obtain ⟨xs, h1, h2⟩ := ih (fun i hi => h i (by omega))
    obtain ⟨b, h3⟩ := h m (by omega)
    refine ⟨xs ++ [b], by simp [h1], fun i hi => ?_⟩
    by_cases him : i < xs.length
    · rw [List.getElem_append_left him]
      exact h2 i him
    · have : i = xs.length := by simp at hi; omega
      subst this
      rw [show (xs ++ [b])[xs.length]'hi = b by simp, h1]
      exact h3
/-- A struct of two fields. -/
theorem trod_two {t : TypeId} {f0 f1 : Field} {k0 k1 : Nat} {fuel : Nat} {cs : List Value} {x : DataW H × List MemPlace} (hs : P.underlying t = some (.struct #[f0, f1])) (o0 : f0.offset = 0) (o1 : f1.offset = k0)
    (h0 : P.cellsOf f0.type = k0) (h1 : P.cellsOf f1.type = k1) (hC : P.cellsOf t = k0 + k1) (h : DataW.trod enc P W base sp hd fuel t cs = some x) :
    ∃ (a b : List Value) (y0 y1 : DataW H × List MemPlace) (n : Nat), fuel = n + 1 ∧ cs = a ++ b ∧ DataW.trod enc P W base sp hd n f0.type a = some y0 ∧ DataW.trod enc P W base sp hd n f1.type b = some y1 := by
  obtain ⟨ys, n, hn, _, hlen, hyl, hf⟩ := DataW.trod_struct hs h
  match ys, hyl with
  | [y0, y1], _ =>
  have g0 := hf 0 f0 rfl
  have g1 := hf 1 f1 rfl
  rw [o0, h0, List.drop_zero] at g0
  rw [o1, h1, List.take_of_length_le (by rw [List.length_drop]; omega)] at g1
  exact ⟨_, _, y0, y1, n, hn, (List.take_append_drop k0 cs).symm, g0, g1⟩
/-- A struct of three fields. -/
theorem trod_three {t : TypeId} {f0 f1 f2 : Field} {k0 k1 k2 : Nat} {fuel : Nat} {cs : List Value} {x : DataW H × List MemPlace} (hs : P.underlying t = some (.struct #[f0, f1, f2])) (o0 : f0.offset = 0) (o1 : f1.offset = k0) (o2 : f2.offset = k0 + k1)
    (h0 : P.cellsOf f0.type = k0) (h1 : P.cellsOf f1.type = k1) (h2 : P.cellsOf f2.type = k2) (hC : P.cellsOf t = k0 + k1 + k2) (h : DataW.trod enc P W base sp hd fuel t cs = some x) :
    ∃ (a b c : List Value) (y0 y1 y2 : DataW H × List MemPlace) (n : Nat), fuel = n + 1 ∧ cs = a ++ (b ++ c) ∧ DataW.trod enc P W base sp hd n f0.type a = some y0 ∧ DataW.trod enc P W base sp hd n f1.type b = some y1 ∧ DataW.trod enc P W base sp hd n f2.type c = some y2 := by
  obtain ⟨ys, n, hn, _, hlen, hyl, hf⟩ := DataW.trod_struct hs h
  match ys, hyl with
  | [y0, y1, y2], _ =>
  have g0 := hf 0 f0 rfl
  have g1 := hf 1 f1 rfl
  have g2 := hf 2 f2 rfl
  rw [o0, h0, List.drop_zero] at g0
  rw [o1, h1] at g1
  rw [o2, h2, List.take_of_length_le (by rw [List.length_drop]; omega), ← List.drop_drop] at g2
  exact ⟨_, _, _, y0, y1, y2, n, hn, by rw [List.take_append_drop, List.take_append_drop], g0, g1, g2⟩
/-- A slice, its elements opened by f. -/
theorem list_of_trod {α : Type} {e0 : α → List SV} {t e : TypeId} {k : Nat} {fuel : Nat} {cs : List Value} {x : DataW H × List MemPlace} (ht : P.underlying t = some (.slice e)) (hc : P.cellsOf e = k) (hlen : ∀ a, (e0 a).length = k) (hk : 0 < k)
    (f : ∀ (n : Nat) (cs : List Value) (y : DataW H × List MemPlace), n < fuel → DataW.trod enc P W base sp hd n e cs = some y → ∃ a : α, All2 (SRep (sto W)) cs (e0 a))
    (h : DataW.trod enc P W base sp hd fuel t cs = some x) (hs : hardRows = true → k < 2 := by decide) : ∃ xs : List α, All2 (SRep (sto W)) cs [.list (xs.map e0)] := by
  rcases DataW.trod_slice ht h with ⟨rfl, _⟩ | ⟨a, len, cap, elems, rest, n, hfu, rfl, _, hb, hl, hm, hlen', hel, _, _⟩
  · exact ⟨[], .cons srep_nil .nil⟩
  · have key : ∀ i, i < len → ∃ (b : α), ∃ (cs' : List Value), cs'.length = k ∧ (∀ j u, cs'[j]? = some u → W.cell? ((a.add (i * k)).add j) = some u) ∧ All2 (SRep (sto W)) cs' (e0 b) := fun i hi => by
      have h1 := hel i hi
      rw [List.getElem?_eq_getElem (by omega)] at h1
      obtain ⟨cs', h2, h3⟩ := Option.bind_eq_some_iff.1 h1
      obtain ⟨_, h4, h5⟩ := World.cells?_some h2
      obtain ⟨b, hb⟩ := f n cs' _ (by omega) h3
      rw [hc] at h4 h5
      refine ⟨b, cs', h4, fun j u hj => ?_, hb⟩
      rw [h5 j (by have := (List.getElem?_eq_some_iff.1 hj).1; omega)]
      exact hj
    obtain ⟨xs, hxl, hxs⟩ : ∃ xs : List α, xs.length = len ∧ ∀ i (h : i < xs.length), ∃ cs' : List Value, cs'.length = k ∧ (∀ j u, cs'[j]? = some u → W.cell? ((a.add (i * k)).add j) = some u) ∧ All2 (SRep (sto W)) cs' (e0 xs[i]) := choose_list key
    have cell : ∀ m y j z, (xs.map e0)[m]? = some y → y[j]? = some z → ∃ v, W.cell? ⟨a.block, a.off + m * k + j, none⟩ = some v ∧ SRep (sto W) v z := fun m y j z hy hz => by
      rw [List.getElem?_map, Option.map_eq_some_iff] at hy
      obtain ⟨b, hb', rfl⟩ := hy
      obtain ⟨hm', hbe⟩ := List.getElem?_eq_some_iff.1 hb'
      obtain ⟨cs', c1, c2, c3⟩ := hxs m hm'
      rw [hbe] at c3
      obtain ⟨v, v1, v2⟩ := c3.get hz
      refine ⟨v, ?_, v2⟩
      have := c2 j v v1
      have hsp := spot_none this
      rw [← this]
      congr 1
      have h7 : ((a.add (m * k)).add j).block = a.block ∧ ((a.add (m * k)).add j).off = a.off + m * k + j := by
        unfold Addr.add
        split <;> split <;> simp_all
      generalize (a.add (m * k)).add j = q at *
      cases q
      simp_all
    refine ⟨xs, .cons (.list (b := a.block) (o := a.off) (w := k) (fun m j => (W.cell? ⟨a.block, a.off + m * k + j, none⟩).getD undef) (by simp [hxl]) hl hm (by simp) (fun h0 => ?_) (fun y hy => ?_) (fun q1 q2 _ => absurd (hs q1) (by omega)) (fun m y j z hy hz => ?_) (fun m y j z hy hz => ?_)) .nil⟩
    · obtain ⟨cs', h1, h2, h3⟩ := hxs 0 (by omega)
      have h4 : W.cell? a = some (cs'[0]'(by omega)) := by
        have := h2 0 _ (List.getElem?_eq_getElem (by omega))
        simpa [Addr.add] using this
      have := spot_none h4
      cases a
      simp_all
    · obtain ⟨b, _, rfl⟩ := List.mem_map.1 hy
      exact hlen b
    · obtain ⟨v, v1, v2⟩ := cell m y j z hy hz
      show W.cell? _ = _
      rw [v1]; rfl
    · obtain ⟨v, v1, v2⟩ := cell m y j z hy hz
      rw [v1]; exact v2
theorem int_trod {t : TypeId} (ht : P.underlying t = some (.int .i64)) (fuel : Nat) (cs : List Value) (x : DataW H × List MemPlace) (h : DataW.trod enc P W base sp hd fuel t cs = some x) : ∃ n : Int, All2 (SRep (sto W)) cs (encI n) := by
  obtain ⟨n, rfl, _, hn⟩ := DataW.trod_int ht h
  exact ⟨n, .cons (.int (by rw [inR_i64]; simpa [Lit.wf, IntKind.min, IntKind.max, IntKind.signed, IntKind.bits] using hn)) .nil⟩
theorem str_trod {t : TypeId} (ht : P.underlying t = some .string) (fuel : Nat) (cs : List Value) (x : DataW H × List MemPlace) (h : DataW.trod enc P W base sp hd fuel t cs = some x) : ∃ s : ByteArray, All2 (SRep (sto W)) cs (encS s) := by
  obtain ⟨s, rfl, _, hs⟩ := DataW.trod_string ht h
  exact ⟨s, .cons (.str hs) .nil⟩

/-! ### arguments -/
theorem arg_int {t : TypeId} (ht : P.underlying t = some (.int .i64)) {r : Reach} {b0 : Nat} {v : Value} {d : DataW H} {p : List MemPlace} (hv : Value.okWide P W r b0 t v) (h : DataW.Trod enc P W base sp hd t v d p) : ∃ n : Int, VRep (sto W) noS noH v (aInt n) := by
  obtain ⟨n, rfl⟩ := okWide_int ht hv
  obtain ⟨fuel, hf⟩ := h
  obtain ⟨m, hm⟩ := int_trod ht fuel _ _ hf
  have : All2 (SRep (sto W)) [.int .i64 n] (encI m) := hm
  cases this with
  | cons h1 h2 => exact ⟨m, .one (.st h1)⟩
theorem arg_str {t : TypeId} (ht : P.underlying t = some .string) {r : Reach} {b0 : Nat} {v : Value} {d : DataW H} {p : List MemPlace} (hv : Value.okWide P W r b0 t v) (h : DataW.Trod enc P W base sp hd t v d p) : ∃ s : ByteArray, VRep (sto W) noS noH v (aStr s) := by
  obtain ⟨s, rfl⟩ := okWide_string ht hv
  obtain ⟨fuel, hf⟩ := h
  obtain ⟨s', hs⟩ := str_trod ht fuel _ _ hf
  have : All2 (SRep (sto W)) [.string s] (encS s') := hs
  cases this with
  | cons h1 h2 => exact ⟨s', .one (.st h1)⟩
/-- An argument that is a slice. -/
theorem arg_list {α : Type} {e0 : α → List SV} {t e : TypeId} {k : Nat} (ht : P.underlying t = some (.slice e)) (hc : P.cellsOf e = k) (hlen : ∀ a, (e0 a).length = k) (hk : 0 < k) {r : Reach} {b0 : Nat} {v : Value} {d : DataW H} {p : List MemPlace} (hv : Value.okWide P W r b0 t v)
    (f : ∀ (n : Nat) (cs : List Value) (y : DataW H × List MemPlace), DataW.trod enc P W base sp hd n e cs = some y → ∃ a : α, All2 (SRep (sto W)) cs (e0 a)) (h : DataW.Trod enc P W base sp hd t v d p) (hs : hardRows = true → k < 2 := by decide) : ∃ xs : List α, VRep (sto W) noS noH v (.one (.st (.list (xs.map e0)))) := by
  obtain ⟨a, len, cap, rfl⟩ := okWide_slice ht hv
  obtain ⟨fuel, hf⟩ := h
  obtain ⟨xs, hxs⟩ := list_of_trod ht hc hlen hk (fun n cs y _ hy => f n cs y hy) hf hs
  have : All2 (SRep (sto W)) [.slice a len cap] [.list (xs.map e0)] := hxs
  cases this with
  | cons h1 h2 => exact ⟨xs, .one (.st h1)⟩
/-- An argument that is a struct. -/
theorem arg_struct {α : Type} {e0 : α → List SV} {t : TypeId} {fs : Array Field} (ht : P.underlying t = some (.struct fs)) {r : Reach} {b0 : Nat} {v : Value} {d : DataW H} {p : List MemPlace} (hv : Value.okWide P W r b0 t v)
    (f : ∀ (n : Nat) (cs : List Value) (y : DataW H × List MemPlace), DataW.trod enc P W base sp hd n t cs = some y → ∃ a : α, All2 (SRep (sto W)) cs (e0 a)) (h : DataW.Trod enc P W base sp hd t v d p) : ∃ a : α, VRep (sto W) noS noH v (.agg ((e0 a).map .st)) := by
  obtain ⟨cs, rfl, hsz⟩ := okWide_struct ht hv
  obtain ⟨fuel, hf⟩ := h
  obtain ⟨a, ha⟩ := f fuel _ _ hf
  exact ⟨a, .agg ((All2.mono (fun _ _ h => .st h) ha).map_right)⟩
end
theorem globIn_nil {σ : Sto} (h : globs = [] := by rfl) : GlobIn σ := fun x hx => by simp [h] at hx
theorem acalls_true {P : Program} {f : FuncId} {xs : List AV} {b : Bool} (h : ACalls P f xs (aBool b)) {σ : Sto} {w : World} {vs : List Value} (hg : GlobIn σ) (hf : Fit σ w) (hv : All2 (VRep σ noS noH) vs xs) :
    Calls P f vs.toArray w fun e w' => e = .returned (.bool b) ∧ Below w.heap.size w w' := (h σ w vs hg hf hv).mono fun e w' ⟨v, σ', he, hv, _, _, hb⟩ => by
  rw [vrep_bool hv] at he
  exact ⟨he, hb⟩
end Go.Proofs.Ytpajlfdhmjgpnaa

namespace Go.Proofs.Ytpajlfdhmjgpnaa
open Go Go.RowKit Go.ChangeShapes Go.WideShapes Go.ChangeAt
set_option maxHeartbeats 400000
set_option linter.unusedVariables false

section
variable {H : Type} {enc : TypeId × Value → H} {W : World} {sp : Nat → Bool} {hd : Bool} {base : Nat}
set_option maxRecDepth 100000 in
/-- An argument that is a slice of ints. -/
theorem arg_ints {r : Reach} {b0 : Nat} {v : Value} {d : DataW H} {p : List MemPlace} (hv : Value.okWide Try.prog W r b0 37 v) (h : DataW.Trod enc Try.prog W base sp hd 37 v d p) : ∃ l : List Int, VRep (sto W) noS noH v (aInts l) :=
  arg_list (k := 1) Try.underlying37 (by kernel_rfl) (fun _ => rfl) (by decide) hv (int_trod Try.underlying3) h
end
end Go.Proofs.Ytpajlfdhmjgpnaa

namespace Go.Proofs.Ytpajlfdhmjgpnaa.topPath
open Go Go.RowKit Go.ChangeShapes Go.WideShapes Go.ChangeAt
set_option linter.unusedVariables false

theorem own : ownKnob Try.prog.godebug = none := by kernel_rfl
theorem laid : laidOutB Try.prog = true := by kernel_rfl

set_option maxRecDepth 100000 in
/-- What the walk gives. -/
theorem contract (H : Type) (enc : TypeId × Value → H) (W : World) (base : Nat) (args : Array Value) (ds gs : List (DataW H)) (before : List MemPlace)
    (hval : ∀ (j : Nat) t v, Try.f9.params[j]? = some t → args[j]? = some v → Value.okWide Try.prog W .any base t v)
    (hW : DataW.Whole enc Try.prog Try.f9.params.toList Rows.topPathSpec.vars false W args.toList ds gs before) :
    Calls Try.prog 9 args W fun e W' => ∃ v, e = .returned v ∧ Rows.topPathSpec.post enc Try.prog Try.f9 false true false false W args v W' := by
  obtain ⟨p, q, hA0, hV, rfl, hfz, hnd⟩ := id hW
  obtain ⟨rfl, rfl⟩ := trodVars_none hV
  have hA : DataW.TrodAll enc Try.prog W 0 (fun _ => true) true Try.f9.params.toList args.toList ds p := hA0
  rw [Try.params9] at hA hval
  obtain ⟨v0, v1, v2, v3, d0, d1, d2, d3, p0, p1, p2, p3, hargs, rfl, rfl, h0, h1, h2, h3⟩ := trodAll_four hA
  obtain rfl : args = #[v0, v1, v2, v3] := by cases args; simp_all
  obtain ⟨l, r0⟩ := arg_ints (hval 0 37 v0 rfl rfl) h0
  obtain ⟨m1, r1⟩ := arg_int Try.underlying3 (hval 1 3 v1 rfl rfl) h1
  obtain ⟨m2, r2⟩ := arg_int Try.underlying3 (hval 2 3 v2 rfl rfl) h2
  obtain ⟨m3, r3⟩ := arg_int Try.underlying3 (hval 3 3 v3 rfl rfl) h3
  have k0 := known_ints r0.known
  refine (acalls_true (topPath_a l m1 m2 m3 k0.2 k0.1 r1.known r2.known r3.known) globIn_nil (fit_sto W) (vs := [v0, v1, v2, v3]) (.cons r0 (.cons r1 (.cons r2 (.cons r3 .nil))))).mono fun e W' ⟨he, hb⟩ => ⟨_, he, ?_⟩
  exact law_post hW rfl rfl Try.underlying4 rfl rfl rfl laid (by kernel_rfl) hb

set_option maxRecDepth 100000 in
theorem lifted (os : Os) (started : os.Started) (H : Type) (enc : TypeId × Value → H) :
    ReturnsInHanded {} Try.checked os 9 .any (Rows.topPathSpec.pre6 enc Try.prog Try.f9 Rows.topPathRow.domain false) (Rows.topPathSpec.post enc Try.prog Try.f9 false true false false) := by
  refine returnsInHanded_of_change (C := Try.checked) own started (by kernel_rfl) Try.func9
    (ChangeSpec.witness6 (enc := enc) (C := Try.checked) false ⟨#[], #[.slice none 0 0, .int .i64 0, .int .i64 0, .int .i64 0], []⟩ 8 (by kernel_rfl) (by kernel_rfl) (by kernel_rfl) (by kernel_rfl)) ?_
  intro W base args ds gs before hval hW _ _
  exact contract H enc W base args ds gs before hval hW

theorem proved : Rows.TopPathSaid :=
  OpenClaim.holds_of_wide 9 Try.f9 rfl rfl rfl rfl rfl rfl rfl ⟨rfl, rfl, rfl, rfl, rfl⟩ rfl rfl rfl rfl rfl (by kernel_rfl) Try.func9 (by kernel_rfl)
    (of_decide_eq_true (by kernel_rfl)) (by unfold Func.isWrapper; first | (rw [if_pos (by decide +kernel)]; kernel_rfl) | (rw [if_neg (by decide +kernel)]; exact ⟨rfl, rfl⟩))
    (fun os started H enc _ => lifted os started H enc)
end Go.Proofs.Ytpajlfdhmjgpnaa.topPath
