/-
  The program's functions in abstract operations: written by a program of mine out of the translation; each is shown to be the translation's.
  Conditions: none.
-/
import Derived.Test.YtpajlfdhmjgpnaaBMadeB
namespace Go.Proofs.Ytpajlfdhmjgpnaa
open Go Go.RowKit
set_option maxRecDepth 100000

def ir_metaprunetop_TopWeight : IR :=
  (.seq
  (.ops
  [.mk (some 8) none (.mov (.c (.one (.st (.bool false)))))
  .no])
  (.seq
  (.seq
  (.ops
  [.mk (some 41) none (.mov (.t 0)) .no, .mk (some 42) none (.len false (.t 41)) .no, .mk (some 43) none (.bin .gtr (.t 42) (.c (.one (.st (.int .i64 256)))))
  .no])
  (.cond (.t 43)
  (.seq
  (.ops
  [.mk (some 8) none (.mov (.c (.one (.st (.bool true)))))
  .no])
  .ret)
  .skip))
  (.seq
  (.ops
  [.mk (some 44) none (.mov (.t 1)) .no, .mk (some 45) none (.call 34 [.t 44]) .no, .mk (some 9) none (.mov (.t 45)) .no])
  (.seq
  (.ops
  [.mk (some 46) none (.mov (.t 2)) .no, .mk (some 47) none (.call 20
  [.t 46, .c (.one (.st (.int .i64 9)))])
  .no, .mk (some 48) none (.bin .add (.c (.one (.st (.int .i64 1)))) (.t 47))
  .no, .mk (some 10) none (.mov (.t 48)) .no])
  (.seq
  (.ops
  [.mk (some 49) none (.mov (.t 0)) .no, .mk (some 50) none (.mov (.t 10)) .no, .mk (some 51) none (.call 19
  [.t 49, .c (.one (.st (.int .i64 0))), .t 50, .c (.one (.st (.int .i64 2)))])
  .no, .mk (some 11) none
  (.alloc 24 [.st (.str (ByteArray.mk (#[]))), .full []])
  .no, .mk none none (.store 2 (.t 11) (.t 51)) .no])
  (.seq
  (.ops
  [.mk (some 52) none (.mov (.t 0)) .no, .mk (some 53) none (.mov (.t 10)) .no, .mk (some 54) none (.call 19
  [.t 52, .c (.one (.st (.int .i64 30))), .t 53, .c (.one (.st (.int .i64 2)))])
  .no, .mk (some 12) none
  (.alloc 24 [.st (.str (ByteArray.mk (#[]))), .full []])
  .no, .mk none none (.store 2 (.t 12) (.t 54)) .no])
  (.seq
  (.ops
  [.mk (some 55) none (.mov (.t 0)) .no, .mk (some 56) none (.mov (.t 10)) .no, .mk (some 57) none (.call 19
  [.t 55, .c (.one (.st (.int .i64 60))), .t 56, .c (.one (.st (.int .i64 2)))])
  .no, .mk (some 13) none
  (.alloc 24 [.st (.str (ByteArray.mk (#[]))), .full []])
  .no, .mk none none (.store 2 (.t 13) (.t 57)) .no])
  (.seq
  (.ops
  [.mk (some 59) none (.mov (.t 9)) .no, .mk (some 60) none (.load true 2 (.t 11)) .no, .mk (some 61) none (.load true 2 (.t 12)) .no, .mk (some 62) none (.call 32 [.t 59, .t 60, .t 61]) .no, .mk (some 58) none (.mov (.t 62)) .no, .mk (some 63) none (.extract 0 (.t 58)) .no, .mk (some 64) none (.extract 1 (.t 58)) .no, .mk (some 14) none (.mov (.t 63)) .no, .mk (some 15) none (.mov (.t 64)) .no])
  (.seq
  (.ops
  [.mk (some 66) none (.mov (.t 9)) .no, .mk (some 67) none (.load true 2 (.t 12)) .no, .mk (some 68) none (.load true 2 (.t 13)) .no, .mk (some 69) none (.call 32 [.t 66, .t 67, .t 68]) .no, .mk (some 65) none (.mov (.t 69)) .no, .mk (some 70) none (.extract 0 (.t 65)) .no, .mk (some 71) none (.extract 1 (.t 65)) .no, .mk (some 16) none (.mov (.t 70)) .no, .mk (some 17) none (.mov (.t 71)) .no])
  (.seq
  (.ops
  [.mk (some 73) none (.mov (.t 9)) .no, .mk (some 74) none (.load true 2 (.t 11)) .no, .mk (some 75) none (.load true 2 (.t 13)) .no, .mk (some 76) none (.call 32 [.t 73, .t 74, .t 75]) .no, .mk (some 72) none (.mov (.t 76)) .no, .mk (some 77) none (.extract 0 (.t 72)) .no, .mk (some 78) none (.extract 1 (.t 72)) .no, .mk (some 18) none (.mov (.t 77)) .no, .mk (some 19) none (.mov (.t 78)) .no])
  (.seq
  (.ops
  [.mk (some 80) none (.mov (.t 9)) .no, .mk (some 81) none (.load true 2 (.t 12)) .no, .mk (some 82) none (.load true 2 (.t 11)) .no, .mk (some 83) none (.call 32 [.t 80, .t 81, .t 82]) .no, .mk (some 79) none (.mov (.t 83)) .no, .mk (some 84) none (.extract 0 (.t 79)) .no, .mk (some 85) none (.extract 1 (.t 79)) .no, .mk (some 20) none (.mov (.t 84)) .no, .mk (some 21) none (.mov (.t 85)) .no])
  (.seq
  (.ops
  [.mk (some 87) none (.mov (.t 9)) .no, .mk (some 88) none (.load true 2 (.t 11)) .no, .mk (some 89) none (.load true 2 (.t 11)) .no, .mk (some 90) none (.call 32 [.t 87, .t 88, .t 89]) .no, .mk (some 86) none (.mov (.t 90)) .no, .mk (some 91) none (.extract 0 (.t 86)) .no, .mk (some 92) none (.extract 1 (.t 86)) .no, .mk (some 22) none (.mov (.t 91)) .no, .mk (some 23) none (.mov (.t 92)) .no])
  (.seq
  (.seq
  (.ops
  [.mk (some 93) none (.mov (.t 15)) .no, .mk (some 94) none (.bin .neq (.t 93) (.c (.one (.st (.int .i64 0)))))
  .no, .mk (some 95) none (.mov (.t 94)) .no, .mk (some 96) (some (95, false)) (.mov (.t 17)) .no, .mk (some 97) (some (95, false)) (.bin .neq (.t 96) (.c (.one (.st (.int .i64 0)))))
  .no, .mk (some 98) none
  (.pick (.t 95) (.c (.one (.st (.bool true)))) (.t 97))
  .no, .mk (some 99) none (.mov (.t 98)) .no, .mk (some 100) (some (99, false)) (.mov (.t 19)) .no, .mk (some 101) (some (99, false)) (.bin .neq (.t 100) (.c (.one (.st (.int .i64 0)))))
  .no, .mk (some 102) none
  (.pick (.t 99) (.c (.one (.st (.bool true)))) (.t 101))
  .no, .mk (some 103) none (.mov (.t 102)) .no, .mk (some 104) (some (103, false)) (.mov (.t 21)) .no, .mk (some 105) (some (103, false)) (.bin .neq (.t 104) (.c (.one (.st (.int .i64 0)))))
  .no, .mk (some 106) none
  (.pick (.t 103) (.c (.one (.st (.bool true)))) (.t 105))
  .no, .mk (some 107) none (.mov (.t 106)) .no, .mk (some 108) (some (107, false)) (.mov (.t 23)) .no, .mk (some 109) (some (107, false)) (.bin .neq (.t 108) (.c (.one (.st (.int .i64 0)))))
  .no, .mk (some 110) none
  (.pick (.t 107) (.c (.one (.st (.bool true)))) (.t 109))
  .no, .mk (some 111) none (.mov (.t 110)) .no, .mk (some 112) (some (111, false)) (.mov (.t 22)) .no, .mk (some 113) none
  (.pick (.t 111) (.c (.one (.st (.bool true)))) (.t 112))
  .no, .mk (some 114) none (.mov (.t 113)) .no, .mk (some 115) (some (114, false)) (.mov (.t 14)) .no, .mk (some 116) (some (114, false)) (.mov (.t 115)) .no, .mk (some 117) (some (116, true)) (.mov (.t 20)) .no, .mk (some 118) (some (114, false))
  (.pick (.t 116) (.t 117) (.c (.one (.st (.bool false)))))
  .no, .mk (some 119) none
  (.pick (.t 114) (.c (.one (.st (.bool true)))) (.t 118))
  .no, .mk (some 120) none (.mov (.t 119)) .no, .mk (some 121) (some (120, false)) (.mov (.t 14)) .no, .mk (some 122) (some (120, false)) (.mov (.t 121)) .no, .mk (some 123) (some (122, true)) (.mov (.t 16)) .no, .mk (some 124) (some (120, false))
  (.pick (.t 122) (.t 123) (.c (.one (.st (.bool false)))))
  .no, .mk (some 125) (some (120, false)) (.mov (.t 124)) .no, .mk (some 126) (some (125, true)) (.mov (.t 18)) .no, .mk (some 127) (some (125, true)) (.un .not (.t 126))
  .no, .mk (some 128) (some (120, false))
  (.pick (.t 125) (.t 127) (.c (.one (.st (.bool false)))))
  .no, .mk (some 129) none
  (.pick (.t 120) (.c (.one (.st (.bool true)))) (.t 128))
  .no])
  (.cond (.t 129)
  (.seq
  (.ops
  [.mk (some 8) none (.mov (.c (.one (.st (.bool false)))))
  .no])
  .ret)
  .skip))
  (.seq
  (.ops
  [.mk (some 130) none (.call 25
  [.c (.one (.st (.str (ByteArray.mk (#[99])))))])
  .no, .mk (some 131) none (.load true 2 (.t 11)) .no, .mk (some 132) none
  (.buildSlice false 24 2 [.t 130, .t 131]) .no, .mk (some 133) none
  (.build [.st (.str (ByteArray.mk (#[]))), .full []]
  [(0, 1, .c (.one (.st (.str (ByteArray.mk (#[102])))))),
  (1, 1, .t 132)])
  .no, .mk (some 24) none
  (.alloc 24 [.st (.str (ByteArray.mk (#[]))), .full []])
  .no, .mk none none (.store 2 (.t 24) (.t 133))
  .no])
  (.seq
  (.ops
  [.mk (some 135) none (.mov (.t 9)) .no, .mk (some 136) none (.load true 2 (.t 24)) .no, .mk (some 137) none (.load true 2 (.t 11)) .no, .mk (some 138) none (.call 32 [.t 135, .t 136, .t 137]) .no, .mk (some 134) none (.mov (.t 138)) .no, .mk (some 139) none (.extract 0 (.t 134)) .no, .mk (some 140) none (.extract 1 (.t 134)) .no, .mk (some 25) none (.mov (.t 139)) .no, .mk (some 15) none (.mov (.t 140)) .no])
  (.seq
  (.seq
  (.ops
  [.mk (some 141) none (.mov (.t 15)) .no, .mk (some 142) none (.bin .neq (.t 141) (.c (.one (.st (.int .i64 0)))))
  .no, .mk (some 143) none (.mov (.t 142)) .no, .mk (some 144) (some (143, false)) (.mov (.t 25))
  .no, .mk (some 145) (some (143, false)) (.un .not (.t 144))
  .no, .mk (some 146) none
  (.pick (.t 143) (.c (.one (.st (.bool true)))) (.t 145))
  .no])
  (.cond (.t 146)
  (.seq
  (.ops
  [.mk (some 8) none (.mov (.c (.one (.st (.bool false)))))
  .no])
  .ret)
  .skip))
  (.seq
  (.ops
  [.mk (some 147) none (.mov (.t 0)) .no, .mk (some 148) none (.call 22
  [.t 147, .c (.one (.st (.int .i64 90))), .c (.one (.st (.int .i64 3))), .c (.one (.st (.int .i64 2)))])
  .no, .mk (some 26) none (.mov (.t 148)) .no])
  (.seq
  (.ops
  [.mk (some 150) none (.mov (.t 26)) .no, .mk (some 151) none (.load true 2 (.t 11)) .no, .mk (some 152) none (.call 21 [.t 150, .t 151])
  .no, .mk (some 149) none (.mov (.t 152)) .no, .mk (some 153) none (.extract 0 (.t 149)) .no, .mk (some 154) none (.extract 1 (.t 149)) .no, .mk (some 27) none
  (.alloc 24 [.st (.str (ByteArray.mk (#[]))), .full []])
  .no, .mk none none (.store 2 (.t 27) (.t 153))
  .no, .mk (some 28) none (.mov (.t 154)) .no])
  (.seq
  (.ops
  [.mk (some 156) none (.mov (.t 26)) .no, .mk (some 157) none (.load true 2 (.t 12)) .no, .mk (some 158) none (.call 21 [.t 156, .t 157])
  .no, .mk (some 155) none (.mov (.t 158)) .no, .mk (some 159) none (.extract 0 (.t 155)) .no, .mk (some 160) none (.extract 1 (.t 155)) .no, .mk (some 29) none
  (.alloc 24 [.st (.str (ByteArray.mk (#[]))), .full []])
  .no, .mk none none (.store 2 (.t 29) (.t 159))
  .no, .mk (some 30) none (.mov (.t 160)) .no])
  (.seq
  (.seq
  (.ops
  [.mk (some 161) none (.mov (.t 28)) .no, .mk (some 162) none (.un .not (.t 161))
  .no, .mk (some 163) none (.mov (.t 162)) .no, .mk (some 164) (some (163, false)) (.mov (.t 30))
  .no, .mk (some 165) (some (163, false)) (.un .not (.t 164))
  .no, .mk (some 166) none
  (.pick (.t 163) (.c (.one (.st (.bool true)))) (.t 165))
  .no, .mk (some 167) none (.mov (.t 166)) .no, .mk (some 168) (some (167, false)) (.load true 2 (.t 27))
  .no, .mk (some 169) (some (167, false)) (.call 23
  [.t 168, .c (.one (.st (.int .i64 200)))])
  .no, .mk (some 170) (some (167, false)) (.bin .gtr (.t 169) (.c (.one (.st (.int .i64 200)))))
  .no, .mk (some 171) none
  (.pick (.t 167) (.c (.one (.st (.bool true)))) (.t 170))
  .no, .mk (some 172) none (.mov (.t 171)) .no, .mk (some 173) (some (172, false)) (.load true 2 (.t 29))
  .no, .mk (some 174) (some (172, false)) (.call 23
  [.t 173, .c (.one (.st (.int .i64 200)))])
  .no, .mk (some 175) (some (172, false)) (.bin .gtr (.t 174) (.c (.one (.st (.int .i64 200)))))
  .no, .mk (some 176) none
  (.pick (.t 172) (.c (.one (.st (.bool true)))) (.t 175))
  .no])
  (.cond (.t 176)
  (.seq
  (.ops
  [.mk (some 8) none (.mov (.c (.one (.st (.bool true)))))
  .no])
  .ret)
  .skip))
  (.seq
  (.ops
  [.mk (some 178) none (.mov (.t 9)) .no, .mk (some 179) none (.load true 2 (.t 27))
  .no, .mk (some 180) none (.load true 2 (.t 29))
  .no, .mk (some 181) none (.call 32 [.t 178, .t 179, .t 180])
  .no, .mk (some 177) none (.mov (.t 181)) .no, .mk (some 182) none (.extract 0 (.t 177)) .no, .mk (some 183) none (.extract 1 (.t 177)) .no, .mk (some 31) none (.mov (.t 182)) .no, .mk (some 15) none (.mov (.t 183)) .no])
  (.seq
  (.ops
  [.mk (some 184) none (.load true 2 (.t 11))
  .no, .mk (some 185) none (.load true 2 (.t 13))
  .no, .mk (some 186) none
  (.buildSlice false 24 2 [.t 184, .t 185]) .no, .mk (some 187) none
  (.build [.st (.str (ByteArray.mk (#[]))), .full []]
  [(0, 1, .c (.one (.st (.str (ByteArray.mk (#[102])))))),
  (1, 1, .t 186)])
  .no, .mk (some 188) none (.load true 2 (.t 12))
  .no, .mk (some 189) none (.load true 2 (.t 13))
  .no, .mk (some 190) none
  (.buildSlice false 24 2 [.t 188, .t 189]) .no, .mk (some 191) none
  (.build [.st (.str (ByteArray.mk (#[]))), .full []]
  [(0, 1, .c (.one (.st (.str (ByteArray.mk (#[102])))))),
  (1, 1, .t 190)])
  .no, .mk (some 192) none (.load true 2 (.t 13))
  .no, .mk (some 193) none (.load true 2 (.t 11))
  .no, .mk (some 194) none
  (.buildSlice false 24 2 [.t 192, .t 193]) .no, .mk (some 195) none
  (.build [.st (.str (ByteArray.mk (#[]))), .full []]
  [(0, 1, .c (.one (.st (.str (ByteArray.mk (#[103])))))),
  (1, 1, .t 194)])
  .no, .mk (some 196) none (.load true 2 (.t 13))
  .no, .mk (some 197) none (.load true 2 (.t 12))
  .no, .mk (some 198) none
  (.buildSlice false 24 2 [.t 196, .t 197]) .no, .mk (some 199) none
  (.build [.st (.str (ByteArray.mk (#[]))), .full []]
  [(0, 1, .c (.one (.st (.str (ByteArray.mk (#[103])))))),
  (1, 1, .t 198)])
  .no, .mk (some 200) none (.load true 2 (.t 11))
  .no, .mk (some 201) none (.buildSlice false 24 2 [.t 200])
  .no, .mk (some 202) none
  (.build [.st (.str (ByteArray.mk (#[]))), .full []]
  [(0, 1, .c (.one (.st (.str (ByteArray.mk (#[104])))))),
  (1, 1, .t 201)])
  .no, .mk (some 203) none (.load true 2 (.t 12))
  .no, .mk (some 204) none (.buildSlice false 24 2 [.t 203])
  .no, .mk (some 205) none
  (.build [.st (.str (ByteArray.mk (#[]))), .full []]
  [(0, 1, .c (.one (.st (.str (ByteArray.mk (#[104])))))),
  (1, 1, .t 204)])
  .no, .mk (some 206) none
  (.buildSlice false 24 2
  [.t 187, .t 191, .t 195, .t 199, .t 202, .t 205])
  .no, .mk (some 32) none (.mov (.t 206)) .no])
  (.seq
  (.ops
  [.mk (some 207) none (.mov (.t 3)) .no, .mk (some 208) none (.call 20
  [.t 207, .c (.one (.st (.int .i64 3)))])
  .no, .mk (some 209) none (.bin .mul (.c (.one (.st (.int .i64 2)))) (.t 208))
  .no, .mk (some 33) none (.mov (.t 209)) .no])
  (.seq
  (.ops
  [.mk (some 211) none (.mov (.t 9)) .no, .mk (some 212) none (.mov (.t 32)) .no, .mk (some 213) none (.mov (.t 33)) .no, .mk (some 214) none
  (.indexAddr 2 (.t 212) (.t 213)) .no, .mk (some 215) none (.load true 2 (.t 214))
  .no, .mk (some 216) none (.mov (.t 32)) .no, .mk (some 217) none (.mov (.t 33)) .no, .mk (some 218) none (.bin .add (.t 217) (.c (.one (.st (.int .i64 1)))))
  .no, .mk (some 219) none
  (.indexAddr 2 (.t 216) (.t 218)) .no, .mk (some 220) none (.load true 2 (.t 219))
  .no, .mk (some 221) none (.call 32 [.t 211, .t 215, .t 220])
  .no, .mk (some 210) none (.mov (.t 221)) .no, .mk (some 222) none (.extract 0 (.t 210))
  .no, .mk (some 223) none (.extract 1 (.t 210))
  .no, .mk (some 34) none (.mov (.t 222)) .no, .mk (some 17) none (.mov (.t 223)) .no])
  (.seq
  (.seq
  (.ops
  [.mk (some 224) none (.mov (.t 15)) .no, .mk (some 225) none (.bin .neq (.t 224) (.c (.one (.st (.int .i64 0)))))
  .no, .mk (some 226) none (.mov (.t 225))
  .no, .mk (some 227) (some (226, false)) (.mov (.t 17))
  .no, .mk (some 228) (some (226, false)) (.bin .neq (.t 227) (.c (.one (.st (.int .i64 0)))))
  .no, .mk (some 229) none
  (.pick (.t 226) (.c (.one (.st (.bool true)))) (.t 228))
  .no, .mk (some 230) none (.mov (.t 229))
  .no, .mk (some 231) (some (230, false)) (.mov (.t 14))
  .no, .mk (some 232) (some (230, false)) (.mov (.t 231))
  .no, .mk (some 233) (some (232, true)) (.mov (.t 31))
  .no, .mk (some 234) (some (232, true)) (.un .not (.t 233))
  .no, .mk (some 235) (some (232, true)) (.mov (.t 234))
  .no, .mk (some 236) (some (235, false)) (.mov (.t 34))
  .no, .mk (some 237) (some (235, false)) (.un .not (.t 236))
  .no, .mk (some 238) (some (232, true))
  (.pick (.t 235) (.c (.one (.st (.bool true)))) (.t 237))
  .no, .mk (some 239) (some (230, false))
  (.pick (.t 232) (.t 238) (.c (.one (.st (.bool false)))))
  .no, .mk (some 240) none
  (.pick (.t 230) (.c (.one (.st (.bool true)))) (.t 239))
  .no])
  (.cond (.t 240)
  (.seq
  (.ops
  [.mk (some 8) none (.mov (.c (.one (.st (.bool false)))))
  .no])
  .ret)
  .skip))
  (.seq
  (.ops
  [.mk (some 242) none (.mov (.t 0)) .no, .mk (some 243) none (.mov (.t 10)) .no, .mk (some 244) none (.call 35
  [.t 242, .c (.one (.st (.int .i64 130))), .t 243])
  .no, .mk (some 241) none (.mov (.t 244))
  .no, .mk (some 245) none (.extract 0 (.t 241))
  .no, .mk (some 246) none (.extract 1 (.t 241))
  .no, .mk (some 35) none
  (.alloc 24
  [.st (.str (ByteArray.mk (#[]))), .full []])
  .no, .mk none none (.store 2 (.t 35) (.t 245)) .no, .mk (some 36) none (.mov (.t 246))
  .no])
  (.seq
  (.ops
  [.mk (some 248) none (.mov (.t 0)) .no, .mk (some 249) none (.mov (.t 10))
  .no, .mk (some 250) none (.call 35
  [.t 248, .c (.one (.st (.int .i64 160))), .t 249])
  .no, .mk (some 247) none (.mov (.t 250))
  .no, .mk (some 251) none (.extract 0 (.t 247))
  .no, .mk (some 252) none (.extract 1 (.t 247))
  .no, .mk (some 37) none
  (.alloc 24
  [.st (.str (ByteArray.mk (#[]))), .full []])
  .no, .mk none none (.store 2 (.t 37) (.t 251)) .no, .mk (some 38) none (.mov (.t 252))
  .no])
  (.seq
  (.ops
  [.mk (some 254) none (.mov (.t 9))
  .no, .mk (some 255) none (.load true 2 (.t 35))
  .no, .mk (some 256) none (.load true 2 (.t 37))
  .no, .mk (some 257) none (.call 32 [.t 254, .t 255, .t 256])
  .no, .mk (some 253) none (.mov (.t 257))
  .no, .mk (some 258) none (.extract 0 (.t 253))
  .no, .mk (some 259) none (.extract 1 (.t 253))
  .no, .mk (some 39) none (.mov (.t 258))
  .no, .mk (some 15) none (.mov (.t 259))
  .no])
  (.seq
  (.ops
  [.mk (some 261) none (.mov (.t 9))
  .no, .mk (some 262) none (.load true 2 (.t 37))
  .no, .mk (some 263) none (.load true 2 (.t 35))
  .no, .mk (some 264) none (.call 32 [.t 261, .t 262, .t 263])
  .no, .mk (some 260) none (.mov (.t 264))
  .no, .mk (some 265) none (.extract 0 (.t 260))
  .no, .mk (some 266) none (.extract 1 (.t 260))
  .no, .mk (some 40) none (.mov (.t 265))
  .no, .mk (some 17) none (.mov (.t 266))
  .no])
  (.seq
  (.ops
  [.mk (some 267) none (.mov (.t 15))
  .no, .mk (some 268) none (.bin .eql (.t 267) (.c (.one (.st (.int .i64 0)))))
  .no, .mk (some 269) none (.mov (.t 268))
  .no, .mk (some 270) (some (269, true)) (.mov (.t 17))
  .no, .mk (some 271) (some (269, true)) (.bin .eql (.t 270) (.c (.one (.st (.int .i64 0)))))
  .no, .mk (some 272) none
  (.pick (.t 269) (.t 271) (.c (.one (.st (.bool false)))))
  .no, .mk (some 273) none (.mov (.t 272))
  .no, .mk (some 274) (some (273, true)) (.load true 2 (.t 35)) .no, .mk (some 275) (some (273, true)) (.load true 2 (.t 37)) .no, .mk (some 276) (some (273, true)) (.call 26 [.t 274, .t 275]) .no, .mk (some 277) (some (273, true)) (.mov (.t 276))
  .no, .mk (some 278) (some (277, false)) (.mov (.t 39))
  .no, .mk (some 279) (some (277, false)) (.mov (.t 40))
  .no, .mk (some 280) (some (277, false))
  (.eqB true (.t 278) (.t 279)) .no, .mk (some 281) (some (273, true))
  (.pick (.t 277) (.c (.one (.st (.bool true)))) (.t 280))
  .no, .mk (some 282) none
  (.pick (.t 273) (.t 281) (.c (.one (.st (.bool false)))))
  .no, .mk (some 8) none (.mov (.t 282))
  .no])
  .ret))))))))))))))))))))))))))))))
theorem tr_metaprunetop_TopWeight : trCode Try.prog 283 [] (Try.f8.body.getD .skip) = some ir_metaprunetop_TopWeight := by kernel_rfl
theorem ac_metaprunetop_TopWeight {xs : List AV} {r : AV} (hn : xs.length ≤ 283) (h : ∀ C : Ctx, C.n = 283 → IWP Try.prog C [] ir_metaprunetop_TopWeight (FinQ [.t 8] r) (AS.start xs)) : ACalls Try.prog 8 xs r :=
  acalls_of Try.func8 rfl tr_metaprunetop_TopWeight rfl hn h
theorem acS_metaprunetop_TopWeight {xs : List AV} {S S' : AStore} {r : AV} (hn : xs.length ≤ 283) (h : Clean S → ∀ C : Ctx, C.n = 283 → IWP Try.prog C [] ir_metaprunetop_TopWeight (FinS C [.t 8] r S') (AS.startS xs S)) : ACallsS Try.prog 8 xs S r S' :=
  acallsS_of Try.func8 rfl tr_metaprunetop_TopWeight rfl hn h

end Go.Proofs.Ytpajlfdhmjgpnaa
