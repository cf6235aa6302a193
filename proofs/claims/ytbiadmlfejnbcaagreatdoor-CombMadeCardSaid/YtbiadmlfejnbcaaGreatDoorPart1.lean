/-
  Part 1 of the texts: Shelf; Mem; AbsA; Glob; AbsB; AbsC; AbsD; AbsE; AbsF; AbsG; AbsH; AbsI. Conditions: none.
-/
import Derived.Shelf.Strconv.Atoi
import Derived.Shelf.Strconv.AtoiErr
import Derived.Shelf.Strconv.ErrVar
import Derived.Shelf.Strconv.Itoa3
import Derived.Test.YtbiadmlfejnbcaaGreatDoorProg
import Derived.WalkKit
import Derived.Lib.Hide
import Derived.Deep.AppendLies
import Derived.Maps.AppendAt
import Derived.Laws.BytesArg
import Derived.Great.BuildSlice
namespace Go.Proofs.YtbiadmlfejnbcaaGreatDoor
open Go Go.Proofs Go.Shelf
def Tryz.lays172_ren : Go.Shelf.Ren := ⟨fun | 172 => 71 | 244 => 81 | 245 => 82 | 247 => 85 | 279 => 86 | 280 => 87 | 281 => 88 | 282 => 89 | 287 => 94 | 316 => 95 | 171 => 61 | 205 => 96 | 321 => 102 | 322 => 103 | 243 => 76 | 246 => 83 | 283 => 90 | 284 => 91 | 285 => 92 | 286 => 93 | 129 => 98 | 317 => 97 | 318 => 99 | 319 => 100 | 320 => 101 | 337 => 104 | 338 => 105 | n => n, fun | 9 => 9 | 3 => 3 | 75 => 84 | 76 => 85 | 4 => 4 | 5 => 5 | 167 => 92 | 37 => 62 | 0 => 0 | 85 => 93 | 2 => 2 | 168 => 95 | 53 => 99 | 175 => 104 | 46 => 106 | 210 => 109 | 127 => 119 | 145 => 122 | 143 => 120 | 21 => 21 | 171 => 98 | 173 => 102 | 212 => 113 | 51 => 114 | 20 => 20 | 213 => 115 | 232 => 124 | 233 => 125 | 80 => 126 | n => n, fun | 15 => 1 | 16 => 2 | 17 => 3 | 18 => 4 | 19 => 5 | n => n⟩
theorem Tryz.lays172 : Go.Proofs.Lays.n172 Tryz.prog Tryz.lays172_ren := {
  mixed := by kernel_rfl
  f129 := Tryz.func98.trans (congrArg some (by kernel_rfl))
  f171 := Tryz.func61.trans (congrArg some (by kernel_rfl))
  f172 := Tryz.func71.trans (congrArg some (by kernel_rfl))
  f205 := Tryz.func96.trans (congrArg some (by kernel_rfl))
  f243 := Tryz.func76.trans (congrArg some (by kernel_rfl))
  f244 := Tryz.func81.trans (congrArg some (by kernel_rfl))
  f245 := Tryz.func82.trans (congrArg some (by kernel_rfl))
  f246 := Tryz.func83.trans (congrArg some (by kernel_rfl))
  f247 := Tryz.func85.trans (congrArg some (by kernel_rfl))
  f279 := Tryz.func86.trans (congrArg some (by kernel_rfl))
  f280 := Tryz.func87.trans (congrArg some (by kernel_rfl))
  f281 := Tryz.func88.trans (congrArg some (by kernel_rfl))
  f282 := Tryz.func89.trans (congrArg some (by kernel_rfl))
  f283 := Tryz.func90.trans (congrArg some (by kernel_rfl))
  f284 := Tryz.func91.trans (congrArg some (by kernel_rfl))
  f285 := Tryz.func92.trans (congrArg some (by kernel_rfl))
  f286 := Tryz.func93.trans (congrArg some (by kernel_rfl))
  f287 := Tryz.func94.trans (congrArg some (by kernel_rfl))
  f316 := Tryz.func95.trans (congrArg some (by kernel_rfl))
  f317 := Tryz.func97.trans (congrArg some (by kernel_rfl))
  f318 := Tryz.func99.trans (congrArg some (by kernel_rfl))
  f319 := Tryz.func100.trans (congrArg some (by kernel_rfl))
  f320 := Tryz.func101.trans (congrArg some (by kernel_rfl))
  f321 := Tryz.func102.trans (congrArg some (by kernel_rfl))
  f322 := Tryz.func103.trans (congrArg some (by kernel_rfl))
  f337 := Tryz.func104.trans (congrArg some (by kernel_rfl))
  f338 := Tryz.func105.trans (congrArg some (by kernel_rfl))
  t0 := Tryz.underlying0
  a0 := Tryz.isAgg0
  z0 := Tryz.sizeOf0
  v0 := Tryz.zeroValue0
  t2 := Tryz.underlying2
  a2 := Tryz.isAgg2
  z2 := Tryz.sizeOf2
  v2 := Tryz.zeroValue2
  t3 := Tryz.underlying3
  a3 := Tryz.isAgg3
  z3 := Tryz.sizeOf3
  v3 := Tryz.zeroValue3
  t4 := Tryz.underlying4
  a4 := Tryz.isAgg4
  z4 := Tryz.sizeOf4
  v4 := Tryz.zeroValue4
  t5 := Tryz.underlying5
  a5 := Tryz.isAgg5
  z5 := Tryz.sizeOf5
  v5 := Tryz.zeroValue5
  t9 := Tryz.underlying9
  a9 := Tryz.isAgg9
  z9 := Tryz.sizeOf9
  v9 := Tryz.zeroValue9
  t20 := Tryz.underlying20
  a20 := Tryz.isAgg20
  z20 := Tryz.sizeOf20
  v20 := Tryz.zeroValue20
  t21 := Tryz.underlying21
  a21 := Tryz.isAgg21
  z21 := Tryz.sizeOf21
  v21 := Tryz.zeroValue21
  t37 := Tryz.underlying62
  a37 := Tryz.isAgg62
  z37 := Tryz.sizeOf62
  v37 := Tryz.zeroValue62
  t46 := Tryz.underlying106
  a46 := Tryz.isAgg106
  z46 := Tryz.sizeOf106
  v46 := Tryz.zeroValue106
  t51 := Tryz.underlying114
  a51 := Tryz.isAgg114
  z51 := Tryz.sizeOf114
  v51 := Tryz.zeroValue114
  t53 := Tryz.underlying99
  a53 := Tryz.isAgg99
  z53 := Tryz.sizeOf99
  v53 := Tryz.zeroValue99
  t75 := Tryz.underlying84
  a75 := Tryz.isAgg84
  z75 := Tryz.sizeOf84
  v75 := Tryz.zeroValue84
  t76 := Tryz.underlying85
  a76 := Tryz.isAgg85
  z76 := Tryz.sizeOf85
  v76 := Tryz.zeroValue85
  t85 := Tryz.underlying93
  a85 := Tryz.isAgg93
  z85 := Tryz.sizeOf93
  v85 := Tryz.zeroValue93
  t127 := Tryz.underlying119
  a127 := Tryz.isAgg119
  z127 := Tryz.sizeOf119
  v127 := Tryz.zeroValue119
  t143 := Tryz.underlying120
  a143 := Tryz.isAgg120
  z143 := Tryz.sizeOf120
  v143 := Tryz.zeroValue120
  t145 := Tryz.underlying122
  a145 := Tryz.isAgg122
  z145 := Tryz.sizeOf122
  v145 := Tryz.zeroValue122
  t167 := Tryz.underlying92
  a167 := Tryz.isAgg92
  z167 := Tryz.sizeOf92
  v167 := Tryz.zeroValue92
  t168 := Tryz.underlying95
  a168 := Tryz.isAgg95
  z168 := Tryz.sizeOf95
  v168 := Tryz.zeroValue95
  t171 := Tryz.underlying98
  a171 := Tryz.isAgg98
  z171 := Tryz.sizeOf98
  v171 := Tryz.zeroValue98
  t173 := Tryz.underlying102
  a173 := Tryz.isAgg102
  z173 := Tryz.sizeOf102
  v173 := Tryz.zeroValue102
  t175 := Tryz.underlying104
  a175 := Tryz.isAgg104
  z175 := Tryz.sizeOf104
  v175 := Tryz.zeroValue104
  t210 := Tryz.underlying109
  a210 := Tryz.isAgg109
  z210 := Tryz.sizeOf109
  v210 := Tryz.zeroValue109
  t212 := Tryz.underlying113
  a212 := Tryz.isAgg113
  z212 := Tryz.sizeOf113
  v212 := Tryz.zeroValue113
  t213 := Tryz.underlying115
  a213 := Tryz.isAgg115
  z213 := Tryz.sizeOf115
  t232 := Tryz.underlying124
  a232 := Tryz.isAgg124
  z232 := Tryz.sizeOf124
  v232 := Tryz.zeroValue124
  t233 := Tryz.underlying125
  a233 := Tryz.isAgg125
  z233 := Tryz.sizeOf125
  v233 := Tryz.zeroValue125
  g15 := by kernel_rfl
  g16 := by kernel_rfl
  g17 := by kernel_rfl
  g18 := by kernel_rfl
  g19 := by kernel_rfl }
def Tryz.laysC172_ren : Go.Shelf.Ren := ⟨fun | 172 => 71 | 244 => 81 | 245 => 82 | 247 => 85 | 279 => 86 | 280 => 87 | 281 => 88 | 282 => 89 | 287 => 94 | 316 => 95 | 171 => 61 | 205 => 96 | 321 => 102 | 322 => 103 | 243 => 76 | 246 => 83 | 283 => 90 | 284 => 91 | 285 => 92 | 286 => 93 | 129 => 98 | 317 => 97 | 318 => 99 | 319 => 100 | 320 => 101 | 337 => 104 | 338 => 105 | n => n, fun | 9 => 9 | 3 => 3 | 75 => 84 | 76 => 85 | 4 => 4 | 5 => 5 | 167 => 92 | 37 => 62 | 0 => 0 | 85 => 93 | 2 => 2 | 168 => 95 | 53 => 99 | 175 => 104 | 46 => 106 | 210 => 109 | 127 => 119 | 145 => 122 | 143 => 120 | 21 => 21 | 171 => 98 | 173 => 102 | 212 => 113 | 51 => 114 | 20 => 20 | 213 => 115 | 232 => 124 | 233 => 125 | 80 => 126 | n => n, fun | 15 => 1 | 16 => 2 | 17 => 3 | 18 => 4 | 19 => 5 | n => n⟩
theorem Tryz.laysC172 : Go.Proofs.LaysC.n172 Tryz.prog Tryz.laysC172_ren := {
  mixed := by kernel_rfl
  f129 := Tryz.func98.trans (congrArg some (by kernel_rfl))
  f171 := Tryz.func61.trans (congrArg some (by kernel_rfl))
  f172 := Tryz.func71.trans (congrArg some (by kernel_rfl))
  f205 := Tryz.func96.trans (congrArg some (by kernel_rfl))
  f243 := Tryz.func76.trans (congrArg some (by kernel_rfl))
  f244 := Tryz.func81.trans (congrArg some (by kernel_rfl))
  f245 := Tryz.func82.trans (congrArg some (by kernel_rfl))
  f246 := Tryz.func83.trans (congrArg some (by kernel_rfl))
  f247 := Tryz.func85.trans (congrArg some (by kernel_rfl))
  f279 := Tryz.func86.trans (congrArg some (by kernel_rfl))
  f280 := Tryz.func87.trans (congrArg some (by kernel_rfl))
  f281 := Tryz.func88.trans (congrArg some (by kernel_rfl))
  f282 := Tryz.func89.trans (congrArg some (by kernel_rfl))
  f283 := Tryz.func90.trans (congrArg some (by kernel_rfl))
  f284 := Tryz.func91.trans (congrArg some (by kernel_rfl))
  f285 := Tryz.func92.trans (congrArg some (by kernel_rfl))
  f286 := Tryz.func93.trans (congrArg some (by kernel_rfl))
  f287 := Tryz.func94.trans (congrArg some (by kernel_rfl))
  f316 := Tryz.func95.trans (congrArg some (by kernel_rfl))
  f317 := Tryz.func97.trans (congrArg some (by kernel_rfl))
  f318 := Tryz.func99.trans (congrArg some (by kernel_rfl))
  f319 := Tryz.func100.trans (congrArg some (by kernel_rfl))
  f320 := Tryz.func101.trans (congrArg some (by kernel_rfl))
  f321 := Tryz.func102.trans (congrArg some (by kernel_rfl))
  f322 := Tryz.func103.trans (congrArg some (by kernel_rfl))
  f337 := Tryz.func104.trans (congrArg some (by kernel_rfl))
  f338 := Tryz.func105.trans (congrArg some (by kernel_rfl))
  t0 := Tryz.underlying0
  a0 := Tryz.isAgg0
  z0 := Tryz.sizeOf0
  v0 := Tryz.zeroValue0
  t2 := Tryz.underlying2
  a2 := Tryz.isAgg2
  z2 := Tryz.sizeOf2
  v2 := Tryz.zeroValue2
  t3 := Tryz.underlying3
  a3 := Tryz.isAgg3
  z3 := Tryz.sizeOf3
  v3 := Tryz.zeroValue3
  t4 := Tryz.underlying4
  a4 := Tryz.isAgg4
  z4 := Tryz.sizeOf4
  v4 := Tryz.zeroValue4
  t5 := Tryz.underlying5
  a5 := Tryz.isAgg5
  z5 := Tryz.sizeOf5
  v5 := Tryz.zeroValue5
  t9 := Tryz.underlying9
  a9 := Tryz.isAgg9
  z9 := Tryz.sizeOf9
  v9 := Tryz.zeroValue9
  t20 := Tryz.underlying20
  a20 := Tryz.isAgg20
  z20 := Tryz.sizeOf20
  v20 := Tryz.zeroValue20
  t21 := Tryz.underlying21
  a21 := Tryz.isAgg21
  z21 := Tryz.sizeOf21
  v21 := Tryz.zeroValue21
  t37 := Tryz.underlying62
  a37 := Tryz.isAgg62
  z37 := Tryz.sizeOf62
  v37 := Tryz.zeroValue62
  t46 := Tryz.underlying106
  a46 := Tryz.isAgg106
  z46 := Tryz.sizeOf106
  v46 := Tryz.zeroValue106
  t51 := Tryz.underlying114
  a51 := Tryz.isAgg114
  z51 := Tryz.sizeOf114
  v51 := Tryz.zeroValue114
  t53 := Tryz.underlying99
  a53 := Tryz.isAgg99
  z53 := Tryz.sizeOf99
  v53 := Tryz.zeroValue99
  t75 := Tryz.underlying84
  a75 := Tryz.isAgg84
  z75 := Tryz.sizeOf84
  v75 := Tryz.zeroValue84
  t76 := Tryz.underlying85
  a76 := Tryz.isAgg85
  z76 := Tryz.sizeOf85
  v76 := Tryz.zeroValue85
  t85 := Tryz.underlying93
  a85 := Tryz.isAgg93
  z85 := Tryz.sizeOf93
  v85 := Tryz.zeroValue93
  t127 := Tryz.underlying119
  a127 := Tryz.isAgg119
  z127 := Tryz.sizeOf119
  v127 := Tryz.zeroValue119
  t143 := Tryz.underlying120
  a143 := Tryz.isAgg120
  z143 := Tryz.sizeOf120
  v143 := Tryz.zeroValue120
  t145 := Tryz.underlying122
  a145 := Tryz.isAgg122
  z145 := Tryz.sizeOf122
  v145 := Tryz.zeroValue122
  t167 := Tryz.underlying92
  a167 := Tryz.isAgg92
  z167 := Tryz.sizeOf92
  v167 := Tryz.zeroValue92
  t168 := Tryz.underlying95
  a168 := Tryz.isAgg95
  z168 := Tryz.sizeOf95
  v168 := Tryz.zeroValue95
  t171 := Tryz.underlying98
  a171 := Tryz.isAgg98
  z171 := Tryz.sizeOf98
  v171 := Tryz.zeroValue98
  t173 := Tryz.underlying102
  a173 := Tryz.isAgg102
  z173 := Tryz.sizeOf102
  v173 := Tryz.zeroValue102
  t175 := Tryz.underlying104
  a175 := Tryz.isAgg104
  z175 := Tryz.sizeOf104
  v175 := Tryz.zeroValue104
  t210 := Tryz.underlying109
  a210 := Tryz.isAgg109
  z210 := Tryz.sizeOf109
  v210 := Tryz.zeroValue109
  t212 := Tryz.underlying113
  a212 := Tryz.isAgg113
  z212 := Tryz.sizeOf113
  v212 := Tryz.zeroValue113
  t213 := Tryz.underlying115
  a213 := Tryz.isAgg115
  z213 := Tryz.sizeOf115
  t232 := Tryz.underlying124
  a232 := Tryz.isAgg124
  z232 := Tryz.sizeOf124
  v232 := Tryz.zeroValue124
  t233 := Tryz.underlying125
  a233 := Tryz.isAgg125
  z233 := Tryz.sizeOf125
  v233 := Tryz.zeroValue125
  g15 := by kernel_rfl
  g16 := by kernel_rfl
  g17 := by kernel_rfl
  g18 := by kernel_rfl
  g19 := by kernel_rfl
  t80 := Tryz.underlying126
  a80 := Tryz.isAgg126
  z80 := Tryz.sizeOf126
  v80 := Tryz.zeroValue126
  i0 := by kernel_rfl
  i2 := by kernel_rfl
  i3 := by kernel_rfl
  i4 := by kernel_rfl
  i5 := by kernel_rfl
  i9 := by kernel_rfl
  i20 := by kernel_rfl
  i21 := by kernel_rfl
  i37 := by kernel_rfl
  i46 := by kernel_rfl
  i51 := by kernel_rfl
  i53 := by kernel_rfl
  i75 := by kernel_rfl
  i76 := by kernel_rfl
  i80 := by kernel_rfl
  i85 := by kernel_rfl
  i127 := by kernel_rfl
  i143 := by kernel_rfl
  i145 := by kernel_rfl
  i167 := by kernel_rfl
  i168 := by kernel_rfl
  i171 := by kernel_rfl
  i173 := by kernel_rfl
  i175 := by kernel_rfl
  i210 := by kernel_rfl
  i212 := by kernel_rfl
  i232 := by kernel_rfl
  i233 := by kernel_rfl
  m15 := by kernel_rfl
  m16 := by kernel_rfl
  m17 := by kernel_rfl
  m18 := by kernel_rfl
  m19 := by kernel_rfl
  c0 := by kernel_rfl
  c2 := by kernel_rfl
  c3 := by kernel_rfl
  c4 := by kernel_rfl
  c5 := by kernel_rfl
  c9 := by kernel_rfl
  c20 := by kernel_rfl
  c21 := by kernel_rfl
  c37 := by kernel_rfl
  c46 := by kernel_rfl
  c51 := by kernel_rfl
  c53 := by kernel_rfl
  c75 := by kernel_rfl
  c76 := by kernel_rfl
  c80 := by kernel_rfl
  c85 := by kernel_rfl
  c127 := by kernel_rfl
  c143 := by kernel_rfl
  c145 := by kernel_rfl
  c167 := by kernel_rfl
  c168 := by kernel_rfl
  c171 := by kernel_rfl
  c173 := by kernel_rfl
  c175 := by kernel_rfl
  c210 := by kernel_rfl
  c212 := by kernel_rfl
  c213 := by kernel_rfl
  c232 := by kernel_rfl
  c233 := by kernel_rfl }
def Tryz.laysM171_ren : Go.Shelf.Ren := ⟨fun | 171 => 61 | 243 => 76 | 246 => 83 | 283 => 90 | 284 => 91 | 285 => 92 | 286 => 93 | 129 => 98 | 317 => 97 | 318 => 99 | 319 => 100 | 320 => 101 | 337 => 104 | 338 => 105 | n => n, fun | 3 => 3 | 9 => 9 | 2 => 2 | 4 => 4 | 171 => 98 | 0 => 0 | 53 => 99 | 37 => 62 | 5 => 5 | 173 => 102 | 212 => 113 | 51 => 114 | 20 => 20 | 213 => 115 | 46 => 106 | 232 => 124 | 233 => 125 | n => n, fun | 17 => 3 | 18 => 4 | 19 => 5 | n => n⟩
theorem Tryz.laysM171 : Go.Proofs.LaysM.n171 Tryz.prog Tryz.laysM171_ren := {
  mixed := by kernel_rfl
  f129 := Tryz.func98.trans (congrArg some (by kernel_rfl))
  f171 := Tryz.func61.trans (congrArg some (by kernel_rfl))
  f243 := Tryz.func76.trans (congrArg some (by kernel_rfl))
  f246 := Tryz.func83.trans (congrArg some (by kernel_rfl))
  f283 := Tryz.func90.trans (congrArg some (by kernel_rfl))
  f284 := Tryz.func91.trans (congrArg some (by kernel_rfl))
  f285 := Tryz.func92.trans (congrArg some (by kernel_rfl))
  f286 := Tryz.func93.trans (congrArg some (by kernel_rfl))
  f317 := Tryz.func97.trans (congrArg some (by kernel_rfl))
  f318 := Tryz.func99.trans (congrArg some (by kernel_rfl))
  f319 := Tryz.func100.trans (congrArg some (by kernel_rfl))
  f320 := Tryz.func101.trans (congrArg some (by kernel_rfl))
  f337 := Tryz.func104.trans (congrArg some (by kernel_rfl))
  f338 := Tryz.func105.trans (congrArg some (by kernel_rfl))
  t0 := Tryz.underlying0
  a0 := Tryz.isAgg0
  z0 := Tryz.sizeOf0
  v0 := Tryz.zeroValue0
  t2 := Tryz.underlying2
  a2 := Tryz.isAgg2
  z2 := Tryz.sizeOf2
  v2 := Tryz.zeroValue2
  t3 := Tryz.underlying3
  a3 := Tryz.isAgg3
  z3 := Tryz.sizeOf3
  v3 := Tryz.zeroValue3
  t4 := Tryz.underlying4
  a4 := Tryz.isAgg4
  z4 := Tryz.sizeOf4
  v4 := Tryz.zeroValue4
  t5 := Tryz.underlying5
  a5 := Tryz.isAgg5
  z5 := Tryz.sizeOf5
  v5 := Tryz.zeroValue5
  t9 := Tryz.underlying9
  a9 := Tryz.isAgg9
  z9 := Tryz.sizeOf9
  v9 := Tryz.zeroValue9
  t20 := Tryz.underlying20
  a20 := Tryz.isAgg20
  z20 := Tryz.sizeOf20
  v20 := Tryz.zeroValue20
  t37 := Tryz.underlying62
  a37 := Tryz.isAgg62
  z37 := Tryz.sizeOf62
  v37 := Tryz.zeroValue62
  t46 := Tryz.underlying106
  a46 := Tryz.isAgg106
  z46 := Tryz.sizeOf106
  v46 := Tryz.zeroValue106
  t51 := Tryz.underlying114
  a51 := Tryz.isAgg114
  z51 := Tryz.sizeOf114
  v51 := Tryz.zeroValue114
  t53 := Tryz.underlying99
  a53 := Tryz.isAgg99
  z53 := Tryz.sizeOf99
  v53 := Tryz.zeroValue99
  t171 := Tryz.underlying98
  a171 := Tryz.isAgg98
  z171 := Tryz.sizeOf98
  v171 := Tryz.zeroValue98
  t173 := Tryz.underlying102
  a173 := Tryz.isAgg102
  z173 := Tryz.sizeOf102
  v173 := Tryz.zeroValue102
  t212 := Tryz.underlying113
  a212 := Tryz.isAgg113
  z212 := Tryz.sizeOf113
  v212 := Tryz.zeroValue113
  t213 := Tryz.underlying115
  a213 := Tryz.isAgg115
  z213 := Tryz.sizeOf115
  t232 := Tryz.underlying124
  a232 := Tryz.isAgg124
  z232 := Tryz.sizeOf124
  v232 := Tryz.zeroValue124
  t233 := Tryz.underlying125
  a233 := Tryz.isAgg125
  z233 := Tryz.sizeOf125
  v233 := Tryz.zeroValue125
  g17 := by kernel_rfl
  g18 := by kernel_rfl
  g19 := by kernel_rfl
  i0 := by kernel_rfl
  i2 := by kernel_rfl
  i3 := by kernel_rfl
  i4 := by kernel_rfl
  i5 := by kernel_rfl
  i9 := by kernel_rfl
  i20 := by kernel_rfl
  i37 := by kernel_rfl
  i46 := by kernel_rfl
  i51 := by kernel_rfl
  i53 := by kernel_rfl
  i171 := by kernel_rfl
  i173 := by kernel_rfl
  i212 := by kernel_rfl
  i232 := by kernel_rfl
  i233 := by kernel_rfl
  m17 := by kernel_rfl
  m18 := by kernel_rfl
  m19 := by kernel_rfl }
end Go.Proofs.YtbiadmlfejnbcaaGreatDoor

namespace Go.Proofs.YtbiadmlfejnbcaaGreatDoor
open Go Go.RowKit
set_option linter.unusedVariables false

/-! ### what is known to stay -/
/-- A part of memory of which is known that it stays as it is. -/
def Sto := Addr → Option Value
/-- What lies at a place; at a place beside all cells: whether the block ends there. -/
def look (w : World) (p : Addr) : Option Value := match p.spot with
  | none => w.cell? p
  | some _ => match w.heap[p.block]? with
    | some (.cells c _ _) => if c.size = p.off then some .nilFunc else none
    | _ => none
theorem look_none {w : World} {p : Addr} (h : p.spot = none) : look w p = w.cell? p := by unfold look; rw [h]
theorem look_of_block {w w' : World} {p : Addr} (h : w'.heap[p.block]? = w.heap[p.block]?) : look w' p = look w p := by
  unfold look
  cases p.spot with
  | none => exact World.cell?_of_block h
  | some _ => simp only [h]
theorem look_lt {w : World} {p : Addr} {x : Value} (h : look w p = some x) : p.block < w.heap.size := by
  unfold look at h
  cases hs : p.spot with
  | none =>
    rw [hs] at h
    exact World.block_lt_of_cell? w p h
  | some _ =>
    rw [hs] at h
    simp only at h
    rcases Nat.lt_or_ge p.block w.heap.size with h1 | h1
    · exact h1
    · rw [Array.getElem?_eq_none h1] at h
      cases h
/-- The world holds that part. -/
def Fit (σ : Sto) (w : World) : Prop := ∀ p x, σ p = some x → look w p = some x
/-- More is known to stay; nothing new below block N. -/
structure Ext (N : Nat) (σ σ' : Sto) : Prop where
  keep : ∀ p x, σ p = some x → σ' p = some x
  old : ∀ p, p.block < N → σ' p = σ p

theorem Ext.refl (N : Nat) (σ : Sto) : Ext N σ σ := ⟨fun _ _ h => h, fun _ _ => rfl⟩
theorem Ext.trans {N : Nat} {a b c : Sto} (h : Ext N a b) (k : Ext N b c) : Ext N a c := ⟨fun p x e => k.keep p x (h.keep p x e), fun p hp => (k.old p hp).trans (h.old p hp)⟩
theorem Ext.mono {N M : Nat} {a b : Sto} (h : Ext N a b) (hm : M ≤ N) : Ext M a b := ⟨h.keep, fun p hp => h.old p (by omega)⟩

theorem Fit.lt {σ : Sto} {w : World} (h : Fit σ w) {p : Addr} {x : Value} (e : σ p = some x) : p.block < w.heap.size := look_lt (h p x e)
theorem Fit.no {σ : Sto} {w : World} (h : Fit σ w) {p : Addr} (hp : w.heap.size ≤ p.block) : σ p = none := by
  cases e : σ p with
  | none => rfl
  | some x => have := h.lt e; omega
theorem Fit.below {σ : Sto} {w w' : World} (h : Fit σ w) (hb : Below w.heap.size w w') : Fit σ w' := fun p x e => (look_of_block (hb.block _ (h.lt e))).trans (h p x e)
theorem Fit.alloc {σ : Sto} {w : World} (h : Fit σ w) (o : Obj) : Fit σ (w.alloc o) := h.below ((Below.refl _ _).alloc (Nat.le_refl _) _)
theorem Fit.drew {σ : Sto} {w : World} (h : Fit σ w) : Fit σ w.drew := h
theorem look_setCell {w : World} {p q : Addr} {n : Nat} (hq : q.spot = some n) (u : Value) : look (w.setCell p u) q = look w q := by
  by_cases hb : q.block = p.block
  · unfold look
    simp only [hq, World.setCell, hb]
    cases hc : w.heap[p.block]? with
    | none => simp [Array.getElem?_modify, hc]
    | some o => cases o <;> simp [Array.getElem?_modify, hc] <;> split <;> simp
  · exact look_of_block (Below.heap_setCell w p u q.block (fun e => hb e))
theorem Fit.setCell {σ : Sto} {w : World} (h : Fit σ w) {p : Addr} (hp : σ p = none) (u : Value) : Fit σ (w.setCell p u) := fun q x e => by
  cases hs : q.spot with
  | none =>
    have h1 := h q x e
    rw [look_none hs] at h1 ⊢
    exact (World.cell?_setCell_other w p q u (fun he => by subst he; rw [hp] at e; cases e)).trans h1
  | some n => exact (look_setCell hs u).trans (h q x e)
/-- What a world below which all is as it was holds of what was known ahead. -/
theorem Fit.from_ {σ : Sto} {w w' : World} {B : Nat} (h : Fit σ w) (hB : w.heap.size ≤ B) (hb : Below B w w') : Fit σ w' := h.below (hb.mono hB)
theorem fit_cells (w : World) : Fit (look w) w := fun _ _ h => h

/-! ### a block that is known whole -/
/-- Block g is just these cells, none frozen. -/
def Blk (w : World) (g : Nat) (t : TypeId) (cs : Array Value) : Prop := w.heap[g]? = some (.cells cs t (0, 0))
section
variable {w w' : World} {g : Nat} {t : TypeId} {cs : Array Value}
theorem Blk.lt (h : Blk w g t cs) : g < w.heap.size := (Array.getElem?_eq_some_iff.1 h).1
theorem Blk.cell (h : Blk w g t cs) (i : Nat) : w.cell? ⟨g, i, none⟩ = cs[i]? := cell_of_row w g i cs t (0, 0) h
theorem Blk.frozen (h : Blk w g t cs) (i : Nat) : w.frozen? ⟨g, i, none⟩ = false := by
  unfold Blk at h
  simp [World.frozen?, h]
theorem Blk.new (w : World) (t : TypeId) (cs : Array Value) : Blk (w.alloc (.cells cs t)) w.heap.size t cs := heap_alloc_new w _
theorem Blk.drew (h : Blk w g t cs) : Blk w.drew g t cs := h
theorem Blk.alloc (h : Blk w g t cs) (o : Obj) : Blk (w.alloc o) g t cs := (Below.heap_alloc w o g h.lt).trans h
theorem Blk.put (h : Blk w g t cs) (i : Nat) (u : Value) : Blk (w.setCell ⟨g, i, none⟩ u) g t (cs.setIfInBounds i u) := by
  unfold Blk at h ⊢
  simp [World.setCell, Array.getElem?_modify, h]
theorem Blk.far (h : Blk w g t cs) {p : Addr} (hp : g ≠ p.block) (u : Value) : Blk (w.setCell p u) g t cs := (Below.heap_setCell w p u g hp).trans h
theorem Blk.below {B : Nat} (h : Blk w g t cs) (hb : Below B w w') (hg : g < B) : Blk w' g t cs := (hb.block g hg).trans h
theorem Blk.call (h : Blk w g t cs) (hb : Below w.heap.size w w') : Blk w' g t cs := h.below hb h.lt
theorem Blk.grown {row : Option Nat} (h : Blk w g t cs) (hb : w.grownBy w' row) (hg : row ≠ some g) : Blk w' g t cs := (hb.block g h.lt (fun e => hg e.symm)).trans h
end

/-- A store into another block. -/
theorem cell_far {w : World} {a b : Addr} {x u : Value} (h : w.cell? b = some x) (hne : a.block ≠ b.block) : (w.setCell a u).cell? b = some x :=
  (World.cell?_setCell_other w a b u (fun e => hne (by rw [e]))).trans h

/-! ### data as trees of cells -/
inductive Dat where
  | int (k : IntKind) (n : Int)
  | str (s : ByteArray)
  | bool (b : Bool)
  | agg (ds : List Dat)
  | row (e : Nat) (ds : List Dat)

mutual
/-- So many cells hold the datum. -/
def Dat.Is (σ : Sto) : Dat → List Value → Prop
  | .int k n, cs => cs = [.int k n] ∧ (Lit.int k n).wf = true
  | .str s, cs => cs = [.string s] ∧ s.size ≤ maxLen
  | .bool b, cs => cs = [.bool b]
  | .agg ds, cs => Dat.AggIs σ ds cs
  | .row e ds, cs => ∃ p len cap, cs = [.slice p len cap] ∧ len = ds.length ∧ len ≤ cap ∧ cap ≤ maxLen ∧ (p = none → cap = 0) ∧ ∃ b o, (len ≠ 0 → p = some ⟨b, o, none⟩) ∧ Dat.RowIs σ e ds b o
def Dat.AggIs (σ : Sto) : List Dat → List Value → Prop
  | [], cs => cs = []
  | d :: ds, cs => ∃ x y, cs = x ++ y ∧ Dat.Is σ d x ∧ Dat.AggIs σ ds y
def Dat.RowIs (σ : Sto) (e : Nat) : List Dat → Nat → Nat → Prop
  | [], _, _ => True
  | d :: ds, b, o => (∃ cs, cs.length = e ∧ (∀ j x, cs[j]? = some x → σ ⟨b, o + j, none⟩ = some x) ∧ Dat.Is σ d cs) ∧ Dat.RowIs σ e ds b (o + e)
end

mutual
theorem Dat.Is.mono {σ σ' : Sto} (h : ∀ p x, σ p = some x → σ' p = some x) : ∀ {d : Dat} {cs : List Value}, d.Is σ cs → d.Is σ' cs
  | .int _ _, _, hd => hd
  | .str _, _, hd => hd
  | .bool _, _, hd => hd
  | .agg ds, cs, hd => Dat.AggIs.mono h (ds := ds) hd
  | .row e ds, cs, hd => by
    obtain ⟨p, len, cap, h1, h2, h3, h4, h5, b, o, h6, h7⟩ := hd
    exact ⟨p, len, cap, h1, h2, h3, h4, h5, b, o, h6, Dat.RowIs.mono h h7⟩
theorem Dat.AggIs.mono {σ σ' : Sto} (h : ∀ p x, σ p = some x → σ' p = some x) : ∀ {ds : List Dat} {cs : List Value}, Dat.AggIs σ ds cs → Dat.AggIs σ' ds cs
  | [], _, hd => hd
  | d :: ds, cs, hd => by
    obtain ⟨x, y, h1, h2, h3⟩ := hd
    exact ⟨x, y, h1, Dat.Is.mono h h2, Dat.AggIs.mono h h3⟩
theorem Dat.RowIs.mono {σ σ' : Sto} (h : ∀ p x, σ p = some x → σ' p = some x) {e : Nat} : ∀ {ds : List Dat} {b o : Nat}, Dat.RowIs σ e ds b o → Dat.RowIs σ' e ds b o
  | [], _, _, _ => trivial
  | d :: ds, b, o, hd => by
    obtain ⟨⟨cs, h1, h2, h3⟩, h4⟩ := hd
    exact ⟨⟨cs, h1, fun j x e => h _ _ (h2 j x e), Dat.Is.mono h h3⟩, Dat.RowIs.mono h h4⟩
end

mutual
theorem Dat.Is.one {σ : Sto} : ∀ {d : Dat} {cs : List Value}, d.Is σ cs → ∀ u ∈ cs, u.oneCell' = true
  | .int _ _, _, hd => by obtain ⟨rfl, _⟩ := hd; simp [Value.oneCell']
  | .str _, _, hd => by obtain ⟨rfl, _⟩ := hd; simp [Value.oneCell']
  | .bool _, _, hd => by obtain rfl := hd; simp [Value.oneCell']
  | .agg ds, cs, hd => Dat.AggIs.one (ds := ds) hd
  | .row e ds, cs, hd => by
    obtain ⟨p, len, cap, rfl, _⟩ := hd
    simp [Value.oneCell']
theorem Dat.AggIs.one {σ : Sto} : ∀ {ds : List Dat} {cs : List Value}, Dat.AggIs σ ds cs → ∀ u ∈ cs, u.oneCell' = true
  | [], _, hd => by obtain rfl := hd; simp
  | d :: ds, cs, hd => by
    obtain ⟨x, y, rfl, h2, h3⟩ := hd
    intro u hu
    rcases List.mem_append.1 hu with hu | hu
    · exact Dat.Is.one h2 u hu
    · exact Dat.AggIs.one h3 u hu
end

theorem Dat.AggIs.append {σ : Sto} : ∀ {ds es : List Dat} {cs xs : List Value}, Dat.AggIs σ ds cs → Dat.AggIs σ es xs → Dat.AggIs σ (ds ++ es) (cs ++ xs)
  | [], es, cs, xs, h, k => by obtain rfl := h; exact k
  | d :: ds, es, cs, xs, h, k => by
    obtain ⟨x, y, rfl, h2, h3⟩ := h
    exact ⟨x, y ++ xs, by simp, h2, Dat.AggIs.append h3 k⟩
theorem Dat.AggIs.single {σ : Sto} {d : Dat} {cs : List Value} (h : d.Is σ cs) : Dat.AggIs σ [d] cs := ⟨cs, [], by simp, h, rfl⟩

theorem Dat.RowIs.get {σ : Sto} {e : Nat} : ∀ {ds : List Dat} {b o : Nat}, Dat.RowIs σ e ds b o → ∀ k (h : k < ds.length), ∃ cs, cs.length = e ∧ (∀ j x, cs[j]? = some x → σ ⟨b, o + k * e + j, none⟩ = some x) ∧ ds[k].Is σ cs
  | [], _, _, _, k, h => absurd h (by simp)
  | d :: ds, b, o, hd, 0, h => by simpa using hd.1
  | d :: ds, b, o, hd, k + 1, h => by
    obtain ⟨cs, h1, h2, h3⟩ := Dat.RowIs.get hd.2 k (by simpa using h)
    refine ⟨cs, h1, fun j x hj => ?_, by simpa using h3⟩
    have := h2 j x hj
    rw [← this]
    congr 2
    rw [Nat.add_mul]
    omega
/-- All of a row, one cell behind the other. -/
theorem Dat.RowIs.all {σ : Sto} {e : Nat} : ∀ {ds : List Dat} {b o : Nat}, Dat.RowIs σ e ds b o → ∃ cs, cs.length = ds.length * e ∧ (∀ j x, cs[j]? = some x → σ ⟨b, o + j, none⟩ = some x) ∧ Dat.AggIs σ ds cs
  | [], b, o, _ => ⟨[], by simp, by simp, rfl⟩
  | d :: ds, b, o, hd => by
    obtain ⟨⟨xs, h1, h2, h3⟩, h4⟩ := hd
    obtain ⟨ys, k1, k2, k3⟩ := Dat.RowIs.all h4
    refine ⟨xs ++ ys, by simp [h1, k1, Nat.add_mul]; omega, fun j x hj => ?_, xs, ys, rfl, h3, k3⟩
    by_cases hlt : j < xs.length
    · rw [List.getElem?_append_left hlt] at hj
      exact h2 j x hj
    · rw [List.getElem?_append_right (by omega)] at hj
      have := k2 _ _ hj
      rw [← this]
      congr 2
      omega
theorem Dat.RowIs.of_all {σ : Sto} {e : Nat} : ∀ {ds : List Dat} {b o : Nat} {cs : List Value}, (∀ d ∈ ds, ∀ xs, d.Is σ xs → xs.length = e) → (∀ j x, cs[j]? = some x → σ ⟨b, o + j, none⟩ = some x) → Dat.AggIs σ ds cs → Dat.RowIs σ e ds b o
  | [], _, _, _, _, _, _ => trivial
  | d :: ds, b, o, cs, hl, hc, hd => by
    obtain ⟨x, y, rfl, h2, h3⟩ := hd
    have hx := hl d (by simp) x h2
    refine ⟨⟨x, hx, fun j v hj => hc j v (by
      have : j < x.length := by
        rcases Nat.lt_or_ge j x.length with h | h
        · exact h
        · rw [List.getElem?_eq_none h] at hj; cases hj
      rw [List.getElem?_append_left this]; exact hj), h2⟩, Dat.RowIs.of_all (fun d hd => hl d (by simp [hd])) (fun j v hj => ?_) h3⟩
    have := hc (e + j) v (by rw [List.getElem?_append_right (by omega)]; rw [← hj]; congr 1; omega)
    rw [← this]
    congr 2
    omega
theorem Dat.RowIs.drop {σ : Sto} {e : Nat} : ∀ {ds : List Dat} {b o : Nat} (k : Nat), Dat.RowIs σ e ds b o → Dat.RowIs σ e (ds.drop k) b (o + k * e)
  | [], _, _, k, _ => by simp [Dat.RowIs]
  | d :: ds, b, o, 0, hd => by simpa using hd
  | d :: ds, b, o, k + 1, hd => by
    have := Dat.RowIs.drop k hd.2
    rw [List.drop_succ_cons]
    rw [show o + (k + 1) * e = o + e + k * e by rw [Nat.add_mul]; omega]
    exact this
theorem Dat.RowIs.take {σ : Sto} {e : Nat} : ∀ {ds : List Dat} {b o : Nat} (k : Nat), Dat.RowIs σ e ds b o → Dat.RowIs σ e (ds.take k) b o
  | [], _, _, k, _ => by simp [Dat.RowIs]
  | d :: ds, b, o, 0, hd => by simp [Dat.RowIs]
  | d :: ds, b, o, k + 1, hd => ⟨hd.1, Dat.RowIs.take k hd.2⟩

/-! ### types that lie in cells -/
/-- A type whose things are told by trees of cells. -/
class Cod (α : Type) where
  wid : Nat
  dat : α → Dat
  len : ∀ (σ : Sto) (a : α) (cs : List Value), (dat a).Is σ cs → cs.length = wid
open Cod (wid dat)
/-- These cells hold a. -/
def Cells {α : Type} [Cod α] (σ : Sto) (cs : List Value) (a : α) : Prop := (dat a).Is σ cs
/-- The slice (p, len, cap) holds xs. -/
def Slc {α : Type} [Cod α] (σ : Sto) (p : Option Addr) (len cap : Nat) (xs : List α) : Prop :=
  len = xs.length ∧ len ≤ cap ∧ cap ≤ maxLen ∧ (p = none → cap = 0) ∧ ∃ b o, (len ≠ 0 → p = some ⟨b, o, none⟩) ∧ Dat.RowIs σ (wid α) (xs.map dat) b o

instance : Cod Int := ⟨1, fun n => .int .i64 n, fun _ _ _ h => by obtain ⟨rfl, _⟩ := h; rfl⟩
instance : Cod ByteArray := ⟨1, fun s => .str s, fun _ _ _ h => by obtain ⟨rfl, _⟩ := h; rfl⟩
instance : Cod Bool := ⟨1, fun b => .bool b, fun _ _ _ h => by obtain rfl := h; rfl⟩
instance {α : Type} [Cod α] : Cod (List α) := ⟨1, fun l => .row (wid α) (l.map dat), fun _ _ _ h => by obtain ⟨p, len, cap, rfl, _⟩ := h; rfl⟩
instance {α β : Type} [Cod α] [Cod β] : Cod (α × β) := ⟨wid α + wid β, fun x => .agg [dat x.1, dat x.2], fun σ x cs h => by
  obtain ⟨y, z, rfl, h1, y', z', rfl, h2, h3⟩ := h
  obtain rfl := h3
  simp [Cod.len σ x.1 y h1, Cod.len σ x.2 y' h2]⟩

section
variable {α β : Type} [Cod α] [Cod β] {σ σ' : Sto}
theorem Cells.len {cs : List Value} {a : α} (h : Cells σ cs a) : cs.length = wid α := Cod.len σ a cs h
theorem Cells.ext {N : Nat} {cs : List Value} {a : α} (h : Cells σ cs a) (he : Ext N σ σ') : Cells σ' cs a := Dat.Is.mono he.keep h
theorem Cells.one {cs : List Value} {a : α} (h : Cells σ cs a) : ∀ u ∈ cs, u.oneCell' = true := Dat.Is.one h
theorem Slc.ext {N : Nat} {p : Option Addr} {len cap : Nat} {xs : List α} (h : Slc σ p len cap xs) (he : Ext N σ σ') : Slc σ' p len cap xs := by
  obtain ⟨h1, h2, h3, h4, b, o, h5, h6⟩ := h
  exact ⟨h1, h2, h3, h4, b, o, h5, Dat.RowIs.mono he.keep h6⟩
theorem cells_int {cs : List Value} {n : Int} : Cells σ cs n ↔ cs = [.int .i64 n] ∧ (Lit.int .i64 n).wf = true := Iff.rfl
theorem cells_str {cs : List Value} {s : ByteArray} : Cells σ cs s ↔ cs = [.string s] ∧ s.size ≤ maxLen := Iff.rfl
theorem cells_bool {cs : List Value} {b : Bool} : Cells σ cs b ↔ cs = [.bool b] := Iff.rfl
theorem cells_list {cs : List Value} {xs : List α} : Cells σ cs xs ↔ ∃ p len cap, cs = [.slice p len cap] ∧ Slc σ p len cap xs := by
  constructor
  · rintro ⟨p, len, cap, h1, h2, h3⟩
    exact ⟨p, len, cap, h1, by simpa using h2, h3⟩
  · rintro ⟨p, len, cap, h1, h2, h3⟩
    exact ⟨p, len, cap, h1, by simpa using h2, h3⟩
theorem cells_pair {cs : List Value} {x : α × β} : Cells σ cs x ↔ ∃ y z, cs = y ++ z ∧ Cells σ y x.1 ∧ Cells σ z x.2 := by
  constructor
  · rintro ⟨y, z, rfl, h1, y', z', rfl, h2, h3⟩
    obtain rfl := h3
    exact ⟨y, y', by simp, h1, h2⟩
  · rintro ⟨y, z, rfl, h1, h2⟩
    exact ⟨y, z, rfl, h1, z, [], by simp, h2, rfl⟩

theorem Slc.length {p : Option Addr} {len cap : Nat} {xs : List α} (h : Slc σ p len cap xs) : len = xs.length := h.1
theorem Slc.max {p : Option Addr} {len cap : Nat} {xs : List α} (h : Slc σ p len cap xs) : len ≤ 9223372036854775807 := by
  have h1 := h.2.1
  have h2 := h.2.2.1
  simp only [maxLen] at h2
  omega
theorem Slc.capmax {p : Option Addr} {len cap : Nat} {xs : List α} (h : Slc σ p len cap xs) : cap ≤ 9223372036854775807 := by
  have h2 := h.2.2.1
  simp only [maxLen] at h2
  omega
/-- The k-th of a slice's things. -/
theorem Slc.get {p : Option Addr} {len cap : Nat} {xs : List α} (h : Slc σ p len cap xs) (k : Nat) (hk : k < xs.length) :
    ∃ b o, p = some ⟨b, o, none⟩ ∧ ∃ cs, cs.length = wid α ∧ (∀ j x, cs[j]? = some x → σ ⟨b, o + k * wid α + j, none⟩ = some x) ∧ Cells σ cs xs[k] := by
  obtain ⟨h1, h2, h3, h4, b, o, h5, h6⟩ := h
  refine ⟨b, o, h5 (by omega), ?_⟩
  obtain ⟨cs, c1, c2, c3⟩ := h6.get k (by simpa using hk)
  exact ⟨cs, c1, c2, by simpa [Cells] using c3⟩
theorem Slc.nil (σ : Sto) : Slc (α := α) σ none 0 0 [] := ⟨rfl, Nat.le_refl _, by simp [maxLen], fun _ => rfl, 0, 0, fun h => absurd rfl h, trivial⟩

/-! ### rows that the call itself owns -/
/-- The call's own row v of the things xs: of its block nothing is known to others. -/
structure Own (σ : Sto) (N : Nat) (w : World) (e : TypeId) (v : Value) (xs : List α) : Prop where
  row : ∃ cs : List Value, w.ownsRow N e (wid α) v xs.length cs ∧ Dat.AggIs σ (xs.map dat) cs
  free : ∀ g, v.ownBlock = some g → ∀ p : Addr, p.block = g → σ p = none

theorem Own.nil (σ : Sto) (N : Nat) (w : World) (e : TypeId) : Own (α := α) σ N w e (.slice none 0 0) [] :=
  ⟨⟨[], World.ownsRow_nil w N e _, rfl⟩, fun g h => by simp [Value.ownBlock] at h⟩
theorem Own.lt {N : Nat} {w : World} {e : TypeId} {v : Value} {xs : List α} (h : Own σ N w e v xs) : ∀ g, v.ownBlock = some g → N ≤ g ∧ g < w.heap.size := by
  obtain ⟨cs, h1, _⟩ := h.row
  exact h1.lt
theorem Own.shape {N : Nat} {w : World} {e : TypeId} {v : Value} {xs : List α} (h : Own σ N w e v xs) : ∃ p c, v = .slice p xs.length c ∧ xs.length ≤ c ∧ c ≤ maxLen ∧ (p = none → c = 0) ∧ (∀ a, p = some a → ∃ g, a = ⟨g, 0, none⟩ ∧ N ≤ g ∧ g < w.heap.size) := by
  obtain ⟨cs, ⟨h1, h2⟩, h3⟩ := h.row
  rcases h2 with ⟨rfl, h0⟩ | ⟨g, cap, cur, rfl, hg, hh, hn, hm, _⟩
  · exact ⟨none, 0, by rw [h0], by omega, by simp [maxLen], fun _ => rfl, by simp⟩
  · refine ⟨_, cap, rfl, hn, hm, by simp, fun a ha => ⟨g, by cases ha; rfl, hg, ?_⟩⟩
    exact (Array.getElem?_eq_some_iff.1 hh).1
theorem Own.mono {N M : Nat} {w : World} {e : TypeId} {v : Value} {xs : List α} (h : Own σ N w e v xs) (hm : M ≤ N) : Own σ M w e v xs := by
  obtain ⟨⟨cs, ⟨h1, h2⟩, h3⟩, h4⟩ := h
  refine ⟨⟨cs, ⟨h1, ?_⟩, h3⟩, h4⟩
  rcases h2 with h0 | ⟨g, cap, cur, hv, hg, r⟩
  · exact .inl h0
  · exact .inr ⟨g, cap, cur, hv, by omega, r⟩
/-- Other memory turned; more is known. -/
theorem Own.kept {N : Nat} {w w' : World} {e : TypeId} {v : Value} {xs : List α} (h : Own σ N w e v xs) (hb : ∀ g, v.ownBlock = some g → w'.heap[g]? = w.heap[g]?) (he : ∀ p x, σ p = some x → σ' p = some x)
    (hn : ∀ g, v.ownBlock = some g → ∀ p : Addr, p.block = g → σ' p = σ p) : Own σ' N w' e v xs := by
  obtain ⟨cs, ⟨h1, h2⟩, h3⟩ := h.row
  refine ⟨⟨cs, ⟨h1, ?_⟩, Dat.AggIs.mono he h3⟩, fun g hg p hp => (hn g hg p hp).trans (h.free g hg p hp)⟩
  rcases h2 with h0 | ⟨g, cap, cur, rfl, r⟩
  · exact .inl h0
  · exact .inr ⟨g, cap, cur, rfl, r.1, by rw [hb g rfl]; exact r.2.1, r.2.2⟩
theorem Own.call {N : Nat} {w w' : World} {e : TypeId} {v : Value} {xs : List α} (h : Own σ N w e v xs) (hb : Below w.heap.size w w') (he : Ext w.heap.size σ σ') : Own σ' N w' e v xs :=
  h.kept (fun g hg => hb.block g (h.lt g hg).2) he.keep (fun g hg p hp => he.old p (by have := (h.lt g hg).2; omega))
theorem Own.below {N : Nat} {w w' : World} {e : TypeId} {v : Value} {xs : List α} (h : Own σ N w e v xs) (hb : Below w.heap.size w w') : Own σ N w' e v xs := h.call hb (Ext.refl _ _)
theorem Own.drew {N : Nat} {w : World} {e : TypeId} {v : Value} {xs : List α} (h : Own σ N w e v xs) : Own σ N w.drew e v xs := h.kept (fun _ _ => rfl) (fun _ _ h => h) (fun _ _ _ _ => rfl)
theorem Own.alloc {N : Nat} {w : World} {e : TypeId} {v : Value} {xs : List α} (h : Own σ N w e v xs) (o : Obj) : Own σ N (w.alloc o) e v xs := h.below ((Below.refl _ _).alloc (Nat.le_refl _) _)
theorem Own.setCell {N : Nat} {w : World} {e : TypeId} {v : Value} {xs : List α} (h : Own σ N w e v xs) {p : Addr} (hp : v.ownBlock ≠ some p.block) (u : Value) : Own σ N (w.setCell p u) e v xs :=
  h.kept (fun g hg => Below.heap_setCell w p u g (fun e => hp (by rw [hg, e]))) (fun _ _ h => h) (fun _ _ _ _ => rfl)

/-- The row is done: its things are known to stay from now on. -/
theorem Own.done {N : Nat} {w : World} {e : TypeId} {v : Value} {xs : List α} (h : Own σ N w e v xs) (hf : Fit σ w) (M : Nat) (hM : M ≤ N) :
    ∃ σ', Ext M σ σ' ∧ Fit σ' w ∧ (∀ p : Addr, some p.block ≠ v.ownBlock → σ' p = σ p) ∧ ∃ p len cap, v = .slice p len cap ∧ Slc σ' p len cap xs := by
  obtain ⟨cs, ⟨h1, h2⟩, h3⟩ := h.row
  rcases h2 with ⟨rfl, h0⟩ | ⟨g, cap, cur, rfl, hg, hh, hn, hm, hcs, htake⟩
  · have : xs = [] := List.eq_nil_of_length_eq_zero h0
    subst this
    exact ⟨σ, Ext.refl _ _, hf, fun _ _ => rfl, none, 0, 0, rfl, Slc.nil σ⟩
  · have hfree := h.free g rfl
    refine ⟨fun p => if p.block = g ∧ p.off < cs.length ∧ p.spot = none then w.cell? p else σ p, ⟨fun p x hp => ?_, fun p hp => ?_⟩, fun p x hp => ?_, fun p hp => ?_, some ⟨g, 0, none⟩, xs.length, cap, rfl, rfl, hn, hm, by simp, g, 0, fun _ => rfl, ?_⟩
    · show (if _ then _ else _) = _
      split
      · rename_i hc
        rw [← look_none hc.2.2]
        exact hf p x hp
      · exact hp
    · show (if _ then _ else _) = _
      rw [if_neg (by omega)]
    · dsimp only at hp
      split at hp
      · rename_i hc
        rw [look_none hc.2.2]
        exact hp
      · exact hf p x hp
    · show (if _ then _ else _) = _
      rw [if_neg]
      rintro ⟨rfl, _⟩
      exact hp (by simp [Value.ownBlock])
    · refine Dat.RowIs.of_all (cs := cs) ?_ ?_ (Dat.AggIs.mono ?_ h3)
      · intro d hd ys hy
        obtain ⟨a, _, rfl⟩ := List.mem_map.1 hd
        exact Cod.len _ a ys hy
      · intro j x hj
        have hjl : j < cs.length := by
          rcases Nat.lt_or_ge j cs.length with h' | h'
          · exact h'
          · rw [List.getElem?_eq_none h'] at hj; cases hj
        show (if _ then _ else _) = _
        rw [if_pos ⟨rfl, by simpa using hjl, rfl⟩]
        have := World.ownsRow.cells (w := w) (base := N) (e := e) (size := wid α) (v := .slice (some ⟨g, 0, none⟩) xs.length cap) (n := xs.length) (xs := cs) ⟨h1, .inr ⟨g, cap, cur, rfl, hg, hh, hn, hm, hcs, htake⟩⟩ (g := g) rfl j x hj
        have hadd : (⟨g, 0, none⟩ : Addr).add j = ⟨g, 0 + j, none⟩ := by unfold Addr.add; split <;> simp_all
        rw [hadd] at this
        exact this
      · intro p x hp
        show (if _ then _ else _) = _
        rw [if_neg]
        · exact hp
        · rintro ⟨hb, _⟩
          rw [hfree p hb] at hp
          cases hp

/-- One thing more behind the row's: what append does (the thing's cells lie at ad). -/
theorem Own.snoc {P : Program} {N : Nat} {w : World} {e : TypeId} {v : Value} {xs : List α} (h : Own σ N w e v xs) (hf : Fit σ w) (t ty : TypeId) (i : TypeInfo) (z : Value) (bytes : Nat)
    (ht : P.underlying t = some (.slice e)) (hi : P.info? e = some i) (hz : i.zero = some z) (hsize : i.size = wid α) (hby : i.bytes = bytes) (hzs : z.cells.size = wid α) (hsz : 0 < wid α)
    (ad : Addr) (m c : Nat) (ys : List α) (news : List Value) (hl : news.length = ys.length * wid α) (hm : m = ys.length) (hnews : ∀ j u, news[j]? = some u → w.cell? (ad.add j) = some u) (hys : Dat.AggIs σ (ys.map dat) news)
    (h63 : xs.length + m ≤ maxLen) (hbytes : (xs.length + m) * bytes ≤ 140737488355328) (hN : N ≤ w.heap.size) :
    ∃ v' w', (Builtin.append_ #[t, t] ty #[v, .slice (some ad) m c]).run P w = .ok v' w' ∧ Own σ N w' e v' (xs ++ ys) ∧ Fit σ w' ∧ w.grownBy w' v.ownBlock ∧ (v'.ownBlock = v.ownBlock ∨ v'.ownBlock = some w.heap.size) ∧ ∃ p c', v' = .slice p (xs.length + m) c' := by
  subst hm
  obtain ⟨cs, h1, h2⟩ := h.row
  obtain ⟨v', w', hr, k1, k2, _, k3⟩ := run_append_own_at (P := P) w N t ty e i z (wid α) bytes ht hi hz hsize hby hzs hsz v xs.length cs h1 ad ys.length c news hl hnews (Dat.AggIs.one hys) h63 hbytes hN
  have hrow : ∃ cs' : List Value, w'.ownsRow N e (wid α) v' (xs ++ ys).length cs' ∧ Dat.AggIs σ ((xs ++ ys).map dat) cs' := ⟨cs ++ news, by simpa using k1, by rw [List.map_append]; exact h2.append hys⟩
  have hfit : Fit σ w' := fun p x hp => by
    by_cases hb : some p.block = v.ownBlock
    · exact absurd (h.free p.block hb.symm p rfl) (by rw [hp]; simp)
    · exact (look_of_block (k2.block p.block (hf.lt hp) hb)).trans (hf p x hp)
  refine ⟨v', w', hr, ⟨hrow, fun g hg p hp => ?_⟩, hfit, k2, k3, ?_⟩
  · rcases k3 with k3 | k3
    · exact h.free g (by rw [← k3]; exact hg) p hp
    · rw [hg] at k3
      exact hf.no (by simp at k3; omega)
  · rcases k1.2 with ⟨rfl, h0⟩ | ⟨g, cap, cur, rfl, _⟩
    · exact ⟨none, 0, by rw [h0]⟩
    · exact ⟨_, _, rfl⟩
end
end Go.Proofs.YtbiadmlfejnbcaaGreatDoor

namespace Go.Proofs.YtbiadmlfejnbcaaGreatDoor
open Go Go.RowKit
set_option linter.unusedVariables false

/-- Cells that stay. -/
inductive SV where
  | int (k : IntKind) (n : Int)
  | str (s : ByteArray)
  | bool (b : Bool)
  | list (xs : List (List SV))
  | lit (v : Value)
  | err
/-- Cells of a call's slots and own blocks. -/
inductive AC where
  | st (c : SV)
  | full (xs : List (List SV))
  | row (id n : Nat)
  | ptr (id n k off : Nat)
  | eptr (cs : List SV)
  | fn (f : Nat) (caps : List AC)
  | any
inductive AV where
  | one (c : AC)
  | agg (cs : List AC)
  | tup (vs : List AV)
  | any
/-- A call's own block: cells of one thing; a row that only grows; a row that is written. -/
inductive ABlk where
  | box (e : TypeId) (cs : List AC)
  | arow (e : TypeId) (w : Nat) (xs : List (List SV))
  | mrow (e : TypeId) (w : Nat) (xs : List (List SV))
def ABlk.len : ABlk → Nat
  | .box _ _ => 1
  | .arow _ _ xs => xs.length
  | .mrow _ _ xs => xs.length
def ABlk.wid : ABlk → Nat
  | .box _ _ => 0
  | .arow _ w _ => w
  | .mrow _ w _ => w
abbrev AStore := Nat → Option ABlk
/-- Where a block lies: a slice's address and room; the block's number where the call owns one. -/
structure Hnd where
  p : Option Addr
  cap : Nat
  g : Option Nat
abbrev AHnd := Nat → Hnd

def inR (k : IntKind) (n : Int) : Prop := k.min ≤ n ∧ n ≤ k.max

inductive All2 {α β : Type} (R : α → β → Prop) : List α → List β → Prop
  | nil : All2 R [] []
  | cons {a b l m} : R a b → All2 R l m → All2 R (a :: l) (b :: m)
section
variable {α β : Type} {R R' : α → β → Prop}
theorem All2.mono (h : ∀ a b, R a b → R' a b) : ∀ {l m}, All2 R l m → All2 R' l m
  | _, _, .nil => .nil
  | _, _, .cons x y => .cons (h _ _ x) (All2.mono h y)
theorem All2.len : ∀ {l m}, All2 R l m → l.length = m.length
  | _, _, .nil => rfl
  | _, _, .cons x y => by simp [All2.len y]
theorem All2.get : ∀ {l m}, All2 R l m → ∀ {j : Nat} {b : β}, m[j]? = some b → ∃ a, l[j]? = some a ∧ R a b
  | _, _, .nil, j, b, h => by simp at h
  | _, _, .cons x y, 0, b, h => by simp at h; subst h; exact ⟨_, rfl, x⟩
  | _, _, .cons x y, j + 1, b, h => by simpa using All2.get y (by simpa using h)
theorem All2.get' : ∀ {l m}, All2 R l m → ∀ {j : Nat} {a : α}, l[j]? = some a → ∃ b, m[j]? = some b ∧ R a b
  | _, _, .nil, j, b, h => by simp at h
  | _, _, .cons x y, 0, b, h => by simp at h; subst h; exact ⟨_, rfl, x⟩
  | _, _, .cons x y, j + 1, b, h => by simpa using All2.get' y (by simpa using h)
theorem All2.of_get : ∀ {l : List α} {m : List β}, l.length = m.length → (∀ (j : Nat) a b, l[j]? = some a → m[j]? = some b → R a b) → All2 R l m
  | [], [], _, _ => .nil
  | a :: l, b :: m, h, hr => .cons (hr 0 a b rfl rfl) (All2.of_get (by simpa using h) fun j a b ha hb => hr (j + 1) a b (by simpa using ha) (by simpa using hb))
theorem All2.append : ∀ {l m l' m'}, All2 R l m → All2 R l' m' → All2 R (l ++ l') (m ++ m')
  | _, _, _, _, .nil, h => h
  | _, _, _, _, .cons x y, h => .cons x (All2.append y h)
theorem All2.take : ∀ {l m}, All2 R l m → ∀ k, All2 R (l.take k) (m.take k)
  | _, _, .nil, k => by simpa using All2.nil
  | _, _, .cons x y, 0 => .nil
  | _, _, .cons x y, k + 1 => .cons x (All2.take y k)
theorem All2.drop : ∀ {l m}, All2 R l m → ∀ k, All2 R (l.drop k) (m.drop k)
  | _, _, .nil, k => by simpa using All2.nil
  | _, _, .cons x y, 0 => .cons x y
  | _, _, .cons x y, k + 1 => All2.drop y k
theorem All2.map_right {γ : Type} {f : γ → β} : ∀ {l : List α} {m : List γ}, All2 (fun a c => R a (f c)) l m → All2 R l (m.map f)
  | _, _, .nil => .nil
  | _, _, .cons x y => .cons x (All2.map_right y)
theorem All2.of_map_right {γ : Type} {f : γ → β} : ∀ {l : List α} {m : List γ}, All2 R l (m.map f) → All2 (fun a c => R a (f c)) l m
  | [], [], _ => .nil
  | _ :: _, _ :: _, .cons x y => .cons x (All2.of_map_right y)
end

/-- The value v is the cell c, as long as the part σ of memory stays. -/
inductive SRep (σ : Sto) : Value → SV → Prop
  | int {k n} : inR k n → SRep σ (.int k n) (.int k n)
  | str {s} : s.size ≤ maxLen → SRep σ (.string s) (.str s)
  | bool {b} : SRep σ (.bool b) (.bool b)
  | list {p len cap b o w xs} (c : Nat → Nat → Value) : len = xs.length → len ≤ cap → cap ≤ maxLen → (p = none → cap = 0) → (len ≠ 0 → p = some ⟨b, o, none⟩) → (∀ x ∈ xs, x.length = w) →
      (∀ k x j a, xs[k]? = some x → x[j]? = some a → σ ⟨b, o + k * w + j, none⟩ = some (c k j)) → (∀ k x j a, xs[k]? = some x → x[j]? = some a → SRep σ (c k j) a) → SRep σ (.slice p len cap) (.list xs)
  | lit {v} : v.oneCell' = true → SRep σ v (.lit v)
  | err {t x} : SRep σ (.iface t x) .err

theorem SRep.mono {σ σ' : Sto} (h : ∀ p x, σ p = some x → σ' p = some x) {v : Value} {c : SV} (hr : SRep σ v c) : SRep σ' v c := by
  induction hr with
  | int h => exact .int h
  | str h => exact .str h
  | bool => exact .bool
  | list c h1 h2 h3 h4 h5 h6 h7 h8 ih => exact .list c h1 h2 h3 h4 h5 h6 (fun k x j a hx ha => h _ _ (h7 k x j a hx ha)) ih
  | lit h => exact .lit h
  | err => exact .err
theorem SRep.one {σ : Sto} {v : Value} {c : SV} (hr : SRep σ v c) : v.oneCell' = true := by
  cases hr <;> first | assumption | rfl
theorem cells_of_one {v : Value} (h : v.oneCell' = true) : v.cells = #[v] := by
  cases v <;> first | rfl | simp [Value.oneCell'] at h

inductive ARep (σ : Sto) (S : AStore) (ι : AHnd) : Value → AC → Prop
  | st {v c} : SRep σ v c → ARep σ S ι v (.st c)
  | full {p len xs} : SRep σ (.slice p len len) (.list xs) → ARep σ S ι (.slice p len len) (.full xs)
  | row {v id n b} : S id = some b → n ≤ b.len → v.oneCell' = true → (n = b.len → v = .slice (ι id).p n (ι id).cap) → ARep σ S ι v (.row id n)
  | ptr {v id n k off b} : S id = some b → n ≤ b.len → v.oneCell' = true → (n = b.len → ∃ g, (ι id).g = some g ∧ v = .pointer (some ⟨g, k * b.wid + off, none⟩)) → ARep σ S ι v (.ptr id n k off)
  | eptr {b o cs} (c : Nat → Value) : (∀ j a, cs[j]? = some a → σ ⟨b, o + j, none⟩ = some (c j)) → (∀ j a, cs[j]? = some a → SRep σ (c j) a) → ARep σ S ι (.pointer (some ⟨b, o, none⟩)) (.eptr cs)
  | fn {f vs caps} (c : Nat → Value) : vs.size = caps.length → (∀ j a, caps[j]? = some a → vs[j]? = some (c j)) → (∀ j a, caps[j]? = some a → ARep σ S ι (c j) a) → ARep σ S ι (.func (.func f) #[] vs) (.fn f caps)
  | any {v} : v.oneCell' = true → ARep σ S ι v .any

/-- What is known of blocks stays: a block may grow. -/
def Upd (S : AStore) (ι : AHnd) (S' : AStore) (ι' : AHnd) : Prop := ∀ id b, S id = some b → ∃ b', S' id = some b' ∧ b.len ≤ b'.len ∧ (b'.len = b.len → b'.wid = b.wid ∧ ι' id = ι id)
theorem Upd.trans {S1 S2 S3 : AStore} {ι1 ι2 ι3 : AHnd} (h : Upd S1 ι1 S2 ι2) (k : Upd S2 ι2 S3 ι3) : Upd S1 ι1 S3 ι3 := fun id b hb => by
  obtain ⟨b2, h1, h2, h3⟩ := h id b hb
  obtain ⟨b3, k1, k2, k3⟩ := k id b2 h1
  refine ⟨b3, k1, by omega, fun he => ?_⟩
  obtain ⟨q1, q2⟩ := h3 (by omega)
  obtain ⟨p1, p2⟩ := k3 (by omega)
  exact ⟨p1.trans q1, p2.trans q2⟩
theorem Upd.refl (S : AStore) (ι : AHnd) : Upd S ι S ι := fun id b h => ⟨b, h, Nat.le_refl _, fun _ => ⟨rfl, rfl⟩⟩

theorem ARep.mono {σ σ' : Sto} {S S' : AStore} {ι ι' : AHnd} (h : ∀ p x, σ p = some x → σ' p = some x) (hu : Upd S ι S' ι') {v : Value} {c : AC} (hr : ARep σ S ι v c) : ARep σ' S' ι' v c := by
  induction hr with
  | st h1 => exact .st (h1.mono h)
  | full h1 => exact .full (h1.mono h)
  | row h1 h2 h3 h4 =>
    obtain ⟨b', k1, k2, k3⟩ := hu _ _ h1
    refine .row k1 (by omega) h3 (fun hn => ?_)
    rw [(k3 (by omega)).2]
    exact h4 (by omega)
  | ptr h1 h2 h3 h4 =>
    obtain ⟨b', k1, k2, k3⟩ := hu _ _ h1
    refine .ptr k1 (by omega) h3 (fun hn => ?_)
    obtain ⟨g, g1, g2⟩ := h4 (by omega)
    obtain ⟨e1, e2⟩ := k3 (by omega)
    exact ⟨g, by rw [e2]; exact g1, by rw [e1]; exact g2⟩
  | eptr c h1 h2 => exact .eptr c (fun j a ha => h _ _ (h1 j a ha)) (fun j a ha => (h2 j a ha).mono h)
  | fn c h1 h2 h3 ih => exact .fn c h1 h2 ih
  | any h1 => exact .any h1
theorem ARep.one {σ : Sto} {S : AStore} {ι : AHnd} {v : Value} {c : AC} (hr : ARep σ S ι v c) : v.oneCell' = true := by
  cases hr with
  | st h => exact h.one
  | full h => exact h.one
  | row _ _ h _ => exact h
  | ptr _ _ h _ => exact h
  | eptr => rfl
  | fn => rfl
  | any h => exact h

inductive VRep (σ : Sto) (S : AStore) (ι : AHnd) : Value → AV → Prop
  | one {v c} : ARep σ S ι v c → VRep σ S ι v (.one c)
  | agg {vs cs} : All2 (ARep σ S ι) vs.toList cs → VRep σ S ι (.agg vs) (.agg cs)
  | tup {vs ps} (c : Nat → Value) : vs.size = ps.length → (∀ j a, ps[j]? = some a → vs[j]? = some (c j)) → (∀ j a, ps[j]? = some a → VRep σ S ι (c j) a) → VRep σ S ι (.tuple vs) (.tup ps)
  | any {v} : VRep σ S ι v .any
theorem VRep.mono {σ σ' : Sto} {S S' : AStore} {ι ι' : AHnd} (h : ∀ p x, σ p = some x → σ' p = some x) (hu : Upd S ι S' ι') {v : Value} {c : AV} (hr : VRep σ S ι v c) : VRep σ' S' ι' v c := by
  induction hr with
  | one h1 => exact .one (h1.mono h hu)
  | agg h1 => exact .agg (h1.mono fun _ _ x => x.mono h hu)
  | tup c h1 h2 h3 ih => exact .tup c h1 h2 ih
  | any => exact .any

def AV.cells : AV → Option (List AC)
  | .one c => some [c]
  | .agg cs => some cs
  | _ => none
theorem VRep.cells {σ : Sto} {S : AStore} {ι : AHnd} {v : Value} {a : AV} {cs : List AC} (h : VRep σ S ι v a) (hc : a.cells = some cs) : All2 (ARep σ S ι) v.cells.toList cs := by
  cases h with
  | one h1 =>
    simp only [AV.cells, Option.some.injEq] at hc
    subst hc
    rw [cells_of_one h1.one]
    exact .cons h1 .nil
  | agg h1 =>
    simp only [AV.cells, Option.some.injEq] at hc
    subst hc
    exact h1
  | tup => simp [AV.cells] at hc
  | any => simp [AV.cells] at hc

/-- What a block of the call's own holds. -/
inductive BRep (σ : Sto) (S : AStore) (ι : AHnd) (w : World) (h : Hnd) : ABlk → Prop
  | box {e cs g vs} : h.g = some g → h.p = some ⟨g, 0, none⟩ → w.heap[g]? = some (.cells vs e (0, 0)) → All2 (ARep σ S ι) vs.toList cs → (∀ p : Addr, p.block = g → σ p = none) → BRep σ S ι w h (.box e cs)
  | afull {e wd xs} : h.g = none → h.cap = xs.length → (∀ x ∈ xs, x.length = wd) → SRep σ (.slice h.p xs.length h.cap) (.list xs) → BRep σ S ι w h (.arow e wd xs)
  | arow {e wd xs g vs} : h.g = some g → h.p = some ⟨g, 0, none⟩ → w.heap[g]? = some (.cells vs e (0, 0)) → xs.length ≤ h.cap → h.cap ≤ maxLen → vs.size = h.cap * wd → (∀ x ∈ xs, x.length = wd) →
      (∀ k x j a, xs[k]? = some x → x[j]? = some a → ∃ v, vs[k * wd + j]? = some v ∧ SRep σ v a ∧ σ ⟨g, k * wd + j, none⟩ = some v) → (∀ p : Addr, p.block = g → σ p ≠ none → p.off < xs.length * wd) → BRep σ S ι w h (.arow e wd xs)
  | mnil {e wd} : h.g = none → h.cap = 0 → BRep σ S ι w h (.mrow e wd [])
  | mrow {e wd xs g vs} : h.g = some g → h.p = some ⟨g, 0, none⟩ → w.heap[g]? = some (.cells vs e (0, 0)) → xs.length ≤ h.cap → h.cap ≤ maxLen → vs.size = h.cap * wd → (∀ x ∈ xs, x.length = wd) →
      (∀ k x j a, xs[k]? = some x → x[j]? = some a → ∃ v, vs[k * wd + j]? = some v ∧ SRep σ v a) → (∀ p : Addr, p.block = g → σ p = none) → BRep σ S ι w h (.mrow e wd xs)

theorem BRep.gsome {σ : Sto} {S : AStore} {ι : AHnd} {w : World} {h : Hnd} {b : ABlk} (hr : BRep σ S ι w h b) {g : Nat} (hg : h.g = some g) : g < w.heap.size := by
  cases hr with
  | box h1 h2 h3 => rw [h1] at hg; cases hg; exact (Array.getElem?_eq_some_iff.1 h3).1
  | afull h1 => rw [h1] at hg; cases hg
  | arow h1 h2 h3 => rw [h1] at hg; cases hg; exact (Array.getElem?_eq_some_iff.1 h3).1
  | mnil h1 => rw [h1] at hg; cases hg
  | mrow h1 h2 h3 => rw [h1] at hg; cases hg; exact (Array.getElem?_eq_some_iff.1 h3).1
/-- Other memory turned; more is known. -/
theorem BRep.mono {σ σ' : Sto} {S S' : AStore} {ι ι' : AHnd} {w w' : World} {h : Hnd} {b : ABlk} (hr : BRep σ S ι w h b) (hs : ∀ p x, σ p = some x → σ' p = some x) (hu : Upd S ι S' ι')
    (hw : ∀ g, h.g = some g → w'.heap[g]? = w.heap[g]?) (hn : ∀ g, h.g = some g → ∀ p : Addr, p.block = g → σ' p = σ p) : BRep σ' S' ι' w' h b := by
  cases hr with
  | box h1 h2 h3 h4 h5 => exact .box h1 h2 ((hw _ h1).trans h3) (h4.mono fun _ _ x => x.mono hs hu) fun p hp => (hn _ h1 p hp).trans (h5 p hp)
  | afull h1 h2 h3 h4 => exact .afull h1 h2 h3 (h4.mono hs)
  | arow h1 h2 h3 h4 h5 h6 h7 h8 h9 =>
    refine .arow h1 h2 ((hw _ h1).trans h3) h4 h5 h6 h7 (fun k x j a hx ha => ?_) fun p hp hne => h9 p hp (by rw [← hn _ h1 p hp]; exact hne)
    obtain ⟨v, v1, v2, v3⟩ := h8 k x j a hx ha
    exact ⟨v, v1, v2.mono hs, hs _ _ v3⟩
  | mnil h1 h2 => exact .mnil h1 h2
  | mrow h1 h2 h3 h4 h5 h6 h7 h8 h9 =>
    refine .mrow h1 h2 ((hw _ h1).trans h3) h4 h5 h6 h7 (fun k x j a hx ha => ?_) fun p hp => (hn _ h1 p hp).trans (h9 p hp)
    obtain ⟨v, v1, v2⟩ := h8 k x j a hx ha
    exact ⟨v, v1, v2.mono hs⟩

/-- A growing row, read as a slice that stays. -/
theorem BRep.srep {σ : Sto} {S : AStore} {ι : AHnd} {w : World} {h : Hnd} {e : TypeId} {wd : Nat} {xs : List (List SV)} (hr : BRep σ S ι w h (.arow e wd xs)) : SRep σ (.slice h.p xs.length h.cap) (.list xs) := by
  cases hr with
  | afull h1 h2 h3 h4 => exact h4
  | @arow _ _ _ g vs h1 h2 h3 h4 h5 h6 h7 h8 h9 =>
    refine .list (b := g) (o := 0) (w := wd) (fun k j => (σ ⟨g, k * wd + j, none⟩).getD undef) rfl h4 h5 (by simp [h2]) (fun _ => h2) h7 (fun k x j a hx ha => ?_) (fun k x j a hx ha => ?_)
    · obtain ⟨v, v1, v2, v3⟩ := h8 k x j a hx ha
      simp [v3]
    · obtain ⟨v, v1, v2, v3⟩ := h8 k x j a hx ha
      simpa [v3] using v2

/-! ### other names for blocks -/
mutual
def AC.ren (ρ : Nat → Nat) : AC → AC
  | .st c => .st c
  | .full xs => .full xs
  | .row id n => .row (ρ id) n
  | .ptr id n k off => .ptr (ρ id) n k off
  | .eptr cs => .eptr cs
  | .fn f caps => .fn f (AC.rens ρ caps)
  | .any => .any
def AC.rens (ρ : Nat → Nat) : List AC → List AC
  | [] => []
  | c :: cs => c.ren ρ :: AC.rens ρ cs
end
mutual
def AV.ren (ρ : Nat → Nat) : AV → AV
  | .one c => .one (c.ren ρ)
  | .agg cs => .agg (AC.rens ρ cs)
  | .tup vs => .tup (AV.rens ρ vs)
  | .any => .any
def AV.rens (ρ : Nat → Nat) : List AV → List AV
  | [] => []
  | c :: cs => c.ren ρ :: AV.rens ρ cs
end
def ABlk.ren (ρ : Nat → Nat) : ABlk → ABlk
  | .box e cs => .box e (AC.rens ρ cs)
  | b => b
theorem AC.rens_eq (ρ : Nat → Nat) : ∀ cs : List AC, AC.rens ρ cs = cs.map (AC.ren ρ)
  | [] => rfl
  | c :: cs => by rw [AC.rens, AC.rens_eq ρ cs]; rfl
theorem AV.rens_eq (ρ : Nat → Nat) : ∀ cs : List AV, AV.rens ρ cs = cs.map (AV.ren ρ)
  | [] => rfl
  | c :: cs => by rw [AV.rens, AV.rens_eq ρ cs]; rfl
theorem ren_len (ρ : Nat → Nat) (b : ABlk) : (b.ren ρ).len = b.len := by cases b <;> rfl
theorem ren_wid (ρ : Nat → Nat) (b : ABlk) : (b.ren ρ).wid = b.wid := by cases b <;> rfl
section
variable {σ : Sto} {S S2 : AStore} {ι ι2 : AHnd} {ρ : Nat → Nat}
theorem ARep.ren (hS : ∀ i b, S i = some b → S2 (ρ i) = some (b.ren ρ)) (hι : ∀ i b, S i = some b → ι2 (ρ i) = ι i) {v : Value} {c : AC} (h : ARep σ S ι v c) : ARep σ S2 ι2 v (c.ren ρ) := by
  induction h with
  | st h => exact .st h
  | full h => exact .full h
  | row h1 h2 h3 h4 => exact .row (hS _ _ h1) (by rw [ren_len]; exact h2) h3 (fun hn => by rw [hι _ _ h1]; exact h4 (by rw [ren_len] at hn; exact hn))
  | ptr h1 h2 h3 h4 => exact .ptr (hS _ _ h1) (by rw [ren_len]; exact h2) h3 (fun hn => by rw [hι _ _ h1, ren_wid]; exact h4 (by rw [ren_len] at hn; exact hn))
  | eptr c h1 h2 => exact .eptr c h1 h2
  | @fn f vs caps c h1 h2 h3 ih =>
    have key : ∀ (j : Nat) (b : AC), (AC.rens ρ caps)[j]? = some b → ∃ a, caps[j]? = some a ∧ b = a.ren ρ := fun j b hb => by
      rw [AC.rens_eq, List.getElem?_map, Option.map_eq_some_iff] at hb
      obtain ⟨a, ha, rfl⟩ := hb
      exact ⟨a, ha, rfl⟩
    refine .fn c (by rw [AC.rens_eq]; simpa using h1) (fun j b hb => ?_) (fun j b hb => ?_)
    · obtain ⟨a, ha, rfl⟩ := key j b hb
      exact h2 j a ha
    · obtain ⟨a, ha, rfl⟩ := key j b hb
      exact ih j a ha
  | any h => exact .any h
mutual
theorem VRep.ren (hS : ∀ i b, S i = some b → S2 (ρ i) = some (b.ren ρ)) (hι : ∀ i b, S i = some b → ι2 (ρ i) = ι i) : ∀ {v : Value} {c : AV}, VRep σ S ι v c → VRep σ S2 ι2 v (c.ren ρ)
  | v, .one c, h => by cases h with | one h => exact .one (h.ren hS hι)
  | v, .agg cs, h => by
    cases h with
    | agg h =>
      show VRep σ S2 ι2 _ (.agg (AC.rens ρ cs))
      rw [AC.rens_eq]
      exact .agg ((h.mono fun _ _ x => x.ren hS hι).map_right)
  | v, .tup vs, h => by
    cases h with
    | tup c h1 h2 h3 =>
      obtain ⟨k1, k2⟩ := VRep.rens hS hι (c := c) h3
      exact .tup c (by rw [h1, k1]) (fun j b hb => by
        rcases Nat.lt_or_ge j vs.length with hj | hj
        · exact h2 j _ (List.getElem?_eq_getElem hj)
        · rw [List.getElem?_eq_none (by omega)] at hb; cases hb) k2
  | v, .any, h => .any
theorem VRep.rens (hS : ∀ i b, S i = some b → S2 (ρ i) = some (b.ren ρ)) (hι : ∀ i b, S i = some b → ι2 (ρ i) = ι i) : ∀ {vs : List AV} {c : Nat → Value}, (∀ j b, vs[j]? = some b → VRep σ S ι (c j) b) → vs.length = (AV.rens ρ vs).length ∧ ∀ j b, (AV.rens ρ vs)[j]? = some b → VRep σ S2 ι2 (c j) b
  | [], c, h => by simp [AV.rens]
  | x :: xs, c, h => by
    obtain ⟨m1, m2⟩ := VRep.rens hS hι (vs := xs) (c := fun j => c (j + 1)) (fun j b hb => h (j + 1) b (by simpa using hb))
    refine ⟨by simp [AV.rens, ← m1], fun j b hb => ?_⟩
    cases j with
    | zero =>
      simp [AV.rens] at hb
      subst hb
      exact VRep.ren hS hι (h 0 x rfl)
    | succ j => exact m2 j b (by simpa [AV.rens] using hb)
end
theorem BRep.ren (hS : ∀ i b, S i = some b → S2 (ρ i) = some (b.ren ρ)) (hι : ∀ i b, S i = some b → ι2 (ρ i) = ι i) {w : World} {h : Hnd} {b : ABlk} (hr : BRep σ S ι w h b) : BRep σ S2 ι2 w h (b.ren ρ) := by
  cases hr with
  | box h1 h2 h3 h4 h5 =>
    refine .box h1 h2 h3 ?_ h5
    rw [AC.rens_eq]
    exact (h4.mono fun _ _ x => x.ren hS hι).map_right
  | afull h1 h2 h3 h4 => exact .afull h1 h2 h3 h4
  | arow h1 h2 h3 h4 h5 h6 h7 h8 h9 => exact .arow h1 h2 h3 h4 h5 h6 h7 h8 h9
  | mnil h1 h2 => exact .mnil h1 h2
  | mrow h1 h2 h3 h4 h5 h6 h7 h8 h9 => exact .mrow h1 h2 h3 h4 h5 h6 h7 h8 h9
end
mutual
theorem AC.ren_ren (ρ τ : Nat → Nat) (h : ∀ i, τ (ρ i) = i) : ∀ c : AC, (c.ren ρ).ren τ = c
  | .st c => rfl
  | .full xs => rfl
  | .row id n => by simp only [AC.ren, h]
  | .ptr id n k off => by simp only [AC.ren, h]
  | .eptr cs => rfl
  | .fn f caps => by simp only [AC.ren, AC.rens_rens ρ τ h caps]
  | .any => rfl
theorem AC.rens_rens (ρ τ : Nat → Nat) (h : ∀ i, τ (ρ i) = i) : ∀ c : List AC, AC.rens τ (AC.rens ρ c) = c
  | [] => rfl
  | c :: cs => by simp only [AC.rens, AC.ren_ren ρ τ h c, AC.rens_rens ρ τ h cs]
end
theorem ABlk.ren_ren (ρ τ : Nat → Nat) (h : ∀ i, τ (ρ i) = i) (b : ABlk) : (b.ren ρ).ren τ = b := by
  cases b with
  | box e cs => simp only [ABlk.ren, AC.rens_rens ρ τ h]
  | arow => rfl
  | mrow => rfl

/-! ### names from 1000 on are a caller's -/
mutual
def AC.high : AC → Bool
  | .row id _ => decide (1000 ≤ id)
  | .ptr id _ _ _ => decide (1000 ≤ id)
  | .fn _ caps => AC.highs caps
  | .st _ => true
  | .full _ => true
  | .eptr _ => true
  | .any => true
def AC.highs : List AC → Bool
  | [] => true
  | c :: cs => c.high && AC.highs cs
end
mutual
def AV.high : AV → Bool
  | .one c => c.high
  | .agg cs => AC.highs cs
  | .tup vs => AV.highs vs
  | .any => true
def AV.highs : List AV → Bool
  | [] => true
  | v :: vs => v.high && AV.highs vs
end
def ABlk.high : ABlk → Bool
  | .box _ cs => AC.highs cs
  | _ => true
def up1 (i : Nat) : Nat := i + 1000
def dn1 (i : Nat) : Nat := i - 1000
def upS (S : AStore) : AStore := fun i => if i < 1000 then none else (S (i - 1000)).map (ABlk.ren up1)
def dnS (S : AStore) : AStore := fun i => (S (i + 1000)).map (ABlk.ren dn1)
def lowS (S : AStore) : AStore := fun i => if i < 1000 then none else S i
def Clean (S : AStore) : Prop := ∀ i b, S i = some b → 1000 ≤ i ∧ b.high = true
theorem up1_le (i : Nat) : 1000 ≤ up1 i := Nat.le_add_left 1000 i
theorem high_row {i n : Nat} (h : 1000 ≤ i) : (AC.row i n).high = true := by rw [AC.high]; exact decide_eq_true h
theorem high_ptr {i n k o : Nat} (h : 1000 ≤ i) : (AC.ptr i n k o).high = true := by rw [AC.high]; exact decide_eq_true h
mutual
theorem AC.ren_high : ∀ c : AC, (c.ren up1).high = true
  | .st c => rfl
  | .full xs => rfl
  | .row id n => by rw [AC.ren]; exact high_row (up1_le id)
  | .ptr id n k off => by rw [AC.ren]; exact high_ptr (up1_le id)
  | .eptr cs => rfl
  | .fn f caps => by rw [AC.ren, AC.high]; exact AC.rens_high caps
  | .any => rfl
theorem AC.rens_high : ∀ cs : List AC, AC.highs (AC.rens up1 cs) = true
  | [] => rfl
  | c :: cs => by rw [AC.rens, AC.highs, AC.ren_high c, AC.rens_high cs]; rfl
end
theorem ABlk.ren_high (b : ABlk) : (b.ren up1).high = true := by
  cases b with
  | box e cs => exact AC.rens_high cs
  | arow => rfl
  | mrow => rfl
theorem upS_some {S : AStore} {i : Nat} {b : ABlk} (h : S i = some b) : upS S (up1 i) = some (b.ren up1) := by
  show (if i + 1000 < 1000 then none else (S (i + 1000 - 1000)).map (ABlk.ren up1)) = _
  rw [if_neg (by omega), Nat.add_sub_cancel, h]
  rfl
theorem clean_upS (S : AStore) : Clean (upS S) := fun i b h => by
  simp only [upS] at h
  split at h
  · cases h
  · rw [Option.map_eq_some_iff] at h
    obtain ⟨b', _, rfl⟩ := h
    exact ⟨by omega, ABlk.ren_high b'⟩
theorem dn_up (i : Nat) : dn1 (up1 i) = i := Nat.add_sub_cancel i 1000
theorem up_dn {i : Nat} (h : 1000 ≤ i) : up1 (dn1 i) = i := Nat.sub_add_cancel h
theorem upS_inv {S : AStore} {i : Nat} {b : ABlk} (h : upS S i = some b) : 1000 ≤ i ∧ ∃ b', S (dn1 i) = some b' ∧ b = b'.ren up1 := by
  simp only [upS] at h
  split at h
  · cases h
  · rw [Option.map_eq_some_iff] at h
    obtain ⟨b', h1, h2⟩ := h
    exact ⟨by omega, b', h1, h2.symm⟩
theorem dnS_some {S : AStore} {i : Nat} {b : ABlk} (hi : 1000 ≤ i) (h : S i = some b) : dnS S (dn1 i) = some (b.ren dn1) := by
  show (S (i - 1000 + 1000)).map (ABlk.ren dn1) = _
  rw [Nat.sub_add_cancel hi, h]
  rfl
theorem dnS_inv {S : AStore} {i : Nat} {b : ABlk} (h : dnS S i = some b) : ∃ b', S (up1 i) = some b' ∧ b = b'.ren dn1 := by
  simp only [dnS, Option.map_eq_some_iff] at h
  obtain ⟨b', h1, h2⟩ := h
  exact ⟨b', h1, h2.symm⟩
theorem dn_upS (S : AStore) : dnS (upS S) = S := by
  funext i
  show ((if i + 1000 < 1000 then none else (S (i + 1000 - 1000)).map (ABlk.ren up1)) : Option ABlk).map (ABlk.ren dn1) = _
  rw [if_neg (by omega), Nat.add_sub_cancel]
  cases S i with
  | none => rfl
  | some b => exact congrArg some (ABlk.ren_ren up1 dn1 (fun i => Nat.add_sub_cancel i 1000) b)
theorem lowS_clean {S : AStore} (h : Clean S) : lowS S = S := by
  funext i
  simp only [lowS]
  split
  · rename_i hi
    cases e : S i with
    | none => rfl
    | some b => have := (h i b e).1; omega
  · rfl
theorem clean_none {S : AStore} (h : Clean S) {i : Nat} (hi : i < 1000) : S i = none := by
  cases e : S i with
  | none => rfl
  | some b => have := (h i b e).1; omega
end Go.Proofs.YtbiadmlfejnbcaaGreatDoor

namespace Go.Proofs.YtbiadmlfejnbcaaGreatDoor
open Go Go.RowKit
/-- The powers of ten. -/
def pow10s : List SV := (List.range 20).map fun i => .int .u64 ((10 ^ i : Nat) : Int)
/-- The variables of the program that are looked at: number, cells. -/
def globs : List (Nat × List SV) :=
  (0, [.int .i64 0, .int .i64 0, .int .i64 1, .int .i64 2, .int .i64 0, .int .i64 0]) ::
  (3, pow10s) ::
  (1, [.err]) ::
  []
/-- A variable's cells are told, and that there are no more. -/
def GlobAt (σ : Sto) (x : Nat × List SV) : Prop := (∃ c : Nat → Value, (∀ j a, x.2[j]? = some a → σ ⟨x.1, 0 + j, none⟩ = some (c j)) ∧ (∀ j a, x.2[j]? = some a → SRep σ (c j) a)) ∧ σ ⟨x.1, x.2.length, some 0⟩ = some .nilFunc
def GlobIn (σ : Sto) : Prop := ∀ x ∈ globs, GlobAt σ x
theorem GlobIn.mono {σ σ' : Sto} (h : GlobIn σ) (hs : ∀ p x, σ p = some x → σ' p = some x) : GlobIn σ' := fun x hx => by
  obtain ⟨⟨c, h1, h2⟩, h3⟩ := h x hx
  exact ⟨⟨c, fun j a ha => hs _ _ (h1 j a ha), fun j a ha => (h2 j a ha).mono hs⟩, hs _ _ h3⟩
def globOf (g : Nat) : Option (List SV) := (globs.find? fun x => x.1 == g).map (·.2)
theorem GlobIn.at {σ : Sto} (h : GlobIn σ) {g : Nat} {cs : List SV} (hg : globOf g = some cs) : GlobAt σ (g, cs) := by
  unfold globOf at hg
  rw [Option.map_eq_some_iff] at hg
  obtain ⟨x, h1, rfl⟩ := hg
  have hm := List.mem_of_find?_eq_some h1
  have hp := List.find?_some h1
  have he : x.1 = g := by simpa using hp
  rw [← he]
  exact h x hm
theorem GlobIn.of {σ : Sto} {S : AStore} {ι : AHnd} (h : GlobIn σ) {g : Nat} {cs : List SV} (hg : globOf g = some cs) : ARep σ S ι (.pointer (some ⟨g, 0, none⟩)) (.eptr cs) := by
  obtain ⟨⟨c, k1, k2⟩, _⟩ := h.at hg
  exact .eptr c k1 k2
/-- A variable of integers: all of its cells in the world. -/
theorem GlobIn.ints {σ : Sto} {w : World} (h : GlobIn σ) (hf : Fit σ w) {P : Program} {name : String} {g : Nat} (hn : P.globalNamed name = some g) {k : IntKind} {zs : List Int} (hg : globOf g = some (zs.map fun z => .int k z)) :
    w.var? P name = some (zs.map fun z => Value.int k z).toArray := by
  obtain ⟨⟨c, k1, k2⟩, k3⟩ := h.at hg
  have h3 := hf _ _ k3
  unfold look at h3
  simp only at h3
  unfold World.var?
  rw [hn]
  simp only [Option.bind_some]
  cases hb : w.heap[g]? with
  | none => rw [hb] at h3; cases h3
  | some o =>
    rw [hb] at h3
    cases o with
    | cells cs T x =>
      simp only at h3
      split at h3
      · rename_i hsz
        simp only [List.length_map] at hsz
        simp only [Option.some.injEq]
        apply Array.ext
        · simpa using hsz
        · intro i h1 h2
          have hi : i < zs.length := by omega
          have e1 := k1 i (.int k zs[i]) (by simp [hi])
          have e2 := k2 i (.int k zs[i]) (by simp [hi])
          have e3 := hf _ _ e1
          rw [look_none rfl] at e3
          have e4 : c i = .int k zs[i] := by
            generalize c i = u at e2
            cases e2
            rfl
          rw [e4] at e3
          unfold World.cell? at e3
          simp only [Nat.zero_add] at e3
          rw [hb] at e3
          simp only at e3
          rw [Array.getElem?_eq_getElem h1] at e3
          simpa using e3
      · cases h3
    | _ => cases h3
/-- A variable of one cell. -/
theorem GlobIn.cell {σ : Sto} {w : World} (h : GlobIn σ) (hf : Fit σ w) {g : Nat} {a : SV} (hg : globOf g = some [a]) : ∃ v, w.cell? ⟨g, 0, none⟩ = some v ∧ SRep σ v a := by
  obtain ⟨⟨c, k1, k2⟩, _⟩ := h.at hg
  have e := hf _ _ (k1 0 a rfl)
  rw [look_none rfl] at e
  exact ⟨c 0, e, k2 0 a rfl⟩
end Go.Proofs.YtbiadmlfejnbcaaGreatDoor

namespace Go.Proofs.YtbiadmlfejnbcaaGreatDoor
open Go Go.RowKit
set_option linter.unusedVariables false

/-! ### small words -/
def updE {α : Type} (f : Nat → α) (d : Nat) (v : α) : Nat → α := fun i => if i = d then v else f i
def byteN (s : ByteArray) (k : Nat) : Int := ((s.data.toList.getD k 0).toNat : Int)
def sLt (a b : ByteArray) : Bool := Op.bytesLess a.toList b.toList
def splice {α : Type} (cs : List α) (off : Nat) (c : List α) : List α := cs.take off ++ c ++ cs.drop (off + c.length)
def pack (g : Bool) (cs : List AC) : AV := if g then .agg cs else match cs with | [c] => .one c | _ => .any

/-- Cells that may lie in memory that stays. -/
def stC (S : AStore) : AC → Option SV
  | .st c => some c
  | .full xs => some (.list xs)
  | .row id n => match S id with
    | some (.arow _ _ xs) => if n = xs.length then some (.list xs) else none
    | _ => none
  | .fn f [] => some (.lit (.func (.func f) #[] #[]))
  | _ => none
def stCs (S : AStore) : List AC → Option (List SV)
  | [] => some []
  | c :: cs => match stC S c, stCs S cs with
    | some x, some xs => some (x :: xs)
    | _, _ => none
/-- The same for a callee: addresses of what stays may go along. -/
def outC (S : AStore) : AC → Option AC
  | .eptr cs => some (.eptr cs)
  | .fn f [] => some (.fn f [])
  | c => (stC S c).map .st
def outCs (S : AStore) : List AC → Option (List AC)
  | [] => some []
  | c :: cs => match outC S c, outCs S cs with
    | some x, some xs => some (x :: xs)
    | _, _ => none
mutual
def outV (S : AStore) : AV → Option AV
  | .one c => (outC S c).map .one
  | .agg cs => (outCs S cs).map .agg
  | .tup vs => (outVs S vs).map .tup
  | .any => some .any
def outVs (S : AStore) : List AV → Option (List AV)
  | [] => some []
  | v :: vs => match outV S v, outVs S vs with
    | some x, some xs => some (x :: xs)
    | _, _ => none
end

/-! ### states -/
structure AS where
  env : Nat → AV
  S : AStore
inductive Opd where
  | t (i : Nat)
  | c (v : AV)
def AS.ev (s : AS) : Opd → AV
  | .t i => s.env i
  | .c v => v
def AS.put (s : AS) (d : Option Nat) (v : AV) : AS := match d with
  | some d => ⟨updE s.env d v, s.S⟩
  | none => s
def AS.set (s : AS) (id : Nat) (b : ABlk) : AS := ⟨s.env, updE s.S id (some b)⟩

def blkCells (S : AStore) (id m k : Nat) : Option (List AC) := match S id with
  | some (.box _ cs) => if k = 0 ∧ m = 1 then some cs else none
  | some (.mrow _ _ xs) => if m = xs.length then (xs[k]?).map (·.map .st) else none
  | _ => none

/-! ### what a call gives -/
def noS : AStore := fun _ => none
def noH : AHnd := fun _ => ⟨none, 0, none⟩
def ACalls (P : Program) (f : FuncId) (xs : List AV) (r : AV) : Prop :=
  ∀ (σ : Sto) (w : World) (vs : List Value), GlobIn σ → Fit σ w → All2 (VRep σ noS noH) vs xs →
    Calls P f vs.toArray w fun e w' => ∃ v σ', e = .returned v ∧ VRep σ' noS noH v r ∧ Fit σ' w' ∧ Ext w.heap.size σ σ' ∧ Below w.heap.size w w'

/-- The blocks that a call has in hand. -/
def Owned (σ : Sto) (S : AStore) (ι : AHnd) (w : World) : Prop := (∀ id b, S id = some b → BRep σ S ι w (ι id) b) ∧ ∀ id id' b b' g, S id = some b → S id' = some b' → (ι id).g = some g → (ι id').g = some g → id = id'
def notOf (S : AStore) (ι : AHnd) (g : Nat) : Prop := ∀ id b, S id = some b → (ι id).g ≠ some g
/-- What a call gives that turns blocks of its caller: S behind it is S'. -/
def ACallsS (P : Program) (f : FuncId) (xs : List AV) (S : AStore) (r : AV) (S' : AStore) : Prop :=
  Clean S → ∀ (σ : Sto) (w : World) (vs : List Value) (ι : AHnd), GlobIn σ → Fit σ w → Owned σ S ι w → All2 (VRep σ S ι) vs xs →
    Calls P f vs.toArray w fun e w' => ∃ v σ' ι', e = .returned v ∧ Clean S' ∧ Upd S ι S' ι' ∧ Owned σ' S' ι' w' ∧ VRep σ' S' ι' v r ∧ Fit σ' w' ∧ (∀ p x, σ p = some x → σ' p = some x) ∧
      (∀ p : Addr, p.block < w.heap.size → notOf S ι p.block → σ' p = σ p) ∧ (w'.os = w.os ∧ w'.tape = w.tape ∧ w'.output = w.output) ∧ w.heap.size ≤ w'.heap.size ∧
      (∀ g, g < w.heap.size → notOf S ι g → w'.heap[g]? = w.heap[g]?) ∧ (∀ id b g, S' id = some b → (ι' id).g = some g → w.heap.size ≤ g ∨ ¬ notOf S ι g)
/-- A call stands ahead: a contract is to be given; what stands behind it is out of sight till then. -/
abbrev CallK (P : Program) (f : FuncId) (vs : List AV) (k : AV → Prop) : Prop := ∃ r, ACalls P f vs r ∧ k r
abbrev CallSK (P : Program) (f : FuncId) (vs : List AV) (S : AStore) (k : AV → AStore → Prop) : Prop := ∃ r S', ACallsS P f vs S r S' ∧ k r S'
theorem CallK.congr {P : Program} {f : FuncId} {vs vs' : List AV} {k : AV → Prop} (h : vs = vs') : CallK P f vs k = CallK P f vs' k := by rw [h]
theorem CallSK.congr {P : Program} {f : FuncId} {vs vs' : List AV} {S S' : AStore} {k : AV → AStore → Prop} (h : vs = vs') (h' : S = S') : CallSK P f vs S k = CallSK P f vs' S' k := by rw [h, h']
def plainF (P : Program) (f : FuncId) : Bool := match P.funcs[f]? with
  | some fn => !(fn.name == "runtime.NumGoroutine") && fn.body.isSome
  | none => false

/-! ### operations -/
inductive Kd where
  | mov (x : Opd)
  | pick (c x y : Opd)
  | alloc (e : TypeId) (z : List AC)
  | box (e : TypeId) (x : Opd)
  | build (z : List AC) (ps : List (Nat × Nat × Opd))
  | buildSlice (mu : Bool) (e w : Nat) (xs : List Opd)
  | load (g : Bool) (n : Nat) (x : Opd)
  | store (n : Nat) (x v : Opd)
  | fieldAddr (off : Nat) (x : Opd)
  | field (g : Bool) (off n : Nat) (x : Opd)
  | indexAddr (w : Nat) (x i : Opd)
  | indexArr (n w : Nat) (x i : Opd)
  | indexStr (x i : Opd)
  | bin (op : BinOp) (x y : Opd)
  | eqB (neg : Bool) (x y : Opd)
  | eqN (neg : Bool) (x : Opd)
  | eqE (neg : Bool) (x : Opd)
  | never
  | strOf (x : Opd)
  | un (op : UnOp) (x : Opd)
  | sliceS (x : Opd) (lo hi : Option Opd)
  | sliceL (w : Nat) (x : Opd) (lo hi : Option Opd)
  | extract (i : Nat) (x : Opd)
  | len (str : Bool) (x : Opd)
  | append (mu : Bool) (e w bytes : Nat) (s x : Opd)
  | call (f : Nat) (xs : List Opd)
  | conv (k : IntKind) (x : Opd)
  | nilCheck (x : Opd)
  | mm (mx : Bool) (x y : Opd)
  | makeSlice (e w bytes : Nat) (z : List SV) (x y : Opd)
  | makeFunc (g : Nat) (caps : List Opd)
  | callS (f : Nat) (xs : List Opd)
  | callV (f : Opd) (xs : List Opd)
/-- What a walk must show of an operation besides: its pointer is to the block id; it leaves the blocks ks as they are. -/
inductive Tag where
  | no
  | onb (id : Nat)
  | keeps (ks : List Nat)
structure Ins where
  dst : Option Nat
  guard : Option (Nat × Bool)
  kd : Kd
  tag : Tag

def fills (s : AS) (cs : List AC) : List (Nat × Nat × Opd) → Option (List AC)
  | [] => some cs
  | (off, n, x) :: ps => match (s.ev x).cells with
    | some c => if c.length = n ∧ off + n ≤ cs.length then fills s (splice cs off c) ps else none
    | none => none
def elems (s : AS) (w : Nat) : List Opd → Option (List (List SV))
  | [] => some []
  | x :: xs => match (s.ev x).cells with
    | some c => match stCs s.S c, elems s w xs with
      | some c', some es => if c'.length = w then some (c' :: es) else none
      | _, _ => none
    | none => none
def AS.evs (s : AS) : List Opd → List AV
  | [] => []
  | x :: xs => s.ev x :: AS.evs s xs
/-- Cells that a closure takes along. -/
def AS.caps (s : AS) : List Opd → Option (List AC)
  | [] => some []
  | x :: xs => match s.ev x, s.caps xs with
    | .one c, some cs => some (c :: cs)
    | _, _ => none
def binI (op : BinOp) (k : IntKind) (x y : Int) (K : SV → Prop) : Prop := match op with
  | .add => inR k (x + y) ∧ K (.int k (x + y))
  | .sub => inR k (x - y) ∧ K (.int k (x - y))
  | .mul => inR k (x * y) ∧ K (.int k (x * y))
  | .quo => y ≠ 0 ∧ inR k (x.tdiv y) ∧ K (.int k (x.tdiv y))
  | .rem => y ≠ 0 ∧ inR k (x.tmod y) ∧ K (.int k (x.tmod y))
  | .eql => K (.bool (decide (x = y)))
  | .neq => K (.bool (decide (¬ x = y)))
  | .lss => K (.bool (decide (x < y)))
  | .leq => K (.bool (decide (x ≤ y)))
  | .gtr => K (.bool (decide (y < x)))
  | .geq => K (.bool (decide (y ≤ x)))
  | .shr => (0 ≤ y ∧ y.toNat ≤ k.bits) ∧ inR k (x.fdiv (2 ^ y.toNat)) ∧ K (.int k (x.fdiv (2 ^ y.toNat)))
  | _ => False
def binS (op : BinOp) (x y : ByteArray) (K : SV → Prop) : Prop := match op with
  | .add => x.size + y.size ≤ maxLen ∧ K (.str (x ++ y))
  | .eql => K (.bool (decide (x = y)))
  | .neq => K (.bool (decide (¬ x = y)))
  | .lss => K (.bool (sLt x y))
  | .leq => K (.bool (sLt x y || decide (x = y)))
  | .gtr => K (.bool !(sLt x y || decide (x = y)))
  | .geq => K (.bool !(sLt x y))
  | _ => False
def optI (s : AS) (d : Int) : Option Opd → Option Int
  | none => some d
  | some x => match s.ev x with
    | .one (.st (.int _ n)) => some n
    | _ => none
def idxK {α : Type} (xs : List α) (n : Int) (K : α → Prop) : Prop := 0 ≤ n ∧ match xs[n.toNat]? with
  | some x => K x
  | none => False
def lenOfA (S : AStore) (str : Bool) : AC → Option Int
  | .st (.list xs) => if str then none else some xs.length
  | .st (.str b) => if str then some b.size else none
  | .full xs => if str then none else some xs.length
  | .row id n => match S id with
    | some (.arow _ _ xs) => if str = false ∧ n = xs.length then some n else none
    | some (.mrow _ _ xs) => if str = false ∧ n = xs.length then some n else none
    | _ => none
  | _ => none
/-- The things of a slice. -/
def listOf (S : AStore) : AC → Option (List (List SV))
  | .st (.list xs) => some xs
  | .full xs => some xs
  | .row id n => match S id with
    | some (.arow _ _ xs) => if n = xs.length then some xs else none
    | some (.mrow _ _ xs) => if n = xs.length then some xs else none
    | _ => none
  | _ => none

/-- The numbers of a row of bytes. -/
def bytesOf : List (List SV) → Option (List Int)
  | [] => some []
  | [.int .u8 n] :: r => (bytesOf r).map (n :: ·)
  | _ => none
def Kd.go (P : Program) (d : Nat) (s : AS) (K : AV → AS → Prop) : Kd → Prop
  | .mov x => K (s.ev x) s
  | .pick c x y => match s.ev c with
    | .one (.st (.bool t)) => (t = true → K (s.ev x) s) ∧ (t = false → K (s.ev y) s)
    | _ => False
  | .alloc e z => s.S d = none ∧ K (.one (.ptr d 1 0 0)) (s.set d (.box e z))
  | .box e x => match (s.ev x).cells with
    | some cs => s.S d = none ∧ K (.one (.ptr d 1 0 0)) (s.set d (.box e cs))
    | none => False
  | .build z ps => match fills s z ps with
    | some cs => K (.agg cs) s
    | none => False
  | .buildSlice mu e w xs => match elems s w xs with
    | some es => if mu then s.S d = none ∧ K (.one (.row d es.length)) (s.set d (.mrow e w es)) else K (.one (.full es)) s
    | none => False
  | .load g n x => match s.ev x with
    | .one (.eptr cs) => n ≤ cs.length ∧ K (pack g ((cs.take n).map .st)) s
    | .one (.ptr id m k off) => match blkCells s.S id m k with
      | some cs => off + n ≤ cs.length ∧ K (pack g ((cs.drop off).take n)) s
      | none => False
    | _ => False
  | .store n x v => match s.ev x, (s.ev v).cells with
    | .one (.ptr id m k off), some c => match s.S id with
      | some (.box e cs) => (k = 0 ∧ m = 1) ∧ c.length = n ∧ off + n ≤ cs.length ∧ K .any (s.set id (.box e (splice cs off c)))
      | some (.mrow e w xs) => match stCs s.S c, xs[k]? with
        | some c', some x => m = xs.length ∧ c'.length = n ∧ off + n ≤ x.length ∧ K .any (s.set id (.mrow e w (xs.set k (splice x off c'))))
        | _, _ => False
      | _ => False
    | _, _ => False
  | .fieldAddr off x => match s.ev x with
    | .one (.eptr cs) => K (.one (.eptr (cs.drop off))) s
    | .one (.ptr id m k o) => match s.S id with
      | some b => m = b.len ∧ K (.one (.ptr id m k (o + off))) s
      | none => False
    | _ => False
  | .field g off n x => match s.ev x with
    | .agg cs => off + n ≤ cs.length ∧ K (pack g ((cs.drop off).take n)) s
    | _ => False
  | .indexAddr w x i => match s.ev x, s.ev i with
    | .one c, .one (.st (.int _ n)) => match c with
      | .st (.list xs) => idxK xs n fun x => x.length = w ∧ K (.one (.eptr x)) s
      | .full xs => idxK xs n fun x => x.length = w ∧ K (.one (.eptr x)) s
      | .row id m => match s.S id with
        | some (.arow _ w' xs) => m = xs.length ∧ w' = w ∧ idxK xs n fun x => K (.one (.eptr x)) s
        | some (.mrow _ w' xs) => m = xs.length ∧ w' = w ∧ 0 ≤ n ∧ n.toNat < xs.length ∧ K (.one (.ptr id m n.toNat 0)) s
        | _ => False
      | _ => False
    | _, _ => False
  | .indexArr n w x i => match s.ev x, s.ev i with
    | .one (.eptr cs), .one (.st (.int _ k)) => (0 ≤ k ∧ k < n) ∧ K (.one (.eptr (cs.drop (k.toNat * w)))) s
    | .one (.ptr id m b o), .one (.st (.int _ k)) => match s.S id with
      | some bl => (0 ≤ k ∧ k < n) ∧ m = bl.len ∧ K (.one (.ptr id m b (o + k.toNat * w))) s
      | none => False
    | _, _ => False
  | .indexStr x i => match s.ev x, s.ev i with
    | .one (.st (.str b)), .one (.st (.int _ n)) => (0 ≤ n ∧ n.toNat < b.size) ∧ K (.one (.st (.int .u8 (byteN b n.toNat)))) s
    | _, _ => False
  | .bin op x y => match s.ev x, s.ev y with
    | .one (.st (.int k a)), .one (.st (.int k' b)) => k = k' ∧ binI op k a b fun v => K (.one (.st v)) s
    | .one (.st (.str a)), .one (.st (.str b)) => binS op a b fun v => K (.one (.st v)) s
    | _, _ => False
  | .never => False
  | .strOf x => match s.ev x with
    | .one (.full ys) => match bytesOf ys with
      | some ns => (0 < ns.length ∧ ns.length ≤ maxLen) ∧ K (.one (.st (.str (strOfNums ns)))) s
      | none => False
    | _ => False
  | .eqN neg x => match s.ev x with
    | .one (.st (.list xs)) => 0 < xs.length ∧ K (.one (.st (.bool neg))) s
    | _ => False
  | .eqE neg x => match s.ev x with
    | .one (.st .err) => K (.one (.st (.bool neg))) s
    | .one (.st (.lit .nilIface)) => K (.one (.st (.bool !neg))) s
    | _ => False
  | .eqB neg x y => match s.ev x, s.ev y with
    | .one (.st (.bool a)), .one (.st (.bool b)) => K (.one (.st (.bool (if neg then !(a == b) else a == b)))) s
    | _, _ => False
  | .un op x => match op, s.ev x with
    | .not, .one (.st (.bool b)) => K (.one (.st (.bool !b))) s
    | .neg, .one (.st (.int k n)) => inR k (0 - n) ∧ K (.one (.st (.int k (0 - n)))) s
    | _, _ => False
  | .sliceS x lo hi => match s.ev x with
    | .one (.st (.str b)) => match optI s 0 lo, optI s b.size hi with
      | some l, some h => (0 ≤ l ∧ l ≤ h ∧ h ≤ b.size) ∧ K (.one (.st (.str (b.extract l.toNat h.toNat)))) s
      | _, _ => False
    | _ => False
  | .sliceL w x lo hi => match s.ev x with
    | .one c => match stC s.S c with
      | some (.list xs) => match optI s 0 lo, optI s xs.length hi with
        | some l, some h => (0 ≤ l ∧ l ≤ h ∧ h ≤ xs.length) ∧ (∀ x ∈ xs, x.length = w) ∧ K (.one (.st (.list ((xs.take h.toNat).drop l.toNat)))) s
        | _, _ => False
      | _ => False
    | _ => False
  | .extract i x => match s.ev x with
    | .tup vs => match vs[i]? with
      | some v => K v s
      | none => False
    | _ => False
  | .len str x => match s.ev x with
    | .one c => match lenOfA s.S str c with
      | some n => K (.one (.st (.int .i64 n))) s
      | none => False
    | _ => False
  | .append mu e w bytes x y => match s.ev x, s.ev y with
    | .one cx, .one cy => match listOf s.S cy with
      | some ys => (∀ y ∈ ys, y.length = w) ∧ match cx with
        | .full xs => s.S d = none ∧ (mu = true → ys = [] → xs = []) ∧ (∀ x ∈ xs, x.length = w) ∧ xs.length + ys.length ≤ maxLen ∧ (xs.length + ys.length) * bytes ≤ 140737488355328 ∧
            K (.one (.row d (xs ++ ys).length)) (s.set d (if mu then .mrow e w (xs ++ ys) else .arow e w (xs ++ ys)))
        | .row id m => match s.S id with
          | some (.arow e' w' xs) => (m = xs.length ∧ w' = w ∧ e' = e) ∧ xs.length + ys.length ≤ maxLen ∧ (xs.length + ys.length) * bytes ≤ 140737488355328 ∧
              K (.one (.row id (xs ++ ys).length)) (s.set id (.arow e w (xs ++ ys)))
          | some (.mrow e' w' xs) => (m = xs.length ∧ w' = w ∧ e' = e) ∧ xs.length + ys.length ≤ maxLen ∧ (xs.length + ys.length) * bytes ≤ 140737488355328 ∧
              K (.one (.row id (xs ++ ys).length)) (s.set id (.mrow e w (xs ++ ys)))
          | _ => False
        | _ => False
      | none => False
    | _, _ => False
  | .call f xs => match outVs s.S (s.evs xs) with
    | some vs => CallK P f vs fun r => K r s
    | none => False
  | .conv k x => match s.ev x with
    | .one (.st (.int _ n)) => inR k n ∧ K (.one (.st (.int k n))) s
    | _ => False
  | .nilCheck x => match s.ev x with
    | .one (.eptr cs) => K (.one (.eptr cs)) s
    | .one (.ptr id m k o) => match s.S id with
      | some b => m = b.len ∧ K (.one (.ptr id m k o)) s
      | none => False
    | _ => False

  | .mm mx x y => match s.ev x, s.ev y with
    | .one (.st (.int k a)), .one (.st (.int k' b)) => k = k' ∧ K (.one (.st (.int k (if mx then (if a < b then b else a) else (if b < a then b else a))))) s
    | _, _ => False
  | .makeSlice e w bytes z x y => match s.ev x, s.ev y with
    | .one (.st (.int _ a)), .one (.st (.int _ b)) => a = b ∧ 0 ≤ a ∧ a ≤ 9223372036854775807 ∧ a * bytes ≤ 140737488355328 ∧ s.S d = none ∧ K (.one (.row d a.toNat)) (s.set d (.mrow e w (List.replicate a.toNat z)))
    | _, _ => False
  | .makeFunc g caps => match s.caps caps with
    | some cs => K (.one (.fn g cs)) s
    | none => False
  | .callS f xs => CallSK P f (AV.rens up1 (s.evs xs)) (upS s.S) fun r S' => K (r.ren dn1) ⟨s.env, dnS S'⟩
  | .callV f xs => match s.ev f with
    | .one (.fn g caps) => plainF P g = true ∧ CallSK P g (AV.rens up1 (s.evs xs ++ caps.map .one)) (upS s.S) fun r S' => K (r.ren dn1) ⟨s.env, dnS S'⟩
    | _ => False

def Kd.ptrOpd : Kd → Option Opd
  | .load _ _ x => some x
  | .store _ x _ => some x
  | .fieldAddr _ x => some x
  | .nilCheck x => some x
  | _ => none
def ptrIs (id : Nat) : AV → Prop
  | .one (.ptr i _ _ _) => i = id
  | _ => False
def Tag.ok (t : Tag) (kd : Kd) (s s' : AS) : Prop := match t with
  | .no => True
  | .onb id => match kd.ptrOpd with
    | some x => ptrIs id (s.ev x)
    | none => False
  | .keeps ks => ∀ k ∈ ks, s'.S k = s.S k
def Kd.goT (kd : Kd) (P : Program) (d : Nat) (s : AS) (t : Tag) (K : AV → AS → Prop) : Prop := kd.go P d s fun v s' => t.ok kd s s' ∧ K v s'

/-- The operations of a region, one behind the other. -/
def Run (P : Program) : List Ins → AS → (AS → Prop) → Prop
  | [], s, K => K s
  | i :: l, s, K => match i.guard with
    | none => i.kd.goT P (i.dst.getD 0) s i.tag fun v s' => Run P l (s'.put i.dst v) K
    | some (g, want) => match s.env g with
      | .one (.st (.bool b)) => (b = want → i.kd.goT P (i.dst.getD 0) s i.tag fun v s' => Run P l (s'.put i.dst v) K) ∧ (¬ b = want → Run P l (s.put i.dst (.tup [])) K)
      | .tup [] => Run P l (s.put i.dst (.tup [])) K
      | _ => False

/-! ### code -/
inductive IR where
  | skip
  | ops (l : List Ins)
  | seq (x y : IR)
  | cond (c : Opd) (x y : IR)
  | block (id : Nat) (x : IR)
  | loop (x : IR)
  | exit (id : Nat)
  | ret
end Go.Proofs.YtbiadmlfejnbcaaGreatDoor

namespace Go.Proofs.YtbiadmlfejnbcaaGreatDoor
open Go Go.RowKit
set_option linter.unusedVariables false

structure Ctx where
  n : Nat
  N : Nat
  G : Nat → Prop
  σ0 : Sto
  w0 : World
  S0 : AStore
  ι0 : AHnd
  clean : Clean S0
  glob : GlobIn σ0
structure Refs (C : Ctx) (σ : Sto) (ι : AHnd) (s : AS) (a : Act) (w : World) : Prop where
  size : C.n ≤ a.tmps.size
  env : ∀ i, i < C.n → VRep σ s.S ι (a.tmps.getD i undef) (s.env i)
  nod : a.defers = []
  fit : Fit σ w
  blk : ∀ id b, s.S id = some b → BRep σ s.S ι w (ι id) b
  inj : ∀ id id' b b' g, s.S id = some b → s.S id' = some b' → (ι id).g = some g → (ι id').g = some g → id = id'
  base : ∀ id b g, s.S id = some b → (ι id).g = some g → C.N ≤ g ∨ C.G g
  ext : ∀ p x, C.σ0 p = some x → σ p = some x
  old : ∀ p : Addr, p.block < C.N → ¬ C.G p.block → σ p = C.σ0 p
  os : w.os = C.w0.os ∧ w.tape = C.w0.tape ∧ w.output = C.w0.output
  grown : C.N ≤ w.heap.size ∧ C.w0.heap.size ≤ w.heap.size
  same : ∀ g, g < C.N → ¬ C.G g → w.heap[g]? = C.w0.heap[g]?
  upd : Upd C.S0 C.ι0 s.S ι

/-- w' is w with new blocks. -/
def More (w w' : World) : Prop := Below w.heap.size w w'
theorem More.drew (w : World) : More w w.drew := (Below.refl _ _).drew
theorem More.alloc (w : World) (o : Obj) : More w (w.alloc o) := (Below.refl _ _).alloc (Nat.le_refl _) o

section
variable {C : Ctx} {σ : Sto} {ι : AHnd} {s : AS} {a : Act} {w : World}
theorem Refs.put (R : Refs C σ ι s a w) {d : Option Nat} {v : Value} {av : AV} (hv : VRep σ s.S ι v av) : Refs C σ ι (s.put d av) (a.put d v) w := by
  cases d with
  | none => exact R
  | some d =>
    refine { R with size := ?_, env := fun i hi => ?_, nod := R.nod }
    · simpa [Act.put] using R.size
    · have hs := R.size
      show VRep σ s.S ι ((a.tmps.setIfInBounds d v).getD i undef) (updE s.env d av i)
      unfold updE
      by_cases h : i = d
      · subst h
        rw [if_pos rfl]
        rw [show (a.tmps.setIfInBounds i v).getD i undef = v by
          simp only [Array.getD_eq_getD_getElem?]
          rw [Array.getElem?_setIfInBounds_self_of_lt (by omega)]
          rfl]
        exact hv
      · rw [if_neg h]
        rw [show (a.tmps.setIfInBounds d v).getD i undef = a.tmps.getD i undef by
          simp only [Array.getD_eq_getD_getElem?]
          rw [Array.getElem?_setIfInBounds_ne (by omega)]]
        exact R.env i hi
/-- Behind a call, a draw, or new memory: more is known to stay. -/
theorem Refs.more (R : Refs C σ ι s a w) {σ' : Sto} {w' : World} (he : Ext w.heap.size σ σ') (hf : Fit σ' w') (hb : More w w') : Refs C σ' ι s a w' := by
  have hlt : ∀ id b g, s.S id = some b → (ι id).g = some g → g < w.heap.size := fun id b g h1 h2 => (R.blk id b h1).gsome h2
  refine ⟨R.size, fun i hi => (R.env i hi).mono he.keep (Upd.refl _ _), R.nod, hf, fun id b h => (R.blk id b h).mono he.keep (Upd.refl _ _) (fun g hg => hb.block g (hlt id b g h hg)) (fun g hg p hp => he.old p (by have := hlt id b g h hg; omega)), R.inj, R.base,
    fun p x h => he.keep _ _ (R.ext p x h), fun p h1 h2 => (he.old p (by have := R.grown.1; omega)).trans (R.old p h1 h2), ⟨hb.os.trans R.os.1, hb.tape.trans R.os.2.1, hb.output.trans R.os.2.2⟩, ⟨Nat.le_trans R.grown.1 hb.size, Nat.le_trans R.grown.2 hb.size⟩, fun g h1 h2 => (hb.block g (by have := R.grown.1; omega)).trans (R.same g h1 h2), R.upd⟩
theorem Refs.world (R : Refs C σ ι s a w) {w' : World} (hb : More w w') : Refs C σ ι s a w' := R.more (Ext.refl _ _) (R.fit.below hb) hb
theorem Refs.drew (R : Refs C σ ι s a w) : Refs C σ ι s a w.drew := R.world (More.drew w)

theorem updE_same {α : Type} (f : Nat → α) (d : Nat) (v : α) : updE f d v d = v := by simp [updE]
theorem updE_ne {α : Type} (f : Nat → α) {d i : Nat} (h : i ≠ d) (v : α) : updE f d v i = f i := by simp [updE, h]

/-- A new block of the call's own at the name id. -/
theorem Refs.fresh (R : Refs C σ ι s a w) {w' : World} {id : Nat} (hid : s.S id = none) (b : ABlk) (h : Hnd) {σ' : Sto} (he : Ext w.heap.size σ σ') (hf : Fit σ' w') (hb : More w w') (hg : ∀ g, h.g = some g → w.heap.size ≤ g)
    (hr : ∀ S' ι', Upd s.S ι S' ι' → BRep σ' S' ι' w' h b) :
    Upd s.S ι (s.set id b).S (updE ι id h) ∧ Refs C σ' (updE ι id h) (s.set id b) a w' := by
  have hu : Upd s.S ι (s.set id b).S (updE ι id h) := fun id' b' hb' => by
    have hne : id' ≠ id := by intro e; subst e; rw [hid] at hb'; cases hb'
    exact ⟨b', by simp [AS.set, updE_ne _ hne, hb'], Nat.le_refl _, fun _ => ⟨rfl, updE_ne _ hne _⟩⟩
  have R' := R.more he hf hb
  have hlt : ∀ id b g, s.S id = some b → (ι id).g = some g → g < w.heap.size := fun id b g h1 h2 => (R.blk id b h1).gsome h2
  have hcase : ∀ id' b', (s.set id b).S id' = some b' → (id' = id ∧ b' = b) ∨ (id' ≠ id ∧ s.S id' = some b') := by
    intro id' b' h'
    by_cases e : id' = id
    · subst e
      simp only [AS.set, updE_same, Option.some.injEq] at h'
      exact .inl ⟨rfl, h'.symm⟩
    · simp only [AS.set, updE_ne _ e] at h'
      exact .inr ⟨e, h'⟩
  refine ⟨hu, ⟨R'.size, fun i hi => (R'.env i hi).mono (fun _ _ h => h) hu, R'.nod, hf, fun id' b' h' => ?_, fun id1 id2 b1 b2 g h1 h2 g1 g2 => ?_, fun id' b' g h' hg' => ?_, R'.ext, R'.old, R'.os, R'.grown, R'.same, R.upd.trans hu⟩⟩
  · rcases hcase id' b' h' with ⟨rfl, rfl⟩ | ⟨hne, h''⟩
    · rw [updE_same]
      exact hr _ _ hu
    · rw [updE_ne _ hne]
      exact (R'.blk id' b' h'').mono (fun _ _ h => h) hu (fun _ _ => rfl) (fun _ _ _ _ => rfl)
  · rcases hcase id1 b1 h1 with ⟨rfl, rfl⟩ | ⟨hne1, k1⟩ <;> rcases hcase id2 b2 h2 with ⟨rfl, rfl⟩ | ⟨hne2, k2⟩
    · rfl
    · rw [updE_same] at g1
      rw [updE_ne _ hne2] at g2
      have := hlt _ _ _ k2 g2
      have := hg _ g1
      omega
    · rw [updE_same] at g2
      rw [updE_ne _ hne1] at g1
      have := hlt _ _ _ k1 g1
      have := hg _ g2
      omega
    · rw [updE_ne _ hne1] at g1
      rw [updE_ne _ hne2] at g2
      exact R.inj _ _ _ _ _ k1 k2 g1 g2
  · rcases hcase id' b' h' with ⟨rfl, rfl⟩ | ⟨hne, h''⟩
    · rw [updE_same] at hg'
      have := hg _ hg'
      exact .inl (by have := R.grown.1; omega)
    · rw [updE_ne _ hne] at hg'
      exact R.base _ _ _ h'' hg'

/-- The block id turns (its own cells alone were written; it may have moved to a new place). -/
theorem Refs.turn (R : Refs C σ ι s a w) {w' : World} {id : Nat} {b : ABlk} (hid : s.S id = some b) (b' : ABlk) (h : Hnd) {σ' : Sto} (hs : ∀ p x, σ p = some x → σ' p = some x)
    (hn : ∀ p : Addr, (ι id).g ≠ some p.block → p.block < w.heap.size → σ' p = σ p) (hf : Fit σ' w') (hlen : b.len ≤ b'.len) (hsame : b'.len = b.len → b'.wid = b.wid ∧ h = ι id)
    (hos : w'.os = w.os ∧ w'.tape = w.tape ∧ w'.output = w.output) (hsz : w.heap.size ≤ w'.heap.size) (hw : ∀ g, g < w.heap.size → (ι id).g ≠ some g → w'.heap[g]? = w.heap[g]?)
    (hg : ∀ g, h.g = some g → (ι id).g = some g ∨ w.heap.size ≤ g) (hr : Upd s.S ι (s.set id b').S (updE ι id h) → BRep σ' (s.set id b').S (updE ι id h) w' h b') :
    Upd s.S ι (s.set id b').S (updE ι id h) ∧ Refs C σ' (updE ι id h) (s.set id b') a w' := by
  have hu : Upd s.S ι (s.set id b').S (updE ι id h) := fun id' c hc => by
    by_cases e : id' = id
    · subst e
      rw [hid] at hc
      cases hc
      exact ⟨b', by simp [AS.set, updE_same], hlen, fun he => ⟨(hsame he).1, by rw [updE_same]; exact (hsame he).2⟩⟩
    · exact ⟨c, by simp [AS.set, updE_ne _ e, hc], Nat.le_refl _, fun _ => ⟨rfl, updE_ne _ e _⟩⟩
  have hlt : ∀ id b g, s.S id = some b → (ι id).g = some g → g < w.heap.size := fun id b g h1 h2 => (R.blk id b h1).gsome h2
  have hcase : ∀ id' c, (s.set id b').S id' = some c → (id' = id ∧ c = b') ∨ (id' ≠ id ∧ s.S id' = some c) := by
    intro id' c h'
    by_cases e : id' = id
    · subst e
      simp only [AS.set, updE_same, Option.some.injEq] at h'
      exact .inl ⟨rfl, h'.symm⟩
    · simp only [AS.set, updE_ne _ e] at h'
      exact .inr ⟨e, h'⟩
  have hold : ∀ g, g < C.N → ¬ C.G g → (ι id).g ≠ some g := fun g h1 h2 e => by
    rcases R.base _ _ _ hid e with h | h
    · omega
    · exact h2 h
  refine ⟨hu, ⟨R.size, fun i hi => (R.env i hi).mono hs hu, R.nod, hf, fun id' c h' => ?_, fun id1 id2 b1 b2 g h1 h2 g1 g2 => ?_, fun id' c g h' hg' => ?_, fun p x hx => hs _ _ (R.ext p x hx), fun p h1 h2 => ?_, ⟨hos.1.trans R.os.1, hos.2.1.trans R.os.2.1, hos.2.2.trans R.os.2.2⟩, ⟨Nat.le_trans R.grown.1 hsz, Nat.le_trans R.grown.2 hsz⟩, fun g h1 h2 => ?_, R.upd.trans hu⟩⟩
  · rcases hcase id' c h' with ⟨rfl, rfl⟩ | ⟨hne, h''⟩
    · rw [updE_same]
      exact hr hu
    · rw [updE_ne _ hne]
      have hother : ∀ g, (ι id').g = some g → (ι id).g ≠ some g := fun g h1 h2 => hne (R.inj _ _ _ _ _ h'' hid h1 h2)
      refine (R.blk id' c h'').mono hs hu (fun g hg' => hw g (hlt _ _ _ h'' hg') (hother g hg')) (fun g hg' p hp => hn p (by rw [hp]; exact hother g hg') (by rw [hp]; exact hlt _ _ _ h'' hg'))
  · rcases hcase id1 b1 h1 with ⟨rfl, rfl⟩ | ⟨hne1, k1⟩ <;> rcases hcase id2 b2 h2 with ⟨rfl, rfl⟩ | ⟨hne2, k2⟩
    · rfl
    · rw [updE_same] at g1
      rw [updE_ne _ hne2] at g2
      rcases hg _ g1 with h | h
      · exact (R.inj _ _ _ _ _ k2 hid g2 h).symm
      · have := hlt _ _ _ k2 g2
        omega
    · rw [updE_same] at g2
      rw [updE_ne _ hne1] at g1
      rcases hg _ g2 with h | h
      · exact R.inj _ _ _ _ _ k1 hid g1 h
      · have := hlt _ _ _ k1 g1
        omega
    · rw [updE_ne _ hne1] at g1
      rw [updE_ne _ hne2] at g2
      exact R.inj _ _ _ _ _ k1 k2 g1 g2
  · rcases hcase id' c h' with ⟨rfl, rfl⟩ | ⟨hne, h''⟩
    · rw [updE_same] at hg'
      rcases hg _ hg' with h | h
      · exact R.base _ _ _ hid h
      · exact .inl (by have := R.grown.1; omega)
    · rw [updE_ne _ hne] at hg'
      exact R.base _ _ _ h'' hg'
  · exact (hn p (hold _ h1 h2) (by have := R.grown.1; omega)).trans (R.old p h1 h2)
  · exact (hw g (by have := R.grown.1; omega) (hold g h1 h2)).trans (R.same g h1 h2)

/-! ### reading -/
theorem Refs.row_srep (R : Refs C σ ι s a w) {v : Value} {id n : Nat} {e : TypeId} {wd : Nat} {xs : List (List SV)} (hv : ARep σ s.S ι v (.row id n)) (hS : s.S id = some (.arow e wd xs)) (hn : n = xs.length) : SRep σ v (.list xs) := by
  cases hv with
  | row h1 h2 h3 h4 =>
    rw [hS] at h1
    cases h1
    rw [h4 hn, hn]
    exact (R.blk _ _ hS).srep
theorem Refs.stC (R : Refs C σ ι s a w) {v : Value} {c : AC} {x : SV} (hv : ARep σ s.S ι v c) (h : stC s.S c = some x) : SRep σ v x := by
  unfold Go.Proofs.YtbiadmlfejnbcaaGreatDoor.stC at h
  split at h
  · cases h
    cases hv with | st h => exact h
  · cases h
    cases hv with | full h => exact h
  · split at h
    · rename_i hS
      split at h
      · rename_i hn
        cases h
        exact R.row_srep hv hS hn
      · cases h
    · cases h
  · cases h
    cases hv with
    | fn c h1 h2 h3 =>
      rename_i vs
      have : vs = #[] := Array.eq_empty_of_size_eq_zero (by simpa using h1)
      subst this
      exact .lit rfl
  · cases h
theorem Refs.stCs (R : Refs C σ ι s a w) : ∀ {vs : List Value} {cs : List AC} {xs : List SV}, All2 (ARep σ s.S ι) vs cs → stCs s.S cs = some xs → All2 (SRep σ) vs xs
  | _, _, _, .nil, h => by
    simp only [Go.Proofs.YtbiadmlfejnbcaaGreatDoor.stCs, Option.some.injEq] at h
    subst h
    exact .nil
  | _, _, _, .cons h1 h2, h => by
    simp only [Go.Proofs.YtbiadmlfejnbcaaGreatDoor.stCs] at h
    split at h
    · rename_i k1 k2
      cases h
      exact .cons (R.stC h1 k1) (R.stCs h2 k2)
    · cases h
theorem upd_noS (S : AStore) (ι : AHnd) : Upd noS noH S ι := fun id b h => by simp [noS] at h
theorem Refs.outC (R : Refs C σ ι s a w) {v : Value} {c c' : AC} (hv : ARep σ s.S ι v c) (h : outC s.S c = some c') : ARep σ noS noH v c' := by
  unfold Go.Proofs.YtbiadmlfejnbcaaGreatDoor.outC at h
  split at h
  · cases h
    cases hv with | eptr c h1 h2 => exact .eptr c h1 h2
  · cases h
    cases hv with
    | fn c h1 h2 h3 => exact .fn c h1 h2 (by simp)
  · rw [Option.map_eq_some_iff] at h
    obtain ⟨x, h1, rfl⟩ := h
    exact .st (R.stC hv h1)
theorem Refs.outCs (R : Refs C σ ι s a w) : ∀ {vs : List Value} {cs xs : List AC}, All2 (ARep σ s.S ι) vs cs → outCs s.S cs = some xs → All2 (ARep σ noS noH) vs xs
  | _, _, _, .nil, h => by
    simp only [Go.Proofs.YtbiadmlfejnbcaaGreatDoor.outCs, Option.some.injEq] at h
    subst h
    exact .nil
  | _, _, _, .cons h1 h2, h => by
    simp only [Go.Proofs.YtbiadmlfejnbcaaGreatDoor.outCs] at h
    split at h
    · rename_i k1 k2
      cases h
      exact .cons (R.outC h1 k1) (R.outCs h2 k2)
    · cases h
mutual
theorem Refs.outV (R : Refs C σ ι s a w) : ∀ {v : Value} {c c' : AV}, VRep σ s.S ι v c → outV s.S c = some c' → VRep σ noS noH v c'
  | v, .one c, c', hv, h => by
    simp only [Go.Proofs.YtbiadmlfejnbcaaGreatDoor.outV, Option.map_eq_some_iff] at h
    obtain ⟨x, h1, rfl⟩ := h
    cases hv with | one h2 => exact .one (R.outC h2 h1)
  | v, .agg cs, c', hv, h => by
    simp only [Go.Proofs.YtbiadmlfejnbcaaGreatDoor.outV, Option.map_eq_some_iff] at h
    obtain ⟨x, h1, rfl⟩ := h
    cases hv with | agg h2 => exact .agg (R.outCs h2 h1)
  | v, .tup cs, c', hv, h => by
    simp only [Go.Proofs.YtbiadmlfejnbcaaGreatDoor.outV, Option.map_eq_some_iff] at h
    obtain ⟨x, h1, rfl⟩ := h
    cases hv with
    | tup c h2 h3 h4 =>
      obtain ⟨k1, k2⟩ := Refs.outVs R (c := c) h4 h1
      exact .tup c (by rw [h2, k1]) (fun j b hb => by
        rcases Nat.lt_or_ge j cs.length with hj | hj
        · exact h3 j _ (List.getElem?_eq_getElem hj)
        · rw [List.getElem?_eq_none (by omega)] at hb; cases hb) k2
  | v, .any, c', hv, h => by
    simp only [Go.Proofs.YtbiadmlfejnbcaaGreatDoor.outV, Option.some.injEq] at h
    subst h
    exact .any
theorem Refs.outVs (R : Refs C σ ι s a w) : ∀ {cs cs' : List AV} {c : Nat → Value}, (∀ j b, cs[j]? = some b → VRep σ s.S ι (c j) b) → outVs s.S cs = some cs' → cs.length = cs'.length ∧ ∀ j b, cs'[j]? = some b → VRep σ noS noH (c j) b
  | [], cs', c, hv, h => by
    simp only [Go.Proofs.YtbiadmlfejnbcaaGreatDoor.outVs, Option.some.injEq] at h
    subst h
    simp
  | x :: xs, cs', c, hv, h => by
    simp only [Go.Proofs.YtbiadmlfejnbcaaGreatDoor.outVs] at h
    split at h
    · rename_i k1 k2
      cases h
      have h0 := Refs.outV R (hv 0 x rfl) k1
      obtain ⟨m1, m2⟩ := Refs.outVs R (c := fun j => c (j + 1)) (fun j b hb => hv (j + 1) b (by simpa using hb)) k2
      refine ⟨by simp [m1], fun j b hb => ?_⟩
      cases j with
      | zero => simp at hb; subst hb; exact h0
      | succ j => exact m2 j b (by simpa using hb)
    · cases h
end
end
end Go.Proofs.YtbiadmlfejnbcaaGreatDoor

namespace Go.Proofs.YtbiadmlfejnbcaaGreatDoor
open Go Go.RowKit
set_option linter.unusedVariables false
set_option maxHeartbeats 400000

theorem inR_wrap {k : IntKind} {n : Int} (h : inR k n) : k.wrap n = n := by
  cases k <;> simp [inR, IntKind.min, IntKind.max, IntKind.wrap, IntKind.signed, IntKind.bits] at h ⊢ <;> omega
instance (k : IntKind) (n : Int) : Decidable (inR k n) := by unfold inR; exact inferInstance

/-! ### what an operation must do -/
def Good (P : Program) (C : Ctx) (o : Oper) (a : Act) (w : World) (K : AV → AS → Prop) : Prop :=
  ∃ v av s' σ' ι' w', ((execOp a.eval o).run P w = .ok (.value v) w' ∨ (v = undef ∧ (execOp a.eval o).run P w = .ok .skip w')) ∧ K av s' ∧ Refs C σ' ι' s' a w' ∧ VRep σ' s'.S ι' v av

section
variable {P : Program} {C : Ctx} {o : Oper} {a : Act} {w : World} {K : AV → AS → Prop} {σ : Sto} {ι : AHnd} {s : AS} {d : Nat} {S : AStore}
/-- An operation that only computes. -/
theorem good_val (R : Refs C σ ι s a w) (v : Value) (av : AV) (hr : (execOp a.eval o).run P w = .ok (.value v) w) (hK : K av s) (hv : VRep σ s.S ι v av) : Good P C o a w K :=
  ⟨v, av, s, σ, ι, w, .inl hr, hK, R, hv⟩
theorem Good.wp (h : Good P C o a w K) {Q : Exit → Act → World → Prop} {next : Act → World → Prop} (hn : ∀ av s' σ' ι' a' w', K av s' → Refs C σ' ι' (s'.put o.dst av) a' w' → next a' w') : o.wp P a w next Q := by
  obtain ⟨v, av, s', σ', ι', w', hr, hK, R, hv⟩ := h
  unfold Oper.wp
  rcases hr with hr | ⟨rfl, hr⟩
  · rw [hr]
    exact hn _ _ _ _ _ _ hK (R.put hv)
  · rw [hr]
    exact hn _ _ _ _ _ _ hK (R.put hv)
end

/-! ### operands -/
def ofCell : Value → Option AC
  | .int k n => if inR k n then some (.st (.int k n)) else none
  | .string b => if b.size ≤ maxLen then some (.st (.str b)) else none
  | .bool b => some (.st (.bool b))
  | .slice none 0 0 => some (.full [])
  | .func (.func f) x y => if x.size = 0 ∧ y.size = 0 then some (.fn f []) else none
  | v => if v.oneCell' then some (.st (.lit v)) else none
def ofCells : List Value → Option (List AC)
  | [] => some []
  | v :: vs => match ofCell v, ofCells vs with
    | some c, some cs => some (c :: cs)
    | _, _ => none
def ofVal (v : Value) : Option AV := match v with
  | .agg cs => (ofCells cs.toList).map .agg
  | .tuple cs => if cs.size = 0 then some (.tup []) else none
  | v => (ofCell v).map .one
def trOpd (n : Nat) : Operand → Option Opd
  | .tmp t => if t < n then some (.t t) else none
  | .const v => (ofVal v).map .c
  | .func f => some (.c (.one (.fn f [])))
  | .global g => some (.c (.one (match globOf g with | some cs => .eptr cs | none => .st (.lit (.pointer (some ⟨g, 0, none⟩))))))
def trOpds (n : Nat) : List Operand → Option (List Opd)
  | [] => some []
  | x :: xs => match trOpd n x, trOpds n xs with
    | some c, some cs => some (c :: cs)
    | _, _ => none

section
variable {σ : Sto} {S : AStore} {ι : AHnd}
theorem srep_nil : SRep σ (.slice none 0 0) (.list []) := .list (b := 0) (o := 0) (w := 0) (fun _ _ => undef) rfl (Nat.le_refl _) (by simp [maxLen]) (fun _ => rfl) (by simp) (by simp) (by simp) (by simp)
theorem ofCell_rep {v : Value} {c : AC} (h : ofCell v = some c) : ARep σ S ι v c := by
  unfold ofCell at h
  split at h
  · split at h
    · cases h; exact .st (.int ‹_›)
    · cases h
  · split at h
    · cases h; exact .st (.str ‹_›)
    · cases h
  · cases h; exact .st .bool
  · cases h; exact .full srep_nil
  · split at h
    · rename_i x y hxy
      cases h
      have e1 : x = #[] := Array.eq_empty_of_size_eq_zero hxy.1
      have e2 : y = #[] := Array.eq_empty_of_size_eq_zero hxy.2
      subst e1 e2
      exact .fn (fun _ => undef) rfl (by simp) (by simp)
    · cases h
  · split at h
    · cases h; exact .st (.lit ‹_›)
    · cases h
theorem ofCells_rep : ∀ {vs : List Value} {cs : List AC}, ofCells vs = some cs → All2 (ARep σ S ι) vs cs
  | [], cs, h => by simp only [ofCells, Option.some.injEq] at h; subst h; exact .nil
  | v :: vs, cs, h => by
    simp only [ofCells] at h
    split at h
    · rename_i k1 k2
      cases h
      exact .cons (ofCell_rep k1) (ofCells_rep k2)
    · cases h
theorem ofVal_rep {v : Value} {c : AV} (h : ofVal v = some c) : VRep σ S ι v c := by
  unfold ofVal at h
  split at h
  · rw [Option.map_eq_some_iff] at h
    obtain ⟨x, h1, rfl⟩ := h
    exact .agg (ofCells_rep h1)
  · split at h
    · rename_i cs hcs
      cases h
      have e1 : cs = #[] := Array.eq_empty_of_size_eq_zero hcs
      subst e1
      exact .tup (fun _ => undef) rfl (by simp) (by simp)
    · cases h
  · rw [Option.map_eq_some_iff] at h
    obtain ⟨x, h1, rfl⟩ := h
    exact .one (ofCell_rep h1)
end
section
variable {P : Program} {C : Ctx} {o : Oper} {a : Act} {w : World} {K : AV → AS → Prop} {σ : Sto} {ι : AHnd} {s : AS} {d : Nat} {S : AStore}
theorem Refs.ev (R : Refs C σ ι s a w) {x : Operand} {x' : Opd} (h : trOpd C.n x = some x') : VRep σ s.S ι (a.eval x) (s.ev x') := by
  unfold trOpd at h
  split at h
  · split at h
    · cases h; exact R.env _ ‹_›
    · cases h
  · rw [Option.map_eq_some_iff] at h
    obtain ⟨c, h1, rfl⟩ := h
    exact ofVal_rep h1
  · cases h
    exact .one (.fn (fun _ => undef) rfl (by simp) (by simp))
  · rename_i g
    cases h
    refine .one ?_
    show ARep σ s.S ι (.pointer (some ⟨g, 0, none⟩)) (match globOf g with | some cs => .eptr cs | none => .st (.lit (.pointer (some ⟨g, 0, none⟩))))
    split
    · rename_i cs hcs
      exact (C.glob.mono R.ext).of hcs
    · exact .st (.lit rfl)
theorem Refs.evs (R : Refs C σ ι s a w) : ∀ {xs : List Operand} {xs' : List Opd}, trOpds C.n xs = some xs' → All2 (VRep σ s.S ι) (xs.map a.eval) (s.evs xs')
  | [], xs', h => by simp only [trOpds, Option.some.injEq] at h; subst h; exact .nil
  | x :: xs, xs', h => by
    simp only [trOpds] at h
    split at h
    · rename_i k1 k2
      cases h
      exact .cons (R.ev k1) (R.evs k2)
    · cases h

theorem vrep_one {v : Value} {c : AC} (h : VRep σ S ι v (.one c)) : ARep σ S ι v c := by cases h; assumption
theorem arep_eptr {v : Value} {cs : List SV} (h : ARep σ S ι v (.eptr cs)) : ∃ b oo, v = .pointer (some ⟨b, oo, none⟩) ∧ ∃ c : Nat → Value, (∀ j x, cs[j]? = some x → σ ⟨b, oo + j, none⟩ = some (c j)) ∧ (∀ j x, cs[j]? = some x → SRep σ (c j) x) := by
  cases h with | eptr c h1 h2 => exact ⟨_, _, rfl, c, h1, h2⟩
theorem arep_ptr {v : Value} {id m k off : Nat} (h : ARep σ S ι v (.ptr id m k off)) : ∃ b, S id = some b ∧ m ≤ b.len ∧ (m = b.len → ∃ g, (ι id).g = some g ∧ v = .pointer (some ⟨g, k * b.wid + off, none⟩)) := by
  cases h with | ptr h1 h2 h3 h4 => exact ⟨_, h1, h2, h4⟩
theorem arep_row {v : Value} {id m : Nat} (h : ARep σ S ι v (.row id m)) : ∃ b, S id = some b ∧ m ≤ b.len ∧ (m = b.len → v = .slice (ι id).p m (ι id).cap) := by
  cases h with | row h1 h2 h3 h4 => exact ⟨_, h1, h2, h4⟩
theorem arep_st {v : Value} {c : SV} (h : ARep σ S ι v (.st c)) : SRep σ v c := by cases h; assumption
def isAggD : TypeDesc → Bool
  | .struct _ | .array _ _ => true
  | _ => false

/-! ### pieces of memory -/
theorem addr_add (b o j : Nat) : (⟨b, o, none⟩ : Addr).add j = ⟨b, o + j, none⟩ := by unfold Addr.add; split <;> simp_all
theorem run_loadCellsL {b o : Nat} {cs : List Value} (h : ∀ j v, cs[j]? = some v → w.cell? ⟨b, o + j, none⟩ = some v) : (loadCells ⟨b, o, none⟩ cs.length).run P w = .ok cs.toArray w :=
  run_loadCells_list w ⟨b, o, none⟩ cs fun j v hj => by rw [addr_add]; exact h j v hj
/-- A thing of type t at an address: its cells. -/
theorem run_loadAt {t : TypeId} {d : TypeDesc} {i : TypeInfo} (hd : P.underlying t = some d) (hi : P.info? t = some i) {b o : Nat} {cs : List Value} (h : ∀ j v, cs[j]? = some v → w.cell? ⟨b, o + j, none⟩ = some v)
    (g : Bool) (hg : g = isAggD d) (hn : cs.length = if g then i.size else 1) :
    ∃ v, (Instr.loadAt t (.pointer (some ⟨b, o, none⟩))).run P w = .ok v w ∧ (if g then v = .agg cs.toArray else cs = [v]) := by
  cases g with
  | true =>
    refine ⟨.agg cs.toArray, ?_, rfl⟩
    have hl := run_loadCellsL (P := P) h
    simp only [if_true] at hn
    rw [hn] at hl
    have ha : (isAgg t).run P w = .ok true w := by
      simp only [isAgg, Sem.run_bind, run_underlying hd, Result.andThen_ok]
      cases d <;> first | rfl | simp [isAggD] at hg
    simp [Instr.loadAt, Instr.sureAddr, loadVar, ha, sizeOf, typeInfo, hi, hl]
  | false =>
    simp only [Bool.false_eq_true, if_false] at hn ⊢
    obtain ⟨v, rfl⟩ : ∃ v, cs = [v] := by
      match cs, hn with
      | [v], _ => exact ⟨v, rfl⟩
    refine ⟨v, ?_, rfl⟩
    have ha : (isAgg t).run P w = .ok false w := by
      simp only [isAgg, Sem.run_bind, run_underlying hd, Result.andThen_ok]
      cases d <;> first | rfl | simp [isAggD] at hg
    have h0 := h 0 v rfl
    simp only [Nat.add_zero] at h0
    simp [Instr.loadAt, Instr.sureAddr, loadVar, ha, load, Sem.run, h0]
theorem vrep_pack {g : Bool} {v : Value} {cs : List Value} {xs : List AC} (h : All2 (ARep σ s.S ι) cs xs) (hv : if g then v = .agg cs.toArray else cs = [v]) : VRep σ s.S ι v (pack g xs) := by
  cases g with
  | true =>
    simp only [if_true] at hv
    subst hv
    exact .agg (by simpa using h)
  | false =>
    simp only [Bool.false_eq_true, if_false] at hv
    subst hv
    cases h with
    | cons h1 h2 => cases h2; exact .one h1
/-- Cells of memory that stays. -/
theorem eptr_cells (hf : Fit σ w) {b o : Nat} {cs : List SV} {c : Nat → Value} (h1 : ∀ j x, cs[j]? = some x → σ ⟨b, o + j, none⟩ = some (c j)) (h2 : ∀ j x, cs[j]? = some x → SRep σ (c j) x) (n : Nat) (hn : n ≤ cs.length) :
    ∃ vs : List Value, vs.length = n ∧ (∀ j v, vs[j]? = some v → w.cell? ⟨b, o + j, none⟩ = some v) ∧ All2 (ARep σ S ι) vs ((cs.take n).map .st) := by
  refine ⟨(List.range n).map c, by simp, fun j v hj => ?_, ?_⟩
  · rw [List.getElem?_map] at hj
    by_cases hlt : j < n
    · rw [List.getElem?_range hlt] at hj
      simp only [Option.map_some, Option.some.injEq] at hj
      subst hj
      exact hf _ _ (h1 j _ (List.getElem?_eq_getElem (by omega)))
    · rw [List.getElem?_eq_none (by simp; omega)] at hj
      simp at hj
  · refine All2.of_get (by simp; omega) fun j v x hv hx => ?_
    have hlt : j < n := by
      rcases Nat.lt_or_ge j n with h | h
      · exact h
      · rw [List.getElem?_eq_none (by simp; omega)] at hv; cases hv
    rw [List.getElem?_map, List.getElem?_range hlt] at hv
    simp only [Option.map_some, Option.some.injEq] at hv
    subst hv
    rw [List.getElem?_map, List.getElem?_take, if_pos hlt, List.getElem?_eq_getElem (by omega)] at hx
    simp only [Option.map_some, Option.some.injEq] at hx
    subst hx
    exact .st (h2 j _ (List.getElem?_eq_getElem (by omega)))
/-- Cells of a block of the call's own. -/
theorem Refs.ptr_cells (R : Refs C σ ι s a w) {v : Value} {id m k off : Nat} (hv : ARep σ s.S ι v (.ptr id m k off)) {cs : List AC} (h : blkCells s.S id m k = some cs) :
    ∃ b o, v = .pointer (some ⟨b, o + off, none⟩) ∧ ∃ vs : List Value, (∀ j v, vs[j]? = some v → w.cell? ⟨b, o + j, none⟩ = some v) ∧ All2 (ARep σ s.S ι) vs cs := by
  cases hv with
  | ptr h1 h2 h3 h4 =>
  unfold blkCells at h
  rw [h1] at h
  have hb := R.blk _ _ h1
  split at h
  · rename_i heq
    cases heq
    split at h
    · rename_i hk
      cases h
      obtain ⟨g, g1, rfl⟩ := h4 hk.2
      cases hb with
      | box k1 k2 k3 k4 k5 =>
        rename_i vs
        rw [k1] at g1
        cases g1
        refine ⟨g, 0, by simp [ABlk.wid], vs.toList, fun j v hj => ?_, k4⟩
        rw [Nat.zero_add, cell_of_row w g j _ _ _ k3]
        simpa using hj
    · cases h
  · rename_i heq
    cases heq
    split at h
    · rename_i hk
      rw [Option.map_eq_some_iff] at h
      obtain ⟨x, hx, rfl⟩ := h
      obtain ⟨g, g1, rfl⟩ := h4 hk
      cases hb with
      | mnil k1 => simp at hx
      | mrow k1 k2 k3 k4 k5 k6 k7 k8 k9 =>
        rename_i wd xs g' vs
        rw [k1] at g1
        cases g1
        have hxm := k7 x (List.mem_of_getElem? hx)
        have key : ∀ j c, x[j]? = some c → vs[k * wd + j]? = some ((vs[k * wd + j]?).getD undef) ∧ SRep σ ((vs[k * wd + j]?).getD undef) c := fun j c hc => by
          obtain ⟨v, v1, v2⟩ := k8 k x j c hx hc
          rw [v1]
          exact ⟨rfl, v2⟩
        refine ⟨g, k * wd, rfl, (List.range x.length).map (fun j => (vs[k * wd + j]?).getD undef), fun j v hj => ?_, ?_⟩
        · rw [List.getElem?_map] at hj
          by_cases hlt : j < x.length
          · rw [List.getElem?_range hlt] at hj
            simp only [Option.map_some, Option.some.injEq] at hj
            subst hj
            rw [cell_of_row w g _ _ _ _ k3]
            exact (key j _ (List.getElem?_eq_getElem hlt)).1
          · rw [List.getElem?_eq_none (by simp; omega)] at hj
            simp at hj
        · refine All2.of_get (by simp) fun j v c hv hc => ?_
          rw [List.getElem?_map, Option.map_eq_some_iff] at hc
          obtain ⟨c', hc', rfl⟩ := hc
          have hlt : j < x.length := (List.getElem?_eq_some_iff.1 hc').1
          rw [List.getElem?_map, List.getElem?_range hlt] at hv
          simp only [Option.map_some, Option.some.injEq] at hv
          subst hv
          exact .st (key j _ hc').2
    · cases h
  · cases h

/-! ### reading operations -/
theorem snd_mov {x : Operand} {x' : Opd} (ho : o.op = .move x ∨ o.op = .assign x) (hx : trOpd C.n x = some x') (R : Refs C σ ι s a w) (h : Kd.go P d s K (.mov x')) : Good P C o a w K :=
  good_val R _ _ (by rcases ho with ho | ho <;> simp [execOp, ho]) h (R.ev hx)
theorem vrep_bool {v : Value} {b : Bool} (h : VRep σ S ι v (.one (.st (.bool b)))) : v = .bool b := by
  cases h with | one h => cases h with | st h => cases h; rfl
theorem vrep_int {v : Value} {k : IntKind} {n : Int} (h : VRep σ S ι v (.one (.st (.int k n)))) : v = .int k n ∧ inR k n := by
  cases h with | one h => cases h with | st h => cases h with | int h => exact ⟨rfl, h⟩
theorem vrep_str {v : Value} {b : ByteArray} (h : VRep σ S ι v (.one (.st (.str b)))) : v = .string b ∧ b.size ≤ maxLen := by
  cases h with | one h => cases h with | st h => cases h with | str h => exact ⟨rfl, h⟩
theorem snd_pick {c x y : Operand} {c' x' y' : Opd} (ho : o.op = .pick c x y) (hc : trOpd C.n c = some c') (hx : trOpd C.n x = some x') (hy : trOpd C.n y = some y') (R : Refs C σ ι s a w) (h : Kd.go P d s K (.pick c' x' y')) : Good P C o a w K := by
  have rc := R.ev hc
  simp only [Kd.go] at h
  split at h
  · rename_i t heq
    rw [heq] at rc
    have := vrep_bool rc
    cases t with
    | true => exact good_val R _ _ (by simp [execOp, ho, this, asBool]) (h.1 rfl) (R.ev hx)
    | false => exact good_val R _ _ (by simp [execOp, ho, this, asBool]) (h.2 rfl) (R.ev hy)
  · exact h.elim
theorem snd_load {t : TypeId} {x : Operand} {x' : Opd} {dd : TypeDesc} {i : TypeInfo} (ho : o.op = .load t x) (hx : trOpd C.n x = some x') (hd : P.underlying t = some dd) (hi : P.info? t = some i)
    (g : Bool) (hg : g = isAggD dd) (n : Nat) (hn : n = if g then i.size else 1) (R : Refs C σ ι s a w) (h : Kd.go P d s K (.load g n x')) : Good P C o a w K := by
  have rx := R.ev hx
  simp only [Kd.go] at h
  split at h
  · rename_i cs heq
    obtain ⟨hle, hK⟩ := h
    rw [heq] at rx
    obtain ⟨b, oo, hex, c, h1, h2⟩ := arep_eptr (vrep_one rx)
    obtain ⟨vs, v1, v2, v3⟩ := eptr_cells (w := w) (S := s.S) (ι := ι) R.fit h1 h2 n hle
    obtain ⟨v, r1, r2⟩ := run_loadAt (P := P) hd hi v2 g hg (by rw [v1, hn])
    exact good_val R v _ (by simp [execOp, ho, hex, r1]) hK (vrep_pack v3 r2)
  · rename_i id m k off heq
    split at h
    · rename_i cs hb
      obtain ⟨hle, hK⟩ := h
      rw [heq] at rx
      obtain ⟨b, oo, hex, vs, v2, v3⟩ := R.ptr_cells (vrep_one rx) hb
      have hlen := v3.len
      have v4 : All2 (ARep σ s.S ι) ((vs.drop off).take n) ((cs.drop off).take n) := (v3.drop off).take n
      obtain ⟨v, r1, r2⟩ := run_loadAt (P := P) (w := w) (b := b) (o := oo + off) (cs := (vs.drop off).take n) hd hi (fun j v hj => by
        rw [List.getElem?_take] at hj
        split at hj
        · rw [List.getElem?_drop] at hj
          rw [Nat.add_assoc]
          exact v2 _ _ hj
        · cases hj) g hg (by simp; omega)
      exact good_val R v _ (by simp [execOp, ho, hex, r1]) hK (vrep_pack v4 r2)
    · exact h.elim
  · exact h.elim
theorem snd_fieldAddr {t f : TypeId} {x : Operand} {x' : Opd} {fs : Array Field} {fd : Field} {i : TypeInfo} (ho : o.op = .fieldAddr t x f) (hx : trOpd C.n x = some x') (hd : P.underlying t = some (.struct fs)) (hf : fs[f]? = some fd) (hi : P.info? fd.type = some i) (hz : i.size ≠ 0)
    (R : Refs C σ ι s a w) (h : Kd.go P d s K (.fieldAddr fd.offset x')) : Good P C o a w K := by
  have rx := R.ev hx
  have run : ∀ b oo, a.eval x = .pointer (some ⟨b, oo, none⟩) → (execOp a.eval o).run P w = .ok (.value (.pointer (some ⟨b, oo + fd.offset, none⟩))) w := fun b oo he => by
    simp [execOp, ho, he, Instr.fieldAt, run_underlying hd, hf, Instr.sureAddr, fieldPlace, sizeOf, typeInfo, hi, hz, addr_add]
  simp only [Kd.go] at h
  split at h
  · rename_i cs heq
    rw [heq] at rx
    obtain ⟨b, oo, hex, c, h1, h2⟩ := arep_eptr (vrep_one rx)
    refine good_val R _ _ (run _ _ hex) h (.one (.eptr (fun j => c (fd.offset + j)) (fun j y hy => ?_) (fun j y hy => ?_)))
    · rw [Nat.add_assoc]; exact h1 _ _ (by rw [← List.getElem?_drop]; exact hy)
    · exact h2 _ _ (by rw [← List.getElem?_drop]; exact hy)
  · rename_i id m k off heq
    rw [heq] at rx
    obtain ⟨b, h1, h2, h4⟩ := arep_ptr (vrep_one rx)
    · rw [h1] at h
      obtain ⟨hm, h⟩ := h
      obtain ⟨g, g1, g2⟩ := h4 hm
      exact good_val R _ _ (run _ _ g2) h (.one (.ptr h1 h2 rfl fun _ => ⟨g, g1, by rw [Nat.add_assoc]⟩))
  · exact h.elim
end
end Go.Proofs.YtbiadmlfejnbcaaGreatDoor

namespace Go.Proofs.YtbiadmlfejnbcaaGreatDoor
open Go Go.RowKit
set_option linter.unusedVariables false
set_option maxHeartbeats 400000
section
variable {P : Program} {C : Ctx} {o : Oper} {a : Act} {w : World} {K : AV → AS → Prop} {σ : Sto} {ι : AHnd} {s : AS} {d : Nat} {S : AStore}

theorem snd_nilCheck {x : Operand} {x' : Opd} (ho : o.op = .nilCheck x) (hx : trOpd C.n x = some x') (R : Refs C σ ι s a w) (h : Kd.go P d s K (.nilCheck x')) : Good P C o a w K := by
  have rx := R.ev hx
  simp only [Kd.go] at h
  split at h
  · rename_i cs heq
    have rx' := rx
    rw [heq] at rx
    obtain ⟨b, oo, hex, c, h1, h2⟩ := arep_eptr (vrep_one rx)
    exact good_val R (.pointer (some ⟨b, oo, none⟩)) _ (by simp [execOp, ho, hex]) h (by rw [hex] at rx; exact rx)
  · rename_i id m k off heq
    rw [heq] at rx
    obtain ⟨b, h1, h2, h4⟩ := arep_ptr (vrep_one rx)
    rw [h1] at h
    obtain ⟨hm, h⟩ := h
    obtain ⟨g, g1, g2⟩ := h4 hm
    exact good_val R (.pointer (some ⟨g, k * b.wid + off, none⟩)) _ (by simp [execOp, ho, g2]) h (by rw [g2] at rx; exact rx)
  · exact h.elim

theorem run_part {t : TypeId} {d : TypeDesc} {i : TypeInfo} (hd : P.underlying t = some d) (hi : P.info? t = some i) {cs : Array Value} {off n : Nat} (g : Bool) (hg : g = isAggD d) (hn : n = if g then i.size else 1) (hle : off + n ≤ cs.size) :
    ∃ v, (part t cs off).run P w = .ok v w ∧ (if g then v = .agg ((cs.toList.drop off).take n).toArray else (cs.toList.drop off).take n = [v]) := by
  cases g with
  | true =>
    simp only [if_true] at hn
    have ha : (isAgg t).run P w = .ok true w := by
      simp only [isAgg, Sem.run_bind, run_underlying hd, Result.andThen_ok]
      cases d <;> first | rfl | simp [isAggD] at hg
    refine ⟨.agg (cs.extract off (off + i.size)), by simp [part, ha, sizeOf, typeInfo, hi], ?_⟩
    subst hn
    apply congrArg Value.agg
    apply Array.ext'
    simp
  | false =>
    simp only [Bool.false_eq_true, if_false] at hn ⊢
    subst hn
    have ha : (isAgg t).run P w = .ok false w := by
      simp only [isAgg, Sem.run_bind, run_underlying hd, Result.andThen_ok]
      cases d <;> first | rfl | simp [isAggD] at hg
    have hlt : off < cs.size := by omega
    refine ⟨cs[off], by simp [part, ha, Array.getElem?_eq_getElem hlt], ?_⟩
    rw [List.take_one]
    simp [List.head?_drop, Array.getElem?_eq_getElem hlt]
theorem vrep_agg {v : Value} {cs : List AC} (h : VRep σ S ι v (.agg cs)) : ∃ vs, v = .agg vs ∧ All2 (ARep σ S ι) vs.toList cs := by
  cases h with | agg h => exact ⟨_, rfl, h⟩
theorem snd_field {t f : TypeId} {x : Operand} {x' : Opd} {fs : Array Field} {fd : Field} {dd : TypeDesc} {i : TypeInfo} (ho : o.op = .field t x f) (hx : trOpd C.n x = some x') (hd : P.underlying t = some (.struct fs)) (hf : fs[f]? = some fd) (hdd : P.underlying fd.type = some dd) (hi : P.info? fd.type = some i)
    (g : Bool) (hg : g = isAggD dd) (n : Nat) (hn : n = if g then i.size else 1) (R : Refs C σ ι s a w) (h : Kd.go P d s K (.field g fd.offset n x')) : Good P C o a w K := by
  have rx := R.ev hx
  simp only [Kd.go] at h
  split at h
  · rename_i cs heq
    obtain ⟨hle, hK⟩ := h
    rw [heq] at rx
    obtain ⟨vs, hex, hvs⟩ := vrep_agg rx
    have hl := hvs.len
    obtain ⟨v, r1, r2⟩ := run_part (P := P) (w := w) hdd hi (cs := vs) (off := fd.offset) g hg hn (by simp at hl; omega)
    refine good_val R v _ ?_ hK (vrep_pack ((hvs.drop _).take n) r2)
    simp [execOp, ho, hex, Instr.field, run_underlying hd, hf, asAgg, r1]
  · exact h.elim

theorem arep_full {v : Value} {xs : List (List SV)} (h : ARep σ S ι v (.full xs)) : SRep σ v (.list xs) := by
  cases h with | full h => exact h
/-- The k-th of a slice of things that stay. -/
theorem srep_idx {v : Value} {xs : List (List SV)} (h : SRep σ v (.list xs)) {k : Nat} {x : List SV} (hx : xs[k]? = some x) {wd : Nat} (hw : x.length = wd) :
    ∃ b oo len cap, v = .slice (some ⟨b, oo, none⟩) len cap ∧ len = xs.length ∧ ∃ c : Nat → Value, (∀ j y, x[j]? = some y → σ ⟨b, oo + k * wd + j, none⟩ = some (c j)) ∧ (∀ j y, x[j]? = some y → SRep σ (c j) y) := by
  cases h with
  | list c h1 h2 h3 h4 h5 h6 h7 h8 =>
    have hlt := (List.getElem?_eq_some_iff.1 hx).1
    have hp := h5 (by omega)
    have hw' := h6 x (List.mem_of_getElem? hx)
    subst hp
    rw [hw] at hw'
    subst hw'
    exact ⟨_, _, _, _, rfl, h1, c k, fun j y hy => h7 k x j y hx hy, fun j y hy => h8 k x j y hx hy⟩
theorem run_indexAt {t e : TypeId} {i : TypeInfo} (ht : P.underlying t = some (.slice e)) (hi : P.info? e = some i) {b oo len cap : Nat} {kk : IntKind} {n : Int} (h0 : 0 ≤ n) (hn : n.toNat < len) :
    (Instr.indexAt t (.slice (some ⟨b, oo, none⟩) len cap) (.int kk n)).run P w = .ok (.pointer (some ⟨b, oo + n.toNat * i.size, none⟩)) w := by
  have h1 : n < (len : Int) := by omega
  simp [Instr.indexAt, asIntOf, run_underlying ht, h0, h1, sizeOf, typeInfo, hi, addr_add]
theorem run_indexArr {t e : TypeId} {len : Nat} {i : TypeInfo} (ht : P.underlying t = some (.array len e)) (hi : P.info? e = some i) {b oo : Nat} {kk : IntKind} {n : Int} (h0 : 0 ≤ n) (h1 : n < len) :
    (Instr.indexAt t (.pointer (some ⟨b, oo, none⟩)) (.int kk n)).run P w = .ok (.pointer (some ⟨b, oo + n.toNat * i.size, none⟩)) w := by
  simp [Instr.indexAt, asIntOf, run_underlying ht, Instr.sureAddr, h0, h1, sizeOf, typeInfo, hi, addr_add]
theorem snd_indexArr {t e : TypeId} {len : Nat} {x y : Operand} {x' y' : Opd} {i : TypeInfo} (ho : o.op = .indexAddr t x y) (hx : trOpd C.n x = some x') (hy : trOpd C.n y = some y') (ht : P.underlying t = some (.array len e)) (hi : P.info? e = some i)
    (R : Refs C σ ι s a w) (h : Kd.go P d s K (.indexArr len i.size x' y')) : Good P C o a w K := by
  have rx := R.ev hx
  have ry := R.ev hy
  simp only [Kd.go] at h
  split at h
  · rename_i cs kk n e1 e2
    rw [e1] at rx
    rw [e2] at ry
    obtain ⟨hey, -⟩ := vrep_int ry
    obtain ⟨b, oo, hex, c, h1, h2⟩ := arep_eptr (vrep_one rx)
    refine good_val R (.pointer (some ⟨b, oo + n.toNat * i.size, none⟩)) _ (by simp [execOp, ho, hex, hey, run_indexArr ht hi h.1.1 h.1.2]) h.2 (.one (.eptr (fun j => c (n.toNat * i.size + j)) (fun j y hy => ?_) (fun j y hy => ?_)))
    · rw [Nat.add_assoc]; exact h1 _ _ (by rw [← List.getElem?_drop]; exact hy)
    · exact h2 _ _ (by rw [← List.getElem?_drop]; exact hy)
  · rename_i id m k off kk n e1 e2
    rw [e1] at rx
    rw [e2] at ry
    obtain ⟨hey, -⟩ := vrep_int ry
    obtain ⟨b, h1, h2, h4⟩ := arep_ptr (vrep_one rx)
    rw [h1] at h
    obtain ⟨hn, hm, h⟩ := h
    obtain ⟨g, g1, g2⟩ := h4 hm
    exact good_val R (.pointer (some ⟨g, k * b.wid + off + n.toNat * i.size, none⟩)) _ (by simp [execOp, ho, g2, hey, run_indexArr ht hi hn.1 hn.2]) h (.one (.ptr h1 h2 rfl fun _ => ⟨g, g1, by rw [Nat.add_assoc]⟩))
  · exact h.elim
theorem snd_indexAddr {t e : TypeId} {x y : Operand} {x' y' : Opd} {i : TypeInfo} (ho : o.op = .indexAddr t x y) (hx : trOpd C.n x = some x') (hy : trOpd C.n y = some y') (ht : P.underlying t = some (.slice e)) (hi : P.info? e = some i)
    (R : Refs C σ ι s a w) (h : Kd.go P d s K (.indexAddr i.size x' y')) : Good P C o a w K := by
  have rx := R.ev hx
  have ry := R.ev hy
  simp only [Kd.go] at h
  split at h
  · rename_i c kk n e1 e2
    rw [e1] at rx
    rw [e2] at ry
    replace rx := vrep_one rx
    obtain ⟨hey, -⟩ := vrep_int ry
    have fin : ∀ (xs : List (List SV)) (x1 : List SV), SRep σ (a.eval x) (.list xs) → 0 ≤ n → xs[n.toNat]? = some x1 → x1.length = i.size → K (.one (.eptr x1)) s → Good P C o a w K := fun xs x1 hr h0 hx1 hw hK => by
      obtain ⟨b, oo, len, cap, hex, hl, c, c1, c2⟩ := srep_idx hr hx1 hw
      have hlt := (List.getElem?_eq_some_iff.1 hx1).1
      refine good_val R _ _ (by simp [execOp, ho, hex, hey, run_indexAt ht hi h0 (show n.toNat < len by omega)]) hK (.one (.eptr c c1 c2))
    split at h
    · rename_i xs
      unfold idxK at h
      obtain ⟨h0, h⟩ := h
      split at h
      · rename_i x1 hx1
        exact fin xs x1 (arep_st rx) h0 hx1 h.1 h.2
      · exact h.elim
    · rename_i xs
      unfold idxK at h
      obtain ⟨h0, h⟩ := h
      split at h
      · rename_i x1 hx1
        refine fin xs x1 ?_ h0 hx1 h.1 h.2
        exact arep_full rx
      · exact h.elim
    · rename_i id m
      split at h
      · rename_i e' w' xs hS
        obtain ⟨hm, rfl, h⟩ := h
        unfold idxK at h
        obtain ⟨h0, h⟩ := h
        split at h
        · rename_i x1 hx1
          refine fin xs x1 (R.row_srep rx hS hm) h0 hx1 ?_ h
          have hb := R.blk _ _ hS
          cases hb with
          | afull _ _ h7 => exact h7 x1 (List.mem_of_getElem? hx1)
          | arow _ _ _ _ _ _ h7 => exact h7 x1 (List.mem_of_getElem? hx1)
        · exact h.elim
      · rename_i e' w' xs hS
        obtain ⟨hm, rfl, h0, hlt, hK⟩ := h
        obtain ⟨b, hb1, hb2, hb3⟩ := arep_row rx
        rw [hS] at hb1
        cases hb1
        have hex := hb3 hm
        have hb := R.blk _ _ hS
        cases hb with
        | mnil => simp at hlt
        | @mrow _ _ _ g vs k1 k2 =>
          rw [k2] at hex
          refine good_val R (.pointer (some ⟨g, n.toNat * i.size, none⟩)) _ (by simp [execOp, ho, hex, hey, run_indexAt ht hi h0 (show n.toNat < m by omega)]) hK (.one (.ptr hS (by simpa [ABlk.len] using Nat.le_of_eq hm) rfl fun _ => ⟨g, k1, by simp [ABlk.wid]⟩))
      · exact h.elim
    · exact h.elim
  · exact h.elim
theorem snd_indexStr {t : TypeId} {x y : Operand} {x' y' : Opd} (ho : o.op = .index t x y) (hx : trOpd C.n x = some x') (hy : trOpd C.n y = some y') (ht : P.underlying t = some .string)
    (R : Refs C σ ι s a w) (h : Kd.go P d s K (.indexStr x' y')) : Good P C o a w K := by
  have rx := R.ev hx
  have ry := R.ev hy
  simp only [Kd.go] at h
  split at h
  · rename_i b kk n e1 e2
    rw [e1] at rx
    rw [e2] at ry
    obtain ⟨hex, hb⟩ := vrep_str rx
    obtain ⟨hey, -⟩ := vrep_int ry
    obtain ⟨⟨h0, hlt⟩, hK⟩ := h
    have hget : b[n.toNat]? = some (b[n.toNat]'hlt) := by simp [getElem?_pos, hlt]
    have e3 : ((b[n.toNat]'hlt).toNat : Int) = byteN b n.toNat := by
      unfold byteN
      have h2 : n.toNat < b.data.toList.length := by simpa using hlt
      rw [List.getD_eq_getElem?_getD, List.getElem?_eq_getElem h2]
      rfl
    refine good_val R (.int .u8 (byteN b n.toNat)) _ ?_ hK (.one (.st (.int ?_)))
    · simp only [execOp, ho, hex, hey, Instr.index, asIntOf]
      simp [run_underlying ht, h0, hget, e3]
    · unfold byteN
      have := (b.data.toList.getD n.toNat 0).toNat_lt
      constructor
      · simp [IntKind.min, IntKind.signed]
      · simp only [IntKind.max, IntKind.signed, IntKind.bits, Bool.false_eq_true, if_false]; omega
  · exact h.elim

/-! ### reckoning -/
theorem tmod_in {k : IntKind} {x y : Int} (h : inR k (x.tmod y)) : True := trivial
theorem toList_eq_iff {x y : ByteArray} : (x.toList == y.toList) = decide (x = y) := by
  rw [Bool.eq_iff_iff]
  simp only [beq_iff_eq, decide_eq_true_eq]
  constructor
  · intro h
    rw [ByteArray.toList_eq, ByteArray.toList_eq] at h
    cases x; cases y
    simp only [ByteArray.mk.injEq]
    exact Array.toList_inj.1 h
  · rintro rfl; rfl
theorem run_binI {op : BinOp} {t : TypeId} {k : IntKind} {x y : Int} {K' : SV → Prop} (h : binI op k x y K') :
    ∃ v c, (binOp op t (.int k x) (.int k y)).run P w = .ok v w ∧ SRep σ v c ∧ K' c := by
  cases op <;> simp only [binI] at h
  · exact ⟨_, _, by simp [binOp, Op.intArith, inR_wrap h.1], .int h.1, h.2⟩
  · exact ⟨_, _, by simp [binOp, Op.intArith, inR_wrap h.1], .int h.1, h.2⟩
  · exact ⟨_, _, by simp [binOp, Op.intArith, inR_wrap h.1], .int h.1, h.2⟩
  · exact ⟨_, _, by simp [binOp, Op.intDiv, h.1, inR_wrap h.2.1], .int h.2.1, h.2.2⟩
  · exact ⟨_, _, by simp [binOp, Op.intDiv, h.1], .int h.2.1, h.2.2⟩
  · refine ⟨_, _, ?_, .int h.2.1, h.2.2⟩
    obtain ⟨⟨h1, h2⟩, _⟩ := h
    simp only [binOp, Op.shift]
    rw [if_neg (by omega), Nat.min_eq_left h2]
    rfl
  · exact ⟨.bool (decide (x = y)), _, by simp [binOp, Op.intCmp, BEq.beq], .bool, h⟩
  · exact ⟨.bool (decide (¬ x = y)), _, by simp [binOp, Op.intCmp, bne, BEq.beq], .bool, h⟩
  · exact ⟨.bool (decide (x < y)), _, by simp [binOp, Op.intCmp], .bool, h⟩
  · exact ⟨.bool (decide (x ≤ y)), _, by simp [binOp, Op.intCmp], .bool, h⟩
  · exact ⟨.bool (decide (y < x)), _, by simp [binOp, Op.intCmp], .bool, h⟩
  · exact ⟨.bool (decide (y ≤ x)), _, by simp [binOp, Op.intCmp], .bool, h⟩
theorem run_binS {op : BinOp} {t : TypeId} {x y : ByteArray} {K' : SV → Prop} (h : binS op x y K') :
    ∃ v c, (binOp op t (.string x) (.string y)).run P w = .ok v w ∧ SRep σ v c ∧ K' c := by
  cases op <;> simp only [binS] at h
  · refine ⟨_, _, ?_, .str (s := x ++ y) (by simpa using h.1), h.2⟩
    have h1 := h.1
    have : ¬ (((x.size + y.size : Nat) : Int) > IntKind.i64.max) := by
      simp [maxLen] at h1
      simp [IntKind.max, IntKind.signed, IntKind.bits]
      omega
    simp only [binOp, Op.stringOp, this, if_false]
    rfl
  all_goals first | exact h.elim | skip
  · exact ⟨.bool (decide (x = y)), _, by simp only [binOp, Op.stringOp, toList_eq_iff]; rfl, .bool, h⟩
  · exact ⟨.bool (decide (¬ x = y)), _, by simp only [binOp, Op.stringOp, toList_eq_iff, decide_not]; rfl, .bool, h⟩
  · exact ⟨.bool (sLt x y), _, by simp only [binOp, Op.stringOp]; rfl, .bool, h⟩
  · exact ⟨.bool (sLt x y || decide (x = y)), _, by simp only [binOp, Op.stringOp, toList_eq_iff]; rfl, .bool, h⟩
  · exact ⟨.bool (!(sLt x y || decide (x = y))), _, by simp only [binOp, Op.stringOp, toList_eq_iff]; rfl, .bool, h⟩
  · exact ⟨.bool (!sLt x y), _, by simp only [binOp, Op.stringOp]; rfl, .bool, h⟩
theorem run_eqGuard_int {op : BinOp} {t : TypeId} {x y : Operand} {k k' : IntKind} {m n : Int} : (eqGuard op t x y (.int k m) (.int k' n)).run P w = .ok () w := by
  unfold eqGuard; split <;> rfl
theorem run_eqGuard_str {op : BinOp} {t : TypeId} {x y : Operand} {m n : ByteArray} : (eqGuard op t x y (.string m) (.string n)).run P w = .ok () w := by
  unfold eqGuard; split <;> rfl
theorem run_eqGuard_bool {op : BinOp} {t : TypeId} {x y : Operand} {m n : Bool} : (eqGuard op t x y (.bool m) (.bool n)).run P w = .ok () w := by
  unfold eqGuard; split <;> rfl
theorem snd_bin {op : BinOp} {t t' : TypeId} {x y : Operand} {x' y' : Opd} (ho : o.op = .binOp op t x y t') (hx : trOpd C.n x = some x') (hy : trOpd C.n y = some y')
    (R : Refs C σ ι s a w) (h : Kd.go P d s K (.bin op x' y')) : Good P C o a w K := by
  have rx := R.ev hx
  have ry := R.ev hy
  simp only [Kd.go] at h
  split at h
  · rename_i k m k' n e1 e2
    rw [e1] at rx
    rw [e2] at ry
    obtain ⟨hex, -⟩ := vrep_int rx
    obtain ⟨hey, -⟩ := vrep_int ry
    obtain ⟨rfl, h⟩ := h
    obtain ⟨v, c, r1, r2, r3⟩ := run_binI (P := P) (w := w) (σ := σ) (t := t) h
    exact good_val R v _ (by simp [execOp, ho, hex, hey, run_eqGuard_int, r1]) r3 (.one (.st r2))
  · rename_i m n e1 e2
    rw [e1] at rx
    rw [e2] at ry
    obtain ⟨hex, -⟩ := vrep_str rx
    obtain ⟨hey, -⟩ := vrep_str ry
    obtain ⟨v, c, r1, r2, r3⟩ := run_binS (P := P) (w := w) (σ := σ) (t := t) h
    exact good_val R v _ (by simp [execOp, ho, hex, hey, run_eqGuard_str, r1]) r3 (.one (.st r2))
  · exact h.elim
theorem snd_eqB {neg : Bool} {t t' : TypeId} {x y : Operand} {x' y' : Opd} (ho : o.op = .binOp (if neg then .neq else .eql) t x y t') (hx : trOpd C.n x = some x') (hy : trOpd C.n y = some y') (ht : P.underlying t = some .bool)
    (R : Refs C σ ι s a w) (h : Kd.go P d s K (.eqB neg x' y')) : Good P C o a w K := by
  have rx := R.ev hx
  have ry := R.ev hy
  simp only [Kd.go] at h
  split at h
  · rename_i m n e1 e2
    rw [e1] at rx
    rw [e2] at ry
    have hex := vrep_bool rx
    have hey := vrep_bool ry
    refine good_val R _ _ ?_ h (.one (.st .bool))
    have he : (Op.equal t (.bool m) (.bool n)).run P w = .ok (m == n) w := by
      show (Op.equalIn (_ + 1) t (.bool m) (.bool n)).run P w = _
      rw [Op.equalIn]
      simp only [Sem.run_bind, run_underlying ht, Result.andThen_ok, Sem.run_pure]
    cases neg with
    | true =>
      simp only [if_true] at ho
      simp only [execOp, ho, hex, hey, binOp, Sem.run_bind, run_eqGuard_bool, he, Result.andThen_ok, Sem.run_pure]
      rfl
    | false =>
      simp only [Bool.false_eq_true, if_false] at ho
      simp only [execOp, ho, hex, hey, binOp, Sem.run_bind, run_eqGuard_bool, he, Result.andThen_ok, Sem.run_pure]
      rfl
  · exact h.elim
theorem run_eqGuard_slice {op : BinOp} {t : TypeId} {x y : Operand} {p q : Option Addr} {m n m' n' : Nat} : (eqGuard op t x y (.slice p m n) (.slice q m' n')).run P w = .ok () w := by
  unfold eqGuard; split <;> rfl
theorem srep_some {σ : Sto} {v : Value} {xs : List (List SV)} (h : SRep σ v (.list xs)) (h0 : 0 < xs.length) : ∃ p len cap, v = .slice (some p) len cap := by
  cases h with
  | @list p len cap b o w _ c h1 h2 h3 h4 h5 h6 h7 h8 => exact ⟨⟨b, o, none⟩, len, cap, by rw [h5 (by omega)]⟩
theorem snd_eqN {neg : Bool} {t t' e : TypeId} {x : Operand} {x' : Opd} (ho : o.op = .binOp (if neg then .neq else .eql) t x (.const (.slice none 0 0)) t') (hx : trOpd C.n x = some x') (ht : P.underlying t = some (.slice e))
    (R : Refs C σ ι s a w) (h : Kd.go P d s K (.eqN neg x')) : Good P C o a w K := by
  have rx := R.ev hx
  simp only [Kd.go] at h
  split at h
  · rename_i xs e1
    rw [e1] at rx
    obtain ⟨h0, h⟩ := h
    obtain ⟨p, len, cap, hex⟩ := srep_some (arep_st (vrep_one rx)) h0
    have hey : a.eval (.const (.slice none 0 0)) = .slice none 0 0 := rfl
    refine good_val R (.bool neg) _ ?_ h (.one (.st .bool))
    have he : (Op.equal t (.slice (some p) len cap) (.slice none 0 0)).run P w = .ok false w := by
      show (Op.equalIn (_ + 1) t (.slice (some p) len cap) (.slice none 0 0)).run P w = _
      rw [Op.equalIn]
      simp only [Sem.run_bind, run_underlying ht, Result.andThen_ok, Sem.run_pure]
    cases neg with
    | true =>
      simp only [if_true] at ho
      simp only [execOp, ho, hex, hey, binOp, Sem.run_bind, run_eqGuard_slice, he, Result.andThen_ok, Sem.run_pure]
      try rfl
    | false =>
      simp only [Bool.false_eq_true, if_false] at ho
      simp only [execOp, ho, hex, hey, binOp, Sem.run_bind, run_eqGuard_slice, he, Result.andThen_ok, Sem.run_pure]
      try rfl
  · exact h.elim
theorem srep_err {σ : Sto} {v : Value} (h : SRep σ v .err) : ∃ t x, v = .iface t x := by
  cases h with
  | @err t x => exact ⟨t, x, rfl⟩
theorem srep_lit {σ : Sto} {v u : Value} (h : SRep σ v (.lit u)) : v = u := by
  cases h with
  | lit => rfl
theorem under_iface {t : TypeId} {ms : Array (String × TypeId)} (ht : P.underlying t = some (.interface ms)) : P.underlying t = some (.interface (P.methodsAt t)) := by
  simp [Program.methodsAt, ht]
theorem snd_eqE {neg : Bool} {t t' : TypeId} {ms : Array (String × TypeId)} {x : Operand} {x' : Opd} (ho : o.op = .binOp (if neg then .neq else .eql) t x (.const .nilIface) t') (hx : trOpd C.n x = some x') (ht : P.underlying t = some (.interface ms))
    (R : Refs C σ ι s a w) (h : Kd.go P d s K (.eqE neg x')) : Good P C o a w K := by
  have rx := R.ev hx
  have hey : a.eval (.const .nilIface) = .nilIface := rfl
  have ht' := under_iface ht
  simp only [Kd.go] at h
  split at h
  · rename_i e1
    rw [e1] at rx
    obtain ⟨u, y, hex⟩ := srep_err (arep_st (vrep_one rx))
    refine good_val R (.bool neg) _ ?_ h (.one (.st .bool))
    cases neg with
    | true =>
      simp only [if_true] at ho
      simp only [execOp, ho, hex, hey, Sem.run_bind, eqGuard_at_iface, run_neq_held_nil w t u y ht', Result.andThen_ok, Sem.run_pure]
    | false =>
      simp only [Bool.false_eq_true, if_false] at ho
      simp only [execOp, ho, hex, hey, Sem.run_bind, eqGuard_at_iface, run_eql_held_nil w t u y ht', Result.andThen_ok, Sem.run_pure]
  · rename_i e1
    rw [e1] at rx
    have hex := srep_lit (arep_st (vrep_one rx))
    refine good_val R (.bool !neg) _ ?_ h (.one (.st .bool))
    cases neg with
    | true =>
      simp only [if_true] at ho
      simp only [execOp, ho, hex, hey, Sem.run_bind, eqGuard_nil_constR, run_neq_nil_nil w t ht', Result.andThen_ok, Sem.run_pure, Bool.not_true]
    | false =>
      simp only [Bool.false_eq_true, if_false] at ho
      simp only [execOp, ho, hex, hey, Sem.run_bind, eqGuard_nil_constR, run_eql_nil_nil w t ht', Result.andThen_ok, Sem.run_pure, Bool.not_false]
  · exact h.elim
theorem bytesOf_get : ∀ {ys : List (List SV)} {ns : List Int}, bytesOf ys = some ns → ns.length = ys.length ∧ ∀ (i : Nat), i < ns.length → ys[i]? = some [.int .u8 (ns.getD i 0)]
  | [], ns, h => by
    cases h
    exact ⟨rfl, fun i hi => by simp at hi⟩
  | y :: r, ns, h => by
    unfold bytesOf at h
    split at h
    · rename_i e
      cases e
    · rename_i n r' e
      cases e
      rw [Option.map_eq_some_iff] at h
      obtain ⟨ms, h1, rfl⟩ := h
      obtain ⟨a1, a2⟩ := bytesOf_get h1
      refine ⟨by simp [a1], fun i hi => ?_⟩
      cases i with
      | zero => rfl
      | succ i =>
        have := a2 i (by simpa using hi)
        simpa using this
    · cases h
theorem snd_strOf {src dst e : TypeId} {x : Operand} {x' : Opd} (ho : o.op = .convert src dst x) (hx : trOpd C.n x = some x') (hs : P.underlying src = some (.slice e)) (he : P.underlying e = some (.int .u8)) (hd : P.underlying dst = some .string)
    (R : Refs C σ ι s a w) (h : Kd.go P d s K (.strOf x')) : Good P C o a w K := by
  have rx := R.ev hx
  simp only [Kd.go] at h
  split at h
  · rename_i ys e1
    rw [e1] at rx
    split at h
    · rename_i ns e2
      obtain ⟨⟨h0, h1⟩, hK⟩ := h
      obtain ⟨b1, b2⟩ := bytesOf_get e2
      have rs := arep_full (vrep_one rx)
      generalize hv : a.eval x = v at rs
      cases rs with
      | @list p len cap b o' w' _ c q1 q2 q3 q4 q5 q6 q7 q8 =>
        have hp := q5 (by omega)
        subst hp
        have hw1 : w' = 1 := by
          have := q6 _ (List.mem_of_getElem? (b2 0 h0))
          simpa using this.symm
        subst hw1
        refine good_val R (.string (strOfNums ns)) _ ?_ hK (.one (.st (.str (by rw [strOfNums_size]; exact h1))))
        have hc := run_convert_bytes_arg (P := P) w src e hs he b o' len cap ns (by omega) (fun i hi => by
          have hy := b2 i (by omega)
          have k1 := q7 i _ 0 _ hy rfl
          have k2 := q8 i _ 0 _ hy rfl
          have k3 := R.fit _ _ k1
          rw [(vrep_int (S := s.S) (ι := ι) (.one (.st k2))).1] at k3
          rw [look_none rfl] at k3
          simpa using k3) dst hd
        simp only [execOp, ho, hv, Sem.run_bind, hc, Result.andThen_ok, Sem.run_pure]
    · exact h.elim
  · exact h.elim
theorem snd_un {op : UnOp} {t : TypeId} {x : Operand} {x' : Opd} (ho : o.op = .unOp op t x) (hx : trOpd C.n x = some x') (R : Refs C σ ι s a w) (h : Kd.go P d s K (.un op x')) : Good P C o a w K := by
  have rx := R.ev hx
  simp only [Kd.go] at h
  split at h
  · rename_i b e1
    rw [e1] at rx
    have hex := vrep_bool rx
    exact good_val R _ _ (by simp [execOp, ho, hex, Op.unary]) h (.one (.st .bool))
  · rename_i k n e1
    rw [e1] at rx
    obtain ⟨hex, -⟩ := vrep_int rx
    obtain ⟨h1, hK⟩ := h
    refine good_val R _ _ ?_ hK (.one (.st (.int h1)))
    have := inR_wrap h1
    simp only [execOp, ho, hex, Op.unary, Op.intArith, this]
    rfl
  · exact h.elim
theorem snd_conv {src dst : TypeId} {k : IntKind} {x : Operand} {x' : Opd} (ho : o.op = .convert src dst x) (hx : trOpd C.n x = some x') (hs : (P.underlying src).isSome) (hd : P.underlying dst = some (.int k)) (R : Refs C σ ι s a w) (h : Kd.go P d s K (.conv k x')) : Good P C o a w K := by
  have rx := R.ev hx
  simp only [Kd.go] at h
  split at h
  · rename_i k' n e1
    rw [e1] at rx
    obtain ⟨hex, -⟩ := vrep_int rx
    obtain ⟨h1, hK⟩ := h
    obtain ⟨ds, hds⟩ := Option.isSome_iff_exists.1 hs
    refine good_val R _ _ ?_ hK (.one (.st (.int h1)))
    have e2 := inR_wrap h1
    simp [execOp, ho, hex, convert, run_underlying hds, run_underlying hd, Conv.intToInt, e2]
  · exact h.elim
theorem snd_extract {i : Nat} {x : Operand} {x' : Opd} (ho : o.op = .extract x i) (hx : trOpd C.n x = some x') (R : Refs C σ ι s a w) (h : Kd.go P d s K (.extract i x')) : Good P C o a w K := by
  have rx := R.ev hx
  simp only [Kd.go] at h
  split at h
  · rename_i vs e1
    rw [e1] at rx
    split at h
    · rename_i v hv
      generalize hex : a.eval x = y at rx
      cases rx with
      | tup c h1 h2 h3 =>
        exact good_val R _ _ (by simp [execOp, ho, hex, Instr.extract, h2 _ _ hv]) h (h3 _ _ hv)
    · exact h.elim
  · exact h.elim
theorem inR_len {n : Nat} (hn : n ≤ maxLen) : inR .i64 (n : Int) := by
  simp [maxLen] at hn
  constructor <;> simp [IntKind.min, IntKind.max, IntKind.signed, IntKind.bits] <;> omega
theorem srep_slice {v : Value} {xs : List (List SV)} (h : SRep σ v (.list xs)) : ∃ p cap, v = .slice p xs.length cap ∧ xs.length ≤ maxLen := by
  cases h with
  | list c h1 h2 h3 => exact ⟨_, _, by rw [h1], by omega⟩
theorem snd_len {t : TypeId} {str : Bool} {x : Operand} {x' : Opd} (ho : o.op = .call { callee := .builtin .len, args := #[x], argTypes := #[t] }) (hx : trOpd C.n x = some x') (ht : if str then P.underlying t = some .string else ∃ e, P.underlying t = some (.slice e)) (R : Refs C σ ι s a w) (h : Kd.go P d s K (.len str x')) : Good P C o a w K := by
  have rx := R.ev hx
  simp only [Kd.go] at h
  split at h
  · rename_i c e1
    rw [e1] at rx
    replace rx := vrep_one rx
    split at h
    · rename_i n hn
      have sl : ∀ (p : Option Addr) (n cap : Nat), str = false → a.eval x = .slice p n cap → n ≤ maxLen → K (.one (.st (.int .i64 n))) s → Good P C o a w K := fun p n cap hs he hm hK => by
        subst hs
        obtain ⟨e, hte⟩ := ht
        exact good_val R _ _ (by simp [execOp, ho, resolve, invoke, builtin, Builtin.len_, run_underlying hte, he, goInt]) hK (.one (.st (.int (inR_len hm))))
      have arow : ∀ (id n : Nat) (b : ABlk), str = false → ARep σ s.S ι (a.eval x) (.row id n) → s.S id = some b → n = b.len → n ≤ maxLen → K (.one (.st (.int .i64 n))) s → Good P C o a w K := fun id n b hs hr hS hn hm hK => by
        obtain ⟨b', k1, k2, k3⟩ := arep_row hr
        rw [hS] at k1
        cases k1
        exact sl _ _ _ hs (k3 hn) hm hK
      unfold lenOfA at hn
      split at hn
      · rename_i xs
        split at hn
        · cases hn
        · rename_i hs
          cases hn
          obtain ⟨p, cap, k1, k2⟩ := srep_slice (arep_st rx)
          exact sl _ _ _ (by simpa using hs) k1 k2 h
      · rename_i b
        split at hn
        · rename_i hs
          cases hn
          subst hs
          obtain ⟨hex, hb⟩ := vrep_str (.one rx)
          simp only [if_true] at ht
          exact good_val R _ _ (by simp [execOp, ho, resolve, invoke, builtin, Builtin.len_, run_underlying ht, hex, goInt]) h (.one (.st (.int (inR_len hb))))
        · cases hn
      · rename_i xs
        split at hn
        · cases hn
        · rename_i hs
          cases hn
          obtain ⟨p, cap, k1, k2⟩ := srep_slice (arep_full rx)
          exact sl _ _ _ (by simpa using hs) k1 k2 h
      · rename_i id m
        split at hn
        · rename_i e w' xs hS
          split at hn
          · rename_i hs
            cases hn
            have hb := R.blk _ _ hS
            refine arow id m _ hs.1 rx hS hs.2 ?_ h
            rw [hs.2]
            cases hb with
            | afull _ _ _ h4 => exact (srep_slice h4).choose_spec.choose_spec.2
            | arow => omega
          · cases hn
        · rename_i e w' xs hS
          split at hn
          · rename_i hs
            cases hn
            have hb := R.blk _ _ hS
            refine arow id m _ hs.1 rx hS hs.2 ?_ h
            rw [hs.2]
            cases hb with
            | mnil => simp [maxLen]
            | mrow => omega
          · cases hn
        · cases hn
      · cases hn
    · exact h.elim
  · exact h.elim
end
end Go.Proofs.YtbiadmlfejnbcaaGreatDoor

namespace Go.Proofs.YtbiadmlfejnbcaaGreatDoor
open Go Go.RowKit
set_option linter.unusedVariables false
set_option maxHeartbeats 400000
section
variable {P : Program} {C : Ctx} {o : Oper} {a : Act} {w : World} {K : AV → AS → Prop} {σ : Sto} {ι : AHnd} {s : AS} {d : Nat} {S : AStore}

/-! ### parts of strings and slices -/
def trOptOpd (n : Nat) : Option Operand → Option (Option Opd)
  | none => some none
  | some x => (trOpd n x).map some
theorem Refs.optI (R : Refs C σ ι s a w) {x : Option Operand} {x' : Option Opd} (h : trOptOpd C.n x = some x') {dd l : Int} (hl : optI s dd x' = some l) : (x.map a.eval = none ∧ l = dd) ∨ ∃ k, x.map a.eval = some (.int k l) := by
  cases x with
  | none =>
    simp only [trOptOpd, Option.some.injEq] at h
    subst h
    simp only [Go.Proofs.YtbiadmlfejnbcaaGreatDoor.optI, Option.some.injEq] at hl
    exact .inl ⟨rfl, hl.symm⟩
  | some x =>
    simp only [trOptOpd, Option.map_eq_some_iff] at h
    obtain ⟨y, hy, rfl⟩ := h
    have ry := R.ev hy
    simp only [Go.Proofs.YtbiadmlfejnbcaaGreatDoor.optI] at hl
    split at hl
    · rename_i k n e1
      cases hl
      rw [e1] at ry
      exact .inr ⟨k, by rw [Option.map_some, (vrep_int ry).1]⟩
    · cases hl
theorem run_bounds {isS : Bool} {len cap : Nat} {lo hi : Option Value} {l h : Int} (hl : (lo = none ∧ l = 0) ∨ ∃ k, lo = some (.int k l)) (hh : (hi = none ∧ h = len) ∨ ∃ k, hi = some (.int k h)) (h0 : 0 ≤ l) (h1 : l ≤ h) (h2 : h ≤ len) (h3 : len ≤ cap) :
    (Instr.sliceBounds isS len cap lo hi none).run P w = .ok (l.toNat, h.toNat, cap) w := by
  have hb : ∀ (k : IntKind) (i : Int) (y : Nat) (c : BoundsCode), 0 ≤ i → i ≤ y → (Instr.sliceBound (.int k i) y c).run P w = .ok i.toNat w := fun k i y c a1 a2 => by
    simp [Instr.sliceBound, asIntOf, a1, a2]
  have hh' : h ≤ (cap : Int) := by omega
  have h4 : l ≤ (h.toNat : Int) := by omega
  have h5 : 0 ≤ h := by omega
  rcases hl with ⟨rfl, rfl⟩ | ⟨k, rfl⟩ <;> rcases hh with ⟨rfl, rfl⟩ | ⟨k', rfl⟩
  · simp [Instr.sliceBounds]
  · simp [Instr.sliceBounds, hb k' h cap _ h5 hh']
  · simp [Instr.sliceBounds, hb k l len _ h0 (by omega)]
  · simp [Instr.sliceBounds, hb k' h cap _ h5 hh', hb k l h.toNat _ h0 h4]
theorem snd_sliceS {t : TypeId} {x : Operand} {lo hi : Option Operand} {x' : Opd} {lo' hi' : Option Opd} (ho : o.op = .slice t x lo hi none) (hx : trOpd C.n x = some x') (hlo : trOptOpd C.n lo = some lo') (hhi : trOptOpd C.n hi = some hi') (ht : P.underlying t = some .string)
    (R : Refs C σ ι s a w) (h : Kd.go P d s K (.sliceS x' lo' hi')) : Good P C o a w K := by
  have rx := R.ev hx
  simp only [Kd.go] at h
  split at h
  · rename_i b e1
    rw [e1] at rx
    obtain ⟨hex, hb⟩ := vrep_str rx
    split at h
    · rename_i l hh e2 e3
      obtain ⟨⟨h0, h1, h2⟩, hK⟩ := h
      have rb := run_bounds (P := P) (w := w) (isS := false) (R.optI hlo e2) (R.optI hhi e3) h0 h1 h2 (Nat.le_refl _)
      refine good_val R _ _ ?_ hK (.one (.st (.str ?_)))
      · simp [execOp, ho, hex, Instr.sliceAt, Instr.slice, run_underlying ht, rb]
      · simp only [ByteArray.size_extract]
        omega
    · exact h.elim
  · exact h.elim
theorem srep_part {v : Value} {xs : List (List SV)} (h : SRep σ v (.list xs)) {wd : Nat} (hw : ∀ x ∈ xs, x.length = wd) {l hh : Nat} (h1 : l ≤ hh) (h2 : hh ≤ xs.length) :
    ∃ p cap, v = .slice p xs.length cap ∧ xs.length ≤ cap ∧ SRep σ (.slice (if cap = l then p else p.map (·.add (l * wd))) (hh - l) (cap - l)) (.list ((xs.take hh).drop l)) := by
  cases h with
  | @list p len cap b o w' _ c k1 k2 k3 k4 k5 k6 k7 k8 =>
  subst k1
  refine ⟨p, cap, rfl, k2, ?_⟩
  have hget : ∀ k x, ((xs.take hh).drop l)[k]? = some x → xs[l + k]? = some x := fun k x hx => by
    rw [List.getElem?_drop, List.getElem?_take] at hx
    split at hx
    · exact hx
    · cases hx
  refine .list (b := b) (o := o + l * wd) (w := wd) (fun k j => c (l + k) j) (by simp; omega) (by omega) (by omega) (fun hp => ?_) (fun hne => ?_) (fun x hx => hw x (List.mem_of_mem_take (List.mem_of_mem_drop hx))) (fun k x j y hx hy => ?_) (fun k x j y hx hy => k8 _ x j y (hget _ _ hx) hy)
  · split at hp
    · omega
    · have := k4 (by cases p <;> simp at hp ⊢)
      omega
  · rw [if_neg (by omega), k5 (by omega), Option.map_some, addr_add]
  · have hx' := hget _ _ hx
    have hm := List.mem_of_getElem? hx'
    have e : w' = wd := (k6 x hm).symm.trans (hw x hm)
    have := k7 _ x j y hx' hy
    rw [e] at this
    rw [← this]
    congr 2
    rw [Nat.add_mul]
    omega
theorem snd_sliceL {t e : TypeId} {i : TypeInfo} {x : Operand} {lo hi : Option Operand} {x' : Opd} {lo' hi' : Option Opd} (ho : o.op = .slice t x lo hi none) (hx : trOpd C.n x = some x') (hlo : trOptOpd C.n lo = some lo') (hhi : trOptOpd C.n hi = some hi') (ht : P.underlying t = some (.slice e)) (hi : P.info? e = some i)
    (R : Refs C σ ι s a w) (h : Kd.go P d s K (.sliceL i.size x' lo' hi')) : Good P C o a w K := by
  have rx := R.ev hx
  simp only [Kd.go] at h
  split at h
  · rename_i c e1
    rw [e1] at rx
    split at h
    · rename_i xs e0
      have rs := R.stC (vrep_one rx) e0
      split at h
      · rename_i l hh e2 e3
        obtain ⟨⟨h0, h1, h2⟩, hw, hK⟩ := h
        obtain ⟨p, cap, hex, hc, hr⟩ := srep_part rs hw (l := l.toNat) (hh := hh.toNat) (by omega) (by omega)
        have rb := run_bounds (P := P) (w := w) (isS := true) (R.optI hlo e2) (R.optI hhi e3) h0 h1 h2 hc
        refine good_val R _ _ ?_ hK (.one (.st hr))
        simp [execOp, ho, hex, Instr.sliceAt, Instr.slice, run_underlying ht, rb, sizeOf, typeInfo, hi]
      · exact h.elim
    · exact h.elim
  · exact h.elim

/-! ### new blocks -/
theorem Refs.newbox (R : Refs C σ ι s a w) (hid : s.S d = none) {e : TypeId} {vs : Array Value} {cs : List AC} (h : All2 (ARep σ s.S ι) vs.toList cs) :
    ∃ ι', Refs C σ ι' (s.set d (.box e cs)) a (w.alloc (.cells vs e)) ∧ VRep σ (s.set d (.box e cs)).S ι' (.pointer (some ⟨w.heap.size, 0, none⟩)) (.one (.ptr d 1 0 0)) := by
  obtain ⟨hu, R'⟩ := R.fresh (w' := w.alloc (.cells vs e)) hid (.box e cs) ⟨some ⟨w.heap.size, 0, none⟩, 0, some w.heap.size⟩ (Ext.refl _ _) (R.fit.alloc _) (More.alloc _ _) (by simp) (fun S' ι' hu => .box rfl rfl (heap_alloc_new w _) (h.mono fun _ _ x => x.mono (fun _ _ h => h) hu) (fun p hp => R.fit.no (by omega)))
  exact ⟨_, R', .one (.ptr (b := .box e cs) (by simp [AS.set, updE_same]) (Nat.le_refl _) rfl fun _ => ⟨w.heap.size, by simp [updE_same], by simp [ABlk.wid]⟩)⟩
theorem snd_alloc {e : TypeId} {i : TypeInfo} {z : Value} {cs : List AC} (ho : o.op = .alloc e) (hi : P.info? e = some i) (hz : i.zero = some z) (hcs : ofCells z.cells.toList = some cs) (R : Refs C σ ι s a w) (h : Kd.go P d s K (.alloc e cs)) : Good P C o a w K := by
  simp only [Kd.go] at h
  obtain ⟨hid, hK⟩ := h
  obtain ⟨ι', R', hv⟩ := R.newbox (d := d) hid (e := e) (ofCells_rep hcs)
  exact ⟨_, _, _, σ, ι', _, .inl (by simp [execOp, ho, Instr.alloc, zeroValue, typeInfo, hi, hz, newVar, newRow]), hK, R', hv⟩
theorem snd_box {e : TypeId} {x : Operand} {x' : Opd} (ho : o.op = .box e x) (hx : trOpd C.n x = some x') (R : Refs C σ ι s a w) (h : Kd.go P d s K (.box e x')) : Good P C o a w K := by
  have rx := R.ev hx
  simp only [Kd.go] at h
  split at h
  · rename_i cs e1
    obtain ⟨hid, hK⟩ := h
    obtain ⟨ι', R', hv⟩ := R.newbox (d := d) hid (e := e) (rx.cells e1)
    exact ⟨_, _, _, σ, ι', _, .inl (by simp [execOp, ho, Instr.box, newVar, newRow]), hK, R', hv⟩
  · exact h.elim

/-! ### literals -/
theorem take_set_succ {α : Type} {L : List α} {k : Nat} {v : α} (h : k < L.length) : (L.set k v).take (k + 1) = L.take k ++ [v] := by
  rw [List.take_add_one, List.getElem?_set_self h, List.take_set, List.set_eq_of_length_le (by simp; omega)]
  rfl
theorem drop_set_succ {α : Type} {L : List α} {k m : Nat} {v : α} (h : k < m) : (L.set k v).drop m = L.drop m := by
  rw [List.drop_set_of_lt h]
theorem foldl_set (off : Nat) : ∀ (l : List Value) (n : Nat) (cells : Array Value), off + n + l.length ≤ cells.size →
    ((l.zipIdx n).foldl (fun cs (x : Value × Nat) => cs.setIfInBounds (off + x.2) x.1) cells).toList = cells.toList.take (off + n) ++ l ++ cells.toList.drop (off + n + l.length)
  | [], n, cells, h => by simp
  | v :: l, n, cells, h => by
    simp only [List.zipIdx_cons, List.foldl_cons]
    simp only [List.length_cons] at h
    rw [foldl_set off l (n + 1) _ (by simp; omega)]
    have hlt : off + n < cells.toList.length := by simp; omega
    simp only [Array.toList_setIfInBounds, List.length_cons]
    rw [show off + (n + 1) = off + n + 1 by omega, take_set_succ hlt, drop_set_succ (by omega), show off + n + 1 + l.length = off + n + (l.length + 1) by omega]
    simp
theorem fill_one {place : Nat → Option (Nat × Nat)} {cells : Array Value} {i off size : Nat} {v : Value} {rest : List (Nat × Value)} (hp : place i = some (off, size)) (hs : v.cells.size = size) (hle : off + size ≤ cells.size) :
    ∃ cells' : Array Value, Instr.fill place cells ((i, v) :: rest) = Instr.fill place cells' rest ∧ cells'.toList = splice cells.toList off v.cells.toList := by
  refine ⟨_, ?_, foldl_set off v.cells.toList 0 cells (by simp; omega)⟩
  rw [Instr.fill, hp]
  simp only
  rw [if_neg (by simp; omega)]
  congr 1
  rw [← Array.foldl_toList, Array.toList_zipIdx]
theorem All2.splice {α β : Type} {R : α → β → Prop} {l l' : List α} {m m' : List β} (h : All2 R l m) (h' : All2 R l' m') (off : Nat) : All2 R (splice l off l') (splice m off m') := by
  unfold Go.Proofs.YtbiadmlfejnbcaaGreatDoor.splice
  rw [h'.len]
  exact ((h.take off).append h').append (h.drop _)

def trParts (n : Nat) (places : List (Nat × Nat)) : List (Nat × Operand) → Option (List (Nat × Nat × Opd))
  | [] => some []
  | (i, x) :: ps => match places[i]?, trOpd n x, trParts n places ps with
    | some (off, size), some x', some ps' => some ((off, size, x') :: ps')
    | _, _, _ => none
theorem fills_sound (R : Refs C σ ι s a w) {places : List (Nat × Nat)} : ∀ {ps : List (Nat × Operand)} {ps' : List (Nat × Nat × Opd)} {cells : Array Value} {cs cs' : List AC}, trParts C.n places ps = some ps' → All2 (ARep σ s.S ι) cells.toList cs → fills s cs ps' = some cs' →
    ∃ cells', Instr.fill (fun i => places[i]?) cells (ps.map fun x => (x.1, a.eval x.2)) = some cells' ∧ All2 (ARep σ s.S ι) cells'.toList cs'
  | [], ps', cells, cs, cs', h1, h2, h3 => by
    simp only [trParts, Option.some.injEq] at h1
    subst h1
    simp only [fills, Option.some.injEq] at h3
    subst h3
    exact ⟨cells, rfl, h2⟩
  | (i, x) :: ps, ps', cells, cs, cs', h1, h2, h3 => by
    simp only [trParts] at h1
    split at h1
    · rename_i off size x' ps1 e1 e2 e3
      cases h1
      simp only [fills] at h3
      split at h3
      · rename_i c e4
        split at h3
        · rename_i hc
          have rx := (R.ev e2).cells e4
          have hl := rx.len
          have hl2 := h2.len
          obtain ⟨cells1, f1, f2⟩ := fill_one (place := fun i => places[i]?) (cells := cells) (i := i) (v := a.eval x) (rest := ps.map fun x => (x.1, a.eval x.2)) (off := off) (size := size) e1 (by simp at hl; omega) (by simp at hl2; omega)
          obtain ⟨cells2, g1, g2⟩ := fills_sound R (cells := cells1) e3 (by rw [f2]; exact h2.splice rx off) h3
          exact ⟨cells2, by rw [List.map_cons, f1, g1], g2⟩
        · cases h3
      · cases h3
    · cases h1
theorem snd_build {t : TypeId} {it : TypeInfo} {z : Value} {fs : Array Field} {places : List (Nat × Nat)} {ps : Array (Nat × Operand)} {ps' : List (Nat × Nat × Opd)} {cs : List AC} (ho : o.op = .build t ps) (hit : P.info? t = some it) (hz : it.zero = some z) (hu : P.underlying t = some (.struct fs))
    (hpl : fs.toList.mapM (fun f => (P.info? f.type).map fun i => (f.offset, i.size)) = some places) (hps : trParts C.n places ps.toList = some ps') (hcs : ofCells z.cells.toList = some cs) (R : Refs C σ ι s a w) (h : Kd.go P d s K (.build cs ps')) : Good P C o a w K := by
  simp only [Kd.go] at h
  split at h
  · rename_i cs' e1
    obtain ⟨cells', f1, f2⟩ := fills_sound R (cells := z.cells) hps (ofCells_rep hcs) e1
    have hb : P.built t (ps.map fun x => (x.1, a.eval x.2)).toList = some cells' := by
      unfold Program.built
      simp only [hit, hu, hz, hpl]
      rw [← f1]
      simp
    exact good_val R _ _ (by simp only [execOp, ho, Sem.run_bind, run_build w t _ _ hb, Result.andThen_ok]; rfl) h (.agg f2)
  · exact h.elim

/-! ### rows of things that stay -/
def Laid (σ : Sto) (vs : List Value) (wd : Nat) (xs : List (List SV)) : Prop := (∀ x ∈ xs, x.length = wd) ∧ ∀ k x j y, xs[k]? = some x → x[j]? = some y → ∃ v, vs[k * wd + j]? = some v ∧ SRep σ v y
theorem Laid.nil {vs : List Value} {wd : Nat} : Laid σ vs wd [] := ⟨by simp, by simp⟩
theorem Laid.append {vs vs' : List Value} {wd : Nat} {xs ys : List (List SV)} (h : Laid σ vs wd xs) (h' : Laid σ vs' wd ys) (hl : vs.length = xs.length * wd) : Laid σ (vs ++ vs') wd (xs ++ ys) := by
  refine ⟨fun x hx => ?_, fun k x j y hx hy => ?_⟩
  · rcases List.mem_append.1 hx with hx | hx
    · exact h.1 x hx
    · exact h'.1 x hx
  · by_cases hlt : k < xs.length
    · rw [List.getElem?_append_left hlt] at hx
      obtain ⟨v, v1, v2⟩ := h.2 k x j y hx hy
      exact ⟨v, by rw [List.getElem?_append_left (List.getElem?_eq_some_iff.1 v1).1]; exact v1, v2⟩
    · rw [List.getElem?_append_right (by omega)] at hx
      obtain ⟨v, v1, v2⟩ := h'.2 (k - xs.length) x j y hx hy
      refine ⟨v, ?_, v2⟩
      have e : k * wd = vs.length + (k - xs.length) * wd := by
        rw [hl, ← Nat.add_mul]
        congr 1
        omega
      rw [List.getElem?_append_right (by omega), show k * wd + j - vs.length = (k - xs.length) * wd + j by omega]
      exact v1
theorem Laid.more {vs : List Value} {wd : Nat} {xs : List (List SV)} (h : Laid σ vs wd xs) (vs' : List Value) : Laid σ (vs ++ vs') wd xs :=
  ⟨h.1, fun k x j y hx hy => by
    obtain ⟨v, v1, v2⟩ := h.2 k x j y hx hy
    exact ⟨v, by rw [List.getElem?_append_left (List.getElem?_eq_some_iff.1 v1).1]; exact v1, v2⟩⟩
theorem Laid.mono {σ' : Sto} {vs : List Value} {wd : Nat} {xs : List (List SV)} (h : Laid σ vs wd xs) (hs : ∀ p x, σ p = some x → σ' p = some x) : Laid σ' vs wd xs :=
  ⟨h.1, fun k x j y hx hy => by
    obtain ⟨v, v1, v2⟩ := h.2 k x j y hx hy
    exact ⟨v, v1, v2.mono hs⟩⟩
theorem Laid.cons {vs vs' : List Value} {wd : Nat} {x : List SV} {xs : List (List SV)} (h : All2 (SRep σ) vs x) (hx : x.length = wd) (h' : Laid σ vs' wd xs) : Laid σ (vs ++ vs') wd (x :: xs) := by
  have h0 : Laid σ vs wd [x] := by
    refine ⟨by simpa using hx, fun k y j z hy hz => ?_⟩
    cases k with
    | zero =>
      simp at hy
      subst hy
      simpa using h.get hz
    | succ k => simp at hy
  exact h0.append h' (by rw [h.len, hx]; simp)
/-- What a slice of things that stay has in its cells. -/
theorem srep_laid {v : Value} {xs : List (List SV)} (h : SRep σ v (.list xs)) {wd : Nat} (hw : ∀ x ∈ xs, x.length = wd) (hpos : 0 < wd) :
    ∃ p cap vs, v = .slice p xs.length cap ∧ xs.length ≤ cap ∧ cap ≤ maxLen ∧ (p = none → cap = 0) ∧ vs.length = xs.length * wd ∧ Laid σ vs wd xs ∧ (∀ u ∈ vs, u.oneCell' = true) ∧
      ∃ b o, (xs ≠ [] → p = some ⟨b, o, none⟩) ∧ ∀ j u, vs[j]? = some u → σ ⟨b, o + j, none⟩ = some u := by
  cases h with
  | @list p len cap b o w' _ c k1 k2 k3 k4 k5 k6 k7 k8 =>
  subst k1
  have hall : ∀ i, i < xs.length * wd → ∃ x y, xs[i / wd]? = some x ∧ x[i % wd]? = some y := fun i hi => by
    have h1 : i / wd < xs.length := by rw [Nat.div_lt_iff_lt_mul hpos]; exact hi
    have h2 : xs[i / wd].length = wd := hw _ (List.getElem_mem h1)
    exact ⟨xs[i / wd], xs[i / wd][i % wd]'(by rw [h2]; exact Nat.mod_lt _ hpos), List.getElem?_eq_getElem h1, List.getElem?_eq_getElem _⟩
  have hvs : ∀ i, i < xs.length * wd → ((List.range (xs.length * wd)).map fun i => c (i / wd) (i % wd))[i]? = some (c (i / wd) (i % wd)) := fun i hi => by
    rw [List.getElem?_map, List.getElem?_range hi]; rfl
  have hwb : ∀ k x, xs[k]? = some x → w' = wd := fun k x hx => (k6 x (List.mem_of_getElem? hx)).symm.trans (hw x (List.mem_of_getElem? hx))
  refine ⟨p, cap, (List.range (xs.length * wd)).map (fun i => c (i / wd) (i % wd)), rfl, k2, k3, k4, by simp, ⟨hw, fun k x j y hx hy => ?_⟩, fun u hu => ?_, b, o, fun hne => k5 (by simpa using hne), fun j u hu => ?_⟩
  · have hk := (List.getElem?_eq_some_iff.1 hx).1
    have hj : j < wd := by
      rw [← hw x (List.mem_of_getElem? hx)]
      exact (List.getElem?_eq_some_iff.1 hy).1
    have hlt : k * wd + j < xs.length * wd := by
      have : (k + 1) * wd ≤ xs.length * wd := Nat.mul_le_mul_right _ hk
      rw [Nat.add_mul] at this
      omega
    have e1 : (k * wd + j) / wd = k := by rw [Nat.mul_comm, Nat.mul_add_div hpos, Nat.div_eq_of_lt hj]; omega
    have e2 : (k * wd + j) % wd = j := by rw [Nat.mul_comm, Nat.mul_add_mod, Nat.mod_eq_of_lt hj]
    refine ⟨c k j, ?_, k8 k x j y hx hy⟩
    rw [hvs _ hlt, e1, e2]
  · obtain ⟨i, hi, rfl⟩ := List.mem_map.1 hu
    obtain ⟨x, y, hx, hy⟩ := hall i (by simpa using hi)
    exact (k8 _ x _ y hx hy).one
  · have hj : j < xs.length * wd := by
      have := (List.getElem?_eq_some_iff.1 hu).1
      simpa using this
    obtain ⟨x, y, hx, hy⟩ := hall j hj
    rw [hvs j hj] at hu
    cases hu
    have := k7 _ x _ y hx hy
    rw [hwb _ x hx] at this
    rw [← this]
    congr 2
    rw [Nat.add_assoc, Nat.mul_comm, Nat.div_add_mod]

/-- Cells of a new block are known to stay from now on. -/
def layS (σ : Sto) (w : World) (g k : Nat) : Sto := fun p => if p.block = g ∧ p.spot = none ∧ p.off < k then w.cell? p else σ p
theorem layS_in {g k j : Nat} (h : j < k) : layS σ w g k ⟨g, j, none⟩ = w.cell? ⟨g, j, none⟩ := by simp [layS, h]
theorem layS_out {g k : Nat} {p : Addr} (h : p.block ≠ g) : layS σ w g k p = σ p := by simp [layS, h]
theorem layS_keep {w' : World} {g k : Nat} (h : ∀ j x, σ ⟨g, j, none⟩ = some x → w'.cell? ⟨g, j, none⟩ = some x) : ∀ p x, σ p = some x → layS σ w' g k p = some x := fun p x hp => by
  unfold layS
  split
  · rename_i hh
    obtain ⟨b, o, sp⟩ := p
    obtain ⟨rfl, rfl, -⟩ := hh
    exact h _ _ hp
  · exact hp
theorem layS_fit {w' : World} {g k : Nat} (h : Fit σ w') : Fit (layS σ w' g k) w' := fun p x hp => by
  unfold layS at hp
  split at hp
  · rename_i hc
    rw [look_none hc.2.1]
    exact hp
  · exact h _ _ hp
theorem Ext.lay {w w' : World} {g k : Nat} (hf : Fit σ w) (hg : w.heap.size ≤ g) : Ext w.heap.size σ (layS σ w' g k) :=
  ⟨layS_keep (fun j x h => by rw [hf.no hg] at h; cases h), fun p hp => layS_out (by omega)⟩
/-- A new block of stable cells, as a slice. -/
theorem srep_lay {w' : World} {g : Nat} {vs : Array Value} {e : TypeId} {n cap wd : Nat} {xs : List (List SV)} (hf : Fit σ w) (hg : w.heap.size ≤ g) (hw : w'.heap[g]? = some (.cells vs e (0, 0))) (hl : Laid σ vs.toList wd xs) (hn : n = xs.length) (hc : n ≤ cap) (hcm : cap ≤ maxLen) :
    SRep (layS σ w' g (n * wd)) (.slice (some ⟨g, 0, none⟩) n cap) (.list xs) := by
  have key : ∀ k x j y, xs[k]? = some x → x[j]? = some y → ∃ v, vs[k * wd + j]? = some v ∧ SRep σ v y ∧ layS σ w' g (n * wd) ⟨g, k * wd + j, none⟩ = some v := fun k x j y hx hy => by
    obtain ⟨v, v1, v2⟩ := hl.2 k x j y hx hy
    have hk := (List.getElem?_eq_some_iff.1 hx).1
    have hj : j < wd := by
      rw [← hl.1 x (List.mem_of_getElem? hx)]
      exact (List.getElem?_eq_some_iff.1 hy).1
    have hlt : k * wd + j < n * wd := by
      have : (k + 1) * wd ≤ n * wd := Nat.mul_le_mul_right _ (by omega)
      rw [Nat.add_mul] at this
      omega
    refine ⟨v, by simpa using v1, v2, ?_⟩
    rw [layS_in hlt, cell_of_row w' g _ _ _ _ hw]
    simpa using v1
  refine .list (b := g) (o := 0) (w := wd) (fun k j => (vs[k * wd + j]?).getD undef) hn hc hcm (by simp) (fun _ => rfl) hl.1 (fun k x j y hx hy => ?_) (fun k x j y hx hy => ?_)
  · obtain ⟨v, v1, v2, v3⟩ := key k x j y hx hy
    rw [Nat.zero_add, v3, v1]
    rfl
  · obtain ⟨v, v1, v2, v3⟩ := key k x j y hx hy
    rw [v1]
    exact v2.mono (Ext.lay hf hg).keep
end
end Go.Proofs.YtbiadmlfejnbcaaGreatDoor

namespace Go.Proofs.YtbiadmlfejnbcaaGreatDoor
open Go Go.RowKit
set_option linter.unusedVariables false
set_option maxHeartbeats 400000
section
variable {P : Program} {C : Ctx} {o : Oper} {a : Act} {w : World} {K : AV → AS → Prop} {σ : Sto} {ι : AHnd} {s : AS} {d : Nat} {S : AStore}

/-! ### slice literals -/
def trEls (n : Nat) : Nat → List (Nat × Operand) → Option (List Opd)
  | _, [] => some []
  | k, (i, x) :: ps => if i = k then match trOpd n x, trEls n (k + 1) ps with
    | some x', some xs' => some (x' :: xs')
    | _, _ => none
    else none
theorem splice_take {α : Type} {L A : List α} {k : Nat} (hk : k ≤ L.length) : (splice L k A).take (k + A.length) = L.take k ++ A := by
  unfold splice
  exact List.take_left' (by simp; omega)
theorem splice_drop {α : Type} {L A : List α} {k m : Nat} (hk : k ≤ L.length) : (splice L k A).drop (k + A.length + m) = L.drop (k + A.length + m) := by
  unfold splice
  have e : (L.take k ++ A).length = k + A.length := by simp; omega
  rw [List.drop_append, e, List.drop_of_length_le (by omega), List.nil_append, List.drop_drop]
  congr 1
  omega
theorem elems_sound (R : Refs C σ ι s a w) {wd : Nat} : ∀ {ps : List (Nat × Operand)} {k : Nat} {xs : List Opd} {es : List (List SV)} {cells : Array Value}, trEls C.n k ps = some xs → elems s wd xs = some es → k * wd + ps.length * wd ≤ cells.size →
    ∃ cells' vs, Instr.fill (fun i => some (i * wd, wd)) cells (ps.map fun x => (x.1, a.eval x.2)) = some cells' ∧ cells'.toList = cells.toList.take (k * wd) ++ vs ++ cells.toList.drop (k * wd + ps.length * wd) ∧ vs.length = ps.length * wd ∧ ps.length = es.length ∧ Laid σ vs wd es
  | [], k, xs, es, cells, h1, h2, h3 => by
    simp only [trEls, Option.some.injEq] at h1
    subst h1
    simp only [elems, Option.some.injEq] at h2
    subst h2
    exact ⟨cells, [], rfl, by simp, by simp, rfl, Laid.nil⟩
  | (i, x) :: ps, k, xs, es, cells, h1, h2, h3 => by
    simp only [trEls] at h1
    split at h1
    · rename_i hik
      subst hik
      split at h1
      · rename_i x' xs' e1 e2
        cases h1
        simp only [elems] at h2
        split at h2
        · rename_i c e3
          split at h2
          · rename_i c' es' e4 e5
            split at h2
            · rename_i hw
              cases h2
              have rx := R.stCs ((R.ev e1).cells e3) e4
              have hl := rx.len
              simp only [List.length_cons, Nat.add_mul, Nat.one_mul] at h3
              obtain ⟨cells1, f1, f2⟩ := fill_one (place := fun i => some (i * wd, wd)) (cells := cells) (i := i) (v := a.eval x) (rest := ps.map fun x => (x.1, a.eval x.2)) (off := i * wd) (size := wd) rfl (by simp at hl; omega) (by omega)
              have hsz : cells1.size = cells.size := by
                have := congrArg List.length f2
                simp [splice] at this
                simp at hl
                omega
              obtain ⟨cells2, vs, g1, g2, g3, g4, g5⟩ := elems_sound R (cells := cells1) e2 e5 (by rw [Nat.add_mul]; omega)
              refine ⟨cells2, (a.eval x).cells.toList ++ vs, by rw [List.map_cons, f1, g1], ?_, by simp at hl ⊢; rw [g3, Nat.add_mul]; omega, by simp [g4], Laid.cons rx hw g5⟩
              rw [g2, f2]
              have hlen : (a.eval x).cells.toList.length = wd := by omega
              have e6 : (i + 1) * wd = i * wd + (a.eval x).cells.toList.length := by rw [Nat.add_mul]; omega
              rw [e6, splice_take (by simp; omega), splice_drop (by simp; omega), hlen]
              simp only [List.length_cons, Nat.add_mul, Nat.one_mul]
              rw [show i * wd + wd + ps.length * wd = i * wd + (ps.length * wd + wd) by omega]
              simp
            · cases h2
          · cases h2
        · cases h2
      · cases h1
    · cases h1
theorem snd_buildSlice {t e : TypeId} {len : Nat} {ps : Array (Nat × Operand)} {ie : TypeInfo} {z : Value} {xs : List Opd} {mu : Bool} (ho : o.op = .buildSlice t len ps) (hu : P.underlying t = some (.slice e)) (hie : P.info? e = some ie) (hz : ie.zero = some z) (hsmall : len * ie.size ≤ 2 ^ 24) (hwp : 0 < ie.size) (hlen : ps.size = len)
    (hps : trEls C.n 0 ps.toList = some xs) (R : Refs C σ ι s a w) (h : Kd.go P d s K (.buildSlice mu e ie.size xs)) : Good P C o a w K := by
  simp only [Kd.go] at h
  split at h
  · rename_i es e1
    obtain ⟨cells', vs, f1, f2, f3, f4, f5⟩ := elems_sound R (cells := (Array.range (len * ie.size)).map (z.cells[· % z.cells.size]!)) hps e1 (by simp [hlen])
    have hpl : ps.toList.length = len := by simpa using hlen
    have f2' : cells'.toList = vs := by
      rw [f2, hpl]
      rw [List.drop_of_length_le (by simp)]
      simp
    have hrun : (execOp a.eval o).run P w = .ok (.value (.slice (some ⟨w.heap.size, 0, none⟩) len len)) (w.alloc (.cells cells' e)) := by
      by_cases h0 : len = 0
      · subst h0
        have hp0 : ps = #[] := Array.eq_empty_of_size_eq_zero hlen
        subst hp0
        have hc : cells' = #[] := by
          apply Array.ext'
          rw [f2']
          simpa using f3
        subst hc
        have e0 : Array.range 0 = #[] := rfl
        simp [execOp, ho, Instr.buildSlice, run_underlying hu, sizeOf, typeInfo, hie, Instr.fill, newRow, e0]
      · have hrb := run_buildSlice (P := P) w t e len (ps.map fun x => (x.1, a.eval x.2)) cells' ie z hu hie hz (by omega) (by
          have := Nat.mul_pos (show 0 < len by omega) hwp
          omega) (by simpa using f1)
        simp only [execOp, ho, Sem.run_bind, hrb, Result.andThen_ok]
        rfl
    have hle : len = es.length := by rw [← hpl, f4]
    have hmax : len ≤ maxLen := by
      have : len * 1 ≤ len * ie.size := Nat.mul_le_mul_left _ hwp
      simp [maxLen]
      omega
    have f5' : Laid σ cells'.toList ie.size es := by rw [f2']; exact f5
    cases mu with
    | false =>
      simp only [Bool.false_eq_true, if_false] at h
      have hs := srep_lay (w := w) (w' := w.alloc (.cells cells' e)) R.fit (Nat.le_refl _) (heap_alloc_new w _) f5' hle (Nat.le_refl _) hmax
      exact ⟨_, _, s, _, ι, _, .inl hrun, h, R.more (Ext.lay R.fit (Nat.le_refl _)) (layS_fit (R.fit.alloc _)) (More.alloc _ _), .one (.full hs)⟩
    | true =>
      simp only [if_true] at h
      obtain ⟨hid, hK⟩ := h
      obtain ⟨hu', R'⟩ := R.fresh (w' := w.alloc (.cells cells' e)) hid (.mrow e ie.size es) ⟨some ⟨w.heap.size, 0, none⟩, len, some w.heap.size⟩ (Ext.refl _ _) (R.fit.alloc _) (More.alloc _ _) (by simp)
        (fun S' ι' hu => .mrow rfl rfl (heap_alloc_new w _) (show es.length ≤ len by omega) hmax (by
          have := congrArg List.length f2'
          simp at this
          rw [this, f3, hpl]) f5'.1 (fun k x j y hx hy => by simpa using f5'.2 k x j y hx hy) (fun p hp => R.fit.no (by omega)))
      exact ⟨_, _, _, σ, _, _, .inl hrun, hK, R', .one (.row (b := .mrow e ie.size es) (by simp [AS.set, updE_same]) (Nat.le_refl _) rfl fun _ => by simp [updE_same, hle])⟩
  · exact h.elim

/-! ### stores -/
theorem run_storeAt {t : TypeId} {i : TypeInfo} (hi : P.info? t = some i) {g off : Nat} {v : Value} {cur : Array Value} {e : TypeId} (hg : w.heap[g]? = some (.cells cur e (0, 0))) (hv : v.cells.size = i.size) (hle : off + i.size ≤ cur.size) (h1 : ∀ u ∈ v.cells.toList, u.oneCell' = true) :
    (Instr.storeAt t (.pointer (some ⟨g, off, none⟩)) v).run P w = .ok () (w.setRow g (splice cur.toList off v.cells.toList).toArray) := by
  have hst := run_storeCells_at P g off e v.cells.toList 0 cur w hg (by simp; omega) h1
  have hst' : (storeCells ⟨g, off, none⟩ v.cells.toList).run P w = .ok () (w.setRow g (splice cur.toList off v.cells.toList).toArray) := by
    have e1 : (storeCells ⟨g, off, none⟩ v.cells.toList 0).run P w = _ := hst
    rw [e1]
    simp [splice]
  simp [Instr.storeAt, Instr.sureAddr, storeVar, sizeOf, typeInfo, hi, hv, hst']
theorem setRow_frame (g : Nat) (cs : Array Value) : (w.setRow g cs).os = w.os ∧ (w.setRow g cs).tape = w.tape ∧ (w.setRow g cs).output = w.output := ⟨rfl, rfl, rfl⟩
theorem All2.oneA {vs : List Value} {cs : List AC} (h : All2 (ARep σ S ι) vs cs) : ∀ u ∈ vs, u.oneCell' = true := by
  intro u hu
  obtain ⟨i, hi, rfl⟩ := List.getElem_of_mem hu
  obtain ⟨b, _, hb⟩ := h.get' (List.getElem?_eq_getElem hi)
  exact hb.one
theorem Fit.row {w' : World} (hf : Fit σ w) {g : Nat} (hn : ∀ p : Addr, p.block = g → σ p = none) (hw : ∀ k, k ≠ g → w'.heap[k]? = w.heap[k]?) : Fit σ w' := fun p x hp => by
  have hne : p.block ≠ g := fun e => by rw [hn p e] at hp; cases hp
  exact (look_of_block (hw _ hne)).trans (hf p x hp)
theorem snd_store {t : TypeId} {i : TypeInfo} {x v : Operand} {x' v' : Opd} (ho : o.op = .store t x v) (hx : trOpd C.n x = some x') (hv : trOpd C.n v = some v') (hi : P.info? t = some i) (R : Refs C σ ι s a w) (h : Kd.go P d s K (.store i.size x' v')) : Good P C o a w K := by
  have rx := R.ev hx
  have rv := R.ev hv
  simp only [Kd.go] at h
  split at h
  · rename_i id m k off c e1 e2
    rw [e1] at rx
    have rc := rv.cells e2
    have hlc := rc.len
    obtain ⟨b, hb1, hb2, hb3⟩ := arep_ptr (vrep_one rx)
    split at h
    · rename_i e cs hS
      obtain ⟨⟨rfl, rfl⟩, hcn, hle, hK⟩ := h
      rw [hS] at hb1
      cases hb1
      obtain ⟨g, g1, g2⟩ := hb3 rfl
      simp only [ABlk.wid, Nat.zero_mul, Nat.zero_add] at g2
      have hb := R.blk _ _ hS
      cases hb with
      | @box _ _ g' vs k1 k2 k3 k4 k5 =>
      rw [k1] at g1
      cases g1
      have hlv := k4.len
      have hrun := run_storeAt (P := P) (off := off) (v := a.eval v) hi k3 (by simp at hlc; omega) (by simp at hlv; omega) (All2.oneA rc)
      obtain ⟨hu, R'⟩ := R.turn (w' := w.setRow g (splice vs.toList off (a.eval v).cells.toList).toArray) hS (.box e (splice cs off c)) (ι id) (σ' := σ) (fun _ _ h => h) (fun _ _ _ => rfl) (R.fit.row k5 fun k hk => setRow_other _ _ _ _ hk) (Nat.le_refl _) (fun _ => ⟨rfl, rfl⟩) (setRow_frame _ _) (by simp)
        (fun k hk hne => setRow_other _ _ _ _ (fun e => hne (by rw [e]; exact k1))) (fun g h => .inl h) (fun hu => .box k1 k2 (setRow_heap w _ _ _ _ _ k3) (by simpa using (k4.splice rc off).mono fun _ _ x => x.mono (fun _ _ h => h) hu) k5)
      exact ⟨undef, .any, _, σ, _, _, .inr ⟨rfl, by simp only [execOp, ho, g2, Sem.run_bind, hrun, Result.andThen_ok]; rfl⟩, hK, R', .any⟩
    · rename_i e wd xs hS
      split at h
      · rename_i c' x1 e3 e4
        obtain ⟨hm, hcn, hle, hK⟩ := h
        rw [hS] at hb1
        cases hb1
        obtain ⟨g, g1, g2⟩ := hb3 hm
        simp only [ABlk.wid] at g2
        have rc' := R.stCs rc e3
        have hlc' := rc'.len
        have hb := R.blk _ _ hS
        cases hb with
        | mnil k1 => rw [k1] at g1; cases g1
        | @mrow _ _ _ g' vs k1 k2 k3 k4 k5 k6 k7 k8 k9 =>
        rw [k1] at g1
        cases g1
        have hx1m := List.mem_of_getElem? e4
        have hx1 := k7 x1 hx1m
        have hk := (List.getElem?_eq_some_iff.1 e4).1
        have hkw : k * wd + wd ≤ xs.length * wd := by
          have : (k + 1) * wd ≤ xs.length * wd := Nat.mul_le_mul_right _ hk
          rw [Nat.add_mul] at this
          omega
        have hcap : xs.length * wd ≤ (ι id).cap * wd := Nat.mul_le_mul_right _ k4
        have hrun := run_storeAt (P := P) (off := k * wd + off) (v := a.eval v) hi k3 (by simp at hlc'; omega) (by omega) (All2.oneA rc)
        have hsl : (a.eval v).cells.toList.length = i.size := by omega
        have hget : ∀ q, (splice vs.toList (k * wd + off) (a.eval v).cells.toList)[q]? = if k * wd + off ≤ q ∧ q < k * wd + off + i.size then (a.eval v).cells.toList[q - (k * wd + off)]? else vs.toList[q]? := fun q => by
          unfold splice
          have ht : (vs.toList.take (k * wd + off)).length = k * wd + off := by simp; omega
          by_cases h1 : q < k * wd + off
          · rw [if_neg (by omega), List.append_assoc, List.getElem?_append_left (by omega), List.getElem?_take, if_pos h1]
          · by_cases h2 : q < k * wd + off + i.size
            · rw [if_pos ⟨by omega, h2⟩, List.append_assoc, List.getElem?_append_right (by omega), List.getElem?_append_left (by omega), ht]
            · rw [if_neg (by omega), List.getElem?_append_right (by rw [List.length_append, ht, hsl]; omega), List.getElem?_drop]
              congr 1
              simp only [List.length_append, ht, hsl]
              omega
        obtain ⟨hu, R'⟩ := R.turn (w' := w.setRow g (splice vs.toList (k * wd + off) (a.eval v).cells.toList).toArray) hS (.mrow e wd (xs.set k (splice x1 off c'))) (ι id) (σ' := σ) (fun _ _ h => h) (fun _ _ _ => rfl) (R.fit.row k9 fun k hk => setRow_other _ _ _ _ hk) (by simp [ABlk.len]) (fun _ => ⟨rfl, rfl⟩) (setRow_frame _ _) (by simp)
          (fun k hk hne => setRow_other _ _ _ _ (fun e => hne (by rw [e]; exact k1))) (fun g h => .inl h) (fun hu => by
            have hspl : (splice x1 off c').length = wd := by simp [splice]; omega
            refine .mrow k1 k2 (setRow_heap w _ _ _ _ _ k3) (by simpa using k4) k5 (by rw [List.size_toArray, splice, List.length_append, List.length_append, List.length_drop, List.length_take, hsl, Array.length_toList]; omega) (fun y hy => ?_) (fun k' y j z hy hz => ?_) k9
            · rcases List.mem_or_eq_of_mem_set hy with hy | rfl
              · exact k7 y hy
              · exact hspl
            · simp only [List.getElem?_toArray]
              rw [hget]
              by_cases hkk : k' = k
              · subst hkk
                rw [List.getElem?_set_self hk] at hy
                cases hy
                have hj : j < wd := by rw [← hspl]; exact (List.getElem?_eq_some_iff.1 hz).1
                unfold splice at hz
                have ht : (x1.take off).length = off := by simp; omega
                by_cases h1 : j < off
                · rw [if_neg (by omega)]
                  rw [List.append_assoc, List.getElem?_append_left (by omega), List.getElem?_take, if_pos h1] at hz
                  simpa using k8 k' x1 j z e4 hz
                · by_cases h2 : j < off + i.size
                  · rw [if_pos ⟨by omega, by omega⟩]
                    rw [List.append_assoc, List.getElem?_append_right (by omega), List.getElem?_append_left (by omega), ht] at hz
                    rw [show k' * wd + j - (k' * wd + off) = j - off by omega]
                    exact rc'.get hz
                  · rw [if_neg (by omega)]
                    rw [List.getElem?_append_right (by simp; omega), List.getElem?_drop] at hz
                    rw [show off + c'.length + (j - (List.take off x1 ++ c').length) = j by simp; omega] at hz
                    simpa using k8 k' x1 j z e4 hz
              · rw [List.getElem?_set_ne (fun e => hkk e.symm)] at hy
                have hk' := (List.getElem?_eq_some_iff.1 hy).1
                have hj : j < wd := by
                  rw [← k7 y (List.mem_of_getElem? hy)]
                  exact (List.getElem?_eq_some_iff.1 hz).1
                rw [if_neg]
                · simpa using k8 k' y j z hy hz
                · rintro ⟨q1, q2⟩
                  rcases Nat.lt_or_gt_of_ne hkk with hl | hl
                  · have : (k' + 1) * wd ≤ k * wd := Nat.mul_le_mul_right _ hl
                    rw [Nat.add_mul] at this
                    omega
                  · have : (k + 1) * wd ≤ k' * wd := Nat.mul_le_mul_right _ hl
                    rw [Nat.add_mul] at this
                    omega)
        exact ⟨undef, .any, _, σ, _, _, .inr ⟨rfl, by simp only [execOp, ho, g2, Sem.run_bind, hrun, Result.andThen_ok]; rfl⟩, hK, R', .any⟩
      · exact h.elim
    · exact h.elim
  · exact h.elim
end
end Go.Proofs.YtbiadmlfejnbcaaGreatDoor

namespace Go.Proofs.YtbiadmlfejnbcaaGreatDoor
open Go Go.RowKit
set_option linter.unusedVariables false
set_option maxHeartbeats 400000
section
variable {P : Program} {C : Ctx} {o : Oper} {a : Act} {w : World} {K : AV → AS → Prop} {σ : Sto} {ι : AHnd} {s : AS} {d : Nat} {S : AStore}

/-- What is appended: its cells. -/
theorem Refs.src (R : Refs C σ ι s a w) {v : Value} {cy : AC} {ys : List (List SV)} {wd : Nat} (hv : ARep σ s.S ι v cy) (h : listOf s.S cy = some ys) (hw : ∀ y ∈ ys, y.length = wd) (hpos : 0 < wd) :
    ∃ p cap news, v = .slice p ys.length cap ∧ news.length = ys.length * wd ∧ Laid σ news wd ys ∧ (∀ u ∈ news, u.oneCell' = true) ∧ (ys ≠ [] → ∃ b o, p = some ⟨b, o, none⟩ ∧ ∀ j u, news[j]? = some u → w.cell? ⟨b, o + j, none⟩ = some u) := by
  have stay : SRep σ v (.list ys) → ∃ p cap news, v = .slice p ys.length cap ∧ news.length = ys.length * wd ∧ Laid σ news wd ys ∧ (∀ u ∈ news, u.oneCell' = true) ∧ (ys ≠ [] → ∃ b o, p = some ⟨b, o, none⟩ ∧ ∀ j u, news[j]? = some u → w.cell? ⟨b, o + j, none⟩ = some u) := fun hr => by
    obtain ⟨p, cap, vs, h1, h2, h3, h4, h5, h6, h7, b, o, h8, h9⟩ := srep_laid hr hw hpos
    exact ⟨p, cap, vs, h1, h5, h6, h7, fun hne => ⟨b, o, h8 hne, fun j u hu => R.fit _ _ (h9 j u hu)⟩⟩
  unfold listOf at h
  split at h
  · cases h; exact stay (arep_st hv)
  · cases h; exact stay (arep_full hv)
  · rename_i id n
    split at h
    · rename_i e wd' xs hS
      split at h
      · rename_i hn
        cases h
        exact stay (R.row_srep hv hS hn)
      · cases h
    · rename_i e wd' xs hS
      split at h
      · rename_i hn
        cases h
        obtain ⟨b, k1, k2, k3⟩ := arep_row hv
        rw [hS] at k1
        cases k1
        have hv' := k3 hn
        have hb := R.blk _ _ hS
        cases hb with
        | mnil m1 m2 => exact ⟨(ι id).p, (ι id).cap, [], by rw [hv', hn], by simp, Laid.nil, by simp, fun h => absurd rfl h⟩
        | @mrow _ _ _ g vs m1 m2 m3 m4 m5 m6 m7 m8 m9 =>
          by_cases h0 : ys = []
          · subst h0
            exact ⟨(ι id).p, (ι id).cap, [], by rw [hv', hn], by simp, Laid.nil, by simp, fun h => absurd rfl h⟩
          · have hwd : wd' = wd := by
              obtain ⟨y, hy⟩ := List.exists_mem_of_ne_nil _ h0
              exact (m7 y hy).symm.trans (hw y hy)
            subst hwd
            have hcap : ys.length * wd' ≤ (ι id).cap * wd' := Nat.mul_le_mul_right _ m4
            refine ⟨(ι id).p, (ι id).cap, vs.toList.take (ys.length * wd'), by rw [hv', hn], by simp; omega, ⟨m7, fun k x j y hx hy => ?_⟩, fun u hu => ?_, fun _ => ⟨g, 0, m2, fun j u hu => ?_⟩⟩
            · obtain ⟨v, v1, v2⟩ := m8 k x j y hx hy
              have hk := (List.getElem?_eq_some_iff.1 hx).1
              have hj : j < wd' := by
                rw [← m7 x (List.mem_of_getElem? hx)]
                exact (List.getElem?_eq_some_iff.1 hy).1
              have hlt : k * wd' + j < ys.length * wd' := by
                have : (k + 1) * wd' ≤ ys.length * wd' := Nat.mul_le_mul_right _ hk
                rw [Nat.add_mul] at this
                omega
              exact ⟨v, by rw [List.getElem?_take, if_pos hlt]; simpa using v1, v2⟩
            · obtain ⟨i, hi, rfl⟩ := List.getElem_of_mem hu
              have hi' : i < ys.length * wd' := by simp at hi; omega
              have hk : i / wd' < ys.length := by rw [Nat.div_lt_iff_lt_mul hpos]; exact hi'
              have hl : ys[i / wd'].length = wd' := m7 _ (List.getElem_mem hk)
              have hj : i % wd' < ys[i / wd'].length := by rw [hl]; exact Nat.mod_lt _ hpos
              obtain ⟨v, v1, v2⟩ := m8 (i / wd') _ (i % wd') _ (List.getElem?_eq_getElem hk) (List.getElem?_eq_getElem hj)
              rw [Nat.mul_comm, Nat.div_add_mod] at v1
              have e : (vs.toList.take (ys.length * wd'))[i]? = some v := by rw [List.getElem?_take, if_pos hi']; simpa using v1
              rw [List.getElem?_eq_getElem hi] at e
              cases e
              exact v2.one
            · rw [List.getElem?_take] at hu
              split at hu
              · rw [Nat.zero_add, cell_of_row w g _ _ _ _ m3]
                simpa using hu
              · cases hu
      · cases h
    · cases h
  · cases h

/-- append where there is no room: a new row. -/
theorem run_grown {t ty e : TypeId} {i : TypeInfo} {z : Value} (ht : P.underlying t = some (.slice e)) (hi : P.info? e = some i) (hz : i.zero = some z) (hzs : z.cells.size = i.size) {p : Option Addr} {n cap : Nat} {olds : List Value} (hlo : olds.length = n * i.size) (hpn : p = none → cap = 0) (hnc : n ≤ cap)
    (hold : n ≠ 0 → ∃ b o, p = some ⟨b, o, none⟩ ∧ ∀ j u, olds[j]? = some u → w.cell? ⟨b, o + j, none⟩ = some u) {q : Option Addr} {m c : Nat} {news : List Value} (hl : news.length = m * i.size) (hm : 0 < m) (hq : ∃ b o, q = some ⟨b, o, none⟩ ∧ ∀ j u, news[j]? = some u → w.cell? ⟨b, o + j, none⟩ = some u)
    (hg : cap < n + m) (h63 : n + m ≤ maxLen) (hbytes : (n + m) * i.bytes ≤ 140737488355328) :
    ∃ (c' : Nat) (rest : Array Value), (Builtin.append_ #[t, t] ty #[.slice p n cap, .slice q m c]).run P w = .ok (.slice (some ⟨w.heap.size, 0, none⟩) (n + m) c') (w.drew.alloc (.cells (olds.toArray ++ news.toArray ++ rest) e)) ∧ n + m ≤ c' ∧ c' ≤ maxLen ∧ rest.size = (c' - (n + m)) * i.size := by
  have hsmall : n + m ≤ 9223372036854775807 := by simp only [maxLen] at h63; omega
  obtain ⟨b', o', rfl, hq⟩ := hq
  refine ⟨grownCap w (n + m) cap e, Builtin.zeroCells z.cells (grownCap w (n + m) cap e - (n + m)), ?_, grownCap_ge _ _ _ _, grownCap_le_maxLen _ _ _ _ h63, by rw [size_zeroCells, hzs]⟩
  cases p with
  | none =>
    have hc := hpn rfl
    subst hc
    obtain rfl : n = 0 := by omega
    have ho : olds = [] := List.eq_nil_of_length_eq_zero (by simpa using hlo)
    subst ho
    have hr := run_append_nil (P := P) w t ty e i z ht hi hz ⟨b', o', none⟩ m c news hl (fun j u hu => by rw [addr_add]; exact hq j u hu) hm (by omega) (by simp only [Nat.zero_add] at hbytes; omega)
    rw [hr]
    simp
  | some ad =>
    have hr := run_append_grow (P := P) w t ty e i z ht hi hz ad n cap olds hlo (fun j u hu => by
      by_cases h0 : n = 0
      · subst h0
        have ho : olds = [] := List.eq_nil_of_length_eq_zero (by simpa using hlo)
        subst ho
        simp at hu
      · obtain ⟨b, o, hb, hc⟩ := hold h0
        cases hb
        rw [addr_add]
        exact hc j u hu) ⟨b', o', none⟩ m c news hl (fun j u hu => by rw [addr_add]; exact hq j u hu) hg (by omega) (growslice_fits hg hbytes)
    exact hr
/-- append of nothing. -/
theorem run_append_zero {t ty e : TypeId} {i : TypeInfo} (ht : P.underlying t = some (.slice e)) (hi : P.info? e = some i) {p : Option Addr} {n cap : Nat} (hnc : n ≤ cap) (q : Option Addr) (c : Nat) :
    (Builtin.append_ #[t, t] ty #[.slice p n cap, .slice q 0 c]).run P w = .ok (.slice p n cap) w := by
  cases q <;> cases p <;> simp [Builtin.append_, run_underlying ht, sizeOf, typeInfo, hi, Builtin.lenOf, Builtin.firstCells, hnc, loadCells, loadCellsFrom, storeCells]
theorem laid_rep {vs : List Value} {wd : Nat} {xs : List (List SV)} (h : Laid σ vs wd xs) {A : Array Value} (hA : ∀ (j : Nat) (v : Value), vs[j]? = some v → A[j]? = some v) : ∀ k x j y, xs[k]? = some x → x[j]? = some y → ∃ v, A[k * wd + j]? = some v ∧ SRep σ v y := fun k x j y hx hy => by
  obtain ⟨v, v1, v2⟩ := h.2 k x j y hx hy
  exact ⟨v, hA _ _ v1, v2⟩
/-- A growing row in a block, its cells known to stay. -/
theorem brep_arow {S' : AStore} {ι' : AHnd} {w' : World} {g cap wd : Nat} {e : TypeId} {vs : Array Value} {xs : List (List SV)} {p : Option Addr} (hp : p = some ⟨g, 0, none⟩) (hw : w'.heap[g]? = some (.cells vs e (0, 0))) (hn : xs.length ≤ cap) (hc : cap ≤ maxLen) (hsz : vs.size = cap * wd) {σ1 : Sto}
    (hl : Laid σ1 vs.toList wd xs) (hs : ∀ p x, σ1 p = some x → layS σ w' g (xs.length * wd) p = some x) (hfree : ∀ p : Addr, p.block = g → σ p ≠ none → p.off < xs.length * wd) : BRep (layS σ w' g (xs.length * wd)) S' ι' w' ⟨p, cap, some g⟩ (.arow e wd xs) := by
  refine .arow rfl hp hw hn hc hsz hl.1 (fun k x j y hx hy => ?_) (fun p hp hne => ?_)
  · obtain ⟨v, v1, v2⟩ := hl.2 k x j y hx hy
    have hk := (List.getElem?_eq_some_iff.1 hx).1
    have hj : j < wd := by
      rw [← hl.1 x (List.mem_of_getElem? hx)]
      exact (List.getElem?_eq_some_iff.1 hy).1
    have hlt : k * wd + j < xs.length * wd := by
      have : (k + 1) * wd ≤ xs.length * wd := Nat.mul_le_mul_right _ hk
      rw [Nat.add_mul] at this
      omega
    refine ⟨v, by simpa using v1, v2.mono hs, ?_⟩
    rw [layS_in hlt, cell_of_row w' g _ _ _ _ hw]
    simpa using v1
  · unfold layS at hne
    split at hne
    · rename_i h; exact h.2.2
    · exact hfree p hp hne
theorem snd_append {t e : TypeId} {i : TypeInfo} {z : Value} {x y : Operand} {x' y' : Opd} {mu : Bool} (ho : o.op = .call { callee := .builtin .append, args := #[x, y], argTypes := #[t, t] }) (hx : trOpd C.n x = some x') (hy : trOpd C.n y = some y')
    (ht : P.underlying t = some (.slice e)) (hi : P.info? e = some i) (hz : i.zero = some z) (hzs : z.cells.size = i.size) (hpos : 0 < i.size) (R : Refs C σ ι s a w) (h : Kd.go P d s K (.append mu e i.size i.bytes x' y')) : Good P C o a w K := by
  have rx := R.ev hx
  have ry := R.ev hy
  have hex : ∀ v w', (Builtin.append_ #[t, t] o.type #[a.eval x, a.eval y]).run P w = .ok v w' → (execOp a.eval o).run P w = .ok (.value v) w' := fun v w' hr => by
    simp only [execOp, ho, resolve, invoke, builtin, Sem.run_bind, Sem.run_pure, Result.andThen_ok, List.map_toArray, List.map_cons, List.map_nil, hr]
  simp only [Kd.go] at h
  split at h
  · rename_i cx cy e1 e2
    rw [e1] at rx
    rw [e2] at ry
    replace rx := vrep_one rx
    replace ry := vrep_one ry
    split at h
    · rename_i ys hys
      obtain ⟨hyw, h⟩ := h
      obtain ⟨q, c, news, hvy, hnl, hnlaid, hn1, hncell⟩ := R.src ry hys hyw hpos
      -- a new row, whatever was there ahead
      have fresh : ∀ (p : Option Addr) (xs : List (List SV)) (cap : Nat) (olds : List Value), a.eval x = .slice p xs.length cap → olds.length = xs.length * i.size → (p = none → cap = 0) → xs.length ≤ cap → (xs.length ≠ 0 → ∃ b o, p = some ⟨b, o, none⟩ ∧ ∀ j u, olds[j]? = some u → w.cell? ⟨b, o + j, none⟩ = some u) → Laid σ olds i.size xs → ys ≠ [] → cap < xs.length + ys.length →
          xs.length + ys.length ≤ maxLen → (xs.length + ys.length) * i.bytes ≤ 140737488355328 →
          ∃ c' A, (execOp a.eval o).run P w = .ok (.value (.slice (some ⟨w.heap.size, 0, none⟩) (xs ++ ys).length c')) (w.drew.alloc (.cells A e)) ∧ (xs ++ ys).length ≤ c' ∧ c' ≤ maxLen ∧ A.size = c' * i.size ∧ Laid σ A.toList i.size (xs ++ ys) :=
        fun p xs cap olds hv hol hpn hnc hold hlaid hne hg h63 hby => by
          have hm : 0 < ys.length := List.length_pos_iff.2 hne
          obtain ⟨b, oo, hq, hq2⟩ := hncell hne
          obtain ⟨c', rest, r1, r2, r3, r4⟩ := run_grown (P := P) (ty := o.type) (w := w) ht hi hz hzs hol hpn hnc hold (q := q) (m := ys.length) (c := c) hnl hm ⟨b, oo, hq, hq2⟩ hg h63 hby
          refine ⟨c', _, hex _ _ (by rw [hv, hvy, r1, List.length_append]), by simpa using r2, r3, ?_, ?_⟩
          · simp only [Array.size_append, List.size_toArray, hol, hnl, r4, ← Nat.add_mul]
            congr 1
            omega
          · have := (hlaid.append hnlaid hol).more rest.toList
            simpa using this
      split at h
      · -- nothing owned yet
        rename_i xs
        obtain ⟨hid, hnil, hxw, h63, hby, hK⟩ := h
        have hr := arep_full rx
        obtain ⟨p, cap, olds, k1, k2, k3, k4, k5, k6, k7, b, oo, k8, k9⟩ := srep_laid hr hxw hpos
        have hcap : cap = xs.length := by
          generalize a.eval x = v at rx k1
          subst k1
          cases rx with | full _ => rfl
        by_cases hne : ys = []
        · subst hne
          subst hcap
          have hrun := hex _ _ (by rw [k1, hvy]; exact run_append_zero (P := P) (w := w) (ty := o.type) ht hi (p := p) (n := xs.length) (cap := xs.length) (Nat.le_refl _) q c)
          cases mu with
          | true =>
            have hxs := hnil rfl rfl
            subst hxs
            simp only [if_true] at hK
            obtain ⟨hu, R'⟩ := R.fresh (w' := w) hid (.mrow e i.size ([] ++ [])) ⟨p, 0, none⟩ (Ext.refl _ _) R.fit (Below.refl _ _) (by simp) (fun S' ι' hu => .mnil rfl rfl)
            exact ⟨_, _, _, σ, _, w, .inl hrun, hK, R', .one (.row (b := .mrow e i.size ([] ++ [])) (by simp [AS.set, updE_same]) (Nat.le_refl _) rfl fun _ => by simp [updE_same])⟩
          | false =>
            simp only [Bool.false_eq_true, if_false, List.append_nil] at hK
            rw [k1] at hr
            obtain ⟨hu, R'⟩ := R.fresh (w' := w) hid (.arow e i.size xs) ⟨p, xs.length, none⟩ (Ext.refl _ _) R.fit (Below.refl _ _) (by simp) (fun S' ι' hu => .afull rfl rfl hxw hr)
            exact ⟨_, _, _, σ, _, w, .inl hrun, hK, R', .one (.row (b := .arow e i.size xs) (by simp [AS.set, updE_same]) (Nat.le_refl _) rfl fun _ => by simp [updE_same])⟩
        · have hm : 0 < ys.length := List.length_pos_iff.2 hne
          obtain ⟨c', A, r1, r2, r3, r4, r5⟩ := fresh p xs cap olds k1 k5 k4 k2 (fun h0 => ⟨b, oo, k8 (by intro e; subst e; simp at h0), fun j u hu => R.fit _ _ (k9 j u hu)⟩) k6 hne (by omega) h63 hby
          have hheap : (w.drew.alloc (.cells A e)).heap[w.heap.size]? = some (.cells A e (0, 0)) := heap_alloc_new w.drew _
          have hmore : More w (w.drew.alloc (.cells A e)) := (Below.refl _ _).drew.alloc (Nat.le_refl _) _
          cases mu with
          | true =>
            simp only [if_true] at hK
            obtain ⟨hu, R'⟩ := R.fresh (w' := w.drew.alloc (.cells A e)) hid (.mrow e i.size (xs ++ ys)) ⟨some ⟨w.heap.size, 0, none⟩, c', some w.heap.size⟩ (Ext.refl _ _) (R.fit.below hmore) hmore (by simp) (fun S' ι' hu => .mrow rfl rfl hheap r2 r3 r4 r5.1 (laid_rep r5 fun j v hv => by simpa using hv) (fun p hp => R.fit.no (by omega)))
            exact ⟨_, _, _, σ, _, _, .inl r1, hK, R', .one (.row (b := .mrow e i.size (xs ++ ys)) (by simp [AS.set, updE_same]) (Nat.le_refl _) rfl fun _ => by simp [updE_same])⟩
          | false =>
            simp only [Bool.false_eq_true, if_false] at hK
            obtain ⟨hu, R'⟩ := R.fresh (w' := w.drew.alloc (.cells A e)) hid (.arow e i.size (xs ++ ys)) ⟨some ⟨w.heap.size, 0, none⟩, c', some w.heap.size⟩ (Ext.lay (k := (xs ++ ys).length * i.size) R.fit (Nat.le_refl _)) (layS_fit (R.fit.below hmore)) hmore (by simp)
              (fun S' ι' hu => brep_arow rfl hheap r2 r3 r4 r5 (Ext.lay R.fit (Nat.le_refl _)).keep (fun p hp hne => absurd (R.fit.no (by omega)) hne))
            exact ⟨_, _, _, _, _, _, .inl r1, hK, R', .one (.row (b := .arow e i.size (xs ++ ys)) (by simp [AS.set, updE_same]) (Nat.le_refl _) rfl fun _ => by simp [updE_same])⟩
      · rename_i id m
        obtain ⟨b, hb1, hb2, hb3⟩ := arep_row rx
        split at h
        · -- a row that only grows
          rename_i e' wd' xs hS
          obtain ⟨⟨rfl, rfl, rfl⟩, h63, hby, hK⟩ := h
          rw [hS] at hb1
          cases hb1
          have hv := hb3 rfl
          have hb := R.blk _ _ hS
          by_cases hne : ys = []
          · subst hne
            have hnc : xs.length ≤ (ι id).cap := by cases hb <;> first | exact Nat.zero_le _ | assumption | omega
            have hrun := hex _ _ (by rw [hv, hvy]; exact run_append_zero (P := P) (w := w) (ty := o.type) ht hi (p := (ι id).p) hnc q c)
            have hset : s.set id (.arow e' i.size (xs ++ [])) = s := by
              rw [List.append_nil]
              obtain ⟨env, S⟩ := s
              simp only [AS.set, AS.mk.injEq, true_and]
              funext k
              unfold updE
              split
              · rename_i hk; subst hk; exact hS.symm
              · rfl
            rw [hset] at hK
            refine ⟨_, _, s, σ, ι, w, .inl hrun, hK, R, ?_⟩
            rw [List.append_nil]
            exact .one (.row hS (Nat.le_refl _) rfl fun _ => rfl)
          · have hm : 0 < ys.length := List.length_pos_iff.2 hne
            have grow : ∀ (olds : List Value), olds.length = xs.length * i.size → ((ι id).p = none → (ι id).cap = 0) → xs.length ≤ (ι id).cap → (xs.length ≠ 0 → ∃ b o, (ι id).p = some ⟨b, o, none⟩ ∧ ∀ j u, olds[j]? = some u → w.cell? ⟨b, o + j, none⟩ = some u) → Laid σ olds i.size xs → (ι id).cap < xs.length + ys.length → Good P C o a w K := fun olds ho1 ho2 ho3 ho4 ho5 ho6 => by
              obtain ⟨c', A, r1, r2, r3, r4, r5⟩ := fresh _ xs _ olds hv ho1 ho2 ho3 ho4 ho5 hne ho6 h63 hby
              have hheap : (w.drew.alloc (.cells A e')).heap[w.heap.size]? = some (.cells A e' (0, 0)) := heap_alloc_new w.drew _
              have hmore : More w (w.drew.alloc (.cells A e')) := (Below.refl _ _).drew.alloc (Nat.le_refl _) _
              obtain ⟨hu, R'⟩ := R.turn (w' := w.drew.alloc (.cells A e')) hS (.arow e' i.size (xs ++ ys)) ⟨some ⟨w.heap.size, 0, none⟩, c', some w.heap.size⟩ (σ' := layS σ (w.drew.alloc (.cells A e')) w.heap.size ((xs ++ ys).length * i.size)) (Ext.lay R.fit (Nat.le_refl _)).keep
                (fun p hp hlt => layS_out (by omega)) (layS_fit (R.fit.below hmore)) (by simp [ABlk.len]) (fun he => absurd (by simpa [ABlk.len] using he) hne) ⟨rfl, rfl, rfl⟩ hmore.size (fun g hg _ => hmore.block g hg) (fun g hg => .inr (by simp at hg; omega))
                (fun hu => brep_arow rfl hheap r2 r3 r4 r5 (Ext.lay R.fit (Nat.le_refl _)).keep (fun p hp hne => absurd (R.fit.no (by omega)) hne))
              exact ⟨_, _, _, _, _, _, .inl r1, hK, R', .one (.row (b := .arow e' i.size (xs ++ ys)) (by simp [AS.set, updE_same]) (Nat.le_refl _) rfl fun _ => by simp [updE_same])⟩
            cases hb with
            | afull k1 k2 k3 k4 =>
              obtain ⟨p, cap, olds, j1, j2, j3, j4, j5, j6, j7, b, oo, j8, j9⟩ := srep_laid k4 k3 hpos
              simp only [Value.slice.injEq] at j1
              obtain ⟨rfl, -, rfl⟩ := j1
              exact grow olds j5 j4 j2 (fun h0 => ⟨b, oo, j8 (by intro e; subst e; simp at h0), fun j u hu => R.fit _ _ (j9 j u hu)⟩) j6 (by omega)
            | @arow _ _ _ g vs k1 k2 k3 k4 k5 k6 k7 k8 k9 =>
              have hlaid : Laid σ (vs.toList.take (xs.length * i.size)) i.size xs := ⟨k7, fun k x j y hx hy => by
                obtain ⟨v, v1, v2, v3⟩ := k8 k x j y hx hy
                have hlt := k9 _ rfl (by rw [v3]; simp)
                exact ⟨v, by rw [List.getElem?_take, if_pos hlt]; simpa using v1, v2⟩⟩
              have hcapw : xs.length * i.size ≤ (ι id).cap * i.size := Nat.mul_le_mul_right _ k4
              have htl : (vs.toList.take (xs.length * i.size)).length = xs.length * i.size := by simp; omega
              by_cases hroom : xs.length + ys.length ≤ (ι id).cap
              · have hcapw2 : (xs.length + ys.length) * i.size ≤ (ι id).cap * i.size := Nat.mul_le_mul_right _ hroom
                rw [Nat.add_mul] at hcapw2
                obtain ⟨bq, oq, hq, hq2⟩ := hncell hne
                have hr := run_append_room (P := P) w t o.type e' i ht hi g xs.length (ι id).cap vs k3 ⟨bq, oq, none⟩ ys.length c news hnl (fun j u hu => by rw [addr_add]; exact hq2 j u hu) hn1 hroom (by omega)
                have hrun := hex _ _ (by rw [hv, hvy, k2, hq]; exact hr)
                generalize hA : (vs.toList.take (xs.length * i.size) ++ news ++ vs.toList.drop (xs.length * i.size + news.length)).toArray = A at hrun
                have hAl : A.toList = vs.toList.take (xs.length * i.size) ++ news ++ vs.toList.drop (xs.length * i.size + news.length) := by rw [← hA]
                have hAs : A.size = (ι id).cap * i.size := by
                  rw [← hA]
                  simp only [List.size_toArray, List.length_append, htl, List.length_drop, Array.length_toList]
                  omega
                have hheap : (w.setRow g A).heap[g]? = some (.cells A e' (0, 0)) := setRow_heap w _ _ _ _ _ k3
                have hl : Laid σ A.toList i.size (xs ++ ys) := by
                  rw [hAl]
                  exact (hlaid.append hnlaid htl).more _
                have hkeepc : ∀ j u, σ ⟨g, j, none⟩ = some u → (w.setRow g A).cell? ⟨g, j, none⟩ = some u := fun j u hu => by
                  have hlt := k9 ⟨g, j, none⟩ rfl (by rw [hu]; simp)
                  have h1 := R.fit _ _ hu
                  rw [look_none rfl] at h1
                  rw [cell_of_row w g _ _ _ _ k3] at h1
                  rw [cell_of_row _ g _ _ _ _ hheap]
                  have : A.toList[j]? = some u := by
                    rw [hAl, List.append_assoc, List.getElem?_append_left (by rw [htl]; exact hlt), List.getElem?_take, if_pos hlt]
                    simpa using h1
                  simpa using this
                have hsp : ∀ p : Addr, p.block = g → σ p ≠ none → p.spot = none := fun p hp hne => by
                  cases hx : σ p with
                  | none => exact absurd hx hne
                  | some u =>
                    have h1 := R.fit _ _ hx
                    have h2 := k9 p hp hne
                    cases hs : p.spot with
                    | none => rfl
                    | some _ =>
                      unfold look at h1
                      simp only [hs, hp, k3] at h1
                      split at h1
                      · have h3 : xs.length * i.size ≤ (ι id).cap * i.size := Nat.mul_le_mul_right _ (by assumption)
                        have h4 : vs.size = (ι id).cap * i.size := by assumption
                        omega
                      · cases h1
                have hfit0 : Fit σ (w.setRow g A) := fun p u hp => by
                  by_cases hb : p.block = g
                  · have hs := hsp p hb (by rw [hp]; simp)
                    obtain ⟨pb, po, ps⟩ := p
                    simp only at hb hs
                    subst hb hs
                    exact hkeepc _ _ hp
                  · exact (look_of_block (setRow_other _ _ _ _ hb)).trans (R.fit _ _ hp)
                have hkeep := layS_keep (w' := w.setRow g A) (g := g) (k := (xs ++ ys).length * i.size) hkeepc
                obtain ⟨hu, R'⟩ := R.turn (w' := w.setRow g A) hS (.arow e' i.size (xs ++ ys)) ⟨(ι id).p, (ι id).cap, some g⟩ (σ' := layS σ (w.setRow g A) g ((xs ++ ys).length * i.size)) hkeep
                  (fun p hp _ => layS_out (fun e => hp (by rw [e]; exact k1))) (layS_fit hfit0) (by simp [ABlk.len]) (fun he => absurd (by simpa [ABlk.len] using he) hne) (setRow_frame _ _) (by simp) (fun k hk hne => setRow_other _ _ _ _ (fun e => hne (by rw [e]; exact k1))) (fun g' hg' => .inl (by simp at hg'; subst hg'; exact k1))
                  (fun hu => brep_arow k2 hheap (by simpa using hroom) k5 hAs hl hkeep (fun p hp hne => by have := k9 p hp hne; simp [Nat.add_mul]; omega))
                exact ⟨_, _, _, _, _, _, .inl hrun, hK, R', .one (.row (b := .arow e' i.size (xs ++ ys)) (by simp [AS.set, updE_same]) (Nat.le_refl _) rfl fun _ => by simp [updE_same, k2])⟩
              · exact grow _ htl (by rw [k2]; simp) k4 (fun _ => ⟨g, 0, k2, fun j u hu => by
                  rw [List.getElem?_take] at hu
                  split at hu
                  · rw [Nat.zero_add, cell_of_row w g _ _ _ _ k3]
                    simpa using hu
                  · cases hu⟩) hlaid (by omega)
        · -- a row that is written
          rename_i e' wd' xs hS
          obtain ⟨⟨rfl, rfl, rfl⟩, h63, hby, hK⟩ := h
          rw [hS] at hb1
          cases hb1
          have hv := hb3 rfl
          have hb := R.blk _ _ hS
          by_cases hne : ys = []
          · subst hne
            have hnc : xs.length ≤ (ι id).cap := by cases hb <;> first | exact Nat.zero_le _ | assumption | omega
            have hrun := hex _ _ (by rw [hv, hvy]; exact run_append_zero (P := P) (w := w) (ty := o.type) ht hi (p := (ι id).p) hnc q c)
            have hset : s.set id (.mrow e' i.size (xs ++ [])) = s := by
              rw [List.append_nil]
              obtain ⟨env, S⟩ := s
              simp only [AS.set, AS.mk.injEq, true_and]
              funext k
              unfold updE
              split
              · rename_i hk; subst hk; exact hS.symm
              · rfl
            rw [hset] at hK
            refine ⟨_, _, s, σ, ι, w, .inl hrun, hK, R, ?_⟩
            rw [List.append_nil]
            exact .one (.row hS (Nat.le_refl _) rfl fun _ => rfl)
          · have hm : 0 < ys.length := List.length_pos_iff.2 hne
            have grow : ∀ (olds : List Value), olds.length = xs.length * i.size → ((ι id).p = none → (ι id).cap = 0) → xs.length ≤ (ι id).cap → (xs.length ≠ 0 → ∃ b o, (ι id).p = some ⟨b, o, none⟩ ∧ ∀ j u, olds[j]? = some u → w.cell? ⟨b, o + j, none⟩ = some u) → Laid σ olds i.size xs → (ι id).cap < xs.length + ys.length → Good P C o a w K := fun olds ho1 ho2 ho3 ho4 ho5 ho6 => by
              obtain ⟨c', A, r1, r2, r3, r4, r5⟩ := fresh _ xs _ olds hv ho1 ho2 ho3 ho4 ho5 hne ho6 h63 hby
              have hheap : (w.drew.alloc (.cells A e')).heap[w.heap.size]? = some (.cells A e' (0, 0)) := heap_alloc_new w.drew _
              have hmore : More w (w.drew.alloc (.cells A e')) := (Below.refl _ _).drew.alloc (Nat.le_refl _) _
              obtain ⟨hu, R'⟩ := R.turn (w' := w.drew.alloc (.cells A e')) hS (.mrow e' i.size (xs ++ ys)) ⟨some ⟨w.heap.size, 0, none⟩, c', some w.heap.size⟩ (σ' := σ) (fun _ _ h => h)
                (fun _ _ _ => rfl) (R.fit.below hmore) (by simp [ABlk.len]) (fun he => absurd (by simpa [ABlk.len] using he) hne) ⟨rfl, rfl, rfl⟩ hmore.size (fun g hg _ => hmore.block g hg) (fun g hg => .inr (by simp at hg; omega))
                (fun hu => .mrow rfl rfl hheap r2 r3 r4 r5.1 (laid_rep r5 fun j v hv => by simpa using hv) (fun p hp => R.fit.no (by omega)))
              exact ⟨_, _, _, _, _, _, .inl r1, hK, R', .one (.row (b := .mrow e' i.size (xs ++ ys)) (by simp [AS.set, updE_same]) (Nat.le_refl _) rfl fun _ => by simp [updE_same])⟩
            cases hb with
            | mnil k1 k2 => exact grow [] (by simp) (fun _ => k2) (Nat.zero_le _) (by simp) Laid.nil (by rw [k2]; simpa using hm)
            | @mrow _ _ _ g vs k1 k2 k3 k4 k5 k6 k7 k8 k9 =>
              have hlaid : Laid σ (vs.toList.take (xs.length * i.size)) i.size xs := ⟨k7, fun k x j y hx hy => by
                obtain ⟨v, v1, v2⟩ := k8 k x j y hx hy
                have hk := (List.getElem?_eq_some_iff.1 hx).1
                have hj : j < i.size := by
                  rw [← k7 x (List.mem_of_getElem? hx)]
                  exact (List.getElem?_eq_some_iff.1 hy).1
                have hlt : k * i.size + j < xs.length * i.size := by
                  have : (k + 1) * i.size ≤ xs.length * i.size := Nat.mul_le_mul_right _ hk
                  rw [Nat.add_mul] at this
                  omega
                exact ⟨v, by rw [List.getElem?_take, if_pos hlt]; simpa using v1, v2⟩⟩
              have hcapw : xs.length * i.size ≤ (ι id).cap * i.size := Nat.mul_le_mul_right _ k4
              have htl : (vs.toList.take (xs.length * i.size)).length = xs.length * i.size := by simp; omega
              by_cases hroom : xs.length + ys.length ≤ (ι id).cap
              · have hcapw2 : (xs.length + ys.length) * i.size ≤ (ι id).cap * i.size := Nat.mul_le_mul_right _ hroom
                rw [Nat.add_mul] at hcapw2
                obtain ⟨bq, oq, hq, hq2⟩ := hncell hne
                have hr := run_append_room (P := P) w t o.type e' i ht hi g xs.length (ι id).cap vs k3 ⟨bq, oq, none⟩ ys.length c news hnl (fun j u hu => by rw [addr_add]; exact hq2 j u hu) hn1 hroom (by omega)
                have hrun := hex _ _ (by rw [hv, hvy, k2, hq]; exact hr)
                generalize hA : (vs.toList.take (xs.length * i.size) ++ news ++ vs.toList.drop (xs.length * i.size + news.length)).toArray = A at hrun
                have hAl : A.toList = vs.toList.take (xs.length * i.size) ++ news ++ vs.toList.drop (xs.length * i.size + news.length) := by rw [← hA]
                have hAs : A.size = (ι id).cap * i.size := by
                  rw [← hA]
                  simp only [List.size_toArray, List.length_append, htl, List.length_drop, Array.length_toList]
                  omega
                have hheap : (w.setRow g A).heap[g]? = some (.cells A e' (0, 0)) := setRow_heap w _ _ _ _ _ k3
                have hl : Laid σ A.toList i.size (xs ++ ys) := by
                  rw [hAl]
                  exact (hlaid.append hnlaid htl).more _
                obtain ⟨hu, R'⟩ := R.turn (w' := w.setRow g A) hS (.mrow e' i.size (xs ++ ys)) ⟨(ι id).p, (ι id).cap, some g⟩ (σ' := σ) (fun _ _ h => h)
                  (fun _ _ _ => rfl) (R.fit.row k9 fun k hk => setRow_other _ _ _ _ hk) (by simp [ABlk.len]) (fun he => absurd (by simpa [ABlk.len] using he) hne) (setRow_frame _ _) (by simp) (fun k hk hne => setRow_other _ _ _ _ (fun e => hne (by rw [e]; exact k1))) (fun g' hg' => .inl (by simp at hg'; subst hg'; exact k1))
                  (fun hu => .mrow rfl k2 hheap (by simpa using hroom) k5 hAs hl.1 (laid_rep hl fun j v hv => by simpa using hv) k9)
                exact ⟨_, _, _, _, _, _, .inl hrun, hK, R', .one (.row (b := .mrow e' i.size (xs ++ ys)) (by simp [AS.set, updE_same]) (Nat.le_refl _) rfl fun _ => by simp [updE_same, k2])⟩
              · exact grow _ htl (by rw [k2]; simp) k4 (fun _ => ⟨g, 0, k2, fun j u hu => by
                  rw [List.getElem?_take] at hu
                  split at hu
                  · rw [Nat.zero_add, cell_of_row w g _ _ _ _ k3]
                    simpa using hu
                  · cases hu⟩) hlaid (by omega)
        · exact h.elim
      · exact h.elim
    · exact h.elim
  · exact h.elim
end
end Go.Proofs.YtbiadmlfejnbcaaGreatDoor

namespace Go.Proofs.YtbiadmlfejnbcaaGreatDoor
open Go Go.RowKit
set_option linter.unusedVariables false
set_option maxHeartbeats 400000

def Opd.reads : Opd → List Nat
  | .t i => [i]
  | .c _ => []
def optReads : Option Opd → List Nat
  | none => []
  | some x => x.reads
def allReads : List Opd → List Nat
  | [] => []
  | x :: xs => x.reads ++ allReads xs
def partReads : List (Nat × Nat × Opd) → List Nat
  | [] => []
  | (_, _, x) :: xs => x.reads ++ partReads xs
def Kd.reads : Kd → List Nat
  | .mov x => x.reads
  | .pick c x y => c.reads ++ (x.reads ++ y.reads)
  | .alloc _ _ => []
  | .box _ x => x.reads
  | .build _ ps => partReads ps
  | .buildSlice _ _ _ xs => allReads xs
  | .load _ _ x => x.reads
  | .store _ x v => x.reads ++ v.reads
  | .fieldAddr _ x => x.reads
  | .field _ _ _ x => x.reads
  | .indexAddr _ x i => x.reads ++ i.reads
  | .indexArr _ _ x i => x.reads ++ i.reads
  | .indexStr x i => x.reads ++ i.reads
  | .bin _ x y => x.reads ++ y.reads
  | .eqB _ x y => x.reads ++ y.reads
  | .eqN _ x => x.reads
  | .eqE _ x => x.reads
  | .never => []
  | .strOf x => x.reads
  | .un _ x => x.reads
  | .sliceS x lo hi => x.reads ++ (optReads lo ++ optReads hi)
  | .sliceL _ x lo hi => x.reads ++ (optReads lo ++ optReads hi)
  | .extract _ x => x.reads
  | .len _ x => x.reads
  | .append _ _ _ _ x y => x.reads ++ y.reads
  | .call _ xs => allReads xs
  | .conv _ x => x.reads
  | .nilCheck x => x.reads
  | .mm _ x y => x.reads ++ y.reads
  | .makeSlice _ _ _ _ x y => x.reads ++ y.reads
  | .makeFunc _ xs => allReads xs
  | .callS _ xs => allReads xs
  | .callV f xs => f.reads ++ allReads xs
/-- It neither reads nor turns blocks. -/
def Kd.pureS : Kd → Bool
  | .mov _ | .pick _ _ _ | .build _ _ | .field _ _ _ _ | .indexStr _ _ | .bin _ _ _ | .eqB _ _ _ | .eqN _ _ | .eqE _ _ | .never | .strOf _ | .un _ _ | .sliceS _ _ _ | .extract _ _ | .conv _ _ | .mm _ _ _ | .makeFunc _ _ => true
  | _ => false
/-- It turns no block. -/
def Kd.keepS : Kd → Bool
  | .alloc _ _ | .box _ _ | .buildSlice true _ _ _ | .store _ _ _ | .append _ _ _ _ _ _ | .makeSlice _ _ _ _ _ _ | .callS _ _ | .callV _ _ => false
  | _ => true

section
variable {P : Program} {s : AS} {d : Nat} {K : AV → AS → Prop} {env' : Nat → AV} {S' : AStore}
theorem ev_loc {x : Opd} (h : ∀ t ∈ x.reads, env' t = s.env t) : (⟨env', S'⟩ : AS).ev x = s.ev x := by
  cases x with
  | t i => exact h i (by simp [Opd.reads])
  | c v => rfl
theorem optI_loc {x : Option Opd} {n : Int} (h : ∀ t ∈ optReads x, env' t = s.env t) : optI (⟨env', S'⟩ : AS) n x = optI s n x := by
  cases x with
  | none => rfl
  | some x => simp only [optI, ev_loc (s := s) (x := x) h]
theorem evs_loc {xs : List Opd} (h : ∀ t ∈ allReads xs, env' t = s.env t) : (⟨env', S'⟩ : AS).evs xs = s.evs xs := by
  induction xs with
  | nil => rfl
  | cons x xs ih =>
    simp only [AS.evs]
    rw [ev_loc (fun t ht => h t (by simp [allReads, ht])), ih (fun t ht => h t (by simp [allReads, ht]))]
theorem caps_loc {xs : List Opd} (h : ∀ t ∈ allReads xs, env' t = s.env t) : (⟨env', S'⟩ : AS).caps xs = s.caps xs := by
  induction xs with
  | nil => rfl
  | cons x xs ih =>
    simp only [AS.caps]
    rw [ev_loc (fun t ht => h t (by simp [allReads, ht])), ih (fun t ht => h t (by simp [allReads, ht]))]
theorem fills_loc {ps : List (Nat × Nat × Opd)} (h : ∀ t ∈ partReads ps, env' t = s.env t) : ∀ cs, fills (⟨env', S'⟩ : AS) cs ps = fills s cs ps := by
  induction ps with
  | nil => intro cs; rfl
  | cons x xs ih =>
    obtain ⟨off, n, x⟩ := x
    intro cs
    simp only [fills]
    rw [ev_loc (fun t ht => h t (by simp [partReads, ht]))]
    simp only [ih (fun t ht => h t (by simp [partReads, ht]))]
theorem elems_loc {w : Nat} {xs : List Opd} (h : ∀ t ∈ allReads xs, env' t = s.env t) : elems (⟨env', s.S⟩ : AS) w xs = elems s w xs := by
  induction xs with
  | nil => rfl
  | cons x xs ih =>
    simp only [elems]
    rw [ev_loc (fun t ht => h t (by simp [allReads, ht]))]
    simp only [ih (fun t ht => h t (by simp [allReads, ht]))]

/-- The word of an operation says one result; it asks only the slots that it reads (and, if it is not pure, the blocks). -/
theorem go_loc {kd : Kd} (h : kd.go P d s K) : ∃ v S1, K v ⟨s.env, S1⟩ ∧ (kd.keepS = true → S1 = s.S) ∧ ∀ env' : Nat → AV, (∀ t ∈ kd.reads, env' t = s.env t) →
    (∀ K' : AV → AS → Prop, K' v ⟨env', S1⟩ → kd.go P d ⟨env', s.S⟩ K') ∧ (kd.pureS = true → ∀ (S' : AStore) (K' : AV → AS → Prop), K' v ⟨env', S'⟩ → kd.go P d ⟨env', S'⟩ K') := by
  cases kd with
  | mov x => exact ⟨_, s.S, h, fun _ => rfl, fun env' he => ⟨fun K' hk => by simp only [Kd.go, ev_loc he]; exact hk, fun _ S' K' hk => by simp only [Kd.go, ev_loc he]; exact hk⟩⟩
  | pick c x y =>
    simp only [Kd.go] at h
    split at h
    · rename_i t e1
      have ec : ∀ env' S', (∀ t ∈ (Kd.pick c x y).reads, env' t = s.env t) → (⟨env', S'⟩ : AS).ev c = .one (.st (.bool t)) ∧ (⟨env', S'⟩ : AS).ev x = s.ev x ∧ (⟨env', S'⟩ : AS).ev y = s.ev y := fun env' S' he =>
        ⟨by rw [ev_loc (fun t ht => he t (by simp [Kd.reads, ht]))]; exact e1, ev_loc (fun t ht => he t (by simp [Kd.reads, ht])), ev_loc (fun t ht => he t (by simp [Kd.reads, ht]))⟩
      cases t with
      | true => exact ⟨_, s.S, h.1 rfl, fun _ => rfl, fun env' he => ⟨fun K' hk => by simp only [Kd.go, ec env' _ he]; exact ⟨fun _ => hk, by simp⟩, fun _ S' K' hk => by simp only [Kd.go, ec env' _ he]; exact ⟨fun _ => hk, by simp⟩⟩⟩
      | false => exact ⟨_, s.S, h.2 rfl, fun _ => rfl, fun env' he => ⟨fun K' hk => by simp only [Kd.go, ec env' _ he]; exact ⟨by simp, fun _ => hk⟩, fun _ S' K' hk => by simp only [Kd.go, ec env' _ he]; exact ⟨by simp, fun _ => hk⟩⟩⟩
    · exact h.elim
  | alloc e z => exact ⟨_, _, h.2, by simp [Kd.keepS], fun env' he => ⟨fun K' hk => ⟨h.1, hk⟩, by simp [Kd.pureS]⟩⟩
  | box e x =>
    simp only [Kd.go] at h
    split at h
    · rename_i cs e1
      exact ⟨_, _, h.2, by simp [Kd.keepS], fun env' he => ⟨fun K' hk => by simp only [Kd.go, ev_loc he, e1]; exact ⟨h.1, hk⟩, by simp [Kd.pureS]⟩⟩
    · exact h.elim
  | build z ps =>
    simp only [Kd.go] at h
    split at h
    · rename_i cs e1
      exact ⟨_, s.S, h, fun _ => rfl, fun env' he => ⟨fun K' hk => by simp only [Kd.go, fills_loc he, e1]; exact hk, fun _ S' K' hk => by simp only [Kd.go, fills_loc he, e1]; exact hk⟩⟩
    · exact h.elim
  | buildSlice mu e w xs =>
    simp only [Kd.go] at h
    split at h
    · rename_i es e1
      cases mu with
      | true =>
        simp only [if_true] at h
        exact ⟨_, _, h.2, by simp [Kd.keepS], fun env' he => ⟨fun K' hk => by simp only [Kd.go, elems_loc he, e1, if_true]; exact ⟨h.1, hk⟩, by simp [Kd.pureS]⟩⟩
      | false =>
        simp only [Bool.false_eq_true, if_false] at h
        exact ⟨_, s.S, h, fun _ => rfl, fun env' he => ⟨fun K' hk => by simp only [Kd.go, elems_loc he, e1, Bool.false_eq_true, if_false]; exact hk, by simp [Kd.pureS]⟩⟩
    · exact h.elim
  | load g n x =>
    simp only [Kd.go] at h
    split at h
    · rename_i cs e1
      exact ⟨_, s.S, h.2, fun _ => rfl, fun env' he => ⟨fun K' hk => by simp only [Kd.go, ev_loc he, e1]; exact ⟨h.1, hk⟩, by simp [Kd.pureS]⟩⟩
    · rename_i id m k off e1
      split at h
      · rename_i cs e2
        exact ⟨_, s.S, h.2, fun _ => rfl, fun env' he => ⟨fun K' hk => by simp only [Kd.go, ev_loc he, e1, e2]; exact ⟨h.1, hk⟩, by simp [Kd.pureS]⟩⟩
      · exact h.elim
    · exact h.elim
  | store n x v =>
    simp only [Kd.go] at h
    split at h
    · rename_i id m k off c e1 e2
      have ec : ∀ env' S', (∀ t ∈ (Kd.store n x v).reads, env' t = s.env t) → (⟨env', S'⟩ : AS).ev x = s.ev x ∧ (⟨env', S'⟩ : AS).ev v = s.ev v := fun env' S' he =>
        ⟨ev_loc (fun t ht => he t (by simp [Kd.reads, ht])), ev_loc (fun t ht => he t (by simp [Kd.reads, ht]))⟩
      split at h
      · rename_i e cs e3
        exact ⟨_, _, h.2.2.2, by simp [Kd.keepS], fun env' he => ⟨fun K' hk => by simp only [Kd.go, ec env' _ he, e1, e2, e3]; exact ⟨h.1, h.2.1, h.2.2.1, hk⟩, by simp [Kd.pureS]⟩⟩
      · rename_i e w xs e3
        split at h
        · rename_i c' x1 e4 e5
          exact ⟨_, _, h.2.2.2, by simp [Kd.keepS], fun env' he => ⟨fun K' hk => by simp only [Kd.go, ec env' _ he, e1, e2, e3, e4, e5]; exact ⟨h.1, h.2.1, h.2.2.1, hk⟩, by simp [Kd.pureS]⟩⟩
        · exact h.elim
      · exact h.elim
    · exact h.elim
  | fieldAddr off x =>
    simp only [Kd.go] at h
    split at h
    · rename_i cs e1
      exact ⟨_, s.S, h, fun _ => rfl, fun env' he => ⟨fun K' hk => by simp only [Kd.go, ev_loc he, e1]; exact hk, by simp [Kd.pureS]⟩⟩
    · rename_i id m k o e1
      split at h
      · rename_i b e2
        exact ⟨_, s.S, h.2, fun _ => rfl, fun env' he => ⟨fun K' hk => by simp only [Kd.go, ev_loc he, e1, e2]; exact ⟨h.1, hk⟩, by simp [Kd.pureS]⟩⟩
      · exact h.elim
    · exact h.elim
  | field g off n x =>
    simp only [Kd.go] at h
    split at h
    · rename_i cs e1
      exact ⟨_, s.S, h.2, fun _ => rfl, fun env' he => ⟨fun K' hk => by simp only [Kd.go, ev_loc he, e1]; exact ⟨h.1, hk⟩, fun _ S' K' hk => by simp only [Kd.go, ev_loc he, e1]; exact ⟨h.1, hk⟩⟩⟩
    · exact h.elim
  | indexAddr w x i =>
    simp only [Kd.go] at h
    have ec : ∀ env' S', (∀ t ∈ (Kd.indexAddr w x i).reads, env' t = s.env t) → (⟨env', S'⟩ : AS).ev x = s.ev x ∧ (⟨env', S'⟩ : AS).ev i = s.ev i := fun env' S' he =>
      ⟨ev_loc (fun t ht => he t (by simp [Kd.reads, ht])), ev_loc (fun t ht => he t (by simp [Kd.reads, ht]))⟩
    split at h
    · rename_i c kk n e1 e2
      split at h
      · rename_i xs
        unfold idxK at h
        obtain ⟨h0, h⟩ := h
        split at h
        · rename_i x1 hx1
          exact ⟨_, s.S, h.2, fun _ => rfl, fun env' he => ⟨fun K' hk => by simp only [Kd.go, ec env' _ he, e1, e2, idxK, hx1]; exact ⟨h0, h.1, hk⟩, by simp [Kd.pureS]⟩⟩
        · exact h.elim
      · rename_i xs
        unfold idxK at h
        obtain ⟨h0, h⟩ := h
        split at h
        · rename_i x1 hx1
          exact ⟨_, s.S, h.2, fun _ => rfl, fun env' he => ⟨fun K' hk => by simp only [Kd.go, ec env' _ he, e1, e2, idxK, hx1]; exact ⟨h0, h.1, hk⟩, by simp [Kd.pureS]⟩⟩
        · exact h.elim
      · rename_i id m
        split at h
        · rename_i e' w' xs hS
          obtain ⟨hm, hw, h⟩ := h
          unfold idxK at h
          obtain ⟨h0, h⟩ := h
          split at h
          · rename_i x1 hx1
            exact ⟨_, s.S, h, fun _ => rfl, fun env' he => ⟨fun K' hk => by simp only [Kd.go, ec env' _ he, e1, e2, hS, idxK, hx1]; exact ⟨hm, hw, h0, hk⟩, by simp [Kd.pureS]⟩⟩
          · exact h.elim
        · rename_i e' w' xs hS
          exact ⟨_, s.S, h.2.2.2.2, fun _ => rfl, fun env' he => ⟨fun K' hk => by simp only [Kd.go, ec env' _ he, e1, e2, hS]; exact ⟨h.1, h.2.1, h.2.2.1, h.2.2.2.1, hk⟩, by simp [Kd.pureS]⟩⟩
        · exact h.elim
      · exact h.elim
    · exact h.elim
  | indexArr n w x i =>
    simp only [Kd.go] at h
    have ec : ∀ env' S', (∀ t ∈ (Kd.indexArr n w x i).reads, env' t = s.env t) → (⟨env', S'⟩ : AS).ev x = s.ev x ∧ (⟨env', S'⟩ : AS).ev i = s.ev i := fun env' S' he =>
      ⟨ev_loc (fun t ht => he t (by simp [Kd.reads, ht])), ev_loc (fun t ht => he t (by simp [Kd.reads, ht]))⟩
    split at h
    · rename_i cs kk k e1 e2
      exact ⟨_, s.S, h.2, fun _ => rfl, fun env' he => ⟨fun K' hk => by simp only [Kd.go, ec env' _ he, e1, e2]; exact ⟨h.1, hk⟩, by simp [Kd.pureS]⟩⟩
    · rename_i id m b o kk k e1 e2
      split at h
      · rename_i bl e3
        exact ⟨_, s.S, h.2.2, fun _ => rfl, fun env' he => ⟨fun K' hk => by simp only [Kd.go, ec env' _ he, e1, e2, e3]; exact ⟨h.1, h.2.1, hk⟩, by simp [Kd.pureS]⟩⟩
      · exact h.elim
    · exact h.elim
  | indexStr x i =>
    simp only [Kd.go] at h
    have ec : ∀ env' S', (∀ t ∈ (Kd.indexStr x i).reads, env' t = s.env t) → (⟨env', S'⟩ : AS).ev x = s.ev x ∧ (⟨env', S'⟩ : AS).ev i = s.ev i := fun env' S' he =>
      ⟨ev_loc (fun t ht => he t (by simp [Kd.reads, ht])), ev_loc (fun t ht => he t (by simp [Kd.reads, ht]))⟩
    split at h
    · rename_i b kk n e1 e2
      exact ⟨_, s.S, h.2, fun _ => rfl, fun env' he => ⟨fun K' hk => by simp only [Kd.go, ec env' _ he, e1, e2]; exact ⟨h.1, hk⟩, fun _ S' K' hk => by simp only [Kd.go, ec env' _ he, e1, e2]; exact ⟨h.1, hk⟩⟩⟩
    · exact h.elim
  | bin op x y =>
    simp only [Kd.go] at h
    have ec : ∀ env' S', (∀ t ∈ (Kd.bin op x y).reads, env' t = s.env t) → (⟨env', S'⟩ : AS).ev x = s.ev x ∧ (⟨env', S'⟩ : AS).ev y = s.ev y := fun env' S' he =>
      ⟨ev_loc (fun t ht => he t (by simp [Kd.reads, ht])), ev_loc (fun t ht => he t (by simp [Kd.reads, ht]))⟩
    split at h
    · rename_i k m k' n e1 e2
      obtain ⟨hk0, h⟩ := h
      have key : ∃ v, K (.one (.st v)) s ∧ ∀ K2 : SV → Prop, K2 v → binI op k m n K2 := by
        cases op <;> simp only [binI] at h ⊢ <;> first | exact h.elim | exact ⟨_, h.2.2, fun K2 hk => ⟨h.1, h.2.1, hk⟩⟩ | exact ⟨_, h.2, fun K2 hk => ⟨h.1, hk⟩⟩ | exact ⟨_, h, fun K2 hk => hk⟩
      obtain ⟨v, k1, k2⟩ := key
      exact ⟨_, s.S, k1, fun _ => rfl, fun env' he => ⟨fun K' hk => by simp only [Kd.go, ec env' _ he, e1, e2]; exact ⟨hk0, k2 _ hk⟩, fun _ S' K' hk => by simp only [Kd.go, ec env' _ he, e1, e2]; exact ⟨hk0, k2 _ hk⟩⟩⟩
    · rename_i m n e1 e2
      have key : ∃ v, K (.one (.st v)) s ∧ ∀ K2 : SV → Prop, K2 v → binS op m n K2 := by
        cases op <;> simp only [binS] at h ⊢ <;> first | exact h.elim | exact ⟨_, h.2, fun K2 hk => ⟨h.1, hk⟩⟩ | exact ⟨_, h, fun K2 hk => hk⟩
      obtain ⟨v, k1, k2⟩ := key
      exact ⟨_, s.S, k1, fun _ => rfl, fun env' he => ⟨fun K' hk => by simp only [Kd.go, ec env' _ he, e1, e2]; exact k2 _ hk, fun _ S' K' hk => by simp only [Kd.go, ec env' _ he, e1, e2]; exact k2 _ hk⟩⟩
    · exact h.elim
  | never => exact (show False from h).elim
  | strOf x =>
    simp only [Kd.go] at h
    split at h
    · rename_i ys e1
      split at h
      · rename_i ns e2
        exact ⟨_, s.S, h.2, fun _ => rfl, fun env' he => ⟨fun K' hk => by simp only [Kd.go, ev_loc he, e1, e2]; exact ⟨h.1, hk⟩, fun _ S' K' hk => by simp only [Kd.go, ev_loc he, e1, e2]; exact ⟨h.1, hk⟩⟩⟩
      · exact h.elim
    · exact h.elim
  | eqN neg x =>
    simp only [Kd.go] at h
    split at h
    · rename_i xs e1
      exact ⟨_, s.S, h.2, fun _ => rfl, fun env' he => ⟨fun K' hk => by simp only [Kd.go, ev_loc he, e1]; exact ⟨h.1, hk⟩, fun _ S' K' hk => by simp only [Kd.go, ev_loc he, e1]; exact ⟨h.1, hk⟩⟩⟩
    · exact h.elim
  | eqE neg x =>
    simp only [Kd.go] at h
    split at h
    · rename_i e1
      exact ⟨_, s.S, h, fun _ => rfl, fun env' he => ⟨fun K' hk => by simp only [Kd.go, ev_loc he, e1]; exact hk, fun _ S' K' hk => by simp only [Kd.go, ev_loc he, e1]; exact hk⟩⟩
    · rename_i e1
      exact ⟨_, s.S, h, fun _ => rfl, fun env' he => ⟨fun K' hk => by simp only [Kd.go, ev_loc he, e1]; exact hk, fun _ S' K' hk => by simp only [Kd.go, ev_loc he, e1]; exact hk⟩⟩
    · exact h.elim
  | eqB neg x y =>
    simp only [Kd.go] at h
    have ec : ∀ env' S', (∀ t ∈ (Kd.eqB neg x y).reads, env' t = s.env t) → (⟨env', S'⟩ : AS).ev x = s.ev x ∧ (⟨env', S'⟩ : AS).ev y = s.ev y := fun env' S' he =>
      ⟨ev_loc (fun t ht => he t (by simp [Kd.reads, ht])), ev_loc (fun t ht => he t (by simp [Kd.reads, ht]))⟩
    split at h
    · rename_i m n e1 e2
      exact ⟨_, s.S, h, fun _ => rfl, fun env' he => ⟨fun K' hk => by simp only [Kd.go, ec env' _ he, e1, e2]; exact hk, fun _ S' K' hk => by simp only [Kd.go, ec env' _ he, e1, e2]; exact hk⟩⟩
    · exact h.elim
  | un op x =>
    simp only [Kd.go] at h
    split at h
    · rename_i b e1
      exact ⟨_, s.S, h, fun _ => rfl, fun env' he => ⟨fun K' hk => by simp only [Kd.go, ev_loc he, e1]; exact hk, fun _ S' K' hk => by simp only [Kd.go, ev_loc he, e1]; exact hk⟩⟩
    · rename_i k n e1
      exact ⟨_, s.S, h.2, fun _ => rfl, fun env' he => ⟨fun K' hk => by simp only [Kd.go, ev_loc he, e1]; exact ⟨h.1, hk⟩, fun _ S' K' hk => by simp only [Kd.go, ev_loc he, e1]; exact ⟨h.1, hk⟩⟩⟩
    · exact h.elim
  | sliceS x lo hi =>
    simp only [Kd.go] at h
    have ec : ∀ env' S', (∀ t ∈ (Kd.sliceS x lo hi).reads, env' t = s.env t) → (⟨env', S'⟩ : AS).ev x = s.ev x ∧ (∀ n, optI (⟨env', S'⟩ : AS) n lo = optI s n lo) ∧ (∀ n, optI (⟨env', S'⟩ : AS) n hi = optI s n hi) := fun env' S' he =>
      ⟨ev_loc (fun t ht => he t (by simp [Kd.reads, ht])), fun n => optI_loc (fun t ht => he t (by simp [Kd.reads, ht])), fun n => optI_loc (fun t ht => he t (by simp [Kd.reads, ht]))⟩
    split at h
    · rename_i b e1
      split at h
      · rename_i l hh e2 e3
        exact ⟨_, s.S, h.2, fun _ => rfl, fun env' he => ⟨fun K' hk => by simp only [Kd.go, ec env' _ he, e1, e2, e3]; exact ⟨h.1, hk⟩, fun _ S' K' hk => by simp only [Kd.go, ec env' _ he, e1, e2, e3]; exact ⟨h.1, hk⟩⟩⟩
      · exact h.elim
    · exact h.elim
  | sliceL w x lo hi =>
    simp only [Kd.go] at h
    have ec : ∀ env' S', (∀ t ∈ (Kd.sliceL w x lo hi).reads, env' t = s.env t) → (⟨env', S'⟩ : AS).ev x = s.ev x ∧ (∀ n, optI (⟨env', S'⟩ : AS) n lo = optI s n lo) ∧ (∀ n, optI (⟨env', S'⟩ : AS) n hi = optI s n hi) := fun env' S' he =>
      ⟨ev_loc (fun t ht => he t (by simp [Kd.reads, ht])), fun n => optI_loc (fun t ht => he t (by simp [Kd.reads, ht])), fun n => optI_loc (fun t ht => he t (by simp [Kd.reads, ht]))⟩
    split at h
    · rename_i c e1
      split at h
      · rename_i xs e0
        split at h
        · rename_i l hh e2 e3
          exact ⟨_, s.S, h.2.2, fun _ => rfl, fun env' he => ⟨fun K' hk => by simp only [Kd.go, ec env' _ he, e1, e0, e2, e3]; exact ⟨h.1, h.2.1, hk⟩, by simp [Kd.pureS]⟩⟩
        · exact h.elim
      · exact h.elim
    · exact h.elim
  | extract i x =>
    simp only [Kd.go] at h
    split at h
    · rename_i vs e1
      split at h
      · rename_i v e2
        exact ⟨_, s.S, h, fun _ => rfl, fun env' he => ⟨fun K' hk => by simp only [Kd.go, ev_loc he, e1, e2]; exact hk, fun _ S' K' hk => by simp only [Kd.go, ev_loc he, e1, e2]; exact hk⟩⟩
      · exact h.elim
    · exact h.elim
  | len str x =>
    simp only [Kd.go] at h
    split at h
    · rename_i c e1
      split at h
      · rename_i n e2
        exact ⟨_, s.S, h, fun _ => rfl, fun env' he => ⟨fun K' hk => by simp only [Kd.go, ev_loc he, e1, e2]; exact hk, by simp [Kd.pureS]⟩⟩
      · exact h.elim
    · exact h.elim
  | append mu e w bytes x y =>
    simp only [Kd.go] at h
    have ec : ∀ env' S', (∀ t ∈ (Kd.append mu e w bytes x y).reads, env' t = s.env t) → (⟨env', S'⟩ : AS).ev x = s.ev x ∧ (⟨env', S'⟩ : AS).ev y = s.ev y := fun env' S' he =>
      ⟨ev_loc (fun t ht => he t (by simp [Kd.reads, ht])), ev_loc (fun t ht => he t (by simp [Kd.reads, ht]))⟩
    split at h
    · rename_i cx cy e1 e2
      split at h
      · rename_i ys e3
        obtain ⟨h1, h⟩ := h
        split at h
        · rename_i xs
          exact ⟨_, _, h.2.2.2.2.2, by simp [Kd.keepS], fun env' he => ⟨fun K' hk => by simp only [Kd.go, ec env' _ he, e1, e2, e3]; exact ⟨h1, h.1, h.2.1, h.2.2.1, h.2.2.2.1, h.2.2.2.2.1, hk⟩, by simp [Kd.pureS]⟩⟩
        · rename_i id m
          split at h
          · rename_i e' w' xs e4
            exact ⟨_, _, h.2.2.2, by simp [Kd.keepS], fun env' he => ⟨fun K' hk => by simp only [Kd.go, ec env' _ he, e1, e2, e3, e4]; exact ⟨h1, h.1, h.2.1, h.2.2.1, hk⟩, by simp [Kd.pureS]⟩⟩
          · rename_i e' w' xs e4
            exact ⟨_, _, h.2.2.2, by simp [Kd.keepS], fun env' he => ⟨fun K' hk => by simp only [Kd.go, ec env' _ he, e1, e2, e3, e4]; exact ⟨h1, h.1, h.2.1, h.2.2.1, hk⟩, by simp [Kd.pureS]⟩⟩
          · exact h.elim
        · exact h.elim
      · exact h.elim
    · exact h.elim
  | call f xs =>
    simp only [Kd.go] at h
    split at h
    · rename_i vs e1
      obtain ⟨r, hr, hK⟩ := h
      exact ⟨_, s.S, hK, fun _ => rfl, fun env' he => ⟨fun K' hk => by simp only [Kd.go, evs_loc he, e1]; exact ⟨r, hr, hk⟩, by simp [Kd.pureS]⟩⟩
    · exact h.elim
  | conv k x =>
    simp only [Kd.go] at h
    split at h
    · rename_i k' n e1
      exact ⟨_, s.S, h.2, fun _ => rfl, fun env' he => ⟨fun K' hk => by simp only [Kd.go, ev_loc he, e1]; exact ⟨h.1, hk⟩, fun _ S' K' hk => by simp only [Kd.go, ev_loc he, e1]; exact ⟨h.1, hk⟩⟩⟩
    · exact h.elim
  | nilCheck x =>
    simp only [Kd.go] at h
    split at h
    · rename_i cs e1
      exact ⟨_, s.S, h, fun _ => rfl, fun env' he => ⟨fun K' hk => by simp only [Kd.go, ev_loc he, e1]; exact hk, by simp [Kd.pureS]⟩⟩
    · rename_i id m k o e1
      split at h
      · rename_i b e2
        exact ⟨_, s.S, h.2, fun _ => rfl, fun env' he => ⟨fun K' hk => by simp only [Kd.go, ev_loc he, e1, e2]; exact ⟨h.1, hk⟩, by simp [Kd.pureS]⟩⟩
      · exact h.elim
    · exact h.elim
  | mm mx x y =>
    simp only [Kd.go] at h
    have ec : ∀ env' S', (∀ t ∈ (Kd.mm mx x y).reads, env' t = s.env t) → (⟨env', S'⟩ : AS).ev x = s.ev x ∧ (⟨env', S'⟩ : AS).ev y = s.ev y := fun env' S' he =>
      ⟨ev_loc (fun t ht => he t (by simp [Kd.reads, ht])), ev_loc (fun t ht => he t (by simp [Kd.reads, ht]))⟩
    split at h
    · rename_i k m k' n e1 e2
      exact ⟨_, s.S, h.2, fun _ => rfl, fun env' he => ⟨fun K' hk => by simp only [Kd.go, ec env' _ he, e1, e2]; exact ⟨h.1, hk⟩, fun _ S' K' hk => by simp only [Kd.go, ec env' _ he, e1, e2]; exact ⟨h.1, hk⟩⟩⟩
    · exact h.elim
  | makeSlice e w bytes z x y =>
    simp only [Kd.go] at h
    have ec : ∀ env' S', (∀ t ∈ (Kd.makeSlice e w bytes z x y).reads, env' t = s.env t) → (⟨env', S'⟩ : AS).ev x = s.ev x ∧ (⟨env', S'⟩ : AS).ev y = s.ev y := fun env' S' he =>
      ⟨ev_loc (fun t ht => he t (by simp [Kd.reads, ht])), ev_loc (fun t ht => he t (by simp [Kd.reads, ht]))⟩
    split at h
    · rename_i k m k' n e1 e2
      exact ⟨_, _, h.2.2.2.2.2, by simp [Kd.keepS], fun env' he => ⟨fun K' hk => by simp only [Kd.go, ec env' _ he, e1, e2]; exact ⟨h.1, h.2.1, h.2.2.1, h.2.2.2.1, h.2.2.2.2.1, hk⟩, by simp [Kd.pureS]⟩⟩
    · exact h.elim
  | makeFunc g caps =>
    simp only [Kd.go] at h
    split at h
    · rename_i cs e1
      exact ⟨_, s.S, h, fun _ => rfl, fun env' he => ⟨fun K' hk => by simp only [Kd.go, caps_loc he, e1]; exact hk, fun _ S' K' hk => by simp only [Kd.go, caps_loc he, e1]; exact hk⟩⟩
    · exact h.elim
  | callS f xs =>
    simp only [Kd.go] at h
    obtain ⟨r, S', hr, hK⟩ := h
    exact ⟨_, _, hK, by simp [Kd.keepS], fun env' he => ⟨fun K' hk => by simp only [Kd.go, evs_loc he]; exact ⟨r, S', hr, hk⟩, by simp [Kd.pureS]⟩⟩
  | callV f xs =>
    simp only [Kd.go] at h
    split at h
    · rename_i g caps e1
      obtain ⟨hp, r, S', hr, hK⟩ := h
      have e2 : ∀ env' S', (∀ t ∈ (Kd.callV f xs).reads, env' t = s.env t) → (⟨env', S'⟩ : AS).ev f = s.ev f ∧ (⟨env', S'⟩ : AS).evs xs = s.evs xs := fun env' S' he =>
        ⟨ev_loc (fun t ht => he t (by simp [Kd.reads, ht])), evs_loc (fun t ht => he t (by simp [Kd.reads, ht]))⟩
      exact ⟨_, _, hK, by simp [Kd.keepS], fun env' he => ⟨fun K' hk => by simp only [Kd.go, e2 env' _ he, e1]; exact ⟨hp, r, S', hr, hk⟩, by simp [Kd.pureS]⟩⟩
    · exact h.elim

/-! ### more blocks do not matter to what only reads -/
def SubS (S S' : AStore) : Prop := ∀ id b, S id = some b → S' id = some b
theorem stC_ext {S S' : AStore} (h : SubS S S') {c : AC} {x : SV} (hx : stC S c = some x) : stC S' c = some x := by
  cases c with
  | row id n =>
    simp only [stC] at hx ⊢
    cases hb : S id with
    | none => rw [hb] at hx; cases hx
    | some b => rw [hb] at hx; rw [h _ _ hb]; exact hx
  | fn f caps => cases caps <;> exact hx
  | _ => exact hx
theorem stCs_ext {S S' : AStore} (h : SubS S S') : ∀ {cs : List AC} {xs : List SV}, stCs S cs = some xs → stCs S' cs = some xs
  | [], xs, hx => hx
  | c :: cs, xs, hx => by
    simp only [stCs] at hx ⊢
    split at hx
    · rename_i x xs' h1 h2
      rw [stC_ext h h1, stCs_ext h h2]
      exact hx
    · cases hx
theorem outC_ext {S S' : AStore} (h : SubS S S') {c : AC} {x : AC} (hx : outC S c = some x) : outC S' c = some x := by
  have key : ∀ c : AC, (stC S c).map AC.st = some x → (stC S' c).map AC.st = some x := fun c hx => by
    rw [Option.map_eq_some_iff] at hx ⊢
    obtain ⟨a, h1, h2⟩ := hx
    exact ⟨a, stC_ext h h1, h2⟩
  cases c with
  | fn f caps =>
    cases caps with
    | nil => exact hx
    | cons y ys => simp only [outC] at hx ⊢; exact key _ hx
  | eptr cs => exact hx
  | _ => simp only [outC] at hx ⊢; exact key _ hx
theorem outCs_ext {S S' : AStore} (h : SubS S S') : ∀ {cs : List AC} {xs : List AC}, outCs S cs = some xs → outCs S' cs = some xs
  | [], xs, hx => hx
  | c :: cs, xs, hx => by
    simp only [outCs] at hx ⊢
    split at hx
    · rename_i x xs' h1 h2
      rw [outC_ext h h1, outCs_ext h h2]
      exact hx
    · cases hx
mutual
theorem outV_ext {S S' : AStore} (h : SubS S S') : ∀ {v x : AV}, outV S v = some x → outV S' v = some x
  | .one c, x, hx => by
    rw [outV, Option.map_eq_some_iff] at hx ⊢
    obtain ⟨a, h1, h2⟩ := hx
    exact ⟨a, outC_ext h h1, h2⟩
  | .agg cs, x, hx => by
    rw [outV, Option.map_eq_some_iff] at hx ⊢
    obtain ⟨a, h1, h2⟩ := hx
    exact ⟨a, outCs_ext h h1, h2⟩
  | .tup vs, x, hx => by
    rw [outV, Option.map_eq_some_iff] at hx ⊢
    obtain ⟨a, h1, h2⟩ := hx
    exact ⟨a, outVs_ext h h1, h2⟩
  | .any, x, hx => hx
theorem outVs_ext {S S' : AStore} (h : SubS S S') : ∀ {vs xs : List AV}, outVs S vs = some xs → outVs S' vs = some xs
  | [], xs, hx => hx
  | v :: vs, xs, hx => by
    rw [outVs] at hx ⊢
    split at hx
    · rename_i x xs' h1 h2
      rw [outV_ext h h1, outVs_ext h h2]
      exact hx
    · cases hx
end
theorem elems_ext {S' : AStore} (h : SubS s.S S') {w : Nat} (env' : Nat → AV) : ∀ {xs : List Opd} {es : List (List SV)}, (∀ t ∈ allReads xs, env' t = s.env t) → elems s w xs = some es → elems (⟨env', S'⟩ : AS) w xs = some es
  | [], es, _, hx => hx
  | x :: xs, es, he, hx => by
    simp only [elems] at hx ⊢
    rw [ev_loc (fun t ht => he t (by simp [allReads, ht]))]
    split at hx
    · rename_i c e1
      split at hx
      · rename_i c' es' e2 e3
        rw [stCs_ext h e2, elems_ext h env' (fun t ht => he t (by simp [allReads, ht])) e3]
        exact hx
      · cases hx
    · cases hx
theorem go_ext {kd : Kd} (hk : kd.keepS = true) (h : kd.go P d s K) : ∃ v, K v s ∧ ∀ S', SubS s.S S' → ∀ env' : Nat → AV, (∀ t ∈ kd.reads, env' t = s.env t) → ∀ K' : AV → AS → Prop, K' v ⟨env', S'⟩ → kd.go P d ⟨env', S'⟩ K' := by
  by_cases hp : kd.pureS = true
  · obtain ⟨v, S1, h1, h2, h3⟩ := go_loc h
    have := h2 hk
    subst this
    exact ⟨v, h1, fun S' _ env' he K' hK => (h3 env' he).2 hp S' K' hK⟩
  cases kd
  case buildSlice mu e w xs =>
    cases mu with
    | true => simp [Kd.keepS] at hk
    | false =>
      simp only [Kd.go] at h
      split at h
      · rename_i es e1
        simp only [Bool.false_eq_true, if_false] at h
        exact ⟨_, h, fun S' hs env' he K' hK => by simp only [Kd.go, elems_ext hs env' he e1, Bool.false_eq_true, if_false]; exact hK⟩
      · exact h.elim
  case load g n x =>
    simp only [Kd.go] at h
    split at h
    · rename_i cs e1
      exact ⟨_, h.2, fun S' hs env' he K' hK => by simp only [Kd.go, ev_loc he, e1]; exact ⟨h.1, hK⟩⟩
    · rename_i id m k off e1
      split at h
      · rename_i cs e2
        refine ⟨_, h.2, fun S' hs env' he K' hK => ?_⟩
        have e3 : blkCells S' id m k = some cs := by
          unfold blkCells at e2 ⊢
          cases hb : s.S id with
          | none => rw [hb] at e2; cases e2
          | some b => rw [hb] at e2; rw [hs _ _ hb]; exact e2
        simp only [Kd.go, ev_loc he, e1, e3]
        exact ⟨h.1, hK⟩
      · exact h.elim
    · exact h.elim
  case fieldAddr off x =>
    simp only [Kd.go] at h
    split at h
    · rename_i cs e1
      exact ⟨_, h, fun S' hs env' he K' hK => by simp only [Kd.go, ev_loc he, e1]; exact hK⟩
    · rename_i id m k o e1
      split at h
      · rename_i b e2
        exact ⟨_, h.2, fun S' hs env' he K' hK => by simp only [Kd.go, ev_loc he, e1, hs _ _ e2]; exact ⟨h.1, hK⟩⟩
      · exact h.elim
    · exact h.elim
  case indexArr n w x i =>
    simp only [Kd.go] at h
    have ec : ∀ env' S', (∀ t ∈ (Kd.indexArr n w x i).reads, env' t = s.env t) → (⟨env', S'⟩ : AS).ev x = s.ev x ∧ (⟨env', S'⟩ : AS).ev i = s.ev i := fun env' S' he =>
      ⟨ev_loc (fun t ht => he t (by simp [Kd.reads, ht])), ev_loc (fun t ht => he t (by simp [Kd.reads, ht]))⟩
    split at h
    · rename_i cs kk k e1 e2
      exact ⟨_, h.2, fun S' hs env' he K' hK => by simp only [Kd.go, ec env' _ he, e1, e2]; exact ⟨h.1, hK⟩⟩
    · rename_i id m b o kk k e1 e2
      split at h
      · rename_i bl e3
        exact ⟨_, h.2.2, fun S' hs env' he K' hK => by simp only [Kd.go, ec env' _ he, e1, e2, hs _ _ e3]; exact ⟨h.1, h.2.1, hK⟩⟩
      · exact h.elim
    · exact h.elim
  case indexAddr w x i =>
    simp only [Kd.go] at h
    have ec : ∀ env' S', (∀ t ∈ (Kd.indexAddr w x i).reads, env' t = s.env t) → (⟨env', S'⟩ : AS).ev x = s.ev x ∧ (⟨env', S'⟩ : AS).ev i = s.ev i := fun env' S' he =>
      ⟨ev_loc (fun t ht => he t (by simp [Kd.reads, ht])), ev_loc (fun t ht => he t (by simp [Kd.reads, ht]))⟩
    split at h
    · rename_i c kk n e1 e2
      split at h
      · rename_i xs
        unfold idxK at h
        obtain ⟨h0, h⟩ := h
        split at h
        · rename_i x1 hx1
          exact ⟨_, h.2, fun S' hs env' he K' hK => by simp only [Kd.go, ec env' _ he, e1, e2, idxK, hx1]; exact ⟨h0, h.1, hK⟩⟩
        · exact h.elim
      · rename_i xs
        unfold idxK at h
        obtain ⟨h0, h⟩ := h
        split at h
        · rename_i x1 hx1
          exact ⟨_, h.2, fun S' hs env' he K' hK => by simp only [Kd.go, ec env' _ he, e1, e2, idxK, hx1]; exact ⟨h0, h.1, hK⟩⟩
        · exact h.elim
      · rename_i id m
        split at h
        · rename_i e' w' xs hS
          obtain ⟨hm, hw, h⟩ := h
          unfold idxK at h
          obtain ⟨h0, h⟩ := h
          split at h
          · rename_i x1 hx1
            exact ⟨_, h, fun S' hs env' he K' hK => by simp only [Kd.go, ec env' _ he, e1, e2, hs _ _ hS, idxK, hx1]; exact ⟨hm, hw, h0, hK⟩⟩
          · exact h.elim
        · rename_i e' w' xs hS
          exact ⟨_, h.2.2.2.2, fun S' hs env' he K' hK => by simp only [Kd.go, ec env' _ he, e1, e2, hs _ _ hS]; exact ⟨h.1, h.2.1, h.2.2.1, h.2.2.2.1, hK⟩⟩
        · exact h.elim
      · exact h.elim
    · exact h.elim
  case sliceL w x lo hi =>
    simp only [Kd.go] at h
    have ec : ∀ env' S', (∀ t ∈ (Kd.sliceL w x lo hi).reads, env' t = s.env t) → (⟨env', S'⟩ : AS).ev x = s.ev x ∧ (∀ n, optI (⟨env', S'⟩ : AS) n lo = optI s n lo) ∧ (∀ n, optI (⟨env', S'⟩ : AS) n hi = optI s n hi) := fun env' S' he =>
      ⟨ev_loc (fun t ht => he t (by simp [Kd.reads, ht])), fun n => optI_loc (fun t ht => he t (by simp [Kd.reads, ht])), fun n => optI_loc (fun t ht => he t (by simp [Kd.reads, ht]))⟩
    split at h
    · rename_i c e1
      split at h
      · rename_i xs e0
        split at h
        · rename_i l hh e2 e3
          exact ⟨_, h.2.2, fun S' hs env' he K' hK => by simp only [Kd.go, ec env' _ he, e1, stC_ext hs e0, e2, e3]; exact ⟨h.1, h.2.1, hK⟩⟩
        · exact h.elim
      · exact h.elim
    · exact h.elim
  case len str x =>
    simp only [Kd.go] at h
    split at h
    · rename_i c e1
      split at h
      · rename_i n e2
        refine ⟨_, h, fun S' hs env' he K' hK => ?_⟩
        have e3 : lenOfA S' str c = some n := by
          unfold lenOfA at e2 ⊢
          split at e2 <;> try exact e2
          rename_i id m
          cases hb : s.S id with
          | none => rw [hb] at e2; cases e2
          | some b => rw [hb] at e2; simp only [hs _ _ hb]; exact e2
        simp only [Kd.go, ev_loc he, e1, e3]
        exact hK
      · exact h.elim
    · exact h.elim
  case call f xs =>
    simp only [Kd.go] at h
    split at h
    · rename_i vs e1
      obtain ⟨r, hr, hK⟩ := h
      exact ⟨_, hK, fun S' hs env' he K' hK' => by simp only [Kd.go, evs_loc he, outVs_ext hs e1]; exact ⟨r, hr, hK'⟩⟩
    · exact h.elim
  case nilCheck x =>
    simp only [Kd.go] at h
    split at h
    · rename_i cs e1
      exact ⟨_, h, fun S' hs env' he K' hK => by simp only [Kd.go, ev_loc he, e1]; exact hK⟩
    · rename_i id m k o e1
      split at h
      · rename_i b e2
        exact ⟨_, h.2, fun S' hs env' he K' hK => by simp only [Kd.go, ev_loc he, e1, hs _ _ e2]; exact ⟨h.1, hK⟩⟩
      · exact h.elim
    · exact h.elim
  all_goals first | exact absurd rfl hp | cases hk
/-- It makes a block, and turns none that is there. -/
def Kd.freshS : Kd → Bool
  | .alloc _ _ | .box _ _ | .buildSlice true _ _ _ | .makeSlice _ _ _ _ _ _ => true
  | _ => false
theorem subS_set {S : AStore} {d : Nat} {b : ABlk} (h : S d = none) : SubS S (updE S d (some b)) := fun id b' hb => by
  rw [updE_ne _ (fun e => by subst e; rw [h] at hb; cases hb), hb]
theorem go_fresh {kd : Kd} (hf : kd.freshS = true) (h : kd.go P d s K) : kd.go P d s fun v s' => K v s' ∧ SubS s.S s'.S := by
  cases kd
  case alloc e z => exact ⟨h.1, h.2, subS_set h.1⟩
  case box e x =>
    simp only [Kd.go] at h ⊢
    split at h
    · rename_i cs e1
      exact ⟨h.1, h.2, subS_set h.1⟩
    · exact h.elim
  case buildSlice mu e w xs =>
    cases mu with
    | false => cases hf
    | true =>
      simp only [Kd.go, if_true] at h ⊢
      split at h
      · rename_i es e1
        exact ⟨h.1, h.2, subS_set h.1⟩
      · exact h.elim
  case makeSlice e w bytes z x y =>
    simp only [Kd.go] at h ⊢
    split at h
    · exact ⟨h.1, h.2.1, h.2.2.1, h.2.2.2.1, h.2.2.2.2.1, h.2.2.2.2.2, subS_set h.2.2.2.2.1⟩
    · exact h.elim
  all_goals cases hf
end
end Go.Proofs.YtbiadmlfejnbcaaGreatDoor
