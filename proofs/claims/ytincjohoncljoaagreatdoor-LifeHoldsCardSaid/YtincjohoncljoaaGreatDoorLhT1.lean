/-
  Own work: contracts of functions that the statement reaches, and plain facts on what they compute; each theorem says its conditions.
-/
import Derived.Test.YtincjohoncljoaaGreatDoorRows
import Derived.Test.YtincjohoncljoaaGreatDoorLhS1
import Derived.Test.YtincjohoncljoaaGreatDoorLhS2
import Derived.IntWalk
import Derived.Lib.TrailingZeros
import Derived.ChangeKeysEq
import Derived.Test.YtincjohoncljoaaGreatDoorLhA
set_option linter.all false
set_option linter.unusedSimpArgs false
set_option linter.unusedVariables false
set_option maxHeartbeats 16000000
namespace Go.Proofs.YtincjohoncljoaaGreatDoor
open Go Go.Sl
set_option maxRecDepth 100000
variable {b m s i j n a sb rb mb cl:Nat} {k r f top:Int} {α:Type} {l:List Int} {p:Int × Int} {w0:World} {H:qe}
theorem ty3:Ty Tryz.prog 3 (.int .i64) 1 (zi 0) 8:=⟨by kernel_rfl,Tryz.t3,by kernel_rfl,rfl,rfl,rfl⟩
theorem ty4:Ty Tryz.prog 4 Go.TypeDesc.bool 1 (.bool false) 1:=⟨by kernel_rfl,Tryz.t4,by kernel_rfl,rfl,rfl,rfl⟩
theorem ty5:Ty Tryz.prog 5 (.int .u8) 1 (.int .u8 0) 1:=⟨by kernel_rfl,Tryz.t5,by kernel_rfl,rfl,rfl,rfl⟩
theorem ty22:Ty Tryz.prog 22 (.slice 32) 1 (.slice none 0 0) 24:=⟨by kernel_rfl,Tryz.t22,by kernel_rfl,rfl,rfl,rfl⟩
theorem Ke:Ty Tryz.prog 23 (.pointer 134) 1 (.pointer none) 8:=⟨by kernel_rfl,Tryz.t23,by kernel_rfl,rfl,rfl,rfl⟩
theorem Q3:Ty Tryz.prog 26 (.array 64 3) 64 (.agg #[(zi 0),(zi 0),(zi 0),(zi 0),(zi 0),(zi 0),(zi 0),(zi 0),(zi 0),(zi 0),(zi 0),(zi 0),(zi 0),(zi 0),(zi 0),(zi 0),(zi 0),(zi 0),(zi 0),(zi 0),(zi 0),(zi 0),(zi 0),(zi 0),(zi 0),(zi 0),(zi 0),(zi 0),(zi 0),(zi 0),(zi 0),(zi 0),(zi 0),(zi 0),(zi 0),(zi 0),(zi 0),(zi 0),(zi 0),(zi 0),(zi 0),(zi 0),(zi 0),(zi 0),(zi 0),(zi 0),(zi 0),(zi 0),(zi 0),(zi 0),(zi 0),(zi 0),(zi 0),(zi 0),(zi 0),(zi 0),(zi 0),(zi 0),(zi 0),(zi 0),(zi 0),(zi 0),(zi 0),(zi 0)]) 512:=⟨by kernel_rfl,Tryz.t26,by kernel_rfl,rfl,rfl,rfl⟩
theorem Zj:Ty Tryz.prog 27 (.array 2 26) 128 ((Tryz.t27.zero).getD undef) 1024:=⟨by kernel_rfl,Tryz.t27,by kernel_rfl,rfl,rfl,rfl⟩
theorem Kc:Ty Tryz.prog 28 (.array 64 27) 8192 ((Tryz.t28.zero).getD undef) 65536:=⟨by kernel_rfl,Tryz.t28,by kernel_rfl,rfl,rfl,rfl⟩
theorem qgH:Ty Tryz.prog 29 (.array 64 4) 64 (.agg #[(.bool false),(.bool false),(.bool false),(.bool false),(.bool false),(.bool false),(.bool false),(.bool false),(.bool false),(.bool false),(.bool false),(.bool false),(.bool false),(.bool false),(.bool false),(.bool false),(.bool false),(.bool false),(.bool false),(.bool false),(.bool false),(.bool false),(.bool false),(.bool false),(.bool false),(.bool false),(.bool false),(.bool false),(.bool false),(.bool false),(.bool false),(.bool false),(.bool false),(.bool false),(.bool false),(.bool false),(.bool false),(.bool false),(.bool false),(.bool false),(.bool false),(.bool false),(.bool false),(.bool false),(.bool false),(.bool false),(.bool false),(.bool false),(.bool false),(.bool false),(.bool false),(.bool false),(.bool false),(.bool false),(.bool false),(.bool false),(.bool false),(.bool false),(.bool false),(.bool false),(.bool false),(.bool false),(.bool false),(.bool false)]) 64:=⟨by kernel_rfl,Tryz.t29,by kernel_rfl,rfl,rfl,rfl⟩
theorem zX:Ty Tryz.prog 30 (.int .u64) 1 (zu 0) 8:=⟨by kernel_rfl,Tryz.t30,by kernel_rfl,rfl,rfl,rfl⟩
theorem qgF:Ty Tryz.prog 32 Tryz.t31.desc 7 (.agg #[(zi 0),(zi 0),(zi 0),(zi 0),(zi 0),(zu 0),(zu 0)]) 56:=⟨by kernel_rfl,Tryz.t32,by kernel_rfl,rfl,rfl,rfl⟩
theorem XC:Ty Tryz.prog 33 (.pointer 224) 1 (.pointer none) 8:=⟨by kernel_rfl,Tryz.t33,by kernel_rfl,rfl,rfl,rfl⟩
theorem qO:Ty Tryz.prog 40 Tryz.t39.desc 2 (.agg #[(zi 0),(zi 0)]) 16:=⟨by kernel_rfl,Tryz.t40,by kernel_rfl,rfl,rfl,rfl⟩
theorem Ka:Ty Tryz.prog 47 (.slice 50) 1 (.slice none 0 0) 24:=⟨by kernel_rfl,Tryz.t47,by kernel_rfl,rfl,rfl,rfl⟩
theorem Y4:Ty Tryz.prog 50 Tryz.t49.desc 4 (.agg #[(zi 0),(zi 0),(zi 0),(.bool false)]) 32:=⟨by kernel_rfl,Tryz.t50,by kernel_rfl,rfl,rfl,rfl⟩
theorem Y3:Ty Tryz.prog 55 (.pointer 170) 1 (.pointer none) 8:=⟨by kernel_rfl,Tryz.t55,by kernel_rfl,rfl,rfl,rfl⟩
theorem qZ:Ty Tryz.prog 63 (.slice 3) 1 (.slice none 0 0) 24:=⟨by kernel_rfl,Tryz.t63,by kernel_rfl,rfl,rfl,rfl⟩
theorem Ya:Ty Tryz.prog 65 (.pointer 217) 1 (.pointer none) 8:=⟨by kernel_rfl,Tryz.t65,by kernel_rfl,rfl,rfl,rfl⟩
theorem Yp:Ty Tryz.prog 67 (.pointer 179) 1 (.pointer none) 8:=⟨by kernel_rfl,Tryz.t67,by kernel_rfl,rfl,rfl,rfl⟩
theorem qj4:Ty Tryz.prog 71 Tryz.t70.desc 4 (.agg #[(zi 0),(zi 0),(zu 0),(zu 0)]) 32:=⟨by kernel_rfl,Tryz.t71,by kernel_rfl,rfl,rfl,rfl⟩
theorem Zq:Ty Tryz.prog 84 (.slice 30) 1 (.slice none 0 0) 24:=⟨by kernel_rfl,Tryz.t84,by kernel_rfl,rfl,rfl,rfl⟩
theorem Yy:Ty Tryz.prog 129 Tryz.t128.desc 2 (.agg #[(.pointer none),(.bool false)]) 16:=⟨by kernel_rfl,Tryz.t129,by kernel_rfl,rfl,rfl,rfl⟩
theorem qaS:Ty Tryz.prog 130 (.array 4 129) 8 (.agg #[(.pointer none),(.bool false),(.pointer none),(.bool false),(.pointer none),(.bool false),(.pointer none),(.bool false)]) 64:=⟨by kernel_rfl,Tryz.t130,by kernel_rfl,rfl,rfl,rfl⟩
theorem qai:Ty Tryz.prog 131 (.pointer 304) 1 (.pointer none) 8:=⟨by kernel_rfl,Tryz.t131,by kernel_rfl,rfl,rfl,rfl⟩
theorem JC:Ty Tryz.prog 132 (.map 3 40) 1 (.map none) 8:=⟨by kernel_rfl,Tryz.t132,by kernel_rfl,rfl,rfl,rfl⟩
theorem ty134:Ty Tryz.prog 134 Tryz.t133.desc 15 (.agg #[(zi 0),(.pointer none),(.bool false),(.pointer none),(.bool false),(.pointer none),(.bool false),(.pointer none),(.bool false),(.pointer none),(.pointer none),(.pointer none),(.pointer none),(.pointer none),(.map none)]) 120:=⟨by kernel_rfl,Tryz.t134,by kernel_rfl,rfl,rfl,rfl⟩
theorem Yh:Ty Tryz.prog 135 (.pointer 250) 1 (.pointer none) 8:=⟨by kernel_rfl,Tryz.t135,by kernel_rfl,rfl,rfl,rfl⟩
theorem Q4:Ty Tryz.prog 139 Tryz.t138.desc 5 (.agg #[(zi 0),(zi 0),(zi 0),(zi 0),(.bool false)]) 40:=⟨by kernel_rfl,Tryz.t139,by kernel_rfl,rfl,rfl,rfl⟩
theorem Jh:Ty Tryz.prog 153 Tryz.t152.desc 4 (.agg #[(.bool false),(.bool false),(zi 0),(zi 0)]) 24:=⟨by kernel_rfl,Tryz.t153,by kernel_rfl,rfl,rfl,rfl⟩
theorem ty154:Ty Tryz.prog 154 Tryz.t154.desc 1 Go.Value.nilFunc 8:=⟨by kernel_rfl,Tryz.t154,by kernel_rfl,rfl,rfl,rfl⟩
theorem qlY:Ty Tryz.prog 158 (.slice 129) 1 (.slice none 0 0) 24:=⟨by kernel_rfl,Tryz.t158,by kernel_rfl,rfl,rfl,rfl⟩
theorem qgL:Ty Tryz.prog 160 (.slice 40) 1 (.slice none 0 0) 24:=⟨by kernel_rfl,Tryz.t160,by kernel_rfl,rfl,rfl,rfl⟩
theorem Yx:Ty Tryz.prog 166 (.pointer 294) 1 (.pointer none) 8:=⟨by kernel_rfl,Tryz.t166,by kernel_rfl,rfl,rfl,rfl⟩
theorem qcV:Ty Tryz.prog 167 (.pointer 275) 1 (.pointer none) 8:=⟨by kernel_rfl,Tryz.t167,by kernel_rfl,rfl,rfl,rfl⟩
theorem qlX:Ty Tryz.prog 168 (.array 256 153) 1024 ((Tryz.t168.zero).getD undef) 6144:=⟨by kernel_rfl,Tryz.t168,by kernel_rfl,rfl,rfl,rfl⟩
theorem ty170:Ty Tryz.prog 170 Tryz.t169.desc 1026 ((Tryz.t170.zero).getD undef) 6160:=⟨by kernel_rfl,Tryz.t170,by kernel_rfl,rfl,rfl,rfl⟩
theorem qlW:Ty Tryz.prog 172 Tryz.t172.desc 1 Go.Value.nilFunc 8:=⟨by kernel_rfl,Tryz.t172,by kernel_rfl,rfl,rfl,rfl⟩
theorem Jg:Ty Tryz.prog 176 Tryz.t175.desc 2 (.agg #[(.bool false),(zi 0)]) 16:=⟨by kernel_rfl,Tryz.t176,by kernel_rfl,rfl,rfl,rfl⟩
theorem qlV:Ty Tryz.prog 177 (.array 256 176) 512 ((Tryz.t177.zero).getD undef) 4096:=⟨by kernel_rfl,Tryz.t177,by kernel_rfl,rfl,rfl,rfl⟩
theorem ty179:Ty Tryz.prog 179 Tryz.t178.desc 546 ((Tryz.t179.zero).getD undef) 4368:=⟨by kernel_rfl,Tryz.t179,by kernel_rfl,rfl,rfl,rfl⟩
theorem Z6:Ty Tryz.prog 213 (.pointer 345) 1 (.pointer none) 8:=⟨by kernel_rfl,Tryz.t213,by kernel_rfl,rfl,rfl,rfl⟩
theorem Yg:Ty Tryz.prog 214 (.pointer 348) 1 (.pointer none) 8:=⟨by kernel_rfl,Tryz.t214,by kernel_rfl,rfl,rfl,rfl⟩
theorem Yf:Ty Tryz.prog 215 (.pointer 372) 1 (.pointer none) 8:=⟨by kernel_rfl,Tryz.t215,by kernel_rfl,rfl,rfl,rfl⟩
theorem ty217:Ty Tryz.prog 217 Tryz.t216.desc 7 (.agg #[(zi 0),(zi 0),(zi 0),(.pointer none),(.pointer none),(.pointer none),(.bool false)]) 56:=⟨by kernel_rfl,Tryz.t217,by kernel_rfl,rfl,rfl,rfl⟩
theorem qlU:Ty Tryz.prog 218 (.array 4 30) 4 (.agg #[(zu 0),(zu 0),(zu 0),(zu 0)]) 32:=⟨by kernel_rfl,Tryz.t218,by kernel_rfl,rfl,rfl,rfl⟩
theorem Ql:Ty Tryz.prog 220 Tryz.t219.desc 5 (.agg #[(zu 0),(zu 0),(zu 0),(zu 0),(zu 0)]) 40:=⟨by kernel_rfl,Tryz.t220,by kernel_rfl,rfl,rfl,rfl⟩
theorem Yw:Ty Tryz.prog 221 (.pointer 387) 1 (.pointer none) 8:=⟨by kernel_rfl,Tryz.t221,by kernel_rfl,rfl,rfl,rfl⟩
theorem Z5:Ty Tryz.prog 222 (.pointer 485) 1 (.pointer none) 8:=⟨by kernel_rfl,Tryz.t222,by kernel_rfl,rfl,rfl,rfl⟩
theorem ty224:Ty Tryz.prog 224 Tryz.t223.desc 6 (.agg #[(.pointer none),(.pointer none),(.pointer none),(zi 0),(zi 0),(zi 0)]) 48:=⟨by kernel_rfl,Tryz.t224,by kernel_rfl,rfl,rfl,rfl⟩
theorem qah:Ty Tryz.prog 246 Tryz.t245.desc 2 (.agg #[(zi 0),(zi 0)]) 16:=⟨by kernel_rfl,Tryz.t246,by kernel_rfl,rfl,rfl,rfl⟩
theorem z5:Ty Tryz.prog 247 (.int .u64) 1 (zu 0) 8:=⟨by kernel_rfl,Tryz.t247,by kernel_rfl,rfl,rfl,rfl⟩
theorem qlT:Ty Tryz.prog 248 (.array 64 246) 128 ((Tryz.t248.zero).getD undef) 1024:=⟨by kernel_rfl,Tryz.t248,by kernel_rfl,rfl,rfl,rfl⟩
theorem ty250:Ty Tryz.prog 250 Tryz.t249.desc 130 ((Tryz.t250.zero).getD undef) 1040:=⟨by kernel_rfl,Tryz.t250,by kernel_rfl,rfl,rfl,rfl⟩
theorem qgK:Ty Tryz.prog 261 Tryz.t261.desc 1 Go.Value.nilFunc 8:=⟨by kernel_rfl,Tryz.t261,by kernel_rfl,rfl,rfl,rfl⟩
theorem qgJ:Ty Tryz.prog 262 (.array 2 261) 2 (.agg #[Go.Value.nilFunc,Go.Value.nilFunc]) 16:=⟨by kernel_rfl,Tryz.t262,by kernel_rfl,rfl,rfl,rfl⟩
theorem qgI:Ty Tryz.prog 264 (.pointer 398) 1 (.pointer none) 8:=⟨by kernel_rfl,Tryz.t264,by kernel_rfl,rfl,rfl,rfl⟩
theorem Kd:Ty Tryz.prog 273 (.slice 276) 1 (.slice none 0 0) 24:=⟨by kernel_rfl,Tryz.t273,by kernel_rfl,rfl,rfl,rfl⟩
theorem ty275:Ty Tryz.prog 275 Tryz.t274.desc 1 (.agg #[(.slice none 0 0)]) 24:=⟨by kernel_rfl,Tryz.t275,by kernel_rfl,rfl,rfl,rfl⟩
theorem qcU:Ty Tryz.prog 276 (.pointer 406) 1 (.pointer none) 8:=⟨by kernel_rfl,Tryz.t276,by kernel_rfl,rfl,rfl,rfl⟩
theorem Xb:Ty Tryz.prog 281 (.pointer 412) 1 (.pointer none) 8:=⟨by kernel_rfl,Tryz.t281,by kernel_rfl,rfl,rfl,rfl⟩
theorem ty285:Ty Tryz.prog 285 Tryz.t285.desc 1 Go.Value.nilFunc 8:=⟨by kernel_rfl,Tryz.t285,by kernel_rfl,rfl,rfl,rfl⟩
theorem Xa:Ty Tryz.prog 291 (.slice 281) 1 (.slice none 0 0) 24:=⟨by kernel_rfl,Tryz.t291,by kernel_rfl,rfl,rfl,rfl⟩
theorem qgG:Ty Tryz.prog 292 (.array 256 3) 256 ((Tryz.t292.zero).getD undef) 2048:=⟨by kernel_rfl,Tryz.t292,by kernel_rfl,rfl,rfl,rfl⟩
theorem ty294:Ty Tryz.prog 294 Tryz.t293.desc 289 ((Tryz.t294.zero).getD undef) 2328:=⟨by kernel_rfl,Tryz.t294,by kernel_rfl,rfl,rfl,rfl⟩
theorem qcT:Ty Tryz.prog 302 (.map 3 264) 1 (.map none) 8:=⟨by kernel_rfl,Tryz.t302,by kernel_rfl,rfl,rfl,rfl⟩
theorem ty304:Ty Tryz.prog 304 Tryz.t303.desc 2 (.agg #[(zi 0),(.map none)]) 16:=⟨by kernel_rfl,Tryz.t304,by kernel_rfl,rfl,rfl,rfl⟩
theorem Q2:Ty Tryz.prog 343 (.slice 377) 1 (.slice none 0 0) 24:=⟨by kernel_rfl,Tryz.t343,by kernel_rfl,rfl,rfl,rfl⟩
theorem qlS:Ty Tryz.prog 345 Tryz.t344.desc 3 (.agg #[(.slice none 0 0),(zu 0),(zu 0)]) 40:=⟨by kernel_rfl,Tryz.t345,by kernel_rfl,rfl,rfl,rfl⟩
theorem Z4:Ty Tryz.prog 346 (.slice 482) 1 (.slice none 0 0) 24:=⟨by kernel_rfl,Tryz.t346,by kernel_rfl,rfl,rfl,rfl⟩
theorem ty348:Ty Tryz.prog 348 Tryz.t347.desc 3 (.agg #[(.slice none 0 0),(zi 0),(zi 0)]) 40:=⟨by kernel_rfl,Tryz.t348,by kernel_rfl,rfl,rfl,rfl⟩
theorem QA:Ty Tryz.prog 349 (.slice 391) 1 (.slice none 0 0) 24:=⟨by kernel_rfl,Tryz.t349,by kernel_rfl,rfl,rfl,rfl⟩
theorem qlR:Ty Tryz.prog 357 (.int .u64) 1 (zu 0) 8:=⟨by kernel_rfl,Tryz.t357,by kernel_rfl,rfl,rfl,rfl⟩
theorem Jf:Ty Tryz.prog 370 (.map 30 3) 1 (.map none) 8:=⟨by kernel_rfl,Tryz.t370,by kernel_rfl,rfl,rfl,rfl⟩
theorem ty372:Ty Tryz.prog 372 Tryz.t371.desc 3 (.agg #[(zi 0),(zi 0),(.map none)]) 24:=⟨by kernel_rfl,Tryz.t372,by kernel_rfl,rfl,rfl,rfl⟩
theorem qag:Ty Tryz.prog 377 Tryz.t376.desc 7 (.agg #[(zi 0),(zi 0),(zu 0),(zu 0),(zu 0),(zu 0),(zu 0)]) 56:=⟨by kernel_rfl,Tryz.t377,by kernel_rfl,rfl,rfl,rfl⟩
theorem ZB:Ty Tryz.prog 385 (.slice 388) 1 (.slice none 0 0) 24:=⟨by kernel_rfl,Tryz.t385,by kernel_rfl,rfl,rfl,rfl⟩
theorem ty387:Ty Tryz.prog 387 Tryz.t386.desc 2 (.agg #[(.slice none 0 0),(zi 0)]) 32:=⟨by kernel_rfl,Tryz.t387,by kernel_rfl,rfl,rfl,rfl⟩
theorem ZQ:Ty Tryz.prog 388 (.pointer 493) 1 (.pointer none) 8:=⟨by kernel_rfl,Tryz.t388,by kernel_rfl,rfl,rfl,rfl⟩
theorem q9:Ty Tryz.prog 391 Tryz.t390.desc 2 (.agg #[(zi 0),(zi 0)]) 16:=⟨by kernel_rfl,Tryz.t391,by kernel_rfl,rfl,rfl,rfl⟩
theorem ty396:Ty Tryz.prog 396 Tryz.t395.desc 2 (.agg #[(zi 0),(zi 0)]) 16:=⟨by kernel_rfl,Tryz.t396,by kernel_rfl,rfl,rfl,rfl⟩
theorem qeO:Ty Tryz.prog 401 (.array 64 63) 64 (.agg #[(.slice none 0 0),(.slice none 0 0),(.slice none 0 0),(.slice none 0 0),(.slice none 0 0),(.slice none 0 0),(.slice none 0 0),(.slice none 0 0),(.slice none 0 0),(.slice none 0 0),(.slice none 0 0),(.slice none 0 0),(.slice none 0 0),(.slice none 0 0),(.slice none 0 0),(.slice none 0 0),(.slice none 0 0),(.slice none 0 0),(.slice none 0 0),(.slice none 0 0),(.slice none 0 0),(.slice none 0 0),(.slice none 0 0),(.slice none 0 0),(.slice none 0 0),(.slice none 0 0),(.slice none 0 0),(.slice none 0 0),(.slice none 0 0),(.slice none 0 0),(.slice none 0 0),(.slice none 0 0),(.slice none 0 0),(.slice none 0 0),(.slice none 0 0),(.slice none 0 0),(.slice none 0 0),(.slice none 0 0),(.slice none 0 0),(.slice none 0 0),(.slice none 0 0),(.slice none 0 0),(.slice none 0 0),(.slice none 0 0),(.slice none 0 0),(.slice none 0 0),(.slice none 0 0),(.slice none 0 0),(.slice none 0 0),(.slice none 0 0),(.slice none 0 0),(.slice none 0 0),(.slice none 0 0),(.slice none 0 0),(.slice none 0 0),(.slice none 0 0),(.slice none 0 0),(.slice none 0 0),(.slice none 0 0),(.slice none 0 0),(.slice none 0 0),(.slice none 0 0),(.slice none 0 0),(.slice none 0 0)]) 1536:=⟨by kernel_rfl,Tryz.t401,by kernel_rfl,rfl,rfl,rfl⟩
theorem qgE:Ty Tryz.prog 402 (.array 8 401) 512 ((Tryz.t402.zero).getD undef) 12288:=⟨by kernel_rfl,Tryz.t402,by kernel_rfl,rfl,rfl,rfl⟩
theorem qgD:Ty Tryz.prog 403 (.array 8 247) 8 (.agg #[(zu 0),(zu 0),(zu 0),(zu 0),(zu 0),(zu 0),(zu 0),(zu 0)]) 64:=⟨by kernel_rfl,Tryz.t403,by kernel_rfl,rfl,rfl,rfl⟩
theorem Kb:Ty Tryz.prog 404 (.map 3 408) 1 (.map none) 8:=⟨by kernel_rfl,Tryz.t404,by kernel_rfl,rfl,rfl,rfl⟩
theorem ty406:Ty Tryz.prog 406 Tryz.t405.desc 523 ((Tryz.t406.zero).getD undef) 12376:=⟨by kernel_rfl,Tryz.t406,by kernel_rfl,rfl,rfl,rfl⟩
theorem qcS:Ty Tryz.prog 408 Tryz.t407.desc 5 (.agg #[(zi 0),(zi 0),(zu 0),(zu 0),(zi 0)]) 40:=⟨by kernel_rfl,Tryz.t408,by kernel_rfl,rfl,rfl,rfl⟩
theorem ty412:Ty Tryz.prog 412 Tryz.t411.desc 3 (.agg #[(.slice none 0 0),(zi 0),(zi 0)]) 40:=⟨by kernel_rfl,Tryz.t412,by kernel_rfl,rfl,rfl,rfl⟩
theorem Ye:Ty Tryz.prog 466 Tryz.t465.desc 3 (.agg #[(zu 0),(zi 0),(zi 0)]) 24:=⟨by kernel_rfl,Tryz.t466,by kernel_rfl,rfl,rfl,rfl⟩
theorem QN:Ty Tryz.prog 482 (.slice 466) 1 (.slice none 0 0) 24:=⟨by kernel_rfl,Tryz.t482,by kernel_rfl,rfl,rfl,rfl⟩
theorem ty485:Ty Tryz.prog 485 Tryz.t484.desc 4 (.agg #[(.pointer none),(zu 0),(zi 0),(zi 0)]) 32:=⟨by kernel_rfl,Tryz.t485,by kernel_rfl,rfl,rfl,rfl⟩
theorem ty493:Ty Tryz.prog 493 Tryz.t492.desc 3 (.agg #[(.slice none 0 0),(zi 0),(zi 0)]) 40:=⟨by kernel_rfl,Tryz.t493,by kernel_rfl,rfl,rfl,rfl⟩
theorem ty590:Ty Tryz.prog 590 (.array 64 5) 64 (.agg #[(.int .u8 0),(.int .u8 0),(.int .u8 0),(.int .u8 0),(.int .u8 0),(.int .u8 0),(.int .u8 0),(.int .u8 0),(.int .u8 0),(.int .u8 0),(.int .u8 0),(.int .u8 0),(.int .u8 0),(.int .u8 0),(.int .u8 0),(.int .u8 0),(.int .u8 0),(.int .u8 0),(.int .u8 0),(.int .u8 0),(.int .u8 0),(.int .u8 0),(.int .u8 0),(.int .u8 0),(.int .u8 0),(.int .u8 0),(.int .u8 0),(.int .u8 0),(.int .u8 0),(.int .u8 0),(.int .u8 0),(.int .u8 0),(.int .u8 0),(.int .u8 0),(.int .u8 0),(.int .u8 0),(.int .u8 0),(.int .u8 0),(.int .u8 0),(.int .u8 0),(.int .u8 0),(.int .u8 0),(.int .u8 0),(.int .u8 0),(.int .u8 0),(.int .u8 0),(.int .u8 0),(.int .u8 0),(.int .u8 0),(.int .u8 0),(.int .u8 0),(.int .u8 0),(.int .u8 0),(.int .u8 0),(.int .u8 0),(.int .u8 0),(.int .u8 0),(.int .u8 0),(.int .u8 0),(.int .u8 0),(.int .u8 0),(.int .u8 0),(.int .u8 0),(.int .u8 0)]) 64:=⟨by kernel_rfl,Tryz.t590,by kernel_rfl,rfl,rfl,rfl⟩
theorem qk6:Fld Tryz.prog 32 0 0 1 false:=⟨_,_,(by kernel_rfl:Tryz.prog.underlying 32=some Tryz.t31.desc),rfl,rfl,_,_,_,ty3,rfl⟩
theorem qk5:Fld Tryz.prog 32 3 3 1 false:=⟨_,_,(by kernel_rfl:Tryz.prog.underlying 32=some Tryz.t31.desc),rfl,rfl,_,_,_,ty3,rfl⟩
theorem qk4:Fld Tryz.prog 32 4 4 1 false:=⟨_,_,(by kernel_rfl:Tryz.prog.underlying 32=some Tryz.t31.desc),rfl,rfl,_,_,_,ty3,rfl⟩
theorem qk3:Fld Tryz.prog 32 5 5 1 false:=⟨_,_,(by kernel_rfl:Tryz.prog.underlying 32=some Tryz.t31.desc),rfl,rfl,_,_,_,zX,rfl⟩
theorem qk2:Fld Tryz.prog 32 6 6 1 false:=⟨_,_,(by kernel_rfl:Tryz.prog.underlying 32=some Tryz.t31.desc),rfl,rfl,_,_,_,zX,rfl⟩
theorem qcz:Fld Tryz.prog 40 0 0 1 false:=⟨_,_,(by kernel_rfl:Tryz.prog.underlying 40=some Tryz.t39.desc),rfl,rfl,_,_,_,ty3,rfl⟩
theorem qk1:Fld Tryz.prog 40 1 1 1 false:=⟨_,_,(by kernel_rfl:Tryz.prog.underlying 40=some Tryz.t39.desc),rfl,rfl,_,_,_,ty3,rfl⟩
theorem qk0:Fld Tryz.prog 50 1 1 1 false:=⟨_,_,(by kernel_rfl:Tryz.prog.underlying 50=some Tryz.t49.desc),rfl,rfl,_,_,_,ty3,rfl⟩
theorem qkZ:Fld Tryz.prog 50 3 3 1 false:=⟨_,_,(by kernel_rfl:Tryz.prog.underlying 50=some Tryz.t49.desc),rfl,rfl,_,_,_,ty4,rfl⟩
theorem qaG:Fld Tryz.prog 71 0 0 1 false:=⟨_,_,(by kernel_rfl:Tryz.prog.underlying 71=some Tryz.t70.desc),rfl,rfl,_,_,_,ty3,rfl⟩
theorem qcy:Fld Tryz.prog 71 1 1 1 false:=⟨_,_,(by kernel_rfl:Tryz.prog.underlying 71=some Tryz.t70.desc),rfl,rfl,_,_,_,ty3,rfl⟩
theorem qi0:Fld Tryz.prog 129 0 0 1 false:=⟨_,_,(by kernel_rfl:Tryz.prog.underlying 129=some Tryz.t128.desc),rfl,rfl,_,_,_,Ya,rfl⟩
theorem qiZ:Fld Tryz.prog 129 1 1 1 false:=⟨_,_,(by kernel_rfl:Tryz.prog.underlying 129=some Tryz.t128.desc),rfl,rfl,_,_,_,ty4,rfl⟩
theorem qiY:Fld Tryz.prog 134 0 0 1 false:=⟨_,_,(by kernel_rfl:Tryz.prog.underlying 134=some Tryz.t133.desc),rfl,rfl,_,_,_,ty3,rfl⟩
theorem qiX:Fld Tryz.prog 134 1 1 8 true:=⟨_,_,(by kernel_rfl:Tryz.prog.underlying 134=some Tryz.t133.desc),rfl,rfl,_,_,_,qaS,rfl⟩
theorem qiW:Fld Tryz.prog 134 2 9 1 false:=⟨_,_,(by kernel_rfl:Tryz.prog.underlying 134=some Tryz.t133.desc),rfl,rfl,_,_,_,Y3,rfl⟩
theorem qiV:Fld Tryz.prog 134 3 10 1 false:=⟨_,_,(by kernel_rfl:Tryz.prog.underlying 134=some Tryz.t133.desc),rfl,rfl,_,_,_,Yp,rfl⟩
theorem qiU:Fld Tryz.prog 134 4 11 1 false:=⟨_,_,(by kernel_rfl:Tryz.prog.underlying 134=some Tryz.t133.desc),rfl,rfl,_,_,_,XC,rfl⟩
theorem qiT:Fld Tryz.prog 134 5 12 1 false:=⟨_,_,(by kernel_rfl:Tryz.prog.underlying 134=some Tryz.t133.desc),rfl,rfl,_,_,_,XC,rfl⟩
theorem qiS:Fld Tryz.prog 134 6 13 1 false:=⟨_,_,(by kernel_rfl:Tryz.prog.underlying 134=some Tryz.t133.desc),rfl,rfl,_,_,_,qai,rfl⟩
theorem qiR:Fld Tryz.prog 134 7 14 1 false:=⟨_,_,(by kernel_rfl:Tryz.prog.underlying 134=some Tryz.t133.desc),rfl,rfl,_,_,_,JC,rfl⟩
theorem qiQ:Fld Tryz.prog 139 0 0 2 true:=⟨_,_,(by kernel_rfl:Tryz.prog.underlying 139=some Tryz.t138.desc),rfl,rfl,_,_,_,qO,rfl⟩
theorem qiP:Fld Tryz.prog 139 1 2 2 true:=⟨_,_,(by kernel_rfl:Tryz.prog.underlying 139=some Tryz.t138.desc),rfl,rfl,_,_,_,qO,rfl⟩
theorem qiO:Fld Tryz.prog 139 2 4 1 false:=⟨_,_,(by kernel_rfl:Tryz.prog.underlying 139=some Tryz.t138.desc),rfl,rfl,_,_,_,ty4,rfl⟩
theorem qiN:Fld Tryz.prog 153 1 1 1 false:=⟨_,_,(by kernel_rfl:Tryz.prog.underlying 153=some Tryz.t152.desc),rfl,rfl,_,_,_,ty4,rfl⟩
theorem qiM:Fld Tryz.prog 153 2 2 1 false:=⟨_,_,(by kernel_rfl:Tryz.prog.underlying 153=some Tryz.t152.desc),rfl,rfl,_,_,_,ty3,rfl⟩
theorem qiL:Fld Tryz.prog 170 0 0 1 false:=⟨_,_,(by kernel_rfl:Tryz.prog.underlying 170=some Tryz.t169.desc),rfl,rfl,_,_,_,Yx,rfl⟩
theorem qiK:Fld Tryz.prog 170 1 1 1 false:=⟨_,_,(by kernel_rfl:Tryz.prog.underlying 170=some Tryz.t169.desc),rfl,rfl,_,_,_,qcV,rfl⟩
theorem qiJ:Fld Tryz.prog 170 2 2 1024 true:=⟨_,_,(by kernel_rfl:Tryz.prog.underlying 170=some Tryz.t169.desc),rfl,rfl,_,_,_,qlX,rfl⟩
theorem qiI:Fld Tryz.prog 176 0 0 1 false:=⟨_,_,(by kernel_rfl:Tryz.prog.underlying 176=some Tryz.t175.desc),rfl,rfl,_,_,_,ty4,rfl⟩
theorem qiH:Fld Tryz.prog 176 1 1 1 false:=⟨_,_,(by kernel_rfl:Tryz.prog.underlying 176=some Tryz.t175.desc),rfl,rfl,_,_,_,ty3,rfl⟩
theorem qiG:Fld Tryz.prog 179 0 0 1 false:=⟨_,_,(by kernel_rfl:Tryz.prog.underlying 179=some Tryz.t178.desc),rfl,rfl,_,_,_,Yx,rfl⟩
theorem qiF:Fld Tryz.prog 179 2 2 512 true:=⟨_,_,(by kernel_rfl:Tryz.prog.underlying 179=some Tryz.t178.desc),rfl,rfl,_,_,_,qlV,rfl⟩
theorem qiE:Fld Tryz.prog 217 0 0 1 false:=⟨_,_,(by kernel_rfl:Tryz.prog.underlying 217=some Tryz.t216.desc),rfl,rfl,_,_,_,ty3,rfl⟩
theorem qiD:Fld Tryz.prog 217 1 1 1 false:=⟨_,_,(by kernel_rfl:Tryz.prog.underlying 217=some Tryz.t216.desc),rfl,rfl,_,_,_,ty3,rfl⟩
theorem qiC:Fld Tryz.prog 217 2 2 1 false:=⟨_,_,(by kernel_rfl:Tryz.prog.underlying 217=some Tryz.t216.desc),rfl,rfl,_,_,_,ty3,rfl⟩
theorem qiB:Fld Tryz.prog 217 3 3 1 false:=⟨_,_,(by kernel_rfl:Tryz.prog.underlying 217=some Tryz.t216.desc),rfl,rfl,_,_,_,Z6,rfl⟩
theorem qiA:Fld Tryz.prog 217 4 4 1 false:=⟨_,_,(by kernel_rfl:Tryz.prog.underlying 217=some Tryz.t216.desc),rfl,rfl,_,_,_,Yg,rfl⟩
theorem qiz:Fld Tryz.prog 217 5 5 1 false:=⟨_,_,(by kernel_rfl:Tryz.prog.underlying 217=some Tryz.t216.desc),rfl,rfl,_,_,_,Yf,rfl⟩
theorem qiy:Fld Tryz.prog 217 6 6 1 false:=⟨_,_,(by kernel_rfl:Tryz.prog.underlying 217=some Tryz.t216.desc),rfl,rfl,_,_,_,ty4,rfl⟩
theorem qix:Fld Tryz.prog 220 0 0 1 false:=⟨_,_,(by kernel_rfl:Tryz.prog.underlying 220=some Tryz.t219.desc),rfl,rfl,_,_,_,zX,rfl⟩
theorem qiw:Fld Tryz.prog 220 1 1 4 true:=⟨_,_,(by kernel_rfl:Tryz.prog.underlying 220=some Tryz.t219.desc),rfl,rfl,_,_,_,qlU,rfl⟩
theorem qiv:Fld Tryz.prog 224 0 0 1 false:=⟨_,_,(by kernel_rfl:Tryz.prog.underlying 224=some Tryz.t223.desc),rfl,rfl,_,_,_,Yh,rfl⟩
theorem qiu:Fld Tryz.prog 224 1 1 1 false:=⟨_,_,(by kernel_rfl:Tryz.prog.underlying 224=some Tryz.t223.desc),rfl,rfl,_,_,_,Yw,rfl⟩
theorem qit:Fld Tryz.prog 224 2 2 1 false:=⟨_,_,(by kernel_rfl:Tryz.prog.underlying 224=some Tryz.t223.desc),rfl,rfl,_,_,_,Z5,rfl⟩
theorem qis:Fld Tryz.prog 224 3 3 1 false:=⟨_,_,(by kernel_rfl:Tryz.prog.underlying 224=some Tryz.t223.desc),rfl,rfl,_,_,_,ty3,rfl⟩
theorem qir:Fld Tryz.prog 224 4 4 1 false:=⟨_,_,(by kernel_rfl:Tryz.prog.underlying 224=some Tryz.t223.desc),rfl,rfl,_,_,_,ty3,rfl⟩
theorem qiq:Fld Tryz.prog 224 5 5 1 false:=⟨_,_,(by kernel_rfl:Tryz.prog.underlying 224=some Tryz.t223.desc),rfl,rfl,_,_,_,ty3,rfl⟩
theorem qip:Fld Tryz.prog 246 0 0 1 false:=⟨_,_,(by kernel_rfl:Tryz.prog.underlying 246=some Tryz.t245.desc),rfl,rfl,_,_,_,ty3,rfl⟩
theorem qdB:Fld Tryz.prog 246 1 1 1 false:=⟨_,_,(by kernel_rfl:Tryz.prog.underlying 246=some Tryz.t245.desc),rfl,rfl,_,_,_,ty3,rfl⟩
theorem qio:Fld Tryz.prog 250 0 0 128 true:=⟨_,_,(by kernel_rfl:Tryz.prog.underlying 250=some Tryz.t249.desc),rfl,rfl,_,_,_,qlT,rfl⟩
theorem qin:Fld Tryz.prog 250 1 128 1 false:=⟨_,_,(by kernel_rfl:Tryz.prog.underlying 250=some Tryz.t249.desc),rfl,rfl,_,_,_,z5,rfl⟩
theorem qim:Fld Tryz.prog 250 2 129 1 false:=⟨_,_,(by kernel_rfl:Tryz.prog.underlying 250=some Tryz.t249.desc),rfl,rfl,_,_,_,ty3,rfl⟩
theorem qbj:Fld Tryz.prog 275 0 0 1 false:=⟨_,_,(by kernel_rfl:Tryz.prog.underlying 275=some Tryz.t274.desc),rfl,rfl,_,_,_,Kd,rfl⟩
theorem qil:Fld Tryz.prog 294 0 0 1 false:=⟨_,_,(by kernel_rfl:Tryz.prog.underlying 294=some Tryz.t293.desc),rfl,rfl,_,_,_,Xa,rfl⟩
theorem qik:Fld Tryz.prog 294 1 1 256 true:=⟨_,_,(by kernel_rfl:Tryz.prog.underlying 294=some Tryz.t293.desc),rfl,rfl,_,_,_,qgG,rfl⟩
theorem qij:Fld Tryz.prog 304 1 1 1 false:=⟨_,_,(by kernel_rfl:Tryz.prog.underlying 304=some Tryz.t303.desc),rfl,rfl,_,_,_,qcT,rfl⟩
theorem qii:Fld Tryz.prog 345 0 0 1 false:=⟨_,_,(by kernel_rfl:Tryz.prog.underlying 345=some Tryz.t344.desc),rfl,rfl,_,_,_,Q2,rfl⟩
theorem J1:Fld Tryz.prog 345 1 1 1 false:=⟨_,_,(by kernel_rfl:Tryz.prog.underlying 345=some Tryz.t344.desc),rfl,rfl,_,_,_,z5,rfl⟩
theorem Kz:Fld Tryz.prog 345 2 2 1 false:=⟨_,_,(by kernel_rfl:Tryz.prog.underlying 345=some Tryz.t344.desc),rfl,rfl,_,_,_,z5,rfl⟩
theorem Xi:Fld Tryz.prog 348 0 0 1 false:=⟨_,_,(by kernel_rfl:Tryz.prog.underlying 348=some Tryz.t347.desc),rfl,rfl,_,_,_,Z4,rfl⟩
theorem qih:Fld Tryz.prog 348 1 1 1 false:=⟨_,_,(by kernel_rfl:Tryz.prog.underlying 348=some Tryz.t347.desc),rfl,rfl,_,_,_,ty3,rfl⟩
theorem qig:Fld Tryz.prog 348 2 2 1 false:=⟨_,_,(by kernel_rfl:Tryz.prog.underlying 348=some Tryz.t347.desc),rfl,rfl,_,_,_,ty3,rfl⟩
theorem qif:Fld Tryz.prog 372 0 0 1 false:=⟨_,_,(by kernel_rfl:Tryz.prog.underlying 372=some Tryz.t371.desc),rfl,rfl,_,_,_,ty3,rfl⟩
theorem qie:Fld Tryz.prog 372 1 1 1 false:=⟨_,_,(by kernel_rfl:Tryz.prog.underlying 372=some Tryz.t371.desc),rfl,rfl,_,_,_,ty3,rfl⟩
theorem qbi:Fld Tryz.prog 372 2 2 1 false:=⟨_,_,(by kernel_rfl:Tryz.prog.underlying 372=some Tryz.t371.desc),rfl,rfl,_,_,_,Jf,rfl⟩
theorem qbh:Fld Tryz.prog 377 0 0 2 true:=⟨_,_,(by kernel_rfl:Tryz.prog.underlying 377=some Tryz.t376.desc),rfl,rfl,_,_,_,qO,rfl⟩
theorem qid:Fld Tryz.prog 377 1 2 5 true:=⟨_,_,(by kernel_rfl:Tryz.prog.underlying 377=some Tryz.t376.desc),rfl,rfl,_,_,_,Ql,rfl⟩
theorem qic:Fld Tryz.prog 387 0 0 1 false:=⟨_,_,(by kernel_rfl:Tryz.prog.underlying 387=some Tryz.t386.desc),rfl,rfl,_,_,_,ZB,rfl⟩
theorem qib:Fld Tryz.prog 387 1 1 1 false:=⟨_,_,(by kernel_rfl:Tryz.prog.underlying 387=some Tryz.t386.desc),rfl,rfl,_,_,_,ty3,rfl⟩
theorem qia:Fld Tryz.prog 391 0 0 1 false:=⟨_,_,(by kernel_rfl:Tryz.prog.underlying 391=some Tryz.t390.desc),rfl,rfl,_,_,_,ty3,rfl⟩
theorem qh9:Fld Tryz.prog 391 1 1 1 false:=⟨_,_,(by kernel_rfl:Tryz.prog.underlying 391=some Tryz.t390.desc),rfl,rfl,_,_,_,ty3,rfl⟩
theorem qh8:Fld Tryz.prog 396 0 0 1 false:=⟨_,_,(by kernel_rfl:Tryz.prog.underlying 396=some Tryz.t395.desc),rfl,rfl,_,_,_,ty3,rfl⟩
theorem qh7:Fld Tryz.prog 398 0 0 2 true:=⟨_,_,(by kernel_rfl:Tryz.prog.underlying 398=some Tryz.t397.desc),rfl,rfl,_,_,_,ty396,rfl⟩
theorem qh6:Fld Tryz.prog 398 1 2 1 false:=⟨_,_,(by kernel_rfl:Tryz.prog.underlying 398=some Tryz.t397.desc),rfl,rfl,_,_,_,ty4,rfl⟩
theorem qdA:Fld Tryz.prog 406 1 1 512 true:=⟨_,_,(by kernel_rfl:Tryz.prog.underlying 406=some Tryz.t405.desc),rfl,rfl,_,_,_,qgE,rfl⟩
theorem qdz:Fld Tryz.prog 406 2 513 8 true:=⟨_,_,(by kernel_rfl:Tryz.prog.underlying 406=some Tryz.t405.desc),rfl,rfl,_,_,_,qgD,rfl⟩
theorem qh5:Fld Tryz.prog 406 3 521 1 false:=⟨_,_,(by kernel_rfl:Tryz.prog.underlying 406=some Tryz.t405.desc),rfl,rfl,_,_,_,Kb,rfl⟩
theorem qh4:Fld Tryz.prog 408 0 0 4 true:=⟨_,_,(by kernel_rfl:Tryz.prog.underlying 408=some Tryz.t407.desc),rfl,rfl,_,_,_,qj4,rfl⟩
theorem qbg:Fld Tryz.prog 412 0 0 1 false:=⟨_,_,(by kernel_rfl:Tryz.prog.underlying 412=some Tryz.t411.desc),rfl,rfl,_,_,_,qZ,rfl⟩
theorem qh3:Fld Tryz.prog 412 1 1 1 false:=⟨_,_,(by kernel_rfl:Tryz.prog.underlying 412=some Tryz.t411.desc),rfl,rfl,_,_,_,ty3,rfl⟩
theorem qh2:Fld Tryz.prog 412 2 2 1 false:=⟨_,_,(by kernel_rfl:Tryz.prog.underlying 412=some Tryz.t411.desc),rfl,rfl,_,_,_,ty3,rfl⟩
theorem qh1:Fld Tryz.prog 466 0 0 1 false:=⟨_,_,(by kernel_rfl:Tryz.prog.underlying 466=some Tryz.t465.desc),rfl,rfl,_,_,_,zX,rfl⟩
theorem qh0:Fld Tryz.prog 466 1 1 2 true:=⟨_,_,(by kernel_rfl:Tryz.prog.underlying 466=some Tryz.t465.desc),rfl,rfl,_,_,_,qO,rfl⟩
theorem qhZ:Fld Tryz.prog 485 0 0 1 false:=⟨_,_,(by kernel_rfl:Tryz.prog.underlying 485=some Tryz.t484.desc),rfl,rfl,_,_,_,Yh,rfl⟩
theorem qhY:Fld Tryz.prog 485 1 1 1 false:=⟨_,_,(by kernel_rfl:Tryz.prog.underlying 485=some Tryz.t484.desc),rfl,rfl,_,_,_,z5,rfl⟩
theorem qhX:Fld Tryz.prog 485 2 2 1 false:=⟨_,_,(by kernel_rfl:Tryz.prog.underlying 485=some Tryz.t484.desc),rfl,rfl,_,_,_,ty3,rfl⟩
theorem qhW:Fld Tryz.prog 485 3 3 1 false:=⟨_,_,(by kernel_rfl:Tryz.prog.underlying 485=some Tryz.t484.desc),rfl,rfl,_,_,_,ty3,rfl⟩
theorem qhV:Fld Tryz.prog 493 0 0 1 false:=⟨_,_,(by kernel_rfl:Tryz.prog.underlying 493=some Tryz.t492.desc),rfl,rfl,_,_,_,QA,rfl⟩
theorem qhU:Fld Tryz.prog 493 1 1 1 false:=⟨_,_,(by kernel_rfl:Tryz.prog.underlying 493=some Tryz.t492.desc),rfl,rfl,_,_,_,ty3,rfl⟩
theorem qhT:Fld Tryz.prog 493 2 2 1 false:=⟨_,_,(by kernel_rfl:Tryz.prog.underlying 493=some Tryz.t492.desc),rfl,rfl,_,_,_,ty3,rfl⟩
theorem qhh:zv Tryz.prog 40 [(0,1),(1,1)]:=⟨_,(by kernel_rfl:Tryz.prog.underlying 40=some Tryz.t39.desc),fun _=>by kernel_rfl⟩
theorem qfD:zv Tryz.prog 50 [(0,1),(1,1),(2,1),(3,1)]:=⟨_,(by kernel_rfl:Tryz.prog.underlying 50=some Tryz.t49.desc),fun _=>by kernel_rfl⟩
theorem ql6:zv Tryz.prog 129 [(0,1),(1,1)]:=⟨_,(by kernel_rfl:Tryz.prog.underlying 129=some Tryz.t128.desc),fun _=>by kernel_rfl⟩
theorem pl134:zv Tryz.prog 134 [(0,1),(1,8),(9,1),(10,1),(11,1),(12,1),(13,1),(14,1)]:=⟨_,(by kernel_rfl:Tryz.prog.underlying 134=some Tryz.t133.desc),fun _=>by kernel_rfl⟩
theorem qdg:zv Tryz.prog 139 [(0,2),(2,2),(4,1)]:=⟨_,(by kernel_rfl:Tryz.prog.underlying 139=some Tryz.t138.desc),fun _=>by kernel_rfl⟩
theorem pl153:zv Tryz.prog 153 [(0,1),(1,1),(2,1),(3,1)]:=⟨_,(by kernel_rfl:Tryz.prog.underlying 153=some Tryz.t152.desc),fun _=>by kernel_rfl⟩
theorem pl170:zv Tryz.prog 170 [(0,1),(1,1),(2,1024)]:=⟨_,(by kernel_rfl:Tryz.prog.underlying 170=some Tryz.t169.desc),fun _=>by kernel_rfl⟩
theorem pl176:zv Tryz.prog 176 [(0,1),(1,1)]:=⟨_,(by kernel_rfl:Tryz.prog.underlying 176=some Tryz.t175.desc),fun _=>by kernel_rfl⟩
theorem pl179:zv Tryz.prog 179 [(0,1),(1,1),(2,512),(514,32)]:=⟨_,(by kernel_rfl:Tryz.prog.underlying 179=some Tryz.t178.desc),fun _=>by kernel_rfl⟩
theorem pl217:zv Tryz.prog 217 [(0,1),(1,1),(2,1),(3,1),(4,1),(5,1),(6,1)]:=⟨_,(by kernel_rfl:Tryz.prog.underlying 217=some Tryz.t216.desc),fun _=>by kernel_rfl⟩
theorem ql5:zv Tryz.prog 220 [(0,1),(1,4)]:=⟨_,(by kernel_rfl:Tryz.prog.underlying 220=some Tryz.t219.desc),fun _=>by kernel_rfl⟩
theorem pl224:zv Tryz.prog 224 [(0,1),(1,1),(2,1),(3,1),(4,1),(5,1)]:=⟨_,(by kernel_rfl:Tryz.prog.underlying 224=some Tryz.t223.desc),fun _=>by kernel_rfl⟩
theorem pl246:zv Tryz.prog 246 [(0,1),(1,1)]:=⟨_,(by kernel_rfl:Tryz.prog.underlying 246=some Tryz.t245.desc),fun _=>by kernel_rfl⟩
theorem pl250:zv Tryz.prog 250 [(0,128),(128,1),(129,1)]:=⟨_,(by kernel_rfl:Tryz.prog.underlying 250=some Tryz.t249.desc),fun _=>by kernel_rfl⟩
theorem pl275:zv Tryz.prog 275 [(0,1)]:=⟨_,(by kernel_rfl:Tryz.prog.underlying 275=some Tryz.t274.desc),fun _=>by kernel_rfl⟩
theorem pl294:zv Tryz.prog 294 [(0,1),(1,256),(257,32)]:=⟨_,(by kernel_rfl:Tryz.prog.underlying 294=some Tryz.t293.desc),fun _=>by kernel_rfl⟩
theorem pl304:zv Tryz.prog 304 [(0,1),(1,1)]:=⟨_,(by kernel_rfl:Tryz.prog.underlying 304=some Tryz.t303.desc),fun _=>by kernel_rfl⟩
theorem ql4:zv Tryz.prog 345 [(0,1),(1,1),(2,1)]:=⟨_,(by kernel_rfl:Tryz.prog.underlying 345=some Tryz.t344.desc),fun _=>by kernel_rfl⟩
theorem pl348:zv Tryz.prog 348 [(0,1),(1,1),(2,1)]:=⟨_,(by kernel_rfl:Tryz.prog.underlying 348=some Tryz.t347.desc),fun _=>by kernel_rfl⟩
theorem pl372:zv Tryz.prog 372 [(0,1),(1,1),(2,1)]:=⟨_,(by kernel_rfl:Tryz.prog.underlying 372=some Tryz.t371.desc),fun _=>by kernel_rfl⟩
theorem pl387:zv Tryz.prog 387 [(0,1),(1,1)]:=⟨_,(by kernel_rfl:Tryz.prog.underlying 387=some Tryz.t386.desc),fun _=>by kernel_rfl⟩
theorem pl391:zv Tryz.prog 391 [(0,1),(1,1)]:=⟨_,(by kernel_rfl:Tryz.prog.underlying 391=some Tryz.t390.desc),fun _=>by kernel_rfl⟩
theorem pl406:zv Tryz.prog 406 [(0,1),(1,512),(513,8),(521,1),(522,1)]:=⟨_,(by kernel_rfl:Tryz.prog.underlying 406=some Tryz.t405.desc),fun _=>by kernel_rfl⟩
theorem pl412:zv Tryz.prog 412 [(0,1),(1,1),(2,1)]:=⟨_,(by kernel_rfl:Tryz.prog.underlying 412=some Tryz.t411.desc),fun _=>by kernel_rfl⟩
theorem pl466:zv Tryz.prog 466 [(0,1),(1,2)]:=⟨_,(by kernel_rfl:Tryz.prog.underlying 466=some Tryz.t465.desc),fun _=>by kernel_rfl⟩
theorem pl485:zv Tryz.prog 485 [(0,1),(1,1),(2,1),(3,1)]:=⟨_,(by kernel_rfl:Tryz.prog.underlying 485=some Tryz.t484.desc),fun _=>by kernel_rfl⟩
theorem pl493:zv Tryz.prog 493 [(0,1),(1,1),(2,1)]:=⟨_,(by kernel_rfl:Tryz.prog.underlying 493=some Tryz.t492.desc),fun _=>by kernel_rfl⟩
def fT:FTr:=(.node 14339 3 (.node 8897 2 (.node 8256 0 (.node 2560 0 (.node 2052 4 (.node 2051 3 (.node 2048 0 .nil .nil) .nil) (.node 2054 6 (.node 2053 5 .nil .nil) .nil)) (.node 3203 3 (.node 3201 1 (.node 2561 1 .nil .nil) .nil) (.node 4545 1 (.node 4544 0 .nil .nil) .nil))) (.node 8580 11 (.node 8577 1 (.node 8576 0 (.node 8257 1 .nil .nil) .nil) (.node 8579 10 (.node 8578 9 .nil .nil) .nil)) (.node 8583 14 (.node 8582 13 (.node 8581 12 .nil .nil) .nil) (.node 8896 0 .nil .nil)))) (.node 13889 1 (.node 10882 2 (.node 9794 2 (.node 9793 1 (.node 8898 4 .nil .nil) .nil) (.node 10881 1 (.node 10880 0 .nil .nil) .nil)) (.node 11456 0 (.node 11265 1 (.node 11264 0 .nil .nil) .nil) (.node 13888 0 (.node 11458 2 .nil .nil) .nil))) (.node 14080 0 (.node 13892 4 (.node 13891 3 (.node 13890 2 .nil .nil) .nil) (.node 13894 6 (.node 13893 5 .nil .nil) .nil)) (.node 14337 1 (.node 14336 0 (.node 14081 1 .nil .nil) .nil) (.node 14338 2 .nil .nil))))) (.node 24768 0 (.node 22080 0 (.node 16001 128 (.node 15744 0 (.node 14341 5 (.node 14340 4 .nil .nil) .nil) (.node 16000 0 (.node 15745 1 .nil .nil) .nil)) (.node 18816 0 (.node 17600 0 (.node 16002 129 .nil .nil) .nil) (.node 19457 1 (.node 18817 1 .nil .nil) .nil))) (.node 23808 0 (.node 22272 0 (.node 22082 2 (.node 22081 1 .nil .nil) .nil) (.node 22274 2 (.node 22273 1 .nil .nil) .nil)) (.node 24128 0 (.node 23810 2 (.node 23809 1 .nil .nil) .nil) (.node 24129 2 .nil .nil)))) (.node 26369 1 (.node 25473 2 (.node 25025 1 (.node 25024 0 (.node 24769 1 .nil .nil) .nil) (.node 25472 0 (.node 25344 0 .nil .nil) .nil)) (.node 26112 0 (.node 25987 521 (.node 25985 1 .nil .nil) .nil) (.node 26368 0 .nil .nil))) (.node 31042 2 (.node 29825 1 (.node 29824 0 (.node 26370 2 .nil .nil) .nil) (.node 31041 1 (.node 31040 0 .nil .nil) .nil)) (.node 31553 1 (.node 31552 0 (.node 31043 3 .nil .nil) .nil) (.node 31554 2 .nil .nil))))))
theorem fT_ok:fT.Ok Tryz.prog:=⟨⟨_,_,qis,by decide⟩,⟨⟨_,_,qiP,by decide⟩,⟨⟨_,_,qi0,by decide⟩,⟨⟨_,_,qcz,by decide⟩,⟨⟨_,_,qk4,by decide⟩,⟨⟨_,_,qk5,by decide⟩,⟨⟨_,_,qk6,by decide⟩,trivial,trivial⟩,trivial⟩,⟨⟨_,_,qk2,by decide⟩,⟨⟨_,_,qk3,by decide⟩,trivial,trivial⟩,trivial⟩⟩,⟨⟨_,_,qkZ,by decide⟩,⟨⟨_,_,qk0,by decide⟩,⟨⟨_,_,qk1,by decide⟩,trivial,trivial⟩,trivial⟩,⟨⟨_,_,qcy,by decide⟩,⟨⟨_,_,qaG,by decide⟩,trivial,trivial⟩,trivial⟩⟩⟩,⟨⟨_,_,qiU,by decide⟩,⟨⟨_,_,qiX,by decide⟩,⟨⟨_,_,qiY,by decide⟩,⟨⟨_,_,qiZ,by decide⟩,trivial,trivial⟩,trivial⟩,⟨⟨_,_,qiV,by decide⟩,⟨⟨_,_,qiW,by decide⟩,trivial,trivial⟩,trivial⟩⟩,⟨⟨_,_,qiR,by decide⟩,⟨⟨_,_,qiS,by decide⟩,⟨⟨_,_,qiT,by decide⟩,trivial,trivial⟩,trivial⟩,⟨⟨_,_,qiQ,by decide⟩,trivial,trivial⟩⟩⟩⟩,⟨⟨_,_,qiD,by decide⟩,⟨⟨_,_,qiJ,by decide⟩,⟨⟨_,_,qiM,by decide⟩,⟨⟨_,_,qiN,by decide⟩,⟨⟨_,_,qiO,by decide⟩,trivial,trivial⟩,trivial⟩,⟨⟨_,_,qiK,by decide⟩,⟨⟨_,_,qiL,by decide⟩,trivial,trivial⟩,trivial⟩⟩,⟨⟨_,_,qiG,by decide⟩,⟨⟨_,_,qiH,by decide⟩,⟨⟨_,_,qiI,by decide⟩,trivial,trivial⟩,trivial⟩,⟨⟨_,_,qiE,by decide⟩,⟨⟨_,_,qiF,by decide⟩,trivial,trivial⟩,trivial⟩⟩⟩,⟨⟨_,_,qix,by decide⟩,⟨⟨_,_,qiA,by decide⟩,⟨⟨_,_,qiB,by decide⟩,⟨⟨_,_,qiC,by decide⟩,trivial,trivial⟩,trivial⟩,⟨⟨_,_,qiy,by decide⟩,⟨⟨_,_,qiz,by decide⟩,trivial,trivial⟩,trivial⟩⟩,⟨⟨_,_,qiu,by decide⟩,⟨⟨_,_,qiv,by decide⟩,⟨⟨_,_,qiw,by decide⟩,trivial,trivial⟩,trivial⟩,⟨⟨_,_,qit,by decide⟩,trivial,trivial⟩⟩⟩⟩⟩,⟨⟨_,_,qic,by decide⟩,⟨⟨_,_,qii,by decide⟩,⟨⟨_,_,qin,by decide⟩,⟨⟨_,_,qip,by decide⟩,⟨⟨_,_,qiq,by decide⟩,⟨⟨_,_,qir,by decide⟩,trivial,trivial⟩,trivial⟩,⟨⟨_,_,qio,by decide⟩,⟨⟨_,_,qdB,by decide⟩,trivial,trivial⟩,trivial⟩⟩,⟨⟨_,_,qil,by decide⟩,⟨⟨_,_,qbj,by decide⟩,⟨⟨_,_,qim,by decide⟩,trivial,trivial⟩,trivial⟩,⟨⟨_,_,qij,by decide⟩,⟨⟨_,_,qik,by decide⟩,trivial,trivial⟩,trivial⟩⟩⟩,⟨⟨_,_,qif,by decide⟩,⟨⟨_,_,Xi,by decide⟩,⟨⟨_,_,Kz,by decide⟩,⟨⟨_,_,J1,by decide⟩,trivial,trivial⟩,trivial⟩,⟨⟨_,_,qig,by decide⟩,⟨⟨_,_,qih,by decide⟩,trivial,trivial⟩,trivial⟩⟩,⟨⟨_,_,qbh,by decide⟩,⟨⟨_,_,qbi,by decide⟩,⟨⟨_,_,qie,by decide⟩,trivial,trivial⟩,trivial⟩,⟨⟨_,_,qid,by decide⟩,trivial,trivial⟩⟩⟩⟩,⟨⟨_,_,qh3,by decide⟩,⟨⟨_,_,qh6,by decide⟩,⟨⟨_,_,qh9,by decide⟩,⟨⟨_,_,qia,by decide⟩,⟨⟨_,_,qib,by decide⟩,trivial,trivial⟩,trivial⟩,⟨⟨_,_,qh7,by decide⟩,⟨⟨_,_,qh8,by decide⟩,trivial,trivial⟩,trivial⟩⟩,⟨⟨_,_,qh4,by decide⟩,⟨⟨_,_,qh5,by decide⟩,⟨⟨_,_,qdA,by decide⟩,trivial,trivial⟩,trivial⟩,⟨⟨_,_,qbg,by decide⟩,trivial,trivial⟩⟩⟩,⟨⟨_,_,qhX,by decide⟩,⟨⟨_,_,qh0,by decide⟩,⟨⟨_,_,qh1,by decide⟩,⟨⟨_,_,qh2,by decide⟩,trivial,trivial⟩,trivial⟩,⟨⟨_,_,qhY,by decide⟩,⟨⟨_,_,qhZ,by decide⟩,trivial,trivial⟩,trivial⟩⟩,⟨⟨_,_,qhU,by decide⟩,⟨⟨_,_,qhV,by decide⟩,⟨⟨_,_,qhW,by decide⟩,trivial,trivial⟩,trivial⟩,⟨⟨_,_,qhT,by decide⟩,trivial,trivial⟩⟩⟩⟩⟩⟩
instance:FTI Tryz.prog:=⟨fT,fT_ok⟩
def Qi:Nat→Nat→Nat
 | 0,_=>0
 | k+1,x=>Qi k x+(x.testBit k).toNat
def ofB:List Nat→Nat
 | []=>0
 | b::l=>256*ofB l+b
theorem qby {c y:Nat} (hb:b<256) (hc:c<256):(256*y+b) &&& (256*m+c)=256*(y &&& m)+(b &&& c):=by
 have hbc:b &&& c<2 ^ 8:=Nat.lt_of_le_of_lt Nat.and_le_left hb
 have hb:b<2 ^ 8:=hb
 have hc:c<2 ^ 8:=hc
 have e:(256:Nat)=2 ^ 8:=rfl
 rw [e]
 apply Nat.eq_of_testBit_eq
 intro i
 rw [Nat.testBit_and,Nat.testBit_two_pow_mul_add _ hb,Nat.testBit_two_pow_mul_add _ hc,Nat.testBit_two_pow_mul_add _ hbc]
 split
 ·rw [Nat.testBit_and]
 ·rw [Nat.testBit_and]
theorem qc2 {c y k:Nat} (hb:b<256) (hk:k≤8) (hc:c<2 ^ (8-k)):((256*y+b) >>> k) &&& (256*m+c)=256*((y >>> k) &&& m)+((b >>> k) &&& c):=by
 have hc8:c<2 ^ 8:=Nat.lt_of_lt_of_le hc (Nat.pow_le_pow_right zd zO)
 have hbc:(b >>> k) &&& c<2 ^ 8:=Nat.lt_of_le_of_lt Nat.and_le_right hc8
 have hb:b<2 ^ 8:=hb
 have e:(256:Nat)=2 ^ 8:=rfl
 rw [e]
 apply Nat.eq_of_testBit_eq
 intro i
 rw [Nat.testBit_and,Nat.testBit_shiftRight,Nat.testBit_two_pow_mul_add _ hb,Nat.testBit_two_pow_mul_add _ hc8,Nat.testBit_two_pow_mul_add _ hbc,Nat.testBit_and,Nat.testBit_and,Nat.testBit_shiftRight,Nat.testBit_shiftRight]
 by_cases h:i<8
 ·rw [if_pos h,if_pos h]
  by_cases h2:k+i<8
  ·rw [if_pos h2]
  ·rw [if_neg h2]
   have:c.testBit i=false:=Nat.testBit_lt_two_pow (Nat.lt_of_lt_of_le hc (Nat.pow_le_pow_right zd zO))
   rw [this,Bool.and_false,Bool.and_false]
 ·rw [if_neg h,if_neg h,if_neg (by omega)]
  rw [show k+i-8=k+(i-8) by omega]
def Km (c:Nat):Nat→Nat
 | 0=>0
 | n+1=>256*Km c n+c
def g1 (b:Nat):Nat:=((b >>> 1) &&& 85)+(b &&& 85)
def g2 (b:Nat):Nat:=((b >>> 2) &&& 51)+(b &&& 51)
def g3 (b:Nat):Nat:=(b/16+b)%16
theorem ql2:∀ (l:List Nat),(∀ b∈l,b<256)→((ofB l >>> 1) &&& Km 85 l.length)+(ofB l &&& Km 85 l.length)=ofB (l.map g1)
 | [],_=>rfl
 | b::l,h=>by
  have ih:=ql2 l (fun x hx=>h x (List.mem_cons_of_mem _ hx))
  have hb:=h b List.mem_cons_self
  show ((256*ofB l+b) >>> 1 &&& (256*Km 85 l.length+85))+((256*ofB l+b) &&& (256*Km 85 l.length+85))=256*ofB (l.map g1)+g1 b
  rw [qc2 hb (by decide) (by decide),qby hb (by decide),← ih]
  unfold g1; omega
theorem ql1:∀ (l:List Nat),(∀ b∈l,b<256)→((ofB l >>> 2) &&& Km 51 l.length)+(ofB l &&& Km 51 l.length)=ofB (l.map g2)
 | [],_=>rfl
 | b::l,h=>by
  have ih:=ql1 l (fun x hx=>h x (List.mem_cons_of_mem _ hx))
  have hb:=h b List.mem_cons_self
  show ((256*ofB l+b) >>> 2 &&& (256*Km 51 l.length+51))+((256*ofB l+b) &&& (256*Km 51 l.length+51))=256*ofB (l.map g2)+g2 b
  rw [qc2 hb (by decide) (by decide),qby hb (by decide),← ih]
  unfold g2; omega
theorem ql0:∀ (l:List Nat),(∀ b∈l,b/16+b≤100∧b%16≤4)→((ofB l >>> 4)+ofB l) &&& Km 15 l.length=ofB (l.map g3)
 | [],_=>rfl
 | b::l,h=>by
  have hl:∀ x∈l,x/16+x≤100∧x%16≤4:=fun x hx=>h x (List.mem_cons_of_mem _ hx)
  have ih:=ql0 l hl
  have hb:=h b List.mem_cons_self
  have hy:ofB l%16≤4:=by
   cases l with
   | nil=>decide
   | cons c l =>
    have:=(hl c List.mem_cons_self).2
    show (256*ofB l+c)%16≤4
    omega
  have e:((256*ofB l+b) >>> 4)+(256*ofB l+b)=256*((ofB l >>> 4)+ofB l)+(b/16+b+16*(ofB l%16)):=by
   rw [Nat.shiftRight_eq_div_pow,Nat.shiftRight_eq_div_pow]
   omega
  show (((256*ofB l+b) >>> 4)+(256*ofB l+b)) &&& (256*Km 15 l.length+15)=256*ofB (l.map g3)+g3 b
  rw [e,qby (by omega) (by decide),ih,show (15:Nat)=2 ^ 4-1 from rfl,Nat.and_two_pow_sub_one_eq_mod]
  unfold g3; omega
theorem ZE:∀ b:Fin 256,g3 (g2 (g1 b.val))=Qi 8 b.val∧g1 b.val<256∧g2 (g1 b.val)/16+g2 (g1 b.val)≤100∧g2 (g1 b.val)%16≤4∧Qi 8 b.val≤8:=by decide +kernel
theorem qdd (x:Nat):∀ j k,Qi (j+k) x=Qi j x+Qi k (x >>> j)
 | j,0=>rfl
 | j,k+1=>by
  show Qi (j+k) x+(x.testBit (j+k)).toNat=Qi j x+(Qi k (x >>> j)+((x >>> j).testBit k).toNat)
  rw [qdd x j k,Nat.testBit_shiftRight]; omega
theorem qdc {b y:Nat} (hb:b<256):∀ k,k≤8→Qi k (256*y+b)=Qi k b
 | 0,_=>rfl
 | k+1,h=>by
  show Qi k (256*y+b)+((256*y+b).testBit k).toNat=Qi k b+(b.testBit k).toNat
  have hb2:b<2 ^ 8:=hb
  rw [qdc hb k (by omega),show (256:Nat)=2 ^ 8 from rfl,Nat.testBit_two_pow_mul_add _ hb2,if_pos (by omega)]
theorem qhf:∀ (l:List Nat),(∀ b∈l,b<256)→Qi (8*l.length) (ofB l)=((l.map (Qi 8)).sum)
 | [],_=>rfl
 | b::l,h=>by
  have hb:=h b List.mem_cons_self
  have ih:=qhf l (fun x hx=>h x (List.mem_cons_of_mem _ hx))
  have e:8*(b::l).length=8+8*l.length:=by rw [List.length_cons]; omega
  rw [e,qdd]
  show Qi 8 (256*ofB l+b)+Qi (8*l.length) ((256*ofB l+b) >>> 8)=Qi 8 b+(l.map (Qi 8)).sum
  rw [qdc hb 8 (Nat.le_refl _),Nat.shiftRight_eq_div_pow,show (256*ofB l+b)/2 ^ 8=ofB l by omega,ih]
def qeg (x:Nat):Nat :=
 let a:=((x >>> 1) &&& 6148914691236517205)+(x &&& 6148914691236517205)
 let b:=((a >>> 2) &&& 3689348814741910323)+(a &&& 3689348814741910323)
 let c:=((b >>> 4)+b) &&& 1085102592571150095
 let d:=c+c >>> 8
 let e:=d+d >>> 16
 let f:=e+e >>> 32
 f%128
theorem qfJ {x:Nat} (hx:x<18446744073709551616):qeg x=Qi 64 x:=by
 obtain ⟨b0,b1,b2,b3,b4,b5,b6,b7,h0,h1,h2,h3,h4,h5,h6,h7,e⟩:∃ b0 b1 b2 b3 b4 b5 b6 b7:Nat,b0<256∧b1<256∧b2<256∧b3<256∧b4<256∧b5<256∧b6<256∧b7<256∧x=ofB [b0,b1,b2,b3,b4,b5,b6,b7]:=by
  refine ⟨x%256,x/256%256,x/65536%256,x/16777216%256,x/4294967296%256,x/1099511627776%256,x/281474976710656%256,x/72057594037927936,?_⟩
  simp only [ofB]
  omega
 subst e
 have hl:∀ b∈[b0,b1,b2,b3,b4,b5,b6,b7],b<256:=by simp; omega
 have s1:=ql2 [b0,b1,b2,b3,b4,b5,b6,b7] hl
 have hl1:∀ b∈[b0,b1,b2,b3,b4,b5,b6,b7].map g1,b<256:=fun y hy=>by
  obtain ⟨b,hb,rfl⟩:=List.mem_map.1 hy
  exact (ZE ⟨b,hl b hb⟩).2.1
 have s2:=ql1 ([b0,b1,b2,b3,b4,b5,b6,b7].map g1) hl1
 have hl2:∀ b∈([b0,b1,b2,b3,b4,b5,b6,b7].map g1).map g2,b/16+b≤100∧b%16≤4:=fun y hy=>by
  obtain ⟨b,hb,rfl⟩:=List.mem_map.1 hy
  obtain ⟨c,hc,rfl⟩:=List.mem_map.1 hb
  have:=(ZE ⟨c,hl c hc⟩).2.2
  exact ⟨this.1,this.2.1⟩
 have s3:=ql0 (([b0,b1,b2,b3,b4,b5,b6,b7].map g1).map g2) hl2
 have hp:=qhf [b0,b1,b2,b3,b4,b5,b6,b7] hl
 have q0:=ZE ⟨b0,h0⟩; have q1:=ZE ⟨b1,h1⟩; have q2:=ZE ⟨b2,h2⟩; have q3:=ZE ⟨b3,h3⟩
 have q4:=ZE ⟨b4,h4⟩; have q5:=ZE ⟨b5,h5⟩; have q6:=ZE ⟨b6,h6⟩; have q7:=ZE ⟨b7,h7⟩
 dsimp only at q0 q1 q2 q3 q4 q5 q6 q7
 have e1:Km 85 8=6148914691236517205:=by decide
 have e2:Km 51 8=3689348814741910323:=by decide
 have e3:Km 15 8=1085102592571150095:=by decide
 rw [show [b0,b1,b2,b3,b4,b5,b6,b7].length=8 from rfl,e1] at s1
 rw [show ([b0,b1,b2,b3,b4,b5,b6,b7].map g1).length=8 from rfl,e2] at s2
 rw [show (([b0,b1,b2,b3,b4,b5,b6,b7].map g1).map g2).length=8 from rfl,e3] at s3
 unfold qeg
 dsimp only
 rw [s1,s2,s3]
 rw [show 8*[b0,b1,b2,b3,b4,b5,b6,b7].length=64 from rfl] at hp
 rw [hp]
 simp only [List.map_cons,List.map_nil,ofB,List.sum_cons,List.sum_nil,Nat.shiftRight_eq_div_pow]
 rw [q0.1,q1.1,q2.1,q3.1,q4.1,q5.1,q6.1,q7.1]
 have r0:=q0.2.2.2.2; have r1:=q1.2.2.2.2; have r2:=q2.2.2.2.2; have r3:=q3.2.2.2.2
 have r4:=q4.2.2.2.2; have r5:=q5.2.2.2.2; have r6:=q6.2.2.2.2; have r7:=q7.2.2.2.2
 generalize Qi 8 b0=d0 at *; generalize Qi 8 b1=d1 at *; generalize Qi 8 b2=d2 at *; generalize Qi 8 b3=d3 at *
 generalize Qi 8 b4=d4 at *; generalize Qi 8 b5=d5 at *; generalize Qi 8 b6=d6 at *; generalize Qi 8 b7=d7 at *
 clear hp s1 s2 s3 hl hl1 hl2 q0 q1 q2 q3 q4 q5 q6 q7 hx
 obtain ⟨c,hc⟩:∃ c,c=(256*(256*(256*(256*(256*(256*(256*(256*0+d7)+d6)+d5)+d4)+d3)+d2)+d1)+d0):=⟨_,rfl⟩
 rw [← hc]
 have hx:c/(2 ^ 8)=(256*(256*(256*(256*(256*(256*(256*0+(d7))+(d6))+(d5))+(d4))+(d3))+(d2))+(d1)):=by
  rw [hc]; simp only [Nat.reducePow] ; omega
 rw [hx]
 obtain ⟨c0,hc0⟩:∃ c0,c0=c+(256*(256*(256*(256*(256*(256*(256*0+(d7))+(d6))+(d5))+(d4))+(d3))+(d2))+(d1)):=⟨_,rfl⟩
 rw [← hc0]
 have hd0:c0=(256*(256*(256*(256*(256*(256*(256*(256*0+(d7))+(d6+d7))+(d5+d6))+(d4+d5))+(d3+d4))+(d2+d3))+(d1+d2))+(d0+d1)):=by rw [hc0,hc]; omega
 clear hc hc0 hx
 have hc:=hd0
 clear hd0
 have hy:c0/(2 ^ 16)=(256*(256*(256*(256*(256*(256*0+(d7))+(d6+d7))+(d5+d6))+(d4+d5))+(d3+d4))+(d2+d3)):=by
  rw [hc]; simp only [Nat.reducePow] ; omega
 rw [hy]
 obtain ⟨c1,hc1⟩:∃ c1,c1=c0+(256*(256*(256*(256*(256*(256*0+(d7))+(d6+d7))+(d5+d6))+(d4+d5))+(d3+d4))+(d2+d3)):=⟨_,rfl⟩
 rw [← hc1]
 have hd1:c1=(256*(256*(256*(256*(256*(256*(256*(256*0+(d7))+(d6+d7))+(d5+d6+d7))+(d4+d5+d6+d7))+(d3+d4+d5+d6))+(d2+d3+d4+d5))+(d1+d2+d3+d4))+(d0+d1+d2+d3)):=by rw [hc1,hc]; omega
 clear hc hc1 hy
 have hc:=hd1
 clear hd1
 have hz:c1/(2 ^ 32)=(256*(256*(256*(256*0+(d7))+(d6+d7))+(d5+d6+d7))+(d4+d5+d6+d7)):=by
  rw [hc]; simp only [Nat.reducePow] ; omega
 rw [hz]
 obtain ⟨c2,hc2⟩:∃ c2,c2=c1+(256*(256*(256*(256*0+(d7))+(d6+d7))+(d5+d6+d7))+(d4+d5+d6+d7)):=⟨_,rfl⟩
 rw [← hc2]
 have hd2:c2=(256*(256*(256*(256*(256*(256*(256*(256*0+(d7))+(d6+d7))+(d5+d6+d7))+(d4+d5+d6+d7))+(d3+d4+d5+d6+d7))+(d2+d3+d4+d5+d6+d7))+(d1+d2+d3+d4+d5+d6+d7))+(d0+d1+d2+d3+d4+d5+d6+d7)):=by rw [hc2,hc]; omega
 clear hc hc2 hz
 have hc:=hd2
 clear hd2
 rw [hc]; omega
theorem ZT {f:α→List Value} (hf:∀ x,(f x).length=s) {l:List α} {x:α} (h:l[i]?=some x) (hj:j<s):(l.flatMap f)[i*s+j]?=(f x)[j]?:=by
 induction l generalizing i with
 | nil=>simp at h
 | cons y l ih =>
  cases i with
  | zero =>
   obtain rfl:y=x:=by simpa using h
   rw [Nat.zero_mul,Nat.zero_add,List.flatMap_cons,List.getElem?_append_left (by rw [hf]; exact hj)]
  | succ i =>
   rw [List.flatMap_cons,List.getElem?_append_right (by rw [hf,Nat.succ_mul]; omega),hf,show (i+1)*s+j-s=i*s+j by rw [Nat.succ_mul]; omega]
   exact ih (by simpa using h)
theorem zg {f:α→List Value} (hf:∀ x,(f x).length=s) (l:List α):(l.flatMap f).length=l.length*s:=by
 induction l with
 | nil=>simp
 | cons y l ih=>rw [List.flatMap_cons,List.length_append,hf,ih,List.length_cons,Nat.succ_mul]; omega
theorem qaC {f:α→List Value} (hf:∀ x,(f x).length=s) {l:List α} {x:α} (h:l[i]?=some x) (hj:j<s):i*s+j<(l.flatMap f).length:=by
 have hi:=(List.getElem?_eq_some_iff.1 h).1
 have:=Nat.mul_le_mul_right s (show i+1≤l.length by omega)
 rw [zg hf,Nat.succ_mul] at *
 omega
theorem ZN {f:α→List Value} (hf:∀ x,(f x).length=s) {l:List α} {o:Nat} {x:α} (h:l[i]?=some x) (ho:o+m≤s):((l.flatMap f).drop (i*s+o)).take m=((f x).drop o).take m:=by
 apply List.ext_getElem?
 intro j
 by_cases c:j<m
 ·rw [List.getElem?_take,if_pos c,List.getElem?_drop,List.getElem?_take,if_pos c,List.getElem?_drop,Nat.add_assoc,ZT hf h (by omega)]
 ·rw [List.getElem?_take,if_neg c,List.getElem?_take,if_neg c]
theorem qaZ {f:α→List Value} (hf:∀ x,(f x).length=s) {l:List α} {x x':α} {v:Value} (h:l[i]?=some x) (hj:j<s) (e:(f x).set j v=f x'):(l.flatMap f).set (i*s+j) v=(l.set i x').flatMap f:=by
 induction l generalizing i with
 | nil=>simp at h
 | cons y l ih =>
  cases i with
  | zero =>
   obtain rfl:y=x:=by simpa using h
   rw [Nat.zero_mul,Nat.zero_add,List.flatMap_cons,List.set_append_left _ _ (by rw [hf]; exact hj),e]
   rfl
  | succ i =>
   rw [List.flatMap_cons,List.set_append_right _ _ (by rw [hf,Nat.succ_mul]; omega),hf,show (i+1)*s+j-s=i*s+j by rw [Nat.succ_mul]; omega,ih (by simpa using h)]
   rfl
theorem Kk {f:α→List Value} (hf:∀ x,(f x).length=s) {l:List α} {o:Nat} {x x':α} {vs:List Value} (h:l[i]?=some x) (ho:o+vs.length≤s) (e:zf (f x) o vs=f x'):zf (l.flatMap f) (i*s+o) vs=(l.set i x').flatMap f:=by
 induction l generalizing i with
 | nil=>simp at h
 | cons y l ih =>
  cases i with
  | zero =>
   obtain rfl:y=x:=by simpa using h
   unfold zf at e ⊢
   show _=f x'++l.flatMap f
   rw [Nat.zero_mul,Nat.zero_add,List.flatMap_cons,← e,List.take_append_of_le_length (by rw [hf]; omega),List.drop_append_of_le_length (by rw [hf]; omega)]
   simp only [List.append_assoc]
  | succ i =>
   have ih:=ih (i:=i) (by simpa using h)
   unfold zf at ih ⊢
   show _=f y++(l.set i x').flatMap f
   rw [← ih,List.flatMap_cons,show (i+1)*s+o=(f y).length+(i*s+o) by rw [hf,Nat.succ_mul]; omega,show (f y).length+(i*s+o)+vs.length=(f y).length+(i*s+o+vs.length) by omega,List.take_length_add_append,List.drop_length_add_append]
   simp only [List.append_assoc]
theorem KT {f:α→List Value} {l:List α} {x y:α} (e:f x=f y):(l.set i x).flatMap f=(l.set i y).flatMap f:=by
 induction l generalizing i with
 | nil=>rfl
 | cons z l ih=>cases i with
  | zero=>rw [List.set_cons_zero,List.set_cons_zero,List.flatMap_cons,List.flatMap_cons,e]
  | succ i=>rw [List.set_cons_succ,List.set_cons_succ,List.flatMap_cons,List.flatMap_cons,ih]
structure W4 where
 a:Int
 b:Int
 c:Int
 d:Int
deriving DecidableEq
def W4.get (w:W4):Nat→Int
 | 0=>w.a
 | 1=>w.b
 | 2=>w.c
 | _=>w.d
def W4.put (w:W4) (i:Nat) (x:Int):W4:=match i with
 | 0=>{ w with a:=x }
 | 1=>{ w with b:=x }
 | 2=>{ w with c:=x }
 | _=>{ w with d:=x }
def W4.vals (w:W4):List Value:=[zu w.a,zu w.b,zu w.c,zu w.d]
def zW:W4:=⟨0,0,0,0⟩
def W4.of (l:List Int):W4:=⟨l.getD 0 0,l.getD 1 0,l.getD 2 0,l.getD 3 0⟩
theorem W4.copy (h:l.length≤4) (k:Value):zf [k,zu 0,zu 0,zu 0,zu 0] 1 (l.map (.int .u64))=k::(W4.of l).vals:=by
 match l,h with
 | [],_=>rfl
 | [_],_=>rfl
 | [_,_],_=>rfl
 | [_,_,_],_=>rfl
 | [_,_,_,_],_=>rfl
structure Hd where
 slot:Int
 gen:Int
deriving DecidableEq
variable {h:Hd} {C:List (Int × Hd)}
def hdC (h:Hd):List Value:=[zi h.slot,zi h.gen]
def zHd:Hd:=⟨0,0⟩
structure Cel where
 key:Int
 w:W4
deriving DecidableEq
def zQ (c:Cel):List Value:=[zu c.key,zu c.w.a,zu c.w.b,zu c.w.c,zu c.w.d]
def Zi:Cel:=⟨0,zW⟩
structure Slt where
 own:Hd
 st:Nat
 cel:Cel
deriving DecidableEq
variable {L:List Slt}
def QO (s:Slt):List Value:=[zi s.own.slot,zi s.own.gen,zu s.cel.key,zu s.cel.w.a,zu s.cel.w.b,zu s.cel.w.c,zu s.cel.w.d]
theorem zP (s:Slt):(QO s).length=7:=rfl
def JX (s:Slt):Slt:=if s.own.gen=255 then ⟨s.own,2,Zi⟩ else ⟨⟨s.own.slot,s.own.gen+1⟩,0,Zi⟩
def zA (L:List Slt) (h:Hd):Int:=if h.slot<0∨(L.length:Int)≤h.slot then 2 else match L[h.slot.toNat]? with
 | some s=>if s.st=1∧s.own=h then 0 else 7
 | none=>2
def Zz (L:List Slt) (h:Hd):Cel:=match L[h.slot.toNat]? with
 | some s=>if zA L h=0 then s.cel else Zi
 | none=>Zi
def Qa (L:List Slt) (h:Hd) (f:Slt→Slt):List Slt:=match L[h.slot.toNat]? with
 | some s=>if zA L h=0 then L.set h.slot.toNat (f s) else L
 | none=>L
inductive FindA (L:List Slt) (h:Hd):Prop
 | is (i:Nat) (s:Slt) (hi:h.slot=(i:Int)) (hs:L[i]?=some s) (hu:s.st=1) (ho:s.own=h) (he:zA L h=0) (hc:Zz L h=s.cel) (hset:∀ f,Qa L h f=L.set i (f s))
 | lo (hi:h.slot<0) (he:zA L h=2) (hc:Zz L h=Zi) (hset:∀ f,Qa L h f=L)
 | hi (hi:(L.length:Int)≤h.slot) (he:zA L h=2) (hc:Zz L h=Zi) (hset:∀ f,Qa L h f=L)
 | un (i:Nat) (s:Slt) (hi:h.slot=(i:Int)) (hs:L[i]?=some s) (hu:s.st≠1) (he:zA L h=7) (hc:Zz L h=Zi) (hset:∀ f,Qa L h f=L)
 | old (i:Nat) (s:Slt) (hi:h.slot=(i:Int)) (hs:L[i]?=some s) (hu:s.st=1) (ho:s.own≠h) (he:zA L h=7) (hc:Zz L h=Zi) (hset:∀ f,Qa L h f=L)
theorem qi5 (L:List Slt) (h:Hd):FindA L h:=by
 by_cases h1:h.slot<0
 ·have he:zA L h=2:=by unfold zA; rw [if_pos (.inl h1)]
  refine .lo h1 he ?_ (fun f=>?_)
  ·unfold Zz; split; rw [if_neg (by rw [he]; decide)]; rfl
  ·unfold Qa; split; rw [if_neg (by rw [he]; decide)]; rfl
 ·by_cases h2:(L.length:Int)≤h.slot
  ·have he:zA L h=2:=by unfold zA; rw [if_pos (.inr h2)]
   refine .hi h2 he ?_ (fun f=>?_)
   ·unfold Zz; split; rw [if_neg (by rw [he]; decide)]; rfl
   ·unfold Qa; split; rw [if_neg (by rw [he]; decide)]; rfl
  ·obtain ⟨i,hi⟩:∃ i:Nat,h.slot=(i:Int):=⟨h.slot.toNat,by omega⟩
   obtain ⟨s,hs⟩:∃ s,L[i]?=some s:=⟨_,List.getElem?_eq_getElem zO⟩
   have ei:h.slot.toNat=i:=by omega
   have hs':L[h.slot.toNat]?=some s:=by rw [ei]; exact hs
   by_cases h3:s.st=1
   ·by_cases h4:s.own=h
    ·have he:zA L h=0:=by unfold zA; rw [if_neg (by omega),hs']; exact if_pos ⟨h3,h4⟩
     refine .is i s hi hs h3 h4 he ?_ (fun f=>?_)
     ·unfold Zz; rw [hs']; exact if_pos he
     ·unfold Qa; rw [hs']; rw [ei]; exact if_pos he
    ·have he:zA L h=7:=by unfold zA; rw [if_neg (by omega),hs']; exact if_neg (fun h=>h4 h.2)
     refine .old i s hi hs h3 h4 he ?_ (fun f=>?_)
     ·unfold Zz; rw [hs']; exact if_neg (by rw [he]; decide)
     ·unfold Qa; rw [hs']; exact if_neg (by rw [he]; decide)
   ·have he:zA L h=7:=by unfold zA; rw [if_neg (by omega),hs']; exact if_neg (fun h=>h3 h.1)
    refine .un i s hi hs h3 he ?_ (fun f=>?_)
    ·unfold Zz; rw [hs']; exact if_neg (by rw [he]; decide)
    ·unfold Qa; rw [hs']; exact if_neg (by rw [he]; decide)
theorem qle {s:Slt} (hi:h.slot=(i:Int)) (hs:L[i]?=some s) (hu:s.st=1) (ho:s.own=h):zA L h=0:=by
 have:=(List.getElem?_eq_some_iff.1 hs).1
 unfold zA; rw [if_neg (by omega),show h.slot.toNat=i by omega,hs]; exact if_pos ⟨hu,ho⟩
theorem JN (he:zA L h=0):∃ i s,h.slot=((i:Nat):Int)∧L[i]?=some s∧s.st=1∧s.own=h∧Zz L h=s.cel∧∀ f,Qa L h f=L.set i (f s):=by
 cases qi5 L h with
 | is i s hi hs hu ho _ hc hset=>exact ⟨i,s,hi,hs,hu,ho,hc,hset⟩
 | lo _ e _ _=>rw [e] at he; cases he
 | hi _ e _ _=>rw [e] at he; cases he
 | un _ _ _ _ _ e _ _=>rw [e] at he; cases he
 | old _ _ _ _ _ _ e _ _=>rw [e] at he; cases he
theorem YR (he:zA L h≠0):Zz L h=Zi∧∀ f,Qa L h f=L:=by
 cases qi5 L h with
 | is i s hi hs hu ho e hc hset=>exact absurd e he
 | lo _ _ a b=>exact ⟨a,b⟩
 | hi _ _ a b=>exact ⟨a,b⟩
 | un _ _ _ _ _ _ a b=>exact ⟨a,b⟩
 | old _ _ _ _ _ _ _ a b=>exact ⟨a,b⟩
theorem JU (L:List Slt) (h:Hd) (f:Slt→Slt):(Qa L h f).length=L.length:=by
 unfold Qa; split
 ·split
  ·exact List.length_set
  ·rfl
 ·rfl
def Zx (L:List Slt):Option Nat:=L.findIdx? (fun s=>decide (s.st=0))
def XT (n:Nat) (L:List Slt):Nat:=L.countP (fun s=>decide (s.st=n))
theorem Jm (h:Zx L=some i):∃ s,L[i]?=some s∧s.st=0∧∀ j t,j<i→L[j]?=some t→t.st≠0:=by
 unfold Zx at h
 rw [List.findIdx?_eq_some_iff_getElem] at h
 obtain ⟨hi,h1,h2⟩:=h
 refine ⟨L[i],List.getElem?_eq_getElem hi,of_decide_eq_true h1,fun j t hj ht=>?_⟩
 have:=h2 j hj
 obtain ⟨hj2,rfl⟩:=List.getElem?_eq_some_iff.1 ht
 simpa using this
theorem qap:Zx L=none↔∀ s∈L,s.st≠0:=by
 unfold Zx
 rw [List.findIdx?_eq_none_iff]
 exact ⟨fun h s hs=>by simpa using h s hs,fun h s hs=>by simpa using h s hs⟩
theorem qjm:XT n L≠0↔∃ s∈L,s.st=n:=by
 unfold XT
 rw [← Nat.pos_iff_ne_zero,List.countP_pos_iff]
 exact ⟨fun ⟨s,h1,h2⟩=>⟨s,h1,of_decide_eq_true h2⟩,fun ⟨s,h1,h2⟩=>⟨s,h1,decide_eq_true h2⟩⟩
def zt (n:Nat) (L:List Slt) (m:Nat):Prop:=m<18446744073709551616∧∀ i,m.testBit i=(match L[i]? with
 | some s=>decide (s.st=n)
 | none=>false)
theorem qa3 (h:zt n L m) (hl:L.length≤64):Qi 64 m=XT n L:=by
 have key:∀ k,Qi k m=XT n (L.take k):=by
  intro k
  induction k with
  | zero=>rfl
  | succ k ih =>
   show Qi k m+(m.testBit k).toNat=_
   rw [ih,h.2 k,List.take_add_one]
   unfold XT
   rw [List.countP_append]
   cases L[k]? with
   | none=>rfl
   | some s=>by_cases e:s.st=n <;> simp [e]
 rw [key,List.take_of_length_le hl]
theorem zt.at {s:Slt} (h:zt n L m) (hs:L[i]?=some s):m.testBit i=decide (s.st=n):=by rw [h.2 i,hs]
structure QS (L:List Slt):Prop where
 len:1≤L.length∧L.length≤64
 own:∀ i s,L[i]?=some s→s.own.slot=((i:Nat):Int)∧1≤s.own.gen∧s.own.gen≤255
theorem QS.set (h:QS L) {t:Slt} (ht:t.own.slot=(i:Int)∧1≤t.own.gen∧t.own.gen≤255):QS (L.set i t):=by
 refine ⟨by rw [List.length_set]; exact h.len,fun j s hs=>?_⟩
 by_cases e:i=j
 ·subst e
  by_cases hl:i<L.length
  ·rw [List.getElem?_set_self hl] at hs
   obtain rfl:=Option.some.inj hs
   exact ht
  ·rw [List.getElem?_eq_none (by rw [List.length_set]; omega)] at hs; cases hs
 ·rw [List.getElem?_set_ne e] at hs; exact h.own j s hs
theorem QS.rel (h:QS L) {s:Slt} (hs:L[i]?=some s):QS (L.set i (JX s)):=by
 have:=h.own i s hs
 refine h.set ?_
 unfold JX; split
 ·exact this
 ·exact ⟨this.1,by show 1≤s.own.gen+1; omega,by show s.own.gen+1≤255; omega⟩
theorem qjx:∃ f:Int→Nat,∀ k,f k=((k*11400714819323198485%18446744073709551616)/4294967296%8).toNat:=⟨_,fun _=>rfl⟩
noncomputable def bkt:Int→Nat:=Classical.choose qjx
theorem qjw (k:Int):bkt k=((k*11400714819323198485%18446744073709551616)/4294967296%8).toNat:=Classical.choose_spec qjx k
theorem qcK (k:Int):bkt k<8:=by rw [qjw]; omega
def ZO (p:Int × Hd):List Value:=[zu p.1,zi p.2.slot,zi p.2.gen]
theorem ZD (p:Int × Hd):(ZO p).length=3:=rfl
noncomputable def inB (C:List (Int × Hd)) (b:Nat):List (Int × Hd):=C.filter (fun p=>decide (bkt p.1=b))
def Qz (C:List (Int × Hd)) (k:Int):Option Hd:=(C.find? (fun p=>decide (p.1=k))).map (·.2)
def Zh (C:List (Int × Hd)) (k:Int):List (Int × Hd):=C.filter (fun p=>decide (p.1≠k))
noncomputable def keysC (C:List (Int × Hd)):List Int:=(List.range 8).flatMap (fun b=>(inB C b).map (·.1))
abbrev QX (C:List (Int × Hd)):List Int:=C.map (·.1)
theorem Xw:Qz C k=none↔k ∉ QX C:=by
 unfold Qz
 rw [Option.map_eq_none_iff,List.find?_eq_none]
 constructor
 ·intro h hm
  obtain ⟨p,hp,e⟩:=List.mem_map.1 hm
  exact h p hp (decide_eq_true e)
 ·intro h p hp e
  exact h (List.mem_map.2 ⟨p,hp,of_decide_eq_true e⟩)
theorem qbf (hf:Qz C k=some h):(k,h)∈C:=by
 unfold Qz at hf
 rw [Option.map_eq_some_iff] at hf
 obtain ⟨p,hp,rfl⟩:=hf
 have e:p.1=k:=by simpa using List.find?_some hp
 subst e
 exact List.mem_of_find?_eq_some hp
theorem qe3 (hn:(QX C).Nodup) (hm:(k,h)∈C):Qz C k=some h:=by
 induction C with
 | nil=>cases hm
 | cons p C ih =>
  have hn':=List.nodup_cons.1 hn
  unfold Qz
  by_cases e:p.1=k
  ·rw [List.find?_cons_of_pos (by simpa using e)]
   rcases List.mem_cons.1 hm with rfl | hm
   ·rfl
   ·exact absurd (List.mem_map.2 ⟨(k,h),hm,rfl⟩) (by rw [← e]; exact hn'.1)
  ·rw [List.find?_cons_of_neg (by simpa using e)]
   rcases List.mem_cons.1 hm with rfl | hm
   ·exact absurd rfl e
   ·exact ih hn'.2 hm
theorem qaE {p:Int × Hd} (h:p∈inB C b):p∈C∧bkt p.1=b:=by
 obtain ⟨h1,h2⟩:=List.mem_filter.1 h
 exact ⟨h1,of_decide_eq_true h2⟩
theorem qcx (C:List (Int × Hd)) (b:Nat):(inB C b).length≤C.length:=List.length_filter_le _ _
theorem qbW (hn:(QX C).Nodup) (b:Nat):(QX (inB C b)).Nodup:=hn.sublist (List.filter_sublist.map _)
theorem qds (p:Int × Hd) (C:List (Int × Hd)) (b:Nat):inB (p::C) b=if bkt p.1=b then p::inB C b else inB C b:=by
 unfold inB
 by_cases e:bkt p.1=b
 ·rw [if_pos e,List.filter_cons_of_pos (by simpa using e)]
 ·rw [if_neg e,List.filter_cons_of_neg (by simpa using e)]
theorem qe0 (C:List (Int × Hd)) (k:Int) (b:Nat):inB (Zh C k) b=Zh (inB C b) k:=by
 unfold inB Zh
 rw [List.filter_filter,List.filter_filter]
 apply List.filter_congr
 intro p _
 rw [Bool.and_comm]
theorem qbr (h:k ∉ QX C):Zh C k=C:=by
 unfold Zh
 rw [List.filter_eq_self]
 intro p hp
 exact decide_eq_true fun e=>h (List.mem_map.2 ⟨p,hp,e⟩)
theorem qe6 {p:Int × Hd} (hn:(QX C).Nodup) (h:C[j]?=some p):Zh C p.1=C.take j++C.drop (j+1):=by
 induction C generalizing j with
 | nil=>simp at h
 | cons q C ih =>
  have hn':=List.nodup_cons.1 hn
  cases j with
  | zero =>
   obtain rfl:q=p:=by simpa using h
   show Zh (q::C) q.1=C
   unfold Zh
   rw [List.filter_cons_of_neg (by simp)]
   exact qbr hn'.1
  | succ j =>
   have hj:C[j]?=some p:=by simpa using h
   have e:q.1≠p.1:=fun e=>hn'.1 (List.mem_map.2 ⟨p,List.mem_of_getElem? hj,e.symm⟩)
   show Zh (q::C) p.1=q::(C.take j++C.drop (j+1))
   rw [← ih hn'.2 hj]
   unfold Zh
   rw [List.filter_cons_of_pos (by simpa using e)]
theorem KD (hn:(QX C).Nodup) (hk:k∈QX C):(Zh C k).length+1=C.length:=by
 obtain ⟨p,hp,rfl⟩:=List.mem_map.1 hk
 obtain ⟨j,hj,rfl⟩:=List.getElem_of_mem hp
 rw [qe6 hn (List.getElem?_eq_getElem hj),List.length_append,List.length_take,List.length_drop]
 omega
theorem qbs (hn:(QX C).Nodup) (k:Int):(QX (Zh C k)).Nodup:=hn.sublist (List.filter_sublist.map _)
theorem qba (C:List (Int × Hd)) (k:Int):QX (Zh C k)=(QX C).filter (fun x=>decide (x≠k)):=by
 unfold Zh
 rw [List.filter_map]; rfl
theorem qW {m:Int} (h:-9223372036854775808≤m∧m≤9223372036854775807):IntKind.i64.wrap m=m:=IntWalk.i64_in m h
theorem X9 {m:Int} (h:0≤m∧m≤18446744073709551615):IntKind.u64.wrap m=m:=by
 have e:IntKind.u64.wrap m=m%18446744073709551616:=by simp [IntKind.wrap,IntKind.signed,IntKind.bits]
 rw [e]; omega
def tickT (x n:Nat):Nat:=if 18446744073709551615/8 ^ n<x then 18446744073709551615 else x*8 ^ n
structure qjT where
 lv:Nat
 slot:Nat
 at_:Nat
 due:Nat
deriving DecidableEq
def qjT.v (s:qjT):List Value:=[zi (s.lv:Int),zi (s.slot:Int),zu (s.at_:Int),zu (s.due:Int)]
def zSpot:qjT:=⟨0,0,0,0⟩
theorem neqN (a b:Nat):decide ((a:Int)≠(b:Int))=true↔a≠b:=by rw [decide_eq_true_eq]; exact not_congr Int.ofNat_inj
theorem qau (ha:a<18446744073709551616) (hb:b<18446744073709551616):Yt .and .u64 (a:Int) (b:Int)=((a &&& b:Nat):Int):=by
 have ea:BitVec.ofInt 64 (a:Int)=BitVec.ofNat 64 a:=by simp
 have eb:BitVec.ofInt 64 (b:Int)=BitVec.ofNat 64 b:=by simp
 have h:a &&& b<18446744073709551616:=Nat.lt_of_le_of_lt Nat.and_le_left ha
 show IntKind.u64.wrap (((BitVec.ofInt 64 (a:Int) &&& BitVec.ofInt 64 (b:Int)).toNat:Nat):Int)=_
 rw [ea,eb]
 rw [BitVec.toNat_and,BitVec.toNat_ofNat,BitVec.toNat_ofNat,Nat.mod_eq_of_lt (show a<2 ^ 64 from ha),Nat.mod_eq_of_lt (show b<2 ^ 64 from hb)]
 exact X9 ⟨by omega,by omega⟩
theorem or64 (ha:a<18446744073709551616) (hb:b<18446744073709551616):Yt .or .u64 (a:Int) (b:Int)=((a ||| b:Nat):Int):=by
 have ea:BitVec.ofInt 64 (a:Int)=BitVec.ofNat 64 a:=by simp
 have eb:BitVec.ofInt 64 (b:Int)=BitVec.ofNat 64 b:=by simp
 have h:a ||| b<18446744073709551616:=Nat.or_lt_two_pow (n:=64) ha hb
 show IntKind.u64.wrap (((BitVec.ofInt 64 (a:Int) ||| BitVec.ofInt 64 (b:Int)).toNat:Nat):Int)=_
 rw [ea,eb]
 rw [BitVec.toNat_or,BitVec.toNat_ofNat,BitVec.toNat_ofNat,Nat.mod_eq_of_lt (show a<2 ^ 64 from ha),Nat.mod_eq_of_lt (show b<2 ^ 64 from hb)]
 exact X9 ⟨by omega,by omega⟩
theorem qjI (ha:a<18446744073709551616) (hb:b<18446744073709551616):Yt .andNot .u64 (a:Int) (b:Int)=((a &&& (18446744073709551615-b):Nat):Int):=by
 have ea:BitVec.ofInt 64 (a:Int)=BitVec.ofNat 64 a:=by simp
 have eb:BitVec.ofInt 64 (b:Int)=BitVec.ofNat 64 b:=by simp
 have h:a &&& (18446744073709551615-b)<18446744073709551616:=Nat.lt_of_le_of_lt Nat.and_le_left ha
 show IntKind.u64.wrap (((BitVec.ofInt 64 (a:Int) &&& ~~~(BitVec.ofInt 64 (b:Int))).toNat:Nat):Int)=_
 rw [ea,eb]
 rw [BitVec.toNat_and,BitVec.toNat_not,BitVec.toNat_ofNat,BitVec.toNat_ofNat,Nat.mod_eq_of_lt (show a<2 ^ 64 from ha),Nat.mod_eq_of_lt (show b<2 ^ 64 from hb)]
 show IntKind.u64.wrap ((a &&& (18446744073709551615-b):Nat):Int)=_
 exact X9 ⟨by omega,by omega⟩
def ZX (i:Int):Nat:=if 0≤i∧i<64 then 2 ^ i.toNat else 0
def qb1 (i:Int):Bool:=decide (0≤i) && decide (i<64)
theorem qdb (h:i<64):2 ^ i≤9223372036854775808:=by
 have:2 ^ i≤2 ^ 63:=Nat.pow_le_pow_right zO zO
 simpa using this
theorem qaI (i:Int):ZX i<18446744073709551616:=by
 unfold ZX; split
 ·have:=qdb (i:=i.toNat) zO; omega
 ·omega
theorem qki {i:Int} (hi:0≤i∧i<64):IntKind.u64.wrap (1*2 ^ (min i.toNat IntKind.u64.bits))=((ZX i:Nat):Int):=by
 have h:=qdb (i:=i.toNat) zO
 have e:min i.toNat IntKind.u64.bits=i.toNat:=by
  have:IntKind.u64.bits=64:=rfl
  omega
 have e2:(2:Int) ^ i.toNat=((2 ^ i.toNat:Nat):Int):=(Int.natCast_pow 2 _).symm
 unfold ZX
 rw [if_pos hi,Int.one_mul,e,e2]
 generalize 2 ^ i.toNat=k at *
 exact X9 ⟨by omega,by omega⟩
theorem qfS (i:Int):Zu Tryz.prog (fun _=>True) 329 [zi i] (.bool (qb1 i)):=by
 intro w0 H hT
 refine qd Tryz.func329 rfl Tryz.ntmps329 rfl rfl (za 7 rfl ?_)
 apply qb5
 iterate 4 exact rfl
 case h1 =>
  intro hg2
  refine za 4 rfl ?_
  exact Zv rfl zR
 refine za 2 rfl ?_
 refine qj (H2:=H) Tryz.results329 rfl (.nil _) zH ?_
 exact ⟨rfl,rfl⟩
theorem KG (i:Int):Zu Tryz.prog (fun _=>True) 233 [zi i] (zu (ZX i:Nat)):=by
 intro w0 H hT
 refine qd Tryz.func233 rfl Tryz.ntmps233 rfl rfl (za 6 rfl ?_)
 refine zI (zc1 rfl) Tryz.call329 rfl (T:=fun _=>True) trivial (qfS _) ?_
 refine za 2 rfl ?_
 refine XA rfl (fun c0=>?_) (fun c0=>?_)
 ·skip
  refine za 3 rfl ?_
  refine qj (H2:=H) Tryz.results233 rfl (.nil _) zH ?_
  exact ⟨by unfold ZX; rw [if_neg (by intro h; have:qb1 i=true:=(by unfold qb1; simp [h.1,h.2]); simp [this] at c0)]; rfl,rfl⟩
 ·skip
  refine za 3 rfl ?_
  have hi:0≤i∧i<64:=by
   have:qb1 i=true:=by cases h:qb1 i <;> simp_all
   unfold qb1 at this
   simpa using this
  refine Yu rfl ty3 qlR (X9 zO) rfl (qF rfl rfl (b_shl zO (qki hi)) rfl (za 2 rfl ?_))
  refine qj (H2:=H) Tryz.results233 rfl (.nil _) zH ?_
  exact ⟨rfl,rfl⟩
def QL (m:Nat) (l:List Int):Nat:=l.foldl (fun m i=>m ||| ZX i) m
def QU (m:Nat) (l:List Int):Nat:=l.foldl (fun m i=>m &&& (18446744073709551615-ZX i)) m
theorem X7:∀ (l:List Int) {m:Nat},m<18446744073709551616→QL m l<18446744073709551616
 | [],_,h=>h
 | i::l,_,h=>X7 l (Nat.or_lt_two_pow (n:=64) h (qaI i))
theorem Xt:∀ (l:List Int) {m:Nat},m<18446744073709551616→QU m l<18446744073709551616
 | [],_,h=>h
 | i::l,_,h=>Xt l (Nat.lt_of_le_of_lt Nat.and_le_left h)
theorem ZR {l:List α} {x:α} (h:l[i]?=some x):l.take (i+1)=l.take i++[x]:=by
 rw [List.take_add_one,h]; rfl
theorem qdy {β:Type} {f:β→Int→β} {b:β} {x:Int} (h:l[i]?=some x):(l.take (i+1)).foldl f b=f ((l.take i).foldl f b) x:=by
 rw [ZR h,List.foldl_append]; rfl
theorem qaO {ad:Option Addr} {cap:Nat} (hm:m<18446744073709551616) (hn:l.length≤4611686018427387904) (hrow:Holds w0 H ad (l.map (Value.int .i64))) :qG Tryz.prog w0 H 232 [zu ((m:Nat):Int),.slice ad l.length cap] (zu ((QL m l:Nat):Int)):=by
 refine qd Tryz.func232 rfl Tryz.ntmps232 rfl rfl (za 6 rfl (zY rfl qZ rfl rfl (za 3 rfl ?_)))
 refine qV (X:=Nat) [(7,_),(8,_)] (fun (i:Nat)=>[(0,zu ((QL m (l.take i):Nat):Int)),(9,zi (i:Int))]) (fun _=>_) (fun (i:Nat)=>H) (fun (i:Nat)=>i≤l.length) (fun (i:Nat)=>l.length-i) 0 (Nat.zero_le _) (qc rfl (qc rfl (qi _))) (qc rfl (qc rfl (qi _))) rfl zH ?_
 intro i hi
 simp only [List.cons_append,List.nil_append]
 refine za 4 rfl ?_
 refine qq (p:=(i:Int)<(l.length:Int)) rfl (by simp) (fun q0=>?_) (fun q0=>?_)
 ·skip
  refine za 4 rfl ?_
  obtain ⟨x,hx⟩:∃ x,l[i]?=some x:=⟨_,List.getElem?_eq_getElem zO⟩
  obtain ⟨q0,p0,rfl,hc⟩:=hrow.at (i:=i) (v:=.int .i64 x) (by rw [List.getElem?_map,hx]; rfl)
  refine qN (j:=i) rfl rfl qZ ty3 rfl zO rfl rfl ?_
  refine qf (v:=zi x) rfl ty3 rfl (by rw [Nat.mul_one]; exact hc) rfl ?_
  refine za 5 rfl ?_
  refine zI (zc1 rfl) Tryz.call233 rfl (T:=fun _=>True) trivial (KG _) ?_
  refine qF rfl rfl (b_or (m:=((QL m (l.take (i+1)):Nat):Int)) (by rw [show QL m (l.take (i+1))=_ from qdy hx]; exact or64 (X7 _ hm) (qaI x))) rfl ?_
  refine za 4 rfl ?_
  refine qF rfl rfl (qM (m:=((i+1:Nat):Int)) (by rw [qW (by omega)]; omega)) rfl ?_
  refine za 2 rfl ?_
  refine qI (i+1) zO zO (qc rfl (qc rfl (qc rfl (qc rfl (qi _))))) rfl zH
 ·skip
  refine za 5 rfl ?_
  refine qj (H2:=H) Tryz.results232 rfl (.nil _) zH ?_
  obtain rfl:i=l.length:=by omega
  exact ⟨by rw [List.take_length],rfl⟩
theorem qal {ad:Option Addr} {cap:Nat} (hm:m<18446744073709551616) (hn:l.length≤4611686018427387904) (hrow:Holds w0 H ad (l.map (Value.int .i64))) :qG Tryz.prog w0 H 141 [zu ((m:Nat):Int),.slice ad l.length cap] (zu ((QU m l:Nat):Int)):=by
 refine qd Tryz.func141 rfl Tryz.ntmps141 rfl rfl (za 6 rfl (zY rfl qZ rfl rfl (za 3 rfl ?_)))
 refine qV (X:=Nat) [(7,_),(8,_)] (fun (i:Nat)=>[(0,zu ((QU m (l.take i):Nat):Int)),(9,zi (i:Int))]) (fun _=>_) (fun (i:Nat)=>H) (fun (i:Nat)=>i≤l.length) (fun (i:Nat)=>l.length-i) 0 (Nat.zero_le _) (qc rfl (qc rfl (qi _))) (qc rfl (qc rfl (qi _))) rfl zH ?_
 intro i hi
 simp only [List.cons_append,List.nil_append]
 refine za 4 rfl ?_
 refine qq (p:=(i:Int)<(l.length:Int)) rfl (by simp) (fun q0=>?_) (fun q0=>?_)
 ·skip
  refine za 4 rfl ?_
  obtain ⟨x,hx⟩:∃ x,l[i]?=some x:=⟨_,List.getElem?_eq_getElem zO⟩
  obtain ⟨q0,p0,rfl,hc⟩:=hrow.at (i:=i) (v:=.int .i64 x) (by rw [List.getElem?_map,hx]; rfl)
  refine qN (j:=i) rfl rfl qZ ty3 rfl zO rfl rfl ?_
  refine qf (v:=zi x) rfl ty3 rfl (by rw [Nat.mul_one]; exact hc) rfl ?_
  refine za 5 rfl ?_
  refine zI (zc1 rfl) Tryz.call233 rfl (T:=fun _=>True) trivial (KG _) ?_
  refine qF rfl rfl (qjA (m:=((QU m (l.take (i+1)):Nat):Int)) (by rw [show QU m (l.take (i+1))=_ from qdy hx]; exact qjI (Xt _ hm) (qaI x))) rfl ?_
  refine za 4 rfl ?_
  refine qF rfl rfl (qM (m:=((i+1:Nat):Int)) (by rw [qW (by omega)]; omega)) rfl ?_
  refine za 2 rfl ?_
  refine qI (i+1) zO zO (qc rfl (qc rfl (qc rfl (qc rfl (qi _))))) rfl zH
 ·skip
  refine za 5 rfl ?_
  refine qj (H2:=H) Tryz.results141 rfl (.nil _) zH ?_
  obtain rfl:i=l.length:=by omega
  exact ⟨by rw [List.take_length],rfl⟩
open Go.Lib in
def Tab (w:World):Prop:=∀ j,j<64→w.cell? ⟨0,j,none⟩=some (.int .u8 ((deBruijn64tab.getD j 0:Nat):Int))
open Go.Lib in
theorem qkK {r:Nat} (h0:r≠0) (h:r<18446744073709551616):ctz 64 r<64∧r.testBit (ctz 64 r)=true∧(∀ i,i<ctz 64 r→r.testBit i=false)∧∀ i,(r &&& (r-1)).testBit i=(r.testBit i && decide (i≠ctz 64 r)):=by
  obtain ⟨m,hm,hk⟩:=ctzFrom_spec 64 r (by omega) (by simpa using h)
  have hc:ctz 64 r=ctzFrom 64 r:=if_neg h0
  rw [hc]
  generalize ctzFrom 64 r=k at *
  have hp:0<2 ^ k:=Nat.two_pow_pos k
  have e1:r=2 ^ k*(2*m+1)+0:=by omega
  have e2:r-1=2 ^ k*(2*m)+(2 ^ k-1):=by
    rw [hm,Nat.mul_add,Nat.mul_one]; omega
  have b1:∀ i,r.testBit i=if i<k then false else (2*m+1).testBit (i-k):=fun i=>by
    rw [e1,Nat.testBit_two_pow_mul_add _ hp]; simp
  have b2:∀ i,(r-1).testBit i=if i<k then true else (2*m).testBit (i-k):=fun i=>by
    rw [e2,Nat.testBit_two_pow_mul_add _ (by omega),Nat.testBit_two_pow_sub_one]
    split <;> simp_all
  refine ⟨hk,?_,fun i hi=>?_,fun i=>?_⟩
  · rw [b1,if_neg (by omega),Nat.sub_self,Nat.testBit_zero]; simp
  · rw [b1,if_pos hi]
  · rw [Nat.testBit_and,b1,b2]
    by_cases c1:i<k
    · rw [if_pos c1,if_pos c1]; rfl
    · rw [if_neg c1,if_neg c1]
      by_cases c2:i=k
      · subst c2; rw [Nat.sub_self,Nat.testBit_zero,Nat.testBit_zero]; simp
      · obtain ⟨t,ht⟩:∃ t,i-k=t+1:=⟨i-k-1,by omega⟩
        rw [ht,Nat.testBit_succ,Nat.testBit_succ,show (2*m+1)/2=m by omega,show 2*m/2=m by omega]
        simp [c2]
def JZ (m:Nat) (f:Int):Option Nat:=(List.range 64).find? (fun i=>m.testBit i && decide (f≤(i:Int)))
theorem qa4 (hi:i<64) (hb:m.testBit i=true) (hf:f≤(i:Int)) (hl:∀ j,j<i→m.testBit j=true→(j:Int)<f):JZ m f=some i:=by
  unfold JZ
  rw [List.find?_range_eq_some]
  refine ⟨by rw [hb,decide_eq_true hf]; rfl,List.mem_range.2 hi,fun j hj=>?_⟩
  cases h:m.testBit j with
  | false=>rfl
  | true=>have:=hl j hj h; rw [decide_eq_false (by omega)]; rfl
theorem qa5 (hl:∀ j,m.testBit j=true→(j:Int)<f):JZ m f=none:=by
  unfold JZ
  rw [List.find?_eq_none]
  intro j _ h
  rw [Bool.and_eq_true] at h
  have:=hl j h.1
  have:=of_decide_eq_true h.2
  omega
theorem qdj (h:JZ m f=some i):i<64∧m.testBit i=true∧f≤(i:Int)∧∀ j,j<i→m.testBit j=true→(j:Int)<f:=by
  unfold JZ at h
  rw [List.find?_range_eq_some] at h
  obtain ⟨h1,h2,h3⟩:=h
  rw [Bool.and_eq_true] at h1
  refine ⟨List.mem_range.1 h2,h1.1,of_decide_eq_true h1.2,fun j hj hb=>?_⟩
  have:=h3 j hj
  rw [hb] at this
  simp at this
  omega
def Z7 (m:Nat) (f:Int):Value:=match JZ m f with
  | some i=>.tuple #[.int .i64 (i:Int),.bool true]
  | none=>.tuple #[.int .i64 0,.bool false]
def ZI (m:Nat) (f:Int):Option Nat:=(JZ m f).or (JZ m 0)
def Yn (m:Nat) (f:Int):Value:=match ZI m f with
  | some i=>.tuple #[.int .i64 (i:Int),.bool true]
  | none=>.tuple #[.int .i64 0,.bool false]
theorem mulW (a b:Nat):IntKind.u64.wrap ((a:Int)*(b:Int))=((a*b%18446744073709551616:Nat):Int):=by
  have e:IntKind.u64.wrap ((a:Int)*(b:Int))=((a:Int)*(b:Int))%18446744073709551616:=by simp [IntKind.wrap,IntKind.signed,IntKind.bits]
  rw [e,← Int.natCast_mul]; omega
theorem shr58 (x:Nat):Int.fdiv (x:Int) (2 ^ (min (58:Int).toNat IntKind.u64.bits))=((x/288230376151711744:Nat):Int):=by
  have e:(2:Int) ^ (min (58:Int).toNat IntKind.u64.bits)=288230376151711744:=by decide
  rw [e,Int.fdiv_eq_ediv_of_nonneg _ (by decide)]; omega
open Go.Lib in
theorem qj3 {x:Nat} (hx:x<18446744073709551616):Zu Tryz.prog (Tab) 452 [zu ((x:Nat):Int)] (zi ((ctz 64 x:Nat):Int)):=by
  intro w0 H hT
  refine qd Tryz.func452 rfl Tryz.ntmps452 rfl rfl (za 8 rfl ?_)
  refine qq (p:=x=0) rfl (by rw [decide_eq_true_eq]; exact Int.ofNat_inj) (fun c0=>?_) (fun c0=>?_)
  · skip
    refine za 3 rfl ?_
    refine qj (H2:=H) Tryz.results452 rfl (.nil _) zH ?_
    exact ⟨by rw [c0]; rfl,rfl⟩
  · skip
    refine za 4 rfl ?_
    have hx0:x≠0:=fun e=>c0 (by rw [e])
    obtain ⟨hlow,hk⟩:=lowest_bit 64 x hx0 (by simpa using hx)
    obtain ⟨hi64,htab⟩:=deBruijn64_at _ hk
    refine W_neg rfl (m := ((18446744073709551616 - x : Nat) : Int)) (by have e : IntKind.u64.wrap (0 - (x : Int)) = (0 - (x : Int)) % 18446744073709551616 := by simp [IntKind.wrap, IntKind.signed, IntKind.bits]
                                                                         rw [e]; omega) rfl ?_
    refine qF rfl rfl (KI (m:=((2 ^ ctz 64 x:Nat):Int)) ((qau hx zO).trans (congrArg (fun z:Nat=>(z:Int)) hlow))) rfl ?_
    refine qF rfl rfl (qdK (m:=((2 ^ ctz 64 x*285870213051353865%18446744073709551616:Nat):Int)) (mulW _ _)) rfl ?_
    refine qF rfl rfl (qar zd (m:=((2 ^ ctz 64 x*285870213051353865%18446744073709551616/288230376151711744:Nat):Int)) (shr58 _)) rfl ?_
    generalize 2 ^ ctz 64 x*285870213051353865%18446744073709551616/288230376151711744=jj at *
    refine zh (j:=jj) rfl rfl ty590 ty5 rfl hi64 rfl rfl ?_
    refine qf (v:=.int .u8 ((ctz 64 x:Nat):Int)) rfl ty5 rfl (qh.old (by have h:=hT jj hi64; rw [htab] at h; rw [Nat.mul_one,Nat.zero_add]; exact h)) rfl ?_
    refine Yu rfl ty5 ty3 (qW zO) rfl (za 2 rfl ?_)
    refine qj (H2:=H) Tryz.results452 rfl (.nil _) zH ?_
    exact ⟨rfl,rfl⟩
theorem qjH {r:Nat} (h0:r≠0):r &&& (r-1)<r:=Nat.lt_of_le_of_lt Nat.and_le_right zO
open Go.Lib in
theorem qge {lp b1:Nat} (hT:Tab w0) (J:Nat→qe→Prop) (S:qe→Prop) (hm:m<18446744073709551616)
  (hround:∀ r Hi,r≠0→r<18446744073709551616→J r Hi→Zp Tryz.prog w0 lp #[zi ((ctz 64 r:Nat):Int)] ((b1,.cells 247 1 [zu (m:Int)])::Hi) (fun v H'=>∃ Hi',qr H' ((b1,.cells 247 1 [zu (m:Int)])::Hi')∧(v=.bool true∧J (r &&& (r-1)) Hi'∨v=.bool false∧S Hi'))) (hJ:J m H) :
  qk Tryz.prog w0 451 #[.func (.yield lp) #[] #[],zp b1] ((b1,.cells 247 1 [zu (m:Int)])::H) (fun _ H'=>∃ Hi',qr H' ((b1,.cells 247 1 [zu (m:Int)])::Hi')∧(J 0 Hi'∨S Hi')):=by
 refine qd (l:=[.func (.yield lp) #[] #[],zp b1]) Tryz.func451 rfl Tryz.ntmps451 rfl rfl ?_
 refine zo (qf rfl z5 rfl (qh.own zM rfl) rfl (za 3 rfl ?_))
 refine qV (X:=(Nat × qe)) [(0,_)] (fun (x:(Nat × qe))=>[(3,zu (x.1:Int))]) (fun _=>_) (fun (x:(Nat × qe))=>(b1,.cells 247 1 [zu (m:Int)])::x.2) (fun (x:(Nat × qe))=>x.1<18446744073709551616∧J x.1 x.2) (fun (x:(Nat × qe))=>x.1) (m,H) ⟨hm,hJ⟩ (qc rfl (qi _)) (qc rfl (qi _)) rfl (qr.refl _) ?_
 rintro ⟨r,Hi⟩ ⟨hr,hJi⟩
 dsimp only at hr hJi ⊢
 simp only [List.cons_append,List.nil_append]
 refine za 5 rfl ?_
 refine qq (p:=r≠0) rfl (neqN r 0) (fun q0=>?_) (fun q0=>?_)
 ·skip
  refine za 6 rfl (zI (zc1 rfl) Tryz.call452 rfl hT (qj3 hr) (JP rfl (.cons rfl .nil) rfl (hround r Hi q0 hr hJi) ?_))
  rintro v H' ⟨Hi',hsub,⟨rfl,hJ'⟩ | ⟨rfl,hS'⟩⟩
  ·skip
   refine qT hsub ?_
   refine za 8 rfl ?_
   refine qF rfl rfl (ZY (m:=((r-1:Nat):Int)) (by rw [X9 (by omega)]; omega)) rfl ?_
   refine qF rfl rfl (KI (m:=((r &&& (r-1):Nat):Int)) (qau hr zO)) rfl ?_
   refine za 2 rfl ?_
   refine qI (r &&& (r-1),Hi') ⟨by have:=qjH q0; show r &&& (r-1)<_; omega,hJ'⟩ (qjH q0) (qc rfl (qc rfl (qi _))) rfl (qr.refl _)
  ·skip
   refine qT hsub ?_
   refine za 3 rfl (JQ Tryz.results451 (.nil _) (.refl _) ?_)
   exact ⟨Hi',.refl _,.inr hS'⟩
 ·skip
  refine J7 rfl (Zf Tryz.results451 (.nil _) (.refl _) ?_)
  obtain rfl:r=0:=Classical.not_not.1 q0
  exact ⟨Hi,.refl _,.inl hJi⟩
theorem all_L:qk Tryz.prog w0 429 #[zu ((m:Nat):Int)] (H) (fun v H'=>∃ b1,v=.func (.func 451) #[] #[zp b1]∧H'=(b1,.cells 247 1 [zu (m:Int)])::H):=by
 refine qd (l:=[zu ((m:Nat):Int)]) Tryz.func429 rfl Tryz.ntmps429 rfl rfl ?_
 refine zo ?_
 refine qR rfl rfl rfl (fun b1=>?_)
 refine za 3 rfl (qL .nil (.cons rfl .nil) rfl (za 2 rfl (qj Tryz.results429 rfl (.nil _) (.refl _) ?_)))
 exact ⟨b1,rfl,rfl⟩
theorem nx_q {bf:Nat} {i:Int} (hb:(bf,.cells 3 1 [zi f])∈H) :qG Tryz.prog w0 H 396 [zi i,zp bf] (.bool (decide (f≤i))):=by
 refine qd Tryz.func396 rfl Tryz.ntmps396 rfl rfl (za 5 rfl ?_)
 refine qf (v:=zi f) rfl ty3 rfl (qh.own hb rfl) rfl ?_
 refine za 3 rfl ?_
 refine qj (H2:=H) Tryz.results396 rfl (.nil _) zH ?_
 exact ⟨rfl,rfl⟩
theorem qk8 {bf:Nat} (hT:Tab w0) (hm:m<18446744073709551616) :
  qk Tryz.prog w0 395 #[zu (m:Int),.func (.func 396) #[] #[zp bf]] ((bf,.cells 3 1 [zi f])::H) (fun v H'=>v=Z7 m f∧H'=(bf,.cells 3 1 [zi f])::H):=by
 refine qd (l:=[zu (m:Int),.func (.func 396) #[] #[zp bf]]) Tryz.func395 rfl Tryz.ntmps395 rfl rfl ?_
 refine zo ?_
 refine qR rfl rfl rfl (fun b3=>?_)
 refine qA (l:=[zi 0]) ty3 rfl rfl (fun b4=>?_)
 refine qA (l:=[.bool false]) ty4 rfl rfl (fun b5=>?_)
 refine za 4 rfl ?_
 refine qn (zc1 rfl) Tryz.call429 rfl (all_L (m:=m)) ?_
 rintro v H' ⟨b1,rfl,rfl⟩
 refine za 2 rfl (QE rfl Tryz.call451 ?_)
 intro lp D r hst hpd hps hasg hbody hA
 have hr:=QV hst hpd
 show qk _ _ _ #[_,_] _ _
 refine ((qge (b1:=b1) (m:=m) (H:=(lp,.obj (.loop r))::(D,.obj (.deferred (some [])))::(b5,.cells 4 1 [.bool false])::(b4,.cells 3 1 [zi 0])::(b3,.cells 172 1 [.func (.func 396) #[] #[zp bf]])::(bf,.cells 3 1 [zi f])::H) hT (fun q Hi=>((∀ j,m.testBit j=true→q.testBit j=true∨(j:Int)<f)∧∀ j,q.testBit j=true→m.testBit j=true)∧Hi=(lp,.obj (.loop r))::(D,.obj (.deferred (some [])))::(b5,.cells 4 1 [.bool false])::(b4,.cells 3 1 [zi 0])::(b3,.cells 172 1 [.func (.func 396) #[] #[zp bf]])::(bf,.cells 3 1 [zi f])::H) (fun Hi=>∃ i:Nat,JZ m f=some i∧Hi=(lp,.obj (.loop (Loop.at r .done (some .ret))))::(D,.obj (.deferred (some [])))::(b5,.cells 4 1 [.bool true])::(b4,.cells 3 1 [zi (i:Int)])::(b3,.cells 172 1 [.func (.func 396) #[] #[zp bf]])::(bf,.cells 3 1 [zi f])::H) hm ?_ ⟨⟨fun j hj=>.inl hj,fun j hj=>hj⟩,rfl⟩).hsub zH).mono ?_
 ·intro q Hi hq0 hq hJ
  obtain ⟨⟨hj1,hj2⟩,rfl⟩:=hJ
  obtain ⟨hk,hkb,hkl,hka⟩:=qkK hq0 hq
  obtain ⟨k,hkk⟩:∃ k,k=Go.Lib.ctz 64 q:=⟨_,rfl⟩
  rw [← hkk] at hk hkb hkl hka ⊢
  refine QB hst hpd hA hps rfl hasg rfl rfl rfl zT ?_
  refine za 3 rfl (JS hst hpd zT hbody (za 2 rfl ?_))
  refine qf (v:=.func (.func 396) #[] #[zp bf]) rfl qlW rfl (qh.own (b:=b3) zM rfl) rfl ?_
  refine qH rfl rfl ?_
  refine YI (fa:=[]) (ca:=[zp bf]) rfl (.cons rfl .nil) rfl Tryz.call396 rfl (nx_q (bf:=bf) (f:=f) zM) ?_
  refine qs ?_
  refine qq (p:=f≤(k:Int)) rfl (by simp) (fun g0=>?_) (fun g0=>?_)
  ·skip
   refine za 2 rfl ?_
   refine qy (l':=[zi (k:Int)]) rfl rfl ty3 rfl rfl (b:=b4) zM rfl rfl zU ?_
   refine qy (l':=[.bool true]) rfl rfl ty4 rfl rfl (b:=b5) zM rfl rfl zU ?_
   refine qs (XV zT ?_)
   exact ⟨(lp,.obj (.loop (Loop.at r .done (some .ret))))::(D,.obj (.deferred (some [])))::(b5,.cells 4 1 [.bool true])::(b4,.cells 3 1 [zi (k:Int)])::(b3,.cells 172 1 [.func (.func 396) #[] #[zp bf]])::(bf,.cells 3 1 [zi f])::H,zH,.inr ⟨rfl,k,qa4 hk (hj2 k hkb) g0 (fun j hj hb=>(hj1 j hb).elim (fun h=>by rw [hkl j hj] at h; cases h) id),rfl⟩⟩
   skip
  ·skip
   refine za 2 rfl (Zo zT ?_)
   rw [hr]
   refine ⟨(lp,.obj (.loop r))::(D,.obj (.deferred (some [])))::(b5,.cells 4 1 [.bool false])::(b4,.cells 3 1 [zi 0])::(b3,.cells 172 1 [.func (.func 396) #[] #[zp bf]])::(bf,.cells 3 1 [zi f])::H,zH,.inl ⟨rfl,⟨fun j hb=>?_,fun j hb=>hj2 j ?_⟩,rfl⟩⟩
   ·rcases hj1 j hb with h | h
    ·by_cases e:j=k
     ·subst e; exact .inr zO
     ·exact .inl (by rw [hka,h,decide_eq_true e]; rfl)
    ·exact .inr h
   ·rw [hka,Bool.and_eq_true] at hb; exact hb.1
 ·intro _ H' hp
  obtain ⟨Hi',hs,hJS⟩:=hp
  rcases hJS with ⟨⟨hj1,hj2⟩,rfl⟩ | ⟨i,hi,rfl⟩
  case inr =>
   refine ⟨.done,some .ret,(b1,.cells 247 1 [zu (m:Int)])::(D,.obj (.deferred (some [])))::(b5,.cells 4 1 [.bool true])::(b4,.cells 3 1 [zi (i:Int)])::(b3,.cells 172 1 [.func (.func 396) #[] #[zp bf]])::(bf,.cells 3 1 [zi f])::H,hs.trans zH,by decide,?_⟩
   show W _ _ _ _ _ _ _ _ _
   refine zC (H2:=(bf,.cells 3 1 [zi f])::H) Tryz.results395 (.cons zT (.nil _)) (.one rfl ty3 rfl (qh.own (b:=b4) zM rfl)) (.one rfl ty4 rfl (qh.own (b:=b5) zM rfl)) zH ?_
   exact ⟨by unfold Z7; rw [hi],rfl⟩
  refine ⟨.ready,none,(b1,.cells 247 1 [zu (m:Int)])::(D,.obj (.deferred (some [])))::(b5,.cells 4 1 [.bool false])::(b4,.cells 3 1 [zi 0])::(b3,.cells 172 1 [.func (.func 396) #[] #[zp bf]])::(bf,.cells 3 1 [zi f])::H,by rw [hr]; exact hs.trans zH,by decide,?_⟩
  show W _ _ _ _ _ _ _ _ _
  refine za 2 rfl ?_
  refine qy (l':=[zi 0]) rfl rfl ty3 rfl rfl (b:=b4) zM rfl rfl zU ?_
  refine qy (l':=[.bool false]) rfl rfl ty4 rfl rfl (b:=b5) zM rfl rfl zU ?_
  refine qs ?_
  refine zC (H2:=(bf,.cells 3 1 [zi f])::H) Tryz.results395 (.cons zT (.nil _)) (.one rfl ty3 rfl (qh.own (b:=b4) zM rfl)) (.one rfl ty4 rfl (qh.own (b:=b5) zM rfl)) zH ?_
  exact ⟨by unfold Z7; rw [qa5 (fun j hb=>(hj1 j hb).resolve_left (by simp))],rfl⟩
theorem KX (hm:m<18446744073709551616):Zu Tryz.prog (Tab) 334 [zu ((m:Nat):Int),zi f] (Z7 m f):=by
 intro w0 H hT
 refine qd Tryz.func334 rfl Tryz.ntmps334 rfl rfl (zo ?_)
 refine qR rfl rfl rfl (fun b3=>?_)
 refine za 5 rfl (qL .nil (.cons rfl .nil) rfl ?_)
 refine qn (zc2 rfl rfl) Tryz.call395 rfl ((qk8 (m:=m) (bf:=b3) (f:=f) (H:=H) hT hm).hsub (.refl _)) ?_
 rintro v H' ⟨rfl,rfl⟩
 rcases hn:JZ m f with _ | i
 ·skip
  rw [show Z7 m f=.tuple #[zi 0,.bool false] from by unfold Z7; rw [hn]]
  refine za 5 rfl ?_
  refine qP (H2:=H) Tryz.results334 rfl rfl (.nil _) zH ?_
  exact ⟨rfl,rfl⟩
 ·skip
  rw [show Z7 m f=.tuple #[zi (i:Int),.bool true] from by unfold Z7; rw [hn]]
  refine za 5 rfl ?_
  refine qP (H2:=H) Tryz.results334 rfl rfl (.nil _) zH ?_
  exact ⟨rfl,rfl⟩
theorem qat (hm:m<18446744073709551616):Zu Tryz.prog (Tab) 335 [zu ((m:Nat):Int),zi f] (Yn m f):=by
 intro w0 H hT
 refine qd Tryz.func335 rfl Tryz.ntmps335 rfl rfl (za 8 rfl ?_)
 refine zI (zc2 rfl rfl) Tryz.call334 rfl hT (KX (f:=f) hm) ?_
 rcases hn:JZ m f with _ | i
 ·skip
  rw [show Z7 m f=.tuple #[zi 0,.bool false] from by unfold Z7; rw [hn]]
  refine za 13 rfl ?_
  refine zI (zc2 rfl rfl) Tryz.call334 rfl hT (KX (f:=0) hm) ?_
  rcases h0:JZ m 0 with _ | i
  ·skip
   rw [show Z7 m 0=.tuple #[zi 0,.bool false] from by unfold Z7; rw [h0]]
   refine za 5 rfl ?_
   refine qP (H2:=H) Tryz.results335 rfl rfl (.nil _) zH ?_
   exact ⟨by unfold Yn ZI; rw [hn,h0]; rfl,rfl⟩
  ·skip
   rw [show Z7 m 0=.tuple #[zi (i:Int),.bool true] from by unfold Z7; rw [h0]]
   refine za 5 rfl ?_
   refine qP (H2:=H) Tryz.results335 rfl rfl (.nil _) zH ?_
   exact ⟨by unfold Yn ZI; rw [hn,h0]; rfl,rfl⟩
 ·skip
  rw [show Z7 m f=.tuple #[zi (i:Int),.bool true] from by unfold Z7; rw [hn]]
  refine za 15 rfl ?_
  refine qP (H2:=H) Tryz.results335 rfl rfl (.nil _) zH ?_
  exact ⟨by unfold Yn ZI; rw [hn]; rfl,rfl⟩
def rdC (p:Int × Int):List Value:=[zi p.1,zi p.2]
theorem QT (p:Int × Int):(rdC p).length=2:=rfl
structure Sct where
 D:List (Int × Int)
 m:Nat
 st:Int
variable {S:Sct}
def scC (S:Sct):List Value:=S.D.flatMap rdC++[zu ((S.m:Nat):Int),zi S.st]
structure Zw (S:Sct):Prop where
 len:S.D.length=64
 rng:∀ p∈S.D,0≤p.1∧p.1≤8∧0≤p.2∧p.2≤S.st
 m64:S.m<18446744073709551616
 bit:∀ i,S.m.testBit i=(match S.D[i]? with
  | some p=>decide (0<p.1)
  | none=>false)
theorem QP (h:S.D.length=64):(S.D.flatMap rdC).length=128:=by rw [zg QT,h]
theorem JH (h:S.D.length=64):(scC S).length=130:=by unfold scC; rw [List.length_append,QP h]; rfl
theorem XN (h:S.D.length=64) (hp:S.D[i]?=some p) (hj:j<2):(scC S)[i*2+j]?=(rdC p)[j]?:=by
 unfold scC
 have hi:=(List.getElem?_eq_some_iff.1 hp).1
 rw [List.getElem?_append_left (by rw [QP h]; omega)]
 exact ZT QT hp hj
theorem qgZ (h:S.D.length=64):(scC S)[128]?=some (zu ((S.m:Nat):Int)):=by
 unfold scC
 rw [List.getElem?_append_right (by rw [QP h]; exact Nat.le_refl _),QP h]; rfl
theorem qd7 (h:S.D.length=64):(scC S)[129]?=some (zi S.st):=by
 unfold scC
 rw [List.getElem?_append_right (by rw [QP h]; decide),QP h]; rfl
theorem Xf (h:S.D.length=64) {q:Int × Int} {v:Value} (hp:S.D[i]?=some p) (hj:j<2) (e:(rdC p).set j v=rdC q):(scC S).set (i*2+j) v=scC ⟨S.D.set i q,S.m,S.st⟩:=by
 unfold scC
 have hi:=(List.getElem?_eq_some_iff.1 hp).1
 rw [List.set_append_left _ _ (by rw [QP h]; omega),qaZ QT hp hj e]
theorem qc6 (h:S.D.length=64) :(scC S).set 128 (zu ((m:Nat):Int))=scC ⟨S.D,m,S.st⟩:=by
 unfold scC
 rw [List.set_append_right _ _ (by rw [QP h]; exact Nat.le_refl _),QP h]; rfl
theorem qgY (h:S.D.length=64) {t:Int}:(scC S).set 129 (zi t)=scC ⟨S.D,S.m,t⟩:=by
 unfold scC
 rw [List.set_append_right _ _ (by rw [QP h]; decide),QP h]; rfl
theorem sIn_q (hl:S.D.length=64) (hm:(sb,.cells 250 130 (scC S))∈H) :qG Tryz.prog w0 H 340 [zp sb] (zu ((S.m:Nat):Int)):=by
 refine qd Tryz.func340 rfl Tryz.ntmps340 rfl rfl (za 6 rfl ?_)
 refine W_x (qE rfl rfl Yh) (fun _ h=>by cases h) rfl ?_
 refine za 7 rfl ?_
 refine qf (v:=zu ((S.m:Nat):Int)) rfl z5 rfl (qh.own (b:=sb) hm (qgZ hl)) rfl ?_
 refine za 2 rfl ?_
 refine qj (H2:=H) Tryz.results340 rfl (.nil _) zH ?_
 exact ⟨rfl,rfl⟩
theorem qg0 (hl:S.D.length=64) (hm:(sb,.cells 250 130 (scC S))∈H) :qG Tryz.prog w0 H 341 [zp sb] (zi S.st):=by
 refine qd Tryz.func341 rfl Tryz.ntmps341 rfl rfl (za 6 rfl ?_)
 refine W_x (qE rfl rfl Yh) (fun _ h=>by cases h) rfl ?_
 refine za 7 rfl ?_
 refine qf (v:=zi S.st) rfl ty3 rfl (qh.own (b:=sb) hm (qd7 hl)) rfl ?_
 refine za 2 rfl ?_
 refine qj (H2:=H) Tryz.results341 rfl (.nil _) zH ?_
 exact ⟨rfl,rfl⟩
def Zy (sb:Nat) (r:Int):Value:=.tuple #[.pointer (if 0≤r∧r<64 then some ⟨sb,r.toNat*2,none⟩ else none),zi (if 0≤r∧r<64 then 0 else 2)]
theorem qcg:qG Tryz.prog w0 H 140 [zp sb,zi r] (Zy sb r):=by
 refine qd Tryz.func140 rfl Tryz.ntmps140 rfl rfl (za 8 rfl ?_)
 refine W_x (qE rfl rfl Yh) (fun _ h=>by cases h) rfl ?_
 refine za 5 rfl ?_
 rcases (show r<0∨(¬ r<0∧64≤r)∨(¬ r<0∧¬ 64≤r) by omega) with hr | hr | hr
 ·skip
  refine za 1 rfl ?_
  first | rw [decide_eq_true (by omega)] | rw [decide_eq_false (by omega)]
  refine za 11 rfl ?_
  refine qP (H2:=H) Tryz.results140 rfl rfl (.nil _) zH ?_
  refine ⟨?_,rfl⟩
  unfold Zy
  rw [if_neg (by omega),if_neg (by omega)]
 ·skip
  refine za 1 rfl ?_
  first | rw [decide_eq_true (by omega)] | rw [decide_eq_false (by omega)]
  refine za 5 rfl ?_
  first | rw [decide_eq_true (by omega)] | rw [decide_eq_false (by omega)]
  refine za 8 rfl ?_
  refine qP (H2:=H) Tryz.results140 rfl rfl (.nil _) zH ?_
  refine ⟨?_,rfl⟩
  unfold Zy
  rw [if_neg (by omega),if_neg (by omega)]
 ·skip
  obtain ⟨i,rfl⟩:∃ i:Nat,r=(i:Int):=⟨r.toNat,by omega⟩
  refine za 1 rfl ?_
  first | rw [decide_eq_true (by omega)] | rw [decide_eq_false (by omega)]
  refine za 5 rfl ?_
  first | rw [decide_eq_true (by omega)] | rw [decide_eq_false (by omega)]
  refine za 11 rfl ?_
  refine zh (j:=i) rfl rfl qlT qah (by first | rfl | omega) (by first | decide | omega | simp) rfl rfl ?_
  refine za 3 rfl ?_
  refine qP (H2:=H) Tryz.results140 rfl rfl (.nil _) zH ?_
  refine ⟨?_,rfl⟩
  unfold Zy
  rw [if_pos (by omega),if_pos (by omega),Int.toNat_natCast,Nat.zero_add]
def enS (S:Sct) (r:Int):Sct × Int:=if r<0∨64≤r then (S,2) else match S.D[r.toNat]? with
 | some p=>if p.1=8 then (S,3) else if p.1=0 then (⟨S.D.set r.toNat (1,S.st+1),QL S.m [r],S.st+1⟩,0) else (⟨S.D.set r.toNat (p.1+1,p.2),S.m,S.st⟩,0)
 | none=>(S,2)
def exS (S:Sct) (r:Int):Sct × Bool × Int:=if r<0∨64≤r then (S,false,2) else match S.D[r.toNat]? with
 | some p=>if p.1=0 then (S,false,6) else if 1<p.1 then (⟨S.D.set r.toNat (p.1-1,p.2),S.m,S.st⟩,false,0) else (⟨S.D.set r.toNat (0,0),QU S.m [r],S.st⟩,true,0)
 | none=>(S,false,2)
def ofS (S:Sct) (r:Int):Int × Int:=if r<0∨64≤r then (0,0) else match S.D[r.toNat]? with
 | some p=>p
 | none=>(0,0)
theorem qbn (h:i<64) (hp:S.D[i]?=some p):enS S (i:Int)=if p.1=8 then (S,3) else if p.1=0 then (⟨S.D.set i (1,S.st+1),QL S.m [(i:Int)],S.st+1⟩,0) else (⟨S.D.set i (p.1+1,p.2),S.m,S.st⟩,0):=by
 unfold enS; rw [if_neg (by omega),Int.toNat_natCast,hp]
theorem qbl (h:i<64) (hp:S.D[i]?=some p):exS S (i:Int)=if p.1=0 then (S,false,6) else if 1<p.1 then (⟨S.D.set i (p.1-1,p.2),S.m,S.st⟩,false,0) else (⟨S.D.set i (0,0),QU S.m [(i:Int)],S.st⟩,true,0):=by
 unfold exS; rw [if_neg (by omega),Int.toNat_natCast,hp]
theorem qhm (h:i<64) (hp:S.D[i]?=some p):ofS S (i:Int)=p:=by
 unfold ofS; rw [if_neg (by omega),Int.toNat_natCast,hp]
theorem sof_q (hok:Zw S) (hm:(sb,.cells 250 130 (scC S))∈H) :qG Tryz.prog w0 H 430 [zp sb,zi r] (.agg (List.toArray (rdC (ofS S r)))):=by
 have hl:=hok.len
 refine qd Tryz.func430 rfl Tryz.ntmps430 rfl rfl (zo ?_)
 refine qA (l:=rdC (0,0)) qah rfl rfl (fun b4=>?_)
 refine za 4 rfl (qB (zc2 rfl rfl) Tryz.call140 rfl qcg ?_)
 rcases (show (r<0∨64≤r)∨(0≤r∧r<64) by omega) with hr | hr
 ·skip
  rw [show Zy sb r=.tuple #[.pointer none,zi 2] by unfold Zy; rw [if_neg (by omega),if_neg (by omega)]]
  refine za 13 rfl ?_
  refine zb (l:=rdC (0,0)) qah pl246 .nil rfl rfl rfl ?_
  refine qp (l':=rdC (0,0)) rfl rfl qah rfl rfl (b:=b4) zM (by exact Nat.le_refl 2) rfl zU ?_
  refine qs ?_
  refine ZZ (H2:=H) Tryz.results430 rfl (.nil _) qah rfl zM rfl zH ?_
  exact ⟨by rw [show ofS S r=(0,0) from if_pos hr],rfl⟩
 ·skip
  obtain ⟨i,rfl⟩:∃ i:Nat,r=(i:Int):=⟨r.toNat,by omega⟩
  have hi:i<S.D.length:=by omega
  obtain ⟨p,hp⟩:∃ p,S.D[i]?=some p:=⟨_,List.getElem?_eq_getElem hi⟩
  have hpr:=hok.rng p (List.mem_of_getElem? hp)
  rw [show Zy sb (i:Int)=.tuple #[.pointer (some ⟨sb,i*2,none⟩),zi 0] by unfold Zy; rw [if_pos (by omega),if_pos (by omega),Int.toNat_natCast]]
  refine za 16 rfl ?_
  refine qK (vs:=rdC p) rfl qah rfl (b:=sb) (by repeat (first | exact hm | apply List.mem_cons_of_mem)) (by rw [Nat.ble_eq,JH hl]; omega) (by unfold scC; rw [List.drop_append_of_le_length (by rw [QP hl]; omega),List.take_append_of_le_length (by rw [List.length_drop,QP hl]; omega)]; exact ZN (o:=0) (m:=2) QT hp (by decide)) rfl ?_
  refine qp (l':=rdC p) rfl rfl qah rfl rfl (b:=b4) zM (by exact Nat.le_refl 2) rfl zU ?_
  refine qs ?_
  refine ZZ (H2:=H) Tryz.results430 rfl (.nil _) qah rfl zM rfl zH ?_
  exact ⟨by rw [qhm (by omega) hp],rfl⟩
theorem Xg (hok:Zw S) (hm:(sb,.cells 250 130 (scC S))∈H) :qG Tryz.prog w0 H 397 [zp sb,zi r] (zi (ofS S r).2):=by
 refine qd Tryz.func397 rfl Tryz.ntmps397 rfl rfl (za 6 rfl (qB (zc2 rfl rfl) Tryz.call430 rfl (sof_q hok hm) (qlz rfl qdB rfl rfl (za 2 rfl ?_))))
 refine qj (H2:=H) Tryz.results397 rfl (.nil _) zH ?_
 exact ⟨rfl,rfl⟩
theorem qgX (hok:Zw S) (hst:S.st≤1000000000) :qk Tryz.prog w0 139 #[zp sb,zi r] ((sb,.cells 250 130 (scC S))::H) (fun v H'=>v=zi (enS S r).2∧H'=(sb,.cells 250 130 (scC (enS S r).1))::H):=by
 have hl:=hok.len
 refine qd (l:=[zp sb,zi r]) Tryz.func139 rfl Tryz.ntmps139 rfl rfl ?_
 refine za 6 rfl (qB (zc2 rfl rfl) Tryz.call140 rfl qcg ?_)
 rcases (show (r<0∨64≤r)∨(0≤r∧r<64) by omega) with hr | hr
 ·skip
  rw [show Zy sb r=.tuple #[.pointer none,zi 2] by unfold Zy; rw [if_neg (by omega),if_neg (by omega)]]
  refine za 18 rfl ?_
  refine qj (H2:=(sb,.cells 250 130 (scC S))::H) Tryz.results139 rfl (.nil _) zH ?_
  rw [show enS S r=(S,2) from if_pos hr]
  exact ⟨rfl,rfl⟩
 ·skip
  obtain ⟨i,rfl⟩:∃ i:Nat,r=(i:Int):=⟨r.toNat,by omega⟩
  have hi:i<S.D.length:=by omega
  obtain ⟨p,hp⟩:∃ p,S.D[i]?=some p:=⟨_,List.getElem?_eq_getElem hi⟩
  have hpr:=hok.rng p (List.mem_of_getElem? hp)
  rw [show Zy sb (i:Int)=.tuple #[.pointer (some ⟨sb,i*2,none⟩),zi 0] by unfold Zy; rw [if_pos (by omega),if_pos (by omega),Int.toNat_natCast]]
  refine za 18 rfl ?_
  refine qf (v:=zi p.1) rfl ty3 rfl (qh.own (b:=sb) zM ((XN (S:=S) (j:=0) hl hp zd).trans rfl)) rfl ?_
  refine za 3 rfl ?_
  refine qq (p:=p.1=8) rfl (by simp) (fun q0=>?_) (fun q0=>?_)
  ·skip
   refine za 3 rfl ?_
   refine qj (H2:=(sb,.cells 250 130 (scC S))::H) Tryz.results139 rfl (.nil _) zH ?_
   rw [qbn (by omega) hp,if_pos q0]
   exact ⟨rfl,rfl⟩
  ·skip
   refine za 4 rfl ?_
   refine qf (v:=zi p.1) rfl ty3 rfl (qh.own (b:=sb) zM ((XN (S:=S) (j:=0) hl hp zd).trans rfl)) rfl ?_
   refine za 3 rfl ?_
   refine qq (p:=p.1=0) rfl (by simp) (fun q1=>?_) (fun q1=>?_)
   ·skip
    refine za 4 rfl ?_
    refine qf (v:=zi S.st) rfl ty3 rfl (qh.own (b:=sb) zM (qd7 (S:=S) hl)) rfl ?_
    refine qF rfl rfl (qM (m:=S.st+1) (qW zO)) rfl ?_
    refine za 2 rfl ?_
    refine qy (l':=scC (Sct.mk S.D S.m (S.st+1))) rfl rfl ty3 rfl rfl (b:=sb) zM (by rw [Nat.blt_eq,JH (S:=S) hl]; omega) (by exact qgY hl) zU ?_
    refine za 6 rfl ?_
    refine qf (v:=zi (S.st+1)) rfl ty3 rfl (qh.own (b:=sb) zM (qd7 (S:=(Sct.mk S.D S.m (S.st+1))) hl)) rfl ?_
    refine za 2 rfl ?_
    refine qy (l':=scC (Sct.mk (S.D.set i (p.1,S.st+1)) S.m (S.st+1))) rfl rfl ty3 rfl rfl (b:=sb) zM (by rw [Nat.blt_eq,JH (S:=(Sct.mk S.D S.m (S.st+1))) hl]; omega) (by exact Xf (S:=(Sct.mk S.D S.m (S.st+1))) (j:=1) hl hp (by decide) rfl) zU ?_
    refine za 6 rfl ?_
    refine qf (v:=zu ((S.m:Nat):Int)) rfl z5 rfl (qh.own (b:=sb) zM (qgZ (S:=(Sct.mk (S.D.set i (p.1,S.st+1)) S.m (S.st+1))) (by show (S.D.set i _).length=64; rw [List.length_set]; exact hl))) rfl ?_
    refine qH rfl rfl ?_
    refine qv (l:=[zi (i:Int)]) qZ ty3 (.cons rfl rfl rfl rfl rfl .nil) rfl rfl rfl rfl rfl rfl rfl (fun b49=>?_)
    refine qB (zc2 rfl rfl) Tryz.call232 rfl (qaO (m:=S.m) (l:=[(i:Int)]) (cap:=1) hok.m64 (by show 1≤4611686018427387904; decide) (Holds.own (b:=b49) zM)) ?_
    refine za 2 rfl ?_
    refine qy (l':=scC (Sct.mk (S.D.set i (p.1,S.st+1)) (QL S.m [(i:Int)]) (S.st+1))) rfl rfl z5 rfl rfl (b:=sb) zM (by rw [Nat.blt_eq,JH (S:=(Sct.mk (S.D.set i (p.1,S.st+1)) S.m (S.st+1))) (by show (S.D.set i _).length=64; rw [List.length_set]; exact hl)]; omega) (by exact qc6 (S:=(Sct.mk (S.D.set i (p.1,S.st+1)) S.m (S.st+1))) (by show (S.D.set i _).length=64; rw [List.length_set]; exact hl)) zU ?_
    refine za 6 rfl ?_
    refine qf (v:=zi p.1) rfl ty3 rfl (qh.own (b:=sb) zM ((XN (S:=(Sct.mk (S.D.set i (p.1,S.st+1)) (QL S.m [(i:Int)]) (S.st+1))) (j:=0) (by show (S.D.set i _).length=64; rw [List.length_set]; exact hl) (List.getElem?_set_self hi) (by decide)).trans rfl)) rfl ?_
    refine qF rfl rfl (qM (m:=p.1+1) (qW zO)) rfl ?_
    refine za 2 rfl ?_
    refine qy (l':=scC (Sct.mk ((S.D.set i (p.1,S.st+1)).set i (p.1+1,S.st+1)) (QL S.m [(i:Int)]) (S.st+1))) rfl rfl ty3 rfl rfl (b:=sb) zM (by rw [Nat.blt_eq,JH (S:=(Sct.mk (S.D.set i (p.1,S.st+1)) (QL S.m [(i:Int)]) (S.st+1))) (by show (S.D.set i _).length=64; rw [List.length_set]; exact hl)]; omega) (by exact Xf (S:=(Sct.mk (S.D.set i (p.1,S.st+1)) (QL S.m [(i:Int)]) (S.st+1))) (j:=0) (by show (S.D.set i _).length=64; rw [List.length_set]; exact hl) (List.getElem?_set_self hi) (by decide) rfl) zU ?_
    refine za 4 rfl ?_
    refine qj (H2:=(sb,.cells 250 130 (scC (Sct.mk ((S.D.set i (p.1,S.st+1)).set i (p.1+1,S.st+1)) (QL S.m [(i:Int)]) (S.st+1))))::H) Tryz.results139 rfl (.nil _) zH ?_
    rw [qbn (by omega) hp,if_neg q0,if_pos q1]
    refine ⟨rfl,?_⟩
    rw [List.set_set,q1]
    rfl
   ·skip
    refine za 6 rfl ?_
    refine qf (v:=zi p.1) rfl ty3 rfl (qh.own (b:=sb) zM ((XN (S:=S) (j:=0) hl hp zd).trans rfl)) rfl ?_
    refine qF rfl rfl (qM (m:=p.1+1) (qW zO)) rfl ?_
    refine za 2 rfl ?_
    refine qy (l':=scC (Sct.mk (S.D.set i (p.1+1,p.2)) S.m S.st)) rfl rfl ty3 rfl rfl (b:=sb) zM (by rw [Nat.blt_eq,JH (S:=S) hl]; omega) (by exact Xf (j:=0) hl hp (by decide) rfl) zU ?_
    refine za 4 rfl ?_
    refine qj (H2:=(sb,.cells 250 130 (scC (Sct.mk (S.D.set i (p.1+1,p.2)) S.m S.st)))::H) Tryz.results139 rfl (.nil _) zH ?_
    rw [qbn (by omega) hp,if_neg q0,if_neg q1]
    exact ⟨rfl,rfl⟩
theorem qkk (hok:Zw S) :qk Tryz.prog w0 58 #[zp sb,zi r] ((sb,.cells 250 130 (scC S))::H) (fun v H'=>v=.tuple #[.bool (exS S r).2.1,zi (exS S r).2.2]∧H'=(sb,.cells 250 130 (scC (exS S r).1))::H):=by
 have hl:=hok.len
 refine qd (l:=[zp sb,zi r]) Tryz.func58 rfl Tryz.ntmps58 rfl rfl ?_
 refine za 7 rfl (qB (zc2 rfl rfl) Tryz.call140 rfl qcg ?_)
 rcases (show (r<0∨64≤r)∨(0≤r∧r<64) by omega) with hr | hr
 ·skip
  rw [show Zy sb r=.tuple #[.pointer none,zi 2] by unfold Zy; rw [if_neg (by omega),if_neg (by omega)]]
  refine za 19 rfl ?_
  refine qP (H2:=(sb,.cells 250 130 (scC S))::H) Tryz.results58 rfl rfl (.nil _) zH ?_
  rw [show exS S r=(S,false,2) from if_pos hr]
  exact ⟨rfl,rfl⟩
 ·skip
  obtain ⟨i,rfl⟩:∃ i:Nat,r=(i:Int):=⟨r.toNat,by omega⟩
  have hi:i<S.D.length:=by omega
  obtain ⟨p,hp⟩:∃ p,S.D[i]?=some p:=⟨_,List.getElem?_eq_getElem hi⟩
  have hpr:=hok.rng p (List.mem_of_getElem? hp)
  rw [show Zy sb (i:Int)=.tuple #[.pointer (some ⟨sb,i*2,none⟩),zi 0] by unfold Zy; rw [if_pos (by omega),if_pos (by omega),Int.toNat_natCast]]
  refine za 18 rfl ?_
  refine qf (v:=zi p.1) rfl ty3 rfl (qh.own (b:=sb) zM ((XN (S:=S) (j:=0) hl hp zd).trans rfl)) rfl ?_
  refine za 3 rfl ?_
  refine qq (p:=p.1=0) rfl (by simp) (fun q0=>?_) (fun q0=>?_)
  ·skip
   refine za 4 rfl ?_
   refine qP (H2:=(sb,.cells 250 130 (scC S))::H) Tryz.results58 rfl rfl (.nil _) zH ?_
   rw [qbl (by omega) hp,if_pos q0]
   exact ⟨rfl,rfl⟩
  ·skip
   refine za 6 rfl ?_
   refine qf (v:=zi p.1) rfl ty3 rfl (qh.own (b:=sb) zM ((XN (S:=S) (j:=0) hl hp zd).trans rfl)) rfl ?_
   refine qF rfl rfl (ZY (m:=p.1-1) (qW zO)) rfl ?_
   refine za 2 rfl ?_
   refine qy (l':=scC (Sct.mk (S.D.set i (p.1-1,p.2)) S.m S.st)) rfl rfl ty3 rfl rfl (b:=sb) zM (by rw [Nat.blt_eq,JH (S:=S) hl]; omega) (by exact Xf (j:=0) hl hp (by decide) rfl) zU ?_
   refine za 6 rfl ?_
   refine qf (v:=zi (p.1-1)) rfl ty3 rfl (qh.own (b:=sb) zM ((XN (S:=(Sct.mk (S.D.set i (p.1-1,p.2)) S.m S.st)) (j:=0) (by show (S.D.set i _).length=64; rw [List.length_set]; exact hl) (List.getElem?_set_self hi) (by decide)).trans rfl)) rfl ?_
   refine za 2 rfl ?_
   refine qq (p:=0<p.1-1) rfl (by simp) (fun q1=>?_) (fun q1=>?_)
   ·skip
    refine za 4 rfl ?_
    refine qP (H2:=(sb,.cells 250 130 (scC (Sct.mk (S.D.set i (p.1-1,p.2)) S.m S.st)))::H) Tryz.results58 rfl rfl (.nil _) zH ?_
    rw [qbl (by omega) hp,if_neg q0,if_pos (by omega)]
    exact ⟨rfl,rfl⟩
   ·skip
    refine za 5 rfl ?_
    refine qy (l':=scC (Sct.mk ((S.D.set i (p.1-1,p.2)).set i (p.1-1,0)) S.m S.st)) rfl rfl ty3 rfl rfl (b:=sb) zM (by rw [Nat.blt_eq,JH (S:=(Sct.mk (S.D.set i (p.1-1,p.2)) S.m S.st)) (by show (S.D.set i _).length=64; rw [List.length_set]; exact hl)]; omega) (by exact Xf (S:=(Sct.mk (S.D.set i (p.1-1,p.2)) S.m S.st)) (j:=1) (by show (S.D.set i _).length=64; rw [List.length_set]; exact hl) (List.getElem?_set_self hi) (by decide) rfl) zU ?_
    refine za 6 rfl ?_
    refine qf (v:=zu ((S.m:Nat):Int)) rfl z5 rfl (qh.own (b:=sb) zM (qgZ (S:=(Sct.mk ((S.D.set i (p.1-1,p.2)).set i (p.1-1,0)) S.m S.st)) (by show ((S.D.set i _).set i _).length=64; rw [List.length_set,List.length_set]; exact hl))) rfl ?_
    refine qH rfl rfl ?_
    refine qv (l:=[zi (i:Int)]) qZ ty3 (.cons rfl rfl rfl rfl rfl .nil) rfl rfl rfl rfl rfl rfl rfl (fun b45=>?_)
    refine qB (zc2 rfl rfl) Tryz.call141 rfl (qal (m:=S.m) (l:=[(i:Int)]) (cap:=1) hok.m64 (by show 1≤4611686018427387904; decide) (Holds.own (b:=b45) zM)) ?_
    refine za 2 rfl ?_
    refine qy (l':=scC (Sct.mk ((S.D.set i (p.1-1,p.2)).set i (p.1-1,0)) (QU S.m [(i:Int)]) S.st)) rfl rfl z5 rfl rfl (b:=sb) zM (by rw [Nat.blt_eq,JH (S:=(Sct.mk ((S.D.set i (p.1-1,p.2)).set i (p.1-1,0)) S.m S.st)) (by show ((S.D.set i _).set i _).length=64; rw [List.length_set,List.length_set]; exact hl)]; omega) (by exact qc6 (S:=(Sct.mk ((S.D.set i (p.1-1,p.2)).set i (p.1-1,0)) S.m S.st)) (by show ((S.D.set i _).set i _).length=64; rw [List.length_set,List.length_set]; exact hl)) zU ?_
    refine za 5 rfl ?_
    refine qP (H2:=(sb,.cells 250 130 (scC (Sct.mk ((S.D.set i (p.1-1,p.2)).set i (p.1-1,0)) (QU S.m [(i:Int)]) S.st)))::H) Tryz.results58 rfl rfl (.nil _) zH ?_
    rw [qbl (by omega) hp,if_neg q0,if_neg (by omega)]
    refine ⟨rfl,?_⟩
    rw [List.set_set,show p.1-1=0 by omega]
structure Cnt where
 n:Int
 top:Int
 stuck:Bool
variable {c:Cnt}
def cnC (c:Cnt):List Value:=[zi c.n,zi c.top,.bool c.stuck]
def Q5 (c:Cnt):Cnt × Bool × Int:=if c.n=0 then (c,false,4) else if c.stuck=true then (c,false,0) else (⟨c.n-1,c.top,c.stuck⟩,decide (c.n-1=0),0)
theorem qjl {cb:Nat} (hm:(cb,.cells 398 3 (cnC c))∈H) :qG Tryz.prog w0 H 345 [zp cb] (.bool (decide (c.n=0))):=by
 refine qd Tryz.func345 rfl Tryz.ntmps345 rfl rfl (za 7 rfl ?_)
 refine qf (v:=zi c.n) rfl ty3 rfl (qh.own (b:=cb) hm rfl) rfl ?_
 refine za 3 rfl ?_
 refine qj (H2:=H) Tryz.results345 rfl (.nil _) zH ?_
 exact ⟨rfl,rfl⟩
theorem qm1 {cb:Nat} (hr:0≤c.n∧c.n≤65535) :qk Tryz.prog w0 256 #[zp cb] ((cb,.cells 398 3 (cnC c))::H) (fun v H'=>v=.tuple #[.bool (Q5 c).2.1,zi (Q5 c).2.2]∧H'=(cb,.cells 398 3 (cnC (Q5 c).1))::H):=by
 refine qd (l:=[zp cb]) Tryz.func256 rfl Tryz.ntmps256 rfl rfl ?_
 refine za 8 rfl ?_
 refine W_x (qE rfl rfl qgI) (fun _ h=>by cases h) rfl ?_
 refine za 7 rfl ?_
 refine qB (zc1 rfl) Tryz.call345 rfl (qjl (c:=c) zM) ?_
 refine za 2 rfl ?_
 refine qq (p:=c.n=0) rfl (by simp) (fun q0=>?_) (fun q0=>?_)
 ·skip
  refine za 4 rfl ?_
  refine qP (H2:=(cb,.cells 398 3 (cnC c))::H) Tryz.results256 rfl rfl (.nil _) zH ?_
  rw [show Q5 c=(c,false,4) from if_pos q0]
  exact ⟨rfl,rfl⟩
 ·skip
  refine za 4 rfl ?_
  refine qf (v:=.bool c.stuck) rfl ty4 rfl (qh.own (b:=cb) zM rfl) rfl ?_
  refine za 2 rfl ?_
  refine qq (p:=c.stuck=true) rfl .rfl (fun q1=>?_) (fun q1=>?_)
  ·skip
   refine za 4 rfl ?_
   refine qP (H2:=(cb,.cells 398 3 (cnC c))::H) Tryz.results256 rfl rfl (.nil _) zH ?_
   rw [show Q5 c=(c,false,0) by unfold Q5; rw [if_neg q0,if_pos q1]]
   exact ⟨rfl,rfl⟩
  ·skip
   refine za 7 rfl ?_
   refine qf (v:=zi c.n) rfl ty3 rfl (qh.own (b:=cb) zM rfl) rfl ?_
   refine qF rfl rfl (ZY (m:=c.n-1) (qW zO)) rfl ?_
   refine za 3 rfl ?_
   refine qy (l':=cnC (Cnt.mk (c.n-1) c.top c.stuck)) rfl rfl ty3 rfl rfl (b:=cb) zM rfl rfl zU ?_
   refine za 5 rfl ?_
   refine qB (zc1 rfl) Tryz.call345 rfl (qjl (c:=(Cnt.mk (c.n-1) c.top c.stuck)) zM) ?_
   refine za 3 rfl ?_
   refine qP (H2:=(cb,.cells 398 3 (cnC (Cnt.mk (c.n-1) c.top c.stuck)))::H) Tryz.results256 rfl rfl (.nil _) zH ?_
   rw [show Q5 c=(⟨c.n-1,c.top,c.stuck⟩,decide (c.n-1=0),0) by unfold Q5; rw [if_neg q0,if_neg q1]]
   exact ⟨rfl,rfl⟩
structure Rfe where
 key:Int
 cb:Nat
 clk:Nat
 c:Cnt
variable {E E1 E2:List Rfe} {e:Rfe}
def Rfe.ent (e:Rfe):Int × Value × Nat:=(e.key,.pointer (some ⟨e.cb,0,none⟩),e.clk)
def Rfe.blk (e:Rfe):Nat × Blk:=(e.cb,.cells 398 3 (cnC e.c))
inductive Y6 (rb:Nat) (top:Int) (R:List (Int × Cnt)):qe→Prop
 | mk {mb cl:Nat} {E:List Rfe} (hok:QH (E.map Rfe.ent) cl) (hR:E.map (fun e=>(e.key,e.c))=R):Y6 rb top R ((rb,.cells 304 2 [.int .i64 top,.map (some mb)])::(mb,.obj (qS (Value.int .i64) (E.map Rfe.ent) cl))::E.map Rfe.blk)
def qax (E:List Rfe) (k:Int):Option Rfe:=E.find? (fun e=>decide (k=e.key))
theorem qhS (E:List Rfe) (k:Int):Ys (E.map Rfe.ent) k=(qax E k).map (fun e=>Value.pointer (some ⟨e.cb,0,none⟩)):=by
 unfold Ys qax
 rw [List.find?_map,Option.map_map]
 rfl
theorem qhR (h:qax E k=some e):e∈E∧e.key=k:=by
 unfold qax at h
 have:=List.find?_some h
 exact ⟨List.mem_of_find?_eq_some h,(of_decide_eq_true this).symm⟩
theorem qhQ (E:List Rfe) (k:Int):(Ys (E.map Rfe.ent) k).getD (.pointer none)=.pointer ((qax E k).map fun e=>⟨e.cb,0,none⟩):=by
 rw [qhS]
 cases qax E k <;> rfl
theorem kkI:Z3 Tryz.prog 3 (Value.int .i64):=qcw zk
theorem qeR (hm1:(rb,.cells 304 2 [zi top,.map (some mb)])∈H) (hm2:(mb,.obj (qS (Value.int .i64) (E.map Rfe.ent) cl))∈H) :qG Tryz.prog w0 H 168 [zp rb,zi k] (.pointer ((qax E k).map fun e=>⟨e.cb,0,none⟩)):=by
 refine qd Tryz.func168 rfl Tryz.ntmps168 rfl rfl (za 6 rfl ?_)
 refine W_x (qE rfl rfl qai) (fun _ h=>by cases h) rfl ?_
 refine za 7 rfl ?_
 refine qf (v:=.map (some mb)) rfl qcT rfl (qh.own (b:=rb) hm1 rfl) rfl ?_
 refine qH rfl rfl ?_
 refine qbC (l:=E.map Rfe.ent) (cl:=cl) (a:=k) (kf:=(Value.int .i64)) (b:=mb) (zE:=.pointer none) rfl rfl kkI qcT (fun w=>by kernel_rfl) hm2 rfl ?_
 simp only [Bool.false_eq_true,if_false]
 rw [qhQ]
 refine za 2 rfl ?_
 refine qj (H2:=H) Tryz.results168 rfl (.nil _) zH ?_
 exact ⟨rfl,rfl⟩
theorem qeb {H:qe} {HA HB:qe} (hf:qax (E1++e::E2) k=some e) (hr:0≤e.c.n∧e.c.n≤65535) (hok:QH ((E1++e::E2).map Rfe.ent) cl) :qk Tryz.prog w0 160 #[zp rb,zi k] ((rb,.cells 304 2 [zi top,.map (some mb)])::(mb,.obj (qS (Value.int .i64) ((E1++e::E2).map Rfe.ent) cl))::(HA++((e.cb,.cells 398 3 (cnC e.c))::HB))) (fun v H'=>v=.tuple #[.bool (Q5 e.c).2.1,zi (Q5 e.c).2.2]∧H'=if (Q5 e.c).2.1=true then (rb,.cells 304 2 [zi top,.map (some mb)])::(mb,.obj (qS (Value.int .i64) (JL ((E1++e::E2).map Rfe.ent) k) cl))::(HA++HB) else (rb,.cells 304 2 [zi top,.map (some mb)])::(mb,.obj (qS (Value.int .i64) ((E1++e::E2).map Rfe.ent) cl))::(HA++((e.cb,.cells 398 3 (cnC (Q5 e.c).1))::HB))):=by
 refine qd (l:=[zp rb,zi k]) Tryz.func160 rfl Tryz.ntmps160 rfl rfl ?_
 refine za 7 rfl ?_
 refine W_x (qE rfl rfl qai) (fun _ h=>by cases h) rfl ?_
 refine za 6 rfl ?_
 refine qB (zc2 rfl rfl) Tryz.call168 rfl (qeR (E:=(E1++e::E2)) zM zM) ?_
 rw [hf,show (Option.map (fun e:Rfe=>(⟨e.cb,0,none⟩:Addr)) (some e))=some ⟨e.cb,0,none⟩ from rfl]
 refine za 5 rfl ?_
 refine W_x (qE rfl rfl qgI) (fun _ h=>by cases h) rfl ?_
 refine za 5 rfl ?_
 refine qn (zc1 rfl) Tryz.call256 rfl (qk.hsub (qm1 (cb:=e.cb) (c:=e.c) hr (H:=(rb,.cells 304 2 [zi top,.map (some mb)])::(mb,.obj (qS (Value.int .i64) ((E1++e::E2).map Rfe.ent) cl))::(HA++HB))) zH) ?_
 rintro v H' ⟨rfl,rfl⟩
 rcases hlast:(Q5 e.c).2.1 with _ | _
 ·skip
  refine za 18 rfl ?_
  refine qP (H2:=(rb,.cells 304 2 [zi top,.map (some mb)])::(mb,.obj (qS (Value.int .i64) ((E1++e::E2).map Rfe.ent) cl))::(HA++((e.cb,.cells 398 3 (cnC (Q5 e.c).1))::HB))) Tryz.results160 rfl rfl (.nil _) zH ?_
  exact ⟨rfl,(if_neg zd).symm⟩
 ·skip
  refine za 15 rfl ?_
  refine qf (v:=.map (some mb)) rfl qcT rfl (qh.own (b:=rb) zM rfl) rfl ?_
  refine qH rfl rfl ?_
  refine Jt (a:=k) (l:=(E1++e::E2).map Rfe.ent) (cl:=cl) (kf:=(Value.int .i64)) (b:=mb) rfl rfl kkI qcT hok zU rfl ?_
  refine za 7 rfl ?_
  refine qP (H2:=(rb,.cells 304 2 [zi top,.map (some mb)])::(mb,.obj (qS (Value.int .i64) (JL ((E1++e::E2).map Rfe.ent) k) cl))::(HA++HB)) Tryz.results160 rfl rfl (.nil _) zH ?_
  exact ⟨rfl,(if_pos rfl).symm⟩
theorem qec {H:qe} {HX:qe} (hf:qax E k=none) :qk Tryz.prog w0 160 #[zp rb,zi k] ((rb,.cells 304 2 [zi top,.map (some mb)])::(mb,.obj (qS (Value.int .i64) (E.map Rfe.ent) cl))::HX) (fun v H'=>v=.tuple #[.bool false,zi 4]∧H'=(rb,.cells 304 2 [zi top,.map (some mb)])::(mb,.obj (qS (Value.int .i64) (E.map Rfe.ent) cl))::HX):=by
 refine qd (l:=[zp rb,zi k]) Tryz.func160 rfl Tryz.ntmps160 rfl rfl ?_
 refine za 7 rfl ?_
 refine W_x (qE rfl rfl qai) (fun _ h=>by cases h) rfl ?_
 refine za 6 rfl ?_
 refine qB (zc2 rfl rfl) Tryz.call168 rfl (qeR (E:=E) zM zM) ?_
 rw [hf,show (Option.map (fun e:Rfe=>(⟨e.cb,0,none⟩:Addr)) none)=none from rfl]
 refine za 5 rfl ?_
 refine W_x (qE rfl rfl qgI) (fun _ h=>by cases h) rfl ?_
 refine za 6 rfl (qP Tryz.results160 rfl rfl (.nil _) (.refl _) ?_)
 exact ⟨rfl,rfl⟩
def qd5 (R:List (Int × Cnt)) (k:Int) (c:Cnt):List (Int × Cnt):=R.map (fun q=>if k=q.1 then (q.1,c) else q)
def qfU (R:List (Int × Cnt)) (k:Int):Option Cnt:=(R.find? (fun q=>decide (k=q.1))).map (·.2)
def Jn (R:List (Int × Cnt)) (k:Int):List (Int × Cnt) × Bool × Int:=match qfU R k with
 | some c=>(if (Q5 c).2.1=true then R.filter (fun q=>decide (k≠q.1)) else qd5 R k (Q5 c).1,(Q5 c).2)
 | none=>(R,false,4)
def prj (e:Rfe):Int × Cnt:=(e.key,e.c)
theorem qhI (E:List Rfe) (k:Int):qfU (E.map prj) k=(qax E k).map (·.c):=by
 unfold qfU qax
 rw [List.find?_map,Option.map_map]
 rfl
theorem qf3 (E:List Rfe):(E.map Rfe.ent).map (·.1)=E.map (·.key):=by rw [List.map_map]; rfl
theorem qcY (hn:((E1++e::E2).map (·.key)).Nodup):(∀ q∈E1,q.key≠e.key)∧∀ q∈E2,q.key≠e.key:=by
 rw [List.map_append,List.map_cons,List.nodup_append] at hn
 obtain ⟨h1,h2,h3⟩:=hn
 refine ⟨fun q hq h=>h3 q.key (List.mem_map.2 ⟨q,hq,rfl⟩) e.key List.mem_cons_self h,fun q hq h=>(List.nodup_cons.1 h2).1 (List.mem_map.2 ⟨q,hq,h⟩)⟩
theorem qkt (hn:((E1++e::E2).map (·.key)).Nodup):(E1++{ e with c:=c }::E2).map prj=qd5 ((E1++e::E2).map prj) e.key c:=by
 obtain ⟨h1,h2⟩:=qcY hn
 unfold qd5
 rw [List.map_map,List.map_append,List.map_append,List.map_cons,List.map_cons]
 congr 1
 ·exact List.map_congr_left fun q hq=>(if_neg (fun h=>h1 q hq h.symm)).symm
 ·congr 1
  ·exact (if_pos rfl).symm
  ·exact List.map_congr_left fun q hq=>(if_neg (fun h=>h2 q hq h.symm)).symm
theorem qku (hn:((E1++e::E2).map (·.key)).Nodup):(E1++E2).map prj=((E1++e::E2).map prj).filter (fun q=>decide (e.key≠q.1))∧(E1++E2).map Rfe.ent=JL ((E1++e::E2).map Rfe.ent) e.key:=by
 obtain ⟨h1,h2⟩:=qcY hn
 have key:(E1++E2)=(E1++e::E2).filter (fun q=>decide (e.key≠q.key)):=by
  have f1:E1.filter (fun q=>decide (e.key≠q.key))=E1:=List.filter_eq_self.2 (fun q hq=>decide_eq_true (h1 q hq).symm)
  have f2:E2.filter (fun q=>decide (e.key≠q.key))=E2:=List.filter_eq_self.2 (fun q hq=>decide_eq_true (h2 q hq).symm)
  rw [List.filter_append,List.filter_cons_of_neg (by simp),f1,f2]
 refine ⟨?_,?_⟩
 ·rw [List.filter_map]; conv=>lhs; rw [key]
  rfl
 ·unfold JL
  rw [List.filter_map]; conv=>lhs; rw [key]
  rfl
theorem qdE (c:Cnt):(E1++{ e with c:=c }::E2).map Rfe.ent=(E1++e::E2).map Rfe.ent:=by
 rw [List.map_append,List.map_append]; rfl
section
variable {w0:World} {H HR:qe} {rb:Nat} {top:Int} {R:List (Int × Cnt)}
theorem Y6.drop (hR:Y6 rb top R HR) (hr:∀ p∈R,0≤p.2.n∧p.2.n≤65535) :qk Tryz.prog w0 160 #[zp rb,zi k] (HR++H) (fun v H'=>∃ HR',Y6 rb top (Jn R k).1 HR'∧v=.tuple #[.bool (Jn R k).2.1,zi (Jn R k).2.2]∧H'=HR'++H):=by
 cases hR with
 | @mk mb cl E hok hR =>
  subst hR
  show qk _ _ _ _ ((rb,.cells 304 2 [zi top,.map (some mb)])::(mb,.obj (qS (Value.int .i64) (E.map Rfe.ent) cl))::(E.map Rfe.blk++H)) (fun v H'=>∃ HR',Y6 rb top (Jn (E.map prj) k).1 HR'∧v=.tuple #[.bool (Jn (E.map prj) k).2.1,zi (Jn (E.map prj) k).2.2]∧H'=HR'++H)
  have hg:=qhI E k
  cases hf:qax E k with
  | none =>
   rw [hf] at hg
   refine (qec (H:=H) (top:=top) (HX:=E.map Rfe.blk++H) hf).mono ?_
   rintro v H' ⟨rfl,rfl⟩
   exact ⟨_,.mk (mb:=mb) hok (by unfold Jn; rw [hg]; rfl),by unfold Jn; rw [hg]; rfl,rfl⟩
  | some e =>
   rw [hf] at hg
   obtain ⟨he,rfl⟩:=qhR hf
   obtain ⟨E1,E2,rfl⟩:=List.append_of_mem he
   have hn:((E1++e::E2).map (·.key)).Nodup:=by rw [← qf3]; exact hok.keys
   have hre:=hr (prj e) (List.mem_map.2 ⟨e,he,rfl⟩)
   have:=qeb (H:=H) (w0:=w0) (rb:=rb) (mb:=mb) (cl:=cl) (top:=top) (HA:=E1.map Rfe.blk) (HB:=E2.map Rfe.blk++H) hf hre hok
   rw [List.map_append (f:=Rfe.blk),List.append_assoc]
   refine this.mono ?_
   rintro v H' ⟨rfl,rfl⟩
   have hd:Jn ((E1++e::E2).map prj) e.key=(if (Q5 e.c).2.1=true then ((E1++e::E2).map prj).filter (fun q=>decide (e.key≠q.1)) else qd5 ((E1++e::E2).map prj) e.key (Q5 e.c).1,(Q5 e.c).2):=by
    unfold Jn; rw [hg]; rfl
   rw [hd]
   by_cases hl:(Q5 e.c).2.1=true
   ·rw [if_pos hl,if_pos hl]
    obtain ⟨p1,p2⟩:=qku hn
    refine ⟨_,.mk (mb:=mb) (cl:=cl) (E:=E1++E2) (by rw [p2]; exact hok.del e.key) p1,rfl,?_⟩
    rw [p2,List.map_append (f:=Rfe.blk)]
    simp only [List.cons_append,List.append_assoc]
   ·rw [if_neg hl,if_neg hl]
    refine ⟨_,.mk (mb:=mb) (cl:=cl) (E:=E1++{ e with c:=(Q5 e.c).1 }::E2) (by rw [qdE (e:=e) (Q5 e.c).1]; exact hok) (qkt hn),rfl,?_⟩
    rw [qdE (e:=e) (Q5 e.c).1,List.map_append (f:=Rfe.blk)]
    simp only [List.cons_append,List.append_assoc]
    rfl
end
theorem qg8 (ht:1≤top∧top≤65535) :qk Tryz.prog w0 108 #[zi top] (H) (fun v H'=>∃ rb HR,Y6 rb top [] HR∧v=.tuple #[zp rb,zi 0]∧H'=HR++H):=by
 refine qd (l:=[zi top]) Tryz.func108 rfl Tryz.ntmps108 rfl rfl ?_
 refine za 8 rfl ?_
 first | rw [decide_eq_true (by omega)] | rw [decide_eq_false (by omega)]
 refine za 5 rfl ?_
 first | rw [decide_eq_true (by omega)] | rw [decide_eq_false (by omega)]
 refine za 6 rfl ?_
 refine Xz (kf:=(Value.int .i64)) rfl (fun b11=>?_)
 refine zb (l:=[zi top,.map (some b11)]) ty304 pl304 (.cons rfl rfl rfl rfl rfl (.cons rfl rfl rfl rfl rfl .nil)) rfl rfl rfl ?_
 refine qR (l:=[zi top,.map (some b11)]) rfl rfl rfl (fun b13=>?_)
 refine za 3 rfl (qP Tryz.results108 rfl rfl (.nil _) (.refl _) ?_)
 exact ⟨b13,_,.mk (E:=[]) (QH.nil 0) rfl,rfl,rfl⟩
end Go.Proofs.YtincjohoncljoaaGreatDoor
