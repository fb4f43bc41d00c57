/-
  Own work: contracts of functions that the statement reaches, and plain facts on what they compute; each theorem says its conditions.
-/
import Derived.Test.YtincjohoncljoaaGreatDoorRows
import Derived.Test.YtincjohoncljoaaGreatDoorLqS1
import Derived.Test.YtincjohoncljoaaGreatDoorLqS2
import Derived.IntWalk
import Derived.Lib.TrailingZeros
import Derived.ChangeKeysEq
import Derived.Test.YtincjohoncljoaaGreatDoorLqA
set_option linter.all false
set_option linter.unusedSimpArgs false
set_option linter.unusedVariables false
set_option maxHeartbeats 16000000
namespace Go.Proofs.YtincjohoncljoaaGreatDoor
open Go Go.Sl
set_option maxRecDepth 100000
variable {b m x s i j n d a sb cb:Nat} {k r f:Int} {α:Type} {l:List Int} {w0:World} {H:qg}
theorem ty3:Ty Tryz.prog 3 (.int .i64) 1 (zi 0) 8:=⟨by kernel_rfl,Tryz.t3,by kernel_rfl,rfl,rfl,rfl⟩
theorem ty4:Ty Tryz.prog 4 Go.TypeDesc.bool 1 (.bool false) 1:=⟨by kernel_rfl,Tryz.t4,by kernel_rfl,rfl,rfl,rfl⟩
theorem ty5:Ty Tryz.prog 5 (.int .u8) 1 (.int .u8 0) 1:=⟨by kernel_rfl,Tryz.t5,by kernel_rfl,rfl,rfl,rfl⟩
theorem KR:Ty Tryz.prog 23 (.pointer 134) 1 (.pointer none) 8:=⟨by kernel_rfl,Tryz.t23,by kernel_rfl,rfl,rfl,rfl⟩
theorem zJ:Ty Tryz.prog 30 (.int .u64) 1 (zu 0) 8:=⟨by kernel_rfl,Tryz.t30,by kernel_rfl,rfl,rfl,rfl⟩
theorem qaS:Ty Tryz.prog 33 (.pointer 224) 1 (.pointer none) 8:=⟨by kernel_rfl,Tryz.t33,by kernel_rfl,rfl,rfl,rfl⟩
theorem qR:Ty Tryz.prog 40 Tryz.t39.desc 2 (.agg #[(zi 0),(zi 0)]) 16:=⟨by kernel_rfl,Tryz.t40,by kernel_rfl,rfl,rfl,rfl⟩
theorem qbB:Ty Tryz.prog 47 (.slice 50) 1 (.slice none 0 0) 24:=⟨by kernel_rfl,Tryz.t47,by kernel_rfl,rfl,rfl,rfl⟩
theorem KQ:Ty Tryz.prog 50 Tryz.t49.desc 4 (.agg #[(zi 0),(zi 0),(zi 0),(.bool false)]) 32:=⟨by kernel_rfl,Tryz.t50,by kernel_rfl,rfl,rfl,rfl⟩
theorem QX:Ty Tryz.prog 55 (.pointer 170) 1 (.pointer none) 8:=⟨by kernel_rfl,Tryz.t55,by kernel_rfl,rfl,rfl,rfl⟩
theorem qZ:Ty Tryz.prog 63 (.slice 3) 1 (.slice none 0 0) 24:=⟨by kernel_rfl,Tryz.t63,by kernel_rfl,rfl,rfl,rfl⟩
theorem YP:Ty Tryz.prog 65 (.pointer 217) 1 (.pointer none) 8:=⟨by kernel_rfl,Tryz.t65,by kernel_rfl,rfl,rfl,rfl⟩
theorem Jn:Ty Tryz.prog 67 (.pointer 179) 1 (.pointer none) 8:=⟨by kernel_rfl,Tryz.t67,by kernel_rfl,rfl,rfl,rfl⟩
theorem zj:Ty Tryz.prog 71 Tryz.t70.desc 4 (.agg #[(zi 0),(zi 0),(zu 0),(zu 0)]) 32:=⟨by kernel_rfl,Tryz.t71,by kernel_rfl,rfl,rfl,rfl⟩
theorem ZN:Ty Tryz.prog 84 (.slice 30) 1 (.slice none 0 0) 24:=⟨by kernel_rfl,Tryz.t84,by kernel_rfl,rfl,rfl,rfl⟩
theorem qfu:Ty Tryz.prog 96 (.array 32 3) 32 (.agg #[(zi 0),(zi 0),(zi 0),(zi 0),(zi 0),(zi 0),(zi 0),(zi 0),(zi 0),(zi 0),(zi 0),(zi 0),(zi 0),(zi 0),(zi 0),(zi 0),(zi 0),(zi 0),(zi 0),(zi 0),(zi 0),(zi 0),(zi 0),(zi 0),(zi 0),(zi 0),(zi 0),(zi 0),(zi 0),(zi 0),(zi 0),(zi 0)]) 256:=⟨by kernel_rfl,Tryz.t96,by kernel_rfl,rfl,rfl,rfl⟩
theorem Xe:Ty Tryz.prog 129 Tryz.t128.desc 2 (.agg #[(.pointer none),(.bool false)]) 16:=⟨by kernel_rfl,Tryz.t129,by kernel_rfl,rfl,rfl,rfl⟩
theorem qbY:Ty Tryz.prog 130 (.array 4 129) 8 (.agg #[(.pointer none),(.bool false),(.pointer none),(.bool false),(.pointer none),(.bool false),(.pointer none),(.bool false)]) 64:=⟨by kernel_rfl,Tryz.t130,by kernel_rfl,rfl,rfl,rfl⟩
theorem X7:Ty Tryz.prog 131 (.pointer 304) 1 (.pointer none) 8:=⟨by kernel_rfl,Tryz.t131,by kernel_rfl,rfl,rfl,rfl⟩
theorem Yi:Ty Tryz.prog 132 (.map 3 40) 1 (.map none) 8:=⟨by kernel_rfl,Tryz.t132,by kernel_rfl,rfl,rfl,rfl⟩
theorem ty134:Ty Tryz.prog 134 Tryz.t133.desc 15 (.agg #[(zi 0),(.pointer none),(.bool false),(.pointer none),(.bool false),(.pointer none),(.bool false),(.pointer none),(.bool false),(.pointer none),(.pointer none),(.pointer none),(.pointer none),(.pointer none),(.map none)]) 120:=⟨by kernel_rfl,Tryz.t134,by kernel_rfl,rfl,rfl,rfl⟩
theorem X0:Ty Tryz.prog 135 (.pointer 250) 1 (.pointer none) 8:=⟨by kernel_rfl,Tryz.t135,by kernel_rfl,rfl,rfl,rfl⟩
theorem Zs:Ty Tryz.prog 139 Tryz.t138.desc 5 (.agg #[(zi 0),(zi 0),(zi 0),(zi 0),(.bool false)]) 40:=⟨by kernel_rfl,Tryz.t139,by kernel_rfl,rfl,rfl,rfl⟩
theorem Js:Ty Tryz.prog 153 Tryz.t152.desc 4 (.agg #[(.bool false),(.bool false),(zi 0),(zi 0)]) 24:=⟨by kernel_rfl,Tryz.t153,by kernel_rfl,rfl,rfl,rfl⟩
theorem ty154:Ty Tryz.prog 154 Tryz.t154.desc 1 Go.Value.nilFunc 8:=⟨by kernel_rfl,Tryz.t154,by kernel_rfl,rfl,rfl,rfl⟩
theorem qoI:Ty Tryz.prog 158 (.slice 129) 1 (.slice none 0 0) 24:=⟨by kernel_rfl,Tryz.t158,by kernel_rfl,rfl,rfl,rfl⟩
theorem qiT:Ty Tryz.prog 160 (.slice 40) 1 (.slice none 0 0) 24:=⟨by kernel_rfl,Tryz.t160,by kernel_rfl,rfl,rfl,rfl⟩
theorem Zf:Ty Tryz.prog 166 (.pointer 294) 1 (.pointer none) 8:=⟨by kernel_rfl,Tryz.t166,by kernel_rfl,rfl,rfl,rfl⟩
theorem JW:Ty Tryz.prog 167 (.pointer 275) 1 (.pointer none) 8:=⟨by kernel_rfl,Tryz.t167,by kernel_rfl,rfl,rfl,rfl⟩
theorem qoH:Ty Tryz.prog 168 (.array 256 153) 1024 ((Tryz.t168.zero).getD undef) 6144:=⟨by kernel_rfl,Tryz.t168,by kernel_rfl,rfl,rfl,rfl⟩
theorem ty170:Ty Tryz.prog 170 Tryz.t169.desc 1026 ((Tryz.t170.zero).getD undef) 6160:=⟨by kernel_rfl,Tryz.t170,by kernel_rfl,rfl,rfl,rfl⟩
theorem qoG:Ty Tryz.prog 172 Tryz.t172.desc 1 Go.Value.nilFunc 8:=⟨by kernel_rfl,Tryz.t172,by kernel_rfl,rfl,rfl,rfl⟩
theorem Jr:Ty Tryz.prog 176 Tryz.t175.desc 2 (.agg #[(.bool false),(zi 0)]) 16:=⟨by kernel_rfl,Tryz.t176,by kernel_rfl,rfl,rfl,rfl⟩
theorem qoF:Ty Tryz.prog 177 (.array 256 176) 512 ((Tryz.t177.zero).getD undef) 4096:=⟨by kernel_rfl,Tryz.t177,by kernel_rfl,rfl,rfl,rfl⟩
theorem ty179:Ty Tryz.prog 179 Tryz.t178.desc 546 ((Tryz.t179.zero).getD undef) 4368:=⟨by kernel_rfl,Tryz.t179,by kernel_rfl,rfl,rfl,rfl⟩
theorem JH:Ty Tryz.prog 213 (.pointer 345) 1 (.pointer none) 8:=⟨by kernel_rfl,Tryz.t213,by kernel_rfl,rfl,rfl,rfl⟩
theorem YV:Ty Tryz.prog 214 (.pointer 348) 1 (.pointer none) 8:=⟨by kernel_rfl,Tryz.t214,by kernel_rfl,rfl,rfl,rfl⟩
theorem YU:Ty Tryz.prog 215 (.pointer 372) 1 (.pointer none) 8:=⟨by kernel_rfl,Tryz.t215,by kernel_rfl,rfl,rfl,rfl⟩
theorem ty217:Ty Tryz.prog 217 Tryz.t216.desc 7 (.agg #[(zi 0),(zi 0),(zi 0),(.pointer none),(.pointer none),(.pointer none),(.bool false)]) 56:=⟨by kernel_rfl,Tryz.t217,by kernel_rfl,rfl,rfl,rfl⟩
theorem qoE:Ty Tryz.prog 218 (.array 4 30) 4 (.agg #[(zu 0),(zu 0),(zu 0),(zu 0)]) 32:=⟨by kernel_rfl,Tryz.t218,by kernel_rfl,rfl,rfl,rfl⟩
theorem Qz:Ty Tryz.prog 220 Tryz.t219.desc 5 (.agg #[(zu 0),(zu 0),(zu 0),(zu 0),(zu 0)]) 40:=⟨by kernel_rfl,Tryz.t220,by kernel_rfl,rfl,rfl,rfl⟩
theorem Xd:Ty Tryz.prog 221 (.pointer 387) 1 (.pointer none) 8:=⟨by kernel_rfl,Tryz.t221,by kernel_rfl,rfl,rfl,rfl⟩
theorem JG:Ty Tryz.prog 222 (.pointer 485) 1 (.pointer none) 8:=⟨by kernel_rfl,Tryz.t222,by kernel_rfl,rfl,rfl,rfl⟩
theorem ty224:Ty Tryz.prog 224 Tryz.t223.desc 6 (.agg #[(.pointer none),(.pointer none),(.pointer none),(zi 0),(zi 0),(zi 0)]) 48:=⟨by kernel_rfl,Tryz.t224,by kernel_rfl,rfl,rfl,rfl⟩
theorem qbm:Ty Tryz.prog 246 Tryz.t245.desc 2 (.agg #[(zi 0),(zi 0)]) 16:=⟨by kernel_rfl,Tryz.t246,by kernel_rfl,rfl,rfl,rfl⟩
theorem Qa:Ty Tryz.prog 247 (.int .u64) 1 (zu 0) 8:=⟨by kernel_rfl,Tryz.t247,by kernel_rfl,rfl,rfl,rfl⟩
theorem qoD:Ty Tryz.prog 248 (.array 64 246) 128 ((Tryz.t248.zero).getD undef) 1024:=⟨by kernel_rfl,Tryz.t248,by kernel_rfl,rfl,rfl,rfl⟩
theorem ty250:Ty Tryz.prog 250 Tryz.t249.desc 130 ((Tryz.t250.zero).getD undef) 1040:=⟨by kernel_rfl,Tryz.t250,by kernel_rfl,rfl,rfl,rfl⟩
theorem qiS:Ty Tryz.prog 261 Tryz.t261.desc 1 Go.Value.nilFunc 8:=⟨by kernel_rfl,Tryz.t261,by kernel_rfl,rfl,rfl,rfl⟩
theorem qiR:Ty Tryz.prog 262 (.array 2 261) 2 (.agg #[Go.Value.nilFunc,Go.Value.nilFunc]) 16:=⟨by kernel_rfl,Tryz.t262,by kernel_rfl,rfl,rfl,rfl⟩
theorem qbl:Ty Tryz.prog 264 (.pointer 398) 1 (.pointer none) 8:=⟨by kernel_rfl,Tryz.t264,by kernel_rfl,rfl,rfl,rfl⟩
theorem YA:Ty Tryz.prog 273 (.slice 276) 1 (.slice none 0 0) 24:=⟨by kernel_rfl,Tryz.t273,by kernel_rfl,rfl,rfl,rfl⟩
theorem ty275:Ty Tryz.prog 275 Tryz.t274.desc 1 (.agg #[(.slice none 0 0)]) 24:=⟨by kernel_rfl,Tryz.t275,by kernel_rfl,rfl,rfl,rfl⟩
theorem Ze:Ty Tryz.prog 276 (.pointer 406) 1 (.pointer none) 8:=⟨by kernel_rfl,Tryz.t276,by kernel_rfl,rfl,rfl,rfl⟩
theorem Yz:Ty Tryz.prog 281 (.pointer 412) 1 (.pointer none) 8:=⟨by kernel_rfl,Tryz.t281,by kernel_rfl,rfl,rfl,rfl⟩
theorem ty285:Ty Tryz.prog 285 Tryz.t285.desc 1 Go.Value.nilFunc 8:=⟨by kernel_rfl,Tryz.t285,by kernel_rfl,rfl,rfl,rfl⟩
theorem Xc:Ty Tryz.prog 291 (.slice 281) 1 (.slice none 0 0) 24:=⟨by kernel_rfl,Tryz.t291,by kernel_rfl,rfl,rfl,rfl⟩
theorem qiQ:Ty Tryz.prog 292 (.array 256 3) 256 ((Tryz.t292.zero).getD undef) 2048:=⟨by kernel_rfl,Tryz.t292,by kernel_rfl,rfl,rfl,rfl⟩
theorem ty294:Ty Tryz.prog 294 Tryz.t293.desc 289 ((Tryz.t294.zero).getD undef) 2328:=⟨by kernel_rfl,Tryz.t294,by kernel_rfl,rfl,rfl,rfl⟩
theorem qab:Ty Tryz.prog 302 (.map 3 264) 1 (.map none) 8:=⟨by kernel_rfl,Tryz.t302,by kernel_rfl,rfl,rfl,rfl⟩
theorem ty304:Ty Tryz.prog 304 Tryz.t303.desc 2 (.agg #[(zi 0),(.map none)]) 16:=⟨by kernel_rfl,Tryz.t304,by kernel_rfl,rfl,rfl,rfl⟩
theorem Zr:Ty Tryz.prog 343 (.slice 377) 1 (.slice none 0 0) 24:=⟨by kernel_rfl,Tryz.t343,by kernel_rfl,rfl,rfl,rfl⟩
theorem qoC:Ty Tryz.prog 345 Tryz.t344.desc 3 (.agg #[(.slice none 0 0),(zu 0),(zu 0)]) 40:=⟨by kernel_rfl,Tryz.t345,by kernel_rfl,rfl,rfl,rfl⟩
theorem JF:Ty Tryz.prog 346 (.slice 482) 1 (.slice none 0 0) 24:=⟨by kernel_rfl,Tryz.t346,by kernel_rfl,rfl,rfl,rfl⟩
theorem ty348:Ty Tryz.prog 348 Tryz.t347.desc 3 (.agg #[(.slice none 0 0),(zi 0),(zi 0)]) 40:=⟨by kernel_rfl,Tryz.t348,by kernel_rfl,rfl,rfl,rfl⟩
theorem QR:Ty Tryz.prog 349 (.slice 391) 1 (.slice none 0 0) 24:=⟨by kernel_rfl,Tryz.t349,by kernel_rfl,rfl,rfl,rfl⟩
theorem qiP:Ty Tryz.prog 357 (.int .u64) 1 (zu 0) 8:=⟨by kernel_rfl,Tryz.t357,by kernel_rfl,rfl,rfl,rfl⟩
theorem JV:Ty Tryz.prog 370 (.map 30 3) 1 (.map none) 8:=⟨by kernel_rfl,Tryz.t370,by kernel_rfl,rfl,rfl,rfl⟩
theorem ty372:Ty Tryz.prog 372 Tryz.t371.desc 3 (.agg #[(zi 0),(zi 0),(.map none)]) 24:=⟨by kernel_rfl,Tryz.t372,by kernel_rfl,rfl,rfl,rfl⟩
theorem qbk:Ty Tryz.prog 377 Tryz.t376.desc 7 (.agg #[(zi 0),(zi 0),(zu 0),(zu 0),(zu 0),(zu 0),(zu 0)]) 56:=⟨by kernel_rfl,Tryz.t377,by kernel_rfl,rfl,rfl,rfl⟩
theorem ZZ:Ty Tryz.prog 385 (.slice 388) 1 (.slice none 0 0) 24:=⟨by kernel_rfl,Tryz.t385,by kernel_rfl,rfl,rfl,rfl⟩
theorem ty387:Ty Tryz.prog 387 Tryz.t386.desc 2 (.agg #[(.slice none 0 0),(zi 0)]) 32:=⟨by kernel_rfl,Tryz.t387,by kernel_rfl,rfl,rfl,rfl⟩
theorem Jq:Ty Tryz.prog 388 (.pointer 493) 1 (.pointer none) 8:=⟨by kernel_rfl,Tryz.t388,by kernel_rfl,rfl,rfl,rfl⟩
theorem zo:Ty Tryz.prog 391 Tryz.t390.desc 2 (.agg #[(zi 0),(zi 0)]) 16:=⟨by kernel_rfl,Tryz.t391,by kernel_rfl,rfl,rfl,rfl⟩
theorem qoB:Ty Tryz.prog 396 Tryz.t395.desc 2 (.agg #[(zi 0),(zi 0)]) 16:=⟨by kernel_rfl,Tryz.t396,by kernel_rfl,rfl,rfl,rfl⟩
theorem ty398:Ty Tryz.prog 398 Tryz.t397.desc 3 (.agg #[(zi 0),(zi 0),(.bool false)]) 24:=⟨by kernel_rfl,Tryz.t398,by kernel_rfl,rfl,rfl,rfl⟩
theorem KU:Ty Tryz.prog 401 (.array 64 63) 64 (.agg #[(.slice none 0 0),(.slice none 0 0),(.slice none 0 0),(.slice none 0 0),(.slice none 0 0),(.slice none 0 0),(.slice none 0 0),(.slice none 0 0),(.slice none 0 0),(.slice none 0 0),(.slice none 0 0),(.slice none 0 0),(.slice none 0 0),(.slice none 0 0),(.slice none 0 0),(.slice none 0 0),(.slice none 0 0),(.slice none 0 0),(.slice none 0 0),(.slice none 0 0),(.slice none 0 0),(.slice none 0 0),(.slice none 0 0),(.slice none 0 0),(.slice none 0 0),(.slice none 0 0),(.slice none 0 0),(.slice none 0 0),(.slice none 0 0),(.slice none 0 0),(.slice none 0 0),(.slice none 0 0),(.slice none 0 0),(.slice none 0 0),(.slice none 0 0),(.slice none 0 0),(.slice none 0 0),(.slice none 0 0),(.slice none 0 0),(.slice none 0 0),(.slice none 0 0),(.slice none 0 0),(.slice none 0 0),(.slice none 0 0),(.slice none 0 0),(.slice none 0 0),(.slice none 0 0),(.slice none 0 0),(.slice none 0 0),(.slice none 0 0),(.slice none 0 0),(.slice none 0 0),(.slice none 0 0),(.slice none 0 0),(.slice none 0 0),(.slice none 0 0),(.slice none 0 0),(.slice none 0 0),(.slice none 0 0),(.slice none 0 0),(.slice none 0 0),(.slice none 0 0),(.slice none 0 0),(.slice none 0 0)]) 1536:=⟨by kernel_rfl,Tryz.t401,by kernel_rfl,rfl,rfl,rfl⟩
theorem qc8:Ty Tryz.prog 402 (.array 8 401) 512 ((Tryz.t402.zero).getD undef) 12288:=⟨by kernel_rfl,Tryz.t402,by kernel_rfl,rfl,rfl,rfl⟩
theorem qc7:Ty Tryz.prog 403 (.array 8 247) 8 (.agg #[(zu 0),(zu 0),(zu 0),(zu 0),(zu 0),(zu 0),(zu 0),(zu 0)]) 64:=⟨by kernel_rfl,Tryz.t403,by kernel_rfl,rfl,rfl,rfl⟩
theorem ZY:Ty Tryz.prog 404 (.map 3 408) 1 (.map none) 8:=⟨by kernel_rfl,Tryz.t404,by kernel_rfl,rfl,rfl,rfl⟩
theorem ty406:Ty Tryz.prog 406 Tryz.t405.desc 523 ((Tryz.t406.zero).getD undef) 12376:=⟨by kernel_rfl,Tryz.t406,by kernel_rfl,rfl,rfl,rfl⟩
theorem XZ:Ty Tryz.prog 408 Tryz.t407.desc 5 (.agg #[(zi 0),(zi 0),(zu 0),(zu 0),(zi 0)]) 40:=⟨by kernel_rfl,Tryz.t408,by kernel_rfl,rfl,rfl,rfl⟩
theorem ty412:Ty Tryz.prog 412 Tryz.t411.desc 3 (.agg #[(.slice none 0 0),(zi 0),(zi 0)]) 40:=⟨by kernel_rfl,Tryz.t412,by kernel_rfl,rfl,rfl,rfl⟩
theorem YT:Ty Tryz.prog 466 Tryz.t465.desc 3 (.agg #[(zu 0),(zi 0),(zi 0)]) 24:=⟨by kernel_rfl,Tryz.t466,by kernel_rfl,rfl,rfl,rfl⟩
theorem Q7:Ty Tryz.prog 482 (.slice 466) 1 (.slice none 0 0) 24:=⟨by kernel_rfl,Tryz.t482,by kernel_rfl,rfl,rfl,rfl⟩
theorem ty485:Ty Tryz.prog 485 Tryz.t484.desc 4 (.agg #[(.pointer none),(zu 0),(zi 0),(zi 0)]) 32:=⟨by kernel_rfl,Tryz.t485,by kernel_rfl,rfl,rfl,rfl⟩
theorem ty493:Ty Tryz.prog 493 Tryz.t492.desc 3 (.agg #[(.slice none 0 0),(zi 0),(zi 0)]) 40:=⟨by kernel_rfl,Tryz.t493,by kernel_rfl,rfl,rfl,rfl⟩
theorem ty590:Ty Tryz.prog 590 (.array 64 5) 64 (.agg #[(.int .u8 0),(.int .u8 0),(.int .u8 0),(.int .u8 0),(.int .u8 0),(.int .u8 0),(.int .u8 0),(.int .u8 0),(.int .u8 0),(.int .u8 0),(.int .u8 0),(.int .u8 0),(.int .u8 0),(.int .u8 0),(.int .u8 0),(.int .u8 0),(.int .u8 0),(.int .u8 0),(.int .u8 0),(.int .u8 0),(.int .u8 0),(.int .u8 0),(.int .u8 0),(.int .u8 0),(.int .u8 0),(.int .u8 0),(.int .u8 0),(.int .u8 0),(.int .u8 0),(.int .u8 0),(.int .u8 0),(.int .u8 0),(.int .u8 0),(.int .u8 0),(.int .u8 0),(.int .u8 0),(.int .u8 0),(.int .u8 0),(.int .u8 0),(.int .u8 0),(.int .u8 0),(.int .u8 0),(.int .u8 0),(.int .u8 0),(.int .u8 0),(.int .u8 0),(.int .u8 0),(.int .u8 0),(.int .u8 0),(.int .u8 0),(.int .u8 0),(.int .u8 0),(.int .u8 0),(.int .u8 0),(.int .u8 0),(.int .u8 0),(.int .u8 0),(.int .u8 0),(.int .u8 0),(.int .u8 0),(.int .u8 0),(.int .u8 0),(.int .u8 0),(.int .u8 0)]) 64:=⟨by kernel_rfl,Tryz.t590,by kernel_rfl,rfl,rfl,rfl⟩
theorem qd1:Fld Tryz.prog 40 0 0 1 false:=⟨_,_,(by kernel_rfl:Tryz.prog.underlying 40=some Tryz.t39.desc),rfl,rfl,_,_,_,ty3,rfl⟩
theorem qnK:Fld Tryz.prog 40 1 1 1 false:=⟨_,_,(by kernel_rfl:Tryz.prog.underlying 40=some Tryz.t39.desc),rfl,rfl,_,_,_,ty3,rfl⟩
theorem Yq:Fld Tryz.prog 71 0 0 1 false:=⟨_,_,(by kernel_rfl:Tryz.prog.underlying 71=some Tryz.t70.desc),rfl,rfl,_,_,_,ty3,rfl⟩
theorem XF:Fld Tryz.prog 71 1 1 1 false:=⟨_,_,(by kernel_rfl:Tryz.prog.underlying 71=some Tryz.t70.desc),rfl,rfl,_,_,_,ty3,rfl⟩
theorem qnJ:Fld Tryz.prog 71 3 3 1 false:=⟨_,_,(by kernel_rfl:Tryz.prog.underlying 71=some Tryz.t70.desc),rfl,rfl,_,_,_,zJ,rfl⟩
theorem qll:Fld Tryz.prog 129 0 0 1 false:=⟨_,_,(by kernel_rfl:Tryz.prog.underlying 129=some Tryz.t128.desc),rfl,rfl,_,_,_,YP,rfl⟩
theorem qlk:Fld Tryz.prog 129 1 1 1 false:=⟨_,_,(by kernel_rfl:Tryz.prog.underlying 129=some Tryz.t128.desc),rfl,rfl,_,_,_,ty4,rfl⟩
theorem qlj:Fld Tryz.prog 134 0 0 1 false:=⟨_,_,(by kernel_rfl:Tryz.prog.underlying 134=some Tryz.t133.desc),rfl,rfl,_,_,_,ty3,rfl⟩
theorem qli:Fld Tryz.prog 134 1 1 8 true:=⟨_,_,(by kernel_rfl:Tryz.prog.underlying 134=some Tryz.t133.desc),rfl,rfl,_,_,_,qbY,rfl⟩
theorem qlh:Fld Tryz.prog 134 2 9 1 false:=⟨_,_,(by kernel_rfl:Tryz.prog.underlying 134=some Tryz.t133.desc),rfl,rfl,_,_,_,QX,rfl⟩
theorem qlg:Fld Tryz.prog 134 3 10 1 false:=⟨_,_,(by kernel_rfl:Tryz.prog.underlying 134=some Tryz.t133.desc),rfl,rfl,_,_,_,Jn,rfl⟩
theorem qlf:Fld Tryz.prog 134 4 11 1 false:=⟨_,_,(by kernel_rfl:Tryz.prog.underlying 134=some Tryz.t133.desc),rfl,rfl,_,_,_,qaS,rfl⟩
theorem qle:Fld Tryz.prog 134 5 12 1 false:=⟨_,_,(by kernel_rfl:Tryz.prog.underlying 134=some Tryz.t133.desc),rfl,rfl,_,_,_,qaS,rfl⟩
theorem qld:Fld Tryz.prog 134 6 13 1 false:=⟨_,_,(by kernel_rfl:Tryz.prog.underlying 134=some Tryz.t133.desc),rfl,rfl,_,_,_,X7,rfl⟩
theorem qlc:Fld Tryz.prog 134 7 14 1 false:=⟨_,_,(by kernel_rfl:Tryz.prog.underlying 134=some Tryz.t133.desc),rfl,rfl,_,_,_,Yi,rfl⟩
theorem qlb:Fld Tryz.prog 139 0 0 2 true:=⟨_,_,(by kernel_rfl:Tryz.prog.underlying 139=some Tryz.t138.desc),rfl,rfl,_,_,_,qR,rfl⟩
theorem qla:Fld Tryz.prog 139 1 2 2 true:=⟨_,_,(by kernel_rfl:Tryz.prog.underlying 139=some Tryz.t138.desc),rfl,rfl,_,_,_,qR,rfl⟩
theorem qk9:Fld Tryz.prog 139 2 4 1 false:=⟨_,_,(by kernel_rfl:Tryz.prog.underlying 139=some Tryz.t138.desc),rfl,rfl,_,_,_,ty4,rfl⟩
theorem qk8:Fld Tryz.prog 153 0 0 1 false:=⟨_,_,(by kernel_rfl:Tryz.prog.underlying 153=some Tryz.t152.desc),rfl,rfl,_,_,_,ty4,rfl⟩
theorem qk7:Fld Tryz.prog 153 1 1 1 false:=⟨_,_,(by kernel_rfl:Tryz.prog.underlying 153=some Tryz.t152.desc),rfl,rfl,_,_,_,ty4,rfl⟩
theorem qk6:Fld Tryz.prog 153 2 2 1 false:=⟨_,_,(by kernel_rfl:Tryz.prog.underlying 153=some Tryz.t152.desc),rfl,rfl,_,_,_,ty3,rfl⟩
theorem qk5:Fld Tryz.prog 153 3 3 1 false:=⟨_,_,(by kernel_rfl:Tryz.prog.underlying 153=some Tryz.t152.desc),rfl,rfl,_,_,_,ty3,rfl⟩
theorem qk4:Fld Tryz.prog 170 0 0 1 false:=⟨_,_,(by kernel_rfl:Tryz.prog.underlying 170=some Tryz.t169.desc),rfl,rfl,_,_,_,Zf,rfl⟩
theorem qk3:Fld Tryz.prog 170 1 1 1 false:=⟨_,_,(by kernel_rfl:Tryz.prog.underlying 170=some Tryz.t169.desc),rfl,rfl,_,_,_,JW,rfl⟩
theorem qk2:Fld Tryz.prog 170 2 2 1024 true:=⟨_,_,(by kernel_rfl:Tryz.prog.underlying 170=some Tryz.t169.desc),rfl,rfl,_,_,_,qoH,rfl⟩
theorem qk1:Fld Tryz.prog 176 0 0 1 false:=⟨_,_,(by kernel_rfl:Tryz.prog.underlying 176=some Tryz.t175.desc),rfl,rfl,_,_,_,ty4,rfl⟩
theorem qk0:Fld Tryz.prog 176 1 1 1 false:=⟨_,_,(by kernel_rfl:Tryz.prog.underlying 176=some Tryz.t175.desc),rfl,rfl,_,_,_,ty3,rfl⟩
theorem qkZ:Fld Tryz.prog 179 0 0 1 false:=⟨_,_,(by kernel_rfl:Tryz.prog.underlying 179=some Tryz.t178.desc),rfl,rfl,_,_,_,Zf,rfl⟩
theorem qkY:Fld Tryz.prog 179 1 1 1 false:=⟨_,_,(by kernel_rfl:Tryz.prog.underlying 179=some Tryz.t178.desc),rfl,rfl,_,_,_,ty3,rfl⟩
theorem qkX:Fld Tryz.prog 179 2 2 512 true:=⟨_,_,(by kernel_rfl:Tryz.prog.underlying 179=some Tryz.t178.desc),rfl,rfl,_,_,_,qoF,rfl⟩
theorem qkW:Fld Tryz.prog 179 3 514 32 true:=⟨_,_,(by kernel_rfl:Tryz.prog.underlying 179=some Tryz.t178.desc),rfl,rfl,_,_,_,qfu,rfl⟩
theorem qkV:Fld Tryz.prog 217 0 0 1 false:=⟨_,_,(by kernel_rfl:Tryz.prog.underlying 217=some Tryz.t216.desc),rfl,rfl,_,_,_,ty3,rfl⟩
theorem qkU:Fld Tryz.prog 217 1 1 1 false:=⟨_,_,(by kernel_rfl:Tryz.prog.underlying 217=some Tryz.t216.desc),rfl,rfl,_,_,_,ty3,rfl⟩
theorem qkT:Fld Tryz.prog 217 2 2 1 false:=⟨_,_,(by kernel_rfl:Tryz.prog.underlying 217=some Tryz.t216.desc),rfl,rfl,_,_,_,ty3,rfl⟩
theorem qkS:Fld Tryz.prog 217 3 3 1 false:=⟨_,_,(by kernel_rfl:Tryz.prog.underlying 217=some Tryz.t216.desc),rfl,rfl,_,_,_,JH,rfl⟩
theorem qkR:Fld Tryz.prog 217 4 4 1 false:=⟨_,_,(by kernel_rfl:Tryz.prog.underlying 217=some Tryz.t216.desc),rfl,rfl,_,_,_,YV,rfl⟩
theorem qkQ:Fld Tryz.prog 217 5 5 1 false:=⟨_,_,(by kernel_rfl:Tryz.prog.underlying 217=some Tryz.t216.desc),rfl,rfl,_,_,_,YU,rfl⟩
theorem qkP:Fld Tryz.prog 217 6 6 1 false:=⟨_,_,(by kernel_rfl:Tryz.prog.underlying 217=some Tryz.t216.desc),rfl,rfl,_,_,_,ty4,rfl⟩
theorem qkO:Fld Tryz.prog 220 0 0 1 false:=⟨_,_,(by kernel_rfl:Tryz.prog.underlying 220=some Tryz.t219.desc),rfl,rfl,_,_,_,zJ,rfl⟩
theorem qkN:Fld Tryz.prog 220 1 1 4 true:=⟨_,_,(by kernel_rfl:Tryz.prog.underlying 220=some Tryz.t219.desc),rfl,rfl,_,_,_,qoE,rfl⟩
theorem qkM:Fld Tryz.prog 224 0 0 1 false:=⟨_,_,(by kernel_rfl:Tryz.prog.underlying 224=some Tryz.t223.desc),rfl,rfl,_,_,_,X0,rfl⟩
theorem qkL:Fld Tryz.prog 224 1 1 1 false:=⟨_,_,(by kernel_rfl:Tryz.prog.underlying 224=some Tryz.t223.desc),rfl,rfl,_,_,_,Xd,rfl⟩
theorem qkK:Fld Tryz.prog 224 2 2 1 false:=⟨_,_,(by kernel_rfl:Tryz.prog.underlying 224=some Tryz.t223.desc),rfl,rfl,_,_,_,JG,rfl⟩
theorem qkJ:Fld Tryz.prog 224 3 3 1 false:=⟨_,_,(by kernel_rfl:Tryz.prog.underlying 224=some Tryz.t223.desc),rfl,rfl,_,_,_,ty3,rfl⟩
theorem qkI:Fld Tryz.prog 224 4 4 1 false:=⟨_,_,(by kernel_rfl:Tryz.prog.underlying 224=some Tryz.t223.desc),rfl,rfl,_,_,_,ty3,rfl⟩
theorem qkH:Fld Tryz.prog 224 5 5 1 false:=⟨_,_,(by kernel_rfl:Tryz.prog.underlying 224=some Tryz.t223.desc),rfl,rfl,_,_,_,ty3,rfl⟩
theorem qkG:Fld Tryz.prog 246 1 1 1 false:=⟨_,_,(by kernel_rfl:Tryz.prog.underlying 246=some Tryz.t245.desc),rfl,rfl,_,_,_,ty3,rfl⟩
theorem qkF:Fld Tryz.prog 250 0 0 128 true:=⟨_,_,(by kernel_rfl:Tryz.prog.underlying 250=some Tryz.t249.desc),rfl,rfl,_,_,_,qoD,rfl⟩
theorem qkE:Fld Tryz.prog 250 1 128 1 false:=⟨_,_,(by kernel_rfl:Tryz.prog.underlying 250=some Tryz.t249.desc),rfl,rfl,_,_,_,Qa,rfl⟩
theorem qkD:Fld Tryz.prog 250 2 129 1 false:=⟨_,_,(by kernel_rfl:Tryz.prog.underlying 250=some Tryz.t249.desc),rfl,rfl,_,_,_,ty3,rfl⟩
theorem qcB:Fld Tryz.prog 275 0 0 1 false:=⟨_,_,(by kernel_rfl:Tryz.prog.underlying 275=some Tryz.t274.desc),rfl,rfl,_,_,_,YA,rfl⟩
theorem qkC:Fld Tryz.prog 294 0 0 1 false:=⟨_,_,(by kernel_rfl:Tryz.prog.underlying 294=some Tryz.t293.desc),rfl,rfl,_,_,_,Xc,rfl⟩
theorem qkB:Fld Tryz.prog 294 1 1 256 true:=⟨_,_,(by kernel_rfl:Tryz.prog.underlying 294=some Tryz.t293.desc),rfl,rfl,_,_,_,qiQ,rfl⟩
theorem qkA:Fld Tryz.prog 294 2 257 32 true:=⟨_,_,(by kernel_rfl:Tryz.prog.underlying 294=some Tryz.t293.desc),rfl,rfl,_,_,_,qfu,rfl⟩
theorem qkz:Fld Tryz.prog 304 0 0 1 false:=⟨_,_,(by kernel_rfl:Tryz.prog.underlying 304=some Tryz.t303.desc),rfl,rfl,_,_,_,ty3,rfl⟩
theorem qky:Fld Tryz.prog 304 1 1 1 false:=⟨_,_,(by kernel_rfl:Tryz.prog.underlying 304=some Tryz.t303.desc),rfl,rfl,_,_,_,qab,rfl⟩
theorem qkx:Fld Tryz.prog 345 0 0 1 false:=⟨_,_,(by kernel_rfl:Tryz.prog.underlying 345=some Tryz.t344.desc),rfl,rfl,_,_,_,Zr,rfl⟩
theorem YG:Fld Tryz.prog 345 1 1 1 false:=⟨_,_,(by kernel_rfl:Tryz.prog.underlying 345=some Tryz.t344.desc),rfl,rfl,_,_,_,Qa,rfl⟩
theorem qay:Fld Tryz.prog 345 2 2 1 false:=⟨_,_,(by kernel_rfl:Tryz.prog.underlying 345=some Tryz.t344.desc),rfl,rfl,_,_,_,Qa,rfl⟩
theorem Km:Fld Tryz.prog 348 0 0 1 false:=⟨_,_,(by kernel_rfl:Tryz.prog.underlying 348=some Tryz.t347.desc),rfl,rfl,_,_,_,JF,rfl⟩
theorem qkw:Fld Tryz.prog 348 1 1 1 false:=⟨_,_,(by kernel_rfl:Tryz.prog.underlying 348=some Tryz.t347.desc),rfl,rfl,_,_,_,ty3,rfl⟩
theorem qkv:Fld Tryz.prog 348 2 2 1 false:=⟨_,_,(by kernel_rfl:Tryz.prog.underlying 348=some Tryz.t347.desc),rfl,rfl,_,_,_,ty3,rfl⟩
theorem qku:Fld Tryz.prog 372 0 0 1 false:=⟨_,_,(by kernel_rfl:Tryz.prog.underlying 372=some Tryz.t371.desc),rfl,rfl,_,_,_,ty3,rfl⟩
theorem qkt:Fld Tryz.prog 372 1 1 1 false:=⟨_,_,(by kernel_rfl:Tryz.prog.underlying 372=some Tryz.t371.desc),rfl,rfl,_,_,_,ty3,rfl⟩
theorem qcA:Fld Tryz.prog 372 2 2 1 false:=⟨_,_,(by kernel_rfl:Tryz.prog.underlying 372=some Tryz.t371.desc),rfl,rfl,_,_,_,JV,rfl⟩
theorem qcz:Fld Tryz.prog 377 0 0 2 true:=⟨_,_,(by kernel_rfl:Tryz.prog.underlying 377=some Tryz.t376.desc),rfl,rfl,_,_,_,qR,rfl⟩
theorem qks:Fld Tryz.prog 377 1 2 5 true:=⟨_,_,(by kernel_rfl:Tryz.prog.underlying 377=some Tryz.t376.desc),rfl,rfl,_,_,_,Qz,rfl⟩
theorem qkr:Fld Tryz.prog 387 0 0 1 false:=⟨_,_,(by kernel_rfl:Tryz.prog.underlying 387=some Tryz.t386.desc),rfl,rfl,_,_,_,ZZ,rfl⟩
theorem qkq:Fld Tryz.prog 387 1 1 1 false:=⟨_,_,(by kernel_rfl:Tryz.prog.underlying 387=some Tryz.t386.desc),rfl,rfl,_,_,_,ty3,rfl⟩
theorem qkp:Fld Tryz.prog 391 0 0 1 false:=⟨_,_,(by kernel_rfl:Tryz.prog.underlying 391=some Tryz.t390.desc),rfl,rfl,_,_,_,ty3,rfl⟩
theorem qko:Fld Tryz.prog 391 1 1 1 false:=⟨_,_,(by kernel_rfl:Tryz.prog.underlying 391=some Tryz.t390.desc),rfl,rfl,_,_,_,ty3,rfl⟩
theorem qkn:Fld Tryz.prog 396 0 0 1 false:=⟨_,_,(by kernel_rfl:Tryz.prog.underlying 396=some Tryz.t395.desc),rfl,rfl,_,_,_,ty3,rfl⟩
theorem qkm:Fld Tryz.prog 396 1 1 1 false:=⟨_,_,(by kernel_rfl:Tryz.prog.underlying 396=some Tryz.t395.desc),rfl,rfl,_,_,_,ty3,rfl⟩
theorem qkl:Fld Tryz.prog 398 0 0 2 true:=⟨_,_,(by kernel_rfl:Tryz.prog.underlying 398=some Tryz.t397.desc),rfl,rfl,_,_,_,qoB,rfl⟩
theorem qkk:Fld Tryz.prog 398 1 2 1 false:=⟨_,_,(by kernel_rfl:Tryz.prog.underlying 398=some Tryz.t397.desc),rfl,rfl,_,_,_,ty4,rfl⟩
theorem qkj:Fld Tryz.prog 406 0 0 1 false:=⟨_,_,(by kernel_rfl:Tryz.prog.underlying 406=some Tryz.t405.desc),rfl,rfl,_,_,_,zJ,rfl⟩
theorem Kl:Fld Tryz.prog 406 1 1 512 true:=⟨_,_,(by kernel_rfl:Tryz.prog.underlying 406=some Tryz.t405.desc),rfl,rfl,_,_,_,qc8,rfl⟩
theorem Kk:Fld Tryz.prog 406 2 513 8 true:=⟨_,_,(by kernel_rfl:Tryz.prog.underlying 406=some Tryz.t405.desc),rfl,rfl,_,_,_,qc7,rfl⟩
theorem qcy:Fld Tryz.prog 406 3 521 1 false:=⟨_,_,(by kernel_rfl:Tryz.prog.underlying 406=some Tryz.t405.desc),rfl,rfl,_,_,_,ZY,rfl⟩
theorem qki:Fld Tryz.prog 406 4 522 1 false:=⟨_,_,(by kernel_rfl:Tryz.prog.underlying 406=some Tryz.t405.desc),rfl,rfl,_,_,_,ty3,rfl⟩
theorem qkh:Fld Tryz.prog 408 0 0 4 true:=⟨_,_,(by kernel_rfl:Tryz.prog.underlying 408=some Tryz.t407.desc),rfl,rfl,_,_,_,zj,rfl⟩
theorem qe3:Fld Tryz.prog 408 1 4 1 false:=⟨_,_,(by kernel_rfl:Tryz.prog.underlying 408=some Tryz.t407.desc),rfl,rfl,_,_,_,ty3,rfl⟩
theorem qcx:Fld Tryz.prog 412 0 0 1 false:=⟨_,_,(by kernel_rfl:Tryz.prog.underlying 412=some Tryz.t411.desc),rfl,rfl,_,_,_,qZ,rfl⟩
theorem qkg:Fld Tryz.prog 412 1 1 1 false:=⟨_,_,(by kernel_rfl:Tryz.prog.underlying 412=some Tryz.t411.desc),rfl,rfl,_,_,_,ty3,rfl⟩
theorem qkf:Fld Tryz.prog 412 2 2 1 false:=⟨_,_,(by kernel_rfl:Tryz.prog.underlying 412=some Tryz.t411.desc),rfl,rfl,_,_,_,ty3,rfl⟩
theorem qke:Fld Tryz.prog 466 0 0 1 false:=⟨_,_,(by kernel_rfl:Tryz.prog.underlying 466=some Tryz.t465.desc),rfl,rfl,_,_,_,zJ,rfl⟩
theorem qkd:Fld Tryz.prog 466 1 1 2 true:=⟨_,_,(by kernel_rfl:Tryz.prog.underlying 466=some Tryz.t465.desc),rfl,rfl,_,_,_,qR,rfl⟩
theorem qkc:Fld Tryz.prog 485 0 0 1 false:=⟨_,_,(by kernel_rfl:Tryz.prog.underlying 485=some Tryz.t484.desc),rfl,rfl,_,_,_,X0,rfl⟩
theorem qkb:Fld Tryz.prog 485 1 1 1 false:=⟨_,_,(by kernel_rfl:Tryz.prog.underlying 485=some Tryz.t484.desc),rfl,rfl,_,_,_,Qa,rfl⟩
theorem qka:Fld Tryz.prog 485 2 2 1 false:=⟨_,_,(by kernel_rfl:Tryz.prog.underlying 485=some Tryz.t484.desc),rfl,rfl,_,_,_,ty3,rfl⟩
theorem qj9:Fld Tryz.prog 485 3 3 1 false:=⟨_,_,(by kernel_rfl:Tryz.prog.underlying 485=some Tryz.t484.desc),rfl,rfl,_,_,_,ty3,rfl⟩
theorem qj8:Fld Tryz.prog 493 0 0 1 false:=⟨_,_,(by kernel_rfl:Tryz.prog.underlying 493=some Tryz.t492.desc),rfl,rfl,_,_,_,QR,rfl⟩
theorem qj7:Fld Tryz.prog 493 1 1 1 false:=⟨_,_,(by kernel_rfl:Tryz.prog.underlying 493=some Tryz.t492.desc),rfl,rfl,_,_,_,ty3,rfl⟩
theorem qj6:Fld Tryz.prog 493 2 2 1 false:=⟨_,_,(by kernel_rfl:Tryz.prog.underlying 493=some Tryz.t492.desc),rfl,rfl,_,_,_,ty3,rfl⟩
theorem qjv:zr Tryz.prog 40 [(0,1),(1,1)]:=⟨_,(by kernel_rfl:Tryz.prog.underlying 40=some Tryz.t39.desc),fun _=>by kernel_rfl⟩
theorem qhH:zr Tryz.prog 50 [(0,1),(1,1),(2,1),(3,1)]:=⟨_,(by kernel_rfl:Tryz.prog.underlying 50=some Tryz.t49.desc),fun _=>by kernel_rfl⟩
theorem qcf:zr Tryz.prog 71 [(0,1),(1,1),(2,1),(3,1)]:=⟨_,(by kernel_rfl:Tryz.prog.underlying 71=some Tryz.t70.desc),fun _=>by kernel_rfl⟩
theorem qoQ:zr Tryz.prog 129 [(0,1),(1,1)]:=⟨_,(by kernel_rfl:Tryz.prog.underlying 129=some Tryz.t128.desc),fun _=>by kernel_rfl⟩
theorem pl134:zr Tryz.prog 134 [(0,1),(1,8),(9,1),(10,1),(11,1),(12,1),(13,1),(14,1)]:=⟨_,(by kernel_rfl:Tryz.prog.underlying 134=some Tryz.t133.desc),fun _=>by kernel_rfl⟩
theorem qeG:zr Tryz.prog 139 [(0,2),(2,2),(4,1)]:=⟨_,(by kernel_rfl:Tryz.prog.underlying 139=some Tryz.t138.desc),fun _=>by kernel_rfl⟩
theorem pl153:zr Tryz.prog 153 [(0,1),(1,1),(2,1),(3,1)]:=⟨_,(by kernel_rfl:Tryz.prog.underlying 153=some Tryz.t152.desc),fun _=>by kernel_rfl⟩
theorem pl170:zr Tryz.prog 170 [(0,1),(1,1),(2,1024)]:=⟨_,(by kernel_rfl:Tryz.prog.underlying 170=some Tryz.t169.desc),fun _=>by kernel_rfl⟩
theorem pl176:zr Tryz.prog 176 [(0,1),(1,1)]:=⟨_,(by kernel_rfl:Tryz.prog.underlying 176=some Tryz.t175.desc),fun _=>by kernel_rfl⟩
theorem pl179:zr Tryz.prog 179 [(0,1),(1,1),(2,512),(514,32)]:=⟨_,(by kernel_rfl:Tryz.prog.underlying 179=some Tryz.t178.desc),fun _=>by kernel_rfl⟩
theorem pl217:zr Tryz.prog 217 [(0,1),(1,1),(2,1),(3,1),(4,1),(5,1),(6,1)]:=⟨_,(by kernel_rfl:Tryz.prog.underlying 217=some Tryz.t216.desc),fun _=>by kernel_rfl⟩
theorem qoP:zr Tryz.prog 220 [(0,1),(1,4)]:=⟨_,(by kernel_rfl:Tryz.prog.underlying 220=some Tryz.t219.desc),fun _=>by kernel_rfl⟩
theorem pl224:zr Tryz.prog 224 [(0,1),(1,1),(2,1),(3,1),(4,1),(5,1)]:=⟨_,(by kernel_rfl:Tryz.prog.underlying 224=some Tryz.t223.desc),fun _=>by kernel_rfl⟩
theorem pl246:zr Tryz.prog 246 [(0,1),(1,1)]:=⟨_,(by kernel_rfl:Tryz.prog.underlying 246=some Tryz.t245.desc),fun _=>by kernel_rfl⟩
theorem pl250:zr Tryz.prog 250 [(0,128),(128,1),(129,1)]:=⟨_,(by kernel_rfl:Tryz.prog.underlying 250=some Tryz.t249.desc),fun _=>by kernel_rfl⟩
theorem pl275:zr Tryz.prog 275 [(0,1)]:=⟨_,(by kernel_rfl:Tryz.prog.underlying 275=some Tryz.t274.desc),fun _=>by kernel_rfl⟩
theorem pl294:zr Tryz.prog 294 [(0,1),(1,256),(257,32)]:=⟨_,(by kernel_rfl:Tryz.prog.underlying 294=some Tryz.t293.desc),fun _=>by kernel_rfl⟩
theorem pl304:zr Tryz.prog 304 [(0,1),(1,1)]:=⟨_,(by kernel_rfl:Tryz.prog.underlying 304=some Tryz.t303.desc),fun _=>by kernel_rfl⟩
theorem qoO:zr Tryz.prog 345 [(0,1),(1,1),(2,1)]:=⟨_,(by kernel_rfl:Tryz.prog.underlying 345=some Tryz.t344.desc),fun _=>by kernel_rfl⟩
theorem pl348:zr Tryz.prog 348 [(0,1),(1,1),(2,1)]:=⟨_,(by kernel_rfl:Tryz.prog.underlying 348=some Tryz.t347.desc),fun _=>by kernel_rfl⟩
theorem pl372:zr Tryz.prog 372 [(0,1),(1,1),(2,1)]:=⟨_,(by kernel_rfl:Tryz.prog.underlying 372=some Tryz.t371.desc),fun _=>by kernel_rfl⟩
theorem pl387:zr Tryz.prog 387 [(0,1),(1,1)]:=⟨_,(by kernel_rfl:Tryz.prog.underlying 387=some Tryz.t386.desc),fun _=>by kernel_rfl⟩
theorem pl391:zr Tryz.prog 391 [(0,1),(1,1)]:=⟨_,(by kernel_rfl:Tryz.prog.underlying 391=some Tryz.t390.desc),fun _=>by kernel_rfl⟩
theorem pl396:zr Tryz.prog 396 [(0,1),(1,1)]:=⟨_,(by kernel_rfl:Tryz.prog.underlying 396=some Tryz.t395.desc),fun _=>by kernel_rfl⟩
theorem pl398:zr Tryz.prog 398 [(0,2),(2,1)]:=⟨_,(by kernel_rfl:Tryz.prog.underlying 398=some Tryz.t397.desc),fun _=>by kernel_rfl⟩
theorem pl406:zr Tryz.prog 406 [(0,1),(1,512),(513,8),(521,1),(522,1)]:=⟨_,(by kernel_rfl:Tryz.prog.underlying 406=some Tryz.t405.desc),fun _=>by kernel_rfl⟩
theorem pl408:zr Tryz.prog 408 [(0,4),(4,1)]:=⟨_,(by kernel_rfl:Tryz.prog.underlying 408=some Tryz.t407.desc),fun _=>by kernel_rfl⟩
theorem pl412:zr Tryz.prog 412 [(0,1),(1,1),(2,1)]:=⟨_,(by kernel_rfl:Tryz.prog.underlying 412=some Tryz.t411.desc),fun _=>by kernel_rfl⟩
theorem pl466:zr Tryz.prog 466 [(0,1),(1,2)]:=⟨_,(by kernel_rfl:Tryz.prog.underlying 466=some Tryz.t465.desc),fun _=>by kernel_rfl⟩
theorem pl485:zr Tryz.prog 485 [(0,1),(1,1),(2,1),(3,1)]:=⟨_,(by kernel_rfl:Tryz.prog.underlying 485=some Tryz.t484.desc),fun _=>by kernel_rfl⟩
theorem pl493:zr Tryz.prog 493 [(0,1),(1,1),(2,1)]:=⟨_,(by kernel_rfl:Tryz.prog.underlying 493=some Tryz.t492.desc),fun _=>by kernel_rfl⟩
def fT:FTr:=(.node 16000 0 (.node 10881 1 (.node 8580 11 (.node 8256 0 (.node 4544 0 (.node 2561 1 (.node 2560 0 .nil .nil) .nil) (.node 4547 3 (.node 4545 1 .nil .nil) .nil)) (.node 8577 1 (.node 8576 0 (.node 8257 1 .nil .nil) .nil) (.node 8579 10 (.node 8578 9 .nil .nil) .nil))) (.node 8898 4 (.node 8583 14 (.node 8582 13 (.node 8581 12 .nil .nil) .nil) (.node 8897 2 (.node 8896 0 .nil .nil) .nil)) (.node 9794 2 (.node 9793 1 (.node 9792 0 .nil .nil) .nil) (.node 10880 0 (.node 9795 3 .nil .nil) .nil)))) (.node 13892 4 (.node 11458 2 (.node 11265 1 (.node 11264 0 (.node 10882 2 .nil .nil) .nil) (.node 11457 1 (.node 11456 0 .nil .nil) .nil)) (.node 13889 1 (.node 13888 0 (.node 11459 514 .nil .nil) .nil) (.node 13891 3 (.node 13890 2 .nil .nil) .nil))) (.node 14337 1 (.node 14080 0 (.node 13894 6 (.node 13893 5 .nil .nil) .nil) (.node 14336 0 (.node 14081 1 .nil .nil) .nil)) (.node 14340 4 (.node 14339 3 (.node 14338 2 .nil .nil) .nil) (.node 14341 5 .nil .nil))))) (.node 25025 1 (.node 22272 0 (.node 18818 257 (.node 17600 0 (.node 16002 129 (.node 16001 128 .nil .nil) .nil) (.node 18817 1 (.node 18816 0 .nil .nil) .nil)) (.node 22080 0 (.node 19457 1 (.node 19456 0 .nil .nil) .nil) (.node 22082 2 (.node 22081 1 .nil .nil) .nil))) (.node 24128 0 (.node 23808 0 (.node 22274 2 (.node 22273 1 .nil .nil) .nil) (.node 23810 2 (.node 23809 1 .nil .nil) .nil)) (.node 24769 1 (.node 24768 0 (.node 24129 2 .nil .nil) .nil) (.node 25024 0 .nil .nil)))) (.node 26369 1 (.node 25985 1 (.node 25472 0 (.node 25345 1 (.node 25344 0 .nil .nil) .nil) (.node 25984 0 (.node 25473 2 .nil .nil) .nil)) (.node 25988 522 (.node 25987 521 (.node 25986 513 .nil .nil) .nil) (.node 26368 0 (.node 26112 0 .nil .nil) .nil))) (.node 31042 2 (.node 29825 1 (.node 29824 0 (.node 26370 2 .nil .nil) .nil) (.node 31041 1 (.node 31040 0 .nil .nil) .nil)) (.node 31553 1 (.node 31552 0 (.node 31043 3 .nil .nil) .nil) (.node 31554 2 .nil .nil))))))
theorem fT_ok:fT.Ok Tryz.prog:=⟨⟨_,_,qkF,by decide⟩,⟨⟨_,_,qk3,by decide⟩,⟨⟨_,_,qlf,by decide⟩,⟨⟨_,_,qll,by decide⟩,⟨⟨_,_,Yq,by decide⟩,⟨⟨_,_,qnK,by decide⟩,⟨⟨_,_,qd1,by decide⟩,trivial,trivial⟩,trivial⟩,⟨⟨_,_,qnJ,by decide⟩,⟨⟨_,_,XF,by decide⟩,trivial,trivial⟩,trivial⟩⟩,⟨⟨_,_,qli,by decide⟩,⟨⟨_,_,qlj,by decide⟩,⟨⟨_,_,qlk,by decide⟩,trivial,trivial⟩,trivial⟩,⟨⟨_,_,qlg,by decide⟩,⟨⟨_,_,qlh,by decide⟩,trivial,trivial⟩,trivial⟩⟩⟩,⟨⟨_,_,qk9,by decide⟩,⟨⟨_,_,qlc,by decide⟩,⟨⟨_,_,qld,by decide⟩,⟨⟨_,_,qle,by decide⟩,trivial,trivial⟩,trivial⟩,⟨⟨_,_,qla,by decide⟩,⟨⟨_,_,qlb,by decide⟩,trivial,trivial⟩,trivial⟩⟩,⟨⟨_,_,qk6,by decide⟩,⟨⟨_,_,qk7,by decide⟩,⟨⟨_,_,qk8,by decide⟩,trivial,trivial⟩,trivial⟩,⟨⟨_,_,qk4,by decide⟩,⟨⟨_,_,qk5,by decide⟩,trivial,trivial⟩,trivial⟩⟩⟩⟩,⟨⟨_,_,qkR,by decide⟩,⟨⟨_,_,qkX,by decide⟩,⟨⟨_,_,qk0,by decide⟩,⟨⟨_,_,qk1,by decide⟩,⟨⟨_,_,qk2,by decide⟩,trivial,trivial⟩,trivial⟩,⟨⟨_,_,qkY,by decide⟩,⟨⟨_,_,qkZ,by decide⟩,trivial,trivial⟩,trivial⟩⟩,⟨⟨_,_,qkU,by decide⟩,⟨⟨_,_,qkV,by decide⟩,⟨⟨_,_,qkW,by decide⟩,trivial,trivial⟩,trivial⟩,⟨⟨_,_,qkS,by decide⟩,⟨⟨_,_,qkT,by decide⟩,trivial,trivial⟩,trivial⟩⟩⟩,⟨⟨_,_,qkL,by decide⟩,⟨⟨_,_,qkO,by decide⟩,⟨⟨_,_,qkP,by decide⟩,⟨⟨_,_,qkQ,by decide⟩,trivial,trivial⟩,trivial⟩,⟨⟨_,_,qkM,by decide⟩,⟨⟨_,_,qkN,by decide⟩,trivial,trivial⟩,trivial⟩⟩,⟨⟨_,_,qkI,by decide⟩,⟨⟨_,_,qkJ,by decide⟩,⟨⟨_,_,qkK,by decide⟩,trivial,trivial⟩,trivial⟩,⟨⟨_,_,qkH,by decide⟩,trivial,trivial⟩⟩⟩⟩⟩,⟨⟨_,_,qko,by decide⟩,⟨⟨_,_,Km,by decide⟩,⟨⟨_,_,qkA,by decide⟩,⟨⟨_,_,qcB,by decide⟩,⟨⟨_,_,qkD,by decide⟩,⟨⟨_,_,qkE,by decide⟩,trivial,trivial⟩,trivial⟩,⟨⟨_,_,qkB,by decide⟩,⟨⟨_,_,qkC,by decide⟩,trivial,trivial⟩,trivial⟩⟩,⟨⟨_,_,qkx,by decide⟩,⟨⟨_,_,qky,by decide⟩,⟨⟨_,_,qkz,by decide⟩,trivial,trivial⟩,trivial⟩,⟨⟨_,_,qay,by decide⟩,⟨⟨_,_,YG,by decide⟩,trivial,trivial⟩,trivial⟩⟩⟩,⟨⟨_,_,qcz,by decide⟩,⟨⟨_,_,qku,by decide⟩,⟨⟨_,_,qkv,by decide⟩,⟨⟨_,_,qkw,by decide⟩,trivial,trivial⟩,trivial⟩,⟨⟨_,_,qcA,by decide⟩,⟨⟨_,_,qkt,by decide⟩,trivial,trivial⟩,trivial⟩⟩,⟨⟨_,_,qkq,by decide⟩,⟨⟨_,_,qkr,by decide⟩,⟨⟨_,_,qks,by decide⟩,trivial,trivial⟩,trivial⟩,⟨⟨_,_,qkp,by decide⟩,trivial,trivial⟩⟩⟩⟩,⟨⟨_,_,qkg,by decide⟩,⟨⟨_,_,Kl,by decide⟩,⟨⟨_,_,qkl,by decide⟩,⟨⟨_,_,qkm,by decide⟩,⟨⟨_,_,qkn,by decide⟩,trivial,trivial⟩,trivial⟩,⟨⟨_,_,qkj,by decide⟩,⟨⟨_,_,qkk,by decide⟩,trivial,trivial⟩,trivial⟩⟩,⟨⟨_,_,qki,by decide⟩,⟨⟨_,_,qcy,by decide⟩,⟨⟨_,_,Kk,by decide⟩,trivial,trivial⟩,trivial⟩,⟨⟨_,_,qcx,by decide⟩,⟨⟨_,_,qkh,by decide⟩,trivial,trivial⟩,trivial⟩⟩⟩,⟨⟨_,_,qka,by decide⟩,⟨⟨_,_,qkd,by decide⟩,⟨⟨_,_,qke,by decide⟩,⟨⟨_,_,qkf,by decide⟩,trivial,trivial⟩,trivial⟩,⟨⟨_,_,qkb,by decide⟩,⟨⟨_,_,qkc,by decide⟩,trivial,trivial⟩,trivial⟩⟩,⟨⟨_,_,qj7,by decide⟩,⟨⟨_,_,qj8,by decide⟩,⟨⟨_,_,qj9,by decide⟩,trivial,trivial⟩,trivial⟩,⟨⟨_,_,qj6,by decide⟩,trivial,trivial⟩⟩⟩⟩⟩⟩
instance:FTI Tryz.prog:=⟨fT,fT_ok⟩
def QF:Nat→Nat→Nat
 | 0,_=>0
 | k+1,x=>QF k x+(x.testBit k).toNat
def ofB:List Nat→Nat
 | []=>0
 | b::l=>256*ofB l+b
theorem qcR {c y:Nat} (hb:b<256) (hc:c<256):(256*y+b) &&& (256*m+c)=256*(y &&& m)+(b &&& c):=by
 have hbc:b &&& c<2 ^ 8:=Nat.lt_of_le_of_lt Nat.and_le_left hb
 have hb:b<2 ^ 8:=hb
 have hc:c<2 ^ 8:=hc
 have e:(256:Nat)=2 ^ 8:=rfl
 rw [e]
 apply Nat.eq_of_testBit_eq
 intro i
 rw [Nat.testBit_and,Nat.testBit_two_pow_mul_add _ hb,Nat.testBit_two_pow_mul_add _ hc,Nat.testBit_two_pow_mul_add _ hbc]
 split
 ·rw [Nat.testBit_and]
 ·rw [Nat.testBit_and]
theorem qer {c y k:Nat} (hb:b<256) (hk:k≤8) (hc:c<2 ^ (8-k)):((256*y+b) >>> k) &&& (256*m+c)=256*((y >>> k) &&& m)+((b >>> k) &&& c):=by
 have hc8:c<2 ^ 8:=Nat.lt_of_lt_of_le hc (Nat.pow_le_pow_right zd zO)
 have hbc:(b >>> k) &&& c<2 ^ 8:=Nat.lt_of_le_of_lt Nat.and_le_right hc8
 have hb:b<2 ^ 8:=hb
 have e:(256:Nat)=2 ^ 8:=rfl
 rw [e]
 apply Nat.eq_of_testBit_eq
 intro i
 rw [Nat.testBit_and,Nat.testBit_shiftRight,Nat.testBit_two_pow_mul_add _ hb,Nat.testBit_two_pow_mul_add _ hc8,Nat.testBit_two_pow_mul_add _ hbc,Nat.testBit_and,Nat.testBit_and,Nat.testBit_shiftRight,Nat.testBit_shiftRight]
 by_cases h:i<8
 ·rw [if_pos h,if_pos h]
  by_cases h2:k+i<8
  ·rw [if_pos h2]
  ·rw [if_neg h2]
   have:c.testBit i=false:=Nat.testBit_lt_two_pow (Nat.lt_of_lt_of_le hc (Nat.pow_le_pow_right zd zO))
   rw [this,Bool.and_false,Bool.and_false]
 ·rw [if_neg h,if_neg h,if_neg (by omega)]
  rw [show k+i-8=k+(i-8) by omega]
def qal (c:Nat):Nat→Nat
 | 0=>0
 | n+1=>256*qal c n+c
def g1 (b:Nat):Nat:=((b >>> 1) &&& 85)+(b &&& 85)
def g2 (b:Nat):Nat:=((b >>> 2) &&& 51)+(b &&& 51)
def g3 (b:Nat):Nat:=(b/16+b)%16
theorem qoN:∀ (l:List Nat),(∀ b∈l,b<256)→((ofB l >>> 1) &&& qal 85 l.length)+(ofB l &&& qal 85 l.length)=ofB (l.map g1)
 | [],_=>rfl
 | b::l,h=>by
  have ih:=qoN l (fun x hx=>h x (List.mem_cons_of_mem _ hx))
  have hb:=h b List.mem_cons_self
  show ((256*ofB l+b) >>> 1 &&& (256*qal 85 l.length+85))+((256*ofB l+b) &&& (256*qal 85 l.length+85))=256*ofB (l.map g1)+g1 b
  rw [qer hb (by decide) (by decide),qcR hb (by decide),← ih]
  unfold g1; omega
theorem qoM:∀ (l:List Nat),(∀ b∈l,b<256)→((ofB l >>> 2) &&& qal 51 l.length)+(ofB l &&& qal 51 l.length)=ofB (l.map g2)
 | [],_=>rfl
 | b::l,h=>by
  have ih:=qoM l (fun x hx=>h x (List.mem_cons_of_mem _ hx))
  have hb:=h b List.mem_cons_self
  show ((256*ofB l+b) >>> 2 &&& (256*qal 51 l.length+51))+((256*ofB l+b) &&& (256*qal 51 l.length+51))=256*ofB (l.map g2)+g2 b
  rw [qer hb (by decide) (by decide),qcR hb (by decide),← ih]
  unfold g2; omega
theorem qoL:∀ (l:List Nat),(∀ b∈l,b/16+b≤100∧b%16≤4)→((ofB l >>> 4)+ofB l) &&& qal 15 l.length=ofB (l.map g3)
 | [],_=>rfl
 | b::l,h=>by
  have hl:∀ x∈l,x/16+x≤100∧x%16≤4:=fun x hx=>h x (List.mem_cons_of_mem _ hx)
  have ih:=qoL l hl
  have hb:=h b List.mem_cons_self
  have hy:ofB l%16≤4:=by
   cases l with
   | nil=>decide
   | cons c l =>
    have:=(hl c List.mem_cons_self).2
    show (256*ofB l+c)%16≤4
    omega
  have e:((256*ofB l+b) >>> 4)+(256*ofB l+b)=256*((ofB l >>> 4)+ofB l)+(b/16+b+16*(ofB l%16)):=by
   rw [Nat.shiftRight_eq_div_pow,Nat.shiftRight_eq_div_pow]
   omega
  show (((256*ofB l+b) >>> 4)+(256*ofB l+b)) &&& (256*qal 15 l.length+15)=256*ofB (l.map g3)+g3 b
  rw [e,qcR (by omega) (by decide),ih,show (15:Nat)=2 ^ 4-1 from rfl,Nat.and_two_pow_sub_one_eq_mod]
  unfold g3; omega
theorem Z8:∀ b:Fin 256,g3 (g2 (g1 b.val))=QF 8 b.val∧g1 b.val<256∧g2 (g1 b.val)/16+g2 (g1 b.val)≤100∧g2 (g1 b.val)%16≤4∧QF 8 b.val≤8:=by decide +kernel
theorem qeD (x:Nat):∀ j k,QF (j+k) x=QF j x+QF k (x >>> j)
 | j,0=>rfl
 | j,k+1=>by
  show QF (j+k) x+(x.testBit (j+k)).toNat=QF j x+(QF k (x >>> j)+((x >>> j).testBit k).toNat)
  rw [qeD x j k,Nat.testBit_shiftRight]; omega
theorem qeC {b y:Nat} (hb:b<256):∀ k,k≤8→QF k (256*y+b)=QF k b
 | 0,_=>rfl
 | k+1,h=>by
  show QF k (256*y+b)+((256*y+b).testBit k).toNat=QF k b+(b.testBit k).toNat
  have hb2:b<2 ^ 8:=hb
  rw [qeC hb k (by omega),show (256:Nat)=2 ^ 8 from rfl,Nat.testBit_two_pow_mul_add _ hb2,if_pos (by omega)]
theorem qjs:∀ (l:List Nat),(∀ b∈l,b<256)→QF (8*l.length) (ofB l)=((l.map (QF 8)).sum)
 | [],_=>rfl
 | b::l,h=>by
  have hb:=h b List.mem_cons_self
  have ih:=qjs l (fun x hx=>h x (List.mem_cons_of_mem _ hx))
  have e:8*(b::l).length=8+8*l.length:=by rw [List.length_cons]; omega
  rw [e,qeD]
  show QF 8 (256*ofB l+b)+QF (8*l.length) ((256*ofB l+b) >>> 8)=QF 8 b+(l.map (QF 8)).sum
  rw [qeC hb 8 (Nat.le_refl _),Nat.shiftRight_eq_div_pow,show (256*ofB l+b)/2 ^ 8=ofB l by omega,ih]
def qfR (x:Nat):Nat :=
 let a:=((x >>> 1) &&& 6148914691236517205)+(x &&& 6148914691236517205)
 let b:=((a >>> 2) &&& 3689348814741910323)+(a &&& 3689348814741910323)
 let c:=((b >>> 4)+b) &&& 1085102592571150095
 let d:=c+c >>> 8
 let e:=d+d >>> 16
 let f:=e+e >>> 32
 f%128
theorem qhM (hx:x<18446744073709551616):qfR x=QF 64 x:=by
 obtain ⟨b0,b1,b2,b3,b4,b5,b6,b7,h0,h1,h2,h3,h4,h5,h6,h7,e⟩:∃ b0 b1 b2 b3 b4 b5 b6 b7:Nat,b0<256∧b1<256∧b2<256∧b3<256∧b4<256∧b5<256∧b6<256∧b7<256∧x=ofB [b0,b1,b2,b3,b4,b5,b6,b7]:=by
  refine ⟨x%256,x/256%256,x/65536%256,x/16777216%256,x/4294967296%256,x/1099511627776%256,x/281474976710656%256,x/72057594037927936,?_⟩
  simp only [ofB]
  omega
 subst e
 have hl:∀ b∈[b0,b1,b2,b3,b4,b5,b6,b7],b<256:=by simp; omega
 have s1:=qoN [b0,b1,b2,b3,b4,b5,b6,b7] hl
 have hl1:∀ b∈[b0,b1,b2,b3,b4,b5,b6,b7].map g1,b<256:=fun y hy=>by
  obtain ⟨b,hb,rfl⟩:=List.mem_map.1 hy
  exact (Z8 ⟨b,hl b hb⟩).2.1
 have s2:=qoM ([b0,b1,b2,b3,b4,b5,b6,b7].map g1) hl1
 have hl2:∀ b∈([b0,b1,b2,b3,b4,b5,b6,b7].map g1).map g2,b/16+b≤100∧b%16≤4:=fun y hy=>by
  obtain ⟨b,hb,rfl⟩:=List.mem_map.1 hy
  obtain ⟨c,hc,rfl⟩:=List.mem_map.1 hb
  have:=(Z8 ⟨c,hl c hc⟩).2.2
  exact ⟨this.1,this.2.1⟩
 have s3:=qoL (([b0,b1,b2,b3,b4,b5,b6,b7].map g1).map g2) hl2
 have hp:=qjs [b0,b1,b2,b3,b4,b5,b6,b7] hl
 have q0:=Z8 ⟨b0,h0⟩; have q1:=Z8 ⟨b1,h1⟩; have q2:=Z8 ⟨b2,h2⟩; have q3:=Z8 ⟨b3,h3⟩
 have q4:=Z8 ⟨b4,h4⟩; have q5:=Z8 ⟨b5,h5⟩; have q6:=Z8 ⟨b6,h6⟩; have q7:=Z8 ⟨b7,h7⟩
 dsimp only at q0 q1 q2 q3 q4 q5 q6 q7
 have e1:qal 85 8=6148914691236517205:=by decide
 have e2:qal 51 8=3689348814741910323:=by decide
 have e3:qal 15 8=1085102592571150095:=by decide
 rw [show [b0,b1,b2,b3,b4,b5,b6,b7].length=8 from rfl,e1] at s1
 rw [show ([b0,b1,b2,b3,b4,b5,b6,b7].map g1).length=8 from rfl,e2] at s2
 rw [show (([b0,b1,b2,b3,b4,b5,b6,b7].map g1).map g2).length=8 from rfl,e3] at s3
 unfold qfR
 dsimp only
 rw [s1,s2,s3]
 rw [show 8*[b0,b1,b2,b3,b4,b5,b6,b7].length=64 from rfl] at hp
 rw [hp]
 simp only [List.map_cons,List.map_nil,ofB,List.sum_cons,List.sum_nil,Nat.shiftRight_eq_div_pow]
 rw [q0.1,q1.1,q2.1,q3.1,q4.1,q5.1,q6.1,q7.1]
 have r0:=q0.2.2.2.2; have r1:=q1.2.2.2.2; have r2:=q2.2.2.2.2; have r3:=q3.2.2.2.2
 have r4:=q4.2.2.2.2; have r5:=q5.2.2.2.2; have r6:=q6.2.2.2.2; have r7:=q7.2.2.2.2
 generalize QF 8 b0=d0 at *; generalize QF 8 b1=d1 at *; generalize QF 8 b2=d2 at *; generalize QF 8 b3=d3 at *
 generalize QF 8 b4=d4 at *; generalize QF 8 b5=d5 at *; generalize QF 8 b6=d6 at *; generalize QF 8 b7=d7 at *
 clear hp s1 s2 s3 hl hl1 hl2 q0 q1 q2 q3 q4 q5 q6 q7 hx
 obtain ⟨c,hc⟩:∃ c,c=(256*(256*(256*(256*(256*(256*(256*(256*0+d7)+d6)+d5)+d4)+d3)+d2)+d1)+d0):=⟨_,rfl⟩
 rw [← hc]
 have hx:c/(2 ^ 8)=(256*(256*(256*(256*(256*(256*(256*0+(d7))+(d6))+(d5))+(d4))+(d3))+(d2))+(d1)):=by
  rw [hc]; simp only [Nat.reducePow] ; omega
 rw [hx]
 obtain ⟨c0,hc0⟩:∃ c0,c0=c+(256*(256*(256*(256*(256*(256*(256*0+(d7))+(d6))+(d5))+(d4))+(d3))+(d2))+(d1)):=⟨_,rfl⟩
 rw [← hc0]
 have hd0:c0=(256*(256*(256*(256*(256*(256*(256*(256*0+(d7))+(d6+d7))+(d5+d6))+(d4+d5))+(d3+d4))+(d2+d3))+(d1+d2))+(d0+d1)):=by rw [hc0,hc]; omega
 clear hc hc0 hx
 have hc:=hd0
 clear hd0
 have hy:c0/(2 ^ 16)=(256*(256*(256*(256*(256*(256*0+(d7))+(d6+d7))+(d5+d6))+(d4+d5))+(d3+d4))+(d2+d3)):=by
  rw [hc]; simp only [Nat.reducePow] ; omega
 rw [hy]
 obtain ⟨c1,hc1⟩:∃ c1,c1=c0+(256*(256*(256*(256*(256*(256*0+(d7))+(d6+d7))+(d5+d6))+(d4+d5))+(d3+d4))+(d2+d3)):=⟨_,rfl⟩
 rw [← hc1]
 have hd1:c1=(256*(256*(256*(256*(256*(256*(256*(256*0+(d7))+(d6+d7))+(d5+d6+d7))+(d4+d5+d6+d7))+(d3+d4+d5+d6))+(d2+d3+d4+d5))+(d1+d2+d3+d4))+(d0+d1+d2+d3)):=by rw [hc1,hc]; omega
 clear hc hc1 hy
 have hc:=hd1
 clear hd1
 have hz:c1/(2 ^ 32)=(256*(256*(256*(256*0+(d7))+(d6+d7))+(d5+d6+d7))+(d4+d5+d6+d7)):=by
  rw [hc]; simp only [Nat.reducePow] ; omega
 rw [hz]
 obtain ⟨c2,hc2⟩:∃ c2,c2=c1+(256*(256*(256*(256*0+(d7))+(d6+d7))+(d5+d6+d7))+(d4+d5+d6+d7)):=⟨_,rfl⟩
 rw [← hc2]
 have hd2:c2=(256*(256*(256*(256*(256*(256*(256*(256*0+(d7))+(d6+d7))+(d5+d6+d7))+(d4+d5+d6+d7))+(d3+d4+d5+d6+d7))+(d2+d3+d4+d5+d6+d7))+(d1+d2+d3+d4+d5+d6+d7))+(d0+d1+d2+d3+d4+d5+d6+d7)):=by rw [hc2,hc]; omega
 clear hc hc2 hz
 have hc:=hd2
 clear hd2
 rw [hc]; omega
theorem JY {f:α→List Value} (hf:∀ x,(f x).length=s) {l:List α} {x:α} (h:l[i]?=some x) (hj:j<s):(l.flatMap f)[i*s+j]?=(f x)[j]?:=by
 induction l generalizing i with
 | nil=>simp at h
 | cons y l ih =>
  cases i with
  | zero =>
   obtain rfl:y=x:=by simpa using h
   rw [Nat.zero_mul,Nat.zero_add,List.flatMap_cons,List.getElem?_append_left (by rw [hf]; exact hj)]
  | succ i =>
   rw [List.flatMap_cons,List.getElem?_append_right (by rw [hf,Nat.succ_mul]; omega),hf,show (i+1)*s+j-s=i*s+j by rw [Nat.succ_mul]; omega]
   exact ih (by simpa using h)
theorem zt {f:α→List Value} (hf:∀ x,(f x).length=s) (l:List α):(l.flatMap f).length=l.length*s:=by
 induction l with
 | nil=>simp
 | cons y l ih=>rw [List.flatMap_cons,List.length_append,hf,ih,List.length_cons,Nat.succ_mul]; omega
theorem qbI {f:α→List Value} (hf:∀ x,(f x).length=s) {l:List α} {x:α} (h:l[i]?=some x) (hj:j<s):i*s+j<(l.flatMap f).length:=by
 have hi:=(List.getElem?_eq_some_iff.1 h).1
 have:=Nat.mul_le_mul_right s (show i+1≤l.length by omega)
 rw [zt hf,Nat.succ_mul] at *
 omega
theorem Ji {f:α→List Value} (hf:∀ x,(f x).length=s) {l:List α} {o:Nat} {x:α} (h:l[i]?=some x) (ho:o+m≤s):((l.flatMap f).drop (i*s+o)).take m=((f x).drop o).take m:=by
 apply List.ext_getElem?
 intro j
 by_cases c:j<m
 ·rw [List.getElem?_take,if_pos c,List.getElem?_drop,List.getElem?_take,if_pos c,List.getElem?_drop,Nat.add_assoc,JY hf h (by omega)]
 ·rw [List.getElem?_take,if_neg c,List.getElem?_take,if_neg c]
theorem qex {f:α→List Value} (hf:∀ x,(f x).length=s) {l:List α} {x x':α} {v:Value} (h:l[i]?=some x) (hj:j<s) (e:(f x).set j v=f x'):(l.flatMap f).set (i*s+j) v=(l.set i x').flatMap f:=by
 induction l generalizing i with
 | nil=>simp at h
 | cons y l ih =>
  cases i with
  | zero =>
   obtain rfl:y=x:=by simpa using h
   rw [Nat.zero_mul,Nat.zero_add,List.flatMap_cons,List.set_append_left _ _ (by rw [hf]; exact hj),e]
   rfl
  | succ i =>
   rw [List.flatMap_cons,List.set_append_right _ _ (by rw [hf,Nat.succ_mul]; omega),hf,show (i+1)*s+j-s=i*s+j by rw [Nat.succ_mul]; omega,ih (by simpa using h)]
   rfl
theorem qai {f:α→List Value} (hf:∀ x,(f x).length=s) {l:List α} {o:Nat} {x x':α} {vs:List Value} (h:l[i]?=some x) (ho:o+vs.length≤s) (e:zA (f x) o vs=f x'):zA (l.flatMap f) (i*s+o) vs=(l.set i x').flatMap f:=by
 induction l generalizing i with
 | nil=>simp at h
 | cons y l ih =>
  cases i with
  | zero =>
   obtain rfl:y=x:=by simpa using h
   unfold zA at e ⊢
   show _=f x'++l.flatMap f
   rw [Nat.zero_mul,Nat.zero_add,List.flatMap_cons,← e,List.take_append_of_le_length (by rw [hf]; omega),List.drop_append_of_le_length (by rw [hf]; omega)]
   simp only [List.append_assoc]
  | succ i =>
   have ih:=ih (i:=i) (by simpa using h)
   unfold zA at ih ⊢
   show _=f y++(l.set i x').flatMap f
   rw [← ih,List.flatMap_cons,show (i+1)*s+o=(f y).length+(i*s+o) by rw [hf,Nat.succ_mul]; omega,show (f y).length+(i*s+o)+vs.length=(f y).length+(i*s+o+vs.length) by omega,List.take_length_add_append,List.drop_length_add_append]
   simp only [List.append_assoc]
theorem qaV {f:α→List Value} {l:List α} {x y:α} (e:f x=f y):(l.set i x).flatMap f=(l.set i y).flatMap f:=by
 induction l generalizing i with
 | nil=>rfl
 | cons z l ih=>cases i with
  | zero=>rw [List.set_cons_zero,List.set_cons_zero,List.flatMap_cons,List.flatMap_cons,e]
  | succ i=>rw [List.set_cons_succ,List.set_cons_succ,List.flatMap_cons,List.flatMap_cons,ih]
structure W4 where
 a:Int
 b:Int
 c:Int
 d:Int
deriving DecidableEq
def W4.get (w:W4):Nat→Int
 | 0=>w.a
 | 1=>w.b
 | 2=>w.c
 | _=>w.d
def W4.put (w:W4) (i:Nat) (x:Int):W4:=match i with
 | 0=>{ w with a:=x }
 | 1=>{ w with b:=x }
 | 2=>{ w with c:=x }
 | _=>{ w with d:=x }
def W4.vals (w:W4):List Value:=[zu w.a,zu w.b,zu w.c,zu w.d]
def zW:W4:=⟨0,0,0,0⟩
def W4.of (l:List Int):W4:=⟨l.getD 0 0,l.getD 1 0,l.getD 2 0,l.getD 3 0⟩
theorem W4.copy (h:l.length≤4) (k:Value):zA [k,zu 0,zu 0,zu 0,zu 0] 1 (l.map (.int .u64))=k::(W4.of l).vals:=by
 match l,h with
 | [],_=>rfl
 | [_],_=>rfl
 | [_,_],_=>rfl
 | [_,_,_],_=>rfl
 | [_,_,_,_],_=>rfl
structure Hd where
 slot:Int
 gen:Int
deriving DecidableEq
variable {h:Hd} {C:List (Int × Hd)}
def hdC (h:Hd):List Value:=[zi h.slot,zi h.gen]
def zHd:Hd:=⟨0,0⟩
structure Cel where
 key:Int
 w:W4
deriving DecidableEq
def z7 (c:Cel):List Value:=[zu c.key,zu c.w.a,zu c.w.b,zu c.w.c,zu c.w.d]
def ZG:Cel:=⟨0,zW⟩
structure Slt where
 own:Hd
 st:Nat
 cel:Cel
deriving DecidableEq
variable {L:List Slt}
def Q9 (s:Slt):List Value:=[zi s.own.slot,zi s.own.gen,zu s.cel.key,zu s.cel.w.a,zu s.cel.w.b,zu s.cel.w.c,zu s.cel.w.d]
theorem z6 (s:Slt):(Q9 s).length=7:=rfl
def Y7 (s:Slt):Slt:=if s.own.gen=255 then ⟨s.own,2,ZG⟩ else ⟨⟨s.own.slot,s.own.gen+1⟩,0,ZG⟩
def Qc (L:List Slt) (h:Hd):Int:=if h.slot<0∨(L.length:Int)≤h.slot then 2 else match L[h.slot.toNat]? with
 | some s=>if s.st=1∧s.own=h then 0 else 7
 | none=>2
def ZX (L:List Slt) (h:Hd):Cel:=match L[h.slot.toNat]? with
 | some s=>if Qc L h=0 then s.cel else ZG
 | none=>ZG
def QH (L:List Slt) (h:Hd) (f:Slt→Slt):List Slt:=match L[h.slot.toNat]? with
 | some s=>if Qc L h=0 then L.set h.slot.toNat (f s) else L
 | none=>L
inductive FindA (L:List Slt) (h:Hd):Prop
 | is (i:Nat) (s:Slt) (hi:h.slot=(i:Int)) (hs:L[i]?=some s) (hu:s.st=1) (ho:s.own=h) (he:Qc L h=0) (hc:ZX L h=s.cel) (hset:∀ f,QH L h f=L.set i (f s))
 | lo (hi:h.slot<0) (he:Qc L h=2) (hc:ZX L h=ZG) (hset:∀ f,QH L h f=L)
 | hi (hi:(L.length:Int)≤h.slot) (he:Qc L h=2) (hc:ZX L h=ZG) (hset:∀ f,QH L h f=L)
 | un (i:Nat) (s:Slt) (hi:h.slot=(i:Int)) (hs:L[i]?=some s) (hu:s.st≠1) (he:Qc L h=7) (hc:ZX L h=ZG) (hset:∀ f,QH L h f=L)
 | old (i:Nat) (s:Slt) (hi:h.slot=(i:Int)) (hs:L[i]?=some s) (hu:s.st=1) (ho:s.own≠h) (he:Qc L h=7) (hc:ZX L h=ZG) (hset:∀ f,QH L h f=L)
theorem qls (L:List Slt) (h:Hd):FindA L h:=by
 by_cases h1:h.slot<0
 ·have he:Qc L h=2:=by unfold Qc; rw [if_pos (.inl h1)]
  refine .lo h1 he ?_ (fun f=>?_)
  ·unfold ZX; split; rw [if_neg (by rw [he]; decide)]; rfl
  ·unfold QH; split; rw [if_neg (by rw [he]; decide)]; rfl
 ·by_cases h2:(L.length:Int)≤h.slot
  ·have he:Qc L h=2:=by unfold Qc; rw [if_pos (.inr h2)]
   refine .hi h2 he ?_ (fun f=>?_)
   ·unfold ZX; split; rw [if_neg (by rw [he]; decide)]; rfl
   ·unfold QH; split; rw [if_neg (by rw [he]; decide)]; rfl
  ·obtain ⟨i,hi⟩:∃ i:Nat,h.slot=(i:Int):=⟨h.slot.toNat,by omega⟩
   obtain ⟨s,hs⟩:∃ s,L[i]?=some s:=⟨_,List.getElem?_eq_getElem zO⟩
   have ei:h.slot.toNat=i:=by omega
   have hs':L[h.slot.toNat]?=some s:=by rw [ei]; exact hs
   by_cases h3:s.st=1
   ·by_cases h4:s.own=h
    ·have he:Qc L h=0:=by unfold Qc; rw [if_neg (by omega),hs']; exact if_pos ⟨h3,h4⟩
     refine .is i s hi hs h3 h4 he ?_ (fun f=>?_)
     ·unfold ZX; rw [hs']; exact if_pos he
     ·unfold QH; rw [hs']; rw [ei]; exact if_pos he
    ·have he:Qc L h=7:=by unfold Qc; rw [if_neg (by omega),hs']; exact if_neg (fun h=>h4 h.2)
     refine .old i s hi hs h3 h4 he ?_ (fun f=>?_)
     ·unfold ZX; rw [hs']; exact if_neg (by rw [he]; decide)
     ·unfold QH; rw [hs']; exact if_neg (by rw [he]; decide)
   ·have he:Qc L h=7:=by unfold Qc; rw [if_neg (by omega),hs']; exact if_neg (fun h=>h3 h.1)
    refine .un i s hi hs h3 he ?_ (fun f=>?_)
    ·unfold ZX; rw [hs']; exact if_neg (by rw [he]; decide)
    ·unfold QH; rw [hs']; exact if_neg (by rw [he]; decide)
theorem qnS {s:Slt} (hi:h.slot=(i:Int)) (hs:L[i]?=some s) (hu:s.st=1) (ho:s.own=h):Qc L h=0:=by
 have:=(List.getElem?_eq_some_iff.1 hs).1
 unfold Qc; rw [if_neg (by omega),show h.slot.toNat=i by omega,hs]; exact if_pos ⟨hu,ho⟩
theorem Y0 (he:Qc L h=0):∃ i s,h.slot=((i:Nat):Int)∧L[i]?=some s∧s.st=1∧s.own=h∧ZX L h=s.cel∧∀ f,QH L h f=L.set i (f s):=by
 cases qls L h with
 | is i s hi hs hu ho _ hc hset=>exact ⟨i,s,hi,hs,hu,ho,hc,hset⟩
 | lo _ e _ _=>rw [e] at he; cases he
 | hi _ e _ _=>rw [e] at he; cases he
 | un _ _ _ _ _ e _ _=>rw [e] at he; cases he
 | old _ _ _ _ _ _ e _ _=>rw [e] at he; cases he
theorem XH (he:Qc L h≠0):ZX L h=ZG∧∀ f,QH L h f=L:=by
 cases qls L h with
 | is i s hi hs hu ho e hc hset=>exact absurd e he
 | lo _ _ a b=>exact ⟨a,b⟩
 | hi _ _ a b=>exact ⟨a,b⟩
 | un _ _ _ _ _ _ a b=>exact ⟨a,b⟩
 | old _ _ _ _ _ _ _ a b=>exact ⟨a,b⟩
theorem qdc (L:List Slt) (h:Hd) (f:Slt→Slt):(QH L h f).length=L.length:=by
 unfold QH; split
 ·split
  ·exact List.length_set
  ·rfl
 ·rfl
def ZW (L:List Slt):Option Nat:=L.findIdx? (fun s=>decide (s.st=0))
def K3 (n:Nat) (L:List Slt):Nat:=L.countP (fun s=>decide (s.st=n))
theorem YZ (h:ZW L=some i):∃ s,L[i]?=some s∧s.st=0∧∀ j t,j<i→L[j]?=some t→t.st≠0:=by
 unfold ZW at h
 rw [List.findIdx?_eq_some_iff_getElem] at h
 obtain ⟨hi,h1,h2⟩:=h
 refine ⟨L[i],List.getElem?_eq_getElem hi,of_decide_eq_true h1,fun j t hj ht=>?_⟩
 have:=h2 j hj
 obtain ⟨hj2,rfl⟩:=List.getElem?_eq_some_iff.1 ht
 simpa using this
theorem qbv:ZW L=none↔∀ s∈L,s.st≠0:=by
 unfold ZW
 rw [List.findIdx?_eq_none_iff]
 exact ⟨fun h s hs=>by simpa using h s hs,fun h s hs=>by simpa using h s hs⟩
theorem qlI:K3 n L≠0↔∃ s∈L,s.st=n:=by
 unfold K3
 rw [← Nat.pos_iff_ne_zero,List.countP_pos_iff]
 exact ⟨fun ⟨s,h1,h2⟩=>⟨s,h1,of_decide_eq_true h2⟩,fun ⟨s,h1,h2⟩=>⟨s,h1,decide_eq_true h2⟩⟩
def zC (n:Nat) (L:List Slt) (m:Nat):Prop:=m<18446744073709551616∧∀ i,m.testBit i=(match L[i]? with
 | some s=>decide (s.st=n)
 | none=>false)
theorem qce (h:zC n L m) (hl:L.length≤64):QF 64 m=K3 n L:=by
 have key:∀ k,QF k m=K3 n (L.take k):=by
  intro k
  induction k with
  | zero=>rfl
  | succ k ih =>
   show QF k m+(m.testBit k).toNat=_
   rw [ih,h.2 k,List.take_add_one]
   unfold K3
   rw [List.countP_append]
   cases L[k]? with
   | none=>rfl
   | some s=>by_cases e:s.st=n <;> simp [e]
 rw [key,List.take_of_length_le hl]
theorem zC.at {s:Slt} (h:zC n L m) (hs:L[i]?=some s):m.testBit i=decide (s.st=n):=by rw [h.2 i,hs]
structure Zk (L:List Slt):Prop where
 len:1≤L.length∧L.length≤64
 own:∀ i s,L[i]?=some s→s.own.slot=((i:Nat):Int)∧1≤s.own.gen∧s.own.gen≤255
theorem Zk.set (h:Zk L) {t:Slt} (ht:t.own.slot=(i:Int)∧1≤t.own.gen∧t.own.gen≤255):Zk (L.set i t):=by
 refine ⟨by rw [List.length_set]; exact h.len,fun j s hs=>?_⟩
 by_cases e:i=j
 ·subst e
  by_cases hl:i<L.length
  ·rw [List.getElem?_set_self hl] at hs
   obtain rfl:=Option.some.inj hs
   exact ht
  ·rw [List.getElem?_eq_none (by rw [List.length_set]; omega)] at hs; cases hs
 ·rw [List.getElem?_set_ne e] at hs; exact h.own j s hs
theorem Zk.rel (h:Zk L) {s:Slt} (hs:L[i]?=some s):Zk (L.set i (Y7 s)):=by
 have:=h.own i s hs
 refine h.set ?_
 unfold Y7; split
 ·exact this
 ·exact ⟨this.1,by show 1≤s.own.gen+1; omega,by show s.own.gen+1≤255; omega⟩
theorem qlT:∃ f:Int→Nat,∀ k,f k=((k*11400714819323198485%18446744073709551616)/4294967296%8).toNat:=⟨_,fun _=>rfl⟩
noncomputable def bkt:Int→Nat:=Classical.choose qlT
theorem qlS (k:Int):bkt k=((k*11400714819323198485%18446744073709551616)/4294967296%8).toNat:=Classical.choose_spec qlT k
theorem qee (k:Int):bkt k<8:=by rw [qlS]; omega
def Jo (p:Int × Hd):List Value:=[zu p.1,zi p.2.slot,zi p.2.gen]
theorem Z6 (p:Int × Hd):(Jo p).length=3:=rfl
noncomputable def inB (C:List (Int × Hd)) (b:Nat):List (Int × Hd):=C.filter (fun p=>decide (bkt p.1=b))
def Q6 (C:List (Int × Hd)) (k:Int):Option Hd:=(C.find? (fun p=>decide (p.1=k))).map (·.2)
def Zu (C:List (Int × Hd)) (k:Int):List (Int × Hd):=C.filter (fun p=>decide (p.1≠k))
noncomputable def keysC (C:List (Int × Hd)):List Int:=(List.range 8).flatMap (fun b=>(inB C b).map (·.1))
abbrev Zm (C:List (Int × Hd)):List Int:=C.map (·.1)
theorem KK:Q6 C k=none↔k ∉ Zm C:=by
 unfold Q6
 rw [Option.map_eq_none_iff,List.find?_eq_none]
 constructor
 ·intro h hm
  obtain ⟨p,hp,e⟩:=List.mem_map.1 hm
  exact h p hp (decide_eq_true e)
 ·intro h p hp e
  exact h (List.mem_map.2 ⟨p,hp,of_decide_eq_true e⟩)
theorem qe2 (hf:Q6 C k=some h):(k,h)∈C:=by
 unfold Q6 at hf
 rw [Option.map_eq_some_iff] at hf
 obtain ⟨p,hp,rfl⟩:=hf
 have e:p.1=k:=by simpa using List.find?_some hp
 subst e
 exact List.mem_of_find?_eq_some hp
theorem qgT (hn:(Zm C).Nodup) (hm:(k,h)∈C):Q6 C k=some h:=by
 induction C with
 | nil=>cases hm
 | cons p C ih =>
  have hn':=List.nodup_cons.1 hn
  unfold Q6
  by_cases e:p.1=k
  ·rw [List.find?_cons_of_pos (by simpa using e)]
   rcases List.mem_cons.1 hm with rfl | hm
   ·rfl
   ·exact absurd (List.mem_map.2 ⟨(k,h),hm,rfl⟩) (by rw [← e]; exact hn'.1)
  ·rw [List.find?_cons_of_neg (by simpa using e)]
   rcases List.mem_cons.1 hm with rfl | hm
   ·exact absurd rfl e
   ·exact ih hn'.2 hm
theorem qbL {p:Int × Hd} (h:p∈inB C b):p∈C∧bkt p.1=b:=by
 obtain ⟨h1,h2⟩:=List.mem_filter.1 h
 exact ⟨h1,of_decide_eq_true h2⟩
theorem qd0 (C:List (Int × Hd)) (b:Nat):(inB C b).length≤C.length:=List.length_filter_le _ _
theorem qdk (hn:(Zm C).Nodup) (b:Nat):(Zm (inB C b)).Nodup:=hn.sublist (List.filter_sublist.map _)
theorem qeV (p:Int × Hd) (C:List (Int × Hd)) (b:Nat):inB (p::C) b=if bkt p.1=b then p::inB C b else inB C b:=by
 unfold inB
 by_cases e:bkt p.1=b
 ·rw [if_pos e,List.filter_cons_of_pos (by simpa using e)]
 ·rw [if_neg e,List.filter_cons_of_neg (by simpa using e)]
theorem qgQ (C:List (Int × Hd)) (k:Int) (b:Nat):inB (Zu C k) b=Zu (inB C b) k:=by
 unfold inB Zu
 rw [List.filter_filter,List.filter_filter]
 apply List.filter_congr
 intro p _
 rw [Bool.and_comm]
theorem qcM (h:k ∉ Zm C):Zu C k=C:=by
 unfold Zu
 rw [List.filter_eq_self]
 intro p hp
 exact decide_eq_true fun e=>h (List.mem_map.2 ⟨p,hp,e⟩)
theorem qg0 {p:Int × Hd} (hn:(Zm C).Nodup) (h:C[j]?=some p):Zu C p.1=C.take j++C.drop (j+1):=by
 induction C generalizing j with
 | nil=>simp at h
 | cons q C ih =>
  have hn':=List.nodup_cons.1 hn
  cases j with
  | zero =>
   obtain rfl:q=p:=by simpa using h
   show Zu (q::C) q.1=C
   unfold Zu
   rw [List.filter_cons_of_neg (by simp)]
   exact qcM hn'.1
  | succ j =>
   have hj:C[j]?=some p:=by simpa using h
   have e:q.1≠p.1:=fun e=>hn'.1 (List.mem_map.2 ⟨p,List.mem_of_getElem? hj,e.symm⟩)
   show Zu (q::C) p.1=q::(C.take j++C.drop (j+1))
   rw [← ih hn'.2 hj]
   unfold Zu
   rw [List.filter_cons_of_pos (by simpa using e)]
theorem qaD (hn:(Zm C).Nodup) (hk:k∈Zm C):(Zu C k).length+1=C.length:=by
 obtain ⟨p,hp,rfl⟩:=List.mem_map.1 hk
 obtain ⟨j,hj,rfl⟩:=List.getElem_of_mem hp
 rw [qg0 hn (List.getElem?_eq_getElem hj),List.length_append,List.length_take,List.length_drop]
 omega
theorem qcN (hn:(Zm C).Nodup) (k:Int):(Zm (Zu C k)).Nodup:=hn.sublist (List.filter_sublist.map _)
theorem qcr (C:List (Int × Hd)) (k:Int):Zm (Zu C k)=(Zm C).filter (fun x=>decide (x≠k)):=by
 unfold Zu
 rw [List.filter_map]; rfl
theorem zg {m:Int} (h:-9223372036854775808≤m∧m≤9223372036854775807):IntKind.i64.wrap m=m:=IntWalk.i64_in m h
theorem JU {m:Int} (h:0≤m∧m≤18446744073709551615):IntKind.u64.wrap m=m:=by
 have e:IntKind.u64.wrap m=m%18446744073709551616:=by simp [IntKind.wrap,IntKind.signed,IntKind.bits]
 rw [e]; omega
def qcS (a b:Nat):Nat:=if 18446744073709551615<a+b then 18446744073709551615 else a+b
def ql6 (a b:Nat):Bool:=!decide (18446744073709551615<a+b)
theorem qoa (a b:Nat):qcS a b≤18446744073709551615:=by unfold qcS; split <;> omega
def Jx (a b h:Nat):Nat:=min (max b (qcS a 1)) (qcS a h)
theorem qdt (a b h:Nat):Jx a b h≤18446744073709551615:=Nat.le_trans (Nat.min_le_right _ _) (qoa a h)
theorem qnc (h:n<8):1≤8 ^ n∧8 ^ n≤2097152:=by
 have h1:8 ^ n≤8 ^ 7:=Nat.pow_le_pow_right zO zO
 exact ⟨Nat.pow_pos (by omega),by simpa using h1⟩
theorem two8 (h:n<8):(2:Int) ^ (min (((3*n:Nat):Int)).toNat IntKind.u64.bits)=((8 ^ n:Nat):Int):=by
 have e:min (((3*n:Nat):Int)).toNat IntKind.u64.bits=3*n:=by
  have:IntKind.u64.bits=64:=rfl
  omega
 rw [e,Int.pow_mul,Int.natCast_pow]; rfl
theorem qmV (hn:n<8) (hx:x*8 ^ n≤18446744073709551615):IntKind.u64.wrap ((x:Int)*2 ^ (min (((3*n:Nat):Int)).toNat IntKind.u64.bits))=((x*8 ^ n:Nat):Int):=by
 rw [two8 hn,← Int.natCast_mul]
 generalize x*8 ^ n=k at *
 exact JU ⟨by omega,by omega⟩
theorem shrT (hn:n<8):Int.fdiv (x:Int) (2 ^ (min (((3*n:Nat):Int)).toNat IntKind.u64.bits))=((x/8 ^ n:Nat):Int):=by
 rw [two8 hn,Int.fdiv_eq_ediv_of_nonneg _ (Int.natCast_nonneg _)]
 exact (Int.natCast_ediv _ _).symm
def qa1 (d:Nat):Nat × Bool:=if d<63 then (0,true) else if d<504 then (1,true) else if d<4032 then (2,true) else if d<32256 then (3,true) else if d<258048 then (4,true) else if d<2064384 then (5,true) else if d<16515072 then (6,true) else if d<132120576 then (7,true) else (0,false)
theorem qnq (hn:n<8) (h:d<63*8 ^ n) (hl:∀ j,j<n→63*8 ^ j≤d):qa1 d=(n,true):=by
 have hn':n=0∨n=1∨n=2∨n=3∨n=4∨n=5∨n=6∨n=7:=by omega
 unfold qa1
 rcases hn' with rfl | rfl | rfl | rfl | rfl | rfl | rfl | rfl
 ·rw [if_pos (by omega)]
 ·have:=hl 0 zO
  rw [if_neg (by omega),if_pos (by omega)]
 ·have:=hl 1 zO
  rw [if_neg (by omega),if_neg (by omega),if_pos (by omega)]
 ·have:=hl 2 zO
  rw [if_neg (by omega),if_neg (by omega),if_neg (by omega),if_pos (by omega)]
 ·have:=hl 3 zO
  rw [if_neg (by omega),if_neg (by omega),if_neg (by omega),if_neg (by omega),if_pos (by omega)]
 ·have:=hl 4 zO
  rw [if_neg (by omega),if_neg (by omega),if_neg (by omega),if_neg (by omega),if_neg (by omega),if_pos (by omega)]
 ·have:=hl 5 zO
  rw [if_neg (by omega),if_neg (by omega),if_neg (by omega),if_neg (by omega),if_neg (by omega),if_neg (by omega),if_pos (by omega)]
 ·have:=hl 6 zO
  rw [if_neg (by omega),if_neg (by omega),if_neg (by omega),if_neg (by omega),if_neg (by omega),if_neg (by omega),if_neg (by omega),if_pos (by omega)]
theorem qnp (hl:∀ j,j<8→63*8 ^ j≤d):qa1 d=(0,false):=by
 have:=hl 7 zO
 unfold qa1
 rw [if_neg (by omega),if_neg (by omega),if_neg (by omega),if_neg (by omega),if_neg (by omega),if_neg (by omega),if_neg (by omega),if_neg (by omega)]
theorem qgL (d:Nat):(qa1 d).1<8:=by unfold qa1; (repeat' split) <;> decide
def Zg (x n:Nat):Nat:=if 18446744073709551615/8 ^ n<x then 18446744073709551615 else x*8 ^ n
theorem qb3 (x n:Nat):Zg x n≤18446744073709551615:=by
 unfold Zg; split
 ·omega
 ·rename_i h
  exact (Nat.le_div_iff_mul_le (Nat.pow_pos zO)).1 zO
def Jl (a n:Nat):Nat:=if a/8 ^ n*8 ^ n≠a then a/8 ^ n+1 else a/8 ^ n
structure Qu where
 lv:Nat
 slot:Nat
 at_:Nat
 due:Nat
deriving DecidableEq
def Qu.v (s:Qu):List Value:=[zi (s.lv:Int),zi (s.slot:Int),zu (s.at_:Int),zu (s.due:Int)]
def qN:Qu:=⟨0,0,0,0⟩
def Qq (a b:Nat):Qu × Int :=
 if a=18446744073709551615 then (qN,12)
 else let t:=Jx a b 132120575; let n:=(qa1 (t-a)).1; (⟨n,Jl t n%64,t,Zg (Jl t n) n⟩,0)
def Yk (x s:Nat):Nat:=if (s+18446744073709551616-x)%64=0 then 64 else (s+18446744073709551616-x)%64
def Q8 (a n s:Nat):Nat:=if 18446744073709551615<a/8 ^ n+Yk (a/8 ^ n) s then 18446744073709551615 else Zg (a/8 ^ n+Yk (a/8 ^ n) s) n
theorem qfn (ha:a≤18446744073709551615) (hb:b≤18446744073709551615):Qx Tryz.prog (fun _=>True) 408 [zu ((a:Nat):Int),zu ((b:Nat):Int)] (.tuple #[zu ((qcS a b:Nat):Int),.bool (ql6 a b)]):=by
 intro w0 H hT
 refine qc Tryz.func408 rfl Tryz.ntmps408 rfl rfl (za 8 rfl ?_)
 refine qE rfl rfl (Zw (m:=((18446744073709551615-a:Nat):Int)) (by rw [JU (by omega)]; omega)) rfl ?_
 refine za 2 rfl ?_
 refine qm (p:=18446744073709551615<a+b) rfl (by simp; omega) (fun c0=>?_) (fun c0=>?_)
 ·skip
  refine za 4 rfl ?_
  refine qL (H2:=H) Tryz.results408 rfl rfl (.nil _) zH ?_
  exact ⟨by unfold qcS ql6; rw [if_pos c0,decide_eq_true c0]; rfl,rfl⟩
 ·skip
  refine za 4 rfl ?_
  refine qE rfl rfl (qQ (m:=((a+b:Nat):Int)) (by rw [JU (by omega)]; omega)) rfl ?_
  refine za 3 rfl ?_
  refine qL (H2:=H) Tryz.results408 rfl rfl (.nil _) zH ?_
  exact ⟨by unfold qcS ql6; rw [if_neg c0,decide_eq_false c0]; rfl,rfl⟩
theorem qgq {h:Nat} (ha:a≤18446744073709551615) (hb:b≤18446744073709551615) (hh:h≤18446744073709551615):Qx Tryz.prog (fun _=>True) 358 [zu ((a:Nat):Int),zu ((b:Nat):Int),zu ((h:Nat):Int)] (zu ((Jx a b h:Nat):Int)):=by
 intro w0 H hT
 refine qc Tryz.func358 rfl Tryz.ntmps358 rfl rfl (za 5 rfl ?_)
 refine qT (zc2 rfl rfl) Tryz.call408 rfl (T:=fun _=>True) trivial (qfn (b:=1) ha zO) ?_
 refine za 9 rfl ?_
 refine qT (zc2 rfl rfl) Tryz.call408 rfl (T:=fun _=>True) trivial (qfn ha hh) ?_
 refine za 9 rfl ?_
 refine qp5 rfl rfl (m:=((max b (qcS a 1):Nat):Int)) (by split <;> omega) rfl ?_
 refine qD rfl rfl ?_
 refine qmd rfl rfl (m:=((Jx a b h:Nat):Int)) (by unfold Jx; split <;> omega) rfl ?_
 refine za 2 rfl ?_
 refine qd (H2:=H) Tryz.results358 rfl (.nil _) zH ?_
 exact ⟨rfl,rfl⟩
theorem JN (hn:n<8):Qx Tryz.prog (fun _=>True) 360 [zi (n:Int)] (zu ((3*n:Nat):Int)):=by
 intro w0 H hT
 refine qc Tryz.func360 rfl Tryz.ntmps360 rfl rfl (za 5 rfl ?_)
 refine qE rfl rfl (qdw (m:=((3*n:Nat):Int)) (by rw [zg (by omega)]; omega)) rfl ?_
 refine Jh rfl ty3 qiP (JU zO) rfl (za 2 rfl ?_)
 refine qd (H2:=H) Tryz.results360 rfl (.nil _) zH ?_
 exact ⟨rfl,rfl⟩
theorem qgO (hn:n<8):Qx Tryz.prog (fun _=>True) 433 [zi (n:Int)] (.bool true):=by
 intro w0 H hT
 refine qc Tryz.func433 rfl Tryz.ntmps433 rfl rfl (za 6 rfl ?_)
 rw [decide_eq_true (by omega)]
 refine za 5 rfl ?_
 rw [decide_eq_true (by omega)]
 refine za 3 rfl ?_
 refine qd (H2:=H) Tryz.results433 rfl (.nil _) zH ?_
 exact ⟨rfl,rfl⟩
theorem qiy (hn:n<8):Qx Tryz.prog (fun _=>True) 410 [zi (n:Int)] (zu ((8 ^ n:Nat):Int)):=by
 intro w0 H hT
 refine qc Tryz.func410 rfl Tryz.ntmps410 rfl rfl (za 6 rfl ?_)
 refine qT (zc1 rfl) Tryz.call433 rfl (T:=fun _=>True) trivial (qgO hn) ?_
 refine za 6 rfl ?_
 refine qT (zc1 rfl) Tryz.call360 rfl (T:=fun _=>True) trivial (JN hn) ?_
 refine qE rfl rfl (qfe (by omega) (m:=((8 ^ n:Nat):Int)) (by have h:=qmV (x:=1) hn (by have:=qnc hn; omega); rwa [Nat.one_mul] at h)) rfl ?_
 refine za 2 rfl ?_
 refine qd (H2:=H) Tryz.results410 rfl (.nil _) zH ?_
 exact ⟨rfl,rfl⟩
theorem KC (hn:n<8):Qx Tryz.prog (fun _=>True) 361 [zu ((x:Nat):Int),zi (n:Int)] (zu ((Zg x n:Nat):Int)):=by
 intro w0 H hT
 refine qc Tryz.func361 rfl Tryz.ntmps361 rfl rfl (za 7 rfl ?_)
 refine qT (zc1 rfl) Tryz.call360 rfl (T:=fun _=>True) trivial (JN hn) ?_
 refine qE rfl rfl (Ks zO (m:=((18446744073709551615/8 ^ n:Nat):Int)) (shrT (x:=18446744073709551615) hn)) rfl ?_
 generalize hq:18446744073709551615/8 ^ n=qq
 refine za 2 rfl ?_
 refine qm (p:=qq<x) rfl (by simp) (fun c0=>?_) (fun c0=>?_)
 ·skip
  refine za 3 rfl ?_
  refine qd (H2:=H) Tryz.results361 rfl (.nil _) zH ?_
  exact ⟨by unfold Zg; rw [if_pos (by omega)]; rfl,rfl⟩
 ·skip
  refine za 4 rfl ?_
  refine qT (zc1 rfl) Tryz.call360 rfl (T:=fun _=>True) trivial (JN hn) ?_
  refine qE rfl rfl (qfe zO (m:=((x*8 ^ n:Nat):Int)) (qmV hn ((Nat.le_div_iff_mul_le (Nat.pow_pos zO)).1 zO))) rfl ?_
  refine za 2 rfl ?_
  refine qd (H2:=H) Tryz.results361 rfl (.nil _) zH ?_
  exact ⟨by unfold Zg; rw [if_neg (by omega)],rfl⟩
theorem qos:Qx Tryz.prog (fun _=>True) 359 [zu ((d:Nat):Int)] (.tuple #[zi ((qa1 d).1:Int),.bool (qa1 d).2]):=by
 intro w0 H hT
 refine qc Tryz.func359 rfl Tryz.ntmps359 rfl rfl (za 4 rfl ?_)
 refine KN (fun _ _ _ h=>h) ?_
 refine za 5 rfl (qbR (za 2 rfl ?_))
 refine qU (X:=Nat) [(0,_)] (fun (n:Nat)=>[(4,.bool false),(5,zi (n:Int))]) (fun _=>_) (fun (n:Nat)=>H) (fun (n:Nat)=>n≤8∧∀ j,j<n→63*8 ^ j≤d) (fun (n:Nat)=>8-n) 0 ⟨Nat.zero_le _,fun j hj=>by omega⟩ (qa rfl (qi _)) (qa rfl (qa rfl (qi _))) rfl zH ?_
 rintro n ⟨hn,hl⟩
 simp only [List.cons_append,List.nil_append]
 refine za 5 rfl ?_
 refine qm (p:=(n:Int)<8) rfl (by simp) (fun c0=>?_) (fun c0=>?_)
 ·skip
  refine za 6 rfl ?_
  refine qT (zc1 rfl) Tryz.call360 rfl (T:=fun _=>True) trivial (JN (n:=n) zO) ?_
  refine qE rfl rfl (qfe zO (m:=((63*8 ^ n:Nat):Int)) (qmV (x:=63) zO (by have:=qnc (n:=n) zO; omega))) rfl ?_
  refine za 2 rfl ?_
  refine qm (p:=d<63*8 ^ n) rfl (by rw [decide_eq_true_eq]; exact Int.ofNat_lt) (fun c1=>?_) (fun c1=>?_)
  ·skip
   refine za 17 rfl ?_
   refine qL (H2:=H) Tryz.results359 rfl rfl (.nil _) zH ?_
   exact ⟨by rw [qnq (by omega) c1 hl],rfl⟩
  ·skip
   refine za 4 rfl ?_
   refine qE rfl rfl (qQ (m:=((n+1:Nat):Int)) (by rw [zg (by omega)]; omega)) rfl ?_
   refine za 2 rfl ?_
   refine qP (n+1) ⟨by omega,fun j hj=>by by_cases e:j=n; exact e ▸ zO; exact hl j zO⟩ zO (qa rfl (qa rfl (qa rfl (qi _)))) rfl zH
 ·skip
  refine za 16 rfl ?_
  refine qL (H2:=H) Tryz.results359 rfl rfl (.nil _) zH ?_
  exact ⟨by rw [qnp (fun j hj=>hl j (by omega))]; rfl,rfl⟩
theorem tmN (x k:Nat):(x:Int).tmod (k:Int)=((x%k:Nat):Int):=(Int.ofNat_tmod x k).symm
theorem tdN (x k:Nat):(x:Int).tdiv (k:Int)=((x/k:Nat):Int):=(Int.ofNat_tdiv x k).symm
theorem qih (ha:a≤18446744073709551615) (b h:Nat):a≤Jx a b h:=by unfold Jx qcS; split <;> split <;> omega
theorem qn3 {t:Nat} (ht:t≤18446744073709551615) (h:t/8 ^ n*8 ^ n≠t):t/8 ^ n+1≤18446744073709551615:=by
 have h1:=Nat.div_mul_le_self t (8 ^ n)
 have h2:t/8 ^ n≤t/8 ^ n*8 ^ n:=Nat.le_mul_of_pos_right _ (Nat.pow_pos zO)
 omega
theorem subW (hx:x≤18446744073709551615):IntKind.u64.wrap ((s:Int)-(x:Int))=(((s+18446744073709551616-x)%18446744073709551616:Nat):Int):=by
 have e:IntKind.u64.wrap ((s:Int)-(x:Int))=((s:Int)-(x:Int))%18446744073709551616:=by simp [IntKind.wrap,IntKind.signed,IntKind.bits]
 rw [e]; omega
theorem neqN (a b:Nat):decide ((a:Int)≠(b:Int))=true↔a≠b:=by rw [decide_eq_true_eq]; exact not_congr Int.ofNat_inj
theorem qcY (ha:a≤18446744073709551615) (hb:b≤18446744073709551615):Qx Tryz.prog (fun _=>True) 267 [zu ((a:Nat):Int),zu ((b:Nat):Int)] (.tuple #[.agg (Qq a b).1.v.toArray,zi (Qq a b).2]):=by
 intro w0 H hT
 refine qc Tryz.func267 rfl Tryz.ntmps267 rfl rfl (ze ?_)
 refine qp (l:=qN.v) zj rfl rfl (fun b4=>?_)
 refine za 7 rfl ?_
 refine qm (p:=a=18446744073709551615) rfl (by rw [decide_eq_true_eq]; exact Int.ofNat_inj) (fun c0=>?_) (fun c0=>?_)
 ·skip
  refine ze (qX zj qcf .nil rfl zF rfl ?_)
  refine ql (l':=qN.v) rfl rfl zj rfl rfl (b:=b4) zM (by exact Nat.le_refl 4) rfl zU ?_
  refine za 2 rfl ?_
  refine zc (H2:=H) Tryz.results267 (.nil _) (.own rfl zj rfl zM rfl) (.tmp rfl) zH ?_
  exact ⟨by unfold Qq; rw [if_pos c0],rfl⟩
 ·skip
  refine za 4 rfl ?_
  refine qT (zc3 rfl rfl rfl) Tryz.call358 rfl (T:=fun _=>True) trivial (qgq (h:=132120575) ha hb zO) ?_
  obtain ⟨t,ht⟩:∃ t,t=Jx a b 132120575:=⟨_,rfl⟩
  rw [← ht]
  have ht1:t≤18446744073709551615:=ht ▸ qdt _ _ _
  have ht2:a≤t:=ht ▸ qih ha _ _
  refine za 5 rfl ?_
  refine qE rfl rfl (Zw (m:=((t-a:Nat):Int)) (by rw [JU (by omega)]; omega)) rfl ?_
  refine qT (zc1 rfl) Tryz.call359 rfl (T:=fun _=>True) trivial (qos ) ?_
  obtain ⟨n,hn⟩:∃ n,n=(qa1 (t-a)).1:=⟨_,rfl⟩
  rw [← hn]
  have hn8:n<8:=hn ▸ qgL _
  have hp8:=qnc hn8
  refine za 9 rfl ?_
  refine qT (zc1 rfl) Tryz.call360 rfl (T:=fun _=>True) trivial (JN hn8) ?_
  refine qE rfl rfl (Ks zO (m:=((t/8 ^ n:Nat):Int)) (shrT hn8)) rfl ?_
  refine za 6 rfl ?_
  refine qT (zc1 rfl) Tryz.call360 rfl (T:=fun _=>True) trivial (JN hn8) ?_
  refine qE rfl rfl (qfe zO (m:=((t/8 ^ n*8 ^ n:Nat):Int)) (qmV hn8 (Nat.le_trans (Nat.div_mul_le_self _ _) ht1))) rfl ?_
  refine za 3 rfl ?_
  refine qm (p:=t/8 ^ n*8 ^ n≠t) rfl (neqN _ _) (fun c1=>?_) (fun c1=>?_)
  ·skip
   refine za 2 rfl ?_
   refine qE rfl rfl (qQ (m:=((Jl t n:Nat):Int)) (by have h:=qn3 ht1 c1; have e:Jl t n=t/8 ^ n+1:=if_pos c1; rw [e]; generalize t/8 ^ n=y at *; rw [JU (by omega)]; omega)) rfl ?_
   refine za 5 rfl ?_
   refine qE rfl rfl (YK zd (m:=((Jl t n%64:Nat):Int)) (tmN _ 64)) rfl ?_
   refine Jh rfl zJ ty3 (zg zO) rfl (za 3 rfl ?_)
   refine qT (zc2 rfl rfl) Tryz.call361 rfl (T:=fun _=>True) trivial (KC hn8) ?_
   refine qX (l:=[zi (n:Int),zi ((Jl t n%64:Nat):Int),zu (t:Int),zu ((Zg (Jl t n) n:Nat):Int)]) zj qcf (.cons rfl rfl rfl rfl rfl (.cons rfl rfl rfl rfl rfl (.cons rfl rfl rfl rfl rfl (.cons rfl rfl rfl rfl rfl .nil)))) rfl rfl rfl ?_
   refine ql (l':=[zi (n:Int),zi ((Jl t n%64:Nat):Int),zu (t:Int),zu ((Zg (Jl t n) n:Nat):Int)]) rfl rfl zj rfl rfl (b:=b4) zM (by exact Nat.le_refl 4) rfl zU ?_
   refine za 2 rfl ?_
   refine zc (H2:=H) Tryz.results267 (.nil _) (.own rfl zj rfl zM rfl) (.tmp rfl) zH ?_
   exact ⟨by unfold Qq; rw [if_neg c0]; dsimp only; rw [← ht,← hn]; rfl,rfl⟩
  ·skip
   refine za 2 rfl ?_
   rw [show t/8 ^ n=Jl t n from (if_neg c1).symm]
   refine za 2 rfl ?_
   refine qE rfl rfl (YK zd (m:=((Jl t n%64:Nat):Int)) (tmN _ 64)) rfl ?_
   refine Jh rfl zJ ty3 (zg zO) rfl (za 3 rfl ?_)
   refine qT (zc2 rfl rfl) Tryz.call361 rfl (T:=fun _=>True) trivial (KC hn8) ?_
   refine qX (l:=[zi (n:Int),zi ((Jl t n%64:Nat):Int),zu (t:Int),zu ((Zg (Jl t n) n:Nat):Int)]) zj qcf (.cons rfl rfl rfl rfl rfl (.cons rfl rfl rfl rfl rfl (.cons rfl rfl rfl rfl rfl (.cons rfl rfl rfl rfl rfl .nil)))) rfl rfl rfl ?_
   refine ql (l':=[zi (n:Int),zi ((Jl t n%64:Nat):Int),zu (t:Int),zu ((Zg (Jl t n) n:Nat):Int)]) rfl rfl zj rfl rfl (b:=b4) zM (by exact Nat.le_refl 4) rfl zU ?_
   refine za 2 rfl ?_
   refine zc (H2:=H) Tryz.results267 (.nil _) (.own rfl zj rfl zM rfl) (.tmp rfl) zH ?_
   exact ⟨by unfold Qq; rw [if_neg c0]; dsimp only; rw [← ht,← hn]; rfl,rfl⟩
theorem qis (ha:a≤18446744073709551615) (hn:n<8) (hs:s<64):Qx Tryz.prog (fun _=>True) 411 [zu ((a:Nat):Int),zi (n:Int),zi (s:Int)] (.tuple #[zu ((Q8 a n s:Nat):Int),zi 0]):=by
 intro w0 H hT
 refine qc Tryz.func411 rfl Tryz.ntmps411 rfl rfl (za 7 rfl ?_)
 refine qT (zc1 rfl) Tryz.call433 rfl (T:=fun _=>True) trivial (qgO hn) ?_
 refine za 6 rfl ?_
 rw [decide_eq_false (by omega)]
 refine za 6 rfl ?_
 rw [decide_eq_false (by omega)]
 refine za 7 rfl ?_
 refine qT (zc1 rfl) Tryz.call360 rfl (T:=fun _=>True) trivial (JN hn) ?_
 refine qE rfl rfl (Ks zO (m:=((a/8 ^ n:Nat):Int)) (shrT hn)) rfl ?_
 obtain ⟨x,hx⟩:∃ x,x=a/8 ^ n:=⟨_,rfl⟩
 rw [← hx]
 have hx1:x≤18446744073709551615:=hx ▸ Nat.le_trans (Nat.div_le_self _ _) ha
 refine za 4 rfl (Jh rfl ty3 zJ (JU zO) rfl (qD rfl rfl ?_))
 refine qE rfl rfl (Zw (m:=(((s+18446744073709551616-x)%18446744073709551616:Nat):Int)) (subW hx1)) rfl ?_
 refine qE rfl rfl (YK zd (m:=(((s+18446744073709551616-x)%64:Nat):Int)) ((tmN _ 64).trans zO)) rfl ?_
 refine za 7 rfl ?_
 refine qm (p:=(s+18446744073709551616-x)%64=0) rfl (by rw [decide_eq_true_eq]; omega) (fun c0=>?_) (fun c0=>?_)
 ·skip
  refine za 5 rfl ?_
  have hm:Yk x s=64:=if_pos c0
  refine za 2 rfl ?_
  refine qE rfl rfl (Zw (m:=((18446744073709551615-x:Nat):Int)) (by rw [JU (by omega)]; omega)) rfl ?_
  refine za 2 rfl ?_
  refine qm (p:=18446744073709551615<x+Yk x s) rfl (by rw [decide_eq_true_eq]; omega) (fun c1=>?_) (fun c1=>?_)
  ·skip
   refine za 4 rfl ?_
   refine qL (H2:=H) Tryz.results411 rfl rfl (.nil _) zH ?_
   exact ⟨by unfold Q8; rw [← hx,if_pos c1]; rfl,rfl⟩
  ·skip
   refine za 4 rfl ?_
   refine qE rfl rfl (qQ (m:=((x+Yk x s:Nat):Int)) (by rw [JU (by omega)]; omega)) rfl ?_
   refine qD rfl rfl ?_
   refine qT (zc2 rfl rfl) Tryz.call361 rfl (T:=fun _=>True) trivial (KC hn) ?_
   refine za 3 rfl ?_
   refine qL (H2:=H) Tryz.results411 rfl rfl (.nil _) zH ?_
   exact ⟨by unfold Q8; rw [← hx,if_neg c1],rfl⟩
 ·skip
  refine za 3 rfl ?_
  have hm:Yk x s=(s+18446744073709551616-x)%64:=if_neg c0
  refine za 2 rfl ?_
  refine qE rfl rfl (Zw (m:=((18446744073709551615-x:Nat):Int)) (by rw [JU (by omega)]; omega)) rfl ?_
  refine za 2 rfl ?_
  refine qm (p:=18446744073709551615<x+Yk x s) rfl (by rw [decide_eq_true_eq]; omega) (fun c1=>?_) (fun c1=>?_)
  ·skip
   refine za 4 rfl ?_
   refine qL (H2:=H) Tryz.results411 rfl rfl (.nil _) zH ?_
   exact ⟨by unfold Q8; rw [← hx,if_pos c1]; rfl,rfl⟩
  ·skip
   refine za 4 rfl ?_
   refine qE rfl rfl (qQ (m:=((x+Yk x s:Nat):Int)) (by rw [JU (by omega)]; omega)) rfl ?_
   refine qD rfl rfl ?_
   refine qT (zc2 rfl rfl) Tryz.call361 rfl (T:=fun _=>True) trivial (KC hn) ?_
   refine za 3 rfl ?_
   refine qL (H2:=H) Tryz.results411 rfl rfl (.nil _) zH ?_
   exact ⟨by unfold Q8; rw [← hx,if_neg c1],rfl⟩
theorem qby (ha:a<18446744073709551616) (hb:b<18446744073709551616):Y8 .and .u64 (a:Int) (b:Int)=((a &&& b:Nat):Int):=by
 have ea:BitVec.ofInt 64 (a:Int)=BitVec.ofNat 64 a:=by simp
 have eb:BitVec.ofInt 64 (b:Int)=BitVec.ofNat 64 b:=by simp
 have h:a &&& b<18446744073709551616:=Nat.lt_of_le_of_lt Nat.and_le_left ha
 show IntKind.u64.wrap (((BitVec.ofInt 64 (a:Int) &&& BitVec.ofInt 64 (b:Int)).toNat:Nat):Int)=_
 rw [ea,eb]
 rw [BitVec.toNat_and,BitVec.toNat_ofNat,BitVec.toNat_ofNat,Nat.mod_eq_of_lt (show a<2 ^ 64 from ha),Nat.mod_eq_of_lt (show b<2 ^ 64 from hb)]
 exact JU ⟨by omega,by omega⟩
theorem or64 (ha:a<18446744073709551616) (hb:b<18446744073709551616):Y8 .or .u64 (a:Int) (b:Int)=((a ||| b:Nat):Int):=by
 have ea:BitVec.ofInt 64 (a:Int)=BitVec.ofNat 64 a:=by simp
 have eb:BitVec.ofInt 64 (b:Int)=BitVec.ofNat 64 b:=by simp
 have h:a ||| b<18446744073709551616:=Nat.or_lt_two_pow (n:=64) ha hb
 show IntKind.u64.wrap (((BitVec.ofInt 64 (a:Int) ||| BitVec.ofInt 64 (b:Int)).toNat:Nat):Int)=_
 rw [ea,eb]
 rw [BitVec.toNat_or,BitVec.toNat_ofNat,BitVec.toNat_ofNat,Nat.mod_eq_of_lt (show a<2 ^ 64 from ha),Nat.mod_eq_of_lt (show b<2 ^ 64 from hb)]
 exact JU ⟨by omega,by omega⟩
theorem ql4 (ha:a<18446744073709551616) (hb:b<18446744073709551616):Y8 .andNot .u64 (a:Int) (b:Int)=((a &&& (18446744073709551615-b):Nat):Int):=by
 have ea:BitVec.ofInt 64 (a:Int)=BitVec.ofNat 64 a:=by simp
 have eb:BitVec.ofInt 64 (b:Int)=BitVec.ofNat 64 b:=by simp
 have h:a &&& (18446744073709551615-b)<18446744073709551616:=Nat.lt_of_le_of_lt Nat.and_le_left ha
 show IntKind.u64.wrap (((BitVec.ofInt 64 (a:Int) &&& ~~~(BitVec.ofInt 64 (b:Int))).toNat:Nat):Int)=_
 rw [ea,eb]
 rw [BitVec.toNat_and,BitVec.toNat_not,BitVec.toNat_ofNat,BitVec.toNat_ofNat,Nat.mod_eq_of_lt (show a<2 ^ 64 from ha),Nat.mod_eq_of_lt (show b<2 ^ 64 from hb)]
 show IntKind.u64.wrap ((a &&& (18446744073709551615-b):Nat):Int)=_
 exact JU ⟨by omega,by omega⟩
def Z9 (i:Int):Nat:=if 0≤i∧i<64 then 2 ^ i.toNat else 0
def qdm (i:Int):Bool:=decide (0≤i) && decide (i<64)
theorem qeB (h:i<64):2 ^ i≤9223372036854775808:=by
 have:2 ^ i≤2 ^ 63:=Nat.pow_le_pow_right zO zO
 simpa using this
theorem qbN (i:Int):Z9 i<18446744073709551616:=by
 unfold Z9; split
 ·have:=qeB (i:=i.toNat) zO; omega
 ·omega
theorem qmU {i:Int} (hi:0≤i∧i<64):IntKind.u64.wrap (1*2 ^ (min i.toNat IntKind.u64.bits))=((Z9 i:Nat):Int):=by
 have h:=qeB (i:=i.toNat) zO
 have e:min i.toNat IntKind.u64.bits=i.toNat:=by
  have:IntKind.u64.bits=64:=rfl
  omega
 have e2:(2:Int) ^ i.toNat=((2 ^ i.toNat:Nat):Int):=(Int.natCast_pow 2 _).symm
 unfold Z9
 rw [if_pos hi,Int.one_mul,e,e2]
 generalize 2 ^ i.toNat=k at *
 exact JU ⟨by omega,by omega⟩
theorem qhW (i:Int):Qx Tryz.prog (fun _=>True) 329 [zi i] (.bool (qdm i)):=by
 intro w0 H hT
 refine qc Tryz.func329 rfl Tryz.ntmps329 rfl rfl (za 7 rfl ?_)
 apply qdx
 iterate 4 exact rfl
 case h1 =>
  intro hg2
  refine za 4 rfl ?_
  exact Q3 rfl zR
 refine za 2 rfl ?_
 refine qd (H2:=H) Tryz.results329 rfl (.nil _) zH ?_
 exact ⟨rfl,rfl⟩
theorem qaG (i:Int):Qx Tryz.prog (fun _=>True) 233 [zi i] (zu (Z9 i:Nat)):=by
 intro w0 H hT
 refine qc Tryz.func233 rfl Tryz.ntmps233 rfl rfl (za 6 rfl ?_)
 refine qT (zc1 rfl) Tryz.call329 rfl (T:=fun _=>True) trivial (qhW _) ?_
 refine za 2 rfl ?_
 refine Y2 rfl (fun c0=>?_) (fun c0=>?_)
 ·skip
  refine za 3 rfl ?_
  refine qd (H2:=H) Tryz.results233 rfl (.nil _) zH ?_
  exact ⟨by unfold Z9; rw [if_neg (by intro h; have:qdm i=true:=(by unfold qdm; simp [h.1,h.2]); simp [this] at c0)]; rfl,rfl⟩
 ·skip
  refine za 3 rfl ?_
  have hi:0≤i∧i<64:=by
   have:qdm i=true:=by cases h:qdm i <;> simp_all
   unfold qdm at this
   simpa using this
  refine Jh rfl ty3 qiP (JU zO) rfl (qE rfl rfl (qfe zO (qmU hi)) rfl (za 2 rfl ?_))
  refine qd (H2:=H) Tryz.results233 rfl (.nil _) zH ?_
  exact ⟨rfl,rfl⟩
def ZE (m:Nat) (l:List Int):Nat:=l.foldl (fun m i=>m ||| Z9 i) m
def ZQ (m:Nat) (l:List Int):Nat:=l.foldl (fun m i=>m &&& (18446744073709551615-Z9 i)) m
theorem K9:∀ (l:List Int) {m:Nat},m<18446744073709551616→ZE m l<18446744073709551616
 | [],_,h=>h
 | i::l,_,h=>K9 l (Nat.or_lt_two_pow (n:=64) h (qbN i))
theorem qam:∀ (l:List Int) {m:Nat},m<18446744073709551616→ZQ m l<18446744073709551616
 | [],_,h=>h
 | i::l,_,h=>qam l (Nat.lt_of_le_of_lt Nat.and_le_left h)
theorem Jt {l:List α} {x:α} (h:l[i]?=some x):l.take (i+1)=l.take i++[x]:=by
 rw [List.take_add_one,h]; rfl
theorem qe1 {β:Type} {f:β→Int→β} {b:β} {x:Int} (h:l[i]?=some x):(l.take (i+1)).foldl f b=f ((l.take i).foldl f b) x:=by
 rw [Jt h,List.foldl_append]; rfl
theorem qbU {ad:Option Addr} {cap:Nat} (hm:m<18446744073709551616) (hn:l.length≤4611686018427387904) (hrow:Holds w0 H ad (l.map (Value.int .i64))) :qB Tryz.prog w0 H 232 [zu ((m:Nat):Int),.slice ad l.length cap] (zu ((ZE m l:Nat):Int)):=by
 refine qc Tryz.func232 rfl Tryz.ntmps232 rfl rfl (za 6 rfl (zZ rfl qZ rfl rfl (za 3 rfl ?_)))
 refine qU (X:=Nat) [(7,_),(8,_)] (fun (i:Nat)=>[(0,zu ((ZE m (l.take i):Nat):Int)),(9,zi (i:Int))]) (fun _=>_) (fun (i:Nat)=>H) (fun (i:Nat)=>i≤l.length) (fun (i:Nat)=>l.length-i) 0 (Nat.zero_le _) (qa rfl (qa rfl (qi _))) (qa rfl (qa rfl (qi _))) rfl zH ?_
 intro i hi
 simp only [List.cons_append,List.nil_append]
 refine za 4 rfl ?_
 refine qm (p:=(i:Int)<(l.length:Int)) rfl (by simp) (fun q0=>?_) (fun q0=>?_)
 ·skip
  refine za 4 rfl ?_
  obtain ⟨x,hx⟩:∃ x,l[i]?=some x:=⟨_,List.getElem?_eq_getElem zO⟩
  obtain ⟨q0,p0,rfl,hc⟩:=hrow.at (i:=i) (v:=.int .i64 x) (by rw [List.getElem?_map,hx]; rfl)
  refine qS (j:=i) rfl rfl qZ ty3 rfl zO rfl rfl ?_
  refine qe (v:=zi x) rfl ty3 rfl (by rw [Nat.mul_one]; exact hc) rfl ?_
  refine za 5 rfl ?_
  refine qT (zc1 rfl) Tryz.call233 rfl (T:=fun _=>True) trivial (qaG _) ?_
  refine qE rfl rfl (b_or (m:=((ZE m (l.take (i+1)):Nat):Int)) (by rw [show ZE m (l.take (i+1))=_ from qe1 hx]; exact or64 (K9 _ hm) (qbN x))) rfl ?_
  refine za 4 rfl ?_
  refine qE rfl rfl (qQ (m:=((i+1:Nat):Int)) (by rw [zg (by omega)]; omega)) rfl ?_
  refine za 2 rfl ?_
  refine qP (i+1) zO zO (qa rfl (qa rfl (qa rfl (qa rfl (qi _))))) rfl zH
 ·skip
  refine za 5 rfl ?_
  refine qd (H2:=H) Tryz.results232 rfl (.nil _) zH ?_
  obtain rfl:i=l.length:=by omega
  exact ⟨by rw [List.take_length],rfl⟩
theorem qch {ad:Option Addr} {cap:Nat} (hm:m<18446744073709551616) (hn:l.length≤4611686018427387904) (hrow:Holds w0 H ad (l.map (Value.int .i64))) :qB Tryz.prog w0 H 141 [zu ((m:Nat):Int),.slice ad l.length cap] (zu ((ZQ m l:Nat):Int)):=by
 refine qc Tryz.func141 rfl Tryz.ntmps141 rfl rfl (za 6 rfl (zZ rfl qZ rfl rfl (za 3 rfl ?_)))
 refine qU (X:=Nat) [(7,_),(8,_)] (fun (i:Nat)=>[(0,zu ((ZQ m (l.take i):Nat):Int)),(9,zi (i:Int))]) (fun _=>_) (fun (i:Nat)=>H) (fun (i:Nat)=>i≤l.length) (fun (i:Nat)=>l.length-i) 0 (Nat.zero_le _) (qa rfl (qa rfl (qi _))) (qa rfl (qa rfl (qi _))) rfl zH ?_
 intro i hi
 simp only [List.cons_append,List.nil_append]
 refine za 4 rfl ?_
 refine qm (p:=(i:Int)<(l.length:Int)) rfl (by simp) (fun q0=>?_) (fun q0=>?_)
 ·skip
  refine za 4 rfl ?_
  obtain ⟨x,hx⟩:∃ x,l[i]?=some x:=⟨_,List.getElem?_eq_getElem zO⟩
  obtain ⟨q0,p0,rfl,hc⟩:=hrow.at (i:=i) (v:=.int .i64 x) (by rw [List.getElem?_map,hx]; rfl)
  refine qS (j:=i) rfl rfl qZ ty3 rfl zO rfl rfl ?_
  refine qe (v:=zi x) rfl ty3 rfl (by rw [Nat.mul_one]; exact hc) rfl ?_
  refine za 5 rfl ?_
  refine qT (zc1 rfl) Tryz.call233 rfl (T:=fun _=>True) trivial (qaG _) ?_
  refine qE rfl rfl (qlW (m:=((ZQ m (l.take (i+1)):Nat):Int)) (by rw [show ZQ m (l.take (i+1))=_ from qe1 hx]; exact ql4 (qam _ hm) (qbN x))) rfl ?_
  refine za 4 rfl ?_
  refine qE rfl rfl (qQ (m:=((i+1:Nat):Int)) (by rw [zg (by omega)]; omega)) rfl ?_
  refine za 2 rfl ?_
  refine qP (i+1) zO zO (qa rfl (qa rfl (qa rfl (qa rfl (qi _))))) rfl zH
 ·skip
  refine za 5 rfl ?_
  refine qd (H2:=H) Tryz.results141 rfl (.nil _) zH ?_
  obtain rfl:i=l.length:=by omega
  exact ⟨by rw [List.take_length],rfl⟩
open Go.Lib in
def Tab (w:World):Prop:=∀ j,j<64→w.cell? ⟨0,j,none⟩=some (.int .u8 ((deBruijn64tab.getD j 0:Nat):Int))
open Go.Lib in
theorem qns {r:Nat} (h0:r≠0) (h:r<18446744073709551616):ctz 64 r<64∧r.testBit (ctz 64 r)=true∧(∀ i,i<ctz 64 r→r.testBit i=false)∧∀ i,(r &&& (r-1)).testBit i=(r.testBit i && decide (i≠ctz 64 r)):=by
  obtain ⟨m,hm,hk⟩:=ctzFrom_spec 64 r (by omega) (by simpa using h)
  have hc:ctz 64 r=ctzFrom 64 r:=if_neg h0
  rw [hc]
  generalize ctzFrom 64 r=k at *
  have hp:0<2 ^ k:=Nat.two_pow_pos k
  have e1:r=2 ^ k*(2*m+1)+0:=by omega
  have e2:r-1=2 ^ k*(2*m)+(2 ^ k-1):=by
    rw [hm,Nat.mul_add,Nat.mul_one]; omega
  have b1:∀ i,r.testBit i=if i<k then false else (2*m+1).testBit (i-k):=fun i=>by
    rw [e1,Nat.testBit_two_pow_mul_add _ hp]; simp
  have b2:∀ i,(r-1).testBit i=if i<k then true else (2*m).testBit (i-k):=fun i=>by
    rw [e2,Nat.testBit_two_pow_mul_add _ (by omega),Nat.testBit_two_pow_sub_one]
    split <;> simp_all
  refine ⟨hk,?_,fun i hi=>?_,fun i=>?_⟩
  · rw [b1,if_neg (by omega),Nat.sub_self,Nat.testBit_zero]; simp
  · rw [b1,if_pos hi]
  · rw [Nat.testBit_and,b1,b2]
    by_cases c1:i<k
    · rw [if_pos c1,if_pos c1]; rfl
    · rw [if_neg c1,if_neg c1]
      by_cases c2:i=k
      · subst c2; rw [Nat.sub_self,Nat.testBit_zero,Nat.testBit_zero]; simp
      · obtain ⟨t,ht⟩:∃ t,i-k=t+1:=⟨i-k-1,by omega⟩
        rw [ht,Nat.testBit_succ,Nat.testBit_succ,show (2*m+1)/2=m by omega,show 2*m/2=m by omega]
        simp [c2]
def Z2 (m:Nat) (f:Int):Option Nat:=(List.range 64).find? (fun i=>m.testBit i && decide (f≤(i:Int)))
theorem qcl (hi:i<64) (hb:m.testBit i=true) (hf:f≤(i:Int)) (hl:∀ j,j<i→m.testBit j=true→(j:Int)<f):Z2 m f=some i:=by
  unfold Z2
  rw [List.find?_range_eq_some]
  refine ⟨by rw [hb,decide_eq_true hf]; rfl,List.mem_range.2 hi,fun j hj=>?_⟩
  cases h:m.testBit j with
  | false=>rfl
  | true=>have:=hl j hj h; rw [decide_eq_false (by omega)]; rfl
theorem qcm (hl:∀ j,m.testBit j=true→(j:Int)<f):Z2 m f=none:=by
  unfold Z2
  rw [List.find?_eq_none]
  intro j _ h
  rw [Bool.and_eq_true] at h
  have:=hl j h.1
  have:=of_decide_eq_true h.2
  omega
theorem JZ (h:Z2 m f=some i):i<64∧m.testBit i=true∧f≤(i:Int)∧∀ j,j<i→m.testBit j=true→(j:Int)<f:=by
  unfold Z2 at h
  rw [List.find?_range_eq_some] at h
  obtain ⟨h1,h2,h3⟩:=h
  rw [Bool.and_eq_true] at h1
  refine ⟨List.mem_range.1 h2,h1.1,of_decide_eq_true h1.2,fun j hj hb=>?_⟩
  have:=h3 j hj
  rw [hb] at this
  simp at this
  omega
def JI (m:Nat) (f:Int):Value:=match Z2 m f with
  | some i=>.tuple #[.int .i64 (i:Int),.bool true]
  | none=>.tuple #[.int .i64 0,.bool false]
def zN (m:Nat) (f:Int):Option Nat:=(Z2 m f).or (Z2 m 0)
def Je (m:Nat) (f:Int):Value:=match zN m f with
  | some i=>.tuple #[.int .i64 (i:Int),.bool true]
  | none=>.tuple #[.int .i64 0,.bool false]
theorem mulW (a b:Nat):IntKind.u64.wrap ((a:Int)*(b:Int))=((a*b%18446744073709551616:Nat):Int):=by
  have e:IntKind.u64.wrap ((a:Int)*(b:Int))=((a:Int)*(b:Int))%18446744073709551616:=by simp [IntKind.wrap,IntKind.signed,IntKind.bits]
  rw [e,← Int.natCast_mul]; omega
theorem shr58 (x:Nat):Int.fdiv (x:Int) (2 ^ (min (58:Int).toNat IntKind.u64.bits))=((x/288230376151711744:Nat):Int):=by
  have e:(2:Int) ^ (min (58:Int).toNat IntKind.u64.bits)=288230376151711744:=by decide
  rw [e,Int.fdiv_eq_ediv_of_nonneg _ (by decide)]; omega
open Go.Lib in
theorem qmF (hx:x<18446744073709551616):Qx Tryz.prog (Tab) 452 [zu ((x:Nat):Int)] (zi ((ctz 64 x:Nat):Int)):=by
  intro w0 H hT
  refine qc Tryz.func452 rfl Tryz.ntmps452 rfl rfl (za 8 rfl ?_)
  refine qm (p:=x=0) rfl (by rw [decide_eq_true_eq]; exact Int.ofNat_inj) (fun c0=>?_) (fun c0=>?_)
  · skip
    refine za 3 rfl ?_
    refine qd (H2:=H) Tryz.results452 rfl (.nil _) zH ?_
    exact ⟨by rw [c0]; rfl,rfl⟩
  · skip
    refine za 4 rfl ?_
    have hx0:x≠0:=fun e=>c0 (by rw [e])
    obtain ⟨hlow,hk⟩:=lowest_bit 64 x hx0 (by simpa using hx)
    obtain ⟨hi64,htab⟩:=deBruijn64_at _ hk
    refine W_neg rfl (m := ((18446744073709551616 - x : Nat) : Int)) (by have e : IntKind.u64.wrap (0 - (x : Int)) = (0 - (x : Int)) % 18446744073709551616 := by simp [IntKind.wrap, IntKind.signed, IntKind.bits]
                                                                         rw [e]; omega) rfl ?_
    refine qE rfl rfl (qaI (m:=((2 ^ ctz 64 x:Nat):Int)) ((qby hx zO).trans (congrArg (fun z:Nat=>(z:Int)) hlow))) rfl ?_
    refine qE rfl rfl (qdw (m:=((2 ^ ctz 64 x*285870213051353865%18446744073709551616:Nat):Int)) (mulW _ _)) rfl ?_
    refine qE rfl rfl (Ks zd (m:=((2 ^ ctz 64 x*285870213051353865%18446744073709551616/288230376151711744:Nat):Int)) (shr58 _)) rfl ?_
    generalize 2 ^ ctz 64 x*285870213051353865%18446744073709551616/288230376151711744=jj at *
    refine Qe (j:=jj) rfl rfl ty590 ty5 rfl hi64 rfl rfl ?_
    refine qe (v:=.int .u8 ((ctz 64 x:Nat):Int)) rfl ty5 rfl (qf.old (by have h:=hT jj hi64; rw [htab] at h; rw [Nat.mul_one,Nat.zero_add]; exact h)) rfl ?_
    refine Jh rfl ty5 ty3 (zg zO) rfl (za 2 rfl ?_)
    refine qd (H2:=H) Tryz.results452 rfl (.nil _) zH ?_
    exact ⟨rfl,rfl⟩
theorem ql3 {r:Nat} (h0:r≠0):r &&& (r-1)<r:=Nat.lt_of_le_of_lt Nat.and_le_right zO
open Go.Lib in
theorem qii {lp b1:Nat} (hT:Tab w0) (J:Nat→qg→Prop) (S:qg→Prop) (hm:m<18446744073709551616)
  (hround:∀ r Hi,r≠0→r<18446744073709551616→J r Hi→ZD Tryz.prog w0 lp #[zi ((ctz 64 r:Nat):Int)] ((b1,.cells 247 1 [zu (m:Int)])::Hi) (fun v H'=>∃ Hi',qC H' ((b1,.cells 247 1 [zu (m:Int)])::Hi')∧(v=.bool true∧J (r &&& (r-1)) Hi'∨v=.bool false∧S Hi'))) (hJ:J m H) :
  qh Tryz.prog w0 451 #[.func (.yield lp) #[] #[],zp b1] ((b1,.cells 247 1 [zu (m:Int)])::H) (fun _ H'=>∃ Hi',qC H' ((b1,.cells 247 1 [zu (m:Int)])::Hi')∧(J 0 Hi'∨S Hi')):=by
 refine qc (l:=[.func (.yield lp) #[] #[],zp b1]) Tryz.func451 rfl Tryz.ntmps451 rfl rfl ?_
 refine ze (qe rfl Qa rfl (qf.own zM rfl) rfl (za 3 rfl ?_))
 refine qU (X:=(Nat × qg)) [(0,_)] (fun (x:(Nat × qg))=>[(3,zu (x.1:Int))]) (fun _=>_) (fun (x:(Nat × qg))=>(b1,.cells 247 1 [zu (m:Int)])::x.2) (fun (x:(Nat × qg))=>x.1<18446744073709551616∧J x.1 x.2) (fun (x:(Nat × qg))=>x.1) (m,H) ⟨hm,hJ⟩ (qa rfl (qi _)) (qa rfl (qi _)) rfl (qC.refl _) ?_
 rintro ⟨r,Hi⟩ ⟨hr,hJi⟩
 dsimp only at hr hJi ⊢
 simp only [List.cons_append,List.nil_append]
 refine za 5 rfl ?_
 refine qm (p:=r≠0) rfl (neqN r 0) (fun q0=>?_) (fun q0=>?_)
 ·skip
  refine za 6 rfl (qT (zc1 rfl) Tryz.call452 rfl hT (qmF hr) (JT rfl (.cons rfl .nil) rfl (hround r Hi q0 hr hJi) ?_))
  rintro v H' ⟨Hi',hsub,⟨rfl,hJ'⟩ | ⟨rfl,hS'⟩⟩
  ·skip
   refine qO hsub ?_
   refine za 8 rfl ?_
   refine qE rfl rfl (Zw (m:=((r-1:Nat):Int)) (by rw [JU (by omega)]; omega)) rfl ?_
   refine qE rfl rfl (qaI (m:=((r &&& (r-1):Nat):Int)) (qby hr zO)) rfl ?_
   refine za 2 rfl ?_
   refine qP (r &&& (r-1),Hi') ⟨by have:=ql3 q0; show r &&& (r-1)<_; omega,hJ'⟩ (ql3 q0) (qa rfl (qa rfl (qi _))) rfl (qC.refl _)
  ·skip
   refine qO hsub ?_
   refine za 3 rfl (Yv Tryz.results451 (.nil _) (.refl _) ?_)
   exact ⟨Hi',.refl _,.inr hS'⟩
 ·skip
  refine Yg rfl (Zn Tryz.results451 (.nil _) (.refl _) ?_)
  obtain rfl:r=0:=Classical.not_not.1 q0
  exact ⟨Hi,.refl _,.inl hJi⟩
theorem all_L:qh Tryz.prog w0 429 #[zu ((m:Nat):Int)] (H) (fun v H'=>∃ b1,v=.func (.func 451) #[] #[zp b1]∧H'=(b1,.cells 247 1 [zu (m:Int)])::H):=by
 refine qc (l:=[zu ((m:Nat):Int)]) Tryz.func429 rfl Tryz.ntmps429 rfl rfl ?_
 refine ze ?_
 refine qK rfl rfl rfl (fun b1=>?_)
 refine za 3 rfl (qI .nil (.cons rfl .nil) rfl (za 2 rfl (qd Tryz.results429 rfl (.nil _) (.refl _) ?_)))
 exact ⟨b1,rfl,rfl⟩
theorem nx_q {bf:Nat} {i:Int} (hb:(bf,.cells 3 1 [zi f])∈H) :qB Tryz.prog w0 H 396 [zi i,zp bf] (.bool (decide (f≤i))):=by
 refine qc Tryz.func396 rfl Tryz.ntmps396 rfl rfl (za 5 rfl ?_)
 refine qe (v:=zi f) rfl ty3 rfl (qf.own hb rfl) rfl ?_
 refine za 3 rfl ?_
 refine qd (H2:=H) Tryz.results396 rfl (.nil _) zH ?_
 exact ⟨rfl,rfl⟩
theorem qnL {bf:Nat} (hT:Tab w0) (hm:m<18446744073709551616) :
  qh Tryz.prog w0 395 #[zu (m:Int),.func (.func 396) #[] #[zp bf]] ((bf,.cells 3 1 [zi f])::H) (fun v H'=>v=JI m f∧H'=(bf,.cells 3 1 [zi f])::H):=by
 refine qc (l:=[zu (m:Int),.func (.func 396) #[] #[zp bf]]) Tryz.func395 rfl Tryz.ntmps395 rfl rfl ?_
 refine ze ?_
 refine qK rfl rfl rfl (fun b3=>?_)
 refine qp (l:=[zi 0]) ty3 rfl rfl (fun b4=>?_)
 refine qp (l:=[.bool false]) ty4 rfl rfl (fun b5=>?_)
 refine za 4 rfl ?_
 refine qk (zc1 rfl) Tryz.call429 rfl (all_L (m:=m)) ?_
 rintro v H' ⟨b1,rfl,rfl⟩
 refine za 2 rfl (Qp rfl Tryz.call451 ?_)
 intro lp D r hst hpd hps hasg hbody hA
 have hr:=QC hst hpd
 show qh _ _ _ #[_,_] _ _
 refine ((qii (b1:=b1) (m:=m) (H:=(lp,.obj (.loop r))::(D,.obj (.deferred (some [])))::(b5,.cells 4 1 [.bool false])::(b4,.cells 3 1 [zi 0])::(b3,.cells 172 1 [.func (.func 396) #[] #[zp bf]])::(bf,.cells 3 1 [zi f])::H) hT (fun q Hi=>((∀ j,m.testBit j=true→q.testBit j=true∨(j:Int)<f)∧∀ j,q.testBit j=true→m.testBit j=true)∧Hi=(lp,.obj (.loop r))::(D,.obj (.deferred (some [])))::(b5,.cells 4 1 [.bool false])::(b4,.cells 3 1 [zi 0])::(b3,.cells 172 1 [.func (.func 396) #[] #[zp bf]])::(bf,.cells 3 1 [zi f])::H) (fun Hi=>∃ i:Nat,Z2 m f=some i∧Hi=(lp,.obj (.loop (Loop.at r .done (some .ret))))::(D,.obj (.deferred (some [])))::(b5,.cells 4 1 [.bool true])::(b4,.cells 3 1 [zi (i:Int)])::(b3,.cells 172 1 [.func (.func 396) #[] #[zp bf]])::(bf,.cells 3 1 [zi f])::H) hm ?_ ⟨⟨fun j hj=>.inl hj,fun j hj=>hj⟩,rfl⟩).hsub zH).mono ?_
 ·intro q Hi hq0 hq hJ
  obtain ⟨⟨hj1,hj2⟩,rfl⟩:=hJ
  obtain ⟨hk,hkb,hkl,hka⟩:=qns hq0 hq
  obtain ⟨k,hkk⟩:∃ k,k=Go.Lib.ctz 64 q:=⟨_,rfl⟩
  rw [← hkk] at hk hkb hkl hka ⊢
  refine Qo hst hpd hA hps rfl hasg rfl rfl rfl zT ?_
  refine za 3 rfl (Jf hst hpd zT hbody (za 2 rfl ?_))
  refine qe (v:=.func (.func 396) #[] #[zp bf]) rfl qoG rfl (qf.own (b:=b3) zM rfl) rfl ?_
  refine qD rfl rfl ?_
  refine Xr (fa:=[]) (ca:=[zp bf]) rfl (.cons rfl .nil) rfl Tryz.call396 rfl (nx_q (bf:=bf) (f:=f) zM) ?_
  refine qs ?_
  refine qm (p:=f≤(k:Int)) rfl (by simp) (fun g0=>?_) (fun g0=>?_)
  ·skip
   refine za 2 rfl ?_
   refine qv (l':=[zi (k:Int)]) rfl rfl ty3 rfl rfl (b:=b4) zM rfl rfl zU ?_
   refine qv (l':=[.bool true]) rfl rfl ty4 rfl rfl (b:=b5) zM rfl rfl zU ?_
   refine qs (XM zT ?_)
   exact ⟨(lp,.obj (.loop (Loop.at r .done (some .ret))))::(D,.obj (.deferred (some [])))::(b5,.cells 4 1 [.bool true])::(b4,.cells 3 1 [zi (k:Int)])::(b3,.cells 172 1 [.func (.func 396) #[] #[zp bf]])::(bf,.cells 3 1 [zi f])::H,zH,.inr ⟨rfl,k,qcl hk (hj2 k hkb) g0 (fun j hj hb=>(hj1 j hb).elim (fun h=>by rw [hkl j hj] at h; cases h) id),rfl⟩⟩
   skip
  ·skip
   refine za 2 rfl (Qs zT ?_)
   rw [hr]
   refine ⟨(lp,.obj (.loop r))::(D,.obj (.deferred (some [])))::(b5,.cells 4 1 [.bool false])::(b4,.cells 3 1 [zi 0])::(b3,.cells 172 1 [.func (.func 396) #[] #[zp bf]])::(bf,.cells 3 1 [zi f])::H,zH,.inl ⟨rfl,⟨fun j hb=>?_,fun j hb=>hj2 j ?_⟩,rfl⟩⟩
   ·rcases hj1 j hb with h | h
    ·by_cases e:j=k
     ·subst e; exact .inr zO
     ·exact .inl (by rw [hka,h,decide_eq_true e]; rfl)
    ·exact .inr h
   ·rw [hka,Bool.and_eq_true] at hb; exact hb.1
 ·intro _ H' hp
  obtain ⟨Hi',hs,hJS⟩:=hp
  rcases hJS with ⟨⟨hj1,hj2⟩,rfl⟩ | ⟨i,hi,rfl⟩
  case inr =>
   refine ⟨.done,some .ret,(b1,.cells 247 1 [zu (m:Int)])::(D,.obj (.deferred (some [])))::(b5,.cells 4 1 [.bool true])::(b4,.cells 3 1 [zi (i:Int)])::(b3,.cells 172 1 [.func (.func 396) #[] #[zp bf]])::(bf,.cells 3 1 [zi f])::H,hs.trans zH,by decide,?_⟩
   show W _ _ _ _ _ _ _ _ _
   refine zc (H2:=(bf,.cells 3 1 [zi f])::H) Tryz.results395 (.cons zT (.nil _)) (.one rfl ty3 rfl (qf.own (b:=b4) zM rfl)) (.one rfl ty4 rfl (qf.own (b:=b5) zM rfl)) zH ?_
   exact ⟨by unfold JI; rw [hi],rfl⟩
  refine ⟨.ready,none,(b1,.cells 247 1 [zu (m:Int)])::(D,.obj (.deferred (some [])))::(b5,.cells 4 1 [.bool false])::(b4,.cells 3 1 [zi 0])::(b3,.cells 172 1 [.func (.func 396) #[] #[zp bf]])::(bf,.cells 3 1 [zi f])::H,by rw [hr]; exact hs.trans zH,by decide,?_⟩
  show W _ _ _ _ _ _ _ _ _
  refine za 2 rfl ?_
  refine qv (l':=[zi 0]) rfl rfl ty3 rfl rfl (b:=b4) zM rfl rfl zU ?_
  refine qv (l':=[.bool false]) rfl rfl ty4 rfl rfl (b:=b5) zM rfl rfl zU ?_
  refine qs ?_
  refine zc (H2:=(bf,.cells 3 1 [zi f])::H) Tryz.results395 (.cons zT (.nil _)) (.one rfl ty3 rfl (qf.own (b:=b4) zM rfl)) (.one rfl ty4 rfl (qf.own (b:=b5) zM rfl)) zH ?_
  exact ⟨by unfold JI; rw [qcm (fun j hb=>(hj1 j hb).resolve_left (by simp))],rfl⟩
theorem qa0 (hm:m<18446744073709551616):Qx Tryz.prog (Tab) 334 [zu ((m:Nat):Int),zi f] (JI m f):=by
 intro w0 H hT
 refine qc Tryz.func334 rfl Tryz.ntmps334 rfl rfl (ze ?_)
 refine qK rfl rfl rfl (fun b3=>?_)
 refine za 5 rfl (qI .nil (.cons rfl .nil) rfl ?_)
 refine qk (zc2 rfl rfl) Tryz.call395 rfl ((qnL (m:=m) (bf:=b3) (f:=f) (H:=H) hT hm).hsub (.refl _)) ?_
 rintro v H' ⟨rfl,rfl⟩
 rcases hn:Z2 m f with _ | i
 ·skip
  rw [show JI m f=.tuple #[zi 0,.bool false] from by unfold JI; rw [hn]]
  refine za 5 rfl ?_
  refine qL (H2:=H) Tryz.results334 rfl rfl (.nil _) zH ?_
  exact ⟨rfl,rfl⟩
 ·skip
  rw [show JI m f=.tuple #[zi (i:Int),.bool true] from by unfold JI; rw [hn]]
  refine za 5 rfl ?_
  refine qL (H2:=H) Tryz.results334 rfl rfl (.nil _) zH ?_
  exact ⟨rfl,rfl⟩
theorem Kt (hm:m<18446744073709551616):Qx Tryz.prog (Tab) 335 [zu ((m:Nat):Int),zi f] (Je m f):=by
 intro w0 H hT
 refine qc Tryz.func335 rfl Tryz.ntmps335 rfl rfl (za 8 rfl ?_)
 refine qT (zc2 rfl rfl) Tryz.call334 rfl hT (qa0 (f:=f) hm) ?_
 rcases hn:Z2 m f with _ | i
 ·skip
  rw [show JI m f=.tuple #[zi 0,.bool false] from by unfold JI; rw [hn]]
  refine za 13 rfl ?_
  refine qT (zc2 rfl rfl) Tryz.call334 rfl hT (qa0 (f:=0) hm) ?_
  rcases h0:Z2 m 0 with _ | i
  ·skip
   rw [show JI m 0=.tuple #[zi 0,.bool false] from by unfold JI; rw [h0]]
   refine za 5 rfl ?_
   refine qL (H2:=H) Tryz.results335 rfl rfl (.nil _) zH ?_
   exact ⟨by unfold Je zN; rw [hn,h0]; rfl,rfl⟩
  ·skip
   rw [show JI m 0=.tuple #[zi (i:Int),.bool true] from by unfold JI; rw [h0]]
   refine za 5 rfl ?_
   refine qL (H2:=H) Tryz.results335 rfl rfl (.nil _) zH ?_
   exact ⟨by unfold Je zN; rw [hn,h0]; rfl,rfl⟩
 ·skip
  rw [show JI m f=.tuple #[zi (i:Int),.bool true] from by unfold JI; rw [hn]]
  refine za 15 rfl ?_
  refine qL (H2:=H) Tryz.results335 rfl rfl (.nil _) zH ?_
  exact ⟨by unfold Je zN; rw [hn]; rfl,rfl⟩
def rdC (p:Int × Int):List Value:=[zi p.1,zi p.2]
theorem ZP (p:Int × Int):(rdC p).length=2:=rfl
structure Sct where
 D:List (Int × Int)
 m:Nat
 st:Int
variable {S:Sct}
def scC (S:Sct):List Value:=S.D.flatMap rdC++[zu ((S.m:Nat):Int),zi S.st]
structure qbA (S:Sct):Prop where
 len:S.D.length=64
 rng:∀ p∈S.D,0≤p.1∧p.1≤8∧0≤p.2∧p.2≤S.st
 m64:S.m<18446744073709551616
 bit:∀ i,S.m.testBit i=(match S.D[i]? with
  | some p=>decide (0<p.1)
  | none=>false)
theorem YD (h:S.D.length=64):(S.D.flatMap rdC).length=128:=by rw [zt ZP,h]
theorem qmX (h:S.D.length=64):(scC S).length=130:=by unfold scC; rw [List.length_append,YD h]; rfl
theorem scC_m (h:S.D.length=64):(scC S)[128]?=some (zu ((S.m:Nat):Int)):=by
 unfold scC
 rw [List.getElem?_append_right (by rw [YD h]; exact Nat.le_refl _),YD h]; rfl
theorem qpd (h:S.D.length=64):(scC S)[129]?=some (zi S.st):=by
 unfold scC
 rw [List.getElem?_append_right (by rw [YD h]; decide),YD h]; rfl
theorem sIn_q (hl:S.D.length=64) (hm:(sb,.cells 250 130 (scC S))∈H) :qB Tryz.prog w0 H 340 [zp sb] (zu ((S.m:Nat):Int)):=by
 refine qc Tryz.func340 rfl Tryz.ntmps340 rfl rfl (za 6 rfl ?_)
 refine W_x (qr rfl rfl X0) (fun _ h=>by cases h) rfl ?_
 refine za 7 rfl ?_
 refine qe (v:=zu ((S.m:Nat):Int)) rfl Qa rfl (qf.own (b:=sb) hm (scC_m hl)) rfl ?_
 refine za 2 rfl ?_
 refine qd (H2:=H) Tryz.results340 rfl (.nil _) zH ?_
 exact ⟨rfl,rfl⟩
theorem qi9 (hl:S.D.length=64) (hm:(sb,.cells 250 130 (scC S))∈H) :qB Tryz.prog w0 H 341 [zp sb] (zi S.st):=by
 refine qc Tryz.func341 rfl Tryz.ntmps341 rfl rfl (za 6 rfl ?_)
 refine W_x (qr rfl rfl X0) (fun _ h=>by cases h) rfl ?_
 refine za 7 rfl ?_
 refine qe (v:=zi S.st) rfl ty3 rfl (qf.own (b:=sb) hm (qpd hl)) rfl ?_
 refine za 2 rfl ?_
 refine qd (H2:=H) Tryz.results341 rfl (.nil _) zH ?_
 exact ⟨rfl,rfl⟩
def Kp (sb:Nat) (r:Int):Value:=.tuple #[.pointer (if 0≤r∧r<64 then some ⟨sb,r.toNat*2,none⟩ else none),zi (if 0≤r∧r<64 then 0 else 2)]
theorem qmW:qB Tryz.prog w0 H 140 [zp sb,zi r] (Kp sb r):=by
 refine qc Tryz.func140 rfl Tryz.ntmps140 rfl rfl (za 8 rfl ?_)
 refine W_x (qr rfl rfl X0) (fun _ h=>by cases h) rfl ?_
 refine za 5 rfl ?_
 rcases (show r<0∨(¬ r<0∧64≤r)∨(¬ r<0∧¬ 64≤r) by omega) with hr | hr | hr
 ·skip
  refine za 1 rfl ?_
  first | rw [decide_eq_true (by omega)] | rw [decide_eq_false (by omega)]
  refine za 11 rfl ?_
  refine qL (H2:=H) Tryz.results140 rfl rfl (.nil _) zH ?_
  refine ⟨?_,rfl⟩
  unfold Kp
  rw [if_neg (by omega),if_neg (by omega)]
 ·skip
  refine za 1 rfl ?_
  first | rw [decide_eq_true (by omega)] | rw [decide_eq_false (by omega)]
  refine za 5 rfl ?_
  first | rw [decide_eq_true (by omega)] | rw [decide_eq_false (by omega)]
  refine za 8 rfl ?_
  refine qL (H2:=H) Tryz.results140 rfl rfl (.nil _) zH ?_
  refine ⟨?_,rfl⟩
  unfold Kp
  rw [if_neg (by omega),if_neg (by omega)]
 ·skip
  obtain ⟨i,rfl⟩:∃ i:Nat,r=(i:Int):=⟨r.toNat,by omega⟩
  refine za 1 rfl ?_
  first | rw [decide_eq_true (by omega)] | rw [decide_eq_false (by omega)]
  refine za 5 rfl ?_
  first | rw [decide_eq_true (by omega)] | rw [decide_eq_false (by omega)]
  refine za 11 rfl ?_
  refine Qe (j:=i) rfl rfl qoD qbm (by first | rfl | omega) (by first | decide | omega | simp) rfl rfl ?_
  refine za 3 rfl ?_
  refine qL (H2:=H) Tryz.results140 rfl rfl (.nil _) zH ?_
  refine ⟨?_,rfl⟩
  unfold Kp
  rw [if_pos (by omega),if_pos (by omega),Int.toNat_natCast,Nat.zero_add]
def ofS (S:Sct) (r:Int):Int × Int:=if r<0∨64≤r then (0,0) else match S.D[r.toNat]? with
 | some p=>p
 | none=>(0,0)
theorem qpx {p:Int × Int} (h:i<64) (hp:S.D[i]?=some p):ofS S (i:Int)=p:=by
 unfold ofS; rw [if_neg (by omega),Int.toNat_natCast,hp]
theorem sof_q (hok:qbA S) (hm:(sb,.cells 250 130 (scC S))∈H) :qB Tryz.prog w0 H 430 [zp sb,zi r] (.agg (List.toArray (rdC (ofS S r)))):=by
 have hl:=hok.len
 refine qc Tryz.func430 rfl Tryz.ntmps430 rfl rfl (ze ?_)
 refine qp (l:=rdC (0,0)) qbm rfl rfl (fun b4=>?_)
 refine za 4 rfl (qn (zc2 rfl rfl) Tryz.call140 rfl qmW ?_)
 rcases (show (r<0∨64≤r)∨(0≤r∧r<64) by omega) with hr | hr
 ·skip
  rw [show Kp sb r=.tuple #[.pointer none,zi 2] by unfold Kp; rw [if_neg (by omega),if_neg (by omega)]]
  refine za 13 rfl ?_
  refine qX (l:=rdC (0,0)) qbm pl246 .nil rfl rfl rfl ?_
  refine ql (l':=rdC (0,0)) rfl rfl qbm rfl rfl (b:=b4) zM (by exact Nat.le_refl 2) rfl zU ?_
  refine qs ?_
  refine Jy (H2:=H) Tryz.results430 rfl (.nil _) qbm rfl zM rfl zH ?_
  exact ⟨by rw [show ofS S r=(0,0) from if_pos hr],rfl⟩
 ·skip
  obtain ⟨i,rfl⟩:∃ i:Nat,r=(i:Int):=⟨r.toNat,by omega⟩
  have hi:i<S.D.length:=by omega
  obtain ⟨p,hp⟩:∃ p,S.D[i]?=some p:=⟨_,List.getElem?_eq_getElem hi⟩
  have hpr:=hok.rng p (List.mem_of_getElem? hp)
  rw [show Kp sb (i:Int)=.tuple #[.pointer (some ⟨sb,i*2,none⟩),zi 0] by unfold Kp; rw [if_pos (by omega),if_pos (by omega),Int.toNat_natCast]]
  refine za 16 rfl ?_
  refine qJ (vs:=rdC p) rfl qbm rfl (b:=sb) (by repeat (first | exact hm | apply List.mem_cons_of_mem)) (by rw [Nat.ble_eq,qmX hl]; omega) (by unfold scC; rw [List.drop_append_of_le_length (by rw [YD hl]; omega),List.take_append_of_le_length (by rw [List.length_drop,YD hl]; omega)]; exact Ji (o:=0) (m:=2) ZP hp (by decide)) rfl ?_
  refine ql (l':=rdC p) rfl rfl qbm rfl rfl (b:=b4) zM (by exact Nat.le_refl 2) rfl zU ?_
  refine qs ?_
  refine Jy (H2:=H) Tryz.results430 rfl (.nil _) qbm rfl zM rfl zH ?_
  exact ⟨by rw [qpx (by omega) hp],rfl⟩
theorem Kh (hok:qbA S) (hm:(sb,.cells 250 130 (scC S))∈H) :qB Tryz.prog w0 H 397 [zp sb,zi r] (zi (ofS S r).2):=by
 refine qc Tryz.func397 rfl Tryz.ntmps397 rfl rfl (za 6 rfl (qn (zc2 rfl rfl) Tryz.call430 rfl (sof_q hok hm) (qog rfl qkG rfl rfl (za 2 rfl ?_))))
 refine qd (H2:=H) Tryz.results397 rfl (.nil _) zH ?_
 exact ⟨rfl,rfl⟩
structure Cnt where
 n:Int
 top:Int
 stuck:Bool
variable {c:Cnt}
def cnC (c:Cnt):List Value:=[zi c.n,zi c.top,.bool c.stuck]
def XE (c:Cnt):Cnt × Int:=if c.n=0 then (c,4) else if c.n=c.top then (⟨c.n,c.top,true⟩,13) else if c.stuck=true then (c,13) else (⟨c.n+1,c.top,c.stuck⟩,0)
def Zh (c:Cnt):Cnt × Bool × Int:=if c.n=0 then (c,false,4) else if c.stuck=true then (c,false,0) else (⟨c.n-1,c.top,c.stuck⟩,decide (c.n-1=0),0)
theorem qf8 (hm:(cb,.cells 398 3 (cnC c))∈H) :qB Tryz.prog w0 H 345 [zp cb] (.bool (decide (c.n=0))):=by
 refine qc Tryz.func345 rfl Tryz.ntmps345 rfl rfl (za 7 rfl ?_)
 refine qe (v:=zi c.n) rfl ty3 rfl (qf.own (b:=cb) hm rfl) rfl ?_
 refine za 3 rfl ?_
 refine qd (H2:=H) Tryz.results345 rfl (.nil _) zH ?_
 exact ⟨rfl,rfl⟩
theorem qn2 (hm:(cb,.cells 398 3 (cnC c))∈H) :qB Tryz.prog w0 H 402 [zp cb] (.bool (decide (c.n=c.top))):=by
 refine qc Tryz.func402 rfl Tryz.ntmps402 rfl rfl (za 3 rfl (zh zk zK (zq 3 rfl ?_)))
 refine qG (qj (v:=zi c.n) rfl ty3 rfl (qf.own (b:=cb) hm rfl)) rfl ?_
 refine zq 3 rfl ?_
 refine qG (qj (v:=zi c.top) rfl ty3 rfl (qf.own (b:=cb) hm rfl)) rfl ?_
 refine zq 2 rfl (zX ?_)
 refine qd (H2:=H) Tryz.results402 rfl (.nil _) zH ?_
 exact ⟨rfl,rfl⟩
theorem qlN (hm:(cb,.cells 398 3 (cnC c))∈H) :qB Tryz.prog w0 H 169 [zp cb] (zi c.n):=by
 refine qc Tryz.func169 rfl Tryz.ntmps169 rfl rfl (za 6 rfl ?_)
 refine W_x (qr rfl rfl qbl) (fun _ h=>by cases h) rfl ?_
 refine za 8 rfl ?_
 refine qe (v:=zi c.n) rfl ty3 rfl (qf.own (b:=cb) hm rfl) rfl ?_
 refine za 2 rfl ?_
 refine qd (H2:=H) Tryz.results169 rfl (.nil _) zH ?_
 exact ⟨rfl,rfl⟩
theorem qgb:qB Tryz.prog w0 H 169 [.pointer none] (zi 0):=by
 refine qc Tryz.func169 rfl Tryz.ntmps169 rfl rfl (za 6 rfl ?_)
 refine W_x (qr rfl rfl qbl) (fun _ h=>by cases h) rfl ?_
 refine za 5 rfl ?_
 refine qd (H2:=H) Tryz.results169 rfl (.nil _) zH ?_
 exact ⟨rfl,rfl⟩
theorem qpX (hr:0≤c.n∧c.n≤65535) :qh Tryz.prog w0 346 #[zp cb] ((cb,.cells 398 3 (cnC c))::H) (fun v H'=>v=zi (XE c).2∧H'=(cb,.cells 398 3 (cnC (XE c).1))::H):=by
 refine qc (l:=[zp cb]) Tryz.func346 rfl Tryz.ntmps346 rfl rfl ?_
 refine za 7 rfl ?_
 refine W_x (qr rfl rfl qbl) (fun _ h=>by cases h) rfl ?_
 refine za 7 rfl ?_
 refine qn (zc1 rfl) Tryz.call345 rfl (qf8 (c:=c) zM) ?_
 refine za 2 rfl ?_
 refine qm (p:=c.n=0) rfl (by simp) (fun q0=>?_) (fun q0=>?_)
 ·skip
  refine za 3 rfl ?_
  refine qd (H2:=(cb,.cells 398 3 (cnC c))::H) Tryz.results346 rfl (.nil _) zH ?_
  rw [show XE c=(c,4) from if_pos q0]
  exact ⟨rfl,rfl⟩
 ·skip
  refine za 4 rfl ?_
  refine qn (zc1 rfl) Tryz.call402 rfl (qn2 (c:=c) zM) ?_
  refine za 2 rfl ?_
  refine qm (p:=c.n=c.top) rfl (by simp) (fun q1=>?_) (fun q1=>?_)
  ·skip
   refine za 4 rfl ?_
   refine qv (l':=cnC (Cnt.mk c.n c.top true)) rfl rfl ty4 rfl rfl (b:=cb) zM rfl rfl zU ?_
   refine za 7 rfl ?_
   refine qe (v:=.bool true) rfl ty4 rfl (qf.own (b:=cb) zM rfl) rfl ?_
   refine za 5 rfl ?_
   refine qd (H2:=(cb,.cells 398 3 (cnC (Cnt.mk c.n c.top true)))::H) Tryz.results346 rfl (.nil _) zH ?_
   rw [show XE c=(⟨c.n,c.top,true⟩,13) by unfold XE; rw [if_neg q0,if_pos q1]]
   exact ⟨rfl,rfl⟩
  ·skip
   refine za 7 rfl ?_
   refine qe (v:=.bool c.stuck) rfl ty4 rfl (qf.own (b:=cb) zM rfl) rfl ?_
   refine qs ?_
   refine qm (p:=c.stuck=true) rfl .rfl (fun q2=>?_) (fun q2=>?_)
   ·skip
    refine za 3 rfl ?_
    refine qd (H2:=(cb,.cells 398 3 (cnC c))::H) Tryz.results346 rfl (.nil _) zH ?_
    rw [show XE c=(c,13) by unfold XE; rw [if_neg q0,if_neg q1,if_pos q2]]
    exact ⟨rfl,rfl⟩
   ·skip
    refine za 6 rfl ?_
    refine qe (v:=zi c.n) rfl ty3 rfl (qf.own (b:=cb) zM rfl) rfl ?_
    refine qE rfl rfl (qQ (m:=c.n+1) (zg zO)) rfl ?_
    refine za 3 rfl ?_
    refine qv (l':=cnC (Cnt.mk (c.n+1) c.top c.stuck)) rfl rfl ty3 rfl rfl (b:=cb) zM rfl rfl zU ?_
    refine za 4 rfl ?_
    refine qd (H2:=(cb,.cells 398 3 (cnC (Cnt.mk (c.n+1) c.top c.stuck)))::H) Tryz.results346 rfl (.nil _) zH ?_
    rw [show XE c=(⟨c.n+1,c.top,c.stuck⟩,0) by unfold XE; rw [if_neg q0,if_neg q1,if_neg q2]]
    exact ⟨rfl,rfl⟩
theorem qpV (hr:0≤c.n∧c.n≤65535) :qh Tryz.prog w0 256 #[zp cb] ((cb,.cells 398 3 (cnC c))::H) (fun v H'=>v=.tuple #[.bool (Zh c).2.1,zi (Zh c).2.2]∧H'=(cb,.cells 398 3 (cnC (Zh c).1))::H):=by
 refine qc (l:=[zp cb]) Tryz.func256 rfl Tryz.ntmps256 rfl rfl ?_
 refine za 8 rfl ?_
 refine W_x (qr rfl rfl qbl) (fun _ h=>by cases h) rfl ?_
 refine za 7 rfl ?_
 refine qn (zc1 rfl) Tryz.call345 rfl (qf8 (c:=c) zM) ?_
 refine za 2 rfl ?_
 refine qm (p:=c.n=0) rfl (by simp) (fun q0=>?_) (fun q0=>?_)
 ·skip
  refine za 4 rfl ?_
  refine qL (H2:=(cb,.cells 398 3 (cnC c))::H) Tryz.results256 rfl rfl (.nil _) zH ?_
  rw [show Zh c=(c,false,4) from if_pos q0]
  exact ⟨rfl,rfl⟩
 ·skip
  refine za 4 rfl ?_
  refine qe (v:=.bool c.stuck) rfl ty4 rfl (qf.own (b:=cb) zM rfl) rfl ?_
  refine za 2 rfl ?_
  refine qm (p:=c.stuck=true) rfl .rfl (fun q1=>?_) (fun q1=>?_)
  ·skip
   refine za 4 rfl ?_
   refine qL (H2:=(cb,.cells 398 3 (cnC c))::H) Tryz.results256 rfl rfl (.nil _) zH ?_
   rw [show Zh c=(c,false,0) by unfold Zh; rw [if_neg q0,if_pos q1]]
   exact ⟨rfl,rfl⟩
  ·skip
   refine za 7 rfl ?_
   refine qe (v:=zi c.n) rfl ty3 rfl (qf.own (b:=cb) zM rfl) rfl ?_
   refine qE rfl rfl (Zw (m:=c.n-1) (zg zO)) rfl ?_
   refine za 3 rfl ?_
   refine qv (l':=cnC (Cnt.mk (c.n-1) c.top c.stuck)) rfl rfl ty3 rfl rfl (b:=cb) zM rfl rfl zU ?_
   refine za 5 rfl ?_
   refine qn (zc1 rfl) Tryz.call345 rfl (qf8 (c:=(Cnt.mk (c.n-1) c.top c.stuck)) zM) ?_
   refine za 3 rfl ?_
   refine qL (H2:=(cb,.cells 398 3 (cnC (Cnt.mk (c.n-1) c.top c.stuck)))::H) Tryz.results256 rfl rfl (.nil _) zH ?_
   rw [show Zh c=(⟨c.n-1,c.top,c.stuck⟩,decide (c.n-1=0),0) by unfold Zh; rw [if_neg q0,if_neg q1]]
   exact ⟨rfl,rfl⟩
structure Rfe where
 key:Int
 cb:Nat
 clk:Nat
 c:Cnt
def Rfe.ent (e:Rfe):Int × Value × Nat:=(e.key,.pointer (some ⟨e.cb,0,none⟩),e.clk)
def Rfe.blk (e:Rfe):Nat × Blk:=(e.cb,.cells 398 3 (cnC e.c))
inductive Jb (rb:Nat) (top:Int) (R:List (Int × Cnt)):qg→Prop
 | mk {mb cl:Nat} {E:List Rfe} (hok:QP (E.map Rfe.ent) cl) (hR:E.map (fun e=>(e.key,e.c))=R):Jb rb top R ((rb,.cells 304 2 [.int .i64 top,.map (some mb)])::(mb,.obj (qM (Value.int .i64) (E.map Rfe.ent) cl))::E.map Rfe.blk)
def Xk (E:List Rfe) (k:Int):Option Rfe:=E.find? (fun e=>decide (k=e.key))
theorem qj5 (E:List Rfe) (k:Int):Ye (E.map Rfe.ent) k=(Xk E k).map (fun e=>Value.pointer (some ⟨e.cb,0,none⟩)):=by
 unfold Ye Xk
 rw [List.find?_map,Option.map_map]
 rfl
theorem qcw {E:List Rfe} {e:Rfe} (h:Xk E k=some e):e∈E∧e.key=k:=by
 unfold Xk at h
 have:=List.find?_some h
 exact ⟨List.mem_of_find?_eq_some h,(of_decide_eq_true this).symm⟩
theorem qj4 (E:List Rfe) (k:Int):(Ye (E.map Rfe.ent) k).getD (.pointer none)=.pointer ((Xk E k).map fun e=>⟨e.cb,0,none⟩):=by
 rw [qj5]
 cases Xk E k <;> rfl
theorem kkI:JB Tryz.prog 3 (Value.int .i64):=qdZ zk
theorem qak {rb mb cl:Nat} {top:Int} {E:List Rfe} (hm1:(rb,.cells 304 2 [zi top,.map (some mb)])∈H) (hm2:(mb,.obj (qM (Value.int .i64) (E.map Rfe.ent) cl))∈H) :qB Tryz.prog w0 H 168 [zp rb,zi k] (.pointer ((Xk E k).map fun e=>⟨e.cb,0,none⟩)):=by
 refine qc Tryz.func168 rfl Tryz.ntmps168 rfl rfl (za 6 rfl ?_)
 refine W_x (qr rfl rfl X7) (fun _ h=>by cases h) rfl ?_
 refine za 7 rfl ?_
 refine qe (v:=.map (some mb)) rfl qab rfl (qf.own (b:=rb) hm1 rfl) rfl ?_
 refine qD rfl rfl ?_
 refine Xq (l:=E.map Rfe.ent) (cl:=cl) (a:=k) (kf:=(Value.int .i64)) (b:=mb) (zE:=.pointer none) rfl rfl kkI qab (fun w=>by kernel_rfl) hm2 rfl ?_
 simp only [Bool.false_eq_true,if_false]
 rw [qj4]
 refine za 2 rfl ?_
 refine qd (H2:=H) Tryz.results168 rfl (.nil _) zH ?_
 exact ⟨rfl,rfl⟩
end Go.Proofs.YtincjohoncljoaaGreatDoor
