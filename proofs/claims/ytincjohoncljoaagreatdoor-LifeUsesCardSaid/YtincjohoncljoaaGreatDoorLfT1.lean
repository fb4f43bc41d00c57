/-
  Own work: contracts of functions that the statement reaches, and plain facts on what they compute; each theorem says its conditions.
-/
import Derived.Test.YtincjohoncljoaaGreatDoorProg
import Derived.Test.YtincjohoncljoaaGreatDoorLfS1
import Derived.Test.YtincjohoncljoaaGreatDoorLfS2
import Derived.IntWalk
import Derived.Lib.TrailingZeros
import Derived.ChangeKeysEq
import Derived.Test.YtincjohoncljoaaGreatDoorLfA
set_option linter.all false
set_option linter.unusedSimpArgs false
set_option linter.unusedVariables false
set_option maxHeartbeats 16000000
namespace Go.Proofs.YtincjohoncljoaaGreatDoor
open Go Go.Sl
set_option maxRecDepth 100000
theorem ty3:Ty Tryz.prog 3 (Go.TypeDesc.int Go.IntKind.i64) 1 (Go.Value.int Go.IntKind.i64 0) 8:=⟨by kernel_rfl,Tryz.t3,by kernel_rfl,rfl,rfl,rfl⟩
theorem ty4:Ty Tryz.prog 4 Go.TypeDesc.bool 1 (Go.Value.bool false) 1:=⟨by kernel_rfl,Tryz.t4,by kernel_rfl,rfl,rfl,rfl⟩
theorem ty5:Ty Tryz.prog 5 (Go.TypeDesc.int Go.IntKind.u8) 1 (Go.Value.int Go.IntKind.u8 0) 1:=⟨by kernel_rfl,Tryz.t5,by kernel_rfl,rfl,rfl,rfl⟩
theorem ty23:Ty Tryz.prog 23 (Go.TypeDesc.pointer 134) 1 (Go.Value.pointer Option.none) 8:=⟨by kernel_rfl,Tryz.t23,by kernel_rfl,rfl,rfl,rfl⟩
theorem ty30:Ty Tryz.prog 30 (Go.TypeDesc.int Go.IntKind.u64) 1 (Go.Value.int Go.IntKind.u64 0) 8:=⟨by kernel_rfl,Tryz.t30,by kernel_rfl,rfl,rfl,rfl⟩
theorem ty33:Ty Tryz.prog 33 (Go.TypeDesc.pointer 224) 1 (Go.Value.pointer Option.none) 8:=⟨by kernel_rfl,Tryz.t33,by kernel_rfl,rfl,rfl,rfl⟩
theorem ty40:Ty Tryz.prog 40 Tryz.t39.desc 2 (Go.Value.agg #[(Go.Value.int Go.IntKind.i64 0),(Go.Value.int Go.IntKind.i64 0)]) 16:=⟨by kernel_rfl,Tryz.t40,by kernel_rfl,rfl,rfl,rfl⟩
theorem ty47:Ty Tryz.prog 47 (Go.TypeDesc.slice 50) 1 (Go.Value.slice Option.none 0 0) 24:=⟨by kernel_rfl,Tryz.t47,by kernel_rfl,rfl,rfl,rfl⟩
theorem ty50:Ty Tryz.prog 50 Tryz.t49.desc 4 (Go.Value.agg #[(Go.Value.int Go.IntKind.i64 0),(Go.Value.int Go.IntKind.i64 0),(Go.Value.int Go.IntKind.i64 0),(Go.Value.bool false)]) 32:=⟨by kernel_rfl,Tryz.t50,by kernel_rfl,rfl,rfl,rfl⟩
theorem ty53:Ty Tryz.prog 53 (Go.TypeDesc.slice 4) 1 (Go.Value.slice Option.none 0 0) 24:=⟨by kernel_rfl,Tryz.t53,by kernel_rfl,rfl,rfl,rfl⟩
theorem ty55:Ty Tryz.prog 55 (Go.TypeDesc.pointer 170) 1 (Go.Value.pointer Option.none) 8:=⟨by kernel_rfl,Tryz.t55,by kernel_rfl,rfl,rfl,rfl⟩
theorem ty63:Ty Tryz.prog 63 (Go.TypeDesc.slice 3) 1 (Go.Value.slice Option.none 0 0) 24:=⟨by kernel_rfl,Tryz.t63,by kernel_rfl,rfl,rfl,rfl⟩
theorem ty65:Ty Tryz.prog 65 (Go.TypeDesc.pointer 217) 1 (Go.Value.pointer Option.none) 8:=⟨by kernel_rfl,Tryz.t65,by kernel_rfl,rfl,rfl,rfl⟩
theorem ty67:Ty Tryz.prog 67 (Go.TypeDesc.pointer 179) 1 (Go.Value.pointer Option.none) 8:=⟨by kernel_rfl,Tryz.t67,by kernel_rfl,rfl,rfl,rfl⟩
theorem ty71:Ty Tryz.prog 71 Tryz.t70.desc 4 (Go.Value.agg #[(Go.Value.int Go.IntKind.i64 0),(Go.Value.int Go.IntKind.i64 0),(Go.Value.int Go.IntKind.u64 0),(Go.Value.int Go.IntKind.u64 0)]) 32:=⟨by kernel_rfl,Tryz.t71,by kernel_rfl,rfl,rfl,rfl⟩
theorem ty84:Ty Tryz.prog 84 (Go.TypeDesc.slice 30) 1 (Go.Value.slice Option.none 0 0) 24:=⟨by kernel_rfl,Tryz.t84,by kernel_rfl,rfl,rfl,rfl⟩
theorem ty129:Ty Tryz.prog 129 Tryz.t128.desc 2 (Go.Value.agg #[(Go.Value.pointer Option.none),(Go.Value.bool false)]) 16:=⟨by kernel_rfl,Tryz.t129,by kernel_rfl,rfl,rfl,rfl⟩
theorem ty130:Ty Tryz.prog 130 (Go.TypeDesc.array 4 129) 8 (Go.Value.agg #[(Go.Value.pointer Option.none),(Go.Value.bool false),(Go.Value.pointer Option.none),(Go.Value.bool false),(Go.Value.pointer Option.none),(Go.Value.bool false),(Go.Value.pointer Option.none),(Go.Value.bool false)]) 64:=⟨by kernel_rfl,Tryz.t130,by kernel_rfl,rfl,rfl,rfl⟩
theorem ty131:Ty Tryz.prog 131 (Go.TypeDesc.pointer 304) 1 (Go.Value.pointer Option.none) 8:=⟨by kernel_rfl,Tryz.t131,by kernel_rfl,rfl,rfl,rfl⟩
theorem ty132:Ty Tryz.prog 132 (Go.TypeDesc.map 3 40) 1 (Go.Value.map Option.none) 8:=⟨by kernel_rfl,Tryz.t132,by kernel_rfl,rfl,rfl,rfl⟩
theorem ty134:Ty Tryz.prog 134 Tryz.t133.desc 15 (Go.Value.agg #[(Go.Value.int Go.IntKind.i64 0),(Go.Value.pointer Option.none),(Go.Value.bool false),(Go.Value.pointer Option.none),(Go.Value.bool false),(Go.Value.pointer Option.none),(Go.Value.bool false),(Go.Value.pointer Option.none),(Go.Value.bool false),(Go.Value.pointer Option.none),(Go.Value.pointer Option.none),(Go.Value.pointer Option.none),(Go.Value.pointer Option.none),(Go.Value.pointer Option.none),(Go.Value.map Option.none)]) 120:=⟨by kernel_rfl,Tryz.t134,by kernel_rfl,rfl,rfl,rfl⟩
theorem ty135:Ty Tryz.prog 135 (Go.TypeDesc.pointer 250) 1 (Go.Value.pointer Option.none) 8:=⟨by kernel_rfl,Tryz.t135,by kernel_rfl,rfl,rfl,rfl⟩
theorem ty139:Ty Tryz.prog 139 Tryz.t138.desc 5 (Go.Value.agg #[(Go.Value.int Go.IntKind.i64 0),(Go.Value.int Go.IntKind.i64 0),(Go.Value.int Go.IntKind.i64 0),(Go.Value.int Go.IntKind.i64 0),(Go.Value.bool false)]) 40:=⟨by kernel_rfl,Tryz.t139,by kernel_rfl,rfl,rfl,rfl⟩
theorem ty153:Ty Tryz.prog 153 Tryz.t152.desc 4 (Go.Value.agg #[(Go.Value.bool false),(Go.Value.bool false),(Go.Value.int Go.IntKind.i64 0),(Go.Value.int Go.IntKind.i64 0)]) 24:=⟨by kernel_rfl,Tryz.t153,by kernel_rfl,rfl,rfl,rfl⟩
theorem ty154:Ty Tryz.prog 154 Tryz.t154.desc 1 Go.Value.nilFunc 8:=⟨by kernel_rfl,Tryz.t154,by kernel_rfl,rfl,rfl,rfl⟩
theorem ty158:Ty Tryz.prog 158 (Go.TypeDesc.slice 129) 1 (Go.Value.slice Option.none 0 0) 24:=⟨by kernel_rfl,Tryz.t158,by kernel_rfl,rfl,rfl,rfl⟩
theorem ty160:Ty Tryz.prog 160 (Go.TypeDesc.slice 40) 1 (Go.Value.slice Option.none 0 0) 24:=⟨by kernel_rfl,Tryz.t160,by kernel_rfl,rfl,rfl,rfl⟩
theorem ty166:Ty Tryz.prog 166 (Go.TypeDesc.pointer 294) 1 (Go.Value.pointer Option.none) 8:=⟨by kernel_rfl,Tryz.t166,by kernel_rfl,rfl,rfl,rfl⟩
theorem ty167:Ty Tryz.prog 167 (Go.TypeDesc.pointer 275) 1 (Go.Value.pointer Option.none) 8:=⟨by kernel_rfl,Tryz.t167,by kernel_rfl,rfl,rfl,rfl⟩
theorem ty168:Ty Tryz.prog 168 (Go.TypeDesc.array 256 153) 1024 ((Tryz.t168.zero).getD undef) 6144:=⟨by kernel_rfl,Tryz.t168,by kernel_rfl,rfl,rfl,rfl⟩
theorem ty170:Ty Tryz.prog 170 Tryz.t169.desc 1026 ((Tryz.t170.zero).getD undef) 6160:=⟨by kernel_rfl,Tryz.t170,by kernel_rfl,rfl,rfl,rfl⟩
theorem ty172:Ty Tryz.prog 172 Tryz.t172.desc 1 Go.Value.nilFunc 8:=⟨by kernel_rfl,Tryz.t172,by kernel_rfl,rfl,rfl,rfl⟩
theorem ty176:Ty Tryz.prog 176 Tryz.t175.desc 2 (Go.Value.agg #[(Go.Value.bool false),(Go.Value.int Go.IntKind.i64 0)]) 16:=⟨by kernel_rfl,Tryz.t176,by kernel_rfl,rfl,rfl,rfl⟩
theorem ty177:Ty Tryz.prog 177 (Go.TypeDesc.array 256 176) 512 ((Tryz.t177.zero).getD undef) 4096:=⟨by kernel_rfl,Tryz.t177,by kernel_rfl,rfl,rfl,rfl⟩
theorem ty179:Ty Tryz.prog 179 Tryz.t178.desc 546 ((Tryz.t179.zero).getD undef) 4368:=⟨by kernel_rfl,Tryz.t179,by kernel_rfl,rfl,rfl,rfl⟩
theorem ty213:Ty Tryz.prog 213 (Go.TypeDesc.pointer 345) 1 (Go.Value.pointer Option.none) 8:=⟨by kernel_rfl,Tryz.t213,by kernel_rfl,rfl,rfl,rfl⟩
theorem ty214:Ty Tryz.prog 214 (Go.TypeDesc.pointer 348) 1 (Go.Value.pointer Option.none) 8:=⟨by kernel_rfl,Tryz.t214,by kernel_rfl,rfl,rfl,rfl⟩
theorem ty215:Ty Tryz.prog 215 (Go.TypeDesc.pointer 372) 1 (Go.Value.pointer Option.none) 8:=⟨by kernel_rfl,Tryz.t215,by kernel_rfl,rfl,rfl,rfl⟩
theorem ty217:Ty Tryz.prog 217 Tryz.t216.desc 7 (Go.Value.agg #[(Go.Value.int Go.IntKind.i64 0),(Go.Value.int Go.IntKind.i64 0),(Go.Value.int Go.IntKind.i64 0),(Go.Value.pointer Option.none),(Go.Value.pointer Option.none),(Go.Value.pointer Option.none),(Go.Value.bool false)]) 56:=⟨by kernel_rfl,Tryz.t217,by kernel_rfl,rfl,rfl,rfl⟩
theorem ty218:Ty Tryz.prog 218 (Go.TypeDesc.array 4 30) 4 (Go.Value.agg #[(Go.Value.int Go.IntKind.u64 0),(Go.Value.int Go.IntKind.u64 0),(Go.Value.int Go.IntKind.u64 0),(Go.Value.int Go.IntKind.u64 0)]) 32:=⟨by kernel_rfl,Tryz.t218,by kernel_rfl,rfl,rfl,rfl⟩
theorem ty220:Ty Tryz.prog 220 Tryz.t219.desc 5 (Go.Value.agg #[(Go.Value.int Go.IntKind.u64 0),(Go.Value.int Go.IntKind.u64 0),(Go.Value.int Go.IntKind.u64 0),(Go.Value.int Go.IntKind.u64 0),(Go.Value.int Go.IntKind.u64 0)]) 40:=⟨by kernel_rfl,Tryz.t220,by kernel_rfl,rfl,rfl,rfl⟩
theorem ty221:Ty Tryz.prog 221 (Go.TypeDesc.pointer 387) 1 (Go.Value.pointer Option.none) 8:=⟨by kernel_rfl,Tryz.t221,by kernel_rfl,rfl,rfl,rfl⟩
theorem ty222:Ty Tryz.prog 222 (Go.TypeDesc.pointer 485) 1 (Go.Value.pointer Option.none) 8:=⟨by kernel_rfl,Tryz.t222,by kernel_rfl,rfl,rfl,rfl⟩
theorem ty224:Ty Tryz.prog 224 Tryz.t223.desc 6 (Go.Value.agg #[(Go.Value.pointer Option.none),(Go.Value.pointer Option.none),(Go.Value.pointer Option.none),(Go.Value.int Go.IntKind.i64 0),(Go.Value.int Go.IntKind.i64 0),(Go.Value.int Go.IntKind.i64 0)]) 48:=⟨by kernel_rfl,Tryz.t224,by kernel_rfl,rfl,rfl,rfl⟩
theorem ty246:Ty Tryz.prog 246 Tryz.t245.desc 2 (Go.Value.agg #[(Go.Value.int Go.IntKind.i64 0),(Go.Value.int Go.IntKind.i64 0)]) 16:=⟨by kernel_rfl,Tryz.t246,by kernel_rfl,rfl,rfl,rfl⟩
theorem ty247:Ty Tryz.prog 247 (Go.TypeDesc.int Go.IntKind.u64) 1 (Go.Value.int Go.IntKind.u64 0) 8:=⟨by kernel_rfl,Tryz.t247,by kernel_rfl,rfl,rfl,rfl⟩
theorem ty248:Ty Tryz.prog 248 (Go.TypeDesc.array 64 246) 128 ((Tryz.t248.zero).getD undef) 1024:=⟨by kernel_rfl,Tryz.t248,by kernel_rfl,rfl,rfl,rfl⟩
theorem ty250:Ty Tryz.prog 250 Tryz.t249.desc 130 ((Tryz.t250.zero).getD undef) 1040:=⟨by kernel_rfl,Tryz.t250,by kernel_rfl,rfl,rfl,rfl⟩
theorem ty261:Ty Tryz.prog 261 Tryz.t261.desc 1 Go.Value.nilFunc 8:=⟨by kernel_rfl,Tryz.t261,by kernel_rfl,rfl,rfl,rfl⟩
theorem ty262:Ty Tryz.prog 262 (Go.TypeDesc.array 2 261) 2 (Go.Value.agg #[Go.Value.nilFunc,Go.Value.nilFunc]) 16:=⟨by kernel_rfl,Tryz.t262,by kernel_rfl,rfl,rfl,rfl⟩
theorem ty264:Ty Tryz.prog 264 (Go.TypeDesc.pointer 398) 1 (Go.Value.pointer Option.none) 8:=⟨by kernel_rfl,Tryz.t264,by kernel_rfl,rfl,rfl,rfl⟩
theorem ty273:Ty Tryz.prog 273 (Go.TypeDesc.slice 276) 1 (Go.Value.slice Option.none 0 0) 24:=⟨by kernel_rfl,Tryz.t273,by kernel_rfl,rfl,rfl,rfl⟩
theorem ty275:Ty Tryz.prog 275 Tryz.t274.desc 1 (Go.Value.agg #[(Go.Value.slice Option.none 0 0)]) 24:=⟨by kernel_rfl,Tryz.t275,by kernel_rfl,rfl,rfl,rfl⟩
theorem ty276:Ty Tryz.prog 276 (Go.TypeDesc.pointer 406) 1 (Go.Value.pointer Option.none) 8:=⟨by kernel_rfl,Tryz.t276,by kernel_rfl,rfl,rfl,rfl⟩
theorem ty281:Ty Tryz.prog 281 (Go.TypeDesc.pointer 412) 1 (Go.Value.pointer Option.none) 8:=⟨by kernel_rfl,Tryz.t281,by kernel_rfl,rfl,rfl,rfl⟩
theorem ty285:Ty Tryz.prog 285 Tryz.t285.desc 1 Go.Value.nilFunc 8:=⟨by kernel_rfl,Tryz.t285,by kernel_rfl,rfl,rfl,rfl⟩
theorem ty291:Ty Tryz.prog 291 (Go.TypeDesc.slice 281) 1 (Go.Value.slice Option.none 0 0) 24:=⟨by kernel_rfl,Tryz.t291,by kernel_rfl,rfl,rfl,rfl⟩
theorem ty292:Ty Tryz.prog 292 (Go.TypeDesc.array 256 3) 256 ((Tryz.t292.zero).getD undef) 2048:=⟨by kernel_rfl,Tryz.t292,by kernel_rfl,rfl,rfl,rfl⟩
theorem ty294:Ty Tryz.prog 294 Tryz.t293.desc 289 ((Tryz.t294.zero).getD undef) 2328:=⟨by kernel_rfl,Tryz.t294,by kernel_rfl,rfl,rfl,rfl⟩
theorem ty302:Ty Tryz.prog 302 (Go.TypeDesc.map 3 264) 1 (Go.Value.map Option.none) 8:=⟨by kernel_rfl,Tryz.t302,by kernel_rfl,rfl,rfl,rfl⟩
theorem ty304:Ty Tryz.prog 304 Tryz.t303.desc 2 (Go.Value.agg #[(Go.Value.int Go.IntKind.i64 0),(Go.Value.map Option.none)]) 16:=⟨by kernel_rfl,Tryz.t304,by kernel_rfl,rfl,rfl,rfl⟩
theorem ty343:Ty Tryz.prog 343 (Go.TypeDesc.slice 377) 1 (Go.Value.slice Option.none 0 0) 24:=⟨by kernel_rfl,Tryz.t343,by kernel_rfl,rfl,rfl,rfl⟩
theorem ty345:Ty Tryz.prog 345 Tryz.t344.desc 3 (Go.Value.agg #[(Go.Value.slice Option.none 0 0),(Go.Value.int Go.IntKind.u64 0),(Go.Value.int Go.IntKind.u64 0)]) 40:=⟨by kernel_rfl,Tryz.t345,by kernel_rfl,rfl,rfl,rfl⟩
theorem ty346:Ty Tryz.prog 346 (Go.TypeDesc.slice 482) 1 (Go.Value.slice Option.none 0 0) 24:=⟨by kernel_rfl,Tryz.t346,by kernel_rfl,rfl,rfl,rfl⟩
theorem ty348:Ty Tryz.prog 348 Tryz.t347.desc 3 (Go.Value.agg #[(Go.Value.slice Option.none 0 0),(Go.Value.int Go.IntKind.i64 0),(Go.Value.int Go.IntKind.i64 0)]) 40:=⟨by kernel_rfl,Tryz.t348,by kernel_rfl,rfl,rfl,rfl⟩
theorem ty349:Ty Tryz.prog 349 (Go.TypeDesc.slice 391) 1 (Go.Value.slice Option.none 0 0) 24:=⟨by kernel_rfl,Tryz.t349,by kernel_rfl,rfl,rfl,rfl⟩
theorem ty357:Ty Tryz.prog 357 (Go.TypeDesc.int Go.IntKind.u64) 1 (Go.Value.int Go.IntKind.u64 0) 8:=⟨by kernel_rfl,Tryz.t357,by kernel_rfl,rfl,rfl,rfl⟩
theorem ty370:Ty Tryz.prog 370 (Go.TypeDesc.map 30 3) 1 (Go.Value.map Option.none) 8:=⟨by kernel_rfl,Tryz.t370,by kernel_rfl,rfl,rfl,rfl⟩
theorem ty372:Ty Tryz.prog 372 Tryz.t371.desc 3 (Go.Value.agg #[(Go.Value.int Go.IntKind.i64 0),(Go.Value.int Go.IntKind.i64 0),(Go.Value.map Option.none)]) 24:=⟨by kernel_rfl,Tryz.t372,by kernel_rfl,rfl,rfl,rfl⟩
theorem ty377:Ty Tryz.prog 377 Tryz.t376.desc 7 (Go.Value.agg #[(Go.Value.int Go.IntKind.i64 0),(Go.Value.int Go.IntKind.i64 0),(Go.Value.int Go.IntKind.u64 0),(Go.Value.int Go.IntKind.u64 0),(Go.Value.int Go.IntKind.u64 0),(Go.Value.int Go.IntKind.u64 0),(Go.Value.int Go.IntKind.u64 0)]) 56:=⟨by kernel_rfl,Tryz.t377,by kernel_rfl,rfl,rfl,rfl⟩
theorem ty385:Ty Tryz.prog 385 (Go.TypeDesc.slice 388) 1 (Go.Value.slice Option.none 0 0) 24:=⟨by kernel_rfl,Tryz.t385,by kernel_rfl,rfl,rfl,rfl⟩
theorem ty387:Ty Tryz.prog 387 Tryz.t386.desc 2 (Go.Value.agg #[(Go.Value.slice Option.none 0 0),(Go.Value.int Go.IntKind.i64 0)]) 32:=⟨by kernel_rfl,Tryz.t387,by kernel_rfl,rfl,rfl,rfl⟩
theorem ty388:Ty Tryz.prog 388 (Go.TypeDesc.pointer 493) 1 (Go.Value.pointer Option.none) 8:=⟨by kernel_rfl,Tryz.t388,by kernel_rfl,rfl,rfl,rfl⟩
theorem ty391:Ty Tryz.prog 391 Tryz.t390.desc 2 (Go.Value.agg #[(Go.Value.int Go.IntKind.i64 0),(Go.Value.int Go.IntKind.i64 0)]) 16:=⟨by kernel_rfl,Tryz.t391,by kernel_rfl,rfl,rfl,rfl⟩
theorem ty396:Ty Tryz.prog 396 Tryz.t395.desc 2 (Go.Value.agg #[(Go.Value.int Go.IntKind.i64 0),(Go.Value.int Go.IntKind.i64 0)]) 16:=⟨by kernel_rfl,Tryz.t396,by kernel_rfl,rfl,rfl,rfl⟩
theorem ty398:Ty Tryz.prog 398 Tryz.t397.desc 3 (Go.Value.agg #[(Go.Value.int Go.IntKind.i64 0),(Go.Value.int Go.IntKind.i64 0),(Go.Value.bool false)]) 24:=⟨by kernel_rfl,Tryz.t398,by kernel_rfl,rfl,rfl,rfl⟩
theorem ty401:Ty Tryz.prog 401 (Go.TypeDesc.array 64 63) 64 (Go.Value.agg #[(Go.Value.slice Option.none 0 0),(Go.Value.slice Option.none 0 0),(Go.Value.slice Option.none 0 0),(Go.Value.slice Option.none 0 0),(Go.Value.slice Option.none 0 0),(Go.Value.slice Option.none 0 0),(Go.Value.slice Option.none 0 0),(Go.Value.slice Option.none 0 0),(Go.Value.slice Option.none 0 0),(Go.Value.slice Option.none 0 0),(Go.Value.slice Option.none 0 0),(Go.Value.slice Option.none 0 0),(Go.Value.slice Option.none 0 0),(Go.Value.slice Option.none 0 0),(Go.Value.slice Option.none 0 0),(Go.Value.slice Option.none 0 0),(Go.Value.slice Option.none 0 0),(Go.Value.slice Option.none 0 0),(Go.Value.slice Option.none 0 0),(Go.Value.slice Option.none 0 0),(Go.Value.slice Option.none 0 0),(Go.Value.slice Option.none 0 0),(Go.Value.slice Option.none 0 0),(Go.Value.slice Option.none 0 0),(Go.Value.slice Option.none 0 0),(Go.Value.slice Option.none 0 0),(Go.Value.slice Option.none 0 0),(Go.Value.slice Option.none 0 0),(Go.Value.slice Option.none 0 0),(Go.Value.slice Option.none 0 0),(Go.Value.slice Option.none 0 0),(Go.Value.slice Option.none 0 0),(Go.Value.slice Option.none 0 0),(Go.Value.slice Option.none 0 0),(Go.Value.slice Option.none 0 0),(Go.Value.slice Option.none 0 0),(Go.Value.slice Option.none 0 0),(Go.Value.slice Option.none 0 0),(Go.Value.slice Option.none 0 0),(Go.Value.slice Option.none 0 0),(Go.Value.slice Option.none 0 0),(Go.Value.slice Option.none 0 0),(Go.Value.slice Option.none 0 0),(Go.Value.slice Option.none 0 0),(Go.Value.slice Option.none 0 0),(Go.Value.slice Option.none 0 0),(Go.Value.slice Option.none 0 0),(Go.Value.slice Option.none 0 0),(Go.Value.slice Option.none 0 0),(Go.Value.slice Option.none 0 0),(Go.Value.slice Option.none 0 0),(Go.Value.slice Option.none 0 0),(Go.Value.slice Option.none 0 0),(Go.Value.slice Option.none 0 0),(Go.Value.slice Option.none 0 0),(Go.Value.slice Option.none 0 0),(Go.Value.slice Option.none 0 0),(Go.Value.slice Option.none 0 0),(Go.Value.slice Option.none 0 0),(Go.Value.slice Option.none 0 0),(Go.Value.slice Option.none 0 0),(Go.Value.slice Option.none 0 0),(Go.Value.slice Option.none 0 0),(Go.Value.slice Option.none 0 0)]) 1536:=⟨by kernel_rfl,Tryz.t401,by kernel_rfl,rfl,rfl,rfl⟩
theorem ty402:Ty Tryz.prog 402 (Go.TypeDesc.array 8 401) 512 ((Tryz.t402.zero).getD undef) 12288:=⟨by kernel_rfl,Tryz.t402,by kernel_rfl,rfl,rfl,rfl⟩
theorem ty403:Ty Tryz.prog 403 (Go.TypeDesc.array 8 247) 8 (Go.Value.agg #[(Go.Value.int Go.IntKind.u64 0),(Go.Value.int Go.IntKind.u64 0),(Go.Value.int Go.IntKind.u64 0),(Go.Value.int Go.IntKind.u64 0),(Go.Value.int Go.IntKind.u64 0),(Go.Value.int Go.IntKind.u64 0),(Go.Value.int Go.IntKind.u64 0),(Go.Value.int Go.IntKind.u64 0)]) 64:=⟨by kernel_rfl,Tryz.t403,by kernel_rfl,rfl,rfl,rfl⟩
theorem ty404:Ty Tryz.prog 404 (Go.TypeDesc.map 3 408) 1 (Go.Value.map Option.none) 8:=⟨by kernel_rfl,Tryz.t404,by kernel_rfl,rfl,rfl,rfl⟩
theorem ty406:Ty Tryz.prog 406 Tryz.t405.desc 523 ((Tryz.t406.zero).getD undef) 12376:=⟨by kernel_rfl,Tryz.t406,by kernel_rfl,rfl,rfl,rfl⟩
theorem ty408:Ty Tryz.prog 408 Tryz.t407.desc 5 (Go.Value.agg #[(Go.Value.int Go.IntKind.i64 0),(Go.Value.int Go.IntKind.i64 0),(Go.Value.int Go.IntKind.u64 0),(Go.Value.int Go.IntKind.u64 0),(Go.Value.int Go.IntKind.i64 0)]) 40:=⟨by kernel_rfl,Tryz.t408,by kernel_rfl,rfl,rfl,rfl⟩
theorem ty412:Ty Tryz.prog 412 Tryz.t411.desc 3 (Go.Value.agg #[(Go.Value.slice Option.none 0 0),(Go.Value.int Go.IntKind.i64 0),(Go.Value.int Go.IntKind.i64 0)]) 40:=⟨by kernel_rfl,Tryz.t412,by kernel_rfl,rfl,rfl,rfl⟩
theorem ty466:Ty Tryz.prog 466 Tryz.t465.desc 3 (Go.Value.agg #[(Go.Value.int Go.IntKind.u64 0),(Go.Value.int Go.IntKind.i64 0),(Go.Value.int Go.IntKind.i64 0)]) 24:=⟨by kernel_rfl,Tryz.t466,by kernel_rfl,rfl,rfl,rfl⟩
theorem ty482:Ty Tryz.prog 482 (Go.TypeDesc.slice 466) 1 (Go.Value.slice Option.none 0 0) 24:=⟨by kernel_rfl,Tryz.t482,by kernel_rfl,rfl,rfl,rfl⟩
theorem ty485:Ty Tryz.prog 485 Tryz.t484.desc 4 (Go.Value.agg #[(Go.Value.pointer Option.none),(Go.Value.int Go.IntKind.u64 0),(Go.Value.int Go.IntKind.i64 0),(Go.Value.int Go.IntKind.i64 0)]) 32:=⟨by kernel_rfl,Tryz.t485,by kernel_rfl,rfl,rfl,rfl⟩
theorem ty493:Ty Tryz.prog 493 Tryz.t492.desc 3 (Go.Value.agg #[(Go.Value.slice Option.none 0 0),(Go.Value.int Go.IntKind.i64 0),(Go.Value.int Go.IntKind.i64 0)]) 40:=⟨by kernel_rfl,Tryz.t493,by kernel_rfl,rfl,rfl,rfl⟩
theorem ty590:Ty Tryz.prog 590 (Go.TypeDesc.array 64 5) 64 (Go.Value.agg #[(Go.Value.int Go.IntKind.u8 0),(Go.Value.int Go.IntKind.u8 0),(Go.Value.int Go.IntKind.u8 0),(Go.Value.int Go.IntKind.u8 0),(Go.Value.int Go.IntKind.u8 0),(Go.Value.int Go.IntKind.u8 0),(Go.Value.int Go.IntKind.u8 0),(Go.Value.int Go.IntKind.u8 0),(Go.Value.int Go.IntKind.u8 0),(Go.Value.int Go.IntKind.u8 0),(Go.Value.int Go.IntKind.u8 0),(Go.Value.int Go.IntKind.u8 0),(Go.Value.int Go.IntKind.u8 0),(Go.Value.int Go.IntKind.u8 0),(Go.Value.int Go.IntKind.u8 0),(Go.Value.int Go.IntKind.u8 0),(Go.Value.int Go.IntKind.u8 0),(Go.Value.int Go.IntKind.u8 0),(Go.Value.int Go.IntKind.u8 0),(Go.Value.int Go.IntKind.u8 0),(Go.Value.int Go.IntKind.u8 0),(Go.Value.int Go.IntKind.u8 0),(Go.Value.int Go.IntKind.u8 0),(Go.Value.int Go.IntKind.u8 0),(Go.Value.int Go.IntKind.u8 0),(Go.Value.int Go.IntKind.u8 0),(Go.Value.int Go.IntKind.u8 0),(Go.Value.int Go.IntKind.u8 0),(Go.Value.int Go.IntKind.u8 0),(Go.Value.int Go.IntKind.u8 0),(Go.Value.int Go.IntKind.u8 0),(Go.Value.int Go.IntKind.u8 0),(Go.Value.int Go.IntKind.u8 0),(Go.Value.int Go.IntKind.u8 0),(Go.Value.int Go.IntKind.u8 0),(Go.Value.int Go.IntKind.u8 0),(Go.Value.int Go.IntKind.u8 0),(Go.Value.int Go.IntKind.u8 0),(Go.Value.int Go.IntKind.u8 0),(Go.Value.int Go.IntKind.u8 0),(Go.Value.int Go.IntKind.u8 0),(Go.Value.int Go.IntKind.u8 0),(Go.Value.int Go.IntKind.u8 0),(Go.Value.int Go.IntKind.u8 0),(Go.Value.int Go.IntKind.u8 0),(Go.Value.int Go.IntKind.u8 0),(Go.Value.int Go.IntKind.u8 0),(Go.Value.int Go.IntKind.u8 0),(Go.Value.int Go.IntKind.u8 0),(Go.Value.int Go.IntKind.u8 0),(Go.Value.int Go.IntKind.u8 0),(Go.Value.int Go.IntKind.u8 0),(Go.Value.int Go.IntKind.u8 0),(Go.Value.int Go.IntKind.u8 0),(Go.Value.int Go.IntKind.u8 0),(Go.Value.int Go.IntKind.u8 0),(Go.Value.int Go.IntKind.u8 0),(Go.Value.int Go.IntKind.u8 0),(Go.Value.int Go.IntKind.u8 0),(Go.Value.int Go.IntKind.u8 0),(Go.Value.int Go.IntKind.u8 0),(Go.Value.int Go.IntKind.u8 0),(Go.Value.int Go.IntKind.u8 0),(Go.Value.int Go.IntKind.u8 0)]) 64:=⟨by kernel_rfl,Tryz.t590,by kernel_rfl,rfl,rfl,rfl⟩
theorem fld40_0:Fld Tryz.prog 40 0 0 1 false:=⟨_,_,(by kernel_rfl:Tryz.prog.underlying 40=some Tryz.t39.desc),rfl,rfl,_,_,_,ty3,rfl⟩
theorem fld40_1:Fld Tryz.prog 40 1 1 1 false:=⟨_,_,(by kernel_rfl:Tryz.prog.underlying 40=some Tryz.t39.desc),rfl,rfl,_,_,_,ty3,rfl⟩
theorem fld71_0:Fld Tryz.prog 71 0 0 1 false:=⟨_,_,(by kernel_rfl:Tryz.prog.underlying 71=some Tryz.t70.desc),rfl,rfl,_,_,_,ty3,rfl⟩
theorem fld71_1:Fld Tryz.prog 71 1 1 1 false:=⟨_,_,(by kernel_rfl:Tryz.prog.underlying 71=some Tryz.t70.desc),rfl,rfl,_,_,_,ty3,rfl⟩
theorem fld129_0:Fld Tryz.prog 129 0 0 1 false:=⟨_,_,(by kernel_rfl:Tryz.prog.underlying 129=some Tryz.t128.desc),rfl,rfl,_,_,_,ty65,rfl⟩
theorem fld129_1:Fld Tryz.prog 129 1 1 1 false:=⟨_,_,(by kernel_rfl:Tryz.prog.underlying 129=some Tryz.t128.desc),rfl,rfl,_,_,_,ty4,rfl⟩
theorem fld134_0:Fld Tryz.prog 134 0 0 1 false:=⟨_,_,(by kernel_rfl:Tryz.prog.underlying 134=some Tryz.t133.desc),rfl,rfl,_,_,_,ty3,rfl⟩
theorem fld134_1:Fld Tryz.prog 134 1 1 8 true:=⟨_,_,(by kernel_rfl:Tryz.prog.underlying 134=some Tryz.t133.desc),rfl,rfl,_,_,_,ty130,rfl⟩
theorem fld134_2:Fld Tryz.prog 134 2 9 1 false:=⟨_,_,(by kernel_rfl:Tryz.prog.underlying 134=some Tryz.t133.desc),rfl,rfl,_,_,_,ty55,rfl⟩
theorem fld134_3:Fld Tryz.prog 134 3 10 1 false:=⟨_,_,(by kernel_rfl:Tryz.prog.underlying 134=some Tryz.t133.desc),rfl,rfl,_,_,_,ty67,rfl⟩
theorem fld134_4:Fld Tryz.prog 134 4 11 1 false:=⟨_,_,(by kernel_rfl:Tryz.prog.underlying 134=some Tryz.t133.desc),rfl,rfl,_,_,_,ty33,rfl⟩
theorem fld134_5:Fld Tryz.prog 134 5 12 1 false:=⟨_,_,(by kernel_rfl:Tryz.prog.underlying 134=some Tryz.t133.desc),rfl,rfl,_,_,_,ty33,rfl⟩
theorem fld134_6:Fld Tryz.prog 134 6 13 1 false:=⟨_,_,(by kernel_rfl:Tryz.prog.underlying 134=some Tryz.t133.desc),rfl,rfl,_,_,_,ty131,rfl⟩
theorem fld134_7:Fld Tryz.prog 134 7 14 1 false:=⟨_,_,(by kernel_rfl:Tryz.prog.underlying 134=some Tryz.t133.desc),rfl,rfl,_,_,_,ty132,rfl⟩
theorem fld139_0:Fld Tryz.prog 139 0 0 2 true:=⟨_,_,(by kernel_rfl:Tryz.prog.underlying 139=some Tryz.t138.desc),rfl,rfl,_,_,_,ty40,rfl⟩
theorem fld139_1:Fld Tryz.prog 139 1 2 2 true:=⟨_,_,(by kernel_rfl:Tryz.prog.underlying 139=some Tryz.t138.desc),rfl,rfl,_,_,_,ty40,rfl⟩
theorem fld139_2:Fld Tryz.prog 139 2 4 1 false:=⟨_,_,(by kernel_rfl:Tryz.prog.underlying 139=some Tryz.t138.desc),rfl,rfl,_,_,_,ty4,rfl⟩
theorem fld153_0:Fld Tryz.prog 153 0 0 1 false:=⟨_,_,(by kernel_rfl:Tryz.prog.underlying 153=some Tryz.t152.desc),rfl,rfl,_,_,_,ty4,rfl⟩
theorem fld153_1:Fld Tryz.prog 153 1 1 1 false:=⟨_,_,(by kernel_rfl:Tryz.prog.underlying 153=some Tryz.t152.desc),rfl,rfl,_,_,_,ty4,rfl⟩
theorem fld153_2:Fld Tryz.prog 153 2 2 1 false:=⟨_,_,(by kernel_rfl:Tryz.prog.underlying 153=some Tryz.t152.desc),rfl,rfl,_,_,_,ty3,rfl⟩
theorem fld170_0:Fld Tryz.prog 170 0 0 1 false:=⟨_,_,(by kernel_rfl:Tryz.prog.underlying 170=some Tryz.t169.desc),rfl,rfl,_,_,_,ty166,rfl⟩
theorem fld170_1:Fld Tryz.prog 170 1 1 1 false:=⟨_,_,(by kernel_rfl:Tryz.prog.underlying 170=some Tryz.t169.desc),rfl,rfl,_,_,_,ty167,rfl⟩
theorem fld170_2:Fld Tryz.prog 170 2 2 1024 true:=⟨_,_,(by kernel_rfl:Tryz.prog.underlying 170=some Tryz.t169.desc),rfl,rfl,_,_,_,ty168,rfl⟩
theorem fld176_0:Fld Tryz.prog 176 0 0 1 false:=⟨_,_,(by kernel_rfl:Tryz.prog.underlying 176=some Tryz.t175.desc),rfl,rfl,_,_,_,ty4,rfl⟩
theorem fld176_1:Fld Tryz.prog 176 1 1 1 false:=⟨_,_,(by kernel_rfl:Tryz.prog.underlying 176=some Tryz.t175.desc),rfl,rfl,_,_,_,ty3,rfl⟩
theorem fld179_0:Fld Tryz.prog 179 0 0 1 false:=⟨_,_,(by kernel_rfl:Tryz.prog.underlying 179=some Tryz.t178.desc),rfl,rfl,_,_,_,ty166,rfl⟩
theorem fld179_2:Fld Tryz.prog 179 2 2 512 true:=⟨_,_,(by kernel_rfl:Tryz.prog.underlying 179=some Tryz.t178.desc),rfl,rfl,_,_,_,ty177,rfl⟩
theorem fld217_0:Fld Tryz.prog 217 0 0 1 false:=⟨_,_,(by kernel_rfl:Tryz.prog.underlying 217=some Tryz.t216.desc),rfl,rfl,_,_,_,ty3,rfl⟩
theorem fld217_1:Fld Tryz.prog 217 1 1 1 false:=⟨_,_,(by kernel_rfl:Tryz.prog.underlying 217=some Tryz.t216.desc),rfl,rfl,_,_,_,ty3,rfl⟩
theorem fld217_2:Fld Tryz.prog 217 2 2 1 false:=⟨_,_,(by kernel_rfl:Tryz.prog.underlying 217=some Tryz.t216.desc),rfl,rfl,_,_,_,ty3,rfl⟩
theorem fld217_3:Fld Tryz.prog 217 3 3 1 false:=⟨_,_,(by kernel_rfl:Tryz.prog.underlying 217=some Tryz.t216.desc),rfl,rfl,_,_,_,ty213,rfl⟩
theorem fld217_4:Fld Tryz.prog 217 4 4 1 false:=⟨_,_,(by kernel_rfl:Tryz.prog.underlying 217=some Tryz.t216.desc),rfl,rfl,_,_,_,ty214,rfl⟩
theorem fld217_5:Fld Tryz.prog 217 5 5 1 false:=⟨_,_,(by kernel_rfl:Tryz.prog.underlying 217=some Tryz.t216.desc),rfl,rfl,_,_,_,ty215,rfl⟩
theorem fld217_6:Fld Tryz.prog 217 6 6 1 false:=⟨_,_,(by kernel_rfl:Tryz.prog.underlying 217=some Tryz.t216.desc),rfl,rfl,_,_,_,ty4,rfl⟩
theorem fld220_0:Fld Tryz.prog 220 0 0 1 false:=⟨_,_,(by kernel_rfl:Tryz.prog.underlying 220=some Tryz.t219.desc),rfl,rfl,_,_,_,ty30,rfl⟩
theorem fld220_1:Fld Tryz.prog 220 1 1 4 true:=⟨_,_,(by kernel_rfl:Tryz.prog.underlying 220=some Tryz.t219.desc),rfl,rfl,_,_,_,ty218,rfl⟩
theorem fld224_0:Fld Tryz.prog 224 0 0 1 false:=⟨_,_,(by kernel_rfl:Tryz.prog.underlying 224=some Tryz.t223.desc),rfl,rfl,_,_,_,ty135,rfl⟩
theorem fld224_1:Fld Tryz.prog 224 1 1 1 false:=⟨_,_,(by kernel_rfl:Tryz.prog.underlying 224=some Tryz.t223.desc),rfl,rfl,_,_,_,ty221,rfl⟩
theorem fld224_2:Fld Tryz.prog 224 2 2 1 false:=⟨_,_,(by kernel_rfl:Tryz.prog.underlying 224=some Tryz.t223.desc),rfl,rfl,_,_,_,ty222,rfl⟩
theorem fld224_3:Fld Tryz.prog 224 3 3 1 false:=⟨_,_,(by kernel_rfl:Tryz.prog.underlying 224=some Tryz.t223.desc),rfl,rfl,_,_,_,ty3,rfl⟩
theorem fld224_4:Fld Tryz.prog 224 4 4 1 false:=⟨_,_,(by kernel_rfl:Tryz.prog.underlying 224=some Tryz.t223.desc),rfl,rfl,_,_,_,ty3,rfl⟩
theorem fld224_5:Fld Tryz.prog 224 5 5 1 false:=⟨_,_,(by kernel_rfl:Tryz.prog.underlying 224=some Tryz.t223.desc),rfl,rfl,_,_,_,ty3,rfl⟩
theorem fld246_1:Fld Tryz.prog 246 1 1 1 false:=⟨_,_,(by kernel_rfl:Tryz.prog.underlying 246=some Tryz.t245.desc),rfl,rfl,_,_,_,ty3,rfl⟩
theorem fld250_0:Fld Tryz.prog 250 0 0 128 true:=⟨_,_,(by kernel_rfl:Tryz.prog.underlying 250=some Tryz.t249.desc),rfl,rfl,_,_,_,ty248,rfl⟩
theorem fld250_1:Fld Tryz.prog 250 1 128 1 false:=⟨_,_,(by kernel_rfl:Tryz.prog.underlying 250=some Tryz.t249.desc),rfl,rfl,_,_,_,ty247,rfl⟩
theorem fld250_2:Fld Tryz.prog 250 2 129 1 false:=⟨_,_,(by kernel_rfl:Tryz.prog.underlying 250=some Tryz.t249.desc),rfl,rfl,_,_,_,ty3,rfl⟩
theorem fld275_0:Fld Tryz.prog 275 0 0 1 false:=⟨_,_,(by kernel_rfl:Tryz.prog.underlying 275=some Tryz.t274.desc),rfl,rfl,_,_,_,ty273,rfl⟩
theorem fld294_0:Fld Tryz.prog 294 0 0 1 false:=⟨_,_,(by kernel_rfl:Tryz.prog.underlying 294=some Tryz.t293.desc),rfl,rfl,_,_,_,ty291,rfl⟩
theorem fld294_1:Fld Tryz.prog 294 1 1 256 true:=⟨_,_,(by kernel_rfl:Tryz.prog.underlying 294=some Tryz.t293.desc),rfl,rfl,_,_,_,ty292,rfl⟩
theorem fld304_0:Fld Tryz.prog 304 0 0 1 false:=⟨_,_,(by kernel_rfl:Tryz.prog.underlying 304=some Tryz.t303.desc),rfl,rfl,_,_,_,ty3,rfl⟩
theorem fld304_1:Fld Tryz.prog 304 1 1 1 false:=⟨_,_,(by kernel_rfl:Tryz.prog.underlying 304=some Tryz.t303.desc),rfl,rfl,_,_,_,ty302,rfl⟩
theorem fld345_0:Fld Tryz.prog 345 0 0 1 false:=⟨_,_,(by kernel_rfl:Tryz.prog.underlying 345=some Tryz.t344.desc),rfl,rfl,_,_,_,ty343,rfl⟩
theorem fld345_1:Fld Tryz.prog 345 1 1 1 false:=⟨_,_,(by kernel_rfl:Tryz.prog.underlying 345=some Tryz.t344.desc),rfl,rfl,_,_,_,ty247,rfl⟩
theorem fld345_2:Fld Tryz.prog 345 2 2 1 false:=⟨_,_,(by kernel_rfl:Tryz.prog.underlying 345=some Tryz.t344.desc),rfl,rfl,_,_,_,ty247,rfl⟩
theorem fld348_0:Fld Tryz.prog 348 0 0 1 false:=⟨_,_,(by kernel_rfl:Tryz.prog.underlying 348=some Tryz.t347.desc),rfl,rfl,_,_,_,ty346,rfl⟩
theorem fld348_1:Fld Tryz.prog 348 1 1 1 false:=⟨_,_,(by kernel_rfl:Tryz.prog.underlying 348=some Tryz.t347.desc),rfl,rfl,_,_,_,ty3,rfl⟩
theorem fld348_2:Fld Tryz.prog 348 2 2 1 false:=⟨_,_,(by kernel_rfl:Tryz.prog.underlying 348=some Tryz.t347.desc),rfl,rfl,_,_,_,ty3,rfl⟩
theorem fld372_0:Fld Tryz.prog 372 0 0 1 false:=⟨_,_,(by kernel_rfl:Tryz.prog.underlying 372=some Tryz.t371.desc),rfl,rfl,_,_,_,ty3,rfl⟩
theorem fld372_1:Fld Tryz.prog 372 1 1 1 false:=⟨_,_,(by kernel_rfl:Tryz.prog.underlying 372=some Tryz.t371.desc),rfl,rfl,_,_,_,ty3,rfl⟩
theorem fld372_2:Fld Tryz.prog 372 2 2 1 false:=⟨_,_,(by kernel_rfl:Tryz.prog.underlying 372=some Tryz.t371.desc),rfl,rfl,_,_,_,ty370,rfl⟩
theorem fld377_0:Fld Tryz.prog 377 0 0 2 true:=⟨_,_,(by kernel_rfl:Tryz.prog.underlying 377=some Tryz.t376.desc),rfl,rfl,_,_,_,ty40,rfl⟩
theorem fld377_1:Fld Tryz.prog 377 1 2 5 true:=⟨_,_,(by kernel_rfl:Tryz.prog.underlying 377=some Tryz.t376.desc),rfl,rfl,_,_,_,ty220,rfl⟩
theorem fld387_0:Fld Tryz.prog 387 0 0 1 false:=⟨_,_,(by kernel_rfl:Tryz.prog.underlying 387=some Tryz.t386.desc),rfl,rfl,_,_,_,ty385,rfl⟩
theorem fld387_1:Fld Tryz.prog 387 1 1 1 false:=⟨_,_,(by kernel_rfl:Tryz.prog.underlying 387=some Tryz.t386.desc),rfl,rfl,_,_,_,ty3,rfl⟩
theorem fld391_0:Fld Tryz.prog 391 0 0 1 false:=⟨_,_,(by kernel_rfl:Tryz.prog.underlying 391=some Tryz.t390.desc),rfl,rfl,_,_,_,ty3,rfl⟩
theorem fld391_1:Fld Tryz.prog 391 1 1 1 false:=⟨_,_,(by kernel_rfl:Tryz.prog.underlying 391=some Tryz.t390.desc),rfl,rfl,_,_,_,ty3,rfl⟩
theorem fld396_0:Fld Tryz.prog 396 0 0 1 false:=⟨_,_,(by kernel_rfl:Tryz.prog.underlying 396=some Tryz.t395.desc),rfl,rfl,_,_,_,ty3,rfl⟩
theorem fld396_1:Fld Tryz.prog 396 1 1 1 false:=⟨_,_,(by kernel_rfl:Tryz.prog.underlying 396=some Tryz.t395.desc),rfl,rfl,_,_,_,ty3,rfl⟩
theorem fld398_0:Fld Tryz.prog 398 0 0 2 true:=⟨_,_,(by kernel_rfl:Tryz.prog.underlying 398=some Tryz.t397.desc),rfl,rfl,_,_,_,ty396,rfl⟩
theorem fld398_1:Fld Tryz.prog 398 1 2 1 false:=⟨_,_,(by kernel_rfl:Tryz.prog.underlying 398=some Tryz.t397.desc),rfl,rfl,_,_,_,ty4,rfl⟩
theorem fld406_1:Fld Tryz.prog 406 1 1 512 true:=⟨_,_,(by kernel_rfl:Tryz.prog.underlying 406=some Tryz.t405.desc),rfl,rfl,_,_,_,ty402,rfl⟩
theorem fld406_2:Fld Tryz.prog 406 2 513 8 true:=⟨_,_,(by kernel_rfl:Tryz.prog.underlying 406=some Tryz.t405.desc),rfl,rfl,_,_,_,ty403,rfl⟩
theorem fld406_3:Fld Tryz.prog 406 3 521 1 false:=⟨_,_,(by kernel_rfl:Tryz.prog.underlying 406=some Tryz.t405.desc),rfl,rfl,_,_,_,ty404,rfl⟩
theorem fld408_0:Fld Tryz.prog 408 0 0 4 true:=⟨_,_,(by kernel_rfl:Tryz.prog.underlying 408=some Tryz.t407.desc),rfl,rfl,_,_,_,ty71,rfl⟩
theorem fld412_0:Fld Tryz.prog 412 0 0 1 false:=⟨_,_,(by kernel_rfl:Tryz.prog.underlying 412=some Tryz.t411.desc),rfl,rfl,_,_,_,ty63,rfl⟩
theorem fld412_1:Fld Tryz.prog 412 1 1 1 false:=⟨_,_,(by kernel_rfl:Tryz.prog.underlying 412=some Tryz.t411.desc),rfl,rfl,_,_,_,ty3,rfl⟩
theorem fld412_2:Fld Tryz.prog 412 2 2 1 false:=⟨_,_,(by kernel_rfl:Tryz.prog.underlying 412=some Tryz.t411.desc),rfl,rfl,_,_,_,ty3,rfl⟩
theorem fld466_0:Fld Tryz.prog 466 0 0 1 false:=⟨_,_,(by kernel_rfl:Tryz.prog.underlying 466=some Tryz.t465.desc),rfl,rfl,_,_,_,ty30,rfl⟩
theorem fld466_1:Fld Tryz.prog 466 1 1 2 true:=⟨_,_,(by kernel_rfl:Tryz.prog.underlying 466=some Tryz.t465.desc),rfl,rfl,_,_,_,ty40,rfl⟩
theorem fld485_0:Fld Tryz.prog 485 0 0 1 false:=⟨_,_,(by kernel_rfl:Tryz.prog.underlying 485=some Tryz.t484.desc),rfl,rfl,_,_,_,ty135,rfl⟩
theorem fld485_1:Fld Tryz.prog 485 1 1 1 false:=⟨_,_,(by kernel_rfl:Tryz.prog.underlying 485=some Tryz.t484.desc),rfl,rfl,_,_,_,ty247,rfl⟩
theorem fld485_2:Fld Tryz.prog 485 2 2 1 false:=⟨_,_,(by kernel_rfl:Tryz.prog.underlying 485=some Tryz.t484.desc),rfl,rfl,_,_,_,ty3,rfl⟩
theorem fld485_3:Fld Tryz.prog 485 3 3 1 false:=⟨_,_,(by kernel_rfl:Tryz.prog.underlying 485=some Tryz.t484.desc),rfl,rfl,_,_,_,ty3,rfl⟩
theorem fld493_0:Fld Tryz.prog 493 0 0 1 false:=⟨_,_,(by kernel_rfl:Tryz.prog.underlying 493=some Tryz.t492.desc),rfl,rfl,_,_,_,ty349,rfl⟩
theorem fld493_1:Fld Tryz.prog 493 1 1 1 false:=⟨_,_,(by kernel_rfl:Tryz.prog.underlying 493=some Tryz.t492.desc),rfl,rfl,_,_,_,ty3,rfl⟩
theorem fld493_2:Fld Tryz.prog 493 2 2 1 false:=⟨_,_,(by kernel_rfl:Tryz.prog.underlying 493=some Tryz.t492.desc),rfl,rfl,_,_,_,ty3,rfl⟩
theorem pl40:StructPl Tryz.prog 40 [(0,1),(1,1)]:=⟨_,(by kernel_rfl:Tryz.prog.underlying 40=some Tryz.t39.desc),fun _=>by kernel_rfl⟩
theorem pl50:StructPl Tryz.prog 50 [(0,1),(1,1),(2,1),(3,1)]:=⟨_,(by kernel_rfl:Tryz.prog.underlying 50=some Tryz.t49.desc),fun _=>by kernel_rfl⟩
theorem pl71:StructPl Tryz.prog 71 [(0,1),(1,1),(2,1),(3,1)]:=⟨_,(by kernel_rfl:Tryz.prog.underlying 71=some Tryz.t70.desc),fun _=>by kernel_rfl⟩
theorem pl129:StructPl Tryz.prog 129 [(0,1),(1,1)]:=⟨_,(by kernel_rfl:Tryz.prog.underlying 129=some Tryz.t128.desc),fun _=>by kernel_rfl⟩
theorem pl134:StructPl Tryz.prog 134 [(0,1),(1,8),(9,1),(10,1),(11,1),(12,1),(13,1),(14,1)]:=⟨_,(by kernel_rfl:Tryz.prog.underlying 134=some Tryz.t133.desc),fun _=>by kernel_rfl⟩
theorem pl139:StructPl Tryz.prog 139 [(0,2),(2,2),(4,1)]:=⟨_,(by kernel_rfl:Tryz.prog.underlying 139=some Tryz.t138.desc),fun _=>by kernel_rfl⟩
theorem pl153:StructPl Tryz.prog 153 [(0,1),(1,1),(2,1),(3,1)]:=⟨_,(by kernel_rfl:Tryz.prog.underlying 153=some Tryz.t152.desc),fun _=>by kernel_rfl⟩
theorem pl170:StructPl Tryz.prog 170 [(0,1),(1,1),(2,1024)]:=⟨_,(by kernel_rfl:Tryz.prog.underlying 170=some Tryz.t169.desc),fun _=>by kernel_rfl⟩
theorem pl176:StructPl Tryz.prog 176 [(0,1),(1,1)]:=⟨_,(by kernel_rfl:Tryz.prog.underlying 176=some Tryz.t175.desc),fun _=>by kernel_rfl⟩
theorem pl179:StructPl Tryz.prog 179 [(0,1),(1,1),(2,512),(514,32)]:=⟨_,(by kernel_rfl:Tryz.prog.underlying 179=some Tryz.t178.desc),fun _=>by kernel_rfl⟩
theorem pl217:StructPl Tryz.prog 217 [(0,1),(1,1),(2,1),(3,1),(4,1),(5,1),(6,1)]:=⟨_,(by kernel_rfl:Tryz.prog.underlying 217=some Tryz.t216.desc),fun _=>by kernel_rfl⟩
theorem pl220:StructPl Tryz.prog 220 [(0,1),(1,4)]:=⟨_,(by kernel_rfl:Tryz.prog.underlying 220=some Tryz.t219.desc),fun _=>by kernel_rfl⟩
theorem pl224:StructPl Tryz.prog 224 [(0,1),(1,1),(2,1),(3,1),(4,1),(5,1)]:=⟨_,(by kernel_rfl:Tryz.prog.underlying 224=some Tryz.t223.desc),fun _=>by kernel_rfl⟩
theorem pl246:StructPl Tryz.prog 246 [(0,1),(1,1)]:=⟨_,(by kernel_rfl:Tryz.prog.underlying 246=some Tryz.t245.desc),fun _=>by kernel_rfl⟩
theorem pl250:StructPl Tryz.prog 250 [(0,128),(128,1),(129,1)]:=⟨_,(by kernel_rfl:Tryz.prog.underlying 250=some Tryz.t249.desc),fun _=>by kernel_rfl⟩
theorem pl275:StructPl Tryz.prog 275 [(0,1)]:=⟨_,(by kernel_rfl:Tryz.prog.underlying 275=some Tryz.t274.desc),fun _=>by kernel_rfl⟩
theorem pl294:StructPl Tryz.prog 294 [(0,1),(1,256),(257,32)]:=⟨_,(by kernel_rfl:Tryz.prog.underlying 294=some Tryz.t293.desc),fun _=>by kernel_rfl⟩
theorem pl304:StructPl Tryz.prog 304 [(0,1),(1,1)]:=⟨_,(by kernel_rfl:Tryz.prog.underlying 304=some Tryz.t303.desc),fun _=>by kernel_rfl⟩
theorem pl345:StructPl Tryz.prog 345 [(0,1),(1,1),(2,1)]:=⟨_,(by kernel_rfl:Tryz.prog.underlying 345=some Tryz.t344.desc),fun _=>by kernel_rfl⟩
theorem pl348:StructPl Tryz.prog 348 [(0,1),(1,1),(2,1)]:=⟨_,(by kernel_rfl:Tryz.prog.underlying 348=some Tryz.t347.desc),fun _=>by kernel_rfl⟩
theorem pl372:StructPl Tryz.prog 372 [(0,1),(1,1),(2,1)]:=⟨_,(by kernel_rfl:Tryz.prog.underlying 372=some Tryz.t371.desc),fun _=>by kernel_rfl⟩
theorem pl387:StructPl Tryz.prog 387 [(0,1),(1,1)]:=⟨_,(by kernel_rfl:Tryz.prog.underlying 387=some Tryz.t386.desc),fun _=>by kernel_rfl⟩
theorem pl391:StructPl Tryz.prog 391 [(0,1),(1,1)]:=⟨_,(by kernel_rfl:Tryz.prog.underlying 391=some Tryz.t390.desc),fun _=>by kernel_rfl⟩
theorem pl396:StructPl Tryz.prog 396 [(0,1),(1,1)]:=⟨_,(by kernel_rfl:Tryz.prog.underlying 396=some Tryz.t395.desc),fun _=>by kernel_rfl⟩
theorem pl398:StructPl Tryz.prog 398 [(0,2),(2,1)]:=⟨_,(by kernel_rfl:Tryz.prog.underlying 398=some Tryz.t397.desc),fun _=>by kernel_rfl⟩
theorem pl406:StructPl Tryz.prog 406 [(0,1),(1,512),(513,8),(521,1),(522,1)]:=⟨_,(by kernel_rfl:Tryz.prog.underlying 406=some Tryz.t405.desc),fun _=>by kernel_rfl⟩
theorem pl412:StructPl Tryz.prog 412 [(0,1),(1,1),(2,1)]:=⟨_,(by kernel_rfl:Tryz.prog.underlying 412=some Tryz.t411.desc),fun _=>by kernel_rfl⟩
theorem pl466:StructPl Tryz.prog 466 [(0,1),(1,2)]:=⟨_,(by kernel_rfl:Tryz.prog.underlying 466=some Tryz.t465.desc),fun _=>by kernel_rfl⟩
theorem pl485:StructPl Tryz.prog 485 [(0,1),(1,1),(2,1),(3,1)]:=⟨_,(by kernel_rfl:Tryz.prog.underlying 485=some Tryz.t484.desc),fun _=>by kernel_rfl⟩
theorem pl493:StructPl Tryz.prog 493 [(0,1),(1,1),(2,1)]:=⟨_,(by kernel_rfl:Tryz.prog.underlying 493=some Tryz.t492.desc),fun _=>by kernel_rfl⟩
def popN:Nat→Nat→Nat
 | 0,_=>0
 | k+1,x=>popN k x+(x.testBit k).toNat
def ofB:List Nat→Nat
 | []=>0
 | b::l=>256*ofB l+b
theorem and_byte {b c y m:Nat} (hb:b<256) (hc:c<256):(256*y+b) &&& (256*m+c)=256*(y &&& m)+(b &&& c):=by
 have hbc:b &&& c<2 ^ 8:=Nat.lt_of_le_of_lt Nat.and_le_left hb
 have hb:b<2 ^ 8:=hb
 have hc:c<2 ^ 8:=hc
 have e:(256:Nat)=2 ^ 8:=rfl
 rw [e]
 apply Nat.eq_of_testBit_eq
 intro i
 rw [Nat.testBit_and,Nat.testBit_two_pow_mul_add _ hb,Nat.testBit_two_pow_mul_add _ hc,Nat.testBit_two_pow_mul_add _ hbc]
 split
 ·rw [Nat.testBit_and]
 ·rw [Nat.testBit_and]
theorem shr_byte {b c y m k:Nat} (hb:b<256) (hk:k≤8) (hc:c<2 ^ (8-k)):((256*y+b) >>> k) &&& (256*m+c)=256*((y >>> k) &&& m)+((b >>> k) &&& c):=by
 have hc8:c<2 ^ 8:=Nat.lt_of_lt_of_le hc (Nat.pow_le_pow_right zd zO)
 have hbc:(b >>> k) &&& c<2 ^ 8:=Nat.lt_of_le_of_lt Nat.and_le_right hc8
 have hb:b<2 ^ 8:=hb
 have e:(256:Nat)=2 ^ 8:=rfl
 rw [e]
 apply Nat.eq_of_testBit_eq
 intro i
 rw [Nat.testBit_and,Nat.testBit_shiftRight,Nat.testBit_two_pow_mul_add _ hb,Nat.testBit_two_pow_mul_add _ hc8,Nat.testBit_two_pow_mul_add _ hbc,Nat.testBit_and,Nat.testBit_and,Nat.testBit_shiftRight,Nat.testBit_shiftRight]
 by_cases h:i<8
 ·rw [if_pos h,if_pos h]
  by_cases h2:k+i<8
  ·rw [if_pos h2]
  ·rw [if_neg h2]
   have:c.testBit i=false:=Nat.testBit_lt_two_pow (Nat.lt_of_lt_of_le hc (Nat.pow_le_pow_right zd zO))
   rw [this,Bool.and_false,Bool.and_false]
 ·rw [if_neg h,if_neg h,if_neg (by omega)]
  rw [show k+i-8=k+(i-8) by omega]
def repB (c:Nat):Nat→Nat
 | 0=>0
 | n+1=>256*repB c n+c
def g1 (b:Nat):Nat:=((b >>> 1) &&& 85)+(b &&& 85)
def g2 (b:Nat):Nat:=((b >>> 2) &&& 51)+(b &&& 51)
def g3 (b:Nat):Nat:=(b/16+b)%16
theorem step1:∀ (l:List Nat),(∀ b∈l,b<256)→((ofB l >>> 1) &&& repB 85 l.length)+(ofB l &&& repB 85 l.length)=ofB (l.map g1)
 | [],_=>rfl
 | b::l,h=>by
  have ih:=step1 l (fun x hx=>h x (List.mem_cons_of_mem _ hx))
  have hb:=h b List.mem_cons_self
  show ((256*ofB l+b) >>> 1 &&& (256*repB 85 l.length+85))+((256*ofB l+b) &&& (256*repB 85 l.length+85))=256*ofB (l.map g1)+g1 b
  rw [shr_byte hb (by decide) (by decide),and_byte hb (by decide),← ih]
  unfold g1; omega
theorem step2:∀ (l:List Nat),(∀ b∈l,b<256)→((ofB l >>> 2) &&& repB 51 l.length)+(ofB l &&& repB 51 l.length)=ofB (l.map g2)
 | [],_=>rfl
 | b::l,h=>by
  have ih:=step2 l (fun x hx=>h x (List.mem_cons_of_mem _ hx))
  have hb:=h b List.mem_cons_self
  show ((256*ofB l+b) >>> 2 &&& (256*repB 51 l.length+51))+((256*ofB l+b) &&& (256*repB 51 l.length+51))=256*ofB (l.map g2)+g2 b
  rw [shr_byte hb (by decide) (by decide),and_byte hb (by decide),← ih]
  unfold g2; omega
theorem step3:∀ (l:List Nat),(∀ b∈l,b/16+b≤100∧b%16≤4)→((ofB l >>> 4)+ofB l) &&& repB 15 l.length=ofB (l.map g3)
 | [],_=>rfl
 | b::l,h=>by
  have hl:∀ x∈l,x/16+x≤100∧x%16≤4:=fun x hx=>h x (List.mem_cons_of_mem _ hx)
  have ih:=step3 l hl
  have hb:=h b List.mem_cons_self
  have hy:ofB l%16≤4:=by
   cases l with
   | nil=>decide
   | cons c l =>
    have:=(hl c List.mem_cons_self).2
    show (256*ofB l+c)%16≤4
    omega
  have e:((256*ofB l+b) >>> 4)+(256*ofB l+b)=256*((ofB l >>> 4)+ofB l)+(b/16+b+16*(ofB l%16)):=by
   rw [Nat.shiftRight_eq_div_pow,Nat.shiftRight_eq_div_pow]
   omega
  show (((256*ofB l+b) >>> 4)+(256*ofB l+b)) &&& (256*repB 15 l.length+15)=256*ofB (l.map g3)+g3 b
  rw [e,and_byte (by omega) (by decide),ih,show (15:Nat)=2 ^ 4-1 from rfl,Nat.and_two_pow_sub_one_eq_mod]
  unfold g3; omega
theorem byte_pop:∀ b:Fin 256,g3 (g2 (g1 b.val))=popN 8 b.val∧g1 b.val<256∧g2 (g1 b.val)/16+g2 (g1 b.val)≤100∧g2 (g1 b.val)%16≤4∧popN 8 b.val≤8:=by decide +kernel
theorem popN_add (x:Nat):∀ j k,popN (j+k) x=popN j x+popN k (x >>> j)
 | j,0=>rfl
 | j,k+1=>by
  show popN (j+k) x+(x.testBit (j+k)).toNat=popN j x+(popN k (x >>> j)+((x >>> j).testBit k).toNat)
  rw [popN_add x j k,Nat.testBit_shiftRight]; omega
theorem popN_low {b y:Nat} (hb:b<256):∀ k,k≤8→popN k (256*y+b)=popN k b
 | 0,_=>rfl
 | k+1,h=>by
  show popN k (256*y+b)+((256*y+b).testBit k).toNat=popN k b+(b.testBit k).toNat
  have hb2:b<2 ^ 8:=hb
  rw [popN_low hb k (by omega),show (256:Nat)=2 ^ 8 from rfl,Nat.testBit_two_pow_mul_add _ hb2,if_pos (by omega)]
theorem popN_B:∀ (l:List Nat),(∀ b∈l,b<256)→popN (8*l.length) (ofB l)=((l.map (popN 8)).sum)
 | [],_=>rfl
 | b::l,h=>by
  have hb:=h b List.mem_cons_self
  have ih:=popN_B l (fun x hx=>h x (List.mem_cons_of_mem _ hx))
  have e:8*(b::l).length=8+8*l.length:=by rw [List.length_cons]; omega
  rw [e,popN_add]
  show popN 8 (256*ofB l+b)+popN (8*l.length) ((256*ofB l+b) >>> 8)=popN 8 b+(l.map (popN 8)).sum
  rw [popN_low hb 8 (Nat.le_refl _),Nat.shiftRight_eq_div_pow,show (256*ofB l+b)/2 ^ 8=ofB l by omega,ih]
def ones64 (x:Nat):Nat :=
 let a:=((x >>> 1) &&& 6148914691236517205)+(x &&& 6148914691236517205)
 let b:=((a >>> 2) &&& 3689348814741910323)+(a &&& 3689348814741910323)
 let c:=((b >>> 4)+b) &&& 1085102592571150095
 let d:=c+c >>> 8
 let e:=d+d >>> 16
 let f:=e+e >>> 32
 f%128
theorem ones64_is {x:Nat} (hx:x<18446744073709551616):ones64 x=popN 64 x:=by
 obtain ⟨b0,b1,b2,b3,b4,b5,b6,b7,h0,h1,h2,h3,h4,h5,h6,h7,e⟩:∃ b0 b1 b2 b3 b4 b5 b6 b7:Nat,b0<256∧b1<256∧b2<256∧b3<256∧b4<256∧b5<256∧b6<256∧b7<256∧x=ofB [b0,b1,b2,b3,b4,b5,b6,b7]:=by
  refine ⟨x%256,x/256%256,x/65536%256,x/16777216%256,x/4294967296%256,x/1099511627776%256,x/281474976710656%256,x/72057594037927936,?_⟩
  simp only [ofB]
  omega
 subst e
 have hl:∀ b∈[b0,b1,b2,b3,b4,b5,b6,b7],b<256:=by simp; omega
 have s1:=step1 [b0,b1,b2,b3,b4,b5,b6,b7] hl
 have hl1:∀ b∈[b0,b1,b2,b3,b4,b5,b6,b7].map g1,b<256:=fun y hy=>by
  obtain ⟨b,hb,rfl⟩:=List.mem_map.1 hy
  exact (byte_pop ⟨b,hl b hb⟩).2.1
 have s2:=step2 ([b0,b1,b2,b3,b4,b5,b6,b7].map g1) hl1
 have hl2:∀ b∈([b0,b1,b2,b3,b4,b5,b6,b7].map g1).map g2,b/16+b≤100∧b%16≤4:=fun y hy=>by
  obtain ⟨b,hb,rfl⟩:=List.mem_map.1 hy
  obtain ⟨c,hc,rfl⟩:=List.mem_map.1 hb
  have:=(byte_pop ⟨c,hl c hc⟩).2.2
  exact ⟨this.1,this.2.1⟩
 have s3:=step3 (([b0,b1,b2,b3,b4,b5,b6,b7].map g1).map g2) hl2
 have hp:=popN_B [b0,b1,b2,b3,b4,b5,b6,b7] hl
 have q0:=byte_pop ⟨b0,h0⟩; have q1:=byte_pop ⟨b1,h1⟩; have q2:=byte_pop ⟨b2,h2⟩; have q3:=byte_pop ⟨b3,h3⟩
 have q4:=byte_pop ⟨b4,h4⟩; have q5:=byte_pop ⟨b5,h5⟩; have q6:=byte_pop ⟨b6,h6⟩; have q7:=byte_pop ⟨b7,h7⟩
 dsimp only at q0 q1 q2 q3 q4 q5 q6 q7
 have e1:repB 85 8=6148914691236517205:=by decide
 have e2:repB 51 8=3689348814741910323:=by decide
 have e3:repB 15 8=1085102592571150095:=by decide
 rw [show [b0,b1,b2,b3,b4,b5,b6,b7].length=8 from rfl,e1] at s1
 rw [show ([b0,b1,b2,b3,b4,b5,b6,b7].map g1).length=8 from rfl,e2] at s2
 rw [show (([b0,b1,b2,b3,b4,b5,b6,b7].map g1).map g2).length=8 from rfl,e3] at s3
 unfold ones64
 dsimp only
 rw [s1,s2,s3]
 rw [show 8*[b0,b1,b2,b3,b4,b5,b6,b7].length=64 from rfl] at hp
 rw [hp]
 simp only [List.map_cons,List.map_nil,ofB,List.sum_cons,List.sum_nil,Nat.shiftRight_eq_div_pow]
 rw [q0.1,q1.1,q2.1,q3.1,q4.1,q5.1,q6.1,q7.1]
 have r0:=q0.2.2.2.2; have r1:=q1.2.2.2.2; have r2:=q2.2.2.2.2; have r3:=q3.2.2.2.2
 have r4:=q4.2.2.2.2; have r5:=q5.2.2.2.2; have r6:=q6.2.2.2.2; have r7:=q7.2.2.2.2
 generalize popN 8 b0=d0 at *; generalize popN 8 b1=d1 at *; generalize popN 8 b2=d2 at *; generalize popN 8 b3=d3 at *
 generalize popN 8 b4=d4 at *; generalize popN 8 b5=d5 at *; generalize popN 8 b6=d6 at *; generalize popN 8 b7=d7 at *
 clear hp s1 s2 s3 hl hl1 hl2 q0 q1 q2 q3 q4 q5 q6 q7 hx
 obtain ⟨c,hc⟩:∃ c,c=(256*(256*(256*(256*(256*(256*(256*(256*0+d7)+d6)+d5)+d4)+d3)+d2)+d1)+d0):=⟨_,rfl⟩
 rw [← hc]
 have hx:c/(2 ^ 8)=(256*(256*(256*(256*(256*(256*(256*0+(d7))+(d6))+(d5))+(d4))+(d3))+(d2))+(d1)):=by
  rw [hc]; simp only [Nat.reducePow] ; omega
 rw [hx]
 obtain ⟨c0,hc0⟩:∃ c0,c0=c+(256*(256*(256*(256*(256*(256*(256*0+(d7))+(d6))+(d5))+(d4))+(d3))+(d2))+(d1)):=⟨_,rfl⟩
 rw [← hc0]
 have hd0:c0=(256*(256*(256*(256*(256*(256*(256*(256*0+(d7))+(d6+d7))+(d5+d6))+(d4+d5))+(d3+d4))+(d2+d3))+(d1+d2))+(d0+d1)):=by rw [hc0,hc]; omega
 clear hc hc0 hx
 have hc:=hd0
 clear hd0
 have hy:c0/(2 ^ 16)=(256*(256*(256*(256*(256*(256*0+(d7))+(d6+d7))+(d5+d6))+(d4+d5))+(d3+d4))+(d2+d3)):=by
  rw [hc]; simp only [Nat.reducePow] ; omega
 rw [hy]
 obtain ⟨c1,hc1⟩:∃ c1,c1=c0+(256*(256*(256*(256*(256*(256*0+(d7))+(d6+d7))+(d5+d6))+(d4+d5))+(d3+d4))+(d2+d3)):=⟨_,rfl⟩
 rw [← hc1]
 have hd1:c1=(256*(256*(256*(256*(256*(256*(256*(256*0+(d7))+(d6+d7))+(d5+d6+d7))+(d4+d5+d6+d7))+(d3+d4+d5+d6))+(d2+d3+d4+d5))+(d1+d2+d3+d4))+(d0+d1+d2+d3)):=by rw [hc1,hc]; omega
 clear hc hc1 hy
 have hc:=hd1
 clear hd1
 have hz:c1/(2 ^ 32)=(256*(256*(256*(256*0+(d7))+(d6+d7))+(d5+d6+d7))+(d4+d5+d6+d7)):=by
  rw [hc]; simp only [Nat.reducePow] ; omega
 rw [hz]
 obtain ⟨c2,hc2⟩:∃ c2,c2=c1+(256*(256*(256*(256*0+(d7))+(d6+d7))+(d5+d6+d7))+(d4+d5+d6+d7)):=⟨_,rfl⟩
 rw [← hc2]
 have hd2:c2=(256*(256*(256*(256*(256*(256*(256*(256*0+(d7))+(d6+d7))+(d5+d6+d7))+(d4+d5+d6+d7))+(d3+d4+d5+d6+d7))+(d2+d3+d4+d5+d6+d7))+(d1+d2+d3+d4+d5+d6+d7))+(d0+d1+d2+d3+d4+d5+d6+d7)):=by rw [hc2,hc]; omega
 clear hc hc2 hz
 have hc:=hd2
 clear hd2
 rw [hc]; omega
theorem rows_get {α:Type} {f:α→List Value} {s:Nat} (hf:∀ x,(f x).length=s) {l:List α} {i j:Nat} {x:α} (h:l[i]?=some x) (hj:j<s):(l.flatMap f)[i*s+j]?=(f x)[j]?:=by
 induction l generalizing i with
 | nil=>simp at h
 | cons y l ih =>
  cases i with
  | zero =>
   obtain rfl:y=x:=by simpa using h
   rw [Nat.zero_mul,Nat.zero_add,List.flatMap_cons,List.getElem?_append_left (by rw [hf]; exact hj)]
  | succ i =>
   rw [List.flatMap_cons,List.getElem?_append_right (by rw [hf,Nat.succ_mul]; omega),hf,show (i+1)*s+j-s=i*s+j by rw [Nat.succ_mul]; omega]
   exact ih (by simpa using h)
theorem rows_len {α:Type} {f:α→List Value} {s:Nat} (hf:∀ x,(f x).length=s) (l:List α):(l.flatMap f).length=l.length*s:=by
 induction l with
 | nil=>simp
 | cons y l ih=>rw [List.flatMap_cons,List.length_append,hf,ih,List.length_cons,Nat.succ_mul]; omega
theorem rows_lt {α:Type} {f:α→List Value} {s:Nat} (hf:∀ x,(f x).length=s) {l:List α} {i j:Nat} {x:α} (h:l[i]?=some x) (hj:j<s):i*s+j<(l.flatMap f).length:=by
 have hi:=(List.getElem?_eq_some_iff.1 h).1
 have:=Nat.mul_le_mul_right s (show i+1≤l.length by omega)
 rw [rows_len hf,Nat.succ_mul] at *
 omega
theorem rows_part {α:Type} {f:α→List Value} {s:Nat} (hf:∀ x,(f x).length=s) {l:List α} {i o m:Nat} {x:α} (h:l[i]?=some x) (ho:o+m≤s):((l.flatMap f).drop (i*s+o)).take m=((f x).drop o).take m:=by
 apply List.ext_getElem?
 intro j
 by_cases c:j<m
 ·rw [List.getElem?_take,if_pos c,List.getElem?_drop,List.getElem?_take,if_pos c,List.getElem?_drop,Nat.add_assoc,rows_get hf h (by omega)]
 ·rw [List.getElem?_take,if_neg c,List.getElem?_take,if_neg c]
theorem rows_set {α:Type} {f:α→List Value} {s:Nat} (hf:∀ x,(f x).length=s) {l:List α} {i j:Nat} {x x':α} {v:Value} (h:l[i]?=some x) (hj:j<s) (e:(f x).set j v=f x'):(l.flatMap f).set (i*s+j) v=(l.set i x').flatMap f:=by
 induction l generalizing i with
 | nil=>simp at h
 | cons y l ih =>
  cases i with
  | zero =>
   obtain rfl:y=x:=by simpa using h
   rw [Nat.zero_mul,Nat.zero_add,List.flatMap_cons,List.set_append_left _ _ (by rw [hf]; exact hj),e]
   rfl
  | succ i =>
   rw [List.flatMap_cons,List.set_append_right _ _ (by rw [hf,Nat.succ_mul]; omega),hf,show (i+1)*s+j-s=i*s+j by rw [Nat.succ_mul]; omega,ih (by simpa using h)]
   rfl
theorem rows_spl {α:Type} {f:α→List Value} {s:Nat} (hf:∀ x,(f x).length=s) {l:List α} {i o:Nat} {x x':α} {vs:List Value} (h:l[i]?=some x) (ho:o+vs.length≤s) (e:spliceL (f x) o vs=f x'):spliceL (l.flatMap f) (i*s+o) vs=(l.set i x').flatMap f:=by
 induction l generalizing i with
 | nil=>simp at h
 | cons y l ih =>
  cases i with
  | zero =>
   obtain rfl:y=x:=by simpa using h
   unfold spliceL at e ⊢
   show _=f x'++l.flatMap f
   rw [Nat.zero_mul,Nat.zero_add,List.flatMap_cons,← e,List.take_append_of_le_length (by rw [hf]; omega),List.drop_append_of_le_length (by rw [hf]; omega)]
   simp only [List.append_assoc]
  | succ i =>
   have ih:=ih (i:=i) (by simpa using h)
   unfold spliceL at ih ⊢
   show _=f y++(l.set i x').flatMap f
   rw [← ih,List.flatMap_cons,show (i+1)*s+o=(f y).length+(i*s+o) by rw [hf,Nat.succ_mul]; omega,show (f y).length+(i*s+o)+vs.length=(f y).length+(i*s+o+vs.length) by omega,List.take_length_add_append,List.drop_length_add_append]
   simp only [List.append_assoc]
theorem rows_same {α:Type} {f:α→List Value} {l:List α} {i:Nat} {x y:α} (e:f x=f y):(l.set i x).flatMap f=(l.set i y).flatMap f:=by
 induction l generalizing i with
 | nil=>rfl
 | cons z l ih=>cases i with
  | zero=>rw [List.set_cons_zero,List.set_cons_zero,List.flatMap_cons,List.flatMap_cons,e]
  | succ i=>rw [List.set_cons_succ,List.set_cons_succ,List.flatMap_cons,List.flatMap_cons,ih]
structure W4 where
 a:Int
 b:Int
 c:Int
 d:Int
deriving DecidableEq
def W4.get (w:W4):Nat→Int
 | 0=>w.a
 | 1=>w.b
 | 2=>w.c
 | _=>w.d
def W4.put (w:W4) (i:Nat) (x:Int):W4:=match i with
 | 0=>{ w with a:=x }
 | 1=>{ w with b:=x }
 | 2=>{ w with c:=x }
 | _=>{ w with d:=x }
def W4.vals (w:W4):List Value:=[.int .u64 w.a,.int .u64 w.b,.int .u64 w.c,.int .u64 w.d]
def zW:W4:=⟨0,0,0,0⟩
def W4.of (l:List Int):W4:=⟨l.getD 0 0,l.getD 1 0,l.getD 2 0,l.getD 3 0⟩
theorem W4.copy {l:List Int} (h:l.length≤4) (k:Value):spliceL [k,.int .u64 0,.int .u64 0,.int .u64 0,.int .u64 0] 1 (l.map (.int .u64))=k::(W4.of l).vals:=by
 match l,h with
 | [],_=>rfl
 | [_],_=>rfl
 | [_,_],_=>rfl
 | [_,_,_],_=>rfl
 | [_,_,_,_],_=>rfl
structure Hd where
 slot:Int
 gen:Int
deriving DecidableEq
def hdC (h:Hd):List Value:=[.int .i64 h.slot,.int .i64 h.gen]
def zHd:Hd:=⟨0,0⟩
structure Cel where
 key:Int
 w:W4
deriving DecidableEq
def celC (c:Cel):List Value:=[.int .u64 c.key,.int .u64 c.w.a,.int .u64 c.w.b,.int .u64 c.w.c,.int .u64 c.w.d]
def zCel:Cel:=⟨0,zW⟩
structure Slt where
 own:Hd
 st:Nat
 cel:Cel
deriving DecidableEq
def sltC (s:Slt):List Value:=[.int .i64 s.own.slot,.int .i64 s.own.gen,.int .u64 s.cel.key,.int .u64 s.cel.w.a,.int .u64 s.cel.w.b,.int .u64 s.cel.w.c,.int .u64 s.cel.w.d]
theorem sltC_len (s:Slt):(sltC s).length=7:=rfl
def relS (s:Slt):Slt:=if s.own.gen=255 then ⟨s.own,2,zCel⟩ else ⟨⟨s.own.slot,s.own.gen+1⟩,0,zCel⟩
def errA (L:List Slt) (h:Hd):Int:=if h.slot<0∨(L.length:Int)≤h.slot then 2 else match L[h.slot.toNat]? with
 | some s=>if s.st=1∧s.own=h then 0 else 7
 | none=>2
def celA (L:List Slt) (h:Hd):Cel:=match L[h.slot.toNat]? with
 | some s=>if errA L h=0 then s.cel else zCel
 | none=>zCel
def setAX (L:List Slt) (h:Hd) (f:Slt→Slt):List Slt:=match L[h.slot.toNat]? with
 | some s=>if errA L h=0 then L.set h.slot.toNat (f s) else L
 | none=>L
inductive FindA (L:List Slt) (h:Hd):Prop
 | is (i:Nat) (s:Slt) (hi:h.slot=(i:Int)) (hs:L[i]?=some s) (hu:s.st=1) (ho:s.own=h) (he:errA L h=0) (hc:celA L h=s.cel) (hset:∀ f,setAX L h f=L.set i (f s))
 | lo (hi:h.slot<0) (he:errA L h=2) (hc:celA L h=zCel) (hset:∀ f,setAX L h f=L)
 | hi (hi:(L.length:Int)≤h.slot) (he:errA L h=2) (hc:celA L h=zCel) (hset:∀ f,setAX L h f=L)
 | un (i:Nat) (s:Slt) (hi:h.slot=(i:Int)) (hs:L[i]?=some s) (hu:s.st≠1) (he:errA L h=7) (hc:celA L h=zCel) (hset:∀ f,setAX L h f=L)
 | old (i:Nat) (s:Slt) (hi:h.slot=(i:Int)) (hs:L[i]?=some s) (hu:s.st=1) (ho:s.own≠h) (he:errA L h=7) (hc:celA L h=zCel) (hset:∀ f,setAX L h f=L)
theorem findA (L:List Slt) (h:Hd):FindA L h:=by
 by_cases h1:h.slot<0
 ·have he:errA L h=2:=by unfold errA; rw [if_pos (.inl h1)]
  refine .lo h1 he ?_ (fun f=>?_)
  ·unfold celA; split; rw [if_neg (by rw [he]; decide)]; rfl
  ·unfold setAX; split; rw [if_neg (by rw [he]; decide)]; rfl
 ·by_cases h2:(L.length:Int)≤h.slot
  ·have he:errA L h=2:=by unfold errA; rw [if_pos (.inr h2)]
   refine .hi h2 he ?_ (fun f=>?_)
   ·unfold celA; split; rw [if_neg (by rw [he]; decide)]; rfl
   ·unfold setAX; split; rw [if_neg (by rw [he]; decide)]; rfl
  ·obtain ⟨i,hi⟩:∃ i:Nat,h.slot=(i:Int):=⟨h.slot.toNat,by omega⟩
   obtain ⟨s,hs⟩:∃ s,L[i]?=some s:=⟨_,List.getElem?_eq_getElem zO⟩
   have ei:h.slot.toNat=i:=by omega
   have hs':L[h.slot.toNat]?=some s:=by rw [ei]; exact hs
   by_cases h3:s.st=1
   ·by_cases h4:s.own=h
    ·have he:errA L h=0:=by unfold errA; rw [if_neg (by omega),hs']; exact if_pos ⟨h3,h4⟩
     refine .is i s hi hs h3 h4 he ?_ (fun f=>?_)
     ·unfold celA; rw [hs']; exact if_pos he
     ·unfold setAX; rw [hs']; rw [ei]; exact if_pos he
    ·have he:errA L h=7:=by unfold errA; rw [if_neg (by omega),hs']; exact if_neg (fun h=>h4 h.2)
     refine .old i s hi hs h3 h4 he ?_ (fun f=>?_)
     ·unfold celA; rw [hs']; exact if_neg (by rw [he]; decide)
     ·unfold setAX; rw [hs']; exact if_neg (by rw [he]; decide)
   ·have he:errA L h=7:=by unfold errA; rw [if_neg (by omega),hs']; exact if_neg (fun h=>h3 h.1)
    refine .un i s hi hs h3 he ?_ (fun f=>?_)
    ·unfold celA; rw [hs']; exact if_neg (by rw [he]; decide)
    ·unfold setAX; rw [hs']; exact if_neg (by rw [he]; decide)
theorem errA_is {L:List Slt} {h:Hd} {i:Nat} {s:Slt} (hi:h.slot=(i:Int)) (hs:L[i]?=some s) (hu:s.st=1) (ho:s.own=h):errA L h=0:=by
 have:=(List.getElem?_eq_some_iff.1 hs).1
 unfold errA; rw [if_neg (by omega),show h.slot.toNat=i by omega,hs]; exact if_pos ⟨hu,ho⟩
theorem errA_ok {L:List Slt} {h:Hd} (he:errA L h=0):∃ i s,h.slot=((i:Nat):Int)∧L[i]?=some s∧s.st=1∧s.own=h∧celA L h=s.cel∧∀ f,setAX L h f=L.set i (f s):=by
 cases findA L h with
 | is i s hi hs hu ho _ hc hset=>exact ⟨i,s,hi,hs,hu,ho,hc,hset⟩
 | lo _ e _ _=>rw [e] at he; cases he
 | hi _ e _ _=>rw [e] at he; cases he
 | un _ _ _ _ _ e _ _=>rw [e] at he; cases he
 | old _ _ _ _ _ _ e _ _=>rw [e] at he; cases he
theorem errA_no {L:List Slt} {h:Hd} (he:errA L h≠0):celA L h=zCel∧∀ f,setAX L h f=L:=by
 cases findA L h with
 | is i s hi hs hu ho e hc hset=>exact absurd e he
 | lo _ _ a b=>exact ⟨a,b⟩
 | hi _ _ a b=>exact ⟨a,b⟩
 | un _ _ _ _ _ _ a b=>exact ⟨a,b⟩
 | old _ _ _ _ _ _ _ a b=>exact ⟨a,b⟩
theorem setAX_len (L:List Slt) (h:Hd) (f:Slt→Slt):(setAX L h f).length=L.length:=by
 unfold setAX; split
 ·split
  ·exact List.length_set
  ·rfl
 ·rfl
def firstF (L:List Slt):Option Nat:=L.findIdx? (fun s=>decide (s.st=0))
def cntA (n:Nat) (L:List Slt):Nat:=L.countP (fun s=>decide (s.st=n))
theorem firstF_some {L:List Slt} {i:Nat} (h:firstF L=some i):∃ s,L[i]?=some s∧s.st=0∧∀ j t,j<i→L[j]?=some t→t.st≠0:=by
 unfold firstF at h
 rw [List.findIdx?_eq_some_iff_getElem] at h
 obtain ⟨hi,h1,h2⟩:=h
 refine ⟨L[i],List.getElem?_eq_getElem hi,of_decide_eq_true h1,fun j t hj ht=>?_⟩
 have:=h2 j hj
 obtain ⟨hj2,rfl⟩:=List.getElem?_eq_some_iff.1 ht
 simpa using this
theorem firstF_none {L:List Slt}:firstF L=none↔∀ s∈L,s.st≠0:=by
 unfold firstF
 rw [List.findIdx?_eq_none_iff]
 exact ⟨fun h s hs=>by simpa using h s hs,fun h s hs=>by simpa using h s hs⟩
theorem cntA_pos {L:List Slt} {n:Nat}:cntA n L≠0↔∃ s∈L,s.st=n:=by
 unfold cntA
 rw [← Nat.pos_iff_ne_zero,List.countP_pos_iff]
 exact ⟨fun ⟨s,h1,h2⟩=>⟨s,h1,of_decide_eq_true h2⟩,fun ⟨s,h1,h2⟩=>⟨s,h1,decide_eq_true h2⟩⟩
def TellsA (n:Nat) (L:List Slt) (m:Nat):Prop:=m<18446744073709551616∧∀ i,m.testBit i=(match L[i]? with
 | some s=>decide (s.st=n)
 | none=>false)
theorem popN_tells {n:Nat} {L:List Slt} {m:Nat} (h:TellsA n L m) (hl:L.length≤64):popN 64 m=cntA n L:=by
 have key:∀ k,popN k m=cntA n (L.take k):=by
  intro k
  induction k with
  | zero=>rfl
  | succ k ih =>
   show popN k m+(m.testBit k).toNat=_
   rw [ih,h.2 k,List.take_add_one]
   unfold cntA
   rw [List.countP_append]
   cases L[k]? with
   | none=>rfl
   | some s=>by_cases e:s.st=n <;> simp [e]
 rw [key,List.take_of_length_le hl]
theorem TellsA.at {n:Nat} {L:List Slt} {m i:Nat} {s:Slt} (h:TellsA n L m) (hs:L[i]?=some s):m.testBit i=decide (s.st=n):=by rw [h.2 i,hs]
structure AreOk (L:List Slt):Prop where
 len:1≤L.length∧L.length≤64
 own:∀ i s,L[i]?=some s→s.own.slot=((i:Nat):Int)∧1≤s.own.gen∧s.own.gen≤255
theorem AreOk.set {L:List Slt} (h:AreOk L) {i:Nat} {t:Slt} (ht:t.own.slot=(i:Int)∧1≤t.own.gen∧t.own.gen≤255):AreOk (L.set i t):=by
 refine ⟨by rw [List.length_set]; exact h.len,fun j s hs=>?_⟩
 by_cases e:i=j
 ·subst e
  by_cases hl:i<L.length
  ·rw [List.getElem?_set_self hl] at hs
   obtain rfl:=Option.some.inj hs
   exact ht
  ·rw [List.getElem?_eq_none (by rw [List.length_set]; omega)] at hs; cases hs
 ·rw [List.getElem?_set_ne e] at hs; exact h.own j s hs
theorem AreOk.rel {L:List Slt} (h:AreOk L) {i:Nat} {s:Slt} (hs:L[i]?=some s):AreOk (L.set i (relS s)):=by
 have:=h.own i s hs
 refine h.set ?_
 unfold relS; split
 ·exact this
 ·exact ⟨this.1,by show 1≤s.own.gen+1; omega,by show s.own.gen+1≤255; omega⟩
theorem bkt_ex:∃ f:Int→Nat,∀ k,f k=((k*11400714819323198485%18446744073709551616)/4294967296%8).toNat:=⟨_,fun _=>rfl⟩
noncomputable def bkt:Int→Nat:=Classical.choose bkt_ex
theorem bkt_is (k:Int):bkt k=((k*11400714819323198485%18446744073709551616)/4294967296%8).toNat:=Classical.choose_spec bkt_ex k
theorem bkt_lt (k:Int):bkt k<8:=by rw [bkt_is]; omega
def entC (p:Int × Hd):List Value:=[.int .u64 p.1,.int .i64 p.2.slot,.int .i64 p.2.gen]
theorem entC_len (p:Int × Hd):(entC p).length=3:=rfl
noncomputable def inB (C:List (Int × Hd)) (b:Nat):List (Int × Hd):=C.filter (fun p=>decide (bkt p.1=b))
def fndC (C:List (Int × Hd)) (k:Int):Option Hd:=(C.find? (fun p=>decide (p.1=k))).map (·.2)
def delC (C:List (Int × Hd)) (k:Int):List (Int × Hd):=C.filter (fun p=>decide (p.1≠k))
noncomputable def keysC (C:List (Int × Hd)):List Int:=(List.range 8).flatMap (fun b=>(inB C b).map (·.1))
abbrev keyL (C:List (Int × Hd)):List Int:=C.map (·.1)
theorem fndC_none {C:List (Int × Hd)} {k:Int}:fndC C k=none↔k ∉ keyL C:=by
 unfold fndC
 rw [Option.map_eq_none_iff,List.find?_eq_none]
 constructor
 ·intro h hm
  obtain ⟨p,hp,e⟩:=List.mem_map.1 hm
  exact h p hp (decide_eq_true e)
 ·intro h p hp e
  exact h (List.mem_map.2 ⟨p,hp,of_decide_eq_true e⟩)
theorem fndC_mem {C:List (Int × Hd)} {k:Int} {h:Hd} (hf:fndC C k=some h):(k,h)∈C:=by
 unfold fndC at hf
 rw [Option.map_eq_some_iff] at hf
 obtain ⟨p,hp,rfl⟩:=hf
 have e:p.1=k:=by simpa using List.find?_some hp
 subst e
 exact List.mem_of_find?_eq_some hp
theorem fndC_of {C:List (Int × Hd)} {k:Int} {h:Hd} (hn:(keyL C).Nodup) (hm:(k,h)∈C):fndC C k=some h:=by
 induction C with
 | nil=>cases hm
 | cons p C ih =>
  have hn':=List.nodup_cons.1 hn
  unfold fndC
  by_cases e:p.1=k
  ·rw [List.find?_cons_of_pos (by simpa using e)]
   rcases List.mem_cons.1 hm with rfl | hm
   ·rfl
   ·exact absurd (List.mem_map.2 ⟨(k,h),hm,rfl⟩) (by rw [← e]; exact hn'.1)
  ·rw [List.find?_cons_of_neg (by simpa using e)]
   rcases List.mem_cons.1 hm with rfl | hm
   ·exact absurd rfl e
   ·exact ih hn'.2 hm
theorem inB_sub {C:List (Int × Hd)} {b:Nat} {p:Int × Hd} (h:p∈inB C b):p∈C∧bkt p.1=b:=by
 obtain ⟨h1,h2⟩:=List.mem_filter.1 h
 exact ⟨h1,of_decide_eq_true h2⟩
theorem inB_len (C:List (Int × Hd)) (b:Nat):(inB C b).length≤C.length:=List.length_filter_le _ _
theorem inB_nodup {C:List (Int × Hd)} (hn:(keyL C).Nodup) (b:Nat):(keyL (inB C b)).Nodup:=hn.sublist (List.filter_sublist.map _)
theorem inB_cons (p:Int × Hd) (C:List (Int × Hd)) (b:Nat):inB (p::C) b=if bkt p.1=b then p::inB C b else inB C b:=by
 unfold inB
 by_cases e:bkt p.1=b
 ·rw [if_pos e,List.filter_cons_of_pos (by simpa using e)]
 ·rw [if_neg e,List.filter_cons_of_neg (by simpa using e)]
theorem inB_del (C:List (Int × Hd)) (k:Int) (b:Nat):inB (delC C k) b=delC (inB C b) k:=by
 unfold inB delC
 rw [List.filter_filter,List.filter_filter]
 apply List.filter_congr
 intro p _
 rw [Bool.and_comm]
theorem delC_out {C:List (Int × Hd)} {k:Int} (h:k ∉ keyL C):delC C k=C:=by
 unfold delC
 rw [List.filter_eq_self]
 intro p hp
 exact decide_eq_true fun e=>h (List.mem_map.2 ⟨p,hp,e⟩)
theorem delC_at {C:List (Int × Hd)} {j:Nat} {p:Int × Hd} (hn:(keyL C).Nodup) (h:C[j]?=some p):delC C p.1=C.take j++C.drop (j+1):=by
 induction C generalizing j with
 | nil=>simp at h
 | cons q C ih =>
  have hn':=List.nodup_cons.1 hn
  cases j with
  | zero =>
   obtain rfl:q=p:=by simpa using h
   show delC (q::C) q.1=C
   unfold delC
   rw [List.filter_cons_of_neg (by simp)]
   exact delC_out hn'.1
  | succ j =>
   have hj:C[j]?=some p:=by simpa using h
   have e:q.1≠p.1:=fun e=>hn'.1 (List.mem_map.2 ⟨p,List.mem_of_getElem? hj,e.symm⟩)
   show delC (q::C) p.1=q::(C.take j++C.drop (j+1))
   rw [← ih hn'.2 hj]
   unfold delC
   rw [List.filter_cons_of_pos (by simpa using e)]
theorem delC_len {C:List (Int × Hd)} {k:Int} (hn:(keyL C).Nodup) (hk:k∈keyL C):(delC C k).length+1=C.length:=by
 obtain ⟨p,hp,rfl⟩:=List.mem_map.1 hk
 obtain ⟨j,hj,rfl⟩:=List.getElem_of_mem hp
 rw [delC_at hn (List.getElem?_eq_getElem hj),List.length_append,List.length_take,List.length_drop]
 omega
theorem delC_nodup {C:List (Int × Hd)} (hn:(keyL C).Nodup) (k:Int):(keyL (delC C k)).Nodup:=hn.sublist (List.filter_sublist.map _)
theorem keyL_del (C:List (Int × Hd)) (k:Int):keyL (delC C k)=(keyL C).filter (fun x=>decide (x≠k)):=by
 unfold delC
 rw [List.filter_map]; rfl
theorem i64w {m:Int} (h:-9223372036854775808≤m∧m≤9223372036854775807):IntKind.i64.wrap m=m:=IntWalk.i64_in m h
theorem u64w {m:Int} (h:0≤m∧m≤18446744073709551615):IntKind.u64.wrap m=m:=by
 have e:IntKind.u64.wrap m=m%18446744073709551616:=by simp [IntKind.wrap,IntKind.signed,IntKind.bits]
 rw [e]; omega
def tickT (x n:Nat):Nat:=if 18446744073709551615/8 ^ n<x then 18446744073709551615 else x*8 ^ n
structure Spot where
 lv:Nat
 slot:Nat
 at_:Nat
 due:Nat
deriving DecidableEq
def Spot.v (s:Spot):List Value:=[.int .i64 (s.lv:Int),.int .i64 (s.slot:Int),.int .u64 (s.at_:Int),.int .u64 (s.due:Int)]
def zSpot:Spot:=⟨0,0,0,0⟩
theorem neqN (a b:Nat):decide ((a:Int)≠(b:Int))=true↔a≠b:=by rw [decide_eq_true_eq]; exact not_congr Int.ofNat_inj
theorem and64 {a b:Nat} (ha:a<18446744073709551616) (hb:b<18446744073709551616):bitsOf .and .u64 (a:Int) (b:Int)=((a &&& b:Nat):Int):=by
 have ea:BitVec.ofInt 64 (a:Int)=BitVec.ofNat 64 a:=by simp
 have eb:BitVec.ofInt 64 (b:Int)=BitVec.ofNat 64 b:=by simp
 have h:a &&& b<18446744073709551616:=Nat.lt_of_le_of_lt Nat.and_le_left ha
 show IntKind.u64.wrap (((BitVec.ofInt 64 (a:Int) &&& BitVec.ofInt 64 (b:Int)).toNat:Nat):Int)=_
 rw [ea,eb]
 rw [BitVec.toNat_and,BitVec.toNat_ofNat,BitVec.toNat_ofNat,Nat.mod_eq_of_lt (show a<2 ^ 64 from ha),Nat.mod_eq_of_lt (show b<2 ^ 64 from hb)]
 exact u64w ⟨by omega,by omega⟩
theorem or64 {a b:Nat} (ha:a<18446744073709551616) (hb:b<18446744073709551616):bitsOf .or .u64 (a:Int) (b:Int)=((a ||| b:Nat):Int):=by
 have ea:BitVec.ofInt 64 (a:Int)=BitVec.ofNat 64 a:=by simp
 have eb:BitVec.ofInt 64 (b:Int)=BitVec.ofNat 64 b:=by simp
 have h:a ||| b<18446744073709551616:=Nat.or_lt_two_pow (n:=64) ha hb
 show IntKind.u64.wrap (((BitVec.ofInt 64 (a:Int) ||| BitVec.ofInt 64 (b:Int)).toNat:Nat):Int)=_
 rw [ea,eb]
 rw [BitVec.toNat_or,BitVec.toNat_ofNat,BitVec.toNat_ofNat,Nat.mod_eq_of_lt (show a<2 ^ 64 from ha),Nat.mod_eq_of_lt (show b<2 ^ 64 from hb)]
 exact u64w ⟨by omega,by omega⟩
theorem andNot64 {a b:Nat} (ha:a<18446744073709551616) (hb:b<18446744073709551616):bitsOf .andNot .u64 (a:Int) (b:Int)=((a &&& (18446744073709551615-b):Nat):Int):=by
 have ea:BitVec.ofInt 64 (a:Int)=BitVec.ofNat 64 a:=by simp
 have eb:BitVec.ofInt 64 (b:Int)=BitVec.ofNat 64 b:=by simp
 have h:a &&& (18446744073709551615-b)<18446744073709551616:=Nat.lt_of_le_of_lt Nat.and_le_left ha
 show IntKind.u64.wrap (((BitVec.ofInt 64 (a:Int) &&& ~~~(BitVec.ofInt 64 (b:Int))).toNat:Nat):Int)=_
 rw [ea,eb]
 rw [BitVec.toNat_and,BitVec.toNat_not,BitVec.toNat_ofNat,BitVec.toNat_ofNat,Nat.mod_eq_of_lt (show a<2 ^ 64 from ha),Nat.mod_eq_of_lt (show b<2 ^ 64 from hb)]
 show IntKind.u64.wrap ((a &&& (18446744073709551615-b):Nat):Int)=_
 exact u64w ⟨by omega,by omega⟩
def bitN (i:Int):Nat:=if 0≤i∧i<64 then 2 ^ i.toNat else 0
def goodB (i:Int):Bool:=decide (0≤i) && decide (i<64)
theorem pow64 {i:Nat} (h:i<64):2 ^ i≤9223372036854775808:=by
 have:2 ^ i≤2 ^ 63:=Nat.pow_le_pow_right zO zO
 simpa using this
theorem bitN_lt (i:Int):bitN i<18446744073709551616:=by
 unfold bitN; split
 ·have:=pow64 (i:=i.toNat) zO; omega
 ·omega
theorem shl_one {i:Int} (hi:0≤i∧i<64):IntKind.u64.wrap (1*2 ^ (min i.toNat IntKind.u64.bits))=((bitN i:Nat):Int):=by
 have h:=pow64 (i:=i.toNat) zO
 have e:min i.toNat IntKind.u64.bits=i.toNat:=by
  have:IntKind.u64.bits=64:=rfl
  omega
 have e2:(2:Int) ^ i.toNat=((2 ^ i.toNat:Nat):Int):=(Int.natCast_pow 2 _).symm
 unfold bitN
 rw [if_pos hi,Int.one_mul,e,e2]
 generalize 2 ^ i.toNat=k at *
 exact u64w ⟨by omega,by omega⟩
theorem good_pure (i:Int):Pure Tryz.prog (fun _=>True) 329 [.int .i64 i] (.bool (goodB i)):=by
 intro w0 H hT
 refine L_enter Tryz.func329 rfl Tryz.ntmps329 rfl rfl ?_
 refine W_sr (W_assign rfl rfl (W_nil (W_sr (W_move rfl rfl (W_bin rfl rfl b_geq rfl ?_)))))
 refine W_move rfl rfl ?_
 apply W_and
 iterate 4 exact rfl
 case h1 =>
  intro hg2
  refine W_gyes rfl rfl (W_move rfl rfl (W_gyes rfl rfl (W_bin rfl rfl b_lss rfl ?_)))
  exact W_met rfl zR
 refine W_assign rfl rfl (W_nil (W_ret1m (H2:=H) Tryz.results329 rfl (.nil _) zH ?_))
 exact ⟨rfl,rfl⟩
theorem bit_pure (i:Int):Pure Tryz.prog (fun _=>True) 233 [.int .i64 i] (.int .u64 (bitN i:Nat)):=by
 intro w0 H hT
 refine L_enter Tryz.func233 rfl Tryz.ntmps233 rfl rfl ?_
 refine W_sr (W_assign rfl rfl (W_nil (W_seq (W_sr (W_move rfl rfl ?_)))))
 refine W_callp (.cons rfl .nil) Tryz.call329 rfl (T:=fun _=>True) trivial (good_pure _) ?_
 refine W_not rfl rfl ?_
 refine W_nil ?_
 refine W_condS rfl (fun c0=>?_) (fun c0=>?_)
 ·skip
  refine W_sr (W_assign rfl rfl (W_nil (W_ret1m (H2:=H) Tryz.results233 rfl (.nil _) zH ?_)))
  exact ⟨by unfold bitN; rw [if_neg (by intro h; have:goodB i=true:=(by unfold goodB; simp [h.1,h.2]); simp [this] at c0)]; rfl,rfl⟩
 ·skip
  refine W_skip (W_sr (W_move rfl rfl ?_))
  have hi:0≤i∧i<64:=by
   have:goodB i=true:=by cases h:goodB i <;> simp_all
   unfold goodB at this
   simpa using this
  refine W_conv rfl ty3 ty357 (u64w zO) rfl ?_
  refine W_bin rfl rfl (b_shl zO (shl_one hi)) rfl ?_
  refine W_assign rfl rfl (W_nil (W_ret1m (H2:=H) Tryz.results233 rfl (.nil _) zH ?_))
  exact ⟨rfl,rfl⟩
def withL (m:Nat) (l:List Int):Nat:=l.foldl (fun m i=>m ||| bitN i) m
def outL (m:Nat) (l:List Int):Nat:=l.foldl (fun m i=>m &&& (18446744073709551615-bitN i)) m
theorem withL_ok:∀ (l:List Int) {m:Nat},m<18446744073709551616→withL m l<18446744073709551616
 | [],_,h=>h
 | i::l,_,h=>withL_ok l (Nat.or_lt_two_pow (n:=64) h (bitN_lt i))
theorem outL_ok:∀ (l:List Int) {m:Nat},m<18446744073709551616→outL m l<18446744073709551616
 | [],_,h=>h
 | i::l,_,h=>outL_ok l (Nat.lt_of_le_of_lt Nat.and_le_left h)
theorem takeAt {α:Type} {l:List α} {i:Nat} {x:α} (h:l[i]?=some x):l.take (i+1)=l.take i++[x]:=by
 rw [List.take_add_one,h]; rfl
theorem foldl_at {β:Type} {f:β→Int→β} {b:β} {l:List Int} {i:Nat} {x:Int} (h:l[i]?=some x):(l.take (i+1)).foldl f b=f ((l.take i).foldl f b) x:=by
 rw [takeAt h,List.foldl_append]; rfl
theorem with_q {w0:World} {H:Heap} {m:Nat} {l:List Int} {ad:Option Addr} {cap:Nat} (hm:m<18446744073709551616) (hn:l.length≤4611686018427387904) (hrow:Holds w0 H ad (l.map (Value.int .i64))) :PureAt Tryz.prog w0 H 232 [.int .u64 ((m:Nat):Int),.slice ad l.length cap] (.int .u64 ((withL m l:Nat):Int)):=by
 refine L_enter Tryz.func232 rfl Tryz.ntmps232 rfl rfl ?_
 refine W_sr (W_assign rfl rfl (W_nil (W_seq (W_sr (W_move rfl rfl (W_len rfl ty63 rfl rfl ?_))))))
 refine W_move rfl rfl (W_nil (W_block ?_))
 refine W_loopC (X:=Nat) [(7,_),(8,_)] (fun (i:Nat)=>[(0,.int .u64 ((withL m (l.take i):Nat):Int)),(9,.int .i64 (i:Int))]) (fun _=>_) (fun (i:Nat)=>H) (fun (i:Nat)=>i≤l.length) (fun (i:Nat)=>l.length-i) 0 (Nat.zero_le _) (sub_cons rfl (sub_cons rfl (sub_nil _))) (sub_cons rfl (sub_cons rfl (sub_nil _))) rfl zH ?_
 intro i hi
 simp only [List.cons_append,List.nil_append]
 refine W_sr (W_bin rfl rfl b_lss rfl ?_)
 refine W_nil (W_seq ?_)
 refine W_condPS (p:=(i:Int)<(l.length:Int)) rfl (by simp) (fun q0=>?_) (fun q0=>?_)
 ·skip
  refine W_skip (W_seq (W_block (W_sr ?_)))
  obtain ⟨x,hx⟩:∃ x,l[i]?=some x:=⟨_,List.getElem?_eq_getElem zO⟩
  obtain ⟨q0,p0,rfl,hc⟩:=hrow.at (i:=i) (v:=.int .i64 x) (by rw [List.getElem?_map,hx]; rfl)
  refine W_indexAddr (j:=i) rfl rfl ty63 ty3 rfl zO rfl rfl ?_
  refine W_load (v:=.int .i64 x) rfl ty3 rfl (by rw [Nat.mul_one]; exact hc) rfl ?_
  refine W_assign rfl rfl (W_nil (W_region (W_move rfl rfl (W_move rfl rfl ?_))))
  refine W_callp (.cons rfl .nil) Tryz.call233 rfl (T:=fun _=>True) trivial (bit_pure _) ?_
  refine W_bin rfl rfl (b_or (m:=((withL m (l.take (i+1)):Nat):Int)) (by rw [show withL m (l.take (i+1))=_ from foldl_at hx]; exact or64 (withL_ok _ hm) (bitN_lt x))) rfl ?_
  refine W_assign rfl rfl (W_nil (W_blk (W_region ?_)))
  refine W_bin rfl rfl (b_add (m:=((i+1:Nat):Int)) (by rw [i64w (by omega)]; omega)) rfl ?_
  refine W_move rfl rfl (W_nil ?_)
  refine W_again (i+1) zO zO (sub_cons rfl (sub_cons rfl (sub_cons rfl (sub_cons rfl (sub_nil _))))) rfl zH
 ·skip
  refine W_exit rfl ?_
  refine W_sr (W_move rfl rfl (W_assign rfl rfl (W_nil (W_ret1m (H2:=H) Tryz.results232 rfl (.nil _) zH ?_))))
  obtain rfl:i=l.length:=by omega
  exact ⟨by rw [List.take_length],rfl⟩
theorem out_q {w0:World} {H:Heap} {m:Nat} {l:List Int} {ad:Option Addr} {cap:Nat} (hm:m<18446744073709551616) (hn:l.length≤4611686018427387904) (hrow:Holds w0 H ad (l.map (Value.int .i64))) :PureAt Tryz.prog w0 H 141 [.int .u64 ((m:Nat):Int),.slice ad l.length cap] (.int .u64 ((outL m l:Nat):Int)):=by
 refine L_enter Tryz.func141 rfl Tryz.ntmps141 rfl rfl ?_
 refine W_sr (W_assign rfl rfl (W_nil (W_seq (W_sr (W_move rfl rfl (W_len rfl ty63 rfl rfl ?_))))))
 refine W_move rfl rfl (W_nil (W_block ?_))
 refine W_loopC (X:=Nat) [(7,_),(8,_)] (fun (i:Nat)=>[(0,.int .u64 ((outL m (l.take i):Nat):Int)),(9,.int .i64 (i:Int))]) (fun _=>_) (fun (i:Nat)=>H) (fun (i:Nat)=>i≤l.length) (fun (i:Nat)=>l.length-i) 0 (Nat.zero_le _) (sub_cons rfl (sub_cons rfl (sub_nil _))) (sub_cons rfl (sub_cons rfl (sub_nil _))) rfl zH ?_
 intro i hi
 simp only [List.cons_append,List.nil_append]
 refine W_sr (W_bin rfl rfl b_lss rfl ?_)
 refine W_nil (W_seq ?_)
 refine W_condPS (p:=(i:Int)<(l.length:Int)) rfl (by simp) (fun q0=>?_) (fun q0=>?_)
 ·skip
  refine W_skip (W_seq (W_block (W_sr ?_)))
  obtain ⟨x,hx⟩:∃ x,l[i]?=some x:=⟨_,List.getElem?_eq_getElem zO⟩
  obtain ⟨q0,p0,rfl,hc⟩:=hrow.at (i:=i) (v:=.int .i64 x) (by rw [List.getElem?_map,hx]; rfl)
  refine W_indexAddr (j:=i) rfl rfl ty63 ty3 rfl zO rfl rfl ?_
  refine W_load (v:=.int .i64 x) rfl ty3 rfl (by rw [Nat.mul_one]; exact hc) rfl ?_
  refine W_assign rfl rfl (W_nil (W_region (W_move rfl rfl (W_move rfl rfl ?_))))
  refine W_callp (.cons rfl .nil) Tryz.call233 rfl (T:=fun _=>True) trivial (bit_pure _) ?_
  refine W_bin rfl rfl (b_andNot (m:=((outL m (l.take (i+1)):Nat):Int)) (by rw [show outL m (l.take (i+1))=_ from foldl_at hx]; exact andNot64 (outL_ok _ hm) (bitN_lt x))) rfl ?_
  refine W_assign rfl rfl (W_nil (W_blk (W_region ?_)))
  refine W_bin rfl rfl (b_add (m:=((i+1:Nat):Int)) (by rw [i64w (by omega)]; omega)) rfl ?_
  refine W_move rfl rfl (W_nil ?_)
  refine W_again (i+1) zO zO (sub_cons rfl (sub_cons rfl (sub_cons rfl (sub_cons rfl (sub_nil _))))) rfl zH
 ·skip
  refine W_exit rfl ?_
  refine W_sr (W_move rfl rfl (W_assign rfl rfl (W_nil (W_ret1m (H2:=H) Tryz.results141 rfl (.nil _) zH ?_))))
  obtain rfl:i=l.length:=by omega
  exact ⟨by rw [List.take_length],rfl⟩
open Go.Lib in
def Tab (w:World):Prop:=∀ j,j<64→w.cell? ⟨0,j,none⟩=some (.int .u8 ((deBruijn64tab.getD j 0:Nat):Int))
open Go.Lib in
theorem low_bit {r:Nat} (h0:r≠0) (h:r<18446744073709551616):ctz 64 r<64∧r.testBit (ctz 64 r)=true∧(∀ i,i<ctz 64 r→r.testBit i=false)∧∀ i,(r &&& (r-1)).testBit i=(r.testBit i && decide (i≠ctz 64 r)):=by
  obtain ⟨m,hm,hk⟩:=ctzFrom_spec 64 r (by omega) (by simpa using h)
  have hc:ctz 64 r=ctzFrom 64 r:=if_neg h0
  rw [hc]
  generalize ctzFrom 64 r=k at *
  have hp:0<2 ^ k:=Nat.two_pow_pos k
  have e1:r=2 ^ k*(2*m+1)+0:=by omega
  have e2:r-1=2 ^ k*(2*m)+(2 ^ k-1):=by
    rw [hm,Nat.mul_add,Nat.mul_one]; omega
  have b1:∀ i,r.testBit i=if i<k then false else (2*m+1).testBit (i-k):=fun i=>by
    rw [e1,Nat.testBit_two_pow_mul_add _ hp]; simp
  have b2:∀ i,(r-1).testBit i=if i<k then true else (2*m).testBit (i-k):=fun i=>by
    rw [e2,Nat.testBit_two_pow_mul_add _ (by omega),Nat.testBit_two_pow_sub_one]
    split <;> simp_all
  refine ⟨hk,?_,fun i hi=>?_,fun i=>?_⟩
  · rw [b1,if_neg (by omega),Nat.sub_self,Nat.testBit_zero]; simp
  · rw [b1,if_pos hi]
  · rw [Nat.testBit_and,b1,b2]
    by_cases c1:i<k
    · rw [if_pos c1,if_pos c1]; rfl
    · rw [if_neg c1,if_neg c1]
      by_cases c2:i=k
      · subst c2; rw [Nat.sub_self,Nat.testBit_zero,Nat.testBit_zero]; simp
      · obtain ⟨t,ht⟩:∃ t,i-k=t+1:=⟨i-k-1,by omega⟩
        rw [ht,Nat.testBit_succ,Nat.testBit_succ,show (2*m+1)/2=m by omega,show 2*m/2=m by omega]
        simp [c2]
def nextN (m:Nat) (f:Int):Option Nat:=(List.range 64).find? (fun i=>m.testBit i && decide (f≤(i:Int)))
theorem nextN_some {m i:Nat} {f:Int} (hi:i<64) (hb:m.testBit i=true) (hf:f≤(i:Int)) (hl:∀ j,j<i→m.testBit j=true→(j:Int)<f):nextN m f=some i:=by
  unfold nextN
  rw [List.find?_range_eq_some]
  refine ⟨by rw [hb,decide_eq_true hf]; rfl,List.mem_range.2 hi,fun j hj=>?_⟩
  cases h:m.testBit j with
  | false=>rfl
  | true=>have:=hl j hj h; rw [decide_eq_false (by omega)]; rfl
theorem nextN_none {m:Nat} {f:Int} (hl:∀ j,m.testBit j=true→(j:Int)<f):nextN m f=none:=by
  unfold nextN
  rw [List.find?_eq_none]
  intro j _ h
  rw [Bool.and_eq_true] at h
  have:=hl j h.1
  have:=of_decide_eq_true h.2
  omega
theorem nextN_is {m i:Nat} {f:Int} (h:nextN m f=some i):i<64∧m.testBit i=true∧f≤(i:Int)∧∀ j,j<i→m.testBit j=true→(j:Int)<f:=by
  unfold nextN at h
  rw [List.find?_range_eq_some] at h
  obtain ⟨h1,h2,h3⟩:=h
  rw [Bool.and_eq_true] at h1
  refine ⟨List.mem_range.1 h2,h1.1,of_decide_eq_true h1.2,fun j hj hb=>?_⟩
  have:=h3 j hj
  rw [hb] at this
  simp at this
  omega
def nextV (m:Nat) (f:Int):Value:=match nextN m f with
  | some i=>.tuple #[.int .i64 (i:Int),.bool true]
  | none=>.tuple #[.int .i64 0,.bool false]
def aroundN (m:Nat) (f:Int):Option Nat:=(nextN m f).or (nextN m 0)
def aroundV (m:Nat) (f:Int):Value:=match aroundN m f with
  | some i=>.tuple #[.int .i64 (i:Int),.bool true]
  | none=>.tuple #[.int .i64 0,.bool false]
theorem mulW (a b:Nat):IntKind.u64.wrap ((a:Int)*(b:Int))=((a*b%18446744073709551616:Nat):Int):=by
  have e:IntKind.u64.wrap ((a:Int)*(b:Int))=((a:Int)*(b:Int))%18446744073709551616:=by simp [IntKind.wrap,IntKind.signed,IntKind.bits]
  rw [e,← Int.natCast_mul]; omega
theorem shr58 (x:Nat):Int.fdiv (x:Int) (2 ^ (min (58:Int).toNat IntKind.u64.bits))=((x/288230376151711744:Nat):Int):=by
  have e:(2:Int) ^ (min (58:Int).toNat IntKind.u64.bits)=288230376151711744:=by decide
  rw [e,Int.fdiv_eq_ediv_of_nonneg _ (by decide)]; omega
open Go.Lib in
theorem tz_pure {x:Nat} (hx:x<18446744073709551616):Pure Tryz.prog (Tab) 452 [.int .u64 ((x:Nat):Int)] (.int .i64 ((ctz 64 x:Nat):Int)):=by
  intro w0 H hT
  refine L_enter Tryz.func452 rfl Tryz.ntmps452 rfl rfl ?_
  refine W_sr (W_assign rfl rfl (W_nil (W_seq (W_sr (W_move rfl rfl (W_bin rfl rfl b_eql rfl ?_))))))
  refine W_nil ?_
  refine W_condPS (p:=x=0) rfl (by rw [decide_eq_true_eq]; exact Int.ofNat_inj) (fun c0=>?_) (fun c0=>?_)
  · skip
    refine W_sr (W_assign rfl rfl (W_nil (W_ret1m (H2:=H) Tryz.results452 rfl (.nil _) zH ?_)))
    exact ⟨by rw [c0]; rfl,rfl⟩
  · skip
    refine W_skip (W_sr (W_move rfl rfl (W_move rfl rfl ?_)))
    have hx0:x≠0:=fun e=>c0 (by rw [e])
    obtain ⟨hlow,hk⟩:=lowest_bit 64 x hx0 (by simpa using hx)
    obtain ⟨hi64,htab⟩:=deBruijn64_at _ hk
    refine W_neg rfl (m := ((18446744073709551616 - x : Nat) : Int)) (by have e : IntKind.u64.wrap (0 - (x : Int)) = (0 - (x : Int)) % 18446744073709551616 := by simp [IntKind.wrap, IntKind.signed, IntKind.bits]
                                                                         rw [e]; omega) rfl ?_
    refine W_bin rfl rfl (b_and (m:=((2 ^ ctz 64 x:Nat):Int)) ((and64 hx zO).trans (congrArg (fun z:Nat=>(z:Int)) hlow))) rfl ?_
    refine W_bin rfl rfl (b_mul (m:=((2 ^ ctz 64 x*285870213051353865%18446744073709551616:Nat):Int)) (mulW _ _)) rfl ?_
    refine W_bin rfl rfl (b_shr zd (m:=((2 ^ ctz 64 x*285870213051353865%18446744073709551616/288230376151711744:Nat):Int)) (shr58 _)) rfl ?_
    generalize 2 ^ ctz 64 x*285870213051353865%18446744073709551616/288230376151711744=jj at *
    refine W_indexAddrA (j:=jj) rfl rfl ty590 ty5 rfl hi64 rfl rfl ?_
    refine W_load (v:=.int .u8 ((ctz 64 x:Nat):Int)) rfl ty5 rfl (Cell.old (by have h:=hT jj hi64; rw [htab] at h; rw [Nat.mul_one,Nat.zero_add]; exact h)) rfl ?_
    refine W_conv rfl ty5 ty3 (i64w zO) rfl ?_
    refine W_assign rfl rfl (W_nil (W_ret1m (H2:=H) Tryz.results452 rfl (.nil _) zH ?_))
    exact ⟨rfl,rfl⟩
theorem and_lt {r:Nat} (h0:r≠0):r &&& (r-1)<r:=Nat.lt_of_le_of_lt Nat.and_le_right zO
open Go.Lib in
theorem bits_iter {w0:World} {H:Heap} {lp b1 m:Nat} (hT:Tab w0) (J:Nat→Heap→Prop) (S:Heap→Prop) (hm:m<18446744073709551616)
  (hround:∀ r Hi,r≠0→r<18446744073709551616→J r Hi→RoundC Tryz.prog w0 lp #[.int .i64 ((ctz 64 r:Nat):Int)] ((b1,.cells 247 1 [.int .u64 (m:Int)])::Hi) (fun v H'=>∃ Hi',HSub H' ((b1,.cells 247 1 [.int .u64 (m:Int)])::Hi')∧(v=.bool true∧J (r &&& (r-1)) Hi'∨v=.bool false∧S Hi'))) (hJ:J m H) :
  LCalls Tryz.prog w0 451 #[.func (.yield lp) #[] #[],.pointer (some ⟨b1,0,none⟩)] ((b1,.cells 247 1 [.int .u64 (m:Int)])::H) (fun _ H'=>∃ Hi',HSub H' ((b1,.cells 247 1 [.int .u64 (m:Int)])::Hi')∧(J 0 Hi'∨S Hi')):=by
 refine L_enter (l:=[.func (.yield lp) #[] #[],.pointer (some ⟨b1,0,none⟩)]) Tryz.func451 rfl Tryz.ntmps451 rfl rfl ?_
 refine W_sr (W_load rfl ty247 rfl (Cell.own zM rfl) rfl ?_)
 refine W_assign rfl rfl (W_nil (W_block ?_))
 refine W_loopC (X:=(Nat × Heap)) [(0,_)] (fun (x:(Nat × Heap))=>[(3,.int .u64 (x.1:Int))]) (fun _=>_) (fun (x:(Nat × Heap))=>(b1,.cells 247 1 [.int .u64 (m:Int)])::x.2) (fun (x:(Nat × Heap))=>x.1<18446744073709551616∧J x.1 x.2) (fun (x:(Nat × Heap))=>x.1) (m,H) ⟨hm,hJ⟩ (sub_cons rfl (sub_nil _)) (sub_cons rfl (sub_nil _)) rfl (HSub.refl _) ?_
 rintro ⟨r,Hi⟩ ⟨hr,hJi⟩
 dsimp only at hr hJi ⊢
 simp only [List.cons_append,List.nil_append]
 refine W_seq (W_sr (W_move rfl rfl (W_bin rfl rfl b_neq rfl ?_)))
 refine W_nil ?_
 refine W_condPS (p:=r≠0) rfl (neqN r 0) (fun q0=>?_) (fun q0=>?_)
 ·skip
  refine W_skip (W_seq (W_block (W_sr (W_move rfl rfl (W_move rfl rfl (W_callp (.cons rfl .nil) Tryz.call452 rfl hT (tz_pure hr) ?_))))))
  refine W_yield rfl (.cons rfl .nil) rfl (hround r Hi q0 hr hJi) ?_
  rintro v H' ⟨Hi',hsub,⟨rfl,hJ'⟩ | ⟨rfl,hS'⟩⟩
  ·skip
   refine W_hsub hsub ?_
   refine W_not rfl rfl ?_
   refine W_nil (W_condF rfl rfl (W_skip (W_blk (W_region (W_move rfl rfl (W_move rfl rfl ?_))))))
   refine W_bin rfl rfl (b_sub (m:=((r-1:Nat):Int)) (by rw [u64w (by omega)]; omega)) rfl ?_
   refine W_bin rfl rfl (b_and (m:=((r &&& (r-1):Nat):Int)) (and64 hr zO)) rfl ?_
   refine W_assign rfl rfl (W_nil ?_)
   refine W_again (r &&& (r-1),Hi') ⟨by have:=and_lt q0; show r &&& (r-1)<_; omega,hJ'⟩ (and_lt q0) (sub_cons rfl (sub_cons rfl (sub_nil _))) rfl (HSub.refl _)
  ·skip
   refine W_hsub hsub ?_
   refine W_not rfl rfl ?_
   refine W_nil (W_condT rfl rfl (W_ret0m Tryz.results451 (.nil _) (.refl _) ?_))
   exact ⟨Hi',.refl _,.inr hS'⟩
 ·skip
  refine W_exit rfl ?_
  refine W_end0m Tryz.results451 (.nil _) (.refl _) ?_
  obtain rfl:r=0:=Classical.not_not.1 q0
  exact ⟨Hi,.refl _,.inl hJi⟩
theorem all_L {w0:World} {H:Heap} {m:Nat} :LCalls Tryz.prog w0 429 #[.int .u64 ((m:Nat):Int)] (H) (fun v H'=>∃ b1,v=.func (.func 451) #[] #[.pointer (some ⟨b1,0,none⟩)]∧H'=(b1,.cells 247 1 [.int .u64 (m:Int)])::H):=by
 refine L_enter (l:=[.int .u64 ((m:Nat):Int)]) Tryz.func429 rfl Tryz.ntmps429 rfl rfl ?_
 refine W_sr ?_
 refine W_box rfl rfl rfl (fun b1=>?_)
 refine W_assign rfl rfl (W_nil (W_sr (W_makeFunc .nil (.cons rfl .nil) rfl ?_)))
 refine W_assign rfl rfl (W_nil (W_ret1m Tryz.results429 rfl (.nil _) (.refl _) ?_))
 exact ⟨b1,rfl,rfl⟩
theorem nx_q {w0:World} {H:Heap} {bf:Nat} {f i:Int} (hb:(bf,.cells 3 1 [.int .i64 f])∈H) :PureAt Tryz.prog w0 H 396 [.int .i64 i,.pointer (some ⟨bf,0,none⟩)] (.bool (decide (f≤i))):=by
 refine L_enter Tryz.func396 rfl Tryz.ntmps396 rfl rfl ?_
 refine W_sr (W_assign rfl rfl (W_nil (W_sr (W_move rfl rfl (W_load (v:=.int .i64 f) rfl ty3 rfl (Cell.own hb rfl) rfl ?_)))))
 refine W_bin rfl rfl b_geq rfl ?_
 refine W_assign rfl rfl (W_nil (W_ret1m (H2:=H) Tryz.results396 rfl (.nil _) zH ?_))
 exact ⟨rfl,rfl⟩
theorem first_L {w0:World} {H:Heap} {m bf:Nat} {f:Int} (hT:Tab w0) (hm:m<18446744073709551616) :
  LCalls Tryz.prog w0 395 #[.int .u64 (m:Int),.func (.func 396) #[] #[.pointer (some ⟨bf,0,none⟩)]] ((bf,.cells 3 1 [.int .i64 f])::H) (fun v H'=>v=nextV m f∧H'=(bf,.cells 3 1 [.int .i64 f])::H):=by
 refine L_enter (l:=[.int .u64 (m:Int),.func (.func 396) #[] #[.pointer (some ⟨bf,0,none⟩)]]) Tryz.func395 rfl Tryz.ntmps395 rfl rfl ?_
 refine W_sr ?_
 refine W_box rfl rfl rfl (fun b3=>?_)
 refine W_alloc (l:=[.int .i64 0]) ty3 rfl rfl (fun b4=>?_)
 refine W_alloc (l:=[.bool false]) ty4 rfl rfl (fun b5=>?_)
 refine W_nil (W_seq (W_sr (W_move rfl rfl (W_call (.cons rfl .nil) Tryz.call429 rfl (all_L (m:=m)) ?_))))
 rintro v H' ⟨b1,rfl,rfl⟩
 refine W_nil (W_block (W_rangeFunc rfl Tryz.call451 ?_))
 intro lp D r hst hpd hps hasg hbody hA
 have hr:=loop_ready hst hpd
 show LCalls _ _ _ #[_,_] _ _
 refine ((bits_iter (b1:=b1) (m:=m) (H:=(lp,.obj (.loop r))::(D,.obj (.deferred (some [])))::(b5,.cells 4 1 [.bool false])::(b4,.cells 3 1 [.int .i64 0])::(b3,.cells 172 1 [.func (.func 396) #[] #[.pointer (some ⟨bf,0,none⟩)]])::(bf,.cells 3 1 [.int .i64 f])::H) hT (fun q Hi=>((∀ j,m.testBit j=true→q.testBit j=true∨(j:Int)<f)∧∀ j,q.testBit j=true→m.testBit j=true)∧Hi=(lp,.obj (.loop r))::(D,.obj (.deferred (some [])))::(b5,.cells 4 1 [.bool false])::(b4,.cells 3 1 [.int .i64 0])::(b3,.cells 172 1 [.func (.func 396) #[] #[.pointer (some ⟨bf,0,none⟩)]])::(bf,.cells 3 1 [.int .i64 f])::H) (fun Hi=>∃ i:Nat,nextN m f=some i∧Hi=(lp,.obj (.loop (Loop.at r .done (some .ret))))::(D,.obj (.deferred (some [])))::(b5,.cells 4 1 [.bool true])::(b4,.cells 3 1 [.int .i64 (i:Int)])::(b3,.cells 172 1 [.func (.func 396) #[] #[.pointer (some ⟨bf,0,none⟩)]])::(bf,.cells 3 1 [.int .i64 f])::H) hm ?_ ⟨⟨fun j hj=>.inl hj,fun j hj=>hj⟩,rfl⟩).hsub zH).mono ?_
 ·intro q Hi hq0 hq hJ
  obtain ⟨⟨hj1,hj2⟩,rfl⟩:=hJ
  obtain ⟨hk,hkb,hkl,hka⟩:=low_bit hq0 hq
  obtain ⟨k,hkk⟩:∃ k,k=Go.Lib.ctz 64 q:=⟨_,rfl⟩
  rw [← hkk] at hk hkb hkl hka ⊢
  refine round_intro hst hpd hA hps rfl hasg rfl rfl rfl zT ?_
  refine W_region (W_assign rfl rfl (W_nil (W_begin hst hpd zT hbody ?_)))
  refine W_block (W_sr (W_load (v:=.func (.func 396) #[] #[.pointer (some ⟨bf,0,none⟩)]) rfl ty172 rfl (Cell.own (b:=b3) zM rfl) rfl ?_))
  refine W_move rfl rfl (W_callqv (fa:=[]) (ca:=[.pointer (some ⟨bf,0,none⟩)]) rfl (.cons rfl .nil) rfl Tryz.call396 rfl (nx_q (bf:=bf) (f:=f) zM) ?_)
  refine W_nil ?_
  refine W_condPS (p:=f≤(k:Int)) rfl (by simp) (fun g0=>?_) (fun g0=>?_)
  ·skip
   refine W_sr (W_move rfl rfl (W_store (l':=[.int .i64 (k:Int)]) rfl rfl ty3 rfl rfl (b:=b4) zM rfl rfl zU ?_))
   refine W_store (l':=[.bool true]) rfl rfl ty4 rfl rfl (b:=b5) zM rfl rfl zU ?_
   refine W_nil (W_retround zT ?_)
   exact ⟨(lp,.obj (.loop (Loop.at r .done (some .ret))))::(D,.obj (.deferred (some [])))::(b5,.cells 4 1 [.bool true])::(b4,.cells 3 1 [.int .i64 (k:Int)])::(b3,.cells 172 1 [.func (.func 396) #[] #[.pointer (some ⟨bf,0,none⟩)]])::(bf,.cells 3 1 [.int .i64 f])::H,zH,.inr ⟨rfl,k,nextN_some hk (hj2 k hkb) g0 (fun j hj hb=>(hj1 j hb).elim (fun h=>by rw [hkl j hj] at h; cases h) id),rfl⟩⟩
   skip
  ·skip
   refine W_skip (W_blk (W_endround zT ?_))
   rw [hr]
   refine ⟨(lp,.obj (.loop r))::(D,.obj (.deferred (some [])))::(b5,.cells 4 1 [.bool false])::(b4,.cells 3 1 [.int .i64 0])::(b3,.cells 172 1 [.func (.func 396) #[] #[.pointer (some ⟨bf,0,none⟩)]])::(bf,.cells 3 1 [.int .i64 f])::H,zH,.inl ⟨rfl,⟨fun j hb=>?_,fun j hb=>hj2 j ?_⟩,rfl⟩⟩
   ·rcases hj1 j hb with h | h
    ·by_cases e:j=k
     ·subst e; exact .inr zO
     ·exact .inl (by rw [hka,h,decide_eq_true e]; rfl)
    ·exact .inr h
   ·rw [hka,Bool.and_eq_true] at hb; exact hb.1
 ·intro _ H' hp
  obtain ⟨Hi',hs,hJS⟩:=hp
  rcases hJS with ⟨⟨hj1,hj2⟩,rfl⟩ | ⟨i,hi,rfl⟩
  case inr =>
   refine ⟨.done,some .ret,(b1,.cells 247 1 [.int .u64 (m:Int)])::(D,.obj (.deferred (some [])))::(b5,.cells 4 1 [.bool true])::(b4,.cells 3 1 [.int .i64 (i:Int)])::(b3,.cells 172 1 [.func (.func 396) #[] #[.pointer (some ⟨bf,0,none⟩)]])::(bf,.cells 3 1 [.int .i64 f])::H,hs.trans zH,by decide,?_⟩
   show W _ _ _ _ _ _ _ _ _
   refine W_ret2G (H2:=(bf,.cells 3 1 [.int .i64 f])::H) Tryz.results395 (.cons zT (.nil _)) (.one rfl ty3 rfl (Cell.own (b:=b4) zM rfl)) (.one rfl ty4 rfl (Cell.own (b:=b5) zM rfl)) zH ?_
   exact ⟨by unfold nextV; rw [hi],rfl⟩
  refine ⟨.ready,none,(b1,.cells 247 1 [.int .u64 (m:Int)])::(D,.obj (.deferred (some [])))::(b5,.cells 4 1 [.bool false])::(b4,.cells 3 1 [.int .i64 0])::(b3,.cells 172 1 [.func (.func 396) #[] #[.pointer (some ⟨bf,0,none⟩)]])::(bf,.cells 3 1 [.int .i64 f])::H,by rw [hr]; exact hs.trans zH,by decide,?_⟩
  show W _ _ _ _ _ _ _ _ _
  refine W_blk (W_sr (W_store (l':=[.int .i64 0]) rfl rfl ty3 rfl rfl (b:=b4) zM rfl rfl zU ?_))
  refine W_store (l':=[.bool false]) rfl rfl ty4 rfl rfl (b:=b5) zM rfl rfl zU ?_
  refine W_nil (W_ret2G (H2:=(bf,.cells 3 1 [.int .i64 f])::H) Tryz.results395 (.cons zT (.nil _)) (.one rfl ty3 rfl (Cell.own (b:=b4) zM rfl)) (.one rfl ty4 rfl (Cell.own (b:=b5) zM rfl)) zH ?_)
  exact ⟨by unfold nextV; rw [nextN_none (fun j hb=>(hj1 j hb).resolve_left (by simp))],rfl⟩
theorem next_pure {m:Nat} {f:Int} (hm:m<18446744073709551616):Pure Tryz.prog (Tab) 334 [.int .u64 ((m:Nat):Int),.int .i64 f] (nextV m f):=by
 intro w0 H hT
 refine L_enter Tryz.func334 rfl Tryz.ntmps334 rfl rfl ?_
 refine W_sr ?_
 refine W_box rfl rfl rfl (fun b3=>?_)
 refine W_assign rfl rfl (W_assign rfl rfl (W_nil (W_sr (W_move rfl rfl (W_makeFunc .nil (.cons rfl .nil) rfl ?_)))))
 refine W_call (.cons rfl (.cons rfl .nil)) Tryz.call395 rfl ((first_L (m:=m) (bf:=b3) (f:=f) (H:=H) hT hm).hsub (.refl _)) ?_
 rintro v H' ⟨rfl,rfl⟩
 rcases hn:nextN m f with _ | i
 ·skip
  rw [show nextV m f=.tuple #[.int .i64 0,.bool false] from by unfold nextV; rw [hn]]
  refine W_extract rfl rfl rfl (W_extract rfl rfl rfl (W_assign rfl rfl (W_assign rfl rfl (W_nil (W_ret2m (H2:=H) Tryz.results334 rfl rfl (.nil _) zH ?_)))))
  exact ⟨rfl,rfl⟩
 ·skip
  rw [show nextV m f=.tuple #[.int .i64 (i:Int),.bool true] from by unfold nextV; rw [hn]]
  refine W_extract rfl rfl rfl (W_extract rfl rfl rfl (W_assign rfl rfl (W_assign rfl rfl (W_nil (W_ret2m (H2:=H) Tryz.results334 rfl rfl (.nil _) zH ?_)))))
  exact ⟨rfl,rfl⟩
theorem around_pure {m:Nat} {f:Int} (hm:m<18446744073709551616):Pure Tryz.prog (Tab) 335 [.int .u64 ((m:Nat):Int),.int .i64 f] (aroundV m f):=by
 intro w0 H hT
 refine L_enter Tryz.func335 rfl Tryz.ntmps335 rfl rfl ?_
 refine W_sr (W_assign rfl rfl (W_assign rfl rfl (W_nil (W_seq (W_sr (W_move rfl rfl (W_move rfl rfl (W_callp (.cons rfl (.cons rfl .nil)) Tryz.call334 rfl hT (next_pure (f:=f) hm) ?_))))))))
 rcases hn:nextN m f with _ | i
 ·skip
  rw [show nextV m f=.tuple #[.int .i64 0,.bool false] from by unfold nextV; rw [hn]]
  refine W_move rfl rfl (W_extract rfl rfl rfl (W_extract rfl rfl rfl (W_assign rfl rfl (W_assign rfl rfl (W_nil (W_sr (W_move rfl rfl (W_nil ?_))))))))
  refine W_condF rfl rfl (W_skip (W_sr (W_move rfl rfl (W_callp (.cons rfl (.cons rfl .nil)) Tryz.call334 rfl hT (next_pure (f:=0) hm) ?_))))
  rcases h0:nextN m 0 with _ | i
  ·skip
   rw [show nextV m 0=.tuple #[.int .i64 0,.bool false] from by unfold nextV; rw [h0]]
   refine W_extract rfl rfl rfl (W_extract rfl rfl rfl (W_assign rfl rfl (W_assign rfl rfl (W_nil (W_ret2m (H2:=H) Tryz.results335 rfl rfl (.nil _) zH ?_)))))
   exact ⟨by unfold aroundV aroundN; rw [hn,h0]; rfl,rfl⟩
  ·skip
   rw [show nextV m 0=.tuple #[.int .i64 (i:Int),.bool true] from by unfold nextV; rw [h0]]
   refine W_extract rfl rfl rfl (W_extract rfl rfl rfl (W_assign rfl rfl (W_assign rfl rfl (W_nil (W_ret2m (H2:=H) Tryz.results335 rfl rfl (.nil _) zH ?_)))))
   exact ⟨by unfold aroundV aroundN; rw [hn,h0]; rfl,rfl⟩
 ·skip
  rw [show nextV m f=.tuple #[.int .i64 (i:Int),.bool true] from by unfold nextV; rw [hn]]
  refine W_move rfl rfl (W_extract rfl rfl rfl (W_extract rfl rfl rfl (W_assign rfl rfl (W_assign rfl rfl (W_nil (W_sr (W_move rfl rfl (W_nil ?_))))))))
  refine W_condT rfl rfl (W_sr (W_move rfl rfl (W_assign rfl rfl (W_assign rfl rfl (W_nil (W_ret2m (H2:=H) Tryz.results335 rfl rfl (.nil _) zH ?_))))))
  exact ⟨by unfold aroundV aroundN; rw [hn]; rfl,rfl⟩
def rdC (p:Int × Int):List Value:=[.int .i64 p.1,.int .i64 p.2]
theorem rdC_len (p:Int × Int):(rdC p).length=2:=rfl
structure Sct where
 D:List (Int × Int)
 m:Nat
 st:Int
def scC (S:Sct):List Value:=S.D.flatMap rdC++[.int .u64 ((S.m:Nat):Int),.int .i64 S.st]
structure SctOk (S:Sct):Prop where
 len:S.D.length=64
 rng:∀ p∈S.D,0≤p.1∧p.1≤8∧0≤p.2∧p.2≤S.st
 m64:S.m<18446744073709551616
 bit:∀ i,S.m.testBit i=(match S.D[i]? with
  | some p=>decide (0<p.1)
  | none=>false)
theorem scC_rows {S:Sct} (h:S.D.length=64):(S.D.flatMap rdC).length=128:=by rw [rows_len rdC_len,h]
theorem scC_len {S:Sct} (h:S.D.length=64):(scC S).length=130:=by unfold scC; rw [List.length_append,scC_rows h]; rfl
theorem scC_m {S:Sct} (h:S.D.length=64):(scC S)[128]?=some (.int .u64 ((S.m:Nat):Int)):=by
 unfold scC
 rw [List.getElem?_append_right (by rw [scC_rows h]; exact Nat.le_refl _),scC_rows h]; rfl
theorem scC_st {S:Sct} (h:S.D.length=64):(scC S)[129]?=some (.int .i64 S.st):=by
 unfold scC
 rw [List.getElem?_append_right (by rw [scC_rows h]; decide),scC_rows h]; rfl
theorem sIn_q {w0:World} {H:Heap} {sb:Nat} {S:Sct} (hl:S.D.length=64) (hm:(sb,.cells 250 130 (scC S))∈H) :PureAt Tryz.prog w0 H 340 [.pointer (some ⟨sb,0,none⟩)] (.int .u64 ((S.m:Nat):Int)):=by
 refine L_enter Tryz.func340 rfl Tryz.ntmps340 rfl rfl ?_
 refine W_sr (W_assign rfl rfl (W_nil (W_seq (W_sr (W_move rfl rfl ?_)))))
 refine W_x (X_ptrNil rfl rfl ty135) (fun _ h=>by cases h) rfl ?_
 refine W_nil (W_condF rfl rfl (W_skip (W_sr (W_move rfl rfl (W_nilCheck rfl rfl (W_fieldAddr rfl fld250_1 zd rfl ?_))))))
 refine W_load (v:=.int .u64 ((S.m:Nat):Int)) rfl ty247 rfl (Cell.own (b:=sb) hm (scC_m hl)) rfl ?_
 refine W_assign rfl rfl (W_nil (W_ret1m (H2:=H) Tryz.results340 rfl (.nil _) zH ?_))
 exact ⟨rfl,rfl⟩
theorem sStamp_q {w0:World} {H:Heap} {sb:Nat} {S:Sct} (hl:S.D.length=64) (hm:(sb,.cells 250 130 (scC S))∈H) :PureAt Tryz.prog w0 H 341 [.pointer (some ⟨sb,0,none⟩)] (.int .i64 S.st):=by
 refine L_enter Tryz.func341 rfl Tryz.ntmps341 rfl rfl ?_
 refine W_sr (W_assign rfl rfl (W_nil (W_seq (W_sr (W_move rfl rfl ?_)))))
 refine W_x (X_ptrNil rfl rfl ty135) (fun _ h=>by cases h) rfl ?_
 refine W_nil (W_condF rfl rfl (W_skip (W_sr (W_move rfl rfl (W_nilCheck rfl rfl (W_fieldAddr rfl fld250_2 zd rfl ?_))))))
 refine W_load (v:=.int .i64 S.st) rfl ty3 rfl (Cell.own (b:=sb) hm (scC_st hl)) rfl ?_
 refine W_assign rfl rfl (W_nil (W_ret1m (H2:=H) Tryz.results341 rfl (.nil _) zH ?_))
 exact ⟨rfl,rfl⟩
def findS_ (sb:Nat) (r:Int):Value:=.tuple #[.pointer (if 0≤r∧r<64 then some ⟨sb,r.toNat*2,none⟩ else none),.int .i64 (if 0≤r∧r<64 then 0 else 2)]
theorem sfind_q {w0:World} {H:Heap} {sb:Nat} {r:Int} :PureAt Tryz.prog w0 H 140 [.pointer (some ⟨sb,0,none⟩),.int .i64 r] (findS_ sb r):=by
 refine L_enter Tryz.func140 rfl Tryz.ntmps140 rfl rfl ?_
 refine W_sr (W_assign rfl rfl (W_assign rfl rfl (W_nil (W_seq (W_block (W_sr (W_move rfl rfl ?_)))))))
 refine W_x (X_ptrNil rfl rfl ty135) (fun _ h=>by cases h) rfl ?_
 refine W_assign rfl rfl (W_nil (W_condF rfl rfl (W_sr (W_move rfl rfl ?_))))
 rcases (show r<0∨(¬ r<0∧64≤r)∨(¬ r<0∧¬ 64≤r) by omega) with hr | hr | hr
 ·skip
  refine W_bin rfl rfl b_lss rfl ?_
  first | rw [decide_eq_true (by omega)] | rw [decide_eq_false (by omega)]
  refine W_move rfl rfl (W_gno rfl rfl rfl ?_)
  refine W_gno rfl rfl rfl ?_
  first | refine W_pickt rfl rfl rfl ?_ | refine W_pickf rfl rfl rfl ?_
  refine W_assign rfl rfl (W_nil (W_condT rfl rfl (W_sr (W_assign rfl rfl (W_assign rfl rfl (W_nil (W_ret2m (H2:=H) Tryz.results140 rfl rfl (.nil _) zH ?_)))))))
  refine ⟨?_,rfl⟩
  unfold findS_
  rw [if_neg (by omega),if_neg (by omega)]
 ·skip
  refine W_bin rfl rfl b_lss rfl ?_
  first | rw [decide_eq_true (by omega)] | rw [decide_eq_false (by omega)]
  refine W_move rfl rfl (W_gyes rfl rfl (W_move rfl rfl (W_gyes rfl rfl (W_bin rfl rfl b_geq rfl ?_))))
  first | rw [decide_eq_true (by omega)] | rw [decide_eq_false (by omega)]
  first | refine W_pickt rfl rfl rfl ?_ | refine W_pickf rfl rfl rfl ?_
  refine W_assign rfl rfl (W_nil (W_condT rfl rfl (W_sr (W_assign rfl rfl (W_assign rfl rfl (W_nil (W_ret2m (H2:=H) Tryz.results140 rfl rfl (.nil _) zH ?_)))))))
  refine ⟨?_,rfl⟩
  unfold findS_
  rw [if_neg (by omega),if_neg (by omega)]
 ·skip
  obtain ⟨i,rfl⟩:∃ i:Nat,r=(i:Int):=⟨r.toNat,by omega⟩
  refine W_bin rfl rfl b_lss rfl ?_
  first | rw [decide_eq_true (by omega)] | rw [decide_eq_false (by omega)]
  refine W_move rfl rfl (W_gyes rfl rfl (W_move rfl rfl (W_gyes rfl rfl (W_bin rfl rfl b_geq rfl ?_))))
  first | rw [decide_eq_true (by omega)] | rw [decide_eq_false (by omega)]
  first | refine W_pickt rfl rfl rfl ?_ | refine W_pickf rfl rfl rfl ?_
  refine W_assign rfl rfl (W_nil (W_condF rfl rfl (W_skip (W_blk (W_sr (W_move rfl rfl (W_move rfl rfl ?_)))))))
  refine W_nilCheck rfl rfl (W_fieldAddr rfl fld250_0 zd rfl ?_)
  refine W_indexAddrA (j:=i) rfl rfl ty248 ty246 (by first | rfl | omega) (by first | decide | omega | simp) rfl rfl ?_
  refine W_assign rfl rfl (W_assign rfl rfl (W_nil (W_ret2m (H2:=H) Tryz.results140 rfl rfl (.nil _) zH ?_)))
  refine ⟨?_,rfl⟩
  unfold findS_
  rw [if_pos (by omega),if_pos (by omega),Int.toNat_natCast,Nat.zero_add]
def ofS (S:Sct) (r:Int):Int × Int:=if r<0∨64≤r then (0,0) else match S.D[r.toNat]? with
 | some p=>p
 | none=>(0,0)
theorem ofS_at {S:Sct} {i:Nat} {p:Int × Int} (h:i<64) (hp:S.D[i]?=some p):ofS S (i:Int)=p:=by
 unfold ofS; rw [if_neg (by omega),Int.toNat_natCast,hp]
theorem sof_q {w0:World} {H:Heap} {sb:Nat} {S:Sct} (hok:SctOk S) {r:Int} (hm:(sb,.cells 250 130 (scC S))∈H) :PureAt Tryz.prog w0 H 430 [.pointer (some ⟨sb,0,none⟩),.int .i64 r] (.agg (List.toArray (rdC (ofS S r)))):=by
 have hl:=hok.len
 refine L_enter Tryz.func430 rfl Tryz.ntmps430 rfl rfl ?_
 refine W_sr ?_
 refine W_alloc (l:=rdC (0,0)) ty246 rfl rfl (fun b4=>?_)
 refine W_nil (W_sr (W_move rfl rfl (W_move rfl rfl (W_callq (.cons rfl (.cons rfl .nil)) Tryz.call140 rfl sfind_q ?_))))
 rcases (show (r<0∨64≤r)∨(0≤r∧r<64) by omega) with hr | hr
 ·skip
  rw [show findS_ sb r=.tuple #[.pointer none,.int .i64 2] by unfold findS_; rw [if_neg (by omega),if_neg (by omega)]]
  refine W_move rfl rfl (W_extract rfl rfl rfl (W_extract rfl rfl rfl (W_assign rfl rfl (W_assign rfl rfl (W_nil (W_seq (W_sr (W_move rfl rfl (W_bin rfl rfl b_neq rfl ?_)))))))))
  refine W_nil (W_condT rfl rfl (W_sr (W_build (l:=rdC (0,0)) ty246 pl246 .nil rfl rfl rfl ?_)))
  refine W_storeA (l':=rdC (0,0)) rfl rfl ty246 rfl rfl (b:=b4) zM (by exact Nat.le_refl 2) rfl zU ?_
  refine W_nil (W_ret1cO (H2:=H) Tryz.results430 rfl (.nil _) ty246 rfl zM rfl zH ?_)
  exact ⟨by rw [show ofS S r=(0,0) from if_pos hr],rfl⟩
 ·skip
  obtain ⟨i,rfl⟩:∃ i:Nat,r=(i:Int):=⟨r.toNat,by omega⟩
  have hi:i<S.D.length:=by omega
  obtain ⟨p,hp⟩:∃ p,S.D[i]?=some p:=⟨_,List.getElem?_eq_getElem hi⟩
  have hpr:=hok.rng p (List.mem_of_getElem? hp)
  rw [show findS_ sb (i:Int)=.tuple #[.pointer (some ⟨sb,i*2,none⟩),.int .i64 0] by unfold findS_; rw [if_pos (by omega),if_pos (by omega),Int.toNat_natCast]]
  refine W_move rfl rfl (W_extract rfl rfl rfl (W_extract rfl rfl rfl (W_assign rfl rfl (W_assign rfl rfl (W_nil (W_seq (W_sr (W_move rfl rfl (W_bin rfl rfl b_neq rfl ?_)))))))))
  refine W_nil (W_condF rfl rfl (W_skip (W_sr (W_move rfl rfl (W_nilCheck rfl rfl ?_)))))
  refine W_loadB (vs:=rdC p) rfl ty246 rfl (b:=sb) (by repeat (first | exact hm | apply List.mem_cons_of_mem)) (by rw [Nat.ble_eq,scC_len hl]; omega) (by unfold scC; rw [List.drop_append_of_le_length (by rw [scC_rows hl]; omega),List.take_append_of_le_length (by rw [List.length_drop,scC_rows hl]; omega)]; exact rows_part (o:=0) (m:=2) rdC_len hp (by decide)) rfl ?_
  refine W_storeA (l':=rdC p) rfl rfl ty246 rfl rfl (b:=b4) zM (by exact Nat.le_refl 2) rfl zU ?_
  refine W_nil (W_ret1cO (H2:=H) Tryz.results430 rfl (.nil _) ty246 rfl zM rfl zH ?_)
  exact ⟨by rw [ofS_at (by omega) hp],rfl⟩
theorem sSince_q {w0:World} {H:Heap} {sb:Nat} {S:Sct} (hok:SctOk S) {r:Int} (hm:(sb,.cells 250 130 (scC S))∈H) :PureAt Tryz.prog w0 H 397 [.pointer (some ⟨sb,0,none⟩),.int .i64 r] (.int .i64 (ofS S r).2):=by
 refine L_enter Tryz.func397 rfl Tryz.ntmps397 rfl rfl ?_
 refine W_sr (W_assign rfl rfl (W_nil (W_sr (W_move rfl rfl (W_move rfl rfl (W_callq (.cons rfl (.cons rfl .nil)) Tryz.call430 rfl (sof_q hok hm) ?_))))))
 refine W_field rfl fld246_1 rfl rfl ?_
 refine W_assign rfl rfl (W_nil (W_ret1m (H2:=H) Tryz.results397 rfl (.nil _) zH ?_))
 exact ⟨rfl,rfl⟩
structure Cnt where
 n:Int
 top:Int
 stuck:Bool
def cnC (c:Cnt):List Value:=[.int .i64 c.n,.int .i64 c.top,.bool c.stuck]
def getC (c:Cnt):Cnt × Int:=if c.n=0 then (c,4) else if c.n=c.top then (⟨c.n,c.top,true⟩,13) else if c.stuck=true then (c,13) else (⟨c.n+1,c.top,c.stuck⟩,0)
def putC_ (c:Cnt):Cnt × Bool × Int:=if c.n=0 then (c,false,4) else if c.stuck=true then (c,false,0) else (⟨c.n-1,c.top,c.stuck⟩,decide (c.n-1=0),0)
theorem cout_q {w0:World} {H:Heap} {cb:Nat} {c:Cnt} (hm:(cb,.cells 398 3 (cnC c))∈H) :PureAt Tryz.prog w0 H 345 [.pointer (some ⟨cb,0,none⟩)] (.bool (decide (c.n=0))):=by
 refine L_enter Tryz.func345 rfl Tryz.ntmps345 rfl rfl ?_
 refine W_sr (W_assign rfl rfl (W_nil (W_sr (W_move rfl rfl (W_nilCheck rfl rfl (W_fieldAddr rfl fld396_0 zd rfl ?_))))))
 refine W_load (v:=.int .i64 c.n) rfl ty3 rfl (Cell.own (b:=cb) hm rfl) rfl ?_
 refine W_bin rfl rfl b_eql rfl ?_
 refine W_assign rfl rfl (W_nil (W_ret1m (H2:=H) Tryz.results345 rfl (.nil _) zH ?_))
 exact ⟨rfl,rfl⟩
theorem cfull_q {w0:World} {H:Heap} {cb:Nat} {c:Cnt} (hm:(cb,.cells 398 3 (cnC c))∈H) :PureAt Tryz.prog w0 H 402 [.pointer (some ⟨cb,0,none⟩)] (.bool (decide (c.n=c.top))):=by
 refine L_enter Tryz.func402 rfl Tryz.ntmps402 rfl rfl ?_
 refine W_sr (W_assign rfl rfl (W_nil (W_quietsr zk zK ?_)))
 refine WQ_x (X_move rfl) rfl (WQ_x (X_nilCheck rfl) rfl ?_)
 refine WQ_x (X_fieldAddr rfl fld396_0 zd) rfl ?_
 refine WQ_x (X_load (v:=.int .i64 c.n) rfl ty3 rfl (Cell.own (b:=cb) hm rfl)) rfl ?_
 refine WQ_x (X_move rfl) rfl (WQ_x (X_nilCheck rfl) rfl ?_)
 refine WQ_x (X_fieldAddr rfl fld396_1 zd) rfl ?_
 refine WQ_x (X_load (v:=.int .i64 c.top) rfl ty3 rfl (Cell.own (b:=cb) hm rfl)) rfl ?_
 refine WQ_x (X_bin rfl rfl b_eql) rfl ?_
 refine WQ_x (X_assign rfl) rfl ?_
 refine WQ_nil ?_
 refine W_ret1m (H2:=H) Tryz.results402 rfl (.nil _) zH ?_
 exact ⟨rfl,rfl⟩
theorem cValue_q {w0:World} {H:Heap} {cb:Nat} {c:Cnt} (hm:(cb,.cells 398 3 (cnC c))∈H) :PureAt Tryz.prog w0 H 169 [.pointer (some ⟨cb,0,none⟩)] (.int .i64 c.n):=by
 refine L_enter Tryz.func169 rfl Tryz.ntmps169 rfl rfl ?_
 refine W_sr (W_assign rfl rfl (W_nil (W_seq (W_sr (W_move rfl rfl ?_)))))
 refine W_x (X_ptrNil rfl rfl ty264) (fun _ h=>by cases h) rfl ?_
 refine W_nil (W_condF rfl rfl (W_skip (W_sr (W_move rfl rfl (W_nilCheck rfl rfl (W_fieldAddr rfl fld398_0 zd rfl ?_))))))
 refine W_fieldAddr rfl fld396_0 zd rfl ?_
 refine W_load (v:=.int .i64 c.n) rfl ty3 rfl (Cell.own (b:=cb) hm rfl) rfl ?_
 refine W_assign rfl rfl (W_nil (W_ret1m (H2:=H) Tryz.results169 rfl (.nil _) zH ?_))
 exact ⟨rfl,rfl⟩
theorem cValue_nil {w0:World} {H:Heap}  :PureAt Tryz.prog w0 H 169 [.pointer none] (.int .i64 0):=by
 refine L_enter Tryz.func169 rfl Tryz.ntmps169 rfl rfl ?_
 refine W_sr (W_assign rfl rfl (W_nil (W_seq (W_sr (W_move rfl rfl ?_)))))
 refine W_x (X_ptrNil rfl rfl ty264) (fun _ h=>by cases h) rfl ?_
 refine W_nil (W_condT rfl rfl (W_sr (W_assign rfl rfl (W_nil (W_ret1m (H2:=H) Tryz.results169 rfl (.nil _) zH ?_)))))
 exact ⟨rfl,rfl⟩
theorem cGet_L {w0:World} {H:Heap} {cb:Nat} {c:Cnt} (hr:0≤c.n∧c.n≤65535) :LCalls Tryz.prog w0 346 #[.pointer (some ⟨cb,0,none⟩)] ((cb,.cells 398 3 (cnC c))::H) (fun v H'=>v=.int .i64 (getC c).2∧H'=(cb,.cells 398 3 (cnC (getC c).1))::H):=by
 refine L_enter (l:=[.pointer (some ⟨cb,0,none⟩)]) Tryz.func346 rfl Tryz.ntmps346 rfl rfl ?_
 refine W_sr (W_assign rfl rfl (W_nil (W_seq (W_block (W_sr (W_move rfl rfl ?_))))))
 refine W_x (X_ptrNil rfl rfl ty264) (fun _ h=>by cases h) rfl ?_
 refine W_assign rfl rfl (W_nil (W_condF rfl rfl (W_sr (W_move rfl rfl (W_nilCheck rfl rfl (W_fieldAddr rfl fld398_0 zd rfl ?_))))))
 refine W_callq (.cons rfl .nil) Tryz.call345 rfl (cout_q (c:=c) zM) ?_
 refine W_assign rfl rfl (W_nil ?_)
 refine W_condPS (p:=c.n=0) rfl (by simp) (fun q0=>?_) (fun q0=>?_)
 ·skip
  refine W_sr (W_assign rfl rfl (W_nil (W_ret1m (H2:=(cb,.cells 398 3 (cnC c))::H) Tryz.results346 rfl (.nil _) zH ?_)))
  rw [show getC c=(c,4) from if_pos q0]
  exact ⟨rfl,rfl⟩
 ·skip
  refine W_sr (W_move rfl rfl (W_nilCheck rfl rfl (W_fieldAddr rfl fld398_0 zd rfl ?_)))
  refine W_callq (.cons rfl .nil) Tryz.call402 rfl (cfull_q (c:=c) zM) ?_
  refine W_assign rfl rfl (W_nil ?_)
  refine W_condPS (p:=c.n=c.top) rfl (by simp) (fun q1=>?_) (fun q1=>?_)
  ·skip
   refine W_region (W_move rfl rfl (W_nilCheck rfl rfl (W_fieldAddr rfl fld398_1 zd rfl ?_)))
   refine W_store (l':=cnC (Cnt.mk c.n c.top true)) rfl rfl ty4 rfl rfl (b:=cb) zM rfl rfl zU ?_
   refine W_nil (W_blk (W_seq (W_sr (W_move rfl rfl (W_nilCheck rfl rfl (W_fieldAddr rfl fld398_1 zd rfl ?_))))))
   refine W_load (v:=.bool true) rfl ty4 rfl (Cell.own (b:=cb) zM rfl) rfl ?_
   refine W_nil (W_condT rfl rfl (W_sr (W_assign rfl rfl (W_nil (W_ret1m (H2:=(cb,.cells 398 3 (cnC (Cnt.mk c.n c.top true)))::H) Tryz.results346 rfl (.nil _) zH ?_)))))
   rw [show getC c=(⟨c.n,c.top,true⟩,13) by unfold getC; rw [if_neg q0,if_pos q1]]
   exact ⟨rfl,rfl⟩
  ·skip
   refine W_skip (W_blk (W_seq (W_sr (W_move rfl rfl (W_nilCheck rfl rfl (W_fieldAddr rfl fld398_1 zd rfl ?_))))))
   refine W_load (v:=.bool c.stuck) rfl ty4 rfl (Cell.own (b:=cb) zM rfl) rfl ?_
   refine W_nil ?_
   refine W_condPS (p:=c.stuck=true) rfl .rfl (fun q2=>?_) (fun q2=>?_)
   ·skip
    refine W_sr (W_assign rfl rfl (W_nil (W_ret1m (H2:=(cb,.cells 398 3 (cnC c))::H) Tryz.results346 rfl (.nil _) zH ?_)))
    rw [show getC c=(c,13) by unfold getC; rw [if_neg q0,if_neg q1,if_pos q2]]
    exact ⟨rfl,rfl⟩
   ·skip
    refine W_skip (W_sr (W_move rfl rfl (W_nilCheck rfl rfl (W_fieldAddr rfl fld398_0 zd rfl ?_))))
    refine W_fieldAddr rfl fld396_0 zd rfl ?_
    refine W_load (v:=.int .i64 c.n) rfl ty3 rfl (Cell.own (b:=cb) zM rfl) rfl ?_
    refine W_bin rfl rfl (b_add (m:=c.n+1) (i64w zO)) rfl ?_
    refine W_nilCheck rfl rfl (W_fieldAddr rfl fld398_0 zd rfl ?_)
    refine W_fieldAddr rfl fld396_0 zd rfl ?_
    refine W_store (l':=cnC (Cnt.mk (c.n+1) c.top c.stuck)) rfl rfl ty3 rfl rfl (b:=cb) zM rfl rfl zU ?_
    refine W_nil (W_sr (W_assign rfl rfl (W_nil (W_ret1m (H2:=(cb,.cells 398 3 (cnC (Cnt.mk (c.n+1) c.top c.stuck)))::H) Tryz.results346 rfl (.nil _) zH ?_))))
    rw [show getC c=(⟨c.n+1,c.top,c.stuck⟩,0) by unfold getC; rw [if_neg q0,if_neg q1,if_neg q2]]
    exact ⟨rfl,rfl⟩
theorem cPut_L {w0:World} {H:Heap} {cb:Nat} {c:Cnt} (hr:0≤c.n∧c.n≤65535) :LCalls Tryz.prog w0 256 #[.pointer (some ⟨cb,0,none⟩)] ((cb,.cells 398 3 (cnC c))::H) (fun v H'=>v=.tuple #[.bool (putC_ c).2.1,.int .i64 (putC_ c).2.2]∧H'=(cb,.cells 398 3 (cnC (putC_ c).1))::H):=by
 refine L_enter (l:=[.pointer (some ⟨cb,0,none⟩)]) Tryz.func256 rfl Tryz.ntmps256 rfl rfl ?_
 refine W_sr (W_assign rfl rfl (W_assign rfl rfl (W_nil (W_seq (W_block (W_sr (W_move rfl rfl ?_)))))))
 refine W_x (X_ptrNil rfl rfl ty264) (fun _ h=>by cases h) rfl ?_
 refine W_assign rfl rfl (W_nil (W_condF rfl rfl (W_sr (W_move rfl rfl (W_nilCheck rfl rfl (W_fieldAddr rfl fld398_0 zd rfl ?_))))))
 refine W_callq (.cons rfl .nil) Tryz.call345 rfl (cout_q (c:=c) zM) ?_
 refine W_assign rfl rfl (W_nil ?_)
 refine W_condPS (p:=c.n=0) rfl (by simp) (fun q0=>?_) (fun q0=>?_)
 ·skip
  refine W_sr (W_assign rfl rfl (W_assign rfl rfl (W_nil (W_ret2m (H2:=(cb,.cells 398 3 (cnC c))::H) Tryz.results256 rfl rfl (.nil _) zH ?_))))
  rw [show putC_ c=(c,false,4) from if_pos q0]
  exact ⟨rfl,rfl⟩
 ·skip
  refine W_sr (W_move rfl rfl (W_nilCheck rfl rfl (W_fieldAddr rfl fld398_1 zd rfl ?_)))
  refine W_load (v:=.bool c.stuck) rfl ty4 rfl (Cell.own (b:=cb) zM rfl) rfl ?_
  refine W_assign rfl rfl (W_nil ?_)
  refine W_condPS (p:=c.stuck=true) rfl .rfl (fun q1=>?_) (fun q1=>?_)
  ·skip
   refine W_sr (W_assign rfl rfl (W_assign rfl rfl (W_nil (W_ret2m (H2:=(cb,.cells 398 3 (cnC c))::H) Tryz.results256 rfl rfl (.nil _) zH ?_))))
   rw [show putC_ c=(c,false,0) by unfold putC_; rw [if_neg q0,if_pos q1]]
   exact ⟨rfl,rfl⟩
  ·skip
   refine W_skip (W_blk (W_sr (W_move rfl rfl (W_nilCheck rfl rfl (W_fieldAddr rfl fld398_0 zd rfl ?_)))))
   refine W_fieldAddr rfl fld396_0 zd rfl ?_
   refine W_load (v:=.int .i64 c.n) rfl ty3 rfl (Cell.own (b:=cb) zM rfl) rfl ?_
   refine W_bin rfl rfl (b_sub (m:=c.n-1) (i64w zO)) rfl ?_
   refine W_nilCheck rfl rfl (W_fieldAddr rfl fld398_0 zd rfl ?_)
   refine W_fieldAddr rfl fld396_0 zd rfl ?_
   refine W_store (l':=cnC (Cnt.mk (c.n-1) c.top c.stuck)) rfl rfl ty3 rfl rfl (b:=cb) zM rfl rfl zU ?_
   refine W_nil (W_sr (W_move rfl rfl (W_nilCheck rfl rfl (W_fieldAddr rfl fld398_0 zd rfl ?_))))
   refine W_callq (.cons rfl .nil) Tryz.call345 rfl (cout_q (c:=(Cnt.mk (c.n-1) c.top c.stuck)) zM) ?_
   refine W_assign rfl rfl (W_assign rfl rfl (W_nil (W_ret2m (H2:=(cb,.cells 398 3 (cnC (Cnt.mk (c.n-1) c.top c.stuck)))::H) Tryz.results256 rfl rfl (.nil _) zH ?_)))
   rw [show putC_ c=(⟨c.n-1,c.top,c.stuck⟩,decide (c.n-1=0),0) by unfold putC_; rw [if_neg q0,if_neg q1]]
   exact ⟨rfl,rfl⟩
structure Rfe where
 key:Int
 cb:Nat
 clk:Nat
 c:Cnt
def Rfe.ent (e:Rfe):Int × Value × Nat:=(e.key,.pointer (some ⟨e.cb,0,none⟩),e.clk)
def Rfe.blk (e:Rfe):Nat × Blk:=(e.cb,.cells 398 3 (cnC e.c))
inductive RefH (rb:Nat) (top:Int) (R:List (Int × Cnt)):Heap→Prop
 | mk {mb cl:Nat} {E:List Rfe} (hok:MapOk (E.map Rfe.ent) cl) (hR:E.map (fun e=>(e.key,e.c))=R):RefH rb top R ((rb,.cells 304 2 [.int .i64 top,.map (some mb)])::(mb,.obj (mapO (Value.int .i64) (E.map Rfe.ent) cl))::E.map Rfe.blk)
def fndR (E:List Rfe) (k:Int):Option Rfe:=E.find? (fun e=>decide (k=e.key))
theorem fndR_get (E:List Rfe) (k:Int):mGet (E.map Rfe.ent) k=(fndR E k).map (fun e=>Value.pointer (some ⟨e.cb,0,none⟩)):=by
 unfold mGet fndR
 rw [List.find?_map,Option.map_map]
 rfl
theorem fndR_mem {E:List Rfe} {k:Int} {e:Rfe} (h:fndR E k=some e):e∈E∧e.key=k:=by
 unfold fndR at h
 have:=List.find?_some h
 exact ⟨List.mem_of_find?_eq_some h,(of_decide_eq_true this).symm⟩
theorem fndR_val (E:List Rfe) (k:Int):(mGet (E.map Rfe.ent) k).getD (.pointer none)=.pointer ((fndR E k).map fun e=>⟨e.cb,0,none⟩):=by
 rw [fndR_get]
 cases fndR E k <;> rfl
theorem kkI:KeyKind Tryz.prog 3 (Value.int .i64):=intKeys zk
theorem rfind_q {w0:World} {H:Heap} {rb mb cl:Nat} {top k:Int} {E:List Rfe} (hm1:(rb,.cells 304 2 [.int .i64 top,.map (some mb)])∈H) (hm2:(mb,.obj (mapO (Value.int .i64) (E.map Rfe.ent) cl))∈H) :PureAt Tryz.prog w0 H 168 [.pointer (some ⟨rb,0,none⟩),.int .i64 k] (.pointer ((fndR E k).map fun e=>⟨e.cb,0,none⟩)):=by
 refine L_enter Tryz.func168 rfl Tryz.ntmps168 rfl rfl ?_
 refine W_sr (W_assign rfl rfl (W_nil (W_seq (W_sr (W_move rfl rfl ?_)))))
 refine W_x (X_ptrNil rfl rfl ty131) (fun _ h=>by cases h) rfl ?_
 refine W_nil (W_condF rfl rfl (W_skip (W_sr (W_move rfl rfl (W_nilCheck rfl rfl (W_fieldAddr rfl fld304_1 zd rfl ?_))))))
 refine W_load (v:=.map (some mb)) rfl ty302 rfl (Cell.own (b:=rb) hm1 rfl) rfl ?_
 refine W_move rfl rfl ?_
 refine W_lookup (l:=E.map Rfe.ent) (cl:=cl) (a:=k) (kf:=(Value.int .i64)) (b:=mb) (zE:=.pointer none) rfl rfl kkI ty302 (fun w=>by kernel_rfl) hm2 rfl ?_
 simp only [Bool.false_eq_true,if_false]
 rw [fndR_val]
 refine W_assign rfl rfl (W_nil (W_ret1m (H2:=H) Tryz.results168 rfl (.nil _) zH ?_))
 exact ⟨rfl,rfl⟩
theorem cNew_L {w0:World} {H:Heap} {top:Int} (ht:1≤top∧top≤65535) :LCalls Tryz.prog w0 347 #[.int .i64 1,.int .i64 top] (H) (fun v H'=>∃ cb,v=.tuple #[.pointer (some ⟨cb,0,none⟩),.int .i64 0]∧H'=(cb,.cells 398 3 (cnC ⟨1,top,false⟩))::H):=by
 refine L_enter (l:=[.int .i64 1,.int .i64 top]) Tryz.func347 rfl Tryz.ntmps347 rfl rfl ?_
 refine W_sr (W_assign rfl rfl (W_assign rfl rfl (W_nil (W_seq (W_sr (W_move rfl rfl (W_bin rfl rfl b_lss rfl ?_)))))))
 first | rw [decide_eq_true (by omega)] | rw [decide_eq_false (by omega)]
 refine W_move rfl rfl (W_gyes rfl rfl (W_move rfl rfl (W_gyes rfl rfl (W_bin rfl rfl b_gtr rfl ?_))))
 first | rw [decide_eq_true (by omega)] | rw [decide_eq_false (by omega)]
 first | refine W_pickt rfl rfl rfl ?_ | refine W_pickf rfl rfl rfl ?_
 refine W_move rfl rfl (W_gyes rfl rfl (W_move rfl rfl (W_gyes rfl rfl (W_bin rfl rfl b_lss rfl ?_))))
 first | rw [decide_eq_true (by omega)] | rw [decide_eq_false (by omega)]
 first | refine W_pickt rfl rfl rfl ?_ | refine W_pickf rfl rfl rfl ?_
 refine W_move rfl rfl (W_gyes rfl rfl (W_move rfl rfl (W_gyes rfl rfl (W_move rfl rfl (W_gyes rfl rfl (W_bin rfl rfl b_gtr rfl ?_))))))
 first | rw [decide_eq_true (by omega)] | rw [decide_eq_false (by omega)]
 first | refine W_pickt rfl rfl rfl ?_ | refine W_pickf rfl rfl rfl ?_
 refine W_nil (W_condF rfl rfl (W_skip (W_sr (W_move rfl rfl (W_move rfl rfl (W_build (l:=[.int .i64 1,.int .i64 top]) ty396 pl396 (.cons rfl rfl rfl rfl rfl (.cons rfl rfl rfl rfl rfl .nil)) rfl rfl rfl ?_))))))
 refine W_build (l:=cnC ⟨1,top,false⟩) ty398 pl398 (.cons rfl rfl rfl rfl rfl .nil) rfl rfl rfl ?_
 refine W_box (l:=cnC ⟨1,top,false⟩) rfl rfl rfl (fun b25=>?_)
 refine W_assign rfl rfl (W_assign rfl rfl (W_nil (W_ret2m Tryz.results347 rfl rfl (.nil _) (.refl _) ?_)))
 exact ⟨b25,rfl,rfl⟩
theorem rhold_some {w0:World} {H:Heap} {rb mb cl:Nat} {top k:Int} {E1 E2:List Rfe} {e:Rfe} {HA HB:Heap} (hf:fndR (E1++e::E2) k=some e) (hr:0≤e.c.n∧e.c.n≤65535) :LCalls Tryz.prog w0 259 #[.pointer (some ⟨rb,0,none⟩),.int .i64 k] ((rb,.cells 304 2 [.int .i64 top,.map (some mb)])::(mb,.obj (mapO (Value.int .i64) ((E1++e::E2).map Rfe.ent) cl))::(HA++((e.cb,.cells 398 3 (cnC e.c))::HB))) (fun v H'=>v=.int .i64 (getC e.c).2∧H'=(rb,.cells 304 2 [.int .i64 top,.map (some mb)])::(mb,.obj (mapO (Value.int .i64) ((E1++e::E2).map Rfe.ent) cl))::(HA++((e.cb,.cells 398 3 (cnC (getC e.c).1))::HB))):=by
 refine L_enter (l:=[.pointer (some ⟨rb,0,none⟩),.int .i64 k]) Tryz.func259 rfl Tryz.ntmps259 rfl rfl ?_
 refine W_sr (W_assign rfl rfl (W_nil (W_seq (W_sr (W_move rfl rfl (W_move rfl rfl (W_callq (.cons rfl (.cons rfl .nil)) Tryz.call168 rfl (rfind_q (E:=(E1++e::E2)) zM zM) ?_)))))))
 rw [hf,show (Option.map (fun e:Rfe=>(⟨e.cb,0,none⟩:Addr)) (some e))=some ⟨e.cb,0,none⟩ from rfl]
 refine W_assign rfl rfl (W_nil (W_sr (W_move rfl rfl ?_)))
 refine W_x (X_ptrNotNil rfl rfl ty264) (fun _ h=>by cases h) rfl ?_
 refine W_nil (W_condT rfl rfl (W_sr (W_move rfl rfl (W_call (.cons rfl .nil) Tryz.call346 rfl (LCalls.hsub (cGet_L (cb:=e.cb) (c:=e.c) hr (H:=(rb,.cells 304 2 [.int .i64 top,.map (some mb)])::(mb,.obj (mapO (Value.int .i64) ((E1++e::E2).map Rfe.ent) cl))::(HA++HB))) zH) ?_))))
 rintro v H' ⟨rfl,rfl⟩
 refine W_assign rfl rfl (W_nil (W_ret1m (H2:=(rb,.cells 304 2 [.int .i64 top,.map (some mb)])::(mb,.obj (mapO (Value.int .i64) ((E1++e::E2).map Rfe.ent) cl))::(HA++((e.cb,.cells 398 3 (cnC (getC e.c).1))::HB))) Tryz.results259 rfl (.nil _) zH ?_))
 exact ⟨rfl,rfl⟩
theorem rhold_none {w0:World} {H:Heap} {rb mb cl:Nat} {top k:Int} {E:List Rfe} {HA HB:Heap} (hf:fndR E k=none) (ht:1≤top∧top≤65535) (hok:MapOk (E.map Rfe.ent) cl) (hl:E.length≠64) :LCalls Tryz.prog w0 259 #[.pointer (some ⟨rb,0,none⟩),.int .i64 k] ((rb,.cells 304 2 [.int .i64 top,.map (some mb)])::(mb,.obj (mapO (Value.int .i64) (E.map Rfe.ent) cl))::(HA++HB)) (fun v H'=>∃ cb,v=.int .i64 0∧H'=(rb,.cells 304 2 [.int .i64 top,.map (some mb)])::(mb,.obj (mapO (Value.int .i64) (mPut (E.map Rfe.ent) cl k (.pointer (some ⟨cb,0,none⟩))) (mClk (E.map Rfe.ent) cl k)))::(HA++((cb,.cells 398 3 (cnC ⟨1,top,false⟩))::HB))):=by
 refine L_enter (l:=[.pointer (some ⟨rb,0,none⟩),.int .i64 k]) Tryz.func259 rfl Tryz.ntmps259 rfl rfl ?_
 refine W_sr (W_assign rfl rfl (W_nil (W_seq (W_sr (W_move rfl rfl (W_move rfl rfl (W_callq (.cons rfl (.cons rfl .nil)) Tryz.call168 rfl (rfind_q (E:=E) zM zM) ?_)))))))
 rw [hf,show (Option.map (fun e:Rfe=>(⟨e.cb,0,none⟩:Addr)) none)=none from rfl]
 refine W_assign rfl rfl (W_nil (W_sr (W_move rfl rfl ?_)))
 refine W_x (X_ptrNotNil rfl rfl ty264) (fun _ h=>by cases h) rfl ?_
 refine W_nil (W_condF rfl rfl (W_skip (W_seq (W_sr (W_move rfl rfl (W_nilCheck rfl rfl (W_fieldAddr rfl fld304_1 zd rfl ?_)))))))
 refine W_load (v:=.map (some mb)) rfl ty302 rfl (Cell.own (b:=rb) zM rfl) rfl ?_
 refine W_lenMap (l:=E.map Rfe.ent) (cl:=cl) (kf:=(Value.int .i64)) (b:=mb) rfl ty302 zM rfl ?_
 refine W_bin rfl rfl b_eql rfl ?_
 refine W_nil ?_
 refine W_condF rfl (decide_eq_false (by rw [List.length_map]; omega)) ?_
 refine W_skip (W_sr (W_move rfl rfl (W_nilCheck rfl rfl (W_fieldAddr rfl fld304_0 zd rfl ?_))))
 refine W_load (v:=.int .i64 top) rfl ty3 rfl (Cell.own (b:=rb) zM rfl) rfl ?_
 refine W_call (.cons rfl (.cons rfl .nil)) Tryz.call347 rfl (LCalls.hsub (cNew_L ht (H:=(rb,.cells 304 2 [.int .i64 top,.map (some mb)])::(mb,.obj (mapO (Value.int .i64) (E.map Rfe.ent) cl))::(HA++HB))) zH) ?_
 rintro v H' ⟨cb,rfl,rfl⟩
 refine W_move rfl rfl (W_extract rfl rfl rfl (W_extract rfl rfl rfl (W_assign rfl rfl (W_assign rfl rfl (W_nil (W_seq (W_sr (W_move rfl rfl (W_bin rfl rfl b_eql rfl ?_)))))))))
 refine W_nil (W_condT rfl rfl (W_region (W_move rfl rfl (W_nilCheck rfl rfl (W_fieldAddr rfl fld304_1 zd rfl ?_)))))
 refine W_load (v:=.map (some mb)) rfl ty302 rfl (Cell.own (b:=rb) zM rfl) rfl ?_
 refine W_move rfl rfl (W_move rfl rfl (W_mapUpdate (a:=k) (l:=E.map Rfe.ent) (cl:=cl) (kf:=(Value.int .i64)) (b:=mb) rfl rfl rfl kkI ty302 hok zU ?_))
 refine W_nil (W_sr (W_move rfl rfl (W_assign rfl rfl (W_nil (W_ret1m (H2:=(rb,.cells 304 2 [.int .i64 top,.map (some mb)])::(mb,.obj (mapO (Value.int .i64) (mPut (E.map Rfe.ent) cl k (.pointer (some ⟨cb,0,none⟩))) (mClk (E.map Rfe.ent) cl k)))::(HA++((cb,.cells 398 3 (cnC ⟨1,top,false⟩))::HB))) Tryz.results259 rfl (.nil _) zH ?_)))))
 exact ⟨cb,rfl,rfl⟩
theorem rdrop_some {w0:World} {H:Heap} {rb mb cl:Nat} {top k:Int} {E1 E2:List Rfe} {e:Rfe} {HA HB:Heap} (hf:fndR (E1++e::E2) k=some e) (hr:0≤e.c.n∧e.c.n≤65535) (hok:MapOk ((E1++e::E2).map Rfe.ent) cl) :LCalls Tryz.prog w0 160 #[.pointer (some ⟨rb,0,none⟩),.int .i64 k] ((rb,.cells 304 2 [.int .i64 top,.map (some mb)])::(mb,.obj (mapO (Value.int .i64) ((E1++e::E2).map Rfe.ent) cl))::(HA++((e.cb,.cells 398 3 (cnC e.c))::HB))) (fun v H'=>v=.tuple #[.bool (putC_ e.c).2.1,.int .i64 (putC_ e.c).2.2]∧H'=if (putC_ e.c).2.1=true then (rb,.cells 304 2 [.int .i64 top,.map (some mb)])::(mb,.obj (mapO (Value.int .i64) (mDel ((E1++e::E2).map Rfe.ent) k) cl))::(HA++HB) else (rb,.cells 304 2 [.int .i64 top,.map (some mb)])::(mb,.obj (mapO (Value.int .i64) ((E1++e::E2).map Rfe.ent) cl))::(HA++((e.cb,.cells 398 3 (cnC (putC_ e.c).1))::HB))):=by
 refine L_enter (l:=[.pointer (some ⟨rb,0,none⟩),.int .i64 k]) Tryz.func160 rfl Tryz.ntmps160 rfl rfl ?_
 refine W_sr (W_assign rfl rfl (W_assign rfl rfl (W_nil (W_seq (W_sr (W_move rfl rfl ?_))))))
 refine W_x (X_ptrNil rfl rfl ty131) (fun _ h=>by cases h) rfl ?_
 refine W_nil (W_condF rfl rfl (W_skip (W_sr (W_move rfl rfl (W_move rfl rfl (W_callq (.cons rfl (.cons rfl .nil)) Tryz.call168 rfl (rfind_q (E:=(E1++e::E2)) zM zM) ?_))))))
 rw [hf,show (Option.map (fun e:Rfe=>(⟨e.cb,0,none⟩:Addr)) (some e))=some ⟨e.cb,0,none⟩ from rfl]
 refine W_assign rfl rfl (W_nil (W_seq (W_sr (W_move rfl rfl ?_))))
 refine W_x (X_ptrNil rfl rfl ty264) (fun _ h=>by cases h) rfl ?_
 refine W_nil (W_condF rfl rfl (W_skip (W_sr (W_move rfl rfl (W_call (.cons rfl .nil) Tryz.call256 rfl (LCalls.hsub (cPut_L (cb:=e.cb) (c:=e.c) hr (H:=(rb,.cells 304 2 [.int .i64 top,.map (some mb)])::(mb,.obj (mapO (Value.int .i64) ((E1++e::E2).map Rfe.ent) cl))::(HA++HB))) zH) ?_)))))
 rintro v H' ⟨rfl,rfl⟩
 rcases hlast:(putC_ e.c).2.1 with _ | _
 ·skip
  refine W_move rfl rfl (W_extract rfl rfl rfl (W_extract rfl rfl rfl (W_assign rfl rfl (W_assign rfl rfl (W_nil (W_seq (W_sr (W_move rfl rfl (W_nil ?_)))))))))
  refine W_condF rfl rfl (W_skip (W_sr (W_move rfl rfl (W_move rfl rfl (W_assign rfl rfl (W_assign rfl rfl (W_nil (W_ret2m (H2:=(rb,.cells 304 2 [.int .i64 top,.map (some mb)])::(mb,.obj (mapO (Value.int .i64) ((E1++e::E2).map Rfe.ent) cl))::(HA++((e.cb,.cells 398 3 (cnC (putC_ e.c).1))::HB))) Tryz.results160 rfl rfl (.nil _) zH ?_))))))))
  exact ⟨rfl,(if_neg zd).symm⟩
 ·skip
  refine W_move rfl rfl (W_extract rfl rfl rfl (W_extract rfl rfl rfl (W_assign rfl rfl (W_assign rfl rfl (W_nil (W_seq (W_sr (W_move rfl rfl (W_nil ?_)))))))))
  refine W_condT rfl rfl (W_region (W_move rfl rfl (W_nilCheck rfl rfl (W_fieldAddr rfl fld304_1 zd rfl ?_))))
  refine W_load (v:=.map (some mb)) rfl ty302 rfl (Cell.own (b:=rb) zM rfl) rfl ?_
  refine W_move rfl rfl (W_delete (a:=k) (l:=(E1++e::E2).map Rfe.ent) (cl:=cl) (kf:=(Value.int .i64)) (b:=mb) rfl rfl kkI ty302 hok zU rfl ?_)
  refine W_nil (W_sr (W_move rfl rfl (W_move rfl rfl (W_assign rfl rfl (W_assign rfl rfl (W_nil (W_ret2m (H2:=(rb,.cells 304 2 [.int .i64 top,.map (some mb)])::(mb,.obj (mapO (Value.int .i64) (mDel ((E1++e::E2).map Rfe.ent) k) cl))::(HA++HB)) Tryz.results160 rfl rfl (.nil _) zH ?_)))))))
  exact ⟨rfl,(if_pos rfl).symm⟩
theorem rdrop_none {w0:World} {H:Heap} {rb mb cl:Nat} {top k:Int} {E:List Rfe} {HX:Heap} (hf:fndR E k=none) :LCalls Tryz.prog w0 160 #[.pointer (some ⟨rb,0,none⟩),.int .i64 k] ((rb,.cells 304 2 [.int .i64 top,.map (some mb)])::(mb,.obj (mapO (Value.int .i64) (E.map Rfe.ent) cl))::HX) (fun v H'=>v=.tuple #[.bool false,.int .i64 4]∧H'=(rb,.cells 304 2 [.int .i64 top,.map (some mb)])::(mb,.obj (mapO (Value.int .i64) (E.map Rfe.ent) cl))::HX):=by
 refine L_enter (l:=[.pointer (some ⟨rb,0,none⟩),.int .i64 k]) Tryz.func160 rfl Tryz.ntmps160 rfl rfl ?_
 refine W_sr (W_assign rfl rfl (W_assign rfl rfl (W_nil (W_seq (W_sr (W_move rfl rfl ?_))))))
 refine W_x (X_ptrNil rfl rfl ty131) (fun _ h=>by cases h) rfl ?_
 refine W_nil (W_condF rfl rfl (W_skip (W_sr (W_move rfl rfl (W_move rfl rfl (W_callq (.cons rfl (.cons rfl .nil)) Tryz.call168 rfl (rfind_q (E:=E) zM zM) ?_))))))
 rw [hf,show (Option.map (fun e:Rfe=>(⟨e.cb,0,none⟩:Addr)) none)=none from rfl]
 refine W_assign rfl rfl (W_nil (W_seq (W_sr (W_move rfl rfl ?_))))
 refine W_x (X_ptrNil rfl rfl ty264) (fun _ h=>by cases h) rfl ?_
 refine W_nil (W_condT rfl rfl (W_sr (W_assign rfl rfl (W_assign rfl rfl (W_nil (W_ret2m Tryz.results160 rfl rfl (.nil _) (.refl _) ?_))))))
 exact ⟨rfl,rfl⟩
end Go.Proofs.YtincjohoncljoaaGreatDoor
