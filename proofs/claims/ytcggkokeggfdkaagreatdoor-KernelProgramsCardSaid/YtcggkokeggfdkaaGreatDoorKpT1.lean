/-
  Own work: contracts of functions that the statement reaches, and plain facts on what they compute; each theorem says its conditions.
-/
import Derived.Test.YtcggkokeggfdkaaGreatDoorProg
import Derived.Test.YtcggkokeggfdkaaGreatDoorKpS1
import Derived.Test.YtcggkokeggfdkaaGreatDoorKpS2
import Derived.Test.YtcggkokeggfdkaaGreatDoorKpS4
import Derived.WalkSmall
import Derived.Test.YtcggkokeggfdkaaGreatDoorShelf
import Derived.Test.YtcggkokeggfdkaaGreatDoorCards
import Derived.LaidByTextLater
import Derived.SevenTiedAt
import Derived.Lib.LaidTab
import Derived.Lib.LaidIn
import Derived.Lib.TrailingZeros
import Derived.Stop.LaidErr
import Derived.IntWalk
import Derived.ChangeKeysEq
import Derived.Test.YtcggkokeggfdkaaGreatDoorKpA
set_option linter.all false
set_option linter.unusedSimpArgs false
set_option linter.unusedVariables false
set_option maxHeartbeats 16000000
namespace Go.Proofs.YtcggkokeggfdkaaGreatDoor
open Go Go.Sl
set_option maxRecDepth 100000
theorem ty3:Ty Tryz.prog 3 (.int .i64) 1 (zi 0) 8:=⟨by kernel_rfl,Tryz.t3,by kernel_rfl,rfl,rfl,rfl⟩
theorem ty4:Ty Tryz.prog 4 Go.TypeDesc.bool 1 (.bool false) 1:=⟨by kernel_rfl,Tryz.t4,by kernel_rfl,rfl,rfl,rfl⟩
theorem ty5:Ty Tryz.prog 5 (.int .u8) 1 (.int .u8 0) 1:=⟨by kernel_rfl,Tryz.t5,by kernel_rfl,rfl,rfl,rfl⟩
theorem ty9:Ty Tryz.prog 9 Go.TypeDesc.string 1 (.string (ByteArray.mk #[])) 16:=⟨by kernel_rfl,Tryz.t9,by kernel_rfl,rfl,rfl,rfl⟩
theorem ty21:Ty Tryz.prog 21 (.int .i32) 1 (.int .i32 0) 4:=⟨by kernel_rfl,Tryz.t21,by kernel_rfl,rfl,rfl,rfl⟩
theorem ty22:Ty Tryz.prog 22 (.slice 86) 1 (.slice none 0 0) 24:=⟨by kernel_rfl,Tryz.t22,by kernel_rfl,rfl,rfl,rfl⟩
theorem KH:Ty Tryz.prog 23 (.pointer 113) 1 (.pointer none) 8:=⟨by kernel_rfl,Tryz.t23,by kernel_rfl,rfl,rfl,rfl⟩
theorem q6:Ty Tryz.prog 26 (.slice 45) 1 (.slice none 0 0) 24:=⟨by kernel_rfl,Tryz.t26,by kernel_rfl,rfl,rfl,rfl⟩
theorem Qx:Ty Tryz.prog 28 (.slice 5) 1 (.slice none 0 0) 24:=⟨by kernel_rfl,Tryz.t28,by kernel_rfl,rfl,rfl,rfl⟩
theorem ZQ:Ty Tryz.prog 33 (.int .u64) 1 (zu 0) 8:=⟨by kernel_rfl,Tryz.t33,by kernel_rfl,rfl,rfl,rfl⟩
theorem Ze:Ty Tryz.prog 35 Tryz.t34.desc 7 (.agg #[(zi 0),(zi 0),(zi 0),(zi 0),(zu 0),(zu 0),(.slice none 0 0)]) 72:=⟨by kernel_rfl,Tryz.t35,by kernel_rfl,rfl,rfl,rfl⟩
theorem Qp:Ty Tryz.prog 39 Tryz.t38.desc 2 (.agg #[(.slice none 0 0),(.bool false)]) 32:=⟨by kernel_rfl,Tryz.t39,by kernel_rfl,rfl,rfl,rfl⟩
theorem zo:Ty Tryz.prog 45 Tryz.t44.desc 5 (.agg #[(zi 0),(zi 0),(zi 0),(zi 0),(zi 0)]) 40:=⟨by kernel_rfl,Tryz.t45,by kernel_rfl,rfl,rfl,rfl⟩
theorem qdw:Ty Tryz.prog 53 (.int .u64) 1 (zu 0) 8:=⟨by kernel_rfl,Tryz.t53,by kernel_rfl,rfl,rfl,rfl⟩
theorem Qq:Ty Tryz.prog 55 (.slice 3) 1 (.slice none 0 0) 24:=⟨by kernel_rfl,Tryz.t55,by kernel_rfl,rfl,rfl,rfl⟩
theorem ty58:Ty Tryz.prog 58 Tryz.t57.desc 6 (.agg #[(zi 0),(zi 0),(zi 0),(zi 0),(zi 0),(zi 0)]) 48:=⟨by kernel_rfl,Tryz.t58,by kernel_rfl,rfl,rfl,rfl⟩
theorem Zo:Ty Tryz.prog 60 (.slice 91) 1 (.slice none 0 0) 24:=⟨by kernel_rfl,Tryz.t60,by kernel_rfl,rfl,rfl,rfl⟩
theorem qaX:Ty Tryz.prog 64 (.pointer 197) 1 (.pointer none) 8:=⟨by kernel_rfl,Tryz.t64,by kernel_rfl,rfl,rfl,rfl⟩
theorem ty78:Ty Tryz.prog 78 (.slice 9) 1 (.slice none 0 0) 24:=⟨by kernel_rfl,Tryz.t78,by kernel_rfl,rfl,rfl,rfl⟩
theorem ty83:Ty Tryz.prog 83 (.slice 47) 1 (.slice none 0 0) 24:=⟨by kernel_rfl,Tryz.t83,by kernel_rfl,rfl,rfl,rfl⟩
theorem ty86:Ty Tryz.prog 86 Tryz.t44.desc 5 (.agg #[(zi 0),(zi 0),(zi 0),(zi 0),(zi 0)]) 40:=⟨by kernel_rfl,Tryz.t86,by kernel_rfl,rfl,rfl,rfl⟩
theorem ty88:Ty Tryz.prog 88 (.int .u64) 1 (zu 0) 8:=⟨by kernel_rfl,Tryz.t88,by kernel_rfl,rfl,rfl,rfl⟩
theorem QZ:Ty Tryz.prog 91 Tryz.t90.desc 5 (.agg #[(zu 0),(zi 0),(zi 0),(zi 0),(zu 0)]) 40:=⟨by kernel_rfl,Tryz.t91,by kernel_rfl,rfl,rfl,rfl⟩
theorem ty92:Ty Tryz.prog 92 Tryz.t92.desc 1 Go.Value.nilFunc 8:=⟨by kernel_rfl,Tryz.t92,by kernel_rfl,rfl,rfl,rfl⟩
theorem qfp:Ty Tryz.prog 95 (.slice 92) 1 (.slice none 0 0) 24:=⟨by kernel_rfl,Tryz.t95,by kernel_rfl,rfl,rfl,rfl⟩
theorem QD:Ty Tryz.prog 99 (.pointer 39) 1 (.pointer none) 8:=⟨by kernel_rfl,Tryz.t99,by kernel_rfl,rfl,rfl,rfl⟩
theorem qdA:Ty Tryz.prog 100 (.pointer 211) 1 (.pointer none) 8:=⟨by kernel_rfl,Tryz.t100,by kernel_rfl,rfl,rfl,rfl⟩
theorem Js:Ty Tryz.prog 101 (.array 16 99) 16 (.agg #[(.pointer none),(.pointer none),(.pointer none),(.pointer none),(.pointer none),(.pointer none),(.pointer none),(.pointer none),(.pointer none),(.pointer none),(.pointer none),(.pointer none),(.pointer none),(.pointer none),(.pointer none),(.pointer none)]) 128:=⟨by kernel_rfl,Tryz.t101,by kernel_rfl,rfl,rfl,rfl⟩
theorem ty108:Ty Tryz.prog 108 Tryz.t107.desc 2 (.agg #[(.slice none 0 0),(zi 0)]) 32:=⟨by kernel_rfl,Tryz.t108,by kernel_rfl,rfl,rfl,rfl⟩
theorem Jr:Ty Tryz.prog 109 (.pointer 128) 1 (.pointer none) 8:=⟨by kernel_rfl,Tryz.t109,by kernel_rfl,rfl,rfl,rfl⟩
theorem Kl:Ty Tryz.prog 110 (.array 32 109) 32 (.agg #[(.pointer none),(.pointer none),(.pointer none),(.pointer none),(.pointer none),(.pointer none),(.pointer none),(.pointer none),(.pointer none),(.pointer none),(.pointer none),(.pointer none),(.pointer none),(.pointer none),(.pointer none),(.pointer none),(.pointer none),(.pointer none),(.pointer none),(.pointer none),(.pointer none),(.pointer none),(.pointer none),(.pointer none),(.pointer none),(.pointer none),(.pointer none),(.pointer none),(.pointer none),(.pointer none),(.pointer none),(.pointer none)]) 256:=⟨by kernel_rfl,Tryz.t110,by kernel_rfl,rfl,rfl,rfl⟩
theorem ty113:Ty Tryz.prog 113 Tryz.t112.desc 57 (.agg #[(.pointer none),(.pointer none),(.pointer none),(.pointer none),(.pointer none),(.pointer none),(.pointer none),(.pointer none),(.pointer none),(.pointer none),(.pointer none),(.pointer none),(.pointer none),(.pointer none),(.pointer none),(.pointer none),(.pointer none),(.pointer none),(.pointer none),(.map none),(.pointer none),(.slice none 0 0),(zi 0),(.pointer none),(.pointer none),(.pointer none),(.pointer none),(.pointer none),(.pointer none),(.pointer none),(.pointer none),(.pointer none),(.pointer none),(.pointer none),(.pointer none),(.pointer none),(.pointer none),(.pointer none),(.pointer none),(.pointer none),(.pointer none),(.pointer none),(.pointer none),(.pointer none),(.pointer none),(.pointer none),(.pointer none),(.pointer none),(.pointer none),(.pointer none),(.pointer none),(.pointer none),(.pointer none),(.pointer none),(.pointer none),(.slice none 0 0),(zi 0)]) 488:=⟨by kernel_rfl,Tryz.t113,by kernel_rfl,rfl,rfl,rfl⟩
theorem ty124:Ty Tryz.prog 124 Tryz.t124.desc 1 Go.Value.nilFunc 8:=⟨by kernel_rfl,Tryz.t124,by kernel_rfl,rfl,rfl,rfl⟩
theorem ty128:Ty Tryz.prog 128 Tryz.t127.desc 10 (.agg #[(.pointer none),(zi 0),(zi 0),(zi 0),(zi 0),(zi 0),(zi 0),(.bool false),(.bool false),(.pointer none)]) 72:=⟨by kernel_rfl,Tryz.t128,by kernel_rfl,rfl,rfl,rfl⟩
theorem qg8:Ty Tryz.prog 131 (.pointer 291) 1 (.pointer none) 8:=⟨by kernel_rfl,Tryz.t131,by kernel_rfl,rfl,rfl,rfl⟩
theorem qU:Ty Tryz.prog 155 Tryz.t154.desc 4 (.agg #[(.bool false),(.bool false),(.bool false),(.bool false)]) 4:=⟨by kernel_rfl,Tryz.t155,by kernel_rfl,rfl,rfl,rfl⟩
theorem qK:Ty Tryz.prog 165 (.array 5 3) 5 (.agg #[(zi 0),(zi 0),(zi 0),(zi 0),(zi 0)]) 40:=⟨by kernel_rfl,Tryz.t165,by kernel_rfl,rfl,rfl,rfl⟩
theorem qT:Ty Tryz.prog 167 Tryz.t166.desc 2 (.agg #[(zi 0),(zi 0)]) 16:=⟨by kernel_rfl,Tryz.t167,by kernel_rfl,rfl,rfl,rfl⟩
theorem qJ:Ty Tryz.prog 168 (.array 3 167) 6 (.agg #[(zi 0),(zi 0),(zi 0),(zi 0),(zi 0),(zi 0)]) 48:=⟨by kernel_rfl,Tryz.t168,by kernel_rfl,rfl,rfl,rfl⟩
theorem qaa:Ty Tryz.prog 171 (.array 5 33) 5 (.agg #[(zu 0),(zu 0),(zu 0),(zu 0),(zu 0)]) 40:=⟨by kernel_rfl,Tryz.t171,by kernel_rfl,rfl,rfl,rfl⟩
theorem qg7:Ty Tryz.prog 173 (.array 3 3) 3 (.agg #[(zi 0),(zi 0),(zi 0)]) 24:=⟨by kernel_rfl,Tryz.t173,by kernel_rfl,rfl,rfl,rfl⟩
theorem K9:Ty Tryz.prog 175 (.pointer 276) 1 (.pointer none) 8:=⟨by kernel_rfl,Tryz.t175,by kernel_rfl,rfl,rfl,rfl⟩
theorem qbW:Ty Tryz.prog 195 (.pointer 301) 1 (.pointer none) 8:=⟨by kernel_rfl,Tryz.t195,by kernel_rfl,rfl,rfl,rfl⟩
theorem ty197:Ty Tryz.prog 197 Tryz.t196.desc 15 (.agg #[(zi 0),(.pointer none),(.bool false),(.pointer none),(.bool false),(.pointer none),(.bool false),(.pointer none),(.bool false),(.pointer none),(.pointer none),(.pointer none),(.pointer none),(.pointer none),(.map none)]) 120:=⟨by kernel_rfl,Tryz.t197,by kernel_rfl,rfl,rfl,rfl⟩
theorem ty206:Ty Tryz.prog 206 Tryz.t205.desc 17 (.agg #[(.slice none 0 0),(zi 0),(zi 0),(zi 0),(zi 0),(zi 0),(zi 0),(zi 0),(zi 0),(zi 0),(zi 0),(zi 0),(zi 0),(zi 0),(zi 0),(zi 0),(zi 0)]) 152:=⟨by kernel_rfl,Tryz.t206,by kernel_rfl,rfl,rfl,rfl⟩
theorem ty207:Ty Tryz.prog 207 (.slice 53) 1 (.slice none 0 0) 24:=⟨by kernel_rfl,Tryz.t207,by kernel_rfl,rfl,rfl,rfl⟩
theorem ty209:Ty Tryz.prog 209 Tryz.t208.desc 17 (.agg #[(.slice none 0 0),(zi 0),(zi 0),(zi 0),(zi 0),(zi 0),(zi 0),(zi 0),(zi 0),(zi 0),(zi 0),(zi 0),(zi 0),(zi 0),(zi 0),(zi 0),(zi 0)]) 152:=⟨by kernel_rfl,Tryz.t209,by kernel_rfl,rfl,rfl,rfl⟩
theorem ty211:Ty Tryz.prog 211 Tryz.t210.desc 1 (.agg #[(zu 0)]) 8:=⟨by kernel_rfl,Tryz.t211,by kernel_rfl,rfl,rfl,rfl⟩
theorem ty217:Ty Tryz.prog 217 (.pointer 108) 1 (.pointer none) 8:=⟨by kernel_rfl,Tryz.t217,by kernel_rfl,rfl,rfl,rfl⟩
theorem ty232:Ty Tryz.prog 232 Tryz.t231.desc 1026 ((Tryz.t232.zero).getD undef) 6160:=⟨by kernel_rfl,Tryz.t232,by kernel_rfl,rfl,rfl,rfl⟩
theorem qg6:Ty Tryz.prog 265 (.slice 99) 1 (.slice none 0 0) 24:=⟨by kernel_rfl,Tryz.t265,by kernel_rfl,rfl,rfl,rfl⟩
theorem Xq:Ty Tryz.prog 269 Tryz.t268.desc 5 (.agg #[(.bool false),(zi 0),(zi 0),(zi 0),(zu 0)]) 40:=⟨by kernel_rfl,Tryz.t269,by kernel_rfl,rfl,rfl,rfl⟩
theorem ty276:Ty Tryz.prog 276 Tryz.t275.desc 6 (.agg #[(.pointer none),(.pointer none),(.pointer none),(zi 0),(zi 0),(zi 0)]) 48:=⟨by kernel_rfl,Tryz.t276,by kernel_rfl,rfl,rfl,rfl⟩
theorem ty291:Ty Tryz.prog 291 Tryz.t290.desc 546 ((Tryz.t291.zero).getD undef) 4368:=⟨by kernel_rfl,Tryz.t291,by kernel_rfl,rfl,rfl,rfl⟩
theorem ty298:Ty Tryz.prog 298 Tryz.t297.desc 130 ((Tryz.t298.zero).getD undef) 1040:=⟨by kernel_rfl,Tryz.t298,by kernel_rfl,rfl,rfl,rfl⟩
theorem qdz:Ty Tryz.prog 299 (.map 3 456) 1 (.map none) 8:=⟨by kernel_rfl,Tryz.t299,by kernel_rfl,rfl,rfl,rfl⟩
theorem ty301:Ty Tryz.prog 301 Tryz.t300.desc 2 (.agg #[(zi 0),(.map none)]) 16:=⟨by kernel_rfl,Tryz.t301,by kernel_rfl,rfl,rfl,rfl⟩
theorem qg5:Ty Tryz.prog 303 (.pointer 400) 1 (.pointer none) 8:=⟨by kernel_rfl,Tryz.t303,by kernel_rfl,rfl,rfl,rfl⟩
theorem qg4:Ty Tryz.prog 309 (.pointer 409) 1 (.pointer none) 8:=⟨by kernel_rfl,Tryz.t309,by kernel_rfl,rfl,rfl,rfl⟩
theorem qg3:Ty Tryz.prog 352 (.slice 109) 1 (.slice none 0 0) 24:=⟨by kernel_rfl,Tryz.t352,by kernel_rfl,rfl,rfl,rfl⟩
theorem qdy:Ty Tryz.prog 353 (.slice 269) 1 (.slice none 0 0) 24:=⟨by kernel_rfl,Tryz.t353,by kernel_rfl,rfl,rfl,rfl⟩
theorem ty358:Ty Tryz.prog 358 Tryz.t357.desc 42 (.agg #[(.pointer none),(.slice none 0 0),(zi 0),(zi 0),(.bool false),(.bool false),(zi 0),(zi 0),(zi 0),(.bool false),(zi 0),(zi 0),(zi 0),(zu 0),(.bool false),(zi 0),(zi 0),(zi 0),(zu 0),(.bool false),(zi 0),(zi 0),(zi 0),(zu 0),(.bool false),(zi 0),(zi 0),(zi 0),(zu 0),(.bool false),(zi 0),(zi 0),(zi 0),(zu 0),(.bool false),(zi 0),(zi 0),(zi 0),(zu 0),(zu 0),(zi 0),(zu 0)]) 344:=⟨by kernel_rfl,Tryz.t358,by kernel_rfl,rfl,rfl,rfl⟩
theorem ty362:Ty Tryz.prog 362 (.slice 365) 1 (.slice none 0 0) 24:=⟨by kernel_rfl,Tryz.t362,by kernel_rfl,rfl,rfl,rfl⟩
theorem ty365:Ty Tryz.prog 365 Tryz.t364.desc 2 (.agg #[(zi 0),(zi 0)]) 16:=⟨by kernel_rfl,Tryz.t365,by kernel_rfl,rfl,rfl,rfl⟩
theorem K8:Ty Tryz.prog 383 (.slice 303) 1 (.slice none 0 0) 24:=⟨by kernel_rfl,Tryz.t383,by kernel_rfl,rfl,rfl,rfl⟩
theorem ty386:Ty Tryz.prog 386 Tryz.t385.desc 289 ((Tryz.t386.zero).getD undef) 2328:=⟨by kernel_rfl,Tryz.t386,by kernel_rfl,rfl,rfl,rfl⟩
theorem K7:Ty Tryz.prog 389 (.slice 309) 1 (.slice none 0 0) 24:=⟨by kernel_rfl,Tryz.t389,by kernel_rfl,rfl,rfl,rfl⟩
theorem ty391:Ty Tryz.prog 391 Tryz.t390.desc 1 (.agg #[(.slice none 0 0)]) 24:=⟨by kernel_rfl,Tryz.t391,by kernel_rfl,rfl,rfl,rfl⟩
theorem K6:Ty Tryz.prog 393 (.slice 396) 1 (.slice none 0 0) 24:=⟨by kernel_rfl,Tryz.t393,by kernel_rfl,rfl,rfl,rfl⟩
theorem ty395:Ty Tryz.prog 395 Tryz.t394.desc 2 (.agg #[(.slice none 0 0),(zi 0)]) 32:=⟨by kernel_rfl,Tryz.t395,by kernel_rfl,rfl,rfl,rfl⟩
theorem qg2:Ty Tryz.prog 396 (.pointer 477) 1 (.pointer none) 8:=⟨by kernel_rfl,Tryz.t396,by kernel_rfl,rfl,rfl,rfl⟩
theorem ty400:Ty Tryz.prog 400 Tryz.t399.desc 3 (.agg #[(.slice none 0 0),(zi 0),(zi 0)]) 40:=⟨by kernel_rfl,Tryz.t400,by kernel_rfl,rfl,rfl,rfl⟩
theorem ty409:Ty Tryz.prog 409 Tryz.t408.desc 523 ((Tryz.t409.zero).getD undef) 12376:=⟨by kernel_rfl,Tryz.t409,by kernel_rfl,rfl,rfl,rfl⟩
theorem K5:Ty Tryz.prog 425 (.int .u32) 1 (.int .u32 0) 4:=⟨by kernel_rfl,Tryz.t425,by kernel_rfl,rfl,rfl,rfl⟩
theorem qg1:Ty Tryz.prog 454 (.int .i16) 1 (.int .i16 0) 2:=⟨by kernel_rfl,Tryz.t454,by kernel_rfl,rfl,rfl,rfl⟩
theorem qdx:Ty Tryz.prog 455 (.int .u16) 1 (.int .u16 0) 2:=⟨by kernel_rfl,Tryz.t455,by kernel_rfl,rfl,rfl,rfl⟩
theorem qg0:Ty Tryz.prog 456 (.pointer 536) 1 (.pointer none) 8:=⟨by kernel_rfl,Tryz.t456,by kernel_rfl,rfl,rfl,rfl⟩
theorem qgZ:Ty Tryz.prog 458 (.array 10 269) 50 (.agg #[(.bool false),(zi 0),(zi 0),(zi 0),(zu 0),(.bool false),(zi 0),(zi 0),(zi 0),(zu 0),(.bool false),(zi 0),(zi 0),(zi 0),(zu 0),(.bool false),(zi 0),(zi 0),(zi 0),(zu 0),(.bool false),(zi 0),(zi 0),(zi 0),(zu 0),(.bool false),(zi 0),(zi 0),(zi 0),(zu 0),(.bool false),(zi 0),(zi 0),(zi 0),(zu 0),(.bool false),(zi 0),(zi 0),(zi 0),(zu 0),(.bool false),(zi 0),(zi 0),(zi 0),(zu 0),(.bool false),(zi 0),(zi 0),(zi 0),(zu 0)]) 400:=⟨by kernel_rfl,Tryz.t458,by kernel_rfl,rfl,rfl,rfl⟩
theorem ty461:Ty Tryz.prog 461 Tryz.t460.desc 90 ((Tryz.t461.zero).getD undef) 720:=⟨by kernel_rfl,Tryz.t461,by kernel_rfl,rfl,rfl,rfl⟩
theorem ty477:Ty Tryz.prog 477 Tryz.t476.desc 3 (.agg #[(.slice none 0 0),(zi 0),(zi 0)]) 40:=⟨by kernel_rfl,Tryz.t477,by kernel_rfl,rfl,rfl,rfl⟩
theorem ty534:Ty Tryz.prog 534 Tryz.t533.desc 2 (.agg #[(zi 0),(zi 0)]) 16:=⟨by kernel_rfl,Tryz.t534,by kernel_rfl,rfl,rfl,rfl⟩
theorem qgx:Fld Tryz.prog 35 0 0 1 false:=⟨_,_,(by kernel_rfl:Tryz.prog.underlying 35=some Tryz.t34.desc),rfl,rfl,_,_,_,ty3,rfl⟩
theorem qgw:Fld Tryz.prog 35 1 1 1 false:=⟨_,_,(by kernel_rfl:Tryz.prog.underlying 35=some Tryz.t34.desc),rfl,rfl,_,_,_,ty3,rfl⟩
theorem qgv:Fld Tryz.prog 35 2 2 1 false:=⟨_,_,(by kernel_rfl:Tryz.prog.underlying 35=some Tryz.t34.desc),rfl,rfl,_,_,_,ty3,rfl⟩
theorem qgu:Fld Tryz.prog 35 3 3 1 false:=⟨_,_,(by kernel_rfl:Tryz.prog.underlying 35=some Tryz.t34.desc),rfl,rfl,_,_,_,ty3,rfl⟩
theorem qgt:Fld Tryz.prog 35 4 4 1 false:=⟨_,_,(by kernel_rfl:Tryz.prog.underlying 35=some Tryz.t34.desc),rfl,rfl,_,_,_,ZQ,rfl⟩
theorem qgs:Fld Tryz.prog 35 5 5 1 false:=⟨_,_,(by kernel_rfl:Tryz.prog.underlying 35=some Tryz.t34.desc),rfl,rfl,_,_,_,ZQ,rfl⟩
theorem qgr:Fld Tryz.prog 35 6 6 1 false:=⟨_,_,(by kernel_rfl:Tryz.prog.underlying 35=some Tryz.t34.desc),rfl,rfl,_,_,_,Qx,rfl⟩
theorem qgq:Fld Tryz.prog 39 0 0 1 false:=⟨_,_,(by kernel_rfl:Tryz.prog.underlying 39=some Tryz.t38.desc),rfl,rfl,_,_,_,q6,rfl⟩
theorem qgp:Fld Tryz.prog 39 1 1 1 false:=⟨_,_,(by kernel_rfl:Tryz.prog.underlying 39=some Tryz.t38.desc),rfl,rfl,_,_,_,ty4,rfl⟩
theorem qgo:Fld Tryz.prog 45 0 0 1 false:=⟨_,_,(by kernel_rfl:Tryz.prog.underlying 45=some Tryz.t44.desc),rfl,rfl,_,_,_,ty3,rfl⟩
theorem qgn:Fld Tryz.prog 45 1 1 1 false:=⟨_,_,(by kernel_rfl:Tryz.prog.underlying 45=some Tryz.t44.desc),rfl,rfl,_,_,_,ty3,rfl⟩
theorem qgm:Fld Tryz.prog 45 2 2 1 false:=⟨_,_,(by kernel_rfl:Tryz.prog.underlying 45=some Tryz.t44.desc),rfl,rfl,_,_,_,ty3,rfl⟩
theorem qgl:Fld Tryz.prog 45 3 3 1 false:=⟨_,_,(by kernel_rfl:Tryz.prog.underlying 45=some Tryz.t44.desc),rfl,rfl,_,_,_,ty3,rfl⟩
theorem qgk:Fld Tryz.prog 45 4 4 1 false:=⟨_,_,(by kernel_rfl:Tryz.prog.underlying 45=some Tryz.t44.desc),rfl,rfl,_,_,_,ty3,rfl⟩
theorem qgj:Fld Tryz.prog 58 2 2 1 false:=⟨_,_,(by kernel_rfl:Tryz.prog.underlying 58=some Tryz.t57.desc),rfl,rfl,_,_,_,ty3,rfl⟩
theorem qgi:Fld Tryz.prog 86 0 0 1 false:=⟨_,_,(by kernel_rfl:Tryz.prog.underlying 86=some Tryz.t44.desc),rfl,rfl,_,_,_,ty3,rfl⟩
theorem qgh:Fld Tryz.prog 86 1 1 1 false:=⟨_,_,(by kernel_rfl:Tryz.prog.underlying 86=some Tryz.t44.desc),rfl,rfl,_,_,_,ty3,rfl⟩
theorem qgg:Fld Tryz.prog 86 2 2 1 false:=⟨_,_,(by kernel_rfl:Tryz.prog.underlying 86=some Tryz.t44.desc),rfl,rfl,_,_,_,ty3,rfl⟩
theorem qgf:Fld Tryz.prog 86 3 3 1 false:=⟨_,_,(by kernel_rfl:Tryz.prog.underlying 86=some Tryz.t44.desc),rfl,rfl,_,_,_,ty3,rfl⟩
theorem qge:Fld Tryz.prog 86 4 4 1 false:=⟨_,_,(by kernel_rfl:Tryz.prog.underlying 86=some Tryz.t44.desc),rfl,rfl,_,_,_,ty3,rfl⟩
theorem qgd:Fld Tryz.prog 91 0 0 1 false:=⟨_,_,(by kernel_rfl:Tryz.prog.underlying 91=some Tryz.t90.desc),rfl,rfl,_,_,_,ZQ,rfl⟩
theorem qgc:Fld Tryz.prog 91 1 1 1 false:=⟨_,_,(by kernel_rfl:Tryz.prog.underlying 91=some Tryz.t90.desc),rfl,rfl,_,_,_,ty3,rfl⟩
theorem XW:Fld Tryz.prog 108 0 0 1 false:=⟨_,_,(by kernel_rfl:Tryz.prog.underlying 108=some Tryz.t107.desc),rfl,rfl,_,_,_,Zo,rfl⟩
theorem qeM:Fld Tryz.prog 108 1 1 1 false:=⟨_,_,(by kernel_rfl:Tryz.prog.underlying 108=some Tryz.t107.desc),rfl,rfl,_,_,_,ty3,rfl⟩
theorem qeL:Fld Tryz.prog 113 0 0 1 false:=⟨_,_,(by kernel_rfl:Tryz.prog.underlying 113=some Tryz.t112.desc),rfl,rfl,_,_,_,qdA,rfl⟩
theorem qeK:Fld Tryz.prog 113 1 1 1 false:=⟨_,_,(by kernel_rfl:Tryz.prog.underlying 113=some Tryz.t112.desc),rfl,rfl,_,_,_,qaX,rfl⟩
theorem qeJ:Fld Tryz.prog 113 2 2 16 true:=⟨_,_,(by kernel_rfl:Tryz.prog.underlying 113=some Tryz.t112.desc),rfl,rfl,_,_,_,Js,rfl⟩
theorem qeI:Fld Tryz.prog 113 6 21 2 true:=⟨_,_,(by kernel_rfl:Tryz.prog.underlying 113=some Tryz.t112.desc),rfl,rfl,_,_,_,ty108,rfl⟩
theorem qeH:Fld Tryz.prog 113 7 23 32 true:=⟨_,_,(by kernel_rfl:Tryz.prog.underlying 113=some Tryz.t112.desc),rfl,rfl,_,_,_,Kl,rfl⟩
theorem qeG:Fld Tryz.prog 113 9 56 1 false:=⟨_,_,(by kernel_rfl:Tryz.prog.underlying 113=some Tryz.t112.desc),rfl,rfl,_,_,_,ty3,rfl⟩
theorem qeF:Fld Tryz.prog 128 1 1 6 true:=⟨_,_,(by kernel_rfl:Tryz.prog.underlying 128=some Tryz.t127.desc),rfl,rfl,_,_,_,ty58,rfl⟩
theorem qeE:Fld Tryz.prog 155 0 0 1 false:=⟨_,_,(by kernel_rfl:Tryz.prog.underlying 155=some Tryz.t154.desc),rfl,rfl,_,_,_,ty4,rfl⟩
theorem qeD:Fld Tryz.prog 155 1 1 1 false:=⟨_,_,(by kernel_rfl:Tryz.prog.underlying 155=some Tryz.t154.desc),rfl,rfl,_,_,_,ty4,rfl⟩
theorem qeC:Fld Tryz.prog 155 2 2 1 false:=⟨_,_,(by kernel_rfl:Tryz.prog.underlying 155=some Tryz.t154.desc),rfl,rfl,_,_,_,ty4,rfl⟩
theorem qeB:Fld Tryz.prog 155 3 3 1 false:=⟨_,_,(by kernel_rfl:Tryz.prog.underlying 155=some Tryz.t154.desc),rfl,rfl,_,_,_,ty4,rfl⟩
theorem qeA:Fld Tryz.prog 167 0 0 1 false:=⟨_,_,(by kernel_rfl:Tryz.prog.underlying 167=some Tryz.t166.desc),rfl,rfl,_,_,_,ty3,rfl⟩
theorem qez:Fld Tryz.prog 167 1 1 1 false:=⟨_,_,(by kernel_rfl:Tryz.prog.underlying 167=some Tryz.t166.desc),rfl,rfl,_,_,_,ty3,rfl⟩
theorem qey:Fld Tryz.prog 197 3 10 1 false:=⟨_,_,(by kernel_rfl:Tryz.prog.underlying 197=some Tryz.t196.desc),rfl,rfl,_,_,_,qg8,rfl⟩
theorem qex:Fld Tryz.prog 197 4 11 1 false:=⟨_,_,(by kernel_rfl:Tryz.prog.underlying 197=some Tryz.t196.desc),rfl,rfl,_,_,_,K9,rfl⟩
theorem qew:Fld Tryz.prog 197 5 12 1 false:=⟨_,_,(by kernel_rfl:Tryz.prog.underlying 197=some Tryz.t196.desc),rfl,rfl,_,_,_,K9,rfl⟩
theorem qev:Fld Tryz.prog 197 6 13 1 false:=⟨_,_,(by kernel_rfl:Tryz.prog.underlying 197=some Tryz.t196.desc),rfl,rfl,_,_,_,qbW,rfl⟩
theorem qeu:Fld Tryz.prog 211 0 0 1 false:=⟨_,_,(by kernel_rfl:Tryz.prog.underlying 211=some Tryz.t210.desc),rfl,rfl,_,_,_,ZQ,rfl⟩
theorem qet:Fld Tryz.prog 301 1 1 1 false:=⟨_,_,(by kernel_rfl:Tryz.prog.underlying 301=some Tryz.t300.desc),rfl,rfl,_,_,_,qdz,rfl⟩
theorem qes:Fld Tryz.prog 386 0 0 1 false:=⟨_,_,(by kernel_rfl:Tryz.prog.underlying 386=some Tryz.t385.desc),rfl,rfl,_,_,_,K8,rfl⟩
theorem qay:Fld Tryz.prog 391 0 0 1 false:=⟨_,_,(by kernel_rfl:Tryz.prog.underlying 391=some Tryz.t390.desc),rfl,rfl,_,_,_,K7,rfl⟩
theorem qer:Fld Tryz.prog 395 0 0 1 false:=⟨_,_,(by kernel_rfl:Tryz.prog.underlying 395=some Tryz.t394.desc),rfl,rfl,_,_,_,K6,rfl⟩
theorem qeq:Fld Tryz.prog 461 0 0 50 true:=⟨_,_,(by kernel_rfl:Tryz.prog.underlying 461=some Tryz.t460.desc),rfl,rfl,_,_,_,qgZ,rfl⟩
theorem qep:Fld Tryz.prog 534 0 0 1 false:=⟨_,_,(by kernel_rfl:Tryz.prog.underlying 534=some Tryz.t533.desc),rfl,rfl,_,_,_,ty3,rfl⟩
theorem qeo:Fld Tryz.prog 536 0 0 2 true:=⟨_,_,(by kernel_rfl:Tryz.prog.underlying 536=some Tryz.t535.desc),rfl,rfl,_,_,_,ty534,rfl⟩
theorem qal:qG Tryz.prog 35 [(0,1),(1,1),(2,1),(3,1),(4,1),(5,1),(6,1)]:=⟨_,(by kernel_rfl:Tryz.prog.underlying 35=some Tryz.t34.desc),fun _=>by kernel_rfl⟩
theorem qfJ:qG Tryz.prog 39 [(0,1),(1,1)]:=⟨_,(by kernel_rfl:Tryz.prog.underlying 39=some Tryz.t38.desc),fun _=>by kernel_rfl⟩
theorem pl45:qG Tryz.prog 45 [(0,1),(1,1),(2,1),(3,1),(4,1)]:=⟨_,(by kernel_rfl:Tryz.prog.underlying 45=some Tryz.t44.desc),fun _=>by kernel_rfl⟩
theorem pl58:qG Tryz.prog 58 [(0,1),(1,1),(2,1),(3,1),(4,1),(5,1)]:=⟨_,(by kernel_rfl:Tryz.prog.underlying 58=some Tryz.t57.desc),fun _=>by kernel_rfl⟩
theorem qfI:qG Tryz.prog 91 [(0,1),(1,1),(2,1),(3,1),(4,1)]:=⟨_,(by kernel_rfl:Tryz.prog.underlying 91=some Tryz.t90.desc),fun _=>by kernel_rfl⟩
theorem pl113:qG Tryz.prog 113 [(0,1),(1,1),(2,16),(18,1),(19,1),(20,1),(21,2),(23,32),(55,1),(56,1)]:=⟨_,(by kernel_rfl:Tryz.prog.underlying 113=some Tryz.t112.desc),fun _=>by kernel_rfl⟩
theorem pl128:qG Tryz.prog 128 [(0,1),(1,6),(7,1),(8,1),(9,1)]:=⟨_,(by kernel_rfl:Tryz.prog.underlying 128=some Tryz.t127.desc),fun _=>by kernel_rfl⟩
theorem Z3:qG Tryz.prog 155 [(0,1),(1,1),(2,1),(3,1)]:=⟨_,(by kernel_rfl:Tryz.prog.underlying 155=some Tryz.t154.desc),fun _=>by kernel_rfl⟩
theorem Qa:qG Tryz.prog 167 [(0,1),(1,1)]:=⟨_,(by kernel_rfl:Tryz.prog.underlying 167=some Tryz.t166.desc),fun _=>by kernel_rfl⟩
theorem pl197:qG Tryz.prog 197 [(0,1),(1,8),(9,1),(10,1),(11,1),(12,1),(13,1),(14,1)]:=⟨_,(by kernel_rfl:Tryz.prog.underlying 197=some Tryz.t196.desc),fun _=>by kernel_rfl⟩
theorem pl206:qG Tryz.prog 206 [(0,1),(1,16)]:=⟨_,(by kernel_rfl:Tryz.prog.underlying 206=some Tryz.t205.desc),fun _=>by kernel_rfl⟩
theorem pl209:qG Tryz.prog 209 [(0,1),(1,16)]:=⟨_,(by kernel_rfl:Tryz.prog.underlying 209=some Tryz.t208.desc),fun _=>by kernel_rfl⟩
theorem pl211:qG Tryz.prog 211 [(0,1)]:=⟨_,(by kernel_rfl:Tryz.prog.underlying 211=some Tryz.t210.desc),fun _=>by kernel_rfl⟩
theorem pl232:qG Tryz.prog 232 [(0,1),(1,1),(2,1024)]:=⟨_,(by kernel_rfl:Tryz.prog.underlying 232=some Tryz.t231.desc),fun _=>by kernel_rfl⟩
theorem pl269:qG Tryz.prog 269 [(0,1),(1,1),(2,2),(4,1)]:=⟨_,(by kernel_rfl:Tryz.prog.underlying 269=some Tryz.t268.desc),fun _=>by kernel_rfl⟩
theorem pl276:qG Tryz.prog 276 [(0,1),(1,1),(2,1),(3,1),(4,1),(5,1)]:=⟨_,(by kernel_rfl:Tryz.prog.underlying 276=some Tryz.t275.desc),fun _=>by kernel_rfl⟩
theorem pl291:qG Tryz.prog 291 [(0,1),(1,1),(2,512),(514,32)]:=⟨_,(by kernel_rfl:Tryz.prog.underlying 291=some Tryz.t290.desc),fun _=>by kernel_rfl⟩
theorem pl298:qG Tryz.prog 298 [(0,128),(128,1),(129,1)]:=⟨_,(by kernel_rfl:Tryz.prog.underlying 298=some Tryz.t297.desc),fun _=>by kernel_rfl⟩
theorem pl301:qG Tryz.prog 301 [(0,1),(1,1)]:=⟨_,(by kernel_rfl:Tryz.prog.underlying 301=some Tryz.t300.desc),fun _=>by kernel_rfl⟩
theorem pl358:qG Tryz.prog 358 [(0,1),(1,1),(2,1),(3,1),(4,1),(5,1),(6,34),(40,1),(41,1)]:=⟨_,(by kernel_rfl:Tryz.prog.underlying 358=some Tryz.t357.desc),fun _=>by kernel_rfl⟩
theorem pl386:qG Tryz.prog 386 [(0,1),(1,256),(257,32)]:=⟨_,(by kernel_rfl:Tryz.prog.underlying 386=some Tryz.t385.desc),fun _=>by kernel_rfl⟩
theorem pl391:qG Tryz.prog 391 [(0,1)]:=⟨_,(by kernel_rfl:Tryz.prog.underlying 391=some Tryz.t390.desc),fun _=>by kernel_rfl⟩
theorem pl395:qG Tryz.prog 395 [(0,1),(1,1)]:=⟨_,(by kernel_rfl:Tryz.prog.underlying 395=some Tryz.t394.desc),fun _=>by kernel_rfl⟩
theorem pl400:qG Tryz.prog 400 [(0,1),(1,1),(2,1)]:=⟨_,(by kernel_rfl:Tryz.prog.underlying 400=some Tryz.t399.desc),fun _=>by kernel_rfl⟩
theorem pl409:qG Tryz.prog 409 [(0,1),(1,512),(513,8),(521,1),(522,1)]:=⟨_,(by kernel_rfl:Tryz.prog.underlying 409=some Tryz.t408.desc),fun _=>by kernel_rfl⟩
theorem pl461:qG Tryz.prog 461 [(0,50),(50,40)]:=⟨_,(by kernel_rfl:Tryz.prog.underlying 461=some Tryz.t460.desc),fun _=>by kernel_rfl⟩
theorem pl477:qG Tryz.prog 477 [(0,1),(1,1),(2,1)]:=⟨_,(by kernel_rfl:Tryz.prog.underlying 477=some Tryz.t476.desc),fun _=>by kernel_rfl⟩
def fT:FTr:=(.node 7232 0 (.node 2883 3 (.node 2246 6 (.node 2243 3 (.node 2241 1 (.node 2240 0 .nil .nil) (.node 2242 2 .nil .nil)) (.node 2245 5 (.node 2244 4 .nil .nil) .nil)) (.node 2880 0 (.node 2497 1 (.node 2496 0 .nil .nil) .nil) (.node 2882 2 (.node 2881 1 .nil .nil) .nil))) (.node 5507 3 (.node 5504 0 (.node 3714 2 (.node 2884 4 .nil .nil) .nil) (.node 5506 2 (.node 5505 1 .nil .nil) .nil)) (.node 5825 1 (.node 5824 0 (.node 5508 4 .nil .nil) .nil) (.node 6913 1 (.node 6912 0 .nil .nil) .nil)))) (.node 10689 1 (.node 8193 1 (.node 7238 21 (.node 7234 2 (.node 7233 1 .nil .nil) .nil) (.node 7241 56 (.node 7239 23 .nil .nil) .nil)) (.node 9922 2 (.node 9921 1 (.node 9920 0 .nil .nil) .nil) (.node 10688 0 (.node 9923 3 .nil .nil) .nil))) (.node 19265 1 (.node 12613 12 (.node 12612 11 (.node 12611 10 .nil .nil) .nil) (.node 13504 0 (.node 12614 13 .nil .nil) .nil)) (.node 29504 0 (.node 25280 0 (.node 24704 0 .nil .nil) .nil) (.node 34304 0 (.node 34176 0 .nil .nil) .nil)))))
theorem fT_ok:fT.Ok Tryz.prog:=⟨⟨_,_,qeL,by decide⟩,⟨⟨_,_,qgl,by decide⟩,⟨⟨_,_,qgr,by decide⟩,⟨⟨_,_,qgu,by decide⟩,⟨⟨_,_,qgw,by decide⟩,⟨⟨_,_,qgx,by decide⟩,trivial,trivial⟩,⟨⟨_,_,qgv,by decide⟩,trivial,trivial⟩⟩,⟨⟨_,_,qgs,by decide⟩,⟨⟨_,_,qgt,by decide⟩,trivial,trivial⟩,trivial⟩⟩,⟨⟨_,_,qgo,by decide⟩,⟨⟨_,_,qgp,by decide⟩,⟨⟨_,_,qgq,by decide⟩,trivial,trivial⟩,trivial⟩,⟨⟨_,_,qgm,by decide⟩,⟨⟨_,_,qgn,by decide⟩,trivial,trivial⟩,trivial⟩⟩⟩,⟨⟨_,_,qgf,by decide⟩,⟨⟨_,_,qgi,by decide⟩,⟨⟨_,_,qgj,by decide⟩,⟨⟨_,_,qgk,by decide⟩,trivial,trivial⟩,trivial⟩,⟨⟨_,_,qgg,by decide⟩,⟨⟨_,_,qgh,by decide⟩,trivial,trivial⟩,trivial⟩⟩,⟨⟨_,_,qgc,by decide⟩,⟨⟨_,_,qgd,by decide⟩,⟨⟨_,_,qge,by decide⟩,trivial,trivial⟩,trivial⟩,⟨⟨_,_,qeM,by decide⟩,⟨⟨_,_,XW,by decide⟩,trivial,trivial⟩,trivial⟩⟩⟩⟩,⟨⟨_,_,qez,by decide⟩,⟨⟨_,_,qeF,by decide⟩,⟨⟨_,_,qeI,by decide⟩,⟨⟨_,_,qeJ,by decide⟩,⟨⟨_,_,qeK,by decide⟩,trivial,trivial⟩,trivial⟩,⟨⟨_,_,qeG,by decide⟩,⟨⟨_,_,qeH,by decide⟩,trivial,trivial⟩,trivial⟩⟩,⟨⟨_,_,qeC,by decide⟩,⟨⟨_,_,qeD,by decide⟩,⟨⟨_,_,qeE,by decide⟩,trivial,trivial⟩,trivial⟩,⟨⟨_,_,qeA,by decide⟩,⟨⟨_,_,qeB,by decide⟩,trivial,trivial⟩,trivial⟩⟩⟩,⟨⟨_,_,qet,by decide⟩,⟨⟨_,_,qew,by decide⟩,⟨⟨_,_,qex,by decide⟩,⟨⟨_,_,qey,by decide⟩,trivial,trivial⟩,trivial⟩,⟨⟨_,_,qeu,by decide⟩,⟨⟨_,_,qev,by decide⟩,trivial,trivial⟩,trivial⟩⟩,⟨⟨_,_,qeq,by decide⟩,⟨⟨_,_,qer,by decide⟩,⟨⟨_,_,qes,by decide⟩,trivial,trivial⟩,trivial⟩,⟨⟨_,_,qeo,by decide⟩,⟨⟨_,_,qep,by decide⟩,trivial,trivial⟩,trivial⟩⟩⟩⟩⟩
instance:FTI Tryz.prog:=⟨fT,fT_ok⟩
open Go.Sl.Ev
set_option maxRecDepth 100000
theorem qhc:Tryz.prog.follows .mixedOrders=true:=by kernel_rfl
theorem qhb:namesOk Tryz.prog:=by
 have h:Tryz.prog.funcs.toList.all (fun fn=>!(fn.name == "runtime.NumGoroutine"))=true:=by decide +kernel
 intro f fn hf
 have:=List.all_eq_true.1 h fn (List.mem_of_getElem? (by simpa using hf))
 simpa using this
open Go.Sl.Ev Go.RowKit
def qaR (w:World):Prop:=Lib.TabIs Tryz.prog w "strings.asciiSpace" .u8 Lib.asciiSpaceTab
theorem qbX {w0 w:World} (hb:Below w0.heap.size w0 w) (hT:qaR w0):qaR w :=
 have hlt:0<w0.heap.size:=World.block_lt_of_cell? _ _ (hT.cell (g:=0) (by kernel_rfl) 0 (by rw [Lib.asciiSpaceTab_length]; omega))
 var?_below (g:=0) hb zk hlt hT
theorem extsF {w0:World} (hT:qaR w0):qbR Tryz.prog w0 (xFields 145 9) :=
 qaD ⟨_,_,Tryz.func145,rfl⟩ fun s w hb hs ha=>Tryz.strings_Fields s w hs ha (qbX hb hT)
end Go.Proofs.YtcggkokeggfdkaaGreatDoor
namespace Go.Proofs.YtcggkokeggfdkaaGreatDoor
open Go Go.Sl Go.ChangeShapes Go.WideShapes Go.ChangeAt Go.RowKit
set_option maxRecDepth 100000
theorem own:ownKnob Tryz.prog.godebug=none:=by kernel_rfl
theorem full:∀ t e,t<Tryz.prog.types.size→Tryz.prog.underlying t=some (.slice e)→0<Tryz.prog.cellsOf e:=slices_full_of Tryz.prog zk
theorem u4:Tryz.prog.underlying 4=some .bool:=by kernel_rfl
theorem u5:Tryz.prog.underlying 5=some (.int .u8):=by kernel_rfl
theorem u327:Tryz.prog.underlying 327=some (.array 256 5):=by kernel_rfl
theorem KP {P:Program} {f:FuncId} {fn:Func} {s:ChangeSpec} {c:OpenClaim}
 (h1:c.wf (OpenSpec.ofChange s)=true) (h2:laidOutB P=true) (h3:mapsRowed P=true) (h4:fn.params.all (P.readableRec ·)=true) (h5:namedTie P c.named s.vars=true) (h6:(c.stops == [])=true) (h7:(P.stops == [])=true) (h8:(c.knobs == [])=true) (h9:(P.stopKnobs == [])=true)
 (h10:(c.inPlace == P.inPlace f)=true) (h11:(c.unfollowed == P.unfollowed f)=true) (h12:(c.recurses == P.recurses f)=true) (h13:(c.named == P.varsNamed f)=true)
 (h14:(c.maps == (fn.params.toList++s.plain.varTypes P).any (P.mapsRec ·))=true) (h15:(c.ifaces == (fn.params.toList++s.plain.varTypes P).any (P.ifacesRec ·))=true) (h16:(c.mapsOut == P.mapsAmong fn.resultTypes.toList)=true)
 (h17:(c.loops == (fn.params.toList++s.plain.varTypes P).any (P.loopsFrom ·))=true) (h18:(c.wideKeys == (fn.params.toList++s.plain.varTypes P++fn.resultTypes.toList).any (P.wideKeysFrom ·))=true)
 (h19:s.vars.all (P.varReadable ·)=true) (h20:fn.resultTypes.all (fun t=>P.readableRec t && decide (t<P.types.size))=true) (h21:(c.ifacesOut == fn.resultTypes.toList.any (P.ifacesRec ·))=true) (h22:(c.loopsOut == fn.resultTypes.toList.any (P.loopsFrom ·))=true) (h23:(c.plainKeys == P.plainKeys)=true) (h24:c.shortTexts.isNone=true) (h25:P.stopsHeard=true) (h26:P.mayEnter=true) (h27:(c.lifted == P.liftsFinal)=true) (h28:(P.make == some c.make)=true)
 (h29:(c.kinds == (if c.domain.isEmpty then [] else fn.params.toList.map fun t=>match P.underlying t with | some (.int k)=>some k | _=>none))=true) (h30:(c.pinned == c.pinnedBy)=true)
 (h31:(c.veiled == (fn.params.toList++s.plain.varTypes P++fn.resultTypes.toList).any (P.veiledRec ·))=true) (h32:c.veiledFits P fn.params.toList (fn.params.toList++s.plain.varTypes P++fn.resultTypes.toList)=true):joinedFacts P f fn s c=true:=by
 unfold joinedFacts
 simp only [Bool.and_eq_true]
 and_intros <;> assumption
theorem X7 {α:Type} {l:List α} {p:α→Bool} {m k:Nat} (hm:0<m) (hl:l.length≤m*k) (h:∀ j,j<k→((l.drop (m*j)).take m).any p=false):l.any p=false:=by
 rw [List.any_eq_false]
 intro x hx
 obtain ⟨i,hi,rfl⟩:=List.getElem_of_mem hx
 have hj:i/m<k:=Nat.div_lt_of_lt_mul zO
 refine List.any_eq_false.1 (h _ hj) _ (List.mem_of_getElem? (i:=i%m) ?_)
 rw [List.getElem?_take,if_pos (Nat.mod_lt _ hm),List.getElem?_drop,Nat.div_add_mod,List.getElem?_eq_getElem hi]
theorem qc4 {P:Program} {c:OpenClaim} (h:P.funcs.toList.any Func.goes=false) (hs:c.start=.entering):false=c.goesBy P:=by
 rw [List.any_eq_false] at h
 have hg:∀ f,P.goes f=false:=fun f=>by
  unfold Program.goes
  have h1:((P.closure f).any fun g=>(P.funcs[g]?).any Func.goes)=false:=by
   rw [List.any_eq_false]
   intro g _ hh
   cases e:P.funcs[g]? with
   | none=>rw [e] at hh; cases hh
   | some fn =>
    rw [e] at hh
    exact h fn (by obtain ⟨hb,rfl⟩:=Array.getElem?_eq_some_iff.1 e; exact Array.getElem_mem_toList hb) hh
  have h2:P.funcs.any Func.goes=false:=by
   rw [← Array.any_toList,List.any_eq_false]; exact h
  rw [h1,h2,Bool.and_false]; rfl
 unfold OpenClaim.goesBy Program.goesAt Program.goesFrom
 rw [hs]
 cases P.funcNamed c.func with
 | none=>rfl
 | some f=>show false=(P.goes f || false); rw [hg]; rfl
theorem qbH {α:Type} {l:List α} {p:α→Bool} {m k:Nat} (hm:0<m) (hl:l.length≤m*k) (h:∀ j,j<k→((l.drop (m*j)).take m).all p=true):l.all p=true:=by
 rw [List.all_eq_true]
 intro x hx
 obtain ⟨i,hi,rfl⟩:=List.getElem_of_mem hx
 have hj:i/m<k:=Nat.div_lt_of_lt_mul zO
 refine List.all_eq_true.1 (h _ hj) _ (List.mem_of_getElem? (i:=i%m) ?_)
 rw [List.getElem?_take,if_pos (Nat.mod_lt _ hm),List.getElem?_drop,Nat.div_add_mod,List.getElem?_eq_getElem hi]
theorem qfL:(List.range Tryz.prog.types.size).length≤60*12:=by rw [List.length_range]; decide +kernel
theorem p_l0:(((List.range Tryz.prog.types.size).drop (60*0)).take 60).all (rowFine Tryz.prog)=true:=by kernel_rfl
theorem p_l1:(((List.range Tryz.prog.types.size).drop (60*1)).take 60).all (rowFine Tryz.prog)=true:=by kernel_rfl
theorem p_l2:(((List.range Tryz.prog.types.size).drop (60*2)).take 60).all (rowFine Tryz.prog)=true:=by kernel_rfl
theorem p_l3:(((List.range Tryz.prog.types.size).drop (60*3)).take 60).all (rowFine Tryz.prog)=true:=by kernel_rfl
theorem p_l4:(((List.range Tryz.prog.types.size).drop (60*4)).take 60).all (rowFine Tryz.prog)=true:=by kernel_rfl
theorem p_l5:(((List.range Tryz.prog.types.size).drop (60*5)).take 60).all (rowFine Tryz.prog)=true:=by kernel_rfl
theorem p_l6:(((List.range Tryz.prog.types.size).drop (60*6)).take 60).all (rowFine Tryz.prog)=true:=by kernel_rfl
theorem p_l7:(((List.range Tryz.prog.types.size).drop (60*7)).take 60).all (rowFine Tryz.prog)=true:=by kernel_rfl
theorem p_l8:(((List.range Tryz.prog.types.size).drop (60*8)).take 60).all (rowFine Tryz.prog)=true:=by kernel_rfl
theorem p_l9:(((List.range Tryz.prog.types.size).drop (60*9)).take 60).all (rowFine Tryz.prog)=true:=by kernel_rfl
theorem p_l10:(((List.range Tryz.prog.types.size).drop (60*10)).take 60).all (rowFine Tryz.prog)=true:=by kernel_rfl
theorem p_l11:(((List.range Tryz.prog.types.size).drop (60*11)).take 60).all (rowFine Tryz.prog)=true:=by kernel_rfl
theorem p_lg:Tryz.prog.globals.all (fun g=>decide (g.type<Tryz.prog.types.size))=true:=by kernel_rfl
theorem p_lf:Tryz.prog.funcs.all (fun f=>f.params.all fun t=>decide (t<Tryz.prog.types.size))=true:=by kernel_rfl
theorem qdT:laidOutB Tryz.prog=true:=by
 have h:(List.range Tryz.prog.types.size).all (rowFine Tryz.prog)=true:=qbH zd qfL fun j hj=>by
  match j,hj with
  | 0,_=>exact p_l0
  | 1,_=>exact p_l1
  | 2,_=>exact p_l2
  | 3,_=>exact p_l3
  | 4,_=>exact p_l4
  | 5,_=>exact p_l5
  | 6,_=>exact p_l6
  | 7,_=>exact p_l7
  | 8,_=>exact p_l8
  | 9,_=>exact p_l9
  | 10,_=>exact p_l10
  | 11,_=>exact p_l11
  | n+12,h=>exact absurd h zO
 unfold laidOutB
 rw [h,p_lg,p_lf]; rfl
theorem qb3:mapsRowed Tryz.prog=true:=by kernel_rfl
theorem kids:Kids Tryz.prog (·<Tryz.prog.types.size):=kids_rows qdT qb3
theorem qfM:(Tryz.prog.stops == [])=true:=by kernel_rfl
theorem qfN:(Tryz.prog.stopKnobs == [])=true:=by kernel_rfl
theorem qfO:Tryz.prog.stopsHeard=true:=by kernel_rfl
theorem qfP:Tryz.prog.mayEnter=true:=by kernel_rfl
theorem qhM:Tryz.prog.funcs.toList.length≤60*11:=by decide +kernel
theorem p_g0:((Tryz.prog.funcs.toList.drop (60*0)).take 60).any Func.goes=false:=by kernel_rfl
theorem p_g1:((Tryz.prog.funcs.toList.drop (60*1)).take 60).any Func.goes=false:=by kernel_rfl
theorem p_g2:((Tryz.prog.funcs.toList.drop (60*2)).take 60).any Func.goes=false:=by kernel_rfl
theorem p_g3:((Tryz.prog.funcs.toList.drop (60*3)).take 60).any Func.goes=false:=by kernel_rfl
theorem p_g4:((Tryz.prog.funcs.toList.drop (60*4)).take 60).any Func.goes=false:=by kernel_rfl
theorem p_g5:((Tryz.prog.funcs.toList.drop (60*5)).take 60).any Func.goes=false:=by kernel_rfl
theorem p_g6:((Tryz.prog.funcs.toList.drop (60*6)).take 60).any Func.goes=false:=by kernel_rfl
theorem p_g7:((Tryz.prog.funcs.toList.drop (60*7)).take 60).any Func.goes=false:=by kernel_rfl
theorem p_g8:((Tryz.prog.funcs.toList.drop (60*8)).take 60).any Func.goes=false:=by kernel_rfl
theorem p_g9:((Tryz.prog.funcs.toList.drop (60*9)).take 60).any Func.goes=false:=by kernel_rfl
theorem p_g10:((Tryz.prog.funcs.toList.drop (60*10)).take 60).any Func.goes=false:=by kernel_rfl
theorem qhN:Tryz.prog.funcs.toList.any Func.goes=false:=X7 zd qhM fun j hj=>by
 match j,hj with
 | 0,_=>exact p_g0
 | 1,_=>exact p_g1
 | 2,_=>exact p_g2
 | 3,_=>exact p_g3
 | 4,_=>exact p_g4
 | 5,_=>exact p_g5
 | 6,_=>exact p_g6
 | 7,_=>exact p_g7
 | 8,_=>exact p_g8
 | 9,_=>exact p_g9
 | 10,_=>exact p_g10
 | n+11,h=>exact absurd h zO
end Go.Proofs.YtcggkokeggfdkaaGreatDoor
namespace Go.Proofs.YtcggkokeggfdkaaGreatDoor
open Go
set_option maxRecDepth 100000
theorem t_id:varsId Tryz.prog=626:=by kernel_rfl
theorem t_nou:Tryz.pinned.checked.prog.headLifts.contains "ownunsafe"=false:=by kernel_rfl
theorem t_w:Tryz.prog.worded (varsWordLater true)=true:=by kernel_rfl
theorem t_w2:Tryz.prog.worded (varsWordLater !true)=false:=by kernel_rfl
theorem qhB:Tryz.prog.worded rootWordLater=true:=by kernel_rfl
theorem t_g:(Tryz.prog.funcNamed "gosem.cut.vars").isSome=true:=by kernel_rfl
theorem t_d:∀ os tape,varsDone Tryz.prog 400 626 os tape=true:=fun _ _=>by kernel_rfl
abbrev Yd:List (String × DataW Unit):=[("math/bits.deBruijn64tab",Rows.laid_math_bits_deBruijn64tab),("strings.asciiSpace",Rows.laid_strings_asciiSpace),("unicode.White_Space",Rows.laid_unicode_White_Space)]
theorem t_k:Yd.map (fun x=>Tryz.prog.kindOfLater x.1)=([.data,.data,.listed]:List LaidKind).map some:=by kernel_rfl
theorem t_n:varsNamedLaterB Tryz.prog 626 Yd=true:=by kernel_rfl
theorem t_h:∀ os tape,(DataW.laidRun Tryz.prog (varsWorld Tryz.prog 400 626 os tape).memory 8 (Yd.map (·.1))).map (·.1)=some Yd:=fun _ _=>by kernel_rfl
theorem t_i:∀ os tape,(DataW.laidRun Tryz.prog (varsWorld Tryz.prog 400 626 os tape).memory 8 (Yd.map (·.1))).map (fun x=>decide x.2.Nodup && laidRowsB Tryz.prog (varsWorld Tryz.prog 400 626 os tape).memory x.2)=some true:=fun _ _=>by kernel_rfl
theorem t_t:Tryz.prog.laidByTextLater Yd [.data,.data,.listed] true:=by
 refine Program.laidByTextLater_by_run 400 8 t_w t_w2 qhB t_k t_g ?_ ?_ ?_ ?_ (by kernel_rfl) <;> rw [t_id]
 ·exact t_n
 ·exact t_d
 ·exact t_h
 ·exact t_i
theorem Zx:Rows.kernelProgramsRow.laidByTextAt .later Tryz.pinned [.data,.data,.listed] true :=
 OpenClaim.laidByTextAt_later rfl rfl t_t t_nou
end Go.Proofs.YtcggkokeggfdkaaGreatDoor
namespace Go.Proofs.YtcggkokeggfdkaaGreatDoor
open Go Go.Sl Go.ChangeShapes Go.WideShapes Go.ChangeAt Go.RowKit
set_option maxRecDepth 100000
variable {i kb cap n now rb R:Nat} {lost k top:Int} {w0:World} {H:qg} {ad:Option Addr} {P:List (Option Nat)}
theorem qh1:Tryz.prog.globalNamed "strings.asciiSpace"=some 0:=by kernel_rfl
theorem qhC:(Tryz.prog.globals[0]?).map (·.type)=some 327:=by kernel_rfl
theorem qdD {W:World} (h:laidMetH Tryz.prog Yd W):qaR W :=
 Lib.tabIs_of_head (rest:=[("unicode.White_Space",Rows.laid_unicode_White_Space)]) qh1 qhC u327 u5 zk zk (laidMet.tail (show laidMet Tryz.prog Yd W from h))
noncomputable def laidWorld (os:Os):World :=
 let N:=(World.settled Tryz.prog os).heap.size
 let w0:=World.holding Tryz.prog os ⟨#[.cells #[.int .u16 9,.int .u16 13,.int .u16 1,.int .u16 32,.int .u16 133,.int .u16 101,.int .u16 160,.int .u16 5760,.int .u16 5600,.int .u16 8192,.int .u16 8202,.int .u16 1,.int .u16 8232,.int .u16 8233,.int .u16 1,.int .u16 8239,.int .u16 8287,.int .u16 48,.int .u16 12288,.int .u16 12288,.int .u16 1] 498,.cells #[.slice (some ⟨N,0,none⟩) 7 7,.slice none 0 0,zi 2] 496],#[],[]⟩
 let put (h:Array Obj) (g:Nat) (cs:Array Value):Array Obj:=h.modify g fun
  | .cells _ t frozen=>.cells cs t frozen
  | o=>o
 let h0:=put (put w0.heap 0 (Lib.asciiSpaceTab.map fun z=>Value.int .u8 z).toArray) 2 (Lib.deBruijn64tab.map fun z:Nat=>Value.int .u8 (z:Int)).toArray
 { w0 with heap:=put h0 1 #[.pointer (some ⟨N+1,0,none⟩)] }
theorem qd4 (os:Os) (args:Array Value):laidMet Tryz.prog Yd ((laidWorld os).forCall (fun _ _=>0) ⟨#[],args,[]⟩).memory :=
 laidMet_of_run' 8 zk zk
section
variable {H:Type} {enc:TypeId × Value→H} {w:World} {base:Nat} {held:Bool}
end
theorem ZA {m:Int} (h:-9223372036854775808≤m∧m≤9223372036854775807):IntKind.i64.wrap m=m:=IntWalk.i64_in m h
def tickT (x n:Nat):Nat:=if 18446744073709551615/8 ^ n<x then 18446744073709551615 else x*8 ^ n
structure Spot where
 lv:Nat
 slot:Nat
 at_:Nat
 due:Nat
deriving DecidableEq
def Spot.v (s:Spot):List Value:=[zi (s.lv:Int),zi (s.slot:Int),zu (s.at_:Int),zu (s.due:Int)]
def ptV (p:Option Nat):Value:=.pointer (p.map fun b=>⟨b,0,none⟩)
structure Kr where
 clk:Nat
 lf:Nat
 P:List (Option Nat)
 gd:Nat
 wm:Value
 mem:Nat
 lv:Value
 lost:Int
 C:List (Option Nat)
 tv:Value
 n:Nat
variable {r:Kr}
def knC (r:Kr):List Value:=.pointer (some ⟨r.clk,0,none⟩)::.pointer (some ⟨r.lf,0,none⟩)::(r.P.map ptV++(.pointer (some ⟨r.gd,0,none⟩)::r.wm::.pointer (some ⟨r.mem,0,none⟩)::r.lv::zi r.lost::(r.C.map ptV++[r.tv,zi (r.n:Int)])))
structure Kr.Ok (r:Kr):Prop where
 p:r.P.length=16
 c:r.C.length=32
theorem qd9 (h:r.Ok):(knC r).length=57:=by
 unfold knC
 simp only [List.length_cons,List.length_append,List.length_map,h.p,h.c,List.length_nil]
theorem qb9 (h:r.Ok) (hi:i<57):Nat.blt i (knC r).length=true:=by rw [Nat.blt_eq,qd9 h]; exact hi
theorem qca (h:r.Ok) (j:Nat):(knC r)[18+j]?=(.pointer (some ⟨r.gd,0,none⟩)::r.wm::.pointer (some ⟨r.mem,0,none⟩)::r.lv::zi r.lost::(r.C.map ptV++[r.tv,zi (r.n:Int)]))[j]?:=by
 unfold knC
 rw [show 18+j=(16+j)+1+1 by omega,List.getElem?_cons_succ,List.getElem?_cons_succ,List.getElem?_append_right (by rw [List.length_map,h.p]; omega),List.length_map,h.p,Nat.add_sub_cancel_left]
theorem XI (h:r.Ok) {j:Nat} (hj:j<5):(knC r)[18+j]?=[.pointer (some ⟨r.gd,0,none⟩),r.wm,.pointer (some ⟨r.mem,0,none⟩),r.lv,zi r.lost][j]?:=by
 rw [qca h]
 have:j=0∨j=1∨j=2∨j=3∨j=4:=by omega
 rcases this with rfl | rfl | rfl | rfl | rfl <;> rfl
theorem qb8 (h:r.Ok) (j:Nat):(knC r)[23+j]?=(r.C.map ptV++[r.tv,zi (r.n:Int)])[j]?:=by
 rw [show 23+j=18+(j+5) by omega,qca h]; rfl
theorem qhT (h:r.Ok) (j:Nat):(knC r)[55+j]?=[r.tv,zi (r.n:Int)][j]?:=by
 rw [show 55+j=23+(32+j) by omega,qb8 h,List.getElem?_append_right (by rw [List.length_map,h.c]; omega),List.length_map,h.c,Nat.add_sub_cancel_left]
theorem Q7 {p:Option Nat} (hi:r.P[i]?=some p):(knC r)[2+i]?=some (ptV p):=by
 have hl:=(List.getElem?_eq_some_iff.1 hi).1
 unfold knC
 rw [show 2+i=i+1+1 by omega,List.getElem?_cons_succ,List.getElem?_cons_succ,List.getElem?_append_left (by rw [List.length_map]; exact hl),List.getElem?_map,hi]; rfl
theorem qhU (h:r.Ok) {p:Option Nat} (hi:r.C[i]?=some p):(knC r)[23+i]?=some (ptV p):=by
 have hl:=(List.getElem?_eq_some_iff.1 hi).1
 rw [qb8 h,List.getElem?_append_left (by rw [List.length_map]; exact hl),List.getElem?_map,hi]; rfl
theorem KO (h:r.Ok) (j:Nat) (v:Value):(knC r).set (18+j) v=.pointer (some ⟨r.clk,0,none⟩)::.pointer (some ⟨r.lf,0,none⟩)::(r.P.map ptV++(.pointer (some ⟨r.gd,0,none⟩)::r.wm::.pointer (some ⟨r.mem,0,none⟩)::r.lv::zi r.lost::(r.C.map ptV++[r.tv,zi (r.n:Int)])).set j v):=by
 unfold knC
 rw [show 18+j=(16+j)+1+1 by omega,List.set_cons_succ,List.set_cons_succ,List.set_append_right _ _ (by rw [List.length_map,h.p]; omega),List.length_map,h.p,Nat.add_sub_cancel_left]
theorem kn_lv (h:r.Ok) (v:Value):(knC r).set 21 v=knC { r with lv:=v }:=KO h 3 v
theorem qf1 (h:r.Ok) (z:Int):(knC r).set 22 (zi z)=knC { r with lost:=z }:=KO h 4 _
def Kr.lg (r:Kr) (v:Value) (z:Int):Kr:={ r with lv:=v,lost:=z }
theorem Kr.lg_self (r:Kr):r.lg r.lv r.lost=r:=rfl
structure Ev where
 tick:Int
 kind:Int
 a:Int
 b:Int
 n:Int
deriving DecidableEq
variable {L:List Ev} {e:Ev}
def evC (v:Ev):List Value:=[zu v.tick,zi v.kind,zi v.a,zi v.b,zu v.n]
instance:Inhabited Ev:=⟨⟨0,0,0,0,0⟩⟩
def Ev.In (v:Ev):Prop:=(0≤v.tick∧v.tick≤18446744073709551615)∧(-9223372036854775808≤v.kind∧v.kind≤9223372036854775807)∧(-9223372036854775808≤v.a∧v.a≤9223372036854775807)∧(-9223372036854775808≤v.b∧v.b≤9223372036854775807)∧(0≤v.n∧v.n≤18446744073709551615)
theorem qcl (v:Ev):(evC v).length=5:=rfl
def Z0 (e:Ev):Prop:=0≤e.kind∧e.kind≤11
instance (e:Ev):Decidable (Z0 e):=inferInstanceAs (Decidable (_∧_))
def QF (L:List Ev) (lost:Int) (e:Ev):List Ev × Int:=if ¬ Z0 e then (L,lost) else if L.length=4096 then (L,lost+1) else (L++[e],lost)
theorem Z1 (h:L.length≤4096):(QF L lost e).1.length≤4096:=by
 unfold QF
 split
 ·exact h
 ·split
  ·exact h
  ·rw [List.length_append,List.length_singleton]; omega
theorem qa7:Qc Tryz.prog (fun _=>True) 136 [.agg (List.toArray (evC e))] (.bool (decide (Z0 e))):=by
 intro w0 H hT
 refine qi Tryz.func136 rfl Tryz.ntmps136 rfl rfl (zr ?_)
 refine qS (l:=evC e) rfl rfl rfl (fun b1=>?_)
 refine za 4 rfl ?_
 refine qe (v:=zi e.kind) rfl ty3 rfl (qh.own (b:=b1) zM rfl) rfl ?_
 refine za 2 rfl ?_
 apply zj
 iterate 4 exact rfl
 case h1 =>
  intro hg3
  refine za 3 rfl ?_
  refine qe (v:=zi e.kind) rfl ty3 rfl (qh.own (b:=b1) zM rfl) rfl ?_
  refine za 2 rfl ?_
  exact qO rfl zR
 refine za 2 rfl ?_
 refine qj (H2:=H) Tryz.results136 rfl (.nil _) zH ?_
 exact ⟨congrArg Value.bool (show (decide (0≤e.kind) && decide (e.kind≤11))=decide (Z0 e) by rw [← Bool.decide_and]; rfl),rfl⟩
theorem qfH (h:¬ Z0 e):QF L lost e=(L,lost):=if_pos h
theorem qcT (h:Z0 e) (hl:L.length=4096):QF L lost e=(L,lost+1):=by unfold QF; rw [if_neg (fun q=>q h),if_pos hl]
theorem qdS (h:Z0 e) (hl:¬ L.length=4096):QF L lost e=(L++[e],lost):=by unfold QF; rw [if_neg (fun q=>q h),if_neg hl]
theorem qd2 {XB:qg} (hr:r.Ok) (hO:qQ 91 5 r.lv L.length (L.flatMap evC) XB) (hL:L.length≤4096) (hlo:0≤r.lost∧r.lost≤1000000000) (hrow:∀ HZ:qg,qq w0 (HZ++H) ad ([e].flatMap evC)) :qt Tryz.prog w0 110 #[.pointer (some ⟨kb,21,none⟩),.slice ad 1 cap] ((kb,.cells 113 57 (knC r))::(XB++H)) (fun v H'=>∃ lv XB',qQ 91 5 lv (QF L r.lost e).1.length ((QF L r.lost e).1.flatMap evC) XB'∧(∃ m,v=zi m)∧H'=(kb,.cells 113 57 (knC (r.lg lv (QF L r.lost e).2)))::(XB'++H)):=by
 refine qi (l:=[.pointer (some ⟨kb,21,none⟩),.slice ad 1 cap]) Tryz.func110 rfl Tryz.ntmps110 rfl rfl ?_
 refine za 6 rfl ?_
 refine W_x (qY rfl rfl ty217) (fun _ h=>by cases h) rfl ?_
 refine za 4 rfl ?_
 obtain ⟨ad0,cap0,hlv,hc1,hc2⟩:=hO.shape
 refine za 3 rfl ?_
 refine qe (v:=.slice ad0 L.length cap0) rfl Zo rfl (qh.own (b:=kb) zM ((XI hr (j:=3) (by decide)).trans (by rw [← hlv]; rfl))) rfl ?_
 refine zb rfl Zo rfl rfl (za 5 rfl (zb rfl Zo rfl rfl (za 3 rfl ?_)))
 refine z0 (X:=(Nat × Value × Int × qg × List Ev)) [(0,_),(5,_),(15,_),(16,_)] (fun (z:(Nat × Value × Int × qg × List Ev))=>[(17,zi (z.1:Int))]) (fun _=>_) (fun (z:(Nat × Value × Int × qg × List Ev))=>(kb,.cells 113 57 (knC (r.lg z.2.1 z.2.2.1)))::(z.2.2.2.1++H)) (fun (z:(Nat × Value × Int × qg × List Ev))=>z.1≤1∧qQ 91 5 z.2.1 z.2.2.2.2.length (z.2.2.2.2.flatMap evC) z.2.2.2.1∧(z.1=0→z=(0,r.lv,r.lost,XB,L))∧(z.1=1→(z.2.2.2.2,z.2.2.1)=QF L r.lost e)) (fun (z:(Nat × Value × Int × qg × List Ev))=>1-z.1) (0,r.lv,r.lost,XB,L) ⟨Nat.zero_le _,hO,fun _=>rfl,fun h=>(by cases h)⟩ (qc rfl (qc rfl (qc rfl (qc rfl (qm _))))) (qc rfl (qm _)) rfl zH ?_
 rintro ⟨i,v1,lost1,XB1,L1⟩ ⟨hi,hO1,h0,h1⟩
 dsimp only at hi hO1 h0 h1 ⊢
 simp only [List.cons_append,List.nil_append]
 refine za 4 rfl ?_
 refine qv (p:=i<1) rfl (by rw [decide_eq_true_eq]; omega) (fun q0=>?_) (fun q0=>?_)
 ·skip
  refine za 4 rfl ?_
  obtain rfl:i=0:=by omega
  have e0:=h0 rfl
  simp only [Prod.mk.injEq,true_and] at e0
  obtain ⟨rfl,rfl,rfl,rfl⟩:r.lv=v1∧r.lost=lost1∧XB=XB1∧L=L1:=⟨e0.1.symm,e0.2.1.symm,e0.2.2.1.symm,e0.2.2.2.symm⟩
  obtain ⟨qa,pa,had,hca⟩:=(show qq w0 H ad ([e].flatMap evC) from hrow []).row (f:=evC) (l:=[e]) (i:=0) (x:=e) qcl zd rfl
  subst had
  rw [Kr.lg_self]
  refine qN (j:=0) rfl rfl Zo QZ rfl zd rfl rfl ?_
  refine QJ (vs:=evC e) rfl QZ rfl rfl ((hca.up zH)) rfl ?_
  refine qH (l:=evC ⟨0,0,0,0,0⟩) QZ rfl rfl (fun b7=>?_)
  refine qk (l':=evC e) rfl rfl QZ rfl rfl (b:=b7) zM (by exact Nat.le_refl 5) rfl zU ?_
  refine za 3 rfl ?_
  refine q8 (vs:=evC e) rfl QZ rfl (b:=b7) zM rfl rfl rfl ?_
  refine qB (zc1 rfl) Tryz.call136 rfl (T:=fun _=>True) trivial qa7 ?_
  refine za 3 rfl ?_
  refine qv (p:=¬ Z0 e) rfl (by simp) (fun q1=>?_) (fun q1=>?_)
  ·skip
   refine za 4 rfl ?_
   refine qC rfl rfl (qX (m:=1) rfl) rfl ?_
   refine za 2 rfl ?_
   refine qW (1,r.lv,r.lost,XB,L) ⟨Nat.le_refl _,hO,fun h=>(by cases h),fun _=>(qfH (by simpa using q1)).symm⟩ (by show 1-1<1-0; decide) (qc rfl (qc rfl (qc rfl (qc rfl (qc rfl (qm _)))))) rfl (by show qd _ ((kb,.cells 113 57 (knC (r.lg r.lv r.lost)))::(XB++H)); rw [Kr.lg_self]; first | exact qz | (repeat (first | with_reducible exact qd.refl _ | refine qd.cons zT ?_ | refine qd.app zS ?_ | exact qd.nil _ | exact qd.refl _ | refine qd.drop ?_ | refine qd.dropS ?_)))
  ·skip
   refine za 4 rfl ?_
   refine qe (v:=.slice ad0 L.length cap0) rfl Zo rfl (qh.own (b:=kb) zM ((XI hr (j:=3) (by decide)).trans (by rw [← hlv]; rfl))) rfl ?_
   refine zb rfl Zo rfl rfl (za 3 rfl ?_)
   refine qv (p:=L.length=4096) rfl (by rw [decide_eq_true_eq]; omega) (fun q2=>?_) (fun q2=>?_)
   ·skip
    refine za 4 rfl ?_
    refine qe (v:=zi r.lost) rfl ty3 rfl (qh.own (b:=kb) zM (XI hr (j:=4) zd)) rfl ?_
    refine qC rfl rfl (qX (m:=r.lost+1) (ZA zO)) rfl ?_
    refine za 2 rfl ?_
    refine q7 (l':=knC (r.lg r.lv (r.lost+1))) rfl rfl ty3 rfl rfl (b:=kb) zM (qb9 hr zd) (qf1 hr _) zU ?_
    refine za 4 rfl ?_
    refine qC rfl rfl (qX (m:=1) rfl) rfl ?_
    refine za 2 rfl ?_
    refine qW (1,r.lv,r.lost+1,XB,L) ⟨Nat.le_refl _,hO,fun h=>(by cases h),fun _=>(qcT (by simpa using q1) (by omega)).symm⟩ (by show 1-1<1-0; decide) (qc rfl (qc rfl (qc rfl (qc rfl (qc rfl (qm _)))))) rfl (show qd _ ((kb,.cells 113 57 (knC (r.lg r.lv (r.lost+1))))::(XB++H)) from zH)
   ·skip
    refine qfg [(kb,.cells 113 57 (knC r)),(b7,.cells 91 5 (evC e))] 10 zk ?_
    refine z3 0 rfl rfl zK zK zK zK rfl rfl (Jg rfl) rfl ?_
    refine z3 1 rfl rfl zK zK zK zK rfl rfl (Jg rfl) rfl ?_
    refine z3 2 rfl rfl zK zK zK zK rfl rfl (QT rfl) rfl ?_
    refine z3 3 rfl rfl zK zK zK zK rfl rfl (QB rfl XW zd) rfl ?_
    refine z3 4 rfl rfl zK zK zK zK rfl rfl (qZ (v:=r.lv) rfl Zo rfl (qh.own (b:=kb) zM (XI hr (j:=3) zd))) rfl ?_
    refine z3 5 rfl rfl zK zK zK zK rfl rfl (Jm (vs:=evC e) rfl QZ rfl (b:=b7) zM rfl rfl) rfl ?_
    refine Ka 6 zH rfl zK rfl rfl ?_
    refine qy (l:=evC e) Zo QZ (.cons rfl rfl rfl rfl rfl .nil) rfl rfl rfl rfl rfl rfl rfl (fun b27=>?_)
    refine qA ?_
    refine Yv ?_
    refine Ka 7 zH rfl zK rfl rfl ?_
    refine zy (news:=evC e) (m:=1) (HB:=XB) (H0:=(kb,.cells 113 57 (knC r))::(b7,.cells 91 5 (evC e))::H) rfl rfl Zo QZ rfl (by decide) hO rfl (qq.own (b:=b27) zM) rfl (by simp only [maxLen]; omega) (by omega) zH rfl (fun v' XB' hO'=>?_)
    obtain ⟨ad2,cap2,rfl,hc5,hc6⟩:=hO'.shape
    refine qA ?_
    refine Yv ?_
    refine qaQ 8 rfl rfl zK zK zK rfl rfl (QT rfl) rfl ?_
    refine z3 9 rfl rfl zK zK zK zK rfl rfl (QB rfl XW zd) rfl ?_
    refine qcx zH zK rfl rfl ?_
    refine q7 (l':=knC (r.lg (.slice ad2 (L.length+1) cap2) r.lost)) rfl rfl Zo rfl rfl (b:=kb) zM (qb9 hr zd) (kn_lv hr _) zU ?_
    refine qA (Zc (Yx (.nil _) zK (za 3 rfl ?_)))
    refine qC rfl rfl (qX (m:=1) rfl) rfl ?_
    refine za 2 rfl ?_
    refine qW (1,.slice ad2 (L.length+1) cap2,r.lost,XB',L++[e]) ⟨Nat.le_refl _,by show qQ _ 5 (.slice ad2 (L.length+1) cap2) (L++[e]).length ((L++[e]).flatMap evC) XB'; rw [List.length_append,List.flatMap_append]; simpa using hO',fun h=>(by cases h),fun _=>(qdS (by simpa using q1) (by omega)).symm⟩ (by show 1-1<1-0; decide) (qc rfl (qc rfl (qc rfl (qc rfl (qc rfl (qm _)))))) rfl (show qd _ ((kb,.cells 113 57 (knC (r.lg (.slice ad2 (L.length+1) cap2) r.lost)))::(XB'++H)) from zH)
 ·skip
  refine za 2 rfl ?_
  obtain rfl:i=1:=by omega
  have he:=h1 rfl
  have hl1:L1.length≤4096:=by have:=Z1 (lost:=r.lost) (e:=e) hL; rw [← he] at this; exact this
  obtain ⟨ad1,cap1,hlv1,hc3,hc4⟩:=hO1.shape
  refine za 3 rfl ?_
  refine qe (v:=.slice ad1 L1.length cap1) rfl Zo rfl (qh.own (b:=kb) zM ((XI (r:=r.lg v1 lost1) ⟨hr.p,hr.c⟩ (j:=3) (by decide)).trans (by rw [← hlv1]; rfl))) rfl ?_
  refine zb rfl Zo rfl rfl (qM rfl rfl ?_)
  refine qC rfl rfl (Jx (m:=(L1.length:Int)-(L.length:Int)) (ZA zO)) rfl ?_
  refine za 2 rfl ?_
  refine qj (H2:=(kb,.cells 113 57 (knC (r.lg v1 lost1)))::(XB1++H)) Tryz.results110 rfl (.nil _) zH ?_
  rw [← he]
  exact ⟨v1,XB1,hO1,⟨_,rfl⟩,rfl⟩
def g1 (b:Nat):Nat:=((b >>> 1) &&& 85)+(b &&& 85)
def g2 (b:Nat):Nat:=((b >>> 2) &&& 51)+(b &&& 51)
def g3 (b:Nat):Nat:=(b/16+b)%16
theorem qai {α:Type} {f:α→List Value} {s:Nat} (hf:∀ x,(f x).length=s) (l:List α):(l.flatMap f).length=l.length*s:=by
 induction l with
 | nil=>simp
 | cons y l ih=>rw [List.flatMap_cons,List.length_append,hf,ih,List.length_cons,Nat.succ_mul]; omega
structure W4 where
 a:Int
 b:Int
 c:Int
 d:Int
deriving DecidableEq
def W4.get (w:W4):Nat→Int
 | 0=>w.a
 | 1=>w.b
 | 2=>w.c
 | _=>w.d
def W4.put (w:W4) (i:Nat) (x:Int):W4:=match i with
 | 0=>{ w with a:=x }
 | 1=>{ w with b:=x }
 | 2=>{ w with c:=x }
 | _=>{ w with d:=x }
def W4.vals (w:W4):List Value:=[zu w.a,zu w.b,zu w.c,zu w.d]
def zW:W4:=⟨0,0,0,0⟩
def W4.of (l:List Int):W4:=⟨l.getD 0 0,l.getD 1 0,l.getD 2 0,l.getD 3 0⟩
structure Hd where
 slot:Int
 gen:Int
deriving DecidableEq
def hdC (h:Hd):List Value:=[zi h.slot,zi h.gen]
def zHd:Hd:=⟨0,0⟩
structure Cel where
 key:Int
 w:W4
deriving DecidableEq
def qdq:Cel:=⟨0,zW⟩
structure Slt where
 own:Hd
 st:Nat
 cel:Cel
deriving DecidableEq
def sltC (s:Slt):List Value:=[zi s.own.slot,zi s.own.gen,zu s.cel.key,zu s.cel.w.a,zu s.cel.w.b,zu s.cel.w.c,zu s.cel.w.d]
def relS (s:Slt):Slt:=if s.own.gen=255 then ⟨s.own,2,qdq⟩ else ⟨⟨s.own.slot,s.own.gen+1⟩,0,qdq⟩
def XY (L:List Slt) (h:Hd):Int:=if h.slot<0∨(L.length:Int)≤h.slot then 2 else match L[h.slot.toNat]? with
 | some s=>if s.st=1∧s.own=h then 0 else 7
 | none=>2
def celA (L:List Slt) (h:Hd):Cel:=match L[h.slot.toNat]? with
 | some s=>if XY L h=0 then s.cel else qdq
 | none=>qdq
def qdF (L:List Slt) (h:Hd) (f:Slt→Slt):List Slt:=match L[h.slot.toNat]? with
 | some s=>if XY L h=0 then L.set h.slot.toNat (f s) else L
 | none=>L
def qh3 (L:List Slt):Option Nat:=L.findIdx? (fun s=>decide (s.st=0))
def cntA (n:Nat) (L:List Slt):Nat:=L.countP (fun s=>decide (s.st=n))
def qfi (n:Nat) (L:List Slt) (m:Nat):Prop:=m<18446744073709551616∧∀ i,m.testBit i=(match L[i]? with
 | some s=>decide (s.st=n)
 | none=>false)
structure qht (L:List Slt):Prop where
 len:1≤L.length∧L.length≤64
 own:∀ i s,L[i]?=some s→s.own.slot=((i:Nat):Int)∧1≤s.own.gen∧s.own.gen≤255
theorem qh9:∃ f:Int→Nat,∀ k,f k=((k*11400714819323198485%18446744073709551616)/4294967296%8).toNat:=⟨_,fun _=>rfl⟩
noncomputable def bkt:Int→Nat:=Classical.choose qh9
def entC (p:Int × Hd):List Value:=[zu p.1,zi p.2.slot,zi p.2.gen]
noncomputable def inB (C:List (Int × Hd)) (b:Nat):List (Int × Hd):=C.filter (fun p=>decide (bkt p.1=b))
def qga (C:List (Int × Hd)) (k:Int):Option Hd:=(C.find? (fun p=>decide (p.1=k))).map (·.2)
def delC (C:List (Int × Hd)) (k:Int):List (Int × Hd):=C.filter (fun p=>decide (p.1≠k))
noncomputable def keysC (C:List (Int × Hd)):List Int:=(List.range 8).flatMap (fun b=>(inB C b).map (·.1))
abbrev qf4 (C:List (Int × Hd)):List Int:=C.map (·.1)
def mkV (m:Nat):Value:=zu ((m:Nat):Int)
structure Gd where
 M:List Nat
 ms:List Int
def gdC (ab n:Nat) (ms:List Int):List Value:=.slice (some ⟨ab,0,none⟩) n n::ms.map (Value.int .i64)
structure GdOk (n:Nat) (G:Gd):Prop where
 n64:1≤n∧n≤64
 len:G.M.length=n
 ms:G.ms.length=16
 m64:∀ m∈G.M,m<18446744073709551616
 mz:∀ z∈G.ms,0≤z∧z≤255
inductive GdH (gb n:Nat) (G:Gd):qg→Prop
 | mk {ab:Nat} (hok:GdOk n G):GdH gb n G [(gb,.cells 209 17 (gdC ab n G.ms)),(ab,.cells 53 (n*1) ((G.M).map mkV))]
theorem qf8 (hn:1≤n∧n≤64) :qt Tryz.prog w0 51 #[zi (n:Int)] (H) (fun v H'=>∃ gb HG,v=.tuple #[zp gb,zi 0]∧GdH gb n ⟨List.replicate n 0,List.replicate 16 0⟩ HG∧H'=HG++H):=by
 refine qi (l:=[zi (n:Int)]) Tryz.func51 rfl Tryz.ntmps51 rfl rfl ?_
 refine za 8 rfl ?_
 rw [decide_eq_false (by omega)]
 refine za 5 rfl ?_
 rw [decide_eq_false (by omega)]
 refine za 6 rfl ?_
 refine Zb (ln:=n) (cp:=n) (l:=(List.replicate n 0).map mkV) rfl rfl ty207 qdw rfl rfl (Nat.le_refl _) (by omega) (by simp only [maxLen]; omega) (by rw [Nat.mul_one]; simp [toList_madeCells_one,Value.cells,mkV]) rfl (fun ab=>?_)
 refine ql (l:=gdC ab n (List.replicate 16 0)) ty209 pl209 (.cons rfl rfl rfl rfl rfl .nil) rfl rfl rfl ?_
 refine qS (l:=gdC ab n (List.replicate 16 0)) rfl rfl rfl (fun gb=>?_)
 refine za 3 rfl ?_
 refine qF (H2:=(gb,.cells 209 17 (gdC ab n (List.replicate 16 0)))::(ab,.cells 53 (n*1) ((List.replicate n 0).map mkV))::H) Tryz.results51 rfl rfl (.nil _) zH ?_
 exact ⟨gb,_,rfl,.mk (G:=⟨List.replicate n 0,List.replicate 16 0⟩) ⟨hn,List.length_replicate,List.length_replicate,fun m hm=>by rw [(List.mem_replicate.1 hm).2]; decide,fun z hz=>by rw [(List.mem_replicate.1 hz).2]; decide⟩,rfl⟩
theorem cAt_L:qt Tryz.prog w0 52 #[zu ((now:Nat):Int)] (H) (fun v H'=>∃ cb,v=zp cb∧H'=(cb,.cells 211 1 [zu ((now:Nat):Int)])::H):=by
 refine qi (l:=[zu ((now:Nat):Int)]) Tryz.func52 rfl Tryz.ntmps52 rfl rfl ?_
 refine za 5 rfl ?_
 refine ql (l:=[zu ((now:Nat):Int)]) ty211 pl211 (.cons rfl rfl rfl rfl rfl .nil) rfl rfl rfl ?_
 refine qS (l:=[zu ((now:Nat):Int)]) rfl rfl rfl (fun cb=>?_)
 refine za 2 rfl ?_
 refine qj (H2:=(cb,.cells 211 1 [zu ((now:Nat):Int)])::H) Tryz.results52 rfl (.nil _) zH ?_
 exact ⟨cb,rfl,rfl⟩
theorem qh8 {cb:Nat} (hm:(cb,.cells 211 1 [zu ((now:Nat):Int)])∈H) :qR Tryz.prog w0 H 53 [zp cb] (zu ((now:Nat):Int)):=by
 refine qi Tryz.func53 rfl Tryz.ntmps53 rfl rfl (za 6 rfl ?_)
 refine W_x (qY rfl rfl qdA) (fun _ h=>by cases h) rfl ?_
 refine za 7 rfl ?_
 refine qe (v:=zu ((now:Nat):Int)) rfl ZQ rfl (qh.own (b:=cb) hm rfl) rfl ?_
 refine za 2 rfl ?_
 refine qj (H2:=H) Tryz.results53 rfl (.nil _) zH ?_
 exact ⟨rfl,rfl⟩
structure Mm where
 bs:List Int
 pg:List Int
def mmC (bb k:Nat) (pg:List Int):List Value:=.slice (some ⟨bb,0,none⟩) k k::pg.map (Value.int .i64)
inductive MmH (mb p:Nat) (M:Mm):qg→Prop
 | mk {bb:Nat} (hp:1≤p∧p≤16) (hb:M.bs.length=16*p) (hg:M.pg.length=16) (h8:∀ z∈M.bs,0≤z∧z≤255):MmH mb p M [(mb,.cells 206 17 (mmC bb (16*p) M.pg)),(bb,.cells 5 (16*p*1) (M.bs.map (Value.int .u8)))]
theorem qfS {p:Nat} (hp:1≤p∧p≤16) :qt Tryz.prog w0 50 #[zi (p:Int)] (H) (fun v H'=>∃ mb HM,v=.tuple #[zp mb,zi 0]∧MmH mb p ⟨List.replicate (16*p) 0,List.replicate 16 0⟩ HM∧H'=HM++H):=by
 refine qi (l:=[zi (p:Int)]) Tryz.func50 rfl Tryz.ntmps50 rfl rfl ?_
 refine za 8 rfl ?_
 rw [decide_eq_false (by omega)]
 refine za 5 rfl ?_
 rw [decide_eq_false (by omega)]
 refine za 6 rfl ?_
 refine qC rfl rfl (qhk (m:=((16*p:Nat):Int)) (by rw [ZA (by omega)]; omega)) rfl ?_
 refine Zb (ln:=16*p) (cp:=16*p) (l:=(List.replicate (16*p) (0:Int)).map (Value.int .u8)) rfl rfl Qx ty5 rfl rfl (Nat.le_refl _) (by omega) (by simp only [maxLen]; omega) (by rw [Nat.mul_one]; simp [toList_madeCells_one,Value.cells]) rfl (fun bb=>?_)
 refine ql (l:=mmC bb (16*p) (List.replicate 16 0)) ty206 pl206 (.cons rfl rfl rfl rfl rfl .nil) rfl rfl rfl ?_
 refine qS (l:=mmC bb (16*p) (List.replicate 16 0)) rfl rfl rfl (fun mb=>?_)
 refine za 3 rfl ?_
 refine qF (H2:=(mb,.cells 206 17 (mmC bb (16*p) (List.replicate 16 0)))::(bb,.cells 5 (16*p*1) ((List.replicate (16*p) (0:Int)).map (Value.int .u8)))::H) Tryz.results50 rfl rfl (.nil _) zH ?_
 exact ⟨mb,_,rfl,.mk (M:=⟨List.replicate (16*p) 0,List.replicate 16 0⟩) hp List.length_replicate List.length_replicate (fun z hz=>by rw [(List.mem_replicate.1 hz).2]; decide),rfl⟩
def qbh (P:List (Option Nat)):Int:=match P.findIdx? (fun p=>p.isNone) with
 | some i=>(i:Int)
 | none=>-1
theorem Xh (h:P[i]?=some none) (hb:∀ (j:Nat) p,j<i→P[j]?=some p→p.isNone=false):qbh P=(i:Int):=by
 unfold qbh
 have hi:=List.getElem?_eq_some_iff.1 h
 rw [List.findIdx?_eq_some_iff_getElem.2 ⟨hi.1,by rw [hi.2]; rfl,fun j hj=>by rw [hb j _ hj (List.getElem?_eq_getElem (by have:=hi.1; omega))]; simp⟩]
theorem qb5 (hb:∀ (j:Nat) p,P[j]?=some p→p.isNone=false):qbh P=-1:=by
 unfold qbh
 rw [List.findIdx?_eq_none_iff.2 (fun p hp=>by obtain ⟨j,hj⟩:=List.getElem?_of_mem hp; exact hb j p hj)]
theorem qf6 (hrow:qq w0 H ad (P.map ptV)) (hl:P.length≤1000) :qR Tryz.prog w0 H 229 [.slice ad P.length cap,.pointer none] (zi (qbh P)):=by
 refine qi Tryz.func229 rfl Tryz.ntmps229 rfl rfl (za 6 rfl (zb rfl qg3 rfl rfl (za 3 rfl ?_)))
 refine z0 (X:=Nat) [(0,_),(1,_),(7,_)] (fun (i:Nat)=>[(8,zi (i:Int))]) (fun _=>_) (fun _=>_) (fun (i:Nat)=>i≤P.length∧∀ (j:Nat) p,j<i→P[j]?=some p→p.isNone=false) (fun (i:Nat)=>P.length-i) 0 ⟨Nat.zero_le _,fun j p h=>absurd h (Nat.not_lt_zero _)⟩ (qc rfl (qc rfl (qc rfl (qm _)))) (qc rfl (qm _)) rfl zH ?_
 intro i hI
 obtain ⟨hi,hI⟩:=hI
 simp only [List.cons_append,List.nil_append]
 refine za 4 rfl ?_
 refine qv (p:=i<P.length) rfl (by rw [decide_eq_true_eq]; omega) (fun q0=>?_) (fun q0=>?_)
 ·skip
  refine za 10 rfl ?_
  obtain ⟨pi,hPi⟩:∃ p,P[i]?=some p:=⟨_,List.getElem?_eq_getElem zO⟩
  obtain ⟨qb,qo,rfl,hcp⟩:=hrow.at (i:=i) (v:=ptV pi) (by rw [List.getElem?_map,hPi]; rfl)
  refine qM rfl rfl ?_
  refine qN (j:=i) rfl rfl qg3 Jr rfl zO rfl rfl ?_
  refine qe (v:=ptV pi) rfl Jr rfl (by rw [Nat.mul_one]; exact hcp) rfl ?_
  refine W_x (qaJ (ad:=pi.map fun b=>⟨b,0,none⟩) rfl rfl Jr) (fun _ h=>by cases h) rfl ?_
  refine qA ?_
  refine qv (p:=pi.isNone=true) rfl (by cases pi <;> simp) (fun q1=>?_) (fun q1=>?_)
  ·skip
   refine za 4 rfl ?_
   refine qj (H2:=H) Tryz.results229 rfl (.nil _) zH ?_
   obtain rfl:pi=none:=by cases pi; rfl; cases q1
   exact ⟨by rw [Xh hPi hI],rfl⟩
  ·skip
   refine za 3 rfl ?_
   refine qC rfl rfl (qX (m:=((i+1:Nat):Int)) ((ZA zO).trans zO)) rfl ?_
   refine za 2 rfl ?_
   refine qW (i+1) ⟨by omega,fun j p hj hp=>by by_cases e:j=i; (subst e; rw [hPi] at hp; cases hp; cases hpi:pi.isNone with | false=>rfl | true=>exact absurd hpi q1); exact hI j p (by omega) hp⟩ (by omega) (qc rfl (qc rfl (qc rfl (qc rfl (qm _))))) rfl zH
 ·skip
  refine za 4 rfl ?_
  refine qj (H2:=H) Tryz.results229 rfl (.nil _) zH ?_
  obtain rfl:i=P.length:=by omega
  exact ⟨by rw [qb5 (fun j p hp=>hI j p (List.getElem?_eq_some_iff.1 hp).1 hp)],rfl⟩
theorem qeb (hrow:qq w0 H ad (P.map ptV)) (hl:P.length≤1000) :qR Tryz.prog w0 H 162 [.slice ad P.length cap,.pointer none] (zi (qbh P)):=by
 refine qi Tryz.func162 rfl Tryz.ntmps162 rfl rfl (za 6 rfl (zb rfl qg6 rfl rfl (za 3 rfl ?_)))
 refine z0 (X:=Nat) [(0,_),(1,_),(7,_)] (fun (i:Nat)=>[(8,zi (i:Int))]) (fun _=>_) (fun _=>_) (fun (i:Nat)=>i≤P.length∧∀ (j:Nat) p,j<i→P[j]?=some p→p.isNone=false) (fun (i:Nat)=>P.length-i) 0 ⟨Nat.zero_le _,fun j p h=>absurd h (Nat.not_lt_zero _)⟩ (qc rfl (qc rfl (qc rfl (qm _)))) (qc rfl (qm _)) rfl zH ?_
 intro i hI
 obtain ⟨hi,hI⟩:=hI
 simp only [List.cons_append,List.nil_append]
 refine za 4 rfl ?_
 refine qv (p:=i<P.length) rfl (by rw [decide_eq_true_eq]; omega) (fun q0=>?_) (fun q0=>?_)
 ·skip
  refine za 10 rfl ?_
  obtain ⟨pi,hPi⟩:∃ p,P[i]?=some p:=⟨_,List.getElem?_eq_getElem zO⟩
  obtain ⟨qb,qo,rfl,hcp⟩:=hrow.at (i:=i) (v:=ptV pi) (by rw [List.getElem?_map,hPi]; rfl)
  refine qM rfl rfl ?_
  refine qN (j:=i) rfl rfl qg6 QD rfl zO rfl rfl ?_
  refine qe (v:=ptV pi) rfl QD rfl (by rw [Nat.mul_one]; exact hcp) rfl ?_
  refine W_x (qaJ (ad:=pi.map fun b=>⟨b,0,none⟩) rfl rfl QD) (fun _ h=>by cases h) rfl ?_
  refine qA ?_
  refine qv (p:=pi.isNone=true) rfl (by cases pi <;> simp) (fun q1=>?_) (fun q1=>?_)
  ·skip
   refine za 4 rfl ?_
   refine qj (H2:=H) Tryz.results162 rfl (.nil _) zH ?_
   obtain rfl:pi=none:=by cases pi; rfl; cases q1
   exact ⟨by rw [Xh hPi hI],rfl⟩
  ·skip
   refine za 3 rfl ?_
   refine qC rfl rfl (qX (m:=((i+1:Nat):Int)) ((ZA zO).trans zO)) rfl ?_
   refine za 2 rfl ?_
   refine qW (i+1) ⟨by omega,fun j p hj hp=>by by_cases e:j=i; (subst e; rw [hPi] at hp; cases hp; cases hpi:pi.isNone with | false=>rfl | true=>exact absurd hpi q1); exact hI j p (by omega) hp⟩ (by omega) (qc rfl (qc rfl (qc rfl (qc rfl (qm _))))) rfl zH
 ·skip
  refine za 4 rfl ?_
  refine qj (H2:=H) Tryz.results162 rfl (.nil _) zH ?_
  obtain rfl:i=P.length:=by omega
  exact ⟨by rw [qb5 (fun j p hp=>hI j p (List.getElem?_eq_some_iff.1 hp).1 hp)],rfl⟩
theorem qhV (h:r.Ok):((knC r).drop 23).take 32=r.C.map ptV:=by
 have e:(knC r).drop 23=r.C.map ptV++[r.tv,zi (r.n:Int)]:=by
  unfold knC
  rw [show 23=(16+5)+1+1 from rfl,List.drop_succ_cons,List.drop_succ_cons,List.drop_append,List.drop_eq_nil_of_le (by rw [List.length_map,h.p]; omega),List.length_map,h.p]; rfl
 rw [e,List.take_append_of_le_length (by rw [List.length_map,h.c]; omega),List.take_of_length_le (by rw [List.length_map,h.c]; omega)]
theorem qf0 (h:r.Ok) (hm:(kb,.cells 113 57 (knC r))∈H):qq w0 H (some ⟨kb,23,none⟩) (r.C.map ptV):=fun j x hx=>by
 obtain ⟨p,hp,rfl⟩:∃ p,r.C[j]?=some p∧ptV p=x:=by rw [List.getElem?_map] at hx; exact Option.map_eq_some_iff.1 hx
 exact ⟨kb,23,rfl,qh.own hm (qhU h hp)⟩
theorem qd8 (hm:(kb,.cells 113 57 (knC r))∈H):qq w0 H (some ⟨kb,2,none⟩) (r.P.map ptV):=fun j x hx=>by
 obtain ⟨p,hp,rfl⟩:∃ p,r.P[j]?=some p∧ptV p=x:=by rw [List.getElem?_map] at hx; exact Option.map_eq_some_iff.1 hx
 exact ⟨kb,2,rfl,qh.own hm (Q7 hp)⟩
theorem qfX {b f:Value} (hb:b.cells.toList=[b]) (hf:f.cells.toList=[f]):qt Tryz.prog w0 115 #[b,f] (H) (fun v H'=>∃ d2 d3,v=.func (.func 181) #[] #[zp d2,zp d3]∧H'=(d3,.cells 124 1 [f])::(d2,.cells 23 1 [b])::H):=by
 refine qi (l:=[b,f]) Tryz.func115 rfl Tryz.ntmps115 rfl rfl ?_
 refine zr ?_
 refine qS (l:=[b]) rfl hb rfl (fun d2=>?_)
 refine qS (l:=[f]) rfl hf rfl (fun d3=>?_)
 refine za 3 rfl (Qh .nil (.cons rfl (.cons rfl .nil)) rfl (za 2 rfl (qj Tryz.results115 rfl (.nil _) (.refl _) ?_)))
 exact ⟨d2,d3,rfl,rfl⟩
theorem qbl {lp d2 d3 fi:Nat} {ca:List Value} (J:Nat→qg→Prop) (sel:Nat→Bool) (hfi:∀ (args:Array Value) (w:World),(callFunc fi args).run Tryz.prog w=.ok (.enter fi args) w) (hr:r.Ok) (hkm:(kb,.cells 113 57 (knC r))∈H)
  (hcl:∀ k Hr b HZ,r.C[k]?=some (some b)→J k Hr→(∀ p∈Hr,p∈HZ)→qR Tryz.prog w0 HZ fi ([zp b]++ca) (.bool (sel k)))
  (hnone:∀ (k:Nat) Hr,r.C[k]?=some none→J k Hr→J (k+1) Hr)
  (hskip:∀ (k:Nat) Hr b,r.C[k]?=some (some b)→J k Hr→sel k=false→J (k+1) Hr)
  (hround:∀ (k:Nat) Hr b,r.C[k]?=some (some b)→J k Hr→sel k=true→JR Tryz.prog w0 lp #[zi (k:Int),zp b] ((d2,.cells 23 1 [zp kb])::(d3,.cells 124 1 [(Value.func (.func fi) #[] ca.toArray)])::Hr) (fun v H'=>∃ Hr',qd H' ((d2,.cells 23 1 [zp kb])::(d3,.cells 124 1 [(Value.func (.func fi) #[] ca.toArray)])::Hr')∧v=.bool true∧J (k+1) Hr'))
  (hJ0:J 0 H):qt Tryz.prog w0 181 #[.func (.yield lp) #[] #[],zp d2,zp d3] ((d2,.cells 23 1 [zp kb])::(d3,.cells 124 1 [(Value.func (.func fi) #[] ca.toArray)])::H) (fun _ H'=>∃ Hr,qd H' ((d2,.cells 23 1 [zp kb])::(d3,.cells 124 1 [(Value.func (.func fi) #[] ca.toArray)])::Hr)∧J 32 Hr):=by
 refine qi (l:=[.func (.yield lp) #[] #[],zp d2,zp d3]) Tryz.func181 rfl Tryz.ntmps181 rfl rfl ?_
 refine za 2 rfl ?_
 refine qe (v:=zp kb) rfl KH rfl (qh.own (b:=d2) zM rfl) rfl ?_
 refine W_x (qY rfl rfl KH) (fun _ h=>by cases h) rfl ?_
 refine za 4 rfl ?_
 refine qe (v:=zp kb) rfl KH rfl (qh.own (b:=d2) zM rfl) rfl ?_
 refine za 2 rfl ?_
 refine q8 (vs:=r.C.map ptV) rfl Kl rfl (b:=kb) (List.mem_cons_of_mem _ (List.mem_cons_of_mem _ hkm)) (by rw [Nat.ble_eq,qd9 hr]; decide) (qhV hr) rfl ?_
 refine za 3 rfl ?_
 refine z0 (X:=(Nat × qg)) [(0,_),(2,_),(11,_)] (fun (x:(Nat × qg))=>[(12,zi (x.1:Int))]) (fun _=>_) (fun (x:(Nat × qg))=>(d2,.cells 23 1 [zp kb])::(d3,.cells 124 1 [(Value.func (.func fi) #[] ca.toArray)])::x.2) (fun (x:(Nat × qg))=>x.1≤32∧J x.1 x.2) (fun (x:(Nat × qg))=>32-x.1) (0,H) ⟨Nat.zero_le _,hJ0⟩ (qc rfl (qc rfl (qc rfl (qm _)))) (qc rfl (qm _)) rfl (.refl _) ?_
 rintro ⟨k,Hr⟩ ⟨hk,hJk⟩
 dsimp only at hk hJk ⊢
 simp only [List.cons_append,List.nil_append]
 refine za 4 rfl ?_
 refine qv (p:=k<32) rfl (by rw [decide_eq_true_eq]; omega) (fun q0=>?_) (fun q0=>?_)
 ·skip
  refine za 4 rfl ?_
  obtain ⟨p,hp⟩:∃ p,r.C[k]?=some p:=⟨_,List.getElem?_eq_getElem (by rw [hr.c]; omega)⟩
  rcases p with _ | b
  ·skip
   refine qM rfl rfl ?_
   refine Yt (v:=ptV none) (j:=k) rfl rfl Kl Jr rfl rfl (by omega) (by rw [Nat.mul_one,List.getElem?_toArray,List.getElem?_map,hp]; rfl) rfl ?_
   refine za 5 rfl ?_
   refine W_x (Xa (ad:=none) rfl rfl Jr) (fun _ h=>by cases h) rfl ?_
   refine za 17 rfl ?_
   refine qC rfl rfl (qX (m:=((k+1:Nat):Int)) ((ZA zO).trans zO)) rfl ?_
   refine za 2 rfl ?_
   refine qW (k+1,Hr) ⟨by show k+1≤32; omega,hnone k Hr hp hJk⟩ (by show 32-(k+1)<32-k; omega) (qc rfl (qc rfl (qc rfl (qc rfl (qm _))))) rfl (.refl _)
  ·skip
   refine qM rfl rfl ?_
   refine Yt (v:=ptV (some b)) (j:=k) rfl rfl Kl Jr rfl rfl (by omega) (by rw [Nat.mul_one,List.getElem?_toArray,List.getElem?_map,hp]; rfl) rfl ?_
   refine za 5 rfl ?_
   refine W_x (Xa (ad:=some ⟨b,0,none⟩) rfl rfl Jr) (fun _ h=>by cases h) rfl ?_
   refine za 2 rfl ?_
   refine qe (v:=(Value.func (.func fi) #[] ca.toArray)) rfl ty124 rfl (qh.own (b:=d3) zM rfl) rfl ?_
   refine za 3 rfl ?_
   refine qaP (fa:=[]) (ca:=ca) rfl (.cons rfl .nil) rfl hfi rfl (hcl k Hr b _ hp hJk (fun p hp=>List.mem_cons_of_mem _ (List.mem_cons_of_mem _ hp))) ?_
   rcases hs:sel k with _ | _
   ·skip
    refine za 13 rfl ?_
    refine qC rfl rfl (qX (m:=((k+1:Nat):Int)) ((ZA zO).trans zO)) rfl ?_
    refine za 2 rfl ?_
    refine qW (k+1,Hr) ⟨by show k+1≤32; omega,hskip k Hr b hp hJk hs⟩ (by show 32-(k+1)<32-k; omega) (qc rfl (qc rfl (qc rfl (qc rfl (qm _))))) rfl (.refl _)
   ·skip
    refine za 9 rfl (zx rfl (.cons rfl (.cons rfl .nil)) rfl (hround k Hr b hp hJk hs) ?_)
    rintro v H' ⟨Hr',hsub,rfl,hJ'⟩
    refine qP hsub ?_
    refine za 8 rfl ?_
    refine qC rfl rfl (qX (m:=((k+1:Nat):Int)) ((ZA zO).trans zO)) rfl ?_
    refine za 2 rfl ?_
    refine qW (k+1,Hr') ⟨by show k+1≤32; omega,hJ'⟩ (by show 32-(k+1)<32-k; omega) (qc rfl (qc rfl (qc rfl (qc rfl (qm _))))) rfl (.refl _)
 ·skip
  refine qbL rfl ?_
  refine zf (H2:=(d2,.cells 23 1 [zp kb])::(d3,.cells 124 1 [(Value.func (.func fi) #[] ca.toArray)])::Hr) Tryz.results181 (.nil _) zH ?_
  obtain rfl:k=32:=by omega
  exact ⟨Hr,.refl _,hJk⟩
def J0 (C:List (Option Nat)) (sel:Nat→Bool) (n:Nat):List Int:=((List.range n).filter (fun i=>(C.getD i none).isSome && sel i)).map (fun i:Nat=>(i:Int))
theorem qfx {C:List (Option Nat)} {sel:Nat→Bool} {k b:Nat} (h:C[k]?=some (some b)) (hs:sel k=true):J0 C sel (k+1)=J0 C sel k++[(k:Int)]:=by
 have e:((C.getD k none).isSome && sel k)=true:=by rw [List.getD_eq_getElem?_getD,h,hs]; rfl
 unfold J0
 rw [List.range_succ,List.filter_append,List.map_append,show [k].filter (fun i=>(C.getD i none).isSome && sel i)=[k] from List.filter_eq_self.2 (fun i hi=>by rw [List.mem_singleton.1 hi]; exact e)]
 rfl
theorem qae {C:List (Option Nat)} {sel:Nat→Bool} {k:Nat} (h:C[k]?=some none∨sel k=false):J0 C sel (k+1)=J0 C sel k:=by
 have e:((C.getD k none).isSome && sel k)=false:=by
  rcases h with h | h
  ·rw [List.getD_eq_getElem?_getD,h]; rfl
  ·rw [h,Bool.and_false]
 unfold J0
 rw [List.range_succ,List.filter_append,List.map_append,show [k].filter (fun i=>(C.getD i none).isSome && sel i)=[] from List.filter_eq_nil_iff.2 (fun i hi=>by rw [List.mem_singleton.1 hi,e]; decide)]
 exact List.append_nil _
theorem qdG (C:List (Option Nat)) (sel:Nat→Bool) (n:Nat):(J0 C sel n).length≤n:=by
 unfold J0
 rw [List.length_map]
 have:=List.length_filter_le (fun i=>(C.getD i none).isSome && sel i) (List.range n)
 rw [List.length_range] at this; exact this
theorem qcb {fi:Nat} {ca:List Value} (sel:Nat→Bool) (hfi:∀ (args:Array Value) (w:World),(callFunc fi args).run Tryz.prog w=.ok (.enter fi args) w) (hr:r.Ok) (hkm:(kb,.cells 113 57 (knC r))∈H) (hcl:∀ (k b:Nat) (HZ:qg),r.C[k]?=some (some b)→(∀ p∈H,p∈HZ)→qR Tryz.prog w0 HZ fi ([zp b]++ca) (.bool (sel k))) :qt Tryz.prog w0 55 #[zp kb,(Value.func (.func fi) #[] ca.toArray)] (H) (fun v H'=>∃ XB,qQ 3 1 v (J0 r.C sel 32).length ((J0 r.C sel 32).map (Value.int .i64)) XB∧H'=XB++H):=by
 refine qi (l:=[zp kb,(Value.func (.func fi) #[] ca.toArray)]) Tryz.func55 rfl Tryz.ntmps55 rfl rfl ?_
 refine za 4 rfl ?_
 refine qH (l:=[.slice none 0 0]) Qq rfl rfl (fun bo=>?_)
 refine za 5 rfl ?_
 refine qu (zc2 rfl rfl) Tryz.call115 rfl (qfX (b:=zp kb) (f:=(Value.func (.func fi) #[] ca.toArray)) rfl rfl) ?_
 rintro v H' ⟨d2,d3,rfl,rfl⟩
 refine za 2 rfl (Xb rfl Tryz.call181 ?_)
 intro lp D r0 hst hpd hps hasg hbody hA
 have hr0:=XH hst hpd
 show qt _ _ _ #[_,_,_] _ _
 refine ((qbl (d2:=d2) (d3:=d3) (kb:=kb) (fi:=fi) (ca:=ca) (r:=r) (H:=(lp,.obj (.loop r0))::(D,.obj (.deferred (some [])))::(bo,.cells 55 1 [.slice none 0 0])::([]++H)) (fun k Hr=>∃ v XB',qQ 3 1 v (J0 r.C sel k).length ((J0 r.C sel k).map (Value.int .i64)) XB'∧Hr=(lp,.obj (.loop r0))::(D,.obj (.deferred (some [])))::(bo,.cells 55 1 [v])::(XB'++H)) sel hfi hr (List.mem_cons_of_mem _ (List.mem_cons_of_mem _ (List.mem_cons_of_mem _ hkm))) (fun k Hr b HZ hb hJ hz=>by obtain ⟨v,XB',_,rfl⟩:=hJ; exact hcl k b HZ hb (fun p hp=>hz p (List.mem_cons_of_mem _ (List.mem_cons_of_mem _ (List.mem_cons_of_mem _ (List.mem_append_right _ hp)))))) (fun k Hr hb hJ=>by obtain ⟨v,XB',hX,rfl⟩:=hJ; exact ⟨v,XB',by rw [qae (.inl hb)]; exact hX,rfl⟩) (fun k Hr b hb hJ hs=>by obtain ⟨v,XB',hX,rfl⟩:=hJ; exact ⟨v,XB',by rw [qae (.inr hs)]; exact hX,rfl⟩) ?_ ⟨_,[],.nil,rfl⟩).hsub zH).mono ?_
 ·intro k Hr b hb hJ hs
  obtain ⟨xv,XB',hX,rfl⟩:=hJ
  have hkl:=(List.getElem?_eq_some_iff.1 hb).1
  rw [hr.c] at hkl
  have htl:=qdG r.C sel k
  obtain ⟨axv,cxv,hxv,_,_⟩:=hX.shape
  refine YZ hst hpd hA hps rfl hasg rfl rfl rfl zT ?_
  refine za 3 rfl (qcw hst hpd zT hbody (za 2 rfl ?_))
  refine qe (v:=xv) rfl Qq rfl (qh.own (b:=bo) zM rfl) rfl ?_
  refine qM rfl rfl ?_
  refine qy (l:=[zi (k:Int)]) Qq ty3 (.cons rfl rfl rfl rfl rfl .nil) rfl rfl rfl rfl rfl rfl rfl (fun b14=>?_)
  refine zy (news:=[zi (k:Int)]) (m:=1) (HB:=XB') (H0:=(d2,.cells 23 1 [zp kb])::(d3,.cells 124 1 [(Value.func (.func fi) #[] ca.toArray)])::(lp,.obj (.loop (Loop.at r0 .busy none)))::(D,.obj (.deferred (some [])))::(bo,.cells 55 1 [xv])::H) rfl rfl Qq ty3 rfl (by decide) hX rfl (qq.own (b:=b14) List.mem_cons_self) rfl (by simp only [maxLen]; omega) (by omega) zH rfl (fun v' HB' hO'=>?_)
  refine q7 (l':=[v']) rfl rfl Qq (by obtain ⟨a0,c0',e0,_⟩:=hO'.shape; rw [e0]; rfl) rfl (b:=bo) zM rfl rfl zU ?_
  refine za 2 rfl (JQ zT ?_)
  rw [hr0]
  refine ⟨(lp,.obj (.loop r0))::(D,.obj (.deferred (some [])))::(bo,.cells 55 1 [v'])::(HB'++H),zH,rfl,v',HB',?_,rfl⟩
  rw [qfx hb hs,List.length_append,List.map_append]
  exact hO'
 ·intro _ H' hp
  obtain ⟨Hr,hs,xv,XB',hX,rfl⟩:=hp
  refine ⟨.ready,none,(d2,.cells 23 1 [zp kb])::(d3,.cells 124 1 [(Value.func (.func fi) #[] ca.toArray)])::(D,.obj (.deferred (some [])))::(bo,.cells 55 1 [xv])::(XB'++H),by rw [hr0]; exact hs.trans zH,by decide,?_⟩
  show W _ _ _ _ _ _ _ _ _
  refine za 2 rfl ?_
  refine qe (v:=xv) rfl Qq rfl (qh.own (b:=bo) zM rfl) rfl ?_
  refine za 2 rfl ?_
  refine qj (H2:=XB'++H) Tryz.results55 rfl (.cons zT (.nil _)) zH ?_
  exact ⟨XB',hX,rfl⟩
theorem qea (hr:r.Ok) (hm:(kb,.cells 113 57 (knC r))∈H) :qR Tryz.prog w0 H 165 [zp kb] (zi (qbh r.C)):=by
 refine qi Tryz.func165 rfl Tryz.ntmps165 rfl rfl (za 7 rfl ?_)
 refine W_x (JO (b:=kb) (o:=23) (l:=0) (hh:=32) rfl Kl Jr rfl rfl zd zd zd) (fun _ h=>by cases h) rfl ?_
 have hpart:=qf0 (w0:=w0) hr hm
 have hix:=qf6 (cap:=32) hpart (by rw [hr.c]; decide)
 rw [hr.c] at hix
 refine q9 (zc2 rfl rfl) Tryz.call229 rfl hix (za 2 rfl ?_)
 refine qj (H2:=H) Tryz.results165 rfl (.nil _) zH ?_
 exact ⟨rfl,rfl⟩
def rdC (p:Int × Int):List Value:=[zi p.1,zi p.2]
structure Sct where
 D:List (Int × Int)
 m:Nat
 st:Int
def scC (S:Sct):List Value:=S.D.flatMap rdC++[zu ((S.m:Nat):Int),zi S.st]
structure qcz (S:Sct):Prop where
 len:S.D.length=64
 rng:∀ p∈S.D,0≤p.1∧p.1≤8∧0≤p.2∧p.2≤S.st
 m64:S.m<18446744073709551616
 bit:∀ i,S.m.testBit i=(match S.D[i]? with
  | some p=>decide (0<p.1)
  | none=>false)
structure Cnt where
 n:Int
 top:Int
 stuck:Bool
def cnC (c:Cnt):List Value:=[zi c.n,zi c.top,.bool c.stuck]
theorem qeV {cb:Nat} {c:Cnt} (hm:(cb,.cells 536 3 (cnC c))∈H) :qR Tryz.prog w0 H 302 [zp cb] (zi c.n):=by
 refine qi Tryz.func302 rfl Tryz.ntmps302 rfl rfl (za 6 rfl ?_)
 refine W_x (qY rfl rfl qg0) (fun _ h=>by cases h) rfl ?_
 refine za 8 rfl ?_
 refine qe (v:=zi c.n) rfl ty3 rfl (qh.own (b:=cb) hm rfl) rfl ?_
 refine za 2 rfl ?_
 refine qj (H2:=H) Tryz.results302 rfl (.nil _) zH ?_
 exact ⟨rfl,rfl⟩
theorem qbC:qR Tryz.prog w0 H 302 [.pointer none] (zi 0):=by
 refine qi Tryz.func302 rfl Tryz.ntmps302 rfl rfl (za 6 rfl ?_)
 refine W_x (qY rfl rfl qg0) (fun _ h=>by cases h) rfl ?_
 refine za 5 rfl ?_
 refine qj (H2:=H) Tryz.results302 rfl (.nil _) zH ?_
 exact ⟨rfl,rfl⟩
structure Rfe where
 key:Int
 cb:Nat
 clk:Nat
 c:Cnt
variable {E:List Rfe}
def Rfe.ent (e:Rfe):Int × Value × Nat:=(e.key,.pointer (some ⟨e.cb,0,none⟩),e.clk)
def Rfe.blk (e:Rfe):Nat × Blk:=(e.cb,.cells 536 3 (cnC e.c))
inductive qdn (rb:Nat) (top:Int) (R:List (Int × Cnt)):qg→Prop
 | mk {mb cl:Nat} {E:List Rfe} (hok:ZP (E.map Rfe.ent) cl) (hR:E.map (fun e=>(e.key,e.c))=R):qdn rb top R ((rb,.cells 301 2 [.int .i64 top,.map (some mb)])::(mb,.obj (JE (Value.int .i64) (E.map Rfe.ent) cl))::E.map Rfe.blk)
def YH (E:List Rfe) (k:Int):Option Rfe:=E.find? (fun e=>decide (k=e.key))
theorem qen (E:List Rfe) (k:Int):XF (E.map Rfe.ent) k=(YH E k).map (fun e=>Value.pointer (some ⟨e.cb,0,none⟩)):=by
 unfold XF YH
 rw [List.find?_map,Option.map_map]
 rfl
theorem qem {e:Rfe} (h:YH E k=some e):e∈E∧e.key=k:=by
 unfold YH at h
 have:=List.find?_some h
 exact ⟨List.mem_of_find?_eq_some h,(of_decide_eq_true this).symm⟩
theorem qel (E:List Rfe) (k:Int):(XF (E.map Rfe.ent) k).getD (.pointer none)=.pointer ((YH E k).map fun e=>⟨e.cb,0,none⟩):=by
 rw [qen]
 cases YH E k <;> rfl
theorem kkI:Yz Tryz.prog 3 (Value.int .i64):=Xi zk
theorem qfA {mb cl:Nat} (hm1:(rb,.cells 301 2 [zi top,.map (some mb)])∈H) (hm2:(mb,.obj (JE (Value.int .i64) (E.map Rfe.ent) cl))∈H) :qR Tryz.prog w0 H 301 [zp rb,zi k] (.pointer ((YH E k).map fun e=>⟨e.cb,0,none⟩)):=by
 refine qi Tryz.func301 rfl Tryz.ntmps301 rfl rfl (za 6 rfl ?_)
 refine W_x (qY rfl rfl qbW) (fun _ h=>by cases h) rfl ?_
 refine za 7 rfl ?_
 refine qe (v:=.map (some mb)) rfl qdz rfl (qh.own (b:=rb) hm1 rfl) rfl ?_
 refine qM rfl rfl ?_
 refine qff (l:=E.map Rfe.ent) (cl:=cl) (a:=k) (kf:=(Value.int .i64)) (b:=mb) (zE:=.pointer none) rfl rfl kkI qdz (fun w=>by kernel_rfl) hm2 rfl ?_
 simp only [Bool.false_eq_true,if_false]
 rw [qel]
 refine za 2 rfl ?_
 refine qj (H2:=H) Tryz.results301 rfl (.nil _) zH ?_
 exact ⟨rfl,rfl⟩
def getR (R:List (Int × Cnt)) (k:Int):Option Cnt:=(R.find? (fun q=>decide (k=q.1))).map (·.2)
def qby (R:List (Int × Cnt)) (k:Int):Int:=match getR R k with
 | some c=>c.n
 | none=>0
def prj (e:Rfe):Int × Cnt:=(e.key,e.c)
theorem qei (E:List Rfe) (k:Int):getR (E.map prj) k=(YH E k).map (·.c):=by
 unfold getR YH
 rw [List.find?_map,Option.map_map]
 rfl
theorem qdH {mb cl:Nat} (hm1:(rb,.cells 301 2 [.int .i64 top,.map (some mb)])∈H) (hm2:(mb,.obj (JE (Value.int .i64) (E.map Rfe.ent) cl))∈H) (hm3:∀ e∈E,e.blk∈H) :qR Tryz.prog w0 H 228 [zp rb,.int .i64 k] (.int .i64 (match YH E k with | some e=>e.c.n | none=>0)):=by
 refine qi Tryz.func228 rfl Tryz.ntmps228 rfl rfl (za 6 rfl ?_)
 refine q9 (zc2 rfl rfl) Tryz.call301 rfl (qfA (E:=E) hm1 hm2) ?_
 rcases hf:YH E k with _ | e
 ·skip
  refine q9 (zc1 rfl) Tryz.call302 rfl qbC (za 2 rfl ?_)
  refine qj (H2:=H) Tryz.results228 rfl (.nil _) zH ?_
  exact ⟨rfl,rfl⟩
 ·skip
  refine q9 (zc1 rfl) Tryz.call302 rfl (qeV (cb:=e.cb) (c:=e.c) (hm3 e (qem hf).1)) ?_
  refine za 2 rfl ?_
  refine qj (H2:=H) Tryz.results228 rfl (.nil _) zH ?_
  exact ⟨rfl,rfl⟩
section
variable {w0:World} {H HR:qg} {rb:Nat} {top:Int} {R:List (Int × Cnt)}
theorem qdn.value (hR:qdn rb top R HR) (hm:∀ p∈HR,p∈H) :qR Tryz.prog w0 H 228 [zp rb,zi k] (zi (qby R k)):=by
 cases hR with
 | @mk mb cl E hok hR =>
  subst hR
  have e1:qby (E.map prj) k=match YH E k with | some e=>e.c.n | none=>0:=by
   unfold qby; rw [qei]; cases YH E k <;> rfl
  show qR _ _ _ _ _ (zi (qby (E.map prj) k))
  rw [e1]
  exact qdH (hm _ List.mem_cons_self) (hm _ (List.mem_cons_of_mem _ List.mem_cons_self)) (fun e he=>hm _ (List.mem_cons_of_mem _ (List.mem_cons_of_mem _ (List.mem_map.2 ⟨e,he,rfl⟩))))
end
theorem qdM (ht:1≤top∧top≤65535) :qt Tryz.prog w0 114 #[zi top] (H) (fun v H'=>∃ rb HR,qdn rb top [] HR∧v=.tuple #[zp rb,zi 0]∧H'=HR++H):=by
 refine qi (l:=[zi top]) Tryz.func114 rfl Tryz.ntmps114 rfl rfl ?_
 refine za 8 rfl ?_
 first | rw [decide_eq_true (by omega)] | rw [decide_eq_false (by omega)]
 refine za 5 rfl ?_
 first | rw [decide_eq_true (by omega)] | rw [decide_eq_false (by omega)]
 refine za 6 rfl ?_
 refine YO (kf:=(Value.int .i64)) rfl (fun b11=>?_)
 refine ql (l:=[zi top,.map (some b11)]) ty301 pl301 (.cons rfl rfl rfl rfl rfl (.cons rfl rfl rfl rfl rfl .nil)) rfl rfl rfl ?_
 refine qS (l:=[zi top,.map (some b11)]) rfl rfl rfl (fun b13=>?_)
 refine za 3 rfl (qF Tryz.results114 rfl rfl (.nil _) (.refl _) ?_)
 exact ⟨b13,_,.mk (E:=[]) (ZP.nil 0) rfl,rfl,rfl⟩
theorem qcz.start:qcz ⟨List.replicate 64 (0,0),0,0⟩ where
 len:=List.length_replicate
 rng:=fun p hp=>by obtain rfl:=(List.mem_replicate.1 hp).2; decide
 m64:=by decide
 bit:=fun i=>by
  rw [Nat.zero_testBit]
  by_cases h:i<64
  ·rw [List.getElem?_replicate,if_pos h]; rfl
  ·rw [List.getElem?_replicate,if_neg h]
structure qcB {α:Type} (R:Nat) (l buf:List α) (h:Nat):Prop where
 pos:0<R
 room:R≤256
 len:buf.length=R
 head:h<R
 most:l.length≤R
 at_:∀ (i:Nat) x,l[i]?=some x→buf[(h+i)%R]?=some x
inductive qgY (R rb:Nat) (l:List (Int × Int)):qg→Prop
 | mk {b h:Nat} {buf:List (Int × Int)} (hI:qcB R l buf h):qgY R rb l [(rb,.cells 477 3 [.slice (some ⟨b,0,none⟩) R R,.int .i64 ((h:Nat):Int),.int .i64 ((l.length:Nat):Int)]),(b,.cells 365 (R*2) ((buf).flatMap rdC))]
theorem qcB.start {α:Type} {z:α} (h0:0<R) (h1:R≤256):qcB R [] (List.replicate R z) 0 :=
 ⟨h0,h1,List.length_replicate,h0,Nat.zero_le _,fun i x h=>by simp at h⟩
theorem qgF:qt Tryz.prog w0 250 #[zi 64] (H) (fun v H'=>∃ rb HB,v=.tuple #[zp rb,zi 0]∧qgY 64 rb [] HB∧H'=HB++H):=by
 refine qi (l:=[zi 64]) Tryz.func250 rfl Tryz.ntmps250 rfl rfl ?_
 refine za 8 rfl ?_
 first | rw [decide_eq_true (by omega)] | rw [decide_eq_false (by omega)]
 refine za 5 rfl ?_
 first | rw [decide_eq_true (by omega)] | rw [decide_eq_false (by omega)]
 refine za 6 rfl ?_
 refine Zb (ln:=64) (cp:=64) (l:=(List.replicate 64 ((0,0):Int × Int)).flatMap rdC) rfl rfl ty362 ty365 rfl rfl (Nat.le_refl _) (by omega) (by simp only [maxLen]; omega) (by kernel_rfl) rfl (fun b11=>?_)
 refine ql (l:=[.slice (some ⟨b11,0,none⟩) 64 64,zi 0,zi 0]) ty477 pl477 (.cons rfl rfl rfl rfl rfl .nil) rfl rfl rfl ?_
 refine qS (l:=[.slice (some ⟨b11,0,none⟩) 64 64,zi 0,zi 0]) rfl rfl rfl (fun b13=>?_)
 refine za 3 rfl ?_
 refine qF (H2:=[(b13,.cells 477 3 [.slice (some ⟨b11,0,none⟩) 64 64,zi 0,zi 0]),(b11,.cells 365 (64*2) ((List.replicate 64 ((0,0):Int × Int)).flatMap rdC))]++H) Tryz.results250 rfl rfl (.nil _) zH ?_
 exact ⟨b13,_,rfl,.mk (qcB.start (z:=(0,0)) zd zd),rfl⟩
abbrev cbP (rb:Nat):Value:=zp rb
structure qdo (n:Nat) (rbs:List Nat) (XS:List qg) (Q:List (List (Int × Int))):Prop where
 l1:rbs.length=n
 l2:XS.length=n
 l3:Q.length=n
 r:∀ (k:Nat) rb X q,rbs[k]?=some rb→XS[k]?=some X→Q[k]?=some q→qgY 64 rb q X
inductive qbP (lb n:Nat) (Q:List (List (Int × Int))) (last:Int):qg→Prop
 | mk {v:Value} {XQ:qg} {XS:List qg} {rbs:List Nat} (hv:qQ 396 1 v n (rbs.map cbP) XQ) (hl:qdo n rbs XS Q):qbP lb n Q last ((lb,.cells 395 2 [v,.int .i64 last])::(XQ++XS.flatten))
theorem qdo.snoc {rbs:List Nat} {XS:List qg} {Q:List (List (Int × Int))} (h:qdo n rbs XS Q) {X:qg} {q:List (Int × Int)} (hX:qgY 64 rb q X):qdo (n+1) (rbs++[rb]) (XS++[X]) (Q++[q]):=by
 obtain ⟨h1,h2,h3,h4⟩:=h
 refine ⟨by simp [h1],by simp [h2],by simp [h3],fun j rb2 Y p e1 e2 e3=>?_⟩
 by_cases c:j<n
 ·rw [List.getElem?_append_left (by omega)] at e1 e2 e3
  exact h4 j rb2 Y p e1 e2 e3
 ·have hj:=(List.getElem?_eq_some_iff.1 e1).1
  rw [List.length_append,List.length_singleton] at hj
  obtain rfl:j=n:=by omega
  rw [List.getElem?_append_right (by omega),h1,Nat.sub_self] at e1
  rw [List.getElem?_append_right (by omega),h2,Nat.sub_self] at e2
  rw [List.getElem?_append_right (by omega),h3,Nat.sub_self] at e3
  cases e1; cases e2; cases e3; exact hX
def addC (q:List (Int × Int)) (id:Int):List (Int × Int):=if q.length<64 then q++[(id,0)] else q
theorem qhR (hn:1≤n∧n≤64) :qt Tryz.prog w0 180 #[zi (n:Int)] (H) (fun v H'=>∃ lb HB,v=.tuple #[zp lb,zi 0]∧qbP lb n (List.replicate n []) 0 HB∧H'=HB++H):=by
 refine qi (l:=[zi (n:Int)]) Tryz.func180 rfl Tryz.ntmps180 rfl rfl ?_
 refine za 8 rfl ?_
 rw [decide_eq_false (by omega)]
 refine za 5 rfl ?_
 rw [decide_eq_false (by omega)]
 refine za 5 rfl ?_
 refine ql (l:=[.slice none 0 0,zi 0]) ty395 pl395 .nil rfl rfl rfl ?_
 refine qS (l:=[.slice none 0 0,zi 0]) rfl rfl rfl (fun b14=>?_)
 refine za 8 rfl ?_
 refine z0 (X:=(Nat × Value × qg × List qg × List Nat)) [(4,_),(15,_)] (fun (x:(Nat × Value × qg × List qg × List Nat))=>[(16,zi (x.1:Int))]) (fun _=>_) (fun (x:(Nat × Value × qg × List qg × List Nat))=>(b14,.cells 395 2 [x.2.1,zi 0])::(x.2.2.1++(x.2.2.2.1.flatten++H))) (fun (x:(Nat × Value × qg × List qg × List Nat))=>x.1≤n∧qQ 396 1 x.2.1 x.1 (x.2.2.2.2.map cbP) x.2.2.1∧qdo x.1 x.2.2.2.2 x.2.2.2.1 (List.replicate x.1 [])) (fun (x:(Nat × Value × qg × List qg × List Nat))=>n-x.1) (0,.slice none 0 0,[],[],[]) ⟨Nat.zero_le _,.nil,⟨rfl,rfl,rfl,fun k r Y q h=>(by cases h)⟩⟩ (qc rfl (qc rfl (qm _))) (qc rfl (qm _)) rfl (.refl _) ?_
 rintro ⟨i,v,XQ,XS,rbs⟩ ⟨hi,hv,hl⟩
 dsimp only at hi hv hl ⊢
 simp only [List.cons_append,List.nil_append]
 refine za 4 rfl ?_
 refine qv (p:=(i:Int)<(n:Int)) rfl (by simp) (fun q0=>?_) (fun q0=>?_)
 ·skip
  refine za 4 rfl (qu (zc1 rfl) Tryz.call250 rfl qgF ?_)
  rintro w2 H' ⟨rb,HX,rfl,hX,rfl⟩
  refine za 18 rfl ?_
  refine qe (v:=v) rfl K6 rfl (qh.own (b:=b14) zM rfl) rfl ?_
  refine qM rfl rfl ?_
  refine qy (l:=[cbP rb]) K6 qg2 (.cons rfl rfl rfl rfl rfl .nil) rfl rfl rfl rfl rfl rfl rfl (fun b31=>?_)
  refine zy (news:=[cbP rb]) (m:=1) (HB:=XQ) (H0:=(b31,.cells 396 1 [cbP rb])::(HX++((b14,.cells 395 2 [v,zi 0])::(XS.flatten++H)))) rfl rfl K6 qg2 rfl (by decide) hv rfl (qq.own (b:=b31) zM) rfl (by simp only [maxLen]; omega) (by omega) zH rfl (fun v' X' hv'=>?_)
  refine za 2 rfl ?_
  have hv1:v'.oneCell'=true:=by obtain ⟨_,_,rfl,_⟩:=hv'.shape; rfl
  refine q7 (l':=[v',zi 0]) rfl rfl K6 hv1 rfl (b:=b14) zM rfl rfl zU ?_
  refine za 3 rfl ?_
  refine qC rfl rfl (qX (m:=((i+1:Nat):Int)) ((ZA zO).trans zO)) rfl ?_
  refine za 2 rfl ?_
  refine qW (i+1,v',X',XS++[HX],rbs++[rb]) ⟨by show i+1≤n; omega,by show qQ 396 1 v' (i+1) ((rbs++[rb]).map cbP) X'; rw [List.map_append]; exact hv',by show qdo (i+1) _ _ (List.replicate (i+1) []); rw [List.replicate_succ']; exact hl.snoc hX⟩ (by show n-(i+1)<n-i; omega) (qc rfl (qc rfl (qc rfl (qm _)))) rfl (by show qd _ ((b14,.cells 395 2 [v',zi 0])::(X'++((XS++[HX]).flatten++H))); rw [List.flatten_append,List.flatten_singleton,List.append_assoc]; first | exact qz | (repeat (first | with_reducible exact qd.refl _ | refine qd.cons zT ?_ | refine qd.app zS ?_ | exact qd.nil _ | exact qd.refl _ | refine qd.drop ?_ | refine qd.dropS ?_)))
 ·skip
  refine za 6 rfl ?_
  refine qF (H2:=(b14,.cells 395 2 [v,zi 0])::(XQ++(XS.flatten++H))) Tryz.results180 rfl rfl (.nil _) zH ?_
  obtain rfl:i=n:=by omega
  exact ⟨b14,(b14,.cells 395 2 [v,zi 0])::(XQ++XS.flatten),rfl,.mk (rbs:=rbs) hv hl,by show _=_::((XQ++XS.flatten)++H); rw [List.append_assoc]⟩
def qbU (now:Nat) (sl:List Value) (bs:List Nat) (bm turn:Nat):List Value:=zu (now:Int)::(sl++(bs.map (fun z:Nat=>Value.int .u64 (z:Int))++[.map (some bm),zi (turn:Int)]))
structure qhs (sl:List Value) (bs:List Nat):Prop where
 sl:sl.length=512
 bs:bs.length=8
set_option maxRecDepth 100000
def sl0:List Value:=List.replicate 512 (.slice none 0 0)
def bs0:List Nat:=List.replicate 8 0
theorem ok0:qhs sl0 bs0:=⟨List.length_replicate,List.length_replicate⟩
theorem New_L:qt Tryz.prog w0 249 #[zu ((now:Nat):Int)] (H) (fun v H'=>∃ bw bm,v=zp bw∧H'=(bw,.cells 409 523 (qbU now sl0 bs0 bm 0))::(bm,.obj (JE (Value.int .i64) [] 0))::H):=by
 refine qi (l:=[zu ((now:Nat):Int)]) Tryz.func249 rfl Tryz.ntmps249 rfl rfl ?_
 refine za 5 rfl ?_
 refine YO (kf:=(Value.int .i64)) rfl (fun b4=>?_)
 refine ql (l:=qbU now sl0 bs0 b4 0) ty409 pl409 (.cons rfl rfl rfl rfl rfl (.cons rfl rfl rfl rfl rfl .nil)) rfl zk rfl ?_
 refine qS (l:=qbU now sl0 bs0 b4 0) rfl rfl rfl (fun b6=>?_)
 refine za 2 rfl (qj Tryz.results249 rfl (.nil _) (.refl _) ?_)
 exact ⟨b6,b4,rfl,rfl⟩
structure qcA (R:Nat) (l buf:List Int) (h:Nat):Prop where
 pos:0<R
 room:R≤256
 len:buf.length=R
 head:h<R
 most:l.length≤R
 at_:∀ (i:Nat) x,l[i]?=some x→buf[(h+i)%R]?=some x
inductive Kb (R rb:Nat) (l:List Int):qg→Prop
 | mk {b h:Nat} {buf:List Int} (hI:qcA R l buf h):Kb R rb l [(rb,.cells 400 3 [.slice (some ⟨b,0,none⟩) R R,.int .i64 ((h:Nat):Int),.int .i64 ((l.length:Nat):Int)]),(b,.cells 3 (R*1) ((buf).map (Value.int .i64)))]
theorem qcA.start (h0:0<R) (h1:R≤256):qcA R [] (List.replicate R 0) 0 :=
 ⟨h0,h1,List.length_replicate,h0,Nat.zero_le _,fun i x h=>by simp at h⟩
theorem qhJ (h0:0<R) (h1:R≤256) :qt Tryz.prog w0 248 #[zi (R:Int)] (H) (fun v H'=>∃ rb HB,v=.tuple #[zp rb,zi 0]∧Kb R rb [] HB∧H'=HB++H):=by
 refine qi (l:=[zi (R:Int)]) Tryz.func248 rfl Tryz.ntmps248 rfl rfl ?_
 refine za 9 rfl ?_
 apply YN
 iterate 4 exact rfl
 case h1 =>
  intro hg2
  refine za 4 rfl ?_
  exact qO rfl zR
 refine qA ?_
 refine KY rfl (by simp; omega) ?_
 refine za 3 rfl ?_
 refine Zb (ln:=R) (cp:=R) (l:=(List.replicate R (0:Int)).map (Value.int .i64)) rfl rfl Qq ty3 rfl rfl (Nat.le_refl _) (by omega) (by simp only [maxLen]; omega) (by rw [Nat.mul_one]; simp [toList_madeCells_one,Value.cells]) rfl (fun b11=>?_)
 refine ql (l:=[.slice (some ⟨b11,0,none⟩) R R,zi 0,zi 0]) ty400 pl400 (.cons rfl rfl rfl rfl rfl .nil) rfl rfl rfl ?_
 refine qS (l:=[.slice (some ⟨b11,0,none⟩) R R,zi 0,zi 0]) rfl rfl rfl (fun b13=>?_)
 refine za 3 rfl ?_
 refine qF (H2:=[(b13,.cells 400 3 [.slice (some ⟨b11,0,none⟩) R R,zi 0,zi 0]),(b11,.cells 3 (R*1) ((List.replicate R (0:Int)).map (Value.int .i64)))]++H) Tryz.results248 rfl rfl (.nil _) zH ?_
 exact ⟨b13,_,rfl,.mk (qcA.start h0 h1),rfl⟩
structure Tm where
 id:Int
 s:Spot
 turn:Nat
def Tm.key (t:Tm):Nat:=t.s.lv*64+t.s.slot
def qcf (L:List Tm) (k:Nat):List Int:=(L.filter (fun t=>decide (t.key=k))).map (·.id)
def delT (L:List Tm) (id:Int):List Tm:=L.filter (fun t=>decide (t.id≠id))
structure WhIs (now:Nat) (L:List Tm) (sl:List Value) (XS:List qg) (bs:List Nat) (l:Zl Int) (c turn:Nat):Prop where
 row:qhs sl bs
 xs:XS.length=512
 own:∀ k,k<512→∃ v X,sl[k]?=some v∧XS[k]?=some X∧qQ 3 1 v (qcf L k).length ((qcf L k).map (Value.int .i64)) X
 busy:∀ n,n<8→∃ z,bs[n]?=some z∧z<18446744073709551616∧∀ s,s<64→(z.testBit s=true↔qcf L (n*64+s)≠[])
 map:ZP l c
 keys:(l.map (·.1)).Perm (L.map (·.id))
 val:∀ p∈l,∃ t∈L,t.id=p.1∧p.2.1=.agg (t.s.v++[Value.int .i64 ((t.turn:Nat):Int)]).toArray
 nodup:(L.map (·.id)).Nodup
 turns:L.Pairwise (fun a b=>a.turn<b.turn)
 last:∀ t∈L,t.turn≤turn
 range:∀ t∈L,0≤t.id∧t.id<256
 spot:∀ t∈L,t.s.lv<8∧t.s.slot<64
 time:∀ t∈L,∃ num,t.s.slot=num%64∧t.s.due=tickT num t.s.lv∧now/8 ^ t.s.lv<num∧num≤now/8 ^ t.s.lv+64∧num*8 ^ t.s.lv<18446744073709551615+8 ^ t.s.lv
theorem WhIs.new:WhIs now [] sl0 (List.replicate 512 []) bs0 [] 0 0 where
 row:=ok0
 xs:=List.length_replicate
 own k hk:=⟨_,_,by unfold sl0; rw [List.getElem?_replicate,if_pos hk],by rw [List.getElem?_replicate,if_pos hk],qQ.nil⟩
 busy n hn:=⟨0,by unfold bs0; rw [List.getElem?_replicate,if_pos hn],by decide,fun s _=>by simp [qcf]⟩
 map:=ZP.nil 0
 keys:=.nil
 val:=fun _ h=>by cases h
 nodup:=List.nodup_nil
 turns:=.nil
 last:=fun _ h=>by cases h
 range:=fun _ h=>by cases h
 spot:=fun _ h=>by cases h
 time:=fun _ h=>by cases h
inductive JP (bw now:Nat) (L:List Tm) (turn:Nat):qg→Prop
 | mk {bm c:Nat} {sl:List Value} {XS:List qg} {bs:List Nat} {l:Zl Int} (h:WhIs now L sl XS bs l c turn):JP bw now L turn ((bw,.cells 409 523 (qbU now sl bs bm turn))::(bm,.obj (JE (Value.int .i64) l c))::XS.flatten)
def quOf (Q:List (Int × Int)) (k:Int):List Int:=(Q.filter (fun p=>decide (p.2=k))).map (·.1)
structure QOk (n:Nat) (Q:List (Int × Int)):Prop where
 ids:(Q.map (·.1)).Nodup
 rng:∀ p∈Q,(0≤p.1∧p.1<256)∧0≤p.2∧p.2<(n:Int)
structure qfj (rn of_:List Int) (Rs:List (Int × Int)):Prop where
 len1:rn.length=256
 len2:of_.length=32
 b1:∀ x∈rn,0≤x∧x≤32
 b2:∀ x∈of_,0≤x∧x≤256
 r1:∀ (i c:Nat),(rn[i]?=some ((c:Int)+1)↔((i:Int),(c:Int))∈Rs)
 r2:∀ (i c:Nat),(of_[c]?=some ((i:Int)+1)↔((i:Int),(c:Int))∈Rs)
 rng:∀ p∈Rs,(0≤p.1∧p.1<256)∧0≤p.2∧p.2<32
 nd:Rs.Nodup
def Z4 (v:Value) (rn of_:List Int):List Value:=v::(rn.map (Value.int .i64)++of_.map (Value.int .i64))
abbrev rbP (rb:Nat):Value:=zp rb
inductive qcC (pb n:Nat) (Q Rs:List (Int × Int)):qg→Prop
 | mk {v:Value} {XQ:qg} {XS:List qg} {rbs:List Nat} {rn of_:List Int} (hv:qQ 303 1 v n (rbs.map rbP) XQ) (hl:XS.length=n) (hr:∀ (k:Nat) rb X,rbs[k]?=some rb→XS[k]?=some X→Kb 256 rb (quOf Q (k:Int)) X) (hrun:qfj rn of_ Rs) (hq:QOk n Q):qcC pb n Q Rs ((pb,.cells 386 289 (Z4 v rn of_))::(XQ++XS.flatten))
theorem qcU {v:Value} {rn of_:List Int} (h1:rn.length=256) (h2:of_.length=32):(Z4 v rn of_).length=289:=by
 unfold Z4; simp [h1,h2]
structure Gr where
 S:Sct
 Q:List (List (Int × Int))
 last:Int
 sc:Option (Nat × Int × Int)
 began:Int
 done:Int
 want:Int
inductive ScH (sb:Nat):Option (Nat × Int × Int)→Value→qg→Prop
 | none:ScH sb none (.pointer none) []
 | some {xb left:Nat} {bst place:Int}:ScH sb (some (left,bst,place)) (zp xb) [(xb,.cells 566 4 [zp sb,.int .u64 ((left:Nat):Int),.int .i64 bst,.int .i64 place])]
inductive GrH (gb n:Nat) (G:Gr):qg→Prop
 | mk {sb lb:Nat} {sv:Value} {HX HL:qg} (hS:ScH sb G.sc sv HX) (hL:qbP lb n G.Q G.last HL):GrH gb n G ((gb,.cells 276 6 [zp sb,zp lb,sv,.int .i64 G.began,.int .i64 G.done,.int .i64 G.want])::(sb,.cells 298 130 (scC G.S))::(HX++HL))
structure GrOk (n:Nat) (G:Gr):Prop where
 sok:qcz G.S
 n:0<n∧n≤64
 left:∀ l b p,G.sc=some (l,b,p)→l<18446744073709551616
 last:G.last≤G.began
 beg:0≤G.began∧G.began≤1000000000
 st:G.S.st≤1000000000
def gr0 (n:Nat):Gr:=⟨⟨List.replicate 64 (0,0),0,0⟩,List.replicate n [],0,none,0,0,0⟩
set_option maxRecDepth 100000
theorem qek (hn:1≤n∧n≤64) :qt Tryz.prog w0 113 #[zi (n:Int)] (H) (fun v H'=>∃ gb HG,v=.tuple #[zp gb,zi 0]∧GrH gb n (gr0 n) HG∧H'=HG++H):=by
 refine qi (l:=[zi (n:Int)]) Tryz.func113 rfl Tryz.ntmps113 rfl rfl ?_
 refine za 6 rfl (qu (zc1 rfl) Tryz.call180 rfl (qhR hn) ?_)
 rintro v H' ⟨lb,HL,rfl,hL,rfl⟩
 refine za 14 rfl ?_
 refine ql (l:=(scC ⟨List.replicate 64 (0,0),0,0⟩)) ty298 pl298 .nil rfl zk rfl ?_
 refine qS (l:=(scC ⟨List.replicate 64 (0,0),0,0⟩)) rfl rfl rfl (fun sb=>?_)
 refine qM rfl rfl ?_
 refine ql (l:=[zp sb,zp lb,.pointer none,zi 0,zi 0,zi 0]) ty276 pl276 (.cons rfl rfl rfl rfl rfl (.cons rfl rfl rfl rfl rfl .nil)) rfl rfl rfl ?_
 refine qS (l:=[zp sb,zp lb,.pointer none,zi 0,zi 0,zi 0]) rfl rfl rfl (fun gb=>?_)
 refine za 3 rfl (qF Tryz.results113 rfl rfl (.nil _) (.refl _) ?_)
 exact ⟨gb,_,rfl,.mk (G:=gr0 n) (.none) hL,rfl⟩
def delQ (Q:List (Int × Int)) (id:Int):List (Int × Int):=Q.filter (fun p=>decide (p.1≠id))
set_option maxRecDepth 100000
abbrev rn0:List Int:=List.replicate 256 0
abbrev of0:List Int:=List.replicate 32 0
theorem runs0:qfj rn0 of0 []:=by
 refine ⟨List.length_replicate,List.length_replicate,fun x hx=>?_,fun x hx=>?_,fun i c=>?_,fun i c=>?_,fun p hp=>(by cases hp),List.nodup_nil⟩
 ·rw [List.eq_of_mem_replicate hx]; decide
 ·rw [List.eq_of_mem_replicate hx]; decide
 ·refine ⟨fun h=>?_,fun h=>by cases h⟩
  have:=List.eq_of_mem_replicate (List.mem_of_getElem? h); omega
 ·refine ⟨fun h=>?_,fun h=>by cases h⟩
  have:=List.eq_of_mem_replicate (List.mem_of_getElem? h); omega
theorem quok0 (n:Nat):QOk n []:=⟨List.nodup_nil,fun p hp=>by cases hp⟩
structure NpS where
 i:Nat
 v:Value
 XQ:qg
 XS:List qg
 rbs:List Nat
theorem qa6 {XS:List qg} {rbs:List Nat} {X:qg} (hl:XS.length=rbs.length) (h:∀ (k:Nat) r Y,rbs[k]?=some r→XS[k]?=some Y→Kb 256 r [] Y) (hx:Kb 256 rb [] X):∀ (k:Nat) r Y,(rbs++[rb])[k]?=some r→(XS++[X])[k]?=some Y→Kb 256 r [] Y:=fun k r Y h1 h2=>by
 by_cases c:k<rbs.length
 ·rw [List.getElem?_append_left c] at h1
  rw [List.getElem?_append_left (by omega)] at h2
  exact h k r Y h1 h2
 ·rw [List.getElem?_append_right (by omega)] at h1 h2
  rw [hl] at h2
  cases hk:k-rbs.length with
  | zero =>
   rw [hk] at h1 h2
   obtain rfl:rb=r:=by simpa using h1
   obtain rfl:X=Y:=by simpa using h2
   exact hx
  | succ j=>rw [hk] at h1; simp at h1
theorem qdU (hn:1≤n∧n≤64) :qt Tryz.prog w0 178 #[zi (n:Int)] (H) (fun v H'=>∃ pb HB,v=.tuple #[zp pb,zi 0]∧qcC pb n [] [] HB∧H'=HB++H):=by
 refine qi (l:=[zi (n:Int)]) Tryz.func178 rfl Tryz.ntmps178 rfl rfl ?_
 refine za 8 rfl ?_
 rw [decide_eq_false (by omega)]
 refine za 5 rfl ?_
 rw [decide_eq_false (by omega)]
 refine za 5 rfl ?_
 refine ql (l:=(Z4 (.slice none 0 0) rn0 of0)) ty386 pl386 .nil rfl zk rfl ?_
 refine qS (l:=(Z4 (.slice none 0 0) rn0 of0)) rfl rfl rfl (fun b14=>?_)
 refine za 8 rfl ?_
 refine z0 (X:=NpS) [(4,_),(15,_)] (fun (x:NpS)=>[(16,zi (x.i:Int))]) (fun _=>_) (fun (x:NpS)=>(b14,.cells 386 289 (Z4 x.v rn0 of0))::(x.XQ++(x.XS.flatten++H))) (fun (x:NpS)=>x.i≤n∧x.rbs.length=x.i∧qQ 303 1 x.v x.rbs.length (x.rbs.map rbP) x.XQ∧x.XS.length=x.rbs.length∧(∀ (k:Nat) r Y,x.rbs[k]?=some r→x.XS[k]?=some Y→Kb 256 r [] Y)) (fun (x:NpS)=>n-x.i) ⟨0,.slice none 0 0,[],[],[]⟩ ⟨Nat.zero_le _,rfl,.nil,rfl,fun k r Y h=>(by cases h)⟩ (qc rfl (qc rfl (qm _))) (qc rfl (qm _)) rfl (.refl _) ?_
 rintro ⟨i,v,XQ,XS,rbs⟩ ⟨hi,hlen,hv,hl,hw⟩
 dsimp only at hi hlen hv hl hw ⊢
 simp only [List.cons_append,List.nil_append]
 refine za 4 rfl ?_
 refine qv (p:=(i:Int)<(n:Int)) rfl (by simp) (fun q0=>?_) (fun q0=>?_)
 ·skip
  refine za 4 rfl ?_
  refine qu (zc1 rfl) Tryz.call248 rfl (qhJ (R:=256) zd zd) ?_
  rintro w2 H' ⟨rb,HX,rfl,hX,rfl⟩
  refine za 18 rfl ?_
  refine qe (v:=v) rfl K8 rfl (qh.own (b:=b14) zM rfl) rfl ?_
  refine qM rfl rfl ?_
  refine qy (l:=[rbP rb]) K8 qg5 (.cons rfl rfl rfl rfl rfl .nil) rfl rfl rfl rfl rfl rfl rfl (fun b31=>?_)
  refine zy (news:=[rbP rb]) (m:=1) (HB:=XQ) (H0:=(b31,.cells 303 1 [rbP rb])::(HX++((b14,.cells 386 289 (Z4 v rn0 of0))::(XS.flatten++H)))) rfl rfl K8 qg5 rfl (by decide) hv rfl (qq.own (b:=b31) zM) rfl (by simp only [maxLen]; omega) (by omega) zH rfl (fun v' X' hv'=>?_)
  refine za 2 rfl ?_
  have hv1:v'.oneCell'=true:=by obtain ⟨_,_,rfl,_⟩:=hv'.shape; rfl
  refine q7 (l':=(Z4 v' rn0 of0)) rfl rfl K8 hv1 rfl (b:=b14) zM (by rw [qcU List.length_replicate List.length_replicate]; rfl) rfl zU ?_
  refine za 3 rfl ?_
  refine qC rfl rfl (qX (m:=((i+1:Nat):Int)) ((ZA zO).trans zO)) rfl ?_
  refine za 2 rfl ?_
  refine qW ⟨i+1,v',X',XS++[HX],rbs++[rb]⟩ ⟨by show i+1≤n; omega,by show (rbs++[rb]).length=i+1; rw [List.length_append,hlen]; rfl,by show qQ 303 1 v' (rbs++[rb]).length ((rbs++[rb]).map rbP) X'; rw [List.length_append,List.map_append]; exact hv',by show (XS++[HX]).length=(rbs++[rb]).length; rw [List.length_append,List.length_append,hl]; rfl,qa6 hl hw hX⟩ (by show n-(i+1)<n-i; omega) (qc rfl (qc rfl (qc rfl (qm _)))) rfl (by show qd _ ((b14,.cells 386 289 (Z4 v' rn0 of0))::(X'++((XS++[HX]).flatten++H))); rw [List.flatten_append,List.flatten_singleton,List.append_assoc]; first | exact qz | (repeat (first | with_reducible exact qd.refl _ | refine qd.cons zT ?_ | refine qd.app zS ?_ | exact qd.nil _ | exact qd.refl _ | refine qd.drop ?_ | refine qd.dropS ?_)))
 ·skip
  refine za 6 rfl ?_
  refine qF (H2:=(b14,.cells 386 289 (Z4 v rn0 of0))::(XQ++(XS.flatten++H))) Tryz.results178 rfl rfl (.nil _) zH ?_
  obtain rfl:i=n:=by omega
  exact ⟨b14,(b14,.cells 386 289 (Z4 v rn0 of0))::(XQ++XS.flatten),rfl,.mk (rbs:=rbs) (by rw [← hlen]; exact hv) (by omega) hw runs0 (quok0 _),by show _=_::((XQ++XS.flatten)++H); rw [List.append_assoc]⟩
structure qaM where
 shut:Bool
 prog:Int
def woC (o:qaM):List Value:=[.bool o.shut,zi o.prog]
def qdr (pb n:Nat) (A:List qaM) (on:List Int):List Value:=zp pb::zi ((n:Nat):Int)::(A.flatMap woC++on.map (Value.int .i64))
def Ki:qaM:=⟨false,0⟩
structure WkOk (n:Nat) (A:List qaM) (on:List Int):Prop where
 len:A.length=256
 rng:∀ o∈A,0≤o.prog∧o.prog≤16
 on32:on.length=32
 onr:∀ x∈on,0≤x∧x≤(n:Int)
inductive qfc (wb n:Nat) (Q Rs:List (Int × Int)) (As:List qaM) (on:List Int):qg→Prop
 | mk {pb:Nat} {HP:qg} (hP:qcC pb n Q Rs HP) (hA:WkOk n As on) (hn:n≤64):qfc wb n Q Rs As on ((wb,.cells 291 546 (qdr pb n As on))::HP)
def ofW (As:List qaM) (id:Int):qaM:=if 0≤id∧id<256 then As.getD id.toNat Ki else Ki
set_option maxRecDepth 100000
theorem qhu (hn:1≤n∧n≤64) :qt Tryz.prog w0 112 #[zi (n:Int)] (H) (fun v H'=>∃ wb HW,v=.tuple #[zp wb,zi 0]∧qfc wb n [] [] (List.replicate 256 Ki) (List.replicate 32 0) HW∧H'=HW++H):=by
 refine qi (l:=[zi (n:Int)]) Tryz.func112 rfl Tryz.ntmps112 rfl rfl ?_
 refine za 6 rfl (qu (zc1 rfl) Tryz.call178 rfl (qdU hn) ?_)
 rintro v H' ⟨pb,HP,rfl,hP,rfl⟩
 refine za 16 rfl ?_
 refine ql (l:=qdr pb n (List.replicate 256 Ki) (List.replicate 32 0)) ty291 pl291 (.cons rfl rfl rfl rfl rfl (.cons rfl rfl rfl rfl rfl .nil)) rfl zk rfl ?_
 refine qS (l:=qdr pb n (List.replicate 256 Ki) (List.replicate 32 0)) rfl rfl rfl (fun wb=>?_)
 refine za 3 rfl (qF Tryz.results112 rfl rfl (.nil _) (.refl _) ?_)
 exact ⟨wb,_,rfl,.mk hP ⟨List.length_replicate,fun o ho=>by rw [List.eq_of_mem_replicate ho]; decide,List.length_replicate,fun x hx=>by rw [List.eq_of_mem_replicate hx]; omega⟩ hn.2,rfl⟩
theorem qdY (a b:Nat × Blk) (H:qg):a::b::H=(a::b::(List.replicate 512 ([]:qg)).flatten)++H:=by
 rw [List.flatten_replicate_nil]; rfl
theorem New_W:qt Tryz.prog w0 249 #[zu ((now:Nat):Int)] H (fun v H'=>∃ bw HW,v=zp bw∧JP bw now [] 0 HW∧H'=HW++H) :=
 by
 refine New_L.mono ?_
 rintro v H' ⟨bw,bm,rfl,rfl⟩
 refine ⟨bw,_,rfl,.mk (bm:=bm) .new,?_⟩
 exact qdY _ _ _
def heldB (L:List Tm) (id:Int):Bool:=L.any (fun t=>decide (t.id=id))
def delsT (L:List Tm) (l:List Int):List Tm × Nat:=l.foldl (fun s id=>(delT s.1 id,s.2+if heldB s.1 id=true then 1 else 0)) (L,0)
instance:DecidableEq Tm:=fun a b=>by
 cases a; cases b
 rename_i i s t i2 s2 t2
 exact if h:i=i2∧s=s2∧t=t2 then isTrue (by obtain ⟨rfl,rfl,rfl⟩:=h; rfl) else isFalse (fun e=>h (by cases e; exact ⟨rfl,rfl,rfl⟩))
structure Wl where
 bw:Nat
 now:Nat
 L:List Tm
 turn:Nat
variable {Ws:List Wl}
abbrev Wl.p (w:Wl):Value:=.pointer (some ⟨w.bw,0,none⟩)
inductive qfm (bb:Nat) (Ws:List Wl):qg→Prop
 | mk {v:Value} {XS:qg} {HWs:List qg} (hv:qQ 309 1 v Ws.length (Ws.map Wl.p) XS) (hl:HWs.length=Ws.length) (hw:∀ (k:Nat) w HW,Ws[k]?=some w→HWs[k]?=some HW→JP w.bw w.now w.L w.turn HW):qfm bb Ws ((bb,.cells 391 1 [v])::(XS++HWs.flatten))
structure NbS where
 i:Nat
 Ws:List Wl
 v:Value
 XS:qg
 HWs:List qg
def JS (now:Nat) (w:Wl):Prop:=w.now=now∧w.L=[]∧w.turn=0
theorem qe8 {HWs:List qg} {u:Wl} {HU:qg} (hl:HWs.length=Ws.length) (hw:∀ (k:Nat) w HW,Ws[k]?=some w→HWs[k]?=some HW→JP w.bw w.now w.L w.turn HW) (hu:JP u.bw u.now u.L u.turn HU):∀ (k:Nat) w HW,(Ws++[u])[k]?=some w→(HWs++[HU])[k]?=some HW→JP w.bw w.now w.L w.turn HW:=fun k w HW h1 h2=>by
 by_cases c:k<Ws.length
 ·rw [List.getElem?_append_left c] at h1
  rw [List.getElem?_append_left (by omega)] at h2
  exact hw k w HW h1 h2
 ·rw [List.getElem?_append_right (by omega)] at h1 h2
  rw [hl] at h2
  cases hk:k-Ws.length with
  | zero =>
   rw [hk] at h1 h2
   obtain rfl:u=w:=by simpa using h1
   obtain rfl:HU=HW:=by simpa using h2
   exact hu
  | succ j=>rw [hk] at h1; simp at h1
theorem qig (hn:1≤n∧n≤64) :qt Tryz.prog w0 179 #[zi (n:Int),zu ((now:Nat):Int)] (H) (fun v H'=>∃ bb Ws HB,v=.tuple #[zp bb,zi 0]∧qfm bb Ws HB∧Ws.length=n∧(∀ w∈Ws,JS now w)∧H'=HB++H):=by
 refine qi (l:=[zi (n:Int),zu ((now:Nat):Int)]) Tryz.func179 rfl Tryz.ntmps179 rfl rfl ?_
 refine za 8 rfl ?_
 rw [decide_eq_false (by omega)]
 refine za 5 rfl ?_
 rw [decide_eq_false (by omega)]
 refine za 5 rfl ?_
 refine ql (l:=[.slice none 0 0]) ty391 pl391 .nil rfl rfl rfl ?_
 refine qS (l:=[.slice none 0 0]) rfl rfl rfl (fun b14=>?_)
 refine za 8 rfl ?_
 refine z0 (X:=NbS) [(1,_),(6,_),(15,_)] (fun (x:NbS)=>[(16,zi (x.i:Int))]) (fun _=>_) (fun (x:NbS)=>(b14,.cells 391 1 [x.v])::(x.XS++(x.HWs.flatten++H))) (fun (x:NbS)=>x.i≤n∧x.Ws.length=x.i∧qQ 309 1 x.v x.Ws.length (x.Ws.map Wl.p) x.XS∧x.HWs.length=x.Ws.length∧(∀ (k:Nat) w HW,x.Ws[k]?=some w→x.HWs[k]?=some HW→JP w.bw w.now w.L w.turn HW)∧∀ w∈x.Ws,JS now w) (fun (x:NbS)=>n-x.i) ⟨0,[],.slice none 0 0,[],[]⟩ ⟨Nat.zero_le _,rfl,.nil,rfl,fun k w HW h=>(by cases h),fun w h=>(by cases h)⟩ (qc rfl (qc rfl (qc rfl (qm _)))) (qc rfl (qm _)) rfl (.refl _) ?_
 rintro ⟨i,Ws,v,XS,HWs⟩ ⟨hi,hlen,hv,hl,hw,hf⟩
 dsimp only at hi hlen hv hl hw hf ⊢
 simp only [List.cons_append,List.nil_append]
 refine za 4 rfl ?_
 refine qv (p:=(i:Int)<(n:Int)) rfl (by simp) (fun q0=>?_) (fun q0=>?_)
 ·skip
  refine za 3 rfl ?_
  refine qfg [(b14,.cells 391 1 [v])] 11 zk ?_
  refine z3 0 rfl rfl zK zK zK zK rfl rfl (Jg rfl) rfl ?_
  refine z3 1 rfl rfl zK zK zK zK rfl rfl (Jg rfl) rfl ?_
  refine z3 2 rfl rfl zK zK zK zK rfl rfl (QT rfl) rfl ?_
  refine z3 3 rfl rfl zK zK zK zK rfl rfl (QB rfl qay zd) rfl ?_
  refine z3 4 rfl rfl zK zK zK zK rfl rfl (qZ (v:=v) rfl K7 rfl (qh.own (b:=b14) zM rfl)) rfl ?_
  refine z3 5 rfl rfl zK zK zK zK rfl rfl (Jg rfl) rfl ?_
  refine Ka 6 zH rfl zK rfl rfl ?_
  refine qu (zc1 rfl) Tryz.call249 rfl (New_W (now:=now)) ?_
  rintro w2 H' ⟨bw,HW,rfl,hW,rfl⟩
  refine qA ?_
  refine Yv ?_
  refine Ka 7 zH rfl zK rfl rfl ?_
  refine qy (l:=[zp bw]) K7 qg4 (.cons rfl rfl rfl rfl rfl .nil) rfl rfl rfl rfl rfl rfl rfl (fun b25=>?_)
  refine qA ?_
  refine Yv ?_
  refine Ka 8 zH rfl zK rfl rfl ?_
  refine zy (news:=[zp bw]) (m:=1) (HB:=XS) (H0:=(b25,.cells 309 1 [zp bw])::(HW++((b14,.cells 391 1 [v])::(HWs.flatten++H)))) rfl rfl K7 qg4 rfl (by decide) hv rfl (qq.own (b:=b25) zM) rfl (by simp only [maxLen]; omega) (by omega) zH rfl (fun v' X' hv'=>?_)
  refine qA ?_
  refine Yv ?_
  refine qaQ 9 rfl rfl zK zK zK rfl rfl (QT rfl) rfl ?_
  refine z3 10 rfl rfl zK zK zK zK rfl rfl (QB rfl qay zd) rfl ?_
  refine qcx zH zK rfl rfl ?_
  have hv1:v'.oneCell'=true:=by obtain ⟨_,_,rfl,_⟩:=hv'.shape; rfl
  refine q7 (l':=[v']) rfl rfl K7 hv1 rfl (b:=b14) zM rfl rfl zU ?_
  refine qA (Zc (Yx (.nil _) zK (za 2 rfl ?_)))
  refine qC rfl rfl (qX (m:=((i+1:Nat):Int)) ((ZA zO).trans zO)) rfl ?_
  refine za 2 rfl ?_
  refine qW ⟨i+1,Ws++[⟨bw,now,[],0⟩],v',X',HWs++[HW]⟩ ⟨by show i+1≤n; omega,by show (Ws++[_]).length=i+1; rw [List.length_append,hlen]; rfl,by show qQ 309 1 v' (Ws++[_]).length ((Ws++[_]).map Wl.p) X'; rw [List.length_append,List.map_append]; exact hv',by show (HWs++[HW]).length=(Ws++[_]).length; rw [List.length_append,List.length_append,hl]; rfl,qe8 hl hw hW,fun w h=>(List.mem_append.1 h).elim (hf w) (fun h=>by rw [List.mem_singleton.1 h]; exact ⟨rfl,rfl,rfl⟩)⟩ (by show n-(i+1)<n-i; omega) (qc rfl (qc rfl (qc rfl (qc rfl (qm _))))) rfl (by show qd _ ((b14,.cells 391 1 [v'])::(X'++((HWs++[HW]).flatten++H))); rw [List.flatten_append,List.flatten_singleton,List.append_assoc]; first | exact qz | (repeat (first | with_reducible exact qd.refl _ | refine qd.cons zT ?_ | refine qd.app zS ?_ | exact qd.nil _ | exact qd.refl _ | refine qd.drop ?_ | refine qd.dropS ?_)))
 ·skip
  refine za 6 rfl ?_
  refine qF (H2:=(b14,.cells 391 1 [v])::(XS++(HWs.flatten++H))) Tryz.results179 rfl rfl (.nil _) zH ?_
  exact ⟨b14,Ws,(b14,.cells 391 1 [v])::(XS++HWs.flatten),rfl,.mk hv hl hw,by omega,hf,by show _=_::((XS++HWs.flatten)++H); rw [List.append_assoc]⟩
def delW (l:List Int) (w:Wl):Wl:=⟨w.bw,w.now,(delsT w.L l).1,w.turn⟩
structure Xd where
 made:Bool
 shut:Bool
 prog:Int
 starts:Int
def oneC (o:Xd):List Value:=[.bool o.made,.bool o.shut,zi o.prog,zi o.starts]
def Km (pb bb:Nat) (A:List Xd):List Value:=zp pb::zp bb::A.flatMap oneC
def YU:Xd:=⟨false,false,0,0⟩
structure AsOk (A:List Xd):Prop where
 len:A.length=256
 rng:∀ o∈A,0≤o.prog∧o.prog≤16
inductive qbO (tb n:Nat) (Ws:List Wl) (Q Rs:List (Int × Int)) (As:List Xd):qg→Prop
 | mk {pb bb:Nat} {HP HB:qg} (hP:qcC pb n Q Rs HP) (hB:qfm bb Ws HB) (hA:AsOk As) (hn:Ws.length=n∧n≤64):qbO tb n Ws Q Rs As ((tb,.cells 232 1026 (Km pb bb As))::(HP++HB))
abbrev St:=List (Nat × List Tm)
structure Rw where
 now:Nat
 L:List Tm
 ad:Option Addr
 cap:Nat
def Rw.nl (d:Rw):Nat × List Tm:=(d.now,d.L)
def Wl.nl (w:Wl):Nat × List Tm:=(w.now,w.L)
abbrev stW (Ws:List Wl):St:=Ws.map Wl.nl
def UniS (S:St):Prop:=∀ (i j:Nat) x y,S[i]?=some x→S[j]?=some y→∀ t∈x.2,∀ u∈y.2,t.id=u.id→i=j
structure BOk (T:Nat) (Ws:List Wl):Prop where
 now:∀ w∈Ws,w.now≤18446744073709551615
 later:∀ w∈Ws,∀ t∈w.L,w.now<t.s.due
 turn:∀ w∈Ws,w.turn≤T
 uni:UniS (stW Ws)
theorem BOk.start (hn:now≤18446744073709551615) (hf:∀ w∈Ws,JS now w):BOk 0 Ws:=by
 refine ⟨fun w hw=>?_,fun w hw t ht=>?_,fun w hw=>?_,fun i j x y hx _ t ht=>?_⟩
 ·rw [(hf w hw).1]; exact hn
 ·rw [(hf w hw).2.1] at ht; cases ht
 ·rw [(hf w hw).2.2]; exact Nat.le_refl _
 ·obtain ⟨w,hw,rfl⟩:=List.mem_map.1 (List.mem_of_getElem? hx)
  have ht2:t∈w.L:=ht
  rw [(hf w hw).2.1] at ht2; cases ht2
theorem BOk.up {T T':Nat} (h:BOk T Ws) (hl:T≤T'):BOk T' Ws:=⟨h.now,h.later,fun w hw=>Nat.le_trans (h.turn w hw) hl,h.uni⟩
structure TOk (T:Nat) (Ws:List Wl) (As:List Xd):Prop where
 bank:BOk T Ws
 starts:∀ o∈As,0≤o.starts∧o.starts≤(T:Int)
theorem TOk.up {T T':Nat} {As:List Xd} (h:TOk T Ws As) (hl:T≤T'):TOk T' Ws As:=⟨h.bank.up hl,fun o ho=>by have:=h.starts o ho; omega⟩
def shutA (s:List Wl × List (Int × Int) × List Xd × Nat) (id:Int):List Wl × List (Int × Int) × List Xd × Nat:=if 0≤id∧id<256 then (match s.2.2.1[id.toNat]? with
 | some o=>if o.shut=true then s else (s.1.map (delW [id]),delQ s.2.1 id,s.2.2.1.set id.toNat { o with shut:=true },s.2.2.2+1)
 | none=>s) else s
def KJ (Ws:List Wl) (Q:List (Int × Int)) (As:List Xd) (ids:List Int):List Wl × List (Int × Int) × List Xd × Nat:=ids.foldl shutA (Ws,Q,As,0)
set_option maxRecDepth 100000
theorem qft (hn:1≤n∧n≤64) :qt Tryz.prog w0 111 #[zi (n:Int),zu ((now:Nat):Int)] (H) (fun v H'=>∃ tb Ws HB,v=.tuple #[zp tb,zi 0]∧qbO tb n Ws [] [] (List.replicate 256 YU) HB∧Ws.length=n∧(∀ w∈Ws,JS now w)∧H'=HB++H):=by
 refine qi (l:=[zi (n:Int),zu ((now:Nat):Int)]) Tryz.func111 rfl Tryz.ntmps111 rfl rfl ?_
 refine za 6 rfl (qu (zc1 rfl) Tryz.call178 rfl (qdU hn) ?_)
 rintro v H' ⟨pb,HP,rfl,hP,rfl⟩
 refine za 16 rfl ?_
 refine qu (zc2 rfl rfl) Tryz.call179 rfl (qig (now:=now) hn) ?_
 rintro v H' ⟨bb,Ws,HBk,rfl,hB,hWl,hfr,rfl⟩
 refine za 16 rfl ?_
 refine ql (l:=Km pb bb (List.replicate 256 YU)) ty232 pl232 (.cons rfl rfl rfl rfl rfl (.cons rfl rfl rfl rfl rfl .nil)) rfl zk rfl ?_
 refine qS (l:=Km pb bb (List.replicate 256 YU)) rfl rfl rfl (fun b29=>?_)
 refine za 3 rfl ?_
 refine qF (H2:=(b29,.cells 232 1026 (Km pb bb (List.replicate 256 YU)))::(HP++(HBk++H))) Tryz.results111 rfl rfl (.nil _) zH ?_
 exact ⟨b29,Ws,(b29,.cells 232 1026 (Km pb bb (List.replicate 256 YU)))::(HP++HBk),rfl,.mk hP hB ⟨List.length_replicate,fun o ho=>by rw [List.eq_of_mem_replicate ho]; decide⟩ ⟨hWl,hn.2⟩,hWl,hfr,by show _=(b29,.cells 232 1026 (Km pb bb (List.replicate 256 YU)))::((HP++HBk)++H); rw [List.append_assoc]⟩
theorem tok0 (hn:now≤18446744073709551615) (hf:∀ w∈Ws,JS now w):TOk 0 Ws (List.replicate 256 YU):=⟨BOk.start hn hf,fun o ho=>by rw [List.eq_of_mem_replicate ho]; decide⟩
instance:Inhabited Hd:=⟨⟨0,0⟩⟩
def Hd.In (v:Hd):Prop:=(-9223372036854775808≤v.slot∧v.slot≤9223372036854775807)∧(-9223372036854775808≤v.gen∧v.gen≤9223372036854775807)
structure TabIs (C:List (Int × Hd)) (vs:List Value) (Hs:List qg):Prop where
 vl:vs.length=8
 hl:Hs.length=8
 nd:(qf4 C).Nodup
 len:C.length≤64
 own:∀ b,b<8→∃ v HB,vs[b]?=some v∧Hs[b]?=some HB∧qQ 590 3 v (inB C b).length ((inB C b).reverse.flatMap entC) HB
def newS (i:Nat):Slt:=⟨⟨(i:Int),1⟩,0,qdq⟩
section
variable {K:Type} [DecidableEq K]
def qbx (m:List K) (k:K):List K:=m.filter (fun x=>decide (x≠k))
structure OrdIs (room:Nat) (m:List K) (last:Nat) (l:Zl K) (c:Nat) (τ:K→Nat):Prop where
 ok:ZP l c
 keys:(l.map (·.1)).Perm m
 val:∀ p∈l,p.2.1=zi (τ p.1:Int)
 asc:m.Pairwise (fun x y=>τ x < τ y)
 bd:∀ k∈m,0 < τ k∧τ k≤last
 le:m.length≤room
variable {room last c:Nat} {m:List K} {l:Zl K} {τ:K→Nat}
end
inductive AreH (ab:Nat) (L:List Slt):qg→Prop
 | mk {sb u f:Nat} (hu:qfi 1 L u) (hf:qfi 0 L f) (hk:qht L):AreH ab L [(ab,.cells 514 3 [.slice (some ⟨sb,0,none⟩) L.length L.length,.int .u64 ((u:Nat):Int),.int .u64 ((f:Nat):Int)]),(sb,.cells 538 (L.length*7) ((L).flatMap sltC))]
inductive TabH (tb room:Nat) (C:List (Int × Hd)):qg→Prop
 | mk {cb:Nat} {vs:List Value} {Hs:List qg} (hT:TabIs C vs Hs):TabH tb room C ((tb,.cells 541 3 [.slice (some ⟨cb,0,none⟩) 8 8,.int .i64 (room:Int),.int .i64 ((C.length:Nat):Int)])::(cb,.cells 591 8 vs)::Hs.flatten)
inductive OrdH (bo room T:Nat) (m:List Int):qg→Prop
 | mk {bm last c:Nat} {l:Zl Int} {τ:Int→Nat} (hO:OrdIs room m last l c τ) (hl:last≤T):OrdH bo room T m [(bo,.cells 544 3 [.int .i64 (room:Int),.int .i64 ((last:Nat):Int),.map (some bm)]),(bm,.obj (JE (Value.int .u64) l c))]
section
variable {w0:World} {H HA HT HO:qg} {ab tb bo room T:Nat} {L:List Slt} {C:List (Int × Hd)} {m:List Int}
end
end Go.Proofs.YtcggkokeggfdkaaGreatDoor
