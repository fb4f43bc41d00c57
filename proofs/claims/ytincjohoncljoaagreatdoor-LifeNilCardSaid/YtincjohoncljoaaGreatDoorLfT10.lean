/-
  Own work: contracts of functions that the statement reaches, and plain facts on what they compute; each theorem says its conditions.
-/
import Derived.Test.YtincjohoncljoaaGreatDoorLfT9
import Derived.Test.YtincjohoncljoaaGreatDoorLfS1
import Derived.Test.YtincjohoncljoaaGreatDoorLfS2
import Derived.Lib.LaidTab
import Derived.Lib.LaidIn
import Derived.Stop.LaidErr
import Derived.Test.YtincjohoncljoaaGreatDoorCards
import Derived.Test.YtincjohoncljoaaGreatDoorTie
import Derived.Test.YtincjohoncljoaaGreatDoorLfA
set_option linter.all false
set_option linter.unusedSimpArgs false
set_option linter.unusedVariables false
set_option maxHeartbeats 16000000
namespace Go.Proofs.YtincjohoncljoaaGreatDoor
open Go Go.Sl Go.ChangeShapes Go.WideShapes Go.ChangeAt Go.RowKit
set_option maxRecDepth 100000
theorem own:ownKnob Tryz.prog.godebug=none:=by kernel_rfl
theorem kids:Kids Tryz.prog (· < Tryz.prog.types.size):=kids_rows zk zk
theorem full:∀ t e,t < Tryz.prog.types.size→Tryz.prog.underlying t=some (.slice e)→0 < Tryz.prog.cellsOf e:=slices_full_of Tryz.prog zk
theorem u4:Tryz.prog.underlying 4=some .bool:=by kernel_rfl
theorem u3:Tryz.prog.underlying 3=some (.int .i64):=by kernel_rfl
theorem u30:Tryz.prog.underlying 30=some (.int .u64):=by kernel_rfl
theorem u590:Tryz.prog.underlying 590=some (.array 64 5):=by kernel_rfl
theorem u5:Tryz.prog.underlying 5=some (.int .u8):=by kernel_rfl
theorem gDz:Tryz.prog.globalNamed "math/bits.deBruijn64tab"=some 0:=by kernel_rfl
theorem tDz:(Tryz.prog.globals[0]?).map (·.type)=some 590:=by kernel_rfl
abbrev laidL:List (String × DataW Unit):=[("math/bits.deBruijn64tab",Rows.laid_math_bits_deBruijn64tab)]
theorem tab_laid {W:World} (h:laidMetH Tryz.prog laidL W):Tab W:=fun j hj => by
 have h1:Lib.TabIs Tryz.prog W "math/bits.deBruijn64tab" .u8 (Lib.deBruijn64tab.map fun z:Nat => (z:Int)):=Lib.tabIs_of_head (rest:=[]) gDz tDz u590 u5 zk zk (show laidMet Tryz.prog laidL W from h)
 have h2:=h1.cell gDz j (by rw [List.length_map]; exact hj)
 rw [h2]
 rw [List.getD_eq_getElem?_getD,List.getD_eq_getElem?_getD,List.getElem?_map]
 cases Lib.deBruijn64tab[j]? <;> rfl
theorem joined_parts {P:Program} {f:FuncId} {fn:Func} {s:ChangeSpec} {c:OpenClaim}
 (h1:c.wf (OpenSpec.ofChange s)=true) (h2:laidOutB P=true) (h3:mapsRowed P=true) (h4:fn.params.all (P.readableRec ·)=true) (h5:namedTie P c.named s.vars=true) (h6:(c.stops == [])=true) (h7:(P.stops == [])=true) (h8:(c.knobs == [])=true) (h9:(P.stopKnobs == [])=true)
 (h10:(c.inPlace == P.inPlace f)=true) (h11:(c.unfollowed == P.unfollowed f)=true) (h12:(c.recurses == P.recurses f)=true) (h13:(c.named == P.varsNamed f)=true)
 (h14:(c.maps == (fn.params.toList++s.plain.varTypes P).any (P.mapsRec ·))=true) (h15:(c.ifaces == (fn.params.toList++s.plain.varTypes P).any (P.ifacesRec ·))=true) (h16:(c.mapsOut == P.mapsAmong fn.resultTypes.toList)=true)
 (h17:(c.loops == (fn.params.toList++s.plain.varTypes P).any (P.loopsFrom ·))=true) (h18:(c.wideKeys == (fn.params.toList++s.plain.varTypes P++fn.resultTypes.toList).any (P.wideKeysFrom ·))=true)
 (h19:s.vars.all (P.varReadable ·)=true) (h20:fn.resultTypes.all (fun t => P.readableRec t && decide (t < P.types.size))=true) (h21:(c.ifacesOut == fn.resultTypes.toList.any (P.ifacesRec ·))=true) (h22:(c.loopsOut == fn.resultTypes.toList.any (P.loopsFrom ·))=true) (h23:(c.plainKeys == P.plainKeys)=true) (h24:c.shortTexts.isNone=true) (h25:P.stopsHeard=true) (h26:P.mayEnter=true) (h27:(c.lifted == P.liftsFinal)=true) (h28:(P.make == some c.make)=true)
 (h29:(c.kinds == (if c.domain.isEmpty then [] else fn.params.toList.map fun t => match P.underlying t with | some (.int k) => some k | _ => none))=true) (h30:(c.pinned == c.pinnedBy)=true)
 (h31:(c.veiled == (fn.params.toList++s.plain.varTypes P++fn.resultTypes.toList).any (P.veiledRec ·))=true) (h32:c.veiledFits P fn.params.toList (fn.params.toList++s.plain.varTypes P++fn.resultTypes.toList)=true):joinedFacts P f fn s c=true:=by
 unfold joinedFacts
 simp only [Bool.and_eq_true]
 and_intros <;> assumption
theorem any_chunks {α:Type} {l:List α} {p:α→Bool} {m k:Nat} (hm:0 < m) (hl:l.length≤m * k) (h:∀ j,j < k→((l.drop (m * j)).take m).any p=false):l.any p=false:=by
 rw [List.any_eq_false]
 intro x hx
 obtain ⟨i,hi,rfl⟩:=List.getElem_of_mem hx
 have hj:i / m < k:=Nat.div_lt_of_lt_mul zO
 refine List.any_eq_false.1 (h _ hj) _ (List.mem_of_getElem? (i:=i % m) ?_)
 rw [List.getElem?_take,if_pos (Nat.mod_lt _ hm),List.getElem?_drop,Nat.div_add_mod,List.getElem?_eq_getElem hi]
theorem goes_none {P:Program} {c:OpenClaim} (h:P.funcs.toList.any Func.goes=false) (hs:c.start=.entering):false=c.goesBy P:=by
 rw [List.any_eq_false] at h
 have hg:∀ f,P.goes f=false:=fun f => by
  unfold Program.goes
  have h1:((P.closure f).any fun g => (P.funcs[g]?).any Func.goes)=false:=by
   rw [List.any_eq_false]
   intro g _ hh
   cases e:P.funcs[g]? with
   | none => rw [e] at hh; cases hh
   | some fn =>
    rw [e] at hh
    exact h fn (by obtain ⟨hb,rfl⟩:=Array.getElem?_eq_some_iff.1 e; exact Array.getElem_mem_toList hb) hh
  have h2:P.funcs.any Func.goes=false:=by
   rw [← Array.any_toList,List.any_eq_false]; exact h
  rw [h1,h2,Bool.and_false]; rfl
 unfold OpenClaim.goesBy Program.goesAt Program.goesFrom
 rw [hs]
 cases P.funcNamed c.func with
 | none => rfl
 | some f => show false=(P.goes f || false); rw [hg]; rfl
theorem p_laid:laidOutB Tryz.prog=true:=by kernel_rfl
theorem p_rowed:mapsRowed Tryz.prog=true:=by kernel_rfl
theorem p_stops:(Tryz.prog.stops == [])=true:=by kernel_rfl
theorem p_knobs:(Tryz.prog.stopKnobs == [])=true:=by kernel_rfl
theorem p_heard:Tryz.prog.stopsHeard=true:=by kernel_rfl
theorem p_enter:Tryz.prog.mayEnter=true:=by kernel_rfl
theorem p_size:Tryz.prog.funcs.toList.length≤60 * 9:=by decide +kernel
theorem p_g0:((Tryz.prog.funcs.toList.drop (60 * 0)).take 60).any Func.goes=false:=by kernel_rfl
theorem p_g1:((Tryz.prog.funcs.toList.drop (60 * 1)).take 60).any Func.goes=false:=by kernel_rfl
theorem p_g2:((Tryz.prog.funcs.toList.drop (60 * 2)).take 60).any Func.goes=false:=by kernel_rfl
theorem p_g3:((Tryz.prog.funcs.toList.drop (60 * 3)).take 60).any Func.goes=false:=by kernel_rfl
theorem p_g4:((Tryz.prog.funcs.toList.drop (60 * 4)).take 60).any Func.goes=false:=by kernel_rfl
theorem p_g5:((Tryz.prog.funcs.toList.drop (60 * 5)).take 60).any Func.goes=false:=by kernel_rfl
theorem p_g6:((Tryz.prog.funcs.toList.drop (60 * 6)).take 60).any Func.goes=false:=by kernel_rfl
theorem p_g7:((Tryz.prog.funcs.toList.drop (60 * 7)).take 60).any Func.goes=false:=by kernel_rfl
theorem p_g8:((Tryz.prog.funcs.toList.drop (60 * 8)).take 60).any Func.goes=false:=by kernel_rfl
theorem p_goes:Tryz.prog.funcs.toList.any Func.goes=false:=any_chunks zd p_size fun j hj => by
 match j,hj with
 | 0,_ => exact p_g0
 | 1,_ => exact p_g1
 | 2,_ => exact p_g2
 | 3,_ => exact p_g3
 | 4,_ => exact p_g4
 | 5,_ => exact p_g5
 | 6,_ => exact p_g6
 | 7,_ => exact p_g7
 | 8,_ => exact p_g8
 | n+9,h => exact absurd h zO
noncomputable def laidWorld (os:Os):World :=
 let w0:=World.holding Tryz.prog os ⟨#[],#[],[]⟩
 let put (h:Array Obj) (g:Nat) (cs:Array Value):Array Obj:=h.modify g fun
  | .cells _ t frozen => .cells cs t frozen
  | o => o
 { w0 with heap:=put w0.heap 0 (Lib.deBruijn64tab.map fun z:Nat => Value.int .u8 (z:Int)).toArray }
theorem laid_met (os:Os) (args:Array Value):laidMet Tryz.prog laidL ((laidWorld os).forCall (fun _ _ => 0) ⟨#[],args,[]⟩).memory :=
 laidMet_of_run' 8 zk zk
end Go.Proofs.YtincjohoncljoaaGreatDoor
