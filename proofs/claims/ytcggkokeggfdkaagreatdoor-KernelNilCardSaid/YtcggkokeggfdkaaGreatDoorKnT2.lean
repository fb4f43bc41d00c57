/-
  Own work: contracts of functions that the statement reaches, and plain facts on what they compute; each theorem says its conditions.
-/
import Derived.Test.YtcggkokeggfdkaaGreatDoorKnT1
import Derived.Test.YtcggkokeggfdkaaGreatDoorKnS2
import Derived.Test.YtcggkokeggfdkaaGreatDoorKnS1
import Derived.ChangeKeysEq
import Derived.Test.YtcggkokeggfdkaaGreatDoorKnS4
import Derived.Test.YtcggkokeggfdkaaGreatDoorShelf
import Derived.WalkSmall
import Derived.IntWalk
import Derived.Test.YtcggkokeggfdkaaGreatDoorKnA
set_option linter.all false
set_option linter.unusedSimpArgs false
set_option linter.unusedVariables false
set_option maxHeartbeats 16000000
namespace Go.Proofs.YtcggkokeggfdkaaGreatDoor
open Go Go.Sl
attribute [local irreducible] W
inductive AreH (ab : Nat) (L : List Slt) : Heap → Prop
 | mk {sb u f : Nat} (hu : TellsA 1 L u) (hf : TellsA 0 L f) (hk : AreOk L) : AreH ab L [(ab, .cells 514 3 [.slice (some ⟨sb, 0, none⟩) L.length L.length, .int .u64 ((u : Nat) : Int), .int .u64 ((f : Nat) : Int)]), (sb, .cells 538 (L.length * 7) ((L).flatMap sltC))]
inductive TabH (tb room : Nat) (C : List (Int × Hd)) : Heap → Prop
 | mk {cb : Nat} {vs : List Value} {Hs : List Heap} (hT : TabIs C vs Hs) : TabH tb room C ((tb, .cells 541 3 [.slice (some ⟨cb, 0, none⟩) 8 8, .int .i64 (room : Int), .int .i64 ((C.length : Nat) : Int)]) :: (cb, .cells 591 8 vs) :: Hs.flatten)
inductive OrdH (bo room T : Nat) (m : List Int) : Heap → Prop
 | mk {bm last c : Nat} {l : Ents Int} {τ : Int → Nat} (hO : OrdIs room m last l c τ) (hl : last ≤ T) : OrdH bo room T m [(bo, .cells 544 3 [.int .i64 (room : Int), .int .i64 ((last : Nat) : Int), .map (some bm)]), (bm, .obj (mapO (Value.int .u64) l c))]
section
variable {w0 : World} {H HA HT HO : Heap} {ab tb bo room T : Nat} {L : List Slt} {C : List (Int × Hd)} {m : List Int}
end
structure Xm where
 kind : Nat
 entries : Nat
 words : Nat
 closed : Bool
 L : List Slt
 C : List (Int × Hd)
 used : List Int
structure Xm.Ok (x : Xm) : Prop where
 knd : x.kind ≤ 2
 ent : 1 ≤ x.entries ∧ x.entries ≤ 8
 wrd : 1 ≤ x.words ∧ x.words ≤ 4
 len : x.L.length = 2 * x.entries
 are : AreOk x.L
 nd : (keyL x.C).Nodup
 perm : x.used.Perm (keyL x.C)
 le : x.C.length ≤ x.entries
 lk : ∀ p ∈ x.C, ∃ (i : Nat) (s : Slt), p.2.slot = (i : Int) ∧ x.L[i]? = some s ∧ s.st = 1 ∧ s.own = p.2 ∧ s.cel.key = p.1
 rng : ∀ k ∈ keyL x.C, 0 ≤ k ∧ k < 18446744073709551616
def Xm.use (x : Xm) (k : Int) : Xm := { x with used := drop1O x.used k ++ [k] }
def Xm.link (x : Xm) (c : Cel) : Xm × Hd := match firstF x.L with
 | some i => match x.L[i]? with
  | some s => ({ x with L := x.L.set i { s with st := 1, cel := c }, C := (c.key, s.own) :: x.C, used := drop1O x.used c.key ++ [c.key] }, s.own)
  | none => (x, zHd)
 | none => (x, zHd)
def Xm.unlink (x : Xm) (k : Int) : Xm × Hd := ({ x with C := delC x.C k, used := drop1O x.used k }, (fndC x.C k).getD zHd)
def Xm.refE (x : Xm) (how : Int) : Int := if x.kind = 0 then 2 else if how = 2 then 4 else if x.kind = 1 ∧ x.C.length = x.entries then 3 else if cntA 0 x.L = 0 then 20 else 0
structure Putt where
 h : Hd
 gone : Hd
 out : Bool
deriving DecidableEq
def zPutt : Putt := ⟨zHd, zHd, false⟩
def Xm.put (x : Xm) (how k : Int) (ws : List Int) : Xm × Putt × Int :=
 if (how < 0 ∨ 2 < how) ∨ x.words < ws.length then (x, zPutt, 1)
 else if x.closed = true then (x, zPutt, 22)
 else match fndC x.C k with
  | some g => if how = 1 then (x, zPutt, 5) else ({ x.use k with L := setAX x.L g (fun s => { s with cel := ⟨k, W4.of ws⟩ }) }, ⟨g, zHd, false⟩, errA x.L g)
  | none => if x.refE how ≠ 0 then (x, zPutt, x.refE how)
   else if x.C.length = x.entries then
    (((x.unlink (x.used.headD 0)).1.link ⟨k, W4.of ws⟩).1, ⟨((x.unlink (x.used.headD 0)).1.link ⟨k, W4.of ws⟩).2, (x.unlink (x.used.headD 0)).2, true⟩, 0)
   else ((x.link ⟨k, W4.of ws⟩).1, ⟨(x.link ⟨k, W4.of ws⟩).2, zHd, false⟩, 0)
def Xm.linked (x : Xm) (h : Hd) : Bool := decide (errA x.L h = 0) && decide (fndC x.C (celA x.L h).key = some h)
def Xm.free (x : Xm) (h : Hd) : Xm × Int := if errA x.L h ≠ 0 then (x, errA x.L h) else if x.linked h = true then (x, 21) else ({ x with L := setAX x.L h relS }, 0)
def Xm.load (x : Xm) (h : Hd) (at_ : Int) : Int × Int := if errA x.L h ≠ 0 then (0, errA x.L h) else if at_ < 0 ∨ (x.words : Int) ≤ at_ then (0, 1) else ((celA x.L h).w.get at_.toNat, 0)
def Xm.store (x : Xm) (h : Hd) (at_ v : Int) : Xm × Int := if errA x.L h ≠ 0 then (x, errA x.L h) else if at_ < 0 ∨ (x.words : Int) ≤ at_ then (x, 1) else ({ x with L := setAX x.L h (fun s => { s with cel := ⟨s.cel.key, s.cel.w.put at_.toNat v⟩ }) }, 0)
def Xm.key (x : Xm) (h : Hd) : Int × Int := ((celA x.L h).key, errA x.L h)
def sortU (l : List Int) : List Int := l.mergeSort (fun a b => decide (a ≤ b))
noncomputable def Xm.keys (x : Xm) : List Int := if x.kind = 2 then x.used else if x.kind = 0 then sortU (keysC x.C) else keysC x.C
def arrS (i : Nat) : Slt := ⟨⟨(i : Int), 1⟩, 1, ⟨(i : Int), zW⟩⟩
def arrL (n k : Nat) : List Slt := (List.range n).map fun i => if i < k then arrS i else newS i
def arrC (k : Nat) : List (Int × Hd) := ((List.range k).map fun i : Nat => (((i : Int), ⟨(i : Int), 1⟩) : Int × Hd)).reverse
def arrU (k : Nat) : List Int := (List.range k).map fun i : Nat => (i : Int)
def Xm.new (kind entries words : Nat) : Xm := ⟨kind, entries, words, false, arrL (2 * entries) (if kind = 0 then entries else 0), arrC (if kind = 0 then entries else 0), arrU (if kind = 0 then entries else 0)⟩
inductive XmH (mb T : Nat) (x : Xm) : Heap → Prop
 | mk {ab tb bo : Nat} {HA HT HO : Heap} (hA : AreH ab x.L HA) (hB : TabH tb x.entries x.C HT) (hO : OrdH bo x.entries T x.used HO) (hx : x.Ok) : XmH mb T x ((mb, .cells 435 7 [.int .i64 (x.kind : Int), .int .i64 (x.entries : Int), .int .i64 (x.words : Int), .pointer (some ⟨ab, 0, none⟩), .pointer (some ⟨tb, 0, none⟩), .pointer (some ⟨bo, 0, none⟩), .bool x.closed]) :: (HA ++ (HT ++ HO)))
section
variable {w0 : World} {H HX : Heap} {mb T : Nat} {x : Xm}
end
def mcC (c : Option Nat × Bool) : List Value := [.pointer (c.1.map fun mb => ⟨mb, 0, none⟩), .bool c.2]
def lfRow (n : Nat) (M : List (Option Nat × Bool)) (tb wb g1 g2 rb db : Nat) : List Value := .int .i64 ((n : Nat) : Int) :: (M.flatMap mcC ++ [.pointer (some ⟨tb, 0, none⟩), .pointer (some ⟨wb, 0, none⟩), .pointer (some ⟨g1, 0, none⟩), .pointer (some ⟨g2, 0, none⟩), .pointer (some ⟨rb, 0, none⟩), .map (some db)])
structure Dye where
 key : Int
 h : Hd
 clk : Nat
def Dye.ent (e : Dye) : Int × Value × Nat := (e.key, .agg (List.toArray (hdC e.h)), e.clk)
def Dye.p (e : Dye) : Int × Hd := (e.key, e.h)
inductive DyH (db : Nat) (dy : List (Int × Hd)) : Heap → Prop
 | mk {E : List Dye} {cl : Nat} (hok : MapOk (E.map Dye.ent) cl) (he : E.map Dye.p = dy) : DyH db dy [(db, .obj (mapO (Value.int .i64) ((E).map Dye.ent) cl))]
inductive MpH (T : Nat) : (Option Nat × Bool) → Option (Xm × Bool) → Heap → Prop
 | none : MpH T (none, false) none []
 | some {mb : Nat} {x : Xm} {b : Bool} {X : Heap} (h : XmH mb T x X) : MpH T (some mb, b) (some (x, b)) X
structure MsOk (T : Nat) (M : List (Option Nat × Bool)) (ms : List (Option (Xm × Bool))) (HM : List Heap) : Prop where
 m4 : M.length = 4
 s4 : ms.length = 4
 h4 : HM.length = 4
 at_ : ∀ (k : Nat) c y X, M[k]? = some c → ms[k]? = some y → HM[k]? = some X → MpH T c y X
structure Lf where
 n : Nat
 ms : List (Option (Xm × Bool))
 Ws : List Wl
 Qt : List (Int × Int)
 Rt : List (Int × Int)
 At : List Tone
 Qw : List (Int × Int)
 Rw : List (Int × Int)
 Aw : List Wone
 on : List Int
 tr : Gr
 cl : Gr
 us : List (Int × Cnt)
 dy : List (Int × Hd)
structure UsOk (R : List (Int × Cnt)) : Prop where
 rng : ∀ p ∈ R, 1 ≤ p.2.n ∧ p.2.n ≤ 8 ∧ p.2.top = 8 ∧ 0 ≤ p.1 ∧ p.1 < 16
 nd : (R.map (·.1)).Nodup
inductive LifeH (lb T : Nat) (F : Lf) : Heap → Prop
 | mk {tb wb g1 g2 rb db : Nat} {M : List (Option Nat × Bool)} {HT HW H1 H2 HR HD : Heap} {HM : List Heap}
  (hT : TimerH tb F.n F.Ws F.Qt F.Rt F.At HT) (hO : TOk T F.Ws F.At) (hW : WorkH wb F.n F.Qw F.Rw F.Aw F.on HW)
  (h1 : GrH g1 F.n F.tr H1) (o1 : GrOk F.n F.tr) (h2 : GrH g2 F.n F.cl H2) (o2 : GrOk F.n F.cl)
  (hR : RefH rb 8 F.us HR) (hU : UsOk F.us) (hD : DyH db F.dy HD) (hM : MsOk T M F.ms HM) :
  LifeH lb T F ((lb, .cells 197 15 (lfRow F.n M tb wb g1 g2 rb db)) :: (HT ++ (HW ++ (H1 ++ (H2 ++ (HR ++ (HD ++ HM.flatten)))))))
def lf0 (n : Nat) (Ws : List Wl) : Lf := ⟨n, [none, none, none, none], Ws, [], [], List.replicate 256 zTone, [], [], List.replicate 256 zWone, List.replicate 32 0, gr0 n, gr0 n, [], []⟩
theorem gr0_ok {n : Nat} (h : 1 ≤ n ∧ n ≤ 64) : GrOk n (gr0 n) := ⟨SctOk.start, by omega, fun l b p e => (by cases e), Int.le_refl 0, (by show (0 : Int) ≤ 0 ∧ (0 : Int) ≤ 1000000000; decide), (by show (0 : Int) ≤ 1000000000; decide)⟩
theorem us0 : UsOk [] := ⟨fun p hp => (by cases hp), List.nodup_nil⟩
theorem ms0 (T : Nat) : MsOk T [(none, false), (none, false), (none, false), (none, false)] [none, none, none, none] [[], [], [], []] := ⟨rfl, rfl, rfl, fun k c y X e1 e2 e3 => by
 have hk := (List.getElem?_eq_some_iff.1 e1).1
 have : k = 0 ∨ k = 1 ∨ k = 2 ∨ k = 3 := by simp at hk; omega
 rcases this with rfl | rfl | rfl | rfl <;> (cases e1; cases e2; cases e3; exact .none)⟩
set_option maxRecDepth 100000
theorem lfNew_L {w0 : World} {H : Heap} {n now : Nat} (hn : 1 ≤ n ∧ n ≤ 64) (hnow : now ≤ 18446744073709551615)  : LCalls Tryz.prog w0 49 #[.int .i64 (n : Int), .int .u64 ((now : Nat) : Int)] (H) (fun v H' => ∃ lb Ws HF, v = .tuple #[.pointer (some ⟨lb, 0, none⟩), .int .i64 0] ∧ LifeH lb 8 (lf0 n Ws) HF ∧ Ws.length = n ∧ (∀ w ∈ Ws, FreshW now w) ∧ H' = HF ++ H) := by
 refine L_enter (l := [.int .i64 (n : Int), .int .u64 ((now : Nat) : Int)]) Tryz.func49 rfl Tryz.ntmps49 rfl rfl ?_
 refine W_sr ?_
 refine W_assign rfl rfl ?_
 refine W_assign rfl rfl ?_
 refine W_nil (W_sr ?_)
 refine W_move rfl rfl ?_
 refine W_move rfl rfl ?_
 refine W_call (.cons rfl (.cons rfl .nil)) Tryz.call111 rfl (tNew_at (now := now) hn) ?_
 rintro v H' ⟨tb, Ws, HT, rfl, hT, hWl, hfr, rfl⟩
 refine W_move rfl rfl ?_
 refine W_extract rfl rfl rfl ?_
 refine W_extract rfl rfl rfl ?_
 refine W_assign rfl rfl ?_
 refine W_assign rfl rfl ?_
 refine W_nil (W_seq (W_sr ?_))
 refine W_move rfl rfl ?_
 refine W_bin rfl rfl b_neq rfl ?_
 refine W_nil ?_
 refine W_condF rfl rfl ?_
 refine W_skip (W_sr ?_)
 refine W_move rfl rfl ?_
 refine W_move rfl rfl ?_
 refine W_makeMap (kf := (Value.int .i64)) rfl (fun b20 => ?_)
 refine W_build (l := [.int .i64 ((n : Nat) : Int), .pointer none, .bool false, .pointer none, .bool false, .pointer none, .bool false, .pointer none, .bool false, .pointer (some ⟨tb, 0, none⟩), .pointer none, .pointer none, .pointer none, .pointer none, .map (some b20)]) ty197 pl197 (.cons rfl rfl rfl rfl rfl (.cons rfl rfl rfl rfl rfl (.cons rfl rfl rfl rfl rfl .nil))) rfl rfl rfl ?_
 refine W_box (l := [.int .i64 ((n : Nat) : Int), .pointer none, .bool false, .pointer none, .bool false, .pointer none, .bool false, .pointer none, .bool false, .pointer (some ⟨tb, 0, none⟩), .pointer none, .pointer none, .pointer none, .pointer none, .map (some b20)]) rfl rfl rfl (fun b22 => ?_)
 refine W_assign rfl rfl ?_
 refine W_nil (W_sr ?_)
 refine W_move rfl rfl ?_
 refine W_move rfl rfl ?_
 refine W_call (.cons rfl .nil) Tryz.call112 rfl (wNew_L hn) ?_
 rintro v H' ⟨wb, HW, rfl, hW, rfl⟩
 refine W_move rfl rfl ?_
 refine W_extract rfl rfl rfl ?_
 refine W_extract rfl rfl rfl ?_
 refine W_nilCheck rfl rfl ?_
 refine W_fieldAddr rfl fld197_3 zd rfl ?_
 refine W_store (l' := [.int .i64 ((n : Nat) : Int), .pointer none, .bool false, .pointer none, .bool false, .pointer none, .bool false, .pointer none, .bool false, .pointer (some ⟨tb, 0, none⟩), .pointer (some ⟨wb, 0, none⟩), .pointer none, .pointer none, .pointer none, .map (some b20)]) rfl rfl ty131 rfl rfl (b := b22) zM rfl rfl zU ?_
 refine W_nil (W_sr ?_)
 refine W_move rfl rfl ?_
 refine W_move rfl rfl ?_
 refine W_call (.cons rfl .nil) Tryz.call113 rfl (gNew_L hn) ?_
 rintro v H' ⟨g1, H1_, rfl, hg1, rfl⟩
 refine W_move rfl rfl ?_
 refine W_extract rfl rfl rfl ?_
 refine W_extract rfl rfl rfl ?_
 refine W_nilCheck rfl rfl ?_
 refine W_fieldAddr rfl fld197_4 zd rfl ?_
 refine W_store (l' := [.int .i64 ((n : Nat) : Int), .pointer none, .bool false, .pointer none, .bool false, .pointer none, .bool false, .pointer none, .bool false, .pointer (some ⟨tb, 0, none⟩), .pointer (some ⟨wb, 0, none⟩), .pointer (some ⟨g1, 0, none⟩), .pointer none, .pointer none, .map (some b20)]) rfl rfl ty175 rfl rfl (b := b22) zM rfl rfl zU ?_
 refine W_nil (W_sr ?_)
 refine W_move rfl rfl ?_
 refine W_move rfl rfl ?_
 refine W_call (.cons rfl .nil) Tryz.call113 rfl (gNew_L hn) ?_
 rintro v H' ⟨g2, H2_, rfl, hg2, rfl⟩
 refine W_move rfl rfl ?_
 refine W_extract rfl rfl rfl ?_
 refine W_extract rfl rfl rfl ?_
 refine W_nilCheck rfl rfl ?_
 refine W_fieldAddr rfl fld197_5 zd rfl ?_
 refine W_store (l' := [.int .i64 ((n : Nat) : Int), .pointer none, .bool false, .pointer none, .bool false, .pointer none, .bool false, .pointer none, .bool false, .pointer (some ⟨tb, 0, none⟩), .pointer (some ⟨wb, 0, none⟩), .pointer (some ⟨g1, 0, none⟩), .pointer (some ⟨g2, 0, none⟩), .pointer none, .map (some b20)]) rfl rfl ty175 rfl rfl (b := b22) zM rfl rfl zU ?_
 refine W_nil (W_sr ?_)
 refine W_move rfl rfl ?_
 refine W_call (.cons rfl .nil) Tryz.call114 rfl (refNew_L (top := 8) zd) ?_
 rintro v H' ⟨rb, HR, hR, rfl, rfl⟩
 refine W_move rfl rfl ?_
 refine W_extract rfl rfl rfl ?_
 refine W_extract rfl rfl rfl ?_
 refine W_nilCheck rfl rfl ?_
 refine W_fieldAddr rfl fld197_6 zd rfl ?_
 refine W_store (l' := [.int .i64 ((n : Nat) : Int), .pointer none, .bool false, .pointer none, .bool false, .pointer none, .bool false, .pointer none, .bool false, .pointer (some ⟨tb, 0, none⟩), .pointer (some ⟨wb, 0, none⟩), .pointer (some ⟨g1, 0, none⟩), .pointer (some ⟨g2, 0, none⟩), .pointer (some ⟨rb, 0, none⟩), .map (some b20)]) rfl rfl ty195 rfl rfl (b := b22) zM rfl rfl zU ?_
 refine W_nil (W_sr ?_)
 refine W_move rfl rfl ?_
 refine W_assign rfl rfl ?_
 refine W_assign rfl rfl ?_
 refine W_nil ?_
 refine W_ret2m (H2 := (b22, .cells 197 15 [.int .i64 ((n : Nat) : Int), .pointer none, .bool false, .pointer none, .bool false, .pointer none, .bool false, .pointer none, .bool false, .pointer (some ⟨tb, 0, none⟩), .pointer (some ⟨wb, 0, none⟩), .pointer (some ⟨g1, 0, none⟩), .pointer (some ⟨g2, 0, none⟩), .pointer (some ⟨rb, 0, none⟩), .map (some b20)]) :: (HT ++ (HW ++ (H1_ ++ (H2_ ++ (HR ++ ((b20, .obj (mapO (Value.int .i64) [] 0)) :: H))))))) Tryz.results49 rfl rfl (.nil _) zH ?_
 exact ⟨b22, Ws, (b22, .cells 197 15 [.int .i64 ((n : Nat) : Int), .pointer none, .bool false, .pointer none, .bool false, .pointer none, .bool false, .pointer none, .bool false, .pointer (some ⟨tb, 0, none⟩), .pointer (some ⟨wb, 0, none⟩), .pointer (some ⟨g1, 0, none⟩), .pointer (some ⟨g2, 0, none⟩), .pointer (some ⟨rb, 0, none⟩), .map (some b20)]) :: (HT ++ (HW ++ (H1_ ++ (H2_ ++ (HR ++ ([(b20, .obj (mapO (Value.int .i64) [] 0))] ++ ([[], [], [], []] : List Heap).flatten)))))), rfl, .mk (F := lf0 n Ws) hT ((tok0 hnow hfr).up (Nat.zero_le _)) hW hg1 (gr0_ok hn) hg2 (gr0_ok hn) hR us0 (.mk (E := []) (MapOk.nil 0) rfl) (ms0 8), hWl, hfr, by simp only [List.cons_append, List.append_assoc]; rfl⟩
theorem tNew_range {z now : Int} (h : z < 1 ∨ 64 < z) : Pure Tryz.prog (fun _ => True) 111 [.int .i64 z, .int .u64 now] (.tuple #[.pointer none, .int .i64 2]) := by
 intro w0 H hT
 refine L_enter Tryz.func111 rfl Tryz.ntmps111 rfl rfl ?_
 refine W_sr ?_
 refine W_assign rfl rfl ?_
 refine W_assign rfl rfl ?_
 refine W_nil (W_sr ?_)
 refine W_move rfl rfl ?_
 refine W_callp (.cons rfl .nil) Tryz.call178 rfl (T := fun _ => True) trivial (pNew_range h) ?_
 refine W_move rfl rfl ?_
 refine W_extract rfl rfl rfl ?_
 refine W_extract rfl rfl rfl ?_
 refine W_assign rfl rfl ?_
 refine W_assign rfl rfl ?_
 refine W_nil (W_seq (W_sr ?_))
 refine W_move rfl rfl ?_
 refine W_bin rfl rfl b_neq rfl ?_
 refine W_nil ?_
 refine W_condT rfl rfl ?_
 refine W_sr ?_
 refine W_move rfl rfl ?_
 refine W_assign rfl rfl ?_
 refine W_assign rfl rfl ?_
 refine W_nil ?_
 refine W_ret2m (H2 := H) Tryz.results111 rfl rfl (.nil _) zH ?_
 exact ⟨rfl, rfl⟩
theorem lfNew_range {z now : Int} (h : z < 1 ∨ 64 < z) : Pure Tryz.prog (fun _ => True) 49 [.int .i64 z, .int .u64 now] (.tuple #[.pointer none, .int .i64 2]) := by
 intro w0 H hT
 refine L_enter Tryz.func49 rfl Tryz.ntmps49 rfl rfl ?_
 refine W_sr ?_
 refine W_assign rfl rfl ?_
 refine W_assign rfl rfl ?_
 refine W_nil (W_sr ?_)
 refine W_move rfl rfl ?_
 refine W_move rfl rfl ?_
 refine W_callp (.cons rfl (.cons rfl .nil)) Tryz.call111 rfl (T := fun _ => True) trivial (tNew_range h) ?_
 refine W_move rfl rfl ?_
 refine W_extract rfl rfl rfl ?_
 refine W_extract rfl rfl rfl ?_
 refine W_assign rfl rfl ?_
 refine W_assign rfl rfl ?_
 refine W_nil (W_seq (W_sr ?_))
 refine W_move rfl rfl ?_
 refine W_bin rfl rfl b_neq rfl ?_
 refine W_nil ?_
 refine W_condT rfl rfl ?_
 refine W_sr ?_
 refine W_move rfl rfl ?_
 refine W_assign rfl rfl ?_
 refine W_assign rfl rfl ?_
 refine W_nil ?_
 refine W_ret2m (H2 := H) Tryz.results49 rfl rfl (.nil _) zH ?_
 exact ⟨rfl, rfl⟩
theorem mmNew_range {z : Int} (h : z < 1 ∨ 16 < z) : Pure Tryz.prog (fun _ => True) 50 [.int .i64 z] (.tuple #[.pointer none, .int .i64 2]) := by
 intro w0 H hT
 refine L_enter Tryz.func50 rfl Tryz.ntmps50 rfl rfl ?_
 refine W_sr ?_
 refine W_assign rfl rfl ?_
 refine W_assign rfl rfl ?_
 refine W_nil (W_seq (W_sr ?_))
 refine W_move rfl rfl ?_
 refine W_bin rfl rfl b_lss rfl ?_
 refine W_move rfl rfl ?_
 apply W_or
 iterate 4 exact rfl
 case h1 =>
  intro hg2
  refine W_gyes rfl rfl ?_
  refine W_move rfl rfl ?_
  refine W_gyes rfl rfl ?_
  refine W_bin rfl rfl b_gtr rfl ?_
  exact W_met rfl zR
 refine W_nil ?_
 refine W_condT rfl (by simp; omega) ?_
 refine W_sr ?_
 refine W_assign rfl rfl ?_
 refine W_assign rfl rfl ?_
 refine W_nil ?_
 refine W_ret2m (H2 := H) Tryz.results50 rfl rfl (.nil _) zH ?_
 exact ⟨rfl, rfl⟩
theorem knNew_range {z q now : Int} (h : z < 1 ∨ 64 < z) : Pure Tryz.prog (fun _ => True) 14 [.int .i64 z, .int .i64 q, .int .u64 now] (.tuple #[.pointer none, .int .i64 2]) := by
 intro w0 H hT
 refine L_enter Tryz.func14 rfl Tryz.ntmps14 rfl rfl ?_
 refine W_sr ?_
 refine W_assign rfl rfl ?_
 refine W_assign rfl rfl ?_
 refine W_nil (W_sr ?_)
 refine W_move rfl rfl ?_
 refine W_move rfl rfl ?_
 refine W_callp (.cons rfl (.cons rfl .nil)) Tryz.call49 rfl (T := fun _ => True) trivial (lfNew_range h) ?_
 refine W_move rfl rfl ?_
 refine W_extract rfl rfl rfl ?_
 refine W_extract rfl rfl rfl ?_
 refine W_assign rfl rfl ?_
 refine W_assign rfl rfl ?_
 refine W_nil (W_seq (W_sr ?_))
 refine W_move rfl rfl ?_
 refine W_bin rfl rfl b_neq rfl ?_
 refine W_nil ?_
 refine W_condT rfl rfl ?_
 refine W_sr ?_
 refine W_move rfl rfl ?_
 refine W_assign rfl rfl ?_
 refine W_assign rfl rfl ?_
 refine W_nil ?_
 refine W_ret2m (H2 := H) Tryz.results14 rfl rfl (.nil _) zH ?_
 exact ⟨rfl, rfl⟩
theorem knNew_page {w0 : World} {H : Heap} {n now : Nat} {q : Int} (hn : 1 ≤ n ∧ n ≤ 64) (hnow : now ≤ 18446744073709551615) (h : q < 1 ∨ 16 < q)  : LCalls Tryz.prog w0 14 #[.int .i64 (n : Int), .int .i64 q, .int .u64 ((now : Nat) : Int)] (H) (fun v H' => v = .tuple #[.pointer none, .int .i64 2] ∧ H' = H) := by
 refine L_enter (l := [.int .i64 (n : Int), .int .i64 q, .int .u64 ((now : Nat) : Int)]) Tryz.func14 rfl Tryz.ntmps14 rfl rfl ?_
 refine W_sr ?_
 refine W_assign rfl rfl ?_
 refine W_assign rfl rfl ?_
 refine W_nil (W_sr ?_)
 refine W_move rfl rfl ?_
 refine W_move rfl rfl ?_
 refine W_call (.cons rfl (.cons rfl .nil)) Tryz.call49 rfl (lfNew_L (now := now) hn hnow) ?_
 rintro v H' ⟨lb, Ws, HF, rfl, hF, hWl, hfr, rfl⟩
 refine W_move rfl rfl ?_
 refine W_extract rfl rfl rfl ?_
 refine W_extract rfl rfl rfl ?_
 refine W_assign rfl rfl ?_
 refine W_assign rfl rfl ?_
 refine W_nil (W_seq (W_sr ?_))
 refine W_move rfl rfl ?_
 refine W_bin rfl rfl b_neq rfl ?_
 refine W_nil ?_
 refine W_condF rfl rfl ?_
 refine W_skip (W_sr ?_)
 refine W_move rfl rfl ?_
 refine W_callp (.cons rfl .nil) Tryz.call50 rfl (T := fun _ => True) trivial (mmNew_range h) ?_
 refine W_move rfl rfl ?_
 refine W_extract rfl rfl rfl ?_
 refine W_extract rfl rfl rfl ?_
 refine W_assign rfl rfl ?_
 refine W_assign rfl rfl ?_
 refine W_nil (W_seq (W_sr ?_))
 refine W_move rfl rfl ?_
 refine W_bin rfl rfl b_neq rfl ?_
 refine W_nil ?_
 refine W_condT rfl rfl ?_
 refine W_sr ?_
 refine W_move rfl rfl ?_
 refine W_assign rfl rfl ?_
 refine W_assign rfl rfl ?_
 refine W_nil ?_
 refine W_ret2m (H2 := H) Tryz.results14 rfl rfl (.nil _) zH ?_
 exact ⟨rfl, rfl⟩
def kr0 (cb lb gb mb n : Nat) : Kr := ⟨cb, lb, List.replicate 16 none, gb, .map none, mb, .slice none 0 0, 0, List.replicate 32 none, .slice none 0 0, n⟩
theorem kr0_ok (cb lb gb mb n : Nat) : (kr0 cb lb gb mb n).Ok := ⟨rfl, rfl⟩
set_option maxRecDepth 100000
theorem knNew_L {w0 : World} {H : Heap} {n p now : Nat} (hn : 1 ≤ n ∧ n ≤ 64) (hp : 1 ≤ p ∧ p ≤ 16) (hnow : now ≤ 18446744073709551615)  : LCalls Tryz.prog w0 14 #[.int .i64 (n : Int), .int .i64 (p : Int), .int .u64 ((now : Nat) : Int)] (H) (fun v H' => ∃ kb cb lb gb mb Ws HF HG HM, v = .tuple #[.pointer (some ⟨kb, 0, none⟩), .int .i64 0] ∧ LifeH lb 8 (lf0 n Ws) HF ∧ Ws.length = n ∧ (∀ w ∈ Ws, FreshW now w) ∧ GdH gb n ⟨List.replicate n 0, List.replicate 16 0⟩ HG ∧ MmH mb p ⟨List.replicate (16 * p) 0, List.replicate 16 0⟩ HM ∧ H' = (kb, .cells 113 57 (knC (kr0 cb lb gb mb n))) :: ((cb, .cells 211 1 [.int .u64 ((now : Nat) : Int)]) :: (HG ++ (HM ++ (HF ++ H))))) := by
 refine L_enter (l := [.int .i64 (n : Int), .int .i64 (p : Int), .int .u64 ((now : Nat) : Int)]) Tryz.func14 rfl Tryz.ntmps14 rfl rfl ?_
 refine W_sr ?_
 refine W_assign rfl rfl ?_
 refine W_assign rfl rfl ?_
 refine W_nil (W_sr ?_)
 refine W_move rfl rfl ?_
 refine W_move rfl rfl ?_
 refine W_call (.cons rfl (.cons rfl .nil)) Tryz.call49 rfl (lfNew_L (now := now) hn hnow) ?_
 rintro v H' ⟨lb, Ws, HF, rfl, hF, hWl, hfr, rfl⟩
 refine W_move rfl rfl ?_
 refine W_extract rfl rfl rfl ?_
 refine W_extract rfl rfl rfl ?_
 refine W_assign rfl rfl ?_
 refine W_assign rfl rfl ?_
 refine W_nil (W_seq (W_sr ?_))
 refine W_move rfl rfl ?_
 refine W_bin rfl rfl b_neq rfl ?_
 refine W_nil ?_
 refine W_condF rfl rfl ?_
 refine W_skip (W_sr ?_)
 refine W_move rfl rfl ?_
 refine W_call (.cons rfl .nil) Tryz.call50 rfl (mmNew_L hp) ?_
 rintro v H' ⟨mb, HM, rfl, hM, rfl⟩
 refine W_move rfl rfl ?_
 refine W_extract rfl rfl rfl ?_
 refine W_extract rfl rfl rfl ?_
 refine W_assign rfl rfl ?_
 refine W_assign rfl rfl ?_
 refine W_nil (W_seq (W_sr ?_))
 refine W_move rfl rfl ?_
 refine W_bin rfl rfl b_neq rfl ?_
 refine W_nil ?_
 refine W_condF rfl rfl ?_
 refine W_skip (W_sr ?_)
 refine W_move rfl rfl ?_
 refine W_call (.cons rfl .nil) Tryz.call51 rfl (gdNew_L hn) ?_
 rintro v H' ⟨gb, HG, rfl, hG, rfl⟩
 refine W_move rfl rfl ?_
 refine W_extract rfl rfl rfl ?_
 refine W_extract rfl rfl rfl ?_
 refine W_assign rfl rfl ?_
 refine W_assign rfl rfl ?_
 refine W_nil (W_sr ?_)
 refine W_move rfl rfl ?_
 refine W_call (.cons rfl .nil) Tryz.call52 rfl (cAt_L (now := now)) ?_
 rintro v H' ⟨cb, rfl, rfl⟩
 refine W_move rfl rfl ?_
 refine W_move rfl rfl ?_
 refine W_move rfl rfl ?_
 refine W_move rfl rfl ?_
 refine W_build (l := knC (kr0 cb lb gb mb n)) ty113 pl113 (.cons rfl rfl rfl rfl rfl (.cons rfl rfl rfl rfl rfl (.cons rfl rfl rfl rfl rfl (.cons rfl rfl rfl rfl rfl (.cons rfl rfl rfl rfl rfl .nil))))) rfl zk rfl ?_
 refine W_box (l := knC (kr0 cb lb gb mb n)) rfl rfl rfl (fun kb => ?_)
 refine W_assign rfl rfl ?_
 refine W_assign rfl rfl ?_
 refine W_nil ?_
 refine W_ret2m (H2 := (kb, .cells 113 57 (knC (kr0 cb lb gb mb n))) :: ((cb, .cells 211 1 [.int .u64 ((now : Nat) : Int)]) :: (HG ++ (HM ++ (HF ++ H))))) Tryz.results14 rfl rfl (.nil _) zH ?_
 exact ⟨kb, cb, lb, gb, mb, Ws, HF, HG, HM, rfl, hF, hWl, hfr, hG, hM, rfl⟩
theorem kCPUs_q {w0 : World} {H : Heap} {kb : Nat} {r : Kr} (hr : r.Ok) (hm : (kb, .cells 113 57 (knC r)) ∈ H)  : PureAt Tryz.prog w0 H 15 [.pointer (some ⟨kb, 0, none⟩)] (.int .i64 (r.n : Int)) := by
 refine L_enter Tryz.func15 rfl Tryz.ntmps15 rfl rfl ?_
 refine W_sr ?_
 refine W_assign rfl rfl ?_
 refine W_nil (W_seq (W_sr ?_))
 refine W_move rfl rfl ?_
 refine W_x (X_ptrNil rfl rfl ty23) (fun _ h => by cases h) rfl ?_
 refine W_nil ?_
 refine W_condF rfl rfl ?_
 refine W_skip (W_sr ?_)
 refine W_move rfl rfl ?_
 refine W_nilCheck rfl rfl ?_
 refine W_fieldAddr rfl fld113_9 zd rfl ?_
 refine W_load (v := .int .i64 (r.n : Int)) rfl ty3 rfl (Cell.own (b := kb) hm (kn_end hr 1)) rfl ?_
 refine W_assign rfl rfl ?_
 refine W_nil ?_
 refine W_ret1m (H2 := H) Tryz.results15 rfl (.nil _) zH ?_
 exact ⟨rfl, rfl⟩
theorem kNow_q {w0 : World} {H : Heap} {kb : Nat} {r : Kr} (hr : r.Ok) (hm : (kb, .cells 113 57 (knC r)) ∈ H) {now : Nat} (hc : (r.clk, .cells 211 1 [.int .u64 ((now : Nat) : Int)]) ∈ H)  : PureAt Tryz.prog w0 H 16 [.pointer (some ⟨kb, 0, none⟩)] (.int .u64 ((now : Nat) : Int)) := by
 refine L_enter Tryz.func16 rfl Tryz.ntmps16 rfl rfl ?_
 refine W_sr ?_
 refine W_assign rfl rfl ?_
 refine W_nil (W_seq (W_sr ?_))
 refine W_move rfl rfl ?_
 refine W_x (X_ptrNil rfl rfl ty23) (fun _ h => by cases h) rfl ?_
 refine W_nil ?_
 refine W_condF rfl rfl ?_
 refine W_skip (W_sr ?_)
 refine W_move rfl rfl ?_
 refine W_nilCheck rfl rfl ?_
 refine W_fieldAddr rfl fld113_0 zd rfl ?_
 refine W_load (v := .pointer (some ⟨r.clk, 0, none⟩)) rfl ty100 rfl (Cell.own (b := kb) hm rfl) rfl ?_
 refine W_callq (.cons rfl .nil) Tryz.call53 rfl (cNow_q hc) ?_
 refine W_assign rfl rfl ?_
 refine W_nil ?_
 refine W_ret1m (H2 := H) Tryz.results16 rfl (.nil _) zH ?_
 exact ⟨rfl, rfl⟩
theorem kLive1_q {w0 : World} {H : Heap} {v : Value}  : PureAt Tryz.prog w0 H 56 [v] (.bool true) := by
 refine L_enter Tryz.func56 rfl Tryz.ntmps56 rfl rfl ?_
 refine W_sr ?_
 refine W_assign rfl rfl ?_
 refine W_nil (W_sr ?_)
 refine W_assign rfl rfl ?_
 refine W_nil ?_
 refine W_ret1m (H2 := H) Tryz.results56 rfl (.nil _) zH ?_
 exact ⟨rfl, rfl⟩
theorem mOf_q {w0 : World} {H : Heap} {l : List Int} {ad : Option Addr} {cap : Nat} (hl : l.length ≤ 4611686018427387904) (hrow : Holds w0 H ad (l.map (Value.int .i64)))  : PureAt Tryz.prog w0 H 54 [.slice ad l.length cap] (.int .u64 (((withL 0 l) : Nat) : Int)) := by
 refine L_enter Tryz.func54 rfl Tryz.ntmps54 rfl rfl ?_
 refine W_sr ?_
 refine W_assign rfl rfl ?_
 refine W_nil (W_sr ?_)
 refine W_move rfl rfl ?_
 refine W_callq (.cons rfl (.cons rfl .nil)) Tryz.call88 rfl (with_q (m := 0) (l := l) zd hl hrow) ?_
 refine W_assign rfl rfl ?_
 refine W_nil ?_
 refine W_ret1m (H2 := H) Tryz.results54 rfl (.nil _) zH ?_
 exact ⟨rfl, rfl⟩
theorem kLive_q {w0 : World} {H : Heap} {kb : Nat} {r : Kr} (hr : r.Ok) (hm : (kb, .cells 113 57 (knC r)) ∈ H)  : PureAt Tryz.prog w0 H 17 [.pointer (some ⟨kb, 0, none⟩)] (.int .u64 (((withL 0 (selL r.C (fun _ => true) 32)) : Nat) : Int)) := by
 refine L_enter Tryz.func17 rfl Tryz.ntmps17 rfl rfl ?_
 refine W_sr ?_
 refine W_assign rfl rfl ?_
 refine W_nil (W_sr ?_)
 refine W_move rfl rfl ?_
 refine W_call (.cons rfl (.cons rfl .nil)) Tryz.call55 rfl (klist_L (fi := 56) (ca := []) (fun _ => true) Tryz.call56 hr hm (fun k b HZ hb hz => kLive1_q)) ?_
 rintro v H' ⟨XB, hO, rfl⟩
 obtain ⟨ad, cap, rfl, -, -⟩ := hO.shape
 refine W_callq (.cons rfl .nil) Tryz.call54 rfl (mOf_q (l := selL r.C (fun _ => true) 32) (by have := selL_len r.C (fun _ => true) 32; omega) (hO.toHolds (fun p hp => List.mem_append_left _ hp))) ?_
 refine W_assign rfl rfl ?_
 refine W_nil ?_
 refine W_ret1m (H2 := H) Tryz.results17 rfl (.nil _) zH ?_
 exact ⟨rfl, rfl⟩
open Go.Sl.Ev
theorem kknown_ev : evT Tryz.prog (xFields 145 9) 100000 9 = true := by kernel_rfl
theorem kknown_pure : Pure Tryz.prog TabS 9 [] (.bool true) := evT_pure mixed names (fun w0 w h hb => extsF (tabS_of hb h)) kknown_ev
structure Cx where
 kind : Int
 cpu : Int
 prog : Int
 state : Int
 on : Int
 number : Int
deriving DecidableEq
def cxC (v : Cx) : List Value := [.int .i64 v.kind, .int .i64 v.cpu, .int .i64 v.prog, .int .i64 v.state, .int .i64 v.on, .int .i64 v.number]
theorem cxC_like (v : Cx) : Likes [.int .i64, .int .i64, .int .i64, .int .i64, .int .i64, .int .i64] (cxC v) := ⟨⟨_, rfl⟩, ⟨_, rfl⟩, ⟨_, rfl⟩, ⟨_, rfl⟩, ⟨_, rfl⟩, ⟨_, rfl⟩, trivial⟩
theorem cxC_inj (v w : Cx) (h : cxC v = cxC w) : v = w := by
 cases v; cases w; simp only [cxC, List.cons.injEq, Value.int.injEq, true_and, and_true] at h; simp only [Cx.mk.injEq]; exact h
def zCx : Cx := ⟨0, 0, 0, 0, 0, 0⟩
theorem flat58 : Flat Tryz.prog 1 58 [.int .i64, .int .i64, .int .i64, .int .i64, .int .i64, .int .i64] := (Flat.struct ty58 zk zk (.cons (ks := [.int .i64]) zd rfl zk (Flat.leaf (k := .int .i64) ty3) (.cons (ks := [.int .i64]) zd rfl zk (Flat.leaf (k := .int .i64) ty3) (.cons (ks := [.int .i64]) zd rfl zk (Flat.leaf (k := .int .i64) ty3) (.cons (ks := [.int .i64]) zd rfl zk (Flat.leaf (k := .int .i64) ty3) (.cons (ks := [.int .i64]) zd rfl zk (Flat.leaf (k := .int .i64) ty3) (.cons (ks := [.int .i64]) zd rfl zk (Flat.leaf (k := .int .i64) ty3) .nil)))))))
theorem agg58 : aggB Tryz.prog 58 = true := by kernel_rfl
theorem gt58 : Tryz.prog.eqGuardType Tryz.prog.depth 58 = false := by kernel_rfl
theorem live0 (cb lb gb mb n : Nat) : withL 0 (selL (kr0 cb lb gb mb n).C (fun _ => true) 32) = 0 := by show withL 0 (selL (List.replicate 32 none) (fun _ => true) 32) = 0; decide
set_option maxRecDepth 100000
theorem kernelNil_pure {c p : Int} {now : Nat} (hnow : now ≤ 18446744073709551615) {s0 s1 s2 s3 s4 s5 : Int} {ad : Option Addr} {n cap : Nat} (hcap : n ≤ cap) : Pure Tryz.prog (TabS) 4 [.int .i64 c, .int .i64 p, .int .u64 ((now : Nat) : Int), .agg (List.toArray [.int .i64 s0, .int .i64 s1, .int .i64 s2, .int .i64 s3, .int .u64 s4, .int .u64 s5, .slice ad n cap])] (.bool true) := by
 intro w0 H hT
 refine L_enter Tryz.func4 rfl Tryz.ntmps4 rfl rfl ?_
 refine W_sr ?_
 refine W_box (l := [.int .i64 s0, .int .i64 s1, .int .i64 s2, .int .i64 s3, .int .u64 s4, .int .u64 s5, .slice ad n cap]) rfl rfl rfl (fun b7 => ?_)
 refine W_assign rfl rfl ?_
 refine W_nil (W_sr ?_)
 refine W_assign rfl rfl ?_
 refine W_nil (W_sr ?_)
 refine W_fieldAddr rfl fld47_6 zd rfl ?_
 refine W_load (v := .slice ad n cap) rfl ty28 rfl (Cell.own (b := b7) zM rfl) rfl ?_
 refine W_fieldAddr rfl fld47_6 zd rfl ?_
 refine W_load (v := .slice ad n cap) rfl ty28 rfl (Cell.own (b := b7) zM rfl) rfl ?_
 refine W_len rfl ty28 rfl rfl ?_
 refine W_min2 (m := ((min n 600 : Nat) : Int)) rfl rfl (by split <;> omega) rfl ?_
 refine W_slice0 (hh := min n 600) rfl ty28 ty5 rfl ⟨_, rfl⟩ zO rfl ?_
 refine W_fieldAddr rfl fld47_6 zd rfl ?_
 refine W_store (l' := [.int .i64 s0, .int .i64 s1, .int .i64 s2, .int .i64 s3, .int .u64 s4, .int .u64 s5, .slice ad (min n 600) cap]) rfl rfl ty28 rfl rfl (b := b7) zM rfl rfl zU ?_
 refine W_nil (W_sr ?_)
 refine W_move rfl rfl ?_
 refine W_loadB (vs := [.int .i64 s0, .int .i64 s1, .int .i64 s2, .int .i64 s3, .int .u64 s4, .int .u64 s5, .slice ad (min n 600) cap]) rfl ty47 rfl (b := b7) zM rfl rfl rfl ?_
 refine W_callp (.cons rfl .nil) Tryz.call13 rfl (T := fun _ => True) trivial (to_nil) ?_
 refine W_callp (.cons rfl (.cons rfl .nil)) Tryz.call11 rfl (T := fun _ => True) trivial (kDo_nil) ?_
 refine W_move rfl rfl ?_
 refine W_extract rfl rfl rfl ?_
 refine W_extract rfl rfl rfl ?_
 refine W_assign rfl rfl ?_
 refine W_assign rfl rfl ?_
 refine W_nil (W_sr ?_)
 refine W_move rfl rfl ?_
 refine W_callp (.cons rfl (.cons rfl .nil)) Tryz.call12 rfl (T := fun _ => True) trivial (kProg_nil) ?_
 refine W_move rfl rfl ?_
 refine W_extract rfl rfl rfl ?_
 refine W_extract rfl rfl rfl ?_
 refine W_alloc (l := [.slice none 0 0, .bool false]) ty39 rfl rfl (fun b12 => ?_)
 refine W_storeA (l' := [.slice none 0 0, .bool false]) rfl rfl ty39 rfl rfl (b := b12) zM (by exact Nat.le_refl 2) rfl zU ?_
 refine W_assign rfl rfl ?_
 refine W_nil (W_sr ?_)
 refine W_move rfl rfl ?_
 rcases (show c < 1 ∨ 64 < c ∨ ((1 ≤ c ∧ c ≤ 64) ∧ p < 1) ∨ ((1 ≤ c ∧ c ≤ 64) ∧ 16 < p) ∨ ((1 ≤ c ∧ c ≤ 64) ∧ 1 ≤ p ∧ p ≤ 16) by omega) with hw | hw | hw | hw | hw
 ·skip
  refine W_move rfl rfl ?_
  refine W_move rfl rfl ?_
  refine W_callp (.cons rfl (.cons rfl (.cons rfl .nil))) Tryz.call14 rfl (T := fun _ => True) trivial (knNew_range zO) ?_
  refine W_move rfl rfl ?_
  refine W_extract rfl rfl rfl ?_
  refine W_extract rfl rfl rfl ?_
  refine W_assign rfl rfl ?_
  refine W_assign rfl rfl ?_
  refine W_nil (W_sr ?_)
  refine W_move rfl rfl ?_
  refine W_bin rfl rfl b_geq rfl ?_
  first | rw [decide_eq_true (by omega)] | rw [decide_eq_false (by omega)]
  refine W_move rfl rfl ?_
  refine W_gno rfl rfl rfl ?_
  refine W_gno rfl rfl rfl ?_
  first | refine W_pickt rfl rfl rfl ?_ | refine W_pickf rfl rfl rfl ?_
  refine W_move rfl rfl ?_
  refine W_gno rfl rfl rfl ?_
  refine W_gno rfl rfl rfl ?_
  first | refine W_pickt rfl rfl rfl ?_ | refine W_pickf rfl rfl rfl ?_
  refine W_move rfl rfl ?_
  refine W_gno rfl rfl rfl ?_
  refine W_gno rfl rfl rfl ?_
  first | refine W_pickt rfl rfl rfl ?_ | refine W_pickf rfl rfl rfl ?_
  refine W_assign rfl rfl ?_
  refine W_nil (W_seq (W_sr ?_))
  refine W_move rfl rfl ?_
  refine W_move rfl rfl ?_
  refine W_gno rfl rfl rfl ?_
  refine W_gno rfl rfl rfl ?_
  refine W_gno rfl rfl rfl ?_
  refine W_gnou rfl rfl rfl ?_
  refine W_gnou rfl rfl rfl ?_
  refine W_gnou rfl rfl rfl ?_
  refine W_gnou rfl rfl rfl ?_
  refine W_gno rfl rfl rfl ?_
  refine W_gno rfl rfl rfl ?_
  refine W_gnou rfl rfl rfl ?_
  refine W_gnou rfl rfl rfl ?_
  refine W_gnou rfl rfl rfl ?_
  refine W_gnou rfl rfl rfl ?_
  refine W_gno rfl rfl rfl ?_
  refine W_gno rfl rfl rfl ?_
  refine W_gnou rfl rfl rfl ?_
  refine W_gnou rfl rfl rfl ?_
  refine W_gnou rfl rfl rfl ?_
  refine W_gno rfl rfl rfl ?_
  first | refine W_pickt rfl rfl rfl ?_ | refine W_pickf rfl rfl rfl ?_
  refine W_move rfl rfl ?_
  refine W_gyes rfl rfl ?_
  refine W_move rfl rfl ?_
  refine W_gyes rfl rfl ?_
  refine W_not rfl rfl ?_
  refine W_gyes rfl rfl ?_
  refine W_move rfl rfl ?_
  refine W_gyes rfl rfl ?_
  refine W_move rfl rfl ?_
  refine W_gyes rfl rfl ?_
  refine W_bin rfl rfl b_neq rfl ?_
  refine W_gyes rfl rfl ?_
  refine W_move rfl rfl ?_
  refine W_gyes rfl rfl ?_
  refine W_move rfl rfl ?_
  refine W_gyes rfl rfl ?_
  refine W_x (X_ptrNotNil rfl rfl ty23) (fun _ h => by cases h) rfl ?_
  refine W_gyes rfl rfl ?_
  first | refine W_pickt rfl rfl rfl ?_ | refine W_pickf rfl rfl rfl ?_
  refine W_gyes rfl rfl ?_
  first | refine W_pickt rfl rfl rfl ?_ | refine W_pickf rfl rfl rfl ?_
  first | refine W_pickt rfl rfl rfl ?_ | refine W_pickf rfl rfl rfl ?_
  refine W_nil ?_
  refine W_condF rfl rfl ?_
  refine W_skip (W_sr ?_)
  refine W_callp .nil Tryz.call9 rfl hT kknown_pure ?_
  refine W_move rfl rfl ?_
  refine W_gyes rfl rfl ?_
  refine W_move rfl rfl ?_
  refine W_gyes rfl rfl ?_
  refine W_bin rfl rfl b_eql rfl ?_
  first | refine W_pickt rfl rfl rfl ?_ | refine W_pickf rfl rfl rfl ?_
  refine W_move rfl rfl ?_
  refine W_gyes rfl rfl ?_
  refine W_move rfl rfl ?_
  refine W_gyes rfl rfl ?_
  refine W_bin rfl rfl b_eql rfl ?_
  first | refine W_pickt rfl rfl rfl ?_ | refine W_pickf rfl rfl rfl ?_
  refine W_move rfl rfl ?_
  refine W_gyes rfl rfl ?_
  refine W_move rfl rfl ?_
  refine W_gyes rfl rfl ?_
  refine W_move rfl rfl ?_
  refine W_gyes rfl rfl ?_
  refine W_callp (.cons rfl (.cons rfl .nil)) Tryz.call18 rfl (T := fun _ => True) trivial (kRunnable_nil) ?_
  refine W_gyes rfl rfl ?_
  refine W_len rfl ty55 rfl rfl ?_
  refine W_gyes rfl rfl ?_
  refine W_bin rfl rfl b_eql rfl ?_
  first | refine W_pickt rfl rfl rfl ?_ | refine W_pickf rfl rfl rfl ?_
  refine W_move rfl rfl ?_
  refine W_gyes rfl rfl ?_
  refine W_move rfl rfl ?_
  refine W_gyes rfl rfl ?_
  refine W_move rfl rfl ?_
  refine W_gyes rfl rfl ?_
  refine W_callp (v := .agg (cxC zCx).toArray) (.cons rfl (.cons rfl .nil)) Tryz.call19 rfl (T := fun _ => True) trivial (kCtx_nil) ?_
  refine W_gyes rfl rfl ?_
  refine W_build (l := cxC zCx) ty58 pl58 .nil rfl zk rfl ?_
  refine W_gyes rfl rfl ?_
  refine W_x (X_eqF (f := cxC) rfl rfl flat58 agg58 cxC_like cxC_inj gt58 zd) (fun _ h => by cases h) rfl ?_
  first | refine W_pickt rfl rfl rfl ?_ | refine W_pickf rfl rfl rfl ?_
  refine W_move rfl rfl ?_
  refine W_gyes rfl rfl ?_
  refine W_move rfl rfl ?_
  refine W_gyes rfl rfl ?_
  refine W_callp (.cons rfl .nil) Tryz.call17 rfl (T := fun _ => True) trivial (kLive_nil) ?_
  refine W_gyes rfl rfl ?_
  refine W_bin rfl rfl b_eql rfl ?_
  first | refine W_pickt rfl rfl rfl ?_ | refine W_pickf rfl rfl rfl ?_
  refine W_move rfl rfl ?_
  refine W_gyes rfl rfl ?_
  refine W_move rfl rfl ?_
  refine W_gyes rfl rfl ?_
  refine W_callp (.cons rfl (.cons rfl .nil)) Tryz.call20 rfl (T := fun _ => True) trivial (kEvents_nil) ?_
  refine W_gyes rfl rfl ?_
  refine W_len rfl ty60 rfl rfl ?_
  refine W_gyes rfl rfl ?_
  refine W_bin rfl rfl b_eql rfl ?_
  first | refine W_pickt rfl rfl rfl ?_ | refine W_pickf rfl rfl rfl ?_
  refine W_move rfl rfl ?_
  refine W_gyes rfl rfl ?_
  refine W_move rfl rfl ?_
  refine W_gyes rfl rfl ?_
  refine W_callp (.cons rfl (.cons rfl .nil)) Tryz.call21 rfl (T := fun _ => True) trivial (kByte_nil) ?_
  refine W_gyes rfl rfl ?_
  refine W_bin rfl rfl b_eql rfl ?_
  first | refine W_pickt rfl rfl rfl ?_ | refine W_pickf rfl rfl rfl ?_
  refine W_move rfl rfl ?_
  refine W_gyes rfl rfl ?_
  refine W_move rfl rfl ?_
  refine W_gyes rfl rfl ?_
  refine W_callp (.cons rfl (.cons rfl .nil)) Tryz.call22 rfl (T := fun _ => True) trivial (kWaits_nil) ?_
  refine W_gyes rfl rfl ?_
  refine W_len rfl ty55 rfl rfl ?_
  refine W_gyes rfl rfl ?_
  refine W_bin rfl rfl b_eql rfl ?_
  first | refine W_pickt rfl rfl rfl ?_ | refine W_pickf rfl rfl rfl ?_
  refine W_move rfl rfl ?_
  refine W_gyes rfl rfl ?_
  refine W_move rfl rfl ?_
  refine W_gyes rfl rfl ?_
  refine W_not rfl rfl ?_
  first | refine W_pickt rfl rfl rfl ?_ | refine W_pickf rfl rfl rfl ?_
  refine W_move rfl rfl ?_
  refine W_gyes rfl rfl ?_
  refine W_move rfl rfl ?_
  refine W_gyes rfl rfl ?_
  refine W_callp (.cons rfl (.cons rfl .nil)) Tryz.call23 rfl (T := fun _ => True) trivial (kMissed_nil) ?_
  refine W_gyes rfl rfl ?_
  refine W_bin rfl rfl b_eql rfl ?_
  first | refine W_pickt rfl rfl rfl ?_ | refine W_pickf rfl rfl rfl ?_
  refine W_move rfl rfl ?_
  refine W_gyes rfl rfl ?_
  refine W_move rfl rfl ?_
  refine W_gyes rfl rfl ?_
  refine W_callp (.cons rfl .nil) Tryz.call24 rfl (T := fun _ => True) trivial (kLife_nil) ?_
  refine W_gyes rfl rfl ?_
  refine W_x (X_ptrNil rfl rfl ty64) (fun _ h => by cases h) rfl ?_
  first | refine W_pickt rfl rfl rfl ?_ | refine W_pickf rfl rfl rfl ?_
  refine W_move rfl rfl ?_
  refine W_gyes rfl rfl ?_
  refine W_move rfl rfl ?_
  refine W_gyes rfl rfl ?_
  refine W_callp (.cons rfl .nil) Tryz.call16 rfl (T := fun _ => True) trivial (kNow_nil) ?_
  refine W_gyes rfl rfl ?_
  refine W_bin rfl rfl b_eql rfl ?_
  first | refine W_pickt rfl rfl rfl ?_ | refine W_pickf rfl rfl rfl ?_
  refine W_move rfl rfl ?_
  refine W_gyes rfl rfl ?_
  refine W_move rfl rfl ?_
  refine W_gyes rfl rfl ?_
  refine W_callp (.cons rfl .nil) Tryz.call15 rfl (T := fun _ => True) trivial (kCPUs_nil) ?_
  refine W_gyes rfl rfl ?_
  refine W_bin rfl rfl b_eql rfl ?_
  first | refine W_pickt rfl rfl rfl ?_ | refine W_pickf rfl rfl rfl ?_
  refine W_assign rfl rfl ?_
  refine W_nil ?_
  refine W_ret1m (H2 := H) Tryz.results4 rfl (.nil _) zH ?_
  exact ⟨rfl, rfl⟩
 ·skip
  refine W_move rfl rfl ?_
  refine W_move rfl rfl ?_
  refine W_callp (.cons rfl (.cons rfl (.cons rfl .nil))) Tryz.call14 rfl (T := fun _ => True) trivial (knNew_range zO) ?_
  refine W_move rfl rfl ?_
  refine W_extract rfl rfl rfl ?_
  refine W_extract rfl rfl rfl ?_
  refine W_assign rfl rfl ?_
  refine W_assign rfl rfl ?_
  refine W_nil (W_sr ?_)
  refine W_move rfl rfl ?_
  refine W_bin rfl rfl b_geq rfl ?_
  first | rw [decide_eq_true (by omega)] | rw [decide_eq_false (by omega)]
  refine W_move rfl rfl ?_
  refine W_gyes rfl rfl ?_
  refine W_move rfl rfl ?_
  refine W_gyes rfl rfl ?_
  refine W_bin rfl rfl b_leq rfl ?_
  first | rw [decide_eq_true (by omega)] | rw [decide_eq_false (by omega)]
  first | refine W_pickt rfl rfl rfl ?_ | refine W_pickf rfl rfl rfl ?_
  refine W_move rfl rfl ?_
  refine W_gno rfl rfl rfl ?_
  refine W_gno rfl rfl rfl ?_
  first | refine W_pickt rfl rfl rfl ?_ | refine W_pickf rfl rfl rfl ?_
  refine W_move rfl rfl ?_
  refine W_gno rfl rfl rfl ?_
  refine W_gno rfl rfl rfl ?_
  first | refine W_pickt rfl rfl rfl ?_ | refine W_pickf rfl rfl rfl ?_
  refine W_assign rfl rfl ?_
  refine W_nil (W_seq (W_sr ?_))
  refine W_move rfl rfl ?_
  refine W_move rfl rfl ?_
  refine W_gno rfl rfl rfl ?_
  refine W_gno rfl rfl rfl ?_
  refine W_gno rfl rfl rfl ?_
  refine W_gnou rfl rfl rfl ?_
  refine W_gnou rfl rfl rfl ?_
  refine W_gnou rfl rfl rfl ?_
  refine W_gnou rfl rfl rfl ?_
  refine W_gno rfl rfl rfl ?_
  refine W_gno rfl rfl rfl ?_
  refine W_gnou rfl rfl rfl ?_
  refine W_gnou rfl rfl rfl ?_
  refine W_gnou rfl rfl rfl ?_
  refine W_gnou rfl rfl rfl ?_
  refine W_gno rfl rfl rfl ?_
  refine W_gno rfl rfl rfl ?_
  refine W_gnou rfl rfl rfl ?_
  refine W_gnou rfl rfl rfl ?_
  refine W_gnou rfl rfl rfl ?_
  refine W_gno rfl rfl rfl ?_
  first | refine W_pickt rfl rfl rfl ?_ | refine W_pickf rfl rfl rfl ?_
  refine W_move rfl rfl ?_
  refine W_gyes rfl rfl ?_
  refine W_move rfl rfl ?_
  refine W_gyes rfl rfl ?_
  refine W_not rfl rfl ?_
  refine W_gyes rfl rfl ?_
  refine W_move rfl rfl ?_
  refine W_gyes rfl rfl ?_
  refine W_move rfl rfl ?_
  refine W_gyes rfl rfl ?_
  refine W_bin rfl rfl b_neq rfl ?_
  refine W_gyes rfl rfl ?_
  refine W_move rfl rfl ?_
  refine W_gyes rfl rfl ?_
  refine W_move rfl rfl ?_
  refine W_gyes rfl rfl ?_
  refine W_x (X_ptrNotNil rfl rfl ty23) (fun _ h => by cases h) rfl ?_
  refine W_gyes rfl rfl ?_
  first | refine W_pickt rfl rfl rfl ?_ | refine W_pickf rfl rfl rfl ?_
  refine W_gyes rfl rfl ?_
  first | refine W_pickt rfl rfl rfl ?_ | refine W_pickf rfl rfl rfl ?_
  first | refine W_pickt rfl rfl rfl ?_ | refine W_pickf rfl rfl rfl ?_
  refine W_nil ?_
  refine W_condF rfl rfl ?_
  refine W_skip (W_sr ?_)
  refine W_callp .nil Tryz.call9 rfl hT kknown_pure ?_
  refine W_move rfl rfl ?_
  refine W_gyes rfl rfl ?_
  refine W_move rfl rfl ?_
  refine W_gyes rfl rfl ?_
  refine W_bin rfl rfl b_eql rfl ?_
  first | refine W_pickt rfl rfl rfl ?_ | refine W_pickf rfl rfl rfl ?_
  refine W_move rfl rfl ?_
  refine W_gyes rfl rfl ?_
  refine W_move rfl rfl ?_
  refine W_gyes rfl rfl ?_
  refine W_bin rfl rfl b_eql rfl ?_
  first | refine W_pickt rfl rfl rfl ?_ | refine W_pickf rfl rfl rfl ?_
  refine W_move rfl rfl ?_
  refine W_gyes rfl rfl ?_
  refine W_move rfl rfl ?_
  refine W_gyes rfl rfl ?_
  refine W_move rfl rfl ?_
  refine W_gyes rfl rfl ?_
  refine W_callp (.cons rfl (.cons rfl .nil)) Tryz.call18 rfl (T := fun _ => True) trivial (kRunnable_nil) ?_
  refine W_gyes rfl rfl ?_
  refine W_len rfl ty55 rfl rfl ?_
  refine W_gyes rfl rfl ?_
  refine W_bin rfl rfl b_eql rfl ?_
  first | refine W_pickt rfl rfl rfl ?_ | refine W_pickf rfl rfl rfl ?_
  refine W_move rfl rfl ?_
  refine W_gyes rfl rfl ?_
  refine W_move rfl rfl ?_
  refine W_gyes rfl rfl ?_
  refine W_move rfl rfl ?_
  refine W_gyes rfl rfl ?_
  refine W_callp (v := .agg (cxC zCx).toArray) (.cons rfl (.cons rfl .nil)) Tryz.call19 rfl (T := fun _ => True) trivial (kCtx_nil) ?_
  refine W_gyes rfl rfl ?_
  refine W_build (l := cxC zCx) ty58 pl58 .nil rfl zk rfl ?_
  refine W_gyes rfl rfl ?_
  refine W_x (X_eqF (f := cxC) rfl rfl flat58 agg58 cxC_like cxC_inj gt58 zd) (fun _ h => by cases h) rfl ?_
  first | refine W_pickt rfl rfl rfl ?_ | refine W_pickf rfl rfl rfl ?_
  refine W_move rfl rfl ?_
  refine W_gyes rfl rfl ?_
  refine W_move rfl rfl ?_
  refine W_gyes rfl rfl ?_
  refine W_callp (.cons rfl .nil) Tryz.call17 rfl (T := fun _ => True) trivial (kLive_nil) ?_
  refine W_gyes rfl rfl ?_
  refine W_bin rfl rfl b_eql rfl ?_
  first | refine W_pickt rfl rfl rfl ?_ | refine W_pickf rfl rfl rfl ?_
  refine W_move rfl rfl ?_
  refine W_gyes rfl rfl ?_
  refine W_move rfl rfl ?_
  refine W_gyes rfl rfl ?_
  refine W_callp (.cons rfl (.cons rfl .nil)) Tryz.call20 rfl (T := fun _ => True) trivial (kEvents_nil) ?_
  refine W_gyes rfl rfl ?_
  refine W_len rfl ty60 rfl rfl ?_
  refine W_gyes rfl rfl ?_
  refine W_bin rfl rfl b_eql rfl ?_
  first | refine W_pickt rfl rfl rfl ?_ | refine W_pickf rfl rfl rfl ?_
  refine W_move rfl rfl ?_
  refine W_gyes rfl rfl ?_
  refine W_move rfl rfl ?_
  refine W_gyes rfl rfl ?_
  refine W_callp (.cons rfl (.cons rfl .nil)) Tryz.call21 rfl (T := fun _ => True) trivial (kByte_nil) ?_
  refine W_gyes rfl rfl ?_
  refine W_bin rfl rfl b_eql rfl ?_
  first | refine W_pickt rfl rfl rfl ?_ | refine W_pickf rfl rfl rfl ?_
  refine W_move rfl rfl ?_
  refine W_gyes rfl rfl ?_
  refine W_move rfl rfl ?_
  refine W_gyes rfl rfl ?_
  refine W_callp (.cons rfl (.cons rfl .nil)) Tryz.call22 rfl (T := fun _ => True) trivial (kWaits_nil) ?_
  refine W_gyes rfl rfl ?_
  refine W_len rfl ty55 rfl rfl ?_
  refine W_gyes rfl rfl ?_
  refine W_bin rfl rfl b_eql rfl ?_
  first | refine W_pickt rfl rfl rfl ?_ | refine W_pickf rfl rfl rfl ?_
  refine W_move rfl rfl ?_
  refine W_gyes rfl rfl ?_
  refine W_move rfl rfl ?_
  refine W_gyes rfl rfl ?_
  refine W_not rfl rfl ?_
  first | refine W_pickt rfl rfl rfl ?_ | refine W_pickf rfl rfl rfl ?_
  refine W_move rfl rfl ?_
  refine W_gyes rfl rfl ?_
  refine W_move rfl rfl ?_
  refine W_gyes rfl rfl ?_
  refine W_callp (.cons rfl (.cons rfl .nil)) Tryz.call23 rfl (T := fun _ => True) trivial (kMissed_nil) ?_
  refine W_gyes rfl rfl ?_
  refine W_bin rfl rfl b_eql rfl ?_
  first | refine W_pickt rfl rfl rfl ?_ | refine W_pickf rfl rfl rfl ?_
  refine W_move rfl rfl ?_
  refine W_gyes rfl rfl ?_
  refine W_move rfl rfl ?_
  refine W_gyes rfl rfl ?_
  refine W_callp (.cons rfl .nil) Tryz.call24 rfl (T := fun _ => True) trivial (kLife_nil) ?_
  refine W_gyes rfl rfl ?_
  refine W_x (X_ptrNil rfl rfl ty64) (fun _ h => by cases h) rfl ?_
  first | refine W_pickt rfl rfl rfl ?_ | refine W_pickf rfl rfl rfl ?_
  refine W_move rfl rfl ?_
  refine W_gyes rfl rfl ?_
  refine W_move rfl rfl ?_
  refine W_gyes rfl rfl ?_
  refine W_callp (.cons rfl .nil) Tryz.call16 rfl (T := fun _ => True) trivial (kNow_nil) ?_
  refine W_gyes rfl rfl ?_
  refine W_bin rfl rfl b_eql rfl ?_
  first | refine W_pickt rfl rfl rfl ?_ | refine W_pickf rfl rfl rfl ?_
  refine W_move rfl rfl ?_
  refine W_gyes rfl rfl ?_
  refine W_move rfl rfl ?_
  refine W_gyes rfl rfl ?_
  refine W_callp (.cons rfl .nil) Tryz.call15 rfl (T := fun _ => True) trivial (kCPUs_nil) ?_
  refine W_gyes rfl rfl ?_
  refine W_bin rfl rfl b_eql rfl ?_
  first | refine W_pickt rfl rfl rfl ?_ | refine W_pickf rfl rfl rfl ?_
  refine W_assign rfl rfl ?_
  refine W_nil ?_
  refine W_ret1m (H2 := H) Tryz.results4 rfl (.nil _) zH ?_
  exact ⟨rfl, rfl⟩
 ·skip
  refine W_move rfl rfl ?_
  refine W_move rfl rfl ?_
  obtain ⟨n1, rfl⟩ : ∃ n1 : Nat, c = (n1 : Int) := ⟨c.toNat, by omega⟩
  refine W_call (.cons rfl (.cons rfl (.cons rfl .nil))) Tryz.call14 rfl ((knNew_page (n := n1) (now := now) zO hnow zO).hsub (.refl _)) ?_
  rintro v H' ⟨rfl, rfl⟩
  refine W_move rfl rfl ?_
  refine W_extract rfl rfl rfl ?_
  refine W_extract rfl rfl rfl ?_
  refine W_assign rfl rfl ?_
  refine W_assign rfl rfl ?_
  refine W_nil (W_sr ?_)
  refine W_move rfl rfl ?_
  refine W_bin rfl rfl b_geq rfl ?_
  first | rw [decide_eq_true (by omega)] | rw [decide_eq_false (by omega)]
  refine W_move rfl rfl ?_
  refine W_gyes rfl rfl ?_
  refine W_move rfl rfl ?_
  refine W_gyes rfl rfl ?_
  refine W_bin rfl rfl b_leq rfl ?_
  first | rw [decide_eq_true (by omega)] | rw [decide_eq_false (by omega)]
  first | refine W_pickt rfl rfl rfl ?_ | refine W_pickf rfl rfl rfl ?_
  refine W_move rfl rfl ?_
  refine W_gyes rfl rfl ?_
  refine W_move rfl rfl ?_
  refine W_gyes rfl rfl ?_
  refine W_bin rfl rfl b_geq rfl ?_
  first | rw [decide_eq_true (by omega)] | rw [decide_eq_false (by omega)]
  first | refine W_pickt rfl rfl rfl ?_ | refine W_pickf rfl rfl rfl ?_
  refine W_move rfl rfl ?_
  refine W_gno rfl rfl rfl ?_
  refine W_gno rfl rfl rfl ?_
  first | refine W_pickt rfl rfl rfl ?_ | refine W_pickf rfl rfl rfl ?_
  refine W_assign rfl rfl ?_
  refine W_nil (W_seq (W_sr ?_))
  refine W_move rfl rfl ?_
  refine W_move rfl rfl ?_
  refine W_gno rfl rfl rfl ?_
  refine W_gno rfl rfl rfl ?_
  refine W_gno rfl rfl rfl ?_
  refine W_gnou rfl rfl rfl ?_
  refine W_gnou rfl rfl rfl ?_
  refine W_gnou rfl rfl rfl ?_
  refine W_gnou rfl rfl rfl ?_
  refine W_gno rfl rfl rfl ?_
  refine W_gno rfl rfl rfl ?_
  refine W_gnou rfl rfl rfl ?_
  refine W_gnou rfl rfl rfl ?_
  refine W_gnou rfl rfl rfl ?_
  refine W_gnou rfl rfl rfl ?_
  refine W_gno rfl rfl rfl ?_
  refine W_gno rfl rfl rfl ?_
  refine W_gnou rfl rfl rfl ?_
  refine W_gnou rfl rfl rfl ?_
  refine W_gnou rfl rfl rfl ?_
  refine W_gno rfl rfl rfl ?_
  first | refine W_pickt rfl rfl rfl ?_ | refine W_pickf rfl rfl rfl ?_
  refine W_move rfl rfl ?_
  refine W_gyes rfl rfl ?_
  refine W_move rfl rfl ?_
  refine W_gyes rfl rfl ?_
  refine W_not rfl rfl ?_
  refine W_gyes rfl rfl ?_
  refine W_move rfl rfl ?_
  refine W_gyes rfl rfl ?_
  refine W_move rfl rfl ?_
  refine W_gyes rfl rfl ?_
  refine W_bin rfl rfl b_neq rfl ?_
  refine W_gyes rfl rfl ?_
  refine W_move rfl rfl ?_
  refine W_gyes rfl rfl ?_
  refine W_move rfl rfl ?_
  refine W_gyes rfl rfl ?_
  refine W_x (X_ptrNotNil rfl rfl ty23) (fun _ h => by cases h) rfl ?_
  refine W_gyes rfl rfl ?_
  first | refine W_pickt rfl rfl rfl ?_ | refine W_pickf rfl rfl rfl ?_
  refine W_gyes rfl rfl ?_
  first | refine W_pickt rfl rfl rfl ?_ | refine W_pickf rfl rfl rfl ?_
  first | refine W_pickt rfl rfl rfl ?_ | refine W_pickf rfl rfl rfl ?_
  refine W_nil ?_
  refine W_condF rfl rfl ?_
  refine W_skip (W_sr ?_)
  refine W_callp .nil Tryz.call9 rfl hT kknown_pure ?_
  refine W_move rfl rfl ?_
  refine W_gyes rfl rfl ?_
  refine W_move rfl rfl ?_
  refine W_gyes rfl rfl ?_
  refine W_bin rfl rfl b_eql rfl ?_
  first | refine W_pickt rfl rfl rfl ?_ | refine W_pickf rfl rfl rfl ?_
  refine W_move rfl rfl ?_
  refine W_gyes rfl rfl ?_
  refine W_move rfl rfl ?_
  refine W_gyes rfl rfl ?_
  refine W_bin rfl rfl b_eql rfl ?_
  first | refine W_pickt rfl rfl rfl ?_ | refine W_pickf rfl rfl rfl ?_
  refine W_move rfl rfl ?_
  refine W_gyes rfl rfl ?_
  refine W_move rfl rfl ?_
  refine W_gyes rfl rfl ?_
  refine W_move rfl rfl ?_
  refine W_gyes rfl rfl ?_
  refine W_callp (.cons rfl (.cons rfl .nil)) Tryz.call18 rfl (T := fun _ => True) trivial (kRunnable_nil) ?_
  refine W_gyes rfl rfl ?_
  refine W_len rfl ty55 rfl rfl ?_
  refine W_gyes rfl rfl ?_
  refine W_bin rfl rfl b_eql rfl ?_
  first | refine W_pickt rfl rfl rfl ?_ | refine W_pickf rfl rfl rfl ?_
  refine W_move rfl rfl ?_
  refine W_gyes rfl rfl ?_
  refine W_move rfl rfl ?_
  refine W_gyes rfl rfl ?_
  refine W_move rfl rfl ?_
  refine W_gyes rfl rfl ?_
  refine W_callp (v := .agg (cxC zCx).toArray) (.cons rfl (.cons rfl .nil)) Tryz.call19 rfl (T := fun _ => True) trivial (kCtx_nil) ?_
  refine W_gyes rfl rfl ?_
  refine W_build (l := cxC zCx) ty58 pl58 .nil rfl zk rfl ?_
  refine W_gyes rfl rfl ?_
  refine W_x (X_eqF (f := cxC) rfl rfl flat58 agg58 cxC_like cxC_inj gt58 zd) (fun _ h => by cases h) rfl ?_
  first | refine W_pickt rfl rfl rfl ?_ | refine W_pickf rfl rfl rfl ?_
  refine W_move rfl rfl ?_
  refine W_gyes rfl rfl ?_
  refine W_move rfl rfl ?_
  refine W_gyes rfl rfl ?_
  refine W_callp (.cons rfl .nil) Tryz.call17 rfl (T := fun _ => True) trivial (kLive_nil) ?_
  refine W_gyes rfl rfl ?_
  refine W_bin rfl rfl b_eql rfl ?_
  first | refine W_pickt rfl rfl rfl ?_ | refine W_pickf rfl rfl rfl ?_
  refine W_move rfl rfl ?_
  refine W_gyes rfl rfl ?_
  refine W_move rfl rfl ?_
  refine W_gyes rfl rfl ?_
  refine W_callp (.cons rfl (.cons rfl .nil)) Tryz.call20 rfl (T := fun _ => True) trivial (kEvents_nil) ?_
  refine W_gyes rfl rfl ?_
  refine W_len rfl ty60 rfl rfl ?_
  refine W_gyes rfl rfl ?_
  refine W_bin rfl rfl b_eql rfl ?_
  first | refine W_pickt rfl rfl rfl ?_ | refine W_pickf rfl rfl rfl ?_
  refine W_move rfl rfl ?_
  refine W_gyes rfl rfl ?_
  refine W_move rfl rfl ?_
  refine W_gyes rfl rfl ?_
  refine W_callp (.cons rfl (.cons rfl .nil)) Tryz.call21 rfl (T := fun _ => True) trivial (kByte_nil) ?_
  refine W_gyes rfl rfl ?_
  refine W_bin rfl rfl b_eql rfl ?_
  first | refine W_pickt rfl rfl rfl ?_ | refine W_pickf rfl rfl rfl ?_
  refine W_move rfl rfl ?_
  refine W_gyes rfl rfl ?_
  refine W_move rfl rfl ?_
  refine W_gyes rfl rfl ?_
  refine W_callp (.cons rfl (.cons rfl .nil)) Tryz.call22 rfl (T := fun _ => True) trivial (kWaits_nil) ?_
  refine W_gyes rfl rfl ?_
  refine W_len rfl ty55 rfl rfl ?_
  refine W_gyes rfl rfl ?_
  refine W_bin rfl rfl b_eql rfl ?_
  first | refine W_pickt rfl rfl rfl ?_ | refine W_pickf rfl rfl rfl ?_
  refine W_move rfl rfl ?_
  refine W_gyes rfl rfl ?_
  refine W_move rfl rfl ?_
  refine W_gyes rfl rfl ?_
  refine W_not rfl rfl ?_
  first | refine W_pickt rfl rfl rfl ?_ | refine W_pickf rfl rfl rfl ?_
  refine W_move rfl rfl ?_
  refine W_gyes rfl rfl ?_
  refine W_move rfl rfl ?_
  refine W_gyes rfl rfl ?_
  refine W_callp (.cons rfl (.cons rfl .nil)) Tryz.call23 rfl (T := fun _ => True) trivial (kMissed_nil) ?_
  refine W_gyes rfl rfl ?_
  refine W_bin rfl rfl b_eql rfl ?_
  first | refine W_pickt rfl rfl rfl ?_ | refine W_pickf rfl rfl rfl ?_
  refine W_move rfl rfl ?_
  refine W_gyes rfl rfl ?_
  refine W_move rfl rfl ?_
  refine W_gyes rfl rfl ?_
  refine W_callp (.cons rfl .nil) Tryz.call24 rfl (T := fun _ => True) trivial (kLife_nil) ?_
  refine W_gyes rfl rfl ?_
  refine W_x (X_ptrNil rfl rfl ty64) (fun _ h => by cases h) rfl ?_
  first | refine W_pickt rfl rfl rfl ?_ | refine W_pickf rfl rfl rfl ?_
  refine W_move rfl rfl ?_
  refine W_gyes rfl rfl ?_
  refine W_move rfl rfl ?_
  refine W_gyes rfl rfl ?_
  refine W_callp (.cons rfl .nil) Tryz.call16 rfl (T := fun _ => True) trivial (kNow_nil) ?_
  refine W_gyes rfl rfl ?_
  refine W_bin rfl rfl b_eql rfl ?_
  first | refine W_pickt rfl rfl rfl ?_ | refine W_pickf rfl rfl rfl ?_
  refine W_move rfl rfl ?_
  refine W_gyes rfl rfl ?_
  refine W_move rfl rfl ?_
  refine W_gyes rfl rfl ?_
  refine W_callp (.cons rfl .nil) Tryz.call15 rfl (T := fun _ => True) trivial (kCPUs_nil) ?_
  refine W_gyes rfl rfl ?_
  refine W_bin rfl rfl b_eql rfl ?_
  first | refine W_pickt rfl rfl rfl ?_ | refine W_pickf rfl rfl rfl ?_
  refine W_assign rfl rfl ?_
  refine W_nil ?_
  refine W_ret1m (H2 := H) Tryz.results4 rfl (.nil _) zH ?_
  exact ⟨rfl, rfl⟩
 ·skip
  refine W_move rfl rfl ?_
  refine W_move rfl rfl ?_
  obtain ⟨n1, rfl⟩ : ∃ n1 : Nat, c = (n1 : Int) := ⟨c.toNat, by omega⟩
  refine W_call (.cons rfl (.cons rfl (.cons rfl .nil))) Tryz.call14 rfl ((knNew_page (n := n1) (now := now) zO hnow zO).hsub (.refl _)) ?_
  rintro v H' ⟨rfl, rfl⟩
  refine W_move rfl rfl ?_
  refine W_extract rfl rfl rfl ?_
  refine W_extract rfl rfl rfl ?_
  refine W_assign rfl rfl ?_
  refine W_assign rfl rfl ?_
  refine W_nil (W_sr ?_)
  refine W_move rfl rfl ?_
  refine W_bin rfl rfl b_geq rfl ?_
  first | rw [decide_eq_true (by omega)] | rw [decide_eq_false (by omega)]
  refine W_move rfl rfl ?_
  refine W_gyes rfl rfl ?_
  refine W_move rfl rfl ?_
  refine W_gyes rfl rfl ?_
  refine W_bin rfl rfl b_leq rfl ?_
  first | rw [decide_eq_true (by omega)] | rw [decide_eq_false (by omega)]
  first | refine W_pickt rfl rfl rfl ?_ | refine W_pickf rfl rfl rfl ?_
  refine W_move rfl rfl ?_
  refine W_gyes rfl rfl ?_
  refine W_move rfl rfl ?_
  refine W_gyes rfl rfl ?_
  refine W_bin rfl rfl b_geq rfl ?_
  first | rw [decide_eq_true (by omega)] | rw [decide_eq_false (by omega)]
  first | refine W_pickt rfl rfl rfl ?_ | refine W_pickf rfl rfl rfl ?_
  refine W_move rfl rfl ?_
  refine W_gyes rfl rfl ?_
  refine W_move rfl rfl ?_
  refine W_gyes rfl rfl ?_
  refine W_bin rfl rfl b_leq rfl ?_
  first | rw [decide_eq_true (by omega)] | rw [decide_eq_false (by omega)]
  first | refine W_pickt rfl rfl rfl ?_ | refine W_pickf rfl rfl rfl ?_
  refine W_assign rfl rfl ?_
  refine W_nil (W_seq (W_sr ?_))
  refine W_move rfl rfl ?_
  refine W_move rfl rfl ?_
  refine W_gno rfl rfl rfl ?_
  refine W_gno rfl rfl rfl ?_
  refine W_gno rfl rfl rfl ?_
  refine W_gnou rfl rfl rfl ?_
  refine W_gnou rfl rfl rfl ?_
  refine W_gnou rfl rfl rfl ?_
  refine W_gnou rfl rfl rfl ?_
  refine W_gno rfl rfl rfl ?_
  refine W_gno rfl rfl rfl ?_
  refine W_gnou rfl rfl rfl ?_
  refine W_gnou rfl rfl rfl ?_
  refine W_gnou rfl rfl rfl ?_
  refine W_gnou rfl rfl rfl ?_
  refine W_gno rfl rfl rfl ?_
  refine W_gno rfl rfl rfl ?_
  refine W_gnou rfl rfl rfl ?_
  refine W_gnou rfl rfl rfl ?_
  refine W_gnou rfl rfl rfl ?_
  refine W_gno rfl rfl rfl ?_
  first | refine W_pickt rfl rfl rfl ?_ | refine W_pickf rfl rfl rfl ?_
  refine W_move rfl rfl ?_
  refine W_gyes rfl rfl ?_
  refine W_move rfl rfl ?_
  refine W_gyes rfl rfl ?_
  refine W_not rfl rfl ?_
  refine W_gyes rfl rfl ?_
  refine W_move rfl rfl ?_
  refine W_gyes rfl rfl ?_
  refine W_move rfl rfl ?_
  refine W_gyes rfl rfl ?_
  refine W_bin rfl rfl b_neq rfl ?_
  refine W_gyes rfl rfl ?_
  refine W_move rfl rfl ?_
  refine W_gyes rfl rfl ?_
  refine W_move rfl rfl ?_
  refine W_gyes rfl rfl ?_
  refine W_x (X_ptrNotNil rfl rfl ty23) (fun _ h => by cases h) rfl ?_
  refine W_gyes rfl rfl ?_
  first | refine W_pickt rfl rfl rfl ?_ | refine W_pickf rfl rfl rfl ?_
  refine W_gyes rfl rfl ?_
  first | refine W_pickt rfl rfl rfl ?_ | refine W_pickf rfl rfl rfl ?_
  first | refine W_pickt rfl rfl rfl ?_ | refine W_pickf rfl rfl rfl ?_
  refine W_nil ?_
  refine W_condF rfl rfl ?_
  refine W_skip (W_sr ?_)
  refine W_callp .nil Tryz.call9 rfl hT kknown_pure ?_
  refine W_move rfl rfl ?_
  refine W_gyes rfl rfl ?_
  refine W_move rfl rfl ?_
  refine W_gyes rfl rfl ?_
  refine W_bin rfl rfl b_eql rfl ?_
  first | refine W_pickt rfl rfl rfl ?_ | refine W_pickf rfl rfl rfl ?_
  refine W_move rfl rfl ?_
  refine W_gyes rfl rfl ?_
  refine W_move rfl rfl ?_
  refine W_gyes rfl rfl ?_
  refine W_bin rfl rfl b_eql rfl ?_
  first | refine W_pickt rfl rfl rfl ?_ | refine W_pickf rfl rfl rfl ?_
  refine W_move rfl rfl ?_
  refine W_gyes rfl rfl ?_
  refine W_move rfl rfl ?_
  refine W_gyes rfl rfl ?_
  refine W_move rfl rfl ?_
  refine W_gyes rfl rfl ?_
  refine W_callp (.cons rfl (.cons rfl .nil)) Tryz.call18 rfl (T := fun _ => True) trivial (kRunnable_nil) ?_
  refine W_gyes rfl rfl ?_
  refine W_len rfl ty55 rfl rfl ?_
  refine W_gyes rfl rfl ?_
  refine W_bin rfl rfl b_eql rfl ?_
  first | refine W_pickt rfl rfl rfl ?_ | refine W_pickf rfl rfl rfl ?_
  refine W_move rfl rfl ?_
  refine W_gyes rfl rfl ?_
  refine W_move rfl rfl ?_
  refine W_gyes rfl rfl ?_
  refine W_move rfl rfl ?_
  refine W_gyes rfl rfl ?_
  refine W_callp (v := .agg (cxC zCx).toArray) (.cons rfl (.cons rfl .nil)) Tryz.call19 rfl (T := fun _ => True) trivial (kCtx_nil) ?_
  refine W_gyes rfl rfl ?_
  refine W_build (l := cxC zCx) ty58 pl58 .nil rfl zk rfl ?_
  refine W_gyes rfl rfl ?_
  refine W_x (X_eqF (f := cxC) rfl rfl flat58 agg58 cxC_like cxC_inj gt58 zd) (fun _ h => by cases h) rfl ?_
  first | refine W_pickt rfl rfl rfl ?_ | refine W_pickf rfl rfl rfl ?_
  refine W_move rfl rfl ?_
  refine W_gyes rfl rfl ?_
  refine W_move rfl rfl ?_
  refine W_gyes rfl rfl ?_
  refine W_callp (.cons rfl .nil) Tryz.call17 rfl (T := fun _ => True) trivial (kLive_nil) ?_
  refine W_gyes rfl rfl ?_
  refine W_bin rfl rfl b_eql rfl ?_
  first | refine W_pickt rfl rfl rfl ?_ | refine W_pickf rfl rfl rfl ?_
  refine W_move rfl rfl ?_
  refine W_gyes rfl rfl ?_
  refine W_move rfl rfl ?_
  refine W_gyes rfl rfl ?_
  refine W_callp (.cons rfl (.cons rfl .nil)) Tryz.call20 rfl (T := fun _ => True) trivial (kEvents_nil) ?_
  refine W_gyes rfl rfl ?_
  refine W_len rfl ty60 rfl rfl ?_
  refine W_gyes rfl rfl ?_
  refine W_bin rfl rfl b_eql rfl ?_
  first | refine W_pickt rfl rfl rfl ?_ | refine W_pickf rfl rfl rfl ?_
  refine W_move rfl rfl ?_
  refine W_gyes rfl rfl ?_
  refine W_move rfl rfl ?_
  refine W_gyes rfl rfl ?_
  refine W_callp (.cons rfl (.cons rfl .nil)) Tryz.call21 rfl (T := fun _ => True) trivial (kByte_nil) ?_
  refine W_gyes rfl rfl ?_
  refine W_bin rfl rfl b_eql rfl ?_
  first | refine W_pickt rfl rfl rfl ?_ | refine W_pickf rfl rfl rfl ?_
  refine W_move rfl rfl ?_
  refine W_gyes rfl rfl ?_
  refine W_move rfl rfl ?_
  refine W_gyes rfl rfl ?_
  refine W_callp (.cons rfl (.cons rfl .nil)) Tryz.call22 rfl (T := fun _ => True) trivial (kWaits_nil) ?_
  refine W_gyes rfl rfl ?_
  refine W_len rfl ty55 rfl rfl ?_
  refine W_gyes rfl rfl ?_
  refine W_bin rfl rfl b_eql rfl ?_
  first | refine W_pickt rfl rfl rfl ?_ | refine W_pickf rfl rfl rfl ?_
  refine W_move rfl rfl ?_
  refine W_gyes rfl rfl ?_
  refine W_move rfl rfl ?_
  refine W_gyes rfl rfl ?_
  refine W_not rfl rfl ?_
  first | refine W_pickt rfl rfl rfl ?_ | refine W_pickf rfl rfl rfl ?_
  refine W_move rfl rfl ?_
  refine W_gyes rfl rfl ?_
  refine W_move rfl rfl ?_
  refine W_gyes rfl rfl ?_
  refine W_callp (.cons rfl (.cons rfl .nil)) Tryz.call23 rfl (T := fun _ => True) trivial (kMissed_nil) ?_
  refine W_gyes rfl rfl ?_
  refine W_bin rfl rfl b_eql rfl ?_
  first | refine W_pickt rfl rfl rfl ?_ | refine W_pickf rfl rfl rfl ?_
  refine W_move rfl rfl ?_
  refine W_gyes rfl rfl ?_
  refine W_move rfl rfl ?_
  refine W_gyes rfl rfl ?_
  refine W_callp (.cons rfl .nil) Tryz.call24 rfl (T := fun _ => True) trivial (kLife_nil) ?_
  refine W_gyes rfl rfl ?_
  refine W_x (X_ptrNil rfl rfl ty64) (fun _ h => by cases h) rfl ?_
  first | refine W_pickt rfl rfl rfl ?_ | refine W_pickf rfl rfl rfl ?_
  refine W_move rfl rfl ?_
  refine W_gyes rfl rfl ?_
  refine W_move rfl rfl ?_
  refine W_gyes rfl rfl ?_
  refine W_callp (.cons rfl .nil) Tryz.call16 rfl (T := fun _ => True) trivial (kNow_nil) ?_
  refine W_gyes rfl rfl ?_
  refine W_bin rfl rfl b_eql rfl ?_
  first | refine W_pickt rfl rfl rfl ?_ | refine W_pickf rfl rfl rfl ?_
  refine W_move rfl rfl ?_
  refine W_gyes rfl rfl ?_
  refine W_move rfl rfl ?_
  refine W_gyes rfl rfl ?_
  refine W_callp (.cons rfl .nil) Tryz.call15 rfl (T := fun _ => True) trivial (kCPUs_nil) ?_
  refine W_gyes rfl rfl ?_
  refine W_bin rfl rfl b_eql rfl ?_
  first | refine W_pickt rfl rfl rfl ?_ | refine W_pickf rfl rfl rfl ?_
  refine W_assign rfl rfl ?_
  refine W_nil ?_
  refine W_ret1m (H2 := H) Tryz.results4 rfl (.nil _) zH ?_
  exact ⟨rfl, rfl⟩
 ·skip
  refine W_move rfl rfl ?_
  refine W_move rfl rfl ?_
  obtain ⟨n1, rfl⟩ : ∃ n1 : Nat, c = (n1 : Int) := ⟨c.toNat, by omega⟩
  obtain ⟨p1, rfl⟩ : ∃ p1 : Nat, p = (p1 : Int) := ⟨p.toNat, by omega⟩
  refine W_call (.cons rfl (.cons rfl (.cons rfl .nil))) Tryz.call14 rfl ((knNew_L (n := n1) (p := p1) (now := now) zO zO hnow).hsub (.refl _)) ?_
  rintro v H' ⟨kb, cb, lb, gb, mb, Ws, HF, HG, HM, rfl, hF, hWl, hfr, hG, hM, rfl⟩
  have hr0 := kr0_ok cb lb gb mb n1
  refine W_move rfl rfl ?_
  refine W_extract rfl rfl rfl ?_
  refine W_extract rfl rfl rfl ?_
  refine W_assign rfl rfl ?_
  refine W_assign rfl rfl ?_
  refine W_nil (W_sr ?_)
  refine W_move rfl rfl ?_
  refine W_bin rfl rfl b_geq rfl ?_
  first | rw [decide_eq_true (by omega)] | rw [decide_eq_false (by omega)]
  refine W_move rfl rfl ?_
  refine W_gyes rfl rfl ?_
  refine W_move rfl rfl ?_
  refine W_gyes rfl rfl ?_
  refine W_bin rfl rfl b_leq rfl ?_
  first | rw [decide_eq_true (by omega)] | rw [decide_eq_false (by omega)]
  first | refine W_pickt rfl rfl rfl ?_ | refine W_pickf rfl rfl rfl ?_
  refine W_move rfl rfl ?_
  refine W_gyes rfl rfl ?_
  refine W_move rfl rfl ?_
  refine W_gyes rfl rfl ?_
  refine W_bin rfl rfl b_geq rfl ?_
  first | rw [decide_eq_true (by omega)] | rw [decide_eq_false (by omega)]
  first | refine W_pickt rfl rfl rfl ?_ | refine W_pickf rfl rfl rfl ?_
  refine W_move rfl rfl ?_
  refine W_gyes rfl rfl ?_
  refine W_move rfl rfl ?_
  refine W_gyes rfl rfl ?_
  refine W_bin rfl rfl b_leq rfl ?_
  first | rw [decide_eq_true (by omega)] | rw [decide_eq_false (by omega)]
  first | refine W_pickt rfl rfl rfl ?_ | refine W_pickf rfl rfl rfl ?_
  refine W_assign rfl rfl ?_
  refine W_nil (W_seq (W_sr ?_))
  refine W_move rfl rfl ?_
  refine W_move rfl rfl ?_
  refine W_gyes rfl rfl ?_
  refine W_move rfl rfl ?_
  refine W_gyes rfl rfl ?_
  refine W_bin rfl rfl b_neq rfl ?_
  refine W_gyes rfl rfl ?_
  refine W_move rfl rfl ?_
  refine W_gyes rfl rfl ?_
  refine W_move rfl rfl ?_
  refine W_gyes rfl rfl ?_
  refine W_callq (v := .int .i64 (n1 : Int)) (.cons rfl .nil) Tryz.call15 rfl (kCPUs_q hr0 zM) ?_
  refine W_gyes rfl rfl ?_
  refine W_move rfl rfl ?_
  refine W_gyes rfl rfl ?_
  refine W_bin rfl rfl b_neq rfl ?_
  rw [decide_eq_false (by omega)]
  refine W_gyes rfl rfl ?_
  first | refine W_pickt rfl rfl rfl ?_ | refine W_pickf rfl rfl rfl ?_
  refine W_gyes rfl rfl ?_
  refine W_move rfl rfl ?_
  refine W_gyes rfl rfl ?_
  refine W_move rfl rfl ?_
  refine W_gyes rfl rfl ?_
  refine W_callq (.cons rfl .nil) Tryz.call16 rfl (kNow_q (now := now) hr0 zM zM) ?_
  refine W_gyes rfl rfl ?_
  refine W_move rfl rfl ?_
  refine W_gyes rfl rfl ?_
  refine W_bin rfl rfl b_neq rfl ?_
  rw [decide_eq_false (by omega)]
  refine W_gyes rfl rfl ?_
  first | refine W_pickt rfl rfl rfl ?_ | refine W_pickf rfl rfl rfl ?_
  refine W_gyes rfl rfl ?_
  refine W_move rfl rfl ?_
  refine W_gyes rfl rfl ?_
  refine W_move rfl rfl ?_
  refine W_gyes rfl rfl ?_
  have hlv := kLive_q (w0 := w0) hr0 (show (kb, .cells 113 57 (knC (kr0 cb lb gb mb n1))) ∈ (kb, .cells 113 57 (knC (kr0 cb lb gb mb n1))) :: ((cb, .cells 211 1 [.int .u64 ((now : Nat) : Int)]) :: (HG ++ (HM ++ (HF ++ ((b12, .cells 39 2 [.slice none 0 0, .bool false]) :: (b7, .cells 47 7 [.int .i64 s0, .int .i64 s1, .int .i64 s2, .int .i64 s3, .int .u64 s4, .int .u64 s5, .slice ad (min n 600) cap]) :: H))))) from List.mem_cons_self)
  rw [live0] at hlv
  refine W_callq (.cons rfl .nil) Tryz.call17 rfl hlv ?_
  refine W_gyes rfl rfl ?_
  refine W_bin rfl rfl b_neq rfl ?_
  refine W_gyes rfl rfl ?_
  first | refine W_pickt rfl rfl rfl ?_ | refine W_pickf rfl rfl rfl ?_
  first | refine W_pickt rfl rfl rfl ?_ | refine W_pickf rfl rfl rfl ?_
  refine W_move rfl rfl ?_
  refine W_gyes rfl rfl ?_
  refine W_move rfl rfl ?_
  refine W_gyes rfl rfl ?_
  refine W_not rfl rfl ?_
  refine W_gyes rfl rfl ?_
  refine W_move rfl rfl ?_
  refine W_gno rfl rfl rfl ?_
  refine W_gno rfl rfl rfl ?_
  refine W_gno rfl rfl rfl ?_
  refine W_gnou rfl rfl rfl ?_
  refine W_gnou rfl rfl rfl ?_
  refine W_gno rfl rfl rfl ?_
  refine W_gyes rfl rfl ?_
  first | refine W_pickt rfl rfl rfl ?_ | refine W_pickf rfl rfl rfl ?_
  first | refine W_pickt rfl rfl rfl ?_ | refine W_pickf rfl rfl rfl ?_
  refine W_nil ?_
  refine W_condF rfl rfl ?_
  refine W_skip (W_sr ?_)
  refine W_callp .nil Tryz.call9 rfl hT kknown_pure ?_
  refine W_move rfl rfl ?_
  refine W_gyes rfl rfl ?_
  refine W_move rfl rfl ?_
  refine W_gyes rfl rfl ?_
  refine W_bin rfl rfl b_eql rfl ?_
  first | refine W_pickt rfl rfl rfl ?_ | refine W_pickf rfl rfl rfl ?_
  refine W_move rfl rfl ?_
  refine W_gyes rfl rfl ?_
  refine W_move rfl rfl ?_
  refine W_gyes rfl rfl ?_
  refine W_bin rfl rfl b_eql rfl ?_
  first | refine W_pickt rfl rfl rfl ?_ | refine W_pickf rfl rfl rfl ?_
  refine W_move rfl rfl ?_
  refine W_gyes rfl rfl ?_
  refine W_move rfl rfl ?_
  refine W_gyes rfl rfl ?_
  refine W_move rfl rfl ?_
  refine W_gyes rfl rfl ?_
  refine W_callp (.cons rfl (.cons rfl .nil)) Tryz.call18 rfl (T := fun _ => True) trivial (kRunnable_nil) ?_
  refine W_gyes rfl rfl ?_
  refine W_len rfl ty55 rfl rfl ?_
  refine W_gyes rfl rfl ?_
  refine W_bin rfl rfl b_eql rfl ?_
  first | refine W_pickt rfl rfl rfl ?_ | refine W_pickf rfl rfl rfl ?_
  refine W_move rfl rfl ?_
  refine W_gyes rfl rfl ?_
  refine W_move rfl rfl ?_
  refine W_gyes rfl rfl ?_
  refine W_move rfl rfl ?_
  refine W_gyes rfl rfl ?_
  refine W_callp (v := .agg (cxC zCx).toArray) (.cons rfl (.cons rfl .nil)) Tryz.call19 rfl (T := fun _ => True) trivial (kCtx_nil) ?_
  refine W_gyes rfl rfl ?_
  refine W_build (l := cxC zCx) ty58 pl58 .nil rfl zk rfl ?_
  refine W_gyes rfl rfl ?_
  refine W_x (X_eqF (f := cxC) rfl rfl flat58 agg58 cxC_like cxC_inj gt58 zd) (fun _ h => by cases h) rfl ?_
  first | refine W_pickt rfl rfl rfl ?_ | refine W_pickf rfl rfl rfl ?_
  refine W_move rfl rfl ?_
  refine W_gyes rfl rfl ?_
  refine W_move rfl rfl ?_
  refine W_gyes rfl rfl ?_
  refine W_callp (.cons rfl .nil) Tryz.call17 rfl (T := fun _ => True) trivial (kLive_nil) ?_
  refine W_gyes rfl rfl ?_
  refine W_bin rfl rfl b_eql rfl ?_
  first | refine W_pickt rfl rfl rfl ?_ | refine W_pickf rfl rfl rfl ?_
  refine W_move rfl rfl ?_
  refine W_gyes rfl rfl ?_
  refine W_move rfl rfl ?_
  refine W_gyes rfl rfl ?_
  refine W_callp (.cons rfl (.cons rfl .nil)) Tryz.call20 rfl (T := fun _ => True) trivial (kEvents_nil) ?_
  refine W_gyes rfl rfl ?_
  refine W_len rfl ty60 rfl rfl ?_
  refine W_gyes rfl rfl ?_
  refine W_bin rfl rfl b_eql rfl ?_
  first | refine W_pickt rfl rfl rfl ?_ | refine W_pickf rfl rfl rfl ?_
  refine W_move rfl rfl ?_
  refine W_gyes rfl rfl ?_
  refine W_move rfl rfl ?_
  refine W_gyes rfl rfl ?_
  refine W_callp (.cons rfl (.cons rfl .nil)) Tryz.call21 rfl (T := fun _ => True) trivial (kByte_nil) ?_
  refine W_gyes rfl rfl ?_
  refine W_bin rfl rfl b_eql rfl ?_
  first | refine W_pickt rfl rfl rfl ?_ | refine W_pickf rfl rfl rfl ?_
  refine W_move rfl rfl ?_
  refine W_gyes rfl rfl ?_
  refine W_move rfl rfl ?_
  refine W_gyes rfl rfl ?_
  refine W_callp (.cons rfl (.cons rfl .nil)) Tryz.call22 rfl (T := fun _ => True) trivial (kWaits_nil) ?_
  refine W_gyes rfl rfl ?_
  refine W_len rfl ty55 rfl rfl ?_
  refine W_gyes rfl rfl ?_
  refine W_bin rfl rfl b_eql rfl ?_
  first | refine W_pickt rfl rfl rfl ?_ | refine W_pickf rfl rfl rfl ?_
  refine W_move rfl rfl ?_
  refine W_gyes rfl rfl ?_
  refine W_move rfl rfl ?_
  refine W_gyes rfl rfl ?_
  refine W_not rfl rfl ?_
  first | refine W_pickt rfl rfl rfl ?_ | refine W_pickf rfl rfl rfl ?_
  refine W_move rfl rfl ?_
  refine W_gyes rfl rfl ?_
  refine W_move rfl rfl ?_
  refine W_gyes rfl rfl ?_
  refine W_callp (.cons rfl (.cons rfl .nil)) Tryz.call23 rfl (T := fun _ => True) trivial (kMissed_nil) ?_
  refine W_gyes rfl rfl ?_
  refine W_bin rfl rfl b_eql rfl ?_
  first | refine W_pickt rfl rfl rfl ?_ | refine W_pickf rfl rfl rfl ?_
  refine W_move rfl rfl ?_
  refine W_gyes rfl rfl ?_
  refine W_move rfl rfl ?_
  refine W_gyes rfl rfl ?_
  refine W_callp (.cons rfl .nil) Tryz.call24 rfl (T := fun _ => True) trivial (kLife_nil) ?_
  refine W_gyes rfl rfl ?_
  refine W_x (X_ptrNil rfl rfl ty64) (fun _ h => by cases h) rfl ?_
  first | refine W_pickt rfl rfl rfl ?_ | refine W_pickf rfl rfl rfl ?_
  refine W_move rfl rfl ?_
  refine W_gyes rfl rfl ?_
  refine W_move rfl rfl ?_
  refine W_gyes rfl rfl ?_
  refine W_callp (.cons rfl .nil) Tryz.call16 rfl (T := fun _ => True) trivial (kNow_nil) ?_
  refine W_gyes rfl rfl ?_
  refine W_bin rfl rfl b_eql rfl ?_
  first | refine W_pickt rfl rfl rfl ?_ | refine W_pickf rfl rfl rfl ?_
  refine W_move rfl rfl ?_
  refine W_gyes rfl rfl ?_
  refine W_move rfl rfl ?_
  refine W_gyes rfl rfl ?_
  refine W_callp (.cons rfl .nil) Tryz.call15 rfl (T := fun _ => True) trivial (kCPUs_nil) ?_
  refine W_gyes rfl rfl ?_
  refine W_bin rfl rfl b_eql rfl ?_
  first | refine W_pickt rfl rfl rfl ?_ | refine W_pickf rfl rfl rfl ?_
  refine W_assign rfl rfl ?_
  refine W_nil ?_
  refine W_ret1m (H2 := H) Tryz.results4 rfl (.nil _) zH ?_
  exact ⟨rfl, rfl⟩
end Go.Proofs.YtcggkokeggfdkaaGreatDoor
