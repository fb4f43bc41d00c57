/-
  Own work: contracts of functions that the statement reaches, and plain facts on what they compute; each theorem says its conditions.
-/
import Derived.Test.YtcggkokeggfdkaaGreatDoorKpS2
import Derived.Test.YtcggkokeggfdkaaGreatDoorKpT1
import Derived.Test.YtcggkokeggfdkaaGreatDoorKpS4
import Derived.Test.YtcggkokeggfdkaaGreatDoorKpS1
import Derived.Test.YtcggkokeggfdkaaGreatDoorShelf
import Derived.WalkSmall
import Derived.IntWalk
import Derived.Test.YtcggkokeggfdkaaGreatDoorKpA
set_option linter.all false
set_option linter.unusedSimpArgs false
set_option linter.unusedVariables false
set_option maxHeartbeats 16000000
namespace Go.Proofs.YtcggkokeggfdkaaGreatDoor
open Go Go.Sl
variable {n tb wb g1 g2 rb db:Nat} {M:List (Option Nat × Bool)} {w0:World} {H:qg}
attribute [local irreducible] W
structure Xm where
 kind:Nat
 entries:Nat
 words:Nat
 closed:Bool
 L:List Slt
 C:List (Int × Hd)
 used:List Int
structure Xm.Ok (x:Xm):Prop where
 knd:x.kind≤2
 ent:1≤x.entries∧x.entries≤8
 wrd:1≤x.words∧x.words≤4
 len:x.L.length=2*x.entries
 are:qht x.L
 nd:(qf4 x.C).Nodup
 perm:x.used.Perm (qf4 x.C)
 le:x.C.length≤x.entries
 lk:∀ p∈x.C,∃ (i:Nat) (s:Slt),p.2.slot=(i:Int)∧x.L[i]?=some s∧s.st=1∧s.own=p.2∧s.cel.key=p.1
 rng:∀ k∈qf4 x.C,0≤k∧k<18446744073709551616
def Xm.use (x:Xm) (k:Int):Xm:={ x with used:=qbx x.used k++[k] }
def Xm.link (x:Xm) (c:Cel):Xm × Hd:=match qh3 x.L with
 | some i=>match x.L[i]? with
  | some s=>({ x with L:=x.L.set i { s with st:=1,cel:=c },C:=(c.key,s.own)::x.C,used:=qbx x.used c.key++[c.key] },s.own)
  | none=>(x,zHd)
 | none=>(x,zHd)
def Xm.unlink (x:Xm) (k:Int):Xm × Hd:=({ x with C:=delC x.C k,used:=qbx x.used k },(qga x.C k).getD zHd)
def Xm.refE (x:Xm) (how:Int):Int:=if x.kind=0 then 2 else if how=2 then 4 else if x.kind=1∧x.C.length=x.entries then 3 else if cntA 0 x.L=0 then 20 else 0
structure Putt where
 h:Hd
 gone:Hd
 out:Bool
deriving DecidableEq
def qbT:Putt:=⟨zHd,zHd,false⟩
def Xm.put (x:Xm) (how k:Int) (ws:List Int):Xm × Putt × Int :=
 if (how<0∨2<how)∨x.words<ws.length then (x,qbT,1)
 else if x.closed=true then (x,qbT,22)
 else match qga x.C k with
  | some g=>if how=1 then (x,qbT,5) else ({ x.use k with L:=qdF x.L g (fun s=>{ s with cel:=⟨k,W4.of ws⟩ }) },⟨g,zHd,false⟩,XY x.L g)
  | none=>if x.refE how≠0 then (x,qbT,x.refE how)
   else if x.C.length=x.entries then
    (((x.unlink (x.used.headD 0)).1.link ⟨k,W4.of ws⟩).1,⟨((x.unlink (x.used.headD 0)).1.link ⟨k,W4.of ws⟩).2,(x.unlink (x.used.headD 0)).2,true⟩,0)
   else ((x.link ⟨k,W4.of ws⟩).1,⟨(x.link ⟨k,W4.of ws⟩).2,zHd,false⟩,0)
def Xm.del (x:Xm) (k:Int):Xm × Hd × Int:=if x.kind=0 then (x,zHd,17) else match qga x.C k with
 | some _=>((x.unlink k).1,(x.unlink k).2,0)
 | none=>(x,zHd,4)
def Xm.linked (x:Xm) (h:Hd):Bool:=decide (XY x.L h=0) && decide (qga x.C (celA x.L h).key=some h)
def Xm.free (x:Xm) (h:Hd):Xm × Int:=if XY x.L h≠0 then (x,XY x.L h) else if x.linked h=true then (x,21) else ({ x with L:=qdF x.L h relS },0)
def Xm.load (x:Xm) (h:Hd) (at_:Int):Int × Int:=if XY x.L h≠0 then (0,XY x.L h) else if at_<0∨(x.words:Int)≤at_ then (0,1) else ((celA x.L h).w.get at_.toNat,0)
def Xm.store (x:Xm) (h:Hd) (at_ v:Int):Xm × Int:=if XY x.L h≠0 then (x,XY x.L h) else if at_<0∨(x.words:Int)≤at_ then (x,1) else ({ x with L:=qdF x.L h (fun s=>{ s with cel:=⟨s.cel.key,s.cel.w.put at_.toNat v⟩ }) },0)
def Xm.key (x:Xm) (h:Hd):Int × Int:=((celA x.L h).key,XY x.L h)
def sortU (l:List Int):List Int:=l.mergeSort (fun a b=>decide (a≤b))
noncomputable def Xm.keys (x:Xm):List Int:=if x.kind=2 then x.used else if x.kind=0 then sortU (keysC x.C) else keysC x.C
def arrS (i:Nat):Slt:=⟨⟨(i:Int),1⟩,1,⟨(i:Int),zW⟩⟩
def arrL (n k:Nat):List Slt:=(List.range n).map fun i=>if i<k then arrS i else newS i
def arrC (k:Nat):List (Int × Hd):=((List.range k).map fun i:Nat=>(((i:Int),⟨(i:Int),1⟩):Int × Hd)).reverse
def arrU (k:Nat):List Int:=(List.range k).map fun i:Nat=>(i:Int)
def Xm.new (kind entries words:Nat):Xm:=⟨kind,entries,words,false,arrL (2*entries) (if kind=0 then entries else 0),arrC (if kind=0 then entries else 0),arrU (if kind=0 then entries else 0)⟩
inductive XmH (mb T:Nat) (x:Xm):qg→Prop
 | mk {ab tb bo:Nat} {HA HT HO:qg} (hA:AreH ab x.L HA) (hB:TabH tb x.entries x.C HT) (hO:OrdH bo x.entries T x.used HO) (hx:x.Ok):XmH mb T x ((mb,.cells 435 7 [.int .i64 (x.kind:Int),.int .i64 (x.entries:Int),.int .i64 (x.words:Int),zp ab,zp tb,zp bo,.bool x.closed])::(HA++(HT++HO)))
section
variable {w0:World} {H HX:qg} {mb T:Nat} {x:Xm}
end
def mcC (c:Option Nat × Bool):List Value:=[.pointer (c.1.map fun mb=>⟨mb,0,none⟩),.bool c.2]
theorem qb6 (c:Option Nat × Bool):(mcC c).length=2:=rfl
def qap (n:Nat) (M:List (Option Nat × Bool)) (tb wb g1 g2 rb db:Nat):List Value:=zi ((n:Nat):Int)::(M.flatMap mcC++[zp tb,zp wb,zp g1,zp g2,zp rb,.map (some db)])
theorem qhf {j:Nat} (h:M.length=4):(qap n M tb wb g1 g2 rb db)[9+j]?=[zp tb,zp wb,zp g1,zp g2,zp rb,Value.map (some db)][j]?:=by
 unfold qap
 rw [show 9+j=(8+j)+1 by omega,List.getElem?_cons_succ,List.getElem?_append_right (by rw [qai qb6,h]; omega),qai qb6,h,Nat.add_sub_cancel_left]
structure Dye where
 key:Int
 h:Hd
 clk:Nat
def Dye.ent (e:Dye):Int × Value × Nat:=(e.key,.agg (List.toArray (hdC e.h)),e.clk)
def Dye.p (e:Dye):Int × Hd:=(e.key,e.h)
inductive DyH (db:Nat) (dy:List (Int × Hd)):qg→Prop
 | mk {E:List Dye} {cl:Nat} (hok:ZP (E.map Dye.ent) cl) (he:E.map Dye.p=dy):DyH db dy [(db,.obj (JE (Value.int .i64) ((E).map Dye.ent) cl))]
inductive MpH (T:Nat):(Option Nat × Bool)→Option (Xm × Bool)→qg→Prop
 | none:MpH T (none,false) none []
 | some {mb:Nat} {x:Xm} {b:Bool} {X:qg} (h:XmH mb T x X):MpH T (some mb,b) (some (x,b)) X
structure MsOk (T:Nat) (M:List (Option Nat × Bool)) (ms:List (Option (Xm × Bool))) (HM:List qg):Prop where
 m4:M.length=4
 s4:ms.length=4
 h4:HM.length=4
 at_:∀ (k:Nat) c y X,M[k]?=some c→ms[k]?=some y→HM[k]?=some X→MpH T c y X
structure Lf where
 n:Nat
 ms:List (Option (Xm × Bool))
 Ws:List Wl
 Qt:List (Int × Int)
 Rt:List (Int × Int)
 At:List Xd
 Qw:List (Int × Int)
 Rw:List (Int × Int)
 Aw:List qaM
 on:List Int
 tr:Gr
 cl:Gr
 us:List (Int × Cnt)
 dy:List (Int × Hd)
structure UsOk (R:List (Int × Cnt)):Prop where
 rng:∀ p∈R,1≤p.2.n∧p.2.n≤8∧p.2.top=8∧0≤p.1∧p.1<16
 nd:(R.map (·.1)).Nodup
inductive QI (lb T:Nat) (F:Lf):qg→Prop
 | mk {tb wb g1 g2 rb db:Nat} {M:List (Option Nat × Bool)} {HT HW H1 H2 HR HD:qg} {HM:List qg}
  (hT:qbO tb F.n F.Ws F.Qt F.Rt F.At HT) (hO:TOk T F.Ws F.At) (hW:qfc wb F.n F.Qw F.Rw F.Aw F.on HW)
  (h1:GrH g1 F.n F.tr H1) (o1:GrOk F.n F.tr) (h2:GrH g2 F.n F.cl H2) (o2:GrOk F.n F.cl)
  (hR:qdn rb 8 F.us HR) (hU:UsOk F.us) (hD:DyH db F.dy HD) (hM:MsOk T M F.ms HM) :
  QI lb T F ((lb,.cells 197 15 (qap F.n M tb wb g1 g2 rb db))::(HT++(HW++(H1++(H2++(HR++(HD++HM.flatten)))))))
theorem qd6 {lb:Nat} (hm:(lb,.cells 197 15 (qap n M tb wb g1 g2 rb db))∈H) (hM4:M.length=4) :qR Tryz.prog w0 H 93 [zp lb] (zp g1):=by
 refine qi Tryz.func93 rfl Tryz.ntmps93 rfl rfl (za 6 rfl ?_)
 refine W_x (qY rfl rfl qaX) (fun _ h=>by cases h) rfl ?_
 refine za 7 rfl ?_
 refine qe (v:=zp g1) rfl K9 rfl (qh.own (b:=lb) hm (qhf (j:=2) hM4)) rfl ?_
 refine za 2 rfl ?_
 refine qj (H2:=H) Tryz.results93 rfl (.nil _) zH ?_
 exact ⟨rfl,rfl⟩
theorem qd5 {lb:Nat} (hm:(lb,.cells 197 15 (qap n M tb wb g1 g2 rb db))∈H) (hM4:M.length=4) {HR:qg} {R:List (Int × Cnt)} {p:Int} (hR:qdn rb 8 R HR) (hs:∀ p∈HR,p∈H) :qR Tryz.prog w0 H 164 [zp lb,zi p] (zi (qby R p)):=by
 refine qi Tryz.func164 rfl Tryz.ntmps164 rfl rfl (za 6 rfl ?_)
 refine W_x (qY rfl rfl qaX) (fun _ h=>by cases h) rfl ?_
 refine za 7 rfl ?_
 refine qe (v:=zp rb) rfl qbW rfl (qh.own (b:=lb) hm (qhf (j:=4) hM4)) rfl ?_
 refine qM rfl rfl (q9 (zc2 rfl rfl) Tryz.call228 rfl (hR.value hs) (za 2 rfl ?_))
 refine qj (H2:=H) Tryz.results164 rfl (.nil _) zH ?_
 exact ⟨rfl,rfl⟩
def lf0 (n:Nat) (Ws:List Wl):Lf:=⟨n,[none,none,none,none],Ws,[],[],List.replicate 256 YU,[],[],List.replicate 256 Ki,List.replicate 32 0,gr0 n,gr0 n,[],[]⟩
theorem qeh (h:1≤n∧n≤64):GrOk n (gr0 n):=⟨qcz.start,by omega,fun l b p e=>(by cases e),Int.le_refl 0,(by show (0:Int)≤0∧(0:Int)≤1000000000; decide),(by show (0:Int)≤1000000000; decide)⟩
theorem us0:UsOk []:=⟨fun p hp=>(by cases hp),List.nodup_nil⟩
theorem ms0 (T:Nat):MsOk T [(none,false),(none,false),(none,false),(none,false)] [none,none,none,none] [[],[],[],[]]:=⟨rfl,rfl,rfl,fun k c y X e1 e2 e3=>by
 have hk:=(List.getElem?_eq_some_iff.1 e1).1
 have:k=0∨k=1∨k=2∨k=3:=by simp at hk; omega
 rcases this with rfl | rfl | rfl | rfl <;> (cases e1; cases e2; cases e3; exact .none)⟩
set_option maxRecDepth 100000
theorem qfW {now:Nat} (hn:1≤n∧n≤64) (hnow:now≤18446744073709551615) :qt Tryz.prog w0 49 #[zi (n:Int),zu ((now:Nat):Int)] (H) (fun v H'=>∃ lb Ws HF,v=.tuple #[zp lb,zi 0]∧QI lb 8 (lf0 n Ws) HF∧Ws.length=n∧(∀ w∈Ws,JS now w)∧H'=HF++H):=by
 refine qi (l:=[zi (n:Int),zu ((now:Nat):Int)]) Tryz.func49 rfl Tryz.ntmps49 rfl rfl ?_
 refine za 7 rfl ?_
 refine qu (zc2 rfl rfl) Tryz.call111 rfl (qft (now:=now) hn) ?_
 rintro v H' ⟨tb,Ws,HT,rfl,hT,hWl,hfr,rfl⟩
 refine za 16 rfl ?_
 refine YO (kf:=(Value.int .i64)) rfl (fun b20=>?_)
 refine ql (l:=[zi ((n:Nat):Int),.pointer none,.bool false,.pointer none,.bool false,.pointer none,.bool false,.pointer none,.bool false,zp tb,.pointer none,.pointer none,.pointer none,.pointer none,.map (some b20)]) ty197 pl197 (.cons rfl rfl rfl rfl rfl (.cons rfl rfl rfl rfl rfl (.cons rfl rfl rfl rfl rfl .nil))) rfl rfl rfl ?_
 refine qS (l:=[zi ((n:Nat):Int),.pointer none,.bool false,.pointer none,.bool false,.pointer none,.bool false,.pointer none,.bool false,zp tb,.pointer none,.pointer none,.pointer none,.pointer none,.map (some b20)]) rfl rfl rfl (fun b22=>?_)
 refine za 5 rfl (qu (zc1 rfl) Tryz.call112 rfl (qhu hn) ?_)
 rintro v H' ⟨wb,HW,rfl,hW,rfl⟩
 refine za 5 rfl ?_
 refine q7 (l':=[zi ((n:Nat):Int),.pointer none,.bool false,.pointer none,.bool false,.pointer none,.bool false,.pointer none,.bool false,zp tb,zp wb,.pointer none,.pointer none,.pointer none,.map (some b20)]) rfl rfl qg8 rfl rfl (b:=b22) zM rfl rfl zU ?_
 refine za 4 rfl (qu (zc1 rfl) Tryz.call113 rfl (qek hn) ?_)
 rintro v H' ⟨g1,H1_,rfl,hg1,rfl⟩
 refine za 5 rfl ?_
 refine q7 (l':=[zi ((n:Nat):Int),.pointer none,.bool false,.pointer none,.bool false,.pointer none,.bool false,.pointer none,.bool false,zp tb,zp wb,zp g1,.pointer none,.pointer none,.map (some b20)]) rfl rfl K9 rfl rfl (b:=b22) zM rfl rfl zU ?_
 refine za 4 rfl (qu (zc1 rfl) Tryz.call113 rfl (qek hn) ?_)
 rintro v H' ⟨g2,H2_,rfl,hg2,rfl⟩
 refine za 5 rfl ?_
 refine q7 (l':=[zi ((n:Nat):Int),.pointer none,.bool false,.pointer none,.bool false,.pointer none,.bool false,.pointer none,.bool false,zp tb,zp wb,zp g1,zp g2,.pointer none,.map (some b20)]) rfl rfl K9 rfl rfl (b:=b22) zM rfl rfl zU ?_
 refine za 3 rfl ?_
 refine qu (zc1 rfl) Tryz.call114 rfl (qdM (top:=8) zd) ?_
 rintro v H' ⟨rb,HR,hR,rfl,rfl⟩
 refine za 5 rfl ?_
 refine q7 (l':=[zi ((n:Nat):Int),.pointer none,.bool false,.pointer none,.bool false,.pointer none,.bool false,.pointer none,.bool false,zp tb,zp wb,zp g1,zp g2,zp rb,.map (some b20)]) rfl rfl qbW rfl rfl (b:=b22) zM rfl rfl zU ?_
 refine za 6 rfl ?_
 refine qF (H2:=(b22,.cells 197 15 [zi ((n:Nat):Int),.pointer none,.bool false,.pointer none,.bool false,.pointer none,.bool false,.pointer none,.bool false,zp tb,zp wb,zp g1,zp g2,zp rb,.map (some b20)])::(HT++(HW++(H1_++(H2_++(HR++((b20,.obj (JE (Value.int .i64) [] 0))::H))))))) Tryz.results49 rfl rfl (.nil _) zH ?_
 exact ⟨b22,Ws,(b22,.cells 197 15 [zi ((n:Nat):Int),.pointer none,.bool false,.pointer none,.bool false,.pointer none,.bool false,.pointer none,.bool false,zp tb,zp wb,zp g1,zp g2,zp rb,.map (some b20)])::(HT++(HW++(H1_++(H2_++(HR++([(b20,.obj (JE (Value.int .i64) [] 0))]++([[],[],[],[]]:List qg).flatten)))))),rfl,.mk (F:=lf0 n Ws) hT ((tok0 hnow hfr).up (Nat.zero_le _)) hW hg1 (qeh hn) hg2 (qeh hn) hR us0 (.mk (E:=[]) (ZP.nil 0) rfl) (ms0 8),hWl,hfr,by simp only [List.cons_append,List.append_assoc]; rfl⟩
def kr0 (cb lb gb mb n:Nat):Kr:=⟨cb,lb,List.replicate 16 none,gb,.map none,mb,.slice none 0 0,0,List.replicate 32 none,.slice none 0 0,n⟩
theorem Zh (cb lb gb mb n:Nat):(kr0 cb lb gb mb n).Ok:=⟨rfl,rfl⟩
set_option maxRecDepth 100000
theorem qf2 {p now:Nat} (hn:1≤n∧n≤64) (hp:1≤p∧p≤16) (hnow:now≤18446744073709551615) :qt Tryz.prog w0 14 #[zi (n:Int),zi (p:Int),zu ((now:Nat):Int)] (H) (fun v H'=>∃ kb cb lb gb mb Ws HF HG HM,v=.tuple #[zp kb,zi 0]∧QI lb 8 (lf0 n Ws) HF∧Ws.length=n∧(∀ w∈Ws,JS now w)∧GdH gb n ⟨List.replicate n 0,List.replicate 16 0⟩ HG∧MmH mb p ⟨List.replicate (16*p) 0,List.replicate 16 0⟩ HM∧H'=(kb,.cells 113 57 (knC (kr0 cb lb gb mb n)))::((cb,.cells 211 1 [zu ((now:Nat):Int)])::(HG++(HM++(HF++H))))):=by
 refine qi (l:=[zi (n:Int),zi (p:Int),zu ((now:Nat):Int)]) Tryz.func14 rfl Tryz.ntmps14 rfl rfl ?_
 refine za 7 rfl ?_
 refine qu (zc2 rfl rfl) Tryz.call49 rfl (qfW (now:=now) hn hnow) ?_
 rintro v H' ⟨lb,Ws,HF,rfl,hF,hWl,hfr,rfl⟩
 refine za 15 rfl (qu (zc1 rfl) Tryz.call50 rfl (qfS hp) ?_)
 rintro v H' ⟨mb,HM,rfl,hM,rfl⟩
 refine za 15 rfl (qu (zc1 rfl) Tryz.call51 rfl (qf8 hn) ?_)
 rintro v H' ⟨gb,HG,rfl,hG,rfl⟩
 refine za 8 rfl ?_
 refine qu (zc1 rfl) Tryz.call52 rfl (cAt_L (now:=now)) ?_
 rintro v H' ⟨cb,rfl,rfl⟩
 refine za 4 rfl ?_
 refine ql (l:=knC (kr0 cb lb gb mb n)) ty113 pl113 (.cons rfl rfl rfl rfl rfl (.cons rfl rfl rfl rfl rfl (.cons rfl rfl rfl rfl rfl (.cons rfl rfl rfl rfl rfl (.cons rfl rfl rfl rfl rfl .nil))))) rfl zk rfl ?_
 refine qS (l:=knC (kr0 cb lb gb mb n)) rfl rfl rfl (fun kb=>?_)
 refine za 3 rfl ?_
 refine qF (H2:=(kb,.cells 113 57 (knC (kr0 cb lb gb mb n)))::((cb,.cells 211 1 [zu ((now:Nat):Int)])::(HG++(HM++(HF++H))))) Tryz.results14 rfl rfl (.nil _) zH ?_
 exact ⟨kb,cb,lb,gb,mb,Ws,HF,HG,HM,rfl,hF,hWl,hfr,hG,hM,rfl⟩
theorem qf5 {kb:Nat} {r:Kr} (hr:r.Ok) (hm:(kb,.cells 113 57 (knC r))∈H) :qR Tryz.prog w0 H 15 [zp kb] (zi (r.n:Int)):=by
 refine qi Tryz.func15 rfl Tryz.ntmps15 rfl rfl (za 6 rfl ?_)
 refine W_x (qY rfl rfl KH) (fun _ h=>by cases h) rfl ?_
 refine za 7 rfl ?_
 refine qe (v:=zi (r.n:Int)) rfl ty3 rfl (qh.own (b:=kb) hm (qhT hr 1)) rfl ?_
 refine za 2 rfl ?_
 refine qj (H2:=H) Tryz.results15 rfl (.nil _) zH ?_
 exact ⟨rfl,rfl⟩
attribute [local irreducible] KJ
def dyPut (dy:List (Int × Hd)) (z:Int) (h:Hd):List (Int × Hd):=if dy.any (fun p=>decide (z=p.1))=true then dy.map (fun p=>if z=p.1 then (p.1,h) else p) else dy++[(z,h)]
def callG (G:Gr) (n:Nat) (z:Nat):Gr:=match G.Q[z%n]? with
 | some q=>{ G with Q:=G.Q.set (z%n) (addC q (z:Int)) }
 | none=>G
def dieF (F:Lf) (z:Nat) (h:Hd):Lf:={ F with
 Ws:=(KJ F.Ws F.Qt F.At [(z:Int)]).1,Qt:=(KJ F.Ws F.Qt F.At [(z:Int)]).2.1,At:=(KJ F.Ws F.Qt F.At [(z:Int)]).2.2.1,
 Qw:=delQ F.Qw (z:Int),Aw:=F.Aw.set z { ofW F.Aw (z:Int) with shut:=true },dy:=dyPut F.dy (z:Int) h,tr:=callG F.tr F.n z }
end Go.Proofs.YtcggkokeggfdkaaGreatDoor
namespace Go.Proofs.YtcggkokeggfdkaaGreatDoor
open Go Go.Sl
variable {w0:World} {H:qg} {l:List Int} {m i cap:Nat} {ad:Option Addr}
attribute [local irreducible] W
def mapF (F:Lf) (m:Int):Option (Xm × Bool):=if 0≤m∧m<4 then (F.ms[m.toNat]?).getD none else none
def dropX (F:Lf) (i:Nat) (x:Xm) (b:Bool) (k:Int):Lf × Int:=if (x.del k).2.2=0 then (dieF { F with ms:=F.ms.set i (some ((x.del k).1,b)) } (16*i+(x.del k).2.1.slot.toNat) (x.del k).2.1,0) else ({ F with ms:=F.ms.set i (some ((x.del k).1,b)) },(x.del k).2.2)
def Y7 (F:Lf) (m k:Int):Lf × Int:=match mapF F m with
 | none=>(F,4)
 | some (x,b)=>dropX F m.toNat x b k
def XG:Int→Nat→List Int
 | _,0=>[]
 | z,n+1=>z%256::XG (z/256) n
theorem shr8 (z:Int):z.fdiv (2 ^ (min (8:Int).toNat IntKind.i64.bits))=z/256:=by
 rw [show (2:Int) ^ (min (8:Int).toNat IntKind.i64.bits)=256 by decide,Int.fdiv_eq_ediv_of_nonneg _ (by decide)]
theorem qhd {z:Int} {n:Nat} (hn:n≤1000) :qt Tryz.prog w0 38 #[zi z,zi (n:Int)] (H) (fun v H'=>∃ XB,qQ 5 1 v n ((XG z n).map (Value.int .u8)) XB∧H'=XB++H):=by
 refine qi (l:=[zi z,zi (n:Int)]) Tryz.func38 rfl Tryz.ntmps38 rfl rfl ?_
 refine za 12 rfl ?_
 refine z0 (X:=(Nat × Int × List Int × Value × qg)) [(6,_)] (fun (x:(Nat × Int × List Int × Value × qg))=>[(0,zi x.2.1),(5,x.2.2.2.1),(7,zi (x.1:Int))]) (fun _=>_) (fun (x:(Nat × Int × List Int × Value × qg))=>x.2.2.2.2++H) (fun (x:(Nat × Int × List Int × Value × qg))=>x.1≤n∧x.2.2.1++XG x.2.1 (n-x.1)=XG z n∧qQ 5 1 x.2.2.2.1 x.1 ((x.2.2.1).map (Value.int .u8)) x.2.2.2.2) (fun (x:(Nat × Int × List Int × Value × qg))=>n-x.1) (0,z,[],.slice none 0 0,[]) ⟨Nat.zero_le _,rfl,.nil⟩ (qc rfl (qm _)) (qc rfl (qc rfl (qc rfl (qm _)))) rfl (.refl _) ?_
 rintro ⟨i,y,a,v,XO⟩ ⟨hi,ha,hO⟩
 dsimp only at hi ha hO ⊢
 simp only [List.cons_append,List.nil_append]
 refine za 4 rfl ?_
 refine qv (p:=(i:Int)<(n:Int)) rfl (by simp) (fun q0=>?_) (fun q0=>?_)
 ·skip
  refine za 6 rfl ?_
  refine QU (m:=y%256) rfl ty3 ty5 (IntKind.wrap_u8 y) rfl ?_
  refine qy (l:=[.int .u8 (y%256)]) Qx ty5 (.cons rfl rfl rfl rfl rfl .nil) rfl rfl rfl rfl rfl rfl rfl (fun b12=>?_)
  refine zy (news:=[.int .u8 (y%256)]) (m:=1) (HB:=XO) (H0:=(b12,.cells 5 1 [.int .u8 (y%256)])::H) rfl rfl Qx ty5 rfl (by decide) hO rfl (qq.own zM) rfl (by simp only [maxLen]; omega) (by omega) zH rfl (fun v' X' hO'=>?_)
  refine za 4 rfl ?_
  refine qC rfl rfl (qeY (m:=y/256) zd (shr8 y)) rfl ?_
  refine za 4 rfl ?_
  refine qC rfl rfl (qX (m:=((i+1:Nat):Int)) ((ZA zO).trans zO)) rfl ?_
  refine za 2 rfl ?_
  refine qW (i+1,y/256,a++[y%256],v',X') ⟨by show i+1≤n; omega,by show (a++[y%256])++XG (y/256) (n-(i+1))=XG z n; rw [← ha,List.append_assoc,show n-i=(n-(i+1))+1 by omega]; rfl,by show qQ 5 1 v' (i+1) ((a++[y%256]).map (Value.int .u8)) X'; rw [List.map_append]; exact hO'⟩ (by show n-(i+1)<n-i; omega) (qc rfl (qc rfl (qc rfl (qc rfl (qm _))))) rfl zH
 ·skip
  refine za 5 rfl ?_
  refine qj (H2:=XO++H) Tryz.results38 rfl (.nil _) zH ?_
  obtain rfl:i=n:=by omega
  rw [Nat.sub_self] at ha
  have ha:a=XG z i:=by rw [← ha]; exact (List.append_nil _).symm
  subst ha
  exact ⟨XO,hO,rfl⟩
def zN (w:World):Prop:=Lib.TabIs Tryz.prog w "strings.asciiSpace" .u8 Lib.asciiSpaceTab
theorem qe4 {l:List UInt8} (h:l.all (fun b=>decide (b.toNat<128))=true):∀ (j:Nat) (b:UInt8),l[j]?=some b→b.toNat<128:=fun j b hb=>by
 have:=List.all_eq_true.1 h b (List.mem_of_getElem? hb)
 simpa using this
theorem qhA {w:World} (hT:zN w0) (hs:Sat w0 H w):zN w :=
 have hlt:0<w0.heap.size:=World.block_lt_of_cell? _ _ (hT.cell (g:=0) (by kernel_rfl) 0 (by rw [Lib.asciiSpaceTab_length]; omega))
 var?_below (g:=0) hs.below zk hlt hT
def cls (op:Int):Int:=if 0≤op∧op≤12∨16≤op∧op≤27 then 1 else if 32≤op∧op≤41∨49≤op∧op≤57 then 2 else if 64≤op∧op≤67 then 3 else if op=72∨op=73 then 4 else 0
theorem ZN {m:Int} (h:-9223372036854775808≤m∧m≤9223372036854775807):IntKind.i64.wrap m=m:=IntWalk.i64_in m h
theorem qej {l:List ByteArray} {j:Nat} (h:j<l.length):(l.map Value.string)[j]?=some (.string (l.getD j ⟨#[]⟩)):=by
 simp [List.getD,h]
theorem Qs (op:Int):Qc Tryz.prog (zN) 80 [zi op] (zi (cls op)):=by
 intro w0 H hT
 refine qi Tryz.func80 rfl Tryz.ntmps80 rfl rfl (za 10 rfl ?_)
 apply zj
 iterate 4 exact rfl
 case h1 =>
  intro hg2
  refine za 4 rfl ?_
  exact qO rfl zR
 refine za 2 rfl ?_
 refine qw rfl (fun c0=>?_) (fun c0=>?_)
 ·simp only [cond_true,cond_false,Bool.and_eq_true,Bool.or_eq_true,Bool.and_eq_false_iff,Bool.or_eq_false_iff,decide_eq_true_eq,decide_eq_false_iff_not,Bool.not_eq_true',Bool.not_eq_false',ne_eq,Decidable.not_not] at c0
  refine za 5 rfl (qj Tryz.results80 rfl (.nil _) (.refl _) ?_)
  exact ⟨by unfold cls; repeat (first | rw [if_pos (by omega)] | rw [if_neg (by omega)]),rfl⟩
 ·simp only [cond_true,cond_false,Bool.and_eq_true,Bool.or_eq_true,Bool.and_eq_false_iff,Bool.or_eq_false_iff,decide_eq_true_eq,decide_eq_false_iff_not,Bool.not_eq_true',Bool.not_eq_false',ne_eq,Decidable.not_not] at c0
  refine za 4 rfl ?_
  apply zj
  iterate 4 exact rfl
  case h1 =>
   intro hg2
   refine za 4 rfl ?_
   exact qO rfl zR
  refine za 2 rfl ?_
  refine qw rfl (fun c1=>?_) (fun c1=>?_)
  ·simp only [cond_true,cond_false,Bool.and_eq_true,Bool.or_eq_true,Bool.and_eq_false_iff,Bool.or_eq_false_iff,decide_eq_true_eq,decide_eq_false_iff_not,Bool.not_eq_true',Bool.not_eq_false',ne_eq,Decidable.not_not] at c1
   refine za 3 rfl (qj Tryz.results80 rfl (.nil _) (.refl _) ?_)
   exact ⟨by unfold cls; repeat (first | rw [if_pos (by omega)] | rw [if_neg (by omega)]),rfl⟩
  ·simp only [cond_true,cond_false,Bool.and_eq_true,Bool.or_eq_true,Bool.and_eq_false_iff,Bool.or_eq_false_iff,decide_eq_true_eq,decide_eq_false_iff_not,Bool.not_eq_true',Bool.not_eq_false',ne_eq,Decidable.not_not] at c1
   refine za 5 rfl ?_
   apply zj
   iterate 4 exact rfl
   case h1 =>
    intro hg2
    refine za 4 rfl ?_
    exact qO rfl zR
   refine za 2 rfl ?_
   refine qw rfl (fun c2=>?_) (fun c2=>?_)
   ·simp only [cond_true,cond_false,Bool.and_eq_true,Bool.or_eq_true,Bool.and_eq_false_iff,Bool.or_eq_false_iff,decide_eq_true_eq,decide_eq_false_iff_not,Bool.not_eq_true',Bool.not_eq_false',ne_eq,Decidable.not_not] at c2
    refine za 5 rfl (qj Tryz.results80 rfl (.nil _) (.refl _) ?_)
    exact ⟨by unfold cls; repeat (first | rw [if_pos (by omega)] | rw [if_neg (by omega)]),rfl⟩
   ·simp only [cond_true,cond_false,Bool.and_eq_true,Bool.or_eq_true,Bool.and_eq_false_iff,Bool.or_eq_false_iff,decide_eq_true_eq,decide_eq_false_iff_not,Bool.not_eq_true',Bool.not_eq_false',ne_eq,Decidable.not_not] at c2
    refine za 4 rfl ?_
    apply zj
    iterate 4 exact rfl
    case h1 =>
     intro hg2
     refine za 4 rfl ?_
     exact qO rfl zR
    refine za 2 rfl ?_
    refine qw rfl (fun c3=>?_) (fun c3=>?_)
    ·simp only [cond_true,cond_false,Bool.and_eq_true,Bool.or_eq_true,Bool.and_eq_false_iff,Bool.or_eq_false_iff,decide_eq_true_eq,decide_eq_false_iff_not,Bool.not_eq_true',Bool.not_eq_false',ne_eq,Decidable.not_not] at c3
     refine za 3 rfl (qj Tryz.results80 rfl (.nil _) (.refl _) ?_)
     exact ⟨by unfold cls; repeat (first | rw [if_pos (by omega)] | rw [if_neg (by omega)]),rfl⟩
    ·simp only [cond_true,cond_false,Bool.and_eq_true,Bool.or_eq_true,Bool.and_eq_false_iff,Bool.or_eq_false_iff,decide_eq_true_eq,decide_eq_false_iff_not,Bool.not_eq_true',Bool.not_eq_false',ne_eq,Decidable.not_not] at c3
     refine za 4 rfl ?_
     apply zj
     iterate 4 exact rfl
     case h1 =>
      intro hg2
      refine za 4 rfl ?_
      exact qO rfl zR
     refine za 2 rfl ?_
     refine qw rfl (fun c4=>?_) (fun c4=>?_)
     ·simp only [cond_true,cond_false,Bool.and_eq_true,Bool.or_eq_true,Bool.and_eq_false_iff,Bool.or_eq_false_iff,decide_eq_true_eq,decide_eq_false_iff_not,Bool.not_eq_true',Bool.not_eq_false',ne_eq,Decidable.not_not] at c4
      refine za 3 rfl (qj Tryz.results80 rfl (.nil _) (.refl _) ?_)
      exact ⟨by unfold cls; repeat (first | rw [if_pos (by omega)] | rw [if_neg (by omega)]),rfl⟩
     ·simp only [cond_true,cond_false,Bool.and_eq_true,Bool.or_eq_true,Bool.and_eq_false_iff,Bool.or_eq_false_iff,decide_eq_true_eq,decide_eq_false_iff_not,Bool.not_eq_true',Bool.not_eq_false',ne_eq,Decidable.not_not] at c4
      refine za 4 rfl ?_
      apply YN
      iterate 4 exact rfl
      case h1 =>
       intro hg2
       refine za 4 rfl ?_
       exact qO rfl zR
      refine za 2 rfl ?_
      refine qw rfl (fun c5=>?_) (fun c5=>?_)
      ·simp only [cond_true,cond_false,Bool.and_eq_true,Bool.or_eq_true,Bool.and_eq_false_iff,Bool.or_eq_false_iff,decide_eq_true_eq,decide_eq_false_iff_not,Bool.not_eq_true',Bool.not_eq_false',ne_eq,Decidable.not_not] at c5
       refine za 3 rfl (qj Tryz.results80 rfl (.nil _) (.refl _) ?_)
       exact ⟨by unfold cls; repeat (first | rw [if_pos (by omega)] | rw [if_neg (by omega)]),rfl⟩
      ·simp only [cond_true,cond_false,Bool.and_eq_true,Bool.or_eq_true,Bool.and_eq_false_iff,Bool.or_eq_false_iff,decide_eq_true_eq,decide_eq_false_iff_not,Bool.not_eq_true',Bool.not_eq_false',ne_eq,Decidable.not_not] at c5
       refine za 5 rfl (qj Tryz.results80 rfl (.nil _) (.refl _) ?_)
       exact ⟨by unfold cls; repeat (first | rw [if_pos (by omega)] | rw [if_neg (by omega)]),rfl⟩
theorem qcn (op:Int):Qc Tryz.prog (zN) 144 [zi op] (.bool (decide (cls op=1∧16≤op∨cls op=2∧48≤op))):=by
 intro w0 H hT
 refine qi Tryz.func144 rfl Tryz.ntmps144 rfl rfl (za 5 rfl (qB (zc1 rfl) Tryz.call80 rfl hT (Qs _) (za 2 rfl ?_)))
 apply zj
 iterate 4 exact rfl
 case h1 =>
  intro hg3
  refine za 4 rfl ?_
  exact qO rfl zR
 refine qM rfl rfl ?_
 apply YN
 iterate 4 exact rfl
 case h1 =>
  intro hg7
  refine za 3 rfl (qB (zc1 rfl) Tryz.call80 rfl hT (Qs _) (za 4 rfl ?_))
  apply zj
  iterate 4 exact rfl
  case h1 =>
   intro hg11
   refine za 4 rfl ?_
   exact qO rfl zR
  exact qO rfl zR
 refine za 2 rfl (qj Tryz.results144 rfl (.nil _) (.refl _) ?_)
 exact ⟨by simp,rfl⟩
abbrev I64 (z:Int):Prop:=-9223372036854775808≤z∧z≤9223372036854775807
def Wd (z:Int):Prop:=0≤z∧z≤18446744073709551615
structure Ins where
 op:Int
 dst:Int
 src:Int
 off:Int
 imm:Int
def Ins.cells (x:Ins):List Value:=[zi x.op,zi x.dst,zi x.src,zi x.off,zi x.imm]
abbrev Ins.val (x:Ins):Value:=.agg #[.int .i64 x.op,.int .i64 x.dst,.int .i64 x.src,.int .i64 x.off,.int .i64 x.imm]
structure Ins.Ok (x:Ins):Prop where
 op:I64 x.op
 dst:I64 x.dst
 src:I64 x.src
 off:I64 x.off
 imm:I64 x.imm
structure YS where
 d:Bool
 s:Bool
 o:Bool
 i:Bool
abbrev YS.val (u:YS):Value:=.agg #[.bool u.d,.bool u.s,.bool u.o,.bool u.i]
def qbs (x:Ins):YS:=⟨decide (x.dst≠0),decide (x.src≠0),decide (x.off≠0),decide (x.imm≠0)⟩
def qgK (u v:YS):YS:=⟨u.d && v.d,u.s && v.s,u.o && v.o,u.i && v.i⟩
def XK (op:Int):Bool:=decide (cls op=1∧16≤op∨cls op=2∧48≤op)
def Zn (op:Int):YS :=
 if op=12 then ⟨true,false,false,false⟩ else if op=32 then ⟨false,false,true,false⟩ else if op=64 then ⟨true,false,true,false⟩ else if op=65 then ⟨false,true,true,false⟩
 else if op=66∨op=67 then ⟨true,true,true,false⟩ else if op=72 then ⟨false,false,false,true⟩ else if op=73 then ⟨false,false,false,false⟩ else ⟨true,XK op,decide (cls op=2),!XK op⟩
theorem qc3 (x:Ins):Qc Tryz.prog (zN) 79 [.agg #[zi x.op,zi x.dst,zi x.src,zi x.off,zi x.imm]] (YS.val (qbs x)):=by
 intro w0 H hT
 refine qi Tryz.func79 rfl Tryz.ntmps79 rfl rfl (zr ?_)
 refine qS rfl rfl rfl (fun b1=>?_)
 refine qH qU rfl rfl (fun b2=>?_)
 refine za 3 rfl (qe rfl ty3 rfl (qh.own zM rfl) rfl (za 2 rfl (qe rfl ty3 rfl (qh.own zM rfl) rfl (za 2 rfl (qe rfl ty3 rfl (qh.own zM rfl) rfl (za 2 rfl (qe rfl ty3 rfl (qh.own zM rfl) rfl ?_)))))))
 refine za 1 rfl (ql qU Z3 (.cons rfl rfl rfl rfl rfl (.cons rfl rfl rfl rfl rfl (.cons rfl rfl rfl rfl rfl (.cons rfl rfl rfl rfl rfl .nil)))) rfl zF rfl (qk rfl rfl qU rfl rfl zM (Nat.le_of_ble_eq_true rfl) zF zU (qA ?_)))
 refine zt (H2:=H) Tryz.results79 rfl (.nil _) qU rfl zM rfl (by first | exact qz | (repeat (first | exact qd.refl _ | refine qd.cons zT ?_ | refine qd.app (by repeat (first | exact qf.here _ | apply qf.next | apply qf.app)) ?_ | refine qd.drop ?_ | refine qd.dropS ?_ | exact qd.nil _))) ?_
 exact ⟨rfl,rfl⟩
theorem qe7 (u v:YS):Qc Tryz.prog (zN) 81 [YS.val u,YS.val v] (YS.val (qgK u v)):=by
 intro w0 H hT
 refine qi Tryz.func81 rfl Tryz.ntmps81 rfl rfl (zr ?_)
 refine qS rfl rfl rfl (fun b2=>?_)
 refine qS rfl rfl rfl (fun b3=>?_)
 refine qH qU rfl rfl (fun b4=>?_)
 refine za 3 rfl (qe rfl ty4 rfl (qh.own zM rfl) rfl (qM rfl rfl ?_))
 apply zj
 iterate 4 exact rfl
 case h1 =>
  intro hg2
  refine za 3 rfl (qe rfl ty4 rfl (qh.own zM rfl) rfl ?_)
  exact qO rfl zR
 refine za 1 rfl (qe rfl ty4 rfl (qh.own zM rfl) rfl (qM rfl rfl ?_))
 apply zj
 iterate 4 exact rfl
 case h1 =>
  intro hg8
  refine za 3 rfl (qe rfl ty4 rfl (qh.own zM rfl) rfl ?_)
  exact qO rfl zR
 refine za 1 rfl (qe rfl ty4 rfl (qh.own zM rfl) rfl (qM rfl rfl ?_))
 apply zj
 iterate 4 exact rfl
 case h1 =>
  intro hg14
  refine za 3 rfl (qe rfl ty4 rfl (qh.own zM rfl) rfl ?_)
  exact qO rfl zR
 refine za 1 rfl (qe rfl ty4 rfl (qh.own zM rfl) rfl (qM rfl rfl ?_))
 apply zj
 iterate 4 exact rfl
 case h1 =>
  intro hg20
  refine za 3 rfl (qe rfl ty4 rfl (qh.own zM rfl) rfl ?_)
  exact qO rfl zR
 refine ql qU Z3 (.cons rfl rfl rfl rfl rfl (.cons rfl rfl rfl rfl rfl (.cons rfl rfl rfl rfl rfl (.cons rfl rfl rfl rfl rfl .nil)))) rfl zF rfl (qk rfl rfl qU rfl rfl zM (Nat.le_of_ble_eq_true rfl) zF zU (qA ?_))
 refine zt (H2:=H) Tryz.results81 rfl (.nil _) qU rfl zM rfl (by first | exact qz | (repeat (first | exact qd.refl _ | refine qd.cons zT ?_ | refine qd.app (by repeat (first | exact qf.here _ | apply qf.next | apply qf.app)) ?_ | refine qd.drop ?_ | refine qd.dropS ?_ | exact qd.nil _))) ?_
 exact ⟨rfl,rfl⟩
theorem qcF (op:Int):Qc Tryz.prog (zN) 82 [zi op] (YS.val (Zn op)):=by
 intro w0 H hT
 refine qi Tryz.func82 rfl Tryz.ntmps82 rfl rfl (zr ?_)
 refine qH qU rfl rfl (fun b2=>?_)
 refine za 10 rfl ?_
 refine qw rfl (fun c0=>?_) (fun c0=>?_)
 ·simp only [cond_true,cond_false,Bool.and_eq_true,Bool.or_eq_true,Bool.and_eq_false_iff,Bool.or_eq_false_iff,decide_eq_true_eq,decide_eq_false_iff_not,Bool.not_eq_true',Bool.not_eq_false',ne_eq,Decidable.not_not] at c0
  refine zr (ql qU Z3 (.cons rfl rfl rfl rfl rfl .nil) rfl zF rfl (qk rfl rfl qU rfl rfl zM (Nat.le_of_ble_eq_true rfl) zF zU (qA ?_)))
  refine zt (H2:=H) Tryz.results82 rfl (.nil _) qU rfl zM rfl (by first | exact qz | (repeat (first | exact qd.refl _ | refine qd.cons zT ?_ | refine qd.app (by repeat (first | exact qf.here _ | apply qf.next | apply qf.app)) ?_ | refine qd.drop ?_ | refine qd.dropS ?_ | exact qd.nil _))) ?_
  exact ⟨by unfold Zn XK; repeat (first | rw [if_pos (by omega)] | rw [if_neg (by omega)]),rfl⟩
 ·simp only [cond_true,cond_false,Bool.and_eq_true,Bool.or_eq_true,Bool.and_eq_false_iff,Bool.or_eq_false_iff,decide_eq_true_eq,decide_eq_false_iff_not,Bool.not_eq_true',Bool.not_eq_false',ne_eq,Decidable.not_not] at c0
  refine za 4 rfl ?_
  refine qw rfl (fun c1=>?_) (fun c1=>?_)
  ·simp only [cond_true,cond_false,Bool.and_eq_true,Bool.or_eq_true,Bool.and_eq_false_iff,Bool.or_eq_false_iff,decide_eq_true_eq,decide_eq_false_iff_not,Bool.not_eq_true',Bool.not_eq_false',ne_eq,Decidable.not_not] at c1
   refine zr (ql qU Z3 (.cons rfl rfl rfl rfl rfl .nil) rfl zF rfl (qk rfl rfl qU rfl rfl zM (Nat.le_of_ble_eq_true rfl) zF zU (qA ?_)))
   refine zt (H2:=H) Tryz.results82 rfl (.nil _) qU rfl zM rfl (by first | exact qz | (repeat (first | exact qd.refl _ | refine qd.cons zT ?_ | refine qd.app (by repeat (first | exact qf.here _ | apply qf.next | apply qf.app)) ?_ | refine qd.drop ?_ | refine qd.dropS ?_ | exact qd.nil _))) ?_
   exact ⟨by unfold Zn XK; repeat (first | rw [if_pos (by omega)] | rw [if_neg (by omega)]),rfl⟩
  ·simp only [cond_true,cond_false,Bool.and_eq_true,Bool.or_eq_true,Bool.and_eq_false_iff,Bool.or_eq_false_iff,decide_eq_true_eq,decide_eq_false_iff_not,Bool.not_eq_true',Bool.not_eq_false',ne_eq,Decidable.not_not] at c1
   refine za 4 rfl ?_
   refine qw rfl (fun c2=>?_) (fun c2=>?_)
   ·simp only [cond_true,cond_false,Bool.and_eq_true,Bool.or_eq_true,Bool.and_eq_false_iff,Bool.or_eq_false_iff,decide_eq_true_eq,decide_eq_false_iff_not,Bool.not_eq_true',Bool.not_eq_false',ne_eq,Decidable.not_not] at c2
    refine zr (ql qU Z3 (.cons rfl rfl rfl rfl rfl (.cons rfl rfl rfl rfl rfl .nil)) rfl zF rfl (qk rfl rfl qU rfl rfl zM (Nat.le_of_ble_eq_true rfl) zF zU (qA ?_)))
    refine zt (H2:=H) Tryz.results82 rfl (.nil _) qU rfl zM rfl (by first | exact qz | (repeat (first | exact qd.refl _ | refine qd.cons zT ?_ | refine qd.app (by repeat (first | exact qf.here _ | apply qf.next | apply qf.app)) ?_ | refine qd.drop ?_ | refine qd.dropS ?_ | exact qd.nil _))) ?_
    exact ⟨by unfold Zn XK; repeat (first | rw [if_pos (by omega)] | rw [if_neg (by omega)]),rfl⟩
   ·simp only [cond_true,cond_false,Bool.and_eq_true,Bool.or_eq_true,Bool.and_eq_false_iff,Bool.or_eq_false_iff,decide_eq_true_eq,decide_eq_false_iff_not,Bool.not_eq_true',Bool.not_eq_false',ne_eq,Decidable.not_not] at c2
    refine za 4 rfl ?_
    refine qw rfl (fun c3=>?_) (fun c3=>?_)
    ·simp only [cond_true,cond_false,Bool.and_eq_true,Bool.or_eq_true,Bool.and_eq_false_iff,Bool.or_eq_false_iff,decide_eq_true_eq,decide_eq_false_iff_not,Bool.not_eq_true',Bool.not_eq_false',ne_eq,Decidable.not_not] at c3
     refine zr (ql qU Z3 (.cons rfl rfl rfl rfl rfl (.cons rfl rfl rfl rfl rfl .nil)) rfl zF rfl (qk rfl rfl qU rfl rfl zM (Nat.le_of_ble_eq_true rfl) zF zU (qA ?_)))
     refine zt (H2:=H) Tryz.results82 rfl (.nil _) qU rfl zM rfl (by first | exact qz | (repeat (first | exact qd.refl _ | refine qd.cons zT ?_ | refine qd.app (by repeat (first | exact qf.here _ | apply qf.next | apply qf.app)) ?_ | refine qd.drop ?_ | refine qd.dropS ?_ | exact qd.nil _))) ?_
     exact ⟨by unfold Zn XK; repeat (first | rw [if_pos (by omega)] | rw [if_neg (by omega)]),rfl⟩
    ·simp only [cond_true,cond_false,Bool.and_eq_true,Bool.or_eq_true,Bool.and_eq_false_iff,Bool.or_eq_false_iff,decide_eq_true_eq,decide_eq_false_iff_not,Bool.not_eq_true',Bool.not_eq_false',ne_eq,Decidable.not_not] at c3
     refine za 5 rfl ?_
     refine qw rfl (fun c4=>?_) (fun c4=>?_)
     ·simp only [cond_true,cond_false,Bool.and_eq_true,Bool.or_eq_true,Bool.and_eq_false_iff,Bool.or_eq_false_iff,decide_eq_true_eq,decide_eq_false_iff_not,Bool.not_eq_true',Bool.not_eq_false',ne_eq,Decidable.not_not] at c4
      refine za 3 rfl (ql qU Z3 (.cons rfl rfl rfl rfl rfl (.cons rfl rfl rfl rfl rfl (.cons rfl rfl rfl rfl rfl .nil))) rfl zF rfl (qk rfl rfl qU rfl rfl zM (Nat.le_of_ble_eq_true rfl) zF zU (qA ?_)))
      refine zt (H2:=H) Tryz.results82 rfl (.nil _) qU rfl zM rfl (by first | exact qz | (repeat (first | exact qd.refl _ | refine qd.cons zT ?_ | refine qd.app (by repeat (first | exact qf.here _ | apply qf.next | apply qf.app)) ?_ | refine qd.drop ?_ | refine qd.dropS ?_ | exact qd.nil _))) ?_
      exact ⟨by unfold Zn XK; repeat (first | rw [if_pos (by omega)] | rw [if_neg (by omega)]),rfl⟩
     ·simp only [cond_true,cond_false,Bool.and_eq_true,Bool.or_eq_true,Bool.and_eq_false_iff,Bool.or_eq_false_iff,decide_eq_true_eq,decide_eq_false_iff_not,Bool.not_eq_true',Bool.not_eq_false',ne_eq,Decidable.not_not] at c4
      refine za 4 rfl ?_
      refine qw rfl (fun c5=>?_) (fun c5=>?_)
      ·simp only [cond_true,cond_false,Bool.and_eq_true,Bool.or_eq_true,Bool.and_eq_false_iff,Bool.or_eq_false_iff,decide_eq_true_eq,decide_eq_false_iff_not,Bool.not_eq_true',Bool.not_eq_false',ne_eq,Decidable.not_not] at c5
       refine zr (ql qU Z3 (.cons rfl rfl rfl rfl rfl (.cons rfl rfl rfl rfl rfl (.cons rfl rfl rfl rfl rfl .nil))) rfl zF rfl (qk rfl rfl qU rfl rfl zM (Nat.le_of_ble_eq_true rfl) zF zU (qA ?_)))
       refine zt (H2:=H) Tryz.results82 rfl (.nil _) qU rfl zM rfl (by first | exact qz | (repeat (first | exact qd.refl _ | refine qd.cons zT ?_ | refine qd.app (by repeat (first | exact qf.here _ | apply qf.next | apply qf.app)) ?_ | refine qd.drop ?_ | refine qd.dropS ?_ | exact qd.nil _))) ?_
       exact ⟨by unfold Zn XK; repeat (first | rw [if_pos (by omega)] | rw [if_neg (by omega)]),rfl⟩
      ·simp only [cond_true,cond_false,Bool.and_eq_true,Bool.or_eq_true,Bool.and_eq_false_iff,Bool.or_eq_false_iff,decide_eq_true_eq,decide_eq_false_iff_not,Bool.not_eq_true',Bool.not_eq_false',ne_eq,Decidable.not_not] at c5
       refine za 4 rfl ?_
       refine qw rfl (fun c6=>?_) (fun c6=>?_)
       ·simp only [cond_true,cond_false,Bool.and_eq_true,Bool.or_eq_true,Bool.and_eq_false_iff,Bool.or_eq_false_iff,decide_eq_true_eq,decide_eq_false_iff_not,Bool.not_eq_true',Bool.not_eq_false',ne_eq,Decidable.not_not] at c6
        refine zr (ql qU Z3 (.cons rfl rfl rfl rfl rfl .nil) rfl zF rfl (qk rfl rfl qU rfl rfl zM (Nat.le_of_ble_eq_true rfl) zF zU (qA ?_)))
        refine zt (H2:=H) Tryz.results82 rfl (.nil _) qU rfl zM rfl (by first | exact qz | (repeat (first | exact qd.refl _ | refine qd.cons zT ?_ | refine qd.app (by repeat (first | exact qf.here _ | apply qf.next | apply qf.app)) ?_ | refine qd.drop ?_ | refine qd.dropS ?_ | exact qd.nil _))) ?_
        exact ⟨by unfold Zn XK; repeat (first | rw [if_pos (by omega)] | rw [if_neg (by omega)]),rfl⟩
       ·simp only [cond_true,cond_false,Bool.and_eq_true,Bool.or_eq_true,Bool.and_eq_false_iff,Bool.or_eq_false_iff,decide_eq_true_eq,decide_eq_false_iff_not,Bool.not_eq_true',Bool.not_eq_false',ne_eq,Decidable.not_not] at c6
        refine za 4 rfl ?_
        refine qw rfl (fun c7=>?_) (fun c7=>?_)
        ·simp only [cond_true,cond_false,Bool.and_eq_true,Bool.or_eq_true,Bool.and_eq_false_iff,Bool.or_eq_false_iff,decide_eq_true_eq,decide_eq_false_iff_not,Bool.not_eq_true',Bool.not_eq_false',ne_eq,Decidable.not_not] at c7
         refine zr (ql qU Z3 .nil rfl zF rfl (qk rfl rfl qU rfl rfl zM (Nat.le_of_ble_eq_true rfl) zF zU (qA ?_)))
         refine zt (H2:=H) Tryz.results82 rfl (.nil _) qU rfl zM rfl (by first | exact qz | (repeat (first | exact qd.refl _ | refine qd.cons zT ?_ | refine qd.app (by repeat (first | exact qf.here _ | apply qf.next | apply qf.app)) ?_ | refine qd.drop ?_ | refine qd.dropS ?_ | exact qd.nil _))) ?_
         exact ⟨by unfold Zn XK; repeat (first | rw [if_pos (by omega)] | rw [if_neg (by omega)]),rfl⟩
        ·simp only [cond_true,cond_false,Bool.and_eq_true,Bool.or_eq_true,Bool.and_eq_false_iff,Bool.or_eq_false_iff,decide_eq_true_eq,decide_eq_false_iff_not,Bool.not_eq_true',Bool.not_eq_false',ne_eq,Decidable.not_not] at c7
         refine za 4 rfl (qB (zc1 rfl) Tryz.call144 rfl hT (qcn _) (qM rfl rfl (qB (zc1 rfl) Tryz.call80 rfl hT (Qs _) (za 2 rfl (qB (zc1 rfl) Tryz.call144 rfl hT (qcn _) (W_not rfl rfl (ql qU Z3 (.cons rfl rfl rfl rfl rfl (.cons rfl rfl rfl rfl rfl (.cons rfl rfl rfl rfl rfl (.cons rfl rfl rfl rfl rfl .nil)))) rfl zF rfl ?_)))))))
         refine qk rfl rfl qU rfl rfl zM (Nat.le_of_ble_eq_true rfl) zF zU (qA ?_)
         refine zt (H2:=H) Tryz.results82 rfl (.nil _) qU rfl zM rfl (by first | exact qz | (repeat (first | exact qd.refl _ | refine qd.cons zT ?_ | refine qd.app (by repeat (first | exact qf.here _ | apply qf.next | apply qf.app)) ?_ | refine qd.drop ?_ | refine qd.dropS ?_ | exact qd.nil _))) ?_
         exact ⟨by unfold Zn XK; repeat (first | rw [if_pos (by omega)] | rw [if_neg (by omega)]),rfl⟩
theorem J6 (n low high:Int):Qc Tryz.prog (zN) 78 [zi n,zi low,zi high] (.bool (decide (n<low) || decide (high≤n))):=by
 intro w0 H hT
 refine qi Tryz.func78 rfl Tryz.ntmps78 rfl rfl (za 8 rfl ?_)
 apply YN
 iterate 4 exact rfl
 case h1 =>
  intro hg3
  refine za 6 rfl ?_
  exact qO rfl zR
 refine za 2 rfl (qj Tryz.results78 rfl (.nil _) (.refl _) ?_)
 exact ⟨rfl,rfl⟩
def Z5 (n low high:Int):Bool:=decide (n<low) || decide (high≤n)
def eqU (u v:YS):Bool:=(u.d == v.d) && ((u.s == v.s) && ((u.o == v.o) && ((u.i == v.i) && true)))
def zh (x:Ins):Int :=
 if cls x.op=0 then 11 else if (Z5 x.dst 0 10 || Z5 x.src 0 10 || Z5 x.off (-32768) 32768 || Z5 x.imm (-2147483648) 2147483648)=true then 2
 else if (!(eqU (qbs x) (qgK (qbs x) (Zn x.op))))=true then 9 else 0
theorem Z8 (x:Ins):Qc Tryz.prog (zN) 37 [.agg #[zi x.op,zi x.dst,zi x.src,zi x.off,zi x.imm]] (zi (zh x)):=by
 intro w0 H hT
 refine qi Tryz.func37 rfl Tryz.ntmps37 rfl rfl (zr ?_)
 refine qS rfl rfl rfl (fun b1=>?_)
 refine za 7 rfl (q8 rfl zo rfl zM rfl zF rfl (qB (zc1 rfl) Tryz.call79 rfl hT (qc3 _) ?_))
 refine qH qU rfl rfl (fun b4=>?_)
 refine qk rfl rfl qU rfl rfl zM (Nat.le_of_ble_eq_true rfl) zF zU (za 4 rfl (qe rfl ty3 rfl (qh.own zM rfl) rfl (qB (zc1 rfl) Tryz.call80 rfl hT (Qs _) (za 3 rfl ?_))))
 refine qv (p:=cls x.op=0) rfl (by simp) (fun c0=>?_) (fun c0=>?_)
 ·skip
  refine za 3 rfl ?_
  refine qj (H2:=H) Tryz.results37 rfl (.nil _) zH ?_
  exact ⟨by unfold zh; rw [if_pos c0],rfl⟩
 ·skip
  refine za 3 rfl (qe rfl ty3 rfl (qh.own zM rfl) rfl ?_)
  refine Yu (fa:=[]) (ca:=[]) rfl (.cons rfl (.cons rfl (.cons rfl .nil))) rfl Tryz.call78 rfl hT (J6 _ _ _) ?_
  refine qM rfl rfl ?_
  apply YN
  iterate 4 exact rfl
  case h1 =>
   intro hg4
   refine za 5 rfl (qe rfl ty3 rfl (qh.own zM rfl) rfl (qr rfl rfl ?_))
   refine Yu (fa:=[]) (ca:=[]) rfl (.cons rfl (.cons rfl (.cons rfl .nil))) rfl Tryz.call78 rfl hT (J6 _ _ _) ?_
   exact qO rfl zR
  refine qM rfl rfl ?_
  apply YN
  iterate 4 exact rfl
  case h1 =>
   intro hg10
   refine za 5 rfl (qe rfl ty3 rfl (qh.own zM rfl) rfl (qr rfl rfl ?_))
   refine Yu (fa:=[]) (ca:=[]) rfl (.cons rfl (.cons rfl (.cons rfl .nil))) rfl Tryz.call78 rfl hT (J6 _ _ _) ?_
   exact qO rfl zR
  refine qM rfl rfl ?_
  apply YN
  iterate 4 exact rfl
  case h1 =>
   intro hg16
   refine za 5 rfl (qe rfl ty3 rfl (qh.own zM rfl) rfl (qr rfl rfl ?_))
   refine Yu (fa:=[]) (ca:=[]) rfl (.cons rfl (.cons rfl (.cons rfl .nil))) rfl Tryz.call78 rfl hT (J6 _ _ _) ?_
   exact qO rfl zR
  refine za 2 rfl ?_
  refine qw rfl (fun c1=>?_) (fun c1=>?_)
  ·skip
   refine za 3 rfl ?_
   refine qj (H2:=H) Tryz.results37 rfl (.nil _) zH ?_
   have c1:(Z5 x.dst 0 10 || Z5 x.src 0 10 || Z5 x.off (-32768) 32768 || Z5 x.imm (-2147483648) 2147483648)=true:=c1
   exact ⟨by unfold zh; rw [if_neg c0,if_pos c1],rfl⟩
  ·skip
   refine z9 zk zK (qE (Jm rfl qU rfl zM rfl zF) rfl (qE (Jm rfl qU rfl zM rfl zF) rfl (zq 1 rfl (qE (qZ rfl ty3 rfl (qh.own zM rfl)) rfl (Yw (zc1 rfl) Tryz.call82 rfl hT (qcF _) (Yw (zc2 rfl rfl) Tryz.call81 rfl hT (qe7 _ _) (qE (X_neA rfl rfl qU zk zk (.cons zd ty4 rfl rfl rfl (Jb ty4) (.cons zd ty4 rfl rfl rfl (Jb ty4) (.cons zd ty4 rfl rfl rfl (Jb ty4) (.cons zd ty4 rfl rfl rfl (Jb ty4) .nil))))) rfl ?_)))))))
   refine zq 1 rfl (ZI ?_)
   refine qw rfl (fun c2=>?_) (fun c2=>?_)
   ·skip
    refine za 3 rfl ?_
    refine qj (H2:=H) Tryz.results37 rfl (.nil _) zH ?_
    have c1:(Z5 x.dst 0 10 || Z5 x.src 0 10 || Z5 x.off (-32768) 32768 || Z5 x.imm (-2147483648) 2147483648)=false:=c1
    have c2:(!(eqU (qbs x) (qgK (qbs x) (Zn x.op))))=true:=c2
    exact ⟨by unfold zh; rw [if_neg c0,if_neg (by rw [c1]; simp),if_pos c2],rfl⟩
   ·skip
    refine za 5 rfl ?_
    refine qj (H2:=H) Tryz.results37 rfl (.nil _) zH ?_
    have c1:(Z5 x.dst 0 10 || Z5 x.src 0 10 || Z5 x.off (-32768) 32768 || Z5 x.imm (-2147483648) 2147483648)=false:=c1
    have c2:(!(eqU (qbs x) (qgK (qbs x) (Zn x.op))))=false:=c2
    exact ⟨by unfold zh; rw [if_neg c0,if_neg (by rw [c1]; simp),if_neg (by rw [c2]; simp)],rfl⟩
theorem qbV {m:Int} (h:0≤m∧m≤18446744073709551615):IntKind.u64.wrap m=m:=IntWalk.u64_in m h
theorem X4 (op:BinOp) (x y:Nat) (z:Nat) (hz:z<2 ^ 64) (h:(match op with
    | Go.BinOp.and=>BitVec.ofNat 64 x &&& BitVec.ofNat 64 y
    | Go.BinOp.or=>BitVec.ofNat 64 x ||| BitVec.ofNat 64 y
    | Go.BinOp.xor=>BitVec.ofNat 64 x ^^^ BitVec.ofNat 64 y
    | _=>BitVec.ofNat 64 x &&& ~~~(BitVec.ofNat 64 y)).toNat=z):bitsOf op .u64 x y=(z:Int):=by
 have e:bitsOf op .u64 x y=IntKind.u64.wrap (z:Int):=by
  unfold bitsOf
  rw [show IntKind.u64.bits=64 from rfl]
  rw [BitVec.ofInt_natCast,BitVec.ofInt_natCast]
  exact congrArg (fun n:Nat=>IntKind.u64.wrap (n:Int)) h
 rw [e]
 exact qbV ⟨by omega,by omega⟩
theorem iw (m:Int):IntKind.i64.wrap m=(m+9223372036854775808)%18446744073709551616-9223372036854775808:=by
 simp [IntKind.wrap,IntKind.signed,IntKind.bits]
 have:=Int.emod_lt_of_pos m (show (0:Int)<18446744073709551616 by decide)
 have:=Int.emod_nonneg m (show (18446744073709551616:Int)≠0 by decide)
 omega
def zJ (i:Int):Nat:=if 0≤i∧i<64 then 2 ^ i.toNat else 0
def ZB (i:Int):Bool:=decide (0≤i) && decide (i<64)
theorem qbe (h:i<64):2 ^ i≤9223372036854775808:=by
 have:2 ^ i≤2 ^ 63:=Nat.pow_le_pow_right zO zO
 simpa using this
theorem qdE {i:Int} (hi:0≤i∧i<64):IntKind.u64.wrap (1*2 ^ (min i.toNat IntKind.u64.bits))=((2 ^ i.toNat:Nat):Int):=by
 have h:=qbe (i:=i.toNat) zO
 have e:min i.toNat IntKind.u64.bits=i.toNat:=by
  have:IntKind.u64.bits=64:=rfl
  omega
 have e2:(2:Int) ^ i.toNat=((2 ^ i.toNat:Nat):Int):=(Int.natCast_pow 2 _).symm
 rw [Int.one_mul,e,e2]
 generalize 2 ^ i.toNat=k at *
 exact qbV ⟨by omega,by omega⟩
theorem Yq (i:Int):zJ i<18446744073709551616:=by
 unfold zJ; split
 ·have:=qbe (i:=i.toNat) zO; omega
 ·omega
def Qu (m:Nat):Prop:=m<18446744073709551616
def XR (m:Nat) (i:Int):Bool:=ZB i && m.testBit i.toNat
theorem qbG (m k:Nat):(m &&& 2 ^ k≠0)↔m.testBit k=true:=by
 constructor
 ·intro h
  obtain ⟨i,hi⟩:=Nat.exists_testBit_of_ne_zero h
  rw [Nat.testBit_and,Nat.testBit_two_pow] at hi
  simp at hi
  rw [hi.2]; exact hi.1
 ·intro h e
  have:(m &&& 2 ^ k).testBit k=true:=by rw [Nat.testBit_and,Nat.testBit_two_pow,h]; simp
  rw [e] at this
  simp at this
theorem qgJ (hm:Qu m) (i:Int):decide (bitsOf .and .u64 (m:Int) (zJ i:Int)≠0)=XR m i:=by
 have e:bitsOf .and .u64 (m:Int) (zJ i:Int)=((m &&& zJ i:Nat):Int):=by
  refine X4 .and m (zJ i) _ (Nat.lt_of_le_of_lt Nat.and_le_left hm) ?_
  simp only [BitVec.toNat_and,BitVec.toNat_ofNat]
  rw [Nat.mod_eq_of_lt (show m<2 ^ 64 from hm),Nat.mod_eq_of_lt (show zJ i<2 ^ 64 from Yq i)]
 rw [e]
 unfold XR ZB zJ
 by_cases h:0≤i∧i<64
 ·rw [if_pos h,decide_eq_true h.1,decide_eq_true h.2]
  have h2:=qbG m i.toNat
  cases hb:m.testBit i.toNat
  ·rw [hb] at h2; simp at h2; simp [h2]
  ·rw [hb] at h2; simp at h2; simp; omega
 ·rw [if_neg h]
  have:(decide (0≤i) && decide (i<64))=false:=by simpa using h
  rw [this]
  simp
theorem qfQ (hm:Qu m) (i:Int):bitsOf .or .u64 (m:Int) (zJ i:Int)=((m ||| zJ i:Nat):Int):=by
 refine X4 .or m (zJ i) _ (Nat.or_lt_two_pow (n:=64) hm (Yq i)) ?_
 simp only [BitVec.toNat_or,BitVec.toNat_ofNat]
 rw [Nat.mod_eq_of_lt (show m<2 ^ 64 from hm),Nat.mod_eq_of_lt (show zJ i<2 ^ 64 from Yq i)]
theorem qha (hm:Qu m) (i:Int):Qu (m ||| zJ i):=Nat.or_lt_two_pow (n:=64) hm (Yq i)
def Xo (m:Nat) (l:List Int):Nat:=l.foldl (fun m i=>m ||| zJ i) m
theorem Kj:∀ (l:List Int) {m:Nat},Qu m→Qu (Xo m l)
 | [],_,h=>h
 | i::l,_,h=>Kj l (qha h i)
def Y6 (n:Int):Nat:=if n<1 then 0 else if 64≤n then 18446744073709551615 else 2 ^ n.toNat-1
def Jp (l:List Int):List Value:=l.map fun x=>zi x
theorem Xj {x:Int} (h:l[i]?=some x):(Jp l)[i]?=some (zi x):=by simp [Jp,h]
theorem Q2 {α:Type} {l:List α} {x:α} (h:l[i]?=some x):l.take (i+1)=l.take i++[x]:=by
 rw [List.take_add_one,h]; rfl
theorem qc5 {β:Type} {f:β→Int→β} {b:β} {x:Int} (h:l[i]?=some x):(l.take (i+1)).foldl f b=f ((l.take i).foldl f b) x:=by
 rw [Q2 h,List.foldl_append]; rfl
theorem qbt (i:Int):Qc Tryz.prog (zN) 147 [zi i] (.bool (ZB i)):=by
 intro w0 H hT
 refine qi Tryz.func147 rfl Tryz.ntmps147 rfl rfl (za 7 rfl ?_)
 apply zj
 iterate 4 exact rfl
 case h1 =>
  intro hg2
  refine za 4 rfl ?_
  exact qO rfl zR
 refine za 2 rfl (qj Tryz.results147 rfl (.nil _) (.refl _) ?_)
 exact ⟨rfl,rfl⟩
theorem YL (i:Int):Qc Tryz.prog (zN) 85 [zi i] (zu (zJ i:Nat)):=by
 intro w0 H hT
 refine qi Tryz.func85 rfl Tryz.ntmps85 rfl rfl (za 6 rfl (qB (zc1 rfl) Tryz.call147 rfl hT (qbt _) (za 2 rfl ?_)))
 refine qw rfl (fun c0=>?_) (fun c0=>?_)
 ·skip
  refine za 3 rfl (qj Tryz.results85 rfl (.nil _) (.refl _) ?_)
  exact ⟨by unfold zJ; rw [if_neg (by intro h; have:ZB i=true:=(by unfold ZB; simp [h.1,h.2]); simp [this] at c0)]; rfl,rfl⟩
 ·skip
  refine za 3 rfl ?_
  have hi:0≤i∧i<64:=by
   have:ZB i=true:=by cases h:ZB i <;> simp_all
   unfold ZB at this
   simpa using this
  refine QU rfl ty3 ty88 (qbV zO) rfl (qC rfl rfl (X6 zO (qdE hi)) rfl (za 2 rfl (qj Tryz.results85 rfl (.nil _) (.refl _) ?_)))
  exact ⟨by unfold zJ; rw [if_pos hi],rfl⟩
theorem qbu (n:Int):Qc Tryz.prog (zN) 86 [zi n] (zu (Y6 n:Nat)):=by
 intro w0 H hT
 refine qi Tryz.func86 rfl Tryz.ntmps86 rfl rfl (za 10 rfl ?_)
 refine qv (p:=n<1) rfl (by simp) (fun c0=>?_) (fun c0=>?_)
 ·skip
  refine za 3 rfl (qj Tryz.results86 rfl (.nil _) (.refl _) ?_)
  exact ⟨by unfold Y6; rw [if_pos c0]; rfl,rfl⟩
 ·skip
  refine za 5 rfl ?_
  refine qv (p:=64≤n) rfl (by simp) (fun c1=>?_) (fun c1=>?_)
  ·skip
   refine za 3 rfl (qj Tryz.results86 rfl (.nil _) (.refl _) ?_)
   exact ⟨by unfold Y6; rw [if_neg c0,if_pos c1]; rfl,rfl⟩
  ·skip
   refine za 4 rfl (qB (zc1 rfl) Tryz.call85 rfl hT (YL _) ?_)
   refine qC rfl rfl (Jx (m:=((2 ^ n.toNat-1:Nat):Int)) (by unfold zJ; rw [if_pos (by omega)]; have:=Nat.two_pow_pos n.toNat; have:=qbe (i:=n.toNat) (by omega); rw [qbV (by omega)]; omega)) rfl ?_
   refine za 2 rfl (qj Tryz.results86 rfl (.nil _) (.refl _) ?_)
   exact ⟨by unfold Y6; rw [if_neg c0,if_neg c1],rfl⟩
theorem qhi (m:Nat) (i:Int) (hm:Qu m):Qc Tryz.prog (zN) 43 [zu (m:Int),zi i] (.bool (XR m i)):=by
 intro w0 H hT
 refine qi Tryz.func43 rfl Tryz.ntmps43 rfl rfl (za 6 rfl (qB (zc1 rfl) Tryz.call85 rfl hT (YL _) (qC rfl rfl (qe3 rfl) rfl (za 3 rfl (qj Tryz.results43 rfl (.nil _) (.refl _) ?_)))))
 exact ⟨by rw [← qgJ hm i],rfl⟩
theorem qfo (m:Nat) (l:List Int) (hm:Qu m) (hn:l.length≤4611686018427387904) (hrow:qq w0 H ad (Jp l)) (hT:zN w0):qR Tryz.prog w0 H 88 [zu (m:Int),.slice ad l.length cap] (zu ((Xo m l:Nat):Int)):=by
 refine qi Tryz.func88 rfl Tryz.ntmps88 rfl rfl (za 6 rfl (zb rfl Qq rfl rfl (za 3 rfl ?_)))
 refine ZH (X:=Nat) (fun i=>[(0,zu ((Xo m (l.take i):Nat):Int)),(7,.slice ad l.length cap),(8,zi (l.length:Int)),(9,zi (i:Int))]) (fun _=>[]) (fun _=>H) (fun i=>i≤l.length) (fun i=>l.length-i) 0 zO (qc rfl (qc rfl (qc rfl (qc rfl (qm _))))) rfl (by first | exact qz | (repeat (first | exact qd.refl _ | refine qd.cons zT ?_ | refine qd.app (by repeat (first | exact qf.here _ | apply qf.next | apply qf.app)) ?_ | refine qd.drop ?_ | refine qd.dropS ?_ | exact qd.nil _))) ?_
 intro i hi
 have hok:=Kj (l.take i) hm
 refine za 4 rfl ?_
 refine qv (p:=(i:Int)<(l.length:Int)) rfl (by simp) (fun c0=>?_) (fun c0=>?_)
 ·skip
  refine za 4 rfl ?_
  obtain ⟨x,hx⟩:∃ x,l[i]?=some x:=⟨_,List.getElem?_eq_getElem zO⟩
  obtain ⟨b,o,rfl,hc⟩:=hrow i _ (Xj hx)
  refine qN (j:=i) rfl rfl Qq ty3 rfl zO rfl rfl ?_
  refine qe rfl ty3 rfl (by rw [Nat.mul_one]; exact hc) rfl ?_
  refine za 5 rfl (qB (zc1 rfl) Tryz.call85 rfl hT (YL _) (qC rfl rfl (qbE rfl) rfl (za 4 rfl ?_)))
  refine qC rfl rfl (qX (m:=((i+1:Nat):Int)) ((ZN zO).trans zO)) rfl ?_
  refine za 2 rfl ?_
  refine qW (i+1) (by omega) (by omega) (qc (by rw [show Xo m (l.take (i+1))=Xo m (l.take i) ||| zJ x from qc5 hx]; exact congrArg (fun z=>some (Value.int .u64 z)) (qfQ hok x)) (qc rfl (qc rfl (qc rfl (qm _))))) rfl (by first | exact qz | (repeat (first | exact qd.refl _ | refine qd.cons zT ?_ | refine qd.app (by repeat (first | exact qf.here _ | apply qf.next | apply qf.app)) ?_ | refine qd.drop ?_ | refine qd.dropS ?_ | exact qd.nil _)))
 ·skip
  refine za 5 rfl ?_
  refine qj (H2:=H) Tryz.results88 rfl (.nil _) (by first | exact qz | (repeat (first | exact qd.refl _ | refine qd.cons zT ?_ | refine qd.app (by repeat (first | exact qf.here _ | apply qf.next | apply qf.app)) ?_ | refine qd.drop ?_ | refine qd.dropS ?_ | exact qd.nil _))) ?_
  obtain rfl:i=l.length:=by omega
  exact ⟨by rw [List.take_length],rfl⟩
theorem YV (x:Ins) (at_:Int):Qc Tryz.prog (zN) 146 [.agg #[zi x.op,zi x.dst,zi x.src,zi x.off,zi x.imm],zi at_] (zi (IntKind.i64.wrap (IntKind.i64.wrap (at_+1)+x.off))):=by
 intro w0 H hT
 refine qi Tryz.func146 rfl Tryz.ntmps146 rfl rfl (zr ?_)
 refine qS rfl rfl rfl (fun b2=>?_)
 refine za 4 rfl (qC rfl rfl (qX rfl) rfl (za 1 rfl (qe rfl ty3 rfl (qh.own zM rfl) rfl (qC rfl rfl (qX rfl) rfl (za 2 rfl ?_)))))
 refine qj (H2:=H) Tryz.results146 rfl (.nil _) (by first | exact qz | (repeat (first | exact qd.refl _ | refine qd.cons zT ?_ | refine qd.app (by repeat (first | exact qf.here _ | apply qf.next | apply qf.app)) ?_ | refine qd.drop ?_ | refine qd.dropS ?_ | exact qd.nil _))) ?_
 exact ⟨rfl,rfl⟩
theorem qfs (x:Ins):Qc Tryz.prog (zN) 36 [.agg #[zi x.op,zi x.dst,zi x.src,zi x.off,zi x.imm]] (.agg #[zi x.op,zi x.dst,zi x.src,zi x.off,zi x.imm]):=by
 intro w0 H hT
 refine qi Tryz.func36 rfl Tryz.ntmps36 rfl rfl (zr ?_)
 refine qS rfl rfl rfl (fun b1=>?_)
 refine qH zo rfl rfl (fun b2=>?_)
 refine za 3 rfl (qe rfl ty3 rfl (qh.own zM rfl) rfl (za 1 rfl (qe rfl ty3 rfl (qh.own zM rfl) rfl (za 1 rfl (qe rfl ty3 rfl (qh.own zM rfl) rfl (za 1 rfl (qe rfl ty3 rfl (qh.own zM rfl) rfl ?_)))))))
 refine za 1 rfl (qe rfl ty3 rfl (qh.own zM rfl) rfl (ql zo pl45 (.cons rfl rfl rfl rfl rfl (.cons rfl rfl rfl rfl rfl (.cons rfl rfl rfl rfl rfl (.cons rfl rfl rfl rfl rfl (.cons rfl rfl rfl rfl rfl .nil))))) rfl zF rfl (qk rfl rfl zo rfl rfl zM (Nat.le_of_ble_eq_true rfl) zF zU (qA ?_))))
 refine zt (H2:=H) Tryz.results36 rfl (.nil _) zo rfl zM rfl (by first | exact qz | (repeat (first | exact qd.refl _ | refine qd.cons zT ?_ | refine qd.app (by repeat (first | exact qf.here _ | apply qf.next | apply qf.app)) ?_ | refine qd.drop ?_ | refine qd.dropS ?_ | exact qd.nil _))) ?_
 exact ⟨rfl,rfl⟩
def qch:List ByteArray:=[⟨#[110,111,119]⟩,⟨#[99,112,117]⟩,⟨#[102,105,110,100]⟩,⟨#[112,117,116]⟩,⟨#[100,114,111,112]⟩,⟨#[105,110,105,116]⟩,⟨#[99,97,108,108,98,97,99,107]⟩,⟨#[115,116,97,114,116]⟩,⟨#[99,97,110,99,101,108]⟩,⟨#[115,116,111,112]⟩,⟨#[119,111,114,107]⟩,⟨#[113,117,101,117,101]⟩,⟨#[99,111,112,121,105,110]⟩,⟨#[99,111,112,121,111,117,116]⟩,⟨#[101,109,105,116]⟩,⟨#[112,97,117,115,101]⟩]
def qcg:ByteArray:=⟨#[110,111,119,32,99,112,117,32,102,105,110,100,32,112,117,116,32,100,114,111,112,32,105,110,105,116,32,99,97,108,108,98,97,99,107,32,115,116,97,114,116,32,99,97,110,99,101,108,32,115,116,111,112,32,119,111,114,107,32,113,117,101,117,101,32,99,111,112,121,105,110,32,99,111,112,121,111,117,116,32,101,109,105,116,32,112,97,117,115,101]⟩
def qaw:List Int:=[0,0,2,4,2,1,2,4,1,1,2,1,3,3,1,0]
def helpS:ByteArray:=⟨#[48,48,50,52,50,49,50,52,49,49,50,49,51,51,49,48]⟩
theorem qaB (hT:zN w0):qt Tryz.prog w0 145 #[.string qcg] H (fun v H'=>∃ b,v=.slice (some ⟨b,0,none⟩) 16 16∧H'=(b,.cells 9 16 (qch.map Value.string))::H):=by
 have hf:Lib.fields qcg.data.toList=[[110,111,119],[99,112,117],[102,105,110,100],[112,117,116],[100,114,111,112],[105,110,105,116],[99,97,108,108,98,97,99,107],[115,116,97,114,116],[99,97,110,99,101,108],[115,116,111,112],[119,111,114,107],[113,117,101,117,101],[99,111,112,121,105,110],[99,111,112,121,111,117,116],[101,109,105,116],[112,97,117,115,101]]:=by decide
 have h:∀ w,zN w→Calls Tryz.prog 145 #[.string qcg] w fun en w'=>en=.returned (.slice (some ⟨w.heap.size,0,none⟩) 16 16)∧w'=w.alloc (.cells (qch.map Value.string).toArray 9):=fun w ht=>by
  have:=Tryz.strings_Fields qcg w zd (qe4 zd) ht
  rw [hf] at this
  exact this
 refine (qbQ (g:=fun a=>.slice (some a) 16 16) h (fun w hs=>qhA hT hs)).mono ?_
 rintro v H' ⟨b,rfl,rfl⟩
 exact ⟨b,rfl,rfl⟩
theorem qgH:∀ k:Fin 16,∃ r,helpS[k.val]?=some r∧IntKind.u8.wrap ((r.toNat:Int)-48)=qaw.getD k.val 0:=by decide +kernel
theorem qgG:∀ k:Fin 16,IntKind.i64.wrap (qaw.getD k.val 0)=qaw.getD k.val 0:=by decide +kernel
def Q9 (id:Int):Bool:=decide (1≤id) && decide (id≤16)
def qav (id:Int):ByteArray:=if Q9 id=true then qch.getD (id-1).toNat ⟨#[]⟩ else ⟨#[]⟩
def qax (id:Int):Int:=if Q9 id=true then qaw.getD (id-1).toNat 0 else 0
theorem qeg {k:Nat} (h:k<16):Q9 ((k:Int)+1)=true∧qav ((k:Int)+1)=qch.getD k ⟨#[]⟩∧qax ((k:Int)+1)=qaw.getD k 0:=by
 have hb:Q9 ((k:Int)+1)=true:=by unfold Q9; simp; omega
 refine ⟨hb,?_,?_⟩
 ·unfold qav; rw [if_pos hb]; congr 1; omega
 ·unfold qax; rw [if_pos hb]; congr 1; omega
theorem qc2 {id:Int} (h:id<1∨16<id):Q9 id=false∧qav id=⟨#[]⟩∧qax id=0:=by
 have hb:Q9 id=false:=by unfold Q9; simp; omega
 exact ⟨hb,by unfold qav; rw [hb]; rfl,by unfold qax; rw [hb]; rfl⟩
theorem qau (id:Int) (hid:I64 id):Qc Tryz.prog (zN) 83 [zi id] (.tuple #[.string (qav id),zi (qax id),.bool (Q9 id)]):=by
 intro w0 H hT
 refine qi Tryz.func83 rfl Tryz.ntmps83 rfl rfl (za 10 rfl ?_)
 apply YN
 iterate 4 exact rfl
 case h1 =>
  intro hg2
  refine za 4 rfl ?_
  exact qO rfl zR
 refine qA ?_
 refine qv (p:=id<1∨16<id) rfl (by simp) (fun c0=>?_) (fun c0=>?_)
 ·skip
  refine za 5 rfl ?_
  refine KX (H2:=H) Tryz.results83 rfl rfl rfl (.nil _) (by first | exact qz | (repeat (first | exact qd.refl _ | refine qd.cons zT ?_ | refine qd.app (by repeat (first | exact qf.here _ | apply qf.next | apply qf.app)) ?_ | refine qd.drop ?_ | refine qd.dropS ?_ | exact qd.nil _))) ?_
  obtain ⟨e1,e2,e3⟩:=qc2 c0
  exact ⟨by rw [e1,e2,e3],rfl⟩
 ·skip
  refine za 2 rfl ?_
  refine W_any zk ?_
  obtain ⟨k,rfl,hk⟩:∃ k:Nat,id=(k:Int)+1∧k<16:=⟨(id-1).toNat,by omega,by omega⟩
  obtain ⟨r,hr,hrv⟩:=qgH ⟨k,hk⟩
  refine ZJ 1 rfl zK zK zK (fun _ h=>by cases h) (fun _ h=>by cases h) rfl (Jg rfl) rfl ?_
  refine ZJ 2 rfl zK zK zK (fun _ h=>by cases h) (fun _ h=>by cases h) rfl (Qo rfl rfl (Jx (m:=(k:Int)) ((ZN zO).trans zO))) rfl ?_
  refine ZJ 5 rfl zK zK zK (fun _ h=>by cases h) (fun _ h=>by cases h) rfl (Jg rfl) rfl ?_
  refine ZJ 6 rfl zK zK zK (fun _ h=>by cases h) (fun _ h=>by cases h) rfl (Qo rfl rfl (Jx (m:=(k:Int)) ((ZN zO).trans zO))) rfl ?_
  refine ZJ 7 rfl zK zK zK (fun _ h=>by cases h) (fun _ h=>by cases h) rfl (qfa (j:=k) rfl rfl ty9 rfl hr rfl) rfl ?_
  refine ZJ 8 rfl zK zK zK (fun _ h=>by cases h) (fun _ h=>by cases h) rfl (Qo rfl rfl (Jx hrv)) rfl ?_
  refine ZJ 9 rfl zK zK zK (fun _ h=>by cases h) (fun _ h=>by cases h) rfl (Qn rfl ty5 ty3 (qgG ⟨k,hk⟩)) rfl ?_
  refine YR 0 zK rfl rfl (fun _ h=>by cases h) ?_
  refine qu (zc1 rfl) Tryz.call145 rfl (qaB hT) ?_
  rintro v H' ⟨bn,rfl,rfl⟩
  refine qA ?_
  refine Jn ?_
  refine YR 3 zK rfl rfl (fun _ h=>by cases h) ?_
  refine qN (j:=k) rfl rfl ty78 ty9 rfl hk rfl rfl ?_
  refine qA ?_
  refine Jn ?_
  refine YR 4 zK rfl rfl (fun _ h=>by cases h) ?_
  refine qe rfl ty9 rfl (qh.own zM (by rw [Nat.zero_add,Nat.mul_one]; exact qej (by show k<16; omega))) rfl ?_
  refine qA ?_
  refine Jn ?_
  refine YR 10 zK rfl rfl (fun _ h=>by cases h) ?_
  refine za 2 rfl ?_
  refine Jn ?_
  refine YR 11 zK rfl rfl (fun _ h=>by cases h) ?_
  refine za 2 rfl ?_
  refine Jn ?_
  refine YR 12 zK rfl rfl (fun _ h=>by cases h) ?_
  refine za 2 rfl ?_
  refine Jn ?_
  refine qgX zK ?_
  refine KX (H2:=H) Tryz.results83 rfl rfl rfl (.nil _) (by first | exact qz | (repeat (first | exact qd.refl _ | refine qd.cons zT ?_ | refine qd.app (by repeat (first | exact qf.here _ | apply qf.next | apply qf.app)) ?_ | refine qd.drop ?_ | refine qd.dropS ?_ | exact qd.nil _))) ?_
  obtain ⟨e1,e2,e3⟩:=qeg hk
  exact ⟨by rw [e1,e2,e3],rfl⟩
theorem cells_len (x:Ins):x.cells.length=5:=rfl
abbrev qI (l:List Ins):List Value:=l.flatMap Ins.cells
theorem Jv (l:List Ins) (x:Ins):qI (l++[x])=qI l++x.cells:=by simp [qI]
theorem qeQ (l:List Ins) (most:Int) (hm:most≤1000) (hrow:qq w0 H ad (qI l)) (hT:zN w0):qt Tryz.prog w0 7 #[.slice ad l.length cap,zi most] (H) (fun v H'=>∃ HB,qQ 45 5 v (l.take most.toNat).length (qI (l.take most.toNat)) HB∧H'=HB++H):=by
 refine qi (l:=[.slice ad l.length cap,zi most]) Tryz.func7 rfl Tryz.ntmps7 rfl rfl ?_
 refine za 11 rfl ?_
 refine ZH (X:=Nat × Value × qg) (fun | (i,v,_)=>[(0,.slice ad l.length cap),(1,zi most),(5,v),(6,zi (i:Int))]) (fun _=>[]) (fun | (_,_,HB)=>HB++H) (fun | (i,v,HB)=>i≤l.length∧(i:Int)≤max most 0∧qQ 45 5 v i (qI (l.take i)) HB) (fun | (i,_,_)=>l.length-i) (0,.slice none 0 0,[]) ⟨by omega,by omega,.nil⟩ (qc rfl (qc rfl (qc rfl (qc rfl (qm _))))) rfl (by first | exact qz | (repeat (first | exact qd.refl _ | refine qd.cons zT ?_ | refine qd.app (by repeat (first | exact qf.here _ | apply qf.next | apply qf.app)) ?_ | refine qd.drop ?_ | refine qd.dropS ?_ | exact qd.nil _))) ?_
 rintro ⟨i,v,HB⟩ ⟨hi,him,hO⟩
 simp only
 refine za 4 rfl (zb rfl ty22 rfl rfl (za 2 rfl ?_))
 apply zj
 iterate 4 exact rfl
 case h1 =>
  intro hg4
  refine za 6 rfl ?_
  exact qO rfl zR
 refine qA ?_
 refine qv (p:=(i:Int)<(l.length:Int)∧(i:Int)<most) rfl (by simp) (fun c0=>?_) (fun c0=>?_)
 ·skip
  refine za 4 rfl ?_
  obtain ⟨x,hx⟩:∃ x,l[i]?=some x:=⟨_,List.getElem?_eq_getElem zO⟩
  obtain ⟨b,o,rfl,hc⟩:=hrow.row cells_len zd hx
  refine za 3 rfl ?_
  refine qN (j:=i) rfl rfl ty22 ty86 rfl zO rfl rfl ?_
  refine QJ rfl ty86 rfl (vs:=x.cells) rfl (hc.up (by first | exact qz | (repeat (first | exact qd.refl _ | refine qd.cons zT ?_ | refine qd.app (by repeat (first | exact qf.here _ | apply qf.next | apply qf.app)) ?_ | refine qd.drop ?_ | refine qd.dropS ?_ | exact qd.nil _)))) rfl ?_
  refine qB (zc1 rfl) Tryz.call36 rfl hT (qfs _) ?_
  refine qy q6 zo (.cons rfl rfl rfl rfl rfl .nil) rfl rfl rfl rfl rfl rfl rfl (fun b24=>?_)
  refine zy (news:=x.cells) (m:=1) (HB:=HB) (H0:=H) rfl rfl q6 zo rfl (by decide) hO rfl (qq.own List.mem_cons_self) rfl (by simp only [maxLen]; omega) (by omega) (by first | exact qz | (repeat (first | exact qd.refl _ | refine qd.cons zT ?_ | refine qd.app (by repeat (first | exact qf.here _ | apply qf.next | apply qf.app)) ?_ | refine qd.drop ?_ | refine qd.dropS ?_ | exact qd.nil _))) rfl (fun v' HB' hO'=>?_)
  refine za 5 rfl ?_
  refine qC rfl rfl (qX (m:=((i+1:Nat):Int)) ((ZN zO).trans zO)) rfl ?_
  refine za 2 rfl ?_
  refine qW (i+1,v',HB') ⟨by omega,by omega,by rw [Q2 hx,Jv]; exact hO'⟩ (by dsimp only; omega) (qc rfl (qc rfl (qc rfl (qc rfl (qm _))))) rfl (by first | exact qz | (repeat (first | exact qd.refl _ | refine qd.cons zT ?_ | refine qd.app (by repeat (first | exact qf.here _ | apply qf.next | apply qf.app)) ?_ | refine qd.drop ?_ | refine qd.dropS ?_ | exact qd.nil _)))
 ·skip
  refine za 5 rfl (qj Tryz.results7 rfl (.nil _) (.refl _) ?_)
  have e:(l.take most.toNat).length=i:=by rw [List.length_take]; omega
  have e2:l.take most.toNat=l.take i:=by
   rw [List.length_take] at e
   by_cases h:most.toNat≤l.length
   ·rw [show most.toNat=i by omega]
   ·rw [List.take_of_length_le (by omega),List.take_of_length_le (by omega)]
  exact ⟨HB,by rw [e,e2]; exact hO,rfl⟩
def ZV:List Bool→Nat
 | []=>0
 | b::l=>(if b=true then 1 else 0)+2*ZV l
theorem K3:∀ l:List Bool,ZV l<2 ^ l.length
 | []=>by simp [ZV]
 | b::l=>by
  have:=K3 l
  simp only [ZV,List.length_cons,Nat.pow_succ]
  split <;> omega
def KA (x:Ins):Bool:=decide (cls x.op=2)
def Kx (x:Ins):Bool:=decide (x.op≠73) && decide (x.op≠32)
def toV (x:Ins) (at_:Int):Int:=IntKind.i64.wrap (IntKind.i64.wrap (at_+1)+x.off)
def YX (jump next:Bool) (tv at1:Int) (le gt:Bool):List Int :=
 (bif jump && (le || !next) then [tv] else [])++((bif next then [at1] else [])++(bif jump && next && gt then [tv] else []))
def KL (x:Ins) (at_:Int):List Int :=
 YX (KA x) (Kx x) (toV x at_) (IntKind.i64.wrap (at_+1)) (decide (toV x at_≤at_)) (decide (IntKind.i64.wrap (at_+1)<toV x at_))
abbrev qbD (bj bt ba bn:Nat) (jump next:Bool) (tv at_:Int):qg:=[(bj,.cells 4 1 [.bool jump]),(bt,.cells 3 1 [.int .i64 tv]),(ba,.cells 3 1 [.int .i64 at_]),(bn,.cells 4 1 [.bool next])]
theorem Je {q:IntKind} {t:TypeId} {i j:Int} {b:Bool} (h:decide (i≤j)=b) (P:Program) (w:World):(Go.binOp .leq t (.int q i) (.int q j)).run P w=.ok (.bool b) w:=h ▸ qe0 P w
theorem KW {q:IntKind} {t:TypeId} {i j:Int} {b:Bool} (h:decide (j<i)=b) (P:Program) (w:World):(Go.binOp .gtr t (.int q i) (.int q j)).run P w=.ok (.bool b) w:=h ▸ qe1 P w
theorem qeW (x:Ins) (at_:Int) (hT:zN w0):qt Tryz.prog w0 148 #[.agg #[zi x.op,zi x.dst,zi x.src,zi x.off,zi x.imm],zi at_] (H) (fun v H'=>∃ bj bt ba bn,v=.func (.func 206) #[] #[zp bj,zp bt,zp ba,zp bn]∧H'=qbD bj bt ba bn (KA x) (Kx x) (toV x at_) at_++H):=by
 refine qi (l:=[.agg #[zi x.op,zi x.dst,zi x.src,zi x.off,zi x.imm],zi at_]) Tryz.func148 rfl Tryz.ntmps148 rfl rfl ?_
 refine zr ?_
 refine qS rfl rfl rfl (fun b2=>?_)
 refine qS rfl rfl rfl (fun b3=>?_)
 refine za 4 rfl (qe rfl ty3 rfl (qh.own zM rfl) rfl (qB (zc1 rfl) Tryz.call80 rfl hT (Qs _) (za 1 rfl ?_)))
 refine qH ty4 rfl rfl (fun b5=>?_)
 refine q7 rfl rfl ty4 rfl rfl zM rfl rfl zU (za 3 rfl (qe rfl ty3 rfl (qh.own zM rfl) rfl (za 2 rfl ?_)))
 apply zj
 iterate 4 exact rfl
 case h1 =>
  intro hg3
  refine za 3 rfl (qe rfl ty3 rfl (qh.own zM rfl) rfl (za 2 rfl ?_))
  exact qO rfl zR
 refine qH ty4 rfl rfl (fun b6=>?_)
 refine q7 rfl rfl ty4 rfl rfl zM rfl rfl zU (za 2 rfl (q8 rfl zo rfl zM rfl zF rfl (qe rfl ty3 rfl (qh.own zM rfl) rfl (qB (zc2 rfl rfl) Tryz.call146 rfl hT (YV _ _) ?_))))
 refine qH ty3 rfl rfl (fun b7=>?_)
 refine q7 rfl rfl ty3 rfl rfl zM rfl rfl zU (za 2 rfl (Qh .nil (.cons rfl (.cons rfl (.cons rfl (.cons rfl .nil)))) rfl (za 2 rfl ?_)))
 refine qj (H2:=qbD b5 b7 b3 b6 (KA x) (Kx x) (toV x at_) at_++H) Tryz.results148 rfl (.nil _) (by first | exact qz | (repeat (first | exact qd.refl _ | refine qd.cons zT ?_ | refine qd.app (by repeat (first | exact qf.here _ | apply qf.next | apply qf.app)) ?_ | refine qd.drop ?_ | refine qd.dropS ?_ | exact qd.nil _))) ?_
 exact ⟨b5,b7,b3,b6,rfl,rfl⟩
theorem qaH {l bj bt ba bn:Nat} {jump next le gt:Bool} {tv at_:Int} (hle:decide (tv≤at_)=le) (hgt:decide (IntKind.i64.wrap (at_+1)<tv)=gt) (J:Nat→qg→Prop) (S:qg→Prop)
  (hround:∀ i z Hi,(YX jump next tv (IntKind.i64.wrap (at_+1)) le gt)[i]?=some z→J i Hi→JR Tryz.prog w0 l #[zi z] (qbD bj bt ba bn jump next tv at_++Hi)
   (fun v H'=>∃ Hi',qd H' (qbD bj bt ba bn jump next tv at_++Hi')∧(v=.bool true∧J (i+1) Hi'∨v=.bool false∧S Hi'))) (hJ:J 0 H) (hT:zN w0):qt Tryz.prog w0 206 #[.func (.yield l) #[] #[],zp bj,zp bt,zp ba,zp bn] ((qbD bj bt ba bn jump next tv at_++H)) (fun _ H'=>∃ Hi',qd H' (qbD bj bt ba bn jump next tv at_++Hi')∧(J (YX jump next tv (IntKind.i64.wrap (at_+1)) le gt).length Hi'∨S Hi')):=by
 refine qi (l:=[.func (.yield l) #[] #[],zp bj,zp bt,zp ba,zp bn]) Tryz.func206 rfl Tryz.ntmps206 rfl rfl ?_
 cases jump
 ·skip
  cases next
  ·skip
   cases le
   ·skip
    cases gt
    ·skip
     refine za 2 rfl (qe rfl ty4 rfl (qh.own zM rfl) rfl (za 5 rfl (Qb rfl rfl rfl (Qb rfl rfl rfl (za 13 rfl (qe rfl ty4 rfl (qh.own zM rfl) rfl (za 11 rfl ?_)))))))
     refine qe rfl ty4 rfl (qh.own zM rfl) rfl (za 12 rfl (zf Tryz.results206 (.nil _) (.refl _) ?_))
     exact ⟨H,.refl _,.inl hJ⟩
    ·skip
     refine za 2 rfl (qe rfl ty4 rfl (qh.own zM rfl) rfl (za 5 rfl (Qb rfl rfl rfl (Qb rfl rfl rfl (za 13 rfl (qe rfl ty4 rfl (qh.own zM rfl) rfl (za 11 rfl ?_)))))))
     refine qe rfl ty4 rfl (qh.own zM rfl) rfl (za 12 rfl (zf Tryz.results206 (.nil _) (.refl _) ?_))
     exact ⟨H,.refl _,.inl hJ⟩
   ·skip
    cases gt
    ·skip
     refine za 2 rfl (qe rfl ty4 rfl (qh.own zM rfl) rfl (za 5 rfl (Qb rfl rfl rfl (Qb rfl rfl rfl (za 13 rfl (qe rfl ty4 rfl (qh.own zM rfl) rfl (za 11 rfl ?_)))))))
     refine qe rfl ty4 rfl (qh.own zM rfl) rfl (za 12 rfl (zf Tryz.results206 (.nil _) (.refl _) ?_))
     exact ⟨H,.refl _,.inl hJ⟩
    ·skip
     refine za 2 rfl (qe rfl ty4 rfl (qh.own zM rfl) rfl (za 5 rfl (Qb rfl rfl rfl (Qb rfl rfl rfl (za 13 rfl (qe rfl ty4 rfl (qh.own zM rfl) rfl (za 11 rfl ?_)))))))
     refine qe rfl ty4 rfl (qh.own zM rfl) rfl (za 12 rfl (zf Tryz.results206 (.nil _) (.refl _) ?_))
     exact ⟨H,.refl _,.inl hJ⟩
  ·skip
   cases le
   ·skip
    cases gt
    ·skip
     refine za 2 rfl (qe rfl ty4 rfl (qh.own zM rfl) rfl (za 5 rfl (Qb rfl rfl rfl (Qb rfl rfl rfl (za 13 rfl (qe rfl ty4 rfl (qh.own zM rfl) rfl (za 4 rfl ?_)))))))
     refine qe rfl ty3 rfl (qh.own zM rfl) rfl (qr rfl rfl (qC rfl rfl (qX rfl) rfl (qr rfl rfl (zx rfl (.cons rfl .nil) rfl (hround 0 _ H rfl hJ) ?_))))
     rintro v H' ⟨H1,hs,⟨rfl,hJ1⟩ | ⟨rfl,hS⟩⟩
     ·skip
      refine qP hs ?_
      refine za 7 rfl (qe rfl ty4 rfl (qh.own zM rfl) rfl (za 12 rfl (zf Tryz.results206 (.nil _) (.refl _) ?_)))
      exact ⟨H1,.refl _,.inl hJ1⟩
     ·skip
      refine qP hs ?_
      refine za 5 rfl (zZ Tryz.results206 (.nil _) (.refl _) ?_)
      exact ⟨H1,.refl _,.inr hS⟩
    ·skip
     refine za 2 rfl (qe rfl ty4 rfl (qh.own zM rfl) rfl (za 5 rfl (Qb rfl rfl rfl (Qb rfl rfl rfl (za 13 rfl (qe rfl ty4 rfl (qh.own zM rfl) rfl (za 4 rfl ?_)))))))
     refine qe rfl ty3 rfl (qh.own zM rfl) rfl (qr rfl rfl (qC rfl rfl (qX rfl) rfl (qr rfl rfl (zx rfl (.cons rfl .nil) rfl (hround 0 _ H rfl hJ) ?_))))
     rintro v H' ⟨H1,hs,⟨rfl,hJ1⟩ | ⟨rfl,hS⟩⟩
     ·skip
      refine qP hs ?_
      refine za 7 rfl (qe rfl ty4 rfl (qh.own zM rfl) rfl (za 12 rfl (zf Tryz.results206 (.nil _) (.refl _) ?_)))
      exact ⟨H1,.refl _,.inl hJ1⟩
     ·skip
      refine qP hs ?_
      refine za 5 rfl (zZ Tryz.results206 (.nil _) (.refl _) ?_)
      exact ⟨H1,.refl _,.inr hS⟩
   ·skip
    cases gt
    ·skip
     refine za 2 rfl (qe rfl ty4 rfl (qh.own zM rfl) rfl (za 5 rfl (Qb rfl rfl rfl (Qb rfl rfl rfl (za 13 rfl (qe rfl ty4 rfl (qh.own zM rfl) rfl (za 4 rfl ?_)))))))
     refine qe rfl ty3 rfl (qh.own zM rfl) rfl (qr rfl rfl (qC rfl rfl (qX rfl) rfl (qr rfl rfl (zx rfl (.cons rfl .nil) rfl (hround 0 _ H rfl hJ) ?_))))
     rintro v H' ⟨H1,hs,⟨rfl,hJ1⟩ | ⟨rfl,hS⟩⟩
     ·skip
      refine qP hs ?_
      refine za 7 rfl (qe rfl ty4 rfl (qh.own zM rfl) rfl (za 12 rfl (zf Tryz.results206 (.nil _) (.refl _) ?_)))
      exact ⟨H1,.refl _,.inl hJ1⟩
     ·skip
      refine qP hs ?_
      refine za 5 rfl (zZ Tryz.results206 (.nil _) (.refl _) ?_)
      exact ⟨H1,.refl _,.inr hS⟩
    ·skip
     refine za 2 rfl (qe rfl ty4 rfl (qh.own zM rfl) rfl (za 5 rfl (Qb rfl rfl rfl (Qb rfl rfl rfl (za 13 rfl (qe rfl ty4 rfl (qh.own zM rfl) rfl (za 4 rfl ?_)))))))
     refine qe rfl ty3 rfl (qh.own zM rfl) rfl (qr rfl rfl (qC rfl rfl (qX rfl) rfl (qr rfl rfl (zx rfl (.cons rfl .nil) rfl (hround 0 _ H rfl hJ) ?_))))
     rintro v H' ⟨H1,hs,⟨rfl,hJ1⟩ | ⟨rfl,hS⟩⟩
     ·skip
      refine qP hs ?_
      refine za 7 rfl (qe rfl ty4 rfl (qh.own zM rfl) rfl (za 12 rfl (zf Tryz.results206 (.nil _) (.refl _) ?_)))
      exact ⟨H1,.refl _,.inl hJ1⟩
     ·skip
      refine qP hs ?_
      refine za 5 rfl (zZ Tryz.results206 (.nil _) (.refl _) ?_)
      exact ⟨H1,.refl _,.inr hS⟩
 ·skip
  cases next
  ·skip
   cases le
   ·skip
    cases gt
    ·skip
     refine za 2 rfl (qe rfl ty4 rfl (qh.own zM rfl) rfl (za 2 rfl (qe rfl ty3 rfl (qh.own zM rfl) rfl (qr rfl rfl (qe rfl ty3 rfl (qh.own zM rfl) rfl (qr rfl rfl (qC rfl rfl (Je hle) rfl ?_)))))))
     refine za 3 rfl (qe rfl ty4 rfl (qh.own zM rfl) rfl (za 9 rfl (qe rfl ty3 rfl (qh.own zM rfl) rfl (qr rfl rfl (zx rfl (.cons rfl .nil) rfl (hround 0 _ H rfl hJ) ?_)))))
     rintro v H' ⟨H1,hs,⟨rfl,hJ1⟩ | ⟨rfl,hS⟩⟩
     ·skip
      refine qP hs ?_
      refine za 8 rfl (qe rfl ty4 rfl (qh.own zM rfl) rfl (za 11 rfl (qe rfl ty4 rfl (qh.own zM rfl) rfl (za 2 rfl (qe rfl ty4 rfl (qh.own zM rfl) rfl (za 10 rfl (zf Tryz.results206 (.nil _) (.refl _) ?_)))))))
      exact ⟨H1,.refl _,.inl hJ1⟩
     ·skip
      refine qP hs ?_
      refine za 5 rfl (zZ Tryz.results206 (.nil _) (.refl _) ?_)
      exact ⟨H1,.refl _,.inr hS⟩
    ·skip
     refine za 2 rfl (qe rfl ty4 rfl (qh.own zM rfl) rfl (za 2 rfl (qe rfl ty3 rfl (qh.own zM rfl) rfl (qr rfl rfl (qe rfl ty3 rfl (qh.own zM rfl) rfl (qr rfl rfl (qC rfl rfl (Je hle) rfl ?_)))))))
     refine za 3 rfl (qe rfl ty4 rfl (qh.own zM rfl) rfl (za 9 rfl (qe rfl ty3 rfl (qh.own zM rfl) rfl (qr rfl rfl (zx rfl (.cons rfl .nil) rfl (hround 0 _ H rfl hJ) ?_)))))
     rintro v H' ⟨H1,hs,⟨rfl,hJ1⟩ | ⟨rfl,hS⟩⟩
     ·skip
      refine qP hs ?_
      refine za 8 rfl (qe rfl ty4 rfl (qh.own zM rfl) rfl (za 11 rfl (qe rfl ty4 rfl (qh.own zM rfl) rfl (za 2 rfl (qe rfl ty4 rfl (qh.own zM rfl) rfl (za 10 rfl (zf Tryz.results206 (.nil _) (.refl _) ?_)))))))
      exact ⟨H1,.refl _,.inl hJ1⟩
     ·skip
      refine qP hs ?_
      refine za 5 rfl (zZ Tryz.results206 (.nil _) (.refl _) ?_)
      exact ⟨H1,.refl _,.inr hS⟩
   ·skip
    cases gt
    ·skip
     refine za 2 rfl (qe rfl ty4 rfl (qh.own zM rfl) rfl (za 2 rfl (qe rfl ty3 rfl (qh.own zM rfl) rfl (qr rfl rfl (qe rfl ty3 rfl (qh.own zM rfl) rfl (qr rfl rfl (qC rfl rfl (Je hle) rfl ?_)))))))
     refine za 11 rfl (qe rfl ty3 rfl (qh.own zM rfl) rfl (qr rfl rfl (zx rfl (.cons rfl .nil) rfl (hround 0 _ H rfl hJ) ?_)))
     rintro v H' ⟨H1,hs,⟨rfl,hJ1⟩ | ⟨rfl,hS⟩⟩
     ·skip
      refine qP hs ?_
      refine za 8 rfl (qe rfl ty4 rfl (qh.own zM rfl) rfl (za 11 rfl (qe rfl ty4 rfl (qh.own zM rfl) rfl (za 2 rfl (qe rfl ty4 rfl (qh.own zM rfl) rfl (za 10 rfl (zf Tryz.results206 (.nil _) (.refl _) ?_)))))))
      exact ⟨H1,.refl _,.inl hJ1⟩
     ·skip
      refine qP hs ?_
      refine za 5 rfl (zZ Tryz.results206 (.nil _) (.refl _) ?_)
      exact ⟨H1,.refl _,.inr hS⟩
    ·skip
     refine za 2 rfl (qe rfl ty4 rfl (qh.own zM rfl) rfl (za 2 rfl (qe rfl ty3 rfl (qh.own zM rfl) rfl (qr rfl rfl (qe rfl ty3 rfl (qh.own zM rfl) rfl (qr rfl rfl (qC rfl rfl (Je hle) rfl ?_)))))))
     refine za 11 rfl (qe rfl ty3 rfl (qh.own zM rfl) rfl (qr rfl rfl (zx rfl (.cons rfl .nil) rfl (hround 0 _ H rfl hJ) ?_)))
     rintro v H' ⟨H1,hs,⟨rfl,hJ1⟩ | ⟨rfl,hS⟩⟩
     ·skip
      refine qP hs ?_
      refine za 8 rfl (qe rfl ty4 rfl (qh.own zM rfl) rfl (za 11 rfl (qe rfl ty4 rfl (qh.own zM rfl) rfl (za 2 rfl (qe rfl ty4 rfl (qh.own zM rfl) rfl (za 10 rfl (zf Tryz.results206 (.nil _) (.refl _) ?_)))))))
      exact ⟨H1,.refl _,.inl hJ1⟩
     ·skip
      refine qP hs ?_
      refine za 5 rfl (zZ Tryz.results206 (.nil _) (.refl _) ?_)
      exact ⟨H1,.refl _,.inr hS⟩
  ·skip
   cases le
   ·skip
    cases gt
    ·skip
     refine za 2 rfl (qe rfl ty4 rfl (qh.own zM rfl) rfl (za 2 rfl (qe rfl ty3 rfl (qh.own zM rfl) rfl (qr rfl rfl (qe rfl ty3 rfl (qh.own zM rfl) rfl (qr rfl rfl (qC rfl rfl (Je hle) rfl ?_)))))))
     refine za 3 rfl (qe rfl ty4 rfl (qh.own zM rfl) rfl (za 16 rfl (qe rfl ty4 rfl (qh.own zM rfl) rfl (za 4 rfl (qe rfl ty3 rfl (qh.own zM rfl) rfl (qr rfl rfl (qC rfl rfl (qX rfl) rfl ?_)))))))
     refine qr rfl rfl (zx rfl (.cons rfl .nil) rfl (hround 0 _ H rfl hJ) ?_)
     rintro v H' ⟨H1,hs,⟨rfl,hJ1⟩ | ⟨rfl,hS⟩⟩
     ·skip
      refine qP hs ?_
      refine za 7 rfl (qe rfl ty4 rfl (qh.own zM rfl) rfl (za 2 rfl (qe rfl ty4 rfl (qh.own zM rfl) rfl (za 3 rfl (qe rfl ty3 rfl (qh.own zM rfl) rfl (qr rfl rfl (qe rfl ty3 rfl (qh.own zM rfl) rfl ?_)))))))
      refine qr rfl rfl (qC rfl rfl (qX rfl) rfl (qr rfl rfl (qC rfl rfl (KW hgt) rfl (za 4 rfl (zf Tryz.results206 (.nil _) (.refl _) ?_)))))
      exact ⟨H1,.refl _,.inl hJ1⟩
     ·skip
      refine qP hs ?_
      refine za 5 rfl (zZ Tryz.results206 (.nil _) (.refl _) ?_)
      exact ⟨H1,.refl _,.inr hS⟩
    ·skip
     refine za 2 rfl (qe rfl ty4 rfl (qh.own zM rfl) rfl (za 2 rfl (qe rfl ty3 rfl (qh.own zM rfl) rfl (qr rfl rfl (qe rfl ty3 rfl (qh.own zM rfl) rfl (qr rfl rfl (qC rfl rfl (Je hle) rfl ?_)))))))
     refine za 3 rfl (qe rfl ty4 rfl (qh.own zM rfl) rfl (za 16 rfl (qe rfl ty4 rfl (qh.own zM rfl) rfl (za 4 rfl (qe rfl ty3 rfl (qh.own zM rfl) rfl (qr rfl rfl (qC rfl rfl (qX rfl) rfl ?_)))))))
     refine qr rfl rfl (zx rfl (.cons rfl .nil) rfl (hround 0 _ H rfl hJ) ?_)
     rintro v H' ⟨H1,hs,⟨rfl,hJ1⟩ | ⟨rfl,hS⟩⟩
     ·skip
      refine qP hs ?_
      refine za 7 rfl (qe rfl ty4 rfl (qh.own zM rfl) rfl (za 2 rfl (qe rfl ty4 rfl (qh.own zM rfl) rfl (za 3 rfl (qe rfl ty3 rfl (qh.own zM rfl) rfl (qr rfl rfl (qe rfl ty3 rfl (qh.own zM rfl) rfl ?_)))))))
      refine qr rfl rfl (qC rfl rfl (qX rfl) rfl (qr rfl rfl (qC rfl rfl (KW hgt) rfl (za 5 rfl (qe rfl ty3 rfl (qh.own zM rfl) rfl (zx rfl (.cons rfl .nil) rfl (hround 1 _ H1 rfl hJ1) ?_))))))
      rintro v H' ⟨H2,hs,⟨rfl,hJ2⟩ | ⟨rfl,hS⟩⟩
      ·skip
       refine qP hs ?_
       refine qA (zf Tryz.results206 (.nil _) (.refl _) ?_)
       exact ⟨H2,.refl _,.inl hJ2⟩
      ·skip
       refine qP hs ?_
       refine qA (zf Tryz.results206 (.nil _) (.refl _) ?_)
       exact ⟨H2,.refl _,.inr hS⟩
     ·skip
      refine qP hs ?_
      refine za 5 rfl (zZ Tryz.results206 (.nil _) (.refl _) ?_)
      exact ⟨H1,.refl _,.inr hS⟩
   ·skip
    cases gt
    ·skip
     refine za 2 rfl (qe rfl ty4 rfl (qh.own zM rfl) rfl (za 2 rfl (qe rfl ty3 rfl (qh.own zM rfl) rfl (qr rfl rfl (qe rfl ty3 rfl (qh.own zM rfl) rfl (qr rfl rfl (qC rfl rfl (Je hle) rfl ?_)))))))
     refine za 11 rfl (qe rfl ty3 rfl (qh.own zM rfl) rfl (qr rfl rfl (zx rfl (.cons rfl .nil) rfl (hround 0 _ H rfl hJ) ?_)))
     rintro v H' ⟨H1,hs,⟨rfl,hJ1⟩ | ⟨rfl,hS⟩⟩
     ·skip
      refine qP hs ?_
      refine za 8 rfl (qe rfl ty4 rfl (qh.own zM rfl) rfl (za 4 rfl (qe rfl ty3 rfl (qh.own zM rfl) rfl (qr rfl rfl (qC rfl rfl (qX rfl) rfl (qr rfl rfl (zx rfl (.cons rfl .nil) rfl (hround 1 _ H1 rfl hJ1) ?_)))))))
      rintro v H' ⟨H2,hs,⟨rfl,hJ2⟩ | ⟨rfl,hS⟩⟩
      ·skip
       refine qP hs ?_
       refine za 7 rfl (qe rfl ty4 rfl (qh.own zM rfl) rfl (za 2 rfl (qe rfl ty4 rfl (qh.own zM rfl) rfl (za 3 rfl (qe rfl ty3 rfl (qh.own zM rfl) rfl (qr rfl rfl (qe rfl ty3 rfl (qh.own zM rfl) rfl ?_)))))))
       refine qr rfl rfl (qC rfl rfl (qX rfl) rfl (qr rfl rfl (qC rfl rfl (KW hgt) rfl (za 4 rfl (zf Tryz.results206 (.nil _) (.refl _) ?_)))))
       exact ⟨H2,.refl _,.inl hJ2⟩
      ·skip
       refine qP hs ?_
       refine za 5 rfl (zZ Tryz.results206 (.nil _) (.refl _) ?_)
       exact ⟨H2,.refl _,.inr hS⟩
     ·skip
      refine qP hs ?_
      refine za 5 rfl (zZ Tryz.results206 (.nil _) (.refl _) ?_)
      exact ⟨H1,.refl _,.inr hS⟩
    ·skip
     refine za 2 rfl (qe rfl ty4 rfl (qh.own zM rfl) rfl (za 2 rfl (qe rfl ty3 rfl (qh.own zM rfl) rfl (qr rfl rfl (qe rfl ty3 rfl (qh.own zM rfl) rfl (qr rfl rfl (qC rfl rfl (Je hle) rfl ?_)))))))
     refine za 11 rfl (qe rfl ty3 rfl (qh.own zM rfl) rfl (qr rfl rfl (zx rfl (.cons rfl .nil) rfl (hround 0 _ H rfl hJ) ?_)))
     rintro v H' ⟨H1,hs,⟨rfl,hJ1⟩ | ⟨rfl,hS⟩⟩
     ·skip
      refine qP hs ?_
      refine za 8 rfl (qe rfl ty4 rfl (qh.own zM rfl) rfl (za 4 rfl (qe rfl ty3 rfl (qh.own zM rfl) rfl (qr rfl rfl (qC rfl rfl (qX rfl) rfl (qr rfl rfl (zx rfl (.cons rfl .nil) rfl (hround 1 _ H1 rfl hJ1) ?_)))))))
      rintro v H' ⟨H2,hs,⟨rfl,hJ2⟩ | ⟨rfl,hS⟩⟩
      ·skip
       refine qP hs ?_
       refine za 7 rfl (qe rfl ty4 rfl (qh.own zM rfl) rfl (za 2 rfl (qe rfl ty4 rfl (qh.own zM rfl) rfl (za 3 rfl (qe rfl ty3 rfl (qh.own zM rfl) rfl (qr rfl rfl (qe rfl ty3 rfl (qh.own zM rfl) rfl ?_)))))))
       refine qr rfl rfl (qC rfl rfl (qX rfl) rfl (qr rfl rfl (qC rfl rfl (KW hgt) rfl (za 5 rfl (qe rfl ty3 rfl (qh.own zM rfl) rfl (zx rfl (.cons rfl .nil) rfl (hround 2 _ H2 rfl hJ2) ?_))))))
       rintro v H' ⟨H3,hs,⟨rfl,hJ3⟩ | ⟨rfl,hS⟩⟩
       ·skip
        refine qP hs ?_
        refine qA (zf Tryz.results206 (.nil _) (.refl _) ?_)
        exact ⟨H3,.refl _,.inl hJ3⟩
       ·skip
        refine qP hs ?_
        refine qA (zf Tryz.results206 (.nil _) (.refl _) ?_)
        exact ⟨H3,.refl _,.inr hS⟩
      ·skip
       refine qP hs ?_
       refine za 5 rfl (zZ Tryz.results206 (.nil _) (.refl _) ?_)
       exact ⟨H2,.refl _,.inr hS⟩
     ·skip
      refine qP hs ?_
      refine za 5 rfl (zZ Tryz.results206 (.nil _) (.refl _) ?_)
      exact ⟨H1,.refl _,.inr hS⟩
def Xc (n:Nat) (z:Int):Bool:=decide (0≤z) && decide (z<(n:Int))
def Qj (l:List Ins) (at_:Int):List Int :=
 if at_<0∨(l.length:Int)≤at_ then [] else match l[at_.toNat]? with
  | some x=>(KL x at_).filter (Xc l.length)
  | none=>[]
theorem qam {l:List Ins} {x:Ins} (hi:i<l.length) (hx:l[i]?=some x):Qj l i=(KL x i).filter (Xc l.length):=by
 unfold Qj
 rw [if_neg (by omega),Int.toNat_natCast,hx]
theorem KD {p:Int→Bool} {z:Int} (h:l[i]?=some z):(l.take (i+1)).filter p=(l.take i).filter p++(bif p z then [z] else []):=by
 rw [Q2 h,List.filter_append]; cases hp:p z <;> simp [hp]
theorem Kp (j n:Bool) (t a:Int) (le gt:Bool):(YX j n t a le gt).length≤3:=by cases j <;> cases n <;> cases le <;> cases gt <;> simp [YX]
theorem qhP (l:List Ins) (at_:Int) (hat:I64 at_) (hrow:qq w0 H ad (qI l)) (hT:zN w0):qt Tryz.prog w0 87 #[.slice ad l.length cap,zi at_] (H) (fun v H'=>∃ HB,qQ 3 1 v (Qj l at_).length (Jp (Qj l at_)) HB∧H'=HB++H):=by
 refine qi (l:=[.slice ad l.length cap,zi at_]) Tryz.func87 rfl Tryz.ntmps87 rfl rfl ?_
 refine zr ?_
 refine qS rfl rfl rfl (fun b2=>?_)
 refine za 7 rfl ?_
 apply YN
 iterate 4 exact rfl
 case h1 =>
  intro hg2
  refine za 3 rfl (qe rfl q6 rfl (qh.own zM rfl) rfl (qr rfl rfl (zb rfl q6 rfl rfl (za 2 rfl ?_))))
  exact qO rfl zR
 refine qA ?_
 refine qv (p:=at_<0∨(l.length:Int)≤at_) rfl (by simp) (fun c0=>?_) (fun c0=>?_)
 ·skip
  refine za 3 rfl ?_
  refine qj (H2:=H) Tryz.results87 rfl (.nil _) (by first | exact qz | (repeat (first | exact qd.refl _ | refine qd.cons zT ?_ | refine qd.app (by repeat (first | exact qf.here _ | apply qf.next | apply qf.app)) ?_ | refine qd.drop ?_ | refine qd.dropS ?_ | exact qd.nil _))) ?_
  have e:Qj l at_=[]:=if_pos c0
  exact ⟨[],by rw [e]; exact .nil,rfl⟩
 ·skip
  refine za 2 rfl ?_
  obtain ⟨i,rfl,hi⟩:∃ i:Nat,at_=(i:Int)∧i<l.length:=⟨at_.toNat,by omega,by omega⟩
  obtain ⟨x,hx⟩:∃ x,l[i]?=some x:=⟨_,List.getElem?_eq_getElem hi⟩
  obtain ⟨b,o,rfl,hc⟩:=hrow.row cells_len zd hx
  refine qH Qq rfl rfl (fun b5=>?_)
  refine za 3 rfl (qe rfl q6 rfl (qh.own zM rfl) rfl (qM rfl rfl ?_))
  refine qN (j:=i) rfl rfl q6 zo rfl hi rfl rfl ?_
  refine QJ rfl zo rfl (vs:=x.cells) rfl (hc.up (by first | exact qz | (repeat (first | exact qd.refl _ | refine qd.cons zT ?_ | refine qd.app (by repeat (first | exact qf.here _ | apply qf.next | apply qf.app)) ?_ | refine qd.drop ?_ | refine qd.dropS ?_ | exact qd.nil _)))) rfl ?_
  refine qM rfl rfl (qu (zc2 rfl rfl) Tryz.call148 rfl (qeW x i hT) ?_)
  rintro v' H' ⟨bj,bt,ba,bn,rfl,rfl⟩
  refine za 2 rfl (Xb rfl Tryz.call206 ?_)
  intro lp D r hst hpd hps hasg hbody hA
  have hr:=XH hst hpd
  show qt _ _ _ #[_,_,_,_,_] _ _
  refine ((qaH (H:=(lp,.obj (.loop r))::(D,.obj (.deferred (some [])))::(b5,.cells 55 1 [.slice none 0 0])::(b2,.cells 26 1 [.slice (some ⟨b,o,none⟩) l.length cap])::H) rfl rfl
   (fun j Hi=>∃ v HB,qQ 3 1 v (((KL x i).take j).filter (Xc l.length)).length (Jp (((KL x i).take j).filter (Xc l.length))) HB∧Hi=(lp,.obj (.loop r))::(D,.obj (.deferred (some [])))::(b5,.cells 55 1 [v])::(b2,.cells 26 1 [.slice (some ⟨b,o,none⟩) l.length cap])::(HB++H)) (fun _=>False) ?_ ⟨_,[],.nil,rfl⟩ hT).hsub (by first | exact qz | (repeat (first | exact qd.refl _ | refine qd.cons zT ?_ | refine qd.app (by repeat (first | exact qf.here _ | apply qf.next | apply qf.app)) ?_ | refine qd.drop ?_ | refine qd.dropS ?_ | exact qd.nil _)))).mono ?_
  ·intro j z Hi hz hJ
   obtain ⟨v,HB,hO,rfl⟩:=hJ
   have hz:(KL x i)[j]?=some z:=hz
   have hlen:(((KL x i).take j).filter (Xc l.length)).length≤3:=Nat.le_trans (List.length_filter_le _ _) (Nat.le_trans (List.length_take_le' _ _) (Kp _ _ _ _ _ _))
   refine YZ hst hpd hA hps rfl hasg rfl rfl rfl zT ?_
   refine za 3 rfl (qcw hst hpd zT hbody (za 5 rfl ?_))
   apply zj
   iterate 4 exact rfl
   case h1 =>
    intro hg2
    refine za 3 rfl (qe rfl q6 rfl (qh.own zM rfl) rfl (qr rfl rfl (zb rfl q6 rfl rfl (za 2 rfl ?_))))
    exact qO rfl zR
   refine qA ?_
   refine qv (p:=0≤z∧z<(l.length:Int)) rfl (by simp) (fun c1=>?_) (fun c1=>?_)
   ·skip
    refine X9 (qe rfl Qq rfl (qh.own zM rfl) rfl (qM rfl rfl ?_))
    refine qy Qq ty3 (.cons rfl rfl rfl rfl rfl .nil) rfl rfl rfl rfl rfl rfl rfl (fun b32=>?_)
    refine zy (news:=[zi z]) (m:=1) (HB:=HB) (H0:=?H0) rfl rfl Qq ty3 rfl (by decide) hO rfl (qq.own List.mem_cons_self) rfl (by simp only [maxLen]; omega) (by omega) ?hs rfl (fun v' HB' hO'=>?_)
    case H0=>exact (qbD bj bt ba bn (KA x) (Kx x) (toV x i) i++(lp,.obj (.loop (Loop.at r .busy none)))::(D,.obj (.deferred (some [])))::(b5,.cells 55 1 [v])::(b2,.cells 26 1 [.slice (some ⟨b,o,none⟩) l.length cap])::H)
    case hs=>exact (by first | exact qz | (repeat (first | exact qd.refl _ | refine qd.cons zT ?_ | refine qd.app (by repeat (first | exact qf.here _ | apply qf.next | apply qf.app)) ?_ | refine qd.drop ?_ | refine qd.dropS ?_ | exact qd.nil _)))
    obtain ⟨adv,capv,rfl,_,_⟩:=hO'.shape
    refine q7 rfl rfl Qq rfl rfl zM rfl rfl zU (za 2 rfl (JQ zT ?_))
    rw [hr]
    have hin:Xc l.length z=true:=by simpa [Xc] using c1
    exact ⟨_,(by first | exact qz | (repeat (first | exact qd.refl _ | refine qd.cons zT ?_ | refine qd.app (by repeat (first | exact qf.here _ | apply qf.next | apply qf.app)) ?_ | refine qd.drop ?_ | refine qd.dropS ?_ | exact qd.nil _))),.inl ⟨rfl,_,HB',by rw [KD hz,hin]; simpa [Jp] using hO',rfl⟩⟩
   ·skip
    refine za 2 rfl (JQ zT ?_)
    rw [hr]
    have hin:Xc l.length z=false:=by rw [← Bool.not_eq_true]; simpa [Xc] using c1
    exact ⟨_,(by first | exact qz | (repeat (first | exact qd.refl _ | refine qd.cons zT ?_ | refine qd.app (by repeat (first | exact qf.here _ | apply qf.next | apply qf.app)) ?_ | refine qd.drop ?_ | refine qd.dropS ?_ | exact qd.nil _))),.inl ⟨rfl,v,HB,by rw [KD hz,hin]; simpa using hO,rfl⟩⟩
  ·intro _ H' hp
   obtain ⟨Hi',hs,hJS⟩:=hp
   obtain ⟨v,HB,hO,rfl⟩:=hJS.resolve_right id
   refine ⟨.ready,none,(D,.obj (.deferred (some [])))::(b5,.cells 55 1 [v])::(b2,.cells 26 1 [.slice (some ⟨b,o,none⟩) l.length cap])::(HB++H),by rw [hr]; exact hs.trans (by first | exact qz | (repeat (first | exact qd.refl _ | refine qd.cons zT ?_ | refine qd.app (by repeat (first | exact qf.here _ | apply qf.next | apply qf.app)) ?_ | refine qd.drop ?_ | refine qd.dropS ?_ | exact qd.nil _))),by decide,?_⟩
   show W _ _ _ _ _ _ _ _ _
   refine za 2 rfl (qe rfl Qq rfl (qh.own zM rfl) rfl (za 2 rfl ?_))
   refine qj (H2:=HB++H) Tryz.results87 rfl (.cons zT (.nil _)) (by first | exact qz | (repeat (first | exact qd.refl _ | refine qd.cons zT ?_ | refine qd.app (by repeat (first | exact qf.here _ | apply qf.next | apply qf.app)) ?_ | refine qd.drop ?_ | refine qd.dropS ?_ | exact qd.nil _))) ?_
   exact ⟨HB,by rw [qam hi hx]; have h2:=hO; rw [show (YX (KA x) (Kx x) (toV x i) (IntKind.i64.wrap ((i:Int)+1)) _ _)=KL x i from rfl,List.take_length] at h2; exact h2,rfl⟩
def z7 (l:List Ins):Prop:=∀ x∈l,x.Ok
def qb1 (x:Ins) (at_ tt:Int):Bool :=
 if x.op=73 then false else if (decide (cls x.op=2) && decide (IntKind.i64.wrap (IntKind.i64.wrap (tt-at_)-1)=x.off))=true then true else decide (x.op≠32) && decide (tt=IntKind.i64.wrap (at_+1))
def idx (n:Nat):List Int:=(List.range n).map fun i:Nat=>(i:Int)
end Go.Proofs.YtcggkokeggfdkaaGreatDoor
namespace Go.Proofs.YtcggkokeggfdkaaGreatDoor
open Go Go.Sl
variable {o:List Bool} {t k n m B:Nat} {E:Nat→Nat→Bool} {z:Int} {l c:List Ins} {w0:World} {H:qg} {ad:Option Addr}
def Ko (E:Nat→Nat→Bool) (k:Nat) (o:List Bool) (t:Nat):List Bool:=bif o.getD k false && E k t then o.set t true else o
def rowB (E:Nat→Nat→Bool) (n:Nat) (o:List Bool) (k:Nat):List Bool:=(List.range n).foldl (Ko E k) o
def Qk (E:Nat→Nat→Bool) (n:Nat) (o:List Bool):List Bool:=(List.range n).foldl (rowB E n) o
def ze (E:Nat→Nat→Bool) (n:Nat):Nat→List Bool→List Bool
 | 0,o=>o
 | r+1,o=>Qk E n (ze E n r o)
def QX (o p:List Bool):Prop:=o.length=p.length∧∀ i,o.getD i false=true→p.getD i false=true
theorem QX.refl (o:List Bool):QX o o:=⟨rfl,fun _ h=>h⟩
theorem QX.trans {p q:List Bool} (h:QX o p) (k:QX p q):QX o q:=⟨h.1.trans k.1,fun i hi=>k.2 i (h.2 i hi)⟩
theorem QX.tail {a b:Bool} {p:List Bool} (h:QX (a::o) (b::p)):(a=true→b=true)∧QX o p :=
 ⟨fun ha=>by have:=h.2 0; simpa [ha] using this,by have:=h.1; simpa using this,fun i hi=>by have:=h.2 (i+1); simpa using this (by simpa using hi)⟩
theorem QX.antisymm:∀ {o p:List Bool},QX o p→QX p o→o=p
 | [],[],_,_=>rfl
 | [],_::_,h,_=>by have:=h.1; simp at this
 | _::_,[],h,_=>by have:=h.1; simp at this
 | a::o,b::p,h,k=>by
  obtain ⟨h1,h2⟩:=h.tail
  obtain ⟨k1,k2⟩:=k.tail
  rw [QX.antisymm h2 k2]
  cases a <;> cases b <;> simp_all
def YK:List Bool→Nat
 | []=>0
 | b::l=>(if b=true then 1 else 0)+YK l
theorem QX.cnt_lt:∀ {o p:List Bool},QX o p→o≠p→YK o<YK p
 | [],[],_,hne=>absurd rfl hne
 | [],_::_,h,_=>by have:=h.1; simp at this
 | _::_,[],h,_=>by have:=h.1; simp at this
 | a::o,b::p,h,hne=>by
  obtain ⟨h1,h2⟩:=h.tail
  by_cases e:o=p
  ·subst e
   cases a <;> cases b <;> simp_all [YK] <;> omega
  ·have:=h2.cnt_lt e
   simp only [YK]
   cases a <;> cases b <;> simp_all <;> omega
theorem YJ:∀ (o:List Bool) (n:Nat),(∀ i,o.getD i false=true→i<n)→YK o≤n
 | [],_,_=>Nat.zero_le _
 | b::o,0,h=>by
  have hb:b=false:=by cases b with
   | false=>rfl
   | true=>exact absurd (h 0 rfl) zO
  subst hb
  have:=YJ o 0 (fun i hi=>by have:=h (i+1) (by simpa using hi); omega)
  simpa [YK] using this
 | b::o,n+1,h=>by
  have:=YJ o n (fun i hi=>by have:=h (i+1) (by simpa using hi); omega)
  simp only [YK]; split <;> omega
theorem Yk {i:Nat}:(o.set t true).getD i false=(bif decide (i=t) && decide (t<o.length) then true else o.getD i false):=by
 simp only [List.getD,List.getElem?_set]
 by_cases h:t=i
 ·subst h
  by_cases h2:t<o.length
  ·simp [h2]
  ·simp [h2,List.getElem?_eq_none (Nat.le_of_not_lt h2)]
 ·have:¬ i=t:=fun e=>h e.symm
  simp [h,this]
theorem qac (o:List Bool):QX o (Ko E k o t):=by
 unfold Ko
 cases o.getD k false && E k t with
 | false=>exact .refl _
 | true=>exact ⟨by simp,fun i hi=>by
   show (o.set t true).getD i false=true
   rw [Yk,hi]; cases decide (i=t) && decide (t<o.length) <;> rfl⟩
theorem Yl {f:List Bool→Nat→List Bool} (hf:∀ o x,QX o (f o x)):∀ (l:List Nat) (o:List Bool),QX o (l.foldl f o)
 | [],o=>.refl o
 | x::l,o=>(hf o x).trans (Yl hf l (f o x))
theorem XU {f:List Bool→Nat→List Bool} (hf:∀ o x,QX o (f o x)):∀ (l:List Nat) (o:List Bool),l.foldl f o=o→∀ x∈l,f o x=o
 | [],_,_,_,h=>by cases h
 | y::l,o,he,x,hx=>by
  have h1:QX (f o y) o:=by
   have:=Yl hf l (f o y)
   rw [show l.foldl f (f o y)=o from he] at this
   exact this
  have h2:f o y=o:=h1.antisymm (hf o y)
  rcases List.mem_cons.1 hx with rfl | hx
  ·exact h2
  ·exact XU hf l o (by rw [← h2]; rw [List.foldl_cons] at he; rw [he,h2]) x hx
theorem qb0 (o:List Bool):QX o (rowB E n o k):=Yl (fun o _=>qac o) _ o
theorem Kn (o:List Bool):QX o (Qk E n o):=Yl (fun o _=>qb0 o) _ o
theorem Kh (h:Qk E n o=o) (hl:n≤o.length) (hk:k<n) (ht:t<n) (hm:o.getD k false=true) (he:E k t=true):o.getD t false=true:=by
 have h1:rowB E n o k=o:=XU (fun o _=>qb0 o) _ o h k (List.mem_range.2 hk)
 have h2:Ko E k o t=o:=XU (fun o _=>qac o) _ o h1 t (List.mem_range.2 ht)
 unfold Ko at h2
 rw [hm,he] at h2
 have h3:o.set t true=o:=h2
 rw [← h3,Yk]
 have:decide (t<o.length)=true:=decide_eq_true zO
 rw [this]; simp
theorem JG {P:Nat→Prop} {f:List Bool→Nat→List Bool}:∀ (l:List Nat) (o:List Bool),(∀ o,∀ x∈l,(∀ i,o.getD i false=true→P i)→∀ i,(f o x).getD i false=true→P i)→(∀ i,o.getD i false=true→P i)→∀ i,(l.foldl f o).getD i false=true→P i
 | [],_,_,h=>h
 | x::l,o,hf,h=>JG l (f o x) (fun o y hy=>hf o y (List.mem_cons_of_mem _ hy)) (hf o x List.mem_cons_self h)
theorem qab {P:Nat→Prop} (hE:∀ k t,k<n→t<n→P k→E k t=true→P t) (o:List Bool) (h:∀ i,o.getD i false=true→P i):∀ i,(Qk E n o).getD i false=true→P i :=
 JG _ _ (fun o k hk h=>JG _ _ (fun o t ht h i hi=>by
  unfold Ko at hi
  cases hc:o.getD k false && E k t with
  | false=>rw [hc] at hi; exact h i hi
  | true =>
   rw [hc] at hi
   simp only [Bool.and_eq_true] at hc
   have hi':(o.set t true).getD i false=true:=hi
   rw [Yk] at hi'
   by_cases e:i=t
   ·subst e; exact hE k i (List.mem_range.1 hk) (List.mem_range.1 ht) (h k hc.1) hc.2
   ·rw [decide_eq_false e] at hi'; exact h i hi') h) h
theorem JC {E:Nat→Nat→Bool} {n:Nat} (o:List Bool):∀ r,QX o (ze E n r o)
 | 0=>.refl o
 | r+1=>(JC o r).trans (Kn _)
theorem Zu {E:Nat→Nat→Bool} {n:Nat} {P:Nat→Prop} (hE:∀ k t,k<n→t<n→P k→E k t=true→P t) (o:List Bool) (h:∀ i,o.getD i false=true→P i):∀ r i,(ze E n r o).getD i false=true→P i
 | 0,i,hi=>h i hi
 | r+1,i,hi=>qab hE _ (Zu hE o h r) i hi
theorem Xx {E:Nat→Nat→Bool} {n:Nat} (o:List Bool) (h1:1≤YK o):∀ r,Qk E n (ze E n r o)=ze E n r o∨r+1≤YK (ze E n r o)
 | 0=>.inr (by simpa [ze] using h1)
 | r+1=>by
  rcases Xx (E:=E) (n:=n) o h1 r with h | h
  ·left
   show Qk E n (Qk E n (ze E n r o))=Qk E n (ze E n r o)
   rw [h,h]
  ·by_cases e:ze E n r o=Qk E n (ze E n r o)
   ·left
    show Qk E n (Qk E n (ze E n r o))=Qk E n (ze E n r o)
    rw [← e,← e]
   ·right
    have:=(Kn (E:=E) (n:=n) (ze E n r o)).cnt_lt e
    show r+1+1≤YK (Qk E n (ze E n r o))
    omega
theorem qa4 (h1:1≤YK o) (hb:∀ i,o.getD i false=true→i<n):Qk E n (ze E n n o)=ze E n n o:=by
 rcases Xx (E:=E) (n:=n) o h1 n with h | h
 ·exact h
 ·have:=YJ (ze E n n o) n (Zu (P:=fun i=>i<n) (fun _ _ _ ht _ _=>ht) o hb n)
  omega
theorem Xw {r:Nat} :(ze E n r o).length=o.length:=(JC o r).1.symm
theorem K2:∀ (l:List Bool) (i:Nat),(ZV l).testBit i=l.getD i false
 | [],i=>by simp [ZV]
 | b::l,0=>by
  rw [Nat.testBit_zero]
  simp only [ZV,List.getD_cons_zero]
  cases b <;> simp <;> omega
 | b::l,i+1=>by
  rw [Nat.testBit_succ,show ZV (b::l)/2=ZV l by simp only [ZV]; split <;> omega,K2 l i]
  simp
inductive Zd (l:List Ins):Nat→Prop
 | zero (h:0<l.length):Zd l 0
 | step {k z:Nat} (h:Zd l k) (hz:(z:Int)∈Qj l k):Zd l z
theorem qcX {j n le gt:Bool} {t a:Int}:z∈YX j n t a le gt↔(j=true∧(le=true∨n=false)∧z=t)∨(n=true∧z=a)∨(j=true∧n=true∧gt=true∧z=t):=by
 cases j <;> cases n <;> cases le <;> cases gt <;> simp [YX]
theorem qco {x:Ins} (hx:x.Ok) (hk:k<n) (ht:t<n) (hn:n≤1000000):qb1 x k t=true↔(t:Int)∈KL x k:=by
 have h1:=hx.off.1; have h2:=hx.off.2
 have hc:x.op=73→cls x.op=4:=fun e=>by rw [e]; decide
 have hj:x.op=32→cls x.op=2:=fun e=>by rw [e]; decide
 unfold KL qb1 toV
 rw [qcX,iw,iw,iw,iw]
 unfold KA Kx
 simp only [decide_eq_true_eq,Bool.and_eq_true,Bool.and_eq_false_iff,decide_eq_false_iff_not,Decidable.not_not,ne_eq]
 by_cases h73:x.op=73
 ·rw [if_pos h73]
  have h4:=hc h73
  refine ⟨fun h=>by simp at h,?_⟩
  rintro (⟨hj2,_⟩ | ⟨⟨h,_⟩,_⟩ | ⟨hj2,_⟩)
  ·omega
  ·exact absurd h73 h
  ·omega
 ·rw [if_neg h73]
  by_cases hjmp:cls x.op=2∧(((t:Int)-k+9223372036854775808)%18446744073709551616-9223372036854775808-1+9223372036854775808)%18446744073709551616-9223372036854775808=x.off
  ·rw [if_pos hjmp]
   obtain ⟨hj2,hof⟩:=hjmp
   simp only [true_iff]
   by_cases h32:x.op=32
   ·left; exact ⟨hj2,.inr (.inr h32),by omega⟩
   ·by_cases hle:(t:Int)≤k
    ·left; exact ⟨hj2,.inl zO,by omega⟩
    ·by_cases hgt:(t:Int)=k+1
     ·right; left; exact ⟨⟨h73,h32⟩,by omega⟩
     ·right; right; exact ⟨hj2,⟨h73,h32⟩,by omega,by omega⟩
  ·rw [if_neg hjmp]
   simp only [Bool.and_eq_true,decide_eq_true_eq]
   constructor
   ·rintro ⟨h32,he⟩
    right; left
    exact ⟨⟨h73,h32⟩,by omega⟩
   ·rintro (⟨hj2,_,he⟩ | ⟨⟨_,h32⟩,he⟩ | ⟨hj2,_,_,he⟩)
    ·exact absurd ⟨hj2,by omega⟩ hjmp
    ·exact ⟨h32,by omega⟩
    ·exact absurd ⟨hj2,by omega⟩ hjmp
theorem qd0 (hl:z7 l) (hk:k<l.length) (hn:l.length≤1000000) {t:Int}:t∈Qj l k↔0≤t∧t<(l.length:Int)∧∃ x,l[k]?=some x∧qb1 x k t=true:=by
 have hx:l[k]?=some (l[k]'hk):=List.getElem?_eq_getElem hk
 have hok:=hl _ (List.mem_of_getElem? hx)
 rw [qam hk hx]
 simp only [List.mem_filter,Xc,Bool.and_eq_true,decide_eq_true_eq]
 constructor
 ·rintro ⟨h1,h2,h3⟩
  refine ⟨h2,h3,_,hx,?_⟩
  obtain ⟨m,rfl⟩:=Int.eq_ofNat_of_zero_le h2
  exact (qco hok (n:=l.length) hk zO hn).2 h1
 ·rintro ⟨h2,h3,x,hx',hb⟩
  have:x=l[k]:=Option.some.inj (hx'.symm.trans hx)
  subst this
  obtain ⟨m,rfl⟩:=Int.eq_ofNat_of_zero_le h2
  exact ⟨(qco hok (n:=l.length) hk zO hn).1 hb,h2,h3⟩
def qgC (l:List Ins) (k t:Nat):Bool:=match l[k]? with
 | some x=>qb1 x k t
 | none=>false
def Yj (n:Nat):List Bool:=bif decide (0<n) then (List.replicate 64 false).set 0 true else List.replicate 64 false
def YD (l:List Ins):List Bool:=ze (qgC l) (min l.length 64) (min l.length 64) (Yj (min l.length 64))
def Qf (l:List Ins):Nat:=ZV (YD l)
theorem KB (n:Nat):(Yj n).length=64:=by unfold Yj; cases decide (0<n) <;> simp
theorem qba (l:List Ins):(YD l).length=64:=by unfold YD; rw [Xw,KB]
theorem Ks (n i:Nat):(List.replicate n false).getD i false=false:=by
 rw [List.getD,List.getElem?_replicate]; split <;> rfl
theorem XP {i:Nat}:(Yj n).getD i false=true↔0<n∧i=0:=by
 unfold Yj
 by_cases h:0<n
 ·rw [decide_eq_true h]
  show ((List.replicate 64 false).set 0 true).getD i false=true↔_
  rw [Yk]
  by_cases hi:i=0
  ·subst hi; simp [h]
  ·simp only [hi,decide_false,Bool.false_and,cond_false,and_false,iff_false]
   rw [Ks]; simp
 ·rw [decide_eq_false h]
  show (List.replicate 64 false).getD i false=true↔_
  rw [Ks]; simp [h]
theorem Zd.lt (h:Zd l k):k<l.length:=by
 cases h with
 | zero h=>exact h
 | step h hz =>
  unfold Qj at hz
  split at hz
  ·cases hz
  ·split at hz
   ·simp only [List.mem_filter,Xc,Bool.and_eq_true,decide_eq_true_eq] at hz; omega
   ·cases hz
theorem Xy (hl:z7 l) (hn:n=min l.length 64) (hk:k<n) (ht:t<n):qgC l k t=true↔(t:Int)∈Qj (l.take 64) k:=by
 have hlen:(l.take 64).length=n:=by rw [List.length_take]; omega
 have hl':z7 (l.take 64):=fun x hx=>hl x (List.mem_of_mem_take hx)
 rw [qd0 hl' (by omega) (by omega),hlen]
 unfold qgC
 have e:(l.take 64)[k]?=l[k]?:=by rw [List.getElem?_take_of_lt (by omega)]
 rw [e]
 have hx:l[k]?=some (l[k]'zO):=List.getElem?_eq_getElem zO
 rw [hx]
 constructor
 ·intro h; exact ⟨by omega,by omega,_,rfl,h⟩
 ·rintro ⟨_,_,x,hx',hb⟩
  cases hx'
  exact hb
theorem qeR (h:0<n):1≤YK (Yj n):=by
 unfold Yj; rw [decide_eq_true h]; decide
theorem qbb (hl:z7 l) (i:Nat):(YD l).getD i false=true↔Zd (l.take 64) i:=by
 have hlen:(l.take 64).length=min l.length 64:=by rw [List.length_take]; omega
 unfold YD
 generalize hn:min l.length 64=n at *
 constructor
 ·refine Zu (P:=Zd (l.take 64)) (fun k t hk ht hr he=>?_) _ (fun i hi=>?_) n i
  ·exact hr.step ((Xy hl hn.symm hk ht).1 he)
  ·obtain ⟨h0,rfl⟩:=XP.1 hi
   exact .zero zO
 ·intro h
  have h0:0<n:=by have:=h.lt; omega
  have hfix:=qa4 (E:=qgC l) (n:=n) (o:=Yj n) (qeR h0) (fun i hi=>by have:=XP.1 hi; omega)
  induction h with
  | zero _=>exact (JC (Yj n) n).2 0 (XP.2 ⟨h0,rfl⟩)
  | @step k z hr hz ih =>
   have hk:k<n:=by have:=hr.lt; omega
   have hz2:z<n:=by have:=(Zd.step hr hz).lt; omega
   exact Kh hfix (by rw [Xw,KB]; omega) hk hz2 ih ((Xy hl hn.symm hk hz2).2 hz)
theorem qa9 (hl:z7 l) (i:Nat):(Qf l).testBit i=true↔Zd (l.take 64) i:=by
 unfold Qf; rw [K2]; exact qbb hl i
theorem qcQ (l:List Ins):Qu (Qf l):=by
 have:=K3 (YD l)
 rw [qba] at this
 exact this
theorem Ke (hl:z7 l) (h:∀ i,m.testBit i=true↔Zd (l.take 64) i):m=Qf l :=
 Nat.eq_of_testBit_eq fun i=>by
  have h1:=h i
  have h2:=qa9 hl i
  cases ha:m.testBit i <;> cases hb:(Qf l).testBit i <;> simp_all
def Jq (m:Nat):Nat:=((List.range 64).filter fun i=>!m.testBit i).length
theorem XX {α:Type} {p q:α→Bool}:∀ {l:List α},(∀ x∈l,q x=true→p x=true)→(∃ x∈l,p x=true∧q x=false)→(l.filter q).length<(l.filter p).length
 | [],_,⟨x,hx,_⟩=>by cases hx
 | y::l,h,⟨x,hx,hp,hq⟩=>by
  have hle:∀ {l:List α},(∀ x∈l,q x=true→p x=true)→(l.filter q).length≤(l.filter p).length:=by
   intro l
   induction l with
   | nil=>intro _; exact Nat.le_refl _
   | cons z l ih =>
    intro h
    have h1:=ih (fun x hx=>h x (List.mem_cons_of_mem _ hx))
    have h2:=h z List.mem_cons_self
    cases hz:q z <;> cases hz':p z <;> simp_all <;> omega
  have htl:∀ x∈l,q x=true→p x=true:=fun x hx=>h x (List.mem_cons_of_mem _ hx)
  rcases List.mem_cons.1 hx with rfl | hx
  ·have:=hle htl
   simp [hp,hq]; omega
  ·have:=XX htl ⟨x,hx,hp,hq⟩
   have h2:=h y List.mem_cons_self
   cases hy:q y <;> cases hy':p y <;> simp_all <;> omega
theorem K4 (m:Nat):Jq m≤64:=Nat.le_trans (List.length_filter_le _ _) (by simp)
theorem Jl (hz:0≤z∧z<64) (i:Nat):(m ||| zJ z).testBit i=(m.testBit i || decide (i=z.toNat)):=by
 unfold zJ
 rw [if_pos hz,Nat.testBit_or,Nat.testBit_two_pow]
 congr 1
 by_cases h:z.toNat=i
 ·subst h; simp
 ·rw [decide_eq_false h,decide_eq_false (fun e=>h e.symm)]
theorem qdv (hz:0≤z∧z<64) (h:m.testBit z.toNat=false):Jq (m ||| zJ z)+1≤Jq m:=by
 refine XX (fun x _ hx=>?_) ⟨z.toNat,List.mem_range.2 (by omega),by simp [h],by rw [Jl hz]; simp⟩
 rw [Jl hz] at hx
 cases hm:m.testBit x <;> simp_all
theorem qbi {k:Int} (h:z∈Qj c k):0≤z∧z<(c.length:Int):=by
 unfold Qj at h
 split at h
 ·cases h
 ·split at h
  ·simp only [List.mem_filter,Xc,Bool.and_eq_true,decide_eq_true_eq] at h; exact h.2
  ·cases h
theorem qcW (c:List Ins) (k:Int):(Qj c k).length≤3:=by
 unfold Qj
 split
 ·simp
 ·split
  ·exact Nat.le_trans (List.length_filter_le _ _) (Kp _ _ _ _ _ _)
  ·simp
structure Zj (c:List Ins) (m:Nat) (todo:List Int):Prop where
 ok:Qu m
 sound:∀ i,m.testBit i=true→Zd c i
 zero:0<c.length→m.testBit 0=true
 has:∀ z∈todo,∃ i:Nat,z=i∧i<64∧(m.testBit i=true∨c.length=0)
 closed:∀ i:Nat,m.testBit i=true→(i:Int)∈todo∨∀ z:Nat,(z:Int)∈Qj c i→m.testBit z=true
 room:todo.length+Jq m≤65
structure QY (c:List Ins) (k:Nat) (B:Nat) (j:Nat) (m:Nat) (todo:List Int):Prop where
 ok:Qu m
 sound:∀ i,m.testBit i=true→Zd c i
 zero:0<c.length→m.testBit 0=true
 has:∀ z∈todo,∃ i:Nat,z=i∧i<64∧(m.testBit i=true∨c.length=0)
 here:Zd c k∨c.length=0
 closed:∀ i:Nat,m.testBit i=true→(i:Int)∈todo∨(∀ z:Nat,(z:Int)∈Qj c i→m.testBit z=true)∨i=k
 done:∀ z:Nat,(z:Int)∈(Qj c k).take j→m.testBit z=true
 room:todo.length+Jq m≤64
 less:todo.length+2*Jq m+1≤B
theorem Zj.start (hc:c.length≤64):Zj c (Y6 ((min c.length 1:Nat):Int)) [0]:=by
 by_cases h:c.length=0
 ·have e:Y6 ((min c.length 1:Nat):Int)=0:=by rw [h]; rfl
  rw [e]
  refine ⟨by unfold Qu; decide,fun i hi=>by simp at hi,fun h'=>by omega,fun z hz=>⟨0,by simpa using hz,by omega,.inr h⟩,fun i hi=>by simp at hi,?_⟩
  have:=K4 0
  simp only [List.length_singleton]; omega
 ·have e:Y6 ((min c.length 1:Nat):Int)=1:=by rw [show min c.length 1=1 by omega]; rfl
  rw [e]
  have h1:∀ i,(1:Nat).testBit i=true→i=0:=fun i hi=>by
   have:(2 ^ 0:Nat).testBit i=true:=by simpa using hi
   rw [Nat.testBit_two_pow] at this
   simpa using (of_decide_eq_true this).symm
  refine ⟨by unfold Qu; decide,fun i hi=>by rw [h1 i hi]; exact .zero (by omega),fun _=>by decide,fun z hz=>⟨0,by simpa using hz,by omega,.inl (by decide)⟩,fun i hi=>by rw [h1 i hi]; exact .inl (by simp),?_⟩
  have:=K4 1
  simp only [List.length_singleton]; omega
theorem Zj.pop {t:List Int} (h:Zj c m (t++[(k:Int)])):QY c k ((t++[(k:Int)]).length+2*Jq m) 0 m t:=by
 have hr:=h.room
 simp only [List.length_append,List.length_singleton] at hr
 refine ⟨h.ok,h.sound,h.zero,fun z hz=>h.has z (List.mem_append_left _ hz),?_,fun i hi=>?_,fun z hz=>by simp at hz,by omega,by simp only [List.length_append,List.length_singleton]; omega⟩
 ·obtain ⟨i,e,_,hi⟩:=h.has k (by simp)
  have:i=k:=by omega
  subst this
  rcases hi with hi | hi
  ·exact .inl (h.sound _ hi)
  ·exact .inr hi
 ·rcases h.closed i hi with h1 | h1
  ·rcases List.mem_append.1 h1 with h2 | h2
   ·exact .inl h2
   ·right; right; simp at h2; omega
  ·exact .inr (.inl h1)
theorem QY.seen {j:Nat} {t:List Int} (h:QY c k B j m t) (hc:c.length≤64) (hz:(Qj c k)[j]?=some z) (hs:XR m z=true):QY c k B (j+1) m t:=by
 refine ⟨h.ok,h.sound,h.zero,h.has,h.here,h.closed,fun y hy=>?_,h.room,h.less⟩
 rw [Q2 hz] at hy
 rcases List.mem_append.1 hy with hy | hy
 ·exact h.done y hy
 ·simp at hy
  subst hy
  unfold XR at hs
  simp only [Bool.and_eq_true] at hs
  simpa using hs.2
theorem QY.new {j:Nat} {t:List Int} (h:QY c k B j m t) (hc:c.length≤64) (hz:(Qj c k)[j]?=some z) (hs:XR m z=false):QY c k B (j+1) (m ||| zJ z) (t++[z]):=by
 have hr:=qbi (List.mem_of_getElem? hz)
 have hz64:0≤z∧z<64:=by omega
 obtain ⟨y,rfl⟩:=Int.eq_ofNat_of_zero_le hr.1
 have hb:m.testBit y=false:=by
  unfold XR ZB at hs
  simpa [hz64.1,hz64.2] using hs
 have hu:=qdv (m:=m) hz64 (by simpa using hb)
 have hm:∀ i,m.testBit i=true→(m ||| zJ (y:Int)).testBit i=true:=fun i hi=>by rw [Jl hz64,hi]; rfl
 have hy:(m ||| zJ (y:Int)).testBit y=true:=by rw [Jl hz64]; simp
 have hrk:Zd c k:=by
  rcases h.here with h1 | h1
  ·exact h1
  ·omega
 refine ⟨qha h.ok _,fun i hi=>?_,fun h0=>hm 0 (h.zero h0),fun x hx=>?_,h.here,fun i hi=>?_,fun x hx=>?_,by have:=h.room; simp only [List.length_append,List.length_singleton]; omega,by have:=h.less; simp only [List.length_append,List.length_singleton]; omega⟩
 ·rw [Jl hz64] at hi
  rcases Bool.or_eq_true _ _ ▸ hi with h1 | h1
  ·exact h.sound i h1
  ·have:i=y:=by simpa using of_decide_eq_true h1
   subst this
   exact hrk.step (List.mem_of_getElem? hz)
 ·rcases List.mem_append.1 hx with hx | hx
  ·obtain ⟨i,e,h6,hi⟩:=h.has x hx
   exact ⟨i,e,h6,hi.imp (hm i) id⟩
  ·simp at hx; subst hx
   exact ⟨y,rfl,by omega,.inl hy⟩
 ·rw [Jl hz64] at hi
  rcases Bool.or_eq_true _ _ ▸ hi with h1 | h1
  ·rcases h.closed i h1 with h2 | h2 | h2
   ·exact .inl (List.mem_append_left _ h2)
   ·exact .inr (.inl fun x hx=>hm x (h2 x hx))
   ·exact .inr (.inr h2)
  ·have:i=y:=by simpa using of_decide_eq_true h1
   subst this
   exact .inl (by simp)
 ·rw [Q2 hz] at hx
  rcases List.mem_append.1 hx with hx | hx
  ·exact hm x (h.done x hx)
  ·simp at hx
   have:x=y:=by omega
   subst this; exact hy
theorem QY.over {t:List Int} (h:QY c k B (Qj c k).length m t):Zj c m t∧t.length+2*Jq m<B:=by
 refine ⟨⟨h.ok,h.sound,h.zero,h.has,fun i hi=>?_,by have:=h.room; omega⟩,by have:=h.less; omega⟩
 rcases h.closed i hi with h1 | h1 | h1
 ·exact .inl h1
 ·exact .inr h1
 ·subst h1
  right
  intro z hz
  exact h.done z (by rwa [List.take_length])
theorem Zj.all (hl:z7 l) (h:Zj (l.take 64) m []):m=Qf l:=by
 refine Ke hl fun i=>⟨h.sound i,fun hr=>?_⟩
 induction hr with
 | zero h0=>exact h.zero h0
 | @step k z _ hz ih =>
  rcases h.closed k ih with h1 | h1
  ·cases h1
  ·exact h1 z hz
theorem qbr {a b:List Value} (h:qq w0 H ad (a++b)):qq w0 H ad a:=fun j x hx=>h j x (by
 rw [List.getElem?_append_left (List.getElem?_eq_some_iff.1 hx).1]; exact hx)
theorem qas (h:qq w0 H ad (qI l)) (k:Nat):qq w0 H ad (qI (l.take k)):=by
 have e:qI l=qI (l.take k)++qI (l.drop k):=by rw [← List.flatMap_append,List.take_append_drop]
 rw [e] at h
 exact qbr h
theorem qc1 (l:List Int) (k:Nat):(Jp l).take k=Jp (l.take k):=by simp [Jp,List.map_take]
theorem qcP (l:List Ins) {cap:Nat} (hl:z7 l) (hn:l.length≤1000000) (hcap:l.length≤cap) (hrow:qq w0 H ad (qI l)) (hT:zN w0):qR Tryz.prog w0 H 44 [.slice ad l.length cap] (zu ((Qf l:Nat):Int)):=by
 obtain ⟨c,hc⟩:∃ c,c=l.take 64:=⟨_,rfl⟩
 have hcl:c.length=min 64 l.length:=by rw [hc,List.length_take]
 have hc64:c.length≤64:=by omega
 have hrc:qq w0 H ad (qI c):=by rw [hc]; exact qas hrow 64
 refine qi Tryz.func44 rfl Tryz.ntmps44 rfl rfl (za 6 rfl (zb rfl q6 rfl rfl ?_))
 refine qfe rfl rfl (m:=(c.length:Int)) (by rw [hcl]; split <;> omega) rfl ?_
 refine qaN (hh:=c.length) rfl q6 zo rfl ⟨_,rfl⟩ zO rfl ?_
 refine za 4 rfl (zb rfl q6 rfl rfl ?_)
 refine qfe rfl rfl (m:=((min c.length 1:Nat):Int)) (by split <;> omega) rfl ?_
 refine qB (zc1 rfl) Tryz.call86 rfl hT (qbu _) ?_
 refine qy (l:=Jp [0]) Qq ty3 (.cons rfl rfl rfl rfl rfl .nil) rfl rfl rfl rfl rfl rfl rfl (fun b17=>?_)
 refine za 5 rfl ?_
 refine ZH (X:=Nat × List Int × Value × qg) (fun | (m,_,v,_)=>[(0,.slice ad c.length cap),(3,zu (m:Int)),(4,v)]) (fun _=>[]) (fun | (_,_,_,HB)=>HB++H) (fun | (m,todo,v,HB)=>Zj c m todo∧qQ 3 1 v todo.length (Jp todo) HB) (fun | (m,todo,_,_)=>todo.length+2*Jq m) (Y6 ((min c.length 1:Nat):Int),[0],.slice (some ⟨b17,0,none⟩) 1 1,[(b17,.cells 3 (1*1) (Jp [0]))]) ⟨.start hc64,.own rfl zd zd⟩ (qc rfl (qc rfl (qc rfl (qm _)))) rfl (by first | exact qz | (repeat (first | exact qd.refl _ | refine qd.cons zT ?_ | refine qd.app (by repeat (first | exact qf.here _ | apply qf.next | apply qf.app)) ?_ | refine qd.drop ?_ | refine qd.dropS ?_ | exact qd.nil _))) ?_
 rintro ⟨m,todo,v,HB⟩ ⟨hI,hO⟩
 simp only
 obtain ⟨ad4,cap4,rfl,_,_⟩:=hO.shape
 refine za 3 rfl (zb rfl Qq rfl rfl (za 2 rfl ?_))
 refine qv (p:=0<(todo.length:Int)) rfl (by simp) (fun c0=>?_) (fun c0=>?_)
 ·skip
  refine za 3 rfl ?_
  obtain ⟨b4,cp4,hv,rfl,hcp⟩:=hO.pos zO
  cases hv
  obtain ⟨tds,z,rfl⟩:∃ tds z,todo=tds++[z]:=⟨todo.dropLast,todo.getLast (by intro e; rw [e] at c0; simp at c0),(List.dropLast_concat_getLast _).symm⟩
  obtain ⟨k,rfl,hk64,_⟩:=hI.has z (by simp)
  have hpop:=hI.pop
  have hr65:=hpop.room
  obtain ⟨B,hB⟩:∃ B,B=(tds++[(k:Int)]).length+2*Jq m:=⟨_,rfl⟩
  rw [← hB] at hpop ⊢
  have hln:(tds++[(k:Int)]).length=tds.length+1:=by simp
  refine za 2 rfl (zb rfl Qq rfl rfl ?_)
  refine qC rfl rfl (Jx (m:=(tds.length:Int)) ((ZN zO).trans zO)) rfl ?_
  refine qN (j:=tds.length) rfl rfl Qq ty3 rfl zO rfl rfl ?_
  refine qe rfl ty3 rfl (qh.own zM (by rw [Nat.zero_add,Nat.mul_one]; exact Xj (x:=(k:Int)) (by simp))) rfl ?_
  refine za 5 rfl (zb rfl Qq rfl rfl ?_)
  refine qC rfl rfl (Jx (m:=(tds.length:Int)) ((ZN zO).trans zO)) rfl ?_
  refine qaN (hh:=tds.length) rfl Qq ty3 rfl ⟨_,rfl⟩ zO rfl ?_
  refine za 3 rfl ?_
  obtain ⟨HB',hO',hsub⟩:=hO.cut (j:=tds.length) zO
  rw [show (Jp (tds++[(k:Int)])).take (tds.length*1)=Jp tds by rw [Nat.mul_one,qc1]; simp] at hO'
  refine qP (hsub H) ?_
  obtain ⟨r,hr⟩:∃ r,r=Qj c k:=⟨_,rfl⟩
  refine za 2 rfl ?_
  refine qu (zc2 rfl rfl) Tryz.call87 rfl (qhP c k ⟨by omega,by omega⟩ (hrc.up (by first | exact qz | (repeat (first | exact qd.refl _ | refine qd.cons zT ?_ | refine qd.app (by repeat (first | exact qf.here _ | apply qf.next | apply qf.app)) ?_ | refine qd.drop ?_ | refine qd.dropS ?_ | exact qd.nil _)))) hT) ?_
  rintro v34 H' ⟨HB34,hO34,rfl⟩
  rw [← hr] at hO34
  obtain ⟨ad34,cap34,rfl,hcap34,hmax34,hH34⟩:=qq.of_own (w0:=w0) (H:=HB34++(HB'++H)) hO34 (fun p hp=>List.mem_append_left _ hp)
  have hr62:r.length≤3:=by rw [hr]; exact qcW _ _
  refine zb rfl Qq rfl rfl (za 3 rfl ?_)
  refine ZH (X:=Nat × Nat × List Int × Value × qg) (fun | (j,m,_,v,_)=>[(0,.slice ad c.length cap),(3,zu (m:Int)),(4,v),(34,.slice ad34 r.length cap34),(35,zi (r.length:Int)),(36,zi (j:Int))]) (fun _=>[]) (fun | (_,_,_,_,HB)=>HB34++(HB++H)) (fun | (j,m,todo,v,HB)=>j≤r.length∧QY c k B j m todo∧qQ 3 1 v todo.length (Jp todo) HB) (fun | (j,_,_,_,_)=>r.length-j) (0,m,tds,.slice (some ⟨b4,0,none⟩) tds.length cap4,HB') ⟨Nat.zero_le _,hpop,hO'⟩ (qc rfl (qc rfl (qc rfl (qc rfl (qc rfl (qc rfl (qm _))))))) rfl (by first | exact qz | (repeat (first | exact qd.refl _ | refine qd.cons zT ?_ | refine qd.app (by repeat (first | exact qf.here _ | apply qf.next | apply qf.app)) ?_ | refine qd.drop ?_ | refine qd.dropS ?_ | exact qd.nil _))) ?_
  rintro ⟨j,m2,todo,v,HB2⟩ ⟨hj,hJ,hO2⟩
  simp only
  obtain ⟨ad2,cap2,rfl,_,_⟩:=hO2.shape
  have hroom:=hJ.room
  refine za 4 rfl ?_
  refine qv (p:=(j:Int)<(r.length:Int)) rfl (by simp) (fun c1=>?_) (fun c1=>?_)
  ·skip
   refine za 4 rfl ?_
   obtain ⟨z,hz⟩:∃ z,r[j]?=some z:=⟨_,List.getElem?_eq_getElem zO⟩
   obtain ⟨b,o,rfl,_⟩:=hH34 j _ (Xj hz)
   have hH34':=qq.of_own (w0:=w0) (H:=HB34++(HB2++H)) hO34 (fun p hp=>List.mem_append_left _ hp)
   obtain ⟨ad',cap',he,_,_,hH⟩:=hH34'
   cases he
   obtain ⟨b',o',he,hcz⟩:=hH j _ (Xj hz)
   cases he
   refine qN (j:=j) rfl rfl Qq ty3 rfl zO rfl rfl ?_
   refine qe rfl ty3 rfl (by rw [Nat.mul_one]; exact hcz) rfl ?_
   refine za 5 rfl (qB (zc2 rfl rfl) Tryz.call43 rfl hT (qhi _ _ hJ.ok) (za 2 rfl ?_))
   refine qw rfl (fun c2=>?_) (fun c2=>?_)
   ·skip
    refine za 3 rfl ?_
    refine qy Qq ty3 (.cons rfl rfl rfl rfl rfl .nil) rfl rfl rfl rfl rfl rfl rfl (fun b46=>?_)
    refine q9 (zc2 rfl rfl) Tryz.call88 rfl (qfo _ [z] hJ.ok (by simp) (qq.own zM) hT) ?_
    refine za 5 rfl ?_
    refine qy Qq ty3 (.cons rfl rfl rfl rfl rfl .nil) rfl rfl rfl rfl rfl rfl rfl (fun b50=>?_)
    refine zy (news:=[zi z]) (m:=1) (HB:=HB2) (H0:=HB34++H) rfl rfl Qq ty3 rfl (by decide) hO2 rfl (qq.own List.mem_cons_self) rfl (by simp only [maxLen]; omega) (by omega) (by first | exact qz | (repeat (first | exact qd.refl _ | refine qd.cons zT ?_ | refine qd.app (by repeat (first | exact qf.here _ | apply qf.next | apply qf.app)) ?_ | refine qd.drop ?_ | refine qd.dropS ?_ | exact qd.nil _))) rfl (fun v3 HB3 hO3=>?_)
    obtain ⟨ad3,cap3,rfl,_,_⟩:=hO3.shape
    refine za 4 rfl ?_
    refine qC rfl rfl (qX (m:=((j+1:Nat):Int)) ((ZN zO).trans zO)) rfl ?_
    refine za 2 rfl ?_
    refine qW (j+1,m2 ||| zJ z,todo++[z],_,HB3) ⟨by omega,hJ.new hc64 (hr ▸ hz) (by simpa using c2),by simpa [Jp] using hO3⟩ (by dsimp only; omega) (qc rfl (qc rfl (qc rfl (qc rfl (qc rfl (qc rfl (qm _))))))) rfl (by first | exact qz | (repeat (first | exact qd.refl _ | refine qd.cons zT ?_ | refine qd.app (by repeat (first | exact qf.here _ | apply qf.next | apply qf.app)) ?_ | refine qd.drop ?_ | refine qd.dropS ?_ | exact qd.nil _)))
   ·skip
    refine za 3 rfl ?_
    refine qC rfl rfl (qX (m:=((j+1:Nat):Int)) ((ZN zO).trans zO)) rfl ?_
    refine za 2 rfl ?_
    refine qW (j+1,m2,todo,_,HB2) ⟨by omega,hJ.seen hc64 (hr ▸ hz) (by simpa using c2),hO2⟩ (by dsimp only; omega) (qc rfl (qc rfl (qc rfl (qc rfl (qc rfl (qc rfl (qm _))))))) rfl (by first | exact qz | (repeat (first | exact qd.refl _ | refine qd.cons zT ?_ | refine qd.app (by repeat (first | exact qf.here _ | apply qf.next | apply qf.app)) ?_ | refine qd.drop ?_ | refine qd.dropS ?_ | exact qd.nil _)))
  ·skip
   refine za 2 rfl ?_
   obtain rfl:j=r.length:=by omega
   have hov:=QY.over (hr ▸ hJ)
   refine qW (m2,todo,_,HB2) ⟨hov.1,hO2⟩ hov.2 (qc rfl (qc rfl (qc rfl (qm _)))) rfl (by first | exact qz | (repeat (first | exact qd.refl _ | refine qd.cons zT ?_ | refine qd.app (by repeat (first | exact qf.here _ | apply qf.next | apply qf.app)) ?_ | refine qd.drop ?_ | refine qd.dropS ?_ | exact qd.nil _)))
 ·skip
  refine za 5 rfl ?_
  refine qj (H2:=H) Tryz.results44 rfl (.nil _) (by first | exact qz | (repeat (first | exact qd.refl _ | refine qd.cons zT ?_ | refine qd.app (by repeat (first | exact qf.here _ | apply qf.next | apply qf.app)) ?_ | refine qd.drop ?_ | refine qd.dropS ?_ | exact qd.nil _))) ?_
  obtain rfl:todo=[]:=List.eq_nil_of_length_eq_zero zO
  have hIl:Zj (l.take 64) m []:=by rw [← hc]; exact hI
  exact ⟨by rw [Zj.all hl hIl],rfl⟩
end Go.Proofs.YtcggkokeggfdkaaGreatDoor
