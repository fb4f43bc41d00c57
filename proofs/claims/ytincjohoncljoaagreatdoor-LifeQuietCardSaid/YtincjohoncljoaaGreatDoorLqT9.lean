/-
  Own work: contracts of functions that the statement reaches, and plain facts on what they compute; each theorem says its conditions.
-/
import Derived.Test.YtincjohoncljoaaGreatDoorLqT8
import Derived.Test.YtincjohoncljoaaGreatDoorLqS2
import Derived.Test.YtincjohoncljoaaGreatDoorLqA
set_option linter.all false
set_option linter.unusedSimpArgs false
set_option linter.unusedVariables false
set_option maxHeartbeats 16000000
namespace Go.Proofs.YtincjohoncljoaaGreatDoor
open Go Go.Sl
variable {n lb wb T:Nat} {w0:World} {H HF HB:qg} {z p k:Int} {R:List (Int × Cnt)} {F:Lf} {Q Rs:List (Int × Int)} {As:List ZL} {on:List Int} {G:Gr}
attribute [local irreducible] W
def lf0 (n:Nat) (Ws:List Wl):Lf:=⟨n,[none,none,none,none],Ws,[],[],List.replicate 256 Qy,[],[],List.replicate 256 QE,List.replicate 32 0,gr0 n,gr0 n,[],[]⟩
theorem qjW (h:1≤n∧n≤64):JE n (gr0 n):=⟨qbA.start,by omega,fun l b p e=>(by cases e),Int.le_refl 0,(by show (0:Int)≤0∧(0:Int)≤1000000000; decide),(by show (0:Int)≤1000000000; decide)⟩
theorem us0:JP []:=⟨fun p hp=>(by cases hp),List.nodup_nil⟩
theorem ms0 (T:Nat):XV T [(none,false),(none,false),(none,false),(none,false)] [none,none,none,none] [[],[],[],[]]:=⟨rfl,rfl,rfl,fun k c y X e1 e2 e3=>by
 have hk:=(List.getElem?_eq_some_iff.1 e1).1
 have:k=0∨k=1∨k=2∨k=3:=by simp at hk; omega
 rcases this with rfl | rfl | rfl | rfl <;> (cases e1; cases e2; cases e3; exact .none)⟩
set_option maxRecDepth 100000
theorem qgM {now:Nat} (hn:1≤n∧n≤64) (hnow:now≤18446744073709551615) :qh Tryz.prog w0 38 #[zi (n:Int),zu ((now:Nat):Int)] (H) (fun v H'=>∃ lb Ws HF,v=.tuple #[zp lb,zi 0]∧qV lb 8 (lf0 n Ws) HF∧Ws.length=n∧(∀ w∈Ws,XW now w)∧H'=HF++H):=by
 refine qc (l:=[zi (n:Int),zu ((now:Nat):Int)]) Tryz.func38 rfl Tryz.ntmps38 rfl rfl ?_
 refine za 7 rfl ?_
 refine qk (zc2 rfl rfl) Tryz.call105 rfl (qmO (now:=now) hn) ?_
 rintro v H' ⟨tb,Ws,HT,rfl,hT,hWl,hfr,rfl⟩
 refine za 16 rfl ?_
 refine KO (kf:=(Value.int .i64)) rfl (fun b20=>?_)
 refine qX (l:=[zi ((n:Nat):Int),.pointer none,.bool false,.pointer none,.bool false,.pointer none,.bool false,.pointer none,.bool false,zp tb,.pointer none,.pointer none,.pointer none,.pointer none,.map (some b20)]) ty134 pl134 (.cons rfl rfl rfl rfl rfl (.cons rfl rfl rfl rfl rfl (.cons rfl rfl rfl rfl rfl .nil))) rfl rfl rfl ?_
 refine qK (l:=[zi ((n:Nat):Int),.pointer none,.bool false,.pointer none,.bool false,.pointer none,.bool false,.pointer none,.bool false,zp tb,.pointer none,.pointer none,.pointer none,.pointer none,.map (some b20)]) rfl rfl rfl (fun b22=>?_)
 refine za 5 rfl (qk (zc1 rfl) Tryz.call106 rfl (qo6 hn) ?_)
 rintro v H' ⟨wb,HW,rfl,hW,rfl⟩
 refine za 5 rfl ?_
 refine qv (l':=[zi ((n:Nat):Int),.pointer none,.bool false,.pointer none,.bool false,.pointer none,.bool false,.pointer none,.bool false,zp tb,zp wb,.pointer none,.pointer none,.pointer none,.map (some b20)]) rfl rfl Jn rfl rfl (b:=b22) zM rfl rfl zU ?_
 refine za 4 rfl (qk (zc1 rfl) Tryz.call107 rfl (qj0 hn) ?_)
 rintro v H' ⟨g1,H1_,rfl,hg1,rfl⟩
 refine za 5 rfl ?_
 refine qv (l':=[zi ((n:Nat):Int),.pointer none,.bool false,.pointer none,.bool false,.pointer none,.bool false,.pointer none,.bool false,zp tb,zp wb,zp g1,.pointer none,.pointer none,.map (some b20)]) rfl rfl qaS rfl rfl (b:=b22) zM rfl rfl zU ?_
 refine za 4 rfl (qk (zc1 rfl) Tryz.call107 rfl (qj0 hn) ?_)
 rintro v H' ⟨g2,H2_,rfl,hg2,rfl⟩
 refine za 5 rfl ?_
 refine qv (l':=[zi ((n:Nat):Int),.pointer none,.bool false,.pointer none,.bool false,.pointer none,.bool false,.pointer none,.bool false,zp tb,zp wb,zp g1,zp g2,.pointer none,.map (some b20)]) rfl rfl qaS rfl rfl (b:=b22) zM rfl rfl zU ?_
 refine za 3 rfl ?_
 refine qk (zc1 rfl) Tryz.call108 rfl (qjh (top:=8) zd) ?_
 rintro v H' ⟨rb,HR,hR,rfl,rfl⟩
 refine za 5 rfl ?_
 refine qv (l':=[zi ((n:Nat):Int),.pointer none,.bool false,.pointer none,.bool false,.pointer none,.bool false,.pointer none,.bool false,zp tb,zp wb,zp g1,zp g2,zp rb,.map (some b20)]) rfl rfl X7 rfl rfl (b:=b22) zM rfl rfl zU ?_
 refine za 6 rfl ?_
 refine qL (H2:=(b22,.cells 134 15 [zi ((n:Nat):Int),.pointer none,.bool false,.pointer none,.bool false,.pointer none,.bool false,.pointer none,.bool false,zp tb,zp wb,zp g1,zp g2,zp rb,.map (some b20)])::(HT++(HW++(H1_++(H2_++(HR++((b20,.obj (qM (Value.int .i64) [] 0))::H))))))) Tryz.results38 rfl rfl (.nil _) zH ?_
 exact ⟨b22,Ws,(b22,.cells 134 15 [zi ((n:Nat):Int),.pointer none,.bool false,.pointer none,.bool false,.pointer none,.bool false,.pointer none,.bool false,zp tb,zp wb,zp g1,zp g2,zp rb,.map (some b20)])::(HT++(HW++(H1_++(H2_++(HR++([(b20,.obj (qM (Value.int .i64) [] 0))]++([[],[],[],[]]:List qg).flatten)))))),rfl,.mk (F:=lf0 n Ws) hT ((tok0 hnow hfr).up (Nat.zero_le _)) hW hg1 (qjW hn) hg2 (qjW hn) hR us0 (.mk (E:=[]) (QP.nil 0) rfl) (ms0 8),hWl,hfr,by simp only [List.cons_append,List.append_assoc]; rfl⟩
theorem qbr:Qx Tryz.prog (fun _=>True) 72 [zp lb,zi z,zi p] (zi (if (0≤z∧z<64)∧0≤p∧p<16 then 0 else 2)):=by
 intro w0 H hT
 refine qc Tryz.func72 rfl Tryz.ntmps72 rfl rfl (za 7 rfl ?_)
 refine W_x (qr rfl rfl KR) (fun _ h=>by cases h) rfl ?_
 refine za 5 rfl ?_
 rcases (show z<0∨(¬ z<0∧64≤z)∨(¬ z<0∧¬ 64≤z∧p<0)∨(¬ z<0∧¬ 64≤z∧¬ p<0∧16≤p)∨(¬ z<0∧¬ 64≤z∧¬ p<0∧¬ 16≤p) by omega) with hz | hz | hz | hz | hz
 ·skip
  refine za 1 rfl ?_
  first | rw [decide_eq_true (by omega)] | rw [decide_eq_false (by omega)]
  refine za 18 rfl ?_
  refine qd (H2:=H) Tryz.results72 rfl (.nil _) zH ?_
  rw [if_neg (by omega)]
  exact ⟨rfl,rfl⟩
 ·skip
  refine za 1 rfl ?_
  first | rw [decide_eq_true (by omega)] | rw [decide_eq_false (by omega)]
  refine za 5 rfl ?_
  first | rw [decide_eq_true (by omega)] | rw [decide_eq_false (by omega)]
  refine za 15 rfl ?_
  refine qd (H2:=H) Tryz.results72 rfl (.nil _) zH ?_
  rw [if_neg (by omega)]
  exact ⟨rfl,rfl⟩
 ·skip
  refine za 1 rfl ?_
  first | rw [decide_eq_true (by omega)] | rw [decide_eq_false (by omega)]
  refine za 5 rfl ?_
  first | rw [decide_eq_true (by omega)] | rw [decide_eq_false (by omega)]
  refine za 6 rfl ?_
  first | rw [decide_eq_true (by omega)] | rw [decide_eq_false (by omega)]
  refine za 11 rfl ?_
  refine qd (H2:=H) Tryz.results72 rfl (.nil _) zH ?_
  rw [if_neg (by omega)]
  exact ⟨rfl,rfl⟩
 ·skip
  refine za 1 rfl ?_
  first | rw [decide_eq_true (by omega)] | rw [decide_eq_false (by omega)]
  refine za 5 rfl ?_
  first | rw [decide_eq_true (by omega)] | rw [decide_eq_false (by omega)]
  refine za 6 rfl ?_
  first | rw [decide_eq_true (by omega)] | rw [decide_eq_false (by omega)]
  refine za 6 rfl ?_
  first | rw [decide_eq_true (by omega)] | rw [decide_eq_false (by omega)]
  refine za 7 rfl ?_
  refine qd (H2:=H) Tryz.results72 rfl (.nil _) zH ?_
  rw [if_neg (by omega)]
  exact ⟨rfl,rfl⟩
 ·skip
  refine za 1 rfl ?_
  first | rw [decide_eq_true (by omega)] | rw [decide_eq_false (by omega)]
  refine za 5 rfl ?_
  first | rw [decide_eq_true (by omega)] | rw [decide_eq_false (by omega)]
  refine za 6 rfl ?_
  first | rw [decide_eq_true (by omega)] | rw [decide_eq_false (by omega)]
  refine za 6 rfl ?_
  first | rw [decide_eq_true (by omega)] | rw [decide_eq_false (by omega)]
  refine za 9 rfl ?_
  refine qd (H2:=H) Tryz.results72 rfl (.nil _) zH ?_
  rw [if_pos (by omega)]
  exact ⟨rfl,rfl⟩
theorem JP.len (h:JP R):R.length<64:=by
 have:=KG (n:=16) h.nd (fun x hx=>by obtain ⟨p,hp,rfl⟩:=List.mem_map.1 hx; exact (h.rng p hp).2.2.2)
 rw [List.length_map] at this; omega
theorem JP.cnt (h:JP R):∀ p∈R,0≤p.2.n∧p.2.n≤65535:=fun p hp=>by have:=h.rng p hp; omega
theorem qeX {c:Cnt} (h:qaw R k=some c):(k,c)∈R:=by
 unfold qaw at h
 obtain ⟨q,hq,rfl⟩:=Option.map_eq_some_iff.1 h
 have h1:k=q.1:=by simpa using List.find?_some hq
 subst h1
 exact List.mem_of_find?_eq_some hq
theorem qhY (h:qaw R k=none):k ∉ R.map (·.1):=by
 unfold qaw at h
 rw [Option.map_eq_none_iff,List.find?_eq_none] at h
 intro hk
 obtain ⟨q,hq,e⟩:=List.mem_map.1 hk
 exact h q hq (decide_eq_true e.symm)
theorem qhz (R:List (Int × Cnt)) (k:Int) (c:Cnt):(qb6 R k c).map (·.1)=R.map (·.1):=by
 unfold qb6; rw [List.map_map]
 exact List.map_congr_left fun q _=>by show (if k=q.1 then (q.1,c) else q).1=q.1; split <;> rfl
theorem JP.setc (h:JP R) {c:Cnt} (hc:1≤c.n∧c.n≤8∧c.top=8):JP (qb6 R k c):=⟨fun p hp=>by
 obtain ⟨q,hq,rfl⟩:=List.mem_map.1 hp
 have:=h.rng q hq
 show 1≤(if k=q.1 then (q.1,c) else q).2.n∧_
 split
 ·exact ⟨hc.1,hc.2.1,hc.2.2,this.2.2.2⟩
 ·exact this,by rw [qhz]; exact h.nd⟩
theorem JP.hold (h:JP R) (hk:0≤k∧k<16):JP (Zi R 8 k).1:=by
 unfold Zi
 cases hg:qaw R k with
 | none =>
  refine ⟨fun p hp=>?_,?_⟩
  ·rcases List.mem_append.1 hp with hp | hp
   ·exact h.rng p hp
   ·obtain rfl:=List.mem_singleton.1 hp
    exact ⟨(by show (1:Int)≤1; decide),(by show (1:Int)≤8; decide),rfl,hk⟩
  ·rw [List.map_append,List.nodup_append]
   refine ⟨h.nd,by simp,fun a ha b hb=>?_⟩
   obtain rfl:=List.mem_singleton.1 hb
   exact fun e=>qhY hg (e ▸ ha)
 | some c =>
  have hc:=h.rng _ (qeX hg)
  refine h.setc ?_
  dsimp only at hc
  unfold XE
  split
  ·omega
  ·split
   ·exact ⟨hc.1,hc.2.1,hc.2.2.1⟩
   ·split
    ·exact ⟨hc.1,hc.2.1,hc.2.2.1⟩
    ·exact ⟨by show 1≤c.n+1; omega,by show c.n+1≤8; omega,hc.2.2.1⟩
theorem JP.drop (h:JP R) (k:Int):JP (ZJ R k).1:=by
 unfold ZJ
 cases hg:qaw R k with
 | none=>exact h
 | some c =>
  have hc:=h.rng _ (qeX hg)
  dsimp only at hc ⊢
  split
  ·exact ⟨fun p hp=>h.rng p (List.mem_filter.1 hp).1,h.nd.sublist (List.filter_sublist.map _)⟩
  ·rename_i hl
   refine h.setc ?_
   unfold Zh at hl ⊢
   split
   ·omega
   ·split
    ·exact ⟨hc.1,hc.2.1,hc.2.2.1⟩
    ·rename_i c0 c1
     rw [if_neg c0,if_neg c1] at hl
     simp at hl
     exact ⟨by show 1≤c.n-1; omega,by show c.n-1≤8; omega,hc.2.2.1⟩
def Zl (R:List (Int × Cnt)) (prog was:Int) (had:Bool):List (Int × Cnt) × Int:=if (Zi R 8 prog).2≠0 then (Zi R 8 prog) else ((if had=true then (ZJ (Zi R 8 prog).1 was).1 else (Zi R 8 prog).1),0)
theorem JP.use (h:JP R) {prog:Int} (hk:0≤prog∧prog<16) (was:Int) (had:Bool):JP (Zl R prog was had).1:=by
 unfold Zl
 split
 ·exact h.hold hk
 ·dsimp only
  split
  ·exact (h.hold hk).drop was
  ·exact h.hold hk
theorem qjF {HR:qg} {tb g1 g2 rb db:Nat} {M:List (Option Nat × Bool)} (hM4:M.length=4) {prog was:Int} {had:Bool} (hR:Jb rb 8 R HR) (hU:JP R) (hp:0≤prog∧prog<16) :qh Tryz.prog w0 74 #[zp lb,zi prog,zi was,.bool had] ((lb,.cells 134 15 (qu n M tb wb g1 g2 rb db))::(HR++H)) (fun v H'=>∃ HR',Jb rb 8 (Zl R prog was had).1 HR'∧v=zi (Zl R prog was had).2∧H'=(lb,.cells 134 15 (qu n M tb wb g1 g2 rb db))::(HR'++H)):=by
 refine qc (l:=[zp lb,zi prog,zi was,.bool had]) Tryz.func74 rfl Tryz.ntmps74 rfl rfl ?_
 refine za 8 rfl ?_
 refine qe (v:=zp rb) rfl X7 rfl (qf.own (b:=lb) zM (Qf (j:=4) hM4)) rfl ?_
 refine qD rfl rfl ?_
 refine qy (l:=[zi prog]) qZ ty3 (.cons rfl rfl rfl rfl rfl .nil) rfl rfl rfl rfl rfl rfl rfl (fun b15=>?_)
 refine qk (zc2 rfl rfl) Tryz.call163 rfl ((qm7 hR zd hU.cnt hU.len (ad:=some ⟨b15,0,none⟩) (cap:=1) (k:=prog) (Holds.own (b:=b15) zM) (H:=(b15,.cells 3 1 [zi prog])::(lb,.cells 134 15 (qu n M tb wb g1 g2 rb db))::H)).hsub zH) ?_
 rintro v H' ⟨HR2,hR2,rfl,rfl⟩
 refine za 6 rfl ?_
 refine qm (p:=(Zi R 8 prog).2≠0) rfl (by simp) (fun q0=>?_) (fun q0=>?_)
 ·skip
  refine za 4 rfl ?_
  refine qd (H2:=(lb,.cells 134 15 (qu n M tb wb g1 g2 rb db))::(HR2++H)) Tryz.results74 rfl (.nil _) zH ?_
  have e:Zl R prog was had=Zi R 8 prog:=if_pos q0
  rw [e]
  exact ⟨HR2,hR2,rfl,rfl⟩
 ·skip
  refine za 5 rfl ?_
  refine qm (p:=had=true) rfl .rfl (fun q1=>?_) (fun q1=>?_)
  ·skip
   refine za 4 rfl ?_
   refine qe (v:=zp rb) rfl X7 rfl (qf.own (b:=lb) zM (Qf (j:=4) hM4)) rfl ?_
   refine qD rfl rfl ?_
   refine qk (zc2 rfl rfl) Tryz.call160 rfl ((Jb.drop hR2 (hU.hold hp).cnt (k:=was) (H:=(lb,.cells 134 15 (qu n M tb wb g1 g2 rb db))::H)).hsub zH) ?_
   rintro v H' ⟨HR3,hR3,rfl,rfl⟩
   refine za 4 rfl ?_
   refine qd (H2:=(lb,.cells 134 15 (qu n M tb wb g1 g2 rb db))::(HR3++H)) Tryz.results74 rfl (.nil _) zH ?_
   have e:Zl R prog was had=((ZJ (Zi R 8 prog).1 was).1,0):=by unfold Zl; rw [if_neg q0,if_pos q1]
   rw [e]
   exact ⟨HR3,hR3,rfl,rfl⟩
  ·skip
   refine za 4 rfl ?_
   refine qd (H2:=(lb,.cells 134 15 (qu n M tb wb g1 g2 rb db))::(HR2++H)) Tryz.results74 rfl (.nil _) zH ?_
   have e:Zl R prog was had=((Zi R 8 prog).1,0):=by unfold Zl; rw [if_neg q0,if_neg q1]
   rw [e]
   exact ⟨HR2,hR2,rfl,rfl⟩
def cbF (F:Lf) (z p:Int):Lf × Int:=if ¬ ((0≤z∧z<64)∧0≤p∧p<16) then (F,2) else if stateA F.Ws F.Qt F.At z=4 then (F,22) else if stateA F.Ws F.Qt F.At z=0 then (F,1) else if 0<(ofA F.At z).prog∧max ((ofA F.At z).prog-1) 0=p then (F,0) else if (Zl F.us p (max ((ofA F.At z).prog-1) 0) (decide (0<(ofA F.At z).prog))).2≠0 then ({ F with us:=(Zl F.us p (max ((ofA F.At z).prog-1) 0) (decide (0<(ofA F.At z).prog))).1 },(Zl F.us p (max ((ofA F.At z).prog-1) 0) (decide (0<(ofA F.At z).prog))).2) else ({ F with us:=(Zl F.us p (max ((ofA F.At z).prog-1) 0) (decide (0<(ofA F.At z).prog))).1,At:=(setA F.At z p).1 },(setA F.At z p).2)
def wkF (F:Lf) (z p:Int):Lf × Int:=if ¬ ((0≤z∧z<64)∧0≤p∧p<16) then (F,2) else if stateW F.Qw F.Aw z=3 then (F,22) else if 0<(ofW F.Aw z).prog∧max ((ofW F.Aw z).prog-1) 0=p then (F,0) else if (Zl F.us p (max ((ofW F.Aw z).prog-1) 0) (decide (0<(ofW F.Aw z).prog))).2≠0 then ({ F with us:=(Zl F.us p (max ((ofW F.Aw z).prog-1) 0) (decide (0<(ofW F.Aw z).prog))).1 },(Zl F.us p (max ((ofW F.Aw z).prog-1) 0) (decide (0<(ofW F.Aw z).prog))).2) else ({ F with us:=(Zl F.us p (max ((ofW F.Aw z).prog-1) 0) (decide (0<(ofW F.Aw z).prog))).1,Aw:=F.Aw.set z.toNat (Xw p (ofW F.Aw z)).1 },(Xw p (ofW F.Aw z)).2)
theorem qV.callback (hF:qV lb T F HF) :qh Tryz.prog w0 23 #[zp lb,zi z,zi p] (HF++H) (fun v H'=>∃ HF',qV lb T (cbF F z p).1 HF'∧v=zi (cbF F z p).2∧H'=HF'++H):=by
 cases hF with
 | @mk tb wb g1 g2 rb db M HT HW H1 H2 HR HD HM hT hO hW h1 o1 h2 o2 hR hU hD hM =>
 have e0:((lb,.cells 134 15 (qu F.n M tb wb g1 g2 rb db))::(HT++(HW++(H1++(H2++(HR++(HD++HM.flatten)))))))++H=(lb,.cells 134 15 (qu F.n M tb wb g1 g2 rb db))::(HT++(HW++(H1++(H2++(HR++(HD++(HM.flatten++H))))))):=by simp only [List.cons_append,List.append_assoc]
 rw [e0]
 refine qc (l:=[zp lb,zi z,zi p]) Tryz.func23 rfl Tryz.ntmps23 rfl rfl ?_
 refine za 8 rfl ?_
 refine qT (zc3 rfl rfl rfl) Tryz.call72 rfl (T:=fun _=>True) trivial (qbr (z:=z) (p:=p)) ?_
 by_cases hr:((0≤z∧z<64)∧0≤p∧p<16)
 ·skip
  rw [if_pos hr]
  refine za 12 rfl ?_
  refine qe (v:=zp tb) rfl QX rfl (qf.own (b:=lb) zM (Qf (j:=0) hM.m4)) rfl ?_
  refine qD rfl rfl ?_
  refine qn (zc2 rfl rfl) Tryz.call78 rfl (qgA (id:=z) hT (fun p hp=>List.mem_cons_of_mem _ (List.mem_append_left _ hp))) ?_
  refine za 11 rfl ?_
  refine qe (v:=zp tb) rfl QX rfl (qf.own (b:=lb) zM (Qf (j:=0) hM.m4)) rfl ?_
  refine qD rfl rfl ?_
  refine qk (zc2 rfl rfl) Tryz.call34 rfl ((qhg (id:=z) hT (H:=(lb,.cells 134 15 (qu F.n M tb wb g1 g2 rb db))::(HW++(H1++(H2++(HR++(HD++(HM.flatten++H)))))))).hsub zH) ?_
  rintro v H' ⟨HT2,hT2,rfl,rfl⟩
  refine za 8 rfl ?_
  refine qm (p:=stateA F.Ws F.Qt F.At z=4) rfl (by simp) (fun q0=>?_) (fun q0=>?_)
  ·skip
   refine za 3 rfl ?_
   refine qd (H2:=(lb,.cells 134 15 (qu F.n M tb wb g1 g2 rb db))::(HT2++(HW++(H1++(H2++(HR++(HD++(HM.flatten++H)))))))) Tryz.results23 rfl (.nil _) zH ?_
   have hrr:¬ ¬ ((0≤z∧z<64)∧0≤p∧p<16):=fun h=>h hr
   have e:cbF F z p=(F,22):=by unfold cbF; rw [if_neg hrr,if_pos q0]
   rw [e]
   exact ⟨_,.mk hT2 hO hW h1 o1 h2 o2 hR hU hD hM,rfl,by simp only [List.cons_append,List.append_assoc]⟩
  ·skip
   refine za 5 rfl ?_
   refine qm (p:=stateA F.Ws F.Qt F.At z=0) rfl (by simp) (fun q1=>?_) (fun q1=>?_)
   ·skip
    refine za 3 rfl ?_
    refine qd (H2:=(lb,.cells 134 15 (qu F.n M tb wb g1 g2 rb db))::(HT2++(HW++(H1++(H2++(HR++(HD++(HM.flatten++H)))))))) Tryz.results23 rfl (.nil _) zH ?_
    have hrr:¬ ¬ ((0≤z∧z<64)∧0≤p∧p<16):=fun h=>h hr
    have e:cbF F z p=(F,1):=by unfold cbF; rw [if_neg hrr,if_neg q0,if_pos q1]
    rw [e]
    exact ⟨_,.mk hT2 hO hW h1 o1 h2 o2 hR hU hD hM,rfl,by simp only [List.cons_append,List.append_assoc]⟩
   ·skip
    refine za 3 rfl ?_
    apply qdx
    iterate 4 exact rfl
    case h1 =>
     intro hg1
     refine za 6 rfl ?_
     exact Q3 rfl zR
    refine za 2 rfl ?_
    refine qm (p:=0<(ofA F.At z).prog∧(max ((ofA F.At z).prog-1) 0)=p) rfl (by simp) (fun q2=>?_) (fun q2=>?_)
    ·skip
     refine za 3 rfl ?_
     refine qd (H2:=(lb,.cells 134 15 (qu F.n M tb wb g1 g2 rb db))::(HT2++(HW++(H1++(H2++(HR++(HD++(HM.flatten++H)))))))) Tryz.results23 rfl (.nil _) zH ?_
     have hrr:¬ ¬ ((0≤z∧z<64)∧0≤p∧p<16):=fun h=>h hr
     have e:cbF F z p=(F,0):=by unfold cbF; rw [if_neg hrr,if_neg q0,if_neg q1,if_pos q2]
     rw [e]
     exact ⟨_,.mk hT2 hO hW h1 o1 h2 o2 hR hU hD hM,rfl,by simp only [List.cons_append,List.append_assoc]⟩
    ·skip
     refine za 8 rfl ?_
     refine qk (zc4 rfl rfl rfl rfl) Tryz.call74 rfl ((qjF (n:=F.n) (lb:=lb) (tb:=tb) (wb:=wb) (g1:=g1) (g2:=g2) (db:=db) (M:=M) hM.m4 (prog:=p) (was:=(max ((ofA F.At z).prog-1) 0)) (had:=(decide (0<(ofA F.At z).prog))) hR hU hr.2 (H:=HT2++(HW++(H1++(H2++(HD++(HM.flatten++H))))))).hsub zH) ?_
     rintro v H' ⟨HR2,hR2,rfl,rfl⟩
     refine za 6 rfl ?_
     refine qm (p:=(Zl F.us p (max ((ofA F.At z).prog-1) 0) (decide (0<(ofA F.At z).prog))).2≠0) rfl (by simp) (fun q3=>?_) (fun q3=>?_)
     ·skip
      refine za 4 rfl ?_
      refine qd (H2:=(lb,.cells 134 15 (qu F.n M tb wb g1 g2 rb db))::(HT2++(HW++(H1++(H2++(HR2++(HD++(HM.flatten++H)))))))) Tryz.results23 rfl (.nil _) zH ?_
      have hrr:¬ ¬ ((0≤z∧z<64)∧0≤p∧p<16):=fun h=>h hr
      have e:cbF F z p=({ F with us:=(Zl F.us p (max ((ofA F.At z).prog-1) 0) (decide (0<(ofA F.At z).prog))).1 },(Zl F.us p (max ((ofA F.At z).prog-1) 0) (decide (0<(ofA F.At z).prog))).2):=by unfold cbF; rw [if_neg hrr,if_neg q0,if_neg q1,if_neg q2,if_pos q3]
      rw [e]
      exact ⟨_,.mk (F:={ F with us:=(Zl F.us p (max ((ofA F.At z).prog-1) 0) (decide (0<(ofA F.At z).prog))).1 }) hT2 hO hW h1 o1 h2 o2 hR2 (hU.use hr.2 _ _) hD hM,rfl,by simp only [List.cons_append,List.append_assoc]⟩
     ·skip
      refine za 5 rfl ?_
      refine qe (v:=zp tb) rfl QX rfl (qf.own (b:=lb) zM (Qf (j:=0) hM.m4)) rfl ?_
      refine za 2 rfl ?_
      refine qk (zc3 rfl rfl rfl) Tryz.call79 rfl ((Set_L (id:=z) (prog:=p) hT2 (H:=(lb,.cells 134 15 (qu F.n M tb wb g1 g2 rb db))::(HW++(H1++(H2++(HR2++(HD++(HM.flatten++H)))))))).hsub zH) ?_
      rintro v H' ⟨HT3,hT3,rfl,rfl⟩
      refine za 2 rfl ?_
      refine qd (H2:=(lb,.cells 134 15 (qu F.n M tb wb g1 g2 rb db))::(HT3++(HW++(H1++(H2++(HR2++(HD++(HM.flatten++H)))))))) Tryz.results23 rfl (.nil _) zH ?_
      have hrr:¬ ¬ ((0≤z∧z<64)∧0≤p∧p<16):=fun h=>h hr
      have e:cbF F z p=({ F with us:=(Zl F.us p (max ((ofA F.At z).prog-1) 0) (decide (0<(ofA F.At z).prog))).1,At:=(setA F.At z p).1 },(setA F.At z p).2):=by unfold cbF; rw [if_neg hrr,if_neg q0,if_neg q1,if_neg q2,if_neg q3]
      rw [e]
      exact ⟨_,.mk (F:={ F with us:=(Zl F.us p (max ((ofA F.At z).prog-1) 0) (decide (0<(ofA F.At z).prog))).1,At:=(setA F.At z p).1 }) hT3 (hO.setA z p) hW h1 o1 h2 o2 hR2 (hU.use hr.2 _ _) hD hM,rfl,by simp only [List.cons_append,List.append_assoc]⟩
 ·skip
  rw [if_neg hr]
  refine za 11 rfl ?_
  refine qd (H2:=(lb,.cells 134 15 (qu F.n M tb wb g1 g2 rb db))::(HT++(HW++(H1++(H2++(HR++(HD++(HM.flatten++H)))))))) Tryz.results23 rfl (.nil _) zH ?_
  have e:cbF F z p=(F,2):=if_pos hr
  rw [e]
  exact ⟨_,.mk hT hO hW h1 o1 h2 o2 hR hU hD hM,rfl,by simp only [List.cons_append,List.append_assoc]⟩
theorem Jm.prog (h:Jm wb n Q Rs As on HB) (hs:∀ p∈HB,p∈H) {id:Int}:qB Tryz.prog w0 H 73 [zp wb,zi id] (.tuple #[zi (max ((ofW As id).prog-1) 0),.bool (decide (0<(ofW As id).prog))]):=by
 cases h with
 | mk hP hA hn=>exact qmE hA (hs _ List.mem_cons_self)
theorem Jm.state (h:Jm wb n Q Rs As on HB) {id:Int}:qh Tryz.prog w0 35 #[zp wb,zi id] (HB++H) (fun v H'=>v=zi (stateW Q As id)∧H'=HB++H):=by
 cases h with
 | mk hP hA hn=>exact qhn hP hn hA
theorem qi5 {o:ZL} (hp:0≤p∧p<16) (h:0≤o.prog∧o.prog≤16):0≤(Xw p o).1.prog∧(Xw p o).1.prog≤16:=by
 unfold Xw; split
 ·exact h
 ·show 0≤p+1∧p+1≤16; omega
theorem Jm.set (h:Jm wb n Q Rs As on HB) (hz:0≤z∧z<256) (hp:0≤p∧p<16):qh Tryz.prog w0 75 #[zp wb,zi z,zi p] (HB++H) (fun v H'=>∃ HB',Jm wb n Q Rs (As.set z.toNat (Xw p (ofW As z)).1) on HB'∧v=zi (Xw p (ofW As z)).2∧H'=HB'++H):=by
 cases h with
 | @mk pb HP hP hA hn =>
  obtain ⟨i,rfl⟩:∃ i:Nat,z=(i:Int):=⟨z.toNat,by omega⟩
  obtain ⟨o,ho⟩:=hA.at (i:=i) zO
  rw [Xx (by omega) ho,Int.toNat_natCast]
  refine (qmD (H:=HP++H) ho zO hp).mono ?_
  rintro v H' ⟨rfl,rfl⟩
  exact ⟨_,.mk hP (hA.set i (qi5 hp (hA.rng o (List.mem_of_getElem? ho)))) hn,rfl,rfl⟩
theorem qV.work (hF:qV lb T F HF) :qh Tryz.prog w0 20 #[zp lb,zi z,zi p] (HF++H) (fun v H'=>∃ HF',qV lb T (wkF F z p).1 HF'∧v=zi (wkF F z p).2∧H'=HF'++H):=by
 cases hF with
 | @mk tb wb g1 g2 rb db M HT HW H1 H2 HR HD HM hT hO hW h1 o1 h2 o2 hR hU hD hM =>
 have e0:((lb,.cells 134 15 (qu F.n M tb wb g1 g2 rb db))::(HT++(HW++(H1++(H2++(HR++(HD++HM.flatten)))))))++H=(lb,.cells 134 15 (qu F.n M tb wb g1 g2 rb db))::(HT++(HW++(H1++(H2++(HR++(HD++(HM.flatten++H))))))):=by simp only [List.cons_append,List.append_assoc]
 rw [e0]
 refine qc (l:=[zp lb,zi z,zi p]) Tryz.func20 rfl Tryz.ntmps20 rfl rfl ?_
 refine za 8 rfl ?_
 refine qT (zc3 rfl rfl rfl) Tryz.call72 rfl (T:=fun _=>True) trivial (qbr (z:=z) (p:=p)) ?_
 by_cases hr:((0≤z∧z<64)∧0≤p∧p<16)
 ·skip
  rw [if_pos hr]
  refine za 12 rfl ?_
  refine qe (v:=zp wb) rfl Jn rfl (qf.own (b:=lb) zM (Qf (j:=1) hM.m4)) rfl ?_
  refine qD rfl rfl ?_
  refine qn (zc2 rfl rfl) Tryz.call73 rfl (hW.prog (id:=z) (fun p hp=>List.mem_cons_of_mem _ (List.mem_append_right _ (List.mem_append_left _ hp)))) ?_
  refine za 12 rfl ?_
  refine qe (v:=zp wb) rfl Jn rfl (qf.own (b:=lb) zM (Qf (j:=1) hM.m4)) rfl ?_
  refine qD rfl rfl ?_
  refine qk (zc2 rfl rfl) Tryz.call35 rfl ((hW.state (id:=z) (H:=(lb,.cells 134 15 (qu F.n M tb wb g1 g2 rb db))::(HT++(H1++(H2++(HR++(HD++(HM.flatten++H)))))))).hsub zH) ?_
  rintro v H' ⟨rfl,rfl⟩
  refine za 3 rfl ?_
  refine qm (p:=stateW F.Qw F.Aw z=3) rfl (by simp) (fun q0=>?_) (fun q0=>?_)
  ·skip
   refine za 3 rfl ?_
   refine qd (H2:=(lb,.cells 134 15 (qu F.n M tb wb g1 g2 rb db))::(HT++(HW++(H1++(H2++(HR++(HD++(HM.flatten++H)))))))) Tryz.results20 rfl (.nil _) zH ?_
   have hrr:¬ ¬ ((0≤z∧z<64)∧0≤p∧p<16):=fun h=>h hr
   have e:wkF F z p=(F,22):=by unfold wkF; rw [if_neg hrr,if_pos q0]
   rw [e]
   exact ⟨_,.mk hT hO hW h1 o1 h2 o2 hR hU hD hM,rfl,by simp only [List.cons_append,List.append_assoc]⟩
  ·skip
   refine za 3 rfl ?_
   apply qdx
   iterate 4 exact rfl
   case h1 =>
    intro hg1
    refine za 6 rfl ?_
    exact Q3 rfl zR
   refine za 2 rfl ?_
   refine qm (p:=0<(ofW F.Aw z).prog∧(max ((ofW F.Aw z).prog-1) 0)=p) rfl (by simp) (fun q1=>?_) (fun q1=>?_)
   ·skip
    refine za 3 rfl ?_
    refine qd (H2:=(lb,.cells 134 15 (qu F.n M tb wb g1 g2 rb db))::(HT++(HW++(H1++(H2++(HR++(HD++(HM.flatten++H)))))))) Tryz.results20 rfl (.nil _) zH ?_
    have hrr:¬ ¬ ((0≤z∧z<64)∧0≤p∧p<16):=fun h=>h hr
    have e:wkF F z p=(F,0):=by unfold wkF; rw [if_neg hrr,if_neg q0,if_pos q1]
    rw [e]
    exact ⟨_,.mk hT hO hW h1 o1 h2 o2 hR hU hD hM,rfl,by simp only [List.cons_append,List.append_assoc]⟩
   ·skip
    refine za 8 rfl ?_
    refine qk (zc4 rfl rfl rfl rfl) Tryz.call74 rfl ((qjF (n:=F.n) (lb:=lb) (tb:=tb) (wb:=wb) (g1:=g1) (g2:=g2) (db:=db) (M:=M) hM.m4 (prog:=p) (was:=(max ((ofW F.Aw z).prog-1) 0)) (had:=(decide (0<(ofW F.Aw z).prog))) hR hU hr.2 (H:=HT++(HW++(H1++(H2++(HD++(HM.flatten++H))))))).hsub zH) ?_
    rintro v H' ⟨HR2,hR2,rfl,rfl⟩
    refine za 6 rfl ?_
    refine qm (p:=(Zl F.us p (max ((ofW F.Aw z).prog-1) 0) (decide (0<(ofW F.Aw z).prog))).2≠0) rfl (by simp) (fun q2=>?_) (fun q2=>?_)
    ·skip
     refine za 4 rfl ?_
     refine qd (H2:=(lb,.cells 134 15 (qu F.n M tb wb g1 g2 rb db))::(HT++(HW++(H1++(H2++(HR2++(HD++(HM.flatten++H)))))))) Tryz.results20 rfl (.nil _) zH ?_
     have hrr:¬ ¬ ((0≤z∧z<64)∧0≤p∧p<16):=fun h=>h hr
     have e:wkF F z p=({ F with us:=(Zl F.us p (max ((ofW F.Aw z).prog-1) 0) (decide (0<(ofW F.Aw z).prog))).1 },(Zl F.us p (max ((ofW F.Aw z).prog-1) 0) (decide (0<(ofW F.Aw z).prog))).2):=by unfold wkF; rw [if_neg hrr,if_neg q0,if_neg q1,if_pos q2]
     rw [e]
     exact ⟨_,.mk (F:={ F with us:=(Zl F.us p (max ((ofW F.Aw z).prog-1) 0) (decide (0<(ofW F.Aw z).prog))).1 }) hT hO hW h1 o1 h2 o2 hR2 (hU.use hr.2 _ _) hD hM,rfl,by simp only [List.cons_append,List.append_assoc]⟩
    ·skip
     refine za 5 rfl ?_
     refine qe (v:=zp wb) rfl Jn rfl (qf.own (b:=lb) zM (Qf (j:=1) hM.m4)) rfl ?_
     refine za 2 rfl ?_
     refine qk (zc3 rfl rfl rfl) Tryz.call75 rfl ((hW.set (z:=z) (p:=p) zO hr.2 (H:=(lb,.cells 134 15 (qu F.n M tb wb g1 g2 rb db))::(HT++(H1++(H2++(HR2++(HD++(HM.flatten++H)))))))).hsub zH) ?_
     rintro v H' ⟨HW2,hW2,rfl,rfl⟩
     refine za 2 rfl ?_
     refine qd (H2:=(lb,.cells 134 15 (qu F.n M tb wb g1 g2 rb db))::(HT++(HW2++(H1++(H2++(HR2++(HD++(HM.flatten++H)))))))) Tryz.results20 rfl (.nil _) zH ?_
     have hrr:¬ ¬ ((0≤z∧z<64)∧0≤p∧p<16):=fun h=>h hr
     have e:wkF F z p=({ F with us:=(Zl F.us p (max ((ofW F.Aw z).prog-1) 0) (decide (0<(ofW F.Aw z).prog))).1,Aw:=F.Aw.set z.toNat (Xw p (ofW F.Aw z)).1 },(Xw p (ofW F.Aw z)).2):=by unfold wkF; rw [if_neg hrr,if_neg q0,if_neg q1,if_neg q2]
     rw [e]
     exact ⟨_,.mk (F:={ F with us:=(Zl F.us p (max ((ofW F.Aw z).prog-1) 0) (decide (0<(ofW F.Aw z).prog))).1,Aw:=F.Aw.set z.toNat (Xw p (ofW F.Aw z)).1 }) hT hO hW2 h1 o1 h2 o2 hR2 (hU.use hr.2 _ _) hD hM,rfl,by simp only [List.cons_append,List.append_assoc]⟩
 ·skip
  rw [if_neg hr]
  refine za 11 rfl ?_
  refine qd (H2:=(lb,.cells 134 15 (qu F.n M tb wb g1 g2 rb db))::(HT++(HW++(H1++(H2++(HR++(HD++(HM.flatten++H)))))))) Tryz.results20 rfl (.nil _) zH ?_
  have e:wkF F z p=(F,2):=if_pos hr
  rw [e]
  exact ⟨_,.mk hT hO hW h1 o1 h2 o2 hR hU hD hM,rfl,by simp only [List.cons_append,List.append_assoc]⟩
attribute [local irreducible] Qb
def qdo (dy:List (Int × Hd)) (z:Int) (h:Hd):List (Int × Hd):=if dy.any (fun p=>decide (z=p.1))=true then dy.map (fun p=>if z=p.1 then (p.1,h) else p) else dy++[(z,h)]
def Zj (G:Gr) (n:Nat) (z:Nat):Gr:=match G.Q[z%n]? with
 | some q=>{ G with Q:=G.Q.set (z%n) (qgf q (z:Int)) }
 | none=>G
def qe7 (F:Lf) (z:Nat) (h:Hd):Lf:={ F with
 Ws:=(Qb F.Ws F.Qt F.At [(z:Int)]).1,Qt:=(Qb F.Ws F.Qt F.At [(z:Int)]).2.1,At:=(Qb F.Ws F.Qt F.At [(z:Int)]).2.2.1,
 Qw:=ZC F.Qw (z:Int),Aw:=F.Aw.set z { ofW F.Aw (z:Int) with shut:=true },dy:=qdo F.dy (z:Int) h,tr:=Zj F.tr F.n z }
theorem JE.call (h:JE n G) (z:Nat):JE n (Zj G n z):=by
 unfold Zj
 split
 ·exact ⟨h.sok,h.n,h.left,h.last,h.beg,h.st⟩
 ·exact h
theorem qpP (E:List Dye) (z:Int):Z3 (E.map Dye.ent) z=(E.map Dye.p).any (fun p=>decide (z=p.1)):=by
 unfold Z3
 rw [List.any_map,List.any_map]; rfl
theorem qpO (E:List Dye) (cl:Nat) (z:Int) (h:Hd):∃ E':List Dye,Yd (E.map Dye.ent) cl z (.agg (List.toArray (hdC h)))=E'.map Dye.ent∧E'.map Dye.p=qdo (E.map Dye.p) z h:=by
 unfold Yd qdo
 rw [qpP]
 cases hh:(E.map Dye.p).any (fun p=>decide (z=p.1)) with
 | true =>
  rw [if_pos rfl,if_pos rfl]
  refine ⟨E.map (fun e=>if z=e.key then { e with h:=h } else e),?_,?_⟩
  ·rw [List.map_map,List.map_map]
   exact List.map_congr_left fun e _=>by show (if z=e.key then _ else _)=Dye.ent (if z=e.key then _ else e); split <;> rfl
  ·rw [List.map_map,List.map_map]
   exact List.map_congr_left fun e _=>by show Dye.p (if z=e.key then _ else e)=(if z=e.key then _ else _); split <;> rfl
 | false =>
  rw [if_neg (by decide),if_neg (by decide)]
  exact ⟨E++[⟨z,h,cl⟩],by rw [List.map_append]; rfl,by rw [List.map_append]; rfl⟩
theorem Jm.shut (h:Jm wb n Q Rs As on HB) {z:Nat} (hz:z<256) {ad:Option Addr} {cap:Nat} (hrow:∀ HZ:qg,Holds w0 (HZ++H) ad [zi (z:Int)]):qh Tryz.prog w0 151 #[zp wb,.slice ad 1 cap] (HB++H) (fun v H'=>∃ HB',Jm wb n (ZC Q (z:Int)) Rs (As.set z { ofW As (z:Int) with shut:=true }) on HB'∧(∃ m,v=zi m)∧H'=HB'++H):=by
 cases h with
 | @mk pb HP hP hA hn =>
  obtain ⟨o,ho⟩:=hA.at (i:=z) hz
  rw [Xx hz ho]
  refine (qiM (H:=H) hP hn ho hz (hrow [])).mono ?_
  rintro v H' ⟨HP2,hP2,hv,rfl⟩
  exact ⟨_,.mk hP2 (hA.set z (o:={ o with shut:=true }) (hA.rng o (List.mem_of_getElem? ho))) hn,hv,rfl⟩
theorem GrH.len {gb:Nat} {HG:qg} (h:GrH gb n G HG):G.Q.length=n:=by
 cases h with
 | mk hS hL=>exact hL.facts.1
theorem GrH.call {HG:qg} {gb:Nat} (hG:GrH gb n G HG) (hok:JE n G) {z:Nat} {ad:Option Addr} {cap:Nat} (hrow:∀ HZ:qg,Holds w0 (HZ++H) ad [zi (z:Int)]):qh Tryz.prog w0 70 #[zp gb,zi ((z%n:Nat):Int),.slice ad 1 cap] (HG++H) (fun v H'=>∃ HG',GrH gb n (Zj G n z) HG'∧(∃ m,v=zi m)∧H'=HG'++H):=by
 have hk:z%n<n:=Nat.mod_lt _ hok.n.1
 obtain ⟨q,hq⟩:∃ q,G.Q[z%n]?=some q:=⟨_,List.getElem?_eq_getElem (by rw [hG.len]; exact hk)⟩
 refine (qj1 (H:=H) hG hok hk hq hrow).mono ?_
 rintro v H' ⟨HG',hG',rfl,rfl⟩
 have e:Zj G n z={ G with Q:=G.Q.set (z%n) (qgf q (z:Int)) }:=by unfold Zj; rw [hq]
 rw [e]
 exact ⟨HG',hG',⟨_,rfl⟩,rfl⟩
theorem qV.die (hF:qV lb T F HF) {i s z:Nat} {h:Hd} (hi:i<4) (hs:s<16) (hsl:h.slot=(s:Int)) (hz:z=16*i+s) :qh Tryz.prog w0 62 #[zp lb,zi (i:Int),.agg (List.toArray (hdC h))] (HF++H) (fun v H'=>∃ HF',qV lb T (qe7 F z h) HF'∧v=.tuple #[]∧H'=HF'++H):=by
 cases hF with
 | @mk tb wb g1 g2 rb db M HT HW H1 H2 HR HD HM hT hO hW h1 o1 h2 o2 hR hU hD hM =>
 cases hD with
 | @mk E cl hok hdy =>
 have e0:((lb,.cells 134 15 (qu F.n M tb wb g1 g2 rb db))::(HT++(HW++(H1++(H2++(HR++([(db,.obj (qM (Value.int .i64) ((E).map Dye.ent) cl))]++HM.flatten)))))))++H=(lb,.cells 134 15 (qu F.n M tb wb g1 g2 rb db))::(HT++(HW++(H1++(H2++(HR++((db,.obj (qM (Value.int .i64) ((E).map Dye.ent) cl))::(HM.flatten++H))))))):=by simp only [List.cons_append,List.append_assoc,List.nil_append]
 rw [e0]
 obtain ⟨E2,hE2,hp2⟩:=qpO E cl ((z:Nat):Int) h
 obtain ⟨cl2,hcl2⟩:∃ cl2,cl2=Kb (E.map Dye.ent) cl ((z:Nat):Int):=⟨_,rfl⟩
 have hok2:=hok.put ((z:Nat):Int) (.agg (List.toArray (hdC h)))
 rw [hE2,← hcl2] at hok2
 refine qc (l:=[zp lb,zi (i:Int),.agg (List.toArray (hdC h))]) Tryz.func62 rfl Tryz.ntmps62 rfl rfl ?_
 refine ze ?_
 refine qK (l:=hdC h) rfl rfl rfl (fun b5=>?_)
 refine za 3 rfl ?_
 refine qE rfl rfl (qdw (m:=((16*i:Nat):Int)) (by rw [zg (by omega)]; omega)) rfl ?_
 refine za 1 rfl ?_
 refine qe (v:=zi h.slot) rfl ty3 rfl (qf.own (b:=b5) zM rfl) rfl ?_
 refine qE rfl rfl (qQ (m:=((z:Nat):Int)) (by rw [hsl,zg (by omega)]; omega)) rfl ?_
 refine za 6 rfl ?_
 refine qe (v:=zp tb) rfl QX rfl (qf.own (b:=lb) zM (Qf (j:=0) hM.m4)) rfl ?_
 refine qD rfl rfl ?_
 refine qy (l:=[zi ((z:Nat):Int)]) qZ ty3 (.cons rfl rfl rfl rfl rfl .nil) rfl rfl rfl rfl rfl rfl rfl (fun b17=>?_)
 refine qk (zc2 rfl rfl) Tryz.call150 rfl ((qqb hT hO (ids:=[((z:Nat):Int)]) (ad:=some ⟨b17,0,none⟩) (cap:=1) (by show 1≤1000000; decide) (Holds.own (b:=b17) zM) (H:=(b17,.cells 3 1 [zi ((z:Nat):Int)])::(b5,.cells 40 2 (hdC h))::(lb,.cells 134 15 (qu F.n M tb wb g1 g2 rb db))::(HW++(H1++(H2++(HR++((db,.obj (qM (Value.int .i64) ((E).map Dye.ent) cl))::(HM.flatten++H)))))))).hsub zH) ?_
 rintro v H' ⟨HT2,hT2,hO2,rfl,rfl⟩
 refine za 5 rfl ?_
 refine qe (v:=zp wb) rfl Jn rfl (qf.own (b:=lb) zM (Qf (j:=1) hM.m4)) rfl ?_
 refine qD rfl rfl ?_
 refine qy (l:=[zi ((z:Nat):Int)]) qZ ty3 (.cons rfl rfl rfl rfl rfl .nil) rfl rfl rfl rfl rfl rfl rfl (fun b24=>?_)
 refine qk (zc2 rfl rfl) Tryz.call151 rfl ((hW.shut (z:=z) zO (fun HZ=>Holds.own (b:=b24) (List.mem_append_right _ List.mem_cons_self)) (cap:=1) (H:=(b24,.cells 3 1 [zi ((z:Nat):Int)])::(b5,.cells 40 2 (hdC h))::(lb,.cells 134 15 (qu F.n M tb wb g1 g2 rb db))::(HT2++(H1++(H2++(HR++((db,.obj (qM (Value.int .i64) ((E).map Dye.ent) cl))::(HM.flatten++H)))))))).hsub zH) ?_
 rintro v H' ⟨HW2,hW2,⟨m2,rfl⟩,rfl⟩
 refine za 2 rfl ?_
 refine W_anyC [(b5,.cells 40 2 (hdC h)),(lb,.cells 134 15 (qu F.n M tb wb g1 g2 rb db))] zk ?_
 refine zw [0,1,2] rfl rfl ?_
 refine WC_take 3 rfl zK zK zK rfl rfl (qj (v:=.map (some db)) rfl Yi rfl (qf.own (b:=lb) zM (Qf (j:=5) hM.m4))) rfl ?_
 refine zw [4] rfl rfl ?_
 refine WC_take 5 rfl zK zK zK rfl rfl (Qm (vs:=hdC h) rfl qR rfl (b:=b5) zM rfl rfl) rfl ?_
 refine WC_one 6 zH zK rfl rfl ?_
 refine J4 (a:=((z:Nat):Int)) (v:=.agg (List.toArray (hdC h))) (l:=E.map Dye.ent) (cl:=cl) (kf:=(Value.int .i64)) (b:=db) rfl rfl rfl kkI Yi hok zU ?_
 refine qs (WC_goal (WC_done zH zK ?_))
 rw [hE2,← hcl2]
 refine W_anyC [(lb,.cells 134 15 (qu F.n M tb wb g1 g2 rb db))] zk ?_
 refine zw [0,1,2] rfl rfl ?_
 refine WC_take 3 rfl zK zK zK rfl rfl (qj (v:=zp g1) rfl qaS rfl (qf.own (b:=lb) zM (Qf (j:=2) hM.m4))) rfl ?_
 refine zw [4,5,6,7] rfl rfl ?_
 refine WC_take 8 rfl zK zK zK rfl rfl (qj (v:=zi ((F.n:Nat):Int)) rfl ty3 rfl (qf.own (b:=lb) zM rfl)) rfl ?_
 refine WC_take 9 rfl zK zK zK rfl rfl (QU rfl rfl (YK (by have:=o1.n; omega) (m:=((z%F.n:Nat):Int)) (qhp z F.n))) rfl ?_
 refine zw [10] rfl rfl ?_
 refine WC_one 11 zH zK rfl rfl ?_
 refine qy (l:=[zi ((z:Nat):Int)]) qZ ty3 (.cons rfl rfl rfl rfl rfl .nil) rfl rfl rfl rfl rfl rfl rfl (fun b43=>?_)
 refine qs (WC_goal ?_)
 refine WC_one 12 zH zK rfl rfl ?_
 refine qk (zc3 rfl rfl rfl) Tryz.call70 rfl ((h1.call o1 (z:=z) (fun HZ=>Holds.own (b:=b43) (List.mem_append_right _ List.mem_cons_self)) (cap:=1) (H:=(b43,.cells 3 1 [zi ((z:Nat):Int)])::(b5,.cells 40 2 (hdC h))::(lb,.cells 134 15 (qu F.n M tb wb g1 g2 rb db))::(HT2++(HW2++(H2++(HR++((db,.obj (qM (Value.int .i64) ((E2).map Dye.ent) cl2))::(HM.flatten++H)))))))).hsub zH) ?_
 rintro v H' ⟨H12,h12,⟨m3,rfl⟩,rfl⟩
 refine qs (WC_goal (WC_done zH zK ?_))
 refine Zn (H2:=(lb,.cells 134 15 (qu F.n M tb wb g1 g2 rb db))::(HT2++(HW2++(H12++(H2++(HR++((db,.obj (qM (Value.int .i64) ((E2).map Dye.ent) cl2))::(HM.flatten++H)))))))) Tryz.results62 (.nil _) zH ?_
 have eF:qe7 F z h={ F with Ws:=(Qb F.Ws F.Qt F.At [(z:Int)]).1,Qt:=(Qb F.Ws F.Qt F.At [(z:Int)]).2.1,At:=(Qb F.Ws F.Qt F.At [(z:Int)]).2.2.1,Qw:=ZC F.Qw (z:Int),Aw:=F.Aw.set z { ofW F.Aw (z:Int) with shut:=true },dy:=qdo F.dy (z:Int) h,tr:=Zj F.tr F.n z }:=by unfold qe7; rfl
 rw [eF]
 exact ⟨(lb,.cells 134 15 (qu F.n M tb wb g1 g2 rb db))::(HT2++(HW2++(H12++(H2++(HR++([(db,.obj (qM (Value.int .i64) ((E2).map Dye.ent) cl2))]++HM.flatten)))))),.mk (F:={ F with Ws:=(Qb F.Ws F.Qt F.At [(z:Int)]).1,Qt:=(Qb F.Ws F.Qt F.At [(z:Int)]).2.1,At:=(Qb F.Ws F.Qt F.At [(z:Int)]).2.2.1,Qw:=ZC F.Qw (z:Int),Aw:=F.Aw.set z { ofW F.Aw (z:Int) with shut:=true },dy:=qdo F.dy (z:Int) h,tr:=Zj F.tr F.n z }) hT2 hO2 hW2 h12 (o1.call _) h2 o2 hR hU (.mk hok2 (by rw [hp2,hdy])) hM,rfl,by simp only [List.cons_append,List.append_assoc,List.nil_append]⟩
end Go.Proofs.YtincjohoncljoaaGreatDoor
namespace Go.Proofs.YtincjohoncljoaaGreatDoor
open Go Go.Sl
variable {F:Lf} {i T mb b5 b8 lb wb:Nat} {M:List (Option Nat × Bool)} {HM:List qg} {h:Hd} {x:Xm} {w0:World} {H X HF:qg} {k m how:Int} {ws:List Int} {b:Bool}
attribute [local irreducible] W
def JC (F:Lf) (m:Int):Option (Xm × Bool):=if 0≤m∧m<4 then (F.ms[m.toNat]?).getD none else none
def qi8 (F:Lf) (m:Int) (y:Option (Xm × Bool)):Lf:={ F with ms:=F.ms.set m.toNat y }
theorem qgK {y:Option (Xm × Bool)} (hi:i<4) (h:F.ms[i]?=some y):JC F (i:Int)=y:=by
 unfold JC; rw [if_pos (by omega),Int.toNat_natCast,h]; rfl
theorem XV.ways (h:XV T M F.ms HM) (m:Int):(JC F m=none∧qco M m=.pointer none)∨∃ (i mb:Nat) (x:Xm) (b:Bool) (X:qg),m=(i:Int)∧i<4∧M[i]?=some (some mb,b)∧F.ms[i]?=some (some (x,b))∧HM[i]?=some X∧XmH mb T x X∧JC F m=some (x,b)∧qco M m=zp mb:=by
 have hm4:=h.m4; have hs4:=h.s4; have hh4:=h.h4
 by_cases hr:0≤m∧m<4
 ·obtain ⟨i,rfl⟩:∃ i:Nat,m=(i:Int):=⟨m.toNat,by omega⟩
  have hi:i<4:=by omega
  obtain ⟨c,e1⟩:∃ c,M[i]?=some c:=⟨_,List.getElem?_eq_getElem zO⟩
  obtain ⟨y,e2⟩:∃ y,F.ms[i]?=some y:=⟨_,List.getElem?_eq_getElem zO⟩
  obtain ⟨X,e3⟩:∃ X,HM[i]?=some X:=⟨_,List.getElem?_eq_getElem zO⟩
  have h5:=h.at_ i c y X e1 e2 e3
  cases h5 with
  | none=>exact .inl ⟨qgK hi e2,by rw [qdQ hi e1]; rfl⟩
  | @some mb x b X hx=>exact .inr ⟨i,mb,x,b,X,rfl,hi,e1,e2,e3,hx,qgK hi e2,by rw [qdQ hi e1]; rfl⟩
 ·exact .inl ⟨if_neg hr,qcn hr⟩
def Xn (F:Lf) (m k:Int):Lf × Hd × Int:=match JC F m with
 | none=>(F,zHd,4)
 | some (x,b)=>(qi8 F m (some ((x.find k).1,b)),(x.find k).2.1,(x.find k).2.2)
def qbD (F:Lf) (m:Int) (h:Hd):Int × Int:=match JC F m with
 | none=>(0,4)
 | some (x,_)=>if (x.key h).2=0 then (16*m+h.slot,0) else (0,(x.key h).2)
theorem qlt {L:List Slt} (he:Qc L h=0):0≤h.slot∧h.slot<(L.length:Int):=by
 unfold Qc at he
 by_cases c:h.slot<0∨(L.length:Int)≤h.slot
 ·rw [if_pos c] at he; cases he
 ·omega
theorem Xm.Ok.len16 (h:x.Ok):x.L.length≤16:=by rw [h.len]; have:=h.ent; omega
theorem qjJ (hX:XmH mb T x X) (hTl:T≤1000000) :qh Tryz.prog w0 63 #[zp mb,zp b5,zp b8] ((b5,.cells 30 1 [zu k])::(b8,.cells 40 2 (hdC zHd))::(X++H)) (fun v H'=>∃ X2,XmH mb (T+1) (x.find k).1 X2∧v=zi (x.find k).2.2∧H'=(b5,.cells 30 1 [zu k])::(b8,.cells 40 2 (hdC (x.find k).2.1))::(X2++H)):=by
 refine qc (l:=[zp mb,zp b5,zp b8]) Tryz.func63 rfl Tryz.ntmps63 rfl rfl ?_
 refine za 5 rfl ?_
 refine qe (v:=zu k) rfl zJ rfl (qf.own (b:=b5) zM rfl) rfl ?_
 refine qO (H':=X++((b5,.cells 30 1 [zu k])::(b8,.cells 40 2 (hdC zHd))::H)) zH ?_
 refine qk (zc2 rfl rfl) Tryz.call64 rfl (hX.find hTl (k:=k) (H:=(b5,.cells 30 1 [zu k])::(b8,.cells 40 2 (hdC zHd))::H)) ?_
 rintro v H' ⟨X2,hX2,rfl,rfl⟩
 refine za 3 rfl ?_
 refine qp (l:=hdC zHd) qR rfl rfl (fun b5_=>?_)
 refine ql (l':=hdC (x.find k).2.1) rfl rfl qR rfl rfl (b:=b5_) zM (by exact Nat.le_refl 2) rfl zU ?_
 refine za 3 rfl ?_
 refine qJ (vs:=hdC (x.find k).2.1) rfl qR rfl (b:=b5_) zM rfl rfl rfl ?_
 refine ql (l':=hdC (x.find k).2.1) rfl rfl qR rfl rfl (b:=b8) zM (by exact Nat.le_refl 2) rfl zU ?_
 refine za 5 rfl ?_
 refine qd (H2:=(b5,.cells 30 1 [zu k])::(b8,.cells 40 2 (hdC (x.find k).2.1))::(X2++H)) Tryz.results63 rfl (.nil _) zH ?_
 exact ⟨X2,hX2,rfl,rfl⟩
theorem qV.find (hF:qV lb T F HF) (hTl:T≤1000000) :qh Tryz.prog w0 15 #[zp lb,zi m,zu k] (HF++H) (fun v H'=>∃ HF',qV lb (T+1) (Xn F m k).1 HF'∧v=.tuple #[.agg (List.toArray (hdC (Xn F m k).2.1)),zi (Xn F m k).2.2]∧H'=HF'++H):=by
 cases hF with
 | @mk tb wb g1 g2 rb db M HT HW H1 H2 HR HD HM hT hO hW h1 o1 h2 o2 hR hU hD hM =>
 have e0:((lb,.cells 134 15 (qu F.n M tb wb g1 g2 rb db))::(HT++(HW++(H1++(H2++(HR++(HD++HM.flatten)))))))++H=(lb,.cells 134 15 (qu F.n M tb wb g1 g2 rb db))::(HT++(HW++(H1++(H2++(HR++(HD++(HM.flatten++H))))))):=by simp only [List.cons_append,List.append_assoc]
 rw [e0]
 refine qc (l:=[zp lb,zi m,zu k]) Tryz.func15 rfl Tryz.ntmps15 rfl rfl ?_
 refine ze ?_
 refine qK (l:=[zu k]) rfl rfl rfl (fun b5=>?_)
 refine qp (l:=hdC zHd) qR rfl rfl (fun b6=>?_)
 refine za 3 rfl ?_
 refine qp (l:=hdC zHd) qR rfl rfl (fun b8=>?_)
 refine za 4 rfl (qI .nil (.cons rfl (.cons rfl .nil)) rfl ?_)
 rcases hM.ways (F:=F) m with ⟨hmf,hmp⟩ | ⟨i,mb,x,b,X,rfl,hi4,hmc,hms,hX0,hX,hmf,hmp⟩
 ·skip
  refine qn (zc3 rfl rfl rfl) Tryz.call59 rfl (qap (n:=F.n) (lb:=lb) (tb:=tb) (wb:=wb) (g1:=g1) (g2:=g2) (rb:=rb) (db:=db) (M:=M) zM hM.m4 hmp) ?_
  refine za 3 rfl ?_
  refine qJ (vs:=hdC zHd) rfl qR rfl (b:=b8) zM rfl rfl rfl ?_
  refine qD rfl rfl ?_
  refine ql (l':=hdC zHd) rfl rfl qR rfl rfl (b:=b6) zM (by exact Nat.le_refl 2) rfl zU ?_
  refine za 2 rfl ?_
  refine zc (H2:=(lb,.cells 134 15 (qu F.n M tb wb g1 g2 rb db))::(HT++(HW++(H1++(H2++(HR++(HD++(HM.flatten++H)))))))) Tryz.results15 (.nil _) (.own rfl qR rfl zM rfl) (.tmp rfl) zH ?_
  have e:Xn F m k=(F,zHd,4):=by unfold Xn; rw [hmf]
  rw [e]
  exact ⟨_,.mk hT (hO.up (Nat.le_succ T)) hW h1 o1 h2 o2 hR hU hD (hM.up (Nat.le_succ T)),rfl,by simp only [List.cons_append,List.append_assoc]⟩
 ·skip
  refine qO (H':=X++((b8,.cells 40 2 (hdC zHd))::(b6,.cells 40 2 (hdC zHd))::(b5,.cells 30 1 [zu k])::(lb,.cells 134 15 (qu F.n M tb wb g1 g2 rb db))::(HT++(HW++(H1++(H2++(HR++(HD++((HM.set i []).flatten++H))))))))) ((show qC _ ((b8,.cells 40 2 (hdC zHd))::(b6,.cells 40 2 (hdC zHd))::(b5,.cells 30 1 [zu k])::(lb,.cells 134 15 (qu F.n M tb wb g1 g2 rb db))::(HT++(HW++(H1++(H2++(HR++(HD++(X++((HM.set i []).flatten++H))))))))) from .cons (.here _) (.cons (.here _) (.cons (.here _) (.cons (.here _) (.app (.here _) (.app (.here _) (.app (.here _) (.app (.here _) (.app (.here _) (.app (.here _) (QK hX0))))))))))).trans zH) ?_
  refine qO (H':=(b5,.cells 30 1 [zu k])::(b8,.cells 40 2 (hdC zHd))::(X++((b6,.cells 40 2 (hdC zHd))::(lb,.cells 134 15 (qu F.n M tb wb g1 g2 rb db))::(HT++(HW++(H1++(H2++(HR++(HD++((HM.set i []).flatten++H)))))))))) zH ?_
  refine qk (zc3 rfl rfl rfl) Tryz.call59 rfl (qaq (n:=F.n) (lb:=lb) (tb:=tb) (wb:=wb) (g1:=g1) (g2:=g2) (rb:=rb) (db:=db) (M:=M) (fi:=63) (ca:=[zp b5,zp b8]) zM hM.m4 Tryz.call63 hmp (qjJ (b5:=b5) (b8:=b8) hX hTl (H:=(b6,.cells 40 2 (hdC zHd))::(lb,.cells 134 15 (qu F.n M tb wb g1 g2 rb db))::(HT++(HW++(H1++(H2++(HR++(HD++((HM.set i []).flatten++H))))))))) (by rintro v H2 ⟨_,_,e,_⟩; exact ⟨_,e⟩)) ?_
  rintro v H' ⟨X2,hX2,rfl,rfl⟩
  refine qO (H':=(b6,.cells 40 2 (hdC zHd))::(b5,.cells 30 1 [zu k])::(b8,.cells 40 2 (hdC (x.find k).2.1))::(lb,.cells 134 15 (qu F.n M tb wb g1 g2 rb db))::(HT++(HW++(H1++(H2++(HR++(HD++((HM.set i X2).flatten++H)))))))) ((show qC _ ((b6,.cells 40 2 (hdC zHd))::(b5,.cells 30 1 [zu k])::(b8,.cells 40 2 (hdC (x.find k).2.1))::(lb,.cells 134 15 (qu F.n M tb wb g1 g2 rb db))::(HT++(HW++(H1++(H2++(HR++(HD++(X2++((HM.set i []).flatten++H))))))))) from zH).trans (.cons (.here _) (.cons (.here _) (.cons (.here _) (.cons (.here _) (.app (.here _) (.app (.here _) (.app (.here _) (.app (.here _) (.app (.here _) (.app (.here _) (ZA (by rw [hM.h4]; exact hi4))))))))))))) ?_
  refine za 3 rfl ?_
  refine qJ (vs:=hdC (x.find k).2.1) rfl qR rfl (b:=b8) zM rfl rfl rfl ?_
  refine qD rfl rfl ?_
  refine ql (l':=hdC (x.find k).2.1) rfl rfl qR rfl rfl (b:=b6) zM (by exact Nat.le_refl 2) rfl zU ?_
  refine za 2 rfl ?_
  refine zc (H2:=(lb,.cells 134 15 (qu F.n M tb wb g1 g2 rb db))::(HT++(HW++(H1++(H2++(HR++(HD++((HM.set i X2).flatten++H)))))))) Tryz.results15 (.nil _) (.own rfl qR rfl zM rfl) (.tmp rfl) zH ?_
  have e:Xn F (i:Int) k=((qi8 F (i:Int) (some ((x.find k).1,b))),(x.find k).2.1,(x.find k).2.2):=by unfold Xn; rw [hmf]
  rw [e]
  have e2:(qi8 F (i:Int) (some ((x.find k).1,b)))={ F with ms:=F.ms.set i (some ((x.find k).1,b)) }:=by unfold qi8; rw [Int.toNat_natCast]
  rw [e2]
  have hM2:=(hM.up (Nat.le_succ T)).set (k:=i) (.some (b:=b) hX2)
  rw [show M.set i (some mb,b)=M from Z0 hmc] at hM2
  exact ⟨_,.mk (F:={ F with ms:=F.ms.set i (some ((x.find k).1,b)) }) hT (hO.up (Nat.le_succ T)) hW h1 o1 h2 o2 hR hU hD hM2,rfl,by simp only [List.cons_append,List.append_assoc]⟩
theorem qnt {b4:Nat} (hi4:i<4) (hX:XmH mb T x X) (hs:∀ p∈X,p∈H) :qh Tryz.prog w0 65 #[zp mb,zp b5,zp b4,zp b8] ((b5,.cells 40 2 (hdC h))::(b4,.cells 3 1 [zi (i:Int)])::(b8,.cells 3 1 [zi 0])::H) (fun v H'=>v=zi (x.key h).2∧H'=(b5,.cells 40 2 (hdC h))::(b4,.cells 3 1 [zi (i:Int)])::(b8,.cells 3 1 [zi (if (x.key h).2=0 then 16*(i:Int)+h.slot else 0)])::H):=by
 refine qc (l:=[zp mb,zp b5,zp b4,zp b8]) Tryz.func65 rfl Tryz.ntmps65 rfl rfl ?_
 refine za 5 rfl ?_
 refine qJ (vs:=hdC h) rfl qR rfl (b:=b5) zM rfl rfl rfl ?_
 refine qn (zc2 rfl rfl) Tryz.call66 rfl (hX.key (fun p hp=>List.mem_cons_of_mem _ (List.mem_cons_of_mem _ (List.mem_cons_of_mem _ (hs p hp)))) (h:=h)) ?_
 refine za 11 rfl ?_
 refine qm (p:=(x.key h).2=0) rfl (by simp) (fun q0=>?_) (fun q0=>?_)
 ·skip
  refine ZM ?_
  refine qe (v:=zi (i:Int)) rfl ty3 rfl (qf.own (b:=b4) zM rfl) rfl ?_
  refine qE rfl rfl (qdw (m:=16*(i:Int)) (by rw [zg (by omega)]; omega)) rfl ?_
  refine za 1 rfl ?_
  have hsl:=qlt (L:=x.L) (h:=h) q0
  have hl16:=hX.ok.len16
  refine qe (v:=zi h.slot) rfl ty3 rfl (qf.own (b:=b5) zM rfl) rfl ?_
  refine qE rfl rfl (qQ (m:=16*(i:Int)+h.slot) (zg zO)) rfl ?_
  refine qv (l':=[zi (16*(i:Int)+h.slot)]) rfl rfl ty3 rfl rfl (b:=b8) zM rfl rfl zU ?_
  refine za 5 rfl ?_
  refine qd (H2:=(b5,.cells 40 2 (hdC h))::(b4,.cells 3 1 [zi (i:Int)])::(b8,.cells 3 1 [zi (16*(i:Int)+h.slot)])::H) Tryz.results65 rfl (.nil _) zH ?_
  rw [if_pos q0]
  exact ⟨rfl,rfl⟩
 ·skip
  refine za 5 rfl ?_
  refine qd (H2:=(b5,.cells 40 2 (hdC h))::(b4,.cells 3 1 [zi (i:Int)])::(b8,.cells 3 1 [zi 0])::H) Tryz.results65 rfl (.nil _) zH ?_
  rw [if_neg q0]
  exact ⟨rfl,rfl⟩
theorem memF {a:Nat × Blk} {X1 X2 X3 X4 X5 X6:qg} (hX0:HM[i]?=some X) (hs:∀ p∈a::(X1++(X2++(X3++(X4++(X5++(X6++HM.flatten)))))),p∈H):∀ p∈X,p∈H:=fun p hp=>hs p (List.mem_cons_of_mem _ (List.mem_append_right _ (List.mem_append_right _ (List.mem_append_right _ (List.mem_append_right _ (List.mem_append_right _ (List.mem_append_right _ (Xz hX0 hp))))))))
theorem qV.number (hF:qV lb T F HF) (hs:∀ p∈HF,p∈H) :qB Tryz.prog w0 H 16 [zp lb,zi m,.agg (List.toArray (hdC h))] (.tuple #[zi (qbD F m h).1,zi (qbD F m h).2]):=by
 cases hF with
 | @mk tb wb g1 g2 rb db M HT HW H1 H2 HR HD HM hT hO hW h1 o1 h2 o2 hR hU hD hM =>
 have hm:=hs _ List.mem_cons_self
 refine qc Tryz.func16 rfl Tryz.ntmps16 rfl rfl (ze ?_)
 refine qK (l:=[zi m]) rfl rfl rfl (fun b4=>?_)
 refine qK (l:=hdC h) rfl rfl rfl (fun b5=>?_)
 refine za 4 rfl ?_
 refine qp (l:=[zi 0]) ty3 rfl rfl (fun b8=>?_)
 refine qv (l':=[zi 0]) rfl rfl ty3 rfl rfl (b:=b8) zM rfl rfl zU ?_
 refine za 3 rfl ?_
 refine qe (v:=zi m) rfl ty3 rfl (qf.own (b:=b4) zM rfl) rfl ?_
 refine qI .nil (.cons rfl (.cons rfl (.cons rfl .nil))) rfl ?_
 rcases hM.ways (F:=F) m with ⟨hmf,hmp⟩ | ⟨i,mb,x,b,X,rfl,hi4,hmc,hms,hX0,hX,hmf,hmp⟩
 ·skip
  refine qn (zc3 rfl rfl rfl) Tryz.call59 rfl (qap (n:=F.n) (lb:=lb) (tb:=tb) (wb:=wb) (g1:=g1) (g2:=g2) (rb:=rb) (db:=db) (M:=M) (by repeat (first | exact hm | exact List.mem_cons_self | apply List.mem_cons_of_mem | apply List.mem_append_right)) hM.m4 hmp) ?_
  refine za 3 rfl ?_
  refine qe (v:=zi 0) rfl ty3 rfl (qf.own (b:=b8) zM rfl) rfl ?_
  refine za 4 rfl ?_
  refine qL (H2:=H) Tryz.results16 rfl rfl (.nil _) zH ?_
  have e:qbD F m h=(0,4):=by unfold qbD; rw [hmf]
  rw [e]
  exact ⟨rfl,rfl⟩
 ·skip
  refine qO (H':=(b5,.cells 40 2 (hdC h))::(b4,.cells 3 1 [zi (i:Int)])::(b8,.cells 3 1 [zi 0])::H) zH ?_
  refine qk (zc3 rfl rfl rfl) Tryz.call59 rfl (qaq (n:=F.n) (lb:=lb) (tb:=tb) (wb:=wb) (g1:=g1) (g2:=g2) (rb:=rb) (db:=db) (M:=M) (fi:=65) (ca:=[zp b5,zp b4,zp b8]) (by repeat (first | exact hm | exact List.mem_cons_self | apply List.mem_cons_of_mem | apply List.mem_append_right)) hM.m4 Tryz.call65 hmp (qnt (b5:=b5) (b4:=b4) (b8:=b8) (h:=h) (i:=i) hi4 hX (memF hX0 hs)) (by rintro v H2 ⟨e,_⟩; exact ⟨_,e⟩)) ?_
  rintro v H' ⟨rfl,rfl⟩
  refine za 3 rfl ?_
  refine qe (v:=zi (if (x.key h).2=0 then 16*(i:Int)+h.slot else 0)) rfl ty3 rfl (qf.own (b:=b8) zM rfl) rfl ?_
  refine za 4 rfl ?_
  refine qL (H2:=H) Tryz.results16 rfl rfl (.nil _) zH ?_
  have e:qbD F (i:Int) h=(if (x.key h).2=0 then 16*(i:Int)+h.slot else 0,(x.key h).2):=by
   unfold qbD; rw [hmf]; dsimp only; split
   ·rename_i q; rw [q]
   ·rfl
  rw [e]
  exact ⟨rfl,rfl⟩
def qcI (F:Lf) (i:Nat) (x:Xm) (b:Bool) (k:Int):Lf × Int:=if (x.del k).2.2=0 then (qe7 { F with ms:=F.ms.set i (some ((x.del k).1,b)) } (16*i+(x.del k).2.1.slot.toNat) (x.del k).2.1,0) else ({ F with ms:=F.ms.set i (some ((x.del k).1,b)) },(x.del k).2.2)
def Y1 (F:Lf) (m k:Int):Lf × Int:=match JC F m with
 | none=>(F,4)
 | some (x,b)=>qcI F m.toNat x b k
theorem qeI (h:x.Ok) {g:Hd} (hf:Q6 x.C k=some g):g.slot=((g.slot.toNat:Nat):Int)∧g.slot.toNat<16:=by
 obtain ⟨i,s,e1,e2,_⟩:=h.own hf
 have:=(List.getElem?_eq_some_iff.1 e2).1
 have:=h.len16
 omega
theorem qlz (h:x.Ok) (he:(x.del k).2.2=0):(x.del k).2.1.slot=(((x.del k).2.1.slot.toNat:Nat):Int)∧(x.del k).2.1.slot.toNat<16:=by
 unfold Xm.del at he ⊢
 by_cases c:x.kind=0
 ·rw [if_pos c] at he; cases he
 ·rw [if_neg c] at he ⊢
  cases hf:Q6 x.C k with
  | none=>rw [hf] at he; cases he
  | some g =>
   show (x.unlink k).2.slot=_∧(x.unlink k).2.slot.toNat<16
   rw [show (x.unlink k).2=g by unfold Xm.unlink; rw [hf]; rfl]
   exact qeI h hf
theorem qjq (h:x.Ok) (ho:(x.put how k ws).2.1.out=true):(x.put how k ws).2.1.gone.slot=(((x.put how k ws).2.1.gone.slot.toNat:Nat):Int)∧(x.put how k ws).2.1.gone.slot.toNat<16:=by
 unfold Xm.put at ho ⊢
 by_cases c1:(how<0∨2<how)∨x.words<ws.length
 ·rw [if_pos c1] at ho; cases ho
 ·rw [if_neg c1] at ho ⊢
  by_cases c2:x.closed=true
  ·rw [if_pos c2] at ho; cases ho
  ·rw [if_neg c2] at ho ⊢
   cases hf:Q6 x.C k with
   | some g =>
    rw [hf] at ho; dsimp only at ho
    by_cases c3:how=1
    ·rw [if_pos c3] at ho; cases ho
    ·rw [if_neg c3] at ho; cases ho
   | none =>
    rw [hf] at ho; dsimp only at ho ⊢
    by_cases c3:x.refE how≠0
    ·rw [if_pos c3] at ho; cases ho
    ·rw [if_neg c3] at ho ⊢
     by_cases c4:x.C.length=x.entries
     ·rw [if_pos c4]
      dsimp only
      have hk:=h.umem.1 (h.oldest c4)
      obtain ⟨g,hg⟩:∃ g,Q6 x.C (x.used.headD 0)=some g:=by
       cases hz:Q6 x.C (x.used.headD 0) with
       | some g=>exact ⟨g,rfl⟩
       | none =>
        exfalso
        obtain ⟨p,hp,e⟩:=List.mem_map.1 hk
        unfold Q6 at hz
        rw [Option.map_eq_none_iff,List.find?_eq_none] at hz
        exact hz p hp (by first | exact decide_eq_true e | exact decide_eq_true e.symm | simp [e])
      rw [show (x.unlink (x.used.headD 0)).2=g by unfold Xm.unlink; rw [hg]; rfl]
      exact qeI h hg
     ·rw [if_neg c4] at ho; cases ho
theorem qjM {tb g1 g2 rb db:Nat} {HT HW H1 H2 HR HD:qg} (hT:Q2 tb F.n F.Ws F.Qt F.Rt F.At HT) (hO:TOk T F.Ws F.At) (hW:Jm wb F.n F.Qw F.Rw F.Aw F.on HW) (h1:GrH g1 F.n F.tr H1) (o1:JE F.n F.tr) (h2:GrH g2 F.n F.cl H2) (o2:JE F.n F.cl) (hR:Jb rb 8 F.us HR) (hU:JP F.us) (hD:DyH db F.dy HD) (hM:XV T M F.ms HM) (hi4:i<4) (hmc:M[i]?=some (some mb,b)) (hX0:HM[i]?=some X) (hX:XmH mb T x X) {b3 b4:Nat} :qh Tryz.prog w0 67 #[zp mb,zp b5,zp b3,zp b4] ((b5,.cells 30 1 [zu k])::(b3,.cells 23 1 [zp lb])::(b4,.cells 3 1 [zi (i:Int)])::(lb,.cells 134 15 (qu F.n M tb wb g1 g2 rb db))::(HT++(HW++(H1++(H2++(HR++(HD++(HM.flatten++H)))))))) (fun v H'=>∃ HF',qV lb T (qcI F i x b k).1 HF'∧v=zi (qcI F i x b k).2∧H'=(b5,.cells 30 1 [zu k])::(b3,.cells 23 1 [zp lb])::(b4,.cells 3 1 [zi (i:Int)])::(HF'++H)):=by
 refine qc (l:=[zp mb,zp b5,zp b3,zp b4]) Tryz.func67 rfl Tryz.ntmps67 rfl rfl ?_
 refine za 5 rfl ?_
 refine qe (v:=zu k) rfl zJ rfl (qf.own (b:=b5) zM rfl) rfl ?_
 refine qO (H':=X++((b5,.cells 30 1 [zu k])::(b3,.cells 23 1 [zp lb])::(b4,.cells 3 1 [zi (i:Int)])::(lb,.cells 134 15 (qu F.n M tb wb g1 g2 rb db))::(HT++(HW++(H1++(H2++(HR++(HD++((HM.set i []).flatten++H))))))))) ((show qC _ ((b5,.cells 30 1 [zu k])::(b3,.cells 23 1 [zp lb])::(b4,.cells 3 1 [zi (i:Int)])::(lb,.cells 134 15 (qu F.n M tb wb g1 g2 rb db))::(HT++(HW++(H1++(H2++(HR++(HD++(X++((HM.set i []).flatten++H))))))))) from .cons (.here _) (.cons (.here _) (.cons (.here _) (.cons (.here _) (.app (.here _) (.app (.here _) (.app (.here _) (.app (.here _) (.app (.here _) (.app (.here _) (QK hX0))))))))))).trans zH) ?_
 refine qk (zc2 rfl rfl) Tryz.call68 rfl (hX.del (k:=k) (H:=(b5,.cells 30 1 [zu k])::(b3,.cells 23 1 [zp lb])::(b4,.cells 3 1 [zi (i:Int)])::(lb,.cells 134 15 (qu F.n M tb wb g1 g2 rb db))::(HT++(HW++(H1++(H2++(HR++(HD++((HM.set i []).flatten++H))))))))) ?_
 rintro v H' ⟨X2,hX2,rfl,rfl⟩
 refine qO (H':=(b5,.cells 30 1 [zu k])::(b3,.cells 23 1 [zp lb])::(b4,.cells 3 1 [zi (i:Int)])::(lb,.cells 134 15 (qu F.n M tb wb g1 g2 rb db))::(HT++(HW++(H1++(H2++(HR++(HD++((HM.set i X2).flatten++H)))))))) ((show qC _ ((b5,.cells 30 1 [zu k])::(b3,.cells 23 1 [zp lb])::(b4,.cells 3 1 [zi (i:Int)])::(lb,.cells 134 15 (qu F.n M tb wb g1 g2 rb db))::(HT++(HW++(H1++(H2++(HR++(HD++(X2++((HM.set i []).flatten++H))))))))) from zH).trans (.cons (.here _) (.cons (.here _) (.cons (.here _) (.cons (.here _) (.app (.here _) (.app (.here _) (.app (.here _) (.app (.here _) (.app (.here _) (.app (.here _) (ZA (by rw [hM.h4]; exact hi4))))))))))))) ?_
 have hM2:=(hM.up (Nat.le_refl T)).set (k:=i) (.some (b:=b) hX2)
 rw [show M.set i (some mb,b)=M from Z0 hmc] at hM2
 have hF2:qV lb _ { F with ms:=F.ms.set i (some ((x.del k).1,b)) } ((lb,.cells 134 15 (qu F.n M tb wb g1 g2 rb db))::(HT++(HW++(H1++(H2++(HR++(HD++(HM.set i X2).flatten))))))):=.mk (F:={ F with ms:=F.ms.set i (some ((x.del k).1,b)) }) hT (hO.up (Nat.le_refl T)) hW h1 o1 h2 o2 hR hU hD hM2
 refine za 3 rfl ?_
 refine qp (l:=hdC zHd) qR rfl rfl (fun b6=>?_)
 refine ql (l':=hdC (x.del k).2.1) rfl rfl qR rfl rfl (b:=b6) zM (by exact Nat.le_refl 2) rfl zU ?_
 refine za 7 rfl ?_
 refine qm (p:=(x.del k).2.2=0) rfl (by simp) (fun q0=>?_) (fun q0=>?_)
 ·skip
  refine ZM ?_
  refine qe (v:=zp lb) rfl KR rfl (qf.own (b:=b3) zM rfl) rfl ?_
  refine qe (v:=zi (i:Int)) rfl ty3 rfl (qf.own (b:=b4) zM rfl) rfl ?_
  refine qJ (vs:=hdC (x.del k).2.1) rfl qR rfl (b:=b6) zM rfl rfl rfl ?_
  have hsl:=qlz hX.ok q0
  refine qO (H':=((lb,.cells 134 15 (qu F.n M tb wb g1 g2 rb db))::(HT++(HW++(H1++(H2++(HR++(HD++(HM.set i X2).flatten)))))))++((b6,.cells 40 2 (hdC (x.del k).2.1))::(b5,.cells 30 1 [zu k])::(b3,.cells 23 1 [zp lb])::(b4,.cells 3 1 [zi (i:Int)])::H)) (by simp only [List.cons_append,List.append_assoc]; first | exact YF | (repeat (first | with_reducible exact qC.refl _ | refine qC.cons zT ?_ | refine qC.app zS ?_ | exact qC.nil _ | exact qC.refl _ | refine qC.drop ?_ | refine qC.dropS ?_))) ?_
  refine qk (zc3 rfl rfl rfl) Tryz.call62 rfl (hF2.die (i:=i) (s:=(x.del k).2.1.slot.toNat) (h:=(x.del k).2.1) hi4 hsl.2 hsl.1 rfl (H:=(b6,.cells 40 2 (hdC (x.del k).2.1))::(b5,.cells 30 1 [zu k])::(b3,.cells 23 1 [zp lb])::(b4,.cells 3 1 [zi (i:Int)])::H)) ?_
  rintro v H' ⟨HF3,hF3,rfl,rfl⟩
  refine za 5 rfl ?_
  refine qd (H2:=(b5,.cells 30 1 [zu k])::(b3,.cells 23 1 [zp lb])::(b4,.cells 3 1 [zi (i:Int)])::(HF3++H)) Tryz.results67 rfl (.nil _) zH ?_
  have e:qcI F i x b k=(qe7 { F with ms:=F.ms.set i (some ((x.del k).1,b)) } (16*i+(x.del k).2.1.slot.toNat) (x.del k).2.1,0):=if_pos q0
  rw [e,q0]
  exact ⟨HF3,hF3,rfl,rfl⟩
 ·skip
  refine za 5 rfl ?_
  refine qd (H2:=(b5,.cells 30 1 [zu k])::(b3,.cells 23 1 [zp lb])::(b4,.cells 3 1 [zi (i:Int)])::(lb,.cells 134 15 (qu F.n M tb wb g1 g2 rb db))::(HT++(HW++(H1++(H2++(HR++(HD++((HM.set i X2).flatten++H)))))))) Tryz.results67 rfl (.nil _) zH ?_
  have e:qcI F i x b k=({ F with ms:=F.ms.set i (some ((x.del k).1,b)) },(x.del k).2.2):=if_neg q0
  rw [e]
  exact ⟨_,hF2,rfl,by simp only [List.cons_append,List.append_assoc]⟩
theorem qV.drop (hF:qV lb T F HF) :qh Tryz.prog w0 17 #[zp lb,zi m,zu k] (HF++H) (fun v H'=>∃ HF',qV lb T (Y1 F m k).1 HF'∧v=zi (Y1 F m k).2∧H'=HF'++H):=by
 cases hF with
 | @mk tb wb g1 g2 rb db M HT HW H1 H2 HR HD HM hT hO hW h1 o1 h2 o2 hR hU hD hM =>
 have e0:((lb,.cells 134 15 (qu F.n M tb wb g1 g2 rb db))::(HT++(HW++(H1++(H2++(HR++(HD++HM.flatten)))))))++H=(lb,.cells 134 15 (qu F.n M tb wb g1 g2 rb db))::(HT++(HW++(H1++(H2++(HR++(HD++(HM.flatten++H))))))):=by simp only [List.cons_append,List.append_assoc]
 rw [e0]
 refine qc (l:=[zp lb,zi m,zu k]) Tryz.func17 rfl Tryz.ntmps17 rfl rfl ?_
 refine ze ?_
 refine qK (l:=[zp lb]) rfl rfl rfl (fun b3=>?_)
 refine qK (l:=[zi m]) rfl rfl rfl (fun b4=>?_)
 refine qK (l:=[zu k]) rfl rfl rfl (fun b5=>?_)
 refine za 3 rfl ?_
 refine qe (v:=zp lb) rfl KR rfl (qf.own (b:=b3) zM rfl) rfl ?_
 refine qe (v:=zi m) rfl ty3 rfl (qf.own (b:=b4) zM rfl) rfl ?_
 refine qI .nil (.cons rfl (.cons rfl (.cons rfl .nil))) rfl ?_
 rcases hM.ways (F:=F) m with ⟨hmf,hmp⟩ | ⟨i,mb,x,b,X,rfl,hi4,hmc,hms,hX0,hX,hmf,hmp⟩
 ·skip
  refine qn (zc3 rfl rfl rfl) Tryz.call59 rfl (qap (n:=F.n) (lb:=lb) (tb:=tb) (wb:=wb) (g1:=g1) (g2:=g2) (rb:=rb) (db:=db) (M:=M) zM hM.m4 hmp) ?_
  refine za 2 rfl ?_
  refine qd (H2:=(lb,.cells 134 15 (qu F.n M tb wb g1 g2 rb db))::(HT++(HW++(H1++(H2++(HR++(HD++(HM.flatten++H)))))))) Tryz.results17 rfl (.nil _) zH ?_
  have e:Y1 F m k=(F,4):=by unfold Y1; rw [hmf]
  rw [e]
  exact ⟨_,.mk hT hO hW h1 o1 h2 o2 hR hU hD hM,rfl,by simp only [List.cons_append,List.append_assoc]⟩
 ·skip
  refine qO (H':=(b5,.cells 30 1 [zu k])::(b3,.cells 23 1 [zp lb])::(b4,.cells 3 1 [zi (i:Int)])::(lb,.cells 134 15 (qu F.n M tb wb g1 g2 rb db))::(HT++(HW++(H1++(H2++(HR++(HD++(HM.flatten++H)))))))) zH ?_
  refine qk (zc3 rfl rfl rfl) Tryz.call59 rfl (qaq (n:=F.n) (lb:=lb) (tb:=tb) (wb:=wb) (g1:=g1) (g2:=g2) (rb:=rb) (db:=db) (M:=M) (fi:=67) (ca:=[zp b5,zp b3,zp b4]) zM hM.m4 Tryz.call67 hmp (qjM (b5:=b5) (b3:=b3) (b4:=b4) (k:=k) hT hO hW h1 o1 h2 o2 hR hU hD hM hi4 hmc hX0 hX) (by rintro v H2 ⟨_,_,e,_⟩; exact ⟨_,e⟩)) ?_
  rintro v H' ⟨HF3,hF3,rfl,rfl⟩
  refine za 2 rfl ?_
  refine qd (H2:=HF3++H) Tryz.results17 rfl (.nil _) zH ?_
  have e:Y1 F (i:Int) k=qcI F i x b k:=by unfold Y1; rw [hmf]; dsimp only; rw [Int.toNat_natCast]
  rw [e]
  exact ⟨HF3,hF3,rfl,rfl⟩
def qcd (F:Lf) (i:Nat) (x:Xm) (b:Bool) (how k:Int) (ws:List Int):Lf × Hd × Int:=(if (x.put how k ws).2.1.out=true then qe7 { F with ms:=F.ms.set i (some ((x.put how k ws).1,b)) } (16*i+(x.put how k ws).2.1.gone.slot.toNat) (x.put how k ws).2.1.gone else { F with ms:=F.ms.set i (some ((x.put how k ws).1,b)) },(x.put how k ws).2.1.h,(x.put how k ws).2.2)
def K1 (F:Lf) (m how k:Int) (ws:List Int):Lf × Hd × Int:=match JC F m with
 | none=>(F,zHd,4)
 | some (x,b)=>qcd F m.toNat x b how k ws
theorem qnr {tb g1 g2 rb db:Nat} {HT HW H1 H2 HR HD:qg} (hT:Q2 tb F.n F.Ws F.Qt F.Rt F.At HT) (hO:TOk T F.Ws F.At) (hW:Jm wb F.n F.Qw F.Rw F.Aw F.on HW) (h1:GrH g1 F.n F.tr H1) (o1:JE F.n F.tr) (h2:GrH g2 F.n F.cl H2) (o2:JE F.n F.cl) (hR:Jb rb 8 F.us HR) (hU:JP F.us) (hD:DyH db F.dy HD) (hM:XV T M F.ms HM) (hi4:i<4) (hmc:M[i]?=some (some mb,b)) (hX0:HM[i]?=some X) (hX:XmH mb T x X) {adw:Option Addr} {capw:Nat} (hTab:Tab w0) (hTl:T≤1000000) (hk:0≤k∧k<18446744073709551616) (hrow:∀ HZ:qg,Holds w0 (HZ++H) adw (ws.map (Value.int .u64))) {b6 b7 b9 b12:Nat} :qh Tryz.prog w0 60 #[zp mb,zp b7,zp b8,zp b9,zp b5,zp b6,zp b12] ((b7,.cells 3 1 [zi how])::(b8,.cells 30 1 [zu k])::(b9,.cells 84 1 [.slice adw ws.length capw])::(b5,.cells 23 1 [zp lb])::(b6,.cells 3 1 [zi (i:Int)])::(b12,.cells 40 2 (hdC zHd))::(lb,.cells 134 15 (qu F.n M tb wb g1 g2 rb db))::(HT++(HW++(H1++(H2++(HR++(HD++(HM.flatten++H)))))))) (fun v H'=>∃ HF',qV lb (T+2) (qcd F i x b how k ws).1 HF'∧v=zi (qcd F i x b how k ws).2.2∧H'=(b7,.cells 3 1 [zi how])::(b8,.cells 30 1 [zu k])::(b9,.cells 84 1 [.slice adw ws.length capw])::(b5,.cells 23 1 [zp lb])::(b6,.cells 3 1 [zi (i:Int)])::(b12,.cells 40 2 (hdC (qcd F i x b how k ws).2.1))::(HF'++H)):=by
 refine qc (l:=[zp mb,zp b7,zp b8,zp b9,zp b5,zp b6,zp b12]) Tryz.func60 rfl Tryz.ntmps60 rfl rfl ?_
 refine za 5 rfl ?_
 refine qe (v:=zi how) rfl ty3 rfl (qf.own (b:=b7) zM rfl) rfl ?_
 refine qe (v:=zu k) rfl zJ rfl (qf.own (b:=b8) zM rfl) rfl ?_
 refine qe (v:=.slice adw ws.length capw) rfl ZN rfl (qf.own (b:=b9) zM rfl) rfl ?_
 refine qO (H':=X++((b7,.cells 3 1 [zi how])::(b8,.cells 30 1 [zu k])::(b9,.cells 84 1 [.slice adw ws.length capw])::(b5,.cells 23 1 [zp lb])::(b6,.cells 3 1 [zi (i:Int)])::(b12,.cells 40 2 (hdC zHd))::(lb,.cells 134 15 (qu F.n M tb wb g1 g2 rb db))::(HT++(HW++(H1++(H2++(HR++(HD++((HM.set i []).flatten++H))))))))) ((show qC _ ((b7,.cells 3 1 [zi how])::(b8,.cells 30 1 [zu k])::(b9,.cells 84 1 [.slice adw ws.length capw])::(b5,.cells 23 1 [zp lb])::(b6,.cells 3 1 [zi (i:Int)])::(b12,.cells 40 2 (hdC zHd))::(lb,.cells 134 15 (qu F.n M tb wb g1 g2 rb db))::(HT++(HW++(H1++(H2++(HR++(HD++(X++((HM.set i []).flatten++H))))))))) from .cons (.here _) (.cons (.here _) (.cons (.here _) (.cons (.here _) (.cons (.here _) (.cons (.here _) (.cons (.here _) (.app (.here _) (.app (.here _) (.app (.here _) (.app (.here _) (.app (.here _) (.app (.here _) (QK hX0)))))))))))))).trans zH) ?_
 refine qk (zc4 rfl rfl rfl rfl) Tryz.call61 rfl (hX.put hTab hTl hk (by have:=hrow ((b7,.cells 3 1 [zi how])::(b8,.cells 30 1 [zu k])::(b9,.cells 84 1 [.slice adw ws.length capw])::(b5,.cells 23 1 [zp lb])::(b6,.cells 3 1 [zi (i:Int)])::(b12,.cells 40 2 (hdC zHd))::(lb,.cells 134 15 (qu F.n M tb wb g1 g2 rb db))::(HT++(HW++(H1++(H2++(HR++(HD++(HM.set i []).flatten))))))); simpa only [List.cons_append,List.append_assoc] using this) (H:=(b7,.cells 3 1 [zi how])::(b8,.cells 30 1 [zu k])::(b9,.cells 84 1 [.slice adw ws.length capw])::(b5,.cells 23 1 [zp lb])::(b6,.cells 3 1 [zi (i:Int)])::(b12,.cells 40 2 (hdC zHd))::(lb,.cells 134 15 (qu F.n M tb wb g1 g2 rb db))::(HT++(HW++(H1++(H2++(HR++(HD++((HM.set i []).flatten++H))))))))) ?_
 rintro v H' ⟨X2,hX2,rfl,rfl⟩
 refine qO (H':=(b7,.cells 3 1 [zi how])::(b8,.cells 30 1 [zu k])::(b9,.cells 84 1 [.slice adw ws.length capw])::(b5,.cells 23 1 [zp lb])::(b6,.cells 3 1 [zi (i:Int)])::(b12,.cells 40 2 (hdC zHd))::(lb,.cells 134 15 (qu F.n M tb wb g1 g2 rb db))::(HT++(HW++(H1++(H2++(HR++(HD++((HM.set i X2).flatten++H)))))))) ((show qC _ ((b7,.cells 3 1 [zi how])::(b8,.cells 30 1 [zu k])::(b9,.cells 84 1 [.slice adw ws.length capw])::(b5,.cells 23 1 [zp lb])::(b6,.cells 3 1 [zi (i:Int)])::(b12,.cells 40 2 (hdC zHd))::(lb,.cells 134 15 (qu F.n M tb wb g1 g2 rb db))::(HT++(HW++(H1++(H2++(HR++(HD++(X2++((HM.set i []).flatten++H))))))))) from zH).trans (.cons (.here _) (.cons (.here _) (.cons (.here _) (.cons (.here _) (.cons (.here _) (.cons (.here _) (.cons (.here _) (.app (.here _) (.app (.here _) (.app (.here _) (.app (.here _) (.app (.here _) (.app (.here _) (ZA (by rw [hM.h4]; exact hi4)))))))))))))))) ?_
 have hM2:=(hM.up (Nat.le_add_right T 2)).set (k:=i) (.some (b:=b) hX2)
 rw [show M.set i (some mb,b)=M from Z0 hmc] at hM2
 have hF2:qV lb _ { F with ms:=F.ms.set i (some ((x.put how k ws).1,b)) } ((lb,.cells 134 15 (qu F.n M tb wb g1 g2 rb db))::(HT++(HW++(H1++(H2++(HR++(HD++(HM.set i X2).flatten))))))):=.mk (F:={ F with ms:=F.ms.set i (some ((x.put how k ws).1,b)) }) hT (hO.up (Nat.le_add_right T 2)) hW h1 o1 h2 o2 hR hU hD hM2
 refine za 3 rfl ?_
 refine qp (l:=Qg QG) Zs rfl rfl (fun b9_=>?_)
 refine ql (l':=Qg (x.put how k ws).2.1) rfl rfl Zs rfl rfl (b:=b9_) zM (by exact Nat.le_refl 5) rfl zU ?_
 refine za 5 rfl ?_
 refine qe (v:=.bool (x.put how k ws).2.1.out) rfl ty4 rfl (qf.own (b:=b9_) zM rfl) rfl ?_
 refine qs ?_
 refine qm (p:=(x.put how k ws).2.1.out=true) rfl .rfl (fun q0=>?_) (fun q0=>?_)
 ·skip
  refine ZM ?_
  refine qe (v:=zp lb) rfl KR rfl (qf.own (b:=b5) zM rfl) rfl ?_
  refine qe (v:=zi (i:Int)) rfl ty3 rfl (qf.own (b:=b6) zM rfl) rfl ?_
  refine za 1 rfl ?_
  refine qJ (vs:=hdC (x.put how k ws).2.1.gone) rfl qR rfl (b:=b9_) zM rfl rfl rfl ?_
  have hsl:=qjq hX.ok q0
  refine qO (H':=((lb,.cells 134 15 (qu F.n M tb wb g1 g2 rb db))::(HT++(HW++(H1++(H2++(HR++(HD++(HM.set i X2).flatten)))))))++((b9_,.cells 139 5 (Qg (x.put how k ws).2.1))::(b7,.cells 3 1 [zi how])::(b8,.cells 30 1 [zu k])::(b9,.cells 84 1 [.slice adw ws.length capw])::(b5,.cells 23 1 [zp lb])::(b6,.cells 3 1 [zi (i:Int)])::(b12,.cells 40 2 (hdC zHd))::H)) (by simp only [List.cons_append,List.append_assoc]; first | exact YF | (repeat (first | with_reducible exact qC.refl _ | refine qC.cons zT ?_ | refine qC.app zS ?_ | exact qC.nil _ | exact qC.refl _ | refine qC.drop ?_ | refine qC.dropS ?_))) ?_
  refine qk (zc3 rfl rfl rfl) Tryz.call62 rfl (hF2.die (i:=i) (s:=(x.put how k ws).2.1.gone.slot.toNat) (h:=(x.put how k ws).2.1.gone) hi4 hsl.2 hsl.1 rfl (H:=(b9_,.cells 139 5 (Qg (x.put how k ws).2.1))::(b7,.cells 3 1 [zi how])::(b8,.cells 30 1 [zu k])::(b9,.cells 84 1 [.slice adw ws.length capw])::(b5,.cells 23 1 [zp lb])::(b6,.cells 3 1 [zi (i:Int)])::(b12,.cells 40 2 (hdC zHd))::H)) ?_
  rintro v H' ⟨HF3,hF3,rfl,rfl⟩
  refine za 3 rfl ?_
  refine qJ (vs:=hdC (x.put how k ws).2.1.h) rfl qR rfl (b:=b9_) zM rfl rfl rfl ?_
  refine ql (l':=hdC (x.put how k ws).2.1.h) rfl rfl qR rfl rfl (b:=b12) zM (by exact Nat.le_refl 2) rfl zU ?_
  refine za 5 rfl ?_
  refine qd (H2:=(b7,.cells 3 1 [zi how])::(b8,.cells 30 1 [zu k])::(b9,.cells 84 1 [.slice adw ws.length capw])::(b5,.cells 23 1 [zp lb])::(b6,.cells 3 1 [zi (i:Int)])::(b12,.cells 40 2 (hdC (x.put how k ws).2.1.h))::(HF3++H)) Tryz.results60 rfl (.nil _) zH ?_
  have e:qcd F i x b how k ws=(qe7 { F with ms:=F.ms.set i (some ((x.put how k ws).1,b)) } (16*i+(x.put how k ws).2.1.gone.slot.toNat) (x.put how k ws).2.1.gone,(x.put how k ws).2.1.h,(x.put how k ws).2.2):=by unfold qcd; rw [if_pos q0]
  rw [e]
  exact ⟨HF3,hF3,rfl,rfl⟩
 ·skip
  refine za 3 rfl ?_
  refine qJ (vs:=hdC (x.put how k ws).2.1.h) rfl qR rfl (b:=b9_) zM rfl rfl rfl ?_
  refine ql (l':=hdC (x.put how k ws).2.1.h) rfl rfl qR rfl rfl (b:=b12) zM (by exact Nat.le_refl 2) rfl zU ?_
  refine za 5 rfl ?_
  refine qd (H2:=(b7,.cells 3 1 [zi how])::(b8,.cells 30 1 [zu k])::(b9,.cells 84 1 [.slice adw ws.length capw])::(b5,.cells 23 1 [zp lb])::(b6,.cells 3 1 [zi (i:Int)])::(b12,.cells 40 2 (hdC (x.put how k ws).2.1.h))::(lb,.cells 134 15 (qu F.n M tb wb g1 g2 rb db))::(HT++(HW++(H1++(H2++(HR++(HD++((HM.set i X2).flatten++H)))))))) Tryz.results60 rfl (.nil _) zH ?_
  have e:qcd F i x b how k ws=({ F with ms:=F.ms.set i (some ((x.put how k ws).1,b)) },(x.put how k ws).2.1.h,(x.put how k ws).2.2):=by unfold qcd; rw [if_neg q0]
  rw [e]
  exact ⟨_,hF2,rfl,by simp only [List.cons_append,List.append_assoc]⟩
theorem qV.put (hF:qV lb T F HF) {adw:Option Addr} {capw:Nat} (hTab:Tab w0) (hTl:T≤1000000) (hk:0≤k∧k<18446744073709551616) (hrow:∀ HZ:qg,Holds w0 (HZ++H) adw (ws.map (Value.int .u64))) :qh Tryz.prog w0 14 #[zp lb,zi m,zi how,zu k,.slice adw ws.length capw] (HF++H) (fun v H'=>∃ HF',qV lb (T+2) (K1 F m how k ws).1 HF'∧v=.tuple #[.agg (List.toArray (hdC (K1 F m how k ws).2.1)),zi (K1 F m how k ws).2.2]∧H'=HF'++H):=by
 cases hF with
 | @mk tb wb g1 g2 rb db M HT HW H1 H2 HR HD HM hT hO hW h1 o1 h2 o2 hR hU hD hM =>
 have e0:((lb,.cells 134 15 (qu F.n M tb wb g1 g2 rb db))::(HT++(HW++(H1++(H2++(HR++(HD++HM.flatten)))))))++H=(lb,.cells 134 15 (qu F.n M tb wb g1 g2 rb db))::(HT++(HW++(H1++(H2++(HR++(HD++(HM.flatten++H))))))):=by simp only [List.cons_append,List.append_assoc]
 rw [e0]
 refine qc (l:=[zp lb,zi m,zi how,zu k,.slice adw ws.length capw]) Tryz.func14 rfl Tryz.ntmps14 rfl rfl ?_
 refine ze ?_
 refine qK (l:=[zp lb]) rfl rfl rfl (fun b5=>?_)
 refine qK (l:=[zi m]) rfl rfl rfl (fun b6=>?_)
 refine qK (l:=[zi how]) rfl rfl rfl (fun b7=>?_)
 refine qK (l:=[zu k]) rfl rfl rfl (fun b8=>?_)
 refine qK (l:=[.slice adw ws.length capw]) rfl rfl rfl (fun b9=>?_)
 refine qp (l:=hdC zHd) qR rfl rfl (fun b10=>?_)
 refine za 3 rfl ?_
 refine qp (l:=hdC zHd) qR rfl rfl (fun b12=>?_)
 refine za 2 rfl ?_
 refine qe (v:=zp lb) rfl KR rfl (qf.own (b:=b5) zM rfl) rfl ?_
 refine qe (v:=zi m) rfl ty3 rfl (qf.own (b:=b6) zM rfl) rfl ?_
 refine qI .nil (.cons rfl (.cons rfl (.cons rfl (.cons rfl (.cons rfl (.cons rfl .nil)))))) rfl ?_
 rcases hM.ways (F:=F) m with ⟨hmf,hmp⟩ | ⟨i,mb,x,b,X,rfl,hi4,hmc,hms,hX0,hX,hmf,hmp⟩
 ·skip
  refine qn (zc3 rfl rfl rfl) Tryz.call59 rfl (qap (n:=F.n) (lb:=lb) (tb:=tb) (wb:=wb) (g1:=g1) (g2:=g2) (rb:=rb) (db:=db) (M:=M) zM hM.m4 hmp) ?_
  refine za 3 rfl ?_
  refine qJ (vs:=hdC zHd) rfl qR rfl (b:=b12) zM rfl rfl rfl ?_
  refine qD rfl rfl ?_
  refine ql (l':=hdC zHd) rfl rfl qR rfl rfl (b:=b10) zM (by exact Nat.le_refl 2) rfl zU ?_
  refine za 2 rfl ?_
  refine zc (H2:=(lb,.cells 134 15 (qu F.n M tb wb g1 g2 rb db))::(HT++(HW++(H1++(H2++(HR++(HD++(HM.flatten++H)))))))) Tryz.results14 (.nil _) (.own rfl qR rfl zM rfl) (.tmp rfl) zH ?_
  have e:K1 F m how k ws=(F,zHd,4):=by unfold K1; rw [hmf]
  rw [e]
  exact ⟨_,.mk hT (hO.up (Nat.le_add_right T 2)) hW h1 o1 h2 o2 hR hU hD (hM.up (Nat.le_add_right T 2)),rfl,by simp only [List.cons_append,List.append_assoc]⟩
 ·skip
  refine qO (H':=(b7,.cells 3 1 [zi how])::(b8,.cells 30 1 [zu k])::(b9,.cells 84 1 [.slice adw ws.length capw])::(b5,.cells 23 1 [zp lb])::(b6,.cells 3 1 [zi (i:Int)])::(b12,.cells 40 2 (hdC zHd))::(lb,.cells 134 15 (qu F.n M tb wb g1 g2 rb db))::(HT++(HW++(H1++(H2++(HR++(HD++(HM.flatten++((b10,.cells 40 2 (hdC zHd))::H))))))))) zH ?_
  refine qk (zc3 rfl rfl rfl) Tryz.call59 rfl (qaq (n:=F.n) (lb:=lb) (tb:=tb) (wb:=wb) (g1:=g1) (g2:=g2) (rb:=rb) (db:=db) (M:=M) (fi:=60) (ca:=[zp b7,zp b8,zp b9,zp b5,zp b6,zp b12]) zM hM.m4 Tryz.call60 hmp (qnr (b5:=b5) (b6:=b6) (b7:=b7) (b8:=b8) (b9:=b9) (b12:=b12) (H:=(b10,.cells 40 2 (hdC zHd))::H) hT hO hW h1 o1 h2 o2 hR hU hD hM hi4 hmc hX0 hX (how:=how) (k:=k) (ws:=ws) (adw:=adw) (capw:=capw) hTab hTl hk (fun HZ=>by have:=hrow (HZ++[(b10,.cells 40 2 (hdC zHd))]); simpa only [List.cons_append,List.append_assoc,List.nil_append] using this)) (by rintro v H2 ⟨_,_,e,_⟩; exact ⟨_,e⟩)) ?_
  rintro v H' ⟨HF3,hF3,rfl,rfl⟩
  refine za 3 rfl ?_
  refine qJ (vs:=hdC (qcd F i x b how k ws).2.1) rfl qR rfl (b:=b12) zM rfl rfl rfl ?_
  refine qD rfl rfl ?_
  refine ql (l':=hdC (qcd F i x b how k ws).2.1) rfl rfl qR rfl rfl (b:=b10) zM (by exact Nat.le_refl 2) rfl zU ?_
  refine za 2 rfl ?_
  refine zc (H2:=HF3++H) Tryz.results14 (.nil _) (.own rfl qR rfl zM rfl) (.tmp rfl) zH ?_
  have e:K1 F (i:Int) how k ws=qcd F i x b how k ws:=by unfold K1; rw [hmf]; dsimp only; rw [Int.toNat_natCast]
  rw [e]
  exact ⟨HF3,hF3,rfl,rfl⟩
attribute [local irreducible] Qb zV
structure Gn where
 map:Int
 number:Int
 gen:Int
 whole:Bool
deriving DecidableEq
def gnC (g:Gn):List Value:=[zi g.map,zi g.number,zi g.gen,.bool g.whole]
theorem qnE (g:Gn):(gnC g).length=4:=rfl
def zB (dy:List (Int × Hd)) (z:Int):Hd:=((dy.find? (fun p=>decide (z=p.1))).map (·.2)).getD zHd
def YH (dy:List (Int × Hd)) (z:Int):List (Int × Hd):=dy.filter (fun p=>decide (z≠p.1))
theorem qpN (E:List Dye) (z:Int):(Ye (E.map Dye.ent) z).getD (.agg (List.toArray (hdC zHd)))=.agg (List.toArray (hdC (zB (E.map Dye.p) z))):=by
 unfold Ye zB
 rw [List.find?_map,List.find?_map,Option.map_map,Option.map_map]
 show (((E.find? (fun e=>decide (z=e.key))).map _).getD _)=Value.agg (List.toArray (hdC (((E.find? (fun e=>decide (z=e.key))).map _).getD zHd)))
 cases E.find? (fun e=>decide (z=e.key)) <;> rfl
theorem qea (E:List Dye) (z:Int):Yo (E.map Dye.ent) z=(E.filter (fun e=>decide (z≠e.key))).map Dye.ent∧(E.filter (fun e=>decide (z≠e.key))).map Dye.p=YH (E.map Dye.p) z:=by
 constructor
 ·unfold Yo; rw [List.filter_map]; rfl
 ·unfold YH; rw [List.filter_map]; rfl
def us1 (F:Lf) (z:Nat):List (Int × Cnt):=if 0<(ofA F.At (z:Int)).prog then (ZJ F.us (max ((ofA F.At (z:Int)).prog-1) 0)).1 else F.us
def us2 (F:Lf) (z:Nat):List (Int × Cnt):=if 0<(ofW F.Aw (z:Int)).prog then (ZJ (us1 F z) (max ((ofW F.Aw (z:Int)).prog-1) 0)).1 else us1 F z
theorem JP.us1 (h:JP F.us) (z:Nat):JP (us1 F z):=by
 unfold Go.Proofs.YtincjohoncljoaaGreatDoor.us1; split
 ·exact h.drop _
 ·exact h
theorem JP.us2 (h:JP F.us) (z:Nat):JP (us2 F z):=by
 unfold Go.Proofs.YtincjohoncljoaaGreatDoor.us2; split
 ·exact (h.us1 z).drop _
 ·exact h.us1 z
def qpK (F:Lf) (z:Nat) (x:Xm) (b:Bool):Lf × List Gn:=({ F with ms:=F.ms.set (z/16) (some ((x.free (zB F.dy (z:Int))).1,b)),us:=us2 F z,Ws:=(zV F.Ws F.Qt F.Rt F.At (z:Int)).1,Qt:=(zV F.Ws F.Qt F.Rt F.At (z:Int)).2.1,At:=(zV F.Ws F.Qt F.Rt F.At (z:Int)).2.2.1,Qw:=(z9 F.Qw F.Rw F.Aw z).1,Aw:=(z9 F.Qw F.Rw F.Aw z).2.1,dy:=YH F.dy (z:Int) },[⟨((z/16:Nat):Int),(z:Int),(zB F.dy (z:Int)).gen,false⟩])
def QI (F:Lf) (z:Nat):Lf × List Gn:=if (inR F.Rt (z:Int)).isSome=true∨(inR F.Rw (z:Int)).isSome=true then ({ F with cl:=Zj F.cl F.n z },[]) else match JC F ((z/16:Nat):Int) with
 | none=>(F,[])
 | some (x,b)=>qpK F z x b
theorem Jm.runs {HB:qg} {n:Nat} {Q Rs:List (Int × Int)} {As:List ZL} {on:List Int} (h:Jm wb n Q Rs As on HB) (hs:∀ p∈HB,p∈H) {id:Int}:qB Tryz.prog w0 H 158 [zp wb,zi id] (ZU (inR Rs id)):=by
 cases h with
 | mk hP hA hn=>exact qgv hP (hs _ List.mem_cons_self) (fun p hp=>hs p (List.mem_cons_of_mem _ hp))
theorem Jm.clear {HB:qg} {n:Nat} {Q Rs:List (Int × Int)} {As:List ZL} {on:List Int} (h:Jm wb n Q Rs As on HB) {z:Nat} (hz:z<256):qh Tryz.prog w0 162 #[zp wb,zi (z:Int)] (HB++H) (fun v H'=>∃ HB',Jm wb n (z9 Q Rs As z).1 Rs (z9 Q Rs As z).2.1 on HB'∧(∃ m,v=zi m)∧H'=HB'++H):=by
 cases h with
 | @mk pb HP hP hA hn =>
  obtain ⟨o,ho⟩:=hA.at (i:=z) hz
  refine (qho (H:=H) hP hn ho hz).mono ?_
  rintro v H' ⟨HP2,hP2,rfl,rfl⟩
  refine ⟨_,.mk hP2 ?_ hn,⟨_,rfl⟩,rfl⟩
  unfold z9
  split
  ·exact hA
  ·exact hA.set z (o:=QE) zd
attribute [local irreducible] z9 us2 us1
theorem qV.free_ (hF:qV lb T F HF) {z:Nat} (hz:z<64) (hmf:JC F ((z/16:Nat):Int)=some (x,b)) :qh Tryz.prog w0 71 #[zp lb,zi (z:Int)] (HF++H) (fun v H'=>∃ HF' XG,qV lb T (QI F z).1 HF'∧zm 50 4 v (QI F z).2.length ((QI F z).2.flatMap gnC) XG∧H'=XG++(HF'++H)):=by
 cases hF with
 | @mk tb wb g1 g2 rb db M HT HW H1 H2 HR HD HM hT hO hW h1 o1 h2 o2 hR hU hD hM =>
 cases hD with
 | @mk E cl hok hdy =>
 have e0:((lb,.cells 134 15 (qu F.n M tb wb g1 g2 rb db))::(HT++(HW++(H1++(H2++(HR++([(db,.obj (qM (Value.int .i64) ((E).map Dye.ent) cl))]++HM.flatten)))))))++H=(lb,.cells 134 15 (qu F.n M tb wb g1 g2 rb db))::(HT++(HW++(H1++(H2++(HR++((db,.obj (qM (Value.int .i64) ((E).map Dye.ent) cl))::(HM.flatten++H))))))):=by simp only [List.cons_append,List.append_assoc,List.nil_append]
 rw [e0]
 refine qc (l:=[zp lb,zi (z:Int)]) Tryz.func71 rfl Tryz.ntmps71 rfl rfl ?_
 refine za 7 rfl ?_
 refine qe (v:=zp tb) rfl QX rfl (qf.own (b:=lb) zM (Qf (j:=0) hM.m4)) rfl ?_
 refine qD rfl rfl ?_
 refine qn (zc2 rfl rfl) Tryz.call157 rfl (qmN (id:=(z:Int)) hT (fun p hp=>List.mem_cons_of_mem _ (List.mem_append_left _ hp))) ?_
 rcases hrt:inR F.Rt (z:Int) with _ | ct
 ·skip
  rw [show ZU none=.tuple #[zi 0,.bool false] from rfl]
  refine za 10 rfl ?_
  refine qe (v:=zp wb) rfl Jn rfl (qf.own (b:=lb) zM (Qf (j:=1) hM.m4)) rfl ?_
  refine qD rfl rfl ?_
  refine qn (zc2 rfl rfl) Tryz.call158 rfl (hW.runs (id:=(z:Int)) (fun p hp=>List.mem_cons_of_mem _ (List.mem_append_right _ (List.mem_append_left _ hp)))) ?_
  rcases hrw:inR F.Rw (z:Int) with _ | cx
  ·skip
   rw [show ZU none=.tuple #[zi 0,.bool false] from rfl]
   refine za 20 rfl ?_
   obtain ⟨i',mb,x',b',X,ei,hi4,hmc,hms,hX0,hX,hmf2,hmp⟩:=(hM.ways (F:=F) ((z/16:Nat):Int)).resolve_left (fun h=>by rw [hmf] at h; cases h.1)
   obtain rfl:i'=z/16:=by omega
   rw [hmf] at hmf2
   cases hmf2
   refine qe (v:=.map (some db)) rfl Yi rfl (qf.own (b:=lb) zM (Qf (j:=5) hM.m4)) rfl ?_
   refine qD rfl rfl ?_
   refine Xq (l:=E.map Dye.ent) (cl:=cl) (a:=(z:Int)) (kf:=(Value.int .i64)) (b:=db) (zE:=.agg (List.toArray (hdC zHd))) rfl rfl kkI Yi (fun w=>by kernel_rfl) zM rfl ?_
   simp only [Bool.false_eq_true,if_false]
   rw [qpN,hdy]
   refine qp (l:=hdC zHd) qR rfl rfl (fun b9=>?_)
   refine ql (l':=hdC (zB F.dy (z:Int))) rfl rfl qR rfl rfl (b:=b9) zM (by exact Nat.le_refl 2) rfl zU ?_
   refine za 2 rfl ?_
   refine W_anyC [(b9,.cells 40 2 (hdC (zB F.dy (z:Int)))),(lb,.cells 134 15 (qu F.n M tb wb g1 g2 rb db))] zk ?_
   refine zw [0,1] rfl rfl ?_
   refine WC_take 2 rfl zK zK zK rfl rfl (QU rfl rfl (qdv (by decide) (m:=((z/16:Nat):Int)) (by rw [Int.tdiv_eq_ediv_of_nonneg (by omega),zg (by omega)]; omega))) rfl ?_
   refine WC_take 4 rfl zK zK zK rfl rfl (Qm (vs:=hdC (zB F.dy (z:Int))) rfl qR rfl (b:=b9) zM rfl rfl) rfl ?_
   refine WC_one 3 zH zK rfl rfl ?_
   refine qn (zc2 rfl rfl) Tryz.call29 rfl (qfV (n:=F.n) (lb:=lb) (tb:=tb) (wb:=wb) (g1:=g1) (g2:=g2) (rb:=rb) (db:=db) (M:=M) (m:=((z/16:Nat):Int)) zM hM.m4) ?_
   rw [hmp]
   refine qs (WC_goal ?_)
   refine WC_one 5 zH zK rfl rfl ?_
   refine qO (H':=X++((b9,.cells 40 2 (hdC (zB F.dy (z:Int))))::(lb,.cells 134 15 (qu F.n M tb wb g1 g2 rb db))::(HT++(HW++(H1++(H2++(HR++((db,.obj (qM (Value.int .i64) ((E).map Dye.ent) cl))::((HM.set (z/16) []).flatten++H))))))))) ((show qC _ ((b9,.cells 40 2 (hdC (zB F.dy (z:Int))))::(lb,.cells 134 15 (qu F.n M tb wb g1 g2 rb db))::(HT++(HW++(H1++(H2++(HR++((db,.obj (qM (Value.int .i64) ((E).map Dye.ent) cl))::(X++((HM.set (z/16) []).flatten++H))))))))) from .cons (.here _) (.cons (.here _) (.app (.here _) (.app (.here _) (.app (.here _) (.app (.here _) (.app (.here _) (.cons (.here _) (QK hX0))))))))).trans zH) ?_
   refine qk (zc2 rfl rfl) Tryz.call159 rfl (hX.free (h:=(zB F.dy (z:Int))) (H:=(b9,.cells 40 2 (hdC (zB F.dy (z:Int))))::(lb,.cells 134 15 (qu F.n M tb wb g1 g2 rb db))::(HT++(HW++(H1++(H2++(HR++((db,.obj (qM (Value.int .i64) ((E).map Dye.ent) cl))::((HM.set (z/16) []).flatten++H))))))))) ?_
   rintro v H' ⟨X2,hX2,rfl,rfl⟩
   refine qO (H':=(b9,.cells 40 2 (hdC (zB F.dy (z:Int))))::(lb,.cells 134 15 (qu F.n M tb wb g1 g2 rb db))::(HT++(HW++(H1++(H2++(HR++((db,.obj (qM (Value.int .i64) ((E).map Dye.ent) cl))::((HM.set (z/16) X2).flatten++H)))))))) ((show qC _ ((b9,.cells 40 2 (hdC (zB F.dy (z:Int))))::(lb,.cells 134 15 (qu F.n M tb wb g1 g2 rb db))::(HT++(HW++(H1++(H2++(HR++((db,.obj (qM (Value.int .i64) ((E).map Dye.ent) cl))::(X2++((HM.set (z/16) []).flatten++H))))))))) from zH).trans (.cons (.here _) (.cons (.here _) (.app (.here _) (.app (.here _) (.app (.here _) (.app (.here _) (.app (.here _) (.cons (.here _) (ZA (by rw [hM.h4]; exact hi4))))))))))) ?_
   refine qs (WC_goal (WC_done zH zK (za 5 rfl ?_)))
   refine qe (v:=zp tb) rfl QX rfl (qf.own (b:=lb) zM (Qf (j:=0) hM.m4)) rfl ?_
   refine qD rfl rfl ?_
   refine qn (zc2 rfl rfl) Tryz.call78 rfl (qgA (id:=(z:Int)) hT (fun p hp=>List.mem_cons_of_mem _ (List.mem_cons_of_mem _ (List.mem_append_left _ hp)))) ?_
   refine za 9 rfl ?_
   refine qm (p:=0<(ofA F.At (z:Int)).prog) rfl (by simp) (fun q0=>?_) (fun q0=>?_)
   ·skip
    refine za 4 rfl ?_
    refine qe (v:=zp rb) rfl X7 rfl (qf.own (b:=lb) zM (Qf (j:=4) hM.m4)) rfl ?_
    refine qD rfl rfl ?_
    refine qk (zc2 rfl rfl) Tryz.call160 rfl ((Jb.drop hR hU.cnt (k:=max ((ofA F.At (z:Int)).prog-1) 0) (H:=(b9,.cells 40 2 (hdC (zB F.dy (z:Int))))::(lb,.cells 134 15 (qu F.n M tb wb g1 g2 rb db))::(HT++(HW++(H1++(H2++((db,.obj (qM (Value.int .i64) ((E).map Dye.ent) cl))::((HM.set (z/16) X2).flatten++H)))))))).hsub zH) ?_
    rintro v H' ⟨HR2,hR2,rfl,rfl⟩
    refine qO (H':=(b9,.cells 40 2 (hdC (zB F.dy (z:Int))))::(lb,.cells 134 15 (qu F.n M tb wb g1 g2 rb db))::(HT++(HW++(H1++(H2++(HR2++((db,.obj (qM (Value.int .i64) ((E).map Dye.ent) cl))::((HM.set (z/16) X2).flatten++H)))))))) zH ?_
    refine za 6 rfl ?_
    refine qe (v:=zp wb) rfl Jn rfl (qf.own (b:=lb) zM (Qf (j:=1) hM.m4)) rfl ?_
    refine qD rfl rfl ?_
    have e1:us1 F z=(ZJ F.us (max ((ofA F.At (z:Int)).prog-1) 0)).1:=by unfold us1; rw [if_pos q0]
    have hR1:Jb rb 8 (us1 F z) HR2:=by rw [e1]; exact hR2
    refine qn (zc2 rfl rfl) Tryz.call73 rfl (hW.prog (id:=(z:Int)) (fun p hp=>List.mem_cons_of_mem _ (List.mem_cons_of_mem _ (List.mem_append_right _ (List.mem_append_left _ hp))))) ?_
    refine za 9 rfl ?_
    refine qm (p:=0<(ofW F.Aw (z:Int)).prog) rfl (by simp) (fun q1=>?_) (fun q1=>?_)
    ·skip
     refine za 4 rfl ?_
     refine qe (v:=zp rb) rfl X7 rfl (qf.own (b:=lb) zM (Qf (j:=4) hM.m4)) rfl ?_
     refine qD rfl rfl ?_
     refine qk (zc2 rfl rfl) Tryz.call160 rfl ((Jb.drop hR1 (hU.us1 z).cnt (k:=max ((ofW F.Aw (z:Int)).prog-1) 0) (H:=(b9,.cells 40 2 (hdC (zB F.dy (z:Int))))::(lb,.cells 134 15 (qu F.n M tb wb g1 g2 rb db))::(HT++(HW++(H1++(H2++((db,.obj (qM (Value.int .i64) ((E).map Dye.ent) cl))::((HM.set (z/16) X2).flatten++H)))))))).hsub zH) ?_
     rintro v H' ⟨HR3,hR3,rfl,rfl⟩
     refine qO (H':=(b9,.cells 40 2 (hdC (zB F.dy (z:Int))))::(lb,.cells 134 15 (qu F.n M tb wb g1 g2 rb db))::(HT++(HW++(H1++(H2++(HR3++((db,.obj (qM (Value.int .i64) ((E).map Dye.ent) cl))::((HM.set (z/16) X2).flatten++H)))))))) zH ?_
     refine za 5 rfl ?_
     refine qe (v:=zp tb) rfl QX rfl (qf.own (b:=lb) zM (Qf (j:=0) hM.m4)) rfl ?_
     refine qD rfl rfl ?_
     have e2:us2 F z=(ZJ (us1 F z) (max ((ofW F.Aw (z:Int)).prog-1) 0)).1:=by unfold us2; rw [if_pos q1]
     have hR9:Jb rb 8 (us2 F z) HR3:=by rw [e2]; exact hR3
     refine qk (zc2 rfl rfl) Tryz.call161 rfl ((qbS hT hO (id:=(z:Int)) (H:=(b9,.cells 40 2 (hdC (zB F.dy (z:Int))))::(lb,.cells 134 15 (qu F.n M tb wb g1 g2 rb db))::(HW++(H1++(H2++(HR3++((db,.obj (qM (Value.int .i64) ((E).map Dye.ent) cl))::((HM.set (z/16) X2).flatten++H)))))))).hsub zH) ?_
     rintro v H' ⟨HT2,hT2,hO2,rfl,rfl⟩
     refine za 5 rfl ?_
     refine qe (v:=zp wb) rfl Jn rfl (qf.own (b:=lb) zM (Qf (j:=1) hM.m4)) rfl ?_
     refine qD rfl rfl ?_
     refine qk (zc2 rfl rfl) Tryz.call162 rfl ((hW.clear (z:=z) zO (H:=(b9,.cells 40 2 (hdC (zB F.dy (z:Int))))::(lb,.cells 134 15 (qu F.n M tb wb g1 g2 rb db))::(HT2++(H1++(H2++(HR3++((db,.obj (qM (Value.int .i64) ((E).map Dye.ent) cl))::((HM.set (z/16) X2).flatten++H)))))))).hsub zH) ?_
     rintro v H' ⟨HW2,hW2,⟨mw,rfl⟩,rfl⟩
     refine za 5 rfl ?_
     refine qe (v:=.map (some db)) rfl Yi rfl (qf.own (b:=lb) zM (Qf (j:=5) hM.m4)) rfl ?_
     refine qD rfl rfl ?_
     refine J7 (a:=(z:Int)) (l:=E.map Dye.ent) (cl:=cl) (kf:=(Value.int .i64)) (b:=db) rfl rfl kkI Yi hok zU rfl ?_
     obtain ⟨hdd,hdp⟩:=qea E (z:Int)
     rw [hdd]
     refine za 3 rfl ?_
     refine qE rfl rfl (qdv (by decide) (m:=((z/16:Nat):Int)) (by rw [Int.tdiv_eq_ediv_of_nonneg (by omega),zg (by omega)]; omega)) rfl ?_
     refine za 2 rfl ?_
     refine qe (v:=zi (zB F.dy (z:Int)).gen) rfl ty3 rfl (qf.own (b:=b9) zM rfl) rfl ?_
     refine qX (l:=gnC ⟨((z/16:Nat):Int),(z:Int),(zB F.dy (z:Int)).gen,false⟩) KQ qhH (.cons rfl rfl rfl rfl rfl (.cons rfl rfl rfl rfl rfl (.cons rfl rfl rfl rfl rfl .nil))) rfl rfl rfl ?_
     refine qy (l:=gnC ⟨((z/16:Nat):Int),(z:Int),(zB F.dy (z:Int)).gen,false⟩) qbB KQ (.cons rfl rfl rfl rfl rfl .nil) rfl rfl rfl rfl rfl rfl rfl (fun b116=>?_)
     refine za 2 rfl ?_
     refine qd (H2:=[(b116,.cells 50 4 (gnC ⟨((z/16:Nat):Int),(z:Int),(zB F.dy (z:Int)).gen,false⟩))]++((lb,.cells 134 15 (qu F.n M tb wb g1 g2 rb db))::(HT2++(HW2++(H1++(H2++(HR3++((db,.obj (qM (Value.int .i64) (((E.filter (fun e=>decide ((z:Int)≠e.key)))).map Dye.ent) cl))::((HM.set (z/16) X2).flatten++H))))))))) Tryz.results71 rfl (.nil _) zH ?_
     have e:QI F z=({ F with ms:=F.ms.set (z/16) (some ((x.free (zB F.dy (z:Int))).1,b)),us:=us2 F z,Ws:=(zV F.Ws F.Qt F.Rt F.At (z:Int)).1,Qt:=(zV F.Ws F.Qt F.Rt F.At (z:Int)).2.1,At:=(zV F.Ws F.Qt F.Rt F.At (z:Int)).2.2.1,Qw:=(z9 F.Qw F.Rw F.Aw z).1,Aw:=(z9 F.Qw F.Rw F.Aw z).2.1,dy:=YH F.dy (z:Int) },[⟨((z/16:Nat):Int),(z:Int),(zB F.dy (z:Int)).gen,false⟩]):=by
      unfold QI
      rw [if_neg (by rw [hrt,hrw]; rintro (c | c) <;> cases c),hmf]
      rfl
     rw [e]
     have hokd:=hok.del (z:Int)
     rw [hdd] at hokd
     have hD2:DyH db (YH F.dy (z:Int)) [(db,.obj (qM (Value.int .i64) (((E.filter (fun e=>decide ((z:Int)≠e.key)))).map Dye.ent) cl))]:=.mk hokd (by rw [hdp,hdy])
     have hM2:=hM.set (k:=z/16) (.some (b:=b) hX2)
     rw [show M.set (z/16) (some mb,b)=M from Z0 hmc] at hM2
     exact ⟨_,[(b116,.cells 50 4 (gnC ⟨((z/16:Nat):Int),(z:Int),(zB F.dy (z:Int)).gen,false⟩))],.mk (F:={ F with ms:=F.ms.set (z/16) (some ((x.free (zB F.dy (z:Int))).1,b)),us:=us2 F z,Ws:=(zV F.Ws F.Qt F.Rt F.At (z:Int)).1,Qt:=(zV F.Ws F.Qt F.Rt F.At (z:Int)).2.1,At:=(zV F.Ws F.Qt F.Rt F.At (z:Int)).2.2.1,Qw:=(z9 F.Qw F.Rw F.Aw z).1,Aw:=(z9 F.Qw F.Rw F.Aw z).2.1,dy:=YH F.dy (z:Int) }) (db:=db) hT2 hO2 hW2 h1 o1 h2 o2 hR9 (hU.us2 z) hD2 hM2,.own (n:=1) (cap:=1) rfl (Nat.le_refl 1) (by decide),by simp only [List.cons_append,List.append_assoc,List.nil_append]⟩
    ·skip
     refine za 5 rfl ?_
     refine qe (v:=zp tb) rfl QX rfl (qf.own (b:=lb) zM (Qf (j:=0) hM.m4)) rfl ?_
     refine qD rfl rfl ?_
     have e2:us2 F z=us1 F z:=by unfold us2; rw [if_neg q1]
     have hR9:Jb rb 8 (us2 F z) HR2:=by rw [e2]; exact hR1
     refine qk (zc2 rfl rfl) Tryz.call161 rfl ((qbS hT hO (id:=(z:Int)) (H:=(b9,.cells 40 2 (hdC (zB F.dy (z:Int))))::(lb,.cells 134 15 (qu F.n M tb wb g1 g2 rb db))::(HW++(H1++(H2++(HR2++((db,.obj (qM (Value.int .i64) ((E).map Dye.ent) cl))::((HM.set (z/16) X2).flatten++H)))))))).hsub zH) ?_
     rintro v H' ⟨HT2,hT2,hO2,rfl,rfl⟩
     refine za 5 rfl ?_
     refine qe (v:=zp wb) rfl Jn rfl (qf.own (b:=lb) zM (Qf (j:=1) hM.m4)) rfl ?_
     refine qD rfl rfl ?_
     refine qk (zc2 rfl rfl) Tryz.call162 rfl ((hW.clear (z:=z) zO (H:=(b9,.cells 40 2 (hdC (zB F.dy (z:Int))))::(lb,.cells 134 15 (qu F.n M tb wb g1 g2 rb db))::(HT2++(H1++(H2++(HR2++((db,.obj (qM (Value.int .i64) ((E).map Dye.ent) cl))::((HM.set (z/16) X2).flatten++H)))))))).hsub zH) ?_
     rintro v H' ⟨HW2,hW2,⟨mw,rfl⟩,rfl⟩
     refine za 5 rfl ?_
     refine qe (v:=.map (some db)) rfl Yi rfl (qf.own (b:=lb) zM (Qf (j:=5) hM.m4)) rfl ?_
     refine qD rfl rfl ?_
     refine J7 (a:=(z:Int)) (l:=E.map Dye.ent) (cl:=cl) (kf:=(Value.int .i64)) (b:=db) rfl rfl kkI Yi hok zU rfl ?_
     obtain ⟨hdd,hdp⟩:=qea E (z:Int)
     rw [hdd]
     refine za 3 rfl ?_
     refine qE rfl rfl (qdv (by decide) (m:=((z/16:Nat):Int)) (by rw [Int.tdiv_eq_ediv_of_nonneg (by omega),zg (by omega)]; omega)) rfl ?_
     refine za 2 rfl ?_
     refine qe (v:=zi (zB F.dy (z:Int)).gen) rfl ty3 rfl (qf.own (b:=b9) zM rfl) rfl ?_
     refine qX (l:=gnC ⟨((z/16:Nat):Int),(z:Int),(zB F.dy (z:Int)).gen,false⟩) KQ qhH (.cons rfl rfl rfl rfl rfl (.cons rfl rfl rfl rfl rfl (.cons rfl rfl rfl rfl rfl .nil))) rfl rfl rfl ?_
     refine qy (l:=gnC ⟨((z/16:Nat):Int),(z:Int),(zB F.dy (z:Int)).gen,false⟩) qbB KQ (.cons rfl rfl rfl rfl rfl .nil) rfl rfl rfl rfl rfl rfl rfl (fun b116=>?_)
     refine za 2 rfl ?_
     refine qd (H2:=[(b116,.cells 50 4 (gnC ⟨((z/16:Nat):Int),(z:Int),(zB F.dy (z:Int)).gen,false⟩))]++((lb,.cells 134 15 (qu F.n M tb wb g1 g2 rb db))::(HT2++(HW2++(H1++(H2++(HR2++((db,.obj (qM (Value.int .i64) (((E.filter (fun e=>decide ((z:Int)≠e.key)))).map Dye.ent) cl))::((HM.set (z/16) X2).flatten++H))))))))) Tryz.results71 rfl (.nil _) zH ?_
     have e:QI F z=({ F with ms:=F.ms.set (z/16) (some ((x.free (zB F.dy (z:Int))).1,b)),us:=us2 F z,Ws:=(zV F.Ws F.Qt F.Rt F.At (z:Int)).1,Qt:=(zV F.Ws F.Qt F.Rt F.At (z:Int)).2.1,At:=(zV F.Ws F.Qt F.Rt F.At (z:Int)).2.2.1,Qw:=(z9 F.Qw F.Rw F.Aw z).1,Aw:=(z9 F.Qw F.Rw F.Aw z).2.1,dy:=YH F.dy (z:Int) },[⟨((z/16:Nat):Int),(z:Int),(zB F.dy (z:Int)).gen,false⟩]):=by
      unfold QI
      rw [if_neg (by rw [hrt,hrw]; rintro (c | c) <;> cases c),hmf]
      rfl
     rw [e]
     have hokd:=hok.del (z:Int)
     rw [hdd] at hokd
     have hD2:DyH db (YH F.dy (z:Int)) [(db,.obj (qM (Value.int .i64) (((E.filter (fun e=>decide ((z:Int)≠e.key)))).map Dye.ent) cl))]:=.mk hokd (by rw [hdp,hdy])
     have hM2:=hM.set (k:=z/16) (.some (b:=b) hX2)
     rw [show M.set (z/16) (some mb,b)=M from Z0 hmc] at hM2
     exact ⟨_,[(b116,.cells 50 4 (gnC ⟨((z/16:Nat):Int),(z:Int),(zB F.dy (z:Int)).gen,false⟩))],.mk (F:={ F with ms:=F.ms.set (z/16) (some ((x.free (zB F.dy (z:Int))).1,b)),us:=us2 F z,Ws:=(zV F.Ws F.Qt F.Rt F.At (z:Int)).1,Qt:=(zV F.Ws F.Qt F.Rt F.At (z:Int)).2.1,At:=(zV F.Ws F.Qt F.Rt F.At (z:Int)).2.2.1,Qw:=(z9 F.Qw F.Rw F.Aw z).1,Aw:=(z9 F.Qw F.Rw F.Aw z).2.1,dy:=YH F.dy (z:Int) }) (db:=db) hT2 hO2 hW2 h1 o1 h2 o2 hR9 (hU.us2 z) hD2 hM2,.own (n:=1) (cap:=1) rfl (Nat.le_refl 1) (by decide),by simp only [List.cons_append,List.append_assoc,List.nil_append]⟩
   ·skip
    refine za 6 rfl ?_
    refine qe (v:=zp wb) rfl Jn rfl (qf.own (b:=lb) zM (Qf (j:=1) hM.m4)) rfl ?_
    refine qD rfl rfl ?_
    have e1:us1 F z=F.us:=by unfold us1; rw [if_neg q0]
    have hR1:Jb rb 8 (us1 F z) HR:=by rw [e1]; exact hR
    refine qn (zc2 rfl rfl) Tryz.call73 rfl (hW.prog (id:=(z:Int)) (fun p hp=>List.mem_cons_of_mem _ (List.mem_cons_of_mem _ (List.mem_append_right _ (List.mem_append_left _ hp))))) ?_
    refine za 9 rfl ?_
    refine qm (p:=0<(ofW F.Aw (z:Int)).prog) rfl (by simp) (fun q1=>?_) (fun q1=>?_)
    ·skip
     refine za 4 rfl ?_
     refine qe (v:=zp rb) rfl X7 rfl (qf.own (b:=lb) zM (Qf (j:=4) hM.m4)) rfl ?_
     refine qD rfl rfl ?_
     refine qk (zc2 rfl rfl) Tryz.call160 rfl ((Jb.drop hR1 (hU.us1 z).cnt (k:=max ((ofW F.Aw (z:Int)).prog-1) 0) (H:=(b9,.cells 40 2 (hdC (zB F.dy (z:Int))))::(lb,.cells 134 15 (qu F.n M tb wb g1 g2 rb db))::(HT++(HW++(H1++(H2++((db,.obj (qM (Value.int .i64) ((E).map Dye.ent) cl))::((HM.set (z/16) X2).flatten++H)))))))).hsub zH) ?_
     rintro v H' ⟨HR3,hR3,rfl,rfl⟩
     refine qO (H':=(b9,.cells 40 2 (hdC (zB F.dy (z:Int))))::(lb,.cells 134 15 (qu F.n M tb wb g1 g2 rb db))::(HT++(HW++(H1++(H2++(HR3++((db,.obj (qM (Value.int .i64) ((E).map Dye.ent) cl))::((HM.set (z/16) X2).flatten++H)))))))) zH ?_
     refine za 5 rfl ?_
     refine qe (v:=zp tb) rfl QX rfl (qf.own (b:=lb) zM (Qf (j:=0) hM.m4)) rfl ?_
     refine qD rfl rfl ?_
     have e2:us2 F z=(ZJ (us1 F z) (max ((ofW F.Aw (z:Int)).prog-1) 0)).1:=by unfold us2; rw [if_pos q1]
     have hR9:Jb rb 8 (us2 F z) HR3:=by rw [e2]; exact hR3
     refine qk (zc2 rfl rfl) Tryz.call161 rfl ((qbS hT hO (id:=(z:Int)) (H:=(b9,.cells 40 2 (hdC (zB F.dy (z:Int))))::(lb,.cells 134 15 (qu F.n M tb wb g1 g2 rb db))::(HW++(H1++(H2++(HR3++((db,.obj (qM (Value.int .i64) ((E).map Dye.ent) cl))::((HM.set (z/16) X2).flatten++H)))))))).hsub zH) ?_
     rintro v H' ⟨HT2,hT2,hO2,rfl,rfl⟩
     refine za 5 rfl ?_
     refine qe (v:=zp wb) rfl Jn rfl (qf.own (b:=lb) zM (Qf (j:=1) hM.m4)) rfl ?_
     refine qD rfl rfl ?_
     refine qk (zc2 rfl rfl) Tryz.call162 rfl ((hW.clear (z:=z) zO (H:=(b9,.cells 40 2 (hdC (zB F.dy (z:Int))))::(lb,.cells 134 15 (qu F.n M tb wb g1 g2 rb db))::(HT2++(H1++(H2++(HR3++((db,.obj (qM (Value.int .i64) ((E).map Dye.ent) cl))::((HM.set (z/16) X2).flatten++H)))))))).hsub zH) ?_
     rintro v H' ⟨HW2,hW2,⟨mw,rfl⟩,rfl⟩
     refine za 5 rfl ?_
     refine qe (v:=.map (some db)) rfl Yi rfl (qf.own (b:=lb) zM (Qf (j:=5) hM.m4)) rfl ?_
     refine qD rfl rfl ?_
     refine J7 (a:=(z:Int)) (l:=E.map Dye.ent) (cl:=cl) (kf:=(Value.int .i64)) (b:=db) rfl rfl kkI Yi hok zU rfl ?_
     obtain ⟨hdd,hdp⟩:=qea E (z:Int)
     rw [hdd]
     refine za 3 rfl ?_
     refine qE rfl rfl (qdv (by decide) (m:=((z/16:Nat):Int)) (by rw [Int.tdiv_eq_ediv_of_nonneg (by omega),zg (by omega)]; omega)) rfl ?_
     refine za 2 rfl ?_
     refine qe (v:=zi (zB F.dy (z:Int)).gen) rfl ty3 rfl (qf.own (b:=b9) zM rfl) rfl ?_
     refine qX (l:=gnC ⟨((z/16:Nat):Int),(z:Int),(zB F.dy (z:Int)).gen,false⟩) KQ qhH (.cons rfl rfl rfl rfl rfl (.cons rfl rfl rfl rfl rfl (.cons rfl rfl rfl rfl rfl .nil))) rfl rfl rfl ?_
     refine qy (l:=gnC ⟨((z/16:Nat):Int),(z:Int),(zB F.dy (z:Int)).gen,false⟩) qbB KQ (.cons rfl rfl rfl rfl rfl .nil) rfl rfl rfl rfl rfl rfl rfl (fun b116=>?_)
     refine za 2 rfl ?_
     refine qd (H2:=[(b116,.cells 50 4 (gnC ⟨((z/16:Nat):Int),(z:Int),(zB F.dy (z:Int)).gen,false⟩))]++((lb,.cells 134 15 (qu F.n M tb wb g1 g2 rb db))::(HT2++(HW2++(H1++(H2++(HR3++((db,.obj (qM (Value.int .i64) (((E.filter (fun e=>decide ((z:Int)≠e.key)))).map Dye.ent) cl))::((HM.set (z/16) X2).flatten++H))))))))) Tryz.results71 rfl (.nil _) zH ?_
     have e:QI F z=({ F with ms:=F.ms.set (z/16) (some ((x.free (zB F.dy (z:Int))).1,b)),us:=us2 F z,Ws:=(zV F.Ws F.Qt F.Rt F.At (z:Int)).1,Qt:=(zV F.Ws F.Qt F.Rt F.At (z:Int)).2.1,At:=(zV F.Ws F.Qt F.Rt F.At (z:Int)).2.2.1,Qw:=(z9 F.Qw F.Rw F.Aw z).1,Aw:=(z9 F.Qw F.Rw F.Aw z).2.1,dy:=YH F.dy (z:Int) },[⟨((z/16:Nat):Int),(z:Int),(zB F.dy (z:Int)).gen,false⟩]):=by
      unfold QI
      rw [if_neg (by rw [hrt,hrw]; rintro (c | c) <;> cases c),hmf]
      rfl
     rw [e]
     have hokd:=hok.del (z:Int)
     rw [hdd] at hokd
     have hD2:DyH db (YH F.dy (z:Int)) [(db,.obj (qM (Value.int .i64) (((E.filter (fun e=>decide ((z:Int)≠e.key)))).map Dye.ent) cl))]:=.mk hokd (by rw [hdp,hdy])
     have hM2:=hM.set (k:=z/16) (.some (b:=b) hX2)
     rw [show M.set (z/16) (some mb,b)=M from Z0 hmc] at hM2
     exact ⟨_,[(b116,.cells 50 4 (gnC ⟨((z/16:Nat):Int),(z:Int),(zB F.dy (z:Int)).gen,false⟩))],.mk (F:={ F with ms:=F.ms.set (z/16) (some ((x.free (zB F.dy (z:Int))).1,b)),us:=us2 F z,Ws:=(zV F.Ws F.Qt F.Rt F.At (z:Int)).1,Qt:=(zV F.Ws F.Qt F.Rt F.At (z:Int)).2.1,At:=(zV F.Ws F.Qt F.Rt F.At (z:Int)).2.2.1,Qw:=(z9 F.Qw F.Rw F.Aw z).1,Aw:=(z9 F.Qw F.Rw F.Aw z).2.1,dy:=YH F.dy (z:Int) }) (db:=db) hT2 hO2 hW2 h1 o1 h2 o2 hR9 (hU.us2 z) hD2 hM2,.own (n:=1) (cap:=1) rfl (Nat.le_refl 1) (by decide),by simp only [List.cons_append,List.append_assoc,List.nil_append]⟩
    ·skip
     refine za 5 rfl ?_
     refine qe (v:=zp tb) rfl QX rfl (qf.own (b:=lb) zM (Qf (j:=0) hM.m4)) rfl ?_
     refine qD rfl rfl ?_
     have e2:us2 F z=us1 F z:=by unfold us2; rw [if_neg q1]
     have hR9:Jb rb 8 (us2 F z) HR:=by rw [e2]; exact hR1
     refine qk (zc2 rfl rfl) Tryz.call161 rfl ((qbS hT hO (id:=(z:Int)) (H:=(b9,.cells 40 2 (hdC (zB F.dy (z:Int))))::(lb,.cells 134 15 (qu F.n M tb wb g1 g2 rb db))::(HW++(H1++(H2++(HR++((db,.obj (qM (Value.int .i64) ((E).map Dye.ent) cl))::((HM.set (z/16) X2).flatten++H)))))))).hsub zH) ?_
     rintro v H' ⟨HT2,hT2,hO2,rfl,rfl⟩
     refine za 5 rfl ?_
     refine qe (v:=zp wb) rfl Jn rfl (qf.own (b:=lb) zM (Qf (j:=1) hM.m4)) rfl ?_
     refine qD rfl rfl ?_
     refine qk (zc2 rfl rfl) Tryz.call162 rfl ((hW.clear (z:=z) zO (H:=(b9,.cells 40 2 (hdC (zB F.dy (z:Int))))::(lb,.cells 134 15 (qu F.n M tb wb g1 g2 rb db))::(HT2++(H1++(H2++(HR++((db,.obj (qM (Value.int .i64) ((E).map Dye.ent) cl))::((HM.set (z/16) X2).flatten++H)))))))).hsub zH) ?_
     rintro v H' ⟨HW2,hW2,⟨mw,rfl⟩,rfl⟩
     refine za 5 rfl ?_
     refine qe (v:=.map (some db)) rfl Yi rfl (qf.own (b:=lb) zM (Qf (j:=5) hM.m4)) rfl ?_
     refine qD rfl rfl ?_
     refine J7 (a:=(z:Int)) (l:=E.map Dye.ent) (cl:=cl) (kf:=(Value.int .i64)) (b:=db) rfl rfl kkI Yi hok zU rfl ?_
     obtain ⟨hdd,hdp⟩:=qea E (z:Int)
     rw [hdd]
     refine za 3 rfl ?_
     refine qE rfl rfl (qdv (by decide) (m:=((z/16:Nat):Int)) (by rw [Int.tdiv_eq_ediv_of_nonneg (by omega),zg (by omega)]; omega)) rfl ?_
     refine za 2 rfl ?_
     refine qe (v:=zi (zB F.dy (z:Int)).gen) rfl ty3 rfl (qf.own (b:=b9) zM rfl) rfl ?_
     refine qX (l:=gnC ⟨((z/16:Nat):Int),(z:Int),(zB F.dy (z:Int)).gen,false⟩) KQ qhH (.cons rfl rfl rfl rfl rfl (.cons rfl rfl rfl rfl rfl (.cons rfl rfl rfl rfl rfl .nil))) rfl rfl rfl ?_
     refine qy (l:=gnC ⟨((z/16:Nat):Int),(z:Int),(zB F.dy (z:Int)).gen,false⟩) qbB KQ (.cons rfl rfl rfl rfl rfl .nil) rfl rfl rfl rfl rfl rfl rfl (fun b116=>?_)
     refine za 2 rfl ?_
     refine qd (H2:=[(b116,.cells 50 4 (gnC ⟨((z/16:Nat):Int),(z:Int),(zB F.dy (z:Int)).gen,false⟩))]++((lb,.cells 134 15 (qu F.n M tb wb g1 g2 rb db))::(HT2++(HW2++(H1++(H2++(HR++((db,.obj (qM (Value.int .i64) (((E.filter (fun e=>decide ((z:Int)≠e.key)))).map Dye.ent) cl))::((HM.set (z/16) X2).flatten++H))))))))) Tryz.results71 rfl (.nil _) zH ?_
     have e:QI F z=({ F with ms:=F.ms.set (z/16) (some ((x.free (zB F.dy (z:Int))).1,b)),us:=us2 F z,Ws:=(zV F.Ws F.Qt F.Rt F.At (z:Int)).1,Qt:=(zV F.Ws F.Qt F.Rt F.At (z:Int)).2.1,At:=(zV F.Ws F.Qt F.Rt F.At (z:Int)).2.2.1,Qw:=(z9 F.Qw F.Rw F.Aw z).1,Aw:=(z9 F.Qw F.Rw F.Aw z).2.1,dy:=YH F.dy (z:Int) },[⟨((z/16:Nat):Int),(z:Int),(zB F.dy (z:Int)).gen,false⟩]):=by
      unfold QI
      rw [if_neg (by rw [hrt,hrw]; rintro (c | c) <;> cases c),hmf]
      rfl
     rw [e]
     have hokd:=hok.del (z:Int)
     rw [hdd] at hokd
     have hD2:DyH db (YH F.dy (z:Int)) [(db,.obj (qM (Value.int .i64) (((E.filter (fun e=>decide ((z:Int)≠e.key)))).map Dye.ent) cl))]:=.mk hokd (by rw [hdp,hdy])
     have hM2:=hM.set (k:=z/16) (.some (b:=b) hX2)
     rw [show M.set (z/16) (some mb,b)=M from Z0 hmc] at hM2
     exact ⟨_,[(b116,.cells 50 4 (gnC ⟨((z/16:Nat):Int),(z:Int),(zB F.dy (z:Int)).gen,false⟩))],.mk (F:={ F with ms:=F.ms.set (z/16) (some ((x.free (zB F.dy (z:Int))).1,b)),us:=us2 F z,Ws:=(zV F.Ws F.Qt F.Rt F.At (z:Int)).1,Qt:=(zV F.Ws F.Qt F.Rt F.At (z:Int)).2.1,At:=(zV F.Ws F.Qt F.Rt F.At (z:Int)).2.2.1,Qw:=(z9 F.Qw F.Rw F.Aw z).1,Aw:=(z9 F.Qw F.Rw F.Aw z).2.1,dy:=YH F.dy (z:Int) }) (db:=db) hT2 hO2 hW2 h1 o1 h2 o2 hR9 (hU.us2 z) hD2 hM2,.own (n:=1) (cap:=1) rfl (Nat.le_refl 1) (by decide),by simp only [List.cons_append,List.append_assoc,List.nil_append]⟩
  ·skip
   rw [show ZU (some cx)=.tuple #[zi cx,.bool true] from rfl]
   refine za 16 rfl ?_
   refine W_anyC [(lb,.cells 134 15 (qu F.n M tb wb g1 g2 rb db))] zk ?_
   refine zw [0,1,2] rfl rfl ?_
   refine WC_take 3 rfl zK zK zK rfl rfl (qj (v:=zp g2) rfl qaS rfl (qf.own (b:=lb) zM (Qf (j:=3) hM.m4))) rfl ?_
   refine zw [4,5,6,7] rfl rfl ?_
   refine WC_take 8 rfl zK zK zK rfl rfl (qj (v:=zi ((F.n:Nat):Int)) rfl ty3 rfl (qf.own (b:=lb) zM rfl)) rfl ?_
   refine WC_take 9 rfl zK zK zK rfl rfl (QU rfl rfl (YK (by have:=o1.n; omega) (m:=((z%F.n:Nat):Int)) (qhp z F.n))) rfl ?_
   refine zw [10] rfl rfl ?_
   refine WC_one 11 zH zK rfl rfl ?_
   refine qy (l:=[zi (z:Int)]) qZ ty3 (.cons rfl rfl rfl rfl rfl .nil) rfl rfl rfl rfl rfl rfl rfl (fun b47=>?_)
   refine qs (WC_goal ?_)
   refine WC_one 12 zH zK rfl rfl ?_
   refine qk (zc3 rfl rfl rfl) Tryz.call70 rfl ((h2.call o2 (z:=z) (fun HZ=>Holds.own (b:=b47) (List.mem_append_right _ List.mem_cons_self)) (cap:=1) (H:=(b47,.cells 3 1 [zi (z:Int)])::(lb,.cells 134 15 (qu F.n M tb wb g1 g2 rb db))::(HT++(HW++(H1++(HR++((db,.obj (qM (Value.int .i64) ((E).map Dye.ent) cl))::(HM.flatten++H)))))))).hsub zH) ?_
   rintro v H' ⟨H22,h22,⟨m3,rfl⟩,rfl⟩
   refine qs (WC_goal (WC_done zH zK (za 3 rfl ?_)))
   refine qd (H2:=(lb,.cells 134 15 (qu F.n M tb wb g1 g2 rb db))::(HT++(HW++(H1++(H22++(HR++((db,.obj (qM (Value.int .i64) ((E).map Dye.ent) cl))::(HM.flatten++H)))))))) Tryz.results71 rfl (.nil _) zH ?_
   have e:QI F z=({ F with cl:=Zj F.cl F.n z },[]):=if_pos (.inr (by rw [hrw]; rfl))
   rw [e]
   exact ⟨_,[],.mk (F:={ F with cl:=Zj F.cl F.n z }) (db:=db) hT hO hW h1 o1 h22 (o2.call _) hR hU (.mk hok hdy) hM,.nil,by simp only [List.cons_append,List.append_assoc,List.nil_append]⟩
 ·skip
  rw [show ZU (some ct)=.tuple #[zi ct,.bool true] from rfl]
  refine za 10 rfl ?_
  refine qe (v:=zp wb) rfl Jn rfl (qf.own (b:=lb) zM (Qf (j:=1) hM.m4)) rfl ?_
  refine qD rfl rfl ?_
  refine qn (zc2 rfl rfl) Tryz.call158 rfl (hW.runs (id:=(z:Int)) (fun p hp=>List.mem_cons_of_mem _ (List.mem_append_right _ (List.mem_append_left _ hp)))) ?_
  rcases hrw:inR F.Rw (z:Int) with _ | cx
  ·skip
   rw [show ZU none=.tuple #[zi 0,.bool false] from rfl]
   refine za 15 rfl ?_
   refine W_anyC [(lb,.cells 134 15 (qu F.n M tb wb g1 g2 rb db))] zk ?_
   refine zw [0,1,2] rfl rfl ?_
   refine WC_take 3 rfl zK zK zK rfl rfl (qj (v:=zp g2) rfl qaS rfl (qf.own (b:=lb) zM (Qf (j:=3) hM.m4))) rfl ?_
   refine zw [4,5,6,7] rfl rfl ?_
   refine WC_take 8 rfl zK zK zK rfl rfl (qj (v:=zi ((F.n:Nat):Int)) rfl ty3 rfl (qf.own (b:=lb) zM rfl)) rfl ?_
   refine WC_take 9 rfl zK zK zK rfl rfl (QU rfl rfl (YK (by have:=o1.n; omega) (m:=((z%F.n:Nat):Int)) (qhp z F.n))) rfl ?_
   refine zw [10] rfl rfl ?_
   refine WC_one 11 zH zK rfl rfl ?_
   refine qy (l:=[zi (z:Int)]) qZ ty3 (.cons rfl rfl rfl rfl rfl .nil) rfl rfl rfl rfl rfl rfl rfl (fun b47=>?_)
   refine qs (WC_goal ?_)
   refine WC_one 12 zH zK rfl rfl ?_
   refine qk (zc3 rfl rfl rfl) Tryz.call70 rfl ((h2.call o2 (z:=z) (fun HZ=>Holds.own (b:=b47) (List.mem_append_right _ List.mem_cons_self)) (cap:=1) (H:=(b47,.cells 3 1 [zi (z:Int)])::(lb,.cells 134 15 (qu F.n M tb wb g1 g2 rb db))::(HT++(HW++(H1++(HR++((db,.obj (qM (Value.int .i64) ((E).map Dye.ent) cl))::(HM.flatten++H)))))))).hsub zH) ?_
   rintro v H' ⟨H22,h22,⟨m3,rfl⟩,rfl⟩
   refine qs (WC_goal (WC_done zH zK (za 3 rfl ?_)))
   refine qd (H2:=(lb,.cells 134 15 (qu F.n M tb wb g1 g2 rb db))::(HT++(HW++(H1++(H22++(HR++((db,.obj (qM (Value.int .i64) ((E).map Dye.ent) cl))::(HM.flatten++H)))))))) Tryz.results71 rfl (.nil _) zH ?_
   have e:QI F z=({ F with cl:=Zj F.cl F.n z },[]):=if_pos (.inl (by rw [hrt]; rfl))
   rw [e]
   exact ⟨_,[],.mk (F:={ F with cl:=Zj F.cl F.n z }) (db:=db) hT hO hW h1 o1 h22 (o2.call _) hR hU (.mk hok hdy) hM,.nil,by simp only [List.cons_append,List.append_assoc,List.nil_append]⟩
  ·skip
   rw [show ZU (some cx)=.tuple #[zi cx,.bool true] from rfl]
   refine za 15 rfl ?_
   refine W_anyC [(lb,.cells 134 15 (qu F.n M tb wb g1 g2 rb db))] zk ?_
   refine zw [0,1,2] rfl rfl ?_
   refine WC_take 3 rfl zK zK zK rfl rfl (qj (v:=zp g2) rfl qaS rfl (qf.own (b:=lb) zM (Qf (j:=3) hM.m4))) rfl ?_
   refine zw [4,5,6,7] rfl rfl ?_
   refine WC_take 8 rfl zK zK zK rfl rfl (qj (v:=zi ((F.n:Nat):Int)) rfl ty3 rfl (qf.own (b:=lb) zM rfl)) rfl ?_
   refine WC_take 9 rfl zK zK zK rfl rfl (QU rfl rfl (YK (by have:=o1.n; omega) (m:=((z%F.n:Nat):Int)) (qhp z F.n))) rfl ?_
   refine zw [10] rfl rfl ?_
   refine WC_one 11 zH zK rfl rfl ?_
   refine qy (l:=[zi (z:Int)]) qZ ty3 (.cons rfl rfl rfl rfl rfl .nil) rfl rfl rfl rfl rfl rfl rfl (fun b47=>?_)
   refine qs (WC_goal ?_)
   refine WC_one 12 zH zK rfl rfl ?_
   refine qk (zc3 rfl rfl rfl) Tryz.call70 rfl ((h2.call o2 (z:=z) (fun HZ=>Holds.own (b:=b47) (List.mem_append_right _ List.mem_cons_self)) (cap:=1) (H:=(b47,.cells 3 1 [zi (z:Int)])::(lb,.cells 134 15 (qu F.n M tb wb g1 g2 rb db))::(HT++(HW++(H1++(HR++((db,.obj (qM (Value.int .i64) ((E).map Dye.ent) cl))::(HM.flatten++H)))))))).hsub zH) ?_
   rintro v H' ⟨H22,h22,⟨m3,rfl⟩,rfl⟩
   refine qs (WC_goal (WC_done zH zK (za 3 rfl ?_)))
   refine qd (H2:=(lb,.cells 134 15 (qu F.n M tb wb g1 g2 rb db))::(HT++(HW++(H1++(H22++(HR++((db,.obj (qM (Value.int .i64) ((E).map Dye.ent) cl))::(HM.flatten++H)))))))) Tryz.results71 rfl (.nil _) zH ?_
   have e:QI F z=({ F with cl:=Zj F.cl F.n z },[]):=if_pos (.inl (by rw [hrt]; rfl))
   rw [e]
   exact ⟨_,[],.mk (F:={ F with cl:=Zj F.cl F.n z }) (db:=db) hT hO hW h1 o1 h22 (o2.call _) hR hU (.mk hok hdy) hM,.nil,by simp only [List.cons_append,List.append_assoc,List.nil_append]⟩
end Go.Proofs.YtincjohoncljoaaGreatDoor
