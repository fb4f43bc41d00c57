/-
  Own work: contracts of functions that the statement reaches, and plain facts on what they compute; each theorem says its conditions.
-/
import Derived.Test.YtincjohoncljoaaGreatDoorLqT4
import Derived.Test.YtincjohoncljoaaGreatDoorLqT5
import Derived.Test.YtincjohoncljoaaGreatDoorLqS2
import Derived.Test.YtincjohoncljoaaGreatDoorLqT2
import Derived.Test.YtincjohoncljoaaGreatDoorLqS3
import Derived.Test.YtincjohoncljoaaGreatDoorLqA
set_option linter.all false
set_option linter.unusedSimpArgs false
set_option linter.unusedVariables false
set_option maxHeartbeats 16000000
namespace Go.Proofs.YtincjohoncljoaaGreatDoor
open Go Go.Sl
variable {i j pb bb tb f fi b5 a k now T n cap sb ab u:Nat} {id cpu e z prog:Int} {w0:World} {H HB HP HBk:qg} {ca:List Value} {R:Value→qg→Prop} {Ws Ws':List Wl} {s:Qu} {O:List Tm} {w:Wl} {Q Rs Q':List (Int × Int)} {ids:List Int} {ad:Option Addr} {L:List Slt} {h:Hd}
attribute [local irreducible] W
structure Qn where
 made:Bool
 shut:Bool
 prog:Int
 starts:Int
variable {A As As':List Qn} {o o':Qn}
def Zd (o:Qn):List Value:=[.bool o.made,.bool o.shut,zi o.prog,zi o.starts]
theorem Jw (o:Qn):(Zd o).length=4:=rfl
def qH (pb bb:Nat) (A:List Qn):List Value:=zp pb::zp bb::A.flatMap Zd
def Qy:Qn:=⟨false,false,0,0⟩
theorem qln (h:A[i]?=some o) (hj:j<4):(A.flatMap Zd)[i*4+j]?=(Zd o)[j]?:=by
 induction A generalizing i with
 | nil=>simp at h
 | cons x A ih =>
  cases i with
  | zero =>
   obtain rfl:x=o:=by simpa using h
   rw [Nat.zero_mul,Nat.zero_add,List.flatMap_cons,List.getElem?_append_left (by rw [Jw]; exact hj)]
  | succ i =>
   rw [List.flatMap_cons,List.getElem?_append_right (by rw [Jw]; omega),Jw,show (i+1)*4+j-4=i*4+j by omega]
   exact ih (by simpa using h)
theorem qfw (A:List Qn):(qH pb bb A).length=A.length*4+2:=by
 unfold qH; rw [List.length_cons,List.length_cons,qbu Jw]
theorem qb1 (h:A[i]?=some o) (hj:j<4):(qH pb bb A)[2+i*4+j]?=(Zd o)[j]?:=by
 unfold qH
 rw [show 2+i*4+j=(i*4+j)+1+1 by omega,List.getElem?_cons_succ,List.getElem?_cons_succ,qln h hj]
theorem qgx (h:A[i]?=some o) (hj:j<4):Nat.blt (2+i*4+j) (qH pb bb A).length=true:=by
 have:=(List.getElem?_eq_some_iff.1 h).1
 rw [qfw,Nat.blt_eq]; omega
theorem qdH (h:A[i]?=some o):(qH pb bb A)[2+i*4+0]?=some (.bool o.made):=qb1 (j:=0) h zd
theorem qgy (h:A[i]?=some o):(qH pb bb A)[2+i*4+1]?=some (.bool o.shut):=qb1 (j:=1) h zd
theorem qmM (h:A[i]?=some o):(qH pb bb A)[2+i*4+2]?=some (zi o.prog):=qb1 (j:=2) h zd
theorem qmL (h:A[i]?=some o):(qH pb bb A)[2+i*4+3]?=some (zi o.starts):=qb1 (j:=3) h zd
theorem qh2 {v:Value} (h:A[i]?=some o) (hj:j<4) (e:(Zd o).set j v=Zd o'):(A.flatMap Zd).set (i*4+j) v=(A.set i o').flatMap Zd:=by
 induction A generalizing i with
 | nil=>simp at h
 | cons x A ih =>
  cases i with
  | zero =>
   obtain rfl:x=o:=by simpa using h
   rw [Nat.zero_mul,Nat.zero_add,List.flatMap_cons,List.set_append_left _ _ (by rw [Jw]; exact hj),e]
   rfl
  | succ i =>
   rw [List.flatMap_cons,List.set_append_right _ _ (by rw [Jw]; omega),Jw,show (i+1)*4+j-4=i*4+j by omega,ih (by simpa using h)]
   rfl
theorem qdG {v:Value} (h:A[i]?=some o) (hj:j<4) (e:(Zd o).set j v=Zd o'):(qH pb bb A).set (2+i*4+j) v=qH pb bb (A.set i o'):=by
 unfold qH
 rw [show 2+i*4+j=(i*4+j)+1+1 by omega,List.set_cons_succ,List.set_cons_succ,qh2 h hj e]
theorem qmJ {x:Bool} (h:A[i]?=some o):(qH pb bb A).set (2+i*4+0) (.bool x)=qH pb bb (A.set i { o with made:=x }):=qdG (j:=0) h zd rfl
theorem qmI {x:Bool} (h:A[i]?=some o):(qH pb bb A).set (2+i*4+1) (.bool x)=qH pb bb (A.set i { o with shut:=x }):=qdG (j:=1) h zd rfl
theorem qmH {x:Int} (h:A[i]?=some o):(qH pb bb A).set (2+i*4+2) (zi x)=qH pb bb (A.set i { o with prog:=x }):=qdG (j:=2) h zd rfl
theorem qmG {x:Int} (h:A[i]?=some o):(qH pb bb A).set (2+i*4+3) (zi x)=qH pb bb (A.set i { o with starts:=x }):=qdG (j:=3) h zd rfl
theorem qlm (h:i<A.length):zA (A.flatMap Zd) (i*4) (Zd o')=(A.set i o').flatMap Zd:=Xl Jw o' h
theorem qo9 (h:i<A.length):zA (qH pb bb A) (2+i*4) (Zd o')=qH pb bb (A.set i o'):=by
 have e:=qlm (o':=o') h
 unfold zA at e ⊢
 unfold qH
 rw [← e,show 2+i*4=(i*4)+1+1 by omega,List.take_succ_cons,List.take_succ_cons,show (i*4)+1+1+(Zd o').length=(i*4+(Zd o').length)+1+1 by omega,List.drop_succ_cons,List.drop_succ_cons]
 rfl
theorem qmK (h:A[i]?=some o):((qH pb bb A).drop (2+i*4)).take 4=Zd o:=by
 apply List.ext_getElem?
 intro j
 by_cases c:j<4
 ·rw [List.getElem?_take,if_pos c,List.getElem?_drop,qb1 h c]
 ·rw [List.getElem?_eq_none (by rw [List.length_take]; omega),List.getElem?_eq_none (by rw [Jw]; omega)]
structure Kc (A:List Qn):Prop where
 len:A.length=256
 rng:∀ o∈A,0≤o.prog∧o.prog≤16
theorem Kc.set (h:Kc A) (i:Nat) (hp:0≤o.prog∧o.prog≤16):Kc (A.set i o):=⟨by rw [List.length_set,h.len],fun x hx=>by
 rcases List.mem_or_eq_of_mem_set hx with hx | rfl
 ·exact h.rng x hx
 ·exact hp⟩
theorem Kc.at (h:Kc A) (hi:i<256):∃ o,A[i]?=some o:=⟨_,List.getElem?_eq_getElem (by rw [h.len]; exact hi)⟩
inductive Q2 (tb n:Nat) (Ws:List Wl) (Q Rs:List (Int × Int)) (As:List Qn):qg→Prop
 | mk {pb bb:Nat} {HP HB:qg} (hP:zb pb n Q Rs HP) (hB:zL bb Ws HB) (hA:Kc As) (hn:Ws.length=n∧n≤64):Q2 tb n Ws Q Rs As ((tb,.cells 170 1026 (qH pb bb As))::(HP++HB))
theorem qmA {f:Value} (hi:id<0):Qx Tryz.prog (fun _=>True) 165 [zp tb,zi id,f] (zi 2):=by
 intro w0 H hT
 refine qc Tryz.func165 rfl Tryz.ntmps165 rfl rfl (za 7 rfl ?_)
 refine W_x (qr rfl rfl QX) (fun _ h=>by cases h) rfl ?_
 refine za 6 rfl ?_
 first | rw [decide_eq_true (by omega)] | rw [decide_eq_false (by omega)]
 refine za 10 rfl ?_
 refine qd (H2:=H) Tryz.results165 rfl (.nil _) zH ?_
 exact ⟨rfl,rfl⟩
theorem qmB {f:Value} (hi:256≤id):Qx Tryz.prog (fun _=>True) 165 [zp tb,zi id,f] (zi 2):=by
 intro w0 H hT
 refine qc Tryz.func165 rfl Tryz.ntmps165 rfl rfl (za 7 rfl ?_)
 refine W_x (qr rfl rfl QX) (fun _ h=>by cases h) rfl ?_
 refine za 6 rfl ?_
 first | rw [decide_eq_true (by omega)] | rw [decide_eq_false (by omega)]
 refine za 5 rfl ?_
 first | rw [decide_eq_true (by omega)] | rw [decide_eq_false (by omega)]
 refine za 7 rfl ?_
 refine qd (H2:=H) Tryz.results165 rfl (.nil _) zH ?_
 exact ⟨rfl,rfl⟩
theorem qbV {f:Value} (hi:¬ (0≤id∧id<256)):Qx Tryz.prog (fun _=>True) 165 [zp tb,zi id,f] (zi 2):=by
 by_cases h:id<0
 ·exact qmA h
 ·exact qmB zO
theorem qbH (hfi:∀ (args:Array Value) (w:World),(callFunc fi args).run Tryz.prog w=.ok (.enter fi args) w) (hi:i<256) (hdo:qh Tryz.prog w0 fi (#[]++#[.pointer (some ⟨tb,2+i*4,none⟩)]++ca.toArray) H R) (hE:∀ v H2,R v H2→∃ e,v=zi e) :qh Tryz.prog w0 165 #[zp tb,zi (i:Int),Value.func (.func fi) #[] ca.toArray] (H) (R):=by
 refine qc (l:=[zp tb,zi (i:Int),Value.func (.func fi) #[] ca.toArray]) Tryz.func165 rfl Tryz.ntmps165 rfl rfl ?_
 refine za 7 rfl ?_
 refine W_x (qr rfl rfl QX) (fun _ h=>by cases h) rfl ?_
 refine za 6 rfl ?_
 first | rw [decide_eq_true (by omega)] | rw [decide_eq_false (by omega)]
 refine za 5 rfl ?_
 first | rw [decide_eq_true (by omega)] | rw [decide_eq_false (by omega)]
 refine za 12 rfl ?_
 refine Qe (j:=i) rfl rfl qoH Js (by first | rfl | omega) (by first | decide | omega | simp) rfl rfl ?_
 refine Yx (fa:=#[]) (ca:=ca.toArray) rfl (.cons rfl .nil) hfi rfl (hdo) ?_
 rintro v H' hR
 refine za 2 rfl ?_
 refine qd (H2:=H') Tryz.results165 rfl (.nil _) zH ?_
 exact hR
theorem qfQ (hA:As[i]?=some o) (hm:(tb,.cells 170 1026 (qH pb bb As))∈H) (hs:o.shut=true) :qB Tryz.prog w0 H 166 [.pointer (some ⟨tb,2+i*4,none⟩),zp b5] (zi 22):=by
 refine qc Tryz.func166 rfl Tryz.ntmps166 rfl rfl (za 8 rfl ?_)
 refine qe (v:=.bool true) rfl ty4 rfl (qf.own (b:=tb) hm (hs ▸ qgy hA)) rfl ?_
 refine za 5 rfl ?_
 refine qd (H2:=H) Tryz.results166 rfl (.nil _) zH ?_
 exact ⟨rfl,rfl⟩
theorem qjy (hfi:∀ (args:Array Value) (w:World),(callFunc fi args).run Tryz.prog w=.ok (.enter fi args) w) (hA:As[i]?=some o) (hm:(tb,.cells 170 1026 (qH pb bb As))∈H) (hs:o.shut=false) (hdo:qh Tryz.prog w0 fi (#[]++#[.pointer (some ⟨tb,2+i*4,none⟩)]++ca.toArray) H R) :qh Tryz.prog w0 166 #[.pointer (some ⟨tb,2+i*4,none⟩),zp b5] ((b5,.cells 154 1 [Value.func (.func fi) #[] ca.toArray])::H) (R):=by
 refine qc (l:=[.pointer (some ⟨tb,2+i*4,none⟩),zp b5]) Tryz.func166 rfl Tryz.ntmps166 rfl rfl ?_
 refine za 8 rfl ?_
 refine qe (v:=.bool false) rfl ty4 rfl (qf.own (b:=tb) (List.mem_cons_of_mem _ hm) (hs ▸ qgy hA)) rfl ?_
 refine za 4 rfl ?_
 refine qe (v:=Value.func (.func fi) #[] ca.toArray) rfl ty154 rfl (qf.own (b:=b5) zM rfl) rfl ?_
 refine qD rfl rfl ?_
 refine Yx (fa:=#[]) (ca:=ca.toArray) rfl (.cons rfl .nil) hfi rfl (hdo.hsub zH) ?_
 rintro v H' hR
 refine za 2 rfl ?_
 refine qd (H2:=H') Tryz.results166 rfl (.nil _) zH ?_
 exact hR
theorem qan {fa ca:Array Value} (hi:¬ (0≤id∧id<256)):Qx Tryz.prog (fun _=>True) 76 [zp tb,zi id,.func (.func fi) fa ca] (zi 2):=by
 intro w0 H hT
 refine qc Tryz.func76 rfl Tryz.ntmps76 rfl rfl (ze ?_)
 refine qK (l:=[.func (.func fi) fa ca]) rfl rfl rfl (fun b5=>?_)
 refine za 5 rfl (qI .nil (.cons rfl .nil) rfl ?_)
 refine qT (zc3 rfl rfl rfl) Tryz.call165 rfl (T:=fun _=>True) trivial (qbV hi) ?_
 refine za 2 rfl ?_
 refine qd (H2:=H) Tryz.results76 rfl (.nil _) zH ?_
 exact ⟨rfl,rfl⟩
theorem KF (hi:i<256) (hA:As[i]?=some o) (hm:(tb,.cells 170 1026 (qH pb bb As))∈H) (hs:o.shut=true) :qh Tryz.prog w0 76 #[zp tb,zi (i:Int),Value.func (.func fi) #[] ca.toArray] (H) (fun v H'=>v=zi 22∧H'=H):=by
 refine qc (l:=[zp tb,zi (i:Int),Value.func (.func fi) #[] ca.toArray]) Tryz.func76 rfl Tryz.ntmps76 rfl rfl ?_
 refine ze ?_
 refine qK (l:=[Value.func (.func fi) #[] ca.toArray]) rfl rfl rfl (fun b5=>?_)
 refine za 5 rfl (qI .nil (.cons rfl .nil) rfl ?_)
 refine qk (zc3 rfl rfl rfl) Tryz.call165 rfl (qbH (i:=i) (fi:=166) (ca:=[zp b5]) Tryz.call166 hi (qfQ hA (List.mem_cons_of_mem _ hm) hs) ?_) ?_
 ·rintro v H' ⟨rfl,rfl⟩
  exact ⟨_,rfl⟩
 rintro v H' ⟨rfl,rfl⟩
 refine za 2 rfl ?_
 refine qd (H2:=H) Tryz.results76 rfl (.nil _) zH ?_
 exact ⟨rfl,rfl⟩
theorem qbJ (hfi:∀ (args:Array Value) (w:World),(callFunc fi args).run Tryz.prog w=.ok (.enter fi args) w) (hi:i<256) (hA:As[i]?=some o) (hm:(tb,.cells 170 1026 (qH pb bb As))∈H) (hs:o.shut=false) (hdo:qh Tryz.prog w0 fi (#[]++#[.pointer (some ⟨tb,2+i*4,none⟩)]++ca.toArray) H R) (hE:∀ v H2,R v H2→∃ e,v=zi e) :qh Tryz.prog w0 76 #[zp tb,zi (i:Int),Value.func (.func fi) #[] ca.toArray] (H) (R):=by
 refine qc (l:=[zp tb,zi (i:Int),Value.func (.func fi) #[] ca.toArray]) Tryz.func76 rfl Tryz.ntmps76 rfl rfl ?_
 refine ze ?_
 refine qK (l:=[Value.func (.func fi) #[] ca.toArray]) rfl rfl rfl (fun b5=>?_)
 refine za 5 rfl (qI .nil (.cons rfl .nil) rfl ?_)
 refine qk (zc3 rfl rfl rfl) Tryz.call165 rfl (qbH (i:=i) (fi:=166) (ca:=[zp b5]) Tryz.call166 hi (qjy hfi hA hm hs hdo) ?_) ?_
 ·exact hE
 rintro v H' hR
 refine za 2 rfl ?_
 refine qd (H2:=H') Tryz.results76 rfl (.nil _) zH ?_
 exact hR
abbrev St:=List (Nat × List Tm)
variable {S:St}
def qcD (S:St) (id:Int):Option Nat:=S.findIdx? (fun x=>ZH x.2 id)
def qhG (S:St) (tn:Nat) (cpu id:Int) (a:Nat):St × Qu × Int :=
 if cpu<0∨(S.length:Int)≤cpu∨id<0∨255<id then (S,qN,2)
 else if (qcD S id).isSome=true then (S,qN,5)
 else match S[cpu.toNat]? with
  | none=>(S,qN,2)
  | some x=>if x.1=18446744073709551615 then (S,qN,12) else (S.set cpu.toNat (x.1,x.2++[qfx x.1 a tn id]),(Qq x.1 a).1,0)
def qgr (S:St) (cpu:Int) (a:Nat) (S':St) (O:List Tm):Prop :=
 ((cpu<0∨(S.length:Int)≤cpu)∧S'=S∧O=[])∨∃ (k:Nat) (now:Nat) (L Li:List Tm),cpu=(k:Int)∧S[k]?=some (now,L)∧KA now (max now a) L Li O∧S'=S.set k (max now a,Li)
structure Rw where
 now:Nat
 L:List Tm
 ad:Option Addr
 cap:Nat
def Rw.nl (d:Rw):Nat × List Tm:=(d.now,d.L)
theorem qlq (h:qcD S id=none) {x:Nat × List Tm} (hx:x∈S):id ∉ x.2.map (·.id):=fun hin=>by
 unfold qcD at h
 rw [List.findIdx?_eq_none_iff] at h
 have:=h x hx
 rw [Jk.2 hin] at this; cases this
def Wl.nl (w:Wl):Nat × List Tm:=(w.now,w.L)
abbrev stW (Ws:List Wl):St:=Ws.map Wl.nl
theorem qbb (Ws:List Wl) (id:Int):qcD (stW Ws) id=ZT Ws id:=by
 unfold qcD ZT
 rw [List.findIdx?_map]; rfl
def qdF (Ws:List Wl) (cpu:Int):Nat:=match Yl Ws cpu with
 | some w=>w.turn
 | none=>0
theorem qc5 (h:Yl Ws cpu=none):cpu<0∨(Ws.length:Int)≤cpu:=by
 rcases qfa Ws cpu with ⟨h1,_⟩ | ⟨_,h1,_⟩ | ⟨h0,h1,h2⟩
 ·exact .inl h1
 ·exact .inr h1
 ·rw [h2,List.getElem?_eq_none_iff] at h; omega
theorem Xt.fn (h:Xt Ws cpu id a Ws' s e) (hr:∀ w∈Ws,∀ t∈w.L,0≤t.id∧t.id<256):qhG (stW Ws) (qdF Ws cpu) cpu id a=(stW Ws',s,e):=by
 have hl:(stW Ws).length=Ws.length:=List.length_map _
 cases h with
 | cpu h=>exact if_pos (by rw [hl]; have:=qc5 h; omega)
 | @twice w k h hf =>
  obtain ⟨c,rfl,hk⟩:=K8 h
  have hc:=(List.getElem?_eq_some_iff.1 hk).1
  obtain ⟨u,hu,hh⟩:=qcF hf
  obtain ⟨t,ht,rfl⟩:=List.mem_map.1 (Jk.1 hh)
  have:=hr u (List.mem_of_getElem? hu) t ht
  unfold qhG
  rw [if_neg (by rw [hl]; omega),if_pos (by rw [qbb,hf]; rfl)]
 | range h hf hn=>exact if_pos zO
 | @late w h hf hi hm =>
  obtain ⟨c,rfl,hk⟩:=K8 h
  have hc:=(List.getElem?_eq_some_iff.1 hk).1
  have hx:(stW Ws)[((c:Nat):Int).toNat]?=some (w.now,w.L):=by rw [show ((c:Nat):Int).toNat=c by omega,List.getElem?_map,hk]; rfl
  unfold qhG
  rw [if_neg (by rw [hl]; omega),if_neg (by rw [qbb,hf]; decide),hx]
  exact if_pos hm
 | @ok k w hc hk hf hi hm =>
  subst hc
  have hc:=(List.getElem?_eq_some_iff.1 hk).1
  have e1:((k:Nat):Int).toNat=k:=by omega
  have hx:(stW Ws)[((k:Nat):Int).toNat]?=some (w.now,w.L):=by rw [e1,List.getElem?_map,hk]; rfl
  have ht:qdF Ws (k:Int)=w.turn:=by unfold qdF Yl; rw [if_pos (by omega),e1,hk]
  unfold qhG
  rw [if_neg (by rw [hl]; omega),if_neg (by rw [qbb,hf]; decide),hx,ht]
  dsimp only
  rw [if_neg (by omega),e1]
  unfold stW
  rw [List.map_set]; rfl
def qnV (S:St) (id:Int):St:=S.map (fun x=>(x.1,Ys x.2 id))
theorem qlD (Ws:List Wl) (id:Int):stW (Ws.map (Yr [id]))=qnV (stW Ws) id:=by
 unfold stW qnV
 rw [List.map_map,List.map_map]
 exact List.map_congr_left fun w _=>rfl
def qaL (S:St):Prop:=∀ (i j:Nat) x y,S[i]?=some x→S[j]?=some y→∀ t∈x.2,∀ u∈y.2,t.id=u.id→i=j
theorem qaL.del (h:qaL S) (id:Int):qaL (qnV S id):=fun i j x y hx hy t ht u hu e=>by
 unfold qnV at hx hy
 rw [List.getElem?_map] at hx hy
 obtain ⟨x',hx',rfl⟩:=Option.map_eq_some_iff.1 hx
 obtain ⟨y',hy',rfl⟩:=Option.map_eq_some_iff.1 hy
 exact h i j x' y' hx' hy' t (List.mem_filter.1 ht).1 u (List.mem_filter.1 hu).1 e
theorem qaL.set (h:qaL S) {x:Nat × List Tm} {z:Nat × List Tm} (hx:S[k]?=some x) (hz:∀ t∈z.2,t∈x.2∨∀ y∈S,t.id ∉ y.2.map (·.id)):qaL (S.set k z):=fun i j p q hp hq t ht u hu e=>by
 have hk:=(List.getElem?_eq_some_iff.1 hx).1
 by_cases ci:k=i <;> by_cases cj:k=j
 ·omega
 ·subst ci
  rw [List.getElem?_set_self hk] at hp
  obtain rfl:=Option.some.inj hp
  rw [List.getElem?_set_ne cj] at hq
  rcases hz t ht with h1 | h1
  ·exact h k j x q hx hq t h1 u hu e
  ·exact absurd (e ▸ List.mem_map_of_mem hu) (h1 q (List.mem_of_getElem? hq))
 ·subst cj
  rw [List.getElem?_set_self hk] at hq
  obtain rfl:=Option.some.inj hq
  rw [List.getElem?_set_ne ci] at hp
  rcases hz u hu with h1 | h1
  ·exact h i k p x hp hx t ht u h1 e
  ·exact absurd (e ▸ List.mem_map_of_mem ht) (h1 p (List.mem_of_getElem? hp))
 ·rw [List.getElem?_set_ne ci] at hp
  rw [List.getElem?_set_ne cj] at hq
  exact h i j p q hp hq t ht u hu e
theorem qaL.put (h:qaL S) (tn:Nat) (cpu id:Int) (a:Nat):qaL (qhG S tn cpu id a).1:=by
 unfold qhG
 split
 ·exact h
 ·split
  ·exact h
  ·rename_i hf
   have hf:qcD S id=none:=by cases e:qcD S id with | none=>rfl | some k=>rw [e] at hf; exact absurd rfl hf
   split
   ·exact h
   ·rename_i x hx
    split
    ·exact h
    ·refine h.set hx (fun t ht=>?_)
     rcases List.mem_append.1 ht with ht | ht
     ·exact .inl ht
     ·exact .inr (fun y hy=>by rw [List.mem_singleton.1 ht]; exact qlq hf hy)
theorem ZR.fn (h:ZR Ws cpu a Ws' O):qgr (stW Ws) cpu a (stW Ws') O:=by
 rcases h with ⟨h,rfl,rfl⟩ | ⟨k,w,Li,rfl,hk,hG,rfl⟩
 ·exact .inl ⟨by rw [List.length_map]; exact qc5 h,rfl,rfl⟩
 ·exact .inr ⟨k,w.now,w.L,Li,rfl,by rw [List.getElem?_map,hk]; rfl,hG,by unfold stW; rw [List.map_set]; rfl⟩
theorem qgr.uni {S':St} (h:qgr S cpu a S' O) (hU:qaL S):qaL S':=by
 rcases h with ⟨_,rfl,rfl⟩ | ⟨k,now,L,Li,rfl,hk,hG,rfl⟩
 ·exact hU
 ·exact hU.set hk (fun t ht=>.inl (by rw [hG.left] at ht; exact (List.mem_filter.1 ht).1))
theorem zL.wheelOf2 (h:zL bb Ws HB) (hw:w∈Ws):∃ HW,zP w.bw w.now w.L w.turn HW:=by
 obtain ⟨k,hk,e⟩:=List.getElem_of_mem hw
 obtain ⟨HW,hW,_⟩:=h.wheel (k:=k) (w:=w) (by rw [List.getElem?_eq_getElem hk,e])
 exact ⟨HW,hW⟩
theorem zL.rng (h:zL bb Ws HB):∀ w∈Ws,∀ t∈w.L,0≤t.id∧t.id<256:=fun w hw t ht=>by
 obtain ⟨HU,hU⟩:=h.wheelOf2 hw
 exact hU.ids.2.1 t ht
structure BOk (T:Nat) (Ws:List Wl):Prop where
 now:∀ w∈Ws,w.now≤18446744073709551615
 later:∀ w∈Ws,∀ t∈w.L,w.now<t.s.due
 turn:∀ w∈Ws,w.turn≤T
 uni:qaL (stW Ws)
theorem BOk.start (hn:now≤18446744073709551615) (hf:∀ w∈Ws,XW now w):BOk 0 Ws:=by
 refine ⟨fun w hw=>?_,fun w hw t ht=>?_,fun w hw=>?_,fun i j x y hx _ t ht=>?_⟩
 ·rw [(hf w hw).1]; exact hn
 ·rw [(hf w hw).2.1] at ht; cases ht
 ·rw [(hf w hw).2.2]; exact Nat.le_refl _
 ·obtain ⟨w,hw,rfl⟩:=List.mem_map.1 (List.mem_of_getElem? hx)
  have ht2:t∈w.L:=ht
  rw [(hf w hw).2.1] at ht2; cases ht2
theorem BOk.up {T':Nat} (h:BOk T Ws) (hl:T≤T'):BOk T' Ws:=⟨h.now,h.later,fun w hw=>Nat.le_trans (h.turn w hw) hl,h.uni⟩
theorem BOk.put {HB':qg} (h:BOk T Ws) (hr:∀ w∈Ws,∀ t∈w.L,0≤t.id∧t.id<256) (hp:Xt Ws cpu id a Ws' s e) (hB':zL bb Ws' HB'):BOk (T+1) Ws':=by
 have hu:qaL (stW Ws'):=by have:=h.uni.put (qdF Ws cpu) cpu id a; rwa [hp.fn hr] at this
 cases hp with
 | cpu _=>exact h.up (Nat.le_succ _)
 | twice _ _=>exact h.up (Nat.le_succ _)
 | range _ _ _=>exact h.up (Nat.le_succ _)
 | late _ _ _ _=>exact h.up (Nat.le_succ _)
 | @ok k w hc hk hf hi hm =>
  have hwm:=List.mem_of_getElem? hk
  have hkl:=(List.getElem?_eq_some_iff.1 hk).1
  refine ⟨fun u hu=>?_,fun u hu=>?_,fun u hu=>?_,hu⟩
  ·rcases List.mem_or_eq_of_mem_set hu with hu | rfl
   ·exact h.now u hu
   ·exact h.now w hwm
  ·rcases List.mem_or_eq_of_mem_set hu with hu' | rfl
   ·exact h.later u hu'
   ·obtain ⟨HU,hU⟩:=hB'.wheelOf2 hu
    exact hU.later hm
  ·rcases List.mem_or_eq_of_mem_set hu with hu | rfl
   ·exact Nat.le_succ_of_le (h.turn u hu)
   ·have:=h.turn w hwm
    show w.turn+1≤T+1; omega
theorem BOk.del (h:BOk T Ws) (id:Int):BOk T (Ws.map (Yr [id])):=by
 refine ⟨fun u hu=>?_,fun u hu t ht=>?_,fun u hu=>?_,by rw [qlD]; exact h.uni.del id⟩
 ·obtain ⟨w,hw,rfl⟩:=List.mem_map.1 hu
  exact h.now w hw
 ·obtain ⟨w,hw,rfl⟩:=List.mem_map.1 hu
  exact h.later w hw t (List.mem_filter.1 ht).1
 ·obtain ⟨w,hw,rfl⟩:=List.mem_map.1 hu
  exact h.turn w hw
theorem BOk.catch (h:BOk T Ws) (ha:a≤18446744073709551615) (hc:ZR Ws cpu a Ws' O):BOk T Ws':=by
 have hu:qaL (stW Ws'):=hc.fn.uni h.uni
 rcases hc with ⟨_,rfl,rfl⟩ | ⟨k,w,Li,rfl,hk,hG,rfl⟩
 ·exact h
 ·have hwm:=List.mem_of_getElem? hk
  refine ⟨fun u hu=>?_,fun u hu t ht=>?_,fun u hu=>?_,hu⟩
  ·rcases List.mem_or_eq_of_mem_set hu with hu | rfl
   ·exact h.now u hu
   ·have:=h.now w hwm
    show max w.now a≤_; omega
  ·rcases List.mem_or_eq_of_mem_set hu with hu | rfl
   ·exact h.later u hu t ht
   ·have ht2:t∈Li:=ht
    rw [hG.left] at ht2
    exact of_decide_eq_true (List.mem_filter.1 ht2).2
  ·rcases List.mem_or_eq_of_mem_set hu with hu | rfl
   ·exact h.turn u hu
   ·exact h.turn w hwm
def JJ (o:Qn):Qn × Int:=if o.shut=true then (o,22) else if o.made=true then (o,5) else ({ o with made:=true },0)
def setO (prog:Int) (o:Qn):Qn × Int:=if o.shut=true then (o,22) else if o.made=false then (o,1) else ({ o with prog:=prog+1 },0)
def onA (f:Qn→Qn × Int) (As:List Qn) (id:Int):List Qn × Int:=if 0≤id∧id<256 then (match As[id.toNat]? with
 | some o=>(As.set id.toNat (f o).1,(f o).2)
 | none=>(As,2)) else (As,2)
theorem qdO {f:Qn→Qn × Int} (hi:i<256) (h:As[i]?=some o):onA f As (i:Int)=(As.set i (f o).1,(f o).2):=by
 unfold onA; rw [if_pos (by omega),show ((i:Nat):Int).toNat=i by omega,h]
theorem qgG {f:Qn→Qn × Int} (h:¬ (0≤id∧id<256)):onA f As id=(As,2):=if_neg h
theorem qaf (h:As[i]?=some o):As.set i o=As:=Z0 h
theorem qnz (hA:As[i]?=some o) (hs:o.shut=false):qh Tryz.prog w0 77 #[.pointer (some ⟨tb,2+i*4,none⟩)] ((tb,.cells 170 1026 (qH pb bb As))::H) (fun v H'=>v=zi (JJ o).2∧H'=(tb,.cells 170 1026 (qH pb bb (As.set i (JJ o).1)))::H):=by
 refine qc (l:=[.pointer (some ⟨tb,2+i*4,none⟩)]) Tryz.func77 rfl Tryz.ntmps77 rfl rfl ?_
 refine za 8 rfl ?_
 refine qe (v:=.bool o.made) rfl ty4 rfl (qf.own (b:=tb) zM (qdH hA)) rfl ?_
 refine qs ?_
 refine Y2 rfl (fun c0=>?_) (fun c0=>?_)
 ·skip
  refine za 3 rfl (qd Tryz.results77 rfl (.nil _) (.refl _) ?_)
  have e:JJ o=(o,5):=by unfold JJ; rw [if_neg (by rw [hs]; decide),if_pos c0]
  rw [e,qaf hA]
  exact ⟨rfl,rfl⟩
 ·skip
  refine za 5 rfl ?_
  refine qv (l':=qH pb bb (As.set i { o with made:=true })) rfl rfl ty4 rfl rfl (b:=tb) zM (qgx hA zd) (qmJ hA) zU ?_
  refine za 4 rfl (qd Tryz.results77 rfl (.nil _) (.refl _) ?_)
  have e:JJ o=({ o with made:=true },0):=by unfold JJ; rw [if_neg (by rw [hs]; decide),if_neg (by rw [c0]; decide)]
  rw [e]
  exact ⟨rfl,rfl⟩
theorem qpc (hA:As[i]?=some o) (hs:o.shut=false) (hp:0≤prog∧prog<16):qh Tryz.prog w0 167 #[.pointer (some ⟨tb,2+i*4,none⟩),zp b5] ((tb,.cells 170 1026 (qH pb bb As))::(b5,.cells 3 1 [zi prog])::H) (fun v H'=>v=zi ((setO prog) o).2∧H'=(tb,.cells 170 1026 (qH pb bb (As.set i ((setO prog) o).1)))::H):=by
 refine qc (l:=[.pointer (some ⟨tb,2+i*4,none⟩),zp b5]) Tryz.func167 rfl Tryz.ntmps167 rfl rfl ?_
 refine za 8 rfl ?_
 refine qe (v:=.bool o.made) rfl ty4 rfl (qf.own (b:=tb) zM (qdH hA)) rfl ?_
 refine za 2 rfl ?_
 refine Y2 rfl (fun c0=>?_) (fun c0=>?_)
 ·simp only [cond_true,cond_false,Bool.and_eq_true,Bool.or_eq_true,Bool.and_eq_false_iff,Bool.or_eq_false_iff,decide_eq_true_eq,decide_eq_false_iff_not,Bool.not_eq_true',Bool.not_eq_false',ne_eq,Decidable.not_not] at c0
  refine za 3 rfl ?_
  refine qd (H2:=(tb,.cells 170 1026 (qH pb bb As))::H) Tryz.results167 rfl (.nil _) zH ?_
  have e:setO prog o=(o,1):=by unfold setO; rw [if_neg (by rw [hs]; decide),if_pos c0]
  rw [e,qaf hA]
  exact ⟨rfl,rfl⟩
 ·simp only [cond_true,cond_false,Bool.and_eq_true,Bool.or_eq_true,Bool.and_eq_false_iff,Bool.or_eq_false_iff,decide_eq_true_eq,decide_eq_false_iff_not,Bool.not_eq_true',Bool.not_eq_false',ne_eq,Decidable.not_not] at c0
  refine za 3 rfl ?_
  refine qe (v:=zi prog) rfl ty3 rfl (qf.own (b:=b5) zM rfl) rfl ?_
  refine qE rfl rfl (qQ (m:=prog+1) (zg zO)) rfl ?_
  refine za 2 rfl ?_
  refine qv (l':=qH pb bb (As.set i { o with prog:=prog+1 })) rfl rfl ty3 rfl rfl (b:=tb) zM (qgx hA zd) (qmH hA) zU ?_
  refine za 4 rfl ?_
  refine qd (H2:=(tb,.cells 170 1026 (qH pb bb (As.set i { o with prog:=prog+1 })))::H) Tryz.results167 rfl (.nil _) zH ?_
  have e:setO prog o=({ o with prog:=prog+1 },0):=by unfold setO; rw [if_neg (by rw [hs]; decide),if_neg (by rw [c0]; decide)]
  rw [e]
  exact ⟨rfl,rfl⟩
theorem qou (hA:As[i]?=some o) (hi:i<256) :qh Tryz.prog w0 22 #[zp tb,zi (i:Int)] ((tb,.cells 170 1026 (qH pb bb As))::H) (fun v H'=>v=zi (JJ o).2∧H'=(tb,.cells 170 1026 (qH pb bb (As.set i (JJ o).1)))::H):=by
 refine qc (l:=[zp tb,zi (i:Int)]) Tryz.func22 rfl Tryz.ntmps22 rfl rfl ?_
 refine za 6 rfl ?_
 cases hs:o.shut
 ·skip
  refine qk (zc3 rfl rfl rfl) Tryz.call76 rfl (qbJ (ca:=[]) Tryz.call77 hi hA zM hs (qnz (H:=H) hA hs) (by rintro v H2 ⟨rfl,_⟩; exact ⟨_,rfl⟩)) ?_
  rintro v H' ⟨rfl,rfl⟩
  refine za 2 rfl (qd Tryz.results22 rfl (.nil _) (.refl _) ?_)
  exact ⟨rfl,rfl⟩
 ·skip
  refine qk (zc3 rfl rfl rfl) Tryz.call76 rfl (KF (ca:=[]) hi hA zM hs) ?_
  rintro v H' ⟨rfl,rfl⟩
  refine za 2 rfl (qd Tryz.results22 rfl (.nil _) (.refl _) ?_)
  have e:JJ o=(o,22):=by unfold JJ; rw [if_pos hs]
  rw [e,qaf hA]
  exact ⟨rfl,rfl⟩
theorem qmp (hi:¬ (0≤id∧id<256)):Qx Tryz.prog (fun _=>True) 22 [zp tb,zi id] (zi 2):=by
 intro w0 H hT
 refine qc Tryz.func22 rfl Tryz.ntmps22 rfl rfl (za 6 rfl ?_)
 refine qT (zc3 rfl rfl rfl) Tryz.call76 rfl (T:=fun _=>True) trivial (qan hi) ?_
 refine za 2 rfl ?_
 refine qd (H2:=H) Tryz.results22 rfl (.nil _) zH ?_
 exact ⟨rfl,rfl⟩
theorem qhU (h:0≤o.prog∧o.prog≤16):0≤(JJ o).1.prog∧(JJ o).1.prog≤16:=by
 unfold JJ; split
 ·exact h
 ·split <;> exact h
theorem qi7 (hp:0≤prog∧prog<16) (h:0≤o.prog∧o.prog≤16):0≤(setO prog o).1.prog∧(setO prog o).1.prog≤16:=by
 unfold setO; split
 ·exact h
 ·split
  ·exact h
  ·show 0≤prog+1∧prog+1≤16; omega
theorem qqu (hT:Q2 tb n Ws Q Rs As HB) :qh Tryz.prog w0 22 #[zp tb,zi id] (HB++H) (fun v H'=>∃ HB',Q2 tb n Ws Q Rs (onA JJ As id).1 HB'∧v=zi (onA JJ As id).2∧H'=HB'++H):=by
 by_cases hi:0≤id∧id<256
 ·obtain ⟨i,rfl⟩:∃ i:Nat,id=(i:Int):=⟨id.toNat,by omega⟩
  cases hT with
  | @mk pb bb HP HBk hP hB hA hn =>
   obtain ⟨o,ho⟩:=hA.at (i:=i) zO
   refine (qou (H:=(HP++HBk)++H) ho zO).mono ?_
   rintro v H' ⟨rfl,rfl⟩
   rw [qdO (by omega) ho]
   exact ⟨_,.mk hP hB (hA.set i (qhU (hA.rng o (List.mem_of_getElem? ho)))) hn,rfl,rfl⟩
 ·rw [qgG hi]
  refine (qmp hi w0 _ trivial).mono ?_
  rintro v H' ⟨rfl,rfl⟩
  exact ⟨HB,hT,rfl,rfl⟩
theorem qqc (hp:prog<0):Qx Tryz.prog (fun _=>True) 79 [zp tb,zi id,zi prog] (zi 2):=by
 intro w0 H hT
 refine qc Tryz.func79 rfl Tryz.ntmps79 rfl rfl (ze ?_)
 refine qK (l:=[zi prog]) rfl rfl rfl (fun b5=>?_)
 refine za 5 rfl ?_
 refine W_x (zz rfl rfl QX) (fun _ h=>by cases h) rfl ?_
 refine za 2 rfl ?_
 refine qe (v:=zi prog) rfl ty3 rfl (qf.own (b:=b5) zM rfl) rfl ?_
 refine za 2 rfl ?_
 first | rw [decide_eq_true (by omega)] | rw [decide_eq_false (by omega)]
 refine za 12 rfl ?_
 refine qd (H2:=H) Tryz.results79 rfl (.nil _) zH ?_
 exact ⟨rfl,rfl⟩
theorem qqd (hp:16≤prog):Qx Tryz.prog (fun _=>True) 79 [zp tb,zi id,zi prog] (zi 2):=by
 intro w0 H hT
 refine qc Tryz.func79 rfl Tryz.ntmps79 rfl rfl (ze ?_)
 refine qK (l:=[zi prog]) rfl rfl rfl (fun b5=>?_)
 refine za 5 rfl ?_
 refine W_x (zz rfl rfl QX) (fun _ h=>by cases h) rfl ?_
 refine za 2 rfl ?_
 refine qe (v:=zi prog) rfl ty3 rfl (qf.own (b:=b5) zM rfl) rfl ?_
 refine za 2 rfl ?_
 first | rw [decide_eq_true (by omega)] | rw [decide_eq_false (by omega)]
 refine za 3 rfl ?_
 refine qe (v:=zi prog) rfl ty3 rfl (qf.own (b:=b5) zM rfl) rfl ?_
 refine za 2 rfl ?_
 first | rw [decide_eq_true (by omega)] | rw [decide_eq_false (by omega)]
 refine za 8 rfl ?_
 refine qd (H2:=H) Tryz.results79 rfl (.nil _) zH ?_
 exact ⟨rfl,rfl⟩
theorem qon (hp:0≤prog∧prog<16) (hi:¬ (0≤id∧id<256)):Qx Tryz.prog (fun _=>True) 79 [zp tb,zi id,zi prog] (zi 2):=by
 intro w0 H hT
 refine qc Tryz.func79 rfl Tryz.ntmps79 rfl rfl (ze ?_)
 refine qK (l:=[zi prog]) rfl rfl rfl (fun b5=>?_)
 refine za 5 rfl ?_
 refine W_x (zz rfl rfl QX) (fun _ h=>by cases h) rfl ?_
 refine za 2 rfl ?_
 refine qe (v:=zi prog) rfl ty3 rfl (qf.own (b:=b5) zM rfl) rfl ?_
 refine za 2 rfl ?_
 first | rw [decide_eq_true (by omega)] | rw [decide_eq_false (by omega)]
 refine za 3 rfl ?_
 refine qe (v:=zi prog) rfl ty3 rfl (qf.own (b:=b5) zM rfl) rfl ?_
 refine za 2 rfl ?_
 first | rw [decide_eq_true (by omega)] | rw [decide_eq_false (by omega)]
 refine za 9 rfl (qI .nil (.cons rfl .nil) rfl ?_)
 refine qT (zc3 rfl rfl rfl) Tryz.call76 rfl (T:=fun _=>True) trivial (qan hi) ?_
 refine za 2 rfl ?_
 refine qd (H2:=H) Tryz.results79 rfl (.nil _) zH ?_
 exact ⟨rfl,rfl⟩
theorem qqe (hA:As[i]?=some o) (hi:i<256) (hp:0≤prog∧prog<16) :qh Tryz.prog w0 79 #[zp tb,zi (i:Int),zi prog] ((tb,.cells 170 1026 (qH pb bb As))::H) (fun v H'=>v=zi ((setO prog) o).2∧H'=(tb,.cells 170 1026 (qH pb bb (As.set i ((setO prog) o).1)))::H):=by
 refine qc (l:=[zp tb,zi (i:Int),zi prog]) Tryz.func79 rfl Tryz.ntmps79 rfl rfl ?_
 refine ze ?_
 refine qK (l:=[zi prog]) rfl rfl rfl (fun b5=>?_)
 refine za 5 rfl ?_
 refine W_x (zz rfl rfl QX) (fun _ h=>by cases h) rfl ?_
 refine za 2 rfl ?_
 refine qe (v:=zi prog) rfl ty3 rfl (qf.own (b:=b5) zM rfl) rfl ?_
 refine za 2 rfl ?_
 first | rw [decide_eq_true (by omega)] | rw [decide_eq_false (by omega)]
 refine za 3 rfl ?_
 refine qe (v:=zi prog) rfl ty3 rfl (qf.own (b:=b5) zM rfl) rfl ?_
 refine za 2 rfl ?_
 first | rw [decide_eq_true (by omega)] | rw [decide_eq_false (by omega)]
 refine za 9 rfl (qI .nil (.cons rfl .nil) rfl ?_)
 cases hs:o.shut
 ·skip
  refine qk (zc3 rfl rfl rfl) Tryz.call76 rfl ((qbJ (R:=fun v H'=>v=.int .i64 (setO prog o).2∧H'=(tb,.cells 170 1026 (qH pb bb (As.set i (setO prog o).1)))::H) (ca:=[zp b5]) Tryz.call167 hi hA zM hs (H:=(tb,.cells 170 1026 (qH pb bb As))::(b5,.cells 3 1 [.int .i64 prog])::H) (qpc (H:=H) hA hs hp) (by rintro v H2 ⟨rfl,_⟩; exact ⟨_,rfl⟩)).hsub zH) ?_
  rintro v H' ⟨rfl,rfl⟩
  refine za 2 rfl ?_
  refine qd (H2:=(tb,.cells 170 1026 (qH pb bb (As.set i (setO prog o).1)))::H) Tryz.results79 rfl (.nil _) zH ?_
  exact ⟨rfl,rfl⟩
 ·skip
  refine qk (zc3 rfl rfl rfl) Tryz.call76 rfl ((KF (ca:=[zp b5]) (H:=(tb,.cells 170 1026 (qH pb bb As))::(b5,.cells 3 1 [zi prog])::H) hi hA zM hs).hsub zH) ?_
  rintro v H' ⟨rfl,rfl⟩
  refine za 2 rfl ?_
  refine qd (H2:=(tb,.cells 170 1026 (qH pb bb As))::H) Tryz.results79 rfl (.nil _) zH ?_
  have e:setO prog o=(o,22):=by unfold setO; rw [if_pos hs]
  rw [e,qaf hA]
  exact ⟨rfl,rfl⟩
def setA (As:List Qn) (id prog:Int):List Qn × Int:=if 0≤prog∧prog<16 then onA (setO prog) As id else (As,2)
theorem Set_L (hT:Q2 tb n Ws Q Rs As HB) :qh Tryz.prog w0 79 #[zp tb,zi id,zi prog] (HB++H) (fun v H'=>∃ HB',Q2 tb n Ws Q Rs (setA As id prog).1 HB'∧v=zi (setA As id prog).2∧H'=HB'++H):=by
 unfold setA
 by_cases hp:0≤prog∧prog<16
 ·rw [if_pos hp]
  by_cases hi:0≤id∧id<256
  ·obtain ⟨i,rfl⟩:∃ i:Nat,id=(i:Int):=⟨id.toNat,by omega⟩
   cases hT with
   | @mk pb bb HP HBk hP hB hA hn =>
    obtain ⟨o,ho⟩:=hA.at (i:=i) zO
    refine (qqe (H:=(HP++HBk)++H) ho zO hp).mono ?_
    rintro v H' ⟨rfl,rfl⟩
    rw [qdO (by omega) ho]
    exact ⟨_,.mk hP hB (hA.set i (qi7 hp (hA.rng o (List.mem_of_getElem? ho)))) hn,rfl,rfl⟩
  ·rw [qgG hi]
   refine (qon hp hi w0 _ trivial).mono ?_
   rintro v H' ⟨rfl,rfl⟩
   exact ⟨HB,hT,rfl,rfl⟩
 ·rw [if_neg hp]
  by_cases h0:prog<0
  ·refine (qqc h0 w0 _ trivial).mono ?_
   rintro v H' ⟨rfl,rfl⟩
   exact ⟨HB,hT,rfl,rfl⟩
  ·refine (qqd zO w0 _ trivial).mono ?_
   rintro v H' ⟨rfl,rfl⟩
   exact ⟨HB,hT,rfl,rfl⟩
def qiL (Ws:List Wl) (Q:List (Int × Int)) (z:Int):Bool:=decide (0<Yf Ws [z] Ws.length+(QJ Q [z]).2)
theorem qfy (hP:zb pb n Q Rs HP) (hB:zL bb Ws HBk) (hn:Ws.length=n∧n≤64) :qh Tryz.prog w0 91 #[zp tb,zi z] ((tb,.cells 170 1026 (qH pb bb As))::(HP++(HBk++H))) (fun v H'=>∃ HP2 HB2,zb pb n (ZC Q z) Rs HP2∧zL bb (Ws.map (Yr [z])) HB2∧v=.bool (qiL Ws Q z)∧H'=(tb,.cells 170 1026 (qH pb bb As))::(HP2++(HB2++H))):=by
 have hc1:=qed Ws [z] Ws.length
 have hc2:(QJ Q [z]).2≤1:=qcK Q [z] 1 (Nat.le_refl _)
 rw [List.length_singleton,Nat.mul_one] at hc1
 refine qc (l:=[zp tb,zi z]) Tryz.func91 rfl Tryz.ntmps91 rfl rfl ?_
 refine za 4 rfl ?_
 refine Kx (X:=(qg × qg)) (fun _=>[(4,.bool (qiL Ws Q z))]) (fun x=>(tb,.cells 170 1026 (qH pb bb As))::(x.1++(x.2++H))) (fun x=>zb pb n (ZC Q z) Rs x.1∧zL bb (Ws.map (Yr [z])) x.2) ?_ ?_
 ·skip
  refine W_anyC [(tb,.cells 170 1026 (qH pb bb As))] zk ?_
  refine zw [0,1,2] rfl rfl ?_
  refine WC_take 3 rfl zK zK zK rfl rfl (qj (v:=zp bb) rfl JW rfl (qf.own (b:=tb) zM rfl)) rfl ?_
  refine zw [4,7,8,9] rfl rfl ?_
  refine WC_take 10 rfl zK zK zK rfl rfl (qj (v:=zp pb) rfl Zf rfl (qf.own (b:=tb) zM rfl)) rfl ?_
  refine zw [11] rfl rfl ?_
  refine K6 5 12 zH zK rfl rfl rfl rfl ?_ ?_
  ·skip
   refine qy (l:=[zi z]) qZ ty3 (.cons rfl rfl rfl rfl rfl .nil) rfl rfl rfl rfl rfl rfl rfl (fun b10=>?_)
   refine qs (WC_goal ?_)
   refine K6 6 12 zH zK rfl rfl rfl rfl ?_ ?_
   ·skip
    refine qk (zc2 rfl rfl) Tryz.call178 rfl ((qgp hB zO (l:=[z]) (ad:=some ⟨b10,0,none⟩) (cap:=1) (by show 1≤4611686018427387904; decide) (by show 1≤1000000; decide) (Holds.own (b:=b10) zM) (H:=(b10,.cells 3 1 [zi z])::(tb,.cells 170 1026 (qH pb bb As))::(HP++H))).hsub zH) ?_
    rintro v H' ⟨HB2,hB2,rfl,rfl⟩
    refine qs (WC_goal ?_)
    refine WC_one 12 zH zK rfl rfl ?_
    refine qy (l:=[zi z]) qZ ty3 (.cons rfl rfl rfl rfl rfl .nil) rfl rfl rfl rfl rfl rfl rfl (fun b17=>?_)
    refine qs (WC_goal ?_)
    refine WC_one 13 zH zK rfl rfl ?_
    refine qk (zc2 rfl rfl) Tryz.call179 rfl ((qaY hP zO (ids:=[z]) (ad:=some ⟨b17,0,none⟩) (cap:=1) (by show 1≤1000000; decide) (Holds.own (b:=b17) zM) (H:=(b17,.cells 3 1 [zi z])::(tb,.cells 170 1026 (qH pb bb As))::(HB2++H))).hsub zH) ?_
    rintro v H' ⟨HP2,hP2,rfl,rfl⟩
    refine qs (WC_goal ?_)
    refine WC_take 14 rfl zK zK zK rfl rfl (QU rfl rfl (qQ (m:=((Yf Ws [z] Ws.length+(QJ Q [z]).2:Nat):Int)) (by rw [zg (by omega)]; omega))) rfl ?_
    refine zw [15] rfl rfl ?_
    rw [show decide ((0:Int)<((Yf Ws [z] Ws.length+(QJ Q [z]).2:Nat):Int))=qiL Ws Q z from decide_eq_decide.2 (by omega)]
    refine zw [16] rfl rfl (WC_done zH zK ?_)
    refine QV (HP2,HB2) ⟨hP2,hB2⟩ (qa rfl (qi _)) zH
   ·skip
    refine qy (l:=[zi z]) qZ ty3 (.cons rfl rfl rfl rfl rfl .nil) rfl rfl rfl rfl rfl rfl rfl (fun b17=>?_)
    refine qs (WC_goal ?_)
    refine WC_one 6 zH zK rfl rfl ?_
    refine qk (zc2 rfl rfl) Tryz.call178 rfl ((qgp hB zO (l:=[z]) (ad:=some ⟨b10,0,none⟩) (cap:=1) (by show 1≤4611686018427387904; decide) (by show 1≤1000000; decide) (Holds.own (b:=b10) zM) (H:=(b10,.cells 3 1 [zi z])::(b17,.cells 3 1 [zi z])::(tb,.cells 170 1026 (qH pb bb As))::(HP++H))).hsub zH) ?_
    rintro v H' ⟨HB2,hB2,rfl,rfl⟩
    refine qs (WC_goal ?_)
    refine WC_one 13 zH zK rfl rfl ?_
    refine qk (zc2 rfl rfl) Tryz.call179 rfl ((qaY hP zO (ids:=[z]) (ad:=some ⟨b17,0,none⟩) (cap:=1) (by show 1≤1000000; decide) (Holds.own (b:=b17) zM) (H:=(b17,.cells 3 1 [zi z])::(tb,.cells 170 1026 (qH pb bb As))::(HB2++H))).hsub zH) ?_
    rintro v H' ⟨HP2,hP2,rfl,rfl⟩
    refine qs (WC_goal ?_)
    refine WC_take 14 rfl zK zK zK rfl rfl (QU rfl rfl (qQ (m:=((Yf Ws [z] Ws.length+(QJ Q [z]).2:Nat):Int)) (by rw [zg (by omega)]; omega))) rfl ?_
    refine zw [15] rfl rfl ?_
    rw [show decide ((0:Int)<((Yf Ws [z] Ws.length+(QJ Q [z]).2:Nat):Int))=qiL Ws Q z from decide_eq_decide.2 (by omega)]
    refine zw [16] rfl rfl (WC_done zH zK ?_)
    refine QV (HP2,HB2) ⟨hP2,hB2⟩ (qa rfl (qi _)) zH
  ·skip
   refine qy (l:=[zi z]) qZ ty3 (.cons rfl rfl rfl rfl rfl .nil) rfl rfl rfl rfl rfl rfl rfl (fun b17=>?_)
   refine qs (WC_goal ?_)
   refine WC_one 5 zH zK rfl rfl ?_
   refine qy (l:=[zi z]) qZ ty3 (.cons rfl rfl rfl rfl rfl .nil) rfl rfl rfl rfl rfl rfl rfl (fun b10=>?_)
   refine qs (WC_goal ?_)
   refine WC_one 6 zH zK rfl rfl ?_
   refine qk (zc2 rfl rfl) Tryz.call178 rfl ((qgp hB zO (l:=[z]) (ad:=some ⟨b10,0,none⟩) (cap:=1) (by show 1≤4611686018427387904; decide) (by show 1≤1000000; decide) (Holds.own (b:=b10) zM) (H:=(b10,.cells 3 1 [zi z])::(b17,.cells 3 1 [zi z])::(tb,.cells 170 1026 (qH pb bb As))::(HP++H))).hsub zH) ?_
   rintro v H' ⟨HB2,hB2,rfl,rfl⟩
   refine qs (WC_goal ?_)
   refine WC_one 13 zH zK rfl rfl ?_
   refine qk (zc2 rfl rfl) Tryz.call179 rfl ((qaY hP zO (ids:=[z]) (ad:=some ⟨b17,0,none⟩) (cap:=1) (by show 1≤1000000; decide) (Holds.own (b:=b17) zM) (H:=(b17,.cells 3 1 [zi z])::(tb,.cells 170 1026 (qH pb bb As))::(HB2++H))).hsub zH) ?_
   rintro v H' ⟨HP2,hP2,rfl,rfl⟩
   refine qs (WC_goal ?_)
   refine WC_take 14 rfl zK zK zK rfl rfl (QU rfl rfl (qQ (m:=((Yf Ws [z] Ws.length+(QJ Q [z]).2:Nat):Int)) (by rw [zg (by omega)]; omega))) rfl ?_
   refine zw [15] rfl rfl ?_
   rw [show decide ((0:Int)<((Yf Ws [z] Ws.length+(QJ Q [z]).2:Nat):Int))=qiL Ws Q z from decide_eq_decide.2 (by omega)]
   refine zw [16] rfl rfl (WC_done zH zK ?_)
   refine QV (HP2,HB2) ⟨hP2,hB2⟩ (qa rfl (qi _)) zH
 rintro ⟨HP2,HB2⟩ ⟨hP2,hB2⟩
 dsimp only at hP2 hB2 ⊢
 refine qd (H2:=(tb,.cells 170 1026 (qH pb bb As))::(HP2++(HB2++H))) Tryz.results91 rfl (.nil _) zH ?_
 exact ⟨HP2,HB2,hP2,hB2,rfl,rfl⟩
theorem qjz (h:Ws[k]?=some w):qjA Ws (k:Int)=w.now:=by
 unfold qjA Yl
 rw [if_pos (by omega),show ((k:Nat):Int).toNat=k by omega,h]
inductive YN (Ws:List Wl) (Q:List (Int × Int)) (As:List Qn) (i k a:Nat) (o:Qn) (w:Wl):List Wl→List (Int × Int)→List Qn→Qu→Int→Prop
 | gone (h:o.shut=true):YN Ws Q As i k a o w Ws Q As qN 22
 | unset (hs:o.shut=false) (h:o.made=false∨o.prog=0):YN Ws Q As i k a o w Ws Q As qN 1
 | late (hs:o.shut=false) (h:¬ (o.made=false∨o.prog=0)) (hm:w.now=18446744073709551615):YN Ws Q As i k a o w Ws Q As qN 12
 | put {Ws':List Wl} {s:Qu} {e:Int} (hs:o.shut=false) (h:¬ (o.made=false∨o.prog=0)) (hm:¬ w.now=18446744073709551615) (hp:Xt (Ws.map (Yr [(i:Int)])) (k:Int) (i:Int) a Ws' s e):YN Ws Q As i k a o w Ws' (ZC Q (i:Int)) (As.set i { o with starts:=o.starts+1 }) s e
theorem qi2 (hP:zb pb n Q Rs HP) (hB:zL bb Ws HBk) (hn:Ws.length=n∧n≤64) (hA:As[i]?=some o) (hw:Ws[k]?=some w) (ha:a≤18446744073709551615) (hnow:∀ w∈Ws,w.now≤18446744073709551615) (htn:∀ w∈Ws,w.turn≤4611686018427387904) (hst:0≤o.starts∧o.starts≤4611686018427387904) (hs:o.shut=false) {b4 b6 b7 b10:Nat} :qh Tryz.prog w0 89 #[.pointer (some ⟨tb,2+i*4,none⟩),zp b4,zp b6,zp b5,zp b7,zp b10] ((b10,.cells 71 4 qN.v)::(b4,.cells 55 1 [zp tb])::(b5,.cells 3 1 [zi (i:Int)])::(b6,.cells 3 1 [zi (k:Int)])::(b7,.cells 30 1 [zu ((a:Nat):Int)])::(tb,.cells 170 1026 (qH pb bb As))::(HP++(HBk++H))) (fun v H'=>∃ Ws' Q' As' s e HP2 HB2,YN Ws Q As i k a o w Ws' Q' As' s e∧zb pb n Q' Rs HP2∧zL bb Ws' HB2∧v=zi e∧H'=(b10,.cells 71 4 s.v)::(b4,.cells 55 1 [zp tb])::(b5,.cells 3 1 [zi (i:Int)])::(b6,.cells 3 1 [zi (k:Int)])::(b7,.cells 30 1 [zu ((a:Nat):Int)])::(tb,.cells 170 1026 (qH pb bb As'))::(HP2++(HB2++H))):=by
 have hnow2:∀ w∈Ws.map (Yr [(i:Int)]),w.now≤18446744073709551615:=fun u hu=>by
  obtain ⟨v,hv,rfl⟩:=List.mem_map.1 hu
  exact hnow v hv
 have htn2:∀ w∈Ws.map (Yr [(i:Int)]),w.turn≤4611686018427387904:=fun u hu=>by
  obtain ⟨v,hv,rfl⟩:=List.mem_map.1 hu
  exact htn v hv
 refine qc (l:=[.pointer (some ⟨tb,2+i*4,none⟩),zp b4,zp b6,zp b5,zp b7,zp b10]) Tryz.func89 rfl Tryz.ntmps89 rfl rfl ?_
 refine za 9 rfl ?_
 refine qe (v:=.bool o.made) rfl ty4 rfl (qf.own (b:=tb) zM (qdH hA)) rfl ?_
 refine za 2 rfl ?_
 apply YR
 iterate 4 exact rfl
 case h1 =>
  intro hg5
  refine za 7 rfl ?_
  refine qe (v:=zi o.prog) rfl ty3 rfl (qf.own (b:=tb) zM (qmM hA)) rfl ?_
  refine za 2 rfl ?_
  exact Q3 rfl zR
 refine za 2 rfl ?_
 refine qm (p:=o.made=false∨o.prog=0) rfl (by simp) (fun c0=>?_) (fun c0=>?_)
 ·skip
  refine za 3 rfl ?_
  refine qd (H2:=(b10,.cells 71 4 qN.v)::(b4,.cells 55 1 [zp tb])::(b5,.cells 3 1 [zi (i:Int)])::(b6,.cells 3 1 [zi (k:Int)])::(b7,.cells 30 1 [zu ((a:Nat):Int)])::(tb,.cells 170 1026 (qH pb bb As))::(HP++(HBk++H))) Tryz.results89 rfl (.nil _) zH ?_
  exact ⟨Ws,Q,As,qN,1,HP,HBk,.unset hs c0,hP,hB,rfl,rfl⟩
 ·skip
  refine zh zk zK ?_
  refine qG (qj (v:=zp tb) rfl QX rfl (qf.own (b:=b4) zM rfl)) rfl ?_
  refine zq 2 rfl ?_
  refine qG (qj (v:=zp bb) rfl JW rfl (qf.own (b:=tb) zM rfl)) rfl ?_
  refine qG (qj (v:=zi (k:Int)) rfl ty3 rfl (qf.own (b:=b6) zM rfl)) rfl ?_
  refine Zx (zc2 rfl rfl) Tryz.call90 rfl (qql hB (fun p hp=>(by repeat (first | exact List.mem_append_left _ hp | exact List.mem_cons_self | apply List.mem_cons_of_mem | apply List.mem_append_right)))) ?_
  rw [qjz hw]
  refine zq 2 rfl (zX ?_)
  refine qm (p:=w.now=18446744073709551615) rfl (by rw [decide_eq_true_eq]; omega) (fun c1=>?_) (fun c1=>?_)
  ·skip
   refine za 3 rfl ?_
   refine qd (H2:=(b10,.cells 71 4 qN.v)::(b4,.cells 55 1 [zp tb])::(b5,.cells 3 1 [zi (i:Int)])::(b6,.cells 3 1 [zi (k:Int)])::(b7,.cells 30 1 [zu ((a:Nat):Int)])::(tb,.cells 170 1026 (qH pb bb As))::(HP++(HBk++H))) Tryz.results89 rfl (.nil _) zH ?_
   exact ⟨Ws,Q,As,qN,12,HP,HBk,.late hs c0 c1,hP,hB,rfl,rfl⟩
  ·skip
   refine za 3 rfl ?_
   refine qe (v:=zp tb) rfl QX rfl (qf.own (b:=b4) zM rfl) rfl ?_
   refine qe (v:=zi (i:Int)) rfl ty3 rfl (qf.own (b:=b5) zM rfl) rfl ?_
   refine qk (zc2 rfl rfl) Tryz.call91 rfl ((qfy (z:=(i:Int)) hP hB hn (As:=As) (H:=(b10,.cells 71 4 qN.v)::(b4,.cells 55 1 [zp tb])::(b5,.cells 3 1 [zi (i:Int)])::(b6,.cells 3 1 [zi (k:Int)])::(b7,.cells 30 1 [zu ((a:Nat):Int)])::H)).hsub zH) ?_
   rintro v H' ⟨HP2,HB2,hP2,hB2,rfl,rfl⟩
   refine za 5 rfl ?_
   refine qe (v:=zi o.starts) rfl ty3 rfl (qf.own (b:=tb) zM (qmL hA)) rfl ?_
   refine qE rfl rfl (qQ (m:=o.starts+1) (zg zO)) rfl ?_
   refine za 2 rfl ?_
   refine qv (l':=qH pb bb (As.set i { o with starts:=o.starts+1 })) rfl rfl ty3 rfl rfl (b:=tb) zM (qgx hA zd) (qmG hA) zU ?_
   refine za 2 rfl ?_
   refine Kx (X:=(List Wl × qg × Qu × Int × Nat)) (fun x=>[(5,zp b10),(8,.pointer (some ⟨x.2.2.2.2,0,none⟩)),(9,zi x.2.2.2.1)]) (fun x=>(x.2.2.2.2,.cells 71 4 x.2.2.1.v)::(tb,.cells 170 1026 (qH pb bb (As.set i { o with starts:=o.starts+1 })))::(HP2++(x.2.1++((b10,.cells 71 4 qN.v)::(b4,.cells 55 1 [zp tb])::(b5,.cells 3 1 [zi (i:Int)])::(b6,.cells 3 1 [zi (k:Int)])::(b7,.cells 30 1 [zu ((a:Nat):Int)])::H)))) (fun x=>zL bb x.1 x.2.1∧Xt (Ws.map (Yr [(i:Int)])) (k:Int) (i:Int) a x.1 x.2.2.1 x.2.2.2.1) ?_ ?_
   ·skip
    refine W_anyC [(tb,.cells 170 1026 (qH pb bb (As.set i { o with starts:=o.starts+1 }))),(b4,.cells 55 1 [zp tb]),(b5,.cells 3 1 [zi (i:Int)]),(b6,.cells 3 1 [zi (k:Int)]),(b7,.cells 30 1 [zu ((a:Nat):Int)])] zk ?_
    refine WC_take 0 rfl zK zK zK rfl rfl (qj (v:=zp tb) rfl QX rfl (qf.own (b:=b4) zM rfl)) rfl ?_
    refine zw [1,2] rfl rfl ?_
    refine WC_take 3 rfl zK zK zK rfl rfl (qj (v:=zp bb) rfl JW rfl (qf.own (b:=tb) zM rfl)) rfl ?_
    refine WC_take 4 rfl zK zK zK rfl rfl (qj (v:=zi (k:Int)) rfl ty3 rfl (qf.own (b:=b6) zM rfl)) rfl ?_
    refine WC_take 5 rfl zK zK zK rfl rfl (qj (v:=zi (i:Int)) rfl ty3 rfl (qf.own (b:=b5) zM rfl)) rfl ?_
    refine WC_take 6 rfl zK zK zK rfl rfl (qj (v:=zu ((a:Nat):Int)) rfl zJ rfl (qf.own (b:=b7) zM rfl)) rfl ?_
    refine K6 7 11 zH zK rfl rfl rfl rfl ?_ ?_
    ·skip
     refine qk (zc4 rfl rfl rfl rfl) Tryz.call92 rfl ((qmm hB2 (by rw [List.length_map]; omega) (cpu:=(k:Int)) (id:=(i:Int)) (a:=a) ha hnow2 htn2 (H:=(tb,.cells 170 1026 (qH pb bb (As.set i { o with starts:=o.starts+1 })))::(HP2++((b10,.cells 71 4 qN.v)::(b4,.cells 55 1 [zp tb])::(b5,.cells 3 1 [zi (i:Int)])::(b6,.cells 3 1 [zi (k:Int)])::(b7,.cells 30 1 [zu ((a:Nat):Int)])::H)))).hsub zH) ?_
     rintro v H' ⟨Ws3,HB3,s3,e3,hB3,rfl,hpi,rfl⟩
     refine qs (WC_goal (zw [8,9,10] rfl rfl ?_))
     refine WC_one 11 zH zK rfl rfl ?_
     refine qp (l:=qN.v) zj rfl rfl (fun b8=>?_)
     refine qs (WC_goal ?_)
     refine WC_one 12 zH zK rfl rfl ?_
     refine ql (l':=s3.v) rfl rfl zj rfl rfl (b:=b8) zM (by exact Nat.le_refl 4) rfl zU ?_
     refine qs (WC_goal (zw [13] rfl rfl (WC_done zH zK ?_)))
     refine QV (Ws3,HB3,s3,e3,b8) ⟨hB3,hpi⟩ (qa rfl (qa rfl (qa rfl (qi _)))) zH
    ·skip
     refine qp (l:=qN.v) zj rfl rfl (fun b8=>?_)
     refine qs (WC_goal ?_)
     refine WC_one 7 zH zK rfl rfl ?_
     refine qk (zc4 rfl rfl rfl rfl) Tryz.call92 rfl ((qmm hB2 (by rw [List.length_map]; omega) (cpu:=(k:Int)) (id:=(i:Int)) (a:=a) ha hnow2 htn2 (H:=(b8,.cells 71 4 qN.v)::(tb,.cells 170 1026 (qH pb bb (As.set i { o with starts:=o.starts+1 })))::(HP2++((b10,.cells 71 4 qN.v)::(b4,.cells 55 1 [zp tb])::(b5,.cells 3 1 [zi (i:Int)])::(b6,.cells 3 1 [zi (k:Int)])::(b7,.cells 30 1 [zu ((a:Nat):Int)])::H)))).hsub zH) ?_
     rintro v H' ⟨Ws3,HB3,s3,e3,hB3,rfl,hpi,rfl⟩
     refine qs (WC_goal (zw [8,9,10] rfl rfl ?_))
     refine WC_one 12 zH zK rfl rfl ?_
     refine ql (l':=s3.v) rfl rfl zj rfl rfl (b:=b8) zM (by exact Nat.le_refl 4) rfl zU ?_
     refine qs (WC_goal (zw [13] rfl rfl (WC_done zH zK ?_)))
     refine QV (Ws3,HB3,s3,e3,b8) ⟨hB3,hpi⟩ (qa rfl (qa rfl (qa rfl (qi _)))) zH
   rintro ⟨Ws3,HB3,s3,e3,b8⟩ ⟨hB3,hpi⟩
   dsimp only at hB3 hpi ⊢
   refine ze ?_
   refine qJ (vs:=s3.v) rfl zj rfl (b:=b8) zM rfl rfl rfl ?_
   refine ql (l':=s3.v) rfl rfl zj rfl rfl (b:=b10) zM (by exact Nat.le_refl 4) rfl zU ?_
   refine za 5 rfl ?_
   refine qd (H2:=(b10,.cells 71 4 s3.v)::(b4,.cells 55 1 [zp tb])::(b5,.cells 3 1 [zi (i:Int)])::(b6,.cells 3 1 [zi (k:Int)])::(b7,.cells 30 1 [zu ((a:Nat):Int)])::(tb,.cells 170 1026 (qH pb bb (As.set i { o with starts:=o.starts+1 })))::(HP2++(HB3++H))) Tryz.results89 rfl (.nil _) zH ?_
   exact ⟨Ws3,_,_,s3,e3,HP2,HB3,.put hs c0 c1 hpi,hP2,hB3,rfl,rfl⟩
theorem qmi (hc:cpu<0):Qx Tryz.prog (fun _=>True) 31 [zp tb,zi id,zi cpu,zu ((a:Nat):Int)] (.tuple #[.agg qN.v.toArray,zi 2]):=by
 intro w0 H hT
 refine qc Tryz.func31 rfl Tryz.ntmps31 rfl rfl (ze ?_)
 refine qK (l:=[zp tb]) rfl rfl rfl (fun b4=>?_)
 refine qK (l:=[zi id]) rfl rfl rfl (fun b5=>?_)
 refine qK (l:=[zi cpu]) rfl rfl rfl (fun b6=>?_)
 refine qK (l:=[zu ((a:Nat):Int)]) rfl rfl rfl (fun b7=>?_)
 refine qp (l:=qN.v) zj rfl rfl (fun b8=>?_)
 refine za 3 rfl (zh zk zK ?_)
 refine qG (qj (v:=zp tb) rfl QX rfl (qf.own (b:=b4) zM rfl)) rfl ?_
 refine qG (zz rfl rfl QX) rfl (zq 2 rfl ?_)
 refine qG (qj (v:=zi cpu) rfl ty3 rfl (qf.own (b:=b6) zM rfl)) rfl ?_
 refine zq 2 rfl ?_
 first | rw [decide_eq_true (by omega)] | rw [decide_eq_false (by omega)]
 refine zq 10 rfl ?_
 first | refine qG (zx rfl rfl) rfl ?_ | refine qG (zy rfl rfl) rfl ?_
 first | refine qG (zx rfl rfl) rfl ?_ | refine qG (zy rfl rfl) rfl ?_
 refine zX (za 2 rfl ?_)
 refine qX (l:=qN.v) zj qcf .nil rfl rfl rfl ?_
 refine ql (l':=qN.v) rfl rfl zj rfl rfl (b:=b8) zM (by exact Nat.le_refl 4) rfl zU ?_
 refine za 2 rfl ?_
 refine zc (H2:=H) Tryz.results31 (.nil _) (.own rfl zj rfl zM rfl) (.tmp rfl) zH ?_
 exact ⟨rfl,rfl⟩
theorem qmj (hP:zb pb n Q Rs HP) (hB:zL bb Ws HBk) (hn:Ws.length=n∧n≤64) (hc:(n:Int)≤cpu) :qh Tryz.prog w0 31 #[zp tb,zi id,zi cpu,zu ((a:Nat):Int)] ((tb,.cells 170 1026 (qH pb bb As))::(HP++(HBk++H))) (fun v H'=>v=.tuple #[.agg qN.v.toArray,zi 2]∧H'=(tb,.cells 170 1026 (qH pb bb As))::(HP++(HBk++H))):=by
 refine qc (l:=[zp tb,zi id,zi cpu,zu ((a:Nat):Int)]) Tryz.func31 rfl Tryz.ntmps31 rfl rfl ?_
 refine ze ?_
 refine qK (l:=[zp tb]) rfl rfl rfl (fun b4=>?_)
 refine qK (l:=[zi id]) rfl rfl rfl (fun b5=>?_)
 refine qK (l:=[zi cpu]) rfl rfl rfl (fun b6=>?_)
 refine qK (l:=[zu ((a:Nat):Int)]) rfl rfl rfl (fun b7=>?_)
 refine qp (l:=qN.v) zj rfl rfl (fun b8=>?_)
 refine za 3 rfl (zh zk zK ?_)
 refine qG (qj (v:=zp tb) rfl QX rfl (qf.own (b:=b4) zM rfl)) rfl ?_
 refine qG (zz rfl rfl QX) rfl (zq 2 rfl ?_)
 refine qG (qj (v:=zi cpu) rfl ty3 rfl (qf.own (b:=b6) zM rfl)) rfl ?_
 refine zq 2 rfl ?_
 first | rw [decide_eq_true (by omega)] | rw [decide_eq_false (by omega)]
 refine zq 3 rfl ?_
 refine qG (qj (v:=zi cpu) rfl ty3 rfl (qf.own (b:=b6) zM rfl)) rfl ?_
 refine zq 1 rfl ?_
 refine qG (qj (v:=zp tb) rfl QX rfl (qf.own (b:=b4) zM rfl)) rfl ?_
 refine zq 5 rfl ?_
 refine qG (qj (v:=zp bb) rfl JW rfl (qf.own (b:=tb) zM rfl)) rfl ?_
 refine zq 1 rfl ?_
 refine Zx (zc1 rfl) Tryz.call88 rfl (qej hB (fun p hp=>(by repeat (first | exact List.mem_append_left _ hp | exact List.mem_cons_self | apply List.mem_cons_of_mem | apply List.mem_append_right)))) ?_
 refine zq 2 rfl ?_
 first | rw [decide_eq_true (by omega)] | rw [decide_eq_false (by omega)]
 refine zq 1 rfl ?_
 first | refine qG (zx rfl rfl) rfl ?_ | refine qG (zy rfl rfl) rfl ?_
 first | refine qG (zx rfl rfl) rfl ?_ | refine qG (zy rfl rfl) rfl ?_
 refine zX (za 2 rfl ?_)
 refine qX (l:=qN.v) zj qcf .nil rfl rfl rfl ?_
 refine ql (l':=qN.v) rfl rfl zj rfl rfl (b:=b8) zM (by exact Nat.le_refl 4) rfl zU ?_
 refine za 2 rfl ?_
 refine zc (H2:=(tb,.cells 170 1026 (qH pb bb As))::(HP++(HBk++H))) Tryz.results31 (.nil _) (.own rfl zj rfl zM rfl) (.tmp rfl) zH ?_
 exact ⟨rfl,rfl⟩
theorem qit (hP:zb pb n Q Rs HP) (hB:zL bb Ws HBk) (hn:Ws.length=n∧n≤64) (hk:k<n) (hi:¬ (0≤id∧id<256)) :qh Tryz.prog w0 31 #[zp tb,zi id,zi (k:Int),zu ((a:Nat):Int)] ((tb,.cells 170 1026 (qH pb bb As))::(HP++(HBk++H))) (fun v H'=>v=.tuple #[.agg qN.v.toArray,zi 2]∧H'=(tb,.cells 170 1026 (qH pb bb As))::(HP++(HBk++H))):=by
 refine qc (l:=[zp tb,zi id,zi (k:Int),zu ((a:Nat):Int)]) Tryz.func31 rfl Tryz.ntmps31 rfl rfl ?_
 refine ze ?_
 refine qK (l:=[zp tb]) rfl rfl rfl (fun b4=>?_)
 refine qK (l:=[zi id]) rfl rfl rfl (fun b5=>?_)
 refine qK (l:=[zi (k:Int)]) rfl rfl rfl (fun b6=>?_)
 refine qK (l:=[zu ((a:Nat):Int)]) rfl rfl rfl (fun b7=>?_)
 refine qp (l:=qN.v) zj rfl rfl (fun b8=>?_)
 refine za 3 rfl (zh zk zK ?_)
 refine qG (qj (v:=zp tb) rfl QX rfl (qf.own (b:=b4) zM rfl)) rfl ?_
 refine qG (zz rfl rfl QX) rfl (zq 2 rfl ?_)
 refine qG (qj (v:=zi (k:Int)) rfl ty3 rfl (qf.own (b:=b6) zM rfl)) rfl ?_
 refine zq 2 rfl ?_
 first | rw [decide_eq_true (by omega)] | rw [decide_eq_false (by omega)]
 refine zq 3 rfl ?_
 refine qG (qj (v:=zi (k:Int)) rfl ty3 rfl (qf.own (b:=b6) zM rfl)) rfl ?_
 refine zq 1 rfl ?_
 refine qG (qj (v:=zp tb) rfl QX rfl (qf.own (b:=b4) zM rfl)) rfl ?_
 refine zq 5 rfl ?_
 refine qG (qj (v:=zp bb) rfl JW rfl (qf.own (b:=tb) zM rfl)) rfl ?_
 refine zq 1 rfl ?_
 refine Zx (zc1 rfl) Tryz.call88 rfl (qej hB (fun p hp=>(by repeat (first | exact List.mem_append_left _ hp | exact List.mem_cons_self | apply List.mem_cons_of_mem | apply List.mem_append_right)))) ?_
 refine zq 2 rfl ?_
 first | rw [decide_eq_true (by omega)] | rw [decide_eq_false (by omega)]
 refine zq 1 rfl ?_
 first | refine qG (zx rfl rfl) rfl ?_ | refine qG (zy rfl rfl) rfl ?_
 first | refine qG (zx rfl rfl) rfl ?_ | refine qG (zy rfl rfl) rfl ?_
 refine zX (za 3 rfl ?_)
 refine qp (l:=qN.v) zj rfl rfl (fun b10=>?_)
 refine za 2 rfl ?_
 refine qe (v:=zp tb) rfl QX rfl (qf.own (b:=b4) zM rfl) rfl ?_
 refine qe (v:=zi id) rfl ty3 rfl (qf.own (b:=b5) zM rfl) rfl ?_
 refine qI .nil (.cons rfl (.cons rfl (.cons rfl (.cons rfl (.cons rfl .nil))))) rfl ?_
 refine qT (zc3 rfl rfl rfl) Tryz.call76 rfl (T:=fun _=>True) trivial (qan hi) ?_
 refine za 3 rfl ?_
 refine qJ (vs:=qN.v) rfl zj rfl (b:=b10) zM rfl rfl rfl ?_
 refine qD rfl rfl ?_
 refine ql (l':=qN.v) rfl rfl zj rfl rfl (b:=b8) zM (by exact Nat.le_refl 4) rfl zU ?_
 refine za 2 rfl ?_
 refine zc (H2:=(tb,.cells 170 1026 (qH pb bb As))::(HP++(HBk++H))) Tryz.results31 (.nil _) (.own rfl zj rfl zM rfl) (.tmp rfl) zH ?_
 exact ⟨rfl,rfl⟩
theorem qmk (hP:zb pb n Q Rs HP) (hB:zL bb Ws HBk) (hn:Ws.length=n∧n≤64) (hi:i<256) (hA:As[i]?=some o) (hw:Ws[k]?=some w) (ha:a≤18446744073709551615) (hnow:∀ w∈Ws,w.now≤18446744073709551615) (htn:∀ w∈Ws,w.turn≤4611686018427387904) (hst:0≤o.starts∧o.starts≤4611686018427387904) :qh Tryz.prog w0 31 #[zp tb,zi (i:Int),zi (k:Int),zu ((a:Nat):Int)] ((tb,.cells 170 1026 (qH pb bb As))::(HP++(HBk++H))) (fun v H'=>∃ Ws' Q' As' s e HP2 HB2,YN Ws Q As i k a o w Ws' Q' As' s e∧zb pb n Q' Rs HP2∧zL bb Ws' HB2∧v=.tuple #[.agg (Qu.v s).toArray,zi e]∧H'=(tb,.cells 170 1026 (qH pb bb As'))::(HP2++(HB2++H))):=by
 have hk:=(List.getElem?_eq_some_iff.1 hw).1
 refine qc (l:=[zp tb,zi (i:Int),zi (k:Int),zu ((a:Nat):Int)]) Tryz.func31 rfl Tryz.ntmps31 rfl rfl ?_
 refine ze ?_
 refine qK (l:=[zp tb]) rfl rfl rfl (fun b4=>?_)
 refine qK (l:=[zi (i:Int)]) rfl rfl rfl (fun b5=>?_)
 refine qK (l:=[zi (k:Int)]) rfl rfl rfl (fun b6=>?_)
 refine qK (l:=[zu ((a:Nat):Int)]) rfl rfl rfl (fun b7=>?_)
 refine qp (l:=qN.v) zj rfl rfl (fun b8=>?_)
 refine za 3 rfl (zh zk zK ?_)
 refine qG (qj (v:=zp tb) rfl QX rfl (qf.own (b:=b4) zM rfl)) rfl ?_
 refine qG (zz rfl rfl QX) rfl (zq 2 rfl ?_)
 refine qG (qj (v:=zi (k:Int)) rfl ty3 rfl (qf.own (b:=b6) zM rfl)) rfl ?_
 refine zq 2 rfl ?_
 first | rw [decide_eq_true (by omega)] | rw [decide_eq_false (by omega)]
 refine zq 3 rfl ?_
 refine qG (qj (v:=zi (k:Int)) rfl ty3 rfl (qf.own (b:=b6) zM rfl)) rfl ?_
 refine zq 1 rfl ?_
 refine qG (qj (v:=zp tb) rfl QX rfl (qf.own (b:=b4) zM rfl)) rfl ?_
 refine zq 5 rfl ?_
 refine qG (qj (v:=zp bb) rfl JW rfl (qf.own (b:=tb) zM rfl)) rfl ?_
 refine zq 1 rfl ?_
 refine Zx (zc1 rfl) Tryz.call88 rfl (qej hB (fun p hp=>(by repeat (first | exact List.mem_append_left _ hp | exact List.mem_cons_self | apply List.mem_cons_of_mem | apply List.mem_append_right)))) ?_
 refine zq 2 rfl ?_
 first | rw [decide_eq_true (by omega)] | rw [decide_eq_false (by omega)]
 refine zq 1 rfl ?_
 first | refine qG (zx rfl rfl) rfl ?_ | refine qG (zy rfl rfl) rfl ?_
 first | refine qG (zx rfl rfl) rfl ?_ | refine qG (zy rfl rfl) rfl ?_
 refine zX (za 3 rfl ?_)
 refine qp (l:=qN.v) zj rfl rfl (fun b10=>?_)
 refine za 2 rfl ?_
 refine qe (v:=zp tb) rfl QX rfl (qf.own (b:=b4) zM rfl) rfl ?_
 refine qe (v:=zi (i:Int)) rfl ty3 rfl (qf.own (b:=b5) zM rfl) rfl ?_
 refine qI .nil (.cons rfl (.cons rfl (.cons rfl (.cons rfl (.cons rfl .nil))))) rfl ?_
 cases hs:o.shut
 ·skip
  refine qk (zc3 rfl rfl rfl) Tryz.call76 rfl ((qbJ (ca:=[zp b4,zp b6,zp b5,zp b7,zp b10]) Tryz.call89 hi hA zM hs (qi2 (b4:=b4) (b5:=b5) (b6:=b6) (b7:=b7) (b10:=b10) hP hB hn hA hw ha hnow htn hst hs (H:=(b8,.cells 71 4 qN.v)::H)) (by rintro v H2 ⟨_,_,_,_,_,_,_,_,_,_,e,_⟩; exact ⟨_,e⟩)).hsub zH) ?_
  rintro v H' ⟨Ws',Q',As',s,e,HP2,HB2,hM,hP2,hB2,rfl,rfl⟩
  refine za 3 rfl ?_
  refine qJ (vs:=s.v) rfl zj rfl (b:=b10) zM rfl rfl rfl ?_
  refine qD rfl rfl ?_
  refine ql (l':=s.v) rfl rfl zj rfl rfl (b:=b8) zM (by exact Nat.le_refl 4) rfl zU ?_
  refine za 2 rfl ?_
  refine zc (H2:=(tb,.cells 170 1026 (qH pb bb As'))::(HP2++(HB2++H))) Tryz.results31 (.nil _) (.own rfl zj rfl zM rfl) (.tmp rfl) zH ?_
  exact ⟨Ws',Q',As',s,e,HP2,HB2,hM,hP2,hB2,rfl,rfl⟩
 ·skip
  refine qk (zc3 rfl rfl rfl) Tryz.call76 rfl ((KF (ca:=[zp b4,zp b6,zp b5,zp b7,zp b10]) (H:=(b10,.cells 71 4 qN.v)::(b4,.cells 55 1 [zp tb])::(b5,.cells 3 1 [zi (i:Int)])::(b6,.cells 3 1 [zi (k:Int)])::(b7,.cells 30 1 [zu ((a:Nat):Int)])::(tb,.cells 170 1026 (qH pb bb As))::(HP++(HBk++((b8,.cells 71 4 qN.v)::H)))) hi hA zM hs).hsub zH) ?_
  rintro v H' ⟨rfl,rfl⟩
  refine za 3 rfl ?_
  refine qJ (vs:=qN.v) rfl zj rfl (b:=b10) zM rfl rfl rfl ?_
  refine qD rfl rfl ?_
  refine ql (l':=qN.v) rfl rfl zj rfl rfl (b:=b8) zM (by exact Nat.le_refl 4) rfl zU ?_
  refine za 2 rfl ?_
  refine zc (H2:=(tb,.cells 170 1026 (qH pb bb As))::(HP++(HBk++H))) Tryz.results31 (.nil _) (.own rfl zj rfl zM rfl) (.tmp rfl) zH ?_
  exact ⟨Ws,Q,As,qN,22,HP,HBk,.gone hs,hP,hB,rfl,rfl⟩
inductive XU (n:Nat) (Ws:List Wl) (Q:List (Int × Int)) (As:List Qn) (id cpu:Int) (a:Nat):List Wl→List (Int × Int)→List Qn→Qu→Int→Prop
 | out (h:cpu<0∨(n:Int)≤cpu∨¬ (0≤id∧id<256)):XU n Ws Q As id cpu a Ws Q As qN 2
 | at_ {i k:Nat} {o:Qn} {w:Wl} {Ws':List Wl} {Q':List (Int × Int)} {As':List Qn} {s:Qu} {e:Int} (hi:i<256) (ei:id=(i:Int)) (ek:cpu=(k:Int)) (hA:As[i]?=some o) (hw:Ws[k]?=some w) (h:YN Ws Q As i k a o w Ws' Q' As' s e):XU n Ws Q As id cpu a Ws' Q' As' s e
structure TOk (T:Nat) (Ws:List Wl) (As:List Qn):Prop where
 bank:BOk T Ws
 starts:∀ o∈As,0≤o.starts∧o.starts≤(T:Int)
theorem TOk.up {T':Nat} (h:TOk T Ws As) (hl:T≤T'):TOk T' Ws As:=⟨h.bank.up hl,fun o ho=>by have:=h.starts o ho; omega⟩
theorem YN.len (h:YN Ws Q As i k a o w Ws' Q' As' s e):Ws'.length=Ws.length:=by
 cases h with
 | gone _=>rfl
 | unset _ _=>rfl
 | late _ _ _=>rfl
 | put _ _ _ hp=>cases hp <;> first | exact List.length_map _ | (rw [List.length_set,List.length_map])
theorem YN.asOk (h:YN Ws Q As i k a o w Ws' Q' As' s e) (hA:Kc As) (ho:As[i]?=some o):Kc As':=by
 cases h with
 | gone _=>exact hA
 | unset _ _=>exact hA
 | late _ _ _=>exact hA
 | put _ _ _ hp=>exact hA.set i (o:={ o with starts:=o.starts+1 }) (hA.rng o (List.mem_of_getElem? ho))
theorem qol (hT:Q2 tb n Ws Q Rs As HB) (hO:TOk T Ws As) (hTl:T≤1000000) (ha:a≤18446744073709551615) :
  qh Tryz.prog w0 31 #[zp tb,zi id,zi cpu,zu ((a:Nat):Int)] (HB++H) (fun v H'=>∃ Ws' Q' As' s e HB',XU n Ws Q As id cpu a Ws' Q' As' s e∧Q2 tb n Ws' Q' Rs As' HB'∧TOk (T+1) Ws' As'∧v=.tuple #[.agg (Qu.v s).toArray,zi e]∧H'=HB'++H):=by
 by_cases h0:cpu<0
 ·refine (qmi h0 w0 _ trivial).mono ?_
  rintro v H' ⟨rfl,rfl⟩
  exact ⟨Ws,Q,As,qN,2,HB,.out (.inl h0),hT,hO.up (Nat.le_succ _),rfl,rfl⟩
 ·obtain ⟨k,rfl⟩:∃ k:Nat,cpu=(k:Int):=⟨cpu.toNat,by omega⟩
  cases hT with
  | @mk pb bb HP HBk hP hB hA hn =>
   show qh _ _ _ _ ((tb,.cells 170 1026 (qH pb bb As))::((HP++HBk)++H)) _
   rw [List.append_assoc]
   by_cases h1:n≤k
   ·refine (qmj (H:=H) hP hB hn (id:=id) (cpu:=(k:Int)) zO).mono ?_
    rintro v H' ⟨rfl,rfl⟩
    exact ⟨Ws,Q,As,qN,2,_,.out (.inr (.inl (by omega))),.mk hP hB hA hn,hO.up (Nat.le_succ _),rfl,by show _=(tb,.cells 170 1026 (qH pb bb As))::((HP++HBk)++H); rw [List.append_assoc]⟩
   ·by_cases hi:0≤id∧id<256
    ·obtain ⟨i,rfl⟩:∃ i:Nat,id=(i:Int):=⟨id.toNat,by omega⟩
     obtain ⟨o,ho⟩:=hA.at (i:=i) zO
     obtain ⟨w,hw⟩:∃ w,Ws[k]?=some w:=⟨_,List.getElem?_eq_getElem zO⟩
     have hos:=hO.starts o (List.mem_of_getElem? ho)
     refine (qmk (H:=H) hP hB hn zO ho hw ha hO.bank.now (fun u hu=>by have:=hO.bank.turn u hu; omega) zO).mono ?_
     rintro v H' ⟨Ws',Q',As',s,e,HP2,HB2,hM,hP2,hB2,rfl,rfl⟩
     refine ⟨Ws',Q',As',s,e,_,.at_ (by omega) rfl rfl ho hw hM,.mk hP2 hB2 (hM.asOk hA ho) (by rw [hM.len]; exact hn),?_,rfl,by show _=(tb,.cells 170 1026 (qH pb bb As'))::((HP2++HB2)++H); rw [List.append_assoc]⟩
     cases hM with
     | gone _=>exact hO.up (Nat.le_succ _)
     | unset _ _=>exact hO.up (Nat.le_succ _)
     | late _ _ _=>exact hO.up (Nat.le_succ _)
     | put hs h hm hp =>
      refine ⟨(hO.bank.del (i:Int)).put (fun w hw t ht=>?_) hp hB2,fun x hx=>?_⟩
      ·obtain ⟨u,hu,rfl⟩:=List.mem_map.1 hw
       exact hB.rng u hu t (List.mem_filter.1 ht).1
      ·rcases List.mem_or_eq_of_mem_set hx with hx | rfl
       ·have:=hO.starts x hx; omega
       ·show 0≤o.starts+1∧o.starts+1≤((T+1:Nat):Int); omega
    ·refine (qit (H:=H) hP hB hn (k:=k) zO hi).mono ?_
     rintro v H' ⟨rfl,rfl⟩
     exact ⟨Ws,Q,As,qN,2,_,.out (.inr (.inr hi)),.mk hP hB hA hn,hO.up (Nat.le_succ _),rfl,by show _=(tb,.cells 170 1026 (qH pb bb As))::((HP++HBk)++H); rw [List.append_assoc]⟩
theorem qqB (hP:zb pb n Q Rs HB) (hn:n≤64) {m:Nat} (hm:ids.length=m) (hil:m≤1000000) (hrow:Holds w0 H ad (ids.map (Value.int .i64))):qh Tryz.prog w0 94 #[zp pb,zi cpu,.slice ad m cap] (HB++H) (fun v H'=>∃ HB',zb pb n (Za n Q cpu ids).1 Rs HB'∧v=zi (Za n Q cpu ids).2∧H'=HB'++H):=by
 subst hm; exact qo1 hP hn hil hrow
theorem ZR.out2 (h:ZR Ws cpu a Ws' O) (hl:∀ w∈Ws,w.L.length≤256):O.length≤256:=by
 rcases h with ⟨_,_,rfl⟩ | ⟨k,w,Li,_,hk,hG,_⟩
 ·exact Nat.zero_le _
 ·exact Nat.le_trans hG.len (hl w (List.mem_of_getElem? hk))
theorem ZR.len2 (h:ZR Ws cpu a Ws' O):Ws'.length=Ws.length:=by
 rcases h with ⟨_,rfl,_⟩ | ⟨k,w,Li,_,_,_,rfl⟩
 ·rfl
 ·exact List.length_set
theorem qmt (hP:zb pb n Q Rs HP) (hB:zL bb Ws HBk) (hn:Ws.length=n∧n≤64) (ha:a≤18446744073709551615) (hlt:∀ w∈Ws,∀ t∈w.L,w.now<t.s.due) (hTb:Tab w0) :qh Tryz.prog w0 32 #[zp tb,zi cpu,zu ((a:Nat):Int)] ((tb,.cells 170 1026 (qH pb bb As))::(HP++(HBk++H))) (fun v H'=>∃ (Ws':List Wl) (O:List Tm) (XO HP2 HB2:qg),ZR Ws cpu a Ws' O∧zb pb n (Za n Q cpu (O.map (·.id))).1 Rs HP2∧zL bb Ws' HB2∧zm 3 1 v O.length ((O.map (·.id)).map (Value.int .i64)) XO∧H'=XO++((tb,.cells 170 1026 (qH pb bb As))::(HP2++(HB2++H)))):=by
 refine qc (l:=[zp tb,zi cpu,zu ((a:Nat):Int)]) Tryz.func32 rfl Tryz.ntmps32 rfl rfl ?_
 refine za 6 rfl ?_
 refine W_x (qr rfl rfl QX) (fun _ h=>by cases h) rfl ?_
 refine za 7 rfl ?_
 refine qe (v:=zp bb) rfl JW rfl (qf.own (b:=tb) zM rfl) rfl ?_
 refine za 2 rfl ?_
 refine qk (zc3 rfl rfl rfl) Tryz.call93 rfl ((qmu hB (cpu:=cpu) ha hlt hTb (H:=(tb,.cells 170 1026 (qH pb bb As))::(HP++H))).hsub zH) ?_
 rintro v H' ⟨Ws2,HB2,O,XO,hB2,hO,hC,rfl⟩
 have hOl:=hC.out2 hB.lens
 obtain ⟨ado,capo,rfl,hoc,_,hro⟩:=Holds.of_own (w0:=w0) (H:=XO++[]) hO (fun p hp=>List.mem_append_left _ hp)
 refine za 6 rfl ?_
 refine qe (v:=zp pb) rfl Zf rfl (qf.own (b:=tb) zM rfl) rfl ?_
 refine za 2 rfl ?_
 refine qk (zc3 rfl rfl rfl) Tryz.call94 rfl ((qqB hP zO (cpu:=cpu) (ids:=(O.map (·.id))) (cap:=capo) (ad:=ado) (by exact List.length_map _) zO (H:=XO++((tb,.cells 170 1026 (qH pb bb As))::(HB2++H))) (hro.up zH)).hsub zH) ?_
 rintro v H' ⟨HP2,hP2,rfl,rfl⟩
 refine za 5 rfl ?_
 refine qd (H2:=XO++((tb,.cells 170 1026 (qH pb bb As))::(HP2++(HB2++H)))) Tryz.results32 rfl (.nil _) zH ?_
 exact ⟨Ws2,O,XO,HP2,HB2,hC,hP2,hB2,hO,rfl⟩
theorem qoy (hT:Q2 tb n Ws Q Rs As HB) (hO:TOk T Ws As) (hTb:Tab w0) (ha:a≤18446744073709551615) :
  qh Tryz.prog w0 32 #[zp tb,zi cpu,zu ((a:Nat):Int)] (HB++H) (fun v H'=>∃ (Ws':List Wl) (O:List Tm) (XO HB':qg),ZR Ws cpu a Ws' O∧Q2 tb n Ws' (Za n Q cpu (O.map (·.id))).1 Rs As HB'∧TOk T Ws' As∧zm 3 1 v O.length ((O.map (·.id)).map (Value.int .i64)) XO∧O.length≤256∧H'=XO++(HB'++H)):=by
 cases hT with
 | @mk pb bb HP HBk hP hB hA hn =>
  show qh _ _ _ _ ((tb,.cells 170 1026 (qH pb bb As))::((HP++HBk)++H)) _
  rw [List.append_assoc]
  refine (qmt (H:=H) hP hB hn ha hO.bank.later hTb).mono ?_
  rintro v H' ⟨Ws',O,XO,HP2,HB2,hC,hP2,hB2,hv,rfl⟩
  exact ⟨Ws',O,XO,_,hC,.mk hP2 hB2 hA (by rw [hC.len2]; exact hn),⟨hO.bank.catch ha hC,hO.starts⟩,hv,hC.out2 hB.lens,by show _=XO++((tb,.cells 170 1026 (qH pb bb As))::((HP2++HB2)++H)); rw [List.append_assoc]⟩
theorem qgP (hm:(tb,.cells 170 1026 (qH pb bb As))∈H) :qB Tryz.prog w0 H 101 [zp tb] (zp pb):=by
 refine qc Tryz.func101 rfl Tryz.ntmps101 rfl rfl (za 6 rfl ?_)
 refine W_x (qr rfl rfl QX) (fun _ h=>by cases h) rfl ?_
 refine za 7 rfl ?_
 refine qe (v:=zp pb) rfl Zf rfl (qf.own (b:=tb) hm rfl) rfl ?_
 refine za 2 rfl ?_
 refine qd (H2:=H) Tryz.results101 rfl (.nil _) zH ?_
 exact ⟨rfl,rfl⟩
theorem qeo (hP:zb pb n Q Rs HP) (hn:Ws.length=n∧n≤64) (hm:∀ p∈((tb,.cells 170 1026 (qH pb bb As))::(HP++HBk)),p∈H) :qB Tryz.prog w0 H 157 [zp tb,zi id] (ZU (inR Rs id)):=by
 refine qc Tryz.func157 rfl Tryz.ntmps157 rfl rfl (za 6 rfl ?_)
 refine qn (zc1 rfl) Tryz.call101 rfl (qgP (pb:=pb) (bb:=bb) (As:=As) (hm _ List.mem_cons_self)) ?_
 refine qD rfl rfl ?_
 refine qn (zc2 rfl rfl) Tryz.call252 rfl (hP.Runs_q (id:=id) (fun p hp=>hm p (List.mem_cons_of_mem _ (List.mem_append_left _ hp)))) ?_
 obtain ⟨rx,rb,er⟩:∃ (x:Int) (b:Bool),ZU (inR Rs id)=.tuple #[.int .i64 x,.bool b]:=by rcases qhK (inR Rs id) with ⟨_,e⟩ | ⟨cx,_,e⟩ <;> exact ⟨_,_,e⟩
 rw [er]
 refine za 5 rfl ?_
 refine qL (H2:=H) Tryz.results157 rfl rfl (.nil _) zH ?_
 exact ⟨rfl,rfl⟩
def qae (s:List Wl × List (Int × Int) × List Qn × Nat) (id:Int):List Wl × List (Int × Int) × List Qn × Nat:=if 0≤id∧id<256 then (match s.2.2.1[id.toNat]? with
 | some o=>if o.shut=true then s else (s.1.map (Yr [id]),ZC s.2.1 id,s.2.2.1.set id.toNat { o with shut:=true },s.2.2.2+1)
 | none=>s) else s
def Qb (Ws:List Wl) (Q:List (Int × Int)) (As:List Qn) (ids:List Int):List Wl × List (Int × Int) × List Qn × Nat:=ids.foldl qae (Ws,Q,As,0)
theorem qaT (h:ids[i]?=some z):Qb Ws Q As (ids.take (i+1))=qae (Qb Ws Q As (ids.take i)) z:=by
 unfold Qb; rw [Jt h,List.foldl_append]; rfl
theorem qhx {s:List Wl × List (Int × Int) × List Qn × Nat} (h:¬ (0≤id∧id<256)):qae s id=s:=if_neg h
theorem qb5 {s:List Wl × List (Int × Int) × List Qn × Nat} (hi:i<256) (h:s.2.2.1[i]?=some o):qae s (i:Int)=if o.shut=true then s else (s.1.map (Yr [(i:Int)]),ZC s.2.1 (i:Int),s.2.2.1.set i { o with shut:=true },s.2.2.2+1):=by
 unfold qae; rw [if_pos (by omega),show ((i:Nat):Int).toNat=i by omega,h]
theorem qhw (hA:Kc As) (z:Int):¬ (0≤z∧z<256)∨(∃ j o,z=((j:Nat):Int)∧j<256∧As[j]?=some o∧o.shut=true)∨(∃ j o,z=((j:Nat):Int)∧j<256∧As[j]?=some o∧o.shut=false):=by
 by_cases hi:0≤z∧z<256
 ·obtain ⟨j,rfl⟩:∃ j:Nat,z=(j:Int):=⟨z.toNat,by omega⟩
  obtain ⟨o,ho⟩:=hA.at (i:=j) zO
  cases hs:o.shut with
  | true=>exact .inr (.inl ⟨j,o,rfl,by omega,ho,hs⟩)
  | false=>exact .inr (.inr ⟨j,o,rfl,by omega,ho,hs⟩)
 ·exact .inl hi
structure ShS where
 i:Nat
 Ws:List Wl
 Q:List (Int × Int)
 As:List Qn
 c:Nat
 HP:qg
 HB:qg
theorem qmT (hP:zb pb n Q Rs HP) (hB:zL bb Ws HBk) (hn:Ws.length=n∧n≤64) (hA:As[i]?=some o) {b2 b7:Nat} :qh Tryz.prog w0 243 #[.pointer (some ⟨tb,2+i*4,none⟩),zp b2,zp b7] ((b2,.cells 55 1 [zp tb])::(b7,.cells 3 1 [zi z])::(tb,.cells 170 1026 (qH pb bb As))::(HP++(HBk++H))) (fun v H'=>∃ HP2 HB2,zb pb n (ZC Q z) Rs HP2∧zL bb (Ws.map (Yr [z])) HB2∧v=zi 0∧H'=(b2,.cells 55 1 [zp tb])::(b7,.cells 3 1 [zi z])::(tb,.cells 170 1026 (qH pb bb (As.set i { o with shut:=true })))::(HP2++(HB2++H))):=by
 refine qc (l:=[.pointer (some ⟨tb,2+i*4,none⟩),zp b2,zp b7]) Tryz.func243 rfl Tryz.ntmps243 rfl rfl ?_
 refine za 4 rfl ?_
 refine qe (v:=zp tb) rfl QX rfl (qf.own (b:=b2) zM rfl) rfl ?_
 refine qe (v:=zi z) rfl ty3 rfl (qf.own (b:=b7) zM rfl) rfl ?_
 refine qk (zc2 rfl rfl) Tryz.call91 rfl ((qfy (z:=z) hP hB hn (As:=As) (H:=(b2,.cells 55 1 [zp tb])::(b7,.cells 3 1 [zi z])::H)).hsub zH) ?_
 rintro v H' ⟨HP2,HB2,hP2,hB2,rfl,rfl⟩
 refine za 5 rfl ?_
 refine qv (l':=qH pb bb (As.set i { o with shut:=true })) rfl rfl ty4 rfl rfl (b:=tb) zM (qgx hA zd) (qmI hA) zU ?_
 refine za 4 rfl ?_
 refine qd (H2:=(b2,.cells 55 1 [zp tb])::(b7,.cells 3 1 [zi z])::(tb,.cells 170 1026 (qH pb bb (As.set i { o with shut:=true })))::(HP2++(HB2++H))) Tryz.results243 rfl (.nil _) zH ?_
 exact ⟨HP2,HB2,hP2,hB2,rfl,rfl⟩
theorem qom (hP:zb pb n Q Rs HP) (hB:zL bb Ws HBk) (hn:Ws.length=n∧n≤64) (hA:Kc As) (hil:ids.length≤1000000) (hrow:Holds w0 H ad (ids.map (Value.int .i64))) :qh Tryz.prog w0 150 #[zp tb,.slice ad ids.length cap] ((tb,.cells 170 1026 (qH pb bb As))::(HP++(HBk++H))) (fun v H'=>∃ HP2 HB2,zb pb n (Qb Ws Q As ids).2.1 Rs HP2∧zL bb (Qb Ws Q As ids).1 HB2∧Kc (Qb Ws Q As ids).2.2.1∧(Qb Ws Q As ids).1.length=n∧v=zi ((Qb Ws Q As ids).2.2.2:Nat)∧H'=(tb,.cells 170 1026 (qH pb bb (Qb Ws Q As ids).2.2.1))::(HP2++(HB2++H))):=by
 refine qc (l:=[zp tb,.slice ad ids.length cap]) Tryz.func150 rfl Tryz.ntmps150 rfl rfl ?_
 refine ze ?_
 refine qK (l:=[zp tb]) rfl rfl rfl (fun b2=>?_)
 refine za 8 rfl (zZ rfl qZ rfl rfl (za 3 rfl ?_))
 refine qU (X:=ShS) [(2,_),(9,_),(10,_)] (fun (x:ShS)=>[(5,zi (x.c:Int)),(11,zi (x.i:Int))]) (fun _=>_) (fun (x:ShS)=>(b2,.cells 55 1 [zp tb])::(tb,.cells 170 1026 (qH pb bb x.As))::(x.HP++(x.HB++H))) (fun (x:ShS)=>x.i≤ids.length∧zb pb n x.Q Rs x.HP∧zL bb x.Ws x.HB∧(x.Ws.length=n∧n≤64)∧Kc x.As∧Qb Ws Q As (ids.take x.i)=(x.Ws,x.Q,x.As,x.c)∧x.c≤x.i) (fun (x:ShS)=>ids.length-x.i) ⟨0,Ws,Q,As,0,HP,HBk⟩ ⟨Nat.zero_le _,hP,hB,hn,hA,rfl,Nat.le_refl _⟩ (qa rfl (qa rfl (qa rfl (qi _)))) (qa rfl (qa rfl (qi _))) rfl zH ?_
 rintro ⟨i,Ws1,Q1,As1,c1,HP1,HB1⟩ ⟨hil,hP1,hB1,hn1,hA1,hsh,hci⟩
 dsimp only at hil hP1 hB1 hn1 hA1 hsh hci ⊢
 simp only [List.cons_append,List.nil_append]
 refine za 4 rfl ?_
 refine qm (p:=(i:Int)<(ids.length:Int)) rfl (by simp) (fun q0=>?_) (fun q0=>?_)
 ·skip
  refine za 4 rfl ?_
  obtain ⟨z,hz⟩:∃ z,ids[i]?=some z:=⟨_,List.getElem?_eq_getElem zO⟩
  obtain ⟨q0,p0,rfl,hcz⟩:=hrow.at (i:=i) (v:=.int .i64 z) (by rw [List.getElem?_map,hz]; rfl)
  refine qS (j:=i) rfl rfl qZ ty3 rfl zO rfl rfl ?_
  refine qe (v:=zi z) rfl ty3 rfl (by rw [Nat.mul_one]; exact hcz.up zH) rfl ?_
  refine qp (l:=[zi 0]) ty3 rfl rfl (fun b7=>?_)
  refine qv (l':=[zi z]) rfl rfl ty3 rfl rfl (b:=b7) zM rfl rfl zU ?_
  refine za 2 rfl ?_
  refine qe (v:=zp tb) rfl QX rfl (qf.own (b:=b2) zM rfl) rfl ?_
  refine qe (v:=zi z) rfl ty3 rfl (qf.own (b:=b7) zM rfl) rfl ?_
  refine qI .nil (.cons rfl (.cons rfl .nil)) rfl ?_
  rcases qhw hA1 z with hi | ⟨j,o,rfl,hj,ho,hs⟩ | ⟨j,o,rfl,hj,ho,hs⟩
  ·skip
   refine qT (zc3 rfl rfl rfl) Tryz.call76 rfl (T:=fun _=>True) trivial (qan hi) ?_
   refine za 10 rfl ?_
   refine qE rfl rfl (qQ (m:=((i+1:Nat):Int)) (by rw [zg (by omega)]; omega)) rfl ?_
   refine za 2 rfl ?_
   refine qP ⟨i+1,Ws1,Q1,As1,c1,HP1,HB1⟩ ⟨by show i+1≤_; omega,hP1,hB1,hn1,hA1,by rw [qaT hz,hsh,qhx hi],by show c1≤i+1; omega⟩ (by show ids.length-(i+1)<ids.length-i; omega) (qa rfl (qa rfl (qa rfl (qa rfl (qa rfl (qi _)))))) rfl zH
  ·skip
   refine qk (zc3 rfl rfl rfl) Tryz.call76 rfl ((KF (ca:=[zp b2,zp b7]) (H:=(b2,.cells 55 1 [zp tb])::(b7,.cells 3 1 [zi (j:Int)])::(tb,.cells 170 1026 (qH pb bb As1))::(HP1++(HB1++H))) hj ho zM hs).hsub zH) ?_
   rintro v H' ⟨rfl,rfl⟩
   refine za 10 rfl ?_
   refine qE rfl rfl (qQ (m:=((i+1:Nat):Int)) (by rw [zg (by omega)]; omega)) rfl ?_
   refine za 2 rfl ?_
   refine qP ⟨i+1,Ws1,Q1,As1,c1,HP1,HB1⟩ ⟨by show i+1≤_; omega,hP1,hB1,hn1,hA1,by rw [qaT hz,hsh,qb5 hj ho,if_pos hs],by show c1≤i+1; omega⟩ (by show ids.length-(i+1)<ids.length-i; omega) (qa rfl (qa rfl (qa rfl (qa rfl (qa rfl (qi _)))))) rfl zH
  ·skip
   refine qk (zc3 rfl rfl rfl) Tryz.call76 rfl ((qbJ (ca:=[zp b2,zp b7]) Tryz.call243 hj ho zM hs (qmT (z:=(j:Int)) (b2:=b2) (b7:=b7) hP1 hB1 hn1 ho (H:=H)) (by rintro v H2 ⟨_,_,_,_,e,_⟩; exact ⟨_,e⟩)).hsub zH) ?_
   rintro v H' ⟨HP2,HB2,hP2,hB2,rfl,rfl⟩
   refine za 9 rfl ?_
   refine qE rfl rfl (qQ (m:=((c1+1:Nat):Int)) (by rw [zg (by omega)]; omega)) rfl ?_
   refine za 4 rfl ?_
   refine qE rfl rfl (qQ (m:=((i+1:Nat):Int)) (by rw [zg (by omega)]; omega)) rfl ?_
   refine za 2 rfl ?_
   refine qP ⟨i+1,Ws1.map (Yr [(j:Int)]),ZC Q1 (j:Int),As1.set j { o with shut:=true },c1+1,HP2,HB2⟩ ⟨by show i+1≤_; omega,hP2,hB2,⟨by show (Ws1.map _).length=n; rw [List.length_map]; exact hn1.1,hn1.2⟩,hA1.set j (o:={ o with shut:=true }) (hA1.rng o (List.mem_of_getElem? ho)),by rw [qaT hz,hsh,qb5 hj ho,if_neg (by rw [hs]; decide)],by show c1+1≤i+1; omega⟩ (by show ids.length-(i+1)<ids.length-i; omega) (qa rfl (qa rfl (qa rfl (qa rfl (qa rfl (qi _)))))) rfl zH
 ·skip
  refine za 5 rfl ?_
  refine qd (H2:=(tb,.cells 170 1026 (qH pb bb As1))::(HP1++(HB1++H))) Tryz.results150 rfl (.nil _) zH ?_
  obtain rfl:i=ids.length:=by omega
  rw [List.take_length] at hsh
  rw [hsh]
  exact ⟨HP1,HB1,hP1,hB1,hA1,hn1.1,rfl,rfl⟩
theorem qfC (ids:List Int) (h:TOk T Ws As):TOk T (Qb Ws Q As ids).1 (Qb Ws Q As ids).2.2.1:=by
 have key:∀ (ids:List Int) (s:List Wl × List (Int × Int) × List Qn × Nat),TOk T s.1 s.2.2.1→TOk T (ids.foldl qae s).1 (ids.foldl qae s).2.2.1:=fun ids=>by
  induction ids with
  | nil=>intro s hs; exact hs
  | cons z ids ih =>
   intro s hs
   refine ih _ ?_
   unfold qae
   split
   ·split
    ·split
     ·exact hs
     ·rename_i o ho _
      refine ⟨hs.bank.del z,fun x hx=>?_⟩
      rcases List.mem_or_eq_of_mem_set hx with hx | rfl
      ·exact hs.starts x hx
      ·exact hs.starts o (List.mem_of_getElem? ho)
    ·exact hs
   ·exact hs
 exact key ids _ h
theorem qqb (hT:Q2 tb n Ws Q Rs As HB) (hO:TOk T Ws As) (hil:ids.length≤1000000) (hrow:Holds w0 H ad (ids.map (Value.int .i64))) :
  qh Tryz.prog w0 150 #[zp tb,.slice ad ids.length cap] (HB++H) (fun v H'=>∃ HB',Q2 tb n (Qb Ws Q As ids).1 (Qb Ws Q As ids).2.1 Rs (Qb Ws Q As ids).2.2.1 HB'∧TOk T (Qb Ws Q As ids).1 (Qb Ws Q As ids).2.2.1∧v=zi ((Qb Ws Q As ids).2.2.2:Nat)∧H'=HB'++H):=by
 cases hT with
 | @mk pb bb HP HBk hP hB hA hn =>
  show qh _ _ _ _ ((tb,.cells 170 1026 (qH pb bb As))::((HP++HBk)++H)) _
  rw [List.append_assoc]
  refine (qom (H:=H) hP hB hn hA hil hrow).mono ?_
  rintro v H' ⟨HP2,HB2,hP2,hB2,hA2,hl2,rfl,rfl⟩
  exact ⟨_,.mk hP2 hB2 hA2 ⟨hl2,hn.2⟩,qfC ids hO,rfl,by show _=(tb,.cells 170 1026 (qH pb bb (Qb Ws Q As ids).2.2.1))::((HP2++HB2)++H); rw [List.append_assoc]⟩
theorem qpB {p x:Nat × Blk} {X Y Z:qg} (hp:p∈x::(X++Y)):p∈x::(X++(Y++Z)):=by
 rcases List.mem_cons.1 hp with rfl | hp
 ·exact List.mem_cons_self
 ·rcases List.mem_append.1 hp with hp | hp
  ·exact List.mem_cons_of_mem _ (List.mem_append_left _ hp)
  ·exact List.mem_cons_of_mem _ (List.mem_append_right _ (List.mem_append_left _ hp))
def QL (Ws:List Wl) (Q Rs:List (Int × Int)) (As:List Qn) (i:Nat):List Wl × List (Int × Int) × List Qn × Int:=if (inR Rs (i:Int)).isSome=true then (Ws,Q,As,21) else (Ws.map (Yr [(i:Int)]),ZC Q (i:Int),As.set i Qy,0)
def zV (Ws:List Wl) (Q Rs:List (Int × Int)) (As:List Qn) (id:Int):List Wl × List (Int × Int) × List Qn × Int:=if 0≤id∧id<256 then QL Ws Q Rs As id.toNat else (Ws,Q,As,2)
theorem qds (hi:i<256):zV Ws Q Rs As (i:Int)=QL Ws Q Rs As i:=by
 unfold zV; rw [if_pos (by omega),show ((i:Nat):Int).toNat=i by omega]
theorem qfd {c:Int} (h:inR Rs (i:Int)=some c):QL Ws Q Rs As i=(Ws,Q,As,21):=by unfold QL; rw [h]; rfl
theorem qdr (h:inR Rs (i:Int)=none):QL Ws Q Rs As i=(Ws.map (Yr [(i:Int)]),ZC Q (i:Int),As.set i Qy,0):=by unfold QL; rw [h]; rfl
theorem qlL (hP:zb pb n Q Rs HP) (hB:zL bb Ws HBk) (hn:Ws.length=n∧n≤64) (hA:As[i]?=some o) {b2 b3:Nat} :qh Tryz.prog w0 257 #[.pointer (some ⟨tb,2+i*4,none⟩),zp b2,zp b3] ((b2,.cells 55 1 [zp tb])::(b3,.cells 3 1 [zi (i:Int)])::(tb,.cells 170 1026 (qH pb bb As))::(HP++(HBk++H))) (fun v H'=>∃ HP2 HB2,zb pb n (QL Ws Q Rs As i).2.1 Rs HP2∧zL bb (QL Ws Q Rs As i).1 HB2∧v=zi (QL Ws Q Rs As i).2.2.2∧H'=(b2,.cells 55 1 [zp tb])::(b3,.cells 3 1 [zi (i:Int)])::(tb,.cells 170 1026 (qH pb bb (QL Ws Q Rs As i).2.2.1))::(HP2++(HB2++H))):=by
 have hil:=(List.getElem?_eq_some_iff.1 hA).1
 refine qc (l:=[.pointer (some ⟨tb,2+i*4,none⟩),zp b2,zp b3]) Tryz.func257 rfl Tryz.ntmps257 rfl rfl ?_
 refine za 5 rfl ?_
 refine qe (v:=zp tb) rfl QX rfl (qf.own (b:=b2) zM rfl) rfl ?_
 refine qe (v:=zi (i:Int)) rfl ty3 rfl (qf.own (b:=b3) zM rfl) rfl ?_
 refine qn (zc2 rfl rfl) Tryz.call157 rfl (qeo (bb:=bb) (As:=As) (Ws:=Ws) (HBk:=HBk) (id:=(i:Int)) hP hn (fun p hp=>List.mem_cons_of_mem _ (List.mem_cons_of_mem _ (qpB hp)))) ?_
 rcases hir:inR Rs (i:Int) with _ | cx
 ·skip
  rw [show ZU none=.tuple #[zi 0,.bool false] from rfl]
  refine za 12 rfl ?_
  refine qe (v:=zp tb) rfl QX rfl (qf.own (b:=b2) zM rfl) rfl ?_
  refine qe (v:=zi (i:Int)) rfl ty3 rfl (qf.own (b:=b3) zM rfl) rfl ?_
  refine qk (zc2 rfl rfl) Tryz.call91 rfl ((qfy (z:=(i:Int)) hP hB hn (As:=As) (H:=(b2,.cells 55 1 [zp tb])::(b3,.cells 3 1 [zi (i:Int)])::H)).hsub zH) ?_
  rintro v H' ⟨HP2,HB2,hP2,hB2,rfl,rfl⟩
  refine za 3 rfl ?_
  refine qX (l:=Zd Qy) Js pl153 .nil rfl rfl rfl ?_
  refine qcW rfl rfl ?_
  refine ql (l':=qH pb bb (As.set i Qy)) rfl rfl Js rfl rfl (b:=tb) zM (by show 2+i*4+4≤(qH pb bb As).length; rw [qfw]; omega) (qo9 (o':=Qy) hil) zU ?_
  refine za 4 rfl ?_
  refine qd (H2:=(b2,.cells 55 1 [zp tb])::(b3,.cells 3 1 [zi (i:Int)])::(tb,.cells 170 1026 (qH pb bb (As.set i Qy)))::(HP2++(HB2++H))) Tryz.results257 rfl (.nil _) zH ?_
  rw [qdr hir]
  exact ⟨HP2,HB2,hP2,hB2,rfl,rfl⟩
 ·skip
  rw [show ZU (some cx)=.tuple #[zi cx,.bool true] from rfl]
  refine za 13 rfl ?_
  refine qd (H2:=(b2,.cells 55 1 [zp tb])::(b3,.cells 3 1 [zi (i:Int)])::(tb,.cells 170 1026 (qH pb bb As))::(HP++(HBk++H))) Tryz.results257 rfl (.nil _) zH ?_
  rw [qfd hir]
  exact ⟨HP,HBk,hP,hB,rfl,rfl⟩
theorem qms (hP:zb pb n Q Rs HP) (hB:zL bb Ws HBk) (hn:Ws.length=n∧n≤64) (hi:i<256) (hA:As[i]?=some o) :qh Tryz.prog w0 161 #[zp tb,zi (i:Int)] ((tb,.cells 170 1026 (qH pb bb As))::(HP++(HBk++H))) (fun v H'=>∃ HP2 HB2,zb pb n (QL Ws Q Rs As i).2.1 Rs HP2∧zL bb (QL Ws Q Rs As i).1 HB2∧v=zi (QL Ws Q Rs As i).2.2.2∧H'=(tb,.cells 170 1026 (qH pb bb (QL Ws Q Rs As i).2.2.1))::(HP2++(HB2++H))):=by
 refine qc (l:=[zp tb,zi (i:Int)]) Tryz.func161 rfl Tryz.ntmps161 rfl rfl ?_
 refine ze ?_
 refine qK (l:=[zp tb]) rfl rfl rfl (fun b2=>?_)
 refine qK (l:=[zi (i:Int)]) rfl rfl rfl (fun b3=>?_)
 refine za 3 rfl ?_
 refine qe (v:=zp tb) rfl QX rfl (qf.own (b:=b2) zM rfl) rfl ?_
 refine qe (v:=zi (i:Int)) rfl ty3 rfl (qf.own (b:=b3) zM rfl) rfl ?_
 refine qI .nil (.cons rfl (.cons rfl .nil)) rfl ?_
 refine qk (zc3 rfl rfl rfl) Tryz.call165 rfl ((qbH (i:=i) (fi:=257) (ca:=[zp b2,zp b3]) Tryz.call257 hi (qlL (b2:=b2) (b3:=b3) hP hB hn hA (H:=H)) ?_).hsub zH) ?_
 ·rintro v H2 ⟨_,_,_,_,e,_⟩
  exact ⟨_,e⟩
 rintro v H' ⟨HP2,HB2,hP2,hB2,rfl,rfl⟩
 refine za 2 rfl ?_
 refine qd (H2:=(tb,.cells 170 1026 (qH pb bb (QL Ws Q Rs As i).2.2.1))::(HP2++(HB2++H))) Tryz.results161 rfl (.nil _) zH ?_
 exact ⟨HP2,HB2,hP2,hB2,rfl,rfl⟩
theorem qiA (hi:¬ (0≤id∧id<256)):Qx Tryz.prog (fun _=>True) 161 [zp tb,zi id] (zi 2):=by
 intro w0 H hT
 refine qc Tryz.func161 rfl Tryz.ntmps161 rfl rfl (ze ?_)
 refine qK (l:=[zp tb]) rfl rfl rfl (fun b2=>?_)
 refine qK (l:=[zi id]) rfl rfl rfl (fun b3=>?_)
 refine za 3 rfl ?_
 refine qe (v:=zp tb) rfl QX rfl (qf.own (b:=b2) zM rfl) rfl ?_
 refine qe (v:=zi id) rfl ty3 rfl (qf.own (b:=b3) zM rfl) rfl ?_
 refine qI .nil (.cons rfl (.cons rfl .nil)) rfl ?_
 refine qT (zc3 rfl rfl rfl) Tryz.call165 rfl (T:=fun _=>True) trivial (qbV hi ) ?_
 refine za 2 rfl ?_
 refine qd (H2:=H) Tryz.results161 rfl (.nil _) zH ?_
 exact ⟨rfl,rfl⟩
theorem qie (h:TOk T Ws As):TOk T (QL Ws Q Rs As i).1 (QL Ws Q Rs As i).2.2.1:=by
 unfold QL
 split
 ·exact h
 ·refine ⟨h.bank.del _,fun x hx=>?_⟩
  rcases List.mem_or_eq_of_mem_set hx with hx | rfl
  ·exact h.starts x hx
  ·show 0≤(0:Int)∧(0:Int)≤(T:Int); omega
theorem qlK (h:Kc As):Kc (QL Ws Q Rs As i).2.2.1:=by
 unfold QL
 split
 ·exact h
 ·exact h.set i (o:=Qy) zd
theorem qif:(QL Ws Q Rs As i).1.length=Ws.length:=by
 unfold QL
 split
 ·rfl
 ·exact List.length_map _
theorem qbS (hT:Q2 tb n Ws Q Rs As HB) (hO:TOk T Ws As) :
  qh Tryz.prog w0 161 #[zp tb,zi id] (HB++H) (fun v H'=>∃ HB',Q2 tb n (zV Ws Q Rs As id).1 (zV Ws Q Rs As id).2.1 Rs (zV Ws Q Rs As id).2.2.1 HB'∧TOk T (zV Ws Q Rs As id).1 (zV Ws Q Rs As id).2.2.1∧v=zi (zV Ws Q Rs As id).2.2.2∧H'=HB'++H):=by
 by_cases hi:0≤id∧id<256
 ·obtain ⟨i,rfl⟩:∃ i:Nat,id=(i:Int):=⟨id.toNat,by omega⟩
  rw [qds (by omega)]
  cases hT with
  | @mk pb bb HP HBk hP hB hA hn =>
   obtain ⟨o,ho⟩:=hA.at (i:=i) zO
   show qh _ _ _ _ ((tb,.cells 170 1026 (qH pb bb As))::((HP++HBk)++H)) _
   rw [List.append_assoc]
   refine (qms (H:=H) hP hB hn zO ho).mono ?_
   rintro v H' ⟨HP2,HB2,hP2,hB2,rfl,rfl⟩
   exact ⟨_,.mk hP2 hB2 (qlK hA) (by rw [qif]; exact hn),qie hO,rfl,by show _=(tb,.cells 170 1026 (qH pb bb (QL Ws Q Rs As i).2.2.1))::((HP2++HB2)++H); rw [List.append_assoc]⟩
 ·have e:zV Ws Q Rs As id=(Ws,Q,As,2):=if_neg hi
  rw [e]
  refine (qiA hi w0 _ trivial).mono ?_
  rintro v H' ⟨rfl,rfl⟩
  exact ⟨HB,hT,hO,rfl,rfl⟩
theorem of1_L (hA:As[i]?=some o) (hm:(tb,.cells 170 1026 (qH pb bb As))∈H) :qh Tryz.prog w0 185 #[.pointer (some ⟨tb,2+i*4,none⟩),zp b5] ((b5,.cells 153 4 (Zd Qy))::H) (fun v H'=>v=zi 0∧H'=(b5,.cells 153 4 (Zd o))::H):=by
 refine qc (l:=[.pointer (some ⟨tb,2+i*4,none⟩),zp b5]) Tryz.func185 rfl Tryz.ntmps185 rfl rfl ?_
 refine za 6 rfl ?_
 refine qJ (vs:=Zd o) rfl Js rfl (b:=tb) (List.mem_cons_of_mem _ hm) (by show Nat.ble (2+i*4+4) (qH pb bb As).length=true; rw [qfw,Nat.ble_eq]; have:=(List.getElem?_eq_some_iff.1 hA).1; omega) (qmK hA) rfl ?_
 refine ql (l':=Zd o) rfl rfl Js rfl rfl (b:=b5) zM (by exact Nat.le_refl 4) rfl zU ?_
 refine za 4 rfl ?_
 refine qd (H2:=(b5,.cells 153 4 (Zd o))::H) Tryz.results185 rfl (.nil _) zH ?_
 exact ⟨rfl,rfl⟩
theorem of_at (hi:i<256) (hA:As[i]?=some o) (hm:(tb,.cells 170 1026 (qH pb bb As))∈H) :qB Tryz.prog w0 H 97 [zp tb,zi (i:Int)] (.agg (Zd o).toArray):=by
 refine qc Tryz.func97 rfl Tryz.ntmps97 rfl rfl (ze ?_)
 refine qp (l:=Zd Qy) Js rfl rfl (fun b4=>?_)
 refine za 2 rfl ?_
 refine qp (l:=Zd Qy) Js rfl rfl (fun b5=>?_)
 refine za 4 rfl (qI .nil (.cons rfl .nil) rfl ?_)
 refine qk (zc3 rfl rfl rfl) Tryz.call165 rfl ((qbH (i:=i) (fi:=185) (ca:=[zp b5]) Tryz.call185 hi (of1_L (b5:=b5) hA (by repeat (first | exact hm | exact List.mem_cons_self | apply List.mem_cons_of_mem | apply List.mem_append_right)) (H:=(b4,.cells 153 4 (Zd Qy))::H)) ?_).hsub zH) ?_
 ·rintro v H2 ⟨e,_⟩
  exact ⟨_,e⟩
 rintro v H' ⟨rfl,rfl⟩
 refine za 2 rfl ?_
 refine qJ (vs:=Zd o) rfl Js rfl (b:=b5) zM rfl rfl rfl ?_
 refine ql (l':=Zd o) rfl rfl Js rfl rfl (b:=b4) zM (by exact Nat.le_refl 4) rfl zU ?_
 refine qs ?_
 refine Jy (H2:=H) Tryz.results97 rfl (.nil _) Js rfl zM rfl zH ?_
 exact ⟨rfl,rfl⟩
theorem qpw (hi:¬ (0≤id∧id<256)):Qx Tryz.prog (fun _=>True) 97 [zp tb,zi id] (.agg (Zd Qy).toArray):=by
 intro w0 H hT
 refine qc Tryz.func97 rfl Tryz.ntmps97 rfl rfl (ze ?_)
 refine qp (l:=Zd Qy) Js rfl rfl (fun b4=>?_)
 refine za 2 rfl ?_
 refine qp (l:=Zd Qy) Js rfl rfl (fun b5=>?_)
 refine za 4 rfl (qI .nil (.cons rfl .nil) rfl ?_)
 refine qT (zc3 rfl rfl rfl) Tryz.call165 rfl (T:=fun _=>True) trivial (qbV hi ) ?_
 refine za 2 rfl ?_
 refine qJ (vs:=Zd Qy) rfl Js rfl (b:=b5) zM rfl rfl rfl ?_
 refine ql (l':=Zd Qy) rfl rfl Js rfl rfl (b:=b4) zM (by exact Nat.le_refl 4) rfl zU ?_
 refine qs ?_
 refine Jy (H2:=H) Tryz.results97 rfl (.nil _) Js rfl zM rfl zH ?_
 exact ⟨rfl,rfl⟩
def ofA (As:List Qn) (id:Int):Qn:=if 0≤id∧id<256 then As.getD id.toNat Qy else Qy
theorem qaZ (hi:i<256) (h:As[i]?=some o):ofA As (i:Int)=o:=by
 unfold ofA; rw [if_pos (by omega),show ((i:Nat):Int).toNat=i by omega,List.getD_eq_getElem?_getD,h]; rfl
theorem qgI (h:¬ (0≤id∧id<256)):ofA As id=Qy:=if_neg h
theorem qoK (hA:Kc As) (hm:(tb,.cells 170 1026 (qH pb bb As))∈H) :qB Tryz.prog w0 H 97 [zp tb,zi id] (.agg (Zd (ofA As id)).toArray):=by
 by_cases hi:0≤id∧id<256
 ·obtain ⟨i,rfl⟩:∃ i:Nat,id=(i:Int):=⟨id.toNat,by omega⟩
  obtain ⟨o,ho⟩:=hA.at (i:=i) zO
  rw [qaZ (by omega) ho]
  exact of_at zO ho hm
 ·rw [qgI hi]
  exact (qpw hi).at trivial
theorem qnk (h:Kc As) (id:Int):0≤(ofA As id).prog∧(ofA As id).prog≤16:=by
 by_cases hi:0≤id∧id<256
 ·obtain ⟨i,rfl⟩:∃ i:Nat,id=(i:Int):=⟨id.toNat,by omega⟩
  obtain ⟨o,ho⟩:=h.at (i:=i) zO
  rw [qaZ (by omega) ho]
  exact h.rng o (List.mem_of_getElem? ho)
 ·rw [qgI hi]; decide
theorem qqk (hA:Kc As) (hm:(tb,.cells 170 1026 (qH pb bb As))∈H) :qB Tryz.prog w0 H 78 [zp tb,zi id] (.tuple #[zi (max ((ofA As id).prog-1) 0),.bool (decide (0<(ofA As id).prog))]):=by
 have hpr:=qnk hA id
 refine qc Tryz.func78 rfl Tryz.ntmps78 rfl rfl (za 7 rfl ?_)
 refine qn (zc2 rfl rfl) Tryz.call97 rfl (qoK (id:=id) hA (by repeat (first | exact hm | exact List.mem_cons_self | apply List.mem_cons_of_mem | apply List.mem_append_right))) ?_
 refine qp (l:=Zd Qy) Js rfl rfl (fun b6=>?_)
 refine ql (l':=Zd (ofA As id)) rfl rfl Js rfl rfl (b:=b6) zM (by exact Nat.le_refl 4) rfl zU ?_
 refine qs (zh zk zK (zq 1 rfl ?_))
 refine qG (qj (v:=zi ((ofA As id)).prog) rfl ty3 rfl (qf.own (b:=b6) zM rfl)) rfl ?_
 refine qG (QU rfl rfl (Zw (m:=((ofA As id)).prog-1) (zg zO))) rfl ?_
 refine qG (qma rfl rfl (m:=max (((ofA As id)).prog-1) 0) (by split <;> omega)) rfl ?_
 refine zq 1 rfl ?_
 refine qG (qj (v:=zi ((ofA As id)).prog) rfl ty3 rfl (qf.own (b:=b6) zM rfl)) rfl ?_
 refine zq 3 rfl (zX ?_)
 refine qL (H2:=H) Tryz.results78 rfl rfl (.nil _) zH ?_
 exact ⟨rfl,rfl⟩
def Xv (Ws:List Wl) (Q:List (Int × Int)) (o:Qn) (id:Int):Int:=if o.shut=true then 4 else if o.made=false then 0 else if (ZT Ws id).isSome=true then 2 else if (whQ Q id).isSome=true then 3 else 1
def stateA (Ws:List Wl) (Q:List (Int × Int)) (As:List Qn) (id:Int):Int:=Xv Ws Q (ofA As id) id
theorem qmh (hP:zb pb n Q Rs HP) (hB:zL bb Ws HBk) (hn:Ws.length=n∧n≤64) (hA:Kc As) :qh Tryz.prog w0 34 #[zp tb,zi id] ((tb,.cells 170 1026 (qH pb bb As))::(HP++(HBk++H))) (fun v H'=>∃ HB2,zL bb Ws HB2∧v=zi (stateA Ws Q As id)∧H'=(tb,.cells 170 1026 (qH pb bb As))::(HP++(HB2++H))):=by
 refine qc (l:=[zp tb,zi id]) Tryz.func34 rfl Tryz.ntmps34 rfl rfl ?_
 refine za 6 rfl ?_
 refine qn (zc2 rfl rfl) Tryz.call97 rfl (qoK (id:=id) hA zM) ?_
 refine qp (l:=Zd Qy) Js rfl rfl (fun b5=>?_)
 refine ql (l':=Zd (ofA As id)) rfl rfl Js rfl rfl (b:=b5) zM (by exact Nat.le_refl 4) rfl zU ?_
 refine za 5 rfl ?_
 refine qe (v:=.bool (ofA As id).shut) rfl ty4 rfl (qf.own (b:=b5) zM rfl) rfl ?_
 refine za 2 rfl ?_
 refine qm (p:=(ofA As id).shut=true) rfl (by simp) (fun c0=>?_) (fun c0=>?_)
 ·skip
  refine za 3 rfl ?_
  refine qd (H2:=(tb,.cells 170 1026 (qH pb bb As))::(HP++(HBk++H))) Tryz.results34 rfl (.nil _) zH ?_
  exact ⟨HBk,hB,by unfold stateA Xv; rw [if_pos c0],rfl⟩
 ·skip
  refine za 2 rfl ?_
  refine qe (v:=.bool (ofA As id).made) rfl ty4 rfl (qf.own (b:=b5) zM rfl) rfl ?_
  refine za 3 rfl ?_
  refine qm (p:=(ofA As id).made=false) rfl (by simp) (fun c1=>?_) (fun c1=>?_)
  ·skip
   refine za 3 rfl ?_
   refine qd (H2:=(tb,.cells 170 1026 (qH pb bb As))::(HP++(HBk++H))) Tryz.results34 rfl (.nil _) zH ?_
   exact ⟨HBk,hB,by unfold stateA Xv; rw [if_neg c0,if_pos c1],rfl⟩
  ·skip
   refine za 7 rfl ?_
   refine qe (v:=zp bb) rfl JW rfl (qf.own (b:=tb) zM rfl) rfl ?_
   refine qD rfl rfl ?_
   refine qk (zc2 rfl rfl) Tryz.call98 rfl ((qhi (id:=id) hB zO (H:=(tb,.cells 170 1026 (qH pb bb As))::(HP++H))).hsub zH) ?_
   rintro v H' ⟨HB2,hB2,rfl,rfl⟩
   rcases hfk:ZT Ws id with _ | kf
   ·skip
    rw [show Ko Ws id=.tuple #[zi 0,.agg qN.v.toArray,.bool false] from by unfold Ko; rw [hfk]]
    refine za 4 rfl ?_
    refine qp (l:=qN.v) zj rfl rfl (fun b7=>?_)
    refine Ky rfl rfl ?_
    refine ql (l':=qN.v) rfl rfl zj rfl rfl (b:=b7) zM (by exact Nat.le_refl 4) rfl zU ?_
    refine za 12 rfl ?_
    refine qe (v:=zp pb) rfl Zf rfl (qf.own (b:=tb) zM rfl) rfl ?_
    refine qD rfl rfl ?_
    refine qk (zc2 rfl rfl) Tryz.call99 rfl ((qeg (id:=id) hP zO (H:=(tb,.cells 170 1026 (qH pb bb As))::(HB2++H))).hsub zH) ?_
    rintro v H' ⟨rfl,rfl⟩
    rcases hwq:whQ Q id with _ | kq
    ·skip
     rw [show ZU none=.tuple #[zi 0,.bool false] from rfl]
     refine za 14 rfl ?_
     refine qd (H2:=(tb,.cells 170 1026 (qH pb bb As))::(HP++(HB2++H))) Tryz.results34 rfl (.nil _) zH ?_
     exact ⟨HB2,hB2,by unfold stateA Xv; rw [if_neg c0,if_neg c1,if_neg (by rw [hfk]; decide),if_neg (by rw [hwq]; decide)],rfl⟩
    ·skip
     rw [show ZU (some kq)=.tuple #[zi kq,.bool true] from rfl]
     refine za 13 rfl ?_
     refine qd (H2:=(tb,.cells 170 1026 (qH pb bb As))::(HP++(HB2++H))) Tryz.results34 rfl (.nil _) zH ?_
     exact ⟨HB2,hB2,by unfold stateA Xv; rw [if_neg c0,if_neg c1,if_neg (by rw [hfk]; decide),if_pos (by rw [hwq]; rfl)],rfl⟩
   ·skip
    obtain ⟨wf,hwf,hfh⟩:=qcF hfk
    rw [show Ko Ws id=.tuple #[zi (kf:Int),.agg (ZB wf.L id).v.toArray,.bool true] from by unfold Ko; rw [hfk]; dsimp only; rw [hwf]]
    refine za 4 rfl ?_
    refine qp (l:=qN.v) zj rfl rfl (fun b7=>?_)
    refine Ky rfl rfl ?_
    refine ql (l':=(ZB wf.L id).v) rfl rfl zj rfl rfl (b:=b7) zM (by exact Nat.le_refl 4) rfl zU ?_
    refine za 9 rfl ?_
    refine qd (H2:=(tb,.cells 170 1026 (qH pb bb As))::(HP++(HB2++H))) Tryz.results34 rfl (.nil _) zH ?_
    exact ⟨HB2,hB2,by unfold stateA Xv; rw [if_neg c0,if_neg c1,if_pos (by rw [hfk]; rfl)],rfl⟩
set_option maxRecDepth 100000
theorem qmO (hn:1≤n∧n≤64) :qh Tryz.prog w0 105 #[zi (n:Int),zu ((now:Nat):Int)] (H) (fun v H'=>∃ tb Ws HB,v=.tuple #[zp tb,zi 0]∧Q2 tb n Ws [] [] (List.replicate 256 Qy) HB∧Ws.length=n∧(∀ w∈Ws,XW now w)∧H'=HB++H):=by
 refine qc (l:=[zi (n:Int),zu ((now:Nat):Int)]) Tryz.func105 rfl Tryz.ntmps105 rfl rfl ?_
 refine za 6 rfl (qk (zc1 rfl) Tryz.call195 rfl (qjx hn) ?_)
 rintro v H' ⟨pb,HP,rfl,hP,rfl⟩
 refine za 16 rfl ?_
 refine qk (zc2 rfl rfl) Tryz.call196 rfl (qqq (now:=now) hn) ?_
 rintro v H' ⟨bb,Ws,HBk,rfl,hB,hWl,hfr,rfl⟩
 refine za 16 rfl ?_
 refine qX (l:=qH pb bb (List.replicate 256 Qy)) ty170 pl170 (.cons rfl rfl rfl rfl rfl (.cons rfl rfl rfl rfl rfl .nil)) rfl zk rfl ?_
 refine qK (l:=qH pb bb (List.replicate 256 Qy)) rfl rfl rfl (fun b29=>?_)
 refine za 3 rfl ?_
 refine qL (H2:=(b29,.cells 170 1026 (qH pb bb (List.replicate 256 Qy)))::(HP++(HBk++H))) Tryz.results105 rfl rfl (.nil _) zH ?_
 exact ⟨b29,Ws,(b29,.cells 170 1026 (qH pb bb (List.replicate 256 Qy)))::(HP++HBk),rfl,.mk hP hB ⟨List.length_replicate,fun o ho=>by rw [List.eq_of_mem_replicate ho]; decide⟩ ⟨hWl,hn.2⟩,hWl,hfr,by show _=(b29,.cells 170 1026 (qH pb bb (List.replicate 256 Qy)))::((HP++HBk)++H); rw [List.append_assoc]⟩
theorem qhg (hT:Q2 tb n Ws Q Rs As HB) :qh Tryz.prog w0 34 #[zp tb,zi id] (HB++H) (fun v H'=>∃ HB',Q2 tb n Ws Q Rs As HB'∧v=zi (stateA Ws Q As id)∧H'=HB'++H):=by
 cases hT with
 | @mk pb bb HP HBk hP hB hA hn =>
  show qh _ _ _ _ ((tb,.cells 170 1026 (qH pb bb As))::((HP++HBk)++H)) _
  rw [List.append_assoc]
  refine (qmh (H:=H) hP hB hn hA).mono ?_
  rintro v H' ⟨HB2,hB2,rfl,rfl⟩
  exact ⟨_,.mk hP hB2 hA hn,rfl,by show _=(tb,.cells 170 1026 (qH pb bb As))::((HP++HB2)++H); rw [List.append_assoc]⟩
theorem qmN (hT:Q2 tb n Ws Q Rs As HB) (hm:∀ p∈HB,p∈H) :qB Tryz.prog w0 H 157 [zp tb,zi id] (ZU (inR Rs id)):=by
 cases hT with
 | @mk pb bb HP HBk hP hB hA hn=>exact qeo (bb:=bb) (As:=As) hP hn hm
theorem qgA (hT:Q2 tb n Ws Q Rs As HB) (hm:∀ p∈HB,p∈H) :qB Tryz.prog w0 H 78 [zp tb,zi id] (.tuple #[zi (max ((ofA As id).prog-1) 0),.bool (decide (0<(ofA As id).prog))]):=by
 cases hT with
 | @mk pb bb HP HBk hP hB hA hn=>exact qqk hA (hm _ List.mem_cons_self)
theorem qd7 (h:∀ w∈Ws,ZH w.L id=false):ZT Ws id=none :=
  qcE (fun j u _ hu=>h u (List.mem_of_getElem? hu))
theorem qhV (L:List Tm) (id:Int):ZH (Ys L id) id=false:=by
  cases h:ZH (Ys L id) id with
  | false=>rfl
  | true =>
    obtain ⟨t,ht,e⟩:=List.mem_map.1 (Jk.1 h)
    exact absurd e (of_decide_eq_true (List.mem_filter.1 ht).2)
theorem qh4 (Ws:List Wl) (id:Int):ZT (Ws.map (Yr [id])) id=none:=qd7 fun w hw=>by
  obtain ⟨u,hu,rfl⟩:=List.mem_map.1 hw
  exact qhV u.L id
theorem qi1 (h:XU n Ws Q As (i:Int) (k:Int) a Ws' Q' As' s e) (hl:Ws.length=n) (hi:i<256) (hA:As[i]?=some o) (hw:Ws[k]?=some w) (hs:o.shut=false) (hm:o.made=true) (hp:¬ o.prog=0) (hn:w.now<18446744073709551615) :
    e=0∧s=(Qq w.now a).1∧Ws'=(Ws.map (Yr [(i:Int)])).set k ⟨w.bw,w.now,Ys w.L (i:Int)++[qfx w.now a w.turn (i:Int)],w.turn+1⟩∧Q'=ZC Q (i:Int)∧As'=As.set i { o with starts:=o.starts+1 }:=by
  have hkl:=(List.getElem?_eq_some_iff.1 hw).1
  generalize hid:(i:Int)=id at h ⊢
  generalize hcp:(k:Int)=cpu at h
  cases h with
  | out h=>exact absurd h zO
  | @at_ i2 k2 o2 w2 _ _ _ _ _ hi2 ei ek hA2 hw2 hM =>
    subst hid hcp
    obtain rfl:i2=i:=by omega
    obtain rfl:k2=k:=by omega
    obtain rfl:o2=o:=Option.some.inj (hA2.symm.trans hA)
    obtain rfl:w2=w:=Option.some.inj (hw2.symm.trans hw)
    cases hM with
    | gone h=>rw [hs] at h; cases h
    | unset _ h => rcases h with h | h
                   · rw [hm] at h; cases h
                   · exact absurd h hp
    | late _ _ h=>omega
    | put _ _ _ hp =>
      obtain ⟨e1,e2,e3⟩:=hp.ok_of (k:=k2) (w:=Yr [(i2:Int)] w2) rfl (by rw [List.getElem?_map,hw]; rfl) (qh4 Ws _) (by omega) hn
      exact ⟨e3,e2,e1,rfl,rfl⟩
theorem tok0 (hn:now≤18446744073709551615) (hf:∀ w∈Ws,XW now w):TOk 0 Ws (List.replicate 256 Qy):=⟨BOk.start hn hf,fun o ho=>by rw [List.eq_of_mem_replicate ho]; decide⟩
theorem TOk.onA {f:Qn→Qn × Int} (h:TOk T Ws As) (hf:∀ o,(f o).1.starts=o.starts) (id:Int):TOk T Ws (onA f As id).1:=by
  refine ⟨h.bank,fun o ho=>?_⟩
  unfold Go.Proofs.YtincjohoncljoaaGreatDoor.onA at ho
  split at ho
  · split at ho
    · rename_i x hx
      rcases List.mem_or_eq_of_mem_set ho with ho | rfl
      · exact h.starts o ho
      · rw [hf]; exact h.starts x (List.mem_of_getElem? hx)
    · exact h.starts o ho
  · exact h.starts o ho
theorem qeu (p:Int) (o:Qn):(setO p o).1.starts=o.starts:=by unfold setO; split; rfl; split <;> rfl
theorem TOk.setA (h:TOk T Ws As) (id prog:Int):TOk T Ws (setA As id prog).1:=by
  unfold Go.Proofs.YtincjohoncljoaaGreatDoor.setA
  split
  · exact h.onA (qeu prog) id
  · exact h
theorem qd4:Yh Tryz.prog 1 40 [.int .i64,.int .i64]:=(Yh.struct qR zk zk (.cons (ks:=[.int .i64]) zd rfl zk (Yh.leaf (k:=.int .i64) ty3) (.cons (ks:=[.int .i64]) zd rfl zk (Yh.leaf (k:=.int .i64) ty3) .nil)))
theorem qg4:KT Tryz.prog 40=true:=by kernel_rfl
theorem qnD:Tryz.prog.eqGuardType Tryz.prog.depth 40=false:=by kernel_rfl
instance:Inhabited Hd:=⟨⟨0,0⟩⟩
theorem qau (v:Hd):Zz [.int .i64,.int .i64] (hdC v):=⟨⟨_,rfl⟩,⟨_,rfl⟩,trivial⟩
theorem qbM (v w:Hd) (h:hdC v=hdC w):v=w:=by
 cases v; cases w; simp only [hdC,List.cons.injEq,Value.int.injEq,Value.bool.injEq,Value.string.injEq,true_and,and_true] at h; simp only [Hd.mk.injEq]; exact h
def Jg (sb:Nat) (L:List Slt) (h:Hd):Value:=.tuple #[.pointer (if Qc L h=0 then some ⟨sb,h.slot.toNat*7,none⟩ else none),zi (Qc L h)]
theorem qba (he:Qc L h=0) (hi:h.slot=(i:Int)):Jg sb L h=.tuple #[.pointer (some ⟨sb,i*7,none⟩),zi 0]:=by unfold Jg; rw [he,if_pos rfl,hi]; rfl
theorem qa9 (he:Qc L h≠0):Jg sb L h=.tuple #[.pointer none,zi (Qc L h)]:=by unfold Jg; rw [if_neg he]
theorem qnQ (hu:zC 1 L u) (hk:Zk L) (hm1:(ab,.cells 345 3 [.slice (some ⟨sb,0,none⟩) L.length L.length,zu ((u:Nat):Int),zu ((f:Nat):Int)])∈H) (hm2:(sb,.cells 377 (L.length*7) ((L).flatMap Q9))∈H) {s:Slt} (hi:h.slot=(i:Int)) (hs:L[i]?=some s) (hus:s.st=1) (ho:s.own=h) (he:Qc L h=0) :qB Tryz.prog w0 H 236 [zp ab,.agg (List.toArray (hdC h))] (Jg sb L h):=by
 have hil:i<L.length:=(List.getElem?_eq_some_iff.1 hs).1
 have hlen:=hk.len
 refine qc Tryz.func236 rfl Tryz.ntmps236 rfl rfl (ze ?_)
 refine qK rfl rfl rfl (fun b3=>?_)
 refine za 7 rfl ?_
 refine W_x (qr rfl rfl JH) (fun _ h=>by cases h) rfl ?_
 refine za 3 rfl (zh zk zK (zq 1 rfl (qG (qj rfl ty3 rfl (qf.own zM rfl)) rfl (zq 1 rfl ?_))))
 rw [decide_eq_false (by omega)]
 refine zq 4 rfl (qG (qj rfl ty3 rfl (qf.own zM rfl)) rfl (zq 7 rfl ?_))
 refine qG (qj (v:=.slice (some ⟨sb,0,none⟩) L.length L.length) rfl Zr rfl (qf.own (b:=ab) (by repeat (first | exact hm1 | apply List.mem_cons_of_mem)) rfl)) rfl ?_
 refine zq 1 rfl (qG (Ku rfl Zr rfl) rfl (zq 2 rfl ?_))
 rw [decide_eq_false (by omega)]
 first | refine qG (zx rfl rfl) rfl ?_ | refine qG (zy rfl rfl) rfl ?_
 refine zq 1 rfl (zX (QA rfl rfl (zh zk zK (zq 3 rfl ?_))))
 refine qG (qj (v:=zu (u:Int)) rfl Qa rfl (qf.own (b:=ab) (by repeat (first | exact hm1 | apply List.mem_cons_of_mem)) rfl)) rfl ?_
 refine zq 1 rfl (qG (qj rfl ty3 rfl (qf.own zM rfl)) rfl ?_)
 refine Ja (zc2 rfl rfl) Tryz.call332 rfl (T:=fun _=>True) trivial (JL hu.1) ?_
 rw [decide_eq_true (by rw [hi]; exact (qa6 hu hk.len.2 hs).2 hus)]
 refine zq 9 rfl ?_
 refine qG (qj (v:=.slice (some ⟨sb,0,none⟩) L.length L.length) rfl Zr rfl (qf.own (b:=ab) (by repeat (first | exact hm1 | apply List.mem_cons_of_mem)) rfl)) rfl ?_
 refine zq 3 rfl (qG (qj rfl ty3 rfl (qf.own zM rfl)) rfl (zq 1 rfl ?_))
 refine qG (qW (j:=i) rfl rfl Zr qbk (by first | rfl | omega) (by first | decide | omega | simp) rfl) rfl ?_
 refine zq 3 rfl ?_
 refine qG (Qm (vs:=hdC s.own) rfl qR rfl (b:=sb) (by repeat (first | exact hm2 | apply List.mem_cons_of_mem)) (by rw [Nat.ble_eq,zt z6]; omega) (by rw [show (0:Nat)+i*7+0=i*7+0 by omega]; exact Ji (o:=0) (m:=2) z6 hs (by decide))) rfl ?_
 refine zq 1 rfl (qG (Qm rfl qR rfl zM rfl zF) rfl (zq 1 rfl ?_))
 refine qG (ql8 (f:=hdC) rfl rfl qd4 qg4 qau qbM qnD zd) rfl ?_
 rw [decide_eq_true ho]
 first | refine qG (zx rfl rfl) rfl ?_ | refine qG (zy rfl rfl) rfl ?_
 refine zq 1 rfl (zX (za 3 rfl (zh zk zK (zq 3 rfl ?_))))
 refine qG (qj (v:=.slice (some ⟨sb,0,none⟩) L.length L.length) rfl Zr rfl (qf.own (b:=ab) (by repeat (first | exact hm1 | apply List.mem_cons_of_mem)) rfl)) rfl ?_
 refine zq 1 rfl (qG (qj rfl ty3 rfl (qf.own zM rfl)) rfl ?_)
 refine qG (qW (j:=i) rfl rfl Zr qbk (by first | rfl | omega) (by first | decide | omega | simp) rfl) rfl ?_
 refine zq 2 rfl (zX ?_)
 refine qL (H2:=H) Tryz.results236 rfl rfl (.nil _) zH ?_
 exact ⟨by unfold Jg; rw [he,if_pos rfl,hi,Nat.zero_add]; rfl,rfl⟩
theorem qnP (hu:zC 1 L u) (hk:Zk L) (hm1:(ab,.cells 345 3 [.slice (some ⟨sb,0,none⟩) L.length L.length,zu ((u:Nat):Int),zu ((f:Nat):Int)])∈H) (hm2:(sb,.cells 377 (L.length*7) ((L).flatMap Q9))∈H) (hi:h.slot<0) (he:Qc L h=2) :qB Tryz.prog w0 H 236 [zp ab,.agg (List.toArray (hdC h))] (Jg sb L h):=by
 refine qc Tryz.func236 rfl Tryz.ntmps236 rfl rfl (ze ?_)
 refine qK rfl rfl rfl (fun b3=>?_)
 refine za 7 rfl ?_
 refine W_x (qr rfl rfl JH) (fun _ h=>by cases h) rfl ?_
 refine za 3 rfl (zh zk zK (zq 1 rfl (qG (qj rfl ty3 rfl (qf.own zM rfl)) rfl (zq 1 rfl ?_))))
 rw [decide_eq_true (by omega)]
 refine zq 9 rfl ?_
 first | refine qG (zx rfl rfl) rfl ?_ | refine qG (zy rfl rfl) rfl ?_
 refine zq 1 rfl (zX (za 5 rfl ?_))
 refine qL (H2:=H) Tryz.results236 rfl rfl (.nil _) zH ?_
 exact ⟨by unfold Jg; rw [he,if_neg (by decide)],rfl⟩
theorem qnR (hu:zC 1 L u) (hk:Zk L) (hm1:(ab,.cells 345 3 [.slice (some ⟨sb,0,none⟩) L.length L.length,zu ((u:Nat):Int),zu ((f:Nat):Int)])∈H) (hm2:(sb,.cells 377 (L.length*7) ((L).flatMap Q9))∈H) (hi:(L.length:Int)≤h.slot) (he:Qc L h=2) :qB Tryz.prog w0 H 236 [zp ab,.agg (List.toArray (hdC h))] (Jg sb L h):=by
 have hlen:=hk.len
 have hh0:¬ h.slot<0:=by omega
 refine qc Tryz.func236 rfl Tryz.ntmps236 rfl rfl (ze ?_)
 refine qK rfl rfl rfl (fun b3=>?_)
 refine za 7 rfl ?_
 refine W_x (qr rfl rfl JH) (fun _ h=>by cases h) rfl ?_
 refine za 3 rfl (zh zk zK (zq 1 rfl (qG (qj rfl ty3 rfl (qf.own zM rfl)) rfl (zq 1 rfl ?_))))
 rw [decide_eq_false (by omega)]
 refine zq 4 rfl (qG (qj rfl ty3 rfl (qf.own zM rfl)) rfl (zq 7 rfl ?_))
 refine qG (qj (v:=.slice (some ⟨sb,0,none⟩) L.length L.length) rfl Zr rfl (qf.own (b:=ab) (by repeat (first | exact hm1 | apply List.mem_cons_of_mem)) rfl)) rfl ?_
 refine zq 1 rfl (qG (Ku rfl Zr rfl) rfl (zq 2 rfl ?_))
 rw [decide_eq_true (by omega)]
 first | refine qG (zx rfl rfl) rfl ?_ | refine qG (zy rfl rfl) rfl ?_
 refine zq 1 rfl (zX (za 5 rfl ?_))
 refine qL (H2:=H) Tryz.results236 rfl rfl (.nil _) zH ?_
 exact ⟨by unfold Jg; rw [he,if_neg (by decide)],rfl⟩
theorem qnN (hu:zC 1 L u) (hk:Zk L) (hm1:(ab,.cells 345 3 [.slice (some ⟨sb,0,none⟩) L.length L.length,zu ((u:Nat):Int),zu ((f:Nat):Int)])∈H) (hm2:(sb,.cells 377 (L.length*7) ((L).flatMap Q9))∈H) {s:Slt} (hi:h.slot=(i:Int)) (hs:L[i]?=some s) (hus:s.st≠1) (he:Qc L h=7) :qB Tryz.prog w0 H 236 [zp ab,.agg (List.toArray (hdC h))] (Jg sb L h):=by
 have hil:i<L.length:=(List.getElem?_eq_some_iff.1 hs).1
 have hlen:=hk.len
 refine qc Tryz.func236 rfl Tryz.ntmps236 rfl rfl (ze ?_)
 refine qK rfl rfl rfl (fun b3=>?_)
 refine za 7 rfl ?_
 refine W_x (qr rfl rfl JH) (fun _ h=>by cases h) rfl ?_
 refine za 3 rfl (zh zk zK (zq 1 rfl (qG (qj rfl ty3 rfl (qf.own zM rfl)) rfl (zq 1 rfl ?_))))
 rw [decide_eq_false (by omega)]
 refine zq 4 rfl (qG (qj rfl ty3 rfl (qf.own zM rfl)) rfl (zq 7 rfl ?_))
 refine qG (qj (v:=.slice (some ⟨sb,0,none⟩) L.length L.length) rfl Zr rfl (qf.own (b:=ab) (by repeat (first | exact hm1 | apply List.mem_cons_of_mem)) rfl)) rfl ?_
 refine zq 1 rfl (qG (Ku rfl Zr rfl) rfl (zq 2 rfl ?_))
 rw [decide_eq_false (by omega)]
 first | refine qG (zx rfl rfl) rfl ?_ | refine qG (zy rfl rfl) rfl ?_
 refine zq 1 rfl (zX (QA rfl rfl (zh zk zK (zq 3 rfl ?_))))
 refine qG (qj (v:=zu (u:Int)) rfl Qa rfl (qf.own (b:=ab) (by repeat (first | exact hm1 | apply List.mem_cons_of_mem)) rfl)) rfl ?_
 refine zq 1 rfl (qG (qj rfl ty3 rfl (qf.own zM rfl)) rfl ?_)
 refine Ja (zc2 rfl rfl) Tryz.call332 rfl (T:=fun _=>True) trivial (JL hu.1) ?_
 rw [decide_eq_false (by rw [hi]; exact fun h=>hus ((qa6 hu hk.len.2 hs).1 h))]
 refine zq 13 rfl ?_
 first | refine qG (zx rfl rfl) rfl ?_ | refine qG (zy rfl rfl) rfl ?_
 refine zq 1 rfl (zX (za 5 rfl ?_))
 refine qL (H2:=H) Tryz.results236 rfl rfl (.nil _) zH ?_
 exact ⟨by unfold Jg; rw [he,if_neg (by decide)],rfl⟩
theorem qnO (hu:zC 1 L u) (hk:Zk L) (hm1:(ab,.cells 345 3 [.slice (some ⟨sb,0,none⟩) L.length L.length,zu ((u:Nat):Int),zu ((f:Nat):Int)])∈H) (hm2:(sb,.cells 377 (L.length*7) ((L).flatMap Q9))∈H) {s:Slt} (hi:h.slot=(i:Int)) (hs:L[i]?=some s) (hus:s.st=1) (ho:s.own≠h) (he:Qc L h=7) :qB Tryz.prog w0 H 236 [zp ab,.agg (List.toArray (hdC h))] (Jg sb L h):=by
 have hil:i<L.length:=(List.getElem?_eq_some_iff.1 hs).1
 have hlen:=hk.len
 refine qc Tryz.func236 rfl Tryz.ntmps236 rfl rfl (ze ?_)
 refine qK rfl rfl rfl (fun b3=>?_)
 refine za 7 rfl ?_
 refine W_x (qr rfl rfl JH) (fun _ h=>by cases h) rfl ?_
 refine za 3 rfl (zh zk zK (zq 1 rfl (qG (qj rfl ty3 rfl (qf.own zM rfl)) rfl (zq 1 rfl ?_))))
 rw [decide_eq_false (by omega)]
 refine zq 4 rfl (qG (qj rfl ty3 rfl (qf.own zM rfl)) rfl (zq 7 rfl ?_))
 refine qG (qj (v:=.slice (some ⟨sb,0,none⟩) L.length L.length) rfl Zr rfl (qf.own (b:=ab) (by repeat (first | exact hm1 | apply List.mem_cons_of_mem)) rfl)) rfl ?_
 refine zq 1 rfl (qG (Ku rfl Zr rfl) rfl (zq 2 rfl ?_))
 rw [decide_eq_false (by omega)]
 first | refine qG (zx rfl rfl) rfl ?_ | refine qG (zy rfl rfl) rfl ?_
 refine zq 1 rfl (zX (QA rfl rfl (zh zk zK (zq 3 rfl ?_))))
 refine qG (qj (v:=zu (u:Int)) rfl Qa rfl (qf.own (b:=ab) (by repeat (first | exact hm1 | apply List.mem_cons_of_mem)) rfl)) rfl ?_
 refine zq 1 rfl (qG (qj rfl ty3 rfl (qf.own zM rfl)) rfl ?_)
 refine Ja (zc2 rfl rfl) Tryz.call332 rfl (T:=fun _=>True) trivial (JL hu.1) ?_
 rw [decide_eq_true (by rw [hi]; exact (qa6 hu hk.len.2 hs).2 hus)]
 refine zq 9 rfl ?_
 refine qG (qj (v:=.slice (some ⟨sb,0,none⟩) L.length L.length) rfl Zr rfl (qf.own (b:=ab) (by repeat (first | exact hm1 | apply List.mem_cons_of_mem)) rfl)) rfl ?_
 refine zq 3 rfl (qG (qj rfl ty3 rfl (qf.own zM rfl)) rfl (zq 1 rfl ?_))
 refine qG (qW (j:=i) rfl rfl Zr qbk (by first | rfl | omega) (by first | decide | omega | simp) rfl) rfl ?_
 refine zq 3 rfl ?_
 refine qG (Qm (vs:=hdC s.own) rfl qR rfl (b:=sb) (by repeat (first | exact hm2 | apply List.mem_cons_of_mem)) (by rw [Nat.ble_eq,zt z6]; omega) (by rw [show (0:Nat)+i*7+0=i*7+0 by omega]; exact Ji (o:=0) (m:=2) z6 hs (by decide))) rfl ?_
 refine zq 1 rfl (qG (Qm rfl qR rfl zM rfl zF) rfl (zq 1 rfl ?_))
 refine qG (ql8 (f:=hdC) rfl rfl qd4 qg4 qau qbM qnD zd) rfl ?_
 rw [decide_eq_false ho]
 first | refine qG (zx rfl rfl) rfl ?_ | refine qG (zy rfl rfl) rfl ?_
 refine zq 1 rfl (zX (za 5 rfl ?_))
 refine qL (H2:=H) Tryz.results236 rfl rfl (.nil _) zH ?_
 exact ⟨by unfold Jg; rw [he,if_neg (by decide)],rfl⟩
theorem qa8 (hu:zC 1 L u) (hk:Zk L) (hm1:(ab,.cells 345 3 [.slice (some ⟨sb,0,none⟩) L.length L.length,zu ((u:Nat):Int),zu ((f:Nat):Int)])∈H) (hm2:(sb,.cells 377 (L.length*7) ((L).flatMap Q9))∈H):qB Tryz.prog w0 H 236 [zp ab,.agg (List.toArray (hdC h))] (Jg sb L h):=by
 cases qls L h with
 | is i s hi hs hus ho he hc hset=>exact qnQ hu hk hm1 hm2 hi hs hus ho he
 | lo hi he hc hset=>exact qnP hu hk hm1 hm2 hi he
 | hi hi he hc hset=>exact qnR hu hk hm1 hm2 hi he
 | un i s hi hs hus he hc hset=>exact qnN hu hk hm1 hm2 hi hs hus he
 | old i s hi hs hus ho he hc hset=>exact qnO hu hk hm1 hm2 hi hs hus ho he
end Go.Proofs.YtincjohoncljoaaGreatDoor
