/-
  Own work: contracts of functions that the statement reaches, and plain facts on what they compute; each theorem says its conditions.
-/
import Derived.Test.YtincjohoncljoaaGreatDoorLhT4
import Derived.Test.YtincjohoncljoaaGreatDoorLhT6
import Derived.Test.YtincjohoncljoaaGreatDoorLhS2
import Derived.Test.YtincjohoncljoaaGreatDoorLhA
set_option linter.all false
set_option linter.unusedSimpArgs false
set_option linter.unusedVariables false
set_option maxHeartbeats 16000000
namespace Go.Proofs.YtincjohoncljoaaGreatDoor
open Go Go.Sl
variable {n tb wb g1 g2 rb db i lb mb T z:Nat} {M:List (Option Nat × Bool)} {c:Option Nat × Bool} {m:Int} {w0:World} {H X:qe} {R:List (Int × Cnt)} {ms:List (Option (Xm × Bool))} {HM:List qe} {G:Gr}
attribute [local irreducible] W
def mcC (c:Option Nat × Bool):List Value:=[.pointer (c.1.map fun mb=>⟨mb,0,none⟩),.bool c.2]
theorem ZH (c:Option Nat × Bool):(mcC c).length=2:=rfl
def qD (n:Nat) (M:List (Option Nat × Bool)) (tb wb g1 g2 rb db:Nat):List Value:=zi ((n:Nat):Int)::(M.flatMap mcC++[zp tb,zp wb,zp g1,zp g2,zp rb,.map (some db)])
theorem qcq:(qD n M tb wb g1 g2 rb db).length=M.length*2+7:=by
 unfold qD; rw [List.length_cons,List.length_append,zg ZH]; rfl
theorem Qj {j:Nat} (h:M.length=4):(qD n M tb wb g1 g2 rb db)[9+j]?=[zp tb,zp wb,zp g1,zp g2,zp rb,Value.map (some db)][j]?:=by
 unfold qD
 rw [show 9+j=(8+j)+1 by omega,List.getElem?_cons_succ,List.getElem?_append_right (by rw [zg ZH,h]; omega),zg ZH,h,Nat.add_sub_cancel_left]
theorem qhv {j:Nat} (h:M[i]?=some c) (hj:j<2):(qD n M tb wb g1 g2 rb db)[1+i*2+j]?=(mcC c)[j]?:=by
 unfold qD
 rw [show 1+i*2+j=(i*2+j)+1 by omega,List.getElem?_cons_succ,List.getElem?_append_left (qaC ZH h hj),ZT ZH h hj]
theorem qhu {c':Option Nat × Bool} (h:i<M.length):zf (qD n M tb wb g1 g2 rb db) (1+i*2) (mcC c')=qD n (M.set i c') tb wb g1 g2 rb db:=by
 have e:=YE ZH (l:=M) c' h
 have hl:=zg ZH M
 unfold zf at e ⊢
 unfold qD
 rw [← e,show 1+i*2=(i*2)+1 by omega,List.take_succ_cons,show (i*2)+1+(mcC c').length=(i*2+(mcC c').length)+1 by omega,List.drop_succ_cons,List.take_append_of_le_length (by rw [hl]; omega),List.drop_append_of_le_length (by rw [hl,ZH]; omega)]
 simp only [List.cons_append,List.append_assoc]
structure Dye where
 key:Int
 h:Hd
 clk:Nat
def Dye.ent (e:Dye):Int × Value × Nat:=(e.key,.agg (List.toArray (hdC e.h)),e.clk)
def Dye.p (e:Dye):Int × Hd:=(e.key,e.h)
inductive DyH (db:Nat) (dy:List (Int × Hd)):qe→Prop
 | mk {E:List Dye} {cl:Nat} (hok:QH (E.map Dye.ent) cl) (he:E.map Dye.p=dy):DyH db dy [(db,.obj (qS (Value.int .i64) ((E).map Dye.ent) cl))]
inductive MpH (T:Nat):(Option Nat × Bool)→Option (Xm × Bool)→qe→Prop
 | none:MpH T (none,false) none []
 | some {mb:Nat} {x:Xm} {b:Bool} {X:qe} (h:XmH mb T x X):MpH T (some mb,b) (some (x,b)) X
structure YY (T:Nat) (M:List (Option Nat × Bool)) (ms:List (Option (Xm × Bool))) (HM:List qe):Prop where
 m4:M.length=4
 s4:ms.length=4
 h4:HM.length=4
 at_:∀ (k:Nat) c y X,M[k]?=some c→ms[k]?=some y→HM[k]?=some X→MpH T c y X
structure Lf where
 n:Nat
 ms:List (Option (Xm × Bool))
 Ws:List Wl
 Qt:List (Int × Int)
 Rt:List (Int × Int)
 At:List Jd
 Qw:List (Int × Int)
 Rw:List (Int × Int)
 Aw:List Qe
 on:List Int
 tr:Gr
 cl:Gr
 us:List (Int × Cnt)
 dy:List (Int × Hd)
structure Y5 (R:List (Int × Cnt)):Prop where
 rng:∀ p∈R,1≤p.2.n∧p.2.n≤8∧p.2.top=8∧0≤p.1∧p.1<16
 nd:(R.map (·.1)).Nodup
inductive zr (lb T:Nat) (F:Lf):qe→Prop
 | mk {tb wb g1 g2 rb db:Nat} {M:List (Option Nat × Bool)} {HT HW H1 H2 HR HD:qe} {HM:List qe}
  (hT:J8 tb F.n F.Ws F.Qt F.Rt F.At HT) (hO:TOk T F.Ws F.At) (hW:J5 wb F.n F.Qw F.Rw F.Aw F.on HW)
  (h1:GrH g1 F.n F.tr H1) (o1:z9 F.n F.tr) (h2:GrH g2 F.n F.cl H2) (o2:z9 F.n F.cl)
  (hR:Y6 rb 8 F.us HR) (hU:Y5 F.us) (hD:DyH db F.dy HD) (hM:YY T M F.ms HM) :
  zr lb T F ((lb,.cells 134 15 (qD F.n M tb wb g1 g2 rb db))::(HT++(HW++(H1++(H2++(HR++(HD++HM.flatten)))))))
def qa7 (M:List (Option Nat × Bool)) (m:Int):Value:=.pointer (if 0≤m∧m<4 then (M.getD m.toNat (none,false)).1.map (fun mb=>(⟨mb,0,none⟩:Addr)) else none)
theorem qcm (hi:i<4) (h:M[i]?=some c):qa7 M (i:Int)=.pointer (c.1.map fun mb=>⟨mb,0,none⟩):=by
 unfold qa7; rw [if_pos (by omega),show ((i:Nat):Int).toNat=i by omega,List.getD_eq_getElem?_getD,h]; rfl
theorem qa6 (h:¬ (0≤m∧m<4)):qa7 M m=.pointer none:=by unfold qa7; rw [if_neg h]
theorem qkM (hm:(lb,.cells 134 15 (qD n M tb wb g1 g2 rb db))∈H) (hM4:M.length=4) (h:m<0) :qG Tryz.prog w0 H 29 [zp lb,zi m] (qa7 M m):=by
 refine qd Tryz.func29 rfl Tryz.ntmps29 rfl rfl (za 6 rfl ?_)
 refine W_x (qE rfl rfl Ke) (fun _ h=>by cases h) rfl ?_
 refine za 5 rfl ?_
 first | rw [decide_eq_true (by omega)] | rw [decide_eq_false (by omega)]
 refine za 10 rfl ?_
 refine qj (H2:=H) Tryz.results29 rfl (.nil _) zH ?_
 rw [qa6 (by omega)]
 exact ⟨rfl,rfl⟩
theorem qkO (hm:(lb,.cells 134 15 (qD n M tb wb g1 g2 rb db))∈H) (hM4:M.length=4) (h:4≤m) :qG Tryz.prog w0 H 29 [zp lb,zi m] (qa7 M m):=by
 refine qd Tryz.func29 rfl Tryz.ntmps29 rfl rfl (za 6 rfl ?_)
 refine W_x (qE rfl rfl Ke) (fun _ h=>by cases h) rfl ?_
 refine za 5 rfl ?_
 first | rw [decide_eq_true (by omega)] | rw [decide_eq_false (by omega)]
 refine za 6 rfl ?_
 first | rw [decide_eq_true (by omega)] | rw [decide_eq_false (by omega)]
 refine za 6 rfl ?_
 refine qj (H2:=H) Tryz.results29 rfl (.nil _) zH ?_
 rw [qa6 (by omega)]
 exact ⟨rfl,rfl⟩
theorem qkN (hm:(lb,.cells 134 15 (qD n M tb wb g1 g2 rb db))∈H) (hM4:M.length=4) (hi:i<4) (hc:M[i]?=some c) :qG Tryz.prog w0 H 29 [zp lb,zi (i:Int)] (.pointer (c.1.map fun mb=>⟨mb,0,none⟩)):=by
 refine qd Tryz.func29 rfl Tryz.ntmps29 rfl rfl (za 6 rfl ?_)
 refine W_x (qE rfl rfl Ke) (fun _ h=>by cases h) rfl ?_
 refine za 5 rfl ?_
 first | rw [decide_eq_true (by omega)] | rw [decide_eq_false (by omega)]
 refine za 6 rfl ?_
 first | rw [decide_eq_true (by omega)] | rw [decide_eq_false (by omega)]
 refine za 9 rfl ?_
 refine zh (j:=i) rfl rfl qaS Yy (by first | rfl | omega) (by first | decide | omega | simp) rfl rfl ?_
 refine za 1 rfl ?_
 refine qf (v:=.pointer (c.1.map fun mb=>⟨mb,0,none⟩)) rfl Ya rfl (qh.own (b:=lb) hm (qhv (j:=0) hc zd)) rfl ?_
 refine za 2 rfl ?_
 refine qj (H2:=H) Tryz.results29 rfl (.nil _) zH ?_
 exact ⟨rfl,rfl⟩
theorem qek (hm:(lb,.cells 134 15 (qD n M tb wb g1 g2 rb db))∈H) (hM4:M.length=4) :qG Tryz.prog w0 H 29 [zp lb,zi m] (qa7 M m):=by
 by_cases h0:m<0
 ·exact qkM hm hM4 h0
 ·by_cases h1:4≤m
  ·exact qkO hm hM4 h1
  ·obtain ⟨i,rfl⟩:∃ i:Nat,m=(i:Int):=⟨m.toNat,by omega⟩
   obtain ⟨c,hc⟩:∃ c,M[i]?=some c:=⟨_,List.getElem?_eq_getElem zO⟩
   rw [qcm (by omega) hc]
   exact qkN hm hM4 zO hc
theorem Kq (hm:(lb,.cells 134 15 (qD n M tb wb g1 g2 rb db))∈H) (hM4:M.length=4) {f:Value} (hno:qa7 M m=.pointer none) :qG Tryz.prog w0 H 59 [zp lb,zi m,f] (zi 4):=by
 refine qd Tryz.func59 rfl Tryz.ntmps59 rfl rfl (za 6 rfl ?_)
 refine qB (zc2 rfl rfl) Tryz.call29 rfl (qek (m:=m) hm hM4) ?_
 rw [hno]
 refine za 6 rfl ?_
 refine W_x (qE rfl rfl Ke) (fun _ h=>by cases h) rfl ?_
 refine za 5 rfl ?_
 refine W_x (qE rfl rfl Ya) (fun _ h=>by cases h) rfl ?_
 refine za 6 rfl ?_
 refine qj (H2:=H) Tryz.results59 rfl (.nil _) zH ?_
 exact ⟨rfl,rfl⟩
theorem Kr (hm:(lb,.cells 134 15 (qD n M tb wb g1 g2 rb db))∈H) (hM4:M.length=4) {fi:Nat} {ca:List Value} {R:Value→qe→Prop} (hfi:∀ (args:Array Value) (w:World),(callFunc fi args).run Tryz.prog w=.ok (.enter fi args) w) (hy:qa7 M m=zp mb) (hdo:qk Tryz.prog w0 fi (#[]++#[zp mb]++ca.toArray) H R) (hE:∀ v H2,R v H2→∃ e,v=zi e) :qk Tryz.prog w0 59 #[zp lb,zi m,Value.func (.func fi) #[] ca.toArray] (H) (R):=by
 refine qd (l:=[zp lb,zi m,Value.func (.func fi) #[] ca.toArray]) Tryz.func59 rfl Tryz.ntmps59 rfl rfl ?_
 refine za 6 rfl ?_
 refine qB (zc2 rfl rfl) Tryz.call29 rfl (qek (m:=m) hm hM4) ?_
 rw [hy]
 refine za 6 rfl ?_
 refine W_x (qE rfl rfl Ke) (fun _ h=>by cases h) rfl ?_
 refine za 5 rfl ?_
 refine W_x (qE rfl rfl Ya) (fun _ h=>by cases h) rfl ?_
 refine za 8 rfl ?_
 refine JR (fa:=#[]) (ca:=ca.toArray) rfl (.cons rfl .nil) hfi rfl (hdo) ?_
 rintro v H' hR
 refine za 2 rfl ?_
 refine qj (H2:=H') Tryz.results59 rfl (.nil _) zH ?_
 exact hR
theorem qhA (hm:(lb,.cells 134 15 (qD n M tb wb g1 g2 rb db))∈H) (hM4:M.length=4) :qG Tryz.prog w0 H 10 [zp lb] (zp g1):=by
 refine qd Tryz.func10 rfl Tryz.ntmps10 rfl rfl (za 6 rfl ?_)
 refine W_x (qE rfl rfl Ke) (fun _ h=>by cases h) rfl ?_
 refine za 7 rfl ?_
 refine qf (v:=zp g1) rfl XC rfl (qh.own (b:=lb) hm (Qj (j:=2) hM4)) rfl ?_
 refine za 2 rfl ?_
 refine qj (H2:=H) Tryz.results10 rfl (.nil _) zH ?_
 exact ⟨rfl,rfl⟩
theorem qel (hm:(lb,.cells 134 15 (qD n M tb wb g1 g2 rb db))∈H) (hM4:M.length=4) :qG Tryz.prog w0 H 11 [zp lb] (zp g2):=by
 refine qd Tryz.func11 rfl Tryz.ntmps11 rfl rfl (za 6 rfl ?_)
 refine W_x (qE rfl rfl Ke) (fun _ h=>by cases h) rfl ?_
 refine za 7 rfl ?_
 refine qf (v:=zp g2) rfl XC rfl (qh.own (b:=lb) hm (Qj (j:=3) hM4)) rfl ?_
 refine za 2 rfl ?_
 refine qj (H2:=H) Tryz.results11 rfl (.nil _) zH ?_
 exact ⟨rfl,rfl⟩
theorem lf_ld (h:M[i]?=some c):((qD n M tb wb g1 g2 rb db).drop (1+i*2)).take 2=mcC c:=by
 apply List.ext_getElem?
 intro j
 by_cases q:j<2
 ·rw [List.getElem?_take,if_pos q,List.getElem?_drop,qhv h q]
 ·rw [List.getElem?_eq_none (by rw [List.length_take]; omega),List.getElem?_eq_none (by rw [ZH]; omega)]
theorem mk1_n {mb:Nat} {b:Bool}:qG Tryz.prog w0 H 83 [.agg (List.toArray (mcC (none,b)))] (.bool true):=by
 refine qd Tryz.func83 rfl Tryz.ntmps83 rfl rfl (zo ?_)
 refine qR (l:=mcC (none,b)) rfl rfl rfl (fun b1=>?_)
 refine za 4 rfl ?_
 refine qf (v:=.pointer none) rfl Ya rfl (qh.own (b:=b1) zM rfl) rfl ?_
 refine W_x (qE rfl rfl Ya) (fun _ h=>by cases h) rfl ?_
 refine za 2 rfl ?_
 refine qj (H2:=H) Tryz.results83 rfl (.nil _) zH ?_
 exact ⟨rfl,rfl⟩
theorem mk1_s {b:Bool}:qG Tryz.prog w0 H 83 [.agg (List.toArray (mcC (some mb,b)))] (.bool false):=by
 refine qd Tryz.func83 rfl Tryz.ntmps83 rfl rfl (zo ?_)
 refine qR (l:=mcC (some mb,b)) rfl rfl rfl (fun b1=>?_)
 refine za 4 rfl ?_
 refine qf (v:=zp mb) rfl Ya rfl (qh.own (b:=b1) zM rfl) rfl ?_
 refine W_x (qE rfl rfl Ya) (fun _ h=>by cases h) rfl ?_
 refine za 2 rfl ?_
 refine qj (H2:=H) Tryz.results83 rfl (.nil _) zH ?_
 exact ⟨rfl,rfl⟩
theorem mk1_q:qG Tryz.prog w0 H 83 [.agg (List.toArray (mcC c))] (.bool c.1.isNone):=by
 obtain ⟨c1,c2⟩:=c
 cases c1 with
 | none=>exact mk1_n (mb:=0)
 | some mb=>exact mk1_s
theorem qhB (hm:(lb,.cells 134 15 (qD n M tb wb g1 g2 rb db))∈H) (hM4:M.length=4) :qk Tryz.prog w0 82 #[.slice (some ⟨lb,1,none⟩) 4 4,.func (.func 83) #[] #[]] (H) (fun v H'=>∃ z:Int,v=zi z∧((∃ (i:Nat) (c:Option Nat × Bool),z=i∧M[i]?=some c∧c.1.isNone=true∧∀ j:Nat,j<i→∀ d,M[j]?=some d→d.1.isNone=false)∨(z=-1∧∀ j:Nat,j<4→∀ d,M[j]?=some d→d.1.isNone=false))∧H'=H):=by
 refine qd (l:=[.slice (some ⟨lb,1,none⟩) 4 4,.func (.func 83) #[] #[]]) Tryz.func82 rfl Tryz.ntmps82 rfl rfl ?_
 refine za 6 rfl (zY rfl qlY rfl rfl (za 3 rfl ?_))
 refine qV (X:=Nat) [(0,_),(1,_),(7,_)] (fun (i:Nat)=>[(8,zi (i:Int))]) (fun _=>_) (fun (i:Nat)=>H) (fun (i:Nat)=>i≤4∧∀ j:Nat,j<i→∀ d,M[j]?=some d→d.1.isNone=false) (fun (i:Nat)=>4-i) 0 ⟨Nat.zero_le _,fun j hj=>absurd hj (Nat.not_lt_zero _)⟩ (qc rfl (qc rfl (qc rfl (qi _)))) (qc rfl (qi _)) rfl zH ?_
 rintro i ⟨hi,hn⟩
 simp only [List.cons_append,List.nil_append]
 refine za 4 rfl ?_
 refine qq (p:=i<4) rfl (by rw [decide_eq_true_eq]; omega) (fun q0=>?_) (fun q0=>?_)
 ·skip
  refine za 8 rfl ?_
  obtain ⟨c,hc⟩:∃ c,M[i]?=some c:=⟨_,List.getElem?_eq_getElem zO⟩
  refine za 3 rfl ?_
  refine qN (j:=i) rfl rfl qlY Yy rfl zO rfl rfl ?_
  refine qK (vs:=mcC c) rfl Yy rfl (b:=lb) hm (by rw [Nat.ble_eq,qcq]; omega) (lf_ld hc) rfl ?_
  refine YI (fa:=[]) (ca:=[]) rfl (.cons rfl .nil) rfl Tryz.call83 rfl (mk1_q (c:=c)) ?_
  refine qs ?_
  refine qq (p:=c.1.isNone=true) rfl .rfl (fun q1=>?_) (fun q1=>?_)
  ·skip
   refine za 4 rfl (qj Tryz.results82 rfl (.nil _) (.refl _) ?_)
   exact ⟨i,rfl,.inl ⟨i,c,rfl,hc,q1,hn⟩,rfl⟩
  ·skip
   refine za 3 rfl ?_
   refine qF rfl rfl (qM (m:=((i+1:Nat):Int)) ((qW zO).trans zO)) rfl ?_
   refine za 2 rfl ?_
   refine qI (i+1) ⟨by omega,fun j hj d hd=>by
     by_cases e:j=i
     ·subst e; rw [hc] at hd; cases hd; exact eq_false_of_ne_true q1
     ·exact hn j zO d hd⟩ zO (qc rfl (qc rfl (qc rfl (qc rfl (qi _))))) rfl zH
 ·skip
  refine za 4 rfl (qj Tryz.results82 rfl (.nil _) (.refl _) ?_)
  obtain rfl:i=4:=by omega
  exact ⟨-1,rfl,.inr ⟨rfl,hn⟩,rfl⟩
theorem MpH.none_iff {y:Option (Xm × Bool)} (h:MpH T c y X):c.1.isNone=y.isNone:=by cases h <;> rfl
def frM (ms:List (Option (Xm × Bool))):Option Nat:=ms.findIdx? (fun y=>y.isNone)
theorem YY.free (h:YY T M ms HM) (hc:M[i]?=some c) (h1:c.1.isNone=true) (hj:∀ j:Nat,j<i→∀ d,M[j]?=some d→d.1.isNone=false):frM ms=some i:=by
 have hi:=(List.getElem?_eq_some_iff.1 hc).1
 have hm4:=h.m4; have hs4:=h.s4; have hh4:=h.h4
 have key:∀ j:Nat,j<4→∃ d y,M[j]?=some d∧ms[j]?=some y∧d.1.isNone=y.isNone:=fun j hj=>by
  have e1:=List.getElem?_eq_getElem (l:=M) (i:=j) zO
  have e2:=List.getElem?_eq_getElem (l:=ms) (i:=j) zO
  have e3:=List.getElem?_eq_getElem (l:=HM) (i:=j) zO
  exact ⟨_,_,e1,e2,(h.at_ j _ _ _ e1 e2 e3).none_iff⟩
 unfold frM
 rw [List.findIdx?_eq_some_iff_getElem]
 obtain ⟨d,y,e1,e2,e3⟩:=key i zO
 refine ⟨by omega,?_,fun j hji=>?_⟩
 ·rw [hc] at e1; cases e1
  rw [(List.getElem?_eq_some_iff.1 e2).2,← e3]; exact h1
 ·obtain ⟨d2,y2,f1,f2,f3⟩:=key j zO
  rw [(List.getElem?_eq_some_iff.1 f2).2,← f3,hj j hji d2 f1]; decide
theorem YY.full (h:YY T M ms HM) (hj:∀ j:Nat,j<4→∀ d,M[j]?=some d→d.1.isNone=false):frM ms=none:=by
 have hm4:=h.m4; have hs4:=h.s4; have hh4:=h.h4
 unfold frM
 rw [List.findIdx?_eq_none_iff]
 intro y hy
 obtain ⟨j,hjl,e⟩:=List.getElem_of_mem hy
 have e1:=List.getElem?_eq_getElem (l:=M) (i:=j) zO
 have e2:ms[j]?=some y:=by rw [List.getElem?_eq_getElem hjl,e]
 have e3:=List.getElem?_eq_getElem (l:=HM) (i:=j) zO
 rw [← (h.at_ j _ _ _ e1 e2 e3).none_iff]
 exact hj j zO _ e1
theorem YY.nilAt (h:YY T M ms HM) (hc:M[i]?=some c) (h1:c.1.isNone=true):HM[i]?=some []:=by
 have hi:=(List.getElem?_eq_some_iff.1 hc).1
 have hm4:=h.m4; have hs4:=h.s4; have hh4:=h.h4
 obtain ⟨y,e2⟩:∃ y,ms[i]?=some y:=⟨_,List.getElem?_eq_getElem zO⟩
 obtain ⟨X,e3⟩:∃ X,HM[i]?=some X:=⟨_,List.getElem?_eq_getElem zO⟩
 have h5:=h.at_ i c y X hc e2 e3
 cases h5 with
 | none=>exact e3
 | some _=>cases h1
theorem qeu (h:HM[i]?=some []):qr (X++(HM.flatten++H)) ((HM.set i X).flatten++H):=by
 have hi:=(List.getElem?_eq_some_iff.1 h).1
 have eS:HM.set i []=HM:=by
  apply List.ext_getElem?
  intro j
  by_cases q:i=j
  ·subst q; rw [List.getElem?_set_self hi,h]
  ·rw [List.getElem?_set_ne q]
 have:=Zb (XS:=HM) (k:=i) (B:=X) (H:=H) hi
 rwa [eS] at this
theorem YY.set (h:YY T M ms HM) {k:Nat} {y:Option (Xm × Bool)} (hp:MpH T c y X):YY T (M.set k c) (ms.set k y) (HM.set k X):=by
 refine ⟨by rw [List.length_set,h.m4],by rw [List.length_set,h.s4],by rw [List.length_set,h.h4],fun j c2 y2 X2 e1 e2 e3=>?_⟩
 have hm4:=h.m4; have hs4:=h.s4; have hh4:=h.h4
 by_cases q:k=j
 ·subst q
  have hk:k<M.length:=by have:=(List.getElem?_eq_some_iff.1 e1).1; rwa [List.length_set] at this
  rw [List.getElem?_set_self hk] at e1
  rw [List.getElem?_set_self (by omega)] at e2 e3
  cases e1; cases e2; cases e3; exact hp
 ·rw [List.getElem?_set_ne q] at e1 e2 e3
  exact h.at_ j c2 y2 X2 e1 e2 e3
theorem YY.up {T':Nat} (h:YY T M ms HM) (hl:T≤T'):YY T' M ms HM:=⟨h.m4,h.s4,h.h4,fun k c y X e1 e2 e3=>by
 cases h.at_ k c y X e1 e2 e3 with
 | none=>exact .none
 | some hx=>exact .some (hx.up hl)⟩
theorem qdq {HF:qe} {F:Lf} (hF:zr lb T F HF) {kind entries words:Nat} (hk1:kind≤2) (hk2:1≤entries∧entries≤8) (hk3:1≤words∧words≤4) (hT8:8≤T) (hT0:Tab w0):qk Tryz.prog w0 25 #[zp lb,.int .i64 (kind:Int),.int .i64 (entries:Int),.int .i64 (words:Int)] (HF++H) (fun v H'=>∃ HF',(match frM F.ms with | none=>zr lb T F HF'∧v=.tuple #[.int .i64 0,.int .i64 3] | some k=>zr lb T { F with ms:=F.ms.set k (some (Xm.new kind entries words,false)) } HF'∧v=.tuple #[.int .i64 (k:Int),.int .i64 0])∧H'=HF'++H):=by
 cases hF with
 | @mk tb wb g1 g2 rb db M HT HW H1 H2 HR HD HM hT hO hW h1 o1 h2 o2 hR hU hD hM =>
 have e0:((lb,.cells 134 15 (qD F.n M tb wb g1 g2 rb db))::(HT++(HW++(H1++(H2++(HR++(HD++HM.flatten)))))))++H=(lb,.cells 134 15 (qD F.n M tb wb g1 g2 rb db))::(HT++(HW++(H1++(H2++(HR++(HD++(HM.flatten++H))))))):=by simp only [List.cons_append,List.append_assoc]
 rw [e0]
 refine qd (l:=[zp lb,zi (kind:Int),zi (entries:Int),zi (words:Int)]) Tryz.func25 rfl Tryz.ntmps25 rfl rfl ?_
 refine za 7 rfl ?_
 refine W_x (qE rfl rfl Ke) (fun _ h=>by cases h) rfl ?_
 refine za 7 rfl (qn (zc3 rfl rfl rfl) Tryz.call81 rfl (XmH.new hT0 hk1 hk2 hk3) ?_)
 rintro v H' ⟨mb,HX,hX,rfl,rfl⟩
 refine za 17 rfl ?_
 refine W_x (qbz (l:=0) (hh:=4) rfl qaS Yy rfl rfl zd zd zd) (fun _ h=>by cases h) rfl ?_
 refine qn (zc2 rfl rfl) Tryz.call82 rfl ((qhB (n:=F.n) (M:=M) (lb:=lb) (tb:=tb) (wb:=wb) (g1:=g1) (g2:=g2) (rb:=rb) (db:=db) zM hM.m4 (H:=HX++((lb,.cells 134 15 (qD F.n M tb wb g1 g2 rb db))::(HT++(HW++(H1++(H2++(HR++(HD++(HM.flatten++H))))))))))) ?_
 rintro v H' ⟨z,rfl,hz,rfl⟩
 rcases hz with ⟨i,c,rfl,hc,hcn,hcj⟩ | ⟨rfl,hcj⟩
 ·skip
  have hi4:i<4:=by have:=(List.getElem?_eq_some_iff.1 hc).1; rw [hM.m4] at this; exact this
  refine za 7 rfl (QM rfl (decide_eq_false zO) (za 5 rfl ?_))
  refine zb (l:=mcC (some mb,false)) Yy ql6 (.cons rfl rfl rfl rfl rfl .nil) rfl rfl rfl ?_
  refine za 2 rfl ?_
  refine zh (j:=i) rfl rfl qaS Yy (by first | rfl | omega) (by first | decide | omega | simp) rfl rfl ?_
  refine qp (l':=qD F.n (M.set i (some mb,false)) tb wb g1 g2 rb db) rfl rfl Yy rfl rfl (b:=lb) zM (by rw [qcq,hM.m4]; omega) (qhu (c':=(some mb,false)) (by rw [hM.m4]; exact hi4)) zU ?_
  refine za 2 rfl ?_
  refine qT (H':=(lb,.cells 134 15 (qD F.n (M.set i (some mb,false)) tb wb g1 g2 rb db))::(HT++(HW++(H1++(H2++(HR++(HD++((HM.set i HX).flatten++H)))))))) ((show qr _ ((lb,.cells 134 15 (qD F.n (M.set i (some mb,false)) tb wb g1 g2 rb db))::(HT++(HW++(H1++(H2++(HR++(HD++(HX++(HM.flatten++H))))))))) from zH).trans (.cons (.here _) (.app (.here _) (.app (.here _) (.app (.here _) (.app (.here _) (.app (.here _) (.app (.here _) (qeu (hM.nilAt hc hcn)))))))))) ?_
  refine za 4 rfl ?_
  refine qP (H2:=(lb,.cells 134 15 (qD F.n (M.set i (some mb,false)) tb wb g1 g2 rb db))::(HT++(HW++(H1++(H2++(HR++(HD++((HM.set i HX).flatten++H)))))))) Tryz.results25 rfl rfl (.nil _) zH ?_
  rw [hM.free hc hcn hcj]
  exact ⟨_,⟨.mk hT hO hW h1 o1 h2 o2 hR hU hD (hM.set (.some (hX.up hT8))),rfl⟩,by simp only [List.cons_append,List.append_assoc]⟩
 ·skip
  refine za 12 rfl ?_
  refine qP (H2:=(lb,.cells 134 15 (qD F.n M tb wb g1 g2 rb db))::(HT++(HW++(H1++(H2++(HR++(HD++(HM.flatten++H)))))))) Tryz.results25 rfl rfl (.nil _) zH ?_
  rw [hM.full hcj]
  exact ⟨_,⟨.mk hT hO hW h1 o1 h2 o2 hR hU hD hM,rfl⟩,by simp only [List.cons_append,List.append_assoc]⟩
def lf0 (n:Nat) (Ws:List Wl):Lf:=⟨n,[none,none,none,none],Ws,[],[],List.replicate 256 QK,[],[],List.replicate 256 Ze,List.replicate 32 0,gr0 n,gr0 n,[],[]⟩
theorem qhG (h:1≤n∧n≤64):z9 n (gr0 n):=⟨Zw.start,by omega,fun l b p e=>(by cases e),Int.le_refl 0,(by show (0:Int)≤0∧(0:Int)≤1000000000; decide),(by show (0:Int)≤1000000000; decide)⟩
theorem us0:Y5 []:=⟨fun p hp=>(by cases hp),List.nodup_nil⟩
theorem ms0 (T:Nat):YY T [(none,false),(none,false),(none,false),(none,false)] [none,none,none,none] [[],[],[],[]]:=⟨rfl,rfl,rfl,fun k c y X e1 e2 e3=>by
 have hk:=(List.getElem?_eq_some_iff.1 e1).1
 have:k=0∨k=1∨k=2∨k=3:=by simp at hk; omega
 rcases this with rfl | rfl | rfl | rfl <;> (cases e1; cases e2; cases e3; exact .none)⟩
set_option maxRecDepth 100000
theorem qeX {now:Nat} (hn:1≤n∧n≤64) (hnow:now≤18446744073709551615) :qk Tryz.prog w0 38 #[zi (n:Int),zu ((now:Nat):Int)] (H) (fun v H'=>∃ lb Ws HF,v=.tuple #[zp lb,zi 0]∧zr lb 8 (lf0 n Ws) HF∧Ws.length=n∧(∀ w∈Ws,XY now w)∧H'=HF++H):=by
 refine qd (l:=[zi (n:Int),zu ((now:Nat):Int)]) Tryz.func38 rfl Tryz.ntmps38 rfl rfl ?_
 refine za 7 rfl ?_
 refine qn (zc2 rfl rfl) Tryz.call105 rfl (qka (now:=now) hn) ?_
 rintro v H' ⟨tb,Ws,HT,rfl,hT,hWl,hfr,rfl⟩
 refine za 16 rfl ?_
 refine Xz (kf:=(Value.int .i64)) rfl (fun b20=>?_)
 refine zb (l:=[zi ((n:Nat):Int),.pointer none,.bool false,.pointer none,.bool false,.pointer none,.bool false,.pointer none,.bool false,zp tb,.pointer none,.pointer none,.pointer none,.pointer none,.map (some b20)]) ty134 pl134 (.cons rfl rfl rfl rfl rfl (.cons rfl rfl rfl rfl rfl (.cons rfl rfl rfl rfl rfl .nil))) rfl rfl rfl ?_
 refine qR (l:=[zi ((n:Nat):Int),.pointer none,.bool false,.pointer none,.bool false,.pointer none,.bool false,.pointer none,.bool false,zp tb,.pointer none,.pointer none,.pointer none,.pointer none,.map (some b20)]) rfl rfl rfl (fun b22=>?_)
 refine za 5 rfl (qn (zc1 rfl) Tryz.call106 rfl (qml hn) ?_)
 rintro v H' ⟨wb,HW,rfl,hW,rfl⟩
 refine za 5 rfl ?_
 refine qy (l':=[zi ((n:Nat):Int),.pointer none,.bool false,.pointer none,.bool false,.pointer none,.bool false,.pointer none,.bool false,zp tb,zp wb,.pointer none,.pointer none,.pointer none,.map (some b20)]) rfl rfl Yp rfl rfl (b:=b22) zM rfl rfl zU ?_
 refine za 4 rfl (qn (zc1 rfl) Tryz.call107 rfl (qhM hn) ?_)
 rintro v H' ⟨g1,H1_,rfl,hg1,rfl⟩
 refine za 5 rfl ?_
 refine qy (l':=[zi ((n:Nat):Int),.pointer none,.bool false,.pointer none,.bool false,.pointer none,.bool false,.pointer none,.bool false,zp tb,zp wb,zp g1,.pointer none,.pointer none,.map (some b20)]) rfl rfl XC rfl rfl (b:=b22) zM rfl rfl zU ?_
 refine za 4 rfl (qn (zc1 rfl) Tryz.call107 rfl (qhM hn) ?_)
 rintro v H' ⟨g2,H2_,rfl,hg2,rfl⟩
 refine za 5 rfl ?_
 refine qy (l':=[zi ((n:Nat):Int),.pointer none,.bool false,.pointer none,.bool false,.pointer none,.bool false,.pointer none,.bool false,zp tb,zp wb,zp g1,zp g2,.pointer none,.map (some b20)]) rfl rfl XC rfl rfl (b:=b22) zM rfl rfl zU ?_
 refine za 3 rfl ?_
 refine qn (zc1 rfl) Tryz.call108 rfl (qg8 (top:=8) zd) ?_
 rintro v H' ⟨rb,HR,hR,rfl,rfl⟩
 refine za 5 rfl ?_
 refine qy (l':=[zi ((n:Nat):Int),.pointer none,.bool false,.pointer none,.bool false,.pointer none,.bool false,.pointer none,.bool false,zp tb,zp wb,zp g1,zp g2,zp rb,.map (some b20)]) rfl rfl qai rfl rfl (b:=b22) zM rfl rfl zU ?_
 refine za 6 rfl ?_
 refine qP (H2:=(b22,.cells 134 15 [zi ((n:Nat):Int),.pointer none,.bool false,.pointer none,.bool false,.pointer none,.bool false,.pointer none,.bool false,zp tb,zp wb,zp g1,zp g2,zp rb,.map (some b20)])::(HT++(HW++(H1_++(H2_++(HR++((b20,.obj (qS (Value.int .i64) [] 0))::H))))))) Tryz.results38 rfl rfl (.nil _) zH ?_
 exact ⟨b22,Ws,(b22,.cells 134 15 [zi ((n:Nat):Int),.pointer none,.bool false,.pointer none,.bool false,.pointer none,.bool false,.pointer none,.bool false,zp tb,zp wb,zp g1,zp g2,zp rb,.map (some b20)])::(HT++(HW++(H1_++(H2_++(HR++([(b20,.obj (qS (Value.int .i64) [] 0))]++([[],[],[],[]]:List qe).flatten)))))),rfl,.mk (F:=lf0 n Ws) hT ((tok0 hnow hfr).up (Nat.zero_le _)) hW hg1 (qhG hn) hg2 (qhG hn) hR us0 (.mk (E:=[]) (QH.nil 0) rfl) (ms0 8),hWl,hfr,by simp only [List.cons_append,List.append_assoc]; rfl⟩
theorem Y5.cnt (h:Y5 R):∀ p∈R,0≤p.2.n∧p.2.n≤65535:=fun p hp=>by have:=h.rng p hp; omega
theorem qhJ {k:Int} {c:Cnt} (h:qfU R k=some c):(k,c)∈R:=by
 unfold qfU at h
 obtain ⟨q,hq,rfl⟩:=Option.map_eq_some_iff.1 h
 have h1:k=q.1:=by simpa using List.find?_some hq
 subst h1
 exact List.mem_of_find?_eq_some hq
theorem qfw (R:List (Int × Cnt)) (k:Int) (c:Cnt):(qd5 R k c).map (·.1)=R.map (·.1):=by
 unfold qd5; rw [List.map_map]
 exact List.map_congr_left fun q _=>by show (if k=q.1 then (q.1,c) else q).1=q.1; split <;> rfl
theorem Y5.setc (h:Y5 R) {k:Int} {c:Cnt} (hc:1≤c.n∧c.n≤8∧c.top=8):Y5 (qd5 R k c):=⟨fun p hp=>by
 obtain ⟨q,hq,rfl⟩:=List.mem_map.1 hp
 have:=h.rng q hq
 show 1≤(if k=q.1 then (q.1,c) else q).2.n∧_
 split
 ·exact ⟨hc.1,hc.2.1,hc.2.2,this.2.2.2⟩
 ·exact this,by rw [qfw]; exact h.nd⟩
theorem Y5.drop (h:Y5 R) (k:Int):Y5 (Jn R k).1:=by
 unfold Jn
 cases hg:qfU R k with
 | none=>exact h
 | some c =>
  have hc:=h.rng _ (qhJ hg)
  dsimp only at hc ⊢
  split
  ·exact ⟨fun p hp=>h.rng p (List.mem_filter.1 hp).1,h.nd.sublist (List.filter_sublist.map _)⟩
  ·rename_i hl
   refine h.setc ?_
   unfold Q5 at hl ⊢
   split
   ·omega
   ·split
    ·exact ⟨hc.1,hc.2.1,hc.2.2.1⟩
    ·rename_i c0 c1
     rw [if_neg c0,if_neg c1] at hl
     simp at hl
     exact ⟨by show 1≤c.n-1; omega,by show c.n-1≤8; omega,hc.2.2.1⟩
theorem J5.prog {HB:qe} {Q Rs:List (Int × Int)} {As:List Qe} {on:List Int} (h:J5 wb n Q Rs As on HB) (hs:∀ p∈HB,p∈H) {id:Int}:qG Tryz.prog w0 H 73 [zp wb,zi id] (.tuple #[zi (max ((ofW As id).prog-1) 0),.bool (decide (0<(ofW As id).prog))]):=by
 cases h with
 | mk hP hA hn=>exact qj2 hA (hs _ List.mem_cons_self)
attribute [local irreducible] Qb
def XJ (dy:List (Int × Hd)) (z:Int) (h:Hd):List (Int × Hd):=if dy.any (fun p=>decide (z=p.1))=true then dy.map (fun p=>if z=p.1 then (p.1,h) else p) else dy++[(z,h)]
def zV (G:Gr) (n:Nat) (z:Nat):Gr:=match G.Q[z%n]? with
 | some q=>{ G with Q:=G.Q.set (z%n) (qdM q (z:Int)) }
 | none=>G
def qdF (F:Lf) (z:Nat) (h:Hd):Lf:={ F with
 Ws:=(Qb F.Ws F.Qt F.At [(z:Int)]).1,Qt:=(Qb F.Ws F.Qt F.At [(z:Int)]).2.1,At:=(Qb F.Ws F.Qt F.At [(z:Int)]).2.2.1,
 Qw:=ZL F.Qw (z:Int),Aw:=F.Aw.set z { ofW F.Aw (z:Int) with shut:=true },dy:=XJ F.dy (z:Int) h,tr:=zV F.tr F.n z }
theorem z9.call (h:z9 n G) (z:Nat):z9 n (zV G n z):=by
 unfold zV
 split
 ·exact ⟨h.sok,h.n,h.left,h.last,h.beg,h.st⟩
 ·exact h
theorem qmY (E:List Dye) (z:Int):Jz (E.map Dye.ent) z=(E.map Dye.p).any (fun p=>decide (z=p.1)):=by
 unfold Jz
 rw [List.any_map,List.any_map]; rfl
theorem qmX (E:List Dye) (cl:Nat) (z:Int) (h:Hd):∃ E':List Dye,KY (E.map Dye.ent) cl z (.agg (List.toArray (hdC h)))=E'.map Dye.ent∧E'.map Dye.p=XJ (E.map Dye.p) z h:=by
 unfold KY XJ
 rw [qmY]
 cases hh:(E.map Dye.p).any (fun p=>decide (z=p.1)) with
 | true =>
  rw [if_pos rfl,if_pos rfl]
  refine ⟨E.map (fun e=>if z=e.key then { e with h:=h } else e),?_,?_⟩
  ·rw [List.map_map,List.map_map]
   exact List.map_congr_left fun e _=>by show (if z=e.key then _ else _)=Dye.ent (if z=e.key then _ else e); split <;> rfl
  ·rw [List.map_map,List.map_map]
   exact List.map_congr_left fun e _=>by show Dye.p (if z=e.key then _ else e)=(if z=e.key then _ else _); split <;> rfl
 | false =>
  rw [if_neg (by decide),if_neg (by decide)]
  exact ⟨E++[⟨z,h,cl⟩],by rw [List.map_append]; rfl,by rw [List.map_append]; rfl⟩
theorem J5.shut {HB:qe} {Q Rs:List (Int × Int)} {As:List Qe} {on:List Int} (h:J5 wb n Q Rs As on HB) (hz:z<256) {ad:Option Addr} {cap:Nat} (hrow:∀ HZ:qe,Holds w0 (HZ++H) ad [zi (z:Int)]):qk Tryz.prog w0 151 #[zp wb,.slice ad 1 cap] (HB++H) (fun v H'=>∃ HB',J5 wb n (ZL Q (z:Int)) Rs (As.set z { ofW As (z:Int) with shut:=true }) on HB'∧(∃ m,v=zi m)∧H'=HB'++H):=by
 cases h with
 | @mk pb HP hP hA hn =>
  obtain ⟨o,ho⟩:=hA.at (i:=z) hz
  rw [qeh hz ho]
  refine (qgB (H:=H) hP hn ho hz (hrow [])).mono ?_
  rintro v H' ⟨HP2,hP2,hv,rfl⟩
  exact ⟨_,.mk hP2 (hA.set z (o:={ o with shut:=true }) (hA.rng o (List.mem_of_getElem? ho))) hn,hv,rfl⟩
theorem GrH.len {gb:Nat} {HG:qe} (h:GrH gb n G HG):G.Q.length=n:=by
 cases h with
 | mk hS hL=>exact hL.facts.1
theorem GrH.call {HG:qe} {gb:Nat} (hG:GrH gb n G HG) (hok:z9 n G) {ad:Option Addr} {cap:Nat} (hrow:∀ HZ:qe,Holds w0 (HZ++H) ad [zi (z:Int)]):qk Tryz.prog w0 70 #[zp gb,zi ((z%n:Nat):Int),.slice ad 1 cap] (HG++H) (fun v H'=>∃ HG',GrH gb n (zV G n z) HG'∧(∃ m,v=zi m)∧H'=HG'++H):=by
 have hk:z%n<n:=Nat.mod_lt _ hok.n.1
 obtain ⟨q,hq⟩:∃ q,G.Q[z%n]?=some q:=⟨_,List.getElem?_eq_getElem (by rw [hG.len]; exact hk)⟩
 refine (qhN (H:=H) hG hok hk hq hrow).mono ?_
 rintro v H' ⟨HG',hG',rfl,rfl⟩
 have e:zV G n z={ G with Q:=G.Q.set (z%n) (qdM q (z:Int)) }:=by unfold zV; rw [hq]
 rw [e]
 exact ⟨HG',hG',⟨_,rfl⟩,rfl⟩
theorem zr.die {HF:qe} {F:Lf} (hF:zr lb T F HF) {s:Nat} {h:Hd} (hi:i<4) (hs:s<16) (hsl:h.slot=(s:Int)) (hz:z=16*i+s) :qk Tryz.prog w0 62 #[zp lb,zi (i:Int),.agg (List.toArray (hdC h))] (HF++H) (fun v H'=>∃ HF',zr lb T (qdF F z h) HF'∧v=.tuple #[]∧H'=HF'++H):=by
 cases hF with
 | @mk tb wb g1 g2 rb db M HT HW H1 H2 HR HD HM hT hO hW h1 o1 h2 o2 hR hU hD hM =>
 cases hD with
 | @mk E cl hok hdy =>
 have e0:((lb,.cells 134 15 (qD F.n M tb wb g1 g2 rb db))::(HT++(HW++(H1++(H2++(HR++([(db,.obj (qS (Value.int .i64) ((E).map Dye.ent) cl))]++HM.flatten)))))))++H=(lb,.cells 134 15 (qD F.n M tb wb g1 g2 rb db))::(HT++(HW++(H1++(H2++(HR++((db,.obj (qS (Value.int .i64) ((E).map Dye.ent) cl))::(HM.flatten++H))))))):=by simp only [List.cons_append,List.append_assoc,List.nil_append]
 rw [e0]
 obtain ⟨E2,hE2,hp2⟩:=qmX E cl ((z:Nat):Int) h
 obtain ⟨cl2,hcl2⟩:∃ cl2,cl2=qbH (E.map Dye.ent) cl ((z:Nat):Int):=⟨_,rfl⟩
 have hok2:=hok.put ((z:Nat):Int) (.agg (List.toArray (hdC h)))
 rw [hE2,← hcl2] at hok2
 refine qd (l:=[zp lb,zi (i:Int),.agg (List.toArray (hdC h))]) Tryz.func62 rfl Tryz.ntmps62 rfl rfl ?_
 refine zo ?_
 refine qR (l:=hdC h) rfl rfl rfl (fun b5=>?_)
 refine za 3 rfl ?_
 refine qF rfl rfl (qdK (m:=((16*i:Nat):Int)) (by rw [qW (by omega)]; omega)) rfl ?_
 refine za 1 rfl ?_
 refine qf (v:=zi h.slot) rfl ty3 rfl (qh.own (b:=b5) zM rfl) rfl ?_
 refine qF rfl rfl (qM (m:=((z:Nat):Int)) (by rw [hsl,qW (by omega)]; omega)) rfl ?_
 refine za 6 rfl ?_
 refine qf (v:=zp tb) rfl Y3 rfl (qh.own (b:=lb) zM (Qj (j:=0) hM.m4)) rfl ?_
 refine qH rfl rfl ?_
 refine qv (l:=[zi ((z:Nat):Int)]) qZ ty3 (.cons rfl rfl rfl rfl rfl .nil) rfl rfl rfl rfl rfl rfl rfl (fun b17=>?_)
 refine qn (zc2 rfl rfl) Tryz.call150 rfl ((qne hT hO (ids:=[((z:Nat):Int)]) (ad:=some ⟨b17,0,none⟩) (cap:=1) (by show 1≤1000000; decide) (Holds.own (b:=b17) zM) (H:=(b17,.cells 3 1 [zi ((z:Nat):Int)])::(b5,.cells 40 2 (hdC h))::(lb,.cells 134 15 (qD F.n M tb wb g1 g2 rb db))::(HW++(H1++(H2++(HR++((db,.obj (qS (Value.int .i64) ((E).map Dye.ent) cl))::(HM.flatten++H)))))))).hsub zH) ?_
 rintro v H' ⟨HT2,hT2,hO2,rfl,rfl⟩
 refine za 5 rfl ?_
 refine qf (v:=zp wb) rfl Yp rfl (qh.own (b:=lb) zM (Qj (j:=1) hM.m4)) rfl ?_
 refine qH rfl rfl ?_
 refine qv (l:=[zi ((z:Nat):Int)]) qZ ty3 (.cons rfl rfl rfl rfl rfl .nil) rfl rfl rfl rfl rfl rfl rfl (fun b24=>?_)
 refine qn (zc2 rfl rfl) Tryz.call151 rfl ((hW.shut (z:=z) zO (fun HZ=>Holds.own (b:=b24) (List.mem_append_right _ List.mem_cons_self)) (cap:=1) (H:=(b24,.cells 3 1 [zi ((z:Nat):Int)])::(b5,.cells 40 2 (hdC h))::(lb,.cells 134 15 (qD F.n M tb wb g1 g2 rb db))::(HT2++(H1++(H2++(HR++((db,.obj (qS (Value.int .i64) ((E).map Dye.ent) cl))::(HM.flatten++H)))))))).hsub zH) ?_
 rintro v H' ⟨HW2,hW2,⟨m2,rfl⟩,rfl⟩
 refine za 2 rfl ?_
 refine zy [(b5,.cells 40 2 (hdC h)),(lb,.cells 134 15 (qD F.n M tb wb g1 g2 rb db))] zk ?_
 refine zw [0,1,2] rfl rfl ?_
 refine qm 3 rfl zK zK zK rfl rfl (ql (v:=.map (some db)) rfl JC rfl (qh.own (b:=lb) zM (Qj (j:=5) hM.m4))) rfl ?_
 refine zw [4] rfl rfl ?_
 refine qm 5 rfl zK zK zK rfl rfl (Qf (vs:=hdC h) rfl qO rfl (b:=b5) zM rfl rfl) rfl ?_
 refine qJ 6 zH zK rfl rfl ?_
 refine Xo (a:=((z:Nat):Int)) (v:=.agg (List.toArray (hdC h))) (l:=E.map Dye.ent) (cl:=cl) (kf:=(Value.int .i64)) (b:=db) rfl rfl rfl kkI JC hok zU ?_
 refine qs (WC_goal (WC_done zH zK ?_))
 rw [hE2,← hcl2]
 refine zy [(lb,.cells 134 15 (qD F.n M tb wb g1 g2 rb db))] zk ?_
 refine zw [0,1,2] rfl rfl ?_
 refine qm 3 rfl zK zK zK rfl rfl (ql (v:=zp g1) rfl XC rfl (qh.own (b:=lb) zM (Qj (j:=2) hM.m4))) rfl ?_
 refine zw [4,5,6,7] rfl rfl ?_
 refine qm 8 rfl zK zK zK rfl rfl (ql (v:=zi ((F.n:Nat):Int)) rfl ty3 rfl (qh.own (b:=lb) zM rfl)) rfl ?_
 refine qm 9 rfl zK zK zK rfl rfl (QQ rfl rfl (JF (by have:=o1.n; omega) (m:=((z%F.n:Nat):Int)) (qfo z F.n))) rfl ?_
 refine zw [10] rfl rfl ?_
 refine qJ 11 zH zK rfl rfl ?_
 refine qv (l:=[zi ((z:Nat):Int)]) qZ ty3 (.cons rfl rfl rfl rfl rfl .nil) rfl rfl rfl rfl rfl rfl rfl (fun b43=>?_)
 refine qs (WC_goal ?_)
 refine qJ 12 zH zK rfl rfl ?_
 refine qn (zc3 rfl rfl rfl) Tryz.call70 rfl ((h1.call o1 (z:=z) (fun HZ=>Holds.own (b:=b43) (List.mem_append_right _ List.mem_cons_self)) (cap:=1) (H:=(b43,.cells 3 1 [zi ((z:Nat):Int)])::(b5,.cells 40 2 (hdC h))::(lb,.cells 134 15 (qD F.n M tb wb g1 g2 rb db))::(HT2++(HW2++(H2++(HR++((db,.obj (qS (Value.int .i64) ((E2).map Dye.ent) cl2))::(HM.flatten++H)))))))).hsub zH) ?_
 rintro v H' ⟨H12,h12,⟨m3,rfl⟩,rfl⟩
 refine qs (WC_goal (WC_done zH zK ?_))
 refine Zf (H2:=(lb,.cells 134 15 (qD F.n M tb wb g1 g2 rb db))::(HT2++(HW2++(H12++(H2++(HR++((db,.obj (qS (Value.int .i64) ((E2).map Dye.ent) cl2))::(HM.flatten++H)))))))) Tryz.results62 (.nil _) zH ?_
 have eF:qdF F z h={ F with Ws:=(Qb F.Ws F.Qt F.At [(z:Int)]).1,Qt:=(Qb F.Ws F.Qt F.At [(z:Int)]).2.1,At:=(Qb F.Ws F.Qt F.At [(z:Int)]).2.2.1,Qw:=ZL F.Qw (z:Int),Aw:=F.Aw.set z { ofW F.Aw (z:Int) with shut:=true },dy:=XJ F.dy (z:Int) h,tr:=zV F.tr F.n z }:=by unfold qdF; rfl
 rw [eF]
 exact ⟨(lb,.cells 134 15 (qD F.n M tb wb g1 g2 rb db))::(HT2++(HW2++(H12++(H2++(HR++([(db,.obj (qS (Value.int .i64) ((E2).map Dye.ent) cl2))]++HM.flatten)))))),.mk (F:={ F with Ws:=(Qb F.Ws F.Qt F.At [(z:Int)]).1,Qt:=(Qb F.Ws F.Qt F.At [(z:Int)]).2.1,At:=(Qb F.Ws F.Qt F.At [(z:Int)]).2.2.1,Qw:=ZL F.Qw (z:Int),Aw:=F.Aw.set z { ofW F.Aw (z:Int) with shut:=true },dy:=XJ F.dy (z:Int) h,tr:=zV F.tr F.n z }) hT2 hO2 hW2 h12 (o1.call _) h2 o2 hR hU (.mk hok2 (by rw [hp2,hdy])) hM,rfl,by simp only [List.cons_append,List.append_assoc,List.nil_append]⟩
end Go.Proofs.YtincjohoncljoaaGreatDoor
namespace Go.Proofs.YtincjohoncljoaaGreatDoor
open Go Go.Sl
variable {F:Lf} {i T mb b5 b8 lb wb:Nat} {M:List (Option Nat × Bool)} {HM:List qe} {h:Hd} {x:Xm} {w0:World} {H X HF:qe} {k m how:Int} {ws:List Int} {b:Bool}
attribute [local irreducible] W
def JK (F:Lf) (m:Int):Option (Xm × Bool):=if 0≤m∧m<4 then (F.ms[m.toNat]?).getD none else none
def qkj (F:Lf) (m:Int) (y:Option (Xm × Bool)):Lf:={ F with ms:=F.ms.set m.toNat y }
theorem qeW {y:Option (Xm × Bool)} (hi:i<4) (h:F.ms[i]?=some y):JK F (i:Int)=y:=by
 unfold JK; rw [if_pos (by omega),Int.toNat_natCast,h]; rfl
theorem YY.ways (h:YY T M F.ms HM) (m:Int):(JK F m=none∧qa7 M m=.pointer none)∨∃ (i mb:Nat) (x:Xm) (b:Bool) (X:qe),m=(i:Int)∧i<4∧M[i]?=some (some mb,b)∧F.ms[i]?=some (some (x,b))∧HM[i]?=some X∧XmH mb T x X∧JK F m=some (x,b)∧qa7 M m=zp mb:=by
 have hm4:=h.m4; have hs4:=h.s4; have hh4:=h.h4
 by_cases hr:0≤m∧m<4
 ·obtain ⟨i,rfl⟩:∃ i:Nat,m=(i:Int):=⟨m.toNat,by omega⟩
  have hi:i<4:=by omega
  obtain ⟨c,e1⟩:∃ c,M[i]?=some c:=⟨_,List.getElem?_eq_getElem zO⟩
  obtain ⟨y,e2⟩:∃ y,F.ms[i]?=some y:=⟨_,List.getElem?_eq_getElem zO⟩
  obtain ⟨X,e3⟩:∃ X,HM[i]?=some X:=⟨_,List.getElem?_eq_getElem zO⟩
  have h5:=h.at_ i c y X e1 e2 e3
  cases h5 with
  | none=>exact .inl ⟨qeW hi e2,by rw [qcm hi e1]; rfl⟩
  | @some mb x b X hx=>exact .inr ⟨i,mb,x,b,X,rfl,hi,e1,e2,e3,hx,qeW hi e2,by rw [qcm hi e1]; rfl⟩
 ·exact .inl ⟨if_neg hr,qa6 hr⟩
def JE (F:Lf) (m k:Int):Lf × Hd × Int:=match JK F m with
 | none=>(F,zHd,4)
 | some (x,b)=>(qkj F m (some ((x.find k).1,b)),(x.find k).2.1,(x.find k).2.2)
def qcl (F:Lf) (m:Int) (h:Hd):Int × Int:=match JK F m with
 | none=>(0,4)
 | some (x,_)=>if (x.key h).2=0 then (16*m+h.slot,0) else (0,(x.key h).2)
theorem qi7 {L:List Slt} (he:zA L h=0):0≤h.slot∧h.slot<(L.length:Int):=by
 unfold zA at he
 by_cases c:h.slot<0∨(L.length:Int)≤h.slot
 ·rw [if_pos c] at he; cases he
 ·omega
theorem Xm.Ok.len16 (h:x.Ok):x.L.length≤16:=by rw [h.len]; have:=h.ent; omega
theorem qht (hX:XmH mb T x X) (hTl:T≤1000000) :qk Tryz.prog w0 63 #[zp mb,zp b5,zp b8] ((b5,.cells 30 1 [zu k])::(b8,.cells 40 2 (hdC zHd))::(X++H)) (fun v H'=>∃ X2,XmH mb (T+1) (x.find k).1 X2∧v=zi (x.find k).2.2∧H'=(b5,.cells 30 1 [zu k])::(b8,.cells 40 2 (hdC (x.find k).2.1))::(X2++H)):=by
 refine qd (l:=[zp mb,zp b5,zp b8]) Tryz.func63 rfl Tryz.ntmps63 rfl rfl ?_
 refine za 5 rfl ?_
 refine qf (v:=zu k) rfl zX rfl (qh.own (b:=b5) zM rfl) rfl ?_
 refine qT (H':=X++((b5,.cells 30 1 [zu k])::(b8,.cells 40 2 (hdC zHd))::H)) zH ?_
 refine qn (zc2 rfl rfl) Tryz.call64 rfl (hX.find hTl (k:=k) (H:=(b5,.cells 30 1 [zu k])::(b8,.cells 40 2 (hdC zHd))::H)) ?_
 rintro v H' ⟨X2,hX2,rfl,rfl⟩
 refine za 3 rfl ?_
 refine qA (l:=hdC zHd) qO rfl rfl (fun b5_=>?_)
 refine qp (l':=hdC (x.find k).2.1) rfl rfl qO rfl rfl (b:=b5_) zM (by exact Nat.le_refl 2) rfl zU ?_
 refine za 3 rfl ?_
 refine qK (vs:=hdC (x.find k).2.1) rfl qO rfl (b:=b5_) zM rfl rfl rfl ?_
 refine qp (l':=hdC (x.find k).2.1) rfl rfl qO rfl rfl (b:=b8) zM (by exact Nat.le_refl 2) rfl zU ?_
 refine za 5 rfl ?_
 refine qj (H2:=(b5,.cells 30 1 [zu k])::(b8,.cells 40 2 (hdC (x.find k).2.1))::(X2++H)) Tryz.results63 rfl (.nil _) zH ?_
 exact ⟨X2,hX2,rfl,rfl⟩
theorem zr.find (hF:zr lb T F HF) (hTl:T≤1000000) :qk Tryz.prog w0 15 #[zp lb,zi m,zu k] (HF++H) (fun v H'=>∃ HF',zr lb (T+1) (JE F m k).1 HF'∧v=.tuple #[.agg (List.toArray (hdC (JE F m k).2.1)),zi (JE F m k).2.2]∧H'=HF'++H):=by
 cases hF with
 | @mk tb wb g1 g2 rb db M HT HW H1 H2 HR HD HM hT hO hW h1 o1 h2 o2 hR hU hD hM =>
 have e0:((lb,.cells 134 15 (qD F.n M tb wb g1 g2 rb db))::(HT++(HW++(H1++(H2++(HR++(HD++HM.flatten)))))))++H=(lb,.cells 134 15 (qD F.n M tb wb g1 g2 rb db))::(HT++(HW++(H1++(H2++(HR++(HD++(HM.flatten++H))))))):=by simp only [List.cons_append,List.append_assoc]
 rw [e0]
 refine qd (l:=[zp lb,zi m,zu k]) Tryz.func15 rfl Tryz.ntmps15 rfl rfl ?_
 refine zo ?_
 refine qR (l:=[zu k]) rfl rfl rfl (fun b5=>?_)
 refine qA (l:=hdC zHd) qO rfl rfl (fun b6=>?_)
 refine za 3 rfl ?_
 refine qA (l:=hdC zHd) qO rfl rfl (fun b8=>?_)
 refine za 4 rfl (qL .nil (.cons rfl (.cons rfl .nil)) rfl ?_)
 rcases hM.ways (F:=F) m with ⟨hmf,hmp⟩ | ⟨i,mb,x,b,X,rfl,hi4,hmc,hms,hX0,hX,hmf,hmp⟩
 ·skip
  refine qB (zc3 rfl rfl rfl) Tryz.call59 rfl (Kq (n:=F.n) (lb:=lb) (tb:=tb) (wb:=wb) (g1:=g1) (g2:=g2) (rb:=rb) (db:=db) (M:=M) zM hM.m4 hmp) ?_
  refine za 3 rfl ?_
  refine qK (vs:=hdC zHd) rfl qO rfl (b:=b8) zM rfl rfl rfl ?_
  refine qH rfl rfl ?_
  refine qp (l':=hdC zHd) rfl rfl qO rfl rfl (b:=b6) zM (by exact Nat.le_refl 2) rfl zU ?_
  refine za 2 rfl ?_
  refine zC (H2:=(lb,.cells 134 15 (qD F.n M tb wb g1 g2 rb db))::(HT++(HW++(H1++(H2++(HR++(HD++(HM.flatten++H)))))))) Tryz.results15 (.nil _) (.own rfl qO rfl zM rfl) (.tmp rfl) zH ?_
  have e:JE F m k=(F,zHd,4):=by unfold JE; rw [hmf]
  rw [e]
  exact ⟨_,.mk hT (hO.up (Nat.le_succ T)) hW h1 o1 h2 o2 hR hU hD (hM.up (Nat.le_succ T)),rfl,by simp only [List.cons_append,List.append_assoc]⟩
 ·skip
  refine qT (H':=X++((b8,.cells 40 2 (hdC zHd))::(b6,.cells 40 2 (hdC zHd))::(b5,.cells 30 1 [zu k])::(lb,.cells 134 15 (qD F.n M tb wb g1 g2 rb db))::(HT++(HW++(H1++(H2++(HR++(HD++((HM.set i []).flatten++H))))))))) ((show qr _ ((b8,.cells 40 2 (hdC zHd))::(b6,.cells 40 2 (hdC zHd))::(b5,.cells 30 1 [zu k])::(lb,.cells 134 15 (qD F.n M tb wb g1 g2 rb db))::(HT++(HW++(H1++(H2++(HR++(HD++(X++((HM.set i []).flatten++H))))))))) from .cons (.here _) (.cons (.here _) (.cons (.here _) (.cons (.here _) (.app (.here _) (.app (.here _) (.app (.here _) (.app (.here _) (.app (.here _) (.app (.here _) (Qs hX0))))))))))).trans zH) ?_
  refine qT (H':=(b5,.cells 30 1 [zu k])::(b8,.cells 40 2 (hdC zHd))::(X++((b6,.cells 40 2 (hdC zHd))::(lb,.cells 134 15 (qD F.n M tb wb g1 g2 rb db))::(HT++(HW++(H1++(H2++(HR++(HD++((HM.set i []).flatten++H)))))))))) zH ?_
  refine qn (zc3 rfl rfl rfl) Tryz.call59 rfl (Kr (n:=F.n) (lb:=lb) (tb:=tb) (wb:=wb) (g1:=g1) (g2:=g2) (rb:=rb) (db:=db) (M:=M) (fi:=63) (ca:=[zp b5,zp b8]) zM hM.m4 Tryz.call63 hmp (qht (b5:=b5) (b8:=b8) hX hTl (H:=(b6,.cells 40 2 (hdC zHd))::(lb,.cells 134 15 (qD F.n M tb wb g1 g2 rb db))::(HT++(HW++(H1++(H2++(HR++(HD++((HM.set i []).flatten++H))))))))) (by rintro v H2 ⟨_,_,e,_⟩; exact ⟨_,e⟩)) ?_
  rintro v H' ⟨X2,hX2,rfl,rfl⟩
  refine qT (H':=(b6,.cells 40 2 (hdC zHd))::(b5,.cells 30 1 [zu k])::(b8,.cells 40 2 (hdC (x.find k).2.1))::(lb,.cells 134 15 (qD F.n M tb wb g1 g2 rb db))::(HT++(HW++(H1++(H2++(HR++(HD++((HM.set i X2).flatten++H)))))))) ((show qr _ ((b6,.cells 40 2 (hdC zHd))::(b5,.cells 30 1 [zu k])::(b8,.cells 40 2 (hdC (x.find k).2.1))::(lb,.cells 134 15 (qD F.n M tb wb g1 g2 rb db))::(HT++(HW++(H1++(H2++(HR++(HD++(X2++((HM.set i []).flatten++H))))))))) from zH).trans (.cons (.here _) (.cons (.here _) (.cons (.here _) (.cons (.here _) (.app (.here _) (.app (.here _) (.app (.here _) (.app (.here _) (.app (.here _) (.app (.here _) (Zb (by rw [hM.h4]; exact hi4))))))))))))) ?_
  refine za 3 rfl ?_
  refine qK (vs:=hdC (x.find k).2.1) rfl qO rfl (b:=b8) zM rfl rfl rfl ?_
  refine qH rfl rfl ?_
  refine qp (l':=hdC (x.find k).2.1) rfl rfl qO rfl rfl (b:=b6) zM (by exact Nat.le_refl 2) rfl zU ?_
  refine za 2 rfl ?_
  refine zC (H2:=(lb,.cells 134 15 (qD F.n M tb wb g1 g2 rb db))::(HT++(HW++(H1++(H2++(HR++(HD++((HM.set i X2).flatten++H)))))))) Tryz.results15 (.nil _) (.own rfl qO rfl zM rfl) (.tmp rfl) zH ?_
  have e:JE F (i:Int) k=((qkj F (i:Int) (some ((x.find k).1,b))),(x.find k).2.1,(x.find k).2.2):=by unfold JE; rw [hmf]
  rw [e]
  have e2:(qkj F (i:Int) (some ((x.find k).1,b)))={ F with ms:=F.ms.set i (some ((x.find k).1,b)) }:=by unfold qkj; rw [Int.toNat_natCast]
  rw [e2]
  have hM2:=(hM.up (Nat.le_succ T)).set (k:=i) (.some (b:=b) hX2)
  rw [show M.set i (some mb,b)=M from Jj hmc] at hM2
  exact ⟨_,.mk (F:={ F with ms:=F.ms.set i (some ((x.find k).1,b)) }) hT (hO.up (Nat.le_succ T)) hW h1 o1 h2 o2 hR hU hD hM2,rfl,by simp only [List.cons_append,List.append_assoc]⟩
theorem qkL {b4:Nat} (hi4:i<4) (hX:XmH mb T x X) (hs:∀ p∈X,p∈H) :qk Tryz.prog w0 65 #[zp mb,zp b5,zp b4,zp b8] ((b5,.cells 40 2 (hdC h))::(b4,.cells 3 1 [zi (i:Int)])::(b8,.cells 3 1 [zi 0])::H) (fun v H'=>v=zi (x.key h).2∧H'=(b5,.cells 40 2 (hdC h))::(b4,.cells 3 1 [zi (i:Int)])::(b8,.cells 3 1 [zi (if (x.key h).2=0 then 16*(i:Int)+h.slot else 0)])::H):=by
 refine qd (l:=[zp mb,zp b5,zp b4,zp b8]) Tryz.func65 rfl Tryz.ntmps65 rfl rfl ?_
 refine za 5 rfl ?_
 refine qK (vs:=hdC h) rfl qO rfl (b:=b5) zM rfl rfl rfl ?_
 refine qB (zc2 rfl rfl) Tryz.call66 rfl (hX.key (fun p hp=>List.mem_cons_of_mem _ (List.mem_cons_of_mem _ (List.mem_cons_of_mem _ (hs p hp)))) (h:=h)) ?_
 refine za 11 rfl ?_
 refine qq (p:=(x.key h).2=0) rfl (by simp) (fun q0=>?_) (fun q0=>?_)
 ·skip
  refine Zn ?_
  refine qf (v:=zi (i:Int)) rfl ty3 rfl (qh.own (b:=b4) zM rfl) rfl ?_
  refine qF rfl rfl (qdK (m:=16*(i:Int)) (by rw [qW (by omega)]; omega)) rfl ?_
  refine za 1 rfl ?_
  have hsl:=qi7 (L:=x.L) (h:=h) q0
  have hl16:=hX.ok.len16
  refine qf (v:=zi h.slot) rfl ty3 rfl (qh.own (b:=b5) zM rfl) rfl ?_
  refine qF rfl rfl (qM (m:=16*(i:Int)+h.slot) (qW zO)) rfl ?_
  refine qy (l':=[zi (16*(i:Int)+h.slot)]) rfl rfl ty3 rfl rfl (b:=b8) zM rfl rfl zU ?_
  refine za 5 rfl ?_
  refine qj (H2:=(b5,.cells 40 2 (hdC h))::(b4,.cells 3 1 [zi (i:Int)])::(b8,.cells 3 1 [zi (16*(i:Int)+h.slot)])::H) Tryz.results65 rfl (.nil _) zH ?_
  rw [if_pos q0]
  exact ⟨rfl,rfl⟩
 ·skip
  refine za 5 rfl ?_
  refine qj (H2:=(b5,.cells 40 2 (hdC h))::(b4,.cells 3 1 [zi (i:Int)])::(b8,.cells 3 1 [zi 0])::H) Tryz.results65 rfl (.nil _) zH ?_
  rw [if_neg q0]
  exact ⟨rfl,rfl⟩
theorem memF {a:Nat × Blk} {X1 X2 X3 X4 X5 X6:qe} (hX0:HM[i]?=some X) (hs:∀ p∈a::(X1++(X2++(X3++(X4++(X5++(X6++HM.flatten)))))),p∈H):∀ p∈X,p∈H:=fun p hp=>hs p (List.mem_cons_of_mem _ (List.mem_append_right _ (List.mem_append_right _ (List.mem_append_right _ (List.mem_append_right _ (List.mem_append_right _ (List.mem_append_right _ (YN hX0 hp))))))))
theorem zr.number (hF:zr lb T F HF) (hs:∀ p∈HF,p∈H) :qG Tryz.prog w0 H 16 [zp lb,zi m,.agg (List.toArray (hdC h))] (.tuple #[zi (qcl F m h).1,zi (qcl F m h).2]):=by
 cases hF with
 | @mk tb wb g1 g2 rb db M HT HW H1 H2 HR HD HM hT hO hW h1 o1 h2 o2 hR hU hD hM =>
 have hm:=hs _ List.mem_cons_self
 refine qd Tryz.func16 rfl Tryz.ntmps16 rfl rfl (zo ?_)
 refine qR (l:=[zi m]) rfl rfl rfl (fun b4=>?_)
 refine qR (l:=hdC h) rfl rfl rfl (fun b5=>?_)
 refine za 4 rfl ?_
 refine qA (l:=[zi 0]) ty3 rfl rfl (fun b8=>?_)
 refine qy (l':=[zi 0]) rfl rfl ty3 rfl rfl (b:=b8) zM rfl rfl zU ?_
 refine za 3 rfl ?_
 refine qf (v:=zi m) rfl ty3 rfl (qh.own (b:=b4) zM rfl) rfl ?_
 refine qL .nil (.cons rfl (.cons rfl (.cons rfl .nil))) rfl ?_
 rcases hM.ways (F:=F) m with ⟨hmf,hmp⟩ | ⟨i,mb,x,b,X,rfl,hi4,hmc,hms,hX0,hX,hmf,hmp⟩
 ·skip
  refine qB (zc3 rfl rfl rfl) Tryz.call59 rfl (Kq (n:=F.n) (lb:=lb) (tb:=tb) (wb:=wb) (g1:=g1) (g2:=g2) (rb:=rb) (db:=db) (M:=M) (by repeat (first | exact hm | exact List.mem_cons_self | apply List.mem_cons_of_mem | apply List.mem_append_right)) hM.m4 hmp) ?_
  refine za 3 rfl ?_
  refine qf (v:=zi 0) rfl ty3 rfl (qh.own (b:=b8) zM rfl) rfl ?_
  refine za 4 rfl ?_
  refine qP (H2:=H) Tryz.results16 rfl rfl (.nil _) zH ?_
  have e:qcl F m h=(0,4):=by unfold qcl; rw [hmf]
  rw [e]
  exact ⟨rfl,rfl⟩
 ·skip
  refine qT (H':=(b5,.cells 40 2 (hdC h))::(b4,.cells 3 1 [zi (i:Int)])::(b8,.cells 3 1 [zi 0])::H) zH ?_
  refine qn (zc3 rfl rfl rfl) Tryz.call59 rfl (Kr (n:=F.n) (lb:=lb) (tb:=tb) (wb:=wb) (g1:=g1) (g2:=g2) (rb:=rb) (db:=db) (M:=M) (fi:=65) (ca:=[zp b5,zp b4,zp b8]) (by repeat (first | exact hm | exact List.mem_cons_self | apply List.mem_cons_of_mem | apply List.mem_append_right)) hM.m4 Tryz.call65 hmp (qkL (b5:=b5) (b4:=b4) (b8:=b8) (h:=h) (i:=i) hi4 hX (memF hX0 hs)) (by rintro v H2 ⟨e,_⟩; exact ⟨_,e⟩)) ?_
  rintro v H' ⟨rfl,rfl⟩
  refine za 3 rfl ?_
  refine qf (v:=zi (if (x.key h).2=0 then 16*(i:Int)+h.slot else 0)) rfl ty3 rfl (qh.own (b:=b8) zM rfl) rfl ?_
  refine za 4 rfl ?_
  refine qP (H2:=H) Tryz.results16 rfl rfl (.nil _) zH ?_
  have e:qcl F (i:Int) h=(if (x.key h).2=0 then 16*(i:Int)+h.slot else 0,(x.key h).2):=by
   unfold qcl; rw [hmf]; dsimp only; split
   ·rename_i q; rw [q]
   ·rfl
  rw [e]
  exact ⟨rfl,rfl⟩
def qaq (F:Lf) (i:Nat) (x:Xm) (b:Bool) (k:Int):Lf × Int:=if (x.del k).2.2=0 then (qdF { F with ms:=F.ms.set i (some ((x.del k).1,b)) } (16*i+(x.del k).2.1.slot.toNat) (x.del k).2.1,0) else ({ F with ms:=F.ms.set i (some ((x.del k).1,b)) },(x.del k).2.2)
def YF (F:Lf) (m k:Int):Lf × Int:=match JK F m with
 | none=>(F,4)
 | some (x,b)=>qaq F m.toNat x b k
theorem qdi (h:x.Ok) {g:Hd} (hf:Qz x.C k=some g):g.slot=((g.slot.toNat:Nat):Int)∧g.slot.toNat<16:=by
 obtain ⟨i,s,e1,e2,_⟩:=h.own hf
 have:=(List.getElem?_eq_some_iff.1 e2).1
 have:=h.len16
 omega
theorem qjc (h:x.Ok) (he:(x.del k).2.2=0):(x.del k).2.1.slot=(((x.del k).2.1.slot.toNat:Nat):Int)∧(x.del k).2.1.slot.toNat<16:=by
 unfold Xm.del at he ⊢
 by_cases c:x.kind=0
 ·rw [if_pos c] at he; cases he
 ·rw [if_neg c] at he ⊢
  cases hf:Qz x.C k with
  | none=>rw [hf] at he; cases he
  | some g =>
   show (x.unlink k).2.slot=_∧(x.unlink k).2.slot.toNat<16
   rw [show (x.unlink k).2=g by unfold Xm.unlink; rw [hf]; rfl]
   exact qdi h hf
theorem qhd (h:x.Ok) (ho:(x.put how k ws).2.1.out=true):(x.put how k ws).2.1.gone.slot=(((x.put how k ws).2.1.gone.slot.toNat:Nat):Int)∧(x.put how k ws).2.1.gone.slot.toNat<16:=by
 unfold Xm.put at ho ⊢
 by_cases c1:(how<0∨2<how)∨x.words<ws.length
 ·rw [if_pos c1] at ho; cases ho
 ·rw [if_neg c1] at ho ⊢
  by_cases c2:x.closed=true
  ·rw [if_pos c2] at ho; cases ho
  ·rw [if_neg c2] at ho ⊢
   cases hf:Qz x.C k with
   | some g =>
    rw [hf] at ho; dsimp only at ho
    by_cases c3:how=1
    ·rw [if_pos c3] at ho; cases ho
    ·rw [if_neg c3] at ho; cases ho
   | none =>
    rw [hf] at ho; dsimp only at ho ⊢
    by_cases c3:x.refE how≠0
    ·rw [if_pos c3] at ho; cases ho
    ·rw [if_neg c3] at ho ⊢
     by_cases c4:x.C.length=x.entries
     ·rw [if_pos c4]
      dsimp only
      have hk:=h.umem.1 (h.oldest c4)
      obtain ⟨g,hg⟩:∃ g,Qz x.C (x.used.headD 0)=some g:=by
       cases hz:Qz x.C (x.used.headD 0) with
       | some g=>exact ⟨g,rfl⟩
       | none =>
        exfalso
        obtain ⟨p,hp,e⟩:=List.mem_map.1 hk
        unfold Qz at hz
        rw [Option.map_eq_none_iff,List.find?_eq_none] at hz
        exact hz p hp (by first | exact decide_eq_true e | exact decide_eq_true e.symm | simp [e])
      rw [show (x.unlink (x.used.headD 0)).2=g by unfold Xm.unlink; rw [hg]; rfl]
      exact qdi h hg
     ·rw [if_neg c4] at ho; cases ho
theorem qhw {tb g1 g2 rb db:Nat} {HT HW H1 H2 HR HD:qe} (hT:J8 tb F.n F.Ws F.Qt F.Rt F.At HT) (hO:TOk T F.Ws F.At) (hW:J5 wb F.n F.Qw F.Rw F.Aw F.on HW) (h1:GrH g1 F.n F.tr H1) (o1:z9 F.n F.tr) (h2:GrH g2 F.n F.cl H2) (o2:z9 F.n F.cl) (hR:Y6 rb 8 F.us HR) (hU:Y5 F.us) (hD:DyH db F.dy HD) (hM:YY T M F.ms HM) (hi4:i<4) (hmc:M[i]?=some (some mb,b)) (hX0:HM[i]?=some X) (hX:XmH mb T x X) {b3 b4:Nat} :qk Tryz.prog w0 67 #[zp mb,zp b5,zp b3,zp b4] ((b5,.cells 30 1 [zu k])::(b3,.cells 23 1 [zp lb])::(b4,.cells 3 1 [zi (i:Int)])::(lb,.cells 134 15 (qD F.n M tb wb g1 g2 rb db))::(HT++(HW++(H1++(H2++(HR++(HD++(HM.flatten++H)))))))) (fun v H'=>∃ HF',zr lb T (qaq F i x b k).1 HF'∧v=zi (qaq F i x b k).2∧H'=(b5,.cells 30 1 [zu k])::(b3,.cells 23 1 [zp lb])::(b4,.cells 3 1 [zi (i:Int)])::(HF'++H)):=by
 refine qd (l:=[zp mb,zp b5,zp b3,zp b4]) Tryz.func67 rfl Tryz.ntmps67 rfl rfl ?_
 refine za 5 rfl ?_
 refine qf (v:=zu k) rfl zX rfl (qh.own (b:=b5) zM rfl) rfl ?_
 refine qT (H':=X++((b5,.cells 30 1 [zu k])::(b3,.cells 23 1 [zp lb])::(b4,.cells 3 1 [zi (i:Int)])::(lb,.cells 134 15 (qD F.n M tb wb g1 g2 rb db))::(HT++(HW++(H1++(H2++(HR++(HD++((HM.set i []).flatten++H))))))))) ((show qr _ ((b5,.cells 30 1 [zu k])::(b3,.cells 23 1 [zp lb])::(b4,.cells 3 1 [zi (i:Int)])::(lb,.cells 134 15 (qD F.n M tb wb g1 g2 rb db))::(HT++(HW++(H1++(H2++(HR++(HD++(X++((HM.set i []).flatten++H))))))))) from .cons (.here _) (.cons (.here _) (.cons (.here _) (.cons (.here _) (.app (.here _) (.app (.here _) (.app (.here _) (.app (.here _) (.app (.here _) (.app (.here _) (Qs hX0))))))))))).trans zH) ?_
 refine qn (zc2 rfl rfl) Tryz.call68 rfl (hX.del (k:=k) (H:=(b5,.cells 30 1 [zu k])::(b3,.cells 23 1 [zp lb])::(b4,.cells 3 1 [zi (i:Int)])::(lb,.cells 134 15 (qD F.n M tb wb g1 g2 rb db))::(HT++(HW++(H1++(H2++(HR++(HD++((HM.set i []).flatten++H))))))))) ?_
 rintro v H' ⟨X2,hX2,rfl,rfl⟩
 refine qT (H':=(b5,.cells 30 1 [zu k])::(b3,.cells 23 1 [zp lb])::(b4,.cells 3 1 [zi (i:Int)])::(lb,.cells 134 15 (qD F.n M tb wb g1 g2 rb db))::(HT++(HW++(H1++(H2++(HR++(HD++((HM.set i X2).flatten++H)))))))) ((show qr _ ((b5,.cells 30 1 [zu k])::(b3,.cells 23 1 [zp lb])::(b4,.cells 3 1 [zi (i:Int)])::(lb,.cells 134 15 (qD F.n M tb wb g1 g2 rb db))::(HT++(HW++(H1++(H2++(HR++(HD++(X2++((HM.set i []).flatten++H))))))))) from zH).trans (.cons (.here _) (.cons (.here _) (.cons (.here _) (.cons (.here _) (.app (.here _) (.app (.here _) (.app (.here _) (.app (.here _) (.app (.here _) (.app (.here _) (Zb (by rw [hM.h4]; exact hi4))))))))))))) ?_
 have hM2:=(hM.up (Nat.le_refl T)).set (k:=i) (.some (b:=b) hX2)
 rw [show M.set i (some mb,b)=M from Jj hmc] at hM2
 have hF2:zr lb _ { F with ms:=F.ms.set i (some ((x.del k).1,b)) } ((lb,.cells 134 15 (qD F.n M tb wb g1 g2 rb db))::(HT++(HW++(H1++(H2++(HR++(HD++(HM.set i X2).flatten))))))):=.mk (F:={ F with ms:=F.ms.set i (some ((x.del k).1,b)) }) hT (hO.up (Nat.le_refl T)) hW h1 o1 h2 o2 hR hU hD hM2
 refine za 3 rfl ?_
 refine qA (l:=hdC zHd) qO rfl rfl (fun b6=>?_)
 refine qp (l':=hdC (x.del k).2.1) rfl rfl qO rfl rfl (b:=b6) zM (by exact Nat.le_refl 2) rfl zU ?_
 refine za 7 rfl ?_
 refine qq (p:=(x.del k).2.2=0) rfl (by simp) (fun q0=>?_) (fun q0=>?_)
 ·skip
  refine Zn ?_
  refine qf (v:=zp lb) rfl Ke rfl (qh.own (b:=b3) zM rfl) rfl ?_
  refine qf (v:=zi (i:Int)) rfl ty3 rfl (qh.own (b:=b4) zM rfl) rfl ?_
  refine qK (vs:=hdC (x.del k).2.1) rfl qO rfl (b:=b6) zM rfl rfl rfl ?_
  have hsl:=qjc hX.ok q0
  refine qT (H':=((lb,.cells 134 15 (qD F.n M tb wb g1 g2 rb db))::(HT++(HW++(H1++(H2++(HR++(HD++(HM.set i X2).flatten)))))))++((b6,.cells 40 2 (hdC (x.del k).2.1))::(b5,.cells 30 1 [zu k])::(b3,.cells 23 1 [zp lb])::(b4,.cells 3 1 [zi (i:Int)])::H)) (by simp only [List.cons_append,List.append_assoc]; first | exact ZW | (repeat (first | with_reducible exact qr.refl _ | refine qr.cons zT ?_ | refine qr.app zS ?_ | exact qr.nil _ | exact qr.refl _ | refine qr.drop ?_ | refine qr.dropS ?_))) ?_
  refine qn (zc3 rfl rfl rfl) Tryz.call62 rfl (hF2.die (i:=i) (s:=(x.del k).2.1.slot.toNat) (h:=(x.del k).2.1) hi4 hsl.2 hsl.1 rfl (H:=(b6,.cells 40 2 (hdC (x.del k).2.1))::(b5,.cells 30 1 [zu k])::(b3,.cells 23 1 [zp lb])::(b4,.cells 3 1 [zi (i:Int)])::H)) ?_
  rintro v H' ⟨HF3,hF3,rfl,rfl⟩
  refine za 5 rfl ?_
  refine qj (H2:=(b5,.cells 30 1 [zu k])::(b3,.cells 23 1 [zp lb])::(b4,.cells 3 1 [zi (i:Int)])::(HF3++H)) Tryz.results67 rfl (.nil _) zH ?_
  have e:qaq F i x b k=(qdF { F with ms:=F.ms.set i (some ((x.del k).1,b)) } (16*i+(x.del k).2.1.slot.toNat) (x.del k).2.1,0):=if_pos q0
  rw [e,q0]
  exact ⟨HF3,hF3,rfl,rfl⟩
 ·skip
  refine za 5 rfl ?_
  refine qj (H2:=(b5,.cells 30 1 [zu k])::(b3,.cells 23 1 [zp lb])::(b4,.cells 3 1 [zi (i:Int)])::(lb,.cells 134 15 (qD F.n M tb wb g1 g2 rb db))::(HT++(HW++(H1++(H2++(HR++(HD++((HM.set i X2).flatten++H)))))))) Tryz.results67 rfl (.nil _) zH ?_
  have e:qaq F i x b k=({ F with ms:=F.ms.set i (some ((x.del k).1,b)) },(x.del k).2.2):=if_neg q0
  rw [e]
  exact ⟨_,hF2,rfl,by simp only [List.cons_append,List.append_assoc]⟩
theorem zr.drop (hF:zr lb T F HF) :qk Tryz.prog w0 17 #[zp lb,zi m,zu k] (HF++H) (fun v H'=>∃ HF',zr lb T (YF F m k).1 HF'∧v=zi (YF F m k).2∧H'=HF'++H):=by
 cases hF with
 | @mk tb wb g1 g2 rb db M HT HW H1 H2 HR HD HM hT hO hW h1 o1 h2 o2 hR hU hD hM =>
 have e0:((lb,.cells 134 15 (qD F.n M tb wb g1 g2 rb db))::(HT++(HW++(H1++(H2++(HR++(HD++HM.flatten)))))))++H=(lb,.cells 134 15 (qD F.n M tb wb g1 g2 rb db))::(HT++(HW++(H1++(H2++(HR++(HD++(HM.flatten++H))))))):=by simp only [List.cons_append,List.append_assoc]
 rw [e0]
 refine qd (l:=[zp lb,zi m,zu k]) Tryz.func17 rfl Tryz.ntmps17 rfl rfl ?_
 refine zo ?_
 refine qR (l:=[zp lb]) rfl rfl rfl (fun b3=>?_)
 refine qR (l:=[zi m]) rfl rfl rfl (fun b4=>?_)
 refine qR (l:=[zu k]) rfl rfl rfl (fun b5=>?_)
 refine za 3 rfl ?_
 refine qf (v:=zp lb) rfl Ke rfl (qh.own (b:=b3) zM rfl) rfl ?_
 refine qf (v:=zi m) rfl ty3 rfl (qh.own (b:=b4) zM rfl) rfl ?_
 refine qL .nil (.cons rfl (.cons rfl (.cons rfl .nil))) rfl ?_
 rcases hM.ways (F:=F) m with ⟨hmf,hmp⟩ | ⟨i,mb,x,b,X,rfl,hi4,hmc,hms,hX0,hX,hmf,hmp⟩
 ·skip
  refine qB (zc3 rfl rfl rfl) Tryz.call59 rfl (Kq (n:=F.n) (lb:=lb) (tb:=tb) (wb:=wb) (g1:=g1) (g2:=g2) (rb:=rb) (db:=db) (M:=M) zM hM.m4 hmp) ?_
  refine za 2 rfl ?_
  refine qj (H2:=(lb,.cells 134 15 (qD F.n M tb wb g1 g2 rb db))::(HT++(HW++(H1++(H2++(HR++(HD++(HM.flatten++H)))))))) Tryz.results17 rfl (.nil _) zH ?_
  have e:YF F m k=(F,4):=by unfold YF; rw [hmf]
  rw [e]
  exact ⟨_,.mk hT hO hW h1 o1 h2 o2 hR hU hD hM,rfl,by simp only [List.cons_append,List.append_assoc]⟩
 ·skip
  refine qT (H':=(b5,.cells 30 1 [zu k])::(b3,.cells 23 1 [zp lb])::(b4,.cells 3 1 [zi (i:Int)])::(lb,.cells 134 15 (qD F.n M tb wb g1 g2 rb db))::(HT++(HW++(H1++(H2++(HR++(HD++(HM.flatten++H)))))))) zH ?_
  refine qn (zc3 rfl rfl rfl) Tryz.call59 rfl (Kr (n:=F.n) (lb:=lb) (tb:=tb) (wb:=wb) (g1:=g1) (g2:=g2) (rb:=rb) (db:=db) (M:=M) (fi:=67) (ca:=[zp b5,zp b3,zp b4]) zM hM.m4 Tryz.call67 hmp (qhw (b5:=b5) (b3:=b3) (b4:=b4) (k:=k) hT hO hW h1 o1 h2 o2 hR hU hD hM hi4 hmc hX0 hX) (by rintro v H2 ⟨_,_,e,_⟩; exact ⟨_,e⟩)) ?_
  rintro v H' ⟨HF3,hF3,rfl,rfl⟩
  refine za 2 rfl ?_
  refine qj (H2:=HF3++H) Tryz.results17 rfl (.nil _) zH ?_
  have e:YF F (i:Int) k=qaq F i x b k:=by unfold YF; rw [hmf]; dsimp only; rw [Int.toNat_natCast]
  rw [e]
  exact ⟨HF3,hF3,rfl,rfl⟩
def KU (F:Lf) (i:Nat) (x:Xm) (b:Bool) (how k:Int) (ws:List Int):Lf × Hd × Int:=(if (x.put how k ws).2.1.out=true then qdF { F with ms:=F.ms.set i (some ((x.put how k ws).1,b)) } (16*i+(x.put how k ws).2.1.gone.slot.toNat) (x.put how k ws).2.1.gone else { F with ms:=F.ms.set i (some ((x.put how k ws).1,b)) },(x.put how k ws).2.1.h,(x.put how k ws).2.2)
def Kn (F:Lf) (m how k:Int) (ws:List Int):Lf × Hd × Int:=match JK F m with
 | none=>(F,zHd,4)
 | some (x,b)=>KU F m.toNat x b how k ws
theorem qkJ {tb g1 g2 rb db:Nat} {HT HW H1 H2 HR HD:qe} (hT:J8 tb F.n F.Ws F.Qt F.Rt F.At HT) (hO:TOk T F.Ws F.At) (hW:J5 wb F.n F.Qw F.Rw F.Aw F.on HW) (h1:GrH g1 F.n F.tr H1) (o1:z9 F.n F.tr) (h2:GrH g2 F.n F.cl H2) (o2:z9 F.n F.cl) (hR:Y6 rb 8 F.us HR) (hU:Y5 F.us) (hD:DyH db F.dy HD) (hM:YY T M F.ms HM) (hi4:i<4) (hmc:M[i]?=some (some mb,b)) (hX0:HM[i]?=some X) (hX:XmH mb T x X) {adw:Option Addr} {capw:Nat} (hTab:Tab w0) (hTl:T≤1000000) (hk:0≤k∧k<18446744073709551616) (hrow:∀ HZ:qe,Holds w0 (HZ++H) adw (ws.map (Value.int .u64))) {b6 b7 b9 b12:Nat} :qk Tryz.prog w0 60 #[zp mb,zp b7,zp b8,zp b9,zp b5,zp b6,zp b12] ((b7,.cells 3 1 [zi how])::(b8,.cells 30 1 [zu k])::(b9,.cells 84 1 [.slice adw ws.length capw])::(b5,.cells 23 1 [zp lb])::(b6,.cells 3 1 [zi (i:Int)])::(b12,.cells 40 2 (hdC zHd))::(lb,.cells 134 15 (qD F.n M tb wb g1 g2 rb db))::(HT++(HW++(H1++(H2++(HR++(HD++(HM.flatten++H)))))))) (fun v H'=>∃ HF',zr lb (T+2) (KU F i x b how k ws).1 HF'∧v=zi (KU F i x b how k ws).2.2∧H'=(b7,.cells 3 1 [zi how])::(b8,.cells 30 1 [zu k])::(b9,.cells 84 1 [.slice adw ws.length capw])::(b5,.cells 23 1 [zp lb])::(b6,.cells 3 1 [zi (i:Int)])::(b12,.cells 40 2 (hdC (KU F i x b how k ws).2.1))::(HF'++H)):=by
 refine qd (l:=[zp mb,zp b7,zp b8,zp b9,zp b5,zp b6,zp b12]) Tryz.func60 rfl Tryz.ntmps60 rfl rfl ?_
 refine za 5 rfl ?_
 refine qf (v:=zi how) rfl ty3 rfl (qh.own (b:=b7) zM rfl) rfl ?_
 refine qf (v:=zu k) rfl zX rfl (qh.own (b:=b8) zM rfl) rfl ?_
 refine qf (v:=.slice adw ws.length capw) rfl Zq rfl (qh.own (b:=b9) zM rfl) rfl ?_
 refine qT (H':=X++((b7,.cells 3 1 [zi how])::(b8,.cells 30 1 [zu k])::(b9,.cells 84 1 [.slice adw ws.length capw])::(b5,.cells 23 1 [zp lb])::(b6,.cells 3 1 [zi (i:Int)])::(b12,.cells 40 2 (hdC zHd))::(lb,.cells 134 15 (qD F.n M tb wb g1 g2 rb db))::(HT++(HW++(H1++(H2++(HR++(HD++((HM.set i []).flatten++H))))))))) ((show qr _ ((b7,.cells 3 1 [zi how])::(b8,.cells 30 1 [zu k])::(b9,.cells 84 1 [.slice adw ws.length capw])::(b5,.cells 23 1 [zp lb])::(b6,.cells 3 1 [zi (i:Int)])::(b12,.cells 40 2 (hdC zHd))::(lb,.cells 134 15 (qD F.n M tb wb g1 g2 rb db))::(HT++(HW++(H1++(H2++(HR++(HD++(X++((HM.set i []).flatten++H))))))))) from .cons (.here _) (.cons (.here _) (.cons (.here _) (.cons (.here _) (.cons (.here _) (.cons (.here _) (.cons (.here _) (.app (.here _) (.app (.here _) (.app (.here _) (.app (.here _) (.app (.here _) (.app (.here _) (Qs hX0)))))))))))))).trans zH) ?_
 refine qn (zc4 rfl rfl rfl rfl) Tryz.call61 rfl (hX.put hTab hTl hk (by have:=hrow ((b7,.cells 3 1 [zi how])::(b8,.cells 30 1 [zu k])::(b9,.cells 84 1 [.slice adw ws.length capw])::(b5,.cells 23 1 [zp lb])::(b6,.cells 3 1 [zi (i:Int)])::(b12,.cells 40 2 (hdC zHd))::(lb,.cells 134 15 (qD F.n M tb wb g1 g2 rb db))::(HT++(HW++(H1++(H2++(HR++(HD++(HM.set i []).flatten))))))); simpa only [List.cons_append,List.append_assoc] using this) (H:=(b7,.cells 3 1 [zi how])::(b8,.cells 30 1 [zu k])::(b9,.cells 84 1 [.slice adw ws.length capw])::(b5,.cells 23 1 [zp lb])::(b6,.cells 3 1 [zi (i:Int)])::(b12,.cells 40 2 (hdC zHd))::(lb,.cells 134 15 (qD F.n M tb wb g1 g2 rb db))::(HT++(HW++(H1++(H2++(HR++(HD++((HM.set i []).flatten++H))))))))) ?_
 rintro v H' ⟨X2,hX2,rfl,rfl⟩
 refine qT (H':=(b7,.cells 3 1 [zi how])::(b8,.cells 30 1 [zu k])::(b9,.cells 84 1 [.slice adw ws.length capw])::(b5,.cells 23 1 [zp lb])::(b6,.cells 3 1 [zi (i:Int)])::(b12,.cells 40 2 (hdC zHd))::(lb,.cells 134 15 (qD F.n M tb wb g1 g2 rb db))::(HT++(HW++(H1++(H2++(HR++(HD++((HM.set i X2).flatten++H)))))))) ((show qr _ ((b7,.cells 3 1 [zi how])::(b8,.cells 30 1 [zu k])::(b9,.cells 84 1 [.slice adw ws.length capw])::(b5,.cells 23 1 [zp lb])::(b6,.cells 3 1 [zi (i:Int)])::(b12,.cells 40 2 (hdC zHd))::(lb,.cells 134 15 (qD F.n M tb wb g1 g2 rb db))::(HT++(HW++(H1++(H2++(HR++(HD++(X2++((HM.set i []).flatten++H))))))))) from zH).trans (.cons (.here _) (.cons (.here _) (.cons (.here _) (.cons (.here _) (.cons (.here _) (.cons (.here _) (.cons (.here _) (.app (.here _) (.app (.here _) (.app (.here _) (.app (.here _) (.app (.here _) (.app (.here _) (Zb (by rw [hM.h4]; exact hi4)))))))))))))))) ?_
 have hM2:=(hM.up (Nat.le_add_right T 2)).set (k:=i) (.some (b:=b) hX2)
 rw [show M.set i (some mb,b)=M from Jj hmc] at hM2
 have hF2:zr lb _ { F with ms:=F.ms.set i (some ((x.put how k ws).1,b)) } ((lb,.cells 134 15 (qD F.n M tb wb g1 g2 rb db))::(HT++(HW++(H1++(H2++(HR++(HD++(HM.set i X2).flatten))))))):=.mk (F:={ F with ms:=F.ms.set i (some ((x.put how k ws).1,b)) }) hT (hO.up (Nat.le_add_right T 2)) hW h1 o1 h2 o2 hR hU hD hM2
 refine za 3 rfl ?_
 refine qA (l:=z7 Qq) Q4 rfl rfl (fun b9_=>?_)
 refine qp (l':=z7 (x.put how k ws).2.1) rfl rfl Q4 rfl rfl (b:=b9_) zM (by exact Nat.le_refl 5) rfl zU ?_
 refine za 5 rfl ?_
 refine qf (v:=.bool (x.put how k ws).2.1.out) rfl ty4 rfl (qh.own (b:=b9_) zM rfl) rfl ?_
 refine qs ?_
 refine qq (p:=(x.put how k ws).2.1.out=true) rfl .rfl (fun q0=>?_) (fun q0=>?_)
 ·skip
  refine Zn ?_
  refine qf (v:=zp lb) rfl Ke rfl (qh.own (b:=b5) zM rfl) rfl ?_
  refine qf (v:=zi (i:Int)) rfl ty3 rfl (qh.own (b:=b6) zM rfl) rfl ?_
  refine za 1 rfl ?_
  refine qK (vs:=hdC (x.put how k ws).2.1.gone) rfl qO rfl (b:=b9_) zM rfl rfl rfl ?_
  have hsl:=qhd hX.ok q0
  refine qT (H':=((lb,.cells 134 15 (qD F.n M tb wb g1 g2 rb db))::(HT++(HW++(H1++(H2++(HR++(HD++(HM.set i X2).flatten)))))))++((b9_,.cells 139 5 (z7 (x.put how k ws).2.1))::(b7,.cells 3 1 [zi how])::(b8,.cells 30 1 [zu k])::(b9,.cells 84 1 [.slice adw ws.length capw])::(b5,.cells 23 1 [zp lb])::(b6,.cells 3 1 [zi (i:Int)])::(b12,.cells 40 2 (hdC zHd))::H)) (by simp only [List.cons_append,List.append_assoc]; first | exact ZW | (repeat (first | with_reducible exact qr.refl _ | refine qr.cons zT ?_ | refine qr.app zS ?_ | exact qr.nil _ | exact qr.refl _ | refine qr.drop ?_ | refine qr.dropS ?_))) ?_
  refine qn (zc3 rfl rfl rfl) Tryz.call62 rfl (hF2.die (i:=i) (s:=(x.put how k ws).2.1.gone.slot.toNat) (h:=(x.put how k ws).2.1.gone) hi4 hsl.2 hsl.1 rfl (H:=(b9_,.cells 139 5 (z7 (x.put how k ws).2.1))::(b7,.cells 3 1 [zi how])::(b8,.cells 30 1 [zu k])::(b9,.cells 84 1 [.slice adw ws.length capw])::(b5,.cells 23 1 [zp lb])::(b6,.cells 3 1 [zi (i:Int)])::(b12,.cells 40 2 (hdC zHd))::H)) ?_
  rintro v H' ⟨HF3,hF3,rfl,rfl⟩
  refine za 3 rfl ?_
  refine qK (vs:=hdC (x.put how k ws).2.1.h) rfl qO rfl (b:=b9_) zM rfl rfl rfl ?_
  refine qp (l':=hdC (x.put how k ws).2.1.h) rfl rfl qO rfl rfl (b:=b12) zM (by exact Nat.le_refl 2) rfl zU ?_
  refine za 5 rfl ?_
  refine qj (H2:=(b7,.cells 3 1 [zi how])::(b8,.cells 30 1 [zu k])::(b9,.cells 84 1 [.slice adw ws.length capw])::(b5,.cells 23 1 [zp lb])::(b6,.cells 3 1 [zi (i:Int)])::(b12,.cells 40 2 (hdC (x.put how k ws).2.1.h))::(HF3++H)) Tryz.results60 rfl (.nil _) zH ?_
  have e:KU F i x b how k ws=(qdF { F with ms:=F.ms.set i (some ((x.put how k ws).1,b)) } (16*i+(x.put how k ws).2.1.gone.slot.toNat) (x.put how k ws).2.1.gone,(x.put how k ws).2.1.h,(x.put how k ws).2.2):=by unfold KU; rw [if_pos q0]
  rw [e]
  exact ⟨HF3,hF3,rfl,rfl⟩
 ·skip
  refine za 3 rfl ?_
  refine qK (vs:=hdC (x.put how k ws).2.1.h) rfl qO rfl (b:=b9_) zM rfl rfl rfl ?_
  refine qp (l':=hdC (x.put how k ws).2.1.h) rfl rfl qO rfl rfl (b:=b12) zM (by exact Nat.le_refl 2) rfl zU ?_
  refine za 5 rfl ?_
  refine qj (H2:=(b7,.cells 3 1 [zi how])::(b8,.cells 30 1 [zu k])::(b9,.cells 84 1 [.slice adw ws.length capw])::(b5,.cells 23 1 [zp lb])::(b6,.cells 3 1 [zi (i:Int)])::(b12,.cells 40 2 (hdC (x.put how k ws).2.1.h))::(lb,.cells 134 15 (qD F.n M tb wb g1 g2 rb db))::(HT++(HW++(H1++(H2++(HR++(HD++((HM.set i X2).flatten++H)))))))) Tryz.results60 rfl (.nil _) zH ?_
  have e:KU F i x b how k ws=({ F with ms:=F.ms.set i (some ((x.put how k ws).1,b)) },(x.put how k ws).2.1.h,(x.put how k ws).2.2):=by unfold KU; rw [if_neg q0]
  rw [e]
  exact ⟨_,hF2,rfl,by simp only [List.cons_append,List.append_assoc]⟩
theorem zr.put (hF:zr lb T F HF) {adw:Option Addr} {capw:Nat} (hTab:Tab w0) (hTl:T≤1000000) (hk:0≤k∧k<18446744073709551616) (hrow:∀ HZ:qe,Holds w0 (HZ++H) adw (ws.map (Value.int .u64))) :qk Tryz.prog w0 14 #[zp lb,zi m,zi how,zu k,.slice adw ws.length capw] (HF++H) (fun v H'=>∃ HF',zr lb (T+2) (Kn F m how k ws).1 HF'∧v=.tuple #[.agg (List.toArray (hdC (Kn F m how k ws).2.1)),zi (Kn F m how k ws).2.2]∧H'=HF'++H):=by
 cases hF with
 | @mk tb wb g1 g2 rb db M HT HW H1 H2 HR HD HM hT hO hW h1 o1 h2 o2 hR hU hD hM =>
 have e0:((lb,.cells 134 15 (qD F.n M tb wb g1 g2 rb db))::(HT++(HW++(H1++(H2++(HR++(HD++HM.flatten)))))))++H=(lb,.cells 134 15 (qD F.n M tb wb g1 g2 rb db))::(HT++(HW++(H1++(H2++(HR++(HD++(HM.flatten++H))))))):=by simp only [List.cons_append,List.append_assoc]
 rw [e0]
 refine qd (l:=[zp lb,zi m,zi how,zu k,.slice adw ws.length capw]) Tryz.func14 rfl Tryz.ntmps14 rfl rfl ?_
 refine zo ?_
 refine qR (l:=[zp lb]) rfl rfl rfl (fun b5=>?_)
 refine qR (l:=[zi m]) rfl rfl rfl (fun b6=>?_)
 refine qR (l:=[zi how]) rfl rfl rfl (fun b7=>?_)
 refine qR (l:=[zu k]) rfl rfl rfl (fun b8=>?_)
 refine qR (l:=[.slice adw ws.length capw]) rfl rfl rfl (fun b9=>?_)
 refine qA (l:=hdC zHd) qO rfl rfl (fun b10=>?_)
 refine za 3 rfl ?_
 refine qA (l:=hdC zHd) qO rfl rfl (fun b12=>?_)
 refine za 2 rfl ?_
 refine qf (v:=zp lb) rfl Ke rfl (qh.own (b:=b5) zM rfl) rfl ?_
 refine qf (v:=zi m) rfl ty3 rfl (qh.own (b:=b6) zM rfl) rfl ?_
 refine qL .nil (.cons rfl (.cons rfl (.cons rfl (.cons rfl (.cons rfl (.cons rfl .nil)))))) rfl ?_
 rcases hM.ways (F:=F) m with ⟨hmf,hmp⟩ | ⟨i,mb,x,b,X,rfl,hi4,hmc,hms,hX0,hX,hmf,hmp⟩
 ·skip
  refine qB (zc3 rfl rfl rfl) Tryz.call59 rfl (Kq (n:=F.n) (lb:=lb) (tb:=tb) (wb:=wb) (g1:=g1) (g2:=g2) (rb:=rb) (db:=db) (M:=M) zM hM.m4 hmp) ?_
  refine za 3 rfl ?_
  refine qK (vs:=hdC zHd) rfl qO rfl (b:=b12) zM rfl rfl rfl ?_
  refine qH rfl rfl ?_
  refine qp (l':=hdC zHd) rfl rfl qO rfl rfl (b:=b10) zM (by exact Nat.le_refl 2) rfl zU ?_
  refine za 2 rfl ?_
  refine zC (H2:=(lb,.cells 134 15 (qD F.n M tb wb g1 g2 rb db))::(HT++(HW++(H1++(H2++(HR++(HD++(HM.flatten++H)))))))) Tryz.results14 (.nil _) (.own rfl qO rfl zM rfl) (.tmp rfl) zH ?_
  have e:Kn F m how k ws=(F,zHd,4):=by unfold Kn; rw [hmf]
  rw [e]
  exact ⟨_,.mk hT (hO.up (Nat.le_add_right T 2)) hW h1 o1 h2 o2 hR hU hD (hM.up (Nat.le_add_right T 2)),rfl,by simp only [List.cons_append,List.append_assoc]⟩
 ·skip
  refine qT (H':=(b7,.cells 3 1 [zi how])::(b8,.cells 30 1 [zu k])::(b9,.cells 84 1 [.slice adw ws.length capw])::(b5,.cells 23 1 [zp lb])::(b6,.cells 3 1 [zi (i:Int)])::(b12,.cells 40 2 (hdC zHd))::(lb,.cells 134 15 (qD F.n M tb wb g1 g2 rb db))::(HT++(HW++(H1++(H2++(HR++(HD++(HM.flatten++((b10,.cells 40 2 (hdC zHd))::H))))))))) zH ?_
  refine qn (zc3 rfl rfl rfl) Tryz.call59 rfl (Kr (n:=F.n) (lb:=lb) (tb:=tb) (wb:=wb) (g1:=g1) (g2:=g2) (rb:=rb) (db:=db) (M:=M) (fi:=60) (ca:=[zp b7,zp b8,zp b9,zp b5,zp b6,zp b12]) zM hM.m4 Tryz.call60 hmp (qkJ (b5:=b5) (b6:=b6) (b7:=b7) (b8:=b8) (b9:=b9) (b12:=b12) (H:=(b10,.cells 40 2 (hdC zHd))::H) hT hO hW h1 o1 h2 o2 hR hU hD hM hi4 hmc hX0 hX (how:=how) (k:=k) (ws:=ws) (adw:=adw) (capw:=capw) hTab hTl hk (fun HZ=>by have:=hrow (HZ++[(b10,.cells 40 2 (hdC zHd))]); simpa only [List.cons_append,List.append_assoc,List.nil_append] using this)) (by rintro v H2 ⟨_,_,e,_⟩; exact ⟨_,e⟩)) ?_
  rintro v H' ⟨HF3,hF3,rfl,rfl⟩
  refine za 3 rfl ?_
  refine qK (vs:=hdC (KU F i x b how k ws).2.1) rfl qO rfl (b:=b12) zM rfl rfl rfl ?_
  refine qH rfl rfl ?_
  refine qp (l':=hdC (KU F i x b how k ws).2.1) rfl rfl qO rfl rfl (b:=b10) zM (by exact Nat.le_refl 2) rfl zU ?_
  refine za 2 rfl ?_
  refine zC (H2:=HF3++H) Tryz.results14 (.nil _) (.own rfl qO rfl zM rfl) (.tmp rfl) zH ?_
  have e:Kn F (i:Int) how k ws=KU F i x b how k ws:=by unfold Kn; rw [hmf]; dsimp only; rw [Int.toNat_natCast]
  rw [e]
  exact ⟨HF3,hF3,rfl,rfl⟩
attribute [local irreducible] Qb zJ
structure Gn where
 map:Int
 number:Int
 gen:Int
 whole:Bool
deriving DecidableEq
def gnC (g:Gn):List Value:=[zi g.map,zi g.number,zi g.gen,.bool g.whole]
theorem qe2 (g:Gn):(gnC g).length=4:=rfl
def zm (dy:List (Int × Hd)) (z:Int):Hd:=((dy.find? (fun p=>decide (z=p.1))).map (·.2)).getD zHd
def Z8 (dy:List (Int × Hd)) (z:Int):List (Int × Hd):=dy.filter (fun p=>decide (z≠p.1))
theorem qmW (E:List Dye) (z:Int):(Ys (E.map Dye.ent) z).getD (.agg (List.toArray (hdC zHd)))=.agg (List.toArray (hdC (zm (E.map Dye.p) z))):=by
 unfold Ys zm
 rw [List.find?_map,List.find?_map,Option.map_map,Option.map_map]
 show (((E.find? (fun e=>decide (z=e.key))).map _).getD _)=Value.agg (List.toArray (hdC (((E.find? (fun e=>decide (z=e.key))).map _).getD zHd)))
 cases E.find? (fun e=>decide (z=e.key)) <;> rfl
theorem qcG (E:List Dye) (z:Int):JL (E.map Dye.ent) z=(E.filter (fun e=>decide (z≠e.key))).map Dye.ent∧(E.filter (fun e=>decide (z≠e.key))).map Dye.p=Z8 (E.map Dye.p) z:=by
 constructor
 ·unfold JL; rw [List.filter_map]; rfl
 ·unfold Z8; rw [List.filter_map]; rfl
def us1 (F:Lf) (z:Nat):List (Int × Cnt):=if 0<(ofA F.At (z:Int)).prog then (Jn F.us (max ((ofA F.At (z:Int)).prog-1) 0)).1 else F.us
def us2 (F:Lf) (z:Nat):List (Int × Cnt):=if 0<(ofW F.Aw (z:Int)).prog then (Jn (us1 F z) (max ((ofW F.Aw (z:Int)).prog-1) 0)).1 else us1 F z
theorem Y5.us1 (h:Y5 F.us) (z:Nat):Y5 (us1 F z):=by
 unfold Go.Proofs.YtincjohoncljoaaGreatDoor.us1; split
 ·exact h.drop _
 ·exact h
theorem Y5.us2 (h:Y5 F.us) (z:Nat):Y5 (us2 F z):=by
 unfold Go.Proofs.YtincjohoncljoaaGreatDoor.us2; split
 ·exact (h.us1 z).drop _
 ·exact h.us1 z
def qes (F:Lf) (z:Nat) (x:Xm) (b:Bool):Lf × List Gn:=({ F with ms:=F.ms.set (z/16) (some ((x.free (zm F.dy (z:Int))).1,b)),us:=us2 F z,Ws:=(zJ F.Ws F.Qt F.Rt F.At (z:Int)).1,Qt:=(zJ F.Ws F.Qt F.Rt F.At (z:Int)).2.1,At:=(zJ F.Ws F.Qt F.Rt F.At (z:Int)).2.2.1,Qw:=(z3 F.Qw F.Rw F.Aw z).1,Aw:=(z3 F.Qw F.Rw F.Aw z).2.1,dy:=Z8 F.dy (z:Int) },[⟨((z/16:Nat):Int),(z:Int),(zm F.dy (z:Int)).gen,false⟩])
def z8 (F:Lf) (z:Nat):Lf × List Gn:=if (inR F.Rt (z:Int)).isSome=true∨(inR F.Rw (z:Int)).isSome=true then ({ F with cl:=zV F.cl F.n z },[]) else match JK F ((z/16:Nat):Int) with
 | none=>(F,[])
 | some (x,b)=>qes F z x b
theorem J5.runs {HB:qe} {n:Nat} {Q Rs:List (Int × Int)} {As:List Qe} {on:List Int} (h:J5 wb n Q Rs As on HB) (hs:∀ p∈HB,p∈H) {id:Int}:qG Tryz.prog w0 H 158 [zp wb,zi id] (JY (inR Rs id)):=by
 cases h with
 | mk hP hA hn=>exact qeN hP (hs _ List.mem_cons_self) (fun p hp=>hs p (List.mem_cons_of_mem _ hp))
theorem J5.clear {HB:qe} {n:Nat} {Q Rs:List (Int × Int)} {As:List Qe} {on:List Int} (h:J5 wb n Q Rs As on HB) {z:Nat} (hz:z<256):qk Tryz.prog w0 162 #[zp wb,zi (z:Int)] (HB++H) (fun v H'=>∃ HB',J5 wb n (z3 Q Rs As z).1 Rs (z3 Q Rs As z).2.1 on HB'∧(∃ m,v=zi m)∧H'=HB'++H):=by
 cases h with
 | @mk pb HP hP hA hn =>
  obtain ⟨o,ho⟩:=hA.at (i:=z) hz
  refine (qfn (H:=H) hP hn ho hz).mono ?_
  rintro v H' ⟨HP2,hP2,rfl,rfl⟩
  refine ⟨_,.mk hP2 ?_ hn,⟨_,rfl⟩,rfl⟩
  unfold z3
  split
  ·exact hA
  ·exact hA.set z (o:=Ze) zd
attribute [local irreducible] z3 us2 us1
theorem zr.free_ (hF:zr lb T F HF) {z:Nat} (hz:z<64) (hmf:JK F ((z/16:Nat):Int)=some (x,b)) :qk Tryz.prog w0 71 #[zp lb,zi (z:Int)] (HF++H) (fun v H'=>∃ HF' XG,zr lb T (z8 F z).1 HF'∧zz 50 4 v (z8 F z).2.length ((z8 F z).2.flatMap gnC) XG∧H'=XG++(HF'++H)):=by
 cases hF with
 | @mk tb wb g1 g2 rb db M HT HW H1 H2 HR HD HM hT hO hW h1 o1 h2 o2 hR hU hD hM =>
 cases hD with
 | @mk E cl hok hdy =>
 have e0:((lb,.cells 134 15 (qD F.n M tb wb g1 g2 rb db))::(HT++(HW++(H1++(H2++(HR++([(db,.obj (qS (Value.int .i64) ((E).map Dye.ent) cl))]++HM.flatten)))))))++H=(lb,.cells 134 15 (qD F.n M tb wb g1 g2 rb db))::(HT++(HW++(H1++(H2++(HR++((db,.obj (qS (Value.int .i64) ((E).map Dye.ent) cl))::(HM.flatten++H))))))):=by simp only [List.cons_append,List.append_assoc,List.nil_append]
 rw [e0]
 refine qd (l:=[zp lb,zi (z:Int)]) Tryz.func71 rfl Tryz.ntmps71 rfl rfl ?_
 refine za 7 rfl ?_
 refine qf (v:=zp tb) rfl Y3 rfl (qh.own (b:=lb) zM (Qj (j:=0) hM.m4)) rfl ?_
 refine qH rfl rfl ?_
 refine qB (zc2 rfl rfl) Tryz.call157 rfl (qj8 (id:=(z:Int)) hT (fun p hp=>List.mem_cons_of_mem _ (List.mem_append_left _ hp))) ?_
 rcases hrt:inR F.Rt (z:Int) with _ | ct
 ·skip
  rw [show JY none=.tuple #[zi 0,.bool false] from rfl]
  refine za 10 rfl ?_
  refine qf (v:=zp wb) rfl Yp rfl (qh.own (b:=lb) zM (Qj (j:=1) hM.m4)) rfl ?_
  refine qH rfl rfl ?_
  refine qB (zc2 rfl rfl) Tryz.call158 rfl (hW.runs (id:=(z:Int)) (fun p hp=>List.mem_cons_of_mem _ (List.mem_append_right _ (List.mem_append_left _ hp)))) ?_
  rcases hrw:inR F.Rw (z:Int) with _ | cx
  ·skip
   rw [show JY none=.tuple #[zi 0,.bool false] from rfl]
   refine za 20 rfl ?_
   obtain ⟨i',mb,x',b',X,ei,hi4,hmc,hms,hX0,hX,hmf2,hmp⟩:=(hM.ways (F:=F) ((z/16:Nat):Int)).resolve_left (fun h=>by rw [hmf] at h; cases h.1)
   obtain rfl:i'=z/16:=by omega
   rw [hmf] at hmf2
   cases hmf2
   refine qf (v:=.map (some db)) rfl JC rfl (qh.own (b:=lb) zM (Qj (j:=5) hM.m4)) rfl ?_
   refine qH rfl rfl ?_
   refine qbC (l:=E.map Dye.ent) (cl:=cl) (a:=(z:Int)) (kf:=(Value.int .i64)) (b:=db) (zE:=.agg (List.toArray (hdC zHd))) rfl rfl kkI JC (fun w=>by kernel_rfl) zM rfl ?_
   simp only [Bool.false_eq_true,if_false]
   rw [qmW,hdy]
   refine qA (l:=hdC zHd) qO rfl rfl (fun b9=>?_)
   refine qp (l':=hdC (zm F.dy (z:Int))) rfl rfl qO rfl rfl (b:=b9) zM (by exact Nat.le_refl 2) rfl zU ?_
   refine za 2 rfl ?_
   refine zy [(b9,.cells 40 2 (hdC (zm F.dy (z:Int)))),(lb,.cells 134 15 (qD F.n M tb wb g1 g2 rb db))] zk ?_
   refine zw [0,1] rfl rfl ?_
   refine qm 2 rfl zK zK zK rfl rfl (QQ rfl rfl (qdJ (by decide) (m:=((z/16:Nat):Int)) (by rw [Int.tdiv_eq_ediv_of_nonneg (by omega),qW (by omega)]; omega))) rfl ?_
   refine qm 4 rfl zK zK zK rfl rfl (Qf (vs:=hdC (zm F.dy (z:Int))) rfl qO rfl (b:=b9) zM rfl rfl) rfl ?_
   refine qJ 3 zH zK rfl rfl ?_
   refine qB (zc2 rfl rfl) Tryz.call29 rfl (qek (n:=F.n) (lb:=lb) (tb:=tb) (wb:=wb) (g1:=g1) (g2:=g2) (rb:=rb) (db:=db) (M:=M) (m:=((z/16:Nat):Int)) zM hM.m4) ?_
   rw [hmp]
   refine qs (WC_goal ?_)
   refine qJ 5 zH zK rfl rfl ?_
   refine qT (H':=X++((b9,.cells 40 2 (hdC (zm F.dy (z:Int))))::(lb,.cells 134 15 (qD F.n M tb wb g1 g2 rb db))::(HT++(HW++(H1++(H2++(HR++((db,.obj (qS (Value.int .i64) ((E).map Dye.ent) cl))::((HM.set (z/16) []).flatten++H))))))))) ((show qr _ ((b9,.cells 40 2 (hdC (zm F.dy (z:Int))))::(lb,.cells 134 15 (qD F.n M tb wb g1 g2 rb db))::(HT++(HW++(H1++(H2++(HR++((db,.obj (qS (Value.int .i64) ((E).map Dye.ent) cl))::(X++((HM.set (z/16) []).flatten++H))))))))) from .cons (.here _) (.cons (.here _) (.app (.here _) (.app (.here _) (.app (.here _) (.app (.here _) (.app (.here _) (.cons (.here _) (Qs hX0))))))))).trans zH) ?_
   refine qn (zc2 rfl rfl) Tryz.call159 rfl (hX.free (h:=(zm F.dy (z:Int))) (H:=(b9,.cells 40 2 (hdC (zm F.dy (z:Int))))::(lb,.cells 134 15 (qD F.n M tb wb g1 g2 rb db))::(HT++(HW++(H1++(H2++(HR++((db,.obj (qS (Value.int .i64) ((E).map Dye.ent) cl))::((HM.set (z/16) []).flatten++H))))))))) ?_
   rintro v H' ⟨X2,hX2,rfl,rfl⟩
   refine qT (H':=(b9,.cells 40 2 (hdC (zm F.dy (z:Int))))::(lb,.cells 134 15 (qD F.n M tb wb g1 g2 rb db))::(HT++(HW++(H1++(H2++(HR++((db,.obj (qS (Value.int .i64) ((E).map Dye.ent) cl))::((HM.set (z/16) X2).flatten++H)))))))) ((show qr _ ((b9,.cells 40 2 (hdC (zm F.dy (z:Int))))::(lb,.cells 134 15 (qD F.n M tb wb g1 g2 rb db))::(HT++(HW++(H1++(H2++(HR++((db,.obj (qS (Value.int .i64) ((E).map Dye.ent) cl))::(X2++((HM.set (z/16) []).flatten++H))))))))) from zH).trans (.cons (.here _) (.cons (.here _) (.app (.here _) (.app (.here _) (.app (.here _) (.app (.here _) (.app (.here _) (.cons (.here _) (Zb (by rw [hM.h4]; exact hi4))))))))))) ?_
   refine qs (WC_goal (WC_done zH zK (za 5 rfl ?_)))
   refine qf (v:=zp tb) rfl Y3 rfl (qh.own (b:=lb) zM (Qj (j:=0) hM.m4)) rfl ?_
   refine qH rfl rfl ?_
   refine qB (zc2 rfl rfl) Tryz.call78 rfl (qj9 (id:=(z:Int)) hT (fun p hp=>List.mem_cons_of_mem _ (List.mem_cons_of_mem _ (List.mem_append_left _ hp)))) ?_
   refine za 9 rfl ?_
   refine qq (p:=0<(ofA F.At (z:Int)).prog) rfl (by simp) (fun q0=>?_) (fun q0=>?_)
   ·skip
    refine za 4 rfl ?_
    refine qf (v:=zp rb) rfl qai rfl (qh.own (b:=lb) zM (Qj (j:=4) hM.m4)) rfl ?_
    refine qH rfl rfl ?_
    refine qn (zc2 rfl rfl) Tryz.call160 rfl ((Y6.drop hR hU.cnt (k:=max ((ofA F.At (z:Int)).prog-1) 0) (H:=(b9,.cells 40 2 (hdC (zm F.dy (z:Int))))::(lb,.cells 134 15 (qD F.n M tb wb g1 g2 rb db))::(HT++(HW++(H1++(H2++((db,.obj (qS (Value.int .i64) ((E).map Dye.ent) cl))::((HM.set (z/16) X2).flatten++H)))))))).hsub zH) ?_
    rintro v H' ⟨HR2,hR2,rfl,rfl⟩
    refine qT (H':=(b9,.cells 40 2 (hdC (zm F.dy (z:Int))))::(lb,.cells 134 15 (qD F.n M tb wb g1 g2 rb db))::(HT++(HW++(H1++(H2++(HR2++((db,.obj (qS (Value.int .i64) ((E).map Dye.ent) cl))::((HM.set (z/16) X2).flatten++H)))))))) zH ?_
    refine za 6 rfl ?_
    refine qf (v:=zp wb) rfl Yp rfl (qh.own (b:=lb) zM (Qj (j:=1) hM.m4)) rfl ?_
    refine qH rfl rfl ?_
    have e1:us1 F z=(Jn F.us (max ((ofA F.At (z:Int)).prog-1) 0)).1:=by unfold us1; rw [if_pos q0]
    have hR1:Y6 rb 8 (us1 F z) HR2:=by rw [e1]; exact hR2
    refine qB (zc2 rfl rfl) Tryz.call73 rfl (hW.prog (id:=(z:Int)) (fun p hp=>List.mem_cons_of_mem _ (List.mem_cons_of_mem _ (List.mem_append_right _ (List.mem_append_left _ hp))))) ?_
    refine za 9 rfl ?_
    refine qq (p:=0<(ofW F.Aw (z:Int)).prog) rfl (by simp) (fun q1=>?_) (fun q1=>?_)
    ·skip
     refine za 4 rfl ?_
     refine qf (v:=zp rb) rfl qai rfl (qh.own (b:=lb) zM (Qj (j:=4) hM.m4)) rfl ?_
     refine qH rfl rfl ?_
     refine qn (zc2 rfl rfl) Tryz.call160 rfl ((Y6.drop hR1 (hU.us1 z).cnt (k:=max ((ofW F.Aw (z:Int)).prog-1) 0) (H:=(b9,.cells 40 2 (hdC (zm F.dy (z:Int))))::(lb,.cells 134 15 (qD F.n M tb wb g1 g2 rb db))::(HT++(HW++(H1++(H2++((db,.obj (qS (Value.int .i64) ((E).map Dye.ent) cl))::((HM.set (z/16) X2).flatten++H)))))))).hsub zH) ?_
     rintro v H' ⟨HR3,hR3,rfl,rfl⟩
     refine qT (H':=(b9,.cells 40 2 (hdC (zm F.dy (z:Int))))::(lb,.cells 134 15 (qD F.n M tb wb g1 g2 rb db))::(HT++(HW++(H1++(H2++(HR3++((db,.obj (qS (Value.int .i64) ((E).map Dye.ent) cl))::((HM.set (z/16) X2).flatten++H)))))))) zH ?_
     refine za 5 rfl ?_
     refine qf (v:=zp tb) rfl Y3 rfl (qh.own (b:=lb) zM (Qj (j:=0) hM.m4)) rfl ?_
     refine qH rfl rfl ?_
     have e2:us2 F z=(Jn (us1 F z) (max ((ofW F.Aw (z:Int)).prog-1) 0)).1:=by unfold us2; rw [if_pos q1]
     have hR9:Y6 rb 8 (us2 F z) HR3:=by rw [e2]; exact hR3
     refine qn (zc2 rfl rfl) Tryz.call161 rfl ((qaL hT hO (id:=(z:Int)) (H:=(b9,.cells 40 2 (hdC (zm F.dy (z:Int))))::(lb,.cells 134 15 (qD F.n M tb wb g1 g2 rb db))::(HW++(H1++(H2++(HR3++((db,.obj (qS (Value.int .i64) ((E).map Dye.ent) cl))::((HM.set (z/16) X2).flatten++H)))))))).hsub zH) ?_
     rintro v H' ⟨HT2,hT2,hO2,rfl,rfl⟩
     refine za 5 rfl ?_
     refine qf (v:=zp wb) rfl Yp rfl (qh.own (b:=lb) zM (Qj (j:=1) hM.m4)) rfl ?_
     refine qH rfl rfl ?_
     refine qn (zc2 rfl rfl) Tryz.call162 rfl ((hW.clear (z:=z) zO (H:=(b9,.cells 40 2 (hdC (zm F.dy (z:Int))))::(lb,.cells 134 15 (qD F.n M tb wb g1 g2 rb db))::(HT2++(H1++(H2++(HR3++((db,.obj (qS (Value.int .i64) ((E).map Dye.ent) cl))::((HM.set (z/16) X2).flatten++H)))))))).hsub zH) ?_
     rintro v H' ⟨HW2,hW2,⟨mw,rfl⟩,rfl⟩
     refine za 5 rfl ?_
     refine qf (v:=.map (some db)) rfl JC rfl (qh.own (b:=lb) zM (Qj (j:=5) hM.m4)) rfl ?_
     refine qH rfl rfl ?_
     refine Jt (a:=(z:Int)) (l:=E.map Dye.ent) (cl:=cl) (kf:=(Value.int .i64)) (b:=db) rfl rfl kkI JC hok zU rfl ?_
     obtain ⟨hdd,hdp⟩:=qcG E (z:Int)
     rw [hdd]
     refine za 3 rfl ?_
     refine qF rfl rfl (qdJ (by decide) (m:=((z/16:Nat):Int)) (by rw [Int.tdiv_eq_ediv_of_nonneg (by omega),qW (by omega)]; omega)) rfl ?_
     refine za 2 rfl ?_
     refine qf (v:=zi (zm F.dy (z:Int)).gen) rfl ty3 rfl (qh.own (b:=b9) zM rfl) rfl ?_
     refine zb (l:=gnC ⟨((z/16:Nat):Int),(z:Int),(zm F.dy (z:Int)).gen,false⟩) Y4 qfD (.cons rfl rfl rfl rfl rfl (.cons rfl rfl rfl rfl rfl (.cons rfl rfl rfl rfl rfl .nil))) rfl rfl rfl ?_
     refine qv (l:=gnC ⟨((z/16:Nat):Int),(z:Int),(zm F.dy (z:Int)).gen,false⟩) Ka Y4 (.cons rfl rfl rfl rfl rfl .nil) rfl rfl rfl rfl rfl rfl rfl (fun b116=>?_)
     refine za 2 rfl ?_
     refine qj (H2:=[(b116,.cells 50 4 (gnC ⟨((z/16:Nat):Int),(z:Int),(zm F.dy (z:Int)).gen,false⟩))]++((lb,.cells 134 15 (qD F.n M tb wb g1 g2 rb db))::(HT2++(HW2++(H1++(H2++(HR3++((db,.obj (qS (Value.int .i64) (((E.filter (fun e=>decide ((z:Int)≠e.key)))).map Dye.ent) cl))::((HM.set (z/16) X2).flatten++H))))))))) Tryz.results71 rfl (.nil _) zH ?_
     have e:z8 F z=({ F with ms:=F.ms.set (z/16) (some ((x.free (zm F.dy (z:Int))).1,b)),us:=us2 F z,Ws:=(zJ F.Ws F.Qt F.Rt F.At (z:Int)).1,Qt:=(zJ F.Ws F.Qt F.Rt F.At (z:Int)).2.1,At:=(zJ F.Ws F.Qt F.Rt F.At (z:Int)).2.2.1,Qw:=(z3 F.Qw F.Rw F.Aw z).1,Aw:=(z3 F.Qw F.Rw F.Aw z).2.1,dy:=Z8 F.dy (z:Int) },[⟨((z/16:Nat):Int),(z:Int),(zm F.dy (z:Int)).gen,false⟩]):=by
      unfold z8
      rw [if_neg (by rw [hrt,hrw]; rintro (c | c) <;> cases c),hmf]
      rfl
     rw [e]
     have hokd:=hok.del (z:Int)
     rw [hdd] at hokd
     have hD2:DyH db (Z8 F.dy (z:Int)) [(db,.obj (qS (Value.int .i64) (((E.filter (fun e=>decide ((z:Int)≠e.key)))).map Dye.ent) cl))]:=.mk hokd (by rw [hdp,hdy])
     have hM2:=hM.set (k:=z/16) (.some (b:=b) hX2)
     rw [show M.set (z/16) (some mb,b)=M from Jj hmc] at hM2
     exact ⟨_,[(b116,.cells 50 4 (gnC ⟨((z/16:Nat):Int),(z:Int),(zm F.dy (z:Int)).gen,false⟩))],.mk (F:={ F with ms:=F.ms.set (z/16) (some ((x.free (zm F.dy (z:Int))).1,b)),us:=us2 F z,Ws:=(zJ F.Ws F.Qt F.Rt F.At (z:Int)).1,Qt:=(zJ F.Ws F.Qt F.Rt F.At (z:Int)).2.1,At:=(zJ F.Ws F.Qt F.Rt F.At (z:Int)).2.2.1,Qw:=(z3 F.Qw F.Rw F.Aw z).1,Aw:=(z3 F.Qw F.Rw F.Aw z).2.1,dy:=Z8 F.dy (z:Int) }) (db:=db) hT2 hO2 hW2 h1 o1 h2 o2 hR9 (hU.us2 z) hD2 hM2,.own (n:=1) (cap:=1) rfl (Nat.le_refl 1) (by decide),by simp only [List.cons_append,List.append_assoc,List.nil_append]⟩
    ·skip
     refine za 5 rfl ?_
     refine qf (v:=zp tb) rfl Y3 rfl (qh.own (b:=lb) zM (Qj (j:=0) hM.m4)) rfl ?_
     refine qH rfl rfl ?_
     have e2:us2 F z=us1 F z:=by unfold us2; rw [if_neg q1]
     have hR9:Y6 rb 8 (us2 F z) HR2:=by rw [e2]; exact hR1
     refine qn (zc2 rfl rfl) Tryz.call161 rfl ((qaL hT hO (id:=(z:Int)) (H:=(b9,.cells 40 2 (hdC (zm F.dy (z:Int))))::(lb,.cells 134 15 (qD F.n M tb wb g1 g2 rb db))::(HW++(H1++(H2++(HR2++((db,.obj (qS (Value.int .i64) ((E).map Dye.ent) cl))::((HM.set (z/16) X2).flatten++H)))))))).hsub zH) ?_
     rintro v H' ⟨HT2,hT2,hO2,rfl,rfl⟩
     refine za 5 rfl ?_
     refine qf (v:=zp wb) rfl Yp rfl (qh.own (b:=lb) zM (Qj (j:=1) hM.m4)) rfl ?_
     refine qH rfl rfl ?_
     refine qn (zc2 rfl rfl) Tryz.call162 rfl ((hW.clear (z:=z) zO (H:=(b9,.cells 40 2 (hdC (zm F.dy (z:Int))))::(lb,.cells 134 15 (qD F.n M tb wb g1 g2 rb db))::(HT2++(H1++(H2++(HR2++((db,.obj (qS (Value.int .i64) ((E).map Dye.ent) cl))::((HM.set (z/16) X2).flatten++H)))))))).hsub zH) ?_
     rintro v H' ⟨HW2,hW2,⟨mw,rfl⟩,rfl⟩
     refine za 5 rfl ?_
     refine qf (v:=.map (some db)) rfl JC rfl (qh.own (b:=lb) zM (Qj (j:=5) hM.m4)) rfl ?_
     refine qH rfl rfl ?_
     refine Jt (a:=(z:Int)) (l:=E.map Dye.ent) (cl:=cl) (kf:=(Value.int .i64)) (b:=db) rfl rfl kkI JC hok zU rfl ?_
     obtain ⟨hdd,hdp⟩:=qcG E (z:Int)
     rw [hdd]
     refine za 3 rfl ?_
     refine qF rfl rfl (qdJ (by decide) (m:=((z/16:Nat):Int)) (by rw [Int.tdiv_eq_ediv_of_nonneg (by omega),qW (by omega)]; omega)) rfl ?_
     refine za 2 rfl ?_
     refine qf (v:=zi (zm F.dy (z:Int)).gen) rfl ty3 rfl (qh.own (b:=b9) zM rfl) rfl ?_
     refine zb (l:=gnC ⟨((z/16:Nat):Int),(z:Int),(zm F.dy (z:Int)).gen,false⟩) Y4 qfD (.cons rfl rfl rfl rfl rfl (.cons rfl rfl rfl rfl rfl (.cons rfl rfl rfl rfl rfl .nil))) rfl rfl rfl ?_
     refine qv (l:=gnC ⟨((z/16:Nat):Int),(z:Int),(zm F.dy (z:Int)).gen,false⟩) Ka Y4 (.cons rfl rfl rfl rfl rfl .nil) rfl rfl rfl rfl rfl rfl rfl (fun b116=>?_)
     refine za 2 rfl ?_
     refine qj (H2:=[(b116,.cells 50 4 (gnC ⟨((z/16:Nat):Int),(z:Int),(zm F.dy (z:Int)).gen,false⟩))]++((lb,.cells 134 15 (qD F.n M tb wb g1 g2 rb db))::(HT2++(HW2++(H1++(H2++(HR2++((db,.obj (qS (Value.int .i64) (((E.filter (fun e=>decide ((z:Int)≠e.key)))).map Dye.ent) cl))::((HM.set (z/16) X2).flatten++H))))))))) Tryz.results71 rfl (.nil _) zH ?_
     have e:z8 F z=({ F with ms:=F.ms.set (z/16) (some ((x.free (zm F.dy (z:Int))).1,b)),us:=us2 F z,Ws:=(zJ F.Ws F.Qt F.Rt F.At (z:Int)).1,Qt:=(zJ F.Ws F.Qt F.Rt F.At (z:Int)).2.1,At:=(zJ F.Ws F.Qt F.Rt F.At (z:Int)).2.2.1,Qw:=(z3 F.Qw F.Rw F.Aw z).1,Aw:=(z3 F.Qw F.Rw F.Aw z).2.1,dy:=Z8 F.dy (z:Int) },[⟨((z/16:Nat):Int),(z:Int),(zm F.dy (z:Int)).gen,false⟩]):=by
      unfold z8
      rw [if_neg (by rw [hrt,hrw]; rintro (c | c) <;> cases c),hmf]
      rfl
     rw [e]
     have hokd:=hok.del (z:Int)
     rw [hdd] at hokd
     have hD2:DyH db (Z8 F.dy (z:Int)) [(db,.obj (qS (Value.int .i64) (((E.filter (fun e=>decide ((z:Int)≠e.key)))).map Dye.ent) cl))]:=.mk hokd (by rw [hdp,hdy])
     have hM2:=hM.set (k:=z/16) (.some (b:=b) hX2)
     rw [show M.set (z/16) (some mb,b)=M from Jj hmc] at hM2
     exact ⟨_,[(b116,.cells 50 4 (gnC ⟨((z/16:Nat):Int),(z:Int),(zm F.dy (z:Int)).gen,false⟩))],.mk (F:={ F with ms:=F.ms.set (z/16) (some ((x.free (zm F.dy (z:Int))).1,b)),us:=us2 F z,Ws:=(zJ F.Ws F.Qt F.Rt F.At (z:Int)).1,Qt:=(zJ F.Ws F.Qt F.Rt F.At (z:Int)).2.1,At:=(zJ F.Ws F.Qt F.Rt F.At (z:Int)).2.2.1,Qw:=(z3 F.Qw F.Rw F.Aw z).1,Aw:=(z3 F.Qw F.Rw F.Aw z).2.1,dy:=Z8 F.dy (z:Int) }) (db:=db) hT2 hO2 hW2 h1 o1 h2 o2 hR9 (hU.us2 z) hD2 hM2,.own (n:=1) (cap:=1) rfl (Nat.le_refl 1) (by decide),by simp only [List.cons_append,List.append_assoc,List.nil_append]⟩
   ·skip
    refine za 6 rfl ?_
    refine qf (v:=zp wb) rfl Yp rfl (qh.own (b:=lb) zM (Qj (j:=1) hM.m4)) rfl ?_
    refine qH rfl rfl ?_
    have e1:us1 F z=F.us:=by unfold us1; rw [if_neg q0]
    have hR1:Y6 rb 8 (us1 F z) HR:=by rw [e1]; exact hR
    refine qB (zc2 rfl rfl) Tryz.call73 rfl (hW.prog (id:=(z:Int)) (fun p hp=>List.mem_cons_of_mem _ (List.mem_cons_of_mem _ (List.mem_append_right _ (List.mem_append_left _ hp))))) ?_
    refine za 9 rfl ?_
    refine qq (p:=0<(ofW F.Aw (z:Int)).prog) rfl (by simp) (fun q1=>?_) (fun q1=>?_)
    ·skip
     refine za 4 rfl ?_
     refine qf (v:=zp rb) rfl qai rfl (qh.own (b:=lb) zM (Qj (j:=4) hM.m4)) rfl ?_
     refine qH rfl rfl ?_
     refine qn (zc2 rfl rfl) Tryz.call160 rfl ((Y6.drop hR1 (hU.us1 z).cnt (k:=max ((ofW F.Aw (z:Int)).prog-1) 0) (H:=(b9,.cells 40 2 (hdC (zm F.dy (z:Int))))::(lb,.cells 134 15 (qD F.n M tb wb g1 g2 rb db))::(HT++(HW++(H1++(H2++((db,.obj (qS (Value.int .i64) ((E).map Dye.ent) cl))::((HM.set (z/16) X2).flatten++H)))))))).hsub zH) ?_
     rintro v H' ⟨HR3,hR3,rfl,rfl⟩
     refine qT (H':=(b9,.cells 40 2 (hdC (zm F.dy (z:Int))))::(lb,.cells 134 15 (qD F.n M tb wb g1 g2 rb db))::(HT++(HW++(H1++(H2++(HR3++((db,.obj (qS (Value.int .i64) ((E).map Dye.ent) cl))::((HM.set (z/16) X2).flatten++H)))))))) zH ?_
     refine za 5 rfl ?_
     refine qf (v:=zp tb) rfl Y3 rfl (qh.own (b:=lb) zM (Qj (j:=0) hM.m4)) rfl ?_
     refine qH rfl rfl ?_
     have e2:us2 F z=(Jn (us1 F z) (max ((ofW F.Aw (z:Int)).prog-1) 0)).1:=by unfold us2; rw [if_pos q1]
     have hR9:Y6 rb 8 (us2 F z) HR3:=by rw [e2]; exact hR3
     refine qn (zc2 rfl rfl) Tryz.call161 rfl ((qaL hT hO (id:=(z:Int)) (H:=(b9,.cells 40 2 (hdC (zm F.dy (z:Int))))::(lb,.cells 134 15 (qD F.n M tb wb g1 g2 rb db))::(HW++(H1++(H2++(HR3++((db,.obj (qS (Value.int .i64) ((E).map Dye.ent) cl))::((HM.set (z/16) X2).flatten++H)))))))).hsub zH) ?_
     rintro v H' ⟨HT2,hT2,hO2,rfl,rfl⟩
     refine za 5 rfl ?_
     refine qf (v:=zp wb) rfl Yp rfl (qh.own (b:=lb) zM (Qj (j:=1) hM.m4)) rfl ?_
     refine qH rfl rfl ?_
     refine qn (zc2 rfl rfl) Tryz.call162 rfl ((hW.clear (z:=z) zO (H:=(b9,.cells 40 2 (hdC (zm F.dy (z:Int))))::(lb,.cells 134 15 (qD F.n M tb wb g1 g2 rb db))::(HT2++(H1++(H2++(HR3++((db,.obj (qS (Value.int .i64) ((E).map Dye.ent) cl))::((HM.set (z/16) X2).flatten++H)))))))).hsub zH) ?_
     rintro v H' ⟨HW2,hW2,⟨mw,rfl⟩,rfl⟩
     refine za 5 rfl ?_
     refine qf (v:=.map (some db)) rfl JC rfl (qh.own (b:=lb) zM (Qj (j:=5) hM.m4)) rfl ?_
     refine qH rfl rfl ?_
     refine Jt (a:=(z:Int)) (l:=E.map Dye.ent) (cl:=cl) (kf:=(Value.int .i64)) (b:=db) rfl rfl kkI JC hok zU rfl ?_
     obtain ⟨hdd,hdp⟩:=qcG E (z:Int)
     rw [hdd]
     refine za 3 rfl ?_
     refine qF rfl rfl (qdJ (by decide) (m:=((z/16:Nat):Int)) (by rw [Int.tdiv_eq_ediv_of_nonneg (by omega),qW (by omega)]; omega)) rfl ?_
     refine za 2 rfl ?_
     refine qf (v:=zi (zm F.dy (z:Int)).gen) rfl ty3 rfl (qh.own (b:=b9) zM rfl) rfl ?_
     refine zb (l:=gnC ⟨((z/16:Nat):Int),(z:Int),(zm F.dy (z:Int)).gen,false⟩) Y4 qfD (.cons rfl rfl rfl rfl rfl (.cons rfl rfl rfl rfl rfl (.cons rfl rfl rfl rfl rfl .nil))) rfl rfl rfl ?_
     refine qv (l:=gnC ⟨((z/16:Nat):Int),(z:Int),(zm F.dy (z:Int)).gen,false⟩) Ka Y4 (.cons rfl rfl rfl rfl rfl .nil) rfl rfl rfl rfl rfl rfl rfl (fun b116=>?_)
     refine za 2 rfl ?_
     refine qj (H2:=[(b116,.cells 50 4 (gnC ⟨((z/16:Nat):Int),(z:Int),(zm F.dy (z:Int)).gen,false⟩))]++((lb,.cells 134 15 (qD F.n M tb wb g1 g2 rb db))::(HT2++(HW2++(H1++(H2++(HR3++((db,.obj (qS (Value.int .i64) (((E.filter (fun e=>decide ((z:Int)≠e.key)))).map Dye.ent) cl))::((HM.set (z/16) X2).flatten++H))))))))) Tryz.results71 rfl (.nil _) zH ?_
     have e:z8 F z=({ F with ms:=F.ms.set (z/16) (some ((x.free (zm F.dy (z:Int))).1,b)),us:=us2 F z,Ws:=(zJ F.Ws F.Qt F.Rt F.At (z:Int)).1,Qt:=(zJ F.Ws F.Qt F.Rt F.At (z:Int)).2.1,At:=(zJ F.Ws F.Qt F.Rt F.At (z:Int)).2.2.1,Qw:=(z3 F.Qw F.Rw F.Aw z).1,Aw:=(z3 F.Qw F.Rw F.Aw z).2.1,dy:=Z8 F.dy (z:Int) },[⟨((z/16:Nat):Int),(z:Int),(zm F.dy (z:Int)).gen,false⟩]):=by
      unfold z8
      rw [if_neg (by rw [hrt,hrw]; rintro (c | c) <;> cases c),hmf]
      rfl
     rw [e]
     have hokd:=hok.del (z:Int)
     rw [hdd] at hokd
     have hD2:DyH db (Z8 F.dy (z:Int)) [(db,.obj (qS (Value.int .i64) (((E.filter (fun e=>decide ((z:Int)≠e.key)))).map Dye.ent) cl))]:=.mk hokd (by rw [hdp,hdy])
     have hM2:=hM.set (k:=z/16) (.some (b:=b) hX2)
     rw [show M.set (z/16) (some mb,b)=M from Jj hmc] at hM2
     exact ⟨_,[(b116,.cells 50 4 (gnC ⟨((z/16:Nat):Int),(z:Int),(zm F.dy (z:Int)).gen,false⟩))],.mk (F:={ F with ms:=F.ms.set (z/16) (some ((x.free (zm F.dy (z:Int))).1,b)),us:=us2 F z,Ws:=(zJ F.Ws F.Qt F.Rt F.At (z:Int)).1,Qt:=(zJ F.Ws F.Qt F.Rt F.At (z:Int)).2.1,At:=(zJ F.Ws F.Qt F.Rt F.At (z:Int)).2.2.1,Qw:=(z3 F.Qw F.Rw F.Aw z).1,Aw:=(z3 F.Qw F.Rw F.Aw z).2.1,dy:=Z8 F.dy (z:Int) }) (db:=db) hT2 hO2 hW2 h1 o1 h2 o2 hR9 (hU.us2 z) hD2 hM2,.own (n:=1) (cap:=1) rfl (Nat.le_refl 1) (by decide),by simp only [List.cons_append,List.append_assoc,List.nil_append]⟩
    ·skip
     refine za 5 rfl ?_
     refine qf (v:=zp tb) rfl Y3 rfl (qh.own (b:=lb) zM (Qj (j:=0) hM.m4)) rfl ?_
     refine qH rfl rfl ?_
     have e2:us2 F z=us1 F z:=by unfold us2; rw [if_neg q1]
     have hR9:Y6 rb 8 (us2 F z) HR:=by rw [e2]; exact hR1
     refine qn (zc2 rfl rfl) Tryz.call161 rfl ((qaL hT hO (id:=(z:Int)) (H:=(b9,.cells 40 2 (hdC (zm F.dy (z:Int))))::(lb,.cells 134 15 (qD F.n M tb wb g1 g2 rb db))::(HW++(H1++(H2++(HR++((db,.obj (qS (Value.int .i64) ((E).map Dye.ent) cl))::((HM.set (z/16) X2).flatten++H)))))))).hsub zH) ?_
     rintro v H' ⟨HT2,hT2,hO2,rfl,rfl⟩
     refine za 5 rfl ?_
     refine qf (v:=zp wb) rfl Yp rfl (qh.own (b:=lb) zM (Qj (j:=1) hM.m4)) rfl ?_
     refine qH rfl rfl ?_
     refine qn (zc2 rfl rfl) Tryz.call162 rfl ((hW.clear (z:=z) zO (H:=(b9,.cells 40 2 (hdC (zm F.dy (z:Int))))::(lb,.cells 134 15 (qD F.n M tb wb g1 g2 rb db))::(HT2++(H1++(H2++(HR++((db,.obj (qS (Value.int .i64) ((E).map Dye.ent) cl))::((HM.set (z/16) X2).flatten++H)))))))).hsub zH) ?_
     rintro v H' ⟨HW2,hW2,⟨mw,rfl⟩,rfl⟩
     refine za 5 rfl ?_
     refine qf (v:=.map (some db)) rfl JC rfl (qh.own (b:=lb) zM (Qj (j:=5) hM.m4)) rfl ?_
     refine qH rfl rfl ?_
     refine Jt (a:=(z:Int)) (l:=E.map Dye.ent) (cl:=cl) (kf:=(Value.int .i64)) (b:=db) rfl rfl kkI JC hok zU rfl ?_
     obtain ⟨hdd,hdp⟩:=qcG E (z:Int)
     rw [hdd]
     refine za 3 rfl ?_
     refine qF rfl rfl (qdJ (by decide) (m:=((z/16:Nat):Int)) (by rw [Int.tdiv_eq_ediv_of_nonneg (by omega),qW (by omega)]; omega)) rfl ?_
     refine za 2 rfl ?_
     refine qf (v:=zi (zm F.dy (z:Int)).gen) rfl ty3 rfl (qh.own (b:=b9) zM rfl) rfl ?_
     refine zb (l:=gnC ⟨((z/16:Nat):Int),(z:Int),(zm F.dy (z:Int)).gen,false⟩) Y4 qfD (.cons rfl rfl rfl rfl rfl (.cons rfl rfl rfl rfl rfl (.cons rfl rfl rfl rfl rfl .nil))) rfl rfl rfl ?_
     refine qv (l:=gnC ⟨((z/16:Nat):Int),(z:Int),(zm F.dy (z:Int)).gen,false⟩) Ka Y4 (.cons rfl rfl rfl rfl rfl .nil) rfl rfl rfl rfl rfl rfl rfl (fun b116=>?_)
     refine za 2 rfl ?_
     refine qj (H2:=[(b116,.cells 50 4 (gnC ⟨((z/16:Nat):Int),(z:Int),(zm F.dy (z:Int)).gen,false⟩))]++((lb,.cells 134 15 (qD F.n M tb wb g1 g2 rb db))::(HT2++(HW2++(H1++(H2++(HR++((db,.obj (qS (Value.int .i64) (((E.filter (fun e=>decide ((z:Int)≠e.key)))).map Dye.ent) cl))::((HM.set (z/16) X2).flatten++H))))))))) Tryz.results71 rfl (.nil _) zH ?_
     have e:z8 F z=({ F with ms:=F.ms.set (z/16) (some ((x.free (zm F.dy (z:Int))).1,b)),us:=us2 F z,Ws:=(zJ F.Ws F.Qt F.Rt F.At (z:Int)).1,Qt:=(zJ F.Ws F.Qt F.Rt F.At (z:Int)).2.1,At:=(zJ F.Ws F.Qt F.Rt F.At (z:Int)).2.2.1,Qw:=(z3 F.Qw F.Rw F.Aw z).1,Aw:=(z3 F.Qw F.Rw F.Aw z).2.1,dy:=Z8 F.dy (z:Int) },[⟨((z/16:Nat):Int),(z:Int),(zm F.dy (z:Int)).gen,false⟩]):=by
      unfold z8
      rw [if_neg (by rw [hrt,hrw]; rintro (c | c) <;> cases c),hmf]
      rfl
     rw [e]
     have hokd:=hok.del (z:Int)
     rw [hdd] at hokd
     have hD2:DyH db (Z8 F.dy (z:Int)) [(db,.obj (qS (Value.int .i64) (((E.filter (fun e=>decide ((z:Int)≠e.key)))).map Dye.ent) cl))]:=.mk hokd (by rw [hdp,hdy])
     have hM2:=hM.set (k:=z/16) (.some (b:=b) hX2)
     rw [show M.set (z/16) (some mb,b)=M from Jj hmc] at hM2
     exact ⟨_,[(b116,.cells 50 4 (gnC ⟨((z/16:Nat):Int),(z:Int),(zm F.dy (z:Int)).gen,false⟩))],.mk (F:={ F with ms:=F.ms.set (z/16) (some ((x.free (zm F.dy (z:Int))).1,b)),us:=us2 F z,Ws:=(zJ F.Ws F.Qt F.Rt F.At (z:Int)).1,Qt:=(zJ F.Ws F.Qt F.Rt F.At (z:Int)).2.1,At:=(zJ F.Ws F.Qt F.Rt F.At (z:Int)).2.2.1,Qw:=(z3 F.Qw F.Rw F.Aw z).1,Aw:=(z3 F.Qw F.Rw F.Aw z).2.1,dy:=Z8 F.dy (z:Int) }) (db:=db) hT2 hO2 hW2 h1 o1 h2 o2 hR9 (hU.us2 z) hD2 hM2,.own (n:=1) (cap:=1) rfl (Nat.le_refl 1) (by decide),by simp only [List.cons_append,List.append_assoc,List.nil_append]⟩
  ·skip
   rw [show JY (some cx)=.tuple #[zi cx,.bool true] from rfl]
   refine za 16 rfl ?_
   refine zy [(lb,.cells 134 15 (qD F.n M tb wb g1 g2 rb db))] zk ?_
   refine zw [0,1,2] rfl rfl ?_
   refine qm 3 rfl zK zK zK rfl rfl (ql (v:=zp g2) rfl XC rfl (qh.own (b:=lb) zM (Qj (j:=3) hM.m4))) rfl ?_
   refine zw [4,5,6,7] rfl rfl ?_
   refine qm 8 rfl zK zK zK rfl rfl (ql (v:=zi ((F.n:Nat):Int)) rfl ty3 rfl (qh.own (b:=lb) zM rfl)) rfl ?_
   refine qm 9 rfl zK zK zK rfl rfl (QQ rfl rfl (JF (by have:=o1.n; omega) (m:=((z%F.n:Nat):Int)) (qfo z F.n))) rfl ?_
   refine zw [10] rfl rfl ?_
   refine qJ 11 zH zK rfl rfl ?_
   refine qv (l:=[zi (z:Int)]) qZ ty3 (.cons rfl rfl rfl rfl rfl .nil) rfl rfl rfl rfl rfl rfl rfl (fun b47=>?_)
   refine qs (WC_goal ?_)
   refine qJ 12 zH zK rfl rfl ?_
   refine qn (zc3 rfl rfl rfl) Tryz.call70 rfl ((h2.call o2 (z:=z) (fun HZ=>Holds.own (b:=b47) (List.mem_append_right _ List.mem_cons_self)) (cap:=1) (H:=(b47,.cells 3 1 [zi (z:Int)])::(lb,.cells 134 15 (qD F.n M tb wb g1 g2 rb db))::(HT++(HW++(H1++(HR++((db,.obj (qS (Value.int .i64) ((E).map Dye.ent) cl))::(HM.flatten++H)))))))).hsub zH) ?_
   rintro v H' ⟨H22,h22,⟨m3,rfl⟩,rfl⟩
   refine qs (WC_goal (WC_done zH zK (za 3 rfl ?_)))
   refine qj (H2:=(lb,.cells 134 15 (qD F.n M tb wb g1 g2 rb db))::(HT++(HW++(H1++(H22++(HR++((db,.obj (qS (Value.int .i64) ((E).map Dye.ent) cl))::(HM.flatten++H)))))))) Tryz.results71 rfl (.nil _) zH ?_
   have e:z8 F z=({ F with cl:=zV F.cl F.n z },[]):=if_pos (.inr (by rw [hrw]; rfl))
   rw [e]
   exact ⟨_,[],.mk (F:={ F with cl:=zV F.cl F.n z }) (db:=db) hT hO hW h1 o1 h22 (o2.call _) hR hU (.mk hok hdy) hM,.nil,by simp only [List.cons_append,List.append_assoc,List.nil_append]⟩
 ·skip
  rw [show JY (some ct)=.tuple #[zi ct,.bool true] from rfl]
  refine za 10 rfl ?_
  refine qf (v:=zp wb) rfl Yp rfl (qh.own (b:=lb) zM (Qj (j:=1) hM.m4)) rfl ?_
  refine qH rfl rfl ?_
  refine qB (zc2 rfl rfl) Tryz.call158 rfl (hW.runs (id:=(z:Int)) (fun p hp=>List.mem_cons_of_mem _ (List.mem_append_right _ (List.mem_append_left _ hp)))) ?_
  rcases hrw:inR F.Rw (z:Int) with _ | cx
  ·skip
   rw [show JY none=.tuple #[zi 0,.bool false] from rfl]
   refine za 15 rfl ?_
   refine zy [(lb,.cells 134 15 (qD F.n M tb wb g1 g2 rb db))] zk ?_
   refine zw [0,1,2] rfl rfl ?_
   refine qm 3 rfl zK zK zK rfl rfl (ql (v:=zp g2) rfl XC rfl (qh.own (b:=lb) zM (Qj (j:=3) hM.m4))) rfl ?_
   refine zw [4,5,6,7] rfl rfl ?_
   refine qm 8 rfl zK zK zK rfl rfl (ql (v:=zi ((F.n:Nat):Int)) rfl ty3 rfl (qh.own (b:=lb) zM rfl)) rfl ?_
   refine qm 9 rfl zK zK zK rfl rfl (QQ rfl rfl (JF (by have:=o1.n; omega) (m:=((z%F.n:Nat):Int)) (qfo z F.n))) rfl ?_
   refine zw [10] rfl rfl ?_
   refine qJ 11 zH zK rfl rfl ?_
   refine qv (l:=[zi (z:Int)]) qZ ty3 (.cons rfl rfl rfl rfl rfl .nil) rfl rfl rfl rfl rfl rfl rfl (fun b47=>?_)
   refine qs (WC_goal ?_)
   refine qJ 12 zH zK rfl rfl ?_
   refine qn (zc3 rfl rfl rfl) Tryz.call70 rfl ((h2.call o2 (z:=z) (fun HZ=>Holds.own (b:=b47) (List.mem_append_right _ List.mem_cons_self)) (cap:=1) (H:=(b47,.cells 3 1 [zi (z:Int)])::(lb,.cells 134 15 (qD F.n M tb wb g1 g2 rb db))::(HT++(HW++(H1++(HR++((db,.obj (qS (Value.int .i64) ((E).map Dye.ent) cl))::(HM.flatten++H)))))))).hsub zH) ?_
   rintro v H' ⟨H22,h22,⟨m3,rfl⟩,rfl⟩
   refine qs (WC_goal (WC_done zH zK (za 3 rfl ?_)))
   refine qj (H2:=(lb,.cells 134 15 (qD F.n M tb wb g1 g2 rb db))::(HT++(HW++(H1++(H22++(HR++((db,.obj (qS (Value.int .i64) ((E).map Dye.ent) cl))::(HM.flatten++H)))))))) Tryz.results71 rfl (.nil _) zH ?_
   have e:z8 F z=({ F with cl:=zV F.cl F.n z },[]):=if_pos (.inl (by rw [hrt]; rfl))
   rw [e]
   exact ⟨_,[],.mk (F:={ F with cl:=zV F.cl F.n z }) (db:=db) hT hO hW h1 o1 h22 (o2.call _) hR hU (.mk hok hdy) hM,.nil,by simp only [List.cons_append,List.append_assoc,List.nil_append]⟩
  ·skip
   rw [show JY (some cx)=.tuple #[zi cx,.bool true] from rfl]
   refine za 15 rfl ?_
   refine zy [(lb,.cells 134 15 (qD F.n M tb wb g1 g2 rb db))] zk ?_
   refine zw [0,1,2] rfl rfl ?_
   refine qm 3 rfl zK zK zK rfl rfl (ql (v:=zp g2) rfl XC rfl (qh.own (b:=lb) zM (Qj (j:=3) hM.m4))) rfl ?_
   refine zw [4,5,6,7] rfl rfl ?_
   refine qm 8 rfl zK zK zK rfl rfl (ql (v:=zi ((F.n:Nat):Int)) rfl ty3 rfl (qh.own (b:=lb) zM rfl)) rfl ?_
   refine qm 9 rfl zK zK zK rfl rfl (QQ rfl rfl (JF (by have:=o1.n; omega) (m:=((z%F.n:Nat):Int)) (qfo z F.n))) rfl ?_
   refine zw [10] rfl rfl ?_
   refine qJ 11 zH zK rfl rfl ?_
   refine qv (l:=[zi (z:Int)]) qZ ty3 (.cons rfl rfl rfl rfl rfl .nil) rfl rfl rfl rfl rfl rfl rfl (fun b47=>?_)
   refine qs (WC_goal ?_)
   refine qJ 12 zH zK rfl rfl ?_
   refine qn (zc3 rfl rfl rfl) Tryz.call70 rfl ((h2.call o2 (z:=z) (fun HZ=>Holds.own (b:=b47) (List.mem_append_right _ List.mem_cons_self)) (cap:=1) (H:=(b47,.cells 3 1 [zi (z:Int)])::(lb,.cells 134 15 (qD F.n M tb wb g1 g2 rb db))::(HT++(HW++(H1++(HR++((db,.obj (qS (Value.int .i64) ((E).map Dye.ent) cl))::(HM.flatten++H)))))))).hsub zH) ?_
   rintro v H' ⟨H22,h22,⟨m3,rfl⟩,rfl⟩
   refine qs (WC_goal (WC_done zH zK (za 3 rfl ?_)))
   refine qj (H2:=(lb,.cells 134 15 (qD F.n M tb wb g1 g2 rb db))::(HT++(HW++(H1++(H22++(HR++((db,.obj (qS (Value.int .i64) ((E).map Dye.ent) cl))::(HM.flatten++H)))))))) Tryz.results71 rfl (.nil _) zH ?_
   have e:z8 F z=({ F with cl:=zV F.cl F.n z },[]):=if_pos (.inl (by rw [hrt]; rfl))
   rw [e]
   exact ⟨_,[],.mk (F:={ F with cl:=zV F.cl F.n z }) (db:=db) hT hO hW h1 o1 h22 (o2.call _) hR hU (.mk hok hdy) hM,.nil,by simp only [List.cons_append,List.append_assoc,List.nil_append]⟩
end Go.Proofs.YtincjohoncljoaaGreatDoor
