/-
  Own work: contracts of functions that the statement reaches, and plain facts on what they compute; each theorem says its conditions.
-/
import Derived.Test.YtcggkokeggfdkaaGreatDoorKpS2
import Derived.Test.YtcggkokeggfdkaaGreatDoorKpT3
import Derived.Test.YtcggkokeggfdkaaGreatDoorKpT1
import Derived.Test.YtcggkokeggfdkaaGreatDoorKpS1
import Derived.Test.YtcggkokeggfdkaaGreatDoorKpA
set_option linter.all false
set_option linter.unusedSimpArgs false
set_option linter.unusedVariables false
set_option maxHeartbeats 16000000
namespace Go.Proofs.YtcggkokeggfdkaaGreatDoor
open Go Go.Sl
variable {w0:World} {H HF:qg} {l:List Ins} {ad ada:Option Addr} {cap kb pb capa T i:Nat} {r:Kr} {sl:Bool} {F:Lf}
attribute [local irreducible] W
theorem qbq (l:List Ins):(qI l).length=l.length*5:=Za cells_len l
theorem XN:∀ l:List Ins,(qI l).all Value.oneCell'=true
 | []=>rfl
 | a::l=>by
  have e:qI (a::l)=a.cells++qI l:=rfl
  rw [e,List.all_append,XN l]; rfl
theorem qaS (hl:l.length≤1000) (hrow:qq w0 H ad (qI l)) :qt Tryz.prog w0 48 #[.slice ad l.length cap] (H) (fun v H'=>∃ HB,qQ 45 5 v l.length (qI l) HB∧H'=HB++H):=by
 refine qi (l:=[.slice ad l.length cap]) Tryz.func48 rfl Tryz.ntmps48 rfl rfl ?_
 refine za 6 rfl ?_
 refine W_x (qbI rfl rfl q6) (fun _ h=>by cases h) rfl ?_
 refine qA ?_
 refine qv (p:=ad=none) rfl (by cases ad <;> simp) (fun c0=>?_) (fun c0=>?_)
 ·skip
  refine za 3 rfl ?_
  refine qj (H2:=H) Tryz.results48 rfl (.nil _) zH ?_
  subst c0
  have hl0:l=[]:=by
   cases l with
   | nil=>rfl
   | cons x l=>obtain ⟨b,o,e,_⟩:=hrow 0 (.int .i64 x.op) rfl; cases e
  subst hl0
  exact ⟨[],.nil,rfl⟩
 ·skip
  refine za 2 rfl ?_
  refine qy (l:=[]) q6 zo .nil rfl rfl rfl rfl rfl rfl rfl (fun b5=>?_)
  refine qM rfl rfl ?_
  refine zy (news:=qI l) (m:=l.length) (HB:=[(b5,.cells 45 0 [])]) (H0:=H) rfl rfl q6 zo rfl (by decide) (qQ.own (n:=0) (cap:=0) rfl (Nat.le_refl _) (Nat.zero_le _)) (by rw [qbq]) (hrow.up zH) (XN l) (by simp only [maxLen]; omega) (by omega) zH rfl (fun v' HB' hO'=>?_)
  refine za 2 rfl ?_
  refine qj (H2:=HB'++H) Tryz.results48 rfl (.nil _) zH ?_
  exact ⟨HB',by simpa using hO',rfl⟩
def qfR (la:List Va) (fuel:Int):Vs:=⟨qbk la,0,fuel,false,false,trZ,0,0⟩
theorem qie {s:Bool} {adl:Option Addr} {capl:Nat} {fuel:Int} {la:List Va} (hi:z7 l) (hlen:l.length≤1000) (hcap:l.length≤cap) (hrow:qq w0 H ad (qI l)) (hla:la.length≤5) (hrl:qq w0 H adl (QL la)) (hf:1≤fuel∧fuel≤256) (hT:zN w0):qt Tryz.prog w0 166 #[.agg #[.slice ad l.length cap,.bool s],zi fuel,.slice adl la.length capl] (H) (fun v H'=>((Qm l s).2≠0∧v=.tuple #[.pointer none,zi (Qm l s).2]∧H'=H)∨((Qm l s).2=0∧∃ br bf adc capc HB,v=.tuple #[zp br,zi 0]∧qq w0 (HB++[]) adc (qI l)∧H'=(br,.cells 358 42 (qfz bf adc l.length capc (qfR la fuel)))::(HB++((bf,.cells 461 90 (QL (qbk la)))::H)))):=by
 refine qi (l:=[.agg #[.slice ad l.length cap,.bool s],zi fuel,.slice adl la.length capl]) Tryz.func166 rfl Tryz.ntmps166 rfl rfl ?_
 refine zr ?_
 refine qS (l:=[.slice ad l.length cap,.bool s]) rfl rfl rfl (fun b3=>?_)
 refine za 5 rfl ?_
 refine q8 (vs:=[.slice ad l.length cap,.bool s]) rfl Qp rfl (b:=b3) zM rfl rfl rfl ?_
 refine q9 (zc1 rfl) Tryz.call10 rfl (Xl hi zO hcap (hrow.up zH) hT) (za 10 rfl ?_)
 refine qv (p:=(Qm l s).2≠0) rfl (by simp) (fun c0=>?_) (fun c0=>?_)
 ·skip
  refine za 5 rfl ?_
  refine qF (H2:=H) Tryz.results166 rfl rfl (.nil _) zH ?_
  exact .inl ⟨c0,rfl,rfl⟩
 ·skip
  refine za 6 rfl ?_
  apply YN
  iterate 4 exact rfl
  case h1 =>
   intro hg2
   refine za 4 rfl ?_
   exact qO rfl zR
  refine qA ?_
  refine qv (p:=fuel<1∨256<fuel) rfl (by simp) (fun c1=>?_) (fun c1=>?_)
  ·skip
   refine za 4 rfl ?_
   refine qF (H2:=H) Tryz.results166 rfl rfl (.nil _) zH ?_
   omega
  ·skip
   refine za 3 rfl ?_
   refine qu (zc1 rfl) Tryz.call230 rfl ((qif (H:=(b3,.cells 39 2 [.slice ad l.length cap,.bool s])::H) hla (hrl.up zH)).hsub zH) ?_
   rintro v H' ⟨bf,rfl,rfl⟩
   refine za 16 rfl ?_
   refine qe (v:=.slice ad l.length cap) rfl q6 rfl (qh.own (b:=b3) zM rfl) rfl ?_
   refine qu (zc1 rfl) Tryz.call48 rfl ((qaS (H:=(bf,.cells 461 90 (QL (qbk la)))::(b3,.cells 39 2 [.slice ad l.length cap,.bool s])::H) hlen (hrow.up zH)).hsub zH) ?_
   rintro v H' ⟨HB,hO,rfl⟩
   obtain ⟨adc,capc,rfl,_,_,hcl⟩:=qq.of_own (w0:=w0) (H:=HB++[]) hO (fun p hp=>List.mem_append_left _ hp)
   refine qM rfl rfl ?_
   refine ql (l:=(qfz bf adc l.length capc (qfR la fuel))) ty358 pl358 (.cons rfl rfl rfl rfl rfl (.cons rfl rfl rfl rfl rfl (.cons rfl rfl rfl rfl rfl .nil))) rfl rfl rfl ?_
   refine qS (l:=(qfz bf adc l.length capc (qfR la fuel))) rfl rfl rfl (fun b40=>?_)
   refine za 3 rfl ?_
   refine qF (H2:=(b40,.cells 358 42 (qfz bf adc l.length capc (qfR la fuel)))::(HB++((bf,.cells 461 90 (QL (qbk la)))::H))) Tryz.results166 rfl rfl (.nil _) zH ?_
   exact .inr ⟨Decidable.not_not.1 c0,b40,bf,adc,capc,HB,rfl,hcl,rfl⟩
set_option maxRecDepth 100000
theorem qcc (hr:r.Ok) (h0:r.P[0]?=some (some pb)) (hpb:(pb,.cells 39 2 [.slice ada l.length capa,.bool sl])∈H) (hl:l.length≤1000) (hrow:qq w0 H ada (qI l)) :qt Tryz.prog w0 12 #[zp kb,zi 0] ((kb,.cells 113 57 (knC r))::H) (fun v H'=>∃ adc capc HB,v=.tuple #[.agg (List.toArray [.slice adc l.length capc,.bool sl]),.bool true]∧qQ 45 5 (.slice adc l.length capc) l.length (qI l) HB∧H'=HB++((kb,.cells 113 57 (knC r))::H)):=by
 refine qi (l:=[zp kb,zi 0]) Tryz.func12 rfl Tryz.ntmps12 rfl rfl ?_
 refine zr ?_
 refine qH (l:=[.slice none 0 0,.bool false]) Qp rfl rfl (fun b4=>?_)
 refine za 5 rfl ?_
 refine W_x (qY rfl rfl KH) (fun _ h=>by cases h) rfl ?_
 refine za 22 rfl ?_
 refine zn (j:=0) rfl rfl Js QD (by first | rfl | omega) (by first | decide | omega | simp) rfl rfl ?_
 refine qr rfl rfl ?_
 refine qe (v:=zp pb) rfl QD rfl (qh.own (b:=kb) zM (Q7 (i:=0) h0)) rfl ?_
 refine qr rfl rfl ?_
 refine W_x (qY rfl rfl QD) (fun _ h=>by cases h) rfl ?_
 refine za 9 rfl ?_
 refine zn (j:=0) rfl rfl Js QD (by first | rfl | omega) (by first | decide | omega | simp) rfl rfl ?_
 refine qe (v:=zp pb) rfl QD rfl (qh.own (b:=kb) zM (Q7 (i:=0) h0)) rfl ?_
 refine qbK rfl rfl ?_
 refine q8 (vs:=[.slice ada l.length capa,.bool sl]) rfl Qp rfl (b:=pb) (List.mem_cons_of_mem _ (List.mem_cons_of_mem _ hpb)) rfl rfl rfl ?_
 refine qH (l:=[.slice none 0 0,.bool false]) Qp rfl rfl (fun b6=>?_)
 refine qk (l':=[.slice ada l.length capa,.bool sl]) rfl rfl Qp rfl rfl (b:=b6) zM (by exact Nat.le_refl 2) rfl zU ?_
 refine za 3 rfl ?_
 refine qe (v:=.slice ada l.length capa) rfl q6 rfl (qh.own (b:=b6) zM rfl) rfl ?_
 refine qu (zc1 rfl) Tryz.call48 rfl ((qaS (H:=(b6,.cells 39 2 [.slice ada l.length capa,.bool sl])::(b4,.cells 39 2 [.slice none 0 0,.bool false])::(kb,.cells 113 57 (knC r))::H) hl (hrow.up zH)).hsub (.refl _)) ?_
 rintro v H' ⟨HB,hC,rfl⟩
 obtain ⟨adc,capc,rfl,hcc,-⟩:=hC.shape
 refine za 1 rfl ?_
 refine q7 (l':=[.slice adc l.length capc,.bool sl]) rfl rfl q6 rfl rfl (b:=b6) zM rfl rfl zU ?_
 refine za 2 rfl ?_
 refine q8 (vs:=[.slice adc l.length capc,.bool sl]) rfl Qp rfl (b:=b6) zM rfl rfl rfl ?_
 refine qk (l':=[.slice adc l.length capc,.bool sl]) rfl rfl Qp rfl rfl (b:=b4) zM (by exact Nat.le_refl 2) rfl zU ?_
 refine za 2 rfl ?_
 refine zm (H2:=HB++((kb,.cells 113 57 (knC r))::H)) Tryz.results12 (.nil _) (.own rfl Qp rfl zM rfl) (.tmp rfl) zH ?_
 exact ⟨adc,capc,HB,rfl,hC,rfl⟩
set_option maxRecDepth 100000
theorem qd7 {b d3:Nat} {id pr:Int} (hb:qh w0 H b 3 (zi pr)) (h3:(d3,.cells 3 1 [zi id])∈H) :qR Tryz.prog w0 H 163 [zp b,zp d3] (.bool (decide (pr=id))):=by
 refine qi Tryz.func163 rfl Tryz.ntmps163 rfl rfl (za 3 rfl (z9 zk zK (zq 4 rfl ?_)))
 refine qE (qZ (v:=zi pr) rfl ty3 rfl hb) rfl ?_
 refine qE (qZ (v:=zi id) rfl ty3 rfl (qh.own (b:=d3) h3 rfl)) rfl ?_
 refine zq 2 rfl (ZI ?_)
 refine qj (H2:=H) Tryz.results163 rfl (.nil _) zH ?_
 exact ⟨rfl,rfl⟩
theorem Ye {T:Nat} {F:Lf} {HF:qg} (hr:r.Ok) (hm:(kb,.cells 113 57 (knC r))∈H) (hi:i<16) (hcx:∀ k b:Nat,r.C[k]?=some (some b)→∀ HZ:qg,(∀ p∈H,p∈HZ)→qh w0 HZ b 3 (zi 0)) (h0:r.P[i]?=some none) :qt Tryz.prog w0 102 #[zp kb,zi (i:Int)] (H) (fun v H'=>v=zi 4∧H'=H):=by
 refine qi (l:=[zp kb,zi (i:Int)]) Tryz.func102 rfl Tryz.ntmps102 rfl rfl ?_
 refine zr ?_
 refine qS (l:=[zi (i:Int)]) rfl rfl rfl (fun d3=>?_)
 refine za 4 rfl (Qh .nil (.cons rfl .nil) rfl ?_)
 refine qu (zc2 rfl rfl) Tryz.call55 rfl ((qcb (fi:=163) (ca:=[zp d3]) (fun _=>decide ((0:Int)=(i:Int))) Tryz.call163 hr (List.mem_cons_of_mem _ hm) (fun k b HZ hb hz=>qd7 (pr:=0) (id:=(i:Int)) (hcx k b hb HZ (fun p hp=>hz p (List.mem_cons_of_mem _ hp))) (hz _ List.mem_cons_self))).hsub (.refl _)) ?_
 rintro v H' ⟨XB,hO,rfl⟩
 obtain ⟨ad,cap,rfl,-,-⟩:=hO.shape
 refine za 4 rfl (z9 zk zK (zq 1 rfl ?_))
 refine qE (qZ (v:=zi (i:Int)) rfl ty3 rfl (qh.own (b:=d3) zM rfl)) rfl ?_
 refine zq 2 rfl ?_
 refine qE (ZG (j:=i) rfl rfl Js QD (by first | rfl | omega) (by first | decide | omega | simp) rfl) rfl ?_
 refine qE (qZ (v:=.pointer none) rfl QD rfl (qh.own (b:=kb) (by repeat (first | exact hm | apply List.mem_cons_of_mem | apply List.mem_append_right)) (by rw [show 0+2+i*1=2+i by omega]; exact Q7 h0))) rfl ?_
 refine qE (qY rfl rfl QD) rfl (zq 1 rfl (ZI (za 4 rfl ?_)))
 refine qj (H2:=H) Tryz.results102 rfl (.nil _) zH ?_
 exact ⟨rfl,rfl⟩
theorem QI.users0 {lb:Nat} (hF:QI lb T F HF) (hs:∀ p∈HF,p∈H) {p:Int}:qR Tryz.prog w0 H 164 [zp lb,zi p] (zi (qby F.us p)):=by
 cases hF with
 | @mk tb wb g1 g2 rb db M HT HW H1 H2 HR HD HM hT hO hW h1 o1 h2 o2 hR hU hD hM =>
 exact qd5 (hs _ List.mem_cons_self) hM.m4 hR (fun p hp=>hs p (List.mem_cons_of_mem _ (List.mem_append_right _ (List.mem_append_right _ (List.mem_append_right _ (List.mem_append_right _ (List.mem_append_left _ hp)))))))
theorem Yf (hr:r.Ok) (hm:(kb,.cells 113 57 (knC r))∈H) (hi:i<16) (hcx:∀ k b:Nat,r.C[k]?=some (some b)→∀ HZ:qg,(∀ p∈H,p∈HZ)→qh w0 HZ b 3 (zi 0)) (h0:r.P[i]?=some (some pb)) (hF:QI r.lf T F HF) (hs:∀ p∈HF,p∈H) (hu:qby F.us (i:Int)=0) (hne:0<(J0 r.C (fun _=>decide ((0:Int)=(i:Int))) 32).length) :qt Tryz.prog w0 102 #[zp kb,zi (i:Int)] (H) (fun v H'=>v=zi 21∧H'=H):=by
 refine qi (l:=[zp kb,zi (i:Int)]) Tryz.func102 rfl Tryz.ntmps102 rfl rfl ?_
 refine zr ?_
 refine qS (l:=[zi (i:Int)]) rfl rfl rfl (fun d3=>?_)
 refine za 4 rfl (Qh .nil (.cons rfl .nil) rfl ?_)
 refine qu (zc2 rfl rfl) Tryz.call55 rfl ((qcb (fi:=163) (ca:=[zp d3]) (fun _=>decide ((0:Int)=(i:Int))) Tryz.call163 hr (List.mem_cons_of_mem _ hm) (fun k b HZ hb hz=>qd7 (pr:=0) (id:=(i:Int)) (hcx k b hb HZ (fun p hp=>hz p (List.mem_cons_of_mem _ hp))) (hz _ List.mem_cons_self))).hsub (.refl _)) ?_
 rintro v H' ⟨XB,hO,rfl⟩
 obtain ⟨ad,cap,rfl,-,-⟩:=hO.shape
 refine za 4 rfl (z9 zk zK (zq 1 rfl ?_))
 refine qE (qZ (v:=zi (i:Int)) rfl ty3 rfl (qh.own (b:=d3) zM rfl)) rfl ?_
 refine zq 2 rfl ?_
 refine qE (ZG (j:=i) rfl rfl Js QD (by first | rfl | omega) (by first | decide | omega | simp) rfl) rfl ?_
 refine qE (qZ (v:=zp pb) rfl QD rfl (qh.own (b:=kb) (by repeat (first | exact hm | apply List.mem_cons_of_mem | apply List.mem_append_right)) (by rw [show 0+2+i*1=2+i by omega]; exact Q7 h0))) rfl ?_
 refine qE (qY rfl rfl QD) rfl (zq 1 rfl (ZI (KY rfl rfl (z9 zk zK (zq 3 rfl ?_)))))
 refine qE (qZ (v:=.pointer (some ⟨r.lf,0,none⟩)) rfl qaX rfl (qh.own (b:=kb) (by repeat (first | exact hm | apply List.mem_cons_of_mem | apply List.mem_append_right)) rfl)) rfl ?_
 refine qE (qZ (v:=zi (i:Int)) rfl ty3 rfl (qh.own (b:=d3) zM rfl)) rfl ?_
 have hus:=QI.users0 hF (w0:=w0) (p:=(i:Int)) (H:=XB++((d3,.cells 3 1 [zi (i:Int)])::H)) (fun p hp=>by repeat (first | exact hs p hp | apply List.mem_cons_of_mem | apply List.mem_append_right))
 rw [hu] at hus
 refine qfh (v:=zi 0) (.cons rfl (.cons rfl .nil)) Tryz.call164 rfl hus ?_
 refine zq 5 rfl (qE (qaL rfl Qq rfl) rfl (zq 2 rfl ?_))
 rw [decide_eq_true (by omega)]
 first | refine qE (zX rfl rfl) rfl ?_ | refine qE (zY rfl rfl) rfl ?_
 refine zq 1 rfl (ZI (za 4 rfl ?_))
 refine qj (H2:=H) Tryz.results102 rfl (.nil _) zH ?_
 exact ⟨rfl,rfl⟩
def Kr.setC (r:Kr) (i cb:Nat):Kr:={ r with C:=r.C.set i (some cb) }
theorem Kr.Ok.setC (h:r.Ok) (i cb:Nat):(r.setC i cb).Ok:=⟨h.p,by show (r.C.set i (some cb)).length=32; rw [List.length_set]; exact h.c⟩
theorem qfZ (h:r.Ok) {p:Option Nat} (hi:r.C[i]?=some p) (cb:Nat):(knC r).set (23+i) (zp cb)=knC (r.setC i cb):=by
 have hl:=(List.getElem?_eq_some_iff.1 hi).1
 rw [show 23+i=18+(i+5) by omega,KO h]
 unfold knC Kr.setC
 rw [List.set_cons_succ,List.set_cons_succ,List.set_cons_succ,List.set_cons_succ,List.set_cons_succ,List.set_append_left _ _ (by rw [List.length_map]; exact hl)]
 show _=.pointer (some ⟨r.clk,0,none⟩)::.pointer (some ⟨r.lf,0,none⟩)::(r.P.map ptV++(.pointer (some ⟨r.gd,0,none⟩)::r.wm::.pointer (some ⟨r.mem,0,none⟩)::r.lv::zi r.lost::((r.C.set i (some cb)).map ptV++[r.tv,zi (r.n:Int)])))
 rw [List.map_set]; rfl
set_option maxRecDepth 100000
theorem qhS (hr:r.Ok) (h0:r.P[0]?=some (some pb)) (hc0:r.C[0]?=some none) (hn:1≤r.n) (hpb:(pb,.cells 39 2 [.slice ada l.length capa,.bool sl])∈H) (hl:l.length≤1000) (hi:z7 l) (hz:(Qm l sl).2=0) (hca:l.length≤capa) (hrow:qq w0 H ada (qI l)) (hT:zN w0):qt Tryz.prog w0 103 #[zp kb,zi 0,zi 0,zi 5,zu 0] ((kb,.cells 113 57 (knC r))::H) (fun v H'=>∃ cb br,v=.tuple #[zu 0,zi 0]∧H'=(kb,.cells 113 57 (knC (r.setC 0 cb)))::((cb,.cells 128 10 [zp br,zi 1,zi 0,zi 0,zi 0,zi 0,zi 0,.bool false,.bool false,.pointer none])::H)):=by
 refine qi (l:=[zp kb,zi 0,zi 0,zi 5,zu 0]) Tryz.func103 rfl Tryz.ntmps103 rfl rfl ?_
 refine za 6 rfl ?_
 have hem:=qea (w0:=w0) (H:=(kb,.cells 113 57 (knC r))::H) hr List.mem_cons_self
 rw [Xh hc0 (fun j p hj=>absurd hj (Nat.not_lt_zero _))] at hem
 refine q9 (zc1 rfl) Tryz.call165 rfl hem (za 9 rfl ?_)
 refine zn (j:=0) rfl rfl Js QD (by first | rfl | omega) (by first | decide | omega | simp) rfl rfl ?_
 refine qe (v:=zp pb) rfl QD rfl (qh.own (b:=kb) zM (Q7 (i:=0) h0)) rfl ?_
 refine W_x (qY rfl rfl QD) (fun _ h=>by cases h) rfl ?_
 refine za 6 rfl ?_
 refine q9 (v:=zi (r.n:Int)) (.cons rfl .nil) Tryz.call15 rfl (qf5 hr zM) ?_
 refine za 1 rfl ?_
 rw [decide_eq_false (by omega)]
 refine za 12 rfl ?_
 refine qbN ((kb,.cells 113 57 (knC r))::H) zk ?_
 refine zw [0,1,2,3] rfl rfl ?_
 refine zg 4 rfl zK zK zK rfl rfl (ZG (j:=0) rfl rfl Js QD (by first | rfl | omega) (by first | decide | omega | simp) rfl) rfl ?_
 refine zg 5 rfl zK zK zK rfl rfl (qZ (v:=zp pb) rfl QD rfl (qh.own (b:=kb) zM (Q7 (i:=0) h0))) rfl ?_
 refine zw [6] rfl rfl ?_
 refine zg 7 rfl zK zK zK rfl rfl (Jm (vs:=[.slice ada l.length capa,.bool sl]) rfl Qp rfl (b:=pb) (List.mem_cons_of_mem _ hpb) rfl rfl) rfl ?_
 refine zw [8,9] rfl rfl ?_
 refine YQ 10 zH zK rfl rfl ?_
 refine qB (zc1 rfl) Tryz.call167 rfl (T:=fun _=>True) trivial (qfl 0) ?_
 refine qA (Zc ?_)
 refine YQ 11 zH zK rfl rfl ?_
 refine qy (l:=[.bool false,zi 0,zi 0,zi 0,zu 0]) qdy Xq (.cons rfl rfl rfl rfl rfl .nil) rfl rfl rfl rfl rfl rfl rfl (fun b45=>?_)
 refine qA (Zc ?_)
 refine YQ 12 zH zK rfl rfl ?_
 have hv5:qq w0 ((b45,.cells 269 5 [.bool false,zi 0,zi 0,zi 0,zu 0])::(kb,.cells 113 57 (knC r))::H) (some ⟨b45,0,none⟩) (QL [⟨false,0,0,0,0⟩]):=qq.own (b:=b45) List.mem_cons_self
 refine qu (zc3 rfl rfl rfl) Tryz.call166 rfl ((qie (H:=(b45,.cells 269 5 [.bool false,zi 0,zi 0,zi 0,zu 0])::(kb,.cells 113 57 (knC r))::H) (l:=l) (s:=sl) (cap:=capa) (capl:=1) (fuel:=5) (la:=[⟨false,0,0,0,0⟩]) hi hl hca (hrow.up zH) zd hv5 zd hT).hsub zH) ?_
 rintro v H' (⟨hz2,rfl,rfl⟩ | ⟨hz2,br,bf,adc,capc,HB,rfl,hcl,rfl⟩)
 ·exact absurd hz hz2
 skip
 refine qA (Zc (zw [13,14,15,16,17] rfl rfl (Yx zH zK (za 13 rfl ?_))))
 refine ql (l:=[zi 1,zi 0,zi 0,zi 0,zi 0,zi 0]) ty58 pl58 (.cons rfl rfl rfl rfl rfl (.cons rfl rfl rfl rfl rfl (.cons rfl rfl rfl rfl rfl .nil))) rfl zk rfl ?_
 refine ql (l:=[zp br,zi 1,zi 0,zi 0,zi 0,zi 0,zi 0,.bool false,.bool false,.pointer none]) ty128 pl128 (.cons rfl rfl rfl rfl rfl (.cons rfl rfl rfl rfl rfl .nil)) rfl zk rfl ?_
 refine qS (l:=[zp br,zi 1,zi 0,zi 0,zi 0,zi 0,zi 0,.bool false,.bool false,.pointer none]) rfl rfl rfl (fun cb=>?_)
 refine za 2 rfl ?_
 refine zn (j:=0) rfl rfl Kl Jr (by first | rfl | omega) (by first | decide | omega | simp) rfl rfl ?_
 refine q7 (l':=knC (r.setC 0 cb)) rfl rfl Jr rfl rfl (b:=kb) zM (qb9 hr zd) (qfZ hr (i:=0) hc0 cb) zU ?_
 refine za 3 rfl (QU rfl ty3 ZQ rfl rfl (za 3 rfl ?_))
 refine qF (H2:=(kb,.cells 113 57 (knC (r.setC 0 cb)))::((cb,.cells 128 10 [zp br,zi 1,zi 0,zi 0,zi 0,zi 0,zi 0,.bool false,.bool false,.pointer none])::H)) Tryz.results103 rfl rfl (.nil _) zH ?_
 exact ⟨cb,br,rfl,rfl⟩
set_option maxRecDepth 100000
theorem Kg {e:Int} (hF:QI r.lf T F HF) (hs:∀ p∈HF,p∈H) (hm:(kb,.cells 113 57 (knC r))∈H) (hun:∀ H2:qg,(∀ p∈H,p∈H2)→qt Tryz.prog w0 102 #[zp kb,zi (i:Int)] H2 (fun v H'=>v=zi e∧H'=H2)) :qt Tryz.prog w0 46 #[zp kb,.agg (List.toArray [zi 17,zi (i:Int),zi 0,zi 0,zu 0,zu 0,.slice none 0 0])] (H) (fun v H'=>v=.tuple #[zu 0,zi e]∧H'=H):=by
 obtain ⟨g,htr⟩:=hF.trace
 refine qi (l:=[zp kb,.agg (List.toArray [zi 17,zi (i:Int),zi 0,zi 0,zu 0,zu 0,.slice none 0 0])]) Tryz.func46 rfl Tryz.ntmps46 rfl rfl ?_
 refine zr ?_
 refine qS (l:=[zi 17,zi (i:Int),zi 0,zi 0,zu 0,zu 0,.slice none 0 0]) rfl rfl rfl (fun b3=>?_)
 refine za 7 rfl ?_
 refine qe (v:=.pointer (some ⟨r.lf,0,none⟩)) rfl qaX rfl (qh.own (b:=kb) (by repeat (first | exact hm | apply List.mem_cons_of_mem)) rfl) rfl ?_
 refine q9 (zc1 rfl) Tryz.call93 rfl (htr _ _ (fun p hp=>by repeat (first | exact hs p hp | apply List.mem_cons_of_mem))) ?_
 refine za 5 rfl ?_
 refine qe (v:=zi 17) rfl ty3 rfl (qh.own (b:=b3) zM rfl) rfl ?_
 refine za 45 rfl ?_
 refine qe (v:=zi (i:Int)) rfl ty3 rfl (qh.own (b:=b3) zM rfl) rfl ?_
 refine qu (zc2 rfl rfl) Tryz.call102 rfl (hun _ (fun p hp=>List.mem_cons_of_mem _ hp)) ?_
 rintro v H' ⟨rfl,rfl⟩
 refine za 3 rfl ?_
 refine qF (H2:=H) Tryz.results46 rfl rfl (.nil _) zH ?_
 exact ⟨rfl,rfl⟩
theorem qbm (hF:QI r.lf T F HF) (hs:∀ p∈HF,p∈H) (hr:r.Ok) (h0:r.P[0]?=some (some pb)) (hc0:r.C[0]?=some none) (hn:1≤r.n) (hpb:(pb,.cells 39 2 [.slice ada l.length capa,.bool sl])∈H) (hl:l.length≤1000) (hi:z7 l) (hz:(Qm l sl).2=0) (hca:l.length≤capa) (hrow:qq w0 H ada (qI l)) (hT:zN w0):qt Tryz.prog w0 46 #[zp kb,.agg (List.toArray [zi 8,zi 0,zi 0,zi 5,zu 0,zu 0,.slice none 0 0])] ((kb,.cells 113 57 (knC r))::H) (fun v H'=>∃ cb br,v=.tuple #[zu 0,zi 0]∧H'=(kb,.cells 113 57 (knC (r.setC 0 cb)))::((cb,.cells 128 10 [zp br,zi 1,zi 0,zi 0,zi 0,zi 0,zi 0,.bool false,.bool false,.pointer none])::H)):=by
 obtain ⟨g,htr⟩:=hF.trace
 refine qi (l:=[zp kb,.agg (List.toArray [zi 8,zi 0,zi 0,zi 5,zu 0,zu 0,.slice none 0 0])]) Tryz.func46 rfl Tryz.ntmps46 rfl rfl ?_
 refine zr ?_
 refine qS (l:=[zi 8,zi 0,zi 0,zi 5,zu 0,zu 0,.slice none 0 0]) rfl rfl rfl (fun b3=>?_)
 refine za 7 rfl ?_
 refine qe (v:=.pointer (some ⟨r.lf,0,none⟩)) rfl qaX rfl (qh.own (b:=kb) zM rfl) rfl ?_
 refine q9 (zc1 rfl) Tryz.call93 rfl (htr _ _ (fun p hp=>List.mem_cons_of_mem _ (List.mem_cons_of_mem _ (hs p hp)))) ?_
 refine za 5 rfl ?_
 refine qe (v:=zi 8) rfl ty3 rfl (qh.own (b:=b3) zM rfl) rfl ?_
 refine za 50 rfl ?_
 refine qe (v:=zi 0) rfl ty3 rfl (qh.own (b:=b3) zM rfl) rfl ?_
 refine za 1 rfl ?_
 refine qe (v:=zi 0) rfl ty3 rfl (qh.own (b:=b3) zM rfl) rfl ?_
 refine za 1 rfl ?_
 refine qe (v:=zi 5) rfl ty3 rfl (qh.own (b:=b3) zM rfl) rfl ?_
 refine za 1 rfl ?_
 refine qe (v:=zu 0) rfl ZQ rfl (qh.own (b:=b3) zM rfl) rfl ?_
 refine qu (zc5 rfl rfl rfl rfl rfl) Tryz.call103 rfl ((qhS (H:=(b3,.cells 35 7 [zi 8,zi 0,zi 0,zi 5,zu 0,zu 0,.slice none 0 0])::H) hr h0 hc0 hn (List.mem_cons_of_mem _ hpb) hl hi hz hca (hrow.up zH) hT).hsub zH) ?_
 rintro v H' ⟨cb,br,rfl,rfl⟩
 refine za 5 rfl ?_
 refine qF (H2:=(kb,.cells 113 57 (knC (r.setC 0 cb)))::((cb,.cells 128 10 [zp br,zi 1,zi 0,zi 0,zi 0,zi 0,zi 0,.bool false,.bool false,.pointer none])::H)) Tryz.results46 rfl rfl (.nil _) zH ?_
 exact ⟨cb,br,rfl,rfl⟩
open Go.Script (chk Q3 isK shW shB Qv Ju u64)
theorem qbz (i:Fin 2):chk ⟨17,(i.val:Int),0,0,0,0,[]⟩=0:=by revert i; decide +kernel
theorem qgD:chk ⟨8,0,0,5,0,0,[]⟩=0:=by decide +kernel
set_option maxRecDepth 100000
theorem Q8 {now:Nat} {XB:qg} {L:List Ev} {i:Fin 2} {e:Int} (hF:QI r.lf T F HF) (hs:∀ p∈HF,p∈H) (hr:r.Ok) (hO:qQ 91 5 r.lv (L).length ((L).flatMap evC) XB) (hL:L.length≤4096) (hlo:0≤r.lost∧r.lost≤1000000000) (hck0:(r.clk,.cells 211 1 [zu ((now:Nat):Int)])∈H) (hun:∀ H2:qg,(kb,.cells 113 57 (knC r))∈H2→(∀ p∈H,p∈H2)→qt Tryz.prog w0 102 #[zp kb,zi (i.val:Int)] H2 (fun v H'=>v=zi e∧H'=H2)) :qt Tryz.prog w0 11 #[zp kb,.agg (List.toArray [zi 17,zi (i.val:Int),zi 0,zi 0,zu 0,zu 0,.slice none 0 0])] ((kb,.cells 113 57 (knC r))::(XB++H)) (fun v H'=>v=.tuple #[zu 0,zi e]∧∃ lv lo2 XB2,∃ L2:List Ev,qQ 91 5 lv (L2).length ((L2).flatMap evC) XB2∧L2.length≤4096∧(r.lost≤lo2∧lo2≤r.lost+1)∧H'=(kb,.cells 113 57 (knC (r.lg lv lo2)))::(XB2++H)):=by
 refine qi (l:=[zp kb,.agg (List.toArray [zi 17,zi (i.val:Int),zi 0,zi 0,zu 0,zu 0,.slice none 0 0])]) Tryz.func11 rfl Tryz.ntmps11 rfl rfl ?_
 refine zr ?_
 refine qS (l:=[zi 17,zi (i.val:Int),zi 0,zi 0,zu 0,zu 0,.slice none 0 0]) rfl rfl rfl (fun b3=>?_)
 refine za 6 rfl ?_
 refine W_x (qY rfl rfl KH) (fun _ h=>by cases h) rfl ?_
 refine za 5 rfl ?_
 refine q8 (vs:=[zi 17,zi (i.val:Int),zi 0,zi 0,zu 0,zu 0,.slice none 0 0]) rfl Ze rfl (b:=b3) zM rfl rfl rfl ?_
 have hck:=JJ ⟨17,(i.val:Int),0,0,0,0,[]⟩ none 0
 rw [qbz i] at hck
 refine qB (zc1 rfl) Tryz.call45 rfl (T:=fun _=>True) trivial hck ?_
 refine za 10 rfl ?_
 refine q8 (vs:=[zi 17,zi (i.val:Int),zi 0,zi 0,zu 0,zu 0,.slice none 0 0]) rfl Ze rfl (b:=b3) zM rfl rfl rfl ?_
 refine qu (zc2 rfl rfl) Tryz.call46 rfl (Kg (i:=i.val) (e:=e) (r:=r) hF (fun p hp=>List.mem_cons_of_mem _ (List.mem_cons_of_mem _ (List.mem_append_right _ (hs p hp)))) (List.mem_cons_of_mem _ List.mem_cons_self) (fun H2 h2=>hun H2 (h2 _ (List.mem_cons_of_mem _ List.mem_cons_self)) (fun p hp=>h2 p (List.mem_cons_of_mem _ (List.mem_cons_of_mem _ (List.mem_append_right _ hp)))))) ?_
 rintro v H' ⟨rfl,e0⟩
 have e0:=e0.symm
 subst e0
 refine za 9 rfl ?_
 refine qe (v:=zi 17) rfl ty3 rfl (qh.own (b:=b3) zM rfl) rfl ?_
 refine za 2 rfl ?_
 refine ql (l:=[zu 0,zi 0,zi 17,zi e,zu 0]) QZ qfI (.cons rfl rfl rfl rfl rfl (.cons rfl rfl rfl rfl rfl (.cons rfl rfl rfl rfl rfl (.cons rfl rfl rfl rfl rfl .nil)))) rfl zk rfl ?_
 refine qy (l:=[zu 0,zi 0,zi 17,zi e,zu 0]) Zo QZ (.cons rfl rfl rfl rfl rfl .nil) rfl rfl rfl rfl rfl rfl rfl (fun b28=>?_)
 refine qu (zc2 rfl rfl) Tryz.call47 rfl ((KN (r:=r) (H:=(b28,.cells 91 5 (evC ⟨0,0,17,e,0⟩))::(b3,.cells 35 7 [zi 17,zi (i.val:Int),zi 0,zi 0,zu 0,zu 0,.slice none 0 0])::H) (L:=L) (e:=⟨0,0,17,e,0⟩) (cap:=1) (now:=now) hr hO hL hlo (by first | exact List.mem_cons_of_mem _ (List.mem_cons_of_mem _ hck0) | exact List.mem_cons_of_mem _ (List.mem_cons_of_mem _ (List.mem_cons_of_mem _ hck0))) (qq.own (b:=b28) List.mem_cons_self)).hsub zH) ?_
 rintro v H' ⟨lv,XB',hO',rfl⟩
 refine za 7 rfl ?_
 refine qF (H2:=(kb,.cells 113 57 (knC (r.lg lv (QF L r.lost (Ev.at_ ⟨0,0,17,e,0⟩ now)).2)))::(XB'++H)) Tryz.results11 rfl rfl (.nil _) zH ?_
 exact ⟨rfl,lv,_,XB',_,hO',Z1 hL,Ji _ _ _,rfl⟩
theorem qar {now:Nat} {XB:qg} {L:List Ev} (hF:QI r.lf T F HF) (hs:∀ p∈HF,p∈H) (hr:r.Ok) (hO:qQ 91 5 r.lv (L).length ((L).flatMap evC) XB) (hL:L.length≤4096) (hlo:0≤r.lost∧r.lost≤1000000000) (hck0:(r.clk,.cells 211 1 [zu ((now:Nat):Int)])∈H) (h0:r.P[0]?=some (some pb)) (hc0:r.C[0]?=some none) (hn:1≤r.n) (hpb:(pb,.cells 39 2 [.slice ada l.length capa,.bool sl])∈H) (hl:l.length≤1000) (hi:z7 l) (hz:(Qm l sl).2=0) (hca:l.length≤capa) (hrow:qq w0 H ada (qI l)) (hT:zN w0):qt Tryz.prog w0 11 #[zp kb,.agg (List.toArray [zi 8,zi 0,zi 0,zi 5,zu 0,zu 0,.slice none 0 0])] ((kb,.cells 113 57 (knC r))::(XB++H)) (fun v H'=>v=.tuple #[zu 0,zi 0]∧∃ cb br,∃ lv lo2 XB2,∃ L2:List Ev,qQ 91 5 lv (L2).length ((L2).flatMap evC) XB2∧L2.length≤4096∧(r.lost≤lo2∧lo2≤r.lost+1)∧H'=(kb,.cells 113 57 (knC ((r.setC 0 cb).lg lv lo2)))::(XB2++((cb,.cells 128 10 [zp br,zi 1,zi 0,zi 0,zi 0,zi 0,zi 0,.bool false,.bool false,.pointer none])::H))):=by
 refine qi (l:=[zp kb,.agg (List.toArray [zi 8,zi 0,zi 0,zi 5,zu 0,zu 0,.slice none 0 0])]) Tryz.func11 rfl Tryz.ntmps11 rfl rfl ?_
 refine zr ?_
 refine qS (l:=[zi 8,zi 0,zi 0,zi 5,zu 0,zu 0,.slice none 0 0]) rfl rfl rfl (fun b3=>?_)
 refine za 6 rfl ?_
 refine W_x (qY rfl rfl KH) (fun _ h=>by cases h) rfl ?_
 refine za 5 rfl ?_
 refine q8 (vs:=[zi 8,zi 0,zi 0,zi 5,zu 0,zu 0,.slice none 0 0]) rfl Ze rfl (b:=b3) zM rfl rfl rfl ?_
 have hck:=JJ ⟨8,0,0,5,0,0,[]⟩ none 0
 rw [qgD] at hck
 refine qB (zc1 rfl) Tryz.call45 rfl (T:=fun _=>True) trivial hck ?_
 refine za 10 rfl ?_
 refine q8 (vs:=[zi 8,zi 0,zi 0,zi 5,zu 0,zu 0,.slice none 0 0]) rfl Ze rfl (b:=b3) zM rfl rfl rfl ?_
 refine qu (zc2 rfl rfl) Tryz.call46 rfl ((qbm (H:=(b3,.cells 35 7 [zi 8,zi 0,zi 0,zi 5,zu 0,zu 0,.slice none 0 0])::(XB++H)) hF (fun p hp=>List.mem_cons_of_mem _ (List.mem_append_right _ (hs p hp))) hr h0 hc0 hn (List.mem_cons_of_mem _ (List.mem_append_right _ hpb)) hl hi hz hca (hrow.up zH) hT).hsub zH) ?_
 rintro v H' ⟨cb,br,rfl,rfl⟩
 refine za 9 rfl ?_
 refine qe (v:=zi 8) rfl ty3 rfl (qh.own (b:=b3) zM rfl) rfl ?_
 refine za 2 rfl ?_
 refine ql (l:=[zu 0,zi 0,zi 8,zi 0,zu 0]) QZ qfI (.cons rfl rfl rfl rfl rfl (.cons rfl rfl rfl rfl rfl (.cons rfl rfl rfl rfl rfl (.cons rfl rfl rfl rfl rfl .nil)))) rfl zk rfl ?_
 refine qy (l:=[zu 0,zi 0,zi 8,zi 0,zu 0]) Zo QZ (.cons rfl rfl rfl rfl rfl .nil) rfl rfl rfl rfl rfl rfl rfl (fun b28=>?_)
 refine qu (zc2 rfl rfl) Tryz.call47 rfl ((KN (r:=(r.setC 0 cb)) (H:=(b28,.cells 91 5 (evC ⟨0,0,8,0,0⟩))::(b3,.cells 35 7 [zi 8,zi 0,zi 0,zi 5,zu 0,zu 0,.slice none 0 0])::(cb,.cells 128 10 [zp br,zi 1,zi 0,zi 0,zi 0,zi 0,zi 0,.bool false,.bool false,.pointer none])::H) (L:=L) (e:=⟨0,0,8,0,0⟩) (cap:=1) (now:=now) (hr.setC 0 cb) hO hL hlo (by first | exact List.mem_cons_of_mem _ (List.mem_cons_of_mem _ hck0) | exact List.mem_cons_of_mem _ (List.mem_cons_of_mem _ (List.mem_cons_of_mem _ hck0))) (qq.own (b:=b28) List.mem_cons_self)).hsub zH) ?_
 rintro v H' ⟨lv,XB',hO',rfl⟩
 refine za 7 rfl ?_
 refine qF (H2:=(kb,.cells 113 57 (knC ((r.setC 0 cb).lg lv (QF L (r.setC 0 cb).lost (Ev.at_ ⟨0,0,8,0,0⟩ now)).2)))::(XB'++((cb,.cells 128 10 [zp br,zi 1,zi 0,zi 0,zi 0,zi 0,zi 0,.bool false,.bool false,.pointer none])::H))) Tryz.results11 rfl rfl (.nil _) zH ?_
 exact ⟨rfl,cb,br,lv,_,XB',_,hO',Z1 hL,Ji _ _ _,rfl⟩
open Go.Sl.Ev
theorem KI:evG Tryz.prog (fun _ _ _=>none) 1000 35 [.vl (.slice none 0 0),.vl (zi 0)]=some (.slice none 0 0):=by kernel_rfl
theorem qcI:Qc Tryz.prog (fun _=>True) 35 [.slice none 0 0,zi 0] (.slice none 0 0):=qeP qhc qhb (fun _ w _ _=>qc8 _ w) (show AV.Rs [] [.vl (.slice none 0 0),.vl (zi 0)] [.slice none 0 0,zi 0] from ⟨rfl,rfl,trivial⟩) KI
set_option maxRecDepth 100000
theorem qad:qt Tryz.prog w0 6 #[zi 0,.slice none 0 0,zi 0] (H) (fun v H'=>∃ kb cb lb gb mb Ws HF HG HM,v=.tuple #[zp kb,.bool true]∧QI lb 8 (lf0 1 Ws) HF∧H'=(kb,.cells 113 57 (knC (kr0 cb lb gb mb 1)))::((cb,.cells 211 1 [zu ((0:Nat):Int)])::(HG++(HM++(HF++H))))):=by
 refine qi (l:=[zi 0,.slice none 0 0,zi 0]) Tryz.func6 rfl Tryz.ntmps6 rfl rfl ?_
 refine za 6 rfl ?_
 refine QU (m:=0) rfl ty3 ZQ zd rfl ?_
 refine qC rfl rfl (qeZ zd (m:=0) zd) rfl ?_
 refine QU (m:=0) rfl ZQ ty3 zd rfl ?_
 refine qC rfl rfl (qX (m:=1) zd) rfl ?_
 refine qu (zc3 rfl rfl rfl) Tryz.call14 rfl ((qf2 (n:=1) (p:=4) (now:=0) zd zd zd).hsub (.refl _)) ?_
 rintro v H' ⟨kb,cb,lb,gb,mb,Ws,HF,HG,HM,rfl,hF,hWl,hfr,hG,hM,rfl⟩
 refine za 9 rfl ?_
 refine qB (zc2 rfl rfl) Tryz.call35 rfl (T:=fun _=>True) trivial qcI ?_
 refine za 7 rfl ?_
 refine z0 (X:=Unit) [(8,_),(9,_),(10,_)] (fun (u:Unit)=>[(11,zi 0)]) (fun _=>_) (fun (u:Unit)=>(kb,.cells 113 57 (knC (kr0 cb lb gb mb 1)))::((cb,.cells 211 1 [zu ((0:Nat):Int)])::(HG++(HM++(HF++H))))) (fun (u:Unit)=>True) (fun (u:Unit)=>0) () trivial (qc rfl (qc rfl (qc rfl (qm _)))) (qc rfl (qm _)) rfl (.refl _) ?_
 intro u hI
 simp only [List.cons_append,List.nil_append]
 refine za 4 rfl (zb rfl ty83 rfl rfl (za 15 rfl ?_))
 refine qF (H2:=(kb,.cells 113 57 (knC (kr0 cb lb gb mb 1)))::((cb,.cells 211 1 [zu ((0:Nat):Int)])::(HG++(HM++(HF++H))))) Tryz.results6 rfl rfl (.nil _) zH ?_
 exact ⟨kb,cb,lb,gb,mb,Ws,HF,HG,HM,rfl,hF,rfl⟩
theorem XJ (hr:r.Ok) (h0:r.P[0]?=some none) :qt Tryz.prog w0 12 #[zp kb,zi 0] ((kb,.cells 113 57 (knC r))::H) (fun v H'=>v=.tuple #[.agg (List.toArray [.slice none 0 0,.bool false]),.bool false]∧H'=(kb,.cells 113 57 (knC r))::H):=by
 refine qi (l:=[zp kb,zi 0]) Tryz.func12 rfl Tryz.ntmps12 rfl rfl ?_
 refine zr ?_
 refine qH (l:=[.slice none 0 0,.bool false]) Qp rfl rfl (fun b4=>?_)
 refine za 5 rfl ?_
 refine W_x (qY rfl rfl KH) (fun _ h=>by cases h) rfl ?_
 refine za 22 rfl ?_
 refine zn (j:=0) rfl rfl Js QD (by first | rfl | omega) (by first | decide | omega | simp) rfl rfl ?_
 refine qr rfl rfl ?_
 refine qe (v:=.pointer none) rfl QD rfl (qh.own (b:=kb) zM (Q7 (i:=0) h0)) rfl ?_
 refine qr rfl rfl ?_
 refine W_x (qY rfl rfl QD) (fun _ h=>by cases h) rfl ?_
 refine za 4 rfl ?_
 refine ql (l:=[.slice none 0 0,.bool false]) Qp qfJ .nil rfl zk rfl ?_
 refine qk (l':=[.slice none 0 0,.bool false]) rfl rfl Qp rfl rfl (b:=b4) zM (by exact Nat.le_refl 2) rfl zU ?_
 refine za 2 rfl ?_
 refine zm (H2:=(kb,.cells 113 57 (knC r))::H) Tryz.results12 (.nil _) (.own rfl Qp rfl zM rfl) (.tmp rfl) zH ?_
 exact ⟨rfl,rfl⟩
open Go.Sl.Ev
theorem qc0:evT Tryz.prog (xFields 145 9) 100000 9=true:=by kernel_rfl
theorem zI:Qc Tryz.prog qaR 9 [] (.bool true):=qeO qhc qhb (fun w0 w h hb=>extsF (qbX hb h)) qc0
instance:Inhabited Ins:=⟨⟨0,0,0,0,0⟩⟩
def Ins.In (v:Ins):Prop:=(-9223372036854775808≤v.op∧v.op≤9223372036854775807)∧(-9223372036854775808≤v.dst∧v.dst≤9223372036854775807)∧(-9223372036854775808≤v.src∧v.src≤9223372036854775807)∧(-9223372036854775808≤v.off∧v.off≤9223372036854775807)∧(-9223372036854775808≤v.imm∧v.imm≤9223372036854775807)
theorem Ins.cells_len (v:Ins):(Ins.cells v).length=5:=rfl
theorem Ins.cells_like (v:Ins):z6 [.int .i64,.int .i64,.int .i64,.int .i64,.int .i64] (Ins.cells v):=⟨⟨_,rfl⟩,⟨_,rfl⟩,⟨_,rfl⟩,⟨_,rfl⟩,⟨_,rfl⟩,trivial⟩
theorem Ins.cells_inj (v w:Ins) (h:Ins.cells v=Ins.cells w):v=w:=by
 cases v; cases w; simp only [Ins.cells,List.cons.injEq,Value.int.injEq,Value.bool.injEq,Value.string.injEq,true_and,and_true] at h; simp only [Ins.mk.injEq]; exact h
theorem Ins.cells_of {cs:List Value} (h:Zt [.int .i64,.int .i64,.int .i64,.int .i64,.int .i64] cs):∃ v:Ins,cs=Ins.cells v∧v.In:=by
 obtain ⟨a0,c0,rfl,⟨m0,rfl,e0⟩,h0⟩:=QQ h
 obtain ⟨a1,c1,rfl,⟨m1,rfl,e1⟩,h1⟩:=QQ h0
 obtain ⟨a2,c2,rfl,⟨m2,rfl,e2⟩,h2⟩:=QQ h1
 obtain ⟨a3,c3,rfl,⟨m3,rfl,e3⟩,h3⟩:=QQ h2
 obtain ⟨a4,c4,rfl,⟨m4,rfl,e4⟩,h4⟩:=QQ h3
 obtain rfl:=qcZ h4
 exact ⟨⟨m0,m1,m2,m3,m4⟩,rfl,⟨e0,e1,e2,e3,e4⟩⟩
theorem qeN:Qi Tryz.prog 1 45 [.int .i64,.int .i64,.int .i64,.int .i64,.int .i64]:=(Qi.struct zo zk zk (.cons (ks:=[.int .i64]) zd rfl zk (Qi.leaf (k:=.int .i64) ty3) (.cons (ks:=[.int .i64]) zd rfl zk (Qi.leaf (k:=.int .i64) ty3) (.cons (ks:=[.int .i64]) zd rfl zk (Qi.leaf (k:=.int .i64) ty3) (.cons (ks:=[.int .i64]) zd rfl zk (Qi.leaf (k:=.int .i64) ty3) (.cons (ks:=[.int .i64]) zd rfl zk (Qi.leaf (k:=.int .i64) ty3) .nil))))))
theorem qho:JN Tryz.prog 45=true:=by kernel_rfl
theorem gt45:Tryz.prog.eqGuardType Tryz.prog.depth 45=false:=by kernel_rfl
instance:DecidableEq Ins:=fun v w=>if h:v.op=w.op∧v.dst=w.dst∧v.src=w.src∧v.off=w.off∧v.imm=w.imm then .isTrue (by cases v; cases w; simp_all) else .isFalse (by intro e; subst e; exact h ⟨rfl,rfl,rfl,rfl,rfl⟩)
theorem Xf {cb k b:Nat} (h:((List.replicate 32 (none:Option Nat)).set 0 (some cb))[k]?=some (some b)):b=cb:=by
 rw [List.getElem?_set] at h
 split at h
 ·simp at h; exact h.symm
 ·rw [List.getElem?_replicate] at h
  split at h <;> simp at h
theorem qbY (cb lb gb mb n:Nat) (pb cx:Nat) (v:Value) (z:Int):0<(J0 (((((kr0 cb lb gb mb n).setP 0 pb).lg v z).setC 0 cx)).C (fun _=>decide ((0:Int)=((0:Nat):Int))) 32).length:=Nat.le_of_ble_eq_true rfl
set_option maxRecDepth 100000
theorem YF (hi:z7 l) (hrow:qq w0 H ad (qI l)) (hT:qaR w0):qt Tryz.prog w0 3 #[.slice ad l.length cap,.bool sl] (H) (fun v H'=>v=.bool true∧H'=H):=by
 refine qi (l:=[.slice ad l.length cap,.bool sl]) Tryz.func3 rfl Tryz.ntmps3 rfl rfl ?_
 cases sl
 ·skip
  refine za 4 rfl ?_
  refine qu (zc3 rfl rfl rfl) Tryz.call6 rfl ((qad (H:=H)).hsub (.refl _)) ?_
  rintro v H' ⟨kb,cb,lb,gb,mb,Ws,HF,HG,HM,rfl,hF,rfl⟩
  refine za 8 rfl ?_
  refine qu (zc2 rfl rfl) Tryz.call7 rfl ((qeQ (H:=(kb,.cells 113 57 (knC (kr0 cb lb gb mb 1)))::((cb,.cells 211 1 [zu ((0:Nat):Int)])::(HG++(HM++(HF++H))))) l 64 zd (hrow.up zH) hT).hsub (.refl _)) ?_
  rintro v H' ⟨HB,hO,rfl⟩
  obtain ⟨c,hc⟩:∃ c,c=l.take (64:Int).toNat:=⟨_,rfl⟩
  rw [← hc] at hO
  have hcl:c.length≤64:=by rw [hc,List.length_take]; exact Nat.min_le_left _ _
  have hic:z7 c:=fun x hx=>hi x (List.mem_of_mem_take (hc ▸ hx))
  clear hc
  obtain ⟨adc,capc,rfl,hcc,-⟩:=hO.shape
  refine za 4 rfl ?_
  refine qu (zc1 rfl) Tryz.call8 rfl ((qcm (l:=c) (H:=HB++((kb,.cells 113 57 (knC (kr0 cb lb gb mb 1)))::((cb,.cells 211 1 [zu ((0:Nat):Int)])::(HG++(HM++(HF++H)))))) zO (hO.toHolds (fun p hp=>List.mem_append_left _ hp)) hT).hsub (.refl _)) ?_
  rintro v H' (⟨hb,vb,XB,hOb,rfl,rfl⟩ | ⟨hb,rfl,rfl⟩)
  ·skip
   refine za 9 rfl ?_
   rcases Nat.eq_zero_or_pos c.length with hz | hz
   ·skip
    refine za 6 rfl ?_
    rw [decide_eq_false (fun h=>h rfl)]
    refine za 5 rfl (zb rfl q6 rfl rfl (za 2 rfl ?_))
    rw [decide_eq_true (by omega)]
    refine za 4 rfl (qB .nil Tryz.call9 rfl hT zI (za 6 rfl ?_))
    refine qj (H2:=H) Tryz.results3 rfl (.nil _) zH ?_
    exact ⟨rfl,rfl⟩
   ·skip
    obtain ⟨bb,capb,rfl,-⟩:=hOb.pos zO
    have hcb:8*c.length≤capb:=by obtain ⟨_,_,e,h,_⟩:=hOb.shape; cases e; exact h
    obtain ⟨x0,hx0⟩:∃ x,c[0]?=some x:=⟨_,List.getElem?_eq_getElem hz⟩
    refine za 6 rfl ?_
    rw [decide_eq_false (fun h=>h rfl)]
    refine za 5 rfl (zb rfl q6 rfl rfl (za 2 rfl ?_))
    rw [decide_eq_false (by omega)]
    refine za 6 rfl ?_
    refine ql (l:=[zi 6,zi 0,zi 0,zi 0,zu 0,zu 0,.slice (some ⟨bb,0,none⟩) (8*c.length) capb]) Ze qal (.cons rfl rfl rfl rfl rfl (.cons rfl rfl rfl rfl rfl .nil)) rfl zk rfl ?_
    refine qH (l:=[zi 0,zi 0,zi 0,zi 0,zu 0,zu 0,.slice none 0 0]) Ze rfl rfl (fun b10=>?_)
    refine qk (l':=[zi 6,zi 0,zi 0,zi 0,zu 0,zu 0,.slice (some ⟨bb,0,none⟩) (8*c.length) capb]) rfl rfl Ze rfl rfl (b:=b10) zM (by exact Nat.le_refl 7) rfl zU ?_
    refine za 10 rfl ?_
    refine ql (l:=[.slice adc c.length capc,.bool false]) Qp qfJ (.cons rfl rfl rfl rfl rfl (.cons rfl rfl rfl rfl rfl .nil)) rfl zk rfl ?_
    refine q9 (zc1 rfl) Tryz.call10 rfl (Xl (l:=c) (s:=false) hic zO hcc (hO.toHolds (fun p hp=>by repeat (first | exact hp | exact List.mem_append_left _ hp | apply List.mem_cons_of_mem | apply List.mem_append_right))) hT) ?_
    refine za 8 rfl ?_
    refine q8 (vs:=[zi 6,zi 0,zi 0,zi 0,zu 0,zu 0,.slice (some ⟨bb,0,none⟩) (8*c.length) capb]) rfl Ze rfl (b:=b10) zM rfl rfl rfl ?_
    have hdo:=Kz (kb:=kb) (H:=(b10,.cells 35 7 [zi 6,zi 0,zi 0,zi 0,zu 0,zu 0,.slice (some ⟨bb,0,none⟩) (8*c.length) capb])::(XB++(HB++((cb,.cells 211 1 [zu ((0:Nat):Int)])::(HG++(HM++(HF++H))))))) (XB:=[]) (r:=(kr0 cb lb gb mb 1)) (L:=[]) (now:=0) (a:=0) hF (fun p hp=>by repeat (first | exact hp | exact List.mem_append_left _ hp | apply List.mem_cons_of_mem | apply List.mem_append_right)) (Zh cb lb gb mb 1) rfl .nil zd ⟨Int.le_refl 0,show (0:Int)≤1000000000 by decide⟩ zM ⟨hz,hcl⟩ zd hic hb hcb (hOb.toHolds (fun p hp=>by repeat (first | exact hp | exact List.mem_append_left _ hp | apply List.mem_cons_of_mem | apply List.mem_append_right))) hT
    rw [show decide ((0:Int)=1)=false from rfl] at hdo
    refine qu (zc2 rfl rfl) Tryz.call11 rfl (hdo.hsub zH) ?_
    rintro v H' (⟨hz2,rfl,lv,lo2,XL,L2,hOl,hL2,hlo2,rfl⟩ | ⟨hz2,rfl,pb,ada,capa,XA,lv,lo2,XL,L2,hOp,hOl,hL2,hlo2,rfl⟩)
    ·skip
     refine za 8 rfl ?_
     refine qu (zc2 rfl rfl) Tryz.call12 rfl ((XJ (kb:=kb) (r:=((kr0 cb lb gb mb 1).lg lv lo2)) (H:=XL++((b10,.cells 35 7 [zi 6,zi 0,zi 0,zi 0,zu 0,zu 0,.slice (some ⟨bb,0,none⟩) (8*c.length) capb])::(XB++(HB++((cb,.cells 211 1 [zu ((0:Nat):Int)])::(HG++(HM++(HF++H)))))))) ⟨(Zh cb lb gb mb 1).p,(Zh cb lb gb mb 1).c⟩ rfl).hsub zH) ?_
     rintro v H' ⟨rfl,rfl⟩
     refine za 3 rfl ?_
     refine qH (l:=[.slice none 0 0,.bool false]) Qp rfl rfl (fun b15=>?_)
     refine qk (l':=[.slice none 0 0,.bool false]) rfl rfl Qp rfl rfl (b:=b15) zM (by exact Nat.le_refl 2) rfl zU ?_
     refine za 6 rfl ?_
     rw [decide_eq_false (fun h=>h rfl)]
     refine za 7 rfl ?_
     rw [decide_eq_false (fun h=>h rfl)]
     refine za 8 rfl ?_
     rw [decide_eq_false hz2]
     refine qr rfl rfl (qcv rfl rfl ty4 rfl (za 11 rfl (qB .nil Tryz.call9 rfl hT zI (za 2 rfl ?_))))
     refine qj (H2:=H) Tryz.results3 rfl (.nil _) zH ?_
     exact ⟨rfl,rfl⟩
    ·skip
     have hr1:(((kr0 cb lb gb mb 1).setP 0 pb).lg lv lo2).Ok:=⟨((Zh cb lb gb mb 1).setP 0 pb).p,((Zh cb lb gb mb 1).setP 0 pb).c⟩
     have hca:c.length≤capa:=by obtain ⟨_,_,e,h,_⟩:=hOp.shape; cases e; exact h
     refine za 8 rfl ?_
     refine qu (zc2 rfl rfl) Tryz.call12 rfl ((qcc (kb:=kb) (r:=(((kr0 cb lb gb mb 1).setP 0 pb).lg lv lo2)) (l:=c) (H:=XL++((pb,.cells 39 2 [.slice ada c.length capa,.bool false])::(XA++((b10,.cells 35 7 [zi 6,zi 0,zi 0,zi 0,zu 0,zu 0,.slice (some ⟨bb,0,none⟩) (8*c.length) capb])::(XB++(HB++((cb,.cells 211 1 [zu ((0:Nat):Int)])::(HG++(HM++(HF++H)))))))))) hr1 rfl zM zO (hOp.toHolds (fun p hp=>by repeat (first | exact hp | exact List.mem_append_left _ hp | apply List.mem_cons_of_mem | apply List.mem_append_right)))).hsub zH) ?_
     rintro v H' ⟨adp,capp,HP,rfl,hOP,rfl⟩
     refine za 3 rfl ?_
     refine qH (l:=[.slice none 0 0,.bool false]) Qp rfl rfl (fun b15=>?_)
     refine qk (l':=[.slice adp c.length capp,.bool false]) rfl rfl Qp rfl rfl (b:=b15) zM (by exact Nat.le_refl 2) rfl zU ?_
     refine za 6 rfl ?_
     rw [decide_eq_false (fun h=>h rfl)]
     refine za 7 rfl ?_
     rw [decide_eq_false (fun h=>h hz2.symm)]
     refine za 8 rfl ?_
     rw [decide_eq_true hz2]
     refine qr rfl rfl (qcv rfl rfl ty4 rfl (za 13 rfl ?_))
     refine ql (l:=[zi 8,zi 0,zi 0,zi 5,zu 0,zu 0,.slice none 0 0]) Ze qal (.cons rfl rfl rfl rfl rfl (.cons rfl rfl rfl rfl rfl .nil)) rfl zk rfl ?_
     refine qu (zc2 rfl rfl) Tryz.call11 rfl ((qar (kb:=kb) (T:=8) (now:=0) (HF:=HF) (XB:=XL) (r:=(((kr0 cb lb gb mb 1).setP 0 pb).lg lv lo2)) (L:=L2) (pb:=pb) (l:=c) (ada:=ada) (capa:=capa) (sl:=false) (H:=(b15,.cells 39 2 [.slice adp c.length capp,.bool false])::(HP++((pb,.cells 39 2 [.slice ada c.length capa,.bool false])::(XA++((b10,.cells 35 7 [zi 6,zi 0,zi 0,zi 0,zu 0,zu 0,.slice (some ⟨bb,0,none⟩) (8*c.length) capb])::(XB++(HB++((cb,.cells 211 1 [zu ((0:Nat):Int)])::(HG++(HM++(HF++H))))))))))) hF (fun p hp=>by repeat (first | exact hp | exact List.mem_append_left _ hp | apply List.mem_cons_of_mem | apply List.mem_append_right)) hr1 hOl hL2 ⟨hlo2.1,Int.le_trans hlo2.2 (show (0:Int)+1≤1000000000 by decide)⟩ zM rfl rfl (Nat.le_refl 1) zM zO hic hz2 hca (hOp.toHolds (fun p hp=>by repeat (first | exact hp | exact List.mem_append_left _ hp | apply List.mem_cons_of_mem | apply List.mem_append_right))) hT).hsub zH) ?_
     rintro v H' ⟨rfl,cb2,br,lv3,lo3,XL3,L3,hOl3,hL3,hlo3,rfl⟩
     have hr2:(((((kr0 cb lb gb mb 1).setP 0 pb).lg lv lo2).setC 0 cb2).lg lv3 lo3).Ok:=⟨(hr1.setC 0 cb2).p,(hr1.setC 0 cb2).c⟩
     have hlo2':0≤lo2∧lo2≤1:=hlo2
     have hlo3':lo2≤lo3∧lo3≤lo2+1:=hlo3
     refine za 8 rfl ?_
     refine ql (l:=[zi 17,zi 0,zi 0,zi 0,zu 0,zu 0,.slice none 0 0]) Ze qal (.cons rfl rfl rfl rfl rfl .nil) rfl zk rfl ?_
     have hdo:=Q8 (w0:=w0) (kb:=kb) (T:=8) (now:=0) (HF:=HF) (XB:=XL3) (r:=(((((kr0 cb lb gb mb 1).setP 0 pb).lg lv lo2).setC 0 cb2).lg lv3 lo3)) (L:=L3) (i:=0) (e:=21) (H:=(cb2,.cells 128 10 [zp br,.int .i64 1,.int .i64 0,.int .i64 0,.int .i64 0,.int .i64 0,.int .i64 0,.bool false,.bool false,.pointer none])::((b15,.cells 39 2 [.slice adp c.length capp,.bool false])::(HP++((pb,.cells 39 2 [.slice ada c.length capa,.bool false])::(XA++((b10,.cells 35 7 [.int .i64 6,.int .i64 0,.int .i64 0,.int .i64 0,.int .u64 0,.int .u64 0,.slice (some ⟨bb,0,none⟩) (8*c.length) capb])::(XB++(HB++((cb,.cells 211 1 [.int .u64 ((0:Nat):Int)])::(HG++(HM++(HF++H)))))))))))) hF (fun p hp=>by repeat (first | exact hp | exact List.mem_append_left _ hp | apply List.mem_cons_of_mem | apply List.mem_append_right)) hr2 hOl3 hL3 ⟨by show 0≤lo3; omega,by show lo3≤1000000000; omega⟩ zM (fun H2 hk hs2=>Yf (i:=0) (HF:=HF) (F:=lf0 1 Ws) (pb:=pb) hr2 hk zd (fun k b hk HQ hq=>by obtain rfl:=Xf (show ((List.replicate 32 (none:Option Nat)).set 0 (some cb2))[k]?=some (some b) from hk); exact qh.own (hq _ (hs2 _ zM)) rfl) rfl hF (fun p hp=>hs2 p (by repeat (first | exact hp | exact List.mem_append_left _ hp | apply List.mem_cons_of_mem | apply List.mem_append_right))) rfl (qbY cb lb gb mb 1 pb cb2 lv lo2))
     refine qu (zc2 rfl rfl) Tryz.call11 rfl (hdo.hsub zH) ?_
     rintro v H' ⟨rfl,lv4,lo4,XL4,L4,hOl4,hL4,hlo4,rfl⟩
     have hlo4':lo3≤lo4∧lo4≤lo3+1:=hlo4
     refine za 8 rfl ?_
     refine ql (l:=[zi 17,zi 1,zi 0,zi 0,zu 0,zu 0,.slice none 0 0]) Ze qal (.cons rfl rfl rfl rfl rfl (.cons rfl rfl rfl rfl rfl .nil)) rfl zk rfl ?_
     have hdo:=Q8 (w0:=w0) (kb:=kb) (T:=8) (now:=0) (HF:=HF) (XB:=XL4) (r:=((((((kr0 cb lb gb mb 1).setP 0 pb).lg lv lo2).setC 0 cb2).lg lv3 lo3).lg lv4 lo4)) (L:=L4) (i:=1) (e:=4) (H:=(cb2,.cells 128 10 [zp br,.int .i64 1,.int .i64 0,.int .i64 0,.int .i64 0,.int .i64 0,.int .i64 0,.bool false,.bool false,.pointer none])::((b15,.cells 39 2 [.slice adp c.length capp,.bool false])::(HP++((pb,.cells 39 2 [.slice ada c.length capa,.bool false])::(XA++((b10,.cells 35 7 [.int .i64 6,.int .i64 0,.int .i64 0,.int .i64 0,.int .u64 0,.int .u64 0,.slice (some ⟨bb,0,none⟩) (8*c.length) capb])::(XB++(HB++((cb,.cells 211 1 [.int .u64 ((0:Nat):Int)])::(HG++(HM++(HF++H)))))))))))) hF (fun p hp=>by repeat (first | exact hp | exact List.mem_append_left _ hp | apply List.mem_cons_of_mem | apply List.mem_append_right)) (show ((((((kr0 cb lb gb mb 1).setP 0 pb).lg lv lo2).setC 0 cb2).lg lv3 lo3).lg lv4 lo4).Ok from ⟨hr2.p,hr2.c⟩) hOl4 hL4 ⟨by show 0≤lo4; omega,by show lo4≤1000000000; omega⟩ zM (fun H2 hk hs2=>Ye (i:=1) (T:=8) (HF:=HF) (F:=lf0 1 Ws) (show ((((((kr0 cb lb gb mb 1).setP 0 pb).lg lv lo2).setC 0 cb2).lg lv3 lo3).lg lv4 lo4).Ok from ⟨hr2.p,hr2.c⟩) hk zd (fun k b hk HQ hq=>by obtain rfl:=Xf (show ((List.replicate 32 (none:Option Nat)).set 0 (some cb2))[k]?=some (some b) from hk); exact qh.own (hq _ (hs2 _ zM)) rfl) rfl)
     refine qu (zc2 rfl rfl) Tryz.call11 rfl (hdo.hsub zH) ?_
     rintro v H' ⟨rfl,lv5,lo5,XL5,L5,hOl5,hL5,hlo5,rfl⟩
     have hlo5':lo4≤lo5∧lo5≤lo4+1:=hlo5
     refine za 6 rfl (z9 zk zK ?_)
     obtain ⟨q1,o1,rfl,hc1⟩:=(hOP.toHolds (w0:=w0) (H:=(kb,.cells 113 57 (knC (((((((kr0 cb lb gb mb 1).setP 0 pb).lg lv lo2).setC 0 cb2).lg lv3 lo3).lg lv4 lo4).lg lv5 lo5)))::(XL5++((cb2,.cells 128 10 [zp br,.int .i64 1,.int .i64 0,.int .i64 0,.int .i64 0,.int .i64 0,.int .i64 0,.bool false,.bool false,.pointer none])::((b15,.cells 39 2 [.slice adp c.length capp,.bool false])::(HP++((pb,.cells 39 2 [.slice ada c.length capa,.bool false])::(XA++((b10,.cells 35 7 [.int .i64 6,.int .i64 0,.int .i64 0,.int .i64 0,.int .u64 0,.int .u64 0,.slice (some ⟨bb,0,none⟩) (8*c.length) capb])::(XB++(HB++((cb,.cells 211 1 [.int .u64 ((0:Nat):Int)])::(HG++(HM++(HF++H)))))))))))))) (fun p hp=>by repeat (first | exact hp | exact List.mem_append_left _ hp | apply List.mem_cons_of_mem | apply List.mem_append_right))).row cells_len zd hx0
     obtain ⟨q2,o2,rfl,hc2⟩:=(hO.toHolds (w0:=w0) (H:=(kb,.cells 113 57 (knC (((((((kr0 cb lb gb mb 1).setP 0 pb).lg lv lo2).setC 0 cb2).lg lv3 lo3).lg lv4 lo4).lg lv5 lo5)))::(XL5++((cb2,.cells 128 10 [zp br,.int .i64 1,.int .i64 0,.int .i64 0,.int .i64 0,.int .i64 0,.int .i64 0,.bool false,.bool false,.pointer none])::((b15,.cells 39 2 [.slice (some ⟨q1,o1,none⟩) c.length capp,.bool false])::(HP++((pb,.cells 39 2 [.slice ada c.length capa,.bool false])::(XA++((b10,.cells 35 7 [.int .i64 6,.int .i64 0,.int .i64 0,.int .i64 0,.int .u64 0,.int .u64 0,.slice (some ⟨bb,0,none⟩) (8*c.length) capb])::(XB++(HB++((cb,.cells 211 1 [.int .u64 ((0:Nat):Int)])::(HG++(HM++(HF++H)))))))))))))) (fun p hp=>by repeat (first | exact hp | exact List.mem_append_left _ hp | apply List.mem_cons_of_mem | apply List.mem_append_right))).row cells_len zd hx0
     refine Yw .nil Tryz.call9 rfl hT zI (zq 4 rfl (qE (qZ rfl ty4 rfl (qh.own zM rfl)) rfl (zq 3 rfl (qE (qhq rfl rfl ty4) rfl ?_))))
     first | refine qE (zX rfl rfl) rfl ?_ | refine qE (zY rfl rfl) rfl ?_
     refine zq 4 rfl (qE (qZ rfl q6 rfl (qh.own zM rfl)) rfl (zq 1 rfl (qE (qaL rfl q6 rfl) rfl (zq 3 rfl (qE (qaL rfl q6 rfl) rfl (zq 2 rfl ?_))))))
     rw [decide_eq_true rfl]
     first | refine qE (zX rfl rfl) rfl ?_ | refine qE (zY rfl rfl) rfl ?_
     refine zq 4 rfl (qE (qZ rfl q6 rfl (qh.own zM rfl)) rfl (zq 1 rfl ?_))
     refine qE (qV (j:=0) rfl rfl q6 zo (by first | rfl | omega) (by first | decide | omega | simp) rfl) rfl ?_
     refine zq 1 rfl ?_
     refine qE (Ys rfl zo rfl (vs:=x0.cells) rfl hc1) rfl ?_
     refine zq 3 rfl ?_
     refine qE (qV (j:=0) rfl rfl q6 zo (by first | rfl | omega) (by first | decide | omega | simp) rfl) rfl ?_
     refine zq 1 rfl ?_
     refine qE (Ys rfl zo rfl (vs:=x0.cells) rfl hc2) rfl ?_
     refine zq 1 rfl ?_
     refine qE (qhp (f:=Ins.cells) rfl rfl qeN qho Ins.cells_like Ins.cells_inj gt45 zd) rfl ?_
     rw [decide_eq_true rfl]
     first | refine qE (zX rfl rfl) rfl ?_ | refine qE (zY rfl rfl) rfl ?_
     refine zq 5 rfl ?_
     first | refine qE (zX rfl rfl) rfl ?_ | refine qE (zY rfl rfl) rfl ?_
     refine zq 5 rfl ?_
     first | refine qE (zX rfl rfl) rfl ?_ | refine qE (zY rfl rfl) rfl ?_
     refine zq 5 rfl ?_
     first | refine qE (zX rfl rfl) rfl ?_ | refine qE (zY rfl rfl) rfl ?_
     refine zq 1 rfl (ZI ?_)
     refine qj (H2:=H) Tryz.results3 rfl (.nil _) zH ?_
     exact ⟨rfl,rfl⟩
  ·skip
   refine za 15 rfl ?_
   rw [decide_eq_true hb]
   refine za 9 rfl (qB .nil Tryz.call9 rfl hT zI (za 6 rfl ?_))
   refine qj (H2:=H) Tryz.results3 rfl (.nil _) zH ?_
   exact ⟨rfl,rfl⟩
 ·skip
  refine za 4 rfl ?_
  refine qu (zc3 rfl rfl rfl) Tryz.call6 rfl ((qad (H:=H)).hsub (.refl _)) ?_
  rintro v H' ⟨kb,cb,lb,gb,mb,Ws,HF,HG,HM,rfl,hF,rfl⟩
  refine za 8 rfl ?_
  refine qu (zc2 rfl rfl) Tryz.call7 rfl ((qeQ (H:=(kb,.cells 113 57 (knC (kr0 cb lb gb mb 1)))::((cb,.cells 211 1 [zu ((0:Nat):Int)])::(HG++(HM++(HF++H))))) l 64 zd (hrow.up zH) hT).hsub (.refl _)) ?_
  rintro v H' ⟨HB,hO,rfl⟩
  obtain ⟨c,hc⟩:∃ c,c=l.take (64:Int).toNat:=⟨_,rfl⟩
  rw [← hc] at hO
  have hcl:c.length≤64:=by rw [hc,List.length_take]; exact Nat.min_le_left _ _
  have hic:z7 c:=fun x hx=>hi x (List.mem_of_mem_take (hc ▸ hx))
  clear hc
  obtain ⟨adc,capc,rfl,hcc,-⟩:=hO.shape
  refine za 4 rfl ?_
  refine qu (zc1 rfl) Tryz.call8 rfl ((qcm (l:=c) (H:=HB++((kb,.cells 113 57 (knC (kr0 cb lb gb mb 1)))::((cb,.cells 211 1 [zu ((0:Nat):Int)])::(HG++(HM++(HF++H)))))) zO (hO.toHolds (fun p hp=>List.mem_append_left _ hp)) hT).hsub (.refl _)) ?_
  rintro v H' (⟨hb,vb,XB,hOb,rfl,rfl⟩ | ⟨hb,rfl,rfl⟩)
  ·skip
   refine za 9 rfl ?_
   rcases Nat.eq_zero_or_pos c.length with hz | hz
   ·skip
    refine za 6 rfl ?_
    rw [decide_eq_false (fun h=>h rfl)]
    refine za 5 rfl (zb rfl q6 rfl rfl (za 2 rfl ?_))
    rw [decide_eq_true (by omega)]
    refine za 4 rfl (qB .nil Tryz.call9 rfl hT zI (za 6 rfl ?_))
    refine qj (H2:=H) Tryz.results3 rfl (.nil _) zH ?_
    exact ⟨rfl,rfl⟩
   ·skip
    obtain ⟨bb,capb,rfl,-⟩:=hOb.pos zO
    have hcb:8*c.length≤capb:=by obtain ⟨_,_,e,h,_⟩:=hOb.shape; cases e; exact h
    obtain ⟨x0,hx0⟩:∃ x,c[0]?=some x:=⟨_,List.getElem?_eq_getElem hz⟩
    refine za 6 rfl ?_
    rw [decide_eq_false (fun h=>h rfl)]
    refine za 5 rfl (zb rfl q6 rfl rfl (za 2 rfl ?_))
    rw [decide_eq_false (by omega)]
    refine za 6 rfl ?_
    refine ql (l:=[zi 6,zi 0,zi 0,zi 0,zu 0,zu 0,.slice (some ⟨bb,0,none⟩) (8*c.length) capb]) Ze qal (.cons rfl rfl rfl rfl rfl (.cons rfl rfl rfl rfl rfl .nil)) rfl zk rfl ?_
    refine qH (l:=[zi 0,zi 0,zi 0,zi 0,zu 0,zu 0,.slice none 0 0]) Ze rfl rfl (fun b10=>?_)
    refine qk (l':=[zi 6,zi 0,zi 0,zi 0,zu 0,zu 0,.slice (some ⟨bb,0,none⟩) (8*c.length) capb]) rfl rfl Ze rfl rfl (b:=b10) zM (by exact Nat.le_refl 7) rfl zU ?_
    refine za 8 rfl ?_
    refine q7 (l':=[zi 6,zi 1,zi 0,zi 0,zu 0,zu 0,.slice (some ⟨bb,0,none⟩) (8*c.length) capb]) rfl rfl ty3 rfl rfl (b:=b10) zM rfl rfl zU ?_
    refine za 4 rfl ?_
    refine ql (l:=[.slice adc c.length capc,.bool true]) Qp qfJ (.cons rfl rfl rfl rfl rfl (.cons rfl rfl rfl rfl rfl .nil)) rfl zk rfl ?_
    refine q9 (zc1 rfl) Tryz.call10 rfl (Xl (l:=c) (s:=true) hic zO hcc (hO.toHolds (fun p hp=>by repeat (first | exact hp | exact List.mem_append_left _ hp | apply List.mem_cons_of_mem | apply List.mem_append_right))) hT) ?_
    refine za 8 rfl ?_
    refine q8 (vs:=[zi 6,zi 1,zi 0,zi 0,zu 0,zu 0,.slice (some ⟨bb,0,none⟩) (8*c.length) capb]) rfl Ze rfl (b:=b10) zM rfl rfl rfl ?_
    have hdo:=Kz (kb:=kb) (H:=(b10,.cells 35 7 [zi 6,zi 1,zi 0,zi 0,zu 0,zu 0,.slice (some ⟨bb,0,none⟩) (8*c.length) capb])::(XB++(HB++((cb,.cells 211 1 [zu ((0:Nat):Int)])::(HG++(HM++(HF++H))))))) (XB:=[]) (r:=(kr0 cb lb gb mb 1)) (L:=[]) (now:=0) (a:=1) hF (fun p hp=>by repeat (first | exact hp | exact List.mem_append_left _ hp | apply List.mem_cons_of_mem | apply List.mem_append_right)) (Zh cb lb gb mb 1) rfl .nil zd ⟨Int.le_refl 0,show (0:Int)≤1000000000 by decide⟩ zM ⟨hz,hcl⟩ zd hic hb hcb (hOb.toHolds (fun p hp=>by repeat (first | exact hp | exact List.mem_append_left _ hp | apply List.mem_cons_of_mem | apply List.mem_append_right))) hT
    rw [show decide ((1:Int)=1)=true from rfl] at hdo
    refine qu (zc2 rfl rfl) Tryz.call11 rfl (hdo.hsub zH) ?_
    rintro v H' (⟨hz2,rfl,lv,lo2,XL,L2,hOl,hL2,hlo2,rfl⟩ | ⟨hz2,rfl,pb,ada,capa,XA,lv,lo2,XL,L2,hOp,hOl,hL2,hlo2,rfl⟩)
    ·skip
     refine za 8 rfl ?_
     refine qu (zc2 rfl rfl) Tryz.call12 rfl ((XJ (kb:=kb) (r:=((kr0 cb lb gb mb 1).lg lv lo2)) (H:=XL++((b10,.cells 35 7 [zi 6,zi 1,zi 0,zi 0,zu 0,zu 0,.slice (some ⟨bb,0,none⟩) (8*c.length) capb])::(XB++(HB++((cb,.cells 211 1 [zu ((0:Nat):Int)])::(HG++(HM++(HF++H)))))))) ⟨(Zh cb lb gb mb 1).p,(Zh cb lb gb mb 1).c⟩ rfl).hsub zH) ?_
     rintro v H' ⟨rfl,rfl⟩
     refine za 3 rfl ?_
     refine qH (l:=[.slice none 0 0,.bool false]) Qp rfl rfl (fun b15=>?_)
     refine qk (l':=[.slice none 0 0,.bool false]) rfl rfl Qp rfl rfl (b:=b15) zM (by exact Nat.le_refl 2) rfl zU ?_
     refine za 6 rfl ?_
     rw [decide_eq_false (fun h=>h rfl)]
     refine za 7 rfl ?_
     rw [decide_eq_false (fun h=>h rfl)]
     refine za 8 rfl ?_
     rw [decide_eq_false hz2]
     refine qr rfl rfl (qcv rfl rfl ty4 rfl (za 11 rfl (qB .nil Tryz.call9 rfl hT zI (za 2 rfl ?_))))
     refine qj (H2:=H) Tryz.results3 rfl (.nil _) zH ?_
     exact ⟨rfl,rfl⟩
    ·skip
     have hr1:(((kr0 cb lb gb mb 1).setP 0 pb).lg lv lo2).Ok:=⟨((Zh cb lb gb mb 1).setP 0 pb).p,((Zh cb lb gb mb 1).setP 0 pb).c⟩
     have hca:c.length≤capa:=by obtain ⟨_,_,e,h,_⟩:=hOp.shape; cases e; exact h
     refine za 8 rfl ?_
     refine qu (zc2 rfl rfl) Tryz.call12 rfl ((qcc (kb:=kb) (r:=(((kr0 cb lb gb mb 1).setP 0 pb).lg lv lo2)) (l:=c) (H:=XL++((pb,.cells 39 2 [.slice ada c.length capa,.bool true])::(XA++((b10,.cells 35 7 [zi 6,zi 1,zi 0,zi 0,zu 0,zu 0,.slice (some ⟨bb,0,none⟩) (8*c.length) capb])::(XB++(HB++((cb,.cells 211 1 [zu ((0:Nat):Int)])::(HG++(HM++(HF++H)))))))))) hr1 rfl zM zO (hOp.toHolds (fun p hp=>by repeat (first | exact hp | exact List.mem_append_left _ hp | apply List.mem_cons_of_mem | apply List.mem_append_right)))).hsub zH) ?_
     rintro v H' ⟨adp,capp,HP,rfl,hOP,rfl⟩
     refine za 3 rfl ?_
     refine qH (l:=[.slice none 0 0,.bool false]) Qp rfl rfl (fun b15=>?_)
     refine qk (l':=[.slice adp c.length capp,.bool true]) rfl rfl Qp rfl rfl (b:=b15) zM (by exact Nat.le_refl 2) rfl zU ?_
     refine za 6 rfl ?_
     rw [decide_eq_false (fun h=>h rfl)]
     refine za 7 rfl ?_
     rw [decide_eq_false (fun h=>h hz2.symm)]
     refine za 8 rfl ?_
     rw [decide_eq_true hz2]
     refine qr rfl rfl (qcv rfl rfl ty4 rfl (za 13 rfl ?_))
     refine ql (l:=[zi 8,zi 0,zi 0,zi 5,zu 0,zu 0,.slice none 0 0]) Ze qal (.cons rfl rfl rfl rfl rfl (.cons rfl rfl rfl rfl rfl .nil)) rfl zk rfl ?_
     refine qu (zc2 rfl rfl) Tryz.call11 rfl ((qar (kb:=kb) (T:=8) (now:=0) (HF:=HF) (XB:=XL) (r:=(((kr0 cb lb gb mb 1).setP 0 pb).lg lv lo2)) (L:=L2) (pb:=pb) (l:=c) (ada:=ada) (capa:=capa) (sl:=true) (H:=(b15,.cells 39 2 [.slice adp c.length capp,.bool true])::(HP++((pb,.cells 39 2 [.slice ada c.length capa,.bool true])::(XA++((b10,.cells 35 7 [zi 6,zi 1,zi 0,zi 0,zu 0,zu 0,.slice (some ⟨bb,0,none⟩) (8*c.length) capb])::(XB++(HB++((cb,.cells 211 1 [zu ((0:Nat):Int)])::(HG++(HM++(HF++H))))))))))) hF (fun p hp=>by repeat (first | exact hp | exact List.mem_append_left _ hp | apply List.mem_cons_of_mem | apply List.mem_append_right)) hr1 hOl hL2 ⟨hlo2.1,Int.le_trans hlo2.2 (show (0:Int)+1≤1000000000 by decide)⟩ zM rfl rfl (Nat.le_refl 1) zM zO hic hz2 hca (hOp.toHolds (fun p hp=>by repeat (first | exact hp | exact List.mem_append_left _ hp | apply List.mem_cons_of_mem | apply List.mem_append_right))) hT).hsub zH) ?_
     rintro v H' ⟨rfl,cb2,br,lv3,lo3,XL3,L3,hOl3,hL3,hlo3,rfl⟩
     have hr2:(((((kr0 cb lb gb mb 1).setP 0 pb).lg lv lo2).setC 0 cb2).lg lv3 lo3).Ok:=⟨(hr1.setC 0 cb2).p,(hr1.setC 0 cb2).c⟩
     have hlo2':0≤lo2∧lo2≤1:=hlo2
     have hlo3':lo2≤lo3∧lo3≤lo2+1:=hlo3
     refine za 8 rfl ?_
     refine ql (l:=[zi 17,zi 0,zi 0,zi 0,zu 0,zu 0,.slice none 0 0]) Ze qal (.cons rfl rfl rfl rfl rfl .nil) rfl zk rfl ?_
     have hdo:=Q8 (w0:=w0) (kb:=kb) (T:=8) (now:=0) (HF:=HF) (XB:=XL3) (r:=(((((kr0 cb lb gb mb 1).setP 0 pb).lg lv lo2).setC 0 cb2).lg lv3 lo3)) (L:=L3) (i:=0) (e:=21) (H:=(cb2,.cells 128 10 [zp br,.int .i64 1,.int .i64 0,.int .i64 0,.int .i64 0,.int .i64 0,.int .i64 0,.bool false,.bool false,.pointer none])::((b15,.cells 39 2 [.slice adp c.length capp,.bool true])::(HP++((pb,.cells 39 2 [.slice ada c.length capa,.bool true])::(XA++((b10,.cells 35 7 [.int .i64 6,.int .i64 1,.int .i64 0,.int .i64 0,.int .u64 0,.int .u64 0,.slice (some ⟨bb,0,none⟩) (8*c.length) capb])::(XB++(HB++((cb,.cells 211 1 [.int .u64 ((0:Nat):Int)])::(HG++(HM++(HF++H)))))))))))) hF (fun p hp=>by repeat (first | exact hp | exact List.mem_append_left _ hp | apply List.mem_cons_of_mem | apply List.mem_append_right)) hr2 hOl3 hL3 ⟨by show 0≤lo3; omega,by show lo3≤1000000000; omega⟩ zM (fun H2 hk hs2=>Yf (i:=0) (HF:=HF) (F:=lf0 1 Ws) (pb:=pb) hr2 hk zd (fun k b hk HQ hq=>by obtain rfl:=Xf (show ((List.replicate 32 (none:Option Nat)).set 0 (some cb2))[k]?=some (some b) from hk); exact qh.own (hq _ (hs2 _ zM)) rfl) rfl hF (fun p hp=>hs2 p (by repeat (first | exact hp | exact List.mem_append_left _ hp | apply List.mem_cons_of_mem | apply List.mem_append_right))) rfl (qbY cb lb gb mb 1 pb cb2 lv lo2))
     refine qu (zc2 rfl rfl) Tryz.call11 rfl (hdo.hsub zH) ?_
     rintro v H' ⟨rfl,lv4,lo4,XL4,L4,hOl4,hL4,hlo4,rfl⟩
     have hlo4':lo3≤lo4∧lo4≤lo3+1:=hlo4
     refine za 8 rfl ?_
     refine ql (l:=[zi 17,zi 1,zi 0,zi 0,zu 0,zu 0,.slice none 0 0]) Ze qal (.cons rfl rfl rfl rfl rfl (.cons rfl rfl rfl rfl rfl .nil)) rfl zk rfl ?_
     have hdo:=Q8 (w0:=w0) (kb:=kb) (T:=8) (now:=0) (HF:=HF) (XB:=XL4) (r:=((((((kr0 cb lb gb mb 1).setP 0 pb).lg lv lo2).setC 0 cb2).lg lv3 lo3).lg lv4 lo4)) (L:=L4) (i:=1) (e:=4) (H:=(cb2,.cells 128 10 [zp br,.int .i64 1,.int .i64 0,.int .i64 0,.int .i64 0,.int .i64 0,.int .i64 0,.bool false,.bool false,.pointer none])::((b15,.cells 39 2 [.slice adp c.length capp,.bool true])::(HP++((pb,.cells 39 2 [.slice ada c.length capa,.bool true])::(XA++((b10,.cells 35 7 [.int .i64 6,.int .i64 1,.int .i64 0,.int .i64 0,.int .u64 0,.int .u64 0,.slice (some ⟨bb,0,none⟩) (8*c.length) capb])::(XB++(HB++((cb,.cells 211 1 [.int .u64 ((0:Nat):Int)])::(HG++(HM++(HF++H)))))))))))) hF (fun p hp=>by repeat (first | exact hp | exact List.mem_append_left _ hp | apply List.mem_cons_of_mem | apply List.mem_append_right)) (show ((((((kr0 cb lb gb mb 1).setP 0 pb).lg lv lo2).setC 0 cb2).lg lv3 lo3).lg lv4 lo4).Ok from ⟨hr2.p,hr2.c⟩) hOl4 hL4 ⟨by show 0≤lo4; omega,by show lo4≤1000000000; omega⟩ zM (fun H2 hk hs2=>Ye (i:=1) (T:=8) (HF:=HF) (F:=lf0 1 Ws) (show ((((((kr0 cb lb gb mb 1).setP 0 pb).lg lv lo2).setC 0 cb2).lg lv3 lo3).lg lv4 lo4).Ok from ⟨hr2.p,hr2.c⟩) hk zd (fun k b hk HQ hq=>by obtain rfl:=Xf (show ((List.replicate 32 (none:Option Nat)).set 0 (some cb2))[k]?=some (some b) from hk); exact qh.own (hq _ (hs2 _ zM)) rfl) rfl)
     refine qu (zc2 rfl rfl) Tryz.call11 rfl (hdo.hsub zH) ?_
     rintro v H' ⟨rfl,lv5,lo5,XL5,L5,hOl5,hL5,hlo5,rfl⟩
     have hlo5':lo4≤lo5∧lo5≤lo4+1:=hlo5
     refine za 6 rfl (z9 zk zK ?_)
     obtain ⟨q1,o1,rfl,hc1⟩:=(hOP.toHolds (w0:=w0) (H:=(kb,.cells 113 57 (knC (((((((kr0 cb lb gb mb 1).setP 0 pb).lg lv lo2).setC 0 cb2).lg lv3 lo3).lg lv4 lo4).lg lv5 lo5)))::(XL5++((cb2,.cells 128 10 [zp br,.int .i64 1,.int .i64 0,.int .i64 0,.int .i64 0,.int .i64 0,.int .i64 0,.bool false,.bool false,.pointer none])::((b15,.cells 39 2 [.slice adp c.length capp,.bool true])::(HP++((pb,.cells 39 2 [.slice ada c.length capa,.bool true])::(XA++((b10,.cells 35 7 [.int .i64 6,.int .i64 1,.int .i64 0,.int .i64 0,.int .u64 0,.int .u64 0,.slice (some ⟨bb,0,none⟩) (8*c.length) capb])::(XB++(HB++((cb,.cells 211 1 [.int .u64 ((0:Nat):Int)])::(HG++(HM++(HF++H)))))))))))))) (fun p hp=>by repeat (first | exact hp | exact List.mem_append_left _ hp | apply List.mem_cons_of_mem | apply List.mem_append_right))).row cells_len zd hx0
     obtain ⟨q2,o2,rfl,hc2⟩:=(hO.toHolds (w0:=w0) (H:=(kb,.cells 113 57 (knC (((((((kr0 cb lb gb mb 1).setP 0 pb).lg lv lo2).setC 0 cb2).lg lv3 lo3).lg lv4 lo4).lg lv5 lo5)))::(XL5++((cb2,.cells 128 10 [zp br,.int .i64 1,.int .i64 0,.int .i64 0,.int .i64 0,.int .i64 0,.int .i64 0,.bool false,.bool false,.pointer none])::((b15,.cells 39 2 [.slice (some ⟨q1,o1,none⟩) c.length capp,.bool true])::(HP++((pb,.cells 39 2 [.slice ada c.length capa,.bool true])::(XA++((b10,.cells 35 7 [.int .i64 6,.int .i64 1,.int .i64 0,.int .i64 0,.int .u64 0,.int .u64 0,.slice (some ⟨bb,0,none⟩) (8*c.length) capb])::(XB++(HB++((cb,.cells 211 1 [.int .u64 ((0:Nat):Int)])::(HG++(HM++(HF++H)))))))))))))) (fun p hp=>by repeat (first | exact hp | exact List.mem_append_left _ hp | apply List.mem_cons_of_mem | apply List.mem_append_right))).row cells_len zd hx0
     refine Yw .nil Tryz.call9 rfl hT zI (zq 4 rfl (qE (qZ rfl ty4 rfl (qh.own zM rfl)) rfl (zq 3 rfl (qE (qhq rfl rfl ty4) rfl ?_))))
     first | refine qE (zX rfl rfl) rfl ?_ | refine qE (zY rfl rfl) rfl ?_
     refine zq 4 rfl (qE (qZ rfl q6 rfl (qh.own zM rfl)) rfl (zq 1 rfl (qE (qaL rfl q6 rfl) rfl (zq 3 rfl (qE (qaL rfl q6 rfl) rfl (zq 2 rfl ?_))))))
     rw [decide_eq_true rfl]
     first | refine qE (zX rfl rfl) rfl ?_ | refine qE (zY rfl rfl) rfl ?_
     refine zq 4 rfl (qE (qZ rfl q6 rfl (qh.own zM rfl)) rfl (zq 1 rfl ?_))
     refine qE (qV (j:=0) rfl rfl q6 zo (by first | rfl | omega) (by first | decide | omega | simp) rfl) rfl ?_
     refine zq 1 rfl ?_
     refine qE (Ys rfl zo rfl (vs:=x0.cells) rfl hc1) rfl ?_
     refine zq 3 rfl ?_
     refine qE (qV (j:=0) rfl rfl q6 zo (by first | rfl | omega) (by first | decide | omega | simp) rfl) rfl ?_
     refine zq 1 rfl ?_
     refine qE (Ys rfl zo rfl (vs:=x0.cells) rfl hc2) rfl ?_
     refine zq 1 rfl ?_
     refine qE (qhp (f:=Ins.cells) rfl rfl qeN qho Ins.cells_like Ins.cells_inj gt45 zd) rfl ?_
     rw [decide_eq_true rfl]
     first | refine qE (zX rfl rfl) rfl ?_ | refine qE (zY rfl rfl) rfl ?_
     refine zq 5 rfl ?_
     first | refine qE (zX rfl rfl) rfl ?_ | refine qE (zY rfl rfl) rfl ?_
     refine zq 5 rfl ?_
     first | refine qE (zX rfl rfl) rfl ?_ | refine qE (zY rfl rfl) rfl ?_
     refine zq 5 rfl ?_
     first | refine qE (zX rfl rfl) rfl ?_ | refine qE (zY rfl rfl) rfl ?_
     refine zq 1 rfl (ZI ?_)
     refine qj (H2:=H) Tryz.results3 rfl (.nil _) zH ?_
     exact ⟨rfl,rfl⟩
  ·skip
   refine za 15 rfl ?_
   rw [decide_eq_true hb]
   refine za 9 rfl (qB .nil Tryz.call9 rfl hT zI (za 6 rfl ?_))
   refine qj (H2:=H) Tryz.results3 rfl (.nil _) zH ?_
   exact ⟨rfl,rfl⟩
theorem Jo (hi:z7 l):Qc Tryz.prog (fun w=>qaR w∧Jh w ad (qI l)) 3 [.slice ad l.length cap,.bool sl] (.bool true):=fun w0 H hT=>YF hi (qq.old hT.2) hT.1
end Go.Proofs.YtcggkokeggfdkaaGreatDoor
