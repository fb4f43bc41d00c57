/-
  Own work: contracts of functions that the statement reaches, and plain facts on what they compute; each theorem says its conditions.
-/
import Derived.Test.YtincjohoncljoaaGreatDoorLhT1
import Derived.Test.YtincjohoncljoaaGreatDoorLhS2
import Derived.Test.YtincjohoncljoaaGreatDoorLhS1
import Derived.Test.YtincjohoncljoaaGreatDoorLhS3
import Derived.Test.YtincjohoncljoaaGreatDoorLhA
set_option linter.all false
set_option linter.unusedSimpArgs false
set_option linter.unusedVariables false
set_option maxHeartbeats 16000000
namespace Go.Proofs.YtincjohoncljoaaGreatDoor
open Go Go.Sl
variable {x began r id gen y:Int} {n m i z sb cap j R h rb b k now bm turn:Nat} {L:List Slt} {s t:Slt} {w0:World} {H HB:qe} {S:Sct} {l buf:List Int} {ad:Option Addr} {q:List (Int × Int)} {α:Type} {Q:List (List (Int × Int))} {sl:List Value} {bs:List Nat}
attribute [local irreducible] W
theorem qfv (x k:Nat) (hk:k<64):Int.fdiv (x:Int) (2 ^ (min (k:Int).toNat IntKind.u64.bits))=((x >>> k:Nat):Int):=by
 have e0:min (k:Int).toNat IntKind.u64.bits=k:=by
  have:IntKind.u64.bits=64:=rfl
  omega
 rw [e0,Nat.shiftRight_eq_div_pow,Int.fdiv_eq_ediv_of_nonneg _ (by exact Int.le_of_lt (Int.pow_pos (by decide)))]
 rw [show (2:Int) ^ k=((2 ^ k:Nat):Int) from (Int.natCast_pow 2 k).symm]
 exact (Int.natCast_ediv _ _).symm
theorem qce (x k:Nat):(x >>> k)*2 ^ k≤x:=by rw [Nat.shiftRight_eq_div_pow]; exact Nat.div_mul_le_self x _
theorem qm5 {a:Nat} (ha:a<9223372036854775808):Yt .and .i64 (a:Int) 127=((a%128:Nat):Int):=by
 have ea:BitVec.ofInt 64 (a:Int)=BitVec.ofNat 64 a:=by simp
 have eb:BitVec.ofInt 64 (127:Int)=BitVec.ofNat 64 127:=by decide
 show IntKind.i64.wrap (((BitVec.ofInt 64 (a:Int) &&& BitVec.ofInt 64 (127:Int)).toNat:Nat):Int)=_
 rw [ea,eb,BitVec.toNat_and,BitVec.toNat_ofNat,BitVec.toNat_ofNat,Nat.mod_eq_of_lt (show a<2 ^ 64 by omega),Nat.mod_eq_of_lt (show 127<2 ^ 64 by decide),show (127:Nat)=2 ^ 7-1 from rfl,Nat.and_two_pow_sub_one_eq_mod]
 exact qW ⟨by omega,by omega⟩
theorem qfI {x:Nat} (hx:x<18446744073709551616):Zu Tryz.prog (fun _=>True) 309 [zu ((x:Nat):Int)] (zi ((Qi 64 x:Nat):Int)):=by
 intro w0 H hT
 obtain ⟨s1,es1⟩:∃ y:Nat,y=x >>> 1:=⟨_,rfl⟩
 obtain ⟨p1,ep1⟩:∃ y:Nat,y=s1 &&& 6148914691236517205:=⟨_,rfl⟩
 obtain ⟨q1,eq1⟩:∃ y:Nat,y=x &&& 6148914691236517205:=⟨_,rfl⟩
 obtain ⟨a,ea⟩:∃ y:Nat,y=p1+q1:=⟨_,rfl⟩
 obtain ⟨s2,es2⟩:∃ y:Nat,y=a >>> 2:=⟨_,rfl⟩
 obtain ⟨p2,ep2⟩:∃ y:Nat,y=s2 &&& 3689348814741910323:=⟨_,rfl⟩
 obtain ⟨q2,eq2⟩:∃ y:Nat,y=a &&& 3689348814741910323:=⟨_,rfl⟩
 obtain ⟨b,eb⟩:∃ y:Nat,y=p2+q2:=⟨_,rfl⟩
 obtain ⟨s3,es3⟩:∃ y:Nat,y=b >>> 4:=⟨_,rfl⟩
 obtain ⟨t3,et3⟩:∃ y:Nat,y=s3+b:=⟨_,rfl⟩
 obtain ⟨c,ec⟩:∃ y:Nat,y=t3 &&& 1085102592571150095:=⟨_,rfl⟩
 obtain ⟨s4,es4⟩:∃ y:Nat,y=c >>> 8:=⟨_,rfl⟩
 obtain ⟨d,ed⟩:∃ y:Nat,y=c+s4:=⟨_,rfl⟩
 obtain ⟨s5,es5⟩:∃ y:Nat,y=d >>> 16:=⟨_,rfl⟩
 obtain ⟨f,ef⟩:∃ y:Nat,y=d+s5:=⟨_,rfl⟩
 obtain ⟨s6,es6⟩:∃ y:Nat,y=f >>> 32:=⟨_,rfl⟩
 obtain ⟨g,eg⟩:∃ y:Nat,y=f+s6:=⟨_,rfl⟩
 have hr:Qi 64 x=g%128:=by
  rw [← qfJ hx]
  unfold qeg
  dsimp only
  rw [eg,es6,ef,es5,ed,es4,ec,et3,es3,eb,ep2,eq2,es2,ea,ep1,eq1,es1]
 have bp1:p1≤6148914691236517205:=ep1 ▸ Nat.and_le_right
 have bq1:q1≤6148914691236517205:=eq1 ▸ Nat.and_le_right
 have bp2:p2≤3689348814741910323:=ep2 ▸ Nat.and_le_right
 have bq2:q2≤3689348814741910323:=eq2 ▸ Nat.and_le_right
 have bc:c≤1085102592571150095:=ec ▸ Nat.and_le_right
 have bs1:s1≤x:=es1 ▸ Nat.shiftRight_le ..
 have bs2:s2≤a:=es2 ▸ Nat.shiftRight_le ..
 have bs3:s3≤b:=es3 ▸ Nat.shiftRight_le ..
 have bs4:s4≤c:=es4 ▸ Nat.shiftRight_le ..
 have bs5:s5≤d:=es5 ▸ Nat.shiftRight_le ..
 have bs6:s6≤f:=es6 ▸ Nat.shiftRight_le ..
 have bs3':s3*16≤b:=es3 ▸ qce b 4
 have bs6':s6*4294967296≤f:=es6 ▸ qce f 32
 have bs5':s5*65536≤d:=es5 ▸ qce d 16
 rw [hr]
 refine qd Tryz.func309 rfl Tryz.ntmps309 rfl rfl (za 5 rfl ?_)
 refine qF rfl rfl (qar (by decide) (m:=((s1:Nat):Int)) ((qfv x 1 (by decide)).trans (by rw [es1]))) rfl ?_
 refine qF rfl rfl (KI (m:=((p1:Nat):Int)) ((qau (b:=6148914691236517205) (by omega) (by decide)).trans (by rw [ep1]))) rfl ?_
 refine qH rfl rfl ?_
 refine qF rfl rfl (KI (m:=((q1:Nat):Int)) ((qau (b:=6148914691236517205) (by omega) (by decide)).trans (by rw [eq1]))) rfl ?_
 refine qF rfl rfl (qM (m:=((a:Nat):Int)) (by rw [X9 (by omega)]; omega)) rfl ?_
 refine za 4 rfl ?_
 refine qF rfl rfl (qar (by decide) (m:=((s2:Nat):Int)) ((qfv a 2 (by decide)).trans (by rw [es2]))) rfl ?_
 refine qF rfl rfl (KI (m:=((p2:Nat):Int)) ((qau (b:=3689348814741910323) (by omega) (by decide)).trans (by rw [ep2]))) rfl ?_
 refine qH rfl rfl ?_
 refine qF rfl rfl (KI (m:=((q2:Nat):Int)) ((qau (b:=3689348814741910323) (by omega) (by decide)).trans (by rw [eq2]))) rfl ?_
 refine qF rfl rfl (qM (m:=((b:Nat):Int)) (by rw [X9 (by omega)]; omega)) rfl ?_
 refine za 4 rfl ?_
 refine qF rfl rfl (qar (by decide) (m:=((s3:Nat):Int)) ((qfv b 4 (by decide)).trans (by rw [es3]))) rfl ?_
 refine qH rfl rfl ?_
 refine qF rfl rfl (qM (m:=((t3:Nat):Int)) (by rw [X9 (by omega)]; omega)) rfl ?_
 refine qF rfl rfl (KI (m:=((c:Nat):Int)) ((qau (b:=1085102592571150095) (by omega) (by decide)).trans (by rw [ec]))) rfl ?_
 refine za 5 rfl ?_
 refine qF rfl rfl (qar (by decide) (m:=((s4:Nat):Int)) ((qfv c 8 (by decide)).trans (by rw [es4]))) rfl ?_
 refine qF rfl rfl (qM (m:=((d:Nat):Int)) (by rw [X9 (by omega)]; omega)) rfl ?_
 refine za 5 rfl ?_
 refine qF rfl rfl (qar (by decide) (m:=((s5:Nat):Int)) ((qfv d 16 (by decide)).trans (by rw [es5]))) rfl ?_
 refine qF rfl rfl (qM (m:=((f:Nat):Int)) (by rw [X9 (by omega)]; omega)) rfl ?_
 refine za 5 rfl ?_
 refine qF rfl rfl (qar (by decide) (m:=((s6:Nat):Int)) ((qfv f 32 (by decide)).trans (by rw [es6]))) rfl ?_
 refine qF rfl rfl (qM (m:=((g:Nat):Int)) (by rw [X9 (by omega)]; omega)) rfl ?_
 refine za 4 rfl (Yu rfl zX ty3 (qW zO) rfl ?_)
 refine qF rfl rfl (KI (m:=((g%128:Nat):Int)) (qm5 zO)) rfl ?_
 refine za 2 rfl ?_
 refine qj (H2:=H) Tryz.results309 rfl (.nil _) zH ?_
 exact ⟨rfl,rfl⟩
theorem YA {x:Nat} (hx:x<18446744073709551616):Zu Tryz.prog (fun _=>True) 222 [zu ((x:Nat):Int)] (zi ((Qi 64 x:Nat):Int)):=by
 intro w0 H hT
 refine qd Tryz.func222 rfl Tryz.ntmps222 rfl rfl (za 5 rfl ?_)
 refine zI (zc1 rfl) Tryz.call309 rfl (T:=fun _=>True) trivial (qfI hx) ?_
 refine za 2 rfl ?_
 refine qj (H2:=H) Tryz.results222 rfl (.nil _) zH ?_
 exact ⟨rfl,rfl⟩
theorem qb3 (h1:1≤n) (h2:n≤64):Zu Tryz.prog (fun _=>True) 260 [zi (n:Int)] (zu ((2 ^ n-1:Nat):Int)):=by
 intro w0 H hT
 refine qd Tryz.func260 rfl Tryz.ntmps260 rfl rfl (za 10 rfl (QM rfl (decide_eq_false zO) (za 5 rfl ?_)))
 refine qq (p:=n=64) rfl (by simp; omega) (fun c0=>?_) (fun c0=>?_)
 ·skip
  refine za 3 rfl ?_
  refine qj (H2:=H) Tryz.results260 rfl (.nil _) zH ?_
  subst c0
  exact ⟨rfl,rfl⟩
 ·skip
  refine za 4 rfl ?_
  refine zI (zc1 rfl) Tryz.call233 rfl (T:=fun _=>True) trivial (KG _) ?_
  have hbn:ZX (n:Int)=2 ^ n:=by unfold ZX; rw [if_pos (by omega)]; rfl
  have hp:=qdb (i:=n) zO
  have hp0:0<2 ^ n:=Nat.two_pow_pos n
  rw [hbn]
  obtain ⟨z,hz⟩:∃ z:Nat,z=2 ^ n:=⟨_,rfl⟩
  rw [← hz] at hp hp0 ⊢
  refine qF rfl rfl (ZY (m:=((z-1:Nat):Int)) (by rw [X9 (by omega)]; omega)) rfl ?_
  refine za 2 rfl ?_
  refine qj (H2:=H) Tryz.results260 rfl (.nil _) zH ?_
  exact ⟨rfl,rfl⟩
theorem Jb {i:Int} (hm:m<18446744073709551616):Zu Tryz.prog (fun _=>True) 332 [zu ((m:Nat):Int),zi i] (.bool (decide (m &&& ZX i≠0))):=by
 intro w0 H hT
 refine qd Tryz.func332 rfl Tryz.ntmps332 rfl rfl (za 6 rfl ?_)
 refine zI (zc1 rfl) Tryz.call233 rfl (T:=fun _=>True) trivial (KG _) ?_
 refine qF rfl rfl (KI (m:=((m &&& ZX i:Nat):Int)) (qau hm (qaI i))) rfl ?_
 refine za 1 rfl ?_
 rw [show decide (((m &&& ZX i:Nat):Int)≠0)=decide (m &&& ZX i≠0) from decide_eq_decide.2 (by omega)]
 refine za 2 rfl ?_
 refine qj (H2:=H) Tryz.results332 rfl (.nil _) zH ?_
 exact ⟨rfl,rfl⟩
theorem qcL (h:i<64):ZX (i:Int)=2 ^ i:=by unfold ZX; rw [if_pos (by omega)]; rfl
theorem qeM (hi:i<64) (s:Nat):(QL z [(i:Int)]).testBit s=(z.testBit s || decide (i=s)):=by
 show (z ||| ZX (i:Int)).testBit s=_
 rw [qcL hi,Nat.testBit_or,Nat.testBit_two_pow]
theorem qee (hz:z<18446744073709551616) (hi:i<64) (s:Nat):(QU z [(i:Int)]).testBit s=(z.testBit s && !decide (i=s)):=by
 show (z &&& (18446744073709551615-ZX (i:Int))).testBit s=_
 rw [qcL hi,Nat.testBit_and,show (18446744073709551615-2 ^ i:Nat)=2 ^ 64-(2 ^ i+1) by omega]
 by_cases hs:s<64
 ·rw [Nat.testBit_two_pow_sub_succ (by have:=qdb hi; omega),decide_eq_true hs,Bool.true_and,Nat.testBit_two_pow]
 ·rw [Nat.testBit_lt_two_pow (show z<2 ^ s from Nat.lt_of_lt_of_le hz (show 2 ^ 64≤2 ^ s from Nat.pow_le_pow_right (by decide) (by omega)))]; rfl
theorem zt.with_ (h:zt n L m) (hl:L.length≤64) (hs:L[i]?=some s) (ht:t.st=n):zt n (L.set i t) (QL m [(i:Int)]):=by
 have hi:=(List.getElem?_eq_some_iff.1 hs).1
 refine ⟨X7 _ h.1,fun j=>?_⟩
 rw [qeM (by omega),h.2 j]
 by_cases e:i=j
 ·subst e
  rw [List.getElem?_set_self hi]
  simp [ht]
 ·rw [List.getElem?_set_ne e]
  simp [e]
theorem zt.out (h:zt n L m) (hl:L.length≤64) (hs:L[i]?=some s) (ht:t.st≠n):zt n (L.set i t) (QU m [(i:Int)]):=by
 have hi:=(List.getElem?_eq_some_iff.1 hs).1
 refine ⟨Xt _ h.1,fun j=>?_⟩
 rw [qee h.1 (by omega),h.2 j]
 by_cases e:i=j
 ·subst e
  rw [List.getElem?_set_self hi]
  simp [ht]
 ·rw [List.getElem?_set_ne e]
  simp [e]
theorem zt.same (h:zt n L m) (hs:L[i]?=some s) (ht:s.st=n↔t.st=n):zt n (L.set i t) m:=by
 have hi:=(List.getElem?_eq_some_iff.1 hs).1
 refine ⟨h.1,fun j=>?_⟩
 rw [h.2 j]
 by_cases e:i=j
 ·subst e
  rw [List.getElem?_set_self hi,hs]
  exact decide_eq_decide.2 ht
 ·rw [List.getElem?_set_ne e]
theorem qei (h:zt 0 L m) (hl:L.length≤64):JZ m 0=Zx L:=by
 cases hf:Zx L with
 | none =>
  refine qa5 (fun j hj=>?_)
  rw [h.2 j] at hj
  cases hs:L[j]? with
  | none=>rw [hs] at hj; cases hj
  | some s=>rw [hs] at hj; exact absurd (of_decide_eq_true hj) (qap.1 hf s (List.mem_of_getElem? hs))
 | some i =>
  obtain ⟨s,hs,h0,hlow⟩:=Jm hf
  have hi:=(List.getElem?_eq_some_iff.1 hs).1
  refine qa4 (by omega) (by rw [h.at hs]; exact decide_eq_true h0) (by omega) (fun j hj hb=>?_)
  rw [h.2 j] at hb
  cases ht:L[j]? with
  | none=>rw [ht] at hb; cases hb
  | some t=>rw [ht] at hb; exact absurd (of_decide_eq_true hb) (hlow j t hj ht)
theorem K2 (h:zt n L m) (hl:L.length≤64) (hs:L[i]?=some s):(m &&& ZX (i:Int)≠0)↔s.st=n:=by
 have hi:=(List.getElem?_eq_some_iff.1 hs).1
 rw [qcL (by omega)]
 have hb:=h.at hs
 constructor
 ·intro hne
  by_cases e:s.st=n
  ·exact e
  ·exfalso
   apply hne
   apply Nat.eq_of_testBit_eq
   intro j
   rw [Nat.testBit_and,Nat.testBit_two_pow,Nat.zero_testBit]
   by_cases ej:i=j
   ·subst ej; rw [hb,decide_eq_false e]; rfl
   ·rw [decide_eq_false ej,Bool.and_false]
 ·intro e h0
  have:=congrArg (fun z=>Nat.testBit z i) h0
  simp only [Nat.testBit_and,Nat.testBit_two_pow,Nat.zero_testBit,hb,decide_eq_true e,decide_true,Bool.and_self] at this
  cases this
def YD (S:Sct) (began:Int) (left:Nat) (r:Int):Nat × Bool:=if left &&& ZX r=0∨(0<(ofS S r).2∧(ofS S r).2≤began) then (left,false) else (QU left [r],true)
theorem qmJ {xb left:Nat} {place:Int} (hok:Zw S) (hl64:left<18446744073709551616) (hm:(sb,.cells 250 130 (scC S))∈H) :qk Tryz.prog w0 336 #[zp xb,zi r] ((xb,.cells 485 4 [zp sb,zu ((left:Nat):Int),zi began,zi place])::H) (fun v H'=>v=.bool (YD S began left r).2∧H'=(xb,.cells 485 4 [zp sb,zu (((YD S began left r).1:Nat):Int),zi began,zi place])::H):=by
 refine qd (l:=[zp xb,zi r]) Tryz.func336 rfl Tryz.ntmps336 rfl rfl ?_
 refine za 5 rfl ?_
 rcases (show left &&& ZX r=0∨(left &&& ZX r≠0∧¬ 0<(ofS S r).2)∨(left &&& ZX r≠0∧0<(ofS S r).2∧(ofS S r).2≤began)∨(left &&& ZX r≠0∧0<(ofS S r).2∧¬ (ofS S r).2≤began) by omega) with hb | ⟨hb,h1⟩ | ⟨hb,h1,h2⟩ | ⟨hb,h1,h2⟩
 ·skip
  refine Zt zk zK (zq 3 rfl ?_)
  refine qC (ql (v:=zu ((left:Nat):Int)) rfl z5 rfl (qh.own (b:=xb) zM rfl)) rfl ?_
  refine zq 1 rfl ?_
  refine Z1 (zc2 rfl rfl) Tryz.call332 rfl (T:=fun _=>True) trivial (Jb hl64) ?_
  first | rw [decide_eq_true hb] | rw [decide_eq_false (fun h=>h hb)]
  refine zq 10 rfl (Qm rfl rfl rfl (Qm rfl rfl rfl (Qm rfl rfl rfl (Qm rfl rfl rfl (Qm rfl rfl rfl (Qm rfl rfl rfl (Qm rfl rfl rfl ?_)))))))
  refine Qm rfl rfl rfl (Qm rfl rfl rfl (Qm rfl rfl rfl (Qm rfl rfl rfl (zq 1 rfl ?_))))
  first | refine qC (qX rfl rfl) rfl ?_ | refine qC (qY rfl rfl) rfl ?_
  refine z4 (za 4 rfl ?_)
  refine qj (H2:=(xb,.cells 485 4 [zp sb,zu ((left:Nat):Int),zi began,zi place])::H) Tryz.results336 rfl (.nil _) zH ?_
  rw [show YD S began left r=(left,false) from if_pos (.inl hb)]
  exact ⟨rfl,rfl⟩
 ·skip
  refine Zt zk zK (zq 3 rfl ?_)
  refine qC (ql (v:=zu ((left:Nat):Int)) rfl z5 rfl (qh.own (b:=xb) zM rfl)) rfl ?_
  refine zq 1 rfl ?_
  refine Z1 (zc2 rfl rfl) Tryz.call332 rfl (T:=fun _=>True) trivial (Jb hl64) ?_
  first | rw [decide_eq_true hb] | rw [decide_eq_false (fun h=>h hb)]
  refine zq 9 rfl ?_
  refine qC (ql (v:=zp sb) rfl Yh rfl (qh.own (b:=xb) zM rfl)) rfl ?_
  refine zq 3 rfl (Ju (zc2 rfl rfl) Tryz.call397 rfl (Xg hok (List.mem_cons_of_mem _ hm)) (zq 2 rfl ?_))
  first | rw [decide_eq_true (by omega)] | rw [decide_eq_false (by omega)]
  refine zq 14 rfl ?_
  first | refine qC (qX rfl rfl) rfl ?_ | refine qC (qY rfl rfl) rfl ?_
  first | refine qC (qX rfl rfl) rfl ?_ | refine qC (qY rfl rfl) rfl ?_
  refine z4 (za 7 rfl ?_)
  refine qf (v:=zu ((left:Nat):Int)) rfl z5 rfl (qh.own (b:=xb) zM rfl) rfl ?_
  refine qH rfl rfl ?_
  refine qv (l:=[zi r]) qZ ty3 (.cons rfl rfl rfl rfl rfl .nil) rfl rfl rfl rfl rfl rfl rfl (fun b40=>?_)
  refine qB (zc2 rfl rfl) Tryz.call141 rfl (qal (m:=left) (l:=[r]) (cap:=1) hl64 (by show 1≤4611686018427387904; decide) (Holds.own (b:=b40) zM)) ?_
  refine za 2 rfl ?_
  refine qy (l':=[zp sb,zu (((QU left [r]):Nat):Int),zi began,zi place]) rfl rfl z5 rfl rfl (b:=xb) zM rfl rfl zU ?_
  refine za 4 rfl ?_
  refine qj (H2:=(xb,.cells 485 4 [zp sb,zu (((QU left [r]):Nat):Int),zi began,zi place])::H) Tryz.results336 rfl (.nil _) zH ?_
  rw [show YD S began left r=(QU left [r],true) from if_neg (by rintro (c | c); exact hb c; omega)]
  exact ⟨rfl,rfl⟩
 ·skip
  refine Zt zk zK (zq 3 rfl ?_)
  refine qC (ql (v:=zu ((left:Nat):Int)) rfl z5 rfl (qh.own (b:=xb) zM rfl)) rfl ?_
  refine zq 1 rfl ?_
  refine Z1 (zc2 rfl rfl) Tryz.call332 rfl (T:=fun _=>True) trivial (Jb hl64) ?_
  first | rw [decide_eq_true hb] | rw [decide_eq_false (fun h=>h hb)]
  refine zq 9 rfl ?_
  refine qC (ql (v:=zp sb) rfl Yh rfl (qh.own (b:=xb) zM rfl)) rfl ?_
  refine zq 3 rfl (Ju (zc2 rfl rfl) Tryz.call397 rfl (Xg hok (List.mem_cons_of_mem _ hm)) (zq 2 rfl ?_))
  first | rw [decide_eq_true (by omega)] | rw [decide_eq_false (by omega)]
  refine zq 9 rfl ?_
  refine qC (ql (v:=zp sb) rfl Yh rfl (qh.own (b:=xb) zM rfl)) rfl ?_
  refine zq 3 rfl (Ju (zc2 rfl rfl) Tryz.call397 rfl (Xg hok (List.mem_cons_of_mem _ hm)) (zq 7 rfl ?_))
  refine qC (ql (v:=zi began) rfl ty3 rfl (qh.own (b:=xb) zM rfl)) rfl ?_
  refine zq 2 rfl ?_
  first | rw [decide_eq_true (by omega)] | rw [decide_eq_false (by omega)]
  refine zq 1 rfl ?_
  first | refine qC (qX rfl rfl) rfl ?_ | refine qC (qY rfl rfl) rfl ?_
  first | refine qC (qX rfl rfl) rfl ?_ | refine qC (qY rfl rfl) rfl ?_
  refine z4 (za 4 rfl ?_)
  refine qj (H2:=(xb,.cells 485 4 [zp sb,zu ((left:Nat):Int),zi began,zi place])::H) Tryz.results336 rfl (.nil _) zH ?_
  rw [show YD S began left r=(left,false) from if_pos (.inr ⟨h1,h2⟩)]
  exact ⟨rfl,rfl⟩
 ·skip
  refine Zt zk zK (zq 3 rfl ?_)
  refine qC (ql (v:=zu ((left:Nat):Int)) rfl z5 rfl (qh.own (b:=xb) zM rfl)) rfl ?_
  refine zq 1 rfl ?_
  refine Z1 (zc2 rfl rfl) Tryz.call332 rfl (T:=fun _=>True) trivial (Jb hl64) ?_
  first | rw [decide_eq_true hb] | rw [decide_eq_false (fun h=>h hb)]
  refine zq 9 rfl ?_
  refine qC (ql (v:=zp sb) rfl Yh rfl (qh.own (b:=xb) zM rfl)) rfl ?_
  refine zq 3 rfl (Ju (zc2 rfl rfl) Tryz.call397 rfl (Xg hok (List.mem_cons_of_mem _ hm)) (zq 2 rfl ?_))
  first | rw [decide_eq_true (by omega)] | rw [decide_eq_false (by omega)]
  refine zq 9 rfl ?_
  refine qC (ql (v:=zp sb) rfl Yh rfl (qh.own (b:=xb) zM rfl)) rfl ?_
  refine zq 3 rfl (Ju (zc2 rfl rfl) Tryz.call397 rfl (Xg hok (List.mem_cons_of_mem _ hm)) (zq 7 rfl ?_))
  refine qC (ql (v:=zi began) rfl ty3 rfl (qh.own (b:=xb) zM rfl)) rfl ?_
  refine zq 2 rfl ?_
  first | rw [decide_eq_true (by omega)] | rw [decide_eq_false (by omega)]
  refine zq 1 rfl ?_
  first | refine qC (qX rfl rfl) rfl ?_ | refine qC (qY rfl rfl) rfl ?_
  first | refine qC (qX rfl rfl) rfl ?_ | refine qC (qY rfl rfl) rfl ?_
  refine z4 (za 7 rfl ?_)
  refine qf (v:=zu ((left:Nat):Int)) rfl z5 rfl (qh.own (b:=xb) zM rfl) rfl ?_
  refine qH rfl rfl ?_
  refine qv (l:=[zi r]) qZ ty3 (.cons rfl rfl rfl rfl rfl .nil) rfl rfl rfl rfl rfl rfl rfl (fun b40=>?_)
  refine qB (zc2 rfl rfl) Tryz.call141 rfl (qal (m:=left) (l:=[r]) (cap:=1) hl64 (by show 1≤4611686018427387904; decide) (Holds.own (b:=b40) zM)) ?_
  refine za 2 rfl ?_
  refine qy (l':=[zp sb,zu (((QU left [r]):Nat):Int),zi began,zi place]) rfl rfl z5 rfl rfl (b:=xb) zM rfl rfl zU ?_
  refine za 4 rfl ?_
  refine qj (H2:=(xb,.cells 485 4 [zp sb,zu (((QU left [r]):Nat):Int),zi began,zi place])::H) Tryz.results336 rfl (.nil _) zH ?_
  rw [show YD S began left r=(QU left [r],true) from if_neg (by rintro (c | c); exact hb c; omega)]
  exact ⟨rfl,rfl⟩
theorem qbM (hl:S.D.length=64) (hm:(sb,.cells 250 130 (scC S))∈H) :qk Tryz.prog w0 250 #[zp sb] (H) (fun v H'=>∃ xb,v=zp xb∧H'=(xb,.cells 485 4 [zp sb,zu ((S.m:Nat):Int),zi S.st,zi 0])::H):=by
 refine qd (l:=[zp sb]) Tryz.func250 rfl Tryz.ntmps250 rfl rfl ?_
 refine za 6 rfl (qB (zc1 rfl) Tryz.call340 rfl (sIn_q hl hm) (qH rfl rfl (qB (zc1 rfl) Tryz.call341 rfl (qg0 hl hm) ?_)))
 refine zb (l:=[zp sb,zu ((S.m:Nat):Int),zi S.st,zi 0]) ty485 pl485 (.cons rfl rfl rfl rfl rfl (.cons rfl rfl rfl rfl rfl (.cons rfl rfl rfl rfl rfl .nil))) rfl rfl rfl ?_
 refine qR (l:=[zp sb,zu ((S.m:Nat):Int),zi S.st,zi 0]) rfl rfl rfl (fun b9=>?_)
 refine za 2 rfl (qj Tryz.results250 rfl (.nil _) (.refl _) ?_)
 exact ⟨b9,rfl,rfl⟩
def Yi (S:Sct) (began:Int):Nat→Nat→Int→Nat × Int
 | 0,l,p=>(l,p)
 | k+1,l,p=>match ZI l p with
  | some r=>Yi S began k (YD S began l (r:Int)).1 (((r+1)%64:Nat):Int)
  | none=>(l,p)
theorem qeT:∀ (k x:Nat),Qi k x≤k
 | 0,_=>by simp [Qi]
 | k+1,x=>by
  have:=qeT k x
  simp only [Qi]
  have:=Bool.toNat_le (x.testBit k)
  omega
theorem qa8 {l:Nat} (h:l<18446744073709551616):(YD S began l r).1<18446744073709551616:=by
 unfold YD; split
 ·exact h
 ·exact Xt _ h
theorem qgk {l r:Nat} {p:Int} (h:ZI l p=some r):r<64:=by
 unfold ZI at h
 cases h1:JZ l p with
 | some a=>rw [h1] at h; obtain rfl:=Option.some.inj h; exact (qdj h1).1
 | none=>rw [h1] at h; exact (qdj h).1
theorem qd6 {xb left:Nat} {place:Int} (hok:Zw S) (hl64:left<18446744073709551616) (hm:(sb,.cells 250 130 (scC S))∈H) (hT:Tab w0):qk Tryz.prog w0 246 #[zp xb,zi (n:Int)] ((xb,.cells 485 4 [zp sb,zu ((left:Nat):Int),zi began,zi place])::H) (fun v H'=>v=zi ((Qi 64 (Yi S began (min n (Qi 64 left)) left place).1:Nat):Int)∧H'=(xb,.cells 485 4 [zp sb,zu (((Yi S began (min n (Qi 64 left)) left place).1:Nat):Int),zi began,zi (Yi S began (min n (Qi 64 left)) left place).2])::H):=by
 obtain ⟨N0,hN0⟩:∃ N0,N0=min n (Qi 64 left):=⟨_,rfl⟩
 rw [← hN0]
 have hp64:Qi 64 left≤64:=qeT _ _
 refine qd (l:=[zp xb,zi (n:Int)]) Tryz.func246 rfl Tryz.ntmps246 rfl rfl ?_
 refine za 3 rfl ?_
 refine qfe (fun _ _ _ h=>h) ?_
 refine za 3 rfl ?_
 refine W_x (qE rfl rfl Z5) (fun _ h=>by cases h) rfl ?_
 refine za 8 rfl ?_
 refine qf (v:=zu ((left:Nat):Int)) rfl z5 rfl (qh.own (b:=xb) zM rfl) rfl ?_
 refine zI (zc1 rfl) Tryz.call222 rfl (T:=fun _=>True) trivial (YA hl64) ?_
 refine qm8 rfl rfl (m:=(N0:Int)) (by rw [hN0]; split <;> omega) rfl ?_
 refine za 3 rfl (qfh (za 5 rfl ?_))
 refine qV (X:=(Nat × Nat × Int)) [(0,_),(1,_)] (fun (z:(Nat × Nat × Int))=>[(5,zi (z.1:Int)),(1,zi (N0:Int))]) (fun _=>_) (fun (z:(Nat × Nat × Int))=>(xb,.cells 485 4 [zp sb,zu ((z.2.1:Nat):Int),zi began,zi z.2.2])::H) (fun (z:(Nat × Nat × Int))=>z.1≤N0∧z.2.1<18446744073709551616∧Yi S began N0 left place=Yi S began (N0-z.1) z.2.1 z.2.2) (fun (z:(Nat × Nat × Int))=>N0-z.1) (0,left,place) ⟨Nat.zero_le _,hl64,rfl⟩ (qc rfl (qc rfl (qi _))) (qc rfl (qc rfl (qi _))) rfl zH ?_
 rintro ⟨i,l,p⟩ ⟨hi,hl,hpf⟩
 dsimp only at hi hl hpf ⊢
 simp only [List.cons_append,List.nil_append]
 refine za 6 rfl ?_
 refine qq (p:=(i:Int)<(N0:Int)) rfl (by simp) (fun q0=>?_) (fun q0=>?_)
 ·skip
  refine za 4 rfl ?_
  rcases har:ZI l p with _ | rr
  ·skip
   refine Zt zk zK (zq 3 rfl ?_)
   refine qC (ql (v:=zu ((l:Nat):Int)) rfl z5 rfl (qh.own (b:=xb) zM rfl)) rfl ?_
   refine zq 3 rfl ?_
   refine qC (ql (v:=zi p) rfl ty3 rfl (qh.own (b:=xb) zM rfl)) rfl ?_
   refine Z1 (zc2 rfl rfl) Tryz.call335 rfl hT (qat (m:=l) (f:=p) hl) ?_
   rw [show Yn l p=.tuple #[zi 0,.bool false] by unfold Yn; rw [har]]
   refine zq 5 rfl (z4 (za 11 rfl ?_))
   refine qf (v:=zu ((l:Nat):Int)) rfl z5 rfl (qh.own (b:=xb) zM rfl) rfl ?_
   refine zI (zc1 rfl) Tryz.call222 rfl (T:=fun _=>True) trivial (YA hl) ?_
   refine za 2 rfl ?_
   refine qj (H2:=(xb,.cells 485 4 [zp sb,zu ((l:Nat):Int),zi began,zi p])::H) Tryz.results246 rfl (.nil _) zH ?_
   have e:Yi S began N0 left place=(l,p):=by
    rw [hpf]
    rw [show N0-i=(N0-i-1)+1 by omega]; show (match ZI l p with | some r=>_ | none=>_)=_; rw [har]
   rw [e]
   exact ⟨rfl,rfl⟩
  ·skip
   have hrr:=qgk har
   refine Zt zk zK (zq 3 rfl ?_)
   refine qC (ql (v:=zu ((l:Nat):Int)) rfl z5 rfl (qh.own (b:=xb) zM rfl)) rfl ?_
   refine zq 3 rfl ?_
   refine qC (ql (v:=zi p) rfl ty3 rfl (qh.own (b:=xb) zM rfl)) rfl ?_
   refine Z1 (zc2 rfl rfl) Tryz.call335 rfl hT (qat (m:=l) (f:=p) hl) ?_
   rw [show Yn l p=.tuple #[zi (rr:Int),.bool true] by unfold Yn; rw [har]]
   refine zq 5 rfl (z4 (za 10 rfl ?_))
   refine qn (zc2 rfl rfl) Tryz.call336 rfl (qk.hsub (qmJ (xb:=xb) (left:=l) (place:=p) (r:=(rr:Int)) hok hl hm (H:=H)) zH) ?_
   rintro v H' ⟨rfl,rfl⟩
   refine za 4 rfl ?_
   refine qF rfl rfl (qM (m:=((rr+1:Nat):Int)) (by rw [qW (by omega)]; omega)) rfl ?_
   refine qF rfl rfl (JF (by decide) (m:=(((rr+1)%64:Nat):Int)) (by rw [Int.tmod_eq_emod_of_nonneg (by omega)]; omega)) rfl ?_
   refine za 2 rfl ?_
   refine qy (l':=[zp sb,zu (((YD S began l (rr:Int)).1:Nat):Int),zi began,zi (((rr+1)%64:Nat):Int)]) rfl rfl ty3 rfl rfl (b:=xb) zM rfl rfl zU ?_
   refine za 4 rfl ?_
   refine qF rfl rfl (qM (m:=((i+1:Nat):Int)) ((qW zO).trans zO)) rfl ?_
   refine za 2 rfl ?_
   refine qI (i+1,(YD S began l (rr:Int)).1,(((rr+1)%64:Nat):Int)) ⟨by show i+1≤N0; omega,qa8 hl,by rw [hpf,show N0-i=(N0-(i+1))+1 by omega]; show (match ZI l p with | some r=>_ | none=>_)=_; rw [har]⟩ (by show N0-(i+1)<N0-i; omega) (qc rfl (qc rfl (qc rfl (qc rfl (qi _))))) rfl zH
 ·skip
  refine za 5 rfl ?_
  refine qf (v:=zu ((l:Nat):Int)) rfl z5 rfl (qh.own (b:=xb) zM rfl) rfl ?_
  refine zI (zc1 rfl) Tryz.call222 rfl (T:=fun _=>True) trivial (YA hl) ?_
  refine za 2 rfl ?_
  refine qj (H2:=(xb,.cells 485 4 [zp sb,zu ((l:Nat):Int),zi began,zi p])::H) Tryz.results246 rfl (.nil _) zH ?_
  have e:Yi S began N0 left place=(l,p):=by
   rw [hpf]
   rw [show N0-i=0 by omega]; rfl
  rw [e]
  exact ⟨rfl,rfl⟩
theorem qg1 (hok:Zw S) (hst:S.st≤1000000000) (hrow:Holds w0 H ad [zi r]) :qk Tryz.prog w0 57 #[zp sb,.slice ad 1 cap] ((sb,.cells 250 130 (scC S))::H) (fun v H'=>v=zi (enS S r).2∧H'=(sb,.cells 250 130 (scC (enS S r).1))::H):=by
 refine qd (l:=[zp sb,.slice ad 1 cap]) Tryz.func57 rfl Tryz.ntmps57 rfl rfl ?_
 refine za 6 rfl ?_
 refine W_x (qE rfl rfl Yh) (fun _ h=>by cases h) rfl ?_
 refine za 6 rfl (zY rfl qZ rfl rfl (za 3 rfl ?_))
 refine qV (X:=(Nat × Sct)) [(0,_),(10,_),(11,_)] (fun (z:(Nat × Sct))=>[(12,zi (z.1:Int))]) (fun _=>_) (fun (z:(Nat × Sct))=>(sb,.cells 250 130 (scC z.2))::H) (fun (z:(Nat × Sct))=>z.1≤1∧(z.1=0→z.2=S)∧(z.1=1→z.2=(enS S r).1∧(enS S r).2=0)) (fun (z:(Nat × Sct))=>1-z.1) (0,S) ⟨Nat.zero_le _,fun _=>rfl,fun h=>(by cases h)⟩ (qc rfl (qc rfl (qc rfl (qi _)))) (qc rfl (qi _)) rfl zH ?_
 rintro ⟨i,S1⟩ ⟨hi,h0,h1⟩
 dsimp only at hi h0 h1 ⊢
 simp only [List.cons_append,List.nil_append]
 refine za 4 rfl ?_
 refine qq (p:=i<1) rfl (by rw [decide_eq_true_eq]; omega) (fun q0=>?_) (fun q0=>?_)
 ·skip
  refine za 4 rfl ?_
  obtain rfl:i=0:=by omega
  obtain rfl:S=S1:=(h0 rfl).symm
  obtain ⟨q0_,p0_,rfl,hc⟩:=hrow.at (i:=0) (v:=.int .i64 r) rfl
  refine qN (j:=0) rfl rfl qZ ty3 rfl zd rfl rfl ?_
  refine qf (v:=zi r) rfl ty3 rfl (by exact hc.up zH) rfl ?_
  refine za 5 rfl ?_
  refine qn (zc2 rfl rfl) Tryz.call139 rfl ((qgX (sb:=sb) (H:=H) hok hst (r:=r)).hsub zH) ?_
  rintro v H' ⟨rfl,rfl⟩
  refine za 6 rfl ?_
  refine qq (p:=(enS S r).2≠0) rfl (by simp) (fun q1=>?_) (fun q1=>?_)
  ·skip
   refine za 4 rfl ?_
   refine qj (H2:=(sb,.cells 250 130 (scC (enS S r).1))::H) Tryz.results57 rfl (.nil _) zH ?_
   exact ⟨rfl,rfl⟩
  ·skip
   refine za 3 rfl ?_
   refine qF rfl rfl (qM (m:=1) rfl) rfl ?_
   refine za 2 rfl ?_
   refine qI (1,(enS S r).1) ⟨Nat.le_refl _,fun h=>(by cases h),fun _=>⟨rfl,Classical.not_not.1 q1⟩⟩ (by show 1-1<1-0; decide) (qc rfl (qc rfl (qc rfl (qc rfl (qi _))))) rfl zH
 ·skip
  refine za 4 rfl ?_
  refine qj (H2:=(sb,.cells 250 130 (scC S1))::H) Tryz.results57 rfl (.nil _) zH ?_
  obtain rfl:i=1:=by omega
  obtain ⟨rfl,e⟩:=h1 rfl
  exact ⟨by rw [e],rfl⟩
theorem Zw.start:Zw ⟨List.replicate 64 (0,0),0,0⟩ where
 len:=List.length_replicate
 rng:=fun p hp=>by obtain rfl:=(List.mem_replicate.1 hp).2; decide
 m64:=by decide
 bit:=fun i=>by
  rw [Nat.zero_testBit]
  by_cases h:i<64
  ·rw [List.getElem?_replicate,if_pos h]; rfl
  ·rw [List.getElem?_replicate,if_neg h]
theorem Zw.put (h:Zw S) {p q:Int × Int} {t:Int} (hp:S.D[i]?=some p) (hq:0≤q.1∧q.1≤8∧0≤q.2∧q.2≤t) (ht:S.st≤t) (hm:m<18446744073709551616) (hb:∀ s,m.testBit s=if s=i then decide (0<q.1) else S.m.testBit s):Zw ⟨S.D.set i q,m,t⟩ where
 len:=by show (S.D.set i q).length=64; rw [List.length_set]; exact h.len
 rng:=fun x hx=>by
  rcases List.mem_or_eq_of_mem_set hx with hx | rfl
  ·have:=h.rng x hx; exact ⟨this.1,this.2.1,this.2.2.1,Int.le_trans this.2.2.2 ht⟩
  ·exact hq
 m64:=hm
 bit:=fun s=>by
  have hi:=(List.getElem?_eq_some_iff.1 hp).1
  rw [hb s]
  by_cases c:s=i
  ·subst c; rw [if_pos rfl,List.getElem?_set_self hi]
  ·rw [if_neg c,List.getElem?_set_ne (fun e=>c e.symm)]; exact h.bit s
theorem Zw.en (h:Zw S) (r:Int):Zw (enS S r).1:=by
 by_cases hr:r<0∨64≤r
 ·rw [show enS S r=(S,2) from if_pos hr]; exact h
 ·obtain ⟨i,rfl⟩:∃ i:Nat,r=(i:Int):=⟨r.toNat,by omega⟩
  have hi:i<64:=by omega
  obtain ⟨p,hp⟩:∃ p,S.D[i]?=some p:=⟨_,List.getElem?_eq_getElem (by have:=h.len; omega)⟩
  have hpr:=h.rng p (List.mem_of_getElem? hp)
  have hbi:=h.bit i
  rw [hp] at hbi
  dsimp only at hbi
  rw [qbn hi hp]
  by_cases c8:p.1=8
  ·rw [if_pos c8]; exact h
  ·rw [if_neg c8]
   by_cases c0:p.1=0
   ·rw [if_pos c0]
    refine h.put hp ⟨by show (0:Int)≤1; decide,by show (1:Int)≤8; decide,by show 0≤S.st+1; omega,Int.le_refl _⟩ zO (X7 _ h.m64) fun s=>?_
    rw [qeM hi]
    by_cases e:s=i
    ·subst e; rw [if_pos rfl,decide_eq_true rfl,Bool.or_true]; rfl
    ·rw [if_neg e,decide_eq_false (fun q=>e q.symm),Bool.or_false]
   ·rw [if_neg c0]
    refine h.put hp ⟨by show 0≤p.1+1; omega,by show p.1+1≤8; omega,hpr.2.2⟩ (Int.le_refl _) h.m64 fun s=>?_
    by_cases e:s=i
    ·subst e; rw [if_pos rfl,hbi,decide_eq_true (by omega),decide_eq_true (by show 0<p.1+1; omega)]
    ·rw [if_neg e]
theorem Zw.ex (h:Zw S) (r:Int):Zw (exS S r).1:=by
 by_cases hr:r<0∨64≤r
 ·rw [show exS S r=(S,false,2) from if_pos hr]; exact h
 ·obtain ⟨i,rfl⟩:∃ i:Nat,r=(i:Int):=⟨r.toNat,by omega⟩
  have hi:i<64:=by omega
  obtain ⟨p,hp⟩:∃ p,S.D[i]?=some p:=⟨_,List.getElem?_eq_getElem (by have:=h.len; omega)⟩
  have hpr:=h.rng p (List.mem_of_getElem? hp)
  have hbi:=h.bit i
  rw [hp] at hbi
  dsimp only at hbi
  rw [qbl hi hp]
  by_cases c0:p.1=0
  ·rw [if_pos c0]; exact h
  ·rw [if_neg c0]
   by_cases c1:1<p.1
   ·rw [if_pos c1]
    refine h.put hp ⟨by show 0≤p.1-1; omega,by show p.1-1≤8; omega,hpr.2.2⟩ (Int.le_refl _) h.m64 fun s=>?_
    by_cases e:s=i
    ·subst e; rw [if_pos rfl,hbi,decide_eq_true (by omega),decide_eq_true (by show 0<p.1-1; omega)]
    ·rw [if_neg e]
   ·rw [if_neg c1]
    refine h.put hp ⟨by decide,by decide,by decide,by show 0≤S.st; omega⟩ (Int.le_refl _) (Xt _ h.m64) fun s=>?_
    rw [qee h.m64 hi]
    by_cases e:s=i
    ·subst e; rw [if_pos rfl,decide_eq_true rfl,Bool.not_true,Bool.and_false]; rfl
    ·rw [if_neg e,decide_eq_false (fun q=>e q.symm),Bool.not_false,Bool.and_true]
structure Ja {α:Type} (R:Nat) (l buf:List α) (h:Nat):Prop where
 pos:0<R
 room:R≤256
 len:buf.length=R
 head:h<R
 most:l.length≤R
 at_:∀ (i:Nat) x,l[i]?=some x→buf[(h+i)%R]?=some x
theorem qeQ {buf:List α} {x y:α} (h:buf[j]?=some y) (hne:i≠j):(buf.set i x)[j]?=some y:=by rw [List.getElem?_set_ne hne]; exact h
theorem Ja.pop {z:α} {x:α} {l buf:List α} (hI:Ja R (x::l) buf h):Ja R l (buf.set h z) ((h+1)%R):=by
 obtain ⟨h1,h2,h3,h4,h5,h6⟩:=hI
 simp only [List.length_cons] at h5
 refine ⟨h1,h2,by rw [List.length_set,h3],Nat.mod_lt _ h1,by omega,fun i y hy=>?_⟩
 have hi:=(List.getElem?_eq_some_iff.1 hy).1
 have e:((h+1)%R+i)%R=(h+(i+1))%R:=by rw [Nat.mod_add_mod]; congr 1; omega
 rw [e]
 refine qeQ (h6 (i+1) y (by simpa using hy)) ?_
 by_cases c:h+(i+1)<R
 ·rw [Nat.mod_eq_of_lt c]; omega
 ·have e2:(h+(i+1))%R=h+(i+1)-R:=by rw [Nat.mod_eq_sub_mod (by omega),Nat.mod_eq_of_lt (by omega)]
  omega
theorem Ja.push {x:α} {l buf:List α} (hI:Ja R l buf h) (hr:l.length<R):Ja R (l++[x]) (buf.set ((h+l.length)%R) x) h:=by
 obtain ⟨h1,h2,h3,h4,h5,h6⟩:=hI
 refine ⟨h1,h2,by rw [List.length_set,h3],h4,by rw [List.length_append,List.length_singleton]; exact hr,fun i y hy=>?_⟩
 have hm:(h+l.length)%R<R:=Nat.mod_lt _ h1
 by_cases c:i=l.length
 ·subst c
  rw [List.getElem?_append_right (Nat.le_refl _),Nat.sub_self] at hy
  obtain rfl:x=y:=by simpa using hy
  rw [List.getElem?_set_self (by omega)]
 ·have hi:=(List.getElem?_eq_some_iff.1 hy).1
  rw [List.length_append,List.length_singleton] at hi
  rw [List.getElem?_append_left (by omega)] at hy
  refine qeQ (h6 i y hy) (fun e=>c ?_)
  have e1:∀ k,k<R→(h+k)%R=if h+k<R then h+k else h+k-R:=fun k hk=>by
   split
   ·rename_i q; exact Nat.mod_eq_of_lt q
   ·rename_i q; rw [Nat.mod_eq_sub_mod (by omega),Nat.mod_eq_of_lt (by omega)]
  rw [e1 _ hr,e1 i (by omega)] at e
  split at e <;> split at e <;> omega
theorem qfo (a b:Nat):((a:Int)).tmod (b:Int)=((a%b:Nat):Int):=by
 rw [Int.tmod_eq_emod_of_nonneg (Int.natCast_nonneg _)]; exact (Int.natCast_emod _ _).symm
theorem KF (hm:(rb,.cells 493 3 [.slice (some ⟨b,0,none⟩) R R,zi ((h:Nat):Int),zi ((n:Nat):Int)])∈H) (hp:0<R) (hR:R≤256) (hh:h<R) (hi:i≤1000000) :qG Tryz.prog w0 H 342 [zp rb,zi (i:Int)] (zi (((h+i)%R:Nat):Int)):=by
 refine qd Tryz.func342 rfl Tryz.ntmps342 rfl rfl (za 3 rfl (zB zk zK (zq 3 rfl ?_)))
 refine qC (ql (v:=zi ((h:Nat):Int)) rfl ty3 rfl (qh.own (b:=rb) hm rfl)) rfl ?_
 refine zq 1 rfl ?_
 refine qC (QQ rfl rfl (qM (m:=((h+i:Nat):Int)) (by rw [qW (by omega)]; omega))) rfl ?_
 refine zq 3 rfl ?_
 refine qC (ql (v:=.slice (some ⟨b,0,none⟩) R R) rfl QA rfl (qh.own (b:=rb) hm rfl)) rfl ?_
 refine qC (KK rfl QA rfl) rfl ?_
 refine qC (QQ rfl rfl (JF zO (m:=(((h+i)%R:Nat):Int)) (qfo (h+i) R))) rfl ?_
 refine zq 1 rfl (z4 ?_)
 refine qj (H2:=H) Tryz.results342 rfl (.nil _) zH ?_
 exact ⟨rfl,rfl⟩
theorem qjv (hm:(rb,.cells 493 3 [.slice (some ⟨b,0,none⟩) R R,zi ((h:Nat):Int),zi ((n:Nat):Int)])∈H) :qG Tryz.prog w0 H 401 [zp rb] (zi (n:Int)):=by
 refine qd Tryz.func401 rfl Tryz.ntmps401 rfl rfl (za 6 rfl ?_)
 refine W_x (qE rfl rfl ZQ) (fun _ h=>by cases h) rfl ?_
 refine za 7 rfl ?_
 refine qf (v:=zi ((n:Nat):Int)) rfl ty3 rfl (qh.own (b:=rb) hm rfl) rfl ?_
 refine za 2 rfl ?_
 refine qj (H2:=H) Tryz.results401 rfl (.nil _) zH ?_
 exact ⟨rfl,rfl⟩
inductive JT (R rb:Nat) (l:List (Int × Int)):qe→Prop
 | mk {b h:Nat} {buf:List (Int × Int)} (hI:Ja R l buf h):JT R rb l [(rb,.cells 493 3 [.slice (some ⟨b,0,none⟩) R R,.int .i64 ((h:Nat):Int),.int .i64 ((l.length:Nat):Int)]),(b,.cells 391 (R*2) ((buf).flatMap rdC))]
def atC (l:List (Int × Int)):Value:=match l with
 | x::_=>.tuple #[.agg (List.toArray (rdC x)),.bool true]
 | []=>.tuple #[.agg (List.toArray (rdC (0,0))),.bool false]
theorem qlr {l buf:List (Int × Int)} (hm:(rb,.cells 493 3 [.slice (some ⟨b,0,none⟩) R R,zi ((h:Nat):Int),zi ((l.length:Nat):Int)])∈H) (hb:(b,.cells 391 (R*2) ((buf).flatMap rdC))∈H) (hI:Ja R l buf h) (hl:l=[]) :qG Tryz.prog w0 H 399 [zp rb,zi 0] (atC l):=by
 refine qd Tryz.func399 rfl Tryz.ntmps399 rfl rfl (zo ?_)
 refine qA (l:=rdC (0,0)) q9 rfl rfl (fun b4=>?_)
 refine za 5 rfl ?_
 refine W_x (qE rfl rfl ZQ) (fun _ h=>by cases h) rfl ?_
 refine za 16 rfl ?_
 refine qf (v:=zi ((l.length:Nat):Int)) rfl ty3 rfl (qh.own (b:=rb) (by repeat (first | exact hm | exact hb | exact List.mem_cons_self | apply List.mem_cons_of_mem | apply List.mem_append_right)) rfl) rfl ?_
 refine za 2 rfl ?_
 rw [decide_eq_true (by rw [hl]; decide)]
 refine za 4 rfl ?_
 refine qA (l:=rdC (0,0)) q9 rfl rfl (fun b6=>?_)
 refine za 2 rfl ?_
 refine qK (vs:=rdC (0,0)) rfl q9 rfl (b:=b6) zM rfl rfl rfl ?_
 refine qp (l':=rdC (0,0)) rfl rfl q9 rfl rfl (b:=b4) zM (by exact Nat.le_refl 2) rfl zU ?_
 refine za 2 rfl ?_
 refine zC (H2:=H) Tryz.results399 (.nil _) (.own rfl q9 rfl zM rfl) (.tmp rfl) zH ?_
 subst hl
 exact ⟨rfl,rfl⟩
theorem qm2 {x:Int × Int} {l buf:List (Int × Int)} (hm:(rb,.cells 493 3 [.slice (some ⟨b,0,none⟩) R R,zi ((h:Nat):Int),zi (((x::l).length:Nat):Int)])∈H) (hb:(b,.cells 391 (R*2) ((buf).flatMap rdC))∈H) (hI:Ja R (x::l) buf h) :qG Tryz.prog w0 H 399 [zp rb,zi 0] (atC (x::l)):=by
 have hmost:=hI.most
 simp only [List.length_cons] at hmost
 refine qd Tryz.func399 rfl Tryz.ntmps399 rfl rfl (zo ?_)
 refine qA (l:=rdC (0,0)) q9 rfl rfl (fun b4=>?_)
 refine za 5 rfl ?_
 refine W_x (qE rfl rfl ZQ) (fun _ h=>by cases h) rfl ?_
 refine za 16 rfl ?_
 refine qf (v:=zi (((x::l).length:Nat):Int)) rfl ty3 rfl (qh.own (b:=rb) (by repeat (first | exact hm | exact hb | exact List.mem_cons_self | apply List.mem_cons_of_mem | apply List.mem_append_right)) rfl) rfl ?_
 refine za 2 rfl ?_
 rw [decide_eq_false (by simp only [List.length_cons]; omega)]
 refine za 5 rfl ?_
 have hbx:=hI.at_ 0 x rfl
 have hbl:=hI.len
 have hpl:(h+0)%R<R:=Nat.mod_lt _ hI.pos
 refine zy H zk ?_
 refine zw [0,1,2] rfl rfl ?_
 refine qm 3 rfl zK zK zK rfl rfl (ql (v:=.slice (some ⟨b,0,none⟩) R R) rfl QA rfl (qh.own (b:=rb) (by repeat (first | exact hm | exact hb | exact List.mem_cons_self | apply List.mem_cons_of_mem | apply List.mem_append_right)) rfl)) rfl ?_
 refine zw [4,5] rfl rfl ?_
 refine qJ 6 zH zK rfl rfl ?_
 refine qB (zc2 rfl rfl) Tryz.call342 rfl (KF (i:=0) (n:=(x::l).length) (by repeat (first | exact hm | exact hb | exact List.mem_cons_self | apply List.mem_cons_of_mem | apply List.mem_append_right)) hI.pos hI.room hI.head zO) ?_
 refine qs (WC_goal ?_)
 refine qm 7 rfl zK zK zK rfl rfl (qU (j:=(h+0)%R) rfl rfl QA q9 (by first | rfl | omega) (by first | decide | omega | simp) rfl) rfl ?_
 refine qm 8 rfl zK zK zK rfl rfl (Qf (vs:=rdC x) rfl q9 rfl (b:=b) (by repeat (first | exact hm | exact hb | exact List.mem_cons_self | apply List.mem_cons_of_mem | apply List.mem_append_right)) (by rw [Nat.ble_eq,zg QT]; omega) (by rw [Nat.zero_add]; exact ZN (o:=0) (m:=2) QT hbx (by decide))) rfl ?_
 refine qJ 9 zH zK rfl rfl ?_
 refine qp (l':=rdC x) rfl rfl q9 rfl rfl (b:=b4) zM (by exact Nat.le_refl 2) rfl zU ?_
 refine qs (WC_goal (zw [10] rfl rfl (WC_done zH zK ?_)))
 refine zC (H2:=H) Tryz.results399 (.nil _) (.own rfl q9 rfl zM rfl) (.tmp rfl) zH ?_
 exact ⟨rfl,rfl⟩
theorem qmc {l buf:List (Int × Int)} (hm:(rb,.cells 493 3 [.slice (some ⟨b,0,none⟩) R R,zi ((h:Nat):Int),zi ((l.length:Nat):Int)])∈H) (hb:(b,.cells 391 (R*2) ((buf).flatMap rdC))∈H) (hI:Ja R l buf h):qG Tryz.prog w0 H 399 [zp rb,zi 0] (atC l):=by
 cases l with
 | nil=>exact qlr hm hb hI rfl
 | cons x l=>exact qm2 hm hb hI
theorem qlp {x:Int × Int} {l buf:List (Int × Int)} (hI:Ja R (x::l) buf h) :qk Tryz.prog w0 400 #[zp rb] ((rb,.cells 493 3 [.slice (some ⟨b,0,none⟩) R R,zi ((h:Nat):Int),zi (((x::l).length:Nat):Int)])::(b,.cells 391 (R*2) ((buf).flatMap rdC))::H) (fun v H'=>v=.tuple #[.agg (List.toArray (rdC x)),.bool true]∧H'=(rb,.cells 493 3 [.slice (some ⟨b,0,none⟩) R R,zi (((h+1)%R:Nat):Int),zi ((l.length:Nat):Int)])::(b,.cells 391 (R*2) ((List.set buf h (0,0)).flatMap rdC))::H):=by
 have hmost:=hI.most
 have hroom:=hI.room
 have hbl:=hI.len
 have hhd:=hI.head
 simp only [List.length_cons] at hmost
 refine qd (l:=[zp rb]) Tryz.func400 rfl Tryz.ntmps400 rfl rfl ?_
 refine zo ?_
 refine qA (l:=rdC (0,0)) q9 rfl rfl (fun b2=>?_)
 refine za 4 rfl (qB (zc2 rfl rfl) Tryz.call399 rfl (qmc zM zM hI) ?_)
 rw [show atC (x::l)=.tuple #[.agg (List.toArray (rdC x)),.bool true] from rfl]
 refine za 3 rfl ?_
 refine qA (l:=rdC (0,0)) q9 rfl rfl (fun b4=>?_)
 refine qp (l':=rdC x) rfl rfl q9 rfl rfl (b:=b4) zM (by exact Nat.le_refl 2) rfl zU ?_
 refine za 8 rfl ?_
 refine qA (l:=rdC (0,0)) q9 rfl rfl (fun b6=>?_)
 refine za 2 rfl ?_
 refine zy [(rb,.cells 493 3 [.slice (some ⟨b,0,none⟩) R R,zi ((h:Nat):Int),zi (((x::l).length:Nat):Int)]),(b6,.cells 391 2 (rdC (0,0)))] zk ?_
 refine zw [0,1,2] rfl rfl ?_
 refine qm 3 rfl zK zK zK rfl rfl (ql (v:=.slice (some ⟨b,0,none⟩) R R) rfl QA rfl (qh.own (b:=rb) zM rfl)) rfl ?_
 refine zw [4,5,6] rfl rfl ?_
 refine qm 7 rfl zK zK zK rfl rfl (ql (v:=zi ((h:Nat):Int)) rfl ty3 rfl (qh.own (b:=rb) zM rfl)) rfl ?_
 refine qm 8 rfl zK zK zK rfl rfl (Qf (vs:=rdC (0,0)) rfl q9 rfl (b:=b6) zM rfl rfl) rfl ?_
 refine qm 9 rfl zK zK zK rfl rfl (qU (j:=h) rfl rfl QA q9 (by first | rfl | omega) (by first | decide | omega | simp) rfl) rfl ?_
 refine qJ 10 zH zK rfl rfl ?_
 refine qp (l':=(List.set buf (h) (0,0)).flatMap rdC) rfl rfl q9 rfl rfl (b:=b) zM (by rw [zg QT]; omega) (by rw [Nat.zero_add]; exact YE QT (0,0) (by omega)) zU ?_
 refine qs (WC_goal (WC_done zH zK (za 3 rfl ?_)))
 refine qB (zc2 rfl rfl) Tryz.call342 rfl (KF (i:=1) (n:=(x::l).length) zM hI.pos hI.room hI.head zO) ?_
 refine za 2 rfl ?_
 refine qy (l':=[.slice (some ⟨b,0,none⟩) R R,zi (((h+1)%R:Nat):Int),zi (((x::l).length:Nat):Int)]) rfl rfl ty3 rfl rfl (b:=rb) zM rfl rfl zU ?_
 refine za 5 rfl ?_
 refine qf (v:=zi (((x::l).length:Nat):Int)) rfl ty3 rfl (qh.own (b:=rb) zM rfl) rfl ?_
 refine qF rfl rfl (ZY (m:=((l.length:Nat):Int)) (by rw [qW (by simp only [List.length_cons]; omega)]; simp only [List.length_cons]; omega)) rfl ?_
 refine za 2 rfl ?_
 refine qy (l':=[.slice (some ⟨b,0,none⟩) R R,zi (((h+1)%R:Nat):Int),zi ((l.length:Nat):Int)]) rfl rfl ty3 rfl rfl (b:=rb) zM rfl rfl zU ?_
 refine za 2 rfl ?_
 refine qK (vs:=rdC x) rfl q9 rfl (b:=b4) zM rfl rfl rfl ?_
 refine qH rfl rfl ?_
 refine qp (l':=rdC x) rfl rfl q9 rfl rfl (b:=b2) zM (by exact Nat.le_refl 2) rfl zU ?_
 refine za 2 rfl ?_
 refine zC (H2:=(rb,.cells 493 3 [.slice (some ⟨b,0,none⟩) R R,zi (((h+1)%R:Nat):Int),zi ((l.length:Nat):Int)])::(b,.cells 391 (R*2) ((List.set buf h (0,0)).flatMap rdC))::H) Tryz.results400 (.nil _) (.own rfl q9 rfl zM rfl) (.tmp rfl) zH ?_
 exact ⟨rfl,rfl⟩
theorem qjt {x:Int × Int} {l:List (Int × Int)} (hR:JT R rb (x::l) HB):qk Tryz.prog w0 400 #[zp rb] (HB++H) (fun v H'=>∃ HB',JT R rb l HB'∧v=.tuple #[.agg (List.toArray (rdC x)),.bool true]∧H'=HB'++H):=by
 cases hR with
 | mk hI =>
  refine (qlp (H:=H) hI).mono ?_
  rintro v H' ⟨rfl,rfl⟩
  exact ⟨_,.mk (hI.pop (z:=(0,0))),rfl,rfl⟩
theorem qen {x:Int × Int} (h:Holds w0 H ad (rdC x)):∃ b o,ad=some ⟨b,o,none⟩∧QI w0 H b o (rdC x):=by
 obtain ⟨b,o,e,hc⟩:=Holds.row (l:=[x]) (i:=0) (x:=x) QT (by decide) (by simpa using h) rfl
 exact ⟨b,o,e,by simpa using hc⟩
theorem qjs {l buf:List (Int × Int)} (hI:Ja R l buf h) {x:Int × Int} (hxc:1≤cap) (hs:Holds w0 H ad (rdC x)) :qk Tryz.prog w0 251 #[zp rb,.slice ad 1 cap] ((rb,.cells 493 3 [.slice (some ⟨b,0,none⟩) R R,zi ((h:Nat):Int),zi ((l.length:Nat):Int)])::(b,.cells 391 (R*2) ((buf).flatMap rdC))::H) (fun v H'=>∃ buf',Ja R (if l.length<R then l++[x] else l) buf' h∧v=zi (((if l.length<R then 1 else 0):Nat):Int)∧H'=(rb,.cells 493 3 [.slice (some ⟨b,0,none⟩) R R,zi ((h:Nat):Int),zi (((l.length+(if l.length<R then 1 else 0)):Nat):Int)])::(b,.cells 391 (R*2) ((buf').flatMap rdC))::H):=by
 have hmost:=hI.most
 have hroom:=hI.room
 have hhd:=hI.head
 have hpos:=hI.pos
 have hbl:=hI.len
 obtain ⟨k,hk⟩:∃ k,k=(if l.length<R then 1 else 0):=⟨_,rfl⟩
 rw [← hk]
 have hk1:k≤1:=by rw [hk]; split <;> omega
 have hk2:(k:Int)=min 1 ((R-l.length:Nat):Int):=by rw [hk]; split <;> omega
 refine qd (l:=[zp rb,.slice ad 1 cap]) Tryz.func251 rfl Tryz.ntmps251 rfl rfl ?_
 refine za 6 rfl ?_
 refine W_x (qE rfl rfl ZQ) (fun _ h=>by cases h) rfl ?_
 refine za 3 rfl (zB zk zK (zq 1 rfl (qC (KK rfl QA rfl) rfl (zq 3 rfl ?_))))
 refine qC (ql (v:=.slice (some ⟨b,0,none⟩) R R) rfl QA rfl (qh.own (b:=rb) zM rfl)) rfl ?_
 refine qC (KK rfl QA rfl) rfl (zq 3 rfl ?_)
 refine qC (ql (v:=zi ((l.length:Nat):Int)) rfl ty3 rfl (qh.own (b:=rb) zM rfl)) rfl ?_
 refine qC (QQ rfl rfl (ZY (m:=((R-l.length:Nat):Int)) (by rw [qW (by omega)]; omega))) rfl ?_
 refine qC (qm6 rfl rfl (m:=((k:Nat):Int)) (by rw [hk2]; split <;> omega)) rfl ?_
 refine zq 1 rfl (z4 (za 4 rfl ?_))
 refine qdP (hh:=k) rfl QA q9 rfl ⟨_,rfl⟩ zO rfl ?_
 refine zY rfl QA rfl rfl (za 3 rfl ?_)
 refine qV (X:=(Nat × List (Int × Int))) [(0,_),(5,_),(25,_),(26,_)] (fun (z:(Nat × List (Int × Int)))=>[(27,zi (z.1:Int))]) (fun _=>_) (fun (z:(Nat × List (Int × Int)))=>(rb,.cells 493 3 [.slice (some ⟨b,0,none⟩) R R,zi ((h:Nat):Int),zi (((l.length+z.1):Nat):Int)])::(b,.cells 391 (R*2) ((z.2).flatMap rdC))::H) (fun (z:(Nat × List (Int × Int)))=>z.1≤k∧(z.1=0→z.2=buf)∧(z.1=1→z.2=buf.set ((h+l.length)%R) x)) (fun (z:(Nat × List (Int × Int)))=>k-z.1) (0,buf) ⟨Nat.zero_le _,fun _=>rfl,fun e=>(by cases e)⟩ (qc rfl (qc rfl (qc rfl (qc rfl (qi _))))) (qc rfl (qi _)) rfl (.refl _) ?_
 rintro ⟨i,bufi⟩ ⟨hi,hz,ho⟩
 dsimp only at hi hz ho ⊢
 simp only [List.cons_append,List.nil_append]
 refine za 4 rfl ?_
 refine qq (p:=i<k) rfl (by rw [decide_eq_true_eq]; omega) (fun q0=>?_) (fun q0=>?_)
 ·skip
  refine za 4 rfl ?_
  obtain rfl:i=0:=by omega
  obtain rfl:=(hz rfl).symm
  obtain ⟨bs,os,rfl,hcx⟩:=qen hs
  have hpl:(h+l.length)%R<R:=Nat.mod_lt _ hI.pos
  rw [Nat.add_zero]
  refine qN (j:=0) rfl rfl QA q9 rfl zO rfl rfl ?_
  refine KL (vs:=rdC x) rfl q9 rfl rfl (hcx.up zH) rfl ?_
  refine qA (l:=rdC (0,0)) q9 rfl rfl (fun b7=>?_)
  refine qp (l':=rdC x) rfl rfl q9 rfl rfl (b:=b7) zM (by exact Nat.le_refl 2) rfl zU ?_
  refine za 2 rfl ?_
  refine zy [(rb,.cells 493 3 [.slice (some ⟨b,0,none⟩) R R,zi ((h:Nat):Int),zi ((l.length:Nat):Int)]),(b7,.cells 391 2 (rdC x))] zk ?_
  refine zw [0,1,2] rfl rfl ?_
  refine qm 3 rfl zK zK zK rfl rfl (ql (v:=.slice (some ⟨b,0,none⟩) R R) rfl QA rfl (qh.own (b:=rb) zM rfl)) rfl ?_
  refine zw [4,5,6,7] rfl rfl ?_
  refine qm 8 rfl zK zK zK rfl rfl (ql (v:=zi ((l.length:Nat):Int)) rfl ty3 rfl (qh.own (b:=rb) zM rfl)) rfl ?_
  refine qm 10 rfl zK zK zK rfl rfl (Qf (vs:=rdC x) rfl q9 rfl (b:=b7) zM rfl rfl) rfl ?_
  refine qJ 9 zH zK rfl rfl ?_
  refine qB (zc2 rfl rfl) Tryz.call342 rfl (KF (i:=l.length) (n:=l.length) zM hpos hroom hhd zO) ?_
  refine qs (WC_goal ?_)
  refine qm 11 rfl zK zK zK rfl rfl (qU (j:=(h+l.length)%R) rfl rfl QA q9 (by first | rfl | omega) (by first | decide | omega | simp) rfl) rfl ?_
  refine qJ 12 zH zK rfl rfl ?_
  refine qp (l':=(List.set buf ((h+l.length)%R) x).flatMap rdC) rfl rfl q9 rfl rfl (b:=b) zM (by rw [zg QT]; omega) (by rw [Nat.zero_add]; exact YE QT x (by omega)) zU ?_
  refine qs (WC_goal (WC_done zH zK (za 4 rfl ?_)))
  refine qf (v:=zi ((l.length:Nat):Int)) rfl ty3 rfl (qh.own (b:=rb) zM rfl) rfl ?_
  refine qF rfl rfl (qM (m:=((l.length+1:Nat):Int)) (by rw [qW (by omega)]; omega)) rfl ?_
  refine za 2 rfl ?_
  refine qy (l':=[.slice (some ⟨b,0,none⟩) R R,zi ((h:Nat):Int),zi (((l.length+1):Nat):Int)]) rfl rfl ty3 rfl rfl (b:=rb) zM rfl rfl zU ?_
  refine za 3 rfl ?_
  refine qF rfl rfl (qM (m:=1) rfl) rfl ?_
  refine za 2 rfl ?_
  refine qI (1,buf.set ((h+l.length)%R) x) ⟨by show 1≤k; omega,fun e=>(by cases e),fun _=>rfl⟩ (by show k-1<k-0; omega) (qc rfl (qc rfl (qc rfl (qc rfl (qc rfl (qi _)))))) rfl zH
 ·skip
  refine za 5 rfl (qj Tryz.results251 rfl (.nil _) (.refl _) ?_)
  obtain rfl:i=k:=by omega
  by_cases c:l.length<R
  ·rw [if_pos c] at hk ⊢
   subst hk
   exact ⟨bufi,by rw [ho rfl]; exact hI.push c,rfl,rfl⟩
  ·rw [if_neg c] at hk ⊢
   subst hk
   exact ⟨bufi,by rw [hz rfl]; exact hI,rfl,rfl⟩
theorem qe7 {l:List (Int × Int)} (hR:JT R rb l HB) {x:Int × Int} (hxc:1≤cap) (hs:Holds w0 H ad (rdC x)):qk Tryz.prog w0 251 #[zp rb,.slice ad 1 cap] (HB++H) (fun v H'=>∃ HB',JT R rb (if l.length<R then l++[x] else l) HB'∧v=zi (if l.length<R then 1 else 0)∧H'=HB'++H):=by
 cases hR with
 | mk hI =>
  refine (qjs (H:=H) hI hxc hs).mono ?_
  rintro v H' ⟨buf',hI',rfl,rfl⟩
  have e:l.length+(if l.length<R then 1 else 0)=(if l.length<R then l++[x] else l).length:=by split <;> simp
  rw [e]
  exact ⟨_,.mk hI',by split <;> rfl,rfl⟩
theorem Ja.start {z:α} (h0:0<R) (h1:R≤256):Ja R [] (List.replicate R z) 0 :=
 ⟨h0,h1,List.length_replicate,h0,Nat.zero_le _,fun i x h=>by simp at h⟩
theorem qlq:qk Tryz.prog w0 276 #[zi 64] (H) (fun v H'=>∃ rb HB,v=.tuple #[zp rb,zi 0]∧JT 64 rb [] HB∧H'=HB++H):=by
 refine qd (l:=[zi 64]) Tryz.func276 rfl Tryz.ntmps276 rfl rfl ?_
 refine za 8 rfl ?_
 first | rw [decide_eq_true (by omega)] | rw [decide_eq_false (by omega)]
 refine za 5 rfl ?_
 first | rw [decide_eq_true (by omega)] | rw [decide_eq_false (by omega)]
 refine za 6 rfl ?_
 refine Jr (ln:=64) (cp:=64) (l:=(List.replicate 64 ((0,0):Int × Int)).flatMap rdC) rfl rfl QA q9 rfl rfl (Nat.le_refl _) (by omega) (by simp only [maxLen]; omega) (by kernel_rfl) rfl (fun b11=>?_)
 refine zb (l:=[.slice (some ⟨b11,0,none⟩) 64 64,zi 0,zi 0]) ty493 pl493 (.cons rfl rfl rfl rfl rfl .nil) rfl rfl rfl ?_
 refine qR (l:=[.slice (some ⟨b11,0,none⟩) 64 64,zi 0,zi 0]) rfl rfl rfl (fun b13=>?_)
 refine za 3 rfl ?_
 refine qP (H2:=[(b13,.cells 493 3 [.slice (some ⟨b11,0,none⟩) 64 64,zi 0,zi 0]),(b11,.cells 391 (64*2) ((List.replicate 64 ((0,0):Int × Int)).flatMap rdC))]++H) Tryz.results276 rfl rfl (.nil _) zH ?_
 exact ⟨b13,_,rfl,.mk (Ja.start (z:=(0,0)) zd zd),rfl⟩
theorem qex {lp b1:Nat} {l buf:List (Int × Int)} (hI:Ja R l buf h) (J:Nat→qe→Prop)
  (hround:∀ i x Hi,l[i]?=some x→J i Hi→Zp Tryz.prog w0 lp #[.agg (List.toArray (rdC x))] ((b1,.cells 388 1 [zp rb])::(rb,.cells 493 3 [.slice (some ⟨b,0,none⟩) R R,zi ((h:Nat):Int),zi ((l.length:Nat):Int)])::(b,.cells 391 (R*2) ((buf).flatMap rdC))::Hi) (fun v H'=>∃ Hi',qr H' ((b1,.cells 388 1 [zp rb])::(rb,.cells 493 3 [.slice (some ⟨b,0,none⟩) R R,zi ((h:Nat):Int),zi ((l.length:Nat):Int)])::(b,.cells 391 (R*2) ((buf).flatMap rdC))::Hi')∧v=.bool true∧J (i+1) Hi')) (hJ:J 0 H) :
  qk Tryz.prog w0 447 #[.func (.yield lp) #[] #[],zp b1] ((b1,.cells 388 1 [zp rb])::(rb,.cells 493 3 [.slice (some ⟨b,0,none⟩) R R,zi ((h:Nat):Int),zi ((l.length:Nat):Int)])::(b,.cells 391 (R*2) ((buf).flatMap rdC))::H) (fun _ H'=>∃ Hi',qr H' ((b1,.cells 388 1 [zp rb])::(rb,.cells 493 3 [.slice (some ⟨b,0,none⟩) R R,zi ((h:Nat):Int),zi ((l.length:Nat):Int)])::(b,.cells 391 (R*2) ((buf).flatMap rdC))::Hi')∧J l.length Hi'):=by
 have hmost:=hI.most
 have hroom:=hI.room
 refine qd (l:=[.func (.yield lp) #[] #[],zp b1]) Tryz.func447 rfl Tryz.ntmps447 rfl rfl ?_
 refine zo ?_
 refine qf (v:=zp rb) rfl ZQ rfl (qh.own (b:=b1) zM rfl) rfl ?_
 refine qB (zc1 rfl) Tryz.call401 rfl (qjv (n:=l.length) (h:=h) (R:=R) (b:=b) zM) ?_
 refine za 3 rfl ?_
 refine qV (X:=(Nat × qe)) [(0,_),(1,_),(5,_)] (fun (x:(Nat × qe))=>[(6,zi (x.1:Int))]) (fun _=>_) (fun (x:(Nat × qe))=>(b1,.cells 388 1 [zp rb])::(rb,.cells 493 3 [.slice (some ⟨b,0,none⟩) R R,zi ((h:Nat):Int),zi ((l.length:Nat):Int)])::(b,.cells 391 (R*2) ((buf).flatMap rdC))::x.2) (fun (x:(Nat × qe))=>x.1≤l.length∧J x.1 x.2) (fun (x:(Nat × qe))=>l.length-x.1) (0,H) ⟨Nat.zero_le _,hJ⟩ (qc rfl (qc rfl (qc rfl (qi _)))) (qc rfl (qi _)) rfl (.refl _) ?_
 rintro ⟨i,Hi⟩ ⟨hi,hJi⟩
 dsimp only at hi hJi ⊢
 simp only [List.cons_append,List.nil_append]
 refine za 4 rfl ?_
 refine qq (p:=(i:Int)<(l.length:Int)) rfl (by simp) (fun q0=>?_) (fun q0=>?_)
 ·skip
  refine za 8 rfl ?_
  obtain ⟨x,hx⟩:∃ x,l[i]?=some x:=⟨_,List.getElem?_eq_getElem zO⟩
  have hbx:=hI.at_ i x hx
  have hbl:=hI.len
  have hpl:(h+i)%R<R:=Nat.mod_lt _ hI.pos
  refine zy [(b1,.cells 388 1 [zp rb]),(rb,.cells 493 3 [.slice (some ⟨b,0,none⟩) R R,zi ((h:Nat):Int),zi ((l.length:Nat):Int)]),(b,.cells 391 (R*2) ((buf).flatMap rdC))] zk ?_
  refine zw [0] rfl rfl ?_
  refine qm 1 rfl zK zK zK rfl rfl (ql (v:=zp rb) rfl ZQ rfl (qh.own (b:=b1) zM rfl)) rfl ?_
  refine zw [2,3] rfl rfl ?_
  refine qm 4 rfl zK zK zK rfl rfl (ql (v:=.slice (some ⟨b,0,none⟩) R R) rfl QA rfl (qh.own (b:=rb) zM rfl)) rfl ?_
  refine qm 5 rfl zK zK zK rfl rfl (ql (v:=zp rb) rfl ZQ rfl (qh.own (b:=b1) zM rfl)) rfl ?_
  refine zw [6] rfl rfl ?_
  refine qJ 7 zH zK rfl rfl ?_
  refine qB (zc2 rfl rfl) Tryz.call342 rfl (KF (i:=i) (n:=l.length) zM hI.pos hroom hI.head zO) ?_
  refine qs (WC_goal ?_)
  refine qm 8 rfl zK zK zK rfl rfl (qU (j:=(h+i)%R) rfl rfl QA q9 (by first | rfl | omega) (by first | decide | omega | simp) rfl) rfl ?_
  refine qm 9 rfl zK zK zK rfl rfl (Qf (vs:=rdC x) rfl q9 rfl (b:=b) zM (by rw [Nat.ble_eq,zg QT]; omega) (by rw [Nat.zero_add]; exact ZN (o:=0) (m:=2) QT hbx (by decide))) rfl ?_
  refine qJ 10 zH zK rfl rfl ?_
  refine JP rfl (.cons rfl .nil) rfl (hround i x Hi hx hJi) ?_
  rintro v H' ⟨Hi',hsub,rfl,hJ'⟩
  refine qT hsub ?_
  refine qs (WC_goal (zw [11] rfl rfl (WC_done zH zK (za 4 rfl ?_))))
  refine qF rfl rfl (qM (m:=((i+1:Nat):Int)) ((qW zO).trans zO)) rfl ?_
  refine za 2 rfl ?_
  refine qI (i+1,Hi') ⟨by show i+1≤l.length; omega,hJ'⟩ (by show l.length-(i+1)<l.length-i; omega) (qc rfl (qc rfl (qc rfl (qc rfl (qi _))))) rfl (.refl _)
 ·skip
  refine J7 rfl (Zf Tryz.results447 (.nil _) (.refl _) ?_)
  obtain rfl:i=l.length:=by omega
  exact ⟨Hi,.refl _,hJi⟩
theorem qlo:qk Tryz.prog w0 419 #[.pointer ad] (H) (fun v H'=>∃ b1,v=.func (.func 447) #[] #[zp b1]∧H'=(b1,.cells 388 1 [.pointer ad])::H):=by
 refine qd (l:=[.pointer ad]) Tryz.func419 rfl Tryz.ntmps419 rfl rfl ?_
 refine zo ?_
 refine qR rfl rfl rfl (fun b1=>?_)
 refine za 3 rfl (qL .nil (.cons rfl .nil) rfl (za 2 rfl (qj Tryz.results419 rfl (.nil _) (.refl _) ?_)))
 exact ⟨b1,rfl,rfl⟩
theorem qju {l buf:List (Int × Int)} (hI:Ja R l buf h) :qk Tryz.prog w0 385 #[zp rb] ((rb,.cells 493 3 [.slice (some ⟨b,0,none⟩) R R,zi ((h:Nat):Int),zi ((l.length:Nat):Int)])::(b,.cells 391 (R*2) ((buf).flatMap rdC))::H) (fun v H'=>∃ XB,zz 391 2 v l.length (l.flatMap rdC) XB∧H'=XB++((rb,.cells 493 3 [.slice (some ⟨b,0,none⟩) R R,zi ((h:Nat):Int),zi ((l.length:Nat):Int)])::(b,.cells 391 (R*2) ((buf).flatMap rdC))::H)):=by
 have hmost:=hI.most
 have hroom:=hI.room
 refine qd (l:=[zp rb]) Tryz.func385 rfl Tryz.ntmps385 rfl rfl ?_
 refine za 4 rfl ?_
 refine qA (l:=[.slice none 0 0]) QA rfl rfl (fun b3=>?_)
 refine za 4 rfl (qn (zc1 rfl) Tryz.call419 rfl (qlo) ?_)
 rintro v H' ⟨b1,rfl,rfl⟩
 refine za 2 rfl (QE rfl Tryz.call447 ?_)
 intro lp D r hst hpd hps hasg hbody hA
 have hr:=QV hst hpd
 show qk _ _ _ #[_,_] _ _
 refine ((qex (b1:=b1) (H:=(lp,.obj (.loop r))::(D,.obj (.deferred (some [])))::(b3,.cells 349 1 [.slice none 0 0])::H) hI (fun i Hi=>∃ xv XB,zz 391 2 xv i ((l.take i).flatMap rdC) XB∧Hi=(lp,.obj (.loop r))::(D,.obj (.deferred (some [])))::(b3,.cells 349 1 [xv])::(XB++H)) ?_ ⟨_,[],.nil,rfl⟩).hsub zH).mono ?_
 ·intro i z Hi hz hJ
  obtain ⟨xv,XB,hX,rfl⟩:=hJ
  have hil:=(List.getElem?_eq_some_iff.1 hz).1
  refine QB hst hpd hA hps rfl hasg rfl rfl rfl zT ?_
  refine Zn ?_
  refine qA (l:=rdC (0,0)) q9 rfl rfl (fun b4=>?_)
  refine qp (l':=rdC z) rfl rfl q9 rfl rfl (b:=b4) zM (by exact Nat.le_refl 2) rfl zU ?_
  refine qs (JS hst hpd zT hbody (za 2 rfl ?_))
  refine qf (v:=xv) rfl QA rfl (qh.own (b:=b3) zM rfl) rfl ?_
  refine qK (vs:=rdC z) rfl q9 rfl (b:=b4) zM rfl rfl rfl ?_
  refine qv (l:=rdC z) QA q9 (.cons rfl rfl rfl rfl rfl .nil) rfl rfl rfl rfl rfl rfl rfl (fun b10=>?_)
  refine QF (news:=rdC z) (m:=1) (HB:=XB) (H0:=(b10,.cells 391 2 (rdC z))::(b4,.cells 391 2 (rdC z))::(b1,.cells 388 1 [zp rb])::(rb,.cells 493 3 [.slice (some ⟨b,0,none⟩) R R,zi ((h:Nat):Int),zi ((l.length:Nat):Int)])::(b,.cells 391 (R*2) ((buf).flatMap rdC))::(lp,.obj (.loop (Loop.at r .busy none)))::(D,.obj (.deferred (some [])))::(b3,.cells 349 1 [xv])::H) rfl rfl QA q9 rfl (by decide) hX rfl (Holds.own List.mem_cons_self) rfl (by simp only [maxLen]; omega) (by omega) zH rfl (fun v' HB' hO'=>?_)
  refine qy (l':=[v']) rfl rfl QA (by obtain ⟨a0,c0',e0,_⟩:=hO'.shape; rw [e0]; rfl) rfl (b:=b3) zM rfl rfl zU ?_
  refine za 2 rfl (Zo zT ?_)
  rw [hr]
  exact ⟨(lp,.obj (.loop r))::(D,.obj (.deferred (some [])))::(b3,.cells 349 1 [v'])::(HB'++H),zH,rfl,v',HB',by rw [List.take_add_one,hz,List.flatMap_append]; simpa using hO',rfl⟩
 ·intro _ H' hp
  obtain ⟨Hi',hs,xv,XB,hX,rfl⟩:=hp
  rw [List.take_length] at hX
  refine ⟨.ready,none,(b1,.cells 388 1 [zp rb])::(rb,.cells 493 3 [.slice (some ⟨b,0,none⟩) R R,zi ((h:Nat):Int),zi ((l.length:Nat):Int)])::(b,.cells 391 (R*2) ((buf).flatMap rdC))::(D,.obj (.deferred (some [])))::(b3,.cells 349 1 [xv])::(XB++H),by rw [hr]; exact hs.trans zH,by decide,?_⟩
  show W _ _ _ _ _ _ _ _ _
  refine za 2 rfl ?_
  refine qf (v:=xv) rfl QA rfl (qh.own (b:=b3) zM rfl) rfl ?_
  refine za 2 rfl ?_
  refine qj (H2:=XB++((rb,.cells 493 3 [.slice (some ⟨b,0,none⟩) R R,zi ((h:Nat):Int),zi ((l.length:Nat):Int)])::(b,.cells 391 (R*2) ((buf).flatMap rdC))::H)) Tryz.results385 rfl (.cons zT (.nil _)) zH ?_
  exact ⟨XB,hX,rfl⟩
theorem JT.list {l:List (Int × Int)} (hR:JT R rb l HB):qk Tryz.prog w0 385 #[zp rb] (HB++H) (fun v H'=>∃ XB,zz 391 2 v l.length (l.flatMap rdC) XB∧H'=XB++(HB++H)):=by
 cases hR with
 | mk hI=>exact qju (H:=H) hI
theorem JT.len {l:List (Int × Int)} (hR:JT R rb l HB) (hm:∀ p∈HB,p∈H):qG Tryz.prog w0 H 401 [zp rb] (zi (l.length:Int)):=by
 cases hR with
 | mk hI=>exact qjv (hm _ List.mem_cons_self)
theorem JT.most {l:List (Int × Int)} (hR:JT R rb l HB):l.length≤R∧R≤256:=by
 cases hR with
 | mk hI=>exact ⟨hI.most,hI.room⟩
theorem JT.at0 {l:List (Int × Int)} (hR:JT R rb l HB) (hm:∀ p∈HB,p∈H):qG Tryz.prog w0 H 399 [zp rb,zi 0] (atC l):=by
 cases hR with
 | mk hI=>exact qmc (hm _ List.mem_cons_self) (hm _ (List.mem_cons_of_mem _ List.mem_cons_self)) hI
abbrev cbP (rb:Nat):Value:=zp rb
structure qaf (n:Nat) (rbs:List Nat) (XS:List qe) (Q:List (List (Int × Int))):Prop where
 l1:rbs.length=n
 l2:XS.length=n
 l3:Q.length=n
 r:∀ (k:Nat) rb X q,rbs[k]?=some rb→XS[k]?=some X→Q[k]?=some q→JT 64 rb q X
inductive Qv (lb n:Nat) (Q:List (List (Int × Int))) (last:Int):qe→Prop
 | mk {v:Value} {XQ:qe} {XS:List qe} {rbs:List Nat} (hv:zz 388 1 v n (rbs.map cbP) XQ) (hl:qaf n rbs XS Q):Qv lb n Q last ((lb,.cells 387 2 [v,.int .i64 last])::(XQ++XS.flatten))
theorem qaf.set {rbs:List Nat} {XS:List qe} (h:qaf n rbs XS Q) {X:qe} (hk:rbs[k]?=some rb) (hX:JT 64 rb q X):qaf n rbs (XS.set k X) (Q.set k q):=by
 refine ⟨h.l1,by rw [List.length_set,h.l2],by rw [List.length_set,h.l3],fun j rb2 Y p h1 h2 h3=>?_⟩
 have hkn:=(List.getElem?_eq_some_iff.1 hk).1
 by_cases c:k=j
 ·subst c
  rw [List.getElem?_set_self (by rw [h.l2,← h.l1]; exact hkn)] at h2
  rw [List.getElem?_set_self (by rw [h.l3,← h.l1]; exact hkn)] at h3
  obtain rfl:=Option.some.inj h2
  obtain rfl:=Option.some.inj h3
  obtain rfl:=Option.some.inj (h1.symm.trans hk)
  exact hX
 ·rw [List.getElem?_set_ne c] at h2 h3
  exact h.r j rb2 Y p h1 h2 h3
theorem qaf.snoc {rbs:List Nat} {XS:List qe} (h:qaf n rbs XS Q) {X:qe} (hX:JT 64 rb q X):qaf (n+1) (rbs++[rb]) (XS++[X]) (Q++[q]):=by
 obtain ⟨h1,h2,h3,h4⟩:=h
 refine ⟨by simp [h1],by simp [h2],by simp [h3],fun j rb2 Y p e1 e2 e3=>?_⟩
 by_cases c:j<n
 ·rw [List.getElem?_append_left (by omega)] at e1 e2 e3
  exact h4 j rb2 Y p e1 e2 e3
 ·have hj:=(List.getElem?_eq_some_iff.1 e1).1
  rw [List.length_append,List.length_singleton] at hj
  obtain rfl:j=n:=by omega
  rw [List.getElem?_append_right (by omega),h1,Nat.sub_self] at e1
  rw [List.getElem?_append_right (by omega),h2,Nat.sub_self] at e2
  rw [List.getElem?_append_right (by omega),h3,Nat.sub_self] at e3
  cases e1; cases e2; cases e3; exact hX
def qdM (q:List (Int × Int)) (id:Int):List (Int × Int):=if q.length<64 then q++[(id,0)] else q
theorem qmN (hn:1≤n∧n≤64) :qk Tryz.prog w0 197 #[zi (n:Int)] (H) (fun v H'=>∃ lb HB,v=.tuple #[zp lb,zi 0]∧Qv lb n (List.replicate n []) 0 HB∧H'=HB++H):=by
 refine qd (l:=[zi (n:Int)]) Tryz.func197 rfl Tryz.ntmps197 rfl rfl ?_
 refine za 8 rfl ?_
 rw [decide_eq_false (by omega)]
 refine za 5 rfl ?_
 rw [decide_eq_false (by omega)]
 refine za 5 rfl ?_
 refine zb (l:=[.slice none 0 0,zi 0]) ty387 pl387 .nil rfl rfl rfl ?_
 refine qR (l:=[.slice none 0 0,zi 0]) rfl rfl rfl (fun b14=>?_)
 refine za 8 rfl ?_
 refine qV (X:=(Nat × Value × qe × List qe × List Nat)) [(4,_),(15,_)] (fun (x:(Nat × Value × qe × List qe × List Nat))=>[(16,zi (x.1:Int))]) (fun _=>_) (fun (x:(Nat × Value × qe × List qe × List Nat))=>(b14,.cells 387 2 [x.2.1,zi 0])::(x.2.2.1++(x.2.2.2.1.flatten++H))) (fun (x:(Nat × Value × qe × List qe × List Nat))=>x.1≤n∧zz 388 1 x.2.1 x.1 (x.2.2.2.2.map cbP) x.2.2.1∧qaf x.1 x.2.2.2.2 x.2.2.2.1 (List.replicate x.1 [])) (fun (x:(Nat × Value × qe × List qe × List Nat))=>n-x.1) (0,.slice none 0 0,[],[],[]) ⟨Nat.zero_le _,.nil,⟨rfl,rfl,rfl,fun k r Y q h=>(by cases h)⟩⟩ (qc rfl (qc rfl (qi _))) (qc rfl (qi _)) rfl (.refl _) ?_
 rintro ⟨i,v,XQ,XS,rbs⟩ ⟨hi,hv,hl⟩
 dsimp only at hi hv hl ⊢
 simp only [List.cons_append,List.nil_append]
 refine za 4 rfl ?_
 refine qq (p:=(i:Int)<(n:Int)) rfl (by simp) (fun q0=>?_) (fun q0=>?_)
 ·skip
  refine za 4 rfl (qn (zc1 rfl) Tryz.call276 rfl qlq ?_)
  rintro w2 H' ⟨rb,HX,rfl,hX,rfl⟩
  refine za 18 rfl ?_
  refine qf (v:=v) rfl ZB rfl (qh.own (b:=b14) zM rfl) rfl ?_
  refine qH rfl rfl ?_
  refine qv (l:=[cbP rb]) ZB ZQ (.cons rfl rfl rfl rfl rfl .nil) rfl rfl rfl rfl rfl rfl rfl (fun b31=>?_)
  refine QF (news:=[cbP rb]) (m:=1) (HB:=XQ) (H0:=(b31,.cells 388 1 [cbP rb])::(HX++((b14,.cells 387 2 [v,zi 0])::(XS.flatten++H)))) rfl rfl ZB ZQ rfl (by decide) hv rfl (Holds.own (b:=b31) zM) rfl (by simp only [maxLen]; omega) (by omega) zH rfl (fun v' X' hv'=>?_)
  refine za 2 rfl ?_
  have hv1:v'.oneCell'=true:=by obtain ⟨_,_,rfl,_⟩:=hv'.shape; rfl
  refine qy (l':=[v',zi 0]) rfl rfl ZB hv1 rfl (b:=b14) zM rfl rfl zU ?_
  refine za 3 rfl ?_
  refine qF rfl rfl (qM (m:=((i+1:Nat):Int)) ((qW zO).trans zO)) rfl ?_
  refine za 2 rfl ?_
  refine qI (i+1,v',X',XS++[HX],rbs++[rb]) ⟨by show i+1≤n; omega,by show zz 388 1 v' (i+1) ((rbs++[rb]).map cbP) X'; rw [List.map_append]; exact hv',by show qaf (i+1) _ _ (List.replicate (i+1) []); rw [List.replicate_succ']; exact hl.snoc hX⟩ (by show n-(i+1)<n-i; omega) (qc rfl (qc rfl (qc rfl (qi _)))) rfl (by show qr _ ((b14,.cells 387 2 [v',zi 0])::(X'++((XS++[HX]).flatten++H))); rw [List.flatten_append,List.flatten_singleton,List.append_assoc]; first | exact ZW | (repeat (first | with_reducible exact qr.refl _ | refine qr.cons zT ?_ | refine qr.app zS ?_ | exact qr.nil _ | exact qr.refl _ | refine qr.drop ?_ | refine qr.dropS ?_)))
 ·skip
  refine za 6 rfl ?_
  refine qP (H2:=(b14,.cells 387 2 [v,zi 0])::(XQ++(XS.flatten++H))) Tryz.results197 rfl rfl (.nil _) zH ?_
  obtain rfl:i=n:=by omega
  exact ⟨b14,(b14,.cells 387 2 [v,zi 0])::(XQ++XS.flatten),rfl,.mk (rbs:=rbs) hv hl,by show _=_::((XQ++XS.flatten)++H); rw [List.append_assoc]⟩
theorem qmO {lb:Nat} {last:Int} {ad0:Option Addr} {cap0:Nat} (hL:Qv lb n Q last HB) (hn:n≤64) (hk:k<n) (hq:Q[k]?=some q) (hrow:Holds w0 H ad0 [zi id]) :qk Tryz.prog w0 156 #[zp lb,zi (k:Int),.slice ad0 1 cap0] (HB++H) (fun v H'=>∃ HB',Qv lb n (Q.set k (qdM q id)) last HB'∧v=zi (if q.length<64 then 0 else 3)∧H'=HB'++H):=by
 cases hL with
 | @mk v XQ XS rbs hv hl =>
 have hvl:=hv.length
 rw [List.length_map,Nat.mul_one] at hvl
 obtain ⟨ad,cap,rfl,hcl,hcm⟩:=hv.shape
 have hXr:∀ {H:qe},(∀ p∈XQ,p∈H)→Holds w0 H ad (rbs.map cbP):=fun hs=>zz.toHolds hv hs
 obtain ⟨q1,p1,rfl⟩:∃ q1 p1,ad=some ⟨q1,p1,none⟩:=by
  obtain ⟨rb,hrb⟩:∃ rb,rbs[0]?=some rb:=⟨_,List.getElem?_eq_getElem zO⟩
  obtain ⟨q1,p1,e,_⟩:=(hXr (H:=XQ) (fun _ h=>h)).at (i:=0) (v:=cbP rb) (by rw [List.getElem?_map,hrb]; rfl)
  exact ⟨q1,p1,e⟩
 have hXc:∀ {H:qe} {k rb:Nat},(∀ p∈XQ,p∈H)→rbs[k]?=some rb→qh w0 H q1 (p1+k) (cbP rb):=fun {H k rb} hs hk=>by
  obtain ⟨q2,p2,e,hc⟩:=(hXr hs).at (i:=k) (v:=cbP rb) (by rw [List.getElem?_map,hk]; rfl)
  cases e; exact hc
 have hkr:k<rbs.length:=by rw [hl.l1]; exact hk
 obtain ⟨rb,hrb⟩:∃ rb,rbs[k]?=some rb:=⟨_,List.getElem?_eq_getElem hkr⟩
 obtain ⟨X,hX0⟩:∃ X,XS[k]?=some X:=⟨_,List.getElem?_eq_getElem (by rw [hl.l2]; exact hk)⟩
 have hX:=hl.r k rb X q hrb hX0 hq
 have e0:((lb,.cells 387 2 [.slice (some ⟨q1,p1,none⟩) n cap,zi last])::(XQ++XS.flatten))++H=(lb,.cells 387 2 [.slice (some ⟨q1,p1,none⟩) n cap,zi last])::(XQ++(XS.flatten++H)):=by simp only [List.cons_append,List.append_assoc]
 rw [e0]
 refine qd (l:=[zp lb,zi (k:Int),.slice ad0 1 cap0]) Tryz.func156 rfl Tryz.ntmps156 rfl rfl ?_
 refine za 7 rfl ?_
 refine W_x (qE rfl rfl Yw) (fun _ h=>by cases h) rfl ?_
 refine za 6 rfl ?_
 first | rw [decide_eq_true (by omega)] | rw [decide_eq_false (by omega)]
 refine qH rfl rfl ?_
 apply XH
 iterate 4 exact rfl
 case h1 =>
  intro hg2
  refine za 9 rfl ?_
  refine qf (v:=.slice (some ⟨q1,p1,none⟩) n cap) rfl ZB rfl (qh.own (b:=lb) zM rfl) rfl ?_
  refine Qk rfl rfl (zY rfl ZB rfl rfl (za 2 rfl ?_))
  first | rw [decide_eq_true (by omega)] | rw [decide_eq_false (by omega)]
  exact Zv rfl zR
 refine za 8 rfl (zY rfl qZ rfl rfl (za 3 rfl ?_))
 refine qV (X:=(Nat × List qe)) [(0,_),(1,_),(24,_),(25,_)] (fun (z:(Nat × List qe))=>[(26,zi (z.1:Int))]) (fun _=>_) (fun (z:(Nat × List qe))=>(lb,.cells 387 2 [.slice (some ⟨q1,p1,none⟩) n cap,zi last])::(XQ++(z.2.flatten++H))) (fun (z:(Nat × List qe))=>z.1≤1∧(z.1=0→z.2=XS)∧(z.1=1→q.length<64∧∃ X',JT 64 rb (q++[(id,0)]) X'∧z.2=XS.set k X')) (fun (z:(Nat × List qe))=>1-z.1) (0,XS) ⟨Nat.zero_le _,fun _=>rfl,fun h=>(by cases h)⟩ (qc rfl (qc rfl (qc rfl (qc rfl (qi _))))) (qc rfl (qi _)) rfl (.refl _) ?_
 rintro ⟨i,XS1⟩ ⟨hi,hz,ho⟩
 dsimp only at hi hz ho ⊢
 simp only [List.cons_append,List.nil_append]
 refine za 4 rfl ?_
 refine qq (p:=i<1) rfl (by rw [decide_eq_true_eq]; omega) (fun q0=>?_) (fun q0=>?_)
 ·skip
  refine za 4 rfl ?_
  obtain rfl:i=0:=by omega
  obtain rfl:XS=XS1:=(hz rfl).symm
  obtain ⟨q0_,p0_,rfl,hc⟩:=hrow.at (i:=0) (v:=.int .i64 id) rfl
  refine qN (j:=0) rfl rfl qZ ty3 rfl zd rfl rfl ?_
  refine qf (v:=zi id) rfl ty3 rfl (by exact hc.up zH) rfl ?_
  refine za 6 rfl ?_
  refine qf (v:=.slice (some ⟨q1,p1,none⟩) n cap) rfl ZB rfl (qh.own (b:=lb) zM rfl) rfl ?_
  refine qH rfl rfl ?_
  refine qN (j:=k) rfl rfl ZB ZQ (by first | rfl | omega) (by first | decide | omega | simp) rfl rfl ?_
  refine qf (v:=cbP rb) rfl ZQ rfl (by rw [Nat.mul_one]; exact hXc (k:=k) (fun p hp=>List.mem_cons_of_mem _ (List.mem_append_left _ hp)) hrb) rfl ?_
  refine qH rfl rfl ?_
  refine zb (l:=rdC (id,0)) q9 pl391 (.cons rfl rfl rfl rfl rfl .nil) rfl rfl rfl ?_
  refine qv (l:=rdC (id,0)) QA q9 (.cons rfl rfl rfl rfl rfl .nil) rfl rfl rfl rfl rfl rfl rfl (fun b39=>?_)
  refine qT (H':=X++((b39,.cells 391 2 (rdC (id,0)))::(lb,.cells 387 2 [.slice (some ⟨q1,p1,none⟩) n cap,zi last])::(XQ++((XS.set k []).flatten++H)))) ((show qr _ ((b39,.cells 391 2 (rdC (id,0)))::(lb,.cells 387 2 [.slice (some ⟨q1,p1,none⟩) n cap,zi last])::(XQ++(X++((XS.set k []).flatten++H)))) from .cons (.here _) (.cons (.here _) (.app (.here _) (Qs hX0)))).trans zH) ?_
  refine qn (zc2 rfl rfl) Tryz.call251 rfl (qe7 (H:=(b39,.cells 391 2 (rdC (id,0)))::(lb,.cells 387 2 [.slice (some ⟨q1,p1,none⟩) n cap,zi last])::(XQ++((XS.set k []).flatten++H))) hX (x:=(id,0)) zd (Holds.own (b:=b39) zM)) ?_
  rintro v H' ⟨X',hX',rfl,rfl⟩
  refine qT (H':=(lb,.cells 387 2 [.slice (some ⟨q1,p1,none⟩) n cap,zi last])::(XQ++((XS.set k X').flatten++H))) ((show qr _ ((lb,.cells 387 2 [.slice (some ⟨q1,p1,none⟩) n cap,zi last])::(XQ++(X'++((XS.set k []).flatten++H)))) from zH).trans (.cons (.here _) (.app (.here _) (Zb (by rw [hl.l2]; exact hk))))) ?_
  by_cases h64:q.length<64
  ·skip
   rw [if_pos h64] at hX'
   rw [show (if q.length<64 then (1:Int) else 0)=1 from if_pos h64]
   refine za 6 rfl ?_
   refine qF rfl rfl (qM (m:=1) rfl) rfl ?_
   refine za 2 rfl ?_
   refine qI (1,XS.set k X') ⟨Nat.le_refl _,fun h=>(by cases h),fun _=>⟨h64,X',hX',rfl⟩⟩ (by show 1-1<1-0; decide) (qc rfl (qc rfl (qc rfl (qc rfl (qc rfl (qi _)))))) rfl zH
  ·skip
   rw [if_neg h64] at hX'
   rw [show (if q.length<64 then (1:Int) else 0)=0 from if_neg h64]
   refine za 6 rfl ?_
   refine qj (H2:=(lb,.cells 387 2 [.slice (some ⟨q1,p1,none⟩) n cap,zi last])::(XQ++((XS.set k X').flatten++H))) Tryz.results156 rfl (.nil _) zH ?_
   exact ⟨(lb,.cells 387 2 [.slice (some ⟨q1,p1,none⟩) n cap,zi last])::(XQ++(XS.set k X').flatten),.mk hv (hl.set hrb (by unfold qdM; rw [if_neg h64]; exact hX')),by rw [if_neg h64],by simp only [List.cons_append,List.append_assoc]⟩
 ·skip
  refine za 4 rfl ?_
  refine qj (H2:=(lb,.cells 387 2 [.slice (some ⟨q1,p1,none⟩) n cap,zi last])::(XQ++(XS1.flatten++H))) Tryz.results156 rfl (.nil _) zH ?_
  obtain rfl:i=1:=by omega
  obtain ⟨h64,X',hX',rfl⟩:=ho rfl
  exact ⟨(lb,.cells 387 2 [.slice (some ⟨q1,p1,none⟩) n cap,zi last])::(XQ++(XS.set k X').flatten),.mk hv (hl.set hrb (by unfold qdM; rw [if_pos h64]; exact hX')),by rw [if_pos h64],by simp only [List.cons_append,List.append_assoc]⟩
def ZM (gen:Int) (c:Int × Int):Int × Int:=if c.2=0 then (c.1,gen) else c
theorem qcH {l:List α} {x:α} (h:l[i]?=some x):l.drop i=x::l.drop (i+1):=by
 have hi:=(List.getElem?_eq_some_iff.1 h)
 rw [List.drop_eq_getElem_cons hi.1,hi.2]
theorem qjo {b3:Nat} {c:Int × Int} (hg:(b3,.cells 3 1 [zi gen])∈H):qG Tryz.prog w0 H 339 [.agg (List.toArray (rdC c)),zp b3] (.agg (List.toArray (rdC (ZM gen c)))):=by
 refine qd Tryz.func339 rfl Tryz.ntmps339 rfl rfl (zo ?_)
 refine qR (l:=rdC c) rfl rfl rfl (fun b2=>?_)
 refine qA (l:=rdC (0,0)) q9 rfl rfl (fun b3_=>?_)
 refine za 4 rfl ?_
 refine qf (v:=zi c.2) rfl ty3 rfl (qh.own (b:=b2) zM rfl) rfl ?_
 refine za 2 rfl ?_
 refine qq (p:=c.2=0) rfl (by simp) (fun q0=>?_) (fun q0=>?_)
 ·skip
  refine Zn ?_
  refine qf (v:=zi gen) rfl ty3 rfl (qh.own (b:=b3) (by repeat (first | exact hg | apply List.mem_cons_of_mem)) rfl) rfl ?_
  refine za 1 rfl ?_
  refine qy (l':=[zi c.1,zi gen]) rfl rfl ty3 rfl rfl (b:=b2) zM rfl rfl zU ?_
  refine za 2 rfl ?_
  have e:ZM gen c=(c.1,gen):=if_pos q0
  rw [e]
  refine qK (vs:=rdC (c.1,gen)) rfl q9 rfl (b:=b2) zM rfl rfl rfl ?_
  refine qp (l':=rdC (c.1,gen)) rfl rfl q9 rfl rfl (b:=b3_) zM (by exact Nat.le_refl 2) rfl zU ?_
  refine qs ?_
  refine ZZ (H2:=H) Tryz.results339 rfl (.nil _) q9 rfl zM rfl zH ?_
  exact ⟨rfl,rfl⟩
 ·skip
  refine za 2 rfl ?_
  have e:ZM gen c=c:=if_neg q0
  rw [e]
  refine qK (vs:=rdC c) rfl q9 rfl (b:=b2) zM rfl rfl rfl ?_
  refine qp (l':=rdC c) rfl rfl q9 rfl rfl (b:=b3_) zM (by exact Nat.le_refl 2) rfl zU ?_
  refine qs ?_
  refine ZZ (H2:=H) Tryz.results339 rfl (.nil _) q9 rfl zM rfl zH ?_
  exact ⟨rfl,rfl⟩
theorem qmn {b3:Nat} {l:List (Int × Int)} (hR:JT 64 rb l HB) (hg:(b3,.cells 3 1 [zi gen])∈H) :qk Tryz.prog w0 338 #[zp rb,.func (.func 339) #[] #[zp b3]] (HB++H) (fun v H'=>∃ X' cnt,JT 64 rb (l.map (ZM gen)) X'∧v=zi cnt∧0≤cnt∧cnt≤64∧H'=X'++H):=by
 have hmost:=hR.most.1
 refine qd (l:=[zp rb,.func (.func 339) #[] #[zp b3]]) Tryz.func338 rfl Tryz.ntmps338 rfl rfl ?_
 refine za 9 rfl ?_
 refine qB (zc1 rfl) Tryz.call401 rfl (hR.len (fun p hp=>List.mem_append_left _ hp)) ?_
 refine za 3 rfl ?_
 refine qV (X:=(Nat × qe × Int)) [(0,_),(1,_),(10,_)] (fun (z:(Nat × qe × Int))=>[(11,zi (z.1:Int)),(5,zi z.2.2)]) (fun _=>_) (fun (z:(Nat × qe × Int))=>z.2.1++H) (fun (z:(Nat × qe × Int))=>z.1≤l.length∧JT 64 rb (l.drop z.1++(l.take z.1).map (ZM gen)) z.2.1∧0≤z.2.2∧z.2.2≤(z.1:Int)) (fun (z:(Nat × qe × Int))=>l.length-z.1) (0,HB,0) ⟨Nat.zero_le _,by simpa using hR,Int.le_refl 0,by simp⟩ (qc rfl (qc rfl (qc rfl (qi _)))) (qc rfl (qc rfl (qi _))) rfl (.refl _) ?_
 rintro ⟨i,X,cnt⟩ ⟨hi,hX,hc0,hc1⟩
 dsimp only at hi hX hc0 hc1 ⊢
 simp only [List.cons_append,List.nil_append]
 refine za 4 rfl ?_
 refine qq (p:=(i:Int)<(l.length:Int)) rfl (by simp) (fun q0=>?_) (fun q0=>?_)
 ·skip
  refine za 4 rfl ?_
  obtain ⟨c,hc⟩:∃ c,l[i]?=some c:=⟨_,List.getElem?_eq_getElem zO⟩
  rw [qcH hc,List.cons_append] at hX
  refine qH rfl rfl ?_
  refine qn (zc1 rfl) Tryz.call400 rfl (qjt (H:=H) hX) ?_
  rintro v H' ⟨X1,hX1,rfl,rfl⟩
  refine za 3 rfl ?_
  refine qA (l:=rdC (0,0)) q9 rfl rfl (fun b6=>?_)
  refine qp (l':=rdC c) rfl rfl q9 rfl rfl (b:=b6) zM (by exact Nat.le_refl 2) rfl zU ?_
  refine za 4 rfl ?_
  refine qK (vs:=rdC c) rfl q9 rfl (b:=b6) zM rfl rfl rfl ?_
  refine JR (fa:=#[]) (ca:=#[zp b3]) rfl (.cons rfl .nil) Tryz.call339 rfl (qjo (c:=c) (gen:=gen) (List.mem_cons_of_mem _ (List.mem_append_right _ hg))) ?_
  rintro v H' ⟨rfl,rfl⟩
  refine qA (l:=rdC (0,0)) q9 rfl rfl (fun b8=>?_)
  refine qp (l':=rdC (ZM gen c)) rfl rfl q9 rfl rfl (b:=b8) zM (by exact Nat.le_refl 2) rfl zU ?_
  refine za 3 rfl ?_
  refine qK (vs:=rdC (ZM gen c)) rfl q9 rfl (b:=b8) zM rfl rfl rfl ?_
  refine qv (l:=rdC (ZM gen c)) QA q9 (.cons rfl rfl rfl rfl rfl .nil) rfl rfl rfl rfl rfl rfl rfl (fun b23=>?_)
  refine qT (H':=X1++((b23,.cells 391 2 (rdC (ZM gen c)))::(b8,.cells 391 2 (rdC (ZM gen c)))::(b6,.cells 391 2 (rdC c))::H)) zH ?_
  refine qn (zc2 rfl rfl) Tryz.call251 rfl (qe7 (H:=(b23,.cells 391 2 (rdC (ZM gen c)))::(b8,.cells 391 2 (rdC (ZM gen c)))::(b6,.cells 391 2 (rdC c))::H) hX1 (x:=ZM gen c) zd (Holds.own (b:=b23) zM)) ?_
  rintro v H' ⟨X2,hX2,rfl,rfl⟩
  have hlen:(l.drop (i+1)++(l.take i).map (ZM gen)).length<64:=by rw [List.length_append,List.length_map,List.length_take,List.length_drop]; omega
  rw [if_pos hlen,List.append_assoc,← List.map_singleton (f:=ZM gen) (a:=c),← List.map_append,← ZR hc] at hX2
  refine za 2 rfl ?_
  refine qK (vs:=rdC c) rfl q9 rfl (b:=b6) zM rfl rfl rfl ?_
  refine qK (vs:=rdC (ZM gen c)) rfl q9 rfl (b:=b8) zM rfl rfl rfl ?_
  refine W_x (X_neA rfl rfl q9 zk zk (.cons zd ty3 rfl rfl rfl (qcE ty3) (.cons zd ty3 rfl rfl rfl (qcE ty3) .nil))) (fun _ h=>by cases h) rfl ?_
  refine qs ?_
  refine XA rfl (fun q1=>?_) (fun q1=>?_)
  ·skip
   refine za 2 rfl ?_
   refine qF rfl rfl (qM (m:=cnt+1) (qW zO)) rfl ?_
   refine za 4 rfl ?_
   refine qF rfl rfl (qM (m:=((i+1:Nat):Int)) ((qW zO).trans zO)) rfl ?_
   refine za 2 rfl ?_
   refine qI (i+1,X2,cnt+1) ⟨by show i+1≤l.length; omega,hX2,by show 0≤cnt+1; omega,by show cnt+1≤((i+1:Nat):Int); omega⟩ (by show l.length-(i+1)<l.length-i; omega) (qc rfl (qc rfl (qc rfl (qc rfl (qc rfl (qi _)))))) rfl zH
  ·skip
   refine za 3 rfl ?_
   refine qF rfl rfl (qM (m:=((i+1:Nat):Int)) ((qW zO).trans zO)) rfl ?_
   refine za 2 rfl ?_
   refine qI (i+1,X2,cnt) ⟨by show i+1≤l.length; omega,hX2,by show 0≤cnt; omega,by show cnt≤((i+1:Nat):Int); omega⟩ (by show l.length-(i+1)<l.length-i; omega) (qc rfl (qc rfl (qc rfl (qc rfl (qc rfl (qi _)))))) rfl zH
 ·skip
  refine za 5 rfl ?_
  refine qj (H2:=X++H) Tryz.results338 rfl (.nil _) zH ?_
  obtain rfl:i=l.length:=by omega
  rw [List.drop_length,List.nil_append,List.take_length] at hX
  exact ⟨X,cnt,hX,rfl,hc0,by omega,rfl⟩
theorem qc4 {f:α→α} {Q:List α} {q:α} (h:Q[k]?=some q):((Q.take k).map f++Q.drop k).set k (f q)=(Q.take (k+1)).map f++Q.drop (k+1):=by
 have hk:=(List.getElem?_eq_some_iff.1 h).1
 rw [List.set_append_right _ _ (by rw [List.length_map,List.length_take]; omega),List.length_map,List.length_take,Nat.min_eq_left (by omega),Nat.sub_self,qcH h,List.set_cons_zero,List.take_add_one,h,List.map_append,List.append_assoc]
 rfl
theorem qdr {lb:Nat} {last:Int} (hL:Qv lb n Q last HB) (hn:0<n∧n≤64) (hg:1≤gen∧last≤gen) :qk Tryz.prog w0 249 #[zp lb,zi gen] (HB++H) (fun v H'=>∃ HB' cnt,Qv lb n (Q.map (fun q=>q.map (ZM gen))) gen HB'∧v=zi cnt∧H'=HB'++H):=by
 cases hL with
 | @mk v XQ XS rbs hv hl =>
 have hvl:=hv.length
 rw [List.length_map,Nat.mul_one] at hvl
 obtain ⟨ad,cap,rfl,hcl,hcm⟩:=hv.shape
 have hXr:∀ {H:qe},(∀ p∈XQ,p∈H)→Holds w0 H ad (rbs.map cbP):=fun hs=>zz.toHolds hv hs
 obtain ⟨q1,p1,rfl⟩:∃ q1 p1,ad=some ⟨q1,p1,none⟩:=by
  obtain ⟨rb,hrb⟩:∃ rb,rbs[0]?=some rb:=⟨_,List.getElem?_eq_getElem (by rw [hl.l1]; exact hn.1)⟩
  obtain ⟨q1,p1,e,_⟩:=(hXr (H:=XQ) (fun _ h=>h)).at (i:=0) (v:=cbP rb) (by rw [List.getElem?_map,hrb]; rfl)
  exact ⟨q1,p1,e⟩
 have hXc:∀ {H:qe} {k rb:Nat},(∀ p∈XQ,p∈H)→rbs[k]?=some rb→qh w0 H q1 (p1+k) (cbP rb):=fun {H k rb} hs hk=>by
  obtain ⟨q2,p2,e,hc⟩:=(hXr hs).at (i:=k) (v:=cbP rb) (by rw [List.getElem?_map,hk]; rfl)
  cases e; exact hc
 have e0:((lb,.cells 387 2 [.slice (some ⟨q1,p1,none⟩) n cap,zi last])::(XQ++XS.flatten))++H=(lb,.cells 387 2 [.slice (some ⟨q1,p1,none⟩) n cap,zi last])::(XQ++(XS.flatten++H)):=by simp only [List.cons_append,List.append_assoc]
 rw [e0]
 refine qd (l:=[zp lb,zi gen]) Tryz.func249 rfl Tryz.ntmps249 rfl rfl ?_
 refine zo ?_
 refine qR (l:=[zi gen]) rfl rfl rfl (fun b3=>?_)
 refine za 3 rfl (zB zk zK (zq 1 rfl (qC (qE rfl rfl Yw) rfl (zq 2 rfl ?_))))
 refine qC (ql (v:=zi gen) rfl ty3 rfl (qh.own (b:=b3) zM rfl)) rfl ?_
 refine zq 2 rfl ?_
 first | rw [decide_eq_true (by omega)] | rw [decide_eq_false (by omega)]
 first | refine qC (qX rfl rfl) rfl ?_ | refine qC (qY rfl rfl) rfl ?_
 refine zq 2 rfl ?_
 refine qC (ql (v:=zi gen) rfl ty3 rfl (qh.own (b:=b3) zM rfl)) rfl ?_
 refine zq 7 rfl ?_
 refine qC (ql (v:=zi last) rfl ty3 rfl (qh.own (b:=lb) zM rfl)) rfl ?_
 refine zq 2 rfl ?_
 first | rw [decide_eq_true (by omega)] | rw [decide_eq_false (by omega)]
 first | refine qC (qX rfl rfl) rfl ?_ | refine qC (qY rfl rfl) rfl ?_
 refine z4 (za 4 rfl ?_)
 refine qf (v:=zi gen) rfl ty3 rfl (qh.own (b:=b3) zM rfl) rfl ?_
 refine za 2 rfl ?_
 refine qy (l':=[.slice (some ⟨q1,p1,none⟩) n cap,zi gen]) rfl rfl ty3 rfl rfl (b:=lb) zM rfl rfl zU ?_
 refine za 9 rfl ?_
 refine qf (v:=.slice (some ⟨q1,p1,none⟩) n cap) rfl ZB rfl (qh.own (b:=lb) zM rfl) rfl ?_
 refine zY rfl ZB rfl rfl (za 3 rfl ?_)
 refine qV (X:=(Nat × List qe × List (List (Int × Int)) × Int)) [(3,_),(29,_),(30,_)] (fun (z:(Nat × List qe × List (List (Int × Int)) × Int))=>[(31,zi (z.1:Int)),(5,zi z.2.2.2)]) (fun _=>_) (fun (z:(Nat × List qe × List (List (Int × Int)) × Int))=>(b3,.cells 3 1 [zi gen])::(lb,.cells 387 2 [.slice (some ⟨q1,p1,none⟩) n cap,zi gen])::(XQ++(z.2.1.flatten++H))) (fun (z:(Nat × List qe × List (List (Int × Int)) × Int))=>z.1≤n∧qaf n rbs z.2.1 z.2.2.1∧z.2.2.1=((Q.take z.1).map (fun q=>q.map (ZM gen))++Q.drop z.1)∧0≤z.2.2.2∧z.2.2.2≤64*(z.1:Int)) (fun (z:(Nat × List qe × List (List (Int × Int)) × Int))=>n-z.1) (0,XS,Q,0) ⟨Nat.zero_le _,hl,by simp,Int.le_refl 0,by simp⟩ (qc rfl (qc rfl (qc rfl (qi _)))) (qc rfl (qc rfl (qi _))) rfl (.refl _) ?_
 rintro ⟨k,XS1,Q1,cnt⟩ ⟨hi,hl1,hQ1,hc0,hc1⟩
 dsimp only at hi hl1 hQ1 hc0 hc1 ⊢
 simp only [List.cons_append,List.nil_append]
 refine za 4 rfl ?_
 refine qq (p:=(k:Int)<(n:Int)) rfl (by simp) (fun q0=>?_) (fun q0=>?_)
 ·skip
  refine za 4 rfl ?_
  have hk:k<n:=by omega
  obtain ⟨rb,hrb⟩:∃ rb,rbs[k]?=some rb:=⟨_,List.getElem?_eq_getElem (by rw [hl1.l1]; exact hk)⟩
  obtain ⟨X,hX0⟩:∃ X,XS1[k]?=some X:=⟨_,List.getElem?_eq_getElem (by rw [hl1.l2]; exact hk)⟩
  obtain ⟨q,hq⟩:∃ q,Q1[k]?=some q:=⟨_,List.getElem?_eq_getElem (by rw [hl1.l3]; exact hk)⟩
  have hX:=hl1.r k rb X q hrb hX0 hq
  have hqq:Q[k]?=some q:=by
   rw [hQ1,List.getElem?_append_right (by rw [List.length_map,List.length_take]; omega),List.length_map,List.length_take,Nat.min_eq_left (by rw [hl.l3]; omega),Nat.sub_self,List.getElem?_drop] at hq
   simpa using hq
  refine qN (j:=k) rfl rfl ZB ZQ rfl hk rfl rfl ?_
  refine qf (v:=cbP rb) rfl ZQ rfl (by rw [Nat.mul_one]; exact hXc (k:=k) (fun p hp=>List.mem_cons_of_mem _ (List.mem_cons_of_mem _ (List.mem_append_left _ hp))) hrb) rfl ?_
  refine za 5 rfl (qL .nil (.cons rfl .nil) rfl ?_)
  refine qT (H':=X++((b3,.cells 3 1 [zi gen])::(lb,.cells 387 2 [.slice (some ⟨q1,p1,none⟩) n cap,zi gen])::(XQ++((XS1.set k []).flatten++H)))) ((show qr _ ((b3,.cells 3 1 [zi gen])::(lb,.cells 387 2 [.slice (some ⟨q1,p1,none⟩) n cap,zi gen])::(XQ++(X++((XS1.set k []).flatten++H)))) from .cons (.here _) (.cons (.here _) (.app (.here _) (Qs hX0)))).trans zH) ?_
  refine qn (zc2 rfl rfl) Tryz.call338 rfl (qmn (H:=(b3,.cells 3 1 [zi gen])::(lb,.cells 387 2 [.slice (some ⟨q1,p1,none⟩) n cap,zi gen])::(XQ++((XS1.set k []).flatten++H))) hX (gen:=gen) List.mem_cons_self) ?_
  rintro v H' ⟨X',c2,hX',rfl,hc2,hc3,rfl⟩
  refine qT (H':=(b3,.cells 3 1 [zi gen])::(lb,.cells 387 2 [.slice (some ⟨q1,p1,none⟩) n cap,zi gen])::(XQ++((XS1.set k X').flatten++H))) ((show qr _ ((b3,.cells 3 1 [zi gen])::(lb,.cells 387 2 [.slice (some ⟨q1,p1,none⟩) n cap,zi gen])::(XQ++(X'++((XS1.set k []).flatten++H)))) from zH).trans (.cons (.here _) (.cons (.here _) (.app (.here _) (Zb (by rw [hl1.l2]; exact hk)))))) ?_
  refine qF rfl rfl (qM (m:=cnt+c2) (qW zO)) rfl ?_
  refine za 4 rfl ?_
  refine qF rfl rfl (qM (m:=((k+1:Nat):Int)) ((qW zO).trans zO)) rfl ?_
  refine za 2 rfl ?_
  refine qI (k+1,XS1.set k X',Q1.set k (q.map (ZM gen)),cnt+c2) ⟨by show k+1≤n; omega,hl1.set hrb hX',(by show Q1.set k _=_; rw [hQ1]; exact qc4 hqq),by show 0≤cnt+c2; omega,by show cnt+c2≤64*((k+1:Nat):Int); omega⟩ (by show n-(k+1)<n-k; omega) (qc rfl (qc rfl (qc rfl (qc rfl (qc rfl (qi _)))))) rfl zH
 ·skip
  refine za 5 rfl ?_
  refine qj (H2:=(lb,.cells 387 2 [.slice (some ⟨q1,p1,none⟩) n cap,zi gen])::(XQ++(XS1.flatten++H))) Tryz.results249 rfl (.nil _) zH ?_
  have ekn:k=n:=by omega
  rw [ekn,List.take_of_length_le (by rw [hl.l3]; exact Nat.le_refl _),List.drop_eq_nil_of_le (by rw [hl.l3]; exact Nat.le_refl _),List.append_nil] at hQ1
  subst hQ1
  exact ⟨(lb,.cells 387 2 [.slice (some ⟨q1,p1,none⟩) n cap,zi gen])::(XQ++XS1.flatten),cnt,.mk hv hl1,rfl,by simp only [List.cons_append,List.append_assoc]⟩
theorem qr.of_perm {H':qe} (h:H.Perm H'):qr H H':=by
 induction h with
 | nil=>exact .refl _
 | cons x _ ih=>exact .cons (.here _) ih
 | swap x y l=>exact .cons (.next (.here _)) (.refl _)
 | trans _ _ ih1 ih2=>exact .trans ih1 ih2
theorem flat_take {α:Type}:∀ {XS:List (List α)} {k:Nat} {B:List α},XS[k]?=some B→XS.flatten.Perm (B++(XS.set k []).flatten)
 | X::XS,0,B,h=>by
  obtain rfl:X=B:=by simpa using h
  simp
 | X::XS,k+1,B,h=>by
  have ih:=flat_take (XS:=XS) (k:=k) (B:=B) (by simpa using h)
  simp only [List.flatten_cons,List.set_cons_succ]
  exact (ih.append_left X).trans (by rw [← List.append_assoc,← List.append_assoc]; exact List.perm_append_comm.append_right _)
theorem qbk {XS:List (List α)} {B:List α} (h:k<XS.length):(B++(XS.set k []).flatten).Perm (XS.set k B).flatten:=by
 have h1:=flat_take (XS:=XS.set k B) (k:=k) (B:=B) (by simp [h])
 rw [List.set_set] at h1
 exact h1.symm
def Qg (now:Nat) (sl:List Value) (bs:List Nat) (bm turn:Nat):List Value:=zu (now:Int)::(sl++(bs.map (fun z:Nat=>Value.int .u64 (z:Int))++[.map (some bm),zi (turn:Int)]))
structure Z2 (sl:List Value) (bs:List Nat):Prop where
 sl:sl.length=512
 bs:bs.length=8
theorem qgz (h:Z2 sl bs):(Qg now sl bs bm turn).length=523:=by
 simp [Qg,h.sl,h.bs]
theorem wh_sl {v:Value} (h:Z2 sl bs) (hv:sl[k]?=some v):(Qg now sl bs bm turn)[1+k]?=some v:=by
 have hk:=(List.getElem?_eq_some_iff.1 hv).1
 unfold Qg
 rw [Nat.add_comm,List.getElem?_cons_succ,List.getElem?_append_left hk,hv]
theorem wh_bs (h:Z2 sl bs) (hv:bs[k]?=some z):(Qg now sl bs bm turn)[513+k]?=some (zu (z:Int)):=by
 have hk:=(List.getElem?_eq_some_iff.1 hv).1
 unfold Qg
 rw [show 513+k=(512+k)+1 by omega,List.getElem?_cons_succ,List.getElem?_append_right (by rw [h.sl]; omega),h.sl,show 512+k-512=k by omega,List.getElem?_append_left (by simpa using hk),List.getElem?_map,hv]; rfl
theorem qb9 (h:Z2 sl bs):(Qg now sl bs bm turn)[521]?=some (.map (some bm)):=by
 unfold Qg
 rw [List.getElem?_cons_succ,List.getElem?_append_right (by rw [h.sl]; omega),h.sl,List.getElem?_append_right (by rw [List.length_map,h.bs]; omega),List.length_map,h.bs]; rfl
theorem qgx {v:Value} (h:Z2 sl bs) (hk:k<512):(Qg now sl bs bm turn).set (1+k) v=Qg now (sl.set k v) bs bm turn:=by
 unfold Qg
 rw [Nat.add_comm,List.set_cons_succ,List.set_append_left _ _ (by rw [h.sl]; exact hk)]
theorem qgy (h:Z2 sl bs) (hk:k<8):(Qg now sl bs bm turn).set (513+k) (zu (z:Int))=Qg now sl (bs.set k z) bm turn:=by
 unfold Qg
 rw [show 513+k=(512+k)+1 by omega,List.set_cons_succ,List.set_append_right _ _ (by rw [h.sl]; omega),h.sl,show 512+k-512=k by omega,List.set_append_left _ _ (by simpa [h.bs] using hk),List.map_set]
theorem Z2.setSl (h:Z2 sl bs) (k:Nat) (v:Value):Z2 (sl.set k v) bs:=⟨by rw [List.length_set,h.sl],h.bs⟩
theorem Z2.setBs (h:Z2 sl bs) (k z:Nat):Z2 sl (bs.set k z):=⟨h.sl,by rw [List.length_set,h.bs]⟩
set_option maxRecDepth 100000
def sl0:List Value:=List.replicate 512 (.slice none 0 0)
def bs0:List Nat:=List.replicate 8 0
theorem ok0:Z2 sl0 bs0:=⟨List.length_replicate,List.length_replicate⟩
theorem New_L:qk Tryz.prog w0 275 #[zu ((now:Nat):Int)] (H) (fun v H'=>∃ bw bm,v=zp bw∧H'=(bw,.cells 406 523 (Qg now sl0 bs0 bm 0))::(bm,.obj (qS (Value.int .i64) [] 0))::H):=by
 refine qd (l:=[zu ((now:Nat):Int)]) Tryz.func275 rfl Tryz.ntmps275 rfl rfl ?_
 refine za 5 rfl ?_
 refine Xz (kf:=(Value.int .i64)) rfl (fun b4=>?_)
 refine zb (l:=Qg now sl0 bs0 b4 0) ty406 pl406 (.cons rfl rfl rfl rfl rfl (.cons rfl rfl rfl rfl rfl .nil)) rfl zk rfl ?_
 refine qR (l:=Qg now sl0 bs0 b4 0) rfl rfl rfl (fun b6=>?_)
 refine za 2 rfl (qj Tryz.results275 rfl (.nil _) (.refl _) ?_)
 exact ⟨b6,b4,rfl,rfl⟩
structure ZF (R:Nat) (l buf:List Int) (h:Nat):Prop where
 pos:0<R
 room:R≤256
 len:buf.length=R
 head:h<R
 most:l.length≤R
 at_:∀ (i:Nat) x,l[i]?=some x→buf[(h+i)%R]?=some x
inductive Y2 (R rb:Nat) (l:List Int):qe→Prop
 | mk {b h:Nat} {buf:List Int} (hI:ZF R l buf h):Y2 R rb l [(rb,.cells 412 3 [.slice (some ⟨b,0,none⟩) R R,.int .i64 ((h:Nat):Int),.int .i64 ((l.length:Nat):Int)]),(b,.cells 3 (R*1) ((buf).map (Value.int .i64)))]
def atV (l:List Int) (z:Int):Value:=if 0≤z then (match l[z.toNat]? with
 | some x=>.tuple #[.int .i64 x,.bool true]
 | none=>.tuple #[.int .i64 0,.bool false]) else .tuple #[.int .i64 0,.bool false]
theorem qjB (h:l[i]?=some x):atV l (i:Int)=.tuple #[zi x,.bool true]:=by
 unfold atV
 rw [if_pos (by omega),show ((i:Nat):Int).toNat=i by omega,h]
theorem qe8 {z:Int} (h:z<0∨(l.length:Int)≤z):atV l z=.tuple #[zi 0,.bool false]:=by
 unfold atV
 by_cases c:0≤z
 ·rw [if_pos c,List.getElem?_eq_none (by omega)]
 ·rw [if_neg c]
theorem tmN' (a b:Nat):((a:Int)).tmod (b:Int)=((a%b:Nat):Int):=by
 rw [Int.tmod_eq_emod_of_nonneg (Int.natCast_nonneg _)]; exact (Int.natCast_emod _ _).symm
theorem Ko (hm:(rb,.cells 412 3 [.slice (some ⟨b,0,none⟩) R R,zi ((h:Nat):Int),zi ((n:Nat):Int)])∈H) (hp:0<R) (hR:R≤256) (hh:h<R) (hi:i≤1000000) :qG Tryz.prog w0 H 270 [zp rb,zi (i:Int)] (zi (((h+i)%R:Nat):Int)):=by
 refine qd Tryz.func270 rfl Tryz.ntmps270 rfl rfl (za 3 rfl (zB zk zK (zq 3 rfl ?_)))
 refine qC (ql (v:=zi ((h:Nat):Int)) rfl ty3 rfl (qh.own (b:=rb) hm rfl)) rfl ?_
 refine zq 1 rfl ?_
 refine qC (QQ rfl rfl (qM (m:=((h+i:Nat):Int)) (by rw [qW (by omega)]; omega))) rfl ?_
 refine zq 3 rfl ?_
 refine qC (ql (v:=.slice (some ⟨b,0,none⟩) R R) rfl qZ rfl (qh.own (b:=rb) hm rfl)) rfl ?_
 refine qC (KK rfl qZ rfl) rfl ?_
 refine qC (QQ rfl rfl (JF zO (m:=(((h+i)%R:Nat):Int)) (tmN' (h+i) R))) rfl ?_
 refine zq 1 rfl (z4 ?_)
 refine qj (H2:=H) Tryz.results270 rfl (.nil _) zH ?_
 exact ⟨rfl,rfl⟩
theorem qmv (hm:(rb,.cells 412 3 [.slice (some ⟨b,0,none⟩) R R,zi ((h:Nat):Int),zi ((n:Nat):Int)])∈H) :qG Tryz.prog w0 H 192 [zp rb] (zi (n:Int)):=by
 refine qd Tryz.func192 rfl Tryz.ntmps192 rfl rfl (za 6 rfl ?_)
 refine W_x (qE rfl rfl Xb) (fun _ h=>by cases h) rfl ?_
 refine za 7 rfl ?_
 refine qf (v:=zi ((n:Nat):Int)) rfl ty3 rfl (qh.own (b:=rb) hm rfl) rfl ?_
 refine za 2 rfl ?_
 refine qj (H2:=H) Tryz.results192 rfl (.nil _) zH ?_
 exact ⟨rfl,rfl⟩
theorem qmw (hI:ZF R l buf h) (hm:(rb,.cells 412 3 [.slice (some ⟨b,0,none⟩) R R,zi ((h:Nat):Int),zi ((l.length:Nat):Int)])∈H) (hb:(b,.cells 3 (R*1) ((buf).map (Value.int .i64)))∈H) {z:Int} (hz:z<0) :qG Tryz.prog w0 H 273 [zp rb,zi z] (atV l z):=by
 refine qd Tryz.func273 rfl Tryz.ntmps273 rfl rfl (za 7 rfl ?_)
 refine W_x (qE rfl rfl Xb) (fun _ h=>by cases h) rfl ?_
 refine za 5 rfl ?_
 rw [decide_eq_true hz]
 refine za 19 rfl ?_
 refine qP (H2:=H) Tryz.results273 rfl rfl (.nil _) zH ?_
 exact ⟨(qe8 (.inl hz)).symm,rfl⟩
theorem qmy (hI:ZF R l buf h) (hm:(rb,.cells 412 3 [.slice (some ⟨b,0,none⟩) R R,zi ((h:Nat):Int),zi ((l.length:Nat):Int)])∈H) (hb:(b,.cells 3 (R*1) ((buf).map (Value.int .i64)))∈H) {z:Int} (hz:(l.length:Int)≤z) :qG Tryz.prog w0 H 273 [zp rb,zi z] (atV l z):=by
 refine qd Tryz.func273 rfl Tryz.ntmps273 rfl rfl (za 7 rfl ?_)
 refine W_x (qE rfl rfl Xb) (fun _ h=>by cases h) rfl ?_
 refine za 5 rfl ?_
 rw [decide_eq_false (by omega)]
 refine za 11 rfl ?_
 refine qf (v:=zi ((l.length:Nat):Int)) rfl ty3 rfl (qh.own (b:=rb) hm rfl) rfl ?_
 refine za 2 rfl ?_
 rw [decide_eq_true (by omega)]
 refine za 11 rfl ?_
 refine qP (H2:=H) Tryz.results273 rfl rfl (.nil _) zH ?_
 exact ⟨(qe8 (.inr hz)).symm,rfl⟩
theorem qmx (hI:ZF R l buf h) (hm:(rb,.cells 412 3 [.slice (some ⟨b,0,none⟩) R R,zi ((h:Nat):Int),zi ((l.length:Nat):Int)])∈H) (hb:(b,.cells 3 (R*1) ((buf).map (Value.int .i64)))∈H) (hx:l[i]?=some x) :qG Tryz.prog w0 H 273 [zp rb,zi (i:Int)] (.tuple #[zi x,.bool true]):=by
 have hil:=(List.getElem?_eq_some_iff.1 hx).1
 have hmost:=hI.most
 have hroom:=hI.room
 have hbx:=hI.at_ i x hx
 have hpl:(h+i)%R<R:=Nat.mod_lt _ hI.pos
 refine qd Tryz.func273 rfl Tryz.ntmps273 rfl rfl (za 7 rfl ?_)
 refine W_x (qE rfl rfl Xb) (fun _ h=>by cases h) rfl ?_
 refine za 5 rfl ?_
 rw [decide_eq_false (by omega)]
 refine za 11 rfl ?_
 refine qf (v:=zi ((l.length:Nat):Int)) rfl ty3 rfl (qh.own (b:=rb) hm rfl) rfl ?_
 refine za 2 rfl ?_
 rw [decide_eq_false (by omega)]
 refine za 4 rfl (zB zk zK (zq 3 rfl ?_))
 refine qC (ql (v:=.slice (some ⟨b,0,none⟩) R R) rfl qZ rfl (qh.own (b:=rb) hm rfl)) rfl ?_
 refine zq 2 rfl ?_
 refine Ju (zc2 rfl rfl) Tryz.call270 rfl (Ko (i:=i) hm hI.pos hI.room hI.head zO) ?_
 refine qC (qU (j:=(h+i)%R) rfl rfl qZ ty3 (by first | rfl | omega) (by first | decide | omega | simp) rfl) rfl ?_
 refine qC (ql (v:=zi x) rfl ty3 rfl (by rw [Nat.mul_one]; exact qh.own (b:=b) hb (by rw [Nat.zero_add,List.getElem?_map,hbx]; rfl))) rfl ?_
 refine zq 2 rfl (z4 ?_)
 refine qP (H2:=H) Tryz.results273 rfl rfl (.nil _) zH ?_
 exact ⟨rfl,rfl⟩
theorem ql3 (hI:ZF R l buf h) (hm:(rb,.cells 412 3 [.slice (some ⟨b,0,none⟩) R R,zi ((h:Nat):Int),zi ((l.length:Nat):Int)])∈H) (hb:(b,.cells 3 (R*1) ((buf).map (Value.int .i64)))∈H) {z:Int}:qG Tryz.prog w0 H 273 [zp rb,zi z] (atV l z):=by
 by_cases h0:z<0
 ·exact qmw hI hm hb h0
 ·by_cases h1:(l.length:Int)≤z
  ·exact qmy hI hm hb h1
  ·obtain ⟨i,rfl⟩:∃ i:Nat,z=(i:Int):=⟨z.toNat,by omega⟩
   obtain ⟨x,hx⟩:∃ x,l[i]?=some x:=⟨_,List.getElem?_eq_getElem zO⟩
   rw [qjB hx]
   exact qmx hI hm hb hx
theorem ZF.start (h0:0<R) (h1:R≤256):ZF R [] (List.replicate R 0) 0 :=
 ⟨h0,h1,List.length_replicate,h0,Nat.zero_le _,fun i x h=>by simp at h⟩
theorem qmu (h0:0<R) (h1:R≤256) :qk Tryz.prog w0 274 #[zi (R:Int)] (H) (fun v H'=>∃ rb HB,v=.tuple #[zp rb,zi 0]∧Y2 R rb [] HB∧H'=HB++H):=by
 refine qd (l:=[zi (R:Int)]) Tryz.func274 rfl Tryz.ntmps274 rfl rfl ?_
 refine za 9 rfl ?_
 apply XH
 iterate 4 exact rfl
 case h1 =>
  intro hg2
  refine za 4 rfl ?_
  exact Zv rfl zR
 refine qs ?_
 refine QM rfl (by simp; omega) ?_
 refine za 3 rfl ?_
 refine Jr (ln:=R) (cp:=R) (l:=(List.replicate R (0:Int)).map (Value.int .i64)) rfl rfl qZ ty3 rfl rfl (Nat.le_refl _) (by omega) (by simp only [maxLen]; omega) (by rw [Nat.mul_one]; simp [toList_madeCells_one,Value.cells]) rfl (fun b11=>?_)
 refine zb (l:=[.slice (some ⟨b11,0,none⟩) R R,zi 0,zi 0]) ty412 pl412 (.cons rfl rfl rfl rfl rfl .nil) rfl rfl rfl ?_
 refine qR (l:=[.slice (some ⟨b11,0,none⟩) R R,zi 0,zi 0]) rfl rfl rfl (fun b13=>?_)
 refine za 3 rfl ?_
 refine qP (H2:=[(b13,.cells 412 3 [.slice (some ⟨b11,0,none⟩) R R,zi 0,zi 0]),(b11,.cells 3 (R*1) ((List.replicate R (0:Int)).map (Value.int .i64)))]++H) Tryz.results274 rfl rfl (.nil _) zH ?_
 exact ⟨b13,_,rfl,.mk (ZF.start h0 h1),rfl⟩
theorem qgW (h:buf[j]?=some y) (hne:i≠j):(buf.set i x)[j]?=some y:=by rw [List.getElem?_set_ne hne]; exact h
theorem ZF.pop (hI:ZF R (x::l) buf h):ZF R l (buf.set h 0) ((h+1)%R):=by
 obtain ⟨h1,h2,h3,h4,h5,h6⟩:=hI
 simp only [List.length_cons] at h5
 refine ⟨h1,h2,by rw [List.length_set,h3],Nat.mod_lt _ h1,by omega,fun i y hy=>?_⟩
 have hi:=(List.getElem?_eq_some_iff.1 hy).1
 have e:((h+1)%R+i)%R=(h+(i+1))%R:=by rw [Nat.mod_add_mod]; congr 1; omega
 rw [e]
 refine qgW (h6 (i+1) y (by simpa using hy)) ?_
 by_cases c:h+(i+1)<R
 ·rw [Nat.mod_eq_of_lt c]; omega
 ·have e2:(h+(i+1))%R=h+(i+1)-R:=by rw [Nat.mod_eq_sub_mod (by omega),Nat.mod_eq_of_lt (by omega)]
  omega
theorem qkF (hh:h<R) (hi:i<R) (hj:j<R) (e:(h+i)%R=(h+j)%R):i=j:=by
 have e1:∀ k,k<R→(h+k)%R=if h+k<R then h+k else h+k-R:=fun k hk=>by
  split
  ·rename_i q; exact Nat.mod_eq_of_lt q
  ·rename_i q; rw [Nat.mod_eq_sub_mod (by omega),Nat.mod_eq_of_lt (by omega)]
 rw [e1 i hi,e1 j hj] at e
 split at e <;> split at e <;> omega
theorem qkr (hI:ZF R (x::l) buf h) :qk Tryz.prog w0 194 #[zp rb] ((rb,.cells 412 3 [.slice (some ⟨b,0,none⟩) R R,zi ((h:Nat):Int),zi (((x::l).length:Nat):Int)])::(b,.cells 3 (R*1) ((buf).map (Value.int .i64)))::H) (fun v H'=>v=.tuple #[zi x,.bool true]∧H'=(rb,.cells 412 3 [.slice (some ⟨b,0,none⟩) R R,zi (((h+1)%R:Nat):Int),zi ((l.length:Nat):Int)])::(b,.cells 3 (R*1) ((buf.set h 0).map (Value.int .i64)))::H):=by
 have hmost:=hI.most
 have hroom:=hI.room
 have hbl:=hI.len
 have hhd:=hI.head
 simp only [List.length_cons] at hmost
 refine qd (l:=[zp rb]) Tryz.func194 rfl Tryz.ntmps194 rfl rfl ?_
 refine za 6 rfl ?_
 refine qB (zc2 rfl rfl) Tryz.call273 rfl (ql3 (z:=0) hI zM zM) ?_
 rw [show atV (x::l) 0=.tuple #[zi x,.bool true] from rfl]
 refine za 15 rfl ?_
 refine zy [(rb,.cells 412 3 [.slice (some ⟨b,0,none⟩) R R,zi ((h:Nat):Int),zi (((x::l).length:Nat):Int)])] zk ?_
 refine zw [0,1,2] rfl rfl ?_
 refine qm 3 rfl zK zK zK rfl rfl (ql (v:=.slice (some ⟨b,0,none⟩) R R) rfl qZ rfl (qh.own (b:=rb) zM rfl)) rfl ?_
 refine zw [4,5,6] rfl rfl ?_
 refine qm 7 rfl zK zK zK rfl rfl (ql (v:=zi ((h:Nat):Int)) rfl ty3 rfl (qh.own (b:=rb) zM rfl)) rfl ?_
 refine zw [8] rfl rfl ?_
 refine qm 9 rfl zK zK zK rfl rfl (qU (j:=h) rfl rfl qZ ty3 (by first | rfl | omega) (by first | decide | omega | simp) rfl) rfl ?_
 refine qJ 10 zH zK rfl rfl ?_
 refine qy (l':=((buf.set (h) 0)).map (Value.int .i64)) rfl rfl ty3 rfl rfl (b:=b) zM (by rw [List.length_map,Nat.blt_eq]; omega) (by rw [List.map_set]; congr 1; omega) zU ?_
 refine qs (WC_goal (WC_done zH zK (za 3 rfl ?_)))
 refine qB (zc2 rfl rfl) Tryz.call270 rfl (Ko (i:=1) (n:=(x::l).length) zM hI.pos hI.room hI.head zO) ?_
 refine za 2 rfl ?_
 refine qy (l':=[.slice (some ⟨b,0,none⟩) R R,zi (((h+1)%R:Nat):Int),zi (((x::l).length:Nat):Int)]) rfl rfl ty3 rfl rfl (b:=rb) zM rfl rfl zU ?_
 refine za 5 rfl ?_
 refine qf (v:=zi (((x::l).length:Nat):Int)) rfl ty3 rfl (qh.own (b:=rb) zM rfl) rfl ?_
 refine qF rfl rfl (ZY (m:=((l.length:Nat):Int)) (by rw [qW (by simp only [List.length_cons]; omega)]; simp only [List.length_cons]; omega)) rfl ?_
 refine za 2 rfl ?_
 refine qy (l':=[.slice (some ⟨b,0,none⟩) R R,zi (((h+1)%R:Nat):Int),zi ((l.length:Nat):Int)]) rfl rfl ty3 rfl rfl (b:=rb) zM rfl rfl zU ?_
 refine za 7 rfl (qP Tryz.results194 rfl rfl (.nil _) (.refl _) ?_)
 exact ⟨rfl,rfl⟩
theorem ZF.move (hI:ZF R l buf h) (hk:k<l.length):ZF R (l.set k y) (buf.set ((h+k)%R) y) h:=by
 obtain ⟨h1,h2,h3,h4,h5,h6⟩:=hI
 refine ⟨h1,h2,by rw [List.length_set,h3],h4,by rw [List.length_set]; exact h5,fun i z hz=>?_⟩
 have hm:(h+k)%R<R:=Nat.mod_lt _ h1
 by_cases c:k=i
 ·subst c
  rw [List.getElem?_set_self hk] at hz
  rw [List.getElem?_set_self (by omega),← hz]
 ·rw [List.getElem?_set_ne c] at hz
  have hi:=(List.getElem?_eq_some_iff.1 hz).1
  exact qgW (h6 i z hz) (fun e=>c (qkF h4 zO zO e))
def Jx (l:List Int) (i k:Nat):List Int:=l.take (k+1)++((l.take i).drop k++l.drop (i+1))
theorem XM (hi:i<l.length) (hk:k≤i):(Jx l i k).length=l.length:=by
 unfold Jx; simp only [List.length_append,List.length_take,List.length_drop]; omega
theorem qcf (hi:i<l.length):Jx l i i=l:=by
 unfold Jx
 rw [List.drop_eq_nil_of_le (by rw [List.length_take]; omega),List.nil_append,List.take_append_drop]
theorem Xr (hi:i<l.length) (hk:k≤i):(Jx l i k)[j]?=if j≤k then l[j]? else if j≤i then l[j-1]? else l[j]?:=by
 unfold Jx
 by_cases c:j≤k
 ·rw [if_pos c,List.getElem?_append_left (by rw [List.length_take]; omega),List.getElem?_take,if_pos (by omega)]
 ·rw [if_neg c,List.getElem?_append_right (by rw [List.length_take]; omega),List.length_take,Nat.min_eq_left (by omega)]
  by_cases d:j≤i
  ·rw [if_pos d,List.getElem?_append_left (by rw [List.length_drop,List.length_take]; omega),List.getElem?_drop,List.getElem?_take,if_pos (by omega)]
   congr 1; omega
  ·rw [if_neg d,List.getElem?_append_right (by rw [List.length_drop,List.length_take]; omega),List.getElem?_drop,List.length_drop,List.length_take]
   congr 1; omega
theorem qc3 (hi:i<l.length) (hk:k+1≤i) (hy:l[k]?=some y):(Jx l i (k+1)).set (k+1) y=Jx l i k:=by
 apply List.ext_getElem?
 intro j
 by_cases c:k+1=j
 ·subst c
  rw [List.getElem?_set_self (by rw [XM hi hk]; omega),Xr hi (by omega),if_neg (by omega),if_pos hk,Nat.add_sub_cancel,hy]
 ·rw [List.getElem?_set_ne c,Xr hi hk,Xr hi (by omega)]
  by_cases d:j≤k
  ·rw [if_pos (by omega),if_pos d]
  ·rw [if_neg (by omega),if_neg d]
theorem qd4 (hi:i<l.length):∃ x,Jx l i 0=x::l.eraseIdx i:=by
 cases l with
 | nil=>simp at hi
 | cons x l =>
  refine ⟨x,?_⟩
  unfold Jx
  rw [List.eraseIdx_eq_take_drop_succ]
  rfl
theorem qg9 (hI:ZF R l buf h) (hx:l[i]?=some x) :qk Tryz.prog w0 266 #[zp rb,zi (i:Int)] ((rb,.cells 412 3 [.slice (some ⟨b,0,none⟩) R R,zi ((h:Nat):Int),zi ((l.length:Nat):Int)])::(b,.cells 3 (R*1) ((buf).map (Value.int .i64)))::H) (fun v H'=>∃ buf',ZF R (l.eraseIdx i) (List.set buf' h 0) ((h+1)%R)∧v=.tuple #[zi x,.bool true]∧H'=(rb,.cells 412 3 [.slice (some ⟨b,0,none⟩) R R,zi (((h+1)%R:Nat):Int),zi (((l.eraseIdx i).length:Nat):Int)])::(b,.cells 3 (R*1) ((List.set buf' h 0).map (Value.int .i64)))::H):=by
 have hil:=(List.getElem?_eq_some_iff.1 hx).1
 have hmost:=hI.most
 have hroom:=hI.room
 have hhd:=hI.head
 have hpos:=hI.pos
 refine qd (l:=[zp rb,zi (i:Int)]) Tryz.func266 rfl Tryz.ntmps266 rfl rfl ?_
 refine za 7 rfl ?_
 refine qB (zc2 rfl rfl) Tryz.call273 rfl (ql3 (z:=(i:Int)) hI zM zM) ?_
 rw [qjB hx]
 refine za 10 rfl ?_
 try rw [Bool.not_true]
 refine za 9 rfl ?_
 refine qV (X:=(Nat × List Int)) [(0,_),(6,_)] (fun (x:(Nat × List Int))=>[(8,zi (x.1:Int))]) (fun _=>_) (fun (x:(Nat × List Int))=>(rb,.cells 412 3 [.slice (some ⟨b,0,none⟩) R R,zi ((h:Nat):Int),zi ((l.length:Nat):Int)])::(b,.cells 3 (R*1) ((x.2).map (Value.int .i64)))::H) (fun (x:(Nat × List Int))=>x.1≤i∧ZF R (Jx l i x.1) x.2 h) (fun (x:(Nat × List Int))=>x.1) (i,buf) ⟨Nat.le_refl _,by rw [qcf hil]; exact hI⟩ (qc rfl (qc rfl (qi _))) (qc rfl (qi _)) rfl (.refl _) ?_
 rintro ⟨k,bufi⟩ ⟨hki,hIi⟩
 dsimp only at hki hIi ⊢
 have hlen:=XM hil hki
 simp only [List.cons_append,List.nil_append]
 refine za 5 rfl ?_
 refine qq (p:=0<(k:Int)) rfl (by simp) (fun q0=>?_) (fun q0=>?_)
 ·skip
  refine za 3 rfl ?_
  obtain ⟨k',rfl⟩:∃ k',k=k'+1:=⟨k-1,by omega⟩
  obtain ⟨y,hy⟩:∃ y,l[k']?=some y:=⟨_,List.getElem?_eq_getElem zO⟩
  have hbl:=hIi.len
  have hby:=hIi.at_ k' y (by rw [Xr hil hki,if_pos (by omega)]; exact hy)
  have hp0:(h+k')%R<R:=Nat.mod_lt _ hIi.pos
  have hp1:(h+(k'+1))%R<R:=Nat.mod_lt _ hIi.pos
  refine W_anyS [(rb,.cells 412 3 [.slice (some ⟨b,0,none⟩) R R,zi ((h:Nat):Int),zi ((l.length:Nat):Int)]),(b,.cells 3 (R*1) ((bufi).map (Value.int .i64)))] 18 zk ?_
  refine WS_take 0 rfl rfl zK zK zK zK rfl rfl (ze rfl) rfl ?_
  refine WS_take 1 rfl rfl zK zK zK zK rfl rfl (q8 rfl) rfl ?_
  refine WS_take 2 rfl rfl zK zK zK zK rfl rfl (qQ rfl qbg zd) rfl ?_
  refine WS_take 3 rfl rfl zK zK zK zK rfl rfl (ql (v:=.slice (some ⟨b,0,none⟩) R R) rfl qZ rfl (qh.own (b:=rb) zM rfl)) rfl ?_
  refine WS_take 4 rfl rfl zK zK zK zK rfl rfl (ze rfl) rfl ?_
  refine WS_take 5 rfl rfl zK zK zK zK rfl rfl (ze rfl) rfl ?_
  refine WS_take 7 rfl rfl zK zK zK zK rfl rfl (ze rfl) rfl ?_
  refine WS_take 8 rfl rfl zK zK zK zK rfl rfl (q8 rfl) rfl ?_
  refine WS_take 9 rfl rfl zK zK zK zK rfl rfl (qQ rfl qbg zd) rfl ?_
  refine WS_take 10 rfl rfl zK zK zK zK rfl rfl (ql (v:=.slice (some ⟨b,0,none⟩) R R) rfl qZ rfl (qh.own (b:=rb) zM rfl)) rfl ?_
  refine WS_take 11 rfl rfl zK zK zK zK rfl rfl (ze rfl) rfl ?_
  refine WS_take 12 rfl rfl zK zK zK zK rfl rfl (ze rfl) rfl ?_
  refine WS_take 13 rfl rfl zK zK zK zK rfl rfl (QQ rfl rfl (ZY (m:=((k':Nat):Int)) (by rw [qW (by omega)]; omega))) rfl ?_
  refine WS_one 6 zH rfl zK rfl rfl ?_
  refine qB (zc2 rfl rfl) Tryz.call270 rfl (Ko (i:=k'+1) (n:=l.length) zM hpos hroom hhd zO) ?_
  refine qs ?_
  refine WS_goal ?_
  refine WS_one 14 zH rfl zK rfl rfl ?_
  refine qB (zc2 rfl rfl) Tryz.call270 rfl (Ko (i:=k') (n:=l.length) zM hpos hroom hhd zO) ?_
  refine qs ?_
  refine WS_goal ?_
  refine WS_take 15 rfl rfl zK zK zK zK rfl rfl (qU (j:=(h+k')%R) rfl rfl qZ ty3 (by first | rfl | omega) (by first | decide | omega | simp) rfl) rfl ?_
  refine WS_take 16 rfl rfl zK zK zK zK rfl rfl (ql (v:=zi y) rfl ty3 rfl (by rw [Nat.mul_one ((h+k')%R)]; exact qh.own (b:=b) zM (by rw [Nat.zero_add,List.getElem?_map,hby]; rfl))) rfl ?_
  refine WS_take 17 rfl rfl zK zK zK zK rfl rfl (qU (j:=(h+(k'+1))%R) rfl rfl qZ ty3 (by first | rfl | omega) (by first | decide | omega | simp) rfl) rfl ?_
  refine WS_last zH zK rfl rfl ?_
  refine qy (l':=(bufi.set ((h+(k'+1))%R) y).map (Value.int .i64)) rfl rfl ty3 rfl rfl (b:=b) zM (by rw [List.length_map,Nat.blt_eq]; omega) (by rw [List.map_set]; congr 1; omega) zU ?_
  refine qs (WC_goal (WC_done (.nil _) zK (za 3 rfl ?_)))
  refine qF rfl rfl (ZY (m:=((k':Nat):Int)) (by rw [qW (by omega)]; omega)) rfl ?_
  refine za 2 rfl ?_
  refine qI (k',bufi.set ((h+(k'+1))%R) y) ⟨by show k'≤i; omega,by show ZF R (Jx l i k') _ _; rw [← qc3 hil hki hy]; exact hIi.move (by omega)⟩ (by show k'<k'+1; omega) (qc rfl (qc rfl (qc rfl (qi _)))) rfl (.refl _)
 ·skip
  refine za 2 rfl ?_
  obtain rfl:k=0:=by omega
  refine qH rfl rfl ?_
  obtain ⟨x0,hx0⟩:=qd4 hil
  rw [hx0] at hIi
  have hlx:l.length=(x0::l.eraseIdx i).length:=by rw [← hx0,XM hil (Nat.zero_le _)]
  rw [hlx]
  refine qn (zc1 rfl) Tryz.call194 rfl (qkr (H:=H) hIi) ?_
  rintro v H' ⟨rfl,rfl⟩
  refine za 6 rfl (qP Tryz.results266 rfl rfl (.nil _) (.refl _) ?_)
  exact ⟨bufi,hIi.pop,rfl,rfl⟩
theorem qkq (hR:Y2 R rb l HB) (hx:l[i]?=some x):qk Tryz.prog w0 266 #[zp rb,zi (i:Int)] (HB++H) (fun v H'=>∃ HB',Y2 R rb (l.eraseIdx i) HB'∧v=.tuple #[zi x,.bool true]∧H'=HB'++H):=by
 cases hR with
 | mk hI =>
  refine (qg9 (H:=H) hI hx).mono ?_
  rintro v H' ⟨buf',hI',rfl,rfl⟩
  exact ⟨_,.mk hI',rfl,rfl⟩
theorem qea {lp b1:Nat} (hI:ZF R l buf h) (J:Nat→qe→Prop)
  (hround:∀ i x Hi,l[i]?=some x→J i Hi→Zp Tryz.prog w0 lp #[zi x] ((b1,.cells 281 1 [zp rb])::(rb,.cells 412 3 [.slice (some ⟨b,0,none⟩) R R,zi ((h:Nat):Int),zi ((l.length:Nat):Int)])::(b,.cells 3 (R*1) ((buf).map (Value.int .i64)))::Hi) (fun v H'=>∃ Hi',qr H' ((b1,.cells 281 1 [zp rb])::(rb,.cells 412 3 [.slice (some ⟨b,0,none⟩) R R,zi ((h:Nat):Int),zi ((l.length:Nat):Int)])::(b,.cells 3 (R*1) ((buf).map (Value.int .i64)))::Hi')∧v=.bool true∧J (i+1) Hi')) (hJ:J 0 H) :
  qk Tryz.prog w0 442 #[.func (.yield lp) #[] #[],zp b1] ((b1,.cells 281 1 [zp rb])::(rb,.cells 412 3 [.slice (some ⟨b,0,none⟩) R R,zi ((h:Nat):Int),zi ((l.length:Nat):Int)])::(b,.cells 3 (R*1) ((buf).map (Value.int .i64)))::H) (fun _ H'=>∃ Hi',qr H' ((b1,.cells 281 1 [zp rb])::(rb,.cells 412 3 [.slice (some ⟨b,0,none⟩) R R,zi ((h:Nat):Int),zi ((l.length:Nat):Int)])::(b,.cells 3 (R*1) ((buf).map (Value.int .i64)))::Hi')∧J l.length Hi'):=by
 have hmost:=hI.most
 have hroom:=hI.room
 refine qd (l:=[.func (.yield lp) #[] #[],zp b1]) Tryz.func442 rfl Tryz.ntmps442 rfl rfl ?_
 refine zo ?_
 refine qf (v:=zp rb) rfl Xb rfl (qh.own (b:=b1) zM rfl) rfl ?_
 refine qB (zc1 rfl) Tryz.call192 rfl (qmv (n:=l.length) (h:=h) (R:=R) (b:=b) zM) ?_
 refine za 3 rfl ?_
 refine qV (X:=(Nat × qe)) [(0,_),(1,_),(5,_)] (fun (x:(Nat × qe))=>[(6,zi (x.1:Int))]) (fun _=>_) (fun (x:(Nat × qe))=>(b1,.cells 281 1 [zp rb])::(rb,.cells 412 3 [.slice (some ⟨b,0,none⟩) R R,zi ((h:Nat):Int),zi ((l.length:Nat):Int)])::(b,.cells 3 (R*1) ((buf).map (Value.int .i64)))::x.2) (fun (x:(Nat × qe))=>x.1≤l.length∧J x.1 x.2) (fun (x:(Nat × qe))=>l.length-x.1) (0,H) ⟨Nat.zero_le _,hJ⟩ (qc rfl (qc rfl (qc rfl (qi _)))) (qc rfl (qi _)) rfl (.refl _) ?_
 rintro ⟨i,Hi⟩ ⟨hi,hJi⟩
 dsimp only at hi hJi ⊢
 simp only [List.cons_append,List.nil_append]
 refine za 4 rfl ?_
 refine qq (p:=(i:Int)<(l.length:Int)) rfl (by simp) (fun q0=>?_) (fun q0=>?_)
 ·skip
  refine za 8 rfl ?_
  obtain ⟨x,hx⟩:∃ x,l[i]?=some x:=⟨_,List.getElem?_eq_getElem zO⟩
  have hbx:=hI.at_ i x hx
  have hbl:=hI.len
  have hpl:(h+i)%R<R:=Nat.mod_lt _ hI.pos
  refine zy [(b1,.cells 281 1 [zp rb]),(rb,.cells 412 3 [.slice (some ⟨b,0,none⟩) R R,zi ((h:Nat):Int),zi ((l.length:Nat):Int)]),(b,.cells 3 (R*1) ((buf).map (Value.int .i64)))] zk ?_
  refine zw [0] rfl rfl ?_
  refine qm 1 rfl zK zK zK rfl rfl (ql (v:=zp rb) rfl Xb rfl (qh.own (b:=b1) zM rfl)) rfl ?_
  refine zw [2,3] rfl rfl ?_
  refine qm 4 rfl zK zK zK rfl rfl (ql (v:=.slice (some ⟨b,0,none⟩) R R) rfl qZ rfl (qh.own (b:=rb) zM rfl)) rfl ?_
  refine qm 5 rfl zK zK zK rfl rfl (ql (v:=zp rb) rfl Xb rfl (qh.own (b:=b1) zM rfl)) rfl ?_
  refine zw [6] rfl rfl ?_
  refine qJ 7 zH zK rfl rfl ?_
  refine qB (zc2 rfl rfl) Tryz.call270 rfl (Ko (i:=i) (n:=l.length) zM hI.pos hroom hI.head zO) ?_
  refine qs (WC_goal ?_)
  refine qm 8 rfl zK zK zK rfl rfl (qU (j:=(h+i)%R) rfl rfl qZ ty3 (by first | rfl | omega) (by first | decide | omega | simp) rfl) rfl ?_
  refine qm 9 rfl zK zK zK rfl rfl (ql (v:=zi x) rfl ty3 rfl (by rw [Nat.mul_one ((h+i)%R)]; exact qh.own (b:=b) zM (by rw [Nat.zero_add,List.getElem?_map,hbx]; rfl))) rfl ?_
  refine qJ 10 zH zK rfl rfl ?_
  refine JP rfl (.cons rfl .nil) rfl (hround i x Hi hx hJi) ?_
  rintro v H' ⟨Hi',hsub,rfl,hJ'⟩
  refine qT hsub ?_
  refine qs (WC_goal (zw [11] rfl rfl (WC_done zH zK (za 4 rfl ?_))))
  refine qF rfl rfl (qM (m:=((i+1:Nat):Int)) (by rw [qW (by omega)]; omega)) rfl ?_
  refine za 2 rfl ?_
  refine qI (i+1,Hi') ⟨by show i+1≤l.length; omega,hJ'⟩ (by show l.length-(i+1)<l.length-i; omega) (qc rfl (qc rfl (qc rfl (qc rfl (qi _))))) rfl (.refl _)
 ·skip
  refine J7 rfl (Zf Tryz.results442 (.nil _) (.refl _) ?_)
  obtain rfl:i=l.length:=by omega
  exact ⟨Hi,.refl _,hJi⟩
theorem qko:qk Tryz.prog w0 413 #[.pointer ad] (H) (fun v H'=>∃ b1,v=.func (.func 442) #[] #[zp b1]∧H'=(b1,.cells 281 1 [.pointer ad])::H):=by
 refine qd (l:=[.pointer ad]) Tryz.func413 rfl Tryz.ntmps413 rfl rfl ?_
 refine zo ?_
 refine qR rfl rfl rfl (fun b1=>?_)
 refine za 3 rfl (qL .nil (.cons rfl .nil) rfl (za 2 rfl (qj Tryz.results413 rfl (.nil _) (.refl _) ?_)))
 exact ⟨b1,rfl,rfl⟩
theorem qha (hI:ZF R l buf h) :qk Tryz.prog w0 366 #[zp rb] ((rb,.cells 412 3 [.slice (some ⟨b,0,none⟩) R R,zi ((h:Nat):Int),zi ((l.length:Nat):Int)])::(b,.cells 3 (R*1) ((buf).map (Value.int .i64)))::H) (fun v H'=>∃ sv XB,v=sv∧zz 3 1 sv l.length (l.map (Value.int .i64)) XB∧H'=XB++((rb,.cells 412 3 [.slice (some ⟨b,0,none⟩) R R,zi ((h:Nat):Int),zi ((l.length:Nat):Int)])::(b,.cells 3 (R*1) ((buf).map (Value.int .i64)))::H)):=by
 have hmost:=hI.most
 have hroom:=hI.room
 refine qd (l:=[zp rb]) Tryz.func366 rfl Tryz.ntmps366 rfl rfl ?_
 refine za 4 rfl ?_
 refine qA (l:=[.slice none 0 0]) qZ rfl rfl (fun b3=>?_)
 refine za 4 rfl (qn (zc1 rfl) Tryz.call413 rfl (qko) ?_)
 rintro v H' ⟨b1,rfl,rfl⟩
 refine za 2 rfl (QE rfl Tryz.call442 ?_)
 intro lp D r hst hpd hps hasg hbody hA
 have hr:=QV hst hpd
 show qk _ _ _ #[_,_] _ _
 refine ((qea (b1:=b1) (H:=(lp,.obj (.loop r))::(D,.obj (.deferred (some [])))::(b3,.cells 63 1 [.slice none 0 0])::H) hI (fun i Hi=>∃ xv XB,zz 3 1 xv i ((l.take i).map (Value.int .i64)) XB∧Hi=(lp,.obj (.loop r))::(D,.obj (.deferred (some [])))::(b3,.cells 63 1 [xv])::(XB++H)) ?_ ⟨_,[],.nil,rfl⟩).hsub zH).mono ?_
 ·intro i z Hi hz hJ
  obtain ⟨xv,XB,hX,rfl⟩:=hJ
  have hil:=(List.getElem?_eq_some_iff.1 hz).1
  refine QB hst hpd hA hps rfl hasg rfl rfl rfl zT ?_
  refine za 3 rfl (JS hst hpd zT hbody (za 2 rfl ?_))
  refine qf (v:=xv) rfl qZ rfl (qh.own (b:=b3) zM rfl) rfl ?_
  refine qH rfl rfl ?_
  refine qv (l:=[zi z]) qZ ty3 (.cons rfl rfl rfl rfl rfl .nil) rfl rfl rfl rfl rfl rfl rfl (fun b10=>?_)
  refine QF (news:=[zi z]) (m:=1) (HB:=XB) (H0:=(b10,.cells 3 1 [zi z])::(b1,.cells 281 1 [zp rb])::(rb,.cells 412 3 [.slice (some ⟨b,0,none⟩) R R,zi ((h:Nat):Int),zi ((l.length:Nat):Int)])::(b,.cells 3 (R*1) ((buf).map (Value.int .i64)))::(lp,.obj (.loop (Loop.at r .busy none)))::(D,.obj (.deferred (some [])))::(b3,.cells 63 1 [xv])::H) rfl rfl qZ ty3 rfl (by decide) hX rfl (Holds.own List.mem_cons_self) rfl (by simp only [maxLen]; omega) (by omega) zH rfl (fun v' HB' hO'=>?_)
  refine qy (l':=[v']) rfl rfl qZ (by obtain ⟨a0,c0',e0,_⟩:=hO'.shape; rw [e0]; rfl) rfl (b:=b3) zM rfl rfl zU ?_
  refine za 2 rfl (Zo zT ?_)
  rw [hr]
  exact ⟨(lp,.obj (.loop r))::(D,.obj (.deferred (some [])))::(b3,.cells 63 1 [v'])::(HB'++H),zH,rfl,v',HB',by rw [List.take_add_one,hz,List.map_append]; exact hO',rfl⟩
 ·intro _ H' hp
  obtain ⟨Hi',hs,xv,XB,hX,rfl⟩:=hp
  rw [List.take_length] at hX
  refine ⟨.ready,none,(b1,.cells 281 1 [zp rb])::(rb,.cells 412 3 [.slice (some ⟨b,0,none⟩) R R,zi ((h:Nat):Int),zi ((l.length:Nat):Int)])::(b,.cells 3 (R*1) ((buf).map (Value.int .i64)))::(D,.obj (.deferred (some [])))::(b3,.cells 63 1 [xv])::(XB++H),by rw [hr]; exact hs.trans zH,by decide,?_⟩
  show W _ _ _ _ _ _ _ _ _
  refine za 2 rfl ?_
  refine qf (v:=xv) rfl qZ rfl (qh.own (b:=b3) zM rfl) rfl ?_
  refine za 2 rfl ?_
  refine qj (H2:=XB++((rb,.cells 412 3 [.slice (some ⟨b,0,none⟩) R R,zi ((h:Nat):Int),zi ((l.length:Nat):Int)])::(b,.cells 3 (R*1) ((buf).map (Value.int .i64)))::H)) Tryz.results366 rfl (.cons zT (.nil _)) zH ?_
  exact ⟨xv,XB,rfl,hX,rfl⟩
theorem qks (hR:Y2 R rb l HB):qk Tryz.prog w0 366 #[zp rb] (HB++H) (fun v H'=>∃ XB,zz 3 1 v l.length (l.map (Value.int .i64)) XB∧H'=XB++(HB++H)):=by
 cases hR with
 | mk hI =>
  refine (qha (H:=H) hI).mono ?_
  rintro v H' ⟨sv,XB,rfl,hX,rfl⟩
  exact ⟨XB,hX,rfl⟩
def Q9 (l:List Int) (id:Int):List Int:=l.filter (fun x=>decide (x≠id))
theorem K8 (h:l[j]?=some x):Q9 (l.take (j+1)) id=Q9 (l.take j) id++(if x=id then [] else [x]):=by
 unfold Q9
 rw [ZR h,List.filter_append]
 congr 1
 by_cases e:x=id
 ·rw [if_pos e,List.filter_cons_of_neg (by simp [e])]; rfl
 ·rw [if_neg e,List.filter_cons_of_pos (by simp [e])]; rfl
theorem KE (h:id ∉ l):Q9 l id=l:=by
 unfold Q9
 rw [List.filter_eq_self]
 intro x hx
 exact decide_eq_true (fun e=>h (e ▸ hx))
theorem qll (l:List Int) (id:Int):(Q9 l id).length≤l.length:=List.length_filter_le _ _
theorem qma {bd:Nat} {i:Int} (hb:(bd,.cells 3 1 [zi id])∈H) :qG Tryz.prog w0 H 407 [zi i,zp bd] (.bool (decide (i=id))):=by
 refine qd Tryz.func407 rfl Tryz.ntmps407 rfl rfl (za 5 rfl ?_)
 refine qf (v:=zi id) rfl ty3 rfl (qh.own hb rfl) rfl ?_
 refine za 3 rfl ?_
 refine qj (H2:=H) Tryz.results407 rfl (.nil _) zH ?_
 exact ⟨rfl,rfl⟩
theorem qkS {bd:Nat} (hl:l.length≤4611686018427387904) (hbd:(bd,.cells 3 1 [zi id])∈H) (hrow:Holds w0 H ad (l.map (Value.int .i64))) :qk Tryz.prog w0 432 #[.slice ad l.length cap,.func (.func 407) #[] #[zp bd]] (H) (fun v H'=>∃ z:Int,v=zi z∧((∃ i:Nat,z=i∧l[i]?=some id∧id ∉ l.take i)∨(z=-1∧id ∉ l))∧H'=H):=by
 refine qd (l:=[.slice ad l.length cap,.func (.func 407) #[] #[zp bd]]) Tryz.func432 rfl Tryz.ntmps432 rfl rfl ?_
 refine za 6 rfl (zY rfl qZ rfl rfl (za 3 rfl ?_))
 refine qV (X:=Nat) [(0,_),(1,_),(7,_)] (fun (i:Nat)=>[(8,zi (i:Int))]) (fun _=>_) (fun (i:Nat)=>H) (fun (i:Nat)=>i≤l.length∧id ∉ l.take i) (fun (i:Nat)=>l.length-i) 0 ⟨Nat.zero_le _,by simp⟩ (qc rfl (qc rfl (qc rfl (qi _)))) (qc rfl (qi _)) rfl zH ?_
 rintro i ⟨hi,hn⟩
 simp only [List.cons_append,List.nil_append]
 refine za 4 rfl ?_
 refine qq (p:=(i:Int)<(l.length:Int)) rfl (by simp) (fun q0=>?_) (fun q0=>?_)
 ·skip
  refine za 8 rfl ?_
  obtain ⟨x,hx⟩:∃ x,l[i]?=some x:=⟨_,List.getElem?_eq_getElem zO⟩
  obtain ⟨q0,p0,rfl,hc⟩:=hrow.at (i:=i) (v:=.int .i64 x) (by rw [List.getElem?_map,hx]; rfl)
  refine za 3 rfl ?_
  refine qN (j:=i) rfl rfl qZ ty3 rfl zO rfl rfl ?_
  refine qf (v:=zi x) rfl ty3 rfl (by rw [Nat.mul_one (i)]; exact hc) rfl ?_
  refine YI (fa:=[]) (ca:=[zp bd]) rfl (.cons rfl .nil) rfl Tryz.call407 rfl (qma (bd:=bd) (id:=id) hbd) ?_
  refine qs ?_
  refine qq (p:=x=id) rfl (by simp) (fun q1=>?_) (fun q1=>?_)
  ·skip
   refine za 4 rfl (qj Tryz.results432 rfl (.nil _) (.refl _) ?_)
   subst q1
   exact ⟨i,rfl,.inl ⟨i,rfl,hx,hn⟩,rfl⟩
  ·skip
   refine za 3 rfl ?_
   refine qF rfl rfl (qM (m:=((i+1:Nat):Int)) (by rw [qW (by omega)]; omega)) rfl ?_
   refine za 2 rfl ?_
   refine qI (i+1) ⟨by omega,by rw [ZR hx,List.mem_append]; exact fun h=>h.elim hn (fun h=>q1 (List.mem_singleton.1 h).symm)⟩ (by omega) (qc rfl (qc rfl (qc rfl (qc rfl (qi _))))) rfl zH
 ·skip
  refine za 4 rfl (qj Tryz.results432 rfl (.nil _) (.refl _) ?_)
  obtain rfl:i=l.length:=by omega
  exact ⟨-1,rfl,.inr ⟨rfl,by rwa [List.take_length] at hn⟩,rfl⟩
end Go.Proofs.YtincjohoncljoaaGreatDoor
