/-
  Own work: contracts of functions that the statement reaches, and plain facts on what they compute; each theorem says its conditions.
-/
import Derived.Test.YtcggkokeggfdkaaGreatDoorKpT2
import Derived.Test.YtcggkokeggfdkaaGreatDoorKpS2
import Derived.Test.YtcggkokeggfdkaaGreatDoorKpS4
import Derived.Test.YtcggkokeggfdkaaGreatDoorKpT1
import Derived.Test.YtcggkokeggfdkaaGreatDoorKpS1
import Derived.Test.YtcggkokeggfdkaaGreatDoorShelf
import Derived.IntWalk
import Derived.WalkSmall
import Derived.Test.YtcggkokeggfdkaaGreatDoorKpA
set_option linter.all false
set_option linter.unusedSimpArgs false
set_option linter.unusedVariables false
set_option maxHeartbeats 16000000
namespace Go.Proofs.YtcggkokeggfdkaaGreatDoor
open Go Go.Sl
variable {w0:World} {H:qg} {x:Ins} {n k cap b o kb:Nat} {l:List Ins} {ad:Option Addr} {s:Bool} {r:Kr}
attribute [local irreducible] W
def Qe (x:Ins) (n k:Nat):Bool :=
 if x.op=64∨x.op=65 then decide (0≤x.off) && decide (x.off<8) else if x.op=66∨x.op=67 then decide (0≤x.off) && decide (x.off<4)
 else decide (cls x.op≠2) || (decide (0≤toV x k) && decide (toV x k<(n:Int)))
def ZT (x:Ins) (n k:Nat) (sleeps:Bool):Int :=
 if (!Qe x n k)=true then 2 else if (decide (x.op=72) && !Q9 x.imm)=true then 4 else if (decide (x.op=72) && decide (x.imm=16) && !sleeps)=true then 17
 else if (decide ((k:Int)=(n:Int)-1) && decide (x.op≠73) && decide (x.op≠32))=true then 10 else 0
theorem qds (hnl:l.length=n) (hk:k<n) (hx:l[k]?=some x) (hrow:qq w0 H ad (qI l)) (hT:zN w0):qR Tryz.prog w0 H 84 [.slice ad n cap,zi (k:Int)] (.bool (Qe x n k)):=by
 have hx':=hx
 obtain ⟨b,o,rfl,hc⟩:=hrow.row cells_len zd hx
 refine qi Tryz.func84 rfl Tryz.ntmps84 rfl rfl (za 6 rfl ?_)
 refine qN (j:=k) rfl rfl q6 zo rfl hk rfl rfl ?_
 refine QJ rfl zo rfl (vs:=[zi x.op,zi x.dst,zi x.src,zi x.off,zi x.imm]) rfl (hc.up (by first | exact qz | (repeat (first | exact qd.refl _ | refine qd.cons zT ?_ | refine qd.app (by repeat (first | exact qf.here _ | apply qf.next | apply qf.app)) ?_ | refine qd.drop ?_ | refine qd.dropS ?_ | exact qd.nil _)))) rfl ?_
 refine qH zo rfl rfl (fun b5=>?_)
 refine qk rfl rfl zo rfl rfl zM (Nat.le_of_ble_eq_true rfl) zF zU (za 4 rfl (qe rfl ty3 rfl (qh.own zM rfl) rfl (za 7 rfl ?_)))
 refine qv (p:=x.op=64) rfl (by simp) (fun c0=>?_) (fun c0=>?_)
 ·skip
  refine za 4 rfl (qe rfl ty3 rfl (qh.own zM rfl) rfl (za 2 rfl ?_))
  apply zj
  iterate 4 exact rfl
  case h1 =>
   intro hg3
   refine za 3 rfl (qe rfl ty3 rfl (qh.own zM rfl) rfl (za 2 rfl ?_))
   exact qO rfl zR
  refine za 2 rfl ?_
  refine qj (H2:=H) Tryz.results84 rfl (.nil _) (by first | exact qz | (repeat (first | exact qd.refl _ | refine qd.cons zT ?_ | refine qd.app (by repeat (first | exact qf.here _ | apply qf.next | apply qf.app)) ?_ | refine qd.drop ?_ | refine qd.dropS ?_ | exact qd.nil _))) ?_
  exact ⟨by unfold Qe toV; repeat (first | rw [if_pos (by omega)] | rw [if_neg (by omega)]),rfl⟩
 ·skip
  refine za 4 rfl ?_
  refine qv (p:=x.op=65) rfl (by simp) (fun c1=>?_) (fun c1=>?_)
  ·skip
   refine za 2 rfl (qe rfl ty3 rfl (qh.own zM rfl) rfl (za 2 rfl ?_))
   apply zj
   iterate 4 exact rfl
   case h1 =>
    intro hg3
    refine za 3 rfl (qe rfl ty3 rfl (qh.own zM rfl) rfl (za 2 rfl ?_))
    exact qO rfl zR
   refine za 2 rfl ?_
   refine qj (H2:=H) Tryz.results84 rfl (.nil _) (by first | exact qz | (repeat (first | exact qd.refl _ | refine qd.cons zT ?_ | refine qd.app (by repeat (first | exact qf.here _ | apply qf.next | apply qf.app)) ?_ | refine qd.drop ?_ | refine qd.dropS ?_ | exact qd.nil _))) ?_
   exact ⟨by unfold Qe toV; repeat (first | rw [if_pos (by omega)] | rw [if_neg (by omega)]),rfl⟩
  ·skip
   refine za 5 rfl ?_
   refine qv (p:=x.op=66) rfl (by simp) (fun c2=>?_) (fun c2=>?_)
   ·skip
    refine za 4 rfl (qe rfl ty3 rfl (qh.own zM rfl) rfl (za 2 rfl ?_))
    apply zj
    iterate 4 exact rfl
    case h1 =>
     intro hg3
     refine za 3 rfl (qe rfl ty3 rfl (qh.own zM rfl) rfl (za 2 rfl ?_))
     exact qO rfl zR
    refine za 2 rfl ?_
    refine qj (H2:=H) Tryz.results84 rfl (.nil _) (by first | exact qz | (repeat (first | exact qd.refl _ | refine qd.cons zT ?_ | refine qd.app (by repeat (first | exact qf.here _ | apply qf.next | apply qf.app)) ?_ | refine qd.drop ?_ | refine qd.dropS ?_ | exact qd.nil _))) ?_
    exact ⟨by unfold Qe toV; repeat (first | rw [if_pos (by omega)] | rw [if_neg (by omega)]),rfl⟩
   ·skip
    refine za 4 rfl ?_
    refine qv (p:=x.op=67) rfl (by simp) (fun c3=>?_) (fun c3=>?_)
    ·skip
     refine za 2 rfl (qe rfl ty3 rfl (qh.own zM rfl) rfl (za 2 rfl ?_))
     apply zj
     iterate 4 exact rfl
     case h1 =>
      intro hg3
      refine za 3 rfl (qe rfl ty3 rfl (qh.own zM rfl) rfl (za 2 rfl ?_))
      exact qO rfl zR
     refine za 2 rfl ?_
     refine qj (H2:=H) Tryz.results84 rfl (.nil _) (by first | exact qz | (repeat (first | exact qd.refl _ | refine qd.cons zT ?_ | refine qd.app (by repeat (first | exact qf.here _ | apply qf.next | apply qf.app)) ?_ | refine qd.drop ?_ | refine qd.dropS ?_ | exact qd.nil _))) ?_
     exact ⟨by unfold Qe toV; repeat (first | rw [if_pos (by omega)] | rw [if_neg (by omega)]),rfl⟩
    ·skip
     refine za 3 rfl (q8 rfl zo rfl zM rfl zF rfl (qM rfl rfl (qB (zc2 rfl rfl) Tryz.call146 rfl hT (YV _ _) (za 4 rfl (qe rfl ty3 rfl (qh.own zM rfl) rfl (qB (zc1 rfl) Tryz.call80 rfl hT (Qs _) (za 2 rfl ?_)))))))
     apply YN
     iterate 4 exact rfl
     case h1 =>
      intro hg4
      refine za 6 rfl ?_
      apply zj
      iterate 4 exact rfl
      case h1 =>
       intro hg7
       refine za 5 rfl (zb rfl q6 rfl rfl (za 2 rfl ?_))
       exact qO rfl zR
      exact qO rfl zR
     refine za 2 rfl ?_
     refine qj (H2:=H) Tryz.results84 rfl (.nil _) (by first | exact qz | (repeat (first | exact qd.refl _ | refine qd.cons zT ?_ | refine qd.app (by repeat (first | exact qf.here _ | apply qf.next | apply qf.app)) ?_ | refine qd.drop ?_ | refine qd.dropS ?_ | exact qd.nil _))) ?_
     exact ⟨by unfold Qe toV; repeat (first | rw [if_pos (by omega)] | rw [if_neg (by omega)]),rfl⟩
theorem qfn {sleeps:Bool} (hnl:l.length=n) (hn:n≤1000000) (hk:k<n) (hx:l[k]?=some x) (hxo:x.Ok) (hrow:qq w0 H ad (qI l)) (hT:zN w0):qR Tryz.prog w0 H 41 [.agg #[.slice ad n cap,.bool sleeps],zi (k:Int)] (zi (ZT x n k sleeps)):=by
 have hx':=hx
 have hrow':=hrow
 obtain ⟨b,o,rfl,hc⟩:=hrow.row cells_len zd hx
 refine qi Tryz.func41 rfl Tryz.ntmps41 rfl rfl (zr ?_)
 refine qS rfl rfl rfl (fun b2=>?_)
 refine za 4 rfl (qe rfl q6 rfl (qh.own zM rfl) rfl (qM rfl rfl ?_))
 refine qN (j:=k) rfl rfl q6 zo rfl hk rfl rfl ?_
 refine QJ rfl zo rfl (vs:=[zi x.op,zi x.dst,zi x.src,zi x.off,zi x.imm]) rfl (hc.up (by first | exact qz | (repeat (first | exact qd.refl _ | refine qd.cons zT ?_ | refine qd.app (by repeat (first | exact qf.here _ | apply qf.next | apply qf.app)) ?_ | refine qd.drop ?_ | refine qd.dropS ?_ | exact qd.nil _)))) rfl ?_
 refine qH zo rfl rfl (fun b5=>?_)
 refine qk rfl rfl zo rfl rfl zM (Nat.le_of_ble_eq_true rfl) zF zU (za 3 rfl (qe rfl ty3 rfl (qh.own zM rfl) rfl (qB (zc1 rfl) Tryz.call83 rfl hT (qau _ hxo.imm) (za 12 rfl (qe rfl q6 rfl (qh.own zM rfl) rfl (qM rfl rfl ?_))))))
 refine q9 (zc2 rfl rfl) Tryz.call84 rfl (qds hnl hk hx' (hrow'.up (by first | exact qz | (repeat (first | exact qd.refl _ | refine qd.cons zT ?_ | refine qd.app (by repeat (first | exact qf.here _ | apply qf.next | apply qf.app)) ?_ | refine qd.drop ?_ | refine qd.dropS ?_ | exact qd.nil _)))) hT) ?_
 refine za 3 rfl ?_
 refine qw rfl (fun c0=>?_) (fun c0=>?_)
 ·skip
  refine za 3 rfl ?_
  refine qj (H2:=H) Tryz.results41 rfl (.nil _) (by first | exact qz | (repeat (first | exact qd.refl _ | refine qd.cons zT ?_ | refine qd.app (by repeat (first | exact qf.here _ | apply qf.next | apply qf.app)) ?_ | refine qd.drop ?_ | refine qd.dropS ?_ | exact qd.nil _))) ?_
  have c0:(!Qe x n k)=true:=c0
  exact ⟨by unfold ZT; rw [if_pos c0],rfl⟩
 ·skip
  refine za 2 rfl (qe rfl ty3 rfl (qh.own zM rfl) rfl (za 2 rfl ?_))
  apply zj
  iterate 4 exact rfl
  case h1 =>
   intro hg3
   refine za 4 rfl ?_
   exact qO rfl zR
  refine za 2 rfl ?_
  refine qw rfl (fun c1=>?_) (fun c1=>?_)
  ·skip
   refine za 3 rfl ?_
   refine qj (H2:=H) Tryz.results41 rfl (.nil _) (by first | exact qz | (repeat (first | exact qd.refl _ | refine qd.cons zT ?_ | refine qd.app (by repeat (first | exact qf.here _ | apply qf.next | apply qf.app)) ?_ | refine qd.drop ?_ | refine qd.dropS ?_ | exact qd.nil _))) ?_
   have c0:(!Qe x n k)=false:=c0
   have c1:(decide (x.op=72) && !Q9 x.imm)=true:=c1
   exact ⟨by unfold ZT; rw [if_neg (by rw [c0]; simp),if_pos c1],rfl⟩
  ·skip
   refine za 2 rfl (qe rfl ty3 rfl (qh.own zM rfl) rfl (za 2 rfl ?_))
   apply zj
   iterate 4 exact rfl
   case h1 =>
    intro hg3
    refine za 3 rfl (qe rfl ty3 rfl (qh.own zM rfl) rfl (za 2 rfl ?_))
    exact qO rfl zR
   refine qM rfl rfl ?_
   apply zj
   iterate 4 exact rfl
   case h1 =>
    intro hg8
    refine za 3 rfl (qe rfl ty4 rfl (qh.own zM rfl) rfl (za 2 rfl ?_))
    exact qO rfl zR
   refine za 2 rfl ?_
   refine qw rfl (fun c2=>?_) (fun c2=>?_)
   ·skip
    refine za 3 rfl ?_
    refine qj (H2:=H) Tryz.results41 rfl (.nil _) (by first | exact qz | (repeat (first | exact qd.refl _ | refine qd.cons zT ?_ | refine qd.app (by repeat (first | exact qf.here _ | apply qf.next | apply qf.app)) ?_ | refine qd.drop ?_ | refine qd.dropS ?_ | exact qd.nil _))) ?_
    have c0:(!Qe x n k)=false:=c0
    have c1:(decide (x.op=72) && !Q9 x.imm)=false:=c1
    have c2:(decide (x.op=72) && decide (x.imm=16) && !sleeps)=true:=c2
    exact ⟨by unfold ZT; rw [if_neg (by rw [c0]; simp),if_neg (by rw [c1]; simp),if_pos c2],rfl⟩
   ·skip
    refine za 3 rfl (qe rfl q6 rfl (qh.own zM rfl) rfl (zb rfl q6 rfl rfl ?_))
    refine qC rfl rfl (Jx (m:=(n:Int)-1) (ZN zO)) rfl ?_
    refine za 2 rfl ?_
    apply zj
    iterate 4 exact rfl
    case h1 =>
     intro hg6
     refine za 3 rfl (qe rfl ty3 rfl (qh.own zM rfl) rfl (za 2 rfl ?_))
     exact qO rfl zR
    refine qM rfl rfl ?_
    apply zj
    iterate 4 exact rfl
    case h1 =>
     intro hg11
     refine za 3 rfl (qe rfl ty3 rfl (qh.own zM rfl) rfl (za 2 rfl ?_))
     exact qO rfl zR
    refine za 2 rfl ?_
    refine qw rfl (fun c3=>?_) (fun c3=>?_)
    ·skip
     refine za 3 rfl ?_
     refine qj (H2:=H) Tryz.results41 rfl (.nil _) (by first | exact qz | (repeat (first | exact qd.refl _ | refine qd.cons zT ?_ | refine qd.app (by repeat (first | exact qf.here _ | apply qf.next | apply qf.app)) ?_ | refine qd.drop ?_ | refine qd.dropS ?_ | exact qd.nil _))) ?_
     have c0:(!Qe x n k)=false:=c0
     have c1:(decide (x.op=72) && !Q9 x.imm)=false:=c1
     have c2:(decide (x.op=72) && decide (x.imm=16) && !sleeps)=false:=c2
     have c3:(decide ((k:Int)=(n:Int)-1) && decide (x.op≠73) && decide (x.op≠32))=true:=c3
     exact ⟨by unfold ZT; rw [if_neg (by rw [c0]; simp),if_neg (by rw [c1]; simp),if_neg (by rw [c2]; simp),if_pos c3],rfl⟩
    ·skip
     refine za 5 rfl ?_
     refine qj (H2:=H) Tryz.results41 rfl (.nil _) (by first | exact qz | (repeat (first | exact qd.refl _ | refine qd.cons zT ?_ | refine qd.app (by repeat (first | exact qf.here _ | apply qf.next | apply qf.app)) ?_ | refine qd.drop ?_ | refine qd.dropS ?_ | exact qd.nil _))) ?_
     have c0:(!Qe x n k)=false:=c0
     have c1:(decide (x.op=72) && !Q9 x.imm)=false:=c1
     have c2:(decide (x.op=72) && decide (x.imm=16) && !sleeps)=false:=c2
     have c3:(decide ((k:Int)=(n:Int)-1) && decide (x.op≠73) && decide (x.op≠32))=false:=c3
     exact ⟨by unfold ZT; rw [if_neg (by rw [c0]; simp),if_neg (by rw [c1]; simp),if_neg (by rw [c2]; simp),if_neg (by rw [c3]; simp)],rfl⟩
def ins0:Ins:=⟨0,0,0,0,0⟩
def zV (l:List Ins) (s:Bool) (j k:Nat):Int :=
 if j=0 then zh (l.getD k ins0) else if j=1 then ZT (l.getD k ins0) l.length k s else bif XR (Qf l) k then 0 else 19
def YI (f:Nat→Int) (n:Nat):Option Nat:=(List.range n).find? fun k=>decide (f k≠0)
def Qm (l:List Ins) (s:Bool):Int × Int :=
 if l.length=0∨64<l.length then (0,8) else match YI (zV l s 0) l.length with
  | some k=>(k,zV l s 0 k)
  | none=>match YI (zV l s 1) l.length with
   | some k=>(k,zV l s 1 k)
   | none=>match YI (zV l s 2) l.length with
    | some k=>(k,zV l s 2 k)
    | none=>(0,0)
theorem qbv {p:Nat→Bool} (hk:k<n) (hp:p k=true) (hb:∀ i,i<k→p i=false):(List.range n).find? p=some k:=by
 rw [List.find?_range_eq_some]
 exact ⟨hp,List.mem_range.2 hk,fun i hi=>by simp [hb i hi]⟩
theorem JH {f:Nat→Int} (hk:k<n) (hp:f k≠0) (hb:∀ i,i<k→f i=0):YI f n=some k:=qbv hk (by simpa using hp) (fun i hi=>by simp [hb i hi])
theorem Qr {f:Nat→Int} (hb:∀ i,i<n→f i=0):YI f n=none:=by
 unfold YI
 rw [List.find?_eq_none]
 intro i hi
 simp [hb i (List.mem_range.1 hi)]
theorem qdf (h:l.length=0∨64<l.length):Qm l s=(0,8):=if_pos h
theorem qbB (h:¬ (l.length=0∨64<l.length)) {j:Nat} (hj:j<3) (hall:∀ j',j'<j→∀ i,i<l.length→zV l s j' i=0) (hk:k<l.length) (hp:zV l s j k≠0) (hb:∀ i,i<k→zV l s j i=0):Qm l s=((k:Int),zV l s j k):=by
 unfold Qm
 rw [if_neg h]
 match j,hj with
 | 0,_=>rw [JH hk hp hb]
 | 1,_=>rw [Qr (hall 0 (by omega)),JH hk hp hb]
 | 2,_=>rw [Qr (hall 0 (by omega)),Qr (hall 1 (by omega)),JH hk hp hb]
theorem qbA (h:¬ (l.length=0∨64<l.length)) (hall:∀ j',j'<3→∀ i,i<l.length→zV l s j' i=0):Qm l s=(0,0):=by
 unfold Qm
 rw [if_neg h,Qr (hall 0 (by omega)),Qr (hall 1 (by omega)),Qr (hall 2 (by omega))]
theorem qcj (h:l[k]?=some x):l.getD k ins0=x:=by simp [List.getD,h]
theorem look0 (h:l[k]?=some x):zV l s 0 k=zh x:=by unfold zV; rw [if_pos rfl,qcj h]
theorem look1 (h:l[k]?=some x):zV l s 1 k=ZT x l.length k s:=by unfold zV; rw [if_neg (by decide),if_pos rfl,qcj h]
theorem qhe:zV l s 2 k=bif XR (Qf l) k then 0 else 19:=by unfold zV; rw [if_neg (by decide),if_neg (by decide)]
theorem qdg (j:Nat) (args:Array Value) (w:World):(callFunc (if j=0 then 39 else if j=1 then 40 else 42) args).run Tryz.prog w=.ok (.enter (if j=0 then 39 else if j=1 then 40 else 42) args) w:=by
 by_cases h:j=0
 ·rw [if_pos h]; exact Tryz.call39 _ _
 ·rw [if_neg h]
  by_cases h1:j=1
  ·rw [if_pos h1]; exact Tryz.call40 _ _
  ·rw [if_neg h1]; exact Tryz.call42 _ _
theorem qfV {b1:Nat} (hl:z7 l) (hn:l.length≤1000000) (hk:k<l.length) (hrow:qq w0 H ad (qI l)) (hcl:zP w0 H b1 0 [.slice ad l.length cap,.bool s]) (hT:zN w0):qR Tryz.prog w0 H 39 [zi (k:Int),zp b1] (zi (zV l s 0 k)):=by
 obtain ⟨x,hx⟩:∃ x,l[k]?=some x:=⟨_,List.getElem?_eq_getElem hk⟩
 obtain ⟨b,o,rfl,hc⟩:=hrow.row cells_len zd hx
 refine qi Tryz.func39 rfl Tryz.ntmps39 rfl rfl (za 5 rfl (qe rfl q6 rfl (hcl 0 _ rfl) rfl (qM rfl rfl ?_)))
 refine qN (j:=k) rfl rfl q6 zo rfl hk rfl rfl ?_
 refine QJ rfl zo rfl (vs:=[zi x.op,zi x.dst,zi x.src,zi x.off,zi x.imm]) rfl hc rfl ?_
 refine qB (zc1 rfl) Tryz.call37 rfl hT (Z8 _) (za 2 rfl ?_)
 refine qj (H2:=H) Tryz.results39 rfl (.nil _) (by first | exact qz | (repeat (first | exact qd.refl _ | refine qd.cons zT ?_ | refine qd.app (by repeat (first | exact qf.here _ | apply qf.next | apply qf.app)) ?_ | refine qd.drop ?_ | refine qd.dropS ?_ | exact qd.nil _))) ?_
 exact ⟨by rw [look0 hx],rfl⟩
theorem qfU {b1:Nat} (hl:z7 l) (hn:l.length≤1000000) (hk:k<l.length) (hrow:qq w0 H ad (qI l)) (hcl:zP w0 H b1 0 [.slice ad l.length cap,.bool s]) (hT:zN w0):qR Tryz.prog w0 H 40 [zi (k:Int),zp b1] (zi (zV l s 1 k)):=by
 obtain ⟨x,hx⟩:∃ x,l[k]?=some x:=⟨_,List.getElem?_eq_getElem hk⟩
 refine qi Tryz.func40 rfl Tryz.ntmps40 rfl rfl (za 4 rfl ?_)
 refine QJ rfl Qp rfl (vs:=[.slice ad l.length cap,.bool s]) rfl hcl rfl ?_
 refine qM rfl rfl (q9 (zc2 rfl rfl) Tryz.call41 rfl (qfn rfl hn hk hx (hl x (List.mem_of_getElem? hx)) hrow hT) (za 2 rfl ?_))
 refine qj (H2:=H) Tryz.results40 rfl (.nil _) (by first | exact qz | (repeat (first | exact qd.refl _ | refine qd.cons zT ?_ | refine qd.app (by repeat (first | exact qf.here _ | apply qf.next | apply qf.app)) ?_ | refine qd.drop ?_ | refine qd.dropS ?_ | exact qd.nil _))) ?_
 exact ⟨by rw [look1 hx],rfl⟩
theorem qfT {b4:Nat} (hcm:qh w0 H b4 0 (zu ((Qf l:Nat):Int))) (hT:zN w0):qR Tryz.prog w0 H 42 [zi (k:Int),zp b4] (zi (zV l s 2 k)):=by
 refine qi Tryz.func42 rfl Tryz.ntmps42 rfl rfl (za 5 rfl (qe rfl qdw rfl hcm rfl (qM rfl rfl (qB (zc2 rfl rfl) Tryz.call43 rfl hT (qhi _ _ (qcQ l)) (za 2 rfl ?_)))))
 refine qw rfl (fun c0=>?_) (fun c0=>?_)
 ·skip
  refine za 3 rfl ?_
  refine qj (H2:=H) Tryz.results42 rfl (.nil _) (by first | exact qz | (repeat (first | exact qd.refl _ | refine qd.cons zT ?_ | refine qd.app (by repeat (first | exact qf.here _ | apply qf.next | apply qf.app)) ?_ | refine qd.drop ?_ | refine qd.dropS ?_ | exact qd.nil _))) ?_
  exact ⟨by rw [qhe,show XR (Qf l) k=false by simpa using c0]; rfl,rfl⟩
 ·skip
  refine za 4 rfl ?_
  refine qj (H2:=H) Tryz.results42 rfl (.nil _) (by first | exact qz | (repeat (first | exact qd.refl _ | refine qd.cons zT ?_ | refine qd.app (by repeat (first | exact qf.here _ | apply qf.next | apply qf.app)) ?_ | refine qd.drop ?_ | refine qd.dropS ?_ | exact qd.nil _))) ?_
  exact ⟨by rw [qhe,show XR (Qf l) k=true by simpa using c0]; rfl,rfl⟩
theorem Xl (hl:z7 l) (hn:l.length≤1000000) (hcap:l.length≤cap) (hrow:qq w0 H ad (qI l)) (hT:zN w0):qR Tryz.prog w0 H 10 [.agg #[.slice ad l.length cap,.bool s]] (.tuple #[zi (Qm l s).1,zi (Qm l s).2]):=by
 refine qi Tryz.func10 rfl Tryz.ntmps10 rfl rfl (zr ?_)
 refine qS rfl rfl rfl (fun b1=>?_)
 refine za 3 rfl ?_
 refine qgN (fun _ _ _ h=>h) ?_
 refine za 3 rfl (qe rfl q6 rfl (qh.own zM rfl) rfl (zb rfl q6 rfl rfl (za 2 rfl ?_)))
 apply YN
 iterate 4 exact rfl
 case h1 =>
  intro hg4
  refine za 3 rfl (qe rfl q6 rfl (qh.own zM rfl) rfl (qr rfl rfl (zb rfl q6 rfl rfl (za 2 rfl ?_))))
  exact qO rfl zR
 refine qA ?_
 refine qv (p:=(l.length:Int)=0∨64<(l.length:Int)) rfl (by simp only [Bool.or_eq_true,decide_eq_true_eq]) (fun c0=>?_) (fun c0=>?_)
 ·skip
  refine za 4 rfl ?_
  refine qF (H2:=H) Tryz.results10 rfl rfl (.nil _) (by first | exact qz | (repeat (first | exact qd.refl _ | refine qd.cons zT ?_ | refine qd.app (by repeat (first | exact qf.here _ | apply qf.next | apply qf.app)) ?_ | refine qd.drop ?_ | refine qd.dropS ?_ | exact qd.nil _))) ?_
  exact ⟨by rw [qdf (by omega)],rfl⟩
 ·skip
  refine za 2 rfl ?_
  refine qH qdw rfl rfl (fun b4=>?_)
  refine q7 rfl rfl qdw rfl rfl zM rfl rfl zU (za 2 rfl (Qh .nil (.cons rfl .nil) rfl (Qh .nil (.cons rfl .nil) rfl (Qh .nil (.cons rfl .nil) rfl ?_))))
  refine qy (l:=[.func (.func 39) #[] #[zp b1],.func (.func 40) #[] #[zp b1],.func (.func 42) #[] #[zp b4]]) qfp ty92 (.cons rfl rfl rfl rfl rfl (.cons rfl rfl rfl rfl rfl (.cons rfl rfl rfl rfl rfl .nil))) rfl rfl rfl rfl rfl rfl rfl (fun b25=>?_)
  refine za 7 rfl (qgS (za 3 rfl (zb rfl qfp rfl rfl (za 3 rfl ?_))))
  refine ZH (X:=Nat × Nat) (fun | (j,_)=>[(1,zp b1),(4,zp b4),(5,.slice (some ⟨b25,0,none⟩) 3 3),(6,zi 0),(7,zi 0),(26,.slice (some ⟨b25,0,none⟩) 3 3),(27,zi 3),(28,zi (j:Int))]) (fun _=>[]) (fun | (_,m)=>(b25,.cells 92 3 [.func (.func 39) #[] #[zp b1],.func (.func 40) #[] #[zp b1],.func (.func 42) #[] #[zp b4]])::(b4,.cells 53 1 [zu ((m:Nat):Int)])::(b1,.cells 39 2 [.slice ad l.length cap,.bool s])::H) (fun | (j,m)=>j≤3∧(j≤2→m=0)∧∀ j',j'<j→∀ i,i<l.length→zV l s j' i=0) (fun | (j,_)=>3-j) (0,0) ⟨by omega,fun _=>rfl,fun j' hj=>absurd hj zO⟩ (qc rfl (qc rfl (qc rfl (qc rfl (qc rfl (qc rfl (qc rfl (qc rfl (qm _))))))))) rfl (by first | exact qz | (repeat (first | exact qd.refl _ | refine qd.cons zT ?_ | refine qd.app (by repeat (first | exact qf.here _ | apply qf.next | apply qf.app)) ?_ | refine qd.drop ?_ | refine qd.dropS ?_ | exact qd.nil _))) ?_
  rintro ⟨j,m⟩ ⟨hj,hm,hall⟩
  simp only
  refine za 4 rfl ?_
  refine qv (p:=(j:Int)<3) rfl (by simp) (fun c1=>?_) (fun c1=>?_)
  ·skip
   refine za 4 rfl ?_
   obtain ⟨fv,hfv,hlook⟩:∃ fv,([.func (.func 39) #[] #[zp b1],.func (.func 40) #[] #[zp b1],.func (.func 42) #[] #[zp b4]]:List Value)[j]?=some fv∧True:=⟨_,List.getElem?_eq_getElem (by show j<3; omega),trivial⟩
   refine qM rfl rfl ?_
   refine qN (j:=j) rfl rfl qfp ty92 rfl zO rfl rfl ?_
   refine qe rfl ty92 rfl (qh.own zM (by rw [Nat.zero_add,Nat.mul_one]; exact hfv)) rfl ?_
   refine za 7 rfl (zb rfl qfp rfl rfl ?_)
   refine qC rfl rfl (Jx (m:=2) (ZN zO)) rfl ?_
   refine za 2 rfl ?_
   refine qgU (p:=(j:Int)=2) [(1,zp b1),(4,zp b4),(5,.slice (some ⟨b25,0,none⟩) 3 3),(6,zi 0),(7,zi 0),(26,.slice (some ⟨b25,0,none⟩) 3 3),(27,zi 3),(28,zi (j:Int)),(8,zi (j:Int)),(9,fv)] ((b25,.cells 92 3 [.func (.func 39) #[] #[zp b1],.func (.func 40) #[] #[zp b1],.func (.func 42) #[] #[zp b4]])::(b4,.cells 53 1 [zu (((bif decide (j=2) then Qf l else 0):Nat):Int)])::(b1,.cells 39 2 [.slice ad l.length cap,.bool s])::H) rfl (by simp) (fun c2=>?_) (fun c2=>?_) ?_
   ·skip
    refine za 2 rfl (qe rfl q6 rfl (qh.own zM rfl) rfl ?_)
    refine q9 (zc1 rfl) Tryz.call44 rfl (qcP l hl zO hcap (hrow.up (by first | exact qz | (repeat (first | exact qd.refl _ | refine qd.cons zT ?_ | refine qd.app (by repeat (first | exact qf.here _ | apply qf.next | apply qf.app)) ?_ | refine qd.drop ?_ | refine qd.dropS ?_ | exact qd.nil _)))) hT) ?_
    refine q7 rfl rfl qdw rfl rfl zM rfl rfl zU (qA ?_)
    refine qaO (qc rfl (qc rfl (qc rfl (qc rfl (qc rfl (qc rfl (qc rfl (qc rfl (qc rfl (qc rfl (qm _))))))))))) (by rw [show decide (j=2)=true from decide_eq_true (by omega)]; exact .refl _)
   ·skip
    refine qfd ?_
    refine qaO (qc rfl (qc rfl (qc rfl (qc rfl (qc rfl (qc rfl (qc rfl (qc rfl (qc rfl (qc rfl (qm _))))))))))) (by rw [show decide (j=2)=false from decide_eq_false (by omega),hm (by omega)]; exact .refl _)
   obtain ⟨m2,hm2e⟩:∃ m2,m2=(bif decide (j=2) then Qf l else 0):=⟨_,rfl⟩
   rw [← hm2e]
   have hm2:j+1≤2→m2=0:=fun h=>by rw [hm2e,decide_eq_false (by omega)]; rfl
   have hm3:j=2→m2=Qf l:=fun h=>by rw [hm2e,decide_eq_true h]; rfl
   refine za 2 rfl (qe rfl q6 rfl (qh.own zM rfl) rfl (zb rfl q6 rfl rfl (za 3 rfl ?_)))
   refine ZH (X:=Nat) (fun k=>[(1,zp b1),(4,zp b4),(5,.slice (some ⟨b25,0,none⟩) 3 3),(6,zi 0),(7,zi 0),(26,.slice (some ⟨b25,0,none⟩) 3 3),(27,zi 3),(8,zi (j:Int)),(9,fv),(28,zi (j:Int)),(43,zi (l.length:Int)),(44,zi (k:Int))]) (fun _=>[]) (fun _=>(b25,.cells 92 3 [.func (.func 39) #[] #[zp b1],.func (.func 40) #[] #[zp b1],.func (.func 42) #[] #[zp b4]])::(b4,.cells 53 1 [zu ((m2:Nat):Int)])::(b1,.cells 39 2 [.slice ad l.length cap,.bool s])::H) (fun k=>k≤l.length∧∀ i,i<k→zV l s j i=0) (fun k=>l.length-k) 0 ⟨by omega,fun i hi=>absurd hi zO⟩ (qc rfl (qc rfl (qc rfl (qc rfl (qc rfl (qc rfl (qc rfl (qc rfl (qc rfl (qc rfl (qc rfl (qc rfl (qm _))))))))))))) rfl (by first | exact qz | (repeat (first | exact qd.refl _ | refine qd.cons zT ?_ | refine qd.app (by repeat (first | exact qf.here _ | apply qf.next | apply qf.app)) ?_ | refine qd.drop ?_ | refine qd.dropS ?_ | exact qd.nil _))) ?_
   rintro k ⟨hk,hno⟩
   refine za 4 rfl ?_
   refine qv (p:=(k:Int)<(l.length:Int)) rfl (by simp) (fun c3=>?_) (fun c3=>?_)
   ·skip
    refine za 10 rfl ?_
    have hkl:k<l.length:=by omega
    have hlk:qR Tryz.prog w0 ((b25,.cells 92 3 [.func (.func 39) #[] #[zp b1],.func (.func 40) #[] #[zp b1],.func (.func 42) #[] #[zp b4]])::(b4,.cells 53 1 [zu ((m2:Nat):Int)])::(b1,.cells 39 2 [.slice ad l.length cap,.bool s])::H) (if j=0 then 39 else if j=1 then 40 else 42) [zi (k:Int),.pointer (some ⟨(if j=2 then b4 else b1),0,none⟩)] (zi (zV l s j k))∧fv=.func (.func (if j=0 then 39 else if j=1 then 40 else 42)) #[] #[.pointer (some ⟨(if j=2 then b4 else b1),0,none⟩)]:=by
     have hcp:zP w0 ((b25,.cells 92 3 [.func (.func 39) #[] #[zp b1],.func (.func 40) #[] #[zp b1],.func (.func 42) #[] #[zp b4]])::(b4,.cells 53 1 [zu ((m2:Nat):Int)])::(b1,.cells 39 2 [.slice ad l.length cap,.bool s])::H) b1 0 [.slice ad l.length cap,.bool s]:=zP.own (e:=39) (tot:=2) zM rfl
     match j,(show j<3 by omega) with
     | 0,_=>exact ⟨qfV hl zO hkl (hrow.up (by first | exact qz | (repeat (first | exact qd.refl _ | refine qd.cons zT ?_ | refine qd.app (by repeat (first | exact qf.here _ | apply qf.next | apply qf.app)) ?_ | refine qd.drop ?_ | refine qd.dropS ?_ | exact qd.nil _)))) hcp hT,(Option.some.inj hfv).symm⟩
     | 1,_=>exact ⟨qfU hl zO hkl (hrow.up (by first | exact qz | (repeat (first | exact qd.refl _ | refine qd.cons zT ?_ | refine qd.app (by repeat (first | exact qf.here _ | apply qf.next | apply qf.app)) ?_ | refine qd.drop ?_ | refine qd.dropS ?_ | exact qd.nil _)))) hcp hT,(Option.some.inj hfv).symm⟩
     | 2,_=>exact ⟨qfT (by rw [← hm3 rfl]; exact qh.own (e:=53) (tot:=1) zM rfl) hT,(Option.some.inj hfv).symm⟩
    obtain ⟨hlk,rfl⟩:=hlk
    refine qaP (fa:=[]) (ca:=[.pointer (some ⟨(if j=2 then b4 else b1),0,none⟩)]) rfl (.cons rfl .nil) rfl (qdg j) rfl hlk ?_
    refine za 6 rfl ?_
    refine qv (p:=zV l s j k≠0) rfl (by simp) (fun c4=>?_) (fun c4=>?_)
    ·skip
     refine za 13 rfl ?_
     refine qF (H2:=H) Tryz.results10 rfl rfl (.nil _) (by first | exact qz | (repeat (first | exact qd.refl _ | refine qd.cons zT ?_ | refine qd.app (by repeat (first | exact qf.here _ | apply qf.next | apply qf.app)) ?_ | refine qd.drop ?_ | refine qd.dropS ?_ | exact qd.nil _))) ?_
     exact ⟨by rw [qbB (by omega) (by omega) hall hkl c4 hno],rfl⟩
    ·skip
     refine za 3 rfl ?_
     refine qC rfl rfl (qX (m:=((k+1:Nat):Int)) ((ZN zO).trans zO)) rfl ?_
     refine za 2 rfl ?_
     refine qW (k+1) ⟨by omega,fun i hi=>by rcases Nat.lt_or_ge i k with h | h; exact hno i h; obtain rfl:i=k:=zO; exact Decidable.not_not.1 c4⟩ zO (qc rfl (qc rfl (qc rfl (qc rfl (qc rfl (qc rfl (qc rfl (qc rfl (qc rfl (qc rfl (qc rfl (qc rfl (qm _))))))))))))) rfl (by first | exact qz | (repeat (first | exact qd.refl _ | refine qd.cons zT ?_ | refine qd.app (by repeat (first | exact qf.here _ | apply qf.next | apply qf.app)) ?_ | refine qd.drop ?_ | refine qd.dropS ?_ | exact qd.nil _)))
   ·skip
    refine za 3 rfl ?_
    refine qC rfl rfl (qX (m:=((j+1:Nat):Int)) ((ZN zO).trans zO)) rfl ?_
    refine za 2 rfl ?_
    refine qW (j+1,m2) ⟨by omega,fun h=>hm2 zO,fun j' hj' i hi=>by rcases Nat.lt_or_ge j' j with h | h; exact hall j' h i hi; obtain rfl:j'=j:=zO; exact hno i zO⟩ (by dsimp only; omega) (qc rfl (qc rfl (qc rfl (qc rfl (qc rfl (qc rfl (qc rfl (qc rfl (qm _))))))))) rfl (by first | exact qz | (repeat (first | exact qd.refl _ | refine qd.cons zT ?_ | refine qd.app (by repeat (first | exact qf.here _ | apply qf.next | apply qf.app)) ?_ | refine qd.drop ?_ | refine qd.dropS ?_ | exact qd.nil _)))
  ·skip
   refine za 7 rfl ?_
   refine qF (H2:=H) Tryz.results10 rfl rfl (.nil _) (by first | exact qz | (repeat (first | exact qd.refl _ | refine qd.cons zT ?_ | refine qd.app (by repeat (first | exact qf.here _ | apply qf.next | apply qf.app)) ?_ | refine qd.drop ?_ | refine qd.dropS ?_ | exact qd.nil _))) ?_
   obtain rfl:j=3:=by omega
   exact ⟨by rw [qbA (by omega) hall],rfl⟩
def QH (x:Ins):List Int:=[x.op%256,x.dst*16+x.src]++(XG x.off 2++XG x.imm 4)
theorem Zp (x:Ins):(QH x).length=8:=rfl
def Zz (l:List Ins):List Int:=l.flatMap QH
theorem qee (l:List Ins) (x:Ins):Zz (l++[x])=Zz l++QH x:=by simp [Zz]
theorem Yi:∀ l:List Ins,(Zz l).length=8*l.length
 | []=>rfl
 | x::l=>by
  show (QH x++Zz l).length=_
  rw [List.length_append,Yi l,Zp,List.length_cons]; omega
def ZE:List Ins→Int
 | []=>0
 | x::l=>if zh x=0 then ZE l else zh x
theorem X5:∀ {l:List Ins} {m:List Ins},ZE l=0→ZE (l++m)=ZE m
 | [],m,_=>rfl
 | x::l,m,h=>by
  unfold ZE at h
  split at h
  ·rename_i h0
   show (if zh x=0 then ZE (l++m) else zh x)=_
   rw [if_pos h0]; exact X5 h
  ·rename_i h0; exact absurd h h0
theorem qcd (h:zh x=0):0≤x.op∧x.op≤73∧0≤x.dst∧x.dst<10∧0≤x.src∧x.src<10∧-32768≤x.off∧x.off<32768∧-2147483648≤x.imm∧x.imm<2147483648:=by
 unfold zh at h
 split at h
 ·cases h
 ·rename_i hc
  split at h
  ·cases h
  ·rename_i hr
   have ho:0≤x.op∧x.op≤73:=by
    unfold cls at hc
    repeat (split at hc; omega)
    exact absurd rfl hc
   simp only [Z5,Bool.or_eq_true,decide_eq_true_eq,not_or,Int.not_lt,Int.not_le] at hr
   omega
theorem or_in:∀ d s:Fin 10,bitsOf .or .i64 ((d.val:Int)*16) (s.val:Int)=(d.val:Int)*16+(s.val:Int):=by decide +kernel
theorem or_ds {d s:Int} (h:0≤d∧d<10∧0≤s∧s<10):bitsOf .or .i64 (d*16) s=d*16+s:=by
 have:=or_in ⟨d.toNat,by omega⟩ ⟨s.toNat,by omega⟩
 simp only at this
 rw [show ((d.toNat:Nat):Int)=d by omega,show ((s.toNat:Nat):Int)=s by omega] at this
 exact this
theorem qcm (hl:l.length≤1000) (hrow:qq w0 H ad (qI l)) (hT:zN w0):qt Tryz.prog w0 8 #[.slice ad l.length cap] (H) (fun v H'=>(ZE l=0∧∃ vb XB,qQ 5 1 vb (8*l.length) ((Zz l).map (Value.int .u8)) XB∧v=.tuple #[vb,zi 0]∧H'=XB++H)∨(ZE l≠0∧v=.tuple #[.slice none 0 0,zi (ZE l)]∧H'=H)):=by
 refine qi (l:=[.slice ad l.length cap]) Tryz.func8 rfl Tryz.ntmps8 rfl rfl ?_
 refine za 10 rfl (zb rfl q6 rfl rfl (za 3 rfl ?_))
 refine z0 (X:=(Nat × Value × qg)) [(8,_),(9,_)] (fun (x:(Nat × Value × qg))=>[(4,x.2.1),(10,zi (x.1:Int))]) (fun _=>_) (fun (x:(Nat × Value × qg))=>x.2.2++H) (fun (x:(Nat × Value × qg))=>x.1≤l.length∧ZE (l.take x.1)=0∧qQ 5 1 x.2.1 (8*x.1) ((Zz (l.take x.1)).map (Value.int .u8)) x.2.2) (fun (x:(Nat × Value × qg))=>l.length-x.1) (0,.slice none 0 0,[]) ⟨Nat.zero_le _,rfl,.nil⟩ (qc rfl (qc rfl (qm _))) (qc rfl (qc rfl (qm _))) rfl (.refl _) ?_
 rintro ⟨i,v,XO⟩ ⟨hi,hb,hO⟩
 dsimp only at hi hb hO ⊢
 simp only [List.cons_append,List.nil_append]
 refine za 4 rfl ?_
 refine qv (p:=(i:Int)<(l.length:Int)) rfl (by simp) (fun q0=>?_) (fun q0=>?_)
 ·skip
  refine za 4 rfl ?_
  obtain ⟨x,hx⟩:∃ x,l[i]?=some x:=⟨_,List.getElem?_eq_getElem zO⟩
  obtain ⟨b,o,rfl,hc⟩:=hrow.row cells_len zd hx
  refine qN (j:=i) rfl rfl q6 zo zO zO rfl rfl ?_
  refine QJ rfl zo rfl (vs:=x.cells) rfl (hc.up zH) rfl ?_
  refine qH (l:=[zi 0,zi 0,zi 0,zi 0,zi 0]) zo rfl rfl (fun b6=>?_)
  refine qk (l':=[zi x.op,zi x.dst,zi x.src,zi x.off,zi x.imm]) rfl rfl zo rfl rfl (b:=b6) zM (by exact Nat.le_refl 5) rfl zU ?_
  refine za 3 rfl ?_
  refine q8 (vs:=[zi x.op,zi x.dst,zi x.src,zi x.off,zi x.imm]) rfl zo rfl (b:=b6) zM rfl rfl rfl ?_
  refine qB (zc1 rfl) Tryz.call37 rfl hT (Z8 x) (za 6 rfl ?_)
  refine qv (p:=zh x≠0) rfl (by simp) (fun q1=>?_) (fun q1=>?_)
  ·skip
   refine za 5 rfl ?_
   refine qF (H2:=H) Tryz.results8 rfl rfl (.nil _) zH ?_
   have hz:zh x≠0:=by simpa using q1
   have hbl:ZE l=zh x:=by
    conv=>lhs; rw [← List.take_append_drop i l]
    rw [X5 hb,List.drop_eq_getElem_cons (by omega:i<l.length)]
    rw [show l[i]=x from (List.getElem?_eq_some_iff.1 hx).2]
    show (if zh x=0 then _ else zh x)=_
    rw [if_neg hz]
   exact .inr ⟨by rw [hbl]; exact hz,by rw [hbl],rfl⟩
  ·skip
   refine za 2 rfl ?_
   have hz:zh x=0:=by simpa using q1
   obtain ⟨k1,k2,k3,k4,k5,k6,k7,k8,k9,k10⟩:=qcd hz
   refine za 2 rfl ?_
   refine qe (v:=zi x.op) rfl ty3 rfl (qh.own (b:=b6) zM rfl) rfl ?_
   refine QU (m:=x.op%256) rfl ty3 ty5 (IntKind.wrap_u8 _) rfl ?_
   refine za 1 rfl ?_
   refine qe (v:=zi x.dst) rfl ty3 rfl (qh.own (b:=b6) zM rfl) rfl ?_
   refine qC rfl rfl (X6 (m:=x.dst*16) (by decide) (ZA (by simp [IntKind.bits]; omega))) rfl ?_
   refine za 1 rfl ?_
   refine qe (v:=zi x.src) rfl ty3 rfl (qh.own (b:=b6) zM rfl) rfl ?_
   refine qC rfl rfl (qbE (m:=x.dst*16+x.src) (or_ds zO)) rfl ?_
   refine QU (m:=x.dst*16+x.src) rfl ty3 ty5 ((IntKind.wrap_u8 _).trans zO) rfl ?_
   refine qy (l:=[.int .u8 (x.op%256),.int .u8 (x.dst*16+x.src)]) Qx ty5 (.cons rfl rfl rfl rfl rfl (.cons rfl rfl rfl rfl rfl .nil)) rfl rfl rfl rfl rfl rfl rfl (fun b30=>?_)
   refine zy (news:=[.int .u8 (x.op%256),.int .u8 (x.dst*16+x.src)]) (m:=2) (HB:=XO) (H0:=(b30,.cells 5 2 [.int .u8 (x.op%256),.int .u8 (x.dst*16+x.src)])::(b6,.cells 45 5 [zi x.op,zi x.dst,zi x.src,zi x.off,zi x.imm])::H) rfl rfl Qx ty5 rfl (by decide) hO rfl (qq.own zM) rfl (by simp only [maxLen]; omega) (by omega) zH rfl (fun v1 X1 hO1=>?_)
   refine za 5 rfl ?_
   refine qe (v:=zi x.off) rfl ty3 rfl (qh.own (b:=b6) zM rfl) rfl ?_
   refine qu (zc2 rfl rfl) Tryz.call38 rfl ((qhd (z:=x.off) (n:=2) zd).hsub (.refl _)) ?_
   rintro wY1 H' ⟨Y1,hY1,rfl⟩
   obtain ⟨adY1,capY1,rfl,-,-⟩:=hY1.shape
   refine zy (news:=(XG x.off 2).map (Value.int .u8)) (m:=2) (HB:=X1) (H0:=Y1++((b30,.cells 5 2 [.int .u8 (x.op%256),.int .u8 (x.dst*16+x.src)])::(b6,.cells 45 5 [zi x.op,zi x.dst,zi x.src,zi x.off,zi x.imm])::H)) rfl rfl Qx ty5 rfl (by decide) hO1 rfl (hY1.toHolds (fun p hp=>List.mem_append_left _ hp)) rfl (by simp only [maxLen]; omega) (by omega) zH rfl (fun v2 X2 hO2=>?_)
   refine za 5 rfl ?_
   refine qe (v:=zi x.imm) rfl ty3 rfl (qh.own (b:=b6) zM rfl) rfl ?_
   refine qu (zc2 rfl rfl) Tryz.call38 rfl ((qhd (z:=x.imm) (n:=4) zd).hsub (.refl _)) ?_
   rintro wY2 H' ⟨Y2,hY2,rfl⟩
   obtain ⟨adY2,capY2,rfl,-,-⟩:=hY2.shape
   refine zy (news:=(XG x.imm 4).map (Value.int .u8)) (m:=4) (HB:=X2) (H0:=Y2++(Y1++((b30,.cells 5 2 [.int .u8 (x.op%256),.int .u8 (x.dst*16+x.src)])::(b6,.cells 45 5 [zi x.op,zi x.dst,zi x.src,zi x.off,zi x.imm])::H))) rfl rfl Qx ty5 rfl (by decide) hO2 rfl (hY2.toHolds (fun p hp=>List.mem_append_left _ hp)) rfl (by simp only [maxLen]; omega) (by omega) zH rfl (fun v3 X3 hO3=>?_)
   refine za 4 rfl ?_
   refine qC rfl rfl (qX (m:=((i+1:Nat):Int)) ((ZA zO).trans zO)) rfl ?_
   refine za 2 rfl ?_
   refine qW (i+1,v3,X3) ⟨by show i+1≤l.length; omega,by show ZE (l.take (i+1))=0; rw [Q2 hx,X5 hb]; show (if zh x=0 then 0 else zh x)=0; rw [if_pos hz],by show qQ 5 1 v3 (8*(i+1)) ((Zz (l.take (i+1))).map (Value.int .u8)) X3; rw [Q2 hx,qee,List.map_append,show 8*(i+1)=8*i+2+2+4 by omega]; have hq:=hO3; rw [List.append_assoc,List.append_assoc,← List.map_append] at hq; exact hq⟩ (by show l.length-(i+1)<l.length-i; omega) (qc rfl (qc rfl (qc rfl (qc rfl (qm _))))) rfl zH
 ·skip
  refine za 6 rfl ?_
  refine qF (H2:=XO++H) Tryz.results8 rfl rfl (.nil _) zH ?_
  obtain rfl:i=l.length:=by omega
  rw [List.take_length] at hb hO
  exact .inl ⟨hb,v,XO,hO,rfl,rfl⟩
theorem qb4 {q:IntKind} {a i:Nat} (hw:∀ z:Nat,z<2 ^ q.bits→q.wrap (z:Int)=(z:Int)) (ha:a<2 ^ i) (hab:a+b*2 ^ i<2 ^ q.bits):bitsOf .or q (a:Int) ((b*2 ^ i:Nat):Int)=((a+b*2 ^ i:Nat):Int):=by
 have h1:(BitVec.ofInt q.bits (a:Int) ||| BitVec.ofInt q.bits ((b*2 ^ i:Nat):Int)).toNat=a+b*2 ^ i:=by
  rw [BitVec.ofInt_natCast,BitVec.ofInt_natCast,BitVec.toNat_or,BitVec.toNat_ofNat,BitVec.toNat_ofNat,Nat.mod_eq_of_lt (by omega),Nat.mod_eq_of_lt (by omega),Nat.or_comm,← Nat.shiftLeft_eq,← Nat.shiftLeft_add_eq_or_of_lt ha,Nat.shiftLeft_eq]; omega
 unfold bitsOf
 simp only
 rw [h1]; exact hw _ hab
theorem w16 (z:Nat) (h:z<65536):IntKind.u16.wrap (z:Int)=(z:Int):=by simp [IntKind.wrap,IntKind.signed,IntKind.bits,IntKind.max]; omega
theorem w32 (z:Nat) (h:z<4294967296):IntKind.u32.wrap (z:Int)=(z:Int):=by simp [IntKind.wrap,IntKind.signed,IntKind.bits,IntKind.max]; omega
theorem and15:∀ b:Fin 256,bitsOf .and .u8 (b.val:Int) 15=((b.val%16:Nat):Int):=by decide +kernel
theorem shr4 (g:Nat):((g:Int)).fdiv (2 ^ (min (4:Int).toNat IntKind.u8.bits))=((g/16:Nat):Int):=by
 rw [show (2:Int) ^ (min (4:Int).toNat IntKind.u8.bits)=16 by decide,Int.fdiv_eq_ediv_of_nonneg _ (by decide)]; omega
def oneI (g:Nat→Nat):Ins:=⟨(g 0:Nat),(g 1/16:Nat),(g 1%16:Nat),IntKind.i16.wrap ((g 2+g 3*2 ^ 8:Nat):Int),IntKind.i32.wrap ((g 4+g 5*2 ^ 8+g 6*2 ^ 16+g 7*2 ^ 24:Nat):Int)⟩
theorem qhY (z:Int):-9223372036854775808≤IntKind.i16.wrap z∧IntKind.i16.wrap z≤9223372036854775807:=by simp [IntKind.wrap,IntKind.signed,IntKind.bits,IntKind.max]; omega
theorem qhX (z:Int):-9223372036854775808≤IntKind.i32.wrap z∧IntKind.i32.wrap z≤9223372036854775807:=by simp [IntKind.wrap,IntKind.signed,IntKind.bits,IntKind.max]; omega
theorem one_q {g:Nat→Nat} (hg:∀ k,g k<256) (hrow:qq w0 H (some ⟨b,o,none⟩) [.int .u8 (g 0:Nat),.int .u8 (g 1:Nat),.int .u8 (g 2:Nat),.int .u8 (g 3:Nat),.int .u8 (g 4:Nat),.int .u8 (g 5:Nat),.int .u8 (g 6:Nat),.int .u8 (g 7:Nat)]) :qR Tryz.prog w0 H 227 [.slice (some ⟨b,o,none⟩) 8 cap] (Ins.val (oneI g)):=by
 have hc:∀ (k:Nat) x,([.int .u8 (g 0:Nat),.int .u8 (g 1:Nat),.int .u8 (g 2:Nat),.int .u8 (g 3:Nat),.int .u8 (g 4:Nat),.int .u8 (g 5:Nat),.int .u8 (g 6:Nat),.int .u8 (g 7:Nat)]:List Value)[k]?=some x→qh w0 H b (o+k) x:=fun k x hx=>by
  obtain ⟨b',o',e,h⟩:=hrow k x hx
  cases e
  exact h
 refine qi Tryz.func227 rfl Tryz.ntmps227 rfl rfl (zr ?_)
 refine qH (l:=[zi 0,zi 0,zi 0,zi 0,zi 0]) zo rfl rfl (fun b2=>?_)
 refine qA (z9 zk zK (zq 1 rfl ?_))
 refine qE (qV (j:=2) rfl rfl Qx ty5 zd zd rfl) rfl ?_
 refine qE (qZ (v:=.int .u8 (g 2:Nat)) rfl ty5 rfl ((hc 2 _ rfl).up zH)) rfl ?_
 refine qE (Qn (m:=((g 2:Nat):Int)) rfl ty5 qdx (w16 _ (by have:=hg 2; omega))) rfl ?_
 refine zq 1 rfl ?_
 refine qE (qV (j:=3) rfl rfl Qx ty5 zd zd rfl) rfl ?_
 refine qE (qZ (v:=.int .u8 (g 3:Nat)) rfl ty5 rfl ((hc 3 _ rfl).up zH)) rfl ?_
 refine qE (Qn (m:=((g 3:Nat):Int)) rfl ty5 qdx (w16 _ (by have:=hg 3; omega))) rfl ?_
 refine qE (Qo rfl rfl (X6 (m:=((g 3*2 ^ 8:Nat):Int)) (by decide) (by rw [show ((g 3:Nat):Int)*2 ^ (min (8:Int).toNat _)=((g 3*2 ^ 8:Nat):Int) by simp [IntKind.bits]]; exact w16 _ (by have:=hg 3; omega)))) rfl ?_
 refine qE (Qo rfl rfl (qbE (m:=((g 2+g 3*2 ^ 8:Nat):Int)) (qb4 (q:=.u16) (fun z h=>w16 z h) (by have:=hg 2; have:=hg 4; have:=hg 5; have:=hg 6; omega) (by simp only [IntKind.bits]; have:=hg 2; have:=hg 3; have:=hg 4; have:=hg 5; have:=hg 6; have:=hg 7; omega)))) rfl ?_
 refine qE (Qn (m:=IntKind.i16.wrap ((g 2+g 3*2 ^ 8:Nat):Int)) rfl qdx qg1 rfl) rfl ?_
 refine zq 1 rfl (ZI (z9 zk zK (zq 1 rfl ?_)))
 refine qE (qV (j:=4) rfl rfl Qx ty5 zd zd rfl) rfl ?_
 refine qE (qZ (v:=.int .u8 (g 4:Nat)) rfl ty5 rfl ((hc 4 _ rfl).up zH)) rfl ?_
 refine qE (Qn (m:=((g 4:Nat):Int)) rfl ty5 K5 (w32 _ (by have:=hg 4; omega))) rfl ?_
 refine zq 1 rfl ?_
 refine qE (qV (j:=5) rfl rfl Qx ty5 zd zd rfl) rfl ?_
 refine qE (qZ (v:=.int .u8 (g 5:Nat)) rfl ty5 rfl ((hc 5 _ rfl).up zH)) rfl ?_
 refine qE (Qn (m:=((g 5:Nat):Int)) rfl ty5 K5 (w32 _ (by have:=hg 5; omega))) rfl ?_
 refine qE (Qo rfl rfl (X6 (m:=((g 5*2 ^ 8:Nat):Int)) (by decide) (by rw [show ((g 5:Nat):Int)*2 ^ (min (8:Int).toNat _)=((g 5*2 ^ 8:Nat):Int) by simp [IntKind.bits]]; exact w32 _ (by have:=hg 5; omega)))) rfl ?_
 refine qE (Qo rfl rfl (qbE (m:=((g 4+g 5*2 ^ 8:Nat):Int)) (qb4 (q:=.u32) (fun z h=>w32 z h) (by have:=hg 2; have:=hg 4; have:=hg 5; have:=hg 6; omega) (by simp only [IntKind.bits]; have:=hg 2; have:=hg 3; have:=hg 4; have:=hg 5; have:=hg 6; have:=hg 7; omega)))) rfl ?_
 refine zq 1 rfl ?_
 refine qE (qV (j:=6) rfl rfl Qx ty5 zd zd rfl) rfl ?_
 refine qE (qZ (v:=.int .u8 (g 6:Nat)) rfl ty5 rfl ((hc 6 _ rfl).up zH)) rfl ?_
 refine qE (Qn (m:=((g 6:Nat):Int)) rfl ty5 K5 (w32 _ (by have:=hg 6; omega))) rfl ?_
 refine qE (Qo rfl rfl (X6 (m:=((g 6*2 ^ 16:Nat):Int)) (by decide) (by rw [show ((g 6:Nat):Int)*2 ^ (min (16:Int).toNat _)=((g 6*2 ^ 16:Nat):Int) by simp [IntKind.bits]]; exact w32 _ (by have:=hg 6; omega)))) rfl ?_
 refine qE (Qo rfl rfl (qbE (m:=((g 4+g 5*2 ^ 8+g 6*2 ^ 16:Nat):Int)) (qb4 (q:=.u32) (fun z h=>w32 z h) (by have:=hg 2; have:=hg 4; have:=hg 5; have:=hg 6; omega) (by simp only [IntKind.bits]; have:=hg 2; have:=hg 3; have:=hg 4; have:=hg 5; have:=hg 6; have:=hg 7; omega)))) rfl ?_
 refine zq 1 rfl ?_
 refine qE (qV (j:=7) rfl rfl Qx ty5 zd zd rfl) rfl ?_
 refine qE (qZ (v:=.int .u8 (g 7:Nat)) rfl ty5 rfl ((hc 7 _ rfl).up zH)) rfl ?_
 refine qE (Qn (m:=((g 7:Nat):Int)) rfl ty5 K5 (w32 _ (by have:=hg 7; omega))) rfl ?_
 refine qE (Qo rfl rfl (X6 (m:=((g 7*2 ^ 24:Nat):Int)) (by decide) (by rw [show ((g 7:Nat):Int)*2 ^ (min (24:Int).toNat _)=((g 7*2 ^ 24:Nat):Int) by simp [IntKind.bits]]; exact w32 _ (by have:=hg 7; omega)))) rfl ?_
 refine qE (Qo rfl rfl (qbE (m:=((g 4+g 5*2 ^ 8+g 6*2 ^ 16+g 7*2 ^ 24:Nat):Int)) (qb4 (q:=.u32) (fun z h=>w32 z h) (by have:=hg 2; have:=hg 4; have:=hg 5; have:=hg 6; omega) (by simp only [IntKind.bits]; have:=hg 2; have:=hg 3; have:=hg 4; have:=hg 5; have:=hg 6; have:=hg 7; omega)))) rfl ?_
 refine qE (Qn (m:=IntKind.i32.wrap ((g 4+g 5*2 ^ 8+g 6*2 ^ 16+g 7*2 ^ 24:Nat):Int)) rfl K5 ty21 rfl) rfl ?_
 refine zq 1 rfl (ZI (qcs ?_))
 refine qbN H zk ?_
 refine zw [0] rfl rfl ?_
 refine zg 1 rfl zK zK zK rfl rfl (qV (j:=0) rfl rfl Qx ty5 zd zd rfl) rfl ?_
 refine zg 2 rfl zK zK zK rfl rfl (qZ (v:=.int .u8 (g 0:Nat)) rfl ty5 rfl (hc 0 _ rfl)) rfl ?_
 refine zg 3 rfl zK zK zK rfl rfl (Qn (m:=((g 0:Nat):Int)) rfl ty5 ty3 (ZA (by have:=hg 0; omega))) rfl ?_
 refine zw [4] rfl rfl ?_
 refine zg 5 rfl zK zK zK rfl rfl (qV (j:=1) rfl rfl Qx ty5 zd zd rfl) rfl ?_
 refine zg 6 rfl zK zK zK rfl rfl (qZ (v:=.int .u8 (g 1:Nat)) rfl ty5 rfl (hc 1 _ rfl)) rfl ?_
 refine zg 7 rfl zK zK zK rfl rfl (Qo rfl rfl (qeY (m:=((g 1/16:Nat):Int)) zd (shr4 _))) rfl ?_
 refine zg 8 rfl zK zK zK rfl rfl (Qn (m:=((g 1/16:Nat):Int)) rfl ty5 ty3 (ZA (by have:=hg 1; omega))) rfl ?_
 refine zw [9] rfl rfl ?_
 refine zg 10 rfl zK zK zK rfl rfl (qV (j:=1) rfl rfl Qx ty5 zd zd rfl) rfl ?_
 refine zg 11 rfl zK zK zK rfl rfl (qZ (v:=.int .u8 (g 1:Nat)) rfl ty5 rfl (hc 1 _ rfl)) rfl ?_
 refine zg 12 rfl zK zK zK rfl rfl (Qo rfl rfl (qe3 (m:=((g 1%16:Nat):Int)) (and15 ⟨g 1,hg 1⟩))) rfl ?_
 refine zg 13 rfl zK zK zK rfl rfl (Qn (m:=((g 1%16:Nat):Int)) rfl ty5 ty3 (ZA zO)) rfl ?_
 refine zw [14] rfl rfl ?_
 refine zg 15 rfl zK zK zK rfl rfl (Qn (m:=IntKind.i16.wrap ((g 2+g 3*2 ^ 8:Nat):Int)) rfl qg1 ty3 (ZA (qhY _))) rfl ?_
 refine zw [16] rfl rfl ?_
 refine zg 17 rfl zK zK zK rfl rfl (Qn (m:=IntKind.i32.wrap ((g 4+g 5*2 ^ 8+g 6*2 ^ 16+g 7*2 ^ 24:Nat):Int)) rfl ty21 ty3 (ZA (qhX _))) rfl ?_
 refine zg 18 rfl zK zK zK rfl rfl (qgL (l:=[zi (g 0:Nat),zi (g 1/16:Nat),zi (g 1%16:Nat),zi (IntKind.i16.wrap ((g 2+g 3*2 ^ 8:Nat):Int)),zi (IntKind.i32.wrap ((g 4+g 5*2 ^ 8+g 6*2 ^ 16+g 7*2 ^ 24:Nat):Int))]) zo pl45 (.cons rfl rfl rfl rfl rfl (.cons rfl rfl rfl rfl rfl (.cons rfl rfl rfl rfl rfl (.cons rfl rfl rfl rfl rfl (.cons rfl rfl rfl rfl rfl .nil))))) rfl zk) rfl ?_
 refine YQ 19 zH zK rfl rfl ?_
 refine qk (l':=[zi (g 0:Nat),zi (g 1/16:Nat),zi (g 1%16:Nat),zi (IntKind.i16.wrap ((g 2+g 3*2 ^ 8:Nat):Int)),zi (IntKind.i32.wrap ((g 4+g 5*2 ^ 8+g 6*2 ^ 16+g 7*2 ^ 24:Nat):Int))]) rfl rfl zo rfl rfl (b:=b2) zM (by exact Nat.le_refl 5) rfl zU ?_
 refine qA (Zc (Yx zH zK ?_))
 refine zt (H2:=H) Tryz.results227 rfl (.nil _) zo rfl zM rfl zH ?_
 exact ⟨rfl,rfl⟩
def gOf (l:List Int) (k:Nat):Nat:=(l.getD k 0).toNat
theorem iw16 (z:Int):IntKind.i16.wrap z=(z+32768)%65536-32768:=by simp [IntKind.wrap,IntKind.signed,IntKind.bits,IntKind.max]; omega
theorem iw32 (z:Int):IntKind.i32.wrap z=(z+2147483648)%4294967296-2147483648:=by simp [IntKind.wrap,IntKind.signed,IntKind.bits,IntKind.max]; omega
theorem KQ (x:Ins):QH x=[x.op%256,x.dst*16+x.src,x.off%256,x.off/256%256,x.imm%256,x.imm/256%256,x.imm/256/256%256,x.imm/256/256/256%256]:=rfl
theorem qdV (h:zh x=0):oneI (gOf (QH x))=x:=by
 obtain ⟨k1,k2,k3,k4,k5,k6,k7,k8,k9,k10⟩:=qcd h
 obtain ⟨op,dst,src,off,imm⟩:=x
 simp only at k1 k2 k3 k4 k5 k6 k7 k8 k9 k10
 simp only [oneI,gOf,KQ,List.getD_cons_zero,List.getD_cons_succ,iw16,iw32,Ins.mk.injEq]
 refine ⟨?_,?_,?_,?_,?_⟩ <;> omega
theorem qh0 (h:zh x=0) (k:Nat):gOf (QH x) k<256:=by
 obtain ⟨k1,k2,k3,k4,k5,k6,k7,k8,k9,k10⟩:=qcd h
 rw [KQ]
 unfold gOf
 match k with
 | 0 | 1 | 2 | 3 | 4 | 5 | 6 | 7=>simp only [List.getD_cons_zero,List.getD_cons_succ]; omega
 | k+8=>simp
theorem row8 (h:zh x=0):(QH x).map (Value.int .u8)=[.int .u8 (gOf (QH x) 0:Nat),.int .u8 (gOf (QH x) 1:Nat),.int .u8 (gOf (QH x) 2:Nat),.int .u8 (gOf (QH x) 3:Nat),.int .u8 (gOf (QH x) 4:Nat),.int .u8 (gOf (QH x) 5:Nat),.int .u8 (gOf (QH x) 6:Nat),.int .u8 (gOf (QH x) 7:Nat)]:=by
 obtain ⟨k1,k2,k3,k4,k5,k6,k7,k8,k9,k10⟩:=qcd h
 rw [KQ]
 simp only [gOf,List.getD_cons_zero,List.getD_cons_succ,List.map_cons,List.map_nil,List.cons.injEq,Value.int.injEq,true_and,and_true]
 refine ⟨?_,?_,?_,?_,?_,?_,?_,?_⟩ <;> omega
theorem qcp:∀ {l:List Ins} {i:Nat} {x:Ins},ZE l=0→l[i]?=some x→zh x=0
 | y::l,0,x,h,hx=>by
  cases hx
  unfold ZE at h
  split at h
  ·assumption
  ·rename_i h0; exact absurd h h0
 | y::l,i+1,x,h,hx=>by
  unfold ZE at h
  split at h
  ·exact qcp h hx
  ·rename_i h0; exact absurd h h0
theorem qfK (hl:l.length≤1000) (hb:ZE l=0) (hcap:8*l.length≤cap) (hrow:qq w0 H (some ⟨b,o,none⟩) ((Zz l).map (Value.int .u8))) (hT:zN w0):qt Tryz.prog w0 161 #[.slice (some ⟨b,o,none⟩) (8*l.length) cap] (H) (fun v H'=>∃ va XA,qQ 45 5 va l.length (qI l) XA∧v=.tuple #[va,zi 0,zi 0]∧H'=XA++H):=by
 refine qi (l:=[.slice (some ⟨b,o,none⟩) (8*l.length) cap]) Tryz.func161 rfl Tryz.ntmps161 rfl rfl ?_
 refine za 10 rfl ?_
 refine z0 (X:=(Nat × Nat × Value × qg)) [] (fun (x:(Nat × Nat × Value × qg))=>[(0,.slice (some ⟨b,x.2.1,none⟩) (8*l.length-8*x.1) (cap-8*x.1)),(5,x.2.2.1)]) (fun _=>_) (fun (x:(Nat × Nat × Value × qg))=>x.2.2.2++H) (fun (x:(Nat × Nat × Value × qg))=>x.1≤l.length∧qq w0 H (some ⟨b,x.2.1,none⟩) ((Zz (l.drop x.1)).map (Value.int .u8))∧qQ 45 5 x.2.2.1 x.1 (qI (l.take x.1)) x.2.2.2) (fun (x:(Nat × Nat × Value × qg))=>l.length-x.1) (0,o,.slice none 0 0,[]) ⟨Nat.zero_le _,hrow,.nil⟩ (qm _) (qc rfl (qc rfl (qm _))) rfl (.refl _) ?_
 rintro ⟨i,o1,v,XA⟩ ⟨hi,hr,hO⟩
 dsimp only at hi hr hO ⊢
 simp only [List.cons_append,List.nil_append]
 refine za 3 rfl (zb rfl Qx rfl rfl (za 2 rfl ?_))
 refine qv (p:=(8:Int)≤((8*l.length-8*i:Nat):Int)) rfl (by simp) (fun q0=>?_) (fun q0=>?_)
 ·skip
  refine za 3 rfl ?_
  obtain ⟨x,hx⟩:∃ x,l[i]?=some x:=⟨_,List.getElem?_eq_getElem zO⟩
  have hz:=qcp hb hx
  have hdr:Zz (l.drop i)=QH x++Zz (l.drop (i+1)):=by
   rw [List.drop_eq_getElem_cons (by omega:i<l.length),show l[i]=x from (List.getElem?_eq_some_iff.1 hx).2]; rfl
  rw [hdr,List.map_append] at hr
  have hr8:qq w0 H (some ⟨b,o1,none⟩) [.int .u8 (gOf (QH x) 0:Nat),.int .u8 (gOf (QH x) 1:Nat),.int .u8 (gOf (QH x) 2:Nat),.int .u8 (gOf (QH x) 3:Nat),.int .u8 (gOf (QH x) 4:Nat),.int .u8 (gOf (QH x) 5:Nat),.int .u8 (gOf (QH x) 6:Nat),.int .u8 (gOf (QH x) 7:Nat)]:=by
   have h8:=hr.take 8
   rw [List.take_append_of_le_length (by rw [List.length_map,Zp]; decide),List.take_of_length_le (by rw [List.length_map,Zp]; decide),row8 hz] at h8
   exact h8
  have hone:=one_q (cap:=8) (qh0 hz) (hr8.up (show qd (XA++H) H from .dropS (.refl _)))
  rw [qdV hz] at hone
  have hchk:=Z8 x
  rw [hz] at hchk
  refine qM rfl rfl ?_
  refine qdm (hh:=8) (m:=8) rfl Qx ty5 rfl rfl zd zO rfl ?_
  refine q9 (zc1 rfl) Tryz.call227 rfl hone ?_
  refine qH (l:=[zi 0,zi 0,zi 0,zi 0,zi 0]) zo rfl rfl (fun b6=>?_)
  refine qk (l':=[zi x.op,zi x.dst,zi x.src,zi x.off,zi x.imm]) rfl rfl zo rfl rfl (b:=b6) zM (by exact Nat.le_refl 5) rfl zU ?_
  refine za 3 rfl ?_
  refine q8 (vs:=[zi x.op,zi x.dst,zi x.src,zi x.off,zi x.imm]) rfl zo rfl (b:=b6) zM rfl rfl rfl ?_
  refine qB (zc1 rfl) Tryz.call37 rfl hT hchk (za 10 rfl ?_)
  refine q8 (vs:=[zi x.op,zi x.dst,zi x.src,zi x.off,zi x.imm]) rfl zo rfl (b:=b6) zM rfl rfl rfl ?_
  refine qy (l:=[zi x.op,zi x.dst,zi x.src,zi x.off,zi x.imm]) q6 zo (.cons rfl rfl rfl rfl rfl .nil) rfl rfl rfl rfl rfl rfl rfl (fun b23=>?_)
  refine zy (news:=x.cells) (m:=1) (HB:=XA) (H0:=(b23,.cells 45 5 [zi x.op,zi x.dst,zi x.src,zi x.off,zi x.imm])::(b6,.cells 45 5 [zi x.op,zi x.dst,zi x.src,zi x.off,zi x.imm])::H) rfl rfl q6 zo rfl (by decide) hO rfl (qq.own zM) rfl (by simp only [maxLen]; omega) (by omega) zH rfl (fun v' X' hO'=>?_)
  refine za 4 rfl ?_
  refine qgM (l:=8) (hh:=8*l.length-8*i) rfl Qx ty5 ⟨_,rfl⟩ rfl zO zO rfl (fun o2 ho2=>?_)
  rw [Nat.mul_one] at ho2
  rw [show 8*l.length-8*i-8=8*l.length-8*(i+1) by omega,show cap-8*i-8=cap-8*(i+1) by omega]
  have hnext:qq w0 H (some ⟨b,o2,none⟩) ((Zz (l.drop (i+1))).map (Value.int .u8)):=by
   have hd:=hr.drop (o':=o2) (m:=8) (cap:=cap-8*i) (by rw [List.length_append,List.length_map,List.length_map,Zp,Yi,List.length_drop]; omega) ho2
   rw [List.drop_append_of_le_length (by rw [List.length_map,Zp]; decide),List.drop_of_length_le (by rw [List.length_map,Zp]; decide),List.nil_append] at hd
   exact hd
  refine za 3 rfl ?_
  refine qW (i+1,o2,v',X') ⟨by show i+1≤l.length; omega,by show qq w0 H (some ⟨b,o2,none⟩) ((Zz (l.drop (i+1))).map (Value.int .u8)); exact hnext,by show qQ 45 5 v' (i+1) (qI (l.take (i+1))) X'; rw [Q2 hx,Jv]; exact hO'⟩ (by show l.length-(i+1)<l.length-i; omega) (qc rfl (qc rfl (qm _))) rfl zH
 ·skip
  refine za 4 rfl (zb rfl Qx rfl rfl (za 1 rfl ?_))
  rw [decide_eq_false (by omega)]
  refine za 9 rfl ?_
  refine KX (H2:=XA++H) Tryz.results161 rfl rfl rfl (.nil _) zH ?_
  obtain rfl:i=l.length:=by omega
  rw [List.take_length] at hO
  exact ⟨v,XA,hO,rfl,rfl⟩
def Kr.setP (r:Kr) (i pb:Nat):Kr:={ r with P:=r.P.set i (some pb) }
theorem Kr.Ok.setP (h:r.Ok) (i pb:Nat):(r.setP i pb).Ok:=⟨by show (r.P.set i (some pb)).length=16; rw [List.length_set]; exact h.p,h.c⟩
theorem qfY {i:Nat} {p:Option Nat} (hi:r.P[i]?=some p) (pb:Nat):(knC r).set (2+i) (zp pb)=knC (r.setP i pb):=by
 have hl:=(List.getElem?_eq_some_iff.1 hi).1
 unfold knC Kr.setP
 rw [show 2+i=i+1+1 by omega,List.set_cons_succ,List.set_cons_succ,List.set_append_left _ _ (by rw [List.length_map]; exact hl)]
 show _=.pointer (some ⟨r.clk,0,none⟩)::.pointer (some ⟨r.lf,0,none⟩)::((r.P.set i (some pb)).map ptV++_)
 rw [List.map_set]; rfl
set_option maxRecDepth 100000
theorem qf3 {sl:Bool} (hr:r.Ok) (h0:r.P[0]?=some none) (hl:l.length≤1000) (hi:z7 l) (hb:ZE l=0) (hcap:8*l.length≤cap) (hrow:qq w0 H (some ⟨b,o,none⟩) ((Zz l).map (Value.int .u8))) (hT:zN w0):qt Tryz.prog w0 101 #[zp kb,.bool sl,.slice (some ⟨b,o,none⟩) (8*l.length) cap] ((kb,.cells 113 57 (knC r))::H) (fun v H'=>((Qm l sl).2≠0∧v=.tuple #[zu 0,zi (Qm l sl).2]∧H'=(kb,.cells 113 57 (knC r))::H)∨((Qm l sl).2=0∧∃ pb ada capa XA,qQ 45 5 (.slice ada l.length capa) l.length (qI l) XA∧v=.tuple #[zu 0,zi 0]∧H'=(kb,.cells 113 57 (knC (r.setP 0 pb)))::((pb,.cells 39 2 [.slice ada l.length capa,.bool sl])::(XA++H)))):=by
 refine qi (l:=[zp kb,.bool sl,.slice (some ⟨b,o,none⟩) (8*l.length) cap]) Tryz.func101 rfl Tryz.ntmps101 rfl rfl ?_
 refine za 6 rfl ?_
 refine qu (zc1 rfl) Tryz.call161 rfl ((qfK (H:=(kb,.cells 113 57 (knC r))::H) hl hb hcap (hrow.up zH) hT).hsub (.refl _)) ?_
 rintro v H' ⟨va,XA,hO,rfl,rfl⟩
 obtain ⟨ada,capa,rfl,hca,-⟩:=hO.shape
 refine za 18 rfl ?_
 refine ql (l:=[.slice ada l.length capa,.bool sl]) Qp qfJ (.cons rfl rfl rfl rfl rfl (.cons rfl rfl rfl rfl rfl .nil)) rfl rfl rfl ?_
 refine qH (l:=[.slice none 0 0,.bool false]) Qp rfl rfl (fun b11=>?_)
 refine qk (l':=[.slice ada l.length capa,.bool sl]) rfl rfl Qp rfl rfl (b:=b11) zM (by exact Nat.le_refl 2) rfl zU ?_
 refine za 3 rfl ?_
 refine q8 (vs:=[.slice ada l.length capa,.bool sl]) rfl Qp rfl (b:=b11) zM rfl rfl rfl ?_
 refine q9 (zc1 rfl) Tryz.call10 rfl (Xl hi zO hca (hO.toHolds (fun p hp=>List.mem_cons_of_mem _ (List.mem_append_left _ hp))) hT) ?_
 refine za 10 rfl ?_
 refine qv (p:=(Qm l sl).2≠0) rfl (by simp) (fun c0=>?_) (fun c0=>?_)
 ·skip
  refine za 5 rfl ?_
  refine qF (H2:=(kb,.cells 113 57 (knC r))::H) Tryz.results101 rfl rfl (.nil _) zH ?_
  exact .inl ⟨c0,rfl,rfl⟩
 ·skip
  refine za 5 rfl ?_
  refine W_x (JO (b:=kb) (o:=2) (l:=0) (hh:=16) rfl Js QD rfl rfl zd zd zd) (fun _ h=>by cases h) rfl ?_
  have hix:=qeb (cap:=16) (qd8 (w0:=w0) (H:=(b11,.cells 39 2 [.slice ada l.length capa,.bool sl])::(XA++((kb,.cells 113 57 (knC r))::H))) (kb:=kb) (r:=r) (List.mem_cons_of_mem _ (List.mem_append_right _ List.mem_cons_self))) (by rw [hr.p]; decide)
  rw [hr.p,Xh h0 (fun j p hj=>absurd hj (Nat.not_lt_zero _))] at hix
  refine q9 (zc2 rfl rfl) Tryz.call162 rfl hix (za 14 rfl ?_)
  refine zn (j:=0) rfl rfl Js QD (by first | rfl | omega) (by first | decide | omega | simp) rfl rfl ?_
  refine q7 (l':=knC (r.setP 0 b11)) rfl rfl QD rfl rfl (b:=kb) zM (qb9 hr zd) (qfY (i:=0) h0 b11) zU ?_
  refine za 3 rfl (QU rfl ty3 ZQ rfl rfl (za 3 rfl ?_))
  refine qF (H2:=(kb,.cells 113 57 (knC (r.setP 0 b11)))::((b11,.cells 39 2 [.slice ada l.length capa,.bool sl])::(XA++H))) Tryz.results101 rfl rfl (.nil _) zH ?_
  exact .inr ⟨Decidable.not_not.1 c0,b11,ada,capa,XA,hO,rfl,rfl⟩
def Ev.at_ (e:Ev) (now:Nat):Ev:={ e with tick:=(now:Int) }
set_option maxRecDepth 100000
theorem KN {L:List Ev} {XB:qg} {e:Ev} {now:Nat} (hr:r.Ok) (hO:qQ 91 5 r.lv (L).length ((L).flatMap evC) XB) (hL:L.length≤4096) (hlo:0≤r.lost∧r.lost≤1000000000) (hck:(r.clk,.cells 211 1 [zu ((now:Nat):Int)])∈H) (hrow:qq w0 H ad ([e].flatMap evC)) :qt Tryz.prog w0 47 #[zp kb,.slice ad 1 cap] ((kb,.cells 113 57 (knC r))::(XB++H)) (fun v H'=>∃ lv XB',qQ 91 5 lv ((QF L r.lost (e.at_ now)).1).length (((QF L r.lost (e.at_ now)).1).flatMap evC) XB'∧H'=(kb,.cells 113 57 (knC (r.lg lv (QF L r.lost (e.at_ now)).2)))::(XB'++H)):=by
 refine qi (l:=[zp kb,.slice ad 1 cap]) Tryz.func47 rfl Tryz.ntmps47 rfl rfl ?_
 refine za 2 rfl (zb rfl Zo rfl rfl (za 3 rfl ?_))
 refine z0 (X:=(Nat × Value × Int × qg × List Ev)) [(0,_),(6,_),(7,_)] (fun (z:(Nat × Value × Int × qg × List Ev))=>[(8,zi (z.1:Int))]) (fun _=>_) (fun (z:(Nat × Value × Int × qg × List Ev))=>(kb,.cells 113 57 (knC (r.lg z.2.1 z.2.2.1)))::(z.2.2.2.1++H)) (fun (z:(Nat × Value × Int × qg × List Ev))=>z.1≤1∧qQ 91 5 z.2.1 (z.2.2.2.2).length ((z.2.2.2.2).flatMap evC) z.2.2.2.1∧(z.1=0→z=(0,r.lv,r.lost,XB,L))∧(z.1=1→(z.2.2.2.2,z.2.2.1)=QF L r.lost (e.at_ now))) (fun (z:(Nat × Value × Int × qg × List Ev))=>1-z.1) (0,r.lv,r.lost,XB,L) ⟨Nat.zero_le _,hO,fun _=>rfl,fun h=>(by cases h)⟩ (qc rfl (qc rfl (qc rfl (qm _)))) (qc rfl (qm _)) rfl zH ?_
 rintro ⟨i,v1,lost1,XB1,L1⟩ ⟨hi,hO1,h0,h1⟩
 dsimp only at hi hO1 h0 h1 ⊢
 simp only [List.cons_append,List.nil_append]
 refine za 4 rfl ?_
 refine qv (p:=i<1) rfl (by rw [decide_eq_true_eq]; omega) (fun q0=>?_) (fun q0=>?_)
 ·skip
  refine za 4 rfl ?_
  obtain rfl:i=0:=by omega
  have e0:=h0 rfl
  simp only [Prod.mk.injEq,true_and] at e0
  obtain ⟨rfl,rfl,rfl,rfl⟩:r.lv=v1∧r.lost=lost1∧XB=XB1∧L=L1:=⟨e0.1.symm,e0.2.1.symm,e0.2.2.1.symm,e0.2.2.2.symm⟩
  obtain ⟨qa,pa,had,hca⟩:=hrow.row (f:=evC) (l:=[e]) (i:=0) (x:=e) qcl zd rfl
  subst had
  rw [Kr.lg_self]
  refine qN (j:=0) rfl rfl Zo QZ rfl zd rfl rfl ?_
  refine QJ (vs:=evC e) rfl QZ rfl rfl ((hca.up zH)) rfl ?_
  refine qH (l:=evC ⟨0,0,0,0,0⟩) QZ rfl rfl (fun b5=>?_)
  refine qk (l':=evC e) rfl rfl QZ rfl rfl (b:=b5) zM (by exact Nat.le_refl 5) rfl zU ?_
  refine za 5 rfl ?_
  refine qe (v:=.pointer (some ⟨r.clk,0,none⟩)) rfl qdA rfl (qh.own (b:=kb) zM rfl) rfl ?_
  refine q9 (zc1 rfl) Tryz.call53 rfl (qh8 (now:=now) (List.mem_cons_of_mem _ (List.mem_cons_of_mem _ (List.mem_append_right _ hck)))) ?_
  refine za 1 rfl ?_
  refine q7 (l':=evC (e.at_ now)) rfl rfl ZQ rfl rfl (b:=b5) zM rfl rfl zU ?_
  refine qA ?_
  refine qbN [(b5,.cells 91 5 (evC (e.at_ now)))] zk ?_
  refine zw [0,1,2] rfl rfl ?_
  refine zg 3 rfl zK zK zK rfl rfl (Jm (vs:=evC (e.at_ now)) rfl QZ rfl (b:=b5) zM rfl rfl) rfl ?_
  refine YQ 4 zH zK rfl rfl ?_
  refine qy (l:=evC (e.at_ now)) Zo QZ (.cons rfl rfl rfl rfl rfl .nil) rfl rfl rfl rfl rfl rfl rfl (fun b22=>?_)
  refine qA (Zc ?_)
  refine YQ 5 zH zK rfl rfl ?_
  refine qu (zc2 rfl rfl) Tryz.call110 rfl ((qd2 (H:=(b22,.cells 91 5 (evC (e.at_ now)))::(b5,.cells 91 5 (evC (e.at_ now)))::H) (e:=(e.at_ now)) (cap:=1) hr hO hL hlo (fun HZ=>qq.own (b:=b22) (List.mem_append_right _ List.mem_cons_self))).hsub zH) ?_
  rintro v H' ⟨lv,XB',hO',⟨mm,rfl⟩,rfl⟩
  refine qA (Zc (Yx zH zK (za 2 rfl ?_)))
  refine qC rfl rfl (qX (m:=1) rfl) rfl ?_
  refine za 2 rfl ?_
  refine qW (1,lv,(QF L r.lost (e.at_ now)).2,XB',(QF L r.lost (e.at_ now)).1) ⟨Nat.le_refl _,hO',fun h=>(by cases h),fun _=>rfl⟩ (by show 1-1<1-0; decide) (qc rfl (qc rfl (qc rfl (qc rfl (qm _))))) rfl (show qd _ ((kb,.cells 113 57 (knC (r.lg lv (QF L r.lost (e.at_ now)).2)))::(XB'++H)) from zH)
 ·skip
  refine qbL rfl ?_
  refine zf (H2:=(kb,.cells 113 57 (knC (r.lg v1 lost1)))::(XB1++H)) Tryz.results47 (.nil _) zH ?_
  obtain rfl:i=1:=by omega
  have he:=h1 rfl
  rw [← he]
  exact ⟨v1,XB1,hO1,rfl⟩
theorem QI.trace {lb T:Nat} {F:Lf} {HF:qg} (hF:QI lb T F HF):∃ g:Nat,∀ (w0:World) (H:qg),(∀ p∈HF,p∈H)→qR Tryz.prog w0 H 93 [zp lb] (zp g):=by
 cases hF with
 | @mk tb wb g1 g2 rb db M HT HW H1 H2 HR HD HM hT hO hW h1 o1 h2 o2 hR hU hD hM =>
 exact ⟨g1,fun w0 H hs=>qd6 (hs _ List.mem_cons_self) hM.m4⟩
set_option maxRecDepth 100000
theorem qaq {T:Nat} {F:Lf} {HF:qg} {a:Int} (hF:QI r.lf T F HF) (hs:∀ p∈HF,p∈H) (hr:r.Ok) (h0:r.P[0]?=some none) (hl:l.length≤1000) (hi:z7 l) (hb:ZE l=0) (hcap:8*l.length≤cap) (hrow:qq w0 H (some ⟨b,o,none⟩) ((Zz l).map (Value.int .u8))) (hT:zN w0):qt Tryz.prog w0 46 #[zp kb,.agg (List.toArray [zi 6,zi a,zi 0,zi 0,zu 0,zu 0,.slice (some ⟨b,o,none⟩) (8*l.length) cap])] ((kb,.cells 113 57 (knC r))::H) (fun v H'=>((Qm l (decide (a=1))).2≠0∧v=.tuple #[zu 0,zi (Qm l (decide (a=1))).2]∧H'=(kb,.cells 113 57 (knC r))::H)∨((Qm l (decide (a=1))).2=0∧∃ pb ada capa XA,qQ 45 5 (.slice ada l.length capa) l.length (qI l) XA∧v=.tuple #[zu 0,zi 0]∧H'=(kb,.cells 113 57 (knC (r.setP 0 pb)))::((pb,.cells 39 2 [.slice ada l.length capa,.bool (decide (a=1))])::(XA++H)))):=by
 obtain ⟨g,htr⟩:=hF.trace
 refine qi (l:=[zp kb,.agg (List.toArray [zi 6,zi a,zi 0,zi 0,zu 0,zu 0,.slice (some ⟨b,o,none⟩) (8*l.length) cap])]) Tryz.func46 rfl Tryz.ntmps46 rfl rfl ?_
 refine zr ?_
 refine qS (l:=[zi 6,zi a,zi 0,zi 0,zu 0,zu 0,.slice (some ⟨b,o,none⟩) (8*l.length) cap]) rfl rfl rfl (fun b3=>?_)
 refine za 7 rfl ?_
 refine qe (v:=.pointer (some ⟨r.lf,0,none⟩)) rfl qaX rfl (qh.own (b:=kb) zM rfl) rfl ?_
 refine q9 (zc1 rfl) Tryz.call93 rfl (htr _ _ (fun p hp=>List.mem_cons_of_mem _ (List.mem_cons_of_mem _ (hs p hp)))) ?_
 refine za 5 rfl ?_
 refine qe (v:=zi 6) rfl ty3 rfl (qh.own (b:=b3) zM rfl) rfl ?_
 refine za 40 rfl ?_
 refine qe (v:=zi a) rfl ty3 rfl (qh.own (b:=b3) zM rfl) rfl ?_
 refine za 2 rfl ?_
 refine qe (v:=.slice (some ⟨b,o,none⟩) (8*l.length) cap) rfl Qx rfl (qh.own (b:=b3) zM rfl) rfl ?_
 refine qu (zc3 rfl rfl rfl) Tryz.call101 rfl ((qf3 (H:=(b3,.cells 35 7 [zi 6,zi a,zi 0,zi 0,zu 0,zu 0,.slice (some ⟨b,o,none⟩) (8*l.length) cap])::H) (sl:=decide (a=1)) hr h0 hl hi hb hcap (hrow.up zH) hT).hsub zH) ?_
 rintro v H' (⟨hz,rfl,rfl⟩ | ⟨hz,pb,ada,capa,XA,hO,rfl,rfl⟩)
 ·skip
  refine za 5 rfl ?_
  refine qF (H2:=(kb,.cells 113 57 (knC r))::H) Tryz.results46 rfl rfl (.nil _) zH ?_
  exact .inl ⟨hz,rfl,rfl⟩
 ·skip
  refine za 5 rfl ?_
  refine qF (H2:=(kb,.cells 113 57 (knC (r.setP 0 pb)))::((pb,.cells 39 2 [.slice ada l.length capa,.bool (decide (a=1))])::(XA++H))) Tryz.results46 rfl rfl (.nil _) zH ?_
  exact .inr ⟨hz,pb,ada,capa,XA,hO,rfl,rfl⟩
end Go.Proofs.YtcggkokeggfdkaaGreatDoor
namespace Go.Script
structure StS where
 kind:Int
 a:Int
 b:Int
 c:Int
 x:Int
 y:Int
 raw:List Int
deriving DecidableEq
def qdp:StS:=⟨0,0,0,0,0,0,[]⟩
def isK (k:Int):Bool:=decide (0≤k) && decide (k≤17)
def tabW:List (List Nat):=[[1,0,0,0,0],[1,1,0,0,0],[1,0,0,0,0],[1,0,0,0,0],[1,0,0,0,0],[1,0,0,0,0],[1,0,0,0,0],[1,1,1,0,0],[1,1,2,8,0],[1,1,0,8,8],[1,0,0,8,0],[1,0,0,8,0],[1,0,0,0,0],[1,0,0,0,0],[1,0,0,0,0],[0,0,0,0,0],[0,0,0,0,0],[1,0,0,0,0]]
def tabB:List (List Int):=[[1,255,0,0,0,0],[0,63,0,255,0,0],[0,15,0,0,0,0],[0,15,0,0,0,0],[0,15,0,0,0,0],[0,255,0,0,0,0],[0,1,0,0,0,0],[0,2,1,8,1,4],[0,15,0,63,1,256],[0,3,0,2,0,0],[0,3,0,0,0,0],[0,3,0,0,0,0],[0,3,0,0,0,0],[0,31,0,0,0,0],[0,31,0,0,0,0],[0,0,0,0,0,0],[0,0,0,0,0,0],[0,15,0,0,0,0]]
def shW (k:Int):List Nat:=if isK k then tabW.getD k.toNat [] else [0,0,0,0,0]
def shB (k:Int):List Int:=if isK k then tabB.getD k.toNat [] else [0,0,0,0,0,0]
theorem qce {k:Int} (h:isK k=true):∃ n:Fin 18,k=(n.val:Int):=by
 simp only [isK,Bool.and_eq_true,decide_eq_true_eq] at h
 exact ⟨⟨k.toNat,by omega⟩,by show k=(k.toNat:Int); omega⟩
theorem qfv (k:Int):(shW k).length=5:=by
 unfold shW
 cases h:isK k with
 | false=>rfl
 | true =>
  obtain ⟨n,rfl⟩:=qce h
  have:∀ n:Fin 18,(tabW.getD ((n.val:Int)).toNat []).length=5:=by decide +kernel
  simpa using this n
theorem qfw (k:Int):(shB k).length=6:=by
 unfold shB
 cases h:isK k with
 | false=>rfl
 | true =>
  obtain ⟨n,rfl⟩:=qce h
  have:∀ n:Fin 18,(tabB.getD ((n.val:Int)).toNat []).length=6:=by decide +kernel
  simpa using this n
def Q3 (k n:Int):Bool:=if k=5 then decide (1≤n) && decide (n≤16) else if k=6 then decide (8≤n) && decide (n≤512) && decide (n%8=0) else decide (n=0)
def u64 (z:Int):Int:=z%18446744073709551616
def StS.parts (s:StS):List Int:=[u64 s.a,u64 s.b,u64 s.c,s.x,s.y]
def StS.abc (s:StS):List Int:=[s.a,s.b,s.c]
def Qv (w:List Nat) (p:List Int) (i:Nat):Bool:=decide (w.getD i 0=0) && decide (p.getD i 0≠0)
def Ju (bs:List Int) (l:List Int) (i:Nat):Bool:=decide (l.getD i 0<bs.getD (2*i) 0) || decide (bs.getD (2*i+1) 0<l.getD i 0)
def chk (s:StS):Int :=
 if isK s.kind=false then 11
 else if (List.range 5).any (Qv (shW s.kind) s.parts) then 9
 else if 0<s.raw.length∧s.kind≠5∧s.kind≠6 then 9
 else if (List.range 3).any (Ju (shB s.kind) s.abc) then 2
 else if Q3 s.kind s.raw.length=false then 8
 else 0
def lowL (n:Int):Nat→List Int
 | 0=>[]
 | k+1=>n%256::lowL (n/256) k
def numL:List Int→Int
 | []=>0
 | b::l=>b+256*numL l
def Bytes (l:List Int):Prop:=∀ b∈l,0≤b∧b<256
def qfu (w:List Nat):Nat:=w.foldl (·+·) 0
def qhL (p:List Int) (w:List Nat):List Int:=(List.range 5).flatMap fun i=>lowL (p.getD i 0) (w.getD i 0)
def encB (s:StS):List Int:=qhL s.parts (shW s.kind)++s.raw
def enc (s:StS):List Int:=s.kind::lowL (qfu (shW s.kind)+s.raw.length:Nat) 2++encB s
def qg9:List Nat→List Int→List Int
 | [],_=>[]
 | w::ws,b=>numL (b.take w)::qg9 ws (b.drop w)
def i64 (z:Int):Int:=(z+9223372036854775808)%18446744073709551616-9223372036854775808
def ofN (k:Int) (n:List Int) (raw:List Int):StS:=⟨k,i64 (n.getD 0 0),i64 (n.getD 1 0),i64 (n.getD 2 0),n.getD 3 0,n.getD 4 0,raw⟩
def one (k:Int) (b:List Int):StS × Int :=
 if isK k=false then (qdp,11)
 else if b.length<qfu (shW k)∨Q3 k (b.length-qfu (shW k):Nat)=false then (qdp,9)
 else
  let s:=ofN k (qg9 (shW k) b) (b.drop (qfu (shW k)))
  if chk s=0 then (s,0) else (qdp,chk s)
end Go.Script
namespace Go.Proofs.YtcggkokeggfdkaaGreatDoor
open Go Go.Sl
variable {l:List Int} {i:Nat}
attribute [local irreducible] W
open Go.Script
theorem qhh {m:Int} (h:-9223372036854775808≤m∧m≤9223372036854775807):IntKind.i64.wrap m=m:=IntWalk.i64_in m h
def Q1 (l:List Int):List Value:=l.map (.int .i64)
def Zg (l:List Nat):List Value:=l.map fun n=>zi ((n:Nat):Int)
def words (l:List Int):List Value:=l.map (.int .u64)
def stV (s:StS) (rv:Value):List Value:=[zi s.kind,zi s.a,zi s.b,zi s.c,zu s.x,zu s.y,rv]
theorem qcG (z:Int):IntKind.u64.wrap z=Go.Script.u64 z:=by simp [IntKind.wrap,IntKind.signed,IntKind.bits,IntKind.max,Go.Script.u64]
theorem qec (k:Int):Qc Tryz.prog (fun _=>True) 89 [zi k] (.bool (isK k)):=by
 intro w0 H hT
 refine qi Tryz.func89 rfl Tryz.ntmps89 rfl rfl (za 7 rfl ?_)
 apply zj
 iterate 4 exact rfl
 case h1 =>
  intro hg2
  refine za 4 rfl ?_
  exact qO rfl zR
 refine za 2 rfl (qj Tryz.results89 rfl (.nil _) (.refl _) ?_)
 exact ⟨rfl,rfl⟩
theorem qdR (k n:Int) (hn:0≤n):Qc Tryz.prog (fun _=>True) 92 [zi k,zi n] (.bool (Q3 k n)):=by
 intro w0 H hT
 refine qi Tryz.func92 rfl Tryz.ntmps92 rfl rfl (za 12 rfl ?_)
 refine qw rfl (fun c0=>?_) (fun c0=>?_)
 ·simp only [cond_true,cond_false,Bool.and_eq_true,Bool.or_eq_true,Bool.and_eq_false_iff,Bool.or_eq_false_iff,decide_eq_true_eq,decide_eq_false_iff_not,Bool.not_eq_true',Bool.not_eq_false',ne_eq,Decidable.not_not] at c0
  refine za 4 rfl ?_
  apply zj
  iterate 4 exact rfl
  case h1 =>
   intro hg2
   refine za 4 rfl ?_
   exact qO rfl zR
  refine za 2 rfl (qj Tryz.results92 rfl (.nil _) (.refl _) ?_)
  exact ⟨by simp [Q3, *],rfl⟩
 ·simp only [cond_true,cond_false,Bool.and_eq_true,Bool.or_eq_true,Bool.and_eq_false_iff,Bool.or_eq_false_iff,decide_eq_true_eq,decide_eq_false_iff_not,Bool.not_eq_true',Bool.not_eq_false',ne_eq,Decidable.not_not] at c0
  refine za 4 rfl ?_
  refine qw rfl (fun c1=>?_) (fun c1=>?_)
  ·simp only [cond_true,cond_false,Bool.and_eq_true,Bool.or_eq_true,Bool.and_eq_false_iff,Bool.or_eq_false_iff,decide_eq_true_eq,decide_eq_false_iff_not,Bool.not_eq_true',Bool.not_eq_false',ne_eq,Decidable.not_not] at c1
   refine za 4 rfl ?_
   apply zj
   iterate 4 exact rfl
   case h1 =>
    intro hg2
    refine za 4 rfl ?_
    exact qO rfl zR
   refine qM rfl rfl ?_
   apply zj
   iterate 4 exact rfl
   case h1 =>
    intro hg6
    refine za 3 rfl (qC rfl rfl (qeZ zd (Int.tmod_eq_emod_of_nonneg hn)) rfl (za 2 rfl ?_))
    exact qO rfl zR
   refine za 2 rfl (qj Tryz.results92 rfl (.nil _) (.refl _) ?_)
   exact ⟨by simp [Q3, *],rfl⟩
  ·simp only [cond_true,cond_false,Bool.and_eq_true,Bool.or_eq_true,Bool.and_eq_false_iff,Bool.or_eq_false_iff,decide_eq_true_eq,decide_eq_false_iff_not,Bool.not_eq_true',Bool.not_eq_false',ne_eq,Decidable.not_not] at c1
   refine za 7 rfl (qj Tryz.results92 rfl (.nil _) (.refl _) ?_)
   exact ⟨by simp [Q3, *],rfl⟩
theorem qbf (s:StS) (rv:Value):Qc Tryz.prog (fun _=>True) 91 [.agg (stV s rv).toArray] (.agg (words s.parts).toArray):=by
 intro w0 H hT
 refine qi Tryz.func91 rfl Tryz.ntmps91 rfl rfl (zr ?_)
 refine qS rfl rfl rfl (fun b1=>?_)
 refine qH qaa rfl rfl (fun b2=>?_)
 refine za 3 rfl (qe rfl ty3 rfl (qh.own zM rfl) rfl (QU rfl ty3 ZQ rfl rfl (za 1 rfl (qe rfl ty3 rfl (qh.own zM rfl) rfl (QU rfl ty3 ZQ rfl rfl (za 1 rfl (qe rfl ty3 rfl (qh.own zM rfl) rfl ?_)))))))
 refine QU rfl ty3 ZQ rfl rfl (za 1 rfl (qe rfl ZQ rfl (qh.own zM rfl) rfl (za 1 rfl (qe rfl ZQ rfl (qh.own zM rfl) rfl (qn qaa ZQ (.cons rfl rfl rfl rfl rfl (.cons rfl rfl rfl rfl rfl (.cons rfl rfl rfl rfl rfl (.cons rfl rfl rfl rfl rfl (.cons rfl rfl rfl rfl rfl .nil))))) rfl zF rfl (qk rfl rfl qaa rfl rfl zM (Nat.le_of_ble_eq_true rfl) zF zU (qA ?_)))))))
 refine zt (H2:=H) Tryz.results91 rfl (.nil _) qaa rfl zM rfl zH ?_
 exact ⟨by simp [words,StS.parts,qcG],rfl⟩
open Go.Script
theorem qdZ {l:List Nat} (h:i<l.length):(Zg l)[i]?=some (zi ((l.getD i 0:Nat):Int)):=by simp [Zg,List.getD,h]
theorem XM (h:i<l.length):(Q1 l)[i]?=some (zi (l.getD i 0)):=by simp [Q1,List.getD,h]
theorem qcE (h:i<l.length):(words l)[i]?=some (zu (l.getD i 0)):=by simp [words,List.getD,h]
theorem qcV (s:StS):s.parts.length=5:=rfl
theorem qa1 (k:Int):Qc Tryz.prog (fun _=>True) 90 [zi k] (.tuple #[.agg (Zg (shW k)).toArray,.agg (Q1 (shB k)).toArray]):=by
  intro w0 H hT
  refine qi Tryz.func90 rfl Tryz.ntmps90 rfl rfl (zr ?_)
  refine qH qK rfl rfl (fun b2=>?_)
  refine qH qJ rfl rfl (fun b3=>?_)
  refine za 10 rfl ?_
  refine qw rfl (fun c0=>?_) (fun c0=>?_)
  · simp only [cond_true,cond_false,Bool.and_eq_true,Bool.or_eq_true,Bool.and_eq_false_iff,Bool.or_eq_false_iff,decide_eq_true_eq,decide_eq_false_iff_not,Bool.not_eq_true',Bool.not_eq_false',ne_eq,Decidable.not_not] at c0
    refine zr (qn qK ty3 (.cons rfl rfl rfl rfl rfl .nil) rfl zF rfl (ql qT Qa (.cons rfl rfl rfl rfl rfl (.cons rfl rfl rfl rfl rfl .nil)) rfl zF rfl (qn qJ qT (.cons rfl rfl rfl rfl rfl .nil) rfl zF rfl (qk rfl rfl qK rfl rfl zM (Nat.le_of_ble_eq_true rfl) zF zU (qk rfl rfl qJ rfl rfl zM (Nat.le_of_ble_eq_true rfl) zF zU (qA ?_))))))
    refine zm (H2:=H) Tryz.results90 (.nil _) (.own rfl qK rfl zM rfl) (.own rfl qJ rfl zM rfl) zH ?_
    refine ⟨?_,rfl⟩
    first
      | (subst_vars; rfl)
      | (cases hk:isK k with
         | false=>simp [shW,shB,hk,Zg,Q1]
         | true =>
           have h2:k=15∨k=16:=by simp only [isK,Bool.and_eq_true,decide_eq_true_eq] at hk; omega
           rcases h2 with rfl | rfl <;> rfl)
  · simp only [cond_true,cond_false,Bool.and_eq_true,Bool.or_eq_true,Bool.and_eq_false_iff,Bool.or_eq_false_iff,decide_eq_true_eq,decide_eq_false_iff_not,Bool.not_eq_true',Bool.not_eq_false',ne_eq,Decidable.not_not] at c0
    refine za 4 rfl ?_
    refine qw rfl (fun c1=>?_) (fun c1=>?_)
    · simp only [cond_true,cond_false,Bool.and_eq_true,Bool.or_eq_true,Bool.and_eq_false_iff,Bool.or_eq_false_iff,decide_eq_true_eq,decide_eq_false_iff_not,Bool.not_eq_true',Bool.not_eq_false',ne_eq,Decidable.not_not] at c1
      refine zr (qn qK ty3 (.cons rfl rfl rfl rfl rfl (.cons rfl rfl rfl rfl rfl .nil)) rfl zF rfl (ql qT Qa (.cons rfl rfl rfl rfl rfl (.cons rfl rfl rfl rfl rfl .nil)) rfl zF rfl (ql qT Qa (.cons rfl rfl rfl rfl rfl (.cons rfl rfl rfl rfl rfl .nil)) rfl zF rfl (qn qJ qT (.cons rfl rfl rfl rfl rfl (.cons rfl rfl rfl rfl rfl .nil)) rfl zF rfl (qk rfl rfl qK rfl rfl zM (Nat.le_of_ble_eq_true rfl) zF zU (qk rfl rfl qJ rfl rfl zM (Nat.le_of_ble_eq_true rfl) zF zU (qA ?_)))))))
      refine zm (H2:=H) Tryz.results90 (.nil _) (.own rfl qK rfl zM rfl) (.own rfl qJ rfl zM rfl) zH ?_
      refine ⟨?_,rfl⟩
      first
        | (subst_vars; rfl)
        | (cases hk:isK k with
           | false=>simp [shW,shB,hk,Zg,Q1]
           | true =>
             have h2:k=15∨k=16:=by simp only [isK,Bool.and_eq_true,decide_eq_true_eq] at hk; omega
             rcases h2 with rfl | rfl <;> rfl)
    · simp only [cond_true,cond_false,Bool.and_eq_true,Bool.or_eq_true,Bool.and_eq_false_iff,Bool.or_eq_false_iff,decide_eq_true_eq,decide_eq_false_iff_not,Bool.not_eq_true',Bool.not_eq_false',ne_eq,Decidable.not_not] at c1
      refine za 5 rfl ?_
      refine qw rfl (fun c2=>?_) (fun c2=>?_)
      · simp only [cond_true,cond_false,Bool.and_eq_true,Bool.or_eq_true,Bool.and_eq_false_iff,Bool.or_eq_false_iff,decide_eq_true_eq,decide_eq_false_iff_not,Bool.not_eq_true',Bool.not_eq_false',ne_eq,Decidable.not_not] at c2
        refine za 3 rfl (qn qK ty3 (.cons rfl rfl rfl rfl rfl .nil) rfl zF rfl (ql qT Qa (.cons rfl rfl rfl rfl rfl (.cons rfl rfl rfl rfl rfl .nil)) rfl zF rfl (qn qJ qT (.cons rfl rfl rfl rfl rfl .nil) rfl zF rfl (qk rfl rfl qK rfl rfl zM (Nat.le_of_ble_eq_true rfl) zF zU (qk rfl rfl qJ rfl rfl zM (Nat.le_of_ble_eq_true rfl) zF zU (qA ?_))))))
        refine zm (H2:=H) Tryz.results90 (.nil _) (.own rfl qK rfl zM rfl) (.own rfl qJ rfl zM rfl) zH ?_
        refine ⟨?_,rfl⟩
        first
          | (subst_vars; rfl)
          | (cases hk:isK k with
             | false=>simp [shW,shB,hk,Zg,Q1]
             | true =>
               have h2:k=15∨k=16:=by simp only [isK,Bool.and_eq_true,decide_eq_true_eq] at hk; omega
               rcases h2 with rfl | rfl <;> rfl)
      · simp only [cond_true,cond_false,Bool.and_eq_true,Bool.or_eq_true,Bool.and_eq_false_iff,Bool.or_eq_false_iff,decide_eq_true_eq,decide_eq_false_iff_not,Bool.not_eq_true',Bool.not_eq_false',ne_eq,Decidable.not_not] at c2
        refine za 4 rfl ?_
        refine qw rfl (fun c3=>?_) (fun c3=>?_)
        · simp only [cond_true,cond_false,Bool.and_eq_true,Bool.or_eq_true,Bool.and_eq_false_iff,Bool.or_eq_false_iff,decide_eq_true_eq,decide_eq_false_iff_not,Bool.not_eq_true',Bool.not_eq_false',ne_eq,Decidable.not_not] at c3
          refine za 3 rfl (qn qK ty3 (.cons rfl rfl rfl rfl rfl .nil) rfl zF rfl (ql qT Qa (.cons rfl rfl rfl rfl rfl (.cons rfl rfl rfl rfl rfl .nil)) rfl zF rfl (qn qJ qT (.cons rfl rfl rfl rfl rfl .nil) rfl zF rfl (qk rfl rfl qK rfl rfl zM (Nat.le_of_ble_eq_true rfl) zF zU (qk rfl rfl qJ rfl rfl zM (Nat.le_of_ble_eq_true rfl) zF zU (qA ?_))))))
          refine zm (H2:=H) Tryz.results90 (.nil _) (.own rfl qK rfl zM rfl) (.own rfl qJ rfl zM rfl) zH ?_
          refine ⟨?_,rfl⟩
          first
            | (subst_vars; rfl)
            | (cases hk:isK k with
               | false=>simp [shW,shB,hk,Zg,Q1]
               | true =>
                 have h2:k=15∨k=16:=by simp only [isK,Bool.and_eq_true,decide_eq_true_eq] at hk; omega
                 rcases h2 with rfl | rfl <;> rfl)
        · simp only [cond_true,cond_false,Bool.and_eq_true,Bool.or_eq_true,Bool.and_eq_false_iff,Bool.or_eq_false_iff,decide_eq_true_eq,decide_eq_false_iff_not,Bool.not_eq_true',Bool.not_eq_false',ne_eq,Decidable.not_not] at c3
          refine za 4 rfl ?_
          refine qw rfl (fun c4=>?_) (fun c4=>?_)
          · simp only [cond_true,cond_false,Bool.and_eq_true,Bool.or_eq_true,Bool.and_eq_false_iff,Bool.or_eq_false_iff,decide_eq_true_eq,decide_eq_false_iff_not,Bool.not_eq_true',Bool.not_eq_false',ne_eq,Decidable.not_not] at c4
            refine zr (qn qK ty3 (.cons rfl rfl rfl rfl rfl .nil) rfl zF rfl (ql qT Qa (.cons rfl rfl rfl rfl rfl (.cons rfl rfl rfl rfl rfl .nil)) rfl zF rfl (qn qJ qT (.cons rfl rfl rfl rfl rfl .nil) rfl zF rfl (qk rfl rfl qK rfl rfl zM (Nat.le_of_ble_eq_true rfl) zF zU (qk rfl rfl qJ rfl rfl zM (Nat.le_of_ble_eq_true rfl) zF zU (qA ?_))))))
            refine zm (H2:=H) Tryz.results90 (.nil _) (.own rfl qK rfl zM rfl) (.own rfl qJ rfl zM rfl) zH ?_
            refine ⟨?_,rfl⟩
            first
              | (subst_vars; rfl)
              | (cases hk:isK k with
                 | false=>simp [shW,shB,hk,Zg,Q1]
                 | true =>
                   have h2:k=15∨k=16:=by simp only [isK,Bool.and_eq_true,decide_eq_true_eq] at hk; omega
                   rcases h2 with rfl | rfl <;> rfl)
          · simp only [cond_true,cond_false,Bool.and_eq_true,Bool.or_eq_true,Bool.and_eq_false_iff,Bool.or_eq_false_iff,decide_eq_true_eq,decide_eq_false_iff_not,Bool.not_eq_true',Bool.not_eq_false',ne_eq,Decidable.not_not] at c4
            refine za 4 rfl ?_
            refine qw rfl (fun c5=>?_) (fun c5=>?_)
            · simp only [cond_true,cond_false,Bool.and_eq_true,Bool.or_eq_true,Bool.and_eq_false_iff,Bool.or_eq_false_iff,decide_eq_true_eq,decide_eq_false_iff_not,Bool.not_eq_true',Bool.not_eq_false',ne_eq,Decidable.not_not] at c5
              refine zr (qn qK ty3 (.cons rfl rfl rfl rfl rfl .nil) rfl zF rfl (ql qT Qa (.cons rfl rfl rfl rfl rfl (.cons rfl rfl rfl rfl rfl .nil)) rfl zF rfl (qn qJ qT (.cons rfl rfl rfl rfl rfl .nil) rfl zF rfl (qk rfl rfl qK rfl rfl zM (Nat.le_of_ble_eq_true rfl) zF zU (qk rfl rfl qJ rfl rfl zM (Nat.le_of_ble_eq_true rfl) zF zU (qA ?_))))))
              refine zm (H2:=H) Tryz.results90 (.nil _) (.own rfl qK rfl zM rfl) (.own rfl qJ rfl zM rfl) zH ?_
              refine ⟨?_,rfl⟩
              first
                | (subst_vars; rfl)
                | (cases hk:isK k with
                   | false=>simp [shW,shB,hk,Zg,Q1]
                   | true =>
                     have h2:k=15∨k=16:=by simp only [isK,Bool.and_eq_true,decide_eq_true_eq] at hk; omega
                     rcases h2 with rfl | rfl <;> rfl)
            · simp only [cond_true,cond_false,Bool.and_eq_true,Bool.or_eq_true,Bool.and_eq_false_iff,Bool.or_eq_false_iff,decide_eq_true_eq,decide_eq_false_iff_not,Bool.not_eq_true',Bool.not_eq_false',ne_eq,Decidable.not_not] at c5
              refine za 4 rfl ?_
              refine qw rfl (fun c6=>?_) (fun c6=>?_)
              · simp only [cond_true,cond_false,Bool.and_eq_true,Bool.or_eq_true,Bool.and_eq_false_iff,Bool.or_eq_false_iff,decide_eq_true_eq,decide_eq_false_iff_not,Bool.not_eq_true',Bool.not_eq_false',ne_eq,Decidable.not_not] at c6
                refine zr (qn qK ty3 (.cons rfl rfl rfl rfl rfl .nil) rfl zF rfl (ql qT Qa (.cons rfl rfl rfl rfl rfl (.cons rfl rfl rfl rfl rfl .nil)) rfl zF rfl (qn qJ qT (.cons rfl rfl rfl rfl rfl .nil) rfl zF rfl (qk rfl rfl qK rfl rfl zM (Nat.le_of_ble_eq_true rfl) zF zU (qk rfl rfl qJ rfl rfl zM (Nat.le_of_ble_eq_true rfl) zF zU (qA ?_))))))
                refine zm (H2:=H) Tryz.results90 (.nil _) (.own rfl qK rfl zM rfl) (.own rfl qJ rfl zM rfl) zH ?_
                refine ⟨?_,rfl⟩
                first
                  | (subst_vars; rfl)
                  | (cases hk:isK k with
                     | false=>simp [shW,shB,hk,Zg,Q1]
                     | true =>
                       have h2:k=15∨k=16:=by simp only [isK,Bool.and_eq_true,decide_eq_true_eq] at hk; omega
                       rcases h2 with rfl | rfl <;> rfl)
              · simp only [cond_true,cond_false,Bool.and_eq_true,Bool.or_eq_true,Bool.and_eq_false_iff,Bool.or_eq_false_iff,decide_eq_true_eq,decide_eq_false_iff_not,Bool.not_eq_true',Bool.not_eq_false',ne_eq,Decidable.not_not] at c6
                refine za 4 rfl ?_
                refine qw rfl (fun c7=>?_) (fun c7=>?_)
                · simp only [cond_true,cond_false,Bool.and_eq_true,Bool.or_eq_true,Bool.and_eq_false_iff,Bool.or_eq_false_iff,decide_eq_true_eq,decide_eq_false_iff_not,Bool.not_eq_true',Bool.not_eq_false',ne_eq,Decidable.not_not] at c7
                  refine zr (qn qK ty3 (.cons rfl rfl rfl rfl rfl (.cons rfl rfl rfl rfl rfl (.cons rfl rfl rfl rfl rfl .nil))) rfl zF rfl (ql qT Qa (.cons rfl rfl rfl rfl rfl (.cons rfl rfl rfl rfl rfl .nil)) rfl zF rfl (ql qT Qa (.cons rfl rfl rfl rfl rfl (.cons rfl rfl rfl rfl rfl .nil)) rfl zF rfl (ql qT Qa (.cons rfl rfl rfl rfl rfl (.cons rfl rfl rfl rfl rfl .nil)) rfl zF rfl (qn qJ qT (.cons rfl rfl rfl rfl rfl (.cons rfl rfl rfl rfl rfl (.cons rfl rfl rfl rfl rfl .nil))) rfl zF rfl (qk rfl rfl qK rfl rfl zM (Nat.le_of_ble_eq_true rfl) zF zU (qk rfl rfl qJ rfl rfl zM (Nat.le_of_ble_eq_true rfl) zF zU ?_)))))))
                  refine qA ?_
                  refine zm (H2:=H) Tryz.results90 (.nil _) (.own rfl qK rfl zM rfl) (.own rfl qJ rfl zM rfl) zH ?_
                  refine ⟨?_,rfl⟩
                  first
                    | (subst_vars; rfl)
                    | (cases hk:isK k with
                       | false=>simp [shW,shB,hk,Zg,Q1]
                       | true =>
                         have h2:k=15∨k=16:=by simp only [isK,Bool.and_eq_true,decide_eq_true_eq] at hk; omega
                         rcases h2 with rfl | rfl <;> rfl)
                · simp only [cond_true,cond_false,Bool.and_eq_true,Bool.or_eq_true,Bool.and_eq_false_iff,Bool.or_eq_false_iff,decide_eq_true_eq,decide_eq_false_iff_not,Bool.not_eq_true',Bool.not_eq_false',ne_eq,Decidable.not_not] at c7
                  refine za 4 rfl ?_
                  refine qw rfl (fun c8=>?_) (fun c8=>?_)
                  · simp only [cond_true,cond_false,Bool.and_eq_true,Bool.or_eq_true,Bool.and_eq_false_iff,Bool.or_eq_false_iff,decide_eq_true_eq,decide_eq_false_iff_not,Bool.not_eq_true',Bool.not_eq_false',ne_eq,Decidable.not_not] at c8
                    refine zr (qn qK ty3 (.cons rfl rfl rfl rfl rfl (.cons rfl rfl rfl rfl rfl (.cons rfl rfl rfl rfl rfl (.cons rfl rfl rfl rfl rfl .nil)))) rfl zF rfl (ql qT Qa (.cons rfl rfl rfl rfl rfl (.cons rfl rfl rfl rfl rfl .nil)) rfl zF rfl (ql qT Qa (.cons rfl rfl rfl rfl rfl (.cons rfl rfl rfl rfl rfl .nil)) rfl zF rfl (ql qT Qa (.cons rfl rfl rfl rfl rfl (.cons rfl rfl rfl rfl rfl .nil)) rfl zF rfl (qn qJ qT (.cons rfl rfl rfl rfl rfl (.cons rfl rfl rfl rfl rfl (.cons rfl rfl rfl rfl rfl .nil))) rfl zF rfl (qk rfl rfl qK rfl rfl zM (Nat.le_of_ble_eq_true rfl) zF zU (qk rfl rfl qJ rfl rfl zM (Nat.le_of_ble_eq_true rfl) zF zU ?_)))))))
                    refine qA ?_
                    refine zm (H2:=H) Tryz.results90 (.nil _) (.own rfl qK rfl zM rfl) (.own rfl qJ rfl zM rfl) zH ?_
                    refine ⟨?_,rfl⟩
                    first
                      | (subst_vars; rfl)
                      | (cases hk:isK k with
                         | false=>simp [shW,shB,hk,Zg,Q1]
                         | true =>
                           have h2:k=15∨k=16:=by simp only [isK,Bool.and_eq_true,decide_eq_true_eq] at hk; omega
                           rcases h2 with rfl | rfl <;> rfl)
                  · simp only [cond_true,cond_false,Bool.and_eq_true,Bool.or_eq_true,Bool.and_eq_false_iff,Bool.or_eq_false_iff,decide_eq_true_eq,decide_eq_false_iff_not,Bool.not_eq_true',Bool.not_eq_false',ne_eq,Decidable.not_not] at c8
                    refine za 4 rfl ?_
                    refine qw rfl (fun c9=>?_) (fun c9=>?_)
                    · simp only [cond_true,cond_false,Bool.and_eq_true,Bool.or_eq_true,Bool.and_eq_false_iff,Bool.or_eq_false_iff,decide_eq_true_eq,decide_eq_false_iff_not,Bool.not_eq_true',Bool.not_eq_false',ne_eq,Decidable.not_not] at c9
                      refine zr (qn qK ty3 (.cons rfl rfl rfl rfl rfl (.cons rfl rfl rfl rfl rfl (.cons rfl rfl rfl rfl rfl (.cons rfl rfl rfl rfl rfl (.cons rfl rfl rfl rfl rfl .nil))))) rfl zF rfl (ql qT Qa (.cons rfl rfl rfl rfl rfl (.cons rfl rfl rfl rfl rfl .nil)) rfl zF rfl (ql qT Qa (.cons rfl rfl rfl rfl rfl (.cons rfl rfl rfl rfl rfl .nil)) rfl zF rfl (qn qJ qT (.cons rfl rfl rfl rfl rfl (.cons rfl rfl rfl rfl rfl .nil)) rfl zF rfl (qk rfl rfl qK rfl rfl zM (Nat.le_of_ble_eq_true rfl) zF zU (qk rfl rfl qJ rfl rfl zM (Nat.le_of_ble_eq_true rfl) zF zU (qA ?_)))))))
                      refine zm (H2:=H) Tryz.results90 (.nil _) (.own rfl qK rfl zM rfl) (.own rfl qJ rfl zM rfl) zH ?_
                      refine ⟨?_,rfl⟩
                      first
                        | (subst_vars; rfl)
                        | (cases hk:isK k with
                           | false=>simp [shW,shB,hk,Zg,Q1]
                           | true =>
                             have h2:k=15∨k=16:=by simp only [isK,Bool.and_eq_true,decide_eq_true_eq] at hk; omega
                             rcases h2 with rfl | rfl <;> rfl)
                    · simp only [cond_true,cond_false,Bool.and_eq_true,Bool.or_eq_true,Bool.and_eq_false_iff,Bool.or_eq_false_iff,decide_eq_true_eq,decide_eq_false_iff_not,Bool.not_eq_true',Bool.not_eq_false',ne_eq,Decidable.not_not] at c9
                      refine za 5 rfl ?_
                      refine qw rfl (fun c10=>?_) (fun c10=>?_)
                      · simp only [cond_true,cond_false,Bool.and_eq_true,Bool.or_eq_true,Bool.and_eq_false_iff,Bool.or_eq_false_iff,decide_eq_true_eq,decide_eq_false_iff_not,Bool.not_eq_true',Bool.not_eq_false',ne_eq,Decidable.not_not] at c10
                        refine za 3 rfl (qn qK ty3 (.cons rfl rfl rfl rfl rfl (.cons rfl rfl rfl rfl rfl (.cons rfl rfl rfl rfl rfl (.cons rfl rfl rfl rfl rfl .nil)))) rfl zF rfl (ql qT Qa (.cons rfl rfl rfl rfl rfl (.cons rfl rfl rfl rfl rfl .nil)) rfl zF rfl (qn qJ qT (.cons rfl rfl rfl rfl rfl .nil) rfl zF rfl (qk rfl rfl qK rfl rfl zM (Nat.le_of_ble_eq_true rfl) zF zU (qk rfl rfl qJ rfl rfl zM (Nat.le_of_ble_eq_true rfl) zF zU (qA ?_))))))
                        refine zm (H2:=H) Tryz.results90 (.nil _) (.own rfl qK rfl zM rfl) (.own rfl qJ rfl zM rfl) zH ?_
                        refine ⟨?_,rfl⟩
                        first
                          | (subst_vars; rfl)
                          | (cases hk:isK k with
                             | false=>simp [shW,shB,hk,Zg,Q1]
                             | true =>
                               have h2:k=15∨k=16:=by simp only [isK,Bool.and_eq_true,decide_eq_true_eq] at hk; omega
                               rcases h2 with rfl | rfl <;> rfl)
                      · simp only [cond_true,cond_false,Bool.and_eq_true,Bool.or_eq_true,Bool.and_eq_false_iff,Bool.or_eq_false_iff,decide_eq_true_eq,decide_eq_false_iff_not,Bool.not_eq_true',Bool.not_eq_false',ne_eq,Decidable.not_not] at c10
                        refine za 4 rfl ?_
                        refine qw rfl (fun c11=>?_) (fun c11=>?_)
                        · simp only [cond_true,cond_false,Bool.and_eq_true,Bool.or_eq_true,Bool.and_eq_false_iff,Bool.or_eq_false_iff,decide_eq_true_eq,decide_eq_false_iff_not,Bool.not_eq_true',Bool.not_eq_false',ne_eq,Decidable.not_not] at c11
                          refine zr (qn qK ty3 (.cons rfl rfl rfl rfl rfl (.cons rfl rfl rfl rfl rfl (.cons rfl rfl rfl rfl rfl (.cons rfl rfl rfl rfl rfl .nil)))) rfl zF rfl (ql qT Qa (.cons rfl rfl rfl rfl rfl (.cons rfl rfl rfl rfl rfl .nil)) rfl zF rfl (qn qJ qT (.cons rfl rfl rfl rfl rfl .nil) rfl zF rfl (qk rfl rfl qK rfl rfl zM (Nat.le_of_ble_eq_true rfl) zF zU (qk rfl rfl qJ rfl rfl zM (Nat.le_of_ble_eq_true rfl) zF zU (qA ?_))))))
                          refine zm (H2:=H) Tryz.results90 (.nil _) (.own rfl qK rfl zM rfl) (.own rfl qJ rfl zM rfl) zH ?_
                          refine ⟨?_,rfl⟩
                          first
                            | (subst_vars; rfl)
                            | (cases hk:isK k with
                               | false=>simp [shW,shB,hk,Zg,Q1]
                               | true =>
                                 have h2:k=15∨k=16:=by simp only [isK,Bool.and_eq_true,decide_eq_true_eq] at hk; omega
                                 rcases h2 with rfl | rfl <;> rfl)
                        · simp only [cond_true,cond_false,Bool.and_eq_true,Bool.or_eq_true,Bool.and_eq_false_iff,Bool.or_eq_false_iff,decide_eq_true_eq,decide_eq_false_iff_not,Bool.not_eq_true',Bool.not_eq_false',ne_eq,Decidable.not_not] at c11
                          refine za 4 rfl ?_
                          refine qw rfl (fun c12=>?_) (fun c12=>?_)
                          · simp only [cond_true,cond_false,Bool.and_eq_true,Bool.or_eq_true,Bool.and_eq_false_iff,Bool.or_eq_false_iff,decide_eq_true_eq,decide_eq_false_iff_not,Bool.not_eq_true',Bool.not_eq_false',ne_eq,Decidable.not_not] at c12
                            refine zr (qn qK ty3 (.cons rfl rfl rfl rfl rfl .nil) rfl zF rfl (ql qT Qa (.cons rfl rfl rfl rfl rfl (.cons rfl rfl rfl rfl rfl .nil)) rfl zF rfl (qn qJ qT (.cons rfl rfl rfl rfl rfl .nil) rfl zF rfl (qk rfl rfl qK rfl rfl zM (Nat.le_of_ble_eq_true rfl) zF zU (qk rfl rfl qJ rfl rfl zM (Nat.le_of_ble_eq_true rfl) zF zU (qA ?_))))))
                            refine zm (H2:=H) Tryz.results90 (.nil _) (.own rfl qK rfl zM rfl) (.own rfl qJ rfl zM rfl) zH ?_
                            refine ⟨?_,rfl⟩
                            first
                              | (subst_vars; rfl)
                              | (cases hk:isK k with
                                 | false=>simp [shW,shB,hk,Zg,Q1]
                                 | true =>
                                   have h2:k=15∨k=16:=by simp only [isK,Bool.and_eq_true,decide_eq_true_eq] at hk; omega
                                   rcases h2 with rfl | rfl <;> rfl)
                          · simp only [cond_true,cond_false,Bool.and_eq_true,Bool.or_eq_true,Bool.and_eq_false_iff,Bool.or_eq_false_iff,decide_eq_true_eq,decide_eq_false_iff_not,Bool.not_eq_true',Bool.not_eq_false',ne_eq,Decidable.not_not] at c12
                            refine za 5 rfl ?_
                            refine qw rfl (fun c13=>?_) (fun c13=>?_)
                            · simp only [cond_true,cond_false,Bool.and_eq_true,Bool.or_eq_true,Bool.and_eq_false_iff,Bool.or_eq_false_iff,decide_eq_true_eq,decide_eq_false_iff_not,Bool.not_eq_true',Bool.not_eq_false',ne_eq,Decidable.not_not] at c13
                              refine za 3 rfl (qn qK ty3 (.cons rfl rfl rfl rfl rfl .nil) rfl zF rfl (ql qT Qa (.cons rfl rfl rfl rfl rfl (.cons rfl rfl rfl rfl rfl .nil)) rfl zF rfl (qn qJ qT (.cons rfl rfl rfl rfl rfl .nil) rfl zF rfl (qk rfl rfl qK rfl rfl zM (Nat.le_of_ble_eq_true rfl) zF zU (qk rfl rfl qJ rfl rfl zM (Nat.le_of_ble_eq_true rfl) zF zU (qA ?_))))))
                              refine zm (H2:=H) Tryz.results90 (.nil _) (.own rfl qK rfl zM rfl) (.own rfl qJ rfl zM rfl) zH ?_
                              refine ⟨?_,rfl⟩
                              first
                                | (subst_vars; rfl)
                                | (cases hk:isK k with
                                   | false=>simp [shW,shB,hk,Zg,Q1]
                                   | true =>
                                     have h2:k=15∨k=16:=by simp only [isK,Bool.and_eq_true,decide_eq_true_eq] at hk; omega
                                     rcases h2 with rfl | rfl <;> rfl)
                            · simp only [cond_true,cond_false,Bool.and_eq_true,Bool.or_eq_true,Bool.and_eq_false_iff,Bool.or_eq_false_iff,decide_eq_true_eq,decide_eq_false_iff_not,Bool.not_eq_true',Bool.not_eq_false',ne_eq,Decidable.not_not] at c13
                              refine za 4 rfl ?_
                              refine qw rfl (fun c14=>?_) (fun c14=>?_)
                              · simp only [cond_true,cond_false,Bool.and_eq_true,Bool.or_eq_true,Bool.and_eq_false_iff,Bool.or_eq_false_iff,decide_eq_true_eq,decide_eq_false_iff_not,Bool.not_eq_true',Bool.not_eq_false',ne_eq,Decidable.not_not] at c14
                                refine zr (qn qK ty3 (.cons rfl rfl rfl rfl rfl .nil) rfl zF rfl (ql qT Qa (.cons rfl rfl rfl rfl rfl (.cons rfl rfl rfl rfl rfl .nil)) rfl zF rfl (qn qJ qT (.cons rfl rfl rfl rfl rfl .nil) rfl zF rfl (qk rfl rfl qK rfl rfl zM (Nat.le_of_ble_eq_true rfl) zF zU (qk rfl rfl qJ rfl rfl zM (Nat.le_of_ble_eq_true rfl) zF zU (qA ?_))))))
                                refine zm (H2:=H) Tryz.results90 (.nil _) (.own rfl qK rfl zM rfl) (.own rfl qJ rfl zM rfl) zH ?_
                                refine ⟨?_,rfl⟩
                                first
                                  | (subst_vars; rfl)
                                  | (cases hk:isK k with
                                     | false=>simp [shW,shB,hk,Zg,Q1]
                                     | true =>
                                       have h2:k=15∨k=16:=by simp only [isK,Bool.and_eq_true,decide_eq_true_eq] at hk; omega
                                       rcases h2 with rfl | rfl <;> rfl)
                              · simp only [cond_true,cond_false,Bool.and_eq_true,Bool.or_eq_true,Bool.and_eq_false_iff,Bool.or_eq_false_iff,decide_eq_true_eq,decide_eq_false_iff_not,Bool.not_eq_true',Bool.not_eq_false',ne_eq,Decidable.not_not] at c14
                                refine za 4 rfl ?_
                                refine qw rfl (fun c15=>?_) (fun c15=>?_)
                                · simp only [cond_true,cond_false,Bool.and_eq_true,Bool.or_eq_true,Bool.and_eq_false_iff,Bool.or_eq_false_iff,decide_eq_true_eq,decide_eq_false_iff_not,Bool.not_eq_true',Bool.not_eq_false',ne_eq,Decidable.not_not] at c15
                                  refine zr (qn qK ty3 (.cons rfl rfl rfl rfl rfl .nil) rfl zF rfl (ql qT Qa (.cons rfl rfl rfl rfl rfl (.cons rfl rfl rfl rfl rfl .nil)) rfl zF rfl (qn qJ qT (.cons rfl rfl rfl rfl rfl .nil) rfl zF rfl (qk rfl rfl qK rfl rfl zM (Nat.le_of_ble_eq_true rfl) zF zU (qk rfl rfl qJ rfl rfl zM (Nat.le_of_ble_eq_true rfl) zF zU (qA ?_))))))
                                  refine zm (H2:=H) Tryz.results90 (.nil _) (.own rfl qK rfl zM rfl) (.own rfl qJ rfl zM rfl) zH ?_
                                  refine ⟨?_,rfl⟩
                                  first
                                    | (subst_vars; rfl)
                                    | (cases hk:isK k with
                                       | false=>simp [shW,shB,hk,Zg,Q1]
                                       | true =>
                                         have h2:k=15∨k=16:=by simp only [isK,Bool.and_eq_true,decide_eq_true_eq] at hk; omega
                                         rcases h2 with rfl | rfl <;> rfl)
                                · simp only [cond_true,cond_false,Bool.and_eq_true,Bool.or_eq_true,Bool.and_eq_false_iff,Bool.or_eq_false_iff,decide_eq_true_eq,decide_eq_false_iff_not,Bool.not_eq_true',Bool.not_eq_false',ne_eq,Decidable.not_not] at c15
                                  refine za 3 rfl (qn qK ty3 .nil rfl zF rfl (qn qJ qT .nil rfl zF rfl (qk rfl rfl qK rfl rfl zM (Nat.le_of_ble_eq_true rfl) zF zU (qk rfl rfl qJ rfl rfl zM (Nat.le_of_ble_eq_true rfl) zF zU (qA ?_)))))
                                  refine zm (H2:=H) Tryz.results90 (.nil _) (.own rfl qK rfl zM rfl) (.own rfl qJ rfl zM rfl) zH ?_
                                  refine ⟨?_,rfl⟩
                                  first
                                    | (subst_vars; rfl)
                                    | (cases hk:isK k with
                                       | false=>simp [shW,shB,hk,Zg,Q1]
                                       | true =>
                                         have h2:k=15∨k=16:=by simp only [isK,Bool.and_eq_true,decide_eq_true_eq] at hk; omega
                                         rcases h2 with rfl | rfl <;> rfl)
open Go.Script
theorem qdk {f:Nat→Bool} {n:Nat}:(List.range n).any f=false↔∀ i,i<n→f i=false:=by
 rw [← Bool.not_eq_true,List.any_eq_true]
 constructor
 ·intro h i hi
  rw [← Bool.not_eq_true]; exact fun hf=>h ⟨i,List.mem_range.2 hi,hf⟩
 ·rintro h ⟨i,hi,hf⟩
  rw [h i (List.mem_range.1 hi)] at hf; cases hf
theorem qe6 {f:Nat→Bool} {n:Nat} (hi:i<n) (h:f i=true):(List.range n).any f=true:=List.any_eq_true.2 ⟨i,List.mem_range.2 hi,h⟩
section
variable {s:StS} (hk:isK s.kind=true)
include hk
theorem qeU (hi:i<5) (h:Qv (shW s.kind) s.parts i=true):chk s=9:=by
 unfold chk; rw [if_neg (by simp [hk]),if_pos (qe6 hi h)]
variable (hf:∀ i,i<5→Qv (shW s.kind) s.parts i=false)
include hf
theorem qgE (h:0<s.raw.length∧s.kind≠5∧s.kind≠6):chk s=9:=by
 unfold chk; rw [if_neg (by simp [hk]),if_neg (by rw [qdk.2 hf]; decide),if_pos h]
variable (hr:¬ (0<s.raw.length∧s.kind≠5∧s.kind≠6))
include hr
theorem qde (hi:i<3) (h:Ju (shB s.kind) s.abc i=true):chk s=2:=by
 unfold chk; rw [if_neg (by simp [hk]),if_neg (by rw [qdk.2 hf]; decide),if_neg hr,if_pos (qe6 hi h)]
variable (hb:∀ i,i<3→Ju (shB s.kind) s.abc i=false)
include hb
theorem qeS (h:Q3 s.kind s.raw.length=false):chk s=8:=by
 unfold chk; rw [if_neg (by simp [hk]),if_neg (by rw [qdk.2 hf]; decide),if_neg hr,if_neg (by rw [qdk.2 hb]; decide),if_pos h]
theorem qh6 (h:Q3 s.kind s.raw.length=true):chk s=0:=by
 unfold chk; rw [if_neg (by simp [hk]),if_neg (by rw [qdk.2 hf]; decide),if_neg hr,if_neg (by rw [qdk.2 hb]; decide),if_neg (by simp [h])]
end
theorem len5 {l:List Nat} (h:l.length=5):∃ a0 a1 a2 a3 a4,l=[a0,a1,a2,a3,a4]:=by
 match l,h with
 | [a0,a1,a2,a3,a4],_=>exact ⟨_,_,_,_,_,rfl⟩
theorem len6 (h:l.length=6):∃ a0 a1 a2 a3 a4 a5,l=[a0,a1,a2,a3,a4,a5]:=by
 match l,h with
 | [a0,a1,a2,a3,a4,a5],_=>exact ⟨_,_,_,_,_,_,rfl⟩
theorem JJ (s:StS) (ad:Option Addr) (cap:Nat):Qc Tryz.prog (fun _=>True) 45 [.agg (stV s (.slice ad s.raw.length cap)).toArray] (zi (chk s)):=by
 intro w0 H hT
 refine qi Tryz.func45 rfl Tryz.ntmps45 rfl rfl (zr ?_)
 refine qS rfl rfl rfl (fun b1=>?_)
 refine za 5 rfl (qe rfl ty3 rfl (qh.own zM rfl) rfl (qB (zc1 rfl) Tryz.call89 rfl hT (qec _) (za 2 rfl ?_)))
 refine qw rfl (fun c0=>?_) (fun c0=>?_)
 ·simp only [cond_true,cond_false,Bool.and_eq_true,Bool.or_eq_true,Bool.and_eq_false_iff,Bool.or_eq_false_iff,decide_eq_true_eq,decide_eq_false_iff_not,Bool.not_eq_true',Bool.not_eq_false',ne_eq,Decidable.not_not] at c0
  refine za 3 rfl ?_
  refine qj (H2:=H) Tryz.results45 rfl (.nil _) zH ?_
  refine ⟨congrArg (Value.int .i64) (Eq.symm (by unfold chk; rw [if_pos (by simpa using c0)])),rfl⟩
 ·simp only [cond_true,cond_false,Bool.and_eq_true,Bool.or_eq_true,Bool.and_eq_false_iff,Bool.or_eq_false_iff,decide_eq_true_eq,decide_eq_false_iff_not,Bool.not_eq_true',Bool.not_eq_false',ne_eq,Decidable.not_not] at c0
  refine za 3 rfl (qe rfl ty3 rfl (qh.own zM rfl) rfl (qB (zc1 rfl) Tryz.call90 rfl hT (qa1 _) ?_))
  obtain ⟨a0,a1,a2,a3,a4,hw⟩:=len5 (qfv s.kind)
  obtain ⟨e0,e1,e2,e3,e4,e5,he⟩:=len6 (qfw s.kind)
  rw [hw,he]
  simp only [Zg,Q1,List.map_cons,List.map_nil]
  refine za 3 rfl ?_
  refine qH qK rfl rfl (fun b3=>?_)
  refine qH qJ rfl rfl (fun b4=>?_)
  refine qk rfl rfl qK rfl rfl zM (Nat.le_of_ble_eq_true rfl) zF zU (qk rfl rfl qJ rfl rfl zM (Nat.le_of_ble_eq_true rfl) zF zU (za 3 rfl (q8 rfl Ze rfl zM rfl zF rfl (qB (zc1 rfl) Tryz.call91 rfl hT (qbf s _) (za 3 rfl ?_)))))
  refine z0 (X:=Nat) [(1,_),(3,_),(4,_),(20,_)] (fun (i:Nat)=>[(21,zi (i:Int))]) (fun _=>_) (fun _=>_) (fun (i:Nat)=>i≤5∧∀ j,j<i→Qv (shW s.kind) s.parts j=false) (fun (i:Nat)=>5-i) 0 ⟨by omega,fun j hj=>by omega⟩ (qc rfl (qc rfl (qc rfl (qc rfl (qm _))))) (qc rfl (qm _)) rfl zH ?_
  rintro i ⟨hi,hf⟩
  simp only [List.cons_append,List.nil_append]
  refine za 4 rfl ?_
  refine qv (p:=(i:Int)<5) rfl (by simp) (fun c1=>?_) (fun c1=>?_)
  ·skip
   refine za 5 rfl ?_
   refine Yt (v:=zu (s.parts.getD i 0)) (j:=i) rfl rfl qaa ZQ rfl (by first | rfl | omega) (by first | decide | omega) (by rw [Nat.mul_one]; simpa using qcE (l:=s.parts) (i:=i) (by rw [qcV]; omega)) rfl ?_
   refine za 5 rfl ?_
   refine zn (j:=i) rfl rfl qK ty3 (by first | rfl | omega) (by first | decide | omega | simp) rfl rfl ?_
   refine qe rfl ty3 rfl (v:=zi (([a0,a1,a2,a3,a4].getD i 0:Nat):Int)) (qh.own zM (by rw [Nat.zero_add,Nat.mul_one]; exact qdZ (l:=[a0,a1,a2,a3,a4]) (i:=i) (by show i<5; omega))) rfl ?_
   refine za 2 rfl ?_
   apply zj
   iterate 4 exact rfl
   case h1 =>
    intro hg4
    refine za 4 rfl ?_
    exact qO rfl zR
   refine qA ?_
   refine qw rfl (fun c2=>?_) (fun c2=>?_)
   ·simp only [cond_true,cond_false,Bool.and_eq_true,Bool.or_eq_true,Bool.and_eq_false_iff,Bool.or_eq_false_iff,decide_eq_true_eq,decide_eq_false_iff_not,Bool.not_eq_true',Bool.not_eq_false',ne_eq,Decidable.not_not] at c2
    refine za 3 rfl ?_
    refine qj (H2:=H) Tryz.results45 rfl (.nil _) zH ?_
    refine ⟨congrArg (Value.int .i64) (Eq.symm (by exact qeU (by simpa using c0) (i:=i) (by omega) (by unfold Qv; rw [hw,Bool.and_eq_true,decide_eq_true_eq,decide_eq_true_eq]; exact ⟨by omega,c2.2⟩))),rfl⟩
   ·simp only [cond_true,cond_false,Bool.and_eq_true,Bool.or_eq_true,Bool.and_eq_false_iff,Bool.or_eq_false_iff,decide_eq_true_eq,decide_eq_false_iff_not,Bool.not_eq_true',Bool.not_eq_false',ne_eq,Decidable.not_not] at c2
    refine za 3 rfl ?_
    refine qC rfl rfl (qX (m:=((i+1:Nat):Int)) ((qhh zO).trans zO)) rfl ?_
    refine za 2 rfl ?_
    refine qW (i+1) ⟨by omega,fun j hj=>by
     rcases (show j<i∨j=i by omega) with h | rfl
     ·exact hf j h
     ·unfold Qv; rw [hw,← Bool.not_eq_true,Bool.and_eq_true,decide_eq_true_eq,decide_eq_true_eq]; rintro ⟨h1,h2⟩; have h3:(([a0,a1,a2,a3,a4].getD j 0:Nat):Int)=0:=by omega
      simp_all⟩ (by omega) (qc rfl (qc rfl (qc rfl (qc rfl (qc rfl (qm _)))))) rfl zH
  ·skip
   refine za 4 rfl (qe rfl Qx rfl (qh.own zM rfl) rfl (zb rfl Qx rfl rfl (za 2 rfl ?_)))
   apply zj
   iterate 4 exact rfl
   case h1 =>
    intro hg4
    refine za 3 rfl (qe rfl ty3 rfl (qh.own zM rfl) rfl (za 2 rfl ?_))
    exact qO rfl zR
   refine qM rfl rfl ?_
   apply zj
   iterate 4 exact rfl
   case h1 =>
    intro hg9
    refine za 3 rfl (qe rfl ty3 rfl (qh.own zM rfl) rfl (za 2 rfl ?_))
    exact qO rfl zR
   refine qA ?_
   refine qw rfl (fun c2=>?_) (fun c2=>?_)
   ·simp only [cond_true,cond_false,Bool.and_eq_true,Bool.or_eq_true,Bool.and_eq_false_iff,Bool.or_eq_false_iff,decide_eq_true_eq,decide_eq_false_iff_not,Bool.not_eq_true',Bool.not_eq_false',ne_eq,Decidable.not_not] at c2
    refine za 3 rfl ?_
    refine qj (H2:=H) Tryz.results45 rfl (.nil _) zH ?_
    refine ⟨congrArg (Value.int .i64) (Eq.symm (by exact qgE (by simpa using c0) (fun j hj=>hf j (by omega)) (by omega))),rfl⟩
   ·simp only [cond_true,cond_false,Bool.and_eq_true,Bool.or_eq_true,Bool.and_eq_false_iff,Bool.or_eq_false_iff,decide_eq_true_eq,decide_eq_false_iff_not,Bool.not_eq_true',Bool.not_eq_false',ne_eq,Decidable.not_not] at c2
    refine za 4 rfl (qe rfl ty3 rfl (qh.own zM rfl) rfl (za 1 rfl (qe rfl ty3 rfl (qh.own zM rfl) rfl (za 1 rfl (qe rfl ty3 rfl (qh.own zM rfl) rfl ?_)))))
    refine qn (l:=Q1 s.abc) qg7 ty3 (.cons rfl rfl rfl rfl rfl (.cons rfl rfl rfl rfl rfl (.cons rfl rfl rfl rfl rfl .nil))) rfl rfl rfl ?_
    refine za 3 rfl ?_
    refine z0 (X:=Nat) [(1,_),(4,_),(54,_)] (fun (i:Nat)=>[(55,zi (i:Int))]) (fun _=>_) (fun _=>_) (fun (i:Nat)=>i≤3∧∀ j,j<i→Ju (shB s.kind) s.abc j=false) (fun (i:Nat)=>3-i) 0 ⟨by omega,fun j hj=>by omega⟩ (qc rfl (qc rfl (qc rfl (qm _)))) (qc rfl (qm _)) rfl zH ?_
    rintro i ⟨hi,hb⟩
    simp only [List.cons_append,List.nil_append]
    refine za 4 rfl ?_
    refine qv (p:=(i:Int)<3) rfl (by simp) (fun c3=>?_) (fun c3=>?_)
    ·skip
     refine za 5 rfl ?_
     refine Yt (v:=zi (s.abc.getD i 0)) (j:=i) rfl rfl qg7 ty3 rfl (by first | rfl | omega) (by first | decide | omega) (by rw [Nat.mul_one,List.getElem?_toArray]; exact XM (l:=s.abc) (i:=i) (by show i<3; omega)) rfl ?_
     refine za 6 rfl ?_
     refine zn (j:=i) rfl rfl qJ qT (by first | rfl | omega) (by first | decide | omega | simp) rfl rfl ?_
     refine za 1 rfl ?_
     refine qe rfl ty3 rfl (v:=zi ([e0,e1,e2,e3,e4,e5].getD (2*i) 0)) (qh.own zM (by rw [show 0+i*2+0=2*i by omega]; exact XM (l:=[e0,e1,e2,e3,e4,e5]) (i:=2*i) (by show 2*i<6; omega))) rfl ?_
     refine za 2 rfl ?_
     apply YN
     iterate 4 exact rfl
     case h1 =>
      intro hg6
      refine za 5 rfl ?_
      refine zn (j:=i) rfl rfl qJ qT (by first | rfl | omega) (by first | decide | omega | simp) rfl rfl ?_
      refine za 3 rfl ?_
      refine qe rfl ty3 rfl (v:=zi ([e0,e1,e2,e3,e4,e5].getD (2*i+1) 0)) (qh.own zM (by rw [show 0+i*2+1=2*i+1 by omega]; exact XM (l:=[e0,e1,e2,e3,e4,e5]) (i:=2*i+1) (by show 2*i+1<6; omega))) rfl ?_
      refine za 2 rfl ?_
      exact qO rfl zR
     refine qA ?_
     refine qw rfl (fun c4=>?_) (fun c4=>?_)
     ·simp only [cond_true,cond_false,Bool.and_eq_true,Bool.or_eq_true,Bool.and_eq_false_iff,Bool.or_eq_false_iff,decide_eq_true_eq,decide_eq_false_iff_not,Bool.not_eq_true',Bool.not_eq_false',ne_eq,Decidable.not_not] at c4
      refine za 3 rfl ?_
      refine qj (H2:=H) Tryz.results45 rfl (.nil _) zH ?_
      refine ⟨congrArg (Value.int .i64) (Eq.symm (by exact qde (by simpa using c0) (fun j hj=>hf j (by omega)) (by omega) (i:=i) (by omega) (by unfold Ju; rw [he,Bool.or_eq_true,decide_eq_true_eq,decide_eq_true_eq]; exact c4))),rfl⟩
     ·simp only [cond_true,cond_false,Bool.and_eq_true,Bool.or_eq_true,Bool.and_eq_false_iff,Bool.or_eq_false_iff,decide_eq_true_eq,decide_eq_false_iff_not,Bool.not_eq_true',Bool.not_eq_false',ne_eq,Decidable.not_not] at c4
      refine za 3 rfl ?_
      refine qC rfl rfl (qX (m:=((i+1:Nat):Int)) ((qhh zO).trans zO)) rfl ?_
      refine za 2 rfl ?_
      refine qW (i+1) ⟨by omega,fun j hj=>by
       rcases (show j<i∨j=i by omega) with h | rfl
       ·exact hb j h
       ·unfold Ju; rw [he,← Bool.not_eq_true,Bool.or_eq_true,decide_eq_true_eq,decide_eq_true_eq]; omega⟩ (by omega) (qc rfl (qc rfl (qc rfl (qc rfl (qm _))))) rfl zH
    ·skip
     refine za 4 rfl (qe rfl ty3 rfl (qh.own zM rfl) rfl (za 1 rfl (qe rfl Qx rfl (qh.own zM rfl) rfl (zb rfl Qx rfl rfl (qB (zc2 rfl rfl) Tryz.call92 rfl hT (qdR _ _ zO) (za 2 rfl ?_))))))
     refine qw rfl (fun c4=>?_) (fun c4=>?_)
     ·simp only [cond_true,cond_false,Bool.and_eq_true,Bool.or_eq_true,Bool.and_eq_false_iff,Bool.or_eq_false_iff,decide_eq_true_eq,decide_eq_false_iff_not,Bool.not_eq_true',Bool.not_eq_false',ne_eq,Decidable.not_not] at c4
      refine za 3 rfl ?_
      refine qj (H2:=H) Tryz.results45 rfl (.nil _) zH ?_
      refine ⟨congrArg (Value.int .i64) (Eq.symm (by exact qeS (by simpa using c0) (fun j hj=>hf j (by omega)) (by omega) (fun j hj=>hb j (by omega)) (by simpa using c4))),rfl⟩
     ·simp only [cond_true,cond_false,Bool.and_eq_true,Bool.or_eq_true,Bool.and_eq_false_iff,Bool.or_eq_false_iff,decide_eq_true_eq,decide_eq_false_iff_not,Bool.not_eq_true',Bool.not_eq_false',ne_eq,Decidable.not_not] at c4
      refine za 4 rfl ?_
      refine qj (H2:=H) Tryz.results45 rfl (.nil _) zH ?_
      refine ⟨congrArg (Value.int .i64) (Eq.symm (by exact qh6 (by simpa using c0) (fun j hj=>hf j (by omega)) (by omega) (fun j hj=>hb j (by omega)) (by simpa using c4))),rfl⟩
open Go.Script (chk Q3 isK shW shB Qv Ju u64)
theorem qeT {a:Int} (ha:a=0∨a=1) {raw:List Int} (h:8≤raw.length∧raw.length≤512∧raw.length%8=0):chk ⟨6,a,0,0,0,0,raw⟩=0:=by
 have h5:Q3 6 (raw.length:Int)=true:=by
  unfold Q3
  rw [if_neg (by decide),if_pos rfl,decide_eq_true (by omega),decide_eq_true (by omega),decide_eq_true (by omega)]; rfl
 rcases ha with rfl | rfl
 ·exact (if_neg (show ¬ (isK 6=false) by decide)).trans ((if_neg (show ¬ ((List.range 5).any (Qv (shW 6) [u64 0,u64 0,u64 0,0,0])=true) by decide)).trans ((if_neg (fun q=>q.2.2 rfl)).trans ((if_neg (show ¬ ((List.range 3).any (Ju (shB 6) [0,0,0])=true) by decide)).trans (if_neg (show ¬ (Q3 6 (raw.length:Int)=false) by rw [h5]; decide)))))
 ·exact (if_neg (show ¬ (isK 6=false) by decide)).trans ((if_neg (show ¬ ((List.range 5).any (Qv (shW 6) [u64 1,u64 0,u64 0,0,0])=true) by decide)).trans ((if_neg (fun q=>q.2.2 rfl)).trans ((if_neg (show ¬ ((List.range 3).any (Ju (shB 6) [1,0,0])=true) by decide)).trans (if_neg (show ¬ (Q3 6 (raw.length:Int)=false) by rw [h5]; decide)))))
theorem Ji (L:List Ev) (lost:Int) (e:Ev):lost≤(QF L lost e).2∧(QF L lost e).2≤lost+1:=by
 unfold QF
 split
 ·exact ⟨Int.le_refl _,by show lost≤lost+1; omega⟩
 ·split
  ·exact ⟨by show lost≤lost+1; omega,Int.le_refl _⟩
  ·exact ⟨Int.le_refl _,by show lost≤lost+1; omega⟩
set_option maxRecDepth 100000
theorem Kz {w0:World} {H:qg} {kb T now:Nat} {F:Lf} {HF XB:qg} {r:Kr} {L:List Ev} {l:List Ins} {b o cap:Nat} {a:Int} (hF:QI r.lf T F HF) (hs:∀ p∈HF,p∈H) (hr:r.Ok) (h0:r.P[0]?=some none) (hO:qQ 91 5 r.lv (L).length ((L).flatMap evC) XB) (hL:L.length≤4096) (hlo:0≤r.lost∧r.lost≤1000000000) (hck0:(r.clk,.cells 211 1 [zu ((now:Nat):Int)])∈H) (hl:1≤l.length∧l.length≤64) (ha:a=0∨a=1) (hi:z7 l) (hb:ZE l=0) (hcap:8*l.length≤cap) (hrow:qq w0 H (some ⟨b,o,none⟩) ((Zz l).map (Value.int .u8))) (hT:zN w0):qt Tryz.prog w0 11 #[zp kb,.agg (List.toArray [zi 6,zi a,zi 0,zi 0,zu 0,zu 0,.slice (some ⟨b,o,none⟩) (8*l.length) cap])] ((kb,.cells 113 57 (knC r))::(XB++H)) (fun v H'=>((Qm l (decide (a=1))).2≠0∧v=.tuple #[zu 0,zi (Qm l (decide (a=1))).2]∧∃ lv lo2 XB2,∃ L2:List Ev,qQ 91 5 lv (L2).length ((L2).flatMap evC) XB2∧L2.length≤4096∧(r.lost≤lo2∧lo2≤r.lost+1)∧H'=(kb,.cells 113 57 (knC (r.lg lv lo2)))::(XB2++H))∨((Qm l (decide (a=1))).2=0∧v=.tuple #[zu 0,zi 0]∧∃ pb ada capa XA lv lo2 XB2,∃ L2:List Ev,qQ 45 5 (.slice ada l.length capa) l.length (qI l) XA∧qQ 91 5 lv (L2).length ((L2).flatMap evC) XB2∧L2.length≤4096∧(r.lost≤lo2∧lo2≤r.lost+1)∧H'=(kb,.cells 113 57 (knC ((r.setP 0 pb).lg lv lo2)))::(XB2++((pb,.cells 39 2 [.slice ada l.length capa,.bool (decide (a=1))])::(XA++H))))):=by
 refine qi (l:=[zp kb,.agg (List.toArray [zi 6,zi a,zi 0,zi 0,zu 0,zu 0,.slice (some ⟨b,o,none⟩) (8*l.length) cap])]) Tryz.func11 rfl Tryz.ntmps11 rfl rfl ?_
 refine zr ?_
 refine qS (l:=[zi 6,zi a,zi 0,zi 0,zu 0,zu 0,.slice (some ⟨b,o,none⟩) (8*l.length) cap]) rfl rfl rfl (fun b3=>?_)
 refine za 6 rfl ?_
 refine W_x (qY rfl rfl KH) (fun _ h=>by cases h) rfl ?_
 refine za 5 rfl ?_
 refine q8 (vs:=[zi 6,zi a,zi 0,zi 0,zu 0,zu 0,.slice (some ⟨b,o,none⟩) (8*l.length) cap]) rfl Ze rfl (b:=b3) zM rfl rfl rfl ?_
 have hck:=JJ ⟨6,a,0,0,0,0,Zz l⟩ (some ⟨b,o,none⟩) cap
 rw [qeT ha (by rw [Yi]; omega),show (Go.Script.StS.mk 6 a 0 0 0 0 (Zz l)).raw.length=8*l.length from Yi l] at hck
 refine qB (zc1 rfl) Tryz.call45 rfl (T:=fun _=>True) trivial hck ?_
 refine za 10 rfl ?_
 refine q8 (vs:=[zi 6,zi a,zi 0,zi 0,zu 0,zu 0,.slice (some ⟨b,o,none⟩) (8*l.length) cap]) rfl Ze rfl (b:=b3) zM rfl rfl rfl ?_
 refine qu (zc2 rfl rfl) Tryz.call46 rfl ((qaq (H:=(b3,.cells 35 7 [zi 6,zi a,zi 0,zi 0,zu 0,zu 0,.slice (some ⟨b,o,none⟩) (8*l.length) cap])::(XB++H)) hF (fun p hp=>List.mem_cons_of_mem _ (List.mem_append_right _ (hs p hp))) hr h0 zO hi hb hcap (hrow.up zH) hT).hsub zH) ?_
 rintro v H' (⟨hz,rfl,rfl⟩ | ⟨hz,pb,ada,capa,XA,hO2,rfl,rfl⟩)
 ·skip
  refine za 9 rfl ?_
  refine qe (v:=zi 6) rfl ty3 rfl (qh.own (b:=b3) zM rfl) rfl ?_
  refine za 2 rfl ?_
  refine ql (l:=[zu 0,zi 0,zi 6,zi (Qm l (decide (a=1))).2,zu 0]) QZ qfI (.cons rfl rfl rfl rfl rfl (.cons rfl rfl rfl rfl rfl (.cons rfl rfl rfl rfl rfl (.cons rfl rfl rfl rfl rfl .nil)))) rfl zk rfl ?_
  refine qy (l:=[zu 0,zi 0,zi 6,zi (Qm l (decide (a=1))).2,zu 0]) Zo QZ (.cons rfl rfl rfl rfl rfl .nil) rfl rfl rfl rfl rfl rfl rfl (fun b28=>?_)
  refine qu (zc2 rfl rfl) Tryz.call47 rfl ((KN (r:=r) (H:=(b28,.cells 91 5 (evC ⟨0,0,6,(Qm l (decide (a=1))).2,0⟩))::(b3,.cells 35 7 [zi 6,zi a,zi 0,zi 0,zu 0,zu 0,.slice (some ⟨b,o,none⟩) (8*l.length) cap])::H) (L:=L) (e:=⟨0,0,6,(Qm l (decide (a=1))).2,0⟩) (cap:=1) (now:=now) hr hO hL hlo (by first | exact List.mem_cons_of_mem _ (List.mem_cons_of_mem _ hck0) | exact List.mem_cons_of_mem _ (List.mem_cons_of_mem _ (List.mem_cons_of_mem _ (List.mem_append_right _ hck0)))) (qq.own (b:=b28) List.mem_cons_self)).hsub zH) ?_
  rintro v H' ⟨lv,XB',hO',rfl⟩
  refine za 7 rfl ?_
  refine qF (H2:=(kb,.cells 113 57 (knC (r.lg lv (QF L r.lost (Ev.at_ ⟨0,0,6,(Qm l (decide (a=1))).2,0⟩ now)).2)))::(XB'++H)) Tryz.results11 rfl rfl (.nil _) zH ?_
  exact .inl ⟨hz,rfl,lv,_,XB',_,hO',Z1 hL,Ji _ _ _,rfl⟩
 ·skip
  refine za 9 rfl ?_
  refine qe (v:=zi 6) rfl ty3 rfl (qh.own (b:=b3) zM rfl) rfl ?_
  refine za 2 rfl ?_
  refine ql (l:=[zu 0,zi 0,zi 6,zi 0,zu 0]) QZ qfI (.cons rfl rfl rfl rfl rfl (.cons rfl rfl rfl rfl rfl (.cons rfl rfl rfl rfl rfl (.cons rfl rfl rfl rfl rfl .nil)))) rfl zk rfl ?_
  refine qy (l:=[zu 0,zi 0,zi 6,zi 0,zu 0]) Zo QZ (.cons rfl rfl rfl rfl rfl .nil) rfl rfl rfl rfl rfl rfl rfl (fun b28=>?_)
  refine qu (zc2 rfl rfl) Tryz.call47 rfl ((KN (r:=(r.setP 0 pb)) (H:=(b28,.cells 91 5 (evC ⟨0,0,6,0,0⟩))::(b3,.cells 35 7 [zi 6,zi a,zi 0,zi 0,zu 0,zu 0,.slice (some ⟨b,o,none⟩) (8*l.length) cap])::(pb,.cells 39 2 [.slice ada l.length capa,.bool (decide (a=1))])::(XA++H)) (L:=L) (e:=⟨0,0,6,0,0⟩) (cap:=1) (now:=now) (hr.setP 0 pb) hO hL hlo (by first | exact List.mem_cons_of_mem _ (List.mem_cons_of_mem _ hck0) | exact List.mem_cons_of_mem _ (List.mem_cons_of_mem _ (List.mem_cons_of_mem _ (List.mem_append_right _ hck0)))) (qq.own (b:=b28) List.mem_cons_self)).hsub zH) ?_
  rintro v H' ⟨lv,XB',hO',rfl⟩
  refine za 7 rfl ?_
  refine qF (H2:=(kb,.cells 113 57 (knC ((r.setP 0 pb).lg lv (QF L (r.setP 0 pb).lost (Ev.at_ ⟨0,0,6,0,0⟩ now)).2)))::(XB'++((pb,.cells 39 2 [.slice ada l.length capa,.bool (decide (a=1))])::(XA++H)))) Tryz.results11 rfl rfl (.nil _) zH ?_
  exact .inr ⟨hz,rfl,pb,ada,capa,XA,lv,_,XB',_,hO2,hO',Z1 hL,Ji _ _ _,rfl⟩
structure Va where
 ref:Bool
 m:Int
 slot:Int
 gen:Int
 n:Int
deriving DecidableEq
def JU:Va:=⟨false,0,0,0,0⟩
def vaC (v:Va):List Value:=[.bool v.ref,zi v.m,zi v.slot,zi v.gen,zu v.n]
abbrev QL (l:List Va):List Value:=l.flatMap vaC
theorem qhv (v:Va):(vaC v).length=5:=rfl
theorem Kk (l:List Va):(QL l).length=l.length*5:=Za qhv l
theorem qfl (n:Int):Qc Tryz.prog (fun _=>True) 167 [zu n] (.agg (vaC ⟨false,0,0,0,n⟩).toArray):=by
 intro w0 H hT
 refine qi Tryz.func167 rfl Tryz.ntmps167 rfl rfl (zr ?_)
 refine qH Xq rfl rfl (fun b2=>?_)
 refine za 3 rfl (ql Xq pl269 (.cons rfl rfl rfl rfl rfl .nil) rfl zF rfl (qk rfl rfl Xq rfl rfl zM (Nat.le_of_ble_eq_true rfl) zF zU (qA ?_)))
 refine zt (H2:=H) Tryz.results167 rfl (.nil _) Xq rfl zM rfl zH ?_
 exact ⟨rfl,rfl⟩
def qbk (l:List Va):List Va:=JU::(l++List.replicate (17-l.length) JU)
theorem qdu:∀ l:List Va,(QL l).all Value.oneCell'=true
 | []=>rfl
 | a::l=>by
  have e:QL (a::l)=vaC a++QL l:=rfl
  rw [e,List.all_append,qdu l]; rfl
theorem qbj:∀ {l:List Va},l.length≤5→zA (QL (List.replicate 18 JU)) 5 (QL l)=QL (qbk l)
 | [],_=>rfl
 | [_],_=>rfl
 | [_,_],_=>rfl
 | [_,_,_],_=>rfl
 | [_,_,_,_],_=>rfl
 | [_,_,_,_,_],_=>rfl
 | _::_::_::_::_::_::l,h=>by simp only [List.length_cons] at h; omega
theorem qif {w0:World} {H:qg} {l:List Va} {ad:Option Addr} {cap:Nat} (hl:l.length≤5) (hrow:qq w0 H ad (QL l)) :qt Tryz.prog w0 230 #[.slice ad l.length cap] (H) (fun v H'=>∃ bf,v=.tuple #[zp bf,zi 0]∧H'=(bf,.cells 461 90 (QL (qbk l)))::H):=by
 refine qi (l:=[.slice ad l.length cap]) Tryz.func230 rfl Tryz.ntmps230 rfl rfl ?_
 refine za 7 rfl (zb rfl qdy rfl rfl (za 2 rfl ?_))
 refine qw rfl (fun c0=>?_) (fun c0=>?_)
 ·simp only [cond_true,cond_false,Bool.and_eq_true,Bool.or_eq_true,Bool.and_eq_false_iff,Bool.or_eq_false_iff,decide_eq_true_eq,decide_eq_false_iff_not,Bool.not_eq_true',Bool.not_eq_false',ne_eq,Decidable.not_not] at c0
  refine za 4 rfl ?_
  refine qF (H2:=H) Tryz.results230 rfl rfl (.nil _) zH ?_
  omega
 ·simp only [cond_true,cond_false,Bool.and_eq_true,Bool.or_eq_true,Bool.and_eq_false_iff,Bool.or_eq_false_iff,decide_eq_true_eq,decide_eq_false_iff_not,Bool.not_eq_true',Bool.not_eq_false',ne_eq,Decidable.not_not] at c0
  refine za 2 rfl (ql ty461 pl461 .nil rfl zF rfl ?_)
  refine qS rfl rfl rfl (fun b9=>?_)
  refine za 6 rfl ?_
  refine W_x (JO (l:=1) (hh:=10) rfl qgZ Xq ⟨_,rfl⟩ rfl zd zd zd) (fun _ h=>by cases h) rfl ?_
  refine qM rfl rfl ?_
  refine qib rfl rfl qdy Xq (kk:=l.length) (by omega) (Kk l) (hrow.up zH) (qdu l) zM (by rw [Kk]; show 5+l.length*5≤90; omega) (qbj hl) zU rfl ?_
  refine za 6 rfl ?_
  refine qF (H2:=(b9,.cells 461 90 (QL (qbk l)))::H) Tryz.results230 rfl rfl (.nil _) zH ?_
  exact ⟨b9,rfl,rfl⟩
instance:Inhabited Va:=⟨⟨false,0,0,0,0⟩⟩
def Va.In (v:Va):Prop:=(-9223372036854775808≤v.m∧v.m≤9223372036854775807)∧(-9223372036854775808≤v.slot∧v.slot≤9223372036854775807)∧(-9223372036854775808≤v.gen∧v.gen≤9223372036854775807)∧(0≤v.n∧v.n≤18446744073709551615)
def Ins.C (x:Ins):List Value:=[zi x.op,zi x.dst,zi x.src,zi x.off,zi x.imm]
structure Xe (l:List Va) (V:List Va):Prop where
 len:V.length=18
 of:∀ v∈V,Wd v.n∧(v.ref=true→v∈l)
structure Tr where
 kind:Int
 helper:Int
 off:Int
 a0:Va
 a1:Va
 a2:Va
 a3:Va
 a4:Va
 ref:Va
 n:Int
deriving DecidableEq
def trZ:Tr:=⟨0,0,0,JU,JU,JU,JU,JU,JU,0⟩
def trC (t:Tr):List Value:=[zi t.kind,zi t.helper,zi t.off,.bool t.a0.ref,zi t.a0.m,zi t.a0.slot,zi t.a0.gen,zu t.a0.n,.bool t.a1.ref,zi t.a1.m,zi t.a1.slot,zi t.a1.gen,zu t.a1.n,.bool t.a2.ref,zi t.a2.m,zi t.a2.slot,zi t.a2.gen,zu t.a2.n,.bool t.a3.ref,zi t.a3.m,zi t.a3.slot,zi t.a3.gen,zu t.a3.n,.bool t.a4.ref,zi t.a4.m,zi t.a4.slot,zi t.a4.gen,zu t.a4.n,.bool t.ref.ref,zi t.ref.m,zi t.ref.slot,zi t.ref.gen,zu t.ref.n,zu t.n]
structure Vs where
 V:List Va
 at_:Int
 fuel:Int
 asks:Bool
 over:Bool
 opn:Tr
 why:Int
 res:Int
deriving DecidableEq
def qfz (bf:Nat) (ad:Option Addr) (n cap:Nat) (r:Vs):List Value :=
 zp bf::.slice ad n cap::zi r.at_::zi r.fuel::.bool r.asks::.bool r.over::(trC r.opn++[zi r.why,zu r.res])
def endF (r:Vs) (e:Int):Vs:={ r with over:=true,asks:=false,why:=e,opn:=trZ }
end Go.Proofs.YtcggkokeggfdkaaGreatDoor
