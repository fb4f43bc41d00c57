/-
  Own work: contracts of functions that the statement reaches, and plain facts on what they compute; each theorem says its conditions.
-/
import Derived.Test.YtincjohoncljoaaGreatDoorLhT2
import Derived.Test.YtincjohoncljoaaGreatDoorLhS2
import Derived.Test.YtincjohoncljoaaGreatDoorLhA
set_option linter.all false
set_option linter.unusedSimpArgs false
set_option linter.unusedVariables false
set_option maxHeartbeats 16000000
namespace Go.Proofs.YtincjohoncljoaaGreatDoor
open Go Go.Sl
variable {i cap k now turn c n pb rb lb gb sb:Nat} {x id gen last:Int} {l:Qn Int} {w0:World} {H B HB HG HL:qe} {sl:List Value} {XS:List qe} {bs rbs:List Nat} {Q Rs q:List (Int × Int)} {rn of_:List Int} {v:Value} {ad:Option Addr}
attribute [local irreducible] W
theorem qcW {d:List Int} (h:i<d.length):(d.set i x).take (i+1)=d.take i++[x]:=by
 rw [ZR (l:=d.set i x) (i:=i) (x:=x) (by rw [List.getElem?_set_self h]),List.take_set_of_le (Nat.le_refl i)]
theorem qcZ {l vs:List Value} (h:i≤l.length):(zf l i vs).take i=l.take i:=by
 unfold zf
 rw [List.append_assoc,List.take_append_of_le_length (by rw [List.length_take]; omega),List.take_take,Nat.min_self]
theorem qjb {l:List Int} {b bd tot:Nat} (hl:l.length≤4611686018427387904) (hcap:l.length≤cap) (hbd:(bd,.cells 3 1 [zi id])∈H) :qk Tryz.prog w0 406 #[.slice (some ⟨b,0,none⟩) l.length cap,.func (.func 407) #[] #[zp bd]] ((b,.cells 3 tot ((l).map (Value.int .i64)))::H) (fun v H'=>v=.slice (some ⟨b,0,none⟩) (Q9 l id).length cap∧H'=(b,.cells 3 tot ((Q9 l id).map (Value.int .i64)))::H):=by
 refine qd (l:=[.slice (some ⟨b,0,none⟩) l.length cap,.func (.func 407) #[] #[zp bd]]) Tryz.func406 rfl Tryz.ntmps406 rfl rfl ?_
 refine za 6 rfl ?_
 refine qn (zc2 rfl rfl) Tryz.call432 rfl ((qkS (l:=l) (bd:=bd) (id:=id) hl (List.mem_cons_of_mem _ hbd) (Holds.own (b:=b) zM)).hsub (.refl _)) ?_
 rintro v H' ⟨z,rfl,hz,hH⟩
 subst H'
 rcases hz with ⟨i0,rfl,hi0,hn0⟩ | ⟨rfl,hn0⟩
 ·skip
  have hil:i0+1≤l.length:=(List.getElem?_eq_some_iff.1 hi0).1
  refine za 7 rfl (QM rfl (decide_eq_false zO) (za 4 rfl ?_))
  refine qF rfl rfl (qM (m:=((i0+1:Nat):Int)) (by rw [qW (by omega)]; omega)) rfl ?_
  refine za 3 rfl ?_
  refine qV (X:=(Nat × Nat × List Int)) [(0,_),(1,_)] (fun (x:(Nat × Nat × List Int))=>[(5,zi (x.1:Int)),(6,zi (x.2.1:Int))]) (fun _=>_) (fun (x:(Nat × Nat × List Int))=>(b,.cells 3 tot ((x.2.2).map (Value.int .i64)))::H) (fun (x:(Nat × Nat × List Int))=>x.2.2.length=l.length∧x.2.1≤l.length∧x.1<x.2.1∧x.2.2.take x.1=Q9 (l.take x.2.1) id∧x.2.2.drop x.2.1=l.drop x.2.1) (fun (x:(Nat × Nat × List Int))=>l.length-x.2.1) (i0,i0+1,l) ⟨rfl,hil,Nat.lt_succ_self _,by rw [K8 hi0,if_pos rfl,List.append_nil,KE hn0],rfl⟩ (qc rfl (qc rfl (qi _))) (qc rfl (qc rfl (qi _))) rfl zH ?_
  rintro ⟨i,j,d⟩ ⟨hdl,hj,hij,hdt,hdd⟩
  dsimp only at hdl hj hij hdt hdd ⊢
  simp only [List.cons_append,List.nil_append]
  refine za 4 rfl (zY rfl qZ rfl rfl (za 2 rfl ?_))
  refine qq (p:=(j:Int)<(l.length:Int)) rfl (by simp) (fun q0=>?_) (fun q0=>?_)
  ·skip
   refine za 4 rfl ?_
   obtain ⟨x,hx⟩:∃ x,l[j]?=some x:=⟨_,List.getElem?_eq_getElem zO⟩
   have hdx:d[j]?=some x:=by
    have h:=congrArg (fun q=>q[0]?) hdd
    simpa [hx] using h
   refine za 2 rfl ?_
   refine qN (j:=j) rfl rfl qZ ty3 rfl zO (at_:=j) zO rfl ?_
   refine qf (v:=zi x) rfl ty3 rfl (qh.own (b:=b) zM (by rw [List.getElem?_map,hdx]; rfl)) rfl ?_
   refine za 5 rfl ?_
   refine YI (fa:=[]) (ca:=[zp bd]) rfl (.cons rfl .nil) rfl Tryz.call407 rfl (qma (bd:=bd) (id:=id) (List.mem_cons_of_mem _ hbd)) ?_
   refine za 2 rfl ?_
   refine qq (p:=¬ x=id) rfl (by simp) (fun q1=>?_) (fun q1=>?_)
   ·skip
    refine za 4 rfl ?_
    refine qN (j:=i) rfl rfl qZ ty3 rfl zO (at_:=i) zO rfl ?_
    refine qy (l':=(d.set i x).map (Value.int .i64)) rfl rfl ty3 rfl rfl (b:=b) zM (by rw [Nat.blt_eq,List.length_map]; omega) (by rw [List.map_set]) zU ?_
    refine za 3 rfl ?_
    refine qF rfl rfl (qM (m:=((i+1:Nat):Int)) (by rw [qW (by omega)]; omega)) rfl ?_
    refine za 5 rfl ?_
    refine qF rfl rfl (qM (m:=((j+1:Nat):Int)) (by rw [qW (by omega)]; omega)) rfl ?_
    refine za 2 rfl ?_
    refine qI (i+1,j+1,d.set i x) ⟨by show (d.set i x).length=_; rw [List.length_set,hdl],by show j+1≤l.length; omega,by show i+1<j+1; omega,by show (d.set i x).take (i+1)=_; rw [qcW (by omega),hdt,K8 hx,if_neg q1],by show (d.set i x).drop (j+1)=_; rw [List.drop_set_of_lt (by omega),← List.drop_drop,hdd,List.drop_drop]⟩ (by show l.length-(j+1)<l.length-j; omega) (qc rfl (qc rfl (qc rfl (qc rfl (qi _))))) rfl zH
   ·skip
    refine za 4 rfl ?_
    refine qF rfl rfl (qM (m:=((j+1:Nat):Int)) (by rw [qW (by omega)]; omega)) rfl ?_
    refine za 2 rfl ?_
    refine qI (i,j+1,d) ⟨hdl,by show j+1≤l.length; omega,by show i<j+1; omega,by show d.take i=_; rw [hdt,K8 hx,if_pos (Classical.not_not.1 q1),List.append_nil],by show d.drop (j+1)=_; rw [← List.drop_drop,hdd,List.drop_drop]⟩ (by show l.length-(j+1)<l.length-j; omega) (qc rfl (qc rfl (qc rfl (qc rfl (qi _))))) rfl zH
  ·skip
   refine za 4 rfl ?_
   refine qfc (l:=i) (hh:=l.length) rfl qZ ty3 ⟨_,rfl⟩ rfl zO hcap rfl (fun o1 ho1=>?_)
   obtain rfl:o1=i:=by have:=ho1 zO; omega
   refine qlB (l':=zf (d.map (Value.int .i64)) o1 (List.replicate (l.length-o1) (zi 0))) rfl qZ ty3 rfl (by omega) (b:=b) zM (by rw [List.length_map]; omega) rfl zU ?_
   refine za 4 rfl ?_
   refine qdP (hh:=o1) rfl qZ ty3 rfl ⟨_,rfl⟩ zO rfl ?_
   obtain rfl:j=l.length:=by omega
   rw [List.take_length] at hdt
   have hol:o1=(Q9 l id).length:=by rw [← hdt,List.length_take]; omega
   have hcut:(zf (d.map (Value.int .i64)) o1 (List.replicate (l.length-o1) (zi 0))).take o1=(Q9 l id).map (Value.int .i64):=by rw [qcZ (by rw [List.length_map]; omega),← List.map_take,hdt]
   refine za 2 rfl ?_
   refine qj (H2:=(b,.cells 3 tot ((Q9 l id).map (Value.int .i64)))::H) Tryz.results406 rfl (.nil _) (by rw [← hcut]; exact qr.cut) ?_
   exact ⟨by rw [hol],rfl⟩
 ·skip
  refine za 12 rfl ?_
  refine qj (H2:=(b,.cells 3 tot ((l).map (Value.int .i64)))::H) Tryz.results406 rfl (.nil _) (.refl _) ?_
  exact ⟨by rw [KE hn0],by rw [KE hn0]⟩
theorem qkQ:Z3 Tryz.prog 3 (Value.int .i64):=qcw ty3.und
def qb6:Value:=.agg #[zi 0,zi 0,zu 0,zu 0,zi 0]
theorem zEz (w:World):(zeroValue 408).run Tryz.prog w=.ok qb6 w:=qcS.zero w
structure Tm where
 id:Int
 s:qjT
 turn:Nat
variable {L:List Tm}
def Tm.key (t:Tm):Nat:=t.s.lv*64+t.s.slot
def zZ (L:List Tm) (k:Nat):List Int:=(L.filter (fun t=>decide (t.key=k))).map (·.id)
def K7 (L:List Tm) (id:Int):List Tm:=L.filter (fun t=>decide (t.id≠id))
theorem Xv (L:List Tm) (id:Int) (k:Nat):zZ (K7 L id) k=Q9 (zZ L k) id:=by
 unfold zZ K7 Q9
 rw [List.filter_map,List.filter_filter,List.filter_filter]
 congr 1
 refine List.filter_congr fun t _=>?_
 exact Bool.and_comm _ _
theorem qbX:id∈zZ L k↔∃ t∈L,t.key=k∧t.id=id:=by
 unfold zZ
 rw [List.mem_map]
 exact ⟨fun ⟨t,h,e⟩=>⟨t,(List.mem_filter.1 h).1,of_decide_eq_true (List.mem_filter.1 h).2,e⟩,fun ⟨t,h,e,e2⟩=>⟨t,List.mem_filter.2 ⟨h,decide_eq_true e⟩,e2⟩⟩
structure qaA (now:Nat) (L:List Tm) (sl:List Value) (XS:List qe) (bs:List Nat) (l:Qn Int) (c turn:Nat):Prop where
 row:Z2 sl bs
 xs:XS.length=512
 own:∀ k,k<512→∃ v X,sl[k]?=some v∧XS[k]?=some X∧zz 3 1 v (zZ L k).length ((zZ L k).map (Value.int .i64)) X
 busy:∀ n,n<8→∃ z,bs[n]?=some z∧z<18446744073709551616∧∀ s,s<64→(z.testBit s=true↔zZ L (n*64+s)≠[])
 map:QH l c
 keys:(l.map (·.1)).Perm (L.map (·.id))
 val:∀ p∈l,∃ t∈L,t.id=p.1∧p.2.1=.agg (t.s.v++[Value.int .i64 ((t.turn:Nat):Int)]).toArray
 nodup:(L.map (·.id)).Nodup
 turns:L.Pairwise (fun a b=>a.turn<b.turn)
 last:∀ t∈L,t.turn≤turn
 range:∀ t∈L,0≤t.id∧t.id<256
 spot:∀ t∈L,t.s.lv<8∧t.s.slot<64
 time:∀ t∈L,∃ num,t.s.slot=num%64∧t.s.due=tickT num t.s.lv∧now/8 ^ t.s.lv<num∧num≤now/8 ^ t.s.lv+64∧num*8 ^ t.s.lv<18446744073709551615+8 ^ t.s.lv
theorem qaA.new:qaA now [] sl0 (List.replicate 512 []) bs0 [] 0 0 where
 row:=ok0
 xs:=List.length_replicate
 own k hk:=⟨_,_,by unfold sl0; rw [List.getElem?_replicate,if_pos hk],by rw [List.getElem?_replicate,if_pos hk],zz.nil⟩
 busy n hn:=⟨0,by unfold bs0; rw [List.getElem?_replicate,if_pos hn],by decide,fun s _=>by simp [zZ]⟩
 map:=QH.nil 0
 keys:=.nil
 val:=fun _ h=>by cases h
 nodup:=List.nodup_nil
 turns:=.nil
 last:=fun _ h=>by cases h
 range:=fun _ h=>by cases h
 spot:=fun _ h=>by cases h
 time:=fun _ h=>by cases h
theorem qcc:∀ {L:List Tm} {t u:Tm},(L.map (·.id)).Nodup→t∈L→u∈L→t.id=u.id→t=u
 | x::L,t,u,hn,ht,hu,e=>by
  rw [List.map_cons,List.nodup_cons] at hn
  rcases List.mem_cons.1 ht with rfl | ht' <;> rcases List.mem_cons.1 hu with rfl | hu'
  ·rfl
  ·exact absurd (e ▸ List.mem_map_of_mem hu') hn.1
  ·exact absurd (e ▸ List.mem_map_of_mem ht') hn.1
  ·exact qcc hn.2 ht' hu' e
theorem qls {z s j:Nat} (hj:j<64) (hs:s<64):(z &&& (18446744073709551615-ZX (j:Int))).testBit s=(z.testBit s && decide (s≠j)):=by
 have e:ZX (j:Int)=2 ^ j:=by unfold ZX; rw [if_pos (by omega)]; rfl
 have hp:=qdb hj
 have e2:18446744073709551615-2 ^ j=2 ^ 64-(2 ^ j+1):=by omega
 rw [e,Nat.testBit_and,e2,Nat.testBit_two_pow_sub_succ (by omega),Nat.testBit_two_pow,decide_eq_true hs]
 congr 1
 rw [Bool.true_and,← decide_not]
 exact decide_eq_decide.2 ⟨fun h e=>h e.symm,fun h e=>h e.symm⟩
theorem qaA.del {z:Nat} {bs':List Nat} (h:qaA now L sl XS bs l c turn) {t:Tm} (ht:t∈L) {v':Value} {X':qe}
  (hO:zz 3 1 v' (Q9 (zZ L t.key) t.id).length ((Q9 (zZ L t.key) t.id).map (Value.int .i64)) X') (hz:bs[t.s.lv]?=some z) (hb:bs'=if (Q9 (zZ L t.key) t.id).length=0 then bs.set t.s.lv (QU z [(t.s.slot:Int)]) else bs) :
  qaA now (K7 L t.id) (sl.set t.key v') (XS.set t.key X') bs' (JL l t.id) c turn:=by
 have hs:=h.spot t ht
 have hk:t.key<512:=by unfold Tm.key; omega
 have hoth:∀ k,k≠t.key→Q9 (zZ L k) t.id=zZ L k:=fun k hne=>KE (fun hin=>by
  obtain ⟨u,hu,h1,h2⟩:=qbX.1 hin
  exact hne (h1 ▸ qcc h.nodup hu ht h2 ▸ rfl))
 have hin:∀ {p:Tm→Prop},(∀ t∈L,p t)→∀ u∈K7 L t.id,p u:=fun h1 u hu=>h1 u (List.mem_filter.1 hu).1
 have hrow:Z2 (sl.set t.key v') bs':=by rw [hb]; split; exact (h.row.setSl _ _).setBs _ _; exact h.row.setSl _ _
 refine ⟨hrow,by rw [List.length_set,h.xs],fun k hk2=>?_,fun n hn=>?_,h.map.del t.id,?_,?_,?_,h.turns.filter _,hin h.last,hin h.range,hin h.spot,hin h.time⟩
 ·rw [Xv]
  by_cases ek:t.key=k
  ·subst ek
   exact ⟨v',X',List.getElem?_set_self (by rw [h.row.sl]; exact hk),List.getElem?_set_self (by rw [h.xs]; exact hk),hO⟩
  ·rw [hoth k (fun e=>ek e.symm)]
   obtain ⟨v,X,h1,h2,h3⟩:=h.own k hk2
   exact ⟨v,X,by rw [List.getElem?_set_ne ek]; exact h1,by rw [List.getElem?_set_ne ek]; exact h2,h3⟩
 ·obtain ⟨zn,h1,h2,h3⟩:=h.busy n hn
  have keep:∀ s,s<64→n*64+s≠t.key→(zn.testBit s=true↔zZ (K7 L t.id) (n*64+s)≠[]):=fun s hs64 hne=>by rw [Xv,hoth _ hne]; exact h3 s hs64
  by_cases he:(Q9 (zZ L t.key) t.id).length=0
  ·rw [hb,if_pos he]
   have hnil:=List.eq_nil_of_length_eq_zero he
   by_cases en:t.s.lv=n
   ·subst en
    obtain rfl:z=zn:=Option.some.inj (hz.symm.trans h1)
    refine ⟨_,List.getElem?_set_self (by rw [h.row.bs]; exact hn),Xt _ h2,fun s hs64=>?_⟩
    show (z &&& (18446744073709551615-ZX (t.s.slot:Int))).testBit s=true↔_
    rw [qls hs.2 hs64]
    by_cases es:s=t.s.slot
    ·subst es
     rw [Xv,show t.s.lv*64+t.s.slot=t.key from rfl,hnil]; simp
    ·rw [decide_eq_true es,Bool.and_true]
     exact keep s hs64 (by unfold Tm.key; omega)
   ·exact ⟨zn,by rw [List.getElem?_set_ne en]; exact h1,h2,fun s hs64=>keep s hs64 (by unfold Tm.key; omega)⟩
  ·rw [hb,if_neg he]
   refine ⟨zn,h1,h2,fun s hs64=>?_⟩
   by_cases ek:n*64+s=t.key
   ·rw [h3 s hs64,ek,Xv]
    exact ⟨fun _ e=>he (by rw [e]; rfl),fun _ e=>he (by rw [e]; rfl)⟩
   ·exact keep s hs64 ek
 ·have e1:(JL l t.id).map (·.1)=(l.map (·.1)).filter (fun x=>decide (t.id≠x)):=by unfold JL; rw [List.filter_map]; rfl
  have e2:(K7 L t.id).map (·.id)=(L.map (·.id)).filter (fun x=>decide (t.id≠x)):=by
   unfold K7; rw [List.filter_map]; congr 1
   exact List.filter_congr fun u _=>decide_eq_decide.2 ⟨fun h e=>h e.symm,fun h e=>h e.symm⟩
  rw [e1,e2]; exact h.keys.filter _
 ·intro p hp
  obtain ⟨hp1,hp2⟩:=List.mem_filter.1 hp
  obtain ⟨u,hu,h1,h2⟩:=h.val p hp1
  exact ⟨u,List.mem_filter.2 ⟨hu,decide_eq_true (fun e=>of_decide_eq_true hp2 (e ▸ h1))⟩,h1,h2⟩
 ·exact h.nodup.sublist (List.Sublist.map _ List.filter_sublist)
theorem qi2 (h:XS[k]?=some B):qr (XS.flatten++H) (B++((XS.set k []).flatten++H)) :=
 qr.of_perm (((flat_take h).append_right H).trans (by rw [List.append_assoc]))
theorem qk7 (h:k<XS.length):qr (B++((XS.set k []).flatten++H)) ((XS.set k B).flatten++H) :=
 by
 have h1:=(qbk (B:=B) h).append_right H
 rw [List.append_assoc] at h1
 exact qr.of_perm h1
inductive ZA (bw now:Nat) (L:List Tm) (turn:Nat):qe→Prop
 | mk {bm c:Nat} {sl:List Value} {XS:List qe} {bs:List Nat} {l:Qn Int} (h:qaA now L sl XS bs l c turn):ZA bw now L turn ((bw,.cells 406 523 (Qg now sl bs bm turn))::(bm,.obj (qS (Value.int .i64) l c))::XS.flatten)
theorem KW:∀ {n:Nat} {l:List Int},l.Nodup→(∀ x∈l,0≤x∧x<(n:Int))→l.length≤n
 | 0,l,_,h=>by
  cases l with
  | nil=>exact Nat.le_refl _
  | cons x l=>have:=h x List.mem_cons_self; omega
 | n+1,l,hn,h=>by
  have h1:=KW (n:=n) (hn.filter (fun x=>decide (x≠(n:Int)))) (fun x hx=>by
   obtain ⟨m1,m2⟩:=List.mem_filter.1 hx
   have:=h x m1
   have:=of_decide_eq_true m2
   omega)
  by_cases c:(n:Int)∈l
  ·have h2:l.length=(l.filter (fun x=>decide (x≠(n:Int)))).length+1:=by
    have e:l.erase (n:Int)=l.filter (fun x=>decide (x≠(n:Int))):=by
     rw [hn.erase_eq_filter]
     exact List.filter_congr fun x _=>by
      by_cases e:x=(n:Int) <;> simp [e]
    rw [← e,List.length_erase_of_mem c]
    have:=List.length_pos_of_mem c
    omega
   omega
  ·have h2:l.filter (fun x=>decide (x≠(n:Int)))=l:=List.filter_eq_self.2 fun x hx=>decide_eq_true (fun e=>c (e ▸ hx))
   rw [h2] at h1; omega
theorem qaA.len (h:qaA now L sl XS bs l c turn):L.length≤256:=by
 have:=KW (n:=256) h.nodup (fun x hx=>by
  obtain ⟨t,ht,rfl⟩:=List.mem_map.1 hx
  exact h.range t ht)
 rwa [List.length_map] at this
theorem qfR (L:List Tm) (k:Nat):(zZ L k).length≤L.length:=by
 unfold zZ; rw [List.length_map]; exact List.length_filter_le _ _
theorem qaA.miss (h:qaA now L sl XS bs l c turn) (hn:id ∉ L.map (·.id)):(Ys l id).getD qb6=qb6∧Jz l id=false:=by
 have h1:Jz l id=false:=by
  cases hh:Jz l id with
  | false=>rfl
  | true=>exact absurd (h.keys.mem_iff.1 (YC.1 hh)) hn
 refine ⟨?_,h1⟩
 unfold Ys
 cases hf:l.find? (fun p=>decide (id=p.1)) with
 | none=>rfl
 | some p =>
  exfalso
  have h2:=List.find?_some hf
  have h3:=List.mem_of_find?_eq_some hf
  have:id∈l.map (·.1):=by
   rw [of_decide_eq_true h2]; exact List.mem_map_of_mem h3
  exact hn (h.keys.mem_iff.1 this)
def Zs (Q:List (Int × Int)) (k:Int):List Int:=(Q.filter (fun p=>decide (p.2=k))).map (·.1)
structure QOk (n:Nat) (Q:List (Int × Int)):Prop where
 ids:(Q.map (·.1)).Nodup
 rng:∀ p∈Q,(0≤p.1∧p.1<256)∧0≤p.2∧p.2<(n:Int)
structure JB (rn of_:List Int) (Rs:List (Int × Int)):Prop where
 len1:rn.length=256
 len2:of_.length=32
 b1:∀ x∈rn,0≤x∧x≤32
 b2:∀ x∈of_,0≤x∧x≤256
 r1:∀ (i c:Nat),(rn[i]?=some ((c:Int)+1)↔((i:Int),(c:Int))∈Rs)
 r2:∀ (i c:Nat),(of_[c]?=some ((i:Int)+1)↔((i:Int),(c:Int))∈Rs)
 rng:∀ p∈Rs,(0≤p.1∧p.1<256)∧0≤p.2∧p.2<32
 nd:Rs.Nodup
def Qy (v:Value) (rn of_:List Int):List Value:=v::(rn.map (Value.int .i64)++of_.map (Value.int .i64))
abbrev rbP (rb:Nat):Value:=zp rb
inductive z6 (pb n:Nat) (Q Rs:List (Int × Int)):qe→Prop
 | mk {v:Value} {XQ:qe} {XS:List qe} {rbs:List Nat} {rn of_:List Int} (hv:zz 281 1 v n (rbs.map rbP) XQ) (hl:XS.length=n) (hr:∀ (k:Nat) rb X,rbs[k]?=some rb→XS[k]?=some X→Y2 256 rb (Zs Q (k:Int)) X) (hrun:JB rn of_ Rs) (hq:QOk n Q):z6 pb n Q Rs ((pb,.cells 294 289 (Qy v rn of_))::(XQ++XS.flatten))
theorem qa1 (h:QOk n Q) (k:Int):(Zs Q k).Nodup∧(∀ x∈Zs Q k,0≤x∧x<256):=by
 have hs:List.Sublist (Zs Q k) (Q.map (·.1)):=List.filter_sublist.map _
 refine ⟨h.ids.sublist hs,fun x hx=>?_⟩
 obtain ⟨p,hp,rfl⟩:=List.mem_map.1 (hs.subset hx)
 exact (h.rng p hp).1
theorem qhc (h:QOk n Q) (k:Int):(Zs Q k).length≤256:=KW (qa1 h k).1 (fun x hx=>(qa1 h k).2 x hx)
theorem JB.idn (h:JB rn of_ Rs) {p q:Int × Int} (hp:p∈Rs) (hq:q∈Rs) (e:p.1=q.1∨p.2=q.2):p=q:=by
 obtain ⟨i,a⟩:=p
 obtain ⟨j,b⟩:=q
 have h1:=h.rng _ hp
 have h2:=h.rng _ hq
 dsimp only at h1 h2 e
 obtain ⟨i,rfl⟩:∃ m:Nat,i=(m:Int):=⟨i.toNat,by omega⟩
 obtain ⟨j,rfl⟩:∃ m:Nat,j=(m:Int):=⟨j.toNat,by omega⟩
 obtain ⟨a,rfl⟩:∃ m:Nat,a=(m:Int):=⟨a.toNat,by omega⟩
 obtain ⟨b,rfl⟩:∃ m:Nat,b=(m:Int):=⟨b.toNat,by omega⟩
 rcases e with e | e
 ·have h3:=(h.r1 i a).2 hp
  rw [show i=j by omega,(h.r1 j b).2 hq] at h3
  have:=Option.some.inj h3
  rw [e,show a=b by omega]
 ·have h3:=(h.r2 i a).2 hp
  rw [show a=b by omega,(h.r2 j b).2 hq] at h3
  have:=Option.some.inj h3
  rw [e,show i=j by omega]
theorem qfE (h1:rn.length=256) (h2:of_.length=32):(Qy v rn of_).length=289:=by
 unfold Qy; simp [h1,h2]
theorem qdh (h:rn[i]?=some x):(Qy v rn of_)[1+i]?=some (zi x):=by
 unfold Qy
 rw [Nat.add_comm,List.getElem?_cons_succ,List.getElem?_append_left (by rw [List.length_map]; exact (List.getElem?_eq_some_iff.1 h).1),List.getElem?_map,h]; rfl
def inR (Rs:List (Int × Int)) (id:Int):Option Int:=(Rs.find? (fun p=>decide (p.1=id))).map (·.2)
def JY (o:Option Int):Value:=match o with
 | some x=>.tuple #[.int .i64 x,.bool true]
 | none=>.tuple #[.int .i64 0,.bool false]
theorem qbb (h:JB rn of_ Rs) {c:Int}:inR Rs id=some c↔(id,c)∈Rs:=by
 unfold inR
 constructor
 ·intro e
  obtain ⟨p,hp,rfl⟩:=Option.map_eq_some_iff.1 e
  have h1:p.1=id:=by simpa using List.find?_some hp
  rw [← h1]; exact List.mem_of_find?_eq_some hp
 ·intro hm
  cases hf:Rs.find? (fun p=>decide (p.1=id)) with
  | none=>exact absurd (List.find?_eq_none.1 hf _ hm) (by simp)
  | some p =>
   have h1:p.1=id:=by simpa using List.find?_some hf
   have h2:=h.idn (List.mem_of_find?_eq_some hf) hm (.inl h1)
   rw [h2]; rfl
theorem qhb (hm:(pb,.cells 294 289 (Qy (.slice ad n cap) rn of_))∈H) (hrow:Holds w0 H ad (rbs.map rbP)) (hl:rbs.length=n) (hn:n≤64) (hk:rbs[k]?=some rb) :qG Tryz.prog w0 H 182 [zp pb,zi (k:Int)] (rbP rb):=by
 have hkl:=(List.getElem?_eq_some_iff.1 hk).1
 obtain ⟨q0,p0,rfl,hc⟩:=hrow.at (i:=k) (v:=rbP rb) (by rw [List.getElem?_map,hk]; rfl)
 refine qd Tryz.func182 rfl Tryz.ntmps182 rfl rfl (za 6 rfl ?_)
 refine W_x (qE rfl rfl Yx) (fun _ h=>by cases h) rfl ?_
 refine qH rfl rfl ?_
 apply XH
 iterate 4 exact rfl
 case h1 =>
  intro hg2
  refine za 4 rfl ?_
  exact Zv rfl zR
 refine qH rfl rfl ?_
 apply XH
 iterate 4 exact rfl
 case h1 =>
  intro hg6
  refine za 9 rfl ?_
  refine qf (v:=.slice (some ⟨q0,p0,none⟩) n cap) rfl Xa rfl (qh.own (b:=pb) hm rfl) rfl ?_
  refine Qk rfl rfl (zY rfl Xa rfl rfl (za 2 rfl ?_))
  exact Zv rfl zR
 refine qs ?_
 refine QM rfl (by simp; omega) ?_
 refine za 5 rfl ?_
 refine qf (v:=.slice (some ⟨q0,p0,none⟩) n cap) rfl Xa rfl (qh.own (b:=pb) hm rfl) rfl ?_
 refine qH rfl rfl ?_
 refine qN (j:=k) rfl rfl Xa Xb (by first | rfl | omega) (by first | decide | omega | simp) rfl rfl ?_
 refine qf (v:=rbP rb) rfl Xb rfl (by rw [Nat.mul_one]; exact hc) rfl ?_
 refine za 2 rfl ?_
 refine qj (H2:=H) Tryz.results182 rfl (.nil _) zH ?_
 exact ⟨rfl,rfl⟩
theorem qaV:Zu Tryz.prog (fun _=>True) 183 [zi id] (.bool (decide (0≤id) && decide (id<256))):=by
 intro w0 H hT
 refine qd Tryz.func183 rfl Tryz.ntmps183 rfl rfl (za 7 rfl ?_)
 apply qb5
 iterate 4 exact rfl
 case h1 =>
  intro hg2
  refine za 4 rfl ?_
  exact Zv rfl zR
 refine za 2 rfl ?_
 refine qj (H2:=H) Tryz.results183 rfl (.nil _) zH ?_
 exact ⟨rfl,rfl⟩
theorem qhE (h:JB rn of_ Rs) (hi:¬ (0≤id∧id<256)):inR Rs id=none:=by
 cases e:inR Rs id with
 | none=>rfl
 | some c=>exact absurd (h.rng _ ((qbb h).1 e)).1 hi
theorem qhF (h:JB rn of_ Rs) (hx:rn[i]?=some x):inR Rs (i:Int)=if x=0 then none else some (x-1):=by
 have hb:=h.b1 x (List.mem_of_getElem? hx)
 by_cases c:x=0
 ·rw [if_pos c]
  cases e:inR Rs (i:Int) with
  | none=>rfl
  | some k =>
   have h1:=(qbb h).1 e
   have h2:=h.rng _ h1
   obtain ⟨k,rfl⟩:∃ m:Nat,k=(m:Int):=⟨k.toNat,by have:=h2.2.1; dsimp only at this; omega⟩
   have h3:=(h.r1 i k).2 h1
   rw [hx] at h3
   have:=Option.some.inj h3
   omega
 ·rw [if_neg c,qbb h]
  obtain ⟨k,hk⟩:∃ m:Nat,x-1=(m:Int):=⟨(x-1).toNat,by omega⟩
  rw [hk]
  exact (h.r1 i k).1 (by rw [hx]; congr 1; omega)
theorem qlG (hm:(pb,.cells 294 289 (Qy v rn of_))∈H) (hR:JB rn of_ Rs) (hi:¬ (0≤id∧id<256)) :qG Tryz.prog w0 H 252 [zp pb,zi id] (JY (inR Rs id)):=by
 refine qd Tryz.func252 rfl Tryz.ntmps252 rfl rfl (za 7 rfl ?_)
 refine W_x (qE rfl rfl Yx) (fun _ h=>by cases h) rfl ?_
 refine za 4 rfl ?_
 refine zI (zc1 rfl) Tryz.call183 rfl (T:=fun _=>True) trivial (qaV (id:=id)) ?_
 rw [show (decide (0≤id) && decide (id<256))=false by simp; omega]
 refine za 18 rfl ?_
 refine qP (H2:=H) Tryz.results252 rfl rfl (.nil _) zH ?_
 rw [qhE hR hi]
 exact ⟨rfl,rfl⟩
theorem qlH (hm:(pb,.cells 294 289 (Qy v rn of_))∈H) (hR:JB rn of_ Rs) (hi:i<256) :qG Tryz.prog w0 H 252 [zp pb,zi (i:Int)] (JY (inR Rs (i:Int))):=by
 obtain ⟨x,hx⟩:∃ x,rn[i]?=some x:=⟨_,List.getElem?_eq_getElem (by rw [hR.len1]; exact hi)⟩
 have hb:=hR.b1 x (List.mem_of_getElem? hx)
 refine qd Tryz.func252 rfl Tryz.ntmps252 rfl rfl (za 7 rfl ?_)
 refine W_x (qE rfl rfl Yx) (fun _ h=>by cases h) rfl ?_
 refine za 4 rfl ?_
 refine zI (zc1 rfl) Tryz.call183 rfl (T:=fun _=>True) trivial (qaV (id:=(i:Int))) ?_
 rw [show (decide (0≤(i:Int)) && decide ((i:Int)<256))=true by simp; omega]
 refine za 13 rfl ?_
 refine zh (j:=i) rfl rfl qgG ty3 (by first | rfl | omega) (by first | decide | omega | simp) rfl rfl ?_
 refine Qk rfl rfl ?_
 refine qf (v:=zi x) rfl ty3 rfl (qh.own (b:=pb) hm (by simpa using qdh hx)) rfl ?_
 refine za 4 rfl ?_
 refine qq (p:=x=0) rfl (by simp) (fun q0=>?_) (fun q0=>?_)
 ·skip
  refine za 4 rfl ?_
  refine qP (H2:=H) Tryz.results252 rfl rfl (.nil _) zH ?_
  rw [qhF hR hx,if_pos q0]
  exact ⟨rfl,rfl⟩
 ·skip
  refine za 6 rfl ?_
  refine zh (j:=i) rfl rfl qgG ty3 (by first | rfl | omega) (by first | decide | omega | simp) rfl rfl ?_
  refine qf (v:=zi x) rfl ty3 rfl (qh.own (b:=pb) hm (by simpa using qdh hx)) rfl ?_
  refine qF rfl rfl (ZY (m:=x-1) (by rw [qW (by omega)])) rfl ?_
  refine za 3 rfl ?_
  refine qP (H2:=H) Tryz.results252 rfl rfl (.nil _) zH ?_
  rw [qhF hR hx,if_neg q0]
  exact ⟨rfl,rfl⟩
theorem Runs_q (hm:(pb,.cells 294 289 (Qy v rn of_))∈H) (hR:JB rn of_ Rs) :qG Tryz.prog w0 H 252 [zp pb,zi id] (JY (inR Rs id)):=by
 by_cases h:0≤id∧id<256
 ·obtain ⟨i,rfl⟩:∃ k:Nat,id=(k:Int):=⟨id.toNat,by omega⟩
  exact qlH hm hR zO
 ·exact qlG hm hR h
theorem z6.ok (h:z6 pb n Q Rs HB):QOk n Q:=by cases h; assumption
theorem z6.at (h:z6 pb n Q Rs HB) (hn:n≤64) (hk:k<n):∃ rb X HR,Y2 256 rb (Zs Q (k:Int)) X∧(∀ {w0:World} {H:qe},(∀ p∈HB,p∈H)→qG Tryz.prog w0 H 182 [zp pb,zi (k:Int)] (rbP rb)) ∧
  (∀ H,qr (HB++H) (X++(HR++H)))∧(∀ H,qr (X++(HR++H)) (HB++H)) ∧
  (∀ (Q':List (Int × Int)) X',Y2 256 rb (Zs Q' (k:Int)) X'→(∀ j:Nat,j≠k→Zs Q' (j:Int)=Zs Q (j:Int))→QOk n Q'→∃ HB',z6 pb n Q' Rs HB'∧∀ H,qr (X'++(HR++H)) (HB'++H)):=by
 cases h with
 | @mk v XQ XS rbs rn of_ hv hl hr hrun hq =>
  have hvl:=hv.length
  rw [List.length_map,Nat.mul_one] at hvl
  obtain ⟨rb,hrb⟩:∃ rb,rbs[k]?=some rb:=⟨_,List.getElem?_eq_getElem zO⟩
  obtain ⟨X,hX⟩:∃ X,XS[k]?=some X:=⟨_,List.getElem?_eq_getElem zO⟩
  have hp:∀ H,(((pb,.cells 294 289 (Qy v rn of_))::(XQ++XS.flatten))++H).Perm (X++(((pb,.cells 294 289 (Qy v rn of_))::(XQ++(XS.set k []).flatten))++H)):=fun H=>by
   have h1:=((flat_take hX).append_left ((pb,.cells 294 289 (Qy v rn of_))::XQ)).append_right H
   refine List.Perm.trans (List.Perm.of_eq ?_) (h1.trans ?_)
   ·simp only [List.cons_append,List.append_assoc]
   ·have e:((pb,.cells 294 289 (Qy v rn of_))::XQ++(X++(XS.set k []).flatten))++H=((pb,.cells 294 289 (Qy v rn of_))::XQ)++(X++((XS.set k []).flatten++H)):=by simp only [List.cons_append,List.append_assoc]
    rw [e]
    refine (List.perm_append_comm_assoc _ _ _).trans (List.Perm.of_eq ?_)
    simp only [List.cons_append,List.append_assoc]
  refine ⟨rb,X,(pb,.cells 294 289 (Qy v rn of_))::(XQ++(XS.set k []).flatten),hr k rb X hrb hX,fun {w0 H} hm=>?_,fun H=>qr.of_perm (hp H),fun H=>qr.of_perm (hp H).symm,fun Q' X' hR' hj hq'=>?_⟩
  ·obtain ⟨ad,cap,rfl,_,_,hrow⟩:=Holds.of_own (w0:=w0) (H:=H) hv (fun p hp=>hm p (List.mem_cons_of_mem _ (List.mem_append_left _ hp)))
   exact qhb (n:=n) (hm _ List.mem_cons_self) hrow zO hn hrb
  ·refine ⟨(pb,.cells 294 289 (Qy v rn of_))::(XQ++(XS.set k X').flatten),.mk hv (by rw [List.length_set,hl]) (fun j rb2 Y h1 h2=>?_) hrun hq',fun H=>?_⟩
   ·by_cases c:k=j
    ·subst c
     rw [List.getElem?_set_self (by omega)] at h2
     obtain rfl:=Option.some.inj h2
     obtain rfl:=Option.some.inj (h1.symm.trans hrb)
     exact hR'
    ·rw [List.getElem?_set_ne c] at h2
     rw [hj j (fun e=>c e.symm)]
     exact hr j rb2 Y h1 h2
   ·have h1:=((qbk (B:=X') (XS:=XS) (k:=k) zO).append_left ((pb,.cells 294 289 (Qy v rn of_))::XQ)).append_right H
    refine qr.of_perm (List.Perm.trans ?_ (h1.trans (List.Perm.of_eq ?_)))
    ·have e:((pb,.cells 294 289 (Qy v rn of_))::XQ++(X'++(XS.set k []).flatten))++H=((pb,.cells 294 289 (Qy v rn of_))::XQ)++(X'++((XS.set k []).flatten++H)):=by simp only [List.cons_append,List.append_assoc]
     rw [e]
     refine List.Perm.trans (List.Perm.of_eq ?_) (List.perm_append_comm_assoc _ _ _).symm.symm
     simp only [List.cons_append,List.append_assoc]
    ·simp only [List.cons_append,List.append_assoc]
theorem z6.runs (h:z6 pb n Q Rs HB):∃ v XX rn of_,HB=(pb,.cells 294 289 (Qy v rn of_))::XX∧JB rn of_ Rs∧∀ rn' of' Rs',JB rn' of' Rs'→z6 pb n Q Rs' ((pb,.cells 294 289 (Qy v rn' of'))::XX):=by
 cases h with
 | @mk v XQ XS rbs rn of_ hv hl hr hrun hq=>exact ⟨v,_,rn,of_,rfl,hrun,fun rn' of' Rs' h=>.mk hv hl hr h hq⟩
theorem z6.Runs_q (h:z6 pb n Q Rs HB) (hm:∀ p∈HB,p∈H) :qG Tryz.prog w0 H 252 [zp pb,zi id] (JY (inR Rs id)):=by
 obtain ⟨v,XX,rn,of_,rfl,hR,_⟩:=h.runs
 exact Go.Proofs.YtincjohoncljoaaGreatDoor.Runs_q (hm _ List.mem_cons_self) hR
theorem qmz {cpu:Int} :qk Tryz.prog w0 272 #[zp pb,zi cpu] (H) (fun v H'=>∃ b2 b3,v=.func (.func 365) #[] #[zp b2,zp b3]∧H'=(b3,.cells 3 1 [zi cpu])::(b2,.cells 166 1 [zp pb])::H):=by
 refine qd (l:=[zp pb,zi cpu]) Tryz.func272 rfl Tryz.ntmps272 rfl rfl ?_
 refine zo ?_
 refine qR (l:=[zp pb]) rfl rfl rfl (fun b2=>?_)
 refine qR (l:=[zi cpu]) rfl rfl rfl (fun b3=>?_)
 refine za 3 rfl (qL .nil (.cons rfl (.cons rfl .nil)) rfl (za 2 rfl (qj Tryz.results272 rfl (.nil _) (.refl _) ?_)))
 exact ⟨b2,b3,rfl,rfl⟩
theorem qfF {lp b2 b3:Nat} (hP:z6 pb n Q Rs HB) (hn:n≤64) (hk:k<n) (J:Nat→qe→Prop) (S:qe→Prop)
  (hround:∀ i x Hi XB,(Zs Q (k:Int))[i]?=some x→J i Hi→Zp Tryz.prog w0 lp #[zi (i:Int),zi x] (XB++((b2,.cells 166 1 [zp pb])::(b3,.cells 3 1 [zi (k:Int)])::(HB++Hi))) (fun v H'=>∃ Hi',qr H' (XB++((b2,.cells 166 1 [zp pb])::(b3,.cells 3 1 [zi (k:Int)])::(HB++Hi')))∧((v=.bool true∧J (i+1) Hi')∨(v=.bool false∧S Hi')))) (hJ:J 0 H) :
  qk Tryz.prog w0 365 #[.func (.yield lp) #[] #[],zp b2,zp b3] ((b2,.cells 166 1 [zp pb])::(b3,.cells 3 1 [zi (k:Int)])::(HB++H)) (fun _ H'=>∃ Hi',qr H' ((b2,.cells 166 1 [zp pb])::(b3,.cells 3 1 [zi (k:Int)])::(HB++Hi'))∧(J (Zs Q (k:Int)).length Hi'∨S Hi')):=by
 have hql:=qhc hP.ok (k:Int)
 obtain ⟨rb,X,HR,hR,hqu,ho1,ho2,hup⟩:=hP.at hn hk
 refine qd (l:=[.func (.yield lp) #[] #[],zp b2,zp b3]) Tryz.func365 rfl Tryz.ntmps365 rfl rfl ?_
 refine zo ?_
 refine qf (v:=zp pb) rfl Yx rfl (qh.own (b:=b2) zM rfl) rfl ?_
 refine qf (v:=zi (k:Int)) rfl ty3 rfl (qh.own (b:=b3) zM rfl) rfl ?_
 refine qB (zc2 rfl rfl) Tryz.call182 rfl (hqu (fun p hp=>List.mem_cons_of_mem _ (List.mem_cons_of_mem _ (List.mem_append_left _ hp)))) ?_
 refine qT (H':=X++((b2,.cells 166 1 [zp pb])::(b3,.cells 3 1 [zi (k:Int)])::(HR++H))) ((show qr _ ((b2,.cells 166 1 [zp pb])::(b3,.cells 3 1 [zi (k:Int)])::(X++(HR++H))) from .cons (.here _) (.cons (.here _) (ho1 H))).trans zH) ?_
 refine qn (zc1 rfl) Tryz.call366 rfl (qks hR) ?_
 rintro v H' ⟨XB,hXB,rfl⟩
 obtain ⟨ad,cap,rfl,hlc,hcm,hrow⟩:=Holds.of_own (w0:=w0) (H:=XB++[]) hXB (fun p hp=>List.mem_append_left _ hp)
 refine qT (H':=XB++((b2,.cells 166 1 [zp pb])::(b3,.cells 3 1 [zi (k:Int)])::(HB++H))) ((show qr _ (XB++((b2,.cells 166 1 [zp pb])::(b3,.cells 3 1 [zi (k:Int)])::(X++(HR++H)))) from zH).trans (.app (.here _) (.cons (.here _) (.cons (.here _) (ho2 H))))) ?_
 refine zY rfl qZ rfl rfl (za 3 rfl ?_)
 refine qV (X:=(Nat × qe)) [(0,_),(9,_),(10,_)] (fun (x:(Nat × qe))=>[(11,zi (x.1:Int))]) (fun _=>_) (fun (x:(Nat × qe))=>XB++((b2,.cells 166 1 [zp pb])::(b3,.cells 3 1 [zi (k:Int)])::(HB++x.2))) (fun (x:(Nat × qe))=>x.1≤(Zs Q (k:Int)).length∧J x.1 x.2) (fun (x:(Nat × qe))=>(Zs Q (k:Int)).length-x.1) (0,H) ⟨Nat.zero_le _,hJ⟩ (qc rfl (qc rfl (qc rfl (qi _)))) (qc rfl (qi _)) rfl (.refl _) ?_
 rintro ⟨i,Hi⟩ ⟨hi,hJi⟩
 dsimp only at hi hJi ⊢
 simp only [List.cons_append,List.nil_append]
 refine za 4 rfl ?_
 refine qq (p:=(i:Int)<((Zs Q (k:Int)).length:Int)) rfl (by simp) (fun q0=>?_) (fun q0=>?_)
 ·skip
  refine za 5 rfl ?_
  obtain ⟨x,hx⟩:∃ x,(Zs Q (k:Int))[i]?=some x:=⟨_,List.getElem?_eq_getElem zO⟩
  obtain ⟨q0,p0,rfl,hcx⟩:=hrow.at (i:=i) (v:=.int .i64 x) (by rw [List.getElem?_map,hx]; rfl)
  refine qN (j:=i) rfl rfl qZ ty3 rfl zO rfl rfl ?_
  refine qf (v:=zi x) rfl ty3 rfl (by rw [Nat.mul_one]; exact hcx.up (qr.app (.here _) (.nil _))) rfl ?_
  refine za 7 rfl (JP rfl (.cons rfl (.cons rfl .nil)) rfl ((hround i x Hi XB hx hJi).hsub zH) ?_)
  rintro v H' ⟨Hi',hsub,⟨rfl,hJ'⟩ | ⟨rfl,hS'⟩⟩
  ·skip
   refine qT hsub ?_
   refine za 6 rfl ?_
   refine qF rfl rfl (qM (m:=((i+1:Nat):Int)) (by rw [qW (by omega)]; omega)) rfl ?_
   refine za 2 rfl ?_
   refine qI (i+1,Hi') ⟨by show i+1≤_; omega,hJ'⟩ (by show (Zs Q (k:Int)).length-(i+1)<(Zs Q (k:Int)).length-i; omega) (qc rfl (qc rfl (qc rfl (qc rfl (qi _))))) rfl (.refl _)
  ·skip
   refine qT hsub ?_
   refine za 3 rfl (JQ Tryz.results365 (.nil _) (.refl _) ?_)
   exact ⟨Hi',.dropS (.refl _),.inr hS'⟩
 ·skip
  refine J7 rfl (Zf Tryz.results365 (.nil _) (.refl _) ?_)
  obtain rfl:i=(Zs Q (k:Int)).length:=by omega
  exact ⟨Hi,.dropS (.refl _),.inl hJi⟩
abbrev dB (D:Nat):Nat × Blk:=(D,.obj (.deferred (some [])))
theorem YO {H:qe}:∀ (Ds:List Nat),YJ (Ds.map Go.Sl.mark) (Ds.map dB++H) H
 | []=>.nil _
 | D::Ds=>.cons (.here _) (YO Ds)
theorem z6.slice (h:z6 pb n Q Rs HB):∃ ad cap rn of_,(pb,.cells 294 289 (Qy (.slice ad n cap) rn of_))∈HB:=by
 cases h with
 | @mk v XQ XS rbs rn of_ hv hl hr hrun hq =>
  obtain ⟨ad,cap,rfl,_,_⟩:=hv.shape
  exact ⟨ad,cap,rn,of_,List.mem_cons_self⟩
def qeI (n:Nat) (Q:List (Int × Int)) (id:Int) (v:Value):Prop:=(v=.tuple #[zi 0,zi 0,.bool false]∧∀ k:Nat,k<n→id ∉ Zs Q (k:Int))∨∃ k i:Nat,v=.tuple #[zi (k:Int),zi (i:Int),.bool true]∧k<n∧(Zs Q (k:Int))[i]?=some id
theorem Kp {k:Int}:id∈Zs Q k↔(id,k)∈Q:=by
 unfold Zs
 rw [List.mem_map]
 constructor
 ·rintro ⟨p,hp,rfl⟩
  obtain ⟨h1,h2⟩:=List.mem_filter.1 hp
  rw [← of_decide_eq_true h2]; exact h1
 ·exact fun h=>⟨_,List.mem_filter.2 ⟨h,decide_eq_true rfl⟩,rfl⟩
def whQ (Q:List (Int × Int)) (id:Int):Option Int:=(Q.find? (fun p=>decide (p.1=id))).map (·.2)
theorem Y8 (h:QOk n Q) {k:Int}:whQ Q id=some k↔(id,k)∈Q:=by
 unfold whQ
 constructor
 ·intro e
  obtain ⟨p,hp,rfl⟩:=Option.map_eq_some_iff.1 e
  have h1:p.1=id:=by simpa using List.find?_some hp
  rw [← h1]; exact List.mem_of_find?_eq_some hp
 ·intro hm
  cases hf:Q.find? (fun p=>decide (p.1=id)) with
  | none=>exact absurd (List.find?_eq_none.1 hf _ hm) (by simp)
  | some p =>
   have h1:p.1=id:=by simpa using List.find?_some hf
   have h2:p=(id,k):=by
    obtain ⟨i,hi,ei⟩:=List.getElem_of_mem (List.mem_of_find?_eq_some hf)
    obtain ⟨j,hj,ej⟩:=List.getElem_of_mem hm
    have e:i=j:=(List.getElem_inj (xs:=Q.map (·.1)) (h₀:=by simpa using hi) (h₁:=by simpa using hj) h.ids).1 (by simp only [List.getElem_map]; rw [ei,ej]; exact h1)
    subst e
    rw [← ei,ej]
   rw [h2]; rfl
theorem qeI.wh (h:qeI n Q id v) (hq:QOk n Q):(v=.tuple #[zi 0,zi 0,.bool false]∧whQ Q id=none)∨∃ k i:Nat,v=.tuple #[zi (k:Int),zi (i:Int),.bool true]∧k<n∧(Zs Q (k:Int))[i]?=some id∧whQ Q id=some (k:Int):=by
 rcases h with ⟨h,hno⟩ | ⟨k,i,h,hk,hi⟩
 ·refine .inl ⟨h,?_⟩
  cases e:whQ Q id with
  | none=>rfl
  | some c =>
   have h1:=(Y8 hq).1 e
   have h2:=(hq.rng _ h1).2
   dsimp only at h2
   obtain ⟨c,rfl⟩:∃ m:Nat,c=(m:Int):=⟨c.toNat,by omega⟩
   exact absurd (Kp.2 h1) (hno c zO)
 ·exact .inr ⟨k,i,h,hk,hi,(Y8 hq).2 (Kp.1 (List.mem_of_getElem? hi))⟩
theorem qkg {Q:List Int} (h:∀ (j:Nat) y,j<i→Q[j]?=some y→y≠id) (hx:Q[i]?=some x) (hn:x≠id):∀ (j:Nat) y,j<i+1→Q[j]?=some y→y≠id:=fun j y hj hy=>by
 by_cases e:j=i
 ·subst e
  obtain rfl:=Option.some.inj (hy.symm.trans hx)
  exact hn
 ·exact h j y zO hy
theorem dec_q {bi:Nat} (hb:(bi,.cells 3 1 [zi id])∈H) :qG Tryz.prog w0 H 265 [zi x,zp bi] (.bool (decide (x=id))):=by
 refine qd Tryz.func265 rfl Tryz.ntmps265 rfl rfl (za 5 rfl ?_)
 refine qf (v:=zi id) rfl ty3 rfl (qh.own hb rfl) rfl ?_
 refine za 3 rfl ?_
 refine qj (H2:=H) Tryz.results265 rfl (.nil _) zH ?_
 exact ⟨rfl,rfl⟩
theorem qmV {bi fi:Nat} (hP:z6 pb n Q Rs HB) (hn:n≤64) (hbi:(bi,.cells 3 1 [zi id])∈H) (hfi:∀ (args:Array Value) (w:World),(callFunc fi args).run Tryz.prog w=.ok (.enter fi args) w) (hcl:∀ (x:Int) (H:qe),(bi,.cells 3 1 [zi id])∈H→qG Tryz.prog w0 H fi [zi x,zp bi] (.bool (decide (x=id)))) :qk Tryz.prog w0 189 #[zp pb,.func (.func fi) #[] #[zp bi]] (HB++H) (fun v H'=>qeI n Q id v∧H'=HB++H):=by
 obtain ⟨ad,cap,rn,of_,hpe⟩:=hP.slice
 refine qd (l:=[zp pb,.func (.func fi) #[] #[zp bi]]) Tryz.func189 rfl Tryz.ntmps189 rfl rfl ?_
 refine zo ?_
 refine qR (l:=[.func (.func fi) #[] #[zp bi]]) rfl rfl rfl (fun b3=>?_)
 refine qA (l:=[zi 0]) ty3 rfl rfl (fun b4=>?_)
 refine qA (l:=[zi 0]) ty3 rfl rfl (fun b5=>?_)
 refine qA (l:=[.bool false]) ty4 rfl rfl (fun b6=>?_)
 refine za 4 rfl ?_
 refine W_x (qE rfl rfl Yx) (fun _ h=>by cases h) rfl ?_
 refine za 8 rfl ?_
 refine qf (v:=.slice ad n cap) rfl Xa rfl (qh.own (b:=pb) (by repeat (first | exact List.mem_append_left _ hpe | exact List.mem_cons_self | apply List.mem_cons_of_mem | apply List.mem_append_right)) rfl) rfl ?_
 refine zY rfl Xa rfl rfl (za 3 rfl ?_)
 refine qV (X:=(Nat × List Nat)) [(0,_),(3,_),(4,_),(5,_),(6,_),(16,_)] (fun (x:(Nat × List Nat))=>[(17,zi (x.1:Int))]) (fun (x:(Nat × List Nat))=>x.2.map Go.Sl.mark) (fun (x:(Nat × List Nat))=>HB++(x.2.map dB++((b6,.cells 4 1 [.bool false])::(b5,.cells 3 1 [zi 0])::(b4,.cells 3 1 [zi 0])::(b3,.cells 172 1 [.func (.func fi) #[] #[zp bi]])::H))) (fun (x:(Nat × List Nat))=>x.1≤n∧∀ j:Nat,j<x.1→id ∉ Zs Q (j:Int)) (fun (x:(Nat × List Nat))=>n-x.1) (0,[]) ⟨Nat.zero_le _,fun j hj=>absurd hj (Nat.not_lt_zero _)⟩ (qc rfl (qc rfl (qc rfl (qc rfl (qc rfl (qc rfl (qi _))))))) (qc rfl (qi _)) rfl (show qr _ (HB++([]++((b6,.cells 4 1 [.bool false])::(b5,.cells 3 1 [zi 0])::(b4,.cells 3 1 [zi 0])::(b3,.cells 172 1 [.func (.func fi) #[] #[zp bi]])::H))) from zH) ?_
 rintro ⟨k,Ds⟩ ⟨hk,hno⟩
 dsimp only at hk hno ⊢
 simp only [List.cons_append,List.nil_append]
 refine za 4 rfl ?_
 refine qq (p:=(k:Int)<(n:Int)) rfl (by simp) (fun q0=>?_) (fun q0=>?_)
 ·skip
  refine za 5 rfl ?_
  refine qA (l:=[zi 0]) ty3 rfl rfl (fun b7=>?_)
  refine qy (l':=[zi (k:Int)]) rfl rfl ty3 rfl rfl (b:=b7) zM rfl rfl zU ?_
  refine za 3 rfl ?_
  refine qf (v:=zi (k:Int)) rfl ty3 rfl (qh.own (b:=b7) zM rfl) rfl ?_
  refine qn (zc2 rfl rfl) Tryz.call272 rfl (qmz) ?_
  rintro v H' ⟨c2,c3,rfl,rfl⟩
  refine za 2 rfl (QE rfl Tryz.call365 ?_)
  intro lp D r hst hpd hps hasg hbody hA
  have hr:=QV hst hpd
  show qk _ _ _ #[_,_,_] _ _
  refine ((qfF (b2:=c2) (b3:=c3) (H:=(lp,.obj (.loop r))::(D,.obj (.deferred (some [])))::((b7,.cells 3 1 [zi (k:Int)])::(Ds.map dB++((b6,.cells 4 1 [.bool false])::(b5,.cells 3 1 [zi 0])::(b4,.cells 3 1 [zi 0])::(b3,.cells 172 1 [.func (.func fi) #[] #[zp bi]])::H)))) hP hn (k:=k) zO (fun i Hi=>(∀ (j:Nat) y,j<i→(Zs Q (k:Int))[j]?=some y→y≠id)∧Hi=(lp,.obj (.loop r))::(D,.obj (.deferred (some [])))::((b7,.cells 3 1 [zi (k:Int)])::(Ds.map dB++((b6,.cells 4 1 [.bool false])::(b5,.cells 3 1 [zi 0])::(b4,.cells 3 1 [zi 0])::(b3,.cells 172 1 [.func (.func fi) #[] #[zp bi]])::H)))) (fun Hi=>∃ i:Nat,(Zs Q (k:Int))[i]?=some id∧Hi=(lp,.obj (.loop (Loop.at r .done (some .ret))))::(D,.obj (.deferred (some [])))::((b7,.cells 3 1 [zi (k:Int)])::(Ds.map dB++((b6,.cells 4 1 [.bool true])::(b5,.cells 3 1 [zi (i:Int)])::(b4,.cells 3 1 [zi (k:Int)])::(b3,.cells 172 1 [.func (.func fi) #[] #[zp bi]])::H)))) ?_ ⟨fun j y hj=>absurd hj (Nat.not_lt_zero _),rfl⟩).hsub zH).mono ?_
  ·intro i x Hi XB hx hJ
   obtain ⟨hJ1,rfl⟩:=hJ
   refine QB hst hpd hA hps rfl hasg rfl rfl rfl zT ?_
   refine za 6 rfl (JS hst hpd zT hbody (za 2 rfl ?_))
   refine qf (v:=.func (.func fi) #[] #[zp bi]) rfl qlW rfl (qh.own (b:=b3) zM rfl) rfl ?_
   refine qH rfl rfl ?_
   refine YI (fa:=[]) (ca:=[zp bi]) rfl (.cons rfl .nil) rfl hfi rfl (hcl x _ (by repeat (first | exact hbi | exact List.mem_cons_self | apply List.mem_cons_of_mem | apply List.mem_append_right))) ?_
   by_cases hxi:x=id
   ·skip
    subst hxi
    rw [decide_eq_true rfl]
    refine za 3 rfl ?_
    refine qf (v:=zi (k:Int)) rfl ty3 rfl (qh.own (b:=b7) zM rfl) rfl ?_
    refine qH rfl rfl ?_
    refine qy (l':=[zi (k:Int)]) rfl rfl ty3 rfl rfl (b:=b4) zM rfl rfl zU ?_
    refine qy (l':=[zi (i:Int)]) rfl rfl ty3 rfl rfl (b:=b5) zM rfl rfl zU ?_
    refine qy (l':=[.bool true]) rfl rfl ty4 rfl rfl (b:=b6) zM rfl rfl zU ?_
    refine qs (XV zT ?_)
    exact ⟨(lp,.obj (.loop (Loop.at r .done (some .ret))))::(D,.obj (.deferred (some [])))::((b7,.cells 3 1 [zi (k:Int)])::(Ds.map dB++((b6,.cells 4 1 [.bool true])::(b5,.cells 3 1 [zi (i:Int)])::(b4,.cells 3 1 [zi (k:Int)])::(b3,.cells 172 1 [.func (.func fi) #[] #[zp bi]])::H))),zH,.inr ⟨rfl,i,hx,rfl⟩⟩
    skip
   ·skip
    rw [decide_eq_false hxi]
    refine za 4 rfl (Zo zT ?_)
    rw [hr]
    exact ⟨(lp,.obj (.loop r))::(D,.obj (.deferred (some [])))::((b7,.cells 3 1 [zi (k:Int)])::(Ds.map dB++((b6,.cells 4 1 [.bool false])::(b5,.cells 3 1 [zi 0])::(b4,.cells 3 1 [zi 0])::(b3,.cells 172 1 [.func (.func fi) #[] #[zp bi]])::H))),zH,.inl ⟨rfl,qkg hJ1 hx hxi,rfl⟩⟩
  ·intro _ H' hp
   obtain ⟨Hi',hs,hJS⟩:=hp
   rcases hJS with ⟨hJ1,rfl⟩ | ⟨i,hi,rfl⟩
   case inr =>
    refine ⟨.done,some .ret,(c2,.cells 166 1 [zp pb])::(c3,.cells 3 1 [zi (k:Int)])::(HB++((D,.obj (.deferred (some [])))::((b7,.cells 3 1 [zi (k:Int)])::(Ds.map dB++((b6,.cells 4 1 [.bool true])::(b5,.cells 3 1 [zi (i:Int)])::(b4,.cells 3 1 [zi (k:Int)])::(b3,.cells 172 1 [.func (.func fi) #[] #[zp bi]])::H))))),hs.trans zH,by decide,?_⟩
    show W _ _ _ _ _ _ _ _ _
    refine qT (H':=(D::Ds).map dB++(HB++((b6,.cells 4 1 [.bool true])::(b5,.cells 3 1 [zi (i:Int)])::(b4,.cells 3 1 [zi (k:Int)])::(b3,.cells 172 1 [.func (.func fi) #[] #[zp bi]])::H))) (show qr _ (dB D::(Ds.map dB++(HB++((b6,.cells 4 1 [.bool true])::(b5,.cells 3 1 [zi (i:Int)])::(b4,.cells 3 1 [zi (k:Int)])::(b3,.cells 172 1 [.func (.func fi) #[] #[zp bi]])::H)))) from zH) ?_
    refine qff (H2:=HB++H) Tryz.results189 (YO (D::Ds)) (.one rfl ty3 rfl (qh.own (b:=b4) zM rfl)) (.one rfl ty3 rfl (qh.own (b:=b5) zM rfl)) (.one rfl ty4 rfl (qh.own (b:=b6) zM rfl)) zH ?_
    exact ⟨.inr ⟨k,i,rfl,by omega,hi⟩,rfl⟩
   refine ⟨.ready,none,(c2,.cells 166 1 [zp pb])::(c3,.cells 3 1 [zi (k:Int)])::(HB++((D,.obj (.deferred (some [])))::((b7,.cells 3 1 [zi (k:Int)])::(Ds.map dB++((b6,.cells 4 1 [.bool false])::(b5,.cells 3 1 [zi 0])::(b4,.cells 3 1 [zi 0])::(b3,.cells 172 1 [.func (.func fi) #[] #[zp bi]])::H))))),by rw [hr]; exact hs.trans zH,by decide,?_⟩
   show W _ _ _ _ _ _ _ _ _
   refine za 3 rfl ?_
   refine qF rfl rfl (qM (m:=((k+1:Nat):Int)) (by rw [qW (by omega)]; omega)) rfl ?_
   refine za 2 rfl ?_
   refine qI (k+1,D::Ds) ⟨by show k+1≤n; omega,fun j hj hin=>by
     by_cases e:j=k
     ·subst e
      obtain ⟨q,hq,eq⟩:=List.getElem_of_mem hin
      exact hJ1 q id hq (by rw [List.getElem?_eq_getElem hq,eq]) rfl
     ·exact hno j (by have:j<k+1:=hj; omega) hin⟩ (by show n-(k+1)<n-k; omega) (qc rfl (qc rfl (qc rfl (qc rfl (qc rfl (qc rfl (qc rfl (qi _)))))))) rfl (show qr _ (HB++(dB D::(Ds.map dB++((b6,.cells 4 1 [.bool false])::(b5,.cells 3 1 [zi 0])::(b4,.cells 3 1 [zi 0])::(b3,.cells 172 1 [.func (.func fi) #[] #[zp bi]])::H)))) from zH)
 ·skip
  refine za 2 rfl ?_
  refine qy (l':=[zi 0]) rfl rfl ty3 rfl rfl (b:=b4) zM rfl rfl zU ?_
  refine qy (l':=[zi 0]) rfl rfl ty3 rfl rfl (b:=b5) zM rfl rfl zU ?_
  refine qy (l':=[.bool false]) rfl rfl ty4 rfl rfl (b:=b6) zM rfl rfl zU ?_
  refine qs ?_
  refine qT (H':=Ds.map dB++(HB++((b6,.cells 4 1 [.bool false])::(b5,.cells 3 1 [zi 0])::(b4,.cells 3 1 [zi 0])::(b3,.cells 172 1 [.func (.func fi) #[] #[zp bi]])::H))) zH ?_
  refine qff (H2:=HB++H) Tryz.results189 (YO (Ds)) (.one rfl ty3 rfl (qh.own (b:=b4) zM rfl)) (.one rfl ty3 rfl (qh.own (b:=b5) zM rfl)) (.one rfl ty4 rfl (qh.own (b:=b6) zM rfl)) zH ?_
  obtain rfl:k=n:=by omega
  exact ⟨.inl ⟨rfl,hno⟩,rfl⟩
def dnC (gen:Int) (c:Int × Int):Bool:=decide (c.2≠0) && decide (c.2≤gen)
def twC (gen:Int) (q:List (Int × Int)):List (Int × Int):=q.takeWhile (dnC gen)
def ZU (gen:Int) (q:List (Int × Int)):List (Int × Int):=q.drop (twC gen q).length
theorem qlZ {α:Type} {p:α→Bool}:∀ {l:List α} {i:Nat} {c:α},l[i]?=some c→i≤(l.takeWhile p).length→(i<(l.takeWhile p).length↔p c=true)
 | [],_,_,h,_=>by simp at h
 | x::l,0,c,h,_=>by
  obtain rfl:x=c:=by simpa using h
  rw [List.takeWhile_cons]
  by_cases hp:p x=true
  ·rw [if_pos hp]; simp [hp]
  ·rw [if_neg hp]; simp [hp]
 | x::l,i+1,c,h,hi=>by
  rw [List.takeWhile_cons] at hi ⊢
  by_cases hp:p x=true
  ·rw [if_pos hp] at hi ⊢
   have ih:=qlZ (p:=p) (l:=l) (i:=i) (c:=c) (by simpa using h) (by simpa using hi)
   rw [← ih,List.length_cons]; omega
  ·rw [if_neg hp] at hi; simp at hi
theorem qmm {α:Type} {p:α→Bool} {l:List α} (hi:i<(l.takeWhile p).length):(l.takeWhile p)[i]?=l[i]?:=by
 conv=>rhs; rw [← List.takeWhile_append_dropWhile (p:=p) (l:=l)]
 rw [List.getElem?_append_left hi]
theorem qgM {α:Type} {p:α→Bool} (l:List α):(l.takeWhile p).length≤l.length:=by
 conv=>rhs; rw [← List.takeWhile_append_dropWhile (p:=p) (l:=l)]
 rw [List.length_append]; omega
theorem qer {lp b1 b2:Nat} {l:List (Int × Int)} (hR:JT 64 rb l HB) (J:Nat→qe→Prop)
  (hround:∀ i c X Hi,(twC gen l)[i]?=some c→J i Hi→Zp Tryz.prog w0 lp #[.agg (List.toArray (rdC c))] ((b1,.cells 388 1 [zp rb])::(b2,.cells 3 1 [zi gen])::(X++Hi)) (fun v H'=>∃ Hi',qr H' ((b1,.cells 388 1 [zp rb])::(b2,.cells 3 1 [zi gen])::(X++Hi'))∧v=.bool true∧J (i+1) Hi')) (hJ:J 0 H) :
  qk Tryz.prog w0 398 #[.func (.yield lp) #[] #[],zp b1,zp b2] ((b1,.cells 388 1 [zp rb])::(b2,.cells 3 1 [zi gen])::(HB++H)) (fun _ H'=>∃ X' Hi',JT 64 rb (ZU gen l) X'∧qr H' ((b1,.cells 388 1 [zp rb])::(b2,.cells 3 1 [zi gen])::(X'++Hi'))∧J (twC gen l).length Hi'):=by
 refine qd (l:=[.func (.yield lp) #[] #[],zp b1,zp b2]) Tryz.func398 rfl Tryz.ntmps398 rfl rfl ?_
 refine qcP ?_
 refine qV (X:=(Nat × qe × qe)) [(0,_),(1,_),(2,_)] (fun (z:(Nat × qe × qe))=>[]) (fun _=>_) (fun (z:(Nat × qe × qe))=>(b1,.cells 388 1 [zp rb])::(b2,.cells 3 1 [zi gen])::(z.2.1++z.2.2)) (fun (z:(Nat × qe × qe))=>z.1≤(twC gen l).length∧JT 64 rb (l.drop z.1) z.2.1∧J z.1 z.2.2) (fun (z:(Nat × qe × qe))=>l.length-z.1) (0,HB,H) ⟨Nat.zero_le _,hR,hJ⟩ (qc rfl (qc rfl (qc rfl (qi _)))) (qi _) rfl (.refl _) ?_
 rintro ⟨i,X,Hi⟩ ⟨hi,hX,hJi⟩
 dsimp only at hi hX hJi ⊢
 have htl:(twC gen l).length≤l.length:=qgM l
 simp only [List.cons_append,List.nil_append]
 refine za 2 rfl ?_
 refine qf (v:=zp rb) rfl ZQ rfl (qh.own (b:=b1) zM rfl) rfl ?_
 refine qB (zc2 rfl rfl) Tryz.call399 rfl (hX.at0 (fun p hp=>List.mem_cons_of_mem _ (List.mem_cons_of_mem _ (List.mem_append_left _ hp)))) ?_
 rcases hd:l.drop i with _ | ⟨c,rest⟩
 ·skip
  rw [show atC []=.tuple #[.agg (List.toArray (rdC (0,0))),.bool false] from rfl]
  refine za 3 rfl ?_
  refine qA (l:=rdC (0,0)) q9 rfl rfl (fun b4=>?_)
  refine qp (l':=rdC (0,0)) rfl rfl q9 rfl rfl (b:=b4) zM (by exact Nat.le_refl 2) rfl zU ?_
  refine za 19 rfl (JQ Tryz.results398 (.nil _) (.refl _) ?_)
  have e:i=(twC gen l).length:=by
   have:=congrArg List.length hd
   simp at this
   omega
  subst e
  exact ⟨X,Hi,hX,zH,hJi⟩
 ·skip
  rw [hd] at hX
  have hc:l[i]?=some c:=by have:=congrArg (·[0]?) hd; simpa using this
  obtain rfl:rest=l.drop (i+1):=by rw [qcH hc] at hd; exact (List.cons.inj hd).2.symm
  have hpc:=qlZ (p:=dnC gen) hc hi
  rw [show atC (c::l.drop (i+1))=.tuple #[.agg (List.toArray (rdC c)),.bool true] from rfl]
  refine za 3 rfl ?_
  refine qA (l:=rdC (0,0)) q9 rfl rfl (fun b4=>?_)
  refine qp (l':=rdC c) rfl rfl q9 rfl rfl (b:=b4) zM (by exact Nat.le_refl 2) rfl zU ?_
  refine za 10 rfl ?_
  refine qf (v:=zi c.2) rfl ty3 rfl (qh.own (b:=b4) zM rfl) rfl ?_
  refine za 4 rfl ?_
  apply XH
  iterate 4 exact rfl
  case h1 =>
   intro hg7
   refine za 3 rfl ?_
   refine qf (v:=zi c.2) rfl ty3 rfl (qh.own (b:=b4) zM rfl) rfl ?_
   refine Qk rfl rfl ?_
   refine qf (v:=zi gen) rfl ty3 rfl (qh.own (b:=b2) zM rfl) rfl ?_
   refine za 2 rfl ?_
   exact Zv rfl zR
  refine qs ?_
  refine qq (p:=c.2=0∨gen<c.2) rfl (by simp) (fun q0=>?_) (fun q0=>?_)
  ·skip
   refine JQ Tryz.results398 (.nil _) (.refl _) ?_
   have e:i=(twC gen l).length:=by
    have:¬ i<(twC gen l).length:=fun h=>by
     have h2:=hpc.1 h
     unfold dnC at h2
     rw [Bool.and_eq_true,decide_eq_true_eq,decide_eq_true_eq] at h2
     omega
    omega
   refine ⟨X,Hi,?_,zH,by rw [← e]; exact hJi⟩
   unfold ZU
   rw [← e,hd]; exact hX
  ·skip
   refine za 2 rfl ?_
   refine qf (v:=zp rb) rfl ZQ rfl (qh.own (b:=b1) zM rfl) rfl ?_
   refine qT (H':=X++((b4,.cells 391 2 (rdC c))::(b1,.cells 388 1 [zp rb])::(b2,.cells 3 1 [zi gen])::Hi)) zH ?_
   refine qn (zc1 rfl) Tryz.call400 rfl (qjt (H:=(b4,.cells 391 2 (rdC c))::(b1,.cells 388 1 [zp rb])::(b2,.cells 3 1 [zi gen])::Hi) hX) ?_
   rintro v H' ⟨X1,hX1,rfl,rfl⟩
   refine za 3 rfl ?_
   refine qK (vs:=rdC c) rfl q9 rfl (b:=b4) zM rfl rfl rfl ?_
   have hlt:i<(twC gen l).length:=hpc.2 (by unfold dnC; rw [Bool.and_eq_true,decide_eq_true_eq,decide_eq_true_eq]; omega)
   refine JP rfl (.cons rfl .nil) rfl ((hround i c X1 Hi ((qmm hlt).trans hc) hJi).hsub zH) ?_
   rintro v H' ⟨Hi',hsub,rfl,hJ'⟩
   refine qT hsub ?_
   refine za 5 rfl ?_
   refine qI (i+1,X1,Hi') ⟨by show i+1≤(twC gen l).length; omega,hX1,hJ'⟩ (by show l.length-(i+1)<l.length-i; omega) (qc rfl (qc rfl (qc rfl (qi _)))) rfl zH
theorem qkX:qk Tryz.prog w0 337 #[.pointer ad,zi gen] (H) (fun v H'=>∃ b1 b2,v=.func (.func 398) #[] #[zp b1,zp b2]∧H'=(b2,.cells 3 1 [zi gen])::(b1,.cells 388 1 [.pointer ad])::H):=by
 refine qd (l:=[.pointer ad,zi gen]) Tryz.func337 rfl Tryz.ntmps337 rfl rfl ?_
 refine zo ?_
 refine qR (l:=[.pointer ad]) rfl rfl rfl (fun b1=>?_)
 refine qR (l:=[zi gen]) rfl rfl rfl (fun b2=>?_)
 refine za 3 rfl (qL .nil (.cons rfl (.cons rfl .nil)) rfl (za 2 rfl (qj Tryz.results337 rfl (.nil _) (.refl _) ?_)))
 exact ⟨b1,b2,rfl,rfl⟩
def Yb (gen:Int) (Q:List (List (Int × Int))):List Int:=Q.flatMap (fun q=>(twC gen q).map (·.1))
theorem qgQ {Q:List (List (Int × Int))} (h:Q[k]?=some q):Yb gen (Q.take (k+1))=Yb gen (Q.take k)++(twC gen q).map (·.1):=by
 unfold Yb
 rw [List.take_add_one,h,List.flatMap_append]
 simp
theorem qcd {gen:Int}:∀ {Q:List (List (Int × Int))},(∀ q∈Q,q.length≤64)→(Yb gen Q).length≤64*Q.length
 | [],_=>by simp [Yb]
 | q::Q,h=>by
  have ih:=qcd (gen:=gen) (Q:=Q) (fun x hx=>h x (List.mem_cons_of_mem _ hx))
  have h1:=h q List.mem_cons_self
  have h2:(twC gen q).length≤q.length:=qgM q
  unfold Yb at ih ⊢
  rw [List.flatMap_cons,List.length_append,List.length_map,List.length_cons]
  omega
theorem qaf.short {Q:List (List (Int × Int))} (h:qaf n rbs XS Q):∀ q∈Q,q.length≤64:=fun q hq=>by
 obtain ⟨k,hk,e⟩:=List.getElem_of_mem hq
 have h3:=h.l3
 exact (h.r k _ _ q (List.getElem?_eq_getElem (by rw [h.l1]; omega)) (List.getElem?_eq_getElem (by rw [h.l2]; omega)) (by rw [List.getElem?_eq_getElem hk,e])).most.1
theorem qkP {Q:List (List (Int × Int))} (hL:Qv lb n Q last HB) (hn:0<n∧n≤64) :qk Tryz.prog w0 247 #[zp lb,zi gen] (HB++H) (fun v H'=>∃ HB' XB,Qv lb n (Q.map (ZU gen)) last HB'∧zz 3 1 v (Yb gen Q).length ((Yb gen Q).map (Value.int .i64)) XB∧H'=XB++(HB'++H)):=by
 cases hL with
 | @mk v XQ XS rbs hv hl =>
 have hvl:=hv.length
 rw [List.length_map,Nat.mul_one] at hvl
 obtain ⟨ad,cap,rfl,hcl,hcm⟩:=hv.shape
 have hXr:∀ {H:qe},(∀ p∈XQ,p∈H)→Holds w0 H ad (rbs.map cbP):=fun hs=>zz.toHolds hv hs
 obtain ⟨q1,p1,rfl⟩:∃ q1 p1,ad=some ⟨q1,p1,none⟩:=by
  obtain ⟨rb,hrb⟩:∃ rb,rbs[0]?=some rb:=⟨_,List.getElem?_eq_getElem (by rw [hl.l1]; exact hn.1)⟩
  obtain ⟨q1,p1,e,_⟩:=(hXr (H:=XQ) (fun _ h=>h)).at (i:=0) (v:=cbP rb) (by rw [List.getElem?_map,hrb]; rfl)
  exact ⟨q1,p1,e⟩
 have hXc:∀ {H:qe} {k rb:Nat},(∀ p∈XQ,p∈H)→rbs[k]?=some rb→qh w0 H q1 (p1+k) (cbP rb):=fun {H k rb} hs hk=>by
  obtain ⟨q2,p2,e,hc⟩:=(hXr hs).at (i:=k) (v:=cbP rb) (by rw [List.getElem?_map,hk]; rfl)
  cases e; exact hc
 have e0:((lb,.cells 387 2 [.slice (some ⟨q1,p1,none⟩) n cap,zi last])::(XQ++XS.flatten))++H=(lb,.cells 387 2 [.slice (some ⟨q1,p1,none⟩) n cap,zi last])::(XQ++(XS.flatten++H)):=by simp only [List.cons_append,List.append_assoc]
 rw [e0]
 refine qd (l:=[zp lb,zi gen]) Tryz.func247 rfl Tryz.ntmps247 rfl rfl ?_
 refine za 6 rfl ?_
 refine W_x (qE rfl rfl Yw) (fun _ h=>by cases h) rfl ?_
 refine za 4 rfl ?_
 refine qA (l:=[.slice none 0 0]) qZ rfl rfl (fun b5=>?_)
 refine za 6 rfl ?_
 refine qf (v:=.slice (some ⟨q1,p1,none⟩) n cap) rfl ZB rfl (qh.own (b:=lb) zM rfl) rfl ?_
 refine zY rfl ZB rfl rfl (za 3 rfl ?_)
 refine qV (X:=(Nat × List Nat × List qe × List (List (Int × Int)) × Value × qe)) [(1,_),(5,_),(14,_),(15,_)] (fun (z:(Nat × List Nat × List qe × List (List (Int × Int)) × Value × qe))=>[(16,zi (z.1:Int))]) (fun (z:(Nat × List Nat × List qe × List (List (Int × Int)) × Value × qe))=>z.2.1.map Go.Sl.mark) (fun (z:(Nat × List Nat × List qe × List (List (Int × Int)) × Value × qe))=>(lb,.cells 387 2 [.slice (some ⟨q1,p1,none⟩) n cap,zi last])::(XQ++(z.2.2.1.flatten++(z.2.1.map dB++((b5,.cells 63 1 [z.2.2.2.2.1])::(z.2.2.2.2.2++H)))))) (fun (z:(Nat × List Nat × List qe × List (List (Int × Int)) × Value × qe))=>z.1≤n∧qaf n rbs z.2.2.1 z.2.2.2.1∧z.2.2.2.1=((Q.take z.1).map (ZU gen)++Q.drop z.1)∧zz 3 1 z.2.2.2.2.1 (Yb gen (Q.take z.1)).length ((Yb gen (Q.take z.1)).map (Value.int .i64)) z.2.2.2.2.2) (fun (z:(Nat × List Nat × List qe × List (List (Int × Int)) × Value × qe))=>n-z.1) (0,[],XS,Q,.slice none 0 0,[]) ⟨Nat.zero_le _,hl,by simp,.nil⟩ (qc rfl (qc rfl (qc rfl (qc rfl (qi _))))) (qc rfl (qi _)) rfl (show qr _ ((lb,.cells 387 2 [.slice (some ⟨q1,p1,none⟩) n cap,zi last])::(XQ++(XS.flatten++([]++((b5,.cells 63 1 [.slice none 0 0])::([]++H)))))) from zH) ?_
 rintro ⟨k,Ds,XS1,Q1,xv,XB⟩ ⟨hi,hl1,hQ1,hO⟩
 dsimp only at hi hl1 hQ1 hO ⊢
 simp only [List.cons_append,List.nil_append]
 refine za 4 rfl ?_
 refine qq (p:=(k:Int)<(n:Int)) rfl (by simp) (fun q0=>?_) (fun q0=>?_)
 ·skip
  refine za 4 rfl ?_
  have hk:k<n:=by omega
  obtain ⟨rb,hrb⟩:∃ rb,rbs[k]?=some rb:=⟨_,List.getElem?_eq_getElem (by rw [hl1.l1]; exact hk)⟩
  obtain ⟨X,hX0⟩:∃ X,XS1[k]?=some X:=⟨_,List.getElem?_eq_getElem (by rw [hl1.l2]; exact hk)⟩
  obtain ⟨q,hq⟩:∃ q,Q1[k]?=some q:=⟨_,List.getElem?_eq_getElem (by rw [hl1.l3]; exact hk)⟩
  have hX:=hl1.r k rb X q hrb hX0 hq
  have hqq:Q[k]?=some q:=by
   rw [hQ1,List.getElem?_append_right (by rw [List.length_map,List.length_take]; omega),List.length_map,List.length_take,Nat.min_eq_left (by rw [hl.l3]; omega),Nat.sub_self,List.getElem?_drop] at hq
   simpa using hq
  have hidl:(Yb gen (Q.take k)).length≤4096:=by
   have:=qcd (gen:=gen) (Q:=Q.take k) (fun x hx=>hl.short x (List.mem_of_mem_take hx))
   rw [List.length_take] at this
   omega
  have hql:(twC gen q).length≤64:=Nat.le_trans (qgM _) hX.most.1
  refine qN (j:=k) rfl rfl ZB ZQ rfl hk rfl rfl ?_
  refine qf (v:=cbP rb) rfl ZQ rfl (by rw [Nat.mul_one]; exact hXc (k:=k) (fun p hp=>List.mem_cons_of_mem _ (List.mem_append_left _ hp)) hrb) rfl ?_
  refine za 5 rfl (qn (zc2 rfl rfl) Tryz.call337 rfl qkX ?_)
  rintro v H' ⟨b1,b2,rfl,rfl⟩
  refine za 2 rfl (QE rfl Tryz.call398 ?_)
  intro lp D r hst hpd hps hasg hbody hA
  have hr:=QV hst hpd
  show qk _ _ _ #[_,_,_] _ _
  refine ((qer (b1:=b1) (b2:=b2) (gen:=gen) (H:=(lp,.obj (.loop r))::(D,.obj (.deferred (some [])))::((lb,.cells 387 2 [.slice (some ⟨q1,p1,none⟩) n cap,zi last])::(XQ++((XS1.set k []).flatten++(Ds.map dB++((b5,.cells 63 1 [xv])::(XB++H))))))) hX (fun i Hi=>∃ yv YB,zz 3 1 yv ((Yb gen (Q.take k)++((twC gen q).take i).map (·.1))).length (((Yb gen (Q.take k)++((twC gen q).take i).map (·.1))).map (Value.int .i64)) YB∧Hi=(lp,.obj (.loop r))::(D,.obj (.deferred (some [])))::((lb,.cells 387 2 [.slice (some ⟨q1,p1,none⟩) n cap,zi last])::(XQ++((XS1.set k []).flatten++(Ds.map dB++((b5,.cells 63 1 [yv])::(YB++H))))))) ?_ ⟨xv,XB,by simpa using hO,rfl⟩).hsub ((show qr _ ((lp,.obj (.loop r))::(D,.obj (.deferred (some [])))::(b2,.cells 3 1 [zi gen])::(b1,.cells 388 1 [zp rb])::(lb,.cells 387 2 [.slice (some ⟨q1,p1,none⟩) n cap,zi last])::(XQ++(X++((XS1.set k []).flatten++(Ds.map dB++((b5,.cells 63 1 [xv])::(XB++H))))))) from .cons (.here _) (.cons (.here _) (.cons (.here _) (.cons (.here _) (.cons (.here _) (.app (.here _) (Qs hX0))))))).trans zH)).mono ?_
  ·intro i c X1 Hi hc hJ
   obtain ⟨yv,YB,hY,rfl⟩:=hJ
   have hil:=(List.getElem?_eq_some_iff.1 hc).1
   have hyl:(Yb gen (Q.take k)++((twC gen q).take i).map (·.1)).length≤4160:=by rw [List.length_append,List.length_map,List.length_take]; omega
   refine QB hst hpd hA hps rfl hasg rfl rfl rfl zT ?_
   refine Zn ?_
   refine qA (l:=rdC (0,0)) q9 rfl rfl (fun b8=>?_)
   refine qp (l':=rdC c) rfl rfl q9 rfl rfl (b:=b8) zM (by exact Nat.le_refl 2) rfl zU ?_
   refine qs (JS hst hpd zT hbody (za 2 rfl ?_))
   refine qf (v:=yv) rfl qZ rfl (qh.own (b:=b5) zM rfl) rfl ?_
   refine za 1 rfl ?_
   refine qf (v:=zi c.1) rfl ty3 rfl (qh.own (b:=b8) zM rfl) rfl ?_
   refine qv (l:=[zi c.1]) qZ ty3 (.cons rfl rfl rfl rfl rfl .nil) rfl rfl rfl rfl rfl rfl rfl (fun b27=>?_)
   refine QF (news:=[zi c.1]) (m:=1) (HB:=YB) (H0:=(b27,.cells 3 1 [zi c.1])::(b8,.cells 391 2 (rdC c))::(lp,.obj (.loop (Loop.at r .busy none)))::(b1,.cells 388 1 [zp rb])::(b2,.cells 3 1 [zi gen])::(X1++((D,.obj (.deferred (some [])))::((lb,.cells 387 2 [.slice (some ⟨q1,p1,none⟩) n cap,zi last])::(XQ++((XS1.set k []).flatten++(Ds.map dB++((b5,.cells 63 1 [yv])::H)))))))) rfl rfl qZ ty3 rfl (by decide) hY rfl (Holds.own (b:=b27) zM) rfl (by simp only [maxLen]; omega) (by omega) zH rfl (fun yv' YB' hY'=>?_)
   refine qy (l':=[yv']) rfl rfl qZ (by obtain ⟨a0,c0',e0,_⟩:=hY'.shape; rw [e0]; rfl) rfl (b:=b5) zM rfl rfl zU ?_
   refine za 2 rfl (Zo zT ?_)
   rw [hr]
   exact ⟨(lp,.obj (.loop r))::(D,.obj (.deferred (some [])))::((lb,.cells 387 2 [.slice (some ⟨q1,p1,none⟩) n cap,zi last])::(XQ++((XS1.set k []).flatten++(Ds.map dB++((b5,.cells 63 1 [yv'])::(YB'++H)))))),zH,rfl,yv',YB',by rw [List.take_add_one,hc]; simpa [Nat.add_assoc] using hY',rfl⟩
  ·intro _ H' hp
   obtain ⟨X',Hi',hX',hs,xv',XB',hO',rfl⟩:=hp
   rw [List.take_length] at hO'
   refine ⟨.ready,none,(lb,.cells 387 2 [.slice (some ⟨q1,p1,none⟩) n cap,zi last])::(XQ++((XS1.set k X').flatten++((dB D::Ds.map dB)++((b5,.cells 63 1 [xv'])::(XB'++H))))),by rw [hr]; exact hs.trans ((show qr _ ((lp,.obj (.loop r))::(lb,.cells 387 2 [.slice (some ⟨q1,p1,none⟩) n cap,zi last])::(XQ++(X'++((XS1.set k []).flatten++((dB D::Ds.map dB)++((b5,.cells 63 1 [xv'])::(XB'++H))))))) from zH).trans (.cons (.here _) (.cons (.here _) (.app (.here _) (Zb (by rw [hl1.l2]; exact hk)))))),by decide,?_⟩
   show W _ _ _ _ _ _ _ _ _
   refine za 3 rfl ?_
   refine qF rfl rfl (qM (m:=((k+1:Nat):Int)) ((qW zO).trans zO)) rfl ?_
   refine za 2 rfl ?_
   refine qI (k+1,D::Ds,XS1.set k X',Q1.set k (ZU gen q),xv',XB') ⟨by show k+1≤n; omega,hl1.set hrb hX',(by show Q1.set k _=_; rw [hQ1]; exact qc4 hqq),by show zz 3 1 xv' (Yb gen (Q.take (k+1))).length ((Yb gen (Q.take (k+1))).map (Value.int .i64)) XB'; rw [qgQ hqq]; exact hO'⟩ (by show n-(k+1)<n-k; omega) (qc rfl (qc rfl (qc rfl (qc rfl (qc rfl (qi _)))))) rfl (show qr _ ((lb,.cells 387 2 [.slice (some ⟨q1,p1,none⟩) n cap,zi last])::(XQ++((XS1.set k X').flatten++((dB D::Ds.map dB)++((b5,.cells 63 1 [xv'])::(XB'++H)))))) from .refl _)
 ·skip
  refine za 2 rfl ?_
  refine qT (H':=Ds.map dB++((lb,.cells 387 2 [.slice (some ⟨q1,p1,none⟩) n cap,zi last])::(XQ++(XS1.flatten++((b5,.cells 63 1 [xv])::(XB++H)))))) zH ?_
  refine qf (v:=xv) rfl qZ rfl (qh.own (b:=b5) zM rfl) rfl ?_
  refine za 2 rfl ?_
  refine qj (H2:=XB++((lb,.cells 387 2 [.slice (some ⟨q1,p1,none⟩) n cap,zi last])::(XQ++(XS1.flatten++H)))) Tryz.results247 rfl (YO Ds) zH ?_
  have ekn:k=n:=by omega
  rw [ekn,List.take_of_length_le (by rw [hl.l3]; exact Nat.le_refl _)] at hQ1 hO
  rw [List.drop_eq_nil_of_le (by rw [hl.l3]; exact Nat.le_refl _),List.append_nil] at hQ1
  subst hQ1
  exact ⟨(lb,.cells 387 2 [.slice (some ⟨q1,p1,none⟩) n cap,zi last])::(XQ++XS1.flatten),XB,.mk hv hl1,hO,by simp only [List.cons_append,List.append_assoc]⟩
theorem qdC (h:XS[k]?=some B):qr (B++((XS.set k []).flatten++H)) (XS.flatten++H) :=
 qr.ofPerm ((((Ym h).append_right H).trans (by rw [List.append_assoc])).symm)
def qbT (Q:List (List (Int × Int))):Nat:=(Q.flatten.filter (fun c=>decide (c.2=0))).length
theorem qcA:∀ {Q:List (List (Int × Int))},(∀ q∈Q,q.length≤64)→Q.flatten.length≤64*Q.length
 | [],_=>by simp
 | q::Q,h=>by
  have ih:=qcA (Q:=Q) (fun x hx=>h x (List.mem_cons_of_mem _ hx))
  have h1:=h q List.mem_cons_self
  rw [List.flatten_cons,List.length_append,List.length_cons]
  omega
theorem lOf_L {Q:List (List (Int × Int))} (hL:Qv lb n Q last HB) (hn:n≤64) (hk:k<n) (hq:Q[k]?=some q) :qk Tryz.prog w0 310 #[zp lb,zi (k:Int)] (HB++H) (fun v H'=>∃ XB,zz 391 2 v q.length (q.flatMap rdC) XB∧H'=XB++(HB++H)):=by
 cases hL with
 | @mk v XQ XS rbs hv hl =>
 have hvl:=hv.length
 rw [List.length_map,Nat.mul_one] at hvl
 obtain ⟨ad,cap,rfl,hcl,hcm⟩:=hv.shape
 have hXr:∀ {H:qe},(∀ p∈XQ,p∈H)→Holds w0 H ad (rbs.map cbP):=fun hs=>zz.toHolds hv hs
 obtain ⟨q1,p1,rfl⟩:∃ q1 p1,ad=some ⟨q1,p1,none⟩:=by
  obtain ⟨rb,hrb⟩:∃ rb,rbs[0]?=some rb:=⟨_,List.getElem?_eq_getElem zO⟩
  obtain ⟨q1,p1,e,_⟩:=(hXr (H:=XQ) (fun _ h=>h)).at (i:=0) (v:=cbP rb) (by rw [List.getElem?_map,hrb]; rfl)
  exact ⟨q1,p1,e⟩
 have hXc:∀ {H:qe} {k rb:Nat},(∀ p∈XQ,p∈H)→rbs[k]?=some rb→qh w0 H q1 (p1+k) (cbP rb):=fun {H k rb} hs hk=>by
  obtain ⟨q2,p2,e,hc⟩:=(hXr hs).at (i:=k) (v:=cbP rb) (by rw [List.getElem?_map,hk]; rfl)
  cases e; exact hc
 have hkr:k<rbs.length:=by rw [hl.l1]; exact hk
 obtain ⟨rb,hrb⟩:∃ rb,rbs[k]?=some rb:=⟨_,List.getElem?_eq_getElem hkr⟩
 obtain ⟨X,hX0⟩:∃ X,XS[k]?=some X:=⟨_,List.getElem?_eq_getElem (by rw [hl.l2]; exact hk)⟩
 have hX:=hl.r k rb X q hrb hX0 hq
 have e0:((lb,.cells 387 2 [.slice (some ⟨q1,p1,none⟩) n cap,zi last])::(XQ++XS.flatten))++H=(lb,.cells 387 2 [.slice (some ⟨q1,p1,none⟩) n cap,zi last])::(XQ++(XS.flatten++H)):=by simp only [List.cons_append,List.append_assoc]
 rw [e0]
 refine qd (l:=[zp lb,zi (k:Int)]) Tryz.func310 rfl Tryz.ntmps310 rfl rfl ?_
 refine za 6 rfl ?_
 refine W_x (qE rfl rfl Yw) (fun _ h=>by cases h) rfl ?_
 refine za 5 rfl ?_
 first | rw [decide_eq_true (by omega)] | rw [decide_eq_false (by omega)]
 refine za 11 rfl ?_
 refine qf (v:=.slice (some ⟨q1,p1,none⟩) n cap) rfl ZB rfl (qh.own (b:=lb) zM rfl) rfl ?_
 refine Qk rfl rfl (zY rfl ZB rfl rfl (za 2 rfl ?_))
 first | rw [decide_eq_true (by omega)] | rw [decide_eq_false (by omega)]
 refine za 8 rfl ?_
 refine qf (v:=.slice (some ⟨q1,p1,none⟩) n cap) rfl ZB rfl (qh.own (b:=lb) zM rfl) rfl ?_
 refine qH rfl rfl ?_
 refine qN (j:=k) rfl rfl ZB ZQ (by first | rfl | omega) (by first | decide | omega | simp) rfl rfl ?_
 refine qf (v:=cbP rb) rfl ZQ rfl (by rw [Nat.mul_one]; exact hXc (k:=k) (fun p hp=>List.mem_cons_of_mem _ (List.mem_append_left _ hp)) hrb) rfl ?_
 refine qT (H':=X++((lb,.cells 387 2 [.slice (some ⟨q1,p1,none⟩) n cap,zi last])::(XQ++((XS.set k []).flatten++H)))) ((show qr _ ((lb,.cells 387 2 [.slice (some ⟨q1,p1,none⟩) n cap,zi last])::(XQ++(X++((XS.set k []).flatten++H)))) from .cons (.here _) (.app (.here _) (Qs hX0))).trans zH) ?_
 refine qn (zc1 rfl) Tryz.call385 rfl (hX.list (H:=(lb,.cells 387 2 [.slice (some ⟨q1,p1,none⟩) n cap,zi last])::(XQ++((XS.set k []).flatten++H)))) ?_
 rintro v H' ⟨XB,hO,rfl⟩
 refine qT (H':=XB++((lb,.cells 387 2 [.slice (some ⟨q1,p1,none⟩) n cap,zi last])::(XQ++(XS.flatten++H)))) ((show qr _ (XB++((lb,.cells 387 2 [.slice (some ⟨q1,p1,none⟩) n cap,zi last])::(XQ++(X++((XS.set k []).flatten++H))))) from zH).trans (.app (.here _) (.cons (.here _) (.app (.here _) (qdC hX0))))) ?_
 refine za 2 rfl ?_
 refine qj (H2:=XB++((lb,.cells 387 2 [.slice (some ⟨q1,p1,none⟩) n cap,zi last])::(XQ++(XS.flatten++H)))) Tryz.results310 rfl (.nil _) zH ?_
 rw [← e0]
 exact ⟨XB,hO,rfl⟩
theorem qg3 (q:List (Int × Int)):(q.flatMap rdC).all Value.oneCell'=true:=by
 rw [List.all_flatMap,List.all_eq_true]; exact fun t _=>rfl
theorem Qv.facts {Q:List (List (Int × Int))} (h:Qv lb n Q last HB):Q.length=n∧∀ q∈Q,q.length≤64:=by
 cases h with
 | mk hv hl=>exact ⟨hl.l3,hl.short⟩
theorem Qv.slice {Q:List (List (Int × Int))} (h:Qv lb n Q last HB):∃ ad cap,(lb,.cells 387 2 [(.slice ad n cap),zi last])∈HB:=by
 cases h with
 | mk hv hl =>
  obtain ⟨ad,cap,rfl,_,_⟩:=hv.shape
  exact ⟨ad,cap,List.mem_cons_self⟩
theorem qmL {Q:List (List (Int × Int))} (hL:Qv lb n Q last HB) (hn:0<n∧n≤64) :qk Tryz.prog w0 223 #[zp lb] (HB++H) (fun v H'=>∃ XB,zz 391 2 v (Q.flatten).length ((Q.flatten).flatMap rdC) XB∧H'=HB++(XB++H)):=by
 obtain ⟨hQl,hsh⟩:=hL.facts
 obtain ⟨ad,cap,hsl⟩:=hL.slice
 refine qd (l:=[zp lb]) Tryz.func223 rfl Tryz.ntmps223 rfl rfl ?_
 refine za 9 rfl ?_
 refine W_x (QD rfl rfl Yw) (fun _ h=>by cases h) rfl ?_
 refine za 6 rfl ?_
 refine qf (v:=.slice ad n cap) rfl ZB rfl (qh.own (b:=lb) (List.mem_append_left _ hsl) rfl) rfl ?_
 refine zY rfl ZB rfl rfl (za 3 rfl ?_)
 refine qV (X:=(Nat × Value × qe)) [(0,_),(11,_)] (fun (z:(Nat × Value × qe))=>[(12,zi (z.1:Int)),(3,z.2.1)]) (fun _=>_) (fun (z:(Nat × Value × qe))=>HB++(z.2.2++H)) (fun (z:(Nat × Value × qe))=>z.1≤n∧zz 391 2 z.2.1 ((Q.take z.1).flatten).length (((Q.take z.1).flatten).flatMap rdC) z.2.2) (fun (z:(Nat × Value × qe))=>n-z.1) (0,.slice none 0 0,[]) ⟨Nat.zero_le _,.nil⟩ (qc rfl (qc rfl (qi _))) (qc rfl (qc rfl (qi _))) rfl zH ?_
 rintro ⟨k,xv,XB⟩ ⟨hi,hO⟩
 dsimp only at hi hO ⊢
 simp only [List.cons_append,List.nil_append]
 refine za 4 rfl ?_
 refine qq (p:=(k:Int)<(n:Int)) rfl (by simp) (fun q0=>?_) (fun q0=>?_)
 ·skip
  refine za 4 rfl ?_
  obtain ⟨q,hq⟩:∃ q,Q[k]?=some q:=⟨_,List.getElem?_eq_getElem (by rw [hQl]; omega)⟩
  have hq64:=hsh q (List.mem_of_getElem? hq)
  have hfl:((Q.take k).flatten).length≤4096:=by
   have:=qcA (Q:=Q.take k) (fun x hx=>hsh x (List.mem_of_mem_take hx))
   rw [List.length_take] at this
   omega
  refine za 7 rfl ?_
  refine qn (zc2 rfl rfl) Tryz.call310 rfl ((lOf_L hL hn.2 zO hq (H:=XB++H)).hsub zH) ?_
  rintro v H' ⟨YB,hY,rfl⟩
  obtain ⟨ad2,cap2,rfl,hh2⟩:∃ ad2 cap2,v=.slice ad2 q.length cap2∧Holds w0 (YB++(HB++(XB++H))) ad2 (q.flatMap rdC):=by
   obtain ⟨ad2,cap2,e,h3,h4,h5⟩:=Holds.of_own (w0:=w0) (H:=YB++(HB++(XB++H))) hY (fun p hp=>List.mem_append_left _ hp)
   exact ⟨ad2,cap2,e,h5⟩
  refine QF (news:=q.flatMap rdC) (m:=q.length) (HB:=XB) (H0:=YB++(HB++H)) rfl rfl QA q9 rfl (by decide) hO (zg QT q) hh2 (qg3 q) (by simp only [maxLen]; omega) (by omega) zH rfl (fun v' XB' hO'=>?_)
  refine za 4 rfl ?_
  refine qF rfl rfl (qM (m:=((k+1:Nat):Int)) ((qW zO).trans zO)) rfl ?_
  refine za 2 rfl ?_
  refine qI (k+1,v',XB') ⟨by show k+1≤n; omega,by show zz 391 2 v' ((Q.take (k+1)).flatten).length (((Q.take (k+1)).flatten).flatMap rdC) XB'; rw [List.take_add_one,hq,Option.toList_some,List.flatten_append,List.flatten_singleton,List.flatMap_append,List.length_append]; exact hO'⟩ (by show n-(k+1)<n-k; omega) (qc rfl (qc rfl (qc rfl (qc rfl (qi _))))) rfl zH
 ·skip
  refine za 5 rfl ?_
  refine qj (H2:=HB++(XB++H)) Tryz.results223 rfl (.nil _) zH ?_
  have ekn:k=n:=by omega
  rw [ekn,List.take_of_length_le (by rw [hQl]; exact Nat.le_refl _)] at hO
  exact ⟨XB,hO,rfl⟩
theorem qcs {Q:List (List (Int × Int))} (hL:Qv lb n Q last HB) (hn:0<n∧n≤64) :qk Tryz.prog w0 248 #[zp lb] (HB++H) (fun v H'=>v=zi ((qbT Q:Nat):Int)∧H'=HB++H):=by
 obtain ⟨hQl,hsh⟩:=hL.facts
 have hfl:=qcA hsh
 refine qd (l:=[zp lb]) Tryz.func248 rfl Tryz.ntmps248 rfl rfl ?_
 refine za 9 rfl ?_
 refine qn (zc1 rfl) Tryz.call223 rfl (qmL hL hn (H:=H)) ?_
 rintro v H' ⟨XB,hO,rfl⟩
 obtain ⟨ad,cap,rfl,hcl,hcm,hrow⟩:=Holds.of_own (w0:=w0) (H:=HB++(XB++H)) hO (fun p hp=>List.mem_append_right _ (List.mem_append_left _ hp))
 refine zY rfl QA rfl rfl (za 3 rfl ?_)
 refine qV (X:=(Nat × Int)) [(7,_),(8,_)] (fun (z:(Nat × Int))=>[(9,zi (z.1:Int)),(3,zi z.2)]) (fun _=>_) (fun (z:(Nat × Int))=>HB++(XB++H)) (fun (z:(Nat × Int))=>z.1≤Q.flatten.length∧z.2=((((Q.flatten.take z.1).filter (fun c=>decide (c.2=0))).length:Nat):Int)) (fun (z:(Nat × Int))=>Q.flatten.length-z.1) (0,0) ⟨Nat.zero_le _,rfl⟩ (qc rfl (qc rfl (qi _))) (qc rfl (qc rfl (qi _))) rfl (.refl _) ?_
 rintro ⟨i,cnt⟩ ⟨hi,hc⟩
 dsimp only at hi hc ⊢
 simp only [List.cons_append,List.nil_append]
 refine za 4 rfl ?_
 refine qq (p:=(i:Int)<(Q.flatten.length:Int)) rfl (by simp) (fun q0=>?_) (fun q0=>?_)
 ·skip
  refine za 4 rfl ?_
  obtain ⟨x,hx⟩:∃ x,Q.flatten[i]?=some x:=⟨_,List.getElem?_eq_getElem zO⟩
  obtain ⟨qx,px,rfl,hcx⟩:=Holds.row QT zd hrow hx
  have hcb:cnt≤4096:=by
   have h1:=List.length_filter_le (fun c:Int × Int=>decide (c.2=0)) (Q.flatten.take i)
   rw [List.length_take] at h1
   omega
  refine qN (j:=i) rfl rfl QA q9 rfl zO rfl rfl ?_
  refine KL (vs:=rdC x) rfl q9 rfl rfl (hcx.up zH) rfl ?_
  refine qA (l:=rdC (0,0)) q9 rfl rfl (fun b5=>?_)
  refine qp (l':=rdC x) rfl rfl q9 rfl rfl (b:=b5) zM (by exact Nat.le_refl 2) rfl zU ?_
  refine za 3 rfl ?_
  refine qf (v:=zi x.2) rfl ty3 rfl (qh.own (b:=b5) zM rfl) rfl ?_
  refine za 2 rfl ?_
  refine qq (p:=x.2=0) rfl (by simp) (fun q1=>?_) (fun q1=>?_)
  ·skip
   refine za 2 rfl ?_
   refine qF rfl rfl (qM (m:=cnt+1) (qW zO)) rfl ?_
   refine za 4 rfl ?_
   refine qF rfl rfl (qM (m:=((i+1:Nat):Int)) ((qW zO).trans zO)) rfl ?_
   refine za 2 rfl ?_
   refine qI (i+1,cnt+1) ⟨by show i+1≤Q.flatten.length; omega,by show cnt+1=_; rw [List.take_add_one,hx,Option.toList_some,List.filter_append,List.length_append,List.filter_cons_of_pos (p:=fun c:Int × Int=>decide (c.2=0)) (by exact decide_eq_true q1),List.filter_nil,hc]; simp⟩ (by show Q.flatten.length-(i+1)<Q.flatten.length-i; omega) (qc rfl (qc rfl (qc rfl (qc rfl (qi _))))) rfl zH
  ·skip
   refine za 3 rfl ?_
   refine qF rfl rfl (qM (m:=((i+1:Nat):Int)) ((qW zO).trans zO)) rfl ?_
   refine za 2 rfl ?_
   refine qI (i+1,cnt) ⟨by show i+1≤Q.flatten.length; omega,by show cnt=_; rw [List.take_add_one,hx,Option.toList_some,List.filter_append,List.length_append,List.filter_cons_of_neg (p:=fun c:Int × Int=>decide (c.2=0)) (by rw [decide_eq_true_eq]; exact q1),List.filter_nil,hc]; simp⟩ (by show Q.flatten.length-(i+1)<Q.flatten.length-i; omega) (qc rfl (qc rfl (qc rfl (qc rfl (qi _))))) rfl zH
 ·skip
  refine za 5 rfl ?_
  refine qj (H2:=HB++H) Tryz.results248 rfl (.nil _) zH ?_
  have e:i=Q.flatten.length:=by omega
  subst hc
  rw [e,List.take_length]
  exact ⟨rfl,rfl⟩
structure Gr where
 S:Sct
 Q:List (List (Int × Int))
 last:Int
 sc:Option (Nat × Int × Int)
 began:Int
 done:Int
 want:Int
variable {G:Gr}
inductive ScH (sb:Nat):Option (Nat × Int × Int)→Value→qe→Prop
 | none:ScH sb none (.pointer none) []
 | some {xb left:Nat} {bst place:Int}:ScH sb (some (left,bst,place)) (zp xb) [(xb,.cells 485 4 [zp sb,.int .u64 ((left:Nat):Int),.int .i64 bst,.int .i64 place])]
inductive GrH (gb n:Nat) (G:Gr):qe→Prop
 | mk {sb lb:Nat} {sv:Value} {HX HL:qe} (hS:ScH sb G.sc sv HX) (hL:Qv lb n G.Q G.last HL):GrH gb n G ((gb,.cells 224 6 [zp sb,zp lb,sv,.int .i64 G.began,.int .i64 G.done,.int .i64 G.want])::(sb,.cells 250 130 (scC G.S))::(HX++HL))
structure z9 (n:Nat) (G:Gr):Prop where
 sok:Zw G.S
 n:0<n∧n≤64
 left:∀ l b p,G.sc=some (l,b,p)→l<18446744073709551616
 last:G.last≤G.began
 beg:0≤G.began∧G.began≤1000000000
 st:G.S.st≤1000000000
def gr0 (n:Nat):Gr:=⟨⟨List.replicate 64 (0,0),0,0⟩,List.replicate n [],0,none,0,0,0⟩
def Xe (G:Gr) (x:Nat × Int × Int):Nat × Int:=Yi G.S x.2.1 (min 16 (Qi 64 x.1)) x.1 x.2.2
def Qo (G:Gr):Gr × List Int:=match G.sc with
 | none=>(G,[])
 | some x=>if 0<Qi 64 (Xe G x).1 then ({ G with sc:=some ((Xe G x).1,x.2.1,(Xe G x).2) },[]) else ({ G with sc:=none,done:=G.began,Q:=G.Q.map (ZU G.began) },Yb G.began G.Q)
def Jc (G:Gr):Gr:=if G.sc.isSome=true∨(qbT G.Q=0∧G.want≤G.began) then G else { G with began:=G.began+1,Q:=G.Q.map (fun q=>q.map (ZM (G.began+1))),last:=G.began+1,sc:=some (G.S.m,G.S.st,0) }
theorem qde {S:Sct} {bst:Int}:∀ (k l:Nat) (p:Int),l<18446744073709551616→(Yi S bst k l p).1<18446744073709551616
 | 0,l,p,h=>h
 | k+1,l,p,h=>by
  unfold Yi
  cases ZI l p with
  | none=>exact h
  | some r=>exact qde k _ _ (qa8 h)
set_option maxRecDepth 100000
theorem qhM (hn:1≤n∧n≤64) :qk Tryz.prog w0 107 #[zi (n:Int)] (H) (fun v H'=>∃ gb HG,v=.tuple #[zp gb,zi 0]∧GrH gb n (gr0 n) HG∧H'=HG++H):=by
 refine qd (l:=[zi (n:Int)]) Tryz.func107 rfl Tryz.ntmps107 rfl rfl ?_
 refine za 6 rfl (qn (zc1 rfl) Tryz.call197 rfl (qmN hn) ?_)
 rintro v H' ⟨lb,HL,rfl,hL,rfl⟩
 refine za 14 rfl ?_
 refine zb (l:=(scC ⟨List.replicate 64 (0,0),0,0⟩)) ty250 pl250 .nil rfl zk rfl ?_
 refine qR (l:=(scC ⟨List.replicate 64 (0,0),0,0⟩)) rfl rfl rfl (fun sb=>?_)
 refine qH rfl rfl ?_
 refine zb (l:=[zp sb,zp lb,.pointer none,zi 0,zi 0,zi 0]) ty224 pl224 (.cons rfl rfl rfl rfl rfl (.cons rfl rfl rfl rfl rfl .nil)) rfl rfl rfl ?_
 refine qR (l:=[zp sb,zp lb,.pointer none,zi 0,zi 0,zi 0]) rfl rfl rfl (fun gb=>?_)
 refine za 3 rfl (qP Tryz.results107 rfl rfl (.nil _) (.refl _) ?_)
 exact ⟨gb,_,rfl,.mk (G:=gr0 n) (.none) hL,rfl⟩
theorem qdt {sv:Value} (hm:(gb,.cells 224 6 [zp sb,zp lb,sv,zi G.began,zi G.done,zi G.want])∈H) :qG Tryz.prog w0 H 56 [zp gb] (zp sb):=by
 refine qd Tryz.func56 rfl Tryz.ntmps56 rfl rfl (za 6 rfl ?_)
 refine W_x (qE rfl rfl XC) (fun _ h=>by cases h) rfl ?_
 refine za 7 rfl ?_
 refine qf (v:=zp sb) rfl Yh rfl (qh.own (b:=gb) (by repeat (first | exact hm | apply List.mem_cons_of_mem)) rfl) rfl ?_
 refine za 2 rfl ?_
 refine qj (H2:=H) Tryz.results56 rfl (.nil _) zH ?_
 exact ⟨rfl,rfl⟩
theorem qb2 (hG:GrH gb n G HG) (hok:z9 n G) {r:Int} (hrow:∀ HZ:qe,Holds w0 (HZ++H) ad [zi r]) :qk Tryz.prog w0 12 #[zp gb,.slice ad 1 cap] (HG++H) (fun v H'=>∃ HG',GrH gb n { G with S:=(enS G.S r).1 } HG'∧v=zi (enS G.S r).2∧H'=HG'++H):=by
 cases hG with
 | @mk sb lb sv HX HL hS hL =>
 have e0:((gb,.cells 224 6 [zp sb,zp lb,sv,zi G.began,zi G.done,zi G.want])::(sb,.cells 250 130 (scC G.S))::(HX++HL))++H=(gb,.cells 224 6 [zp sb,zp lb,sv,zi G.began,zi G.done,zi G.want])::(sb,.cells 250 130 (scC G.S))::(HX++(HL++H)):=by simp only [List.cons_append,List.append_assoc]
 rw [e0]
 refine qd (l:=[zp gb,.slice ad 1 cap]) Tryz.func12 rfl Tryz.ntmps12 rfl rfl ?_
 refine za 5 rfl ?_
 refine qB (zc1 rfl) Tryz.call56 rfl (qdt (sb:=sb) (lb:=lb) (sv:=sv) (G:=G) zM) ?_
 refine qH rfl rfl ?_
 refine qn (zc2 rfl rfl) Tryz.call57 rfl ((qg1 hok.sok hok.st (by have:=hrow ((gb,.cells 224 6 [zp sb,zp lb,sv,zi G.began,zi G.done,zi G.want])::(HX++HL)); simpa only [List.cons_append,List.append_assoc] using this) (H:=(gb,.cells 224 6 [zp sb,zp lb,sv,zi G.began,zi G.done,zi G.want])::(HX++(HL++H)))).hsub zH) ?_
 rintro v H' ⟨rfl,rfl⟩
 refine za 2 rfl ?_
 refine qj (H2:=(gb,.cells 224 6 [zp sb,zp lb,sv,zi G.began,zi G.done,zi G.want])::(sb,.cells 250 130 (scC (enS G.S r).1))::(HX++(HL++H))) Tryz.results12 rfl (.nil _) zH ?_
 exact ⟨(gb,.cells 224 6 [zp sb,zp lb,sv,zi G.began,zi G.done,zi G.want])::(sb,.cells 250 130 (scC (enS G.S r).1))::(HX++HL),.mk (G:={ G with S:=(enS G.S r).1 }) hS hL,rfl,by simp only [List.cons_append,List.append_assoc]⟩
theorem GrH.exit (hG:GrH gb n G HG) (hok:z9 n G) {r:Int} :qk Tryz.prog w0 13 #[zp gb,zi r] (HG++H) (fun v H'=>∃ HG',GrH gb n { G with S:=(exS G.S r).1 } HG'∧v=.tuple #[.bool (exS G.S r).2.1,zi (exS G.S r).2.2]∧H'=HG'++H):=by
 cases hG with
 | @mk sb lb sv HX HL hS hL =>
 have e0:((gb,.cells 224 6 [zp sb,zp lb,sv,zi G.began,zi G.done,zi G.want])::(sb,.cells 250 130 (scC G.S))::(HX++HL))++H=(gb,.cells 224 6 [zp sb,zp lb,sv,zi G.began,zi G.done,zi G.want])::(sb,.cells 250 130 (scC G.S))::(HX++(HL++H)):=by simp only [List.cons_append,List.append_assoc]
 rw [e0]
 refine qd (l:=[zp gb,zi r]) Tryz.func13 rfl Tryz.ntmps13 rfl rfl ?_
 refine za 6 rfl ?_
 refine qB (zc1 rfl) Tryz.call56 rfl (qdt (sb:=sb) (lb:=lb) (sv:=sv) (G:=G) zM) ?_
 refine qH rfl rfl ?_
 refine qn (zc2 rfl rfl) Tryz.call58 rfl ((qkk hok.sok (r:=r) (H:=(gb,.cells 224 6 [zp sb,zp lb,sv,zi G.began,zi G.done,zi G.want])::(HX++(HL++H)))).hsub zH) ?_
 rintro v H' ⟨rfl,rfl⟩
 refine za 5 rfl ?_
 refine qP (H2:=(gb,.cells 224 6 [zp sb,zp lb,sv,zi G.began,zi G.done,zi G.want])::(sb,.cells 250 130 (scC (exS G.S r).1))::(HX++(HL++H))) Tryz.results13 rfl rfl (.nil _) zH ?_
 exact ⟨(gb,.cells 224 6 [zp sb,zp lb,sv,zi G.began,zi G.done,zi G.want])::(sb,.cells 250 130 (scC (exS G.S r).1))::(HX++HL),.mk (G:={ G with S:=(exS G.S r).1 }) hS hL,rfl,by simp only [List.cons_append,List.append_assoc]⟩
theorem qhN (hG:GrH gb n G HG) (hok:z9 n G) (hk:k<n) (hq:G.Q[k]?=some q) (hrow:∀ HZ:qe,Holds w0 (HZ++H) ad [zi id]) :qk Tryz.prog w0 70 #[zp gb,zi (k:Int),.slice ad 1 cap] (HG++H) (fun v H'=>∃ HG',GrH gb n { G with Q:=G.Q.set k (qdM q id) } HG'∧v=zi (if q.length<64 then 0 else 3)∧H'=HG'++H):=by
 cases hG with
 | @mk sb lb sv HX HL hS hL =>
 have e0:((gb,.cells 224 6 [zp sb,zp lb,sv,zi G.began,zi G.done,zi G.want])::(sb,.cells 250 130 (scC G.S))::(HX++HL))++H=(gb,.cells 224 6 [zp sb,zp lb,sv,zi G.began,zi G.done,zi G.want])::(sb,.cells 250 130 (scC G.S))::(HX++(HL++H)):=by simp only [List.cons_append,List.append_assoc]
 rw [e0]
 refine qd (l:=[zp gb,zi (k:Int),.slice ad 1 cap]) Tryz.func70 rfl Tryz.ntmps70 rfl rfl ?_
 refine za 6 rfl ?_
 refine W_x (qE rfl rfl XC) (fun _ h=>by cases h) rfl ?_
 refine za 7 rfl ?_
 refine qf (v:=zp lb) rfl Yw rfl (qh.own (b:=gb) zM rfl) rfl ?_
 refine za 2 rfl ?_
 refine qn (zc3 rfl rfl rfl) Tryz.call156 rfl ((qmO hL hok.n.2 hk hq (by have:=hrow ((gb,.cells 224 6 [zp sb,zp lb,sv,zi G.began,zi G.done,zi G.want])::(sb,.cells 250 130 (scC G.S))::HX); simpa only [List.cons_append,List.append_assoc] using this) (H:=(gb,.cells 224 6 [zp sb,zp lb,sv,zi G.began,zi G.done,zi G.want])::(sb,.cells 250 130 (scC G.S))::(HX++H))).hsub zH) ?_
 rintro v H' ⟨HL',hL',rfl,rfl⟩
 refine za 2 rfl ?_
 refine qj (H2:=(gb,.cells 224 6 [zp sb,zp lb,sv,zi G.began,zi G.done,zi G.want])::(sb,.cells 250 130 (scC G.S))::(HX++(HL'++H))) Tryz.results70 rfl (.nil _) zH ?_
 exact ⟨(gb,.cells 224 6 [zp sb,zp lb,sv,zi G.began,zi G.done,zi G.want])::(sb,.cells 250 130 (scC G.S))::(HX++HL'),.mk (G:={ G with Q:=G.Q.set k (qdM q id) }) hS hL',rfl,by simp only [List.cons_append,List.append_assoc]⟩
theorem qeq (hm:(gb,.cells 224 6 [zp sb,zp lb,.pointer none,zi G.began,zi G.done,zi G.want])∈H) :qG Tryz.prog w0 H 154 [zp gb] (.slice none 0 0):=by
 refine qd Tryz.func154 rfl Tryz.ntmps154 rfl rfl (za 8 rfl ?_)
 refine qf (v:=.pointer none) rfl Z5 rfl (qh.own (b:=gb) (by repeat (first | exact hm | apply List.mem_cons_of_mem)) rfl) rfl ?_
 refine W_x (qE rfl rfl Z5) (fun _ h=>by cases h) rfl ?_
 refine za 13 rfl ?_
 refine qj (H2:=H) Tryz.results154 rfl (.nil _) zH ?_
 exact ⟨rfl,rfl⟩
theorem qep {xb:Nat} {left:Nat} {bst place:Int} (hok:z9 n G) (hsc:G.sc=some (left,bst,place)) (hL:Qv lb n G.Q G.last HL) (hT:Tab w0):qk Tryz.prog w0 154 #[zp gb] ((gb,.cells 224 6 [zp sb,zp lb,zp xb,zi G.began,zi G.done,zi G.want])::(sb,.cells 250 130 (scC G.S))::(xb,.cells 485 4 [zp sb,zu ((left:Nat):Int),zi bst,zi place])::(HL++H)) (fun v H'=>(0<Qi 64 (Xe G (left,bst,place)).1∧v=.slice none 0 0∧H'=(gb,.cells 224 6 [zp sb,zp lb,zp xb,zi G.began,zi G.done,zi G.want])::(sb,.cells 250 130 (scC G.S))::(xb,.cells 485 4 [zp sb,zu (((Xe G (left,bst,place)).1:Nat):Int),zi bst,zi (Xe G (left,bst,place)).2])::(HL++H))∨(¬ 0<Qi 64 (Xe G (left,bst,place)).1∧∃ HL' XO,Qv lb n (G.Q.map (ZU G.began)) G.last HL'∧zz 3 1 v (Yb G.began G.Q).length ((Yb G.began G.Q).map (Value.int .i64)) XO∧H'=XO++((gb,.cells 224 6 [zp sb,zp lb,.pointer none,zi G.began,zi G.began,zi G.want])::(sb,.cells 250 130 (scC G.S))::(HL'++H)))):=by
 refine qd (l:=[zp gb]) Tryz.func154 rfl Tryz.ntmps154 rfl rfl ?_
 refine za 8 rfl ?_
 refine qf (v:=zp xb) rfl Z5 rfl (qh.own (b:=gb) zM rfl) rfl ?_
 refine W_x (qE rfl rfl Z5) (fun _ h=>by cases h) rfl ?_
 refine za 8 rfl ?_
 refine qf (v:=zp xb) rfl Z5 rfl (qh.own (b:=gb) zM rfl) rfl ?_
 refine Qk rfl rfl ?_
 refine qT (H':=(xb,.cells 485 4 [zp sb,zu ((left:Nat):Int),zi bst,zi place])::(gb,.cells 224 6 [zp sb,zp lb,zp xb,zi G.began,zi G.done,zi G.want])::(sb,.cells 250 130 (scC G.S))::(HL++H)) zH ?_
 refine qn (zc2 rfl rfl) Tryz.call246 rfl (qd6 (n:=16) hok.sok (hok.left _ _ _ hsc) (H:=(gb,.cells 224 6 [zp sb,zp lb,zp xb,zi G.began,zi G.done,zi G.want])::(sb,.cells 250 130 (scC G.S))::(HL++H)) zM hT) ?_
 rintro v H' ⟨rfl,rfl⟩
 rw [show Yi G.S bst (min 16 (Qi 64 left)) left place=Xe G (left,bst,place) from rfl]
 refine za 4 rfl ?_
 refine qq (p:=0<Qi 64 (Xe G (left,bst,place)).1) rfl (by rw [decide_eq_true_eq]; omega) (fun q0=>?_) (fun q0=>?_)
 ·skip
  refine za 3 rfl ?_
  refine qj (H2:=(gb,.cells 224 6 [zp sb,zp lb,zp xb,zi G.began,zi G.done,zi G.want])::(sb,.cells 250 130 (scC G.S))::(xb,.cells 485 4 [zp sb,zu (((Xe G (left,bst,place)).1:Nat):Int),zi bst,zi (Xe G (left,bst,place)).2])::(HL++H)) Tryz.results154 rfl (.nil _) zH ?_
  exact .inl ⟨q0,rfl,rfl⟩
 ·skip
  refine za 7 rfl ?_
  refine qf (v:=zi G.began) rfl ty3 rfl (qh.own (b:=gb) zM rfl) rfl ?_
  refine za 2 rfl ?_
  refine qy (l':=[zp sb,zp lb,.pointer none,zi G.began,zi G.done,zi G.want]) rfl rfl Z5 rfl rfl (b:=gb) zM rfl rfl zU ?_
  refine za 2 rfl ?_
  refine qy (l':=[zp sb,zp lb,.pointer none,zi G.began,zi G.began,zi G.want]) rfl rfl ty3 rfl rfl (b:=gb) zM rfl rfl zU ?_
  refine za 2 rfl ?_
  refine zy [(gb,.cells 224 6 [zp sb,zp lb,.pointer none,zi G.began,zi G.began,zi G.want])] zk ?_
  refine zw [0,1,2] rfl rfl ?_
  refine qm 3 rfl zK zK zK rfl rfl (ql (v:=zp lb) rfl Yw rfl (qh.own (b:=gb) zM rfl)) rfl ?_
  refine zw [4,5,6] rfl rfl ?_
  refine qm 7 rfl zK zK zK rfl rfl (ql (v:=zi G.began) rfl ty3 rfl (qh.own (b:=gb) zM rfl)) rfl ?_
  refine qJ 8 zH zK rfl rfl ?_
  refine qn (zc2 rfl rfl) Tryz.call247 rfl ((qkP hL hok.n (gen:=G.began) (H:=(gb,.cells 224 6 [zp sb,zp lb,.pointer none,zi G.began,zi G.began,zi G.want])::(xb,.cells 485 4 [zp sb,zu (((Xe G (left,bst,place)).1:Nat):Int),zi bst,zi (Xe G (left,bst,place)).2])::(sb,.cells 250 130 (scC G.S))::H)).hsub zH) ?_
  rintro v H' ⟨HL',XO,hL',hO,rfl⟩
  refine qs (WC_goal (zw [9] rfl rfl (WC_done zH zK ?_)))
  refine qj (H2:=XO++((gb,.cells 224 6 [zp sb,zp lb,.pointer none,zi G.began,zi G.began,zi G.want])::(sb,.cells 250 130 (scC G.S))::(HL'++H))) Tryz.results154 rfl (.nil _) zH ?_
  exact .inr ⟨q0,HL',XO,hL',hO,rfl⟩
theorem GrH.look (hG:GrH gb n G HG) (hok:z9 n G) (hT:Tab w0):qk Tryz.prog w0 154 #[zp gb] (HG++H) (fun v H'=>∃ HG' XO,GrH gb n (Qo G).1 HG'∧zz 3 1 v (Qo G).2.length ((Qo G).2.map (Value.int .i64)) XO∧H'=XO++(HG'++H)):=by
 cases hG with
 | @mk sb lb sv HX HL hS hL =>
  have e1:∀ (a b:Nat × Blk) (X Y:qe),(a::b::(X++Y))++H=a::b::(X++(Y++H)):=fun a b X Y=>by simp only [List.cons_append,List.append_assoc]
  obtain ⟨S,Q,last,sc,began,done,want⟩:=G
  dsimp only at hS hL
  cases hS with
  | none =>
   refine (qeq (G:=⟨S,Q,last,none,began,done,want⟩) (gb:=gb) (sb:=sb) (lb:=lb) List.mem_cons_self).mono ?_
   rintro v H' ⟨rfl,rfl⟩
   exact ⟨_,[],.mk (G:=⟨S,Q,last,none,began,done,want⟩) .none hL,.nil,rfl⟩
  | @some xb left bst place =>
   rw [e1]
   refine (qep (xb:=xb) (gb:=gb) (sb:=sb) (H:=H) hok rfl hL hT).mono ?_
   rintro v H' (⟨hp,rfl,rfl⟩ | ⟨hp,HL',XO,hL',hO,rfl⟩)
   ·have e:Qo ⟨S,Q,last,Option.some (left,bst,place),began,done,want⟩=(⟨S,Q,last,Option.some ((Xe ⟨S,Q,last,Option.some (left,bst,place),began,done,want⟩ (left,bst,place)).1,bst,(Xe ⟨S,Q,last,Option.some (left,bst,place),began,done,want⟩ (left,bst,place)).2),began,done,want⟩,[]):=if_pos hp
    rw [e]
    exact ⟨_,[],.mk .some hL,.nil,by rw [e1]; rfl⟩
   ·have e:Qo ⟨S,Q,last,Option.some (left,bst,place),began,done,want⟩=(⟨S,Q.map (ZU began),last,none,began,began,want⟩,Yb began Q):=if_neg hp
    rw [e]
    exact ⟨_,XO,.mk .none hL',hO,by rw [e1]; rfl⟩
theorem qdu {xb:Nat} (hm:(gb,.cells 224 6 [zp sb,zp lb,zp xb,zi G.began,zi G.done,zi G.want])∈H) :qG Tryz.prog w0 H 155 [zp gb] (.slice none 0 0):=by
 refine qd Tryz.func155 rfl Tryz.ntmps155 rfl rfl (za 4 rfl (zB zk zK (zq 3 rfl ?_)))
 refine qC (ql (v:=zp xb) rfl Z5 rfl (qh.own (b:=gb) hm rfl)) rfl ?_
 refine qC (QD rfl rfl Z5) rfl (zq 8 rfl (Qm rfl rfl rfl (Qm rfl rfl rfl (Qm rfl rfl rfl (Qm rfl rfl rfl (Qm rfl rfl rfl (Qm rfl rfl rfl ?_)))))))
 refine Qm rfl rfl rfl (Qm rfl rfl rfl (Qm rfl rfl rfl (zq 1 rfl ?_)))
 first | refine qC (qX rfl rfl) rfl ?_ | refine qC (qY rfl rfl) rfl ?_
 refine z4 (za 4 rfl ?_)
 refine qj (H2:=H) Tryz.results155 rfl (.nil _) zH ?_
 exact ⟨rfl,rfl⟩
theorem qfV (hok:z9 n G) (hL:Qv lb n G.Q G.last HL) (ho:qbT G.Q=0) (hw:G.want≤G.began) :qk Tryz.prog w0 155 #[zp gb] ((gb,.cells 224 6 [zp sb,zp lb,.pointer none,zi G.began,zi G.done,zi G.want])::(sb,.cells 250 130 (scC G.S))::(HL++H)) (fun v H'=>v=.slice none 0 0∧H'=(gb,.cells 224 6 [zp sb,zp lb,.pointer none,zi G.began,zi G.done,zi G.want])::(sb,.cells 250 130 (scC G.S))::(HL++H)):=by
 refine qd (l:=[zp gb]) Tryz.func155 rfl Tryz.ntmps155 rfl rfl ?_
 refine za 5 rfl ?_
 refine zy [(gb,.cells 224 6 [zp sb,zp lb,.pointer none,zi G.began,zi G.done,zi G.want])] zk ?_
 refine zw [0,1,2] rfl rfl ?_
 refine qm 3 rfl zK zK zK rfl rfl (ql (v:=.pointer none) rfl Z5 rfl (qh.own (b:=gb) zM rfl)) rfl ?_
 refine qm 4 rfl zK zK zK rfl rfl (QD rfl rfl Z5) rfl ?_
 refine zw [5,6,7,8] rfl rfl ?_
 refine QY 9 rfl zK zK zK rfl rfl rfl rfl (ql (v:=zp lb) rfl Yw rfl (qh.own (b:=gb) zM rfl)) rfl ?_
 refine qJ 10 zH zK rfl rfl ?_
 refine Qk rfl rfl ?_
 refine qn (zc1 rfl) Tryz.call248 rfl ((qcs hL hok.n (H:=(gb,.cells 224 6 [zp sb,zp lb,.pointer none,zi G.began,zi G.done,zi G.want])::(sb,.cells 250 130 (scC G.S))::H)).hsub zH) ?_
 rintro v H' ⟨rfl,rfl⟩
 refine qs (WC_goal (zw [11] rfl rfl ?_))
 rw [ho,show decide (((0:Nat):Int)=0)=true from rfl]
 refine zw [12,13,14,15] rfl rfl ?_
 refine QY 16 rfl zK zK zK rfl rfl rfl rfl (ql (v:=zi G.want) rfl ty3 rfl (qh.own (b:=gb) zM rfl)) rfl ?_
 refine zw [17,18,19] rfl rfl ?_
 refine QY 20 rfl zK zK zK rfl rfl rfl rfl (ql (v:=zi G.began) rfl ty3 rfl (qh.own (b:=gb) zM rfl)) rfl ?_
 refine zw [21] rfl rfl ?_
 rw [decide_eq_true hw]
 first | refine QY 22 rfl zK zK zK rfl rfl rfl rfl (qX rfl rfl) rfl ?_ | refine QY 22 rfl zK zK zK rfl rfl rfl rfl (qY rfl rfl) rfl ?_
 first | refine qm 23 rfl zK zK zK rfl rfl (qX rfl rfl) rfl ?_ | refine qm 23 rfl zK zK zK rfl rfl (qY rfl rfl) rfl ?_
 refine WC_done zH zK (za 4 rfl ?_)
 refine qj (H2:=(gb,.cells 224 6 [zp sb,zp lb,.pointer none,zi G.began,zi G.done,zi G.want])::(sb,.cells 250 130 (scC G.S))::(HL++H)) Tryz.results155 rfl (.nil _) zH ?_
 exact ⟨rfl,rfl⟩
theorem qhL (hok:z9 n G) (hL:Qv lb n G.Q G.last HL) (ho:qbT G.Q≠0) :qk Tryz.prog w0 155 #[zp gb] ((gb,.cells 224 6 [zp sb,zp lb,.pointer none,zi G.began,zi G.done,zi G.want])::(sb,.cells 250 130 (scC G.S))::(HL++H)) (fun v H'=>∃ xb HL',v=.slice none 0 0∧Qv lb n (G.Q.map (fun q=>q.map (ZM (G.began+1)))) (G.began+1) HL'∧H'=(gb,.cells 224 6 [zp sb,zp lb,zp xb,zi (G.began+1),zi G.done,zi G.want])::(sb,.cells 250 130 (scC G.S))::(xb,.cells 485 4 [zp sb,zu ((G.S.m:Nat):Int),zi G.S.st,zi 0])::(HL'++H)):=by
 refine qd (l:=[zp gb]) Tryz.func155 rfl Tryz.ntmps155 rfl rfl ?_
 refine za 5 rfl ?_
 refine zy [(gb,.cells 224 6 [zp sb,zp lb,.pointer none,zi G.began,zi G.done,zi G.want])] zk ?_
 refine zw [0,1,2] rfl rfl ?_
 refine qm 3 rfl zK zK zK rfl rfl (ql (v:=.pointer none) rfl Z5 rfl (qh.own (b:=gb) zM rfl)) rfl ?_
 refine qm 4 rfl zK zK zK rfl rfl (QD rfl rfl Z5) rfl ?_
 refine zw [5,6,7,8] rfl rfl ?_
 refine QY 9 rfl zK zK zK rfl rfl rfl rfl (ql (v:=zp lb) rfl Yw rfl (qh.own (b:=gb) zM rfl)) rfl ?_
 refine qJ 10 zH zK rfl rfl ?_
 refine Qk rfl rfl ?_
 refine qn (zc1 rfl) Tryz.call248 rfl ((qcs hL hok.n (H:=(gb,.cells 224 6 [zp sb,zp lb,.pointer none,zi G.began,zi G.done,zi G.want])::(sb,.cells 250 130 (scC G.S))::H)).hsub zH) ?_
 rintro v H' ⟨rfl,rfl⟩
 refine qs (WC_goal (zw [11] rfl rfl ?_))
 rw [decide_eq_false (by omega)]
 refine zw [12] rfl rfl ?_
 refine YW 13 rfl zK zK zK rfl rfl rfl rfl rfl ?_
 refine YW 14 rfl zK zK zK rfl rfl rfl rfl rfl ?_
 refine YW 15 rfl zK zK zK rfl rfl rfl rfl rfl ?_
 refine YW 16 rfl zK zK zK rfl rfl rfl rfl rfl ?_
 refine YW 17 rfl zK zK zK rfl rfl rfl rfl rfl ?_
 refine YW 18 rfl zK zK zK rfl rfl rfl rfl rfl ?_
 refine YW 19 rfl zK zK zK rfl rfl rfl rfl rfl ?_
 refine YW 20 rfl zK zK zK rfl rfl rfl rfl rfl ?_
 refine YW 21 rfl zK zK zK rfl rfl rfl rfl rfl ?_
 first | refine QY 22 rfl zK zK zK rfl rfl rfl rfl (qX rfl rfl) rfl ?_ | refine QY 22 rfl zK zK zK rfl rfl rfl rfl (qY rfl rfl) rfl ?_
 first | refine qm 23 rfl zK zK zK rfl rfl (qX rfl rfl) rfl ?_ | refine qm 23 rfl zK zK zK rfl rfl (qY rfl rfl) rfl ?_
 refine WC_done zH zK (za 6 rfl ?_)
 refine qf (v:=zi G.began) rfl ty3 rfl (qh.own (b:=gb) zM rfl) rfl ?_
 refine qF rfl rfl (qM (m:=G.began+1) (qW (by have:=hok.beg; omega))) rfl ?_
 refine za 2 rfl ?_
 refine qy (l':=[zp sb,zp lb,.pointer none,zi (G.began+1),zi G.done,zi G.want]) rfl rfl ty3 rfl rfl (b:=gb) zM rfl rfl zU ?_
 refine za 2 rfl ?_
 refine zy [(gb,.cells 224 6 [zp sb,zp lb,.pointer none,zi (G.began+1),zi G.done,zi G.want])] zk ?_
 refine zw [0,1,2] rfl rfl ?_
 refine qm 3 rfl zK zK zK rfl rfl (ql (v:=zp lb) rfl Yw rfl (qh.own (b:=gb) zM rfl)) rfl ?_
 refine zw [4,5,6] rfl rfl ?_
 refine qm 7 rfl zK zK zK rfl rfl (ql (v:=zi (G.began+1)) rfl ty3 rfl (qh.own (b:=gb) zM rfl)) rfl ?_
 refine qJ 8 zH zK rfl rfl ?_
 refine qn (zc2 rfl rfl) Tryz.call249 rfl ((qdr hL hok.n (gen:=G.began+1) ⟨by have:=hok.beg; omega,by have:=hok.last; omega⟩ (H:=(gb,.cells 224 6 [zp sb,zp lb,.pointer none,zi (G.began+1),zi G.done,zi G.want])::(sb,.cells 250 130 (scC G.S))::H)).hsub zH) ?_
 rintro v H' ⟨HL',cnt,hL',rfl,rfl⟩
 refine qs (WC_goal (WC_done zH zK (za 5 rfl ?_)))
 refine qf (v:=zp sb) rfl Yh rfl (qh.own (b:=gb) zM rfl) rfl ?_
 refine qn (zc1 rfl) Tryz.call250 rfl (qbM hok.sok.len zM) ?_
 rintro v H' ⟨xb,rfl,rfl⟩
 refine za 2 rfl ?_
 refine qy (l':=[zp sb,zp lb,zp xb,zi (G.began+1),zi G.done,zi G.want]) rfl rfl Z5 rfl rfl (b:=gb) zM rfl rfl zU ?_
 refine za 4 rfl ?_
 refine qj (H2:=(gb,.cells 224 6 [zp sb,zp lb,zp xb,zi (G.began+1),zi G.done,zi G.want])::(sb,.cells 250 130 (scC G.S))::(xb,.cells 485 4 [zp sb,zu ((G.S.m:Nat):Int),zi G.S.st,zi 0])::(HL'++H)) Tryz.results155 rfl (.nil _) zH ?_
 exact ⟨xb,HL',rfl,hL',rfl⟩
theorem qhK (hok:z9 n G) (hL:Qv lb n G.Q G.last HL) (ho:qbT G.Q=0) (hw:¬ G.want≤G.began) :qk Tryz.prog w0 155 #[zp gb] ((gb,.cells 224 6 [zp sb,zp lb,.pointer none,zi G.began,zi G.done,zi G.want])::(sb,.cells 250 130 (scC G.S))::(HL++H)) (fun v H'=>∃ xb HL',v=.slice none 0 0∧Qv lb n (G.Q.map (fun q=>q.map (ZM (G.began+1)))) (G.began+1) HL'∧H'=(gb,.cells 224 6 [zp sb,zp lb,zp xb,zi (G.began+1),zi G.done,zi G.want])::(sb,.cells 250 130 (scC G.S))::(xb,.cells 485 4 [zp sb,zu ((G.S.m:Nat):Int),zi G.S.st,zi 0])::(HL'++H)):=by
 refine qd (l:=[zp gb]) Tryz.func155 rfl Tryz.ntmps155 rfl rfl ?_
 refine za 5 rfl ?_
 refine zy [(gb,.cells 224 6 [zp sb,zp lb,.pointer none,zi G.began,zi G.done,zi G.want])] zk ?_
 refine zw [0,1,2] rfl rfl ?_
 refine qm 3 rfl zK zK zK rfl rfl (ql (v:=.pointer none) rfl Z5 rfl (qh.own (b:=gb) zM rfl)) rfl ?_
 refine qm 4 rfl zK zK zK rfl rfl (QD rfl rfl Z5) rfl ?_
 refine zw [5,6,7,8] rfl rfl ?_
 refine QY 9 rfl zK zK zK rfl rfl rfl rfl (ql (v:=zp lb) rfl Yw rfl (qh.own (b:=gb) zM rfl)) rfl ?_
 refine qJ 10 zH zK rfl rfl ?_
 refine Qk rfl rfl ?_
 refine qn (zc1 rfl) Tryz.call248 rfl ((qcs hL hok.n (H:=(gb,.cells 224 6 [zp sb,zp lb,.pointer none,zi G.began,zi G.done,zi G.want])::(sb,.cells 250 130 (scC G.S))::H)).hsub zH) ?_
 rintro v H' ⟨rfl,rfl⟩
 refine qs (WC_goal (zw [11] rfl rfl ?_))
 rw [ho,show decide (((0:Nat):Int)=0)=true from rfl]
 refine zw [12,13,14,15] rfl rfl ?_
 refine QY 16 rfl zK zK zK rfl rfl rfl rfl (ql (v:=zi G.want) rfl ty3 rfl (qh.own (b:=gb) zM rfl)) rfl ?_
 refine zw [17,18,19] rfl rfl ?_
 refine QY 20 rfl zK zK zK rfl rfl rfl rfl (ql (v:=zi G.began) rfl ty3 rfl (qh.own (b:=gb) zM rfl)) rfl ?_
 refine zw [21] rfl rfl ?_
 rw [decide_eq_false hw]
 first | refine QY 22 rfl zK zK zK rfl rfl rfl rfl (qX rfl rfl) rfl ?_ | refine QY 22 rfl zK zK zK rfl rfl rfl rfl (qY rfl rfl) rfl ?_
 first | refine qm 23 rfl zK zK zK rfl rfl (qX rfl rfl) rfl ?_ | refine qm 23 rfl zK zK zK rfl rfl (qY rfl rfl) rfl ?_
 refine WC_done zH zK (za 6 rfl ?_)
 refine qf (v:=zi G.began) rfl ty3 rfl (qh.own (b:=gb) zM rfl) rfl ?_
 refine qF rfl rfl (qM (m:=G.began+1) (qW (by have:=hok.beg; omega))) rfl ?_
 refine za 2 rfl ?_
 refine qy (l':=[zp sb,zp lb,.pointer none,zi (G.began+1),zi G.done,zi G.want]) rfl rfl ty3 rfl rfl (b:=gb) zM rfl rfl zU ?_
 refine za 2 rfl ?_
 refine zy [(gb,.cells 224 6 [zp sb,zp lb,.pointer none,zi (G.began+1),zi G.done,zi G.want])] zk ?_
 refine zw [0,1,2] rfl rfl ?_
 refine qm 3 rfl zK zK zK rfl rfl (ql (v:=zp lb) rfl Yw rfl (qh.own (b:=gb) zM rfl)) rfl ?_
 refine zw [4,5,6] rfl rfl ?_
 refine qm 7 rfl zK zK zK rfl rfl (ql (v:=zi (G.began+1)) rfl ty3 rfl (qh.own (b:=gb) zM rfl)) rfl ?_
 refine qJ 8 zH zK rfl rfl ?_
 refine qn (zc2 rfl rfl) Tryz.call249 rfl ((qdr hL hok.n (gen:=G.began+1) ⟨by have:=hok.beg; omega,by have:=hok.last; omega⟩ (H:=(gb,.cells 224 6 [zp sb,zp lb,.pointer none,zi (G.began+1),zi G.done,zi G.want])::(sb,.cells 250 130 (scC G.S))::H)).hsub zH) ?_
 rintro v H' ⟨HL',cnt,hL',rfl,rfl⟩
 refine qs (WC_goal (WC_done zH zK (za 5 rfl ?_)))
 refine qf (v:=zp sb) rfl Yh rfl (qh.own (b:=gb) zM rfl) rfl ?_
 refine qn (zc1 rfl) Tryz.call250 rfl (qbM hok.sok.len zM) ?_
 rintro v H' ⟨xb,rfl,rfl⟩
 refine za 2 rfl ?_
 refine qy (l':=[zp sb,zp lb,zp xb,zi (G.began+1),zi G.done,zi G.want]) rfl rfl Z5 rfl rfl (b:=gb) zM rfl rfl zU ?_
 refine za 4 rfl ?_
 refine qj (H2:=(gb,.cells 224 6 [zp sb,zp lb,zp xb,zi (G.began+1),zi G.done,zi G.want])::(sb,.cells 250 130 (scC G.S))::(xb,.cells 485 4 [zp sb,zu ((G.S.m:Nat):Int),zi G.S.st,zi 0])::(HL'++H)) Tryz.results155 rfl (.nil _) zH ?_
 exact ⟨xb,HL',rfl,hL',rfl⟩
theorem GrH.begin (hG:GrH gb n G HG) (hok:z9 n G):qk Tryz.prog w0 155 #[zp gb] (HG++H) (fun v H'=>∃ HG',GrH gb n (Jc G) HG'∧v=.slice none 0 0∧H'=HG'++H):=by
 cases hG with
 | @mk sb lb sv HX HL hS hL =>
  have e1:∀ (a b:Nat × Blk) (X Y:qe),(a::b::(X++Y))++H=a::b::(X++(Y++H)):=fun a b X Y=>by simp only [List.cons_append,List.append_assoc]
  obtain ⟨S,Q,last,sc,began,done,want⟩:=G
  dsimp only at hS hL
  cases hS with
  | @some xb left bst place =>
   refine (qdu (G:=⟨S,Q,last,Option.some (left,bst,place),began,done,want⟩) (gb:=gb) (sb:=sb) (lb:=lb) (xb:=xb) List.mem_cons_self).mono ?_
   rintro v H' ⟨rfl,rfl⟩
   exact ⟨_,.mk (G:=⟨S,Q,last,Option.some (left,bst,place),began,done,want⟩) .some hL,rfl,rfl⟩
  | none =>
   rw [e1]
   by_cases ho:qbT Q=0
   ·by_cases hw:want≤began
    ·refine (qfV (gb:=gb) (sb:=sb) (H:=H) (G:=⟨S,Q,last,none,began,done,want⟩) hok hL ho hw).mono ?_
     rintro v H' ⟨rfl,rfl⟩
     have e:Jc ⟨S,Q,last,none,began,done,want⟩=⟨S,Q,last,none,began,done,want⟩:=if_pos (.inr ⟨ho,hw⟩)
     rw [e]
     exact ⟨_,.mk (G:=⟨S,Q,last,none,began,done,want⟩) .none hL,rfl,by rw [e1]; rfl⟩
    ·refine (qhK (gb:=gb) (sb:=sb) (H:=H) (G:=⟨S,Q,last,none,began,done,want⟩) hok hL ho hw).mono ?_
     rintro v H' ⟨xb,HL',rfl,hL',rfl⟩
     have e:Jc ⟨S,Q,last,none,began,done,want⟩=⟨S,Q.map (fun q=>q.map (ZM (began+1))),began+1,Option.some (S.m,S.st,0),began+1,done,want⟩:=if_neg (by rintro (h | h); cases h; exact hw h.2)
     rw [e]
     exact ⟨_,.mk .some hL',rfl,by rw [e1]; rfl⟩
   ·refine (qhL (gb:=gb) (sb:=sb) (H:=H) (G:=⟨S,Q,last,none,began,done,want⟩) hok hL ho).mono ?_
    rintro v H' ⟨xb,HL',rfl,hL',rfl⟩
    have e:Jc ⟨S,Q,last,none,began,done,want⟩=⟨S,Q.map (fun q=>q.map (ZM (began+1))),began+1,Option.some (S.m,S.st,0),began+1,done,want⟩:=if_neg (by rintro (h | h); cases h; exact ho h.1)
    rw [e]
    exact ⟨_,.mk .some hL',rfl,by rw [e1]; rfl⟩
theorem z9.look (h:z9 n G):z9 n (Qo G).1:=by
 obtain ⟨S,Q,last,sc,began,done,want⟩:=G
 cases sc with
 | none=>exact h
 | some x =>
  unfold Qo; dsimp only
  split
  ·exact ⟨h.sok,h.n,fun l b p e=>(by cases e; exact qde _ _ _ (h.left _ _ _ rfl)),h.last,h.beg,h.st⟩
  ·exact ⟨h.sok,h.n,fun l b p e=>(by cases e),h.last,h.beg,h.st⟩
theorem z9.begin (h:z9 n G) (hb:G.began<1000000000):z9 n (Jc G):=by
 unfold Jc
 split
 ·exact h
 ·have hb2:=h.beg
  exact ⟨h.sok,h.n,fun l b p e=>(by cases e; exact h.sok.m64),Int.le_refl _,by show 0≤G.began+1∧G.began+1≤1000000000; omega,h.st⟩
def zj (G:Gr):Gr × List Int:=(Jc (Qo G).1,(Qo G).2)
theorem KZ (G:Gr):(Qo G).1.began=G.began:=by
 unfold Qo
 split
 ·rfl
 ·split <;> rfl
theorem Kf (h:GrH gb n G HG):(Qo G).2.length≤64*n:=by
 cases h with
 | @mk sb lb sv HX HL hS hL =>
  have:=hL.facts
  unfold Qo
  split
  ·exact Nat.zero_le _
  ·split
   ·exact Nat.zero_le _
   ·have h2:=qcd (gen:=G.began) this.2
    rw [this.1] at h2
    exact h2
theorem GrH.poll (hG:GrH gb n G HG) (hok:z9 n G) (hb:G.began<1000000000) (hT:Tab w0):qk Tryz.prog w0 69 #[zp gb] (HG++H) (fun v H'=>∃ HG' XO,GrH gb n (zj G).1 HG'∧zz 3 1 v (zj G).2.length ((zj G).2.map (Value.int .i64)) XO∧H'=XO++(HG'++H)):=by
 refine qd (l:=[zp gb]) Tryz.func69 rfl Tryz.ntmps69 rfl rfl ?_
 refine za 6 rfl ?_
 refine W_x (qE rfl rfl XC) (fun _ h=>by cases h) rfl ?_
 refine za 8 rfl ?_
 refine qeF (l:=[(.func (.func 154) #[] #[]),(.func (.func 155) #[] #[])]) qgJ qgK (.cons rfl rfl rfl rfl rfl (.cons rfl rfl rfl rfl rfl .nil)) rfl rfl rfl ?_
 refine za 3 rfl ?_
 refine qV (X:=(Nat × Gr × qe × Value × qe × List Int)) [(0,_),(8,_)] (fun (z:(Nat × Gr × qe × Value × qe × List Int))=>[(9,zi (z.1:Int)),(3,z.2.2.2.1)]) (fun _=>_) (fun (z:(Nat × Gr × qe × Value × qe × List Int))=>z.2.2.2.2.1++(z.2.2.1++H)) (fun (z:(Nat × Gr × qe × Value × qe × List Int))=>z.1≤2∧GrH gb n z.2.1 z.2.2.1∧z9 n z.2.1∧(z.1=0→z.2.1=G∧z.2.2.2.2.2=[])∧(z.1=1→z.2.1=(Qo G).1∧z.2.2.2.2.2=(Qo G).2)∧(z.1=2→z.2.1=(zj G).1∧z.2.2.2.2.2=(Qo G).2)∧zz 3 1 z.2.2.2.1 z.2.2.2.2.2.length (z.2.2.2.2.2.map (Value.int .i64)) z.2.2.2.2.1) (fun (z:(Nat × Gr × qe × Value × qe × List Int))=>2-z.1) (0,G,HG,.slice none 0 0,[],[]) ⟨Nat.zero_le _,hG,hok,fun _=>⟨rfl,rfl⟩,fun h=>(by cases h),fun h=>(by cases h),.nil⟩ (qc rfl (qc rfl (qi _))) (qc rfl (qc rfl (qi _))) rfl (show qr _ ([]++(HG++H)) from .refl _) ?_
 rintro ⟨i,G1,HG1,xv,XB,ids⟩ ⟨hi,hG1,hok1,h0,h1,h2,hO⟩
 dsimp only at hi hG1 hok1 h0 h1 h2 hO ⊢
 simp only [List.cons_append,List.nil_append]
 refine za 4 rfl ?_
 refine qq (p:=i<2) rfl (by rw [decide_eq_true_eq]; omega) (fun q0=>?_) (fun q0=>?_)
 ·skip
  refine za 4 rfl ?_
  rcases (show i=0∨i=1 by omega) with rfl | rfl
  ·skip
   refine qdQ (v:=(.func (.func 154) #[] #[])) (j:=0) rfl rfl qgJ qgK rfl rfl zd rfl rfl ?_
   refine za 6 rfl ?_
   obtain ⟨eG,eI⟩:=h0 rfl
   have htl:=Kf hG1
   have hn:=hok.n
   refine JR (fa:=#[]) (ca:=#[]) rfl (.cons rfl .nil) Tryz.call154 rfl ((hG1.look hok1 hT (H:=XB++H)).hsub zH) ?_
   rintro v H' ⟨HG2,XO,hG2,hXO,rfl⟩
   obtain ⟨ad2,cap2,rfl,hh2⟩:∃ ad2 cap2,v=.slice ad2 (Qo G1).2.length cap2∧Holds w0 (XO++(HG2++(XB++H))) ad2 ((Qo G1).2.map (Value.int .i64)):=by
    obtain ⟨ad2,cap2,e,h3,h4,h5⟩:=Holds.of_own (w0:=w0) (H:=XO++(HG2++(XB++H))) hXO (fun p hp=>List.mem_append_left _ hp)
    exact ⟨ad2,cap2,e,h5⟩
   refine QF (news:=(Qo G1).2.map (Value.int .i64)) (m:=(Qo G1).2.length) (HB:=XB) (H0:=XO++(HG2++H)) rfl rfl qZ ty3 rfl (by decide) hO (by rw [List.length_map,Nat.mul_one]) hh2 (by rw [List.all_map,List.all_eq_true]; exact fun _ _=>rfl) (by rw [eI]; simp only [maxLen,List.length_nil]; omega) (by rw [eI]; simp only [List.length_nil]; omega) zH rfl (fun xv' XB' hO'=>?_)
   refine za 4 rfl ?_
   refine qF rfl rfl (qM (m:=1) rfl) rfl ?_
   refine za 2 rfl ?_
   refine qI (1,(Qo G1).1,HG2,xv',XB',ids++(Qo G1).2) ⟨by show 1≤2; decide,hG2,hok1.look,fun h=>(by cases h),fun _=>by obtain ⟨rfl,rfl⟩:=h0 rfl; exact ⟨rfl,rfl⟩,fun h=>(by cases h),by show zz _ 1 xv' (ids++_).length ((ids++_).map _) XB'; rw [List.length_append,List.map_append]; exact hO'⟩ (by show 2-1<2-0; decide) (qc rfl (qc rfl (qc rfl (qc rfl (qi _))))) rfl zH
  ·skip
   refine qdQ (v:=(.func (.func 155) #[] #[])) (j:=1) rfl rfl qgJ qgK rfl rfl zd rfl rfl ?_
   refine za 6 rfl ?_
   refine JR (fa:=#[]) (ca:=#[]) rfl (.cons rfl .nil) Tryz.call155 rfl ((hG1.begin hok1 (H:=XB++H)).hsub zH) ?_
   rintro v H' ⟨HG2,hG2,rfl,rfl⟩
   obtain ⟨eG,eI⟩:=h1 rfl
   have htl:=Kf hG
   have hn:=hok.n
   refine QF (news:=[]) (m:=0) (HB:=XB) (H0:=HG2++H) rfl rfl qZ ty3 rfl (by decide) hO rfl (fun j x hx=>by simp at hx) rfl (by rw [eI]; simp only [maxLen]; omega) (by rw [eI]; omega) zH rfl (fun xv' XB' hO'=>?_)
   refine za 4 rfl ?_
   refine qF rfl rfl (qM (m:=2) rfl) rfl ?_
   refine za 2 rfl ?_
   refine qI (2,Jc G1,HG2,xv',XB',ids) ⟨by show 2≤2; decide,hG2,hok1.begin (by rw [(h1 rfl).1,KZ]; exact hb),fun h=>(by cases h),fun h=>(by cases h),fun _=>by obtain ⟨rfl,rfl⟩:=h1 rfl; exact ⟨rfl,rfl⟩,by simpa using hO'⟩ (by show 2-2<2-1; decide) (qc rfl (qc rfl (qc rfl (qc rfl (qi _))))) rfl zH
 ·skip
  refine za 5 rfl ?_
  refine qj (H2:=XB++(HG1++H)) Tryz.results69 rfl (.nil _) zH ?_
  obtain rfl:i=2:=by omega
  obtain ⟨rfl,rfl⟩:=h2 rfl
  exact ⟨HG1,XB,hG1,hO,rfl⟩
def ZL (Q:List (Int × Int)) (id:Int):List (Int × Int):=Q.filter (fun p=>decide (p.1≠id))
theorem QOk.del (h:QOk n Q) (id:Int):QOk n (ZL Q id):=⟨h.ids.sublist (List.filter_sublist.map _),fun p hp=>h.rng p (List.mem_filter.1 hp).1⟩
theorem qli (h:QOk n Q) (hw:whQ Q id=none):ZL Q id=Q:=List.filter_eq_self.2 fun p hp=>decide_eq_true (fun e=>by
 have h1:=(Y8 h (id:=id) (k:=p.2)).2 (by rw [← e]; exact hp)
 rw [hw] at h1; cases h1)
theorem Y1:∀ {l:List Int} {i:Nat} {x:Int},l.Nodup→l[i]?=some x→l.eraseIdx i=l.filter (fun y=>decide (y≠x))
 | y::l,0,x,hn,h=>by
  obtain rfl:y=x:=by simpa using h
  rw [List.nodup_cons] at hn
  rw [List.filter_cons_of_neg (by simp),List.eraseIdx_zero,List.tail_cons]
  exact (List.filter_eq_self.2 fun z hz=>decide_eq_true (p:=z≠y) (fun (e:z=y)=>hn.1 (e ▸ hz))).symm
 | y::l,i+1,x,hn,h=>by
  rw [List.nodup_cons] at hn
  have hx:l[i]?=some x:=by simpa using h
  rw [List.eraseIdx_cons_succ,List.filter_cons_of_pos (by simpa using fun e:y=x=>hn.1 (e ▸ List.mem_of_getElem? hx)),Y1 hn.2 hx]
theorem qda (Q:List (Int × Int)) (id k:Int):Zs (ZL Q id) k=(Zs Q k).filter (fun y=>decide (y≠id)):=by
 unfold Zs ZL
 rw [List.filter_map,List.filter_filter,List.filter_filter]
 congr 1
 refine List.filter_congr fun p _=>?_
 simp [Bool.and_comm]
theorem qc9 (h:QOk n Q) {k:Int} (hi:(Zs Q k)[i]?=some id):Zs (ZL Q id) k=(Zs Q k).eraseIdx i:=by
 rw [qda,Y1 (qa1 h k).1 hi]
theorem qa2 (h:QOk n Q) {k j:Int} (hm:(id,k)∈Q) (hj:j≠k):Zs (ZL Q id) j=Zs Q j:=by
 rw [qda]
 refine List.filter_eq_self.2 fun y hy=>decide_eq_true (fun e=>hj ?_)
 subst e
 have h1:=(Y8 h).2 (Kp.1 hy)
 rw [(Y8 h).2 hm] at h1
 exact (Option.some.inj h1).symm
def Qr (Q:List (Int × Int)) (l:List Int):List (Int × Int) × Nat:=l.foldl (fun s id=>(ZL s.1 id,s.2+if (whQ s.1 id).isSome=true then 1 else 0)) (Q,0)
theorem qbq {l:List Int} (h:l[i]?=some x):Qr Q (l.take (i+1))=(ZL (Qr Q (l.take i)).1 x,(Qr Q (l.take i)).2+if (whQ (Qr Q (l.take i)).1 x).isSome=true then 1 else 0):=by
 unfold Qr
 rw [ZR h,List.foldl_append]; rfl
theorem qbp (Q:List (Int × Int)) (l:List Int):∀ i,i≤l.length→(Qr Q (l.take i)).2≤i
 | 0,_=>by rw [List.take_zero]; exact Nat.le_refl _
 | i+1,h=>by
  obtain ⟨x,hx⟩:∃ x,l[i]?=some x:=⟨_,List.getElem?_eq_getElem zO⟩
  rw [qbq hx]
  have:=qbp Q l i zO
  dsimp only
  split <;> omega
theorem KV (hP:z6 pb n Q Rs HB) (hn:n≤64) {ids:List Int} (hil:ids.length≤1000000) (hrow:Holds w0 H ad (ids.map (Value.int .i64))) :qk Tryz.prog w0 179 #[zp pb,.slice ad ids.length cap] (HB++H) (fun v H'=>∃ HB',z6 pb n (Qr Q ids).1 Rs HB'∧v=zi (((Qr Q ids).2:Nat):Int)∧H'=HB'++H):=by
 refine qd (l:=[zp pb,.slice ad ids.length cap]) Tryz.func179 rfl Tryz.ntmps179 rfl rfl ?_
 refine za 9 rfl (zY rfl qZ rfl rfl (za 3 rfl ?_))
 refine qV (X:=(Nat × qe)) [(0,_),(11,_),(12,_)] (fun (x:(Nat × qe))=>[(5,zi (((Qr Q (ids.take x.1)).2:Nat):Int)),(13,zi (x.1:Int))]) (fun _=>_) (fun (x:(Nat × qe))=>x.2++H) (fun (x:(Nat × qe))=>x.1≤ids.length∧z6 pb n (Qr Q (ids.take x.1)).1 Rs x.2) (fun (x:(Nat × qe))=>ids.length-x.1) (0,HB) ⟨Nat.zero_le _,by rw [List.take_zero]; exact hP⟩ (qc rfl (qc rfl (qc rfl (qi _)))) (qc rfl (qc rfl (qi _))) rfl (.refl _) ?_
 rintro ⟨i,HBi⟩ ⟨hi,hPi⟩
 dsimp only at hi hPi ⊢
 have hdl:=qbp Q ids i hi
 simp only [List.cons_append,List.nil_append]
 refine za 4 rfl ?_
 refine qq (p:=(i:Int)<(ids.length:Int)) rfl (by simp) (fun q0=>?_) (fun q0=>?_)
 ·skip
  refine za 4 rfl ?_
  obtain ⟨x,hx⟩:∃ x,ids[i]?=some x:=⟨_,List.getElem?_eq_getElem zO⟩
  obtain ⟨q0,p0,rfl,hcx⟩:=hrow.at (i:=i) (v:=.int .i64 x) (by rw [List.getElem?_map,hx]; rfl)
  refine qN (j:=i) rfl rfl qZ ty3 rfl zO rfl rfl ?_
  refine qf (v:=zi x) rfl ty3 rfl (by rw [Nat.mul_one]; exact hcx.up zH) rfl ?_
  refine qA (l:=[zi 0]) ty3 rfl rfl (fun b7=>?_)
  refine qy (l':=[zi x]) rfl rfl ty3 rfl rfl (b:=b7) zM rfl rfl zU ?_
  refine za 3 rfl (qL .nil (.cons rfl .nil) rfl ?_)
  refine qn (zc2 rfl rfl) Tryz.call189 rfl ((qmV (bi:=b7) (fi:=265) (id:=x) (H:=(b7,.cells 3 1 [zi x])::H) hPi hn zM Tryz.call265 (fun x H hb=>dec_q hb)).hsub zH) ?_
  rintro v H' ⟨hF,rfl⟩
  rcases hF.wh hPi.ok with ⟨rfl,hw⟩ | ⟨k,j,rfl,hk,hki,hw⟩
  ·skip
   refine za 15 rfl ?_
   refine qF rfl rfl (qM (m:=((i+1:Nat):Int)) (by rw [qW (by omega)]; omega)) rfl ?_
   refine za 2 rfl ?_
   have hat:Qr Q (ids.take (i+1))=(ZL (Qr Q (ids.take i)).1 x,(Qr Q (ids.take i)).2+0):=by rw [qbq hx,hw]; rfl
   have hPn:z6 pb n (Qr Q (ids.take (i+1))).1 Rs HBi:=by rw [hat,qli hPi.ok hw]; exact hPi
   refine qI (i+1,HBi) ⟨by show i+1≤ids.length; omega,hPn⟩ (by show ids.length-(i+1)<ids.length-i; omega) (qc (by rw [hat]; rfl) (qc rfl (qc rfl (qc rfl (qc rfl (qi _)))))) rfl zH
  ·skip
   refine za 15 rfl ?_
   obtain ⟨rb,X,HR,hR,hqu,ho1,ho2,hup⟩:=hPi.at hn hk
   refine qB (zc2 rfl rfl) Tryz.call182 rfl (hqu (fun p hp=>List.mem_append_left _ hp)) ?_
   refine qH rfl rfl ?_
   have hm:(x,(k:Int))∈(Qr Q (ids.take i)).1:=Kp.1 (List.mem_of_getElem? hki)
   refine qT (H':=X++(HR++H)) ((show qr _ (HBi++H) from zH).trans (ho1 H)) ?_
   refine qn (zc2 rfl rfl) Tryz.call266 rfl (qkq hR hki) ?_
   rintro v H' ⟨X',hR',rfl,rfl⟩
   obtain ⟨HBn,hPn,hin⟩:=hup (ZL (Qr Q (ids.take i)).1 x) X' (by rw [qc9 hPi.ok hki]; exact hR') (fun j hj=>qa2 hPi.ok hm (by omega)) (hPi.ok.del x)
   refine qT (H':=HBn++H) (hin H) ?_
   refine za 3 rfl ?_
   refine qF rfl rfl (qM (m:=(((Qr Q (ids.take i)).2+1:Nat):Int)) (by rw [qW (by omega)]; omega)) rfl ?_
   refine za 4 rfl ?_
   refine qF rfl rfl (qM (m:=((i+1:Nat):Int)) (by rw [qW (by omega)]; omega)) rfl ?_
   refine za 2 rfl ?_
   have hat:Qr Q (ids.take (i+1))=(ZL (Qr Q (ids.take i)).1 x,(Qr Q (ids.take i)).2+1):=by rw [qbq hx,hw]; rfl
   rw [← show (Qr Q (ids.take (i+1))).1=ZL (Qr Q (ids.take i)).1 x from by rw [hat]] at hPn
   refine qI (i+1,HBn) ⟨by show i+1≤ids.length; omega,hPn⟩ (by show ids.length-(i+1)<ids.length-i; omega) (qc (by rw [hat]; rfl) (qc rfl (qc rfl (qc rfl (qc rfl (qi _)))))) rfl zH
 ·skip
  refine za 5 rfl ?_
  refine qj (H2:=HBi++H) Tryz.results179 rfl (.nil _) zH ?_
  obtain rfl:i=ids.length:=by omega
  rw [List.take_length] at hPi ⊢
  exact ⟨HBi,hPi,rfl,rfl⟩
theorem qfG (o:Option Int):(o=none∧JY o=.tuple #[zi 0,.bool false])∨∃ x,o=some x∧JY o=.tuple #[zi x,.bool true]:=by
 cases o with
 | none=>exact .inl ⟨rfl,rfl⟩
 | some x=>exact .inr ⟨x,rfl,rfl⟩
set_option maxRecDepth 100000
abbrev rn0:List Int:=List.replicate 256 0
abbrev of0:List Int:=List.replicate 32 0
theorem runs0:JB rn0 of0 []:=by
 refine ⟨List.length_replicate,List.length_replicate,fun x hx=>?_,fun x hx=>?_,fun i c=>?_,fun i c=>?_,fun p hp=>(by cases hp),List.nodup_nil⟩
 ·rw [List.eq_of_mem_replicate hx]; decide
 ·rw [List.eq_of_mem_replicate hx]; decide
 ·refine ⟨fun h=>?_,fun h=>by cases h⟩
  have:=List.eq_of_mem_replicate (List.mem_of_getElem? h); omega
 ·refine ⟨fun h=>?_,fun h=>by cases h⟩
  have:=List.eq_of_mem_replicate (List.mem_of_getElem? h); omega
theorem quok0 (n:Nat):QOk n []:=⟨List.nodup_nil,fun p hp=>by cases hp⟩
structure NpS where
 i:Nat
 v:Value
 XQ:qe
 XS:List qe
 rbs:List Nat
theorem qd9 {X:qe} (hl:XS.length=rbs.length) (h:∀ (k:Nat) r Y,rbs[k]?=some r→XS[k]?=some Y→Y2 256 r [] Y) (hx:Y2 256 rb [] X):∀ (k:Nat) r Y,(rbs++[rb])[k]?=some r→(XS++[X])[k]?=some Y→Y2 256 r [] Y:=fun k r Y h1 h2=>by
 by_cases c:k<rbs.length
 ·rw [List.getElem?_append_left c] at h1
  rw [List.getElem?_append_left (by omega)] at h2
  exact h k r Y h1 h2
 ·rw [List.getElem?_append_right (by omega)] at h1 h2
  rw [hl] at h2
  cases hk:k-rbs.length with
  | zero =>
   rw [hk] at h1 h2
   obtain rfl:rb=r:=by simpa using h1
   obtain rfl:X=Y:=by simpa using h2
   exact hx
  | succ j=>rw [hk] at h1; simp at h1
theorem qhj (hn:1≤n∧n≤64) :qk Tryz.prog w0 195 #[zi (n:Int)] (H) (fun v H'=>∃ pb HB,v=.tuple #[zp pb,zi 0]∧z6 pb n [] [] HB∧H'=HB++H):=by
 refine qd (l:=[zi (n:Int)]) Tryz.func195 rfl Tryz.ntmps195 rfl rfl ?_
 refine za 8 rfl ?_
 rw [decide_eq_false (by omega)]
 refine za 5 rfl ?_
 rw [decide_eq_false (by omega)]
 refine za 5 rfl ?_
 refine zb (l:=(Qy (.slice none 0 0) rn0 of0)) ty294 pl294 .nil rfl zk rfl ?_
 refine qR (l:=(Qy (.slice none 0 0) rn0 of0)) rfl rfl rfl (fun b14=>?_)
 refine za 8 rfl ?_
 refine qV (X:=NpS) [(4,_),(15,_)] (fun (x:NpS)=>[(16,zi (x.i:Int))]) (fun _=>_) (fun (x:NpS)=>(b14,.cells 294 289 (Qy x.v rn0 of0))::(x.XQ++(x.XS.flatten++H))) (fun (x:NpS)=>x.i≤n∧x.rbs.length=x.i∧zz 281 1 x.v x.rbs.length (x.rbs.map rbP) x.XQ∧x.XS.length=x.rbs.length∧(∀ (k:Nat) r Y,x.rbs[k]?=some r→x.XS[k]?=some Y→Y2 256 r [] Y)) (fun (x:NpS)=>n-x.i) ⟨0,.slice none 0 0,[],[],[]⟩ ⟨Nat.zero_le _,rfl,.nil,rfl,fun k r Y h=>(by cases h)⟩ (qc rfl (qc rfl (qi _))) (qc rfl (qi _)) rfl (.refl _) ?_
 rintro ⟨i,v,XQ,XS,rbs⟩ ⟨hi,hlen,hv,hl,hw⟩
 dsimp only at hi hlen hv hl hw ⊢
 simp only [List.cons_append,List.nil_append]
 refine za 4 rfl ?_
 refine qq (p:=(i:Int)<(n:Int)) rfl (by simp) (fun q0=>?_) (fun q0=>?_)
 ·skip
  refine za 4 rfl ?_
  refine qn (zc1 rfl) Tryz.call274 rfl (qmu (R:=256) zd zd) ?_
  rintro w2 H' ⟨rb,HX,rfl,hX,rfl⟩
  refine za 18 rfl ?_
  refine qf (v:=v) rfl Xa rfl (qh.own (b:=b14) zM rfl) rfl ?_
  refine qH rfl rfl ?_
  refine qv (l:=[rbP rb]) Xa Xb (.cons rfl rfl rfl rfl rfl .nil) rfl rfl rfl rfl rfl rfl rfl (fun b31=>?_)
  refine QF (news:=[rbP rb]) (m:=1) (HB:=XQ) (H0:=(b31,.cells 281 1 [rbP rb])::(HX++((b14,.cells 294 289 (Qy v rn0 of0))::(XS.flatten++H)))) rfl rfl Xa Xb rfl (by decide) hv rfl (Holds.own (b:=b31) zM) rfl (by simp only [maxLen]; omega) (by omega) zH rfl (fun v' X' hv'=>?_)
  refine za 2 rfl ?_
  have hv1:v'.oneCell'=true:=by obtain ⟨_,_,rfl,_⟩:=hv'.shape; rfl
  refine qy (l':=(Qy v' rn0 of0)) rfl rfl Xa hv1 rfl (b:=b14) zM (by rw [qfE List.length_replicate List.length_replicate]; rfl) rfl zU ?_
  refine za 3 rfl ?_
  refine qF rfl rfl (qM (m:=((i+1:Nat):Int)) ((qW zO).trans zO)) rfl ?_
  refine za 2 rfl ?_
  refine qI ⟨i+1,v',X',XS++[HX],rbs++[rb]⟩ ⟨by show i+1≤n; omega,by show (rbs++[rb]).length=i+1; rw [List.length_append,hlen]; rfl,by show zz 281 1 v' (rbs++[rb]).length ((rbs++[rb]).map rbP) X'; rw [List.length_append,List.map_append]; exact hv',by show (XS++[HX]).length=(rbs++[rb]).length; rw [List.length_append,List.length_append,hl]; rfl,qd9 hl hw hX⟩ (by show n-(i+1)<n-i; omega) (qc rfl (qc rfl (qc rfl (qi _)))) rfl (by show qr _ ((b14,.cells 294 289 (Qy v' rn0 of0))::(X'++((XS++[HX]).flatten++H))); rw [List.flatten_append,List.flatten_singleton,List.append_assoc]; first | exact ZW | (repeat (first | with_reducible exact qr.refl _ | refine qr.cons zT ?_ | refine qr.app zS ?_ | exact qr.nil _ | exact qr.refl _ | refine qr.drop ?_ | refine qr.dropS ?_)))
 ·skip
  refine za 6 rfl ?_
  refine qP (H2:=(b14,.cells 294 289 (Qy v rn0 of0))::(XQ++(XS.flatten++H))) Tryz.results195 rfl rfl (.nil _) zH ?_
  obtain rfl:i=n:=by omega
  exact ⟨b14,(b14,.cells 294 289 (Qy v rn0 of0))::(XQ++XS.flatten),rfl,.mk (rbs:=rbs) (by rw [← hlen]; exact hv) (by omega) hw runs0 (quok0 _),by show _=_::((XQ++XS.flatten)++H); rw [List.append_assoc]⟩
end Go.Proofs.YtincjohoncljoaaGreatDoor
