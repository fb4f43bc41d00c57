/-
  Own work: contracts of functions that the statement reaches, and plain facts on what they compute; each theorem says its conditions.
-/
import Derived.Test.YtincjohoncljoaaGreatDoorLfT7
import Derived.Test.YtincjohoncljoaaGreatDoorLfS1
import Derived.Test.YtincjohoncljoaaGreatDoorLfT4
import Derived.Test.YtincjohoncljoaaGreatDoorLfT5
import Derived.Test.YtincjohoncljoaaGreatDoorLfS2
import Derived.Test.YtincjohoncljoaaGreatDoorLfA
set_option linter.all false
set_option linter.unusedSimpArgs false
set_option linter.unusedVariables false
set_option maxHeartbeats 16000000
namespace Go.Proofs.YtincjohoncljoaaGreatDoor
open Go Go.Sl
attribute [local irreducible] W
def arrS (i:Nat):Slt:=⟨⟨(i:Int),1⟩,1,⟨(i:Int),zW⟩⟩
def arrL (n k:Nat):List Slt:=(List.range n).map fun i => if i < k then arrS i else newS i
def arrC (k:Nat):List (Int × Hd):=((List.range k).map fun i:Nat => (((i:Int),⟨(i:Int),1⟩):Int × Hd)).reverse
def arrU (k:Nat):List Int:=(List.range k).map fun i:Nat => (i:Int)
theorem arrL_len (n k:Nat):(arrL n k).length=n:=by unfold arrL; rw [List.length_map,List.length_range]
theorem arrL_at {n k i:Nat} (h:i < n):(arrL n k)[i]?=some (if i < k then arrS i else newS i):=by
 unfold arrL; rw [List.getElem?_map,List.getElem?_range h]; rfl
theorem arrL_zero (n:Nat):arrL n 0=newL n n:=by
 apply List.ext_getElem?
 intro i
 by_cases h:i < n
 ·rw [arrL_at h,newL_at h,if_neg (by omega),if_pos h]
 ·rw [List.getElem?_eq_none (by rw [arrL_len]; omega),List.getElem?_eq_none (by rw [newL_len]; omega)]
theorem arrL_set {n k:Nat}:(arrL n k).set k (arrS k)=arrL n (k+1):=by
 apply List.ext_getElem?
 intro j
 by_cases hj:j < n
 ·by_cases e:k=j
  ·subst e
   rw [List.getElem?_set_self (by rw [arrL_len]; exact hj),arrL_at hj,if_pos (by omega)]
  ·rw [List.getElem?_set_ne e,arrL_at hj,arrL_at hj]
   by_cases c:j < k
   ·rw [if_pos c,if_pos (by omega)]
   ·rw [if_neg c,if_neg (by omega)]
 ·rw [List.getElem?_eq_none (by rw [List.length_set,arrL_len]; omega),List.getElem?_eq_none (by rw [arrL_len]; omega)]
theorem arrL_first {n k:Nat} (h:k < n):firstF (arrL n k)=some k:=by
 unfold firstF
 rw [List.findIdx?_eq_some_iff_getElem]
 refine ⟨by rw [arrL_len]; exact h,?_,fun j hj => ?_⟩
 ·have:=arrL_at (k:=k) h
  rw [if_neg (Nat.lt_irrefl _)] at this
  obtain ⟨h1,h2⟩:=List.getElem?_eq_some_iff.1 this
  rw [h2]; rfl
 ·have:=arrL_at (n:=n) (k:=k) (i:=j) zO
  rw [if_pos hj] at this
  obtain ⟨h1,h2⟩:=List.getElem?_eq_some_iff.1 this
  rw [h2]
  show ¬ decide ((1:Nat)=0)=true
  decide
theorem arrC_succ (k:Nat):arrC (k+1)=((k:Int),⟨(k:Int),1⟩)::arrC k:=by
 unfold arrC; rw [List.range_succ,List.map_append,List.reverse_append]; rfl
theorem arrC_len (k:Nat):(arrC k).length=k:=by unfold arrC; rw [List.length_reverse,List.length_map,List.length_range]
theorem arrU_len (k:Nat):(arrU k).length=k:=by unfold arrU; rw [List.length_map,List.length_range]
theorem arrU_mem {k:Nat} {x:Int}:x ∈ arrU k ↔ 0≤x∧x < (k:Int):=by
 unfold arrU
 rw [List.mem_map]
 constructor
 ·rintro ⟨i,hi,rfl⟩
  have:=List.mem_range.1 hi
  omega
 ·intro h
  exact ⟨x.toNat,List.mem_range.2 zO,by omega⟩
theorem arrU_nodup (k:Nat):(arrU k).Nodup:=by
 unfold arrU
 exact List.Pairwise.map _ (fun a b (h:a ≠ b) => by show (a:Int) ≠ (b:Int); omega) List.nodup_range
theorem arrU_succ (k:Nat):drop1O (arrU k) (k:Int)++[(k:Int)]=arrU (k+1):=by
 rw [drop1O_not (fun h => by have:=(arrU_mem.1 h).2; omega)]
 unfold arrU; rw [List.range_succ,List.map_append]; rfl
theorem arrC_keys (k:Nat):keyL (arrC k)=(arrU k).reverse:=by
 unfold arrC arrU
 show List.map _ (List.reverse _)=_
 rw [List.map_reverse,List.map_map]; rfl
theorem arrC_mem {k:Nat} {p:Int × Hd} (h:p ∈ arrC k):∃ i:Nat,i < k∧p=((i:Int),⟨(i:Int),1⟩):=by
 unfold arrC at h
 obtain ⟨i,hi,rfl⟩:=List.mem_map.1 (List.mem_reverse.1 h)
 exact ⟨i,List.mem_range.1 hi,rfl⟩
theorem arr_ok {kind entries words kk:Nat} {b:Bool} (h1:kind≤2) (h2:1≤entries∧entries≤8) (h3:1≤words∧words≤4) (hk:kk≤entries):(Xm.mk kind entries words b (arrL (2 * entries) kk) (arrC kk) (arrU kk)).Ok where
 knd:=h1
 ent:=h2
 wrd:=h3
 len:=arrL_len _ _
 are:=⟨by rw [arrL_len]; omega,fun i s hs => by
  have hi:i < 2 * entries:=by have:=(List.getElem?_eq_some_iff.1 hs).1; rwa [arrL_len] at this
  rw [arrL_at hi] at hs
  obtain rfl:=Option.some.inj hs
  split
  ·exact ⟨rfl,by show (1:Int)≤1; decide,by show (1:Int)≤255; decide⟩
  ·exact ⟨rfl,by show (1:Int)≤1; decide,by show (1:Int)≤255; decide⟩⟩
 nd:=by show (keyL (arrC kk)).Nodup; rw [arrC_keys]; exact (List.reverse_perm _).nodup_iff.2 (arrU_nodup kk)
 perm:=by show (arrU kk).Perm (keyL (arrC kk)); rw [arrC_keys]; exact (List.reverse_perm _).symm
 le:=by show (arrC kk).length≤entries; rw [arrC_len]; exact hk
 lk:=fun p hp => by
  obtain ⟨i,hi,rfl⟩:=arrC_mem hp
  exact ⟨i,arrS i,rfl,by show (arrL _ _)[i]?=_; rw [arrL_at (by omega),if_pos hi],rfl,rfl,rfl⟩
 rng:=fun k hk2 => by
  have hk3:k ∈ keyL (arrC kk):=hk2
  rw [arrC_keys] at hk3
  have:=arrU_mem.1 (List.mem_reverse.1 hk3)
  omega
def Xm.new (kind entries words:Nat):Xm:=⟨kind,entries,words,false,arrL (2 * entries) (if kind=0 then entries else 0),arrC (if kind=0 then entries else 0),arrU (if kind=0 then entries else 0)⟩
theorem New_go {w0:World} {H:Heap} {kind entries words:Nat} (h1:kind≤2) (h2:1≤entries∧entries≤8) (h3:1≤words∧words≤4) (hTab:Tab w0):LCalls Tryz.prog w0 81 #[.int .i64 (kind:Int),.int .i64 (entries:Int),.int .i64 (words:Int)] (H) (fun v H' => ∃ mb ab tb bo HA HT HO,AreH ab (Xm.new kind entries words).L HA∧TabH tb entries (Xm.new kind entries words).C HT∧OrdH bo entries 8 (Xm.new kind entries words).used HO∧v=.tuple #[.pointer (some ⟨mb,0,none⟩),.int .i64 0]∧H'=(mb,.cells 217 7 [.int .i64 (kind:Int),.int .i64 (entries:Int),.int .i64 (words:Int),.pointer (some ⟨ab,0,none⟩),.pointer (some ⟨tb,0,none⟩),.pointer (some ⟨bo,0,none⟩),.bool false])::(HA++(HT++(HO++H)))):=by
 refine L_enter (l:=[.int .i64 (kind:Int),.int .i64 (entries:Int),.int .i64 (words:Int)]) Tryz.func81 rfl Tryz.ntmps81 rfl rfl ?_
 refine W_sr ?_
 refine W_assign rfl rfl ?_
 refine W_assign rfl rfl ?_
 refine W_nil (W_seq ?_)
 refine W_block (W_sr ?_)
 refine W_move rfl rfl ?_
 refine W_bin rfl rfl b_lss rfl ?_
 refine W_move rfl rfl ?_
 apply W_or
 iterate 4 exact rfl
 case h1 =>
  intro hg2
  refine W_gyes rfl rfl ?_
  refine W_move rfl rfl ?_
  refine W_gyes rfl rfl ?_
  refine W_bin rfl rfl b_gtr rfl ?_
  exact W_met rfl zR
 refine W_assign rfl rfl ?_
 refine W_nil ?_
 refine W_condF rfl (by simp; omega) ?_
 refine W_sr ?_
 refine W_move rfl rfl ?_
 refine W_bin rfl rfl b_lss rfl ?_
 refine W_move rfl rfl ?_
 apply W_or
 iterate 4 exact rfl
 case h1 =>
  intro hg2
  refine W_gyes rfl rfl ?_
  refine W_move rfl rfl ?_
  refine W_gyes rfl rfl ?_
  refine W_bin rfl rfl b_gtr rfl ?_
  exact W_met rfl zR
 refine W_move rfl rfl ?_
 apply W_or
 iterate 4 exact rfl
 case h1 =>
  intro hg6
  refine W_gyes rfl rfl ?_
  refine W_move rfl rfl ?_
  refine W_gyes rfl rfl ?_
  refine W_bin rfl rfl b_lss rfl ?_
  exact W_met rfl zR
 refine W_move rfl rfl ?_
 apply W_or
 iterate 4 exact rfl
 case h1 =>
  intro hg10
  refine W_gyes rfl rfl ?_
  refine W_move rfl rfl ?_
  refine W_gyes rfl rfl ?_
  refine W_bin rfl rfl b_gtr rfl ?_
  exact W_met rfl zR
 refine W_assign rfl rfl ?_
 refine W_nil ?_
 refine W_condF rfl (by simp; omega) ?_
 refine W_skip ?_
 refine W_blk ?_
 refine W_sr ?_
 refine W_move rfl rfl ?_
 refine W_move rfl rfl ?_
 refine W_move rfl rfl ?_
 refine W_build (l:=[.int .i64 (kind:Int),.int .i64 (entries:Int),.int .i64 (words:Int),.pointer none,.pointer none,.pointer none,.bool false]) ty217 pl217 (.cons rfl rfl rfl rfl rfl (.cons rfl rfl rfl rfl rfl (.cons rfl rfl rfl rfl rfl .nil))) rfl rfl rfl ?_
 refine W_box (l:=[.int .i64 (kind:Int),.int .i64 (entries:Int),.int .i64 (words:Int),.pointer none,.pointer none,.pointer none,.bool false]) rfl rfl rfl (fun b36 => ?_)
 refine W_assign rfl rfl ?_
 refine W_nil (W_sr ?_)
 refine W_move rfl rfl ?_
 refine W_move rfl rfl ?_
 refine W_bin rfl rfl (b_mul (m:=((2 * entries:Nat):Int)) (by rw [i64w (by omega)]; omega)) rfl ?_
 refine W_call (.cons rfl .nil) Tryz.call170 rfl (AreH.new (n:=2 * entries) zO zO) ?_
 rintro v H' ⟨ab,HA,hA,rfl,rfl⟩
 refine W_move rfl rfl ?_
 refine W_extract rfl rfl rfl ?_
 refine W_extract rfl rfl rfl ?_
 refine W_nilCheck rfl rfl ?_
 refine W_fieldAddr rfl fld217_3 zd rfl ?_
 refine W_store (l':=[.int .i64 (kind:Int),.int .i64 (entries:Int),.int .i64 (words:Int),.pointer (some ⟨ab,0,none⟩),.pointer none,.pointer none,.bool false]) rfl rfl ty213 rfl rfl (b:=b36) zM rfl rfl zU ?_
 refine W_nil (W_sr ?_)
 refine W_move rfl rfl ?_
 refine W_move rfl rfl ?_
 refine W_call (.cons rfl (.cons rfl .nil)) Tryz.call171 rfl (TabH.new (room:=entries) zO zO) ?_
 rintro v H' ⟨tb,HT,hB,rfl,rfl⟩
 refine W_move rfl rfl ?_
 refine W_extract rfl rfl rfl ?_
 refine W_extract rfl rfl rfl ?_
 refine W_nilCheck rfl rfl ?_
 refine W_fieldAddr rfl fld217_4 zd rfl ?_
 refine W_store (l':=[.int .i64 (kind:Int),.int .i64 (entries:Int),.int .i64 (words:Int),.pointer (some ⟨ab,0,none⟩),.pointer (some ⟨tb,0,none⟩),.pointer none,.bool false]) rfl rfl ty214 rfl rfl (b:=b36) zM rfl rfl zU ?_
 refine W_nil (W_sr ?_)
 refine W_move rfl rfl ?_
 refine W_move rfl rfl ?_
 refine W_call (.cons rfl .nil) Tryz.call172 rfl (OrdH.new (room:=entries) zO) ?_
 rintro v H' ⟨bo,HO,hO,rfl,rfl⟩
 refine W_move rfl rfl ?_
 refine W_extract rfl rfl rfl ?_
 refine W_extract rfl rfl rfl ?_
 refine W_nilCheck rfl rfl ?_
 refine W_fieldAddr rfl fld217_5 zd rfl ?_
 refine W_store (l':=[.int .i64 (kind:Int),.int .i64 (entries:Int),.int .i64 (words:Int),.pointer (some ⟨ab,0,none⟩),.pointer (some ⟨tb,0,none⟩),.pointer (some ⟨bo,0,none⟩),.bool false]) rfl rfl ty215 rfl rfl (b:=b36) zM rfl rfl zU ?_
 refine W_nil (W_seq (W_sr ?_))
 refine W_move rfl rfl ?_
 refine W_move rfl rfl ?_
 refine W_nil (W_block ?_)
 refine W_loopC (X:=(Nat × Heap × Heap × Heap)) [(0,_),(8,_),(62,_)] (fun (x:(Nat × Heap × Heap × Heap)) => [(63,.int .i64 (x.1:Int))]) (fun _ => _) (fun (x:(Nat × Heap × Heap × Heap)) => (b36,.cells 217 7 [.int .i64 (kind:Int),.int .i64 (entries:Int),.int .i64 (words:Int),.pointer (some ⟨ab,0,none⟩),.pointer (some ⟨tb,0,none⟩),.pointer (some ⟨bo,0,none⟩),.bool false])::(x.2.1++(x.2.2.1++(x.2.2.2++H)))) (fun (x:(Nat × Heap × Heap × Heap)) => x.1≤entries∧AreH ab (arrL (2 * entries) (if kind=0 then x.1 else 0)) x.2.1∧TabH tb entries (arrC (if kind=0 then x.1 else 0)) x.2.2.1∧OrdH bo entries x.1 (arrU (if kind=0 then x.1 else 0)) x.2.2.2) (fun (x:(Nat × Heap × Heap × Heap)) => entries - x.1) (0,HA,HT,HO) ⟨Nat.zero_le _,by rw [ite_self,arrL_zero]; exact hA,by rw [ite_self]; exact hB,by rw [ite_self]; exact hO⟩ (sub_cons rfl (sub_cons rfl (sub_cons rfl (sub_nil _)))) (sub_cons rfl (sub_nil _)) rfl zH ?_
 rintro ⟨k,HA1,HT1,HO1⟩ ⟨hk,hA1,hB1,hO1⟩
 dsimp only at hk hA1 hB1 hO1 ⊢
 simp only [List.cons_append,List.nil_append]
 refine W_sr ?_
 refine W_bin rfl rfl b_lss rfl ?_
 refine W_nil (W_seq ?_)
 refine W_condPS (p:=(k:Int) < (entries:Int)) rfl (by simp) (fun q0 => ?_) (fun q0 => ?_)
 ·skip
  refine W_skip (W_seq ?_)
  refine W_block (W_sr ?_)
  refine W_move rfl rfl ?_
  refine W_assign rfl rfl ?_
  refine W_nil (W_sr ?_)
  refine W_move rfl rfl ?_
  refine W_bin rfl rfl b_eql rfl ?_
  refine W_nil ?_
  refine W_condPS (p:=kind=0) rfl (by simp) (fun q1 => ?_) (fun q1 => ?_)
  ·skip
   refine W_region ?_
   refine W_move rfl rfl ?_
   refine W_move rfl rfl ?_
   refine W_conv rfl ty3 ty30 (u64w zO) rfl ?_
   refine W_build (l:=celC ⟨(k:Int),zW⟩) ty220 pl220 (.cons rfl rfl rfl rfl rfl .nil) rfl rfl rfl ?_
   subst q1
   rw [if_pos rfl] at hA1 hB1 hO1
   refine W_call (.cons rfl (.cons rfl .nil)) Tryz.call149 rfl ((link_at (mb:=b36) (closed:=false) (kind:=0) (words:=words) hA1 hB1 hO1 (by omega) (by omega) (i:=k) (s:=newS k) (c:=⟨(k:Int),zW⟩) (arrL_first (by omega)) (by rw [arrL_at (by omega),if_neg (Nat.lt_irrefl _)]) (by rw [arrC_keys]; exact fun hm => by have h9:(k:Int) < (k:Int):=(arrU_mem.1 (List.mem_reverse.1 hm)).2; omega) (by rw [arrC_len]; omega) (by rw [arrU_len]; omega) hTab (H:=H)).hsub zH) ?_
   rintro v H' ⟨HA2,HT2,HO2,hA2,hB2,hO2,rfl,rfl⟩
   refine W_nil ?_
   refine W_blk ?_
   refine W_region ?_
   refine W_bin rfl rfl (b_add (m:=((k+1:Nat):Int)) ((i64w zO).trans zO)) rfl ?_
   refine W_move rfl rfl ?_
   refine W_nil ?_
   refine W_again (k+1,HA2,HT2,HO2) ⟨by show k+1≤entries; omega,by show AreH _ _ _; rw [if_pos rfl]; rw [← arrL_set]; exact hA2,by show TabH _ _ _ _; rw [if_pos rfl,arrC_succ]; exact hB2,by show OrdH _ _ _ _ _; rw [if_pos rfl,← arrU_succ]; exact hO2⟩ (by show entries - (k+1) < entries - k; omega) (sub_cons rfl (sub_cons rfl (sub_cons rfl (sub_cons rfl (sub_nil _))))) rfl zH
  ·skip
   refine W_skip ?_
   refine W_blk ?_
   refine W_region ?_
   refine W_bin rfl rfl (b_add (m:=((k+1:Nat):Int)) ((i64w zO).trans zO)) rfl ?_
   refine W_move rfl rfl ?_
   refine W_nil ?_
   refine W_again (k+1,HA1,HT1,HO1) ⟨by show k+1≤entries; omega,by rw [if_neg q1] at hA1 ⊢; exact hA1,by rw [if_neg q1] at hB1 ⊢; exact hB1,by rw [if_neg q1] at hO1 ⊢; exact hO1.up (Nat.le_succ _)⟩ (by show entries - (k+1) < entries - k; omega) (sub_cons rfl (sub_cons rfl (sub_cons rfl (sub_cons rfl (sub_nil _))))) rfl zH
 ·skip
  refine W_exit rfl ?_
  refine W_sr ?_
  refine W_move rfl rfl ?_
  refine W_assign rfl rfl ?_
  refine W_assign rfl rfl ?_
  refine W_nil ?_
  refine W_ret2m (H2:=(b36,.cells 217 7 [.int .i64 (kind:Int),.int .i64 (entries:Int),.int .i64 (words:Int),.pointer (some ⟨ab,0,none⟩),.pointer (some ⟨tb,0,none⟩),.pointer (some ⟨bo,0,none⟩),.bool false])::(HA1++(HT1++(HO1++H)))) Tryz.results81 rfl rfl (.nil _) zH ?_
  obtain rfl:k=entries:=by omega
  exact ⟨b36,ab,tb,bo,HA1,HT1,HO1,hA1,hB1,hO1.up zO,rfl,rfl⟩
theorem free1_L {w0:World} {H:Heap} {mb ab tb bo kind entries words:Nat} {closed:Bool} {L:List Slt} {C:List (Int × Hd)} {HA HT HO:Heap} (hA:AreH ab L HA) (hB:TabH tb entries C HT) {b2 b3:Nat} {c:Cel} {h:Hd} (used:List Int) :LCalls Tryz.prog w0 253 #[.agg (List.toArray (celC c)),.pointer (some ⟨b2,0,none⟩),.pointer (some ⟨b3,0,none⟩)] ((b3,.cells 40 2 (hdC h))::(b2,.cells 65 1 [.pointer (some ⟨mb,0,none⟩)])::(mb,.cells 217 7 [.int .i64 (kind:Int),.int .i64 (entries:Int),.int .i64 (words:Int),.pointer (some ⟨ab,0,none⟩),.pointer (some ⟨tb,0,none⟩),.pointer (some ⟨bo,0,none⟩),.bool closed])::(HA++(HT++(HO++H)))) (fun v' H' => ∃ HA',AreH ab (if (Xm.linked (⟨kind,entries,words,closed,L,C,used⟩:Xm) h)=true then L else setAX L h relS) HA'∧v'=.int .i64 (if (Xm.linked (⟨kind,entries,words,closed,L,C,used⟩:Xm) h)=true then 21 else errA L h)∧H'=(b3,.cells 40 2 (hdC h))::(b2,.cells 65 1 [.pointer (some ⟨mb,0,none⟩)])::(mb,.cells 217 7 [.int .i64 (kind:Int),.int .i64 (entries:Int),.int .i64 (words:Int),.pointer (some ⟨ab,0,none⟩),.pointer (some ⟨tb,0,none⟩),.pointer (some ⟨bo,0,none⟩),.bool closed])::(HA'++(HT++(HO++H)))):=by
 refine L_enter (l:=[.agg (List.toArray (celC c)),.pointer (some ⟨b2,0,none⟩),.pointer (some ⟨b3,0,none⟩)]) Tryz.func253 rfl Tryz.ntmps253 rfl rfl ?_
 refine W_sr ?_
 refine W_box (l:=celC c) rfl rfl rfl (fun b0 => ?_)
 refine W_assign rfl rfl ?_
 refine W_nil (W_seq (W_sr ?_))
 refine W_load (v:=.pointer (some ⟨mb,0,none⟩)) rfl ty65 rfl (Cell.own (b:=b2) zM rfl) rfl ?_
 refine W_loadB (vs:=hdC h) rfl ty40 rfl (b:=b3) zM rfl rfl rfl ?_
 refine W_callq (.cons rfl (.cons rfl .nil)) Tryz.call254 rfl (Linked_q hA hB (h:=h) used (HO:=HO) (closed:=closed) (kind:=kind) (words:=words) (fun p hp => by repeat (first | exact mem3 p hp | apply List.mem_cons_of_mem))) ?_
 refine W_nil ?_
 refine W_condPS (p:=(Xm.linked (⟨kind,entries,words,closed,L,C,used⟩:Xm) h)=true) rfl (by simp) (fun c0 => ?_) (fun c0 => ?_)
 ·skip
  refine W_sr ?_
  refine W_assign rfl rfl ?_
  refine W_nil ?_
  refine W_ret1m (H2:=(b3,.cells 40 2 (hdC h))::(b2,.cells 65 1 [.pointer (some ⟨mb,0,none⟩)])::(mb,.cells 217 7 [.int .i64 (kind:Int),.int .i64 (entries:Int),.int .i64 (words:Int),.pointer (some ⟨ab,0,none⟩),.pointer (some ⟨tb,0,none⟩),.pointer (some ⟨bo,0,none⟩),.bool closed])::(HA++(HT++(HO++H)))) Tryz.results253 rfl (.nil _) zH ?_
  exact ⟨HA,by rw [if_pos c0]; exact hA,by rw [if_pos c0],rfl⟩
 ·skip
  refine W_skip (W_seq ?_)
  refine W_anyC [(b3,.cells 40 2 (hdC h)),(b2,.cells 65 1 [.pointer (some ⟨mb,0,none⟩)]),(mb,.cells 217 7 [.int .i64 (kind:Int),.int .i64 (entries:Int),.int .i64 (words:Int),.pointer (some ⟨ab,0,none⟩),.pointer (some ⟨tb,0,none⟩),.pointer (some ⟨bo,0,none⟩),.bool closed])] zk ?_
  refine WC_take 0 rfl zK zK zK rfl rfl (X_load (v:=.pointer (some ⟨mb,0,none⟩)) rfl ty65 rfl (Cell.own (b:=b2) zM rfl)) rfl ?_
  refine WC_take 1 rfl zK zK zK rfl rfl (X_nilCheck rfl) rfl ?_
  refine WC_take 2 rfl zK zK zK rfl rfl (X_fieldAddr rfl fld217_3 zd) rfl ?_
  refine WC_take 3 rfl zK zK zK rfl rfl (X_load (v:=.pointer (some ⟨ab,0,none⟩)) rfl ty213 rfl (Cell.own (b:=mb) zM rfl)) rfl ?_
  refine WC_take 4 rfl zK zK zK rfl rfl (X_loadB (vs:=hdC h) rfl ty40 rfl (b:=b3) zM rfl rfl) rfl ?_
  refine WC_one 5 zH zK rfl rfl ?_
  refine W_buildSlice (l:=hdC h) ty160 ty40 (.cons rfl rfl rfl rfl rfl .nil) rfl rfl rfl rfl rfl rfl rfl (fun b13 => ?_)
  refine W_nil ?_
  refine WC_goal ?_
  refine WC_one 6 zH zK rfl rfl ?_
  refine W_call (.cons rfl (.cons rfl .nil)) Tryz.call255 rfl ((hA.free (h:=h) (cap:=1) (Holds.own (b:=b13) zM) (H:=(b13,.cells 40 (1 * 2) (hdC h))::(b0,.cells 220 5 (celC c))::(b3,.cells 40 2 (hdC h))::(b2,.cells 65 1 [.pointer (some ⟨mb,0,none⟩)])::(mb,.cells 217 7 [.int .i64 (kind:Int),.int .i64 (entries:Int),.int .i64 (words:Int),.pointer (some ⟨ab,0,none⟩),.pointer (some ⟨tb,0,none⟩),.pointer (some ⟨bo,0,none⟩),.bool closed])::(HT++(HO++H)))).hsub zH) ?_
  rintro v' H' ⟨HA2,hA2,rfl,rfl⟩
  refine W_nil ?_
  refine WC_goal ?_
  refine WC_take 7 rfl zK zK zK rfl rfl (X_assign rfl) rfl ?_
  refine WC_done zH zK ?_
  refine W_ret1m (H2:=(b3,.cells 40 2 (hdC h))::(b2,.cells 65 1 [.pointer (some ⟨mb,0,none⟩)])::(mb,.cells 217 7 [.int .i64 (kind:Int),.int .i64 (entries:Int),.int .i64 (words:Int),.pointer (some ⟨ab,0,none⟩),.pointer (some ⟨tb,0,none⟩),.pointer (some ⟨bo,0,none⟩),.bool closed])::(HA2++(HT++(HO++H)))) Tryz.results253 rfl (.nil _) zH ?_
  exact ⟨HA2,by rw [if_neg c0]; exact hA2,by rw [if_neg c0],rfl⟩
theorem Free_at {w0:World} {H:Heap} {mb ab tb bo kind entries words:Nat} {closed:Bool} {L:List Slt} {C:List (Int × Hd)} {HA HT HO:Heap} (hA:AreH ab L HA) (hB:TabH tb entries C HT) {h:Hd} (used:List Int) :LCalls Tryz.prog w0 159 #[.pointer (some ⟨mb,0,none⟩),.agg (List.toArray (hdC h))] ((mb,.cells 217 7 [.int .i64 (kind:Int),.int .i64 (entries:Int),.int .i64 (words:Int),.pointer (some ⟨ab,0,none⟩),.pointer (some ⟨tb,0,none⟩),.pointer (some ⟨bo,0,none⟩),.bool closed])::(HA++(HT++(HO++H)))) (fun v' H' => ∃ HA',AreH ab (Xm.free (⟨kind,entries,words,closed,L,C,used⟩:Xm) h).1.L HA'∧v'=.int .i64 (Xm.free (⟨kind,entries,words,closed,L,C,used⟩:Xm) h).2∧H'=(mb,.cells 217 7 [.int .i64 (kind:Int),.int .i64 (entries:Int),.int .i64 (words:Int),.pointer (some ⟨ab,0,none⟩),.pointer (some ⟨tb,0,none⟩),.pointer (some ⟨bo,0,none⟩),.bool closed])::(HA'++(HT++(HO++H)))):=by
 refine L_enter (l:=[.pointer (some ⟨mb,0,none⟩),.agg (List.toArray (hdC h))]) Tryz.func159 rfl Tryz.ntmps159 rfl rfl ?_
 by_cases he:errA L h=0
 ·skip
  refine W_sr ?_
  refine W_box (l:=[.pointer (some ⟨mb,0,none⟩)]) rfl rfl rfl (fun b2 => ?_)
  refine W_box (l:=hdC h) rfl rfl rfl (fun b3 => ?_)
  refine W_assign rfl rfl ?_
  refine W_nil (W_sr ?_)
  refine W_load (v:=.pointer (some ⟨mb,0,none⟩)) rfl ty65 rfl (Cell.own (b:=b2) zM rfl) rfl ?_
  refine W_loadB (vs:=hdC h) rfl ty40 rfl (b:=b3) zM rfl rfl rfl ?_
  refine W_makeFunc .nil (.cons rfl (.cons rfl .nil)) rfl ?_
  refine W_call (.cons rfl (.cons rfl (.cons rfl .nil))) Tryz.call152 rfl (with_yes (ca:=[.pointer (some ⟨b2,0,none⟩),.pointer (some ⟨b3,0,none⟩)]) hA hB (HO:=HO) (closed:=closed) (kind:=kind) (words:=words) Tryz.call253 he (fun p hp => by repeat (first | exact mem3 p hp | apply List.mem_cons_of_mem)) (free1_L (c:=celA L h) (h:=h) hA hB used (H:=H))) ?_
  rintro v' H' ⟨HA2,hA2,rfl,rfl⟩
  refine W_assign rfl rfl ?_
  refine W_nil ?_
  refine W_ret1m (H2:=(mb,.cells 217 7 [.int .i64 (kind:Int),.int .i64 (entries:Int),.int .i64 (words:Int),.pointer (some ⟨ab,0,none⟩),.pointer (some ⟨tb,0,none⟩),.pointer (some ⟨bo,0,none⟩),.bool closed])::(HA2++(HT++(HO++H)))) Tryz.results159 rfl (.nil _) zH ?_
  have hn:¬ (errA L h ≠ 0):=fun h => h he
  by_cases hl:(Xm.linked (⟨kind,entries,words,closed,L,C,used⟩:Xm) h)=true
  ·have e:(Xm.free (⟨kind,entries,words,closed,L,C,used⟩:Xm) h)=((⟨kind,entries,words,closed,L,C,used⟩:Xm),21):=by unfold Xm.free; dsimp only; rw [if_neg hn,if_pos hl]
   rw [e]
   rw [if_pos hl] at hA2
   exact ⟨HA2,hA2,by rw [if_pos hl],rfl⟩
  ·have e:(Xm.free (⟨kind,entries,words,closed,L,C,used⟩:Xm) h)=({ (⟨kind,entries,words,closed,L,C,used⟩:Xm) with L:=setAX L h relS },0):=by unfold Xm.free; dsimp only; rw [if_neg hn,if_neg hl]
   rw [e]
   rw [if_neg hl] at hA2
   exact ⟨HA2,hA2,by rw [if_neg hl,he],rfl⟩
 ·skip
  refine W_sr ?_
  refine W_box (l:=[.pointer (some ⟨mb,0,none⟩)]) rfl rfl rfl (fun b2 => ?_)
  refine W_box (l:=hdC h) rfl rfl rfl (fun b3 => ?_)
  refine W_assign rfl rfl ?_
  refine W_nil (W_sr ?_)
  refine W_load (v:=.pointer (some ⟨mb,0,none⟩)) rfl ty65 rfl (Cell.own (b:=b2) zM rfl) rfl ?_
  refine W_loadB (vs:=hdC h) rfl ty40 rfl (b:=b3) zM rfl rfl rfl ?_
  refine W_makeFunc .nil (.cons rfl (.cons rfl .nil)) rfl ?_
  refine W_callq (.cons rfl (.cons rfl (.cons rfl .nil))) Tryz.call152 rfl (with_no (ca:=[.pointer (some ⟨b2,0,none⟩),.pointer (some ⟨b3,0,none⟩)]) hA hB he (HO:=HO) (closed:=closed) (kind:=kind) (words:=words) (fun p hp => by repeat (first | exact mem3 p hp | apply List.mem_cons_of_mem))) ?_
  refine W_assign rfl rfl ?_
  refine W_nil ?_
  refine W_ret1m (H2:=(mb,.cells 217 7 [.int .i64 (kind:Int),.int .i64 (entries:Int),.int .i64 (words:Int),.pointer (some ⟨ab,0,none⟩),.pointer (some ⟨tb,0,none⟩),.pointer (some ⟨bo,0,none⟩),.bool closed])::(HA++(HT++(HO++H)))) Tryz.results159 rfl (.nil _) zH ?_
  exact ⟨HA,by unfold Xm.free; rw [if_pos he]; exact hA,by unfold Xm.free; rw [if_pos he],rfl⟩
theorem Xm.Ok.del {x:Xm} (h:x.Ok) (k:Int):(x.del k).1.Ok:=by
 unfold Xm.del
 split
 ·exact h
 ·split
  ·exact h.unlink k
  ·exact h
theorem Xm.put_len {x:Xm} (h:x.Ok) {o:Int} (ho:o ∈ x.used):(x.unlink o).1.C.length+1=x.C.length:=delC_len h.nd (h.umem.1 ho)
theorem Xm.Ok.oldest {x:Xm} (h:x.Ok) (hc:x.C.length=x.entries):x.used.headD 0 ∈ x.used:=by
 have h1:=h.ulen
 have h2:=h.ent
 cases hu:x.used with
 | nil => rw [hu] at h1; simp at h1; omega
 | cons a l => exact List.mem_cons_self
theorem Xm.Ok.put {x:Xm} (h:x.Ok) (how:Int) {k:Int} (ws:List Int) (hk:0≤k∧k < 18446744073709551616):(x.put how k ws).1.Ok:=by
 unfold Xm.put
 split
 ·exact h
 ·split
  ·exact h
  ·split
   ·rename_i g hf
    split
    ·exact h
    ·obtain ⟨i,s,h1,h2,h3,h4,h5⟩:=h.own hf
     have:=(h.use (h.umem.2 (keyL_mem hf))).cel g (fun _ => ⟨k,W4.of ws⟩) (fun c _ hc => by
      subst hc
      show k=(celA x.L g).key
      obtain ⟨i',s',a1,a2,a3,a4,a5,a6⟩:=errA_ok (h.err0 hf)
      obtain rfl:i=i':=by omega
      obtain rfl:s=s':=Option.some.inj (h2.symm.trans a2)
      rw [a5,h5])
     exact this
   ·rename_i hf
    have hno:=fndC_none.1 hf
    split
    ·exact h
    ·rename_i hr
     obtain ⟨i,s,hfi,hs⟩:=Xm.free_slot (Classical.not_not.1 hr)
     split
     ·rename_i hfull
      have ho:=h.oldest hfull
      refine (h.unlink _).link (i:=i) (s:=s) hfi hs ?_ ?_ hk
      ·show k ∉ keyL (delC x.C _)
       rw [keyL_del]
       exact fun hm => hno (List.mem_filter.1 hm).1
      ·have:=Xm.put_len h ho
       show (x.unlink (x.used.headD 0)).1.C.length < x.entries
       omega
     ·exact h.link hfi hs hno (by have:=h.le; omega) hk
theorem new_ok {kind entries words:Nat} (h1:kind≤2) (h2:1≤entries∧entries≤8) (h3:1≤words∧words≤4):(Xm.new kind entries words).Ok:=by
 unfold Xm.new
 exact arr_ok h1 h2 h3 (by split <;> omega)
inductive XmH (mb T:Nat) (x:Xm):Heap→Prop
 | mk {ab tb bo:Nat} {HA HT HO:Heap} (hA:AreH ab x.L HA) (hB:TabH tb x.entries x.C HT) (hO:OrdH bo x.entries T x.used HO) (hx:x.Ok):XmH mb T x ((mb,.cells 217 7 [.int .i64 (x.kind:Int),.int .i64 (x.entries:Int),.int .i64 (x.words:Int),.pointer (some ⟨ab,0,none⟩),.pointer (some ⟨tb,0,none⟩),.pointer (some ⟨bo,0,none⟩),.bool x.closed])::(HA++(HT++HO)))
theorem XmH.ok {mb T:Nat} {x:Xm} {HX:Heap} (h:XmH mb T x HX):x.Ok:=by cases h; assumption
theorem XmH.up {mb T T':Nat} {x:Xm} {HX:Heap} (h:XmH mb T x HX) (hl:T≤T'):XmH mb T' x HX:=by
 cases h with
 | mk hA hB hO hx => exact .mk hA hB (hO.up hl) hx
section
variable {w0:World} {H HX:Heap} {mb T:Nat} {x:Xm}
theorem put_kind (x:Xm) (how k:Int) (ws:List Int):(x.put how k ws).1.kind=x.kind∧(x.put how k ws).1.entries=x.entries∧(x.put how k ws).1.words=x.words∧(x.put how k ws).1.closed=x.closed:=by
 have hl:∀ (y:Xm) c,(y.link c).1.kind=y.kind∧(y.link c).1.entries=y.entries∧(y.link c).1.words=y.words∧(y.link c).1.closed=y.closed:=fun y c => by
  unfold Xm.link
  split
  ·split <;> exact ⟨rfl,rfl,rfl,rfl⟩
  ·exact ⟨rfl,rfl,rfl,rfl⟩
 unfold Xm.put
 split
 ·exact ⟨rfl,rfl,rfl,rfl⟩
 ·split
  ·exact ⟨rfl,rfl,rfl,rfl⟩
  ·split
   ·split <;> exact ⟨rfl,rfl,rfl,rfl⟩
   ·split
    ·exact ⟨rfl,rfl,rfl,rfl⟩
    ·split
     ·exact hl _ _
     ·exact hl _ _
theorem del_kind (x:Xm) (k:Int):(x.del k).1.kind=x.kind∧(x.del k).1.entries=x.entries∧(x.del k).1.words=x.words∧(x.del k).1.closed=x.closed∧(x.del k).1.L=x.L:=by
 unfold Xm.del
 split
 ·exact ⟨rfl,rfl,rfl,rfl,rfl⟩
 ·split <;> exact ⟨rfl,rfl,rfl,rfl,rfl⟩
theorem free_kind (x:Xm) (h:Hd):(x.free h).1.kind=x.kind∧(x.free h).1.entries=x.entries∧(x.free h).1.words=x.words∧(x.free h).1.closed=x.closed∧(x.free h).1.C=x.C∧(x.free h).1.used=x.used:=by
 unfold Xm.free
 split
 ·exact ⟨rfl,rfl,rfl,rfl,rfl,rfl⟩
 ·split <;> exact ⟨rfl,rfl,rfl,rfl,rfl,rfl⟩
theorem XmH.of {x y:Xm} (hk:y.kind=x.kind∧y.entries=x.entries∧y.words=x.words) {ab tb bo:Nat} {HA HT HO:Heap} (hA:AreH ab y.L HA) (hB:TabH tb x.entries y.C HT) (hO:OrdH bo x.entries T y.used HO) (hx:y.Ok):XmH mb T y ((mb,.cells 217 7 [.int .i64 (x.kind:Int),.int .i64 (x.entries:Int),.int .i64 (x.words:Int),.pointer (some ⟨ab,0,none⟩),.pointer (some ⟨tb,0,none⟩),.pointer (some ⟨bo,0,none⟩),.bool y.closed])::(HA++(HT++HO))):=by
 rw [← hk.1,← hk.2.1,← hk.2.2]
 exact .mk hA (by rw [hk.2.1]; exact hB) (by rw [hk.2.1]; exact hO) hx
theorem XmH.put (hX:XmH mb T x HX) (hTab:Tab w0) (hTl:T≤1000000) {how k:Int} {ws:List Int} {ad:Option Addr} {cap:Nat} (hk:0≤k∧k < 18446744073709551616) (hrow:Holds w0 H ad (ws.map (Value.int .u64))):LCalls Tryz.prog w0 61 #[.pointer (some ⟨mb,0,none⟩),.int .i64 how,.int .u64 k,.slice ad ws.length cap] (HX++H) (fun v H' => ∃ HX',XmH mb (T+2) (Xm.put x how k ws).1 HX'∧v=.tuple #[.agg (List.toArray (puttC (Xm.put x how k ws).2.1)),.int .i64 (Xm.put x how k ws).2.2]∧H'=HX'++H):=by
 obtain ⟨kind,entries,words,closed,L,C,used⟩:=x
 cases hX with
 | @mk ab tb bo HA HT HO hA hB hO hx =>
  show LCalls _ _ _ _ ((mb,.cells 217 7 [.int .i64 (kind:Int),.int .i64 (entries:Int),.int .i64 (words:Int),.pointer (some ⟨ab,0,none⟩),.pointer (some ⟨tb,0,none⟩),.pointer (some ⟨bo,0,none⟩),.bool closed])::((HA++(HT++HO))++H)) _
  rw [List.append_assoc,List.append_assoc]
  refine (Put_atX (H:=H) hA hB hO hTl hx (how:=how) (k:=k) (cap:=cap) hrow hTab).mono ?_
  rintro v H' ⟨HA2,HT2,HO2,hA2,hB2,hO2,rfl,rfl⟩
  have hk':=put_kind ⟨kind,entries,words,closed,L,C,used⟩ how k ws
  refine ⟨_,XmH.of (x:=⟨kind,entries,words,closed,L,C,used⟩) ⟨hk'.1,hk'.2.1,hk'.2.2.1⟩ hA2 hB2 hO2 (hx.put how ws hk),rfl,?_⟩
  rw [show ((Xm.put ⟨kind,entries,words,closed,L,C,used⟩ how k ws)).1.closed=closed from hk'.2.2.2]
  show _=(mb,.cells 217 7 [.int .i64 (kind:Int),.int .i64 (entries:Int),.int .i64 (words:Int),.pointer (some ⟨ab,0,none⟩),.pointer (some ⟨tb,0,none⟩),.pointer (some ⟨bo,0,none⟩),.bool closed])::((HA2++(HT2++HO2))++H)
  rw [List.append_assoc,List.append_assoc]
theorem XmH.del (hX:XmH mb T x HX) {k:Int}:LCalls Tryz.prog w0 68 #[.pointer (some ⟨mb,0,none⟩),.int .u64 k] (HX++H) (fun v H' => ∃ HX',XmH mb T (Xm.del x k).1 HX'∧v=.tuple #[.agg (List.toArray (hdC (Xm.del x k).2.1)),.int .i64 (Xm.del x k).2.2]∧H'=HX'++H):=by
 obtain ⟨kind,entries,words,closed,L,C,used⟩:=x
 cases hX with
 | @mk ab tb bo HA HT HO hA hB hO hx =>
  show LCalls _ _ _ _ ((mb,.cells 217 7 [.int .i64 (kind:Int),.int .i64 (entries:Int),.int .i64 (words:Int),.pointer (some ⟨ab,0,none⟩),.pointer (some ⟨tb,0,none⟩),.pointer (some ⟨bo,0,none⟩),.bool closed])::((HA++(HT++HO))++H)) _
  rw [List.append_assoc,List.append_assoc]
  refine (Del_at (H:=H) (HA:=HA) (L:=L) (closed:=closed) (words:=words) hB hO (k:=k)).mono ?_
  rintro v H' ⟨HT2,HO2,hB2,hO2,rfl,rfl⟩
  have hk':=del_kind ⟨kind,entries,words,closed,L,C,used⟩ k
  refine ⟨_,XmH.of (x:=⟨kind,entries,words,closed,L,C,used⟩) ⟨hk'.1,hk'.2.1,hk'.2.2.1⟩ (by rw [hk'.2.2.2.2]; exact hA) hB2 hO2 (hx.del k),rfl,?_⟩
  rw [show ((Xm.del ⟨kind,entries,words,closed,L,C,used⟩ k)).1.closed=closed from hk'.2.2.2.1]
  show _=(mb,.cells 217 7 [.int .i64 (kind:Int),.int .i64 (entries:Int),.int .i64 (words:Int),.pointer (some ⟨ab,0,none⟩),.pointer (some ⟨tb,0,none⟩),.pointer (some ⟨bo,0,none⟩),.bool closed])::((HA++(HT2++HO2))++H)
  rw [List.append_assoc,List.append_assoc]
theorem XmH.free (hX:XmH mb T x HX) {h:Hd}:LCalls Tryz.prog w0 159 #[.pointer (some ⟨mb,0,none⟩),.agg (List.toArray (hdC h))] (HX++H) (fun v H' => ∃ HX',XmH mb T (Xm.free x h).1 HX'∧v=.int .i64 (Xm.free x h).2∧H'=HX'++H):=by
 obtain ⟨kind,entries,words,closed,L,C,used⟩:=x
 cases hX with
 | @mk ab tb bo HA HT HO hA hB hO hx =>
  show LCalls _ _ _ _ ((mb,.cells 217 7 [.int .i64 (kind:Int),.int .i64 (entries:Int),.int .i64 (words:Int),.pointer (some ⟨ab,0,none⟩),.pointer (some ⟨tb,0,none⟩),.pointer (some ⟨bo,0,none⟩),.bool closed])::((HA++(HT++HO))++H)) _
  rw [List.append_assoc,List.append_assoc]
  refine (Free_at (H:=H) (HO:=HO) (closed:=closed) (kind:=kind) (words:=words) hA hB (h:=h) used).mono ?_
  rintro v H' ⟨HA2,hA2,rfl,rfl⟩
  have hk':=free_kind ⟨kind,entries,words,closed,L,C,used⟩ h
  refine ⟨_,XmH.of (x:=⟨kind,entries,words,closed,L,C,used⟩) ⟨hk'.1,hk'.2.1,hk'.2.2.1⟩ hA2 (by rw [hk'.2.2.2.2.1]; exact hB) (by rw [hk'.2.2.2.2.2]; exact hO) (hx.free h),rfl,?_⟩
  rw [show ((Xm.free ⟨kind,entries,words,closed,L,C,used⟩ h)).1.closed=closed from hk'.2.2.2.1]
  show _=(mb,.cells 217 7 [.int .i64 (kind:Int),.int .i64 (entries:Int),.int .i64 (words:Int),.pointer (some ⟨ab,0,none⟩),.pointer (some ⟨tb,0,none⟩),.pointer (some ⟨bo,0,none⟩),.bool closed])::((HA2++(HT++HO))++H)
  rw [List.append_assoc,List.append_assoc]
theorem XmH.key (hX:XmH mb T x HX) (hm:∀ p ∈ HX,p ∈ H) {h:Hd}:PureAt Tryz.prog w0 H 66 [.pointer (some ⟨mb,0,none⟩),.agg (List.toArray (hdC h))] (.tuple #[.int .u64 (x.key h).1,.int .i64 (x.key h).2]):=by
 obtain ⟨kind,entries,words,closed,L,C,used⟩:=x
 cases hX with
 | @mk ab tb bo HA HT HO hA hB hO hx => exact Key_q (h:=h) hA hB hm
theorem XmH.held (hX:XmH mb T x HX) (hm:∀ p ∈ HX,p ∈ H):PureAt Tryz.prog w0 H 43 [.pointer (some ⟨mb,0,none⟩)] (.int .i64 ((cntA 1 x.L:Nat):Int)):=by
 obtain ⟨kind,entries,words,closed,L,C,used⟩:=x
 cases hX with
 | @mk ab tb bo HA HT HO hA hB hO hx => exact Held_qm hA hB hm
end
theorem XmH.new {w0:World} {H:Heap} (hTab:Tab w0) {kind entries words:Nat} (h1:kind≤2) (h2:1≤entries∧entries≤8) (h3:1≤words∧words≤4):LCalls Tryz.prog w0 81 #[.int .i64 (kind:Int),.int .i64 (entries:Int),.int .i64 (words:Int)] (H) (fun v H' => ∃ mb HX,XmH mb 8 (Xm.new kind entries words) HX∧v=.tuple #[.pointer (some ⟨mb,0,none⟩),.int .i64 0]∧H'=HX++H):=by
 refine (New_go (H:=H) h1 h2 h3 hTab).mono ?_
 rintro v H' ⟨mb,ab,tb,bo,HA,HT,HO,hA,hB,hO,rfl,rfl⟩
 refine ⟨mb,_,.mk (x:=Xm.new kind entries words) hA hB hO (new_ok h1 h2 h3),rfl,?_⟩
 show _=(mb,.cells 217 7 [.int .i64 (kind:Int),.int .i64 (entries:Int),.int .i64 (words:Int),.pointer (some ⟨ab,0,none⟩),.pointer (some ⟨tb,0,none⟩),.pointer (some ⟨bo,0,none⟩),.bool false])::((HA++(HT++HO))++H)
 rw [List.append_assoc,List.append_assoc]
def mcC (c:Option Nat × Bool):List Value:=[.pointer (c.1.map fun mb => ⟨mb,0,none⟩),.bool c.2]
theorem mcC_len (c:Option Nat × Bool):(mcC c).length=2:=rfl
def lfRow (n:Nat) (M:List (Option Nat × Bool)) (tb wb g1 g2 rb db:Nat):List Value:=.int .i64 ((n:Nat):Int)::(M.flatMap mcC++[.pointer (some ⟨tb,0,none⟩),.pointer (some ⟨wb,0,none⟩),.pointer (some ⟨g1,0,none⟩),.pointer (some ⟨g2,0,none⟩),.pointer (some ⟨rb,0,none⟩),.map (some db)])
theorem lf_len {n:Nat} {M:List (Option Nat × Bool)} {tb wb g1 g2 rb db:Nat}:(lfRow n M tb wb g1 g2 rb db).length=M.length * 2+7:=by
 unfold lfRow; rw [List.length_cons,List.length_append,rows_len mcC_len]; rfl
theorem lf_tl {n:Nat} {M:List (Option Nat × Bool)} {tb wb g1 g2 rb db j:Nat} (h:M.length=4):(lfRow n M tb wb g1 g2 rb db)[9+j]?=[.pointer (some ⟨tb,0,none⟩),.pointer (some ⟨wb,0,none⟩),.pointer (some ⟨g1,0,none⟩),.pointer (some ⟨g2,0,none⟩),.pointer (some ⟨rb,0,none⟩),Value.map (some db)][j]?:=by
 unfold lfRow
 rw [show 9+j=(8+j)+1 by omega,List.getElem?_cons_succ,List.getElem?_append_right (by rw [rows_len mcC_len,h]; omega),rows_len mcC_len,h,Nat.add_sub_cancel_left]
theorem lf_map {n:Nat} {M:List (Option Nat × Bool)} {tb wb g1 g2 rb db i j:Nat} {c:Option Nat × Bool} (h:M[i]?=some c) (hj:j < 2):(lfRow n M tb wb g1 g2 rb db)[1+i * 2+j]?=(mcC c)[j]?:=by
 unfold lfRow
 rw [show 1+i * 2+j=(i * 2+j)+1 by omega,List.getElem?_cons_succ,List.getElem?_append_left (rows_lt mcC_len h hj),rows_get mcC_len h hj]
theorem lf_spl {n:Nat} {M:List (Option Nat × Bool)} {tb wb g1 g2 rb db i:Nat} {c':Option Nat × Bool} (h:i < M.length):spliceL (lfRow n M tb wb g1 g2 rb db) (1+i * 2) (mcC c')=lfRow n (M.set i c') tb wb g1 g2 rb db:=by
 have e:=flat_set mcC_len (l:=M) c' h
 have hl:=rows_len mcC_len M
 unfold spliceL at e ⊢
 unfold lfRow
 rw [← e,show 1+i * 2=(i * 2)+1 by omega,List.take_succ_cons,show (i * 2)+1+(mcC c').length=(i * 2+(mcC c').length)+1 by omega,List.drop_succ_cons,List.take_append_of_le_length (by rw [hl]; omega),List.drop_append_of_le_length (by rw [hl,mcC_len]; omega)]
 simp only [List.cons_append,List.append_assoc]
structure Dye where
 key:Int
 h:Hd
 clk:Nat
def Dye.ent (e:Dye):Int × Value × Nat:=(e.key,.agg (List.toArray (hdC e.h)),e.clk)
def Dye.p (e:Dye):Int × Hd:=(e.key,e.h)
inductive DyH (db:Nat) (dy:List (Int × Hd)):Heap→Prop
 | mk {E:List Dye} {cl:Nat} (hok:MapOk (E.map Dye.ent) cl) (he:E.map Dye.p=dy):DyH db dy [(db,.obj (mapO (Value.int .i64) ((E).map Dye.ent) cl))]
inductive MpH (T:Nat):(Option Nat × Bool)→Option (Xm × Bool)→Heap→Prop
 | none:MpH T (none,false) none []
 | some {mb:Nat} {x:Xm} {b:Bool} {X:Heap} (h:XmH mb T x X):MpH T (some mb,b) (some (x,b)) X
structure MsOk (T:Nat) (M:List (Option Nat × Bool)) (ms:List (Option (Xm × Bool))) (HM:List Heap):Prop where
 m4:M.length=4
 s4:ms.length=4
 h4:HM.length=4
 at_:∀ (k:Nat) c y X,M[k]?=some c→ms[k]?=some y→HM[k]?=some X→MpH T c y X
structure Lf where
 n:Nat
 ms:List (Option (Xm × Bool))
 Ws:List Wl
 Qt:List (Int × Int)
 Rt:List (Int × Int)
 At:List Tone
 Qw:List (Int × Int)
 Rw:List (Int × Int)
 Aw:List Wone
 on:List Int
 tr:Gr
 cl:Gr
 us:List (Int × Cnt)
 dy:List (Int × Hd)
structure UsOk (R:List (Int × Cnt)):Prop where
 rng:∀ p ∈ R,1≤p.2.n∧p.2.n≤8∧p.2.top=8∧0≤p.1∧p.1 < 16
 nd:(R.map (·.1)).Nodup
inductive LifeH (lb T:Nat) (F:Lf):Heap→Prop
 | mk {tb wb g1 g2 rb db:Nat} {M:List (Option Nat × Bool)} {HT HW H1 H2 HR HD:Heap} {HM:List Heap}
  (hT:TimerH tb F.n F.Ws F.Qt F.Rt F.At HT) (hO:TOk T F.Ws F.At) (hW:WorkH wb F.n F.Qw F.Rw F.Aw F.on HW)
  (h1:GrH g1 F.n F.tr H1) (o1:GrOk F.n F.tr) (h2:GrH g2 F.n F.cl H2) (o2:GrOk F.n F.cl)
  (hR:RefH rb 8 F.us HR) (hU:UsOk F.us) (hD:DyH db F.dy HD) (hM:MsOk T M F.ms HM) :
  LifeH lb T F ((lb,.cells 134 15 (lfRow F.n M tb wb g1 g2 rb db))::(HT++(HW++(H1++(H2++(HR++(HD++HM.flatten)))))))
def mptV (M:List (Option Nat × Bool)) (m:Int):Value:=.pointer (if 0≤m∧m < 4 then (M.getD m.toNat (none,false)).1.map (fun mb => (⟨mb,0,none⟩:Addr)) else none)
theorem mptV_at {M:List (Option Nat × Bool)} {i:Nat} {c:Option Nat × Bool} (hi:i < 4) (h:M[i]?=some c):mptV M (i:Int)=.pointer (c.1.map fun mb => ⟨mb,0,none⟩):=by
 unfold mptV; rw [if_pos (by omega),show ((i:Nat):Int).toNat=i by omega,List.getD_eq_getElem?_getD,h]; rfl
theorem mptV_out {M:List (Option Nat × Bool)} {m:Int} (h:¬ (0≤m∧m < 4)):mptV M m=.pointer none:=by unfold mptV; rw [if_neg h]
theorem lMap_lo {w0:World} {H:Heap} {n lb tb wb g1 g2 rb db:Nat} {M:List (Option Nat × Bool)} (hm:(lb,.cells 134 15 (lfRow n M tb wb g1 g2 rb db)) ∈ H) (hM4:M.length=4) {m:Int} (h:m < 0) :PureAt Tryz.prog w0 H 29 [.pointer (some ⟨lb,0,none⟩),.int .i64 m] (mptV M m):=by
 refine L_enter Tryz.func29 rfl Tryz.ntmps29 rfl rfl ?_
 refine W_sr ?_
 refine W_assign rfl rfl ?_
 refine W_nil (W_seq (W_sr ?_))
 refine W_move rfl rfl ?_
 refine W_x (X_ptrNil rfl rfl ty23) (fun _ h => by cases h) rfl ?_
 refine W_move rfl rfl ?_
 refine W_gyes rfl rfl ?_
 refine W_move rfl rfl ?_
 refine W_gyes rfl rfl ?_
 refine W_bin rfl rfl b_lss rfl ?_
 first | rw [decide_eq_true (by omega)] | rw [decide_eq_false (by omega)]
 first | refine W_pickt rfl rfl rfl ?_ | refine W_pickf rfl rfl rfl ?_
 refine W_move rfl rfl ?_
 refine W_gno rfl rfl rfl ?_
 refine W_gno rfl rfl rfl ?_
 first | refine W_pickt rfl rfl rfl ?_ | refine W_pickf rfl rfl rfl ?_
 refine W_nil ?_
 refine W_condT rfl rfl ?_
 refine W_sr ?_
 refine W_assign rfl rfl ?_
 refine W_nil ?_
 refine W_ret1m (H2:=H) Tryz.results29 rfl (.nil _) zH ?_
 rw [mptV_out (by omega)]
 exact ⟨rfl,rfl⟩
theorem lMap_hi {w0:World} {H:Heap} {n lb tb wb g1 g2 rb db:Nat} {M:List (Option Nat × Bool)} (hm:(lb,.cells 134 15 (lfRow n M tb wb g1 g2 rb db)) ∈ H) (hM4:M.length=4) {m:Int} (h:4≤m) :PureAt Tryz.prog w0 H 29 [.pointer (some ⟨lb,0,none⟩),.int .i64 m] (mptV M m):=by
 refine L_enter Tryz.func29 rfl Tryz.ntmps29 rfl rfl ?_
 refine W_sr ?_
 refine W_assign rfl rfl ?_
 refine W_nil (W_seq (W_sr ?_))
 refine W_move rfl rfl ?_
 refine W_x (X_ptrNil rfl rfl ty23) (fun _ h => by cases h) rfl ?_
 refine W_move rfl rfl ?_
 refine W_gyes rfl rfl ?_
 refine W_move rfl rfl ?_
 refine W_gyes rfl rfl ?_
 refine W_bin rfl rfl b_lss rfl ?_
 first | rw [decide_eq_true (by omega)] | rw [decide_eq_false (by omega)]
 first | refine W_pickt rfl rfl rfl ?_ | refine W_pickf rfl rfl rfl ?_
 refine W_move rfl rfl ?_
 refine W_gyes rfl rfl ?_
 refine W_move rfl rfl ?_
 refine W_gyes rfl rfl ?_
 refine W_bin rfl rfl b_geq rfl ?_
 first | rw [decide_eq_true (by omega)] | rw [decide_eq_false (by omega)]
 first | refine W_pickt rfl rfl rfl ?_ | refine W_pickf rfl rfl rfl ?_
 refine W_nil ?_
 refine W_condT rfl rfl ?_
 refine W_sr ?_
 refine W_assign rfl rfl ?_
 refine W_nil ?_
 refine W_ret1m (H2:=H) Tryz.results29 rfl (.nil _) zH ?_
 rw [mptV_out (by omega)]
 exact ⟨rfl,rfl⟩
theorem lMap_in {w0:World} {H:Heap} {n lb tb wb g1 g2 rb db:Nat} {M:List (Option Nat × Bool)} (hm:(lb,.cells 134 15 (lfRow n M tb wb g1 g2 rb db)) ∈ H) (hM4:M.length=4) {i:Nat} {c:Option Nat × Bool} (hi:i < 4) (hc:M[i]?=some c) :PureAt Tryz.prog w0 H 29 [.pointer (some ⟨lb,0,none⟩),.int .i64 (i:Int)] (.pointer (c.1.map fun mb => ⟨mb,0,none⟩)):=by
 refine L_enter Tryz.func29 rfl Tryz.ntmps29 rfl rfl ?_
 refine W_sr ?_
 refine W_assign rfl rfl ?_
 refine W_nil (W_seq (W_sr ?_))
 refine W_move rfl rfl ?_
 refine W_x (X_ptrNil rfl rfl ty23) (fun _ h => by cases h) rfl ?_
 refine W_move rfl rfl ?_
 refine W_gyes rfl rfl ?_
 refine W_move rfl rfl ?_
 refine W_gyes rfl rfl ?_
 refine W_bin rfl rfl b_lss rfl ?_
 first | rw [decide_eq_true (by omega)] | rw [decide_eq_false (by omega)]
 first | refine W_pickt rfl rfl rfl ?_ | refine W_pickf rfl rfl rfl ?_
 refine W_move rfl rfl ?_
 refine W_gyes rfl rfl ?_
 refine W_move rfl rfl ?_
 refine W_gyes rfl rfl ?_
 refine W_bin rfl rfl b_geq rfl ?_
 first | rw [decide_eq_true (by omega)] | rw [decide_eq_false (by omega)]
 first | refine W_pickt rfl rfl rfl ?_ | refine W_pickf rfl rfl rfl ?_
 refine W_nil ?_
 refine W_condF rfl rfl ?_
 refine W_skip (W_sr ?_)
 refine W_move rfl rfl ?_
 refine W_move rfl rfl ?_
 refine W_nilCheck rfl rfl ?_
 refine W_fieldAddr rfl fld134_1 zd rfl ?_
 refine W_indexAddrA (j:=i) rfl rfl ty130 ty129 (by first | rfl | omega) (by first | decide | omega | simp) rfl rfl ?_
 refine W_fieldAddr rfl fld129_0 zd rfl ?_
 refine W_load (v:=.pointer (c.1.map fun mb => ⟨mb,0,none⟩)) rfl ty65 rfl (Cell.own (b:=lb) hm (lf_map (j:=0) hc zd)) rfl ?_
 refine W_assign rfl rfl ?_
 refine W_nil ?_
 refine W_ret1m (H2:=H) Tryz.results29 rfl (.nil _) zH ?_
 exact ⟨rfl,rfl⟩
theorem lMap_q {w0:World} {H:Heap} {n lb tb wb g1 g2 rb db:Nat} {M:List (Option Nat × Bool)} (hm:(lb,.cells 134 15 (lfRow n M tb wb g1 g2 rb db)) ∈ H) (hM4:M.length=4) {m:Int}:PureAt Tryz.prog w0 H 29 [.pointer (some ⟨lb,0,none⟩),.int .i64 m] (mptV M m):=by
 by_cases h0:m < 0
 ·exact lMap_lo hm hM4 h0
 ·by_cases h1:4≤m
  ·exact lMap_hi hm hM4 h1
  ·obtain ⟨i,rfl⟩:∃ i:Nat,m=(i:Int):=⟨m.toNat,by omega⟩
   obtain ⟨c,hc⟩:∃ c,M[i]?=some c:=⟨_,List.getElem?_eq_getElem zO⟩
   rw [mptV_at (by omega) hc]
   exact lMap_in hm hM4 zO hc
theorem lMap_nil {m:Int}:Pure Tryz.prog (fun _ => True) 29 [.pointer none,.int .i64 m] (.pointer none):=by
 intro w0 H hT
 refine L_enter Tryz.func29 rfl Tryz.ntmps29 rfl rfl ?_
 refine W_sr ?_
 refine W_assign rfl rfl ?_
 refine W_nil (W_seq (W_sr ?_))
 refine W_move rfl rfl ?_
 refine W_x (X_ptrNil rfl rfl ty23) (fun _ h => by cases h) rfl ?_
 refine W_move rfl rfl ?_
 refine W_gno rfl rfl rfl ?_
 refine W_gno rfl rfl rfl ?_
 first | refine W_pickt rfl rfl rfl ?_ | refine W_pickf rfl rfl rfl ?_
 refine W_move rfl rfl ?_
 refine W_gno rfl rfl rfl ?_
 refine W_gno rfl rfl rfl ?_
 first | refine W_pickt rfl rfl rfl ?_ | refine W_pickf rfl rfl rfl ?_
 refine W_nil ?_
 refine W_condT rfl rfl ?_
 refine W_sr ?_
 refine W_assign rfl rfl ?_
 refine W_nil ?_
 refine W_ret1m (H2:=H) Tryz.results29 rfl (.nil _) zH ?_
 exact ⟨rfl,rfl⟩
theorem lwith_no {w0:World} {H:Heap} {n lb tb wb g1 g2 rb db:Nat} {M:List (Option Nat × Bool)} (hm:(lb,.cells 134 15 (lfRow n M tb wb g1 g2 rb db)) ∈ H) (hM4:M.length=4) {m:Int} {f:Value} (hno:mptV M m=.pointer none) :PureAt Tryz.prog w0 H 59 [.pointer (some ⟨lb,0,none⟩),.int .i64 m,f] (.int .i64 4):=by
 refine L_enter Tryz.func59 rfl Tryz.ntmps59 rfl rfl ?_
 refine W_sr ?_
 refine W_assign rfl rfl ?_
 refine W_nil (W_sr ?_)
 refine W_move rfl rfl ?_
 refine W_move rfl rfl ?_
 refine W_callq (.cons rfl (.cons rfl .nil)) Tryz.call29 rfl (lMap_q (m:=m) hm hM4) ?_
 rw [hno]
 refine W_assign rfl rfl ?_
 refine W_nil (W_seq ?_)
 refine W_block (W_sr ?_)
 refine W_move rfl rfl ?_
 refine W_x (X_ptrNil rfl rfl ty23) (fun _ h => by cases h) rfl ?_
 refine W_assign rfl rfl ?_
 refine W_nil ?_
 refine W_condF rfl rfl ?_
 refine W_sr ?_
 refine W_move rfl rfl ?_
 refine W_x (X_ptrNil rfl rfl ty65) (fun _ h => by cases h) rfl ?_
 refine W_assign rfl rfl ?_
 refine W_nil ?_
 refine W_condT rfl rfl ?_
 refine W_sr ?_
 refine W_assign rfl rfl ?_
 refine W_nil ?_
 refine W_ret1m (H2:=H) Tryz.results59 rfl (.nil _) zH ?_
 exact ⟨rfl,rfl⟩
theorem lwith_in {w0:World} {H:Heap} {n lb tb wb g1 g2 rb db:Nat} {M:List (Option Nat × Bool)} (hm:(lb,.cells 134 15 (lfRow n M tb wb g1 g2 rb db)) ∈ H) (hM4:M.length=4) {m:Int} {mb fi:Nat} {ca:List Value} {R:Value→Heap→Prop} (hfi:∀ (args:Array Value) (w:World),(callFunc fi args).run Tryz.prog w=.ok (.enter fi args) w) (hy:mptV M m=.pointer (some ⟨mb,0,none⟩)) (hdo:LCalls Tryz.prog w0 fi (#[]++#[.pointer (some ⟨mb,0,none⟩)]++ca.toArray) H R) (hE:∀ v H2,R v H2→∃ e,v=.int .i64 e) :LCalls Tryz.prog w0 59 #[.pointer (some ⟨lb,0,none⟩),.int .i64 m,Value.func (.func fi) #[] ca.toArray] (H) (R):=by
 refine L_enter (l:=[.pointer (some ⟨lb,0,none⟩),.int .i64 m,Value.func (.func fi) #[] ca.toArray]) Tryz.func59 rfl Tryz.ntmps59 rfl rfl ?_
 refine W_sr ?_
 refine W_assign rfl rfl ?_
 refine W_nil (W_sr ?_)
 refine W_move rfl rfl ?_
 refine W_move rfl rfl ?_
 refine W_callq (.cons rfl (.cons rfl .nil)) Tryz.call29 rfl (lMap_q (m:=m) hm hM4) ?_
 rw [hy]
 refine W_assign rfl rfl ?_
 refine W_nil (W_seq ?_)
 refine W_block (W_sr ?_)
 refine W_move rfl rfl ?_
 refine W_x (X_ptrNil rfl rfl ty23) (fun _ h => by cases h) rfl ?_
 refine W_assign rfl rfl ?_
 refine W_nil ?_
 refine W_condF rfl rfl ?_
 refine W_sr ?_
 refine W_move rfl rfl ?_
 refine W_x (X_ptrNil rfl rfl ty65) (fun _ h => by cases h) rfl ?_
 refine W_assign rfl rfl ?_
 refine W_nil ?_
 refine W_condF rfl rfl ?_
 refine W_skip ?_
 refine W_blk ?_
 refine W_sr ?_
 refine W_move rfl rfl ?_
 refine W_move rfl rfl ?_
 refine W_callv (fa:=#[]) (ca:=ca.toArray) rfl (.cons rfl .nil) hfi rfl (hdo) ?_
 rintro v H' hR
 refine W_assign rfl rfl ?_
 refine W_nil ?_
 refine W_ret1m (H2:=H') Tryz.results59 rfl (.nil _) zH ?_
 exact hR
theorem lwith_nil {m:Int} {f:Value}:Pure Tryz.prog (fun _ => True) 59 [.pointer none,.int .i64 m,f] (.int .i64 6):=by
 intro w0 H hT
 refine L_enter Tryz.func59 rfl Tryz.ntmps59 rfl rfl ?_
 refine W_sr ?_
 refine W_assign rfl rfl ?_
 refine W_nil (W_sr ?_)
 refine W_move rfl rfl ?_
 refine W_move rfl rfl ?_
 refine W_callp (.cons rfl (.cons rfl .nil)) Tryz.call29 rfl (T:=fun _ => True) trivial lMap_nil ?_
 refine W_assign rfl rfl ?_
 refine W_nil (W_seq ?_)
 refine W_block (W_sr ?_)
 refine W_move rfl rfl ?_
 refine W_x (X_ptrNil rfl rfl ty23) (fun _ h => by cases h) rfl ?_
 refine W_assign rfl rfl ?_
 refine W_nil ?_
 refine W_condT rfl rfl ?_
 refine W_sr ?_
 refine W_assign rfl rfl ?_
 refine W_nil ?_
 refine W_ret1m (H2:=H) Tryz.results59 rfl (.nil _) zH ?_
 exact ⟨rfl,rfl⟩
theorem lTimers_nil :Pure Tryz.prog (fun _ => True) 21 [.pointer none] (.pointer none):=by
 intro w0 H hT
 refine L_enter Tryz.func21 rfl Tryz.ntmps21 rfl rfl ?_
 refine W_sr ?_
 refine W_assign rfl rfl ?_
 refine W_nil (W_seq (W_sr ?_))
 refine W_move rfl rfl ?_
 refine W_x (X_ptrNil rfl rfl ty23) (fun _ h => by cases h) rfl ?_
 refine W_nil ?_
 refine W_condT rfl rfl ?_
 refine W_sr ?_
 refine W_assign rfl rfl ?_
 refine W_nil ?_
 refine W_ret1m (H2:=H) Tryz.results21 rfl (.nil _) zH ?_
 exact ⟨rfl,rfl⟩
theorem lWorks_nil :Pure Tryz.prog (fun _ => True) 30 [.pointer none] (.pointer none):=by
 intro w0 H hT
 refine L_enter Tryz.func30 rfl Tryz.ntmps30 rfl rfl ?_
 refine W_sr ?_
 refine W_assign rfl rfl ?_
 refine W_nil (W_seq (W_sr ?_))
 refine W_move rfl rfl ?_
 refine W_x (X_ptrNil rfl rfl ty23) (fun _ h => by cases h) rfl ?_
 refine W_nil ?_
 refine W_condT rfl rfl ?_
 refine W_sr ?_
 refine W_assign rfl rfl ?_
 refine W_nil ?_
 refine W_ret1m (H2:=H) Tryz.results30 rfl (.nil _) zH ?_
 exact ⟨rfl,rfl⟩
theorem lTrace_nil :Pure Tryz.prog (fun _ => True) 10 [.pointer none] (.pointer none):=by
 intro w0 H hT
 refine L_enter Tryz.func10 rfl Tryz.ntmps10 rfl rfl ?_
 refine W_sr ?_
 refine W_assign rfl rfl ?_
 refine W_nil (W_seq (W_sr ?_))
 refine W_move rfl rfl ?_
 refine W_x (X_ptrNil rfl rfl ty23) (fun _ h => by cases h) rfl ?_
 refine W_nil ?_
 refine W_condT rfl rfl ?_
 refine W_sr ?_
 refine W_assign rfl rfl ?_
 refine W_nil ?_
 refine W_ret1m (H2:=H) Tryz.results10 rfl (.nil _) zH ?_
 exact ⟨rfl,rfl⟩
theorem lClassic_nil :Pure Tryz.prog (fun _ => True) 11 [.pointer none] (.pointer none):=by
 intro w0 H hT
 refine L_enter Tryz.func11 rfl Tryz.ntmps11 rfl rfl ?_
 refine W_sr ?_
 refine W_assign rfl rfl ?_
 refine W_nil (W_seq (W_sr ?_))
 refine W_move rfl rfl ?_
 refine W_x (X_ptrNil rfl rfl ty23) (fun _ h => by cases h) rfl ?_
 refine W_nil ?_
 refine W_condT rfl rfl ?_
 refine W_sr ?_
 refine W_assign rfl rfl ?_
 refine W_nil ?_
 refine W_ret1m (H2:=H) Tryz.results11 rfl (.nil _) zH ?_
 exact ⟨rfl,rfl⟩
theorem lUsers_nil {p:Int}:Pure Tryz.prog (fun _ => True) 24 [.pointer none,.int .i64 p] (.int .i64 0):=by
 intro w0 H hT
 refine L_enter Tryz.func24 rfl Tryz.ntmps24 rfl rfl ?_
 refine W_sr ?_
 refine W_assign rfl rfl ?_
 refine W_nil (W_seq (W_sr ?_))
 refine W_move rfl rfl ?_
 refine W_x (X_ptrNil rfl rfl ty23) (fun _ h => by cases h) rfl ?_
 refine W_nil ?_
 refine W_condT rfl rfl ?_
 refine W_sr ?_
 refine W_assign rfl rfl ?_
 refine W_nil ?_
 refine W_ret1m (H2:=H) Tryz.results24 rfl (.nil _) zH ?_
 exact ⟨rfl,rfl⟩
theorem lf_ld {n:Nat} {M:List (Option Nat × Bool)} {tb wb g1 g2 rb db i:Nat} {c:Option Nat × Bool} (h:M[i]?=some c):((lfRow n M tb wb g1 g2 rb db).drop (1+i * 2)).take 2=mcC c:=by
 apply List.ext_getElem?
 intro j
 by_cases q:j < 2
 ·rw [List.getElem?_take,if_pos q,List.getElem?_drop,lf_map h q]
 ·rw [List.getElem?_eq_none (by rw [List.length_take]; omega),List.getElem?_eq_none (by rw [mcC_len]; omega)]
theorem mk1_n {w0:World} {H:Heap} {mb:Nat} {b:Bool}:PureAt Tryz.prog w0 H 83 [.agg (List.toArray (mcC (none,b)))] (.bool true):=by
 refine L_enter Tryz.func83 rfl Tryz.ntmps83 rfl rfl ?_
 refine W_sr ?_
 refine W_box (l:=mcC (none,b)) rfl rfl rfl (fun b1 => ?_)
 refine W_assign rfl rfl ?_
 refine W_nil (W_sr ?_)
 refine W_fieldAddr rfl fld129_0 zd rfl ?_
 refine W_load (v:=.pointer none) rfl ty65 rfl (Cell.own (b:=b1) zM rfl) rfl ?_
 refine W_x (X_ptrNil rfl rfl ty65) (fun _ h => by cases h) rfl ?_
 refine W_assign rfl rfl ?_
 refine W_nil ?_
 refine W_ret1m (H2:=H) Tryz.results83 rfl (.nil _) zH ?_
 exact ⟨rfl,rfl⟩
theorem mk1_s {w0:World} {H:Heap} {mb:Nat} {b:Bool}:PureAt Tryz.prog w0 H 83 [.agg (List.toArray (mcC (some mb,b)))] (.bool false):=by
 refine L_enter Tryz.func83 rfl Tryz.ntmps83 rfl rfl ?_
 refine W_sr ?_
 refine W_box (l:=mcC (some mb,b)) rfl rfl rfl (fun b1 => ?_)
 refine W_assign rfl rfl ?_
 refine W_nil (W_sr ?_)
 refine W_fieldAddr rfl fld129_0 zd rfl ?_
 refine W_load (v:=.pointer (some ⟨mb,0,none⟩)) rfl ty65 rfl (Cell.own (b:=b1) zM rfl) rfl ?_
 refine W_x (X_ptrNil rfl rfl ty65) (fun _ h => by cases h) rfl ?_
 refine W_assign rfl rfl ?_
 refine W_nil ?_
 refine W_ret1m (H2:=H) Tryz.results83 rfl (.nil _) zH ?_
 exact ⟨rfl,rfl⟩
theorem mk1_q {w0:World} {H:Heap} {c:Option Nat × Bool}:PureAt Tryz.prog w0 H 83 [.agg (List.toArray (mcC c))] (.bool c.1.isNone):=by
 obtain ⟨c1,c2⟩:=c
 cases c1 with
 | none => exact mk1_n (mb:=0)
 | some mb => exact mk1_s
theorem lIndex_L {w0:World} {H:Heap} {n lb tb wb g1 g2 rb db:Nat} {M:List (Option Nat × Bool)} (hm:(lb,.cells 134 15 (lfRow n M tb wb g1 g2 rb db)) ∈ H) (hM4:M.length=4) :LCalls Tryz.prog w0 82 #[.slice (some ⟨lb,1,none⟩) 4 4,.func (.func 83) #[] #[]] (H) (fun v H' => ∃ z:Int,v=.int .i64 z∧((∃ (i:Nat) (c:Option Nat × Bool),z=i∧M[i]?=some c∧c.1.isNone=true∧∀ j:Nat,j < i→∀ d,M[j]?=some d→d.1.isNone=false)∨(z=-1∧∀ j:Nat,j < 4→∀ d,M[j]?=some d→d.1.isNone=false))∧H'=H):=by
 refine L_enter (l:=[.slice (some ⟨lb,1,none⟩) 4 4,.func (.func 83) #[] #[]]) Tryz.func82 rfl Tryz.ntmps82 rfl rfl ?_
 refine W_sr ?_
 refine W_assign rfl rfl ?_
 refine W_nil (W_seq (W_sr ?_))
 refine W_move rfl rfl ?_
 refine W_len rfl ty158 rfl rfl ?_
 refine W_move rfl rfl ?_
 refine W_nil (W_block ?_)
 refine W_loopC (X:=Nat) [(0,_),(1,_),(7,_)] (fun (i:Nat) => [(8,.int .i64 (i:Int))]) (fun _ => _) (fun (i:Nat) => H) (fun (i:Nat) => i≤4∧∀ j:Nat,j < i→∀ d,M[j]?=some d→d.1.isNone=false) (fun (i:Nat) => 4 - i) 0 ⟨Nat.zero_le _,fun j hj => absurd hj (Nat.not_lt_zero _)⟩ (sub_cons rfl (sub_cons rfl (sub_cons rfl (sub_nil _)))) (sub_cons rfl (sub_nil _)) rfl zH ?_
 rintro i ⟨hi,hn⟩
 simp only [List.cons_append,List.nil_append]
 refine W_sr ?_
 refine W_bin rfl rfl b_lss rfl ?_
 refine W_nil (W_seq ?_)
 refine W_condPS (p:=i < 4) rfl (by rw [decide_eq_true_eq]; omega) (fun q0 => ?_) (fun q0 => ?_)
 ·skip
  refine W_skip (W_seq ?_)
  refine W_block (W_sr ?_)
  refine W_move rfl rfl ?_
  refine W_assign rfl rfl ?_
  refine W_nil (W_sr ?_)
  obtain ⟨c,hc⟩:∃ c,M[i]?=some c:=⟨_,List.getElem?_eq_getElem zO⟩
  refine W_move rfl rfl ?_
  refine W_move rfl rfl ?_
  refine W_move rfl rfl ?_
  refine W_indexAddr (j:=i) rfl rfl ty158 ty129 rfl zO rfl rfl ?_
  refine W_loadB (vs:=mcC c) rfl ty129 rfl (b:=lb) hm (by rw [Nat.ble_eq,lf_len]; omega) (lf_ld hc) rfl ?_
  refine W_callqv (fa:=[]) (ca:=[]) rfl (.cons rfl .nil) rfl Tryz.call83 rfl (mk1_q (c:=c)) ?_
  refine W_nil ?_
  refine W_condPS (p:=c.1.isNone=true) rfl .rfl (fun q1 => ?_) (fun q1 => ?_)
  ·skip
   refine W_sr ?_
   refine W_move rfl rfl ?_
   refine W_assign rfl rfl ?_
   refine W_nil ?_
   refine W_ret1m Tryz.results82 rfl (.nil _) (.refl _) ?_
   exact ⟨i,rfl,.inl ⟨i,c,rfl,hc,q1,hn⟩,rfl⟩
  ·skip
   refine W_skip ?_
   refine W_blk ?_
   refine W_region ?_
   refine W_bin rfl rfl (b_add (m:=((i+1:Nat):Int)) ((i64w zO).trans zO)) rfl ?_
   refine W_move rfl rfl ?_
   refine W_nil ?_
   refine W_again (i+1) ⟨by omega,fun j hj d hd => by
     by_cases e:j=i
     ·subst e; rw [hc] at hd; cases hd; exact eq_false_of_ne_true q1
     ·exact hn j zO d hd⟩ zO (sub_cons rfl (sub_cons rfl (sub_cons rfl (sub_cons rfl (sub_nil _))))) rfl zH
 ·skip
  refine W_exit rfl ?_
  refine W_sr ?_
  refine W_assign rfl rfl ?_
  refine W_nil ?_
  refine W_ret1m Tryz.results82 rfl (.nil _) (.refl _) ?_
  obtain rfl:i=4:=by omega
  exact ⟨-1,rfl,.inr ⟨rfl,hn⟩,rfl⟩
theorem MpH.none_iff {T:Nat} {c:Option Nat × Bool} {y:Option (Xm × Bool)} {X:Heap} (h:MpH T c y X):c.1.isNone=y.isNone:=by cases h <;> rfl
def frM (ms:List (Option (Xm × Bool))):Option Nat:=ms.findIdx? (fun y => y.isNone)
theorem MsOk.free {T:Nat} {M:List (Option Nat × Bool)} {ms:List (Option (Xm × Bool))} {HM:List Heap} (h:MsOk T M ms HM) {i:Nat} {c:Option Nat × Bool} (hc:M[i]?=some c) (h1:c.1.isNone=true) (hj:∀ j:Nat,j < i→∀ d,M[j]?=some d→d.1.isNone=false):frM ms=some i:=by
 have hi:=(List.getElem?_eq_some_iff.1 hc).1
 have hm4:=h.m4; have hs4:=h.s4; have hh4:=h.h4
 have key:∀ j:Nat,j < 4→∃ d y,M[j]?=some d∧ms[j]?=some y∧d.1.isNone=y.isNone:=fun j hj => by
  have e1:=List.getElem?_eq_getElem (l:=M) (i:=j) zO
  have e2:=List.getElem?_eq_getElem (l:=ms) (i:=j) zO
  have e3:=List.getElem?_eq_getElem (l:=HM) (i:=j) zO
  exact ⟨_,_,e1,e2,(h.at_ j _ _ _ e1 e2 e3).none_iff⟩
 unfold frM
 rw [List.findIdx?_eq_some_iff_getElem]
 obtain ⟨d,y,e1,e2,e3⟩:=key i zO
 refine ⟨by omega,?_,fun j hji => ?_⟩
 ·rw [hc] at e1; cases e1
  rw [(List.getElem?_eq_some_iff.1 e2).2,← e3]; exact h1
 ·obtain ⟨d2,y2,f1,f2,f3⟩:=key j zO
  rw [(List.getElem?_eq_some_iff.1 f2).2,← f3,hj j hji d2 f1]; decide
theorem MsOk.full {T:Nat} {M:List (Option Nat × Bool)} {ms:List (Option (Xm × Bool))} {HM:List Heap} (h:MsOk T M ms HM) (hj:∀ j:Nat,j < 4→∀ d,M[j]?=some d→d.1.isNone=false):frM ms=none:=by
 have hm4:=h.m4; have hs4:=h.s4; have hh4:=h.h4
 unfold frM
 rw [List.findIdx?_eq_none_iff]
 intro y hy
 obtain ⟨j,hjl,e⟩:=List.getElem_of_mem hy
 have e1:=List.getElem?_eq_getElem (l:=M) (i:=j) zO
 have e2:ms[j]?=some y:=by rw [List.getElem?_eq_getElem hjl,e]
 have e3:=List.getElem?_eq_getElem (l:=HM) (i:=j) zO
 rw [← (h.at_ j _ _ _ e1 e2 e3).none_iff]
 exact hj j zO _ e1
theorem MsOk.nilAt {T:Nat} {M:List (Option Nat × Bool)} {ms:List (Option (Xm × Bool))} {HM:List Heap} (h:MsOk T M ms HM) {i:Nat} {c:Option Nat × Bool} (hc:M[i]?=some c) (h1:c.1.isNone=true):HM[i]?=some []:=by
 have hi:=(List.getElem?_eq_some_iff.1 hc).1
 have hm4:=h.m4; have hs4:=h.s4; have hh4:=h.h4
 obtain ⟨y,e2⟩:∃ y,ms[i]?=some y:=⟨_,List.getElem?_eq_getElem zO⟩
 obtain ⟨X,e3⟩:∃ X,HM[i]?=some X:=⟨_,List.getElem?_eq_getElem zO⟩
 have h5:=h.at_ i c y X hc e2 e3
 cases h5 with
 | none => exact e3
 | some _ => cases h1
theorem flattenNew {HM:List Heap} {i:Nat} {X H:Heap} (h:HM[i]?=some []):HSub (X++(HM.flatten++H)) ((HM.set i X).flatten++H):=by
 have hi:=(List.getElem?_eq_some_iff.1 h).1
 have eS:HM.set i []=HM:=by
  apply List.ext_getElem?
  intro j
  by_cases q:i=j
  ·subst q; rw [List.getElem?_set_self hi,h]
  ·rw [List.getElem?_set_ne q]
 have:=flattenIn (XS:=HM) (k:=i) (B:=X) (H:=H) hi
 rwa [eS] at this
theorem MsOk.set {T:Nat} {M:List (Option Nat × Bool)} {ms:List (Option (Xm × Bool))} {HM:List Heap} (h:MsOk T M ms HM) {k:Nat} {c:Option Nat × Bool} {y:Option (Xm × Bool)} {X:Heap} (hp:MpH T c y X):MsOk T (M.set k c) (ms.set k y) (HM.set k X):=by
 refine ⟨by rw [List.length_set,h.m4],by rw [List.length_set,h.s4],by rw [List.length_set,h.h4],fun j c2 y2 X2 e1 e2 e3 => ?_⟩
 have hm4:=h.m4; have hs4:=h.s4; have hh4:=h.h4
 by_cases q:k=j
 ·subst q
  have hk:k < M.length:=by have:=(List.getElem?_eq_some_iff.1 e1).1; rwa [List.length_set] at this
  rw [List.getElem?_set_self hk] at e1
  rw [List.getElem?_set_self (by omega)] at e2 e3
  cases e1; cases e2; cases e3; exact hp
 ·rw [List.getElem?_set_ne q] at e1 e2 e3
  exact h.at_ j c2 y2 X2 e1 e2 e3
theorem MsOk.up {T T':Nat} {M:List (Option Nat × Bool)} {ms:List (Option (Xm × Bool))} {HM:List Heap} (h:MsOk T M ms HM) (hl:T≤T'):MsOk T' M ms HM:=⟨h.m4,h.s4,h.h4,fun k c y X e1 e2 e3 => by
 cases h.at_ k c y X e1 e2 e3 with
 | none => exact .none
 | some hx => exact .some (hx.up hl)⟩
theorem lMake_go {w0:World} {H:Heap} {HF:Heap} {lb T:Nat} {F:Lf} (hF:LifeH lb T F HF) {kind entries words:Nat} (hk1:kind≤2) (hk2:1≤entries∧entries≤8) (hk3:1≤words∧words≤4) (hT8:8≤T) (hT0:Tab w0):LCalls Tryz.prog w0 25 #[.pointer (some ⟨lb,0,none⟩),.int .i64 (kind:Int),.int .i64 (entries:Int),.int .i64 (words:Int)] (HF++H) (fun v H' => ∃ HF',(match frM F.ms with | none => LifeH lb T F HF'∧v=.tuple #[.int .i64 0,.int .i64 3] | some k => LifeH lb T { F with ms:=F.ms.set k (some (Xm.new kind entries words,false)) } HF'∧v=.tuple #[.int .i64 (k:Int),.int .i64 0])∧H'=HF'++H):=by
 cases hF with
 | @mk tb wb g1 g2 rb db M HT HW H1 H2 HR HD HM hT hO hW h1 o1 h2 o2 hR hU hD hM =>
 have e0:((lb,.cells 134 15 (lfRow F.n M tb wb g1 g2 rb db))::(HT++(HW++(H1++(H2++(HR++(HD++HM.flatten)))))))++H=(lb,.cells 134 15 (lfRow F.n M tb wb g1 g2 rb db))::(HT++(HW++(H1++(H2++(HR++(HD++(HM.flatten++H))))))):=by simp only [List.cons_append,List.append_assoc]
 rw [e0]
 refine L_enter (l:=[.pointer (some ⟨lb,0,none⟩),.int .i64 (kind:Int),.int .i64 (entries:Int),.int .i64 (words:Int)]) Tryz.func25 rfl Tryz.ntmps25 rfl rfl ?_
 refine W_sr ?_
 refine W_assign rfl rfl ?_
 refine W_assign rfl rfl ?_
 refine W_nil (W_seq (W_sr ?_))
 refine W_move rfl rfl ?_
 refine W_x (X_ptrNil rfl rfl ty23) (fun _ h => by cases h) rfl ?_
 refine W_nil ?_
 refine W_condF rfl rfl ?_
 refine W_skip (W_sr ?_)
 refine W_move rfl rfl ?_
 refine W_move rfl rfl ?_
 refine W_move rfl rfl ?_
 refine W_call (.cons rfl (.cons rfl (.cons rfl .nil))) Tryz.call81 rfl (XmH.new hT0 hk1 hk2 hk3) ?_
 rintro v H' ⟨mb,HX,hX,rfl,rfl⟩
 refine W_move rfl rfl ?_
 refine W_extract rfl rfl rfl ?_
 refine W_extract rfl rfl rfl ?_
 refine W_assign rfl rfl ?_
 refine W_assign rfl rfl ?_
 refine W_nil (W_seq (W_sr ?_))
 refine W_move rfl rfl ?_
 refine W_bin rfl rfl b_neq rfl ?_
 refine W_nil ?_
 refine W_condF rfl rfl ?_
 refine W_skip (W_sr ?_)
 refine W_move rfl rfl ?_
 refine W_nilCheck rfl rfl ?_
 refine W_fieldAddr rfl fld134_1 zd rfl ?_
 refine W_x (X_sliceArr (l:=0) (hh:=4) rfl ty130 ty129 rfl rfl zd zd zd) (fun _ h => by cases h) rfl ?_
 refine W_call (.cons rfl (.cons rfl .nil)) Tryz.call82 rfl ((lIndex_L (n:=F.n) (M:=M) (lb:=lb) (tb:=tb) (wb:=wb) (g1:=g1) (g2:=g2) (rb:=rb) (db:=db) zM hM.m4 (H:=HX++((lb,.cells 134 15 (lfRow F.n M tb wb g1 g2 rb db))::(HT++(HW++(H1++(H2++(HR++(HD++(HM.flatten++H))))))))))) ?_
 rintro v H' ⟨z,rfl,hz,rfl⟩
 rcases hz with ⟨i,c,rfl,hc,hcn,hcj⟩ | ⟨rfl,hcj⟩
 ·skip
  have hi4:i < 4:=by have:=(List.getElem?_eq_some_iff.1 hc).1; rw [hM.m4] at this; exact this
  refine W_assign rfl rfl ?_
  refine W_nil (W_seq (W_sr ?_))
  refine W_move rfl rfl ?_
  refine W_bin rfl rfl b_lss rfl ?_
  refine W_nil ?_
  refine W_condF rfl (decide_eq_false zO) ?_
  refine W_skip (W_sr ?_)
  refine W_move rfl rfl ?_
  refine W_move rfl rfl ?_
  refine W_move rfl rfl ?_
  refine W_build (l:=mcC (some mb,false)) ty129 pl129 (.cons rfl rfl rfl rfl rfl .nil) rfl rfl rfl ?_
  refine W_nilCheck rfl rfl ?_
  refine W_fieldAddr rfl fld134_1 zd rfl ?_
  refine W_indexAddrA (j:=i) rfl rfl ty130 ty129 (by first | rfl | omega) (by first | decide | omega | simp) rfl rfl ?_
  refine W_storeA (l':=lfRow F.n (M.set i (some mb,false)) tb wb g1 g2 rb db) rfl rfl ty129 rfl rfl (b:=lb) zM (by rw [lf_len,hM.m4]; omega) (lf_spl (c':=(some mb,false)) (by rw [hM.m4]; exact hi4)) zU ?_
  refine W_nil (W_sr ?_)
  refine W_hsub (H':=(lb,.cells 134 15 (lfRow F.n (M.set i (some mb,false)) tb wb g1 g2 rb db))::(HT++(HW++(H1++(H2++(HR++(HD++((HM.set i HX).flatten++H)))))))) ((show HSub _ ((lb,.cells 134 15 (lfRow F.n (M.set i (some mb,false)) tb wb g1 g2 rb db))::(HT++(HW++(H1++(H2++(HR++(HD++(HX++(HM.flatten++H))))))))) from zH).trans (.cons (.here _) (.app (.here _) (.app (.here _) (.app (.here _) (.app (.here _) (.app (.here _) (.app (.here _) (flattenNew (hM.nilAt hc hcn)))))))))) ?_
  refine W_move rfl rfl ?_
  refine W_assign rfl rfl ?_
  refine W_assign rfl rfl ?_
  refine W_nil ?_
  refine W_ret2m (H2:=(lb,.cells 134 15 (lfRow F.n (M.set i (some mb,false)) tb wb g1 g2 rb db))::(HT++(HW++(H1++(H2++(HR++(HD++((HM.set i HX).flatten++H)))))))) Tryz.results25 rfl rfl (.nil _) zH ?_
  rw [hM.free hc hcn hcj]
  exact ⟨_,⟨.mk hT hO hW h1 o1 h2 o2 hR hU hD (hM.set (.some (hX.up hT8))),rfl⟩,by simp only [List.cons_append,List.append_assoc]⟩
 ·skip
  refine W_assign rfl rfl ?_
  refine W_nil (W_seq (W_sr ?_))
  refine W_move rfl rfl ?_
  refine W_bin rfl rfl b_lss rfl ?_
  refine W_nil ?_
  refine W_condT rfl rfl ?_
  refine W_sr ?_
  refine W_assign rfl rfl ?_
  refine W_assign rfl rfl ?_
  refine W_nil ?_
  refine W_ret2m (H2:=(lb,.cells 134 15 (lfRow F.n M tb wb g1 g2 rb db))::(HT++(HW++(H1++(H2++(HR++(HD++(HM.flatten++H)))))))) Tryz.results25 rfl rfl (.nil _) zH ?_
  rw [hM.full hcj]
  exact ⟨_,⟨.mk hT hO hW h1 o1 h2 o2 hR hU hD hM,rfl⟩,by simp only [List.cons_append,List.append_assoc]⟩
def lf0 (n:Nat) (Ws:List Wl):Lf:=⟨n,[none,none,none,none],Ws,[],[],List.replicate 256 zTone,[],[],List.replicate 256 zWone,List.replicate 32 0,gr0 n,gr0 n,[],[]⟩
theorem gr0_ok {n:Nat} (h:1≤n∧n≤64):GrOk n (gr0 n):=⟨SctOk.start,by omega,fun l b p e => (by cases e),Int.le_refl 0,(by show (0:Int)≤0∧(0:Int)≤1000000000; decide),(by show (0:Int)≤1000000000; decide)⟩
theorem us0:UsOk []:=⟨fun p hp => (by cases hp),List.nodup_nil⟩
theorem ms0 (T:Nat):MsOk T [(none,false),(none,false),(none,false),(none,false)] [none,none,none,none] [[],[],[],[]]:=⟨rfl,rfl,rfl,fun k c y X e1 e2 e3 => by
 have hk:=(List.getElem?_eq_some_iff.1 e1).1
 have:k=0∨k=1∨k=2∨k=3:=by simp at hk; omega
 rcases this with rfl | rfl | rfl | rfl <;> (cases e1; cases e2; cases e3; exact .none)⟩
set_option maxRecDepth 100000
theorem lfNew_L {w0:World} {H:Heap} {n now:Nat} (hn:1≤n∧n≤64) (hnow:now≤18446744073709551615) :LCalls Tryz.prog w0 38 #[.int .i64 (n:Int),.int .u64 ((now:Nat):Int)] (H) (fun v H' => ∃ lb Ws HF,v=.tuple #[.pointer (some ⟨lb,0,none⟩),.int .i64 0]∧LifeH lb 8 (lf0 n Ws) HF∧Ws.length=n∧(∀ w ∈ Ws,FreshW now w)∧H'=HF++H):=by
 refine L_enter (l:=[.int .i64 (n:Int),.int .u64 ((now:Nat):Int)]) Tryz.func38 rfl Tryz.ntmps38 rfl rfl ?_
 refine W_sr ?_
 refine W_assign rfl rfl ?_
 refine W_assign rfl rfl ?_
 refine W_nil (W_sr ?_)
 refine W_move rfl rfl ?_
 refine W_move rfl rfl ?_
 refine W_call (.cons rfl (.cons rfl .nil)) Tryz.call105 rfl (tNew_at (now:=now) hn) ?_
 rintro v H' ⟨tb,Ws,HT,rfl,hT,hWl,hfr,rfl⟩
 refine W_move rfl rfl ?_
 refine W_extract rfl rfl rfl ?_
 refine W_extract rfl rfl rfl ?_
 refine W_assign rfl rfl ?_
 refine W_assign rfl rfl ?_
 refine W_nil (W_seq (W_sr ?_))
 refine W_move rfl rfl ?_
 refine W_bin rfl rfl b_neq rfl ?_
 refine W_nil ?_
 refine W_condF rfl rfl ?_
 refine W_skip (W_sr ?_)
 refine W_move rfl rfl ?_
 refine W_move rfl rfl ?_
 refine W_makeMap (kf:=(Value.int .i64)) rfl (fun b20 => ?_)
 refine W_build (l:=[.int .i64 ((n:Nat):Int),.pointer none,.bool false,.pointer none,.bool false,.pointer none,.bool false,.pointer none,.bool false,.pointer (some ⟨tb,0,none⟩),.pointer none,.pointer none,.pointer none,.pointer none,.map (some b20)]) ty134 pl134 (.cons rfl rfl rfl rfl rfl (.cons rfl rfl rfl rfl rfl (.cons rfl rfl rfl rfl rfl .nil))) rfl rfl rfl ?_
 refine W_box (l:=[.int .i64 ((n:Nat):Int),.pointer none,.bool false,.pointer none,.bool false,.pointer none,.bool false,.pointer none,.bool false,.pointer (some ⟨tb,0,none⟩),.pointer none,.pointer none,.pointer none,.pointer none,.map (some b20)]) rfl rfl rfl (fun b22 => ?_)
 refine W_assign rfl rfl ?_
 refine W_nil (W_sr ?_)
 refine W_move rfl rfl ?_
 refine W_move rfl rfl ?_
 refine W_call (.cons rfl .nil) Tryz.call106 rfl (wNew_L hn) ?_
 rintro v H' ⟨wb,HW,rfl,hW,rfl⟩
 refine W_move rfl rfl ?_
 refine W_extract rfl rfl rfl ?_
 refine W_extract rfl rfl rfl ?_
 refine W_nilCheck rfl rfl ?_
 refine W_fieldAddr rfl fld134_3 zd rfl ?_
 refine W_store (l':=[.int .i64 ((n:Nat):Int),.pointer none,.bool false,.pointer none,.bool false,.pointer none,.bool false,.pointer none,.bool false,.pointer (some ⟨tb,0,none⟩),.pointer (some ⟨wb,0,none⟩),.pointer none,.pointer none,.pointer none,.map (some b20)]) rfl rfl ty67 rfl rfl (b:=b22) zM rfl rfl zU ?_
 refine W_nil (W_sr ?_)
 refine W_move rfl rfl ?_
 refine W_move rfl rfl ?_
 refine W_call (.cons rfl .nil) Tryz.call107 rfl (gNew_L hn) ?_
 rintro v H' ⟨g1,H1_,rfl,hg1,rfl⟩
 refine W_move rfl rfl ?_
 refine W_extract rfl rfl rfl ?_
 refine W_extract rfl rfl rfl ?_
 refine W_nilCheck rfl rfl ?_
 refine W_fieldAddr rfl fld134_4 zd rfl ?_
 refine W_store (l':=[.int .i64 ((n:Nat):Int),.pointer none,.bool false,.pointer none,.bool false,.pointer none,.bool false,.pointer none,.bool false,.pointer (some ⟨tb,0,none⟩),.pointer (some ⟨wb,0,none⟩),.pointer (some ⟨g1,0,none⟩),.pointer none,.pointer none,.map (some b20)]) rfl rfl ty33 rfl rfl (b:=b22) zM rfl rfl zU ?_
 refine W_nil (W_sr ?_)
 refine W_move rfl rfl ?_
 refine W_move rfl rfl ?_
 refine W_call (.cons rfl .nil) Tryz.call107 rfl (gNew_L hn) ?_
 rintro v H' ⟨g2,H2_,rfl,hg2,rfl⟩
 refine W_move rfl rfl ?_
 refine W_extract rfl rfl rfl ?_
 refine W_extract rfl rfl rfl ?_
 refine W_nilCheck rfl rfl ?_
 refine W_fieldAddr rfl fld134_5 zd rfl ?_
 refine W_store (l':=[.int .i64 ((n:Nat):Int),.pointer none,.bool false,.pointer none,.bool false,.pointer none,.bool false,.pointer none,.bool false,.pointer (some ⟨tb,0,none⟩),.pointer (some ⟨wb,0,none⟩),.pointer (some ⟨g1,0,none⟩),.pointer (some ⟨g2,0,none⟩),.pointer none,.map (some b20)]) rfl rfl ty33 rfl rfl (b:=b22) zM rfl rfl zU ?_
 refine W_nil (W_sr ?_)
 refine W_move rfl rfl ?_
 refine W_call (.cons rfl .nil) Tryz.call108 rfl (refNew_L (top:=8) zd) ?_
 rintro v H' ⟨rb,HR,hR,rfl,rfl⟩
 refine W_move rfl rfl ?_
 refine W_extract rfl rfl rfl ?_
 refine W_extract rfl rfl rfl ?_
 refine W_nilCheck rfl rfl ?_
 refine W_fieldAddr rfl fld134_6 zd rfl ?_
 refine W_store (l':=[.int .i64 ((n:Nat):Int),.pointer none,.bool false,.pointer none,.bool false,.pointer none,.bool false,.pointer none,.bool false,.pointer (some ⟨tb,0,none⟩),.pointer (some ⟨wb,0,none⟩),.pointer (some ⟨g1,0,none⟩),.pointer (some ⟨g2,0,none⟩),.pointer (some ⟨rb,0,none⟩),.map (some b20)]) rfl rfl ty131 rfl rfl (b:=b22) zM rfl rfl zU ?_
 refine W_nil (W_sr ?_)
 refine W_move rfl rfl ?_
 refine W_assign rfl rfl ?_
 refine W_assign rfl rfl ?_
 refine W_nil ?_
 refine W_ret2m (H2:=(b22,.cells 134 15 [.int .i64 ((n:Nat):Int),.pointer none,.bool false,.pointer none,.bool false,.pointer none,.bool false,.pointer none,.bool false,.pointer (some ⟨tb,0,none⟩),.pointer (some ⟨wb,0,none⟩),.pointer (some ⟨g1,0,none⟩),.pointer (some ⟨g2,0,none⟩),.pointer (some ⟨rb,0,none⟩),.map (some b20)])::(HT++(HW++(H1_++(H2_++(HR++((b20,.obj (mapO (Value.int .i64) [] 0))::H))))))) Tryz.results38 rfl rfl (.nil _) zH ?_
 exact ⟨b22,Ws,(b22,.cells 134 15 [.int .i64 ((n:Nat):Int),.pointer none,.bool false,.pointer none,.bool false,.pointer none,.bool false,.pointer none,.bool false,.pointer (some ⟨tb,0,none⟩),.pointer (some ⟨wb,0,none⟩),.pointer (some ⟨g1,0,none⟩),.pointer (some ⟨g2,0,none⟩),.pointer (some ⟨rb,0,none⟩),.map (some b20)])::(HT++(HW++(H1_++(H2_++(HR++([(b20,.obj (mapO (Value.int .i64) [] 0))]++([[],[],[],[]]:List Heap).flatten)))))),rfl,.mk (F:=lf0 n Ws) hT ((tok0 hnow hfr).up (Nat.zero_le _)) hW hg1 (gr0_ok hn) hg2 (gr0_ok hn) hR us0 (.mk (E:=[]) (MapOk.nil 0) rfl) (ms0 8),hWl,hfr,by simp only [List.cons_append,List.append_assoc]; rfl⟩
theorem lwrong_nil {z p:Int}:Pure Tryz.prog (fun _ => True) 72 [.pointer none,.int .i64 z,.int .i64 p] (.int .i64 6):=by
 intro w0 H hT
 refine L_enter Tryz.func72 rfl Tryz.ntmps72 rfl rfl ?_
 refine W_sr ?_
 refine W_assign rfl rfl ?_
 refine W_nil (W_seq ?_)
 refine W_block (W_sr ?_)
 refine W_move rfl rfl ?_
 refine W_x (X_ptrNil rfl rfl ty23) (fun _ h => by cases h) rfl ?_
 refine W_assign rfl rfl ?_
 refine W_nil ?_
 refine W_condT rfl rfl ?_
 refine W_sr ?_
 refine W_assign rfl rfl ?_
 refine W_nil ?_
 refine W_ret1m (H2:=H) Tryz.results72 rfl (.nil _) zH ?_
 exact ⟨rfl,rfl⟩
theorem UsOk.cnt {R:List (Int × Cnt)} (h:UsOk R):∀ p ∈ R,0≤p.2.n∧p.2.n≤65535:=fun p hp => by have:=h.rng p hp; omega
theorem getR_mem {R:List (Int × Cnt)} {k:Int} {c:Cnt} (h:getR R k=some c):(k,c) ∈ R:=by
 unfold getR at h
 obtain ⟨q,hq,rfl⟩:=Option.map_eq_some_iff.1 h
 have h1:k=q.1:=by simpa using List.find?_some hq
 subst h1
 exact List.mem_of_find?_eq_some hq
theorem setR_keys (R:List (Int × Cnt)) (k:Int) (c:Cnt):(setR R k c).map (·.1)=R.map (·.1):=by
 unfold setR; rw [List.map_map]
 exact List.map_congr_left fun q _ => by show (if k=q.1 then (q.1,c) else q).1=q.1; split <;> rfl
theorem UsOk.setc {R:List (Int × Cnt)} (h:UsOk R) {k:Int} {c:Cnt} (hc:1≤c.n∧c.n≤8∧c.top=8):UsOk (setR R k c):=⟨fun p hp => by
 obtain ⟨q,hq,rfl⟩:=List.mem_map.1 hp
 have:=h.rng q hq
 show 1≤(if k=q.1 then (q.1,c) else q).2.n∧_
 split
 ·exact ⟨hc.1,hc.2.1,hc.2.2,this.2.2.2⟩
 ·exact this,by rw [setR_keys]; exact h.nd⟩
theorem UsOk.drop {R:List (Int × Cnt)} (h:UsOk R) (k:Int):UsOk (dropR R k).1:=by
 unfold dropR
 cases hg:getR R k with
 | none => exact h
 | some c =>
  have hc:=h.rng _ (getR_mem hg)
  dsimp only at hc ⊢
  split
  ·exact ⟨fun p hp => h.rng p (List.mem_filter.1 hp).1,h.nd.sublist (List.filter_sublist.map _)⟩
  ·rename_i hl
   refine h.setc ?_
   unfold putC_ at hl ⊢
   split
   ·omega
   ·split
    ·exact ⟨hc.1,hc.2.1,hc.2.2.1⟩
    ·rename_i c0 c1
     rw [if_neg c0,if_neg c1] at hl
     simp at hl
     exact ⟨by show 1≤c.n - 1; omega,by show c.n - 1≤8; omega,hc.2.2.1⟩
theorem WorkH.prog {w0:World} {H HB:Heap} {wb n:Nat} {Q Rs:List (Int × Int)} {As:List Wone} {on:List Int} (h:WorkH wb n Q Rs As on HB) (hs:∀ p ∈ HB,p ∈ H) {id:Int}:PureAt Tryz.prog w0 H 73 [.pointer (some ⟨wb,0,none⟩),.int .i64 id] (.tuple #[.int .i64 (max ((ofW As id).prog - 1) 0),.bool (decide (0 < (ofW As id).prog))]):=by
 cases h with
 | mk hP hA hn => exact wProg_q hA (hs _ List.mem_cons_self)
attribute [local irreducible] shutsA
def dyPut (dy:List (Int × Hd)) (z:Int) (h:Hd):List (Int × Hd):=if dy.any (fun p => decide (z=p.1))=true then dy.map (fun p => if z=p.1 then (p.1,h) else p) else dy++[(z,h)]
def callG (G:Gr) (n:Nat) (z:Nat):Gr:=match G.Q[z % n]? with
 | some q => { G with Q:=G.Q.set (z % n) (addC q (z:Int)) }
 | none => G
def dieF (F:Lf) (z:Nat) (h:Hd):Lf:={ F with
 Ws:=(shutsA F.Ws F.Qt F.At [(z:Int)]).1,Qt:=(shutsA F.Ws F.Qt F.At [(z:Int)]).2.1,At:=(shutsA F.Ws F.Qt F.At [(z:Int)]).2.2.1,
 Qw:=delQ F.Qw (z:Int),Aw:=F.Aw.set z { ofW F.Aw (z:Int) with shut:=true },dy:=dyPut F.dy (z:Int) h,tr:=callG F.tr F.n z }
theorem GrOk.call {n:Nat} {G:Gr} (h:GrOk n G) (z:Nat):GrOk n (callG G n z):=by
 unfold callG
 split
 ·exact ⟨h.sok,h.n,h.left,h.last,h.beg,h.st⟩
 ·exact h
theorem dy_has (E:List Dye) (z:Int):mHas (E.map Dye.ent) z=(E.map Dye.p).any (fun p => decide (z=p.1)):=by
 unfold mHas
 rw [List.any_map,List.any_map]; rfl
theorem dy_put (E:List Dye) (cl:Nat) (z:Int) (h:Hd):∃ E':List Dye,mPut (E.map Dye.ent) cl z (.agg (List.toArray (hdC h)))=E'.map Dye.ent∧E'.map Dye.p=dyPut (E.map Dye.p) z h:=by
 unfold mPut dyPut
 rw [dy_has]
 cases hh:(E.map Dye.p).any (fun p => decide (z=p.1)) with
 | true =>
  rw [if_pos rfl,if_pos rfl]
  refine ⟨E.map (fun e => if z=e.key then { e with h:=h } else e),?_,?_⟩
  ·rw [List.map_map,List.map_map]
   exact List.map_congr_left fun e _ => by show (if z=e.key then _ else _)=Dye.ent (if z=e.key then _ else e); split <;> rfl
  ·rw [List.map_map,List.map_map]
   exact List.map_congr_left fun e _ => by show Dye.p (if z=e.key then _ else e)=(if z=e.key then _ else _); split <;> rfl
 | false =>
  rw [if_neg (by decide),if_neg (by decide)]
  exact ⟨E++[⟨z,h,cl⟩],by rw [List.map_append]; rfl,by rw [List.map_append]; rfl⟩
theorem WorkH.shut {w0:World} {H HB:Heap} {wb n:Nat} {Q Rs:List (Int × Int)} {As:List Wone} {on:List Int} (h:WorkH wb n Q Rs As on HB) {z:Nat} (hz:z < 256) {ad:Option Addr} {cap:Nat} (hrow:∀ HZ:Heap,Holds w0 (HZ++H) ad [.int .i64 (z:Int)]):LCalls Tryz.prog w0 151 #[.pointer (some ⟨wb,0,none⟩),.slice ad 1 cap] (HB++H) (fun v H' => ∃ HB',WorkH wb n (delQ Q (z:Int)) Rs (As.set z { ofW As (z:Int) with shut:=true }) on HB'∧(∃ m,v=.int .i64 m)∧H'=HB'++H):=by
 cases h with
 | @mk pb HP hP hA hn =>
  obtain ⟨o,ho⟩:=hA.at (i:=z) hz
  rw [ofW_at hz ho]
  refine (wShut_at (H:=H) hP hn ho hz (hrow [])).mono ?_
  rintro v H' ⟨HP2,hP2,hv,rfl⟩
  exact ⟨_,.mk hP2 (hA.set z (o:={ o with shut:=true }) (hA.rng o (List.mem_of_getElem? ho))) hn,hv,rfl⟩
theorem GrH.len {gb n:Nat} {G:Gr} {HG:Heap} (h:GrH gb n G HG):G.Q.length=n:=by
 cases h with
 | mk hS hL => exact hL.facts.1
theorem GrH.call {w0:World} {H HG:Heap} {gb n:Nat} {G:Gr} (hG:GrH gb n G HG) (hok:GrOk n G) {z:Nat} {ad:Option Addr} {cap:Nat} (hrow:∀ HZ:Heap,Holds w0 (HZ++H) ad [.int .i64 (z:Int)]):LCalls Tryz.prog w0 70 #[.pointer (some ⟨gb,0,none⟩),.int .i64 ((z % n:Nat):Int),.slice ad 1 cap] (HG++H) (fun v H' => ∃ HG',GrH gb n (callG G n z) HG'∧(∃ m,v=.int .i64 m)∧H'=HG'++H):=by
 have hk:z % n < n:=Nat.mod_lt _ hok.n.1
 obtain ⟨q,hq⟩:∃ q,G.Q[z % n]?=some q:=⟨_,List.getElem?_eq_getElem (by rw [hG.len]; exact hk)⟩
 refine (gCall_at (H:=H) hG hok hk hq hrow).mono ?_
 rintro v H' ⟨HG',hG',rfl,rfl⟩
 have e:callG G n z={ G with Q:=G.Q.set (z % n) (addC q (z:Int)) }:=by unfold callG; rw [hq]
 rw [e]
 exact ⟨HG',hG',⟨_,rfl⟩,rfl⟩
theorem LifeH.die {w0:World} {H:Heap} {HF:Heap} {lb T:Nat} {F:Lf} (hF:LifeH lb T F HF) {i s z:Nat} {h:Hd} (hi:i < 4) (hs:s < 16) (hsl:h.slot=(s:Int)) (hz:z=16 * i+s) :LCalls Tryz.prog w0 62 #[.pointer (some ⟨lb,0,none⟩),.int .i64 (i:Int),.agg (List.toArray (hdC h))] (HF++H) (fun v H' => ∃ HF',LifeH lb T (dieF F z h) HF'∧v=.tuple #[]∧H'=HF'++H):=by
 cases hF with
 | @mk tb wb g1 g2 rb db M HT HW H1 H2 HR HD HM hT hO hW h1 o1 h2 o2 hR hU hD hM =>
 cases hD with
 | @mk E cl hok hdy =>
 have e0:((lb,.cells 134 15 (lfRow F.n M tb wb g1 g2 rb db))::(HT++(HW++(H1++(H2++(HR++([(db,.obj (mapO (Value.int .i64) ((E).map Dye.ent) cl))]++HM.flatten)))))))++H=(lb,.cells 134 15 (lfRow F.n M tb wb g1 g2 rb db))::(HT++(HW++(H1++(H2++(HR++((db,.obj (mapO (Value.int .i64) ((E).map Dye.ent) cl))::(HM.flatten++H))))))):=by simp only [List.cons_append,List.append_assoc,List.nil_append]
 rw [e0]
 obtain ⟨E2,hE2,hp2⟩:=dy_put E cl ((z:Nat):Int) h
 obtain ⟨cl2,hcl2⟩:∃ cl2,cl2=mClk (E.map Dye.ent) cl ((z:Nat):Int):=⟨_,rfl⟩
 have hok2:=hok.put ((z:Nat):Int) (.agg (List.toArray (hdC h)))
 rw [hE2,← hcl2] at hok2
 refine L_enter (l:=[.pointer (some ⟨lb,0,none⟩),.int .i64 (i:Int),.agg (List.toArray (hdC h))]) Tryz.func62 rfl Tryz.ntmps62 rfl rfl ?_
 refine W_sr ?_
 refine W_box (l:=hdC h) rfl rfl rfl (fun b5 => ?_)
 refine W_nil (W_sr ?_)
 refine W_move rfl rfl ?_
 refine W_bin rfl rfl (b_mul (m:=((16 * i:Nat):Int)) (by rw [i64w (by omega)]; omega)) rfl ?_
 refine W_fieldAddr rfl fld40_0 zd rfl ?_
 refine W_load (v:=.int .i64 h.slot) rfl ty3 rfl (Cell.own (b:=b5) zM rfl) rfl ?_
 refine W_bin rfl rfl (b_add (m:=((z:Nat):Int)) (by rw [hsl,i64w (by omega)]; omega)) rfl ?_
 refine W_assign rfl rfl ?_
 refine W_nil (W_sr ?_)
 refine W_move rfl rfl ?_
 refine W_nilCheck rfl rfl ?_
 refine W_fieldAddr rfl fld134_2 zd rfl ?_
 refine W_load (v:=.pointer (some ⟨tb,0,none⟩)) rfl ty55 rfl (Cell.own (b:=lb) zM (lf_tl (j:=0) hM.m4)) rfl ?_
 refine W_move rfl rfl ?_
 refine W_buildSlice (l:=[.int .i64 ((z:Nat):Int)]) ty63 ty3 (.cons rfl rfl rfl rfl rfl .nil) rfl rfl rfl rfl rfl rfl rfl (fun b17 => ?_)
 refine W_call (.cons rfl (.cons rfl .nil)) Tryz.call150 rfl ((Shut_L hT hO (ids:=[((z:Nat):Int)]) (ad:=some ⟨b17,0,none⟩) (cap:=1) (by show 1≤1000000; decide) (Holds.own (b:=b17) zM) (H:=(b17,.cells 3 1 [.int .i64 ((z:Nat):Int)])::(b5,.cells 40 2 (hdC h))::(lb,.cells 134 15 (lfRow F.n M tb wb g1 g2 rb db))::(HW++(H1++(H2++(HR++((db,.obj (mapO (Value.int .i64) ((E).map Dye.ent) cl))::(HM.flatten++H)))))))).hsub zH) ?_
 rintro v H' ⟨HT2,hT2,hO2,rfl,rfl⟩
 refine W_nil (W_sr ?_)
 refine W_move rfl rfl ?_
 refine W_nilCheck rfl rfl ?_
 refine W_fieldAddr rfl fld134_3 zd rfl ?_
 refine W_load (v:=.pointer (some ⟨wb,0,none⟩)) rfl ty67 rfl (Cell.own (b:=lb) zM (lf_tl (j:=1) hM.m4)) rfl ?_
 refine W_move rfl rfl ?_
 refine W_buildSlice (l:=[.int .i64 ((z:Nat):Int)]) ty63 ty3 (.cons rfl rfl rfl rfl rfl .nil) rfl rfl rfl rfl rfl rfl rfl (fun b24 => ?_)
 refine W_call (.cons rfl (.cons rfl .nil)) Tryz.call151 rfl ((hW.shut (z:=z) zO (fun HZ => Holds.own (b:=b24) (List.mem_append_right _ List.mem_cons_self)) (cap:=1) (H:=(b24,.cells 3 1 [.int .i64 ((z:Nat):Int)])::(b5,.cells 40 2 (hdC h))::(lb,.cells 134 15 (lfRow F.n M tb wb g1 g2 rb db))::(HT2++(H1++(H2++(HR++((db,.obj (mapO (Value.int .i64) ((E).map Dye.ent) cl))::(HM.flatten++H)))))))).hsub zH) ?_
 rintro v H' ⟨HW2,hW2,⟨m2,rfl⟩,rfl⟩
 refine W_nil (W_seq ?_)
 refine W_anyC [(b5,.cells 40 2 (hdC h)),(lb,.cells 134 15 (lfRow F.n M tb wb g1 g2 rb db))] zk ?_
 refine WC_take 0 rfl zK zK zK rfl rfl (X_move rfl) rfl ?_
 refine WC_take 1 rfl zK zK zK rfl rfl (X_nilCheck rfl) rfl ?_
 refine WC_take 2 rfl zK zK zK rfl rfl (X_fieldAddr rfl fld134_7 zd) rfl ?_
 refine WC_take 3 rfl zK zK zK rfl rfl (X_load (v:=.map (some db)) rfl ty132 rfl (Cell.own (b:=lb) zM (lf_tl (j:=5) hM.m4))) rfl ?_
 refine WC_take 4 rfl zK zK zK rfl rfl (X_move rfl) rfl ?_
 refine WC_take 5 rfl zK zK zK rfl rfl (X_loadB (vs:=hdC h) rfl ty40 rfl (b:=b5) zM rfl rfl) rfl ?_
 refine WC_one 6 zH zK rfl rfl ?_
 refine W_mapUpdate (a:=((z:Nat):Int)) (v:=.agg (List.toArray (hdC h))) (l:=E.map Dye.ent) (cl:=cl) (kf:=(Value.int .i64)) (b:=db) rfl rfl rfl kkI ty132 hok zU ?_
 refine W_nil ?_
 refine WC_goal ?_
 refine WC_done zH zK ?_
 rw [hE2,← hcl2]
 refine W_anyC [(lb,.cells 134 15 (lfRow F.n M tb wb g1 g2 rb db))] zk ?_
 refine WC_take 0 rfl zK zK zK rfl rfl (X_move rfl) rfl ?_
 refine WC_take 1 rfl zK zK zK rfl rfl (X_nilCheck rfl) rfl ?_
 refine WC_take 2 rfl zK zK zK rfl rfl (X_fieldAddr rfl fld134_4 zd) rfl ?_
 refine WC_take 3 rfl zK zK zK rfl rfl (X_load (v:=.pointer (some ⟨g1,0,none⟩)) rfl ty33 rfl (Cell.own (b:=lb) zM (lf_tl (j:=2) hM.m4))) rfl ?_
 refine WC_take 4 rfl zK zK zK rfl rfl (X_move rfl) rfl ?_
 refine WC_take 5 rfl zK zK zK rfl rfl (X_move rfl) rfl ?_
 refine WC_take 6 rfl zK zK zK rfl rfl (X_nilCheck rfl) rfl ?_
 refine WC_take 7 rfl zK zK zK rfl rfl (X_fieldAddr rfl fld134_0 zd) rfl ?_
 refine WC_take 8 rfl zK zK zK rfl rfl (X_load (v:=.int .i64 ((F.n:Nat):Int)) rfl ty3 rfl (Cell.own (b:=lb) zM rfl)) rfl ?_
 refine WC_take 9 rfl zK zK zK rfl rfl (X_bin rfl rfl (b_rem (by have:=o1.n; omega) (m:=((z % F.n:Nat):Int)) (tmNA z F.n))) rfl ?_
 refine WC_take 10 rfl zK zK zK rfl rfl (X_move rfl) rfl ?_
 refine WC_one 11 zH zK rfl rfl ?_
 refine W_buildSlice (l:=[.int .i64 ((z:Nat):Int)]) ty63 ty3 (.cons rfl rfl rfl rfl rfl .nil) rfl rfl rfl rfl rfl rfl rfl (fun b43 => ?_)
 refine W_nil ?_
 refine WC_goal ?_
 refine WC_one 12 zH zK rfl rfl ?_
 refine W_call (.cons rfl (.cons rfl (.cons rfl .nil))) Tryz.call70 rfl ((h1.call o1 (z:=z) (fun HZ => Holds.own (b:=b43) (List.mem_append_right _ List.mem_cons_self)) (cap:=1) (H:=(b43,.cells 3 1 [.int .i64 ((z:Nat):Int)])::(b5,.cells 40 2 (hdC h))::(lb,.cells 134 15 (lfRow F.n M tb wb g1 g2 rb db))::(HT2++(HW2++(H2++(HR++((db,.obj (mapO (Value.int .i64) ((E2).map Dye.ent) cl2))::(HM.flatten++H)))))))).hsub zH) ?_
 rintro v H' ⟨H12,h12,⟨m3,rfl⟩,rfl⟩
 refine W_nil ?_
 refine WC_goal ?_
 refine WC_done zH zK ?_
 refine W_end0m (H2:=(lb,.cells 134 15 (lfRow F.n M tb wb g1 g2 rb db))::(HT2++(HW2++(H12++(H2++(HR++((db,.obj (mapO (Value.int .i64) ((E2).map Dye.ent) cl2))::(HM.flatten++H)))))))) Tryz.results62 (.nil _) zH ?_
 have eF:dieF F z h={ F with Ws:=(shutsA F.Ws F.Qt F.At [(z:Int)]).1,Qt:=(shutsA F.Ws F.Qt F.At [(z:Int)]).2.1,At:=(shutsA F.Ws F.Qt F.At [(z:Int)]).2.2.1,Qw:=delQ F.Qw (z:Int),Aw:=F.Aw.set z { ofW F.Aw (z:Int) with shut:=true },dy:=dyPut F.dy (z:Int) h,tr:=callG F.tr F.n z }:=by unfold dieF; rfl
 rw [eF]
 exact ⟨(lb,.cells 134 15 (lfRow F.n M tb wb g1 g2 rb db))::(HT2++(HW2++(H12++(H2++(HR++([(db,.obj (mapO (Value.int .i64) ((E2).map Dye.ent) cl2))]++HM.flatten)))))),.mk (F:={ F with Ws:=(shutsA F.Ws F.Qt F.At [(z:Int)]).1,Qt:=(shutsA F.Ws F.Qt F.At [(z:Int)]).2.1,At:=(shutsA F.Ws F.Qt F.At [(z:Int)]).2.2.1,Qw:=delQ F.Qw (z:Int),Aw:=F.Aw.set z { ofW F.Aw (z:Int) with shut:=true },dy:=dyPut F.dy (z:Int) h,tr:=callG F.tr F.n z }) hT2 hO2 hW2 h12 (o1.call _) h2 o2 hR hU (.mk hok2 (by rw [hp2,hdy])) hM,rfl,by simp only [List.cons_append,List.append_assoc,List.nil_append]⟩
def mapF (F:Lf) (m:Int):Option (Xm × Bool):=if 0≤m∧m < 4 then (F.ms[m.toNat]?).getD none else none
theorem mapF_at {F:Lf} {i:Nat} {y:Option (Xm × Bool)} (hi:i < 4) (h:F.ms[i]?=some y):mapF F (i:Int)=y:=by
 unfold mapF; rw [if_pos (by omega),Int.toNat_natCast,h]; rfl
theorem MsOk.ways {T:Nat} {F:Lf} {M:List (Option Nat × Bool)} {HM:List Heap} (h:MsOk T M F.ms HM) (m:Int):(mapF F m=none∧mptV M m=.pointer none)∨∃ (i mb:Nat) (x:Xm) (b:Bool) (X:Heap),m=(i:Int)∧i < 4∧M[i]?=some (some mb,b)∧F.ms[i]?=some (some (x,b))∧HM[i]?=some X∧XmH mb T x X∧mapF F m=some (x,b)∧mptV M m=.pointer (some ⟨mb,0,none⟩):=by
 have hm4:=h.m4; have hs4:=h.s4; have hh4:=h.h4
 by_cases hr:0≤m∧m < 4
 ·obtain ⟨i,rfl⟩:∃ i:Nat,m=(i:Int):=⟨m.toNat,by omega⟩
  have hi:i < 4:=by omega
  obtain ⟨c,e1⟩:∃ c,M[i]?=some c:=⟨_,List.getElem?_eq_getElem zO⟩
  obtain ⟨y,e2⟩:∃ y,F.ms[i]?=some y:=⟨_,List.getElem?_eq_getElem zO⟩
  obtain ⟨X,e3⟩:∃ X,HM[i]?=some X:=⟨_,List.getElem?_eq_getElem zO⟩
  have h5:=h.at_ i c y X e1 e2 e3
  cases h5 with
  | none => exact .inl ⟨mapF_at hi e2,by rw [mptV_at hi e1]; rfl⟩
  | @some mb x b X hx => exact .inr ⟨i,mb,x,b,X,rfl,hi,e1,e2,e3,hx,mapF_at hi e2,by rw [mptV_at hi e1]; rfl⟩
 ·exact .inl ⟨if_neg hr,mptV_out hr⟩
def numF (F:Lf) (m:Int) (h:Hd):Int × Int:=match mapF F m with
 | none => (0,4)
 | some (x,_) => if (x.key h).2=0 then (16 * m+h.slot,0) else (0,(x.key h).2)
theorem errA_rng {L:List Slt} {h:Hd} (he:errA L h=0):0≤h.slot∧h.slot < (L.length:Int):=by
 unfold errA at he
 by_cases c:h.slot < 0∨(L.length:Int)≤h.slot
 ·rw [if_pos c] at he; cases he
 ·omega
theorem Xm.Ok.len16 {x:Xm} (h:x.Ok):x.L.length≤16:=by rw [h.len]; have:=h.ent; omega
theorem lnum1_L {w0:World} {H:Heap} {mb b5 b4 b8 T i:Nat} {h:Hd} {x:Xm} {X:Heap} (hi4:i < 4) (hX:XmH mb T x X) (hs:∀ p ∈ X,p ∈ H) :LCalls Tryz.prog w0 65 #[.pointer (some ⟨mb,0,none⟩),.pointer (some ⟨b5,0,none⟩),.pointer (some ⟨b4,0,none⟩),.pointer (some ⟨b8,0,none⟩)] ((b5,.cells 40 2 (hdC h))::(b4,.cells 3 1 [.int .i64 (i:Int)])::(b8,.cells 3 1 [.int .i64 0])::H) (fun v H' => v=.int .i64 (x.key h).2∧H'=(b5,.cells 40 2 (hdC h))::(b4,.cells 3 1 [.int .i64 (i:Int)])::(b8,.cells 3 1 [.int .i64 (if (x.key h).2=0 then 16 * (i:Int)+h.slot else 0)])::H):=by
 refine L_enter (l:=[.pointer (some ⟨mb,0,none⟩),.pointer (some ⟨b5,0,none⟩),.pointer (some ⟨b4,0,none⟩),.pointer (some ⟨b8,0,none⟩)]) Tryz.func65 rfl Tryz.ntmps65 rfl rfl ?_
 refine W_sr ?_
 refine W_assign rfl rfl ?_
 refine W_nil (W_sr ?_)
 refine W_move rfl rfl ?_
 refine W_loadB (vs:=hdC h) rfl ty40 rfl (b:=b5) zM rfl rfl rfl ?_
 refine W_callq (.cons rfl (.cons rfl .nil)) Tryz.call66 rfl (hX.key (fun p hp => List.mem_cons_of_mem _ (List.mem_cons_of_mem _ (List.mem_cons_of_mem _ (hs p hp)))) (h:=h)) ?_
 refine W_move rfl rfl ?_
 refine W_extract rfl rfl rfl ?_
 refine W_extract rfl rfl rfl ?_
 refine W_assign rfl rfl ?_
 refine W_assign rfl rfl ?_
 refine W_nil (W_seq (W_sr ?_))
 refine W_move rfl rfl ?_
 refine W_bin rfl rfl b_eql rfl ?_
 refine W_nil ?_
 refine W_condPS (p:=(x.key h).2=0) rfl (by simp) (fun q0 => ?_) (fun q0 => ?_)
 ·skip
  refine W_region ?_
  refine W_load (v:=.int .i64 (i:Int)) rfl ty3 rfl (Cell.own (b:=b4) zM rfl) rfl ?_
  refine W_bin rfl rfl (b_mul (m:=16 * (i:Int)) (by rw [i64w (by omega)]; omega)) rfl ?_
  refine W_fieldAddr rfl fld40_0 zd rfl ?_
  have hsl:=errA_rng (L:=x.L) (h:=h) q0
  have hl16:=hX.ok.len16
  refine W_load (v:=.int .i64 h.slot) rfl ty3 rfl (Cell.own (b:=b5) zM rfl) rfl ?_
  refine W_bin rfl rfl (b_add (m:=16 * (i:Int)+h.slot) (i64w zO)) rfl ?_
  refine W_store (l':=[.int .i64 (16 * (i:Int)+h.slot)]) rfl rfl ty3 rfl rfl (b:=b8) zM rfl rfl zU ?_
  refine W_nil (W_sr ?_)
  refine W_move rfl rfl ?_
  refine W_assign rfl rfl ?_
  refine W_nil ?_
  refine W_ret1m (H2:=(b5,.cells 40 2 (hdC h))::(b4,.cells 3 1 [.int .i64 (i:Int)])::(b8,.cells 3 1 [.int .i64 (16 * (i:Int)+h.slot)])::H) Tryz.results65 rfl (.nil _) zH ?_
  rw [if_pos q0]
  exact ⟨rfl,rfl⟩
 ·skip
  refine W_skip (W_sr ?_)
  refine W_move rfl rfl ?_
  refine W_assign rfl rfl ?_
  refine W_nil ?_
  refine W_ret1m (H2:=(b5,.cells 40 2 (hdC h))::(b4,.cells 3 1 [.int .i64 (i:Int)])::(b8,.cells 3 1 [.int .i64 0])::H) Tryz.results65 rfl (.nil _) zH ?_
  rw [if_neg q0]
  exact ⟨rfl,rfl⟩
theorem memF {a:Nat × Blk} {X1 X2 X3 X4 X5 X6:Heap} {HM:List Heap} {i:Nat} {X H:Heap} (hX0:HM[i]?=some X) (hs:∀ p ∈ a::(X1++(X2++(X3++(X4++(X5++(X6++HM.flatten)))))),p ∈ H):∀ p ∈ X,p ∈ H:=fun p hp => hs p (List.mem_cons_of_mem _ (List.mem_append_right _ (List.mem_append_right _ (List.mem_append_right _ (List.mem_append_right _ (List.mem_append_right _ (List.mem_append_right _ (memFlatten hX0 hp))))))))
theorem LifeH.number {w0:World} {H:Heap} {HF:Heap} {lb T:Nat} {F:Lf} (hF:LifeH lb T F HF) (hs:∀ p ∈ HF,p ∈ H) {m:Int} {h:Hd} :PureAt Tryz.prog w0 H 16 [.pointer (some ⟨lb,0,none⟩),.int .i64 m,.agg (List.toArray (hdC h))] (.tuple #[.int .i64 (numF F m h).1,.int .i64 (numF F m h).2]):=by
 cases hF with
 | @mk tb wb g1 g2 rb db M HT HW H1 H2 HR HD HM hT hO hW h1 o1 h2 o2 hR hU hD hM =>
 have hm:=hs _ List.mem_cons_self
 refine L_enter Tryz.func16 rfl Tryz.ntmps16 rfl rfl ?_
 refine W_sr ?_
 refine W_box (l:=[.int .i64 m]) rfl rfl rfl (fun b4 => ?_)
 refine W_box (l:=hdC h) rfl rfl rfl (fun b5 => ?_)
 refine W_assign rfl rfl ?_
 refine W_assign rfl rfl ?_
 refine W_nil (W_sr ?_)
 refine W_alloc (l:=[.int .i64 0]) ty3 rfl rfl (fun b8 => ?_)
 refine W_store (l':=[.int .i64 0]) rfl rfl ty3 rfl rfl (b:=b8) zM rfl rfl zU ?_
 refine W_nil (W_sr ?_)
 refine W_move rfl rfl ?_
 refine W_load (v:=.int .i64 m) rfl ty3 rfl (Cell.own (b:=b4) zM rfl) rfl ?_
 refine W_makeFunc .nil (.cons rfl (.cons rfl (.cons rfl .nil))) rfl ?_
 rcases hM.ways (F:=F) m with ⟨hmf,hmp⟩ | ⟨i,mb,x,b,X,rfl,hi4,hmc,hms,hX0,hX,hmf,hmp⟩
 ·skip
  refine W_callq (.cons rfl (.cons rfl (.cons rfl .nil))) Tryz.call59 rfl (lwith_no (n:=F.n) (lb:=lb) (tb:=tb) (wb:=wb) (g1:=g1) (g2:=g2) (rb:=rb) (db:=db) (M:=M) (by repeat (first | exact hm | exact List.mem_cons_self | apply List.mem_cons_of_mem | apply List.mem_append_right)) hM.m4 hmp) ?_
  refine W_assign rfl rfl ?_
  refine W_nil (W_sr ?_)
  refine W_load (v:=.int .i64 0) rfl ty3 rfl (Cell.own (b:=b8) zM rfl) rfl ?_
  refine W_move rfl rfl ?_
  refine W_assign rfl rfl ?_
  refine W_assign rfl rfl ?_
  refine W_nil ?_
  refine W_ret2m (H2:=H) Tryz.results16 rfl rfl (.nil _) zH ?_
  have e:numF F m h=(0,4):=by unfold numF; rw [hmf]
  rw [e]
  exact ⟨rfl,rfl⟩
 ·skip
  refine W_hsub (H':=(b5,.cells 40 2 (hdC h))::(b4,.cells 3 1 [.int .i64 (i:Int)])::(b8,.cells 3 1 [.int .i64 0])::H) zH ?_
  refine W_call (.cons rfl (.cons rfl (.cons rfl .nil))) Tryz.call59 rfl (lwith_in (n:=F.n) (lb:=lb) (tb:=tb) (wb:=wb) (g1:=g1) (g2:=g2) (rb:=rb) (db:=db) (M:=M) (fi:=65) (ca:=[.pointer (some ⟨b5,0,none⟩),.pointer (some ⟨b4,0,none⟩),.pointer (some ⟨b8,0,none⟩)]) (by repeat (first | exact hm | exact List.mem_cons_self | apply List.mem_cons_of_mem | apply List.mem_append_right)) hM.m4 Tryz.call65 hmp (lnum1_L (b5:=b5) (b4:=b4) (b8:=b8) (h:=h) (i:=i) hi4 hX (memF hX0 hs)) (by rintro v H2 ⟨e,_⟩; exact ⟨_,e⟩)) ?_
  rintro v H' ⟨rfl,rfl⟩
  refine W_assign rfl rfl ?_
  refine W_nil (W_sr ?_)
  refine W_load (v:=.int .i64 (if (x.key h).2=0 then 16 * (i:Int)+h.slot else 0)) rfl ty3 rfl (Cell.own (b:=b8) zM rfl) rfl ?_
  refine W_move rfl rfl ?_
  refine W_assign rfl rfl ?_
  refine W_assign rfl rfl ?_
  refine W_nil ?_
  refine W_ret2m (H2:=H) Tryz.results16 rfl rfl (.nil _) zH ?_
  have e:numF F (i:Int) h=(if (x.key h).2=0 then 16 * (i:Int)+h.slot else 0,(x.key h).2):=by
   unfold numF; rw [hmf]; dsimp only; split
   ·rename_i q; rw [q]
   ·rfl
  rw [e]
  exact ⟨rfl,rfl⟩
def dropX (F:Lf) (i:Nat) (x:Xm) (b:Bool) (k:Int):Lf × Int:=if (x.del k).2.2=0 then (dieF { F with ms:=F.ms.set i (some ((x.del k).1,b)) } (16 * i+(x.del k).2.1.slot.toNat) (x.del k).2.1,0) else ({ F with ms:=F.ms.set i (some ((x.del k).1,b)) },(x.del k).2.2)
def dropF (F:Lf) (m k:Int):Lf × Int:=match mapF F m with
 | none => (F,4)
 | some (x,b) => dropX F m.toNat x b k
theorem own_slot {x:Xm} (h:x.Ok) {k:Int} {g:Hd} (hf:fndC x.C k=some g):g.slot=((g.slot.toNat:Nat):Int)∧g.slot.toNat < 16:=by
 obtain ⟨i,s,e1,e2,_⟩:=h.own hf
 have:=(List.getElem?_eq_some_iff.1 e2).1
 have:=h.len16
 omega
theorem del_slot {x:Xm} (h:x.Ok) {k:Int} (he:(x.del k).2.2=0):(x.del k).2.1.slot=(((x.del k).2.1.slot.toNat:Nat):Int)∧(x.del k).2.1.slot.toNat < 16:=by
 unfold Xm.del at he ⊢
 by_cases c:x.kind=0
 ·rw [if_pos c] at he; cases he
 ·rw [if_neg c] at he ⊢
  cases hf:fndC x.C k with
  | none => rw [hf] at he; cases he
  | some g =>
   show (x.unlink k).2.slot=_∧(x.unlink k).2.slot.toNat < 16
   rw [show (x.unlink k).2=g by unfold Xm.unlink; rw [hf]; rfl]
   exact own_slot h hf
theorem put_slot {x:Xm} (h:x.Ok) {how k:Int} {ws:List Int} (ho:(x.put how k ws).2.1.out=true):(x.put how k ws).2.1.gone.slot=(((x.put how k ws).2.1.gone.slot.toNat:Nat):Int)∧(x.put how k ws).2.1.gone.slot.toNat < 16:=by
 unfold Xm.put at ho ⊢
 by_cases c1:(how < 0∨2 < how)∨x.words < ws.length
 ·rw [if_pos c1] at ho; cases ho
 ·rw [if_neg c1] at ho ⊢
  by_cases c2:x.closed=true
  ·rw [if_pos c2] at ho; cases ho
  ·rw [if_neg c2] at ho ⊢
   cases hf:fndC x.C k with
   | some g =>
    rw [hf] at ho; dsimp only at ho
    by_cases c3:how=1
    ·rw [if_pos c3] at ho; cases ho
    ·rw [if_neg c3] at ho; cases ho
   | none =>
    rw [hf] at ho; dsimp only at ho ⊢
    by_cases c3:x.refE how ≠ 0
    ·rw [if_pos c3] at ho; cases ho
    ·rw [if_neg c3] at ho ⊢
     by_cases c4:x.C.length=x.entries
     ·rw [if_pos c4]
      dsimp only
      have hk:=h.umem.1 (h.oldest c4)
      obtain ⟨g,hg⟩:∃ g,fndC x.C (x.used.headD 0)=some g:=by
       cases hz:fndC x.C (x.used.headD 0) with
       | some g => exact ⟨g,rfl⟩
       | none =>
        exfalso
        obtain ⟨p,hp,e⟩:=List.mem_map.1 hk
        unfold fndC at hz
        rw [Option.map_eq_none_iff,List.find?_eq_none] at hz
        exact hz p hp (by first | exact decide_eq_true e | exact decide_eq_true e.symm | simp [e])
      rw [show (x.unlink (x.used.headD 0)).2=g by unfold Xm.unlink; rw [hg]; rfl]
      exact own_slot h hg
     ·rw [if_neg c4] at ho; cases ho
theorem ldrop1_L {w0:World} {H:Heap} {lb T tb wb g1 g2 rb db i mb:Nat} {F:Lf} {M:List (Option Nat × Bool)} {HT HW H1 H2 HR HD:Heap} {HM:List Heap} (hT:TimerH tb F.n F.Ws F.Qt F.Rt F.At HT) (hO:TOk T F.Ws F.At) (hW:WorkH wb F.n F.Qw F.Rw F.Aw F.on HW) (h1:GrH g1 F.n F.tr H1) (o1:GrOk F.n F.tr) (h2:GrH g2 F.n F.cl H2) (o2:GrOk F.n F.cl) (hR:RefH rb 8 F.us HR) (hU:UsOk F.us) (hD:DyH db F.dy HD) (hM:MsOk T M F.ms HM) {x:Xm} {b:Bool} {X:Heap} (hi4:i < 4) (hmc:M[i]?=some (some mb,b)) (hX0:HM[i]?=some X) (hX:XmH mb T x X) {k:Int} {b3 b4 b5:Nat} :LCalls Tryz.prog w0 67 #[.pointer (some ⟨mb,0,none⟩),.pointer (some ⟨b5,0,none⟩),.pointer (some ⟨b3,0,none⟩),.pointer (some ⟨b4,0,none⟩)] ((b5,.cells 30 1 [.int .u64 k])::(b3,.cells 23 1 [.pointer (some ⟨lb,0,none⟩)])::(b4,.cells 3 1 [.int .i64 (i:Int)])::(lb,.cells 134 15 (lfRow F.n M tb wb g1 g2 rb db))::(HT++(HW++(H1++(H2++(HR++(HD++(HM.flatten++H)))))))) (fun v H' => ∃ HF',LifeH lb T (dropX F i x b k).1 HF'∧v=.int .i64 (dropX F i x b k).2∧H'=(b5,.cells 30 1 [.int .u64 k])::(b3,.cells 23 1 [.pointer (some ⟨lb,0,none⟩)])::(b4,.cells 3 1 [.int .i64 (i:Int)])::(HF'++H)):=by
 refine L_enter (l:=[.pointer (some ⟨mb,0,none⟩),.pointer (some ⟨b5,0,none⟩),.pointer (some ⟨b3,0,none⟩),.pointer (some ⟨b4,0,none⟩)]) Tryz.func67 rfl Tryz.ntmps67 rfl rfl ?_
 refine W_sr ?_
 refine W_assign rfl rfl ?_
 refine W_nil (W_sr ?_)
 refine W_move rfl rfl ?_
 refine W_load (v:=.int .u64 k) rfl ty30 rfl (Cell.own (b:=b5) zM rfl) rfl ?_
 refine W_hsub (H':=X++((b5,.cells 30 1 [.int .u64 k])::(b3,.cells 23 1 [.pointer (some ⟨lb,0,none⟩)])::(b4,.cells 3 1 [.int .i64 (i:Int)])::(lb,.cells 134 15 (lfRow F.n M tb wb g1 g2 rb db))::(HT++(HW++(H1++(H2++(HR++(HD++((HM.set i []).flatten++H))))))))) ((show HSub _ ((b5,.cells 30 1 [.int .u64 k])::(b3,.cells 23 1 [.pointer (some ⟨lb,0,none⟩)])::(b4,.cells 3 1 [.int .i64 (i:Int)])::(lb,.cells 134 15 (lfRow F.n M tb wb g1 g2 rb db))::(HT++(HW++(H1++(H2++(HR++(HD++(X++((HM.set i []).flatten++H))))))))) from .cons (.here _) (.cons (.here _) (.cons (.here _) (.cons (.here _) (.app (.here _) (.app (.here _) (.app (.here _) (.app (.here _) (.app (.here _) (.app (.here _) (flattenOut hX0))))))))))).trans zH) ?_
 refine W_call (.cons rfl (.cons rfl .nil)) Tryz.call68 rfl (hX.del (k:=k) (H:=(b5,.cells 30 1 [.int .u64 k])::(b3,.cells 23 1 [.pointer (some ⟨lb,0,none⟩)])::(b4,.cells 3 1 [.int .i64 (i:Int)])::(lb,.cells 134 15 (lfRow F.n M tb wb g1 g2 rb db))::(HT++(HW++(H1++(H2++(HR++(HD++((HM.set i []).flatten++H))))))))) ?_
 rintro v H' ⟨X2,hX2,rfl,rfl⟩
 refine W_hsub (H':=(b5,.cells 30 1 [.int .u64 k])::(b3,.cells 23 1 [.pointer (some ⟨lb,0,none⟩)])::(b4,.cells 3 1 [.int .i64 (i:Int)])::(lb,.cells 134 15 (lfRow F.n M tb wb g1 g2 rb db))::(HT++(HW++(H1++(H2++(HR++(HD++((HM.set i X2).flatten++H)))))))) ((show HSub _ ((b5,.cells 30 1 [.int .u64 k])::(b3,.cells 23 1 [.pointer (some ⟨lb,0,none⟩)])::(b4,.cells 3 1 [.int .i64 (i:Int)])::(lb,.cells 134 15 (lfRow F.n M tb wb g1 g2 rb db))::(HT++(HW++(H1++(H2++(HR++(HD++(X2++((HM.set i []).flatten++H))))))))) from zH).trans (.cons (.here _) (.cons (.here _) (.cons (.here _) (.cons (.here _) (.app (.here _) (.app (.here _) (.app (.here _) (.app (.here _) (.app (.here _) (.app (.here _) (flattenIn (by rw [hM.h4]; exact hi4))))))))))))) ?_
 have hM2:=(hM.up (Nat.le_refl T)).set (k:=i) (.some (b:=b) hX2)
 rw [show M.set i (some mb,b)=M from set_same hmc] at hM2
 have hF2:LifeH lb _ { F with ms:=F.ms.set i (some ((x.del k).1,b)) } ((lb,.cells 134 15 (lfRow F.n M tb wb g1 g2 rb db))::(HT++(HW++(H1++(H2++(HR++(HD++(HM.set i X2).flatten))))))):=.mk (F:={ F with ms:=F.ms.set i (some ((x.del k).1,b)) }) hT (hO.up (Nat.le_refl T)) hW h1 o1 h2 o2 hR hU hD hM2
 refine W_move rfl rfl ?_
 refine W_extract rfl rfl rfl ?_
 refine W_extract rfl rfl rfl ?_
 refine W_alloc (l:=hdC zHd) ty40 rfl rfl (fun b6 => ?_)
 refine W_storeA (l':=hdC (x.del k).2.1) rfl rfl ty40 rfl rfl (b:=b6) zM (by exact Nat.le_refl 2) rfl zU ?_
 refine W_assign rfl rfl ?_
 refine W_nil (W_seq (W_sr ?_))
 refine W_move rfl rfl ?_
 refine W_bin rfl rfl b_eql rfl ?_
 refine W_nil ?_
 refine W_condPS (p:=(x.del k).2.2=0) rfl (by simp) (fun q0 => ?_) (fun q0 => ?_)
 ·skip
  refine W_region ?_
  refine W_load (v:=.pointer (some ⟨lb,0,none⟩)) rfl ty23 rfl (Cell.own (b:=b3) zM rfl) rfl ?_
  refine W_load (v:=.int .i64 (i:Int)) rfl ty3 rfl (Cell.own (b:=b4) zM rfl) rfl ?_
  refine W_loadB (vs:=hdC (x.del k).2.1) rfl ty40 rfl (b:=b6) zM rfl rfl rfl ?_
  have hsl:=del_slot hX.ok q0
  refine W_hsub (H':=((lb,.cells 134 15 (lfRow F.n M tb wb g1 g2 rb db))::(HT++(HW++(H1++(H2++(HR++(HD++(HM.set i X2).flatten)))))))++((b6,.cells 40 2 (hdC (x.del k).2.1))::(b5,.cells 30 1 [.int .u64 k])::(b3,.cells 23 1 [.pointer (some ⟨lb,0,none⟩)])::(b4,.cells 3 1 [.int .i64 (i:Int)])::H)) (by simp only [List.cons_append,List.append_assoc]; first | exact hsubI | (repeat (first | with_reducible exact HSub.refl _ | refine HSub.cons zT ?_ | refine HSub.app zS ?_ | exact HSub.nil _ | exact HSub.refl _ | refine HSub.drop ?_ | refine HSub.dropS ?_))) ?_
  refine W_call (.cons rfl (.cons rfl (.cons rfl .nil))) Tryz.call62 rfl (hF2.die (i:=i) (s:=(x.del k).2.1.slot.toNat) (h:=(x.del k).2.1) hi4 hsl.2 hsl.1 rfl (H:=(b6,.cells 40 2 (hdC (x.del k).2.1))::(b5,.cells 30 1 [.int .u64 k])::(b3,.cells 23 1 [.pointer (some ⟨lb,0,none⟩)])::(b4,.cells 3 1 [.int .i64 (i:Int)])::H)) ?_
  rintro v H' ⟨HF3,hF3,rfl,rfl⟩
  refine W_nil (W_sr ?_)
  refine W_move rfl rfl ?_
  refine W_assign rfl rfl ?_
  refine W_nil ?_
  refine W_ret1m (H2:=(b5,.cells 30 1 [.int .u64 k])::(b3,.cells 23 1 [.pointer (some ⟨lb,0,none⟩)])::(b4,.cells 3 1 [.int .i64 (i:Int)])::(HF3++H)) Tryz.results67 rfl (.nil _) zH ?_
  have e:dropX F i x b k=(dieF { F with ms:=F.ms.set i (some ((x.del k).1,b)) } (16 * i+(x.del k).2.1.slot.toNat) (x.del k).2.1,0):=if_pos q0
  rw [e,q0]
  exact ⟨HF3,hF3,rfl,rfl⟩
 ·skip
  refine W_skip (W_sr ?_)
  refine W_move rfl rfl ?_
  refine W_assign rfl rfl ?_
  refine W_nil ?_
  refine W_ret1m (H2:=(b5,.cells 30 1 [.int .u64 k])::(b3,.cells 23 1 [.pointer (some ⟨lb,0,none⟩)])::(b4,.cells 3 1 [.int .i64 (i:Int)])::(lb,.cells 134 15 (lfRow F.n M tb wb g1 g2 rb db))::(HT++(HW++(H1++(H2++(HR++(HD++((HM.set i X2).flatten++H)))))))) Tryz.results67 rfl (.nil _) zH ?_
  have e:dropX F i x b k=({ F with ms:=F.ms.set i (some ((x.del k).1,b)) },(x.del k).2.2):=if_neg q0
  rw [e]
  exact ⟨_,hF2,rfl,by simp only [List.cons_append,List.append_assoc]⟩
theorem LifeH.drop {w0:World} {H:Heap} {HF:Heap} {lb T:Nat} {F:Lf} (hF:LifeH lb T F HF) {m k:Int} :LCalls Tryz.prog w0 17 #[.pointer (some ⟨lb,0,none⟩),.int .i64 m,.int .u64 k] (HF++H) (fun v H' => ∃ HF',LifeH lb T (dropF F m k).1 HF'∧v=.int .i64 (dropF F m k).2∧H'=HF'++H):=by
 cases hF with
 | @mk tb wb g1 g2 rb db M HT HW H1 H2 HR HD HM hT hO hW h1 o1 h2 o2 hR hU hD hM =>
 have e0:((lb,.cells 134 15 (lfRow F.n M tb wb g1 g2 rb db))::(HT++(HW++(H1++(H2++(HR++(HD++HM.flatten)))))))++H=(lb,.cells 134 15 (lfRow F.n M tb wb g1 g2 rb db))::(HT++(HW++(H1++(H2++(HR++(HD++(HM.flatten++H))))))):=by simp only [List.cons_append,List.append_assoc]
 rw [e0]
 refine L_enter (l:=[.pointer (some ⟨lb,0,none⟩),.int .i64 m,.int .u64 k]) Tryz.func17 rfl Tryz.ntmps17 rfl rfl ?_
 refine W_sr ?_
 refine W_box (l:=[.pointer (some ⟨lb,0,none⟩)]) rfl rfl rfl (fun b3 => ?_)
 refine W_box (l:=[.int .i64 m]) rfl rfl rfl (fun b4 => ?_)
 refine W_box (l:=[.int .u64 k]) rfl rfl rfl (fun b5 => ?_)
 refine W_assign rfl rfl ?_
 refine W_nil (W_sr ?_)
 refine W_load (v:=.pointer (some ⟨lb,0,none⟩)) rfl ty23 rfl (Cell.own (b:=b3) zM rfl) rfl ?_
 refine W_load (v:=.int .i64 m) rfl ty3 rfl (Cell.own (b:=b4) zM rfl) rfl ?_
 refine W_makeFunc .nil (.cons rfl (.cons rfl (.cons rfl .nil))) rfl ?_
 rcases hM.ways (F:=F) m with ⟨hmf,hmp⟩ | ⟨i,mb,x,b,X,rfl,hi4,hmc,hms,hX0,hX,hmf,hmp⟩
 ·skip
  refine W_callq (.cons rfl (.cons rfl (.cons rfl .nil))) Tryz.call59 rfl (lwith_no (n:=F.n) (lb:=lb) (tb:=tb) (wb:=wb) (g1:=g1) (g2:=g2) (rb:=rb) (db:=db) (M:=M) zM hM.m4 hmp) ?_
  refine W_assign rfl rfl ?_
  refine W_nil ?_
  refine W_ret1m (H2:=(lb,.cells 134 15 (lfRow F.n M tb wb g1 g2 rb db))::(HT++(HW++(H1++(H2++(HR++(HD++(HM.flatten++H)))))))) Tryz.results17 rfl (.nil _) zH ?_
  have e:dropF F m k=(F,4):=by unfold dropF; rw [hmf]
  rw [e]
  exact ⟨_,.mk hT hO hW h1 o1 h2 o2 hR hU hD hM,rfl,by simp only [List.cons_append,List.append_assoc]⟩
 ·skip
  refine W_hsub (H':=(b5,.cells 30 1 [.int .u64 k])::(b3,.cells 23 1 [.pointer (some ⟨lb,0,none⟩)])::(b4,.cells 3 1 [.int .i64 (i:Int)])::(lb,.cells 134 15 (lfRow F.n M tb wb g1 g2 rb db))::(HT++(HW++(H1++(H2++(HR++(HD++(HM.flatten++H)))))))) zH ?_
  refine W_call (.cons rfl (.cons rfl (.cons rfl .nil))) Tryz.call59 rfl (lwith_in (n:=F.n) (lb:=lb) (tb:=tb) (wb:=wb) (g1:=g1) (g2:=g2) (rb:=rb) (db:=db) (M:=M) (fi:=67) (ca:=[.pointer (some ⟨b5,0,none⟩),.pointer (some ⟨b3,0,none⟩),.pointer (some ⟨b4,0,none⟩)]) zM hM.m4 Tryz.call67 hmp (ldrop1_L (b5:=b5) (b3:=b3) (b4:=b4) (k:=k) hT hO hW h1 o1 h2 o2 hR hU hD hM hi4 hmc hX0 hX) (by rintro v H2 ⟨_,_,e,_⟩; exact ⟨_,e⟩)) ?_
  rintro v H' ⟨HF3,hF3,rfl,rfl⟩
  refine W_assign rfl rfl ?_
  refine W_nil ?_
  refine W_ret1m (H2:=HF3++H) Tryz.results17 rfl (.nil _) zH ?_
  have e:dropF F (i:Int) k=dropX F i x b k:=by unfold dropF; rw [hmf]; dsimp only; rw [Int.toNat_natCast]
  rw [e]
  exact ⟨HF3,hF3,rfl,rfl⟩
def putX (F:Lf) (i:Nat) (x:Xm) (b:Bool) (how k:Int) (ws:List Int):Lf × Hd × Int:=(if (x.put how k ws).2.1.out=true then dieF { F with ms:=F.ms.set i (some ((x.put how k ws).1,b)) } (16 * i+(x.put how k ws).2.1.gone.slot.toNat) (x.put how k ws).2.1.gone else { F with ms:=F.ms.set i (some ((x.put how k ws).1,b)) },(x.put how k ws).2.1.h,(x.put how k ws).2.2)
def putF (F:Lf) (m how k:Int) (ws:List Int):Lf × Hd × Int:=match mapF F m with
 | none => (F,zHd,4)
 | some (x,b) => putX F m.toNat x b how k ws
theorem lput1_L {w0:World} {H:Heap} {lb T tb wb g1 g2 rb db i mb:Nat} {F:Lf} {M:List (Option Nat × Bool)} {HT HW H1 H2 HR HD:Heap} {HM:List Heap} (hT:TimerH tb F.n F.Ws F.Qt F.Rt F.At HT) (hO:TOk T F.Ws F.At) (hW:WorkH wb F.n F.Qw F.Rw F.Aw F.on HW) (h1:GrH g1 F.n F.tr H1) (o1:GrOk F.n F.tr) (h2:GrH g2 F.n F.cl H2) (o2:GrOk F.n F.cl) (hR:RefH rb 8 F.us HR) (hU:UsOk F.us) (hD:DyH db F.dy HD) (hM:MsOk T M F.ms HM) {x:Xm} {b:Bool} {X:Heap} (hi4:i < 4) (hmc:M[i]?=some (some mb,b)) (hX0:HM[i]?=some X) (hX:XmH mb T x X) {how k:Int} {ws:List Int} {adw:Option Addr} {capw:Nat} (hTab:Tab w0) (hTl:T≤1000000) (hk:0≤k∧k < 18446744073709551616) (hrow:∀ HZ:Heap,Holds w0 (HZ++H) adw (ws.map (Value.int .u64))) {b5 b6 b7 b8 b9 b12:Nat} :LCalls Tryz.prog w0 60 #[.pointer (some ⟨mb,0,none⟩),.pointer (some ⟨b7,0,none⟩),.pointer (some ⟨b8,0,none⟩),.pointer (some ⟨b9,0,none⟩),.pointer (some ⟨b5,0,none⟩),.pointer (some ⟨b6,0,none⟩),.pointer (some ⟨b12,0,none⟩)] ((b7,.cells 3 1 [.int .i64 how])::(b8,.cells 30 1 [.int .u64 k])::(b9,.cells 84 1 [.slice adw ws.length capw])::(b5,.cells 23 1 [.pointer (some ⟨lb,0,none⟩)])::(b6,.cells 3 1 [.int .i64 (i:Int)])::(b12,.cells 40 2 (hdC zHd))::(lb,.cells 134 15 (lfRow F.n M tb wb g1 g2 rb db))::(HT++(HW++(H1++(H2++(HR++(HD++(HM.flatten++H)))))))) (fun v H' => ∃ HF',LifeH lb (T+2) (putX F i x b how k ws).1 HF'∧v=.int .i64 (putX F i x b how k ws).2.2∧H'=(b7,.cells 3 1 [.int .i64 how])::(b8,.cells 30 1 [.int .u64 k])::(b9,.cells 84 1 [.slice adw ws.length capw])::(b5,.cells 23 1 [.pointer (some ⟨lb,0,none⟩)])::(b6,.cells 3 1 [.int .i64 (i:Int)])::(b12,.cells 40 2 (hdC (putX F i x b how k ws).2.1))::(HF'++H)):=by
 refine L_enter (l:=[.pointer (some ⟨mb,0,none⟩),.pointer (some ⟨b7,0,none⟩),.pointer (some ⟨b8,0,none⟩),.pointer (some ⟨b9,0,none⟩),.pointer (some ⟨b5,0,none⟩),.pointer (some ⟨b6,0,none⟩),.pointer (some ⟨b12,0,none⟩)]) Tryz.func60 rfl Tryz.ntmps60 rfl rfl ?_
 refine W_sr ?_
 refine W_assign rfl rfl ?_
 refine W_nil (W_sr ?_)
 refine W_move rfl rfl ?_
 refine W_load (v:=.int .i64 how) rfl ty3 rfl (Cell.own (b:=b7) zM rfl) rfl ?_
 refine W_load (v:=.int .u64 k) rfl ty30 rfl (Cell.own (b:=b8) zM rfl) rfl ?_
 refine W_load (v:=.slice adw ws.length capw) rfl ty84 rfl (Cell.own (b:=b9) zM rfl) rfl ?_
 refine W_hsub (H':=X++((b7,.cells 3 1 [.int .i64 how])::(b8,.cells 30 1 [.int .u64 k])::(b9,.cells 84 1 [.slice adw ws.length capw])::(b5,.cells 23 1 [.pointer (some ⟨lb,0,none⟩)])::(b6,.cells 3 1 [.int .i64 (i:Int)])::(b12,.cells 40 2 (hdC zHd))::(lb,.cells 134 15 (lfRow F.n M tb wb g1 g2 rb db))::(HT++(HW++(H1++(H2++(HR++(HD++((HM.set i []).flatten++H))))))))) ((show HSub _ ((b7,.cells 3 1 [.int .i64 how])::(b8,.cells 30 1 [.int .u64 k])::(b9,.cells 84 1 [.slice adw ws.length capw])::(b5,.cells 23 1 [.pointer (some ⟨lb,0,none⟩)])::(b6,.cells 3 1 [.int .i64 (i:Int)])::(b12,.cells 40 2 (hdC zHd))::(lb,.cells 134 15 (lfRow F.n M tb wb g1 g2 rb db))::(HT++(HW++(H1++(H2++(HR++(HD++(X++((HM.set i []).flatten++H))))))))) from .cons (.here _) (.cons (.here _) (.cons (.here _) (.cons (.here _) (.cons (.here _) (.cons (.here _) (.cons (.here _) (.app (.here _) (.app (.here _) (.app (.here _) (.app (.here _) (.app (.here _) (.app (.here _) (flattenOut hX0)))))))))))))).trans zH) ?_
 refine W_call (.cons rfl (.cons rfl (.cons rfl (.cons rfl .nil)))) Tryz.call61 rfl (hX.put hTab hTl hk (by have:=hrow ((b7,.cells 3 1 [.int .i64 how])::(b8,.cells 30 1 [.int .u64 k])::(b9,.cells 84 1 [.slice adw ws.length capw])::(b5,.cells 23 1 [.pointer (some ⟨lb,0,none⟩)])::(b6,.cells 3 1 [.int .i64 (i:Int)])::(b12,.cells 40 2 (hdC zHd))::(lb,.cells 134 15 (lfRow F.n M tb wb g1 g2 rb db))::(HT++(HW++(H1++(H2++(HR++(HD++(HM.set i []).flatten))))))); simpa only [List.cons_append,List.append_assoc] using this) (H:=(b7,.cells 3 1 [.int .i64 how])::(b8,.cells 30 1 [.int .u64 k])::(b9,.cells 84 1 [.slice adw ws.length capw])::(b5,.cells 23 1 [.pointer (some ⟨lb,0,none⟩)])::(b6,.cells 3 1 [.int .i64 (i:Int)])::(b12,.cells 40 2 (hdC zHd))::(lb,.cells 134 15 (lfRow F.n M tb wb g1 g2 rb db))::(HT++(HW++(H1++(H2++(HR++(HD++((HM.set i []).flatten++H))))))))) ?_
 rintro v H' ⟨X2,hX2,rfl,rfl⟩
 refine W_hsub (H':=(b7,.cells 3 1 [.int .i64 how])::(b8,.cells 30 1 [.int .u64 k])::(b9,.cells 84 1 [.slice adw ws.length capw])::(b5,.cells 23 1 [.pointer (some ⟨lb,0,none⟩)])::(b6,.cells 3 1 [.int .i64 (i:Int)])::(b12,.cells 40 2 (hdC zHd))::(lb,.cells 134 15 (lfRow F.n M tb wb g1 g2 rb db))::(HT++(HW++(H1++(H2++(HR++(HD++((HM.set i X2).flatten++H)))))))) ((show HSub _ ((b7,.cells 3 1 [.int .i64 how])::(b8,.cells 30 1 [.int .u64 k])::(b9,.cells 84 1 [.slice adw ws.length capw])::(b5,.cells 23 1 [.pointer (some ⟨lb,0,none⟩)])::(b6,.cells 3 1 [.int .i64 (i:Int)])::(b12,.cells 40 2 (hdC zHd))::(lb,.cells 134 15 (lfRow F.n M tb wb g1 g2 rb db))::(HT++(HW++(H1++(H2++(HR++(HD++(X2++((HM.set i []).flatten++H))))))))) from zH).trans (.cons (.here _) (.cons (.here _) (.cons (.here _) (.cons (.here _) (.cons (.here _) (.cons (.here _) (.cons (.here _) (.app (.here _) (.app (.here _) (.app (.here _) (.app (.here _) (.app (.here _) (.app (.here _) (flattenIn (by rw [hM.h4]; exact hi4)))))))))))))))) ?_
 have hM2:=(hM.up (Nat.le_add_right T 2)).set (k:=i) (.some (b:=b) hX2)
 rw [show M.set i (some mb,b)=M from set_same hmc] at hM2
 have hF2:LifeH lb _ { F with ms:=F.ms.set i (some ((x.put how k ws).1,b)) } ((lb,.cells 134 15 (lfRow F.n M tb wb g1 g2 rb db))::(HT++(HW++(H1++(H2++(HR++(HD++(HM.set i X2).flatten))))))):=.mk (F:={ F with ms:=F.ms.set i (some ((x.put how k ws).1,b)) }) hT (hO.up (Nat.le_add_right T 2)) hW h1 o1 h2 o2 hR hU hD hM2
 refine W_move rfl rfl ?_
 refine W_extract rfl rfl rfl ?_
 refine W_extract rfl rfl rfl ?_
 refine W_alloc (l:=puttC zPutt) ty139 rfl rfl (fun b9_ => ?_)
 refine W_storeA (l':=puttC (x.put how k ws).2.1) rfl rfl ty139 rfl rfl (b:=b9_) zM (by exact Nat.le_refl 5) rfl zU ?_
 refine W_assign rfl rfl ?_
 refine W_nil (W_seq (W_sr ?_))
 refine W_fieldAddr rfl fld139_2 zd rfl ?_
 refine W_load (v:=.bool (x.put how k ws).2.1.out) rfl ty4 rfl (Cell.own (b:=b9_) zM rfl) rfl ?_
 refine W_nil ?_
 refine W_condPS (p:=(x.put how k ws).2.1.out=true) rfl .rfl (fun q0 => ?_) (fun q0 => ?_)
 ·skip
  refine W_region ?_
  refine W_load (v:=.pointer (some ⟨lb,0,none⟩)) rfl ty23 rfl (Cell.own (b:=b5) zM rfl) rfl ?_
  refine W_load (v:=.int .i64 (i:Int)) rfl ty3 rfl (Cell.own (b:=b6) zM rfl) rfl ?_
  refine W_fieldAddr rfl fld139_1 zd rfl ?_
  refine W_loadB (vs:=hdC (x.put how k ws).2.1.gone) rfl ty40 rfl (b:=b9_) zM rfl rfl rfl ?_
  have hsl:=put_slot hX.ok q0
  refine W_hsub (H':=((lb,.cells 134 15 (lfRow F.n M tb wb g1 g2 rb db))::(HT++(HW++(H1++(H2++(HR++(HD++(HM.set i X2).flatten)))))))++((b9_,.cells 139 5 (puttC (x.put how k ws).2.1))::(b7,.cells 3 1 [.int .i64 how])::(b8,.cells 30 1 [.int .u64 k])::(b9,.cells 84 1 [.slice adw ws.length capw])::(b5,.cells 23 1 [.pointer (some ⟨lb,0,none⟩)])::(b6,.cells 3 1 [.int .i64 (i:Int)])::(b12,.cells 40 2 (hdC zHd))::H)) (by simp only [List.cons_append,List.append_assoc]; first | exact hsubI | (repeat (first | with_reducible exact HSub.refl _ | refine HSub.cons zT ?_ | refine HSub.app zS ?_ | exact HSub.nil _ | exact HSub.refl _ | refine HSub.drop ?_ | refine HSub.dropS ?_))) ?_
  refine W_call (.cons rfl (.cons rfl (.cons rfl .nil))) Tryz.call62 rfl (hF2.die (i:=i) (s:=(x.put how k ws).2.1.gone.slot.toNat) (h:=(x.put how k ws).2.1.gone) hi4 hsl.2 hsl.1 rfl (H:=(b9_,.cells 139 5 (puttC (x.put how k ws).2.1))::(b7,.cells 3 1 [.int .i64 how])::(b8,.cells 30 1 [.int .u64 k])::(b9,.cells 84 1 [.slice adw ws.length capw])::(b5,.cells 23 1 [.pointer (some ⟨lb,0,none⟩)])::(b6,.cells 3 1 [.int .i64 (i:Int)])::(b12,.cells 40 2 (hdC zHd))::H)) ?_
  rintro v H' ⟨HF3,hF3,rfl,rfl⟩
  refine W_nil (W_sr ?_)
  refine W_fieldAddr rfl fld139_0 zd rfl ?_
  refine W_loadB (vs:=hdC (x.put how k ws).2.1.h) rfl ty40 rfl (b:=b9_) zM rfl rfl rfl ?_
  refine W_storeA (l':=hdC (x.put how k ws).2.1.h) rfl rfl ty40 rfl rfl (b:=b12) zM (by exact Nat.le_refl 2) rfl zU ?_
  refine W_nil (W_sr ?_)
  refine W_move rfl rfl ?_
  refine W_assign rfl rfl ?_
  refine W_nil ?_
  refine W_ret1m (H2:=(b7,.cells 3 1 [.int .i64 how])::(b8,.cells 30 1 [.int .u64 k])::(b9,.cells 84 1 [.slice adw ws.length capw])::(b5,.cells 23 1 [.pointer (some ⟨lb,0,none⟩)])::(b6,.cells 3 1 [.int .i64 (i:Int)])::(b12,.cells 40 2 (hdC (x.put how k ws).2.1.h))::(HF3++H)) Tryz.results60 rfl (.nil _) zH ?_
  have e:putX F i x b how k ws=(dieF { F with ms:=F.ms.set i (some ((x.put how k ws).1,b)) } (16 * i+(x.put how k ws).2.1.gone.slot.toNat) (x.put how k ws).2.1.gone,(x.put how k ws).2.1.h,(x.put how k ws).2.2):=by unfold putX; rw [if_pos q0]
  rw [e]
  exact ⟨HF3,hF3,rfl,rfl⟩
 ·skip
  refine W_skip (W_sr ?_)
  refine W_fieldAddr rfl fld139_0 zd rfl ?_
  refine W_loadB (vs:=hdC (x.put how k ws).2.1.h) rfl ty40 rfl (b:=b9_) zM rfl rfl rfl ?_
  refine W_storeA (l':=hdC (x.put how k ws).2.1.h) rfl rfl ty40 rfl rfl (b:=b12) zM (by exact Nat.le_refl 2) rfl zU ?_
  refine W_nil (W_sr ?_)
  refine W_move rfl rfl ?_
  refine W_assign rfl rfl ?_
  refine W_nil ?_
  refine W_ret1m (H2:=(b7,.cells 3 1 [.int .i64 how])::(b8,.cells 30 1 [.int .u64 k])::(b9,.cells 84 1 [.slice adw ws.length capw])::(b5,.cells 23 1 [.pointer (some ⟨lb,0,none⟩)])::(b6,.cells 3 1 [.int .i64 (i:Int)])::(b12,.cells 40 2 (hdC (x.put how k ws).2.1.h))::(lb,.cells 134 15 (lfRow F.n M tb wb g1 g2 rb db))::(HT++(HW++(H1++(H2++(HR++(HD++((HM.set i X2).flatten++H)))))))) Tryz.results60 rfl (.nil _) zH ?_
  have e:putX F i x b how k ws=({ F with ms:=F.ms.set i (some ((x.put how k ws).1,b)) },(x.put how k ws).2.1.h,(x.put how k ws).2.2):=by unfold putX; rw [if_neg q0]
  rw [e]
  exact ⟨_,hF2,rfl,by simp only [List.cons_append,List.append_assoc]⟩
theorem LifeH.put {w0:World} {H:Heap} {HF:Heap} {lb T:Nat} {F:Lf} (hF:LifeH lb T F HF) {m:Int} {how k:Int} {ws:List Int} {adw:Option Addr} {capw:Nat} (hTab:Tab w0) (hTl:T≤1000000) (hk:0≤k∧k < 18446744073709551616) (hrow:∀ HZ:Heap,Holds w0 (HZ++H) adw (ws.map (Value.int .u64))) :LCalls Tryz.prog w0 14 #[.pointer (some ⟨lb,0,none⟩),.int .i64 m,.int .i64 how,.int .u64 k,.slice adw ws.length capw] (HF++H) (fun v H' => ∃ HF',LifeH lb (T+2) (putF F m how k ws).1 HF'∧v=.tuple #[.agg (List.toArray (hdC (putF F m how k ws).2.1)),.int .i64 (putF F m how k ws).2.2]∧H'=HF'++H):=by
 cases hF with
 | @mk tb wb g1 g2 rb db M HT HW H1 H2 HR HD HM hT hO hW h1 o1 h2 o2 hR hU hD hM =>
 have e0:((lb,.cells 134 15 (lfRow F.n M tb wb g1 g2 rb db))::(HT++(HW++(H1++(H2++(HR++(HD++HM.flatten)))))))++H=(lb,.cells 134 15 (lfRow F.n M tb wb g1 g2 rb db))::(HT++(HW++(H1++(H2++(HR++(HD++(HM.flatten++H))))))):=by simp only [List.cons_append,List.append_assoc]
 rw [e0]
 refine L_enter (l:=[.pointer (some ⟨lb,0,none⟩),.int .i64 m,.int .i64 how,.int .u64 k,.slice adw ws.length capw]) Tryz.func14 rfl Tryz.ntmps14 rfl rfl ?_
 refine W_sr ?_
 refine W_box (l:=[.pointer (some ⟨lb,0,none⟩)]) rfl rfl rfl (fun b5 => ?_)
 refine W_box (l:=[.int .i64 m]) rfl rfl rfl (fun b6 => ?_)
 refine W_box (l:=[.int .i64 how]) rfl rfl rfl (fun b7 => ?_)
 refine W_box (l:=[.int .u64 k]) rfl rfl rfl (fun b8 => ?_)
 refine W_box (l:=[.slice adw ws.length capw]) rfl rfl rfl (fun b9 => ?_)
 refine W_alloc (l:=hdC zHd) ty40 rfl rfl (fun b10 => ?_)
 refine W_assign rfl rfl ?_
 refine W_nil (W_sr ?_)
 refine W_alloc (l:=hdC zHd) ty40 rfl rfl (fun b12 => ?_)
 refine W_nil (W_sr ?_)
 refine W_load (v:=.pointer (some ⟨lb,0,none⟩)) rfl ty23 rfl (Cell.own (b:=b5) zM rfl) rfl ?_
 refine W_load (v:=.int .i64 m) rfl ty3 rfl (Cell.own (b:=b6) zM rfl) rfl ?_
 refine W_makeFunc .nil (.cons rfl (.cons rfl (.cons rfl (.cons rfl (.cons rfl (.cons rfl .nil)))))) rfl ?_
 rcases hM.ways (F:=F) m with ⟨hmf,hmp⟩ | ⟨i,mb,x,b,X,rfl,hi4,hmc,hms,hX0,hX,hmf,hmp⟩
 ·skip
  refine W_callq (.cons rfl (.cons rfl (.cons rfl .nil))) Tryz.call59 rfl (lwith_no (n:=F.n) (lb:=lb) (tb:=tb) (wb:=wb) (g1:=g1) (g2:=g2) (rb:=rb) (db:=db) (M:=M) zM hM.m4 hmp) ?_
  refine W_assign rfl rfl ?_
  refine W_nil (W_sr ?_)
  refine W_loadB (vs:=hdC zHd) rfl ty40 rfl (b:=b12) zM rfl rfl rfl ?_
  refine W_move rfl rfl ?_
  refine W_storeA (l':=hdC zHd) rfl rfl ty40 rfl rfl (b:=b10) zM (by exact Nat.le_refl 2) rfl zU ?_
  refine W_assign rfl rfl ?_
  refine W_nil ?_
  refine W_ret2G (H2:=(lb,.cells 134 15 (lfRow F.n M tb wb g1 g2 rb db))::(HT++(HW++(H1++(H2++(HR++(HD++(HM.flatten++H)))))))) Tryz.results14 (.nil _) (.own rfl ty40 rfl zM rfl) (.tmp rfl) zH ?_
  have e:putF F m how k ws=(F,zHd,4):=by unfold putF; rw [hmf]
  rw [e]
  exact ⟨_,.mk hT (hO.up (Nat.le_add_right T 2)) hW h1 o1 h2 o2 hR hU hD (hM.up (Nat.le_add_right T 2)),rfl,by simp only [List.cons_append,List.append_assoc]⟩
 ·skip
  refine W_hsub (H':=(b7,.cells 3 1 [.int .i64 how])::(b8,.cells 30 1 [.int .u64 k])::(b9,.cells 84 1 [.slice adw ws.length capw])::(b5,.cells 23 1 [.pointer (some ⟨lb,0,none⟩)])::(b6,.cells 3 1 [.int .i64 (i:Int)])::(b12,.cells 40 2 (hdC zHd))::(lb,.cells 134 15 (lfRow F.n M tb wb g1 g2 rb db))::(HT++(HW++(H1++(H2++(HR++(HD++(HM.flatten++((b10,.cells 40 2 (hdC zHd))::H))))))))) zH ?_
  refine W_call (.cons rfl (.cons rfl (.cons rfl .nil))) Tryz.call59 rfl (lwith_in (n:=F.n) (lb:=lb) (tb:=tb) (wb:=wb) (g1:=g1) (g2:=g2) (rb:=rb) (db:=db) (M:=M) (fi:=60) (ca:=[.pointer (some ⟨b7,0,none⟩),.pointer (some ⟨b8,0,none⟩),.pointer (some ⟨b9,0,none⟩),.pointer (some ⟨b5,0,none⟩),.pointer (some ⟨b6,0,none⟩),.pointer (some ⟨b12,0,none⟩)]) zM hM.m4 Tryz.call60 hmp (lput1_L (b5:=b5) (b6:=b6) (b7:=b7) (b8:=b8) (b9:=b9) (b12:=b12) (H:=(b10,.cells 40 2 (hdC zHd))::H) hT hO hW h1 o1 h2 o2 hR hU hD hM hi4 hmc hX0 hX (how:=how) (k:=k) (ws:=ws) (adw:=adw) (capw:=capw) hTab hTl hk (fun HZ => by have:=hrow (HZ++[(b10,.cells 40 2 (hdC zHd))]); simpa only [List.cons_append,List.append_assoc,List.nil_append] using this)) (by rintro v H2 ⟨_,_,e,_⟩; exact ⟨_,e⟩)) ?_
  rintro v H' ⟨HF3,hF3,rfl,rfl⟩
  refine W_assign rfl rfl ?_
  refine W_nil (W_sr ?_)
  refine W_loadB (vs:=hdC (putX F i x b how k ws).2.1) rfl ty40 rfl (b:=b12) zM rfl rfl rfl ?_
  refine W_move rfl rfl ?_
  refine W_storeA (l':=hdC (putX F i x b how k ws).2.1) rfl rfl ty40 rfl rfl (b:=b10) zM (by exact Nat.le_refl 2) rfl zU ?_
  refine W_assign rfl rfl ?_
  refine W_nil ?_
  refine W_ret2G (H2:=HF3++H) Tryz.results14 (.nil _) (.own rfl ty40 rfl zM rfl) (.tmp rfl) zH ?_
  have e:putF F (i:Int) how k ws=putX F i x b how k ws:=by unfold putF; rw [hmf]; dsimp only; rw [Int.toNat_natCast]
  rw [e]
  exact ⟨HF3,hF3,rfl,rfl⟩
end Go.Proofs.YtincjohoncljoaaGreatDoor
