/-
  Own work: contracts of functions that the statement reaches, and plain facts on what they compute; each theorem says its conditions.
-/
import Derived.Test.YtincjohoncljoaaGreatDoorLfS2
import Derived.Test.YtincjohoncljoaaGreatDoorLfS1
import Derived.Test.YtincjohoncljoaaGreatDoorLfT2
import Derived.Test.YtincjohoncljoaaGreatDoorLfA
set_option linter.all false
set_option linter.unusedSimpArgs false
set_option linter.unusedVariables false
set_option maxHeartbeats 16000000
namespace Go.Proofs.YtincjohoncljoaaGreatDoor
open Go Go.Sl
attribute [local irreducible] W
structure RingI (R:Nat) (l buf:List Int) (h:Nat):Prop where
 pos:0<R
 room:R≤256
 len:buf.length=R
 head:h<R
 most:l.length≤R
 at_:∀ (i:Nat) x,l[i]?=some x→buf[(h+i)%R]?=some x
inductive RingH (R rb:Nat) (l:List Int):Heap→Prop
 | mk {b h:Nat} {buf:List Int} (hI:RingI R l buf h):RingH R rb l [(rb,.cells 412 3 [.slice (some ⟨b,0,none⟩) R R,.int .i64 ((h:Nat):Int),.int .i64 ((l.length:Nat):Int)]),(b,.cells 3 (R*1) ((buf).map (Value.int .i64)))]
def atV (l:List Int) (z:Int):Value:=if 0≤z then (match l[z.toNat]? with
 | some x=>.tuple #[.int .i64 x,.bool true]
 | none=>.tuple #[.int .i64 0,.bool false]) else .tuple #[.int .i64 0,.bool false]
theorem atV_in {l:List Int} {i:Nat} {x:Int} (h:l[i]?=some x):atV l (i:Int)=.tuple #[.int .i64 x,.bool true]:=by
 unfold atV
 rw [if_pos (by omega),show ((i:Nat):Int).toNat=i by omega,h]
theorem atV_out {l:List Int} {z:Int} (h:z<0∨(l.length:Int)≤z):atV l z=.tuple #[.int .i64 0,.bool false]:=by
 unfold atV
 by_cases c:0≤z
 ·rw [if_pos c,List.getElem?_eq_none (by omega)]
 ·rw [if_neg c]
theorem tmN' (a b:Nat):((a:Int)).tmod (b:Int)=((a%b:Nat):Int):=by
 rw [Int.tmod_eq_emod_of_nonneg (Int.natCast_nonneg _)]; exact (Int.natCast_emod _ _).symm
theorem place_q {w0:World} {H:Heap} {R rb b h n i:Nat} (hm:(rb,.cells 412 3 [.slice (some ⟨b,0,none⟩) R R,.int .i64 ((h:Nat):Int),.int .i64 ((n:Nat):Int)])∈H) (hp:0<R) (hR:R≤256) (hh:h<R) (hi:i≤1000000) :PureAt Tryz.prog w0 H 270 [.pointer (some ⟨rb,0,none⟩),.int .i64 (i:Int)] (.int .i64 (((h+i)%R:Nat):Int)):=by
 refine L_enter Tryz.func270 rfl Tryz.ntmps270 rfl rfl ?_
 refine W_sr (W_assign rfl rfl (W_nil (W_quietsr zk zK ?_)))
 refine WQ_x (X_move rfl) rfl (WQ_x (X_nilCheck rfl) rfl ?_)
 refine WQ_x (X_fieldAddr rfl fld412_1 zd) rfl ?_
 refine WQ_x (X_load (v:=.int .i64 ((h:Nat):Int)) rfl ty3 rfl (Cell.own (b:=rb) hm rfl)) rfl ?_
 refine WQ_x (X_move rfl) rfl ?_
 refine WQ_x (X_bin rfl rfl (b_add (m:=((h+i:Nat):Int)) (by rw [i64w (by omega)]; omega))) rfl ?_
 refine WQ_x (X_move rfl) rfl (WQ_x (X_nilCheck rfl) rfl ?_)
 refine WQ_x (X_fieldAddr rfl fld412_0 zd) rfl ?_
 refine WQ_x (X_load (v:=.slice (some ⟨b,0,none⟩) R R) rfl ty63 rfl (Cell.own (b:=rb) hm rfl)) rfl ?_
 refine WQ_x (X_len rfl ty63 rfl) rfl ?_
 refine WQ_x (X_bin rfl rfl (b_rem zO (m:=(((h+i)%R:Nat):Int)) (tmN' (h+i) R))) rfl ?_
 refine WQ_x (X_assign rfl) rfl ?_
 refine WQ_nil ?_
 refine W_ret1m (H2:=H) Tryz.results270 rfl (.nil _) zH ?_
 exact ⟨rfl,rfl⟩
theorem rLen_q {w0:World} {H:Heap} {R rb b h n:Nat} (hm:(rb,.cells 412 3 [.slice (some ⟨b,0,none⟩) R R,.int .i64 ((h:Nat):Int),.int .i64 ((n:Nat):Int)])∈H) :PureAt Tryz.prog w0 H 192 [.pointer (some ⟨rb,0,none⟩)] (.int .i64 (n:Int)):=by
 refine L_enter Tryz.func192 rfl Tryz.ntmps192 rfl rfl ?_
 refine W_sr (W_assign rfl rfl (W_nil (W_seq (W_sr (W_move rfl rfl ?_)))))
 refine W_x (X_ptrNil rfl rfl ty281) (fun _ h=>by cases h) rfl ?_
 refine W_nil (W_condF rfl rfl (W_skip (W_sr (W_move rfl rfl (W_nilCheck rfl rfl (W_fieldAddr rfl fld412_2 zd rfl ?_))))))
 refine W_load (v:=.int .i64 ((n:Nat):Int)) rfl ty3 rfl (Cell.own (b:=rb) hm rfl) rfl ?_
 refine W_assign rfl rfl (W_nil (W_ret1m (H2:=H) Tryz.results192 rfl (.nil _) zH ?_))
 exact ⟨rfl,rfl⟩
theorem rAt_lo {w0:World} {H:Heap} {R rb b h:Nat} {l buf:List Int} (hI:RingI R l buf h) (hm:(rb,.cells 412 3 [.slice (some ⟨b,0,none⟩) R R,.int .i64 ((h:Nat):Int),.int .i64 ((l.length:Nat):Int)])∈H) (hb:(b,.cells 3 (R*1) ((buf).map (Value.int .i64)))∈H) {z:Int} (hz:z<0) :PureAt Tryz.prog w0 H 273 [.pointer (some ⟨rb,0,none⟩),.int .i64 z] (atV l z):=by
 refine L_enter Tryz.func273 rfl Tryz.ntmps273 rfl rfl ?_
 refine W_sr (W_assign rfl rfl (W_assign rfl rfl (W_nil (W_seq (W_sr (W_move rfl rfl ?_))))))
 refine W_x (X_ptrNil rfl rfl ty281) (fun _ h=>by cases h) rfl ?_
 refine W_move rfl rfl (W_gyes rfl rfl (W_move rfl rfl (W_gyes rfl rfl (W_bin rfl rfl b_lss rfl ?_))))
 rw [decide_eq_true hz]
 first | refine W_pickt rfl rfl rfl ?_ | refine W_pickf rfl rfl rfl ?_
 refine W_move rfl rfl (W_gno rfl rfl rfl ?_)
 refine W_gno rfl rfl rfl ?_
 refine W_gno rfl rfl rfl ?_
 refine W_gno rfl rfl rfl ?_
 refine W_gno rfl rfl rfl ?_
 refine W_gno rfl rfl rfl ?_
 first | refine W_pickt rfl rfl rfl ?_ | refine W_pickf rfl rfl rfl ?_
 refine W_nil (W_condT rfl rfl (W_sr (W_assign rfl rfl (W_nil (W_sr (W_move rfl rfl (W_assign rfl rfl (W_assign rfl rfl ?_))))))))
 refine W_nil (W_ret2m (H2:=H) Tryz.results273 rfl rfl (.nil _) zH ?_)
 exact ⟨(atV_out (.inl hz)).symm,rfl⟩
theorem rAt_hi {w0:World} {H:Heap} {R rb b h:Nat} {l buf:List Int} (hI:RingI R l buf h) (hm:(rb,.cells 412 3 [.slice (some ⟨b,0,none⟩) R R,.int .i64 ((h:Nat):Int),.int .i64 ((l.length:Nat):Int)])∈H) (hb:(b,.cells 3 (R*1) ((buf).map (Value.int .i64)))∈H) {z:Int} (hz:(l.length:Int)≤z) :PureAt Tryz.prog w0 H 273 [.pointer (some ⟨rb,0,none⟩),.int .i64 z] (atV l z):=by
 refine L_enter Tryz.func273 rfl Tryz.ntmps273 rfl rfl ?_
 refine W_sr (W_assign rfl rfl (W_assign rfl rfl (W_nil (W_seq (W_sr (W_move rfl rfl ?_))))))
 refine W_x (X_ptrNil rfl rfl ty281) (fun _ h=>by cases h) rfl ?_
 refine W_move rfl rfl (W_gyes rfl rfl (W_move rfl rfl (W_gyes rfl rfl (W_bin rfl rfl b_lss rfl ?_))))
 rw [decide_eq_false (by omega)]
 first | refine W_pickt rfl rfl rfl ?_ | refine W_pickf rfl rfl rfl ?_
 refine W_move rfl rfl (W_gyes rfl rfl (W_move rfl rfl (W_gyes rfl rfl (W_move rfl rfl (W_gyes rfl rfl (W_nilCheck rfl rfl (W_gyes rfl rfl ?_)))))))
 refine W_fieldAddr rfl fld412_2 zd rfl ?_
 refine W_gyes rfl rfl (W_load (v:=.int .i64 ((l.length:Nat):Int)) rfl ty3 rfl (Cell.own (b:=rb) hm rfl) rfl ?_)
 refine W_gyes rfl rfl (W_bin rfl rfl b_geq rfl ?_)
 rw [decide_eq_true (by omega)]
 first | refine W_pickt rfl rfl rfl ?_ | refine W_pickf rfl rfl rfl ?_
 refine W_nil (W_condT rfl rfl (W_sr (W_assign rfl rfl (W_nil (W_sr (W_move rfl rfl (W_assign rfl rfl (W_assign rfl rfl ?_))))))))
 refine W_nil (W_ret2m (H2:=H) Tryz.results273 rfl rfl (.nil _) zH ?_)
 exact ⟨(atV_out (.inr hz)).symm,rfl⟩
theorem rAt_in {w0:World} {H:Heap} {R rb b h:Nat} {l buf:List Int} (hI:RingI R l buf h) (hm:(rb,.cells 412 3 [.slice (some ⟨b,0,none⟩) R R,.int .i64 ((h:Nat):Int),.int .i64 ((l.length:Nat):Int)])∈H) (hb:(b,.cells 3 (R*1) ((buf).map (Value.int .i64)))∈H) {i:Nat} {x:Int} (hx:l[i]?=some x) :PureAt Tryz.prog w0 H 273 [.pointer (some ⟨rb,0,none⟩),.int .i64 (i:Int)] (.tuple #[.int .i64 x,.bool true]):=by
 have hil:=(List.getElem?_eq_some_iff.1 hx).1
 have hmost:=hI.most
 have hroom:=hI.room
 have hbx:=hI.at_ i x hx
 have hpl:(h+i)%R<R:=Nat.mod_lt _ hI.pos
 refine L_enter Tryz.func273 rfl Tryz.ntmps273 rfl rfl ?_
 refine W_sr (W_assign rfl rfl (W_assign rfl rfl (W_nil (W_seq (W_sr (W_move rfl rfl ?_))))))
 refine W_x (X_ptrNil rfl rfl ty281) (fun _ h=>by cases h) rfl ?_
 refine W_move rfl rfl (W_gyes rfl rfl (W_move rfl rfl (W_gyes rfl rfl (W_bin rfl rfl b_lss rfl ?_))))
 rw [decide_eq_false (by omega)]
 first | refine W_pickt rfl rfl rfl ?_ | refine W_pickf rfl rfl rfl ?_
 refine W_move rfl rfl (W_gyes rfl rfl (W_move rfl rfl (W_gyes rfl rfl (W_move rfl rfl (W_gyes rfl rfl (W_nilCheck rfl rfl (W_gyes rfl rfl ?_)))))))
 refine W_fieldAddr rfl fld412_2 zd rfl ?_
 refine W_gyes rfl rfl (W_load (v:=.int .i64 ((l.length:Nat):Int)) rfl ty3 rfl (Cell.own (b:=rb) hm rfl) rfl ?_)
 refine W_gyes rfl rfl (W_bin rfl rfl b_geq rfl ?_)
 rw [decide_eq_false (by omega)]
 first | refine W_pickt rfl rfl rfl ?_ | refine W_pickf rfl rfl rfl ?_
 refine W_nil (W_condF rfl rfl (W_skip (W_quietsr zk zK ?_)))
 refine WQ_x (X_move rfl) rfl (WQ_x (X_nilCheck rfl) rfl ?_)
 refine WQ_x (X_fieldAddr rfl fld412_0 zd) rfl ?_
 refine WQ_x (X_load (v:=.slice (some ⟨b,0,none⟩) R R) rfl ty63 rfl (Cell.own (b:=rb) hm rfl)) rfl ?_
 refine WQ_x (X_move rfl) rfl (WQ_x (X_move rfl) rfl (WQ_callq (.cons rfl (.cons rfl .nil)) Tryz.call270 rfl (place_q (i:=i) hm hI.pos hI.room hI.head zO) ?_))
 refine WQ_x (X_indexAddr (j:=(h+i)%R) rfl rfl ty63 ty3 (by first | rfl | omega) (by first | decide | omega | simp) rfl) rfl ?_
 refine WQ_x (X_load (v:=.int .i64 x) rfl ty3 rfl (by rw [Nat.mul_one]; exact Cell.own (b:=b) hb (by rw [Nat.zero_add,List.getElem?_map,hbx]; rfl))) rfl ?_
 refine WQ_x (X_assign rfl) rfl ?_
 refine WQ_x (X_assign rfl) rfl ?_
 refine WQ_nil ?_
 refine W_ret2m (H2:=H) Tryz.results273 rfl rfl (.nil _) zH ?_
 exact ⟨rfl,rfl⟩
theorem rAt_q {w0:World} {H:Heap} {R rb b h:Nat} {l buf:List Int} (hI:RingI R l buf h) (hm:(rb,.cells 412 3 [.slice (some ⟨b,0,none⟩) R R,.int .i64 ((h:Nat):Int),.int .i64 ((l.length:Nat):Int)])∈H) (hb:(b,.cells 3 (R*1) ((buf).map (Value.int .i64)))∈H) {z:Int}:PureAt Tryz.prog w0 H 273 [.pointer (some ⟨rb,0,none⟩),.int .i64 z] (atV l z):=by
 by_cases h0:z<0
 ·exact rAt_lo hI hm hb h0
 ·by_cases h1:(l.length:Int)≤z
  ·exact rAt_hi hI hm hb h1
  ·obtain ⟨i,rfl⟩:∃ i:Nat,z=(i:Int):=⟨z.toNat,by omega⟩
   obtain ⟨x,hx⟩:∃ x,l[i]?=some x:=⟨_,List.getElem?_eq_getElem zO⟩
   rw [atV_in hx]
   exact rAt_in hI hm hb hx
theorem RingI.start {R:Nat} (h0:0<R) (h1:R≤256):RingI R [] (List.replicate R 0) 0 :=
 ⟨h0,h1,List.length_replicate,h0,Nat.zero_le _,fun i x h=>by simp at h⟩
theorem rNew_L {w0:World} {H:Heap} {R:Nat} (h0:0<R) (h1:R≤256) :LCalls Tryz.prog w0 274 #[.int .i64 (R:Int)] (H) (fun v H'=>∃ rb HB,v=.tuple #[.pointer (some ⟨rb,0,none⟩),.int .i64 0]∧RingH R rb [] HB∧H'=HB++H):=by
 refine L_enter (l:=[.int .i64 (R:Int)]) Tryz.func274 rfl Tryz.ntmps274 rfl rfl ?_
 refine W_sr (W_assign rfl rfl (W_assign rfl rfl (W_nil (W_seq (W_sr (W_move rfl rfl (W_bin rfl rfl b_lss rfl ?_)))))))
 refine W_move rfl rfl ?_
 apply W_or
 iterate 4 exact rfl
 case h1 =>
  intro hg2
  refine W_gyes rfl rfl (W_move rfl rfl (W_gyes rfl rfl (W_bin rfl rfl b_gtr rfl ?_)))
  exact W_met rfl zR
 refine W_nil ?_
 refine W_condF rfl (by simp; omega) ?_
 refine W_skip (W_sr (W_move rfl rfl ?_))
 refine W_makeSlice (ln:=R) (cp:=R) (l:=(List.replicate R (0:Int)).map (Value.int .i64)) rfl rfl ty63 ty3 rfl rfl (Nat.le_refl _) (by omega) (by simp only [maxLen]; omega) (by rw [Nat.mul_one]; simp [toList_madeCells_one,Value.cells]) rfl (fun b11=>?_)
 refine W_build (l:=[.slice (some ⟨b11,0,none⟩) R R,.int .i64 0,.int .i64 0]) ty412 pl412 (.cons rfl rfl rfl rfl rfl .nil) rfl rfl rfl ?_
 refine W_box (l:=[.slice (some ⟨b11,0,none⟩) R R,.int .i64 0,.int .i64 0]) rfl rfl rfl (fun b13=>?_)
 refine W_assign rfl rfl (W_assign rfl rfl (W_nil (W_ret2m (H2:=[(b13,.cells 412 3 [.slice (some ⟨b11,0,none⟩) R R,.int .i64 0,.int .i64 0]),(b11,.cells 3 (R*1) ((List.replicate R (0:Int)).map (Value.int .i64)))]++H) Tryz.results274 rfl rfl (.nil _) zH ?_)))
 exact ⟨b13,_,rfl,.mk (RingI.start h0 h1),rfl⟩
theorem set_at {buf:List Int} {i j:Nat} {x y:Int} (h:buf[j]?=some y) (hne:i≠j):(buf.set i x)[j]?=some y:=by rw [List.getElem?_set_ne hne]; exact h
theorem RingI.pop {R h:Nat} {x:Int} {l buf:List Int} (hI:RingI R (x::l) buf h):RingI R l (buf.set h 0) ((h+1)%R):=by
 obtain ⟨h1,h2,h3,h4,h5,h6⟩:=hI
 simp only [List.length_cons] at h5
 refine ⟨h1,h2,by rw [List.length_set,h3],Nat.mod_lt _ h1,by omega,fun i y hy=>?_⟩
 have hi:=(List.getElem?_eq_some_iff.1 hy).1
 have e:((h+1)%R+i)%R=(h+(i+1))%R:=by rw [Nat.mod_add_mod]; congr 1; omega
 rw [e]
 refine set_at (h6 (i+1) y (by simpa using hy)) ?_
 by_cases c:h+(i+1)<R
 ·rw [Nat.mod_eq_of_lt c]; omega
 ·have e2:(h+(i+1))%R=h+(i+1)-R:=by rw [Nat.mod_eq_sub_mod (by omega),Nat.mod_eq_of_lt (by omega)]
  omega
theorem mod_inj {R h i j:Nat} (hh:h<R) (hi:i<R) (hj:j<R) (e:(h+i)%R=(h+j)%R):i=j:=by
 have e1:∀ k,k<R→(h+k)%R=if h+k<R then h+k else h+k-R:=fun k hk=>by
  split
  ·rename_i q; exact Nat.mod_eq_of_lt q
  ·rename_i q; rw [Nat.mod_eq_sub_mod (by omega),Nat.mod_eq_of_lt (by omega)]
 rw [e1 i hi,e1 j hj] at e
 split at e <;> split at e <;> omega
theorem rPop_at {w0:World} {H:Heap} {R rb b h:Nat} {x:Int} {l buf:List Int} (hI:RingI R (x::l) buf h) :LCalls Tryz.prog w0 194 #[.pointer (some ⟨rb,0,none⟩)] ((rb,.cells 412 3 [.slice (some ⟨b,0,none⟩) R R,.int .i64 ((h:Nat):Int),.int .i64 (((x::l).length:Nat):Int)])::(b,.cells 3 (R*1) ((buf).map (Value.int .i64)))::H) (fun v H'=>v=.tuple #[.int .i64 x,.bool true]∧H'=(rb,.cells 412 3 [.slice (some ⟨b,0,none⟩) R R,.int .i64 (((h+1)%R:Nat):Int),.int .i64 ((l.length:Nat):Int)])::(b,.cells 3 (R*1) ((buf.set h 0).map (Value.int .i64)))::H):=by
 have hmost:=hI.most
 have hroom:=hI.room
 have hbl:=hI.len
 have hhd:=hI.head
 simp only [List.length_cons] at hmost
 refine L_enter (l:=[.pointer (some ⟨rb,0,none⟩)]) Tryz.func194 rfl Tryz.ntmps194 rfl rfl ?_
 refine W_sr (W_assign rfl rfl (W_assign rfl rfl (W_nil (W_sr (W_move rfl rfl (W_callq (.cons rfl (.cons rfl .nil)) Tryz.call273 rfl (rAt_q (z:=0) hI zM zM) ?_))))))
 rw [show atV (x::l) 0=.tuple #[.int .i64 x,.bool true] from rfl]
 refine W_move rfl rfl (W_extract rfl rfl rfl (W_extract rfl rfl rfl (W_assign rfl rfl (W_assign rfl rfl (W_nil (W_seq (W_sr (W_move rfl rfl (W_nil ?_)))))))))
 refine W_condT rfl rfl (W_sr (W_assign rfl rfl (W_nil (W_seq ?_))))
 refine W_anyC [(rb,.cells 412 3 [.slice (some ⟨b,0,none⟩) R R,.int .i64 ((h:Nat):Int),.int .i64 (((x::l).length:Nat):Int)])] zk ?_
 refine WC_take 0 rfl zK zK zK rfl rfl (X_move rfl) rfl ?_
 refine WC_take 1 rfl zK zK zK rfl rfl (X_nilCheck rfl) rfl ?_
 refine WC_take 2 rfl zK zK zK rfl rfl (X_fieldAddr rfl fld412_0 zd) rfl ?_
 refine WC_take 3 rfl zK zK zK rfl rfl (X_load (v:=.slice (some ⟨b,0,none⟩) R R) rfl ty63 rfl (Cell.own (b:=rb) zM rfl)) rfl ?_
 refine WC_take 4 rfl zK zK zK rfl rfl (X_move rfl) rfl ?_
 refine WC_take 5 rfl zK zK zK rfl rfl (X_nilCheck rfl) rfl ?_
 refine WC_take 6 rfl zK zK zK rfl rfl (X_fieldAddr rfl fld412_1 zd) rfl ?_
 refine WC_take 7 rfl zK zK zK rfl rfl (X_load (v:=.int .i64 ((h:Nat):Int)) rfl ty3 rfl (Cell.own (b:=rb) zM rfl)) rfl ?_
 refine WC_take 8 rfl zK zK zK rfl rfl (X_move rfl) rfl ?_
 refine WC_take 9 (l':=#[true,true,true,true,true,true,true,true,true,true,false]) rfl (by decide +kernel) (by decide +kernel) (by decide +kernel) rfl (by decide +kernel) (X_indexAddr (j:=h) rfl rfl ty63 ty3 (by first | rfl | omega) (by first | decide | omega | simp) rfl) rfl ?_
 refine WC_one 10 zH zK rfl rfl ?_
 refine W_store (l':=((buf.set (h) 0)).map (Value.int .i64)) rfl rfl ty3 rfl rfl (b:=b) zM (by rw [List.length_map,Nat.blt_eq]; omega) (by rw [List.map_set]; congr 1; omega) zU ?_
 refine W_nil ?_
 refine WC_goal ?_
 refine WC_done zH zK ?_
 refine W_sr (W_move rfl rfl (W_move rfl rfl (W_callq (.cons rfl (.cons rfl .nil)) Tryz.call270 rfl (place_q (i:=1) (n:=(x::l).length) zM hI.pos hI.room hI.head zO) ?_)))
 refine W_nilCheck rfl rfl (W_fieldAddr rfl fld412_1 zd rfl ?_)
 refine W_store (l':=[.slice (some ⟨b,0,none⟩) R R,.int .i64 (((h+1)%R:Nat):Int),.int .i64 (((x::l).length:Nat):Int)]) rfl rfl ty3 rfl rfl (b:=rb) zM rfl rfl zU ?_
 refine W_nil (W_region (W_move rfl rfl (W_nilCheck rfl rfl (W_fieldAddr rfl fld412_2 zd rfl ?_))))
 refine W_load (v:=.int .i64 (((x::l).length:Nat):Int)) rfl ty3 rfl (Cell.own (b:=rb) zM rfl) rfl ?_
 refine W_bin rfl rfl (b_sub (m:=((l.length:Nat):Int)) (by rw [i64w (by simp only [List.length_cons]; omega)]; simp only [List.length_cons]; omega)) rfl ?_
 refine W_nilCheck rfl rfl (W_fieldAddr rfl fld412_2 zd rfl ?_)
 refine W_store (l':=[.slice (some ⟨b,0,none⟩) R R,.int .i64 (((h+1)%R:Nat):Int),.int .i64 ((l.length:Nat):Int)]) rfl rfl ty3 rfl rfl (b:=rb) zM rfl rfl zU ?_
 refine W_nil (W_sr (W_move rfl rfl (W_move rfl rfl (W_assign rfl rfl (W_assign rfl rfl (W_nil (W_ret2m Tryz.results194 rfl rfl (.nil _) (.refl _) ?_)))))))
 exact ⟨rfl,rfl⟩
theorem RingI.move {R h:Nat} {l buf:List Int} (hI:RingI R l buf h) {k:Nat} {y:Int} (hk:k<l.length):RingI R (l.set k y) (buf.set ((h+k)%R) y) h:=by
 obtain ⟨h1,h2,h3,h4,h5,h6⟩:=hI
 refine ⟨h1,h2,by rw [List.length_set,h3],h4,by rw [List.length_set]; exact h5,fun i z hz=>?_⟩
 have hm:(h+k)%R<R:=Nat.mod_lt _ h1
 by_cases c:k=i
 ·subst c
  rw [List.getElem?_set_self hk] at hz
  rw [List.getElem?_set_self (by omega),← hz]
 ·rw [List.getElem?_set_ne c] at hz
  have hi:=(List.getElem?_eq_some_iff.1 hz).1
  exact set_at (h6 i z hz) (fun e=>c (mod_inj h4 zO zO e))
def shiftL (l:List Int) (i k:Nat):List Int:=l.take (k+1)++((l.take i).drop k++l.drop (i+1))
theorem shiftL_len {l:List Int} {i k:Nat} (hi:i<l.length) (hk:k≤i):(shiftL l i k).length=l.length:=by
 unfold shiftL; simp only [List.length_append,List.length_take,List.length_drop]; omega
theorem shiftL_start {l:List Int} {i:Nat} (hi:i<l.length):shiftL l i i=l:=by
 unfold shiftL
 rw [List.drop_eq_nil_of_le (by rw [List.length_take]; omega),List.nil_append,List.take_append_drop]
theorem shiftL_at {l:List Int} {i k j:Nat} (hi:i<l.length) (hk:k≤i):(shiftL l i k)[j]?=if j≤k then l[j]? else if j≤i then l[j-1]? else l[j]?:=by
 unfold shiftL
 by_cases c:j≤k
 ·rw [if_pos c,List.getElem?_append_left (by rw [List.length_take]; omega),List.getElem?_take,if_pos (by omega)]
 ·rw [if_neg c,List.getElem?_append_right (by rw [List.length_take]; omega),List.length_take,Nat.min_eq_left (by omega)]
  by_cases d:j≤i
  ·rw [if_pos d,List.getElem?_append_left (by rw [List.length_drop,List.length_take]; omega),List.getElem?_drop,List.getElem?_take,if_pos (by omega)]
   congr 1; omega
  ·rw [if_neg d,List.getElem?_append_right (by rw [List.length_drop,List.length_take]; omega),List.getElem?_drop,List.length_drop,List.length_take]
   congr 1; omega
theorem shiftL_step {l:List Int} {i k:Nat} {y:Int} (hi:i<l.length) (hk:k+1≤i) (hy:l[k]?=some y):(shiftL l i (k+1)).set (k+1) y=shiftL l i k:=by
 apply List.ext_getElem?
 intro j
 by_cases c:k+1=j
 ·subst c
  rw [List.getElem?_set_self (by rw [shiftL_len hi hk]; omega),shiftL_at hi (by omega),if_neg (by omega),if_pos hk,Nat.add_sub_cancel,hy]
 ·rw [List.getElem?_set_ne c,shiftL_at hi hk,shiftL_at hi (by omega)]
  by_cases d:j≤k
  ·rw [if_pos (by omega),if_pos d]
  ·rw [if_neg (by omega),if_neg d]
theorem shiftL_end {l:List Int} {i:Nat} (hi:i<l.length):∃ x,shiftL l i 0=x::l.eraseIdx i:=by
 cases l with
 | nil=>simp at hi
 | cons x l =>
  refine ⟨x,?_⟩
  unfold shiftL
  rw [List.eraseIdx_eq_take_drop_succ]
  rfl
theorem rTake_at {w0:World} {H:Heap} {R rb b h:Nat} {l buf:List Int} (hI:RingI R l buf h) {i:Nat} {x:Int} (hx:l[i]?=some x) :LCalls Tryz.prog w0 266 #[.pointer (some ⟨rb,0,none⟩),.int .i64 (i:Int)] ((rb,.cells 412 3 [.slice (some ⟨b,0,none⟩) R R,.int .i64 ((h:Nat):Int),.int .i64 ((l.length:Nat):Int)])::(b,.cells 3 (R*1) ((buf).map (Value.int .i64)))::H) (fun v H'=>∃ buf',RingI R (l.eraseIdx i) (List.set buf' h 0) ((h+1)%R)∧v=.tuple #[.int .i64 x,.bool true]∧H'=(rb,.cells 412 3 [.slice (some ⟨b,0,none⟩) R R,.int .i64 (((h+1)%R:Nat):Int),.int .i64 (((l.eraseIdx i).length:Nat):Int)])::(b,.cells 3 (R*1) ((List.set buf' h 0).map (Value.int .i64)))::H):=by
 have hil:=(List.getElem?_eq_some_iff.1 hx).1
 have hmost:=hI.most
 have hroom:=hI.room
 have hhd:=hI.head
 have hpos:=hI.pos
 refine L_enter (l:=[.pointer (some ⟨rb,0,none⟩),.int .i64 (i:Int)]) Tryz.func266 rfl Tryz.ntmps266 rfl rfl ?_
 refine W_sr (W_assign rfl rfl (W_assign rfl rfl (W_nil (W_sr (W_move rfl rfl (W_move rfl rfl (W_callq (.cons rfl (.cons rfl .nil)) Tryz.call273 rfl (rAt_q (z:=(i:Int)) hI zM zM) ?_)))))))
 rw [atV_in hx]
 refine W_move rfl rfl (W_extract rfl rfl rfl (W_extract rfl rfl rfl (W_assign rfl rfl (W_assign rfl rfl (W_nil (W_seq (W_sr (W_move rfl rfl (W_not rfl rfl ?_)))))))))
 try rw [Bool.not_true]
 refine W_nil (W_condF rfl rfl (W_skip (W_seq (W_sr (W_move rfl rfl (W_assign rfl rfl (W_nil (W_block ?_))))))))
 refine W_loopC (X:=(Nat × List Int)) [(0,_),(6,_)] (fun (x:(Nat × List Int))=>[(8,.int .i64 (x.1:Int))]) (fun _=>_) (fun (x:(Nat × List Int))=>(rb,.cells 412 3 [.slice (some ⟨b,0,none⟩) R R,.int .i64 ((h:Nat):Int),.int .i64 ((l.length:Nat):Int)])::(b,.cells 3 (R*1) ((x.2).map (Value.int .i64)))::H) (fun (x:(Nat × List Int))=>x.1≤i∧RingI R (shiftL l i x.1) x.2 h) (fun (x:(Nat × List Int))=>x.1) (i,buf) ⟨Nat.le_refl _,by rw [shiftL_start hil]; exact hI⟩ (sub_cons rfl (sub_cons rfl (sub_nil _))) (sub_cons rfl (sub_nil _)) rfl (.refl _) ?_
 rintro ⟨k,bufi⟩ ⟨hki,hIi⟩
 dsimp only at hki hIi ⊢
 have hlen:=shiftL_len hil hki
 simp only [List.cons_append,List.nil_append]
 refine W_seq (W_sr (W_move rfl rfl (W_bin rfl rfl b_gtr rfl ?_)))
 refine W_nil ?_
 refine W_condPS (p:=0<(k:Int)) rfl (by simp) (fun q0=>?_) (fun q0=>?_)
 ·skip
  refine W_skip (W_seq (W_block ?_))
  obtain ⟨k',rfl⟩:∃ k',k=k'+1:=⟨k-1,by omega⟩
  obtain ⟨y,hy⟩:∃ y,l[k']?=some y:=⟨_,List.getElem?_eq_getElem zO⟩
  have hbl:=hIi.len
  have hby:=hIi.at_ k' y (by rw [shiftL_at hil hki,if_pos (by omega)]; exact hy)
  have hp0:(h+k')%R<R:=Nat.mod_lt _ hIi.pos
  have hp1:(h+(k'+1))%R<R:=Nat.mod_lt _ hIi.pos
  refine W_anyS [(rb,.cells 412 3 [.slice (some ⟨b,0,none⟩) R R,.int .i64 ((h:Nat):Int),.int .i64 ((l.length:Nat):Int)]),(b,.cells 3 (R*1) ((bufi).map (Value.int .i64)))] 18 zk ?_
  refine WS_take 0 rfl rfl zK zK zK zK rfl rfl (X_move rfl) rfl ?_
  refine WS_take 1 rfl rfl zK zK zK zK rfl rfl (X_nilCheck rfl) rfl ?_
  refine WS_take 2 rfl rfl zK zK zK zK rfl rfl (X_fieldAddr rfl fld412_0 zd) rfl ?_
  refine WS_take 3 rfl rfl zK zK zK zK rfl rfl (X_load (v:=.slice (some ⟨b,0,none⟩) R R) rfl ty63 rfl (Cell.own (b:=rb) zM rfl)) rfl ?_
  refine WS_take 4 rfl rfl zK zK zK zK rfl rfl (X_move rfl) rfl ?_
  refine WS_take 5 rfl rfl zK zK zK zK rfl rfl (X_move rfl) rfl ?_
  refine WS_take 7 rfl rfl zK zK zK zK rfl rfl (X_move rfl) rfl ?_
  refine WS_take 8 rfl rfl zK zK zK zK rfl rfl (X_nilCheck rfl) rfl ?_
  refine WS_take 9 rfl rfl zK zK zK zK rfl rfl (X_fieldAddr rfl fld412_0 zd) rfl ?_
  refine WS_take 10 rfl rfl zK zK zK zK rfl rfl (X_load (v:=.slice (some ⟨b,0,none⟩) R R) rfl ty63 rfl (Cell.own (b:=rb) zM rfl)) rfl ?_
  refine WS_take 11 rfl rfl zK zK zK zK rfl rfl (X_move rfl) rfl ?_
  refine WS_take 12 rfl rfl zK zK zK zK rfl rfl (X_move rfl) rfl ?_
  refine WS_take 13 (l':=#[true,true,true,true,true,true,false,true,true,true,true,true,true,true,false,false,false,false,false]) rfl rfl (by decide +kernel) (by decide +kernel) (by decide +kernel) (by decide +kernel) rfl (by decide +kernel) (X_bin rfl rfl (b_sub (m:=((k':Nat):Int)) (by rw [i64w (by omega)]; omega))) rfl ?_
  refine WS_one 6 zH rfl zK rfl rfl ?_
  refine W_callq (.cons rfl (.cons rfl .nil)) Tryz.call270 rfl (place_q (i:=k'+1) (n:=l.length) zM hpos hroom hhd zO) ?_
  refine W_nil ?_
  refine WS_goal ?_
  refine WS_one 14 zH rfl zK rfl rfl ?_
  refine W_callq (.cons rfl (.cons rfl .nil)) Tryz.call270 rfl (place_q (i:=k') (n:=l.length) zM hpos hroom hhd zO) ?_
  refine W_nil ?_
  refine WS_goal ?_
  refine WS_take 15 (l':=#[true,true,true,true,true,true,true,true,true,true,true,true,true,true,true,true,false,false,false]) rfl rfl (by decide +kernel) (by decide +kernel) (by decide +kernel) (by decide +kernel) rfl (by decide +kernel) (X_indexAddr (j:=(h+k')%R) rfl rfl ty63 ty3 (by first | rfl | omega) (by first | decide | omega | simp) rfl) rfl ?_
  refine WS_take 16 (l':=#[true,true,true,true,true,true,true,true,true,true,true,true,true,true,true,true,true,false,false]) rfl rfl (by decide +kernel) (by decide +kernel) (by decide +kernel) (by decide +kernel) rfl (by decide +kernel) (X_load (v:=.int .i64 y) rfl ty3 rfl (by rw [Nat.mul_one ((h+k')%R)]; exact Cell.own (b:=b) zM (by rw [Nat.zero_add,List.getElem?_map,hby]; rfl))) rfl ?_
  refine WS_take 17 (l':=#[true,true,true,true,true,true,true,true,true,true,true,true,true,true,true,true,true,true,false]) rfl rfl (by decide +kernel) (by decide +kernel) (by decide +kernel) (by decide +kernel) rfl (by decide +kernel) (X_indexAddr (j:=(h+(k'+1))%R) rfl rfl ty63 ty3 (by first | rfl | omega) (by first | decide | omega | simp) rfl) rfl ?_
  refine WS_last (l':=#[true,true,true,true,true,true,true,true,true,true,true,true,true,true,true,true,true,true,true]) zH zK rfl zK ?_
  refine W_store (l':=(bufi.set ((h+(k'+1))%R) y).map (Value.int .i64)) rfl rfl ty3 rfl rfl (b:=b) zM (by rw [List.length_map,Nat.blt_eq]; omega) (by rw [List.map_set]; congr 1; omega) zU ?_
  refine W_nil ?_
  refine WC_goal ?_
  refine WC_done (.nil _) zK ?_
  refine W_blk (W_region (W_move rfl rfl ?_))
  refine W_bin rfl rfl (b_sub (m:=((k':Nat):Int)) (by rw [i64w (by omega)]; omega)) rfl ?_
  refine W_assign rfl rfl (W_nil ?_)
  refine W_again (k',bufi.set ((h+(k'+1))%R) y) ⟨by show k'≤i; omega,by show RingI R (shiftL l i k') _ _; rw [← shiftL_step hil hki hy]; exact hIi.move (by omega)⟩ (by show k'<k'+1; omega) (sub_cons rfl (sub_cons rfl (sub_cons rfl (sub_nil _)))) rfl (.refl _)
 ·skip
  refine W_exit rfl ?_
  refine W_sr ?_
  obtain rfl:k=0:=by omega
  refine W_move rfl rfl ?_
  obtain ⟨x0,hx0⟩:=shiftL_end hil
  rw [hx0] at hIi
  have hlx:l.length=(x0::l.eraseIdx i).length:=by rw [← hx0,shiftL_len hil (Nat.zero_le _)]
  rw [hlx]
  refine W_call (.cons rfl .nil) Tryz.call194 rfl (rPop_at (H:=H) hIi) ?_
  rintro v H' ⟨rfl,rfl⟩
  refine W_nil (W_sr (W_move rfl rfl (W_assign rfl rfl (W_assign rfl rfl (W_nil (W_ret2m Tryz.results266 rfl rfl (.nil _) (.refl _) ?_))))))
  exact ⟨bufi,hIi.pop,rfl,rfl⟩
theorem rTake_L {w0:World} {H HB:Heap} {R rb i:Nat} {x:Int} {l:List Int} (hR:RingH R rb l HB) (hx:l[i]?=some x):LCalls Tryz.prog w0 266 #[.pointer (some ⟨rb,0,none⟩),.int .i64 (i:Int)] (HB++H) (fun v H'=>∃ HB',RingH R rb (l.eraseIdx i) HB'∧v=.tuple #[.int .i64 x,.bool true]∧H'=HB'++H):=by
 cases hR with
 | mk hI =>
  refine (rTake_at (H:=H) hI hx).mono ?_
  rintro v H' ⟨buf',hI',rfl,rfl⟩
  exact ⟨_,.mk hI',rfl,rfl⟩
theorem rgall_iter {w0:World} {H:Heap} {lp b1:Nat} {R rb b h:Nat} {l buf:List Int} (hI:RingI R l buf h) (J:Nat→Heap→Prop)
  (hround:∀ i x Hi,l[i]?=some x→J i Hi→RoundC Tryz.prog w0 lp #[.int .i64 x] ((b1,.cells 281 1 [.pointer (some ⟨rb,0,none⟩)])::(rb,.cells 412 3 [.slice (some ⟨b,0,none⟩) R R,.int .i64 ((h:Nat):Int),.int .i64 ((l.length:Nat):Int)])::(b,.cells 3 (R*1) ((buf).map (Value.int .i64)))::Hi) (fun v H'=>∃ Hi',HSub H' ((b1,.cells 281 1 [.pointer (some ⟨rb,0,none⟩)])::(rb,.cells 412 3 [.slice (some ⟨b,0,none⟩) R R,.int .i64 ((h:Nat):Int),.int .i64 ((l.length:Nat):Int)])::(b,.cells 3 (R*1) ((buf).map (Value.int .i64)))::Hi')∧v=.bool true∧J (i+1) Hi')) (hJ:J 0 H) :
  LCalls Tryz.prog w0 442 #[.func (.yield lp) #[] #[],.pointer (some ⟨b1,0,none⟩)] ((b1,.cells 281 1 [.pointer (some ⟨rb,0,none⟩)])::(rb,.cells 412 3 [.slice (some ⟨b,0,none⟩) R R,.int .i64 ((h:Nat):Int),.int .i64 ((l.length:Nat):Int)])::(b,.cells 3 (R*1) ((buf).map (Value.int .i64)))::H) (fun _ H'=>∃ Hi',HSub H' ((b1,.cells 281 1 [.pointer (some ⟨rb,0,none⟩)])::(rb,.cells 412 3 [.slice (some ⟨b,0,none⟩) R R,.int .i64 ((h:Nat):Int),.int .i64 ((l.length:Nat):Int)])::(b,.cells 3 (R*1) ((buf).map (Value.int .i64)))::Hi')∧J l.length Hi'):=by
 have hmost:=hI.most
 have hroom:=hI.room
 refine L_enter (l:=[.func (.yield lp) #[] #[],.pointer (some ⟨b1,0,none⟩)]) Tryz.func442 rfl Tryz.ntmps442 rfl rfl ?_
 refine W_sr (W_load (v:=.pointer (some ⟨rb,0,none⟩)) rfl ty281 rfl (Cell.own (b:=b1) zM rfl) rfl ?_)
 refine W_callq (.cons rfl .nil) Tryz.call192 rfl (rLen_q (n:=l.length) (h:=h) (R:=R) (b:=b) zM) ?_
 refine W_move rfl rfl (W_nil (W_block ?_))
 refine W_loopC (X:=(Nat × Heap)) [(0,_),(1,_),(5,_)] (fun (x:(Nat × Heap))=>[(6,.int .i64 (x.1:Int))]) (fun _=>_) (fun (x:(Nat × Heap))=>(b1,.cells 281 1 [.pointer (some ⟨rb,0,none⟩)])::(rb,.cells 412 3 [.slice (some ⟨b,0,none⟩) R R,.int .i64 ((h:Nat):Int),.int .i64 ((l.length:Nat):Int)])::(b,.cells 3 (R*1) ((buf).map (Value.int .i64)))::x.2) (fun (x:(Nat × Heap))=>x.1≤l.length∧J x.1 x.2) (fun (x:(Nat × Heap))=>l.length-x.1) (0,H) ⟨Nat.zero_le _,hJ⟩ (sub_cons rfl (sub_cons rfl (sub_cons rfl (sub_nil _)))) (sub_cons rfl (sub_nil _)) rfl (.refl _) ?_
 rintro ⟨i,Hi⟩ ⟨hi,hJi⟩
 dsimp only at hi hJi ⊢
 simp only [List.cons_append,List.nil_append]
 refine W_sr (W_bin rfl rfl b_lss rfl ?_)
 refine W_nil (W_seq ?_)
 refine W_condPS (p:=(i:Int)<(l.length:Int)) rfl (by simp) (fun q0=>?_) (fun q0=>?_)
 ·skip
  refine W_skip (W_seq (W_block (W_sr (W_move rfl rfl (W_assign rfl rfl (W_nil (W_seq ?_)))))))
  obtain ⟨x,hx⟩:∃ x,l[i]?=some x:=⟨_,List.getElem?_eq_getElem zO⟩
  have hbx:=hI.at_ i x hx
  have hbl:=hI.len
  have hpl:(h+i)%R<R:=Nat.mod_lt _ hI.pos
  refine W_anyC [(b1,.cells 281 1 [.pointer (some ⟨rb,0,none⟩)]),(rb,.cells 412 3 [.slice (some ⟨b,0,none⟩) R R,.int .i64 ((h:Nat):Int),.int .i64 ((l.length:Nat):Int)]),(b,.cells 3 (R*1) ((buf).map (Value.int .i64)))] zk ?_
  refine WC_take 0 rfl zK zK zK rfl rfl (X_move rfl) rfl ?_
  refine WC_take 1 rfl zK zK zK rfl rfl (X_load (v:=.pointer (some ⟨rb,0,none⟩)) rfl ty281 rfl (Cell.own (b:=b1) zM rfl)) rfl ?_
  refine WC_take 2 rfl zK zK zK rfl rfl (X_nilCheck rfl) rfl ?_
  refine WC_take 3 rfl zK zK zK rfl rfl (X_fieldAddr rfl fld412_0 zd) rfl ?_
  refine WC_take 4 rfl zK zK zK rfl rfl (X_load (v:=.slice (some ⟨b,0,none⟩) R R) rfl ty63 rfl (Cell.own (b:=rb) zM rfl)) rfl ?_
  refine WC_take 5 rfl zK zK zK rfl rfl (X_load (v:=.pointer (some ⟨rb,0,none⟩)) rfl ty281 rfl (Cell.own (b:=b1) zM rfl)) rfl ?_
  refine WC_take 6 rfl zK zK zK rfl rfl (X_move rfl) rfl ?_
  refine WC_one 7 zH zK rfl rfl ?_
  refine W_callq (.cons rfl (.cons rfl .nil)) Tryz.call270 rfl (place_q (i:=i) (n:=l.length) zM hI.pos hroom hI.head zO) ?_
  refine W_nil ?_
  refine WC_goal ?_
  refine WC_take 8 (l':=#[true,true,true,true,true,true,true,true,true,false,false,false]) rfl (by decide +kernel) (by decide +kernel) (by decide +kernel) rfl (by decide +kernel) (X_indexAddr (j:=(h+i)%R) rfl rfl ty63 ty3 (by first | rfl | omega) (by first | decide | omega | simp) rfl) rfl ?_
  refine WC_take 9 (l':=#[true,true,true,true,true,true,true,true,true,true,false,false]) rfl (by decide +kernel) (by decide +kernel) (by decide +kernel) rfl (by decide +kernel) (X_load (v:=.int .i64 x) rfl ty3 rfl (by rw [Nat.mul_one ((h+i)%R)]; exact Cell.own (b:=b) zM (by rw [Nat.zero_add,List.getElem?_map,hbx]; rfl))) rfl ?_
  refine WC_one 10 zH zK rfl rfl ?_
  refine W_yield rfl (.cons rfl .nil) rfl (hround i x Hi hx hJi) ?_
  rintro v H' ⟨Hi',hsub,rfl,hJ'⟩
  refine W_hsub hsub ?_
  refine W_nil ?_
  refine WC_goal ?_
  refine WC_take 11 rfl zK zK zK rfl rfl (X_not rfl) rfl ?_
  refine WC_done zH zK ?_
  refine W_condF rfl rfl (W_skip (W_blk (W_region ?_)))
  refine W_bin rfl rfl (b_add (m:=((i+1:Nat):Int)) (by rw [i64w (by omega)]; omega)) rfl ?_
  refine W_move rfl rfl (W_nil ?_)
  refine W_again (i+1,Hi') ⟨by show i+1≤l.length; omega,hJ'⟩ (by show l.length-(i+1)<l.length-i; omega) (sub_cons rfl (sub_cons rfl (sub_cons rfl (sub_cons rfl (sub_nil _))))) rfl (.refl _)
 ·skip
  refine W_exit rfl ?_
  refine W_end0m Tryz.results442 (.nil _) (.refl _) ?_
  obtain rfl:i=l.length:=by omega
  exact ⟨Hi,.refl _,hJi⟩
theorem rgall_L {w0:World} {H:Heap} {ad:Option Addr} :LCalls Tryz.prog w0 413 #[.pointer ad] (H) (fun v H'=>∃ b1,v=.func (.func 442) #[] #[.pointer (some ⟨b1,0,none⟩)]∧H'=(b1,.cells 281 1 [.pointer ad])::H):=by
 refine L_enter (l:=[.pointer ad]) Tryz.func413 rfl Tryz.ntmps413 rfl rfl ?_
 refine W_sr ?_
 refine W_box rfl rfl rfl (fun b1=>?_)
 refine W_assign rfl rfl (W_nil (W_sr (W_makeFunc .nil (.cons rfl .nil) rfl ?_)))
 refine W_assign rfl rfl (W_nil (W_ret1m Tryz.results413 rfl (.nil _) (.refl _) ?_))
 exact ⟨b1,rfl,rfl⟩
theorem rList_at {w0:World} {H:Heap} {R rb b h:Nat} {l buf:List Int} (hI:RingI R l buf h) :LCalls Tryz.prog w0 366 #[.pointer (some ⟨rb,0,none⟩)] ((rb,.cells 412 3 [.slice (some ⟨b,0,none⟩) R R,.int .i64 ((h:Nat):Int),.int .i64 ((l.length:Nat):Int)])::(b,.cells 3 (R*1) ((buf).map (Value.int .i64)))::H) (fun v H'=>∃ sv XB,v=sv∧OwnS 3 1 sv l.length (l.map (Value.int .i64)) XB∧H'=XB++((rb,.cells 412 3 [.slice (some ⟨b,0,none⟩) R R,.int .i64 ((h:Nat):Int),.int .i64 ((l.length:Nat):Int)])::(b,.cells 3 (R*1) ((buf).map (Value.int .i64)))::H)):=by
 have hmost:=hI.most
 have hroom:=hI.room
 refine L_enter (l:=[.pointer (some ⟨rb,0,none⟩)]) Tryz.func366 rfl Tryz.ntmps366 rfl rfl ?_
 refine W_sr (W_assign rfl rfl (W_nil (W_sr ?_)))
 refine W_alloc (l:=[.slice none 0 0]) ty63 rfl rfl (fun b3=>?_)
 refine W_nil (W_seq (W_sr (W_move rfl rfl (W_call (.cons rfl .nil) Tryz.call413 rfl (rgall_L) ?_))))
 rintro v H' ⟨b1,rfl,rfl⟩
 refine W_nil (W_block (W_rangeFunc rfl Tryz.call442 ?_))
 intro lp D r hst hpd hps hasg hbody hA
 have hr:=loop_ready hst hpd
 show LCalls _ _ _ #[_,_] _ _
 refine ((rgall_iter (b1:=b1) (H:=(lp,.obj (.loop r))::(D,.obj (.deferred (some [])))::(b3,.cells 63 1 [.slice none 0 0])::H) hI (fun i Hi=>∃ xv XB,OwnS 3 1 xv i ((l.take i).map (Value.int .i64)) XB∧Hi=(lp,.obj (.loop r))::(D,.obj (.deferred (some [])))::(b3,.cells 63 1 [xv])::(XB++H)) ?_ ⟨_,[],.nil,rfl⟩).hsub zH).mono ?_
 ·intro i z Hi hz hJ
  obtain ⟨xv,XB,hX,rfl⟩:=hJ
  have hil:=(List.getElem?_eq_some_iff.1 hz).1
  refine round_intro hst hpd hA hps rfl hasg rfl rfl rfl zT ?_
  refine W_region (W_assign rfl rfl (W_nil (W_begin hst hpd zT hbody ?_)))
  refine W_block (W_region (W_load (v:=xv) rfl ty63 rfl (Cell.own (b:=b3) zM rfl) rfl ?_))
  refine W_move rfl rfl ?_
  refine W_buildSlice (l:=[.int .i64 z]) ty63 ty3 (.cons rfl rfl rfl rfl rfl .nil) rfl rfl rfl rfl rfl rfl rfl (fun b10=>?_)
  refine W_append (news:=[.int .i64 z]) (m:=1) (HB:=XB) (H0:=(b10,.cells 3 1 [.int .i64 z])::(b1,.cells 281 1 [.pointer (some ⟨rb,0,none⟩)])::(rb,.cells 412 3 [.slice (some ⟨b,0,none⟩) R R,.int .i64 ((h:Nat):Int),.int .i64 ((l.length:Nat):Int)])::(b,.cells 3 (R*1) ((buf).map (Value.int .i64)))::(lp,.obj (.loop (Loop.at r .busy none)))::(D,.obj (.deferred (some [])))::(b3,.cells 63 1 [xv])::H) rfl rfl ty63 ty3 rfl (by decide) hX rfl (Holds.own List.mem_cons_self) rfl (by simp only [maxLen]; omega) (by omega) zH rfl (fun v' HB' hO'=>?_)
  refine W_store (l':=[v']) rfl rfl ty63 (by obtain ⟨a0,c0',e0,_⟩:=hO'.shape; rw [e0]; rfl) rfl (b:=b3) zM rfl rfl zU ?_
  refine W_nil (W_blk (W_endround zT ?_))
  rw [hr]
  exact ⟨(lp,.obj (.loop r))::(D,.obj (.deferred (some [])))::(b3,.cells 63 1 [v'])::(HB'++H),zH,rfl,v',HB',by rw [List.take_add_one,hz,List.map_append]; exact hO',rfl⟩
 ·intro _ H' hp
  obtain ⟨Hi',hs,xv,XB,hX,rfl⟩:=hp
  rw [List.take_length] at hX
  refine ⟨.ready,none,(b1,.cells 281 1 [.pointer (some ⟨rb,0,none⟩)])::(rb,.cells 412 3 [.slice (some ⟨b,0,none⟩) R R,.int .i64 ((h:Nat):Int),.int .i64 ((l.length:Nat):Int)])::(b,.cells 3 (R*1) ((buf).map (Value.int .i64)))::(D,.obj (.deferred (some [])))::(b3,.cells 63 1 [xv])::(XB++H),by rw [hr]; exact hs.trans zH,by decide,?_⟩
  show W _ _ _ _ _ _ _ _ _
  refine W_blk (W_sr (W_load (v:=xv) rfl ty63 rfl (Cell.own (b:=b3) zM rfl) rfl ?_))
  refine W_assign rfl rfl (W_nil (W_ret1m (H2:=XB++((rb,.cells 412 3 [.slice (some ⟨b,0,none⟩) R R,.int .i64 ((h:Nat):Int),.int .i64 ((l.length:Nat):Int)])::(b,.cells 3 (R*1) ((buf).map (Value.int .i64)))::H)) Tryz.results366 rfl (.cons zT (.nil _)) zH ?_))
  exact ⟨xv,XB,rfl,hX,rfl⟩
theorem rList_L {w0:World} {H HB:Heap} {R rb:Nat} {l:List Int} (hR:RingH R rb l HB):LCalls Tryz.prog w0 366 #[.pointer (some ⟨rb,0,none⟩)] (HB++H) (fun v H'=>∃ XB,OwnS 3 1 v l.length (l.map (Value.int .i64)) XB∧H'=XB++(HB++H)):=by
 cases hR with
 | mk hI =>
  refine (rList_at (H:=H) hI).mono ?_
  rintro v H' ⟨sv,XB,rfl,hX,rfl⟩
  exact ⟨XB,hX,rfl⟩
def del1 (l:List Int) (id:Int):List Int:=l.filter (fun x=>decide (x≠id))
theorem del1_snoc {l:List Int} {id x:Int} {j:Nat} (h:l[j]?=some x):del1 (l.take (j+1)) id=del1 (l.take j) id++(if x=id then [] else [x]):=by
 unfold del1
 rw [takeAt h,List.filter_append]
 congr 1
 by_cases e:x=id
 ·rw [if_pos e,List.filter_cons_of_neg (by simp [e])]; rfl
 ·rw [if_neg e,List.filter_cons_of_pos (by simp [e])]; rfl
theorem del1_out {l:List Int} {id:Int} (h:id ∉ l):del1 l id=l:=by
 unfold del1
 rw [List.filter_eq_self]
 intro x hx
 exact decide_eq_true (fun e=>h (e ▸ hx))
theorem del1_le (l:List Int) (id:Int):(del1 l id).length≤l.length:=List.length_filter_le _ _
theorem eqc_q {w0:World} {H:Heap} {bd:Nat} {id i:Int} (hb:(bd,.cells 3 1 [.int .i64 id])∈H) :PureAt Tryz.prog w0 H 407 [.int .i64 i,.pointer (some ⟨bd,0,none⟩)] (.bool (decide (i=id))):=by
 refine L_enter Tryz.func407 rfl Tryz.ntmps407 rfl rfl ?_
 refine W_sr (W_assign rfl rfl (W_nil (W_sr (W_move rfl rfl (W_load (v:=.int .i64 id) rfl ty3 rfl (Cell.own hb rfl) rfl ?_)))))
 refine W_bin rfl rfl b_eql rfl ?_
 refine W_assign rfl rfl (W_nil (W_ret1m (H2:=H) Tryz.results407 rfl (.nil _) zH ?_))
 exact ⟨rfl,rfl⟩
theorem index_L {w0:World} {H:Heap} {l:List Int} {id:Int} {bd cap:Nat} {ad:Option Addr} (hl:l.length≤4611686018427387904) (hbd:(bd,.cells 3 1 [.int .i64 id])∈H) (hrow:Holds w0 H ad (l.map (Value.int .i64))) :LCalls Tryz.prog w0 432 #[.slice ad l.length cap,.func (.func 407) #[] #[.pointer (some ⟨bd,0,none⟩)]] (H) (fun v H'=>∃ z:Int,v=.int .i64 z∧((∃ i:Nat,z=i∧l[i]?=some id∧id ∉ l.take i)∨(z=-1∧id ∉ l))∧H'=H):=by
 refine L_enter (l:=[.slice ad l.length cap,.func (.func 407) #[] #[.pointer (some ⟨bd,0,none⟩)]]) Tryz.func432 rfl Tryz.ntmps432 rfl rfl ?_
 refine W_sr (W_assign rfl rfl (W_nil (W_seq (W_sr (W_move rfl rfl (W_len rfl ty63 rfl rfl ?_))))))
 refine W_move rfl rfl (W_nil (W_block ?_))
 refine W_loopC (X:=Nat) [(0,_),(1,_),(7,_)] (fun (i:Nat)=>[(8,.int .i64 (i:Int))]) (fun _=>_) (fun (i:Nat)=>H) (fun (i:Nat)=>i≤l.length∧id ∉ l.take i) (fun (i:Nat)=>l.length-i) 0 ⟨Nat.zero_le _,by simp⟩ (sub_cons rfl (sub_cons rfl (sub_cons rfl (sub_nil _)))) (sub_cons rfl (sub_nil _)) rfl zH ?_
 rintro i ⟨hi,hn⟩
 simp only [List.cons_append,List.nil_append]
 refine W_sr (W_bin rfl rfl b_lss rfl ?_)
 refine W_nil (W_seq ?_)
 refine W_condPS (p:=(i:Int)<(l.length:Int)) rfl (by simp) (fun q0=>?_) (fun q0=>?_)
 ·skip
  refine W_skip (W_seq (W_block (W_sr (W_move rfl rfl (W_assign rfl rfl (W_nil (W_sr ?_)))))))
  obtain ⟨x,hx⟩:∃ x,l[i]?=some x:=⟨_,List.getElem?_eq_getElem zO⟩
  obtain ⟨q0,p0,rfl,hc⟩:=hrow.at (i:=i) (v:=.int .i64 x) (by rw [List.getElem?_map,hx]; rfl)
  refine W_move rfl rfl (W_move rfl rfl (W_move rfl rfl (W_indexAddr (j:=i) rfl rfl ty63 ty3 rfl zO rfl rfl ?_)))
  refine W_load (v:=.int .i64 x) rfl ty3 rfl (by rw [Nat.mul_one (i)]; exact hc) rfl ?_
  refine W_callqv (fa:=[]) (ca:=[.pointer (some ⟨bd,0,none⟩)]) rfl (.cons rfl .nil) rfl Tryz.call407 rfl (eqc_q (bd:=bd) (id:=id) hbd) ?_
  refine W_nil ?_
  refine W_condPS (p:=x=id) rfl (by simp) (fun q1=>?_) (fun q1=>?_)
  ·skip
   refine W_sr (W_move rfl rfl (W_assign rfl rfl (W_nil (W_ret1m Tryz.results432 rfl (.nil _) (.refl _) ?_))))
   subst q1
   exact ⟨i,rfl,.inl ⟨i,rfl,hx,hn⟩,rfl⟩
  ·skip
   refine W_skip (W_blk (W_region ?_))
   refine W_bin rfl rfl (b_add (m:=((i+1:Nat):Int)) (by rw [i64w (by omega)]; omega)) rfl ?_
   refine W_move rfl rfl (W_nil ?_)
   refine W_again (i+1) ⟨by omega,by rw [takeAt hx,List.mem_append]; exact fun h=>h.elim hn (fun h=>q1 (List.mem_singleton.1 h).symm)⟩ (by omega) (sub_cons rfl (sub_cons rfl (sub_cons rfl (sub_cons rfl (sub_nil _))))) rfl zH
 ·skip
  refine W_exit rfl ?_
  refine W_sr (W_assign rfl rfl (W_nil (W_ret1m Tryz.results432 rfl (.nil _) (.refl _) ?_)))
  obtain rfl:i=l.length:=by omega
  exact ⟨-1,rfl,.inr ⟨rfl,by rwa [List.take_length] at hn⟩,rfl⟩
theorem take_set_at {d:List Int} {i:Nat} {x:Int} (h:i<d.length):(d.set i x).take (i+1)=d.take i++[x]:=by
 rw [takeAt (l:=d.set i x) (i:=i) (x:=x) (by rw [List.getElem?_set_self h]),List.take_set_of_le (Nat.le_refl i)]
theorem splice_take {l vs:List Value} {i:Nat} (h:i≤l.length):(spliceL l i vs).take i=l.take i:=by
 unfold spliceL
 rw [List.append_assoc,List.take_append_of_le_length (by rw [List.length_take]; omega),List.take_take,Nat.min_self]
theorem delete_L {w0:World} {H:Heap} {l:List Int} {id:Int} {b bd tot cap:Nat} (hl:l.length≤4611686018427387904) (hcap:l.length≤cap) (hbd:(bd,.cells 3 1 [.int .i64 id])∈H) :LCalls Tryz.prog w0 406 #[.slice (some ⟨b,0,none⟩) l.length cap,.func (.func 407) #[] #[.pointer (some ⟨bd,0,none⟩)]] ((b,.cells 3 tot ((l).map (Value.int .i64)))::H) (fun v H'=>v=.slice (some ⟨b,0,none⟩) (del1 l id).length cap∧H'=(b,.cells 3 tot ((del1 l id).map (Value.int .i64)))::H):=by
 refine L_enter (l:=[.slice (some ⟨b,0,none⟩) l.length cap,.func (.func 407) #[] #[.pointer (some ⟨bd,0,none⟩)]]) Tryz.func406 rfl Tryz.ntmps406 rfl rfl ?_
 refine W_sr (W_assign rfl rfl (W_nil (W_sr (W_move rfl rfl (W_move rfl rfl (W_call (.cons rfl (.cons rfl .nil)) Tryz.call432 rfl ((index_L (l:=l) (bd:=bd) (id:=id) hl (List.mem_cons_of_mem _ hbd) (Holds.own (b:=b) zM)).hsub (.refl _)) ?_))))))
 rintro v H' ⟨z,rfl,hz,hH⟩
 subst H'
 rcases hz with ⟨i0,rfl,hi0,hn0⟩ | ⟨rfl,hn0⟩
 ·skip
  have hil:i0+1≤l.length:=(List.getElem?_eq_some_iff.1 hi0).1
  refine W_assign rfl rfl (W_nil (W_seq (W_sr (W_move rfl rfl (W_bin rfl rfl b_eql rfl ?_)))))
  refine W_nil (W_condF rfl (decide_eq_false zO) ?_)
  refine W_skip (W_seq (W_sr (W_move rfl rfl ?_)))
  refine W_bin rfl rfl (b_add (m:=((i0+1:Nat):Int)) (by rw [i64w (by omega)]; omega)) rfl ?_
  refine W_assign rfl rfl (W_nil (W_block ?_))
  refine W_loopC (X:=(Nat × Nat × List Int)) [(0,_),(1,_)] (fun (x:(Nat × Nat × List Int))=>[(5,.int .i64 (x.1:Int)),(6,.int .i64 (x.2.1:Int))]) (fun _=>_) (fun (x:(Nat × Nat × List Int))=>(b,.cells 3 tot ((x.2.2).map (Value.int .i64)))::H) (fun (x:(Nat × Nat × List Int))=>x.2.2.length=l.length∧x.2.1≤l.length∧x.1<x.2.1∧x.2.2.take x.1=del1 (l.take x.2.1) id∧x.2.2.drop x.2.1=l.drop x.2.1) (fun (x:(Nat × Nat × List Int))=>l.length-x.2.1) (i0,i0+1,l) ⟨rfl,hil,Nat.lt_succ_self _,by rw [del1_snoc hi0,if_pos rfl,List.append_nil,del1_out hn0],rfl⟩ (sub_cons rfl (sub_cons rfl (sub_nil _))) (sub_cons rfl (sub_cons rfl (sub_nil _))) rfl zH ?_
  rintro ⟨i,j,d⟩ ⟨hdl,hj,hij,hdt,hdd⟩
  dsimp only at hdl hj hij hdt hdd ⊢
  simp only [List.cons_append,List.nil_append]
  refine W_seq (W_sr (W_move rfl rfl (W_move rfl rfl (W_len rfl ty63 rfl rfl ?_))))
  refine W_bin rfl rfl b_lss rfl ?_
  refine W_nil ?_
  refine W_condPS (p:=(j:Int)<(l.length:Int)) rfl (by simp) (fun q0=>?_) (fun q0=>?_)
  ·skip
   refine W_skip (W_seq (W_block (W_sr ?_)))
   obtain ⟨x,hx⟩:∃ x,l[j]?=some x:=⟨_,List.getElem?_eq_getElem zO⟩
   have hdx:d[j]?=some x:=by
    have h:=congrArg (fun q=>q[0]?) hdd
    simpa [hx] using h
   refine W_move rfl rfl (W_move rfl rfl (W_indexAddr (j:=j) rfl rfl ty63 ty3 rfl zO (at_:=j) zO rfl ?_))
   refine W_load (v:=.int .i64 x) rfl ty3 rfl (Cell.own (b:=b) zM (by rw [List.getElem?_map,hdx]; rfl)) rfl ?_
   refine W_assign rfl rfl (W_nil (W_sr (W_move rfl rfl (W_move rfl rfl (W_callqv (fa:=[]) (ca:=[.pointer (some ⟨bd,0,none⟩)]) rfl (.cons rfl .nil) rfl Tryz.call407 rfl (eqc_q (bd:=bd) (id:=id) (List.mem_cons_of_mem _ hbd)) ?_)))))
   refine W_not rfl rfl ?_
   refine W_nil ?_
   refine W_condPS (p:=¬ x=id) rfl (by simp) (fun q1=>?_) (fun q1=>?_)
   ·skip
    refine W_sr (W_move rfl rfl (W_move rfl rfl (W_move rfl rfl (W_indexAddr (j:=i) rfl rfl ty63 ty3 rfl zO (at_:=i) zO rfl ?_))))
    refine W_store (l':=(d.set i x).map (Value.int .i64)) rfl rfl ty3 rfl rfl (b:=b) zM (by rw [Nat.blt_eq,List.length_map]; omega) (by rw [List.map_set]) zU ?_
    refine W_nil (W_region (W_move rfl rfl ?_))
    refine W_bin rfl rfl (b_add (m:=((i+1:Nat):Int)) (by rw [i64w (by omega)]; omega)) rfl ?_
    refine W_assign rfl rfl (W_nil (W_blk (W_region (W_move rfl rfl ?_))))
    refine W_bin rfl rfl (b_add (m:=((j+1:Nat):Int)) (by rw [i64w (by omega)]; omega)) rfl ?_
    refine W_assign rfl rfl (W_nil ?_)
    refine W_again (i+1,j+1,d.set i x) ⟨by show (d.set i x).length=_; rw [List.length_set,hdl],by show j+1≤l.length; omega,by show i+1<j+1; omega,by show (d.set i x).take (i+1)=_; rw [take_set_at (by omega),hdt,del1_snoc hx,if_neg q1],by show (d.set i x).drop (j+1)=_; rw [List.drop_set_of_lt (by omega),← List.drop_drop,hdd,List.drop_drop]⟩ (by show l.length-(j+1)<l.length-j; omega) (sub_cons rfl (sub_cons rfl (sub_cons rfl (sub_cons rfl (sub_nil _))))) rfl zH
   ·skip
    refine W_skip (W_blk (W_region (W_move rfl rfl ?_)))
    refine W_bin rfl rfl (b_add (m:=((j+1:Nat):Int)) (by rw [i64w (by omega)]; omega)) rfl ?_
    refine W_assign rfl rfl (W_nil ?_)
    refine W_again (i,j+1,d) ⟨hdl,by show j+1≤l.length; omega,by show i<j+1; omega,by show d.take i=_; rw [hdt,del1_snoc hx,if_pos (Classical.not_not.1 q1),List.append_nil],by show d.drop (j+1)=_; rw [← List.drop_drop,hdd,List.drop_drop]⟩ (by show l.length-(j+1)<l.length-j; omega) (sub_cons rfl (sub_cons rfl (sub_cons rfl (sub_cons rfl (sub_nil _))))) rfl zH
  ·skip
   refine W_exit rfl ?_
   refine W_sr (W_move rfl rfl (W_move rfl rfl ?_))
   refine W_slice (l:=i) (hh:=l.length) rfl ty63 ty3 ⟨_,rfl⟩ rfl zO hcap rfl (fun o1 ho1=>?_)
   obtain rfl:o1=i:=by have:=ho1 zO; omega
   refine W_clear (l':=spliceL (d.map (Value.int .i64)) o1 (List.replicate (l.length-o1) (.int .i64 0))) rfl ty63 ty3 rfl (by omega) (b:=b) zM (by rw [List.length_map]; omega) rfl zU ?_
   refine W_nil (W_sr (W_move rfl rfl (W_move rfl rfl (W_slice0 (hh:=o1) rfl ty63 ty3 rfl ⟨_,rfl⟩ zO rfl ?_))))
   obtain rfl:j=l.length:=by omega
   rw [List.take_length] at hdt
   have hol:o1=(del1 l id).length:=by rw [← hdt,List.length_take]; omega
   have hcut:(spliceL (d.map (Value.int .i64)) o1 (List.replicate (l.length-o1) (.int .i64 0))).take o1=(del1 l id).map (Value.int .i64):=by rw [splice_take (by rw [List.length_map]; omega),← List.map_take,hdt]
   refine W_assign rfl rfl (W_nil ?_)
   refine W_ret1m (H2:=(b,.cells 3 tot ((del1 l id).map (Value.int .i64)))::H) Tryz.results406 rfl (.nil _) (by rw [← hcut]; exact HSub.cut) ?_
   exact ⟨by rw [hol],rfl⟩
 ·skip
  refine W_assign rfl rfl (W_nil (W_seq (W_sr (W_move rfl rfl (W_bin rfl rfl b_eql rfl ?_)))))
  refine W_nil (W_condT rfl rfl (W_sr (W_move rfl rfl (W_assign rfl rfl (W_nil (W_ret1m (H2:=(b,.cells 3 tot ((l).map (Value.int .i64)))::H) Tryz.results406 rfl (.nil _) (.refl _) ?_))))))
  exact ⟨by rw [del1_out hn0],by rw [del1_out hn0]⟩
theorem keyI:KeyKind Tryz.prog 3 (Value.int .i64):=intKeys ty3.und
def zEnt:Value:=.agg #[.int .i64 0,.int .i64 0,.int .u64 0,.int .u64 0,.int .i64 0]
theorem zEz (w:World):(zeroValue 408).run Tryz.prog w=.ok zEnt w:=ty408.zero w
theorem Find_q {w0:World} {H:Heap} {bw bm now turn c tn:Nat} {sl:List Value} {bs:List Nat} {l:Ents Int} {id:Int} {e:Spot} {ok:Bool} (hok:RowOk sl bs) (hw:(bw,.cells 406 523 (whRow now sl bs bm turn))∈H) (hm:(bm,.obj (mapO (Value.int .i64) l c))∈H) (hv:(mGet l id).getD zEnt=.agg (e.v++[Value.int .i64 ((tn:Nat):Int)]).toArray) (hh:mHas l id=ok) :PureAt Tryz.prog w0 H 187 [.pointer (some ⟨bw,0,none⟩),.int .i64 id] (.tuple #[.agg e.v.toArray,.bool ok]):=by
 refine L_enter Tryz.func187 rfl Tryz.ntmps187 rfl rfl ?_
 refine W_sr ?_
 refine W_alloc (l:=zSpot.v) ty71 rfl rfl (fun b4=>?_)
 refine W_assign rfl rfl (W_nil (W_seq (W_sr (W_move rfl rfl ?_))))
 refine W_x (X_ptrNil rfl rfl ty276) (fun _ h=>by cases h) rfl ?_
 refine W_nil (W_condF rfl rfl (W_skip (W_sr (W_move rfl rfl (W_nilCheck rfl rfl (W_fieldAddr rfl fld406_3 zd rfl ?_))))))
 refine W_load (v:=.map (some bm)) rfl ty404 rfl (Cell.own (b:=bw) (List.mem_cons_of_mem _ hw) (wh_map hok)) rfl ?_
 refine W_move rfl rfl (W_lookup (a:=id) (zE:=zEnt) rfl rfl keyI ty404 zEz (List.mem_cons_of_mem _ hm) rfl ?_)
 simp only [if_true]
 rw [hv,hh]
 refine W_move rfl rfl (W_extract rfl rfl rfl (W_extract rfl rfl rfl ?_))
 refine W_alloc (l:=[.int .i64 0,.int .i64 0,.int .u64 0,.int .u64 0,.int .i64 0]) ty408 rfl rfl (fun b6=>?_)
 refine W_storeA (l':=(e.v++[Value.int .i64 ((tn:Nat):Int)])) rfl rfl ty408 rfl rfl (b:=b6) zM (by exact Nat.le_refl 5) rfl zU ?_
 refine W_assign rfl rfl (W_nil (W_sr (W_fieldAddr rfl fld408_0 zd rfl ?_)))
 refine W_loadB (vs:=e.v) rfl ty71 rfl (b:=b6) zM rfl rfl rfl ?_
 refine W_move rfl rfl ?_
 refine W_storeA (l':=e.v) rfl rfl ty71 rfl rfl (b:=b4) zM (by exact Nat.le_refl 4) rfl zU ?_
 refine W_assign rfl rfl (W_nil (W_ret2G (H2:=H) Tryz.results187 (.nil _) (.own rfl ty71 rfl zM rfl) (.tmp rfl) zH ?_))
 exact ⟨rfl,rfl⟩
structure Tm where
 id:Int
 s:Spot
 turn:Nat
def Tm.key (t:Tm):Nat:=t.s.lv*64+t.s.slot
def idsAt (L:List Tm) (k:Nat):List Int:=(L.filter (fun t=>decide (t.key=k))).map (·.id)
def delT (L:List Tm) (id:Int):List Tm:=L.filter (fun t=>decide (t.id≠id))
theorem idsAt_del (L:List Tm) (id:Int) (k:Nat):idsAt (delT L id) k=del1 (idsAt L k) id:=by
 unfold idsAt delT del1
 rw [List.filter_map,List.filter_filter,List.filter_filter]
 congr 1
 refine List.filter_congr fun t _=>?_
 exact Bool.and_comm _ _
theorem idsAt_mem {L:List Tm} {k:Nat} {id:Int}:id∈idsAt L k↔∃ t∈L,t.key=k∧t.id=id:=by
 unfold idsAt
 rw [List.mem_map]
 exact ⟨fun ⟨t,h,e⟩=>⟨t,(List.mem_filter.1 h).1,of_decide_eq_true (List.mem_filter.1 h).2,e⟩,fun ⟨t,h,e,e2⟩=>⟨t,List.mem_filter.2 ⟨h,decide_eq_true e⟩,e2⟩⟩
structure WhIs (now:Nat) (L:List Tm) (sl:List Value) (XS:List Heap) (bs:List Nat) (l:Ents Int) (c turn:Nat):Prop where
 row:RowOk sl bs
 xs:XS.length=512
 own:∀ k,k<512→∃ v X,sl[k]?=some v∧XS[k]?=some X∧OwnS 3 1 v (idsAt L k).length ((idsAt L k).map (Value.int .i64)) X
 busy:∀ n,n<8→∃ z,bs[n]?=some z∧z<18446744073709551616∧∀ s,s<64→(z.testBit s=true↔idsAt L (n*64+s)≠[])
 map:MapOk l c
 keys:(l.map (·.1)).Perm (L.map (·.id))
 val:∀ p∈l,∃ t∈L,t.id=p.1∧p.2.1=.agg (t.s.v++[Value.int .i64 ((t.turn:Nat):Int)]).toArray
 nodup:(L.map (·.id)).Nodup
 turns:L.Pairwise (fun a b=>a.turn<b.turn)
 last:∀ t∈L,t.turn≤turn
 range:∀ t∈L,0≤t.id∧t.id<256
 spot:∀ t∈L,t.s.lv<8∧t.s.slot<64
 time:∀ t∈L,∃ num,t.s.slot=num%64∧t.s.due=tickT num t.s.lv∧now/8 ^ t.s.lv<num∧num≤now/8 ^ t.s.lv+64∧num*8 ^ t.s.lv<18446744073709551615+8 ^ t.s.lv
theorem WhIs.new {now:Nat}:WhIs now [] sl0 (List.replicate 512 []) bs0 [] 0 0 where
 row:=ok0
 xs:=List.length_replicate
 own k hk:=⟨_,_,by unfold sl0; rw [List.getElem?_replicate,if_pos hk],by rw [List.getElem?_replicate,if_pos hk],OwnS.nil⟩
 busy n hn:=⟨0,by unfold bs0; rw [List.getElem?_replicate,if_pos hn],by decide,fun s _=>by simp [idsAt]⟩
 map:=MapOk.nil 0
 keys:=.nil
 val:=fun _ h=>by cases h
 nodup:=List.nodup_nil
 turns:=.nil
 last:=fun _ h=>by cases h
 range:=fun _ h=>by cases h
 spot:=fun _ h=>by cases h
 time:=fun _ h=>by cases h
theorem tm_uniq:∀ {L:List Tm} {t u:Tm},(L.map (·.id)).Nodup→t∈L→u∈L→t.id=u.id→t=u
 | x::L,t,u,hn,ht,hu,e=>by
  rw [List.map_cons,List.nodup_cons] at hn
  rcases List.mem_cons.1 ht with rfl | ht' <;> rcases List.mem_cons.1 hu with rfl | hu'
  ·rfl
  ·exact absurd (e ▸ List.mem_map_of_mem hu') hn.1
  ·exact absurd (e ▸ List.mem_map_of_mem ht') hn.1
  ·exact tm_uniq hn.2 ht' hu' e
theorem bit_out {z s j:Nat} (hj:j<64) (hs:s<64):(z &&& (18446744073709551615-bitN (j:Int))).testBit s=(z.testBit s && decide (s≠j)):=by
 have e:bitN (j:Int)=2 ^ j:=by unfold bitN; rw [if_pos (by omega)]; rfl
 have hp:=pow64 hj
 have e2:18446744073709551615-2 ^ j=2 ^ 64-(2 ^ j+1):=by omega
 rw [e,Nat.testBit_and,e2,Nat.testBit_two_pow_sub_succ (by omega),Nat.testBit_two_pow,decide_eq_true hs]
 congr 1
 rw [Bool.true_and,← decide_not]
 exact decide_eq_decide.2 ⟨fun h e=>h e.symm,fun h e=>h e.symm⟩
theorem WhIs.del {now turn c z:Nat} {L:List Tm} {sl:List Value} {XS:List Heap} {bs bs':List Nat} {l:Ents Int} (h:WhIs now L sl XS bs l c turn) {t:Tm} (ht:t∈L) {v':Value} {X':Heap}
  (hO:OwnS 3 1 v' (del1 (idsAt L t.key) t.id).length ((del1 (idsAt L t.key) t.id).map (Value.int .i64)) X') (hz:bs[t.s.lv]?=some z) (hb:bs'=if (del1 (idsAt L t.key) t.id).length=0 then bs.set t.s.lv (outL z [(t.s.slot:Int)]) else bs) :
  WhIs now (delT L t.id) (sl.set t.key v') (XS.set t.key X') bs' (mDel l t.id) c turn:=by
 have hs:=h.spot t ht
 have hk:t.key<512:=by unfold Tm.key; omega
 have hoth:∀ k,k≠t.key→del1 (idsAt L k) t.id=idsAt L k:=fun k hne=>del1_out (fun hin=>by
  obtain ⟨u,hu,h1,h2⟩:=idsAt_mem.1 hin
  exact hne (h1 ▸ tm_uniq h.nodup hu ht h2 ▸ rfl))
 have hin:∀ {p:Tm→Prop},(∀ t∈L,p t)→∀ u∈delT L t.id,p u:=fun h1 u hu=>h1 u (List.mem_filter.1 hu).1
 have hrow:RowOk (sl.set t.key v') bs':=by rw [hb]; split; exact (h.row.setSl _ _).setBs _ _; exact h.row.setSl _ _
 refine ⟨hrow,by rw [List.length_set,h.xs],fun k hk2=>?_,fun n hn=>?_,h.map.del t.id,?_,?_,?_,h.turns.filter _,hin h.last,hin h.range,hin h.spot,hin h.time⟩
 ·rw [idsAt_del]
  by_cases ek:t.key=k
  ·subst ek
   exact ⟨v',X',List.getElem?_set_self (by rw [h.row.sl]; exact hk),List.getElem?_set_self (by rw [h.xs]; exact hk),hO⟩
  ·rw [hoth k (fun e=>ek e.symm)]
   obtain ⟨v,X,h1,h2,h3⟩:=h.own k hk2
   exact ⟨v,X,by rw [List.getElem?_set_ne ek]; exact h1,by rw [List.getElem?_set_ne ek]; exact h2,h3⟩
 ·obtain ⟨zn,h1,h2,h3⟩:=h.busy n hn
  have keep:∀ s,s<64→n*64+s≠t.key→(zn.testBit s=true↔idsAt (delT L t.id) (n*64+s)≠[]):=fun s hs64 hne=>by rw [idsAt_del,hoth _ hne]; exact h3 s hs64
  by_cases he:(del1 (idsAt L t.key) t.id).length=0
  ·rw [hb,if_pos he]
   have hnil:=List.eq_nil_of_length_eq_zero he
   by_cases en:t.s.lv=n
   ·subst en
    obtain rfl:z=zn:=Option.some.inj (hz.symm.trans h1)
    refine ⟨_,List.getElem?_set_self (by rw [h.row.bs]; exact hn),outL_ok _ h2,fun s hs64=>?_⟩
    show (z &&& (18446744073709551615-bitN (t.s.slot:Int))).testBit s=true↔_
    rw [bit_out hs.2 hs64]
    by_cases es:s=t.s.slot
    ·subst es
     rw [idsAt_del,show t.s.lv*64+t.s.slot=t.key from rfl,hnil]; simp
    ·rw [decide_eq_true es,Bool.and_true]
     exact keep s hs64 (by unfold Tm.key; omega)
   ·exact ⟨zn,by rw [List.getElem?_set_ne en]; exact h1,h2,fun s hs64=>keep s hs64 (by unfold Tm.key; omega)⟩
  ·rw [hb,if_neg he]
   refine ⟨zn,h1,h2,fun s hs64=>?_⟩
   by_cases ek:n*64+s=t.key
   ·rw [h3 s hs64,ek,idsAt_del]
    exact ⟨fun _ e=>he (by rw [e]; rfl),fun _ e=>he (by rw [e]; rfl)⟩
   ·exact keep s hs64 ek
 ·have e1:(mDel l t.id).map (·.1)=(l.map (·.1)).filter (fun x=>decide (t.id≠x)):=by unfold mDel; rw [List.filter_map]; rfl
  have e2:(delT L t.id).map (·.id)=(L.map (·.id)).filter (fun x=>decide (t.id≠x)):=by
   unfold delT; rw [List.filter_map]; congr 1
   exact List.filter_congr fun u _=>decide_eq_decide.2 ⟨fun h e=>h e.symm,fun h e=>h e.symm⟩
  rw [e1,e2]; exact h.keys.filter _
 ·intro p hp
  obtain ⟨hp1,hp2⟩:=List.mem_filter.1 hp
  obtain ⟨u,hu,h1,h2⟩:=h.val p hp1
  exact ⟨u,List.mem_filter.2 ⟨hu,decide_eq_true (fun e=>of_decide_eq_true hp2 (e ▸ h1))⟩,h1,h2⟩
 ·exact h.nodup.sublist (List.Sublist.map _ List.filter_sublist)
theorem flat_out {XS:List Heap} {k:Nat} {B H:Heap} (h:XS[k]?=some B):HSub (XS.flatten++H) (B++((XS.set k []).flatten++H)) :=
 HSub.of_perm (((flat_take h).append_right H).trans (by rw [List.append_assoc]))
theorem flat_in {XS:List Heap} {k:Nat} {B H:Heap} (h:k<XS.length):HSub (B++((XS.set k []).flatten++H)) ((XS.set k B).flatten++H) :=
 by
 have h1:=(flat_put (B:=B) h).append_right H
 rw [List.append_assoc] at h1
 exact HSub.of_perm h1
inductive WheelH (bw now:Nat) (L:List Tm) (turn:Nat):Heap→Prop
 | mk {bm c:Nat} {sl:List Value} {XS:List Heap} {bs:List Nat} {l:Ents Int} (h:WhIs now L sl XS bs l c turn):WheelH bw now L turn ((bw,.cells 406 523 (whRow now sl bs bm turn))::(bm,.obj (mapO (Value.int .i64) l c))::XS.flatten)
theorem nodup_len:∀ {n:Nat} {l:List Int},l.Nodup→(∀ x∈l,0≤x∧x<(n:Int))→l.length≤n
 | 0,l,_,h=>by
  cases l with
  | nil=>exact Nat.le_refl _
  | cons x l=>have:=h x List.mem_cons_self; omega
 | n+1,l,hn,h=>by
  have h1:=nodup_len (n:=n) (hn.filter (fun x=>decide (x≠(n:Int)))) (fun x hx=>by
   obtain ⟨m1,m2⟩:=List.mem_filter.1 hx
   have:=h x m1
   have:=of_decide_eq_true m2
   omega)
  by_cases c:(n:Int)∈l
  ·have h2:l.length=(l.filter (fun x=>decide (x≠(n:Int)))).length+1:=by
    have e:l.erase (n:Int)=l.filter (fun x=>decide (x≠(n:Int))):=by
     rw [hn.erase_eq_filter]
     exact List.filter_congr fun x _=>by
      by_cases e:x=(n:Int) <;> simp [e]
    rw [← e,List.length_erase_of_mem c]
    have:=List.length_pos_of_mem c
    omega
   omega
  ·have h2:l.filter (fun x=>decide (x≠(n:Int)))=l:=List.filter_eq_self.2 fun x hx=>decide_eq_true (fun e=>c (e ▸ hx))
   rw [h2] at h1; omega
theorem WhIs.len {now turn c:Nat} {L:List Tm} {sl:List Value} {XS:List Heap} {bs:List Nat} {l:Ents Int} (h:WhIs now L sl XS bs l c turn):L.length≤256:=by
 have:=nodup_len (n:=256) h.nodup (fun x hx=>by
  obtain ⟨t,ht,rfl⟩:=List.mem_map.1 hx
  exact h.range t ht)
 rwa [List.length_map] at this
theorem idsAt_len (L:List Tm) (k:Nat):(idsAt L k).length≤L.length:=by
 unfold idsAt; rw [List.length_map]; exact List.length_filter_le _ _
theorem WhIs.miss {now turn c:Nat} {L:List Tm} {sl:List Value} {XS:List Heap} {bs:List Nat} {l:Ents Int} (h:WhIs now L sl XS bs l c turn) {id:Int} (hn:id ∉ L.map (·.id)):(mGet l id).getD zEnt=zEnt∧mHas l id=false:=by
 have h1:mHas l id=false:=by
  cases hh:mHas l id with
  | false=>rfl
  | true=>exact absurd (h.keys.mem_iff.1 (mHas_iff.1 hh)) hn
 refine ⟨?_,h1⟩
 unfold mGet
 cases hf:l.find? (fun p=>decide (id=p.1)) with
 | none=>rfl
 | some p =>
  exfalso
  have h2:=List.find?_some hf
  have h3:=List.mem_of_find?_eq_some hf
  have:id∈l.map (·.1):=by
   rw [of_decide_eq_true h2]; exact List.mem_map_of_mem h3
  exact hn (h.keys.mem_iff.1 this)
def quOf (Q:List (Int × Int)) (k:Int):List Int:=(Q.filter (fun p=>decide (p.2=k))).map (·.1)
structure QOk (n:Nat) (Q:List (Int × Int)):Prop where
 ids:(Q.map (·.1)).Nodup
 rng:∀ p∈Q,(0≤p.1∧p.1<256)∧0≤p.2∧p.2<(n:Int)
structure RunsIs (rn of_:List Int) (Rs:List (Int × Int)):Prop where
 len1:rn.length=256
 len2:of_.length=32
 b1:∀ x∈rn,0≤x∧x≤32
 b2:∀ x∈of_,0≤x∧x≤256
 r1:∀ (i c:Nat),(rn[i]?=some ((c:Int)+1)↔((i:Int),(c:Int))∈Rs)
 r2:∀ (i c:Nat),(of_[c]?=some ((i:Int)+1)↔((i:Int),(c:Int))∈Rs)
 rng:∀ p∈Rs,(0≤p.1∧p.1<256)∧0≤p.2∧p.2<32
 nd:Rs.Nodup
def peRow (v:Value) (rn of_:List Int):List Value:=v::(rn.map (Value.int .i64)++of_.map (Value.int .i64))
abbrev rbP (rb:Nat):Value:=.pointer (some ⟨rb,0,none⟩)
inductive PendH (pb n:Nat) (Q Rs:List (Int × Int)):Heap→Prop
 | mk {v:Value} {XQ:Heap} {XS:List Heap} {rbs:List Nat} {rn of_:List Int} (hv:OwnS 281 1 v n (rbs.map rbP) XQ) (hl:XS.length=n) (hr:∀ (k:Nat) rb X,rbs[k]?=some rb→XS[k]?=some X→RingH 256 rb (quOf Q (k:Int)) X) (hrun:RunsIs rn of_ Rs) (hq:QOk n Q):PendH pb n Q Rs ((pb,.cells 294 289 (peRow v rn of_))::(XQ++XS.flatten))
theorem quOf_sub {n:Nat} {Q:List (Int × Int)} (h:QOk n Q) (k:Int):(quOf Q k).Nodup∧(∀ x∈quOf Q k,0≤x∧x<256):=by
 have hs:List.Sublist (quOf Q k) (Q.map (·.1)):=List.filter_sublist.map _
 refine ⟨h.ids.sublist hs,fun x hx=>?_⟩
 obtain ⟨p,hp,rfl⟩:=List.mem_map.1 (hs.subset hx)
 exact (h.rng p hp).1
theorem quOf_len {n:Nat} {Q:List (Int × Int)} (h:QOk n Q) (k:Int):(quOf Q k).length≤256:=nodup_len (quOf_sub h k).1 (fun x hx=>(quOf_sub h k).2 x hx)
theorem RunsIs.idn {rn of_:List Int} {Rs:List (Int × Int)} (h:RunsIs rn of_ Rs) {p q:Int × Int} (hp:p∈Rs) (hq:q∈Rs) (e:p.1=q.1∨p.2=q.2):p=q:=by
 obtain ⟨i,a⟩:=p
 obtain ⟨j,b⟩:=q
 have h1:=h.rng _ hp
 have h2:=h.rng _ hq
 dsimp only at h1 h2 e
 obtain ⟨i,rfl⟩:∃ m:Nat,i=(m:Int):=⟨i.toNat,by omega⟩
 obtain ⟨j,rfl⟩:∃ m:Nat,j=(m:Int):=⟨j.toNat,by omega⟩
 obtain ⟨a,rfl⟩:∃ m:Nat,a=(m:Int):=⟨a.toNat,by omega⟩
 obtain ⟨b,rfl⟩:∃ m:Nat,b=(m:Int):=⟨b.toNat,by omega⟩
 rcases e with e | e
 ·have h3:=(h.r1 i a).2 hp
  rw [show i=j by omega,(h.r1 j b).2 hq] at h3
  have:=Option.some.inj h3
  rw [e,show a=b by omega]
 ·have h3:=(h.r2 i a).2 hp
  rw [show a=b by omega,(h.r2 j b).2 hq] at h3
  have:=Option.some.inj h3
  rw [e,show i=j by omega]
theorem peRow_len {v:Value} {rn of_:List Int} (h1:rn.length=256) (h2:of_.length=32):(peRow v rn of_).length=289:=by
 unfold peRow; simp [h1,h2]
theorem peRow_rn {v:Value} {rn of_:List Int} {i:Nat} {x:Int} (h:rn[i]?=some x):(peRow v rn of_)[1+i]?=some (.int .i64 x):=by
 unfold peRow
 rw [Nat.add_comm,List.getElem?_cons_succ,List.getElem?_append_left (by rw [List.length_map]; exact (List.getElem?_eq_some_iff.1 h).1),List.getElem?_map,h]; rfl
def inR (Rs:List (Int × Int)) (id:Int):Option Int:=(Rs.find? (fun p=>decide (p.1=id))).map (·.2)
def optV (o:Option Int):Value:=match o with
 | some x=>.tuple #[.int .i64 x,.bool true]
 | none=>.tuple #[.int .i64 0,.bool false]
theorem inR_some {rn of_:List Int} {Rs:List (Int × Int)} (h:RunsIs rn of_ Rs) {id c:Int}:inR Rs id=some c↔(id,c)∈Rs:=by
 unfold inR
 constructor
 ·intro e
  obtain ⟨p,hp,rfl⟩:=Option.map_eq_some_iff.1 e
  have h1:p.1=id:=by simpa using List.find?_some hp
  rw [← h1]; exact List.mem_of_find?_eq_some hp
 ·intro hm
  cases hf:Rs.find? (fun p=>decide (p.1=id)) with
  | none=>exact absurd (List.find?_eq_none.1 hf _ hm) (by simp)
  | some p =>
   have h1:p.1=id:=by simpa using List.find?_some hf
   have h2:=h.idn (List.mem_of_find?_eq_some hf) hm (.inl h1)
   rw [h2]; rfl
theorem queue_at {w0:World} {H:Heap} {pb n cap:Nat} {ad:Option Addr} {rbs:List Nat} {rn of_:List Int} (hm:(pb,.cells 294 289 (peRow (.slice ad n cap) rn of_))∈H) (hrow:Holds w0 H ad (rbs.map rbP)) (hl:rbs.length=n) (hn:n≤64) {k rb:Nat} (hk:rbs[k]?=some rb) :PureAt Tryz.prog w0 H 182 [.pointer (some ⟨pb,0,none⟩),.int .i64 (k:Int)] (rbP rb):=by
 have hkl:=(List.getElem?_eq_some_iff.1 hk).1
 obtain ⟨q0,p0,rfl,hc⟩:=hrow.at (i:=k) (v:=rbP rb) (by rw [List.getElem?_map,hk]; rfl)
 refine L_enter Tryz.func182 rfl Tryz.ntmps182 rfl rfl ?_
 refine W_sr (W_assign rfl rfl (W_nil (W_seq (W_sr (W_move rfl rfl ?_)))))
 refine W_x (X_ptrNil rfl rfl ty166) (fun _ h=>by cases h) rfl ?_
 refine W_move rfl rfl ?_
 apply W_or
 iterate 4 exact rfl
 case h1 =>
  intro hg2
  refine W_gyes rfl rfl (W_move rfl rfl (W_gyes rfl rfl (W_bin rfl rfl b_lss rfl ?_)))
  exact W_met rfl zR
 refine W_move rfl rfl ?_
 apply W_or
 iterate 4 exact rfl
 case h1 =>
  intro hg6
  refine W_gyes rfl rfl (W_move rfl rfl (W_gyes rfl rfl (W_move rfl rfl (W_gyes rfl rfl (W_nilCheck rfl rfl (W_gyes rfl rfl (W_fieldAddr rfl fld294_0 zd rfl ?_)))))))
  refine W_gyes rfl rfl (W_load (v:=.slice (some ⟨q0,p0,none⟩) n cap) rfl ty291 rfl (Cell.own (b:=pb) hm rfl) rfl ?_)
  refine W_gyes rfl rfl (W_len rfl ty291 rfl rfl ?_)
  refine W_gyes rfl rfl (W_bin rfl rfl b_geq rfl ?_)
  exact W_met rfl zR
 refine W_nil ?_
 refine W_condF rfl (by simp; omega) ?_
 refine W_skip (W_sr (W_move rfl rfl (W_nilCheck rfl rfl (W_fieldAddr rfl fld294_0 zd rfl ?_))))
 refine W_load (v:=.slice (some ⟨q0,p0,none⟩) n cap) rfl ty291 rfl (Cell.own (b:=pb) hm rfl) rfl ?_
 refine W_move rfl rfl ?_
 refine W_indexAddr (j:=k) rfl rfl ty291 ty281 (by first | rfl | omega) (by first | decide | omega | simp) rfl rfl ?_
 refine W_load (v:=rbP rb) rfl ty281 rfl (by rw [Nat.mul_one]; exact hc) rfl ?_
 refine W_assign rfl rfl (W_nil (W_ret1m (H2:=H) Tryz.results182 rfl (.nil _) zH ?_))
 exact ⟨rfl,rfl⟩
theorem thing_pure {id:Int}:Pure Tryz.prog (fun _=>True) 183 [.int .i64 id] (.bool (decide (0≤id) && decide (id<256))):=by
 intro w0 H hT
 refine L_enter Tryz.func183 rfl Tryz.ntmps183 rfl rfl ?_
 refine W_sr (W_assign rfl rfl (W_nil (W_sr (W_move rfl rfl (W_bin rfl rfl b_geq rfl ?_)))))
 refine W_move rfl rfl ?_
 apply W_and
 iterate 4 exact rfl
 case h1 =>
  intro hg2
  refine W_gyes rfl rfl (W_move rfl rfl (W_gyes rfl rfl (W_bin rfl rfl b_lss rfl ?_)))
  exact W_met rfl zR
 refine W_assign rfl rfl (W_nil (W_ret1m (H2:=H) Tryz.results183 rfl (.nil _) zH ?_))
 exact ⟨rfl,rfl⟩
theorem inR_none {rn of_:List Int} {Rs:List (Int × Int)} (h:RunsIs rn of_ Rs) {id:Int} (hi:¬ (0≤id∧id<256)):inR Rs id=none:=by
 cases e:inR Rs id with
 | none=>rfl
 | some c=>exact absurd (h.rng _ ((inR_some h).1 e)).1 hi
theorem inR_at {rn of_:List Int} {Rs:List (Int × Int)} (h:RunsIs rn of_ Rs) {i:Nat} {x:Int} (hx:rn[i]?=some x):inR Rs (i:Int)=if x=0 then none else some (x-1):=by
 have hb:=h.b1 x (List.mem_of_getElem? hx)
 by_cases c:x=0
 ·rw [if_pos c]
  cases e:inR Rs (i:Int) with
  | none=>rfl
  | some k =>
   have h1:=(inR_some h).1 e
   have h2:=h.rng _ h1
   obtain ⟨k,rfl⟩:∃ m:Nat,k=(m:Int):=⟨k.toNat,by have:=h2.2.1; dsimp only at this; omega⟩
   have h3:=(h.r1 i k).2 h1
   rw [hx] at h3
   have:=Option.some.inj h3
   omega
 ·rw [if_neg c,inR_some h]
  obtain ⟨k,hk⟩:∃ m:Nat,x-1=(m:Int):=⟨(x-1).toNat,by omega⟩
  rw [hk]
  exact (h.r1 i k).1 (by rw [hx]; congr 1; omega)
theorem Runs_no {w0:World} {H:Heap} {pb:Nat} {v:Value} {rn of_:List Int} {Rs:List (Int × Int)} (hm:(pb,.cells 294 289 (peRow v rn of_))∈H) (hR:RunsIs rn of_ Rs) {id:Int} (hi:¬ (0≤id∧id<256)) :PureAt Tryz.prog w0 H 252 [.pointer (some ⟨pb,0,none⟩),.int .i64 id] (optV (inR Rs id)):=by
 refine L_enter Tryz.func252 rfl Tryz.ntmps252 rfl rfl ?_
 refine W_sr (W_assign rfl rfl (W_assign rfl rfl (W_nil (W_seq (W_sr (W_move rfl rfl ?_))))))
 refine W_x (X_ptrNil rfl rfl ty166) (fun _ h=>by cases h) rfl ?_
 refine W_move rfl rfl (W_gyes rfl rfl (W_move rfl rfl (W_gyes rfl rfl ?_)))
 refine W_callp (.cons rfl .nil) Tryz.call183 rfl (T:=fun _=>True) trivial (thing_pure (id:=id)) ?_
 rw [show (decide (0≤id) && decide (id<256))=false by simp; omega]
 refine W_gyes rfl rfl (W_not rfl rfl ?_)
 first | refine W_pickt rfl rfl rfl ?_ | refine W_pickf rfl rfl rfl ?_
 refine W_move rfl rfl (W_gno rfl rfl rfl ?_)
 refine W_gno rfl rfl rfl ?_
 refine W_gno rfl rfl rfl ?_
 refine W_gno rfl rfl rfl ?_
 refine W_gno rfl rfl rfl ?_
 refine W_gno rfl rfl rfl ?_
 refine W_gno rfl rfl rfl ?_
 first | refine W_pickt rfl rfl rfl ?_ | refine W_pickf rfl rfl rfl ?_
 refine W_nil (W_condT rfl rfl (W_sr (W_assign rfl rfl (W_assign rfl rfl (W_nil (W_ret2m (H2:=H) Tryz.results252 rfl rfl (.nil _) zH ?_))))))
 rw [inR_none hR hi]
 exact ⟨rfl,rfl⟩
theorem Runs_in {w0:World} {H:Heap} {pb:Nat} {v:Value} {rn of_:List Int} {Rs:List (Int × Int)} (hm:(pb,.cells 294 289 (peRow v rn of_))∈H) (hR:RunsIs rn of_ Rs) {i:Nat} (hi:i<256) :PureAt Tryz.prog w0 H 252 [.pointer (some ⟨pb,0,none⟩),.int .i64 (i:Int)] (optV (inR Rs (i:Int))):=by
 obtain ⟨x,hx⟩:∃ x,rn[i]?=some x:=⟨_,List.getElem?_eq_getElem (by rw [hR.len1]; exact hi)⟩
 have hb:=hR.b1 x (List.mem_of_getElem? hx)
 refine L_enter Tryz.func252 rfl Tryz.ntmps252 rfl rfl ?_
 refine W_sr (W_assign rfl rfl (W_assign rfl rfl (W_nil (W_seq (W_sr (W_move rfl rfl ?_))))))
 refine W_x (X_ptrNil rfl rfl ty166) (fun _ h=>by cases h) rfl ?_
 refine W_move rfl rfl (W_gyes rfl rfl (W_move rfl rfl (W_gyes rfl rfl ?_)))
 refine W_callp (.cons rfl .nil) Tryz.call183 rfl (T:=fun _=>True) trivial (thing_pure (id:=(i:Int))) ?_
 rw [show (decide (0≤(i:Int)) && decide ((i:Int)<256))=true by simp; omega]
 refine W_gyes rfl rfl (W_not rfl rfl ?_)
 first | refine W_pickt rfl rfl rfl ?_ | refine W_pickf rfl rfl rfl ?_
 refine W_move rfl rfl (W_gyes rfl rfl (W_move rfl rfl (W_gyes rfl rfl (W_move rfl rfl (W_gyes rfl rfl (W_nilCheck rfl rfl (W_gyes rfl rfl ?_)))))))
 refine W_fieldAddr rfl fld294_1 zd rfl ?_
 refine W_gyes rfl rfl ?_
 refine W_indexAddrA (j:=i) rfl rfl ty292 ty3 (by first | rfl | omega) (by first | decide | omega | simp) rfl rfl ?_
 refine W_gyes rfl rfl ?_
 refine W_load (v:=.int .i64 x) rfl ty3 rfl (Cell.own (b:=pb) hm (by simpa using peRow_rn hx)) rfl ?_
 refine W_gyes rfl rfl (W_bin rfl rfl b_eql rfl ?_)
 first | refine W_pickt rfl rfl rfl ?_ | refine W_pickf rfl rfl rfl ?_
 refine W_nil ?_
 refine W_condPS (p:=x=0) rfl (by simp) (fun q0=>?_) (fun q0=>?_)
 ·skip
  refine W_sr (W_assign rfl rfl (W_assign rfl rfl (W_nil (W_ret2m (H2:=H) Tryz.results252 rfl rfl (.nil _) zH ?_))))
  rw [inR_at hR hx,if_pos q0]
  exact ⟨rfl,rfl⟩
 ·skip
  refine W_skip (W_sr (W_move rfl rfl (W_move rfl rfl (W_nilCheck rfl rfl (W_fieldAddr rfl fld294_1 zd rfl ?_)))))
  refine W_indexAddrA (j:=i) rfl rfl ty292 ty3 (by first | rfl | omega) (by first | decide | omega | simp) rfl rfl ?_
  refine W_load (v:=.int .i64 x) rfl ty3 rfl (Cell.own (b:=pb) hm (by simpa using peRow_rn hx)) rfl ?_
  refine W_bin rfl rfl (b_sub (m:=x-1) (by rw [i64w (by omega)])) rfl ?_
  refine W_assign rfl rfl (W_assign rfl rfl (W_nil (W_ret2m (H2:=H) Tryz.results252 rfl rfl (.nil _) zH ?_)))
  rw [inR_at hR hx,if_neg q0]
  exact ⟨rfl,rfl⟩
theorem Runs_q {w0:World} {H:Heap} {pb:Nat} {v:Value} {rn of_:List Int} {Rs:List (Int × Int)} (hm:(pb,.cells 294 289 (peRow v rn of_))∈H) (hR:RunsIs rn of_ Rs) {id:Int}:PureAt Tryz.prog w0 H 252 [.pointer (some ⟨pb,0,none⟩),.int .i64 id] (optV (inR Rs id)):=by
 by_cases h:0≤id∧id<256
 ·obtain ⟨i,rfl⟩:∃ k:Nat,id=(k:Int):=⟨id.toNat,by omega⟩
  exact Runs_in hm hR zO
 ·exact Runs_no hm hR h
theorem PendH.ok {pb n:Nat} {Q Rs:List (Int × Int)} {HB:Heap} (h:PendH pb n Q Rs HB):QOk n Q:=by cases h; assumption
theorem PendH.at {pb n k:Nat} {Q Rs:List (Int × Int)} {HB:Heap} (h:PendH pb n Q Rs HB) (hn:n≤64) (hk:k<n):∃ rb X HR,RingH 256 rb (quOf Q (k:Int)) X∧(∀ {w0:World} {H:Heap},(∀ p∈HB,p∈H)→PureAt Tryz.prog w0 H 182 [.pointer (some ⟨pb,0,none⟩),.int .i64 (k:Int)] (rbP rb)) ∧
  (∀ H,HSub (HB++H) (X++(HR++H)))∧(∀ H,HSub (X++(HR++H)) (HB++H)) ∧
  (∀ (Q':List (Int × Int)) X',RingH 256 rb (quOf Q' (k:Int)) X'→(∀ j:Nat,j≠k→quOf Q' (j:Int)=quOf Q (j:Int))→QOk n Q'→∃ HB',PendH pb n Q' Rs HB'∧∀ H,HSub (X'++(HR++H)) (HB'++H)):=by
 cases h with
 | @mk v XQ XS rbs rn of_ hv hl hr hrun hq =>
  have hvl:=hv.length
  rw [List.length_map,Nat.mul_one] at hvl
  obtain ⟨rb,hrb⟩:∃ rb,rbs[k]?=some rb:=⟨_,List.getElem?_eq_getElem zO⟩
  obtain ⟨X,hX⟩:∃ X,XS[k]?=some X:=⟨_,List.getElem?_eq_getElem zO⟩
  have hp:∀ H,(((pb,.cells 294 289 (peRow v rn of_))::(XQ++XS.flatten))++H).Perm (X++(((pb,.cells 294 289 (peRow v rn of_))::(XQ++(XS.set k []).flatten))++H)):=fun H=>by
   have h1:=((flat_take hX).append_left ((pb,.cells 294 289 (peRow v rn of_))::XQ)).append_right H
   refine List.Perm.trans (List.Perm.of_eq ?_) (h1.trans ?_)
   ·simp only [List.cons_append,List.append_assoc]
   ·have e:((pb,.cells 294 289 (peRow v rn of_))::XQ++(X++(XS.set k []).flatten))++H=((pb,.cells 294 289 (peRow v rn of_))::XQ)++(X++((XS.set k []).flatten++H)):=by simp only [List.cons_append,List.append_assoc]
    rw [e]
    refine (List.perm_append_comm_assoc _ _ _).trans (List.Perm.of_eq ?_)
    simp only [List.cons_append,List.append_assoc]
  refine ⟨rb,X,(pb,.cells 294 289 (peRow v rn of_))::(XQ++(XS.set k []).flatten),hr k rb X hrb hX,fun {w0 H} hm=>?_,fun H=>HSub.of_perm (hp H),fun H=>HSub.of_perm (hp H).symm,fun Q' X' hR' hj hq'=>?_⟩
  ·obtain ⟨ad,cap,rfl,_,_,hrow⟩:=Holds.of_own (w0:=w0) (H:=H) hv (fun p hp=>hm p (List.mem_cons_of_mem _ (List.mem_append_left _ hp)))
   exact queue_at (n:=n) (hm _ List.mem_cons_self) hrow zO hn hrb
  ·refine ⟨(pb,.cells 294 289 (peRow v rn of_))::(XQ++(XS.set k X').flatten),.mk hv (by rw [List.length_set,hl]) (fun j rb2 Y h1 h2=>?_) hrun hq',fun H=>?_⟩
   ·by_cases c:k=j
    ·subst c
     rw [List.getElem?_set_self (by omega)] at h2
     obtain rfl:=Option.some.inj h2
     obtain rfl:=Option.some.inj (h1.symm.trans hrb)
     exact hR'
    ·rw [List.getElem?_set_ne c] at h2
     rw [hj j (fun e=>c e.symm)]
     exact hr j rb2 Y h1 h2
   ·have h1:=((flat_put (B:=X') (XS:=XS) (k:=k) zO).append_left ((pb,.cells 294 289 (peRow v rn of_))::XQ)).append_right H
    refine HSub.of_perm (List.Perm.trans ?_ (h1.trans (List.Perm.of_eq ?_)))
    ·have e:((pb,.cells 294 289 (peRow v rn of_))::XQ++(X'++(XS.set k []).flatten))++H=((pb,.cells 294 289 (peRow v rn of_))::XQ)++(X'++((XS.set k []).flatten++H)):=by simp only [List.cons_append,List.append_assoc]
     rw [e]
     refine List.Perm.trans (List.Perm.of_eq ?_) (List.perm_append_comm_assoc _ _ _).symm.symm
     simp only [List.cons_append,List.append_assoc]
    ·simp only [List.cons_append,List.append_assoc]
theorem PendH.runs {pb n:Nat} {Q Rs:List (Int × Int)} {HB:Heap} (h:PendH pb n Q Rs HB):∃ v XX rn of_,HB=(pb,.cells 294 289 (peRow v rn of_))::XX∧RunsIs rn of_ Rs∧∀ rn' of' Rs',RunsIs rn' of' Rs'→PendH pb n Q Rs' ((pb,.cells 294 289 (peRow v rn' of'))::XX):=by
 cases h with
 | @mk v XQ XS rbs rn of_ hv hl hr hrun hq=>exact ⟨v,_,rn,of_,rfl,hrun,fun rn' of' Rs' h=>.mk hv hl hr h hq⟩
theorem PendH.Runs_q {pb n:Nat} {Q Rs:List (Int × Int)} {HB:Heap} (h:PendH pb n Q Rs HB) {w0:World} {H:Heap} (hm:∀ p∈HB,p∈H) {id:Int}:PureAt Tryz.prog w0 H 252 [.pointer (some ⟨pb,0,none⟩),.int .i64 id] (optV (inR Rs id)):=by
 obtain ⟨v,XX,rn,of_,rfl,hR,_⟩:=h.runs
 exact Go.Proofs.YtincjohoncljoaaGreatDoor.Runs_q (hm _ List.mem_cons_self) hR
theorem pall_L {w0:World} {H:Heap} {pb:Nat} {cpu:Int} :LCalls Tryz.prog w0 272 #[.pointer (some ⟨pb,0,none⟩),.int .i64 cpu] (H) (fun v H'=>∃ b2 b3,v=.func (.func 365) #[] #[.pointer (some ⟨b2,0,none⟩),.pointer (some ⟨b3,0,none⟩)]∧H'=(b3,.cells 3 1 [.int .i64 cpu])::(b2,.cells 166 1 [.pointer (some ⟨pb,0,none⟩)])::H):=by
 refine L_enter (l:=[.pointer (some ⟨pb,0,none⟩),.int .i64 cpu]) Tryz.func272 rfl Tryz.ntmps272 rfl rfl ?_
 refine W_sr ?_
 refine W_box (l:=[.pointer (some ⟨pb,0,none⟩)]) rfl rfl rfl (fun b2=>?_)
 refine W_box (l:=[.int .i64 cpu]) rfl rfl rfl (fun b3=>?_)
 refine W_assign rfl rfl (W_nil (W_sr (W_makeFunc .nil (.cons rfl (.cons rfl .nil)) rfl ?_)))
 refine W_assign rfl rfl (W_nil (W_ret1m Tryz.results272 rfl (.nil _) (.refl _) ?_))
 exact ⟨b2,b3,rfl,rfl⟩
theorem pall_iter {w0:World} {H HB:Heap} {lp b2 b3 pb n k:Nat} {Q Rs:List (Int × Int)} (hP:PendH pb n Q Rs HB) (hn:n≤64) (hk:k<n) (J:Nat→Heap→Prop) (S:Heap→Prop)
  (hround:∀ i x Hi XB,(quOf Q (k:Int))[i]?=some x→J i Hi→RoundC Tryz.prog w0 lp #[.int .i64 (i:Int),.int .i64 x] (XB++((b2,.cells 166 1 [.pointer (some ⟨pb,0,none⟩)])::(b3,.cells 3 1 [.int .i64 (k:Int)])::(HB++Hi))) (fun v H'=>∃ Hi',HSub H' (XB++((b2,.cells 166 1 [.pointer (some ⟨pb,0,none⟩)])::(b3,.cells 3 1 [.int .i64 (k:Int)])::(HB++Hi')))∧((v=.bool true∧J (i+1) Hi')∨(v=.bool false∧S Hi')))) (hJ:J 0 H) :
  LCalls Tryz.prog w0 365 #[.func (.yield lp) #[] #[],.pointer (some ⟨b2,0,none⟩),.pointer (some ⟨b3,0,none⟩)] ((b2,.cells 166 1 [.pointer (some ⟨pb,0,none⟩)])::(b3,.cells 3 1 [.int .i64 (k:Int)])::(HB++H)) (fun _ H'=>∃ Hi',HSub H' ((b2,.cells 166 1 [.pointer (some ⟨pb,0,none⟩)])::(b3,.cells 3 1 [.int .i64 (k:Int)])::(HB++Hi'))∧(J (quOf Q (k:Int)).length Hi'∨S Hi')):=by
 have hql:=quOf_len hP.ok (k:Int)
 obtain ⟨rb,X,HR,hR,hqu,ho1,ho2,hup⟩:=hP.at hn hk
 refine L_enter (l:=[.func (.yield lp) #[] #[],.pointer (some ⟨b2,0,none⟩),.pointer (some ⟨b3,0,none⟩)]) Tryz.func365 rfl Tryz.ntmps365 rfl rfl ?_
 refine W_sr (W_load (v:=.pointer (some ⟨pb,0,none⟩)) rfl ty166 rfl (Cell.own (b:=b2) zM rfl) rfl ?_)
 refine W_load (v:=.int .i64 (k:Int)) rfl ty3 rfl (Cell.own (b:=b3) zM rfl) rfl ?_
 refine W_callq (.cons rfl (.cons rfl .nil)) Tryz.call182 rfl (hqu (fun p hp=>List.mem_cons_of_mem _ (List.mem_cons_of_mem _ (List.mem_append_left _ hp)))) ?_
 refine W_hsub (H':=X++((b2,.cells 166 1 [.pointer (some ⟨pb,0,none⟩)])::(b3,.cells 3 1 [.int .i64 (k:Int)])::(HR++H))) ((show HSub _ ((b2,.cells 166 1 [.pointer (some ⟨pb,0,none⟩)])::(b3,.cells 3 1 [.int .i64 (k:Int)])::(X++(HR++H))) from .cons (.here _) (.cons (.here _) (ho1 H))).trans zH) ?_
 refine W_call (.cons rfl .nil) Tryz.call366 rfl (rList_L hR) ?_
 rintro v H' ⟨XB,hXB,rfl⟩
 obtain ⟨ad,cap,rfl,hlc,hcm,hrow⟩:=Holds.of_own (w0:=w0) (H:=XB++[]) hXB (fun p hp=>List.mem_append_left _ hp)
 refine W_hsub (H':=XB++((b2,.cells 166 1 [.pointer (some ⟨pb,0,none⟩)])::(b3,.cells 3 1 [.int .i64 (k:Int)])::(HB++H))) ((show HSub _ (XB++((b2,.cells 166 1 [.pointer (some ⟨pb,0,none⟩)])::(b3,.cells 3 1 [.int .i64 (k:Int)])::(X++(HR++H)))) from zH).trans (.app (.here _) (.cons (.here _) (.cons (.here _) (ho2 H))))) ?_
 refine W_len rfl ty63 rfl rfl ?_
 refine W_move rfl rfl (W_nil (W_block ?_))
 refine W_loopC (X:=(Nat × Heap)) [(0,_),(9,_),(10,_)] (fun (x:(Nat × Heap))=>[(11,.int .i64 (x.1:Int))]) (fun _=>_) (fun (x:(Nat × Heap))=>XB++((b2,.cells 166 1 [.pointer (some ⟨pb,0,none⟩)])::(b3,.cells 3 1 [.int .i64 (k:Int)])::(HB++x.2))) (fun (x:(Nat × Heap))=>x.1≤(quOf Q (k:Int)).length∧J x.1 x.2) (fun (x:(Nat × Heap))=>(quOf Q (k:Int)).length-x.1) (0,H) ⟨Nat.zero_le _,hJ⟩ (sub_cons rfl (sub_cons rfl (sub_cons rfl (sub_nil _)))) (sub_cons rfl (sub_nil _)) rfl (.refl _) ?_
 rintro ⟨i,Hi⟩ ⟨hi,hJi⟩
 dsimp only at hi hJi ⊢
 simp only [List.cons_append,List.nil_append]
 refine W_sr (W_bin rfl rfl b_lss rfl ?_)
 refine W_nil (W_seq ?_)
 refine W_condPS (p:=(i:Int)<((quOf Q (k:Int)).length:Int)) rfl (by simp) (fun q0=>?_) (fun q0=>?_)
 ·skip
  refine W_skip (W_seq (W_block (W_sr (W_move rfl rfl ?_))))
  obtain ⟨x,hx⟩:∃ x,(quOf Q (k:Int))[i]?=some x:=⟨_,List.getElem?_eq_getElem zO⟩
  obtain ⟨q0,p0,rfl,hcx⟩:=hrow.at (i:=i) (v:=.int .i64 x) (by rw [List.getElem?_map,hx]; rfl)
  refine W_indexAddr (j:=i) rfl rfl ty63 ty3 rfl zO rfl rfl ?_
  refine W_load (v:=.int .i64 x) rfl ty3 rfl (by rw [Nat.mul_one]; exact hcx.up (HSub.app (.here _) (.nil _))) rfl ?_
  refine W_assign rfl rfl (W_assign rfl rfl (W_nil (W_sr (W_move rfl rfl (W_move rfl rfl (W_move rfl rfl (W_yield rfl (.cons rfl (.cons rfl .nil)) rfl ((hround i x Hi XB hx hJi).hsub zH) ?_)))))))
  rintro v H' ⟨Hi',hsub,⟨rfl,hJ'⟩ | ⟨rfl,hS'⟩⟩
  ·skip
   refine W_hsub hsub ?_
   refine W_not rfl rfl ?_
   refine W_nil (W_condF rfl rfl (W_skip (W_blk (W_region ?_))))
   refine W_bin rfl rfl (b_add (m:=((i+1:Nat):Int)) (by rw [i64w (by omega)]; omega)) rfl ?_
   refine W_move rfl rfl (W_nil ?_)
   refine W_again (i+1,Hi') ⟨by show i+1≤_; omega,hJ'⟩ (by show (quOf Q (k:Int)).length-(i+1)<(quOf Q (k:Int)).length-i; omega) (sub_cons rfl (sub_cons rfl (sub_cons rfl (sub_cons rfl (sub_nil _))))) rfl (.refl _)
  ·skip
   refine W_hsub hsub ?_
   refine W_not rfl rfl ?_
   refine W_nil (W_condT rfl rfl (W_ret0m Tryz.results365 (.nil _) (.refl _) ?_))
   exact ⟨Hi',.dropS (.refl _),.inr hS'⟩
 ·skip
  refine W_exit rfl ?_
  refine W_end0m Tryz.results365 (.nil _) (.refl _) ?_
  obtain rfl:i=(quOf Q (k:Int)).length:=by omega
  exact ⟨Hi,.dropS (.refl _),.inl hJi⟩
abbrev dB (D:Nat):Nat × Blk:=(D,.obj (.deferred (some [])))
theorem marks_list {H:Heap}:∀ (Ds:List Nat),Marks (Ds.map Go.Sl.mark) (Ds.map dB++H) H
 | []=>.nil _
 | D::Ds=>.cons (.here _) (marks_list Ds)
theorem PendH.slice {pb n:Nat} {Q Rs:List (Int × Int)} {HB:Heap} (h:PendH pb n Q Rs HB):∃ ad cap rn of_,(pb,.cells 294 289 (peRow (.slice ad n cap) rn of_))∈HB:=by
 cases h with
 | @mk v XQ XS rbs rn of_ hv hl hr hrun hq =>
  obtain ⟨ad,cap,rfl,_,_⟩:=hv.shape
  exact ⟨ad,cap,rn,of_,List.mem_cons_self⟩
def FindIs (n:Nat) (Q:List (Int × Int)) (id:Int) (v:Value):Prop:=(v=.tuple #[.int .i64 0,.int .i64 0,.bool false]∧∀ k:Nat,k<n→id ∉ quOf Q (k:Int))∨∃ k i:Nat,v=.tuple #[.int .i64 (k:Int),.int .i64 (i:Int),.bool true]∧k<n∧(quOf Q (k:Int))[i]?=some id
theorem mem_quOf {Q:List (Int × Int)} {id k:Int}:id∈quOf Q k↔(id,k)∈Q:=by
 unfold quOf
 rw [List.mem_map]
 constructor
 ·rintro ⟨p,hp,rfl⟩
  obtain ⟨h1,h2⟩:=List.mem_filter.1 hp
  rw [← of_decide_eq_true h2]; exact h1
 ·exact fun h=>⟨_,List.mem_filter.2 ⟨h,decide_eq_true rfl⟩,rfl⟩
def whQ (Q:List (Int × Int)) (id:Int):Option Int:=(Q.find? (fun p=>decide (p.1=id))).map (·.2)
theorem whQ_some {n:Nat} {Q:List (Int × Int)} (h:QOk n Q) {id k:Int}:whQ Q id=some k↔(id,k)∈Q:=by
 unfold whQ
 constructor
 ·intro e
  obtain ⟨p,hp,rfl⟩:=Option.map_eq_some_iff.1 e
  have h1:p.1=id:=by simpa using List.find?_some hp
  rw [← h1]; exact List.mem_of_find?_eq_some hp
 ·intro hm
  cases hf:Q.find? (fun p=>decide (p.1=id)) with
  | none=>exact absurd (List.find?_eq_none.1 hf _ hm) (by simp)
  | some p =>
   have h1:p.1=id:=by simpa using List.find?_some hf
   have h2:p=(id,k):=by
    obtain ⟨i,hi,ei⟩:=List.getElem_of_mem (List.mem_of_find?_eq_some hf)
    obtain ⟨j,hj,ej⟩:=List.getElem_of_mem hm
    have e:i=j:=(List.getElem_inj (xs:=Q.map (·.1)) (h₀:=by simpa using hi) (h₁:=by simpa using hj) h.ids).1 (by simp only [List.getElem_map]; rw [ei,ej]; exact h1)
    subst e
    rw [← ei,ej]
   rw [h2]; rfl
theorem FindIs.wh {n:Nat} {Q:List (Int × Int)} {id:Int} {v:Value} (h:FindIs n Q id v) (hq:QOk n Q):(v=.tuple #[.int .i64 0,.int .i64 0,.bool false]∧whQ Q id=none)∨∃ k i:Nat,v=.tuple #[.int .i64 (k:Int),.int .i64 (i:Int),.bool true]∧k<n∧(quOf Q (k:Int))[i]?=some id∧whQ Q id=some (k:Int):=by
 rcases h with ⟨h,hno⟩ | ⟨k,i,h,hk,hi⟩
 ·refine .inl ⟨h,?_⟩
  cases e:whQ Q id with
  | none=>rfl
  | some c =>
   have h1:=(whQ_some hq).1 e
   have h2:=(hq.rng _ h1).2
   dsimp only at h2
   obtain ⟨c,rfl⟩:∃ m:Nat,c=(m:Int):=⟨c.toNat,by omega⟩
   exact absurd (mem_quOf.2 h1) (hno c zO)
 ·exact .inr ⟨k,i,h,hk,hi,(whQ_some hq).2 (mem_quOf.1 (List.mem_of_getElem? hi))⟩
theorem snoc_no {Q:List Int} {i:Nat} {x id:Int} (h:∀ (j:Nat) y,j<i→Q[j]?=some y→y≠id) (hx:Q[i]?=some x) (hn:x≠id):∀ (j:Nat) y,j<i+1→Q[j]?=some y→y≠id:=fun j y hj hy=>by
 by_cases e:j=i
 ·subst e
  obtain rfl:=Option.some.inj (hy.symm.trans hx)
  exact hn
 ·exact h j y zO hy
theorem whc_q {w0:World} {H:Heap} {bi:Nat} {id x:Int} (hb:(bi,.cells 3 1 [.int .i64 id])∈H) :PureAt Tryz.prog w0 H 190 [.int .i64 x,.pointer (some ⟨bi,0,none⟩)] (.bool (decide (x=id))):=by
 refine L_enter Tryz.func190 rfl Tryz.ntmps190 rfl rfl ?_
 refine W_sr (W_assign rfl rfl (W_nil (W_sr (W_move rfl rfl (W_load (v:=.int .i64 id) rfl ty3 rfl (Cell.own hb rfl) rfl ?_)))))
 refine W_bin rfl rfl b_eql rfl ?_
 refine W_assign rfl rfl (W_nil (W_ret1m (H2:=H) Tryz.results190 rfl (.nil _) zH ?_))
 exact ⟨rfl,rfl⟩
theorem dec_q {w0:World} {H:Heap} {bi:Nat} {id x:Int} (hb:(bi,.cells 3 1 [.int .i64 id])∈H) :PureAt Tryz.prog w0 H 265 [.int .i64 x,.pointer (some ⟨bi,0,none⟩)] (.bool (decide (x=id))):=by
 refine L_enter Tryz.func265 rfl Tryz.ntmps265 rfl rfl ?_
 refine W_sr (W_assign rfl rfl (W_nil (W_sr (W_move rfl rfl (W_load (v:=.int .i64 id) rfl ty3 rfl (Cell.own hb rfl) rfl ?_)))))
 refine W_bin rfl rfl b_eql rfl ?_
 refine W_assign rfl rfl (W_nil (W_ret1m (H2:=H) Tryz.results265 rfl (.nil _) zH ?_))
 exact ⟨rfl,rfl⟩
theorem find_L {w0:World} {H:Heap} {HB:Heap} {pb n bi fi:Nat} {id:Int} {Q Rs:List (Int × Int)} (hP:PendH pb n Q Rs HB) (hn:n≤64) (hbi:(bi,.cells 3 1 [.int .i64 id])∈H) (hfi:∀ (args:Array Value) (w:World),(callFunc fi args).run Tryz.prog w=.ok (.enter fi args) w) (hcl:∀ (x:Int) (H:Heap),(bi,.cells 3 1 [.int .i64 id])∈H→PureAt Tryz.prog w0 H fi [.int .i64 x,.pointer (some ⟨bi,0,none⟩)] (.bool (decide (x=id)))) :LCalls Tryz.prog w0 189 #[.pointer (some ⟨pb,0,none⟩),.func (.func fi) #[] #[.pointer (some ⟨bi,0,none⟩)]] (HB++H) (fun v H'=>FindIs n Q id v∧H'=HB++H):=by
 obtain ⟨ad,cap,rn,of_,hpe⟩:=hP.slice
 refine L_enter (l:=[.pointer (some ⟨pb,0,none⟩),.func (.func fi) #[] #[.pointer (some ⟨bi,0,none⟩)]]) Tryz.func189 rfl Tryz.ntmps189 rfl rfl ?_
 refine W_sr ?_
 refine W_box (l:=[.func (.func fi) #[] #[.pointer (some ⟨bi,0,none⟩)]]) rfl rfl rfl (fun b3=>?_)
 refine W_alloc (l:=[.int .i64 0]) ty3 rfl rfl (fun b4=>?_)
 refine W_alloc (l:=[.int .i64 0]) ty3 rfl rfl (fun b5=>?_)
 refine W_alloc (l:=[.bool false]) ty4 rfl rfl (fun b6=>?_)
 refine W_nil (W_seq (W_sr (W_move rfl rfl ?_)))
 refine W_x (X_ptrNil rfl rfl ty166) (fun _ h=>by cases h) rfl ?_
 refine W_nil (W_condF rfl rfl (W_skip (W_seq (W_sr (W_move rfl rfl (W_nilCheck rfl rfl (W_fieldAddr rfl fld294_0 zd rfl ?_)))))))
 refine W_load (v:=.slice ad n cap) rfl ty291 rfl (Cell.own (b:=pb) (by repeat (first | exact List.mem_append_left _ hpe | exact List.mem_cons_self | apply List.mem_cons_of_mem | apply List.mem_append_right)) rfl) rfl ?_
 refine W_len rfl ty291 rfl rfl ?_
 refine W_move rfl rfl (W_nil (W_block ?_))
 refine W_loopC (X:=(Nat × List Nat)) [(0,_),(3,_),(4,_),(5,_),(6,_),(16,_)] (fun (x:(Nat × List Nat))=>[(17,.int .i64 (x.1:Int))]) (fun (x:(Nat × List Nat))=>x.2.map Go.Sl.mark) (fun (x:(Nat × List Nat))=>HB++(x.2.map dB++((b6,.cells 4 1 [.bool false])::(b5,.cells 3 1 [.int .i64 0])::(b4,.cells 3 1 [.int .i64 0])::(b3,.cells 172 1 [.func (.func fi) #[] #[.pointer (some ⟨bi,0,none⟩)]])::H))) (fun (x:(Nat × List Nat))=>x.1≤n∧∀ j:Nat,j<x.1→id ∉ quOf Q (j:Int)) (fun (x:(Nat × List Nat))=>n-x.1) (0,[]) ⟨Nat.zero_le _,fun j hj=>absurd hj (Nat.not_lt_zero _)⟩ (sub_cons rfl (sub_cons rfl (sub_cons rfl (sub_cons rfl (sub_cons rfl (sub_cons rfl (sub_nil _))))))) (sub_cons rfl (sub_nil _)) rfl (show HSub _ (HB++([]++((b6,.cells 4 1 [.bool false])::(b5,.cells 3 1 [.int .i64 0])::(b4,.cells 3 1 [.int .i64 0])::(b3,.cells 172 1 [.func (.func fi) #[] #[.pointer (some ⟨bi,0,none⟩)]])::H))) from zH) ?_
 rintro ⟨k,Ds⟩ ⟨hk,hno⟩
 dsimp only at hk hno ⊢
 simp only [List.cons_append,List.nil_append]
 refine W_sr (W_bin rfl rfl b_lss rfl ?_)
 refine W_nil (W_seq ?_)
 refine W_condPS (p:=(k:Int)<(n:Int)) rfl (by simp) (fun q0=>?_) (fun q0=>?_)
 ·skip
  refine W_skip (W_seq (W_block (W_sr (W_move rfl rfl ?_))))
  refine W_alloc (l:=[.int .i64 0]) ty3 rfl rfl (fun b7=>?_)
  refine W_store (l':=[.int .i64 (k:Int)]) rfl rfl ty3 rfl rfl (b:=b7) zM rfl rfl zU ?_
  refine W_nil (W_sr (W_move rfl rfl (W_load (v:=.int .i64 (k:Int)) rfl ty3 rfl (Cell.own (b:=b7) zM rfl) rfl ?_)))
  refine W_call (.cons rfl (.cons rfl .nil)) Tryz.call272 rfl (pall_L) ?_
  rintro v H' ⟨c2,c3,rfl,rfl⟩
  refine W_nil (W_block (W_rangeFunc rfl Tryz.call365 ?_))
  intro lp D r hst hpd hps hasg hbody hA
  have hr:=loop_ready hst hpd
  show LCalls _ _ _ #[_,_,_] _ _
  refine ((pall_iter (b2:=c2) (b3:=c3) (H:=(lp,.obj (.loop r))::(D,.obj (.deferred (some [])))::((b7,.cells 3 1 [.int .i64 (k:Int)])::(Ds.map dB++((b6,.cells 4 1 [.bool false])::(b5,.cells 3 1 [.int .i64 0])::(b4,.cells 3 1 [.int .i64 0])::(b3,.cells 172 1 [.func (.func fi) #[] #[.pointer (some ⟨bi,0,none⟩)]])::H)))) hP hn (k:=k) zO (fun i Hi=>(∀ (j:Nat) y,j<i→(quOf Q (k:Int))[j]?=some y→y≠id)∧Hi=(lp,.obj (.loop r))::(D,.obj (.deferred (some [])))::((b7,.cells 3 1 [.int .i64 (k:Int)])::(Ds.map dB++((b6,.cells 4 1 [.bool false])::(b5,.cells 3 1 [.int .i64 0])::(b4,.cells 3 1 [.int .i64 0])::(b3,.cells 172 1 [.func (.func fi) #[] #[.pointer (some ⟨bi,0,none⟩)]])::H)))) (fun Hi=>∃ i:Nat,(quOf Q (k:Int))[i]?=some id∧Hi=(lp,.obj (.loop (Loop.at r .done (some .ret))))::(D,.obj (.deferred (some [])))::((b7,.cells 3 1 [.int .i64 (k:Int)])::(Ds.map dB++((b6,.cells 4 1 [.bool true])::(b5,.cells 3 1 [.int .i64 (i:Int)])::(b4,.cells 3 1 [.int .i64 (k:Int)])::(b3,.cells 172 1 [.func (.func fi) #[] #[.pointer (some ⟨bi,0,none⟩)]])::H)))) ?_ ⟨fun j y hj=>absurd hj (Nat.not_lt_zero _),rfl⟩).hsub zH).mono ?_
  ·intro i x Hi XB hx hJ
   obtain ⟨hJ1,rfl⟩:=hJ
   refine round_intro hst hpd hA hps rfl hasg rfl rfl rfl zT ?_
   refine W_sr (W_assign rfl rfl (W_nil (W_region (W_assign rfl rfl (W_nil (W_begin hst hpd zT hbody ?_))))))
   refine W_block (W_sr (W_load (v:=.func (.func fi) #[] #[.pointer (some ⟨bi,0,none⟩)]) rfl ty172 rfl (Cell.own (b:=b3) zM rfl) rfl ?_))
   refine W_move rfl rfl ?_
   refine W_callqv (fa:=[]) (ca:=[.pointer (some ⟨bi,0,none⟩)]) rfl (.cons rfl .nil) rfl hfi rfl (hcl x _ (by repeat (first | exact hbi | exact List.mem_cons_self | apply List.mem_cons_of_mem | apply List.mem_append_right))) ?_
   by_cases hxi:x=id
   ·skip
    subst hxi
    rw [decide_eq_true rfl]
    refine W_nil (W_condT rfl rfl (W_sr (W_load (v:=.int .i64 (k:Int)) rfl ty3 rfl (Cell.own (b:=b7) zM rfl) rfl ?_)))
    refine W_move rfl rfl (W_store (l':=[.int .i64 (k:Int)]) rfl rfl ty3 rfl rfl (b:=b4) zM rfl rfl zU ?_)
    refine W_store (l':=[.int .i64 (i:Int)]) rfl rfl ty3 rfl rfl (b:=b5) zM rfl rfl zU ?_
    refine W_store (l':=[.bool true]) rfl rfl ty4 rfl rfl (b:=b6) zM rfl rfl zU ?_
    refine W_nil (W_retround zT ?_)
    exact ⟨(lp,.obj (.loop (Loop.at r .done (some .ret))))::(D,.obj (.deferred (some [])))::((b7,.cells 3 1 [.int .i64 (k:Int)])::(Ds.map dB++((b6,.cells 4 1 [.bool true])::(b5,.cells 3 1 [.int .i64 (i:Int)])::(b4,.cells 3 1 [.int .i64 (k:Int)])::(b3,.cells 172 1 [.func (.func fi) #[] #[.pointer (some ⟨bi,0,none⟩)]])::H))),zH,.inr ⟨rfl,i,hx,rfl⟩⟩
    skip
   ·skip
    rw [decide_eq_false hxi]
    refine W_nil (W_condF rfl rfl (W_skip (W_blk (W_endround zT ?_))))
    rw [hr]
    exact ⟨(lp,.obj (.loop r))::(D,.obj (.deferred (some [])))::((b7,.cells 3 1 [.int .i64 (k:Int)])::(Ds.map dB++((b6,.cells 4 1 [.bool false])::(b5,.cells 3 1 [.int .i64 0])::(b4,.cells 3 1 [.int .i64 0])::(b3,.cells 172 1 [.func (.func fi) #[] #[.pointer (some ⟨bi,0,none⟩)]])::H))),zH,.inl ⟨rfl,snoc_no hJ1 hx hxi,rfl⟩⟩
  ·intro _ H' hp
   obtain ⟨Hi',hs,hJS⟩:=hp
   rcases hJS with ⟨hJ1,rfl⟩ | ⟨i,hi,rfl⟩
   case inr =>
    refine ⟨.done,some .ret,(c2,.cells 166 1 [.pointer (some ⟨pb,0,none⟩)])::(c3,.cells 3 1 [.int .i64 (k:Int)])::(HB++((D,.obj (.deferred (some [])))::((b7,.cells 3 1 [.int .i64 (k:Int)])::(Ds.map dB++((b6,.cells 4 1 [.bool true])::(b5,.cells 3 1 [.int .i64 (i:Int)])::(b4,.cells 3 1 [.int .i64 (k:Int)])::(b3,.cells 172 1 [.func (.func fi) #[] #[.pointer (some ⟨bi,0,none⟩)]])::H))))),hs.trans zH,by decide,?_⟩
    show W _ _ _ _ _ _ _ _ _
    refine W_hsub (H':=(D::Ds).map dB++(HB++((b6,.cells 4 1 [.bool true])::(b5,.cells 3 1 [.int .i64 (i:Int)])::(b4,.cells 3 1 [.int .i64 (k:Int)])::(b3,.cells 172 1 [.func (.func fi) #[] #[.pointer (some ⟨bi,0,none⟩)]])::H))) (show HSub _ (dB D::(Ds.map dB++(HB++((b6,.cells 4 1 [.bool true])::(b5,.cells 3 1 [.int .i64 (i:Int)])::(b4,.cells 3 1 [.int .i64 (k:Int)])::(b3,.cells 172 1 [.func (.func fi) #[] #[.pointer (some ⟨bi,0,none⟩)]])::H)))) from zH) ?_
    refine W_ret3G (H2:=HB++H) Tryz.results189 (marks_list (D::Ds)) (.one rfl ty3 rfl (Cell.own (b:=b4) zM rfl)) (.one rfl ty3 rfl (Cell.own (b:=b5) zM rfl)) (.one rfl ty4 rfl (Cell.own (b:=b6) zM rfl)) zH ?_
    exact ⟨.inr ⟨k,i,rfl,by omega,hi⟩,rfl⟩
   refine ⟨.ready,none,(c2,.cells 166 1 [.pointer (some ⟨pb,0,none⟩)])::(c3,.cells 3 1 [.int .i64 (k:Int)])::(HB++((D,.obj (.deferred (some [])))::((b7,.cells 3 1 [.int .i64 (k:Int)])::(Ds.map dB++((b6,.cells 4 1 [.bool false])::(b5,.cells 3 1 [.int .i64 0])::(b4,.cells 3 1 [.int .i64 0])::(b3,.cells 172 1 [.func (.func fi) #[] #[.pointer (some ⟨bi,0,none⟩)]])::H))))),by rw [hr]; exact hs.trans zH,by decide,?_⟩
   show W _ _ _ _ _ _ _ _ _
   refine W_blk (W_blk (W_region ?_))
   refine W_bin rfl rfl (b_add (m:=((k+1:Nat):Int)) (by rw [i64w (by omega)]; omega)) rfl ?_
   refine W_move rfl rfl (W_nil ?_)
   refine W_again (k+1,D::Ds) ⟨by show k+1≤n; omega,fun j hj hin=>by
     by_cases e:j=k
     ·subst e
      obtain ⟨q,hq,eq⟩:=List.getElem_of_mem hin
      exact hJ1 q id hq (by rw [List.getElem?_eq_getElem hq,eq]) rfl
     ·exact hno j (by have:j<k+1:=hj; omega) hin⟩ (by show n-(k+1)<n-k; omega) (sub_cons rfl (sub_cons rfl (sub_cons rfl (sub_cons rfl (sub_cons rfl (sub_cons rfl (sub_cons rfl (sub_nil _)))))))) rfl (show HSub _ (HB++(dB D::(Ds.map dB++((b6,.cells 4 1 [.bool false])::(b5,.cells 3 1 [.int .i64 0])::(b4,.cells 3 1 [.int .i64 0])::(b3,.cells 172 1 [.func (.func fi) #[] #[.pointer (some ⟨bi,0,none⟩)]])::H)))) from zH)
 ·skip
  refine W_exit rfl ?_
  refine W_sr (W_store (l':=[.int .i64 0]) rfl rfl ty3 rfl rfl (b:=b4) zM rfl rfl zU ?_)
  refine W_store (l':=[.int .i64 0]) rfl rfl ty3 rfl rfl (b:=b5) zM rfl rfl zU ?_
  refine W_store (l':=[.bool false]) rfl rfl ty4 rfl rfl (b:=b6) zM rfl rfl zU ?_
  refine W_nil ?_
  refine W_hsub (H':=Ds.map dB++(HB++((b6,.cells 4 1 [.bool false])::(b5,.cells 3 1 [.int .i64 0])::(b4,.cells 3 1 [.int .i64 0])::(b3,.cells 172 1 [.func (.func fi) #[] #[.pointer (some ⟨bi,0,none⟩)]])::H))) zH ?_
  refine W_ret3G (H2:=HB++H) Tryz.results189 (marks_list (Ds)) (.one rfl ty3 rfl (Cell.own (b:=b4) zM rfl)) (.one rfl ty3 rfl (Cell.own (b:=b5) zM rfl)) (.one rfl ty4 rfl (Cell.own (b:=b6) zM rfl)) zH ?_
  obtain rfl:k=n:=by omega
  exact ⟨.inl ⟨rfl,hno⟩,rfl⟩
theorem Where_L {w0:World} {H:Heap} {HB:Heap} {pb n:Nat} {id:Int} {Q Rs:List (Int × Int)} (hP:PendH pb n Q Rs HB) (hn:n≤64) :LCalls Tryz.prog w0 99 #[.pointer (some ⟨pb,0,none⟩),.int .i64 id] (HB++H) (fun v H'=>v=optV (whQ Q id)∧H'=HB++H):=by
 refine L_enter (l:=[.pointer (some ⟨pb,0,none⟩),.int .i64 id]) Tryz.func99 rfl Tryz.ntmps99 rfl rfl ?_
 refine W_sr ?_
 refine W_box (l:=[.int .i64 id]) rfl rfl rfl (fun b3=>?_)
 refine W_assign rfl rfl (W_assign rfl rfl (W_nil (W_sr (W_move rfl rfl (W_makeFunc .nil (.cons rfl .nil) rfl ?_)))))
 refine W_call (.cons rfl (.cons rfl .nil)) Tryz.call189 rfl ((find_L (bi:=b3) (fi:=190) (id:=id) hP hn (H:=(b3,.cells 3 1 [.int .i64 id])::H) zM Tryz.call190 (fun x H hb=>whc_q hb)).hsub zH) ?_
 rintro v H' ⟨hF,rfl⟩
 rcases hF.wh hP.ok with ⟨rfl,hw⟩ | ⟨k,i,rfl,hk,hi,hw⟩
 ·skip
  refine W_move rfl rfl (W_extract rfl rfl rfl (W_extract rfl rfl rfl (W_extract rfl rfl rfl (W_assign rfl rfl (W_assign rfl rfl (W_assign rfl rfl (W_nil (W_sr ?_))))))))
  refine W_move rfl rfl (W_move rfl rfl (W_assign rfl rfl (W_assign rfl rfl (W_nil (W_ret2m (H2:=HB++H) Tryz.results99 rfl rfl (.nil _) zH ?_)))))
  rw [hw]
  exact ⟨rfl,rfl⟩
 ·skip
  refine W_move rfl rfl (W_extract rfl rfl rfl (W_extract rfl rfl rfl (W_extract rfl rfl rfl (W_assign rfl rfl (W_assign rfl rfl (W_assign rfl rfl (W_nil (W_sr ?_))))))))
  refine W_move rfl rfl (W_move rfl rfl (W_assign rfl rfl (W_assign rfl rfl (W_nil (W_ret2m (H2:=HB++H) Tryz.results99 rfl rfl (.nil _) zH ?_)))))
  rw [hw]
  exact ⟨rfl,rfl⟩
def dnC (gen:Int) (c:Int × Int):Bool:=decide (c.2≠0) && decide (c.2≤gen)
def twC (gen:Int) (q:List (Int × Int)):List (Int × Int):=q.takeWhile (dnC gen)
def restC (gen:Int) (q:List (Int × Int)):List (Int × Int):=q.drop (twC gen q).length
theorem tw_at {α:Type} {p:α→Bool}:∀ {l:List α} {i:Nat} {c:α},l[i]?=some c→i≤(l.takeWhile p).length→(i<(l.takeWhile p).length↔p c=true)
 | [],_,_,h,_=>by simp at h
 | x::l,0,c,h,_=>by
  obtain rfl:x=c:=by simpa using h
  rw [List.takeWhile_cons]
  by_cases hp:p x=true
  ·rw [if_pos hp]; simp [hp]
  ·rw [if_neg hp]; simp [hp]
 | x::l,i+1,c,h,hi=>by
  rw [List.takeWhile_cons] at hi ⊢
  by_cases hp:p x=true
  ·rw [if_pos hp] at hi ⊢
   have ih:=tw_at (p:=p) (l:=l) (i:=i) (c:=c) (by simpa using h) (by simpa using hi)
   rw [← ih,List.length_cons]; omega
  ·rw [if_neg hp] at hi; simp at hi
theorem tw_get {α:Type} {p:α→Bool} {l:List α} {i:Nat} (hi:i<(l.takeWhile p).length):(l.takeWhile p)[i]?=l[i]?:=by
 conv=>rhs; rw [← List.takeWhile_append_dropWhile (p:=p) (l:=l)]
 rw [List.getElem?_append_left hi]
theorem tw_le {α:Type} {p:α→Bool} (l:List α):(l.takeWhile p).length≤l.length:=by
 conv=>rhs; rw [← List.takeWhile_append_dropWhile (p:=p) (l:=l)]
 rw [List.length_append]; omega
theorem front_iter {w0:World} {H HB:Heap} {lp b1 b2 rb:Nat} {gen:Int} {l:List (Int × Int)} (hR:RngC 64 rb l HB) (J:Nat→Heap→Prop)
  (hround:∀ i c X Hi,(twC gen l)[i]?=some c→J i Hi→RoundC Tryz.prog w0 lp #[.agg (List.toArray (rdC c))] ((b1,.cells 388 1 [.pointer (some ⟨rb,0,none⟩)])::(b2,.cells 3 1 [.int .i64 gen])::(X++Hi)) (fun v H'=>∃ Hi',HSub H' ((b1,.cells 388 1 [.pointer (some ⟨rb,0,none⟩)])::(b2,.cells 3 1 [.int .i64 gen])::(X++Hi'))∧v=.bool true∧J (i+1) Hi')) (hJ:J 0 H) :
  LCalls Tryz.prog w0 398 #[.func (.yield lp) #[] #[],.pointer (some ⟨b1,0,none⟩),.pointer (some ⟨b2,0,none⟩)] ((b1,.cells 388 1 [.pointer (some ⟨rb,0,none⟩)])::(b2,.cells 3 1 [.int .i64 gen])::(HB++H)) (fun _ H'=>∃ X' Hi',RngC 64 rb (restC gen l) X'∧HSub H' ((b1,.cells 388 1 [.pointer (some ⟨rb,0,none⟩)])::(b2,.cells 3 1 [.int .i64 gen])::(X'++Hi'))∧J (twC gen l).length Hi'):=by
 refine L_enter (l:=[.func (.yield lp) #[] #[],.pointer (some ⟨b1,0,none⟩),.pointer (some ⟨b2,0,none⟩)]) Tryz.func398 rfl Tryz.ntmps398 rfl rfl ?_
 refine W_block ?_
 refine W_loopC (X:=(Nat × Heap × Heap)) [(0,_),(1,_),(2,_)] (fun (z:(Nat × Heap × Heap))=>[]) (fun _=>_) (fun (z:(Nat × Heap × Heap))=>(b1,.cells 388 1 [.pointer (some ⟨rb,0,none⟩)])::(b2,.cells 3 1 [.int .i64 gen])::(z.2.1++z.2.2)) (fun (z:(Nat × Heap × Heap))=>z.1≤(twC gen l).length∧RngC 64 rb (l.drop z.1) z.2.1∧J z.1 z.2.2) (fun (z:(Nat × Heap × Heap))=>l.length-z.1) (0,HB,H) ⟨Nat.zero_le _,hR,hJ⟩ (sub_cons rfl (sub_cons rfl (sub_cons rfl (sub_nil _)))) (sub_nil _) rfl (.refl _) ?_
 rintro ⟨i,X,Hi⟩ ⟨hi,hX,hJi⟩
 dsimp only at hi hX hJi ⊢
 have htl:(twC gen l).length≤l.length:=tw_le l
 simp only [List.cons_append,List.nil_append]
 refine W_block (W_sr (W_load (v:=.pointer (some ⟨rb,0,none⟩)) rfl ty388 rfl (Cell.own (b:=b1) zM rfl) rfl ?_))
 refine W_callq (.cons rfl (.cons rfl .nil)) Tryz.call399 rfl (hX.at0 (fun p hp=>List.mem_cons_of_mem _ (List.mem_cons_of_mem _ (List.mem_append_left _ hp)))) ?_
 rcases hd:l.drop i with _ | ⟨c,rest⟩
 ·skip
  rw [show atC []=.tuple #[.agg (List.toArray (rdC (0,0))),.bool false] from rfl]
  refine W_move rfl rfl (W_extract rfl rfl rfl (W_extract rfl rfl rfl ?_))
  refine W_alloc (l:=rdC (0,0)) ty391 rfl rfl (fun b4=>?_)
  refine W_storeA (l':=rdC (0,0)) rfl rfl ty391 rfl rfl (b:=b4) zM (by exact Nat.le_refl 2) rfl zU ?_
  refine W_assign rfl rfl (W_nil (W_seq (W_sr (W_move rfl rfl (W_not rfl rfl ?_)))))
  refine W_move rfl rfl (W_gno rfl rfl rfl ?_)
  refine W_gno rfl rfl rfl ?_
  refine W_gno rfl rfl rfl ?_
  first | refine W_pickt rfl rfl rfl ?_ | refine W_pickf rfl rfl rfl ?_
  refine W_move rfl rfl (W_gno rfl rfl rfl ?_)
  refine W_gno rfl rfl rfl ?_
  refine W_gno rfl rfl rfl ?_
  refine W_gno rfl rfl rfl ?_
  first | refine W_pickt rfl rfl rfl ?_ | refine W_pickf rfl rfl rfl ?_
  refine W_nil (W_condT rfl rfl (W_ret0m Tryz.results398 (.nil _) (.refl _) ?_))
  have e:i=(twC gen l).length:=by
   have:=congrArg List.length hd
   simp at this
   omega
  subst e
  exact ⟨X,Hi,hX,zH,hJi⟩
 ·skip
  rw [hd] at hX
  have hc:l[i]?=some c:=by have:=congrArg (·[0]?) hd; simpa using this
  obtain rfl:rest=l.drop (i+1):=by rw [drop_at hc] at hd; exact (List.cons.inj hd).2.symm
  have hpc:=tw_at (p:=dnC gen) hc hi
  rw [show atC (c::l.drop (i+1))=.tuple #[.agg (List.toArray (rdC c)),.bool true] from rfl]
  refine W_move rfl rfl (W_extract rfl rfl rfl (W_extract rfl rfl rfl ?_))
  refine W_alloc (l:=rdC (0,0)) ty391 rfl rfl (fun b4=>?_)
  refine W_storeA (l':=rdC c) rfl rfl ty391 rfl rfl (b:=b4) zM (by exact Nat.le_refl 2) rfl zU ?_
  refine W_assign rfl rfl (W_nil (W_seq (W_sr (W_move rfl rfl (W_not rfl rfl ?_)))))
  refine W_move rfl rfl (W_gyes rfl rfl (W_fieldAddr rfl fld391_1 zd rfl ?_))
  refine W_gyes rfl rfl (W_load (v:=.int .i64 c.2) rfl ty3 rfl (Cell.own (b:=b4) zM rfl) rfl ?_)
  refine W_gyes rfl rfl (W_bin rfl rfl b_eql rfl ?_)
  first | refine W_pickt rfl rfl rfl ?_ | refine W_pickf rfl rfl rfl ?_
  refine W_move rfl rfl ?_
  apply W_or
  iterate 4 exact rfl
  case h1 =>
   intro hg7
   refine W_gyes rfl rfl (W_fieldAddr rfl fld391_1 zd rfl ?_)
   refine W_gyes rfl rfl (W_load (v:=.int .i64 c.2) rfl ty3 rfl (Cell.own (b:=b4) zM rfl) rfl ?_)
   refine W_gyes rfl rfl (W_load (v:=.int .i64 gen) rfl ty3 rfl (Cell.own (b:=b2) zM rfl) rfl ?_)
   refine W_gyes rfl rfl (W_bin rfl rfl b_gtr rfl ?_)
   exact W_met rfl zR
  refine W_nil ?_
  refine W_condPS (p:=c.2=0∨gen<c.2) rfl (by simp) (fun q0=>?_) (fun q0=>?_)
  ·skip
   refine W_ret0m Tryz.results398 (.nil _) (.refl _) ?_
   have e:i=(twC gen l).length:=by
    have:¬ i<(twC gen l).length:=fun h=>by
     have h2:=hpc.1 h
     unfold dnC at h2
     rw [Bool.and_eq_true,decide_eq_true_eq,decide_eq_true_eq] at h2
     omega
    omega
   refine ⟨X,Hi,?_,zH,by rw [← e]; exact hJi⟩
   unfold restC
   rw [← e,hd]; exact hX
  ·skip
   refine W_skip (W_sr (W_load (v:=.pointer (some ⟨rb,0,none⟩)) rfl ty388 rfl (Cell.own (b:=b1) zM rfl) rfl ?_))
   refine W_hsub (H':=X++((b4,.cells 391 2 (rdC c))::(b1,.cells 388 1 [.pointer (some ⟨rb,0,none⟩)])::(b2,.cells 3 1 [.int .i64 gen])::Hi)) zH ?_
   refine W_call (.cons rfl .nil) Tryz.call400 rfl (cPop_L (H:=(b4,.cells 391 2 (rdC c))::(b1,.cells 388 1 [.pointer (some ⟨rb,0,none⟩)])::(b2,.cells 3 1 [.int .i64 gen])::Hi) hX) ?_
   rintro v H' ⟨X1,hX1,rfl,rfl⟩
   refine W_nil (W_sr (W_move rfl rfl (W_loadB (vs:=rdC c) rfl ty391 rfl (b:=b4) zM rfl rfl rfl ?_)))
   have hlt:i<(twC gen l).length:=hpc.2 (by unfold dnC; rw [Bool.and_eq_true,decide_eq_true_eq,decide_eq_true_eq]; omega)
   refine W_yield rfl (.cons rfl .nil) rfl ((hround i c X1 Hi ((tw_get hlt).trans hc) hJi).hsub zH) ?_
   rintro v H' ⟨Hi',hsub,rfl,hJ'⟩
   refine W_hsub hsub ?_
   refine W_not rfl rfl ?_
   refine W_nil (W_condF rfl rfl (W_skip (W_blk ?_)))
   refine W_again (i+1,X1,Hi') ⟨by show i+1≤(twC gen l).length; omega,hX1,hJ'⟩ (by show l.length-(i+1)<l.length-i; omega) (sub_cons rfl (sub_cons rfl (sub_cons rfl (sub_nil _)))) rfl zH
theorem front_L {w0:World} {H:Heap} {ad:Option Addr} {gen:Int} :LCalls Tryz.prog w0 337 #[.pointer ad,.int .i64 gen] (H) (fun v H'=>∃ b1 b2,v=.func (.func 398) #[] #[.pointer (some ⟨b1,0,none⟩),.pointer (some ⟨b2,0,none⟩)]∧H'=(b2,.cells 3 1 [.int .i64 gen])::(b1,.cells 388 1 [.pointer ad])::H):=by
 refine L_enter (l:=[.pointer ad,.int .i64 gen]) Tryz.func337 rfl Tryz.ntmps337 rfl rfl ?_
 refine W_sr ?_
 refine W_box (l:=[.pointer ad]) rfl rfl rfl (fun b1=>?_)
 refine W_box (l:=[.int .i64 gen]) rfl rfl rfl (fun b2=>?_)
 refine W_assign rfl rfl (W_nil (W_sr (W_makeFunc .nil (.cons rfl (.cons rfl .nil)) rfl ?_)))
 refine W_assign rfl rfl (W_nil (W_ret1m Tryz.results337 rfl (.nil _) (.refl _) ?_))
 exact ⟨b1,b2,rfl,rfl⟩
def tldC (gen:Int) (Q:List (List (Int × Int))):List Int:=Q.flatMap (fun q=>(twC gen q).map (·.1))
theorem tld_take {gen:Int} {Q:List (List (Int × Int))} {k:Nat} {q:List (Int × Int)} (h:Q[k]?=some q):tldC gen (Q.take (k+1))=tldC gen (Q.take k)++(twC gen q).map (·.1):=by
 unfold tldC
 rw [List.take_add_one,h,List.flatMap_append]
 simp
theorem tld_len {gen:Int}:∀ {Q:List (List (Int × Int))},(∀ q∈Q,q.length≤64)→(tldC gen Q).length≤64*Q.length
 | [],_=>by simp [tldC]
 | q::Q,h=>by
  have ih:=tld_len (gen:=gen) (Q:=Q) (fun x hx=>h x (List.mem_cons_of_mem _ hx))
  have h1:=h q List.mem_cons_self
  have h2:(twC gen q).length≤q.length:=tw_le q
  unfold tldC at ih ⊢
  rw [List.flatMap_cons,List.length_append,List.length_map,List.length_cons]
  omega
theorem LsOk.short {n:Nat} {rbs:List Nat} {XS:List Heap} {Q:List (List (Int × Int))} (h:LsOk n rbs XS Q):∀ q∈Q,q.length≤64:=fun q hq=>by
 obtain ⟨k,hk,e⟩:=List.getElem_of_mem hq
 have h3:=h.l3
 exact (h.r k _ _ q (List.getElem?_eq_getElem (by rw [h.l1]; omega)) (List.getElem?_eq_getElem (by rw [h.l2]; omega)) (by rw [List.getElem?_eq_getElem hk,e])).most.1
theorem lDone_L {w0:World} {H:Heap} {HB:Heap} {lb n:Nat} {Q:List (List (Int × Int))} {last gen:Int} (hL:ListsH lb n Q last HB) (hn:0<n∧n≤64) :LCalls Tryz.prog w0 247 #[.pointer (some ⟨lb,0,none⟩),.int .i64 gen] (HB++H) (fun v H'=>∃ HB' XB,ListsH lb n (Q.map (restC gen)) last HB'∧OwnS 3 1 v (tldC gen Q).length ((tldC gen Q).map (Value.int .i64)) XB∧H'=XB++(HB'++H)):=by
 cases hL with
 | @mk v XQ XS rbs hv hl =>
 have hvl:=hv.length
 rw [List.length_map,Nat.mul_one] at hvl
 obtain ⟨ad,cap,rfl,hcl,hcm⟩:=hv.shape
 have hXr:∀ {H:Heap},(∀ p∈XQ,p∈H)→Holds w0 H ad (rbs.map cbP):=fun hs=>OwnS.toHolds hv hs
 obtain ⟨q1,p1,rfl⟩:∃ q1 p1,ad=some ⟨q1,p1,none⟩:=by
  obtain ⟨rb,hrb⟩:∃ rb,rbs[0]?=some rb:=⟨_,List.getElem?_eq_getElem (by rw [hl.l1]; exact hn.1)⟩
  obtain ⟨q1,p1,e,_⟩:=(hXr (H:=XQ) (fun _ h=>h)).at (i:=0) (v:=cbP rb) (by rw [List.getElem?_map,hrb]; rfl)
  exact ⟨q1,p1,e⟩
 have hXc:∀ {H:Heap} {k rb:Nat},(∀ p∈XQ,p∈H)→rbs[k]?=some rb→Cell w0 H q1 (p1+k) (cbP rb):=fun {H k rb} hs hk=>by
  obtain ⟨q2,p2,e,hc⟩:=(hXr hs).at (i:=k) (v:=cbP rb) (by rw [List.getElem?_map,hk]; rfl)
  cases e; exact hc
 have e0:((lb,.cells 387 2 [.slice (some ⟨q1,p1,none⟩) n cap,.int .i64 last])::(XQ++XS.flatten))++H=(lb,.cells 387 2 [.slice (some ⟨q1,p1,none⟩) n cap,.int .i64 last])::(XQ++(XS.flatten++H)):=by simp only [List.cons_append,List.append_assoc]
 rw [e0]
 refine L_enter (l:=[.pointer (some ⟨lb,0,none⟩),.int .i64 gen]) Tryz.func247 rfl Tryz.ntmps247 rfl rfl ?_
 refine W_sr (W_assign rfl rfl (W_nil (W_seq (W_sr (W_move rfl rfl ?_)))))
 refine W_x (X_ptrNil rfl rfl ty221) (fun _ h=>by cases h) rfl ?_
 refine W_nil (W_condF rfl rfl (W_skip (W_sr ?_)))
 refine W_alloc (l:=[.slice none 0 0]) ty63 rfl rfl (fun b5=>?_)
 refine W_nil (W_seq (W_sr (W_move rfl rfl (W_nilCheck rfl rfl (W_fieldAddr rfl fld387_0 zd rfl ?_)))))
 refine W_load (v:=.slice (some ⟨q1,p1,none⟩) n cap) rfl ty385 rfl (Cell.own (b:=lb) zM rfl) rfl ?_
 refine W_len rfl ty385 rfl rfl ?_
 refine W_move rfl rfl (W_nil (W_block ?_))
 refine W_loopC (X:=(Nat × List Nat × List Heap × List (List (Int × Int)) × Value × Heap)) [(1,_),(5,_),(14,_),(15,_)] (fun (z:(Nat × List Nat × List Heap × List (List (Int × Int)) × Value × Heap))=>[(16,.int .i64 (z.1:Int))]) (fun (z:(Nat × List Nat × List Heap × List (List (Int × Int)) × Value × Heap))=>z.2.1.map Go.Sl.mark) (fun (z:(Nat × List Nat × List Heap × List (List (Int × Int)) × Value × Heap))=>(lb,.cells 387 2 [.slice (some ⟨q1,p1,none⟩) n cap,.int .i64 last])::(XQ++(z.2.2.1.flatten++(z.2.1.map dB++((b5,.cells 63 1 [z.2.2.2.2.1])::(z.2.2.2.2.2++H)))))) (fun (z:(Nat × List Nat × List Heap × List (List (Int × Int)) × Value × Heap))=>z.1≤n∧LsOk n rbs z.2.2.1 z.2.2.2.1∧z.2.2.2.1=((Q.take z.1).map (restC gen)++Q.drop z.1)∧OwnS 3 1 z.2.2.2.2.1 (tldC gen (Q.take z.1)).length ((tldC gen (Q.take z.1)).map (Value.int .i64)) z.2.2.2.2.2) (fun (z:(Nat × List Nat × List Heap × List (List (Int × Int)) × Value × Heap))=>n-z.1) (0,[],XS,Q,.slice none 0 0,[]) ⟨Nat.zero_le _,hl,by simp,.nil⟩ (sub_cons rfl (sub_cons rfl (sub_cons rfl (sub_cons rfl (sub_nil _))))) (sub_cons rfl (sub_nil _)) rfl (show HSub _ ((lb,.cells 387 2 [.slice (some ⟨q1,p1,none⟩) n cap,.int .i64 last])::(XQ++(XS.flatten++([]++((b5,.cells 63 1 [.slice none 0 0])::([]++H)))))) from zH) ?_
 rintro ⟨k,Ds,XS1,Q1,xv,XB⟩ ⟨hi,hl1,hQ1,hO⟩
 dsimp only at hi hl1 hQ1 hO ⊢
 simp only [List.cons_append,List.nil_append]
 refine W_sr (W_bin rfl rfl b_lss rfl ?_)
 refine W_nil (W_seq ?_)
 refine W_condPS (p:=(k:Int)<(n:Int)) rfl (by simp) (fun q0=>?_) (fun q0=>?_)
 ·skip
  refine W_skip (W_seq (W_block (W_sr ?_)))
  have hk:k<n:=by omega
  obtain ⟨rb,hrb⟩:∃ rb,rbs[k]?=some rb:=⟨_,List.getElem?_eq_getElem (by rw [hl1.l1]; exact hk)⟩
  obtain ⟨X,hX0⟩:∃ X,XS1[k]?=some X:=⟨_,List.getElem?_eq_getElem (by rw [hl1.l2]; exact hk)⟩
  obtain ⟨q,hq⟩:∃ q,Q1[k]?=some q:=⟨_,List.getElem?_eq_getElem (by rw [hl1.l3]; exact hk)⟩
  have hX:=hl1.r k rb X q hrb hX0 hq
  have hqq:Q[k]?=some q:=by
   rw [hQ1,List.getElem?_append_right (by rw [List.length_map,List.length_take]; omega),List.length_map,List.length_take,Nat.min_eq_left (by rw [hl.l3]; omega),Nat.sub_self,List.getElem?_drop] at hq
   simpa using hq
  have hidl:(tldC gen (Q.take k)).length≤4096:=by
   have:=tld_len (gen:=gen) (Q:=Q.take k) (fun x hx=>hl.short x (List.mem_of_mem_take hx))
   rw [List.length_take] at this
   omega
  have hql:(twC gen q).length≤64:=Nat.le_trans (tw_le _) hX.most.1
  refine W_indexAddr (j:=k) rfl rfl ty385 ty388 rfl hk rfl rfl ?_
  refine W_load (v:=cbP rb) rfl ty388 rfl (by rw [Nat.mul_one]; exact hXc (k:=k) (fun p hp=>List.mem_cons_of_mem _ (List.mem_append_left _ hp)) hrb) rfl ?_
  refine W_assign rfl rfl (W_nil (W_sr (W_move rfl rfl (W_move rfl rfl (W_call (.cons rfl (.cons rfl .nil)) Tryz.call337 rfl front_L ?_)))))
  rintro v H' ⟨b1,b2,rfl,rfl⟩
  refine W_nil (W_block (W_rangeFunc rfl Tryz.call398 ?_))
  intro lp D r hst hpd hps hasg hbody hA
  have hr:=loop_ready hst hpd
  show LCalls _ _ _ #[_,_,_] _ _
  refine ((front_iter (b1:=b1) (b2:=b2) (gen:=gen) (H:=(lp,.obj (.loop r))::(D,.obj (.deferred (some [])))::((lb,.cells 387 2 [.slice (some ⟨q1,p1,none⟩) n cap,.int .i64 last])::(XQ++((XS1.set k []).flatten++(Ds.map dB++((b5,.cells 63 1 [xv])::(XB++H))))))) hX (fun i Hi=>∃ yv YB,OwnS 3 1 yv ((tldC gen (Q.take k)++((twC gen q).take i).map (·.1))).length (((tldC gen (Q.take k)++((twC gen q).take i).map (·.1))).map (Value.int .i64)) YB∧Hi=(lp,.obj (.loop r))::(D,.obj (.deferred (some [])))::((lb,.cells 387 2 [.slice (some ⟨q1,p1,none⟩) n cap,.int .i64 last])::(XQ++((XS1.set k []).flatten++(Ds.map dB++((b5,.cells 63 1 [yv])::(YB++H))))))) ?_ ⟨xv,XB,by simpa using hO,rfl⟩).hsub ((show HSub _ ((lp,.obj (.loop r))::(D,.obj (.deferred (some [])))::(b2,.cells 3 1 [.int .i64 gen])::(b1,.cells 388 1 [.pointer (some ⟨rb,0,none⟩)])::(lb,.cells 387 2 [.slice (some ⟨q1,p1,none⟩) n cap,.int .i64 last])::(XQ++(X++((XS1.set k []).flatten++(Ds.map dB++((b5,.cells 63 1 [xv])::(XB++H))))))) from .cons (.here _) (.cons (.here _) (.cons (.here _) (.cons (.here _) (.cons (.here _) (.app (.here _) (flattenOut hX0))))))).trans zH)).mono ?_
  ·intro i c X1 Hi hc hJ
   obtain ⟨yv,YB,hY,rfl⟩:=hJ
   have hil:=(List.getElem?_eq_some_iff.1 hc).1
   have hyl:(tldC gen (Q.take k)++((twC gen q).take i).map (·.1)).length≤4160:=by rw [List.length_append,List.length_map,List.length_take]; omega
   refine round_intro hst hpd hA hps rfl hasg rfl rfl rfl zT ?_
   refine W_region ?_
   refine W_alloc (l:=rdC (0,0)) ty391 rfl rfl (fun b8=>?_)
   refine W_storeA (l':=rdC c) rfl rfl ty391 rfl rfl (b:=b8) zM (by exact Nat.le_refl 2) rfl zU ?_
   refine W_nil (W_begin hst hpd zT hbody ?_)
   refine W_block (W_region (W_load (v:=yv) rfl ty63 rfl (Cell.own (b:=b5) zM rfl) rfl ?_))
   refine W_fieldAddr rfl fld391_0 zd rfl ?_
   refine W_load (v:=.int .i64 c.1) rfl ty3 rfl (Cell.own (b:=b8) zM rfl) rfl ?_
   refine W_buildSlice (l:=[.int .i64 c.1]) ty63 ty3 (.cons rfl rfl rfl rfl rfl .nil) rfl rfl rfl rfl rfl rfl rfl (fun b27=>?_)
   refine W_append (news:=[.int .i64 c.1]) (m:=1) (HB:=YB) (H0:=(b27,.cells 3 1 [.int .i64 c.1])::(b8,.cells 391 2 (rdC c))::(lp,.obj (.loop (Loop.at r .busy none)))::(b1,.cells 388 1 [.pointer (some ⟨rb,0,none⟩)])::(b2,.cells 3 1 [.int .i64 gen])::(X1++((D,.obj (.deferred (some [])))::((lb,.cells 387 2 [.slice (some ⟨q1,p1,none⟩) n cap,.int .i64 last])::(XQ++((XS1.set k []).flatten++(Ds.map dB++((b5,.cells 63 1 [yv])::H)))))))) rfl rfl ty63 ty3 rfl (by decide) hY rfl (Holds.own (b:=b27) zM) rfl (by simp only [maxLen]; omega) (by omega) zH rfl (fun yv' YB' hY'=>?_)
   refine W_store (l':=[yv']) rfl rfl ty63 (by obtain ⟨a0,c0',e0,_⟩:=hY'.shape; rw [e0]; rfl) rfl (b:=b5) zM rfl rfl zU ?_
   refine W_nil (W_blk (W_endround zT ?_))
   rw [hr]
   exact ⟨(lp,.obj (.loop r))::(D,.obj (.deferred (some [])))::((lb,.cells 387 2 [.slice (some ⟨q1,p1,none⟩) n cap,.int .i64 last])::(XQ++((XS1.set k []).flatten++(Ds.map dB++((b5,.cells 63 1 [yv'])::(YB'++H)))))),zH,rfl,yv',YB',by rw [List.take_add_one,hc]; simpa [Nat.add_assoc] using hY',rfl⟩
  ·intro _ H' hp
   obtain ⟨X',Hi',hX',hs,xv',XB',hO',rfl⟩:=hp
   rw [List.take_length] at hO'
   refine ⟨.ready,none,(lb,.cells 387 2 [.slice (some ⟨q1,p1,none⟩) n cap,.int .i64 last])::(XQ++((XS1.set k X').flatten++((dB D::Ds.map dB)++((b5,.cells 63 1 [xv'])::(XB'++H))))),by rw [hr]; exact hs.trans ((show HSub _ ((lp,.obj (.loop r))::(lb,.cells 387 2 [.slice (some ⟨q1,p1,none⟩) n cap,.int .i64 last])::(XQ++(X'++((XS1.set k []).flatten++((dB D::Ds.map dB)++((b5,.cells 63 1 [xv'])::(XB'++H))))))) from zH).trans (.cons (.here _) (.cons (.here _) (.app (.here _) (flattenIn (by rw [hl1.l2]; exact hk)))))),by decide,?_⟩
   show W _ _ _ _ _ _ _ _ _
   refine W_blk (W_blk (W_region (W_bin rfl rfl (b_add (m:=((k+1:Nat):Int)) ((i64w zO).trans zO)) rfl ?_)))
   refine W_move rfl rfl (W_nil ?_)
   refine W_again (k+1,D::Ds,XS1.set k X',Q1.set k (restC gen q),xv',XB') ⟨by show k+1≤n; omega,hl1.set hrb hX',(by show Q1.set k _=_; rw [hQ1]; exact set_take hqq),by show OwnS 3 1 xv' (tldC gen (Q.take (k+1))).length ((tldC gen (Q.take (k+1))).map (Value.int .i64)) XB'; rw [tld_take hqq]; exact hO'⟩ (by show n-(k+1)<n-k; omega) (sub_cons rfl (sub_cons rfl (sub_cons rfl (sub_cons rfl (sub_cons rfl (sub_nil _)))))) rfl (show HSub _ ((lb,.cells 387 2 [.slice (some ⟨q1,p1,none⟩) n cap,.int .i64 last])::(XQ++((XS1.set k X').flatten++((dB D::Ds.map dB)++((b5,.cells 63 1 [xv'])::(XB'++H)))))) from .refl _)
 ·skip
  refine W_exit rfl ?_
  refine W_sr ?_
  refine W_hsub (H':=Ds.map dB++((lb,.cells 387 2 [.slice (some ⟨q1,p1,none⟩) n cap,.int .i64 last])::(XQ++(XS1.flatten++((b5,.cells 63 1 [xv])::(XB++H)))))) zH ?_
  refine W_load (v:=xv) rfl ty63 rfl (Cell.own (b:=b5) zM rfl) rfl ?_
  refine W_assign rfl rfl (W_nil (W_ret1m (H2:=XB++((lb,.cells 387 2 [.slice (some ⟨q1,p1,none⟩) n cap,.int .i64 last])::(XQ++(XS1.flatten++H)))) Tryz.results247 rfl (marks_list Ds) zH ?_))
  have ekn:k=n:=by omega
  rw [ekn,List.take_of_length_le (by rw [hl.l3]; exact Nat.le_refl _)] at hQ1 hO
  rw [List.drop_eq_nil_of_le (by rw [hl.l3]; exact Nat.le_refl _),List.append_nil] at hQ1
  subst hQ1
  exact ⟨(lb,.cells 387 2 [.slice (some ⟨q1,p1,none⟩) n cap,.int .i64 last])::(XQ++XS1.flatten),XB,.mk hv hl1,hO,by simp only [List.cons_append,List.append_assoc]⟩
end Go.Proofs.YtincjohoncljoaaGreatDoor
