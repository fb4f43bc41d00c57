/-
  Own work: contracts of functions that the statement reaches, and plain facts on what they compute; each theorem says its conditions.
-/
import Derived.Test.YtincjohoncljoaaGreatDoorLfT7
import Derived.Test.YtincjohoncljoaaGreatDoorLfS1
import Derived.Test.YtincjohoncljoaaGreatDoorLfT4
import Derived.Test.YtincjohoncljoaaGreatDoorLfT6
import Derived.Test.YtincjohoncljoaaGreatDoorLfS2
import Derived.Test.YtincjohoncljoaaGreatDoorLfA
set_option linter.all false
set_option linter.unusedSimpArgs false
set_option linter.unusedVariables false
set_option maxHeartbeats 16000000
namespace Go.Proofs.YtincjohoncljoaaGreatDoor
open Go Go.Sl
attribute [local irreducible] W
theorem Xm.free_slot {x:Xm} {how:Int} (h:x.refE how=0):∃ i s,firstF x.L=some i∧x.L[i]?=some s:=by
 have hc:cntA 0 x.L≠0:=fun e=>by
  unfold Xm.refE at h
  rw [if_pos e] at h
  repeat' split at h
  all_goals cases h
 obtain ⟨t,ht,h0⟩:=cntA_pos.1 hc
 cases hf:firstF x.L with
 | none=>exact absurd h0 (firstF_none.1 hf t ht)
 | some i =>
  obtain ⟨s,hs,-,-⟩:=firstF_some hf
  exact ⟨i,s,rfl,hs⟩
theorem Put_atX {w0:World} {H:Heap} {mb ab tb bo T kind entries words:Nat} {closed:Bool} {L:List Slt} {C:List (Int × Hd)} {used:List Int} {HA HT HO:Heap} (hA:AreH ab L HA) (hB:TabH tb entries C HT) (hO:OrdH bo entries T used HO) (hTl:T≤1000000) (hx:(⟨kind,entries,words,closed,L,C,used⟩:Xm).Ok) {how k:Int} {ws:List Int} {ad:Option Addr} {cap:Nat} (hrow:Holds w0 H ad (ws.map (Value.int .u64))) (hTab:Tab w0):LCalls Tryz.prog w0 61 #[.pointer (some ⟨mb,0,none⟩),.int .i64 how,.int .u64 k,.slice ad ws.length cap] ((mb,.cells 217 7 [.int .i64 (kind:Int),.int .i64 (entries:Int),.int .i64 (words:Int),.pointer (some ⟨ab,0,none⟩),.pointer (some ⟨tb,0,none⟩),.pointer (some ⟨bo,0,none⟩),.bool closed])::(HA++(HT++(HO++H)))) (fun v H'=>∃ HA' HT' HO',AreH ab (Xm.put (⟨kind,entries,words,closed,L,C,used⟩:Xm) how k ws).1.L HA'∧TabH tb entries (Xm.put (⟨kind,entries,words,closed,L,C,used⟩:Xm) how k ws).1.C HT'∧OrdH bo entries (T+2) (Xm.put (⟨kind,entries,words,closed,L,C,used⟩:Xm) how k ws).1.used HO'∧v=.tuple #[.agg (List.toArray (puttC (Xm.put (⟨kind,entries,words,closed,L,C,used⟩:Xm) how k ws).2.1)),.int .i64 (Xm.put (⟨kind,entries,words,closed,L,C,used⟩:Xm) how k ws).2.2]∧H'=(mb,.cells 217 7 [.int .i64 (kind:Int),.int .i64 (entries:Int),.int .i64 (words:Int),.pointer (some ⟨ab,0,none⟩),.pointer (some ⟨tb,0,none⟩),.pointer (some ⟨bo,0,none⟩),.bool closed])::(HA'++(HT'++(HO'++H)))):=by
 refine L_enter (l:=[.pointer (some ⟨mb,0,none⟩),.int .i64 how,.int .u64 k,.slice ad ws.length cap]) Tryz.func61 rfl Tryz.ntmps61 rfl rfl ?_
 refine W_sr ?_
 refine W_alloc (l:=puttC zPutt) ty139 rfl rfl (fun b8=>?_)
 refine W_assign rfl rfl (W_nil (W_seq (W_block (W_sr (W_move rfl rfl ?_)))))
 refine W_x (X_ptrNil rfl rfl ty65) (fun _ h=>by cases h) rfl ?_
 refine W_assign rfl rfl (W_nil (W_condF rfl rfl (W_sr (W_move rfl rfl (W_bin rfl rfl b_lss rfl ?_)))))
 refine W_move rfl rfl ?_
 apply W_or
 iterate 4 exact rfl
 case h1 =>
  intro hg2
  refine W_gyes rfl rfl (W_move rfl rfl (W_gyes rfl rfl (W_bin rfl rfl b_gtr rfl ?_)))
  exact W_met rfl zR
 refine W_move rfl rfl ?_
 apply W_or
 iterate 4 exact rfl
 case h1 =>
  intro hg6
  refine W_gyes rfl rfl (W_move rfl rfl (W_gyes rfl rfl (W_len rfl ty84 rfl rfl ?_)))
  refine W_gyes rfl rfl (W_move rfl rfl (W_gyes rfl rfl (W_nilCheck rfl rfl (W_gyes rfl rfl (W_fieldAddr rfl fld217_2 zd rfl ?_)))))
  refine W_gyes rfl rfl (W_load (v:=.int .i64 (words:Int)) rfl ty3 rfl (Cell.own (b:=mb) zM rfl) rfl ?_)
  refine W_gyes rfl rfl (W_bin rfl rfl b_gtr rfl ?_)
  exact W_met rfl zR
 refine W_assign rfl rfl (W_nil ?_)
 refine W_condPS (p:=(how<0∨2<how)∨(words:Int)<(ws.length:Int)) rfl (by simp) (fun c0=>?_) (fun c0=>?_)
 ·skip
  refine W_sr (W_build (l:=puttC zPutt) ty139 pl139 .nil rfl rfl rfl ?_)
  refine W_storeA (l':=puttC zPutt) rfl rfl ty139 rfl rfl (b:=b8) zM (by exact Nat.le_refl 5) rfl zU ?_
  refine W_assign rfl rfl (W_nil (W_ret2G (H2:=(mb,.cells 217 7 [.int .i64 (kind:Int),.int .i64 (entries:Int),.int .i64 (words:Int),.pointer (some ⟨ab,0,none⟩),.pointer (some ⟨tb,0,none⟩),.pointer (some ⟨bo,0,none⟩),.bool closed])::(HA++(HT++(HO++H)))) Tryz.results61 (.nil _) (.own (vs:=puttC zPutt) rfl ty139 rfl (b:=b8) zM rfl) (.tmp rfl) zH ?_))
  have e:(Xm.put (⟨kind,entries,words,closed,L,C,used⟩:Xm) how k ws)=((⟨kind,entries,words,closed,L,C,used⟩:Xm),zPutt,1):=by
   unfold Xm.put
   rw [if_pos (by dsimp only; omega)]
  rw [e]
  exact ⟨HA,HT,HO,hA,hB,hO.up zO,rfl,rfl⟩
 ·skip
  refine W_sr (W_move rfl rfl (W_nilCheck rfl rfl (W_fieldAddr rfl fld217_6 zd rfl ?_)))
  refine W_load (v:=.bool closed) rfl ty4 rfl (Cell.own (b:=mb) zM rfl) rfl ?_
  refine W_assign rfl rfl (W_nil ?_)
  refine W_condPS (p:=closed=true) rfl (by simp) (fun c1=>?_) (fun c1=>?_)
  ·skip
   refine W_sr (W_build (l:=puttC zPutt) ty139 pl139 .nil rfl rfl rfl ?_)
   refine W_storeA (l':=puttC zPutt) rfl rfl ty139 rfl rfl (b:=b8) zM (by exact Nat.le_refl 5) rfl zU ?_
   refine W_assign rfl rfl (W_nil (W_ret2G (H2:=(mb,.cells 217 7 [.int .i64 (kind:Int),.int .i64 (entries:Int),.int .i64 (words:Int),.pointer (some ⟨ab,0,none⟩),.pointer (some ⟨tb,0,none⟩),.pointer (some ⟨bo,0,none⟩),.bool closed])::(HA++(HT++(HO++H)))) Tryz.results61 (.nil _) (.own (vs:=puttC zPutt) rfl ty139 rfl (b:=b8) zM rfl) (.tmp rfl) zH ?_))
   have e:(Xm.put (⟨kind,entries,words,closed,L,C,used⟩:Xm) how k ws)=((⟨kind,entries,words,closed,L,C,used⟩:Xm),zPutt,22):=by
    unfold Xm.put
    rw [if_neg (by dsimp only; omega)]
    rw [if_pos c1]
   rw [e]
   exact ⟨HA,HT,HO,hA,hB,hO.up zO,rfl,rfl⟩
  ·skip
   refine W_skip (W_blk (W_sr (W_move rfl rfl (W_build (l:=celC ⟨k,zW⟩) ty220 pl220 (.cons rfl rfl rfl rfl rfl .nil) rfl rfl rfl ?_))))
   refine W_alloc (l:=celC zCel) ty220 rfl rfl (fun b10=>?_)
   refine W_storeA (l':=celC (⟨k,zW⟩)) rfl rfl ty220 rfl rfl (b:=b10) zM (by exact Nat.le_refl 5) rfl zU ?_
   refine W_nil (W_sr ?_)
   have hw4:ws.length≤4:=by have:=hx.wrd; dsimp only at this; omega
   refine W_fieldAddr rfl fld220_1 zd rfl ?_
   refine W_x (X_sliceArr (l:=0) (hh:=4) rfl ty218 ty30 rfl rfl zd zd zd) (fun _ h=>by cases h) rfl ?_
   refine W_move rfl rfl ?_
   refine W_copy (kk:=ws.length) (news:=ws.map (Value.int .u64)) (l':=celC ⟨k,W4.of ws⟩) rfl rfl ty84 ty30 (by omega) (by rw [List.length_map,Nat.mul_one]) (hrow.up zH) (by simp [Value.oneCell']) (b:=b10) zM (by rw [List.length_map]; show 0+1+0*1+ws.length≤5; omega) (W4.copy hw4 (.int .u64 k)) zU rfl ?_
   refine W_nil (W_seq (W_sr (W_move rfl rfl (W_move rfl rfl ?_))))
   refine W_callq (.cons rfl (.cons rfl .nil)) Tryz.call142 rfl (Look_q hB (k:=k) (HA:=HA) (HO:=HO) (closed:=closed) (kind:=kind) (words:=words) (fun p hp=>by repeat (first | exact mem3 p hp | apply List.mem_cons_of_mem))) ?_
   rcases hf:fndC C k with _ | g
   ·skip
    simp only [Option.getD_none,Option.isSome_none,Bool.false_eq_true,if_false]
    refine W_move rfl rfl (W_extract rfl rfl rfl (W_extract rfl rfl rfl ?_))
    refine W_alloc (l:=hdC zHd) ty40 rfl rfl (fun b11=>?_)
    refine W_storeA (l':=hdC zHd) rfl rfl ty40 rfl rfl (b:=b11) zM (by exact Nat.le_refl 2) rfl zU ?_
    refine W_assign rfl rfl (W_nil (W_sr (W_move rfl rfl (W_bin rfl rfl b_eql rfl ?_))))
    refine W_nil (W_condF rfl rfl (W_skip (W_seq (W_sr (W_move rfl rfl (W_move rfl rfl ?_))))))
    refine W_callq (.cons rfl (.cons rfl .nil)) Tryz.call145 rfl (refuse_q hA hB (how:=how) (HO:=HO) (used:=used) (closed:=closed) (words:=words) (fun p hp=>by repeat (first | exact mem3 p hp | apply List.mem_cons_of_mem))) ?_
    refine W_assign rfl rfl (W_nil (W_sr (W_move rfl rfl (W_bin rfl rfl b_neq rfl ?_))))
    refine W_nil ?_
    refine W_condPS (p:=¬ (Xm.refE (⟨kind,entries,words,closed,L,C,used⟩:Xm) how)=0) rfl (by simp) (fun c2=>?_) (fun c2=>?_)
    ·skip
     refine W_sr (W_build (l:=puttC zPutt) ty139 pl139 .nil rfl rfl rfl ?_)
     refine W_move rfl rfl ?_
     refine W_storeA (l':=puttC zPutt) rfl rfl ty139 rfl rfl (b:=b8) zM (by exact Nat.le_refl 5) rfl zU ?_
     refine W_assign rfl rfl (W_nil (W_ret2G (H2:=(mb,.cells 217 7 [.int .i64 (kind:Int),.int .i64 (entries:Int),.int .i64 (words:Int),.pointer (some ⟨ab,0,none⟩),.pointer (some ⟨tb,0,none⟩),.pointer (some ⟨bo,0,none⟩),.bool closed])::(HA++(HT++(HO++H)))) Tryz.results61 (.nil _) (.own (vs:=puttC zPutt) rfl ty139 rfl (b:=b8) zM rfl) (.tmp rfl) zH ?_))
     have e:(Xm.put (⟨kind,entries,words,closed,L,C,used⟩:Xm) how k ws)=((⟨kind,entries,words,closed,L,C,used⟩:Xm),zPutt,Xm.refE (⟨kind,entries,words,closed,L,C,used⟩:Xm) how):=by
      unfold Xm.put
      rw [if_neg (by dsimp only; omega)]
      rw [if_neg c1]
      dsimp only
      rw [hf]
      dsimp only
      rw [if_pos c2]
     rw [e]
     exact ⟨HA,HT,HO,hA,hB,hO.up zO,rfl,rfl⟩
    ·skip
     refine W_skip (W_sr ?_)
     refine W_alloc (l:=puttC zPutt) ty139 rfl rfl (fun b14=>?_)
     refine W_nil (W_seq (W_sr (W_move rfl rfl ?_)))
     refine W_callq (.cons rfl .nil) Tryz.call146 rfl (full_q hB (HA:=HA) (HO:=HO) (closed:=closed) (kind:=kind) (words:=words) (fun p hp=>by repeat (first | exact mem3 p hp | apply List.mem_cons_of_mem))) ?_
     refine W_nil ?_
     refine W_condPS (p:=C.length=entries) rfl (by simp) (fun c3=>?_) (fun c3=>?_)
     ·skip
      refine W_sr (W_move rfl rfl (W_nilCheck rfl rfl (W_fieldAddr rfl fld217_5 zd rfl ?_)))
      refine W_load (v:=.pointer (some ⟨bo,0,none⟩)) rfl ty215 rfl (Cell.own (b:=mb) zM rfl) rfl ?_
      obtain ⟨o,ho⟩:∃ o,used[0]?=some o:=⟨_,List.getElem?_eq_getElem (by have:=hx.ulen; have:=hx.ent; dsimp only at *; omega)⟩
      have hom:o∈keyL C:=hx.umem.1 (List.mem_of_getElem? ho)
      refine W_call (.cons rfl .nil) Tryz.call147 rfl ((hO.oldest (by have:=hx.ent; dsimp only at *; omega) (H:=(b14,.cells 139 5 (puttC zPutt))::(b11,.cells 40 2 (hdC zHd))::(b10,.cells 220 5 (celC ⟨k,W4.of ws⟩))::(b8,.cells 139 5 (puttC zPutt))::(mb,.cells 217 7 [.int .i64 (kind:Int),.int .i64 (entries:Int),.int .i64 (words:Int),.pointer (some ⟨ab,0,none⟩),.pointer (some ⟨tb,0,none⟩),.pointer (some ⟨bo,0,none⟩),.bool closed])::(HA++(HT++H)))).hsub zH) ?_
      rintro v H' ⟨rfl,rfl⟩
      rw [show fstU used=.int .u64 o from by unfold fstU; rw [ho]]
      refine W_move rfl rfl (W_extract rfl rfl rfl (W_extract rfl rfl rfl (W_assign rfl rfl (W_assign rfl rfl (W_nil (W_region (W_move rfl rfl ?_)))))))
      refine W_move rfl rfl (W_call (.cons rfl (.cons rfl .nil)) Tryz.call148 rfl ((unlink_at (closed:=closed) (kind:=kind) (words:=words) (HA:=HA) hB hO (k:=o) (H:=(b14,.cells 139 5 (puttC zPutt))::(b11,.cells 40 2 (hdC zHd))::(b10,.cells 220 5 (celC ⟨k,W4.of ws⟩))::(b8,.cells 139 5 (puttC zPutt))::H)).hsub zH) ?_)
      rintro v H' ⟨HT2,HO2,hB2,hO2,rfl,rfl⟩
      obtain ⟨g0,hg0⟩:∃ g0,g0=(fndC C o).getD zHd:=⟨_,rfl⟩
      rw [← hg0]
      refine W_fieldAddr rfl fld139_1 zd rfl ?_
      refine W_storeA (l':=puttC ⟨zHd,g0,false⟩) rfl rfl ty40 rfl rfl (b:=b14) zM (by show 2+2≤5; decide) rfl zU ?_
      refine W_fieldAddr rfl fld139_2 zd rfl ?_
      refine W_store (l':=puttC ⟨zHd,g0,true⟩) rfl rfl ty4 rfl rfl (b:=b14) zM rfl rfl zU ?_
      refine W_nil (W_sr (W_move rfl rfl (W_loadB (vs:=celC ⟨k,W4.of ws⟩) rfl ty220 rfl (b:=b10) zM rfl rfl rfl ?_)))
      obtain ⟨i,s,hfi,hs⟩:=Xm.free_slot (x:=(⟨kind,entries,words,closed,L,C,used⟩:Xm)) (how:=how) (Classical.not_not.1 c2)
      dsimp only at hfi hs
      have hkn:=fndC_none.1 hf
      have hdl:=delC_len hB.nd.1 hom
      have hul:=hx.ulen
      have hule:(drop1O used o).length+1=used.length:=by have:=(drop1O_perm hx.und (List.mem_of_getElem? ho)).length_eq; rw [List.length_append] at this; exact this.symm
      dsimp only at hul
      refine W_call (.cons rfl (.cons rfl .nil)) Tryz.call149 rfl ((link_at (closed:=closed) (kind:=kind) (words:=words) hA hB2 hO2 (by omega) (by have:=hx.ent; dsimp only at this; omega) (c:=⟨k,W4.of ws⟩) hfi hs (by rw [keyL_del]; exact fun hm=>hkn (List.mem_filter.1 hm).1) (by omega) (by omega) hTab (H:=(b14,.cells 139 5 (puttC ⟨zHd,g0,true⟩))::(b11,.cells 40 2 (hdC zHd))::(b10,.cells 220 5 (celC ⟨k,W4.of ws⟩))::(b8,.cells 139 5 (puttC zPutt))::H)).hsub zH) ?_
      rintro v H' ⟨HA3,HT3,HO3,hA3,hB3,hO3,rfl,rfl⟩
      refine W_move rfl rfl (W_extract rfl rfl rfl (W_extract rfl rfl rfl ?_))
      refine W_alloc (l:=hdC zHd) ty40 rfl rfl (fun b17=>?_)
      refine W_storeA (l':=hdC s.own) rfl rfl ty40 rfl rfl (b:=b17) zM (by exact Nat.le_refl 2) rfl zU ?_
      refine W_assign rfl rfl (W_nil (W_sr (W_loadB (vs:=hdC s.own) rfl ty40 rfl (b:=b17) zM rfl rfl rfl ?_)))
      refine W_fieldAddr rfl fld139_0 zd rfl ?_
      refine W_storeA (l':=puttC ⟨s.own,g0,true⟩) rfl rfl ty40 rfl rfl (b:=b14) zM (by show 0+2≤5; decide) rfl zU ?_
      refine W_nil (W_sr (W_loadB (vs:=puttC ⟨s.own,g0,true⟩) rfl ty139 rfl (b:=b14) zM rfl rfl rfl ?_))
      refine W_move rfl rfl ?_
      refine W_storeA (l':=puttC ⟨s.own,g0,true⟩) rfl rfl ty139 rfl rfl (b:=b8) zM (by exact Nat.le_refl 5) rfl zU ?_
      refine W_assign rfl rfl (W_nil (W_ret2G (H2:=(mb,.cells 217 7 [.int .i64 (kind:Int),.int .i64 (entries:Int),.int .i64 (words:Int),.pointer (some ⟨ab,0,none⟩),.pointer (some ⟨tb,0,none⟩),.pointer (some ⟨bo,0,none⟩),.bool closed])::(HA3++(HT3++(HO3++H)))) Tryz.results61 (.nil _) (.own (vs:=puttC ⟨s.own,g0,true⟩) rfl ty139 rfl (b:=b8) zM rfl) (.tmp rfl) zH ?_))
      have hh:used.headD 0=o:=by cases used with
       | nil=>cases ho
       | cons a t=>exact Option.some.inj ho
      have e:(Xm.put (⟨kind,entries,words,closed,L,C,used⟩:Xm) how k ws)=(((Xm.unlink (⟨kind,entries,words,closed,L,C,used⟩:Xm) o).1.link ⟨k,W4.of ws⟩).1,⟨((Xm.unlink (⟨kind,entries,words,closed,L,C,used⟩:Xm) o).1.link ⟨k,W4.of ws⟩).2,(Xm.unlink (⟨kind,entries,words,closed,L,C,used⟩:Xm) o).2,true⟩,0):=by
       unfold Xm.put
       rw [if_neg (by dsimp only; omega)]
       rw [if_neg c1]
       dsimp only
       rw [hf]
       dsimp only
       rw [if_neg c2,if_pos c3,hh]
      rw [e,Xm.link_is (x:=(Xm.unlink (⟨kind,entries,words,closed,L,C,used⟩:Xm) o).1) hfi hs]
      exact ⟨HA3,HT3,HO3,hA3,hB3,hO3.up (by omega),by rw [hg0]; rfl,rfl⟩
     ·skip
      refine W_skip (W_sr (W_move rfl rfl (W_loadB (vs:=celC ⟨k,W4.of ws⟩) rfl ty220 rfl (b:=b10) zM rfl rfl rfl ?_)))
      obtain ⟨i,s,hfi,hs⟩:=Xm.free_slot (x:=(⟨kind,entries,words,closed,L,C,used⟩:Xm)) (how:=how) (Classical.not_not.1 c2)
      dsimp only at hfi hs
      have hkn:=fndC_none.1 hf
      have hul:=hx.ulen
      have hle:=hx.le
      dsimp only at hul hle
      refine W_call (.cons rfl (.cons rfl .nil)) Tryz.call149 rfl ((link_at (closed:=closed) (kind:=kind) (words:=words) hA hB hO zO (by have:=hx.ent; dsimp only at this; omega) (c:=⟨k,W4.of ws⟩) hfi hs hkn zO zO hTab (H:=(b14,.cells 139 5 (puttC zPutt))::(b11,.cells 40 2 (hdC zHd))::(b10,.cells 220 5 (celC ⟨k,W4.of ws⟩))::(b8,.cells 139 5 (puttC zPutt))::H)).hsub zH) ?_
      rintro v H' ⟨HA3,HT3,HO3,hA3,hB3,hO3,rfl,rfl⟩
      refine W_move rfl rfl (W_extract rfl rfl rfl (W_extract rfl rfl rfl ?_))
      refine W_alloc (l:=hdC zHd) ty40 rfl rfl (fun b17=>?_)
      refine W_storeA (l':=hdC s.own) rfl rfl ty40 rfl rfl (b:=b17) zM (by exact Nat.le_refl 2) rfl zU ?_
      refine W_assign rfl rfl (W_nil (W_sr (W_loadB (vs:=hdC s.own) rfl ty40 rfl (b:=b17) zM rfl rfl rfl ?_)))
      refine W_fieldAddr rfl fld139_0 zd rfl ?_
      refine W_storeA (l':=puttC ⟨s.own,zHd,false⟩) rfl rfl ty40 rfl rfl (b:=b14) zM (by show 0+2≤5; decide) rfl zU ?_
      refine W_nil (W_sr (W_loadB (vs:=puttC ⟨s.own,zHd,false⟩) rfl ty139 rfl (b:=b14) zM rfl rfl rfl ?_))
      refine W_move rfl rfl ?_
      refine W_storeA (l':=puttC ⟨s.own,zHd,false⟩) rfl rfl ty139 rfl rfl (b:=b8) zM (by exact Nat.le_refl 5) rfl zU ?_
      refine W_assign rfl rfl (W_nil (W_ret2G (H2:=(mb,.cells 217 7 [.int .i64 (kind:Int),.int .i64 (entries:Int),.int .i64 (words:Int),.pointer (some ⟨ab,0,none⟩),.pointer (some ⟨tb,0,none⟩),.pointer (some ⟨bo,0,none⟩),.bool closed])::(HA3++(HT3++(HO3++H)))) Tryz.results61 (.nil _) (.own (vs:=puttC ⟨s.own,zHd,false⟩) rfl ty139 rfl (b:=b8) zM rfl) (.tmp rfl) zH ?_))
      have e:(Xm.put (⟨kind,entries,words,closed,L,C,used⟩:Xm) how k ws)=((Xm.link (⟨kind,entries,words,closed,L,C,used⟩:Xm) ⟨k,W4.of ws⟩).1,⟨(Xm.link (⟨kind,entries,words,closed,L,C,used⟩:Xm) ⟨k,W4.of ws⟩).2,zHd,false⟩,0):=by
       unfold Xm.put
       rw [if_neg (by dsimp only; omega)]
       rw [if_neg c1]
       dsimp only
       rw [hf]
       dsimp only
       rw [if_neg c2,if_neg c3]
      rw [e,Xm.link_is (x:=(⟨kind,entries,words,closed,L,C,used⟩:Xm)) hfi hs]
      exact ⟨HA3,HT3,HO3,hA3,hB3,hO3.up zO,rfl,rfl⟩
   ·skip
    simp only [Option.getD_some,Option.isSome_some,if_true]
    refine W_move rfl rfl (W_extract rfl rfl rfl (W_extract rfl rfl rfl ?_))
    refine W_alloc (l:=hdC zHd) ty40 rfl rfl (fun b11=>?_)
    refine W_storeA (l':=hdC g) rfl rfl ty40 rfl rfl (b:=b11) zM (by exact Nat.le_refl 2) rfl zU ?_
    refine W_assign rfl rfl (W_nil (W_sr (W_move rfl rfl (W_bin rfl rfl b_eql rfl ?_))))
    refine W_nil (W_condT rfl rfl (W_seq (W_sr (W_move rfl rfl (W_bin rfl rfl b_eql rfl ?_)))))
    refine W_nil ?_
    refine W_condPS (p:=how=1) rfl (by simp) (fun c2=>?_) (fun c2=>?_)
    ·skip
     refine W_sr (W_build (l:=puttC zPutt) ty139 pl139 .nil rfl rfl rfl ?_)
     refine W_storeA (l':=puttC zPutt) rfl rfl ty139 rfl rfl (b:=b8) zM (by exact Nat.le_refl 5) rfl zU ?_
     refine W_assign rfl rfl (W_nil (W_ret2G (H2:=(mb,.cells 217 7 [.int .i64 (kind:Int),.int .i64 (entries:Int),.int .i64 (words:Int),.pointer (some ⟨ab,0,none⟩),.pointer (some ⟨tb,0,none⟩),.pointer (some ⟨bo,0,none⟩),.bool closed])::(HA++(HT++(HO++H)))) Tryz.results61 (.nil _) (.own (vs:=puttC zPutt) rfl ty139 rfl (b:=b8) zM rfl) (.tmp rfl) zH ?_))
     have e:(Xm.put (⟨kind,entries,words,closed,L,C,used⟩:Xm) how k ws)=((⟨kind,entries,words,closed,L,C,used⟩:Xm),zPutt,5):=by
      unfold Xm.put
      rw [if_neg (by dsimp only; omega)]
      rw [if_neg c1]
      dsimp only
      rw [hf]
      dsimp only
      rw [if_pos c2]
     rw [e]
     exact ⟨HA,HT,HO,hA,hB,hO.up zO,rfl,rfl⟩
    ·skip
     refine W_skip (W_sr (W_move rfl rfl (W_nilCheck rfl rfl (W_fieldAddr rfl fld217_5 zd rfl ?_))))
     refine W_load (v:=.pointer (some ⟨bo,0,none⟩)) rfl ty215 rfl (Cell.own (b:=mb) zM rfl) rfl ?_
     refine W_move rfl rfl ?_
     refine W_buildSlice (l:=[.int .u64 k]) ty84 ty30 (.cons rfl rfl rfl rfl rfl .nil) rfl rfl rfl rfl rfl rfl rfl (fun b68=>?_)
     refine W_call (.cons rfl (.cons rfl .nil)) Tryz.call143 rfl ((hO.touch hTl (k:=k) (cap:=1) (.inl (hx.umem.2 (keyL_mem hf))) (Holds.own (b:=b68) zM) (H:=(b68,.cells 30 (1*1) [.int .u64 k])::(b11,.cells 40 2 (hdC g))::(b10,.cells 220 5 (celC ⟨k,W4.of ws⟩))::(b8,.cells 139 5 (puttC zPutt))::(mb,.cells 217 7 [.int .i64 (kind:Int),.int .i64 (entries:Int),.int .i64 (words:Int),.pointer (some ⟨ab,0,none⟩),.pointer (some ⟨tb,0,none⟩),.pointer (some ⟨bo,0,none⟩),.bool closed])::(HA++(HT++H)))).hsub zH) ?_
     rintro v H' ⟨HO2,hO2,rfl,rfl⟩
     refine W_nil (W_seq ?_)
     refine W_anyC [(mb,.cells 217 7 [.int .i64 (kind:Int),.int .i64 (entries:Int),.int .i64 (words:Int),.pointer (some ⟨ab,0,none⟩),.pointer (some ⟨tb,0,none⟩),.pointer (some ⟨bo,0,none⟩),.bool closed]),(b11,.cells 40 2 (hdC g)),(b10,.cells 220 5 (celC ⟨k,W4.of ws⟩))] zk ?_
     refine WC_take 0 rfl zK zK zK rfl rfl (X_loadB (vs:=hdC g) rfl ty40 rfl (b:=b11) zM rfl rfl) rfl ?_
     refine WC_take 1 rfl zK zK zK rfl rfl (X_build (l:=puttC ⟨g,zHd,false⟩) ty139 pl139 (.cons rfl rfl rfl rfl rfl .nil) rfl rfl) rfl ?_
     refine WC_take 2 rfl zK zK zK rfl rfl (X_move rfl) rfl ?_
     refine WC_take 3 rfl zK zK zK rfl rfl (X_nilCheck rfl) rfl ?_
     refine WC_take 4 rfl zK zK zK rfl rfl (X_fieldAddr rfl fld217_3 zd) rfl ?_
     refine WC_take 5 rfl zK zK zK rfl rfl (X_load (v:=.pointer (some ⟨ab,0,none⟩)) rfl ty213 rfl (Cell.own (b:=mb) zM rfl)) rfl ?_
     refine WC_take 6 rfl zK zK zK rfl rfl (X_loadB (vs:=hdC g) rfl ty40 rfl (b:=b11) zM rfl rfl) rfl ?_
     refine WC_take 7 rfl zK zK zK rfl rfl (X_loadB (vs:=celC (⟨k,W4.of ws⟩)) rfl ty220 rfl (b:=b10) zM rfl rfl) rfl ?_
     refine WC_one 8 zH zK rfl rfl ?_
     refine W_call (.cons rfl (.cons rfl (.cons rfl .nil))) Tryz.call144 rfl ((hA.set (h:=g) (c:=⟨k,W4.of ws⟩) (H:=(b11,.cells 40 2 (hdC g))::(b10,.cells 220 5 (celC ⟨k,W4.of ws⟩))::(b8,.cells 139 5 (puttC zPutt))::(mb,.cells 217 7 [.int .i64 (kind:Int),.int .i64 (entries:Int),.int .i64 (words:Int),.pointer (some ⟨ab,0,none⟩),.pointer (some ⟨tb,0,none⟩),.pointer (some ⟨bo,0,none⟩),.bool closed])::(HT++(HO2++H)))).hsub zH) ?_
     rintro v H' ⟨HA2,hA2,rfl,rfl⟩
     refine W_nil ?_
     refine WC_goal ?_
     refine WC_one 9 zH zK rfl rfl ?_
     refine W_storeA (l':=puttC ⟨g,zHd,false⟩) rfl rfl ty139 rfl rfl (b:=b8) zM (by exact Nat.le_refl 5) rfl zU ?_
     refine W_nil ?_
     refine WC_goal ?_
     refine WC_take 10 rfl zK zK zK rfl rfl (X_assign rfl) rfl ?_
     refine WC_done zH zK ?_
     refine W_ret2G (H2:=(mb,.cells 217 7 [.int .i64 (kind:Int),.int .i64 (entries:Int),.int .i64 (words:Int),.pointer (some ⟨ab,0,none⟩),.pointer (some ⟨tb,0,none⟩),.pointer (some ⟨bo,0,none⟩),.bool closed])::(HA2++(HT++(HO2++H)))) Tryz.results61 (.nil _) (.own (vs:=puttC ⟨g,zHd,false⟩) rfl ty139 rfl (b:=b8) zM rfl) (.tmp rfl) zH ?_
     have e:(Xm.put (⟨kind,entries,words,closed,L,C,used⟩:Xm) how k ws)=({ Xm.use (⟨kind,entries,words,closed,L,C,used⟩:Xm) k with L:=setAX L g (fun s=>{ s with cel:=⟨k,W4.of ws⟩ }) },⟨g,zHd,false⟩,errA L g):=by
      unfold Xm.put
      rw [if_neg (by dsimp only; omega)]
      rw [if_neg c1]
      dsimp only
      rw [hf]
      dsimp only
      rw [if_neg c2]
     rw [e]
     exact ⟨HA2,HT,HO2,hA2,hB,hO2.up (Nat.le_succ _),rfl,rfl⟩
theorem with_no {w0:World} {H:Heap} {mb ab tb bo kind entries words:Nat} {closed:Bool} {L:List Slt} {C:List (Int × Hd)} {HA HT HO:Heap} (hA:AreH ab L HA) (hB:TabH tb entries C HT) {h:Hd} {fi:Nat} {ca:List Value} (he:errA L h≠0) (hm:∀ p∈((mb,.cells 217 7 [.int .i64 (kind:Int),.int .i64 (entries:Int),.int .i64 (words:Int),.pointer (some ⟨ab,0,none⟩),.pointer (some ⟨tb,0,none⟩),.pointer (some ⟨bo,0,none⟩),.bool closed])::(HA++(HT++HO))),p∈H) :PureAt Tryz.prog w0 H 152 [.pointer (some ⟨mb,0,none⟩),.agg (List.toArray (hdC h)),Value.func (.func fi) #[] ca.toArray] (.int .i64 (errA L h)):=by
 refine L_enter Tryz.func152 rfl Tryz.ntmps152 rfl rfl ?_
 refine W_sr ?_
 refine W_box rfl rfl rfl (fun b4=>?_)
 refine W_assign rfl rfl (W_nil (W_seq (W_sr (W_move rfl rfl ?_))))
 refine W_x (X_ptrNil rfl rfl ty65) (fun _ h=>by cases h) rfl ?_
 refine W_nil (W_condF rfl rfl (W_skip (W_seq ?_)))
 refine W_cutX (X:=Nat) (fun x=>[(0,.pointer (some ⟨mb,0,none⟩)),(2,Value.func (.func fi) #[] ca.toArray),(7,.pointer (some ⟨x,0,none⟩)),(8,.int .i64 (errA L h))]) (fun x=>(x,.cells 220 5 (celC (celA L h)))::(b4,.cells 40 2 (hdC h))::H) (fun _=>True) ?_ ?_
 ·skip
  refine W_anyC ((b4,.cells 40 2 (hdC h))::H) zk ?_
  refine WC_take 0 rfl zK zK zK rfl rfl (X_move rfl) rfl ?_
  refine WC_take 1 rfl zK zK zK rfl rfl (X_nilCheck rfl) rfl ?_
  refine WC_take 2 rfl zK zK zK rfl rfl (X_fieldAddr rfl fld217_3 zd) rfl ?_
  refine WC_take 3 rfl zK zK zK rfl rfl (X_load (v:=.pointer (some ⟨ab,0,none⟩)) rfl ty213 rfl (Cell.own (b:=mb) (by repeat (first | exact hm _ List.mem_cons_self | apply List.mem_cons_of_mem)) rfl)) rfl ?_
  refine WC_take 4 rfl zK zK zK rfl rfl (X_loadB (vs:=hdC h) rfl ty40 rfl (b:=b4) zM rfl rfl) rfl ?_
  refine WC_two 5 9 (l':=#[true,true,true,true,true,true,false,false,false,false,false,false]) (l'':=#[true,true,true,true,true,false,false,false,false,true,false,false]) zH zK rfl rfl zK zK ?_ ?_
  ·skip
   refine W_callq (.cons rfl (.cons rfl .nil)) Tryz.call245 rfl (hA.get (h:=h) (fun p hp=>by repeat (first | exact hm p (List.mem_cons_of_mem _ (List.mem_append_left _ hp)) | apply List.mem_cons_of_mem))) ?_
   refine W_nil ?_
   refine WC_goal ?_
   refine WC_take 6 rfl zK zK zK rfl rfl (X_move rfl) rfl ?_
   refine WC_take 7 rfl zK zK zK rfl rfl (X_extract rfl rfl) rfl ?_
   refine WC_take 8 rfl zK zK zK rfl rfl (X_extract rfl rfl) rfl ?_
   refine WC_one 9 zH zK rfl rfl ?_
   refine W_alloc (l:=celC zCel) ty220 rfl rfl (fun b7=>?_)
   refine W_nil ?_
   refine WC_goal ?_
   refine WC_one 10 zH zK rfl rfl ?_
   refine W_storeA (l':=celC (celA L h)) rfl rfl ty220 rfl rfl (b:=b7) zM (by exact Nat.le_refl 5) rfl zU ?_
   refine W_nil ?_
   refine WC_goal ?_
   refine WC_take 11 rfl zK zK zK rfl rfl (X_assign rfl) rfl ?_
   refine WC_done zH zK ?_
   refine W_joinX b7 trivial (sub_cons rfl (sub_cons rfl (sub_cons rfl (sub_cons rfl (sub_nil _))))) zH
  ·skip
   refine W_alloc (l:=celC zCel) ty220 rfl rfl (fun b7=>?_)
   refine W_nil ?_
   refine WC_goal ?_
   refine WC_one 5 zH zK rfl rfl ?_
   refine W_callq (.cons rfl (.cons rfl .nil)) Tryz.call245 rfl (hA.get (h:=h) (fun p hp=>by repeat (first | exact hm p (List.mem_cons_of_mem _ (List.mem_append_left _ hp)) | apply List.mem_cons_of_mem))) ?_
   refine W_nil ?_
   refine WC_goal ?_
   refine WC_take 6 rfl zK zK zK rfl rfl (X_move rfl) rfl ?_
   refine WC_take 7 rfl zK zK zK rfl rfl (X_extract rfl rfl) rfl ?_
   refine WC_take 8 rfl zK zK zK rfl rfl (X_extract rfl rfl) rfl ?_
   refine WC_one 10 zH zK rfl rfl ?_
   refine W_storeA (l':=celC (celA L h)) rfl rfl ty220 rfl rfl (b:=b7) zM (by exact Nat.le_refl 5) rfl zU ?_
   refine W_nil ?_
   refine WC_goal ?_
   refine WC_take 11 rfl zK zK zK rfl rfl (X_assign rfl) rfl ?_
   refine WC_done zH zK ?_
   refine W_joinX b7 trivial (sub_cons rfl (sub_cons rfl (sub_cons rfl (sub_cons rfl (sub_nil _))))) zH
 rintro b7 -
 refine W_seq (W_sr (W_move rfl rfl (W_bin rfl rfl b_neq rfl ?_)))
 refine W_nil (W_condT rfl (decide_eq_true he) ?_)
 refine W_sr (W_move rfl rfl (W_assign rfl rfl (W_nil (W_ret1m (H2:=H) Tryz.results152 rfl (.nil _) zH ?_))))
 exact ⟨rfl,rfl⟩
theorem with_yes {w0:World} {H:Heap} {mb ab tb bo kind entries words:Nat} {closed:Bool} {L:List Slt} {C:List (Int × Hd)} {HA HT HO:Heap} (hA:AreH ab L HA) (hB:TabH tb entries C HT) {h:Hd} {fi:Nat} {ca:List Value} {R:Value→Heap→Prop} (hfi:∀ (args:Array Value) (w:World),(callFunc fi args).run Tryz.prog w=.ok (.enter fi args) w) (he:errA L h=0) (hm:∀ p∈((mb,.cells 217 7 [.int .i64 (kind:Int),.int .i64 (entries:Int),.int .i64 (words:Int),.pointer (some ⟨ab,0,none⟩),.pointer (some ⟨tb,0,none⟩),.pointer (some ⟨bo,0,none⟩),.bool closed])::(HA++(HT++HO))),p∈H) (hdo:LCalls Tryz.prog w0 fi (#[]++#[.agg (List.toArray (celC (celA L h)))]++ca.toArray) (H) R) :LCalls Tryz.prog w0 152 #[.pointer (some ⟨mb,0,none⟩),.agg (List.toArray (hdC h)),Value.func (.func fi) #[] ca.toArray] (H) (R):=by
 refine L_enter (l:=[.pointer (some ⟨mb,0,none⟩),.agg (List.toArray (hdC h)),Value.func (.func fi) #[] ca.toArray]) Tryz.func152 rfl Tryz.ntmps152 rfl rfl ?_
 refine W_sr ?_
 refine W_box rfl rfl rfl (fun b4=>?_)
 refine W_assign rfl rfl (W_nil (W_seq (W_sr (W_move rfl rfl ?_))))
 refine W_x (X_ptrNil rfl rfl ty65) (fun _ h=>by cases h) rfl ?_
 refine W_nil (W_condF rfl rfl (W_skip (W_seq ?_)))
 refine W_cutX (X:=Nat) (fun x=>[(0,.pointer (some ⟨mb,0,none⟩)),(2,Value.func (.func fi) #[] ca.toArray),(7,.pointer (some ⟨x,0,none⟩)),(8,.int .i64 (errA L h))]) (fun x=>(x,.cells 220 5 (celC (celA L h)))::(b4,.cells 40 2 (hdC h))::H) (fun _=>True) ?_ ?_
 ·skip
  refine W_anyC ((b4,.cells 40 2 (hdC h))::H) zk ?_
  refine WC_take 0 rfl zK zK zK rfl rfl (X_move rfl) rfl ?_
  refine WC_take 1 rfl zK zK zK rfl rfl (X_nilCheck rfl) rfl ?_
  refine WC_take 2 rfl zK zK zK rfl rfl (X_fieldAddr rfl fld217_3 zd) rfl ?_
  refine WC_take 3 rfl zK zK zK rfl rfl (X_load (v:=.pointer (some ⟨ab,0,none⟩)) rfl ty213 rfl (Cell.own (b:=mb) (by repeat (first | exact hm _ List.mem_cons_self | apply List.mem_cons_of_mem)) rfl)) rfl ?_
  refine WC_take 4 rfl zK zK zK rfl rfl (X_loadB (vs:=hdC h) rfl ty40 rfl (b:=b4) zM rfl rfl) rfl ?_
  refine WC_two 5 9 (l':=#[true,true,true,true,true,true,false,false,false,false,false,false]) (l'':=#[true,true,true,true,true,false,false,false,false,true,false,false]) zH zK rfl rfl zK zK ?_ ?_
  ·skip
   refine W_callq (.cons rfl (.cons rfl .nil)) Tryz.call245 rfl (hA.get (h:=h) (fun p hp=>by repeat (first | exact hm p (List.mem_cons_of_mem _ (List.mem_append_left _ hp)) | apply List.mem_cons_of_mem))) ?_
   refine W_nil ?_
   refine WC_goal ?_
   refine WC_take 6 rfl zK zK zK rfl rfl (X_move rfl) rfl ?_
   refine WC_take 7 rfl zK zK zK rfl rfl (X_extract rfl rfl) rfl ?_
   refine WC_take 8 rfl zK zK zK rfl rfl (X_extract rfl rfl) rfl ?_
   refine WC_one 9 zH zK rfl rfl ?_
   refine W_alloc (l:=celC zCel) ty220 rfl rfl (fun b7=>?_)
   refine W_nil ?_
   refine WC_goal ?_
   refine WC_one 10 zH zK rfl rfl ?_
   refine W_storeA (l':=celC (celA L h)) rfl rfl ty220 rfl rfl (b:=b7) zM (by exact Nat.le_refl 5) rfl zU ?_
   refine W_nil ?_
   refine WC_goal ?_
   refine WC_take 11 rfl zK zK zK rfl rfl (X_assign rfl) rfl ?_
   refine WC_done zH zK ?_
   refine W_joinX b7 trivial (sub_cons rfl (sub_cons rfl (sub_cons rfl (sub_cons rfl (sub_nil _))))) zH
  ·skip
   refine W_alloc (l:=celC zCel) ty220 rfl rfl (fun b7=>?_)
   refine W_nil ?_
   refine WC_goal ?_
   refine WC_one 5 zH zK rfl rfl ?_
   refine W_callq (.cons rfl (.cons rfl .nil)) Tryz.call245 rfl (hA.get (h:=h) (fun p hp=>by repeat (first | exact hm p (List.mem_cons_of_mem _ (List.mem_append_left _ hp)) | apply List.mem_cons_of_mem))) ?_
   refine W_nil ?_
   refine WC_goal ?_
   refine WC_take 6 rfl zK zK zK rfl rfl (X_move rfl) rfl ?_
   refine WC_take 7 rfl zK zK zK rfl rfl (X_extract rfl rfl) rfl ?_
   refine WC_take 8 rfl zK zK zK rfl rfl (X_extract rfl rfl) rfl ?_
   refine WC_one 10 zH zK rfl rfl ?_
   refine W_storeA (l':=celC (celA L h)) rfl rfl ty220 rfl rfl (b:=b7) zM (by exact Nat.le_refl 5) rfl zU ?_
   refine W_nil ?_
   refine WC_goal ?_
   refine WC_take 11 rfl zK zK zK rfl rfl (X_assign rfl) rfl ?_
   refine WC_done zH zK ?_
   refine W_joinX b7 trivial (sub_cons rfl (sub_cons rfl (sub_cons rfl (sub_cons rfl (sub_nil _))))) zH
 rintro b7 -
 refine W_seq (W_sr (W_move rfl rfl (W_bin rfl rfl b_neq rfl ?_)))
 refine W_nil ?_
 refine W_condF rfl (decide_eq_false (fun h=>h he)) ?_
 refine W_skip (W_sr (W_move rfl rfl (W_loadB (vs:=celC (celA L h)) rfl ty220 rfl (b:=b7) zM rfl rfl rfl ?_)))
 refine W_callv (fa:=#[]) (ca:=ca.toArray) rfl (.cons rfl .nil) hfi rfl (hdo.hsub zH) ?_
 rintro v H' hR
 refine W_assign rfl rfl (W_nil (W_ret1m (H2:=H') Tryz.results152 rfl (.nil _) zH ?_))
 exact hR
theorem key1_L {w0:World} {H:Heap} {c:Cel} {b6:Nat} {z:Int} :LCalls Tryz.prog w0 153 #[.agg (List.toArray (celC c)),.pointer (some ⟨b6,0,none⟩)] ((b6,.cells 30 1 [.int .u64 z])::H) (fun v H'=>v=.int .i64 0∧H'=(b6,.cells 30 1 [.int .u64 c.key])::H):=by
 refine L_enter (l:=[.agg (List.toArray (celC c)),.pointer (some ⟨b6,0,none⟩)]) Tryz.func153 rfl Tryz.ntmps153 rfl rfl ?_
 refine W_sr ?_
 refine W_box (l:=celC c) rfl rfl rfl (fun b2=>?_)
 refine W_assign rfl rfl (W_nil (W_sr (W_fieldAddr rfl fld220_0 zd rfl ?_)))
 refine W_load (v:=.int .u64 c.key) rfl ty30 rfl (Cell.own (b:=b2) zM rfl) rfl ?_
 refine W_store (l':=[.int .u64 c.key]) rfl rfl ty30 rfl rfl (b:=b6) zM rfl rfl zU ?_
 refine W_nil (W_sr (W_assign rfl rfl (W_nil (W_ret1m (H2:=(b6,.cells 30 1 [.int .u64 c.key])::H) Tryz.results153 rfl (.nil _) zH ?_))))
 exact ⟨rfl,rfl⟩
theorem Key_q {w0:World} {H:Heap} {mb ab tb bo kind entries words:Nat} {closed:Bool} {L:List Slt} {C:List (Int × Hd)} {HA HT HO:Heap} (hA:AreH ab L HA) (hB:TabH tb entries C HT) {h:Hd} (hm:∀ p∈((mb,.cells 217 7 [.int .i64 (kind:Int),.int .i64 (entries:Int),.int .i64 (words:Int),.pointer (some ⟨ab,0,none⟩),.pointer (some ⟨tb,0,none⟩),.pointer (some ⟨bo,0,none⟩),.bool closed])::(HA++(HT++HO))),p∈H) :PureAt Tryz.prog w0 H 66 [.pointer (some ⟨mb,0,none⟩),.agg (List.toArray (hdC h))] (.tuple #[.int .u64 (celA L h).key,.int .i64 (errA L h)]):=by
 refine L_enter Tryz.func66 rfl Tryz.ntmps66 rfl rfl ?_
 by_cases he:errA L h=0
 ·skip
  refine W_sr ?_
  refine W_box (l:=hdC h) rfl rfl rfl (fun b3=>?_)
  refine W_assign rfl rfl (W_assign rfl rfl (W_nil (W_sr ?_)))
  refine W_alloc (l:=[.int .u64 0]) ty30 rfl rfl (fun b6=>?_)
  refine W_nil (W_sr (W_move rfl rfl (W_loadB (vs:=hdC h) rfl ty40 rfl (b:=b3) zM rfl rfl rfl ?_)))
  refine W_makeFunc .nil (.cons rfl .nil) rfl ?_
  refine W_call (.cons rfl (.cons rfl (.cons rfl .nil))) Tryz.call152 rfl (with_yes (ca:=[.pointer (some ⟨b6,0,none⟩)]) hA hB Tryz.call153 he (HO:=HO) (closed:=closed) (kind:=kind) (words:=words) (fun p hp=>by repeat (first | exact hm p hp | apply List.mem_cons_of_mem)) (key1_L (c:=celA L h) (z:=0))) ?_
  rintro v H' ⟨rfl,rfl⟩
  refine W_assign rfl rfl (W_nil (W_sr (W_load (v:=.int .u64 (celA L h).key) rfl ty30 rfl (Cell.own (b:=b6) zM rfl) rfl ?_)))
  refine W_move rfl rfl (W_assign rfl rfl (W_assign rfl rfl (W_nil (W_ret2m (H2:=H) Tryz.results66 rfl rfl (.nil _) zH ?_))))
  exact ⟨by rw [he],rfl⟩
 ·skip
  refine W_sr ?_
  refine W_box (l:=hdC h) rfl rfl rfl (fun b3=>?_)
  refine W_assign rfl rfl (W_assign rfl rfl (W_nil (W_sr ?_)))
  refine W_alloc (l:=[.int .u64 0]) ty30 rfl rfl (fun b6=>?_)
  refine W_nil (W_sr (W_move rfl rfl (W_loadB (vs:=hdC h) rfl ty40 rfl (b:=b3) zM rfl rfl rfl ?_)))
  refine W_makeFunc .nil (.cons rfl .nil) rfl ?_
  refine W_callq (.cons rfl (.cons rfl (.cons rfl .nil))) Tryz.call152 rfl (with_no (ca:=[.pointer (some ⟨b6,0,none⟩)]) hA hB he (HO:=HO) (closed:=closed) (kind:=kind) (words:=words) (fun p hp=>by repeat (first | exact hm p hp | apply List.mem_cons_of_mem))) ?_
  refine W_assign rfl rfl (W_nil (W_sr (W_load (v:=.int .u64 0) rfl ty30 rfl (Cell.own (b:=b6) zM rfl) rfl ?_)))
  refine W_move rfl rfl (W_assign rfl rfl (W_assign rfl rfl (W_nil (W_ret2m (H2:=H) Tryz.results66 rfl rfl (.nil _) zH ?_))))
  exact ⟨by rw [(errA_no he).1]; rfl,rfl⟩
theorem linked1_L {w0:World} {H:Heap} {mb ab tb bo b2 b3 b5 kind entries words:Nat} {closed:Bool} {C:List (Int × Hd)} {HA HT HO:Heap} (hB:TabH tb entries C HT) {c:Cel} {h:Hd} (hm:∀ p∈((mb,.cells 217 7 [.int .i64 (kind:Int),.int .i64 (entries:Int),.int .i64 (words:Int),.pointer (some ⟨ab,0,none⟩),.pointer (some ⟨tb,0,none⟩),.pointer (some ⟨bo,0,none⟩),.bool closed])::(HA++(HT++HO))),p∈H) :LCalls Tryz.prog w0 343 #[.agg (List.toArray (celC c)),.pointer (some ⟨b2,0,none⟩),.pointer (some ⟨b3,0,none⟩),.pointer (some ⟨b5,0,none⟩)] ((b5,.cells 4 1 [.bool false])::(b3,.cells 40 2 (hdC h))::(b2,.cells 65 1 [.pointer (some ⟨mb,0,none⟩)])::H) (fun v H'=>(∃ e,v=.int .i64 e)∧H'=(b5,.cells 4 1 [.bool (decide (fndC C c.key=some h))])::(b3,.cells 40 2 (hdC h))::(b2,.cells 65 1 [.pointer (some ⟨mb,0,none⟩)])::H):=by
 refine L_enter (l:=[.agg (List.toArray (celC c)),.pointer (some ⟨b2,0,none⟩),.pointer (some ⟨b3,0,none⟩),.pointer (some ⟨b5,0,none⟩)]) Tryz.func343 rfl Tryz.ntmps343 rfl rfl ?_
 refine W_sr ?_
 refine W_box (l:=celC c) rfl rfl rfl (fun b4=>?_)
 refine W_assign rfl rfl (W_nil (W_sr (W_load (v:=.pointer (some ⟨mb,0,none⟩)) rfl ty65 rfl (Cell.own (b:=b2) zM rfl) rfl ?_)))
 refine W_fieldAddr rfl fld220_0 zd rfl ?_
 refine W_load (v:=.int .u64 c.key) rfl ty30 rfl (Cell.own (b:=b4) zM rfl) rfl ?_
 refine W_callq (.cons rfl (.cons rfl .nil)) Tryz.call142 rfl (Look_q hB (k:=c.key) (HA:=HA) (HO:=HO) (closed:=closed) (kind:=kind) (words:=words) (fun p hp=>by repeat (first | exact hm p hp | apply List.mem_cons_of_mem))) ?_
 rcases hf:fndC C c.key with _ | g
 ·skip
  simp only [Option.getD_none,Option.isSome_none,Bool.false_eq_true,if_false]
  refine W_move rfl rfl (W_extract rfl rfl rfl (W_extract rfl rfl rfl ?_))
  refine W_alloc (l:=hdC zHd) ty40 rfl rfl (fun b6=>?_)
  refine W_storeA (l':=hdC zHd) rfl rfl ty40 rfl rfl (b:=b6) zM (by exact Nat.le_refl 2) rfl zU ?_
  refine W_assign rfl rfl (W_nil (W_sr (W_move rfl rfl (W_bin rfl rfl b_eql rfl ?_))))
  rw [decide_eq_false (show ¬ (4:Int)=0 by decide)]
  refine W_move rfl rfl (W_gno rfl rfl rfl ?_)
  refine W_gno rfl rfl rfl ?_
  refine W_gno rfl rfl rfl ?_
  first | refine W_pickt rfl rfl rfl ?_ | refine W_pickf rfl rfl rfl ?_
  refine W_store (l':=[.bool false]) rfl rfl ty4 rfl rfl (b:=b5) zM rfl rfl zU ?_
  refine W_nil (W_sr (W_move rfl rfl (W_assign rfl rfl (W_nil (W_ret1m (H2:=(b5,.cells 4 1 [.bool false])::(b3,.cells 40 2 (hdC h))::(b2,.cells 65 1 [.pointer (some ⟨mb,0,none⟩)])::H) Tryz.results343 rfl (.nil _) zH ?_)))))
  exact ⟨⟨_,rfl⟩,by rw [decide_eq_false (show ¬ (none:Option Hd)=some h from nofun)]⟩
 ·skip
  simp only [Option.getD_some,Option.isSome_some,if_true]
  refine W_move rfl rfl (W_extract rfl rfl rfl (W_extract rfl rfl rfl ?_))
  refine W_alloc (l:=hdC zHd) ty40 rfl rfl (fun b6=>?_)
  refine W_storeA (l':=hdC g) rfl rfl ty40 rfl rfl (b:=b6) zM (by exact Nat.le_refl 2) rfl zU ?_
  refine W_assign rfl rfl (W_nil (W_sr (W_move rfl rfl (W_bin rfl rfl b_eql rfl ?_))))
  rw [decide_eq_true (show (0:Int)=0 from rfl)]
  refine W_move rfl rfl (W_gyes rfl rfl (W_loadB (vs:=hdC g) rfl ty40 rfl (b:=b6) zM rfl rfl rfl ?_))
  refine W_gyes rfl rfl (W_loadB (vs:=hdC h) rfl ty40 rfl (b:=b3) zM rfl rfl rfl ?_)
  refine W_gyes rfl rfl ?_
  refine W_x (X_eqF (f:=hdC) rfl rfl flat40 agg40 hdC_like hdC_inj gt40 zd) (fun _ h=>by cases h) rfl ?_
  first | refine W_pickt rfl rfl rfl ?_ | refine W_pickf rfl rfl rfl ?_
  refine W_store (l':=[.bool (decide (g=h))]) rfl rfl ty4 rfl rfl (b:=b5) zM rfl rfl zU ?_
  refine W_nil (W_sr (W_move rfl rfl (W_assign rfl rfl (W_nil (W_ret1m (H2:=(b5,.cells 4 1 [.bool (decide (g=h))])::(b3,.cells 40 2 (hdC h))::(b2,.cells 65 1 [.pointer (some ⟨mb,0,none⟩)])::H) Tryz.results343 rfl (.nil _) zH ?_)))))
  exact ⟨⟨_,rfl⟩,by rw [show decide (some g=some h)=decide (g=h) from decide_eq_decide.2 (by simp)]⟩
theorem Linked_q {w0:World} {H:Heap} {mb ab tb bo kind entries words:Nat} {closed:Bool} {L:List Slt} {C:List (Int × Hd)} {HA HT HO:Heap} (hA:AreH ab L HA) (hB:TabH tb entries C HT) {h:Hd} (used:List Int) (hm:∀ p∈((mb,.cells 217 7 [.int .i64 (kind:Int),.int .i64 (entries:Int),.int .i64 (words:Int),.pointer (some ⟨ab,0,none⟩),.pointer (some ⟨tb,0,none⟩),.pointer (some ⟨bo,0,none⟩),.bool closed])::(HA++(HT++HO))),p∈H) :PureAt Tryz.prog w0 H 254 [.pointer (some ⟨mb,0,none⟩),.agg (List.toArray (hdC h))] (.bool (Xm.linked (⟨kind,entries,words,closed,L,C,used⟩:Xm) h)):=by
 refine L_enter Tryz.func254 rfl Tryz.ntmps254 rfl rfl ?_
 by_cases he:errA L h=0
 ·skip
  refine W_sr ?_
  refine W_box (l:=[.pointer (some ⟨mb,0,none⟩)]) rfl rfl rfl (fun b2=>?_)
  refine W_box (l:=hdC h) rfl rfl rfl (fun b3=>?_)
  refine W_assign rfl rfl (W_nil (W_sr ?_))
  refine W_alloc (l:=[.bool false]) ty4 rfl rfl (fun b5=>?_)
  refine W_store (l':=[.bool false]) rfl rfl ty4 rfl rfl (b:=b5) zM rfl rfl zU ?_
  refine W_nil (W_sr (W_load (v:=.pointer (some ⟨mb,0,none⟩)) rfl ty65 rfl (Cell.own (b:=b2) zM rfl) rfl ?_))
  refine W_loadB (vs:=hdC h) rfl ty40 rfl (b:=b3) zM rfl rfl rfl ?_
  refine W_makeFunc .nil (.cons rfl (.cons rfl (.cons rfl .nil))) rfl ?_
  refine W_call (.cons rfl (.cons rfl (.cons rfl .nil))) Tryz.call152 rfl (with_yes (ca:=[.pointer (some ⟨b2,0,none⟩),.pointer (some ⟨b3,0,none⟩),.pointer (some ⟨b5,0,none⟩)]) hA hB (HO:=HO) (closed:=closed) (kind:=kind) (words:=words) Tryz.call343 he (fun p hp=>by repeat (first | exact hm p hp | apply List.mem_cons_of_mem)) (linked1_L hB (c:=celA L h) (h:=h) hm)) ?_
  rintro v H' ⟨⟨e1,rfl⟩,rfl⟩
  refine W_nil (W_sr (W_load (v:=.bool (decide (fndC C (celA L h).key=some h))) rfl ty4 rfl (Cell.own (b:=b5) zM rfl) rfl ?_))
  refine W_assign rfl rfl (W_nil (W_ret1m (H2:=H) Tryz.results254 rfl (.nil _) zH ?_))
  exact ⟨by unfold Xm.linked; rw [decide_eq_true he,Bool.true_and],rfl⟩
 ·skip
  refine W_sr ?_
  refine W_box (l:=[.pointer (some ⟨mb,0,none⟩)]) rfl rfl rfl (fun b2=>?_)
  refine W_box (l:=hdC h) rfl rfl rfl (fun b3=>?_)
  refine W_assign rfl rfl (W_nil (W_sr ?_))
  refine W_alloc (l:=[.bool false]) ty4 rfl rfl (fun b5=>?_)
  refine W_store (l':=[.bool false]) rfl rfl ty4 rfl rfl (b:=b5) zM rfl rfl zU ?_
  refine W_nil (W_sr (W_load (v:=.pointer (some ⟨mb,0,none⟩)) rfl ty65 rfl (Cell.own (b:=b2) zM rfl) rfl ?_))
  refine W_loadB (vs:=hdC h) rfl ty40 rfl (b:=b3) zM rfl rfl rfl ?_
  refine W_makeFunc .nil (.cons rfl (.cons rfl (.cons rfl .nil))) rfl ?_
  refine W_callq (.cons rfl (.cons rfl (.cons rfl .nil))) Tryz.call152 rfl (with_no (ca:=[.pointer (some ⟨b2,0,none⟩),.pointer (some ⟨b3,0,none⟩),.pointer (some ⟨b5,0,none⟩)]) hA hB he (HO:=HO) (closed:=closed) (kind:=kind) (words:=words) (fun p hp=>by repeat (first | exact hm p hp | apply List.mem_cons_of_mem))) ?_
  refine W_nil (W_sr (W_load (v:=.bool false) rfl ty4 rfl (Cell.own (b:=b5) zM rfl) rfl ?_))
  refine W_assign rfl rfl (W_nil (W_ret1m (H2:=H) Tryz.results254 rfl (.nil _) zH ?_))
  exact ⟨by unfold Xm.linked; rw [decide_eq_false he,Bool.false_and],rfl⟩
def sortU (l:List Int):List Int:=l.mergeSort (fun a b=>decide (a≤b))
noncomputable def Xm.keys (x:Xm):List Int:=if x.kind=2 then x.used else if x.kind=0 then sortU (keysC x.C) else keysC x.C
theorem Held_qm {w0:World} {H:Heap} {mb ab tb bo kind entries words:Nat} {closed:Bool} {L:List Slt} {C:List (Int × Hd)} {HA HT HO:Heap} (hA:AreH ab L HA) (hB:TabH tb entries C HT) (hm:∀ p∈((mb,.cells 217 7 [.int .i64 (kind:Int),.int .i64 (entries:Int),.int .i64 (words:Int),.pointer (some ⟨ab,0,none⟩),.pointer (some ⟨tb,0,none⟩),.pointer (some ⟨bo,0,none⟩),.bool closed])::(HA++(HT++HO))),p∈H) :PureAt Tryz.prog w0 H 43 [.pointer (some ⟨mb,0,none⟩)] (.int .i64 ((cntA 1 L:Nat):Int)):=by
 refine L_enter Tryz.func43 rfl Tryz.ntmps43 rfl rfl ?_
 refine W_sr (W_assign rfl rfl (W_nil (W_seq (W_sr (W_move rfl rfl ?_)))))
 refine W_x (X_ptrNil rfl rfl ty65) (fun _ h=>by cases h) rfl ?_
 refine W_nil (W_condF rfl rfl (W_skip (W_sr (W_move rfl rfl (W_nilCheck rfl rfl (W_fieldAddr rfl fld217_3 zd rfl ?_))))))
 refine W_load (v:=.pointer (some ⟨ab,0,none⟩)) rfl ty213 rfl (Cell.own (b:=mb) (by repeat (first | exact hm _ List.mem_cons_self | apply List.mem_cons_of_mem)) rfl) rfl ?_
 refine W_callq (.cons rfl .nil) Tryz.call125 rfl (hA.lenq (fun p hp=>by repeat (first | exact hm p (List.mem_cons_of_mem _ (List.mem_append_left _ hp)) | apply List.mem_cons_of_mem))) ?_
 refine W_assign rfl rfl (W_nil (W_ret1m (H2:=H) Tryz.results43 rfl (.nil _) zH ?_))
 exact ⟨rfl,rfl⟩
def arrS (i:Nat):Slt:=⟨⟨(i:Int),1⟩,1,⟨(i:Int),zW⟩⟩
def arrL (n k:Nat):List Slt:=(List.range n).map fun i=>if i<k then arrS i else newS i
def arrC (k:Nat):List (Int × Hd):=((List.range k).map fun i:Nat=>(((i:Int),⟨(i:Int),1⟩):Int × Hd)).reverse
def arrU (k:Nat):List Int:=(List.range k).map fun i:Nat=>(i:Int)
theorem arrL_len (n k:Nat):(arrL n k).length=n:=by unfold arrL; rw [List.length_map,List.length_range]
theorem arrL_at {n k i:Nat} (h:i<n):(arrL n k)[i]?=some (if i<k then arrS i else newS i):=by
 unfold arrL; rw [List.getElem?_map,List.getElem?_range h]; rfl
theorem arrL_zero (n:Nat):arrL n 0=newL n n:=by
 apply List.ext_getElem?
 intro i
 by_cases h:i<n
 ·rw [arrL_at h,newL_at h,if_neg (by omega),if_pos h]
 ·rw [List.getElem?_eq_none (by rw [arrL_len]; omega),List.getElem?_eq_none (by rw [newL_len]; omega)]
theorem arrL_set {n k:Nat}:(arrL n k).set k (arrS k)=arrL n (k+1):=by
 apply List.ext_getElem?
 intro j
 by_cases hj:j<n
 ·by_cases e:k=j
  ·subst e
   rw [List.getElem?_set_self (by rw [arrL_len]; exact hj),arrL_at hj,if_pos (by omega)]
  ·rw [List.getElem?_set_ne e,arrL_at hj,arrL_at hj]
   by_cases c:j<k
   ·rw [if_pos c,if_pos (by omega)]
   ·rw [if_neg c,if_neg (by omega)]
 ·rw [List.getElem?_eq_none (by rw [List.length_set,arrL_len]; omega),List.getElem?_eq_none (by rw [arrL_len]; omega)]
theorem arrL_first {n k:Nat} (h:k<n):firstF (arrL n k)=some k:=by
 unfold firstF
 rw [List.findIdx?_eq_some_iff_getElem]
 refine ⟨by rw [arrL_len]; exact h,?_,fun j hj=>?_⟩
 ·have:=arrL_at (k:=k) h
  rw [if_neg (Nat.lt_irrefl _)] at this
  obtain ⟨h1,h2⟩:=List.getElem?_eq_some_iff.1 this
  rw [h2]; rfl
 ·have:=arrL_at (n:=n) (k:=k) (i:=j) zO
  rw [if_pos hj] at this
  obtain ⟨h1,h2⟩:=List.getElem?_eq_some_iff.1 this
  rw [h2]
  show ¬ decide ((1:Nat)=0)=true
  decide
theorem arrC_succ (k:Nat):arrC (k+1)=((k:Int),⟨(k:Int),1⟩)::arrC k:=by
 unfold arrC; rw [List.range_succ,List.map_append,List.reverse_append]; rfl
theorem arrC_len (k:Nat):(arrC k).length=k:=by unfold arrC; rw [List.length_reverse,List.length_map,List.length_range]
theorem arrU_len (k:Nat):(arrU k).length=k:=by unfold arrU; rw [List.length_map,List.length_range]
theorem arrU_mem {k:Nat} {x:Int}:x∈arrU k↔0≤x∧x<(k:Int):=by
 unfold arrU
 rw [List.mem_map]
 constructor
 ·rintro ⟨i,hi,rfl⟩
  have:=List.mem_range.1 hi
  omega
 ·intro h
  exact ⟨x.toNat,List.mem_range.2 zO,by omega⟩
theorem arrU_nodup (k:Nat):(arrU k).Nodup:=by
 unfold arrU
 exact List.Pairwise.map _ (fun a b (h:a≠b)=>by show (a:Int)≠(b:Int); omega) List.nodup_range
theorem arrU_succ (k:Nat):drop1O (arrU k) (k:Int)++[(k:Int)]=arrU (k+1):=by
 rw [drop1O_not (fun h=>by have:=(arrU_mem.1 h).2; omega)]
 unfold arrU; rw [List.range_succ,List.map_append]; rfl
theorem arrC_keys (k:Nat):keyL (arrC k)=(arrU k).reverse:=by
 unfold arrC arrU
 show List.map _ (List.reverse _)=_
 rw [List.map_reverse,List.map_map]; rfl
theorem arrC_mem {k:Nat} {p:Int × Hd} (h:p∈arrC k):∃ i:Nat,i<k∧p=((i:Int),⟨(i:Int),1⟩):=by
 unfold arrC at h
 obtain ⟨i,hi,rfl⟩:=List.mem_map.1 (List.mem_reverse.1 h)
 exact ⟨i,List.mem_range.1 hi,rfl⟩
theorem arr_ok {kind entries words kk:Nat} {b:Bool} (h1:kind≤2) (h2:1≤entries∧entries≤8) (h3:1≤words∧words≤4) (hk:kk≤entries):(Xm.mk kind entries words b (arrL (2*entries) kk) (arrC kk) (arrU kk)).Ok where
 knd:=h1
 ent:=h2
 wrd:=h3
 len:=arrL_len _ _
 are:=⟨by rw [arrL_len]; omega,fun i s hs=>by
  have hi:i<2*entries:=by have:=(List.getElem?_eq_some_iff.1 hs).1; rwa [arrL_len] at this
  rw [arrL_at hi] at hs
  obtain rfl:=Option.some.inj hs
  split
  ·exact ⟨rfl,by show (1:Int)≤1; decide,by show (1:Int)≤255; decide⟩
  ·exact ⟨rfl,by show (1:Int)≤1; decide,by show (1:Int)≤255; decide⟩⟩
 nd:=by show (keyL (arrC kk)).Nodup; rw [arrC_keys]; exact (List.reverse_perm _).nodup_iff.2 (arrU_nodup kk)
 perm:=by show (arrU kk).Perm (keyL (arrC kk)); rw [arrC_keys]; exact (List.reverse_perm _).symm
 le:=by show (arrC kk).length≤entries; rw [arrC_len]; exact hk
 lk:=fun p hp=>by
  obtain ⟨i,hi,rfl⟩:=arrC_mem hp
  exact ⟨i,arrS i,rfl,by show (arrL _ _)[i]?=_; rw [arrL_at (by omega),if_pos hi],rfl,rfl,rfl⟩
 rng:=fun k hk2=>by
  have hk3:k∈keyL (arrC kk):=hk2
  rw [arrC_keys] at hk3
  have:=arrU_mem.1 (List.mem_reverse.1 hk3)
  omega
def Xm.new (kind entries words:Nat):Xm:=⟨kind,entries,words,false,arrL (2*entries) (if kind=0 then entries else 0),arrC (if kind=0 then entries else 0),arrU (if kind=0 then entries else 0)⟩
theorem New_go {w0:World} {H:Heap} {kind entries words:Nat} (h1:kind≤2) (h2:1≤entries∧entries≤8) (h3:1≤words∧words≤4) (hTab:Tab w0):LCalls Tryz.prog w0 81 #[.int .i64 (kind:Int),.int .i64 (entries:Int),.int .i64 (words:Int)] (H) (fun v H'=>∃ mb ab tb bo HA HT HO,AreH ab (Xm.new kind entries words).L HA∧TabH tb entries (Xm.new kind entries words).C HT∧OrdH bo entries 8 (Xm.new kind entries words).used HO∧v=.tuple #[.pointer (some ⟨mb,0,none⟩),.int .i64 0]∧H'=(mb,.cells 217 7 [.int .i64 (kind:Int),.int .i64 (entries:Int),.int .i64 (words:Int),.pointer (some ⟨ab,0,none⟩),.pointer (some ⟨tb,0,none⟩),.pointer (some ⟨bo,0,none⟩),.bool false])::(HA++(HT++(HO++H)))):=by
 refine L_enter (l:=[.int .i64 (kind:Int),.int .i64 (entries:Int),.int .i64 (words:Int)]) Tryz.func81 rfl Tryz.ntmps81 rfl rfl ?_
 refine W_sr (W_assign rfl rfl (W_assign rfl rfl (W_nil (W_seq (W_block (W_sr (W_move rfl rfl (W_bin rfl rfl b_lss rfl ?_))))))))
 refine W_move rfl rfl ?_
 apply W_or
 iterate 4 exact rfl
 case h1 =>
  intro hg2
  refine W_gyes rfl rfl (W_move rfl rfl (W_gyes rfl rfl (W_bin rfl rfl b_gtr rfl ?_)))
  exact W_met rfl zR
 refine W_assign rfl rfl (W_nil ?_)
 refine W_condF rfl (by simp; omega) ?_
 refine W_sr (W_move rfl rfl (W_bin rfl rfl b_lss rfl ?_))
 refine W_move rfl rfl ?_
 apply W_or
 iterate 4 exact rfl
 case h1 =>
  intro hg2
  refine W_gyes rfl rfl (W_move rfl rfl (W_gyes rfl rfl (W_bin rfl rfl b_gtr rfl ?_)))
  exact W_met rfl zR
 refine W_move rfl rfl ?_
 apply W_or
 iterate 4 exact rfl
 case h1 =>
  intro hg6
  refine W_gyes rfl rfl (W_move rfl rfl (W_gyes rfl rfl (W_bin rfl rfl b_lss rfl ?_)))
  exact W_met rfl zR
 refine W_move rfl rfl ?_
 apply W_or
 iterate 4 exact rfl
 case h1 =>
  intro hg10
  refine W_gyes rfl rfl (W_move rfl rfl (W_gyes rfl rfl (W_bin rfl rfl b_gtr rfl ?_)))
  exact W_met rfl zR
 refine W_assign rfl rfl (W_nil ?_)
 refine W_condF rfl (by simp; omega) ?_
 refine W_skip (W_blk (W_sr (W_move rfl rfl (W_move rfl rfl (W_move rfl rfl (W_build (l:=[.int .i64 (kind:Int),.int .i64 (entries:Int),.int .i64 (words:Int),.pointer none,.pointer none,.pointer none,.bool false]) ty217 pl217 (.cons rfl rfl rfl rfl rfl (.cons rfl rfl rfl rfl rfl (.cons rfl rfl rfl rfl rfl .nil))) rfl rfl rfl ?_))))))
 refine W_box (l:=[.int .i64 (kind:Int),.int .i64 (entries:Int),.int .i64 (words:Int),.pointer none,.pointer none,.pointer none,.bool false]) rfl rfl rfl (fun b36=>?_)
 refine W_assign rfl rfl (W_nil (W_sr (W_move rfl rfl (W_move rfl rfl ?_))))
 refine W_bin rfl rfl (b_mul (m:=((2*entries:Nat):Int)) (by rw [i64w (by omega)]; omega)) rfl ?_
 refine W_call (.cons rfl .nil) Tryz.call170 rfl (AreH.new (n:=2*entries) zO zO) ?_
 rintro v H' ⟨ab,HA,hA,rfl,rfl⟩
 refine W_move rfl rfl (W_extract rfl rfl rfl (W_extract rfl rfl rfl (W_nilCheck rfl rfl (W_fieldAddr rfl fld217_3 zd rfl ?_))))
 refine W_store (l':=[.int .i64 (kind:Int),.int .i64 (entries:Int),.int .i64 (words:Int),.pointer (some ⟨ab,0,none⟩),.pointer none,.pointer none,.bool false]) rfl rfl ty213 rfl rfl (b:=b36) zM rfl rfl zU ?_
 refine W_nil (W_sr (W_move rfl rfl (W_move rfl rfl (W_call (.cons rfl (.cons rfl .nil)) Tryz.call171 rfl (TabH.new (room:=entries) zO zO) ?_))))
 rintro v H' ⟨tb,HT,hB,rfl,rfl⟩
 refine W_move rfl rfl (W_extract rfl rfl rfl (W_extract rfl rfl rfl (W_nilCheck rfl rfl (W_fieldAddr rfl fld217_4 zd rfl ?_))))
 refine W_store (l':=[.int .i64 (kind:Int),.int .i64 (entries:Int),.int .i64 (words:Int),.pointer (some ⟨ab,0,none⟩),.pointer (some ⟨tb,0,none⟩),.pointer none,.bool false]) rfl rfl ty214 rfl rfl (b:=b36) zM rfl rfl zU ?_
 refine W_nil (W_sr (W_move rfl rfl (W_move rfl rfl (W_call (.cons rfl .nil) Tryz.call172 rfl (OrdH.new (room:=entries) zO) ?_))))
 rintro v H' ⟨bo,HO,hO,rfl,rfl⟩
 refine W_move rfl rfl (W_extract rfl rfl rfl (W_extract rfl rfl rfl (W_nilCheck rfl rfl (W_fieldAddr rfl fld217_5 zd rfl ?_))))
 refine W_store (l':=[.int .i64 (kind:Int),.int .i64 (entries:Int),.int .i64 (words:Int),.pointer (some ⟨ab,0,none⟩),.pointer (some ⟨tb,0,none⟩),.pointer (some ⟨bo,0,none⟩),.bool false]) rfl rfl ty215 rfl rfl (b:=b36) zM rfl rfl zU ?_
 refine W_nil (W_seq (W_sr (W_move rfl rfl (W_move rfl rfl (W_nil (W_block ?_))))))
 refine W_loopC (X:=(Nat × Heap × Heap × Heap)) [(0,_),(8,_),(62,_)] (fun (x:(Nat × Heap × Heap × Heap))=>[(63,.int .i64 (x.1:Int))]) (fun _=>_) (fun (x:(Nat × Heap × Heap × Heap))=>(b36,.cells 217 7 [.int .i64 (kind:Int),.int .i64 (entries:Int),.int .i64 (words:Int),.pointer (some ⟨ab,0,none⟩),.pointer (some ⟨tb,0,none⟩),.pointer (some ⟨bo,0,none⟩),.bool false])::(x.2.1++(x.2.2.1++(x.2.2.2++H)))) (fun (x:(Nat × Heap × Heap × Heap))=>x.1≤entries∧AreH ab (arrL (2*entries) (if kind=0 then x.1 else 0)) x.2.1∧TabH tb entries (arrC (if kind=0 then x.1 else 0)) x.2.2.1∧OrdH bo entries x.1 (arrU (if kind=0 then x.1 else 0)) x.2.2.2) (fun (x:(Nat × Heap × Heap × Heap))=>entries-x.1) (0,HA,HT,HO) ⟨Nat.zero_le _,by rw [ite_self,arrL_zero]; exact hA,by rw [ite_self]; exact hB,by rw [ite_self]; exact hO⟩ (sub_cons rfl (sub_cons rfl (sub_cons rfl (sub_nil _)))) (sub_cons rfl (sub_nil _)) rfl zH ?_
 rintro ⟨k,HA1,HT1,HO1⟩ ⟨hk,hA1,hB1,hO1⟩
 dsimp only at hk hA1 hB1 hO1 ⊢
 simp only [List.cons_append,List.nil_append]
 refine W_sr (W_bin rfl rfl b_lss rfl ?_)
 refine W_nil (W_seq ?_)
 refine W_condPS (p:=(k:Int)<(entries:Int)) rfl (by simp) (fun q0=>?_) (fun q0=>?_)
 ·skip
  refine W_skip (W_seq (W_block (W_sr (W_move rfl rfl (W_assign rfl rfl (W_nil (W_sr (W_move rfl rfl (W_bin rfl rfl b_eql rfl ?_)))))))))
  refine W_nil ?_
  refine W_condPS (p:=kind=0) rfl (by simp) (fun q1=>?_) (fun q1=>?_)
  ·skip
   refine W_region (W_move rfl rfl (W_move rfl rfl (W_conv rfl ty3 ty30 (u64w zO) rfl ?_)))
   refine W_build (l:=celC ⟨(k:Int),zW⟩) ty220 pl220 (.cons rfl rfl rfl rfl rfl .nil) rfl rfl rfl ?_
   subst q1
   rw [if_pos rfl] at hA1 hB1 hO1
   refine W_call (.cons rfl (.cons rfl .nil)) Tryz.call149 rfl ((link_at (mb:=b36) (closed:=false) (kind:=0) (words:=words) hA1 hB1 hO1 (by omega) (by omega) (i:=k) (s:=newS k) (c:=⟨(k:Int),zW⟩) (arrL_first (by omega)) (by rw [arrL_at (by omega),if_neg (Nat.lt_irrefl _)]) (by rw [arrC_keys]; exact fun hm=>by have h9:(k:Int)<(k:Int):=(arrU_mem.1 (List.mem_reverse.1 hm)).2; omega) (by rw [arrC_len]; omega) (by rw [arrU_len]; omega) hTab (H:=H)).hsub zH) ?_
   rintro v H' ⟨HA2,HT2,HO2,hA2,hB2,hO2,rfl,rfl⟩
   refine W_nil (W_blk (W_region (W_bin rfl rfl (b_add (m:=((k+1:Nat):Int)) ((i64w zO).trans zO)) rfl ?_)))
   refine W_move rfl rfl (W_nil ?_)
   refine W_again (k+1,HA2,HT2,HO2) ⟨by show k+1≤entries; omega,by show AreH _ _ _; rw [if_pos rfl]; rw [← arrL_set]; exact hA2,by show TabH _ _ _ _; rw [if_pos rfl,arrC_succ]; exact hB2,by show OrdH _ _ _ _ _; rw [if_pos rfl,← arrU_succ]; exact hO2⟩ (by show entries-(k+1)<entries-k; omega) (sub_cons rfl (sub_cons rfl (sub_cons rfl (sub_cons rfl (sub_nil _))))) rfl zH
  ·skip
   refine W_skip (W_blk (W_region (W_bin rfl rfl (b_add (m:=((k+1:Nat):Int)) ((i64w zO).trans zO)) rfl ?_)))
   refine W_move rfl rfl (W_nil ?_)
   refine W_again (k+1,HA1,HT1,HO1) ⟨by show k+1≤entries; omega,by rw [if_neg q1] at hA1 ⊢; exact hA1,by rw [if_neg q1] at hB1 ⊢; exact hB1,by rw [if_neg q1] at hO1 ⊢; exact hO1.up (Nat.le_succ _)⟩ (by show entries-(k+1)<entries-k; omega) (sub_cons rfl (sub_cons rfl (sub_cons rfl (sub_cons rfl (sub_nil _))))) rfl zH
 ·skip
  refine W_exit rfl ?_
  refine W_sr (W_move rfl rfl (W_assign rfl rfl (W_assign rfl rfl (W_nil (W_ret2m (H2:=(b36,.cells 217 7 [.int .i64 (kind:Int),.int .i64 (entries:Int),.int .i64 (words:Int),.pointer (some ⟨ab,0,none⟩),.pointer (some ⟨tb,0,none⟩),.pointer (some ⟨bo,0,none⟩),.bool false])::(HA1++(HT1++(HO1++H)))) Tryz.results81 rfl rfl (.nil _) zH ?_)))))
  obtain rfl:k=entries:=by omega
  exact ⟨b36,ab,tb,bo,HA1,HT1,HO1,hA1,hB1,hO1.up zO,rfl,rfl⟩
theorem free1_L {w0:World} {H:Heap} {mb ab tb bo kind entries words:Nat} {closed:Bool} {L:List Slt} {C:List (Int × Hd)} {HA HT HO:Heap} (hA:AreH ab L HA) (hB:TabH tb entries C HT) {b2 b3:Nat} {c:Cel} {h:Hd} (used:List Int) :LCalls Tryz.prog w0 253 #[.agg (List.toArray (celC c)),.pointer (some ⟨b2,0,none⟩),.pointer (some ⟨b3,0,none⟩)] ((b3,.cells 40 2 (hdC h))::(b2,.cells 65 1 [.pointer (some ⟨mb,0,none⟩)])::(mb,.cells 217 7 [.int .i64 (kind:Int),.int .i64 (entries:Int),.int .i64 (words:Int),.pointer (some ⟨ab,0,none⟩),.pointer (some ⟨tb,0,none⟩),.pointer (some ⟨bo,0,none⟩),.bool closed])::(HA++(HT++(HO++H)))) (fun v' H'=>∃ HA',AreH ab (if (Xm.linked (⟨kind,entries,words,closed,L,C,used⟩:Xm) h)=true then L else setAX L h relS) HA'∧v'=.int .i64 (if (Xm.linked (⟨kind,entries,words,closed,L,C,used⟩:Xm) h)=true then 21 else errA L h)∧H'=(b3,.cells 40 2 (hdC h))::(b2,.cells 65 1 [.pointer (some ⟨mb,0,none⟩)])::(mb,.cells 217 7 [.int .i64 (kind:Int),.int .i64 (entries:Int),.int .i64 (words:Int),.pointer (some ⟨ab,0,none⟩),.pointer (some ⟨tb,0,none⟩),.pointer (some ⟨bo,0,none⟩),.bool closed])::(HA'++(HT++(HO++H)))):=by
 refine L_enter (l:=[.agg (List.toArray (celC c)),.pointer (some ⟨b2,0,none⟩),.pointer (some ⟨b3,0,none⟩)]) Tryz.func253 rfl Tryz.ntmps253 rfl rfl ?_
 refine W_sr ?_
 refine W_box (l:=celC c) rfl rfl rfl (fun b0=>?_)
 refine W_assign rfl rfl (W_nil (W_seq (W_sr (W_load (v:=.pointer (some ⟨mb,0,none⟩)) rfl ty65 rfl (Cell.own (b:=b2) zM rfl) rfl ?_))))
 refine W_loadB (vs:=hdC h) rfl ty40 rfl (b:=b3) zM rfl rfl rfl ?_
 refine W_callq (.cons rfl (.cons rfl .nil)) Tryz.call254 rfl (Linked_q hA hB (h:=h) used (HO:=HO) (closed:=closed) (kind:=kind) (words:=words) (fun p hp=>by repeat (first | exact mem3 p hp | apply List.mem_cons_of_mem))) ?_
 refine W_nil ?_
 refine W_condPS (p:=(Xm.linked (⟨kind,entries,words,closed,L,C,used⟩:Xm) h)=true) rfl (by simp) (fun c0=>?_) (fun c0=>?_)
 ·skip
  refine W_sr (W_assign rfl rfl (W_nil (W_ret1m (H2:=(b3,.cells 40 2 (hdC h))::(b2,.cells 65 1 [.pointer (some ⟨mb,0,none⟩)])::(mb,.cells 217 7 [.int .i64 (kind:Int),.int .i64 (entries:Int),.int .i64 (words:Int),.pointer (some ⟨ab,0,none⟩),.pointer (some ⟨tb,0,none⟩),.pointer (some ⟨bo,0,none⟩),.bool closed])::(HA++(HT++(HO++H)))) Tryz.results253 rfl (.nil _) zH ?_)))
  exact ⟨HA,by rw [if_pos c0]; exact hA,by rw [if_pos c0],rfl⟩
 ·skip
  refine W_skip (W_seq ?_)
  refine W_anyC [(b3,.cells 40 2 (hdC h)),(b2,.cells 65 1 [.pointer (some ⟨mb,0,none⟩)]),(mb,.cells 217 7 [.int .i64 (kind:Int),.int .i64 (entries:Int),.int .i64 (words:Int),.pointer (some ⟨ab,0,none⟩),.pointer (some ⟨tb,0,none⟩),.pointer (some ⟨bo,0,none⟩),.bool closed])] zk ?_
  refine WC_take 0 rfl zK zK zK rfl rfl (X_load (v:=.pointer (some ⟨mb,0,none⟩)) rfl ty65 rfl (Cell.own (b:=b2) zM rfl)) rfl ?_
  refine WC_take 1 rfl zK zK zK rfl rfl (X_nilCheck rfl) rfl ?_
  refine WC_take 2 rfl zK zK zK rfl rfl (X_fieldAddr rfl fld217_3 zd) rfl ?_
  refine WC_take 3 rfl zK zK zK rfl rfl (X_load (v:=.pointer (some ⟨ab,0,none⟩)) rfl ty213 rfl (Cell.own (b:=mb) zM rfl)) rfl ?_
  refine WC_take 4 rfl zK zK zK rfl rfl (X_loadB (vs:=hdC h) rfl ty40 rfl (b:=b3) zM rfl rfl) rfl ?_
  refine WC_one 5 zH zK rfl rfl ?_
  refine W_buildSlice (l:=hdC h) ty160 ty40 (.cons rfl rfl rfl rfl rfl .nil) rfl rfl rfl rfl rfl rfl rfl (fun b13=>?_)
  refine W_nil ?_
  refine WC_goal ?_
  refine WC_one 6 zH zK rfl rfl ?_
  refine W_call (.cons rfl (.cons rfl .nil)) Tryz.call255 rfl ((hA.free (h:=h) (cap:=1) (Holds.own (b:=b13) zM) (H:=(b13,.cells 40 (1*2) (hdC h))::(b0,.cells 220 5 (celC c))::(b3,.cells 40 2 (hdC h))::(b2,.cells 65 1 [.pointer (some ⟨mb,0,none⟩)])::(mb,.cells 217 7 [.int .i64 (kind:Int),.int .i64 (entries:Int),.int .i64 (words:Int),.pointer (some ⟨ab,0,none⟩),.pointer (some ⟨tb,0,none⟩),.pointer (some ⟨bo,0,none⟩),.bool closed])::(HT++(HO++H)))).hsub zH) ?_
  rintro v' H' ⟨HA2,hA2,rfl,rfl⟩
  refine W_nil ?_
  refine WC_goal ?_
  refine WC_take 7 rfl zK zK zK rfl rfl (X_assign rfl) rfl ?_
  refine WC_done zH zK ?_
  refine W_ret1m (H2:=(b3,.cells 40 2 (hdC h))::(b2,.cells 65 1 [.pointer (some ⟨mb,0,none⟩)])::(mb,.cells 217 7 [.int .i64 (kind:Int),.int .i64 (entries:Int),.int .i64 (words:Int),.pointer (some ⟨ab,0,none⟩),.pointer (some ⟨tb,0,none⟩),.pointer (some ⟨bo,0,none⟩),.bool closed])::(HA2++(HT++(HO++H)))) Tryz.results253 rfl (.nil _) zH ?_
  exact ⟨HA2,by rw [if_neg c0]; exact hA2,by rw [if_neg c0],rfl⟩
theorem Free_at {w0:World} {H:Heap} {mb ab tb bo kind entries words:Nat} {closed:Bool} {L:List Slt} {C:List (Int × Hd)} {HA HT HO:Heap} (hA:AreH ab L HA) (hB:TabH tb entries C HT) {h:Hd} (used:List Int) :LCalls Tryz.prog w0 159 #[.pointer (some ⟨mb,0,none⟩),.agg (List.toArray (hdC h))] ((mb,.cells 217 7 [.int .i64 (kind:Int),.int .i64 (entries:Int),.int .i64 (words:Int),.pointer (some ⟨ab,0,none⟩),.pointer (some ⟨tb,0,none⟩),.pointer (some ⟨bo,0,none⟩),.bool closed])::(HA++(HT++(HO++H)))) (fun v' H'=>∃ HA',AreH ab (Xm.free (⟨kind,entries,words,closed,L,C,used⟩:Xm) h).1.L HA'∧v'=.int .i64 (Xm.free (⟨kind,entries,words,closed,L,C,used⟩:Xm) h).2∧H'=(mb,.cells 217 7 [.int .i64 (kind:Int),.int .i64 (entries:Int),.int .i64 (words:Int),.pointer (some ⟨ab,0,none⟩),.pointer (some ⟨tb,0,none⟩),.pointer (some ⟨bo,0,none⟩),.bool closed])::(HA'++(HT++(HO++H)))):=by
 refine L_enter (l:=[.pointer (some ⟨mb,0,none⟩),.agg (List.toArray (hdC h))]) Tryz.func159 rfl Tryz.ntmps159 rfl rfl ?_
 by_cases he:errA L h=0
 ·skip
  refine W_sr ?_
  refine W_box (l:=[.pointer (some ⟨mb,0,none⟩)]) rfl rfl rfl (fun b2=>?_)
  refine W_box (l:=hdC h) rfl rfl rfl (fun b3=>?_)
  refine W_assign rfl rfl (W_nil (W_sr (W_load (v:=.pointer (some ⟨mb,0,none⟩)) rfl ty65 rfl (Cell.own (b:=b2) zM rfl) rfl ?_)))
  refine W_loadB (vs:=hdC h) rfl ty40 rfl (b:=b3) zM rfl rfl rfl ?_
  refine W_makeFunc .nil (.cons rfl (.cons rfl .nil)) rfl ?_
  refine W_call (.cons rfl (.cons rfl (.cons rfl .nil))) Tryz.call152 rfl (with_yes (ca:=[.pointer (some ⟨b2,0,none⟩),.pointer (some ⟨b3,0,none⟩)]) hA hB (HO:=HO) (closed:=closed) (kind:=kind) (words:=words) Tryz.call253 he (fun p hp=>by repeat (first | exact mem3 p hp | apply List.mem_cons_of_mem)) (free1_L (c:=celA L h) (h:=h) hA hB used (H:=H))) ?_
  rintro v' H' ⟨HA2,hA2,rfl,rfl⟩
  refine W_assign rfl rfl (W_nil (W_ret1m (H2:=(mb,.cells 217 7 [.int .i64 (kind:Int),.int .i64 (entries:Int),.int .i64 (words:Int),.pointer (some ⟨ab,0,none⟩),.pointer (some ⟨tb,0,none⟩),.pointer (some ⟨bo,0,none⟩),.bool closed])::(HA2++(HT++(HO++H)))) Tryz.results159 rfl (.nil _) zH ?_))
  have hn:¬ (errA L h≠0):=fun h=>h he
  by_cases hl:(Xm.linked (⟨kind,entries,words,closed,L,C,used⟩:Xm) h)=true
  ·have e:(Xm.free (⟨kind,entries,words,closed,L,C,used⟩:Xm) h)=((⟨kind,entries,words,closed,L,C,used⟩:Xm),21):=by unfold Xm.free; dsimp only; rw [if_neg hn,if_pos hl]
   rw [e]
   rw [if_pos hl] at hA2
   exact ⟨HA2,hA2,by rw [if_pos hl],rfl⟩
  ·have e:(Xm.free (⟨kind,entries,words,closed,L,C,used⟩:Xm) h)=({ (⟨kind,entries,words,closed,L,C,used⟩:Xm) with L:=setAX L h relS },0):=by unfold Xm.free; dsimp only; rw [if_neg hn,if_neg hl]
   rw [e]
   rw [if_neg hl] at hA2
   exact ⟨HA2,hA2,by rw [if_neg hl,he],rfl⟩
 ·skip
  refine W_sr ?_
  refine W_box (l:=[.pointer (some ⟨mb,0,none⟩)]) rfl rfl rfl (fun b2=>?_)
  refine W_box (l:=hdC h) rfl rfl rfl (fun b3=>?_)
  refine W_assign rfl rfl (W_nil (W_sr (W_load (v:=.pointer (some ⟨mb,0,none⟩)) rfl ty65 rfl (Cell.own (b:=b2) zM rfl) rfl ?_)))
  refine W_loadB (vs:=hdC h) rfl ty40 rfl (b:=b3) zM rfl rfl rfl ?_
  refine W_makeFunc .nil (.cons rfl (.cons rfl .nil)) rfl ?_
  refine W_callq (.cons rfl (.cons rfl (.cons rfl .nil))) Tryz.call152 rfl (with_no (ca:=[.pointer (some ⟨b2,0,none⟩),.pointer (some ⟨b3,0,none⟩)]) hA hB he (HO:=HO) (closed:=closed) (kind:=kind) (words:=words) (fun p hp=>by repeat (first | exact mem3 p hp | apply List.mem_cons_of_mem))) ?_
  refine W_assign rfl rfl (W_nil (W_ret1m (H2:=(mb,.cells 217 7 [.int .i64 (kind:Int),.int .i64 (entries:Int),.int .i64 (words:Int),.pointer (some ⟨ab,0,none⟩),.pointer (some ⟨tb,0,none⟩),.pointer (some ⟨bo,0,none⟩),.bool closed])::(HA++(HT++(HO++H)))) Tryz.results159 rfl (.nil _) zH ?_))
  exact ⟨HA,by unfold Xm.free; rw [if_pos he]; exact hA,by unfold Xm.free; rw [if_pos he],rfl⟩
theorem Xm.Ok.del {x:Xm} (h:x.Ok) (k:Int):(x.del k).1.Ok:=by
 unfold Xm.del
 split
 ·exact h
 ·split
  ·exact h.unlink k
  ·exact h
theorem Xm.put_len {x:Xm} (h:x.Ok) {o:Int} (ho:o∈x.used):(x.unlink o).1.C.length+1=x.C.length:=delC_len h.nd (h.umem.1 ho)
theorem Xm.Ok.oldest {x:Xm} (h:x.Ok) (hc:x.C.length=x.entries):x.used.headD 0∈x.used:=by
 have h1:=h.ulen
 have h2:=h.ent
 cases hu:x.used with
 | nil=>rw [hu] at h1; simp at h1; omega
 | cons a l=>exact List.mem_cons_self
theorem Xm.Ok.put {x:Xm} (h:x.Ok) (how:Int) {k:Int} (ws:List Int) (hk:0≤k∧k<18446744073709551616):(x.put how k ws).1.Ok:=by
 unfold Xm.put
 split
 ·exact h
 ·split
  ·exact h
  ·split
   ·rename_i g hf
    split
    ·exact h
    ·obtain ⟨i,s,h1,h2,h3,h4,h5⟩:=h.own hf
     have:=(h.use (h.umem.2 (keyL_mem hf))).cel g (fun _=>⟨k,W4.of ws⟩) (fun c _ hc=>by
      subst hc
      show k=(celA x.L g).key
      obtain ⟨i',s',a1,a2,a3,a4,a5,a6⟩:=errA_ok (h.err0 hf)
      obtain rfl:i=i':=by omega
      obtain rfl:s=s':=Option.some.inj (h2.symm.trans a2)
      rw [a5,h5])
     exact this
   ·rename_i hf
    have hno:=fndC_none.1 hf
    split
    ·exact h
    ·rename_i hr
     obtain ⟨i,s,hfi,hs⟩:=Xm.free_slot (Classical.not_not.1 hr)
     split
     ·rename_i hfull
      have ho:=h.oldest hfull
      refine (h.unlink _).link (i:=i) (s:=s) hfi hs ?_ ?_ hk
      ·show k ∉ keyL (delC x.C _)
       rw [keyL_del]
       exact fun hm=>hno (List.mem_filter.1 hm).1
      ·have:=Xm.put_len h ho
       show (x.unlink (x.used.headD 0)).1.C.length<x.entries
       omega
     ·exact h.link hfi hs hno (by have:=h.le; omega) hk
theorem new_ok {kind entries words:Nat} (h1:kind≤2) (h2:1≤entries∧entries≤8) (h3:1≤words∧words≤4):(Xm.new kind entries words).Ok:=by
 unfold Xm.new
 exact arr_ok h1 h2 h3 (by split <;> omega)
inductive XmH (mb T:Nat) (x:Xm):Heap→Prop
 | mk {ab tb bo:Nat} {HA HT HO:Heap} (hA:AreH ab x.L HA) (hB:TabH tb x.entries x.C HT) (hO:OrdH bo x.entries T x.used HO) (hx:x.Ok):XmH mb T x ((mb,.cells 217 7 [.int .i64 (x.kind:Int),.int .i64 (x.entries:Int),.int .i64 (x.words:Int),.pointer (some ⟨ab,0,none⟩),.pointer (some ⟨tb,0,none⟩),.pointer (some ⟨bo,0,none⟩),.bool x.closed])::(HA++(HT++HO)))
theorem XmH.ok {mb T:Nat} {x:Xm} {HX:Heap} (h:XmH mb T x HX):x.Ok:=by cases h; assumption
theorem XmH.up {mb T T':Nat} {x:Xm} {HX:Heap} (h:XmH mb T x HX) (hl:T≤T'):XmH mb T' x HX:=by
 cases h with
 | mk hA hB hO hx=>exact .mk hA hB (hO.up hl) hx
section
variable {w0:World} {H HX:Heap} {mb T:Nat} {x:Xm}
theorem put_kind (x:Xm) (how k:Int) (ws:List Int):(x.put how k ws).1.kind=x.kind∧(x.put how k ws).1.entries=x.entries∧(x.put how k ws).1.words=x.words∧(x.put how k ws).1.closed=x.closed:=by
 have hl:∀ (y:Xm) c,(y.link c).1.kind=y.kind∧(y.link c).1.entries=y.entries∧(y.link c).1.words=y.words∧(y.link c).1.closed=y.closed:=fun y c=>by
  unfold Xm.link
  split
  ·split <;> exact ⟨rfl,rfl,rfl,rfl⟩
  ·exact ⟨rfl,rfl,rfl,rfl⟩
 unfold Xm.put
 split
 ·exact ⟨rfl,rfl,rfl,rfl⟩
 ·split
  ·exact ⟨rfl,rfl,rfl,rfl⟩
  ·split
   ·split <;> exact ⟨rfl,rfl,rfl,rfl⟩
   ·split
    ·exact ⟨rfl,rfl,rfl,rfl⟩
    ·split
     ·exact hl _ _
     ·exact hl _ _
theorem del_kind (x:Xm) (k:Int):(x.del k).1.kind=x.kind∧(x.del k).1.entries=x.entries∧(x.del k).1.words=x.words∧(x.del k).1.closed=x.closed∧(x.del k).1.L=x.L:=by
 unfold Xm.del
 split
 ·exact ⟨rfl,rfl,rfl,rfl,rfl⟩
 ·split <;> exact ⟨rfl,rfl,rfl,rfl,rfl⟩
theorem free_kind (x:Xm) (h:Hd):(x.free h).1.kind=x.kind∧(x.free h).1.entries=x.entries∧(x.free h).1.words=x.words∧(x.free h).1.closed=x.closed∧(x.free h).1.C=x.C∧(x.free h).1.used=x.used:=by
 unfold Xm.free
 split
 ·exact ⟨rfl,rfl,rfl,rfl,rfl,rfl⟩
 ·split <;> exact ⟨rfl,rfl,rfl,rfl,rfl,rfl⟩
theorem XmH.of {x y:Xm} (hk:y.kind=x.kind∧y.entries=x.entries∧y.words=x.words) {ab tb bo:Nat} {HA HT HO:Heap} (hA:AreH ab y.L HA) (hB:TabH tb x.entries y.C HT) (hO:OrdH bo x.entries T y.used HO) (hx:y.Ok):XmH mb T y ((mb,.cells 217 7 [.int .i64 (x.kind:Int),.int .i64 (x.entries:Int),.int .i64 (x.words:Int),.pointer (some ⟨ab,0,none⟩),.pointer (some ⟨tb,0,none⟩),.pointer (some ⟨bo,0,none⟩),.bool y.closed])::(HA++(HT++HO))):=by
 rw [← hk.1,← hk.2.1,← hk.2.2]
 exact .mk hA (by rw [hk.2.1]; exact hB) (by rw [hk.2.1]; exact hO) hx
theorem XmH.put (hX:XmH mb T x HX) (hTab:Tab w0) (hTl:T≤1000000) {how k:Int} {ws:List Int} {ad:Option Addr} {cap:Nat} (hk:0≤k∧k<18446744073709551616) (hrow:Holds w0 H ad (ws.map (Value.int .u64))):LCalls Tryz.prog w0 61 #[.pointer (some ⟨mb,0,none⟩),.int .i64 how,.int .u64 k,.slice ad ws.length cap] (HX++H) (fun v H'=>∃ HX',XmH mb (T+2) (Xm.put x how k ws).1 HX'∧v=.tuple #[.agg (List.toArray (puttC (Xm.put x how k ws).2.1)),.int .i64 (Xm.put x how k ws).2.2]∧H'=HX'++H):=by
 obtain ⟨kind,entries,words,closed,L,C,used⟩:=x
 cases hX with
 | @mk ab tb bo HA HT HO hA hB hO hx =>
  show LCalls _ _ _ _ ((mb,.cells 217 7 [.int .i64 (kind:Int),.int .i64 (entries:Int),.int .i64 (words:Int),.pointer (some ⟨ab,0,none⟩),.pointer (some ⟨tb,0,none⟩),.pointer (some ⟨bo,0,none⟩),.bool closed])::((HA++(HT++HO))++H)) _
  rw [List.append_assoc,List.append_assoc]
  refine (Put_atX (H:=H) hA hB hO hTl hx (how:=how) (k:=k) (cap:=cap) hrow hTab).mono ?_
  rintro v H' ⟨HA2,HT2,HO2,hA2,hB2,hO2,rfl,rfl⟩
  have hk':=put_kind ⟨kind,entries,words,closed,L,C,used⟩ how k ws
  refine ⟨_,XmH.of (x:=⟨kind,entries,words,closed,L,C,used⟩) ⟨hk'.1,hk'.2.1,hk'.2.2.1⟩ hA2 hB2 hO2 (hx.put how ws hk),rfl,?_⟩
  rw [show ((Xm.put ⟨kind,entries,words,closed,L,C,used⟩ how k ws)).1.closed=closed from hk'.2.2.2]
  show _=(mb,.cells 217 7 [.int .i64 (kind:Int),.int .i64 (entries:Int),.int .i64 (words:Int),.pointer (some ⟨ab,0,none⟩),.pointer (some ⟨tb,0,none⟩),.pointer (some ⟨bo,0,none⟩),.bool closed])::((HA2++(HT2++HO2))++H)
  rw [List.append_assoc,List.append_assoc]
theorem XmH.del (hX:XmH mb T x HX) {k:Int}:LCalls Tryz.prog w0 68 #[.pointer (some ⟨mb,0,none⟩),.int .u64 k] (HX++H) (fun v H'=>∃ HX',XmH mb T (Xm.del x k).1 HX'∧v=.tuple #[.agg (List.toArray (hdC (Xm.del x k).2.1)),.int .i64 (Xm.del x k).2.2]∧H'=HX'++H):=by
 obtain ⟨kind,entries,words,closed,L,C,used⟩:=x
 cases hX with
 | @mk ab tb bo HA HT HO hA hB hO hx =>
  show LCalls _ _ _ _ ((mb,.cells 217 7 [.int .i64 (kind:Int),.int .i64 (entries:Int),.int .i64 (words:Int),.pointer (some ⟨ab,0,none⟩),.pointer (some ⟨tb,0,none⟩),.pointer (some ⟨bo,0,none⟩),.bool closed])::((HA++(HT++HO))++H)) _
  rw [List.append_assoc,List.append_assoc]
  refine (Del_at (H:=H) (HA:=HA) (L:=L) (closed:=closed) (words:=words) hB hO (k:=k)).mono ?_
  rintro v H' ⟨HT2,HO2,hB2,hO2,rfl,rfl⟩
  have hk':=del_kind ⟨kind,entries,words,closed,L,C,used⟩ k
  refine ⟨_,XmH.of (x:=⟨kind,entries,words,closed,L,C,used⟩) ⟨hk'.1,hk'.2.1,hk'.2.2.1⟩ (by rw [hk'.2.2.2.2]; exact hA) hB2 hO2 (hx.del k),rfl,?_⟩
  rw [show ((Xm.del ⟨kind,entries,words,closed,L,C,used⟩ k)).1.closed=closed from hk'.2.2.2.1]
  show _=(mb,.cells 217 7 [.int .i64 (kind:Int),.int .i64 (entries:Int),.int .i64 (words:Int),.pointer (some ⟨ab,0,none⟩),.pointer (some ⟨tb,0,none⟩),.pointer (some ⟨bo,0,none⟩),.bool closed])::((HA++(HT2++HO2))++H)
  rw [List.append_assoc,List.append_assoc]
theorem XmH.free (hX:XmH mb T x HX) {h:Hd}:LCalls Tryz.prog w0 159 #[.pointer (some ⟨mb,0,none⟩),.agg (List.toArray (hdC h))] (HX++H) (fun v H'=>∃ HX',XmH mb T (Xm.free x h).1 HX'∧v=.int .i64 (Xm.free x h).2∧H'=HX'++H):=by
 obtain ⟨kind,entries,words,closed,L,C,used⟩:=x
 cases hX with
 | @mk ab tb bo HA HT HO hA hB hO hx =>
  show LCalls _ _ _ _ ((mb,.cells 217 7 [.int .i64 (kind:Int),.int .i64 (entries:Int),.int .i64 (words:Int),.pointer (some ⟨ab,0,none⟩),.pointer (some ⟨tb,0,none⟩),.pointer (some ⟨bo,0,none⟩),.bool closed])::((HA++(HT++HO))++H)) _
  rw [List.append_assoc,List.append_assoc]
  refine (Free_at (H:=H) (HO:=HO) (closed:=closed) (kind:=kind) (words:=words) hA hB (h:=h) used).mono ?_
  rintro v H' ⟨HA2,hA2,rfl,rfl⟩
  have hk':=free_kind ⟨kind,entries,words,closed,L,C,used⟩ h
  refine ⟨_,XmH.of (x:=⟨kind,entries,words,closed,L,C,used⟩) ⟨hk'.1,hk'.2.1,hk'.2.2.1⟩ hA2 (by rw [hk'.2.2.2.2.1]; exact hB) (by rw [hk'.2.2.2.2.2]; exact hO) (hx.free h),rfl,?_⟩
  rw [show ((Xm.free ⟨kind,entries,words,closed,L,C,used⟩ h)).1.closed=closed from hk'.2.2.2.1]
  show _=(mb,.cells 217 7 [.int .i64 (kind:Int),.int .i64 (entries:Int),.int .i64 (words:Int),.pointer (some ⟨ab,0,none⟩),.pointer (some ⟨tb,0,none⟩),.pointer (some ⟨bo,0,none⟩),.bool closed])::((HA2++(HT++HO))++H)
  rw [List.append_assoc,List.append_assoc]
theorem XmH.key (hX:XmH mb T x HX) (hm:∀ p∈HX,p∈H) {h:Hd}:PureAt Tryz.prog w0 H 66 [.pointer (some ⟨mb,0,none⟩),.agg (List.toArray (hdC h))] (.tuple #[.int .u64 (x.key h).1,.int .i64 (x.key h).2]):=by
 obtain ⟨kind,entries,words,closed,L,C,used⟩:=x
 cases hX with
 | @mk ab tb bo HA HT HO hA hB hO hx=>exact Key_q (h:=h) hA hB hm
theorem XmH.held (hX:XmH mb T x HX) (hm:∀ p∈HX,p∈H):PureAt Tryz.prog w0 H 43 [.pointer (some ⟨mb,0,none⟩)] (.int .i64 ((cntA 1 x.L:Nat):Int)):=by
 obtain ⟨kind,entries,words,closed,L,C,used⟩:=x
 cases hX with
 | @mk ab tb bo HA HT HO hA hB hO hx=>exact Held_qm hA hB hm
end
theorem XmH.new {w0:World} {H:Heap} (hTab:Tab w0) {kind entries words:Nat} (h1:kind≤2) (h2:1≤entries∧entries≤8) (h3:1≤words∧words≤4):LCalls Tryz.prog w0 81 #[.int .i64 (kind:Int),.int .i64 (entries:Int),.int .i64 (words:Int)] (H) (fun v H'=>∃ mb HX,XmH mb 8 (Xm.new kind entries words) HX∧v=.tuple #[.pointer (some ⟨mb,0,none⟩),.int .i64 0]∧H'=HX++H):=by
 refine (New_go (H:=H) h1 h2 h3 hTab).mono ?_
 rintro v H' ⟨mb,ab,tb,bo,HA,HT,HO,hA,hB,hO,rfl,rfl⟩
 refine ⟨mb,_,.mk (x:=Xm.new kind entries words) hA hB hO (new_ok h1 h2 h3),rfl,?_⟩
 show _=(mb,.cells 217 7 [.int .i64 (kind:Int),.int .i64 (entries:Int),.int .i64 (words:Int),.pointer (some ⟨ab,0,none⟩),.pointer (some ⟨tb,0,none⟩),.pointer (some ⟨bo,0,none⟩),.bool false])::((HA++(HT++HO))++H)
 rw [List.append_assoc,List.append_assoc]
def mcC (c:Option Nat × Bool):List Value:=[.pointer (c.1.map fun mb=>⟨mb,0,none⟩),.bool c.2]
theorem mcC_len (c:Option Nat × Bool):(mcC c).length=2:=rfl
def lfRow (n:Nat) (M:List (Option Nat × Bool)) (tb wb g1 g2 rb db:Nat):List Value:=.int .i64 ((n:Nat):Int)::(M.flatMap mcC++[.pointer (some ⟨tb,0,none⟩),.pointer (some ⟨wb,0,none⟩),.pointer (some ⟨g1,0,none⟩),.pointer (some ⟨g2,0,none⟩),.pointer (some ⟨rb,0,none⟩),.map (some db)])
theorem lf_len {n:Nat} {M:List (Option Nat × Bool)} {tb wb g1 g2 rb db:Nat}:(lfRow n M tb wb g1 g2 rb db).length=M.length*2+7:=by
 unfold lfRow; rw [List.length_cons,List.length_append,rows_len mcC_len]; rfl
theorem lf_tl {n:Nat} {M:List (Option Nat × Bool)} {tb wb g1 g2 rb db j:Nat} (h:M.length=4):(lfRow n M tb wb g1 g2 rb db)[9+j]?=[.pointer (some ⟨tb,0,none⟩),.pointer (some ⟨wb,0,none⟩),.pointer (some ⟨g1,0,none⟩),.pointer (some ⟨g2,0,none⟩),.pointer (some ⟨rb,0,none⟩),Value.map (some db)][j]?:=by
 unfold lfRow
 rw [show 9+j=(8+j)+1 by omega,List.getElem?_cons_succ,List.getElem?_append_right (by rw [rows_len mcC_len,h]; omega),rows_len mcC_len,h,Nat.add_sub_cancel_left]
theorem lf_map {n:Nat} {M:List (Option Nat × Bool)} {tb wb g1 g2 rb db i j:Nat} {c:Option Nat × Bool} (h:M[i]?=some c) (hj:j<2):(lfRow n M tb wb g1 g2 rb db)[1+i*2+j]?=(mcC c)[j]?:=by
 unfold lfRow
 rw [show 1+i*2+j=(i*2+j)+1 by omega,List.getElem?_cons_succ,List.getElem?_append_left (rows_lt mcC_len h hj),rows_get mcC_len h hj]
theorem lf_spl {n:Nat} {M:List (Option Nat × Bool)} {tb wb g1 g2 rb db i:Nat} {c':Option Nat × Bool} (h:i<M.length):spliceL (lfRow n M tb wb g1 g2 rb db) (1+i*2) (mcC c')=lfRow n (M.set i c') tb wb g1 g2 rb db:=by
 have e:=flat_set mcC_len (l:=M) c' h
 have hl:=rows_len mcC_len M
 unfold spliceL at e ⊢
 unfold lfRow
 rw [← e,show 1+i*2=(i*2)+1 by omega,List.take_succ_cons,show (i*2)+1+(mcC c').length=(i*2+(mcC c').length)+1 by omega,List.drop_succ_cons,List.take_append_of_le_length (by rw [hl]; omega),List.drop_append_of_le_length (by rw [hl,mcC_len]; omega)]
 simp only [List.cons_append,List.append_assoc]
structure Dye where
 key:Int
 h:Hd
 clk:Nat
def Dye.ent (e:Dye):Int × Value × Nat:=(e.key,.agg (List.toArray (hdC e.h)),e.clk)
def Dye.p (e:Dye):Int × Hd:=(e.key,e.h)
inductive DyH (db:Nat) (dy:List (Int × Hd)):Heap→Prop
 | mk {E:List Dye} {cl:Nat} (hok:MapOk (E.map Dye.ent) cl) (he:E.map Dye.p=dy):DyH db dy [(db,.obj (mapO (Value.int .i64) ((E).map Dye.ent) cl))]
inductive MpH (T:Nat):(Option Nat × Bool)→Option (Xm × Bool)→Heap→Prop
 | none:MpH T (none,false) none []
 | some {mb:Nat} {x:Xm} {b:Bool} {X:Heap} (h:XmH mb T x X):MpH T (some mb,b) (some (x,b)) X
structure MsOk (T:Nat) (M:List (Option Nat × Bool)) (ms:List (Option (Xm × Bool))) (HM:List Heap):Prop where
 m4:M.length=4
 s4:ms.length=4
 h4:HM.length=4
 at_:∀ (k:Nat) c y X,M[k]?=some c→ms[k]?=some y→HM[k]?=some X→MpH T c y X
structure Lf where
 n:Nat
 ms:List (Option (Xm × Bool))
 Ws:List Wl
 Qt:List (Int × Int)
 Rt:List (Int × Int)
 At:List Tone
 Qw:List (Int × Int)
 Rw:List (Int × Int)
 Aw:List Wone
 on:List Int
 tr:Gr
 cl:Gr
 us:List (Int × Cnt)
 dy:List (Int × Hd)
structure UsOk (R:List (Int × Cnt)):Prop where
 rng:∀ p∈R,1≤p.2.n∧p.2.n≤8∧p.2.top=8∧0≤p.1∧p.1<16
 nd:(R.map (·.1)).Nodup
inductive LifeH (lb T:Nat) (F:Lf):Heap→Prop
 | mk {tb wb g1 g2 rb db:Nat} {M:List (Option Nat × Bool)} {HT HW H1 H2 HR HD:Heap} {HM:List Heap}
  (hT:TimerH tb F.n F.Ws F.Qt F.Rt F.At HT) (hO:TOk T F.Ws F.At) (hW:WorkH wb F.n F.Qw F.Rw F.Aw F.on HW)
  (h1:GrH g1 F.n F.tr H1) (o1:GrOk F.n F.tr) (h2:GrH g2 F.n F.cl H2) (o2:GrOk F.n F.cl)
  (hR:RefH rb 8 F.us HR) (hU:UsOk F.us) (hD:DyH db F.dy HD) (hM:MsOk T M F.ms HM) :
  LifeH lb T F ((lb,.cells 134 15 (lfRow F.n M tb wb g1 g2 rb db))::(HT++(HW++(H1++(H2++(HR++(HD++HM.flatten)))))))
def mptV (M:List (Option Nat × Bool)) (m:Int):Value:=.pointer (if 0≤m∧m<4 then (M.getD m.toNat (none,false)).1.map (fun mb=>(⟨mb,0,none⟩:Addr)) else none)
theorem mptV_at {M:List (Option Nat × Bool)} {i:Nat} {c:Option Nat × Bool} (hi:i<4) (h:M[i]?=some c):mptV M (i:Int)=.pointer (c.1.map fun mb=>⟨mb,0,none⟩):=by
 unfold mptV; rw [if_pos (by omega),show ((i:Nat):Int).toNat=i by omega,List.getD_eq_getElem?_getD,h]; rfl
theorem mptV_out {M:List (Option Nat × Bool)} {m:Int} (h:¬ (0≤m∧m<4)):mptV M m=.pointer none:=by unfold mptV; rw [if_neg h]
theorem lMap_lo {w0:World} {H:Heap} {n lb tb wb g1 g2 rb db:Nat} {M:List (Option Nat × Bool)} (hm:(lb,.cells 134 15 (lfRow n M tb wb g1 g2 rb db))∈H) (hM4:M.length=4) {m:Int} (h:m<0) :PureAt Tryz.prog w0 H 29 [.pointer (some ⟨lb,0,none⟩),.int .i64 m] (mptV M m):=by
 refine L_enter Tryz.func29 rfl Tryz.ntmps29 rfl rfl ?_
 refine W_sr (W_assign rfl rfl (W_nil (W_seq (W_sr (W_move rfl rfl ?_)))))
 refine W_x (X_ptrNil rfl rfl ty23) (fun _ h=>by cases h) rfl ?_
 refine W_move rfl rfl (W_gyes rfl rfl (W_move rfl rfl (W_gyes rfl rfl (W_bin rfl rfl b_lss rfl ?_))))
 first | rw [decide_eq_true (by omega)] | rw [decide_eq_false (by omega)]
 first | refine W_pickt rfl rfl rfl ?_ | refine W_pickf rfl rfl rfl ?_
 refine W_move rfl rfl (W_gno rfl rfl rfl ?_)
 refine W_gno rfl rfl rfl ?_
 first | refine W_pickt rfl rfl rfl ?_ | refine W_pickf rfl rfl rfl ?_
 refine W_nil (W_condT rfl rfl (W_sr (W_assign rfl rfl (W_nil (W_ret1m (H2:=H) Tryz.results29 rfl (.nil _) zH ?_)))))
 rw [mptV_out (by omega)]
 exact ⟨rfl,rfl⟩
theorem lMap_hi {w0:World} {H:Heap} {n lb tb wb g1 g2 rb db:Nat} {M:List (Option Nat × Bool)} (hm:(lb,.cells 134 15 (lfRow n M tb wb g1 g2 rb db))∈H) (hM4:M.length=4) {m:Int} (h:4≤m) :PureAt Tryz.prog w0 H 29 [.pointer (some ⟨lb,0,none⟩),.int .i64 m] (mptV M m):=by
 refine L_enter Tryz.func29 rfl Tryz.ntmps29 rfl rfl ?_
 refine W_sr (W_assign rfl rfl (W_nil (W_seq (W_sr (W_move rfl rfl ?_)))))
 refine W_x (X_ptrNil rfl rfl ty23) (fun _ h=>by cases h) rfl ?_
 refine W_move rfl rfl (W_gyes rfl rfl (W_move rfl rfl (W_gyes rfl rfl (W_bin rfl rfl b_lss rfl ?_))))
 first | rw [decide_eq_true (by omega)] | rw [decide_eq_false (by omega)]
 first | refine W_pickt rfl rfl rfl ?_ | refine W_pickf rfl rfl rfl ?_
 refine W_move rfl rfl (W_gyes rfl rfl (W_move rfl rfl (W_gyes rfl rfl (W_bin rfl rfl b_geq rfl ?_))))
 first | rw [decide_eq_true (by omega)] | rw [decide_eq_false (by omega)]
 first | refine W_pickt rfl rfl rfl ?_ | refine W_pickf rfl rfl rfl ?_
 refine W_nil (W_condT rfl rfl (W_sr (W_assign rfl rfl (W_nil (W_ret1m (H2:=H) Tryz.results29 rfl (.nil _) zH ?_)))))
 rw [mptV_out (by omega)]
 exact ⟨rfl,rfl⟩
theorem lMap_in {w0:World} {H:Heap} {n lb tb wb g1 g2 rb db:Nat} {M:List (Option Nat × Bool)} (hm:(lb,.cells 134 15 (lfRow n M tb wb g1 g2 rb db))∈H) (hM4:M.length=4) {i:Nat} {c:Option Nat × Bool} (hi:i<4) (hc:M[i]?=some c) :PureAt Tryz.prog w0 H 29 [.pointer (some ⟨lb,0,none⟩),.int .i64 (i:Int)] (.pointer (c.1.map fun mb=>⟨mb,0,none⟩)):=by
 refine L_enter Tryz.func29 rfl Tryz.ntmps29 rfl rfl ?_
 refine W_sr (W_assign rfl rfl (W_nil (W_seq (W_sr (W_move rfl rfl ?_)))))
 refine W_x (X_ptrNil rfl rfl ty23) (fun _ h=>by cases h) rfl ?_
 refine W_move rfl rfl (W_gyes rfl rfl (W_move rfl rfl (W_gyes rfl rfl (W_bin rfl rfl b_lss rfl ?_))))
 first | rw [decide_eq_true (by omega)] | rw [decide_eq_false (by omega)]
 first | refine W_pickt rfl rfl rfl ?_ | refine W_pickf rfl rfl rfl ?_
 refine W_move rfl rfl (W_gyes rfl rfl (W_move rfl rfl (W_gyes rfl rfl (W_bin rfl rfl b_geq rfl ?_))))
 first | rw [decide_eq_true (by omega)] | rw [decide_eq_false (by omega)]
 first | refine W_pickt rfl rfl rfl ?_ | refine W_pickf rfl rfl rfl ?_
 refine W_nil (W_condF rfl rfl (W_skip (W_sr (W_move rfl rfl (W_move rfl rfl (W_nilCheck rfl rfl (W_fieldAddr rfl fld134_1 zd rfl ?_)))))))
 refine W_indexAddrA (j:=i) rfl rfl ty130 ty129 (by first | rfl | omega) (by first | decide | omega | simp) rfl rfl ?_
 refine W_fieldAddr rfl fld129_0 zd rfl ?_
 refine W_load (v:=.pointer (c.1.map fun mb=>⟨mb,0,none⟩)) rfl ty65 rfl (Cell.own (b:=lb) hm (lf_map (j:=0) hc zd)) rfl ?_
 refine W_assign rfl rfl (W_nil (W_ret1m (H2:=H) Tryz.results29 rfl (.nil _) zH ?_))
 exact ⟨rfl,rfl⟩
theorem lMap_q {w0:World} {H:Heap} {n lb tb wb g1 g2 rb db:Nat} {M:List (Option Nat × Bool)} (hm:(lb,.cells 134 15 (lfRow n M tb wb g1 g2 rb db))∈H) (hM4:M.length=4) {m:Int}:PureAt Tryz.prog w0 H 29 [.pointer (some ⟨lb,0,none⟩),.int .i64 m] (mptV M m):=by
 by_cases h0:m<0
 ·exact lMap_lo hm hM4 h0
 ·by_cases h1:4≤m
  ·exact lMap_hi hm hM4 h1
  ·obtain ⟨i,rfl⟩:∃ i:Nat,m=(i:Int):=⟨m.toNat,by omega⟩
   obtain ⟨c,hc⟩:∃ c,M[i]?=some c:=⟨_,List.getElem?_eq_getElem zO⟩
   rw [mptV_at (by omega) hc]
   exact lMap_in hm hM4 zO hc
theorem lwith_no {w0:World} {H:Heap} {n lb tb wb g1 g2 rb db:Nat} {M:List (Option Nat × Bool)} (hm:(lb,.cells 134 15 (lfRow n M tb wb g1 g2 rb db))∈H) (hM4:M.length=4) {m:Int} {f:Value} (hno:mptV M m=.pointer none) :PureAt Tryz.prog w0 H 59 [.pointer (some ⟨lb,0,none⟩),.int .i64 m,f] (.int .i64 4):=by
 refine L_enter Tryz.func59 rfl Tryz.ntmps59 rfl rfl ?_
 refine W_sr (W_assign rfl rfl (W_nil (W_sr (W_move rfl rfl (W_move rfl rfl (W_callq (.cons rfl (.cons rfl .nil)) Tryz.call29 rfl (lMap_q (m:=m) hm hM4) ?_))))))
 rw [hno]
 refine W_assign rfl rfl (W_nil (W_seq (W_block (W_sr (W_move rfl rfl ?_)))))
 refine W_x (X_ptrNil rfl rfl ty23) (fun _ h=>by cases h) rfl ?_
 refine W_assign rfl rfl (W_nil (W_condF rfl rfl (W_sr (W_move rfl rfl ?_))))
 refine W_x (X_ptrNil rfl rfl ty65) (fun _ h=>by cases h) rfl ?_
 refine W_assign rfl rfl (W_nil (W_condT rfl rfl (W_sr (W_assign rfl rfl (W_nil (W_ret1m (H2:=H) Tryz.results59 rfl (.nil _) zH ?_))))))
 exact ⟨rfl,rfl⟩
theorem lwith_in {w0:World} {H:Heap} {n lb tb wb g1 g2 rb db:Nat} {M:List (Option Nat × Bool)} (hm:(lb,.cells 134 15 (lfRow n M tb wb g1 g2 rb db))∈H) (hM4:M.length=4) {m:Int} {mb fi:Nat} {ca:List Value} {R:Value→Heap→Prop} (hfi:∀ (args:Array Value) (w:World),(callFunc fi args).run Tryz.prog w=.ok (.enter fi args) w) (hy:mptV M m=.pointer (some ⟨mb,0,none⟩)) (hdo:LCalls Tryz.prog w0 fi (#[]++#[.pointer (some ⟨mb,0,none⟩)]++ca.toArray) H R) (hE:∀ v H2,R v H2→∃ e,v=.int .i64 e) :LCalls Tryz.prog w0 59 #[.pointer (some ⟨lb,0,none⟩),.int .i64 m,Value.func (.func fi) #[] ca.toArray] (H) (R):=by
 refine L_enter (l:=[.pointer (some ⟨lb,0,none⟩),.int .i64 m,Value.func (.func fi) #[] ca.toArray]) Tryz.func59 rfl Tryz.ntmps59 rfl rfl ?_
 refine W_sr (W_assign rfl rfl (W_nil (W_sr (W_move rfl rfl (W_move rfl rfl (W_callq (.cons rfl (.cons rfl .nil)) Tryz.call29 rfl (lMap_q (m:=m) hm hM4) ?_))))))
 rw [hy]
 refine W_assign rfl rfl (W_nil (W_seq (W_block (W_sr (W_move rfl rfl ?_)))))
 refine W_x (X_ptrNil rfl rfl ty23) (fun _ h=>by cases h) rfl ?_
 refine W_assign rfl rfl (W_nil (W_condF rfl rfl (W_sr (W_move rfl rfl ?_))))
 refine W_x (X_ptrNil rfl rfl ty65) (fun _ h=>by cases h) rfl ?_
 refine W_assign rfl rfl (W_nil (W_condF rfl rfl (W_skip (W_blk (W_sr (W_move rfl rfl (W_move rfl rfl ?_)))))))
 refine W_callv (fa:=#[]) (ca:=ca.toArray) rfl (.cons rfl .nil) hfi rfl (hdo) ?_
 rintro v H' hR
 refine W_assign rfl rfl (W_nil (W_ret1m (H2:=H') Tryz.results59 rfl (.nil _) zH ?_))
 exact hR
theorem lTimers_q {w0:World} {H:Heap} {n lb tb wb g1 g2 rb db:Nat} {M:List (Option Nat × Bool)} (hm:(lb,.cells 134 15 (lfRow n M tb wb g1 g2 rb db))∈H) (hM4:M.length=4) :PureAt Tryz.prog w0 H 21 [.pointer (some ⟨lb,0,none⟩)] (.pointer (some ⟨tb,0,none⟩)):=by
 refine L_enter Tryz.func21 rfl Tryz.ntmps21 rfl rfl ?_
 refine W_sr (W_assign rfl rfl (W_nil (W_seq (W_sr (W_move rfl rfl ?_)))))
 refine W_x (X_ptrNil rfl rfl ty23) (fun _ h=>by cases h) rfl ?_
 refine W_nil (W_condF rfl rfl (W_skip (W_sr (W_move rfl rfl (W_nilCheck rfl rfl (W_fieldAddr rfl fld134_2 zd rfl ?_))))))
 refine W_load (v:=.pointer (some ⟨tb,0,none⟩)) rfl ty55 rfl (Cell.own (b:=lb) hm (lf_tl (j:=0) hM4)) rfl ?_
 refine W_assign rfl rfl (W_nil (W_ret1m (H2:=H) Tryz.results21 rfl (.nil _) zH ?_))
 exact ⟨rfl,rfl⟩
theorem lUsers_q {w0:World} {H:Heap} {n lb tb wb g1 g2 rb db:Nat} {M:List (Option Nat × Bool)} (hm:(lb,.cells 134 15 (lfRow n M tb wb g1 g2 rb db))∈H) (hM4:M.length=4) {HR:Heap} {R:List (Int × Cnt)} {p:Int} (hR:RefH rb 8 R HR) (hs:∀ p∈HR,p∈H) :PureAt Tryz.prog w0 H 24 [.pointer (some ⟨lb,0,none⟩),.int .i64 p] (.int .i64 (cntR R p)):=by
 refine L_enter Tryz.func24 rfl Tryz.ntmps24 rfl rfl ?_
 refine W_sr (W_assign rfl rfl (W_nil (W_seq (W_sr (W_move rfl rfl ?_)))))
 refine W_x (X_ptrNil rfl rfl ty23) (fun _ h=>by cases h) rfl ?_
 refine W_nil (W_condF rfl rfl (W_skip (W_sr (W_move rfl rfl (W_nilCheck rfl rfl (W_fieldAddr rfl fld134_6 zd rfl ?_))))))
 refine W_load (v:=.pointer (some ⟨rb,0,none⟩)) rfl ty131 rfl (Cell.own (b:=lb) hm (lf_tl (j:=4) hM4)) rfl ?_
 refine W_move rfl rfl (W_callq (.cons rfl (.cons rfl .nil)) Tryz.call80 rfl (hR.value hs) ?_)
 refine W_assign rfl rfl (W_nil (W_ret1m (H2:=H) Tryz.results24 rfl (.nil _) zH ?_))
 exact ⟨rfl,rfl⟩
theorem lf_ld {n:Nat} {M:List (Option Nat × Bool)} {tb wb g1 g2 rb db i:Nat} {c:Option Nat × Bool} (h:M[i]?=some c):((lfRow n M tb wb g1 g2 rb db).drop (1+i*2)).take 2=mcC c:=by
 apply List.ext_getElem?
 intro j
 by_cases q:j<2
 ·rw [List.getElem?_take,if_pos q,List.getElem?_drop,lf_map h q]
 ·rw [List.getElem?_eq_none (by rw [List.length_take]; omega),List.getElem?_eq_none (by rw [mcC_len]; omega)]
theorem mk1_n {w0:World} {H:Heap} {mb:Nat} {b:Bool}:PureAt Tryz.prog w0 H 83 [.agg (List.toArray (mcC (none,b)))] (.bool true):=by
 refine L_enter Tryz.func83 rfl Tryz.ntmps83 rfl rfl ?_
 refine W_sr ?_
 refine W_box (l:=mcC (none,b)) rfl rfl rfl (fun b1=>?_)
 refine W_assign rfl rfl (W_nil (W_sr (W_fieldAddr rfl fld129_0 zd rfl ?_)))
 refine W_load (v:=.pointer none) rfl ty65 rfl (Cell.own (b:=b1) zM rfl) rfl ?_
 refine W_x (X_ptrNil rfl rfl ty65) (fun _ h=>by cases h) rfl ?_
 refine W_assign rfl rfl (W_nil (W_ret1m (H2:=H) Tryz.results83 rfl (.nil _) zH ?_))
 exact ⟨rfl,rfl⟩
theorem mk1_s {w0:World} {H:Heap} {mb:Nat} {b:Bool}:PureAt Tryz.prog w0 H 83 [.agg (List.toArray (mcC (some mb,b)))] (.bool false):=by
 refine L_enter Tryz.func83 rfl Tryz.ntmps83 rfl rfl ?_
 refine W_sr ?_
 refine W_box (l:=mcC (some mb,b)) rfl rfl rfl (fun b1=>?_)
 refine W_assign rfl rfl (W_nil (W_sr (W_fieldAddr rfl fld129_0 zd rfl ?_)))
 refine W_load (v:=.pointer (some ⟨mb,0,none⟩)) rfl ty65 rfl (Cell.own (b:=b1) zM rfl) rfl ?_
 refine W_x (X_ptrNil rfl rfl ty65) (fun _ h=>by cases h) rfl ?_
 refine W_assign rfl rfl (W_nil (W_ret1m (H2:=H) Tryz.results83 rfl (.nil _) zH ?_))
 exact ⟨rfl,rfl⟩
theorem mk1_q {w0:World} {H:Heap} {c:Option Nat × Bool}:PureAt Tryz.prog w0 H 83 [.agg (List.toArray (mcC c))] (.bool c.1.isNone):=by
 obtain ⟨c1,c2⟩:=c
 cases c1 with
 | none=>exact mk1_n (mb:=0)
 | some mb=>exact mk1_s
theorem lIndex_L {w0:World} {H:Heap} {n lb tb wb g1 g2 rb db:Nat} {M:List (Option Nat × Bool)} (hm:(lb,.cells 134 15 (lfRow n M tb wb g1 g2 rb db))∈H) (hM4:M.length=4) :LCalls Tryz.prog w0 82 #[.slice (some ⟨lb,1,none⟩) 4 4,.func (.func 83) #[] #[]] (H) (fun v H'=>∃ z:Int,v=.int .i64 z∧((∃ (i:Nat) (c:Option Nat × Bool),z=i∧M[i]?=some c∧c.1.isNone=true∧∀ j:Nat,j<i→∀ d,M[j]?=some d→d.1.isNone=false)∨(z=-1∧∀ j:Nat,j<4→∀ d,M[j]?=some d→d.1.isNone=false))∧H'=H):=by
 refine L_enter (l:=[.slice (some ⟨lb,1,none⟩) 4 4,.func (.func 83) #[] #[]]) Tryz.func82 rfl Tryz.ntmps82 rfl rfl ?_
 refine W_sr (W_assign rfl rfl (W_nil (W_seq (W_sr (W_move rfl rfl (W_len rfl ty158 rfl rfl ?_))))))
 refine W_move rfl rfl (W_nil (W_block ?_))
 refine W_loopC (X:=Nat) [(0,_),(1,_),(7,_)] (fun (i:Nat)=>[(8,.int .i64 (i:Int))]) (fun _=>_) (fun (i:Nat)=>H) (fun (i:Nat)=>i≤4∧∀ j:Nat,j<i→∀ d,M[j]?=some d→d.1.isNone=false) (fun (i:Nat)=>4-i) 0 ⟨Nat.zero_le _,fun j hj=>absurd hj (Nat.not_lt_zero _)⟩ (sub_cons rfl (sub_cons rfl (sub_cons rfl (sub_nil _)))) (sub_cons rfl (sub_nil _)) rfl zH ?_
 rintro i ⟨hi,hn⟩
 simp only [List.cons_append,List.nil_append]
 refine W_sr (W_bin rfl rfl b_lss rfl ?_)
 refine W_nil (W_seq ?_)
 refine W_condPS (p:=i<4) rfl (by rw [decide_eq_true_eq]; omega) (fun q0=>?_) (fun q0=>?_)
 ·skip
  refine W_skip (W_seq (W_block (W_sr (W_move rfl rfl (W_assign rfl rfl (W_nil (W_sr ?_)))))))
  obtain ⟨c,hc⟩:∃ c,M[i]?=some c:=⟨_,List.getElem?_eq_getElem zO⟩
  refine W_move rfl rfl (W_move rfl rfl (W_move rfl rfl (W_indexAddr (j:=i) rfl rfl ty158 ty129 rfl zO rfl rfl ?_)))
  refine W_loadB (vs:=mcC c) rfl ty129 rfl (b:=lb) hm (by rw [Nat.ble_eq,lf_len]; omega) (lf_ld hc) rfl ?_
  refine W_callqv (fa:=[]) (ca:=[]) rfl (.cons rfl .nil) rfl Tryz.call83 rfl (mk1_q (c:=c)) ?_
  refine W_nil ?_
  refine W_condPS (p:=c.1.isNone=true) rfl .rfl (fun q1=>?_) (fun q1=>?_)
  ·skip
   refine W_sr (W_move rfl rfl (W_assign rfl rfl (W_nil (W_ret1m Tryz.results82 rfl (.nil _) (.refl _) ?_))))
   exact ⟨i,rfl,.inl ⟨i,c,rfl,hc,q1,hn⟩,rfl⟩
  ·skip
   refine W_skip (W_blk (W_region (W_bin rfl rfl (b_add (m:=((i+1:Nat):Int)) ((i64w zO).trans zO)) rfl ?_)))
   refine W_move rfl rfl (W_nil ?_)
   refine W_again (i+1) ⟨by omega,fun j hj d hd=>by
     by_cases e:j=i
     ·subst e; rw [hc] at hd; cases hd; exact eq_false_of_ne_true q1
     ·exact hn j zO d hd⟩ zO (sub_cons rfl (sub_cons rfl (sub_cons rfl (sub_cons rfl (sub_nil _))))) rfl zH
 ·skip
  refine W_exit rfl ?_
  refine W_sr (W_assign rfl rfl (W_nil (W_ret1m Tryz.results82 rfl (.nil _) (.refl _) ?_)))
  obtain rfl:i=4:=by omega
  exact ⟨-1,rfl,.inr ⟨rfl,hn⟩,rfl⟩
theorem MpH.none_iff {T:Nat} {c:Option Nat × Bool} {y:Option (Xm × Bool)} {X:Heap} (h:MpH T c y X):c.1.isNone=y.isNone:=by cases h <;> rfl
def frM (ms:List (Option (Xm × Bool))):Option Nat:=ms.findIdx? (fun y=>y.isNone)
theorem MsOk.free {T:Nat} {M:List (Option Nat × Bool)} {ms:List (Option (Xm × Bool))} {HM:List Heap} (h:MsOk T M ms HM) {i:Nat} {c:Option Nat × Bool} (hc:M[i]?=some c) (h1:c.1.isNone=true) (hj:∀ j:Nat,j<i→∀ d,M[j]?=some d→d.1.isNone=false):frM ms=some i:=by
 have hi:=(List.getElem?_eq_some_iff.1 hc).1
 have hm4:=h.m4; have hs4:=h.s4; have hh4:=h.h4
 have key:∀ j:Nat,j<4→∃ d y,M[j]?=some d∧ms[j]?=some y∧d.1.isNone=y.isNone:=fun j hj=>by
  have e1:=List.getElem?_eq_getElem (l:=M) (i:=j) zO
  have e2:=List.getElem?_eq_getElem (l:=ms) (i:=j) zO
  have e3:=List.getElem?_eq_getElem (l:=HM) (i:=j) zO
  exact ⟨_,_,e1,e2,(h.at_ j _ _ _ e1 e2 e3).none_iff⟩
 unfold frM
 rw [List.findIdx?_eq_some_iff_getElem]
 obtain ⟨d,y,e1,e2,e3⟩:=key i zO
 refine ⟨by omega,?_,fun j hji=>?_⟩
 ·rw [hc] at e1; cases e1
  rw [(List.getElem?_eq_some_iff.1 e2).2,← e3]; exact h1
 ·obtain ⟨d2,y2,f1,f2,f3⟩:=key j zO
  rw [(List.getElem?_eq_some_iff.1 f2).2,← f3,hj j hji d2 f1]; decide
theorem MsOk.full {T:Nat} {M:List (Option Nat × Bool)} {ms:List (Option (Xm × Bool))} {HM:List Heap} (h:MsOk T M ms HM) (hj:∀ j:Nat,j<4→∀ d,M[j]?=some d→d.1.isNone=false):frM ms=none:=by
 have hm4:=h.m4; have hs4:=h.s4; have hh4:=h.h4
 unfold frM
 rw [List.findIdx?_eq_none_iff]
 intro y hy
 obtain ⟨j,hjl,e⟩:=List.getElem_of_mem hy
 have e1:=List.getElem?_eq_getElem (l:=M) (i:=j) zO
 have e2:ms[j]?=some y:=by rw [List.getElem?_eq_getElem hjl,e]
 have e3:=List.getElem?_eq_getElem (l:=HM) (i:=j) zO
 rw [← (h.at_ j _ _ _ e1 e2 e3).none_iff]
 exact hj j zO _ e1
theorem MsOk.nilAt {T:Nat} {M:List (Option Nat × Bool)} {ms:List (Option (Xm × Bool))} {HM:List Heap} (h:MsOk T M ms HM) {i:Nat} {c:Option Nat × Bool} (hc:M[i]?=some c) (h1:c.1.isNone=true):HM[i]?=some []:=by
 have hi:=(List.getElem?_eq_some_iff.1 hc).1
 have hm4:=h.m4; have hs4:=h.s4; have hh4:=h.h4
 obtain ⟨y,e2⟩:∃ y,ms[i]?=some y:=⟨_,List.getElem?_eq_getElem zO⟩
 obtain ⟨X,e3⟩:∃ X,HM[i]?=some X:=⟨_,List.getElem?_eq_getElem zO⟩
 have h5:=h.at_ i c y X hc e2 e3
 cases h5 with
 | none=>exact e3
 | some _=>cases h1
theorem flattenNew {HM:List Heap} {i:Nat} {X H:Heap} (h:HM[i]?=some []):HSub (X++(HM.flatten++H)) ((HM.set i X).flatten++H):=by
 have hi:=(List.getElem?_eq_some_iff.1 h).1
 have eS:HM.set i []=HM:=by
  apply List.ext_getElem?
  intro j
  by_cases q:i=j
  ·subst q; rw [List.getElem?_set_self hi,h]
  ·rw [List.getElem?_set_ne q]
 have:=flattenIn (XS:=HM) (k:=i) (B:=X) (H:=H) hi
 rwa [eS] at this
theorem MsOk.set {T:Nat} {M:List (Option Nat × Bool)} {ms:List (Option (Xm × Bool))} {HM:List Heap} (h:MsOk T M ms HM) {k:Nat} {c:Option Nat × Bool} {y:Option (Xm × Bool)} {X:Heap} (hp:MpH T c y X):MsOk T (M.set k c) (ms.set k y) (HM.set k X):=by
 refine ⟨by rw [List.length_set,h.m4],by rw [List.length_set,h.s4],by rw [List.length_set,h.h4],fun j c2 y2 X2 e1 e2 e3=>?_⟩
 have hm4:=h.m4; have hs4:=h.s4; have hh4:=h.h4
 by_cases q:k=j
 ·subst q
  have hk:k<M.length:=by have:=(List.getElem?_eq_some_iff.1 e1).1; rwa [List.length_set] at this
  rw [List.getElem?_set_self hk] at e1
  rw [List.getElem?_set_self (by omega)] at e2 e3
  cases e1; cases e2; cases e3; exact hp
 ·rw [List.getElem?_set_ne q] at e1 e2 e3
  exact h.at_ j c2 y2 X2 e1 e2 e3
theorem MsOk.up {T T':Nat} {M:List (Option Nat × Bool)} {ms:List (Option (Xm × Bool))} {HM:List Heap} (h:MsOk T M ms HM) (hl:T≤T'):MsOk T' M ms HM:=⟨h.m4,h.s4,h.h4,fun k c y X e1 e2 e3=>by
 cases h.at_ k c y X e1 e2 e3 with
 | none=>exact .none
 | some hx=>exact .some (hx.up hl)⟩
theorem lMake_go {w0:World} {H:Heap} {HF:Heap} {lb T:Nat} {F:Lf} (hF:LifeH lb T F HF) {kind entries words:Nat} (hk1:kind≤2) (hk2:1≤entries∧entries≤8) (hk3:1≤words∧words≤4) (hT8:8≤T) (hT0:Tab w0):LCalls Tryz.prog w0 25 #[.pointer (some ⟨lb,0,none⟩),.int .i64 (kind:Int),.int .i64 (entries:Int),.int .i64 (words:Int)] (HF++H) (fun v H'=>∃ HF',(match frM F.ms with | none=>LifeH lb T F HF'∧v=.tuple #[.int .i64 0,.int .i64 3] | some k=>LifeH lb T { F with ms:=F.ms.set k (some (Xm.new kind entries words,false)) } HF'∧v=.tuple #[.int .i64 (k:Int),.int .i64 0])∧H'=HF'++H):=by
 cases hF with
 | @mk tb wb g1 g2 rb db M HT HW H1 H2 HR HD HM hT hO hW h1 o1 h2 o2 hR hU hD hM =>
 have e0:((lb,.cells 134 15 (lfRow F.n M tb wb g1 g2 rb db))::(HT++(HW++(H1++(H2++(HR++(HD++HM.flatten)))))))++H=(lb,.cells 134 15 (lfRow F.n M tb wb g1 g2 rb db))::(HT++(HW++(H1++(H2++(HR++(HD++(HM.flatten++H))))))):=by simp only [List.cons_append,List.append_assoc]
 rw [e0]
 refine L_enter (l:=[.pointer (some ⟨lb,0,none⟩),.int .i64 (kind:Int),.int .i64 (entries:Int),.int .i64 (words:Int)]) Tryz.func25 rfl Tryz.ntmps25 rfl rfl ?_
 refine W_sr (W_assign rfl rfl (W_assign rfl rfl (W_nil (W_seq (W_sr (W_move rfl rfl ?_))))))
 refine W_x (X_ptrNil rfl rfl ty23) (fun _ h=>by cases h) rfl ?_
 refine W_nil (W_condF rfl rfl (W_skip (W_sr (W_move rfl rfl (W_move rfl rfl (W_move rfl rfl (W_call (.cons rfl (.cons rfl (.cons rfl .nil))) Tryz.call81 rfl (XmH.new hT0 hk1 hk2 hk3) ?_)))))))
 rintro v H' ⟨mb,HX,hX,rfl,rfl⟩
 refine W_move rfl rfl (W_extract rfl rfl rfl (W_extract rfl rfl rfl (W_assign rfl rfl (W_assign rfl rfl (W_nil (W_seq (W_sr (W_move rfl rfl (W_bin rfl rfl b_neq rfl ?_)))))))))
 refine W_nil (W_condF rfl rfl (W_skip (W_sr (W_move rfl rfl (W_nilCheck rfl rfl (W_fieldAddr rfl fld134_1 zd rfl ?_))))))
 refine W_x (X_sliceArr (l:=0) (hh:=4) rfl ty130 ty129 rfl rfl zd zd zd) (fun _ h=>by cases h) rfl ?_
 refine W_call (.cons rfl (.cons rfl .nil)) Tryz.call82 rfl ((lIndex_L (n:=F.n) (M:=M) (lb:=lb) (tb:=tb) (wb:=wb) (g1:=g1) (g2:=g2) (rb:=rb) (db:=db) zM hM.m4 (H:=HX++((lb,.cells 134 15 (lfRow F.n M tb wb g1 g2 rb db))::(HT++(HW++(H1++(H2++(HR++(HD++(HM.flatten++H))))))))))) ?_
 rintro v H' ⟨z,rfl,hz,rfl⟩
 rcases hz with ⟨i,c,rfl,hc,hcn,hcj⟩ | ⟨rfl,hcj⟩
 ·skip
  have hi4:i<4:=by have:=(List.getElem?_eq_some_iff.1 hc).1; rw [hM.m4] at this; exact this
  refine W_assign rfl rfl (W_nil (W_seq (W_sr (W_move rfl rfl (W_bin rfl rfl b_lss rfl ?_)))))
  refine W_nil (W_condF rfl (decide_eq_false zO) ?_)
  refine W_skip (W_sr (W_move rfl rfl (W_move rfl rfl (W_move rfl rfl (W_build (l:=mcC (some mb,false)) ty129 pl129 (.cons rfl rfl rfl rfl rfl .nil) rfl rfl rfl ?_)))))
  refine W_nilCheck rfl rfl (W_fieldAddr rfl fld134_1 zd rfl ?_)
  refine W_indexAddrA (j:=i) rfl rfl ty130 ty129 (by first | rfl | omega) (by first | decide | omega | simp) rfl rfl ?_
  refine W_storeA (l':=lfRow F.n (M.set i (some mb,false)) tb wb g1 g2 rb db) rfl rfl ty129 rfl rfl (b:=lb) zM (by rw [lf_len,hM.m4]; omega) (lf_spl (c':=(some mb,false)) (by rw [hM.m4]; exact hi4)) zU ?_
  refine W_nil (W_sr ?_)
  refine W_hsub (H':=(lb,.cells 134 15 (lfRow F.n (M.set i (some mb,false)) tb wb g1 g2 rb db))::(HT++(HW++(H1++(H2++(HR++(HD++((HM.set i HX).flatten++H)))))))) ((show HSub _ ((lb,.cells 134 15 (lfRow F.n (M.set i (some mb,false)) tb wb g1 g2 rb db))::(HT++(HW++(H1++(H2++(HR++(HD++(HX++(HM.flatten++H))))))))) from zH).trans (.cons (.here _) (.app (.here _) (.app (.here _) (.app (.here _) (.app (.here _) (.app (.here _) (.app (.here _) (flattenNew (hM.nilAt hc hcn)))))))))) ?_
  refine W_move rfl rfl (W_assign rfl rfl (W_assign rfl rfl (W_nil (W_ret2m (H2:=(lb,.cells 134 15 (lfRow F.n (M.set i (some mb,false)) tb wb g1 g2 rb db))::(HT++(HW++(H1++(H2++(HR++(HD++((HM.set i HX).flatten++H)))))))) Tryz.results25 rfl rfl (.nil _) zH ?_))))
  rw [hM.free hc hcn hcj]
  exact ⟨_,⟨.mk hT hO hW h1 o1 h2 o2 hR hU hD (hM.set (.some (hX.up hT8))),rfl⟩,by simp only [List.cons_append,List.append_assoc]⟩
 ·skip
  refine W_assign rfl rfl (W_nil (W_seq (W_sr (W_move rfl rfl (W_bin rfl rfl b_lss rfl ?_)))))
  refine W_nil (W_condT rfl rfl (W_sr (W_assign rfl rfl (W_assign rfl rfl (W_nil (W_ret2m (H2:=(lb,.cells 134 15 (lfRow F.n M tb wb g1 g2 rb db))::(HT++(HW++(H1++(H2++(HR++(HD++(HM.flatten++H)))))))) Tryz.results25 rfl rfl (.nil _) zH ?_))))))
  rw [hM.full hcj]
  exact ⟨_,⟨.mk hT hO hW h1 o1 h2 o2 hR hU hD hM,rfl⟩,by simp only [List.cons_append,List.append_assoc]⟩
def lf0 (n:Nat) (Ws:List Wl):Lf:=⟨n,[none,none,none,none],Ws,[],[],List.replicate 256 zTone,[],[],List.replicate 256 zWone,List.replicate 32 0,gr0 n,gr0 n,[],[]⟩
theorem gr0_ok {n:Nat} (h:1≤n∧n≤64):GrOk n (gr0 n):=⟨SctOk.start,by omega,fun l b p e=>(by cases e),Int.le_refl 0,(by show (0:Int)≤0∧(0:Int)≤1000000000; decide),(by show (0:Int)≤1000000000; decide)⟩
theorem us0:UsOk []:=⟨fun p hp=>(by cases hp),List.nodup_nil⟩
theorem ms0 (T:Nat):MsOk T [(none,false),(none,false),(none,false),(none,false)] [none,none,none,none] [[],[],[],[]]:=⟨rfl,rfl,rfl,fun k c y X e1 e2 e3=>by
 have hk:=(List.getElem?_eq_some_iff.1 e1).1
 have:k=0∨k=1∨k=2∨k=3:=by simp at hk; omega
 rcases this with rfl | rfl | rfl | rfl <;> (cases e1; cases e2; cases e3; exact .none)⟩
set_option maxRecDepth 100000
theorem lfNew_L {w0:World} {H:Heap} {n now:Nat} (hn:1≤n∧n≤64) (hnow:now≤18446744073709551615) :LCalls Tryz.prog w0 38 #[.int .i64 (n:Int),.int .u64 ((now:Nat):Int)] (H) (fun v H'=>∃ lb Ws HF,v=.tuple #[.pointer (some ⟨lb,0,none⟩),.int .i64 0]∧LifeH lb 8 (lf0 n Ws) HF∧Ws.length=n∧(∀ w∈Ws,FreshW now w)∧H'=HF++H):=by
 refine L_enter (l:=[.int .i64 (n:Int),.int .u64 ((now:Nat):Int)]) Tryz.func38 rfl Tryz.ntmps38 rfl rfl ?_
 refine W_sr (W_assign rfl rfl (W_assign rfl rfl (W_nil (W_sr (W_move rfl rfl (W_move rfl rfl (W_call (.cons rfl (.cons rfl .nil)) Tryz.call105 rfl (tNew_at (now:=now) hn) ?_)))))))
 rintro v H' ⟨tb,Ws,HT,rfl,hT,hWl,hfr,rfl⟩
 refine W_move rfl rfl (W_extract rfl rfl rfl (W_extract rfl rfl rfl (W_assign rfl rfl (W_assign rfl rfl (W_nil (W_seq (W_sr (W_move rfl rfl (W_bin rfl rfl b_neq rfl ?_)))))))))
 refine W_nil (W_condF rfl rfl (W_skip (W_sr (W_move rfl rfl (W_move rfl rfl ?_)))))
 refine W_makeMap (kf:=(Value.int .i64)) rfl (fun b20=>?_)
 refine W_build (l:=[.int .i64 ((n:Nat):Int),.pointer none,.bool false,.pointer none,.bool false,.pointer none,.bool false,.pointer none,.bool false,.pointer (some ⟨tb,0,none⟩),.pointer none,.pointer none,.pointer none,.pointer none,.map (some b20)]) ty134 pl134 (.cons rfl rfl rfl rfl rfl (.cons rfl rfl rfl rfl rfl (.cons rfl rfl rfl rfl rfl .nil))) rfl rfl rfl ?_
 refine W_box (l:=[.int .i64 ((n:Nat):Int),.pointer none,.bool false,.pointer none,.bool false,.pointer none,.bool false,.pointer none,.bool false,.pointer (some ⟨tb,0,none⟩),.pointer none,.pointer none,.pointer none,.pointer none,.map (some b20)]) rfl rfl rfl (fun b22=>?_)
 refine W_assign rfl rfl (W_nil (W_sr (W_move rfl rfl (W_move rfl rfl (W_call (.cons rfl .nil) Tryz.call106 rfl (wNew_L hn) ?_)))))
 rintro v H' ⟨wb,HW,rfl,hW,rfl⟩
 refine W_move rfl rfl (W_extract rfl rfl rfl (W_extract rfl rfl rfl (W_nilCheck rfl rfl (W_fieldAddr rfl fld134_3 zd rfl ?_))))
 refine W_store (l':=[.int .i64 ((n:Nat):Int),.pointer none,.bool false,.pointer none,.bool false,.pointer none,.bool false,.pointer none,.bool false,.pointer (some ⟨tb,0,none⟩),.pointer (some ⟨wb,0,none⟩),.pointer none,.pointer none,.pointer none,.map (some b20)]) rfl rfl ty67 rfl rfl (b:=b22) zM rfl rfl zU ?_
 refine W_nil (W_sr (W_move rfl rfl (W_move rfl rfl (W_call (.cons rfl .nil) Tryz.call107 rfl (gNew_L hn) ?_))))
 rintro v H' ⟨g1,H1_,rfl,hg1,rfl⟩
 refine W_move rfl rfl (W_extract rfl rfl rfl (W_extract rfl rfl rfl (W_nilCheck rfl rfl (W_fieldAddr rfl fld134_4 zd rfl ?_))))
 refine W_store (l':=[.int .i64 ((n:Nat):Int),.pointer none,.bool false,.pointer none,.bool false,.pointer none,.bool false,.pointer none,.bool false,.pointer (some ⟨tb,0,none⟩),.pointer (some ⟨wb,0,none⟩),.pointer (some ⟨g1,0,none⟩),.pointer none,.pointer none,.map (some b20)]) rfl rfl ty33 rfl rfl (b:=b22) zM rfl rfl zU ?_
 refine W_nil (W_sr (W_move rfl rfl (W_move rfl rfl (W_call (.cons rfl .nil) Tryz.call107 rfl (gNew_L hn) ?_))))
 rintro v H' ⟨g2,H2_,rfl,hg2,rfl⟩
 refine W_move rfl rfl (W_extract rfl rfl rfl (W_extract rfl rfl rfl (W_nilCheck rfl rfl (W_fieldAddr rfl fld134_5 zd rfl ?_))))
 refine W_store (l':=[.int .i64 ((n:Nat):Int),.pointer none,.bool false,.pointer none,.bool false,.pointer none,.bool false,.pointer none,.bool false,.pointer (some ⟨tb,0,none⟩),.pointer (some ⟨wb,0,none⟩),.pointer (some ⟨g1,0,none⟩),.pointer (some ⟨g2,0,none⟩),.pointer none,.map (some b20)]) rfl rfl ty33 rfl rfl (b:=b22) zM rfl rfl zU ?_
 refine W_nil (W_sr (W_move rfl rfl (W_call (.cons rfl .nil) Tryz.call108 rfl (refNew_L (top:=8) zd) ?_)))
 rintro v H' ⟨rb,HR,hR,rfl,rfl⟩
 refine W_move rfl rfl (W_extract rfl rfl rfl (W_extract rfl rfl rfl (W_nilCheck rfl rfl (W_fieldAddr rfl fld134_6 zd rfl ?_))))
 refine W_store (l':=[.int .i64 ((n:Nat):Int),.pointer none,.bool false,.pointer none,.bool false,.pointer none,.bool false,.pointer none,.bool false,.pointer (some ⟨tb,0,none⟩),.pointer (some ⟨wb,0,none⟩),.pointer (some ⟨g1,0,none⟩),.pointer (some ⟨g2,0,none⟩),.pointer (some ⟨rb,0,none⟩),.map (some b20)]) rfl rfl ty131 rfl rfl (b:=b22) zM rfl rfl zU ?_
 refine W_nil (W_sr (W_move rfl rfl (W_assign rfl rfl (W_assign rfl rfl (W_nil (W_ret2m (H2:=(b22,.cells 134 15 [.int .i64 ((n:Nat):Int),.pointer none,.bool false,.pointer none,.bool false,.pointer none,.bool false,.pointer none,.bool false,.pointer (some ⟨tb,0,none⟩),.pointer (some ⟨wb,0,none⟩),.pointer (some ⟨g1,0,none⟩),.pointer (some ⟨g2,0,none⟩),.pointer (some ⟨rb,0,none⟩),.map (some b20)])::(HT++(HW++(H1_++(H2_++(HR++((b20,.obj (mapO (Value.int .i64) [] 0))::H))))))) Tryz.results38 rfl rfl (.nil _) zH ?_))))))
 exact ⟨b22,Ws,(b22,.cells 134 15 [.int .i64 ((n:Nat):Int),.pointer none,.bool false,.pointer none,.bool false,.pointer none,.bool false,.pointer none,.bool false,.pointer (some ⟨tb,0,none⟩),.pointer (some ⟨wb,0,none⟩),.pointer (some ⟨g1,0,none⟩),.pointer (some ⟨g2,0,none⟩),.pointer (some ⟨rb,0,none⟩),.map (some b20)])::(HT++(HW++(H1_++(H2_++(HR++([(b20,.obj (mapO (Value.int .i64) [] 0))]++([[],[],[],[]]:List Heap).flatten)))))),rfl,.mk (F:=lf0 n Ws) hT ((tok0 hnow hfr).up (Nat.zero_le _)) hW hg1 (gr0_ok hn) hg2 (gr0_ok hn) hR us0 (.mk (E:=[]) (MapOk.nil 0) rfl) (ms0 8),hWl,hfr,by simp only [List.cons_append,List.append_assoc]; rfl⟩
theorem lwrong_pure {lb:Nat} {z p:Int}:Pure Tryz.prog (fun _=>True) 72 [.pointer (some ⟨lb,0,none⟩),.int .i64 z,.int .i64 p] (.int .i64 (if (0≤z∧z<64)∧0≤p∧p<16 then 0 else 2)):=by
 intro w0 H hT
 refine L_enter Tryz.func72 rfl Tryz.ntmps72 rfl rfl ?_
 refine W_sr (W_assign rfl rfl (W_nil (W_seq (W_block (W_sr (W_move rfl rfl ?_))))))
 refine W_x (X_ptrNil rfl rfl ty23) (fun _ h=>by cases h) rfl ?_
 refine W_assign rfl rfl (W_nil (W_condF rfl rfl (W_sr (W_move rfl rfl ?_))))
 rcases (show z<0∨(¬ z<0∧64≤z)∨(¬ z<0∧¬ 64≤z∧p<0)∨(¬ z<0∧¬ 64≤z∧¬ p<0∧16≤p)∨(¬ z<0∧¬ 64≤z∧¬ p<0∧¬ 16≤p) by omega) with hz | hz | hz | hz | hz
 ·skip
  refine W_bin rfl rfl b_lss rfl ?_
  first | rw [decide_eq_true (by omega)] | rw [decide_eq_false (by omega)]
  refine W_move rfl rfl (W_gno rfl rfl rfl ?_)
  refine W_gno rfl rfl rfl ?_
  first | refine W_pickt rfl rfl rfl ?_ | refine W_pickf rfl rfl rfl ?_
  refine W_move rfl rfl (W_gno rfl rfl rfl ?_)
  refine W_gno rfl rfl rfl ?_
  first | refine W_pickt rfl rfl rfl ?_ | refine W_pickf rfl rfl rfl ?_
  refine W_move rfl rfl (W_gno rfl rfl rfl ?_)
  refine W_gno rfl rfl rfl ?_
  first | refine W_pickt rfl rfl rfl ?_ | refine W_pickf rfl rfl rfl ?_
  refine W_assign rfl rfl (W_nil (W_condT rfl rfl (W_sr (W_assign rfl rfl (W_nil (W_ret1m (H2:=H) Tryz.results72 rfl (.nil _) zH ?_))))))
  rw [if_neg (by omega)]
  exact ⟨rfl,rfl⟩
 ·skip
  refine W_bin rfl rfl b_lss rfl ?_
  first | rw [decide_eq_true (by omega)] | rw [decide_eq_false (by omega)]
  refine W_move rfl rfl (W_gyes rfl rfl (W_move rfl rfl (W_gyes rfl rfl (W_bin rfl rfl b_geq rfl ?_))))
  first | rw [decide_eq_true (by omega)] | rw [decide_eq_false (by omega)]
  first | refine W_pickt rfl rfl rfl ?_ | refine W_pickf rfl rfl rfl ?_
  refine W_move rfl rfl (W_gno rfl rfl rfl ?_)
  refine W_gno rfl rfl rfl ?_
  first | refine W_pickt rfl rfl rfl ?_ | refine W_pickf rfl rfl rfl ?_
  refine W_move rfl rfl (W_gno rfl rfl rfl ?_)
  refine W_gno rfl rfl rfl ?_
  first | refine W_pickt rfl rfl rfl ?_ | refine W_pickf rfl rfl rfl ?_
  refine W_assign rfl rfl (W_nil (W_condT rfl rfl (W_sr (W_assign rfl rfl (W_nil (W_ret1m (H2:=H) Tryz.results72 rfl (.nil _) zH ?_))))))
  rw [if_neg (by omega)]
  exact ⟨rfl,rfl⟩
 ·skip
  refine W_bin rfl rfl b_lss rfl ?_
  first | rw [decide_eq_true (by omega)] | rw [decide_eq_false (by omega)]
  refine W_move rfl rfl (W_gyes rfl rfl (W_move rfl rfl (W_gyes rfl rfl (W_bin rfl rfl b_geq rfl ?_))))
  first | rw [decide_eq_true (by omega)] | rw [decide_eq_false (by omega)]
  first | refine W_pickt rfl rfl rfl ?_ | refine W_pickf rfl rfl rfl ?_
  refine W_move rfl rfl (W_gyes rfl rfl (W_move rfl rfl (W_gyes rfl rfl (W_bin rfl rfl b_lss rfl ?_))))
  first | rw [decide_eq_true (by omega)] | rw [decide_eq_false (by omega)]
  first | refine W_pickt rfl rfl rfl ?_ | refine W_pickf rfl rfl rfl ?_
  refine W_move rfl rfl (W_gno rfl rfl rfl ?_)
  refine W_gno rfl rfl rfl ?_
  first | refine W_pickt rfl rfl rfl ?_ | refine W_pickf rfl rfl rfl ?_
  refine W_assign rfl rfl (W_nil (W_condT rfl rfl (W_sr (W_assign rfl rfl (W_nil (W_ret1m (H2:=H) Tryz.results72 rfl (.nil _) zH ?_))))))
  rw [if_neg (by omega)]
  exact ⟨rfl,rfl⟩
 ·skip
  refine W_bin rfl rfl b_lss rfl ?_
  first | rw [decide_eq_true (by omega)] | rw [decide_eq_false (by omega)]
  refine W_move rfl rfl (W_gyes rfl rfl (W_move rfl rfl (W_gyes rfl rfl (W_bin rfl rfl b_geq rfl ?_))))
  first | rw [decide_eq_true (by omega)] | rw [decide_eq_false (by omega)]
  first | refine W_pickt rfl rfl rfl ?_ | refine W_pickf rfl rfl rfl ?_
  refine W_move rfl rfl (W_gyes rfl rfl (W_move rfl rfl (W_gyes rfl rfl (W_bin rfl rfl b_lss rfl ?_))))
  first | rw [decide_eq_true (by omega)] | rw [decide_eq_false (by omega)]
  first | refine W_pickt rfl rfl rfl ?_ | refine W_pickf rfl rfl rfl ?_
  refine W_move rfl rfl (W_gyes rfl rfl (W_move rfl rfl (W_gyes rfl rfl (W_bin rfl rfl b_geq rfl ?_))))
  first | rw [decide_eq_true (by omega)] | rw [decide_eq_false (by omega)]
  first | refine W_pickt rfl rfl rfl ?_ | refine W_pickf rfl rfl rfl ?_
  refine W_assign rfl rfl (W_nil (W_condT rfl rfl (W_sr (W_assign rfl rfl (W_nil (W_ret1m (H2:=H) Tryz.results72 rfl (.nil _) zH ?_))))))
  rw [if_neg (by omega)]
  exact ⟨rfl,rfl⟩
 ·skip
  refine W_bin rfl rfl b_lss rfl ?_
  first | rw [decide_eq_true (by omega)] | rw [decide_eq_false (by omega)]
  refine W_move rfl rfl (W_gyes rfl rfl (W_move rfl rfl (W_gyes rfl rfl (W_bin rfl rfl b_geq rfl ?_))))
  first | rw [decide_eq_true (by omega)] | rw [decide_eq_false (by omega)]
  first | refine W_pickt rfl rfl rfl ?_ | refine W_pickf rfl rfl rfl ?_
  refine W_move rfl rfl (W_gyes rfl rfl (W_move rfl rfl (W_gyes rfl rfl (W_bin rfl rfl b_lss rfl ?_))))
  first | rw [decide_eq_true (by omega)] | rw [decide_eq_false (by omega)]
  first | refine W_pickt rfl rfl rfl ?_ | refine W_pickf rfl rfl rfl ?_
  refine W_move rfl rfl (W_gyes rfl rfl (W_move rfl rfl (W_gyes rfl rfl (W_bin rfl rfl b_geq rfl ?_))))
  first | rw [decide_eq_true (by omega)] | rw [decide_eq_false (by omega)]
  first | refine W_pickt rfl rfl rfl ?_ | refine W_pickf rfl rfl rfl ?_
  refine W_assign rfl rfl (W_nil (W_condF rfl rfl (W_skip (W_blk (W_sr (W_assign rfl rfl (W_nil ?_)))))))
  refine W_ret1m (H2:=H) Tryz.results72 rfl (.nil _) zH ?_
  rw [if_pos (by omega)]
  exact ⟨rfl,rfl⟩
theorem UsOk.len {R:List (Int × Cnt)} (h:UsOk R):R.length<64:=by
 have:=nodup_len (n:=16) h.nd (fun x hx=>by obtain ⟨p,hp,rfl⟩:=List.mem_map.1 hx; exact (h.rng p hp).2.2.2)
 rw [List.length_map] at this; omega
theorem UsOk.cnt {R:List (Int × Cnt)} (h:UsOk R):∀ p∈R,0≤p.2.n∧p.2.n≤65535:=fun p hp=>by have:=h.rng p hp; omega
theorem getR_mem {R:List (Int × Cnt)} {k:Int} {c:Cnt} (h:getR R k=some c):(k,c)∈R:=by
 unfold getR at h
 obtain ⟨q,hq,rfl⟩:=Option.map_eq_some_iff.1 h
 have h1:k=q.1:=by simpa using List.find?_some hq
 subst h1
 exact List.mem_of_find?_eq_some hq
theorem getR_none {R:List (Int × Cnt)} {k:Int} (h:getR R k=none):k ∉ R.map (·.1):=by
 unfold getR at h
 rw [Option.map_eq_none_iff,List.find?_eq_none] at h
 intro hk
 obtain ⟨q,hq,e⟩:=List.mem_map.1 hk
 exact h q hq (decide_eq_true e.symm)
theorem setR_keys (R:List (Int × Cnt)) (k:Int) (c:Cnt):(setR R k c).map (·.1)=R.map (·.1):=by
 unfold setR; rw [List.map_map]
 exact List.map_congr_left fun q _=>by show (if k=q.1 then (q.1,c) else q).1=q.1; split <;> rfl
theorem UsOk.setc {R:List (Int × Cnt)} (h:UsOk R) {k:Int} {c:Cnt} (hc:1≤c.n∧c.n≤8∧c.top=8):UsOk (setR R k c):=⟨fun p hp=>by
 obtain ⟨q,hq,rfl⟩:=List.mem_map.1 hp
 have:=h.rng q hq
 show 1≤(if k=q.1 then (q.1,c) else q).2.n∧_
 split
 ·exact ⟨hc.1,hc.2.1,hc.2.2,this.2.2.2⟩
 ·exact this,by rw [setR_keys]; exact h.nd⟩
theorem UsOk.hold {R:List (Int × Cnt)} (h:UsOk R) {k:Int} (hk:0≤k∧k<16):UsOk (holdR R 8 k).1:=by
 unfold holdR
 cases hg:getR R k with
 | none =>
  refine ⟨fun p hp=>?_,?_⟩
  ·rcases List.mem_append.1 hp with hp | hp
   ·exact h.rng p hp
   ·obtain rfl:=List.mem_singleton.1 hp
    exact ⟨(by show (1:Int)≤1; decide),(by show (1:Int)≤8; decide),rfl,hk⟩
  ·rw [List.map_append,List.nodup_append]
   refine ⟨h.nd,by simp,fun a ha b hb=>?_⟩
   obtain rfl:=List.mem_singleton.1 hb
   exact fun e=>getR_none hg (e ▸ ha)
 | some c =>
  have hc:=h.rng _ (getR_mem hg)
  refine h.setc ?_
  dsimp only at hc
  unfold getC
  split
  ·omega
  ·split
   ·exact ⟨hc.1,hc.2.1,hc.2.2.1⟩
   ·split
    ·exact ⟨hc.1,hc.2.1,hc.2.2.1⟩
    ·exact ⟨by show 1≤c.n+1; omega,by show c.n+1≤8; omega,hc.2.2.1⟩
theorem UsOk.drop {R:List (Int × Cnt)} (h:UsOk R) (k:Int):UsOk (dropR R k).1:=by
 unfold dropR
 cases hg:getR R k with
 | none=>exact h
 | some c =>
  have hc:=h.rng _ (getR_mem hg)
  dsimp only at hc ⊢
  split
  ·exact ⟨fun p hp=>h.rng p (List.mem_filter.1 hp).1,h.nd.sublist (List.filter_sublist.map _)⟩
  ·rename_i hl
   refine h.setc ?_
   unfold putC_ at hl ⊢
   split
   ·omega
   ·split
    ·exact ⟨hc.1,hc.2.1,hc.2.2.1⟩
    ·rename_i c0 c1
     rw [if_neg c0,if_neg c1] at hl
     simp at hl
     exact ⟨by show 1≤c.n-1; omega,by show c.n-1≤8; omega,hc.2.2.1⟩
def useR (R:List (Int × Cnt)) (prog was:Int) (had:Bool):List (Int × Cnt) × Int:=if (holdR R 8 prog).2≠0 then (holdR R 8 prog) else ((if had=true then (dropR (holdR R 8 prog).1 was).1 else (holdR R 8 prog).1),0)
theorem UsOk.use {R:List (Int × Cnt)} (h:UsOk R) {prog:Int} (hk:0≤prog∧prog<16) (was:Int) (had:Bool):UsOk (useR R prog was had).1:=by
 unfold useR
 split
 ·exact h.hold hk
 ·dsimp only
  split
  ·exact (h.hold hk).drop was
  ·exact h.hold hk
theorem luse_L {w0:World} {H:Heap} {HR:Heap} {n lb tb wb g1 g2 rb db:Nat} {M:List (Option Nat × Bool)} (hM4:M.length=4) {R:List (Int × Cnt)} {prog was:Int} {had:Bool} (hR:RefH rb 8 R HR) (hU:UsOk R) (hp:0≤prog∧prog<16) :LCalls Tryz.prog w0 74 #[.pointer (some ⟨lb,0,none⟩),.int .i64 prog,.int .i64 was,.bool had] ((lb,.cells 134 15 (lfRow n M tb wb g1 g2 rb db))::(HR++H)) (fun v H'=>∃ HR',RefH rb 8 (useR R prog was had).1 HR'∧v=.int .i64 (useR R prog was had).2∧H'=(lb,.cells 134 15 (lfRow n M tb wb g1 g2 rb db))::(HR'++H)):=by
 refine L_enter (l:=[.pointer (some ⟨lb,0,none⟩),.int .i64 prog,.int .i64 was,.bool had]) Tryz.func74 rfl Tryz.ntmps74 rfl rfl ?_
 refine W_sr (W_assign rfl rfl (W_nil (W_seq (W_sr (W_move rfl rfl (W_nilCheck rfl rfl (W_fieldAddr rfl fld134_6 zd rfl ?_)))))))
 refine W_load (v:=.pointer (some ⟨rb,0,none⟩)) rfl ty131 rfl (Cell.own (b:=lb) zM (lf_tl (j:=4) hM4)) rfl ?_
 refine W_move rfl rfl ?_
 refine W_buildSlice (l:=[.int .i64 prog]) ty63 ty3 (.cons rfl rfl rfl rfl rfl .nil) rfl rfl rfl rfl rfl rfl rfl (fun b15=>?_)
 refine W_call (.cons rfl (.cons rfl .nil)) Tryz.call163 rfl ((rHold_L hR zd hU.cnt hU.len (ad:=some ⟨b15,0,none⟩) (cap:=1) (k:=prog) (Holds.own (b:=b15) zM) (H:=(b15,.cells 3 1 [.int .i64 prog])::(lb,.cells 134 15 (lfRow n M tb wb g1 g2 rb db))::H)).hsub zH) ?_
 rintro v H' ⟨HR2,hR2,rfl,rfl⟩
 refine W_assign rfl rfl (W_nil (W_sr (W_move rfl rfl (W_bin rfl rfl b_neq rfl ?_))))
 refine W_nil ?_
 refine W_condPS (p:=(holdR R 8 prog).2≠0) rfl (by simp) (fun q0=>?_) (fun q0=>?_)
 ·skip
  refine W_sr (W_move rfl rfl (W_assign rfl rfl (W_nil (W_ret1m (H2:=(lb,.cells 134 15 (lfRow n M tb wb g1 g2 rb db))::(HR2++H)) Tryz.results74 rfl (.nil _) zH ?_))))
  have e:useR R prog was had=holdR R 8 prog:=if_pos q0
  rw [e]
  exact ⟨HR2,hR2,rfl,rfl⟩
 ·skip
  refine W_skip (W_seq (W_sr (W_move rfl rfl (W_nil ?_))))
  refine W_condPS (p:=had=true) rfl .rfl (fun q1=>?_) (fun q1=>?_)
  ·skip
   refine W_region (W_move rfl rfl (W_nilCheck rfl rfl (W_fieldAddr rfl fld134_6 zd rfl ?_)))
   refine W_load (v:=.pointer (some ⟨rb,0,none⟩)) rfl ty131 rfl (Cell.own (b:=lb) zM (lf_tl (j:=4) hM4)) rfl ?_
   refine W_move rfl rfl (W_call (.cons rfl (.cons rfl .nil)) Tryz.call160 rfl ((RefH.drop hR2 (hU.hold hp).cnt (k:=was) (H:=(lb,.cells 134 15 (lfRow n M tb wb g1 g2 rb db))::H)).hsub zH) ?_)
   rintro v H' ⟨HR3,hR3,rfl,rfl⟩
   refine W_nil (W_sr (W_assign rfl rfl (W_nil (W_ret1m (H2:=(lb,.cells 134 15 (lfRow n M tb wb g1 g2 rb db))::(HR3++H)) Tryz.results74 rfl (.nil _) zH ?_))))
   have e:useR R prog was had=((dropR (holdR R 8 prog).1 was).1,0):=by unfold useR; rw [if_neg q0,if_pos q1]
   rw [e]
   exact ⟨HR3,hR3,rfl,rfl⟩
  ·skip
   refine W_skip (W_sr (W_assign rfl rfl (W_nil (W_ret1m (H2:=(lb,.cells 134 15 (lfRow n M tb wb g1 g2 rb db))::(HR2++H)) Tryz.results74 rfl (.nil _) zH ?_))))
   have e:useR R prog was had=((holdR R 8 prog).1,0):=by unfold useR; rw [if_neg q0,if_neg q1]
   rw [e]
   exact ⟨HR2,hR2,rfl,rfl⟩
end Go.Proofs.YtincjohoncljoaaGreatDoor
