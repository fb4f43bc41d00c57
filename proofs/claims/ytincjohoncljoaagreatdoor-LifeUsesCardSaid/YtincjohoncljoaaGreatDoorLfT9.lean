/-
  Own work: contracts of functions that the statement reaches, and plain facts on what they compute; each theorem says its conditions.
-/
import Derived.Test.YtincjohoncljoaaGreatDoorLfT8
import Derived.Test.YtincjohoncljoaaGreatDoorLfS1
import Derived.Test.YtincjohoncljoaaGreatDoorLfS2
import Derived.Test.YtincjohoncljoaaGreatDoorLfA
set_option linter.all false
set_option linter.unusedSimpArgs false
set_option linter.unusedVariables false
set_option maxHeartbeats 16000000
namespace Go.Proofs.YtincjohoncljoaaGreatDoor
open Go Go.Sl
attribute [local irreducible] W
def cbF (F:Lf) (z p:Int):Lf × Int:=if ¬ ((0≤z∧z<64)∧0≤p∧p<16) then (F,2) else if stateA F.Ws F.Qt F.At z=4 then (F,22) else if stateA F.Ws F.Qt F.At z=0 then (F,1) else if 0<(ofA F.At z).prog∧max ((ofA F.At z).prog-1) 0=p then (F,0) else if (useR F.us p (max ((ofA F.At z).prog-1) 0) (decide (0<(ofA F.At z).prog))).2≠0 then ({ F with us:=(useR F.us p (max ((ofA F.At z).prog-1) 0) (decide (0<(ofA F.At z).prog))).1 },(useR F.us p (max ((ofA F.At z).prog-1) 0) (decide (0<(ofA F.At z).prog))).2) else ({ F with us:=(useR F.us p (max ((ofA F.At z).prog-1) 0) (decide (0<(ofA F.At z).prog))).1,At:=(setA F.At z p).1 },(setA F.At z p).2)
def wkF (F:Lf) (z p:Int):Lf × Int:=if ¬ ((0≤z∧z<64)∧0≤p∧p<16) then (F,2) else if stateW F.Qw F.Aw z=3 then (F,22) else if 0<(ofW F.Aw z).prog∧max ((ofW F.Aw z).prog-1) 0=p then (F,0) else if (useR F.us p (max ((ofW F.Aw z).prog-1) 0) (decide (0<(ofW F.Aw z).prog))).2≠0 then ({ F with us:=(useR F.us p (max ((ofW F.Aw z).prog-1) 0) (decide (0<(ofW F.Aw z).prog))).1 },(useR F.us p (max ((ofW F.Aw z).prog-1) 0) (decide (0<(ofW F.Aw z).prog))).2) else ({ F with us:=(useR F.us p (max ((ofW F.Aw z).prog-1) 0) (decide (0<(ofW F.Aw z).prog))).1,Aw:=F.Aw.set z.toNat (setW p (ofW F.Aw z)).1 },(setW p (ofW F.Aw z)).2)
theorem LifeH.callback {w0:World} {H:Heap} {HF:Heap} {lb T:Nat} {F:Lf} (hF:LifeH lb T F HF) {z p:Int} :LCalls Tryz.prog w0 23 #[.pointer (some ⟨lb,0,none⟩),.int .i64 z,.int .i64 p] (HF++H) (fun v H'=>∃ HF',LifeH lb T (cbF F z p).1 HF'∧v=.int .i64 (cbF F z p).2∧H'=HF'++H):=by
 cases hF with
 | @mk tb wb g1 g2 rb db M HT HW H1 H2 HR HD HM hT hO hW h1 o1 h2 o2 hR hU hD hM =>
 have e0:((lb,.cells 134 15 (lfRow F.n M tb wb g1 g2 rb db))::(HT++(HW++(H1++(H2++(HR++(HD++HM.flatten)))))))++H=(lb,.cells 134 15 (lfRow F.n M tb wb g1 g2 rb db))::(HT++(HW++(H1++(H2++(HR++(HD++(HM.flatten++H))))))):=by simp only [List.cons_append,List.append_assoc]
 rw [e0]
 refine L_enter (l:=[.pointer (some ⟨lb,0,none⟩),.int .i64 z,.int .i64 p]) Tryz.func23 rfl Tryz.ntmps23 rfl rfl ?_
 refine W_sr (W_assign rfl rfl (W_nil (W_seq (W_sr (W_move rfl rfl (W_move rfl rfl (W_move rfl rfl ?_)))))))
 refine W_callp (.cons rfl (.cons rfl (.cons rfl .nil))) Tryz.call72 rfl (T:=fun _=>True) trivial (lwrong_pure (z:=z) (p:=p)) ?_
 by_cases hr:((0≤z∧z<64)∧0≤p∧p<16)
 ·skip
  rw [if_pos hr]
  refine W_assign rfl rfl (W_nil (W_sr (W_move rfl rfl (W_bin rfl rfl b_neq rfl ?_))))
  refine W_nil (W_condF rfl rfl (W_skip (W_sr (W_move rfl rfl (W_nilCheck rfl rfl (W_fieldAddr rfl fld134_2 zd rfl ?_))))))
  refine W_load (v:=.pointer (some ⟨tb,0,none⟩)) rfl ty55 rfl (Cell.own (b:=lb) zM (lf_tl (j:=0) hM.m4)) rfl ?_
  refine W_move rfl rfl ?_
  refine W_callq (.cons rfl (.cons rfl .nil)) Tryz.call78 rfl (tProg_q (id:=z) hT (fun p hp=>List.mem_cons_of_mem _ (List.mem_append_left _ hp))) ?_
  refine W_move rfl rfl (W_extract rfl rfl rfl (W_extract rfl rfl rfl (W_assign rfl rfl (W_assign rfl rfl (W_nil (W_seq (W_sr (W_move rfl rfl (W_nilCheck rfl rfl ?_)))))))))
  refine W_fieldAddr rfl fld134_2 zd rfl ?_
  refine W_load (v:=.pointer (some ⟨tb,0,none⟩)) rfl ty55 rfl (Cell.own (b:=lb) zM (lf_tl (j:=0) hM.m4)) rfl ?_
  refine W_move rfl rfl (W_call (.cons rfl (.cons rfl .nil)) Tryz.call34 rfl ((State_L (id:=z) hT (H:=(lb,.cells 134 15 (lfRow F.n M tb wb g1 g2 rb db))::(HW++(H1++(H2++(HR++(HD++(HM.flatten++H)))))))).hsub zH) ?_)
  rintro v H' ⟨HT2,hT2,rfl,rfl⟩
  refine W_assign rfl rfl (W_nil (W_block (W_sr (W_move rfl rfl (W_bin rfl rfl b_eql rfl ?_)))))
  refine W_assign rfl rfl (W_nil ?_)
  refine W_condPS (p:=stateA F.Ws F.Qt F.At z=4) rfl (by simp) (fun q0=>?_) (fun q0=>?_)
  ·skip
   refine W_sr (W_assign rfl rfl (W_nil (W_ret1m (H2:=(lb,.cells 134 15 (lfRow F.n M tb wb g1 g2 rb db))::(HT2++(HW++(H1++(H2++(HR++(HD++(HM.flatten++H)))))))) Tryz.results23 rfl (.nil _) zH ?_)))
   have hrr:¬ ¬ ((0≤z∧z<64)∧0≤p∧p<16):=fun h=>h hr
   have e:cbF F z p=(F,22):=by unfold cbF; rw [if_neg hrr,if_pos q0]
   rw [e]
   exact ⟨_,.mk hT2 hO hW h1 o1 h2 o2 hR hU hD hM,rfl,by simp only [List.cons_append,List.append_assoc]⟩
  ·skip
   refine W_sr (W_move rfl rfl (W_bin rfl rfl b_eql rfl ?_))
   refine W_assign rfl rfl (W_nil ?_)
   refine W_condPS (p:=stateA F.Ws F.Qt F.At z=0) rfl (by simp) (fun q1=>?_) (fun q1=>?_)
   ·skip
    refine W_sr (W_assign rfl rfl (W_nil (W_ret1m (H2:=(lb,.cells 134 15 (lfRow F.n M tb wb g1 g2 rb db))::(HT2++(HW++(H1++(H2++(HR++(HD++(HM.flatten++H)))))))) Tryz.results23 rfl (.nil _) zH ?_)))
    have hrr:¬ ¬ ((0≤z∧z<64)∧0≤p∧p<16):=fun h=>h hr
    have e:cbF F z p=(F,1):=by unfold cbF; rw [if_neg hrr,if_neg q0,if_pos q1]
    rw [e]
    exact ⟨_,.mk hT2 hO hW h1 o1 h2 o2 hR hU hD hM,rfl,by simp only [List.cons_append,List.append_assoc]⟩
   ·skip
    refine W_sr (W_move rfl rfl (W_move rfl rfl ?_))
    apply W_and
    iterate 4 exact rfl
    case h1 =>
     intro hg1
     refine W_gyes rfl rfl (W_move rfl rfl (W_gyes rfl rfl (W_move rfl rfl (W_gyes rfl rfl (W_bin rfl rfl b_eql rfl ?_)))))
     exact W_met rfl zR
    refine W_assign rfl rfl (W_nil ?_)
    refine W_condPS (p:=0<(ofA F.At z).prog∧(max ((ofA F.At z).prog-1) 0)=p) rfl (by simp) (fun q2=>?_) (fun q2=>?_)
    ·skip
     refine W_sr (W_assign rfl rfl (W_nil (W_ret1m (H2:=(lb,.cells 134 15 (lfRow F.n M tb wb g1 g2 rb db))::(HT2++(HW++(H1++(H2++(HR++(HD++(HM.flatten++H)))))))) Tryz.results23 rfl (.nil _) zH ?_)))
     have hrr:¬ ¬ ((0≤z∧z<64)∧0≤p∧p<16):=fun h=>h hr
     have e:cbF F z p=(F,0):=by unfold cbF; rw [if_neg hrr,if_neg q0,if_neg q1,if_pos q2]
     rw [e]
     exact ⟨_,.mk hT2 hO hW h1 o1 h2 o2 hR hU hD hM,rfl,by simp only [List.cons_append,List.append_assoc]⟩
    ·skip
     refine W_skip (W_blk (W_seq (W_sr (W_move rfl rfl (W_move rfl rfl (W_move rfl rfl (W_move rfl rfl (W_call (.cons rfl (.cons rfl (.cons rfl (.cons rfl .nil)))) Tryz.call74 rfl ((luse_L (n:=F.n) (lb:=lb) (tb:=tb) (wb:=wb) (g1:=g1) (g2:=g2) (db:=db) (M:=M) hM.m4 (prog:=p) (was:=(max ((ofA F.At z).prog-1) 0)) (had:=(decide (0<(ofA F.At z).prog))) hR hU hr.2 (H:=HT2++(HW++(H1++(H2++(HD++(HM.flatten++H))))))).hsub zH) ?_))))))))
     rintro v H' ⟨HR2,hR2,rfl,rfl⟩
     refine W_assign rfl rfl (W_nil (W_sr (W_move rfl rfl (W_bin rfl rfl b_neq rfl ?_))))
     refine W_nil ?_
     refine W_condPS (p:=(useR F.us p (max ((ofA F.At z).prog-1) 0) (decide (0<(ofA F.At z).prog))).2≠0) rfl (by simp) (fun q3=>?_) (fun q3=>?_)
     ·skip
      refine W_sr (W_move rfl rfl (W_assign rfl rfl (W_nil (W_ret1m (H2:=(lb,.cells 134 15 (lfRow F.n M tb wb g1 g2 rb db))::(HT2++(HW++(H1++(H2++(HR2++(HD++(HM.flatten++H)))))))) Tryz.results23 rfl (.nil _) zH ?_))))
      have hrr:¬ ¬ ((0≤z∧z<64)∧0≤p∧p<16):=fun h=>h hr
      have e:cbF F z p=({ F with us:=(useR F.us p (max ((ofA F.At z).prog-1) 0) (decide (0<(ofA F.At z).prog))).1 },(useR F.us p (max ((ofA F.At z).prog-1) 0) (decide (0<(ofA F.At z).prog))).2):=by unfold cbF; rw [if_neg hrr,if_neg q0,if_neg q1,if_neg q2,if_pos q3]
      rw [e]
      exact ⟨_,.mk (F:={ F with us:=(useR F.us p (max ((ofA F.At z).prog-1) 0) (decide (0<(ofA F.At z).prog))).1 }) hT2 hO hW h1 o1 h2 o2 hR2 (hU.use hr.2 _ _) hD hM,rfl,by simp only [List.cons_append,List.append_assoc]⟩
     ·skip
      refine W_skip (W_sr (W_move rfl rfl (W_nilCheck rfl rfl (W_fieldAddr rfl fld134_2 zd rfl ?_))))
      refine W_load (v:=.pointer (some ⟨tb,0,none⟩)) rfl ty55 rfl (Cell.own (b:=lb) zM (lf_tl (j:=0) hM.m4)) rfl ?_
      refine W_move rfl rfl (W_move rfl rfl (W_call (.cons rfl (.cons rfl (.cons rfl .nil))) Tryz.call79 rfl ((Set_L (id:=z) (prog:=p) hT2 (H:=(lb,.cells 134 15 (lfRow F.n M tb wb g1 g2 rb db))::(HW++(H1++(H2++(HR2++(HD++(HM.flatten++H)))))))).hsub zH) ?_))
      rintro v H' ⟨HT3,hT3,rfl,rfl⟩
      refine W_assign rfl rfl (W_nil (W_ret1m (H2:=(lb,.cells 134 15 (lfRow F.n M tb wb g1 g2 rb db))::(HT3++(HW++(H1++(H2++(HR2++(HD++(HM.flatten++H)))))))) Tryz.results23 rfl (.nil _) zH ?_))
      have hrr:¬ ¬ ((0≤z∧z<64)∧0≤p∧p<16):=fun h=>h hr
      have e:cbF F z p=({ F with us:=(useR F.us p (max ((ofA F.At z).prog-1) 0) (decide (0<(ofA F.At z).prog))).1,At:=(setA F.At z p).1 },(setA F.At z p).2):=by unfold cbF; rw [if_neg hrr,if_neg q0,if_neg q1,if_neg q2,if_neg q3]
      rw [e]
      exact ⟨_,.mk (F:={ F with us:=(useR F.us p (max ((ofA F.At z).prog-1) 0) (decide (0<(ofA F.At z).prog))).1,At:=(setA F.At z p).1 }) hT3 (hO.setA z p) hW h1 o1 h2 o2 hR2 (hU.use hr.2 _ _) hD hM,rfl,by simp only [List.cons_append,List.append_assoc]⟩
 ·skip
  rw [if_neg hr]
  refine W_assign rfl rfl (W_nil (W_sr (W_move rfl rfl (W_bin rfl rfl b_neq rfl ?_))))
  refine W_nil (W_condT rfl rfl (W_sr (W_move rfl rfl (W_assign rfl rfl (W_nil (W_ret1m (H2:=(lb,.cells 134 15 (lfRow F.n M tb wb g1 g2 rb db))::(HT++(HW++(H1++(H2++(HR++(HD++(HM.flatten++H)))))))) Tryz.results23 rfl (.nil _) zH ?_))))))
  have e:cbF F z p=(F,2):=if_pos hr
  rw [e]
  exact ⟨_,.mk hT hO hW h1 o1 h2 o2 hR hU hD hM,rfl,by simp only [List.cons_append,List.append_assoc]⟩
theorem WorkH.prog {w0:World} {H HB:Heap} {wb n:Nat} {Q Rs:List (Int × Int)} {As:List Wone} {on:List Int} (h:WorkH wb n Q Rs As on HB) (hs:∀ p∈HB,p∈H) {id:Int}:PureAt Tryz.prog w0 H 73 [.pointer (some ⟨wb,0,none⟩),.int .i64 id] (.tuple #[.int .i64 (max ((ofW As id).prog-1) 0),.bool (decide (0<(ofW As id).prog))]):=by
 cases h with
 | mk hP hA hn=>exact wProg_q hA (hs _ List.mem_cons_self)
theorem WorkH.state {w0:World} {H HB:Heap} {wb n:Nat} {Q Rs:List (Int × Int)} {As:List Wone} {on:List Int} (h:WorkH wb n Q Rs As on HB) {id:Int}:LCalls Tryz.prog w0 35 #[.pointer (some ⟨wb,0,none⟩),.int .i64 id] (HB++H) (fun v H'=>v=.int .i64 (stateW Q As id)∧H'=HB++H):=by
 cases h with
 | mk hP hA hn=>exact wState_at hP hn hA
theorem setW_rng {o:Wone} {p:Int} (hp:0≤p∧p<16) (h:0≤o.prog∧o.prog≤16):0≤(setW p o).1.prog∧(setW p o).1.prog≤16:=by
 unfold setW; split
 ·exact h
 ·show 0≤p+1∧p+1≤16; omega
theorem WorkH.set {w0:World} {H HB:Heap} {wb n:Nat} {Q Rs:List (Int × Int)} {As:List Wone} {on:List Int} (h:WorkH wb n Q Rs As on HB) {z p:Int} (hz:0≤z∧z<256) (hp:0≤p∧p<16):LCalls Tryz.prog w0 75 #[.pointer (some ⟨wb,0,none⟩),.int .i64 z,.int .i64 p] (HB++H) (fun v H'=>∃ HB',WorkH wb n Q Rs (As.set z.toNat (setW p (ofW As z)).1) on HB'∧v=.int .i64 (setW p (ofW As z)).2∧H'=HB'++H):=by
 cases h with
 | @mk pb HP hP hA hn =>
  obtain ⟨i,rfl⟩:∃ i:Nat,z=(i:Int):=⟨z.toNat,by omega⟩
  obtain ⟨o,ho⟩:=hA.at (i:=i) zO
  rw [ofW_at (by omega) ho,Int.toNat_natCast]
  refine (wSet_at (H:=HP++H) ho zO hp).mono ?_
  rintro v H' ⟨rfl,rfl⟩
  exact ⟨_,.mk hP (hA.set i (setW_rng hp (hA.rng o (List.mem_of_getElem? ho)))) hn,rfl,rfl⟩
theorem LifeH.work {w0:World} {H:Heap} {HF:Heap} {lb T:Nat} {F:Lf} (hF:LifeH lb T F HF) {z p:Int} :LCalls Tryz.prog w0 20 #[.pointer (some ⟨lb,0,none⟩),.int .i64 z,.int .i64 p] (HF++H) (fun v H'=>∃ HF',LifeH lb T (wkF F z p).1 HF'∧v=.int .i64 (wkF F z p).2∧H'=HF'++H):=by
 cases hF with
 | @mk tb wb g1 g2 rb db M HT HW H1 H2 HR HD HM hT hO hW h1 o1 h2 o2 hR hU hD hM =>
 have e0:((lb,.cells 134 15 (lfRow F.n M tb wb g1 g2 rb db))::(HT++(HW++(H1++(H2++(HR++(HD++HM.flatten)))))))++H=(lb,.cells 134 15 (lfRow F.n M tb wb g1 g2 rb db))::(HT++(HW++(H1++(H2++(HR++(HD++(HM.flatten++H))))))):=by simp only [List.cons_append,List.append_assoc]
 rw [e0]
 refine L_enter (l:=[.pointer (some ⟨lb,0,none⟩),.int .i64 z,.int .i64 p]) Tryz.func20 rfl Tryz.ntmps20 rfl rfl ?_
 refine W_sr (W_assign rfl rfl (W_nil (W_seq (W_sr (W_move rfl rfl (W_move rfl rfl (W_move rfl rfl ?_)))))))
 refine W_callp (.cons rfl (.cons rfl (.cons rfl .nil))) Tryz.call72 rfl (T:=fun _=>True) trivial (lwrong_pure (z:=z) (p:=p)) ?_
 by_cases hr:((0≤z∧z<64)∧0≤p∧p<16)
 ·skip
  rw [if_pos hr]
  refine W_assign rfl rfl (W_nil (W_sr (W_move rfl rfl (W_bin rfl rfl b_neq rfl ?_))))
  refine W_nil (W_condF rfl rfl (W_skip (W_sr (W_move rfl rfl (W_nilCheck rfl rfl (W_fieldAddr rfl fld134_3 zd rfl ?_))))))
  refine W_load (v:=.pointer (some ⟨wb,0,none⟩)) rfl ty67 rfl (Cell.own (b:=lb) zM (lf_tl (j:=1) hM.m4)) rfl ?_
  refine W_move rfl rfl ?_
  refine W_callq (.cons rfl (.cons rfl .nil)) Tryz.call73 rfl (hW.prog (id:=z) (fun p hp=>List.mem_cons_of_mem _ (List.mem_append_right _ (List.mem_append_left _ hp)))) ?_
  refine W_move rfl rfl (W_extract rfl rfl rfl (W_extract rfl rfl rfl (W_assign rfl rfl (W_assign rfl rfl (W_nil (W_seq (W_block (W_sr (W_move rfl rfl ?_)))))))))
  refine W_nilCheck rfl rfl (W_fieldAddr rfl fld134_3 zd rfl ?_)
  refine W_load (v:=.pointer (some ⟨wb,0,none⟩)) rfl ty67 rfl (Cell.own (b:=lb) zM (lf_tl (j:=1) hM.m4)) rfl ?_
  refine W_move rfl rfl (W_call (.cons rfl (.cons rfl .nil)) Tryz.call35 rfl ((hW.state (id:=z) (H:=(lb,.cells 134 15 (lfRow F.n M tb wb g1 g2 rb db))::(HT++(H1++(H2++(HR++(HD++(HM.flatten++H)))))))).hsub zH) ?_)
  rintro v H' ⟨rfl,rfl⟩
  refine W_bin rfl rfl b_eql rfl ?_
  refine W_assign rfl rfl (W_nil ?_)
  refine W_condPS (p:=stateW F.Qw F.Aw z=3) rfl (by simp) (fun q0=>?_) (fun q0=>?_)
  ·skip
   refine W_sr (W_assign rfl rfl (W_nil (W_ret1m (H2:=(lb,.cells 134 15 (lfRow F.n M tb wb g1 g2 rb db))::(HT++(HW++(H1++(H2++(HR++(HD++(HM.flatten++H)))))))) Tryz.results20 rfl (.nil _) zH ?_)))
   have hrr:¬ ¬ ((0≤z∧z<64)∧0≤p∧p<16):=fun h=>h hr
   have e:wkF F z p=(F,22):=by unfold wkF; rw [if_neg hrr,if_pos q0]
   rw [e]
   exact ⟨_,.mk hT hO hW h1 o1 h2 o2 hR hU hD hM,rfl,by simp only [List.cons_append,List.append_assoc]⟩
  ·skip
   refine W_sr (W_move rfl rfl (W_move rfl rfl ?_))
   apply W_and
   iterate 4 exact rfl
   case h1 =>
    intro hg1
    refine W_gyes rfl rfl (W_move rfl rfl (W_gyes rfl rfl (W_move rfl rfl (W_gyes rfl rfl (W_bin rfl rfl b_eql rfl ?_)))))
    exact W_met rfl zR
   refine W_assign rfl rfl (W_nil ?_)
   refine W_condPS (p:=0<(ofW F.Aw z).prog∧(max ((ofW F.Aw z).prog-1) 0)=p) rfl (by simp) (fun q1=>?_) (fun q1=>?_)
   ·skip
    refine W_sr (W_assign rfl rfl (W_nil (W_ret1m (H2:=(lb,.cells 134 15 (lfRow F.n M tb wb g1 g2 rb db))::(HT++(HW++(H1++(H2++(HR++(HD++(HM.flatten++H)))))))) Tryz.results20 rfl (.nil _) zH ?_)))
    have hrr:¬ ¬ ((0≤z∧z<64)∧0≤p∧p<16):=fun h=>h hr
    have e:wkF F z p=(F,0):=by unfold wkF; rw [if_neg hrr,if_neg q0,if_pos q1]
    rw [e]
    exact ⟨_,.mk hT hO hW h1 o1 h2 o2 hR hU hD hM,rfl,by simp only [List.cons_append,List.append_assoc]⟩
   ·skip
    refine W_skip (W_blk (W_seq (W_sr (W_move rfl rfl (W_move rfl rfl (W_move rfl rfl (W_move rfl rfl (W_call (.cons rfl (.cons rfl (.cons rfl (.cons rfl .nil)))) Tryz.call74 rfl ((luse_L (n:=F.n) (lb:=lb) (tb:=tb) (wb:=wb) (g1:=g1) (g2:=g2) (db:=db) (M:=M) hM.m4 (prog:=p) (was:=(max ((ofW F.Aw z).prog-1) 0)) (had:=(decide (0<(ofW F.Aw z).prog))) hR hU hr.2 (H:=HT++(HW++(H1++(H2++(HD++(HM.flatten++H))))))).hsub zH) ?_))))))))
    rintro v H' ⟨HR2,hR2,rfl,rfl⟩
    refine W_assign rfl rfl (W_nil (W_sr (W_move rfl rfl (W_bin rfl rfl b_neq rfl ?_))))
    refine W_nil ?_
    refine W_condPS (p:=(useR F.us p (max ((ofW F.Aw z).prog-1) 0) (decide (0<(ofW F.Aw z).prog))).2≠0) rfl (by simp) (fun q2=>?_) (fun q2=>?_)
    ·skip
     refine W_sr (W_move rfl rfl (W_assign rfl rfl (W_nil (W_ret1m (H2:=(lb,.cells 134 15 (lfRow F.n M tb wb g1 g2 rb db))::(HT++(HW++(H1++(H2++(HR2++(HD++(HM.flatten++H)))))))) Tryz.results20 rfl (.nil _) zH ?_))))
     have hrr:¬ ¬ ((0≤z∧z<64)∧0≤p∧p<16):=fun h=>h hr
     have e:wkF F z p=({ F with us:=(useR F.us p (max ((ofW F.Aw z).prog-1) 0) (decide (0<(ofW F.Aw z).prog))).1 },(useR F.us p (max ((ofW F.Aw z).prog-1) 0) (decide (0<(ofW F.Aw z).prog))).2):=by unfold wkF; rw [if_neg hrr,if_neg q0,if_neg q1,if_pos q2]
     rw [e]
     exact ⟨_,.mk (F:={ F with us:=(useR F.us p (max ((ofW F.Aw z).prog-1) 0) (decide (0<(ofW F.Aw z).prog))).1 }) hT hO hW h1 o1 h2 o2 hR2 (hU.use hr.2 _ _) hD hM,rfl,by simp only [List.cons_append,List.append_assoc]⟩
    ·skip
     refine W_skip (W_sr (W_move rfl rfl (W_nilCheck rfl rfl (W_fieldAddr rfl fld134_3 zd rfl ?_))))
     refine W_load (v:=.pointer (some ⟨wb,0,none⟩)) rfl ty67 rfl (Cell.own (b:=lb) zM (lf_tl (j:=1) hM.m4)) rfl ?_
     refine W_move rfl rfl (W_move rfl rfl (W_call (.cons rfl (.cons rfl (.cons rfl .nil))) Tryz.call75 rfl ((hW.set (z:=z) (p:=p) zO hr.2 (H:=(lb,.cells 134 15 (lfRow F.n M tb wb g1 g2 rb db))::(HT++(H1++(H2++(HR2++(HD++(HM.flatten++H)))))))).hsub zH) ?_))
     rintro v H' ⟨HW2,hW2,rfl,rfl⟩
     refine W_assign rfl rfl (W_nil (W_ret1m (H2:=(lb,.cells 134 15 (lfRow F.n M tb wb g1 g2 rb db))::(HT++(HW2++(H1++(H2++(HR2++(HD++(HM.flatten++H)))))))) Tryz.results20 rfl (.nil _) zH ?_))
     have hrr:¬ ¬ ((0≤z∧z<64)∧0≤p∧p<16):=fun h=>h hr
     have e:wkF F z p=({ F with us:=(useR F.us p (max ((ofW F.Aw z).prog-1) 0) (decide (0<(ofW F.Aw z).prog))).1,Aw:=F.Aw.set z.toNat (setW p (ofW F.Aw z)).1 },(setW p (ofW F.Aw z)).2):=by unfold wkF; rw [if_neg hrr,if_neg q0,if_neg q1,if_neg q2]
     rw [e]
     exact ⟨_,.mk (F:={ F with us:=(useR F.us p (max ((ofW F.Aw z).prog-1) 0) (decide (0<(ofW F.Aw z).prog))).1,Aw:=F.Aw.set z.toNat (setW p (ofW F.Aw z)).1 }) hT hO hW2 h1 o1 h2 o2 hR2 (hU.use hr.2 _ _) hD hM,rfl,by simp only [List.cons_append,List.append_assoc]⟩
 ·skip
  rw [if_neg hr]
  refine W_assign rfl rfl (W_nil (W_sr (W_move rfl rfl (W_bin rfl rfl b_neq rfl ?_))))
  refine W_nil (W_condT rfl rfl (W_sr (W_move rfl rfl (W_assign rfl rfl (W_nil (W_ret1m (H2:=(lb,.cells 134 15 (lfRow F.n M tb wb g1 g2 rb db))::(HT++(HW++(H1++(H2++(HR++(HD++(HM.flatten++H)))))))) Tryz.results20 rfl (.nil _) zH ?_))))))
  have e:wkF F z p=(F,2):=if_pos hr
  rw [e]
  exact ⟨_,.mk hT hO hW h1 o1 h2 o2 hR hU hD hM,rfl,by simp only [List.cons_append,List.append_assoc]⟩
attribute [local irreducible] shutsA
def dyPut (dy:List (Int × Hd)) (z:Int) (h:Hd):List (Int × Hd):=if dy.any (fun p=>decide (z=p.1))=true then dy.map (fun p=>if z=p.1 then (p.1,h) else p) else dy++[(z,h)]
def callG (G:Gr) (n:Nat) (z:Nat):Gr:=match G.Q[z%n]? with
 | some q=>{ G with Q:=G.Q.set (z%n) (addC q (z:Int)) }
 | none=>G
def dieF (F:Lf) (z:Nat) (h:Hd):Lf:={ F with
 Ws:=(shutsA F.Ws F.Qt F.At [(z:Int)]).1,Qt:=(shutsA F.Ws F.Qt F.At [(z:Int)]).2.1,At:=(shutsA F.Ws F.Qt F.At [(z:Int)]).2.2.1,
 Qw:=delQ F.Qw (z:Int),Aw:=F.Aw.set z { ofW F.Aw (z:Int) with shut:=true },dy:=dyPut F.dy (z:Int) h,tr:=callG F.tr F.n z }
theorem GrOk.call {n:Nat} {G:Gr} (h:GrOk n G) (z:Nat):GrOk n (callG G n z):=by
 unfold callG
 split
 ·exact ⟨h.sok,h.n,h.left,h.last,h.beg,h.st⟩
 ·exact h
theorem dy_has (E:List Dye) (z:Int):mHas (E.map Dye.ent) z=(E.map Dye.p).any (fun p=>decide (z=p.1)):=by
 unfold mHas
 rw [List.any_map,List.any_map]; rfl
theorem dy_put (E:List Dye) (cl:Nat) (z:Int) (h:Hd):∃ E':List Dye,mPut (E.map Dye.ent) cl z (.agg (List.toArray (hdC h)))=E'.map Dye.ent∧E'.map Dye.p=dyPut (E.map Dye.p) z h:=by
 unfold mPut dyPut
 rw [dy_has]
 cases hh:(E.map Dye.p).any (fun p=>decide (z=p.1)) with
 | true =>
  rw [if_pos rfl,if_pos rfl]
  refine ⟨E.map (fun e=>if z=e.key then { e with h:=h } else e),?_,?_⟩
  ·rw [List.map_map,List.map_map]
   exact List.map_congr_left fun e _=>by show (if z=e.key then _ else _)=Dye.ent (if z=e.key then _ else e); split <;> rfl
  ·rw [List.map_map,List.map_map]
   exact List.map_congr_left fun e _=>by show Dye.p (if z=e.key then _ else e)=(if z=e.key then _ else _); split <;> rfl
 | false =>
  rw [if_neg (by decide),if_neg (by decide)]
  exact ⟨E++[⟨z,h,cl⟩],by rw [List.map_append]; rfl,by rw [List.map_append]; rfl⟩
theorem WorkH.shut {w0:World} {H HB:Heap} {wb n:Nat} {Q Rs:List (Int × Int)} {As:List Wone} {on:List Int} (h:WorkH wb n Q Rs As on HB) {z:Nat} (hz:z<256) {ad:Option Addr} {cap:Nat} (hrow:∀ HZ:Heap,Holds w0 (HZ++H) ad [.int .i64 (z:Int)]):LCalls Tryz.prog w0 151 #[.pointer (some ⟨wb,0,none⟩),.slice ad 1 cap] (HB++H) (fun v H'=>∃ HB',WorkH wb n (delQ Q (z:Int)) Rs (As.set z { ofW As (z:Int) with shut:=true }) on HB'∧(∃ m,v=.int .i64 m)∧H'=HB'++H):=by
 cases h with
 | @mk pb HP hP hA hn =>
  obtain ⟨o,ho⟩:=hA.at (i:=z) hz
  rw [ofW_at hz ho]
  refine (wShut_at (H:=H) hP hn ho hz (hrow [])).mono ?_
  rintro v H' ⟨HP2,hP2,hv,rfl⟩
  exact ⟨_,.mk hP2 (hA.set z (o:={ o with shut:=true }) (hA.rng o (List.mem_of_getElem? ho))) hn,hv,rfl⟩
theorem GrH.len {gb n:Nat} {G:Gr} {HG:Heap} (h:GrH gb n G HG):G.Q.length=n:=by
 cases h with
 | mk hS hL=>exact hL.facts.1
theorem GrH.call {w0:World} {H HG:Heap} {gb n:Nat} {G:Gr} (hG:GrH gb n G HG) (hok:GrOk n G) {z:Nat} {ad:Option Addr} {cap:Nat} (hrow:∀ HZ:Heap,Holds w0 (HZ++H) ad [.int .i64 (z:Int)]):LCalls Tryz.prog w0 70 #[.pointer (some ⟨gb,0,none⟩),.int .i64 ((z%n:Nat):Int),.slice ad 1 cap] (HG++H) (fun v H'=>∃ HG',GrH gb n (callG G n z) HG'∧(∃ m,v=.int .i64 m)∧H'=HG'++H):=by
 have hk:z%n<n:=Nat.mod_lt _ hok.n.1
 obtain ⟨q,hq⟩:∃ q,G.Q[z%n]?=some q:=⟨_,List.getElem?_eq_getElem (by rw [hG.len]; exact hk)⟩
 refine (gCall_at (H:=H) hG hok hk hq hrow).mono ?_
 rintro v H' ⟨HG',hG',rfl,rfl⟩
 have e:callG G n z={ G with Q:=G.Q.set (z%n) (addC q (z:Int)) }:=by unfold callG; rw [hq]
 rw [e]
 exact ⟨HG',hG',⟨_,rfl⟩,rfl⟩
theorem LifeH.die {w0:World} {H:Heap} {HF:Heap} {lb T:Nat} {F:Lf} (hF:LifeH lb T F HF) {i s z:Nat} {h:Hd} (hi:i<4) (hs:s<16) (hsl:h.slot=(s:Int)) (hz:z=16*i+s) :LCalls Tryz.prog w0 62 #[.pointer (some ⟨lb,0,none⟩),.int .i64 (i:Int),.agg (List.toArray (hdC h))] (HF++H) (fun v H'=>∃ HF',LifeH lb T (dieF F z h) HF'∧v=.tuple #[]∧H'=HF'++H):=by
 cases hF with
 | @mk tb wb g1 g2 rb db M HT HW H1 H2 HR HD HM hT hO hW h1 o1 h2 o2 hR hU hD hM =>
 cases hD with
 | @mk E cl hok hdy =>
 have e0:((lb,.cells 134 15 (lfRow F.n M tb wb g1 g2 rb db))::(HT++(HW++(H1++(H2++(HR++([(db,.obj (mapO (Value.int .i64) ((E).map Dye.ent) cl))]++HM.flatten)))))))++H=(lb,.cells 134 15 (lfRow F.n M tb wb g1 g2 rb db))::(HT++(HW++(H1++(H2++(HR++((db,.obj (mapO (Value.int .i64) ((E).map Dye.ent) cl))::(HM.flatten++H))))))):=by simp only [List.cons_append,List.append_assoc,List.nil_append]
 rw [e0]
 obtain ⟨E2,hE2,hp2⟩:=dy_put E cl ((z:Nat):Int) h
 obtain ⟨cl2,hcl2⟩:∃ cl2,cl2=mClk (E.map Dye.ent) cl ((z:Nat):Int):=⟨_,rfl⟩
 have hok2:=hok.put ((z:Nat):Int) (.agg (List.toArray (hdC h)))
 rw [hE2,← hcl2] at hok2
 refine L_enter (l:=[.pointer (some ⟨lb,0,none⟩),.int .i64 (i:Int),.agg (List.toArray (hdC h))]) Tryz.func62 rfl Tryz.ntmps62 rfl rfl ?_
 refine W_sr ?_
 refine W_box (l:=hdC h) rfl rfl rfl (fun b5=>?_)
 refine W_nil (W_sr (W_move rfl rfl ?_))
 refine W_bin rfl rfl (b_mul (m:=((16*i:Nat):Int)) (by rw [i64w (by omega)]; omega)) rfl ?_
 refine W_fieldAddr rfl fld40_0 zd rfl ?_
 refine W_load (v:=.int .i64 h.slot) rfl ty3 rfl (Cell.own (b:=b5) zM rfl) rfl ?_
 refine W_bin rfl rfl (b_add (m:=((z:Nat):Int)) (by rw [hsl,i64w (by omega)]; omega)) rfl ?_
 refine W_assign rfl rfl (W_nil (W_sr (W_move rfl rfl (W_nilCheck rfl rfl (W_fieldAddr rfl fld134_2 zd rfl ?_)))))
 refine W_load (v:=.pointer (some ⟨tb,0,none⟩)) rfl ty55 rfl (Cell.own (b:=lb) zM (lf_tl (j:=0) hM.m4)) rfl ?_
 refine W_move rfl rfl ?_
 refine W_buildSlice (l:=[.int .i64 ((z:Nat):Int)]) ty63 ty3 (.cons rfl rfl rfl rfl rfl .nil) rfl rfl rfl rfl rfl rfl rfl (fun b17=>?_)
 refine W_call (.cons rfl (.cons rfl .nil)) Tryz.call150 rfl ((Shut_L hT hO (ids:=[((z:Nat):Int)]) (ad:=some ⟨b17,0,none⟩) (cap:=1) (by show 1≤1000000; decide) (Holds.own (b:=b17) zM) (H:=(b17,.cells 3 1 [.int .i64 ((z:Nat):Int)])::(b5,.cells 40 2 (hdC h))::(lb,.cells 134 15 (lfRow F.n M tb wb g1 g2 rb db))::(HW++(H1++(H2++(HR++((db,.obj (mapO (Value.int .i64) ((E).map Dye.ent) cl))::(HM.flatten++H)))))))).hsub zH) ?_
 rintro v H' ⟨HT2,hT2,hO2,rfl,rfl⟩
 refine W_nil (W_sr (W_move rfl rfl (W_nilCheck rfl rfl (W_fieldAddr rfl fld134_3 zd rfl ?_))))
 refine W_load (v:=.pointer (some ⟨wb,0,none⟩)) rfl ty67 rfl (Cell.own (b:=lb) zM (lf_tl (j:=1) hM.m4)) rfl ?_
 refine W_move rfl rfl ?_
 refine W_buildSlice (l:=[.int .i64 ((z:Nat):Int)]) ty63 ty3 (.cons rfl rfl rfl rfl rfl .nil) rfl rfl rfl rfl rfl rfl rfl (fun b24=>?_)
 refine W_call (.cons rfl (.cons rfl .nil)) Tryz.call151 rfl ((hW.shut (z:=z) zO (fun HZ=>Holds.own (b:=b24) (List.mem_append_right _ List.mem_cons_self)) (cap:=1) (H:=(b24,.cells 3 1 [.int .i64 ((z:Nat):Int)])::(b5,.cells 40 2 (hdC h))::(lb,.cells 134 15 (lfRow F.n M tb wb g1 g2 rb db))::(HT2++(H1++(H2++(HR++((db,.obj (mapO (Value.int .i64) ((E).map Dye.ent) cl))::(HM.flatten++H)))))))).hsub zH) ?_
 rintro v H' ⟨HW2,hW2,⟨m2,rfl⟩,rfl⟩
 refine W_nil (W_seq ?_)
 refine W_anyC [(b5,.cells 40 2 (hdC h)),(lb,.cells 134 15 (lfRow F.n M tb wb g1 g2 rb db))] zk ?_
 refine WC_take 0 rfl zK zK zK rfl rfl (X_move rfl) rfl ?_
 refine WC_take 1 rfl zK zK zK rfl rfl (X_nilCheck rfl) rfl ?_
 refine WC_take 2 rfl zK zK zK rfl rfl (X_fieldAddr rfl fld134_7 zd) rfl ?_
 refine WC_take 3 rfl zK zK zK rfl rfl (X_load (v:=.map (some db)) rfl ty132 rfl (Cell.own (b:=lb) zM (lf_tl (j:=5) hM.m4))) rfl ?_
 refine WC_take 4 rfl zK zK zK rfl rfl (X_move rfl) rfl ?_
 refine WC_take 5 rfl zK zK zK rfl rfl (X_loadB (vs:=hdC h) rfl ty40 rfl (b:=b5) zM rfl rfl) rfl ?_
 refine WC_one 6 zH zK rfl rfl ?_
 refine W_mapUpdate (a:=((z:Nat):Int)) (v:=.agg (List.toArray (hdC h))) (l:=E.map Dye.ent) (cl:=cl) (kf:=(Value.int .i64)) (b:=db) rfl rfl rfl kkI ty132 hok zU ?_
 refine W_nil ?_
 refine WC_goal ?_
 refine WC_done zH zK ?_
 rw [hE2,← hcl2]
 refine W_anyC [(lb,.cells 134 15 (lfRow F.n M tb wb g1 g2 rb db))] zk ?_
 refine WC_take 0 rfl zK zK zK rfl rfl (X_move rfl) rfl ?_
 refine WC_take 1 rfl zK zK zK rfl rfl (X_nilCheck rfl) rfl ?_
 refine WC_take 2 rfl zK zK zK rfl rfl (X_fieldAddr rfl fld134_4 zd) rfl ?_
 refine WC_take 3 rfl zK zK zK rfl rfl (X_load (v:=.pointer (some ⟨g1,0,none⟩)) rfl ty33 rfl (Cell.own (b:=lb) zM (lf_tl (j:=2) hM.m4))) rfl ?_
 refine WC_take 4 rfl zK zK zK rfl rfl (X_move rfl) rfl ?_
 refine WC_take 5 rfl zK zK zK rfl rfl (X_move rfl) rfl ?_
 refine WC_take 6 rfl zK zK zK rfl rfl (X_nilCheck rfl) rfl ?_
 refine WC_take 7 rfl zK zK zK rfl rfl (X_fieldAddr rfl fld134_0 zd) rfl ?_
 refine WC_take 8 rfl zK zK zK rfl rfl (X_load (v:=.int .i64 ((F.n:Nat):Int)) rfl ty3 rfl (Cell.own (b:=lb) zM rfl)) rfl ?_
 refine WC_take 9 rfl zK zK zK rfl rfl (X_bin rfl rfl (b_rem (by have:=o1.n; omega) (m:=((z%F.n:Nat):Int)) (tmNA z F.n))) rfl ?_
 refine WC_take 10 rfl zK zK zK rfl rfl (X_move rfl) rfl ?_
 refine WC_one 11 zH zK rfl rfl ?_
 refine W_buildSlice (l:=[.int .i64 ((z:Nat):Int)]) ty63 ty3 (.cons rfl rfl rfl rfl rfl .nil) rfl rfl rfl rfl rfl rfl rfl (fun b43=>?_)
 refine W_nil ?_
 refine WC_goal ?_
 refine WC_one 12 zH zK rfl rfl ?_
 refine W_call (.cons rfl (.cons rfl (.cons rfl .nil))) Tryz.call70 rfl ((h1.call o1 (z:=z) (fun HZ=>Holds.own (b:=b43) (List.mem_append_right _ List.mem_cons_self)) (cap:=1) (H:=(b43,.cells 3 1 [.int .i64 ((z:Nat):Int)])::(b5,.cells 40 2 (hdC h))::(lb,.cells 134 15 (lfRow F.n M tb wb g1 g2 rb db))::(HT2++(HW2++(H2++(HR++((db,.obj (mapO (Value.int .i64) ((E2).map Dye.ent) cl2))::(HM.flatten++H)))))))).hsub zH) ?_
 rintro v H' ⟨H12,h12,⟨m3,rfl⟩,rfl⟩
 refine W_nil ?_
 refine WC_goal ?_
 refine WC_done zH zK ?_
 refine W_end0m (H2:=(lb,.cells 134 15 (lfRow F.n M tb wb g1 g2 rb db))::(HT2++(HW2++(H12++(H2++(HR++((db,.obj (mapO (Value.int .i64) ((E2).map Dye.ent) cl2))::(HM.flatten++H)))))))) Tryz.results62 (.nil _) zH ?_
 have eF:dieF F z h={ F with Ws:=(shutsA F.Ws F.Qt F.At [(z:Int)]).1,Qt:=(shutsA F.Ws F.Qt F.At [(z:Int)]).2.1,At:=(shutsA F.Ws F.Qt F.At [(z:Int)]).2.2.1,Qw:=delQ F.Qw (z:Int),Aw:=F.Aw.set z { ofW F.Aw (z:Int) with shut:=true },dy:=dyPut F.dy (z:Int) h,tr:=callG F.tr F.n z }:=by unfold dieF; rfl
 rw [eF]
 exact ⟨(lb,.cells 134 15 (lfRow F.n M tb wb g1 g2 rb db))::(HT2++(HW2++(H12++(H2++(HR++([(db,.obj (mapO (Value.int .i64) ((E2).map Dye.ent) cl2))]++HM.flatten)))))),.mk (F:={ F with Ws:=(shutsA F.Ws F.Qt F.At [(z:Int)]).1,Qt:=(shutsA F.Ws F.Qt F.At [(z:Int)]).2.1,At:=(shutsA F.Ws F.Qt F.At [(z:Int)]).2.2.1,Qw:=delQ F.Qw (z:Int),Aw:=F.Aw.set z { ofW F.Aw (z:Int) with shut:=true },dy:=dyPut F.dy (z:Int) h,tr:=callG F.tr F.n z }) hT2 hO2 hW2 h12 (o1.call _) h2 o2 hR hU (.mk hok2 (by rw [hp2,hdy])) hM,rfl,by simp only [List.cons_append,List.append_assoc,List.nil_append]⟩
end Go.Proofs.YtincjohoncljoaaGreatDoor
namespace Go.Proofs.YtincjohoncljoaaGreatDoor
open Go Go.Sl
attribute [local irreducible] W
def mapF (F:Lf) (m:Int):Option (Xm × Bool):=if 0≤m∧m<4 then (F.ms[m.toNat]?).getD none else none
theorem mapF_at {F:Lf} {i:Nat} {y:Option (Xm × Bool)} (hi:i<4) (h:F.ms[i]?=some y):mapF F (i:Int)=y:=by
 unfold mapF; rw [if_pos (by omega),Int.toNat_natCast,h]; rfl
theorem MsOk.ways {T:Nat} {F:Lf} {M:List (Option Nat × Bool)} {HM:List Heap} (h:MsOk T M F.ms HM) (m:Int):(mapF F m=none∧mptV M m=.pointer none)∨∃ (i mb:Nat) (x:Xm) (b:Bool) (X:Heap),m=(i:Int)∧i<4∧M[i]?=some (some mb,b)∧F.ms[i]?=some (some (x,b))∧HM[i]?=some X∧XmH mb T x X∧mapF F m=some (x,b)∧mptV M m=.pointer (some ⟨mb,0,none⟩):=by
 have hm4:=h.m4; have hs4:=h.s4; have hh4:=h.h4
 by_cases hr:0≤m∧m<4
 ·obtain ⟨i,rfl⟩:∃ i:Nat,m=(i:Int):=⟨m.toNat,by omega⟩
  have hi:i<4:=by omega
  obtain ⟨c,e1⟩:∃ c,M[i]?=some c:=⟨_,List.getElem?_eq_getElem zO⟩
  obtain ⟨y,e2⟩:∃ y,F.ms[i]?=some y:=⟨_,List.getElem?_eq_getElem zO⟩
  obtain ⟨X,e3⟩:∃ X,HM[i]?=some X:=⟨_,List.getElem?_eq_getElem zO⟩
  have h5:=h.at_ i c y X e1 e2 e3
  cases h5 with
  | none=>exact .inl ⟨mapF_at hi e2,by rw [mptV_at hi e1]; rfl⟩
  | @some mb x b X hx=>exact .inr ⟨i,mb,x,b,X,rfl,hi,e1,e2,e3,hx,mapF_at hi e2,by rw [mptV_at hi e1]; rfl⟩
 ·exact .inl ⟨if_neg hr,mptV_out hr⟩
def numF (F:Lf) (m:Int) (h:Hd):Int × Int:=match mapF F m with
 | none=>(0,4)
 | some (x,_)=>if (x.key h).2=0 then (16*m+h.slot,0) else (0,(x.key h).2)
theorem errA_rng {L:List Slt} {h:Hd} (he:errA L h=0):0≤h.slot∧h.slot<(L.length:Int):=by
 unfold errA at he
 by_cases c:h.slot<0∨(L.length:Int)≤h.slot
 ·rw [if_pos c] at he; cases he
 ·omega
theorem Xm.Ok.len16 {x:Xm} (h:x.Ok):x.L.length≤16:=by rw [h.len]; have:=h.ent; omega
theorem lnum1_L {w0:World} {H:Heap} {mb b5 b4 b8 T i:Nat} {h:Hd} {x:Xm} {X:Heap} (hi4:i<4) (hX:XmH mb T x X) (hs:∀ p∈X,p∈H) :LCalls Tryz.prog w0 65 #[.pointer (some ⟨mb,0,none⟩),.pointer (some ⟨b5,0,none⟩),.pointer (some ⟨b4,0,none⟩),.pointer (some ⟨b8,0,none⟩)] ((b5,.cells 40 2 (hdC h))::(b4,.cells 3 1 [.int .i64 (i:Int)])::(b8,.cells 3 1 [.int .i64 0])::H) (fun v H'=>v=.int .i64 (x.key h).2∧H'=(b5,.cells 40 2 (hdC h))::(b4,.cells 3 1 [.int .i64 (i:Int)])::(b8,.cells 3 1 [.int .i64 (if (x.key h).2=0 then 16*(i:Int)+h.slot else 0)])::H):=by
 refine L_enter (l:=[.pointer (some ⟨mb,0,none⟩),.pointer (some ⟨b5,0,none⟩),.pointer (some ⟨b4,0,none⟩),.pointer (some ⟨b8,0,none⟩)]) Tryz.func65 rfl Tryz.ntmps65 rfl rfl ?_
 refine W_sr (W_assign rfl rfl (W_nil (W_sr (W_move rfl rfl (W_loadB (vs:=hdC h) rfl ty40 rfl (b:=b5) zM rfl rfl rfl ?_)))))
 refine W_callq (.cons rfl (.cons rfl .nil)) Tryz.call66 rfl (hX.key (fun p hp=>List.mem_cons_of_mem _ (List.mem_cons_of_mem _ (List.mem_cons_of_mem _ (hs p hp)))) (h:=h)) ?_
 refine W_move rfl rfl (W_extract rfl rfl rfl (W_extract rfl rfl rfl (W_assign rfl rfl (W_assign rfl rfl (W_nil (W_seq (W_sr (W_move rfl rfl (W_bin rfl rfl b_eql rfl ?_)))))))))
 refine W_nil ?_
 refine W_condPS (p:=(x.key h).2=0) rfl (by simp) (fun q0=>?_) (fun q0=>?_)
 ·skip
  refine W_region (W_load (v:=.int .i64 (i:Int)) rfl ty3 rfl (Cell.own (b:=b4) zM rfl) rfl ?_)
  refine W_bin rfl rfl (b_mul (m:=16*(i:Int)) (by rw [i64w (by omega)]; omega)) rfl ?_
  refine W_fieldAddr rfl fld40_0 zd rfl ?_
  have hsl:=errA_rng (L:=x.L) (h:=h) q0
  have hl16:=hX.ok.len16
  refine W_load (v:=.int .i64 h.slot) rfl ty3 rfl (Cell.own (b:=b5) zM rfl) rfl ?_
  refine W_bin rfl rfl (b_add (m:=16*(i:Int)+h.slot) (i64w zO)) rfl ?_
  refine W_store (l':=[.int .i64 (16*(i:Int)+h.slot)]) rfl rfl ty3 rfl rfl (b:=b8) zM rfl rfl zU ?_
  refine W_nil (W_sr (W_move rfl rfl (W_assign rfl rfl (W_nil (W_ret1m (H2:=(b5,.cells 40 2 (hdC h))::(b4,.cells 3 1 [.int .i64 (i:Int)])::(b8,.cells 3 1 [.int .i64 (16*(i:Int)+h.slot)])::H) Tryz.results65 rfl (.nil _) zH ?_)))))
  rw [if_pos q0]
  exact ⟨rfl,rfl⟩
 ·skip
  refine W_skip (W_sr (W_move rfl rfl (W_assign rfl rfl (W_nil (W_ret1m (H2:=(b5,.cells 40 2 (hdC h))::(b4,.cells 3 1 [.int .i64 (i:Int)])::(b8,.cells 3 1 [.int .i64 0])::H) Tryz.results65 rfl (.nil _) zH ?_)))))
  rw [if_neg q0]
  exact ⟨rfl,rfl⟩
theorem memF {a:Nat × Blk} {X1 X2 X3 X4 X5 X6:Heap} {HM:List Heap} {i:Nat} {X H:Heap} (hX0:HM[i]?=some X) (hs:∀ p∈a::(X1++(X2++(X3++(X4++(X5++(X6++HM.flatten)))))),p∈H):∀ p∈X,p∈H:=fun p hp=>hs p (List.mem_cons_of_mem _ (List.mem_append_right _ (List.mem_append_right _ (List.mem_append_right _ (List.mem_append_right _ (List.mem_append_right _ (List.mem_append_right _ (memFlatten hX0 hp))))))))
theorem LifeH.number {w0:World} {H:Heap} {HF:Heap} {lb T:Nat} {F:Lf} (hF:LifeH lb T F HF) (hs:∀ p∈HF,p∈H) {m:Int} {h:Hd} :PureAt Tryz.prog w0 H 16 [.pointer (some ⟨lb,0,none⟩),.int .i64 m,.agg (List.toArray (hdC h))] (.tuple #[.int .i64 (numF F m h).1,.int .i64 (numF F m h).2]):=by
 cases hF with
 | @mk tb wb g1 g2 rb db M HT HW H1 H2 HR HD HM hT hO hW h1 o1 h2 o2 hR hU hD hM =>
 have hm:=hs _ List.mem_cons_self
 refine L_enter Tryz.func16 rfl Tryz.ntmps16 rfl rfl ?_
 refine W_sr ?_
 refine W_box (l:=[.int .i64 m]) rfl rfl rfl (fun b4=>?_)
 refine W_box (l:=hdC h) rfl rfl rfl (fun b5=>?_)
 refine W_assign rfl rfl (W_assign rfl rfl (W_nil (W_sr ?_)))
 refine W_alloc (l:=[.int .i64 0]) ty3 rfl rfl (fun b8=>?_)
 refine W_store (l':=[.int .i64 0]) rfl rfl ty3 rfl rfl (b:=b8) zM rfl rfl zU ?_
 refine W_nil (W_sr (W_move rfl rfl (W_load (v:=.int .i64 m) rfl ty3 rfl (Cell.own (b:=b4) zM rfl) rfl ?_)))
 refine W_makeFunc .nil (.cons rfl (.cons rfl (.cons rfl .nil))) rfl ?_
 rcases hM.ways (F:=F) m with ⟨hmf,hmp⟩ | ⟨i,mb,x,b,X,rfl,hi4,hmc,hms,hX0,hX,hmf,hmp⟩
 ·skip
  refine W_callq (.cons rfl (.cons rfl (.cons rfl .nil))) Tryz.call59 rfl (lwith_no (n:=F.n) (lb:=lb) (tb:=tb) (wb:=wb) (g1:=g1) (g2:=g2) (rb:=rb) (db:=db) (M:=M) (by repeat (first | exact hm | exact List.mem_cons_self | apply List.mem_cons_of_mem | apply List.mem_append_right)) hM.m4 hmp) ?_
  refine W_assign rfl rfl (W_nil (W_sr (W_load (v:=.int .i64 0) rfl ty3 rfl (Cell.own (b:=b8) zM rfl) rfl ?_)))
  refine W_move rfl rfl (W_assign rfl rfl (W_assign rfl rfl (W_nil (W_ret2m (H2:=H) Tryz.results16 rfl rfl (.nil _) zH ?_))))
  have e:numF F m h=(0,4):=by unfold numF; rw [hmf]
  rw [e]
  exact ⟨rfl,rfl⟩
 ·skip
  refine W_hsub (H':=(b5,.cells 40 2 (hdC h))::(b4,.cells 3 1 [.int .i64 (i:Int)])::(b8,.cells 3 1 [.int .i64 0])::H) zH ?_
  refine W_call (.cons rfl (.cons rfl (.cons rfl .nil))) Tryz.call59 rfl (lwith_in (n:=F.n) (lb:=lb) (tb:=tb) (wb:=wb) (g1:=g1) (g2:=g2) (rb:=rb) (db:=db) (M:=M) (fi:=65) (ca:=[.pointer (some ⟨b5,0,none⟩),.pointer (some ⟨b4,0,none⟩),.pointer (some ⟨b8,0,none⟩)]) (by repeat (first | exact hm | exact List.mem_cons_self | apply List.mem_cons_of_mem | apply List.mem_append_right)) hM.m4 Tryz.call65 hmp (lnum1_L (b5:=b5) (b4:=b4) (b8:=b8) (h:=h) (i:=i) hi4 hX (memF hX0 hs)) (by rintro v H2 ⟨e,_⟩; exact ⟨_,e⟩)) ?_
  rintro v H' ⟨rfl,rfl⟩
  refine W_assign rfl rfl (W_nil (W_sr (W_load (v:=.int .i64 (if (x.key h).2=0 then 16*(i:Int)+h.slot else 0)) rfl ty3 rfl (Cell.own (b:=b8) zM rfl) rfl ?_)))
  refine W_move rfl rfl (W_assign rfl rfl (W_assign rfl rfl (W_nil (W_ret2m (H2:=H) Tryz.results16 rfl rfl (.nil _) zH ?_))))
  have e:numF F (i:Int) h=(if (x.key h).2=0 then 16*(i:Int)+h.slot else 0,(x.key h).2):=by
   unfold numF; rw [hmf]; dsimp only; split
   ·rename_i q; rw [q]
   ·rfl
  rw [e]
  exact ⟨rfl,rfl⟩
def dropX (F:Lf) (i:Nat) (x:Xm) (b:Bool) (k:Int):Lf × Int:=if (x.del k).2.2=0 then (dieF { F with ms:=F.ms.set i (some ((x.del k).1,b)) } (16*i+(x.del k).2.1.slot.toNat) (x.del k).2.1,0) else ({ F with ms:=F.ms.set i (some ((x.del k).1,b)) },(x.del k).2.2)
def dropF (F:Lf) (m k:Int):Lf × Int:=match mapF F m with
 | none=>(F,4)
 | some (x,b)=>dropX F m.toNat x b k
theorem own_slot {x:Xm} (h:x.Ok) {k:Int} {g:Hd} (hf:fndC x.C k=some g):g.slot=((g.slot.toNat:Nat):Int)∧g.slot.toNat<16:=by
 obtain ⟨i,s,e1,e2,_⟩:=h.own hf
 have:=(List.getElem?_eq_some_iff.1 e2).1
 have:=h.len16
 omega
theorem del_slot {x:Xm} (h:x.Ok) {k:Int} (he:(x.del k).2.2=0):(x.del k).2.1.slot=(((x.del k).2.1.slot.toNat:Nat):Int)∧(x.del k).2.1.slot.toNat<16:=by
 unfold Xm.del at he ⊢
 by_cases c:x.kind=0
 ·rw [if_pos c] at he; cases he
 ·rw [if_neg c] at he ⊢
  cases hf:fndC x.C k with
  | none=>rw [hf] at he; cases he
  | some g =>
   show (x.unlink k).2.slot=_∧(x.unlink k).2.slot.toNat<16
   rw [show (x.unlink k).2=g by unfold Xm.unlink; rw [hf]; rfl]
   exact own_slot h hf
theorem put_slot {x:Xm} (h:x.Ok) {how k:Int} {ws:List Int} (ho:(x.put how k ws).2.1.out=true):(x.put how k ws).2.1.gone.slot=(((x.put how k ws).2.1.gone.slot.toNat:Nat):Int)∧(x.put how k ws).2.1.gone.slot.toNat<16:=by
 unfold Xm.put at ho ⊢
 by_cases c1:(how<0∨2<how)∨x.words<ws.length
 ·rw [if_pos c1] at ho; cases ho
 ·rw [if_neg c1] at ho ⊢
  by_cases c2:x.closed=true
  ·rw [if_pos c2] at ho; cases ho
  ·rw [if_neg c2] at ho ⊢
   cases hf:fndC x.C k with
   | some g =>
    rw [hf] at ho; dsimp only at ho
    by_cases c3:how=1
    ·rw [if_pos c3] at ho; cases ho
    ·rw [if_neg c3] at ho; cases ho
   | none =>
    rw [hf] at ho; dsimp only at ho ⊢
    by_cases c3:x.refE how≠0
    ·rw [if_pos c3] at ho; cases ho
    ·rw [if_neg c3] at ho ⊢
     by_cases c4:x.C.length=x.entries
     ·rw [if_pos c4]
      dsimp only
      have hk:=h.umem.1 (h.oldest c4)
      obtain ⟨g,hg⟩:∃ g,fndC x.C (x.used.headD 0)=some g:=by
       cases hz:fndC x.C (x.used.headD 0) with
       | some g=>exact ⟨g,rfl⟩
       | none =>
        exfalso
        obtain ⟨p,hp,e⟩:=List.mem_map.1 hk
        unfold fndC at hz
        rw [Option.map_eq_none_iff,List.find?_eq_none] at hz
        exact hz p hp (by first | exact decide_eq_true e | exact decide_eq_true e.symm | simp [e])
      rw [show (x.unlink (x.used.headD 0)).2=g by unfold Xm.unlink; rw [hg]; rfl]
      exact own_slot h hg
     ·rw [if_neg c4] at ho; cases ho
theorem ldrop1_L {w0:World} {H:Heap} {lb T tb wb g1 g2 rb db i mb:Nat} {F:Lf} {M:List (Option Nat × Bool)} {HT HW H1 H2 HR HD:Heap} {HM:List Heap} (hT:TimerH tb F.n F.Ws F.Qt F.Rt F.At HT) (hO:TOk T F.Ws F.At) (hW:WorkH wb F.n F.Qw F.Rw F.Aw F.on HW) (h1:GrH g1 F.n F.tr H1) (o1:GrOk F.n F.tr) (h2:GrH g2 F.n F.cl H2) (o2:GrOk F.n F.cl) (hR:RefH rb 8 F.us HR) (hU:UsOk F.us) (hD:DyH db F.dy HD) (hM:MsOk T M F.ms HM) {x:Xm} {b:Bool} {X:Heap} (hi4:i<4) (hmc:M[i]?=some (some mb,b)) (hX0:HM[i]?=some X) (hX:XmH mb T x X) {k:Int} {b3 b4 b5:Nat} :LCalls Tryz.prog w0 67 #[.pointer (some ⟨mb,0,none⟩),.pointer (some ⟨b5,0,none⟩),.pointer (some ⟨b3,0,none⟩),.pointer (some ⟨b4,0,none⟩)] ((b5,.cells 30 1 [.int .u64 k])::(b3,.cells 23 1 [.pointer (some ⟨lb,0,none⟩)])::(b4,.cells 3 1 [.int .i64 (i:Int)])::(lb,.cells 134 15 (lfRow F.n M tb wb g1 g2 rb db))::(HT++(HW++(H1++(H2++(HR++(HD++(HM.flatten++H)))))))) (fun v H'=>∃ HF',LifeH lb T (dropX F i x b k).1 HF'∧v=.int .i64 (dropX F i x b k).2∧H'=(b5,.cells 30 1 [.int .u64 k])::(b3,.cells 23 1 [.pointer (some ⟨lb,0,none⟩)])::(b4,.cells 3 1 [.int .i64 (i:Int)])::(HF'++H)):=by
 refine L_enter (l:=[.pointer (some ⟨mb,0,none⟩),.pointer (some ⟨b5,0,none⟩),.pointer (some ⟨b3,0,none⟩),.pointer (some ⟨b4,0,none⟩)]) Tryz.func67 rfl Tryz.ntmps67 rfl rfl ?_
 refine W_sr (W_assign rfl rfl (W_nil (W_sr (W_move rfl rfl (W_load (v:=.int .u64 k) rfl ty30 rfl (Cell.own (b:=b5) zM rfl) rfl ?_)))))
 refine W_hsub (H':=X++((b5,.cells 30 1 [.int .u64 k])::(b3,.cells 23 1 [.pointer (some ⟨lb,0,none⟩)])::(b4,.cells 3 1 [.int .i64 (i:Int)])::(lb,.cells 134 15 (lfRow F.n M tb wb g1 g2 rb db))::(HT++(HW++(H1++(H2++(HR++(HD++((HM.set i []).flatten++H))))))))) ((show HSub _ ((b5,.cells 30 1 [.int .u64 k])::(b3,.cells 23 1 [.pointer (some ⟨lb,0,none⟩)])::(b4,.cells 3 1 [.int .i64 (i:Int)])::(lb,.cells 134 15 (lfRow F.n M tb wb g1 g2 rb db))::(HT++(HW++(H1++(H2++(HR++(HD++(X++((HM.set i []).flatten++H))))))))) from .cons (.here _) (.cons (.here _) (.cons (.here _) (.cons (.here _) (.app (.here _) (.app (.here _) (.app (.here _) (.app (.here _) (.app (.here _) (.app (.here _) (flattenOut hX0))))))))))).trans zH) ?_
 refine W_call (.cons rfl (.cons rfl .nil)) Tryz.call68 rfl (hX.del (k:=k) (H:=(b5,.cells 30 1 [.int .u64 k])::(b3,.cells 23 1 [.pointer (some ⟨lb,0,none⟩)])::(b4,.cells 3 1 [.int .i64 (i:Int)])::(lb,.cells 134 15 (lfRow F.n M tb wb g1 g2 rb db))::(HT++(HW++(H1++(H2++(HR++(HD++((HM.set i []).flatten++H))))))))) ?_
 rintro v H' ⟨X2,hX2,rfl,rfl⟩
 refine W_hsub (H':=(b5,.cells 30 1 [.int .u64 k])::(b3,.cells 23 1 [.pointer (some ⟨lb,0,none⟩)])::(b4,.cells 3 1 [.int .i64 (i:Int)])::(lb,.cells 134 15 (lfRow F.n M tb wb g1 g2 rb db))::(HT++(HW++(H1++(H2++(HR++(HD++((HM.set i X2).flatten++H)))))))) ((show HSub _ ((b5,.cells 30 1 [.int .u64 k])::(b3,.cells 23 1 [.pointer (some ⟨lb,0,none⟩)])::(b4,.cells 3 1 [.int .i64 (i:Int)])::(lb,.cells 134 15 (lfRow F.n M tb wb g1 g2 rb db))::(HT++(HW++(H1++(H2++(HR++(HD++(X2++((HM.set i []).flatten++H))))))))) from zH).trans (.cons (.here _) (.cons (.here _) (.cons (.here _) (.cons (.here _) (.app (.here _) (.app (.here _) (.app (.here _) (.app (.here _) (.app (.here _) (.app (.here _) (flattenIn (by rw [hM.h4]; exact hi4))))))))))))) ?_
 have hM2:=(hM.up (Nat.le_refl T)).set (k:=i) (.some (b:=b) hX2)
 rw [show M.set i (some mb,b)=M from set_same hmc] at hM2
 have hF2:LifeH lb _ { F with ms:=F.ms.set i (some ((x.del k).1,b)) } ((lb,.cells 134 15 (lfRow F.n M tb wb g1 g2 rb db))::(HT++(HW++(H1++(H2++(HR++(HD++(HM.set i X2).flatten))))))):=.mk (F:={ F with ms:=F.ms.set i (some ((x.del k).1,b)) }) hT (hO.up (Nat.le_refl T)) hW h1 o1 h2 o2 hR hU hD hM2
 refine W_move rfl rfl (W_extract rfl rfl rfl (W_extract rfl rfl rfl ?_))
 refine W_alloc (l:=hdC zHd) ty40 rfl rfl (fun b6=>?_)
 refine W_storeA (l':=hdC (x.del k).2.1) rfl rfl ty40 rfl rfl (b:=b6) zM (by exact Nat.le_refl 2) rfl zU ?_
 refine W_assign rfl rfl (W_nil (W_seq (W_sr (W_move rfl rfl (W_bin rfl rfl b_eql rfl ?_)))))
 refine W_nil ?_
 refine W_condPS (p:=(x.del k).2.2=0) rfl (by simp) (fun q0=>?_) (fun q0=>?_)
 ·skip
  refine W_region (W_load (v:=.pointer (some ⟨lb,0,none⟩)) rfl ty23 rfl (Cell.own (b:=b3) zM rfl) rfl ?_)
  refine W_load (v:=.int .i64 (i:Int)) rfl ty3 rfl (Cell.own (b:=b4) zM rfl) rfl ?_
  refine W_loadB (vs:=hdC (x.del k).2.1) rfl ty40 rfl (b:=b6) zM rfl rfl rfl ?_
  have hsl:=del_slot hX.ok q0
  refine W_hsub (H':=((lb,.cells 134 15 (lfRow F.n M tb wb g1 g2 rb db))::(HT++(HW++(H1++(H2++(HR++(HD++(HM.set i X2).flatten)))))))++((b6,.cells 40 2 (hdC (x.del k).2.1))::(b5,.cells 30 1 [.int .u64 k])::(b3,.cells 23 1 [.pointer (some ⟨lb,0,none⟩)])::(b4,.cells 3 1 [.int .i64 (i:Int)])::H)) (by simp only [List.cons_append,List.append_assoc]; first | exact hsubI | (repeat (first | with_reducible exact HSub.refl _ | refine HSub.cons zT ?_ | refine HSub.app zS ?_ | exact HSub.nil _ | exact HSub.refl _ | refine HSub.drop ?_ | refine HSub.dropS ?_))) ?_
  refine W_call (.cons rfl (.cons rfl (.cons rfl .nil))) Tryz.call62 rfl (hF2.die (i:=i) (s:=(x.del k).2.1.slot.toNat) (h:=(x.del k).2.1) hi4 hsl.2 hsl.1 rfl (H:=(b6,.cells 40 2 (hdC (x.del k).2.1))::(b5,.cells 30 1 [.int .u64 k])::(b3,.cells 23 1 [.pointer (some ⟨lb,0,none⟩)])::(b4,.cells 3 1 [.int .i64 (i:Int)])::H)) ?_
  rintro v H' ⟨HF3,hF3,rfl,rfl⟩
  refine W_nil (W_sr (W_move rfl rfl (W_assign rfl rfl (W_nil (W_ret1m (H2:=(b5,.cells 30 1 [.int .u64 k])::(b3,.cells 23 1 [.pointer (some ⟨lb,0,none⟩)])::(b4,.cells 3 1 [.int .i64 (i:Int)])::(HF3++H)) Tryz.results67 rfl (.nil _) zH ?_)))))
  have e:dropX F i x b k=(dieF { F with ms:=F.ms.set i (some ((x.del k).1,b)) } (16*i+(x.del k).2.1.slot.toNat) (x.del k).2.1,0):=if_pos q0
  rw [e,q0]
  exact ⟨HF3,hF3,rfl,rfl⟩
 ·skip
  refine W_skip (W_sr (W_move rfl rfl (W_assign rfl rfl (W_nil (W_ret1m (H2:=(b5,.cells 30 1 [.int .u64 k])::(b3,.cells 23 1 [.pointer (some ⟨lb,0,none⟩)])::(b4,.cells 3 1 [.int .i64 (i:Int)])::(lb,.cells 134 15 (lfRow F.n M tb wb g1 g2 rb db))::(HT++(HW++(H1++(H2++(HR++(HD++((HM.set i X2).flatten++H)))))))) Tryz.results67 rfl (.nil _) zH ?_)))))
  have e:dropX F i x b k=({ F with ms:=F.ms.set i (some ((x.del k).1,b)) },(x.del k).2.2):=if_neg q0
  rw [e]
  exact ⟨_,hF2,rfl,by simp only [List.cons_append,List.append_assoc]⟩
theorem LifeH.drop {w0:World} {H:Heap} {HF:Heap} {lb T:Nat} {F:Lf} (hF:LifeH lb T F HF) {m k:Int} :LCalls Tryz.prog w0 17 #[.pointer (some ⟨lb,0,none⟩),.int .i64 m,.int .u64 k] (HF++H) (fun v H'=>∃ HF',LifeH lb T (dropF F m k).1 HF'∧v=.int .i64 (dropF F m k).2∧H'=HF'++H):=by
 cases hF with
 | @mk tb wb g1 g2 rb db M HT HW H1 H2 HR HD HM hT hO hW h1 o1 h2 o2 hR hU hD hM =>
 have e0:((lb,.cells 134 15 (lfRow F.n M tb wb g1 g2 rb db))::(HT++(HW++(H1++(H2++(HR++(HD++HM.flatten)))))))++H=(lb,.cells 134 15 (lfRow F.n M tb wb g1 g2 rb db))::(HT++(HW++(H1++(H2++(HR++(HD++(HM.flatten++H))))))):=by simp only [List.cons_append,List.append_assoc]
 rw [e0]
 refine L_enter (l:=[.pointer (some ⟨lb,0,none⟩),.int .i64 m,.int .u64 k]) Tryz.func17 rfl Tryz.ntmps17 rfl rfl ?_
 refine W_sr ?_
 refine W_box (l:=[.pointer (some ⟨lb,0,none⟩)]) rfl rfl rfl (fun b3=>?_)
 refine W_box (l:=[.int .i64 m]) rfl rfl rfl (fun b4=>?_)
 refine W_box (l:=[.int .u64 k]) rfl rfl rfl (fun b5=>?_)
 refine W_assign rfl rfl (W_nil (W_sr (W_load (v:=.pointer (some ⟨lb,0,none⟩)) rfl ty23 rfl (Cell.own (b:=b3) zM rfl) rfl ?_)))
 refine W_load (v:=.int .i64 m) rfl ty3 rfl (Cell.own (b:=b4) zM rfl) rfl ?_
 refine W_makeFunc .nil (.cons rfl (.cons rfl (.cons rfl .nil))) rfl ?_
 rcases hM.ways (F:=F) m with ⟨hmf,hmp⟩ | ⟨i,mb,x,b,X,rfl,hi4,hmc,hms,hX0,hX,hmf,hmp⟩
 ·skip
  refine W_callq (.cons rfl (.cons rfl (.cons rfl .nil))) Tryz.call59 rfl (lwith_no (n:=F.n) (lb:=lb) (tb:=tb) (wb:=wb) (g1:=g1) (g2:=g2) (rb:=rb) (db:=db) (M:=M) zM hM.m4 hmp) ?_
  refine W_assign rfl rfl (W_nil (W_ret1m (H2:=(lb,.cells 134 15 (lfRow F.n M tb wb g1 g2 rb db))::(HT++(HW++(H1++(H2++(HR++(HD++(HM.flatten++H)))))))) Tryz.results17 rfl (.nil _) zH ?_))
  have e:dropF F m k=(F,4):=by unfold dropF; rw [hmf]
  rw [e]
  exact ⟨_,.mk hT hO hW h1 o1 h2 o2 hR hU hD hM,rfl,by simp only [List.cons_append,List.append_assoc]⟩
 ·skip
  refine W_hsub (H':=(b5,.cells 30 1 [.int .u64 k])::(b3,.cells 23 1 [.pointer (some ⟨lb,0,none⟩)])::(b4,.cells 3 1 [.int .i64 (i:Int)])::(lb,.cells 134 15 (lfRow F.n M tb wb g1 g2 rb db))::(HT++(HW++(H1++(H2++(HR++(HD++(HM.flatten++H)))))))) zH ?_
  refine W_call (.cons rfl (.cons rfl (.cons rfl .nil))) Tryz.call59 rfl (lwith_in (n:=F.n) (lb:=lb) (tb:=tb) (wb:=wb) (g1:=g1) (g2:=g2) (rb:=rb) (db:=db) (M:=M) (fi:=67) (ca:=[.pointer (some ⟨b5,0,none⟩),.pointer (some ⟨b3,0,none⟩),.pointer (some ⟨b4,0,none⟩)]) zM hM.m4 Tryz.call67 hmp (ldrop1_L (b5:=b5) (b3:=b3) (b4:=b4) (k:=k) hT hO hW h1 o1 h2 o2 hR hU hD hM hi4 hmc hX0 hX) (by rintro v H2 ⟨_,_,e,_⟩; exact ⟨_,e⟩)) ?_
  rintro v H' ⟨HF3,hF3,rfl,rfl⟩
  refine W_assign rfl rfl (W_nil (W_ret1m (H2:=HF3++H) Tryz.results17 rfl (.nil _) zH ?_))
  have e:dropF F (i:Int) k=dropX F i x b k:=by unfold dropF; rw [hmf]; dsimp only; rw [Int.toNat_natCast]
  rw [e]
  exact ⟨HF3,hF3,rfl,rfl⟩
def putX (F:Lf) (i:Nat) (x:Xm) (b:Bool) (how k:Int) (ws:List Int):Lf × Hd × Int:=(if (x.put how k ws).2.1.out=true then dieF { F with ms:=F.ms.set i (some ((x.put how k ws).1,b)) } (16*i+(x.put how k ws).2.1.gone.slot.toNat) (x.put how k ws).2.1.gone else { F with ms:=F.ms.set i (some ((x.put how k ws).1,b)) },(x.put how k ws).2.1.h,(x.put how k ws).2.2)
def putF (F:Lf) (m how k:Int) (ws:List Int):Lf × Hd × Int:=match mapF F m with
 | none=>(F,zHd,4)
 | some (x,b)=>putX F m.toNat x b how k ws
theorem lput1_L {w0:World} {H:Heap} {lb T tb wb g1 g2 rb db i mb:Nat} {F:Lf} {M:List (Option Nat × Bool)} {HT HW H1 H2 HR HD:Heap} {HM:List Heap} (hT:TimerH tb F.n F.Ws F.Qt F.Rt F.At HT) (hO:TOk T F.Ws F.At) (hW:WorkH wb F.n F.Qw F.Rw F.Aw F.on HW) (h1:GrH g1 F.n F.tr H1) (o1:GrOk F.n F.tr) (h2:GrH g2 F.n F.cl H2) (o2:GrOk F.n F.cl) (hR:RefH rb 8 F.us HR) (hU:UsOk F.us) (hD:DyH db F.dy HD) (hM:MsOk T M F.ms HM) {x:Xm} {b:Bool} {X:Heap} (hi4:i<4) (hmc:M[i]?=some (some mb,b)) (hX0:HM[i]?=some X) (hX:XmH mb T x X) {how k:Int} {ws:List Int} {adw:Option Addr} {capw:Nat} (hTab:Tab w0) (hTl:T≤1000000) (hk:0≤k∧k<18446744073709551616) (hrow:∀ HZ:Heap,Holds w0 (HZ++H) adw (ws.map (Value.int .u64))) {b5 b6 b7 b8 b9 b12:Nat} :LCalls Tryz.prog w0 60 #[.pointer (some ⟨mb,0,none⟩),.pointer (some ⟨b7,0,none⟩),.pointer (some ⟨b8,0,none⟩),.pointer (some ⟨b9,0,none⟩),.pointer (some ⟨b5,0,none⟩),.pointer (some ⟨b6,0,none⟩),.pointer (some ⟨b12,0,none⟩)] ((b7,.cells 3 1 [.int .i64 how])::(b8,.cells 30 1 [.int .u64 k])::(b9,.cells 84 1 [.slice adw ws.length capw])::(b5,.cells 23 1 [.pointer (some ⟨lb,0,none⟩)])::(b6,.cells 3 1 [.int .i64 (i:Int)])::(b12,.cells 40 2 (hdC zHd))::(lb,.cells 134 15 (lfRow F.n M tb wb g1 g2 rb db))::(HT++(HW++(H1++(H2++(HR++(HD++(HM.flatten++H)))))))) (fun v H'=>∃ HF',LifeH lb (T+2) (putX F i x b how k ws).1 HF'∧v=.int .i64 (putX F i x b how k ws).2.2∧H'=(b7,.cells 3 1 [.int .i64 how])::(b8,.cells 30 1 [.int .u64 k])::(b9,.cells 84 1 [.slice adw ws.length capw])::(b5,.cells 23 1 [.pointer (some ⟨lb,0,none⟩)])::(b6,.cells 3 1 [.int .i64 (i:Int)])::(b12,.cells 40 2 (hdC (putX F i x b how k ws).2.1))::(HF'++H)):=by
 refine L_enter (l:=[.pointer (some ⟨mb,0,none⟩),.pointer (some ⟨b7,0,none⟩),.pointer (some ⟨b8,0,none⟩),.pointer (some ⟨b9,0,none⟩),.pointer (some ⟨b5,0,none⟩),.pointer (some ⟨b6,0,none⟩),.pointer (some ⟨b12,0,none⟩)]) Tryz.func60 rfl Tryz.ntmps60 rfl rfl ?_
 refine W_sr (W_assign rfl rfl (W_nil (W_sr (W_move rfl rfl (W_load (v:=.int .i64 how) rfl ty3 rfl (Cell.own (b:=b7) zM rfl) rfl ?_)))))
 refine W_load (v:=.int .u64 k) rfl ty30 rfl (Cell.own (b:=b8) zM rfl) rfl ?_
 refine W_load (v:=.slice adw ws.length capw) rfl ty84 rfl (Cell.own (b:=b9) zM rfl) rfl ?_
 refine W_hsub (H':=X++((b7,.cells 3 1 [.int .i64 how])::(b8,.cells 30 1 [.int .u64 k])::(b9,.cells 84 1 [.slice adw ws.length capw])::(b5,.cells 23 1 [.pointer (some ⟨lb,0,none⟩)])::(b6,.cells 3 1 [.int .i64 (i:Int)])::(b12,.cells 40 2 (hdC zHd))::(lb,.cells 134 15 (lfRow F.n M tb wb g1 g2 rb db))::(HT++(HW++(H1++(H2++(HR++(HD++((HM.set i []).flatten++H))))))))) ((show HSub _ ((b7,.cells 3 1 [.int .i64 how])::(b8,.cells 30 1 [.int .u64 k])::(b9,.cells 84 1 [.slice adw ws.length capw])::(b5,.cells 23 1 [.pointer (some ⟨lb,0,none⟩)])::(b6,.cells 3 1 [.int .i64 (i:Int)])::(b12,.cells 40 2 (hdC zHd))::(lb,.cells 134 15 (lfRow F.n M tb wb g1 g2 rb db))::(HT++(HW++(H1++(H2++(HR++(HD++(X++((HM.set i []).flatten++H))))))))) from .cons (.here _) (.cons (.here _) (.cons (.here _) (.cons (.here _) (.cons (.here _) (.cons (.here _) (.cons (.here _) (.app (.here _) (.app (.here _) (.app (.here _) (.app (.here _) (.app (.here _) (.app (.here _) (flattenOut hX0)))))))))))))).trans zH) ?_
 refine W_call (.cons rfl (.cons rfl (.cons rfl (.cons rfl .nil)))) Tryz.call61 rfl (hX.put hTab hTl hk (by have:=hrow ((b7,.cells 3 1 [.int .i64 how])::(b8,.cells 30 1 [.int .u64 k])::(b9,.cells 84 1 [.slice adw ws.length capw])::(b5,.cells 23 1 [.pointer (some ⟨lb,0,none⟩)])::(b6,.cells 3 1 [.int .i64 (i:Int)])::(b12,.cells 40 2 (hdC zHd))::(lb,.cells 134 15 (lfRow F.n M tb wb g1 g2 rb db))::(HT++(HW++(H1++(H2++(HR++(HD++(HM.set i []).flatten))))))); simpa only [List.cons_append,List.append_assoc] using this) (H:=(b7,.cells 3 1 [.int .i64 how])::(b8,.cells 30 1 [.int .u64 k])::(b9,.cells 84 1 [.slice adw ws.length capw])::(b5,.cells 23 1 [.pointer (some ⟨lb,0,none⟩)])::(b6,.cells 3 1 [.int .i64 (i:Int)])::(b12,.cells 40 2 (hdC zHd))::(lb,.cells 134 15 (lfRow F.n M tb wb g1 g2 rb db))::(HT++(HW++(H1++(H2++(HR++(HD++((HM.set i []).flatten++H))))))))) ?_
 rintro v H' ⟨X2,hX2,rfl,rfl⟩
 refine W_hsub (H':=(b7,.cells 3 1 [.int .i64 how])::(b8,.cells 30 1 [.int .u64 k])::(b9,.cells 84 1 [.slice adw ws.length capw])::(b5,.cells 23 1 [.pointer (some ⟨lb,0,none⟩)])::(b6,.cells 3 1 [.int .i64 (i:Int)])::(b12,.cells 40 2 (hdC zHd))::(lb,.cells 134 15 (lfRow F.n M tb wb g1 g2 rb db))::(HT++(HW++(H1++(H2++(HR++(HD++((HM.set i X2).flatten++H)))))))) ((show HSub _ ((b7,.cells 3 1 [.int .i64 how])::(b8,.cells 30 1 [.int .u64 k])::(b9,.cells 84 1 [.slice adw ws.length capw])::(b5,.cells 23 1 [.pointer (some ⟨lb,0,none⟩)])::(b6,.cells 3 1 [.int .i64 (i:Int)])::(b12,.cells 40 2 (hdC zHd))::(lb,.cells 134 15 (lfRow F.n M tb wb g1 g2 rb db))::(HT++(HW++(H1++(H2++(HR++(HD++(X2++((HM.set i []).flatten++H))))))))) from zH).trans (.cons (.here _) (.cons (.here _) (.cons (.here _) (.cons (.here _) (.cons (.here _) (.cons (.here _) (.cons (.here _) (.app (.here _) (.app (.here _) (.app (.here _) (.app (.here _) (.app (.here _) (.app (.here _) (flattenIn (by rw [hM.h4]; exact hi4)))))))))))))))) ?_
 have hM2:=(hM.up (Nat.le_add_right T 2)).set (k:=i) (.some (b:=b) hX2)
 rw [show M.set i (some mb,b)=M from set_same hmc] at hM2
 have hF2:LifeH lb _ { F with ms:=F.ms.set i (some ((x.put how k ws).1,b)) } ((lb,.cells 134 15 (lfRow F.n M tb wb g1 g2 rb db))::(HT++(HW++(H1++(H2++(HR++(HD++(HM.set i X2).flatten))))))):=.mk (F:={ F with ms:=F.ms.set i (some ((x.put how k ws).1,b)) }) hT (hO.up (Nat.le_add_right T 2)) hW h1 o1 h2 o2 hR hU hD hM2
 refine W_move rfl rfl (W_extract rfl rfl rfl (W_extract rfl rfl rfl ?_))
 refine W_alloc (l:=puttC zPutt) ty139 rfl rfl (fun b9_=>?_)
 refine W_storeA (l':=puttC (x.put how k ws).2.1) rfl rfl ty139 rfl rfl (b:=b9_) zM (by exact Nat.le_refl 5) rfl zU ?_
 refine W_assign rfl rfl (W_nil (W_seq (W_sr (W_fieldAddr rfl fld139_2 zd rfl ?_))))
 refine W_load (v:=.bool (x.put how k ws).2.1.out) rfl ty4 rfl (Cell.own (b:=b9_) zM rfl) rfl ?_
 refine W_nil ?_
 refine W_condPS (p:=(x.put how k ws).2.1.out=true) rfl .rfl (fun q0=>?_) (fun q0=>?_)
 ·skip
  refine W_region (W_load (v:=.pointer (some ⟨lb,0,none⟩)) rfl ty23 rfl (Cell.own (b:=b5) zM rfl) rfl ?_)
  refine W_load (v:=.int .i64 (i:Int)) rfl ty3 rfl (Cell.own (b:=b6) zM rfl) rfl ?_
  refine W_fieldAddr rfl fld139_1 zd rfl ?_
  refine W_loadB (vs:=hdC (x.put how k ws).2.1.gone) rfl ty40 rfl (b:=b9_) zM rfl rfl rfl ?_
  have hsl:=put_slot hX.ok q0
  refine W_hsub (H':=((lb,.cells 134 15 (lfRow F.n M tb wb g1 g2 rb db))::(HT++(HW++(H1++(H2++(HR++(HD++(HM.set i X2).flatten)))))))++((b9_,.cells 139 5 (puttC (x.put how k ws).2.1))::(b7,.cells 3 1 [.int .i64 how])::(b8,.cells 30 1 [.int .u64 k])::(b9,.cells 84 1 [.slice adw ws.length capw])::(b5,.cells 23 1 [.pointer (some ⟨lb,0,none⟩)])::(b6,.cells 3 1 [.int .i64 (i:Int)])::(b12,.cells 40 2 (hdC zHd))::H)) (by simp only [List.cons_append,List.append_assoc]; first | exact hsubI | (repeat (first | with_reducible exact HSub.refl _ | refine HSub.cons zT ?_ | refine HSub.app zS ?_ | exact HSub.nil _ | exact HSub.refl _ | refine HSub.drop ?_ | refine HSub.dropS ?_))) ?_
  refine W_call (.cons rfl (.cons rfl (.cons rfl .nil))) Tryz.call62 rfl (hF2.die (i:=i) (s:=(x.put how k ws).2.1.gone.slot.toNat) (h:=(x.put how k ws).2.1.gone) hi4 hsl.2 hsl.1 rfl (H:=(b9_,.cells 139 5 (puttC (x.put how k ws).2.1))::(b7,.cells 3 1 [.int .i64 how])::(b8,.cells 30 1 [.int .u64 k])::(b9,.cells 84 1 [.slice adw ws.length capw])::(b5,.cells 23 1 [.pointer (some ⟨lb,0,none⟩)])::(b6,.cells 3 1 [.int .i64 (i:Int)])::(b12,.cells 40 2 (hdC zHd))::H)) ?_
  rintro v H' ⟨HF3,hF3,rfl,rfl⟩
  refine W_nil (W_sr (W_fieldAddr rfl fld139_0 zd rfl ?_))
  refine W_loadB (vs:=hdC (x.put how k ws).2.1.h) rfl ty40 rfl (b:=b9_) zM rfl rfl rfl ?_
  refine W_storeA (l':=hdC (x.put how k ws).2.1.h) rfl rfl ty40 rfl rfl (b:=b12) zM (by exact Nat.le_refl 2) rfl zU ?_
  refine W_nil (W_sr (W_move rfl rfl (W_assign rfl rfl (W_nil (W_ret1m (H2:=(b7,.cells 3 1 [.int .i64 how])::(b8,.cells 30 1 [.int .u64 k])::(b9,.cells 84 1 [.slice adw ws.length capw])::(b5,.cells 23 1 [.pointer (some ⟨lb,0,none⟩)])::(b6,.cells 3 1 [.int .i64 (i:Int)])::(b12,.cells 40 2 (hdC (x.put how k ws).2.1.h))::(HF3++H)) Tryz.results60 rfl (.nil _) zH ?_)))))
  have e:putX F i x b how k ws=(dieF { F with ms:=F.ms.set i (some ((x.put how k ws).1,b)) } (16*i+(x.put how k ws).2.1.gone.slot.toNat) (x.put how k ws).2.1.gone,(x.put how k ws).2.1.h,(x.put how k ws).2.2):=by unfold putX; rw [if_pos q0]
  rw [e]
  exact ⟨HF3,hF3,rfl,rfl⟩
 ·skip
  refine W_skip (W_sr (W_fieldAddr rfl fld139_0 zd rfl ?_))
  refine W_loadB (vs:=hdC (x.put how k ws).2.1.h) rfl ty40 rfl (b:=b9_) zM rfl rfl rfl ?_
  refine W_storeA (l':=hdC (x.put how k ws).2.1.h) rfl rfl ty40 rfl rfl (b:=b12) zM (by exact Nat.le_refl 2) rfl zU ?_
  refine W_nil (W_sr (W_move rfl rfl (W_assign rfl rfl (W_nil (W_ret1m (H2:=(b7,.cells 3 1 [.int .i64 how])::(b8,.cells 30 1 [.int .u64 k])::(b9,.cells 84 1 [.slice adw ws.length capw])::(b5,.cells 23 1 [.pointer (some ⟨lb,0,none⟩)])::(b6,.cells 3 1 [.int .i64 (i:Int)])::(b12,.cells 40 2 (hdC (x.put how k ws).2.1.h))::(lb,.cells 134 15 (lfRow F.n M tb wb g1 g2 rb db))::(HT++(HW++(H1++(H2++(HR++(HD++((HM.set i X2).flatten++H)))))))) Tryz.results60 rfl (.nil _) zH ?_)))))
  have e:putX F i x b how k ws=({ F with ms:=F.ms.set i (some ((x.put how k ws).1,b)) },(x.put how k ws).2.1.h,(x.put how k ws).2.2):=by unfold putX; rw [if_neg q0]
  rw [e]
  exact ⟨_,hF2,rfl,by simp only [List.cons_append,List.append_assoc]⟩
theorem LifeH.put {w0:World} {H:Heap} {HF:Heap} {lb T:Nat} {F:Lf} (hF:LifeH lb T F HF) {m:Int} {how k:Int} {ws:List Int} {adw:Option Addr} {capw:Nat} (hTab:Tab w0) (hTl:T≤1000000) (hk:0≤k∧k<18446744073709551616) (hrow:∀ HZ:Heap,Holds w0 (HZ++H) adw (ws.map (Value.int .u64))) :LCalls Tryz.prog w0 14 #[.pointer (some ⟨lb,0,none⟩),.int .i64 m,.int .i64 how,.int .u64 k,.slice adw ws.length capw] (HF++H) (fun v H'=>∃ HF',LifeH lb (T+2) (putF F m how k ws).1 HF'∧v=.tuple #[.agg (List.toArray (hdC (putF F m how k ws).2.1)),.int .i64 (putF F m how k ws).2.2]∧H'=HF'++H):=by
 cases hF with
 | @mk tb wb g1 g2 rb db M HT HW H1 H2 HR HD HM hT hO hW h1 o1 h2 o2 hR hU hD hM =>
 have e0:((lb,.cells 134 15 (lfRow F.n M tb wb g1 g2 rb db))::(HT++(HW++(H1++(H2++(HR++(HD++HM.flatten)))))))++H=(lb,.cells 134 15 (lfRow F.n M tb wb g1 g2 rb db))::(HT++(HW++(H1++(H2++(HR++(HD++(HM.flatten++H))))))):=by simp only [List.cons_append,List.append_assoc]
 rw [e0]
 refine L_enter (l:=[.pointer (some ⟨lb,0,none⟩),.int .i64 m,.int .i64 how,.int .u64 k,.slice adw ws.length capw]) Tryz.func14 rfl Tryz.ntmps14 rfl rfl ?_
 refine W_sr ?_
 refine W_box (l:=[.pointer (some ⟨lb,0,none⟩)]) rfl rfl rfl (fun b5=>?_)
 refine W_box (l:=[.int .i64 m]) rfl rfl rfl (fun b6=>?_)
 refine W_box (l:=[.int .i64 how]) rfl rfl rfl (fun b7=>?_)
 refine W_box (l:=[.int .u64 k]) rfl rfl rfl (fun b8=>?_)
 refine W_box (l:=[.slice adw ws.length capw]) rfl rfl rfl (fun b9=>?_)
 refine W_alloc (l:=hdC zHd) ty40 rfl rfl (fun b10=>?_)
 refine W_assign rfl rfl (W_nil (W_sr ?_))
 refine W_alloc (l:=hdC zHd) ty40 rfl rfl (fun b12=>?_)
 refine W_nil (W_sr (W_load (v:=.pointer (some ⟨lb,0,none⟩)) rfl ty23 rfl (Cell.own (b:=b5) zM rfl) rfl ?_))
 refine W_load (v:=.int .i64 m) rfl ty3 rfl (Cell.own (b:=b6) zM rfl) rfl ?_
 refine W_makeFunc .nil (.cons rfl (.cons rfl (.cons rfl (.cons rfl (.cons rfl (.cons rfl .nil)))))) rfl ?_
 rcases hM.ways (F:=F) m with ⟨hmf,hmp⟩ | ⟨i,mb,x,b,X,rfl,hi4,hmc,hms,hX0,hX,hmf,hmp⟩
 ·skip
  refine W_callq (.cons rfl (.cons rfl (.cons rfl .nil))) Tryz.call59 rfl (lwith_no (n:=F.n) (lb:=lb) (tb:=tb) (wb:=wb) (g1:=g1) (g2:=g2) (rb:=rb) (db:=db) (M:=M) zM hM.m4 hmp) ?_
  refine W_assign rfl rfl (W_nil (W_sr (W_loadB (vs:=hdC zHd) rfl ty40 rfl (b:=b12) zM rfl rfl rfl ?_)))
  refine W_move rfl rfl ?_
  refine W_storeA (l':=hdC zHd) rfl rfl ty40 rfl rfl (b:=b10) zM (by exact Nat.le_refl 2) rfl zU ?_
  refine W_assign rfl rfl (W_nil (W_ret2G (H2:=(lb,.cells 134 15 (lfRow F.n M tb wb g1 g2 rb db))::(HT++(HW++(H1++(H2++(HR++(HD++(HM.flatten++H)))))))) Tryz.results14 (.nil _) (.own rfl ty40 rfl zM rfl) (.tmp rfl) zH ?_))
  have e:putF F m how k ws=(F,zHd,4):=by unfold putF; rw [hmf]
  rw [e]
  exact ⟨_,.mk hT (hO.up (Nat.le_add_right T 2)) hW h1 o1 h2 o2 hR hU hD (hM.up (Nat.le_add_right T 2)),rfl,by simp only [List.cons_append,List.append_assoc]⟩
 ·skip
  refine W_hsub (H':=(b7,.cells 3 1 [.int .i64 how])::(b8,.cells 30 1 [.int .u64 k])::(b9,.cells 84 1 [.slice adw ws.length capw])::(b5,.cells 23 1 [.pointer (some ⟨lb,0,none⟩)])::(b6,.cells 3 1 [.int .i64 (i:Int)])::(b12,.cells 40 2 (hdC zHd))::(lb,.cells 134 15 (lfRow F.n M tb wb g1 g2 rb db))::(HT++(HW++(H1++(H2++(HR++(HD++(HM.flatten++((b10,.cells 40 2 (hdC zHd))::H))))))))) zH ?_
  refine W_call (.cons rfl (.cons rfl (.cons rfl .nil))) Tryz.call59 rfl (lwith_in (n:=F.n) (lb:=lb) (tb:=tb) (wb:=wb) (g1:=g1) (g2:=g2) (rb:=rb) (db:=db) (M:=M) (fi:=60) (ca:=[.pointer (some ⟨b7,0,none⟩),.pointer (some ⟨b8,0,none⟩),.pointer (some ⟨b9,0,none⟩),.pointer (some ⟨b5,0,none⟩),.pointer (some ⟨b6,0,none⟩),.pointer (some ⟨b12,0,none⟩)]) zM hM.m4 Tryz.call60 hmp (lput1_L (b5:=b5) (b6:=b6) (b7:=b7) (b8:=b8) (b9:=b9) (b12:=b12) (H:=(b10,.cells 40 2 (hdC zHd))::H) hT hO hW h1 o1 h2 o2 hR hU hD hM hi4 hmc hX0 hX (how:=how) (k:=k) (ws:=ws) (adw:=adw) (capw:=capw) hTab hTl hk (fun HZ=>by have:=hrow (HZ++[(b10,.cells 40 2 (hdC zHd))]); simpa only [List.cons_append,List.append_assoc,List.nil_append] using this)) (by rintro v H2 ⟨_,_,e,_⟩; exact ⟨_,e⟩)) ?_
  rintro v H' ⟨HF3,hF3,rfl,rfl⟩
  refine W_assign rfl rfl (W_nil (W_sr (W_loadB (vs:=hdC (putX F i x b how k ws).2.1) rfl ty40 rfl (b:=b12) zM rfl rfl rfl ?_)))
  refine W_move rfl rfl ?_
  refine W_storeA (l':=hdC (putX F i x b how k ws).2.1) rfl rfl ty40 rfl rfl (b:=b10) zM (by exact Nat.le_refl 2) rfl zU ?_
  refine W_assign rfl rfl (W_nil (W_ret2G (H2:=HF3++H) Tryz.results14 (.nil _) (.own rfl ty40 rfl zM rfl) (.tmp rfl) zH ?_))
  have e:putF F (i:Int) how k ws=putX F i x b how k ws:=by unfold putF; rw [hmf]; dsimp only; rw [Int.toNat_natCast]
  rw [e]
  exact ⟨HF3,hF3,rfl,rfl⟩
attribute [local irreducible] shutsA clearA
structure Gn where
 map:Int
 number:Int
 gen:Int
 whole:Bool
deriving DecidableEq
def gnC (g:Gn):List Value:=[.int .i64 g.map,.int .i64 g.number,.int .i64 g.gen,.bool g.whole]
theorem gnC_len (g:Gn):(gnC g).length=4:=rfl
def dyGet (dy:List (Int × Hd)) (z:Int):Hd:=((dy.find? (fun p=>decide (z=p.1))).map (·.2)).getD zHd
def dyDel (dy:List (Int × Hd)) (z:Int):List (Int × Hd):=dy.filter (fun p=>decide (z≠p.1))
theorem dy_val (E:List Dye) (z:Int):(mGet (E.map Dye.ent) z).getD (.agg (List.toArray (hdC zHd)))=.agg (List.toArray (hdC (dyGet (E.map Dye.p) z))):=by
 unfold mGet dyGet
 rw [List.find?_map,List.find?_map,Option.map_map,Option.map_map]
 show (((E.find? (fun e=>decide (z=e.key))).map _).getD _)=Value.agg (List.toArray (hdC (((E.find? (fun e=>decide (z=e.key))).map _).getD zHd)))
 cases E.find? (fun e=>decide (z=e.key)) <;> rfl
theorem dy_del (E:List Dye) (z:Int):mDel (E.map Dye.ent) z=(E.filter (fun e=>decide (z≠e.key))).map Dye.ent∧(E.filter (fun e=>decide (z≠e.key))).map Dye.p=dyDel (E.map Dye.p) z:=by
 constructor
 ·unfold mDel; rw [List.filter_map]; rfl
 ·unfold dyDel; rw [List.filter_map]; rfl
def us1 (F:Lf) (z:Nat):List (Int × Cnt):=if 0<(ofA F.At (z:Int)).prog then (dropR F.us (max ((ofA F.At (z:Int)).prog-1) 0)).1 else F.us
def us2 (F:Lf) (z:Nat):List (Int × Cnt):=if 0<(ofW F.Aw (z:Int)).prog then (dropR (us1 F z) (max ((ofW F.Aw (z:Int)).prog-1) 0)).1 else us1 F z
theorem UsOk.us1 {F:Lf} (h:UsOk F.us) (z:Nat):UsOk (us1 F z):=by
 unfold Go.Proofs.YtincjohoncljoaaGreatDoor.us1; split
 ·exact h.drop _
 ·exact h
theorem UsOk.us2 {F:Lf} (h:UsOk F.us) (z:Nat):UsOk (us2 F z):=by
 unfold Go.Proofs.YtincjohoncljoaaGreatDoor.us2; split
 ·exact (h.us1 z).drop _
 ·exact h.us1 z
def freedF (F:Lf) (z:Nat) (x:Xm) (b:Bool):Lf × List Gn:=({ F with ms:=F.ms.set (z/16) (some ((x.free (dyGet F.dy (z:Int))).1,b)),us:=us2 F z,Ws:=(clearA F.Ws F.Qt F.Rt F.At (z:Int)).1,Qt:=(clearA F.Ws F.Qt F.Rt F.At (z:Int)).2.1,At:=(clearA F.Ws F.Qt F.Rt F.At (z:Int)).2.2.1,Qw:=(clearW F.Qw F.Rw F.Aw z).1,Aw:=(clearW F.Qw F.Rw F.Aw z).2.1,dy:=dyDel F.dy (z:Int) },[⟨((z/16:Nat):Int),(z:Int),(dyGet F.dy (z:Int)).gen,false⟩])
def freeF (F:Lf) (z:Nat):Lf × List Gn:=if (inR F.Rt (z:Int)).isSome=true∨(inR F.Rw (z:Int)).isSome=true then ({ F with cl:=callG F.cl F.n z },[]) else match mapF F ((z/16:Nat):Int) with
 | none=>(F,[])
 | some (x,b)=>freedF F z x b
theorem WorkH.runs {w0:World} {H HB:Heap} {wb n:Nat} {Q Rs:List (Int × Int)} {As:List Wone} {on:List Int} (h:WorkH wb n Q Rs As on HB) (hs:∀ p∈HB,p∈H) {id:Int}:PureAt Tryz.prog w0 H 158 [.pointer (some ⟨wb,0,none⟩),.int .i64 id] (optV (inR Rs id)):=by
 cases h with
 | mk hP hA hn=>exact wRuns_q hP (hs _ List.mem_cons_self) (fun p hp=>hs p (List.mem_cons_of_mem _ hp))
theorem WorkH.clear {w0:World} {H HB:Heap} {wb n:Nat} {Q Rs:List (Int × Int)} {As:List Wone} {on:List Int} (h:WorkH wb n Q Rs As on HB) {z:Nat} (hz:z<256):LCalls Tryz.prog w0 162 #[.pointer (some ⟨wb,0,none⟩),.int .i64 (z:Int)] (HB++H) (fun v H'=>∃ HB',WorkH wb n (clearW Q Rs As z).1 Rs (clearW Q Rs As z).2.1 on HB'∧(∃ m,v=.int .i64 m)∧H'=HB'++H):=by
 cases h with
 | @mk pb HP hP hA hn =>
  obtain ⟨o,ho⟩:=hA.at (i:=z) hz
  refine (wClear_at (H:=H) hP hn ho hz).mono ?_
  rintro v H' ⟨HP2,hP2,rfl,rfl⟩
  refine ⟨_,.mk hP2 ?_ hn,⟨_,rfl⟩,rfl⟩
  unfold clearW
  split
  ·exact hA
  ·exact hA.set z (o:=zWone) zd
attribute [local irreducible] clearW us2 us1
theorem LifeH.free_ {w0:World} {H:Heap} {HF:Heap} {lb T:Nat} {F:Lf} (hF:LifeH lb T F HF) {z:Nat} {x:Xm} {b:Bool} (hz:z<64) (hmf:mapF F ((z/16:Nat):Int)=some (x,b)) :LCalls Tryz.prog w0 71 #[.pointer (some ⟨lb,0,none⟩),.int .i64 (z:Int)] (HF++H) (fun v H'=>∃ HF' XG,LifeH lb T (freeF F z).1 HF'∧OwnS 50 4 v (freeF F z).2.length ((freeF F z).2.flatMap gnC) XG∧H'=XG++(HF'++H)):=by
 cases hF with
 | @mk tb wb g1 g2 rb db M HT HW H1 H2 HR HD HM hT hO hW h1 o1 h2 o2 hR hU hD hM =>
 cases hD with
 | @mk E cl hok hdy =>
 have e0:((lb,.cells 134 15 (lfRow F.n M tb wb g1 g2 rb db))::(HT++(HW++(H1++(H2++(HR++([(db,.obj (mapO (Value.int .i64) ((E).map Dye.ent) cl))]++HM.flatten)))))))++H=(lb,.cells 134 15 (lfRow F.n M tb wb g1 g2 rb db))::(HT++(HW++(H1++(H2++(HR++((db,.obj (mapO (Value.int .i64) ((E).map Dye.ent) cl))::(HM.flatten++H))))))):=by simp only [List.cons_append,List.append_assoc,List.nil_append]
 rw [e0]
 refine L_enter (l:=[.pointer (some ⟨lb,0,none⟩),.int .i64 (z:Int)]) Tryz.func71 rfl Tryz.ntmps71 rfl rfl ?_
 refine W_sr (W_assign rfl rfl (W_nil (W_sr (W_move rfl rfl (W_nilCheck rfl rfl (W_fieldAddr rfl fld134_2 zd rfl ?_))))))
 refine W_load (v:=.pointer (some ⟨tb,0,none⟩)) rfl ty55 rfl (Cell.own (b:=lb) zM (lf_tl (j:=0) hM.m4)) rfl ?_
 refine W_move rfl rfl ?_
 refine W_callq (.cons rfl (.cons rfl .nil)) Tryz.call157 rfl (tRuns_q (id:=(z:Int)) hT (fun p hp=>List.mem_cons_of_mem _ (List.mem_append_left _ hp))) ?_
 rcases hrt:inR F.Rt (z:Int) with _ | ct
 ·skip
  rw [show optV none=.tuple #[.int .i64 0,.bool false] from rfl]
  refine W_move rfl rfl (W_extract rfl rfl rfl (W_extract rfl rfl rfl (W_assign rfl rfl (W_assign rfl rfl (W_nil (W_sr (W_move rfl rfl (W_nilCheck rfl rfl ?_))))))))
  refine W_fieldAddr rfl fld134_3 zd rfl ?_
  refine W_load (v:=.pointer (some ⟨wb,0,none⟩)) rfl ty67 rfl (Cell.own (b:=lb) zM (lf_tl (j:=1) hM.m4)) rfl ?_
  refine W_move rfl rfl ?_
  refine W_callq (.cons rfl (.cons rfl .nil)) Tryz.call158 rfl (hW.runs (id:=(z:Int)) (fun p hp=>List.mem_cons_of_mem _ (List.mem_append_right _ (List.mem_append_left _ hp)))) ?_
  rcases hrw:inR F.Rw (z:Int) with _ | cx
  ·skip
   rw [show optV none=.tuple #[.int .i64 0,.bool false] from rfl]
   refine W_move rfl rfl (W_extract rfl rfl rfl (W_extract rfl rfl rfl (W_assign rfl rfl (W_assign rfl rfl (W_nil (W_seq (W_sr (W_move rfl rfl (W_move rfl rfl ?_)))))))))
   refine W_gyes rfl rfl (W_move rfl rfl ?_)
   first | refine W_pickt rfl rfl rfl ?_ | refine W_pickf rfl rfl rfl ?_
   refine W_nil (W_condF rfl rfl (W_skip (W_sr (W_move rfl rfl (W_nilCheck rfl rfl (W_fieldAddr rfl fld134_7 zd rfl ?_))))))
   obtain ⟨i',mb,x',b',X,ei,hi4,hmc,hms,hX0,hX,hmf2,hmp⟩:=(hM.ways (F:=F) ((z/16:Nat):Int)).resolve_left (fun h=>by rw [hmf] at h; cases h.1)
   obtain rfl:i'=z/16:=by omega
   rw [hmf] at hmf2
   cases hmf2
   refine W_load (v:=.map (some db)) rfl ty132 rfl (Cell.own (b:=lb) zM (lf_tl (j:=5) hM.m4)) rfl ?_
   refine W_move rfl rfl ?_
   refine W_lookup (l:=E.map Dye.ent) (cl:=cl) (a:=(z:Int)) (kf:=(Value.int .i64)) (b:=db) (zE:=.agg (List.toArray (hdC zHd))) rfl rfl kkI ty132 (fun w=>by kernel_rfl) zM rfl ?_
   simp only [Bool.false_eq_true,if_false]
   rw [dy_val,hdy]
   refine W_alloc (l:=hdC zHd) ty40 rfl rfl (fun b9=>?_)
   refine W_storeA (l':=hdC (dyGet F.dy (z:Int))) rfl rfl ty40 rfl rfl (b:=b9) zM (by exact Nat.le_refl 2) rfl zU ?_
   refine W_nil (W_seq ?_)
   refine W_anyC [(b9,.cells 40 2 (hdC (dyGet F.dy (z:Int)))),(lb,.cells 134 15 (lfRow F.n M tb wb g1 g2 rb db))] zk ?_
   refine WC_take 0 rfl zK zK zK rfl rfl (X_move rfl) rfl ?_
   refine WC_take 1 rfl zK zK zK rfl rfl (X_move rfl) rfl ?_
   refine WC_take 2 (l':=#[true,true,true,false,false,false]) rfl (by decide +kernel) (by decide +kernel) (by decide +kernel) rfl (by decide +kernel) (X_bin rfl rfl (b_quo (by decide) (m:=((z/16:Nat):Int)) (by rw [Int.tdiv_eq_ediv_of_nonneg (by omega),i64w (by omega)]; omega))) rfl ?_
   refine WC_take 4 rfl zK zK zK rfl rfl (X_loadB (vs:=hdC (dyGet F.dy (z:Int))) rfl ty40 rfl (b:=b9) zM rfl rfl) rfl ?_
   refine WC_one 3 zH zK rfl rfl ?_
   refine W_callq (.cons rfl (.cons rfl .nil)) Tryz.call29 rfl (lMap_q (n:=F.n) (lb:=lb) (tb:=tb) (wb:=wb) (g1:=g1) (g2:=g2) (rb:=rb) (db:=db) (M:=M) (m:=((z/16:Nat):Int)) zM hM.m4) ?_
   rw [hmp]
   refine W_nil ?_
   refine WC_goal ?_
   refine WC_one 5 zH zK rfl rfl ?_
   refine W_hsub (H':=X++((b9,.cells 40 2 (hdC (dyGet F.dy (z:Int))))::(lb,.cells 134 15 (lfRow F.n M tb wb g1 g2 rb db))::(HT++(HW++(H1++(H2++(HR++((db,.obj (mapO (Value.int .i64) ((E).map Dye.ent) cl))::((HM.set (z/16) []).flatten++H))))))))) ((show HSub _ ((b9,.cells 40 2 (hdC (dyGet F.dy (z:Int))))::(lb,.cells 134 15 (lfRow F.n M tb wb g1 g2 rb db))::(HT++(HW++(H1++(H2++(HR++((db,.obj (mapO (Value.int .i64) ((E).map Dye.ent) cl))::(X++((HM.set (z/16) []).flatten++H))))))))) from .cons (.here _) (.cons (.here _) (.app (.here _) (.app (.here _) (.app (.here _) (.app (.here _) (.app (.here _) (.cons (.here _) (flattenOut hX0))))))))).trans zH) ?_
   refine W_call (.cons rfl (.cons rfl .nil)) Tryz.call159 rfl (hX.free (h:=(dyGet F.dy (z:Int))) (H:=(b9,.cells 40 2 (hdC (dyGet F.dy (z:Int))))::(lb,.cells 134 15 (lfRow F.n M tb wb g1 g2 rb db))::(HT++(HW++(H1++(H2++(HR++((db,.obj (mapO (Value.int .i64) ((E).map Dye.ent) cl))::((HM.set (z/16) []).flatten++H))))))))) ?_
   rintro v H' ⟨X2,hX2,rfl,rfl⟩
   refine W_hsub (H':=(b9,.cells 40 2 (hdC (dyGet F.dy (z:Int))))::(lb,.cells 134 15 (lfRow F.n M tb wb g1 g2 rb db))::(HT++(HW++(H1++(H2++(HR++((db,.obj (mapO (Value.int .i64) ((E).map Dye.ent) cl))::((HM.set (z/16) X2).flatten++H)))))))) ((show HSub _ ((b9,.cells 40 2 (hdC (dyGet F.dy (z:Int))))::(lb,.cells 134 15 (lfRow F.n M tb wb g1 g2 rb db))::(HT++(HW++(H1++(H2++(HR++((db,.obj (mapO (Value.int .i64) ((E).map Dye.ent) cl))::(X2++((HM.set (z/16) []).flatten++H))))))))) from zH).trans (.cons (.here _) (.cons (.here _) (.app (.here _) (.app (.here _) (.app (.here _) (.app (.here _) (.app (.here _) (.cons (.here _) (flattenIn (by rw [hM.h4]; exact hi4))))))))))) ?_
   refine W_nil ?_
   refine WC_goal ?_
   refine WC_done zH zK ?_
   refine W_seq (W_sr (W_move rfl rfl (W_nilCheck rfl rfl (W_fieldAddr rfl fld134_2 zd rfl ?_))))
   refine W_load (v:=.pointer (some ⟨tb,0,none⟩)) rfl ty55 rfl (Cell.own (b:=lb) zM (lf_tl (j:=0) hM.m4)) rfl ?_
   refine W_move rfl rfl ?_
   refine W_callq (.cons rfl (.cons rfl .nil)) Tryz.call78 rfl (tProg_q (id:=(z:Int)) hT (fun p hp=>List.mem_cons_of_mem _ (List.mem_cons_of_mem _ (List.mem_append_left _ hp)))) ?_
   refine W_move rfl rfl (W_extract rfl rfl rfl (W_extract rfl rfl rfl (W_assign rfl rfl (W_assign rfl rfl (W_nil (W_sr (W_move rfl rfl (W_nil ?_))))))))
   refine W_condPS (p:=0<(ofA F.At (z:Int)).prog) rfl (by simp) (fun q0=>?_) (fun q0=>?_)
   ·skip
    refine W_region (W_move rfl rfl (W_nilCheck rfl rfl (W_fieldAddr rfl fld134_6 zd rfl ?_)))
    refine W_load (v:=.pointer (some ⟨rb,0,none⟩)) rfl ty131 rfl (Cell.own (b:=lb) zM (lf_tl (j:=4) hM.m4)) rfl ?_
    refine W_move rfl rfl (W_call (.cons rfl (.cons rfl .nil)) Tryz.call160 rfl ((RefH.drop hR hU.cnt (k:=max ((ofA F.At (z:Int)).prog-1) 0) (H:=(b9,.cells 40 2 (hdC (dyGet F.dy (z:Int))))::(lb,.cells 134 15 (lfRow F.n M tb wb g1 g2 rb db))::(HT++(HW++(H1++(H2++((db,.obj (mapO (Value.int .i64) ((E).map Dye.ent) cl))::((HM.set (z/16) X2).flatten++H)))))))).hsub zH) ?_)
    rintro v H' ⟨HR2,hR2,rfl,rfl⟩
    refine W_hsub (H':=(b9,.cells 40 2 (hdC (dyGet F.dy (z:Int))))::(lb,.cells 134 15 (lfRow F.n M tb wb g1 g2 rb db))::(HT++(HW++(H1++(H2++(HR2++((db,.obj (mapO (Value.int .i64) ((E).map Dye.ent) cl))::((HM.set (z/16) X2).flatten++H)))))))) zH ?_
    refine W_nil (W_seq (W_sr (W_move rfl rfl (W_nilCheck rfl rfl (W_fieldAddr rfl fld134_3 zd rfl ?_)))))
    refine W_load (v:=.pointer (some ⟨wb,0,none⟩)) rfl ty67 rfl (Cell.own (b:=lb) zM (lf_tl (j:=1) hM.m4)) rfl ?_
    refine W_move rfl rfl ?_
    have e1:us1 F z=(dropR F.us (max ((ofA F.At (z:Int)).prog-1) 0)).1:=by unfold us1; rw [if_pos q0]
    have hR1:RefH rb 8 (us1 F z) HR2:=by rw [e1]; exact hR2
    refine W_callq (.cons rfl (.cons rfl .nil)) Tryz.call73 rfl (hW.prog (id:=(z:Int)) (fun p hp=>List.mem_cons_of_mem _ (List.mem_cons_of_mem _ (List.mem_append_right _ (List.mem_append_left _ hp))))) ?_
    refine W_move rfl rfl (W_extract rfl rfl rfl (W_extract rfl rfl rfl (W_assign rfl rfl (W_assign rfl rfl (W_nil (W_sr (W_move rfl rfl (W_nil ?_))))))))
    refine W_condPS (p:=0<(ofW F.Aw (z:Int)).prog) rfl (by simp) (fun q1=>?_) (fun q1=>?_)
    ·skip
     refine W_region (W_move rfl rfl (W_nilCheck rfl rfl (W_fieldAddr rfl fld134_6 zd rfl ?_)))
     refine W_load (v:=.pointer (some ⟨rb,0,none⟩)) rfl ty131 rfl (Cell.own (b:=lb) zM (lf_tl (j:=4) hM.m4)) rfl ?_
     refine W_move rfl rfl (W_call (.cons rfl (.cons rfl .nil)) Tryz.call160 rfl ((RefH.drop hR1 (hU.us1 z).cnt (k:=max ((ofW F.Aw (z:Int)).prog-1) 0) (H:=(b9,.cells 40 2 (hdC (dyGet F.dy (z:Int))))::(lb,.cells 134 15 (lfRow F.n M tb wb g1 g2 rb db))::(HT++(HW++(H1++(H2++((db,.obj (mapO (Value.int .i64) ((E).map Dye.ent) cl))::((HM.set (z/16) X2).flatten++H)))))))).hsub zH) ?_)
     rintro v H' ⟨HR3,hR3,rfl,rfl⟩
     refine W_hsub (H':=(b9,.cells 40 2 (hdC (dyGet F.dy (z:Int))))::(lb,.cells 134 15 (lfRow F.n M tb wb g1 g2 rb db))::(HT++(HW++(H1++(H2++(HR3++((db,.obj (mapO (Value.int .i64) ((E).map Dye.ent) cl))::((HM.set (z/16) X2).flatten++H)))))))) zH ?_
     refine W_nil (W_sr (W_move rfl rfl (W_nilCheck rfl rfl (W_fieldAddr rfl fld134_2 zd rfl ?_))))
     refine W_load (v:=.pointer (some ⟨tb,0,none⟩)) rfl ty55 rfl (Cell.own (b:=lb) zM (lf_tl (j:=0) hM.m4)) rfl ?_
     refine W_move rfl rfl ?_
     have e2:us2 F z=(dropR (us1 F z) (max ((ofW F.Aw (z:Int)).prog-1) 0)).1:=by unfold us2; rw [if_pos q1]
     have hR9:RefH rb 8 (us2 F z) HR3:=by rw [e2]; exact hR3
     refine W_call (.cons rfl (.cons rfl .nil)) Tryz.call161 rfl ((Clear_L hT hO (id:=(z:Int)) (H:=(b9,.cells 40 2 (hdC (dyGet F.dy (z:Int))))::(lb,.cells 134 15 (lfRow F.n M tb wb g1 g2 rb db))::(HW++(H1++(H2++(HR3++((db,.obj (mapO (Value.int .i64) ((E).map Dye.ent) cl))::((HM.set (z/16) X2).flatten++H)))))))).hsub zH) ?_
     rintro v H' ⟨HT2,hT2,hO2,rfl,rfl⟩
     refine W_nil (W_sr (W_move rfl rfl (W_nilCheck rfl rfl (W_fieldAddr rfl fld134_3 zd rfl ?_))))
     refine W_load (v:=.pointer (some ⟨wb,0,none⟩)) rfl ty67 rfl (Cell.own (b:=lb) zM (lf_tl (j:=1) hM.m4)) rfl ?_
     refine W_move rfl rfl (W_call (.cons rfl (.cons rfl .nil)) Tryz.call162 rfl ((hW.clear (z:=z) zO (H:=(b9,.cells 40 2 (hdC (dyGet F.dy (z:Int))))::(lb,.cells 134 15 (lfRow F.n M tb wb g1 g2 rb db))::(HT2++(H1++(H2++(HR3++((db,.obj (mapO (Value.int .i64) ((E).map Dye.ent) cl))::((HM.set (z/16) X2).flatten++H)))))))).hsub zH) ?_)
     rintro v H' ⟨HW2,hW2,⟨mw,rfl⟩,rfl⟩
     refine W_nil (W_sr (W_move rfl rfl (W_nilCheck rfl rfl (W_fieldAddr rfl fld134_7 zd rfl ?_))))
     refine W_load (v:=.map (some db)) rfl ty132 rfl (Cell.own (b:=lb) zM (lf_tl (j:=5) hM.m4)) rfl ?_
     refine W_move rfl rfl (W_delete (a:=(z:Int)) (l:=E.map Dye.ent) (cl:=cl) (kf:=(Value.int .i64)) (b:=db) rfl rfl kkI ty132 hok zU rfl ?_)
     obtain ⟨hdd,hdp⟩:=dy_del E (z:Int)
     rw [hdd]
     refine W_nil (W_sr (W_move rfl rfl ?_))
     refine W_bin rfl rfl (b_quo (by decide) (m:=((z/16:Nat):Int)) (by rw [Int.tdiv_eq_ediv_of_nonneg (by omega),i64w (by omega)]; omega)) rfl ?_
     refine W_move rfl rfl (W_fieldAddr rfl fld40_1 zd rfl ?_)
     refine W_load (v:=.int .i64 (dyGet F.dy (z:Int)).gen) rfl ty3 rfl (Cell.own (b:=b9) zM rfl) rfl ?_
     refine W_build (l:=gnC ⟨((z/16:Nat):Int),(z:Int),(dyGet F.dy (z:Int)).gen,false⟩) ty50 pl50 (.cons rfl rfl rfl rfl rfl (.cons rfl rfl rfl rfl rfl (.cons rfl rfl rfl rfl rfl .nil))) rfl rfl rfl ?_
     refine W_buildSlice (l:=gnC ⟨((z/16:Nat):Int),(z:Int),(dyGet F.dy (z:Int)).gen,false⟩) ty47 ty50 (.cons rfl rfl rfl rfl rfl .nil) rfl rfl rfl rfl rfl rfl rfl (fun b116=>?_)
     refine W_assign rfl rfl (W_nil ?_)
     refine W_ret1m (H2:=[(b116,.cells 50 4 (gnC ⟨((z/16:Nat):Int),(z:Int),(dyGet F.dy (z:Int)).gen,false⟩))]++((lb,.cells 134 15 (lfRow F.n M tb wb g1 g2 rb db))::(HT2++(HW2++(H1++(H2++(HR3++((db,.obj (mapO (Value.int .i64) (((E.filter (fun e=>decide ((z:Int)≠e.key)))).map Dye.ent) cl))::((HM.set (z/16) X2).flatten++H))))))))) Tryz.results71 rfl (.nil _) zH ?_
     have e:freeF F z=({ F with ms:=F.ms.set (z/16) (some ((x.free (dyGet F.dy (z:Int))).1,b)),us:=us2 F z,Ws:=(clearA F.Ws F.Qt F.Rt F.At (z:Int)).1,Qt:=(clearA F.Ws F.Qt F.Rt F.At (z:Int)).2.1,At:=(clearA F.Ws F.Qt F.Rt F.At (z:Int)).2.2.1,Qw:=(clearW F.Qw F.Rw F.Aw z).1,Aw:=(clearW F.Qw F.Rw F.Aw z).2.1,dy:=dyDel F.dy (z:Int) },[⟨((z/16:Nat):Int),(z:Int),(dyGet F.dy (z:Int)).gen,false⟩]):=by
      unfold freeF
      rw [if_neg (by rw [hrt,hrw]; rintro (c | c) <;> cases c),hmf]
      rfl
     rw [e]
     have hokd:=hok.del (z:Int)
     rw [hdd] at hokd
     have hD2:DyH db (dyDel F.dy (z:Int)) [(db,.obj (mapO (Value.int .i64) (((E.filter (fun e=>decide ((z:Int)≠e.key)))).map Dye.ent) cl))]:=.mk hokd (by rw [hdp,hdy])
     have hM2:=hM.set (k:=z/16) (.some (b:=b) hX2)
     rw [show M.set (z/16) (some mb,b)=M from set_same hmc] at hM2
     exact ⟨_,[(b116,.cells 50 4 (gnC ⟨((z/16:Nat):Int),(z:Int),(dyGet F.dy (z:Int)).gen,false⟩))],.mk (F:={ F with ms:=F.ms.set (z/16) (some ((x.free (dyGet F.dy (z:Int))).1,b)),us:=us2 F z,Ws:=(clearA F.Ws F.Qt F.Rt F.At (z:Int)).1,Qt:=(clearA F.Ws F.Qt F.Rt F.At (z:Int)).2.1,At:=(clearA F.Ws F.Qt F.Rt F.At (z:Int)).2.2.1,Qw:=(clearW F.Qw F.Rw F.Aw z).1,Aw:=(clearW F.Qw F.Rw F.Aw z).2.1,dy:=dyDel F.dy (z:Int) }) (db:=db) hT2 hO2 hW2 h1 o1 h2 o2 hR9 (hU.us2 z) hD2 hM2,.own (n:=1) (cap:=1) rfl (Nat.le_refl 1) (by decide),by simp only [List.cons_append,List.append_assoc,List.nil_append]⟩
    ·skip
     refine W_skip (W_sr (W_move rfl rfl (W_nilCheck rfl rfl (W_fieldAddr rfl fld134_2 zd rfl ?_))))
     refine W_load (v:=.pointer (some ⟨tb,0,none⟩)) rfl ty55 rfl (Cell.own (b:=lb) zM (lf_tl (j:=0) hM.m4)) rfl ?_
     refine W_move rfl rfl ?_
     have e2:us2 F z=us1 F z:=by unfold us2; rw [if_neg q1]
     have hR9:RefH rb 8 (us2 F z) HR2:=by rw [e2]; exact hR1
     refine W_call (.cons rfl (.cons rfl .nil)) Tryz.call161 rfl ((Clear_L hT hO (id:=(z:Int)) (H:=(b9,.cells 40 2 (hdC (dyGet F.dy (z:Int))))::(lb,.cells 134 15 (lfRow F.n M tb wb g1 g2 rb db))::(HW++(H1++(H2++(HR2++((db,.obj (mapO (Value.int .i64) ((E).map Dye.ent) cl))::((HM.set (z/16) X2).flatten++H)))))))).hsub zH) ?_
     rintro v H' ⟨HT2,hT2,hO2,rfl,rfl⟩
     refine W_nil (W_sr (W_move rfl rfl (W_nilCheck rfl rfl (W_fieldAddr rfl fld134_3 zd rfl ?_))))
     refine W_load (v:=.pointer (some ⟨wb,0,none⟩)) rfl ty67 rfl (Cell.own (b:=lb) zM (lf_tl (j:=1) hM.m4)) rfl ?_
     refine W_move rfl rfl (W_call (.cons rfl (.cons rfl .nil)) Tryz.call162 rfl ((hW.clear (z:=z) zO (H:=(b9,.cells 40 2 (hdC (dyGet F.dy (z:Int))))::(lb,.cells 134 15 (lfRow F.n M tb wb g1 g2 rb db))::(HT2++(H1++(H2++(HR2++((db,.obj (mapO (Value.int .i64) ((E).map Dye.ent) cl))::((HM.set (z/16) X2).flatten++H)))))))).hsub zH) ?_)
     rintro v H' ⟨HW2,hW2,⟨mw,rfl⟩,rfl⟩
     refine W_nil (W_sr (W_move rfl rfl (W_nilCheck rfl rfl (W_fieldAddr rfl fld134_7 zd rfl ?_))))
     refine W_load (v:=.map (some db)) rfl ty132 rfl (Cell.own (b:=lb) zM (lf_tl (j:=5) hM.m4)) rfl ?_
     refine W_move rfl rfl (W_delete (a:=(z:Int)) (l:=E.map Dye.ent) (cl:=cl) (kf:=(Value.int .i64)) (b:=db) rfl rfl kkI ty132 hok zU rfl ?_)
     obtain ⟨hdd,hdp⟩:=dy_del E (z:Int)
     rw [hdd]
     refine W_nil (W_sr (W_move rfl rfl ?_))
     refine W_bin rfl rfl (b_quo (by decide) (m:=((z/16:Nat):Int)) (by rw [Int.tdiv_eq_ediv_of_nonneg (by omega),i64w (by omega)]; omega)) rfl ?_
     refine W_move rfl rfl (W_fieldAddr rfl fld40_1 zd rfl ?_)
     refine W_load (v:=.int .i64 (dyGet F.dy (z:Int)).gen) rfl ty3 rfl (Cell.own (b:=b9) zM rfl) rfl ?_
     refine W_build (l:=gnC ⟨((z/16:Nat):Int),(z:Int),(dyGet F.dy (z:Int)).gen,false⟩) ty50 pl50 (.cons rfl rfl rfl rfl rfl (.cons rfl rfl rfl rfl rfl (.cons rfl rfl rfl rfl rfl .nil))) rfl rfl rfl ?_
     refine W_buildSlice (l:=gnC ⟨((z/16:Nat):Int),(z:Int),(dyGet F.dy (z:Int)).gen,false⟩) ty47 ty50 (.cons rfl rfl rfl rfl rfl .nil) rfl rfl rfl rfl rfl rfl rfl (fun b116=>?_)
     refine W_assign rfl rfl (W_nil ?_)
     refine W_ret1m (H2:=[(b116,.cells 50 4 (gnC ⟨((z/16:Nat):Int),(z:Int),(dyGet F.dy (z:Int)).gen,false⟩))]++((lb,.cells 134 15 (lfRow F.n M tb wb g1 g2 rb db))::(HT2++(HW2++(H1++(H2++(HR2++((db,.obj (mapO (Value.int .i64) (((E.filter (fun e=>decide ((z:Int)≠e.key)))).map Dye.ent) cl))::((HM.set (z/16) X2).flatten++H))))))))) Tryz.results71 rfl (.nil _) zH ?_
     have e:freeF F z=({ F with ms:=F.ms.set (z/16) (some ((x.free (dyGet F.dy (z:Int))).1,b)),us:=us2 F z,Ws:=(clearA F.Ws F.Qt F.Rt F.At (z:Int)).1,Qt:=(clearA F.Ws F.Qt F.Rt F.At (z:Int)).2.1,At:=(clearA F.Ws F.Qt F.Rt F.At (z:Int)).2.2.1,Qw:=(clearW F.Qw F.Rw F.Aw z).1,Aw:=(clearW F.Qw F.Rw F.Aw z).2.1,dy:=dyDel F.dy (z:Int) },[⟨((z/16:Nat):Int),(z:Int),(dyGet F.dy (z:Int)).gen,false⟩]):=by
      unfold freeF
      rw [if_neg (by rw [hrt,hrw]; rintro (c | c) <;> cases c),hmf]
      rfl
     rw [e]
     have hokd:=hok.del (z:Int)
     rw [hdd] at hokd
     have hD2:DyH db (dyDel F.dy (z:Int)) [(db,.obj (mapO (Value.int .i64) (((E.filter (fun e=>decide ((z:Int)≠e.key)))).map Dye.ent) cl))]:=.mk hokd (by rw [hdp,hdy])
     have hM2:=hM.set (k:=z/16) (.some (b:=b) hX2)
     rw [show M.set (z/16) (some mb,b)=M from set_same hmc] at hM2
     exact ⟨_,[(b116,.cells 50 4 (gnC ⟨((z/16:Nat):Int),(z:Int),(dyGet F.dy (z:Int)).gen,false⟩))],.mk (F:={ F with ms:=F.ms.set (z/16) (some ((x.free (dyGet F.dy (z:Int))).1,b)),us:=us2 F z,Ws:=(clearA F.Ws F.Qt F.Rt F.At (z:Int)).1,Qt:=(clearA F.Ws F.Qt F.Rt F.At (z:Int)).2.1,At:=(clearA F.Ws F.Qt F.Rt F.At (z:Int)).2.2.1,Qw:=(clearW F.Qw F.Rw F.Aw z).1,Aw:=(clearW F.Qw F.Rw F.Aw z).2.1,dy:=dyDel F.dy (z:Int) }) (db:=db) hT2 hO2 hW2 h1 o1 h2 o2 hR9 (hU.us2 z) hD2 hM2,.own (n:=1) (cap:=1) rfl (Nat.le_refl 1) (by decide),by simp only [List.cons_append,List.append_assoc,List.nil_append]⟩
   ·skip
    refine W_skip (W_seq (W_sr (W_move rfl rfl (W_nilCheck rfl rfl (W_fieldAddr rfl fld134_3 zd rfl ?_)))))
    refine W_load (v:=.pointer (some ⟨wb,0,none⟩)) rfl ty67 rfl (Cell.own (b:=lb) zM (lf_tl (j:=1) hM.m4)) rfl ?_
    refine W_move rfl rfl ?_
    have e1:us1 F z=F.us:=by unfold us1; rw [if_neg q0]
    have hR1:RefH rb 8 (us1 F z) HR:=by rw [e1]; exact hR
    refine W_callq (.cons rfl (.cons rfl .nil)) Tryz.call73 rfl (hW.prog (id:=(z:Int)) (fun p hp=>List.mem_cons_of_mem _ (List.mem_cons_of_mem _ (List.mem_append_right _ (List.mem_append_left _ hp))))) ?_
    refine W_move rfl rfl (W_extract rfl rfl rfl (W_extract rfl rfl rfl (W_assign rfl rfl (W_assign rfl rfl (W_nil (W_sr (W_move rfl rfl (W_nil ?_))))))))
    refine W_condPS (p:=0<(ofW F.Aw (z:Int)).prog) rfl (by simp) (fun q1=>?_) (fun q1=>?_)
    ·skip
     refine W_region (W_move rfl rfl (W_nilCheck rfl rfl (W_fieldAddr rfl fld134_6 zd rfl ?_)))
     refine W_load (v:=.pointer (some ⟨rb,0,none⟩)) rfl ty131 rfl (Cell.own (b:=lb) zM (lf_tl (j:=4) hM.m4)) rfl ?_
     refine W_move rfl rfl (W_call (.cons rfl (.cons rfl .nil)) Tryz.call160 rfl ((RefH.drop hR1 (hU.us1 z).cnt (k:=max ((ofW F.Aw (z:Int)).prog-1) 0) (H:=(b9,.cells 40 2 (hdC (dyGet F.dy (z:Int))))::(lb,.cells 134 15 (lfRow F.n M tb wb g1 g2 rb db))::(HT++(HW++(H1++(H2++((db,.obj (mapO (Value.int .i64) ((E).map Dye.ent) cl))::((HM.set (z/16) X2).flatten++H)))))))).hsub zH) ?_)
     rintro v H' ⟨HR3,hR3,rfl,rfl⟩
     refine W_hsub (H':=(b9,.cells 40 2 (hdC (dyGet F.dy (z:Int))))::(lb,.cells 134 15 (lfRow F.n M tb wb g1 g2 rb db))::(HT++(HW++(H1++(H2++(HR3++((db,.obj (mapO (Value.int .i64) ((E).map Dye.ent) cl))::((HM.set (z/16) X2).flatten++H)))))))) zH ?_
     refine W_nil (W_sr (W_move rfl rfl (W_nilCheck rfl rfl (W_fieldAddr rfl fld134_2 zd rfl ?_))))
     refine W_load (v:=.pointer (some ⟨tb,0,none⟩)) rfl ty55 rfl (Cell.own (b:=lb) zM (lf_tl (j:=0) hM.m4)) rfl ?_
     refine W_move rfl rfl ?_
     have e2:us2 F z=(dropR (us1 F z) (max ((ofW F.Aw (z:Int)).prog-1) 0)).1:=by unfold us2; rw [if_pos q1]
     have hR9:RefH rb 8 (us2 F z) HR3:=by rw [e2]; exact hR3
     refine W_call (.cons rfl (.cons rfl .nil)) Tryz.call161 rfl ((Clear_L hT hO (id:=(z:Int)) (H:=(b9,.cells 40 2 (hdC (dyGet F.dy (z:Int))))::(lb,.cells 134 15 (lfRow F.n M tb wb g1 g2 rb db))::(HW++(H1++(H2++(HR3++((db,.obj (mapO (Value.int .i64) ((E).map Dye.ent) cl))::((HM.set (z/16) X2).flatten++H)))))))).hsub zH) ?_
     rintro v H' ⟨HT2,hT2,hO2,rfl,rfl⟩
     refine W_nil (W_sr (W_move rfl rfl (W_nilCheck rfl rfl (W_fieldAddr rfl fld134_3 zd rfl ?_))))
     refine W_load (v:=.pointer (some ⟨wb,0,none⟩)) rfl ty67 rfl (Cell.own (b:=lb) zM (lf_tl (j:=1) hM.m4)) rfl ?_
     refine W_move rfl rfl (W_call (.cons rfl (.cons rfl .nil)) Tryz.call162 rfl ((hW.clear (z:=z) zO (H:=(b9,.cells 40 2 (hdC (dyGet F.dy (z:Int))))::(lb,.cells 134 15 (lfRow F.n M tb wb g1 g2 rb db))::(HT2++(H1++(H2++(HR3++((db,.obj (mapO (Value.int .i64) ((E).map Dye.ent) cl))::((HM.set (z/16) X2).flatten++H)))))))).hsub zH) ?_)
     rintro v H' ⟨HW2,hW2,⟨mw,rfl⟩,rfl⟩
     refine W_nil (W_sr (W_move rfl rfl (W_nilCheck rfl rfl (W_fieldAddr rfl fld134_7 zd rfl ?_))))
     refine W_load (v:=.map (some db)) rfl ty132 rfl (Cell.own (b:=lb) zM (lf_tl (j:=5) hM.m4)) rfl ?_
     refine W_move rfl rfl (W_delete (a:=(z:Int)) (l:=E.map Dye.ent) (cl:=cl) (kf:=(Value.int .i64)) (b:=db) rfl rfl kkI ty132 hok zU rfl ?_)
     obtain ⟨hdd,hdp⟩:=dy_del E (z:Int)
     rw [hdd]
     refine W_nil (W_sr (W_move rfl rfl ?_))
     refine W_bin rfl rfl (b_quo (by decide) (m:=((z/16:Nat):Int)) (by rw [Int.tdiv_eq_ediv_of_nonneg (by omega),i64w (by omega)]; omega)) rfl ?_
     refine W_move rfl rfl (W_fieldAddr rfl fld40_1 zd rfl ?_)
     refine W_load (v:=.int .i64 (dyGet F.dy (z:Int)).gen) rfl ty3 rfl (Cell.own (b:=b9) zM rfl) rfl ?_
     refine W_build (l:=gnC ⟨((z/16:Nat):Int),(z:Int),(dyGet F.dy (z:Int)).gen,false⟩) ty50 pl50 (.cons rfl rfl rfl rfl rfl (.cons rfl rfl rfl rfl rfl (.cons rfl rfl rfl rfl rfl .nil))) rfl rfl rfl ?_
     refine W_buildSlice (l:=gnC ⟨((z/16:Nat):Int),(z:Int),(dyGet F.dy (z:Int)).gen,false⟩) ty47 ty50 (.cons rfl rfl rfl rfl rfl .nil) rfl rfl rfl rfl rfl rfl rfl (fun b116=>?_)
     refine W_assign rfl rfl (W_nil ?_)
     refine W_ret1m (H2:=[(b116,.cells 50 4 (gnC ⟨((z/16:Nat):Int),(z:Int),(dyGet F.dy (z:Int)).gen,false⟩))]++((lb,.cells 134 15 (lfRow F.n M tb wb g1 g2 rb db))::(HT2++(HW2++(H1++(H2++(HR3++((db,.obj (mapO (Value.int .i64) (((E.filter (fun e=>decide ((z:Int)≠e.key)))).map Dye.ent) cl))::((HM.set (z/16) X2).flatten++H))))))))) Tryz.results71 rfl (.nil _) zH ?_
     have e:freeF F z=({ F with ms:=F.ms.set (z/16) (some ((x.free (dyGet F.dy (z:Int))).1,b)),us:=us2 F z,Ws:=(clearA F.Ws F.Qt F.Rt F.At (z:Int)).1,Qt:=(clearA F.Ws F.Qt F.Rt F.At (z:Int)).2.1,At:=(clearA F.Ws F.Qt F.Rt F.At (z:Int)).2.2.1,Qw:=(clearW F.Qw F.Rw F.Aw z).1,Aw:=(clearW F.Qw F.Rw F.Aw z).2.1,dy:=dyDel F.dy (z:Int) },[⟨((z/16:Nat):Int),(z:Int),(dyGet F.dy (z:Int)).gen,false⟩]):=by
      unfold freeF
      rw [if_neg (by rw [hrt,hrw]; rintro (c | c) <;> cases c),hmf]
      rfl
     rw [e]
     have hokd:=hok.del (z:Int)
     rw [hdd] at hokd
     have hD2:DyH db (dyDel F.dy (z:Int)) [(db,.obj (mapO (Value.int .i64) (((E.filter (fun e=>decide ((z:Int)≠e.key)))).map Dye.ent) cl))]:=.mk hokd (by rw [hdp,hdy])
     have hM2:=hM.set (k:=z/16) (.some (b:=b) hX2)
     rw [show M.set (z/16) (some mb,b)=M from set_same hmc] at hM2
     exact ⟨_,[(b116,.cells 50 4 (gnC ⟨((z/16:Nat):Int),(z:Int),(dyGet F.dy (z:Int)).gen,false⟩))],.mk (F:={ F with ms:=F.ms.set (z/16) (some ((x.free (dyGet F.dy (z:Int))).1,b)),us:=us2 F z,Ws:=(clearA F.Ws F.Qt F.Rt F.At (z:Int)).1,Qt:=(clearA F.Ws F.Qt F.Rt F.At (z:Int)).2.1,At:=(clearA F.Ws F.Qt F.Rt F.At (z:Int)).2.2.1,Qw:=(clearW F.Qw F.Rw F.Aw z).1,Aw:=(clearW F.Qw F.Rw F.Aw z).2.1,dy:=dyDel F.dy (z:Int) }) (db:=db) hT2 hO2 hW2 h1 o1 h2 o2 hR9 (hU.us2 z) hD2 hM2,.own (n:=1) (cap:=1) rfl (Nat.le_refl 1) (by decide),by simp only [List.cons_append,List.append_assoc,List.nil_append]⟩
    ·skip
     refine W_skip (W_sr (W_move rfl rfl (W_nilCheck rfl rfl (W_fieldAddr rfl fld134_2 zd rfl ?_))))
     refine W_load (v:=.pointer (some ⟨tb,0,none⟩)) rfl ty55 rfl (Cell.own (b:=lb) zM (lf_tl (j:=0) hM.m4)) rfl ?_
     refine W_move rfl rfl ?_
     have e2:us2 F z=us1 F z:=by unfold us2; rw [if_neg q1]
     have hR9:RefH rb 8 (us2 F z) HR:=by rw [e2]; exact hR1
     refine W_call (.cons rfl (.cons rfl .nil)) Tryz.call161 rfl ((Clear_L hT hO (id:=(z:Int)) (H:=(b9,.cells 40 2 (hdC (dyGet F.dy (z:Int))))::(lb,.cells 134 15 (lfRow F.n M tb wb g1 g2 rb db))::(HW++(H1++(H2++(HR++((db,.obj (mapO (Value.int .i64) ((E).map Dye.ent) cl))::((HM.set (z/16) X2).flatten++H)))))))).hsub zH) ?_
     rintro v H' ⟨HT2,hT2,hO2,rfl,rfl⟩
     refine W_nil (W_sr (W_move rfl rfl (W_nilCheck rfl rfl (W_fieldAddr rfl fld134_3 zd rfl ?_))))
     refine W_load (v:=.pointer (some ⟨wb,0,none⟩)) rfl ty67 rfl (Cell.own (b:=lb) zM (lf_tl (j:=1) hM.m4)) rfl ?_
     refine W_move rfl rfl (W_call (.cons rfl (.cons rfl .nil)) Tryz.call162 rfl ((hW.clear (z:=z) zO (H:=(b9,.cells 40 2 (hdC (dyGet F.dy (z:Int))))::(lb,.cells 134 15 (lfRow F.n M tb wb g1 g2 rb db))::(HT2++(H1++(H2++(HR++((db,.obj (mapO (Value.int .i64) ((E).map Dye.ent) cl))::((HM.set (z/16) X2).flatten++H)))))))).hsub zH) ?_)
     rintro v H' ⟨HW2,hW2,⟨mw,rfl⟩,rfl⟩
     refine W_nil (W_sr (W_move rfl rfl (W_nilCheck rfl rfl (W_fieldAddr rfl fld134_7 zd rfl ?_))))
     refine W_load (v:=.map (some db)) rfl ty132 rfl (Cell.own (b:=lb) zM (lf_tl (j:=5) hM.m4)) rfl ?_
     refine W_move rfl rfl (W_delete (a:=(z:Int)) (l:=E.map Dye.ent) (cl:=cl) (kf:=(Value.int .i64)) (b:=db) rfl rfl kkI ty132 hok zU rfl ?_)
     obtain ⟨hdd,hdp⟩:=dy_del E (z:Int)
     rw [hdd]
     refine W_nil (W_sr (W_move rfl rfl ?_))
     refine W_bin rfl rfl (b_quo (by decide) (m:=((z/16:Nat):Int)) (by rw [Int.tdiv_eq_ediv_of_nonneg (by omega),i64w (by omega)]; omega)) rfl ?_
     refine W_move rfl rfl (W_fieldAddr rfl fld40_1 zd rfl ?_)
     refine W_load (v:=.int .i64 (dyGet F.dy (z:Int)).gen) rfl ty3 rfl (Cell.own (b:=b9) zM rfl) rfl ?_
     refine W_build (l:=gnC ⟨((z/16:Nat):Int),(z:Int),(dyGet F.dy (z:Int)).gen,false⟩) ty50 pl50 (.cons rfl rfl rfl rfl rfl (.cons rfl rfl rfl rfl rfl (.cons rfl rfl rfl rfl rfl .nil))) rfl rfl rfl ?_
     refine W_buildSlice (l:=gnC ⟨((z/16:Nat):Int),(z:Int),(dyGet F.dy (z:Int)).gen,false⟩) ty47 ty50 (.cons rfl rfl rfl rfl rfl .nil) rfl rfl rfl rfl rfl rfl rfl (fun b116=>?_)
     refine W_assign rfl rfl (W_nil ?_)
     refine W_ret1m (H2:=[(b116,.cells 50 4 (gnC ⟨((z/16:Nat):Int),(z:Int),(dyGet F.dy (z:Int)).gen,false⟩))]++((lb,.cells 134 15 (lfRow F.n M tb wb g1 g2 rb db))::(HT2++(HW2++(H1++(H2++(HR++((db,.obj (mapO (Value.int .i64) (((E.filter (fun e=>decide ((z:Int)≠e.key)))).map Dye.ent) cl))::((HM.set (z/16) X2).flatten++H))))))))) Tryz.results71 rfl (.nil _) zH ?_
     have e:freeF F z=({ F with ms:=F.ms.set (z/16) (some ((x.free (dyGet F.dy (z:Int))).1,b)),us:=us2 F z,Ws:=(clearA F.Ws F.Qt F.Rt F.At (z:Int)).1,Qt:=(clearA F.Ws F.Qt F.Rt F.At (z:Int)).2.1,At:=(clearA F.Ws F.Qt F.Rt F.At (z:Int)).2.2.1,Qw:=(clearW F.Qw F.Rw F.Aw z).1,Aw:=(clearW F.Qw F.Rw F.Aw z).2.1,dy:=dyDel F.dy (z:Int) },[⟨((z/16:Nat):Int),(z:Int),(dyGet F.dy (z:Int)).gen,false⟩]):=by
      unfold freeF
      rw [if_neg (by rw [hrt,hrw]; rintro (c | c) <;> cases c),hmf]
      rfl
     rw [e]
     have hokd:=hok.del (z:Int)
     rw [hdd] at hokd
     have hD2:DyH db (dyDel F.dy (z:Int)) [(db,.obj (mapO (Value.int .i64) (((E.filter (fun e=>decide ((z:Int)≠e.key)))).map Dye.ent) cl))]:=.mk hokd (by rw [hdp,hdy])
     have hM2:=hM.set (k:=z/16) (.some (b:=b) hX2)
     rw [show M.set (z/16) (some mb,b)=M from set_same hmc] at hM2
     exact ⟨_,[(b116,.cells 50 4 (gnC ⟨((z/16:Nat):Int),(z:Int),(dyGet F.dy (z:Int)).gen,false⟩))],.mk (F:={ F with ms:=F.ms.set (z/16) (some ((x.free (dyGet F.dy (z:Int))).1,b)),us:=us2 F z,Ws:=(clearA F.Ws F.Qt F.Rt F.At (z:Int)).1,Qt:=(clearA F.Ws F.Qt F.Rt F.At (z:Int)).2.1,At:=(clearA F.Ws F.Qt F.Rt F.At (z:Int)).2.2.1,Qw:=(clearW F.Qw F.Rw F.Aw z).1,Aw:=(clearW F.Qw F.Rw F.Aw z).2.1,dy:=dyDel F.dy (z:Int) }) (db:=db) hT2 hO2 hW2 h1 o1 h2 o2 hR9 (hU.us2 z) hD2 hM2,.own (n:=1) (cap:=1) rfl (Nat.le_refl 1) (by decide),by simp only [List.cons_append,List.append_assoc,List.nil_append]⟩
  ·skip
   rw [show optV (some cx)=.tuple #[.int .i64 cx,.bool true] from rfl]
   refine W_move rfl rfl (W_extract rfl rfl rfl (W_extract rfl rfl rfl (W_assign rfl rfl (W_assign rfl rfl (W_nil (W_seq (W_sr (W_move rfl rfl (W_move rfl rfl ?_)))))))))
   refine W_gyes rfl rfl (W_move rfl rfl ?_)
   first | refine W_pickt rfl rfl rfl ?_ | refine W_pickf rfl rfl rfl ?_
   refine W_nil (W_condT rfl rfl (W_seq ?_))
   refine W_anyC [(lb,.cells 134 15 (lfRow F.n M tb wb g1 g2 rb db))] zk ?_
   refine WC_take 0 rfl zK zK zK rfl rfl (X_move rfl) rfl ?_
   refine WC_take 1 rfl zK zK zK rfl rfl (X_nilCheck rfl) rfl ?_
   refine WC_take 2 rfl zK zK zK rfl rfl (X_fieldAddr rfl fld134_5 zd) rfl ?_
   refine WC_take 3 rfl zK zK zK rfl rfl (X_load (v:=.pointer (some ⟨g2,0,none⟩)) rfl ty33 rfl (Cell.own (b:=lb) zM (lf_tl (j:=3) hM.m4))) rfl ?_
   refine WC_take 4 rfl zK zK zK rfl rfl (X_move rfl) rfl ?_
   refine WC_take 5 rfl zK zK zK rfl rfl (X_move rfl) rfl ?_
   refine WC_take 6 rfl zK zK zK rfl rfl (X_nilCheck rfl) rfl ?_
   refine WC_take 7 rfl zK zK zK rfl rfl (X_fieldAddr rfl fld134_0 zd) rfl ?_
   refine WC_take 8 rfl zK zK zK rfl rfl (X_load (v:=.int .i64 ((F.n:Nat):Int)) rfl ty3 rfl (Cell.own (b:=lb) zM rfl)) rfl ?_
   refine WC_take 9 rfl zK zK zK rfl rfl (X_bin rfl rfl (b_rem (by have:=o1.n; omega) (m:=((z%F.n:Nat):Int)) (tmNA z F.n))) rfl ?_
   refine WC_take 10 rfl zK zK zK rfl rfl (X_move rfl) rfl ?_
   refine WC_one 11 zH zK rfl rfl ?_
   refine W_buildSlice (l:=[.int .i64 (z:Int)]) ty63 ty3 (.cons rfl rfl rfl rfl rfl .nil) rfl rfl rfl rfl rfl rfl rfl (fun b47=>?_)
   refine W_nil ?_
   refine WC_goal ?_
   refine WC_one 12 zH zK rfl rfl ?_
   refine W_call (.cons rfl (.cons rfl (.cons rfl .nil))) Tryz.call70 rfl ((h2.call o2 (z:=z) (fun HZ=>Holds.own (b:=b47) (List.mem_append_right _ List.mem_cons_self)) (cap:=1) (H:=(b47,.cells 3 1 [.int .i64 (z:Int)])::(lb,.cells 134 15 (lfRow F.n M tb wb g1 g2 rb db))::(HT++(HW++(H1++(HR++((db,.obj (mapO (Value.int .i64) ((E).map Dye.ent) cl))::(HM.flatten++H)))))))).hsub zH) ?_
   rintro v H' ⟨H22,h22,⟨m3,rfl⟩,rfl⟩
   refine W_nil ?_
   refine WC_goal ?_
   refine WC_done zH zK ?_
   refine W_sr (W_assign rfl rfl (W_nil (W_ret1m (H2:=(lb,.cells 134 15 (lfRow F.n M tb wb g1 g2 rb db))::(HT++(HW++(H1++(H22++(HR++((db,.obj (mapO (Value.int .i64) ((E).map Dye.ent) cl))::(HM.flatten++H)))))))) Tryz.results71 rfl (.nil _) zH ?_)))
   have e:freeF F z=({ F with cl:=callG F.cl F.n z },[]):=if_pos (.inr (by rw [hrw]; rfl))
   rw [e]
   exact ⟨_,[],.mk (F:={ F with cl:=callG F.cl F.n z }) (db:=db) hT hO hW h1 o1 h22 (o2.call _) hR hU (.mk hok hdy) hM,.nil,by simp only [List.cons_append,List.append_assoc,List.nil_append]⟩
 ·skip
  rw [show optV (some ct)=.tuple #[.int .i64 ct,.bool true] from rfl]
  refine W_move rfl rfl (W_extract rfl rfl rfl (W_extract rfl rfl rfl (W_assign rfl rfl (W_assign rfl rfl (W_nil (W_sr (W_move rfl rfl (W_nilCheck rfl rfl ?_))))))))
  refine W_fieldAddr rfl fld134_3 zd rfl ?_
  refine W_load (v:=.pointer (some ⟨wb,0,none⟩)) rfl ty67 rfl (Cell.own (b:=lb) zM (lf_tl (j:=1) hM.m4)) rfl ?_
  refine W_move rfl rfl ?_
  refine W_callq (.cons rfl (.cons rfl .nil)) Tryz.call158 rfl (hW.runs (id:=(z:Int)) (fun p hp=>List.mem_cons_of_mem _ (List.mem_append_right _ (List.mem_append_left _ hp)))) ?_
  rcases hrw:inR F.Rw (z:Int) with _ | cx
  ·skip
   rw [show optV none=.tuple #[.int .i64 0,.bool false] from rfl]
   refine W_move rfl rfl (W_extract rfl rfl rfl (W_extract rfl rfl rfl (W_assign rfl rfl (W_assign rfl rfl (W_nil (W_seq (W_sr (W_move rfl rfl (W_move rfl rfl ?_)))))))))
   refine W_gno rfl rfl rfl ?_
   first | refine W_pickt rfl rfl rfl ?_ | refine W_pickf rfl rfl rfl ?_
   refine W_nil (W_condT rfl rfl (W_seq ?_))
   refine W_anyC [(lb,.cells 134 15 (lfRow F.n M tb wb g1 g2 rb db))] zk ?_
   refine WC_take 0 rfl zK zK zK rfl rfl (X_move rfl) rfl ?_
   refine WC_take 1 rfl zK zK zK rfl rfl (X_nilCheck rfl) rfl ?_
   refine WC_take 2 rfl zK zK zK rfl rfl (X_fieldAddr rfl fld134_5 zd) rfl ?_
   refine WC_take 3 rfl zK zK zK rfl rfl (X_load (v:=.pointer (some ⟨g2,0,none⟩)) rfl ty33 rfl (Cell.own (b:=lb) zM (lf_tl (j:=3) hM.m4))) rfl ?_
   refine WC_take 4 rfl zK zK zK rfl rfl (X_move rfl) rfl ?_
   refine WC_take 5 rfl zK zK zK rfl rfl (X_move rfl) rfl ?_
   refine WC_take 6 rfl zK zK zK rfl rfl (X_nilCheck rfl) rfl ?_
   refine WC_take 7 rfl zK zK zK rfl rfl (X_fieldAddr rfl fld134_0 zd) rfl ?_
   refine WC_take 8 rfl zK zK zK rfl rfl (X_load (v:=.int .i64 ((F.n:Nat):Int)) rfl ty3 rfl (Cell.own (b:=lb) zM rfl)) rfl ?_
   refine WC_take 9 rfl zK zK zK rfl rfl (X_bin rfl rfl (b_rem (by have:=o1.n; omega) (m:=((z%F.n:Nat):Int)) (tmNA z F.n))) rfl ?_
   refine WC_take 10 rfl zK zK zK rfl rfl (X_move rfl) rfl ?_
   refine WC_one 11 zH zK rfl rfl ?_
   refine W_buildSlice (l:=[.int .i64 (z:Int)]) ty63 ty3 (.cons rfl rfl rfl rfl rfl .nil) rfl rfl rfl rfl rfl rfl rfl (fun b47=>?_)
   refine W_nil ?_
   refine WC_goal ?_
   refine WC_one 12 zH zK rfl rfl ?_
   refine W_call (.cons rfl (.cons rfl (.cons rfl .nil))) Tryz.call70 rfl ((h2.call o2 (z:=z) (fun HZ=>Holds.own (b:=b47) (List.mem_append_right _ List.mem_cons_self)) (cap:=1) (H:=(b47,.cells 3 1 [.int .i64 (z:Int)])::(lb,.cells 134 15 (lfRow F.n M tb wb g1 g2 rb db))::(HT++(HW++(H1++(HR++((db,.obj (mapO (Value.int .i64) ((E).map Dye.ent) cl))::(HM.flatten++H)))))))).hsub zH) ?_
   rintro v H' ⟨H22,h22,⟨m3,rfl⟩,rfl⟩
   refine W_nil ?_
   refine WC_goal ?_
   refine WC_done zH zK ?_
   refine W_sr (W_assign rfl rfl (W_nil (W_ret1m (H2:=(lb,.cells 134 15 (lfRow F.n M tb wb g1 g2 rb db))::(HT++(HW++(H1++(H22++(HR++((db,.obj (mapO (Value.int .i64) ((E).map Dye.ent) cl))::(HM.flatten++H)))))))) Tryz.results71 rfl (.nil _) zH ?_)))
   have e:freeF F z=({ F with cl:=callG F.cl F.n z },[]):=if_pos (.inl (by rw [hrt]; rfl))
   rw [e]
   exact ⟨_,[],.mk (F:={ F with cl:=callG F.cl F.n z }) (db:=db) hT hO hW h1 o1 h22 (o2.call _) hR hU (.mk hok hdy) hM,.nil,by simp only [List.cons_append,List.append_assoc,List.nil_append]⟩
  ·skip
   rw [show optV (some cx)=.tuple #[.int .i64 cx,.bool true] from rfl]
   refine W_move rfl rfl (W_extract rfl rfl rfl (W_extract rfl rfl rfl (W_assign rfl rfl (W_assign rfl rfl (W_nil (W_seq (W_sr (W_move rfl rfl (W_move rfl rfl ?_)))))))))
   refine W_gno rfl rfl rfl ?_
   first | refine W_pickt rfl rfl rfl ?_ | refine W_pickf rfl rfl rfl ?_
   refine W_nil (W_condT rfl rfl (W_seq ?_))
   refine W_anyC [(lb,.cells 134 15 (lfRow F.n M tb wb g1 g2 rb db))] zk ?_
   refine WC_take 0 rfl zK zK zK rfl rfl (X_move rfl) rfl ?_
   refine WC_take 1 rfl zK zK zK rfl rfl (X_nilCheck rfl) rfl ?_
   refine WC_take 2 rfl zK zK zK rfl rfl (X_fieldAddr rfl fld134_5 zd) rfl ?_
   refine WC_take 3 rfl zK zK zK rfl rfl (X_load (v:=.pointer (some ⟨g2,0,none⟩)) rfl ty33 rfl (Cell.own (b:=lb) zM (lf_tl (j:=3) hM.m4))) rfl ?_
   refine WC_take 4 rfl zK zK zK rfl rfl (X_move rfl) rfl ?_
   refine WC_take 5 rfl zK zK zK rfl rfl (X_move rfl) rfl ?_
   refine WC_take 6 rfl zK zK zK rfl rfl (X_nilCheck rfl) rfl ?_
   refine WC_take 7 rfl zK zK zK rfl rfl (X_fieldAddr rfl fld134_0 zd) rfl ?_
   refine WC_take 8 rfl zK zK zK rfl rfl (X_load (v:=.int .i64 ((F.n:Nat):Int)) rfl ty3 rfl (Cell.own (b:=lb) zM rfl)) rfl ?_
   refine WC_take 9 rfl zK zK zK rfl rfl (X_bin rfl rfl (b_rem (by have:=o1.n; omega) (m:=((z%F.n:Nat):Int)) (tmNA z F.n))) rfl ?_
   refine WC_take 10 rfl zK zK zK rfl rfl (X_move rfl) rfl ?_
   refine WC_one 11 zH zK rfl rfl ?_
   refine W_buildSlice (l:=[.int .i64 (z:Int)]) ty63 ty3 (.cons rfl rfl rfl rfl rfl .nil) rfl rfl rfl rfl rfl rfl rfl (fun b47=>?_)
   refine W_nil ?_
   refine WC_goal ?_
   refine WC_one 12 zH zK rfl rfl ?_
   refine W_call (.cons rfl (.cons rfl (.cons rfl .nil))) Tryz.call70 rfl ((h2.call o2 (z:=z) (fun HZ=>Holds.own (b:=b47) (List.mem_append_right _ List.mem_cons_self)) (cap:=1) (H:=(b47,.cells 3 1 [.int .i64 (z:Int)])::(lb,.cells 134 15 (lfRow F.n M tb wb g1 g2 rb db))::(HT++(HW++(H1++(HR++((db,.obj (mapO (Value.int .i64) ((E).map Dye.ent) cl))::(HM.flatten++H)))))))).hsub zH) ?_
   rintro v H' ⟨H22,h22,⟨m3,rfl⟩,rfl⟩
   refine W_nil ?_
   refine WC_goal ?_
   refine WC_done zH zK ?_
   refine W_sr (W_assign rfl rfl (W_nil (W_ret1m (H2:=(lb,.cells 134 15 (lfRow F.n M tb wb g1 g2 rb db))::(HT++(HW++(H1++(H22++(HR++((db,.obj (mapO (Value.int .i64) ((E).map Dye.ent) cl))::(HM.flatten++H)))))))) Tryz.results71 rfl (.nil _) zH ?_)))
   have e:freeF F z=({ F with cl:=callG F.cl F.n z },[]):=if_pos (.inl (by rw [hrt]; rfl))
   rw [e]
   exact ⟨_,[],.mk (F:={ F with cl:=callG F.cl F.n z }) (db:=db) hT hO hW h1 o1 h22 (o2.call _) hR hU (.mk hok hdy) hM,.nil,by simp only [List.cons_append,List.append_assoc,List.nil_append]⟩
end Go.Proofs.YtincjohoncljoaaGreatDoor
