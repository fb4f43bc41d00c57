/-
  Own work: contracts of functions that the statement reaches, and plain facts on what they compute; each theorem says its conditions.
-/
import Derived.Test.YtincjohoncljoaaGreatDoorLfT1
import Derived.Test.YtincjohoncljoaaGreatDoorLfS1
import Derived.Test.YtincjohoncljoaaGreatDoorLfS2
import Derived.Test.YtincjohoncljoaaGreatDoorLfA
set_option linter.all false
set_option linter.unusedSimpArgs false
set_option linter.unusedVariables false
set_option maxHeartbeats 16000000
namespace Go.Proofs.YtincjohoncljoaaGreatDoor
open Go Go.Sl
attribute [local irreducible] W
def setR (R:List (Int × Cnt)) (k:Int) (c:Cnt):List (Int × Cnt):=R.map (fun q=>if k=q.1 then (q.1,c) else q)
def getR (R:List (Int × Cnt)) (k:Int):Option Cnt:=(R.find? (fun q=>decide (k=q.1))).map (·.2)
def holdR (R:List (Int × Cnt)) (top k:Int):List (Int × Cnt) × Int:=match getR R k with
 | some c=>(setR R k (getC c).1,(getC c).2)
 | none=>(R++[(k,⟨1,top,false⟩)],0)
def dropR (R:List (Int × Cnt)) (k:Int):List (Int × Cnt) × Bool × Int:=match getR R k with
 | some c=>(if (putC_ c).2.1=true then R.filter (fun q=>decide (k≠q.1)) else setR R k (putC_ c).1,(putC_ c).2)
 | none=>(R,false,4)
def cntR (R:List (Int × Cnt)) (k:Int):Int:=match getR R k with
 | some c=>c.n
 | none=>0
def prj (e:Rfe):Int × Cnt:=(e.key,e.c)
theorem getR_prj (E:List Rfe) (k:Int):getR (E.map prj) k=(fndR E k).map (·.c):=by
 unfold getR fndR
 rw [List.find?_map,Option.map_map]
 rfl
theorem ents_keys (E:List Rfe):(E.map Rfe.ent).map (·.1)=E.map (·.key):=by rw [List.map_map]; rfl
theorem split_ne {E1 E2:List Rfe} {e:Rfe} (hn:((E1++e::E2).map (·.key)).Nodup):(∀ q∈E1,q.key≠e.key)∧∀ q∈E2,q.key≠e.key:=by
 rw [List.map_append,List.map_cons,List.nodup_append] at hn
 obtain ⟨h1,h2,h3⟩:=hn
 refine ⟨fun q hq h=>h3 q.key (List.mem_map.2 ⟨q,hq,rfl⟩) e.key List.mem_cons_self h,fun q hq h=>(List.nodup_cons.1 h2).1 (List.mem_map.2 ⟨q,hq,h⟩)⟩
theorem prj_set {E1 E2:List Rfe} {e:Rfe} {c:Cnt} (hn:((E1++e::E2).map (·.key)).Nodup):(E1++{ e with c:=c }::E2).map prj=setR ((E1++e::E2).map prj) e.key c:=by
 obtain ⟨h1,h2⟩:=split_ne hn
 unfold setR
 rw [List.map_map,List.map_append,List.map_append,List.map_cons,List.map_cons]
 congr 1
 ·exact List.map_congr_left fun q hq=>(if_neg (fun h=>h1 q hq h.symm)).symm
 ·congr 1
  ·exact (if_pos rfl).symm
  ·exact List.map_congr_left fun q hq=>(if_neg (fun h=>h2 q hq h.symm)).symm
theorem prj_del {E1 E2:List Rfe} {e:Rfe} (hn:((E1++e::E2).map (·.key)).Nodup):(E1++E2).map prj=((E1++e::E2).map prj).filter (fun q=>decide (e.key≠q.1))∧(E1++E2).map Rfe.ent=mDel ((E1++e::E2).map Rfe.ent) e.key:=by
 obtain ⟨h1,h2⟩:=split_ne hn
 have key:(E1++E2)=(E1++e::E2).filter (fun q=>decide (e.key≠q.key)):=by
  have f1:E1.filter (fun q=>decide (e.key≠q.key))=E1:=List.filter_eq_self.2 (fun q hq=>decide_eq_true (h1 q hq).symm)
  have f2:E2.filter (fun q=>decide (e.key≠q.key))=E2:=List.filter_eq_self.2 (fun q hq=>decide_eq_true (h2 q hq).symm)
  rw [List.filter_append,List.filter_cons_of_neg (by simp),f1,f2]
 refine ⟨?_,?_⟩
 ·rw [List.filter_map]; conv=>lhs; rw [key]
  rfl
 ·unfold mDel
  rw [List.filter_map]; conv=>lhs; rw [key]
  rfl
theorem ents_set {E1 E2:List Rfe} {e:Rfe} (c:Cnt):(E1++{ e with c:=c }::E2).map Rfe.ent=(E1++e::E2).map Rfe.ent:=by
 rw [List.map_append,List.map_append]; rfl
theorem rvalue_q {w0:World} {H:Heap} {rb mb cl:Nat} {top k:Int} {E:List Rfe} (hm1:(rb,.cells 304 2 [.int .i64 top,.map (some mb)])∈H) (hm2:(mb,.obj (mapO (Value.int .i64) (E.map Rfe.ent) cl))∈H) (hm3:∀ e∈E,e.blk∈H) :PureAt Tryz.prog w0 H 80 [.pointer (some ⟨rb,0,none⟩),.int .i64 k] (.int .i64 (match fndR E k with | some e=>e.c.n | none=>0)):=by
 refine L_enter Tryz.func80 rfl Tryz.ntmps80 rfl rfl ?_
 refine W_sr (W_assign rfl rfl (W_nil (W_sr (W_move rfl rfl (W_move rfl rfl (W_callq (.cons rfl (.cons rfl .nil)) Tryz.call168 rfl (rfind_q (E:=E) hm1 hm2) ?_))))))
 rcases hf:fndR E k with _ | e
 ·skip
  refine W_callq (.cons rfl .nil) Tryz.call169 rfl cValue_nil ?_
  refine W_assign rfl rfl (W_nil (W_ret1m (H2:=H) Tryz.results80 rfl (.nil _) zH ?_))
  exact ⟨rfl,rfl⟩
 ·skip
  refine W_callq (.cons rfl .nil) Tryz.call169 rfl (cValue_q (cb:=e.cb) (c:=e.c) (hm3 e (fndR_mem hf).1)) ?_
  refine W_assign rfl rfl (W_nil (W_ret1m (H2:=H) Tryz.results80 rfl (.nil _) zH ?_))
  exact ⟨rfl,rfl⟩
section
variable {w0:World} {H HR:Heap} {rb:Nat} {top:Int} {R:List (Int × Cnt)}
theorem RefH.value (hR:RefH rb top R HR) (hm:∀ p∈HR,p∈H) {k:Int}:PureAt Tryz.prog w0 H 80 [.pointer (some ⟨rb,0,none⟩),.int .i64 k] (.int .i64 (cntR R k)):=by
 cases hR with
 | @mk mb cl E hok hR =>
  subst hR
  have e1:cntR (E.map prj) k=match fndR E k with | some e=>e.c.n | none=>0:=by
   unfold cntR; rw [getR_prj]; cases fndR E k <;> rfl
  show PureAt _ _ _ _ _ (.int .i64 (cntR (E.map prj) k))
  rw [e1]
  exact rvalue_q (hm _ List.mem_cons_self) (hm _ (List.mem_cons_of_mem _ List.mem_cons_self)) (fun e he=>hm _ (List.mem_cons_of_mem _ (List.mem_cons_of_mem _ (List.mem_map.2 ⟨e,he,rfl⟩))))
theorem RefH.hold (hR:RefH rb top R HR) (ht:1≤top∧top≤65535) (hr:∀ p∈R,0≤p.2.n∧p.2.n≤65535) (hlen:R.length<64) {k:Int}:LCalls Tryz.prog w0 259 #[.pointer (some ⟨rb,0,none⟩),.int .i64 k] (HR++H) (fun v H'=>∃ HR',RefH rb top (holdR R top k).1 HR'∧v=.int .i64 (holdR R top k).2∧H'=HR'++H):=by
 cases hR with
 | @mk mb cl E hok hR =>
  subst hR
  show LCalls _ _ _ _ ((rb,.cells 304 2 [.int .i64 top,.map (some mb)])::(mb,.obj (mapO (Value.int .i64) (E.map Rfe.ent) cl))::(E.map Rfe.blk++H)) (fun v H'=>∃ HR',RefH rb top (holdR (E.map prj) top k).1 HR'∧v=.int .i64 (holdR (E.map prj) top k).2∧H'=HR'++H)
  have hg:=getR_prj E k
  have hlE:E.length<64:=by rw [List.length_map] at hlen; exact hlen
  cases hf:fndR E k with
  | none =>
   rw [hf] at hg
   refine (rhold_none (H:=H) (top:=top) (HA:=E.map Rfe.blk) (HB:=H) hf ht hok zO).mono ?_
   rintro v H' ⟨cb,rfl,rfl⟩
   have hno:mHas (E.map Rfe.ent) k=false:=by
    cases h:mHas (E.map Rfe.ent) k with
    | false=>rfl
    | true =>
     rw [mHas_iff,ents_keys] at h
     obtain ⟨q,hq,hqk⟩:=List.mem_map.1 h
     unfold fndR at hf
     have:=List.find?_eq_none.1 hf q hq
     exact absurd (decide_eq_true hqk.symm) this
   have e1:mPut (E.map Rfe.ent) cl k (.pointer (some ⟨cb,0,none⟩))=(E++[Rfe.mk k cb cl (Cnt.mk 1 top false)]).map Rfe.ent:=by
    unfold mPut; rw [hno,List.map_append]; rfl
   have hok2:=hok.put k (.pointer (some ⟨cb,0,none⟩))
   rw [e1] at hok2 ⊢
   refine ⟨_,.mk (mb:=mb) hok2 (by unfold holdR; rw [hg,List.map_append]; rfl),by unfold holdR; rw [hg]; rfl,?_⟩
   show _=_::_::((E++[_]).map Rfe.blk++H)
   rw [List.map_append (f:=Rfe.blk),List.append_assoc]
   rfl
  | some e =>
   rw [hf] at hg
   obtain ⟨he,rfl⟩:=fndR_mem hf
   obtain ⟨E1,E2,rfl⟩:=List.append_of_mem he
   have hn:((E1++e::E2).map (·.key)).Nodup:=by rw [← ents_keys]; exact hok.keys
   have hre:=hr (prj e) (List.mem_map.2 ⟨e,he,rfl⟩)
   have:=rhold_some (H:=H) (w0:=w0) (rb:=rb) (mb:=mb) (cl:=cl) (top:=top) (HA:=E1.map Rfe.blk) (HB:=E2.map Rfe.blk++H) hf hre
   rw [List.map_append (f:=Rfe.blk),List.append_assoc]
   refine this.mono ?_
   rintro v H' ⟨rfl,rfl⟩
   refine ⟨_,.mk (mb:=mb) (cl:=cl) (E:=E1++{ e with c:=(getC e.c).1 }::E2) (by rw [ents_set (e:=e) (getC e.c).1]; exact hok) ?_,?_,?_⟩
   ·unfold holdR; rw [hg]; exact prj_set hn
   ·unfold holdR; rw [hg]; rfl
   ·rw [ents_set (e:=e) (getC e.c).1,List.map_append (f:=Rfe.blk)]
    simp only [List.cons_append,List.append_assoc]
    rfl
theorem RefH.drop (hR:RefH rb top R HR) (hr:∀ p∈R,0≤p.2.n∧p.2.n≤65535) {k:Int}:LCalls Tryz.prog w0 160 #[.pointer (some ⟨rb,0,none⟩),.int .i64 k] (HR++H) (fun v H'=>∃ HR',RefH rb top (dropR R k).1 HR'∧v=.tuple #[.bool (dropR R k).2.1,.int .i64 (dropR R k).2.2]∧H'=HR'++H):=by
 cases hR with
 | @mk mb cl E hok hR =>
  subst hR
  show LCalls _ _ _ _ ((rb,.cells 304 2 [.int .i64 top,.map (some mb)])::(mb,.obj (mapO (Value.int .i64) (E.map Rfe.ent) cl))::(E.map Rfe.blk++H)) (fun v H'=>∃ HR',RefH rb top (dropR (E.map prj) k).1 HR'∧v=.tuple #[.bool (dropR (E.map prj) k).2.1,.int .i64 (dropR (E.map prj) k).2.2]∧H'=HR'++H)
  have hg:=getR_prj E k
  cases hf:fndR E k with
  | none =>
   rw [hf] at hg
   refine (rdrop_none (H:=H) (top:=top) (HX:=E.map Rfe.blk++H) hf).mono ?_
   rintro v H' ⟨rfl,rfl⟩
   exact ⟨_,.mk (mb:=mb) hok (by unfold dropR; rw [hg]; rfl),by unfold dropR; rw [hg]; rfl,rfl⟩
  | some e =>
   rw [hf] at hg
   obtain ⟨he,rfl⟩:=fndR_mem hf
   obtain ⟨E1,E2,rfl⟩:=List.append_of_mem he
   have hn:((E1++e::E2).map (·.key)).Nodup:=by rw [← ents_keys]; exact hok.keys
   have hre:=hr (prj e) (List.mem_map.2 ⟨e,he,rfl⟩)
   have:=rdrop_some (H:=H) (w0:=w0) (rb:=rb) (mb:=mb) (cl:=cl) (top:=top) (HA:=E1.map Rfe.blk) (HB:=E2.map Rfe.blk++H) hf hre hok
   rw [List.map_append (f:=Rfe.blk),List.append_assoc]
   refine this.mono ?_
   rintro v H' ⟨rfl,rfl⟩
   have hd:dropR ((E1++e::E2).map prj) e.key=(if (putC_ e.c).2.1=true then ((E1++e::E2).map prj).filter (fun q=>decide (e.key≠q.1)) else setR ((E1++e::E2).map prj) e.key (putC_ e.c).1,(putC_ e.c).2):=by
    unfold dropR; rw [hg]; rfl
   rw [hd]
   by_cases hl:(putC_ e.c).2.1=true
   ·rw [if_pos hl,if_pos hl]
    obtain ⟨p1,p2⟩:=prj_del hn
    refine ⟨_,.mk (mb:=mb) (cl:=cl) (E:=E1++E2) (by rw [p2]; exact hok.del e.key) p1,rfl,?_⟩
    rw [p2,List.map_append (f:=Rfe.blk)]
    simp only [List.cons_append,List.append_assoc]
   ·rw [if_neg hl,if_neg hl]
    refine ⟨_,.mk (mb:=mb) (cl:=cl) (E:=E1++{ e with c:=(putC_ e.c).1 }::E2) (by rw [ents_set (e:=e) (putC_ e.c).1]; exact hok) (prj_set hn),rfl,?_⟩
    rw [ents_set (e:=e) (putC_ e.c).1,List.map_append (f:=Rfe.blk)]
    simp only [List.cons_append,List.append_assoc]
    rfl
end
theorem rHold_L {w0:World} {H:Heap} {HR:Heap} {rb:Nat} {top k:Int} {R:List (Int × Cnt)} {ad:Option Addr} {cap:Nat} (hR:RefH rb top R HR) (ht:1≤top∧top≤65535) (hr:∀ p∈R,0≤p.2.n∧p.2.n≤65535) (hlen:R.length<64) (hrow:Holds w0 H ad [.int .i64 k]) :LCalls Tryz.prog w0 163 #[.pointer (some ⟨rb,0,none⟩),.slice ad 1 cap] (HR++H) (fun v H'=>∃ HR',RefH rb top (holdR R top k).1 HR'∧v=.int .i64 (holdR R top k).2∧H'=HR'++H):=by
 refine L_enter (l:=[.pointer (some ⟨rb,0,none⟩),.slice ad 1 cap]) Tryz.func163 rfl Tryz.ntmps163 rfl rfl ?_
 refine W_sr (W_assign rfl rfl (W_nil (W_seq (W_sr (W_move rfl rfl ?_)))))
 refine W_x (X_ptrNil rfl rfl ty131) (fun _ h=>by cases h) rfl ?_
 refine W_nil (W_condF rfl rfl (W_skip (W_seq (W_sr (W_move rfl rfl (W_len rfl ty63 rfl rfl ?_))))))
 refine W_move rfl rfl (W_nil (W_block ?_))
 refine W_loopC (X:=(Nat × List (Int × Cnt) × Heap)) [(0,_),(10,_),(11,_)] (fun (z:(Nat × List (Int × Cnt) × Heap))=>[(12,.int .i64 (z.1:Int))]) (fun _=>_) (fun (z:(Nat × List (Int × Cnt) × Heap))=>z.2.2++H) (fun (z:(Nat × List (Int × Cnt) × Heap))=>z.1≤1∧RefH rb top z.2.1 z.2.2∧(z.1=0→z.2.1=R)∧(z.1=1→z.2.1=(holdR R top k).1∧(holdR R top k).2=0)) (fun (z:(Nat × List (Int × Cnt) × Heap))=>1-z.1) (0,R,HR) ⟨Nat.zero_le _,hR,fun _=>rfl,fun h=>(by cases h)⟩ (sub_cons rfl (sub_cons rfl (sub_cons rfl (sub_nil _)))) (sub_cons rfl (sub_nil _)) rfl zH ?_
 rintro ⟨i,R1,HR1⟩ ⟨hi,hR1,h0,h1⟩
 dsimp only at hi hR1 h0 h1 ⊢
 simp only [List.cons_append,List.nil_append]
 refine W_sr (W_bin rfl rfl b_lss rfl ?_)
 refine W_nil (W_seq ?_)
 refine W_condPS (p:=i<1) rfl (by rw [decide_eq_true_eq]; omega) (fun q0=>?_) (fun q0=>?_)
 ·skip
  refine W_skip (W_seq (W_block (W_sr ?_)))
  obtain rfl:i=0:=by omega
  obtain rfl:R=R1:=(h0 rfl).symm
  obtain ⟨q0_,p0_,rfl,hc⟩:=hrow.at (i:=0) (v:=.int .i64 k) rfl
  refine W_indexAddr (j:=0) rfl rfl ty63 ty3 rfl zd rfl rfl ?_
  refine W_load (v:=.int .i64 k) rfl ty3 rfl (by exact hc.up zH) rfl ?_
  refine W_assign rfl rfl (W_nil (W_sr (W_move rfl rfl (W_move rfl rfl (W_call (.cons rfl (.cons rfl .nil)) Tryz.call259 rfl ((RefH.hold (H:=H) hR1 ht hr hlen (k:=k)).hsub zH) ?_)))))
  rintro v H' ⟨HR2,hR2,rfl,rfl⟩
  refine W_assign rfl rfl (W_nil (W_sr (W_move rfl rfl (W_bin rfl rfl b_neq rfl ?_))))
  refine W_nil ?_
  refine W_condPS (p:=(holdR R top k).2≠0) rfl (by simp) (fun q1=>?_) (fun q1=>?_)
  ·skip
   refine W_sr (W_move rfl rfl (W_assign rfl rfl (W_nil (W_ret1m (H2:=HR2++H) Tryz.results163 rfl (.nil _) zH ?_))))
   exact ⟨HR2,hR2,rfl,rfl⟩
  ·skip
   refine W_skip (W_blk (W_region (W_bin rfl rfl (b_add (m:=1) rfl) rfl ?_)))
   refine W_move rfl rfl (W_nil ?_)
   refine W_again (1,(holdR R top k).1,HR2) ⟨Nat.le_refl _,hR2,fun h=>(by cases h),fun _=>⟨rfl,Classical.not_not.1 q1⟩⟩ (by show 1-1<1-0; decide) (sub_cons rfl (sub_cons rfl (sub_cons rfl (sub_cons rfl (sub_nil _))))) rfl zH
 ·skip
  refine W_exit rfl ?_
  refine W_sr (W_assign rfl rfl (W_nil (W_ret1m (H2:=HR1++H) Tryz.results163 rfl (.nil _) zH ?_)))
  obtain rfl:i=1:=by omega
  obtain ⟨rfl,e⟩:=h1 rfl
  exact ⟨HR1,hR1,by rw [e],rfl⟩
theorem refNew_L {w0:World} {H:Heap} {top:Int} (ht:1≤top∧top≤65535) :LCalls Tryz.prog w0 108 #[.int .i64 top] (H) (fun v H'=>∃ rb HR,RefH rb top [] HR∧v=.tuple #[.pointer (some ⟨rb,0,none⟩),.int .i64 0]∧H'=HR++H):=by
 refine L_enter (l:=[.int .i64 top]) Tryz.func108 rfl Tryz.ntmps108 rfl rfl ?_
 refine W_sr (W_assign rfl rfl (W_assign rfl rfl (W_nil (W_seq (W_sr (W_move rfl rfl (W_bin rfl rfl b_lss rfl ?_)))))))
 first | rw [decide_eq_true (by omega)] | rw [decide_eq_false (by omega)]
 refine W_move rfl rfl (W_gyes rfl rfl (W_move rfl rfl (W_gyes rfl rfl (W_bin rfl rfl b_gtr rfl ?_))))
 first | rw [decide_eq_true (by omega)] | rw [decide_eq_false (by omega)]
 first | refine W_pickt rfl rfl rfl ?_ | refine W_pickf rfl rfl rfl ?_
 refine W_nil (W_condF rfl rfl (W_skip (W_sr (W_move rfl rfl ?_))))
 refine W_makeMap (kf:=(Value.int .i64)) rfl (fun b11=>?_)
 refine W_build (l:=[.int .i64 top,.map (some b11)]) ty304 pl304 (.cons rfl rfl rfl rfl rfl (.cons rfl rfl rfl rfl rfl .nil)) rfl rfl rfl ?_
 refine W_box (l:=[.int .i64 top,.map (some b11)]) rfl rfl rfl (fun b13=>?_)
 refine W_assign rfl rfl (W_assign rfl rfl (W_nil (W_ret2m Tryz.results108 rfl rfl (.nil _) (.refl _) ?_)))
 exact ⟨b13,_,.mk (E:=[]) (MapOk.nil 0) rfl,rfl,rfl⟩
theorem shrN (x k:Nat) (hk:k<64):Int.fdiv (x:Int) (2 ^ (min (k:Int).toNat IntKind.u64.bits))=((x >>> k:Nat):Int):=by
 have e0:min (k:Int).toNat IntKind.u64.bits=k:=by
  have:IntKind.u64.bits=64:=rfl
  omega
 rw [e0,Nat.shiftRight_eq_div_pow,Int.fdiv_eq_ediv_of_nonneg _ (by exact Int.le_of_lt (Int.pow_pos (by decide)))]
 rw [show (2:Int) ^ k=((2 ^ k:Nat):Int) from (Int.natCast_pow 2 k).symm]
 exact (Int.natCast_ediv _ _).symm
theorem shr_mul (x k:Nat):(x >>> k)*2 ^ k≤x:=by rw [Nat.shiftRight_eq_div_pow]; exact Nat.div_mul_le_self x _
theorem and127 {a:Nat} (ha:a<9223372036854775808):bitsOf .and .i64 (a:Int) 127=((a%128:Nat):Int):=by
 have ea:BitVec.ofInt 64 (a:Int)=BitVec.ofNat 64 a:=by simp
 have eb:BitVec.ofInt 64 (127:Int)=BitVec.ofNat 64 127:=by decide
 show IntKind.i64.wrap (((BitVec.ofInt 64 (a:Int) &&& BitVec.ofInt 64 (127:Int)).toNat:Nat):Int)=_
 rw [ea,eb,BitVec.toNat_and,BitVec.toNat_ofNat,BitVec.toNat_ofNat,Nat.mod_eq_of_lt (show a<2 ^ 64 by omega),Nat.mod_eq_of_lt (show 127<2 ^ 64 by decide),show (127:Nat)=2 ^ 7-1 from rfl,Nat.and_two_pow_sub_one_eq_mod]
 exact i64w ⟨by omega,by omega⟩
theorem ones_pure {x:Nat} (hx:x<18446744073709551616):Pure Tryz.prog (fun _=>True) 309 [.int .u64 ((x:Nat):Int)] (.int .i64 ((popN 64 x:Nat):Int)):=by
 intro w0 H hT
 obtain ⟨s1,es1⟩:∃ y:Nat,y=x >>> 1:=⟨_,rfl⟩
 obtain ⟨p1,ep1⟩:∃ y:Nat,y=s1 &&& 6148914691236517205:=⟨_,rfl⟩
 obtain ⟨q1,eq1⟩:∃ y:Nat,y=x &&& 6148914691236517205:=⟨_,rfl⟩
 obtain ⟨a,ea⟩:∃ y:Nat,y=p1+q1:=⟨_,rfl⟩
 obtain ⟨s2,es2⟩:∃ y:Nat,y=a >>> 2:=⟨_,rfl⟩
 obtain ⟨p2,ep2⟩:∃ y:Nat,y=s2 &&& 3689348814741910323:=⟨_,rfl⟩
 obtain ⟨q2,eq2⟩:∃ y:Nat,y=a &&& 3689348814741910323:=⟨_,rfl⟩
 obtain ⟨b,eb⟩:∃ y:Nat,y=p2+q2:=⟨_,rfl⟩
 obtain ⟨s3,es3⟩:∃ y:Nat,y=b >>> 4:=⟨_,rfl⟩
 obtain ⟨t3,et3⟩:∃ y:Nat,y=s3+b:=⟨_,rfl⟩
 obtain ⟨c,ec⟩:∃ y:Nat,y=t3 &&& 1085102592571150095:=⟨_,rfl⟩
 obtain ⟨s4,es4⟩:∃ y:Nat,y=c >>> 8:=⟨_,rfl⟩
 obtain ⟨d,ed⟩:∃ y:Nat,y=c+s4:=⟨_,rfl⟩
 obtain ⟨s5,es5⟩:∃ y:Nat,y=d >>> 16:=⟨_,rfl⟩
 obtain ⟨f,ef⟩:∃ y:Nat,y=d+s5:=⟨_,rfl⟩
 obtain ⟨s6,es6⟩:∃ y:Nat,y=f >>> 32:=⟨_,rfl⟩
 obtain ⟨g,eg⟩:∃ y:Nat,y=f+s6:=⟨_,rfl⟩
 have hr:popN 64 x=g%128:=by
  rw [← ones64_is hx]
  unfold ones64
  dsimp only
  rw [eg,es6,ef,es5,ed,es4,ec,et3,es3,eb,ep2,eq2,es2,ea,ep1,eq1,es1]
 have bp1:p1≤6148914691236517205:=ep1 ▸ Nat.and_le_right
 have bq1:q1≤6148914691236517205:=eq1 ▸ Nat.and_le_right
 have bp2:p2≤3689348814741910323:=ep2 ▸ Nat.and_le_right
 have bq2:q2≤3689348814741910323:=eq2 ▸ Nat.and_le_right
 have bc:c≤1085102592571150095:=ec ▸ Nat.and_le_right
 have bs1:s1≤x:=es1 ▸ Nat.shiftRight_le ..
 have bs2:s2≤a:=es2 ▸ Nat.shiftRight_le ..
 have bs3:s3≤b:=es3 ▸ Nat.shiftRight_le ..
 have bs4:s4≤c:=es4 ▸ Nat.shiftRight_le ..
 have bs5:s5≤d:=es5 ▸ Nat.shiftRight_le ..
 have bs6:s6≤f:=es6 ▸ Nat.shiftRight_le ..
 have bs3':s3*16≤b:=es3 ▸ shr_mul b 4
 have bs6':s6*4294967296≤f:=es6 ▸ shr_mul f 32
 have bs5':s5*65536≤d:=es5 ▸ shr_mul d 16
 rw [hr]
 refine L_enter Tryz.func309 rfl Tryz.ntmps309 rfl rfl ?_
 refine W_sr (W_assign rfl rfl (W_nil (W_sr (W_move rfl rfl ?_))))
 refine W_bin rfl rfl (b_shr (by decide) (m:=((s1:Nat):Int)) ((shrN x 1 (by decide)).trans (by rw [es1]))) rfl ?_
 refine W_bin rfl rfl (b_and (m:=((p1:Nat):Int)) ((and64 (b:=6148914691236517205) (by omega) (by decide)).trans (by rw [ep1]))) rfl ?_
 refine W_move rfl rfl ?_
 refine W_bin rfl rfl (b_and (m:=((q1:Nat):Int)) ((and64 (b:=6148914691236517205) (by omega) (by decide)).trans (by rw [eq1]))) rfl ?_
 refine W_bin rfl rfl (b_add (m:=((a:Nat):Int)) (by rw [u64w (by omega)]; omega)) rfl ?_
 refine W_assign rfl rfl (W_nil (W_sr (W_move rfl rfl ?_)))
 refine W_bin rfl rfl (b_shr (by decide) (m:=((s2:Nat):Int)) ((shrN a 2 (by decide)).trans (by rw [es2]))) rfl ?_
 refine W_bin rfl rfl (b_and (m:=((p2:Nat):Int)) ((and64 (b:=3689348814741910323) (by omega) (by decide)).trans (by rw [ep2]))) rfl ?_
 refine W_move rfl rfl ?_
 refine W_bin rfl rfl (b_and (m:=((q2:Nat):Int)) ((and64 (b:=3689348814741910323) (by omega) (by decide)).trans (by rw [eq2]))) rfl ?_
 refine W_bin rfl rfl (b_add (m:=((b:Nat):Int)) (by rw [u64w (by omega)]; omega)) rfl ?_
 refine W_assign rfl rfl (W_nil (W_sr (W_move rfl rfl ?_)))
 refine W_bin rfl rfl (b_shr (by decide) (m:=((s3:Nat):Int)) ((shrN b 4 (by decide)).trans (by rw [es3]))) rfl ?_
 refine W_move rfl rfl ?_
 refine W_bin rfl rfl (b_add (m:=((t3:Nat):Int)) (by rw [u64w (by omega)]; omega)) rfl ?_
 refine W_bin rfl rfl (b_and (m:=((c:Nat):Int)) ((and64 (b:=1085102592571150095) (by omega) (by decide)).trans (by rw [ec]))) rfl ?_
 refine W_assign rfl rfl (W_nil (W_sr (W_move rfl rfl (W_move rfl rfl ?_))))
 refine W_bin rfl rfl (b_shr (by decide) (m:=((s4:Nat):Int)) ((shrN c 8 (by decide)).trans (by rw [es4]))) rfl ?_
 refine W_bin rfl rfl (b_add (m:=((d:Nat):Int)) (by rw [u64w (by omega)]; omega)) rfl ?_
 refine W_assign rfl rfl (W_nil (W_sr (W_move rfl rfl (W_move rfl rfl ?_))))
 refine W_bin rfl rfl (b_shr (by decide) (m:=((s5:Nat):Int)) ((shrN d 16 (by decide)).trans (by rw [es5]))) rfl ?_
 refine W_bin rfl rfl (b_add (m:=((f:Nat):Int)) (by rw [u64w (by omega)]; omega)) rfl ?_
 refine W_assign rfl rfl (W_nil (W_sr (W_move rfl rfl (W_move rfl rfl ?_))))
 refine W_bin rfl rfl (b_shr (by decide) (m:=((s6:Nat):Int)) ((shrN f 32 (by decide)).trans (by rw [es6]))) rfl ?_
 refine W_bin rfl rfl (b_add (m:=((g:Nat):Int)) (by rw [u64w (by omega)]; omega)) rfl ?_
 refine W_assign rfl rfl (W_nil (W_sr (W_move rfl rfl (W_conv rfl ty30 ty3 (i64w zO) rfl ?_))))
 refine W_bin rfl rfl (b_and (m:=((g%128:Nat):Int)) (and127 zO)) rfl ?_
 refine W_assign rfl rfl (W_nil (W_ret1m (H2:=H) Tryz.results309 rfl (.nil _) zH ?_))
 exact ⟨rfl,rfl⟩
theorem mlen_pure {x:Nat} (hx:x<18446744073709551616):Pure Tryz.prog (fun _=>True) 222 [.int .u64 ((x:Nat):Int)] (.int .i64 ((popN 64 x:Nat):Int)):=by
 intro w0 H hT
 refine L_enter Tryz.func222 rfl Tryz.ntmps222 rfl rfl ?_
 refine W_sr (W_assign rfl rfl (W_nil (W_sr (W_move rfl rfl ?_))))
 refine W_callp (.cons rfl .nil) Tryz.call309 rfl (T:=fun _=>True) trivial (ones_pure hx) ?_
 refine W_assign rfl rfl (W_nil (W_ret1m (H2:=H) Tryz.results222 rfl (.nil _) zH ?_))
 exact ⟨rfl,rfl⟩
theorem full_pure {n:Nat} (h1:1≤n) (h2:n≤64):Pure Tryz.prog (fun _=>True) 260 [.int .i64 (n:Int)] (.int .u64 ((2 ^ n-1:Nat):Int)):=by
 intro w0 H hT
 refine L_enter Tryz.func260 rfl Tryz.ntmps260 rfl rfl ?_
 refine W_sr (W_assign rfl rfl (W_nil (W_seq (W_block (W_sr (W_move rfl rfl (W_bin rfl rfl b_lss rfl ?_)))))))
 refine W_assign rfl rfl (W_nil (W_condF rfl (decide_eq_false zO) ?_))
 refine W_sr (W_move rfl rfl (W_bin rfl rfl b_geq rfl ?_))
 refine W_assign rfl rfl (W_nil ?_)
 refine W_condPS (p:=n=64) rfl (by simp; omega) (fun c0=>?_) (fun c0=>?_)
 ·skip
  refine W_sr (W_assign rfl rfl (W_nil (W_ret1m (H2:=H) Tryz.results260 rfl (.nil _) zH ?_)))
  subst c0
  exact ⟨rfl,rfl⟩
 ·skip
  refine W_skip (W_blk (W_sr (W_move rfl rfl ?_)))
  refine W_callp (.cons rfl .nil) Tryz.call233 rfl (T:=fun _=>True) trivial (bit_pure _) ?_
  have hbn:bitN (n:Int)=2 ^ n:=by unfold bitN; rw [if_pos (by omega)]; rfl
  have hp:=pow64 (i:=n) zO
  have hp0:0<2 ^ n:=Nat.two_pow_pos n
  rw [hbn]
  obtain ⟨z,hz⟩:∃ z:Nat,z=2 ^ n:=⟨_,rfl⟩
  rw [← hz] at hp hp0 ⊢
  refine W_bin rfl rfl (b_sub (m:=((z-1:Nat):Int)) (by rw [u64w (by omega)]; omega)) rfl ?_
  refine W_assign rfl rfl (W_nil (W_ret1m (H2:=H) Tryz.results260 rfl (.nil _) zH ?_))
  exact ⟨rfl,rfl⟩
theorem mhas_pure {m:Nat} {i:Int} (hm:m<18446744073709551616):Pure Tryz.prog (fun _=>True) 332 [.int .u64 ((m:Nat):Int),.int .i64 i] (.bool (decide (m &&& bitN i≠0))):=by
 intro w0 H hT
 refine L_enter Tryz.func332 rfl Tryz.ntmps332 rfl rfl ?_
 refine W_sr (W_assign rfl rfl (W_nil (W_sr (W_move rfl rfl (W_move rfl rfl ?_)))))
 refine W_callp (.cons rfl .nil) Tryz.call233 rfl (T:=fun _=>True) trivial (bit_pure _) ?_
 refine W_bin rfl rfl (b_and (m:=((m &&& bitN i:Nat):Int)) (and64 hm (bitN_lt i))) rfl ?_
 refine W_bin rfl rfl b_neq rfl ?_
 rw [show decide (((m &&& bitN i:Nat):Int)≠0)=decide (m &&& bitN i≠0) from decide_eq_decide.2 (by omega)]
 refine W_assign rfl rfl (W_nil (W_ret1m (H2:=H) Tryz.results332 rfl (.nil _) zH ?_))
 exact ⟨rfl,rfl⟩
theorem bitN_at {i:Nat} (h:i<64):bitN (i:Int)=2 ^ i:=by unfold bitN; rw [if_pos (by omega)]; rfl
theorem withOne {z i:Nat} (hi:i<64) (s:Nat):(withL z [(i:Int)]).testBit s=(z.testBit s || decide (i=s)):=by
 show (z ||| bitN (i:Int)).testBit s=_
 rw [bitN_at hi,Nat.testBit_or,Nat.testBit_two_pow]
theorem outOne {z i:Nat} (hz:z<18446744073709551616) (hi:i<64) (s:Nat):(outL z [(i:Int)]).testBit s=(z.testBit s && !decide (i=s)):=by
 show (z &&& (18446744073709551615-bitN (i:Int))).testBit s=_
 rw [bitN_at hi,Nat.testBit_and,show (18446744073709551615-2 ^ i:Nat)=2 ^ 64-(2 ^ i+1) by omega]
 by_cases hs:s<64
 ·rw [Nat.testBit_two_pow_sub_succ (by have:=pow64 hi; omega),decide_eq_true hs,Bool.true_and,Nat.testBit_two_pow]
 ·rw [Nat.testBit_lt_two_pow (show z<2 ^ s from Nat.lt_of_lt_of_le hz (show 2 ^ 64≤2 ^ s from Nat.pow_le_pow_right (by decide) (by omega)))]; rfl
theorem TellsA.with_ {n m i:Nat} {L:List Slt} {s t:Slt} (h:TellsA n L m) (hl:L.length≤64) (hs:L[i]?=some s) (ht:t.st=n):TellsA n (L.set i t) (withL m [(i:Int)]):=by
 have hi:=(List.getElem?_eq_some_iff.1 hs).1
 refine ⟨withL_ok _ h.1,fun j=>?_⟩
 rw [withOne (by omega),h.2 j]
 by_cases e:i=j
 ·subst e
  rw [List.getElem?_set_self hi]
  simp [ht]
 ·rw [List.getElem?_set_ne e]
  simp [e]
theorem TellsA.out {n m i:Nat} {L:List Slt} {s t:Slt} (h:TellsA n L m) (hl:L.length≤64) (hs:L[i]?=some s) (ht:t.st≠n):TellsA n (L.set i t) (outL m [(i:Int)]):=by
 have hi:=(List.getElem?_eq_some_iff.1 hs).1
 refine ⟨outL_ok _ h.1,fun j=>?_⟩
 rw [outOne h.1 (by omega),h.2 j]
 by_cases e:i=j
 ·subst e
  rw [List.getElem?_set_self hi]
  simp [ht]
 ·rw [List.getElem?_set_ne e]
  simp [e]
theorem TellsA.same {n m i:Nat} {L:List Slt} {s t:Slt} (h:TellsA n L m) (hs:L[i]?=some s) (ht:s.st=n↔t.st=n):TellsA n (L.set i t) m:=by
 have hi:=(List.getElem?_eq_some_iff.1 hs).1
 refine ⟨h.1,fun j=>?_⟩
 rw [h.2 j]
 by_cases e:i=j
 ·subst e
  rw [List.getElem?_set_self hi,hs]
  exact decide_eq_decide.2 ht
 ·rw [List.getElem?_set_ne e]
theorem next_tells {L:List Slt} {m:Nat} (h:TellsA 0 L m) (hl:L.length≤64):nextN m 0=firstF L:=by
 cases hf:firstF L with
 | none =>
  refine nextN_none (fun j hj=>?_)
  rw [h.2 j] at hj
  cases hs:L[j]? with
  | none=>rw [hs] at hj; cases hj
  | some s=>rw [hs] at hj; exact absurd (of_decide_eq_true hj) (firstF_none.1 hf s (List.mem_of_getElem? hs))
 | some i =>
  obtain ⟨s,hs,h0,hlow⟩:=firstF_some hf
  have hi:=(List.getElem?_eq_some_iff.1 hs).1
  refine nextN_some (by omega) (by rw [h.at hs]; exact decide_eq_true h0) (by omega) (fun j hj hb=>?_)
  rw [h.2 j] at hb
  cases ht:L[j]? with
  | none=>rw [ht] at hb; cases hb
  | some t=>rw [ht] at hb; exact absurd (of_decide_eq_true hb) (hlow j t hj ht)
theorem has_tells {n m i:Nat} {L:List Slt} {s:Slt} (h:TellsA n L m) (hl:L.length≤64) (hs:L[i]?=some s):(m &&& bitN (i:Int)≠0)↔s.st=n:=by
 have hi:=(List.getElem?_eq_some_iff.1 hs).1
 rw [bitN_at (by omega)]
 have hb:=h.at hs
 constructor
 ·intro hne
  by_cases e:s.st=n
  ·exact e
  ·exfalso
   apply hne
   apply Nat.eq_of_testBit_eq
   intro j
   rw [Nat.testBit_and,Nat.testBit_two_pow,Nat.zero_testBit]
   by_cases ej:i=j
   ·subst ej; rw [hb,decide_eq_false e]; rfl
   ·rw [decide_eq_false ej,Bool.and_false]
 ·intro e h0
  have:=congrArg (fun z=>Nat.testBit z i) h0
  simp only [Nat.testBit_and,Nat.testBit_two_pow,Nat.zero_testBit,hb,decide_eq_true e,decide_true,Bool.and_self] at this
  cases this
def lookN (S:Sct) (began:Int) (left:Nat) (r:Int):Nat × Bool:=if left &&& bitN r=0∨(0<(ofS S r).2∧(ofS S r).2≤began) then (left,false) else (outL left [r],true)
theorem look_L {w0:World} {H:Heap} {xb sb left:Nat} {S:Sct} {began place r:Int} (hok:SctOk S) (hl64:left<18446744073709551616) (hm:(sb,.cells 250 130 (scC S))∈H) :LCalls Tryz.prog w0 336 #[.pointer (some ⟨xb,0,none⟩),.int .i64 r] ((xb,.cells 485 4 [.pointer (some ⟨sb,0,none⟩),.int .u64 ((left:Nat):Int),.int .i64 began,.int .i64 place])::H) (fun v H'=>v=.bool (lookN S began left r).2∧H'=(xb,.cells 485 4 [.pointer (some ⟨sb,0,none⟩),.int .u64 (((lookN S began left r).1:Nat):Int),.int .i64 began,.int .i64 place])::H):=by
 refine L_enter (l:=[.pointer (some ⟨xb,0,none⟩),.int .i64 r]) Tryz.func336 rfl Tryz.ntmps336 rfl rfl ?_
 refine W_sr (W_assign rfl rfl (W_nil (W_seq (W_seq ?_))))
 rcases (show left &&& bitN r=0∨(left &&& bitN r≠0∧¬ 0<(ofS S r).2)∨(left &&& bitN r≠0∧0<(ofS S r).2∧(ofS S r).2≤began)∨(left &&& bitN r≠0∧0<(ofS S r).2∧¬ (ofS S r).2≤began) by omega) with hb | ⟨hb,h1⟩ | ⟨hb,h1,h2⟩ | ⟨hb,h1,h2⟩
 ·skip
  refine W_quiet zk zK ?_
  refine WQ_x (X_move rfl) rfl (WQ_x (X_nilCheck rfl) rfl ?_)
  refine WQ_x (X_fieldAddr rfl fld485_1 zd) rfl ?_
  refine WQ_x (X_load (v:=.int .u64 ((left:Nat):Int)) rfl ty247 rfl (Cell.own (b:=xb) zM rfl)) rfl ?_
  refine WQ_x (X_move rfl) rfl ?_
  refine WQ_callp (.cons rfl (.cons rfl .nil)) Tryz.call332 rfl (T:=fun _=>True) trivial (mhas_pure hl64) ?_
  first | rw [decide_eq_true hb] | rw [decide_eq_false (fun h=>h hb)]
  refine WQ_x (X_not rfl) rfl ?_
  refine WQ_x (X_move rfl) rfl (WQ_gno rfl rfl rfl rfl ?_)
  refine WQ_gno rfl rfl rfl rfl ?_
  refine WQ_gno rfl rfl rfl rfl ?_
  refine WQ_gno rfl rfl rfl rfl ?_
  refine WQ_gno rfl rfl rfl rfl ?_
  refine WQ_gno rfl rfl rfl rfl ?_
  refine WQ_gno rfl rfl rfl rfl ?_
  refine WQ_gno rfl rfl rfl rfl ?_
  refine WQ_gnou rfl rfl rfl ?_
  refine WQ_gnou rfl rfl rfl ?_
  refine WQ_gnou rfl rfl rfl ?_
  refine WQ_gnou rfl rfl rfl ?_
  refine WQ_gnou rfl rfl rfl ?_
  refine WQ_gnou rfl rfl rfl ?_
  refine WQ_gnou rfl rfl rfl ?_
  refine WQ_gnou rfl rfl rfl ?_
  refine WQ_gnou rfl rfl rfl ?_
  refine WQ_gnou rfl rfl rfl ?_
  refine WQ_gnou rfl rfl rfl ?_
  refine WQ_gno rfl rfl rfl rfl ?_
  first | refine WQ_x (X_pickt rfl rfl) rfl ?_ | refine WQ_x (X_pickf rfl rfl) rfl ?_
  refine WQ_nil ?_
  refine W_condT rfl rfl (W_sr (W_assign rfl rfl (W_nil (W_ret1m (H2:=(xb,.cells 485 4 [.pointer (some ⟨sb,0,none⟩),.int .u64 ((left:Nat):Int),.int .i64 began,.int .i64 place])::H) Tryz.results336 rfl (.nil _) zH ?_))))
  rw [show lookN S began left r=(left,false) from if_pos (.inl hb)]
  exact ⟨rfl,rfl⟩
 ·skip
  refine W_quiet zk zK ?_
  refine WQ_x (X_move rfl) rfl (WQ_x (X_nilCheck rfl) rfl ?_)
  refine WQ_x (X_fieldAddr rfl fld485_1 zd) rfl ?_
  refine WQ_x (X_load (v:=.int .u64 ((left:Nat):Int)) rfl ty247 rfl (Cell.own (b:=xb) zM rfl)) rfl ?_
  refine WQ_x (X_move rfl) rfl ?_
  refine WQ_callp (.cons rfl (.cons rfl .nil)) Tryz.call332 rfl (T:=fun _=>True) trivial (mhas_pure hl64) ?_
  first | rw [decide_eq_true hb] | rw [decide_eq_false (fun h=>h hb)]
  refine WQ_x (X_not rfl) rfl ?_
  refine WQ_x (X_move rfl) rfl (WQ_gyes rfl rfl (WQ_x (X_move rfl) rfl (WQ_gyes rfl rfl (WQ_x (X_nilCheck rfl) rfl ?_))))
  refine WQ_gyes rfl rfl (WQ_x (X_fieldAddr rfl fld485_0 zd) rfl ?_)
  refine WQ_gyes rfl rfl (WQ_x (X_load (v:=.pointer (some ⟨sb,0,none⟩)) rfl ty135 rfl (Cell.own (b:=xb) zM rfl)) rfl ?_)
  refine WQ_gyes rfl rfl (WQ_x (X_move rfl) rfl (WQ_gyes rfl rfl (WQ_callq (.cons rfl (.cons rfl .nil)) Tryz.call397 rfl (sSince_q hok (List.mem_cons_of_mem _ hm)) ?_)))
  refine WQ_gyes rfl rfl (WQ_x (X_bin rfl rfl b_gtr) rfl ?_)
  first | rw [decide_eq_true (by omega)] | rw [decide_eq_false (by omega)]
  refine WQ_gyes rfl rfl (WQ_x (X_move rfl) rfl (WQ_gno rfl rfl rfl rfl ?_))
  refine WQ_gno rfl rfl rfl rfl ?_
  refine WQ_gno rfl rfl rfl rfl ?_
  refine WQ_gno rfl rfl rfl rfl ?_
  refine WQ_gno rfl rfl rfl rfl ?_
  refine WQ_gno rfl rfl rfl rfl ?_
  refine WQ_gno rfl rfl rfl rfl ?_
  refine WQ_gno rfl rfl rfl rfl ?_
  refine WQ_gno rfl rfl rfl rfl ?_
  refine WQ_gno rfl rfl rfl rfl ?_
  refine WQ_gno rfl rfl rfl rfl ?_
  refine WQ_gyes rfl rfl ?_
  first | refine WQ_x (X_pickt rfl rfl) rfl ?_ | refine WQ_x (X_pickf rfl rfl) rfl ?_
  first | refine WQ_x (X_pickt rfl rfl) rfl ?_ | refine WQ_x (X_pickf rfl rfl) rfl ?_
  refine WQ_nil ?_
  refine W_condF rfl rfl (W_skip (W_sr (W_move rfl rfl (W_move rfl rfl (W_nilCheck rfl rfl (W_fieldAddr rfl fld485_1 zd rfl ?_))))))
  refine W_load (v:=.int .u64 ((left:Nat):Int)) rfl ty247 rfl (Cell.own (b:=xb) zM rfl) rfl ?_
  refine W_move rfl rfl ?_
  refine W_buildSlice (l:=[.int .i64 r]) ty63 ty3 (.cons rfl rfl rfl rfl rfl .nil) rfl rfl rfl rfl rfl rfl rfl (fun b40=>?_)
  refine W_callq (.cons rfl (.cons rfl .nil)) Tryz.call141 rfl (out_q (m:=left) (l:=[r]) (cap:=1) hl64 (by show 1≤4611686018427387904; decide) (Holds.own (b:=b40) zM)) ?_
  refine W_nilCheck rfl rfl (W_fieldAddr rfl fld485_1 zd rfl ?_)
  refine W_store (l':=[.pointer (some ⟨sb,0,none⟩),.int .u64 (((outL left [r]):Nat):Int),.int .i64 began,.int .i64 place]) rfl rfl ty247 rfl rfl (b:=xb) zM rfl rfl zU ?_
  refine W_nil (W_sr (W_assign rfl rfl (W_nil (W_ret1m (H2:=(xb,.cells 485 4 [.pointer (some ⟨sb,0,none⟩),.int .u64 (((outL left [r]):Nat):Int),.int .i64 began,.int .i64 place])::H) Tryz.results336 rfl (.nil _) zH ?_))))
  rw [show lookN S began left r=(outL left [r],true) from if_neg (by rintro (c | c); exact hb c; omega)]
  exact ⟨rfl,rfl⟩
 ·skip
  refine W_quiet zk zK ?_
  refine WQ_x (X_move rfl) rfl (WQ_x (X_nilCheck rfl) rfl ?_)
  refine WQ_x (X_fieldAddr rfl fld485_1 zd) rfl ?_
  refine WQ_x (X_load (v:=.int .u64 ((left:Nat):Int)) rfl ty247 rfl (Cell.own (b:=xb) zM rfl)) rfl ?_
  refine WQ_x (X_move rfl) rfl ?_
  refine WQ_callp (.cons rfl (.cons rfl .nil)) Tryz.call332 rfl (T:=fun _=>True) trivial (mhas_pure hl64) ?_
  first | rw [decide_eq_true hb] | rw [decide_eq_false (fun h=>h hb)]
  refine WQ_x (X_not rfl) rfl ?_
  refine WQ_x (X_move rfl) rfl (WQ_gyes rfl rfl (WQ_x (X_move rfl) rfl (WQ_gyes rfl rfl (WQ_x (X_nilCheck rfl) rfl ?_))))
  refine WQ_gyes rfl rfl (WQ_x (X_fieldAddr rfl fld485_0 zd) rfl ?_)
  refine WQ_gyes rfl rfl (WQ_x (X_load (v:=.pointer (some ⟨sb,0,none⟩)) rfl ty135 rfl (Cell.own (b:=xb) zM rfl)) rfl ?_)
  refine WQ_gyes rfl rfl (WQ_x (X_move rfl) rfl (WQ_gyes rfl rfl (WQ_callq (.cons rfl (.cons rfl .nil)) Tryz.call397 rfl (sSince_q hok (List.mem_cons_of_mem _ hm)) ?_)))
  refine WQ_gyes rfl rfl (WQ_x (X_bin rfl rfl b_gtr) rfl ?_)
  first | rw [decide_eq_true (by omega)] | rw [decide_eq_false (by omega)]
  refine WQ_gyes rfl rfl (WQ_x (X_move rfl) rfl (WQ_gyes rfl rfl (WQ_x (X_move rfl) rfl (WQ_gyes rfl rfl (WQ_x (X_nilCheck rfl) rfl ?_)))))
  refine WQ_gyes rfl rfl (WQ_x (X_fieldAddr rfl fld485_0 zd) rfl ?_)
  refine WQ_gyes rfl rfl (WQ_x (X_load (v:=.pointer (some ⟨sb,0,none⟩)) rfl ty135 rfl (Cell.own (b:=xb) zM rfl)) rfl ?_)
  refine WQ_gyes rfl rfl (WQ_x (X_move rfl) rfl (WQ_gyes rfl rfl (WQ_callq (.cons rfl (.cons rfl .nil)) Tryz.call397 rfl (sSince_q hok (List.mem_cons_of_mem _ hm)) ?_)))
  refine WQ_gyes rfl rfl (WQ_x (X_move rfl) rfl (WQ_gyes rfl rfl (WQ_x (X_nilCheck rfl) rfl ?_)))
  refine WQ_gyes rfl rfl (WQ_x (X_fieldAddr rfl fld485_2 zd) rfl ?_)
  refine WQ_gyes rfl rfl (WQ_x (X_load (v:=.int .i64 began) rfl ty3 rfl (Cell.own (b:=xb) zM rfl)) rfl ?_)
  refine WQ_gyes rfl rfl (WQ_x (X_bin rfl rfl b_leq) rfl ?_)
  first | rw [decide_eq_true (by omega)] | rw [decide_eq_false (by omega)]
  refine WQ_gyes rfl rfl ?_
  first | refine WQ_x (X_pickt rfl rfl) rfl ?_ | refine WQ_x (X_pickf rfl rfl) rfl ?_
  first | refine WQ_x (X_pickt rfl rfl) rfl ?_ | refine WQ_x (X_pickf rfl rfl) rfl ?_
  refine WQ_nil ?_
  refine W_condT rfl rfl (W_sr (W_assign rfl rfl (W_nil (W_ret1m (H2:=(xb,.cells 485 4 [.pointer (some ⟨sb,0,none⟩),.int .u64 ((left:Nat):Int),.int .i64 began,.int .i64 place])::H) Tryz.results336 rfl (.nil _) zH ?_))))
  rw [show lookN S began left r=(left,false) from if_pos (.inr ⟨h1,h2⟩)]
  exact ⟨rfl,rfl⟩
 ·skip
  refine W_quiet zk zK ?_
  refine WQ_x (X_move rfl) rfl (WQ_x (X_nilCheck rfl) rfl ?_)
  refine WQ_x (X_fieldAddr rfl fld485_1 zd) rfl ?_
  refine WQ_x (X_load (v:=.int .u64 ((left:Nat):Int)) rfl ty247 rfl (Cell.own (b:=xb) zM rfl)) rfl ?_
  refine WQ_x (X_move rfl) rfl ?_
  refine WQ_callp (.cons rfl (.cons rfl .nil)) Tryz.call332 rfl (T:=fun _=>True) trivial (mhas_pure hl64) ?_
  first | rw [decide_eq_true hb] | rw [decide_eq_false (fun h=>h hb)]
  refine WQ_x (X_not rfl) rfl ?_
  refine WQ_x (X_move rfl) rfl (WQ_gyes rfl rfl (WQ_x (X_move rfl) rfl (WQ_gyes rfl rfl (WQ_x (X_nilCheck rfl) rfl ?_))))
  refine WQ_gyes rfl rfl (WQ_x (X_fieldAddr rfl fld485_0 zd) rfl ?_)
  refine WQ_gyes rfl rfl (WQ_x (X_load (v:=.pointer (some ⟨sb,0,none⟩)) rfl ty135 rfl (Cell.own (b:=xb) zM rfl)) rfl ?_)
  refine WQ_gyes rfl rfl (WQ_x (X_move rfl) rfl (WQ_gyes rfl rfl (WQ_callq (.cons rfl (.cons rfl .nil)) Tryz.call397 rfl (sSince_q hok (List.mem_cons_of_mem _ hm)) ?_)))
  refine WQ_gyes rfl rfl (WQ_x (X_bin rfl rfl b_gtr) rfl ?_)
  first | rw [decide_eq_true (by omega)] | rw [decide_eq_false (by omega)]
  refine WQ_gyes rfl rfl (WQ_x (X_move rfl) rfl (WQ_gyes rfl rfl (WQ_x (X_move rfl) rfl (WQ_gyes rfl rfl (WQ_x (X_nilCheck rfl) rfl ?_)))))
  refine WQ_gyes rfl rfl (WQ_x (X_fieldAddr rfl fld485_0 zd) rfl ?_)
  refine WQ_gyes rfl rfl (WQ_x (X_load (v:=.pointer (some ⟨sb,0,none⟩)) rfl ty135 rfl (Cell.own (b:=xb) zM rfl)) rfl ?_)
  refine WQ_gyes rfl rfl (WQ_x (X_move rfl) rfl (WQ_gyes rfl rfl (WQ_callq (.cons rfl (.cons rfl .nil)) Tryz.call397 rfl (sSince_q hok (List.mem_cons_of_mem _ hm)) ?_)))
  refine WQ_gyes rfl rfl (WQ_x (X_move rfl) rfl (WQ_gyes rfl rfl (WQ_x (X_nilCheck rfl) rfl ?_)))
  refine WQ_gyes rfl rfl (WQ_x (X_fieldAddr rfl fld485_2 zd) rfl ?_)
  refine WQ_gyes rfl rfl (WQ_x (X_load (v:=.int .i64 began) rfl ty3 rfl (Cell.own (b:=xb) zM rfl)) rfl ?_)
  refine WQ_gyes rfl rfl (WQ_x (X_bin rfl rfl b_leq) rfl ?_)
  first | rw [decide_eq_true (by omega)] | rw [decide_eq_false (by omega)]
  refine WQ_gyes rfl rfl ?_
  first | refine WQ_x (X_pickt rfl rfl) rfl ?_ | refine WQ_x (X_pickf rfl rfl) rfl ?_
  first | refine WQ_x (X_pickt rfl rfl) rfl ?_ | refine WQ_x (X_pickf rfl rfl) rfl ?_
  refine WQ_nil ?_
  refine W_condF rfl rfl (W_skip (W_sr (W_move rfl rfl (W_move rfl rfl (W_nilCheck rfl rfl (W_fieldAddr rfl fld485_1 zd rfl ?_))))))
  refine W_load (v:=.int .u64 ((left:Nat):Int)) rfl ty247 rfl (Cell.own (b:=xb) zM rfl) rfl ?_
  refine W_move rfl rfl ?_
  refine W_buildSlice (l:=[.int .i64 r]) ty63 ty3 (.cons rfl rfl rfl rfl rfl .nil) rfl rfl rfl rfl rfl rfl rfl (fun b40=>?_)
  refine W_callq (.cons rfl (.cons rfl .nil)) Tryz.call141 rfl (out_q (m:=left) (l:=[r]) (cap:=1) hl64 (by show 1≤4611686018427387904; decide) (Holds.own (b:=b40) zM)) ?_
  refine W_nilCheck rfl rfl (W_fieldAddr rfl fld485_1 zd rfl ?_)
  refine W_store (l':=[.pointer (some ⟨sb,0,none⟩),.int .u64 (((outL left [r]):Nat):Int),.int .i64 began,.int .i64 place]) rfl rfl ty247 rfl rfl (b:=xb) zM rfl rfl zU ?_
  refine W_nil (W_sr (W_assign rfl rfl (W_nil (W_ret1m (H2:=(xb,.cells 485 4 [.pointer (some ⟨sb,0,none⟩),.int .u64 (((outL left [r]):Nat):Int),.int .i64 began,.int .i64 place])::H) Tryz.results336 rfl (.nil _) zH ?_))))
  rw [show lookN S began left r=(outL left [r],true) from if_neg (by rintro (c | c); exact hb c; omega)]
  exact ⟨rfl,rfl⟩
theorem scanNew_L {w0:World} {H:Heap} {sb:Nat} {S:Sct} (hl:S.D.length=64) (hm:(sb,.cells 250 130 (scC S))∈H) :LCalls Tryz.prog w0 250 #[.pointer (some ⟨sb,0,none⟩)] (H) (fun v H'=>∃ xb,v=.pointer (some ⟨xb,0,none⟩)∧H'=(xb,.cells 485 4 [.pointer (some ⟨sb,0,none⟩),.int .u64 ((S.m:Nat):Int),.int .i64 S.st,.int .i64 0])::H):=by
 refine L_enter (l:=[.pointer (some ⟨sb,0,none⟩)]) Tryz.func250 rfl Tryz.ntmps250 rfl rfl ?_
 refine W_sr (W_assign rfl rfl (W_nil (W_sr (W_move rfl rfl (W_move rfl rfl (W_callq (.cons rfl .nil) Tryz.call340 rfl (sIn_q hl hm) ?_))))))
 refine W_move rfl rfl (W_callq (.cons rfl .nil) Tryz.call341 rfl (sStamp_q hl hm) ?_)
 refine W_build (l:=[.pointer (some ⟨sb,0,none⟩),.int .u64 ((S.m:Nat):Int),.int .i64 S.st,.int .i64 0]) ty485 pl485 (.cons rfl rfl rfl rfl rfl (.cons rfl rfl rfl rfl rfl (.cons rfl rfl rfl rfl rfl .nil))) rfl rfl rfl ?_
 refine W_box (l:=[.pointer (some ⟨sb,0,none⟩),.int .u64 ((S.m:Nat):Int),.int .i64 S.st,.int .i64 0]) rfl rfl rfl (fun b9=>?_)
 refine W_assign rfl rfl (W_nil (W_ret1m Tryz.results250 rfl (.nil _) (.refl _) ?_))
 exact ⟨b9,rfl,rfl⟩
def pollF (S:Sct) (began:Int):Nat→Nat→Int→Nat × Int
 | 0,l,p=>(l,p)
 | k+1,l,p=>match aroundN l p with
  | some r=>pollF S began k (lookN S began l (r:Int)).1 (((r+1)%64:Nat):Int)
  | none=>(l,p)
theorem popN_le:∀ (k x:Nat),popN k x≤k
 | 0,_=>by simp [popN]
 | k+1,x=>by
  have:=popN_le k x
  simp only [popN]
  have:=Bool.toNat_le (x.testBit k)
  omega
theorem lookN_lt {S:Sct} {began:Int} {l:Nat} {r:Int} (h:l<18446744073709551616):(lookN S began l r).1<18446744073709551616:=by
 unfold lookN; split
 ·exact h
 ·exact outL_ok _ h
theorem around_lt {l r:Nat} {p:Int} (h:aroundN l p=some r):r<64:=by
 unfold aroundN at h
 cases h1:nextN l p with
 | some a=>rw [h1] at h; obtain rfl:=Option.some.inj h; exact (nextN_is h1).1
 | none=>rw [h1] at h; exact (nextN_is h).1
theorem scanPoll_L {w0:World} {H:Heap} {xb sb left n:Nat} {S:Sct} {began place:Int} (hok:SctOk S) (hl64:left<18446744073709551616) (hm:(sb,.cells 250 130 (scC S))∈H) (hT:Tab w0):LCalls Tryz.prog w0 246 #[.pointer (some ⟨xb,0,none⟩),.int .i64 (n:Int)] ((xb,.cells 485 4 [.pointer (some ⟨sb,0,none⟩),.int .u64 ((left:Nat):Int),.int .i64 began,.int .i64 place])::H) (fun v H'=>v=.int .i64 ((popN 64 (pollF S began (min n (popN 64 left)) left place).1:Nat):Int)∧H'=(xb,.cells 485 4 [.pointer (some ⟨sb,0,none⟩),.int .u64 (((pollF S began (min n (popN 64 left)) left place).1:Nat):Int),.int .i64 began,.int .i64 (pollF S began (min n (popN 64 left)) left place).2])::H):=by
 obtain ⟨N0,hN0⟩:∃ N0,N0=min n (popN 64 left):=⟨_,rfl⟩
 rw [← hN0]
 have hp64:popN 64 left≤64:=popN_le _ _
 refine L_enter (l:=[.pointer (some ⟨xb,0,none⟩),.int .i64 (n:Int)]) Tryz.func246 rfl Tryz.ntmps246 rfl rfl ?_
 refine W_sr (W_assign rfl rfl (W_nil ?_))
 refine W_scope (fun _ _ _ h=>h) ?_
 refine W_seq (W_sr (W_move rfl rfl ?_))
 refine W_x (X_ptrNil rfl rfl ty222) (fun _ h=>by cases h) rfl ?_
 refine W_nil (W_condF rfl rfl (W_skip (W_sr (W_move rfl rfl (W_move rfl rfl (W_nilCheck rfl rfl (W_fieldAddr rfl fld485_1 zd rfl ?_)))))))
 refine W_load (v:=.int .u64 ((left:Nat):Int)) rfl ty247 rfl (Cell.own (b:=xb) zM rfl) rfl ?_
 refine W_callp (.cons rfl .nil) Tryz.call222 rfl (T:=fun _=>True) trivial (mlen_pure hl64) ?_
 refine W_min2 rfl rfl (m:=(N0:Int)) (by rw [hN0]; split <;> omega) rfl ?_
 refine W_assign rfl rfl (W_nil (W_seq ?_))
 refine W_label ?_
 refine W_seq (W_sr (W_assign rfl rfl (W_nil (W_block ?_))))
 refine W_loopC (X:=(Nat × Nat × Int)) [(0,_),(1,_)] (fun (z:(Nat × Nat × Int))=>[(5,.int .i64 (z.1:Int)),(1,.int .i64 (N0:Int))]) (fun _=>_) (fun (z:(Nat × Nat × Int))=>(xb,.cells 485 4 [.pointer (some ⟨sb,0,none⟩),.int .u64 ((z.2.1:Nat):Int),.int .i64 began,.int .i64 z.2.2])::H) (fun (z:(Nat × Nat × Int))=>z.1≤N0∧z.2.1<18446744073709551616∧pollF S began N0 left place=pollF S began (N0-z.1) z.2.1 z.2.2) (fun (z:(Nat × Nat × Int))=>N0-z.1) (0,left,place) ⟨Nat.zero_le _,hl64,rfl⟩ (sub_cons rfl (sub_cons rfl (sub_nil _))) (sub_cons rfl (sub_cons rfl (sub_nil _))) rfl zH ?_
 rintro ⟨i,l,p⟩ ⟨hi,hl,hpf⟩
 dsimp only at hi hl hpf ⊢
 simp only [List.cons_append,List.nil_append]
 refine W_seq (W_sr (W_move rfl rfl (W_move rfl rfl (W_bin rfl rfl b_lss rfl ?_))))
 refine W_nil ?_
 refine W_condPS (p:=(i:Int)<(N0:Int)) rfl (by simp) (fun q0=>?_) (fun q0=>?_)
 ·skip
  refine W_skip (W_seq (W_block (W_seq ?_)))
  rcases har:aroundN l p with _ | rr
  ·skip
   refine W_quiet zk zK ?_
   refine WQ_x (X_move rfl) rfl (WQ_x (X_nilCheck rfl) rfl ?_)
   refine WQ_x (X_fieldAddr rfl fld485_1 zd) rfl ?_
   refine WQ_x (X_load (v:=.int .u64 ((l:Nat):Int)) rfl ty247 rfl (Cell.own (b:=xb) zM rfl)) rfl ?_
   refine WQ_x (X_move rfl) rfl (WQ_x (X_nilCheck rfl) rfl ?_)
   refine WQ_x (X_fieldAddr rfl fld485_3 zd) rfl ?_
   refine WQ_x (X_load (v:=.int .i64 p) rfl ty3 rfl (Cell.own (b:=xb) zM rfl)) rfl ?_
   refine WQ_callp (.cons rfl (.cons rfl .nil)) Tryz.call335 rfl hT (around_pure (m:=l) (f:=p) hl) ?_
   rw [show aroundV l p=.tuple #[.int .i64 0,.bool false] by unfold aroundV; rw [har]]
   refine WQ_x (X_move rfl) rfl (WQ_x (X_extract rfl rfl) rfl ?_)
   refine WQ_x (X_extract rfl rfl) rfl ?_
   refine WQ_x (X_assign rfl) rfl ?_
   refine WQ_x (X_assign rfl) rfl ?_
   refine WQ_nil ?_
   refine W_seq (W_sr (W_move rfl rfl (W_not rfl rfl ?_)))
   refine W_nil (W_condT rfl rfl (W_exit rfl ?_))
   refine W_sr (W_move rfl rfl (W_nilCheck rfl rfl (W_fieldAddr rfl fld485_1 zd rfl ?_)))
   refine W_load (v:=.int .u64 ((l:Nat):Int)) rfl ty247 rfl (Cell.own (b:=xb) zM rfl) rfl ?_
   refine W_callp (.cons rfl .nil) Tryz.call222 rfl (T:=fun _=>True) trivial (mlen_pure hl) ?_
   refine W_assign rfl rfl (W_nil (W_ret1m (H2:=(xb,.cells 485 4 [.pointer (some ⟨sb,0,none⟩),.int .u64 ((l:Nat):Int),.int .i64 began,.int .i64 p])::H) Tryz.results246 rfl (.nil _) zH ?_))
   have e:pollF S began N0 left place=(l,p):=by
    rw [hpf]
    rw [show N0-i=(N0-i-1)+1 by omega]; show (match aroundN l p with | some r=>_ | none=>_)=_; rw [har]
   rw [e]
   exact ⟨rfl,rfl⟩
  ·skip
   have hrr:=around_lt har
   refine W_quiet zk zK ?_
   refine WQ_x (X_move rfl) rfl (WQ_x (X_nilCheck rfl) rfl ?_)
   refine WQ_x (X_fieldAddr rfl fld485_1 zd) rfl ?_
   refine WQ_x (X_load (v:=.int .u64 ((l:Nat):Int)) rfl ty247 rfl (Cell.own (b:=xb) zM rfl)) rfl ?_
   refine WQ_x (X_move rfl) rfl (WQ_x (X_nilCheck rfl) rfl ?_)
   refine WQ_x (X_fieldAddr rfl fld485_3 zd) rfl ?_
   refine WQ_x (X_load (v:=.int .i64 p) rfl ty3 rfl (Cell.own (b:=xb) zM rfl)) rfl ?_
   refine WQ_callp (.cons rfl (.cons rfl .nil)) Tryz.call335 rfl hT (around_pure (m:=l) (f:=p) hl) ?_
   rw [show aroundV l p=.tuple #[.int .i64 (rr:Int),.bool true] by unfold aroundV; rw [har]]
   refine WQ_x (X_move rfl) rfl (WQ_x (X_extract rfl rfl) rfl ?_)
   refine WQ_x (X_extract rfl rfl) rfl ?_
   refine WQ_x (X_assign rfl) rfl ?_
   refine WQ_x (X_assign rfl) rfl ?_
   refine WQ_nil ?_
   refine W_seq (W_sr (W_move rfl rfl (W_not rfl rfl ?_)))
   refine W_nil (W_condF rfl rfl (W_skip (W_sr (W_move rfl rfl (W_move rfl rfl (W_call (.cons rfl (.cons rfl .nil)) Tryz.call336 rfl (LCalls.hsub (look_L (xb:=xb) (left:=l) (place:=p) (r:=(rr:Int)) hok hl hm (H:=H)) zH) ?_))))))
   rintro v H' ⟨rfl,rfl⟩
   refine W_nil (W_region (W_move rfl rfl (W_move rfl rfl ?_)))
   refine W_bin rfl rfl (b_add (m:=((rr+1:Nat):Int)) (by rw [i64w (by omega)]; omega)) rfl ?_
   refine W_bin rfl rfl (b_rem (by decide) (m:=(((rr+1)%64:Nat):Int)) (by rw [Int.tmod_eq_emod_of_nonneg (by omega)]; omega)) rfl ?_
   refine W_nilCheck rfl rfl (W_fieldAddr rfl fld485_3 zd rfl ?_)
   refine W_store (l':=[.pointer (some ⟨sb,0,none⟩),.int .u64 (((lookN S began l (rr:Int)).1:Nat):Int),.int .i64 began,.int .i64 (((rr+1)%64:Nat):Int)]) rfl rfl ty3 rfl rfl (b:=xb) zM rfl rfl zU ?_
   refine W_nil (W_blk (W_region (W_move rfl rfl (W_bin rfl rfl (b_add (m:=((i+1:Nat):Int)) ((i64w zO).trans zO)) rfl ?_))))
   refine W_assign rfl rfl (W_nil ?_)
   refine W_again (i+1,(lookN S began l (rr:Int)).1,(((rr+1)%64:Nat):Int)) ⟨by show i+1≤N0; omega,lookN_lt hl,by rw [hpf,show N0-i=(N0-(i+1))+1 by omega]; show (match aroundN l p with | some r=>_ | none=>_)=_; rw [har]⟩ (by show N0-(i+1)<N0-i; omega) (sub_cons rfl (sub_cons rfl (sub_cons rfl (sub_cons rfl (sub_nil _))))) rfl zH
 ·skip
  refine W_exit rfl ?_
  refine W_sr (W_move rfl rfl (W_nilCheck rfl rfl (W_fieldAddr rfl fld485_1 zd rfl ?_)))
  refine W_load (v:=.int .u64 ((l:Nat):Int)) rfl ty247 rfl (Cell.own (b:=xb) zM rfl) rfl ?_
  refine W_callp (.cons rfl .nil) Tryz.call222 rfl (T:=fun _=>True) trivial (mlen_pure hl) ?_
  refine W_assign rfl rfl (W_nil (W_ret1m (H2:=(xb,.cells 485 4 [.pointer (some ⟨sb,0,none⟩),.int .u64 ((l:Nat):Int),.int .i64 began,.int .i64 p])::H) Tryz.results246 rfl (.nil _) zH ?_))
  have e:pollF S began N0 left place=(l,p):=by
   rw [hpf]
   rw [show N0-i=0 by omega]; rfl
  rw [e]
  exact ⟨rfl,rfl⟩
theorem SctOk.start:SctOk ⟨List.replicate 64 (0,0),0,0⟩ where
 len:=List.length_replicate
 rng:=fun p hp=>by obtain rfl:=(List.mem_replicate.1 hp).2; decide
 m64:=by decide
 bit:=fun i=>by
  rw [Nat.zero_testBit]
  by_cases h:i<64
  ·rw [List.getElem?_replicate,if_pos h]; rfl
  ·rw [List.getElem?_replicate,if_neg h]
structure RingA {α:Type} (R:Nat) (l buf:List α) (h:Nat):Prop where
 pos:0<R
 room:R≤256
 len:buf.length=R
 head:h<R
 most:l.length≤R
 at_:∀ (i:Nat) x,l[i]?=some x→buf[(h+i)%R]?=some x
theorem set_atA {α:Type} {buf:List α} {i j:Nat} {x y:α} (h:buf[j]?=some y) (hne:i≠j):(buf.set i x)[j]?=some y:=by rw [List.getElem?_set_ne hne]; exact h
theorem RingA.pop {α:Type} {z:α} {R h:Nat} {x:α} {l buf:List α} (hI:RingA R (x::l) buf h):RingA R l (buf.set h z) ((h+1)%R):=by
 obtain ⟨h1,h2,h3,h4,h5,h6⟩:=hI
 simp only [List.length_cons] at h5
 refine ⟨h1,h2,by rw [List.length_set,h3],Nat.mod_lt _ h1,by omega,fun i y hy=>?_⟩
 have hi:=(List.getElem?_eq_some_iff.1 hy).1
 have e:((h+1)%R+i)%R=(h+(i+1))%R:=by rw [Nat.mod_add_mod]; congr 1; omega
 rw [e]
 refine set_atA (h6 (i+1) y (by simpa using hy)) ?_
 by_cases c:h+(i+1)<R
 ·rw [Nat.mod_eq_of_lt c]; omega
 ·have e2:(h+(i+1))%R=h+(i+1)-R:=by rw [Nat.mod_eq_sub_mod (by omega),Nat.mod_eq_of_lt (by omega)]
  omega
theorem RingA.push {α:Type} {R h:Nat} {x:α} {l buf:List α} (hI:RingA R l buf h) (hr:l.length<R):RingA R (l++[x]) (buf.set ((h+l.length)%R) x) h:=by
 obtain ⟨h1,h2,h3,h4,h5,h6⟩:=hI
 refine ⟨h1,h2,by rw [List.length_set,h3],h4,by rw [List.length_append,List.length_singleton]; exact hr,fun i y hy=>?_⟩
 have hm:(h+l.length)%R<R:=Nat.mod_lt _ h1
 by_cases c:i=l.length
 ·subst c
  rw [List.getElem?_append_right (Nat.le_refl _),Nat.sub_self] at hy
  obtain rfl:x=y:=by simpa using hy
  rw [List.getElem?_set_self (by omega)]
 ·have hi:=(List.getElem?_eq_some_iff.1 hy).1
  rw [List.length_append,List.length_singleton] at hi
  rw [List.getElem?_append_left (by omega)] at hy
  refine set_atA (h6 i y hy) (fun e=>c ?_)
  have e1:∀ k,k<R→(h+k)%R=if h+k<R then h+k else h+k-R:=fun k hk=>by
   split
   ·rename_i q; exact Nat.mod_eq_of_lt q
   ·rename_i q; rw [Nat.mod_eq_sub_mod (by omega),Nat.mod_eq_of_lt (by omega)]
  rw [e1 _ hr,e1 i (by omega)] at e
  split at e <;> split at e <;> omega
theorem tmNA (a b:Nat):((a:Int)).tmod (b:Int)=((a%b:Nat):Int):=by
 rw [Int.tmod_eq_emod_of_nonneg (Int.natCast_nonneg _)]; exact (Int.natCast_emod _ _).symm
theorem cplace_q {w0:World} {H:Heap} {R rb b h n i:Nat} (hm:(rb,.cells 493 3 [.slice (some ⟨b,0,none⟩) R R,.int .i64 ((h:Nat):Int),.int .i64 ((n:Nat):Int)])∈H) (hp:0<R) (hR:R≤256) (hh:h<R) (hi:i≤1000000) :PureAt Tryz.prog w0 H 342 [.pointer (some ⟨rb,0,none⟩),.int .i64 (i:Int)] (.int .i64 (((h+i)%R:Nat):Int)):=by
 refine L_enter Tryz.func342 rfl Tryz.ntmps342 rfl rfl ?_
 refine W_sr (W_assign rfl rfl (W_nil (W_quietsr zk zK ?_)))
 refine WQ_x (X_move rfl) rfl (WQ_x (X_nilCheck rfl) rfl ?_)
 refine WQ_x (X_fieldAddr rfl fld493_1 zd) rfl ?_
 refine WQ_x (X_load (v:=.int .i64 ((h:Nat):Int)) rfl ty3 rfl (Cell.own (b:=rb) hm rfl)) rfl ?_
 refine WQ_x (X_move rfl) rfl ?_
 refine WQ_x (X_bin rfl rfl (b_add (m:=((h+i:Nat):Int)) (by rw [i64w (by omega)]; omega))) rfl ?_
 refine WQ_x (X_move rfl) rfl (WQ_x (X_nilCheck rfl) rfl ?_)
 refine WQ_x (X_fieldAddr rfl fld493_0 zd) rfl ?_
 refine WQ_x (X_load (v:=.slice (some ⟨b,0,none⟩) R R) rfl ty349 rfl (Cell.own (b:=rb) hm rfl)) rfl ?_
 refine WQ_x (X_len rfl ty349 rfl) rfl ?_
 refine WQ_x (X_bin rfl rfl (b_rem zO (m:=(((h+i)%R:Nat):Int)) (tmNA (h+i) R))) rfl ?_
 refine WQ_x (X_assign rfl) rfl ?_
 refine WQ_nil ?_
 refine W_ret1m (H2:=H) Tryz.results342 rfl (.nil _) zH ?_
 exact ⟨rfl,rfl⟩
theorem cLen_q {w0:World} {H:Heap} {R rb b h n:Nat} (hm:(rb,.cells 493 3 [.slice (some ⟨b,0,none⟩) R R,.int .i64 ((h:Nat):Int),.int .i64 ((n:Nat):Int)])∈H) :PureAt Tryz.prog w0 H 401 [.pointer (some ⟨rb,0,none⟩)] (.int .i64 (n:Int)):=by
 refine L_enter Tryz.func401 rfl Tryz.ntmps401 rfl rfl ?_
 refine W_sr (W_assign rfl rfl (W_nil (W_seq (W_sr (W_move rfl rfl ?_)))))
 refine W_x (X_ptrNil rfl rfl ty388) (fun _ h=>by cases h) rfl ?_
 refine W_nil (W_condF rfl rfl (W_skip (W_sr (W_move rfl rfl (W_nilCheck rfl rfl (W_fieldAddr rfl fld493_2 zd rfl ?_))))))
 refine W_load (v:=.int .i64 ((n:Nat):Int)) rfl ty3 rfl (Cell.own (b:=rb) hm rfl) rfl ?_
 refine W_assign rfl rfl (W_nil (W_ret1m (H2:=H) Tryz.results401 rfl (.nil _) zH ?_))
 exact ⟨rfl,rfl⟩
inductive RngC (R rb:Nat) (l:List (Int × Int)):Heap→Prop
 | mk {b h:Nat} {buf:List (Int × Int)} (hI:RingA R l buf h):RngC R rb l [(rb,.cells 493 3 [.slice (some ⟨b,0,none⟩) R R,.int .i64 ((h:Nat):Int),.int .i64 ((l.length:Nat):Int)]),(b,.cells 391 (R*2) ((buf).flatMap rdC))]
def atC (l:List (Int × Int)):Value:=match l with
 | x::_=>.tuple #[.agg (List.toArray (rdC x)),.bool true]
 | []=>.tuple #[.agg (List.toArray (rdC (0,0))),.bool false]
theorem cAt_nil {w0:World} {H:Heap} {R rb b h:Nat} {l buf:List (Int × Int)} (hm:(rb,.cells 493 3 [.slice (some ⟨b,0,none⟩) R R,.int .i64 ((h:Nat):Int),.int .i64 ((l.length:Nat):Int)])∈H) (hb:(b,.cells 391 (R*2) ((buf).flatMap rdC))∈H) (hI:RingA R l buf h) (hl:l=[]) :PureAt Tryz.prog w0 H 399 [.pointer (some ⟨rb,0,none⟩),.int .i64 0] (atC l):=by
 refine L_enter Tryz.func399 rfl Tryz.ntmps399 rfl rfl ?_
 refine W_sr ?_
 refine W_alloc (l:=rdC (0,0)) ty391 rfl rfl (fun b4=>?_)
 refine W_assign rfl rfl (W_nil (W_seq (W_sr (W_move rfl rfl ?_))))
 refine W_x (X_ptrNil rfl rfl ty388) (fun _ h=>by cases h) rfl ?_
 refine W_move rfl rfl (W_gyes rfl rfl (W_move rfl rfl (W_gyes rfl rfl (W_bin rfl rfl b_lss rfl ?_))))
 first | refine W_pickt rfl rfl rfl ?_ | refine W_pickf rfl rfl rfl ?_
 refine W_move rfl rfl (W_gyes rfl rfl (W_move rfl rfl (W_gyes rfl rfl (W_move rfl rfl (W_gyes rfl rfl (W_nilCheck rfl rfl (W_gyes rfl rfl ?_)))))))
 refine W_fieldAddr rfl fld493_2 zd rfl ?_
 refine W_gyes rfl rfl ?_
 refine W_load (v:=.int .i64 ((l.length:Nat):Int)) rfl ty3 rfl (Cell.own (b:=rb) (by repeat (first | exact hm | exact hb | exact List.mem_cons_self | apply List.mem_cons_of_mem | apply List.mem_append_right)) rfl) rfl ?_
 refine W_gyes rfl rfl (W_bin rfl rfl b_geq rfl ?_)
 rw [decide_eq_true (by rw [hl]; decide)]
 first | refine W_pickt rfl rfl rfl ?_ | refine W_pickf rfl rfl rfl ?_
 refine W_nil (W_condT rfl rfl (W_sr ?_))
 refine W_alloc (l:=rdC (0,0)) ty391 rfl rfl (fun b6=>?_)
 refine W_nil (W_sr (W_loadB (vs:=rdC (0,0)) rfl ty391 rfl (b:=b6) zM rfl rfl rfl ?_))
 refine W_storeA (l':=rdC (0,0)) rfl rfl ty391 rfl rfl (b:=b4) zM (by exact Nat.le_refl 2) rfl zU ?_
 refine W_assign rfl rfl (W_nil (W_ret2G (H2:=H) Tryz.results399 (.nil _) (.own rfl ty391 rfl zM rfl) (.tmp rfl) zH ?_))
 subst hl
 exact ⟨rfl,rfl⟩
theorem cAt_in {w0:World} {H:Heap} {R rb b h:Nat} {x:Int × Int} {l buf:List (Int × Int)} (hm:(rb,.cells 493 3 [.slice (some ⟨b,0,none⟩) R R,.int .i64 ((h:Nat):Int),.int .i64 (((x::l).length:Nat):Int)])∈H) (hb:(b,.cells 391 (R*2) ((buf).flatMap rdC))∈H) (hI:RingA R (x::l) buf h) :PureAt Tryz.prog w0 H 399 [.pointer (some ⟨rb,0,none⟩),.int .i64 0] (atC (x::l)):=by
 have hmost:=hI.most
 simp only [List.length_cons] at hmost
 refine L_enter Tryz.func399 rfl Tryz.ntmps399 rfl rfl ?_
 refine W_sr ?_
 refine W_alloc (l:=rdC (0,0)) ty391 rfl rfl (fun b4=>?_)
 refine W_assign rfl rfl (W_nil (W_seq (W_sr (W_move rfl rfl ?_))))
 refine W_x (X_ptrNil rfl rfl ty388) (fun _ h=>by cases h) rfl ?_
 refine W_move rfl rfl (W_gyes rfl rfl (W_move rfl rfl (W_gyes rfl rfl (W_bin rfl rfl b_lss rfl ?_))))
 first | refine W_pickt rfl rfl rfl ?_ | refine W_pickf rfl rfl rfl ?_
 refine W_move rfl rfl (W_gyes rfl rfl (W_move rfl rfl (W_gyes rfl rfl (W_move rfl rfl (W_gyes rfl rfl (W_nilCheck rfl rfl (W_gyes rfl rfl ?_)))))))
 refine W_fieldAddr rfl fld493_2 zd rfl ?_
 refine W_gyes rfl rfl ?_
 refine W_load (v:=.int .i64 (((x::l).length:Nat):Int)) rfl ty3 rfl (Cell.own (b:=rb) (by repeat (first | exact hm | exact hb | exact List.mem_cons_self | apply List.mem_cons_of_mem | apply List.mem_append_right)) rfl) rfl ?_
 refine W_gyes rfl rfl (W_bin rfl rfl b_geq rfl ?_)
 rw [decide_eq_false (by simp only [List.length_cons]; omega)]
 first | refine W_pickt rfl rfl rfl ?_ | refine W_pickf rfl rfl rfl ?_
 refine W_nil (W_condF rfl rfl (W_skip (W_seq ?_)))
 have hbx:=hI.at_ 0 x rfl
 have hbl:=hI.len
 have hpl:(h+0)%R<R:=Nat.mod_lt _ hI.pos
 refine W_anyC H zk ?_
 refine WC_take 0 rfl zK zK zK rfl rfl (X_move rfl) rfl ?_
 refine WC_take 1 rfl zK zK zK rfl rfl (X_nilCheck rfl) rfl ?_
 refine WC_take 2 rfl zK zK zK rfl rfl (X_fieldAddr rfl fld493_0 zd) rfl ?_
 refine WC_take 3 rfl zK zK zK rfl rfl (X_load (v:=.slice (some ⟨b,0,none⟩) R R) rfl ty349 rfl (Cell.own (b:=rb) (by repeat (first | exact hm | exact hb | exact List.mem_cons_self | apply List.mem_cons_of_mem | apply List.mem_append_right)) rfl)) rfl ?_
 refine WC_take 4 rfl zK zK zK rfl rfl (X_move rfl) rfl ?_
 refine WC_take 5 rfl zK zK zK rfl rfl (X_move rfl) rfl ?_
 refine WC_one 6 zH zK rfl rfl ?_
 refine W_callq (.cons rfl (.cons rfl .nil)) Tryz.call342 rfl (cplace_q (i:=0) (n:=(x::l).length) (by repeat (first | exact hm | exact hb | exact List.mem_cons_self | apply List.mem_cons_of_mem | apply List.mem_append_right)) hI.pos hI.room hI.head zO) ?_
 refine W_nil ?_
 refine WC_goal ?_
 refine WC_take 7 (l':=#[true,true,true,true,true,true,true,true,false,false,false]) rfl (by decide +kernel) (by decide +kernel) (by decide +kernel) rfl (by decide +kernel) (X_indexAddr (j:=(h+0)%R) rfl rfl ty349 ty391 (by first | rfl | omega) (by first | decide | omega | simp) rfl) rfl ?_
 refine WC_take 8 (l':=#[true,true,true,true,true,true,true,true,true,false,false]) rfl (by decide +kernel) (by decide +kernel) (by decide +kernel) rfl (by decide +kernel) (X_loadB (vs:=rdC x) rfl ty391 rfl (b:=b) (by repeat (first | exact hm | exact hb | exact List.mem_cons_self | apply List.mem_cons_of_mem | apply List.mem_append_right)) (by rw [Nat.ble_eq,rows_len rdC_len]; omega) (by rw [Nat.zero_add]; exact rows_part (o:=0) (m:=2) rdC_len hbx (by decide))) rfl ?_
 refine WC_one 9 zH zK rfl rfl ?_
 refine W_storeA (l':=rdC x) rfl rfl ty391 rfl rfl (b:=b4) zM (by exact Nat.le_refl 2) rfl zU ?_
 refine W_nil ?_
 refine WC_goal ?_
 refine WC_take 10 rfl zK zK zK rfl rfl (X_assign rfl) rfl ?_
 refine WC_done zH zK ?_
 refine W_ret2G (H2:=H) Tryz.results399 (.nil _) (.own rfl ty391 rfl zM rfl) (.tmp rfl) zH ?_
 exact ⟨rfl,rfl⟩
theorem cAt_q {w0:World} {H:Heap} {R rb b h:Nat} {l buf:List (Int × Int)} (hm:(rb,.cells 493 3 [.slice (some ⟨b,0,none⟩) R R,.int .i64 ((h:Nat):Int),.int .i64 ((l.length:Nat):Int)])∈H) (hb:(b,.cells 391 (R*2) ((buf).flatMap rdC))∈H) (hI:RingA R l buf h):PureAt Tryz.prog w0 H 399 [.pointer (some ⟨rb,0,none⟩),.int .i64 0] (atC l):=by
 cases l with
 | nil=>exact cAt_nil hm hb hI rfl
 | cons x l=>exact cAt_in hm hb hI
theorem cPop_at {w0:World} {H:Heap} {R rb b h:Nat} {x:Int × Int} {l buf:List (Int × Int)} (hI:RingA R (x::l) buf h) :LCalls Tryz.prog w0 400 #[.pointer (some ⟨rb,0,none⟩)] ((rb,.cells 493 3 [.slice (some ⟨b,0,none⟩) R R,.int .i64 ((h:Nat):Int),.int .i64 (((x::l).length:Nat):Int)])::(b,.cells 391 (R*2) ((buf).flatMap rdC))::H) (fun v H'=>v=.tuple #[.agg (List.toArray (rdC x)),.bool true]∧H'=(rb,.cells 493 3 [.slice (some ⟨b,0,none⟩) R R,.int .i64 (((h+1)%R:Nat):Int),.int .i64 ((l.length:Nat):Int)])::(b,.cells 391 (R*2) ((List.set buf h (0,0)).flatMap rdC))::H):=by
 have hmost:=hI.most
 have hroom:=hI.room
 have hbl:=hI.len
 have hhd:=hI.head
 simp only [List.length_cons] at hmost
 refine L_enter (l:=[.pointer (some ⟨rb,0,none⟩)]) Tryz.func400 rfl Tryz.ntmps400 rfl rfl ?_
 refine W_sr ?_
 refine W_alloc (l:=rdC (0,0)) ty391 rfl rfl (fun b2=>?_)
 refine W_assign rfl rfl (W_nil (W_sr (W_move rfl rfl (W_callq (.cons rfl (.cons rfl .nil)) Tryz.call399 rfl (cAt_q zM zM hI) ?_))))
 rw [show atC (x::l)=.tuple #[.agg (List.toArray (rdC x)),.bool true] from rfl]
 refine W_move rfl rfl (W_extract rfl rfl rfl (W_extract rfl rfl rfl ?_))
 refine W_alloc (l:=rdC (0,0)) ty391 rfl rfl (fun b4=>?_)
 refine W_storeA (l':=rdC x) rfl rfl ty391 rfl rfl (b:=b4) zM (by exact Nat.le_refl 2) rfl zU ?_
 refine W_assign rfl rfl (W_nil (W_seq (W_sr (W_move rfl rfl (W_nil (W_condT rfl rfl (W_sr ?_)))))))
 refine W_alloc (l:=rdC (0,0)) ty391 rfl rfl (fun b6=>?_)
 refine W_nil (W_seq ?_)
 refine W_anyC [(rb,.cells 493 3 [.slice (some ⟨b,0,none⟩) R R,.int .i64 ((h:Nat):Int),.int .i64 (((x::l).length:Nat):Int)]),(b6,.cells 391 2 (rdC (0,0)))] zk ?_
 refine WC_take 0 rfl zK zK zK rfl rfl (X_move rfl) rfl ?_
 refine WC_take 1 rfl zK zK zK rfl rfl (X_nilCheck rfl) rfl ?_
 refine WC_take 2 rfl zK zK zK rfl rfl (X_fieldAddr rfl fld493_0 zd) rfl ?_
 refine WC_take 3 rfl zK zK zK rfl rfl (X_load (v:=.slice (some ⟨b,0,none⟩) R R) rfl ty349 rfl (Cell.own (b:=rb) zM rfl)) rfl ?_
 refine WC_take 4 rfl zK zK zK rfl rfl (X_move rfl) rfl ?_
 refine WC_take 5 rfl zK zK zK rfl rfl (X_nilCheck rfl) rfl ?_
 refine WC_take 6 rfl zK zK zK rfl rfl (X_fieldAddr rfl fld493_1 zd) rfl ?_
 refine WC_take 7 rfl zK zK zK rfl rfl (X_load (v:=.int .i64 ((h:Nat):Int)) rfl ty3 rfl (Cell.own (b:=rb) zM rfl)) rfl ?_
 refine WC_take 8 rfl zK zK zK rfl rfl (X_loadB (vs:=rdC (0,0)) rfl ty391 rfl (b:=b6) zM rfl rfl) rfl ?_
 refine WC_take 9 (l':=#[true,true,true,true,true,true,true,true,true,true,false]) rfl (by decide +kernel) (by decide +kernel) (by decide +kernel) rfl (by decide +kernel) (X_indexAddr (j:=h) rfl rfl ty349 ty391 (by first | rfl | omega) (by first | decide | omega | simp) rfl) rfl ?_
 refine WC_one 10 zH zK rfl rfl ?_
 refine W_storeA (l':=(List.set buf (h) (0,0)).flatMap rdC) rfl rfl ty391 rfl rfl (b:=b) zM (by rw [rows_len rdC_len]; omega) (by rw [Nat.zero_add]; exact flat_set rdC_len (0,0) (by omega)) zU ?_
 refine W_nil ?_
 refine WC_goal ?_
 refine WC_done zH zK ?_
 refine W_sr (W_move rfl rfl (W_move rfl rfl (W_callq (.cons rfl (.cons rfl .nil)) Tryz.call342 rfl (cplace_q (i:=1) (n:=(x::l).length) zM hI.pos hI.room hI.head zO) ?_)))
 refine W_nilCheck rfl rfl (W_fieldAddr rfl fld493_1 zd rfl ?_)
 refine W_store (l':=[.slice (some ⟨b,0,none⟩) R R,.int .i64 (((h+1)%R:Nat):Int),.int .i64 (((x::l).length:Nat):Int)]) rfl rfl ty3 rfl rfl (b:=rb) zM rfl rfl zU ?_
 refine W_nil (W_region (W_move rfl rfl (W_nilCheck rfl rfl (W_fieldAddr rfl fld493_2 zd rfl ?_))))
 refine W_load (v:=.int .i64 (((x::l).length:Nat):Int)) rfl ty3 rfl (Cell.own (b:=rb) zM rfl) rfl ?_
 refine W_bin rfl rfl (b_sub (m:=((l.length:Nat):Int)) (by rw [i64w (by simp only [List.length_cons]; omega)]; simp only [List.length_cons]; omega)) rfl ?_
 refine W_nilCheck rfl rfl (W_fieldAddr rfl fld493_2 zd rfl ?_)
 refine W_store (l':=[.slice (some ⟨b,0,none⟩) R R,.int .i64 (((h+1)%R:Nat):Int),.int .i64 ((l.length:Nat):Int)]) rfl rfl ty3 rfl rfl (b:=rb) zM rfl rfl zU ?_
 refine W_nil (W_sr (W_loadB (vs:=rdC x) rfl ty391 rfl (b:=b4) zM rfl rfl rfl ?_))
 refine W_move rfl rfl ?_
 refine W_storeA (l':=rdC x) rfl rfl ty391 rfl rfl (b:=b2) zM (by exact Nat.le_refl 2) rfl zU ?_
 refine W_assign rfl rfl (W_nil (W_ret2G (H2:=(rb,.cells 493 3 [.slice (some ⟨b,0,none⟩) R R,.int .i64 (((h+1)%R:Nat):Int),.int .i64 ((l.length:Nat):Int)])::(b,.cells 391 (R*2) ((List.set buf h (0,0)).flatMap rdC))::H) Tryz.results400 (.nil _) (.own rfl ty391 rfl zM rfl) (.tmp rfl) zH ?_))
 exact ⟨rfl,rfl⟩
theorem cPop_L {w0:World} {H HB:Heap} {R rb:Nat} {x:Int × Int} {l:List (Int × Int)} (hR:RngC R rb (x::l) HB):LCalls Tryz.prog w0 400 #[.pointer (some ⟨rb,0,none⟩)] (HB++H) (fun v H'=>∃ HB',RngC R rb l HB'∧v=.tuple #[.agg (List.toArray (rdC x)),.bool true]∧H'=HB'++H):=by
 cases hR with
 | mk hI =>
  refine (cPop_at (H:=H) hI).mono ?_
  rintro v H' ⟨rfl,rfl⟩
  exact ⟨_,.mk (hI.pop (z:=(0,0))),rfl,rfl⟩
theorem holds_row1 {w0:World} {H:Heap} {ad:Option Addr} {x:Int × Int} (h:Holds w0 H ad (rdC x)):∃ b o,ad=some ⟨b,o,none⟩∧Cells w0 H b o (rdC x):=by
 obtain ⟨b,o,e,hc⟩:=Holds.row (l:=[x]) (i:=0) (x:=x) rdC_len (by decide) (by simpa using h) rfl
 exact ⟨b,o,e,by simpa using hc⟩
theorem cPush_at {w0:World} {H:Heap} {R rb b h:Nat} {l buf:List (Int × Int)} (hI:RingA R l buf h) {x:Int × Int} {ad:Option Addr} {cap:Nat} (hxc:1≤cap) (hs:Holds w0 H ad (rdC x)) :LCalls Tryz.prog w0 251 #[.pointer (some ⟨rb,0,none⟩),.slice ad 1 cap] ((rb,.cells 493 3 [.slice (some ⟨b,0,none⟩) R R,.int .i64 ((h:Nat):Int),.int .i64 ((l.length:Nat):Int)])::(b,.cells 391 (R*2) ((buf).flatMap rdC))::H) (fun v H'=>∃ buf',RingA R (if l.length<R then l++[x] else l) buf' h∧v=.int .i64 (((if l.length<R then 1 else 0):Nat):Int)∧H'=(rb,.cells 493 3 [.slice (some ⟨b,0,none⟩) R R,.int .i64 ((h:Nat):Int),.int .i64 (((l.length+(if l.length<R then 1 else 0)):Nat):Int)])::(b,.cells 391 (R*2) ((buf').flatMap rdC))::H):=by
 have hmost:=hI.most
 have hroom:=hI.room
 have hhd:=hI.head
 have hpos:=hI.pos
 have hbl:=hI.len
 obtain ⟨k,hk⟩:∃ k,k=(if l.length<R then 1 else 0):=⟨_,rfl⟩
 rw [← hk]
 have hk1:k≤1:=by rw [hk]; split <;> omega
 have hk2:(k:Int)=min 1 ((R-l.length:Nat):Int):=by rw [hk]; split <;> omega
 refine L_enter (l:=[.pointer (some ⟨rb,0,none⟩),.slice ad 1 cap]) Tryz.func251 rfl Tryz.ntmps251 rfl rfl ?_
 refine W_sr (W_assign rfl rfl (W_nil (W_seq (W_sr (W_move rfl rfl ?_)))))
 refine W_x (X_ptrNil rfl rfl ty388) (fun _ h=>by cases h) rfl ?_
 refine W_nil (W_condF rfl rfl (W_skip (W_quietsr zk zK ?_)))
 refine WQ_x (X_move rfl) rfl (WQ_x (X_len rfl ty349 rfl) rfl ?_)
 refine WQ_x (X_move rfl) rfl (WQ_x (X_nilCheck rfl) rfl ?_)
 refine WQ_x (X_fieldAddr rfl fld493_0 zd) rfl ?_
 refine WQ_x (X_load (v:=.slice (some ⟨b,0,none⟩) R R) rfl ty349 rfl (Cell.own (b:=rb) zM rfl)) rfl ?_
 refine WQ_x (X_len rfl ty349 rfl) rfl ?_
 refine WQ_x (X_move rfl) rfl (WQ_x (X_nilCheck rfl) rfl ?_)
 refine WQ_x (X_fieldAddr rfl fld493_2 zd) rfl ?_
 refine WQ_x (X_load (v:=.int .i64 ((l.length:Nat):Int)) rfl ty3 rfl (Cell.own (b:=rb) zM rfl)) rfl ?_
 refine WQ_x (X_bin rfl rfl (b_sub (m:=((R-l.length:Nat):Int)) (by rw [i64w (by omega)]; omega))) rfl ?_
 refine WQ_x (X_min2 rfl rfl (m:=((k:Nat):Int)) (by rw [hk2]; split <;> omega)) rfl ?_
 refine WQ_x (X_assign rfl) rfl ?_
 refine WQ_nil ?_
 refine W_seq (W_sr (W_move rfl rfl (W_move rfl rfl (W_slice0 (hh:=k) rfl ty349 ty391 rfl ⟨_,rfl⟩ zO rfl ?_))))
 refine W_len rfl ty349 rfl rfl ?_
 refine W_move rfl rfl (W_nil (W_block ?_))
 refine W_loopC (X:=(Nat × List (Int × Int))) [(0,_),(5,_),(25,_),(26,_)] (fun (z:(Nat × List (Int × Int)))=>[(27,.int .i64 (z.1:Int))]) (fun _=>_) (fun (z:(Nat × List (Int × Int)))=>(rb,.cells 493 3 [.slice (some ⟨b,0,none⟩) R R,.int .i64 ((h:Nat):Int),.int .i64 (((l.length+z.1):Nat):Int)])::(b,.cells 391 (R*2) ((z.2).flatMap rdC))::H) (fun (z:(Nat × List (Int × Int)))=>z.1≤k∧(z.1=0→z.2=buf)∧(z.1=1→z.2=buf.set ((h+l.length)%R) x)) (fun (z:(Nat × List (Int × Int)))=>k-z.1) (0,buf) ⟨Nat.zero_le _,fun _=>rfl,fun e=>(by cases e)⟩ (sub_cons rfl (sub_cons rfl (sub_cons rfl (sub_cons rfl (sub_nil _))))) (sub_cons rfl (sub_nil _)) rfl (.refl _) ?_
 rintro ⟨i,bufi⟩ ⟨hi,hz,ho⟩
 dsimp only at hi hz ho ⊢
 simp only [List.cons_append,List.nil_append]
 refine W_sr (W_bin rfl rfl b_lss rfl ?_)
 refine W_nil (W_seq ?_)
 refine W_condPS (p:=i<k) rfl (by rw [decide_eq_true_eq]; omega) (fun q0=>?_) (fun q0=>?_)
 ·skip
  refine W_skip (W_seq (W_block (W_sr ?_)))
  obtain rfl:i=0:=by omega
  obtain rfl:=(hz rfl).symm
  obtain ⟨bs,os,rfl,hcx⟩:=holds_row1 hs
  have hpl:(h+l.length)%R<R:=Nat.mod_lt _ hI.pos
  rw [Nat.add_zero]
  refine W_indexAddr (j:=0) rfl rfl ty349 ty391 rfl zO rfl rfl ?_
  refine W_loadA (vs:=rdC x) rfl ty391 rfl rfl (hcx.up zH) rfl ?_
  refine W_alloc (l:=rdC (0,0)) ty391 rfl rfl (fun b7=>?_)
  refine W_storeA (l':=rdC x) rfl rfl ty391 rfl rfl (b:=b7) zM (by exact Nat.le_refl 2) rfl zU ?_
  refine W_nil (W_seq ?_)
  refine W_anyC [(rb,.cells 493 3 [.slice (some ⟨b,0,none⟩) R R,.int .i64 ((h:Nat):Int),.int .i64 ((l.length:Nat):Int)]),(b7,.cells 391 2 (rdC x))] zk ?_
  refine WC_take 0 rfl zK zK zK rfl rfl (X_move rfl) rfl ?_
  refine WC_take 1 rfl zK zK zK rfl rfl (X_nilCheck rfl) rfl ?_
  refine WC_take 2 rfl zK zK zK rfl rfl (X_fieldAddr rfl fld493_0 zd) rfl ?_
  refine WC_take 3 rfl zK zK zK rfl rfl (X_load (v:=.slice (some ⟨b,0,none⟩) R R) rfl ty349 rfl (Cell.own (b:=rb) zM rfl)) rfl ?_
  refine WC_take 4 rfl zK zK zK rfl rfl (X_move rfl) rfl ?_
  refine WC_take 5 rfl zK zK zK rfl rfl (X_move rfl) rfl ?_
  refine WC_take 6 rfl zK zK zK rfl rfl (X_nilCheck rfl) rfl ?_
  refine WC_take 7 rfl zK zK zK rfl rfl (X_fieldAddr rfl fld493_2 zd) rfl ?_
  refine WC_take 8 rfl zK zK zK rfl rfl (X_load (v:=.int .i64 ((l.length:Nat):Int)) rfl ty3 rfl (Cell.own (b:=rb) zM rfl)) rfl ?_
  refine WC_take 10 rfl zK zK zK rfl rfl (X_loadB (vs:=rdC x) rfl ty391 rfl (b:=b7) zM rfl rfl) rfl ?_
  refine WC_one 9 zH zK rfl rfl ?_
  refine W_callq (.cons rfl (.cons rfl .nil)) Tryz.call342 rfl (cplace_q (i:=l.length) (n:=l.length) zM hpos hroom hhd zO) ?_
  refine W_nil ?_
  refine WC_goal ?_
  refine WC_take 11 (l':=#[true,true,true,true,true,true,true,true,true,true,true,true,false]) rfl (by decide +kernel) (by decide +kernel) (by decide +kernel) rfl (by decide +kernel) (X_indexAddr (j:=(h+l.length)%R) rfl rfl ty349 ty391 (by first | rfl | omega) (by first | decide | omega | simp) rfl) rfl ?_
  refine WC_one 12 zH zK rfl rfl ?_
  refine W_storeA (l':=(List.set buf ((h+l.length)%R) x).flatMap rdC) rfl rfl ty391 rfl rfl (b:=b) zM (by rw [rows_len rdC_len]; omega) (by rw [Nat.zero_add]; exact flat_set rdC_len x (by omega)) zU ?_
  refine W_nil ?_
  refine WC_goal ?_
  refine WC_done zH zK ?_
  refine W_region (W_move rfl rfl (W_nilCheck rfl rfl (W_fieldAddr rfl fld493_2 zd rfl ?_)))
  refine W_load (v:=.int .i64 ((l.length:Nat):Int)) rfl ty3 rfl (Cell.own (b:=rb) zM rfl) rfl ?_
  refine W_bin rfl rfl (b_add (m:=((l.length+1:Nat):Int)) (by rw [i64w (by omega)]; omega)) rfl ?_
  refine W_nilCheck rfl rfl (W_fieldAddr rfl fld493_2 zd rfl ?_)
  refine W_store (l':=[.slice (some ⟨b,0,none⟩) R R,.int .i64 ((h:Nat):Int),.int .i64 (((l.length+1):Nat):Int)]) rfl rfl ty3 rfl rfl (b:=rb) zM rfl rfl zU ?_
  refine W_nil (W_blk (W_region (W_bin rfl rfl (b_add (m:=1) rfl) rfl ?_)))
  refine W_move rfl rfl (W_nil ?_)
  refine W_again (1,buf.set ((h+l.length)%R) x) ⟨by show 1≤k; omega,fun e=>(by cases e),fun _=>rfl⟩ (by show k-1<k-0; omega) (sub_cons rfl (sub_cons rfl (sub_cons rfl (sub_cons rfl (sub_cons rfl (sub_nil _)))))) rfl zH
 ·skip
  refine W_exit rfl ?_
  refine W_sr (W_move rfl rfl (W_assign rfl rfl (W_nil (W_ret1m Tryz.results251 rfl (.nil _) (.refl _) ?_))))
  obtain rfl:i=k:=by omega
  by_cases c:l.length<R
  ·rw [if_pos c] at hk ⊢
   subst hk
   exact ⟨bufi,by rw [ho rfl]; exact hI.push c,rfl,rfl⟩
  ·rw [if_neg c] at hk ⊢
   subst hk
   exact ⟨bufi,by rw [hz rfl]; exact hI,rfl,rfl⟩
theorem cPush_L {w0:World} {H HB:Heap} {R rb:Nat} {l:List (Int × Int)} (hR:RngC R rb l HB) {x:Int × Int} {ad:Option Addr} {cap:Nat} (hxc:1≤cap) (hs:Holds w0 H ad (rdC x)):LCalls Tryz.prog w0 251 #[.pointer (some ⟨rb,0,none⟩),.slice ad 1 cap] (HB++H) (fun v H'=>∃ HB',RngC R rb (if l.length<R then l++[x] else l) HB'∧v=.int .i64 (if l.length<R then 1 else 0)∧H'=HB'++H):=by
 cases hR with
 | mk hI =>
  refine (cPush_at (H:=H) hI hxc hs).mono ?_
  rintro v H' ⟨buf',hI',rfl,rfl⟩
  have e:l.length+(if l.length<R then 1 else 0)=(if l.length<R then l++[x] else l).length:=by split <;> simp
  rw [e]
  exact ⟨_,.mk hI',by split <;> rfl,rfl⟩
theorem RingA.start {α:Type} {z:α} {R:Nat} (h0:0<R) (h1:R≤256):RingA R [] (List.replicate R z) 0 :=
 ⟨h0,h1,List.length_replicate,h0,Nat.zero_le _,fun i x h=>by simp at h⟩
theorem cNewR_L {w0:World} {H:Heap}  :LCalls Tryz.prog w0 276 #[.int .i64 64] (H) (fun v H'=>∃ rb HB,v=.tuple #[.pointer (some ⟨rb,0,none⟩),.int .i64 0]∧RngC 64 rb [] HB∧H'=HB++H):=by
 refine L_enter (l:=[.int .i64 64]) Tryz.func276 rfl Tryz.ntmps276 rfl rfl ?_
 refine W_sr (W_assign rfl rfl (W_assign rfl rfl (W_nil (W_seq (W_sr (W_move rfl rfl (W_bin rfl rfl b_lss rfl ?_)))))))
 first | rw [decide_eq_true (by omega)] | rw [decide_eq_false (by omega)]
 refine W_move rfl rfl (W_gyes rfl rfl (W_move rfl rfl (W_gyes rfl rfl (W_bin rfl rfl b_gtr rfl ?_))))
 first | rw [decide_eq_true (by omega)] | rw [decide_eq_false (by omega)]
 first | refine W_pickt rfl rfl rfl ?_ | refine W_pickf rfl rfl rfl ?_
 refine W_nil (W_condF rfl rfl (W_skip (W_sr (W_move rfl rfl ?_))))
 refine W_makeSlice (ln:=64) (cp:=64) (l:=(List.replicate 64 ((0,0):Int × Int)).flatMap rdC) rfl rfl ty349 ty391 rfl rfl (Nat.le_refl _) (by omega) (by simp only [maxLen]; omega) (by kernel_rfl) rfl (fun b11=>?_)
 refine W_build (l:=[.slice (some ⟨b11,0,none⟩) 64 64,.int .i64 0,.int .i64 0]) ty493 pl493 (.cons rfl rfl rfl rfl rfl .nil) rfl rfl rfl ?_
 refine W_box (l:=[.slice (some ⟨b11,0,none⟩) 64 64,.int .i64 0,.int .i64 0]) rfl rfl rfl (fun b13=>?_)
 refine W_assign rfl rfl (W_assign rfl rfl (W_nil (W_ret2m (H2:=[(b13,.cells 493 3 [.slice (some ⟨b11,0,none⟩) 64 64,.int .i64 0,.int .i64 0]),(b11,.cells 391 (64*2) ((List.replicate 64 ((0,0):Int × Int)).flatMap rdC))]++H) Tryz.results276 rfl rfl (.nil _) zH ?_)))
 exact ⟨b13,_,rfl,.mk (RingA.start (z:=(0,0)) zd zd),rfl⟩
theorem cgall_iter {w0:World} {H:Heap} {lp b1:Nat} {R rb b h:Nat} {l buf:List (Int × Int)} (hI:RingA R l buf h) (J:Nat→Heap→Prop)
  (hround:∀ i x Hi,l[i]?=some x→J i Hi→RoundC Tryz.prog w0 lp #[.agg (List.toArray (rdC x))] ((b1,.cells 388 1 [.pointer (some ⟨rb,0,none⟩)])::(rb,.cells 493 3 [.slice (some ⟨b,0,none⟩) R R,.int .i64 ((h:Nat):Int),.int .i64 ((l.length:Nat):Int)])::(b,.cells 391 (R*2) ((buf).flatMap rdC))::Hi) (fun v H'=>∃ Hi',HSub H' ((b1,.cells 388 1 [.pointer (some ⟨rb,0,none⟩)])::(rb,.cells 493 3 [.slice (some ⟨b,0,none⟩) R R,.int .i64 ((h:Nat):Int),.int .i64 ((l.length:Nat):Int)])::(b,.cells 391 (R*2) ((buf).flatMap rdC))::Hi')∧v=.bool true∧J (i+1) Hi')) (hJ:J 0 H) :
  LCalls Tryz.prog w0 447 #[.func (.yield lp) #[] #[],.pointer (some ⟨b1,0,none⟩)] ((b1,.cells 388 1 [.pointer (some ⟨rb,0,none⟩)])::(rb,.cells 493 3 [.slice (some ⟨b,0,none⟩) R R,.int .i64 ((h:Nat):Int),.int .i64 ((l.length:Nat):Int)])::(b,.cells 391 (R*2) ((buf).flatMap rdC))::H) (fun _ H'=>∃ Hi',HSub H' ((b1,.cells 388 1 [.pointer (some ⟨rb,0,none⟩)])::(rb,.cells 493 3 [.slice (some ⟨b,0,none⟩) R R,.int .i64 ((h:Nat):Int),.int .i64 ((l.length:Nat):Int)])::(b,.cells 391 (R*2) ((buf).flatMap rdC))::Hi')∧J l.length Hi'):=by
 have hmost:=hI.most
 have hroom:=hI.room
 refine L_enter (l:=[.func (.yield lp) #[] #[],.pointer (some ⟨b1,0,none⟩)]) Tryz.func447 rfl Tryz.ntmps447 rfl rfl ?_
 refine W_sr (W_load (v:=.pointer (some ⟨rb,0,none⟩)) rfl ty388 rfl (Cell.own (b:=b1) zM rfl) rfl ?_)
 refine W_callq (.cons rfl .nil) Tryz.call401 rfl (cLen_q (n:=l.length) (h:=h) (R:=R) (b:=b) zM) ?_
 refine W_move rfl rfl (W_nil (W_block ?_))
 refine W_loopC (X:=(Nat × Heap)) [(0,_),(1,_),(5,_)] (fun (x:(Nat × Heap))=>[(6,.int .i64 (x.1:Int))]) (fun _=>_) (fun (x:(Nat × Heap))=>(b1,.cells 388 1 [.pointer (some ⟨rb,0,none⟩)])::(rb,.cells 493 3 [.slice (some ⟨b,0,none⟩) R R,.int .i64 ((h:Nat):Int),.int .i64 ((l.length:Nat):Int)])::(b,.cells 391 (R*2) ((buf).flatMap rdC))::x.2) (fun (x:(Nat × Heap))=>x.1≤l.length∧J x.1 x.2) (fun (x:(Nat × Heap))=>l.length-x.1) (0,H) ⟨Nat.zero_le _,hJ⟩ (sub_cons rfl (sub_cons rfl (sub_cons rfl (sub_nil _)))) (sub_cons rfl (sub_nil _)) rfl (.refl _) ?_
 rintro ⟨i,Hi⟩ ⟨hi,hJi⟩
 dsimp only at hi hJi ⊢
 simp only [List.cons_append,List.nil_append]
 refine W_sr (W_bin rfl rfl b_lss rfl ?_)
 refine W_nil (W_seq ?_)
 refine W_condPS (p:=(i:Int)<(l.length:Int)) rfl (by simp) (fun q0=>?_) (fun q0=>?_)
 ·skip
  refine W_skip (W_seq (W_block (W_sr (W_move rfl rfl (W_assign rfl rfl (W_nil (W_seq ?_)))))))
  obtain ⟨x,hx⟩:∃ x,l[i]?=some x:=⟨_,List.getElem?_eq_getElem zO⟩
  have hbx:=hI.at_ i x hx
  have hbl:=hI.len
  have hpl:(h+i)%R<R:=Nat.mod_lt _ hI.pos
  refine W_anyC [(b1,.cells 388 1 [.pointer (some ⟨rb,0,none⟩)]),(rb,.cells 493 3 [.slice (some ⟨b,0,none⟩) R R,.int .i64 ((h:Nat):Int),.int .i64 ((l.length:Nat):Int)]),(b,.cells 391 (R*2) ((buf).flatMap rdC))] zk ?_
  refine WC_take 0 rfl zK zK zK rfl rfl (X_move rfl) rfl ?_
  refine WC_take 1 rfl zK zK zK rfl rfl (X_load (v:=.pointer (some ⟨rb,0,none⟩)) rfl ty388 rfl (Cell.own (b:=b1) zM rfl)) rfl ?_
  refine WC_take 2 rfl zK zK zK rfl rfl (X_nilCheck rfl) rfl ?_
  refine WC_take 3 rfl zK zK zK rfl rfl (X_fieldAddr rfl fld493_0 zd) rfl ?_
  refine WC_take 4 rfl zK zK zK rfl rfl (X_load (v:=.slice (some ⟨b,0,none⟩) R R) rfl ty349 rfl (Cell.own (b:=rb) zM rfl)) rfl ?_
  refine WC_take 5 rfl zK zK zK rfl rfl (X_load (v:=.pointer (some ⟨rb,0,none⟩)) rfl ty388 rfl (Cell.own (b:=b1) zM rfl)) rfl ?_
  refine WC_take 6 rfl zK zK zK rfl rfl (X_move rfl) rfl ?_
  refine WC_one 7 zH zK rfl rfl ?_
  refine W_callq (.cons rfl (.cons rfl .nil)) Tryz.call342 rfl (cplace_q (i:=i) (n:=l.length) zM hI.pos hroom hI.head zO) ?_
  refine W_nil ?_
  refine WC_goal ?_
  refine WC_take 8 (l':=#[true,true,true,true,true,true,true,true,true,false,false,false]) rfl (by decide +kernel) (by decide +kernel) (by decide +kernel) rfl (by decide +kernel) (X_indexAddr (j:=(h+i)%R) rfl rfl ty349 ty391 (by first | rfl | omega) (by first | decide | omega | simp) rfl) rfl ?_
  refine WC_take 9 (l':=#[true,true,true,true,true,true,true,true,true,true,false,false]) rfl (by decide +kernel) (by decide +kernel) (by decide +kernel) rfl (by decide +kernel) (X_loadB (vs:=rdC x) rfl ty391 rfl (b:=b) zM (by rw [Nat.ble_eq,rows_len rdC_len]; omega) (by rw [Nat.zero_add]; exact rows_part (o:=0) (m:=2) rdC_len hbx (by decide))) rfl ?_
  refine WC_one 10 zH zK rfl rfl ?_
  refine W_yield rfl (.cons rfl .nil) rfl (hround i x Hi hx hJi) ?_
  rintro v H' ⟨Hi',hsub,rfl,hJ'⟩
  refine W_hsub hsub ?_
  refine W_nil ?_
  refine WC_goal ?_
  refine WC_take 11 rfl zK zK zK rfl rfl (X_not rfl) rfl ?_
  refine WC_done zH zK ?_
  refine W_condF rfl rfl (W_skip (W_blk (W_region (W_bin rfl rfl (b_add (m:=((i+1:Nat):Int)) ((i64w zO).trans zO)) rfl ?_))))
  refine W_move rfl rfl (W_nil ?_)
  refine W_again (i+1,Hi') ⟨by show i+1≤l.length; omega,hJ'⟩ (by show l.length-(i+1)<l.length-i; omega) (sub_cons rfl (sub_cons rfl (sub_cons rfl (sub_cons rfl (sub_nil _))))) rfl (.refl _)
 ·skip
  refine W_exit rfl ?_
  refine W_end0m Tryz.results447 (.nil _) (.refl _) ?_
  obtain rfl:i=l.length:=by omega
  exact ⟨Hi,.refl _,hJi⟩
theorem cgall_L {w0:World} {H:Heap} {ad:Option Addr} :LCalls Tryz.prog w0 419 #[.pointer ad] (H) (fun v H'=>∃ b1,v=.func (.func 447) #[] #[.pointer (some ⟨b1,0,none⟩)]∧H'=(b1,.cells 388 1 [.pointer ad])::H):=by
 refine L_enter (l:=[.pointer ad]) Tryz.func419 rfl Tryz.ntmps419 rfl rfl ?_
 refine W_sr ?_
 refine W_box rfl rfl rfl (fun b1=>?_)
 refine W_assign rfl rfl (W_nil (W_sr (W_makeFunc .nil (.cons rfl .nil) rfl ?_)))
 refine W_assign rfl rfl (W_nil (W_ret1m Tryz.results419 rfl (.nil _) (.refl _) ?_))
 exact ⟨b1,rfl,rfl⟩
theorem cList_at {w0:World} {H:Heap} {R rb b h:Nat} {l buf:List (Int × Int)} (hI:RingA R l buf h) :LCalls Tryz.prog w0 385 #[.pointer (some ⟨rb,0,none⟩)] ((rb,.cells 493 3 [.slice (some ⟨b,0,none⟩) R R,.int .i64 ((h:Nat):Int),.int .i64 ((l.length:Nat):Int)])::(b,.cells 391 (R*2) ((buf).flatMap rdC))::H) (fun v H'=>∃ XB,OwnS 391 2 v l.length (l.flatMap rdC) XB∧H'=XB++((rb,.cells 493 3 [.slice (some ⟨b,0,none⟩) R R,.int .i64 ((h:Nat):Int),.int .i64 ((l.length:Nat):Int)])::(b,.cells 391 (R*2) ((buf).flatMap rdC))::H)):=by
 have hmost:=hI.most
 have hroom:=hI.room
 refine L_enter (l:=[.pointer (some ⟨rb,0,none⟩)]) Tryz.func385 rfl Tryz.ntmps385 rfl rfl ?_
 refine W_sr (W_assign rfl rfl (W_nil (W_sr ?_)))
 refine W_alloc (l:=[.slice none 0 0]) ty349 rfl rfl (fun b3=>?_)
 refine W_nil (W_seq (W_sr (W_move rfl rfl (W_call (.cons rfl .nil) Tryz.call419 rfl (cgall_L) ?_))))
 rintro v H' ⟨b1,rfl,rfl⟩
 refine W_nil (W_block (W_rangeFunc rfl Tryz.call447 ?_))
 intro lp D r hst hpd hps hasg hbody hA
 have hr:=loop_ready hst hpd
 show LCalls _ _ _ #[_,_] _ _
 refine ((cgall_iter (b1:=b1) (H:=(lp,.obj (.loop r))::(D,.obj (.deferred (some [])))::(b3,.cells 349 1 [.slice none 0 0])::H) hI (fun i Hi=>∃ xv XB,OwnS 391 2 xv i ((l.take i).flatMap rdC) XB∧Hi=(lp,.obj (.loop r))::(D,.obj (.deferred (some [])))::(b3,.cells 349 1 [xv])::(XB++H)) ?_ ⟨_,[],.nil,rfl⟩).hsub zH).mono ?_
 ·intro i z Hi hz hJ
  obtain ⟨xv,XB,hX,rfl⟩:=hJ
  have hil:=(List.getElem?_eq_some_iff.1 hz).1
  refine round_intro hst hpd hA hps rfl hasg rfl rfl rfl zT ?_
  refine W_region ?_
  refine W_alloc (l:=rdC (0,0)) ty391 rfl rfl (fun b4=>?_)
  refine W_storeA (l':=rdC z) rfl rfl ty391 rfl rfl (b:=b4) zM (by exact Nat.le_refl 2) rfl zU ?_
  refine W_nil (W_begin hst hpd zT hbody ?_)
  refine W_block (W_region (W_load (v:=xv) rfl ty349 rfl (Cell.own (b:=b3) zM rfl) rfl ?_))
  refine W_loadB (vs:=rdC z) rfl ty391 rfl (b:=b4) zM rfl rfl rfl ?_
  refine W_buildSlice (l:=rdC z) ty349 ty391 (.cons rfl rfl rfl rfl rfl .nil) rfl rfl rfl rfl rfl rfl rfl (fun b10=>?_)
  refine W_append (news:=rdC z) (m:=1) (HB:=XB) (H0:=(b10,.cells 391 2 (rdC z))::(b4,.cells 391 2 (rdC z))::(b1,.cells 388 1 [.pointer (some ⟨rb,0,none⟩)])::(rb,.cells 493 3 [.slice (some ⟨b,0,none⟩) R R,.int .i64 ((h:Nat):Int),.int .i64 ((l.length:Nat):Int)])::(b,.cells 391 (R*2) ((buf).flatMap rdC))::(lp,.obj (.loop (Loop.at r .busy none)))::(D,.obj (.deferred (some [])))::(b3,.cells 349 1 [xv])::H) rfl rfl ty349 ty391 rfl (by decide) hX rfl (Holds.own List.mem_cons_self) rfl (by simp only [maxLen]; omega) (by omega) zH rfl (fun v' HB' hO'=>?_)
  refine W_store (l':=[v']) rfl rfl ty349 (by obtain ⟨a0,c0',e0,_⟩:=hO'.shape; rw [e0]; rfl) rfl (b:=b3) zM rfl rfl zU ?_
  refine W_nil (W_blk (W_endround zT ?_))
  rw [hr]
  exact ⟨(lp,.obj (.loop r))::(D,.obj (.deferred (some [])))::(b3,.cells 349 1 [v'])::(HB'++H),zH,rfl,v',HB',by rw [List.take_add_one,hz,List.flatMap_append]; simpa using hO',rfl⟩
 ·intro _ H' hp
  obtain ⟨Hi',hs,xv,XB,hX,rfl⟩:=hp
  rw [List.take_length] at hX
  refine ⟨.ready,none,(b1,.cells 388 1 [.pointer (some ⟨rb,0,none⟩)])::(rb,.cells 493 3 [.slice (some ⟨b,0,none⟩) R R,.int .i64 ((h:Nat):Int),.int .i64 ((l.length:Nat):Int)])::(b,.cells 391 (R*2) ((buf).flatMap rdC))::(D,.obj (.deferred (some [])))::(b3,.cells 349 1 [xv])::(XB++H),by rw [hr]; exact hs.trans zH,by decide,?_⟩
  show W _ _ _ _ _ _ _ _ _
  refine W_blk (W_sr (W_load (v:=xv) rfl ty349 rfl (Cell.own (b:=b3) zM rfl) rfl ?_))
  refine W_assign rfl rfl (W_nil (W_ret1m (H2:=XB++((rb,.cells 493 3 [.slice (some ⟨b,0,none⟩) R R,.int .i64 ((h:Nat):Int),.int .i64 ((l.length:Nat):Int)])::(b,.cells 391 (R*2) ((buf).flatMap rdC))::H)) Tryz.results385 rfl (.cons zT (.nil _)) zH ?_))
  exact ⟨XB,hX,rfl⟩
theorem RngC.list {w0:World} {H HB:Heap} {R rb:Nat} {l:List (Int × Int)} (hR:RngC R rb l HB):LCalls Tryz.prog w0 385 #[.pointer (some ⟨rb,0,none⟩)] (HB++H) (fun v H'=>∃ XB,OwnS 391 2 v l.length (l.flatMap rdC) XB∧H'=XB++(HB++H)):=by
 cases hR with
 | mk hI=>exact cList_at (H:=H) hI
theorem RngC.len {w0:World} {H HB:Heap} {R rb:Nat} {l:List (Int × Int)} (hR:RngC R rb l HB) (hm:∀ p∈HB,p∈H):PureAt Tryz.prog w0 H 401 [.pointer (some ⟨rb,0,none⟩)] (.int .i64 (l.length:Int)):=by
 cases hR with
 | mk hI=>exact cLen_q (hm _ List.mem_cons_self)
theorem RngC.most {HB:Heap} {R rb:Nat} {l:List (Int × Int)} (hR:RngC R rb l HB):l.length≤R∧R≤256:=by
 cases hR with
 | mk hI=>exact ⟨hI.most,hI.room⟩
theorem RngC.at0 {w0:World} {H HB:Heap} {R rb:Nat} {l:List (Int × Int)} (hR:RngC R rb l HB) (hm:∀ p∈HB,p∈H):PureAt Tryz.prog w0 H 399 [.pointer (some ⟨rb,0,none⟩),.int .i64 0] (atC l):=by
 cases hR with
 | mk hI=>exact cAt_q (hm _ List.mem_cons_self) (hm _ (List.mem_cons_of_mem _ List.mem_cons_self)) hI
abbrev cbP (rb:Nat):Value:=.pointer (some ⟨rb,0,none⟩)
structure LsOk (n:Nat) (rbs:List Nat) (XS:List Heap) (Q:List (List (Int × Int))):Prop where
 l1:rbs.length=n
 l2:XS.length=n
 l3:Q.length=n
 r:∀ (k:Nat) rb X q,rbs[k]?=some rb→XS[k]?=some X→Q[k]?=some q→RngC 64 rb q X
inductive ListsH (lb n:Nat) (Q:List (List (Int × Int))) (last:Int):Heap→Prop
 | mk {v:Value} {XQ:Heap} {XS:List Heap} {rbs:List Nat} (hv:OwnS 388 1 v n (rbs.map cbP) XQ) (hl:LsOk n rbs XS Q):ListsH lb n Q last ((lb,.cells 387 2 [v,.int .i64 last])::(XQ++XS.flatten))
theorem LsOk.set {n:Nat} {rbs:List Nat} {XS:List Heap} {Q:List (List (Int × Int))} (h:LsOk n rbs XS Q) {k rb:Nat} {X:Heap} {q:List (Int × Int)} (hk:rbs[k]?=some rb) (hX:RngC 64 rb q X):LsOk n rbs (XS.set k X) (Q.set k q):=by
 refine ⟨h.l1,by rw [List.length_set,h.l2],by rw [List.length_set,h.l3],fun j rb2 Y p h1 h2 h3=>?_⟩
 have hkn:=(List.getElem?_eq_some_iff.1 hk).1
 by_cases c:k=j
 ·subst c
  rw [List.getElem?_set_self (by rw [h.l2,← h.l1]; exact hkn)] at h2
  rw [List.getElem?_set_self (by rw [h.l3,← h.l1]; exact hkn)] at h3
  obtain rfl:=Option.some.inj h2
  obtain rfl:=Option.some.inj h3
  obtain rfl:=Option.some.inj (h1.symm.trans hk)
  exact hX
 ·rw [List.getElem?_set_ne c] at h2 h3
  exact h.r j rb2 Y p h1 h2 h3
theorem LsOk.snoc {n:Nat} {rbs:List Nat} {XS:List Heap} {Q:List (List (Int × Int))} (h:LsOk n rbs XS Q) {rb:Nat} {X:Heap} {q:List (Int × Int)} (hX:RngC 64 rb q X):LsOk (n+1) (rbs++[rb]) (XS++[X]) (Q++[q]):=by
 obtain ⟨h1,h2,h3,h4⟩:=h
 refine ⟨by simp [h1],by simp [h2],by simp [h3],fun j rb2 Y p e1 e2 e3=>?_⟩
 by_cases c:j<n
 ·rw [List.getElem?_append_left (by omega)] at e1 e2 e3
  exact h4 j rb2 Y p e1 e2 e3
 ·have hj:=(List.getElem?_eq_some_iff.1 e1).1
  rw [List.length_append,List.length_singleton] at hj
  obtain rfl:j=n:=by omega
  rw [List.getElem?_append_right (by omega),h1,Nat.sub_self] at e1
  rw [List.getElem?_append_right (by omega),h2,Nat.sub_self] at e2
  rw [List.getElem?_append_right (by omega),h3,Nat.sub_self] at e3
  cases e1; cases e2; cases e3; exact hX
def addC (q:List (Int × Int)) (id:Int):List (Int × Int):=if q.length<64 then q++[(id,0)] else q
theorem lNew_L {w0:World} {H:Heap} {n:Nat} (hn:1≤n∧n≤64) :LCalls Tryz.prog w0 197 #[.int .i64 (n:Int)] (H) (fun v H'=>∃ lb HB,v=.tuple #[.pointer (some ⟨lb,0,none⟩),.int .i64 0]∧ListsH lb n (List.replicate n []) 0 HB∧H'=HB++H):=by
 refine L_enter (l:=[.int .i64 (n:Int)]) Tryz.func197 rfl Tryz.ntmps197 rfl rfl ?_
 refine W_sr (W_assign rfl rfl (W_assign rfl rfl (W_nil (W_seq (W_sr (W_move rfl rfl (W_bin rfl rfl b_lss rfl ?_)))))))
 rw [decide_eq_false (by omega)]
 refine W_move rfl rfl (W_gyes rfl rfl (W_move rfl rfl (W_gyes rfl rfl (W_bin rfl rfl b_gtr rfl ?_))))
 rw [decide_eq_false (by omega)]
 first | refine W_pickt rfl rfl rfl ?_ | refine W_pickf rfl rfl rfl ?_
 refine W_nil (W_condF rfl rfl (W_skip (W_sr (W_build (l:=[.slice none 0 0,.int .i64 0]) ty387 pl387 .nil rfl rfl rfl ?_))))
 refine W_box (l:=[.slice none 0 0,.int .i64 0]) rfl rfl rfl (fun b14=>?_)
 refine W_assign rfl rfl (W_nil (W_seq (W_sr (W_move rfl rfl (W_move rfl rfl (W_nil (W_block ?_)))))))
 refine W_loopC (X:=(Nat × Value × Heap × List Heap × List Nat)) [(4,_),(15,_)] (fun (x:(Nat × Value × Heap × List Heap × List Nat))=>[(16,.int .i64 (x.1:Int))]) (fun _=>_) (fun (x:(Nat × Value × Heap × List Heap × List Nat))=>(b14,.cells 387 2 [x.2.1,.int .i64 0])::(x.2.2.1++(x.2.2.2.1.flatten++H))) (fun (x:(Nat × Value × Heap × List Heap × List Nat))=>x.1≤n∧OwnS 388 1 x.2.1 x.1 (x.2.2.2.2.map cbP) x.2.2.1∧LsOk x.1 x.2.2.2.2 x.2.2.2.1 (List.replicate x.1 [])) (fun (x:(Nat × Value × Heap × List Heap × List Nat))=>n-x.1) (0,.slice none 0 0,[],[],[]) ⟨Nat.zero_le _,.nil,⟨rfl,rfl,rfl,fun k r Y q h=>(by cases h)⟩⟩ (sub_cons rfl (sub_cons rfl (sub_nil _))) (sub_cons rfl (sub_nil _)) rfl (.refl _) ?_
 rintro ⟨i,v,XQ,XS,rbs⟩ ⟨hi,hv,hl⟩
 dsimp only at hi hv hl ⊢
 simp only [List.cons_append,List.nil_append]
 refine W_sr (W_bin rfl rfl b_lss rfl ?_)
 refine W_nil (W_seq ?_)
 refine W_condPS (p:=(i:Int)<(n:Int)) rfl (by simp) (fun q0=>?_) (fun q0=>?_)
 ·skip
  refine W_skip (W_seq (W_block (W_sr (W_call (.cons rfl .nil) Tryz.call276 rfl cNewR_L ?_))))
  rintro w2 H' ⟨rb,HX,rfl,hX,rfl⟩
  refine W_move rfl rfl (W_extract rfl rfl rfl (W_extract rfl rfl rfl (W_assign rfl rfl (W_assign rfl rfl (W_nil (W_seq (W_sr (W_move rfl rfl (W_bin rfl rfl b_neq rfl ?_)))))))))
  refine W_nil (W_condF rfl rfl (W_skip (W_region (W_move rfl rfl (W_move rfl rfl (W_nilCheck rfl rfl (W_fieldAddr rfl fld387_0 zd rfl ?_)))))))
  refine W_load (v:=v) rfl ty385 rfl (Cell.own (b:=b14) zM rfl) rfl ?_
  refine W_move rfl rfl ?_
  refine W_buildSlice (l:=[cbP rb]) ty385 ty388 (.cons rfl rfl rfl rfl rfl .nil) rfl rfl rfl rfl rfl rfl rfl (fun b31=>?_)
  refine W_append (news:=[cbP rb]) (m:=1) (HB:=XQ) (H0:=(b31,.cells 388 1 [cbP rb])::(HX++((b14,.cells 387 2 [v,.int .i64 0])::(XS.flatten++H)))) rfl rfl ty385 ty388 rfl (by decide) hv rfl (Holds.own (b:=b31) zM) rfl (by simp only [maxLen]; omega) (by omega) zH rfl (fun v' X' hv'=>?_)
  refine W_nilCheck rfl rfl (W_fieldAddr rfl fld387_0 zd rfl ?_)
  have hv1:v'.oneCell'=true:=by obtain ⟨_,_,rfl,_⟩:=hv'.shape; rfl
  refine W_store (l':=[v',.int .i64 0]) rfl rfl ty385 hv1 rfl (b:=b14) zM rfl rfl zU ?_
  refine W_nil (W_blk (W_region (W_bin rfl rfl (b_add (m:=((i+1:Nat):Int)) ((i64w zO).trans zO)) rfl ?_)))
  refine W_move rfl rfl (W_nil ?_)
  refine W_again (i+1,v',X',XS++[HX],rbs++[rb]) ⟨by show i+1≤n; omega,by show OwnS 388 1 v' (i+1) ((rbs++[rb]).map cbP) X'; rw [List.map_append]; exact hv',by show LsOk (i+1) _ _ (List.replicate (i+1) []); rw [List.replicate_succ']; exact hl.snoc hX⟩ (by show n-(i+1)<n-i; omega) (sub_cons rfl (sub_cons rfl (sub_cons rfl (sub_nil _)))) rfl (by show HSub _ ((b14,.cells 387 2 [v',.int .i64 0])::(X'++((XS++[HX]).flatten++H))); rw [List.flatten_append,List.flatten_singleton,List.append_assoc]; first | exact hsubI | (repeat (first | with_reducible exact HSub.refl _ | refine HSub.cons zT ?_ | refine HSub.app zS ?_ | exact HSub.nil _ | exact HSub.refl _ | refine HSub.drop ?_ | refine HSub.dropS ?_)))
 ·skip
  refine W_exit rfl ?_
  refine W_sr (W_move rfl rfl (W_assign rfl rfl (W_assign rfl rfl (W_nil (W_ret2m (H2:=(b14,.cells 387 2 [v,.int .i64 0])::(XQ++(XS.flatten++H))) Tryz.results197 rfl rfl (.nil _) zH ?_)))))
  obtain rfl:i=n:=by omega
  exact ⟨b14,(b14,.cells 387 2 [v,.int .i64 0])::(XQ++XS.flatten),rfl,.mk (rbs:=rbs) hv hl,by show _=_::((XQ++XS.flatten)++H); rw [List.append_assoc]⟩
theorem lAdd_L {w0:World} {H:Heap} {HB:Heap} {lb n k:Nat} {Q:List (List (Int × Int))} {last id:Int} {q:List (Int × Int)} {ad0:Option Addr} {cap0:Nat} (hL:ListsH lb n Q last HB) (hn:n≤64) (hk:k<n) (hq:Q[k]?=some q) (hrow:Holds w0 H ad0 [.int .i64 id]) :LCalls Tryz.prog w0 156 #[.pointer (some ⟨lb,0,none⟩),.int .i64 (k:Int),.slice ad0 1 cap0] (HB++H) (fun v H'=>∃ HB',ListsH lb n (Q.set k (addC q id)) last HB'∧v=.int .i64 (if q.length<64 then 0 else 3)∧H'=HB'++H):=by
 cases hL with
 | @mk v XQ XS rbs hv hl =>
 have hvl:=hv.length
 rw [List.length_map,Nat.mul_one] at hvl
 obtain ⟨ad,cap,rfl,hcl,hcm⟩:=hv.shape
 have hXr:∀ {H:Heap},(∀ p∈XQ,p∈H)→Holds w0 H ad (rbs.map cbP):=fun hs=>OwnS.toHolds hv hs
 obtain ⟨q1,p1,rfl⟩:∃ q1 p1,ad=some ⟨q1,p1,none⟩:=by
  obtain ⟨rb,hrb⟩:∃ rb,rbs[0]?=some rb:=⟨_,List.getElem?_eq_getElem zO⟩
  obtain ⟨q1,p1,e,_⟩:=(hXr (H:=XQ) (fun _ h=>h)).at (i:=0) (v:=cbP rb) (by rw [List.getElem?_map,hrb]; rfl)
  exact ⟨q1,p1,e⟩
 have hXc:∀ {H:Heap} {k rb:Nat},(∀ p∈XQ,p∈H)→rbs[k]?=some rb→Cell w0 H q1 (p1+k) (cbP rb):=fun {H k rb} hs hk=>by
  obtain ⟨q2,p2,e,hc⟩:=(hXr hs).at (i:=k) (v:=cbP rb) (by rw [List.getElem?_map,hk]; rfl)
  cases e; exact hc
 have hkr:k<rbs.length:=by rw [hl.l1]; exact hk
 obtain ⟨rb,hrb⟩:∃ rb,rbs[k]?=some rb:=⟨_,List.getElem?_eq_getElem hkr⟩
 obtain ⟨X,hX0⟩:∃ X,XS[k]?=some X:=⟨_,List.getElem?_eq_getElem (by rw [hl.l2]; exact hk)⟩
 have hX:=hl.r k rb X q hrb hX0 hq
 have e0:((lb,.cells 387 2 [.slice (some ⟨q1,p1,none⟩) n cap,.int .i64 last])::(XQ++XS.flatten))++H=(lb,.cells 387 2 [.slice (some ⟨q1,p1,none⟩) n cap,.int .i64 last])::(XQ++(XS.flatten++H)):=by simp only [List.cons_append,List.append_assoc]
 rw [e0]
 refine L_enter (l:=[.pointer (some ⟨lb,0,none⟩),.int .i64 (k:Int),.slice ad0 1 cap0]) Tryz.func156 rfl Tryz.ntmps156 rfl rfl ?_
 refine W_sr (W_assign rfl rfl (W_nil (W_seq (W_block (W_sr (W_move rfl rfl ?_))))))
 refine W_x (X_ptrNil rfl rfl ty221) (fun _ h=>by cases h) rfl ?_
 refine W_assign rfl rfl (W_nil (W_condF rfl rfl (W_sr (W_move rfl rfl (W_bin rfl rfl b_lss rfl ?_)))))
 first | rw [decide_eq_true (by omega)] | rw [decide_eq_false (by omega)]
 refine W_move rfl rfl ?_
 apply W_or
 iterate 4 exact rfl
 case h1 =>
  intro hg2
  refine W_gyes rfl rfl (W_move rfl rfl (W_gyes rfl rfl (W_move rfl rfl (W_gyes rfl rfl (W_nilCheck rfl rfl (W_gyes rfl rfl (W_fieldAddr rfl fld387_0 zd rfl ?_)))))))
  refine W_gyes rfl rfl (W_load (v:=.slice (some ⟨q1,p1,none⟩) n cap) rfl ty385 rfl (Cell.own (b:=lb) zM rfl) rfl ?_)
  refine W_gyes rfl rfl (W_len rfl ty385 rfl rfl ?_)
  refine W_gyes rfl rfl (W_bin rfl rfl b_geq rfl ?_)
  first | rw [decide_eq_true (by omega)] | rw [decide_eq_false (by omega)]
  exact W_met rfl zR
 refine W_assign rfl rfl (W_nil (W_condF rfl rfl (W_skip (W_blk (W_seq (W_sr (W_move rfl rfl (W_len rfl ty63 rfl rfl ?_))))))))
 refine W_move rfl rfl (W_nil (W_block ?_))
 refine W_loopC (X:=(Nat × List Heap)) [(0,_),(1,_),(24,_),(25,_)] (fun (z:(Nat × List Heap))=>[(26,.int .i64 (z.1:Int))]) (fun _=>_) (fun (z:(Nat × List Heap))=>(lb,.cells 387 2 [.slice (some ⟨q1,p1,none⟩) n cap,.int .i64 last])::(XQ++(z.2.flatten++H))) (fun (z:(Nat × List Heap))=>z.1≤1∧(z.1=0→z.2=XS)∧(z.1=1→q.length<64∧∃ X',RngC 64 rb (q++[(id,0)]) X'∧z.2=XS.set k X')) (fun (z:(Nat × List Heap))=>1-z.1) (0,XS) ⟨Nat.zero_le _,fun _=>rfl,fun h=>(by cases h)⟩ (sub_cons rfl (sub_cons rfl (sub_cons rfl (sub_cons rfl (sub_nil _))))) (sub_cons rfl (sub_nil _)) rfl (.refl _) ?_
 rintro ⟨i,XS1⟩ ⟨hi,hz,ho⟩
 dsimp only at hi hz ho ⊢
 simp only [List.cons_append,List.nil_append]
 refine W_sr (W_bin rfl rfl b_lss rfl ?_)
 refine W_nil (W_seq ?_)
 refine W_condPS (p:=i<1) rfl (by rw [decide_eq_true_eq]; omega) (fun q0=>?_) (fun q0=>?_)
 ·skip
  refine W_skip (W_seq (W_block (W_sr ?_)))
  obtain rfl:i=0:=by omega
  obtain rfl:XS=XS1:=(hz rfl).symm
  obtain ⟨q0_,p0_,rfl,hc⟩:=hrow.at (i:=0) (v:=.int .i64 id) rfl
  refine W_indexAddr (j:=0) rfl rfl ty63 ty3 rfl zd rfl rfl ?_
  refine W_load (v:=.int .i64 id) rfl ty3 rfl (by exact hc.up zH) rfl ?_
  refine W_assign rfl rfl (W_nil (W_sr (W_move rfl rfl (W_nilCheck rfl rfl (W_fieldAddr rfl fld387_0 zd rfl ?_)))))
  refine W_load (v:=.slice (some ⟨q1,p1,none⟩) n cap) rfl ty385 rfl (Cell.own (b:=lb) zM rfl) rfl ?_
  refine W_move rfl rfl ?_
  refine W_indexAddr (j:=k) rfl rfl ty385 ty388 (by first | rfl | omega) (by first | decide | omega | simp) rfl rfl ?_
  refine W_load (v:=cbP rb) rfl ty388 rfl (by rw [Nat.mul_one]; exact hXc (k:=k) (fun p hp=>List.mem_cons_of_mem _ (List.mem_append_left _ hp)) hrb) rfl ?_
  refine W_move rfl rfl (W_build (l:=rdC (id,0)) ty391 pl391 (.cons rfl rfl rfl rfl rfl .nil) rfl rfl rfl ?_)
  refine W_buildSlice (l:=rdC (id,0)) ty349 ty391 (.cons rfl rfl rfl rfl rfl .nil) rfl rfl rfl rfl rfl rfl rfl (fun b39=>?_)
  refine W_hsub (H':=X++((b39,.cells 391 2 (rdC (id,0)))::(lb,.cells 387 2 [.slice (some ⟨q1,p1,none⟩) n cap,.int .i64 last])::(XQ++((XS.set k []).flatten++H)))) ((show HSub _ ((b39,.cells 391 2 (rdC (id,0)))::(lb,.cells 387 2 [.slice (some ⟨q1,p1,none⟩) n cap,.int .i64 last])::(XQ++(X++((XS.set k []).flatten++H)))) from .cons (.here _) (.cons (.here _) (.app (.here _) (flattenOut hX0)))).trans zH) ?_
  refine W_call (.cons rfl (.cons rfl .nil)) Tryz.call251 rfl (cPush_L (H:=(b39,.cells 391 2 (rdC (id,0)))::(lb,.cells 387 2 [.slice (some ⟨q1,p1,none⟩) n cap,.int .i64 last])::(XQ++((XS.set k []).flatten++H))) hX (x:=(id,0)) zd (Holds.own (b:=b39) zM)) ?_
  rintro v H' ⟨X',hX',rfl,rfl⟩
  refine W_hsub (H':=(lb,.cells 387 2 [.slice (some ⟨q1,p1,none⟩) n cap,.int .i64 last])::(XQ++((XS.set k X').flatten++H))) ((show HSub _ ((lb,.cells 387 2 [.slice (some ⟨q1,p1,none⟩) n cap,.int .i64 last])::(XQ++(X'++((XS.set k []).flatten++H)))) from zH).trans (.cons (.here _) (.app (.here _) (flattenIn (by rw [hl.l2]; exact hk))))) ?_
  by_cases h64:q.length<64
  ·skip
   rw [if_pos h64] at hX'
   rw [show (if q.length<64 then (1:Int) else 0)=1 from if_pos h64]
   refine W_bin rfl rfl b_eql rfl ?_
   refine W_nil (W_condF rfl rfl (W_skip (W_blk (W_region (W_bin rfl rfl (b_add (m:=1) rfl) rfl ?_)))))
   refine W_move rfl rfl (W_nil ?_)
   refine W_again (1,XS.set k X') ⟨Nat.le_refl _,fun h=>(by cases h),fun _=>⟨h64,X',hX',rfl⟩⟩ (by show 1-1<1-0; decide) (sub_cons rfl (sub_cons rfl (sub_cons rfl (sub_cons rfl (sub_cons rfl (sub_nil _)))))) rfl zH
  ·skip
   rw [if_neg h64] at hX'
   rw [show (if q.length<64 then (1:Int) else 0)=0 from if_neg h64]
   refine W_bin rfl rfl b_eql rfl ?_
   refine W_nil (W_condT rfl rfl (W_sr (W_assign rfl rfl (W_nil (W_ret1m (H2:=(lb,.cells 387 2 [.slice (some ⟨q1,p1,none⟩) n cap,.int .i64 last])::(XQ++((XS.set k X').flatten++H))) Tryz.results156 rfl (.nil _) zH ?_)))))
   exact ⟨(lb,.cells 387 2 [.slice (some ⟨q1,p1,none⟩) n cap,.int .i64 last])::(XQ++(XS.set k X').flatten),.mk hv (hl.set hrb (by unfold addC; rw [if_neg h64]; exact hX')),by rw [if_neg h64],by simp only [List.cons_append,List.append_assoc]⟩
 ·skip
  refine W_exit rfl ?_
  refine W_sr (W_assign rfl rfl (W_nil (W_ret1m (H2:=(lb,.cells 387 2 [.slice (some ⟨q1,p1,none⟩) n cap,.int .i64 last])::(XQ++(XS1.flatten++H))) Tryz.results156 rfl (.nil _) zH ?_)))
  obtain rfl:i=1:=by omega
  obtain ⟨h64,X',hX',rfl⟩:=ho rfl
  exact ⟨(lb,.cells 387 2 [.slice (some ⟨q1,p1,none⟩) n cap,.int .i64 last])::(XQ++(XS.set k X').flatten),.mk hv (hl.set hrb (by unfold addC; rw [if_pos h64]; exact hX')),by rw [if_pos h64],by simp only [List.cons_append,List.append_assoc]⟩
def clsC (gen:Int) (c:Int × Int):Int × Int:=if c.2=0 then (c.1,gen) else c
theorem drop_at {α:Type} {l:List α} {i:Nat} {x:α} (h:l[i]?=some x):l.drop i=x::l.drop (i+1):=by
 have hi:=(List.getElem?_eq_some_iff.1 h)
 rw [List.drop_eq_getElem_cons hi.1,hi.2]
theorem close1_q {w0:World} {H:Heap} {b3:Nat} {gen:Int} {c:Int × Int} (hg:(b3,.cells 3 1 [.int .i64 gen])∈H):PureAt Tryz.prog w0 H 339 [.agg (List.toArray (rdC c)),.pointer (some ⟨b3,0,none⟩)] (.agg (List.toArray (rdC (clsC gen c)))):=by
 refine L_enter Tryz.func339 rfl Tryz.ntmps339 rfl rfl ?_
 refine W_sr ?_
 refine W_box (l:=rdC c) rfl rfl rfl (fun b2=>?_)
 refine W_alloc (l:=rdC (0,0)) ty391 rfl rfl (fun b3_=>?_)
 refine W_nil (W_seq (W_sr (W_fieldAddr rfl fld391_1 zd rfl ?_)))
 refine W_load (v:=.int .i64 c.2) rfl ty3 rfl (Cell.own (b:=b2) zM rfl) rfl ?_
 refine W_bin rfl rfl b_eql rfl ?_
 refine W_nil ?_
 refine W_condPS (p:=c.2=0) rfl (by simp) (fun q0=>?_) (fun q0=>?_)
 ·skip
  refine W_region ?_
  refine W_load (v:=.int .i64 gen) rfl ty3 rfl (Cell.own (b:=b3) (by repeat (first | exact hg | apply List.mem_cons_of_mem)) rfl) rfl ?_
  refine W_fieldAddr rfl fld391_1 zd rfl ?_
  refine W_store (l':=[.int .i64 c.1,.int .i64 gen]) rfl rfl ty3 rfl rfl (b:=b2) zM rfl rfl zU ?_
  refine W_nil (W_sr ?_)
  have e:clsC gen c=(c.1,gen):=if_pos q0
  rw [e]
  refine W_loadB (vs:=rdC (c.1,gen)) rfl ty391 rfl (b:=b2) zM rfl rfl rfl ?_
  refine W_storeA (l':=rdC (c.1,gen)) rfl rfl ty391 rfl rfl (b:=b3_) zM (by exact Nat.le_refl 2) rfl zU ?_
  refine W_nil (W_ret1cO (H2:=H) Tryz.results339 rfl (.nil _) ty391 rfl zM rfl zH ?_)
  exact ⟨rfl,rfl⟩
 ·skip
  refine W_skip (W_sr ?_)
  have e:clsC gen c=c:=if_neg q0
  rw [e]
  refine W_loadB (vs:=rdC c) rfl ty391 rfl (b:=b2) zM rfl rfl rfl ?_
  refine W_storeA (l':=rdC c) rfl rfl ty391 rfl rfl (b:=b3_) zM (by exact Nat.le_refl 2) rfl zU ?_
  refine W_nil (W_ret1cO (H2:=H) Tryz.results339 rfl (.nil _) ty391 rfl zM rfl zH ?_)
  exact ⟨rfl,rfl⟩
theorem turn_L {w0:World} {H:Heap} {HB:Heap} {rb b3:Nat} {gen:Int} {l:List (Int × Int)} (hR:RngC 64 rb l HB) (hg:(b3,.cells 3 1 [.int .i64 gen])∈H) :LCalls Tryz.prog w0 338 #[.pointer (some ⟨rb,0,none⟩),.func (.func 339) #[] #[.pointer (some ⟨b3,0,none⟩)]] (HB++H) (fun v H'=>∃ X' cnt,RngC 64 rb (l.map (clsC gen)) X'∧v=.int .i64 cnt∧0≤cnt∧cnt≤64∧H'=X'++H):=by
 have hmost:=hR.most.1
 refine L_enter (l:=[.pointer (some ⟨rb,0,none⟩),.func (.func 339) #[] #[.pointer (some ⟨b3,0,none⟩)]]) Tryz.func338 rfl Tryz.ntmps338 rfl rfl ?_
 refine W_sr (W_assign rfl rfl (W_nil (W_sr (W_assign rfl rfl (W_nil (W_seq (W_sr (W_move rfl rfl ?_))))))))
 refine W_callq (.cons rfl .nil) Tryz.call401 rfl (hR.len (fun p hp=>List.mem_append_left _ hp)) ?_
 refine W_move rfl rfl (W_nil (W_block ?_))
 refine W_loopC (X:=(Nat × Heap × Int)) [(0,_),(1,_),(10,_)] (fun (z:(Nat × Heap × Int))=>[(11,.int .i64 (z.1:Int)),(5,.int .i64 z.2.2)]) (fun _=>_) (fun (z:(Nat × Heap × Int))=>z.2.1++H) (fun (z:(Nat × Heap × Int))=>z.1≤l.length∧RngC 64 rb (l.drop z.1++(l.take z.1).map (clsC gen)) z.2.1∧0≤z.2.2∧z.2.2≤(z.1:Int)) (fun (z:(Nat × Heap × Int))=>l.length-z.1) (0,HB,0) ⟨Nat.zero_le _,by simpa using hR,Int.le_refl 0,by simp⟩ (sub_cons rfl (sub_cons rfl (sub_cons rfl (sub_nil _)))) (sub_cons rfl (sub_cons rfl (sub_nil _))) rfl (.refl _) ?_
 rintro ⟨i,X,cnt⟩ ⟨hi,hX,hc0,hc1⟩
 dsimp only at hi hX hc0 hc1 ⊢
 simp only [List.cons_append,List.nil_append]
 refine W_sr (W_bin rfl rfl b_lss rfl ?_)
 refine W_nil (W_seq ?_)
 refine W_condPS (p:=(i:Int)<(l.length:Int)) rfl (by simp) (fun q0=>?_) (fun q0=>?_)
 ·skip
  refine W_skip (W_seq (W_block (W_sr ?_)))
  obtain ⟨c,hc⟩:∃ c,l[i]?=some c:=⟨_,List.getElem?_eq_getElem zO⟩
  rw [drop_at hc,List.cons_append] at hX
  refine W_move rfl rfl (W_call (.cons rfl .nil) Tryz.call400 rfl (cPop_L (H:=H) hX) ?_)
  rintro v H' ⟨X1,hX1,rfl,rfl⟩
  refine W_move rfl rfl (W_extract rfl rfl rfl (W_extract rfl rfl rfl ?_))
  refine W_alloc (l:=rdC (0,0)) ty391 rfl rfl (fun b6=>?_)
  refine W_storeA (l':=rdC c) rfl rfl ty391 rfl rfl (b:=b6) zM (by exact Nat.le_refl 2) rfl zU ?_
  refine W_assign rfl rfl (W_nil (W_sr (W_move rfl rfl (W_loadB (vs:=rdC c) rfl ty391 rfl (b:=b6) zM rfl rfl rfl ?_))))
  refine W_callv (fa:=#[]) (ca:=#[.pointer (some ⟨b3,0,none⟩)]) rfl (.cons rfl .nil) Tryz.call339 rfl (close1_q (c:=c) (gen:=gen) (List.mem_cons_of_mem _ (List.mem_append_right _ hg))) ?_
  rintro v H' ⟨rfl,rfl⟩
  refine W_alloc (l:=rdC (0,0)) ty391 rfl rfl (fun b8=>?_)
  refine W_storeA (l':=rdC (clsC gen c)) rfl rfl ty391 rfl rfl (b:=b8) zM (by exact Nat.le_refl 2) rfl zU ?_
  refine W_nil (W_sr (W_move rfl rfl (W_loadB (vs:=rdC (clsC gen c)) rfl ty391 rfl (b:=b8) zM rfl rfl rfl ?_)))
  refine W_buildSlice (l:=rdC (clsC gen c)) ty349 ty391 (.cons rfl rfl rfl rfl rfl .nil) rfl rfl rfl rfl rfl rfl rfl (fun b23=>?_)
  refine W_hsub (H':=X1++((b23,.cells 391 2 (rdC (clsC gen c)))::(b8,.cells 391 2 (rdC (clsC gen c)))::(b6,.cells 391 2 (rdC c))::H)) zH ?_
  refine W_call (.cons rfl (.cons rfl .nil)) Tryz.call251 rfl (cPush_L (H:=(b23,.cells 391 2 (rdC (clsC gen c)))::(b8,.cells 391 2 (rdC (clsC gen c)))::(b6,.cells 391 2 (rdC c))::H) hX1 (x:=clsC gen c) zd (Holds.own (b:=b23) zM)) ?_
  rintro v H' ⟨X2,hX2,rfl,rfl⟩
  have hlen:(l.drop (i+1)++(l.take i).map (clsC gen)).length<64:=by rw [List.length_append,List.length_map,List.length_take,List.length_drop]; omega
  rw [if_pos hlen,List.append_assoc,← List.map_singleton (f:=clsC gen) (a:=c),← List.map_append,← takeAt hc] at hX2
  refine W_nil (W_sr (W_loadB (vs:=rdC c) rfl ty391 rfl (b:=b6) zM rfl rfl rfl ?_))
  refine W_loadB (vs:=rdC (clsC gen c)) rfl ty391 rfl (b:=b8) zM rfl rfl rfl ?_
  refine W_x (X_neA rfl rfl ty391 zk zk (.cons zd ty3 rfl rfl rfl (eqv_int ty3) (.cons zd ty3 rfl rfl rfl (eqv_int ty3) .nil))) (fun _ h=>by cases h) rfl ?_
  refine W_nil ?_
  refine W_condS rfl (fun q1=>?_) (fun q1=>?_)
  ·skip
   refine W_region (W_move rfl rfl (W_bin rfl rfl (b_add (m:=cnt+1) (i64w zO)) rfl ?_))
   refine W_assign rfl rfl (W_nil (W_blk (W_region (W_bin rfl rfl (b_add (m:=((i+1:Nat):Int)) ((i64w zO).trans zO)) rfl ?_))))
   refine W_move rfl rfl (W_nil ?_)
   refine W_again (i+1,X2,cnt+1) ⟨by show i+1≤l.length; omega,hX2,by show 0≤cnt+1; omega,by show cnt+1≤((i+1:Nat):Int); omega⟩ (by show l.length-(i+1)<l.length-i; omega) (sub_cons rfl (sub_cons rfl (sub_cons rfl (sub_cons rfl (sub_cons rfl (sub_nil _)))))) rfl zH
  ·skip
   refine W_skip (W_blk (W_region (W_bin rfl rfl (b_add (m:=((i+1:Nat):Int)) ((i64w zO).trans zO)) rfl ?_)))
   refine W_move rfl rfl (W_nil ?_)
   refine W_again (i+1,X2,cnt) ⟨by show i+1≤l.length; omega,hX2,by show 0≤cnt; omega,by show cnt≤((i+1:Nat):Int); omega⟩ (by show l.length-(i+1)<l.length-i; omega) (sub_cons rfl (sub_cons rfl (sub_cons rfl (sub_cons rfl (sub_cons rfl (sub_nil _)))))) rfl zH
 ·skip
  refine W_exit rfl ?_
  refine W_sr (W_move rfl rfl (W_assign rfl rfl (W_nil (W_ret1m (H2:=X++H) Tryz.results338 rfl (.nil _) zH ?_))))
  obtain rfl:i=l.length:=by omega
  rw [List.drop_length,List.nil_append,List.take_length] at hX
  exact ⟨X,cnt,hX,rfl,hc0,by omega,rfl⟩
theorem set_take {α:Type} {f:α→α} {Q:List α} {k:Nat} {q:α} (h:Q[k]?=some q):((Q.take k).map f++Q.drop k).set k (f q)=(Q.take (k+1)).map f++Q.drop (k+1):=by
 have hk:=(List.getElem?_eq_some_iff.1 h).1
 rw [List.set_append_right _ _ (by rw [List.length_map,List.length_take]; omega),List.length_map,List.length_take,Nat.min_eq_left (by omega),Nat.sub_self,drop_at h,List.set_cons_zero,List.take_add_one,h,List.map_append,List.append_assoc]
 rfl
theorem lClose_L {w0:World} {H:Heap} {HB:Heap} {lb n:Nat} {Q:List (List (Int × Int))} {last gen:Int} (hL:ListsH lb n Q last HB) (hn:0<n∧n≤64) (hg:1≤gen∧last≤gen) :LCalls Tryz.prog w0 249 #[.pointer (some ⟨lb,0,none⟩),.int .i64 gen] (HB++H) (fun v H'=>∃ HB' cnt,ListsH lb n (Q.map (fun q=>q.map (clsC gen))) gen HB'∧v=.int .i64 cnt∧H'=HB'++H):=by
 cases hL with
 | @mk v XQ XS rbs hv hl =>
 have hvl:=hv.length
 rw [List.length_map,Nat.mul_one] at hvl
 obtain ⟨ad,cap,rfl,hcl,hcm⟩:=hv.shape
 have hXr:∀ {H:Heap},(∀ p∈XQ,p∈H)→Holds w0 H ad (rbs.map cbP):=fun hs=>OwnS.toHolds hv hs
 obtain ⟨q1,p1,rfl⟩:∃ q1 p1,ad=some ⟨q1,p1,none⟩:=by
  obtain ⟨rb,hrb⟩:∃ rb,rbs[0]?=some rb:=⟨_,List.getElem?_eq_getElem (by rw [hl.l1]; exact hn.1)⟩
  obtain ⟨q1,p1,e,_⟩:=(hXr (H:=XQ) (fun _ h=>h)).at (i:=0) (v:=cbP rb) (by rw [List.getElem?_map,hrb]; rfl)
  exact ⟨q1,p1,e⟩
 have hXc:∀ {H:Heap} {k rb:Nat},(∀ p∈XQ,p∈H)→rbs[k]?=some rb→Cell w0 H q1 (p1+k) (cbP rb):=fun {H k rb} hs hk=>by
  obtain ⟨q2,p2,e,hc⟩:=(hXr hs).at (i:=k) (v:=cbP rb) (by rw [List.getElem?_map,hk]; rfl)
  cases e; exact hc
 have e0:((lb,.cells 387 2 [.slice (some ⟨q1,p1,none⟩) n cap,.int .i64 last])::(XQ++XS.flatten))++H=(lb,.cells 387 2 [.slice (some ⟨q1,p1,none⟩) n cap,.int .i64 last])::(XQ++(XS.flatten++H)):=by simp only [List.cons_append,List.append_assoc]
 rw [e0]
 refine L_enter (l:=[.pointer (some ⟨lb,0,none⟩),.int .i64 gen]) Tryz.func249 rfl Tryz.ntmps249 rfl rfl ?_
 refine W_sr ?_
 refine W_box (l:=[.int .i64 gen]) rfl rfl rfl (fun b3=>?_)
 refine W_assign rfl rfl (W_nil (W_seq (W_quietsr zk zK ?_)))
 refine WQ_x (X_move rfl) rfl (WQ_x (X_ptrNil rfl rfl ty221) rfl ?_)
 refine WQ_x (X_move rfl) rfl (WQ_gyes rfl rfl (WQ_x (X_load (v:=.int .i64 gen) rfl ty3 rfl (Cell.own (b:=b3) zM rfl)) rfl ?_))
 refine WQ_gyes rfl rfl (WQ_x (X_bin rfl rfl b_lss) rfl ?_)
 first | rw [decide_eq_true (by omega)] | rw [decide_eq_false (by omega)]
 first | refine WQ_x (X_pickt rfl rfl) rfl ?_ | refine WQ_x (X_pickf rfl rfl) rfl ?_
 refine WQ_x (X_move rfl) rfl (WQ_gyes rfl rfl (WQ_x (X_load (v:=.int .i64 gen) rfl ty3 rfl (Cell.own (b:=b3) zM rfl)) rfl ?_))
 refine WQ_gyes rfl rfl (WQ_x (X_move rfl) rfl (WQ_gyes rfl rfl (WQ_x (X_nilCheck rfl) rfl ?_)))
 refine WQ_gyes rfl rfl (WQ_x (X_fieldAddr rfl fld387_1 zd) rfl ?_)
 refine WQ_gyes rfl rfl (WQ_x (X_load (v:=.int .i64 last) rfl ty3 rfl (Cell.own (b:=lb) zM rfl)) rfl ?_)
 refine WQ_gyes rfl rfl (WQ_x (X_bin rfl rfl b_lss) rfl ?_)
 first | rw [decide_eq_true (by omega)] | rw [decide_eq_false (by omega)]
 first | refine WQ_x (X_pickt rfl rfl) rfl ?_ | refine WQ_x (X_pickf rfl rfl) rfl ?_
 refine WQ_nil ?_
 refine W_condF rfl rfl (W_skip (W_sr (W_move rfl rfl (W_load (v:=.int .i64 gen) rfl ty3 rfl (Cell.own (b:=b3) zM rfl) rfl ?_))))
 refine W_nilCheck rfl rfl (W_fieldAddr rfl fld387_1 zd rfl ?_)
 refine W_store (l':=[.slice (some ⟨q1,p1,none⟩) n cap,.int .i64 gen]) rfl rfl ty3 rfl rfl (b:=lb) zM rfl rfl zU ?_
 refine W_nil (W_sr (W_assign rfl rfl (W_nil (W_seq (W_sr (W_move rfl rfl (W_nilCheck rfl rfl (W_fieldAddr rfl fld387_0 zd rfl ?_))))))))
 refine W_load (v:=.slice (some ⟨q1,p1,none⟩) n cap) rfl ty385 rfl (Cell.own (b:=lb) zM rfl) rfl ?_
 refine W_len rfl ty385 rfl rfl ?_
 refine W_move rfl rfl (W_nil (W_block ?_))
 refine W_loopC (X:=(Nat × List Heap × List (List (Int × Int)) × Int)) [(3,_),(29,_),(30,_)] (fun (z:(Nat × List Heap × List (List (Int × Int)) × Int))=>[(31,.int .i64 (z.1:Int)),(5,.int .i64 z.2.2.2)]) (fun _=>_) (fun (z:(Nat × List Heap × List (List (Int × Int)) × Int))=>(b3,.cells 3 1 [.int .i64 gen])::(lb,.cells 387 2 [.slice (some ⟨q1,p1,none⟩) n cap,.int .i64 gen])::(XQ++(z.2.1.flatten++H))) (fun (z:(Nat × List Heap × List (List (Int × Int)) × Int))=>z.1≤n∧LsOk n rbs z.2.1 z.2.2.1∧z.2.2.1=((Q.take z.1).map (fun q=>q.map (clsC gen))++Q.drop z.1)∧0≤z.2.2.2∧z.2.2.2≤64*(z.1:Int)) (fun (z:(Nat × List Heap × List (List (Int × Int)) × Int))=>n-z.1) (0,XS,Q,0) ⟨Nat.zero_le _,hl,by simp,Int.le_refl 0,by simp⟩ (sub_cons rfl (sub_cons rfl (sub_cons rfl (sub_nil _)))) (sub_cons rfl (sub_cons rfl (sub_nil _))) rfl (.refl _) ?_
 rintro ⟨k,XS1,Q1,cnt⟩ ⟨hi,hl1,hQ1,hc0,hc1⟩
 dsimp only at hi hl1 hQ1 hc0 hc1 ⊢
 simp only [List.cons_append,List.nil_append]
 refine W_sr (W_bin rfl rfl b_lss rfl ?_)
 refine W_nil (W_seq ?_)
 refine W_condPS (p:=(k:Int)<(n:Int)) rfl (by simp) (fun q0=>?_) (fun q0=>?_)
 ·skip
  refine W_skip (W_seq (W_block (W_sr ?_)))
  have hk:k<n:=by omega
  obtain ⟨rb,hrb⟩:∃ rb,rbs[k]?=some rb:=⟨_,List.getElem?_eq_getElem (by rw [hl1.l1]; exact hk)⟩
  obtain ⟨X,hX0⟩:∃ X,XS1[k]?=some X:=⟨_,List.getElem?_eq_getElem (by rw [hl1.l2]; exact hk)⟩
  obtain ⟨q,hq⟩:∃ q,Q1[k]?=some q:=⟨_,List.getElem?_eq_getElem (by rw [hl1.l3]; exact hk)⟩
  have hX:=hl1.r k rb X q hrb hX0 hq
  have hqq:Q[k]?=some q:=by
   rw [hQ1,List.getElem?_append_right (by rw [List.length_map,List.length_take]; omega),List.length_map,List.length_take,Nat.min_eq_left (by rw [hl.l3]; omega),Nat.sub_self,List.getElem?_drop] at hq
   simpa using hq
  refine W_indexAddr (j:=k) rfl rfl ty385 ty388 rfl hk rfl rfl ?_
  refine W_load (v:=cbP rb) rfl ty388 rfl (by rw [Nat.mul_one]; exact hXc (k:=k) (fun p hp=>List.mem_cons_of_mem _ (List.mem_cons_of_mem _ (List.mem_append_left _ hp))) hrb) rfl ?_
  refine W_assign rfl rfl (W_nil (W_region (W_move rfl rfl (W_move rfl rfl (W_makeFunc .nil (.cons rfl .nil) rfl ?_)))))
  refine W_hsub (H':=X++((b3,.cells 3 1 [.int .i64 gen])::(lb,.cells 387 2 [.slice (some ⟨q1,p1,none⟩) n cap,.int .i64 gen])::(XQ++((XS1.set k []).flatten++H)))) ((show HSub _ ((b3,.cells 3 1 [.int .i64 gen])::(lb,.cells 387 2 [.slice (some ⟨q1,p1,none⟩) n cap,.int .i64 gen])::(XQ++(X++((XS1.set k []).flatten++H)))) from .cons (.here _) (.cons (.here _) (.app (.here _) (flattenOut hX0)))).trans zH) ?_
  refine W_call (.cons rfl (.cons rfl .nil)) Tryz.call338 rfl (turn_L (H:=(b3,.cells 3 1 [.int .i64 gen])::(lb,.cells 387 2 [.slice (some ⟨q1,p1,none⟩) n cap,.int .i64 gen])::(XQ++((XS1.set k []).flatten++H))) hX (gen:=gen) List.mem_cons_self) ?_
  rintro v H' ⟨X',c2,hX',rfl,hc2,hc3,rfl⟩
  refine W_hsub (H':=(b3,.cells 3 1 [.int .i64 gen])::(lb,.cells 387 2 [.slice (some ⟨q1,p1,none⟩) n cap,.int .i64 gen])::(XQ++((XS1.set k X').flatten++H))) ((show HSub _ ((b3,.cells 3 1 [.int .i64 gen])::(lb,.cells 387 2 [.slice (some ⟨q1,p1,none⟩) n cap,.int .i64 gen])::(XQ++(X'++((XS1.set k []).flatten++H)))) from zH).trans (.cons (.here _) (.cons (.here _) (.app (.here _) (flattenIn (by rw [hl1.l2]; exact hk)))))) ?_
  refine W_bin rfl rfl (b_add (m:=cnt+c2) (i64w zO)) rfl ?_
  refine W_assign rfl rfl (W_nil (W_blk (W_region (W_bin rfl rfl (b_add (m:=((k+1:Nat):Int)) ((i64w zO).trans zO)) rfl ?_))))
  refine W_move rfl rfl (W_nil ?_)
  refine W_again (k+1,XS1.set k X',Q1.set k (q.map (clsC gen)),cnt+c2) ⟨by show k+1≤n; omega,hl1.set hrb hX',(by show Q1.set k _=_; rw [hQ1]; exact set_take hqq),by show 0≤cnt+c2; omega,by show cnt+c2≤64*((k+1:Nat):Int); omega⟩ (by show n-(k+1)<n-k; omega) (sub_cons rfl (sub_cons rfl (sub_cons rfl (sub_cons rfl (sub_cons rfl (sub_nil _)))))) rfl zH
 ·skip
  refine W_exit rfl ?_
  refine W_sr (W_move rfl rfl (W_assign rfl rfl (W_nil (W_ret1m (H2:=(lb,.cells 387 2 [.slice (some ⟨q1,p1,none⟩) n cap,.int .i64 gen])::(XQ++(XS1.flatten++H))) Tryz.results249 rfl (.nil _) zH ?_))))
  have ekn:k=n:=by omega
  rw [ekn,List.take_of_length_le (by rw [hl.l3]; exact Nat.le_refl _),List.drop_eq_nil_of_le (by rw [hl.l3]; exact Nat.le_refl _),List.append_nil] at hQ1
  subst hQ1
  exact ⟨(lb,.cells 387 2 [.slice (some ⟨q1,p1,none⟩) n cap,.int .i64 gen])::(XQ++XS1.flatten),cnt,.mk hv hl1,rfl,by simp only [List.cons_append,List.append_assoc]⟩
theorem HSub.of_perm {H H':Heap} (h:H.Perm H'):HSub H H':=by
 induction h with
 | nil=>exact .refl _
 | cons x _ ih=>exact .cons (.here _) ih
 | swap x y l=>exact .cons (.next (.here _)) (.refl _)
 | trans _ _ ih1 ih2=>exact .trans ih1 ih2
theorem flat_take {α:Type}:∀ {XS:List (List α)} {k:Nat} {B:List α},XS[k]?=some B→XS.flatten.Perm (B++(XS.set k []).flatten)
 | X::XS,0,B,h=>by
  obtain rfl:X=B:=by simpa using h
  simp
 | X::XS,k+1,B,h=>by
  have ih:=flat_take (XS:=XS) (k:=k) (B:=B) (by simpa using h)
  simp only [List.flatten_cons,List.set_cons_succ]
  exact (ih.append_left X).trans (by rw [← List.append_assoc,← List.append_assoc]; exact List.perm_append_comm.append_right _)
theorem flat_put {α:Type} {XS:List (List α)} {k:Nat} {B:List α} (h:k<XS.length):(B++(XS.set k []).flatten).Perm (XS.set k B).flatten:=by
 have h1:=flat_take (XS:=XS.set k B) (k:=k) (B:=B) (by simp [h])
 rw [List.set_set] at h1
 exact h1.symm
def whRow (now:Nat) (sl:List Value) (bs:List Nat) (bm turn:Nat):List Value:=.int .u64 (now:Int)::(sl++(bs.map (fun z:Nat=>Value.int .u64 (z:Int))++[.map (some bm),.int .i64 (turn:Int)]))
structure RowOk (sl:List Value) (bs:List Nat):Prop where
 sl:sl.length=512
 bs:bs.length=8
theorem wh_len {now bm turn:Nat} {sl:List Value} {bs:List Nat} (h:RowOk sl bs):(whRow now sl bs bm turn).length=523:=by
 simp [whRow,h.sl,h.bs]
theorem wh_sl {now bm turn k:Nat} {sl:List Value} {bs:List Nat} {v:Value} (h:RowOk sl bs) (hv:sl[k]?=some v):(whRow now sl bs bm turn)[1+k]?=some v:=by
 have hk:=(List.getElem?_eq_some_iff.1 hv).1
 unfold whRow
 rw [Nat.add_comm,List.getElem?_cons_succ,List.getElem?_append_left hk,hv]
theorem wh_bs {now bm turn k z:Nat} {sl:List Value} {bs:List Nat} (h:RowOk sl bs) (hv:bs[k]?=some z):(whRow now sl bs bm turn)[513+k]?=some (.int .u64 (z:Int)):=by
 have hk:=(List.getElem?_eq_some_iff.1 hv).1
 unfold whRow
 rw [show 513+k=(512+k)+1 by omega,List.getElem?_cons_succ,List.getElem?_append_right (by rw [h.sl]; omega),h.sl,show 512+k-512=k by omega,List.getElem?_append_left (by simpa using hk),List.getElem?_map,hv]; rfl
theorem wh_map {now bm turn:Nat} {sl:List Value} {bs:List Nat} (h:RowOk sl bs):(whRow now sl bs bm turn)[521]?=some (.map (some bm)):=by
 unfold whRow
 rw [List.getElem?_cons_succ,List.getElem?_append_right (by rw [h.sl]; omega),h.sl,List.getElem?_append_right (by rw [List.length_map,h.bs]; omega),List.length_map,h.bs]; rfl
theorem wh_setSl {now bm turn k:Nat} {sl:List Value} {bs:List Nat} {v:Value} (h:RowOk sl bs) (hk:k<512):(whRow now sl bs bm turn).set (1+k) v=whRow now (sl.set k v) bs bm turn:=by
 unfold whRow
 rw [Nat.add_comm,List.set_cons_succ,List.set_append_left _ _ (by rw [h.sl]; exact hk)]
theorem wh_setBs {now bm turn k z:Nat} {sl:List Value} {bs:List Nat} (h:RowOk sl bs) (hk:k<8):(whRow now sl bs bm turn).set (513+k) (.int .u64 (z:Int))=whRow now sl (bs.set k z) bm turn:=by
 unfold whRow
 rw [show 513+k=(512+k)+1 by omega,List.set_cons_succ,List.set_append_right _ _ (by rw [h.sl]; omega),h.sl,show 512+k-512=k by omega,List.set_append_left _ _ (by simpa [h.bs] using hk),List.map_set]
theorem RowOk.setSl {sl:List Value} {bs:List Nat} (h:RowOk sl bs) (k:Nat) (v:Value):RowOk (sl.set k v) bs:=⟨by rw [List.length_set,h.sl],h.bs⟩
theorem RowOk.setBs {sl:List Value} {bs:List Nat} (h:RowOk sl bs) (k z:Nat):RowOk sl (bs.set k z):=⟨h.sl,by rw [List.length_set,h.bs]⟩
set_option maxRecDepth 100000
def sl0:List Value:=List.replicate 512 (.slice none 0 0)
def bs0:List Nat:=List.replicate 8 0
theorem ok0:RowOk sl0 bs0:=⟨List.length_replicate,List.length_replicate⟩
theorem New_L {w0:World} {H:Heap} {now:Nat} :LCalls Tryz.prog w0 275 #[.int .u64 ((now:Nat):Int)] (H) (fun v H'=>∃ bw bm,v=.pointer (some ⟨bw,0,none⟩)∧H'=(bw,.cells 406 523 (whRow now sl0 bs0 bm 0))::(bm,.obj (mapO (Value.int .i64) [] 0))::H):=by
 refine L_enter (l:=[.int .u64 ((now:Nat):Int)]) Tryz.func275 rfl Tryz.ntmps275 rfl rfl ?_
 refine W_sr (W_assign rfl rfl (W_nil (W_sr (W_move rfl rfl ?_))))
 refine W_makeMap (kf:=(Value.int .i64)) rfl (fun b4=>?_)
 refine W_build (l:=whRow now sl0 bs0 b4 0) ty406 pl406 (.cons rfl rfl rfl rfl rfl (.cons rfl rfl rfl rfl rfl .nil)) rfl zk rfl ?_
 refine W_box (l:=whRow now sl0 bs0 b4 0) rfl rfl rfl (fun b6=>?_)
 refine W_assign rfl rfl (W_nil (W_ret1m Tryz.results275 rfl (.nil _) (.refl _) ?_))
 exact ⟨b6,b4,rfl,rfl⟩
end Go.Proofs.YtincjohoncljoaaGreatDoor
