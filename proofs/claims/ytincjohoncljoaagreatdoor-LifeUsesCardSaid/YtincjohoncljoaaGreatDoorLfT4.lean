/-
  Own work: contracts of functions that the statement reaches, and plain facts on what they compute; each theorem says its conditions.
-/
import Derived.Test.YtincjohoncljoaaGreatDoorLfT3
import Derived.Test.YtincjohoncljoaaGreatDoorLfS1
import Derived.Test.YtincjohoncljoaaGreatDoorLfS2
import Derived.Test.YtincjohoncljoaaGreatDoorLfA
set_option linter.all false
set_option linter.unusedSimpArgs false
set_option linter.unusedVariables false
set_option maxHeartbeats 16000000
namespace Go.Proofs.YtincjohoncljoaaGreatDoor
open Go Go.Sl
attribute [local irreducible] W
theorem flattenBack {XS:List Heap} {k:Nat} {B H:Heap} (h:XS[k]?=some B):HSub (B++((XS.set k []).flatten++H)) (XS.flatten++H) :=
 HSub.ofPerm ((((flattenTake h).append_right H).trans (by rw [List.append_assoc])).symm)
def openC (Q:List (List (Int × Int))):Nat:=(Q.flatten.filter (fun c=>decide (c.2=0))).length
theorem flat_le:∀ {Q:List (List (Int × Int))},(∀ q∈Q,q.length≤64)→Q.flatten.length≤64*Q.length
 | [],_=>by simp
 | q::Q,h=>by
  have ih:=flat_le (Q:=Q) (fun x hx=>h x (List.mem_cons_of_mem _ hx))
  have h1:=h q List.mem_cons_self
  rw [List.flatten_cons,List.length_append,List.length_cons]
  omega
theorem lOf_L {w0:World} {H:Heap} {HB:Heap} {lb n k:Nat} {Q:List (List (Int × Int))} {last:Int} {q:List (Int × Int)} (hL:ListsH lb n Q last HB) (hn:n≤64) (hk:k<n) (hq:Q[k]?=some q) :LCalls Tryz.prog w0 310 #[.pointer (some ⟨lb,0,none⟩),.int .i64 (k:Int)] (HB++H) (fun v H'=>∃ XB,OwnS 391 2 v q.length (q.flatMap rdC) XB∧H'=XB++(HB++H)):=by
 cases hL with
 | @mk v XQ XS rbs hv hl =>
 have hvl:=hv.length
 rw [List.length_map,Nat.mul_one] at hvl
 obtain ⟨ad,cap,rfl,hcl,hcm⟩:=hv.shape
 have hXr:∀ {H:Heap},(∀ p∈XQ,p∈H)→Holds w0 H ad (rbs.map cbP):=fun hs=>OwnS.toHolds hv hs
 obtain ⟨q1,p1,rfl⟩:∃ q1 p1,ad=some ⟨q1,p1,none⟩:=by
  obtain ⟨rb,hrb⟩:∃ rb,rbs[0]?=some rb:=⟨_,List.getElem?_eq_getElem zO⟩
  obtain ⟨q1,p1,e,_⟩:=(hXr (H:=XQ) (fun _ h=>h)).at (i:=0) (v:=cbP rb) (by rw [List.getElem?_map,hrb]; rfl)
  exact ⟨q1,p1,e⟩
 have hXc:∀ {H:Heap} {k rb:Nat},(∀ p∈XQ,p∈H)→rbs[k]?=some rb→Cell w0 H q1 (p1+k) (cbP rb):=fun {H k rb} hs hk=>by
  obtain ⟨q2,p2,e,hc⟩:=(hXr hs).at (i:=k) (v:=cbP rb) (by rw [List.getElem?_map,hk]; rfl)
  cases e; exact hc
 have hkr:k<rbs.length:=by rw [hl.l1]; exact hk
 obtain ⟨rb,hrb⟩:∃ rb,rbs[k]?=some rb:=⟨_,List.getElem?_eq_getElem hkr⟩
 obtain ⟨X,hX0⟩:∃ X,XS[k]?=some X:=⟨_,List.getElem?_eq_getElem (by rw [hl.l2]; exact hk)⟩
 have hX:=hl.r k rb X q hrb hX0 hq
 have e0:((lb,.cells 387 2 [.slice (some ⟨q1,p1,none⟩) n cap,.int .i64 last])::(XQ++XS.flatten))++H=(lb,.cells 387 2 [.slice (some ⟨q1,p1,none⟩) n cap,.int .i64 last])::(XQ++(XS.flatten++H)):=by simp only [List.cons_append,List.append_assoc]
 rw [e0]
 refine L_enter (l:=[.pointer (some ⟨lb,0,none⟩),.int .i64 (k:Int)]) Tryz.func310 rfl Tryz.ntmps310 rfl rfl ?_
 refine W_sr (W_assign rfl rfl (W_nil (W_seq (W_sr (W_move rfl rfl ?_)))))
 refine W_x (X_ptrNil rfl rfl ty221) (fun _ h=>by cases h) rfl ?_
 refine W_move rfl rfl (W_gyes rfl rfl (W_move rfl rfl (W_gyes rfl rfl (W_bin rfl rfl b_lss rfl ?_))))
 first | rw [decide_eq_true (by omega)] | rw [decide_eq_false (by omega)]
 first | refine W_pickt rfl rfl rfl ?_ | refine W_pickf rfl rfl rfl ?_
 refine W_move rfl rfl (W_gyes rfl rfl (W_move rfl rfl (W_gyes rfl rfl (W_move rfl rfl (W_gyes rfl rfl (W_nilCheck rfl rfl (W_gyes rfl rfl ?_)))))))
 refine W_fieldAddr rfl fld387_0 zd rfl ?_
 refine W_gyes rfl rfl (W_load (v:=.slice (some ⟨q1,p1,none⟩) n cap) rfl ty385 rfl (Cell.own (b:=lb) zM rfl) rfl ?_)
 refine W_gyes rfl rfl (W_len rfl ty385 rfl rfl ?_)
 refine W_gyes rfl rfl (W_bin rfl rfl b_geq rfl ?_)
 first | rw [decide_eq_true (by omega)] | rw [decide_eq_false (by omega)]
 first | refine W_pickt rfl rfl rfl ?_ | refine W_pickf rfl rfl rfl ?_
 refine W_nil (W_condF rfl rfl (W_skip (W_sr (W_move rfl rfl (W_nilCheck rfl rfl (W_fieldAddr rfl fld387_0 zd rfl ?_))))))
 refine W_load (v:=.slice (some ⟨q1,p1,none⟩) n cap) rfl ty385 rfl (Cell.own (b:=lb) zM rfl) rfl ?_
 refine W_move rfl rfl ?_
 refine W_indexAddr (j:=k) rfl rfl ty385 ty388 (by first | rfl | omega) (by first | decide | omega | simp) rfl rfl ?_
 refine W_load (v:=cbP rb) rfl ty388 rfl (by rw [Nat.mul_one]; exact hXc (k:=k) (fun p hp=>List.mem_cons_of_mem _ (List.mem_append_left _ hp)) hrb) rfl ?_
 refine W_hsub (H':=X++((lb,.cells 387 2 [.slice (some ⟨q1,p1,none⟩) n cap,.int .i64 last])::(XQ++((XS.set k []).flatten++H)))) ((show HSub _ ((lb,.cells 387 2 [.slice (some ⟨q1,p1,none⟩) n cap,.int .i64 last])::(XQ++(X++((XS.set k []).flatten++H)))) from .cons (.here _) (.app (.here _) (flattenOut hX0))).trans zH) ?_
 refine W_call (.cons rfl .nil) Tryz.call385 rfl (hX.list (H:=(lb,.cells 387 2 [.slice (some ⟨q1,p1,none⟩) n cap,.int .i64 last])::(XQ++((XS.set k []).flatten++H)))) ?_
 rintro v H' ⟨XB,hO,rfl⟩
 refine W_hsub (H':=XB++((lb,.cells 387 2 [.slice (some ⟨q1,p1,none⟩) n cap,.int .i64 last])::(XQ++(XS.flatten++H)))) ((show HSub _ (XB++((lb,.cells 387 2 [.slice (some ⟨q1,p1,none⟩) n cap,.int .i64 last])::(XQ++(X++((XS.set k []).flatten++H))))) from zH).trans (.app (.here _) (.cons (.here _) (.app (.here _) (flattenBack hX0))))) ?_
 refine W_assign rfl rfl (W_nil (W_ret1m (H2:=XB++((lb,.cells 387 2 [.slice (some ⟨q1,p1,none⟩) n cap,.int .i64 last])::(XQ++(XS.flatten++H)))) Tryz.results310 rfl (.nil _) zH ?_))
 rw [← e0]
 exact ⟨XB,hO,rfl⟩
theorem rowC_one (q:List (Int × Int)):(q.flatMap rdC).all Value.oneCell'=true:=by
 rw [List.all_flatMap,List.all_eq_true]; exact fun t _=>rfl
theorem ListsH.facts {lb n:Nat} {Q:List (List (Int × Int))} {last:Int} {HB:Heap} (h:ListsH lb n Q last HB):Q.length=n∧∀ q∈Q,q.length≤64:=by
 cases h with
 | mk hv hl=>exact ⟨hl.l3,hl.short⟩
theorem ListsH.slice {lb n:Nat} {Q:List (List (Int × Int))} {last:Int} {HB:Heap} (h:ListsH lb n Q last HB):∃ ad cap,(lb,.cells 387 2 [(.slice ad n cap),.int .i64 last])∈HB:=by
 cases h with
 | mk hv hl =>
  obtain ⟨ad,cap,rfl,_,_⟩:=hv.shape
  exact ⟨ad,cap,List.mem_cons_self⟩
theorem lall_L {w0:World} {H:Heap} {HB:Heap} {lb n:Nat} {Q:List (List (Int × Int))} {last:Int} (hL:ListsH lb n Q last HB) (hn:0<n∧n≤64) :LCalls Tryz.prog w0 223 #[.pointer (some ⟨lb,0,none⟩)] (HB++H) (fun v H'=>∃ XB,OwnS 391 2 v (Q.flatten).length ((Q.flatten).flatMap rdC) XB∧H'=HB++(XB++H)):=by
 obtain ⟨hQl,hsh⟩:=hL.facts
 obtain ⟨ad,cap,hsl⟩:=hL.slice
 refine L_enter (l:=[.pointer (some ⟨lb,0,none⟩)]) Tryz.func223 rfl Tryz.ntmps223 rfl rfl ?_
 refine W_sr (W_assign rfl rfl (W_nil (W_sr (W_assign rfl rfl (W_nil (W_seq (W_sr (W_move rfl rfl ?_))))))))
 refine W_x (X_ptrNotNil rfl rfl ty221) (fun _ h=>by cases h) rfl ?_
 refine W_nil (W_condT rfl rfl (W_sr (W_move rfl rfl (W_nilCheck rfl rfl (W_fieldAddr rfl fld387_0 zd rfl ?_)))))
 refine W_load (v:=.slice ad n cap) rfl ty385 rfl (Cell.own (b:=lb) (List.mem_append_left _ hsl) rfl) rfl ?_
 refine W_len rfl ty385 rfl rfl ?_
 refine W_move rfl rfl (W_nil (W_block ?_))
 refine W_loopC (X:=(Nat × Value × Heap)) [(0,_),(11,_)] (fun (z:(Nat × Value × Heap))=>[(12,.int .i64 (z.1:Int)),(3,z.2.1)]) (fun _=>_) (fun (z:(Nat × Value × Heap))=>HB++(z.2.2++H)) (fun (z:(Nat × Value × Heap))=>z.1≤n∧OwnS 391 2 z.2.1 ((Q.take z.1).flatten).length (((Q.take z.1).flatten).flatMap rdC) z.2.2) (fun (z:(Nat × Value × Heap))=>n-z.1) (0,.slice none 0 0,[]) ⟨Nat.zero_le _,.nil⟩ (sub_cons rfl (sub_cons rfl (sub_nil _))) (sub_cons rfl (sub_cons rfl (sub_nil _))) rfl zH ?_
 rintro ⟨k,xv,XB⟩ ⟨hi,hO⟩
 dsimp only at hi hO ⊢
 simp only [List.cons_append,List.nil_append]
 refine W_sr (W_bin rfl rfl b_lss rfl ?_)
 refine W_nil (W_seq ?_)
 refine W_condPS (p:=(k:Int)<(n:Int)) rfl (by simp) (fun q0=>?_) (fun q0=>?_)
 ·skip
  refine W_skip (W_seq (W_block (W_sr ?_)))
  obtain ⟨q,hq⟩:∃ q,Q[k]?=some q:=⟨_,List.getElem?_eq_getElem (by rw [hQl]; omega)⟩
  have hq64:=hsh q (List.mem_of_getElem? hq)
  have hfl:((Q.take k).flatten).length≤4096:=by
   have:=flat_le (Q:=Q.take k) (fun x hx=>hsh x (List.mem_of_mem_take hx))
   rw [List.length_take] at this
   omega
  refine W_move rfl rfl (W_assign rfl rfl (W_nil (W_region (W_move rfl rfl (W_move rfl rfl (W_move rfl rfl (W_call (.cons rfl (.cons rfl .nil)) Tryz.call310 rfl ((lOf_L hL hn.2 zO hq (H:=XB++H)).hsub zH) ?_)))))))
  rintro v H' ⟨YB,hY,rfl⟩
  obtain ⟨ad2,cap2,rfl,hh2⟩:∃ ad2 cap2,v=.slice ad2 q.length cap2∧Holds w0 (YB++(HB++(XB++H))) ad2 (q.flatMap rdC):=by
   obtain ⟨ad2,cap2,e,h3,h4,h5⟩:=Holds.of_own (w0:=w0) (H:=YB++(HB++(XB++H))) hY (fun p hp=>List.mem_append_left _ hp)
   exact ⟨ad2,cap2,e,h5⟩
  refine W_append (news:=q.flatMap rdC) (m:=q.length) (HB:=XB) (H0:=YB++(HB++H)) rfl rfl ty349 ty391 rfl (by decide) hO (rows_len rdC_len q) hh2 (rowC_one q) (by simp only [maxLen]; omega) (by omega) zH rfl (fun v' XB' hO'=>?_)
  refine W_assign rfl rfl (W_nil (W_blk (W_region (W_bin rfl rfl (b_add (m:=((k+1:Nat):Int)) ((i64w zO).trans zO)) rfl ?_))))
  refine W_move rfl rfl (W_nil ?_)
  refine W_again (k+1,v',XB') ⟨by show k+1≤n; omega,by show OwnS 391 2 v' ((Q.take (k+1)).flatten).length (((Q.take (k+1)).flatten).flatMap rdC) XB'; rw [List.take_add_one,hq,Option.toList_some,List.flatten_append,List.flatten_singleton,List.flatMap_append,List.length_append]; exact hO'⟩ (by show n-(k+1)<n-k; omega) (sub_cons rfl (sub_cons rfl (sub_cons rfl (sub_cons rfl (sub_nil _))))) rfl zH
 ·skip
  refine W_exit rfl ?_
  refine W_sr (W_move rfl rfl (W_assign rfl rfl (W_nil (W_ret1m (H2:=HB++(XB++H)) Tryz.results223 rfl (.nil _) zH ?_))))
  have ekn:k=n:=by omega
  rw [ekn,List.take_of_length_le (by rw [hQl]; exact Nat.le_refl _)] at hO
  exact ⟨XB,hO,rfl⟩
theorem lOpen_L {w0:World} {H:Heap} {HB:Heap} {lb n:Nat} {Q:List (List (Int × Int))} {last:Int} (hL:ListsH lb n Q last HB) (hn:0<n∧n≤64) :LCalls Tryz.prog w0 248 #[.pointer (some ⟨lb,0,none⟩)] (HB++H) (fun v H'=>v=.int .i64 ((openC Q:Nat):Int)∧H'=HB++H):=by
 obtain ⟨hQl,hsh⟩:=hL.facts
 have hfl:=flat_le hsh
 refine L_enter (l:=[.pointer (some ⟨lb,0,none⟩)]) Tryz.func248 rfl Tryz.ntmps248 rfl rfl ?_
 refine W_sr (W_assign rfl rfl (W_nil (W_sr (W_assign rfl rfl (W_nil (W_seq (W_sr (W_move rfl rfl (W_call (.cons rfl .nil) Tryz.call223 rfl (lall_L hL hn (H:=H)) ?_)))))))))
 rintro v H' ⟨XB,hO,rfl⟩
 obtain ⟨ad,cap,rfl,hcl,hcm,hrow⟩:=Holds.of_own (w0:=w0) (H:=HB++(XB++H)) hO (fun p hp=>List.mem_append_right _ (List.mem_append_left _ hp))
 refine W_len rfl ty349 rfl rfl ?_
 refine W_move rfl rfl (W_nil (W_block ?_))
 refine W_loopC (X:=(Nat × Int)) [(7,_),(8,_)] (fun (z:(Nat × Int))=>[(9,.int .i64 (z.1:Int)),(3,.int .i64 z.2)]) (fun _=>_) (fun (z:(Nat × Int))=>HB++(XB++H)) (fun (z:(Nat × Int))=>z.1≤Q.flatten.length∧z.2=((((Q.flatten.take z.1).filter (fun c=>decide (c.2=0))).length:Nat):Int)) (fun (z:(Nat × Int))=>Q.flatten.length-z.1) (0,0) ⟨Nat.zero_le _,rfl⟩ (sub_cons rfl (sub_cons rfl (sub_nil _))) (sub_cons rfl (sub_cons rfl (sub_nil _))) rfl (.refl _) ?_
 rintro ⟨i,cnt⟩ ⟨hi,hc⟩
 dsimp only at hi hc ⊢
 simp only [List.cons_append,List.nil_append]
 refine W_sr (W_bin rfl rfl b_lss rfl ?_)
 refine W_nil (W_seq ?_)
 refine W_condPS (p:=(i:Int)<(Q.flatten.length:Int)) rfl (by simp) (fun q0=>?_) (fun q0=>?_)
 ·skip
  refine W_skip (W_seq (W_block (W_sr ?_)))
  obtain ⟨x,hx⟩:∃ x,Q.flatten[i]?=some x:=⟨_,List.getElem?_eq_getElem zO⟩
  obtain ⟨qx,px,rfl,hcx⟩:=Holds.row rdC_len zd hrow hx
  have hcb:cnt≤4096:=by
   have h1:=List.length_filter_le (fun c:Int × Int=>decide (c.2=0)) (Q.flatten.take i)
   rw [List.length_take] at h1
   omega
  refine W_indexAddr (j:=i) rfl rfl ty349 ty391 rfl zO rfl rfl ?_
  refine W_loadA (vs:=rdC x) rfl ty391 rfl rfl (hcx.up zH) rfl ?_
  refine W_alloc (l:=rdC (0,0)) ty391 rfl rfl (fun b5=>?_)
  refine W_storeA (l':=rdC x) rfl rfl ty391 rfl rfl (b:=b5) zM (by exact Nat.le_refl 2) rfl zU ?_
  refine W_nil (W_sr (W_fieldAddr rfl fld391_1 zd rfl ?_))
  refine W_load (v:=.int .i64 x.2) rfl ty3 rfl (Cell.own (b:=b5) zM rfl) rfl ?_
  refine W_bin rfl rfl b_eql rfl ?_
  refine W_nil ?_
  refine W_condPS (p:=x.2=0) rfl (by simp) (fun q1=>?_) (fun q1=>?_)
  ·skip
   refine W_region (W_move rfl rfl (W_bin rfl rfl (b_add (m:=cnt+1) (i64w zO)) rfl ?_))
   refine W_assign rfl rfl (W_nil (W_blk (W_region (W_bin rfl rfl (b_add (m:=((i+1:Nat):Int)) ((i64w zO).trans zO)) rfl ?_))))
   refine W_move rfl rfl (W_nil ?_)
   refine W_again (i+1,cnt+1) ⟨by show i+1≤Q.flatten.length; omega,by show cnt+1=_; rw [List.take_add_one,hx,Option.toList_some,List.filter_append,List.length_append,List.filter_cons_of_pos (p:=fun c:Int × Int=>decide (c.2=0)) (by exact decide_eq_true q1),List.filter_nil,hc]; simp⟩ (by show Q.flatten.length-(i+1)<Q.flatten.length-i; omega) (sub_cons rfl (sub_cons rfl (sub_cons rfl (sub_cons rfl (sub_nil _))))) rfl zH
  ·skip
   refine W_skip (W_blk (W_region (W_bin rfl rfl (b_add (m:=((i+1:Nat):Int)) ((i64w zO).trans zO)) rfl ?_)))
   refine W_move rfl rfl (W_nil ?_)
   refine W_again (i+1,cnt) ⟨by show i+1≤Q.flatten.length; omega,by show cnt=_; rw [List.take_add_one,hx,Option.toList_some,List.filter_append,List.length_append,List.filter_cons_of_neg (p:=fun c:Int × Int=>decide (c.2=0)) (by rw [decide_eq_true_eq]; exact q1),List.filter_nil,hc]; simp⟩ (by show Q.flatten.length-(i+1)<Q.flatten.length-i; omega) (sub_cons rfl (sub_cons rfl (sub_cons rfl (sub_cons rfl (sub_nil _))))) rfl zH
 ·skip
  refine W_exit rfl ?_
  refine W_sr (W_move rfl rfl (W_assign rfl rfl (W_nil (W_ret1m (H2:=HB++H) Tryz.results248 rfl (.nil _) zH ?_))))
  have e:i=Q.flatten.length:=by omega
  subst hc
  rw [e,List.take_length]
  exact ⟨rfl,rfl⟩
structure Gr where
 S:Sct
 Q:List (List (Int × Int))
 last:Int
 sc:Option (Nat × Int × Int)
 began:Int
 done:Int
 want:Int
inductive ScH (sb:Nat):Option (Nat × Int × Int)→Value→Heap→Prop
 | none:ScH sb none (.pointer none) []
 | some {xb left:Nat} {bst place:Int}:ScH sb (some (left,bst,place)) (.pointer (some ⟨xb,0,none⟩)) [(xb,.cells 485 4 [.pointer (some ⟨sb,0,none⟩),.int .u64 ((left:Nat):Int),.int .i64 bst,.int .i64 place])]
inductive GrH (gb n:Nat) (G:Gr):Heap→Prop
 | mk {sb lb:Nat} {sv:Value} {HX HL:Heap} (hS:ScH sb G.sc sv HX) (hL:ListsH lb n G.Q G.last HL):GrH gb n G ((gb,.cells 224 6 [.pointer (some ⟨sb,0,none⟩),.pointer (some ⟨lb,0,none⟩),sv,.int .i64 G.began,.int .i64 G.done,.int .i64 G.want])::(sb,.cells 250 130 (scC G.S))::(HX++HL))
structure GrOk (n:Nat) (G:Gr):Prop where
 sok:SctOk G.S
 n:0<n∧n≤64
 left:∀ l b p,G.sc=some (l,b,p)→l<18446744073709551616
 last:G.last≤G.began
 beg:0≤G.began∧G.began≤1000000000
 st:G.S.st≤1000000000
def gr0 (n:Nat):Gr:=⟨⟨List.replicate 64 (0,0),0,0⟩,List.replicate n [],0,none,0,0,0⟩
def scnG (G:Gr) (x:Nat × Int × Int):Nat × Int:=pollF G.S x.2.1 (min 16 (popN 64 x.1)) x.1 x.2.2
def lookG (G:Gr):Gr × List Int:=match G.sc with
 | none=>(G,[])
 | some x=>if 0<popN 64 (scnG G x).1 then ({ G with sc:=some ((scnG G x).1,x.2.1,(scnG G x).2) },[]) else ({ G with sc:=none,done:=G.began,Q:=G.Q.map (restC G.began) },tldC G.began G.Q)
def beginG (G:Gr):Gr:=if G.sc.isSome=true∨(openC G.Q=0∧G.want≤G.began) then G else { G with began:=G.began+1,Q:=G.Q.map (fun q=>q.map (clsC (G.began+1))),last:=G.began+1,sc:=some (G.S.m,G.S.st,0) }
theorem pollF_lt {S:Sct} {bst:Int}:∀ (k l:Nat) (p:Int),l<18446744073709551616→(pollF S bst k l p).1<18446744073709551616
 | 0,l,p,h=>h
 | k+1,l,p,h=>by
  unfold pollF
  cases aroundN l p with
  | none=>exact h
  | some r=>exact pollF_lt k _ _ (lookN_lt h)
set_option maxRecDepth 100000
theorem gNew_L {w0:World} {H:Heap} {n:Nat} (hn:1≤n∧n≤64) :LCalls Tryz.prog w0 107 #[.int .i64 (n:Int)] (H) (fun v H'=>∃ gb HG,v=.tuple #[.pointer (some ⟨gb,0,none⟩),.int .i64 0]∧GrH gb n (gr0 n) HG∧H'=HG++H):=by
 refine L_enter (l:=[.int .i64 (n:Int)]) Tryz.func107 rfl Tryz.ntmps107 rfl rfl ?_
 refine W_sr (W_assign rfl rfl (W_assign rfl rfl (W_nil (W_sr (W_move rfl rfl (W_call (.cons rfl .nil) Tryz.call197 rfl (lNew_L hn) ?_))))))
 rintro v H' ⟨lb,HL,rfl,hL,rfl⟩
 refine W_move rfl rfl (W_extract rfl rfl rfl (W_extract rfl rfl rfl (W_assign rfl rfl (W_assign rfl rfl (W_nil (W_seq (W_sr (W_move rfl rfl (W_bin rfl rfl b_neq rfl ?_)))))))))
 refine W_nil (W_condF rfl rfl (W_skip (W_sr (W_build (l:=(scC ⟨List.replicate 64 (0,0),0,0⟩)) ty250 pl250 .nil rfl zk rfl ?_))))
 refine W_box (l:=(scC ⟨List.replicate 64 (0,0),0,0⟩)) rfl rfl rfl (fun sb=>?_)
 refine W_move rfl rfl (W_build (l:=[.pointer (some ⟨sb,0,none⟩),.pointer (some ⟨lb,0,none⟩),.pointer none,.int .i64 0,.int .i64 0,.int .i64 0]) ty224 pl224 (.cons rfl rfl rfl rfl rfl (.cons rfl rfl rfl rfl rfl .nil)) rfl rfl rfl ?_)
 refine W_box (l:=[.pointer (some ⟨sb,0,none⟩),.pointer (some ⟨lb,0,none⟩),.pointer none,.int .i64 0,.int .i64 0,.int .i64 0]) rfl rfl rfl (fun gb=>?_)
 refine W_assign rfl rfl (W_assign rfl rfl (W_nil (W_ret2m Tryz.results107 rfl rfl (.nil _) (.refl _) ?_)))
 exact ⟨gb,_,rfl,.mk (G:=gr0 n) (.none) hL,rfl⟩
theorem gCall_at {w0:World} {H:Heap} {HG:Heap} {gb n:Nat} {G:Gr} (hG:GrH gb n G HG) (hok:GrOk n G) {k:Nat} {id:Int} {q:List (Int × Int)} {ad:Option Addr} {cap:Nat} (hk:k<n) (hq:G.Q[k]?=some q) (hrow:∀ HZ:Heap,Holds w0 (HZ++H) ad [.int .i64 id]) :LCalls Tryz.prog w0 70 #[.pointer (some ⟨gb,0,none⟩),.int .i64 (k:Int),.slice ad 1 cap] (HG++H) (fun v H'=>∃ HG',GrH gb n { G with Q:=G.Q.set k (addC q id) } HG'∧v=.int .i64 (if q.length<64 then 0 else 3)∧H'=HG'++H):=by
 cases hG with
 | @mk sb lb sv HX HL hS hL =>
 have e0:((gb,.cells 224 6 [.pointer (some ⟨sb,0,none⟩),.pointer (some ⟨lb,0,none⟩),sv,.int .i64 G.began,.int .i64 G.done,.int .i64 G.want])::(sb,.cells 250 130 (scC G.S))::(HX++HL))++H=(gb,.cells 224 6 [.pointer (some ⟨sb,0,none⟩),.pointer (some ⟨lb,0,none⟩),sv,.int .i64 G.began,.int .i64 G.done,.int .i64 G.want])::(sb,.cells 250 130 (scC G.S))::(HX++(HL++H)):=by simp only [List.cons_append,List.append_assoc]
 rw [e0]
 refine L_enter (l:=[.pointer (some ⟨gb,0,none⟩),.int .i64 (k:Int),.slice ad 1 cap]) Tryz.func70 rfl Tryz.ntmps70 rfl rfl ?_
 refine W_sr (W_assign rfl rfl (W_nil (W_seq (W_sr (W_move rfl rfl ?_)))))
 refine W_x (X_ptrNil rfl rfl ty33) (fun _ h=>by cases h) rfl ?_
 refine W_nil (W_condF rfl rfl (W_skip (W_sr (W_move rfl rfl (W_nilCheck rfl rfl (W_fieldAddr rfl fld224_1 zd rfl ?_))))))
 refine W_load (v:=.pointer (some ⟨lb,0,none⟩)) rfl ty221 rfl (Cell.own (b:=gb) zM rfl) rfl ?_
 refine W_move rfl rfl (W_move rfl rfl ?_)
 refine W_call (.cons rfl (.cons rfl (.cons rfl .nil))) Tryz.call156 rfl ((lAdd_L hL hok.n.2 hk hq (by have:=hrow ((gb,.cells 224 6 [.pointer (some ⟨sb,0,none⟩),.pointer (some ⟨lb,0,none⟩),sv,.int .i64 G.began,.int .i64 G.done,.int .i64 G.want])::(sb,.cells 250 130 (scC G.S))::HX); simpa only [List.cons_append,List.append_assoc] using this) (H:=(gb,.cells 224 6 [.pointer (some ⟨sb,0,none⟩),.pointer (some ⟨lb,0,none⟩),sv,.int .i64 G.began,.int .i64 G.done,.int .i64 G.want])::(sb,.cells 250 130 (scC G.S))::(HX++H))).hsub zH) ?_
 rintro v H' ⟨HL',hL',rfl,rfl⟩
 refine W_assign rfl rfl (W_nil (W_ret1m (H2:=(gb,.cells 224 6 [.pointer (some ⟨sb,0,none⟩),.pointer (some ⟨lb,0,none⟩),sv,.int .i64 G.began,.int .i64 G.done,.int .i64 G.want])::(sb,.cells 250 130 (scC G.S))::(HX++(HL'++H))) Tryz.results70 rfl (.nil _) zH ?_))
 exact ⟨(gb,.cells 224 6 [.pointer (some ⟨sb,0,none⟩),.pointer (some ⟨lb,0,none⟩),sv,.int .i64 G.began,.int .i64 G.done,.int .i64 G.want])::(sb,.cells 250 130 (scC G.S))::(HX++HL'),.mk (G:={ G with Q:=G.Q.set k (addC q id) }) hS hL',rfl,by simp only [List.cons_append,List.append_assoc]⟩
theorem glook_none {w0:World} {H:Heap} {gb sb lb:Nat} {G:Gr} (hm:(gb,.cells 224 6 [.pointer (some ⟨sb,0,none⟩),.pointer (some ⟨lb,0,none⟩),.pointer none,.int .i64 G.began,.int .i64 G.done,.int .i64 G.want])∈H) :PureAt Tryz.prog w0 H 154 [.pointer (some ⟨gb,0,none⟩)] (.slice none 0 0):=by
 refine L_enter Tryz.func154 rfl Tryz.ntmps154 rfl rfl ?_
 refine W_sr (W_assign rfl rfl (W_nil (W_seq (W_sr (W_move rfl rfl (W_nilCheck rfl rfl (W_fieldAddr rfl fld224_2 zd rfl ?_)))))))
 refine W_load (v:=.pointer none) rfl ty222 rfl (Cell.own (b:=gb) (by repeat (first | exact hm | apply List.mem_cons_of_mem)) rfl) rfl ?_
 refine W_x (X_ptrNil rfl rfl ty222) (fun _ h=>by cases h) rfl ?_
 refine W_move rfl rfl (W_gno rfl rfl rfl ?_)
 refine W_gno rfl rfl rfl ?_
 refine W_gno rfl rfl rfl ?_
 refine W_gno rfl rfl rfl ?_
 refine W_gno rfl rfl rfl ?_
 refine W_gno rfl rfl rfl ?_
 first | refine W_pickt rfl rfl rfl ?_ | refine W_pickf rfl rfl rfl ?_
 refine W_nil (W_condT rfl rfl (W_sr (W_assign rfl rfl (W_nil (W_ret1m (H2:=H) Tryz.results154 rfl (.nil _) zH ?_)))))
 exact ⟨rfl,rfl⟩
theorem glook_some {w0:World} {H:Heap} {gb sb lb xb n:Nat} {left:Nat} {bst place:Int} {HL:Heap} {G:Gr} (hok:GrOk n G) (hsc:G.sc=some (left,bst,place)) (hL:ListsH lb n G.Q G.last HL) (hT:Tab w0):LCalls Tryz.prog w0 154 #[.pointer (some ⟨gb,0,none⟩)] ((gb,.cells 224 6 [.pointer (some ⟨sb,0,none⟩),.pointer (some ⟨lb,0,none⟩),.pointer (some ⟨xb,0,none⟩),.int .i64 G.began,.int .i64 G.done,.int .i64 G.want])::(sb,.cells 250 130 (scC G.S))::(xb,.cells 485 4 [.pointer (some ⟨sb,0,none⟩),.int .u64 ((left:Nat):Int),.int .i64 bst,.int .i64 place])::(HL++H)) (fun v H'=>(0<popN 64 (scnG G (left,bst,place)).1∧v=.slice none 0 0∧H'=(gb,.cells 224 6 [.pointer (some ⟨sb,0,none⟩),.pointer (some ⟨lb,0,none⟩),.pointer (some ⟨xb,0,none⟩),.int .i64 G.began,.int .i64 G.done,.int .i64 G.want])::(sb,.cells 250 130 (scC G.S))::(xb,.cells 485 4 [.pointer (some ⟨sb,0,none⟩),.int .u64 (((scnG G (left,bst,place)).1:Nat):Int),.int .i64 bst,.int .i64 (scnG G (left,bst,place)).2])::(HL++H))∨(¬ 0<popN 64 (scnG G (left,bst,place)).1∧∃ HL' XO,ListsH lb n (G.Q.map (restC G.began)) G.last HL'∧OwnS 3 1 v (tldC G.began G.Q).length ((tldC G.began G.Q).map (Value.int .i64)) XO∧H'=XO++((gb,.cells 224 6 [.pointer (some ⟨sb,0,none⟩),.pointer (some ⟨lb,0,none⟩),.pointer none,.int .i64 G.began,.int .i64 G.began,.int .i64 G.want])::(sb,.cells 250 130 (scC G.S))::(HL'++H)))):=by
 refine L_enter (l:=[.pointer (some ⟨gb,0,none⟩)]) Tryz.func154 rfl Tryz.ntmps154 rfl rfl ?_
 refine W_sr (W_assign rfl rfl (W_nil (W_seq (W_sr (W_move rfl rfl (W_nilCheck rfl rfl (W_fieldAddr rfl fld224_2 zd rfl ?_)))))))
 refine W_load (v:=.pointer (some ⟨xb,0,none⟩)) rfl ty222 rfl (Cell.own (b:=gb) zM rfl) rfl ?_
 refine W_x (X_ptrNil rfl rfl ty222) (fun _ h=>by cases h) rfl ?_
 refine W_move rfl rfl (W_gyes rfl rfl (W_move rfl rfl (W_gyes rfl rfl (W_nilCheck rfl rfl (W_gyes rfl rfl (W_fieldAddr rfl fld224_2 zd rfl ?_))))))
 refine W_gyes rfl rfl (W_load (v:=.pointer (some ⟨xb,0,none⟩)) rfl ty222 rfl (Cell.own (b:=gb) zM rfl) rfl ?_)
 refine W_gyes rfl rfl ?_
 refine W_hsub (H':=(xb,.cells 485 4 [.pointer (some ⟨sb,0,none⟩),.int .u64 ((left:Nat):Int),.int .i64 bst,.int .i64 place])::(gb,.cells 224 6 [.pointer (some ⟨sb,0,none⟩),.pointer (some ⟨lb,0,none⟩),.pointer (some ⟨xb,0,none⟩),.int .i64 G.began,.int .i64 G.done,.int .i64 G.want])::(sb,.cells 250 130 (scC G.S))::(HL++H)) zH ?_
 refine W_call (.cons rfl (.cons rfl .nil)) Tryz.call246 rfl (scanPoll_L (n:=16) hok.sok (hok.left _ _ _ hsc) (H:=(gb,.cells 224 6 [.pointer (some ⟨sb,0,none⟩),.pointer (some ⟨lb,0,none⟩),.pointer (some ⟨xb,0,none⟩),.int .i64 G.began,.int .i64 G.done,.int .i64 G.want])::(sb,.cells 250 130 (scC G.S))::(HL++H)) zM hT) ?_
 rintro v H' ⟨rfl,rfl⟩
 rw [show pollF G.S bst (min 16 (popN 64 left)) left place=scnG G (left,bst,place) from rfl]
 refine W_gyes rfl rfl (W_bin rfl rfl b_gtr rfl ?_)
 first | refine W_pickt rfl rfl rfl ?_ | refine W_pickf rfl rfl rfl ?_
 refine W_nil ?_
 refine W_condPS (p:=0<popN 64 (scnG G (left,bst,place)).1) rfl (by rw [decide_eq_true_eq]; omega) (fun q0=>?_) (fun q0=>?_)
 ·skip
  refine W_sr (W_assign rfl rfl (W_nil (W_ret1m (H2:=(gb,.cells 224 6 [.pointer (some ⟨sb,0,none⟩),.pointer (some ⟨lb,0,none⟩),.pointer (some ⟨xb,0,none⟩),.int .i64 G.began,.int .i64 G.done,.int .i64 G.want])::(sb,.cells 250 130 (scC G.S))::(xb,.cells 485 4 [.pointer (some ⟨sb,0,none⟩),.int .u64 (((scnG G (left,bst,place)).1:Nat):Int),.int .i64 bst,.int .i64 (scnG G (left,bst,place)).2])::(HL++H)) Tryz.results154 rfl (.nil _) zH ?_)))
  exact .inl ⟨q0,rfl,rfl⟩
 ·skip
  refine W_skip (W_sr (W_move rfl rfl (W_move rfl rfl (W_move rfl rfl (W_nilCheck rfl rfl (W_fieldAddr rfl fld224_3 zd rfl ?_))))))
  refine W_load (v:=.int .i64 G.began) rfl ty3 rfl (Cell.own (b:=gb) zM rfl) rfl ?_
  refine W_nilCheck rfl rfl (W_fieldAddr rfl fld224_2 zd rfl ?_)
  refine W_store (l':=[.pointer (some ⟨sb,0,none⟩),.pointer (some ⟨lb,0,none⟩),.pointer none,.int .i64 G.began,.int .i64 G.done,.int .i64 G.want]) rfl rfl ty222 rfl rfl (b:=gb) zM rfl rfl zU ?_
  refine W_nilCheck rfl rfl (W_fieldAddr rfl fld224_4 zd rfl ?_)
  refine W_store (l':=[.pointer (some ⟨sb,0,none⟩),.pointer (some ⟨lb,0,none⟩),.pointer none,.int .i64 G.began,.int .i64 G.began,.int .i64 G.want]) rfl rfl ty3 rfl rfl (b:=gb) zM rfl rfl zU ?_
  refine W_nil (W_seq ?_)
  refine W_anyC [(gb,.cells 224 6 [.pointer (some ⟨sb,0,none⟩),.pointer (some ⟨lb,0,none⟩),.pointer none,.int .i64 G.began,.int .i64 G.began,.int .i64 G.want])] zk ?_
  refine WC_take 0 rfl zK zK zK rfl rfl (X_move rfl) rfl ?_
  refine WC_take 1 rfl zK zK zK rfl rfl (X_nilCheck rfl) rfl ?_
  refine WC_take 2 rfl zK zK zK rfl rfl (X_fieldAddr rfl fld224_1 zd) rfl ?_
  refine WC_take 3 rfl zK zK zK rfl rfl (X_load (v:=.pointer (some ⟨lb,0,none⟩)) rfl ty221 rfl (Cell.own (b:=gb) zM rfl)) rfl ?_
  refine WC_take 4 rfl zK zK zK rfl rfl (X_move rfl) rfl ?_
  refine WC_take 5 rfl zK zK zK rfl rfl (X_nilCheck rfl) rfl ?_
  refine WC_take 6 rfl zK zK zK rfl rfl (X_fieldAddr rfl fld224_4 zd) rfl ?_
  refine WC_take 7 rfl zK zK zK rfl rfl (X_load (v:=.int .i64 G.began) rfl ty3 rfl (Cell.own (b:=gb) zM rfl)) rfl ?_
  refine WC_one 8 zH zK rfl rfl ?_
  refine W_call (.cons rfl (.cons rfl .nil)) Tryz.call247 rfl ((lDone_L hL hok.n (gen:=G.began) (H:=(gb,.cells 224 6 [.pointer (some ⟨sb,0,none⟩),.pointer (some ⟨lb,0,none⟩),.pointer none,.int .i64 G.began,.int .i64 G.began,.int .i64 G.want])::(xb,.cells 485 4 [.pointer (some ⟨sb,0,none⟩),.int .u64 (((scnG G (left,bst,place)).1:Nat):Int),.int .i64 bst,.int .i64 (scnG G (left,bst,place)).2])::(sb,.cells 250 130 (scC G.S))::H)).hsub zH) ?_
  rintro v H' ⟨HL',XO,hL',hO,rfl⟩
  refine W_nil ?_
  refine WC_goal ?_
  refine WC_take 9 rfl zK zK zK rfl rfl (X_assign rfl) rfl ?_
  refine WC_done zH zK ?_
  refine W_ret1m (H2:=XO++((gb,.cells 224 6 [.pointer (some ⟨sb,0,none⟩),.pointer (some ⟨lb,0,none⟩),.pointer none,.int .i64 G.began,.int .i64 G.began,.int .i64 G.want])::(sb,.cells 250 130 (scC G.S))::(HL'++H))) Tryz.results154 rfl (.nil _) zH ?_
  exact .inr ⟨q0,HL',XO,hL',hO,rfl⟩
theorem GrH.look {w0:World} {H:Heap} {HG:Heap} {gb n:Nat} {G:Gr} (hG:GrH gb n G HG) (hok:GrOk n G) (hT:Tab w0):LCalls Tryz.prog w0 154 #[.pointer (some ⟨gb,0,none⟩)] (HG++H) (fun v H'=>∃ HG' XO,GrH gb n (lookG G).1 HG'∧OwnS 3 1 v (lookG G).2.length ((lookG G).2.map (Value.int .i64)) XO∧H'=XO++(HG'++H)):=by
 cases hG with
 | @mk sb lb sv HX HL hS hL =>
  have e1:∀ (a b:Nat × Blk) (X Y:Heap),(a::b::(X++Y))++H=a::b::(X++(Y++H)):=fun a b X Y=>by simp only [List.cons_append,List.append_assoc]
  obtain ⟨S,Q,last,sc,began,done,want⟩:=G
  dsimp only at hS hL
  cases hS with
  | none =>
   refine (glook_none (G:=⟨S,Q,last,none,began,done,want⟩) (gb:=gb) (sb:=sb) (lb:=lb) List.mem_cons_self).mono ?_
   rintro v H' ⟨rfl,rfl⟩
   exact ⟨_,[],.mk (G:=⟨S,Q,last,none,began,done,want⟩) .none hL,.nil,rfl⟩
  | @some xb left bst place =>
   rw [e1]
   refine (glook_some (xb:=xb) (gb:=gb) (sb:=sb) (H:=H) hok rfl hL hT).mono ?_
   rintro v H' (⟨hp,rfl,rfl⟩ | ⟨hp,HL',XO,hL',hO,rfl⟩)
   ·have e:lookG ⟨S,Q,last,Option.some (left,bst,place),began,done,want⟩=(⟨S,Q,last,Option.some ((scnG ⟨S,Q,last,Option.some (left,bst,place),began,done,want⟩ (left,bst,place)).1,bst,(scnG ⟨S,Q,last,Option.some (left,bst,place),began,done,want⟩ (left,bst,place)).2),began,done,want⟩,[]):=if_pos hp
    rw [e]
    exact ⟨_,[],.mk .some hL,.nil,by rw [e1]; rfl⟩
   ·have e:lookG ⟨S,Q,last,Option.some (left,bst,place),began,done,want⟩=(⟨S,Q.map (restC began),last,none,began,began,want⟩,tldC began Q):=if_neg hp
    rw [e]
    exact ⟨_,XO,.mk .none hL',hO,by rw [e1]; rfl⟩
theorem gbegin_runs {w0:World} {H:Heap} {gb sb lb xb:Nat} {G:Gr} (hm:(gb,.cells 224 6 [.pointer (some ⟨sb,0,none⟩),.pointer (some ⟨lb,0,none⟩),.pointer (some ⟨xb,0,none⟩),.int .i64 G.began,.int .i64 G.done,.int .i64 G.want])∈H) :PureAt Tryz.prog w0 H 155 [.pointer (some ⟨gb,0,none⟩)] (.slice none 0 0):=by
 refine L_enter Tryz.func155 rfl Tryz.ntmps155 rfl rfl ?_
 refine W_sr (W_assign rfl rfl (W_nil (W_seq (W_quietsr zk zK ?_))))
 refine WQ_x (X_move rfl) rfl (WQ_x (X_nilCheck rfl) rfl ?_)
 refine WQ_x (X_fieldAddr rfl fld224_2 zd) rfl ?_
 refine WQ_x (X_load (v:=.pointer (some ⟨xb,0,none⟩)) rfl ty222 rfl (Cell.own (b:=gb) hm rfl)) rfl ?_
 refine WQ_x (X_ptrNotNil rfl rfl ty222) rfl ?_
 refine WQ_x (X_move rfl) rfl (WQ_gno rfl rfl rfl rfl ?_)
 refine WQ_gno rfl rfl rfl rfl ?_
 refine WQ_gno rfl rfl rfl rfl ?_
 refine WQ_gno rfl rfl rfl rfl ?_
 refine WQ_gno rfl rfl rfl rfl ?_
 refine WQ_gno rfl rfl rfl rfl ?_
 refine WQ_gno rfl rfl rfl rfl ?_
 refine WQ_gnou rfl rfl rfl ?_
 refine WQ_gnou rfl rfl rfl ?_
 refine WQ_gnou rfl rfl rfl ?_
 refine WQ_gnou rfl rfl rfl ?_
 refine WQ_gnou rfl rfl rfl ?_
 refine WQ_gnou rfl rfl rfl ?_
 refine WQ_gnou rfl rfl rfl ?_
 refine WQ_gnou rfl rfl rfl ?_
 refine WQ_gnou rfl rfl rfl ?_
 refine WQ_gno rfl rfl rfl rfl ?_
 first | refine WQ_x (X_pickt rfl rfl) rfl ?_ | refine WQ_x (X_pickf rfl rfl) rfl ?_
 refine WQ_nil ?_
 refine W_condT rfl rfl (W_sr (W_assign rfl rfl (W_nil (W_ret1m (H2:=H) Tryz.results155 rfl (.nil _) zH ?_))))
 exact ⟨rfl,rfl⟩
theorem gbegin_no {w0:World} {H:Heap} {gb sb lb n:Nat} {HL:Heap} {G:Gr} (hok:GrOk n G) (hL:ListsH lb n G.Q G.last HL) (ho:openC G.Q=0) (hw:G.want≤G.began) :LCalls Tryz.prog w0 155 #[.pointer (some ⟨gb,0,none⟩)] ((gb,.cells 224 6 [.pointer (some ⟨sb,0,none⟩),.pointer (some ⟨lb,0,none⟩),.pointer none,.int .i64 G.began,.int .i64 G.done,.int .i64 G.want])::(sb,.cells 250 130 (scC G.S))::(HL++H)) (fun v H'=>v=.slice none 0 0∧H'=(gb,.cells 224 6 [.pointer (some ⟨sb,0,none⟩),.pointer (some ⟨lb,0,none⟩),.pointer none,.int .i64 G.began,.int .i64 G.done,.int .i64 G.want])::(sb,.cells 250 130 (scC G.S))::(HL++H)):=by
 refine L_enter (l:=[.pointer (some ⟨gb,0,none⟩)]) Tryz.func155 rfl Tryz.ntmps155 rfl rfl ?_
 refine W_sr (W_assign rfl rfl (W_nil (W_seq (W_seq ?_))))
 refine W_anyC [(gb,.cells 224 6 [.pointer (some ⟨sb,0,none⟩),.pointer (some ⟨lb,0,none⟩),.pointer none,.int .i64 G.began,.int .i64 G.done,.int .i64 G.want])] zk ?_
 refine WC_take 0 rfl zK zK zK rfl rfl (X_move rfl) rfl ?_
 refine WC_take 1 rfl zK zK zK rfl rfl (X_nilCheck rfl) rfl ?_
 refine WC_take 2 rfl zK zK zK rfl rfl (X_fieldAddr rfl fld224_2 zd) rfl ?_
 refine WC_take 3 rfl zK zK zK rfl rfl (X_load (v:=.pointer none) rfl ty222 rfl (Cell.own (b:=gb) zM rfl)) rfl ?_
 refine WC_take 4 rfl zK zK zK rfl rfl (X_ptrNotNil rfl rfl ty222) rfl ?_
 refine WC_take 5 rfl zK zK zK rfl rfl (X_move rfl) rfl ?_
 refine WC_gyes 6 rfl zK zK zK rfl rfl rfl rfl (X_move rfl) rfl ?_
 refine WC_gyes 7 rfl zK zK zK rfl rfl rfl rfl (X_nilCheck rfl) rfl ?_
 refine WC_gyes 8 rfl zK zK zK rfl rfl rfl rfl (X_fieldAddr rfl fld224_1 zd) rfl ?_
 refine WC_gyes 9 rfl zK zK zK rfl rfl rfl rfl (X_load (v:=.pointer (some ⟨lb,0,none⟩)) rfl ty221 rfl (Cell.own (b:=gb) zM rfl)) rfl ?_
 refine WC_one 10 zH zK rfl rfl ?_
 refine W_gyes rfl rfl (W_call (.cons rfl .nil) Tryz.call248 rfl ((lOpen_L hL hok.n (H:=(gb,.cells 224 6 [.pointer (some ⟨sb,0,none⟩),.pointer (some ⟨lb,0,none⟩),.pointer none,.int .i64 G.began,.int .i64 G.done,.int .i64 G.want])::(sb,.cells 250 130 (scC G.S))::H)).hsub zH) ?_)
 rintro v H' ⟨rfl,rfl⟩
 refine W_nil ?_
 refine WC_goal ?_
 refine WC_gyes 11 rfl zK zK zK rfl rfl rfl rfl (X_bin rfl rfl b_eql) rfl ?_
 rw [ho,show decide (((0:Nat):Int)=0)=true from rfl]
 refine WC_gyes 12 rfl zK zK zK rfl rfl rfl rfl (X_move rfl) rfl ?_
 refine WC_gyes 13 rfl zK zK zK rfl rfl rfl rfl (X_move rfl) rfl ?_
 refine WC_gyes 14 rfl zK zK zK rfl rfl rfl rfl (X_nilCheck rfl) rfl ?_
 refine WC_gyes 15 rfl zK zK zK rfl rfl rfl rfl (X_fieldAddr rfl fld224_5 zd) rfl ?_
 refine WC_gyes 16 rfl zK zK zK rfl rfl rfl rfl (X_load (v:=.int .i64 G.want) rfl ty3 rfl (Cell.own (b:=gb) zM rfl)) rfl ?_
 refine WC_gyes 17 rfl zK zK zK rfl rfl rfl rfl (X_move rfl) rfl ?_
 refine WC_gyes 18 rfl zK zK zK rfl rfl rfl rfl (X_nilCheck rfl) rfl ?_
 refine WC_gyes 19 rfl zK zK zK rfl rfl rfl rfl (X_fieldAddr rfl fld224_3 zd) rfl ?_
 refine WC_gyes 20 rfl zK zK zK rfl rfl rfl rfl (X_load (v:=.int .i64 G.began) rfl ty3 rfl (Cell.own (b:=gb) zM rfl)) rfl ?_
 refine WC_gyes 21 rfl zK zK zK rfl rfl rfl rfl (X_bin rfl rfl b_leq) rfl ?_
 rw [decide_eq_true hw]
 first | refine WC_gyes 22 rfl zK zK zK rfl rfl rfl rfl (X_pickt rfl rfl) rfl ?_ | refine WC_gyes 22 rfl zK zK zK rfl rfl rfl rfl (X_pickf rfl rfl) rfl ?_
 first | refine WC_take 23 rfl zK zK zK rfl rfl (X_pickt rfl rfl) rfl ?_ | refine WC_take 23 rfl zK zK zK rfl rfl (X_pickf rfl rfl) rfl ?_
 refine WC_done zH zK ?_
 refine W_condT rfl rfl (W_sr (W_assign rfl rfl (W_nil (W_ret1m (H2:=(gb,.cells 224 6 [.pointer (some ⟨sb,0,none⟩),.pointer (some ⟨lb,0,none⟩),.pointer none,.int .i64 G.began,.int .i64 G.done,.int .i64 G.want])::(sb,.cells 250 130 (scC G.S))::(HL++H)) Tryz.results155 rfl (.nil _) zH ?_))))
 exact ⟨rfl,rfl⟩
theorem gbegin_o {w0:World} {H:Heap} {gb sb lb n:Nat} {HL:Heap} {G:Gr} (hok:GrOk n G) (hL:ListsH lb n G.Q G.last HL) (ho:openC G.Q≠0) :LCalls Tryz.prog w0 155 #[.pointer (some ⟨gb,0,none⟩)] ((gb,.cells 224 6 [.pointer (some ⟨sb,0,none⟩),.pointer (some ⟨lb,0,none⟩),.pointer none,.int .i64 G.began,.int .i64 G.done,.int .i64 G.want])::(sb,.cells 250 130 (scC G.S))::(HL++H)) (fun v H'=>∃ xb HL',v=.slice none 0 0∧ListsH lb n (G.Q.map (fun q=>q.map (clsC (G.began+1)))) (G.began+1) HL'∧H'=(gb,.cells 224 6 [.pointer (some ⟨sb,0,none⟩),.pointer (some ⟨lb,0,none⟩),.pointer (some ⟨xb,0,none⟩),.int .i64 (G.began+1),.int .i64 G.done,.int .i64 G.want])::(sb,.cells 250 130 (scC G.S))::(xb,.cells 485 4 [.pointer (some ⟨sb,0,none⟩),.int .u64 ((G.S.m:Nat):Int),.int .i64 G.S.st,.int .i64 0])::(HL'++H)):=by
 refine L_enter (l:=[.pointer (some ⟨gb,0,none⟩)]) Tryz.func155 rfl Tryz.ntmps155 rfl rfl ?_
 refine W_sr (W_assign rfl rfl (W_nil (W_seq (W_seq ?_))))
 refine W_anyC [(gb,.cells 224 6 [.pointer (some ⟨sb,0,none⟩),.pointer (some ⟨lb,0,none⟩),.pointer none,.int .i64 G.began,.int .i64 G.done,.int .i64 G.want])] zk ?_
 refine WC_take 0 rfl zK zK zK rfl rfl (X_move rfl) rfl ?_
 refine WC_take 1 rfl zK zK zK rfl rfl (X_nilCheck rfl) rfl ?_
 refine WC_take 2 rfl zK zK zK rfl rfl (X_fieldAddr rfl fld224_2 zd) rfl ?_
 refine WC_take 3 rfl zK zK zK rfl rfl (X_load (v:=.pointer none) rfl ty222 rfl (Cell.own (b:=gb) zM rfl)) rfl ?_
 refine WC_take 4 rfl zK zK zK rfl rfl (X_ptrNotNil rfl rfl ty222) rfl ?_
 refine WC_take 5 rfl zK zK zK rfl rfl (X_move rfl) rfl ?_
 refine WC_gyes 6 rfl zK zK zK rfl rfl rfl rfl (X_move rfl) rfl ?_
 refine WC_gyes 7 rfl zK zK zK rfl rfl rfl rfl (X_nilCheck rfl) rfl ?_
 refine WC_gyes 8 rfl zK zK zK rfl rfl rfl rfl (X_fieldAddr rfl fld224_1 zd) rfl ?_
 refine WC_gyes 9 rfl zK zK zK rfl rfl rfl rfl (X_load (v:=.pointer (some ⟨lb,0,none⟩)) rfl ty221 rfl (Cell.own (b:=gb) zM rfl)) rfl ?_
 refine WC_one 10 zH zK rfl rfl ?_
 refine W_gyes rfl rfl (W_call (.cons rfl .nil) Tryz.call248 rfl ((lOpen_L hL hok.n (H:=(gb,.cells 224 6 [.pointer (some ⟨sb,0,none⟩),.pointer (some ⟨lb,0,none⟩),.pointer none,.int .i64 G.began,.int .i64 G.done,.int .i64 G.want])::(sb,.cells 250 130 (scC G.S))::H)).hsub zH) ?_)
 rintro v H' ⟨rfl,rfl⟩
 refine W_nil ?_
 refine WC_goal ?_
 refine WC_gyes 11 rfl zK zK zK rfl rfl rfl rfl (X_bin rfl rfl b_eql) rfl ?_
 rw [decide_eq_false (by omega)]
 refine WC_gyes 12 rfl zK zK zK rfl rfl rfl rfl (X_move rfl) rfl ?_
 refine WC_gno 13 (l':=#[true,true,true,true,true,true,true,true,true,true,true,true,true,true,false,false,false,false,false,false,false,false,false,false]) rfl zK zK zK zK rfl rfl rfl rfl ?_
 refine WC_gno 14 (l':=#[true,true,true,true,true,true,true,true,true,true,true,true,true,true,true,false,false,false,false,false,false,false,false,false]) rfl zK zK zK zK rfl rfl rfl rfl ?_
 refine WC_gno 15 (l':=#[true,true,true,true,true,true,true,true,true,true,true,true,true,true,true,true,false,false,false,false,false,false,false,false]) rfl zK zK zK zK rfl rfl rfl rfl ?_
 refine WC_gno 16 (l':=#[true,true,true,true,true,true,true,true,true,true,true,true,true,true,true,true,true,false,false,false,false,false,false,false]) rfl zK zK zK zK rfl rfl rfl rfl ?_
 refine WC_gno 17 (l':=#[true,true,true,true,true,true,true,true,true,true,true,true,true,true,true,true,true,true,false,false,false,false,false,false]) rfl zK zK zK zK rfl rfl rfl rfl ?_
 refine WC_gno 18 (l':=#[true,true,true,true,true,true,true,true,true,true,true,true,true,true,true,true,true,true,true,false,false,false,false,false]) rfl zK zK zK zK rfl rfl rfl rfl ?_
 refine WC_gno 19 (l':=#[true,true,true,true,true,true,true,true,true,true,true,true,true,true,true,true,true,true,true,true,false,false,false,false]) rfl zK zK zK zK rfl rfl rfl rfl ?_
 refine WC_gno 20 (l':=#[true,true,true,true,true,true,true,true,true,true,true,true,true,true,true,true,true,true,true,true,true,false,false,false]) rfl zK zK zK zK rfl rfl rfl rfl ?_
 refine WC_gno 21 (l':=#[true,true,true,true,true,true,true,true,true,true,true,true,true,true,true,true,true,true,true,true,true,true,false,false]) rfl zK zK zK zK rfl rfl rfl rfl ?_
 first | refine WC_gyes 22 rfl zK zK zK rfl rfl rfl rfl (X_pickt rfl rfl) rfl ?_ | refine WC_gyes 22 rfl zK zK zK rfl rfl rfl rfl (X_pickf rfl rfl) rfl ?_
 first | refine WC_take 23 rfl zK zK zK rfl rfl (X_pickt rfl rfl) rfl ?_ | refine WC_take 23 rfl zK zK zK rfl rfl (X_pickf rfl rfl) rfl ?_
 refine WC_done zH zK ?_
 refine W_condF rfl rfl (W_skip (W_sr (W_move rfl rfl (W_nilCheck rfl rfl (W_fieldAddr rfl fld224_3 zd rfl ?_)))))
 refine W_load (v:=.int .i64 G.began) rfl ty3 rfl (Cell.own (b:=gb) zM rfl) rfl ?_
 refine W_bin rfl rfl (b_add (m:=G.began+1) (i64w (by have:=hok.beg; omega))) rfl ?_
 refine W_nilCheck rfl rfl (W_fieldAddr rfl fld224_3 zd rfl ?_)
 refine W_store (l':=[.pointer (some ⟨sb,0,none⟩),.pointer (some ⟨lb,0,none⟩),.pointer none,.int .i64 (G.began+1),.int .i64 G.done,.int .i64 G.want]) rfl rfl ty3 rfl rfl (b:=gb) zM rfl rfl zU ?_
 refine W_nil (W_seq ?_)
 refine W_anyC [(gb,.cells 224 6 [.pointer (some ⟨sb,0,none⟩),.pointer (some ⟨lb,0,none⟩),.pointer none,.int .i64 (G.began+1),.int .i64 G.done,.int .i64 G.want])] zk ?_
 refine WC_take 0 rfl zK zK zK rfl rfl (X_move rfl) rfl ?_
 refine WC_take 1 rfl zK zK zK rfl rfl (X_nilCheck rfl) rfl ?_
 refine WC_take 2 rfl zK zK zK rfl rfl (X_fieldAddr rfl fld224_1 zd) rfl ?_
 refine WC_take 3 rfl zK zK zK rfl rfl (X_load (v:=.pointer (some ⟨lb,0,none⟩)) rfl ty221 rfl (Cell.own (b:=gb) zM rfl)) rfl ?_
 refine WC_take 4 rfl zK zK zK rfl rfl (X_move rfl) rfl ?_
 refine WC_take 5 rfl zK zK zK rfl rfl (X_nilCheck rfl) rfl ?_
 refine WC_take 6 rfl zK zK zK rfl rfl (X_fieldAddr rfl fld224_3 zd) rfl ?_
 refine WC_take 7 rfl zK zK zK rfl rfl (X_load (v:=.int .i64 (G.began+1)) rfl ty3 rfl (Cell.own (b:=gb) zM rfl)) rfl ?_
 refine WC_one 8 zH zK rfl rfl ?_
 refine W_call (.cons rfl (.cons rfl .nil)) Tryz.call249 rfl ((lClose_L hL hok.n (gen:=G.began+1) ⟨by have:=hok.beg; omega,by have:=hok.last; omega⟩ (H:=(gb,.cells 224 6 [.pointer (some ⟨sb,0,none⟩),.pointer (some ⟨lb,0,none⟩),.pointer none,.int .i64 (G.began+1),.int .i64 G.done,.int .i64 G.want])::(sb,.cells 250 130 (scC G.S))::H)).hsub zH) ?_
 rintro v H' ⟨HL',cnt,hL',rfl,rfl⟩
 refine W_nil ?_
 refine WC_goal ?_
 refine WC_done zH zK ?_
 refine W_sr (W_move rfl rfl (W_move rfl rfl (W_nilCheck rfl rfl (W_fieldAddr rfl fld224_0 zd rfl ?_))))
 refine W_load (v:=.pointer (some ⟨sb,0,none⟩)) rfl ty135 rfl (Cell.own (b:=gb) zM rfl) rfl ?_
 refine W_call (.cons rfl .nil) Tryz.call250 rfl (scanNew_L hok.sok.len zM) ?_
 rintro v H' ⟨xb,rfl,rfl⟩
 refine W_nilCheck rfl rfl (W_fieldAddr rfl fld224_2 zd rfl ?_)
 refine W_store (l':=[.pointer (some ⟨sb,0,none⟩),.pointer (some ⟨lb,0,none⟩),.pointer (some ⟨xb,0,none⟩),.int .i64 (G.began+1),.int .i64 G.done,.int .i64 G.want]) rfl rfl ty222 rfl rfl (b:=gb) zM rfl rfl zU ?_
 refine W_nil (W_sr (W_assign rfl rfl (W_nil (W_ret1m (H2:=(gb,.cells 224 6 [.pointer (some ⟨sb,0,none⟩),.pointer (some ⟨lb,0,none⟩),.pointer (some ⟨xb,0,none⟩),.int .i64 (G.began+1),.int .i64 G.done,.int .i64 G.want])::(sb,.cells 250 130 (scC G.S))::(xb,.cells 485 4 [.pointer (some ⟨sb,0,none⟩),.int .u64 ((G.S.m:Nat):Int),.int .i64 G.S.st,.int .i64 0])::(HL'++H)) Tryz.results155 rfl (.nil _) zH ?_))))
 exact ⟨xb,HL',rfl,hL',rfl⟩
theorem gbegin_w {w0:World} {H:Heap} {gb sb lb n:Nat} {HL:Heap} {G:Gr} (hok:GrOk n G) (hL:ListsH lb n G.Q G.last HL) (ho:openC G.Q=0) (hw:¬ G.want≤G.began) :LCalls Tryz.prog w0 155 #[.pointer (some ⟨gb,0,none⟩)] ((gb,.cells 224 6 [.pointer (some ⟨sb,0,none⟩),.pointer (some ⟨lb,0,none⟩),.pointer none,.int .i64 G.began,.int .i64 G.done,.int .i64 G.want])::(sb,.cells 250 130 (scC G.S))::(HL++H)) (fun v H'=>∃ xb HL',v=.slice none 0 0∧ListsH lb n (G.Q.map (fun q=>q.map (clsC (G.began+1)))) (G.began+1) HL'∧H'=(gb,.cells 224 6 [.pointer (some ⟨sb,0,none⟩),.pointer (some ⟨lb,0,none⟩),.pointer (some ⟨xb,0,none⟩),.int .i64 (G.began+1),.int .i64 G.done,.int .i64 G.want])::(sb,.cells 250 130 (scC G.S))::(xb,.cells 485 4 [.pointer (some ⟨sb,0,none⟩),.int .u64 ((G.S.m:Nat):Int),.int .i64 G.S.st,.int .i64 0])::(HL'++H)):=by
 refine L_enter (l:=[.pointer (some ⟨gb,0,none⟩)]) Tryz.func155 rfl Tryz.ntmps155 rfl rfl ?_
 refine W_sr (W_assign rfl rfl (W_nil (W_seq (W_seq ?_))))
 refine W_anyC [(gb,.cells 224 6 [.pointer (some ⟨sb,0,none⟩),.pointer (some ⟨lb,0,none⟩),.pointer none,.int .i64 G.began,.int .i64 G.done,.int .i64 G.want])] zk ?_
 refine WC_take 0 rfl zK zK zK rfl rfl (X_move rfl) rfl ?_
 refine WC_take 1 rfl zK zK zK rfl rfl (X_nilCheck rfl) rfl ?_
 refine WC_take 2 rfl zK zK zK rfl rfl (X_fieldAddr rfl fld224_2 zd) rfl ?_
 refine WC_take 3 rfl zK zK zK rfl rfl (X_load (v:=.pointer none) rfl ty222 rfl (Cell.own (b:=gb) zM rfl)) rfl ?_
 refine WC_take 4 rfl zK zK zK rfl rfl (X_ptrNotNil rfl rfl ty222) rfl ?_
 refine WC_take 5 rfl zK zK zK rfl rfl (X_move rfl) rfl ?_
 refine WC_gyes 6 rfl zK zK zK rfl rfl rfl rfl (X_move rfl) rfl ?_
 refine WC_gyes 7 rfl zK zK zK rfl rfl rfl rfl (X_nilCheck rfl) rfl ?_
 refine WC_gyes 8 rfl zK zK zK rfl rfl rfl rfl (X_fieldAddr rfl fld224_1 zd) rfl ?_
 refine WC_gyes 9 rfl zK zK zK rfl rfl rfl rfl (X_load (v:=.pointer (some ⟨lb,0,none⟩)) rfl ty221 rfl (Cell.own (b:=gb) zM rfl)) rfl ?_
 refine WC_one 10 zH zK rfl rfl ?_
 refine W_gyes rfl rfl (W_call (.cons rfl .nil) Tryz.call248 rfl ((lOpen_L hL hok.n (H:=(gb,.cells 224 6 [.pointer (some ⟨sb,0,none⟩),.pointer (some ⟨lb,0,none⟩),.pointer none,.int .i64 G.began,.int .i64 G.done,.int .i64 G.want])::(sb,.cells 250 130 (scC G.S))::H)).hsub zH) ?_)
 rintro v H' ⟨rfl,rfl⟩
 refine W_nil ?_
 refine WC_goal ?_
 refine WC_gyes 11 rfl zK zK zK rfl rfl rfl rfl (X_bin rfl rfl b_eql) rfl ?_
 rw [ho,show decide (((0:Nat):Int)=0)=true from rfl]
 refine WC_gyes 12 rfl zK zK zK rfl rfl rfl rfl (X_move rfl) rfl ?_
 refine WC_gyes 13 rfl zK zK zK rfl rfl rfl rfl (X_move rfl) rfl ?_
 refine WC_gyes 14 rfl zK zK zK rfl rfl rfl rfl (X_nilCheck rfl) rfl ?_
 refine WC_gyes 15 rfl zK zK zK rfl rfl rfl rfl (X_fieldAddr rfl fld224_5 zd) rfl ?_
 refine WC_gyes 16 rfl zK zK zK rfl rfl rfl rfl (X_load (v:=.int .i64 G.want) rfl ty3 rfl (Cell.own (b:=gb) zM rfl)) rfl ?_
 refine WC_gyes 17 rfl zK zK zK rfl rfl rfl rfl (X_move rfl) rfl ?_
 refine WC_gyes 18 rfl zK zK zK rfl rfl rfl rfl (X_nilCheck rfl) rfl ?_
 refine WC_gyes 19 rfl zK zK zK rfl rfl rfl rfl (X_fieldAddr rfl fld224_3 zd) rfl ?_
 refine WC_gyes 20 rfl zK zK zK rfl rfl rfl rfl (X_load (v:=.int .i64 G.began) rfl ty3 rfl (Cell.own (b:=gb) zM rfl)) rfl ?_
 refine WC_gyes 21 rfl zK zK zK rfl rfl rfl rfl (X_bin rfl rfl b_leq) rfl ?_
 rw [decide_eq_false hw]
 first | refine WC_gyes 22 rfl zK zK zK rfl rfl rfl rfl (X_pickt rfl rfl) rfl ?_ | refine WC_gyes 22 rfl zK zK zK rfl rfl rfl rfl (X_pickf rfl rfl) rfl ?_
 first | refine WC_take 23 rfl zK zK zK rfl rfl (X_pickt rfl rfl) rfl ?_ | refine WC_take 23 rfl zK zK zK rfl rfl (X_pickf rfl rfl) rfl ?_
 refine WC_done zH zK ?_
 refine W_condF rfl rfl (W_skip (W_sr (W_move rfl rfl (W_nilCheck rfl rfl (W_fieldAddr rfl fld224_3 zd rfl ?_)))))
 refine W_load (v:=.int .i64 G.began) rfl ty3 rfl (Cell.own (b:=gb) zM rfl) rfl ?_
 refine W_bin rfl rfl (b_add (m:=G.began+1) (i64w (by have:=hok.beg; omega))) rfl ?_
 refine W_nilCheck rfl rfl (W_fieldAddr rfl fld224_3 zd rfl ?_)
 refine W_store (l':=[.pointer (some ⟨sb,0,none⟩),.pointer (some ⟨lb,0,none⟩),.pointer none,.int .i64 (G.began+1),.int .i64 G.done,.int .i64 G.want]) rfl rfl ty3 rfl rfl (b:=gb) zM rfl rfl zU ?_
 refine W_nil (W_seq ?_)
 refine W_anyC [(gb,.cells 224 6 [.pointer (some ⟨sb,0,none⟩),.pointer (some ⟨lb,0,none⟩),.pointer none,.int .i64 (G.began+1),.int .i64 G.done,.int .i64 G.want])] zk ?_
 refine WC_take 0 rfl zK zK zK rfl rfl (X_move rfl) rfl ?_
 refine WC_take 1 rfl zK zK zK rfl rfl (X_nilCheck rfl) rfl ?_
 refine WC_take 2 rfl zK zK zK rfl rfl (X_fieldAddr rfl fld224_1 zd) rfl ?_
 refine WC_take 3 rfl zK zK zK rfl rfl (X_load (v:=.pointer (some ⟨lb,0,none⟩)) rfl ty221 rfl (Cell.own (b:=gb) zM rfl)) rfl ?_
 refine WC_take 4 rfl zK zK zK rfl rfl (X_move rfl) rfl ?_
 refine WC_take 5 rfl zK zK zK rfl rfl (X_nilCheck rfl) rfl ?_
 refine WC_take 6 rfl zK zK zK rfl rfl (X_fieldAddr rfl fld224_3 zd) rfl ?_
 refine WC_take 7 rfl zK zK zK rfl rfl (X_load (v:=.int .i64 (G.began+1)) rfl ty3 rfl (Cell.own (b:=gb) zM rfl)) rfl ?_
 refine WC_one 8 zH zK rfl rfl ?_
 refine W_call (.cons rfl (.cons rfl .nil)) Tryz.call249 rfl ((lClose_L hL hok.n (gen:=G.began+1) ⟨by have:=hok.beg; omega,by have:=hok.last; omega⟩ (H:=(gb,.cells 224 6 [.pointer (some ⟨sb,0,none⟩),.pointer (some ⟨lb,0,none⟩),.pointer none,.int .i64 (G.began+1),.int .i64 G.done,.int .i64 G.want])::(sb,.cells 250 130 (scC G.S))::H)).hsub zH) ?_
 rintro v H' ⟨HL',cnt,hL',rfl,rfl⟩
 refine W_nil ?_
 refine WC_goal ?_
 refine WC_done zH zK ?_
 refine W_sr (W_move rfl rfl (W_move rfl rfl (W_nilCheck rfl rfl (W_fieldAddr rfl fld224_0 zd rfl ?_))))
 refine W_load (v:=.pointer (some ⟨sb,0,none⟩)) rfl ty135 rfl (Cell.own (b:=gb) zM rfl) rfl ?_
 refine W_call (.cons rfl .nil) Tryz.call250 rfl (scanNew_L hok.sok.len zM) ?_
 rintro v H' ⟨xb,rfl,rfl⟩
 refine W_nilCheck rfl rfl (W_fieldAddr rfl fld224_2 zd rfl ?_)
 refine W_store (l':=[.pointer (some ⟨sb,0,none⟩),.pointer (some ⟨lb,0,none⟩),.pointer (some ⟨xb,0,none⟩),.int .i64 (G.began+1),.int .i64 G.done,.int .i64 G.want]) rfl rfl ty222 rfl rfl (b:=gb) zM rfl rfl zU ?_
 refine W_nil (W_sr (W_assign rfl rfl (W_nil (W_ret1m (H2:=(gb,.cells 224 6 [.pointer (some ⟨sb,0,none⟩),.pointer (some ⟨lb,0,none⟩),.pointer (some ⟨xb,0,none⟩),.int .i64 (G.began+1),.int .i64 G.done,.int .i64 G.want])::(sb,.cells 250 130 (scC G.S))::(xb,.cells 485 4 [.pointer (some ⟨sb,0,none⟩),.int .u64 ((G.S.m:Nat):Int),.int .i64 G.S.st,.int .i64 0])::(HL'++H)) Tryz.results155 rfl (.nil _) zH ?_))))
 exact ⟨xb,HL',rfl,hL',rfl⟩
theorem GrH.begin {w0:World} {H:Heap} {HG:Heap} {gb n:Nat} {G:Gr} (hG:GrH gb n G HG) (hok:GrOk n G):LCalls Tryz.prog w0 155 #[.pointer (some ⟨gb,0,none⟩)] (HG++H) (fun v H'=>∃ HG',GrH gb n (beginG G) HG'∧v=.slice none 0 0∧H'=HG'++H):=by
 cases hG with
 | @mk sb lb sv HX HL hS hL =>
  have e1:∀ (a b:Nat × Blk) (X Y:Heap),(a::b::(X++Y))++H=a::b::(X++(Y++H)):=fun a b X Y=>by simp only [List.cons_append,List.append_assoc]
  obtain ⟨S,Q,last,sc,began,done,want⟩:=G
  dsimp only at hS hL
  cases hS with
  | @some xb left bst place =>
   refine (gbegin_runs (G:=⟨S,Q,last,Option.some (left,bst,place),began,done,want⟩) (gb:=gb) (sb:=sb) (lb:=lb) (xb:=xb) List.mem_cons_self).mono ?_
   rintro v H' ⟨rfl,rfl⟩
   exact ⟨_,.mk (G:=⟨S,Q,last,Option.some (left,bst,place),began,done,want⟩) .some hL,rfl,rfl⟩
  | none =>
   rw [e1]
   by_cases ho:openC Q=0
   ·by_cases hw:want≤began
    ·refine (gbegin_no (gb:=gb) (sb:=sb) (H:=H) (G:=⟨S,Q,last,none,began,done,want⟩) hok hL ho hw).mono ?_
     rintro v H' ⟨rfl,rfl⟩
     have e:beginG ⟨S,Q,last,none,began,done,want⟩=⟨S,Q,last,none,began,done,want⟩:=if_pos (.inr ⟨ho,hw⟩)
     rw [e]
     exact ⟨_,.mk (G:=⟨S,Q,last,none,began,done,want⟩) .none hL,rfl,by rw [e1]; rfl⟩
    ·refine (gbegin_w (gb:=gb) (sb:=sb) (H:=H) (G:=⟨S,Q,last,none,began,done,want⟩) hok hL ho hw).mono ?_
     rintro v H' ⟨xb,HL',rfl,hL',rfl⟩
     have e:beginG ⟨S,Q,last,none,began,done,want⟩=⟨S,Q.map (fun q=>q.map (clsC (began+1))),began+1,Option.some (S.m,S.st,0),began+1,done,want⟩:=if_neg (by rintro (h | h); cases h; exact hw h.2)
     rw [e]
     exact ⟨_,.mk .some hL',rfl,by rw [e1]; rfl⟩
   ·refine (gbegin_o (gb:=gb) (sb:=sb) (H:=H) (G:=⟨S,Q,last,none,began,done,want⟩) hok hL ho).mono ?_
    rintro v H' ⟨xb,HL',rfl,hL',rfl⟩
    have e:beginG ⟨S,Q,last,none,began,done,want⟩=⟨S,Q.map (fun q=>q.map (clsC (began+1))),began+1,Option.some (S.m,S.st,0),began+1,done,want⟩:=if_neg (by rintro (h | h); cases h; exact ho h.1)
    rw [e]
    exact ⟨_,.mk .some hL',rfl,by rw [e1]; rfl⟩
theorem GrOk.look {n:Nat} {G:Gr} (h:GrOk n G):GrOk n (lookG G).1:=by
 obtain ⟨S,Q,last,sc,began,done,want⟩:=G
 cases sc with
 | none=>exact h
 | some x =>
  unfold lookG; dsimp only
  split
  ·exact ⟨h.sok,h.n,fun l b p e=>(by cases e; exact pollF_lt _ _ _ (h.left _ _ _ rfl)),h.last,h.beg,h.st⟩
  ·exact ⟨h.sok,h.n,fun l b p e=>(by cases e),h.last,h.beg,h.st⟩
theorem GrOk.begin {n:Nat} {G:Gr} (h:GrOk n G) (hb:G.began<1000000000):GrOk n (beginG G):=by
 unfold beginG
 split
 ·exact h
 ·have hb2:=h.beg
  exact ⟨h.sok,h.n,fun l b p e=>(by cases e; exact h.sok.m64),Int.le_refl _,by show 0≤G.began+1∧G.began+1≤1000000000; omega,h.st⟩
def pollG (G:Gr):Gr × List Int:=(beginG (lookG G).1,(lookG G).2)
theorem lookG_beg (G:Gr):(lookG G).1.began=G.began:=by
 unfold lookG
 split
 ·rfl
 ·split <;> rfl
theorem told_len {n:Nat} {G:Gr} {HG:Heap} {gb:Nat} (h:GrH gb n G HG):(lookG G).2.length≤64*n:=by
 cases h with
 | @mk sb lb sv HX HL hS hL =>
  have:=hL.facts
  unfold lookG
  split
  ·exact Nat.zero_le _
  ·split
   ·exact Nat.zero_le _
   ·have h2:=tld_len (gen:=G.began) this.2
    rw [this.1] at h2
    exact h2
theorem GrH.poll {w0:World} {H:Heap} {HG:Heap} {gb n:Nat} {G:Gr} (hG:GrH gb n G HG) (hok:GrOk n G) (hb:G.began<1000000000) (hT:Tab w0):LCalls Tryz.prog w0 69 #[.pointer (some ⟨gb,0,none⟩)] (HG++H) (fun v H'=>∃ HG' XO,GrH gb n (pollG G).1 HG'∧OwnS 3 1 v (pollG G).2.length ((pollG G).2.map (Value.int .i64)) XO∧H'=XO++(HG'++H)):=by
 refine L_enter (l:=[.pointer (some ⟨gb,0,none⟩)]) Tryz.func69 rfl Tryz.ntmps69 rfl rfl ?_
 refine W_sr (W_assign rfl rfl (W_nil (W_seq (W_sr (W_move rfl rfl ?_)))))
 refine W_x (X_ptrNil rfl rfl ty33) (fun _ h=>by cases h) rfl ?_
 refine W_nil (W_condF rfl rfl (W_skip (W_sr (W_assign rfl rfl (W_nil (W_seq (W_sr (W_buildArr (l:=[(.func (.func 154) #[] #[]),(.func (.func 155) #[] #[])]) ty262 ty261 (.cons rfl rfl rfl rfl rfl (.cons rfl rfl rfl rfl rfl .nil)) rfl rfl rfl ?_))))))))
 refine W_move rfl rfl (W_nil (W_block ?_))
 refine W_loopC (X:=(Nat × Gr × Heap × Value × Heap × List Int)) [(0,_),(8,_)] (fun (z:(Nat × Gr × Heap × Value × Heap × List Int))=>[(9,.int .i64 (z.1:Int)),(3,z.2.2.2.1)]) (fun _=>_) (fun (z:(Nat × Gr × Heap × Value × Heap × List Int))=>z.2.2.2.2.1++(z.2.2.1++H)) (fun (z:(Nat × Gr × Heap × Value × Heap × List Int))=>z.1≤2∧GrH gb n z.2.1 z.2.2.1∧GrOk n z.2.1∧(z.1=0→z.2.1=G∧z.2.2.2.2.2=[])∧(z.1=1→z.2.1=(lookG G).1∧z.2.2.2.2.2=(lookG G).2)∧(z.1=2→z.2.1=(pollG G).1∧z.2.2.2.2.2=(lookG G).2)∧OwnS 3 1 z.2.2.2.1 z.2.2.2.2.2.length (z.2.2.2.2.2.map (Value.int .i64)) z.2.2.2.2.1) (fun (z:(Nat × Gr × Heap × Value × Heap × List Int))=>2-z.1) (0,G,HG,.slice none 0 0,[],[]) ⟨Nat.zero_le _,hG,hok,fun _=>⟨rfl,rfl⟩,fun h=>(by cases h),fun h=>(by cases h),.nil⟩ (sub_cons rfl (sub_cons rfl (sub_nil _))) (sub_cons rfl (sub_cons rfl (sub_nil _))) rfl (show HSub _ ([]++(HG++H)) from .refl _) ?_
 rintro ⟨i,G1,HG1,xv,XB,ids⟩ ⟨hi,hG1,hok1,h0,h1,h2,hO⟩
 dsimp only at hi hG1 hok1 h0 h1 h2 hO ⊢
 simp only [List.cons_append,List.nil_append]
 refine W_sr (W_bin rfl rfl b_lss rfl ?_)
 refine W_nil (W_seq ?_)
 refine W_condPS (p:=i<2) rfl (by rw [decide_eq_true_eq]; omega) (fun q0=>?_) (fun q0=>?_)
 ·skip
  refine W_skip (W_seq (W_block (W_sr ?_)))
  rcases (show i=0∨i=1 by omega) with rfl | rfl
  ·skip
   refine W_indexA (v:=(.func (.func 154) #[] #[])) (j:=0) rfl rfl ty262 ty261 rfl rfl zd rfl rfl ?_
   refine W_assign rfl rfl (W_nil (W_region (W_move rfl rfl (W_move rfl rfl (W_move rfl rfl ?_)))))
   obtain ⟨eG,eI⟩:=h0 rfl
   have htl:=told_len hG1
   have hn:=hok.n
   refine W_callv (fa:=#[]) (ca:=#[]) rfl (.cons rfl .nil) Tryz.call154 rfl ((hG1.look hok1 hT (H:=XB++H)).hsub zH) ?_
   rintro v H' ⟨HG2,XO,hG2,hXO,rfl⟩
   obtain ⟨ad2,cap2,rfl,hh2⟩:∃ ad2 cap2,v=.slice ad2 (lookG G1).2.length cap2∧Holds w0 (XO++(HG2++(XB++H))) ad2 ((lookG G1).2.map (Value.int .i64)):=by
    obtain ⟨ad2,cap2,e,h3,h4,h5⟩:=Holds.of_own (w0:=w0) (H:=XO++(HG2++(XB++H))) hXO (fun p hp=>List.mem_append_left _ hp)
    exact ⟨ad2,cap2,e,h5⟩
   refine W_append (news:=(lookG G1).2.map (Value.int .i64)) (m:=(lookG G1).2.length) (HB:=XB) (H0:=XO++(HG2++H)) rfl rfl ty63 ty3 rfl (by decide) hO (by rw [List.length_map,Nat.mul_one]) hh2 (by rw [List.all_map,List.all_eq_true]; exact fun _ _=>rfl) (by rw [eI]; simp only [maxLen,List.length_nil]; omega) (by rw [eI]; simp only [List.length_nil]; omega) zH rfl (fun xv' XB' hO'=>?_)
   refine W_assign rfl rfl (W_nil (W_blk (W_region (W_bin rfl rfl (b_add (m:=1) rfl) rfl ?_))))
   refine W_move rfl rfl (W_nil ?_)
   refine W_again (1,(lookG G1).1,HG2,xv',XB',ids++(lookG G1).2) ⟨by show 1≤2; decide,hG2,hok1.look,fun h=>(by cases h),fun _=>by obtain ⟨rfl,rfl⟩:=h0 rfl; exact ⟨rfl,rfl⟩,fun h=>(by cases h),by show OwnS _ 1 xv' (ids++_).length ((ids++_).map _) XB'; rw [List.length_append,List.map_append]; exact hO'⟩ (by show 2-1<2-0; decide) (sub_cons rfl (sub_cons rfl (sub_cons rfl (sub_cons rfl (sub_nil _))))) rfl zH
  ·skip
   refine W_indexA (v:=(.func (.func 155) #[] #[])) (j:=1) rfl rfl ty262 ty261 rfl rfl zd rfl rfl ?_
   refine W_assign rfl rfl (W_nil (W_region (W_move rfl rfl (W_move rfl rfl (W_move rfl rfl (W_callv (fa:=#[]) (ca:=#[]) rfl (.cons rfl .nil) Tryz.call155 rfl ((hG1.begin hok1 (H:=XB++H)).hsub zH) ?_))))))
   rintro v H' ⟨HG2,hG2,rfl,rfl⟩
   obtain ⟨eG,eI⟩:=h1 rfl
   have htl:=told_len hG
   have hn:=hok.n
   refine W_append (news:=[]) (m:=0) (HB:=XB) (H0:=HG2++H) rfl rfl ty63 ty3 rfl (by decide) hO rfl (fun j x hx=>by simp at hx) rfl (by rw [eI]; simp only [maxLen]; omega) (by rw [eI]; omega) zH rfl (fun xv' XB' hO'=>?_)
   refine W_assign rfl rfl (W_nil (W_blk (W_region (W_bin rfl rfl (b_add (m:=2) rfl) rfl ?_))))
   refine W_move rfl rfl (W_nil ?_)
   refine W_again (2,beginG G1,HG2,xv',XB',ids) ⟨by show 2≤2; decide,hG2,hok1.begin (by rw [(h1 rfl).1,lookG_beg]; exact hb),fun h=>(by cases h),fun h=>(by cases h),fun _=>by obtain ⟨rfl,rfl⟩:=h1 rfl; exact ⟨rfl,rfl⟩,by simpa using hO'⟩ (by show 2-2<2-1; decide) (sub_cons rfl (sub_cons rfl (sub_cons rfl (sub_cons rfl (sub_nil _))))) rfl zH
 ·skip
  refine W_exit rfl ?_
  refine W_sr (W_move rfl rfl (W_assign rfl rfl (W_nil (W_ret1m (H2:=XB++(HG1++H)) Tryz.results69 rfl (.nil _) zH ?_))))
  obtain rfl:i=2:=by omega
  obtain ⟨rfl,rfl⟩:=h2 rfl
  exact ⟨HG1,XB,hG1,hO,rfl⟩
def delQ (Q:List (Int × Int)) (id:Int):List (Int × Int):=Q.filter (fun p=>decide (p.1≠id))
theorem QOk.del {n:Nat} {Q:List (Int × Int)} (h:QOk n Q) (id:Int):QOk n (delQ Q id):=⟨h.ids.sublist (List.filter_sublist.map _),fun p hp=>h.rng p (List.mem_filter.1 hp).1⟩
theorem delQ_no {n:Nat} {Q:List (Int × Int)} (h:QOk n Q) {id:Int} (hw:whQ Q id=none):delQ Q id=Q:=List.filter_eq_self.2 fun p hp=>decide_eq_true (fun e=>by
 have h1:=(whQ_some h (id:=id) (k:=p.2)).2 (by rw [← e]; exact hp)
 rw [hw] at h1; cases h1)
theorem eraseIdx_filter:∀ {l:List Int} {i:Nat} {x:Int},l.Nodup→l[i]?=some x→l.eraseIdx i=l.filter (fun y=>decide (y≠x))
 | y::l,0,x,hn,h=>by
  obtain rfl:y=x:=by simpa using h
  rw [List.nodup_cons] at hn
  rw [List.filter_cons_of_neg (by simp),List.eraseIdx_zero,List.tail_cons]
  exact (List.filter_eq_self.2 fun z hz=>decide_eq_true (p:=z≠y) (fun (e:z=y)=>hn.1 (e ▸ hz))).symm
 | y::l,i+1,x,hn,h=>by
  rw [List.nodup_cons] at hn
  have hx:l[i]?=some x:=by simpa using h
  rw [List.eraseIdx_cons_succ,List.filter_cons_of_pos (by simpa using fun e:y=x=>hn.1 (e ▸ List.mem_of_getElem? hx)),eraseIdx_filter hn.2 hx]
theorem quOf_del (Q:List (Int × Int)) (id k:Int):quOf (delQ Q id) k=(quOf Q k).filter (fun y=>decide (y≠id)):=by
 unfold quOf delQ
 rw [List.filter_map,List.filter_filter,List.filter_filter]
 congr 1
 refine List.filter_congr fun p _=>?_
 simp [Bool.and_comm]
theorem quOf_del_at {n:Nat} {Q:List (Int × Int)} (h:QOk n Q) {id k:Int} {i:Nat} (hi:(quOf Q k)[i]?=some id):quOf (delQ Q id) k=(quOf Q k).eraseIdx i:=by
 rw [quOf_del,eraseIdx_filter (quOf_sub h k).1 hi]
theorem quOf_del_other {n:Nat} {Q:List (Int × Int)} (h:QOk n Q) {id k j:Int} (hm:(id,k)∈Q) (hj:j≠k):quOf (delQ Q id) j=quOf Q j:=by
 rw [quOf_del]
 refine List.filter_eq_self.2 fun y hy=>decide_eq_true (fun e=>hj ?_)
 subst e
 have h1:=(whQ_some h).2 (mem_quOf.1 hy)
 rw [(whQ_some h).2 hm] at h1
 exact (Option.some.inj h1).symm
def delsQ (Q:List (Int × Int)) (l:List Int):List (Int × Int) × Nat:=l.foldl (fun s id=>(delQ s.1 id,s.2+if (whQ s.1 id).isSome=true then 1 else 0)) (Q,0)
theorem delsQ_at {Q:List (Int × Int)} {l:List Int} {i:Nat} {x:Int} (h:l[i]?=some x):delsQ Q (l.take (i+1))=(delQ (delsQ Q (l.take i)).1 x,(delsQ Q (l.take i)).2+if (whQ (delsQ Q (l.take i)).1 x).isSome=true then 1 else 0):=by
 unfold delsQ
 rw [takeAt h,List.foldl_append]; rfl
theorem delsQ_le (Q:List (Int × Int)) (l:List Int):∀ i,i≤l.length→(delsQ Q (l.take i)).2≤i
 | 0,_=>by rw [List.take_zero]; exact Nat.le_refl _
 | i+1,h=>by
  obtain ⟨x,hx⟩:∃ x,l[i]?=some x:=⟨_,List.getElem?_eq_getElem zO⟩
  rw [delsQ_at hx]
  have:=delsQ_le Q l i zO
  dsimp only
  split <;> omega
theorem pDel_L {w0:World} {H:Heap} {HB:Heap} {pb n:Nat} {Q Rs:List (Int × Int)} (hP:PendH pb n Q Rs HB) (hn:n≤64) {ids:List Int} {ad:Option Addr} {cap:Nat} (hil:ids.length≤1000000) (hrow:Holds w0 H ad (ids.map (Value.int .i64))) :LCalls Tryz.prog w0 179 #[.pointer (some ⟨pb,0,none⟩),.slice ad ids.length cap] (HB++H) (fun v H'=>∃ HB',PendH pb n (delsQ Q ids).1 Rs HB'∧v=.int .i64 (((delsQ Q ids).2:Nat):Int)∧H'=HB'++H):=by
 refine L_enter (l:=[.pointer (some ⟨pb,0,none⟩),.slice ad ids.length cap]) Tryz.func179 rfl Tryz.ntmps179 rfl rfl ?_
 refine W_sr (W_assign rfl rfl (W_nil (W_sr (W_assign rfl rfl (W_nil (W_seq (W_sr (W_move rfl rfl (W_len rfl ty63 rfl rfl ?_)))))))))
 refine W_move rfl rfl (W_nil (W_block ?_))
 refine W_loopC (X:=(Nat × Heap)) [(0,_),(11,_),(12,_)] (fun (x:(Nat × Heap))=>[(5,.int .i64 (((delsQ Q (ids.take x.1)).2:Nat):Int)),(13,.int .i64 (x.1:Int))]) (fun _=>_) (fun (x:(Nat × Heap))=>x.2++H) (fun (x:(Nat × Heap))=>x.1≤ids.length∧PendH pb n (delsQ Q (ids.take x.1)).1 Rs x.2) (fun (x:(Nat × Heap))=>ids.length-x.1) (0,HB) ⟨Nat.zero_le _,by rw [List.take_zero]; exact hP⟩ (sub_cons rfl (sub_cons rfl (sub_cons rfl (sub_nil _)))) (sub_cons rfl (sub_cons rfl (sub_nil _))) rfl (.refl _) ?_
 rintro ⟨i,HBi⟩ ⟨hi,hPi⟩
 dsimp only at hi hPi ⊢
 have hdl:=delsQ_le Q ids i hi
 simp only [List.cons_append,List.nil_append]
 refine W_sr (W_bin rfl rfl b_lss rfl ?_)
 refine W_nil (W_seq ?_)
 refine W_condPS (p:=(i:Int)<(ids.length:Int)) rfl (by simp) (fun q0=>?_) (fun q0=>?_)
 ·skip
  refine W_skip (W_seq (W_block (W_sr ?_)))
  obtain ⟨x,hx⟩:∃ x,ids[i]?=some x:=⟨_,List.getElem?_eq_getElem zO⟩
  obtain ⟨q0,p0,rfl,hcx⟩:=hrow.at (i:=i) (v:=.int .i64 x) (by rw [List.getElem?_map,hx]; rfl)
  refine W_indexAddr (j:=i) rfl rfl ty63 ty3 rfl zO rfl rfl ?_
  refine W_load (v:=.int .i64 x) rfl ty3 rfl (by rw [Nat.mul_one]; exact hcx.up zH) rfl ?_
  refine W_alloc (l:=[.int .i64 0]) ty3 rfl rfl (fun b7=>?_)
  refine W_store (l':=[.int .i64 x]) rfl rfl ty3 rfl rfl (b:=b7) zM rfl rfl zU ?_
  refine W_nil (W_sr (W_move rfl rfl (W_makeFunc .nil (.cons rfl .nil) rfl ?_)))
  refine W_call (.cons rfl (.cons rfl .nil)) Tryz.call189 rfl ((find_L (bi:=b7) (fi:=265) (id:=x) (H:=(b7,.cells 3 1 [.int .i64 x])::H) hPi hn zM Tryz.call265 (fun x H hb=>dec_q hb)).hsub zH) ?_
  rintro v H' ⟨hF,rfl⟩
  rcases hF.wh hPi.ok with ⟨rfl,hw⟩ | ⟨k,j,rfl,hk,hki,hw⟩
  ·skip
   refine W_move rfl rfl (W_extract rfl rfl rfl (W_extract rfl rfl rfl (W_extract rfl rfl rfl (W_assign rfl rfl (W_assign rfl rfl (W_assign rfl rfl (W_nil (W_sr ?_))))))))
   refine W_move rfl rfl (W_nil (W_condF rfl rfl (W_skip (W_blk (W_region ?_)))))
   refine W_bin rfl rfl (b_add (m:=((i+1:Nat):Int)) (by rw [i64w (by omega)]; omega)) rfl ?_
   refine W_move rfl rfl (W_nil ?_)
   have hat:delsQ Q (ids.take (i+1))=(delQ (delsQ Q (ids.take i)).1 x,(delsQ Q (ids.take i)).2+0):=by rw [delsQ_at hx,hw]; rfl
   have hPn:PendH pb n (delsQ Q (ids.take (i+1))).1 Rs HBi:=by rw [hat,delQ_no hPi.ok hw]; exact hPi
   refine W_again (i+1,HBi) ⟨by show i+1≤ids.length; omega,hPn⟩ (by show ids.length-(i+1)<ids.length-i; omega) (sub_cons (by rw [hat]; rfl) (sub_cons rfl (sub_cons rfl (sub_cons rfl (sub_cons rfl (sub_nil _)))))) rfl zH
  ·skip
   refine W_move rfl rfl (W_extract rfl rfl rfl (W_extract rfl rfl rfl (W_extract rfl rfl rfl (W_assign rfl rfl (W_assign rfl rfl (W_assign rfl rfl (W_nil (W_sr ?_))))))))
   refine W_move rfl rfl (W_nil (W_condT rfl rfl (W_sr (W_move rfl rfl (W_move rfl rfl ?_)))))
   obtain ⟨rb,X,HR,hR,hqu,ho1,ho2,hup⟩:=hPi.at hn hk
   refine W_callq (.cons rfl (.cons rfl .nil)) Tryz.call182 rfl (hqu (fun p hp=>List.mem_append_left _ hp)) ?_
   refine W_move rfl rfl ?_
   have hm:(x,(k:Int))∈(delsQ Q (ids.take i)).1:=mem_quOf.1 (List.mem_of_getElem? hki)
   refine W_hsub (H':=X++(HR++H)) ((show HSub _ (HBi++H) from zH).trans (ho1 H)) ?_
   refine W_call (.cons rfl (.cons rfl .nil)) Tryz.call266 rfl (rTake_L hR hki) ?_
   rintro v H' ⟨X',hR',rfl,rfl⟩
   obtain ⟨HBn,hPn,hin⟩:=hup (delQ (delsQ Q (ids.take i)).1 x) X' (by rw [quOf_del_at hPi.ok hki]; exact hR') (fun j hj=>quOf_del_other hPi.ok hm (by omega)) (hPi.ok.del x)
   refine W_hsub (H':=HBn++H) (hin H) ?_
   refine W_nil (W_region (W_move rfl rfl ?_))
   refine W_bin rfl rfl (b_add (m:=(((delsQ Q (ids.take i)).2+1:Nat):Int)) (by rw [i64w (by omega)]; omega)) rfl ?_
   refine W_assign rfl rfl (W_nil (W_blk (W_region ?_)))
   refine W_bin rfl rfl (b_add (m:=((i+1:Nat):Int)) (by rw [i64w (by omega)]; omega)) rfl ?_
   refine W_move rfl rfl (W_nil ?_)
   have hat:delsQ Q (ids.take (i+1))=(delQ (delsQ Q (ids.take i)).1 x,(delsQ Q (ids.take i)).2+1):=by rw [delsQ_at hx,hw]; rfl
   rw [← show (delsQ Q (ids.take (i+1))).1=delQ (delsQ Q (ids.take i)).1 x from by rw [hat]] at hPn
   refine W_again (i+1,HBn) ⟨by show i+1≤ids.length; omega,hPn⟩ (by show ids.length-(i+1)<ids.length-i; omega) (sub_cons (by rw [hat]; rfl) (sub_cons rfl (sub_cons rfl (sub_cons rfl (sub_cons rfl (sub_nil _)))))) rfl zH
 ·skip
  refine W_exit rfl ?_
  refine W_sr (W_move rfl rfl (W_assign rfl rfl (W_nil (W_ret1m (H2:=HBi++H) Tryz.results179 rfl (.nil _) zH ?_))))
  obtain rfl:i=ids.length:=by omega
  rw [List.take_length] at hPi ⊢
  exact ⟨HBi,hPi,rfl,rfl⟩
theorem optV_ways (o:Option Int):(o=none∧optV o=.tuple #[.int .i64 0,.bool false])∨∃ x,o=some x∧optV o=.tuple #[.int .i64 x,.bool true]:=by
 cases o with
 | none=>exact .inl ⟨rfl,rfl⟩
 | some x=>exact .inr ⟨x,rfl,rfl⟩
set_option maxRecDepth 100000
abbrev rn0:List Int:=List.replicate 256 0
abbrev of0:List Int:=List.replicate 32 0
theorem runs0:RunsIs rn0 of0 []:=by
 refine ⟨List.length_replicate,List.length_replicate,fun x hx=>?_,fun x hx=>?_,fun i c=>?_,fun i c=>?_,fun p hp=>(by cases hp),List.nodup_nil⟩
 ·rw [List.eq_of_mem_replicate hx]; decide
 ·rw [List.eq_of_mem_replicate hx]; decide
 ·refine ⟨fun h=>?_,fun h=>by cases h⟩
  have:=List.eq_of_mem_replicate (List.mem_of_getElem? h); omega
 ·refine ⟨fun h=>?_,fun h=>by cases h⟩
  have:=List.eq_of_mem_replicate (List.mem_of_getElem? h); omega
theorem quok0 (n:Nat):QOk n []:=⟨List.nodup_nil,fun p hp=>by cases hp⟩
structure NpS where
 i:Nat
 v:Value
 XQ:Heap
 XS:List Heap
 rbs:List Nat
theorem rings_snoc {XS:List Heap} {rbs:List Nat} {rb:Nat} {X:Heap} (hl:XS.length=rbs.length) (h:∀ (k:Nat) r Y,rbs[k]?=some r→XS[k]?=some Y→RingH 256 r [] Y) (hx:RingH 256 rb [] X):∀ (k:Nat) r Y,(rbs++[rb])[k]?=some r→(XS++[X])[k]?=some Y→RingH 256 r [] Y:=fun k r Y h1 h2=>by
 by_cases c:k<rbs.length
 ·rw [List.getElem?_append_left c] at h1
  rw [List.getElem?_append_left (by omega)] at h2
  exact h k r Y h1 h2
 ·rw [List.getElem?_append_right (by omega)] at h1 h2
  rw [hl] at h2
  cases hk:k-rbs.length with
  | zero =>
   rw [hk] at h1 h2
   obtain rfl:rb=r:=by simpa using h1
   obtain rfl:X=Y:=by simpa using h2
   exact hx
  | succ j=>rw [hk] at h1; simp at h1
theorem pNew_L {w0:World} {H:Heap} {n:Nat} (hn:1≤n∧n≤64) :LCalls Tryz.prog w0 195 #[.int .i64 (n:Int)] (H) (fun v H'=>∃ pb HB,v=.tuple #[.pointer (some ⟨pb,0,none⟩),.int .i64 0]∧PendH pb n [] [] HB∧H'=HB++H):=by
 refine L_enter (l:=[.int .i64 (n:Int)]) Tryz.func195 rfl Tryz.ntmps195 rfl rfl ?_
 refine W_sr (W_assign rfl rfl (W_assign rfl rfl (W_nil (W_seq (W_sr (W_move rfl rfl (W_bin rfl rfl b_lss rfl ?_)))))))
 rw [decide_eq_false (by omega)]
 refine W_move rfl rfl (W_gyes rfl rfl (W_move rfl rfl (W_gyes rfl rfl (W_bin rfl rfl b_gtr rfl ?_))))
 rw [decide_eq_false (by omega)]
 first | refine W_pickt rfl rfl rfl ?_ | refine W_pickf rfl rfl rfl ?_
 refine W_nil (W_condF rfl rfl (W_skip (W_sr (W_build (l:=(peRow (.slice none 0 0) rn0 of0)) ty294 pl294 .nil rfl zk rfl ?_))))
 refine W_box (l:=(peRow (.slice none 0 0) rn0 of0)) rfl rfl rfl (fun b14=>?_)
 refine W_assign rfl rfl (W_nil (W_seq (W_sr (W_move rfl rfl (W_move rfl rfl (W_nil (W_block ?_)))))))
 refine W_loopC (X:=NpS) [(4,_),(15,_)] (fun (x:NpS)=>[(16,.int .i64 (x.i:Int))]) (fun _=>_) (fun (x:NpS)=>(b14,.cells 294 289 (peRow x.v rn0 of0))::(x.XQ++(x.XS.flatten++H))) (fun (x:NpS)=>x.i≤n∧x.rbs.length=x.i∧OwnS 281 1 x.v x.rbs.length (x.rbs.map rbP) x.XQ∧x.XS.length=x.rbs.length∧(∀ (k:Nat) r Y,x.rbs[k]?=some r→x.XS[k]?=some Y→RingH 256 r [] Y)) (fun (x:NpS)=>n-x.i) ⟨0,.slice none 0 0,[],[],[]⟩ ⟨Nat.zero_le _,rfl,.nil,rfl,fun k r Y h=>(by cases h)⟩ (sub_cons rfl (sub_cons rfl (sub_nil _))) (sub_cons rfl (sub_nil _)) rfl (.refl _) ?_
 rintro ⟨i,v,XQ,XS,rbs⟩ ⟨hi,hlen,hv,hl,hw⟩
 dsimp only at hi hlen hv hl hw ⊢
 simp only [List.cons_append,List.nil_append]
 refine W_sr (W_bin rfl rfl b_lss rfl ?_)
 refine W_nil (W_seq ?_)
 refine W_condPS (p:=(i:Int)<(n:Int)) rfl (by simp) (fun q0=>?_) (fun q0=>?_)
 ·skip
  refine W_skip (W_seq (W_block (W_sr (W_call (.cons rfl .nil) Tryz.call274 rfl (rNew_L (R:=256) zd zd) ?_))))
  rintro w2 H' ⟨rb,HX,rfl,hX,rfl⟩
  refine W_move rfl rfl (W_extract rfl rfl rfl (W_extract rfl rfl rfl (W_assign rfl rfl (W_assign rfl rfl (W_nil (W_seq (W_sr (W_move rfl rfl (W_bin rfl rfl b_neq rfl ?_)))))))))
  refine W_nil (W_condF rfl rfl (W_skip (W_region (W_move rfl rfl (W_move rfl rfl (W_nilCheck rfl rfl (W_fieldAddr rfl fld294_0 zd rfl ?_)))))))
  refine W_load (v:=v) rfl ty291 rfl (Cell.own (b:=b14) zM rfl) rfl ?_
  refine W_move rfl rfl ?_
  refine W_buildSlice (l:=[rbP rb]) ty291 ty281 (.cons rfl rfl rfl rfl rfl .nil) rfl rfl rfl rfl rfl rfl rfl (fun b31=>?_)
  refine W_append (news:=[rbP rb]) (m:=1) (HB:=XQ) (H0:=(b31,.cells 281 1 [rbP rb])::(HX++((b14,.cells 294 289 (peRow v rn0 of0))::(XS.flatten++H)))) rfl rfl ty291 ty281 rfl (by decide) hv rfl (Holds.own (b:=b31) zM) rfl (by simp only [maxLen]; omega) (by omega) zH rfl (fun v' X' hv'=>?_)
  refine W_nilCheck rfl rfl (W_fieldAddr rfl fld294_0 zd rfl ?_)
  have hv1:v'.oneCell'=true:=by obtain ⟨_,_,rfl,_⟩:=hv'.shape; rfl
  refine W_store (l':=(peRow v' rn0 of0)) rfl rfl ty291 hv1 rfl (b:=b14) zM (by rw [peRow_len List.length_replicate List.length_replicate]; rfl) rfl zU ?_
  refine W_nil (W_blk (W_region (W_bin rfl rfl (b_add (m:=((i+1:Nat):Int)) ((i64w zO).trans zO)) rfl ?_)))
  refine W_move rfl rfl (W_nil ?_)
  refine W_again ⟨i+1,v',X',XS++[HX],rbs++[rb]⟩ ⟨by show i+1≤n; omega,by show (rbs++[rb]).length=i+1; rw [List.length_append,hlen]; rfl,by show OwnS 281 1 v' (rbs++[rb]).length ((rbs++[rb]).map rbP) X'; rw [List.length_append,List.map_append]; exact hv',by show (XS++[HX]).length=(rbs++[rb]).length; rw [List.length_append,List.length_append,hl]; rfl,rings_snoc hl hw hX⟩ (by show n-(i+1)<n-i; omega) (sub_cons rfl (sub_cons rfl (sub_cons rfl (sub_nil _)))) rfl (by show HSub _ ((b14,.cells 294 289 (peRow v' rn0 of0))::(X'++((XS++[HX]).flatten++H))); rw [List.flatten_append,List.flatten_singleton,List.append_assoc]; first | exact hsubI | (repeat (first | with_reducible exact HSub.refl _ | refine HSub.cons zT ?_ | refine HSub.app zS ?_ | exact HSub.nil _ | exact HSub.refl _ | refine HSub.drop ?_ | refine HSub.dropS ?_)))
 ·skip
  refine W_exit rfl ?_
  refine W_sr (W_move rfl rfl (W_assign rfl rfl (W_assign rfl rfl (W_nil (W_ret2m (H2:=(b14,.cells 294 289 (peRow v rn0 of0))::(XQ++(XS.flatten++H))) Tryz.results195 rfl rfl (.nil _) zH ?_)))))
  obtain rfl:i=n:=by omega
  exact ⟨b14,(b14,.cells 294 289 (peRow v rn0 of0))::(XQ++XS.flatten),rfl,.mk (rbs:=rbs) (by rw [← hlen]; exact hv) (by omega) hw runs0 (quok0 _),by show _=_::((XQ++XS.flatten)++H); rw [List.append_assoc]⟩
structure Wone where
 shut:Bool
 prog:Int
def woC (o:Wone):List Value:=[.bool o.shut,.int .i64 o.prog]
theorem woC_len (o:Wone):(woC o).length=2:=rfl
def wkRow (pb n:Nat) (A:List Wone) (on:List Int):List Value:=.pointer (some ⟨pb,0,none⟩)::.int .i64 ((n:Nat):Int)::(A.flatMap woC++on.map (Value.int .i64))
def zWone:Wone:=⟨false,0⟩
theorem wk_len {pb n:Nat} (A:List Wone) (on:List Int):(wkRow pb n A on).length=A.length*2+on.length+2:=by
 unfold wkRow; rw [List.length_cons,List.length_cons,List.length_append,rows_len woC_len,List.length_map]
theorem wk_get {pb n i j:Nat} {A:List Wone} {on:List Int} {o:Wone} (h:A[i]?=some o) (hj:j<2):(wkRow pb n A on)[2+i*2+j]?=(woC o)[j]?:=by
 unfold wkRow
 rw [show 2+i*2+j=(i*2+j)+1+1 by omega,List.getElem?_cons_succ,List.getElem?_cons_succ,List.getElem?_append_left (rows_lt woC_len h hj),rows_get woC_len h hj]
theorem wk_lt {pb n i j:Nat} {A:List Wone} {on:List Int} {o:Wone} (h:A[i]?=some o) (hj:j<2):Nat.blt (2+i*2+j) (wkRow pb n A on).length=true:=by
 have:=(List.getElem?_eq_some_iff.1 h).1
 rw [wk_len,Nat.blt_eq]; omega
theorem wk_get0 {pb n i:Nat} {A:List Wone} {on:List Int} {o:Wone} (h:A[i]?=some o):(wkRow pb n A on)[2+i*2+0]?=some (.bool o.shut):=wk_get (j:=0) h zd
theorem wk_set {pb n i j:Nat} {A:List Wone} {on:List Int} {o o':Wone} {v:Value} (h:A[i]?=some o) (hj:j<2) (e:(woC o).set j v=woC o'):(wkRow pb n A on).set (2+i*2+j) v=wkRow pb n (A.set i o') on:=by
 unfold wkRow
 rw [show 2+i*2+j=(i*2+j)+1+1 by omega,List.set_cons_succ,List.set_cons_succ,List.set_append_left _ _ (rows_lt woC_len h hj),rows_set woC_len h hj e]
theorem wk_set0 {pb n i:Nat} {A:List Wone} {on:List Int} {o:Wone} {x:Bool} (h:A[i]?=some o):(wkRow pb n A on).set (2+i*2+0) (.bool x)=wkRow pb n (A.set i { o with shut:=x }) on:=wk_set (j:=0) h zd rfl
theorem wk_set1 {pb n i:Nat} {A:List Wone} {on:List Int} {o:Wone} {x:Int} (h:A[i]?=some o):(wkRow pb n A on).set (2+i*2+1) (.int .i64 x)=wkRow pb n (A.set i { o with prog:=x }) on:=wk_set (j:=1) h zd rfl
theorem wk_spl {pb n i:Nat} {A:List Wone} {on:List Int} {o':Wone} (h:i<A.length):spliceL (wkRow pb n A on) (2+i*2) (woC o')=wkRow pb n (A.set i o') on:=by
 have e:=flat_set woC_len (l:=A) o' h
 have hl:=rows_len woC_len A
 unfold spliceL at e ⊢
 unfold wkRow
 rw [← e,show 2+i*2=(i*2)+1+1 by omega,List.take_succ_cons,List.take_succ_cons,show (i*2)+1+1+(woC o').length=(i*2+(woC o').length)+1+1 by omega,List.drop_succ_cons,List.drop_succ_cons,List.take_append_of_le_length (by rw [hl]; omega),List.drop_append_of_le_length (by rw [hl,woC_len]; omega)]
 simp only [List.cons_append,List.append_assoc]
theorem wk_load {pb n i:Nat} {A:List Wone} {on:List Int} {o:Wone} (h:A[i]?=some o):((wkRow pb n A on).drop (2+i*2)).take 2=woC o:=by
 apply List.ext_getElem?
 intro j
 by_cases c:j<2
 ·rw [List.getElem?_take,if_pos c,List.getElem?_drop,wk_get h c]
 ·rw [List.getElem?_eq_none (by rw [List.length_take]; omega),List.getElem?_eq_none (by rw [woC_len]; omega)]
structure WkOk (n:Nat) (A:List Wone) (on:List Int):Prop where
 len:A.length=256
 rng:∀ o∈A,0≤o.prog∧o.prog≤16
 on32:on.length=32
 onr:∀ x∈on,0≤x∧x≤(n:Int)
theorem WkOk.set {n:Nat} {A:List Wone} {on:List Int} (h:WkOk n A on) (i:Nat) {o:Wone} (hp:0≤o.prog∧o.prog≤16):WkOk n (A.set i o) on:=⟨by rw [List.length_set,h.len],fun x hx=>by
 rcases List.mem_or_eq_of_mem_set hx with hx | rfl
 ·exact h.rng x hx
 ·exact hp,h.on32,h.onr⟩
theorem WkOk.at {n:Nat} {A:List Wone} {on:List Int} (h:WkOk n A on) {i:Nat} (hi:i<256):∃ o,A[i]?=some o:=⟨_,List.getElem?_eq_getElem (by rw [h.len]; exact hi)⟩
inductive WorkH (wb n:Nat) (Q Rs:List (Int × Int)) (As:List Wone) (on:List Int):Heap→Prop
 | mk {pb:Nat} {HP:Heap} (hP:PendH pb n Q Rs HP) (hA:WkOk n As on) (hn:n≤64):WorkH wb n Q Rs As on ((wb,.cells 179 546 (wkRow pb n As on))::HP)
def setW (prog:Int) (o:Wone):Wone × Int:=if o.shut=true then (o,22) else ({ o with prog:=prog+1 },0)
theorem sameW {As:List Wone} {i:Nat} {o:Wone} (h:As[i]?=some o):As.set i o=As:=by
 apply List.ext_getElem?
 intro j
 by_cases c:i=j
 ·subst c; rw [List.getElem?_set_self (List.getElem?_eq_some_iff.1 h).1,h]
 ·rw [List.getElem?_set_ne c]
theorem wwith_lo {wb:Nat} {id:Int} {f:Value} (hi:id<0):Pure Tryz.prog (fun _=>True) 95 [.pointer (some ⟨wb,0,none⟩),.int .i64 id,f] (.int .i64 2):=by
 intro w0 H hT
 refine L_enter Tryz.func95 rfl Tryz.ntmps95 rfl rfl ?_
 refine W_sr (W_assign rfl rfl (W_nil (W_seq (W_block (W_sr (W_move rfl rfl ?_))))))
 refine W_x (X_ptrNil rfl rfl ty67) (fun _ h=>by cases h) rfl ?_
 refine W_assign rfl rfl (W_nil (W_condF rfl rfl (W_sr (W_move rfl rfl (W_bin rfl rfl b_lss rfl ?_)))))
 first | rw [decide_eq_true (by omega)] | rw [decide_eq_false (by omega)]
 refine W_move rfl rfl (W_gno rfl rfl rfl ?_)
 refine W_gno rfl rfl rfl ?_
 first | refine W_pickt rfl rfl rfl ?_ | refine W_pickf rfl rfl rfl ?_
 refine W_assign rfl rfl (W_nil (W_condT rfl rfl (W_sr (W_assign rfl rfl (W_nil (W_ret1m (H2:=H) Tryz.results95 rfl (.nil _) zH ?_))))))
 exact ⟨rfl,rfl⟩
theorem wwith_hi {wb:Nat} {id:Int} {f:Value} (hi:256≤id):Pure Tryz.prog (fun _=>True) 95 [.pointer (some ⟨wb,0,none⟩),.int .i64 id,f] (.int .i64 2):=by
 intro w0 H hT
 refine L_enter Tryz.func95 rfl Tryz.ntmps95 rfl rfl ?_
 refine W_sr (W_assign rfl rfl (W_nil (W_seq (W_block (W_sr (W_move rfl rfl ?_))))))
 refine W_x (X_ptrNil rfl rfl ty67) (fun _ h=>by cases h) rfl ?_
 refine W_assign rfl rfl (W_nil (W_condF rfl rfl (W_sr (W_move rfl rfl (W_bin rfl rfl b_lss rfl ?_)))))
 first | rw [decide_eq_true (by omega)] | rw [decide_eq_false (by omega)]
 refine W_move rfl rfl (W_gyes rfl rfl (W_move rfl rfl (W_gyes rfl rfl (W_bin rfl rfl b_geq rfl ?_))))
 first | rw [decide_eq_true (by omega)] | rw [decide_eq_false (by omega)]
 first | refine W_pickt rfl rfl rfl ?_ | refine W_pickf rfl rfl rfl ?_
 refine W_assign rfl rfl (W_nil (W_condT rfl rfl (W_sr (W_assign rfl rfl (W_nil (W_ret1m (H2:=H) Tryz.results95 rfl (.nil _) zH ?_))))))
 exact ⟨rfl,rfl⟩
theorem wwith_out {wb:Nat} {id:Int} {f:Value} (hi:¬ (0≤id∧id<256)):Pure Tryz.prog (fun _=>True) 95 [.pointer (some ⟨wb,0,none⟩),.int .i64 id,f] (.int .i64 2):=by
 by_cases h:id<0
 ·exact wwith_lo h
 ·exact wwith_hi zO
theorem wwith_in {w0:World} {H:Heap} {wb i fi:Nat} {ca:List Value} {R:Value→Heap→Prop} (hfi:∀ (args:Array Value) (w:World),(callFunc fi args).run Tryz.prog w=.ok (.enter fi args) w) (hi:i<256) (hdo:LCalls Tryz.prog w0 fi (#[]++#[.pointer (some ⟨wb,2+i*2,none⟩)]++ca.toArray) H R) (hE:∀ v H2,R v H2→∃ e,v=.int .i64 e) :LCalls Tryz.prog w0 95 #[.pointer (some ⟨wb,0,none⟩),.int .i64 (i:Int),Value.func (.func fi) #[] ca.toArray] (H) (R):=by
 refine L_enter (l:=[.pointer (some ⟨wb,0,none⟩),.int .i64 (i:Int),Value.func (.func fi) #[] ca.toArray]) Tryz.func95 rfl Tryz.ntmps95 rfl rfl ?_
 refine W_sr (W_assign rfl rfl (W_nil (W_seq (W_block (W_sr (W_move rfl rfl ?_))))))
 refine W_x (X_ptrNil rfl rfl ty67) (fun _ h=>by cases h) rfl ?_
 refine W_assign rfl rfl (W_nil (W_condF rfl rfl (W_sr (W_move rfl rfl (W_bin rfl rfl b_lss rfl ?_)))))
 first | rw [decide_eq_true (by omega)] | rw [decide_eq_false (by omega)]
 refine W_move rfl rfl (W_gyes rfl rfl (W_move rfl rfl (W_gyes rfl rfl (W_bin rfl rfl b_geq rfl ?_))))
 first | rw [decide_eq_true (by omega)] | rw [decide_eq_false (by omega)]
 first | refine W_pickt rfl rfl rfl ?_ | refine W_pickf rfl rfl rfl ?_
 refine W_assign rfl rfl (W_nil (W_condF rfl rfl (W_skip (W_blk (W_sr (W_move rfl rfl (W_move rfl rfl ?_)))))))
 refine W_move rfl rfl (W_nilCheck rfl rfl (W_fieldAddr rfl fld179_2 zd rfl ?_))
 refine W_indexAddrA (j:=i) rfl rfl ty177 ty176 (by first | rfl | omega) (by first | decide | omega | simp) rfl rfl ?_
 refine W_callv (fa:=#[]) (ca:=ca.toArray) rfl (.cons rfl .nil) hfi rfl (hdo) ?_
 rintro v H' hR
 refine W_assign rfl rfl (W_nil (W_ret1m (H2:=H') Tryz.results95 rfl (.nil _) zH ?_))
 exact hR
theorem wset1_L {w0:World} {H:Heap} {pb n wb i:Nat} {As:List Wone} {on:List Int} {o:Wone} (hA:As[i]?=some o) {b5:Nat} {prog:Int} (hp:0≤prog∧prog<16) :LCalls Tryz.prog w0 164 #[.pointer (some ⟨wb,2+i*2,none⟩),.pointer (some ⟨b5,0,none⟩)] ((b5,.cells 3 1 [.int .i64 prog])::(wb,.cells 179 546 (wkRow pb n As on))::H) (fun v H'=>v=.int .i64 (setW prog o).2∧H'=(b5,.cells 3 1 [.int .i64 prog])::(wb,.cells 179 546 (wkRow pb n (As.set i (setW prog o).1) on))::H):=by
 refine L_enter (l:=[.pointer (some ⟨wb,2+i*2,none⟩),.pointer (some ⟨b5,0,none⟩)]) Tryz.func164 rfl Tryz.ntmps164 rfl rfl ?_
 refine W_sr (W_assign rfl rfl (W_nil (W_seq (W_block (W_sr (W_load (v:=.int .i64 prog) rfl ty3 rfl (Cell.own (b:=b5) zM rfl) rfl ?_))))))
 refine W_bin rfl rfl b_lss rfl ?_
 first | rw [decide_eq_true (by omega)] | rw [decide_eq_false (by omega)]
 refine W_move rfl rfl (W_gyes rfl rfl (W_load (v:=.int .i64 prog) rfl ty3 rfl (Cell.own (b:=b5) zM rfl) rfl ?_))
 refine W_gyes rfl rfl (W_bin rfl rfl b_geq rfl ?_)
 first | rw [decide_eq_true (by omega)] | rw [decide_eq_false (by omega)]
 first | refine W_pickt rfl rfl rfl ?_ | refine W_pickf rfl rfl rfl ?_
 refine W_assign rfl rfl (W_nil (W_condF rfl rfl (W_sr (W_move rfl rfl (W_nilCheck rfl rfl (W_fieldAddr rfl fld176_0 zd rfl ?_))))))
 refine W_load (v:=.bool o.shut) rfl ty4 rfl (Cell.own (b:=wb) zM (wk_get0 hA)) rfl ?_
 refine W_assign rfl rfl (W_nil ?_)
 refine W_condPS (p:=o.shut=true) rfl (by simp) (fun q1=>?_) (fun q1=>?_)
 ·skip
  refine W_sr (W_assign rfl rfl (W_nil (W_ret1m Tryz.results164 rfl (.nil _) (.refl _) ?_)))
  rw [show setW prog o=(o,22) from if_pos q1,sameW hA]
  exact ⟨rfl,rfl⟩
 ·skip
  refine W_skip (W_blk (W_sr (W_move rfl rfl (W_load (v:=.int .i64 prog) rfl ty3 rfl (Cell.own (b:=b5) zM rfl) rfl ?_))))
  refine W_bin rfl rfl (b_add (m:=prog+1) (i64w zO)) rfl ?_
  refine W_nilCheck rfl rfl (W_fieldAddr rfl fld176_1 zd rfl ?_)
  refine W_store (l':=wkRow pb n (As.set i { o with prog:=prog+1 }) on) rfl rfl ty3 rfl rfl (b:=wb) zM (wk_lt hA zd) (wk_set1 hA) zU ?_
  refine W_nil (W_sr (W_assign rfl rfl (W_nil (W_ret1m Tryz.results164 rfl (.nil _) (.refl _) ?_))))
  rw [show setW prog o=({ o with prog:=prog+1 },0) from if_neg q1]
  exact ⟨rfl,rfl⟩
theorem wSet_at {w0:World} {H:Heap} {pb n wb i:Nat} {As:List Wone} {on:List Int} {o:Wone} (hA:As[i]?=some o) (hi:i<256) {prog:Int} (hp:0≤prog∧prog<16) :LCalls Tryz.prog w0 75 #[.pointer (some ⟨wb,0,none⟩),.int .i64 (i:Int),.int .i64 prog] ((wb,.cells 179 546 (wkRow pb n As on))::H) (fun v H'=>v=.int .i64 (setW prog o).2∧H'=(wb,.cells 179 546 (wkRow pb n (As.set i (setW prog o).1) on))::H):=by
 refine L_enter (l:=[.pointer (some ⟨wb,0,none⟩),.int .i64 (i:Int),.int .i64 prog]) Tryz.func75 rfl Tryz.ntmps75 rfl rfl ?_
 refine W_sr ?_
 refine W_box (l:=[.int .i64 prog]) rfl rfl rfl (fun b5=>?_)
 refine W_assign rfl rfl (W_nil (W_sr (W_move rfl rfl (W_move rfl rfl (W_makeFunc .nil (.cons rfl .nil) rfl ?_)))))
 refine W_call (.cons rfl (.cons rfl (.cons rfl .nil))) Tryz.call95 rfl ((wwith_in (i:=i) (fi:=164) (ca:=[.pointer (some ⟨b5,0,none⟩)]) Tryz.call164 hi (wset1_L (b5:=b5) hA hp (H:=H)) ?_).hsub zH) ?_
 ·rintro v H2 ⟨e,_⟩
  exact ⟨_,e⟩
 rintro v H' ⟨rfl,rfl⟩
 refine W_assign rfl rfl (W_nil (W_ret1m (H2:=(wb,.cells 179 546 (wkRow pb n (As.set i (setW prog o).1) on))::H) Tryz.results75 rfl (.nil _) zH ?_))
 exact ⟨rfl,rfl⟩
theorem wdels_one (Q:List (Int × Int)) (z:Int):delsQ Q [z]=(delQ Q z,if (whQ Q z).isSome=true then 1 else 0):=by
 unfold delsQ; simp
theorem wshut1_L {w0:World} {H:Heap} {HP:Heap} {pb n wb:Nat} {Q Rs:List (Int × Int)} {As:List Wone} {on:List Int} (hP:PendH pb n Q Rs HP) (hn:n≤64) {i:Nat} {o:Wone} (hA:As[i]?=some o) {b5 b2 b7:Nat} {c:Int} (hc:0≤c∧c≤1000) :LCalls Tryz.prog w0 244 #[.pointer (some ⟨wb,2+i*2,none⟩),.pointer (some ⟨b5,0,none⟩),.pointer (some ⟨b2,0,none⟩),.pointer (some ⟨b7,0,none⟩)] ((b5,.cells 3 1 [.int .i64 c])::(b2,.cells 67 1 [.pointer (some ⟨wb,0,none⟩)])::(b7,.cells 3 1 [.int .i64 (i:Int)])::(wb,.cells 179 546 (wkRow pb n As on))::(HP++H)) (fun v H'=>∃ HP2,PendH pb n (delQ Q (i:Int)) Rs HP2∧v=.int .i64 0∧H'=(b5,.cells 3 1 [.int .i64 (if o.shut=true then c else c+1)])::(b2,.cells 67 1 [.pointer (some ⟨wb,0,none⟩)])::(b7,.cells 3 1 [.int .i64 (i:Int)])::(wb,.cells 179 546 (wkRow pb n (As.set i { o with shut:=true }) on))::(HP2++H)):=by
 refine L_enter (l:=[.pointer (some ⟨wb,2+i*2,none⟩),.pointer (some ⟨b5,0,none⟩),.pointer (some ⟨b2,0,none⟩),.pointer (some ⟨b7,0,none⟩)]) Tryz.func244 rfl Tryz.ntmps244 rfl rfl ?_
 refine W_sr (W_assign rfl rfl (W_nil (W_seq (W_sr (W_move rfl rfl (W_nilCheck rfl rfl (W_fieldAddr rfl fld176_0 zd rfl ?_)))))))
 refine W_load (v:=.bool o.shut) rfl ty4 rfl (Cell.own (b:=wb) zM (wk_get0 hA)) rfl ?_
 refine W_not rfl rfl ?_
 refine W_nil ?_
 refine W_condPS (p:=o.shut=false) rfl (by simp) (fun q0=>?_) (fun q0=>?_)
 ·skip
  refine W_region (W_load (v:=.int .i64 c) rfl ty3 rfl (Cell.own (b:=b5) zM rfl) rfl ?_)
  refine W_bin rfl rfl (b_add (m:=c+1) (i64w zO)) rfl ?_
  refine W_store (l':=[.int .i64 (c+1)]) rfl rfl ty3 rfl rfl (b:=b5) zM rfl rfl zU ?_
  refine W_nil (W_seq ?_)
  refine W_anyC [(b2,.cells 67 1 [.pointer (some ⟨wb,0,none⟩)]),(b7,.cells 3 1 [.int .i64 (i:Int)]),(wb,.cells 179 546 (wkRow pb n As on))] zk ?_
  refine WC_take 0 rfl zK zK zK rfl rfl (X_load (v:=.pointer (some ⟨wb,0,none⟩)) rfl ty67 rfl (Cell.own (b:=b2) zM rfl)) rfl ?_
  refine WC_take 1 rfl zK zK zK rfl rfl (X_nilCheck rfl) rfl ?_
  refine WC_take 2 rfl zK zK zK rfl rfl (X_fieldAddr rfl fld179_0 zd) rfl ?_
  refine WC_take 3 rfl zK zK zK rfl rfl (X_load (v:=.pointer (some ⟨pb,0,none⟩)) rfl ty166 rfl (Cell.own (b:=wb) zM rfl)) rfl ?_
  refine WC_take 4 rfl zK zK zK rfl rfl (X_load (v:=.int .i64 (i:Int)) rfl ty3 rfl (Cell.own (b:=b7) zM rfl)) rfl ?_
  refine WC_one 5 zH zK rfl rfl ?_
  refine W_buildSlice (l:=[.int .i64 (i:Int)]) ty63 ty3 (.cons rfl rfl rfl rfl rfl .nil) rfl rfl rfl rfl rfl rfl rfl (fun b18=>?_)
  refine W_nil ?_
  refine WC_goal ?_
  refine WC_one 6 zH zK rfl rfl ?_
  refine W_call (.cons rfl (.cons rfl .nil)) Tryz.call179 rfl ((pDel_L hP hn (ids:=[(i:Int)]) (ad:=some ⟨b18,0,none⟩) (cap:=1) (by show 1≤1000000; decide) (Holds.own (b:=b18) zM) (H:=(b18,.cells 3 1 [.int .i64 (i:Int)])::(b5,.cells 3 1 [.int .i64 (c+1)])::(b2,.cells 67 1 [.pointer (some ⟨wb,0,none⟩)])::(b7,.cells 3 1 [.int .i64 (i:Int)])::(wb,.cells 179 546 (wkRow pb n As on))::H)).hsub zH) ?_
  rintro v H' ⟨HP2,hP2,rfl,rfl⟩
  rw [wdels_one] at hP2
  refine W_nil ?_
  refine WC_goal ?_
  refine WC_done zH zK ?_
  refine W_sr (W_move rfl rfl (W_nilCheck rfl rfl (W_fieldAddr rfl fld176_0 zd rfl ?_)))
  refine W_store (l':=wkRow pb n (As.set i { o with shut:=true }) on) rfl rfl ty4 rfl rfl (b:=wb) zM (wk_lt hA zd) (wk_set0 hA) zU ?_
  refine W_nil (W_sr (W_assign rfl rfl (W_nil (W_ret1m (H2:=(b5,.cells 3 1 [.int .i64 (c+1)])::(b2,.cells 67 1 [.pointer (some ⟨wb,0,none⟩)])::(b7,.cells 3 1 [.int .i64 (i:Int)])::(wb,.cells 179 546 (wkRow pb n (As.set i { o with shut:=true }) on))::(HP2++H)) Tryz.results244 rfl (.nil _) zH ?_))))
  refine ⟨HP2,hP2,rfl,?_⟩
  rw [if_neg (by rw [q0]; decide)]
 ·skip
  refine W_skip (W_seq ?_)
  refine W_anyC [(b2,.cells 67 1 [.pointer (some ⟨wb,0,none⟩)]),(b7,.cells 3 1 [.int .i64 (i:Int)]),(wb,.cells 179 546 (wkRow pb n As on))] zk ?_
  refine WC_take 0 rfl zK zK zK rfl rfl (X_load (v:=.pointer (some ⟨wb,0,none⟩)) rfl ty67 rfl (Cell.own (b:=b2) zM rfl)) rfl ?_
  refine WC_take 1 rfl zK zK zK rfl rfl (X_nilCheck rfl) rfl ?_
  refine WC_take 2 rfl zK zK zK rfl rfl (X_fieldAddr rfl fld179_0 zd) rfl ?_
  refine WC_take 3 rfl zK zK zK rfl rfl (X_load (v:=.pointer (some ⟨pb,0,none⟩)) rfl ty166 rfl (Cell.own (b:=wb) zM rfl)) rfl ?_
  refine WC_take 4 rfl zK zK zK rfl rfl (X_load (v:=.int .i64 (i:Int)) rfl ty3 rfl (Cell.own (b:=b7) zM rfl)) rfl ?_
  refine WC_one 5 zH zK rfl rfl ?_
  refine W_buildSlice (l:=[.int .i64 (i:Int)]) ty63 ty3 (.cons rfl rfl rfl rfl rfl .nil) rfl rfl rfl rfl rfl rfl rfl (fun b18=>?_)
  refine W_nil ?_
  refine WC_goal ?_
  refine WC_one 6 zH zK rfl rfl ?_
  refine W_call (.cons rfl (.cons rfl .nil)) Tryz.call179 rfl ((pDel_L hP hn (ids:=[(i:Int)]) (ad:=some ⟨b18,0,none⟩) (cap:=1) (by show 1≤1000000; decide) (Holds.own (b:=b18) zM) (H:=(b18,.cells 3 1 [.int .i64 (i:Int)])::(b5,.cells 3 1 [.int .i64 c])::(b2,.cells 67 1 [.pointer (some ⟨wb,0,none⟩)])::(b7,.cells 3 1 [.int .i64 (i:Int)])::(wb,.cells 179 546 (wkRow pb n As on))::H)).hsub zH) ?_
  rintro v H' ⟨HP2,hP2,rfl,rfl⟩
  rw [wdels_one] at hP2
  refine W_nil ?_
  refine WC_goal ?_
  refine WC_done zH zK ?_
  refine W_sr (W_move rfl rfl (W_nilCheck rfl rfl (W_fieldAddr rfl fld176_0 zd rfl ?_)))
  refine W_store (l':=wkRow pb n (As.set i { o with shut:=true }) on) rfl rfl ty4 rfl rfl (b:=wb) zM (wk_lt hA zd) (wk_set0 hA) zU ?_
  refine W_nil (W_sr (W_assign rfl rfl (W_nil (W_ret1m (H2:=(b5,.cells 3 1 [.int .i64 c])::(b2,.cells 67 1 [.pointer (some ⟨wb,0,none⟩)])::(b7,.cells 3 1 [.int .i64 (i:Int)])::(wb,.cells 179 546 (wkRow pb n (As.set i { o with shut:=true }) on))::(HP2++H)) Tryz.results244 rfl (.nil _) zH ?_))))
  refine ⟨HP2,hP2,rfl,?_⟩
  rw [if_pos (by simpa using q0)]
theorem wShut_at {w0:World} {H:Heap} {HP:Heap} {pb n wb:Nat} {Q Rs:List (Int × Int)} {As:List Wone} {on:List Int} (hP:PendH pb n Q Rs HP) (hn:n≤64) {i:Nat} {o:Wone} (hA:As[i]?=some o) (hi:i<256) {ad:Option Addr} {cap:Nat} (hrow:Holds w0 H ad [.int .i64 (i:Int)]) :LCalls Tryz.prog w0 151 #[.pointer (some ⟨wb,0,none⟩),.slice ad 1 cap] ((wb,.cells 179 546 (wkRow pb n As on))::(HP++H)) (fun v H'=>∃ HP2,PendH pb n (delQ Q (i:Int)) Rs HP2∧(∃ m,v=.int .i64 m)∧H'=(wb,.cells 179 546 (wkRow pb n (As.set i { o with shut:=true }) on))::(HP2++H)):=by
 refine L_enter (l:=[.pointer (some ⟨wb,0,none⟩),.slice ad 1 cap]) Tryz.func151 rfl Tryz.ntmps151 rfl rfl ?_
 refine W_sr ?_
 refine W_box (l:=[.pointer (some ⟨wb,0,none⟩)]) rfl rfl rfl (fun b2=>?_)
 refine W_assign rfl rfl (W_nil (W_sr ?_))
 refine W_alloc (l:=[.int .i64 0]) ty3 rfl rfl (fun b5=>?_)
 refine W_store (l':=[.int .i64 0]) rfl rfl ty3 rfl rfl (b:=b5) zM rfl rfl zU ?_
 refine W_nil (W_seq (W_sr (W_move rfl rfl (W_len rfl ty63 rfl rfl ?_))))
 refine W_move rfl rfl (W_nil (W_block ?_))
 refine W_loopC (X:=(Nat × List Wone × List (Int × Int) × Heap × Int)) [(2,_),(5,_),(8,_),(9,_)] (fun (z:(Nat × List Wone × List (Int × Int) × Heap × Int))=>[(10,.int .i64 (z.1:Int))]) (fun _=>_) (fun (z:(Nat × List Wone × List (Int × Int) × Heap × Int))=>(b5,.cells 3 1 [.int .i64 z.2.2.2.2])::(b2,.cells 67 1 [.pointer (some ⟨wb,0,none⟩)])::(wb,.cells 179 546 (wkRow pb n z.2.1 on))::(z.2.2.2.1++H)) (fun (z:(Nat × List Wone × List (Int × Int) × Heap × Int))=>z.1≤1∧(z.1=0→z.2.1=As∧z.2.2.1=Q∧z.2.2.2.2=0)∧(z.1=1→z.2.1=As.set i { o with shut:=true }∧z.2.2.1=delQ Q (i:Int)∧z.2.2.2.2=(if o.shut=true then 0 else 0+1))∧PendH pb n z.2.2.1 Rs z.2.2.2.1) (fun (z:(Nat × List Wone × List (Int × Int) × Heap × Int))=>1-z.1) (0,As,Q,HP,0) ⟨Nat.zero_le _,fun _=>⟨rfl,rfl,rfl⟩,fun h=>(by cases h),hP⟩ (sub_cons rfl (sub_cons rfl (sub_cons rfl (sub_cons rfl (sub_nil _))))) (sub_cons rfl (sub_nil _)) rfl zH ?_
 rintro ⟨k,A1,Q1,HP1,c1⟩ ⟨hk,h0,h1,hP1⟩
 dsimp only at hk h0 h1 hP1 ⊢
 simp only [List.cons_append,List.nil_append]
 refine W_sr (W_bin rfl rfl b_lss rfl ?_)
 refine W_nil (W_seq ?_)
 refine W_condPS (p:=k<1) rfl (by rw [decide_eq_true_eq]; omega) (fun q0=>?_) (fun q0=>?_)
 ·skip
  refine W_skip (W_seq (W_block (W_sr ?_)))
  obtain rfl:k=0:=by omega
  obtain ⟨e1,e2,rfl⟩:=h0 rfl
  obtain rfl:=e1.symm
  obtain rfl:=e2.symm
  obtain ⟨q0_,p0_,rfl,hc⟩:=hrow.at (i:=0) (v:=.int .i64 (i:Int)) rfl
  refine W_indexAddr (j:=0) rfl rfl ty63 ty3 rfl zd rfl rfl ?_
  refine W_load (v:=.int .i64 (i:Int)) rfl ty3 rfl (by exact hc.up zH) rfl ?_
  refine W_alloc (l:=[.int .i64 0]) ty3 rfl rfl (fun b7=>?_)
  refine W_store (l':=[.int .i64 (i:Int)]) rfl rfl ty3 rfl rfl (b:=b7) zM rfl rfl zU ?_
  refine W_nil (W_region (W_load (v:=.pointer (some ⟨wb,0,none⟩)) rfl ty67 rfl (Cell.own (b:=b2) zM rfl) rfl ?_))
  refine W_load (v:=.int .i64 (i:Int)) rfl ty3 rfl (Cell.own (b:=b7) zM rfl) rfl ?_
  refine W_makeFunc .nil (.cons rfl (.cons rfl (.cons rfl .nil))) rfl ?_
  refine W_call (.cons rfl (.cons rfl (.cons rfl .nil))) Tryz.call95 rfl ((wwith_in (i:=i) (fi:=244) (ca:=[.pointer (some ⟨b5,0,none⟩),.pointer (some ⟨b2,0,none⟩),.pointer (some ⟨b7,0,none⟩)]) Tryz.call244 hi (wshut1_L (b5:=b5) (b2:=b2) (b7:=b7) hP1 hn hA (c:=0) zd (H:=H)) ?_).hsub zH) ?_
  ·rintro v H2 ⟨_,_,e,_⟩
   exact ⟨_,e⟩
  rintro v H' ⟨HP2,hP2,rfl,rfl⟩
  refine W_nil (W_blk (W_region (W_bin rfl rfl (b_add (m:=1) rfl) rfl ?_)))
  refine W_move rfl rfl (W_nil ?_)
  refine W_again (1,As.set i { o with shut:=true },delQ Q (i:Int),HP2,(if o.shut=true then 0 else 0+1)) ⟨Nat.le_refl _,fun h=>(by cases h),fun _=>⟨rfl,rfl,rfl⟩,hP2⟩ (by show 1-1<1-0; decide) (sub_cons rfl (sub_cons rfl (sub_cons rfl (sub_cons rfl (sub_cons rfl (sub_nil _)))))) rfl zH
 ·skip
  refine W_exit rfl ?_
  refine W_sr (W_load (v:=.int .i64 c1) rfl ty3 rfl (Cell.own (b:=b5) zM rfl) rfl ?_)
  refine W_assign rfl rfl (W_nil (W_ret1m (H2:=(wb,.cells 179 546 (wkRow pb n A1 on))::(HP1++H)) Tryz.results151 rfl (.nil _) zH ?_))
  obtain rfl:k=1:=by omega
  obtain ⟨rfl,rfl,rfl⟩:=h1 rfl
  exact ⟨HP1,hP1,⟨_,rfl⟩,rfl⟩
def clearW (Q Rs:List (Int × Int)) (As:List Wone) (i:Nat):List (Int × Int) × List Wone × Int:=if (inR Rs (i:Int)).isSome=true then (Q,As,21) else (delQ Q (i:Int),As.set i zWone,0)
theorem clearW_busy {Q Rs:List (Int × Int)} {As:List Wone} {i:Nat} {c:Int} (h:inR Rs (i:Int)=some c):clearW Q Rs As i=(Q,As,21):=by unfold clearW; rw [h]; rfl
theorem clearW_ok {Q Rs:List (Int × Int)} {As:List Wone} {i:Nat} (h:inR Rs (i:Int)=none):clearW Q Rs As i=(delQ Q (i:Int),As.set i zWone,0):=by unfold clearW; rw [h]; rfl
theorem mem_exW {p x:Nat × Blk} {X Y:Heap} (hp:p∈X):p∈x::(X++Y):=List.mem_cons_of_mem _ (List.mem_append_left _ hp)
theorem winner_q {w0:World} {H:Heap} {wb pb n:Nat} {As:List Wone} {on:List Int} (hm:(wb,.cells 179 546 (wkRow pb n As on))∈H) :PureAt Tryz.prog w0 H 124 [.pointer (some ⟨wb,0,none⟩)] (.pointer (some ⟨pb,0,none⟩)):=by
 refine L_enter Tryz.func124 rfl Tryz.ntmps124 rfl rfl ?_
 refine W_sr (W_assign rfl rfl (W_nil (W_seq (W_sr (W_move rfl rfl ?_)))))
 refine W_x (X_ptrNil rfl rfl ty67) (fun _ h=>by cases h) rfl ?_
 refine W_nil (W_condF rfl rfl (W_skip (W_sr (W_move rfl rfl (W_nilCheck rfl rfl (W_fieldAddr rfl fld179_0 zd rfl ?_))))))
 refine W_load (v:=.pointer (some ⟨pb,0,none⟩)) rfl ty166 rfl (Cell.own (b:=wb) hm rfl) rfl ?_
 refine W_assign rfl rfl (W_nil (W_ret1m (H2:=H) Tryz.results124 rfl (.nil _) zH ?_))
 exact ⟨rfl,rfl⟩
theorem wRuns_q {w0:World} {H:Heap} {HP:Heap} {wb pb n:Nat} {Q Rs:List (Int × Int)} {As:List Wone} {on:List Int} (hP:PendH pb n Q Rs HP) (hm:(wb,.cells 179 546 (wkRow pb n As on))∈H) (hq:∀ p∈HP,p∈H) {id:Int} :PureAt Tryz.prog w0 H 158 [.pointer (some ⟨wb,0,none⟩),.int .i64 id] (optV (inR Rs id)):=by
 refine L_enter Tryz.func158 rfl Tryz.ntmps158 rfl rfl ?_
 refine W_sr (W_assign rfl rfl (W_assign rfl rfl (W_nil (W_sr (W_move rfl rfl (W_callq (.cons rfl .nil) Tryz.call124 rfl (winner_q hm) ?_))))))
 refine W_move rfl rfl (W_callq (.cons rfl (.cons rfl .nil)) Tryz.call252 rfl (hP.Runs_q hq (id:=id)) ?_)
 rcases hir:inR Rs id with _ | cx
 ·skip
  rw [show optV none=.tuple #[.int .i64 0,.bool false] from rfl]
  refine W_extract rfl rfl rfl (W_extract rfl rfl rfl (W_assign rfl rfl (W_assign rfl rfl (W_nil (W_ret2m (H2:=H) Tryz.results158 rfl rfl (.nil _) zH ?_)))))
  exact ⟨rfl,rfl⟩
 ·skip
  rw [show optV (some cx)=.tuple #[.int .i64 cx,.bool true] from rfl]
  refine W_extract rfl rfl rfl (W_extract rfl rfl rfl (W_assign rfl rfl (W_assign rfl rfl (W_nil (W_ret2m (H2:=H) Tryz.results158 rfl rfl (.nil _) zH ?_)))))
  exact ⟨rfl,rfl⟩
theorem wclear1_L {w0:World} {H:Heap} {HP:Heap} {pb n wb:Nat} {Q Rs:List (Int × Int)} {As:List Wone} {on:List Int} (hP:PendH pb n Q Rs HP) (hn:n≤64) {i:Nat} {o:Wone} (hA:As[i]?=some o) {b2 b3:Nat} :LCalls Tryz.prog w0 258 #[.pointer (some ⟨wb,2+i*2,none⟩),.pointer (some ⟨b2,0,none⟩),.pointer (some ⟨b3,0,none⟩)] ((b2,.cells 67 1 [.pointer (some ⟨wb,0,none⟩)])::(b3,.cells 3 1 [.int .i64 (i:Int)])::(wb,.cells 179 546 (wkRow pb n As on))::(HP++H)) (fun v H'=>∃ HP2,PendH pb n (clearW Q Rs As i).1 Rs HP2∧v=.int .i64 (clearW Q Rs As i).2.2∧H'=(b2,.cells 67 1 [.pointer (some ⟨wb,0,none⟩)])::(b3,.cells 3 1 [.int .i64 (i:Int)])::(wb,.cells 179 546 (wkRow pb n (clearW Q Rs As i).2.1 on))::(HP2++H)):=by
 have hil:=(List.getElem?_eq_some_iff.1 hA).1
 refine L_enter (l:=[.pointer (some ⟨wb,2+i*2,none⟩),.pointer (some ⟨b2,0,none⟩),.pointer (some ⟨b3,0,none⟩)]) Tryz.func258 rfl Tryz.ntmps258 rfl rfl ?_
 refine W_sr (W_assign rfl rfl (W_nil (W_seq (W_sr (W_load (v:=.pointer (some ⟨wb,0,none⟩)) rfl ty67 rfl (Cell.own (b:=b2) zM rfl) rfl ?_)))))
 refine W_load (v:=.int .i64 (i:Int)) rfl ty3 rfl (Cell.own (b:=b3) zM rfl) rfl ?_
 refine W_callq (.cons rfl (.cons rfl .nil)) Tryz.call158 rfl (wRuns_q (id:=(i:Int)) hP (As:=As) (on:=on) zM (fun p hp=>List.mem_cons_of_mem _ (List.mem_cons_of_mem _ (mem_exW hp)))) ?_
 rcases hir:inR Rs (i:Int) with _ | cx
 ·skip
  rw [show optV none=.tuple #[.int .i64 0,.bool false] from rfl]
  refine W_move rfl rfl (W_extract rfl rfl rfl (W_extract rfl rfl rfl (W_assign rfl rfl (W_assign rfl rfl (W_nil (W_sr (W_move rfl rfl (W_nil ?_))))))))
  refine W_condF rfl rfl (W_skip (W_seq ?_))
  refine W_anyC [(b2,.cells 67 1 [.pointer (some ⟨wb,0,none⟩)]),(b3,.cells 3 1 [.int .i64 (i:Int)]),(wb,.cells 179 546 (wkRow pb n As on))] zk ?_
  refine WC_take 0 rfl zK zK zK rfl rfl (X_load (v:=.pointer (some ⟨wb,0,none⟩)) rfl ty67 rfl (Cell.own (b:=b2) zM rfl)) rfl ?_
  refine WC_take 1 rfl zK zK zK rfl rfl (X_nilCheck rfl) rfl ?_
  refine WC_take 2 rfl zK zK zK rfl rfl (X_fieldAddr rfl fld179_0 zd) rfl ?_
  refine WC_take 3 rfl zK zK zK rfl rfl (X_load (v:=.pointer (some ⟨pb,0,none⟩)) rfl ty166 rfl (Cell.own (b:=wb) zM rfl)) rfl ?_
  refine WC_take 4 rfl zK zK zK rfl rfl (X_load (v:=.int .i64 (i:Int)) rfl ty3 rfl (Cell.own (b:=b3) zM rfl)) rfl ?_
  refine WC_one 5 zH zK rfl rfl ?_
  refine W_buildSlice (l:=[.int .i64 (i:Int)]) ty63 ty3 (.cons rfl rfl rfl rfl rfl .nil) rfl rfl rfl rfl rfl rfl rfl (fun b19=>?_)
  refine W_nil ?_
  refine WC_goal ?_
  refine WC_one 6 zH zK rfl rfl ?_
  refine W_call (.cons rfl (.cons rfl .nil)) Tryz.call179 rfl ((pDel_L hP hn (ids:=[(i:Int)]) (ad:=some ⟨b19,0,none⟩) (cap:=1) (by show 1≤1000000; decide) (Holds.own (b:=b19) zM) (H:=(b19,.cells 3 1 [.int .i64 (i:Int)])::(b2,.cells 67 1 [.pointer (some ⟨wb,0,none⟩)])::(b3,.cells 3 1 [.int .i64 (i:Int)])::(wb,.cells 179 546 (wkRow pb n As on))::H)).hsub zH) ?_
  rintro v H' ⟨HP2,hP2,rfl,rfl⟩
  rw [wdels_one] at hP2
  refine W_nil ?_
  refine WC_goal ?_
  refine WC_done zH zK ?_
  refine W_sr (W_move rfl rfl (W_build (l:=woC zWone) ty176 pl176 .nil rfl rfl rfl ?_))
  refine W_nilCheck rfl rfl ?_
  refine W_storeA (l':=wkRow pb n (As.set i zWone) on) rfl rfl ty176 rfl rfl (b:=wb) zM (by show 2+i*2+2≤(wkRow pb n As on).length; rw [wk_len]; omega) (wk_spl (o':=zWone) hil) zU ?_
  refine W_nil (W_sr (W_assign rfl rfl (W_nil (W_ret1m (H2:=(b2,.cells 67 1 [.pointer (some ⟨wb,0,none⟩)])::(b3,.cells 3 1 [.int .i64 (i:Int)])::(wb,.cells 179 546 (wkRow pb n (As.set i zWone) on))::(HP2++H)) Tryz.results258 rfl (.nil _) zH ?_))))
  rw [clearW_ok hir]
  exact ⟨HP2,hP2,rfl,rfl⟩
 ·skip
  rw [show optV (some cx)=.tuple #[.int .i64 cx,.bool true] from rfl]
  refine W_move rfl rfl (W_extract rfl rfl rfl (W_extract rfl rfl rfl (W_assign rfl rfl (W_assign rfl rfl (W_nil (W_sr (W_move rfl rfl (W_nil ?_))))))))
  refine W_condT rfl rfl (W_sr (W_assign rfl rfl (W_nil (W_ret1m (H2:=(b2,.cells 67 1 [.pointer (some ⟨wb,0,none⟩)])::(b3,.cells 3 1 [.int .i64 (i:Int)])::(wb,.cells 179 546 (wkRow pb n As on))::(HP++H)) Tryz.results258 rfl (.nil _) zH ?_))))
  rw [clearW_busy hir]
  exact ⟨HP,hP,rfl,rfl⟩
theorem wClear_at {w0:World} {H:Heap} {HP:Heap} {pb n wb:Nat} {Q Rs:List (Int × Int)} {As:List Wone} {on:List Int} (hP:PendH pb n Q Rs HP) (hn:n≤64) {i:Nat} {o:Wone} (hA:As[i]?=some o) (hi:i<256) :LCalls Tryz.prog w0 162 #[.pointer (some ⟨wb,0,none⟩),.int .i64 (i:Int)] ((wb,.cells 179 546 (wkRow pb n As on))::(HP++H)) (fun v H'=>∃ HP2,PendH pb n (clearW Q Rs As i).1 Rs HP2∧v=.int .i64 (clearW Q Rs As i).2.2∧H'=(wb,.cells 179 546 (wkRow pb n (clearW Q Rs As i).2.1 on))::(HP2++H)):=by
 refine L_enter (l:=[.pointer (some ⟨wb,0,none⟩),.int .i64 (i:Int)]) Tryz.func162 rfl Tryz.ntmps162 rfl rfl ?_
 refine W_sr ?_
 refine W_box (l:=[.pointer (some ⟨wb,0,none⟩)]) rfl rfl rfl (fun b2=>?_)
 refine W_box (l:=[.int .i64 (i:Int)]) rfl rfl rfl (fun b3=>?_)
 refine W_assign rfl rfl (W_nil (W_sr (W_load (v:=.pointer (some ⟨wb,0,none⟩)) rfl ty67 rfl (Cell.own (b:=b2) zM rfl) rfl ?_)))
 refine W_load (v:=.int .i64 (i:Int)) rfl ty3 rfl (Cell.own (b:=b3) zM rfl) rfl ?_
 refine W_makeFunc .nil (.cons rfl (.cons rfl .nil)) rfl ?_
 refine W_call (.cons rfl (.cons rfl (.cons rfl .nil))) Tryz.call95 rfl ((wwith_in (i:=i) (fi:=258) (ca:=[.pointer (some ⟨b2,0,none⟩),.pointer (some ⟨b3,0,none⟩)]) Tryz.call258 hi (wclear1_L (b2:=b2) (b3:=b3) hP hn hA (H:=H)) ?_).hsub zH) ?_
 ·rintro v H2 ⟨_,_,e,_⟩
  exact ⟨_,e⟩
 rintro v H' ⟨HP2,hP2,rfl,rfl⟩
 refine W_assign rfl rfl (W_nil (W_ret1m (H2:=(wb,.cells 179 546 (wkRow pb n (clearW Q Rs As i).2.1 on))::(HP2++H)) Tryz.results162 rfl (.nil _) zH ?_))
 exact ⟨HP2,hP2,rfl,rfl⟩
theorem wof1_L {w0:World} {H:Heap} {wb pb n i:Nat} {As:List Wone} {on:List Int} {o:Wone} (hA:As[i]?=some o) (hm:(wb,.cells 179 546 (wkRow pb n As on))∈H) {b5:Nat} :LCalls Tryz.prog w0 191 #[.pointer (some ⟨wb,2+i*2,none⟩),.pointer (some ⟨b5,0,none⟩)] ((b5,.cells 176 2 (woC zWone))::H) (fun v H'=>v=.int .i64 0∧H'=(b5,.cells 176 2 (woC o))::H):=by
 refine L_enter (l:=[.pointer (some ⟨wb,2+i*2,none⟩),.pointer (some ⟨b5,0,none⟩)]) Tryz.func191 rfl Tryz.ntmps191 rfl rfl ?_
 refine W_sr (W_assign rfl rfl (W_nil (W_sr (W_move rfl rfl (W_nilCheck rfl rfl ?_)))))
 refine W_loadB (vs:=woC o) rfl ty176 rfl (b:=wb) (List.mem_cons_of_mem _ hm) (by show Nat.ble (2+i*2+2) (wkRow pb n As on).length=true; rw [wk_len,Nat.ble_eq]; have:=(List.getElem?_eq_some_iff.1 hA).1; omega) (wk_load hA) rfl ?_
 refine W_storeA (l':=woC o) rfl rfl ty176 rfl rfl (b:=b5) zM (by exact Nat.le_refl 2) rfl zU ?_
 refine W_nil (W_sr (W_assign rfl rfl (W_nil (W_ret1m (H2:=(b5,.cells 176 2 (woC o))::H) Tryz.results191 rfl (.nil _) zH ?_))))
 exact ⟨rfl,rfl⟩
theorem wof_at {w0:World} {H:Heap} {wb pb n i:Nat} {As:List Wone} {on:List Int} {o:Wone} (hi:i<256) (hA:As[i]?=some o) (hm:(wb,.cells 179 546 (wkRow pb n As on))∈H) :PureAt Tryz.prog w0 H 100 [.pointer (some ⟨wb,0,none⟩),.int .i64 (i:Int)] (.agg (woC o).toArray):=by
 refine L_enter Tryz.func100 rfl Tryz.ntmps100 rfl rfl ?_
 refine W_sr ?_
 refine W_alloc (l:=woC zWone) ty176 rfl rfl (fun b4=>?_)
 refine W_nil (W_sr ?_)
 refine W_alloc (l:=woC zWone) ty176 rfl rfl (fun b5=>?_)
 refine W_nil (W_sr (W_move rfl rfl (W_move rfl rfl (W_makeFunc .nil (.cons rfl .nil) rfl ?_))))
 refine W_call (.cons rfl (.cons rfl (.cons rfl .nil))) Tryz.call95 rfl ((wwith_in (i:=i) (fi:=191) (ca:=[.pointer (some ⟨b5,0,none⟩)]) Tryz.call191 hi (wof1_L (b5:=b5) hA (by repeat (first | exact hm | exact List.mem_cons_self | apply List.mem_cons_of_mem | apply List.mem_append_right)) (H:=(b4,.cells 176 2 (woC zWone))::H)) ?_).hsub zH) ?_
 ·rintro v H2 ⟨e,_⟩
  exact ⟨_,e⟩
 rintro v H' ⟨rfl,rfl⟩
 refine W_nil (W_sr (W_loadB (vs:=woC o) rfl ty176 rfl (b:=b5) zM rfl rfl rfl ?_))
 refine W_storeA (l':=woC o) rfl rfl ty176 rfl rfl (b:=b4) zM (by exact Nat.le_refl 2) rfl zU ?_
 refine W_nil (W_ret1cO (H2:=H) Tryz.results100 rfl (.nil _) ty176 rfl zM rfl zH ?_)
 exact ⟨rfl,rfl⟩
theorem wof_out {wb:Nat} {id:Int} (hi:¬ (0≤id∧id<256)):Pure Tryz.prog (fun _=>True) 100 [.pointer (some ⟨wb,0,none⟩),.int .i64 id] (.agg (woC zWone).toArray):=by
 intro w0 H hT
 refine L_enter Tryz.func100 rfl Tryz.ntmps100 rfl rfl ?_
 refine W_sr ?_
 refine W_alloc (l:=woC zWone) ty176 rfl rfl (fun b4=>?_)
 refine W_nil (W_sr ?_)
 refine W_alloc (l:=woC zWone) ty176 rfl rfl (fun b5=>?_)
 refine W_nil (W_sr (W_move rfl rfl (W_move rfl rfl (W_makeFunc .nil (.cons rfl .nil) rfl ?_))))
 refine W_callp (.cons rfl (.cons rfl (.cons rfl .nil))) Tryz.call95 rfl (T:=fun _=>True) trivial (wwith_out hi ) ?_
 refine W_nil (W_sr (W_loadB (vs:=woC zWone) rfl ty176 rfl (b:=b5) zM rfl rfl rfl ?_))
 refine W_storeA (l':=woC zWone) rfl rfl ty176 rfl rfl (b:=b4) zM (by exact Nat.le_refl 2) rfl zU ?_
 refine W_nil (W_ret1cO (H2:=H) Tryz.results100 rfl (.nil _) ty176 rfl zM rfl zH ?_)
 exact ⟨rfl,rfl⟩
def ofW (As:List Wone) (id:Int):Wone:=if 0≤id∧id<256 then As.getD id.toNat zWone else zWone
theorem ofW_at {As:List Wone} {i:Nat} {o:Wone} (hi:i<256) (h:As[i]?=some o):ofW As (i:Int)=o:=by
 unfold ofW; rw [if_pos (by omega),show ((i:Nat):Int).toNat=i by omega,List.getD_eq_getElem?_getD,h]; rfl
theorem ofW_out {As:List Wone} {id:Int} (h:¬ (0≤id∧id<256)):ofW As id=zWone:=if_neg h
theorem wof_q {w0:World} {H:Heap} {wb pb n:Nat} {As:List Wone} {on:List Int} (hA:WkOk n As on) (hm:(wb,.cells 179 546 (wkRow pb n As on))∈H) {id:Int}:PureAt Tryz.prog w0 H 100 [.pointer (some ⟨wb,0,none⟩),.int .i64 id] (.agg (woC (ofW As id)).toArray):=by
 by_cases hi:0≤id∧id<256
 ·obtain ⟨i,rfl⟩:∃ i:Nat,id=(i:Int):=⟨id.toNat,by omega⟩
  obtain ⟨o,ho⟩:=hA.at (i:=i) zO
  rw [ofW_at (by omega) ho]
  exact wof_at zO ho hm
 ·rw [ofW_out hi]
  exact (wof_out hi).at trivial
theorem ofW_rng {n:Nat} {As:List Wone} {on:List Int} (h:WkOk n As on) (id:Int):0≤(ofW As id).prog∧(ofW As id).prog≤16:=by
 by_cases hi:0≤id∧id<256
 ·obtain ⟨i,rfl⟩:∃ i:Nat,id=(i:Int):=⟨id.toNat,by omega⟩
  obtain ⟨o,ho⟩:=h.at (i:=i) zO
  rw [ofW_at (by omega) ho]
  exact h.rng o (List.mem_of_getElem? ho)
 ·rw [ofW_out hi]; decide
def stateW (Q:List (Int × Int)) (As:List Wone) (id:Int):Int:=if (ofW As id).shut=true then 3 else if (ofW As id).prog=0 then 0 else if (whQ Q id).isSome=true then 2 else 1
theorem wProg_q {w0:World} {H:Heap} {wb pb n:Nat} {As:List Wone} {on:List Int} (hA:WkOk n As on) (hm:(wb,.cells 179 546 (wkRow pb n As on))∈H) {id:Int} :PureAt Tryz.prog w0 H 73 [.pointer (some ⟨wb,0,none⟩),.int .i64 id] (.tuple #[.int .i64 (max ((ofW As id).prog-1) 0),.bool (decide (0<(ofW As id).prog))]):=by
 have hpr:=ofW_rng hA id
 refine L_enter Tryz.func73 rfl Tryz.ntmps73 rfl rfl ?_
 refine W_sr (W_assign rfl rfl (W_assign rfl rfl (W_nil (W_sr (W_move rfl rfl (W_move rfl rfl ?_))))))
 refine W_callq (.cons rfl (.cons rfl .nil)) Tryz.call100 rfl (wof_q (id:=id) hA (by repeat (first | exact hm | exact List.mem_cons_self | apply List.mem_cons_of_mem | apply List.mem_append_right))) ?_
 refine W_alloc (l:=woC zWone) ty176 rfl rfl (fun b6=>?_)
 refine W_storeA (l':=woC (ofW As id)) rfl rfl ty176 rfl rfl (b:=b6) zM (by exact Nat.le_refl 2) rfl zU ?_
 refine W_nil (W_quietsr zk zK ?_)
 refine WQ_x (X_fieldAddr rfl fld176_1 zd) rfl ?_
 refine WQ_x (X_load (v:=.int .i64 (ofW As id).prog) rfl ty3 rfl (Cell.own (b:=b6) zM rfl)) rfl ?_
 refine WQ_x (X_bin rfl rfl (b_sub (m:=(ofW As id).prog-1) (i64w zO))) rfl ?_
 refine WQ_x (X_max2 rfl rfl (m:=max ((ofW As id).prog-1) 0) (by split <;> omega)) rfl ?_
 refine WQ_x (X_fieldAddr rfl fld176_1 zd) rfl ?_
 refine WQ_x (X_load (v:=.int .i64 (ofW As id).prog) rfl ty3 rfl (Cell.own (b:=b6) zM rfl)) rfl ?_
 refine WQ_x (X_bin rfl rfl b_gtr) rfl ?_
 refine WQ_x (X_assign rfl) rfl ?_
 refine WQ_x (X_assign rfl) rfl ?_
 refine WQ_nil ?_
 refine W_ret2m (H2:=H) Tryz.results73 rfl rfl (.nil _) zH ?_
 exact ⟨rfl,rfl⟩
theorem wState_at {w0:World} {H:Heap} {HP:Heap} {pb n wb:Nat} {Q Rs:List (Int × Int)} {As:List Wone} {on:List Int} (hP:PendH pb n Q Rs HP) (hn:n≤64) (hA:WkOk n As on) {id:Int} :LCalls Tryz.prog w0 35 #[.pointer (some ⟨wb,0,none⟩),.int .i64 id] ((wb,.cells 179 546 (wkRow pb n As on))::(HP++H)) (fun v H'=>v=.int .i64 (stateW Q As id)∧H'=(wb,.cells 179 546 (wkRow pb n As on))::(HP++H)):=by
 refine L_enter (l:=[.pointer (some ⟨wb,0,none⟩),.int .i64 id]) Tryz.func35 rfl Tryz.ntmps35 rfl rfl ?_
 refine W_sr (W_assign rfl rfl (W_nil (W_sr (W_move rfl rfl (W_move rfl rfl (W_callq (.cons rfl (.cons rfl .nil)) Tryz.call100 rfl (wof_q (id:=id) hA zM) ?_))))))
 refine W_alloc (l:=woC zWone) ty176 rfl rfl (fun b5=>?_)
 refine W_storeA (l':=woC (ofW As id)) rfl rfl ty176 rfl rfl (b:=b5) zM (by exact Nat.le_refl 2) rfl zU ?_
 refine W_nil (W_seq (W_block (W_sr (W_fieldAddr rfl fld176_0 zd rfl ?_))))
 refine W_load (v:=.bool (ofW As id).shut) rfl ty4 rfl (Cell.own (b:=b5) zM rfl) rfl ?_
 refine W_assign rfl rfl (W_nil ?_)
 refine W_condPS (p:=(ofW As id).shut=true) rfl (by simp) (fun c0=>?_) (fun c0=>?_)
 ·skip
  refine W_sr (W_assign rfl rfl (W_nil (W_ret1m (H2:=(wb,.cells 179 546 (wkRow pb n As on))::(HP++H)) Tryz.results35 rfl (.nil _) zH ?_)))
  exact ⟨by unfold stateW; rw [if_pos c0],rfl⟩
 ·skip
  refine W_sr (W_fieldAddr rfl fld176_1 zd rfl ?_)
  refine W_load (v:=.int .i64 (ofW As id).prog) rfl ty3 rfl (Cell.own (b:=b5) zM rfl) rfl ?_
  refine W_bin rfl rfl b_eql rfl ?_
  refine W_assign rfl rfl (W_nil ?_)
  refine W_condPS (p:=(ofW As id).prog=0) rfl (by simp) (fun c1=>?_) (fun c1=>?_)
  ·skip
   refine W_sr (W_assign rfl rfl (W_nil (W_ret1m (H2:=(wb,.cells 179 546 (wkRow pb n As on))::(HP++H)) Tryz.results35 rfl (.nil _) zH ?_)))
   exact ⟨by unfold stateW; rw [if_neg c0,if_pos c1],rfl⟩
  ·skip
   refine W_skip (W_blk (W_seq (W_sr (W_move rfl rfl (W_nilCheck rfl rfl (W_fieldAddr rfl fld179_0 zd rfl ?_))))))
   refine W_load (v:=.pointer (some ⟨pb,0,none⟩)) rfl ty166 rfl (Cell.own (b:=wb) zM rfl) rfl ?_
   refine W_move rfl rfl (W_call (.cons rfl (.cons rfl .nil)) Tryz.call99 rfl ((Where_L (id:=id) hP zO (H:=(b5,.cells 176 2 (woC (ofW As id)))::(wb,.cells 179 546 (wkRow pb n As on))::H)).hsub zH) ?_)
   rintro v H' ⟨rfl,rfl⟩
   rcases hwq:whQ Q id with _ | kq
   ·skip
    rw [show optV none=.tuple #[.int .i64 0,.bool false] from rfl]
    refine W_move rfl rfl (W_extract rfl rfl rfl (W_extract rfl rfl rfl (W_assign rfl rfl (W_assign rfl rfl (W_nil (W_sr (W_move rfl rfl (W_nil ?_))))))))
    refine W_condF rfl rfl (W_skip (W_sr (W_assign rfl rfl (W_nil (W_ret1m (H2:=(wb,.cells 179 546 (wkRow pb n As on))::(HP++H)) Tryz.results35 rfl (.nil _) zH ?_)))))
    exact ⟨by unfold stateW; rw [if_neg c0,if_neg c1,if_neg (by rw [hwq]; decide)],rfl⟩
   ·skip
    rw [show optV (some kq)=.tuple #[.int .i64 kq,.bool true] from rfl]
    refine W_move rfl rfl (W_extract rfl rfl rfl (W_extract rfl rfl rfl (W_assign rfl rfl (W_assign rfl rfl (W_nil (W_sr (W_move rfl rfl (W_nil ?_))))))))
    refine W_condT rfl rfl (W_sr (W_assign rfl rfl (W_nil (W_ret1m (H2:=(wb,.cells 179 546 (wkRow pb n As on))::(HP++H)) Tryz.results35 rfl (.nil _) zH ?_))))
    exact ⟨by unfold stateW; rw [if_neg c0,if_neg c1,if_pos (by rw [hwq]; rfl)],rfl⟩
set_option maxRecDepth 100000
theorem wNew_L {w0:World} {H:Heap} {n:Nat} (hn:1≤n∧n≤64) :LCalls Tryz.prog w0 106 #[.int .i64 (n:Int)] (H) (fun v H'=>∃ wb HW,v=.tuple #[.pointer (some ⟨wb,0,none⟩),.int .i64 0]∧WorkH wb n [] [] (List.replicate 256 zWone) (List.replicate 32 0) HW∧H'=HW++H):=by
 refine L_enter (l:=[.int .i64 (n:Int)]) Tryz.func106 rfl Tryz.ntmps106 rfl rfl ?_
 refine W_sr (W_assign rfl rfl (W_assign rfl rfl (W_nil (W_sr (W_move rfl rfl (W_call (.cons rfl .nil) Tryz.call195 rfl (pNew_L hn) ?_))))))
 rintro v H' ⟨pb,HP,rfl,hP,rfl⟩
 refine W_move rfl rfl (W_extract rfl rfl rfl (W_extract rfl rfl rfl (W_assign rfl rfl (W_assign rfl rfl (W_nil (W_seq (W_sr (W_move rfl rfl (W_bin rfl rfl b_neq rfl ?_)))))))))
 refine W_nil (W_condF rfl rfl (W_skip (W_sr (W_move rfl rfl (W_move rfl rfl (W_build (l:=wkRow pb n (List.replicate 256 zWone) (List.replicate 32 0)) ty179 pl179 (.cons rfl rfl rfl rfl rfl (.cons rfl rfl rfl rfl rfl .nil)) rfl zk rfl ?_))))))
 refine W_box (l:=wkRow pb n (List.replicate 256 zWone) (List.replicate 32 0)) rfl rfl rfl (fun wb=>?_)
 refine W_assign rfl rfl (W_assign rfl rfl (W_nil (W_ret2m Tryz.results106 rfl rfl (.nil _) (.refl _) ?_)))
 exact ⟨wb,_,rfl,.mk hP ⟨List.length_replicate,fun o ho=>by rw [List.eq_of_mem_replicate ho]; decide,List.length_replicate,fun x hx=>by rw [List.eq_of_mem_replicate hx]; omega⟩ hn.2,rfl⟩
theorem WhIs.hit {now turn c:Nat} {L:List Tm} {sl:List Value} {XS:List Heap} {bs:List Nat} {l:Ents Int} (h:WhIs now L sl XS bs l c turn) {t:Tm} (ht:t∈L):(mGet l t.id).getD zEnt=.agg (t.s.v++[Value.int .i64 ((t.turn:Nat):Int)]).toArray∧mHas l t.id=true:=by
 have h1:mHas l t.id=true:=mHas_iff.2 (h.keys.mem_iff.2 (List.mem_map_of_mem ht))
 refine ⟨?_,h1⟩
 cases hf:l.find? (fun p=>decide (t.id=p.1)) with
 | none =>
  exfalso
  obtain ⟨p,hp,e⟩:=List.mem_map.1 (mHas_iff.1 h1)
  have:=List.find?_eq_none.1 hf p hp
  exact this (decide_eq_true e.symm)
 | some p =>
  have h2a:=List.find?_some hf
  have h2:t.id=p.1:=of_decide_eq_true h2a
  obtain ⟨u,hu,e1,e2⟩:=h.val p (List.mem_of_find?_eq_some hf)
  obtain rfl:u=t:=tm_uniq h.nodup hu ht (by rw [e1,h2])
  unfold mGet
  rw [hf]
  exact e2
theorem new_heap (a b:Nat × Blk) (H:Heap):a::b::H=(a::b::(List.replicate 512 ([]:Heap)).flatten)++H:=by
 rw [List.flatten_replicate_nil]; rfl
theorem New_W {w0:World} {H:Heap} {now:Nat}:LCalls Tryz.prog w0 275 #[.int .u64 ((now:Nat):Int)] H (fun v H'=>∃ bw HW,v=.pointer (some ⟨bw,0,none⟩)∧WheelH bw now [] 0 HW∧H'=HW++H) :=
 by
 refine New_L.mono ?_
 rintro v H' ⟨bw,bm,rfl,rfl⟩
 refine ⟨bw,_,rfl,.mk (bm:=bm) .new,?_⟩
 exact new_heap _ _ _
end Go.Proofs.YtincjohoncljoaaGreatDoor
