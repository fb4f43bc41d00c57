/-
  Own work: contracts of functions that the statement reaches, and plain facts on what they compute; each theorem says its conditions.
-/
import Derived.Test.YtincjohoncljoaaGreatDoorLqT1
import Derived.Test.YtincjohoncljoaaGreatDoorLqS2
import Derived.Test.YtincjohoncljoaaGreatDoorLqS1
import Derived.Test.YtincjohoncljoaaGreatDoorLqA
set_option linter.all false
set_option linter.unusedSimpArgs false
set_option linter.unusedVariables false
set_option maxHeartbeats 16000000
namespace Go.Proofs.YtincjohoncljoaaGreatDoor
open Go Go.Sl
variable {w0:World} {H HA HB:qg} {top k began gen:Int} {rb mb cl R cap n m i z sb h b now bm turn bw:Nat} {E1 E2 E:List Rfe} {e:Rfe} {ad:Option Addr} {x:Int × Int} {L:List Slt} {s t:Slt} {S:Sct} {l buf q:List (Int × Int)} {α:Type} {Q:List (List (Int × Int))} {sl:List Value} {bs:List Nat}
attribute [local irreducible] W
theorem qpW (ht:1≤top∧top≤65535) :qh Tryz.prog w0 347 #[zi 1,zi top] (H) (fun v H'=>∃ cb,v=.tuple #[zp cb,zi 0]∧H'=(cb,.cells 398 3 (cnC ⟨1,top,false⟩))::H):=by
 refine qc (l:=[zi 1,zi top]) Tryz.func347 rfl Tryz.ntmps347 rfl rfl ?_
 refine za 8 rfl ?_
 first | rw [decide_eq_true (by omega)] | rw [decide_eq_false (by omega)]
 refine za 5 rfl ?_
 first | rw [decide_eq_true (by omega)] | rw [decide_eq_false (by omega)]
 refine za 6 rfl ?_
 first | rw [decide_eq_true (by omega)] | rw [decide_eq_false (by omega)]
 refine za 8 rfl ?_
 first | rw [decide_eq_true (by omega)] | rw [decide_eq_false (by omega)]
 refine za 7 rfl ?_
 refine qX (l:=[zi 1,zi top]) qoB pl396 (.cons rfl rfl rfl rfl rfl (.cons rfl rfl rfl rfl rfl .nil)) rfl rfl rfl ?_
 refine qX (l:=cnC ⟨1,top,false⟩) ty398 pl398 (.cons rfl rfl rfl rfl rfl .nil) rfl rfl rfl ?_
 refine qK (l:=cnC ⟨1,top,false⟩) rfl rfl rfl (fun b25=>?_)
 refine za 3 rfl (qL Tryz.results347 rfl rfl (.nil _) (.refl _) ?_)
 exact ⟨b25,rfl,rfl⟩
theorem qfI {H:qg} (hf:Xk (E1++e::E2) k=some e) (hr:0≤e.c.n∧e.c.n≤65535) :qh Tryz.prog w0 259 #[zp rb,zi k] ((rb,.cells 304 2 [zi top,.map (some mb)])::(mb,.obj (qM (Value.int .i64) ((E1++e::E2).map Rfe.ent) cl))::(HA++((e.cb,.cells 398 3 (cnC e.c))::HB))) (fun v H'=>v=zi (XE e.c).2∧H'=(rb,.cells 304 2 [zi top,.map (some mb)])::(mb,.obj (qM (Value.int .i64) ((E1++e::E2).map Rfe.ent) cl))::(HA++((e.cb,.cells 398 3 (cnC (XE e.c).1))::HB))):=by
 refine qc (l:=[zp rb,zi k]) Tryz.func259 rfl Tryz.ntmps259 rfl rfl ?_
 refine za 7 rfl ?_
 refine qn (zc2 rfl rfl) Tryz.call168 rfl (qak (E:=(E1++e::E2)) zM zM) ?_
 rw [hf,show (Option.map (fun e:Rfe=>(⟨e.cb,0,none⟩:Addr)) (some e))=some ⟨e.cb,0,none⟩ from rfl]
 refine za 4 rfl ?_
 refine W_x (zz rfl rfl qbl) (fun _ h=>by cases h) rfl ?_
 refine za 4 rfl ?_
 refine qk (zc1 rfl) Tryz.call346 rfl (qh.hsub (qpX (cb:=e.cb) (c:=e.c) hr (H:=(rb,.cells 304 2 [zi top,.map (some mb)])::(mb,.obj (qM (Value.int .i64) ((E1++e::E2).map Rfe.ent) cl))::(HA++HB))) zH) ?_
 rintro v H' ⟨rfl,rfl⟩
 refine za 2 rfl ?_
 refine qd (H2:=(rb,.cells 304 2 [zi top,.map (some mb)])::(mb,.obj (qM (Value.int .i64) ((E1++e::E2).map Rfe.ent) cl))::(HA++((e.cb,.cells 398 3 (cnC (XE e.c).1))::HB))) Tryz.results259 rfl (.nil _) zH ?_
 exact ⟨rfl,rfl⟩
theorem qfJ {H:qg} (hf:Xk E k=none) (ht:1≤top∧top≤65535) (hok:QP (E.map Rfe.ent) cl) (hl:E.length≠64) :qh Tryz.prog w0 259 #[zp rb,zi k] ((rb,.cells 304 2 [zi top,.map (some mb)])::(mb,.obj (qM (Value.int .i64) (E.map Rfe.ent) cl))::(HA++HB)) (fun v H'=>∃ cb,v=zi 0∧H'=(rb,.cells 304 2 [zi top,.map (some mb)])::(mb,.obj (qM (Value.int .i64) (Yd (E.map Rfe.ent) cl k (zp cb)) (Kb (E.map Rfe.ent) cl k)))::(HA++((cb,.cells 398 3 (cnC ⟨1,top,false⟩))::HB))):=by
 refine qc (l:=[zp rb,zi k]) Tryz.func259 rfl Tryz.ntmps259 rfl rfl ?_
 refine za 7 rfl ?_
 refine qn (zc2 rfl rfl) Tryz.call168 rfl (qak (E:=E) zM zM) ?_
 rw [hf,show (Option.map (fun e:Rfe=>(⟨e.cb,0,none⟩:Addr)) none)=none from rfl]
 refine za 4 rfl ?_
 refine W_x (zz rfl rfl qbl) (fun _ h=>by cases h) rfl ?_
 refine za 8 rfl ?_
 refine qe (v:=.map (some mb)) rfl qab rfl (qf.own (b:=rb) zM rfl) rfl ?_
 refine qme (l:=E.map Rfe.ent) (cl:=cl) (kf:=(Value.int .i64)) (b:=mb) rfl qab zM rfl ?_
 refine za 2 rfl ?_
 refine QA rfl (decide_eq_false (by rw [List.length_map]; omega)) ?_
 refine za 5 rfl ?_
 refine qe (v:=zi top) rfl ty3 rfl (qf.own (b:=rb) zM rfl) rfl ?_
 refine qk (zc2 rfl rfl) Tryz.call347 rfl (qh.hsub (qpW ht (H:=(rb,.cells 304 2 [zi top,.map (some mb)])::(mb,.obj (qM (Value.int .i64) (E.map Rfe.ent) cl))::(HA++HB))) zH) ?_
 rintro v H' ⟨cb,rfl,rfl⟩
 refine za 16 rfl ?_
 refine qe (v:=.map (some mb)) rfl qab rfl (qf.own (b:=rb) zM rfl) rfl ?_
 refine za 2 rfl ?_
 refine J4 (a:=k) (l:=E.map Rfe.ent) (cl:=cl) (kf:=(Value.int .i64)) (b:=mb) rfl rfl rfl kkI qab hok zU ?_
 refine za 5 rfl ?_
 refine qd (H2:=(rb,.cells 304 2 [zi top,.map (some mb)])::(mb,.obj (qM (Value.int .i64) (Yd (E.map Rfe.ent) cl k (zp cb)) (Kb (E.map Rfe.ent) cl k)))::(HA++((cb,.cells 398 3 (cnC ⟨1,top,false⟩))::HB))) Tryz.results259 rfl (.nil _) zH ?_
 exact ⟨cb,rfl,rfl⟩
theorem qfL {H:qg} (hf:Xk (E1++e::E2) k=some e) (hr:0≤e.c.n∧e.c.n≤65535) (hok:QP ((E1++e::E2).map Rfe.ent) cl) :qh Tryz.prog w0 160 #[zp rb,zi k] ((rb,.cells 304 2 [zi top,.map (some mb)])::(mb,.obj (qM (Value.int .i64) ((E1++e::E2).map Rfe.ent) cl))::(HA++((e.cb,.cells 398 3 (cnC e.c))::HB))) (fun v H'=>v=.tuple #[.bool (Zh e.c).2.1,zi (Zh e.c).2.2]∧H'=if (Zh e.c).2.1=true then (rb,.cells 304 2 [zi top,.map (some mb)])::(mb,.obj (qM (Value.int .i64) (Yo ((E1++e::E2).map Rfe.ent) k) cl))::(HA++HB) else (rb,.cells 304 2 [zi top,.map (some mb)])::(mb,.obj (qM (Value.int .i64) ((E1++e::E2).map Rfe.ent) cl))::(HA++((e.cb,.cells 398 3 (cnC (Zh e.c).1))::HB))):=by
 refine qc (l:=[zp rb,zi k]) Tryz.func160 rfl Tryz.ntmps160 rfl rfl ?_
 refine za 7 rfl ?_
 refine W_x (qr rfl rfl X7) (fun _ h=>by cases h) rfl ?_
 refine za 6 rfl ?_
 refine qn (zc2 rfl rfl) Tryz.call168 rfl (qak (E:=(E1++e::E2)) zM zM) ?_
 rw [hf,show (Option.map (fun e:Rfe=>(⟨e.cb,0,none⟩:Addr)) (some e))=some ⟨e.cb,0,none⟩ from rfl]
 refine za 5 rfl ?_
 refine W_x (qr rfl rfl qbl) (fun _ h=>by cases h) rfl ?_
 refine za 5 rfl ?_
 refine qk (zc1 rfl) Tryz.call256 rfl (qh.hsub (qpV (cb:=e.cb) (c:=e.c) hr (H:=(rb,.cells 304 2 [zi top,.map (some mb)])::(mb,.obj (qM (Value.int .i64) ((E1++e::E2).map Rfe.ent) cl))::(HA++HB))) zH) ?_
 rintro v H' ⟨rfl,rfl⟩
 rcases hlast:(Zh e.c).2.1 with _ | _
 ·skip
  refine za 18 rfl ?_
  refine qL (H2:=(rb,.cells 304 2 [zi top,.map (some mb)])::(mb,.obj (qM (Value.int .i64) ((E1++e::E2).map Rfe.ent) cl))::(HA++((e.cb,.cells 398 3 (cnC (Zh e.c).1))::HB))) Tryz.results160 rfl rfl (.nil _) zH ?_
  exact ⟨rfl,(if_neg zd).symm⟩
 ·skip
  refine za 15 rfl ?_
  refine qe (v:=.map (some mb)) rfl qab rfl (qf.own (b:=rb) zM rfl) rfl ?_
  refine qD rfl rfl ?_
  refine J7 (a:=k) (l:=(E1++e::E2).map Rfe.ent) (cl:=cl) (kf:=(Value.int .i64)) (b:=mb) rfl rfl kkI qab hok zU rfl ?_
  refine za 7 rfl ?_
  refine qL (H2:=(rb,.cells 304 2 [zi top,.map (some mb)])::(mb,.obj (qM (Value.int .i64) (Yo ((E1++e::E2).map Rfe.ent) k) cl))::(HA++HB)) Tryz.results160 rfl rfl (.nil _) zH ?_
  exact ⟨rfl,(if_pos rfl).symm⟩
theorem qfM {H:qg} {HX:qg} (hf:Xk E k=none) :qh Tryz.prog w0 160 #[zp rb,zi k] ((rb,.cells 304 2 [zi top,.map (some mb)])::(mb,.obj (qM (Value.int .i64) (E.map Rfe.ent) cl))::HX) (fun v H'=>v=.tuple #[.bool false,zi 4]∧H'=(rb,.cells 304 2 [zi top,.map (some mb)])::(mb,.obj (qM (Value.int .i64) (E.map Rfe.ent) cl))::HX):=by
 refine qc (l:=[zp rb,zi k]) Tryz.func160 rfl Tryz.ntmps160 rfl rfl ?_
 refine za 7 rfl ?_
 refine W_x (qr rfl rfl X7) (fun _ h=>by cases h) rfl ?_
 refine za 6 rfl ?_
 refine qn (zc2 rfl rfl) Tryz.call168 rfl (qak (E:=E) zM zM) ?_
 rw [hf,show (Option.map (fun e:Rfe=>(⟨e.cb,0,none⟩:Addr)) none)=none from rfl]
 refine za 5 rfl ?_
 refine W_x (qr rfl rfl qbl) (fun _ h=>by cases h) rfl ?_
 refine za 6 rfl (qL Tryz.results160 rfl rfl (.nil _) (.refl _) ?_)
 exact ⟨rfl,rfl⟩
def qb6 (R:List (Int × Cnt)) (k:Int) (c:Cnt):List (Int × Cnt):=R.map (fun q=>if k=q.1 then (q.1,c) else q)
def qaw (R:List (Int × Cnt)) (k:Int):Option Cnt:=(R.find? (fun q=>decide (k=q.1))).map (·.2)
def Zi (R:List (Int × Cnt)) (top k:Int):List (Int × Cnt) × Int:=match qaw R k with
 | some c=>(qb6 R k (XE c).1,(XE c).2)
 | none=>(R++[(k,⟨1,top,false⟩)],0)
def ZJ (R:List (Int × Cnt)) (k:Int):List (Int × Cnt) × Bool × Int:=match qaw R k with
 | some c=>(if (Zh c).2.1=true then R.filter (fun q=>decide (k≠q.1)) else qb6 R k (Zh c).1,(Zh c).2)
 | none=>(R,false,4)
def qec (R:List (Int × Cnt)) (k:Int):Int:=match qaw R k with
 | some c=>c.n
 | none=>0
def prj (e:Rfe):Int × Cnt:=(e.key,e.c)
theorem qcv (E:List Rfe) (k:Int):qaw (E.map prj) k=(Xk E k).map (·.c):=by
 unfold qaw Xk
 rw [List.find?_map,Option.map_map]
 rfl
theorem qbd (E:List Rfe):(E.map Rfe.ent).map (·.1)=E.map (·.key):=by rw [List.map_map]; rfl
theorem qep (hn:((E1++e::E2).map (·.key)).Nodup):(∀ q∈E1,q.key≠e.key)∧∀ q∈E2,q.key≠e.key:=by
 rw [List.map_append,List.map_cons,List.nodup_append] at hn
 obtain ⟨h1,h2,h3⟩:=hn
 refine ⟨fun q hq h=>h3 q.key (List.mem_map.2 ⟨q,hq,rfl⟩) e.key List.mem_cons_self h,fun q hq h=>(List.nodup_cons.1 h2).1 (List.mem_map.2 ⟨q,hq,h⟩)⟩
theorem qgE {c:Cnt} (hn:((E1++e::E2).map (·.key)).Nodup):(E1++{ e with c:=c }::E2).map prj=qb6 ((E1++e::E2).map prj) e.key c:=by
 obtain ⟨h1,h2⟩:=qep hn
 unfold qb6
 rw [List.map_map,List.map_append,List.map_append,List.map_cons,List.map_cons]
 congr 1
 ·exact List.map_congr_left fun q hq=>(if_neg (fun h=>h1 q hq h.symm)).symm
 ·congr 1
  ·exact (if_pos rfl).symm
  ·exact List.map_congr_left fun q hq=>(if_neg (fun h=>h2 q hq h.symm)).symm
theorem qnb (hn:((E1++e::E2).map (·.key)).Nodup):(E1++E2).map prj=((E1++e::E2).map prj).filter (fun q=>decide (e.key≠q.1))∧(E1++E2).map Rfe.ent=Yo ((E1++e::E2).map Rfe.ent) e.key:=by
 obtain ⟨h1,h2⟩:=qep hn
 have key:(E1++E2)=(E1++e::E2).filter (fun q=>decide (e.key≠q.key)):=by
  have f1:E1.filter (fun q=>decide (e.key≠q.key))=E1:=List.filter_eq_self.2 (fun q hq=>decide_eq_true (h1 q hq).symm)
  have f2:E2.filter (fun q=>decide (e.key≠q.key))=E2:=List.filter_eq_self.2 (fun q hq=>decide_eq_true (h2 q hq).symm)
  rw [List.filter_append,List.filter_cons_of_neg (by simp),f1,f2]
 refine ⟨?_,?_⟩
 ·rw [List.filter_map]; conv=>lhs; rw [key]
  rfl
 ·unfold Yo
  rw [List.filter_map]; conv=>lhs; rw [key]
  rfl
theorem qaC (c:Cnt):(E1++{ e with c:=c }::E2).map Rfe.ent=(E1++e::E2).map Rfe.ent:=by
 rw [List.map_append,List.map_append]; rfl
theorem qja (hm1:(rb,.cells 304 2 [.int .i64 top,.map (some mb)])∈H) (hm2:(mb,.obj (qM (Value.int .i64) (E.map Rfe.ent) cl))∈H) (hm3:∀ e∈E,e.blk∈H) :qB Tryz.prog w0 H 80 [zp rb,.int .i64 k] (.int .i64 (match Xk E k with | some e=>e.c.n | none=>0)):=by
 refine qc Tryz.func80 rfl Tryz.ntmps80 rfl rfl (za 6 rfl ?_)
 refine qn (zc2 rfl rfl) Tryz.call168 rfl (qak (E:=E) hm1 hm2) ?_
 rcases hf:Xk E k with _ | e
 ·skip
  refine qn (zc1 rfl) Tryz.call169 rfl qgb (za 2 rfl ?_)
  refine qd (H2:=H) Tryz.results80 rfl (.nil _) zH ?_
  exact ⟨rfl,rfl⟩
 ·skip
  refine qn (zc1 rfl) Tryz.call169 rfl (qlN (cb:=e.cb) (c:=e.c) (hm3 e (qcw hf).1)) ?_
  refine za 2 rfl ?_
  refine qd (H2:=H) Tryz.results80 rfl (.nil _) zH ?_
  exact ⟨rfl,rfl⟩
section
variable {w0:World} {H HR:qg} {rb:Nat} {top:Int} {R:List (Int × Cnt)}
theorem Jb.value (hR:Jb rb top R HR) (hm:∀ p∈HR,p∈H) :qB Tryz.prog w0 H 80 [zp rb,zi k] (zi (qec R k)):=by
 cases hR with
 | @mk mb cl E hok hR =>
  subst hR
  have e1:qec (E.map prj) k=match Xk E k with | some e=>e.c.n | none=>0:=by
   unfold qec; rw [qcv]; cases Xk E k <;> rfl
  show qB _ _ _ _ _ (zi (qec (E.map prj) k))
  rw [e1]
  exact qja (hm _ List.mem_cons_self) (hm _ (List.mem_cons_of_mem _ List.mem_cons_self)) (fun e he=>hm _ (List.mem_cons_of_mem _ (List.mem_cons_of_mem _ (List.mem_map.2 ⟨e,he,rfl⟩))))
theorem Jb.hold (hR:Jb rb top R HR) (ht:1≤top∧top≤65535) (hr:∀ p∈R,0≤p.2.n∧p.2.n≤65535) (hlen:R.length<64) :qh Tryz.prog w0 259 #[zp rb,zi k] (HR++H) (fun v H'=>∃ HR',Jb rb top (Zi R top k).1 HR'∧v=zi (Zi R top k).2∧H'=HR'++H):=by
 cases hR with
 | @mk mb cl E hok hR =>
  subst hR
  show qh _ _ _ _ ((rb,.cells 304 2 [zi top,.map (some mb)])::(mb,.obj (qM (Value.int .i64) (E.map Rfe.ent) cl))::(E.map Rfe.blk++H)) (fun v H'=>∃ HR',Jb rb top (Zi (E.map prj) top k).1 HR'∧v=zi (Zi (E.map prj) top k).2∧H'=HR'++H)
  have hg:=qcv E k
  have hlE:E.length<64:=by rw [List.length_map] at hlen; exact hlen
  cases hf:Xk E k with
  | none =>
   rw [hf] at hg
   refine (qfJ (H:=H) (top:=top) (HA:=E.map Rfe.blk) (HB:=H) hf ht hok zO).mono ?_
   rintro v H' ⟨cb,rfl,rfl⟩
   have hno:Z3 (E.map Rfe.ent) k=false:=by
    cases h:Z3 (E.map Rfe.ent) k with
    | false=>rfl
    | true =>
     rw [J0,qbd] at h
     obtain ⟨q,hq,hqk⟩:=List.mem_map.1 h
     unfold Xk at hf
     have:=List.find?_eq_none.1 hf q hq
     exact absurd (decide_eq_true hqk.symm) this
   have e1:Yd (E.map Rfe.ent) cl k (zp cb)=(E++[Rfe.mk k cb cl (Cnt.mk 1 top false)]).map Rfe.ent:=by
    unfold Yd; rw [hno,List.map_append]; rfl
   have hok2:=hok.put k (zp cb)
   rw [e1] at hok2 ⊢
   refine ⟨_,.mk (mb:=mb) hok2 (by unfold Zi; rw [hg,List.map_append]; rfl),by unfold Zi; rw [hg]; rfl,?_⟩
   show _=_::_::((E++[_]).map Rfe.blk++H)
   rw [List.map_append (f:=Rfe.blk),List.append_assoc]
   rfl
  | some e =>
   rw [hf] at hg
   obtain ⟨he,rfl⟩:=qcw hf
   obtain ⟨E1,E2,rfl⟩:=List.append_of_mem he
   have hn:((E1++e::E2).map (·.key)).Nodup:=by rw [← qbd]; exact hok.keys
   have hre:=hr (prj e) (List.mem_map.2 ⟨e,he,rfl⟩)
   have:=qfI (H:=H) (w0:=w0) (rb:=rb) (mb:=mb) (cl:=cl) (top:=top) (HA:=E1.map Rfe.blk) (HB:=E2.map Rfe.blk++H) hf hre
   rw [List.map_append (f:=Rfe.blk),List.append_assoc]
   refine this.mono ?_
   rintro v H' ⟨rfl,rfl⟩
   refine ⟨_,.mk (mb:=mb) (cl:=cl) (E:=E1++{ e with c:=(XE e.c).1 }::E2) (by rw [qaC (e:=e) (XE e.c).1]; exact hok) ?_,?_,?_⟩
   ·unfold Zi; rw [hg]; exact qgE hn
   ·unfold Zi; rw [hg]; rfl
   ·rw [qaC (e:=e) (XE e.c).1,List.map_append (f:=Rfe.blk)]
    simp only [List.cons_append,List.append_assoc]
    rfl
theorem Jb.drop (hR:Jb rb top R HR) (hr:∀ p∈R,0≤p.2.n∧p.2.n≤65535) :qh Tryz.prog w0 160 #[zp rb,zi k] (HR++H) (fun v H'=>∃ HR',Jb rb top (ZJ R k).1 HR'∧v=.tuple #[.bool (ZJ R k).2.1,zi (ZJ R k).2.2]∧H'=HR'++H):=by
 cases hR with
 | @mk mb cl E hok hR =>
  subst hR
  show qh _ _ _ _ ((rb,.cells 304 2 [zi top,.map (some mb)])::(mb,.obj (qM (Value.int .i64) (E.map Rfe.ent) cl))::(E.map Rfe.blk++H)) (fun v H'=>∃ HR',Jb rb top (ZJ (E.map prj) k).1 HR'∧v=.tuple #[.bool (ZJ (E.map prj) k).2.1,zi (ZJ (E.map prj) k).2.2]∧H'=HR'++H)
  have hg:=qcv E k
  cases hf:Xk E k with
  | none =>
   rw [hf] at hg
   refine (qfM (H:=H) (top:=top) (HX:=E.map Rfe.blk++H) hf).mono ?_
   rintro v H' ⟨rfl,rfl⟩
   exact ⟨_,.mk (mb:=mb) hok (by unfold ZJ; rw [hg]; rfl),by unfold ZJ; rw [hg]; rfl,rfl⟩
  | some e =>
   rw [hf] at hg
   obtain ⟨he,rfl⟩:=qcw hf
   obtain ⟨E1,E2,rfl⟩:=List.append_of_mem he
   have hn:((E1++e::E2).map (·.key)).Nodup:=by rw [← qbd]; exact hok.keys
   have hre:=hr (prj e) (List.mem_map.2 ⟨e,he,rfl⟩)
   have:=qfL (H:=H) (w0:=w0) (rb:=rb) (mb:=mb) (cl:=cl) (top:=top) (HA:=E1.map Rfe.blk) (HB:=E2.map Rfe.blk++H) hf hre hok
   rw [List.map_append (f:=Rfe.blk),List.append_assoc]
   refine this.mono ?_
   rintro v H' ⟨rfl,rfl⟩
   have hd:ZJ ((E1++e::E2).map prj) e.key=(if (Zh e.c).2.1=true then ((E1++e::E2).map prj).filter (fun q=>decide (e.key≠q.1)) else qb6 ((E1++e::E2).map prj) e.key (Zh e.c).1,(Zh e.c).2):=by
    unfold ZJ; rw [hg]; rfl
   rw [hd]
   by_cases hl:(Zh e.c).2.1=true
   ·rw [if_pos hl,if_pos hl]
    obtain ⟨p1,p2⟩:=qnb hn
    refine ⟨_,.mk (mb:=mb) (cl:=cl) (E:=E1++E2) (by rw [p2]; exact hok.del e.key) p1,rfl,?_⟩
    rw [p2,List.map_append (f:=Rfe.blk)]
    simp only [List.cons_append,List.append_assoc]
   ·rw [if_neg hl,if_neg hl]
    refine ⟨_,.mk (mb:=mb) (cl:=cl) (E:=E1++{ e with c:=(Zh e.c).1 }::E2) (by rw [qaC (e:=e) (Zh e.c).1]; exact hok) (qgE hn),rfl,?_⟩
    rw [qaC (e:=e) (Zh e.c).1,List.map_append (f:=Rfe.blk)]
    simp only [List.cons_append,List.append_assoc]
    rfl
end
theorem qm7 {HR:qg} {R:List (Int × Cnt)} (hR:Jb rb top R HR) (ht:1≤top∧top≤65535) (hr:∀ p∈R,0≤p.2.n∧p.2.n≤65535) (hlen:R.length<64) (hrow:Holds w0 H ad [zi k]) :qh Tryz.prog w0 163 #[zp rb,.slice ad 1 cap] (HR++H) (fun v H'=>∃ HR',Jb rb top (Zi R top k).1 HR'∧v=zi (Zi R top k).2∧H'=HR'++H):=by
 refine qc (l:=[zp rb,.slice ad 1 cap]) Tryz.func163 rfl Tryz.ntmps163 rfl rfl ?_
 refine za 6 rfl ?_
 refine W_x (qr rfl rfl X7) (fun _ h=>by cases h) rfl ?_
 refine za 6 rfl (zZ rfl qZ rfl rfl (za 3 rfl ?_))
 refine qU (X:=(Nat × List (Int × Cnt) × qg)) [(0,_),(10,_),(11,_)] (fun (z:(Nat × List (Int × Cnt) × qg))=>[(12,zi (z.1:Int))]) (fun _=>_) (fun (z:(Nat × List (Int × Cnt) × qg))=>z.2.2++H) (fun (z:(Nat × List (Int × Cnt) × qg))=>z.1≤1∧Jb rb top z.2.1 z.2.2∧(z.1=0→z.2.1=R)∧(z.1=1→z.2.1=(Zi R top k).1∧(Zi R top k).2=0)) (fun (z:(Nat × List (Int × Cnt) × qg))=>1-z.1) (0,R,HR) ⟨Nat.zero_le _,hR,fun _=>rfl,fun h=>(by cases h)⟩ (qa rfl (qa rfl (qa rfl (qi _)))) (qa rfl (qi _)) rfl zH ?_
 rintro ⟨i,R1,HR1⟩ ⟨hi,hR1,h0,h1⟩
 dsimp only at hi hR1 h0 h1 ⊢
 simp only [List.cons_append,List.nil_append]
 refine za 4 rfl ?_
 refine qm (p:=i<1) rfl (by rw [decide_eq_true_eq]; omega) (fun q0=>?_) (fun q0=>?_)
 ·skip
  refine za 4 rfl ?_
  obtain rfl:i=0:=by omega
  obtain rfl:R=R1:=(h0 rfl).symm
  obtain ⟨q0_,p0_,rfl,hc⟩:=hrow.at (i:=0) (v:=.int .i64 k) rfl
  refine qS (j:=0) rfl rfl qZ ty3 rfl zd rfl rfl ?_
  refine qe (v:=zi k) rfl ty3 rfl (by exact hc.up zH) rfl ?_
  refine za 5 rfl ?_
  refine qk (zc2 rfl rfl) Tryz.call259 rfl ((Jb.hold (H:=H) hR1 ht hr hlen (k:=k)).hsub zH) ?_
  rintro v H' ⟨HR2,hR2,rfl,rfl⟩
  refine za 6 rfl ?_
  refine qm (p:=(Zi R top k).2≠0) rfl (by simp) (fun q1=>?_) (fun q1=>?_)
  ·skip
   refine za 4 rfl ?_
   refine qd (H2:=HR2++H) Tryz.results163 rfl (.nil _) zH ?_
   exact ⟨HR2,hR2,rfl,rfl⟩
  ·skip
   refine za 3 rfl ?_
   refine qE rfl rfl (qQ (m:=1) rfl) rfl ?_
   refine za 2 rfl ?_
   refine qP (1,(Zi R top k).1,HR2) ⟨Nat.le_refl _,hR2,fun h=>(by cases h),fun _=>⟨rfl,Classical.not_not.1 q1⟩⟩ (by show 1-1<1-0; decide) (qa rfl (qa rfl (qa rfl (qa rfl (qi _))))) rfl zH
 ·skip
  refine za 4 rfl ?_
  refine qd (H2:=HR1++H) Tryz.results163 rfl (.nil _) zH ?_
  obtain rfl:i=1:=by omega
  obtain ⟨rfl,e⟩:=h1 rfl
  exact ⟨HR1,hR1,by rw [e],rfl⟩
theorem qjh (ht:1≤top∧top≤65535) :qh Tryz.prog w0 108 #[zi top] (H) (fun v H'=>∃ rb HR,Jb rb top [] HR∧v=.tuple #[zp rb,zi 0]∧H'=HR++H):=by
 refine qc (l:=[zi top]) Tryz.func108 rfl Tryz.ntmps108 rfl rfl ?_
 refine za 8 rfl ?_
 first | rw [decide_eq_true (by omega)] | rw [decide_eq_false (by omega)]
 refine za 5 rfl ?_
 first | rw [decide_eq_true (by omega)] | rw [decide_eq_false (by omega)]
 refine za 6 rfl ?_
 refine KO (kf:=(Value.int .i64)) rfl (fun b11=>?_)
 refine qX (l:=[zi top,.map (some b11)]) ty304 pl304 (.cons rfl rfl rfl rfl rfl (.cons rfl rfl rfl rfl rfl .nil)) rfl rfl rfl ?_
 refine qK (l:=[zi top,.map (some b11)]) rfl rfl rfl (fun b13=>?_)
 refine za 3 rfl (qL Tryz.results108 rfl rfl (.nil _) (.refl _) ?_)
 exact ⟨b13,_,.mk (E:=[]) (QP.nil 0) rfl,rfl,rfl⟩
theorem qhy (x k:Nat) (hk:k<64):Int.fdiv (x:Int) (2 ^ (min (k:Int).toNat IntKind.u64.bits))=((x >>> k:Nat):Int):=by
 have e0:min (k:Int).toNat IntKind.u64.bits=k:=by
  have:IntKind.u64.bits=64:=rfl
  omega
 rw [e0,Nat.shiftRight_eq_div_pow,Int.fdiv_eq_ediv_of_nonneg _ (by exact Int.le_of_lt (Int.pow_pos (by decide)))]
 rw [show (2:Int) ^ k=((2 ^ k:Nat):Int) from (Int.natCast_pow 2 k).symm]
 exact (Int.natCast_ediv _ _).symm
theorem qdJ (x k:Nat):(x >>> k)*2 ^ k≤x:=by rw [Nat.shiftRight_eq_div_pow]; exact Nat.div_mul_le_self x _
theorem qp1 {a:Nat} (ha:a<9223372036854775808):Y8 .and .i64 (a:Int) 127=((a%128:Nat):Int):=by
 have ea:BitVec.ofInt 64 (a:Int)=BitVec.ofNat 64 a:=by simp
 have eb:BitVec.ofInt 64 (127:Int)=BitVec.ofNat 64 127:=by decide
 show IntKind.i64.wrap (((BitVec.ofInt 64 (a:Int) &&& BitVec.ofInt 64 (127:Int)).toNat:Nat):Int)=_
 rw [ea,eb,BitVec.toNat_and,BitVec.toNat_ofNat,BitVec.toNat_ofNat,Nat.mod_eq_of_lt (show a<2 ^ 64 by omega),Nat.mod_eq_of_lt (show 127<2 ^ 64 by decide),show (127:Nat)=2 ^ 7-1 from rfl,Nat.and_two_pow_sub_one_eq_mod]
 exact zg ⟨by omega,by omega⟩
theorem qhL {x:Nat} (hx:x<18446744073709551616):Qx Tryz.prog (fun _=>True) 309 [zu ((x:Nat):Int)] (zi ((QF 64 x:Nat):Int)):=by
 intro w0 H hT
 obtain ⟨s1,es1⟩:∃ y:Nat,y=x >>> 1:=⟨_,rfl⟩
 obtain ⟨p1,ep1⟩:∃ y:Nat,y=s1 &&& 6148914691236517205:=⟨_,rfl⟩
 obtain ⟨q1,eq1⟩:∃ y:Nat,y=x &&& 6148914691236517205:=⟨_,rfl⟩
 obtain ⟨a,ea⟩:∃ y:Nat,y=p1+q1:=⟨_,rfl⟩
 obtain ⟨s2,es2⟩:∃ y:Nat,y=a >>> 2:=⟨_,rfl⟩
 obtain ⟨p2,ep2⟩:∃ y:Nat,y=s2 &&& 3689348814741910323:=⟨_,rfl⟩
 obtain ⟨q2,eq2⟩:∃ y:Nat,y=a &&& 3689348814741910323:=⟨_,rfl⟩
 obtain ⟨b,eb⟩:∃ y:Nat,y=p2+q2:=⟨_,rfl⟩
 obtain ⟨s3,es3⟩:∃ y:Nat,y=b >>> 4:=⟨_,rfl⟩
 obtain ⟨t3,et3⟩:∃ y:Nat,y=s3+b:=⟨_,rfl⟩
 obtain ⟨c,ec⟩:∃ y:Nat,y=t3 &&& 1085102592571150095:=⟨_,rfl⟩
 obtain ⟨s4,es4⟩:∃ y:Nat,y=c >>> 8:=⟨_,rfl⟩
 obtain ⟨d,ed⟩:∃ y:Nat,y=c+s4:=⟨_,rfl⟩
 obtain ⟨s5,es5⟩:∃ y:Nat,y=d >>> 16:=⟨_,rfl⟩
 obtain ⟨f,ef⟩:∃ y:Nat,y=d+s5:=⟨_,rfl⟩
 obtain ⟨s6,es6⟩:∃ y:Nat,y=f >>> 32:=⟨_,rfl⟩
 obtain ⟨g,eg⟩:∃ y:Nat,y=f+s6:=⟨_,rfl⟩
 have hr:QF 64 x=g%128:=by
  rw [← qhM hx]
  unfold qfR
  dsimp only
  rw [eg,es6,ef,es5,ed,es4,ec,et3,es3,eb,ep2,eq2,es2,ea,ep1,eq1,es1]
 have bp1:p1≤6148914691236517205:=ep1 ▸ Nat.and_le_right
 have bq1:q1≤6148914691236517205:=eq1 ▸ Nat.and_le_right
 have bp2:p2≤3689348814741910323:=ep2 ▸ Nat.and_le_right
 have bq2:q2≤3689348814741910323:=eq2 ▸ Nat.and_le_right
 have bc:c≤1085102592571150095:=ec ▸ Nat.and_le_right
 have bs1:s1≤x:=es1 ▸ Nat.shiftRight_le ..
 have bs2:s2≤a:=es2 ▸ Nat.shiftRight_le ..
 have bs3:s3≤b:=es3 ▸ Nat.shiftRight_le ..
 have bs4:s4≤c:=es4 ▸ Nat.shiftRight_le ..
 have bs5:s5≤d:=es5 ▸ Nat.shiftRight_le ..
 have bs6:s6≤f:=es6 ▸ Nat.shiftRight_le ..
 have bs3':s3*16≤b:=es3 ▸ qdJ b 4
 have bs6':s6*4294967296≤f:=es6 ▸ qdJ f 32
 have bs5':s5*65536≤d:=es5 ▸ qdJ d 16
 rw [hr]
 refine qc Tryz.func309 rfl Tryz.ntmps309 rfl rfl (za 5 rfl ?_)
 refine qE rfl rfl (Ks (by decide) (m:=((s1:Nat):Int)) ((qhy x 1 (by decide)).trans (by rw [es1]))) rfl ?_
 refine qE rfl rfl (qaI (m:=((p1:Nat):Int)) ((qby (b:=6148914691236517205) (by omega) (by decide)).trans (by rw [ep1]))) rfl ?_
 refine qD rfl rfl ?_
 refine qE rfl rfl (qaI (m:=((q1:Nat):Int)) ((qby (b:=6148914691236517205) (by omega) (by decide)).trans (by rw [eq1]))) rfl ?_
 refine qE rfl rfl (qQ (m:=((a:Nat):Int)) (by rw [JU (by omega)]; omega)) rfl ?_
 refine za 4 rfl ?_
 refine qE rfl rfl (Ks (by decide) (m:=((s2:Nat):Int)) ((qhy a 2 (by decide)).trans (by rw [es2]))) rfl ?_
 refine qE rfl rfl (qaI (m:=((p2:Nat):Int)) ((qby (b:=3689348814741910323) (by omega) (by decide)).trans (by rw [ep2]))) rfl ?_
 refine qD rfl rfl ?_
 refine qE rfl rfl (qaI (m:=((q2:Nat):Int)) ((qby (b:=3689348814741910323) (by omega) (by decide)).trans (by rw [eq2]))) rfl ?_
 refine qE rfl rfl (qQ (m:=((b:Nat):Int)) (by rw [JU (by omega)]; omega)) rfl ?_
 refine za 4 rfl ?_
 refine qE rfl rfl (Ks (by decide) (m:=((s3:Nat):Int)) ((qhy b 4 (by decide)).trans (by rw [es3]))) rfl ?_
 refine qD rfl rfl ?_
 refine qE rfl rfl (qQ (m:=((t3:Nat):Int)) (by rw [JU (by omega)]; omega)) rfl ?_
 refine qE rfl rfl (qaI (m:=((c:Nat):Int)) ((qby (b:=1085102592571150095) (by omega) (by decide)).trans (by rw [ec]))) rfl ?_
 refine za 5 rfl ?_
 refine qE rfl rfl (Ks (by decide) (m:=((s4:Nat):Int)) ((qhy c 8 (by decide)).trans (by rw [es4]))) rfl ?_
 refine qE rfl rfl (qQ (m:=((d:Nat):Int)) (by rw [JU (by omega)]; omega)) rfl ?_
 refine za 5 rfl ?_
 refine qE rfl rfl (Ks (by decide) (m:=((s5:Nat):Int)) ((qhy d 16 (by decide)).trans (by rw [es5]))) rfl ?_
 refine qE rfl rfl (qQ (m:=((f:Nat):Int)) (by rw [JU (by omega)]; omega)) rfl ?_
 refine za 5 rfl ?_
 refine qE rfl rfl (Ks (by decide) (m:=((s6:Nat):Int)) ((qhy f 32 (by decide)).trans (by rw [es6]))) rfl ?_
 refine qE rfl rfl (qQ (m:=((g:Nat):Int)) (by rw [JU (by omega)]; omega)) rfl ?_
 refine za 4 rfl (Jh rfl zJ ty3 (zg zO) rfl ?_)
 refine qE rfl rfl (qaI (m:=((g%128:Nat):Int)) (qp1 zO)) rfl ?_
 refine za 2 rfl ?_
 refine qd (H2:=H) Tryz.results309 rfl (.nil _) zH ?_
 exact ⟨rfl,rfl⟩
theorem Xh {x:Nat} (hx:x<18446744073709551616):Qx Tryz.prog (fun _=>True) 222 [zu ((x:Nat):Int)] (zi ((QF 64 x:Nat):Int)):=by
 intro w0 H hT
 refine qc Tryz.func222 rfl Tryz.ntmps222 rfl rfl (za 5 rfl ?_)
 refine qT (zc1 rfl) Tryz.call309 rfl (T:=fun _=>True) trivial (qhL hx) ?_
 refine za 2 rfl ?_
 refine qd (H2:=H) Tryz.results222 rfl (.nil _) zH ?_
 exact ⟨rfl,rfl⟩
theorem qdn (h1:1≤n) (h2:n≤64):Qx Tryz.prog (fun _=>True) 260 [zi (n:Int)] (zu ((2 ^ n-1:Nat):Int)):=by
 intro w0 H hT
 refine qc Tryz.func260 rfl Tryz.ntmps260 rfl rfl (za 10 rfl (QA rfl (decide_eq_false zO) (za 5 rfl ?_)))
 refine qm (p:=n=64) rfl (by simp; omega) (fun c0=>?_) (fun c0=>?_)
 ·skip
  refine za 3 rfl ?_
  refine qd (H2:=H) Tryz.results260 rfl (.nil _) zH ?_
  subst c0
  exact ⟨rfl,rfl⟩
 ·skip
  refine za 4 rfl ?_
  refine qT (zc1 rfl) Tryz.call233 rfl (T:=fun _=>True) trivial (qaG _) ?_
  have hbn:Z9 (n:Int)=2 ^ n:=by unfold Z9; rw [if_pos (by omega)]; rfl
  have hp:=qeB (i:=n) zO
  have hp0:0<2 ^ n:=Nat.two_pow_pos n
  rw [hbn]
  obtain ⟨z,hz⟩:∃ z:Nat,z=2 ^ n:=⟨_,rfl⟩
  rw [← hz] at hp hp0 ⊢
  refine qE rfl rfl (Zw (m:=((z-1:Nat):Int)) (by rw [JU (by omega)]; omega)) rfl ?_
  refine za 2 rfl ?_
  refine qd (H2:=H) Tryz.results260 rfl (.nil _) zH ?_
  exact ⟨rfl,rfl⟩
theorem JL {i:Int} (hm:m<18446744073709551616):Qx Tryz.prog (fun _=>True) 332 [zu ((m:Nat):Int),zi i] (.bool (decide (m &&& Z9 i≠0))):=by
 intro w0 H hT
 refine qc Tryz.func332 rfl Tryz.ntmps332 rfl rfl (za 6 rfl ?_)
 refine qT (zc1 rfl) Tryz.call233 rfl (T:=fun _=>True) trivial (qaG _) ?_
 refine qE rfl rfl (qaI (m:=((m &&& Z9 i:Nat):Int)) (qby hm (qbN i))) rfl ?_
 refine za 1 rfl ?_
 rw [show decide (((m &&& Z9 i:Nat):Int)≠0)=decide (m &&& Z9 i≠0) from decide_eq_decide.2 (by omega)]
 refine za 2 rfl ?_
 refine qd (H2:=H) Tryz.results332 rfl (.nil _) zH ?_
 exact ⟨rfl,rfl⟩
theorem qef (h:i<64):Z9 (i:Int)=2 ^ i:=by unfold Z9; rw [if_pos (by omega)]; rfl
theorem qmC (hi:i<64) (s:Nat):(ZE z [(i:Int)]).testBit s=(z.testBit s || decide (i=s)):=by
 show (z ||| Z9 (i:Int)).testBit s=_
 rw [qef hi,Nat.testBit_or,Nat.testBit_two_pow]
theorem qpu (hz:z<18446744073709551616) (hi:i<64) (s:Nat):(ZQ z [(i:Int)]).testBit s=(z.testBit s && !decide (i=s)):=by
 show (z &&& (18446744073709551615-Z9 (i:Int))).testBit s=_
 rw [qef hi,Nat.testBit_and,show (18446744073709551615-2 ^ i:Nat)=2 ^ 64-(2 ^ i+1) by omega]
 by_cases hs:s<64
 ·rw [Nat.testBit_two_pow_sub_succ (by have:=qeB hi; omega),decide_eq_true hs,Bool.true_and,Nat.testBit_two_pow]
 ·rw [Nat.testBit_lt_two_pow (show z<2 ^ s from Nat.lt_of_lt_of_le hz (show 2 ^ 64≤2 ^ s from Nat.pow_le_pow_right (by decide) (by omega)))]; rfl
theorem zC.with_ (h:zC n L m) (hl:L.length≤64) (hs:L[i]?=some s) (ht:t.st=n):zC n (L.set i t) (ZE m [(i:Int)]):=by
 have hi:=(List.getElem?_eq_some_iff.1 hs).1
 refine ⟨K9 _ h.1,fun j=>?_⟩
 rw [qmC (by omega),h.2 j]
 by_cases e:i=j
 ·subst e
  rw [List.getElem?_set_self hi]
  simp [ht]
 ·rw [List.getElem?_set_ne e]
  simp [e]
theorem zC.out (h:zC n L m) (hl:L.length≤64) (hs:L[i]?=some s) (ht:t.st≠n):zC n (L.set i t) (ZQ m [(i:Int)]):=by
 have hi:=(List.getElem?_eq_some_iff.1 hs).1
 refine ⟨qam _ h.1,fun j=>?_⟩
 rw [qpu h.1 (by omega),h.2 j]
 by_cases e:i=j
 ·subst e
  rw [List.getElem?_set_self hi]
  simp [ht]
 ·rw [List.getElem?_set_ne e]
  simp [e]
theorem zC.same (h:zC n L m) (hs:L[i]?=some s) (ht:s.st=n↔t.st=n):zC n (L.set i t) m:=by
 have hi:=(List.getElem?_eq_some_iff.1 hs).1
 refine ⟨h.1,fun j=>?_⟩
 rw [h.2 j]
 by_cases e:i=j
 ·subst e
  rw [List.getElem?_set_self hi,hs]
  exact decide_eq_decide.2 ht
 ·rw [List.getElem?_set_ne e]
theorem qfT (h:zC 0 L m) (hl:L.length≤64):Z2 m 0=ZW L:=by
 cases hf:ZW L with
 | none =>
  refine qcm (fun j hj=>?_)
  rw [h.2 j] at hj
  cases hs:L[j]? with
  | none=>rw [hs] at hj; cases hj
  | some s=>rw [hs] at hj; exact absurd (of_decide_eq_true hj) (qbv.1 hf s (List.mem_of_getElem? hs))
 | some i =>
  obtain ⟨s,hs,h0,hlow⟩:=YZ hf
  have hi:=(List.getElem?_eq_some_iff.1 hs).1
  refine qcl (by omega) (by rw [h.at hs]; exact decide_eq_true h0) (by omega) (fun j hj hb=>?_)
  rw [h.2 j] at hb
  cases ht:L[j]? with
  | none=>rw [ht] at hb; cases hb
  | some t=>rw [ht] at hb; exact absurd (of_decide_eq_true hb) (hlow j t hj ht)
theorem qa6 (h:zC n L m) (hl:L.length≤64) (hs:L[i]?=some s):(m &&& Z9 (i:Int)≠0)↔s.st=n:=by
 have hi:=(List.getElem?_eq_some_iff.1 hs).1
 rw [qef (by omega)]
 have hb:=h.at hs
 constructor
 ·intro hne
  by_cases e:s.st=n
  ·exact e
  ·exfalso
   apply hne
   apply Nat.eq_of_testBit_eq
   intro j
   rw [Nat.testBit_and,Nat.testBit_two_pow,Nat.zero_testBit]
   by_cases ej:i=j
   ·subst ej; rw [hb,decide_eq_false e]; rfl
   ·rw [decide_eq_false ej,Bool.and_false]
 ·intro e h0
  have:=congrArg (fun z=>Nat.testBit z i) h0
  simp only [Nat.testBit_and,Nat.testBit_two_pow,Nat.zero_testBit,hb,decide_eq_true e,decide_true,Bool.and_self] at this
  cases this
def Ki (S:Sct) (began:Int) (left:Nat) (r:Int):Nat × Bool:=if left &&& Z9 r=0∨(0<(ofS S r).2∧(ofS S r).2≤began) then (left,false) else (ZQ left [r],true)
theorem qpC {xb left:Nat} {place r:Int} (hok:qbA S) (hl64:left<18446744073709551616) (hm:(sb,.cells 250 130 (scC S))∈H) :qh Tryz.prog w0 336 #[zp xb,zi r] ((xb,.cells 485 4 [zp sb,zu ((left:Nat):Int),zi began,zi place])::H) (fun v H'=>v=.bool (Ki S began left r).2∧H'=(xb,.cells 485 4 [zp sb,zu (((Ki S began left r).1:Nat):Int),zi began,zi place])::H):=by
 refine qc (l:=[zp xb,zi r]) Tryz.func336 rfl Tryz.ntmps336 rfl rfl ?_
 refine za 5 rfl ?_
 rcases (show left &&& Z9 r=0∨(left &&& Z9 r≠0∧¬ 0<(ofS S r).2)∨(left &&& Z9 r≠0∧0<(ofS S r).2∧(ofS S r).2≤began)∨(left &&& Z9 r≠0∧0<(ofS S r).2∧¬ (ofS S r).2≤began) by omega) with hb | ⟨hb,h1⟩ | ⟨hb,h1,h2⟩ | ⟨hb,h1,h2⟩
 ·skip
  refine Yw zk zK (zq 3 rfl ?_)
  refine qG (qj (v:=zu ((left:Nat):Int)) rfl Qa rfl (qf.own (b:=xb) zM rfl)) rfl ?_
  refine zq 1 rfl ?_
  refine Ja (zc2 rfl rfl) Tryz.call332 rfl (T:=fun _=>True) trivial (JL hl64) ?_
  first | rw [decide_eq_true hb] | rw [decide_eq_false (fun h=>h hb)]
  refine zq 10 rfl (QB rfl rfl rfl (QB rfl rfl rfl (QB rfl rfl rfl (QB rfl rfl rfl (QB rfl rfl rfl (QB rfl rfl rfl (QB rfl rfl rfl ?_)))))))
  refine QB rfl rfl rfl (QB rfl rfl rfl (QB rfl rfl rfl (QB rfl rfl rfl (zq 1 rfl ?_))))
  first | refine qG (zx rfl rfl) rfl ?_ | refine qG (zy rfl rfl) rfl ?_
  refine zX (za 4 rfl ?_)
  refine qd (H2:=(xb,.cells 485 4 [zp sb,zu ((left:Nat):Int),zi began,zi place])::H) Tryz.results336 rfl (.nil _) zH ?_
  rw [show Ki S began left r=(left,false) from if_pos (.inl hb)]
  exact ⟨rfl,rfl⟩
 ·skip
  refine Yw zk zK (zq 3 rfl ?_)
  refine qG (qj (v:=zu ((left:Nat):Int)) rfl Qa rfl (qf.own (b:=xb) zM rfl)) rfl ?_
  refine zq 1 rfl ?_
  refine Ja (zc2 rfl rfl) Tryz.call332 rfl (T:=fun _=>True) trivial (JL hl64) ?_
  first | rw [decide_eq_true hb] | rw [decide_eq_false (fun h=>h hb)]
  refine zq 9 rfl ?_
  refine qG (qj (v:=zp sb) rfl X0 rfl (qf.own (b:=xb) zM rfl)) rfl ?_
  refine zq 3 rfl (Zx (zc2 rfl rfl) Tryz.call397 rfl (Kh hok (List.mem_cons_of_mem _ hm)) (zq 2 rfl ?_))
  first | rw [decide_eq_true (by omega)] | rw [decide_eq_false (by omega)]
  refine zq 14 rfl ?_
  first | refine qG (zx rfl rfl) rfl ?_ | refine qG (zy rfl rfl) rfl ?_
  first | refine qG (zx rfl rfl) rfl ?_ | refine qG (zy rfl rfl) rfl ?_
  refine zX (za 7 rfl ?_)
  refine qe (v:=zu ((left:Nat):Int)) rfl Qa rfl (qf.own (b:=xb) zM rfl) rfl ?_
  refine qD rfl rfl ?_
  refine qy (l:=[zi r]) qZ ty3 (.cons rfl rfl rfl rfl rfl .nil) rfl rfl rfl rfl rfl rfl rfl (fun b40=>?_)
  refine qn (zc2 rfl rfl) Tryz.call141 rfl (qch (m:=left) (l:=[r]) (cap:=1) hl64 (by show 1≤4611686018427387904; decide) (Holds.own (b:=b40) zM)) ?_
  refine za 2 rfl ?_
  refine qv (l':=[zp sb,zu (((ZQ left [r]):Nat):Int),zi began,zi place]) rfl rfl Qa rfl rfl (b:=xb) zM rfl rfl zU ?_
  refine za 4 rfl ?_
  refine qd (H2:=(xb,.cells 485 4 [zp sb,zu (((ZQ left [r]):Nat):Int),zi began,zi place])::H) Tryz.results336 rfl (.nil _) zH ?_
  rw [show Ki S began left r=(ZQ left [r],true) from if_neg (by rintro (c | c); exact hb c; omega)]
  exact ⟨rfl,rfl⟩
 ·skip
  refine Yw zk zK (zq 3 rfl ?_)
  refine qG (qj (v:=zu ((left:Nat):Int)) rfl Qa rfl (qf.own (b:=xb) zM rfl)) rfl ?_
  refine zq 1 rfl ?_
  refine Ja (zc2 rfl rfl) Tryz.call332 rfl (T:=fun _=>True) trivial (JL hl64) ?_
  first | rw [decide_eq_true hb] | rw [decide_eq_false (fun h=>h hb)]
  refine zq 9 rfl ?_
  refine qG (qj (v:=zp sb) rfl X0 rfl (qf.own (b:=xb) zM rfl)) rfl ?_
  refine zq 3 rfl (Zx (zc2 rfl rfl) Tryz.call397 rfl (Kh hok (List.mem_cons_of_mem _ hm)) (zq 2 rfl ?_))
  first | rw [decide_eq_true (by omega)] | rw [decide_eq_false (by omega)]
  refine zq 9 rfl ?_
  refine qG (qj (v:=zp sb) rfl X0 rfl (qf.own (b:=xb) zM rfl)) rfl ?_
  refine zq 3 rfl (Zx (zc2 rfl rfl) Tryz.call397 rfl (Kh hok (List.mem_cons_of_mem _ hm)) (zq 7 rfl ?_))
  refine qG (qj (v:=zi began) rfl ty3 rfl (qf.own (b:=xb) zM rfl)) rfl ?_
  refine zq 2 rfl ?_
  first | rw [decide_eq_true (by omega)] | rw [decide_eq_false (by omega)]
  refine zq 1 rfl ?_
  first | refine qG (zx rfl rfl) rfl ?_ | refine qG (zy rfl rfl) rfl ?_
  first | refine qG (zx rfl rfl) rfl ?_ | refine qG (zy rfl rfl) rfl ?_
  refine zX (za 4 rfl ?_)
  refine qd (H2:=(xb,.cells 485 4 [zp sb,zu ((left:Nat):Int),zi began,zi place])::H) Tryz.results336 rfl (.nil _) zH ?_
  rw [show Ki S began left r=(left,false) from if_pos (.inr ⟨h1,h2⟩)]
  exact ⟨rfl,rfl⟩
 ·skip
  refine Yw zk zK (zq 3 rfl ?_)
  refine qG (qj (v:=zu ((left:Nat):Int)) rfl Qa rfl (qf.own (b:=xb) zM rfl)) rfl ?_
  refine zq 1 rfl ?_
  refine Ja (zc2 rfl rfl) Tryz.call332 rfl (T:=fun _=>True) trivial (JL hl64) ?_
  first | rw [decide_eq_true hb] | rw [decide_eq_false (fun h=>h hb)]
  refine zq 9 rfl ?_
  refine qG (qj (v:=zp sb) rfl X0 rfl (qf.own (b:=xb) zM rfl)) rfl ?_
  refine zq 3 rfl (Zx (zc2 rfl rfl) Tryz.call397 rfl (Kh hok (List.mem_cons_of_mem _ hm)) (zq 2 rfl ?_))
  first | rw [decide_eq_true (by omega)] | rw [decide_eq_false (by omega)]
  refine zq 9 rfl ?_
  refine qG (qj (v:=zp sb) rfl X0 rfl (qf.own (b:=xb) zM rfl)) rfl ?_
  refine zq 3 rfl (Zx (zc2 rfl rfl) Tryz.call397 rfl (Kh hok (List.mem_cons_of_mem _ hm)) (zq 7 rfl ?_))
  refine qG (qj (v:=zi began) rfl ty3 rfl (qf.own (b:=xb) zM rfl)) rfl ?_
  refine zq 2 rfl ?_
  first | rw [decide_eq_true (by omega)] | rw [decide_eq_false (by omega)]
  refine zq 1 rfl ?_
  first | refine qG (zx rfl rfl) rfl ?_ | refine qG (zy rfl rfl) rfl ?_
  first | refine qG (zx rfl rfl) rfl ?_ | refine qG (zy rfl rfl) rfl ?_
  refine zX (za 7 rfl ?_)
  refine qe (v:=zu ((left:Nat):Int)) rfl Qa rfl (qf.own (b:=xb) zM rfl) rfl ?_
  refine qD rfl rfl ?_
  refine qy (l:=[zi r]) qZ ty3 (.cons rfl rfl rfl rfl rfl .nil) rfl rfl rfl rfl rfl rfl rfl (fun b40=>?_)
  refine qn (zc2 rfl rfl) Tryz.call141 rfl (qch (m:=left) (l:=[r]) (cap:=1) hl64 (by show 1≤4611686018427387904; decide) (Holds.own (b:=b40) zM)) ?_
  refine za 2 rfl ?_
  refine qv (l':=[zp sb,zu (((ZQ left [r]):Nat):Int),zi began,zi place]) rfl rfl Qa rfl rfl (b:=xb) zM rfl rfl zU ?_
  refine za 4 rfl ?_
  refine qd (H2:=(xb,.cells 485 4 [zp sb,zu (((ZQ left [r]):Nat):Int),zi began,zi place])::H) Tryz.results336 rfl (.nil _) zH ?_
  rw [show Ki S began left r=(ZQ left [r],true) from if_neg (by rintro (c | c); exact hb c; omega)]
  exact ⟨rfl,rfl⟩
theorem qdd (hl:S.D.length=64) (hm:(sb,.cells 250 130 (scC S))∈H) :qh Tryz.prog w0 250 #[zp sb] (H) (fun v H'=>∃ xb,v=zp xb∧H'=(xb,.cells 485 4 [zp sb,zu ((S.m:Nat):Int),zi S.st,zi 0])::H):=by
 refine qc (l:=[zp sb]) Tryz.func250 rfl Tryz.ntmps250 rfl rfl ?_
 refine za 6 rfl (qn (zc1 rfl) Tryz.call340 rfl (sIn_q hl hm) (qD rfl rfl (qn (zc1 rfl) Tryz.call341 rfl (qi9 hl hm) ?_)))
 refine qX (l:=[zp sb,zu ((S.m:Nat):Int),zi S.st,zi 0]) ty485 pl485 (.cons rfl rfl rfl rfl rfl (.cons rfl rfl rfl rfl rfl (.cons rfl rfl rfl rfl rfl .nil))) rfl rfl rfl ?_
 refine qK (l:=[zp sb,zu ((S.m:Nat):Int),zi S.st,zi 0]) rfl rfl rfl (fun b9=>?_)
 refine za 2 rfl (qd Tryz.results250 rfl (.nil _) (.refl _) ?_)
 exact ⟨b9,rfl,rfl⟩
def X8 (S:Sct) (began:Int):Nat→Nat→Int→Nat × Int
 | 0,l,p=>(l,p)
 | k+1,l,p=>match zN l p with
  | some r=>X8 S began k (Ki S began l (r:Int)).1 (((r+1)%64:Nat):Int)
  | none=>(l,p)
theorem qgF:∀ (k x:Nat),QF k x≤k
 | 0,_=>by simp [QF]
 | k+1,x=>by
  have:=qgF k x
  simp only [QF]
  have:=Bool.toNat_le (x.testBit k)
  omega
theorem qeQ {l:Nat} {r:Int} (h:l<18446744073709551616):(Ki S began l r).1<18446744073709551616:=by
 unfold Ki; split
 ·exact h
 ·exact qam _ h
theorem qin {l r:Nat} {p:Int} (h:zN l p=some r):r<64:=by
 unfold zN at h
 cases h1:Z2 l p with
 | some a=>rw [h1] at h; obtain rfl:=Option.some.inj h; exact (JZ h1).1
 | none=>rw [h1] at h; exact (JZ h).1
theorem qfF {xb left:Nat} {place:Int} (hok:qbA S) (hl64:left<18446744073709551616) (hm:(sb,.cells 250 130 (scC S))∈H) (hT:Tab w0):qh Tryz.prog w0 246 #[zp xb,zi (n:Int)] ((xb,.cells 485 4 [zp sb,zu ((left:Nat):Int),zi began,zi place])::H) (fun v H'=>v=zi ((QF 64 (X8 S began (min n (QF 64 left)) left place).1:Nat):Int)∧H'=(xb,.cells 485 4 [zp sb,zu (((X8 S began (min n (QF 64 left)) left place).1:Nat):Int),zi began,zi (X8 S began (min n (QF 64 left)) left place).2])::H):=by
 obtain ⟨N0,hN0⟩:∃ N0,N0=min n (QF 64 left):=⟨_,rfl⟩
 rw [← hN0]
 have hp64:QF 64 left≤64:=qgF _ _
 refine qc (l:=[zp xb,zi (n:Int)]) Tryz.func246 rfl Tryz.ntmps246 rfl rfl ?_
 refine za 3 rfl ?_
 refine KN (fun _ _ _ h=>h) ?_
 refine za 3 rfl ?_
 refine W_x (qr rfl rfl JG) (fun _ h=>by cases h) rfl ?_
 refine za 8 rfl ?_
 refine qe (v:=zu ((left:Nat):Int)) rfl Qa rfl (qf.own (b:=xb) zM rfl) rfl ?_
 refine qT (zc1 rfl) Tryz.call222 rfl (T:=fun _=>True) trivial (Xh hl64) ?_
 refine qmd rfl rfl (m:=(N0:Int)) (by rw [hN0]; split <;> omega) rfl ?_
 refine za 3 rfl (qbR (za 5 rfl ?_))
 refine qU (X:=(Nat × Nat × Int)) [(0,_),(1,_)] (fun (z:(Nat × Nat × Int))=>[(5,zi (z.1:Int)),(1,zi (N0:Int))]) (fun _=>_) (fun (z:(Nat × Nat × Int))=>(xb,.cells 485 4 [zp sb,zu ((z.2.1:Nat):Int),zi began,zi z.2.2])::H) (fun (z:(Nat × Nat × Int))=>z.1≤N0∧z.2.1<18446744073709551616∧X8 S began N0 left place=X8 S began (N0-z.1) z.2.1 z.2.2) (fun (z:(Nat × Nat × Int))=>N0-z.1) (0,left,place) ⟨Nat.zero_le _,hl64,rfl⟩ (qa rfl (qa rfl (qi _))) (qa rfl (qa rfl (qi _))) rfl zH ?_
 rintro ⟨i,l,p⟩ ⟨hi,hl,hpf⟩
 dsimp only at hi hl hpf ⊢
 simp only [List.cons_append,List.nil_append]
 refine za 6 rfl ?_
 refine qm (p:=(i:Int)<(N0:Int)) rfl (by simp) (fun q0=>?_) (fun q0=>?_)
 ·skip
  refine za 4 rfl ?_
  rcases har:zN l p with _ | rr
  ·skip
   refine Yw zk zK (zq 3 rfl ?_)
   refine qG (qj (v:=zu ((l:Nat):Int)) rfl Qa rfl (qf.own (b:=xb) zM rfl)) rfl ?_
   refine zq 3 rfl ?_
   refine qG (qj (v:=zi p) rfl ty3 rfl (qf.own (b:=xb) zM rfl)) rfl ?_
   refine Ja (zc2 rfl rfl) Tryz.call335 rfl hT (Kt (m:=l) (f:=p) hl) ?_
   rw [show Je l p=.tuple #[zi 0,.bool false] by unfold Je; rw [har]]
   refine zq 5 rfl (zX (za 11 rfl ?_))
   refine qe (v:=zu ((l:Nat):Int)) rfl Qa rfl (qf.own (b:=xb) zM rfl) rfl ?_
   refine qT (zc1 rfl) Tryz.call222 rfl (T:=fun _=>True) trivial (Xh hl) ?_
   refine za 2 rfl ?_
   refine qd (H2:=(xb,.cells 485 4 [zp sb,zu ((l:Nat):Int),zi began,zi p])::H) Tryz.results246 rfl (.nil _) zH ?_
   have e:X8 S began N0 left place=(l,p):=by
    rw [hpf]
    rw [show N0-i=(N0-i-1)+1 by omega]; show (match zN l p with | some r=>_ | none=>_)=_; rw [har]
   rw [e]
   exact ⟨rfl,rfl⟩
  ·skip
   have hrr:=qin har
   refine Yw zk zK (zq 3 rfl ?_)
   refine qG (qj (v:=zu ((l:Nat):Int)) rfl Qa rfl (qf.own (b:=xb) zM rfl)) rfl ?_
   refine zq 3 rfl ?_
   refine qG (qj (v:=zi p) rfl ty3 rfl (qf.own (b:=xb) zM rfl)) rfl ?_
   refine Ja (zc2 rfl rfl) Tryz.call335 rfl hT (Kt (m:=l) (f:=p) hl) ?_
   rw [show Je l p=.tuple #[zi (rr:Int),.bool true] by unfold Je; rw [har]]
   refine zq 5 rfl (zX (za 10 rfl ?_))
   refine qk (zc2 rfl rfl) Tryz.call336 rfl (qh.hsub (qpC (xb:=xb) (left:=l) (place:=p) (r:=(rr:Int)) hok hl hm (H:=H)) zH) ?_
   rintro v H' ⟨rfl,rfl⟩
   refine za 4 rfl ?_
   refine qE rfl rfl (qQ (m:=((rr+1:Nat):Int)) (by rw [zg (by omega)]; omega)) rfl ?_
   refine qE rfl rfl (YK (by decide) (m:=(((rr+1)%64:Nat):Int)) (by rw [Int.tmod_eq_emod_of_nonneg (by omega)]; omega)) rfl ?_
   refine za 2 rfl ?_
   refine qv (l':=[zp sb,zu (((Ki S began l (rr:Int)).1:Nat):Int),zi began,zi (((rr+1)%64:Nat):Int)]) rfl rfl ty3 rfl rfl (b:=xb) zM rfl rfl zU ?_
   refine za 4 rfl ?_
   refine qE rfl rfl (qQ (m:=((i+1:Nat):Int)) ((zg zO).trans zO)) rfl ?_
   refine za 2 rfl ?_
   refine qP (i+1,(Ki S began l (rr:Int)).1,(((rr+1)%64:Nat):Int)) ⟨by show i+1≤N0; omega,qeQ hl,by rw [hpf,show N0-i=(N0-(i+1))+1 by omega]; show (match zN l p with | some r=>_ | none=>_)=_; rw [har]⟩ (by show N0-(i+1)<N0-i; omega) (qa rfl (qa rfl (qa rfl (qa rfl (qi _))))) rfl zH
 ·skip
  refine za 5 rfl ?_
  refine qe (v:=zu ((l:Nat):Int)) rfl Qa rfl (qf.own (b:=xb) zM rfl) rfl ?_
  refine qT (zc1 rfl) Tryz.call222 rfl (T:=fun _=>True) trivial (Xh hl) ?_
  refine za 2 rfl ?_
  refine qd (H2:=(xb,.cells 485 4 [zp sb,zu ((l:Nat):Int),zi began,zi p])::H) Tryz.results246 rfl (.nil _) zH ?_
  have e:X8 S began N0 left place=(l,p):=by
   rw [hpf]
   rw [show N0-i=0 by omega]; rfl
  rw [e]
  exact ⟨rfl,rfl⟩
theorem qbA.start:qbA ⟨List.replicate 64 (0,0),0,0⟩ where
 len:=List.length_replicate
 rng:=fun p hp=>by obtain rfl:=(List.mem_replicate.1 hp).2; decide
 m64:=by decide
 bit:=fun i=>by
  rw [Nat.zero_testBit]
  by_cases h:i<64
  ·rw [List.getElem?_replicate,if_pos h]; rfl
  ·rw [List.getElem?_replicate,if_neg h]
structure JK {α:Type} (R:Nat) (l buf:List α) (h:Nat):Prop where
 pos:0<R
 room:R≤256
 len:buf.length=R
 head:h<R
 most:l.length≤R
 at_:∀ (i:Nat) x,l[i]?=some x→buf[(h+i)%R]?=some x
theorem qgC {buf:List α} {j:Nat} {x y:α} (h:buf[j]?=some y) (hne:i≠j):(buf.set i x)[j]?=some y:=by rw [List.getElem?_set_ne hne]; exact h
theorem JK.pop {z:α} {x:α} {l buf:List α} (hI:JK R (x::l) buf h):JK R l (buf.set h z) ((h+1)%R):=by
 obtain ⟨h1,h2,h3,h4,h5,h6⟩:=hI
 simp only [List.length_cons] at h5
 refine ⟨h1,h2,by rw [List.length_set,h3],Nat.mod_lt _ h1,by omega,fun i y hy=>?_⟩
 have hi:=(List.getElem?_eq_some_iff.1 hy).1
 have e:((h+1)%R+i)%R=(h+(i+1))%R:=by rw [Nat.mod_add_mod]; congr 1; omega
 rw [e]
 refine qgC (h6 (i+1) y (by simpa using hy)) ?_
 by_cases c:h+(i+1)<R
 ·rw [Nat.mod_eq_of_lt c]; omega
 ·have e2:(h+(i+1))%R=h+(i+1)-R:=by rw [Nat.mod_eq_sub_mod (by omega),Nat.mod_eq_of_lt (by omega)]
  omega
theorem JK.push {x:α} {l buf:List α} (hI:JK R l buf h) (hr:l.length<R):JK R (l++[x]) (buf.set ((h+l.length)%R) x) h:=by
 obtain ⟨h1,h2,h3,h4,h5,h6⟩:=hI
 refine ⟨h1,h2,by rw [List.length_set,h3],h4,by rw [List.length_append,List.length_singleton]; exact hr,fun i y hy=>?_⟩
 have hm:(h+l.length)%R<R:=Nat.mod_lt _ h1
 by_cases c:i=l.length
 ·subst c
  rw [List.getElem?_append_right (Nat.le_refl _),Nat.sub_self] at hy
  obtain rfl:x=y:=by simpa using hy
  rw [List.getElem?_set_self (by omega)]
 ·have hi:=(List.getElem?_eq_some_iff.1 hy).1
  rw [List.length_append,List.length_singleton] at hi
  rw [List.getElem?_append_left (by omega)] at hy
  refine qgC (h6 i y hy) (fun e=>c ?_)
  have e1:∀ k,k<R→(h+k)%R=if h+k<R then h+k else h+k-R:=fun k hk=>by
   split
   ·rename_i q; exact Nat.mod_eq_of_lt q
   ·rename_i q; rw [Nat.mod_eq_sub_mod (by omega),Nat.mod_eq_of_lt (by omega)]
  rw [e1 _ hr,e1 i (by omega)] at e
  split at e <;> split at e <;> omega
theorem qhp (a b:Nat):((a:Int)).tmod (b:Int)=((a%b:Nat):Int):=by
 rw [Int.tmod_eq_emod_of_nonneg (Int.natCast_nonneg _)]; exact (Int.natCast_emod _ _).symm
theorem qaF (hm:(rb,.cells 493 3 [.slice (some ⟨b,0,none⟩) R R,zi ((h:Nat):Int),zi ((n:Nat):Int)])∈H) (hp:0<R) (hR:R≤256) (hh:h<R) (hi:i≤1000000) :qB Tryz.prog w0 H 342 [zp rb,zi (i:Int)] (zi (((h+i)%R:Nat):Int)):=by
 refine qc Tryz.func342 rfl Tryz.ntmps342 rfl rfl (za 3 rfl (zh zk zK (zq 3 rfl ?_)))
 refine qG (qj (v:=zi ((h:Nat):Int)) rfl ty3 rfl (qf.own (b:=rb) hm rfl)) rfl ?_
 refine zq 1 rfl ?_
 refine qG (QU rfl rfl (qQ (m:=((h+i:Nat):Int)) (by rw [zg (by omega)]; omega))) rfl ?_
 refine zq 3 rfl ?_
 refine qG (qj (v:=.slice (some ⟨b,0,none⟩) R R) rfl QR rfl (qf.own (b:=rb) hm rfl)) rfl ?_
 refine qG (Ku rfl QR rfl) rfl ?_
 refine qG (QU rfl rfl (YK zO (m:=(((h+i)%R:Nat):Int)) (qhp (h+i) R))) rfl ?_
 refine zq 1 rfl (zX ?_)
 refine qd (H2:=H) Tryz.results342 rfl (.nil _) zH ?_
 exact ⟨rfl,rfl⟩
theorem qlR (hm:(rb,.cells 493 3 [.slice (some ⟨b,0,none⟩) R R,zi ((h:Nat):Int),zi ((n:Nat):Int)])∈H) :qB Tryz.prog w0 H 401 [zp rb] (zi (n:Int)):=by
 refine qc Tryz.func401 rfl Tryz.ntmps401 rfl rfl (za 6 rfl ?_)
 refine W_x (qr rfl rfl Jq) (fun _ h=>by cases h) rfl ?_
 refine za 7 rfl ?_
 refine qe (v:=zi ((n:Nat):Int)) rfl ty3 rfl (qf.own (b:=rb) hm rfl) rfl ?_
 refine za 2 rfl ?_
 refine qd (H2:=H) Tryz.results401 rfl (.nil _) zH ?_
 exact ⟨rfl,rfl⟩
inductive Yy (R rb:Nat) (l:List (Int × Int)):qg→Prop
 | mk {b h:Nat} {buf:List (Int × Int)} (hI:JK R l buf h):Yy R rb l [(rb,.cells 493 3 [.slice (some ⟨b,0,none⟩) R R,.int .i64 ((h:Nat):Int),.int .i64 ((l.length:Nat):Int)]),(b,.cells 391 (R*2) ((buf).flatMap rdC))]
def atC (l:List (Int × Int)):Value:=match l with
 | x::_=>.tuple #[.agg (List.toArray (rdC x)),.bool true]
 | []=>.tuple #[.agg (List.toArray (rdC (0,0))),.bool false]
theorem qn6 (hm:(rb,.cells 493 3 [.slice (some ⟨b,0,none⟩) R R,zi ((h:Nat):Int),zi ((l.length:Nat):Int)])∈H) (hb:(b,.cells 391 (R*2) ((buf).flatMap rdC))∈H) (hI:JK R l buf h) (hl:l=[]) :qB Tryz.prog w0 H 399 [zp rb,zi 0] (atC l):=by
 refine qc Tryz.func399 rfl Tryz.ntmps399 rfl rfl (ze ?_)
 refine qp (l:=rdC (0,0)) zo rfl rfl (fun b4=>?_)
 refine za 5 rfl ?_
 refine W_x (qr rfl rfl Jq) (fun _ h=>by cases h) rfl ?_
 refine za 16 rfl ?_
 refine qe (v:=zi ((l.length:Nat):Int)) rfl ty3 rfl (qf.own (b:=rb) (by repeat (first | exact hm | exact hb | exact List.mem_cons_self | apply List.mem_cons_of_mem | apply List.mem_append_right)) rfl) rfl ?_
 refine za 2 rfl ?_
 rw [decide_eq_true (by rw [hl]; decide)]
 refine za 4 rfl ?_
 refine qp (l:=rdC (0,0)) zo rfl rfl (fun b6=>?_)
 refine za 2 rfl ?_
 refine qJ (vs:=rdC (0,0)) rfl zo rfl (b:=b6) zM rfl rfl rfl ?_
 refine ql (l':=rdC (0,0)) rfl rfl zo rfl rfl (b:=b4) zM (by exact Nat.le_refl 2) rfl zU ?_
 refine za 2 rfl ?_
 refine zc (H2:=H) Tryz.results399 (.nil _) (.own rfl zo rfl zM rfl) (.tmp rfl) zH ?_
 subst hl
 exact ⟨rfl,rfl⟩
theorem qpY (hm:(rb,.cells 493 3 [.slice (some ⟨b,0,none⟩) R R,zi ((h:Nat):Int),zi (((x::l).length:Nat):Int)])∈H) (hb:(b,.cells 391 (R*2) ((buf).flatMap rdC))∈H) (hI:JK R (x::l) buf h) :qB Tryz.prog w0 H 399 [zp rb,zi 0] (atC (x::l)):=by
 have hmost:=hI.most
 simp only [List.length_cons] at hmost
 refine qc Tryz.func399 rfl Tryz.ntmps399 rfl rfl (ze ?_)
 refine qp (l:=rdC (0,0)) zo rfl rfl (fun b4=>?_)
 refine za 5 rfl ?_
 refine W_x (qr rfl rfl Jq) (fun _ h=>by cases h) rfl ?_
 refine za 16 rfl ?_
 refine qe (v:=zi (((x::l).length:Nat):Int)) rfl ty3 rfl (qf.own (b:=rb) (by repeat (first | exact hm | exact hb | exact List.mem_cons_self | apply List.mem_cons_of_mem | apply List.mem_append_right)) rfl) rfl ?_
 refine za 2 rfl ?_
 rw [decide_eq_false (by simp only [List.length_cons]; omega)]
 refine za 5 rfl ?_
 have hbx:=hI.at_ 0 x rfl
 have hbl:=hI.len
 have hpl:(h+0)%R<R:=Nat.mod_lt _ hI.pos
 refine W_anyC H zk ?_
 refine zw [0,1,2] rfl rfl ?_
 refine WC_take 3 rfl zK zK zK rfl rfl (qj (v:=.slice (some ⟨b,0,none⟩) R R) rfl QR rfl (qf.own (b:=rb) (by repeat (first | exact hm | exact hb | exact List.mem_cons_self | apply List.mem_cons_of_mem | apply List.mem_append_right)) rfl)) rfl ?_
 refine zw [4,5] rfl rfl ?_
 refine WC_one 6 zH zK rfl rfl ?_
 refine qn (zc2 rfl rfl) Tryz.call342 rfl (qaF (i:=0) (n:=(x::l).length) (by repeat (first | exact hm | exact hb | exact List.mem_cons_self | apply List.mem_cons_of_mem | apply List.mem_append_right)) hI.pos hI.room hI.head zO) ?_
 refine qs (WC_goal ?_)
 refine WC_take 7 rfl zK zK zK rfl rfl (qW (j:=(h+0)%R) rfl rfl QR zo (by first | rfl | omega) (by first | decide | omega | simp) rfl) rfl ?_
 refine WC_take 8 rfl zK zK zK rfl rfl (Qm (vs:=rdC x) rfl zo rfl (b:=b) (by repeat (first | exact hm | exact hb | exact List.mem_cons_self | apply List.mem_cons_of_mem | apply List.mem_append_right)) (by rw [Nat.ble_eq,zt ZP]; omega) (by rw [Nat.zero_add]; exact Ji (o:=0) (m:=2) ZP hbx (by decide))) rfl ?_
 refine WC_one 9 zH zK rfl rfl ?_
 refine ql (l':=rdC x) rfl rfl zo rfl rfl (b:=b4) zM (by exact Nat.le_refl 2) rfl zU ?_
 refine qs (WC_goal (zw [10] rfl rfl (WC_done zH zK ?_)))
 refine zc (H2:=H) Tryz.results399 (.nil _) (.own rfl zo rfl zM rfl) (.tmp rfl) zH ?_
 exact ⟨rfl,rfl⟩
theorem qoV (hm:(rb,.cells 493 3 [.slice (some ⟨b,0,none⟩) R R,zi ((h:Nat):Int),zi ((l.length:Nat):Int)])∈H) (hb:(b,.cells 391 (R*2) ((buf).flatMap rdC))∈H) (hI:JK R l buf h):qB Tryz.prog w0 H 399 [zp rb,zi 0] (atC l):=by
 cases l with
 | nil=>exact qn6 hm hb hI rfl
 | cons x l=>exact qpY hm hb hI
theorem qn4 (hI:JK R (x::l) buf h) :qh Tryz.prog w0 400 #[zp rb] ((rb,.cells 493 3 [.slice (some ⟨b,0,none⟩) R R,zi ((h:Nat):Int),zi (((x::l).length:Nat):Int)])::(b,.cells 391 (R*2) ((buf).flatMap rdC))::H) (fun v H'=>v=.tuple #[.agg (List.toArray (rdC x)),.bool true]∧H'=(rb,.cells 493 3 [.slice (some ⟨b,0,none⟩) R R,zi (((h+1)%R:Nat):Int),zi ((l.length:Nat):Int)])::(b,.cells 391 (R*2) ((List.set buf h (0,0)).flatMap rdC))::H):=by
 have hmost:=hI.most
 have hroom:=hI.room
 have hbl:=hI.len
 have hhd:=hI.head
 simp only [List.length_cons] at hmost
 refine qc (l:=[zp rb]) Tryz.func400 rfl Tryz.ntmps400 rfl rfl ?_
 refine ze ?_
 refine qp (l:=rdC (0,0)) zo rfl rfl (fun b2=>?_)
 refine za 4 rfl (qn (zc2 rfl rfl) Tryz.call399 rfl (qoV zM zM hI) ?_)
 rw [show atC (x::l)=.tuple #[.agg (List.toArray (rdC x)),.bool true] from rfl]
 refine za 3 rfl ?_
 refine qp (l:=rdC (0,0)) zo rfl rfl (fun b4=>?_)
 refine ql (l':=rdC x) rfl rfl zo rfl rfl (b:=b4) zM (by exact Nat.le_refl 2) rfl zU ?_
 refine za 8 rfl ?_
 refine qp (l:=rdC (0,0)) zo rfl rfl (fun b6=>?_)
 refine za 2 rfl ?_
 refine W_anyC [(rb,.cells 493 3 [.slice (some ⟨b,0,none⟩) R R,zi ((h:Nat):Int),zi (((x::l).length:Nat):Int)]),(b6,.cells 391 2 (rdC (0,0)))] zk ?_
 refine zw [0,1,2] rfl rfl ?_
 refine WC_take 3 rfl zK zK zK rfl rfl (qj (v:=.slice (some ⟨b,0,none⟩) R R) rfl QR rfl (qf.own (b:=rb) zM rfl)) rfl ?_
 refine zw [4,5,6] rfl rfl ?_
 refine WC_take 7 rfl zK zK zK rfl rfl (qj (v:=zi ((h:Nat):Int)) rfl ty3 rfl (qf.own (b:=rb) zM rfl)) rfl ?_
 refine WC_take 8 rfl zK zK zK rfl rfl (Qm (vs:=rdC (0,0)) rfl zo rfl (b:=b6) zM rfl rfl) rfl ?_
 refine WC_take 9 rfl zK zK zK rfl rfl (qW (j:=h) rfl rfl QR zo (by first | rfl | omega) (by first | decide | omega | simp) rfl) rfl ?_
 refine WC_one 10 zH zK rfl rfl ?_
 refine ql (l':=(List.set buf (h) (0,0)).flatMap rdC) rfl rfl zo rfl rfl (b:=b) zM (by rw [zt ZP]; omega) (by rw [Nat.zero_add]; exact Xl ZP (0,0) (by omega)) zU ?_
 refine qs (WC_goal (WC_done zH zK (za 3 rfl ?_)))
 refine qn (zc2 rfl rfl) Tryz.call342 rfl (qaF (i:=1) (n:=(x::l).length) zM hI.pos hI.room hI.head zO) ?_
 refine za 2 rfl ?_
 refine qv (l':=[.slice (some ⟨b,0,none⟩) R R,zi (((h+1)%R:Nat):Int),zi (((x::l).length:Nat):Int)]) rfl rfl ty3 rfl rfl (b:=rb) zM rfl rfl zU ?_
 refine za 5 rfl ?_
 refine qe (v:=zi (((x::l).length:Nat):Int)) rfl ty3 rfl (qf.own (b:=rb) zM rfl) rfl ?_
 refine qE rfl rfl (Zw (m:=((l.length:Nat):Int)) (by rw [zg (by simp only [List.length_cons]; omega)]; simp only [List.length_cons]; omega)) rfl ?_
 refine za 2 rfl ?_
 refine qv (l':=[.slice (some ⟨b,0,none⟩) R R,zi (((h+1)%R:Nat):Int),zi ((l.length:Nat):Int)]) rfl rfl ty3 rfl rfl (b:=rb) zM rfl rfl zU ?_
 refine za 2 rfl ?_
 refine qJ (vs:=rdC x) rfl zo rfl (b:=b4) zM rfl rfl rfl ?_
 refine qD rfl rfl ?_
 refine ql (l':=rdC x) rfl rfl zo rfl rfl (b:=b2) zM (by exact Nat.le_refl 2) rfl zU ?_
 refine za 2 rfl ?_
 refine zc (H2:=(rb,.cells 493 3 [.slice (some ⟨b,0,none⟩) R R,zi (((h+1)%R:Nat):Int),zi ((l.length:Nat):Int)])::(b,.cells 391 (R*2) ((List.set buf h (0,0)).flatMap rdC))::H) Tryz.results400 (.nil _) (.own rfl zo rfl zM rfl) (.tmp rfl) zH ?_
 exact ⟨rfl,rfl⟩
theorem qlP (hR:Yy R rb (x::l) HB):qh Tryz.prog w0 400 #[zp rb] (HB++H) (fun v H'=>∃ HB',Yy R rb l HB'∧v=.tuple #[.agg (List.toArray (rdC x)),.bool true]∧H'=HB'++H):=by
 cases hR with
 | mk hI =>
  refine (qn4 (H:=H) hI).mono ?_
  rintro v H' ⟨rfl,rfl⟩
  exact ⟨_,.mk (hI.pop (z:=(0,0))),rfl,rfl⟩
theorem qfY (h:Holds w0 H ad (rdC x)):∃ b o,ad=some ⟨b,o,none⟩∧Zc w0 H b o (rdC x):=by
 obtain ⟨b,o,e,hc⟩:=Holds.row (l:=[x]) (i:=0) (x:=x) ZP (by decide) (by simpa using h) rfl
 exact ⟨b,o,e,by simpa using hc⟩
theorem qlO (hI:JK R l buf h) (hxc:1≤cap) (hs:Holds w0 H ad (rdC x)) :qh Tryz.prog w0 251 #[zp rb,.slice ad 1 cap] ((rb,.cells 493 3 [.slice (some ⟨b,0,none⟩) R R,zi ((h:Nat):Int),zi ((l.length:Nat):Int)])::(b,.cells 391 (R*2) ((buf).flatMap rdC))::H) (fun v H'=>∃ buf',JK R (if l.length<R then l++[x] else l) buf' h∧v=zi (((if l.length<R then 1 else 0):Nat):Int)∧H'=(rb,.cells 493 3 [.slice (some ⟨b,0,none⟩) R R,zi ((h:Nat):Int),zi (((l.length+(if l.length<R then 1 else 0)):Nat):Int)])::(b,.cells 391 (R*2) ((buf').flatMap rdC))::H):=by
 have hmost:=hI.most
 have hroom:=hI.room
 have hhd:=hI.head
 have hpos:=hI.pos
 have hbl:=hI.len
 obtain ⟨k,hk⟩:∃ k,k=(if l.length<R then 1 else 0):=⟨_,rfl⟩
 rw [← hk]
 have hk1:k≤1:=by rw [hk]; split <;> omega
 have hk2:(k:Int)=min 1 ((R-l.length:Nat):Int):=by rw [hk]; split <;> omega
 refine qc (l:=[zp rb,.slice ad 1 cap]) Tryz.func251 rfl Tryz.ntmps251 rfl rfl ?_
 refine za 6 rfl ?_
 refine W_x (qr rfl rfl Jq) (fun _ h=>by cases h) rfl ?_
 refine za 3 rfl (zh zk zK (zq 1 rfl (qG (Ku rfl QR rfl) rfl (zq 3 rfl ?_))))
 refine qG (qj (v:=.slice (some ⟨b,0,none⟩) R R) rfl QR rfl (qf.own (b:=rb) zM rfl)) rfl ?_
 refine qG (Ku rfl QR rfl) rfl (zq 3 rfl ?_)
 refine qG (qj (v:=zi ((l.length:Nat):Int)) rfl ty3 rfl (qf.own (b:=rb) zM rfl)) rfl ?_
 refine qG (QU rfl rfl (Zw (m:=((R-l.length:Nat):Int)) (by rw [zg (by omega)]; omega))) rfl ?_
 refine qG (ql9 rfl rfl (m:=((k:Nat):Int)) (by rw [hk2]; split <;> omega)) rfl ?_
 refine zq 1 rfl (zX (za 4 rfl ?_))
 refine qcV (hh:=k) rfl QR zo rfl ⟨_,rfl⟩ zO rfl ?_
 refine zZ rfl QR rfl rfl (za 3 rfl ?_)
 refine qU (X:=(Nat × List (Int × Int))) [(0,_),(5,_),(25,_),(26,_)] (fun (z:(Nat × List (Int × Int)))=>[(27,zi (z.1:Int))]) (fun _=>_) (fun (z:(Nat × List (Int × Int)))=>(rb,.cells 493 3 [.slice (some ⟨b,0,none⟩) R R,zi ((h:Nat):Int),zi (((l.length+z.1):Nat):Int)])::(b,.cells 391 (R*2) ((z.2).flatMap rdC))::H) (fun (z:(Nat × List (Int × Int)))=>z.1≤k∧(z.1=0→z.2=buf)∧(z.1=1→z.2=buf.set ((h+l.length)%R) x)) (fun (z:(Nat × List (Int × Int)))=>k-z.1) (0,buf) ⟨Nat.zero_le _,fun _=>rfl,fun e=>(by cases e)⟩ (qa rfl (qa rfl (qa rfl (qa rfl (qi _))))) (qa rfl (qi _)) rfl (.refl _) ?_
 rintro ⟨i,bufi⟩ ⟨hi,hz,ho⟩
 dsimp only at hi hz ho ⊢
 simp only [List.cons_append,List.nil_append]
 refine za 4 rfl ?_
 refine qm (p:=i<k) rfl (by rw [decide_eq_true_eq]; omega) (fun q0=>?_) (fun q0=>?_)
 ·skip
  refine za 4 rfl ?_
  obtain rfl:i=0:=by omega
  obtain rfl:=(hz rfl).symm
  obtain ⟨bs,os,rfl,hcx⟩:=qfY hs
  have hpl:(h+l.length)%R<R:=Nat.mod_lt _ hI.pos
  rw [Nat.add_zero]
  refine qS (j:=0) rfl rfl QR zo rfl zO rfl rfl ?_
  refine qbQ (vs:=rdC x) rfl zo rfl rfl (hcx.up zH) rfl ?_
  refine qp (l:=rdC (0,0)) zo rfl rfl (fun b7=>?_)
  refine ql (l':=rdC x) rfl rfl zo rfl rfl (b:=b7) zM (by exact Nat.le_refl 2) rfl zU ?_
  refine za 2 rfl ?_
  refine W_anyC [(rb,.cells 493 3 [.slice (some ⟨b,0,none⟩) R R,zi ((h:Nat):Int),zi ((l.length:Nat):Int)]),(b7,.cells 391 2 (rdC x))] zk ?_
  refine zw [0,1,2] rfl rfl ?_
  refine WC_take 3 rfl zK zK zK rfl rfl (qj (v:=.slice (some ⟨b,0,none⟩) R R) rfl QR rfl (qf.own (b:=rb) zM rfl)) rfl ?_
  refine zw [4,5,6,7] rfl rfl ?_
  refine WC_take 8 rfl zK zK zK rfl rfl (qj (v:=zi ((l.length:Nat):Int)) rfl ty3 rfl (qf.own (b:=rb) zM rfl)) rfl ?_
  refine WC_take 10 rfl zK zK zK rfl rfl (Qm (vs:=rdC x) rfl zo rfl (b:=b7) zM rfl rfl) rfl ?_
  refine WC_one 9 zH zK rfl rfl ?_
  refine qn (zc2 rfl rfl) Tryz.call342 rfl (qaF (i:=l.length) (n:=l.length) zM hpos hroom hhd zO) ?_
  refine qs (WC_goal ?_)
  refine WC_take 11 rfl zK zK zK rfl rfl (qW (j:=(h+l.length)%R) rfl rfl QR zo (by first | rfl | omega) (by first | decide | omega | simp) rfl) rfl ?_
  refine WC_one 12 zH zK rfl rfl ?_
  refine ql (l':=(List.set buf ((h+l.length)%R) x).flatMap rdC) rfl rfl zo rfl rfl (b:=b) zM (by rw [zt ZP]; omega) (by rw [Nat.zero_add]; exact Xl ZP x (by omega)) zU ?_
  refine qs (WC_goal (WC_done zH zK (za 4 rfl ?_)))
  refine qe (v:=zi ((l.length:Nat):Int)) rfl ty3 rfl (qf.own (b:=rb) zM rfl) rfl ?_
  refine qE rfl rfl (qQ (m:=((l.length+1:Nat):Int)) (by rw [zg (by omega)]; omega)) rfl ?_
  refine za 2 rfl ?_
  refine qv (l':=[.slice (some ⟨b,0,none⟩) R R,zi ((h:Nat):Int),zi (((l.length+1):Nat):Int)]) rfl rfl ty3 rfl rfl (b:=rb) zM rfl rfl zU ?_
  refine za 3 rfl ?_
  refine qE rfl rfl (qQ (m:=1) rfl) rfl ?_
  refine za 2 rfl ?_
  refine qP (1,buf.set ((h+l.length)%R) x) ⟨by show 1≤k; omega,fun e=>(by cases e),fun _=>rfl⟩ (by show k-1<k-0; omega) (qa rfl (qa rfl (qa rfl (qa rfl (qa rfl (qi _)))))) rfl zH
 ·skip
  refine za 5 rfl (qd Tryz.results251 rfl (.nil _) (.refl _) ?_)
  obtain rfl:i=k:=by omega
  by_cases c:l.length<R
  ·rw [if_pos c] at hk ⊢
   subst hk
   exact ⟨bufi,by rw [ho rfl]; exact hI.push c,rfl,rfl⟩
  ·rw [if_neg c] at hk ⊢
   subst hk
   exact ⟨bufi,by rw [hz rfl]; exact hI,rfl,rfl⟩
theorem qg1 (hR:Yy R rb l HB) (hxc:1≤cap) (hs:Holds w0 H ad (rdC x)):qh Tryz.prog w0 251 #[zp rb,.slice ad 1 cap] (HB++H) (fun v H'=>∃ HB',Yy R rb (if l.length<R then l++[x] else l) HB'∧v=zi (if l.length<R then 1 else 0)∧H'=HB'++H):=by
 cases hR with
 | mk hI =>
  refine (qlO (H:=H) hI hxc hs).mono ?_
  rintro v H' ⟨buf',hI',rfl,rfl⟩
  have e:l.length+(if l.length<R then 1 else 0)=(if l.length<R then l++[x] else l).length:=by split <;> simp
  rw [e]
  exact ⟨_,.mk hI',by split <;> rfl,rfl⟩
theorem JK.start {z:α} (h0:0<R) (h1:R≤256):JK R [] (List.replicate R z) 0 :=
 ⟨h0,h1,List.length_replicate,h0,Nat.zero_le _,fun i x h=>by simp at h⟩
theorem qn5:qh Tryz.prog w0 276 #[zi 64] (H) (fun v H'=>∃ rb HB,v=.tuple #[zp rb,zi 0]∧Yy 64 rb [] HB∧H'=HB++H):=by
 refine qc (l:=[zi 64]) Tryz.func276 rfl Tryz.ntmps276 rfl rfl ?_
 refine za 8 rfl ?_
 first | rw [decide_eq_true (by omega)] | rw [decide_eq_false (by omega)]
 refine za 5 rfl ?_
 first | rw [decide_eq_true (by omega)] | rw [decide_eq_false (by omega)]
 refine za 6 rfl ?_
 refine J5 (ln:=64) (cp:=64) (l:=(List.replicate 64 ((0,0):Int × Int)).flatMap rdC) rfl rfl QR zo rfl rfl (Nat.le_refl _) (by omega) (by simp only [maxLen]; omega) (by kernel_rfl) rfl (fun b11=>?_)
 refine qX (l:=[.slice (some ⟨b11,0,none⟩) 64 64,zi 0,zi 0]) ty493 pl493 (.cons rfl rfl rfl rfl rfl .nil) rfl rfl rfl ?_
 refine qK (l:=[.slice (some ⟨b11,0,none⟩) 64 64,zi 0,zi 0]) rfl rfl rfl (fun b13=>?_)
 refine za 3 rfl ?_
 refine qL (H2:=[(b13,.cells 493 3 [.slice (some ⟨b11,0,none⟩) 64 64,zi 0,zi 0]),(b11,.cells 391 (64*2) ((List.replicate 64 ((0,0):Int × Int)).flatMap rdC))]++H) Tryz.results276 rfl rfl (.nil _) zH ?_
 exact ⟨b13,_,rfl,.mk (JK.start (z:=(0,0)) zd zd),rfl⟩
theorem qga {lp b1:Nat} (hI:JK R l buf h) (J:Nat→qg→Prop)
  (hround:∀ i x Hi,l[i]?=some x→J i Hi→ZD Tryz.prog w0 lp #[.agg (List.toArray (rdC x))] ((b1,.cells 388 1 [zp rb])::(rb,.cells 493 3 [.slice (some ⟨b,0,none⟩) R R,zi ((h:Nat):Int),zi ((l.length:Nat):Int)])::(b,.cells 391 (R*2) ((buf).flatMap rdC))::Hi) (fun v H'=>∃ Hi',qC H' ((b1,.cells 388 1 [zp rb])::(rb,.cells 493 3 [.slice (some ⟨b,0,none⟩) R R,zi ((h:Nat):Int),zi ((l.length:Nat):Int)])::(b,.cells 391 (R*2) ((buf).flatMap rdC))::Hi')∧v=.bool true∧J (i+1) Hi')) (hJ:J 0 H) :
  qh Tryz.prog w0 447 #[.func (.yield lp) #[] #[],zp b1] ((b1,.cells 388 1 [zp rb])::(rb,.cells 493 3 [.slice (some ⟨b,0,none⟩) R R,zi ((h:Nat):Int),zi ((l.length:Nat):Int)])::(b,.cells 391 (R*2) ((buf).flatMap rdC))::H) (fun _ H'=>∃ Hi',qC H' ((b1,.cells 388 1 [zp rb])::(rb,.cells 493 3 [.slice (some ⟨b,0,none⟩) R R,zi ((h:Nat):Int),zi ((l.length:Nat):Int)])::(b,.cells 391 (R*2) ((buf).flatMap rdC))::Hi')∧J l.length Hi'):=by
 have hmost:=hI.most
 have hroom:=hI.room
 refine qc (l:=[.func (.yield lp) #[] #[],zp b1]) Tryz.func447 rfl Tryz.ntmps447 rfl rfl ?_
 refine ze ?_
 refine qe (v:=zp rb) rfl Jq rfl (qf.own (b:=b1) zM rfl) rfl ?_
 refine qn (zc1 rfl) Tryz.call401 rfl (qlR (n:=l.length) (h:=h) (R:=R) (b:=b) zM) ?_
 refine za 3 rfl ?_
 refine qU (X:=(Nat × qg)) [(0,_),(1,_),(5,_)] (fun (x:(Nat × qg))=>[(6,zi (x.1:Int))]) (fun _=>_) (fun (x:(Nat × qg))=>(b1,.cells 388 1 [zp rb])::(rb,.cells 493 3 [.slice (some ⟨b,0,none⟩) R R,zi ((h:Nat):Int),zi ((l.length:Nat):Int)])::(b,.cells 391 (R*2) ((buf).flatMap rdC))::x.2) (fun (x:(Nat × qg))=>x.1≤l.length∧J x.1 x.2) (fun (x:(Nat × qg))=>l.length-x.1) (0,H) ⟨Nat.zero_le _,hJ⟩ (qa rfl (qa rfl (qa rfl (qi _)))) (qa rfl (qi _)) rfl (.refl _) ?_
 rintro ⟨i,Hi⟩ ⟨hi,hJi⟩
 dsimp only at hi hJi ⊢
 simp only [List.cons_append,List.nil_append]
 refine za 4 rfl ?_
 refine qm (p:=(i:Int)<(l.length:Int)) rfl (by simp) (fun q0=>?_) (fun q0=>?_)
 ·skip
  refine za 8 rfl ?_
  obtain ⟨x,hx⟩:∃ x,l[i]?=some x:=⟨_,List.getElem?_eq_getElem zO⟩
  have hbx:=hI.at_ i x hx
  have hbl:=hI.len
  have hpl:(h+i)%R<R:=Nat.mod_lt _ hI.pos
  refine W_anyC [(b1,.cells 388 1 [zp rb]),(rb,.cells 493 3 [.slice (some ⟨b,0,none⟩) R R,zi ((h:Nat):Int),zi ((l.length:Nat):Int)]),(b,.cells 391 (R*2) ((buf).flatMap rdC))] zk ?_
  refine zw [0] rfl rfl ?_
  refine WC_take 1 rfl zK zK zK rfl rfl (qj (v:=zp rb) rfl Jq rfl (qf.own (b:=b1) zM rfl)) rfl ?_
  refine zw [2,3] rfl rfl ?_
  refine WC_take 4 rfl zK zK zK rfl rfl (qj (v:=.slice (some ⟨b,0,none⟩) R R) rfl QR rfl (qf.own (b:=rb) zM rfl)) rfl ?_
  refine WC_take 5 rfl zK zK zK rfl rfl (qj (v:=zp rb) rfl Jq rfl (qf.own (b:=b1) zM rfl)) rfl ?_
  refine zw [6] rfl rfl ?_
  refine WC_one 7 zH zK rfl rfl ?_
  refine qn (zc2 rfl rfl) Tryz.call342 rfl (qaF (i:=i) (n:=l.length) zM hI.pos hroom hI.head zO) ?_
  refine qs (WC_goal ?_)
  refine WC_take 8 rfl zK zK zK rfl rfl (qW (j:=(h+i)%R) rfl rfl QR zo (by first | rfl | omega) (by first | decide | omega | simp) rfl) rfl ?_
  refine WC_take 9 rfl zK zK zK rfl rfl (Qm (vs:=rdC x) rfl zo rfl (b:=b) zM (by rw [Nat.ble_eq,zt ZP]; omega) (by rw [Nat.zero_add]; exact Ji (o:=0) (m:=2) ZP hbx (by decide))) rfl ?_
  refine WC_one 10 zH zK rfl rfl ?_
  refine JT rfl (.cons rfl .nil) rfl (hround i x Hi hx hJi) ?_
  rintro v H' ⟨Hi',hsub,rfl,hJ'⟩
  refine qO hsub ?_
  refine qs (WC_goal (zw [11] rfl rfl (WC_done zH zK (za 4 rfl ?_))))
  refine qE rfl rfl (qQ (m:=((i+1:Nat):Int)) ((zg zO).trans zO)) rfl ?_
  refine za 2 rfl ?_
  refine qP (i+1,Hi') ⟨by show i+1≤l.length; omega,hJ'⟩ (by show l.length-(i+1)<l.length-i; omega) (qa rfl (qa rfl (qa rfl (qa rfl (qi _))))) rfl (.refl _)
 ·skip
  refine Yg rfl (Zn Tryz.results447 (.nil _) (.refl _) ?_)
  obtain rfl:i=l.length:=by omega
  exact ⟨Hi,.refl _,hJi⟩
theorem qn1:qh Tryz.prog w0 419 #[.pointer ad] (H) (fun v H'=>∃ b1,v=.func (.func 447) #[] #[zp b1]∧H'=(b1,.cells 388 1 [.pointer ad])::H):=by
 refine qc (l:=[.pointer ad]) Tryz.func419 rfl Tryz.ntmps419 rfl rfl ?_
 refine ze ?_
 refine qK rfl rfl rfl (fun b1=>?_)
 refine za 3 rfl (qI .nil (.cons rfl .nil) rfl (za 2 rfl (qd Tryz.results419 rfl (.nil _) (.refl _) ?_)))
 exact ⟨b1,rfl,rfl⟩
theorem qlQ (hI:JK R l buf h) :qh Tryz.prog w0 385 #[zp rb] ((rb,.cells 493 3 [.slice (some ⟨b,0,none⟩) R R,zi ((h:Nat):Int),zi ((l.length:Nat):Int)])::(b,.cells 391 (R*2) ((buf).flatMap rdC))::H) (fun v H'=>∃ XB,zm 391 2 v l.length (l.flatMap rdC) XB∧H'=XB++((rb,.cells 493 3 [.slice (some ⟨b,0,none⟩) R R,zi ((h:Nat):Int),zi ((l.length:Nat):Int)])::(b,.cells 391 (R*2) ((buf).flatMap rdC))::H)):=by
 have hmost:=hI.most
 have hroom:=hI.room
 refine qc (l:=[zp rb]) Tryz.func385 rfl Tryz.ntmps385 rfl rfl ?_
 refine za 4 rfl ?_
 refine qp (l:=[.slice none 0 0]) QR rfl rfl (fun b3=>?_)
 refine za 4 rfl (qk (zc1 rfl) Tryz.call419 rfl (qn1) ?_)
 rintro v H' ⟨b1,rfl,rfl⟩
 refine za 2 rfl (Qp rfl Tryz.call447 ?_)
 intro lp D r hst hpd hps hasg hbody hA
 have hr:=QC hst hpd
 show qh _ _ _ #[_,_] _ _
 refine ((qga (b1:=b1) (H:=(lp,.obj (.loop r))::(D,.obj (.deferred (some [])))::(b3,.cells 349 1 [.slice none 0 0])::H) hI (fun i Hi=>∃ xv XB,zm 391 2 xv i ((l.take i).flatMap rdC) XB∧Hi=(lp,.obj (.loop r))::(D,.obj (.deferred (some [])))::(b3,.cells 349 1 [xv])::(XB++H)) ?_ ⟨_,[],.nil,rfl⟩).hsub zH).mono ?_
 ·intro i z Hi hz hJ
  obtain ⟨xv,XB,hX,rfl⟩:=hJ
  have hil:=(List.getElem?_eq_some_iff.1 hz).1
  refine Qo hst hpd hA hps rfl hasg rfl rfl rfl zT ?_
  refine ZM ?_
  refine qp (l:=rdC (0,0)) zo rfl rfl (fun b4=>?_)
  refine ql (l':=rdC z) rfl rfl zo rfl rfl (b:=b4) zM (by exact Nat.le_refl 2) rfl zU ?_
  refine qs (Jf hst hpd zT hbody (za 2 rfl ?_))
  refine qe (v:=xv) rfl QR rfl (qf.own (b:=b3) zM rfl) rfl ?_
  refine qJ (vs:=rdC z) rfl zo rfl (b:=b4) zM rfl rfl rfl ?_
  refine qy (l:=rdC z) QR zo (.cons rfl rfl rfl rfl rfl .nil) rfl rfl rfl rfl rfl rfl rfl (fun b10=>?_)
  refine Qv (news:=rdC z) (m:=1) (HB:=XB) (H0:=(b10,.cells 391 2 (rdC z))::(b4,.cells 391 2 (rdC z))::(b1,.cells 388 1 [zp rb])::(rb,.cells 493 3 [.slice (some ⟨b,0,none⟩) R R,zi ((h:Nat):Int),zi ((l.length:Nat):Int)])::(b,.cells 391 (R*2) ((buf).flatMap rdC))::(lp,.obj (.loop (Loop.at r .busy none)))::(D,.obj (.deferred (some [])))::(b3,.cells 349 1 [xv])::H) rfl rfl QR zo rfl (by decide) hX rfl (Holds.own List.mem_cons_self) rfl (by simp only [maxLen]; omega) (by omega) zH rfl (fun v' HB' hO'=>?_)
  refine qv (l':=[v']) rfl rfl QR (by obtain ⟨a0,c0',e0,_⟩:=hO'.shape; rw [e0]; rfl) rfl (b:=b3) zM rfl rfl zU ?_
  refine za 2 rfl (Qs zT ?_)
  rw [hr]
  exact ⟨(lp,.obj (.loop r))::(D,.obj (.deferred (some [])))::(b3,.cells 349 1 [v'])::(HB'++H),zH,rfl,v',HB',by rw [List.take_add_one,hz,List.flatMap_append]; simpa using hO',rfl⟩
 ·intro _ H' hp
  obtain ⟨Hi',hs,xv,XB,hX,rfl⟩:=hp
  rw [List.take_length] at hX
  refine ⟨.ready,none,(b1,.cells 388 1 [zp rb])::(rb,.cells 493 3 [.slice (some ⟨b,0,none⟩) R R,zi ((h:Nat):Int),zi ((l.length:Nat):Int)])::(b,.cells 391 (R*2) ((buf).flatMap rdC))::(D,.obj (.deferred (some [])))::(b3,.cells 349 1 [xv])::(XB++H),by rw [hr]; exact hs.trans zH,by decide,?_⟩
  show W _ _ _ _ _ _ _ _ _
  refine za 2 rfl ?_
  refine qe (v:=xv) rfl QR rfl (qf.own (b:=b3) zM rfl) rfl ?_
  refine za 2 rfl ?_
  refine qd (H2:=XB++((rb,.cells 493 3 [.slice (some ⟨b,0,none⟩) R R,zi ((h:Nat):Int),zi ((l.length:Nat):Int)])::(b,.cells 391 (R*2) ((buf).flatMap rdC))::H)) Tryz.results385 rfl (.cons zT (.nil _)) zH ?_
  exact ⟨XB,hX,rfl⟩
theorem Yy.list (hR:Yy R rb l HB):qh Tryz.prog w0 385 #[zp rb] (HB++H) (fun v H'=>∃ XB,zm 391 2 v l.length (l.flatMap rdC) XB∧H'=XB++(HB++H)):=by
 cases hR with
 | mk hI=>exact qlQ (H:=H) hI
theorem Yy.len (hR:Yy R rb l HB) (hm:∀ p∈HB,p∈H):qB Tryz.prog w0 H 401 [zp rb] (zi (l.length:Int)):=by
 cases hR with
 | mk hI=>exact qlR (hm _ List.mem_cons_self)
theorem Yy.most (hR:Yy R rb l HB):l.length≤R∧R≤256:=by
 cases hR with
 | mk hI=>exact ⟨hI.most,hI.room⟩
theorem Yy.at0 (hR:Yy R rb l HB) (hm:∀ p∈HB,p∈H):qB Tryz.prog w0 H 399 [zp rb,zi 0] (atC l):=by
 cases hR with
 | mk hI=>exact qoV (hm _ List.mem_cons_self) (hm _ (List.mem_cons_of_mem _ List.mem_cons_self)) hI
abbrev cbP (rb:Nat):Value:=zp rb
structure qbi (n:Nat) (rbs:List Nat) (XS:List qg) (Q:List (List (Int × Int))):Prop where
 l1:rbs.length=n
 l2:XS.length=n
 l3:Q.length=n
 r:∀ (k:Nat) rb X q,rbs[k]?=some rb→XS[k]?=some X→Q[k]?=some q→Yy 64 rb q X
inductive QM (lb n:Nat) (Q:List (List (Int × Int))) (last:Int):qg→Prop
 | mk {v:Value} {XQ:qg} {XS:List qg} {rbs:List Nat} (hv:zm 388 1 v n (rbs.map cbP) XQ) (hl:qbi n rbs XS Q):QM lb n Q last ((lb,.cells 387 2 [v,.int .i64 last])::(XQ++XS.flatten))
theorem qbi.set {rbs:List Nat} {XS:List qg} (h:qbi n rbs XS Q) {k:Nat} {X:qg} (hk:rbs[k]?=some rb) (hX:Yy 64 rb q X):qbi n rbs (XS.set k X) (Q.set k q):=by
 refine ⟨h.l1,by rw [List.length_set,h.l2],by rw [List.length_set,h.l3],fun j rb2 Y p h1 h2 h3=>?_⟩
 have hkn:=(List.getElem?_eq_some_iff.1 hk).1
 by_cases c:k=j
 ·subst c
  rw [List.getElem?_set_self (by rw [h.l2,← h.l1]; exact hkn)] at h2
  rw [List.getElem?_set_self (by rw [h.l3,← h.l1]; exact hkn)] at h3
  obtain rfl:=Option.some.inj h2
  obtain rfl:=Option.some.inj h3
  obtain rfl:=Option.some.inj (h1.symm.trans hk)
  exact hX
 ·rw [List.getElem?_set_ne c] at h2 h3
  exact h.r j rb2 Y p h1 h2 h3
theorem qbi.snoc {rbs:List Nat} {XS:List qg} (h:qbi n rbs XS Q) {X:qg} (hX:Yy 64 rb q X):qbi (n+1) (rbs++[rb]) (XS++[X]) (Q++[q]):=by
 obtain ⟨h1,h2,h3,h4⟩:=h
 refine ⟨by simp [h1],by simp [h2],by simp [h3],fun j rb2 Y p e1 e2 e3=>?_⟩
 by_cases c:j<n
 ·rw [List.getElem?_append_left (by omega)] at e1 e2 e3
  exact h4 j rb2 Y p e1 e2 e3
 ·have hj:=(List.getElem?_eq_some_iff.1 e1).1
  rw [List.length_append,List.length_singleton] at hj
  obtain rfl:j=n:=by omega
  rw [List.getElem?_append_right (by omega),h1,Nat.sub_self] at e1
  rw [List.getElem?_append_right (by omega),h2,Nat.sub_self] at e2
  rw [List.getElem?_append_right (by omega),h3,Nat.sub_self] at e3
  cases e1; cases e2; cases e3; exact hX
def qgf (q:List (Int × Int)) (id:Int):List (Int × Int):=if q.length<64 then q++[(id,0)] else q
theorem qpF (hn:1≤n∧n≤64) :qh Tryz.prog w0 197 #[zi (n:Int)] (H) (fun v H'=>∃ lb HB,v=.tuple #[zp lb,zi 0]∧QM lb n (List.replicate n []) 0 HB∧H'=HB++H):=by
 refine qc (l:=[zi (n:Int)]) Tryz.func197 rfl Tryz.ntmps197 rfl rfl ?_
 refine za 8 rfl ?_
 rw [decide_eq_false (by omega)]
 refine za 5 rfl ?_
 rw [decide_eq_false (by omega)]
 refine za 5 rfl ?_
 refine qX (l:=[.slice none 0 0,zi 0]) ty387 pl387 .nil rfl rfl rfl ?_
 refine qK (l:=[.slice none 0 0,zi 0]) rfl rfl rfl (fun b14=>?_)
 refine za 8 rfl ?_
 refine qU (X:=(Nat × Value × qg × List qg × List Nat)) [(4,_),(15,_)] (fun (x:(Nat × Value × qg × List qg × List Nat))=>[(16,zi (x.1:Int))]) (fun _=>_) (fun (x:(Nat × Value × qg × List qg × List Nat))=>(b14,.cells 387 2 [x.2.1,zi 0])::(x.2.2.1++(x.2.2.2.1.flatten++H))) (fun (x:(Nat × Value × qg × List qg × List Nat))=>x.1≤n∧zm 388 1 x.2.1 x.1 (x.2.2.2.2.map cbP) x.2.2.1∧qbi x.1 x.2.2.2.2 x.2.2.2.1 (List.replicate x.1 [])) (fun (x:(Nat × Value × qg × List qg × List Nat))=>n-x.1) (0,.slice none 0 0,[],[],[]) ⟨Nat.zero_le _,.nil,⟨rfl,rfl,rfl,fun k r Y q h=>(by cases h)⟩⟩ (qa rfl (qa rfl (qi _))) (qa rfl (qi _)) rfl (.refl _) ?_
 rintro ⟨i,v,XQ,XS,rbs⟩ ⟨hi,hv,hl⟩
 dsimp only at hi hv hl ⊢
 simp only [List.cons_append,List.nil_append]
 refine za 4 rfl ?_
 refine qm (p:=(i:Int)<(n:Int)) rfl (by simp) (fun q0=>?_) (fun q0=>?_)
 ·skip
  refine za 4 rfl (qk (zc1 rfl) Tryz.call276 rfl qn5 ?_)
  rintro w2 H' ⟨rb,HX,rfl,hX,rfl⟩
  refine za 18 rfl ?_
  refine qe (v:=v) rfl ZZ rfl (qf.own (b:=b14) zM rfl) rfl ?_
  refine qD rfl rfl ?_
  refine qy (l:=[cbP rb]) ZZ Jq (.cons rfl rfl rfl rfl rfl .nil) rfl rfl rfl rfl rfl rfl rfl (fun b31=>?_)
  refine Qv (news:=[cbP rb]) (m:=1) (HB:=XQ) (H0:=(b31,.cells 388 1 [cbP rb])::(HX++((b14,.cells 387 2 [v,zi 0])::(XS.flatten++H)))) rfl rfl ZZ Jq rfl (by decide) hv rfl (Holds.own (b:=b31) zM) rfl (by simp only [maxLen]; omega) (by omega) zH rfl (fun v' X' hv'=>?_)
  refine za 2 rfl ?_
  have hv1:v'.oneCell'=true:=by obtain ⟨_,_,rfl,_⟩:=hv'.shape; rfl
  refine qv (l':=[v',zi 0]) rfl rfl ZZ hv1 rfl (b:=b14) zM rfl rfl zU ?_
  refine za 3 rfl ?_
  refine qE rfl rfl (qQ (m:=((i+1:Nat):Int)) ((zg zO).trans zO)) rfl ?_
  refine za 2 rfl ?_
  refine qP (i+1,v',X',XS++[HX],rbs++[rb]) ⟨by show i+1≤n; omega,by show zm 388 1 v' (i+1) ((rbs++[rb]).map cbP) X'; rw [List.map_append]; exact hv',by show qbi (i+1) _ _ (List.replicate (i+1) []); rw [List.replicate_succ']; exact hl.snoc hX⟩ (by show n-(i+1)<n-i; omega) (qa rfl (qa rfl (qa rfl (qi _)))) rfl (by show qC _ ((b14,.cells 387 2 [v',zi 0])::(X'++((XS++[HX]).flatten++H))); rw [List.flatten_append,List.flatten_singleton,List.append_assoc]; first | exact YF | (repeat (first | with_reducible exact qC.refl _ | refine qC.cons zT ?_ | refine qC.app zS ?_ | exact qC.nil _ | exact qC.refl _ | refine qC.drop ?_ | refine qC.dropS ?_)))
 ·skip
  refine za 6 rfl ?_
  refine qL (H2:=(b14,.cells 387 2 [v,zi 0])::(XQ++(XS.flatten++H))) Tryz.results197 rfl rfl (.nil _) zH ?_
  obtain rfl:i=n:=by omega
  exact ⟨b14,(b14,.cells 387 2 [v,zi 0])::(XQ++XS.flatten),rfl,.mk (rbs:=rbs) hv hl,by show _=_::((XQ++XS.flatten)++H); rw [List.append_assoc]⟩
theorem qpG {lb k:Nat} {last id:Int} {ad0:Option Addr} {cap0:Nat} (hL:QM lb n Q last HB) (hn:n≤64) (hk:k<n) (hq:Q[k]?=some q) (hrow:Holds w0 H ad0 [zi id]) :qh Tryz.prog w0 156 #[zp lb,zi (k:Int),.slice ad0 1 cap0] (HB++H) (fun v H'=>∃ HB',QM lb n (Q.set k (qgf q id)) last HB'∧v=zi (if q.length<64 then 0 else 3)∧H'=HB'++H):=by
 cases hL with
 | @mk v XQ XS rbs hv hl =>
 have hvl:=hv.length
 rw [List.length_map,Nat.mul_one] at hvl
 obtain ⟨ad,cap,rfl,hcl,hcm⟩:=hv.shape
 have hXr:∀ {H:qg},(∀ p∈XQ,p∈H)→Holds w0 H ad (rbs.map cbP):=fun hs=>zm.toHolds hv hs
 obtain ⟨q1,p1,rfl⟩:∃ q1 p1,ad=some ⟨q1,p1,none⟩:=by
  obtain ⟨rb,hrb⟩:∃ rb,rbs[0]?=some rb:=⟨_,List.getElem?_eq_getElem zO⟩
  obtain ⟨q1,p1,e,_⟩:=(hXr (H:=XQ) (fun _ h=>h)).at (i:=0) (v:=cbP rb) (by rw [List.getElem?_map,hrb]; rfl)
  exact ⟨q1,p1,e⟩
 have hXc:∀ {H:qg} {k rb:Nat},(∀ p∈XQ,p∈H)→rbs[k]?=some rb→qf w0 H q1 (p1+k) (cbP rb):=fun {H k rb} hs hk=>by
  obtain ⟨q2,p2,e,hc⟩:=(hXr hs).at (i:=k) (v:=cbP rb) (by rw [List.getElem?_map,hk]; rfl)
  cases e; exact hc
 have hkr:k<rbs.length:=by rw [hl.l1]; exact hk
 obtain ⟨rb,hrb⟩:∃ rb,rbs[k]?=some rb:=⟨_,List.getElem?_eq_getElem hkr⟩
 obtain ⟨X,hX0⟩:∃ X,XS[k]?=some X:=⟨_,List.getElem?_eq_getElem (by rw [hl.l2]; exact hk)⟩
 have hX:=hl.r k rb X q hrb hX0 hq
 have e0:((lb,.cells 387 2 [.slice (some ⟨q1,p1,none⟩) n cap,zi last])::(XQ++XS.flatten))++H=(lb,.cells 387 2 [.slice (some ⟨q1,p1,none⟩) n cap,zi last])::(XQ++(XS.flatten++H)):=by simp only [List.cons_append,List.append_assoc]
 rw [e0]
 refine qc (l:=[zp lb,zi (k:Int),.slice ad0 1 cap0]) Tryz.func156 rfl Tryz.ntmps156 rfl rfl ?_
 refine za 7 rfl ?_
 refine W_x (qr rfl rfl Xd) (fun _ h=>by cases h) rfl ?_
 refine za 6 rfl ?_
 first | rw [decide_eq_true (by omega)] | rw [decide_eq_false (by omega)]
 refine qD rfl rfl ?_
 apply YR
 iterate 4 exact rfl
 case h1 =>
  intro hg2
  refine za 9 rfl ?_
  refine qe (v:=.slice (some ⟨q1,p1,none⟩) n cap) rfl ZZ rfl (qf.own (b:=lb) zM rfl) rfl ?_
  refine QD rfl rfl (zZ rfl ZZ rfl rfl (za 2 rfl ?_))
  first | rw [decide_eq_true (by omega)] | rw [decide_eq_false (by omega)]
  exact Q3 rfl zR
 refine za 8 rfl (zZ rfl qZ rfl rfl (za 3 rfl ?_))
 refine qU (X:=(Nat × List qg)) [(0,_),(1,_),(24,_),(25,_)] (fun (z:(Nat × List qg))=>[(26,zi (z.1:Int))]) (fun _=>_) (fun (z:(Nat × List qg))=>(lb,.cells 387 2 [.slice (some ⟨q1,p1,none⟩) n cap,zi last])::(XQ++(z.2.flatten++H))) (fun (z:(Nat × List qg))=>z.1≤1∧(z.1=0→z.2=XS)∧(z.1=1→q.length<64∧∃ X',Yy 64 rb (q++[(id,0)]) X'∧z.2=XS.set k X')) (fun (z:(Nat × List qg))=>1-z.1) (0,XS) ⟨Nat.zero_le _,fun _=>rfl,fun h=>(by cases h)⟩ (qa rfl (qa rfl (qa rfl (qa rfl (qi _))))) (qa rfl (qi _)) rfl (.refl _) ?_
 rintro ⟨i,XS1⟩ ⟨hi,hz,ho⟩
 dsimp only at hi hz ho ⊢
 simp only [List.cons_append,List.nil_append]
 refine za 4 rfl ?_
 refine qm (p:=i<1) rfl (by rw [decide_eq_true_eq]; omega) (fun q0=>?_) (fun q0=>?_)
 ·skip
  refine za 4 rfl ?_
  obtain rfl:i=0:=by omega
  obtain rfl:XS=XS1:=(hz rfl).symm
  obtain ⟨q0_,p0_,rfl,hc⟩:=hrow.at (i:=0) (v:=.int .i64 id) rfl
  refine qS (j:=0) rfl rfl qZ ty3 rfl zd rfl rfl ?_
  refine qe (v:=zi id) rfl ty3 rfl (by exact hc.up zH) rfl ?_
  refine za 6 rfl ?_
  refine qe (v:=.slice (some ⟨q1,p1,none⟩) n cap) rfl ZZ rfl (qf.own (b:=lb) zM rfl) rfl ?_
  refine qD rfl rfl ?_
  refine qS (j:=k) rfl rfl ZZ Jq (by first | rfl | omega) (by first | decide | omega | simp) rfl rfl ?_
  refine qe (v:=cbP rb) rfl Jq rfl (by rw [Nat.mul_one]; exact hXc (k:=k) (fun p hp=>List.mem_cons_of_mem _ (List.mem_append_left _ hp)) hrb) rfl ?_
  refine qD rfl rfl ?_
  refine qX (l:=rdC (id,0)) zo pl391 (.cons rfl rfl rfl rfl rfl .nil) rfl rfl rfl ?_
  refine qy (l:=rdC (id,0)) QR zo (.cons rfl rfl rfl rfl rfl .nil) rfl rfl rfl rfl rfl rfl rfl (fun b39=>?_)
  refine qO (H':=X++((b39,.cells 391 2 (rdC (id,0)))::(lb,.cells 387 2 [.slice (some ⟨q1,p1,none⟩) n cap,zi last])::(XQ++((XS.set k []).flatten++H)))) ((show qC _ ((b39,.cells 391 2 (rdC (id,0)))::(lb,.cells 387 2 [.slice (some ⟨q1,p1,none⟩) n cap,zi last])::(XQ++(X++((XS.set k []).flatten++H)))) from .cons (.here _) (.cons (.here _) (.app (.here _) (QK hX0)))).trans zH) ?_
  refine qk (zc2 rfl rfl) Tryz.call251 rfl (qg1 (H:=(b39,.cells 391 2 (rdC (id,0)))::(lb,.cells 387 2 [.slice (some ⟨q1,p1,none⟩) n cap,zi last])::(XQ++((XS.set k []).flatten++H))) hX (x:=(id,0)) zd (Holds.own (b:=b39) zM)) ?_
  rintro v H' ⟨X',hX',rfl,rfl⟩
  refine qO (H':=(lb,.cells 387 2 [.slice (some ⟨q1,p1,none⟩) n cap,zi last])::(XQ++((XS.set k X').flatten++H))) ((show qC _ ((lb,.cells 387 2 [.slice (some ⟨q1,p1,none⟩) n cap,zi last])::(XQ++(X'++((XS.set k []).flatten++H)))) from zH).trans (.cons (.here _) (.app (.here _) (ZA (by rw [hl.l2]; exact hk))))) ?_
  by_cases h64:q.length<64
  ·skip
   rw [if_pos h64] at hX'
   rw [show (if q.length<64 then (1:Int) else 0)=1 from if_pos h64]
   refine za 6 rfl ?_
   refine qE rfl rfl (qQ (m:=1) rfl) rfl ?_
   refine za 2 rfl ?_
   refine qP (1,XS.set k X') ⟨Nat.le_refl _,fun h=>(by cases h),fun _=>⟨h64,X',hX',rfl⟩⟩ (by show 1-1<1-0; decide) (qa rfl (qa rfl (qa rfl (qa rfl (qa rfl (qi _)))))) rfl zH
  ·skip
   rw [if_neg h64] at hX'
   rw [show (if q.length<64 then (1:Int) else 0)=0 from if_neg h64]
   refine za 6 rfl ?_
   refine qd (H2:=(lb,.cells 387 2 [.slice (some ⟨q1,p1,none⟩) n cap,zi last])::(XQ++((XS.set k X').flatten++H))) Tryz.results156 rfl (.nil _) zH ?_
   exact ⟨(lb,.cells 387 2 [.slice (some ⟨q1,p1,none⟩) n cap,zi last])::(XQ++(XS.set k X').flatten),.mk hv (hl.set hrb (by unfold qgf; rw [if_neg h64]; exact hX')),by rw [if_neg h64],by simp only [List.cons_append,List.append_assoc]⟩
 ·skip
  refine za 4 rfl ?_
  refine qd (H2:=(lb,.cells 387 2 [.slice (some ⟨q1,p1,none⟩) n cap,zi last])::(XQ++(XS1.flatten++H))) Tryz.results156 rfl (.nil _) zH ?_
  obtain rfl:i=1:=by omega
  obtain ⟨h64,X',hX',rfl⟩:=ho rfl
  exact ⟨(lb,.cells 387 2 [.slice (some ⟨q1,p1,none⟩) n cap,zi last])::(XQ++(XS.set k X').flatten),.mk hv (hl.set hrb (by unfold qgf; rw [if_pos h64]; exact hX')),by rw [if_pos h64],by simp only [List.cons_append,List.append_assoc]⟩
def Yt (gen:Int) (c:Int × Int):Int × Int:=if c.2=0 then (c.1,gen) else c
theorem qeb {l:List α} {x:α} (h:l[i]?=some x):l.drop i=x::l.drop (i+1):=by
 have hi:=(List.getElem?_eq_some_iff.1 h)
 rw [List.drop_eq_getElem_cons hi.1,hi.2]
theorem qlJ {b3:Nat} {c:Int × Int} (hg:(b3,.cells 3 1 [zi gen])∈H):qB Tryz.prog w0 H 339 [.agg (List.toArray (rdC c)),zp b3] (.agg (List.toArray (rdC (Yt gen c)))):=by
 refine qc Tryz.func339 rfl Tryz.ntmps339 rfl rfl (ze ?_)
 refine qK (l:=rdC c) rfl rfl rfl (fun b2=>?_)
 refine qp (l:=rdC (0,0)) zo rfl rfl (fun b3_=>?_)
 refine za 4 rfl ?_
 refine qe (v:=zi c.2) rfl ty3 rfl (qf.own (b:=b2) zM rfl) rfl ?_
 refine za 2 rfl ?_
 refine qm (p:=c.2=0) rfl (by simp) (fun q0=>?_) (fun q0=>?_)
 ·skip
  refine ZM ?_
  refine qe (v:=zi gen) rfl ty3 rfl (qf.own (b:=b3) (by repeat (first | exact hg | apply List.mem_cons_of_mem)) rfl) rfl ?_
  refine za 1 rfl ?_
  refine qv (l':=[zi c.1,zi gen]) rfl rfl ty3 rfl rfl (b:=b2) zM rfl rfl zU ?_
  refine za 2 rfl ?_
  have e:Yt gen c=(c.1,gen):=if_pos q0
  rw [e]
  refine qJ (vs:=rdC (c.1,gen)) rfl zo rfl (b:=b2) zM rfl rfl rfl ?_
  refine ql (l':=rdC (c.1,gen)) rfl rfl zo rfl rfl (b:=b3_) zM (by exact Nat.le_refl 2) rfl zU ?_
  refine qs ?_
  refine Jy (H2:=H) Tryz.results339 rfl (.nil _) zo rfl zM rfl zH ?_
  exact ⟨rfl,rfl⟩
 ·skip
  refine za 2 rfl ?_
  have e:Yt gen c=c:=if_neg q0
  rw [e]
  refine qJ (vs:=rdC c) rfl zo rfl (b:=b2) zM rfl rfl rfl ?_
  refine ql (l':=rdC c) rfl rfl zo rfl rfl (b:=b3_) zM (by exact Nat.le_refl 2) rfl zU ?_
  refine qs ?_
  refine Jy (H2:=H) Tryz.results339 rfl (.nil _) zo rfl zM rfl zH ?_
  exact ⟨rfl,rfl⟩
theorem qo8 {b3:Nat} (hR:Yy 64 rb l HB) (hg:(b3,.cells 3 1 [zi gen])∈H) :qh Tryz.prog w0 338 #[zp rb,.func (.func 339) #[] #[zp b3]] (HB++H) (fun v H'=>∃ X' cnt,Yy 64 rb (l.map (Yt gen)) X'∧v=zi cnt∧0≤cnt∧cnt≤64∧H'=X'++H):=by
 have hmost:=hR.most.1
 refine qc (l:=[zp rb,.func (.func 339) #[] #[zp b3]]) Tryz.func338 rfl Tryz.ntmps338 rfl rfl ?_
 refine za 9 rfl ?_
 refine qn (zc1 rfl) Tryz.call401 rfl (hR.len (fun p hp=>List.mem_append_left _ hp)) ?_
 refine za 3 rfl ?_
 refine qU (X:=(Nat × qg × Int)) [(0,_),(1,_),(10,_)] (fun (z:(Nat × qg × Int))=>[(11,zi (z.1:Int)),(5,zi z.2.2)]) (fun _=>_) (fun (z:(Nat × qg × Int))=>z.2.1++H) (fun (z:(Nat × qg × Int))=>z.1≤l.length∧Yy 64 rb (l.drop z.1++(l.take z.1).map (Yt gen)) z.2.1∧0≤z.2.2∧z.2.2≤(z.1:Int)) (fun (z:(Nat × qg × Int))=>l.length-z.1) (0,HB,0) ⟨Nat.zero_le _,by simpa using hR,Int.le_refl 0,by simp⟩ (qa rfl (qa rfl (qa rfl (qi _)))) (qa rfl (qa rfl (qi _))) rfl (.refl _) ?_
 rintro ⟨i,X,cnt⟩ ⟨hi,hX,hc0,hc1⟩
 dsimp only at hi hX hc0 hc1 ⊢
 simp only [List.cons_append,List.nil_append]
 refine za 4 rfl ?_
 refine qm (p:=(i:Int)<(l.length:Int)) rfl (by simp) (fun q0=>?_) (fun q0=>?_)
 ·skip
  refine za 4 rfl ?_
  obtain ⟨c,hc⟩:∃ c,l[i]?=some c:=⟨_,List.getElem?_eq_getElem zO⟩
  rw [qeb hc,List.cons_append] at hX
  refine qD rfl rfl ?_
  refine qk (zc1 rfl) Tryz.call400 rfl (qlP (H:=H) hX) ?_
  rintro v H' ⟨X1,hX1,rfl,rfl⟩
  refine za 3 rfl ?_
  refine qp (l:=rdC (0,0)) zo rfl rfl (fun b6=>?_)
  refine ql (l':=rdC c) rfl rfl zo rfl rfl (b:=b6) zM (by exact Nat.le_refl 2) rfl zU ?_
  refine za 4 rfl ?_
  refine qJ (vs:=rdC c) rfl zo rfl (b:=b6) zM rfl rfl rfl ?_
  refine Yx (fa:=#[]) (ca:=#[zp b3]) rfl (.cons rfl .nil) Tryz.call339 rfl (qlJ (c:=c) (gen:=gen) (List.mem_cons_of_mem _ (List.mem_append_right _ hg))) ?_
  rintro v H' ⟨rfl,rfl⟩
  refine qp (l:=rdC (0,0)) zo rfl rfl (fun b8=>?_)
  refine ql (l':=rdC (Yt gen c)) rfl rfl zo rfl rfl (b:=b8) zM (by exact Nat.le_refl 2) rfl zU ?_
  refine za 3 rfl ?_
  refine qJ (vs:=rdC (Yt gen c)) rfl zo rfl (b:=b8) zM rfl rfl rfl ?_
  refine qy (l:=rdC (Yt gen c)) QR zo (.cons rfl rfl rfl rfl rfl .nil) rfl rfl rfl rfl rfl rfl rfl (fun b23=>?_)
  refine qO (H':=X1++((b23,.cells 391 2 (rdC (Yt gen c)))::(b8,.cells 391 2 (rdC (Yt gen c)))::(b6,.cells 391 2 (rdC c))::H)) zH ?_
  refine qk (zc2 rfl rfl) Tryz.call251 rfl (qg1 (H:=(b23,.cells 391 2 (rdC (Yt gen c)))::(b8,.cells 391 2 (rdC (Yt gen c)))::(b6,.cells 391 2 (rdC c))::H) hX1 (x:=Yt gen c) zd (Holds.own (b:=b23) zM)) ?_
  rintro v H' ⟨X2,hX2,rfl,rfl⟩
  have hlen:(l.drop (i+1)++(l.take i).map (Yt gen)).length<64:=by rw [List.length_append,List.length_map,List.length_take,List.length_drop]; omega
  rw [if_pos hlen,List.append_assoc,← List.map_singleton (f:=Yt gen) (a:=c),← List.map_append,← Jt hc] at hX2
  refine za 2 rfl ?_
  refine qJ (vs:=rdC c) rfl zo rfl (b:=b6) zM rfl rfl rfl ?_
  refine qJ (vs:=rdC (Yt gen c)) rfl zo rfl (b:=b8) zM rfl rfl rfl ?_
  refine W_x (X_neA rfl rfl zo zk zk (.cons zd ty3 rfl rfl rfl (qd8 ty3) (.cons zd ty3 rfl rfl rfl (qd8 ty3) .nil))) (fun _ h=>by cases h) rfl ?_
  refine qs ?_
  refine Y2 rfl (fun q1=>?_) (fun q1=>?_)
  ·skip
   refine za 2 rfl ?_
   refine qE rfl rfl (qQ (m:=cnt+1) (zg zO)) rfl ?_
   refine za 4 rfl ?_
   refine qE rfl rfl (qQ (m:=((i+1:Nat):Int)) ((zg zO).trans zO)) rfl ?_
   refine za 2 rfl ?_
   refine qP (i+1,X2,cnt+1) ⟨by show i+1≤l.length; omega,hX2,by show 0≤cnt+1; omega,by show cnt+1≤((i+1:Nat):Int); omega⟩ (by show l.length-(i+1)<l.length-i; omega) (qa rfl (qa rfl (qa rfl (qa rfl (qa rfl (qi _)))))) rfl zH
  ·skip
   refine za 3 rfl ?_
   refine qE rfl rfl (qQ (m:=((i+1:Nat):Int)) ((zg zO).trans zO)) rfl ?_
   refine za 2 rfl ?_
   refine qP (i+1,X2,cnt) ⟨by show i+1≤l.length; omega,hX2,by show 0≤cnt; omega,by show cnt≤((i+1:Nat):Int); omega⟩ (by show l.length-(i+1)<l.length-i; omega) (qa rfl (qa rfl (qa rfl (qa rfl (qa rfl (qi _)))))) rfl zH
 ·skip
  refine za 5 rfl ?_
  refine qd (H2:=X++H) Tryz.results338 rfl (.nil _) zH ?_
  obtain rfl:i=l.length:=by omega
  rw [List.drop_length,List.nil_append,List.take_length] at hX
  exact ⟨X,cnt,hX,rfl,hc0,by omega,rfl⟩
theorem qet {f:α→α} {Q:List α} {k:Nat} {q:α} (h:Q[k]?=some q):((Q.take k).map f++Q.drop k).set k (f q)=(Q.take (k+1)).map f++Q.drop (k+1):=by
 have hk:=(List.getElem?_eq_some_iff.1 h).1
 rw [List.set_append_right _ _ (by rw [List.length_map,List.length_take]; omega),List.length_map,List.length_take,Nat.min_eq_left (by omega),Nat.sub_self,qeb h,List.set_cons_zero,List.take_add_one,h,List.map_append,List.append_assoc]
 rfl
theorem qeU {lb:Nat} {last:Int} (hL:QM lb n Q last HB) (hn:0<n∧n≤64) (hg:1≤gen∧last≤gen) :qh Tryz.prog w0 249 #[zp lb,zi gen] (HB++H) (fun v H'=>∃ HB' cnt,QM lb n (Q.map (fun q=>q.map (Yt gen))) gen HB'∧v=zi cnt∧H'=HB'++H):=by
 cases hL with
 | @mk v XQ XS rbs hv hl =>
 have hvl:=hv.length
 rw [List.length_map,Nat.mul_one] at hvl
 obtain ⟨ad,cap,rfl,hcl,hcm⟩:=hv.shape
 have hXr:∀ {H:qg},(∀ p∈XQ,p∈H)→Holds w0 H ad (rbs.map cbP):=fun hs=>zm.toHolds hv hs
 obtain ⟨q1,p1,rfl⟩:∃ q1 p1,ad=some ⟨q1,p1,none⟩:=by
  obtain ⟨rb,hrb⟩:∃ rb,rbs[0]?=some rb:=⟨_,List.getElem?_eq_getElem (by rw [hl.l1]; exact hn.1)⟩
  obtain ⟨q1,p1,e,_⟩:=(hXr (H:=XQ) (fun _ h=>h)).at (i:=0) (v:=cbP rb) (by rw [List.getElem?_map,hrb]; rfl)
  exact ⟨q1,p1,e⟩
 have hXc:∀ {H:qg} {k rb:Nat},(∀ p∈XQ,p∈H)→rbs[k]?=some rb→qf w0 H q1 (p1+k) (cbP rb):=fun {H k rb} hs hk=>by
  obtain ⟨q2,p2,e,hc⟩:=(hXr hs).at (i:=k) (v:=cbP rb) (by rw [List.getElem?_map,hk]; rfl)
  cases e; exact hc
 have e0:((lb,.cells 387 2 [.slice (some ⟨q1,p1,none⟩) n cap,zi last])::(XQ++XS.flatten))++H=(lb,.cells 387 2 [.slice (some ⟨q1,p1,none⟩) n cap,zi last])::(XQ++(XS.flatten++H)):=by simp only [List.cons_append,List.append_assoc]
 rw [e0]
 refine qc (l:=[zp lb,zi gen]) Tryz.func249 rfl Tryz.ntmps249 rfl rfl ?_
 refine ze ?_
 refine qK (l:=[zi gen]) rfl rfl rfl (fun b3=>?_)
 refine za 3 rfl (zh zk zK (zq 1 rfl (qG (qr rfl rfl Xd) rfl (zq 2 rfl ?_))))
 refine qG (qj (v:=zi gen) rfl ty3 rfl (qf.own (b:=b3) zM rfl)) rfl ?_
 refine zq 2 rfl ?_
 first | rw [decide_eq_true (by omega)] | rw [decide_eq_false (by omega)]
 first | refine qG (zx rfl rfl) rfl ?_ | refine qG (zy rfl rfl) rfl ?_
 refine zq 2 rfl ?_
 refine qG (qj (v:=zi gen) rfl ty3 rfl (qf.own (b:=b3) zM rfl)) rfl ?_
 refine zq 7 rfl ?_
 refine qG (qj (v:=zi last) rfl ty3 rfl (qf.own (b:=lb) zM rfl)) rfl ?_
 refine zq 2 rfl ?_
 first | rw [decide_eq_true (by omega)] | rw [decide_eq_false (by omega)]
 first | refine qG (zx rfl rfl) rfl ?_ | refine qG (zy rfl rfl) rfl ?_
 refine zX (za 4 rfl ?_)
 refine qe (v:=zi gen) rfl ty3 rfl (qf.own (b:=b3) zM rfl) rfl ?_
 refine za 2 rfl ?_
 refine qv (l':=[.slice (some ⟨q1,p1,none⟩) n cap,zi gen]) rfl rfl ty3 rfl rfl (b:=lb) zM rfl rfl zU ?_
 refine za 9 rfl ?_
 refine qe (v:=.slice (some ⟨q1,p1,none⟩) n cap) rfl ZZ rfl (qf.own (b:=lb) zM rfl) rfl ?_
 refine zZ rfl ZZ rfl rfl (za 3 rfl ?_)
 refine qU (X:=(Nat × List qg × List (List (Int × Int)) × Int)) [(3,_),(29,_),(30,_)] (fun (z:(Nat × List qg × List (List (Int × Int)) × Int))=>[(31,zi (z.1:Int)),(5,zi z.2.2.2)]) (fun _=>_) (fun (z:(Nat × List qg × List (List (Int × Int)) × Int))=>(b3,.cells 3 1 [zi gen])::(lb,.cells 387 2 [.slice (some ⟨q1,p1,none⟩) n cap,zi gen])::(XQ++(z.2.1.flatten++H))) (fun (z:(Nat × List qg × List (List (Int × Int)) × Int))=>z.1≤n∧qbi n rbs z.2.1 z.2.2.1∧z.2.2.1=((Q.take z.1).map (fun q=>q.map (Yt gen))++Q.drop z.1)∧0≤z.2.2.2∧z.2.2.2≤64*(z.1:Int)) (fun (z:(Nat × List qg × List (List (Int × Int)) × Int))=>n-z.1) (0,XS,Q,0) ⟨Nat.zero_le _,hl,by simp,Int.le_refl 0,by simp⟩ (qa rfl (qa rfl (qa rfl (qi _)))) (qa rfl (qa rfl (qi _))) rfl (.refl _) ?_
 rintro ⟨k,XS1,Q1,cnt⟩ ⟨hi,hl1,hQ1,hc0,hc1⟩
 dsimp only at hi hl1 hQ1 hc0 hc1 ⊢
 simp only [List.cons_append,List.nil_append]
 refine za 4 rfl ?_
 refine qm (p:=(k:Int)<(n:Int)) rfl (by simp) (fun q0=>?_) (fun q0=>?_)
 ·skip
  refine za 4 rfl ?_
  have hk:k<n:=by omega
  obtain ⟨rb,hrb⟩:∃ rb,rbs[k]?=some rb:=⟨_,List.getElem?_eq_getElem (by rw [hl1.l1]; exact hk)⟩
  obtain ⟨X,hX0⟩:∃ X,XS1[k]?=some X:=⟨_,List.getElem?_eq_getElem (by rw [hl1.l2]; exact hk)⟩
  obtain ⟨q,hq⟩:∃ q,Q1[k]?=some q:=⟨_,List.getElem?_eq_getElem (by rw [hl1.l3]; exact hk)⟩
  have hX:=hl1.r k rb X q hrb hX0 hq
  have hqq:Q[k]?=some q:=by
   rw [hQ1,List.getElem?_append_right (by rw [List.length_map,List.length_take]; omega),List.length_map,List.length_take,Nat.min_eq_left (by rw [hl.l3]; omega),Nat.sub_self,List.getElem?_drop] at hq
   simpa using hq
  refine qS (j:=k) rfl rfl ZZ Jq rfl hk rfl rfl ?_
  refine qe (v:=cbP rb) rfl Jq rfl (by rw [Nat.mul_one]; exact hXc (k:=k) (fun p hp=>List.mem_cons_of_mem _ (List.mem_cons_of_mem _ (List.mem_append_left _ hp))) hrb) rfl ?_
  refine za 5 rfl (qI .nil (.cons rfl .nil) rfl ?_)
  refine qO (H':=X++((b3,.cells 3 1 [zi gen])::(lb,.cells 387 2 [.slice (some ⟨q1,p1,none⟩) n cap,zi gen])::(XQ++((XS1.set k []).flatten++H)))) ((show qC _ ((b3,.cells 3 1 [zi gen])::(lb,.cells 387 2 [.slice (some ⟨q1,p1,none⟩) n cap,zi gen])::(XQ++(X++((XS1.set k []).flatten++H)))) from .cons (.here _) (.cons (.here _) (.app (.here _) (QK hX0)))).trans zH) ?_
  refine qk (zc2 rfl rfl) Tryz.call338 rfl (qo8 (H:=(b3,.cells 3 1 [zi gen])::(lb,.cells 387 2 [.slice (some ⟨q1,p1,none⟩) n cap,zi gen])::(XQ++((XS1.set k []).flatten++H))) hX (gen:=gen) List.mem_cons_self) ?_
  rintro v H' ⟨X',c2,hX',rfl,hc2,hc3,rfl⟩
  refine qO (H':=(b3,.cells 3 1 [zi gen])::(lb,.cells 387 2 [.slice (some ⟨q1,p1,none⟩) n cap,zi gen])::(XQ++((XS1.set k X').flatten++H))) ((show qC _ ((b3,.cells 3 1 [zi gen])::(lb,.cells 387 2 [.slice (some ⟨q1,p1,none⟩) n cap,zi gen])::(XQ++(X'++((XS1.set k []).flatten++H)))) from zH).trans (.cons (.here _) (.cons (.here _) (.app (.here _) (ZA (by rw [hl1.l2]; exact hk)))))) ?_
  refine qE rfl rfl (qQ (m:=cnt+c2) (zg zO)) rfl ?_
  refine za 4 rfl ?_
  refine qE rfl rfl (qQ (m:=((k+1:Nat):Int)) ((zg zO).trans zO)) rfl ?_
  refine za 2 rfl ?_
  refine qP (k+1,XS1.set k X',Q1.set k (q.map (Yt gen)),cnt+c2) ⟨by show k+1≤n; omega,hl1.set hrb hX',(by show Q1.set k _=_; rw [hQ1]; exact qet hqq),by show 0≤cnt+c2; omega,by show cnt+c2≤64*((k+1:Nat):Int); omega⟩ (by show n-(k+1)<n-k; omega) (qa rfl (qa rfl (qa rfl (qa rfl (qa rfl (qi _)))))) rfl zH
 ·skip
  refine za 5 rfl ?_
  refine qd (H2:=(lb,.cells 387 2 [.slice (some ⟨q1,p1,none⟩) n cap,zi gen])::(XQ++(XS1.flatten++H))) Tryz.results249 rfl (.nil _) zH ?_
  have ekn:k=n:=by omega
  rw [ekn,List.take_of_length_le (by rw [hl.l3]; exact Nat.le_refl _),List.drop_eq_nil_of_le (by rw [hl.l3]; exact Nat.le_refl _),List.append_nil] at hQ1
  subst hQ1
  exact ⟨(lb,.cells 387 2 [.slice (some ⟨q1,p1,none⟩) n cap,zi gen])::(XQ++XS1.flatten),cnt,.mk hv hl1,rfl,by simp only [List.cons_append,List.append_assoc]⟩
theorem qC.of_perm {H':qg} (h:H.Perm H'):qC H H':=by
 induction h with
 | nil=>exact .refl _
 | cons x _ ih=>exact .cons (.here _) ih
 | swap x y l=>exact .cons (.next (.here _)) (.refl _)
 | trans _ _ ih1 ih2=>exact .trans ih1 ih2
theorem flat_take {α:Type}:∀ {XS:List (List α)} {k:Nat} {B:List α},XS[k]?=some B→XS.flatten.Perm (B++(XS.set k []).flatten)
 | X::XS,0,B,h=>by
  obtain rfl:X=B:=by simpa using h
  simp
 | X::XS,k+1,B,h=>by
  have ih:=flat_take (XS:=XS) (k:=k) (B:=B) (by simpa using h)
  simp only [List.flatten_cons,List.set_cons_succ]
  exact (ih.append_left X).trans (by rw [← List.append_assoc,← List.append_assoc]; exact List.perm_append_comm.append_right _)
theorem qcC {XS:List (List α)} {k:Nat} {B:List α} (h:k<XS.length):(B++(XS.set k []).flatten).Perm (XS.set k B).flatten:=by
 have h1:=flat_take (XS:=XS.set k B) (k:=k) (B:=B) (by simp [h])
 rw [List.set_set] at h1
 exact h1.symm
def q9 (now:Nat) (sl:List Value) (bs:List Nat) (bm turn:Nat):List Value:=zu (now:Int)::(sl++(bs.map (fun z:Nat=>Value.int .u64 (z:Int))++[.map (some bm),zi (turn:Int)]))
structure Zy (sl:List Value) (bs:List Nat):Prop where
 sl:sl.length=512
 bs:bs.length=8
theorem qaQ (h:Zy sl bs):(q9 now sl bs bm turn).length=523:=by
 simp [q9,h.sl,h.bs]
theorem qaP:(q9 now sl bs bm turn)[0]?=some (zu (now:Int)):=rfl
theorem qiJ {k:Nat} {v:Value} (h:Zy sl bs) (hv:sl[k]?=some v):(q9 now sl bs bm turn)[1+k]?=some v:=by
 have hk:=(List.getElem?_eq_some_iff.1 hv).1
 unfold q9
 rw [Nat.add_comm,List.getElem?_cons_succ,List.getElem?_append_left hk,hv]
theorem qiK {k:Nat} (h:Zy sl bs) (hv:bs[k]?=some z):(q9 now sl bs bm turn)[513+k]?=some (zu (z:Int)):=by
 have hk:=(List.getElem?_eq_some_iff.1 hv).1
 unfold q9
 rw [show 513+k=(512+k)+1 by omega,List.getElem?_cons_succ,List.getElem?_append_right (by rw [h.sl]; omega),h.sl,show 512+k-512=k by omega,List.getElem?_append_left (by simpa using hk),List.getElem?_map,hv]; rfl
theorem Y5 (h:Zy sl bs):(q9 now sl bs bm turn)[521]?=some (.map (some bm)):=by
 unfold q9
 rw [List.getElem?_cons_succ,List.getElem?_append_right (by rw [h.sl]; omega),h.sl,List.getElem?_append_right (by rw [List.length_map,h.bs]; omega),List.length_map,h.bs]; rfl
theorem qgt (h:Zy sl bs):(q9 now sl bs bm turn)[522]?=some (zi (turn:Int)):=by
 unfold q9
 rw [List.getElem?_cons_succ,List.getElem?_append_right (by rw [h.sl]; omega),h.sl,List.getElem?_append_right (by rw [List.length_map,h.bs]; omega),List.length_map,h.bs]; rfl
theorem qhl {n2:Nat} :(q9 now sl bs bm turn).set 0 (zu (n2:Int))=q9 n2 sl bs bm turn:=rfl
theorem qel {k:Nat} {v:Value} (h:Zy sl bs) (hk:k<512):(q9 now sl bs bm turn).set (1+k) v=q9 now (sl.set k v) bs bm turn:=by
 unfold q9
 rw [Nat.add_comm,List.set_cons_succ,List.set_append_left _ _ (by rw [h.sl]; exact hk)]
theorem qem {k:Nat} (h:Zy sl bs) (hk:k<8):(q9 now sl bs bm turn).set (513+k) (zu (z:Int))=q9 now sl (bs.set k z) bm turn:=by
 unfold q9
 rw [show 513+k=(512+k)+1 by omega,List.set_cons_succ,List.set_append_right _ _ (by rw [h.sl]; omega),h.sl,show 512+k-512=k by omega,List.set_append_left _ _ (by simpa [h.bs] using hk),List.map_set]
theorem qfr {t2:Nat} (h:Zy sl bs):(q9 now sl bs bm turn).set 522 (zi (t2:Int))=q9 now sl bs bm t2:=by
 unfold q9
 rw [List.set_cons_succ,List.set_append_right _ _ (by rw [h.sl]; omega),h.sl,List.set_append_right _ _ (by rw [List.length_map,h.bs]; omega),List.length_map,h.bs]; rfl
theorem Zy.setSl (h:Zy sl bs) (k:Nat) (v:Value):Zy (sl.set k v) bs:=⟨by rw [List.length_set,h.sl],h.bs⟩
theorem Zy.setBs (h:Zy sl bs) (k z:Nat):Zy sl (bs.set k z):=⟨h.sl,by rw [List.length_set,h.bs]⟩
set_option maxRecDepth 100000
def sl0:List Value:=List.replicate 512 (.slice none 0 0)
def bs0:List Nat:=List.replicate 8 0
theorem ok0:Zy sl0 bs0:=⟨List.length_replicate,List.length_replicate⟩
theorem New_L:qh Tryz.prog w0 275 #[zu ((now:Nat):Int)] (H) (fun v H'=>∃ bw bm,v=zp bw∧H'=(bw,.cells 406 523 (q9 now sl0 bs0 bm 0))::(bm,.obj (qM (Value.int .i64) [] 0))::H):=by
 refine qc (l:=[zu ((now:Nat):Int)]) Tryz.func275 rfl Tryz.ntmps275 rfl rfl ?_
 refine za 5 rfl ?_
 refine KO (kf:=(Value.int .i64)) rfl (fun b4=>?_)
 refine qX (l:=q9 now sl0 bs0 b4 0) ty406 pl406 (.cons rfl rfl rfl rfl rfl (.cons rfl rfl rfl rfl rfl .nil)) rfl zk rfl ?_
 refine qK (l:=q9 now sl0 bs0 b4 0) rfl rfl rfl (fun b6=>?_)
 refine za 2 rfl (qd Tryz.results275 rfl (.nil _) (.refl _) ?_)
 exact ⟨b6,b4,rfl,rfl⟩
theorem K5 {s:Nat} {f:Int} (h:zN m f=some s):s<64∧m.testBit s=true:=by
 unfold zN at h
 cases h1:Z2 m f with
 | some i =>
  rw [h1] at h
  obtain rfl:i=s:=Option.some.inj h
  exact ⟨(JZ h1).1,(JZ h1).2.1⟩
 | none =>
  rw [h1] at h
  exact ⟨(JZ h).1,(JZ h).2.1⟩
def Z4 (now n:Nat):Nat:=(now/8 ^ n+1)%64
theorem addW (a:Nat):IntKind.u64.wrap ((a:Int)+1)=(((a+1)%18446744073709551616:Nat):Int):=by
 have e:IntKind.u64.wrap ((a:Int)+1)=((a:Int)+1)%18446744073709551616:=by simp [IntKind.wrap,IntKind.signed,IntKind.bits]
 rw [e]; omega
theorem qdj {lp b1:Nat} (hT:Tab w0) (hok:Zy sl bs) (hnow:now≤18446744073709551615) (hbs:∀ z∈bs,z<18446744073709551616) (J:Nat→qg→Prop)
  (hskip:∀ n z Hi,n<8→bs[n]?=some z→zN z ((Z4 now n:Nat):Int)=none→J n Hi→J (n+1) Hi)
  (hround:∀ n s z Hi,n<8→bs[n]?=some z→zN z ((Z4 now n:Nat):Int)=some s→J n Hi→ZD Tryz.prog w0 lp #[.agg ([zi (n:Int),zi (s:Int),zu 0,zu 0]:List Value).toArray,zu ((Q8 now n s:Nat):Int)] ((b1,.cells 276 1 [zp bw])::(bw,.cells 406 523 (q9 now sl bs bm turn))::Hi) (fun v H'=>∃ Hi',qC H' ((b1,.cells 276 1 [zp bw])::(bw,.cells 406 523 (q9 now sl bs bm turn))::Hi')∧v=.bool true∧J (n+1) Hi')) (hJ:J 0 H) :
  qh Tryz.prog w0 409 #[.func (.yield lp) #[] #[],zp b1] ((b1,.cells 276 1 [zp bw])::(bw,.cells 406 523 (q9 now sl bs bm turn))::H) (fun _ H'=>∃ Hi',qC H' ((b1,.cells 276 1 [zp bw])::(bw,.cells 406 523 (q9 now sl bs bm turn))::Hi')∧J 8 Hi'):=by
 refine qc (l:=[.func (.yield lp) #[] #[],zp b1]) Tryz.func409 rfl Tryz.ntmps409 rfl rfl ?_
 refine za 4 rfl ?_
 refine qU (X:=(Nat × qg)) [(0,_),(1,_)] (fun (x:(Nat × qg))=>[(10,zi (x.1:Int))]) (fun _=>_) (fun (x:(Nat × qg))=>(b1,.cells 276 1 [zp bw])::(bw,.cells 406 523 (q9 now sl bs bm turn))::x.2) (fun (x:(Nat × qg))=>x.1≤8∧J x.1 x.2) (fun (x:(Nat × qg))=>8-x.1) (0,H) ⟨Nat.zero_le _,hJ⟩ (qa rfl (qa rfl (qi _))) (qa rfl (qi _)) rfl (qC.refl _) ?_
 rintro ⟨n,Hi⟩ ⟨hn,hJi⟩
 dsimp only at hn hJi ⊢
 simp only [List.cons_append,List.nil_append]
 refine za 4 rfl ?_
 refine qm (p:=(n:Int)<8) rfl (by simp) (fun q0=>?_) (fun q0=>?_)
 ·skip
  refine za 7 rfl (zh zk zK ?_)
  obtain ⟨z,hz⟩:∃ z,bs[n]?=some z:=⟨_,List.getElem?_eq_getElem (by rw [hok.bs]; omega)⟩
  have hn8:n<8:=by omega
  have hp8:=qnc hn8
  have hdl:now/8 ^ n≤now:=Nat.div_le_self _ _
  refine qG (qj (v:=zp bw) rfl Ze rfl (qf.own (b:=b1) zM rfl)) rfl ?_
  refine zq 2 rfl ?_
  refine qG (qj (v:=zu (now:Int)) rfl zJ rfl (qf.own (b:=bw) zM qaP)) rfl ?_
  refine zq 1 rfl ?_
  refine Ja (zc1 rfl) Tryz.call410 rfl (T:=fun _=>True) trivial (qiy hn8) ?_
  refine qG (QU rfl rfl (qdv (by omega) (m:=((now/8 ^ n:Nat):Int)) (by rw [tdN]; generalize now/8 ^ n=y at *; exact JU ⟨by omega,by omega⟩))) rfl ?_
  refine qG (QU rfl rfl (qQ (m:=(((now/8 ^ n+1)%18446744073709551616:Nat):Int)) (addW _))) rfl ?_
  refine qG (QU rfl rfl (YK zd (m:=((Z4 now n:Nat):Int)) ((tmN _ 64).trans (by unfold Z4; omega)))) rfl ?_
  refine qG (qp2 rfl zJ ty3 (zg (by unfold Z4; omega))) rfl ?_
  refine zq 1 rfl (zX (ze ?_))
  refine qe (v:=zp bw) rfl Ze rfl (qf.own (b:=b1) zM rfl) rfl ?_
  refine za 3 rfl ?_
  refine Qe (j:=n) rfl rfl qc7 Qa (by first | rfl | omega) (by first | decide | omega | simp) rfl rfl ?_
  refine qe (v:=zu (z:Int)) rfl Qa rfl (by rw [Nat.mul_one]; exact qf.own (b:=bw) zM (qiK hok hz)) rfl ?_
  refine qD rfl rfl ?_
  refine qT (zc2 rfl rfl) Tryz.call335 rfl hT (Kt (m:=z) (f:=((Z4 now n:Nat):Int)) (hbs z (List.mem_of_getElem? hz))) ?_
  rcases ha:zN z ((Z4 now n:Nat):Int) with _ | s
  ·skip
   rw [show Je z ((Z4 now n:Nat):Int)=.tuple #[zi 0,.bool false] from by unfold Je; rw [ha]]
   refine za 14 rfl ?_
   refine qE rfl rfl (qQ (m:=((n+1:Nat):Int)) (by rw [zg (by omega)]; omega)) rfl ?_
   refine za 2 rfl ?_
   refine qP (n+1,Hi) ⟨by show n+1≤8; omega,hskip n z Hi hn8 hz ha hJi⟩ (by show 8-(n+1)<8-n; omega) (qa rfl (qa rfl (qa rfl (qi _)))) rfl (qC.refl _)
  ·skip
   rw [show Je z ((Z4 now n:Nat):Int)=.tuple #[zi (s:Int),.bool true] from by unfold Je; rw [ha]]
   have hs64:=(K5 ha).1
   refine za 16 rfl ?_
   refine qX (l:=[zi (n:Int),zi (s:Int),zu 0,zu 0]) zj qcf (.cons rfl rfl rfl rfl rfl (.cons rfl rfl rfl rfl rfl .nil)) rfl rfl rfl ?_
   refine qp (l:=qN.v) zj rfl rfl (fun b7=>?_)
   refine ql (l':=[zi (n:Int),zi (s:Int),zu 0,zu 0]) rfl rfl zj rfl rfl (b:=b7) zM (by exact Nat.le_refl 4) rfl zU ?_
   refine za 2 rfl ?_
   refine qe (v:=zp bw) rfl Ze rfl (qf.own (b:=b1) zM rfl) rfl ?_
   refine za 2 rfl ?_
   refine qe (v:=zu (now:Int)) rfl zJ rfl (qf.own (b:=bw) zM qaP) rfl ?_
   refine za 2 rfl ?_
   refine qT (zc3 rfl rfl rfl) Tryz.call411 rfl (T:=fun _=>True) trivial (qis (a:=now) (n:=n) (s:=s) hnow hn8 hs64) ?_
   refine za 8 rfl ?_
   refine qJ (vs:=[zi (n:Int),zi (s:Int),zu 0,zu 0]) rfl zj rfl (b:=b7) zM rfl rfl rfl ?_
   refine qD rfl rfl ?_
   refine qO (.drop (.refl _)) ?_
   refine JT rfl (.cons rfl (.cons rfl .nil)) rfl (hround n s z Hi zO hz ha hJi) ?_
   rintro v H' ⟨Hi',hsub,rfl,hJ'⟩
   refine qO hsub ?_
   refine za 6 rfl ?_
   refine qE rfl rfl (qQ (m:=((n+1:Nat):Int)) (by rw [zg (by omega)]; omega)) rfl ?_
   refine za 2 rfl ?_
   refine qP (n+1,Hi') ⟨by show n+1≤8; omega,hJ'⟩ (by show 8-(n+1)<8-n; omega) (qa rfl (qa rfl (qa rfl (qi _)))) rfl (qC.refl _)
 ·skip
  refine Yg rfl (Zn Tryz.results409 (.nil _) (.refl _) ?_)
  obtain rfl:n=8:=by omega
  exact ⟨Hi,.refl _,hJi⟩
theorem qjE:qh Tryz.prog w0 362 #[zp bw] (H) (fun v H'=>∃ b1,v=.func (.func 409) #[] #[zp b1]∧H'=(b1,.cells 276 1 [zp bw])::H):=by
 refine qc (l:=[zp bw]) Tryz.func362 rfl Tryz.ntmps362 rfl rfl ?_
 refine ze ?_
 refine qK rfl rfl rfl (fun b1=>?_)
 refine za 3 rfl (qI .nil (.cons rfl .nil) rfl (za 2 rfl (qd Tryz.results362 rfl (.nil _) (.refl _) ?_)))
 exact ⟨b1,rfl,rfl⟩
def nx (now:Nat) (bs:List Nat):Nat→Option Nat
 | 0=>none
 | n+1=>match bs[n]? with
  | none=>nx now bs n
  | some z=>match zN z ((Z4 now n:Nat):Int) with
   | none=>nx now bs n
   | some s=>match nx now bs n with
    | none=>some (Q8 now n s)
    | some a=>some (if Q8 now n s<a then Q8 now n s else a)
theorem qgJ (hz:bs[n]?=some z) (ha:zN z ((Z4 now n:Nat):Int)=none):nx now bs (n+1)=nx now bs n:=by
 show (match bs[n]? with | none=>_ | some z=>_)=_
 rw [hz]; dsimp only; rw [ha]
theorem qeL {s:Nat} (hz:bs[n]?=some z) (ha:zN z ((Z4 now n:Nat):Int)=some s) (hx:nx now bs n=none):nx now bs (n+1)=some (Q8 now n s):=by
 show (match bs[n]? with | none=>_ | some z=>_)=_
 rw [hz]; dsimp only; rw [ha]; dsimp only; rw [hx]
theorem qdP {s a:Nat} (hz:bs[n]?=some z) (ha:zN z ((Z4 now n:Nat):Int)=some s) (hx:nx now bs n=some a):nx now bs (n+1)=some (if Q8 now n s<a then Q8 now n s else a):=by
 show (match bs[n]? with | none=>_ | some z=>_)=_
 rw [hz]; dsimp only; rw [ha]; dsimp only; rw [hx]
theorem nx_or (x:Option Nat) (t:Nat):x=none∨(∃ a,x=some a∧t<a)∨(∃ a,x=some a∧¬ t<a):=by
 cases x with
 | none=>exact .inl rfl
 | some a=>by_cases h:t<a; exact .inr (.inl ⟨a,rfl,h⟩); exact .inr (.inr ⟨a,rfl,h⟩)
theorem qqn (hok:Zy sl bs) (hnow:now≤18446744073709551615) (hbs:∀ z∈bs,z<18446744073709551616) (hT:Tab w0):qh Tryz.prog w0 268 #[zp bw] ((bw,.cells 406 523 (q9 now sl bs bm turn))::H) (fun v H'=>v=.tuple #[zu (((nx now bs 8).getD 0:Nat):Int),.bool (nx now bs 8).isSome]∧H'=(bw,.cells 406 523 (q9 now sl bs bm turn))::H):=by
 obtain ⟨F,hF⟩:∃ F:Nat→Option Nat,F=nx now bs:=⟨_,rfl⟩
 have hF0:F 0=none:=by rw [hF]; rfl
 rw [← hF]
 refine qc (l:=[zp bw]) Tryz.func268 rfl Tryz.ntmps268 rfl rfl ?_
 refine za 7 rfl ?_
 refine W_x (qr rfl rfl Ze) (fun _ h=>by cases h) rfl ?_
 refine za 4 rfl ?_
 refine qp (l:=[zu 0]) zJ rfl rfl (fun b4=>?_)
 refine qp (l:=[.bool false]) ty4 rfl rfl (fun b5=>?_)
 refine qv (l':=[zu 0]) rfl rfl zJ rfl rfl (b:=b4) zM rfl rfl zU ?_
 refine qv (l':=[.bool false]) rfl rfl ty4 rfl rfl (b:=b5) zM rfl rfl zU ?_
 refine za 4 rfl ?_
 refine qk (zc1 rfl) Tryz.call362 rfl (qjE (bw:=bw)) ?_
 rintro v H' ⟨b1,rfl,rfl⟩
 refine za 2 rfl (Qp rfl Tryz.call409 ?_)
 intro lp D r hst hpd hps hasg hbody hA
 have hr:=QC hst hpd
 show qh _ _ _ #[_,_] _ _
 refine ((qdj (b1:=b1) (bw:=bw) (bm:=bm) (now:=now) (turn:=turn) (sl:=sl) (bs:=bs) (H:=(lp,.obj (.loop r))::(D,.obj (.deferred (some [])))::(b5,.cells 4 1 [.bool false])::(b4,.cells 30 1 [zu 0])::H) hT hok hnow hbs (fun n Hi=>Hi=(lp,.obj (.loop r))::(D,.obj (.deferred (some [])))::(b5,.cells 4 1 [.bool (F n).isSome])::(b4,.cells 30 1 [zu (((F n).getD 0:Nat):Int)])::H) (fun n z Hi _ hz ha hJ=>by show Hi=_; rw [hF,qgJ hz ha,← hF]; exact hJ) ?_ (by show _=(lp,.obj (.loop r))::(D,.obj (.deferred (some [])))::(b5,.cells 4 1 [.bool (F 0).isSome])::(b4,.cells 30 1 [zu (((F 0).getD 0:Nat):Int)])::H; rw [hF0]; rfl)).hsub zH).mono ?_
 ·intro n s z Hi hn hz ha hJ
  subst hJ
  obtain ⟨t,ht⟩:∃ t,t=Q8 now n s:=⟨_,rfl⟩
  rw [← ht]
  refine Qo hst hpd hA hps rfl hasg rfl rfl rfl zT ?_
  refine za 3 rfl (Jf hst hpd zT hbody (za 2 rfl ?_))
  rcases nx_or (F n) t with hx | ⟨a,hx,hlt⟩ | ⟨a,hx,hlt⟩
  ·skip
   rw [hx]
   refine qe (v:=.bool false) rfl ty4 rfl (qf.own (b:=b5) zM rfl) rfl ?_
   refine za 10 rfl ?_
   refine qv (l':=[zu ((t:Nat):Int)]) rfl rfl zJ rfl rfl (b:=b4) zM rfl rfl zU ?_
   refine qv (l':=[.bool true]) rfl rfl ty4 rfl rfl (b:=b5) zM rfl rfl zU ?_
   refine za 2 rfl ?_
   have hs1:F (n+1)=some t:=by rw [hF,qeL hz ha (hF ▸ hx),← ht]
   refine Qs zT ?_
   rw [hr]
   exact ⟨(lp,.obj (.loop r))::(D,.obj (.deferred (some [])))::(b5,.cells 4 1 [.bool true])::(b4,.cells 30 1 [zu ((t:Nat):Int)])::H,zH,rfl,by show _=(lp,.obj (.loop r))::(D,.obj (.deferred (some [])))::(b5,.cells 4 1 [.bool (F (n+1)).isSome])::(b4,.cells 30 1 [zu (((F (n+1)).getD 0:Nat):Int)])::H; rw [hs1]; rfl⟩
  ·skip
   rw [hx]
   refine qe (v:=.bool true) rfl ty4 rfl (qf.own (b:=b5) zM rfl) rfl ?_
   refine za 5 rfl ?_
   refine qe (v:=zu ((a:Nat):Int)) rfl zJ rfl (qf.own (b:=b4) zM rfl) rfl ?_
   refine za 2 rfl ?_
   rw [decide_eq_true (by omega)]
   refine za 5 rfl ?_
   refine qv (l':=[zu ((t:Nat):Int)]) rfl rfl zJ rfl rfl (b:=b4) zM rfl rfl zU ?_
   refine qv (l':=[.bool true]) rfl rfl ty4 rfl rfl (b:=b5) zM rfl rfl zU ?_
   refine za 2 rfl ?_
   have hs1:F (n+1)=some t:=by rw [hF,qdP hz ha (hF ▸ hx),← ht,if_pos hlt]
   refine Qs zT ?_
   rw [hr]
   exact ⟨(lp,.obj (.loop r))::(D,.obj (.deferred (some [])))::(b5,.cells 4 1 [.bool true])::(b4,.cells 30 1 [zu ((t:Nat):Int)])::H,zH,rfl,by show _=(lp,.obj (.loop r))::(D,.obj (.deferred (some [])))::(b5,.cells 4 1 [.bool (F (n+1)).isSome])::(b4,.cells 30 1 [zu (((F (n+1)).getD 0:Nat):Int)])::H; rw [hs1]; rfl⟩
  ·skip
   rw [hx]
   refine qe (v:=.bool true) rfl ty4 rfl (qf.own (b:=b5) zM rfl) rfl ?_
   refine za 5 rfl ?_
   refine qe (v:=zu ((a:Nat):Int)) rfl zJ rfl (qf.own (b:=b4) zM rfl) rfl ?_
   refine za 2 rfl ?_
   rw [decide_eq_false (by omega)]
   refine za 5 rfl ?_
   have hs1:F (n+1)=some a:=by rw [hF,qdP hz ha (hF ▸ hx),← ht,if_neg hlt]
   refine Qs zT ?_
   rw [hr]
   exact ⟨(lp,.obj (.loop r))::(D,.obj (.deferred (some [])))::(b5,.cells 4 1 [.bool true])::(b4,.cells 30 1 [zu ((a:Nat):Int)])::H,zH,rfl,by show _=(lp,.obj (.loop r))::(D,.obj (.deferred (some [])))::(b5,.cells 4 1 [.bool (F (n+1)).isSome])::(b4,.cells 30 1 [zu (((F (n+1)).getD 0:Nat):Int)])::H; rw [hs1]; rfl⟩
 ·intro _ H' hp
  obtain ⟨Hi',hs,rfl⟩:=hp
  refine ⟨.ready,none,(b1,.cells 276 1 [zp bw])::(bw,.cells 406 523 (q9 now sl bs bm turn))::(D,.obj (.deferred (some [])))::(b5,.cells 4 1 [.bool (F 8).isSome])::(b4,.cells 30 1 [zu (((F 8).getD 0:Nat):Int)])::H,by rw [hr]; exact hs.trans zH,by decide,?_⟩
  show W _ _ _ _ _ _ _ _ _
  refine qhd (zh zk zK ?_)
  refine qG (qj (v:=zu (((F 8).getD 0:Nat):Int)) rfl zJ rfl (qf.own (b:=b4) zM rfl)) rfl ?_
  refine qG (qj (v:=.bool (F 8).isSome) rfl ty4 rfl (qf.own (b:=b5) zM rfl)) rfl ?_
  refine zq 2 rfl (zX ?_)
  refine qL (H2:=(bw,.cells 406 523 (q9 now sl bs bm turn))::H) Tryz.results268 rfl rfl (.cons zT (.nil _)) zH ?_
  exact ⟨rfl,rfl⟩
theorem Now_q (hw:(bw,.cells 406 523 (q9 now sl bs bm turn))∈H) :qB Tryz.prog w0 H 177 [zp bw] (zu ((now:Nat):Int)):=by
 refine qc Tryz.func177 rfl Tryz.ntmps177 rfl rfl (za 6 rfl ?_)
 refine W_x (qr rfl rfl Ze) (fun _ h=>by cases h) rfl ?_
 refine za 7 rfl ?_
 refine qe (v:=zu (now:Int)) rfl zJ rfl (qf.own (b:=bw) hw qaP) rfl ?_
 refine za 2 rfl ?_
 refine qd (H2:=H) Tryz.results177 rfl (.nil _) zH ?_
 exact ⟨rfl,rfl⟩
theorem qot:Qx Tryz.prog (fun _=>True) 177 [.pointer none] (zu 0):=by
 intro w0 H hT
 refine qc Tryz.func177 rfl Tryz.ntmps177 rfl rfl (za 6 rfl ?_)
 refine W_x (qr rfl rfl Ze) (fun _ h=>by cases h) rfl ?_
 refine za 5 rfl ?_
 refine qd (H2:=H) Tryz.results177 rfl (.nil _) zH ?_
 exact ⟨rfl,rfl⟩
end Go.Proofs.YtincjohoncljoaaGreatDoor
