/-
  Own work: contracts of functions that the statement reaches, and plain facts on what they compute; each theorem says its conditions.
-/
import Derived.Test.YtincjohoncljoaaGreatDoorLqT7
import Derived.Test.YtincjohoncljoaaGreatDoorLqS2
import Derived.Test.YtincjohoncljoaaGreatDoorLqT4
import Derived.Test.YtincjohoncljoaaGreatDoorLqT6
import Derived.Test.YtincjohoncljoaaGreatDoorLqA
set_option linter.all false
set_option linter.unusedSimpArgs false
set_option linter.unusedVariables false
set_option maxHeartbeats 16000000
namespace Go.Proofs.YtincjohoncljoaaGreatDoor
open Go Go.Sl
variable {w0:World} {H HT HO HA X:qg} {room bo tb T T' i cap n mb ab kind entries words fi wb g1 g2 rb db lb:Nat} {c:Option Nat × Bool} {m k how:Int} {C:List (Int × Hd)} {s:Slt} {h g:Hd} {L:List Slt} {ad:Option Addr} {closed b:Bool} {used:List Int} {ca:List Value} {M:List (Option Nat × Bool)} {HM:List qg}
attribute [local irreducible] W
def qh0 (q:List Int):Value:=match q[0]? with
 | some z=>(Value.int .u64) z
 | none=>(.int .u64 0)
theorem qh3 (q:List Int):qd5 q=.tuple #[qh0 q,.bool (!q.isEmpty)]:=by
 unfold qd5 qh0
 cases q <;> rfl
theorem qix {last c bm:Nat} {m:List Int} {l:Qk Int} {τ:Int→Nat} (hO:QW room m last l c τ) (h64:room≤64) :qh Tryz.prog w0 147 #[zp bo] ((bo,.cells 372 3 [zi (room:Int),zi ((last:Nat):Int),.map (some bm)])::(bm,.obj (qM (Value.int .u64) l c))::H) (fun v H'=>v=.tuple #[qh0 (m),.bool (!(m).isEmpty)]∧H'=(bo,.cells 372 3 [zi (room:Int),zi ((last:Nat):Int),.map (some bm)])::(bm,.obj (qM (Value.int .u64) l c))::H):=by
 have hml:m.length≤64:=Nat.le_trans hO.le h64
 refine qc (l:=[zp bo]) Tryz.func147 rfl Tryz.ntmps147 rfl rfl ?_
 refine za 6 rfl ?_
 refine qk (zc2 rfl rfl) Tryz.call224 rfl ((qhu (H:=H) hO false h64).hsub zH) ?_
 rintro v H' ⟨bl,sv,HB,rfl,hS,rfl⟩
 simp only [Bool.false_eq_true,if_false] at hS
 obtain ⟨ad,cap,rfl,_,_,hrw⟩:=Holds.of_own (w0:=w0) (H:=HB++[]) hS (fun p hp=>List.mem_append_left _ hp)
 refine qk (zc1 rfl) Tryz.call238 rfl (qlo (H:=(bo,.cells 372 3 [zi (room:Int),zi ((last:Nat):Int),.map (some bm)])::(bm,.obj (qM (Value.int .u64) l c))::H) (HB:=HB) (bl:=bl) (ad:=ad) (q:=m) (by (try rw [List.length_reverse]); omega) (hrw.up (.drop (.refl _)))) ?_
 rintro v H' ⟨rfl,rfl⟩
 rw [qh3]
 refine za 5 rfl ?_
 refine qL (H2:=(bo,.cells 372 3 [zi (room:Int),zi ((last:Nat):Int),.map (some bm)])::(bm,.obj (qM (Value.int .u64) l c))::H) Tryz.results147 rfl rfl (.nil _) zH ?_
 exact ⟨rfl,rfl⟩
inductive Zq (ab:Nat) (L:List Slt):qg→Prop
 | mk {sb u f:Nat} (hu:zC 1 L u) (hf:zC 0 L f) (hk:Zk L):Zq ab L [(ab,.cells 345 3 [.slice (some ⟨sb,0,none⟩) L.length L.length,.int .u64 ((u:Nat):Int),.int .u64 ((f:Nat):Int)]),(sb,.cells 377 (L.length*7) ((L).flatMap Q9))]
inductive Zb (tb room:Nat) (C:List (Int × Hd)):qg→Prop
 | mk {cb:Nat} {vs:List Value} {Hs:List qg} (hT:TabIs C vs Hs):Zb tb room C ((tb,.cells 348 3 [.slice (some ⟨cb,0,none⟩) 8 8,.int .i64 (room:Int),.int .i64 ((C.length:Nat):Int)])::(cb,.cells 482 8 vs)::Hs.flatten)
theorem Zb.nd (h:Zb tb room C HT):(Zm C).Nodup∧C.length≤64:=by
 cases h with
 | mk hT=>exact ⟨hT.nd,hT.len⟩
inductive Jp (bo room T:Nat) (m:List Int):qg→Prop
 | mk {bm last c:Nat} {l:Qk Int} {τ:Int→Nat} (hO:QW room m last l c τ) (hl:last≤T):Jp bo room T m [(bo,.cells 372 3 [.int .i64 (room:Int),.int .i64 ((last:Nat):Int),.map (some bm)]),(bm,.obj (qM (Value.int .u64) l c))]
theorem Jp.up {m:List Int} (h:Jp bo room T m HO) (hl:T≤T'):Jp bo room T' m HO:=by
 cases h with
 | mk hO h1=>exact .mk hO (Nat.le_trans h1 hl)
section
variable {w0:World} {H HA HT HO:qg} {ab tb bo room T:Nat} {L:List Slt} {C:List (Int × Hd)} {m:List Int}
theorem Zq.put (hA:Zq ab L HA) (hTab:Tab w0) {c:Cel} (hfi:ZW L=some i) (hs:L[i]?=some s) :
  qh Tryz.prog w0 241 #[zp ab,.agg (List.toArray (z7 c))] (HA++H) (fun v H'=>∃ HA',Zq ab (L.set i { s with st:=1,cel:=c }) HA'∧v=.tuple #[.agg (List.toArray (hdC s.own)),zi 0]∧H'=HA'++H):=by
 cases hA with
 | mk hu hf hk =>
  refine (qqi (ab:=ab) (H:=H) hu hf hk hfi hs (c:=c) hTab).mono ?_
  rintro v H' ⟨u',f',rfl,hu',hf',rfl⟩
  exact ⟨_,.mk hu' hf' (hk.set (hk.own i s hs)),rfl,by rw [List.length_set]; rfl⟩
theorem Zq.get (hA:Zq ab L HA) (hm:∀ p∈HA,p∈H) :qB Tryz.prog w0 H 245 [zp ab,.agg (List.toArray (hdC h))] (.tuple #[.agg (List.toArray (z7 (ZX L h))),zi (Qc L h)]):=by
 cases hA with
 | mk hu hf hk=>exact Get_q hu hk (hm _ List.mem_cons_self) (hm _ (List.mem_cons_of_mem _ List.mem_cons_self))
theorem Zq.lenq (hA:Zq ab L HA) (hm:∀ p∈HA,p∈H):qB Tryz.prog w0 H 125 [zp ab] (zi ((K3 1 L:Nat):Int)):=by
 cases hA with
 | mk hu hf hk=>exact qqt hu hk (hm _ List.mem_cons_self)
theorem Zq.roomq (hA:Zq ab L HA) (hm:∀ p∈HA,p∈H):qB Tryz.prog w0 H 237 [zp ab] (zi ((K3 0 L:Nat):Int)):=by
 cases hA with
 | mk hu hf hk=>exact qoq hf hk (hm _ List.mem_cons_self)
theorem qaU (L:List Slt) (h:Hd) (c:Cel):(Zk L→Zk (QH L h (fun s=>{ s with cel:=c })))∧∀ n m,zC n L m→zC n (QH L h (fun s=>{ s with cel:=c })) m:=by
 by_cases he:Qc L h=0
 ·obtain ⟨i,s,hi,hs,hu,ho,hc,hset⟩:=Y0 he
  rw [hset]
  exact ⟨fun hk=>hk.set (hk.own i s hs),fun n m h=>h.same hs Iff.rfl⟩
 ·rw [(XH he).2]
  exact ⟨id,fun _ _ h=>h⟩
theorem Zq.set (hA:Zq ab L HA) {c:Cel}:qh Tryz.prog w0 144 #[zp ab,.agg (List.toArray (hdC h)),.agg (List.toArray (z7 c))] (HA++H) (fun v H'=>∃ HA',Zq ab (QH L h (fun s=>{ s with cel:=c })) HA'∧v=zi (Qc L h)∧H'=HA'++H):=by
 cases hA with
 | mk hu hf hk =>
  refine (qqf (ab:=ab) (H:=H) hu hk (h:=h) (c:=c)).mono ?_
  rintro v H' ⟨rfl,rfl⟩
  exact ⟨_,.mk ((qaU L h c).2 _ _ hu) ((qaU L h c).2 _ _ hf) ((qaU L h c).1 hk),rfl,by rw [qdc]; rfl⟩
theorem qhA (hk:Zk L):Zk (QH L h Y7):=by
 by_cases he:Qc L h=0
 ·obtain ⟨i,s,hi,hs,hu,ho,hc,hset⟩:=Y0 he
  rw [hset]; exact hk.rel hs
 ·rw [(XH he).2]; exact hk
theorem Zq.free (hA:Zq ab L HA) (hrow:Holds w0 H ad (hdC h)):qh Tryz.prog w0 255 #[zp ab,.slice ad 1 cap] (HA++H) (fun v H'=>∃ HA',Zq ab (QH L h Y7) HA'∧v=zi (Qc L h)∧H'=HA'++H):=by
 cases hA with
 | mk hu hf hk =>
  refine (qqw (ab:=ab) (H:=H) hu hf hk (h:=h) (cap:=cap) hrow).mono ?_
  rintro v H' ⟨u',f',rfl,hu',hf',rfl⟩
  exact ⟨_,.mk hu' hf' (qhA hk),rfl,by rw [qdc]; rfl⟩
theorem Zq.new (h1:1≤n) (h2:n≤64):qh Tryz.prog w0 170 #[zi (n:Int)] H (fun v H'=>∃ ab HA,Zq ab (Xg n n) HA∧v=.tuple #[zp ab,zi 0]∧H'=HA++H):=by
 refine (qqr (w0:=w0) (H:=H) h1 h2).mono ?_
 rintro v H' ⟨ab,sb,rfl,rfl⟩
 refine ⟨ab,_,.mk (sb:=sb) qhN (qhO h1 h2) (qnl h1 h2),rfl,?_⟩
 rw [Zt]; rfl
theorem Zb.get (hT:Zb tb room C HT) (hm:∀ p∈HT,p∈H) :qB Tryz.prog w0 H 234 [zp tb,zu k] (qnG (Q6 C k)):=by
 cases hT with
 | mk hT=>exact qqv hT hm
theorem Zb.lenq (hT:Zb tb room C HT) (hm:∀ p∈HT,p∈H):qB Tryz.prog w0 H 126 [zp tb] (zi (C.length:Int)):=by
 cases hT with
 | mk hT=>exact qqs (hm _ List.mem_cons_self)
theorem Zb.put (hT:Zb tb room C HT) (hk:k ∉ Zm C) (hr:C.length<room) (hr64:room≤64):qh Tryz.prog w0 242 #[zp tb,zu k,.agg (List.toArray (hdC h))] (HT++H) (fun v H'=>∃ HT',Zb tb room ((k,h)::C) HT'∧v=.tuple #[.bool false,zi 0]∧H'=HT'++H):=by
 cases hT with
 | mk hT =>
  refine (qqj (tb:=tb) (room:=room) (H:=H) hT (h:=h) hk hr hr64).mono ?_
  rintro v H' ⟨vs',Hs',rfl,hT',rfl⟩
  exact ⟨_,.mk hT',rfl,rfl⟩
theorem Zb.del (hT:Zb tb room C HT) {kc:Nat} (hrow:Holds w0 H ad [zu k]):qh Tryz.prog w0 239 #[zp tb,.slice ad 1 kc] (HT++H) (fun v H'=>∃ HT',Zb tb room (Zu C k) HT'∧v=zi (qcO C k:Int)∧H'=HT'++H):=by
 cases hT with
 | mk hT =>
  refine (qqy (tb:=tb) (room:=room) (H:=H) hT (k:=k) (kc:=kc) hrow).mono ?_
  rintro v H' ⟨vs',Hs',rfl,hT',rfl⟩
  exact ⟨_,.mk hT',rfl,rfl⟩
theorem Zb.new (h1:1≤room) (h2:room≤64):qh Tryz.prog w0 171 #[zi 8,zi (room:Int)] H (fun v H'=>∃ tb HT,Zb tb room [] HT∧v=.tuple #[zp tb,zi 0]∧H'=HT++H):=by
 refine (qqp (w0:=w0) (H:=H) h1 h2).mono ?_
 rintro v H' ⟨tb,cb,rfl,rfl⟩
 exact ⟨tb,_,.mk TabIs.nil,rfl,rfl⟩
theorem qiV {m:List Int} (h:k∈m∨m.length<room):Y6 m room [k]=(zQ m k++[k],0):=by
 have e:Xu m room k=(zQ m k++[k],0):=if_neg (fun h2=>by rcases h with h | h; exact h2.1 h; omega)
 show (if (Xu m room k).2=0 then Y6 (Xu m room k).1 room [] else (m,3))=_
 rw [e]; rfl
theorem Jp.touch (hO:Jp bo room T m HO) (hT:T≤1000000) (hk:k∈m∨m.length<room) (hrow:Holds w0 H ad [zu k]):qh Tryz.prog w0 143 #[zp bo,.slice ad 1 cap] (HO++H) (fun v H'=>∃ HO',Jp bo room (T+1) (zQ m k++[k]) HO'∧v=zi 0∧H'=HO'++H):=by
 cases hO with
 | mk hO hl =>
  refine (qiW (bo:=bo) (H:=H) hO (ks:=[k]) (cap:=cap) (by show _+1≤_; omega) hrow).mono ?_
  rintro v H' ⟨last',l',c',τ',rfl,hO',hl',rfl⟩
  rw [qiV hk] at hO' ⊢
  exact ⟨_,.mk hO' (by have:last'≤_+1:=hl'; omega),rfl,rfl⟩
theorem Jp.drop (hO:Jp bo room T m HO) :qh Tryz.prog w0 240 #[zp bo,zu k] (HO++H) (fun v H'=>∃ HO',Jp bo room T (zQ m k) HO'∧v=.bool (inO m k)∧H'=HO'++H):=by
 cases hO with
 | mk hO hl =>
  refine (qnU (bo:=bo) (H:=H) hO k).mono ?_
  rintro v H' ⟨l',rfl,hO',rfl⟩
  exact ⟨_,.mk hO' hl,rfl,rfl⟩
theorem Jp.oldest (hO:Jp bo room T m HO) (h64:room≤64):qh Tryz.prog w0 147 #[zp bo] (HO++H) (fun v H'=>v=.tuple #[qh0 m,.bool (!m.isEmpty)]∧H'=HO++H):=by
 cases hO with
 | mk hO hl=>exact qix (bo:=bo) (H:=H) hO h64
theorem Jp.new (hz:1≤room∧room≤64):qh Tryz.prog w0 172 #[zi (room:Int)] H (fun v H'=>∃ bo HO,Jp bo room (0) [] HO∧v=.tuple #[zp bo,zi 0]∧H'=HO++H):=by
 refine (qpA (w0:=w0) (H:=H) hz).mono ?_
 rintro v H' ⟨bo,bm,rfl,rfl⟩
 exact ⟨bo,_,.mk (QW.nil room 0 (fun _=>0)) (Nat.le_refl _),rfl,rfl⟩
end
theorem qdS (hA:Zq ab L HA) (hB:Zb tb entries C HT) (hO:Jp bo entries T used HO) (hTl:T≤1000000) (he:entries≤64) {c:Cel} (hfi:ZW L=some i) (hs:L[i]?=some s) (hk:c.key ∉ Zm C) (hr:C.length<entries) (hru:used.length<entries) (hTab:Tab w0):qh Tryz.prog w0 149 #[zp mb,.agg (List.toArray (z7 c))] ((mb,.cells 217 7 [zi (kind:Int),zi (entries:Int),zi (words:Int),zp ab,zp tb,zp bo,.bool closed])::(HA++(HT++(HO++H)))) (fun v H'=>∃ HA' HT' HO',Zq ab (L.set i { s with st:=1,cel:=c }) HA'∧Zb tb entries ((c.key,s.own)::C) HT'∧Jp bo entries (T+1) (zQ used c.key++[c.key]) HO'∧v=.tuple #[.agg (List.toArray (hdC s.own)),zi 0]∧H'=(mb,.cells 217 7 [zi (kind:Int),zi (entries:Int),zi (words:Int),zp ab,zp tb,zp bo,.bool closed])::(HA'++(HT'++(HO'++H)))):=by
 refine qc (l:=[zp mb,.agg (List.toArray (z7 c))]) Tryz.func149 rfl Tryz.ntmps149 rfl rfl ?_
 refine ze ?_
 refine qK rfl rfl rfl (fun b3=>?_)
 refine qp (l:=hdC zHd) qR rfl rfl (fun b4=>?_)
 refine za 3 rfl ?_
 refine Kx (X:=(qg × Nat)) (fun x=>[(0,zp mb),(3,zp b3),(4,zp b4),(6,.pointer (some ⟨x.2,0,none⟩)),(7,zi 0)]) (fun x=>(x.2,.cells 40 2 (hdC s.own))::(b4,.cells 40 2 (hdC zHd))::(b3,.cells 220 5 (z7 c))::(mb,.cells 217 7 [zi (kind:Int),zi (entries:Int),zi (words:Int),zp ab,zp tb,zp bo,.bool closed])::(x.1++(HT++(HO++H)))) (fun x=>Zq ab (L.set i { s with st:=1,cel:=c }) x.1) ?_ ?_
 ·skip
  refine W_anyC [(mb,.cells 217 7 [zi (kind:Int),zi (entries:Int),zi (words:Int),zp ab,zp tb,zp bo,.bool closed]),(b3,.cells 220 5 (z7 c))] zk ?_
  refine zw [0,1,2] rfl rfl ?_
  refine WC_take 3 rfl zK zK zK rfl rfl (qj (v:=zp ab) rfl JH rfl (qf.own (b:=mb) zM rfl)) rfl ?_
  refine WC_take 4 rfl zK zK zK rfl rfl (Qm (vs:=z7 (c)) rfl Qz rfl (b:=b3) zM rfl rfl) rfl ?_
  refine K6 5 9 zH zK rfl rfl rfl rfl ?_ ?_
  ·skip
   refine qk (zc2 rfl rfl) Tryz.call241 rfl ((hA.put hTab hfi hs (c:=c) (H:=(mb,.cells 217 7 [zi (kind:Int),zi (entries:Int),zi (words:Int),zp ab,zp tb,zp bo,.bool closed])::(HT++(HO++((b4,.cells 40 2 (hdC zHd))::(b3,.cells 220 5 (z7 c))::H))))).hsub zH) ?_
   rintro v H' ⟨HA2,hA2,rfl,rfl⟩
   refine qs (WC_goal (zw [6,7,8] rfl rfl ?_))
   refine WC_one 9 zH zK rfl rfl ?_
   refine qp (l:=hdC zHd) qR rfl rfl (fun b6=>?_)
   refine qs (WC_goal ?_)
   refine WC_one 10 zH zK rfl rfl ?_
   refine ql (l':=hdC s.own) rfl rfl qR rfl rfl (b:=b6) zM (by exact Nat.le_refl 2) rfl zU ?_
   refine qs (WC_goal (zw [11] rfl rfl (WC_done zH zK ?_)))
   refine QV (HA2,b6) hA2 (qa rfl (qa rfl (qa rfl (qa rfl (qa rfl (qi _)))))) zH
  ·skip
   refine qp (l:=hdC zHd) qR rfl rfl (fun b6=>?_)
   refine qs (WC_goal ?_)
   refine WC_one 5 zH zK rfl rfl ?_
   refine qk (zc2 rfl rfl) Tryz.call241 rfl ((hA.put hTab hfi hs (c:=c) (H:=(b6,.cells 40 2 (hdC zHd))::(mb,.cells 217 7 [zi (kind:Int),zi (entries:Int),zi (words:Int),zp ab,zp tb,zp bo,.bool closed])::(HT++(HO++((b4,.cells 40 2 (hdC zHd))::(b3,.cells 220 5 (z7 c))::H))))).hsub zH) ?_
   rintro v H' ⟨HA2,hA2,rfl,rfl⟩
   refine qs (WC_goal (zw [6,7,8] rfl rfl ?_))
   refine WC_one 10 zH zK rfl rfl ?_
   refine ql (l':=hdC s.own) rfl rfl qR rfl rfl (b:=b6) zM (by exact Nat.le_refl 2) rfl zU ?_
   refine qs (WC_goal (zw [11] rfl rfl (WC_done zH zK ?_)))
   refine QV (HA2,b6) hA2 (qa rfl (qa rfl (qa rfl (qa rfl (qa rfl (qi _)))))) zH
 rintro ⟨HA2,b6⟩ hA2
 dsimp only at hA2 ⊢
 refine za 8 rfl ?_
 refine W_anyC [(mb,.cells 217 7 [zi (kind:Int),zi (entries:Int),zi (words:Int),zp ab,zp tb,zp bo,.bool closed]),(b3,.cells 220 5 (z7 c)),(b6,.cells 40 2 (hdC s.own))] zk ?_
 refine zw [0,1,2] rfl rfl ?_
 refine WC_take 3 rfl zK zK zK rfl rfl (qj (v:=zp tb) rfl YV rfl (qf.own (b:=mb) zM rfl)) rfl ?_
 refine zw [4] rfl rfl ?_
 refine WC_take 5 rfl zK zK zK rfl rfl (qj (v:=zu c.key) rfl zJ rfl (qf.own (b:=b3) zM rfl)) rfl ?_
 refine WC_take 6 rfl zK zK zK rfl rfl (Qm (vs:=hdC s.own) rfl qR rfl (b:=b6) zM rfl rfl) rfl ?_
 refine WC_one 7 zH zK rfl rfl ?_
 refine qk (zc3 rfl rfl rfl) Tryz.call242 rfl ((hB.put (h:=s.own) hk hr he (H:=(b6,.cells 40 2 (hdC s.own))::(b4,.cells 40 2 (hdC zHd))::(b3,.cells 220 5 (z7 c))::(mb,.cells 217 7 [zi (kind:Int),zi (entries:Int),zi (words:Int),zp ab,zp tb,zp bo,.bool closed])::(HA2++(HO++H)))).hsub zH) ?_
 rintro v H' ⟨HT2,hB2,rfl,rfl⟩
 refine qs (WC_goal (WC_done zH zK (Kv ?_)))
 refine W_anyC [(mb,.cells 217 7 [zi (kind:Int),zi (entries:Int),zi (words:Int),zp ab,zp tb,zp bo,.bool closed]),(b3,.cells 220 5 (z7 c))] zk ?_
 refine zw [0,1,2] rfl rfl ?_
 refine WC_take 3 rfl zK zK zK rfl rfl (qj (v:=zp bo) rfl YU rfl (qf.own (b:=mb) zM rfl)) rfl ?_
 refine zw [4] rfl rfl ?_
 refine WC_take 5 rfl zK zK zK rfl rfl (qj (v:=zu c.key) rfl zJ rfl (qf.own (b:=b3) zM rfl)) rfl ?_
 refine WC_one 6 zH zK rfl rfl ?_
 refine qy (l:=[zu c.key]) ZN zJ (.cons rfl rfl rfl rfl rfl .nil) rfl rfl rfl rfl rfl rfl rfl (fun b34=>?_)
 refine qs (WC_goal ?_)
 refine WC_one 7 zH zK rfl rfl ?_
 refine qk (zc2 rfl rfl) Tryz.call143 rfl ((hO.touch hTl (k:=c.key) (cap:=1) (.inr hru) (Holds.own (b:=b34) zM) (H:=(b34,.cells 30 (1*1) [zu c.key])::(b6,.cells 40 2 (hdC s.own))::(b4,.cells 40 2 (hdC zHd))::(b3,.cells 220 5 (z7 c))::(mb,.cells 217 7 [zi (kind:Int),zi (entries:Int),zi (words:Int),zp ab,zp tb,zp bo,.bool closed])::(HA2++(HT2++H)))).hsub zH) ?_
 rintro v H' ⟨HO2,hO2,rfl,rfl⟩
 refine qs (WC_goal (WC_done zH zK (ze ?_)))
 refine qJ (vs:=hdC s.own) rfl qR rfl (b:=b6) zM rfl rfl rfl ?_
 refine ql (l':=hdC s.own) rfl rfl qR rfl rfl (b:=b4) zM (by exact Nat.le_refl 2) rfl zU ?_
 refine za 2 rfl ?_
 refine zc (H2:=(mb,.cells 217 7 [zi (kind:Int),zi (entries:Int),zi (words:Int),zp ab,zp tb,zp bo,.bool closed])::(HA2++(HT2++(HO2++H)))) Tryz.results149 (.nil _) (.own (vs:=hdC s.own) rfl qR rfl (b:=b4) zM rfl) (.tmp rfl) zH ?_
 exact ⟨HA2,HT2,HO2,hA2,hB2,hO2,rfl,rfl⟩
theorem qc6 (hB:Zb tb entries C HT) (hO:Jp bo entries T used HO) :qh Tryz.prog w0 148 #[zp mb,zu k] ((mb,.cells 217 7 [zi (kind:Int),zi (entries:Int),zi (words:Int),zp ab,zp tb,zp bo,.bool closed])::(HA++(HT++(HO++H)))) (fun v H'=>∃ HT' HO',Zb tb entries (Zu C k) HT'∧Jp bo entries T (zQ used k) HO'∧v=.agg (List.toArray (hdC ((Q6 C k).getD zHd)))∧H'=(mb,.cells 217 7 [zi (kind:Int),zi (entries:Int),zi (words:Int),zp ab,zp tb,zp bo,.bool closed])::(HA++(HT'++(HO'++H)))):=by
 refine qc (l:=[zp mb,zu k]) Tryz.func148 rfl Tryz.ntmps148 rfl rfl ?_
 refine ze ?_
 refine qp (l:=hdC zHd) qR rfl rfl (fun b4=>?_)
 refine za 5 rfl ?_
 refine qe (v:=zp tb) rfl YV rfl (qf.own (b:=mb) zM rfl) rfl ?_
 refine qD rfl rfl ?_
 refine qn (zc2 rfl rfl) Tryz.call234 rfl (hB.get (k:=k) (fun p hp=>by repeat (first | exact List.mem_append_left _ hp | apply List.mem_cons_of_mem | apply List.mem_append_right))) ?_
 obtain ⟨g,hg⟩:∃ g,g=(Q6 C k).getD zHd:=⟨_,rfl⟩
 unfold qnG
 rw [← hg]
 refine za 3 rfl ?_
 refine qp (l:=hdC zHd) qR rfl rfl (fun b5=>?_)
 refine ql (l':=hdC g) rfl rfl qR rfl rfl (b:=b5) zM (by exact Nat.le_refl 2) rfl zU ?_
 refine za 6 rfl ?_
 refine qe (v:=zp tb) rfl YV rfl (qf.own (b:=mb) zM rfl) rfl ?_
 refine qD rfl rfl ?_
 refine qy (l:=[zu k]) ZN zJ (.cons rfl rfl rfl rfl rfl .nil) rfl rfl rfl rfl rfl rfl rfl (fun b21=>?_)
 refine qk (zc2 rfl rfl) Tryz.call239 rfl ((hB.del (k:=k) (kc:=1) (Holds.own (b:=b21) zM) (H:=(b21,.cells 30 (1*1) [zu k])::(b5,.cells 40 2 (hdC g))::(b4,.cells 40 2 (hdC zHd))::(mb,.cells 217 7 [zi (kind:Int),zi (entries:Int),zi (words:Int),zp ab,zp tb,zp bo,.bool closed])::(HA++(HO++H)))).hsub zH) ?_
 rintro v H' ⟨HT2,hB2,rfl,rfl⟩
 refine za 5 rfl ?_
 refine qe (v:=zp bo) rfl YU rfl (qf.own (b:=mb) zM rfl) rfl ?_
 refine qD rfl rfl ?_
 refine qk (zc2 rfl rfl) Tryz.call240 rfl ((hO.drop (k:=k) (H:=(b21,.cells 30 (1*1) [zu k])::(b5,.cells 40 2 (hdC g))::(b4,.cells 40 2 (hdC zHd))::(mb,.cells 217 7 [zi (kind:Int),zi (entries:Int),zi (words:Int),zp ab,zp tb,zp bo,.bool closed])::(HA++(HT2++H)))).hsub zH) ?_
 rintro v H' ⟨HO2,hO2,rfl,rfl⟩
 refine za 2 rfl ?_
 refine qJ (vs:=hdC g) rfl qR rfl (b:=b5) zM rfl rfl rfl ?_
 refine ql (l':=hdC g) rfl rfl qR rfl rfl (b:=b4) zM (by exact Nat.le_refl 2) rfl zU ?_
 refine qs ?_
 refine Jy (H2:=(mb,.cells 217 7 [zi (kind:Int),zi (entries:Int),zi (words:Int),zp ab,zp tb,zp bo,.bool closed])::(HA++(HT2++(HO2++H)))) Tryz.results148 rfl (.nil _) qR rfl (b:=b4) zM rfl zH ?_
 exact ⟨HT2,HO2,hB2,hO2,by rw [hg],rfl⟩
theorem qei (hB:Zb tb entries C HT) (hm:∀ p∈((mb,.cells 217 7 [zi (kind:Int),zi (entries:Int),zi (words:Int),zp ab,zp tb,zp bo,.bool closed])::(HA++(HT++HO))),p∈H) :qB Tryz.prog w0 H 142 [zp mb,zu k] (.tuple #[.agg (List.toArray (hdC ((Q6 C k).getD zHd))),zi (if (Q6 C k).isSome then 0 else 4)]):=by
 refine qc Tryz.func142 rfl Tryz.ntmps142 rfl rfl (ze ?_)
 refine qp (l:=hdC zHd) qR rfl rfl (fun b4=>?_)
 refine za 5 rfl ?_
 refine W_x (qr rfl rfl YP) (fun _ h=>by cases h) rfl ?_
 refine za 7 rfl ?_
 refine qe (v:=zp tb) rfl YV rfl (qf.own (b:=mb) (by repeat (first | exact hm _ List.mem_cons_self | apply List.mem_cons_of_mem)) rfl) rfl ?_
 refine qD rfl rfl ?_
 refine qn (zc2 rfl rfl) Tryz.call234 rfl (hB.get (k:=k) (fun p hp=>by repeat (first | exact hm p (List.mem_cons_of_mem _ (List.mem_append_right _ (List.mem_append_left _ hp))) | apply List.mem_cons_of_mem))) ?_
 unfold qnG
 rcases hf:Q6 C k with _ | g
 ·skip
  simp only [Option.getD_none,Option.isSome_none]
  refine za 3 rfl ?_
  refine qp (l:=hdC zHd) qR rfl rfl (fun b6=>?_)
  refine ql (l':=hdC zHd) rfl rfl qR rfl rfl (b:=b6) zM (by exact Nat.le_refl 2) rfl zU ?_
  refine za 9 rfl ?_
  refine qX (l:=hdC zHd) qR qjv .nil rfl rfl rfl ?_
  refine ql (l':=hdC zHd) rfl rfl qR rfl rfl (b:=b4) zM (by exact Nat.le_refl 2) rfl zU ?_
  refine za 2 rfl ?_
  refine zc (H2:=H) Tryz.results142 (.nil _) (.own (vs:=hdC zHd) rfl qR rfl (b:=b4) zM rfl) (.tmp rfl) zH ?_
  exact ⟨rfl,rfl⟩
 ·skip
  simp only [Option.getD_some,Option.isSome_some]
  refine za 3 rfl ?_
  refine qp (l:=hdC zHd) qR rfl rfl (fun b6=>?_)
  refine ql (l':=hdC g) rfl rfl qR rfl rfl (b:=b6) zM (by exact Nat.le_refl 2) rfl zU ?_
  refine za 10 rfl ?_
  refine qJ (vs:=hdC g) rfl qR rfl (b:=b6) zM rfl rfl rfl ?_
  refine ql (l':=hdC g) rfl rfl qR rfl rfl (b:=b4) zM (by exact Nat.le_refl 2) rfl zU ?_
  refine za 2 rfl ?_
  refine zc (H2:=H) Tryz.results142 (.nil _) (.own (vs:=hdC g) rfl qR rfl (b:=b4) zM rfl) (.tmp rfl) zH ?_
  exact ⟨rfl,rfl⟩
theorem qeO {a:Nat × Blk} {Y Z:qg}:∀ p∈a::(X++(Y++Z)),p∈a::(X++(Y++(Z++H))):=fun p hp=>by
 rcases List.mem_cons.1 hp with rfl | hp
 ·exact List.mem_cons_self
 ·refine List.mem_cons_of_mem _ ?_
  rcases List.mem_append.1 hp with hp | hp
  ·exact List.mem_append_left _ hp
  ·refine List.mem_append_right _ ?_
   rcases List.mem_append.1 hp with hp | hp
   ·exact List.mem_append_left _ hp
   ·exact List.mem_append_right _ (List.mem_append_left _ hp)
structure Xm where
 kind:Nat
 entries:Nat
 words:Nat
 closed:Bool
 L:List Slt
 C:List (Int × Hd)
 used:List Int
variable {x:Xm} {ms:List (Option (Xm × Bool))}
structure Xm.Ok (x:Xm):Prop where
 knd:x.kind≤2
 ent:1≤x.entries∧x.entries≤8
 wrd:1≤x.words∧x.words≤4
 len:x.L.length=2*x.entries
 are:Zk x.L
 nd:(Zm x.C).Nodup
 perm:x.used.Perm (Zm x.C)
 le:x.C.length≤x.entries
 lk:∀ p∈x.C,∃ (i:Nat) (s:Slt),p.2.slot=(i:Int)∧x.L[i]?=some s∧s.st=1∧s.own=p.2∧s.cel.key=p.1
 rng:∀ k∈Zm x.C,0≤k∧k<18446744073709551616
def Xm.use (x:Xm) (k:Int):Xm:={ x with used:=zQ x.used k++[k] }
def Xm.link (x:Xm) (c:Cel):Xm × Hd:=match ZW x.L with
 | some i=>match x.L[i]? with
  | some s=>({ x with L:=x.L.set i { s with st:=1,cel:=c },C:=(c.key,s.own)::x.C,used:=zQ x.used c.key++[c.key] },s.own)
  | none=>(x,zHd)
 | none=>(x,zHd)
def Xm.unlink (x:Xm) (k:Int):Xm × Hd:=({ x with C:=Zu x.C k,used:=zQ x.used k },(Q6 x.C k).getD zHd)
def Xm.find (x:Xm) (k:Int):Xm × Hd × Int:=match Q6 x.C k with
 | some g=>(x.use k,g,0)
 | none=>(x,zHd,4)
def Xm.refE (x:Xm) (how:Int):Int:=if x.kind=0 then 2 else if how=2 then 4 else if x.kind=1∧x.C.length=x.entries then 3 else if K3 0 x.L=0 then 20 else 0
structure Putt where
 h:Hd
 gone:Hd
 out:Bool
deriving DecidableEq
def Qg (p:Putt):List Value:=[zi p.h.slot,zi p.h.gen,zi p.gone.slot,zi p.gone.gen,.bool p.out]
def QG:Putt:=⟨zHd,zHd,false⟩
def Xm.put (x:Xm) (how k:Int) (ws:List Int):Xm × Putt × Int :=
 if (how<0∨2<how)∨x.words<ws.length then (x,QG,1)
 else if x.closed=true then (x,QG,22)
 else match Q6 x.C k with
  | some g=>if how=1 then (x,QG,5) else ({ x.use k with L:=QH x.L g (fun s=>{ s with cel:=⟨k,W4.of ws⟩ }) },⟨g,zHd,false⟩,Qc x.L g)
  | none=>if x.refE how≠0 then (x,QG,x.refE how)
   else if x.C.length=x.entries then
    (((x.unlink (x.used.headD 0)).1.link ⟨k,W4.of ws⟩).1,⟨((x.unlink (x.used.headD 0)).1.link ⟨k,W4.of ws⟩).2,(x.unlink (x.used.headD 0)).2,true⟩,0)
   else ((x.link ⟨k,W4.of ws⟩).1,⟨(x.link ⟨k,W4.of ws⟩).2,zHd,false⟩,0)
def Xm.del (x:Xm) (k:Int):Xm × Hd × Int:=if x.kind=0 then (x,zHd,17) else match Q6 x.C k with
 | some _=>((x.unlink k).1,(x.unlink k).2,0)
 | none=>(x,zHd,4)
def Xm.linked (x:Xm) (h:Hd):Bool:=decide (Qc x.L h=0) && decide (Q6 x.C (ZX x.L h).key=some h)
def Xm.free (x:Xm) (h:Hd):Xm × Int:=if Qc x.L h≠0 then (x,Qc x.L h) else if x.linked h=true then (x,21) else ({ x with L:=QH x.L h Y7 },0)
def Xm.load (x:Xm) (h:Hd) (at_:Int):Int × Int:=if Qc x.L h≠0 then (0,Qc x.L h) else if at_<0∨(x.words:Int)≤at_ then (0,1) else ((ZX x.L h).w.get at_.toNat,0)
def Xm.store (x:Xm) (h:Hd) (at_ v:Int):Xm × Int:=if Qc x.L h≠0 then (x,Qc x.L h) else if at_<0∨(x.words:Int)≤at_ then (x,1) else ({ x with L:=QH x.L h (fun s=>{ s with cel:=⟨s.cel.key,s.cel.w.put at_.toNat v⟩ }) },0)
def Xm.key (x:Xm) (h:Hd):Int × Int:=((ZX x.L h).key,Qc x.L h)
theorem qat (h:Q6 C k=some g):k∈Zm C:=List.mem_map.2 ⟨(k,g),qe2 h,rfl⟩
theorem Xm.Ok.ulen (h:x.Ok):x.used.length=x.C.length:=by have:=h.perm.length_eq; simpa using this
theorem Xm.Ok.und (h:x.Ok):x.used.Nodup:=h.perm.nodup_iff.2 h.nd
theorem Xm.Ok.umem (h:x.Ok) :k∈x.used↔k∈Zm x.C:=h.perm.mem_iff
theorem Xm.Ok.own (h:x.Ok) (hf:Q6 x.C k=some g):∃ (i:Nat) (s:Slt),g.slot=(i:Int)∧x.L[i]?=some s∧s.st=1∧s.own=g∧s.cel.key=k:=h.lk (k,g) (qe2 hf)
theorem Xm.Ok.err0 (h:x.Ok) (hf:Q6 x.C k=some g):Qc x.L g=0:=by
 obtain ⟨i,s,h1,h2,h3,h4,_⟩:=h.own hf
 exact qnS h1 h2 h3 h4
theorem Xm.Ok.use (h:x.Ok) (hk:k∈x.used):(x.use k).Ok :=
 ⟨h.knd,h.ent,h.wrd,h.len,h.are,h.nd,((J2 h.und hk).symm.trans h.perm),h.le,h.lk,h.rng⟩
theorem Xm.Ok.unlink (h:x.Ok) (k:Int):(x.unlink k).1.Ok:=by
 refine ⟨h.knd,h.ent,h.wrd,h.len,h.are,qcN h.nd k,?_,Nat.le_trans (List.length_filter_le _ _) h.le,fun p hp=>h.lk p (List.mem_filter.1 hp).1,fun k2 hk2=>?_⟩
 ·show (zQ x.used k).Perm (Zm (Zu x.C k))
  rw [qcr]
  exact h.perm.filter _
 ·obtain ⟨p,hp,rfl⟩:=List.mem_map.1 hk2
  exact h.rng p.1 (List.mem_map.2 ⟨p,(List.mem_filter.1 hp).1,rfl⟩)
theorem qjI {t:Slt} (hl:∀ p∈C,∃ (i:Nat) (s:Slt),p.2.slot=(i:Int)∧L[i]?=some s∧s.st=1∧s.own=p.2∧s.cel.key=p.1) (ht:∀ s,L[i]?=some s→s.st=1→t.st=1∧t.own=s.own∧t.cel.key=s.cel.key) :
  ∀ p∈C,∃ (j:Nat) (s:Slt),p.2.slot=(j:Int)∧(L.set i t)[j]?=some s∧s.st=1∧s.own=p.2∧s.cel.key=p.1:=fun p hp=>by
 obtain ⟨j,s,h1,h2,h3,h4,h5⟩:=hl p hp
 by_cases e:i=j
 ·subst e
  obtain ⟨a1,a2,a3⟩:=ht s h2 h3
  exact ⟨i,t,h1,List.getElem?_set_self (List.getElem?_eq_some_iff.1 h2).1,a1,a2.trans h4,a3.trans h5⟩
 ·exact ⟨j,s,h1,by rw [List.getElem?_set_ne e]; exact h2,h3,h4,h5⟩
theorem Xm.link_is {c:Cel} (hf:ZW x.L=some i) (hs:x.L[i]?=some s):x.link c=({ x with L:=x.L.set i { s with st:=1,cel:=c },C:=(c.key,s.own)::x.C,used:=zQ x.used c.key++[c.key] },s.own):=by
 unfold Xm.link; rw [hf]; dsimp only; rw [hs]
theorem Xm.Ok.link (h:x.Ok) {c:Cel} (hf:ZW x.L=some i) (hs:x.L[i]?=some s) (hk:c.key ∉ Zm x.C) (hr:x.C.length<x.entries) (hc:0≤c.key∧c.key<18446744073709551616):(x.link c).1.Ok:=by
 rw [Xm.link_is hf hs]
 obtain ⟨s',hs',h0,-⟩:=YZ hf
 obtain rfl:s=s':=Option.some.inj (hs.symm.trans hs')
 have hi:=(List.getElem?_eq_some_iff.1 hs).1
 refine ⟨h.knd,h.ent,h.wrd,by show (x.L.set i _).length=_; rw [List.length_set]; exact h.len,h.are.set (h.are.own i s hs),List.nodup_cons.2 ⟨hk,h.nd⟩,?_,by show x.C.length+1≤x.entries; omega,fun p hp=>?_,fun k hk2=>?_⟩
 ·show (zQ x.used c.key++[c.key]).Perm (c.key::Zm x.C)
  rw [YI (fun hm=>hk (h.umem.1 hm))]
  exact (List.perm_append_singleton _ _).trans (h.perm.cons _)
 ·rcases List.mem_cons.1 hp with rfl | hp
  ·exact ⟨i,_,(h.are.own i s hs).1,List.getElem?_set_self hi,rfl,rfl,rfl⟩
  ·exact qjI h.lk (fun t ht h1=>by
    obtain rfl:s=t:=Option.some.inj (hs.symm.trans ht)
    omega) p hp
 ·rcases List.mem_cons.1 hk2 with rfl | hk2
  ·exact hc
  ·exact h.rng k hk2
theorem Xm.Ok.cel (h:x.Ok) (g:Hd) (f:Cel→Cel) (hf:∀ c,Qc x.L g=0→c=ZX x.L g→(f c).key=c.key):(Xm.mk x.kind x.entries x.words x.closed (QH x.L g (fun s=>{ s with cel:=f s.cel })) x.C x.used).Ok:=by
 by_cases he:Qc x.L g=0
 ·obtain ⟨i,s,h1,h2,h3,h4,h5,h6⟩:=Y0 he
  rw [h6]
  refine ⟨h.knd,h.ent,h.wrd,by show (x.L.set i _).length=_; rw [List.length_set]; exact h.len,h.are.set (h.are.own i s h2),h.nd,h.perm,h.le,qjI h.lk (fun t ht hu=>?_),h.rng⟩
  obtain rfl:s=t:=Option.some.inj (h2.symm.trans ht)
  exact ⟨h3,rfl,hf _ he h5.symm⟩
 ·rw [(XH he).2]; exact h
theorem Xm.Ok.free (h:x.Ok) (g:Hd):(x.free g).1.Ok:=by
 unfold Xm.free
 by_cases he:Qc x.L g≠0
 ·rw [if_pos he]; exact h
 ·rw [if_neg he]
  by_cases hl:x.linked g=true
  ·rw [if_pos hl]; exact h
  ·rw [if_neg hl]
   have he:Qc x.L g=0:=Classical.not_not.1 he
   obtain ⟨i,s,h1,h2,h3,h4,h5,h6⟩:=Y0 he
   show (Xm.mk x.kind x.entries x.words x.closed (QH x.L g Y7) x.C x.used).Ok
   rw [h6]
   refine ⟨h.knd,h.ent,h.wrd,by show (x.L.set i _).length=_; rw [List.length_set]; exact h.len,h.are.rel h2,h.nd,h.perm,h.le,fun p hp=>?_,h.rng⟩
   obtain ⟨j,t,b1,b2,b3,b4,b5⟩:=h.lk p hp
   by_cases e:i=j
   ·exfalso
    subst e
    obtain rfl:s=t:=Option.some.inj (h2.symm.trans b2)
    apply hl
    unfold Xm.linked
    rw [decide_eq_true he,Bool.true_and,h5,b5]
    have:(p.1,g)∈x.C:=by
     have e:p.2=g:=b4.symm.trans h4
     rw [← e]; exact hp
    exact decide_eq_true (qgT h.nd this)
   ·exact ⟨j,t,b1,by show (x.L.set i _)[j]?=_; rw [List.getElem?_set_ne e]; exact b2,b3,b4,b5⟩
theorem qox (hB:Zb tb entries C HT) (hO:Jp bo entries T used HO) (hTl:T≤1000000) (hum:k∈Zm C→k∈used) :qh Tryz.prog w0 64 #[zp mb,.int .u64 k] ((mb,.cells 217 7 [.int .i64 (kind:Int),.int .i64 (entries:Int),.int .i64 (words:Int),zp ab,zp tb,zp bo,.bool closed])::(HA++(HT++(HO++H)))) (fun v H'=>∃ HO',Jp bo entries (T+1) (match Q6 C k with | some _=>zQ used k++[k] | none=>used) HO'∧v=.tuple #[.agg (List.toArray (hdC ((Q6 C k).getD zHd))),.int .i64 (if (Q6 C k).isSome then 0 else 4)]∧H'=(mb,.cells 217 7 [.int .i64 (kind:Int),.int .i64 (entries:Int),.int .i64 (words:Int),zp ab,zp tb,zp bo,.bool closed])::(HA++(HT++(HO'++H)))):=by
 refine qc (l:=[zp mb,zu k]) Tryz.func64 rfl Tryz.ntmps64 rfl rfl ?_
 refine ze ?_
 refine qp (l:=hdC zHd) qR rfl rfl (fun b4=>?_)
 refine za 5 rfl ?_
 refine qn (zc2 rfl rfl) Tryz.call142 rfl (qei hB (k:=k) (HA:=HA) (HO:=HO) (closed:=closed) (kind:=kind) (words:=words) (fun p hp=>by repeat (first | exact qeO p hp | apply List.mem_cons_of_mem))) ?_
 rcases hf:Q6 C k with _ | g
 ·skip
  simp only [Option.getD_none,Option.isSome_none,Bool.false_eq_true,if_false]
  refine za 3 rfl ?_
  refine qp (l:=hdC zHd) qR rfl rfl (fun b6=>?_)
  refine ql (l':=hdC zHd) rfl rfl qR rfl rfl (b:=b6) zM (by exact Nat.le_refl 2) rfl zU ?_
  refine za 10 rfl ?_
  refine qJ (vs:=hdC zHd) rfl qR rfl (b:=b6) zM rfl rfl rfl ?_
  refine qD rfl rfl ?_
  refine ql (l':=hdC zHd) rfl rfl qR rfl rfl (b:=b4) zM (by exact Nat.le_refl 2) rfl zU ?_
  refine za 2 rfl ?_
  refine zc (H2:=(mb,.cells 217 7 [zi (kind:Int),zi (entries:Int),zi (words:Int),zp ab,zp tb,zp bo,.bool closed])::(HA++(HT++(HO++H)))) Tryz.results64 (.nil _) (.own (vs:=hdC zHd) rfl qR rfl (b:=b4) zM rfl) (.tmp rfl) zH ?_
  exact ⟨HO,hO.up (Nat.le_succ _),rfl,rfl⟩
 ·skip
  simp only [Option.getD_some,Option.isSome_some,if_true]
  refine za 3 rfl ?_
  refine qp (l:=hdC zHd) qR rfl rfl (fun b6=>?_)
  refine ql (l':=hdC g) rfl rfl qR rfl rfl (b:=b6) zM (by exact Nat.le_refl 2) rfl zU ?_
  refine za 12 rfl ?_
  refine qe (v:=zp bo) rfl YU rfl (qf.own (b:=mb) zM rfl) rfl ?_
  refine qD rfl rfl ?_
  refine qy (l:=[zu k]) ZN zJ (.cons rfl rfl rfl rfl rfl .nil) rfl rfl rfl rfl rfl rfl rfl (fun b21=>?_)
  refine qk (zc2 rfl rfl) Tryz.call143 rfl ((hO.touch hTl (k:=k) (cap:=1) (.inl (hum (qat hf))) (Holds.own (b:=b21) zM) (H:=(b21,.cells 30 (1*1) [zu k])::(b6,.cells 40 2 (hdC g))::(b4,.cells 40 2 (hdC zHd))::(mb,.cells 217 7 [zi (kind:Int),zi (entries:Int),zi (words:Int),zp ab,zp tb,zp bo,.bool closed])::(HA++(HT++H)))).hsub zH) ?_
  rintro v H' ⟨HO2,hO2,rfl,rfl⟩
  refine za 2 rfl ?_
  refine qJ (vs:=hdC g) rfl qR rfl (b:=b6) zM rfl rfl rfl ?_
  refine qD rfl rfl ?_
  refine ql (l':=hdC g) rfl rfl qR rfl rfl (b:=b4) zM (by exact Nat.le_refl 2) rfl zU ?_
  refine za 2 rfl ?_
  refine zc (H2:=(mb,.cells 217 7 [zi (kind:Int),zi (entries:Int),zi (words:Int),zp ab,zp tb,zp bo,.bool closed])::(HA++(HT++(HO2++H)))) Tryz.results64 (.nil _) (.own (vs:=hdC g) rfl qR rfl (b:=b4) zM rfl) (.tmp rfl) zH ?_
  exact ⟨HO2,hO2,rfl,rfl⟩
theorem qj2 (hB:Zb tb entries C HT) (hm:∀ p∈((mb,.cells 217 7 [zi (kind:Int),zi (entries:Int),zi (words:Int),zp ab,zp tb,zp bo,.bool closed])::(HA++(HT++HO))),p∈H) :qB Tryz.prog w0 H 146 [zp mb] (.bool (decide (C.length=entries))):=by
 refine qc Tryz.func146 rfl Tryz.ntmps146 rfl rfl (za 4 rfl ?_)
 refine W_anyC H zk ?_
 refine zw [0,1,2] rfl rfl ?_
 refine WC_take 3 rfl zK zK zK rfl rfl (qj (v:=zp tb) rfl YV rfl (qf.own (b:=mb) (by repeat (first | exact hm _ List.mem_cons_self | apply List.mem_cons_of_mem)) rfl)) rfl ?_
 refine zw [5,6,7] rfl rfl ?_
 refine WC_take 8 rfl zK zK zK rfl rfl (qj (v:=zi (entries:Int)) rfl ty3 rfl (qf.own (b:=mb) (by repeat (first | exact hm _ List.mem_cons_self | apply List.mem_cons_of_mem)) rfl)) rfl ?_
 refine WC_one 4 zH zK rfl rfl ?_
 refine qn (zc1 rfl) Tryz.call126 rfl (hB.lenq (fun p hp=>by repeat (first | exact hm p (List.mem_cons_of_mem _ (List.mem_append_right _ (List.mem_append_left _ hp))) | apply List.mem_cons_of_mem))) ?_
 refine qs (WC_goal (zw [9] rfl rfl ?_))
 rw [show decide ((C.length:Int)=(entries:Int))=decide (C.length=entries) from decide_eq_decide.2 (by omega)]
 refine zw [10] rfl rfl (WC_done zH zK ?_)
 refine qd (H2:=H) Tryz.results146 rfl (.nil _) zH ?_
 exact ⟨rfl,rfl⟩
theorem qjg (hA:Zq ab L HA) (hB:Zb tb entries C HT) (hm:∀ p∈((mb,.cells 217 7 [zi (kind:Int),zi (entries:Int),zi (words:Int),zp ab,zp tb,zp bo,.bool closed])::(HA++(HT++HO))),p∈H) :qB Tryz.prog w0 H 145 [zp mb,zi how] (zi (Xm.refE (⟨kind,entries,words,closed,L,C,used⟩:Xm) how)):=by
 refine qc Tryz.func145 rfl Tryz.ntmps145 rfl rfl (za 9 rfl ?_)
 refine qe (v:=zi (kind:Int)) rfl ty3 rfl (qf.own (b:=mb) (by repeat (first | exact hm _ List.mem_cons_self | apply List.mem_cons_of_mem)) rfl) rfl ?_
 refine za 3 rfl ?_
 refine qm (p:=kind=0) rfl (by simp) (fun c0=>?_) (fun c0=>?_)
 ·skip
  refine za 3 rfl ?_
  refine qd (H2:=H) Tryz.results145 rfl (.nil _) zH ?_
  exact ⟨by unfold Xm.refE; dsimp only; rw [if_pos c0],rfl⟩
 ·skip
  refine za 5 rfl ?_
  refine qm (p:=how=2) rfl (by simp) (fun c1=>?_) (fun c1=>?_)
  ·skip
   refine za 3 rfl ?_
   refine qd (H2:=H) Tryz.results145 rfl (.nil _) zH ?_
   exact ⟨by unfold Xm.refE; dsimp only; rw [if_neg c0,if_pos c1],rfl⟩
  ·skip
   refine za 4 rfl ?_
   refine qe (v:=zi (kind:Int)) rfl ty3 rfl (qf.own (b:=mb) (by repeat (first | exact hm _ List.mem_cons_self | apply List.mem_cons_of_mem)) rfl) rfl ?_
   refine za 2 rfl ?_
   apply qdx
   iterate 4 exact rfl
   case h1 =>
    intro hg5
    refine za 3 rfl ?_
    refine qn (zc1 rfl) Tryz.call146 rfl (qj2 hB (HA:=HA) (HO:=HO) (closed:=closed) (kind:=kind) (words:=words) hm) ?_
    exact Q3 rfl zR
   refine za 2 rfl ?_
   refine qm (p:=kind=1∧C.length=entries) rfl (by simp; omega) (fun c2=>?_) (fun c2=>?_)
   ·skip
    refine za 3 rfl ?_
    refine qd (H2:=H) Tryz.results145 rfl (.nil _) zH ?_
    exact ⟨by unfold Xm.refE; dsimp only; rw [if_neg c0,if_neg c1,if_pos c2],rfl⟩
   ·skip
    refine za 4 rfl ?_
    refine qe (v:=zp ab) rfl JH rfl (qf.own (b:=mb) (by repeat (first | exact hm _ List.mem_cons_self | apply List.mem_cons_of_mem)) rfl) rfl ?_
    refine qn (zc1 rfl) Tryz.call237 rfl (hA.roomq (fun p hp=>by repeat (first | exact hm p (List.mem_cons_of_mem _ (List.mem_append_left _ hp)) | apply List.mem_cons_of_mem))) ?_
    refine za 3 rfl ?_
    refine qm (p:=K3 0 L=0) rfl (by simp) (fun c3=>?_) (fun c3=>?_)
    ·skip
     refine za 3 rfl ?_
     refine qd (H2:=H) Tryz.results145 rfl (.nil _) zH ?_
     exact ⟨by unfold Xm.refE; dsimp only; rw [if_neg c0,if_neg c1,if_neg c2,if_pos c3],rfl⟩
    ·skip
     refine za 5 rfl ?_
     refine qd (H2:=H) Tryz.results145 rfl (.nil _) zH ?_
     exact ⟨by unfold Xm.refE; dsimp only; rw [if_neg c0,if_neg c1,if_neg c2,if_neg c3],rfl⟩
theorem qqx (hB:Zb tb entries C HT) (hO:Jp bo entries T used HO) :qh Tryz.prog w0 68 #[zp mb,zu k] ((mb,.cells 217 7 [zi (kind:Int),zi (entries:Int),zi (words:Int),zp ab,zp tb,zp bo,.bool closed])::(HA++(HT++(HO++H)))) (fun v H'=>∃ HT' HO',Zb tb entries (Xm.del (⟨kind,entries,words,closed,L,C,used⟩:Xm) k).1.C HT'∧Jp bo entries T (Xm.del (⟨kind,entries,words,closed,L,C,used⟩:Xm) k).1.used HO'∧v=.tuple #[.agg (List.toArray (hdC (Xm.del (⟨kind,entries,words,closed,L,C,used⟩:Xm) k).2.1)),zi (Xm.del (⟨kind,entries,words,closed,L,C,used⟩:Xm) k).2.2]∧H'=(mb,.cells 217 7 [zi (kind:Int),zi (entries:Int),zi (words:Int),zp ab,zp tb,zp bo,.bool closed])::(HA++(HT'++(HO'++H)))):=by
 refine qc (l:=[zp mb,zu k]) Tryz.func68 rfl Tryz.ntmps68 rfl rfl ?_
 refine ze ?_
 refine qp (l:=hdC zHd) qR rfl rfl (fun b4=>?_)
 refine za 5 rfl ?_
 refine W_x (zz rfl rfl YP) (fun _ h=>by cases h) rfl ?_
 refine qD rfl rfl ?_
 apply qdx
 iterate 4 exact rfl
 case h1 =>
  intro hg2
  refine za 7 rfl ?_
  refine qe (v:=zi (kind:Int)) rfl ty3 rfl (qf.own (b:=mb) zM rfl) rfl ?_
  refine za 2 rfl ?_
  exact Q3 rfl zR
 refine qs ?_
 refine qm (p:=kind=0) rfl (by simp) (fun c0=>?_) (fun c0=>?_)
 ·skip
  refine ze ?_
  refine qX (l:=hdC zHd) qR qjv .nil rfl rfl rfl ?_
  refine ql (l':=hdC zHd) rfl rfl qR rfl rfl (b:=b4) zM (by exact Nat.le_refl 2) rfl zU ?_
  refine za 2 rfl ?_
  refine zc (H2:=(mb,.cells 217 7 [zi (kind:Int),zi (entries:Int),zi (words:Int),zp ab,zp tb,zp bo,.bool closed])::(HA++(HT++(HO++H)))) Tryz.results68 (.nil _) (.own (vs:=hdC zHd) rfl qR rfl (b:=b4) zM rfl) (.tmp rfl) zH ?_
  have e:Xm.del (⟨kind,entries,words,closed,L,C,used⟩:Xm) k=((⟨kind,entries,words,closed,L,C,used⟩:Xm),zHd,17):=by unfold Xm.del; rw [if_pos c0]
  rw [e]
  exact ⟨HT,HO,hB,hO,rfl,rfl⟩
 ·skip
  refine za 5 rfl ?_
  refine qn (zc2 rfl rfl) Tryz.call142 rfl (qei hB (k:=k) (HA:=HA) (HO:=HO) (closed:=closed) (kind:=kind) (words:=words) (fun p hp=>by repeat (first | exact qeO p hp | apply List.mem_cons_of_mem))) ?_
  rcases hf:Q6 C k with _ | g
  ·skip
   simp only [Option.getD_none,Option.isSome_none,Bool.false_eq_true,if_false]
   refine za 3 rfl ?_
   refine qp (l:=hdC zHd) qR rfl rfl (fun b6=>?_)
   refine ql (l':=hdC zHd) rfl rfl qR rfl rfl (b:=b6) zM (by exact Nat.le_refl 2) rfl zU ?_
   refine za 8 rfl ?_
   refine qX (l:=hdC zHd) qR qjv .nil rfl rfl rfl ?_
   refine qD rfl rfl ?_
   refine ql (l':=hdC zHd) rfl rfl qR rfl rfl (b:=b4) zM (by exact Nat.le_refl 2) rfl zU ?_
   refine za 2 rfl ?_
   refine zc (H2:=(mb,.cells 217 7 [zi (kind:Int),zi (entries:Int),zi (words:Int),zp ab,zp tb,zp bo,.bool closed])::(HA++(HT++(HO++H)))) Tryz.results68 (.nil _) (.own (vs:=hdC zHd) rfl qR rfl (b:=b4) zM rfl) (.tmp rfl) zH ?_
   have e:Xm.del (⟨kind,entries,words,closed,L,C,used⟩:Xm) k=((⟨kind,entries,words,closed,L,C,used⟩:Xm),zHd,4):=by unfold Xm.del; rw [if_neg c0]; dsimp only; rw [hf]
   rw [e]
   exact ⟨HT,HO,hB,hO,rfl,rfl⟩
  ·skip
   simp only [Option.getD_some,Option.isSome_some,if_true]
   refine za 3 rfl ?_
   refine qp (l:=hdC zHd) qR rfl rfl (fun b6=>?_)
   refine ql (l':=hdC g) rfl rfl qR rfl rfl (b:=b6) zM (by exact Nat.le_refl 2) rfl zU ?_
   refine za 11 rfl ?_
   refine qk (zc2 rfl rfl) Tryz.call148 rfl ((qc6 (closed:=closed) (kind:=kind) (words:=words) (HA:=HA) hB hO (k:=k) (H:=(b6,.cells 40 2 (hdC g))::(b4,.cells 40 2 (hdC zHd))::H)).hsub zH) ?_
   rintro v H' ⟨HT2,HO2,hB2,hO2,rfl,rfl⟩
   rw [hf,Option.getD_some]
   refine ql (l':=hdC g) rfl rfl qR rfl rfl (b:=b4) zM (by exact Nat.le_refl 2) rfl zU ?_
   refine za 2 rfl ?_
   refine zc (H2:=(mb,.cells 217 7 [zi (kind:Int),zi (entries:Int),zi (words:Int),zp ab,zp tb,zp bo,.bool closed])::(HA++(HT2++(HO2++H)))) Tryz.results68 (.nil _) (.own (vs:=hdC g) rfl qR rfl (b:=b4) zM rfl) (.tmp rfl) zH ?_
   have e:Xm.del (⟨kind,entries,words,closed,L,C,used⟩:Xm) k=((Xm.unlink (⟨kind,entries,words,closed,L,C,used⟩:Xm) k).1,g,0):=by unfold Xm.del; rw [if_neg c0]; dsimp only; rw [hf]; show (_,(Q6 C k).getD zHd,_)=_; rw [hf]; rfl
   rw [e]
   exact ⟨HT2,HO2,hB2,hO2,rfl,rfl⟩
theorem Xm.free_slot (h:x.refE how=0):∃ i s,ZW x.L=some i∧x.L[i]?=some s:=by
 have hc:K3 0 x.L≠0:=fun e=>by
  unfold Xm.refE at h
  rw [if_pos e] at h
  repeat' split at h
  all_goals cases h
 obtain ⟨t,ht,h0⟩:=qlI.1 hc
 cases hf:ZW x.L with
 | none=>exact absurd h0 (qbv.1 hf t ht)
 | some i =>
  obtain ⟨s,hs,-,-⟩:=YZ hf
  exact ⟨i,s,rfl,hs⟩
theorem qor (hA:Zq ab L HA) (hB:Zb tb entries C HT) (hO:Jp bo entries T used HO) (hTl:T≤1000000) (hx:(⟨kind,entries,words,closed,L,C,used⟩:Xm).Ok) {ws:List Int} (hrow:Holds w0 H ad (ws.map (Value.int .u64))) (hTab:Tab w0):qh Tryz.prog w0 61 #[zp mb,zi how,zu k,.slice ad ws.length cap] ((mb,.cells 217 7 [zi (kind:Int),zi (entries:Int),zi (words:Int),zp ab,zp tb,zp bo,.bool closed])::(HA++(HT++(HO++H)))) (fun v H'=>∃ HA' HT' HO',Zq ab (Xm.put (⟨kind,entries,words,closed,L,C,used⟩:Xm) how k ws).1.L HA'∧Zb tb entries (Xm.put (⟨kind,entries,words,closed,L,C,used⟩:Xm) how k ws).1.C HT'∧Jp bo entries (T+2) (Xm.put (⟨kind,entries,words,closed,L,C,used⟩:Xm) how k ws).1.used HO'∧v=.tuple #[.agg (List.toArray (Qg (Xm.put (⟨kind,entries,words,closed,L,C,used⟩:Xm) how k ws).2.1)),zi (Xm.put (⟨kind,entries,words,closed,L,C,used⟩:Xm) how k ws).2.2]∧H'=(mb,.cells 217 7 [zi (kind:Int),zi (entries:Int),zi (words:Int),zp ab,zp tb,zp bo,.bool closed])::(HA'++(HT'++(HO'++H)))):=by
 refine qc (l:=[zp mb,zi how,zu k,.slice ad ws.length cap]) Tryz.func61 rfl Tryz.ntmps61 rfl rfl ?_
 refine ze ?_
 refine qp (l:=Qg QG) Zs rfl rfl (fun b8=>?_)
 refine za 6 rfl ?_
 refine W_x (qr rfl rfl YP) (fun _ h=>by cases h) rfl ?_
 refine za 7 rfl ?_
 apply YR
 iterate 4 exact rfl
 case h1 =>
  intro hg2
  refine za 4 rfl ?_
  exact Q3 rfl zR
 refine qD rfl rfl ?_
 apply YR
 iterate 4 exact rfl
 case h1 =>
  intro hg6
  refine za 3 rfl (zZ rfl ZN rfl rfl (za 7 rfl ?_))
  refine qe (v:=zi (words:Int)) rfl ty3 rfl (qf.own (b:=mb) zM rfl) rfl ?_
  refine za 2 rfl ?_
  exact Q3 rfl zR
 refine za 2 rfl ?_
 refine qm (p:=(how<0∨2<how)∨(words:Int)<(ws.length:Int)) rfl (by simp) (fun c0=>?_) (fun c0=>?_)
 ·skip
  refine ze ?_
  refine qX (l:=Qg QG) Zs qeG .nil rfl rfl rfl ?_
  refine ql (l':=Qg QG) rfl rfl Zs rfl rfl (b:=b8) zM (by exact Nat.le_refl 5) rfl zU ?_
  refine za 2 rfl ?_
  refine zc (H2:=(mb,.cells 217 7 [zi (kind:Int),zi (entries:Int),zi (words:Int),zp ab,zp tb,zp bo,.bool closed])::(HA++(HT++(HO++H)))) Tryz.results61 (.nil _) (.own (vs:=Qg QG) rfl Zs rfl (b:=b8) zM rfl) (.tmp rfl) zH ?_
  have e:(Xm.put (⟨kind,entries,words,closed,L,C,used⟩:Xm) how k ws)=((⟨kind,entries,words,closed,L,C,used⟩:Xm),QG,1):=by
   unfold Xm.put
   rw [if_pos (by dsimp only; omega)]
  rw [e]
  exact ⟨HA,HT,HO,hA,hB,hO.up zO,rfl,rfl⟩
 ·skip
  refine za 4 rfl ?_
  refine qe (v:=.bool closed) rfl ty4 rfl (qf.own (b:=mb) zM rfl) rfl ?_
  refine za 2 rfl ?_
  refine qm (p:=closed=true) rfl (by simp) (fun c1=>?_) (fun c1=>?_)
  ·skip
   refine ze ?_
   refine qX (l:=Qg QG) Zs qeG .nil rfl rfl rfl ?_
   refine ql (l':=Qg QG) rfl rfl Zs rfl rfl (b:=b8) zM (by exact Nat.le_refl 5) rfl zU ?_
   refine za 2 rfl ?_
   refine zc (H2:=(mb,.cells 217 7 [zi (kind:Int),zi (entries:Int),zi (words:Int),zp ab,zp tb,zp bo,.bool closed])::(HA++(HT++(HO++H)))) Tryz.results61 (.nil _) (.own (vs:=Qg QG) rfl Zs rfl (b:=b8) zM rfl) (.tmp rfl) zH ?_
   have e:(Xm.put (⟨kind,entries,words,closed,L,C,used⟩:Xm) how k ws)=((⟨kind,entries,words,closed,L,C,used⟩:Xm),QG,22):=by
    unfold Xm.put
    rw [if_neg (by dsimp only; omega)]
    rw [if_pos c1]
   rw [e]
   exact ⟨HA,HT,HO,hA,hB,hO.up zO,rfl,rfl⟩
  ·skip
   refine za 4 rfl ?_
   refine qX (l:=z7 ⟨k,zW⟩) Qz qoP (.cons rfl rfl rfl rfl rfl .nil) rfl rfl rfl ?_
   refine qp (l:=z7 ZG) Qz rfl rfl (fun b10=>?_)
   refine ql (l':=z7 (⟨k,zW⟩)) rfl rfl Qz rfl rfl (b:=b10) zM (by exact Nat.le_refl 5) rfl zU ?_
   refine za 2 rfl ?_
   have hw4:ws.length≤4:=by have:=hx.wrd; dsimp only at this; omega
   refine za 1 rfl ?_
   refine W_x (qcT (l:=0) (hh:=4) rfl qoE zJ rfl rfl zd zd zd) (fun _ h=>by cases h) rfl ?_
   refine qD rfl rfl ?_
   refine qp6 (kk:=ws.length) (news:=ws.map (Value.int .u64)) (l':=z7 ⟨k,W4.of ws⟩) rfl rfl ZN zJ (by omega) (by rw [List.length_map,Nat.mul_one]) (hrow.up zH) (by simp [Value.oneCell']) (b:=b10) zM (by rw [List.length_map]; show 0+1+0*1+ws.length≤5; omega) (W4.copy hw4 (zu k)) zU rfl ?_
   refine za 5 rfl ?_
   refine qn (zc2 rfl rfl) Tryz.call142 rfl (qei hB (k:=k) (HA:=HA) (HO:=HO) (closed:=closed) (kind:=kind) (words:=words) (fun p hp=>by repeat (first | exact qeO p hp | apply List.mem_cons_of_mem))) ?_
   rcases hf:Q6 C k with _ | g
   ·skip
    simp only [Option.getD_none,Option.isSome_none,Bool.false_eq_true,if_false]
    refine za 3 rfl ?_
    refine qp (l:=hdC zHd) qR rfl rfl (fun b11=>?_)
    refine ql (l':=hdC zHd) rfl rfl qR rfl rfl (b:=b11) zM (by exact Nat.le_refl 2) rfl zU ?_
    refine za 12 rfl ?_
    refine qn (zc2 rfl rfl) Tryz.call145 rfl (qjg hA hB (how:=how) (HO:=HO) (used:=used) (closed:=closed) (words:=words) (fun p hp=>by repeat (first | exact qeO p hp | apply List.mem_cons_of_mem))) ?_
    refine za 6 rfl ?_
    refine qm (p:=¬ (Xm.refE (⟨kind,entries,words,closed,L,C,used⟩:Xm) how)=0) rfl (by simp) (fun c2=>?_) (fun c2=>?_)
    ·skip
     refine ze ?_
     refine qX (l:=Qg QG) Zs qeG .nil rfl rfl rfl ?_
     refine qD rfl rfl ?_
     refine ql (l':=Qg QG) rfl rfl Zs rfl rfl (b:=b8) zM (by exact Nat.le_refl 5) rfl zU ?_
     refine za 2 rfl ?_
     refine zc (H2:=(mb,.cells 217 7 [zi (kind:Int),zi (entries:Int),zi (words:Int),zp ab,zp tb,zp bo,.bool closed])::(HA++(HT++(HO++H)))) Tryz.results61 (.nil _) (.own (vs:=Qg QG) rfl Zs rfl (b:=b8) zM rfl) (.tmp rfl) zH ?_
     have e:(Xm.put (⟨kind,entries,words,closed,L,C,used⟩:Xm) how k ws)=((⟨kind,entries,words,closed,L,C,used⟩:Xm),QG,Xm.refE (⟨kind,entries,words,closed,L,C,used⟩:Xm) how):=by
      unfold Xm.put
      rw [if_neg (by dsimp only; omega)]
      rw [if_neg c1]
      dsimp only
      rw [hf]
      dsimp only
      rw [if_pos c2]
     rw [e]
     exact ⟨HA,HT,HO,hA,hB,hO.up zO,rfl,rfl⟩
    ·skip
     refine za 2 rfl ?_
     refine qp (l:=Qg QG) Zs rfl rfl (fun b14=>?_)
     refine za 4 rfl ?_
     refine qn (zc1 rfl) Tryz.call146 rfl (qj2 hB (HA:=HA) (HO:=HO) (closed:=closed) (kind:=kind) (words:=words) (fun p hp=>by repeat (first | exact qeO p hp | apply List.mem_cons_of_mem))) ?_
     refine qs ?_
     refine qm (p:=C.length=entries) rfl (by simp) (fun c3=>?_) (fun c3=>?_)
     ·skip
      refine za 4 rfl ?_
      refine qe (v:=zp bo) rfl YU rfl (qf.own (b:=mb) zM rfl) rfl ?_
      obtain ⟨o,ho⟩:∃ o,used[0]?=some o:=⟨_,List.getElem?_eq_getElem (by have:=hx.ulen; have:=hx.ent; dsimp only at *; omega)⟩
      have hom:o∈Zm C:=hx.umem.1 (List.mem_of_getElem? ho)
      refine qk (zc1 rfl) Tryz.call147 rfl ((hO.oldest (by have:=hx.ent; dsimp only at *; omega) (H:=(b14,.cells 139 5 (Qg QG))::(b11,.cells 40 2 (hdC zHd))::(b10,.cells 220 5 (z7 ⟨k,W4.of ws⟩))::(b8,.cells 139 5 (Qg QG))::(mb,.cells 217 7 [zi (kind:Int),zi (entries:Int),zi (words:Int),zp ab,zp tb,zp bo,.bool closed])::(HA++(HT++H)))).hsub zH) ?_
      rintro v H' ⟨rfl,rfl⟩
      rw [show qh0 used=zu o from by unfold qh0; rw [ho]]
      refine za 9 rfl ?_
      refine qk (zc2 rfl rfl) Tryz.call148 rfl ((qc6 (closed:=closed) (kind:=kind) (words:=words) (HA:=HA) hB hO (k:=o) (H:=(b14,.cells 139 5 (Qg QG))::(b11,.cells 40 2 (hdC zHd))::(b10,.cells 220 5 (z7 ⟨k,W4.of ws⟩))::(b8,.cells 139 5 (Qg QG))::H)).hsub zH) ?_
      rintro v H' ⟨HT2,HO2,hB2,hO2,rfl,rfl⟩
      obtain ⟨g0,hg0⟩:∃ g0,g0=(Q6 C o).getD zHd:=⟨_,rfl⟩
      rw [← hg0]
      refine za 1 rfl ?_
      refine ql (l':=Qg ⟨zHd,g0,false⟩) rfl rfl qR rfl rfl (b:=b14) zM (by show 2+2≤5; decide) rfl zU ?_
      refine za 1 rfl ?_
      refine qv (l':=Qg ⟨zHd,g0,true⟩) rfl rfl ty4 rfl rfl (b:=b14) zM rfl rfl zU ?_
      refine za 3 rfl ?_
      refine qJ (vs:=z7 ⟨k,W4.of ws⟩) rfl Qz rfl (b:=b10) zM rfl rfl rfl ?_
      obtain ⟨i,s,hfi,hs⟩:=Xm.free_slot (x:=(⟨kind,entries,words,closed,L,C,used⟩:Xm)) (how:=how) (Classical.not_not.1 c2)
      dsimp only at hfi hs
      have hkn:=KK.1 hf
      have hdl:=qaD hB.nd.1 hom
      have hul:=hx.ulen
      have hule:(zQ used o).length+1=used.length:=by have:=(J2 hx.und (List.mem_of_getElem? ho)).length_eq; rw [List.length_append] at this; exact this.symm
      dsimp only at hul
      refine qk (zc2 rfl rfl) Tryz.call149 rfl ((qdS (closed:=closed) (kind:=kind) (words:=words) hA hB2 hO2 (by omega) (by have:=hx.ent; dsimp only at this; omega) (c:=⟨k,W4.of ws⟩) hfi hs (by rw [qcr]; exact fun hm=>hkn (List.mem_filter.1 hm).1) (by omega) (by omega) hTab (H:=(b14,.cells 139 5 (Qg ⟨zHd,g0,true⟩))::(b11,.cells 40 2 (hdC zHd))::(b10,.cells 220 5 (z7 ⟨k,W4.of ws⟩))::(b8,.cells 139 5 (Qg QG))::H)).hsub zH) ?_
      rintro v H' ⟨HA3,HT3,HO3,hA3,hB3,hO3,rfl,rfl⟩
      refine za 3 rfl ?_
      refine qp (l:=hdC zHd) qR rfl rfl (fun b17=>?_)
      refine ql (l':=hdC s.own) rfl rfl qR rfl rfl (b:=b17) zM (by exact Nat.le_refl 2) rfl zU ?_
      refine za 3 rfl ?_
      refine qJ (vs:=hdC s.own) rfl qR rfl (b:=b17) zM rfl rfl rfl ?_
      refine za 1 rfl ?_
      refine ql (l':=Qg ⟨s.own,g0,true⟩) rfl rfl qR rfl rfl (b:=b14) zM (by show 0+2≤5; decide) rfl zU ?_
      refine za 2 rfl ?_
      refine qJ (vs:=Qg ⟨s.own,g0,true⟩) rfl Zs rfl (b:=b14) zM rfl rfl rfl ?_
      refine qD rfl rfl ?_
      refine ql (l':=Qg ⟨s.own,g0,true⟩) rfl rfl Zs rfl rfl (b:=b8) zM (by exact Nat.le_refl 5) rfl zU ?_
      refine za 2 rfl ?_
      refine zc (H2:=(mb,.cells 217 7 [zi (kind:Int),zi (entries:Int),zi (words:Int),zp ab,zp tb,zp bo,.bool closed])::(HA3++(HT3++(HO3++H)))) Tryz.results61 (.nil _) (.own (vs:=Qg ⟨s.own,g0,true⟩) rfl Zs rfl (b:=b8) zM rfl) (.tmp rfl) zH ?_
      have hh:used.headD 0=o:=by cases used with
       | nil=>cases ho
       | cons a t=>exact Option.some.inj ho
      have e:(Xm.put (⟨kind,entries,words,closed,L,C,used⟩:Xm) how k ws)=(((Xm.unlink (⟨kind,entries,words,closed,L,C,used⟩:Xm) o).1.link ⟨k,W4.of ws⟩).1,⟨((Xm.unlink (⟨kind,entries,words,closed,L,C,used⟩:Xm) o).1.link ⟨k,W4.of ws⟩).2,(Xm.unlink (⟨kind,entries,words,closed,L,C,used⟩:Xm) o).2,true⟩,0):=by
       unfold Xm.put
       rw [if_neg (by dsimp only; omega)]
       rw [if_neg c1]
       dsimp only
       rw [hf]
       dsimp only
       rw [if_neg c2,if_pos c3,hh]
      rw [e,Xm.link_is (x:=(Xm.unlink (⟨kind,entries,words,closed,L,C,used⟩:Xm) o).1) hfi hs]
      exact ⟨HA3,HT3,HO3,hA3,hB3,hO3.up (by omega),by rw [hg0]; rfl,rfl⟩
     ·skip
      refine za 3 rfl ?_
      refine qJ (vs:=z7 ⟨k,W4.of ws⟩) rfl Qz rfl (b:=b10) zM rfl rfl rfl ?_
      obtain ⟨i,s,hfi,hs⟩:=Xm.free_slot (x:=(⟨kind,entries,words,closed,L,C,used⟩:Xm)) (how:=how) (Classical.not_not.1 c2)
      dsimp only at hfi hs
      have hkn:=KK.1 hf
      have hul:=hx.ulen
      have hle:=hx.le
      dsimp only at hul hle
      refine qk (zc2 rfl rfl) Tryz.call149 rfl ((qdS (closed:=closed) (kind:=kind) (words:=words) hA hB hO zO (by have:=hx.ent; dsimp only at this; omega) (c:=⟨k,W4.of ws⟩) hfi hs hkn zO zO hTab (H:=(b14,.cells 139 5 (Qg QG))::(b11,.cells 40 2 (hdC zHd))::(b10,.cells 220 5 (z7 ⟨k,W4.of ws⟩))::(b8,.cells 139 5 (Qg QG))::H)).hsub zH) ?_
      rintro v H' ⟨HA3,HT3,HO3,hA3,hB3,hO3,rfl,rfl⟩
      refine za 3 rfl ?_
      refine qp (l:=hdC zHd) qR rfl rfl (fun b17=>?_)
      refine ql (l':=hdC s.own) rfl rfl qR rfl rfl (b:=b17) zM (by exact Nat.le_refl 2) rfl zU ?_
      refine za 3 rfl ?_
      refine qJ (vs:=hdC s.own) rfl qR rfl (b:=b17) zM rfl rfl rfl ?_
      refine za 1 rfl ?_
      refine ql (l':=Qg ⟨s.own,zHd,false⟩) rfl rfl qR rfl rfl (b:=b14) zM (by show 0+2≤5; decide) rfl zU ?_
      refine za 2 rfl ?_
      refine qJ (vs:=Qg ⟨s.own,zHd,false⟩) rfl Zs rfl (b:=b14) zM rfl rfl rfl ?_
      refine qD rfl rfl ?_
      refine ql (l':=Qg ⟨s.own,zHd,false⟩) rfl rfl Zs rfl rfl (b:=b8) zM (by exact Nat.le_refl 5) rfl zU ?_
      refine za 2 rfl ?_
      refine zc (H2:=(mb,.cells 217 7 [zi (kind:Int),zi (entries:Int),zi (words:Int),zp ab,zp tb,zp bo,.bool closed])::(HA3++(HT3++(HO3++H)))) Tryz.results61 (.nil _) (.own (vs:=Qg ⟨s.own,zHd,false⟩) rfl Zs rfl (b:=b8) zM rfl) (.tmp rfl) zH ?_
      have e:(Xm.put (⟨kind,entries,words,closed,L,C,used⟩:Xm) how k ws)=((Xm.link (⟨kind,entries,words,closed,L,C,used⟩:Xm) ⟨k,W4.of ws⟩).1,⟨(Xm.link (⟨kind,entries,words,closed,L,C,used⟩:Xm) ⟨k,W4.of ws⟩).2,zHd,false⟩,0):=by
       unfold Xm.put
       rw [if_neg (by dsimp only; omega)]
       rw [if_neg c1]
       dsimp only
       rw [hf]
       dsimp only
       rw [if_neg c2,if_neg c3]
      rw [e,Xm.link_is (x:=(⟨kind,entries,words,closed,L,C,used⟩:Xm)) hfi hs]
      exact ⟨HA3,HT3,HO3,hA3,hB3,hO3.up zO,rfl,rfl⟩
   ·skip
    simp only [Option.getD_some,Option.isSome_some,if_true]
    refine za 3 rfl ?_
    refine qp (l:=hdC zHd) qR rfl rfl (fun b11=>?_)
    refine ql (l':=hdC g) rfl rfl qR rfl rfl (b:=b11) zM (by exact Nat.le_refl 2) rfl zU ?_
    refine za 12 rfl ?_
    refine qm (p:=how=1) rfl (by simp) (fun c2=>?_) (fun c2=>?_)
    ·skip
     refine ze ?_
     refine qX (l:=Qg QG) Zs qeG .nil rfl rfl rfl ?_
     refine ql (l':=Qg QG) rfl rfl Zs rfl rfl (b:=b8) zM (by exact Nat.le_refl 5) rfl zU ?_
     refine za 2 rfl ?_
     refine zc (H2:=(mb,.cells 217 7 [zi (kind:Int),zi (entries:Int),zi (words:Int),zp ab,zp tb,zp bo,.bool closed])::(HA++(HT++(HO++H)))) Tryz.results61 (.nil _) (.own (vs:=Qg QG) rfl Zs rfl (b:=b8) zM rfl) (.tmp rfl) zH ?_
     have e:(Xm.put (⟨kind,entries,words,closed,L,C,used⟩:Xm) how k ws)=((⟨kind,entries,words,closed,L,C,used⟩:Xm),QG,5):=by
      unfold Xm.put
      rw [if_neg (by dsimp only; omega)]
      rw [if_neg c1]
      dsimp only
      rw [hf]
      dsimp only
      rw [if_pos c2]
     rw [e]
     exact ⟨HA,HT,HO,hA,hB,hO.up zO,rfl,rfl⟩
    ·skip
     refine za 5 rfl ?_
     refine qe (v:=zp bo) rfl YU rfl (qf.own (b:=mb) zM rfl) rfl ?_
     refine qD rfl rfl ?_
     refine qy (l:=[zu k]) ZN zJ (.cons rfl rfl rfl rfl rfl .nil) rfl rfl rfl rfl rfl rfl rfl (fun b68=>?_)
     refine qk (zc2 rfl rfl) Tryz.call143 rfl ((hO.touch hTl (k:=k) (cap:=1) (.inl (hx.umem.2 (qat hf))) (Holds.own (b:=b68) zM) (H:=(b68,.cells 30 (1*1) [zu k])::(b11,.cells 40 2 (hdC g))::(b10,.cells 220 5 (z7 ⟨k,W4.of ws⟩))::(b8,.cells 139 5 (Qg QG))::(mb,.cells 217 7 [zi (kind:Int),zi (entries:Int),zi (words:Int),zp ab,zp tb,zp bo,.bool closed])::(HA++(HT++H)))).hsub zH) ?_
     rintro v H' ⟨HO2,hO2,rfl,rfl⟩
     refine za 2 rfl ?_
     refine W_anyC [(mb,.cells 217 7 [zi (kind:Int),zi (entries:Int),zi (words:Int),zp ab,zp tb,zp bo,.bool closed]),(b11,.cells 40 2 (hdC g)),(b10,.cells 220 5 (z7 ⟨k,W4.of ws⟩))] zk ?_
     refine WC_take 0 rfl zK zK zK rfl rfl (Qm (vs:=hdC g) rfl qR rfl (b:=b11) zM rfl rfl) rfl ?_
     refine WC_take 1 rfl zK zK zK rfl rfl (qaK (l:=Qg ⟨g,zHd,false⟩) Zs qeG (.cons rfl rfl rfl rfl rfl .nil) rfl rfl) rfl ?_
     refine zw [2,3,4] rfl rfl ?_
     refine WC_take 5 rfl zK zK zK rfl rfl (qj (v:=zp ab) rfl JH rfl (qf.own (b:=mb) zM rfl)) rfl ?_
     refine WC_take 6 rfl zK zK zK rfl rfl (Qm (vs:=hdC g) rfl qR rfl (b:=b11) zM rfl rfl) rfl ?_
     refine WC_take 7 rfl zK zK zK rfl rfl (Qm (vs:=z7 (⟨k,W4.of ws⟩)) rfl Qz rfl (b:=b10) zM rfl rfl) rfl ?_
     refine WC_one 8 zH zK rfl rfl ?_
     refine qk (zc3 rfl rfl rfl) Tryz.call144 rfl ((hA.set (h:=g) (c:=⟨k,W4.of ws⟩) (H:=(b11,.cells 40 2 (hdC g))::(b10,.cells 220 5 (z7 ⟨k,W4.of ws⟩))::(b8,.cells 139 5 (Qg QG))::(mb,.cells 217 7 [zi (kind:Int),zi (entries:Int),zi (words:Int),zp ab,zp tb,zp bo,.bool closed])::(HT++(HO2++H)))).hsub zH) ?_
     rintro v H' ⟨HA2,hA2,rfl,rfl⟩
     refine qs (WC_goal ?_)
     refine WC_one 9 zH zK rfl rfl ?_
     refine ql (l':=Qg ⟨g,zHd,false⟩) rfl rfl Zs rfl rfl (b:=b8) zM (by exact Nat.le_refl 5) rfl zU ?_
     refine qs (WC_goal (zw [10] rfl rfl (WC_done zH zK ?_)))
     refine zc (H2:=(mb,.cells 217 7 [zi (kind:Int),zi (entries:Int),zi (words:Int),zp ab,zp tb,zp bo,.bool closed])::(HA2++(HT++(HO2++H)))) Tryz.results61 (.nil _) (.own (vs:=Qg ⟨g,zHd,false⟩) rfl Zs rfl (b:=b8) zM rfl) (.tmp rfl) zH ?_
     have e:(Xm.put (⟨kind,entries,words,closed,L,C,used⟩:Xm) how k ws)=({ Xm.use (⟨kind,entries,words,closed,L,C,used⟩:Xm) k with L:=QH L g (fun s=>{ s with cel:=⟨k,W4.of ws⟩ }) },⟨g,zHd,false⟩,Qc L g):=by
      unfold Xm.put
      rw [if_neg (by dsimp only; omega)]
      rw [if_neg c1]
      dsimp only
      rw [hf]
      dsimp only
      rw [if_neg c2]
     rw [e]
     exact ⟨HA2,HT,HO2,hA2,hB,hO2.up (Nat.le_succ _),rfl,rfl⟩
theorem qdC (hA:Zq ab L HA) (hB:Zb tb entries C HT) (he:Qc L h≠0) (hm:∀ p∈((mb,.cells 217 7 [zi (kind:Int),zi (entries:Int),zi (words:Int),zp ab,zp tb,zp bo,.bool closed])::(HA++(HT++HO))),p∈H) :qB Tryz.prog w0 H 152 [zp mb,.agg (List.toArray (hdC h)),Value.func (.func fi) #[] ca.toArray] (zi (Qc L h)):=by
 refine qc Tryz.func152 rfl Tryz.ntmps152 rfl rfl (ze ?_)
 refine qK rfl rfl rfl (fun b4=>?_)
 refine za 5 rfl ?_
 refine W_x (qr rfl rfl YP) (fun _ h=>by cases h) rfl ?_
 refine za 4 rfl ?_
 refine Kx (X:=Nat) (fun x=>[(0,zp mb),(2,Value.func (.func fi) #[] ca.toArray),(7,zp x),(8,zi (Qc L h))]) (fun x=>(x,.cells 220 5 (z7 (ZX L h)))::(b4,.cells 40 2 (hdC h))::H) (fun _=>True) ?_ ?_
 ·skip
  refine W_anyC ((b4,.cells 40 2 (hdC h))::H) zk ?_
  refine zw [0,1,2] rfl rfl ?_
  refine WC_take 3 rfl zK zK zK rfl rfl (qj (v:=zp ab) rfl JH rfl (qf.own (b:=mb) (by repeat (first | exact hm _ List.mem_cons_self | apply List.mem_cons_of_mem)) rfl)) rfl ?_
  refine WC_take 4 rfl zK zK zK rfl rfl (Qm (vs:=hdC h) rfl qR rfl (b:=b4) zM rfl rfl) rfl ?_
  refine K6 5 9 zH zK rfl rfl rfl rfl ?_ ?_
  ·skip
   refine qn (zc2 rfl rfl) Tryz.call245 rfl (hA.get (h:=h) (fun p hp=>by repeat (first | exact hm p (List.mem_cons_of_mem _ (List.mem_append_left _ hp)) | apply List.mem_cons_of_mem))) ?_
   refine qs (WC_goal (zw [6,7,8] rfl rfl ?_))
   refine WC_one 9 zH zK rfl rfl ?_
   refine qp (l:=z7 ZG) Qz rfl rfl (fun b7=>?_)
   refine qs (WC_goal ?_)
   refine WC_one 10 zH zK rfl rfl ?_
   refine ql (l':=z7 (ZX L h)) rfl rfl Qz rfl rfl (b:=b7) zM (by exact Nat.le_refl 5) rfl zU ?_
   refine qs (WC_goal (zw [11] rfl rfl (WC_done zH zK ?_)))
   refine QV b7 trivial (qa rfl (qa rfl (qa rfl (qa rfl (qi _))))) zH
  ·skip
   refine qp (l:=z7 ZG) Qz rfl rfl (fun b7=>?_)
   refine qs (WC_goal ?_)
   refine WC_one 5 zH zK rfl rfl ?_
   refine qn (zc2 rfl rfl) Tryz.call245 rfl (hA.get (h:=h) (fun p hp=>by repeat (first | exact hm p (List.mem_cons_of_mem _ (List.mem_append_left _ hp)) | apply List.mem_cons_of_mem))) ?_
   refine qs (WC_goal (zw [6,7,8] rfl rfl ?_))
   refine WC_one 10 zH zK rfl rfl ?_
   refine ql (l':=z7 (ZX L h)) rfl rfl Qz rfl rfl (b:=b7) zM (by exact Nat.le_refl 5) rfl zU ?_
   refine qs (WC_goal (zw [11] rfl rfl (WC_done zH zK ?_)))
   refine QV b7 trivial (qa rfl (qa rfl (qa rfl (qa rfl (qi _))))) zH
 rintro b7 -
 refine za 5 rfl (KP rfl (decide_eq_true he) (za 4 rfl ?_))
 refine qd (H2:=H) Tryz.results152 rfl (.nil _) zH ?_
 exact ⟨rfl,rfl⟩
theorem qbT (hA:Zq ab L HA) (hB:Zb tb entries C HT) {R:Value→qg→Prop} (hfi:∀ (args:Array Value) (w:World),(callFunc fi args).run Tryz.prog w=.ok (.enter fi args) w) (he:Qc L h=0) (hm:∀ p∈((mb,.cells 217 7 [zi (kind:Int),zi (entries:Int),zi (words:Int),zp ab,zp tb,zp bo,.bool closed])::(HA++(HT++HO))),p∈H) (hdo:qh Tryz.prog w0 fi (#[]++#[.agg (List.toArray (z7 (ZX L h)))]++ca.toArray) (H) R) :qh Tryz.prog w0 152 #[zp mb,.agg (List.toArray (hdC h)),Value.func (.func fi) #[] ca.toArray] (H) (R):=by
 refine qc (l:=[zp mb,.agg (List.toArray (hdC h)),Value.func (.func fi) #[] ca.toArray]) Tryz.func152 rfl Tryz.ntmps152 rfl rfl ?_
 refine ze ?_
 refine qK rfl rfl rfl (fun b4=>?_)
 refine za 5 rfl ?_
 refine W_x (qr rfl rfl YP) (fun _ h=>by cases h) rfl ?_
 refine za 4 rfl ?_
 refine Kx (X:=Nat) (fun x=>[(0,zp mb),(2,Value.func (.func fi) #[] ca.toArray),(7,zp x),(8,zi (Qc L h))]) (fun x=>(x,.cells 220 5 (z7 (ZX L h)))::(b4,.cells 40 2 (hdC h))::H) (fun _=>True) ?_ ?_
 ·skip
  refine W_anyC ((b4,.cells 40 2 (hdC h))::H) zk ?_
  refine zw [0,1,2] rfl rfl ?_
  refine WC_take 3 rfl zK zK zK rfl rfl (qj (v:=zp ab) rfl JH rfl (qf.own (b:=mb) (by repeat (first | exact hm _ List.mem_cons_self | apply List.mem_cons_of_mem)) rfl)) rfl ?_
  refine WC_take 4 rfl zK zK zK rfl rfl (Qm (vs:=hdC h) rfl qR rfl (b:=b4) zM rfl rfl) rfl ?_
  refine K6 5 9 zH zK rfl rfl rfl rfl ?_ ?_
  ·skip
   refine qn (zc2 rfl rfl) Tryz.call245 rfl (hA.get (h:=h) (fun p hp=>by repeat (first | exact hm p (List.mem_cons_of_mem _ (List.mem_append_left _ hp)) | apply List.mem_cons_of_mem))) ?_
   refine qs (WC_goal (zw [6,7,8] rfl rfl ?_))
   refine WC_one 9 zH zK rfl rfl ?_
   refine qp (l:=z7 ZG) Qz rfl rfl (fun b7=>?_)
   refine qs (WC_goal ?_)
   refine WC_one 10 zH zK rfl rfl ?_
   refine ql (l':=z7 (ZX L h)) rfl rfl Qz rfl rfl (b:=b7) zM (by exact Nat.le_refl 5) rfl zU ?_
   refine qs (WC_goal (zw [11] rfl rfl (WC_done zH zK ?_)))
   refine QV b7 trivial (qa rfl (qa rfl (qa rfl (qa rfl (qi _))))) zH
  ·skip
   refine qp (l:=z7 ZG) Qz rfl rfl (fun b7=>?_)
   refine qs (WC_goal ?_)
   refine WC_one 5 zH zK rfl rfl ?_
   refine qn (zc2 rfl rfl) Tryz.call245 rfl (hA.get (h:=h) (fun p hp=>by repeat (first | exact hm p (List.mem_cons_of_mem _ (List.mem_append_left _ hp)) | apply List.mem_cons_of_mem))) ?_
   refine qs (WC_goal (zw [6,7,8] rfl rfl ?_))
   refine WC_one 10 zH zK rfl rfl ?_
   refine ql (l':=z7 (ZX L h)) rfl rfl Qz rfl rfl (b:=b7) zM (by exact Nat.le_refl 5) rfl zU ?_
   refine qs (WC_goal (zw [11] rfl rfl (WC_done zH zK ?_)))
   refine QV b7 trivial (qa rfl (qa rfl (qa rfl (qa rfl (qi _))))) zH
 rintro b7 -
 refine za 5 rfl ?_
 refine QA rfl (decide_eq_false (fun h=>h he)) ?_
 refine za 3 rfl ?_
 refine qJ (vs:=z7 (ZX L h)) rfl Qz rfl (b:=b7) zM rfl rfl rfl ?_
 refine Yx (fa:=#[]) (ca:=ca.toArray) rfl (.cons rfl .nil) hfi rfl (hdo.hsub zH) ?_
 rintro v H' hR
 refine za 2 rfl ?_
 refine qd (H2:=H') Tryz.results152 rfl (.nil _) zH ?_
 exact hR
theorem qpH {c:Cel} {b6:Nat} {z:Int} :qh Tryz.prog w0 153 #[.agg (List.toArray (z7 c)),zp b6] ((b6,.cells 30 1 [zu z])::H) (fun v H'=>v=zi 0∧H'=(b6,.cells 30 1 [zu c.key])::H):=by
 refine qc (l:=[.agg (List.toArray (z7 c)),zp b6]) Tryz.func153 rfl Tryz.ntmps153 rfl rfl ?_
 refine ze ?_
 refine qK (l:=z7 c) rfl rfl rfl (fun b2=>?_)
 refine za 4 rfl ?_
 refine qe (v:=zu c.key) rfl zJ rfl (qf.own (b:=b2) zM rfl) rfl ?_
 refine qv (l':=[zu c.key]) rfl rfl zJ rfl rfl (b:=b6) zM rfl rfl zU ?_
 refine za 4 rfl ?_
 refine qd (H2:=(b6,.cells 30 1 [zu c.key])::H) Tryz.results153 rfl (.nil _) zH ?_
 exact ⟨rfl,rfl⟩
theorem Key_q (hA:Zq ab L HA) (hB:Zb tb entries C HT) (hm:∀ p∈((mb,.cells 217 7 [zi (kind:Int),zi (entries:Int),zi (words:Int),zp ab,zp tb,zp bo,.bool closed])::(HA++(HT++HO))),p∈H) :qB Tryz.prog w0 H 66 [zp mb,.agg (List.toArray (hdC h))] (.tuple #[zu (ZX L h).key,zi (Qc L h)]):=by
 refine qc Tryz.func66 rfl Tryz.ntmps66 rfl rfl ?_
 by_cases he:Qc L h=0
 ·skip
  refine ze ?_
  refine qK (l:=hdC h) rfl rfl rfl (fun b3=>?_)
  refine za 4 rfl ?_
  refine qp (l:=[zu 0]) zJ rfl rfl (fun b6=>?_)
  refine za 3 rfl ?_
  refine qJ (vs:=hdC h) rfl qR rfl (b:=b3) zM rfl rfl rfl ?_
  refine qI .nil (.cons rfl .nil) rfl ?_
  refine qk (zc3 rfl rfl rfl) Tryz.call152 rfl (qbT (ca:=[zp b6]) hA hB Tryz.call153 he (HO:=HO) (closed:=closed) (kind:=kind) (words:=words) (fun p hp=>by repeat (first | exact hm p hp | apply List.mem_cons_of_mem)) (qpH (c:=ZX L h) (z:=0))) ?_
  rintro v H' ⟨rfl,rfl⟩
  refine za 3 rfl ?_
  refine qe (v:=zu (ZX L h).key) rfl zJ rfl (qf.own (b:=b6) zM rfl) rfl ?_
  refine za 4 rfl ?_
  refine qL (H2:=H) Tryz.results66 rfl rfl (.nil _) zH ?_
  exact ⟨by rw [he],rfl⟩
 ·skip
  refine ze ?_
  refine qK (l:=hdC h) rfl rfl rfl (fun b3=>?_)
  refine za 4 rfl ?_
  refine qp (l:=[zu 0]) zJ rfl rfl (fun b6=>?_)
  refine za 3 rfl ?_
  refine qJ (vs:=hdC h) rfl qR rfl (b:=b3) zM rfl rfl rfl ?_
  refine qI .nil (.cons rfl .nil) rfl ?_
  refine qn (zc3 rfl rfl rfl) Tryz.call152 rfl (qdC (ca:=[zp b6]) hA hB he (HO:=HO) (closed:=closed) (kind:=kind) (words:=words) (fun p hp=>by repeat (first | exact hm p hp | apply List.mem_cons_of_mem))) ?_
  refine za 3 rfl ?_
  refine qe (v:=zu 0) rfl zJ rfl (qf.own (b:=b6) zM rfl) rfl ?_
  refine za 4 rfl ?_
  refine qL (H2:=H) Tryz.results66 rfl rfl (.nil _) zH ?_
  exact ⟨by rw [(XH he).1]; rfl,rfl⟩
theorem qhR {b2 b3 b5:Nat} (hB:Zb tb entries C HT) {c:Cel} (hm:∀ p∈((mb,.cells 217 7 [zi (kind:Int),zi (entries:Int),zi (words:Int),zp ab,zp tb,zp bo,.bool closed])::(HA++(HT++HO))),p∈H) :qh Tryz.prog w0 343 #[.agg (List.toArray (z7 c)),zp b2,zp b3,zp b5] ((b5,.cells 4 1 [.bool false])::(b3,.cells 40 2 (hdC h))::(b2,.cells 65 1 [zp mb])::H) (fun v H'=>(∃ e,v=zi e)∧H'=(b5,.cells 4 1 [.bool (decide (Q6 C c.key=some h))])::(b3,.cells 40 2 (hdC h))::(b2,.cells 65 1 [zp mb])::H):=by
 refine qc (l:=[.agg (List.toArray (z7 c)),zp b2,zp b3,zp b5]) Tryz.func343 rfl Tryz.ntmps343 rfl rfl ?_
 refine ze ?_
 refine qK (l:=z7 c) rfl rfl rfl (fun b4=>?_)
 refine za 3 rfl ?_
 refine qe (v:=zp mb) rfl YP rfl (qf.own (b:=b2) zM rfl) rfl ?_
 refine za 1 rfl ?_
 refine qe (v:=zu c.key) rfl zJ rfl (qf.own (b:=b4) zM rfl) rfl ?_
 refine qn (zc2 rfl rfl) Tryz.call142 rfl (qei hB (k:=c.key) (HA:=HA) (HO:=HO) (closed:=closed) (kind:=kind) (words:=words) (fun p hp=>by repeat (first | exact hm p hp | apply List.mem_cons_of_mem))) ?_
 rcases hf:Q6 C c.key with _ | g
 ·skip
  simp only [Option.getD_none,Option.isSome_none,Bool.false_eq_true,if_false]
  refine za 3 rfl ?_
  refine qp (l:=hdC zHd) qR rfl rfl (fun b6=>?_)
  refine ql (l':=hdC zHd) rfl rfl qR rfl rfl (b:=b6) zM (by exact Nat.le_refl 2) rfl zU ?_
  refine za 5 rfl ?_
  rw [decide_eq_false (show ¬ (4:Int)=0 by decide)]
  refine za 5 rfl ?_
  refine qv (l':=[.bool false]) rfl rfl ty4 rfl rfl (b:=b5) zM rfl rfl zU ?_
  refine za 5 rfl ?_
  refine qd (H2:=(b5,.cells 4 1 [.bool false])::(b3,.cells 40 2 (hdC h))::(b2,.cells 65 1 [zp mb])::H) Tryz.results343 rfl (.nil _) zH ?_
  exact ⟨⟨_,rfl⟩,by rw [decide_eq_false (show ¬ (none:Option Hd)=some h from nofun)]⟩
 ·skip
  simp only [Option.getD_some,Option.isSome_some,if_true]
  refine za 3 rfl ?_
  refine qp (l:=hdC zHd) qR rfl rfl (fun b6=>?_)
  refine ql (l':=hdC g) rfl rfl qR rfl rfl (b:=b6) zM (by exact Nat.le_refl 2) rfl zU ?_
  refine za 5 rfl ?_
  rw [decide_eq_true (show (0:Int)=0 from rfl)]
  refine za 2 rfl ?_
  refine qJ (vs:=hdC g) rfl qR rfl (b:=b6) zM rfl rfl rfl ?_
  refine QD rfl rfl ?_
  refine qJ (vs:=hdC h) rfl qR rfl (b:=b3) zM rfl rfl rfl ?_
  refine QD rfl rfl ?_
  refine W_x (qoW (f:=hdC) rfl rfl qd4 qg4 qau qbM qnD zd) (fun _ h=>by cases h) rfl ?_
  refine qp4 rfl rfl rfl ?_
  refine qv (l':=[.bool (decide (g=h))]) rfl rfl ty4 rfl rfl (b:=b5) zM rfl rfl zU ?_
  refine za 5 rfl ?_
  refine qd (H2:=(b5,.cells 4 1 [.bool (decide (g=h))])::(b3,.cells 40 2 (hdC h))::(b2,.cells 65 1 [zp mb])::H) Tryz.results343 rfl (.nil _) zH ?_
  exact ⟨⟨_,rfl⟩,by rw [show decide (some g=some h)=decide (g=h) from decide_eq_decide.2 (by simp)]⟩
theorem qmn (hA:Zq ab L HA) (hB:Zb tb entries C HT) (used:List Int) (hm:∀ p∈((mb,.cells 217 7 [zi (kind:Int),zi (entries:Int),zi (words:Int),zp ab,zp tb,zp bo,.bool closed])::(HA++(HT++HO))),p∈H) :qB Tryz.prog w0 H 254 [zp mb,.agg (List.toArray (hdC h))] (.bool (Xm.linked (⟨kind,entries,words,closed,L,C,used⟩:Xm) h)):=by
 refine qc Tryz.func254 rfl Tryz.ntmps254 rfl rfl ?_
 by_cases he:Qc L h=0
 ·skip
  refine ze ?_
  refine qK (l:=[zp mb]) rfl rfl rfl (fun b2=>?_)
  refine qK (l:=hdC h) rfl rfl rfl (fun b3=>?_)
  refine za 3 rfl ?_
  refine qp (l:=[.bool false]) ty4 rfl rfl (fun b5=>?_)
  refine qv (l':=[.bool false]) rfl rfl ty4 rfl rfl (b:=b5) zM rfl rfl zU ?_
  refine za 2 rfl ?_
  refine qe (v:=zp mb) rfl YP rfl (qf.own (b:=b2) zM rfl) rfl ?_
  refine qJ (vs:=hdC h) rfl qR rfl (b:=b3) zM rfl rfl rfl ?_
  refine qI .nil (.cons rfl (.cons rfl (.cons rfl .nil))) rfl ?_
  refine qk (zc3 rfl rfl rfl) Tryz.call152 rfl (qbT (ca:=[zp b2,zp b3,zp b5]) hA hB (HO:=HO) (closed:=closed) (kind:=kind) (words:=words) Tryz.call343 he (fun p hp=>by repeat (first | exact hm p hp | apply List.mem_cons_of_mem)) (qhR hB (c:=ZX L h) (h:=h) hm)) ?_
  rintro v H' ⟨⟨e1,rfl⟩,rfl⟩
  refine za 2 rfl ?_
  refine qe (v:=.bool (decide (Q6 C (ZX L h).key=some h))) rfl ty4 rfl (qf.own (b:=b5) zM rfl) rfl ?_
  refine za 2 rfl ?_
  refine qd (H2:=H) Tryz.results254 rfl (.nil _) zH ?_
  exact ⟨by unfold Xm.linked; rw [decide_eq_true he,Bool.true_and],rfl⟩
 ·skip
  refine ze ?_
  refine qK (l:=[zp mb]) rfl rfl rfl (fun b2=>?_)
  refine qK (l:=hdC h) rfl rfl rfl (fun b3=>?_)
  refine za 3 rfl ?_
  refine qp (l:=[.bool false]) ty4 rfl rfl (fun b5=>?_)
  refine qv (l':=[.bool false]) rfl rfl ty4 rfl rfl (b:=b5) zM rfl rfl zU ?_
  refine za 2 rfl ?_
  refine qe (v:=zp mb) rfl YP rfl (qf.own (b:=b2) zM rfl) rfl ?_
  refine qJ (vs:=hdC h) rfl qR rfl (b:=b3) zM rfl rfl rfl ?_
  refine qI .nil (.cons rfl (.cons rfl (.cons rfl .nil))) rfl ?_
  refine qn (zc3 rfl rfl rfl) Tryz.call152 rfl (qdC (ca:=[zp b2,zp b3,zp b5]) hA hB he (HO:=HO) (closed:=closed) (kind:=kind) (words:=words) (fun p hp=>by repeat (first | exact hm p hp | apply List.mem_cons_of_mem))) ?_
  refine za 2 rfl ?_
  refine qe (v:=.bool false) rfl ty4 rfl (qf.own (b:=b5) zM rfl) rfl ?_
  refine za 2 rfl ?_
  refine qd (H2:=H) Tryz.results254 rfl (.nil _) zH ?_
  exact ⟨by unfold Xm.linked; rw [decide_eq_false he,Bool.false_and],rfl⟩
def sortU (l:List Int):List Int:=l.mergeSort (fun a b=>decide (a≤b))
noncomputable def Xm.keys (x:Xm):List Int:=if x.kind=2 then x.used else if x.kind=0 then sortU (keysC x.C) else keysC x.C
theorem qov (hA:Zq ab L HA) (hB:Zb tb entries C HT) (hm:∀ p∈((mb,.cells 217 7 [zi (kind:Int),zi (entries:Int),zi (words:Int),zp ab,zp tb,zp bo,.bool closed])::(HA++(HT++HO))),p∈H) :qB Tryz.prog w0 H 43 [zp mb] (zi ((K3 1 L:Nat):Int)):=by
 refine qc Tryz.func43 rfl Tryz.ntmps43 rfl rfl (za 6 rfl ?_)
 refine W_x (qr rfl rfl YP) (fun _ h=>by cases h) rfl ?_
 refine za 7 rfl ?_
 refine qe (v:=zp ab) rfl JH rfl (qf.own (b:=mb) (by repeat (first | exact hm _ List.mem_cons_self | apply List.mem_cons_of_mem)) rfl) rfl ?_
 refine qn (zc1 rfl) Tryz.call125 rfl (hA.lenq (fun p hp=>by repeat (first | exact hm p (List.mem_cons_of_mem _ (List.mem_append_left _ hp)) | apply List.mem_cons_of_mem))) ?_
 refine za 2 rfl ?_
 refine qd (H2:=H) Tryz.results43 rfl (.nil _) zH ?_
 exact ⟨rfl,rfl⟩
def qn9 (i:Nat):Slt:=⟨⟨(i:Int),1⟩,1,⟨(i:Int),zW⟩⟩
def qbF (n k:Nat):List Slt:=(List.range n).map fun i=>if i<k then qn9 i else qeM i
def KS (k:Nat):List (Int × Hd):=((List.range k).map fun i:Nat=>(((i:Int),⟨(i:Int),1⟩):Int × Hd)).reverse
def K4 (k:Nat):List Int:=(List.range k).map fun i:Nat=>(i:Int)
theorem J3 (n k:Nat):(qbF n k).length=n:=by unfold qbF; rw [List.length_map,List.length_range]
theorem Yu {k:Nat} (h:i<n):(qbF n k)[i]?=some (if i<k then qn9 i else qeM i):=by
 unfold qbF; rw [List.getElem?_map,List.getElem?_range h]; rfl
theorem qil (n:Nat):qbF n 0=Xg n n:=by
 apply List.ext_getElem?
 intro i
 by_cases h:i<n
 ·rw [Yu h,Yn h,if_neg (by omega),if_pos h]
 ·rw [List.getElem?_eq_none (by rw [J3]; omega),List.getElem?_eq_none (by rw [Zt]; omega)]
theorem ql0 {k:Nat}:(qbF n k).set k (qn9 k)=qbF n (k+1):=by
 apply List.ext_getElem?
 intro j
 by_cases hj:j<n
 ·by_cases e:k=j
  ·subst e
   rw [List.getElem?_set_self (by rw [J3]; exact hj),Yu hj,if_pos (by omega)]
  ·rw [List.getElem?_set_ne e,Yu hj,Yu hj]
   by_cases c:j<k
   ·rw [if_pos c,if_pos (by omega)]
   ·rw [if_neg c,if_neg (by omega)]
 ·rw [List.getElem?_eq_none (by rw [List.length_set,J3]; omega),List.getElem?_eq_none (by rw [J3]; omega)]
theorem qgd {k:Nat} (h:k<n):ZW (qbF n k)=some k:=by
 unfold ZW
 rw [List.findIdx?_eq_some_iff_getElem]
 refine ⟨by rw [J3]; exact h,?_,fun j hj=>?_⟩
 ·have:=Yu (k:=k) h
  rw [if_neg (Nat.lt_irrefl _)] at this
  obtain ⟨h1,h2⟩:=List.getElem?_eq_some_iff.1 this
  rw [h2]; rfl
 ·have:=Yu (n:=n) (k:=k) (i:=j) zO
  rw [if_pos hj] at this
  obtain ⟨h1,h2⟩:=List.getElem?_eq_some_iff.1 this
  rw [h2]
  show ¬ decide ((1:Nat)=0)=true
  decide
theorem qim (k:Nat):KS (k+1)=((k:Int),⟨(k:Int),1⟩)::KS k:=by
 unfold KS; rw [List.range_succ,List.map_append,List.reverse_append]; rfl
theorem qff (k:Nat):(KS k).length=k:=by unfold KS; rw [List.length_reverse,List.length_map,List.length_range]
theorem qlZ (k:Nat):(K4 k).length=k:=by unfold K4; rw [List.length_map,List.length_range]
theorem qcQ {k:Nat} {x:Int}:x∈K4 k↔0≤x∧x<(k:Int):=by
 unfold K4
 rw [List.mem_map]
 constructor
 ·rintro ⟨i,hi,rfl⟩
  have:=List.mem_range.1 hi
  omega
 ·intro h
  exact ⟨x.toNat,List.mem_range.2 zO,by omega⟩
theorem qgc (k:Nat):(K4 k).Nodup:=by
 unfold K4
 exact List.Pairwise.map _ (fun a b (h:a≠b)=>by show (a:Int)≠(b:Int); omega) List.nodup_range
theorem qik (k:Nat):zQ (K4 k) (k:Int)++[(k:Int)]=K4 (k+1):=by
 rw [YI (fun h=>by have:=(qcQ.1 h).2; omega)]
 unfold K4; rw [List.range_succ,List.map_append]; rfl
theorem KM (k:Nat):Zm (KS k)=(K4 k).reverse:=by
 unfold KS K4
 show List.map _ (List.reverse _)=_
 rw [List.map_reverse,List.map_map]; rfl
theorem ql1 {k:Nat} {p:Int × Hd} (h:p∈KS k):∃ i:Nat,i<k∧p=((i:Int),⟨(i:Int),1⟩):=by
 unfold KS at h
 obtain ⟨i,hi,rfl⟩:=List.mem_map.1 (List.mem_reverse.1 h)
 exact ⟨i,List.mem_range.1 hi,rfl⟩
theorem qp0 {kk:Nat} (h1:kind≤2) (h2:1≤entries∧entries≤8) (h3:1≤words∧words≤4) (hk:kk≤entries):(Xm.mk kind entries words b (qbF (2*entries) kk) (KS kk) (K4 kk)).Ok where
 knd:=h1
 ent:=h2
 wrd:=h3
 len:=J3 _ _
 are:=⟨by rw [J3]; omega,fun i s hs=>by
  have hi:i<2*entries:=by have:=(List.getElem?_eq_some_iff.1 hs).1; rwa [J3] at this
  rw [Yu hi] at hs
  obtain rfl:=Option.some.inj hs
  split
  ·exact ⟨rfl,by show (1:Int)≤1; decide,by show (1:Int)≤255; decide⟩
  ·exact ⟨rfl,by show (1:Int)≤1; decide,by show (1:Int)≤255; decide⟩⟩
 nd:=by show (Zm (KS kk)).Nodup; rw [KM]; exact (List.reverse_perm _).nodup_iff.2 (qgc kk)
 perm:=by show (K4 kk).Perm (Zm (KS kk)); rw [KM]; exact (List.reverse_perm _).symm
 le:=by show (KS kk).length≤entries; rw [qff]; exact hk
 lk:=fun p hp=>by
  obtain ⟨i,hi,rfl⟩:=ql1 hp
  exact ⟨i,qn9 i,rfl,by show (qbF _ _)[i]?=_; rw [Yu (by omega),if_pos hi],rfl,rfl,rfl⟩
 rng:=fun k hk2=>by
  have hk3:k∈Zm (KS kk):=hk2
  rw [KM] at hk3
  have:=qcQ.1 (List.mem_reverse.1 hk3)
  omega
def Xm.new (kind entries words:Nat):Xm:=⟨kind,entries,words,false,qbF (2*entries) (if kind=0 then entries else 0),KS (if kind=0 then entries else 0),K4 (if kind=0 then entries else 0)⟩
theorem qqo (h1:kind≤2) (h2:1≤entries∧entries≤8) (h3:1≤words∧words≤4) (hTab:Tab w0):qh Tryz.prog w0 81 #[zi (kind:Int),zi (entries:Int),zi (words:Int)] (H) (fun v H'=>∃ mb ab tb bo HA HT HO,Zq ab (Xm.new kind entries words).L HA∧Zb tb entries (Xm.new kind entries words).C HT∧Jp bo entries 8 (Xm.new kind entries words).used HO∧v=.tuple #[zp mb,zi 0]∧H'=(mb,.cells 217 7 [zi (kind:Int),zi (entries:Int),zi (words:Int),zp ab,zp tb,zp bo,.bool false])::(HA++(HT++(HO++H)))):=by
 refine qc (l:=[zi (kind:Int),zi (entries:Int),zi (words:Int)]) Tryz.func81 rfl Tryz.ntmps81 rfl rfl ?_
 refine za 10 rfl ?_
 apply YR
 iterate 4 exact rfl
 case h1 =>
  intro hg2
  refine za 4 rfl ?_
  exact Q3 rfl zR
 refine za 2 rfl ?_
 refine QA rfl (by simp; omega) ?_
 refine za 4 rfl ?_
 apply YR
 iterate 4 exact rfl
 case h1 =>
  intro hg2
  refine za 4 rfl ?_
  exact Q3 rfl zR
 refine qD rfl rfl ?_
 apply YR
 iterate 4 exact rfl
 case h1 =>
  intro hg6
  refine za 4 rfl ?_
  exact Q3 rfl zR
 refine qD rfl rfl ?_
 apply YR
 iterate 4 exact rfl
 case h1 =>
  intro hg10
  refine za 4 rfl ?_
  exact Q3 rfl zR
 refine za 2 rfl ?_
 refine QA rfl (by simp; omega) ?_
 refine za 6 rfl ?_
 refine qX (l:=[zi (kind:Int),zi (entries:Int),zi (words:Int),.pointer none,.pointer none,.pointer none,.bool false]) ty217 pl217 (.cons rfl rfl rfl rfl rfl (.cons rfl rfl rfl rfl rfl (.cons rfl rfl rfl rfl rfl .nil))) rfl rfl rfl ?_
 refine qK (l:=[zi (kind:Int),zi (entries:Int),zi (words:Int),.pointer none,.pointer none,.pointer none,.bool false]) rfl rfl rfl (fun b36=>?_)
 refine za 5 rfl ?_
 refine qE rfl rfl (qdw (m:=((2*entries:Nat):Int)) (by rw [zg (by omega)]; omega)) rfl ?_
 refine qk (zc1 rfl) Tryz.call170 rfl (Zq.new (n:=2*entries) zO zO) ?_
 rintro v H' ⟨ab,HA,hA,rfl,rfl⟩
 refine za 5 rfl ?_
 refine qv (l':=[zi (kind:Int),zi (entries:Int),zi (words:Int),zp ab,.pointer none,.pointer none,.bool false]) rfl rfl JH rfl rfl (b:=b36) zM rfl rfl zU ?_
 refine za 4 rfl ?_
 refine qk (zc2 rfl rfl) Tryz.call171 rfl (Zb.new (room:=entries) zO zO) ?_
 rintro v H' ⟨tb,HT,hB,rfl,rfl⟩
 refine za 5 rfl ?_
 refine qv (l':=[zi (kind:Int),zi (entries:Int),zi (words:Int),zp ab,zp tb,.pointer none,.bool false]) rfl rfl YV rfl rfl (b:=b36) zM rfl rfl zU ?_
 refine za 4 rfl ?_
 refine qk (zc1 rfl) Tryz.call172 rfl (Jp.new (room:=entries) zO) ?_
 rintro v H' ⟨bo,HO,hO,rfl,rfl⟩
 refine za 5 rfl ?_
 refine qv (l':=[zi (kind:Int),zi (entries:Int),zi (words:Int),zp ab,zp tb,zp bo,.bool false]) rfl rfl YU rfl rfl (b:=b36) zM rfl rfl zU ?_
 refine za 7 rfl ?_
 refine qU (X:=(Nat × qg × qg × qg)) [(0,_),(8,_),(62,_)] (fun (x:(Nat × qg × qg × qg))=>[(63,zi (x.1:Int))]) (fun _=>_) (fun (x:(Nat × qg × qg × qg))=>(b36,.cells 217 7 [zi (kind:Int),zi (entries:Int),zi (words:Int),zp ab,zp tb,zp bo,.bool false])::(x.2.1++(x.2.2.1++(x.2.2.2++H)))) (fun (x:(Nat × qg × qg × qg))=>x.1≤entries∧Zq ab (qbF (2*entries) (if kind=0 then x.1 else 0)) x.2.1∧Zb tb entries (KS (if kind=0 then x.1 else 0)) x.2.2.1∧Jp bo entries x.1 (K4 (if kind=0 then x.1 else 0)) x.2.2.2) (fun (x:(Nat × qg × qg × qg))=>entries-x.1) (0,HA,HT,HO) ⟨Nat.zero_le _,by rw [ite_self,qil]; exact hA,by rw [ite_self]; exact hB,by rw [ite_self]; exact hO⟩ (qa rfl (qa rfl (qa rfl (qi _)))) (qa rfl (qi _)) rfl zH ?_
 rintro ⟨k,HA1,HT1,HO1⟩ ⟨hk,hA1,hB1,hO1⟩
 dsimp only at hk hA1 hB1 hO1 ⊢
 simp only [List.cons_append,List.nil_append]
 refine za 4 rfl ?_
 refine qm (p:=(k:Int)<(entries:Int)) rfl (by simp) (fun q0=>?_) (fun q0=>?_)
 ·skip
  refine za 11 rfl ?_
  refine qm (p:=kind=0) rfl (by simp) (fun q1=>?_) (fun q1=>?_)
  ·skip
   refine za 3 rfl (Jh rfl ty3 zJ (JU zO) rfl ?_)
   refine qX (l:=z7 ⟨(k:Int),zW⟩) Qz qoP (.cons rfl rfl rfl rfl rfl .nil) rfl rfl rfl ?_
   subst q1
   rw [if_pos rfl] at hA1 hB1 hO1
   refine qk (zc2 rfl rfl) Tryz.call149 rfl ((qdS (mb:=b36) (closed:=false) (kind:=0) (words:=words) hA1 hB1 hO1 (by omega) (by omega) (i:=k) (s:=qeM k) (c:=⟨(k:Int),zW⟩) (qgd (by omega)) (by rw [Yu (by omega),if_neg (Nat.lt_irrefl _)]) (by rw [KM]; exact fun hm=>by have h9:(k:Int)<(k:Int):=(qcQ.1 (List.mem_reverse.1 hm)).2; omega) (by rw [qff]; omega) (by rw [qlZ]; omega) hTab (H:=H)).hsub zH) ?_
   rintro v H' ⟨HA2,HT2,HO2,hA2,hB2,hO2,rfl,rfl⟩
   refine za 3 rfl ?_
   refine qE rfl rfl (qQ (m:=((k+1:Nat):Int)) ((zg zO).trans zO)) rfl ?_
   refine za 2 rfl ?_
   refine qP (k+1,HA2,HT2,HO2) ⟨by show k+1≤entries; omega,by show Zq _ _ _; rw [if_pos rfl]; rw [← ql0]; exact hA2,by show Zb _ _ _ _; rw [if_pos rfl,qim]; exact hB2,by show Jp _ _ _ _ _; rw [if_pos rfl,← qik]; exact hO2⟩ (by show entries-(k+1)<entries-k; omega) (qa rfl (qa rfl (qa rfl (qa rfl (qi _))))) rfl zH
  ·skip
   refine za 3 rfl ?_
   refine qE rfl rfl (qQ (m:=((k+1:Nat):Int)) ((zg zO).trans zO)) rfl ?_
   refine za 2 rfl ?_
   refine qP (k+1,HA1,HT1,HO1) ⟨by show k+1≤entries; omega,by rw [if_neg q1] at hA1 ⊢; exact hA1,by rw [if_neg q1] at hB1 ⊢; exact hB1,by rw [if_neg q1] at hO1 ⊢; exact hO1.up (Nat.le_succ _)⟩ (by show entries-(k+1)<entries-k; omega) (qa rfl (qa rfl (qa rfl (qa rfl (qi _))))) rfl zH
 ·skip
  refine za 6 rfl ?_
  refine qL (H2:=(b36,.cells 217 7 [zi (kind:Int),zi (entries:Int),zi (words:Int),zp ab,zp tb,zp bo,.bool false])::(HA1++(HT1++(HO1++H)))) Tryz.results81 rfl rfl (.nil _) zH ?_
  obtain rfl:k=entries:=by omega
  exact ⟨b36,ab,tb,bo,HA1,HT1,HO1,hA1,hB1,hO1.up zO,rfl,rfl⟩
theorem qnI (hA:Zq ab L HA) (hB:Zb tb entries C HT) {b2 b3:Nat} {c:Cel} (used:List Int) :qh Tryz.prog w0 253 #[.agg (List.toArray (z7 c)),zp b2,zp b3] ((b3,.cells 40 2 (hdC h))::(b2,.cells 65 1 [zp mb])::(mb,.cells 217 7 [zi (kind:Int),zi (entries:Int),zi (words:Int),zp ab,zp tb,zp bo,.bool closed])::(HA++(HT++(HO++H)))) (fun v' H'=>∃ HA',Zq ab (if (Xm.linked (⟨kind,entries,words,closed,L,C,used⟩:Xm) h)=true then L else QH L h Y7) HA'∧v'=zi (if (Xm.linked (⟨kind,entries,words,closed,L,C,used⟩:Xm) h)=true then 21 else Qc L h)∧H'=(b3,.cells 40 2 (hdC h))::(b2,.cells 65 1 [zp mb])::(mb,.cells 217 7 [zi (kind:Int),zi (entries:Int),zi (words:Int),zp ab,zp tb,zp bo,.bool closed])::(HA'++(HT++(HO++H)))):=by
 refine qc (l:=[.agg (List.toArray (z7 c)),zp b2,zp b3]) Tryz.func253 rfl Tryz.ntmps253 rfl rfl ?_
 refine ze ?_
 refine qK (l:=z7 c) rfl rfl rfl (fun b0=>?_)
 refine za 4 rfl ?_
 refine qe (v:=zp mb) rfl YP rfl (qf.own (b:=b2) zM rfl) rfl ?_
 refine qJ (vs:=hdC h) rfl qR rfl (b:=b3) zM rfl rfl rfl ?_
 refine qn (zc2 rfl rfl) Tryz.call254 rfl (qmn hA hB (h:=h) used (HO:=HO) (closed:=closed) (kind:=kind) (words:=words) (fun p hp=>by repeat (first | exact qeO p hp | apply List.mem_cons_of_mem))) ?_
 refine qs ?_
 refine qm (p:=(Xm.linked (⟨kind,entries,words,closed,L,C,used⟩:Xm) h)=true) rfl (by simp) (fun c0=>?_) (fun c0=>?_)
 ·skip
  refine za 3 rfl ?_
  refine qd (H2:=(b3,.cells 40 2 (hdC h))::(b2,.cells 65 1 [zp mb])::(mb,.cells 217 7 [zi (kind:Int),zi (entries:Int),zi (words:Int),zp ab,zp tb,zp bo,.bool closed])::(HA++(HT++(HO++H)))) Tryz.results253 rfl (.nil _) zH ?_
  exact ⟨HA,by rw [if_pos c0]; exact hA,by rw [if_pos c0],rfl⟩
 ·skip
  refine za 2 rfl ?_
  refine W_anyC [(b3,.cells 40 2 (hdC h)),(b2,.cells 65 1 [zp mb]),(mb,.cells 217 7 [zi (kind:Int),zi (entries:Int),zi (words:Int),zp ab,zp tb,zp bo,.bool closed])] zk ?_
  refine WC_take 0 rfl zK zK zK rfl rfl (qj (v:=zp mb) rfl YP rfl (qf.own (b:=b2) zM rfl)) rfl ?_
  refine zw [1,2] rfl rfl ?_
  refine WC_take 3 rfl zK zK zK rfl rfl (qj (v:=zp ab) rfl JH rfl (qf.own (b:=mb) zM rfl)) rfl ?_
  refine WC_take 4 rfl zK zK zK rfl rfl (Qm (vs:=hdC h) rfl qR rfl (b:=b3) zM rfl rfl) rfl ?_
  refine WC_one 5 zH zK rfl rfl ?_
  refine qy (l:=hdC h) qiT qR (.cons rfl rfl rfl rfl rfl .nil) rfl rfl rfl rfl rfl rfl rfl (fun b13=>?_)
  refine qs (WC_goal ?_)
  refine WC_one 6 zH zK rfl rfl ?_
  refine qk (zc2 rfl rfl) Tryz.call255 rfl ((hA.free (h:=h) (cap:=1) (Holds.own (b:=b13) zM) (H:=(b13,.cells 40 (1*2) (hdC h))::(b0,.cells 220 5 (z7 c))::(b3,.cells 40 2 (hdC h))::(b2,.cells 65 1 [zp mb])::(mb,.cells 217 7 [zi (kind:Int),zi (entries:Int),zi (words:Int),zp ab,zp tb,zp bo,.bool closed])::(HT++(HO++H)))).hsub zH) ?_
  rintro v' H' ⟨HA2,hA2,rfl,rfl⟩
  refine qs (WC_goal (zw [7] rfl rfl (WC_done zH zK ?_)))
  refine qd (H2:=(b3,.cells 40 2 (hdC h))::(b2,.cells 65 1 [zp mb])::(mb,.cells 217 7 [zi (kind:Int),zi (entries:Int),zi (words:Int),zp ab,zp tb,zp bo,.bool closed])::(HA2++(HT++(HO++H)))) Tryz.results253 rfl (.nil _) zH ?_
  exact ⟨HA2,by rw [if_neg c0]; exact hA2,by rw [if_neg c0],rfl⟩
theorem qow (hA:Zq ab L HA) (hB:Zb tb entries C HT) (used:List Int) :qh Tryz.prog w0 159 #[zp mb,.agg (List.toArray (hdC h))] ((mb,.cells 217 7 [zi (kind:Int),zi (entries:Int),zi (words:Int),zp ab,zp tb,zp bo,.bool closed])::(HA++(HT++(HO++H)))) (fun v' H'=>∃ HA',Zq ab (Xm.free (⟨kind,entries,words,closed,L,C,used⟩:Xm) h).1.L HA'∧v'=zi (Xm.free (⟨kind,entries,words,closed,L,C,used⟩:Xm) h).2∧H'=(mb,.cells 217 7 [zi (kind:Int),zi (entries:Int),zi (words:Int),zp ab,zp tb,zp bo,.bool closed])::(HA'++(HT++(HO++H)))):=by
 refine qc (l:=[zp mb,.agg (List.toArray (hdC h))]) Tryz.func159 rfl Tryz.ntmps159 rfl rfl ?_
 by_cases he:Qc L h=0
 ·skip
  refine ze ?_
  refine qK (l:=[zp mb]) rfl rfl rfl (fun b2=>?_)
  refine qK (l:=hdC h) rfl rfl rfl (fun b3=>?_)
  refine za 3 rfl ?_
  refine qe (v:=zp mb) rfl YP rfl (qf.own (b:=b2) zM rfl) rfl ?_
  refine qJ (vs:=hdC h) rfl qR rfl (b:=b3) zM rfl rfl rfl ?_
  refine qI .nil (.cons rfl (.cons rfl .nil)) rfl ?_
  refine qk (zc3 rfl rfl rfl) Tryz.call152 rfl (qbT (ca:=[zp b2,zp b3]) hA hB (HO:=HO) (closed:=closed) (kind:=kind) (words:=words) Tryz.call253 he (fun p hp=>by repeat (first | exact qeO p hp | apply List.mem_cons_of_mem)) (qnI (c:=ZX L h) (h:=h) hA hB used (H:=H))) ?_
  rintro v' H' ⟨HA2,hA2,rfl,rfl⟩
  refine za 2 rfl ?_
  refine qd (H2:=(mb,.cells 217 7 [zi (kind:Int),zi (entries:Int),zi (words:Int),zp ab,zp tb,zp bo,.bool closed])::(HA2++(HT++(HO++H)))) Tryz.results159 rfl (.nil _) zH ?_
  have hn:¬ (Qc L h≠0):=fun h=>h he
  by_cases hl:(Xm.linked (⟨kind,entries,words,closed,L,C,used⟩:Xm) h)=true
  ·have e:(Xm.free (⟨kind,entries,words,closed,L,C,used⟩:Xm) h)=((⟨kind,entries,words,closed,L,C,used⟩:Xm),21):=by unfold Xm.free; dsimp only; rw [if_neg hn,if_pos hl]
   rw [e]
   rw [if_pos hl] at hA2
   exact ⟨HA2,hA2,by rw [if_pos hl],rfl⟩
  ·have e:(Xm.free (⟨kind,entries,words,closed,L,C,used⟩:Xm) h)=({ (⟨kind,entries,words,closed,L,C,used⟩:Xm) with L:=QH L h Y7 },0):=by unfold Xm.free; dsimp only; rw [if_neg hn,if_neg hl]
   rw [e]
   rw [if_neg hl] at hA2
   exact ⟨HA2,hA2,by rw [if_neg hl,he],rfl⟩
 ·skip
  refine ze ?_
  refine qK (l:=[zp mb]) rfl rfl rfl (fun b2=>?_)
  refine qK (l:=hdC h) rfl rfl rfl (fun b3=>?_)
  refine za 3 rfl ?_
  refine qe (v:=zp mb) rfl YP rfl (qf.own (b:=b2) zM rfl) rfl ?_
  refine qJ (vs:=hdC h) rfl qR rfl (b:=b3) zM rfl rfl rfl ?_
  refine qI .nil (.cons rfl (.cons rfl .nil)) rfl ?_
  refine qn (zc3 rfl rfl rfl) Tryz.call152 rfl (qdC (ca:=[zp b2,zp b3]) hA hB he (HO:=HO) (closed:=closed) (kind:=kind) (words:=words) (fun p hp=>by repeat (first | exact qeO p hp | apply List.mem_cons_of_mem))) ?_
  refine za 2 rfl ?_
  refine qd (H2:=(mb,.cells 217 7 [zi (kind:Int),zi (entries:Int),zi (words:Int),zp ab,zp tb,zp bo,.bool closed])::(HA++(HT++(HO++H)))) Tryz.results159 rfl (.nil _) zH ?_
  exact ⟨HA,by unfold Xm.free; rw [if_pos he]; exact hA,by unfold Xm.free; rw [if_pos he],rfl⟩
theorem Xm.Ok.del (h:x.Ok) (k:Int):(x.del k).1.Ok:=by
 unfold Xm.del
 split
 ·exact h
 ·split
  ·exact h.unlink k
  ·exact h
theorem Xm.put_len (h:x.Ok) {o:Int} (ho:o∈x.used):(x.unlink o).1.C.length+1=x.C.length:=qaD h.nd (h.umem.1 ho)
theorem Xm.Ok.oldest (h:x.Ok) (hc:x.C.length=x.entries):x.used.headD 0∈x.used:=by
 have h1:=h.ulen
 have h2:=h.ent
 cases hu:x.used with
 | nil=>rw [hu] at h1; simp at h1; omega
 | cons a l=>exact List.mem_cons_self
theorem Xm.Ok.put (h:x.Ok) (how:Int) (ws:List Int) (hk:0≤k∧k<18446744073709551616):(x.put how k ws).1.Ok:=by
 unfold Xm.put
 split
 ·exact h
 ·split
  ·exact h
  ·split
   ·rename_i g hf
    split
    ·exact h
    ·obtain ⟨i,s,h1,h2,h3,h4,h5⟩:=h.own hf
     have:=(h.use (h.umem.2 (qat hf))).cel g (fun _=>⟨k,W4.of ws⟩) (fun c _ hc=>by
      subst hc
      show k=(ZX x.L g).key
      obtain ⟨i',s',a1,a2,a3,a4,a5,a6⟩:=Y0 (h.err0 hf)
      obtain rfl:i=i':=by omega
      obtain rfl:s=s':=Option.some.inj (h2.symm.trans a2)
      rw [a5,h5])
     exact this
   ·rename_i hf
    have hno:=KK.1 hf
    split
    ·exact h
    ·rename_i hr
     obtain ⟨i,s,hfi,hs⟩:=Xm.free_slot (Classical.not_not.1 hr)
     split
     ·rename_i hfull
      have ho:=h.oldest hfull
      refine (h.unlink _).link (i:=i) (s:=s) hfi hs ?_ ?_ hk
      ·show k ∉ Zm (Zu x.C _)
       rw [qcr]
       exact fun hm=>hno (List.mem_filter.1 hm).1
      ·have:=Xm.put_len h ho
       show (x.unlink (x.used.headD 0)).1.C.length<x.entries
       omega
     ·exact h.link hfi hs hno (by have:=h.le; omega) hk
theorem qpz (h1:kind≤2) (h2:1≤entries∧entries≤8) (h3:1≤words∧words≤4):(Xm.new kind entries words).Ok:=by
 unfold Xm.new
 exact qp0 h1 h2 h3 (by split <;> omega)
inductive XmH (mb T:Nat) (x:Xm):qg→Prop
 | mk {ab tb bo:Nat} {HA HT HO:qg} (hA:Zq ab x.L HA) (hB:Zb tb x.entries x.C HT) (hO:Jp bo x.entries T x.used HO) (hx:x.Ok):XmH mb T x ((mb,.cells 217 7 [.int .i64 (x.kind:Int),.int .i64 (x.entries:Int),.int .i64 (x.words:Int),zp ab,zp tb,zp bo,.bool x.closed])::(HA++(HT++HO)))
theorem XmH.ok {HX:qg} (h:XmH mb T x HX):x.Ok:=by cases h; assumption
theorem XmH.up {HX:qg} (h:XmH mb T x HX) (hl:T≤T'):XmH mb T' x HX:=by
 cases h with
 | mk hA hB hO hx=>exact .mk hA hB (hO.up hl) hx
section
variable {w0:World} {H HX:qg} {mb T:Nat} {x:Xm}
theorem XmH.find (hX:XmH mb T x HX) (hTl:T≤1000000) :qh Tryz.prog w0 64 #[zp mb,zu k] (HX++H) (fun v H'=>∃ HX',XmH mb (T+1) (x.find k).1 HX'∧v=.tuple #[.agg (List.toArray (hdC (x.find k).2.1)),zi (x.find k).2.2]∧H'=HX'++H):=by
 obtain ⟨kind,entries,words,closed,L,C,used⟩:=x
 cases hX with
 | @mk ab tb bo HA HT HO hA hB hO hx =>
  show qh _ _ _ _ ((mb,.cells 217 7 [zi (kind:Int),zi (entries:Int),zi (words:Int),zp ab,zp tb,zp bo,.bool closed])::((HA++(HT++HO))++H)) _
  rw [List.append_assoc,List.append_assoc]
  refine (qox (H:=H) (HA:=HA) (closed:=closed) (kind:=kind) (words:=words) hB hO hTl (k:=k) (fun h=>hx.umem.2 h)).mono ?_
  rintro v H' ⟨HO2,hO2,rfl,rfl⟩
  cases hf:Q6 C k with
  | none =>
   rw [hf] at hO2
   have e:Xm.find ⟨kind,entries,words,closed,L,C,used⟩ k=(⟨kind,entries,words,closed,L,C,used⟩,zHd,4):=by unfold Xm.find; dsimp only; rw [hf]
   rw [e]
   exact ⟨_,.mk hA hB hO2 hx,rfl,by show _=(mb,.cells 217 7 [zi (kind:Int),zi (entries:Int),zi (words:Int),zp ab,zp tb,zp bo,.bool closed])::((HA++(HT++HO2))++H); rw [List.append_assoc,List.append_assoc]⟩
  | some g =>
   rw [hf] at hO2
   have e:Xm.find ⟨kind,entries,words,closed,L,C,used⟩ k=(Xm.use ⟨kind,entries,words,closed,L,C,used⟩ k,g,0):=by unfold Xm.find; dsimp only; rw [hf]
   rw [e]
   exact ⟨_,.mk hA hB hO2 (hx.use (hx.umem.2 (qat hf))),rfl,by show _=(mb,.cells 217 7 [zi (kind:Int),zi (entries:Int),zi (words:Int),zp ab,zp tb,zp bo,.bool closed])::((HA++(HT++HO2))++H); rw [List.append_assoc,List.append_assoc]⟩
theorem qjr (x:Xm) (how k:Int) (ws:List Int):(x.put how k ws).1.kind=x.kind∧(x.put how k ws).1.entries=x.entries∧(x.put how k ws).1.words=x.words∧(x.put how k ws).1.closed=x.closed:=by
 have hl:∀ (y:Xm) c,(y.link c).1.kind=y.kind∧(y.link c).1.entries=y.entries∧(y.link c).1.words=y.words∧(y.link c).1.closed=y.closed:=fun y c=>by
  unfold Xm.link
  split
  ·split <;> exact ⟨rfl,rfl,rfl,rfl⟩
  ·exact ⟨rfl,rfl,rfl,rfl⟩
 unfold Xm.put
 split
 ·exact ⟨rfl,rfl,rfl,rfl⟩
 ·split
  ·exact ⟨rfl,rfl,rfl,rfl⟩
  ·split
   ·split <;> exact ⟨rfl,rfl,rfl,rfl⟩
   ·split
    ·exact ⟨rfl,rfl,rfl,rfl⟩
    ·split
     ·exact hl _ _
     ·exact hl _ _
theorem qlC (x:Xm) (k:Int):(x.del k).1.kind=x.kind∧(x.del k).1.entries=x.entries∧(x.del k).1.words=x.words∧(x.del k).1.closed=x.closed∧(x.del k).1.L=x.L:=by
 unfold Xm.del
 split
 ·exact ⟨rfl,rfl,rfl,rfl,rfl⟩
 ·split <;> exact ⟨rfl,rfl,rfl,rfl,rfl⟩
theorem qh1 (x:Xm) (h:Hd):(x.free h).1.kind=x.kind∧(x.free h).1.entries=x.entries∧(x.free h).1.words=x.words∧(x.free h).1.closed=x.closed∧(x.free h).1.C=x.C∧(x.free h).1.used=x.used:=by
 unfold Xm.free
 split
 ·exact ⟨rfl,rfl,rfl,rfl,rfl,rfl⟩
 ·split <;> exact ⟨rfl,rfl,rfl,rfl,rfl,rfl⟩
theorem XmH.of {y:Xm} (hk:y.kind=x.kind∧y.entries=x.entries∧y.words=x.words) (hA:Zq ab y.L HA) (hB:Zb tb x.entries y.C HT) (hO:Jp bo x.entries T y.used HO) (hx:y.Ok):XmH mb T y ((mb,.cells 217 7 [zi (x.kind:Int),zi (x.entries:Int),zi (x.words:Int),zp ab,zp tb,zp bo,.bool y.closed])::(HA++(HT++HO))):=by
 rw [← hk.1,← hk.2.1,← hk.2.2]
 exact .mk hA (by rw [hk.2.1]; exact hB) (by rw [hk.2.1]; exact hO) hx
theorem XmH.put (hX:XmH mb T x HX) (hTab:Tab w0) (hTl:T≤1000000) {ws:List Int} (hk:0≤k∧k<18446744073709551616) (hrow:Holds w0 H ad (ws.map (Value.int .u64))):qh Tryz.prog w0 61 #[zp mb,zi how,zu k,.slice ad ws.length cap] (HX++H) (fun v H'=>∃ HX',XmH mb (T+2) (Xm.put x how k ws).1 HX'∧v=.tuple #[.agg (List.toArray (Qg (Xm.put x how k ws).2.1)),zi (Xm.put x how k ws).2.2]∧H'=HX'++H):=by
 obtain ⟨kind,entries,words,closed,L,C,used⟩:=x
 cases hX with
 | @mk ab tb bo HA HT HO hA hB hO hx =>
  show qh _ _ _ _ ((mb,.cells 217 7 [zi (kind:Int),zi (entries:Int),zi (words:Int),zp ab,zp tb,zp bo,.bool closed])::((HA++(HT++HO))++H)) _
  rw [List.append_assoc,List.append_assoc]
  refine (qor (H:=H) hA hB hO hTl hx (how:=how) (k:=k) (cap:=cap) hrow hTab).mono ?_
  rintro v H' ⟨HA2,HT2,HO2,hA2,hB2,hO2,rfl,rfl⟩
  have hk':=qjr ⟨kind,entries,words,closed,L,C,used⟩ how k ws
  refine ⟨_,XmH.of (x:=⟨kind,entries,words,closed,L,C,used⟩) ⟨hk'.1,hk'.2.1,hk'.2.2.1⟩ hA2 hB2 hO2 (hx.put how ws hk),rfl,?_⟩
  rw [show ((Xm.put ⟨kind,entries,words,closed,L,C,used⟩ how k ws)).1.closed=closed from hk'.2.2.2]
  show _=(mb,.cells 217 7 [zi (kind:Int),zi (entries:Int),zi (words:Int),zp ab,zp tb,zp bo,.bool closed])::((HA2++(HT2++HO2))++H)
  rw [List.append_assoc,List.append_assoc]
theorem XmH.del (hX:XmH mb T x HX) :qh Tryz.prog w0 68 #[zp mb,zu k] (HX++H) (fun v H'=>∃ HX',XmH mb T (Xm.del x k).1 HX'∧v=.tuple #[.agg (List.toArray (hdC (Xm.del x k).2.1)),zi (Xm.del x k).2.2]∧H'=HX'++H):=by
 obtain ⟨kind,entries,words,closed,L,C,used⟩:=x
 cases hX with
 | @mk ab tb bo HA HT HO hA hB hO hx =>
  show qh _ _ _ _ ((mb,.cells 217 7 [zi (kind:Int),zi (entries:Int),zi (words:Int),zp ab,zp tb,zp bo,.bool closed])::((HA++(HT++HO))++H)) _
  rw [List.append_assoc,List.append_assoc]
  refine (qqx (H:=H) (HA:=HA) (L:=L) (closed:=closed) (words:=words) hB hO (k:=k)).mono ?_
  rintro v H' ⟨HT2,HO2,hB2,hO2,rfl,rfl⟩
  have hk':=qlC ⟨kind,entries,words,closed,L,C,used⟩ k
  refine ⟨_,XmH.of (x:=⟨kind,entries,words,closed,L,C,used⟩) ⟨hk'.1,hk'.2.1,hk'.2.2.1⟩ (by rw [hk'.2.2.2.2]; exact hA) hB2 hO2 (hx.del k),rfl,?_⟩
  rw [show ((Xm.del ⟨kind,entries,words,closed,L,C,used⟩ k)).1.closed=closed from hk'.2.2.2.1]
  show _=(mb,.cells 217 7 [zi (kind:Int),zi (entries:Int),zi (words:Int),zp ab,zp tb,zp bo,.bool closed])::((HA++(HT2++HO2))++H)
  rw [List.append_assoc,List.append_assoc]
theorem XmH.free (hX:XmH mb T x HX) :qh Tryz.prog w0 159 #[zp mb,.agg (List.toArray (hdC h))] (HX++H) (fun v H'=>∃ HX',XmH mb T (Xm.free x h).1 HX'∧v=zi (Xm.free x h).2∧H'=HX'++H):=by
 obtain ⟨kind,entries,words,closed,L,C,used⟩:=x
 cases hX with
 | @mk ab tb bo HA HT HO hA hB hO hx =>
  show qh _ _ _ _ ((mb,.cells 217 7 [zi (kind:Int),zi (entries:Int),zi (words:Int),zp ab,zp tb,zp bo,.bool closed])::((HA++(HT++HO))++H)) _
  rw [List.append_assoc,List.append_assoc]
  refine (qow (H:=H) (HO:=HO) (closed:=closed) (kind:=kind) (words:=words) hA hB (h:=h) used).mono ?_
  rintro v H' ⟨HA2,hA2,rfl,rfl⟩
  have hk':=qh1 ⟨kind,entries,words,closed,L,C,used⟩ h
  refine ⟨_,XmH.of (x:=⟨kind,entries,words,closed,L,C,used⟩) ⟨hk'.1,hk'.2.1,hk'.2.2.1⟩ hA2 (by rw [hk'.2.2.2.2.1]; exact hB) (by rw [hk'.2.2.2.2.2]; exact hO) (hx.free h),rfl,?_⟩
  rw [show ((Xm.free ⟨kind,entries,words,closed,L,C,used⟩ h)).1.closed=closed from hk'.2.2.2.1]
  show _=(mb,.cells 217 7 [zi (kind:Int),zi (entries:Int),zi (words:Int),zp ab,zp tb,zp bo,.bool closed])::((HA2++(HT++HO))++H)
  rw [List.append_assoc,List.append_assoc]
theorem XmH.key (hX:XmH mb T x HX) (hm:∀ p∈HX,p∈H) :qB Tryz.prog w0 H 66 [zp mb,.agg (List.toArray (hdC h))] (.tuple #[zu (x.key h).1,zi (x.key h).2]):=by
 obtain ⟨kind,entries,words,closed,L,C,used⟩:=x
 cases hX with
 | @mk ab tb bo HA HT HO hA hB hO hx=>exact Key_q (h:=h) hA hB hm
theorem XmH.held (hX:XmH mb T x HX) (hm:∀ p∈HX,p∈H):qB Tryz.prog w0 H 43 [zp mb] (zi ((K3 1 x.L:Nat):Int)):=by
 obtain ⟨kind,entries,words,closed,L,C,used⟩:=x
 cases hX with
 | @mk ab tb bo HA HT HO hA hB hO hx=>exact qov hA hB hm
end
theorem XmH.new (hTab:Tab w0) (h1:kind≤2) (h2:1≤entries∧entries≤8) (h3:1≤words∧words≤4):qh Tryz.prog w0 81 #[zi (kind:Int),zi (entries:Int),zi (words:Int)] (H) (fun v H'=>∃ mb HX,XmH mb 8 (Xm.new kind entries words) HX∧v=.tuple #[zp mb,zi 0]∧H'=HX++H):=by
 refine (qqo (H:=H) h1 h2 h3 hTab).mono ?_
 rintro v H' ⟨mb,ab,tb,bo,HA,HT,HO,hA,hB,hO,rfl,rfl⟩
 refine ⟨mb,_,.mk (x:=Xm.new kind entries words) hA hB hO (qpz h1 h2 h3),rfl,?_⟩
 show _=(mb,.cells 217 7 [zi (kind:Int),zi (entries:Int),zi (words:Int),zp ab,zp tb,zp bo,.bool false])::((HA++(HT++HO))++H)
 rw [List.append_assoc,List.append_assoc]
def mcC (c:Option Nat × Bool):List Value:=[.pointer (c.1.map fun mb=>⟨mb,0,none⟩),.bool c.2]
theorem Jd (c:Option Nat × Bool):(mcC c).length=2:=rfl
def qu (n:Nat) (M:List (Option Nat × Bool)) (tb wb g1 g2 rb db:Nat):List Value:=zi ((n:Nat):Int)::(M.flatMap mcC++[zp tb,zp wb,zp g1,zp g2,zp rb,.map (some db)])
theorem qdT:(qu n M tb wb g1 g2 rb db).length=M.length*2+7:=by
 unfold qu; rw [List.length_cons,List.length_append,zt Jd]; rfl
theorem Qf {j:Nat} (h:M.length=4):(qu n M tb wb g1 g2 rb db)[9+j]?=[zp tb,zp wb,zp g1,zp g2,zp rb,Value.map (some db)][j]?:=by
 unfold qu
 rw [show 9+j=(8+j)+1 by omega,List.getElem?_cons_succ,List.getElem?_append_right (by rw [zt Jd,h]; omega),zt Jd,h,Nat.add_sub_cancel_left]
theorem qjL {j:Nat} (h:M[i]?=some c) (hj:j<2):(qu n M tb wb g1 g2 rb db)[1+i*2+j]?=(mcC c)[j]?:=by
 unfold qu
 rw [show 1+i*2+j=(i*2+j)+1 by omega,List.getElem?_cons_succ,List.getElem?_append_left (qbI Jd h hj),JY Jd h hj]
theorem qjK {c':Option Nat × Bool} (h:i<M.length):zA (qu n M tb wb g1 g2 rb db) (1+i*2) (mcC c')=qu n (M.set i c') tb wb g1 g2 rb db:=by
 have e:=Xl Jd (l:=M) c' h
 have hl:=zt Jd M
 unfold zA at e ⊢
 unfold qu
 rw [← e,show 1+i*2=(i*2)+1 by omega,List.take_succ_cons,show (i*2)+1+(mcC c').length=(i*2+(mcC c').length)+1 by omega,List.drop_succ_cons,List.take_append_of_le_length (by rw [hl]; omega),List.drop_append_of_le_length (by rw [hl,Jd]; omega)]
 simp only [List.cons_append,List.append_assoc]
structure Dye where
 key:Int
 h:Hd
 clk:Nat
def Dye.ent (e:Dye):Int × Value × Nat:=(e.key,.agg (List.toArray (hdC e.h)),e.clk)
def Dye.p (e:Dye):Int × Hd:=(e.key,e.h)
inductive DyH (db:Nat) (dy:List (Int × Hd)):qg→Prop
 | mk {E:List Dye} {cl:Nat} (hok:QP (E.map Dye.ent) cl) (he:E.map Dye.p=dy):DyH db dy [(db,.obj (qM (Value.int .i64) ((E).map Dye.ent) cl))]
inductive MpH (T:Nat):(Option Nat × Bool)→Option (Xm × Bool)→qg→Prop
 | none:MpH T (none,false) none []
 | some {mb:Nat} {x:Xm} {b:Bool} {X:qg} (h:XmH mb T x X):MpH T (some mb,b) (some (x,b)) X
structure XV (T:Nat) (M:List (Option Nat × Bool)) (ms:List (Option (Xm × Bool))) (HM:List qg):Prop where
 m4:M.length=4
 s4:ms.length=4
 h4:HM.length=4
 at_:∀ (k:Nat) c y X,M[k]?=some c→ms[k]?=some y→HM[k]?=some X→MpH T c y X
structure Lf where
 n:Nat
 ms:List (Option (Xm × Bool))
 Ws:List Wl
 Qt:List (Int × Int)
 Rt:List (Int × Int)
 At:List Qn
 Qw:List (Int × Int)
 Rw:List (Int × Int)
 Aw:List ZL
 on:List Int
 tr:Gr
 cl:Gr
 us:List (Int × Cnt)
 dy:List (Int × Hd)
structure JP (R:List (Int × Cnt)):Prop where
 rng:∀ p∈R,1≤p.2.n∧p.2.n≤8∧p.2.top=8∧0≤p.1∧p.1<16
 nd:(R.map (·.1)).Nodup
inductive qV (lb T:Nat) (F:Lf):qg→Prop
 | mk {tb wb g1 g2 rb db:Nat} {M:List (Option Nat × Bool)} {HT HW H1 H2 HR HD:qg} {HM:List qg}
  (hT:Q2 tb F.n F.Ws F.Qt F.Rt F.At HT) (hO:TOk T F.Ws F.At) (hW:Jm wb F.n F.Qw F.Rw F.Aw F.on HW)
  (h1:GrH g1 F.n F.tr H1) (o1:JE F.n F.tr) (h2:GrH g2 F.n F.cl H2) (o2:JE F.n F.cl)
  (hR:Jb rb 8 F.us HR) (hU:JP F.us) (hD:DyH db F.dy HD) (hM:XV T M F.ms HM) :
  qV lb T F ((lb,.cells 134 15 (qu F.n M tb wb g1 g2 rb db))::(HT++(HW++(H1++(H2++(HR++(HD++HM.flatten)))))))
def qco (M:List (Option Nat × Bool)) (m:Int):Value:=.pointer (if 0≤m∧m<4 then (M.getD m.toNat (none,false)).1.map (fun mb=>(⟨mb,0,none⟩:Addr)) else none)
theorem qdQ (hi:i<4) (h:M[i]?=some c):qco M (i:Int)=.pointer (c.1.map fun mb=>⟨mb,0,none⟩):=by
 unfold qco; rw [if_pos (by omega),show ((i:Nat):Int).toNat=i by omega,List.getD_eq_getElem?_getD,h]; rfl
theorem qcn (h:¬ (0≤m∧m<4)):qco M m=.pointer none:=by unfold qco; rw [if_neg h]
theorem qnu (hm:(lb,.cells 134 15 (qu n M tb wb g1 g2 rb db))∈H) (hM4:M.length=4) (h:m<0) :qB Tryz.prog w0 H 29 [zp lb,zi m] (qco M m):=by
 refine qc Tryz.func29 rfl Tryz.ntmps29 rfl rfl (za 6 rfl ?_)
 refine W_x (qr rfl rfl KR) (fun _ h=>by cases h) rfl ?_
 refine za 5 rfl ?_
 first | rw [decide_eq_true (by omega)] | rw [decide_eq_false (by omega)]
 refine za 10 rfl ?_
 refine qd (H2:=H) Tryz.results29 rfl (.nil _) zH ?_
 rw [qcn (by omega)]
 exact ⟨rfl,rfl⟩
theorem qnw (hm:(lb,.cells 134 15 (qu n M tb wb g1 g2 rb db))∈H) (hM4:M.length=4) (h:4≤m) :qB Tryz.prog w0 H 29 [zp lb,zi m] (qco M m):=by
 refine qc Tryz.func29 rfl Tryz.ntmps29 rfl rfl (za 6 rfl ?_)
 refine W_x (qr rfl rfl KR) (fun _ h=>by cases h) rfl ?_
 refine za 5 rfl ?_
 first | rw [decide_eq_true (by omega)] | rw [decide_eq_false (by omega)]
 refine za 6 rfl ?_
 first | rw [decide_eq_true (by omega)] | rw [decide_eq_false (by omega)]
 refine za 6 rfl ?_
 refine qd (H2:=H) Tryz.results29 rfl (.nil _) zH ?_
 rw [qcn (by omega)]
 exact ⟨rfl,rfl⟩
theorem qnv (hm:(lb,.cells 134 15 (qu n M tb wb g1 g2 rb db))∈H) (hM4:M.length=4) (hi:i<4) (hc:M[i]?=some c) :qB Tryz.prog w0 H 29 [zp lb,zi (i:Int)] (.pointer (c.1.map fun mb=>⟨mb,0,none⟩)):=by
 refine qc Tryz.func29 rfl Tryz.ntmps29 rfl rfl (za 6 rfl ?_)
 refine W_x (qr rfl rfl KR) (fun _ h=>by cases h) rfl ?_
 refine za 5 rfl ?_
 first | rw [decide_eq_true (by omega)] | rw [decide_eq_false (by omega)]
 refine za 6 rfl ?_
 first | rw [decide_eq_true (by omega)] | rw [decide_eq_false (by omega)]
 refine za 9 rfl ?_
 refine Qe (j:=i) rfl rfl qbY Xe (by first | rfl | omega) (by first | decide | omega | simp) rfl rfl ?_
 refine za 1 rfl ?_
 refine qe (v:=.pointer (c.1.map fun mb=>⟨mb,0,none⟩)) rfl YP rfl (qf.own (b:=lb) hm (qjL (j:=0) hc zd)) rfl ?_
 refine za 2 rfl ?_
 refine qd (H2:=H) Tryz.results29 rfl (.nil _) zH ?_
 exact ⟨rfl,rfl⟩
theorem qfV (hm:(lb,.cells 134 15 (qu n M tb wb g1 g2 rb db))∈H) (hM4:M.length=4) :qB Tryz.prog w0 H 29 [zp lb,zi m] (qco M m):=by
 by_cases h0:m<0
 ·exact qnu hm hM4 h0
 ·by_cases h1:4≤m
  ·exact qnw hm hM4 h1
  ·obtain ⟨i,rfl⟩:∃ i:Nat,m=(i:Int):=⟨m.toNat,by omega⟩
   obtain ⟨c,hc⟩:∃ c,M[i]?=some c:=⟨_,List.getElem?_eq_getElem zO⟩
   rw [qdQ (by omega) hc]
   exact qnv hm hM4 zO hc
theorem qap (hm:(lb,.cells 134 15 (qu n M tb wb g1 g2 rb db))∈H) (hM4:M.length=4) {f:Value} (hno:qco M m=.pointer none) :qB Tryz.prog w0 H 59 [zp lb,zi m,f] (zi 4):=by
 refine qc Tryz.func59 rfl Tryz.ntmps59 rfl rfl (za 6 rfl ?_)
 refine qn (zc2 rfl rfl) Tryz.call29 rfl (qfV (m:=m) hm hM4) ?_
 rw [hno]
 refine za 6 rfl ?_
 refine W_x (qr rfl rfl KR) (fun _ h=>by cases h) rfl ?_
 refine za 5 rfl ?_
 refine W_x (qr rfl rfl YP) (fun _ h=>by cases h) rfl ?_
 refine za 6 rfl ?_
 refine qd (H2:=H) Tryz.results59 rfl (.nil _) zH ?_
 exact ⟨rfl,rfl⟩
theorem qaq (hm:(lb,.cells 134 15 (qu n M tb wb g1 g2 rb db))∈H) (hM4:M.length=4) {R:Value→qg→Prop} (hfi:∀ (args:Array Value) (w:World),(callFunc fi args).run Tryz.prog w=.ok (.enter fi args) w) (hy:qco M m=zp mb) (hdo:qh Tryz.prog w0 fi (#[]++#[zp mb]++ca.toArray) H R) (hE:∀ v H2,R v H2→∃ e,v=zi e) :qh Tryz.prog w0 59 #[zp lb,zi m,Value.func (.func fi) #[] ca.toArray] (H) (R):=by
 refine qc (l:=[zp lb,zi m,Value.func (.func fi) #[] ca.toArray]) Tryz.func59 rfl Tryz.ntmps59 rfl rfl ?_
 refine za 6 rfl ?_
 refine qn (zc2 rfl rfl) Tryz.call29 rfl (qfV (m:=m) hm hM4) ?_
 rw [hy]
 refine za 6 rfl ?_
 refine W_x (qr rfl rfl KR) (fun _ h=>by cases h) rfl ?_
 refine za 5 rfl ?_
 refine W_x (qr rfl rfl YP) (fun _ h=>by cases h) rfl ?_
 refine za 8 rfl ?_
 refine Yx (fa:=#[]) (ca:=ca.toArray) rfl (.cons rfl .nil) hfi rfl (hdo) ?_
 rintro v H' hR
 refine za 2 rfl ?_
 refine qd (H2:=H') Tryz.results59 rfl (.nil _) zH ?_
 exact hR
theorem Xi (hm:(lb,.cells 134 15 (qu n M tb wb g1 g2 rb db))∈H) (hM4:M.length=4) :qB Tryz.prog w0 H 21 [zp lb] (zp tb):=by
 refine qc Tryz.func21 rfl Tryz.ntmps21 rfl rfl (za 6 rfl ?_)
 refine W_x (qr rfl rfl KR) (fun _ h=>by cases h) rfl ?_
 refine za 7 rfl ?_
 refine qe (v:=zp tb) rfl QX rfl (qf.own (b:=lb) hm (Qf (j:=0) hM4)) rfl ?_
 refine za 2 rfl ?_
 refine qd (H2:=H) Tryz.results21 rfl (.nil _) zH ?_
 exact ⟨rfl,rfl⟩
theorem qcq (hm:(lb,.cells 134 15 (qu n M tb wb g1 g2 rb db))∈H) (hM4:M.length=4) :qB Tryz.prog w0 H 30 [zp lb] (zp wb):=by
 refine qc Tryz.func30 rfl Tryz.ntmps30 rfl rfl (za 6 rfl ?_)
 refine W_x (qr rfl rfl KR) (fun _ h=>by cases h) rfl ?_
 refine za 7 rfl ?_
 refine qe (v:=zp wb) rfl Jn rfl (qf.own (b:=lb) hm (Qf (j:=1) hM4)) rfl ?_
 refine za 2 rfl ?_
 refine qd (H2:=H) Tryz.results30 rfl (.nil _) zH ?_
 exact ⟨rfl,rfl⟩
theorem qjQ (hm:(lb,.cells 134 15 (qu n M tb wb g1 g2 rb db))∈H) (hM4:M.length=4) {HR:qg} {R:List (Int × Cnt)} {p:Int} (hR:Jb rb 8 R HR) (hs:∀ p∈HR,p∈H) :qB Tryz.prog w0 H 24 [zp lb,zi p] (zi (qec R p)):=by
 refine qc Tryz.func24 rfl Tryz.ntmps24 rfl rfl (za 6 rfl ?_)
 refine W_x (qr rfl rfl KR) (fun _ h=>by cases h) rfl ?_
 refine za 7 rfl ?_
 refine qe (v:=zp rb) rfl X7 rfl (qf.own (b:=lb) hm (Qf (j:=4) hM4)) rfl ?_
 refine qD rfl rfl (qn (zc2 rfl rfl) Tryz.call80 rfl (hR.value hs) (za 2 rfl ?_))
 refine qd (H2:=H) Tryz.results24 rfl (.nil _) zH ?_
 exact ⟨rfl,rfl⟩
theorem lf_ld (h:M[i]?=some c):((qu n M tb wb g1 g2 rb db).drop (1+i*2)).take 2=mcC c:=by
 apply List.ext_getElem?
 intro j
 by_cases q:j<2
 ·rw [List.getElem?_take,if_pos q,List.getElem?_drop,qjL h q]
 ·rw [List.getElem?_eq_none (by rw [List.length_take]; omega),List.getElem?_eq_none (by rw [Jd]; omega)]
theorem mk1_n {mb:Nat} :qB Tryz.prog w0 H 83 [.agg (List.toArray (mcC (none,b)))] (.bool true):=by
 refine qc Tryz.func83 rfl Tryz.ntmps83 rfl rfl (ze ?_)
 refine qK (l:=mcC (none,b)) rfl rfl rfl (fun b1=>?_)
 refine za 4 rfl ?_
 refine qe (v:=.pointer none) rfl YP rfl (qf.own (b:=b1) zM rfl) rfl ?_
 refine W_x (qr rfl rfl YP) (fun _ h=>by cases h) rfl ?_
 refine za 2 rfl ?_
 refine qd (H2:=H) Tryz.results83 rfl (.nil _) zH ?_
 exact ⟨rfl,rfl⟩
theorem mk1_s:qB Tryz.prog w0 H 83 [.agg (List.toArray (mcC (some mb,b)))] (.bool false):=by
 refine qc Tryz.func83 rfl Tryz.ntmps83 rfl rfl (ze ?_)
 refine qK (l:=mcC (some mb,b)) rfl rfl rfl (fun b1=>?_)
 refine za 4 rfl ?_
 refine qe (v:=zp mb) rfl YP rfl (qf.own (b:=b1) zM rfl) rfl ?_
 refine W_x (qr rfl rfl YP) (fun _ h=>by cases h) rfl ?_
 refine za 2 rfl ?_
 refine qd (H2:=H) Tryz.results83 rfl (.nil _) zH ?_
 exact ⟨rfl,rfl⟩
theorem mk1_q:qB Tryz.prog w0 H 83 [.agg (List.toArray (mcC c))] (.bool c.1.isNone):=by
 obtain ⟨c1,c2⟩:=c
 cases c1 with
 | none=>exact mk1_n (mb:=0)
 | some mb=>exact mk1_s
theorem qjR (hm:(lb,.cells 134 15 (qu n M tb wb g1 g2 rb db))∈H) (hM4:M.length=4) :qh Tryz.prog w0 82 #[.slice (some ⟨lb,1,none⟩) 4 4,.func (.func 83) #[] #[]] (H) (fun v H'=>∃ z:Int,v=zi z∧((∃ (i:Nat) (c:Option Nat × Bool),z=i∧M[i]?=some c∧c.1.isNone=true∧∀ j:Nat,j<i→∀ d,M[j]?=some d→d.1.isNone=false)∨(z=-1∧∀ j:Nat,j<4→∀ d,M[j]?=some d→d.1.isNone=false))∧H'=H):=by
 refine qc (l:=[.slice (some ⟨lb,1,none⟩) 4 4,.func (.func 83) #[] #[]]) Tryz.func82 rfl Tryz.ntmps82 rfl rfl ?_
 refine za 6 rfl (zZ rfl qoI rfl rfl (za 3 rfl ?_))
 refine qU (X:=Nat) [(0,_),(1,_),(7,_)] (fun (i:Nat)=>[(8,zi (i:Int))]) (fun _=>_) (fun (i:Nat)=>H) (fun (i:Nat)=>i≤4∧∀ j:Nat,j<i→∀ d,M[j]?=some d→d.1.isNone=false) (fun (i:Nat)=>4-i) 0 ⟨Nat.zero_le _,fun j hj=>absurd hj (Nat.not_lt_zero _)⟩ (qa rfl (qa rfl (qa rfl (qi _)))) (qa rfl (qi _)) rfl zH ?_
 rintro i ⟨hi,hn⟩
 simp only [List.cons_append,List.nil_append]
 refine za 4 rfl ?_
 refine qm (p:=i<4) rfl (by rw [decide_eq_true_eq]; omega) (fun q0=>?_) (fun q0=>?_)
 ·skip
  refine za 8 rfl ?_
  obtain ⟨c,hc⟩:∃ c,M[i]?=some c:=⟨_,List.getElem?_eq_getElem zO⟩
  refine za 3 rfl ?_
  refine qS (j:=i) rfl rfl qoI Xe rfl zO rfl rfl ?_
  refine qJ (vs:=mcC c) rfl Xe rfl (b:=lb) hm (by rw [Nat.ble_eq,qdT]; omega) (lf_ld hc) rfl ?_
  refine Xr (fa:=[]) (ca:=[]) rfl (.cons rfl .nil) rfl Tryz.call83 rfl (mk1_q (c:=c)) ?_
  refine qs ?_
  refine qm (p:=c.1.isNone=true) rfl .rfl (fun q1=>?_) (fun q1=>?_)
  ·skip
   refine za 4 rfl (qd Tryz.results82 rfl (.nil _) (.refl _) ?_)
   exact ⟨i,rfl,.inl ⟨i,c,rfl,hc,q1,hn⟩,rfl⟩
  ·skip
   refine za 3 rfl ?_
   refine qE rfl rfl (qQ (m:=((i+1:Nat):Int)) ((zg zO).trans zO)) rfl ?_
   refine za 2 rfl ?_
   refine qP (i+1) ⟨by omega,fun j hj d hd=>by
     by_cases e:j=i
     ·subst e; rw [hc] at hd; cases hd; exact eq_false_of_ne_true q1
     ·exact hn j zO d hd⟩ zO (qa rfl (qa rfl (qa rfl (qa rfl (qi _))))) rfl zH
 ·skip
  refine za 4 rfl (qd Tryz.results82 rfl (.nil _) (.refl _) ?_)
  obtain rfl:i=4:=by omega
  exact ⟨-1,rfl,.inr ⟨rfl,hn⟩,rfl⟩
theorem MpH.none_iff {y:Option (Xm × Bool)} (h:MpH T c y X):c.1.isNone=y.isNone:=by cases h <;> rfl
def frM (ms:List (Option (Xm × Bool))):Option Nat:=ms.findIdx? (fun y=>y.isNone)
theorem XV.free (h:XV T M ms HM) (hc:M[i]?=some c) (h1:c.1.isNone=true) (hj:∀ j:Nat,j<i→∀ d,M[j]?=some d→d.1.isNone=false):frM ms=some i:=by
 have hi:=(List.getElem?_eq_some_iff.1 hc).1
 have hm4:=h.m4; have hs4:=h.s4; have hh4:=h.h4
 have key:∀ j:Nat,j<4→∃ d y,M[j]?=some d∧ms[j]?=some y∧d.1.isNone=y.isNone:=fun j hj=>by
  have e1:=List.getElem?_eq_getElem (l:=M) (i:=j) zO
  have e2:=List.getElem?_eq_getElem (l:=ms) (i:=j) zO
  have e3:=List.getElem?_eq_getElem (l:=HM) (i:=j) zO
  exact ⟨_,_,e1,e2,(h.at_ j _ _ _ e1 e2 e3).none_iff⟩
 unfold frM
 rw [List.findIdx?_eq_some_iff_getElem]
 obtain ⟨d,y,e1,e2,e3⟩:=key i zO
 refine ⟨by omega,?_,fun j hji=>?_⟩
 ·rw [hc] at e1; cases e1
  rw [(List.getElem?_eq_some_iff.1 e2).2,← e3]; exact h1
 ·obtain ⟨d2,y2,f1,f2,f3⟩:=key j zO
  rw [(List.getElem?_eq_some_iff.1 f2).2,← f3,hj j hji d2 f1]; decide
theorem XV.full (h:XV T M ms HM) (hj:∀ j:Nat,j<4→∀ d,M[j]?=some d→d.1.isNone=false):frM ms=none:=by
 have hm4:=h.m4; have hs4:=h.s4; have hh4:=h.h4
 unfold frM
 rw [List.findIdx?_eq_none_iff]
 intro y hy
 obtain ⟨j,hjl,e⟩:=List.getElem_of_mem hy
 have e1:=List.getElem?_eq_getElem (l:=M) (i:=j) zO
 have e2:ms[j]?=some y:=by rw [List.getElem?_eq_getElem hjl,e]
 have e3:=List.getElem?_eq_getElem (l:=HM) (i:=j) zO
 rw [← (h.at_ j _ _ _ e1 e2 e3).none_iff]
 exact hj j zO _ e1
theorem XV.nilAt (h:XV T M ms HM) (hc:M[i]?=some c) (h1:c.1.isNone=true):HM[i]?=some []:=by
 have hi:=(List.getElem?_eq_some_iff.1 hc).1
 have hm4:=h.m4; have hs4:=h.s4; have hh4:=h.h4
 obtain ⟨y,e2⟩:∃ y,ms[i]?=some y:=⟨_,List.getElem?_eq_getElem zO⟩
 obtain ⟨X,e3⟩:∃ X,HM[i]?=some X:=⟨_,List.getElem?_eq_getElem zO⟩
 have h5:=h.at_ i c y X hc e2 e3
 cases h5 with
 | none=>exact e3
 | some _=>cases h1
theorem qf4 (h:HM[i]?=some []):qC (X++(HM.flatten++H)) ((HM.set i X).flatten++H):=by
 have hi:=(List.getElem?_eq_some_iff.1 h).1
 have eS:HM.set i []=HM:=by
  apply List.ext_getElem?
  intro j
  by_cases q:i=j
  ·subst q; rw [List.getElem?_set_self hi,h]
  ·rw [List.getElem?_set_ne q]
 have:=ZA (XS:=HM) (k:=i) (B:=X) (H:=H) hi
 rwa [eS] at this
theorem XV.set (h:XV T M ms HM) {k:Nat} {y:Option (Xm × Bool)} (hp:MpH T c y X):XV T (M.set k c) (ms.set k y) (HM.set k X):=by
 refine ⟨by rw [List.length_set,h.m4],by rw [List.length_set,h.s4],by rw [List.length_set,h.h4],fun j c2 y2 X2 e1 e2 e3=>?_⟩
 have hm4:=h.m4; have hs4:=h.s4; have hh4:=h.h4
 by_cases q:k=j
 ·subst q
  have hk:k<M.length:=by have:=(List.getElem?_eq_some_iff.1 e1).1; rwa [List.length_set] at this
  rw [List.getElem?_set_self hk] at e1
  rw [List.getElem?_set_self (by omega)] at e2 e3
  cases e1; cases e2; cases e3; exact hp
 ·rw [List.getElem?_set_ne q] at e1 e2 e3
  exact h.at_ j c2 y2 X2 e1 e2 e3
theorem XV.up (h:XV T M ms HM) (hl:T≤T'):XV T' M ms HM:=⟨h.m4,h.s4,h.h4,fun k c y X e1 e2 e3=>by
 cases h.at_ k c y X e1 e2 e3 with
 | none=>exact .none
 | some hx=>exact .some (hx.up hl)⟩
theorem qeT {HF:qg} {F:Lf} (hF:qV lb T F HF) (hk1:kind≤2) (hk2:1≤entries∧entries≤8) (hk3:1≤words∧words≤4) (hT8:8≤T) (hT0:Tab w0):qh Tryz.prog w0 25 #[zp lb,.int .i64 (kind:Int),.int .i64 (entries:Int),.int .i64 (words:Int)] (HF++H) (fun v H'=>∃ HF',(match frM F.ms with | none=>qV lb T F HF'∧v=.tuple #[.int .i64 0,.int .i64 3] | some k=>qV lb T { F with ms:=F.ms.set k (some (Xm.new kind entries words,false)) } HF'∧v=.tuple #[.int .i64 (k:Int),.int .i64 0])∧H'=HF'++H):=by
 cases hF with
 | @mk tb wb g1 g2 rb db M HT HW H1 H2 HR HD HM hT hO hW h1 o1 h2 o2 hR hU hD hM =>
 have e0:((lb,.cells 134 15 (qu F.n M tb wb g1 g2 rb db))::(HT++(HW++(H1++(H2++(HR++(HD++HM.flatten)))))))++H=(lb,.cells 134 15 (qu F.n M tb wb g1 g2 rb db))::(HT++(HW++(H1++(H2++(HR++(HD++(HM.flatten++H))))))):=by simp only [List.cons_append,List.append_assoc]
 rw [e0]
 refine qc (l:=[zp lb,zi (kind:Int),zi (entries:Int),zi (words:Int)]) Tryz.func25 rfl Tryz.ntmps25 rfl rfl ?_
 refine za 7 rfl ?_
 refine W_x (qr rfl rfl KR) (fun _ h=>by cases h) rfl ?_
 refine za 7 rfl (qk (zc3 rfl rfl rfl) Tryz.call81 rfl (XmH.new hT0 hk1 hk2 hk3) ?_)
 rintro v H' ⟨mb,HX,hX,rfl,rfl⟩
 refine za 17 rfl ?_
 refine W_x (qcT (l:=0) (hh:=4) rfl qbY Xe rfl rfl zd zd zd) (fun _ h=>by cases h) rfl ?_
 refine qk (zc2 rfl rfl) Tryz.call82 rfl ((qjR (n:=F.n) (M:=M) (lb:=lb) (tb:=tb) (wb:=wb) (g1:=g1) (g2:=g2) (rb:=rb) (db:=db) zM hM.m4 (H:=HX++((lb,.cells 134 15 (qu F.n M tb wb g1 g2 rb db))::(HT++(HW++(H1++(H2++(HR++(HD++(HM.flatten++H))))))))))) ?_
 rintro v H' ⟨z,rfl,hz,rfl⟩
 rcases hz with ⟨i,c,rfl,hc,hcn,hcj⟩ | ⟨rfl,hcj⟩
 ·skip
  have hi4:i<4:=by have:=(List.getElem?_eq_some_iff.1 hc).1; rw [hM.m4] at this; exact this
  refine za 7 rfl (QA rfl (decide_eq_false zO) (za 5 rfl ?_))
  refine qX (l:=mcC (some mb,false)) Xe qoQ (.cons rfl rfl rfl rfl rfl .nil) rfl rfl rfl ?_
  refine za 2 rfl ?_
  refine Qe (j:=i) rfl rfl qbY Xe (by first | rfl | omega) (by first | decide | omega | simp) rfl rfl ?_
  refine ql (l':=qu F.n (M.set i (some mb,false)) tb wb g1 g2 rb db) rfl rfl Xe rfl rfl (b:=lb) zM (by rw [qdT,hM.m4]; omega) (qjK (c':=(some mb,false)) (by rw [hM.m4]; exact hi4)) zU ?_
  refine za 2 rfl ?_
  refine qO (H':=(lb,.cells 134 15 (qu F.n (M.set i (some mb,false)) tb wb g1 g2 rb db))::(HT++(HW++(H1++(H2++(HR++(HD++((HM.set i HX).flatten++H)))))))) ((show qC _ ((lb,.cells 134 15 (qu F.n (M.set i (some mb,false)) tb wb g1 g2 rb db))::(HT++(HW++(H1++(H2++(HR++(HD++(HX++(HM.flatten++H))))))))) from zH).trans (.cons (.here _) (.app (.here _) (.app (.here _) (.app (.here _) (.app (.here _) (.app (.here _) (.app (.here _) (qf4 (hM.nilAt hc hcn)))))))))) ?_
  refine za 4 rfl ?_
  refine qL (H2:=(lb,.cells 134 15 (qu F.n (M.set i (some mb,false)) tb wb g1 g2 rb db))::(HT++(HW++(H1++(H2++(HR++(HD++((HM.set i HX).flatten++H)))))))) Tryz.results25 rfl rfl (.nil _) zH ?_
  rw [hM.free hc hcn hcj]
  exact ⟨_,⟨.mk hT hO hW h1 o1 h2 o2 hR hU hD (hM.set (.some (hX.up hT8))),rfl⟩,by simp only [List.cons_append,List.append_assoc]⟩
 ·skip
  refine za 12 rfl ?_
  refine qL (H2:=(lb,.cells 134 15 (qu F.n M tb wb g1 g2 rb db))::(HT++(HW++(H1++(H2++(HR++(HD++(HM.flatten++H)))))))) Tryz.results25 rfl rfl (.nil _) zH ?_
  rw [hM.full hcj]
  exact ⟨_,⟨.mk hT hO hW h1 o1 h2 o2 hR hU hD hM,rfl⟩,by simp only [List.cons_append,List.append_assoc]⟩
end Go.Proofs.YtincjohoncljoaaGreatDoor
