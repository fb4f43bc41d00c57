/-
  Own work: a small logic for walking through a function's code: facts on slots, owned blocks of memory, and its rules; of any program.
-/
import Derived.Test.YtcggkokeggfdkaaGreatDoorKpS3
import Derived.Shelf.Strings.Fields
import Derived.Test.YtcggkokeggfdkaaGreatDoorKpS2
import Derived.Shelf.SlSortCmp.Whole1
import Derived.ChangeKeysEq
set_option linter.all false
set_option linter.unusedSimpArgs false
set_option linter.unusedVariables false
namespace Go.Sl.Ev
open Go.RowKit
section
variable {P:Program} {ρ ρ':Rho} {n:Nat} {E E':qp} {a:Act} {w w' w0:World} {s s':St} {v:AV} {rec_:Rq→St→Option (List (Rs × St))} {rd:Option Nat}
noncomputable def forceL {β:Type} (E:qp) (k:qp→β):β:=match E with
  | ⟨n,.u x⟩=>k ⟨n,.u x⟩
  | ⟨n,.n l r⟩=>k ⟨n,.n l r⟩
theorem Jj {β:Type} (E:qp) (k:qp→β):forceL E k=k E:=by rcases E with ⟨n,_ | _⟩ <;> rfl
noncomputable def forceS {β:Type} (s:St) (k:St→β):β:=match s with
  | ⟨nb,.u x⟩=>k ⟨nb,.u x⟩
  | ⟨nb,.n l r⟩=>k ⟨nb,.n l r⟩
theorem YG {β:Type} (s:St) (k:St→β):forceS s k=k s:=by rcases s with ⟨nb,_ | _⟩ <;> rfl
theorem JZ (E:qp) (d:Option Nat) (v:AV):(setE E d v).length=E.length:=by
  cases d <;> simp [setE,qp.set_n]
noncomputable def wantedA (all:Array Oper) (E:qp) (o:Oper):Option Bool:=match o.guard with
  | none=>some true
  | some (j,b)=>match all[j]? with
    | some oj=>match oj.dst with
      | some d=>match E.get d with
        | some (.vl (.bool c))=>some (c == b)
        | some (.vl (.tuple _))=>some false
        | some (.vl (.int _ _))=>some false
        | _=>none
      | none=>none
    | none=>none
theorem z8 {all:Array Oper} {o:Oper} {b:Bool} (h:wantedA all E o=some b) (ha:Ag ρ E.length E a):Region.wanted o (yielded all a.tmps)=b:=by
  unfold wantedA at h
  unfold Region.wanted
  split at h
  · rename_i hg; rw [hg]; cases h; rfl
  · rename_i j c hg
    rw [hg]
    split at h
    · rename_i oj hj
      split at h
      · rename_i d hd
        have key:∀ {x:Value},E.get d=some (.vl x)→a.tmps[d]?=some x:=fun {x} hx=>by
          have hv:a.tmps.getD d undef=x:=ha.val d _ hx
          have hlt:d<a.tmps.size:=by rw [ha.size]; exact (qp.get_lt hx).1
          rw [Array.getD_eq_getD_getElem?,Array.getElem?_eq_getElem hlt] at hv
          rw [Array.getElem?_eq_getElem hlt]; simpa using hv
        split at h
        · rename_i c' hx; cases h; simp [yielded,hj,hd,key hx]
        · rename_i l hx; cases h; simp [yielded,hj,hd,key hx]
        · rename_i q i hx; cases h; simp [yielded,hj,hd,key hx]
        · cases h
      · cases h
    · cases h
variable (P rec_) in
noncomputable def oDo (E:qp) (s:St):Op→Option (List (AV × St))
  | .call ⟨.value x,l,_⟩=>oCall rec_ E s x l.toList
  | op=>match oRead P E s op with
    | some v=>some [(v,s)]
    | none=>match oTurn P E s op with
      | some r=>some [r]
      | none=>none
theorem KS (hg:Xe P w0 rec_) (ha:Ag ρ n E a) (hs:qD w0 ρ s w) {R:List (AV × St)}:∀ {o:Oper},oDo P rec_ E s o.op=some R→Does P rd w0 ρ a w o R
  | ⟨d,op,ty,pos,aft,g⟩,h=>by
    simp only at h
    unfold oDo at h
    split at h
    · exact qdd hg ha hs h
    · split at h
      · rename_i v2 hv
        cases h
        refine qdc hs (XC ha hs hv) (fun c e=>?_)
        subst e; simp [oRead] at hv
      · split at h
        · rename_i r hr
          cases h
          obtain ⟨v2,s2⟩:=r
          refine qdb (qbg ha hs hr) (fun c e=>?_)
          subst e; simp [oTurn] at hr
        · cases h
variable (P rec_) in
noncomputable def opsS (all:Array Oper):List Oper→qp→St→Option (List (qp × St))
  | [],E,s=>some [(E,s)]
  | o::l,E,s=>match wantedA all E o with
    | some true=>match oDo P rec_ E s o.op with
      | some [(v,s')]=>forceL (setE E o.dst v) fun E=>forceS s' fun s=>opsS all l E s
      | some R=>bindL R fun r=>forceL (setE E o.dst r.1) fun E=>forceS r.2 fun s=>opsS all l E s
      | none=>none
    | some false=>opsS all l (setE E o.dst (.vl undef)) s
    | none=>none
theorem put_defers (a:Act) (d:Option Nat) (u:Value):(a.put d u).defers=a.defers:=by cases d <;> rfl
noncomputable def EndR (w0:World) (ρ:Rho) (dl:List Deferred) (L:List (qp × St)) (K:Act→World→Prop):Prop :=
  ∀ E' s',(E',s')∈L→∀ ρ' a' w',ρ <+: ρ'→Ag ρ' E'.length E' a'→a'.defers=dl→qD w0 ρ' s' w'→K a' w'
theorem EndR.mono {dl:List Deferred} {L:List (qp × St)} {K:Act→World→Prop} (hp:ρ <+: ρ') (h:EndR w0 ρ dl L K):EndR w0 ρ' dl L K :=
  fun E' s' hm ρ2 a' w' h1 h2 h3 h4=>h E' s' hm ρ2 a' w' (hp.trans h1) h2 h3 h4
theorem EndR.sub {dl:List Deferred} {L L':List (qp × St)} {K:Act→World→Prop} (hs:∀ y∈L',y∈L) (h:EndR w0 ρ dl L K):EndR w0 ρ dl L' K :=
  fun E' s' hm=>h E' s' (hs _ hm)
theorem Kw (hg:Xe P w0 rec_) {all:Array Oper} {Q:Exit→Act→World→Prop}:∀ {l:List Oper} {E:qp} {s:St} {L:List (qp × St)},opsS P rec_ all l E s=some L→∀ {ρ:Rho} {a:Act} {w:World},Ag ρ E.length E a→qD w0 ρ s w →
    EndR w0 ρ a.defers L (Q .normal)→wpListIn (fen rd) 0 P all Q l a w
  | [],E,s,L,h,ρ,a,w,ha,hs,hK=>by
    cases h
    exact hK E s List.mem_cons_self ρ a w ⟨[],by simp⟩ ha rfl hs
  | o::l,E,s,L,h,ρ,a,w,ha,hs,hK=>by
    have step:∀ {v2:AV} {s2:St} {L2:List (qp × St)} {ρ1:Rho} {u:Value} {w1:World},opsS P rec_ all l (setE E o.dst v2) s2=some L2→(∀ y∈L2,y∈L)→ρ <+: ρ1→AV.R ρ1 v2 u→qD w0 ρ1 s2 w1→wpListIn (fen rd) 0 P all Q l (a.put o.dst u) w1:=by
      intro v2 s2 L2 ρ1 u w1 h hL p1 p2 p3
      have ha1:Ag ρ1 (setE E o.dst v2).length (setE E o.dst v2) (a.put o.dst u):=by rw [JZ]; exact (ha.mono p1).put p2 o.dst
      refine Kw hg h ha1 p3 ?_
      rw [put_defers]
      exact (hK.sub hL).mono p1
    simp only [opsS] at h
    unfold wpListIn
    split at h
    · rename_i hw
      rw [if_pos (z8 hw ha)]
      split at h
      · rename_i v2 s2 hv
        rw [Jj,YG] at h
        exact KS hg ha hs hv _ Q fun v s' hm ρ1 u w1 p1 p2 p3=>by
          cases List.mem_singleton.1 hm
          exact step h (fun _ h=>h) p1 p2 p3
      · rename_i R _ hv
        exact KS hg ha hs hv _ Q fun v s' hm ρ1 u w1 p1 p2 p3=>by
          obtain ⟨L2,h1,h2⟩:=QS h _ hm
          rw [Jj,YG] at h1
          exact step h1 h2 p1 p2 p3
      · cases h
    · rename_i hw
      rw [if_neg (by rw [z8 hw ha]; simp)]
      exact ⟨fun _ _=>trivial,step (ρ1:=ρ) (v2:=.vl undef) h (fun _ h=>h) ⟨[],by simp⟩ (show AV.R ρ (.vl undef) undef from rfl) hs⟩
    · cases h
noncomputable def turnB:Op→Bool
  | .alloc _ | .box _ _ | .store _ _ _ | .buildSlice _ _ _ | .makeSlice _ _ _ | .makeMap _ _ | .mapUpdate _ _ _ _ | .lookup _ _ _ _=>true
  | .call ⟨.builtin .append,_,_⟩ | .call ⟨.builtin .copy,_,_⟩ | .call ⟨.value _,_,_⟩=>true
  | _=>false
abbrev Kc:=Nat × List (Nat × Nat × AV)
noncomputable def cellA (s:St) (b i:Nat):Option AV:=match s.cells b with
  | some l=>nth l i
  | none=>none
noncomputable def factsOf (s:St):List (Nat × Nat)→Option (List (Nat × Nat × AV))
  | []=>some []
  | (b,i)::l=>match cellA s b i with
    | some x=>match factsOf s l with
      | some r=>some ((b,i,x)::r)
      | none=>none
    | none=>none
noncomputable def sameAV:AV→AV→Bool
  | .vl (.int q i),.vl (.int q' j)=>decide (q=q') && decide (i=j)
  | .vl (.bool a),.vl (.bool b)=>a == b
  | .vl (.pointer none),.vl (.pointer none)=>true
  | .vl (.slice none n c),.vl (.slice none n' c')=>Nat.beq n n' && Nat.beq c c'
  | .vl .nilFunc,.vl .nilFunc=>true
  | .vl (.map none),.vl (.map none)=>true
  | .pt b i,.pt b' i'=>Nat.beq b b' && Nat.beq i i'
  | .sl b o n c,.sl b' o' n' c'=>Nat.beq b b' && (Nat.beq o o' && (Nat.beq n n' && Nat.beq c c'))
  | .sz b l o n,.sz b' l' o' n'=>Nat.beq b b' && (Nat.beq l l' && (Nat.beq o o' && Nat.beq n n'))
  | .mh b,.mh b'=>Nat.beq b b'
  | .yi b,.yi b'=>Nat.beq b b'
  | _,_=>false
theorem qag {x y:AV} {u u':Value} (h:sameAV x y=true) (hp:ρ <+: ρ') (hx:AV.R ρ x u) (hy:AV.R ρ' y u'):u=u':=by
  have up:∀ {b:Nat} {p q:Nat × Nat},ρ[b]?=some p→ρ'[b]?=some q→p=q:=fun h1 h2=>by
    have:=zQ hp h1
    rw [h2] at this; exact (Option.some.inj this).symm
  unfold sameAV at h
  split at h
  · simp at h; obtain ⟨rfl,rfl⟩:=h; cases hx; cases hy; rfl
  · simp at h; subst h; cases hx; cases hy; rfl
  · cases hx; cases hy; rfl
  · simp at h; obtain ⟨rfl,rfl⟩:=h; cases hx; cases hy; rfl
  · cases hx; cases hy; rfl
  · cases hx; cases hy; rfl
  · simp at h; obtain ⟨rfl,rfl⟩:=h
    obtain ⟨r,c,h1,rfl⟩:=hx; obtain ⟨r',c',h2,rfl⟩:=hy
    cases up h1 h2; rfl
  · simp at h; obtain ⟨rfl,rfl,rfl,rfl⟩:=h
    obtain ⟨r,c,h1,rfl⟩:=hx; obtain ⟨r',c',h2,rfl⟩:=hy
    cases up h1 h2; rfl
  · simp at h; obtain ⟨rfl,rfl,rfl,rfl⟩:=h
    obtain ⟨r,c,h1,rfl,_⟩:=hx; obtain ⟨r',c',h2,rfl,_⟩:=hy
    cases up h1 h2; rfl
  · simp at h; subst h
    obtain ⟨r,c,h1,rfl⟩:=hx; obtain ⟨r',c',h2,rfl⟩:=hy
    cases up h1 h2; rfl
  · simp at h; subst h
    obtain ⟨r,c,h1,rfl⟩:=hx; obtain ⟨r',c',h2,rfl⟩:=hy
    cases up h1 h2; rfl
  · cases h
noncomputable def holdsA (s:St):List (Nat × Nat × AV)→Bool
  | []=>true
  | (b,i,x)::l=>match cellA s b i with
    | some y=>sameAV x y && holdsA s l
    | none=>false
noncomputable def bindsO (o:Oper) (k:Nat):Bool:=o.after.toList.any fun e=>Nat.beq e.on k && Region.binds .any e
theorem JL {o:Oper} {k:Nat}:bindsO o k=true↔∃ e∈o.after,Region.binds .any e=true∧e.on=k:=by
  unfold bindsO
  rw [List.any_eq_true]
  constructor
  · rintro ⟨e,h1,h2⟩
    obtain ⟨h3,h4⟩:=(Bool.and_eq_true _ _).mp h2
    exact ⟨e,by simpa using h1,h4,by simpa using h3⟩
  · rintro ⟨e,h1,h2,rfl⟩
    exact ⟨e,by simpa using h1,(Bool.and_eq_true _ _).mpr ⟨by simp,h2⟩⟩
noncomputable def boundGo (l:Array Bool) (k:Nat):List Oper→Nat→Bool
  | [],_=>false
  | o::r,j=>(turnB o.op && (bindsO o k && l.getD j false)) || boundGo l k r (j+1)
theorem Y8 {l:Array Bool} {k:Nat}:∀ {r:List Oper} {j0:Nat},boundGo l k r j0=true↔∃ j o,r[j]?=some o∧turnB o.op=true∧bindsO o k=true∧l.getD (j0+j) false=true
  | [],j0=>by simp [boundGo]
  | o::r,j0=>by
    unfold boundGo
    rw [Bool.or_eq_true,Bool.and_eq_true,Bool.and_eq_true,Y8]
    constructor
    · rintro (⟨h1,h2,h3⟩ | ⟨j,o',h1,h2,h3,h4⟩)
      · exact ⟨0,o,rfl,h1,h2,h3⟩
      · exact ⟨j+1,o',by simpa using h1,h2,h3,by rw [show j0+(j+1)=j0+1+j by omega]; exact h4⟩
    · rintro ⟨j,o',h1,h2,h3,h4⟩
      cases j with
      | zero=>simp at h1; subst h1; exact .inl ⟨h2,h3,h4⟩
      | succ j=>exact .inr ⟨j,o',by simpa using h1,h2,h3,by rw [show j0+1+j=j0+(j+1) by omega]; exact h4⟩
noncomputable def boundB (ops:Array Oper) (l:Array Bool) (k:Nat):Bool:=boundGo l k ops.toList 0
theorem JK {ops:Array Oper} {l:Array Bool} {k:Nat}:boundB ops l k=true↔∃ j o,ops[j]?=some o∧turnB o.op=true∧bindsO o k=true∧l.getD j false=true:=by
  unfold boundB
  rw [Y8]
  simp
noncomputable def dstsOf:Nat→List Oper→List (Nat × Nat)
  | _,[]=>[]
  | i,o::l=>match o.dst with
    | some d=>(i,d)::dstsOf (i+1) l
    | none=>dstsOf (i+1) l
noncomputable def nodupD:List (Nat × Nat)→Bool
  | []=>true
  | (_,d)::l=>l.all (fun x=>!(Nat.beq d x.2)) && nodupD l
noncomputable def looksOk (ops:Array Oper) (D:List (Nat × Nat)) (j:Nat) (oj:Oper):Bool :=
  (oj.looksAt ops).all fun t=>D.all fun x=>!(Nat.beq x.2 t) || (Nat.beq x.1 j || (bindsO oj x.1 || (match ops[x.1]? with
    | some oi=>bindsO oi j
    | none=>true)))
noncomputable def looksGo (ops:Array Oper) (D:List (Nat × Nat)):Nat→List Oper→Bool
  | _,[]=>true
  | j,o::l=>looksOk ops D j o && looksGo ops D (j+1) l
noncomputable def statF (ops:Array Oper):Bool:=nodupD (dstsOf 0 ops.toList) && looksGo ops (dstsOf 0 ops.toList) 0 ops.toList
theorem Zv:∀ {l:List Oper} {i0 i:Nat} {o:Oper} {d:Nat},l[i]?=some o→o.dst=some d→(i0+i,d)∈dstsOf i0 l
  | o'::l,i0,0,o,d,h,hd=>by simp at h; subst h; simp [dstsOf,hd]
  | o'::l,i0,i+1,o,d,h,hd=>by
    have:=Zv (l:=l) (i0:=i0+1) (i:=i) (by simpa using h) hd
    rw [show i0+1+i=i0+(i+1) by omega] at this
    unfold dstsOf
    split
    · exact List.mem_cons_of_mem _ this
    · exact this
  | [],_,_,_,_,h,_=>by simp at h
theorem Y0:∀ {D:List (Nat × Nat)},nodupD D=true→∀ {i j d:Nat},(i,d)∈D→(j,d)∈D→(i,d)=(j,d)
  | x::D,h,i,j,d,hi,hj=>by
    unfold nodupD at h
    obtain ⟨h1,h2⟩:=(Bool.and_eq_true _ _).mp h
    have no:∀ {k:Nat},(k,x.2)∈D→False:=fun {k} hk=>by
      have:=List.all_eq_true.1 h1 _ hk
      simp at this
    rcases List.mem_cons.1 hi with rfl | hi' <;> rcases List.mem_cons.1 hj with e | hj'
    · exact e.symm
    · exact (no hj').elim
    · subst e; exact (no hi').elim
    · exact Y0 h2 hi' hj'
  | [],_,_,_,_,hi,_=>by cases hi
theorem J8 {ops:Array Oper} {D:List (Nat × Nat)}:∀ {l:List Oper} {j0 j:Nat} {o:Oper},looksGo ops D j0 l=true→l[j]?=some o→looksOk ops D (j0+j) o=true
  | o'::l,j0,0,o,h,ho=>by
    simp at ho; subst ho
    exact ((Bool.and_eq_true _ _).mp h).1
  | o'::l,j0,j+1,o,h,ho=>by
    have:=J8 (l:=l) (j0:=j0+1) (j:=j) ((Bool.and_eq_true _ _).mp h).2 (by simpa using ho)
    rwa [show j0+1+j=j0+(j+1) by omega] at this
  | [],_,_,_,_,ho=>by simp at ho
theorem qa0 {ops:Array Oper} (h:statF ops=true) {i j:Nat} {oi oj:Oper} (hi:ops[i]?=some oi) (hj:ops[j]?=some oj) (hne:j≠i):bindsO oj i=true∨bindsO oi j=true∨oi.apart ops oj=true:=by
  obtain ⟨h1,h2⟩:=(Bool.and_eq_true _ _).mp h
  have hi':ops.toList[i]?=some oi:=by simpa using hi
  have hj':ops.toList[j]?=some oj:=by simpa using hj
  have L:∀ {i j:Nat} {oi oj:Oper} {d:Nat},ops.toList[i]?=some oi→ops.toList[j]?=some oj→j≠i→oi.dst=some d→d∈oj.looksAt ops→bindsO oj i=true∨bindsO oi j=true:=by
    intro i j oi oj d hi hj hne hd hl
    have m1:=Zv (i0:=0) hi hd
    have k1:=J8 h2 hj
    rw [Nat.zero_add] at m1 k1
    have k2:=List.all_eq_true.1 (List.all_eq_true.1 k1 d hl) _ m1
    have hoi:ops[i]?=some oi:=by simpa using hi
    simp only [Nat.beq_refl,Bool.not_true,Bool.false_or,zz (show ¬ i=j from fun e=>hne e.symm),hoi] at k2
    simpa using k2
  by_cases b1:bindsO oj i=true
  · exact .inl b1
  · by_cases b2:bindsO oi j=true
    · exact .inr (.inl b2)
    · refine .inr (.inr ?_)
      unfold Oper.apart
      have n1:∀ d,oi.dst=some d→d ∉ oj.looksAt ops:=fun d hd hl=>by
        rcases L hi' hj' hne hd hl with h | h
        · exact b1 h
        · exact b2 h
      have n2:∀ d,oj.dst=some d→d ∉ oi.looksAt ops:=fun d hd hl=>by
        rcases L hj' hi' (Ne.symm hne) hd hl with h | h
        · exact b2 h
        · exact b1 h
      have n3:∀ d,oi.dst=some d→oj.dst≠some d:=fun d hd hd'=>by
        have m1:=Zv (i0:=0) hi' hd
        have m2:=Zv (i0:=0) hj' hd'
        rw [Nat.zero_add] at m1 m2
        have:=Y0 h1 m1 m2
        exact hne (by cases this; rfl)
      rw [Bool.and_eq_true]
      constructor
      · split
        · rename_i d hd
          rw [Bool.and_eq_true]
          exact ⟨by simpa using n1 d hd,by simpa using n3 d hd⟩
        · rfl
      · split
        · rename_i d hd; simpa using n2 d hd
        · rfl
noncomputable def keepF (ops:Array Oper) (l:Array Bool) (s:St):List Kc→Option (List Kc)
  | []=>some []
  | (k,cs)::F=>bif boundB ops l k then keepF ops l s F else bif holdsA s cs then (match keepF ops l s F with
    | some r=>some ((k,cs)::r)
    | none=>none) else none
noncomputable def mkF:Nat→List (Nat × Nat × AV)→List Kc
  | _,[]=>[]
  | i,x::cs=>[(i,x::cs)]
variable (P) in
noncomputable def takeR (ops:Array Oper) (l:Array Bool) (E:qp) (s:St):List Nat→Option (Nat × qp × List Kc)
  | []=>none
  | i::r=>match ops[i]? with
    | some o=>bif turnB o.op then takeR ops l E s r else (match wantedA ops E o with
      | some true=>match oRead P E s o.op with
        | some v=>match factsOf s (fRead P E o.op) with
          | some cs=>some (i,setE E o.dst v,mkF i cs)
          | none=>takeR ops l E s r
        | none=>takeR ops l E s r
      | some false=>some (i,setE E o.dst (.vl undef),[])
      | none=>takeR ops l E s r)
    | none=>none
variable (P rec_) in
noncomputable def evAny (ops:Array Oper):Nat→Array Bool→qp→St→List Kc→Option (List (qp × St))
  | 0,l,E,s,_=>match Region.ready .any ops l with
    | []=>some [(E,s)]
    | _=>none
  | f+1,l,E,s,F=>match Region.ready .any ops l with
    | []=>some [(E,s)]
    | i0::r0=>match takeR P ops l E s (i0::r0) with
      | some (i,E',F')=>forceL E' fun E=>evAny ops f (l.setIfInBounds i true) E s (F'++F)
      | none=>bindL (i0::r0) fun i=>match ops[i]? with
        | some o=>match wantedA ops E o with
          | some true=>match oDo P rec_ E s o.op with
            | some R=>bindL R fun r=>match keepF ops (l.setIfInBounds i true) r.2 F with
              | some F'=>forceL (setE E o.dst r.1) fun E=>forceS r.2 fun s=>evAny ops f (l.setIfInBounds i true) E s F'
              | none=>none
            | none=>none
          | some false=>match keepF ops (l.setIfInBounds i true) s F with
            | some F'=>evAny ops f (l.setIfInBounds i true) (setE E o.dst (.vl undef)) s F'
            | none=>none
          | none=>none
        | none=>none
noncomputable def Cls (ops:Array Oper) (FC:List (Nat × (World→Prop))) (l:Array Bool) (w:World):Prop:=∀ p∈FC,boundB ops l p.1=true∨p.2 w
noncomputable def places (cs:List (Nat × Nat × AV)):List (Nat × Nat):=cs.map fun x=>(x.1,x.2.1)
noncomputable def FRel (ρ:Rho):List Kc→List (Nat × (World→Prop))→Prop
  | [],[]=>True
  | (k,cs)::F,(k',p)::FC=>k=k'∧(∃ ρk wk,ρk <+: ρ∧p=Same ρk (places cs) wk∧∀ x∈cs,∃ r c u,ρk[x.1]?=some (r,c)∧wk.cell? ⟨r,x.2.1,none⟩=some u∧AV.R ρk x.2.2 u)∧FRel ρ F FC
  | _,_=>False
theorem FRel.mono (h:ρ <+: ρ'):∀ {F:List Kc} {FC:List (Nat × (World→Prop))},FRel ρ F FC→FRel ρ' F FC
  | [],[],_=>trivial
  | (_,_)::_,(_,_)::_,⟨h1,⟨ρk,wk,h2,h3⟩,h4⟩=>⟨h1,⟨ρk,wk,h2.trans h,h3⟩,FRel.mono h h4⟩
  | [],_::_,hr=>by simp [FRel] at hr
  | _::_,[],hr=>by simp [FRel] at hr
theorem qD.cellA (hs:qD w0 ρ s w) {b i:Nat} {x:AV} (h:cellA s b i=some x) {r c:Nat} (hr:ρ[b]?=some (r,c)):∃ u,w.cell? ⟨r,i,none⟩=some u∧AV.R ρ x u:=by
  unfold Ev.cellA at h
  split at h
  · rename_i l hl
    rw [Zf] at h
    have hlt:=(List.getElem?_eq_some_iff.1 h).1
    have hrd:s.read b i 1=some ((l.drop i).take 1):=by
      unfold St.read
      rw [hl]
      simp only
      rw [Q6,ZX,Jc,show Nat.beq ((l.drop i).take 1).length 1=true by simp; omega]
      rfl
    obtain ⟨l',h1,h2,h3⟩:=hs.read hr hrd
    have h4:((l.drop i).take 1)[0]?=some x:=by simpa using h
    obtain ⟨u,h5,h6⟩:=h1.at h4
    exact ⟨u,by simpa using h3 0 u h5,h6⟩
  · cases h
theorem Y5 (hs:qD w0 ρ' s' w') (hp:ρ <+: ρ') {wk:World}:∀ {cs:List (Nat × Nat × AV)},holdsA s' cs=true→(∀ x∈cs,∃ r c u,ρ[x.1]?=some (r,c)∧wk.cell? ⟨r,x.2.1,none⟩=some u∧AV.R ρ x.2.2 u)→Same ρ (places cs) wk w'
  | [],_,_=>fun x hx=>by cases hx
  | (b,i,x)::cs,h,hc=>by
    simp only [holdsA] at h
    split at h
    · rename_i y hy
      obtain ⟨h1,h2⟩:=(Bool.and_eq_true _ _).mp h
      intro p hp'
      rcases List.mem_cons.1 hp' with rfl | hp'
      · intro r c hr
        obtain ⟨r1,c1,u,e1,e2,e3⟩:=hc _ List.mem_cons_self
        simp only at e1 e2 e3 hr ⊢
        rw [hr] at e1; cases e1
        obtain ⟨u',e4,e5⟩:=hs.cellA hy (zQ hp hr)
        rw [e2,e4,qag h1 hp e3 e5]
      · exact Y5 hs hp h2 (fun x hx=>hc x (List.mem_cons_of_mem _ hx)) p hp'
    · cases h
theorem qaG {ops:Array Oper} {l l2:Array Bool} {k:Nat} (h:Above l l2) (hb:boundB ops l k=true):boundB ops l2 k=true:=by
  rw [JK] at hb ⊢
  obtain ⟨j,o,h1,h2,h3,h4⟩:=hb
  exact ⟨j,o,h1,h2,h3,h j h4⟩
theorem Zy {ops:Array Oper} {l:Array Bool} (hs:qD w0 ρ' s' w') (hp:ρ <+: ρ'):∀ {F F':List Kc} {FC:List (Nat × (World→Prop))},keepF ops l s' F=some F'→FRel ρ F FC →
    ∃ FC',FRel ρ' F' FC'∧(∀ p∈FC',p.2 w')∧∀ l2 w2,Above l l2→Cls ops FC' l2 w2→Cls ops FC l2 w2
  | [],F',[],h,_=>by cases h; exact ⟨[],trivial,fun p hp=>(by cases hp),fun _ _ _ h=>h⟩
  | [],_,_::_,_,hr=>by simp [FRel] at hr
  | _::_,_,[],_,hr=>by simp [FRel] at hr
  | (k,cs)::F,F',(k',p)::FC,h,hr=>by
    obtain ⟨rfl,⟨ρk,wk,g1,g2,g3⟩,g4⟩:=hr
    simp only [keepF] at h
    cases hb:boundB ops l k with
    | true =>
      rw [hb] at h
      obtain ⟨FC',e1,e2,e3⟩:=Zy hs hp h g4
      exact ⟨FC',e1,e2,fun l2 w2 h1 h2 q hq=>by
        rcases List.mem_cons.1 hq with rfl | hq
        · exact .inl (qaG h1 hb)
        · exact e3 l2 w2 h1 h2 q hq⟩
    | false =>
      rw [hb] at h
      simp only [cond_false] at h
      cases hh:holdsA s' cs with
      | false=>rw [hh] at h; cases h
      | true =>
        rw [hh] at h
        simp only [cond_true] at h
        split at h
        · rename_i F2 hF2
          cases h
          obtain ⟨FC',e1,e2,e3⟩:=Zy hs hp hF2 g4
          refine ⟨(k,p)::FC',⟨rfl,⟨ρk,wk,g1.trans hp,g2,g3⟩,e1⟩,fun q hq=>?_,fun l2 w2 h1 h2 q hq=>?_⟩
          · rcases List.mem_cons.1 hq with rfl | hq
            · show p w'
              rw [g2]; exact Y5 hs (g1.trans hp) hh g3
            · exact e2 q hq
          · rcases List.mem_cons.1 hq with rfl | hq
            · exact h2 _ List.mem_cons_self
            · exact e3 l2 w2 h1 (fun q hq=>h2 q (List.mem_cons_of_mem _ hq)) q hq
        · cases h
end
end Go.Sl.Ev
namespace Go.Sl.Ev
open Go.RowKit
section
variable {P:Program} {ρ ρ':Rho} {n:Nat} {E E':qp} {a:Act} {w w' w0:World} {s s':St} {v:AV} {rec_:Rq→St→Option (List (Rs × St))} {rd:Option Nat} {ops:Array Oper}
noncomputable def QN (Q:Exit→Act→World→Prop):Exit→Act→World→Prop
  | .normal,a,w=>Q .normal a w
  | _,_,_=>False
theorem QN_of {Q:Exit→Act→World→Prop} {e:Exit} {a:Act} {w:World} (h:QN Q e a w):Q e a w:=by cases e <;> first | exact h | exact h.elim
noncomputable def Closed (ops:Array Oper) (l:Array Bool):Prop:=∀ j oj,ops[j]?=some oj→l.getD j false=true→∀ e∈oj.after,Region.binds .any e=true→l.getD e.on false=true
theorem Closed.add {l:Array Bool} {i:Nat} (h:Closed ops l) (hr:i∈Region.ready .any ops l):Closed ops (l.setIfInBounds i true):=fun j oj hj hl e he hb=>by
  rcases Zi hl with rfl | hl
  · obtain ⟨_,oi,hoi,hall⟩:=mem_ready.1 hr
    rw [hoi] at hj; cases hj
    exact YM l j _ (hall e he hb)
  · exact YM l i _ (h j oj hj hl e he hb)
theorem Closed.nb {l:Array Bool} {i:Nat} (h:Closed ops l) (hr:i∈Region.ready .any ops l):NB ops l i:=fun j oj hj hl e he hb heq=>by
  have h1:=h j oj hj hl e he hb
  have h0:=(mem_ready.1 hr).1
  rw [heq] at h1
  rcases Nat.lt_or_ge i l.size with h' | h'
  · simp [h'] at h0 h1; rw [h0] at h1; cases h1
  · simp [Array.getElem?_eq_none h'] at h1
theorem Yn (hs:qD w0 ρ s w):∀ {L:List (Nat × Nat)} {cs:List (Nat × Nat × AV)},factsOf s L=some cs→(∀ x∈L,∃ r c,ρ[x.1]?=some (r,c))→places cs=L∧∀ x∈cs,∃ r c u,ρ[x.1]?=some (r,c)∧w.cell? ⟨r,x.2.1,none⟩=some u∧AV.R ρ x.2.2 u
  | [],cs,h,_=>by cases h; exact ⟨rfl,fun x hx=>(by cases hx)⟩
  | (b,i)::L,cs,h,hL=>by
    simp only [factsOf] at h
    split at h
    · rename_i x hx
      split at h
      · rename_i r hr
        cases h
        obtain ⟨h1,h2⟩:=Yn hs hr (fun y hy=>hL y (List.mem_cons_of_mem _ hy))
        refine ⟨by simp [places] at h1 ⊢; exact h1,fun y hy=>?_⟩
        rcases List.mem_cons.1 hy with rfl | hy
        · obtain ⟨r,c,hrc⟩:=hL _ List.mem_cons_self
          obtain ⟨u,h3,h4⟩:=hs.cellA hx hrc
          exact ⟨r,c,u,hrc,h3,h4⟩
        · exact h2 y hy
      · cases h
    · cases h
theorem KF {b:Nat} {x:Nat × Nat}:∀ {k i:Nat},x∈cellsAt b i k→x.1=b
  | 0,_,hx=>by cases hx
  | k+1,i,hx=>by
    rcases List.mem_cons.1 hx with rfl | hx
    · rfl
    · exact KF hx
theorem qaC (ha:Ag ρ n E a) {op:Op}:∀ x∈fRead P E op,∃ r c,ρ[x.1]?=some (r,c):=by
  intro x hx
  unfold fRead at hx
  split at hx
  · unfold fLoad at hx
    split at hx
    · rename_i b i hb
      split at hx
      · rename_i k fl hk
        obtain ⟨r,c,h1,_⟩:=ha.opr hb
        exact ⟨r,c,by rw [KF hx]; exact h1⟩
      · cases hx
    · cases hx
  · cases hx
theorem Xs (hs:qD w0 ρ s w) (ha:Ag ρ E.length E a) {l:Array Bool}:∀ {r:List Nat} {i:Nat} {F':List Kc},takeR P ops l E s r=some (i,E',F') →
    ∃ o x u D,i∈r∧ops[i]?=some o∧turnB o.op=false∧E'=setE E o.dst x∧AV.R ρ x u∧QV P ops D o u a∧D w∧∃ FC,FRel ρ F' FC∧(∀ p∈FC,p=(i,D))∧((∀ w,D w)∨FC=[(i,D)])
  | [],_,_,h=>by cases h
  | j::r,i,F',h=>by
    have up:takeR P ops l E s r=some (i,E',F')→∃ o x u D,i∈j::r∧ops[i]?=some o∧turnB o.op=false∧E'=setE E o.dst x∧AV.R ρ x u∧QV P ops D o u a∧D w∧∃ FC,FRel ρ F' FC∧(∀ p∈FC,p=(i,D))∧((∀ w,D w)∨FC=[(i,D)]):=fun h=>by
      obtain ⟨o,x,u,D,h1,h2⟩:=Xs hs ha h
      exact ⟨o,x,u,D,List.mem_cons_of_mem _ h1,h2⟩
    simp only [takeR] at h
    split at h
    · rename_i o ho
      cases ht:turnB o.op with
      | true=>rw [ht] at h; exact up h
      | false =>
        rw [ht] at h
        simp only [cond_false] at h
        · skip
          split at h
          · rename_i hw
            split at h
            · rename_i x hx
              split at h
              · rename_i cs hcs
                cases h
                obtain ⟨u,hu,hr⟩:=XC ha hs hx
                obtain ⟨h1,h2⟩:=Yn hs hcs (qaC ha)
                have hw':=z8 hw ha
                have noab:∀ w',o.about P w' a.eval=none:=fun w'=>zv (by
                  cases hop:o.op <;> first | rfl | skip
                  rename_i c
                  obtain ⟨c,args,tys⟩:=c
                  rw [hop] at ht
                  cases c with
                  | builtin b=>rfl
                  | value x=>simp [turnB] at ht
                  | _=>rw [hop] at hx; simp [oRead] at hx) w' _
                refine ⟨o,x,u,Same ρ (fRead P E o.op) w,List.mem_cons_self,ho,ht,rfl,hu,.inl ⟨hw',fun w' hw'=>?_,fun w' _=>noab w'⟩,fun _ _ _ _ _=>rfl,?_⟩
                · exact hr o.dst o.type o.pos o.after o.guard w' hw'
                · cases cs with
                  | nil =>
                    have:fRead P E o.op=[]:=by rw [← h1]; rfl
                    exact ⟨[],trivial,fun p hp=>(by cases hp),.inl fun w' p hp=>by rw [this] at hp; cases hp⟩
                  | cons y ys =>
                    exact ⟨[(j,Same ρ (fRead P E o.op) w)],⟨rfl,⟨ρ,w,⟨[],by simp⟩,by rw [h1],h2⟩,trivial⟩,fun p hp=>by simpa using hp,.inr rfl⟩
              · exact up h
            · exact up h
          · rename_i hw
            cases h
            exact ⟨o,.vl undef,undef,fun _=>True,List.mem_cons_self,ho,ht,rfl,rfl,.inr ⟨z8 hw ha,rfl⟩,trivial,[],trivial,fun p hp=>(by cases hp),.inl fun _=>trivial⟩
          · exact up h
    · cases h
theorem FRel.app:∀ {F F2:List Kc} {FC FC2:List (Nat × (World→Prop))},FRel ρ F FC→FRel ρ F2 FC2→FRel ρ (F++F2) (FC++FC2)
  | [],_,[],_,_,h=>h
  | (_,_)::_,_,(_,_)::_,_,⟨h1,h2,h3⟩,h=>⟨h1,h2,FRel.app h3 h⟩
  | [],_,_::_,_,hr,_=>by simp [FRel] at hr
  | _::_,_,[],_,hr,_=>by simp [FRel] at hr
theorem Y9 {l:Array Bool} {i k:Nat} {o:Oper} (hi:ops[i]?=some o) (ht:turnB o.op=false) (h:boundB ops (l.setIfInBounds i true) k=true):boundB ops l k=true:=by
  rw [JK] at h ⊢
  obtain ⟨j,o',h1,h2,h3,h4⟩:=h
  refine ⟨j,o',h1,h2,h3,?_⟩
  rcases Zi h4 with rfl | h4
  · rw [hi] at h1; cases h1; rw [ht] at h2; cases h2
  · exact h4
theorem qdh {l:Array Bool} {i:Nat} (hnb:NB ops l i) (h:boundB ops l i=true):False:=by
  rw [JK] at h
  obtain ⟨j,o,h1,h2,h3,h4⟩:=h
  obtain ⟨e,he,b1,b2⟩:=JL.1 h3
  exact hnb j o h1 h4 e he b1 b2
theorem qf9 (hst:statF ops=true) {l:Array Bool} {i:Nat} {oi:Oper} (hi:ops[i]?=some oi) (hr:i∈Region.ready .any ops l) (j:Nat) (oj:Oper) (hj:ops[j]?=some oj) (hne:j≠i) (hun:l.getD j true=false) (hno:∀ e∈oj.after,Region.binds .any e=true→e.on≠i):oi.apart ops oj=true:=by
  rcases qa0 hst hi hj hne with h | h | h
  · obtain ⟨e,he,b1,b2⟩:=JL.1 h
    exact absurd b2 (hno e he b1)
  · obtain ⟨e,he,b1,b2⟩:=JL.1 h
    obtain ⟨_,oi',hoi,hall⟩:=mem_ready.1 hr
    rw [hi] at hoi; cases hoi
    have h1:=hall e he b1
    rw [b2] at h1
    rcases Nat.lt_or_ge j l.size with h' | h'
    · simp [h'] at hun h1; rw [hun] at h1; cases h1
    · simp [Array.getElem?_eq_none h'] at h1
  · exact h
theorem ZD (hst:statF ops=true) (hsel:Region.noSelect ops=true) (hnd:Rd.noDefer ops=true) (hg:Xe P w0 rec_) {Q:Exit→Act→World→Prop}:∀ {f:Nat} {l:Array Bool} {E:qp} {s:St} {F:List Kc} {L:List (qp × St)},evAny P rec_ ops f l E s F=some L →
    ∀ {ρ:Rho} {a:Act} {w:World} {FC:List (Nat × (World→Prop))},Ag ρ E.length E a→qD w0 ρ s w→FRel ρ F FC→(∀ p∈FC,p.2 w)→Closed ops l →
    EndR w0 ρ a.defers L (Q .normal)→anyF rd P ops (Cls ops FC) (QN Q) f l a w
  | 0,l,E,s,F,L,h,ρ,a,w,FC,ha,hs,hF,hFC,hcl,hK=>by
    simp only [evAny] at h
    split at h
    · rename_i hr
      cases h
      exact ⟨fun p hp=>.inr (hFC p hp),hr,hK E s List.mem_cons_self ρ a w ⟨[],by simp⟩ ha rfl hs⟩
    · cases h
  | f+1,l,E,s,F,L,h,ρ,a,w,FC,ha,hs,hF,hFC,hcl,hK=>by
    simp only [evAny] at h
    have hC:Cls ops FC l w:=fun p hp=>.inr (hFC p hp)
    split at h
    · rename_i hr
      cases h
      exact ⟨hC,fun _=>hK E s List.mem_cons_self ρ a w ⟨[],by simp⟩ ha rfl hs,by rw [hr]; simp⟩
    · rename_i i0 r0 hr
      split at h
      · rename_i i E1 F1 ht
        rw [Jj] at h
        obtain ⟨o,x,u,D,h1,h2,h3,rfl,h6,h7,h8,FC1,g1,g2,g3⟩:=Xs hs ha ht
        rw [← hr] at h1
        have ha1:Ag ρ (setE E o.dst x).length (setE E o.dst x) (a.put o.dst u):=by rw [JZ]; exact ha.put h6 o.dst
        have H:=ZD hst hsel hnd hg h ha1 hs (g1.app hF) (fun p hp=>by
          rcases List.mem_append.1 hp with hp | hp
          · rw [g2 p hp]; exact h8
          · exact hFC p hp) (hcl.add h1) (by rw [put_defers]; exact hK)
        refine qbF (D:=D) h2 (Region.noSelect_spec hsel) (Rd.noDefer_spec hnd) (fun _ _ _ hq=>hq.elim) (fun l2 w2 hc p hp=>hc p (List.mem_append_right _ hp)) (fun l2 w2 hnb hun hc=>⟨?_,fun p hp=>?_⟩) f l a w (qf9 hst h2 h1) (hcl.nb h1) h1 h7 H
        · rcases g3 with g3 | g3
          · exact g3 w2
          · rcases hc (i,D) (by rw [g3]; simp) with hb | hb
            · exact (qdh hnb (Y9 h2 h3 hb)).elim
            · exact hb
        · rcases hc p (List.mem_append_right _ hp) with hb | hb
          · exact .inl (Y9 h2 h3 hb)
          · exact .inr hb
      · refine ⟨hC,fun h0=>(by rw [h0] at hr; cases hr),fun j hj=>?_⟩
        have hj':=hj
        rw [hr] at hj
        obtain ⟨L1,h1,hL1⟩:=QS h j hj
        split at h1
        · rename_i o ho
          unfold wpOpIn
          rw [ho]
          show if _ then _ else _
          split at h1
          · rename_i hw
            rw [if_pos (z8 hw ha)]
            split at h1
            · rename_i R hv
              refine KS hg ha hs hv _ _ fun v2 s2 hm ρ1 u w1 p1 p2 p3=>?_
              obtain ⟨L2,h2,hL2⟩:=QS h1 _ hm
              split at h2
              · rename_i F2 hF2
                rw [Jj,YG] at h2
                have ha1:Ag ρ1 (setE E o.dst v2).length (setE E o.dst v2) (a.put o.dst u):=by rw [JZ]; exact (ha.mono p1).put p2 o.dst
                obtain ⟨FC',e1,e2,e3⟩:=Zy p3 p1 hF2 hF
                exact anyF.mono e3 (fun _ h=>h) (ZD hst hsel hnd hg h2 ha1 p3 e1 e2 (hcl.add hj') (by rw [put_defers]; exact (hK.sub fun y hy=>hL1 y (hL2 y hy)).mono p1))
              · cases h2
            · cases h1
          · rename_i hw
            rw [if_neg (by rw [z8 hw ha]; simp)]
            refine ⟨fun _ _=>trivial,?_⟩
            split at h1
            · rename_i F2 hF2
              have ha1:Ag ρ (setE E o.dst (.vl undef)).length (setE E o.dst (.vl undef)) (a.put o.dst undef):=by rw [JZ]; exact ha.put (v:=.vl undef) (show AV.R ρ (.vl undef) undef from rfl) o.dst
              obtain ⟨FC',e1,e2,e3⟩:=Zy hs ⟨[],by simp⟩ hF2 hF
              exact anyF.mono e3 (fun _ h=>h) (ZD hst hsel hnd hg h1 ha1 hs e1 e2 (hcl.add hj') (by rw [put_defers]; exact hK.sub hL1))
            · cases h1
          · cases h1
        · cases h1
variable (P rec_) in
noncomputable def evRegion (ops:Array Oper) (dr:Bool) (E:qp) (s:St):Option (List (qp × St)) :=
  bif dr then (bif statF ops && (Region.noSelect ops && Rd.noDefer ops) then evAny P rec_ ops ops.size (Array.replicate ops.size false) E s [] else none)
  else opsS P rec_ ops ops.toList E s
theorem Jw (hm:P.follows .mixedOrders=true) (hg:Xe P w0 rec_) {id:Nat} {dr:Bool} {Q:Exit→Act→World→Prop} {L:List (qp × St)} (h:evRegion P rec_ ops dr E s=some L) (ha:Ag ρ E.length E a) (hs:qD w0 ρ s w)
    (hK:EndR w0 ρ a.defers L (Q .normal)):(Code.region id ops dr).wpIn (fen rd) 0 P Q a w:=by
  unfold evRegion at h
  cases dr with
  | false=>exact wpIn_region_list (Kw hg h ha hs hK)
  | true =>
    simp only [cond_true] at h
    cases hb:(statF ops && (Region.noSelect ops && Rd.noDefer ops)) with
    | false=>rw [hb] at h; cases h
    | true =>
      rw [hb] at h
      obtain ⟨h0,hb⟩:=(Bool.and_eq_true _ _).mp hb
      obtain ⟨h1,h2⟩:=(Bool.and_eq_true _ _).mp hb
      refine wpIn_mono (wpIn_region_any hm ?_) fun _ _ _=>QN_of
      refine anyF.any (C:=Cls ops []) (ZD (FC:=[]) h0 h1 h2 hg h ha hs.drew trivial (fun p hp=>(by cases hp)) (fun j oj hj hl=>?_) hK)
      rcases Nat.lt_or_ge j ops.size with h' | h'
      · simp [Array.getD_eq_getD_getElem?,h'] at hl
      · simp [Array.getD_eq_getD_getElem?,h'] at hl
end
end Go.Sl.Ev
namespace Go.Sl.Ev
open Go.RowKit
section
variable {P:Program} {ρ ρ':Rho} {n:Nat} {E E':qp} {a:Act} {w w' w0:World} {s s':St} {v:AV} {rec_:Rq→St→Option (List (Rs × St))} {rd:Option Nat} {ops:Array Oper}
noncomputable def resV (P:Program) (E:qp) (s:St):ResultVar→Option AV
  | .tmp t=>E.get t
  | .cell t ty=>match E.get t with
    | some (.pt b i)=>match loadN P ty with
      | some (k,fl)=>match s.read b i k with
        | some l=>bif fl then nth l 0 else some (.ag l)
        | none=>none
      | none=>none
    | _=>none
noncomputable def resF (tmps:Array Value):ResultVar→Sem Value
  | .tmp t=>pure (tmps.getD t undef)
  | .cell a t=>do loadVar t (← asAddr (tmps.getD a undef))
theorem qcO (ha:Ag ρ n E a) (hs:qD w0 ρ s w) {r:ResultVar} (h:resV P E s r=some v):∃ u,AV.R ρ v u∧(resF a.tmps r).run P w=.ok u w:=by
  cases r with
  | tmp t =>
    exact ⟨_,ha.val t _ h,by simp [resF]⟩
  | cell t ty =>
    simp only [resV] at h
    split at h
    · rename_i b i hx
      obtain ⟨r,c,h1,ex⟩:=ha.val t _ hx
      split at h
      · rename_i k fl hk
        split at h
        · rename_i l hl
          obtain ⟨l',h2,h3,h4⟩:=hs.read h1 hl
          unfold loadN at hk
          split at hk
          · rename_i hf
            cases hk
            simp only [cond_true] at h
            rw [Zf] at h
            obtain ⟨u,hu,hR⟩:=h2.at h
            have:=h4 0 u hu
            simp only [Nat.add_zero] at this
            have ex':a.tmps[t]?.getD undef=.pointer (some ⟨r,i,none⟩):=by rw [← Array.getD_eq_getD_getElem?]; exact ex
            exact ⟨u,hR,by simp [resF,ex',asAddr,loadVar,JB hf,this,Result.andThen]⟩
          · rename_i hf
            split at hk
            · rename_i k' hsz
              cases hk
              simp only [cond_false,Option.some.injEq] at h
              subst h
              have hcs:=run_loadCells_list (P:=P) (w:=w) ⟨r,i,none⟩ l' (fun j u hu=>by rw [qx]; exact h4 j u hu)
              rw [h3] at hcs
              have ex':a.tmps[t]?.getD undef=.pointer (some ⟨r,i,none⟩):=by rw [← Array.getD_eq_getD_getElem?]; exact ex
              exact ⟨.agg l'.toArray,⟨_,rfl,by simpa using h2⟩,by simp [resF,ex',asAddr,loadVar,JB hf,zB hsz,hcs,Result.andThen]⟩
            · cases hk
          · cases hk
        · cases h
      · cases h
    · cases h
noncomputable def resVs (P:Program) (E:qp) (s:St):List ResultVar→Option (List AV)
  | []=>some []
  | r::l=>match resV P E s r with
    | some v=>match resVs P E s l with
      | some vs=>some (v::vs)
      | none=>none
    | none=>none
theorem JD (ha:Ag ρ n E a) (hs:qD w0 ρ s w):∀ {l:List ResultVar} {vs:List AV},resVs P E s l=some vs→∃ us,AV.Rs ρ vs us∧us.length=l.length∧(l.mapM (resF a.tmps)).run P w=.ok us w
  | [],_,h=>by cases h; exact ⟨[],trivial,rfl,by simp⟩
  | r::l,vs,h=>by
    simp only [resVs] at h
    split at h
    · rename_i v hv
      split at h
      · rename_i us hus
        cases h
        obtain ⟨u,h1,h2⟩:=qcO ha hs hv
        obtain ⟨us',h3,h4,h5⟩:=JD ha hs hus
        exact ⟨u::us',⟨h1,h3⟩,by simp [h4],by simp [List.mapM_cons,h2,h5,Result.andThen]⟩
      · cases h
    · cases h
noncomputable def retV (P:Program) (E:qp) (s:St) (l:List ResultVar):Option AV:=match resVs P E s l with
  | some [v]=>some v
  | some vs=>some (.tu vs)
  | none=>none
theorem qcN (ha:Ag ρ n E a) (hs:qD w0 ρ s w) {fn:Func} (h:retV P E s fn.results.toList=some v):∃ u,AV.R ρ v u∧(results fn a.tmps).run P w=.ok u w:=by
  have run:∀ us:List Value,(fn.results.toList.mapM (resF a.tmps)).run P w=.ok us w→(results fn a.tmps).run P w=.ok (if h:us.toArray.size=1 then us.toArray[0] else .tuple us.toArray) w:=fun us hu=>by
    have hm:(fn.results.mapM (resF a.tmps)).run P w=.ok us.toArray w:=by
      rw [Array.mapM_eq_mapM_toList]
      simp [hu,Result.andThen]
    have e:results fn a.tmps=(do
      let vs ← fn.results.mapM (resF a.tmps)
      pure (if h:vs.size=1 then vs[0] else .tuple vs)):=by
      unfold results
      congr 1
    rw [e]
    simp only [Sem.run_bind,hm,Result.andThen,Sem.run_pure]
  unfold retV at h
  split at h
  · rename_i v1 hv
    cases h
    obtain ⟨us,h1,h2,h3⟩:=JD ha hs hv
    match us,h1 with
    | [u],h1=>exact ⟨u,h1.1,by simpa using run [u] h3⟩
    | [],h1=>simp [AV.Rs] at h1
    | _::_::_,h1=>simp [AV.Rs] at h1
  · rename_i vs hne hv
    cases h
    obtain ⟨us,h1,h2,h3⟩:=JD ha hs hv
    have hl:us.length≠1:=fun e=>by
      match us,e with
      | [u],_ =>
        match vs,h1 with
        | [v1],_=>exact hne v1 rfl
        | [],h1=>simp [AV.Rs] at h1
        | _::_::_,h1=>simp [AV.Rs] at h1
    refine ⟨.tuple us.toArray,⟨_,rfl,by simpa using h1⟩,?_⟩
    rw [run us h3,dif_neg (by simpa using hl)]
  · cases h
noncomputable def leaveM:List Nat→St→Option St
  | [],s=>some s
  | d::ds,s=>match s.ob d with
    | .mark=>leaveM ds (s.put d .dead)
    | _=>none
theorem Y4 {fn:Func} {R:Ending→World→Prop} {tmps:Array Value}:∀ {ds:List Nat} {ms:List Deferred} {s:St} {w:World},leaveM ds s=some s'→Dag ρ ds ms→qD w0 ρ s w →
    (∀ w',qD w0 ρ s' w'→∃ u,(results fn tmps).run P w'=.ok u w'∧R (.returned u) w')→LeavesInM Fence.wide 0 P fn tmps R ms .returning w
  | [],[],s,w,h,_,hs,hK=>by
    cases h
    obtain ⟨u,h1,h2⟩:=hK w hs
    exact ⟨u,h1,h2⟩
  | d::ds,m::ms,s,w,h,hd,hs,hK=>by
    obtain ⟨⟨D,c,h1,rfl⟩,h2⟩:=hd
    simp only [leaveM] at h
    split at h
    · rename_i ho
      obtain ⟨g1,g2,g3⟩:=hs.obs d D c h1
      rw [ho] at g3
      have hk:=hs.kill (hs.lt' h1)
      have hs':qD w0 ρ (s.put d .dead) (w.putObj D (.deferred none)):=by
        refine ⟨hk.below.trans ⟨rfl,rfl,rfl,by simp,fun k hk=>World.putObj_heap_other (by omega)⟩,hk.len,hk.nb,fun b r c' hb=>?_,hk.inj⟩
        obtain ⟨k1,k2,k3⟩:=hk.obs b r c' hb
        refine ⟨k1,by simpa using k2,?_⟩
        by_cases e:r=D
        · subst e
          by_cases hdd:(s.put d .dead).ob b=.dead
          · rw [hdd]; trivial
          · exfalso
            rw [St.ob_put (hs.lt' h1) (hs.lt' hb)] at hdd
            by_cases ed:d=b
            · rw [if_pos ed] at hdd; exact hdd rfl
            · rw [if_neg ed] at hdd
              exact ed (hs.inj d b r c c' h1 hb (by rw [ho]; simp) hdd)
        · rw [World.putObj_heap_other e]; exact k3
      exact ⟨by simp,.inl ⟨D,_,rfl,run_takeDeferred g3,Y4 h h2 hs' hK⟩⟩
    · cases h
  | [],_::_,_,_,_,hd,_,_=>by simp [Dag] at hd
  | _::_,[],_,_,_,hd,_,_=>by simp [Dag] at hd
end
end Go.Sl.Ev
namespace Go.Sl.Ev
open Go.RowKit
noncomputable def contL {α β:Type} (L:List α) (f:α→Option (List β)):Option (List β):=match L with
  | [x]=>f x
  | L=>bindL L f
theorem Qg {α β:Type} {f:α→Option (List β)} {L:List α} {R:List β} (h:contL L f=some R):∀ x∈L,∃ r,f x=some r∧∀ y∈r,y∈R:=by
  unfold contL at h
  split at h
  · rename_i x
    intro y hy
    cases List.mem_singleton.1 hy
    exact ⟨R,h,fun _ h=>h⟩
  · exact QS h
section
variable (P:Program) (xr:FuncId→List AV→St→Option (Option (AV × St))) (rec_:Rq→St→Option (List (Rs × St)))
noncomputable def argGo:List AV→Nat→qp→qp
  | [],_,E=>E
  | v::l,i,E=>argGo l (i+1) (E.set i v)
noncomputable def argE (k:Nat) (l:List AV):qp:=argGo l 0 ⟨k,.u none⟩
noncomputable def putsE:List Nat→List AV→qp→qp
  | p::ps,v::vs,E=>putsE ps vs (E.set p v)
  | _,_,E=>E
noncomputable def rangeE (E:qp) (ds:List Nat) (gf:FuncId) (ca:List AV) (ps:List Nat) (asg body:Code) (m:Nat) (s:St):Option (List (Rs × St)) :=
  match s.new (.loop .ready none ps asg body E m) with
  | some (l,s2)=>match rec_ (.fn gf (.yi l::ca)) s2 with
    | some L=>contL L fun r=>match r with
      | (.val _,s3)=>match s3.ob l with
        | .loop .ready none _ _ _ _ _=>some [(.ex .nrm E ds,s3.put l .dead)]
        | .loop .done none _ _ _ _ _=>some [(.ex .nrm E ds,s3.put l .dead)]
        | .loop .done (some .ret) _ _ _ _ _=>some [(.ex .ret E ds,s3.put l .dead)]
        | .loop .done (some (.exit id)) _ _ _ _ _=>some [(.ex (.ext id) E ds,s3.put l .dead)]
        | _=>none
      | _=>none
    | none=>none
  | none=>none
noncomputable def stepC (rd:Option Nat) (c:Code) (E:qp) (ds:List Nat) (s:St):Option (List (Rs × St)) :=
  match c with
  | .skip=>some [(.ex .nrm E ds,s)]
  | .label _=>some [(.ex .nrm E ds,s)]
  | .region _ ops dr=>match evRegion P rec_ ops dr E s with
    | some [(E',s')]=>some [(.ex .nrm E' ds,s')]
    | some L=>some (L.map fun r=>(.ex .nrm r.1 ds,r.2))
    | none=>none
  | .seq a b=>match rec_ (.code rd a E ds) s with
    | some L=>contL L fun r=>match r with
      | (.ex .nrm E1 ds1,s1)=>rec_ (.code rd b E1 ds1) s1
      | (.ex .ret E1 ds1,s1)=>some [(.ex .ret E1 ds1,s1)]
      | (.ex (.ext id) E1 ds1,s1)=>some [(.ex (.ext id) E1 ds1,s1)]
      | _=>none
    | none=>none
  | .cond c x y=>match opr E c with
    | some (.vl (.bool true))=>rec_ (.code rd x E ds) s
    | some (.vl (.bool false))=>rec_ (.code rd y E ds) s
    | _=>none
  | .block id c=>match rec_ (.code rd c E ds) s with
    | some L=>contL L fun r=>match r with
      | (.ex (.ext i) E1 ds1,s1)=>bif decide (i=id) then some [(.ex .nrm E1 ds1,s1)] else some [(.ex (.ext i) E1 ds1,s1)]
      | (.ex .nrm E1 ds1,s1)=>some [(.ex .nrm E1 ds1,s1)]
      | (.ex .ret E1 ds1,s1)=>some [(.ex .ret E1 ds1,s1)]
      | _=>none
    | none=>none
  | .loop c=>match rec_ (.code rd c E ds) s with
    | some L=>contL L fun r=>match r with
      | (.ex .nrm E1 ds1,s1)=>rec_ (.code rd (.loop c) E1 ds1) s1
      | (.ex .ret E1 ds1,s1)=>some [(.ex .ret E1 ds1,s1)]
      | (.ex (.ext id) E1 ds1,s1)=>some [(.ex (.ext id) E1 ds1,s1)]
      | _=>none
    | none=>none
  | .exit id=>some [(.ex (.ext id) E ds,s)]
  | .ret=>some [(.ex .ret E ds,s)]
  | .scope c=>rec_ (.code rd c E ds) s
  | .rangeFunc g ps asg body=>match opr E g with
    | some (.fn gf [] ca)=>match rd with
      | none=>match s.new .mark with
        | some (m,s1)=>rangeE rec_ E (m::ds) gf ca ps.toList asg body m s1
        | none=>none
      | some l0=>match s.ob l0 with
        | .loop _ _ _ _ _ _ m=>rangeE rec_ E ds gf ca ps.toList asg body m s
        | _=>none
    | _=>none
  | _=>none
noncomputable def endF (l:List ResultVar) (r:Rs × St):Option (List (Rs × St)):=match r with
  | (.ex .nrm E1 ds1,s1)=>match leaveM ds1 s1 with
    | some s2=>match retV P E1 s2 l with
      | some v=>some [(.val v,s2)]
      | none=>none
    | none=>none
  | (.ex .ret E1 ds1,s1)=>match leaveM ds1 s1 with
    | some s2=>match retV P E1 s2 l with
      | some v=>some [(.val v,s2)]
      | none=>none
    | none=>none
  | _=>none
noncomputable def stepF (f:FuncId) (args:List AV) (s:St):Option (List (Rs × St)) :=
  match xr f args s with
  | some (some (v,s'))=>some [(.val v,s')]
  | some none=>none
  | none=>match P.funcs[f]? with
    | some fn=>match fn.body with
      | some c=>bif Nat.ble args.length fn.ntmps then (match rec_ (.code none c (argE fn.ntmps args) []) s with
        | some L=>contL L (endF P fn.results.toList)
        | none=>none) else none
      | none=>none
    | none=>none
noncomputable def endRd (l:Nat) (r:Rs × St):Option (List (Rs × St)):=match r with
  | (.ex x _ _,s3)=>match s3.ob l with
    | .loop _ _ ps4 asg4 body4 E4 m4=>match x with
      | .nrm=>some [(.val (.vl (.bool true)),s3.put l (.loop .ready none ps4 asg4 body4 E4 m4))]
      | .ret=>some [(.val (.vl (.bool false)),s3.put l (.loop .done (some .ret) ps4 asg4 body4 E4 m4))]
      | .ext id=>some [(.val (.vl (.bool false)),s3.put l (.loop .done (some (.exit id)) ps4 asg4 body4 E4 m4))]
    | _=>none
  | _=>none
noncomputable def stepR (l:Nat) (args:List AV) (s:St):Option (List (Rs × St)) :=
  match s.ob l with
  | .loop .ready none ps asg body E _=>bif Nat.beq args.length ps.length then (match rec_ (.code (some l) asg (putsE ps args E) []) s with
    | some L=>contL L fun r=>match r with
      | (.ex .nrm E2 [],s1)=>match s1.ob l with
        | .loop .ready none ps2 asg2 body2 E3 m2=>match rec_ (.code (some l) body E2 []) (s1.put l (.loop .busy none ps2 asg2 body2 E3 m2)) with
          | some L2=>contL L2 (endRd l)
          | none=>none
        | _=>none
      | _=>none
    | none=>none) else none
  | _=>none
noncomputable def ev:Nat→Rq→St→Option (List (Rs × St))
  | 0,_,_=>none
  | k+1,.code rd c E ds,s=>stepC P (ev k) rd c E ds s
  | k+1,.fn f args,s=>stepF P xr (ev k) f args s
  | k+1,.round l args,s=>stepR (ev k) l args s
end
section
variable {P:Program} {w0:World} {xr:FuncId→List AV→St→Option (Option (AV × St))}
structure qbR (P:Program) (w0:World) (xr:FuncId→List AV→St→Option (Option (AV × St))):Prop where
  enter:∀ {f:FuncId} {args:List AV} {s:St} {r:AV × St},xr f args s=some (some r)→∃ fn c,P.funcs[f]?=some fn∧fn.body=some c
  calls:∀ {f:FuncId} {args:List AV} {s s':St} {v:AV},xr f args s=some (some (v,s'))→∀ {ρ:Rho} {w:World} {args':List Value},AV.Rs ρ args args'→qD w0 ρ s w→CallsIn Fence.wide 0 P f args'.toArray w (Post w0 ρ [(.val v,s')])
theorem qcq:∀ {l:List AV} {i:Nat} {E:qp},(argGo l i E).n=E.n
  | [],_,_=>rfl
  | v::l,i,E=>by show (argGo l (i+1) (E.set i v)).n=_; rw [qcq,qp.set_n]
theorem qe5 {k:Nat} {l:List AV}:(argE k l).n=k:=qcq
theorem qaI {ρ:Rho} {all:List Value}:∀ {l:List AV} {m:List Value} {i:Nat} {E:qp},AV.Rs ρ l m→(∀ j u,m[j]?=some u→all[i+j]?=some u)→(∀ x v,E.get x=some v→∃ u,all[x]?=some u∧AV.R ρ v u)→∀ x v,(argGo l i E).get x=some v→∃ u,all[x]?=some u∧AV.R ρ v u
  | [],_,_,_,_,_,hE,x,v,h=>hE x v h
  | y::l,[],_,_,hr,_,_,_,_,_=>by simp [AV.Rs] at hr
  | y::l,u::m,i,E,hr,hm,hE,x,v,h=>by
    refine qaI (m:=m) (i:=i+1) (E:=E.set i y) hr.2 (fun j u' hu=>by rw [show i+1+j=i+(j+1) by omega]; exact hm (j+1) u' (by simpa using hu)) (fun x v hx=>?_) x v h
    rcases qp.get_set hx with ⟨rfl,rfl,_⟩ | ⟨_,hx⟩ | ⟨_,hx⟩ | ⟨_,hx⟩
    · exact ⟨u,by have:=hm 0 u rfl; simpa using this,hr.1⟩
    · exact hE x v hx
    · exact hE x v hx
    · exact hE x v hx
theorem qgI {ρ:Rho} {k:Nat} {l:List AV} {m:List Value} {x:Nat} {v:AV} (hr:AV.Rs ρ l m) (h:(argE k l).get x=some v):∃ u,m[x]?=some u∧AV.R ρ v u :=
  qaI (all:=m) hr (fun j u hu=>by simpa using hu) (fun x v hx=>by
    unfold qp.get at hx
    cases hb:(Nat.blt x k && Nat.blt x 512) with
    | false=>simp only [hb] at hx; cases hx
    | true=>simp only [hb] at hx; cases hx) x v h
theorem qaj {ρ:Rho}:∀ {ps:List Nat} {vs:List AV} {us:List Value} {E:qp} {n:Nat} {a:Act},Ag ρ n E a→AV.Rs ρ vs us→Ag ρ n (putsE ps vs E) { a with tmps:=(ps.zip us).foldl (fun t (x:Nat × Value)=>t.setIfInBounds x.1 x.2) a.tmps }
  | [],_,_,_,_,_,ha,_=>by simpa [putsE] using ha
  | _::_,[],[],_,_,_,ha,_=>by simpa [putsE] using ha
  | p::ps,v::vs,u::us,E,n,a,ha,hr=>by
    have h1:Ag ρ n (E.set p v) (a.put (some p) u):=ha.put hr.1 (some p)
    have:=qaj (ps:=ps) h1 hr.2
    simpa [putsE,Act.put] using this
  | _::_,[],_::_,_,_,_,_,hr=>by simp [AV.Rs] at hr
  | _::_,_::_,[],_,_,_,_,hr=>by simp [AV.Rs] at hr
theorem Ku:∀ {ps:List Nat} {vs:List AV} {E:qp},(putsE ps vs E).length=E.length
  | [],_,_=>by simp [putsE]
  | _::_,[],_=>by simp [putsE]
  | p::ps,v::vs,E=>by
    show (putsE ps vs (E.set p v)).n=E.n
    have:=Ku (ps:=ps) (vs:=vs) (E:=E.set p v)
    exact this.trans (qp.set_n _ _ _)
theorem Jk {x:Ex} (hx:x≠.nrm) {K:Act→World→Prop} {Q:Exit→Act→World→Prop} {a:Act} {w:World} (h:Q (exOf x) a w):Exit.then K Q (exOf x) a w:=by
  cases x with
  | nrm=>exact absurd rfl hx
  | ext id=>exact h
  | ret=>exact h
end
end Go.Sl.Ev
namespace Go.Sl.Ev
open Go.RowKit
section
variable {P:Program} {w0:World} {xr:FuncId→List AV→St→Option (Option (AV × St))} {rec_:Rq→St→Option (List (Rs × St))}
theorem qdW {w:World} {ρ:Rho} {s s1:St} {m:Nat} (hs:qD w0 ρ s w) (h:s.new .mark=some (m,s1)) :
    ρ <+: ρ++[(w.heap.size,0)]∧(ρ++[(w.heap.size,0)])[m]?=some (w.heap.size,0)∧qD w0 (ρ++[(w.heap.size,0)]) s1 (w.alloc (.deferred (some []))) :=
  hs.add h (QA w _) (Nat.le_refl _) (by rw [World.size_alloc]; omega) (World.alloc_heap_new w _)
theorem qdX {w:World} {ρ:Rho} {s s1:St} {l m:Nat} {ps:List Nat} {asg body:Code} {E:qp} {fn:FuncId} {tmps:Array Value} {D c:Nat} (hs:qD w0 ρ s w) (h:s.new (.loop .ready none ps asg body E m)=some (l,s1)) (hD:ρ[m]?=some (D,c))
    (ht:tmps.size=E.length) (hv:∀ x v,E.get x=some v→AV.R ρ v (tmps.getD x undef)) :
    ρ <+: ρ++[(w.heap.size,0)]∧(ρ++[(w.heap.size,0)])[l]?=some (w.heap.size,0)∧qD w0 (ρ++[(w.heap.size,0)]) s1 (w.alloc (.loop { state:=.ready,pending:=none,fn,tmps,params:=ps.toArray,assign:=asg,body,defers:=D })) :=
  hs.add h (QA w _) (Nat.le_refl _) (by rw [World.size_alloc]; omega) (by
    rw [World.alloc_heap_new]
    have hp:ρ <+: ρ++[(w.heap.size,0)]:=⟨_,rfl⟩
    exact ⟨_,rfl,rfl,rfl,rfl,rfl,rfl,⟨D,c,zQ hp hD,rfl⟩,ht,fun x v hx=>(hv x v hx).mono hp⟩)
theorem Q4 {w:World} {ρ:Rho} {s:St} {l r c:Nat} {o:Obj} (hs:qD w0 ρ s w) (hl:ρ[l]?=some (r,c)) (hd:s.ob l≠.dead):qD w0 ρ (s.put l .dead) (w.putObj r o):=by
  obtain ⟨g1,g2,_⟩:=hs.obs l r c hl
  exact hs.turn hl hd ⟨rfl,rfl,rfl,by simp,fun k hk=>World.putObj_heap_other (by omega)⟩ (fun k hk=>World.putObj_heap_other hk) trivial
theorem Xz (hg:Xe P w0 rec_) {E:qp} {ds:List Nat} {gf:FuncId} {ca:List AV} {ps:Array Nat} {asg body:Code} {m:Nat} {s:St} {L:List (Rs × St)} (h:rangeE rec_ E ds gf ca ps.toList asg body m s=some L)
    {ρ:Rho} {a:Act} {w:World} {rd':Option Nat} {Q:Exit→Act→World→Prop} {fn:FuncId} {D c:Nat} {mk:List Deferred} {ca':Array Value} {g:Operand} {w1:World} {l0:Nat}
    (ha:Ag ρ E.length E a) (hd:Dag ρ ds (mk++a.defers)) (hs:qD w0 ρ s w) (hD:ρ[m]?=some (D,c)) (hE:EndE w0 ρ L Q) (hca:AV.Rs ρ ca ca'.toList) (hgv:a.eval g=.func (.func gf) #[] ca')
    (hw1:w1=w.alloc (.loop { state:=.ready,pending:=none,fn,tmps:=a.tmps,params:=ps,assign:=asg,body,defers:=D })) (hl0:l0=w.heap.size) :
    ∃ (d:Deferred) (w₁':World) (f:FuncId) (args:Array Value) (w₂:World),
      (resolve a.eval (rangeCall g l0) 0).run P w1=.ok d w₁'∧(∀ f',Target.leads P w₁' d.target d.args=some f'→(fen rd').fn f')∧(invoke d.target d.args).run P w₁'=.ok (.enter f args) w₂∧((fen rd').depth.isSome=true→1≤0) ∧
      CallsIn (fen rd') (0-1) P f args w₂ (rangePost (fen rd') 0 P l0 Q { a with defers:=mk++a.defers }):=by
  subst hw1 hl0
  unfold rangeE at h
  split at h
  · rename_i l s2 hn
    obtain ⟨p1,p2,p3⟩:=qdX (fn:=fn) (tmps:=a.tmps) hs hn hD (by rw [ha.size]) ha.val
    have e0:ps.toList.toArray=ps:=by simp
    rw [e0] at p3
    generalize hW1:w.alloc (.loop { state:=.ready,pending:=none,fn,tmps:=a.tmps,params:=ps,assign:=asg,body,defers:=D })=W1 at p3
    split at h
    · rename_i L3 hr
      have hargs:AV.Rs (ρ++[(w.heap.size,0)]) (.yi l::ca) (Value.func (.yield w.heap.size) #[] #[]::ca'.toList):=⟨⟨_,_,p2,rfl⟩,hca.mono p1⟩
      have hc:=hg.fn hr hargs p3
      have hen:=hg.enter hr (#[.func (.yield w.heap.size) #[] #[]]++ca') W1
      have e1:(Value.func (.yield w.heap.size) #[] #[]::ca'.toList).toArray=#[.func (.yield w.heap.size) #[] #[]]++ca':=by apply Array.ext'; simp
      rw [e1] at hc
      have hev:∀ v,a.eval (.const v)=v:=fun _=>rfl
      refine ⟨{ target:=.fn (.func gf) ca',args:=#[.func (.yield w.heap.size) #[] #[]] },W1,gf,#[.func (.yield w.heap.size) #[] #[]]++ca',W1,?_,fun _ _=>trivial,?_,fun h=>by simp [Fence.wide] at h,?_⟩
      · simp [resolve,hgv,hev,Deferred.ofValue,Result.andThen]
      · simp [invoke,hen,Result.andThen]
      · have hc':CallsIn (fen rd') 0 P gf (#[.func (.yield w.heap.size) #[] #[]]++ca') W1 _:=hc
        refine hc'.mono ?_
        rintro e w' ⟨v3,s3,ρ',u,q0,q1,rfl,q2,q3⟩
        obtain ⟨L4,h,hL4⟩:=Qg h _ q0
        simp only at h
        have hl':=zQ q1 p2
        have ha':Ag ρ' E.length E { a with defers:=mk++a.defers }:=⟨ha.size,ha.len,fun x v hx=>((ha.val x v hx).mono p1).mono q1⟩
        have hd':Dag ρ' ds (mk++a.defers):=(hd.mono p1).mono q1
        obtain ⟨g1,g2,g3⟩:=q3.obs l _ _ hl'
        split at h
        all_goals first
          | (cases h; done)
          | skip
        · rename_i ho
          cases h
          rw [ho] at g3
          obtain ⟨r,e1,e2,e3,_⟩:=g3
          refine ⟨r.pending,_,run_endLoop e1 (by rw [e2]; simp),?_⟩
          rw [e3]
          exact hE _ _ _ _ (hL4 _ List.mem_cons_self) ρ' _ _ (p1.trans q1) ha' hd' (Q4 q3 hl' (by rw [ho]; simp))
        · rename_i ho
          cases h
          rw [ho] at g3
          obtain ⟨r,e1,e2,e3,_⟩:=g3
          refine ⟨r.pending,_,run_endLoop e1 (by rw [e2]; simp),?_⟩
          rw [e3]
          exact hE _ _ _ _ (hL4 _ List.mem_cons_self) ρ' _ _ (p1.trans q1) ha' hd' (Q4 q3 hl' (by rw [ho]; simp))
        · rename_i ho
          cases h
          rw [ho] at g3
          obtain ⟨r,e1,e2,e3,_⟩:=g3
          refine ⟨r.pending,_,run_endLoop e1 (by rw [e2]; simp),?_⟩
          rw [e3]
          exact wpIn_ret (hE _ _ _ _ (hL4 _ List.mem_cons_self) ρ' _ _ (p1.trans q1) ha' hd' (Q4 q3 hl' (by rw [ho]; simp)))
        · rename_i id ho
          cases h
          rw [ho] at g3
          obtain ⟨r,e1,e2,e3,_⟩:=g3
          refine ⟨r.pending,_,run_endLoop e1 (by rw [e2]; simp),?_⟩
          rw [e3]
          exact wpIn_exit (hE _ _ _ _ (hL4 _ List.mem_cons_self) ρ' _ _ (p1.trans q1) ha' hd' (Q4 q3 hl' (by rw [ho]; simp)))
    · cases h
  · cases h
end
end Go.Sl.Ev
namespace Go.Sl.Ev
open Go.RowKit
section
variable {P:Program} {w0:World} {xr:FuncId→List AV→St→Option (Option (AV × St))} {rec_:Rq→St→Option (List (Rs × St))}
theorem EndE.one {ρ:Rho} {L:List (Rs × St)} {Q:Exit→Act→World→Prop} {x:Ex} {E:qp} {ds:List Nat} {s:St} (h:EndE w0 ρ L Q) (hm:(Rs.ex x E ds,s)∈L) {a:Act} {w:World} (ha:Ag ρ E.length E a) (hd:Dag ρ ds a.defers) (hs:qD w0 ρ s w):Q (exOf x) a w :=
  h x E ds s hm ρ a w ⟨[],by simp⟩ ha hd hs
theorem qaZ (hm:P.follows .mixedOrders=true) (hg:Xe P w0 rec_)
    (hloop:∀ {rd:Option Nat} {c:Code} {E:qp} {ds:List Nat} {s:St} {L:List (Rs × St)},stepC P rec_ rd (.loop c) E ds s=some L→∀ {ρ:Rho} {a:Act} {w:World} {rd':Option Nat} {Q:Exit→Act→World→Prop},RdR ρ rd rd'→Ag ρ E.length E a→Dag ρ ds a.defers→qD w0 ρ s w→EndE w0 ρ L Q→(Code.loop c).wpIn (fen rd') 0 P Q a w)
    {rd:Option Nat} {c:Code} {E:qp} {ds:List Nat} {s:St} {L:List (Rs × St)} (h:stepC P rec_ rd c E ds s=some L)
    {ρ:Rho} {a:Act} {w:World} {rd':Option Nat} {Q:Exit→Act→World→Prop} (hr:RdR ρ rd rd') (ha:Ag ρ E.length E a) (hd:Dag ρ ds a.defers) (hs:qD w0 ρ s w) (hE:EndE w0 ρ L Q):c.wpIn (fen rd') 0 P Q a w:=by
  cases c with
  | skip =>
    cases h
    exact wpIn_skip (hE.one List.mem_cons_self ha hd hs)
  | label l =>
    cases h
    exact wpIn_label (hE.one List.mem_cons_self ha hd hs)
  | exit id =>
    cases h
    exact wpIn_exit (hE.one List.mem_cons_self ha hd hs)
  | ret =>
    cases h
    exact wpIn_ret (hE.one List.mem_cons_self ha hd hs)
  | region id ops dr =>
    simp only [stepC] at h
    split at h
    · rename_i E2 s2 hreg
      cases h
      refine Jw hm hg hreg ha hs fun E3 s3 hm3 ρ2 a2 w2 q1 q2 q3 q4=>?_
      cases List.mem_singleton.1 hm3
      exact (hE.mono q1).one List.mem_cons_self q2 (by rw [q3]; exact hd.mono q1) q4
    · rename_i L2 _ hreg
      cases h
      refine Jw hm hg hreg ha hs fun E3 s3 hm3 ρ2 a2 w2 q1 q2 q3 q4=>?_
      exact (hE.mono q1).one (x:=.nrm) (ds:=ds) (List.mem_map.2 ⟨_,hm3,rfl⟩) q2 (by rw [q3]; exact hd.mono q1) q4
    · cases h
  | seq c1 c2 =>
    simp only [stepC] at h
    refine wpIn_seq ?_
    split at h
    · rename_i L1 h1
      refine hg.code h1 hr ha hd hs fun x1 E1 ds1 s1 hm1 ρ1 a1 w1 p1 p2 p3 p4=>?_
      obtain ⟨L2,h2,hL2⟩:=Qg h _ hm1
      cases x1 with
      | nrm=>exact hg.code h2 (hr.mono p1) p2 p3 p4 ((hE.sub hL2).mono p1)
      | ret=>cases h2; exact Jk (by simp) (((hE.sub hL2).mono p1).one List.mem_cons_self p2 p3 p4)
      | ext id=>cases h2; exact Jk (by simp) (((hE.sub hL2).mono p1).one List.mem_cons_self p2 p3 p4)
    · cases h
  | cond cc x1 y1 =>
    simp only [stepC] at h
    split at h
    · rename_i hc
      exact wpIn_cond_true (ha.opr hc) (hg.code h hr ha hd hs hE)
    · rename_i hc
      exact wpIn_cond_false (ha.opr hc) (hg.code h hr ha hd hs hE)
    · cases h
  | block id c1 =>
    simp only [stepC] at h
    refine wpIn_block ?_
    split at h
    · rename_i L1 h1
      refine hg.code h1 hr ha hd hs fun x1 E1 ds1 s1 hm1 ρ1 a1 w1 p1 p2 p3 p4=>?_
      obtain ⟨L2,h2,hL2⟩:=Qg h _ hm1
      have hE':=(hE.sub hL2).mono p1
      cases x1 with
      | nrm=>cases h2; exact hE'.one (x:=.nrm) List.mem_cons_self p2 p3 p4
      | ret=>cases h2; exact hE'.one (x:=.ret) List.mem_cons_self p2 p3 p4
      | ext i =>
        simp only at h2
        show Exit.inBlock id Q (.exit i) a1 w1
        by_cases e:i=id
        · subst e
          simp only [decide_true,cond_true,Option.some.injEq] at h2
          subst h2
          simp only [Exit.inBlock,if_true]
          exact hE'.one (x:=.nrm) List.mem_cons_self p2 p3 p4
        · simp only [e,decide_false,cond_false,Option.some.injEq] at h2
          subst h2
          simp only [Exit.inBlock,if_neg e]
          exact hE'.one (x:=.ext i) List.mem_cons_self p2 p3 p4
    · cases h
  | loop c1=>exact hloop h hr ha hd hs hE
  | scope c1 =>
    simp only [stepC] at h
    refine wpIn_mono (Xn (Q:=fun e a w=>(∃ x,e=exOf x)∧Q e a w) (fun l a w hq=>by
      obtain ⟨⟨x,hx⟩,_⟩:=hq
      cases x <;> cases hx) (hg.code h hr ha hd hs fun x1 E1 ds1 s1 hm1 ρ1 a1 w1 p1 p2 p3 p4=>⟨⟨x1,rfl⟩,hE x1 E1 ds1 s1 hm1 ρ1 a1 w1 p1 p2 p3 p4⟩)) fun _ _ _ hq=>hq.2
  | rangeFunc g ps asg body =>
    simp only [stepC] at h
    split at h
    · rename_i gf ca hgv
      obtain ⟨fa',ca',e1,e2,e3⟩:=ha.opr hgv
      have:fa'=#[]:=by
        have:=e2.len
        apply Array.eq_empty_of_size_eq_zero
        simpa using this.symm
      subst this
      refine wpIn_rangeFunc fun fn _=>?_
      split at h
      · rename_i rd
        split at h
        · rename_i m s1 hmk
          cases rd' with
          | some r=>simp [RdR] at hr
          | none =>
            obtain ⟨p1,p2,p3⟩:=qdW hs hmk
            have ha1:=ha.mono p1
            have hd1:Dag (ρ++[(w.heap.size,0)]) (m::ds) ([mark w.heap.size]++a.defers):=⟨⟨_,_,p2,rfl⟩,hd.mono p1⟩
            obtain ⟨d,w1',f,args,w2,k1,k2,k3,k4,k5⟩:=Xz (fn:=fn) (rd':=none) (mk:=[mark w.heap.size]) (g:=g) hg h ha1 hd1 p3 p2 (hE.mono p1) (e3.mono p1) e1 rfl rfl
            have hent:=run_enterLoop_outer (P:=P) (w:=w) fn a.tmps ps asg body
            exact ⟨_,_,_,d,w1',f,args,w2,hent,by rw [World.size_alloc] at k1; exact k1,k2,k3,k4,by rw [World.size_alloc] at k5; exact k5⟩
        · cases h
      · rename_i rd l0
        split at h
        · rename_i st pe ps0 asg0 body0 E0 m ho
          cases rd' with
          | none=>simp [RdR] at hr
          | some r =>
            obtain ⟨c0,hrc⟩:=hr
            obtain ⟨_,_,g3⟩:=hs.obs l0 r c0 hrc
            rw [ho] at g3
            obtain ⟨r0,f1,_,_,_,_,_,⟨D,c,f7,rfl⟩,_⟩:=g3
            obtain ⟨d,w1',f,args,w2,k1,k2,k3,k4,k5⟩:=Xz (fn:=fn) (rd':=some r) (mk:=[]) (g:=g) hg h ha (by simpa using hd) hs f7 hE e3 e1 rfl rfl
            have hent:=run_enterLoop_inner (P:=P) f1 fn a.tmps ps asg body
            exact ⟨_,_,_,d,w1',f,args,w2,hent,k1,k2,k3,k4,k5⟩
        · cases h
    · cases h
  | _=>cases h
end
end Go.Sl.Ev
namespace Go.Sl.Ev
open Go.RowKit
section
variable {P:Program} {w0:World} {xr:FuncId→List AV→St→Option (Option (AV × St))} {rec_:Rq→St→Option (List (Rs × St))}
theorem qcY {k:Nat} (hg:∀ m,m≤k→Xe P w0 (ev P xr m)) {rd:Option Nat} {c:Code} {E:qp} {ds:List Nat} {s:St} {L:List (Rs × St)} (h:stepC P (ev P xr k) rd (.loop c) E ds s=some L)
    {ρ:Rho} {a:Act} {w:World} {rd':Option Nat} {Q:Exit→Act→World→Prop} (hr:RdR ρ rd rd') (ha:Ag ρ E.length E a) (hd:Dag ρ ds a.defers) (hs:qD w0 ρ s w) (hE:EndE w0 ρ L Q):(Code.loop c).wpIn (fen rd') 0 P Q a w:=by
  refine wpIn_loop_ghost (fun m a' w'=>m≤k∧∃ E1 ds1 s1 ρ1 L1,ρ <+: ρ1∧(∀ y∈L1,y∈L)∧stepC P (ev P xr m) rd (.loop c) E1 ds1 s1=some L1∧Ag ρ1 E1.length E1 a'∧Dag ρ1 ds1 a'.defers∧qD w0 ρ1 s1 w') k ⟨Nat.le_refl _,E,ds,s,ρ,L,⟨[],by simp⟩,fun _ h=>h,h,ha,hd,hs⟩ ?_
  rintro m a1 w1 ⟨hmk,E1,ds1,s1,ρ1,L1,p1,hL1,h1,ha1,hd1,hs1⟩
  simp only [stepC] at h1
  have hgm:=hg m hmk
  split at h1
  · rename_i L2 h2
    refine hgm.code h2 (hr.mono p1) ha1 hd1 hs1 fun x3 E3 ds3 s3 hm3 ρ3 a3 w3 q1 q2 q3 q4=>?_
    obtain ⟨L4,h4,hL4⟩:=Qg h1 _ hm3
    cases x3 with
    | nrm =>
      cases m with
      | zero=>cases h2
      | succ m=>exact ⟨m,Nat.lt_succ_self _,by omega,E3,ds3,s3,ρ3,L4,p1.trans q1,fun y hy=>hL1 y (hL4 y hy),h4,q2,q3,q4⟩
    | ret=>cases h4; exact Jk (by simp) ((hE.mono (p1.trans q1)).one (hL1 _ (hL4 _ List.mem_cons_self)) q2 q3 q4)
    | ext id=>cases h4; exact Jk (by simp) ((hE.mono (p1.trans q1)).one (hL1 _ (hL4 _ List.mem_cons_self)) q2 q3 q4)
  · cases h1
noncomputable def namesOk (P:Program):Prop:=∀ (f:FuncId) (fn:Func),P.funcs[f]?=some fn→(fn.name == "runtime.NumGoroutine")=false
theorem qaF (hn:namesOk P) {f:FuncId} {fn:Func} {c:Code} (hf:P.funcs[f]?=some fn) (hb:fn.body=some c) (args:Array Value) (w:World):(callFunc f args).run P w=.ok (.enter f args) w:=by
  have h:=hn f fn hf
  have h':¬ fn.name="runtime.NumGoroutine":=by simpa using h
  simp [callFunc,Sem.run_bind,hf,h',hb,Result.andThen]
theorem qgb (hg:Xe P w0 rec_) (hx:qbR P w0 xr) {f:FuncId} {args:List AV} {s:St} {L:List (Rs × St)} (h:stepF P xr rec_ f args s=some L) {ρ:Rho} {w:World} {args':List Value} (hr:AV.Rs ρ args args') (hs:qD w0 ρ s w):CallsIn Fence.wide 0 P f args'.toArray w (Post w0 ρ L):=by
  unfold stepF at h
  split at h
  · rename_i v2 s2 he
    cases h
    exact hx.calls he hr hs
  · cases h
  · split at h
    · rename_i fn hf
      split at h
      · rename_i c hb
        cases hle:Nat.ble args.length fn.ntmps with
        | false=>rw [hle] at h; cases h
        | true =>
          rw [hle] at h
          simp only [cond_true] at h
          have hle':args.length≤fn.ntmps:=by simpa using hle
          have hl:=hr.len
          refine callsIn_of_wp_marks hf hb trivial ?_
          have ha:Ag ρ (argE fn.ntmps args).length (argE fn.ntmps args) { tmps:=args'.toArray++Array.replicate (fn.ntmps-args'.toArray.size) undef,defers:=[] }:=by
            refine ⟨by simp [qe5]; omega,rfl,fun x v hx=>?_⟩
            obtain ⟨u,h1,h2⟩:=qgI hr hx
            have hlt:=(List.getElem?_eq_some_iff.1 h1).1
            simp only [Array.getD_eq_getD_getElem?]
            rw [Array.getElem?_append_left (by simpa using hlt)]
            have:args'.toArray[x]?=some u:=by simpa using h1
            rw [this]; exact h2
          split at h
          · rename_i L1 h1
            refine hg.code h1 (rd':=none) trivial ha trivial hs fun x1 E1 ds1 s1 hm1 ρ1 a1 w1 p1 p2 p3 p4=>?_
            obtain ⟨L2,h2,hL2⟩:=Qg h _ hm1
            have key:∀ {s2:St} {v:AV},leaveM ds1 s1=some s2→retV P E1 s2 fn.results.toList=some v→L2=[(.val v,s2)]→LeavesInM Fence.wide 0 P fn a1.tmps (Post w0 ρ L) a1.defers .returning w1:=by
              rintro s2 v h3 h4 rfl
              exact Y4 h3 p3 p4 fun w2 hs2=>by
                obtain ⟨u,k1,k2⟩:=qcN p2 hs2 h4
                exact ⟨u,k2,v,s2,ρ1,u,hL2 _ List.mem_cons_self,p1,rfl,k1,hs2⟩
            have fin:x1≠.nrm→x1≠.ret→False:=fun n1 n2=>by
              cases x1 with
              | nrm=>exact n1 rfl
              | ret=>exact n2 rfl
              | ext id=>cases h2
            unfold endF at h2
            cases x1 with
            | nrm =>
              simp only at h2
              split at h2
              · rename_i s2 h3
                split at h2
                · rename_i v2 h4
                  cases h2
                  exact key h3 h4 rfl
                · cases h2
              · cases h2
            | ret =>
              simp only at h2
              split at h2
              · rename_i s2 h3
                split at h2
                · rename_i v2 h4
                  cases h2
                  exact key h3 h4 rfl
                · cases h2
              · cases h2
            | ext id=>cases h2
          · cases h
      · cases h
    · cases h
theorem qa5 (hg:Xe P w0 rec_) {l:Nat} {args:List AV} {s:St} {L:List (Rs × St)} (h:stepR rec_ l args s=some L) {ρ:Rho} {w:World} {args':List Value} {r c:Nat} (hl:ρ[l]?=some (r,c)) (hr:AV.Rs ρ args args') (hs:qD w0 ρ s w):YieldAt Fence.wide 0 P r args'.toArray w (Post w0 ρ L):=by
  unfold stepR at h
  split at h
  · rename_i ps asg body E m ho
    cases hlen:Nat.beq args.length ps.length with
    | false=>rw [hlen] at h; cases h
    | true =>
      rw [hlen] at h
      simp only [cond_true] at h
      have hlen':args.length=ps.length:=by simpa using hlen
      have hl1:=hr.len
      obtain ⟨_,_,g3⟩:=hs.obs l r c hl
      rw [ho] at g3
      obtain ⟨R,f1,f2,f3,f4,f5,f6,f7,f8,f9⟩:=g3
      have hy:=run_yield (P:=P) (args:=args'.toArray) f1 (by rw [f4]; simp; omega)
      refine ⟨_,_,_,_,hy,roundIn_of_wpIn (F:=Fence.wide) trivial ?_⟩
      split at h
      · rename_i L1 h1
        have hA0:Ag ρ E.length E { tmps:=R.tmps,defers:=[] }:=⟨f8,rfl,f9⟩
        have hA:=qaj (ps:=ps) (us:=args') hA0 hr
        have e1:({ tmps:=(R.params.zip args'.toArray).foldl (fun t (x:Nat × Value)=>t.setIfInBounds x.1 x.2) R.tmps,defers:=[] }:Act)={ tmps:=(ps.zip args').foldl (fun t (x:Nat × Value)=>t.setIfInBounds x.1 x.2) R.tmps,defers:=[] }:=by
          rw [f4]; simp
        have hA':Ag ρ (putsE ps args E).length (putsE ps args E) { tmps:=(R.params.zip args'.toArray).foldl (fun t (x:Nat × Value)=>t.setIfInBounds x.1 x.2) R.tmps,defers:=[] }:=by
          rw [Ku]; exact e1 ▸ hA
        rw [← f5] at h1
        refine hg.code h1 (rd':=some r) ⟨c,hl⟩ hA' trivial hs fun x1 E1 ds1 s1 hm1 ρ1 a1 w1 p1 p2 p3 p4=>?_
        obtain ⟨L2,h2,hL2⟩:=Qg h _ hm1
        split at h2
        · rename_i E2 s1' heq
          cases heq
          split at h2
          · rename_i ps2 asg2 body2 E3 m2 ho2
            have hl2:=zQ p1 hl
            obtain ⟨k1,k2,k3⟩:=p4.obs l r c hl2
            rw [ho2] at k3
            obtain ⟨R2,b1,b2,b3,b4,b5,b6,b7,b8,b9⟩:=k3
            have hbr:=run_beginRound (P:=P) b1 b2
            refine ⟨_,hbr,?_⟩
            have hs2:qD w0 ρ1 (s1.put l (.loop .busy none ps2 asg2 body2 E3 m2)) (w1.putObj r (.loop { R2 with state:=.busy })) :=
              p4.turn hl2 (by rw [ho2]; simp) ⟨rfl,rfl,rfl,by simp,fun k hk=>World.putObj_heap_other (by omega)⟩ (fun k hk=>World.putObj_heap_other hk) (by
                rw [World.putObj_heap_same k2]
                exact ⟨_,rfl,rfl,b3,b4,b5,b6,b7,b8,b9⟩)
            have hd0:a1.defers=[]:=by
              cases hdd:a1.defers with
              | nil=>rfl
              | cons y ys=>rw [hdd] at p3; simp [Dag] at p3
            split at h2
            · rename_i L3 h3
              rw [f6]
              refine hg.code h3 (rd':=some r) ⟨c,hl2⟩ p2 (by rw [hd0]; trivial) hs2 fun x E4 ds4 s3 hm3 ρ3 a3 w3 q1 q2 q3 q4=>?_
              obtain ⟨L4,h4,hL4⟩:=Qg h2 _ hm3
              unfold endRd at h4
              simp only at h4
              · split at h4
                · rename_i st5 pe5 ps4 asg4 body4 E5 m4 ho4
                  have hl3:=zQ q1 hl2
                  obtain ⟨d1,d2,d3⟩:=q4.obs l r c hl3
                  rw [ho4] at d3
                  obtain ⟨R4,t1,t2,t3,t4,t5,t6,t7,t8,t9⟩:=d3
                  have done:∀ (j:Option Code) (st:LoopState),(if j.isNone then LoopState.ready else .done)=st→L4=[(.val (.vl (.bool j.isNone)),s3.put l (.loop st j ps4 asg4 body4 E5 m4))]→∃ v2 w2,(Instr.endRound r j).run P w3=.ok v2 w2∧Post w0 ρ L (.returned v2) w2:=by
                    rintro j st rfl rfl
                    refine ⟨_,_,run_endRound j t1,_,_,ρ3,_,hL2 _ (hL4 _ List.mem_cons_self),p1.trans q1,rfl,rfl,q4.turn hl3 (by rw [ho4]; simp) ⟨rfl,rfl,rfl,by simp,fun k hk=>World.putObj_heap_other (by omega)⟩ (fun k hk=>World.putObj_heap_other hk) ?_⟩
                    rw [World.putObj_heap_same d2]
                    exact ⟨_,rfl,rfl,rfl,t4,t5,t6,t7,t8,t9⟩
                  cases x with
                  | nrm=>cases h4; exact done none .ready rfl rfl
                  | ret=>cases h4; exact done (some .ret) .done rfl rfl
                  | ext id=>cases h4; exact done (some (.exit id)) .done rfl rfl
                · cases h4
            · cases h2
          · cases h2
        · cases h2
      · cases h
  · cases h
theorem good (hm:P.follows .mixedOrders=true) (hn:namesOk P) (hx:qbR P w0 xr):∀ k,Xe P w0 (ev P xr k):=by
  intro k
  induction k using Nat.strongRecOn with
  | _ k ih =>
    cases k with
    | zero=>exact ⟨fun h=>(nomatch h),fun h=>(nomatch h),fun h=>(nomatch h),fun h=>(nomatch h)⟩
    | succ k =>
      have hg:=ih k (Nat.lt_succ_self k)
      refine ⟨fun h _ _ _ hr hs=>qgb hg hx h hr hs,fun {f args s L} h args' w=>?_,fun h _ _ _ _ _ hl hr hs=>qa5 hg h hl hr hs,fun h _ _ _ _ _ hr ha hd hs hE=>qaZ hm hg (fun h _ _ _ _ _ hr ha hd hs hE=>qcY (fun m hm=>ih m (Nat.lt_succ_of_le hm)) h hr ha hd hs hE) h hr ha hd hs hE⟩
      have h:stepF P xr (ev P xr k) f args s=some L:=h
      unfold stepF at h
      split at h
      · rename_i v2 s2 he
        obtain ⟨fn,c,h1,h2⟩:=hx.enter he
        exact qaF hn h1 h2 _ _
      · cases h
      · split at h
        · rename_i fn hf
          split at h
          · rename_i c hb
            exact qaF hn hf hb _ _
          · cases h
        · cases h
end
end Go.Sl.Ev
namespace Go.Sl.Ev
open Go.RowKit
section
variable {P:Program} {w0:World} {xr:FuncId→List AV→St→Option (Option (AV × St))}
noncomputable def xFields (F:FuncId) (e:TypeId) (f:FuncId) (args:List AV) (s:St):Option (Option (AV × St)) :=
  bif Nat.beq f F then some (match args with
    | [.vl (.string b)]=>bif Nat.blt b.size 4294967281 && b.data.toList.all (fun c=>Nat.blt c.toNat 128) then
        (match s.new (.c e ((Lib.fields b.data.toList).map fun l=>.vl (.string ⟨l.toArray⟩))) with
        | some (r,s')=>some (.sl r 0 (Lib.fields b.data.toList).length (Lib.fields b.data.toList).length,s')
        | none=>none) else none
    | _=>none) else none
theorem qaD {F:FuncId} {e:TypeId} (hb:∃ fn c,P.funcs[F]?=some fn∧fn.body=some c)
    (h:∀ (s:ByteArray) (w:World),Below w0.heap.size w0 w→s.size<4294967281→(∀ (j:Nat) b,s.data.toList[j]?=some b→b.toNat<128) →
      Calls P F #[.string s] w fun en w'=>en=.returned (.slice (some ⟨w.heap.size,0,none⟩) (Lib.fields s.data.toList).length (Lib.fields s.data.toList).length)∧w'=w.alloc (.cells ((Lib.fields s.data.toList).map fun l=>Value.string ⟨l.toArray⟩).toArray e)) :
    qbR P w0 (xFields F e):=by
  have at_:∀ {f:FuncId} {args:List AV} {s:St} {r:AV × St},xFields F e f args s=some (some r)→f=F:=fun {f args s r} h=>by
    unfold xFields at h
    by_cases e:f=F
    · exact e
    · rw [zz e] at h; cases h
  refine ⟨fun h=>by rw [at_ h]; exact hb,fun {f args s s' v} hx ρ w args' hr hs=>?_⟩
  have hf:=at_ hx
  subst hf
  unfold xFields at hx
  simp only [Nat.beq_refl,cond_true,Option.some.injEq] at hx
  split at hx
  · rename_i b
    obtain ⟨q1,q2,hx⟩:=two hx
    have q1':b.size<4294967281:=by simpa [Nat.blt_eq] using q1
    split at hx
    · rename_i r s2 hn
      cases hx
      match args',hr with
      | [y],hr =>
        have hy:y=.string b:=hr.1
        subst hy
        have hc:=h b w hs.below q1' (fun j c hj=>by
          have:=List.all_eq_true.1 q2 c (List.mem_of_getElem? hj)
          simpa [Nat.blt_eq] using this)
        refine (callsIn_wide.2 hc).mono ?_
        rintro en w' ⟨rfl,rfl⟩
        have hR:AV.Rs ρ ((Lib.fields b.data.toList).map fun l=>AV.vl (.string ⟨l.toArray⟩)) (((Lib.fields b.data.toList).map fun l=>Value.string ⟨l.toArray⟩).toArray).toList:=by
          have:=AV.Rs.vs (ρ:=ρ) ((Lib.fields b.data.toList).map fun l=>Value.string ⟨l.toArray⟩)
          rw [List.map_map] at this
          exact this
        obtain ⟨h1,h2,h3⟩:=hs.row hn hR
        exact ⟨_,_,_,_,List.mem_cons_self,h1,rfl,⟨_,_,h2,rfl⟩,h3⟩
      | [],hr=>simp [AV.Rs] at hr
      | _::_::_,hr=>simp [AV.Rs] at hr
    · cases hx
  · cases hx
noncomputable def isT:Rs × St→Bool
  | (.val (.vl (.bool true)),_)=>true
  | _=>false
noncomputable def evT (P:Program) (xr:FuncId→List AV→St→Option (Option (AV × St))) (k:Nat) (f:FuncId):Bool:=match ev P xr k (.fn f []) ⟨0,.u .dead⟩ with
  | some L=>L.all isT
  | none=>false
theorem qaf (w:World):qD w [] ⟨0,.u .dead⟩ w:=⟨Below.refl _ _,rfl,by simp,fun b r c h=>by simp at h,fun b b' r c c' h=>by simp at h⟩
theorem qeO {k:Nat} {f:FuncId} {T:World→Prop} (hm:P.follows .mixedOrders=true) (hn:namesOk P) (hx:∀ w0 w,T w0→Below w0.heap.size w0 w→qbR P w xr) (h:evT P xr k f=true):Qc P T f [] (.bool true):=by
  intro w0 H hT w hs
  unfold evT at h
  split at h
  · rename_i L he
    have hg:=good hm hn (hx w0 w hT hs.below) k
    have hc:=hg.fn he (ρ:=[]) (w:=w) (args':=[]) trivial (qaf w)
    refine hc.mono ?_
    rintro e w' ⟨v,s',ρ',u,hm',_,rfl,hu,hs'⟩
    have:=List.all_eq_true.1 h _ hm'
    unfold isT at this
    split at this
    · rename_i heq
      cases heq
      cases hu
      exact ⟨_,_,rfl,⟨rfl,rfl⟩,hs.below' hs'.below⟩
    · cases this
  · cases h
end
end Go.Sl.Ev
namespace Go.Sl.Ev
open Go.RowKit
mutual
noncomputable def gr:AV→Option Value
  | .vl x=>some x
  | .tu l=>match grs l with
    | some m=>some (.tuple m.toArray)
    | none=>none
  | .ag l=>match grs l with
    | some m=>some (.agg m.toArray)
    | none=>none
  | _=>none
noncomputable def grs:List AV→Option (List Value)
  | []=>some []
  | x::l=>match gr x with
    | some y=>match grs l with
      | some m=>some (y::m)
      | none=>none
    | none=>none
end
mutual
theorem qci {ρ:Rho}:∀ {v:AV} {x u:Value},gr v=some x→AV.R ρ v u→u=x
  | .vl y,x,u,h,hr=>by
    simp only [gr,Option.some.injEq] at h
    subst h; exact hr
  | .tu l,x,u,h,hr=>by
    simp only [gr] at h
    split at h
    · rename_i m hm
      cases h
      obtain ⟨l',rfl,h2⟩:=hr
      rw [← XT hm h2]
    · cases h
  | .ag l,x,u,h,hr=>by
    simp only [gr] at h
    split at h
    · rename_i m hm
      cases h
      obtain ⟨l',rfl,h2⟩:=hr
      rw [← XT hm h2]
    · cases h
  | .pt _ _,_,_,h,_=>by simp [gr] at h
  | .sl _ _ _ _,_,_,h,_=>by simp [gr] at h
  | .sz _ _ _ _,_,_,h,_=>by simp [gr] at h
  | .em,_,_,h,_=>by simp [gr] at h
  | .fn _ _ _,_,_,h,_=>by simp [gr] at h
  | .yi _,_,_,h,_=>by simp [gr] at h
  | .mh _,_,_,h,_=>by simp [gr] at h
theorem XT {ρ:Rho}:∀ {l:List AV} {m us:List Value},grs l=some m→AV.Rs ρ l us→us=m
  | [],m,[],h,_=>by
    simp only [grs,Option.some.injEq] at h
    exact h
  | [],_,_::_,_,hr=>by simp [AV.Rs] at hr
  | _::_,_,[],_,hr=>by simp [AV.Rs] at hr
  | x::l,m,u::us,h,hr=>by
    simp only [grs] at h
    split at h
    · rename_i y hy
      split at h
      · rename_i m' hm
        cases h
        rw [qci hy hr.1,XT hm hr.2]
      · cases h
    · cases h
end
section
variable {P:Program} {xr:FuncId→List AV→St→Option (Option (AV × St))}
noncomputable def evG (P:Program) (xr:FuncId→List AV→St→Option (Option (AV × St))) (k:Nat) (f:FuncId) (args:List AV):Option Value:=match ev P xr k (.fn f args) ⟨0,.u .dead⟩ with
  | some [(.val v,_)]=>gr v
  | _=>none
theorem qc8 (P:Program) (w0:World):qbR P w0 (fun _ _ _=>none):=⟨fun h=>(by cases h),fun h=>(by cases h)⟩
theorem qeP {k:Nat} {f:FuncId} {args:List AV} {args':List Value} {x:Value} {T:World→Prop} (hm:P.follows .mixedOrders=true) (hn:namesOk P) (hx:∀ w0 w,T w0→Below w0.heap.size w0 w→qbR P w xr) (ha:AV.Rs [] args args') (h:evG P xr k f args=some x):Qc P T f args' x:=by
  intro w0 H hT w hs
  unfold evG at h
  split at h
  · rename_i v s' he
    have hg:=good hm hn (hx w0 w hT hs.below) k
    have hc:=hg.fn he (ρ:=[]) (w:=w) ha (qaf w)
    refine hc.mono ?_
    rintro e w' ⟨v2,s2,ρ',u,hm',_,rfl,hu,hs'⟩
    cases List.mem_singleton.1 hm'
    exact ⟨_,_,rfl,⟨qci h hu,rfl⟩,hs.below' hs'.below⟩
  · cases h
end
end Go.Sl.Ev
namespace Go.Sl
open Go.RowKit
section
variable {P:Program} {n:Nat} {env:Env} {x y:Operand} {t u ty:TypeId}
theorem qa2 {ad:Option Addr} {s by_:Nat} {e:TypeId} {z:Value} (ht:Ty P t (.pointer e) s z by_) (w:World):(Op.equal t (.pointer none) (.pointer ad)).run P w=.ok ad.isNone w:=by
  have h1:∀ m,(Op.equalIn (m+1) t (.pointer none) (.pointer ad)).run P w=.ok ad.isNone w:=fun m=>by
    simp only [Op.equalIn,Sem.run_bind,ht.run,Result.andThen]
    cases ad <;> rfl
  exact h1 9999
theorem qaJ {ad:Option Addr} {s by_:Nat} {e:TypeId} {z:Value} {C:World→Prop} (hx:opv env x=some (.pointer none)) (hy:opv env y=some (.pointer ad)) (ht:Ty P t (.pointer e) s z by_) :
    Ex P n env C (.binOp .eql t x y u) ty (.bool ad.isNone):=fun a w d pos aft g ha _=>by
  have he:(eqGuard .eql t x y (.pointer none) (.pointer ad)).run P w=.ok () w:=by simp [eqGuard]
  have h2:(Go.binOp .eql t (.pointer none) (.pointer ad)).run P w=.ok (.bool ad.isNone) w:=by
    simp [Go.binOp,qa2 ht,Result.andThen]
  simp [execOp,ha.opv hx,ha.opv hy,he,h2,Result.andThen]
end
end Go.Sl
namespace Go.Sl
open Go.RowKit
theorem qQ.toHolds {w0:World} {e:TypeId} {s:Nat} {ad:Option Addr} {n cap:Nat} {xs:List Value} {HB H:qg} (h:qQ e s (.slice ad n cap) n xs HB) (hs:∀ p∈HB,p∈H):qq w0 H ad xs:=by
  obtain ⟨ad',cap',e',_,_,hh⟩:=qq.of_own (w0:=w0) (H:=H) h hs
  cases e'
  exact hh
end Go.Sl
namespace Go.Sl
open Go.RowKit
section
variable {P:Program} {C:World→Prop} {K:Act→World→Prop} {n:Nat} {ops:Array Oper} {env:Env} {rest:List Oper} {op:Op} {ty:TypeId} {v:Value} {pos:String} {aft:Array Edge}
end
theorem Ex.mono {P:Program} {n:Nat} {env:Env} {C C':World→Prop} {op:Op} {ty:TypeId} {v:Value} (h:∀ w,C w→C' w) (hx:Ex P n env C' op ty v):Ex P n env C op ty v:=fun a w d pos aft g ha hw=>hx a w d pos aft g ha (h w hw)
end Go.Sl
namespace Go.Sl
open Go
section
variable {P:Program} {rd:Option Nat} {w0:World} {Q:Exit→Act→World→Prop} {n:Nat} {ds:List Deferred} {k:List It} {env env':Env} {H H':qg} {all:Array Oper} {rest:List Oper}
variable {d:Nat} {x y c:Operand} {t u ty:TypeId} {pos:String} {aft:Array Edge} {v:Value} {tys:Array TypeId}
theorem qdm {ad:Option Addr} {len cap hh m s es by_ eb:Nat} {hi mx:Operand} {q2 q3:IntKind} {e:TypeId} {z ez:Value} {ed:TypeDesc} (hx:opv env x=some (.slice ad len cap)) (ht:Ty P t (.slice e) s z by_) (he:Ty P e ed es ez eb)
    (hhi:opv env hi=some (.int q2 (hh:Int))) (hmx:opv env mx=some (.int q3 (m:Int))) (h2:hh≤m) (h3:m≤cap) (hd:Nat.blt d n=true)
    (h:W P rd w0 Q n ds (.ops all rest::k) ((d,.slice ad hh m)::env) H):W P rd w0 Q n ds (.ops all (⟨some d,.slice t x none (some hi) (some mx),ty,pos,aft,none⟩::rest)::k) env H :=
  q5 (v:=.slice ad hh m) rfl nofun hd (fun a w ha _=>by
    have hb:(Instr.sliceBounds true len cap none (some (a.eval hi)) (some (a.eval mx))).run P w=.ok (0,hh,m) w:=by
      simp [Instr.sliceBounds,ha.opv hhi,ha.opv hmx,Instr.sliceBound,asIntOf,h2,h3,Result.andThen]
    have ea:∀ x:Option Addr,(if m=0 then x else x.map (·.add (0*es)))=x:=fun x=>by
      split
      · rfl
      · cases x <;> simp [Addr.add]
    have ea':(if m=0 then ad else ad.map (·.add 0))=ad:=by have:=ea ad; rwa [Nat.zero_mul] at this
    simp [execOp,ha.opv hx,Instr.sliceAt,Instr.slice,ht.run,hb,he.size,Result.andThen,ea']) h
end
end Go.Sl
