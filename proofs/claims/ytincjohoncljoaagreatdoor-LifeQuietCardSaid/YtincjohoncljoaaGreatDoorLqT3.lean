/-
  Own work: contracts of functions that the statement reaches, and plain facts on what they compute; each theorem says its conditions.
-/
import Derived.Test.YtincjohoncljoaaGreatDoorLqT2
import Derived.Test.YtincjohoncljoaaGreatDoorLqS2
import Derived.Test.YtincjohoncljoaaGreatDoorLqS1
import Derived.Test.YtincjohoncljoaaGreatDoorLqS3
import Derived.Test.YtincjohoncljoaaGreatDoorLqA
set_option linter.all false
set_option linter.unusedSimpArgs false
set_option linter.unusedVariables false
set_option maxHeartbeats 16000000
namespace Go.Proofs.YtincjohoncljoaaGreatDoor
open Go Go.Sl
variable {l buf rn of_:List Int} {i z R rb b h n j cap k bd bw bm now turn c s a pb bi:Nat} {x y id cpu:Int} {w0:World} {H HB:qg} {ad:Option Addr} {sl:List Value} {bs rbs:List Nat} {e:Qu} {XS:List qg} {Q Rs:List (Int × Int)} {v:Value}
attribute [local irreducible] W
structure Q4 (R:Nat) (l buf:List Int) (h:Nat):Prop where
 pos:0<R
 room:R≤256
 len:buf.length=R
 head:h<R
 most:l.length≤R
 at_:∀ (i:Nat) x,l[i]?=some x→buf[(h+i)%R]?=some x
inductive J9 (R rb:Nat) (l:List Int):qg→Prop
 | mk {b h:Nat} {buf:List Int} (hI:Q4 R l buf h):J9 R rb l [(rb,.cells 412 3 [.slice (some ⟨b,0,none⟩) R R,.int .i64 ((h:Nat):Int),.int .i64 ((l.length:Nat):Int)]),(b,.cells 3 (R*1) ((buf).map (Value.int .i64)))]
def atV (l:List Int) (z:Int):Value:=if 0≤z then (match l[z.toNat]? with
 | some x=>.tuple #[.int .i64 x,.bool true]
 | none=>.tuple #[.int .i64 0,.bool false]) else .tuple #[.int .i64 0,.bool false]
theorem qlX (h:l[i]?=some x):atV l (i:Int)=.tuple #[zi x,.bool true]:=by
 unfold atV
 rw [if_pos (by omega),show ((i:Nat):Int).toNat=i by omega,h]
theorem qg2 {z:Int} (h:z<0∨(l.length:Int)≤z):atV l z=.tuple #[zi 0,.bool false]:=by
 unfold atV
 by_cases c:0≤z
 ·rw [if_pos c,List.getElem?_eq_none (by omega)]
 ·rw [if_neg c]
theorem tmN' (a b:Nat):((a:Int)).tmod (b:Int)=((a%b:Nat):Int):=by
 rw [Int.tmod_eq_emod_of_nonneg (Int.natCast_nonneg _)]; exact (Int.natCast_emod _ _).symm
theorem KE (hm:(rb,.cells 412 3 [.slice (some ⟨b,0,none⟩) R R,zi ((h:Nat):Int),zi ((n:Nat):Int)])∈H) (hp:0<R) (hR:R≤256) (hh:h<R) (hi:i≤1000000) :qB Tryz.prog w0 H 270 [zp rb,zi (i:Int)] (zi (((h+i)%R:Nat):Int)):=by
 refine qc Tryz.func270 rfl Tryz.ntmps270 rfl rfl (za 3 rfl (zh zk zK (zq 3 rfl ?_)))
 refine qG (qj (v:=zi ((h:Nat):Int)) rfl ty3 rfl (qf.own (b:=rb) hm rfl)) rfl ?_
 refine zq 1 rfl ?_
 refine qG (QU rfl rfl (qQ (m:=((h+i:Nat):Int)) (by rw [zg (by omega)]; omega))) rfl ?_
 refine zq 3 rfl ?_
 refine qG (qj (v:=.slice (some ⟨b,0,none⟩) R R) rfl qZ rfl (qf.own (b:=rb) hm rfl)) rfl ?_
 refine qG (Ku rfl qZ rfl) rfl ?_
 refine qG (QU rfl rfl (YK zO (m:=(((h+i)%R:Nat):Int)) (tmN' (h+i) R))) rfl ?_
 refine zq 1 rfl (zX ?_)
 refine qd (H2:=H) Tryz.results270 rfl (.nil _) zH ?_
 exact ⟨rfl,rfl⟩
theorem qjl (hm:(rb,.cells 412 3 [.slice (some ⟨b,0,none⟩) R R,zi ((h:Nat):Int),zi ((n:Nat):Int)])∈H) :qB Tryz.prog w0 H 192 [zp rb] (zi (n:Int)):=by
 refine qc Tryz.func192 rfl Tryz.ntmps192 rfl rfl (za 6 rfl ?_)
 refine W_x (qr rfl rfl Yz) (fun _ h=>by cases h) rfl ?_
 refine za 7 rfl ?_
 refine qe (v:=zi ((n:Nat):Int)) rfl ty3 rfl (qf.own (b:=rb) hm rfl) rfl ?_
 refine za 2 rfl ?_
 refine qd (H2:=H) Tryz.results192 rfl (.nil _) zH ?_
 exact ⟨rfl,rfl⟩
theorem qph (hI:Q4 R l buf h) (hm:(rb,.cells 412 3 [.slice (some ⟨b,0,none⟩) R R,zi ((h:Nat):Int),zi ((l.length:Nat):Int)])∈H) (hb:(b,.cells 3 (R*1) ((buf).map (Value.int .i64)))∈H) {z:Int} (hz:z<0) :qB Tryz.prog w0 H 273 [zp rb,zi z] (atV l z):=by
 refine qc Tryz.func273 rfl Tryz.ntmps273 rfl rfl (za 7 rfl ?_)
 refine W_x (qr rfl rfl Yz) (fun _ h=>by cases h) rfl ?_
 refine za 5 rfl ?_
 rw [decide_eq_true hz]
 refine za 19 rfl ?_
 refine qL (H2:=H) Tryz.results273 rfl rfl (.nil _) zH ?_
 exact ⟨(qg2 (.inl hz)).symm,rfl⟩
theorem qpj (hI:Q4 R l buf h) (hm:(rb,.cells 412 3 [.slice (some ⟨b,0,none⟩) R R,zi ((h:Nat):Int),zi ((l.length:Nat):Int)])∈H) (hb:(b,.cells 3 (R*1) ((buf).map (Value.int .i64)))∈H) {z:Int} (hz:(l.length:Int)≤z) :qB Tryz.prog w0 H 273 [zp rb,zi z] (atV l z):=by
 refine qc Tryz.func273 rfl Tryz.ntmps273 rfl rfl (za 7 rfl ?_)
 refine W_x (qr rfl rfl Yz) (fun _ h=>by cases h) rfl ?_
 refine za 5 rfl ?_
 rw [decide_eq_false (by omega)]
 refine za 11 rfl ?_
 refine qe (v:=zi ((l.length:Nat):Int)) rfl ty3 rfl (qf.own (b:=rb) hm rfl) rfl ?_
 refine za 2 rfl ?_
 rw [decide_eq_true (by omega)]
 refine za 11 rfl ?_
 refine qL (H2:=H) Tryz.results273 rfl rfl (.nil _) zH ?_
 exact ⟨(qg2 (.inr hz)).symm,rfl⟩
theorem qpi (hI:Q4 R l buf h) (hm:(rb,.cells 412 3 [.slice (some ⟨b,0,none⟩) R R,zi ((h:Nat):Int),zi ((l.length:Nat):Int)])∈H) (hb:(b,.cells 3 (R*1) ((buf).map (Value.int .i64)))∈H) (hx:l[i]?=some x) :qB Tryz.prog w0 H 273 [zp rb,zi (i:Int)] (.tuple #[zi x,.bool true]):=by
 have hil:=(List.getElem?_eq_some_iff.1 hx).1
 have hmost:=hI.most
 have hroom:=hI.room
 have hbx:=hI.at_ i x hx
 have hpl:(h+i)%R<R:=Nat.mod_lt _ hI.pos
 refine qc Tryz.func273 rfl Tryz.ntmps273 rfl rfl (za 7 rfl ?_)
 refine W_x (qr rfl rfl Yz) (fun _ h=>by cases h) rfl ?_
 refine za 5 rfl ?_
 rw [decide_eq_false (by omega)]
 refine za 11 rfl ?_
 refine qe (v:=zi ((l.length:Nat):Int)) rfl ty3 rfl (qf.own (b:=rb) hm rfl) rfl ?_
 refine za 2 rfl ?_
 rw [decide_eq_false (by omega)]
 refine za 4 rfl (zh zk zK (zq 3 rfl ?_))
 refine qG (qj (v:=.slice (some ⟨b,0,none⟩) R R) rfl qZ rfl (qf.own (b:=rb) hm rfl)) rfl ?_
 refine zq 2 rfl ?_
 refine Zx (zc2 rfl rfl) Tryz.call270 rfl (KE (i:=i) hm hI.pos hI.room hI.head zO) ?_
 refine qG (qW (j:=(h+i)%R) rfl rfl qZ ty3 (by first | rfl | omega) (by first | decide | omega | simp) rfl) rfl ?_
 refine qG (qj (v:=zi x) rfl ty3 rfl (by rw [Nat.mul_one]; exact qf.own (b:=b) hb (by rw [Nat.zero_add,List.getElem?_map,hbx]; rfl))) rfl ?_
 refine zq 2 rfl (zX ?_)
 refine qL (H2:=H) Tryz.results273 rfl rfl (.nil _) zH ?_
 exact ⟨rfl,rfl⟩
theorem qjm (hI:Q4 R l buf h) (hm:(rb,.cells 412 3 [.slice (some ⟨b,0,none⟩) R R,zi ((h:Nat):Int),zi ((l.length:Nat):Int)])∈H) (hb:(b,.cells 3 (R*1) ((buf).map (Value.int .i64)))∈H) {z:Int}:qB Tryz.prog w0 H 273 [zp rb,zi z] (atV l z):=by
 by_cases h0:z<0
 ·exact qph hI hm hb h0
 ·by_cases h1:(l.length:Int)≤z
  ·exact qpj hI hm hb h1
  ·obtain ⟨i,rfl⟩:∃ i:Nat,z=(i:Int):=⟨z.toNat,by omega⟩
   obtain ⟨x,hx⟩:∃ x,l[i]?=some x:=⟨_,List.getElem?_eq_getElem zO⟩
   rw [qlX hx]
   exact qpi hI hm hb hx
theorem Q4.start (h0:0<R) (h1:R≤256):Q4 R [] (List.replicate R 0) 0 :=
 ⟨h0,h1,List.length_replicate,h0,Nat.zero_le _,fun i x h=>by simp at h⟩
theorem qpg (h0:0<R) (h1:R≤256) :qh Tryz.prog w0 274 #[zi (R:Int)] (H) (fun v H'=>∃ rb HB,v=.tuple #[zp rb,zi 0]∧J9 R rb [] HB∧H'=HB++H):=by
 refine qc (l:=[zi (R:Int)]) Tryz.func274 rfl Tryz.ntmps274 rfl rfl ?_
 refine za 9 rfl ?_
 apply YR
 iterate 4 exact rfl
 case h1 =>
  intro hg2
  refine za 4 rfl ?_
  exact Q3 rfl zR
 refine qs ?_
 refine QA rfl (by simp; omega) ?_
 refine za 3 rfl ?_
 refine J5 (ln:=R) (cp:=R) (l:=(List.replicate R (0:Int)).map (Value.int .i64)) rfl rfl qZ ty3 rfl rfl (Nat.le_refl _) (by omega) (by simp only [maxLen]; omega) (by rw [Nat.mul_one]; simp [toList_madeCells_one,Value.cells]) rfl (fun b11=>?_)
 refine qX (l:=[.slice (some ⟨b11,0,none⟩) R R,zi 0,zi 0]) ty412 pl412 (.cons rfl rfl rfl rfl rfl .nil) rfl rfl rfl ?_
 refine qK (l:=[.slice (some ⟨b11,0,none⟩) R R,zi 0,zi 0]) rfl rfl rfl (fun b13=>?_)
 refine za 3 rfl ?_
 refine qL (H2:=[(b13,.cells 412 3 [.slice (some ⟨b11,0,none⟩) R R,zi 0,zi 0]),(b11,.cells 3 (R*1) ((List.replicate R (0:Int)).map (Value.int .i64)))]++H) Tryz.results274 rfl rfl (.nil _) zH ?_
 exact ⟨b13,_,rfl,.mk (Q4.start h0 h1),rfl⟩
theorem qfE (h:buf[j]?=some y) (hne:i≠j):(buf.set i x)[j]?=some y:=by rw [List.getElem?_set_ne hne]; exact h
theorem Q4.pop (hI:Q4 R (x::l) buf h):Q4 R l (buf.set h 0) ((h+1)%R):=by
 obtain ⟨h1,h2,h3,h4,h5,h6⟩:=hI
 simp only [List.length_cons] at h5
 refine ⟨h1,h2,by rw [List.length_set,h3],Nat.mod_lt _ h1,by omega,fun i y hy=>?_⟩
 have hi:=(List.getElem?_eq_some_iff.1 hy).1
 have e:((h+1)%R+i)%R=(h+(i+1))%R:=by rw [Nat.mod_add_mod]; congr 1; omega
 rw [e]
 refine qfE (h6 (i+1) y (by simpa using hy)) ?_
 by_cases c:h+(i+1)<R
 ·rw [Nat.mod_eq_of_lt c]; omega
 ·have e2:(h+(i+1))%R=h+(i+1)-R:=by rw [Nat.mod_eq_sub_mod (by omega),Nat.mod_eq_of_lt (by omega)]
  omega
theorem Q4.push (hI:Q4 R l buf h) (hr:l.length<R):Q4 R (l++[x]) (buf.set ((h+l.length)%R) x) h:=by
 obtain ⟨h1,h2,h3,h4,h5,h6⟩:=hI
 refine ⟨h1,h2,by rw [List.length_set,h3],h4,by rw [List.length_append,List.length_singleton]; exact hr,fun i y hy=>?_⟩
 have hm:(h+l.length)%R<R:=Nat.mod_lt _ h1
 by_cases c:i=l.length
 ·subst c
  rw [List.getElem?_append_right (Nat.le_refl _),Nat.sub_self] at hy
  obtain rfl:x=y:=by simpa using hy
  rw [List.getElem?_set_self (by omega)]
 ·have hi:=(List.getElem?_eq_some_iff.1 hy).1
  rw [List.length_append,List.length_singleton] at hi
  rw [List.getElem?_append_left (by omega)] at hy
  refine qfE (h6 i y hy) (fun e=>c ?_)
  have e1:∀ k,k<R→(h+k)%R=if h+k<R then h+k else h+k-R:=fun k hk=>by
   split
   ·rename_i q; exact Nat.mod_eq_of_lt q
   ·rename_i q; rw [Nat.mod_eq_sub_mod (by omega),Nat.mod_eq_of_lt (by omega)]
  rw [e1 _ hr,e1 i (by omega)] at e
  split at e <;> split at e <;> omega
theorem qnm (hh:h<R) (hi:i<R) (hj:j<R) (e:(h+i)%R=(h+j)%R):i=j:=by
 have e1:∀ k,k<R→(h+k)%R=if h+k<R then h+k else h+k-R:=fun k hk=>by
  split
  ·rename_i q; exact Nat.mod_eq_of_lt q
  ·rename_i q; rw [Nat.mod_eq_sub_mod (by omega),Nat.mod_eq_of_lt (by omega)]
 rw [e1 i hi,e1 j hj] at e
 split at e <;> split at e <;> omega
theorem qm5 (hI:Q4 R (x::l) buf h) :qh Tryz.prog w0 194 #[zp rb] ((rb,.cells 412 3 [.slice (some ⟨b,0,none⟩) R R,zi ((h:Nat):Int),zi (((x::l).length:Nat):Int)])::(b,.cells 3 (R*1) ((buf).map (Value.int .i64)))::H) (fun v H'=>v=.tuple #[zi x,.bool true]∧H'=(rb,.cells 412 3 [.slice (some ⟨b,0,none⟩) R R,zi (((h+1)%R:Nat):Int),zi ((l.length:Nat):Int)])::(b,.cells 3 (R*1) ((buf.set h 0).map (Value.int .i64)))::H):=by
 have hmost:=hI.most
 have hroom:=hI.room
 have hbl:=hI.len
 have hhd:=hI.head
 simp only [List.length_cons] at hmost
 refine qc (l:=[zp rb]) Tryz.func194 rfl Tryz.ntmps194 rfl rfl ?_
 refine za 6 rfl ?_
 refine qn (zc2 rfl rfl) Tryz.call273 rfl (qjm (z:=0) hI zM zM) ?_
 rw [show atV (x::l) 0=.tuple #[zi x,.bool true] from rfl]
 refine za 15 rfl ?_
 refine W_anyC [(rb,.cells 412 3 [.slice (some ⟨b,0,none⟩) R R,zi ((h:Nat):Int),zi (((x::l).length:Nat):Int)])] zk ?_
 refine zw [0,1,2] rfl rfl ?_
 refine WC_take 3 rfl zK zK zK rfl rfl (qj (v:=.slice (some ⟨b,0,none⟩) R R) rfl qZ rfl (qf.own (b:=rb) zM rfl)) rfl ?_
 refine zw [4,5,6] rfl rfl ?_
 refine WC_take 7 rfl zK zK zK rfl rfl (qj (v:=zi ((h:Nat):Int)) rfl ty3 rfl (qf.own (b:=rb) zM rfl)) rfl ?_
 refine zw [8] rfl rfl ?_
 refine WC_take 9 rfl zK zK zK rfl rfl (qW (j:=h) rfl rfl qZ ty3 (by first | rfl | omega) (by first | decide | omega | simp) rfl) rfl ?_
 refine WC_one 10 zH zK rfl rfl ?_
 refine qv (l':=((buf.set (h) 0)).map (Value.int .i64)) rfl rfl ty3 rfl rfl (b:=b) zM (by rw [List.length_map,Nat.blt_eq]; omega) (by rw [List.map_set]; congr 1; omega) zU ?_
 refine qs (WC_goal (WC_done zH zK (za 3 rfl ?_)))
 refine qn (zc2 rfl rfl) Tryz.call270 rfl (KE (i:=1) (n:=(x::l).length) zM hI.pos hI.room hI.head zO) ?_
 refine za 2 rfl ?_
 refine qv (l':=[.slice (some ⟨b,0,none⟩) R R,zi (((h+1)%R:Nat):Int),zi (((x::l).length:Nat):Int)]) rfl rfl ty3 rfl rfl (b:=rb) zM rfl rfl zU ?_
 refine za 5 rfl ?_
 refine qe (v:=zi (((x::l).length:Nat):Int)) rfl ty3 rfl (qf.own (b:=rb) zM rfl) rfl ?_
 refine qE rfl rfl (Zw (m:=((l.length:Nat):Int)) (by rw [zg (by simp only [List.length_cons]; omega)]; simp only [List.length_cons]; omega)) rfl ?_
 refine za 2 rfl ?_
 refine qv (l':=[.slice (some ⟨b,0,none⟩) R R,zi (((h+1)%R:Nat):Int),zi ((l.length:Nat):Int)]) rfl rfl ty3 rfl rfl (b:=rb) zM rfl rfl zU ?_
 refine za 7 rfl (qL Tryz.results194 rfl rfl (.nil _) (.refl _) ?_)
 exact ⟨rfl,rfl⟩
theorem qjj (hI:Q4 R l buf h) {xs:List Int} (hxl:xs.length≤1000000) (hxc:xs.length≤cap) (hs:Holds w0 H ad (xs.map (Value.int .i64))) :qh Tryz.prog w0 184 #[zp rb,.slice ad xs.length cap] ((rb,.cells 412 3 [.slice (some ⟨b,0,none⟩) R R,zi ((h:Nat):Int),zi ((l.length:Nat):Int)])::(b,.cells 3 (R*1) ((buf).map (Value.int .i64)))::H) (fun v H'=>∃ buf',Q4 R (l++xs.take (min xs.length (R-l.length))) buf' h∧v=zi (((min xs.length (R-l.length)):Nat):Int)∧H'=(rb,.cells 412 3 [.slice (some ⟨b,0,none⟩) R R,zi ((h:Nat):Int),zi (((l.length+(min xs.length (R-l.length))):Nat):Int)])::(b,.cells 3 (R*1) ((buf').map (Value.int .i64)))::H):=by
 have hmost:=hI.most
 have hroom:=hI.room
 have hhd:=hI.head
 have hpos:=hI.pos
 obtain ⟨k,hk⟩:∃ k,k=min xs.length (R-l.length):=⟨_,rfl⟩
 rw [← hk]
 refine qc (l:=[zp rb,.slice ad xs.length cap]) Tryz.func184 rfl Tryz.ntmps184 rfl rfl ?_
 refine za 6 rfl ?_
 refine W_x (qr rfl rfl Yz) (fun _ h=>by cases h) rfl ?_
 refine za 3 rfl (zh zk zK (zq 1 rfl (qG (Ku rfl qZ rfl) rfl (zq 3 rfl ?_))))
 refine qG (qj (v:=.slice (some ⟨b,0,none⟩) R R) rfl qZ rfl (qf.own (b:=rb) zM rfl)) rfl ?_
 refine qG (Ku rfl qZ rfl) rfl (zq 3 rfl ?_)
 refine qG (qj (v:=zi ((l.length:Nat):Int)) rfl ty3 rfl (qf.own (b:=rb) zM rfl)) rfl ?_
 refine qG (QU rfl rfl (Zw (m:=((R-l.length:Nat):Int)) (by rw [zg (by omega)]; omega))) rfl ?_
 refine qG (ql9 rfl rfl (m:=((k:Nat):Int)) (by split <;> omega)) rfl ?_
 refine zq 1 rfl (zX (za 4 rfl ?_))
 refine qcV (hh:=k) rfl qZ ty3 rfl ⟨_,rfl⟩ zO rfl ?_
 refine zZ rfl qZ rfl rfl (za 3 rfl ?_)
 refine qU (X:=(Nat × List Int)) [(0,_),(5,_),(25,_),(26,_)] (fun (x:(Nat × List Int))=>[(27,zi (x.1:Int))]) (fun _=>_) (fun (x:(Nat × List Int))=>(rb,.cells 412 3 [.slice (some ⟨b,0,none⟩) R R,zi ((h:Nat):Int),zi (((l.length+x.1):Nat):Int)])::(b,.cells 3 (R*1) ((x.2).map (Value.int .i64)))::H) (fun (x:(Nat × List Int))=>x.1≤k∧Q4 R (l++xs.take x.1) x.2 h) (fun (x:(Nat × List Int))=>k-x.1) (0,buf) ⟨Nat.zero_le _,by rw [List.take_zero,List.append_nil]; exact hI⟩ (qa rfl (qa rfl (qa rfl (qa rfl (qi _))))) (qa rfl (qi _)) rfl (.refl _) ?_
 rintro ⟨i,bufi⟩ ⟨hi,hIi⟩
 dsimp only at hi hIi ⊢
 have hlen:(l++xs.take i).length=l.length+i:=by rw [List.length_append,List.length_take]; omega
 simp only [List.cons_append,List.nil_append]
 refine za 4 rfl ?_
 refine qm (p:=(i:Int)<(k:Int)) rfl (by simp) (fun q0=>?_) (fun q0=>?_)
 ·skip
  refine za 4 rfl ?_
  obtain ⟨x,hx⟩:∃ x,xs[i]?=some x:=⟨_,List.getElem?_eq_getElem zO⟩
  obtain ⟨bs,os,rfl,hcx⟩:=hs.at (i:=i) (v:=.int .i64 x) (by rw [List.getElem?_map,hx]; rfl)
  have hbl:=hIi.len
  have hpl:(h+(l.length+i))%R<R:=Nat.mod_lt _ hIi.pos
  refine qS (j:=i) rfl rfl qZ ty3 rfl zO rfl rfl ?_
  refine qe (v:=zi x) rfl ty3 rfl (by rw [Nat.mul_one i]; exact hcx.up zH) rfl ?_
  refine za 3 rfl ?_
  refine W_anyC [(rb,.cells 412 3 [.slice (some ⟨b,0,none⟩) R R,zi ((h:Nat):Int),zi (((l.length+i):Nat):Int)])] zk ?_
  refine zw [0,1,2] rfl rfl ?_
  refine WC_take 3 rfl zK zK zK rfl rfl (qj (v:=.slice (some ⟨b,0,none⟩) R R) rfl qZ rfl (qf.own (b:=rb) zM rfl)) rfl ?_
  refine zw [4,5,6,7] rfl rfl ?_
  refine WC_take 8 rfl zK zK zK rfl rfl (qj (v:=zi (((l.length+i):Nat):Int)) rfl ty3 rfl (qf.own (b:=rb) zM rfl)) rfl ?_
  refine zw [10] rfl rfl ?_
  refine WC_one 9 zH zK rfl rfl ?_
  refine qn (zc2 rfl rfl) Tryz.call270 rfl (KE (i:=l.length+i) (n:=l.length+i) zM hpos hroom hhd zO) ?_
  refine qs (WC_goal ?_)
  refine WC_take 11 rfl zK zK zK rfl rfl (qW (j:=(h+(l.length+i))%R) rfl rfl qZ ty3 (by first | rfl | omega) (by first | decide | omega | simp) rfl) rfl ?_
  refine WC_one 12 zH zK rfl rfl ?_
  refine qv (l':=(bufi.set ((h+(l.length+i))%R) x).map (Value.int .i64)) rfl rfl ty3 rfl rfl (b:=b) zM (by rw [List.length_map,Nat.blt_eq]; omega) (by rw [List.map_set]; congr 1; omega) zU ?_
  refine qs (WC_goal (WC_done zH zK (za 4 rfl ?_)))
  refine qe (v:=zi (((l.length+i):Nat):Int)) rfl ty3 rfl (qf.own (b:=rb) zM rfl) rfl ?_
  refine qE rfl rfl (qQ (m:=((l.length+(i+1):Nat):Int)) (by rw [zg (by omega)]; omega)) rfl ?_
  refine za 2 rfl ?_
  refine qv (l':=[.slice (some ⟨b,0,none⟩) R R,zi ((h:Nat):Int),zi (((l.length+(i+1)):Nat):Int)]) rfl rfl ty3 rfl rfl (b:=rb) zM rfl rfl zU ?_
  refine za 3 rfl ?_
  refine qE rfl rfl (qQ (m:=((i+1:Nat):Int)) (by rw [zg (by omega)]; omega)) rfl ?_
  refine za 2 rfl ?_
  refine qP (i+1,bufi.set ((h+(l.length+i))%R) x) ⟨by show i+1≤k; omega,by show Q4 R (l++xs.take (i+1)) _ _; rw [Jt hx,← List.append_assoc,← hlen]; exact hIi.push (by omega)⟩ (by show k-(i+1)<k-i; omega) (qa rfl (qa rfl (qa rfl (qa rfl (qa rfl (qi _)))))) rfl (.refl _)
 ·skip
  refine za 5 rfl (qd Tryz.results184 rfl (.nil _) (.refl _) ?_)
  obtain rfl:i=k:=by omega
  exact ⟨bufi,hIi,rfl,rfl⟩
theorem qm4 (hR:J9 R rb l HB) {xs:List Int} (hxl:xs.length≤1000000) (hxc:xs.length≤cap) (hs:Holds w0 H ad (xs.map (Value.int .i64))):qh Tryz.prog w0 184 #[zp rb,.slice ad xs.length cap] (HB++H) (fun v H'=>∃ HB',J9 R rb (l++xs.take (min xs.length (R-l.length))) HB'∧v=zi (((min xs.length (R-l.length)):Nat):Int)∧H'=HB'++H):=by
 cases hR with
 | mk hI =>
  refine (qjj (H:=H) hI hxl hxc hs).mono ?_
  rintro v H' ⟨buf',hI',rfl,rfl⟩
  have e:l.length+(min xs.length (R-l.length))=(l++xs.take (min xs.length (R-l.length))).length:=by rw [List.length_append,List.length_take]; omega
  rw [e]
  exact ⟨_,.mk hI',rfl,rfl⟩
theorem Q4.move (hI:Q4 R l buf h) (hk:k<l.length):Q4 R (l.set k y) (buf.set ((h+k)%R) y) h:=by
 obtain ⟨h1,h2,h3,h4,h5,h6⟩:=hI
 refine ⟨h1,h2,by rw [List.length_set,h3],h4,by rw [List.length_set]; exact h5,fun i z hz=>?_⟩
 have hm:(h+k)%R<R:=Nat.mod_lt _ h1
 by_cases c:k=i
 ·subst c
  rw [List.getElem?_set_self hk] at hz
  rw [List.getElem?_set_self (by omega),← hz]
 ·rw [List.getElem?_set_ne c] at hz
  have hi:=(List.getElem?_eq_some_iff.1 hz).1
  exact qfE (h6 i z hz) (fun e=>c (qnm h4 zO zO e))
def Yb (l:List Int) (i k:Nat):List Int:=l.take (k+1)++((l.take i).drop k++l.drop (i+1))
theorem KZ (hi:i<l.length) (hk:k≤i):(Yb l i k).length=l.length:=by
 unfold Yb; simp only [List.length_append,List.length_take,List.length_drop]; omega
theorem qdK (hi:i<l.length):Yb l i i=l:=by
 unfold Yb
 rw [List.drop_eq_nil_of_le (by rw [List.length_take]; omega),List.nil_append,List.take_append_drop]
theorem KD (hi:i<l.length) (hk:k≤i):(Yb l i k)[j]?=if j≤k then l[j]? else if j≤i then l[j-1]? else l[j]?:=by
 unfold Yb
 by_cases c:j≤k
 ·rw [if_pos c,List.getElem?_append_left (by rw [List.length_take]; omega),List.getElem?_take,if_pos (by omega)]
 ·rw [if_neg c,List.getElem?_append_right (by rw [List.length_take]; omega),List.length_take,Nat.min_eq_left (by omega)]
  by_cases d:j≤i
  ·rw [if_pos d,List.getElem?_append_left (by rw [List.length_drop,List.length_take]; omega),List.getElem?_drop,List.getElem?_take,if_pos (by omega)]
   congr 1; omega
  ·rw [if_neg d,List.getElem?_append_right (by rw [List.length_drop,List.length_take]; omega),List.getElem?_drop,List.length_drop,List.length_take]
   congr 1; omega
theorem qes (hi:i<l.length) (hk:k+1≤i) (hy:l[k]?=some y):(Yb l i (k+1)).set (k+1) y=Yb l i k:=by
 apply List.ext_getElem?
 intro j
 by_cases c:k+1=j
 ·subst c
  rw [List.getElem?_set_self (by rw [KZ hi hk]; omega),KD hi (by omega),if_neg (by omega),if_pos hk,Nat.add_sub_cancel,hy]
 ·rw [List.getElem?_set_ne c,KD hi hk,KD hi (by omega)]
  by_cases d:j≤k
  ·rw [if_pos (by omega),if_pos d]
  ·rw [if_neg (by omega),if_neg d]
theorem qfD (hi:i<l.length):∃ x,Yb l i 0=x::l.eraseIdx i:=by
 cases l with
 | nil=>simp at hi
 | cons x l =>
  refine ⟨x,?_⟩
  unfold Yb
  rw [List.eraseIdx_eq_take_drop_succ]
  rfl
theorem qji (hI:Q4 R l buf h) (hx:l[i]?=some x) :qh Tryz.prog w0 266 #[zp rb,zi (i:Int)] ((rb,.cells 412 3 [.slice (some ⟨b,0,none⟩) R R,zi ((h:Nat):Int),zi ((l.length:Nat):Int)])::(b,.cells 3 (R*1) ((buf).map (Value.int .i64)))::H) (fun v H'=>∃ buf',Q4 R (l.eraseIdx i) (List.set buf' h 0) ((h+1)%R)∧v=.tuple #[zi x,.bool true]∧H'=(rb,.cells 412 3 [.slice (some ⟨b,0,none⟩) R R,zi (((h+1)%R:Nat):Int),zi (((l.eraseIdx i).length:Nat):Int)])::(b,.cells 3 (R*1) ((List.set buf' h 0).map (Value.int .i64)))::H):=by
 have hil:=(List.getElem?_eq_some_iff.1 hx).1
 have hmost:=hI.most
 have hroom:=hI.room
 have hhd:=hI.head
 have hpos:=hI.pos
 refine qc (l:=[zp rb,zi (i:Int)]) Tryz.func266 rfl Tryz.ntmps266 rfl rfl ?_
 refine za 7 rfl ?_
 refine qn (zc2 rfl rfl) Tryz.call273 rfl (qjm (z:=(i:Int)) hI zM zM) ?_
 rw [qlX hx]
 refine za 10 rfl ?_
 try rw [Bool.not_true]
 refine za 9 rfl ?_
 refine qU (X:=(Nat × List Int)) [(0,_),(6,_)] (fun (x:(Nat × List Int))=>[(8,zi (x.1:Int))]) (fun _=>_) (fun (x:(Nat × List Int))=>(rb,.cells 412 3 [.slice (some ⟨b,0,none⟩) R R,zi ((h:Nat):Int),zi ((l.length:Nat):Int)])::(b,.cells 3 (R*1) ((x.2).map (Value.int .i64)))::H) (fun (x:(Nat × List Int))=>x.1≤i∧Q4 R (Yb l i x.1) x.2 h) (fun (x:(Nat × List Int))=>x.1) (i,buf) ⟨Nat.le_refl _,by rw [qdK hil]; exact hI⟩ (qa rfl (qa rfl (qi _))) (qa rfl (qi _)) rfl (.refl _) ?_
 rintro ⟨k,bufi⟩ ⟨hki,hIi⟩
 dsimp only at hki hIi ⊢
 have hlen:=KZ hil hki
 simp only [List.cons_append,List.nil_append]
 refine za 5 rfl ?_
 refine qm (p:=0<(k:Int)) rfl (by simp) (fun q0=>?_) (fun q0=>?_)
 ·skip
  refine za 3 rfl ?_
  obtain ⟨k',rfl⟩:∃ k',k=k'+1:=⟨k-1,by omega⟩
  obtain ⟨y,hy⟩:∃ y,l[k']?=some y:=⟨_,List.getElem?_eq_getElem zO⟩
  have hbl:=hIi.len
  have hby:=hIi.at_ k' y (by rw [KD hil hki,if_pos (by omega)]; exact hy)
  have hp0:(h+k')%R<R:=Nat.mod_lt _ hIi.pos
  have hp1:(h+(k'+1))%R<R:=Nat.mod_lt _ hIi.pos
  refine W_anyS [(rb,.cells 412 3 [.slice (some ⟨b,0,none⟩) R R,zi ((h:Nat):Int),zi ((l.length:Nat):Int)]),(b,.cells 3 (R*1) ((bufi).map (Value.int .i64)))] 18 zk ?_
  refine WS_take 0 rfl rfl zK zK zK zK rfl rfl (zf rfl) rfl ?_
  refine WS_take 1 rfl rfl zK zK zK zK rfl rfl (qY rfl) rfl ?_
  refine WS_take 2 rfl rfl zK zK zK zK rfl rfl (qF rfl qcx zd) rfl ?_
  refine WS_take 3 rfl rfl zK zK zK zK rfl rfl (qj (v:=.slice (some ⟨b,0,none⟩) R R) rfl qZ rfl (qf.own (b:=rb) zM rfl)) rfl ?_
  refine WS_take 4 rfl rfl zK zK zK zK rfl rfl (zf rfl) rfl ?_
  refine WS_take 5 rfl rfl zK zK zK zK rfl rfl (zf rfl) rfl ?_
  refine WS_take 7 rfl rfl zK zK zK zK rfl rfl (zf rfl) rfl ?_
  refine WS_take 8 rfl rfl zK zK zK zK rfl rfl (qY rfl) rfl ?_
  refine WS_take 9 rfl rfl zK zK zK zK rfl rfl (qF rfl qcx zd) rfl ?_
  refine WS_take 10 rfl rfl zK zK zK zK rfl rfl (qj (v:=.slice (some ⟨b,0,none⟩) R R) rfl qZ rfl (qf.own (b:=rb) zM rfl)) rfl ?_
  refine WS_take 11 rfl rfl zK zK zK zK rfl rfl (zf rfl) rfl ?_
  refine WS_take 12 rfl rfl zK zK zK zK rfl rfl (zf rfl) rfl ?_
  refine WS_take 13 rfl rfl zK zK zK zK rfl rfl (QU rfl rfl (Zw (m:=((k':Nat):Int)) (by rw [zg (by omega)]; omega))) rfl ?_
  refine WS_one 6 zH rfl zK rfl rfl ?_
  refine qn (zc2 rfl rfl) Tryz.call270 rfl (KE (i:=k'+1) (n:=l.length) zM hpos hroom hhd zO) ?_
  refine qs ?_
  refine WS_goal ?_
  refine WS_one 14 zH rfl zK rfl rfl ?_
  refine qn (zc2 rfl rfl) Tryz.call270 rfl (KE (i:=k') (n:=l.length) zM hpos hroom hhd zO) ?_
  refine qs ?_
  refine WS_goal ?_
  refine WS_take 15 rfl rfl zK zK zK zK rfl rfl (qW (j:=(h+k')%R) rfl rfl qZ ty3 (by first | rfl | omega) (by first | decide | omega | simp) rfl) rfl ?_
  refine WS_take 16 rfl rfl zK zK zK zK rfl rfl (qj (v:=zi y) rfl ty3 rfl (by rw [Nat.mul_one ((h+k')%R)]; exact qf.own (b:=b) zM (by rw [Nat.zero_add,List.getElem?_map,hby]; rfl))) rfl ?_
  refine WS_take 17 rfl rfl zK zK zK zK rfl rfl (qW (j:=(h+(k'+1))%R) rfl rfl qZ ty3 (by first | rfl | omega) (by first | decide | omega | simp) rfl) rfl ?_
  refine WS_last zH zK rfl rfl ?_
  refine qv (l':=(bufi.set ((h+(k'+1))%R) y).map (Value.int .i64)) rfl rfl ty3 rfl rfl (b:=b) zM (by rw [List.length_map,Nat.blt_eq]; omega) (by rw [List.map_set]; congr 1; omega) zU ?_
  refine qs (WC_goal (WC_done (.nil _) zK (za 3 rfl ?_)))
  refine qE rfl rfl (Zw (m:=((k':Nat):Int)) (by rw [zg (by omega)]; omega)) rfl ?_
  refine za 2 rfl ?_
  refine qP (k',bufi.set ((h+(k'+1))%R) y) ⟨by show k'≤i; omega,by show Q4 R (Yb l i k') _ _; rw [← qes hil hki hy]; exact hIi.move (by omega)⟩ (by show k'<k'+1; omega) (qa rfl (qa rfl (qa rfl (qi _)))) rfl (.refl _)
 ·skip
  refine za 2 rfl ?_
  obtain rfl:k=0:=by omega
  refine qD rfl rfl ?_
  obtain ⟨x0,hx0⟩:=qfD hil
  rw [hx0] at hIi
  have hlx:l.length=(x0::l.eraseIdx i).length:=by rw [← hx0,KZ hil (Nat.zero_le _)]
  rw [hlx]
  refine qk (zc1 rfl) Tryz.call194 rfl (qm5 (H:=H) hIi) ?_
  rintro v H' ⟨rfl,rfl⟩
  refine za 6 rfl (qL Tryz.results266 rfl rfl (.nil _) (.refl _) ?_)
  exact ⟨bufi,hIi.pop,rfl,rfl⟩
theorem qm3 (hR:J9 R rb l HB) (hx:l[i]?=some x):qh Tryz.prog w0 266 #[zp rb,zi (i:Int)] (HB++H) (fun v H'=>∃ HB',J9 R rb (l.eraseIdx i) HB'∧v=.tuple #[zi x,.bool true]∧H'=HB'++H):=by
 cases hR with
 | mk hI =>
  refine (qji (H:=H) hI hx).mono ?_
  rintro v H' ⟨buf',hI',rfl,rfl⟩
  exact ⟨_,.mk hI',rfl,rfl⟩
theorem qfK {lp b1:Nat} (hI:Q4 R l buf h) (J:Nat→qg→Prop)
  (hround:∀ i x Hi,l[i]?=some x→J i Hi→ZD Tryz.prog w0 lp #[zi x] ((b1,.cells 281 1 [zp rb])::(rb,.cells 412 3 [.slice (some ⟨b,0,none⟩) R R,zi ((h:Nat):Int),zi ((l.length:Nat):Int)])::(b,.cells 3 (R*1) ((buf).map (Value.int .i64)))::Hi) (fun v H'=>∃ Hi',qC H' ((b1,.cells 281 1 [zp rb])::(rb,.cells 412 3 [.slice (some ⟨b,0,none⟩) R R,zi ((h:Nat):Int),zi ((l.length:Nat):Int)])::(b,.cells 3 (R*1) ((buf).map (Value.int .i64)))::Hi')∧v=.bool true∧J (i+1) Hi')) (hJ:J 0 H) :
  qh Tryz.prog w0 442 #[.func (.yield lp) #[] #[],zp b1] ((b1,.cells 281 1 [zp rb])::(rb,.cells 412 3 [.slice (some ⟨b,0,none⟩) R R,zi ((h:Nat):Int),zi ((l.length:Nat):Int)])::(b,.cells 3 (R*1) ((buf).map (Value.int .i64)))::H) (fun _ H'=>∃ Hi',qC H' ((b1,.cells 281 1 [zp rb])::(rb,.cells 412 3 [.slice (some ⟨b,0,none⟩) R R,zi ((h:Nat):Int),zi ((l.length:Nat):Int)])::(b,.cells 3 (R*1) ((buf).map (Value.int .i64)))::Hi')∧J l.length Hi'):=by
 have hmost:=hI.most
 have hroom:=hI.room
 refine qc (l:=[.func (.yield lp) #[] #[],zp b1]) Tryz.func442 rfl Tryz.ntmps442 rfl rfl ?_
 refine ze ?_
 refine qe (v:=zp rb) rfl Yz rfl (qf.own (b:=b1) zM rfl) rfl ?_
 refine qn (zc1 rfl) Tryz.call192 rfl (qjl (n:=l.length) (h:=h) (R:=R) (b:=b) zM) ?_
 refine za 3 rfl ?_
 refine qU (X:=(Nat × qg)) [(0,_),(1,_),(5,_)] (fun (x:(Nat × qg))=>[(6,zi (x.1:Int))]) (fun _=>_) (fun (x:(Nat × qg))=>(b1,.cells 281 1 [zp rb])::(rb,.cells 412 3 [.slice (some ⟨b,0,none⟩) R R,zi ((h:Nat):Int),zi ((l.length:Nat):Int)])::(b,.cells 3 (R*1) ((buf).map (Value.int .i64)))::x.2) (fun (x:(Nat × qg))=>x.1≤l.length∧J x.1 x.2) (fun (x:(Nat × qg))=>l.length-x.1) (0,H) ⟨Nat.zero_le _,hJ⟩ (qa rfl (qa rfl (qa rfl (qi _)))) (qa rfl (qi _)) rfl (.refl _) ?_
 rintro ⟨i,Hi⟩ ⟨hi,hJi⟩
 dsimp only at hi hJi ⊢
 simp only [List.cons_append,List.nil_append]
 refine za 4 rfl ?_
 refine qm (p:=(i:Int)<(l.length:Int)) rfl (by simp) (fun q0=>?_) (fun q0=>?_)
 ·skip
  refine za 8 rfl ?_
  obtain ⟨x,hx⟩:∃ x,l[i]?=some x:=⟨_,List.getElem?_eq_getElem zO⟩
  have hbx:=hI.at_ i x hx
  have hbl:=hI.len
  have hpl:(h+i)%R<R:=Nat.mod_lt _ hI.pos
  refine W_anyC [(b1,.cells 281 1 [zp rb]),(rb,.cells 412 3 [.slice (some ⟨b,0,none⟩) R R,zi ((h:Nat):Int),zi ((l.length:Nat):Int)]),(b,.cells 3 (R*1) ((buf).map (Value.int .i64)))] zk ?_
  refine zw [0] rfl rfl ?_
  refine WC_take 1 rfl zK zK zK rfl rfl (qj (v:=zp rb) rfl Yz rfl (qf.own (b:=b1) zM rfl)) rfl ?_
  refine zw [2,3] rfl rfl ?_
  refine WC_take 4 rfl zK zK zK rfl rfl (qj (v:=.slice (some ⟨b,0,none⟩) R R) rfl qZ rfl (qf.own (b:=rb) zM rfl)) rfl ?_
  refine WC_take 5 rfl zK zK zK rfl rfl (qj (v:=zp rb) rfl Yz rfl (qf.own (b:=b1) zM rfl)) rfl ?_
  refine zw [6] rfl rfl ?_
  refine WC_one 7 zH zK rfl rfl ?_
  refine qn (zc2 rfl rfl) Tryz.call270 rfl (KE (i:=i) (n:=l.length) zM hI.pos hroom hI.head zO) ?_
  refine qs (WC_goal ?_)
  refine WC_take 8 rfl zK zK zK rfl rfl (qW (j:=(h+i)%R) rfl rfl qZ ty3 (by first | rfl | omega) (by first | decide | omega | simp) rfl) rfl ?_
  refine WC_take 9 rfl zK zK zK rfl rfl (qj (v:=zi x) rfl ty3 rfl (by rw [Nat.mul_one ((h+i)%R)]; exact qf.own (b:=b) zM (by rw [Nat.zero_add,List.getElem?_map,hbx]; rfl))) rfl ?_
  refine WC_one 10 zH zK rfl rfl ?_
  refine JT rfl (.cons rfl .nil) rfl (hround i x Hi hx hJi) ?_
  rintro v H' ⟨Hi',hsub,rfl,hJ'⟩
  refine qO hsub ?_
  refine qs (WC_goal (zw [11] rfl rfl (WC_done zH zK (za 4 rfl ?_))))
  refine qE rfl rfl (qQ (m:=((i+1:Nat):Int)) (by rw [zg (by omega)]; omega)) rfl ?_
  refine za 2 rfl ?_
  refine qP (i+1,Hi') ⟨by show i+1≤l.length; omega,hJ'⟩ (by show l.length-(i+1)<l.length-i; omega) (qa rfl (qa rfl (qa rfl (qa rfl (qi _))))) rfl (.refl _)
 ·skip
  refine Yg rfl (Zn Tryz.results442 (.nil _) (.refl _) ?_)
  obtain rfl:i=l.length:=by omega
  exact ⟨Hi,.refl _,hJi⟩
theorem qm1:qh Tryz.prog w0 413 #[.pointer ad] (H) (fun v H'=>∃ b1,v=.func (.func 442) #[] #[zp b1]∧H'=(b1,.cells 281 1 [.pointer ad])::H):=by
 refine qc (l:=[.pointer ad]) Tryz.func413 rfl Tryz.ntmps413 rfl rfl ?_
 refine ze ?_
 refine qK rfl rfl rfl (fun b1=>?_)
 refine za 3 rfl (qI .nil (.cons rfl .nil) rfl (za 2 rfl (qd Tryz.results413 rfl (.nil _) (.refl _) ?_)))
 exact ⟨b1,rfl,rfl⟩
theorem qjk (hI:Q4 R l buf h) :qh Tryz.prog w0 366 #[zp rb] ((rb,.cells 412 3 [.slice (some ⟨b,0,none⟩) R R,zi ((h:Nat):Int),zi ((l.length:Nat):Int)])::(b,.cells 3 (R*1) ((buf).map (Value.int .i64)))::H) (fun v H'=>∃ sv XB,v=sv∧zm 3 1 sv l.length (l.map (Value.int .i64)) XB∧H'=XB++((rb,.cells 412 3 [.slice (some ⟨b,0,none⟩) R R,zi ((h:Nat):Int),zi ((l.length:Nat):Int)])::(b,.cells 3 (R*1) ((buf).map (Value.int .i64)))::H)):=by
 have hmost:=hI.most
 have hroom:=hI.room
 refine qc (l:=[zp rb]) Tryz.func366 rfl Tryz.ntmps366 rfl rfl ?_
 refine za 4 rfl ?_
 refine qp (l:=[.slice none 0 0]) qZ rfl rfl (fun b3=>?_)
 refine za 4 rfl (qk (zc1 rfl) Tryz.call413 rfl (qm1) ?_)
 rintro v H' ⟨b1,rfl,rfl⟩
 refine za 2 rfl (Qp rfl Tryz.call442 ?_)
 intro lp D r hst hpd hps hasg hbody hA
 have hr:=QC hst hpd
 show qh _ _ _ #[_,_] _ _
 refine ((qfK (b1:=b1) (H:=(lp,.obj (.loop r))::(D,.obj (.deferred (some [])))::(b3,.cells 63 1 [.slice none 0 0])::H) hI (fun i Hi=>∃ xv XB,zm 3 1 xv i ((l.take i).map (Value.int .i64)) XB∧Hi=(lp,.obj (.loop r))::(D,.obj (.deferred (some [])))::(b3,.cells 63 1 [xv])::(XB++H)) ?_ ⟨_,[],.nil,rfl⟩).hsub zH).mono ?_
 ·intro i z Hi hz hJ
  obtain ⟨xv,XB,hX,rfl⟩:=hJ
  have hil:=(List.getElem?_eq_some_iff.1 hz).1
  refine Qo hst hpd hA hps rfl hasg rfl rfl rfl zT ?_
  refine za 3 rfl (Jf hst hpd zT hbody (za 2 rfl ?_))
  refine qe (v:=xv) rfl qZ rfl (qf.own (b:=b3) zM rfl) rfl ?_
  refine qD rfl rfl ?_
  refine qy (l:=[zi z]) qZ ty3 (.cons rfl rfl rfl rfl rfl .nil) rfl rfl rfl rfl rfl rfl rfl (fun b10=>?_)
  refine Qv (news:=[zi z]) (m:=1) (HB:=XB) (H0:=(b10,.cells 3 1 [zi z])::(b1,.cells 281 1 [zp rb])::(rb,.cells 412 3 [.slice (some ⟨b,0,none⟩) R R,zi ((h:Nat):Int),zi ((l.length:Nat):Int)])::(b,.cells 3 (R*1) ((buf).map (Value.int .i64)))::(lp,.obj (.loop (Loop.at r .busy none)))::(D,.obj (.deferred (some [])))::(b3,.cells 63 1 [xv])::H) rfl rfl qZ ty3 rfl (by decide) hX rfl (Holds.own List.mem_cons_self) rfl (by simp only [maxLen]; omega) (by omega) zH rfl (fun v' HB' hO'=>?_)
  refine qv (l':=[v']) rfl rfl qZ (by obtain ⟨a0,c0',e0,_⟩:=hO'.shape; rw [e0]; rfl) rfl (b:=b3) zM rfl rfl zU ?_
  refine za 2 rfl (Qs zT ?_)
  rw [hr]
  exact ⟨(lp,.obj (.loop r))::(D,.obj (.deferred (some [])))::(b3,.cells 63 1 [v'])::(HB'++H),zH,rfl,v',HB',by rw [List.take_add_one,hz,List.map_append]; exact hO',rfl⟩
 ·intro _ H' hp
  obtain ⟨Hi',hs,xv,XB,hX,rfl⟩:=hp
  rw [List.take_length] at hX
  refine ⟨.ready,none,(b1,.cells 281 1 [zp rb])::(rb,.cells 412 3 [.slice (some ⟨b,0,none⟩) R R,zi ((h:Nat):Int),zi ((l.length:Nat):Int)])::(b,.cells 3 (R*1) ((buf).map (Value.int .i64)))::(D,.obj (.deferred (some [])))::(b3,.cells 63 1 [xv])::(XB++H),by rw [hr]; exact hs.trans zH,by decide,?_⟩
  show W _ _ _ _ _ _ _ _ _
  refine za 2 rfl ?_
  refine qe (v:=xv) rfl qZ rfl (qf.own (b:=b3) zM rfl) rfl ?_
  refine za 2 rfl ?_
  refine qd (H2:=XB++((rb,.cells 412 3 [.slice (some ⟨b,0,none⟩) R R,zi ((h:Nat):Int),zi ((l.length:Nat):Int)])::(b,.cells 3 (R*1) ((buf).map (Value.int .i64)))::H)) Tryz.results366 rfl (.cons zT (.nil _)) zH ?_
  exact ⟨xv,XB,rfl,hX,rfl⟩
theorem qm6 (hR:J9 R rb l HB):qh Tryz.prog w0 366 #[zp rb] (HB++H) (fun v H'=>∃ XB,zm 3 1 v l.length (l.map (Value.int .i64)) XB∧H'=XB++(HB++H)):=by
 cases hR with
 | mk hI =>
  refine (qjk (H:=H) hI).mono ?_
  rintro v H' ⟨sv,XB,rfl,hX,rfl⟩
  exact ⟨XB,hX,rfl⟩
def Zv (l:List Int) (id:Int):List Int:=l.filter (fun x=>decide (x≠id))
theorem qbe (h:l[j]?=some x):Zv (l.take (j+1)) id=Zv (l.take j) id++(if x=id then [] else [x]):=by
 unfold Zv
 rw [Jt h,List.filter_append]
 congr 1
 by_cases e:x=id
 ·rw [if_pos e,List.filter_cons_of_neg (by simp [e])]; rfl
 ·rw [if_neg e,List.filter_cons_of_pos (by simp [e])]; rfl
theorem qaE (h:id ∉ l):Zv l id=l:=by
 unfold Zv
 rw [List.filter_eq_self]
 intro x hx
 exact decide_eq_true (fun e=>h (e ▸ hx))
theorem qnZ (l:List Int) (id:Int):(Zv l id).length≤l.length:=List.length_filter_le _ _
theorem qoU {i:Int} (hb:(bd,.cells 3 1 [zi id])∈H) :qB Tryz.prog w0 H 407 [zi i,zp bd] (.bool (decide (i=id))):=by
 refine qc Tryz.func407 rfl Tryz.ntmps407 rfl rfl (za 5 rfl ?_)
 refine qe (v:=zi id) rfl ty3 rfl (qf.own hb rfl) rfl ?_
 refine za 3 rfl ?_
 refine qd (H2:=H) Tryz.results407 rfl (.nil _) zH ?_
 exact ⟨rfl,rfl⟩
theorem qnA (hl:l.length≤4611686018427387904) (hbd:(bd,.cells 3 1 [zi id])∈H) (hrow:Holds w0 H ad (l.map (Value.int .i64))) :qh Tryz.prog w0 432 #[.slice ad l.length cap,.func (.func 407) #[] #[zp bd]] (H) (fun v H'=>∃ z:Int,v=zi z∧((∃ i:Nat,z=i∧l[i]?=some id∧id ∉ l.take i)∨(z=-1∧id ∉ l))∧H'=H):=by
 refine qc (l:=[.slice ad l.length cap,.func (.func 407) #[] #[zp bd]]) Tryz.func432 rfl Tryz.ntmps432 rfl rfl ?_
 refine za 6 rfl (zZ rfl qZ rfl rfl (za 3 rfl ?_))
 refine qU (X:=Nat) [(0,_),(1,_),(7,_)] (fun (i:Nat)=>[(8,zi (i:Int))]) (fun _=>_) (fun (i:Nat)=>H) (fun (i:Nat)=>i≤l.length∧id ∉ l.take i) (fun (i:Nat)=>l.length-i) 0 ⟨Nat.zero_le _,by simp⟩ (qa rfl (qa rfl (qa rfl (qi _)))) (qa rfl (qi _)) rfl zH ?_
 rintro i ⟨hi,hn⟩
 simp only [List.cons_append,List.nil_append]
 refine za 4 rfl ?_
 refine qm (p:=(i:Int)<(l.length:Int)) rfl (by simp) (fun q0=>?_) (fun q0=>?_)
 ·skip
  refine za 8 rfl ?_
  obtain ⟨x,hx⟩:∃ x,l[i]?=some x:=⟨_,List.getElem?_eq_getElem zO⟩
  obtain ⟨q0,p0,rfl,hc⟩:=hrow.at (i:=i) (v:=.int .i64 x) (by rw [List.getElem?_map,hx]; rfl)
  refine za 3 rfl ?_
  refine qS (j:=i) rfl rfl qZ ty3 rfl zO rfl rfl ?_
  refine qe (v:=zi x) rfl ty3 rfl (by rw [Nat.mul_one (i)]; exact hc) rfl ?_
  refine Xr (fa:=[]) (ca:=[zp bd]) rfl (.cons rfl .nil) rfl Tryz.call407 rfl (qoU (bd:=bd) (id:=id) hbd) ?_
  refine qs ?_
  refine qm (p:=x=id) rfl (by simp) (fun q1=>?_) (fun q1=>?_)
  ·skip
   refine za 4 rfl (qd Tryz.results432 rfl (.nil _) (.refl _) ?_)
   subst q1
   exact ⟨i,rfl,.inl ⟨i,rfl,hx,hn⟩,rfl⟩
  ·skip
   refine za 3 rfl ?_
   refine qE rfl rfl (qQ (m:=((i+1:Nat):Int)) (by rw [zg (by omega)]; omega)) rfl ?_
   refine za 2 rfl ?_
   refine qP (i+1) ⟨by omega,by rw [Jt hx,List.mem_append]; exact fun h=>h.elim hn (fun h=>q1 (List.mem_singleton.1 h).symm)⟩ (by omega) (qa rfl (qa rfl (qa rfl (qa rfl (qi _))))) rfl zH
 ·skip
  refine za 4 rfl (qd Tryz.results432 rfl (.nil _) (.refl _) ?_)
  obtain rfl:i=l.length:=by omega
  exact ⟨-1,rfl,.inr ⟨rfl,by rwa [List.take_length] at hn⟩,rfl⟩
theorem qen {d:List Int} (h:i<d.length):(d.set i x).take (i+1)=d.take i++[x]:=by
 rw [Jt (l:=d.set i x) (i:=i) (x:=x) (by rw [List.getElem?_set_self h]),List.take_set_of_le (Nat.le_refl i)]
theorem qeq {l vs:List Value} (h:i≤l.length):(zA l i vs).take i=l.take i:=by
 unfold zA
 rw [List.append_assoc,List.take_append_of_le_length (by rw [List.length_take]; omega),List.take_take,Nat.min_self]
theorem qly {tot:Nat} (hl:l.length≤4611686018427387904) (hcap:l.length≤cap) (hbd:(bd,.cells 3 1 [zi id])∈H) :qh Tryz.prog w0 406 #[.slice (some ⟨b,0,none⟩) l.length cap,.func (.func 407) #[] #[zp bd]] ((b,.cells 3 tot ((l).map (Value.int .i64)))::H) (fun v H'=>v=.slice (some ⟨b,0,none⟩) (Zv l id).length cap∧H'=(b,.cells 3 tot ((Zv l id).map (Value.int .i64)))::H):=by
 refine qc (l:=[.slice (some ⟨b,0,none⟩) l.length cap,.func (.func 407) #[] #[zp bd]]) Tryz.func406 rfl Tryz.ntmps406 rfl rfl ?_
 refine za 6 rfl ?_
 refine qk (zc2 rfl rfl) Tryz.call432 rfl ((qnA (l:=l) (bd:=bd) (id:=id) hl (List.mem_cons_of_mem _ hbd) (Holds.own (b:=b) zM)).hsub (.refl _)) ?_
 rintro v H' ⟨z,rfl,hz,hH⟩
 subst H'
 rcases hz with ⟨i0,rfl,hi0,hn0⟩ | ⟨rfl,hn0⟩
 ·skip
  have hil:i0+1≤l.length:=(List.getElem?_eq_some_iff.1 hi0).1
  refine za 7 rfl (QA rfl (decide_eq_false zO) (za 4 rfl ?_))
  refine qE rfl rfl (qQ (m:=((i0+1:Nat):Int)) (by rw [zg (by omega)]; omega)) rfl ?_
  refine za 3 rfl ?_
  refine qU (X:=(Nat × Nat × List Int)) [(0,_),(1,_)] (fun (x:(Nat × Nat × List Int))=>[(5,zi (x.1:Int)),(6,zi (x.2.1:Int))]) (fun _=>_) (fun (x:(Nat × Nat × List Int))=>(b,.cells 3 tot ((x.2.2).map (Value.int .i64)))::H) (fun (x:(Nat × Nat × List Int))=>x.2.2.length=l.length∧x.2.1≤l.length∧x.1<x.2.1∧x.2.2.take x.1=Zv (l.take x.2.1) id∧x.2.2.drop x.2.1=l.drop x.2.1) (fun (x:(Nat × Nat × List Int))=>l.length-x.2.1) (i0,i0+1,l) ⟨rfl,hil,Nat.lt_succ_self _,by rw [qbe hi0,if_pos rfl,List.append_nil,qaE hn0],rfl⟩ (qa rfl (qa rfl (qi _))) (qa rfl (qa rfl (qi _))) rfl zH ?_
  rintro ⟨i,j,d⟩ ⟨hdl,hj,hij,hdt,hdd⟩
  dsimp only at hdl hj hij hdt hdd ⊢
  simp only [List.cons_append,List.nil_append]
  refine za 4 rfl (zZ rfl qZ rfl rfl (za 2 rfl ?_))
  refine qm (p:=(j:Int)<(l.length:Int)) rfl (by simp) (fun q0=>?_) (fun q0=>?_)
  ·skip
   refine za 4 rfl ?_
   obtain ⟨x,hx⟩:∃ x,l[j]?=some x:=⟨_,List.getElem?_eq_getElem zO⟩
   have hdx:d[j]?=some x:=by
    have h:=congrArg (fun q=>q[0]?) hdd
    simpa [hx] using h
   refine za 2 rfl ?_
   refine qS (j:=j) rfl rfl qZ ty3 rfl zO (at_:=j) zO rfl ?_
   refine qe (v:=zi x) rfl ty3 rfl (qf.own (b:=b) zM (by rw [List.getElem?_map,hdx]; rfl)) rfl ?_
   refine za 5 rfl ?_
   refine Xr (fa:=[]) (ca:=[zp bd]) rfl (.cons rfl .nil) rfl Tryz.call407 rfl (qoU (bd:=bd) (id:=id) (List.mem_cons_of_mem _ hbd)) ?_
   refine za 2 rfl ?_
   refine qm (p:=¬ x=id) rfl (by simp) (fun q1=>?_) (fun q1=>?_)
   ·skip
    refine za 4 rfl ?_
    refine qS (j:=i) rfl rfl qZ ty3 rfl zO (at_:=i) zO rfl ?_
    refine qv (l':=(d.set i x).map (Value.int .i64)) rfl rfl ty3 rfl rfl (b:=b) zM (by rw [Nat.blt_eq,List.length_map]; omega) (by rw [List.map_set]) zU ?_
    refine za 3 rfl ?_
    refine qE rfl rfl (qQ (m:=((i+1:Nat):Int)) (by rw [zg (by omega)]; omega)) rfl ?_
    refine za 5 rfl ?_
    refine qE rfl rfl (qQ (m:=((j+1:Nat):Int)) (by rw [zg (by omega)]; omega)) rfl ?_
    refine za 2 rfl ?_
    refine qP (i+1,j+1,d.set i x) ⟨by show (d.set i x).length=_; rw [List.length_set,hdl],by show j+1≤l.length; omega,by show i+1<j+1; omega,by show (d.set i x).take (i+1)=_; rw [qen (by omega),hdt,qbe hx,if_neg q1],by show (d.set i x).drop (j+1)=_; rw [List.drop_set_of_lt (by omega),← List.drop_drop,hdd,List.drop_drop]⟩ (by show l.length-(j+1)<l.length-j; omega) (qa rfl (qa rfl (qa rfl (qa rfl (qi _))))) rfl zH
   ·skip
    refine za 4 rfl ?_
    refine qE rfl rfl (qQ (m:=((j+1:Nat):Int)) (by rw [zg (by omega)]; omega)) rfl ?_
    refine za 2 rfl ?_
    refine qP (i,j+1,d) ⟨hdl,by show j+1≤l.length; omega,by show i<j+1; omega,by show d.take i=_; rw [hdt,qbe hx,if_pos (Classical.not_not.1 q1),List.append_nil],by show d.drop (j+1)=_; rw [← List.drop_drop,hdd,List.drop_drop]⟩ (by show l.length-(j+1)<l.length-j; omega) (qa rfl (qa rfl (qa rfl (qa rfl (qi _))))) rfl zH
  ·skip
   refine za 4 rfl ?_
   refine qg7 (l:=i) (hh:=l.length) rfl qZ ty3 ⟨_,rfl⟩ rfl zO hcap rfl (fun o1 ho1=>?_)
   obtain rfl:o1=i:=by have:=ho1 zO; omega
   refine qoh (l':=zA (d.map (Value.int .i64)) o1 (List.replicate (l.length-o1) (zi 0))) rfl qZ ty3 rfl (by omega) (b:=b) zM (by rw [List.length_map]; omega) rfl zU ?_
   refine za 4 rfl ?_
   refine qcV (hh:=o1) rfl qZ ty3 rfl ⟨_,rfl⟩ zO rfl ?_
   obtain rfl:j=l.length:=by omega
   rw [List.take_length] at hdt
   have hol:o1=(Zv l id).length:=by rw [← hdt,List.length_take]; omega
   have hcut:(zA (d.map (Value.int .i64)) o1 (List.replicate (l.length-o1) (zi 0))).take o1=(Zv l id).map (Value.int .i64):=by rw [qeq (by rw [List.length_map]; omega),← List.map_take,hdt]
   refine za 2 rfl ?_
   refine qd (H2:=(b,.cells 3 tot ((Zv l id).map (Value.int .i64)))::H) Tryz.results406 rfl (.nil _) (by rw [← hcut]; exact qC.cut) ?_
   exact ⟨by rw [hol],rfl⟩
 ·skip
  refine za 12 rfl ?_
  refine qd (H2:=(b,.cells 3 tot ((l).map (Value.int .i64)))::H) Tryz.results406 rfl (.nil _) (.refl _) ?_
  exact ⟨by rw [qaE hn0],by rw [qaE hn0]⟩
theorem qc3:JB Tryz.prog 3 (Value.int .i64):=qdZ ty3.und
def Xa:Value:=.agg #[zi 0,zi 0,zu 0,zu 0,zi 0]
theorem zEz (w:World):(zeroValue 408).run Tryz.prog w=.ok Xa w:=XZ.zero w
theorem qmq {tn:Nat} {l:Qk Int} {ok:Bool} (hok:Zy sl bs) (hw:(bw,.cells 406 523 (q9 now sl bs bm turn))∈H) (hm:(bm,.obj (qM (Value.int .i64) l c))∈H) (hv:(Ye l id).getD Xa=.agg (e.v++[Value.int .i64 ((tn:Nat):Int)]).toArray) (hh:Z3 l id=ok) :qB Tryz.prog w0 H 187 [zp bw,zi id] (.tuple #[.agg e.v.toArray,.bool ok]):=by
 refine qc Tryz.func187 rfl Tryz.ntmps187 rfl rfl (ze ?_)
 refine qp (l:=qN.v) zj rfl rfl (fun b4=>?_)
 refine za 5 rfl ?_
 refine W_x (qr rfl rfl Ze) (fun _ h=>by cases h) rfl ?_
 refine za 7 rfl ?_
 refine qe (v:=.map (some bm)) rfl ZY rfl (qf.own (b:=bw) (List.mem_cons_of_mem _ hw) (Y5 hok)) rfl ?_
 refine qD rfl rfl ?_
 refine Xq (a:=id) (zE:=Xa) rfl rfl qc3 ZY zEz (List.mem_cons_of_mem _ hm) rfl ?_
 simp only [if_true]
 rw [hv,hh]
 refine za 3 rfl ?_
 refine qp (l:=[zi 0,zi 0,zu 0,zu 0,zi 0]) XZ rfl rfl (fun b6=>?_)
 refine ql (l':=(e.v++[Value.int .i64 ((tn:Nat):Int)])) rfl rfl XZ rfl rfl (b:=b6) zM (by exact Nat.le_refl 5) rfl zU ?_
 refine za 4 rfl ?_
 refine qJ (vs:=e.v) rfl zj rfl (b:=b6) zM rfl rfl rfl ?_
 refine qD rfl rfl ?_
 refine ql (l':=e.v) rfl rfl zj rfl rfl (b:=b4) zM (by exact Nat.le_refl 4) rfl zU ?_
 refine za 2 rfl ?_
 refine zc (H2:=H) Tryz.results187 (.nil _) (.own rfl zj rfl zM rfl) (.tmp rfl) zH ?_
 exact ⟨rfl,rfl⟩
theorem qgz {lv slot num:Nat} (hn:now≤18446744073709551615) (h1:now/8 ^ lv<num) (h2:num≤now/8 ^ lv+64) (hs:num%64=slot):Q8 now lv slot=Zg num lv:=by
 have hx:now/8 ^ lv≤18446744073709551615:=Nat.le_trans (Nat.div_le_self _ _) hn
 have hd:18446744073709551615/8 ^ lv≤18446744073709551615:=Nat.div_le_self _ _
 unfold Q8
 generalize now/8 ^ lv=x at *
 have hm:x+Yk x slot=num:=by
  unfold Yk
  split <;> omega
 rw [hm]
 split
 ·unfold Zg
  rw [if_pos (by omega)]
 ·rfl
theorem qhQ {d:Nat} (h:d<132120576):d<63*8 ^ (qa1 d).1:=by
 unfold qa1
 (repeat' split) <;> (try simp only) <;> omega
theorem qlM {t:Nat}:t≤Jl t n*8 ^ n∧Jl t n*8 ^ n<t+8 ^ n:=by
 have hg:0<8 ^ n:=Nat.pow_pos zO
 unfold Jl
 generalize 8 ^ n=g at *
 have h1:=Nat.div_add_mod t g
 have h2:=Nat.mod_lt t hg
 rw [Nat.mul_comm] at h1
 split
 ·rename_i hne
  rw [Nat.add_mul,Nat.one_mul]
  omega
 ·rename_i he
  have he':t/g*g=t:=Classical.not_not.1 he
  rw [he']; omega
theorem qju {at_:Nat} (hn:now<18446744073709551615):∃ num,(Qq now at_).2=0∧(Qq now at_).1.lv<8∧(Qq now at_).1.slot=num%64∧(Qq now at_).1.due=Zg num (Qq now at_).1.lv∧now/8 ^ (Qq now at_).1.lv<num∧num≤now/8 ^ (Qq now at_).1.lv+64∧num*8 ^ (Qq now at_).1.lv<18446744073709551615+8 ^ (Qq now at_).1.lv:=by
 have e:Qq now at_=_:=if_neg zO
 rw [e]
 dsimp only
 have ht1:now<Jx now at_ 132120575:=by unfold Jx qcS; split <;> split <;> omega
 have ht2:Jx now at_ 132120575-now<132120576:=by unfold Jx qcS; split <;> split <;> omega
 have ht3:Jx now at_ 132120575≤18446744073709551615:=qdt _ _ _
 generalize Jx now at_ 132120575=t at *
 have hsp:=qhQ ht2
 have hlt:=qgL (t-now)
 generalize (qa1 (t-now)).1=n at *
 obtain ⟨hc1,hc2⟩:=qlM (t:=t) (n:=n)
 refine ⟨Jl t n,rfl,hlt,rfl,rfl,?_,?_,?_⟩
 all_goals
  have hg:0<8 ^ n:=Nat.pow_pos zO
  generalize Jl t n=m at *
  generalize 8 ^ n=g at *
  have h1:=Nat.div_add_mod now g
  have h2:=Nat.mod_lt now hg
  rw [Nat.mul_comm] at h1
  generalize now/g=q at *
 ·exact Nat.lt_of_mul_lt_mul_right (a:=g) zO
 ·have:m<q+65:=Nat.lt_of_mul_lt_mul_right (a:=g) (by rw [Nat.add_mul]; omega)
  omega
 ·omega
theorem qh7 {num lv:Nat} (hn:now<18446744073709551615) (h:now/8 ^ lv<num):now<Zg num lv:=by
 unfold Zg
 split
 ·exact hn
 ·exact (Nat.div_lt_iff_lt_mul (Nat.pow_pos zO)).1 h
structure Tm where
 id:Int
 s:Qu
 turn:Nat
variable {L:List Tm}
def Tm.key (t:Tm):Nat:=t.s.lv*64+t.s.slot
def zv (L:List Tm) (k:Nat):List Int:=(L.filter (fun t=>decide (t.key=k))).map (·.id)
def Ys (L:List Tm) (id:Int):List Tm:=L.filter (fun t=>decide (t.id≠id))
theorem qfX (L:List Tm) (t:Tm) (k:Nat):zv (L++[t]) k=zv L k++(if t.key=k then [t.id] else []):=by
 unfold zv
 rw [List.filter_append,List.map_append]
 congr 1
 by_cases e:t.key=k
 ·rw [if_pos e,List.filter_cons_of_pos (by simp [e])]; rfl
 ·rw [if_neg e,List.filter_cons_of_neg (by simp [e])]; rfl
theorem KJ (L:List Tm) (id:Int) (k:Nat):zv (Ys L id) k=Zv (zv L k) id:=by
 unfold zv Ys Zv
 rw [List.filter_map,List.filter_filter,List.filter_filter]
 congr 1
 refine List.filter_congr fun t _=>?_
 exact Bool.and_comm _ _
theorem Jj:id∈zv L k↔∃ t∈L,t.key=k∧t.id=id:=by
 unfold zv
 rw [List.mem_map]
 exact ⟨fun ⟨t,h,e⟩=>⟨t,(List.mem_filter.1 h).1,of_decide_eq_true (List.mem_filter.1 h).2,e⟩,fun ⟨t,h,e,e2⟩=>⟨t,List.mem_filter.2 ⟨h,decide_eq_true e⟩,e2⟩⟩
structure QZ (now:Nat) (L:List Tm) (sl:List Value) (XS:List qg) (bs:List Nat) (l:Qk Int) (c turn:Nat):Prop where
 row:Zy sl bs
 xs:XS.length=512
 own:∀ k,k<512→∃ v X,sl[k]?=some v∧XS[k]?=some X∧zm 3 1 v (zv L k).length ((zv L k).map (Value.int .i64)) X
 busy:∀ n,n<8→∃ z,bs[n]?=some z∧z<18446744073709551616∧∀ s,s<64→(z.testBit s=true↔zv L (n*64+s)≠[])
 map:QP l c
 keys:(l.map (·.1)).Perm (L.map (·.id))
 val:∀ p∈l,∃ t∈L,t.id=p.1∧p.2.1=.agg (t.s.v++[Value.int .i64 ((t.turn:Nat):Int)]).toArray
 nodup:(L.map (·.id)).Nodup
 turns:L.Pairwise (fun a b=>a.turn<b.turn)
 last:∀ t∈L,t.turn≤turn
 range:∀ t∈L,0≤t.id∧t.id<256
 spot:∀ t∈L,t.s.lv<8∧t.s.slot<64
 time:∀ t∈L,∃ num,t.s.slot=num%64∧t.s.due=Zg num t.s.lv∧now/8 ^ t.s.lv<num∧num≤now/8 ^ t.s.lv+64∧num*8 ^ t.s.lv<18446744073709551615+8 ^ t.s.lv
theorem QZ.new:QZ now [] sl0 (List.replicate 512 []) bs0 [] 0 0 where
 row:=ok0
 xs:=List.length_replicate
 own k hk:=⟨_,_,by unfold sl0; rw [List.getElem?_replicate,if_pos hk],by rw [List.getElem?_replicate,if_pos hk],zm.nil⟩
 busy n hn:=⟨0,by unfold bs0; rw [List.getElem?_replicate,if_pos hn],by decide,fun s _=>by simp [zv]⟩
 map:=QP.nil 0
 keys:=.nil
 val:=fun _ h=>by cases h
 nodup:=List.nodup_nil
 turns:=.nil
 last:=fun _ h=>by cases h
 range:=fun _ h=>by cases h
 spot:=fun _ h=>by cases h
 time:=fun _ h=>by cases h
theorem qpZ (hj:j<64):(z ||| Z9 (j:Int)).testBit s=(z.testBit s || decide (s=j)):=by
 have e:Z9 (j:Int)=2 ^ j:=by unfold Z9; rw [if_pos (by omega)]; rfl
 rw [e,Nat.testBit_or,Nat.testBit_two_pow]
 congr 1
 exact decide_eq_decide.2 ⟨fun h=>h.symm,fun h=>h.symm⟩
theorem QZ.put {l:Qk Int} (h:QZ now L sl XS bs l c turn) {v':Value} {X':qg} (hid:0≤id∧id<256) (hnew:id ∉ L.map (·.id)) (hlv:e.lv<8∧e.slot<64)
  (htm:∃ num,e.slot=num%64∧e.due=Zg num e.lv∧now/8 ^ e.lv<num∧num≤now/8 ^ e.lv+64∧num*8 ^ e.lv<18446744073709551615+8 ^ e.lv) (hO:zm 3 1 v' (zv L (e.lv*64+e.slot)++[id]).length ((zv L (e.lv*64+e.slot)++[id]).map (Value.int .i64)) X') (hz:bs[e.lv]?=some z) :
  QZ now (L++[⟨id,e,turn+1⟩]) (sl.set (e.lv*64+e.slot) v') (XS.set (e.lv*64+e.slot) X') (bs.set e.lv (ZE z [(e.slot:Int)])) (Yd l c id (.agg (e.v++[Value.int .i64 (((turn+1):Nat):Int)]).toArray)) (Kb l c id) (turn+1):=by
 have hk:e.lv*64+e.slot<512:=by omega
 have hid':∀ k,zv (L++[⟨id,e,turn+1⟩]) k=zv L k++(if e.lv*64+e.slot=k then [id] else []):=fun k=>qfX L ⟨id,e,turn+1⟩ k
 have hno:Z3 l id=false:=by
  cases hh:Z3 l id with
  | false=>rfl
  | true=>exact absurd (h.keys.mem_iff.1 (J0.1 hh)) hnew
 have hpl:Yd l c id (.agg (e.v++[Value.int .i64 (((turn+1):Nat):Int)]).toArray)=l++[(id,.agg (e.v++[Value.int .i64 (((turn+1):Nat):Int)]).toArray,c)]:=by unfold Yd; rw [hno]; rfl
 have all:∀ {p:Tm→Prop},(∀ t∈L,p t)→p ⟨id,e,turn+1⟩→∀ t∈L++[⟨id,e,turn+1⟩],p t:=fun h1 h2 t ht=>by
  rcases List.mem_append.1 ht with ht | ht
  ·exact h1 t ht
  ·rw [List.mem_singleton.1 ht]; exact h2
 refine ⟨(h.row.setSl _ _).setBs _ _,by rw [List.length_set,h.xs],fun k hk2=>?_,fun n hn=>?_,h.map.put id _,?_,?_,?_,?_,all (fun t ht=>Nat.le_succ_of_le (h.last t ht)) (Nat.le_refl _),all h.range hid,all h.spot hlv,all h.time htm⟩
 ·rw [hid']
  by_cases ek:e.lv*64+e.slot=k
  ·subst ek
   rw [if_pos rfl]
   exact ⟨v',X',List.getElem?_set_self (by rw [h.row.sl]; exact hk),List.getElem?_set_self (by rw [h.xs]; exact hk),hO⟩
  ·rw [if_neg ek,List.append_nil]
   obtain ⟨v,X,h1,h2,h3⟩:=h.own k hk2
   exact ⟨v,X,by rw [List.getElem?_set_ne ek]; exact h1,by rw [List.getElem?_set_ne ek]; exact h2,h3⟩
 ·obtain ⟨zn,h1,h2,h3⟩:=h.busy n hn
  by_cases en:e.lv=n
  ·subst en
   obtain rfl:z=zn:=Option.some.inj (hz.symm.trans h1)
   refine ⟨_,List.getElem?_set_self (by rw [h.row.bs]; exact hn),K9 _ h2,fun s hs=>?_⟩
   show (z ||| Z9 (e.slot:Int)).testBit s=true↔_
   rw [qpZ hlv.2,hid',Bool.or_eq_true,h3 s hs,decide_eq_true_eq]
   by_cases es:s=e.slot
   ·subst es; rw [if_pos rfl]; simp
   ·rw [if_neg (by omega),List.append_nil]; exact ⟨fun h=>h.resolve_right es,.inl⟩
  ·refine ⟨zn,by rw [List.getElem?_set_ne en]; exact h1,h2,fun s hs=>?_⟩
   rw [hid',if_neg (by omega),List.append_nil]
   exact h3 s hs
 ·rw [hpl,List.map_append,List.map_append]
  exact h.keys.append (.refl _)
 ·rw [hpl]
  intro p hp
  rcases List.mem_append.1 hp with hp | hp
  ·obtain ⟨t,ht,h1,h2⟩:=h.val p hp
   exact ⟨t,List.mem_append_left _ ht,h1,h2⟩
  ·rw [List.mem_singleton.1 hp]
   exact ⟨_,List.mem_append_right _ List.mem_cons_self,rfl,rfl⟩
 ·rw [List.map_append,List.nodup_append]
  refine ⟨h.nodup,by simp,fun a ha b hb=>?_⟩
  rw [List.mem_singleton.1 hb]
  exact fun (e:a=id)=>hnew (e ▸ ha)
 ·rw [List.pairwise_append]
  refine ⟨h.turns,List.pairwise_singleton _ _,fun a ha b hb=>?_⟩
  rw [List.mem_singleton.1 hb]
  exact Nat.lt_succ_of_le (h.last a ha)
theorem KB:∀ {L:List Tm} {t u:Tm},(L.map (·.id)).Nodup→t∈L→u∈L→t.id=u.id→t=u
 | x::L,t,u,hn,ht,hu,e=>by
  rw [List.map_cons,List.nodup_cons] at hn
  rcases List.mem_cons.1 ht with rfl | ht' <;> rcases List.mem_cons.1 hu with rfl | hu'
  ·rfl
  ·exact absurd (e ▸ List.mem_map_of_mem hu') hn.1
  ·exact absurd (e ▸ List.mem_map_of_mem ht') hn.1
  ·exact KB hn.2 ht' hu' e
theorem qn7 (hj:j<64) (hs:s<64):(z &&& (18446744073709551615-Z9 (j:Int))).testBit s=(z.testBit s && decide (s≠j)):=by
 have e:Z9 (j:Int)=2 ^ j:=by unfold Z9; rw [if_pos (by omega)]; rfl
 have hp:=qeB hj
 have e2:18446744073709551615-2 ^ j=2 ^ 64-(2 ^ j+1):=by omega
 rw [e,Nat.testBit_and,e2,Nat.testBit_two_pow_sub_succ (by omega),Nat.testBit_two_pow,decide_eq_true hs]
 congr 1
 rw [Bool.true_and,← decide_not]
 exact decide_eq_decide.2 ⟨fun h e=>h e.symm,fun h e=>h e.symm⟩
theorem QZ.del {bs':List Nat} {l:Qk Int} (h:QZ now L sl XS bs l c turn) {t:Tm} (ht:t∈L) {v':Value} {X':qg}
  (hO:zm 3 1 v' (Zv (zv L t.key) t.id).length ((Zv (zv L t.key) t.id).map (Value.int .i64)) X') (hz:bs[t.s.lv]?=some z) (hb:bs'=if (Zv (zv L t.key) t.id).length=0 then bs.set t.s.lv (ZQ z [(t.s.slot:Int)]) else bs) :
  QZ now (Ys L t.id) (sl.set t.key v') (XS.set t.key X') bs' (Yo l t.id) c turn:=by
 have hs:=h.spot t ht
 have hk:t.key<512:=by unfold Tm.key; omega
 have hoth:∀ k,k≠t.key→Zv (zv L k) t.id=zv L k:=fun k hne=>qaE (fun hin=>by
  obtain ⟨u,hu,h1,h2⟩:=Jj.1 hin
  exact hne (h1 ▸ KB h.nodup hu ht h2 ▸ rfl))
 have hin:∀ {p:Tm→Prop},(∀ t∈L,p t)→∀ u∈Ys L t.id,p u:=fun h1 u hu=>h1 u (List.mem_filter.1 hu).1
 have hrow:Zy (sl.set t.key v') bs':=by rw [hb]; split; exact (h.row.setSl _ _).setBs _ _; exact h.row.setSl _ _
 refine ⟨hrow,by rw [List.length_set,h.xs],fun k hk2=>?_,fun n hn=>?_,h.map.del t.id,?_,?_,?_,h.turns.filter _,hin h.last,hin h.range,hin h.spot,hin h.time⟩
 ·rw [KJ]
  by_cases ek:t.key=k
  ·subst ek
   exact ⟨v',X',List.getElem?_set_self (by rw [h.row.sl]; exact hk),List.getElem?_set_self (by rw [h.xs]; exact hk),hO⟩
  ·rw [hoth k (fun e=>ek e.symm)]
   obtain ⟨v,X,h1,h2,h3⟩:=h.own k hk2
   exact ⟨v,X,by rw [List.getElem?_set_ne ek]; exact h1,by rw [List.getElem?_set_ne ek]; exact h2,h3⟩
 ·obtain ⟨zn,h1,h2,h3⟩:=h.busy n hn
  have keep:∀ s,s<64→n*64+s≠t.key→(zn.testBit s=true↔zv (Ys L t.id) (n*64+s)≠[]):=fun s hs64 hne=>by rw [KJ,hoth _ hne]; exact h3 s hs64
  by_cases he:(Zv (zv L t.key) t.id).length=0
  ·rw [hb,if_pos he]
   have hnil:=List.eq_nil_of_length_eq_zero he
   by_cases en:t.s.lv=n
   ·subst en
    obtain rfl:z=zn:=Option.some.inj (hz.symm.trans h1)
    refine ⟨_,List.getElem?_set_self (by rw [h.row.bs]; exact hn),qam _ h2,fun s hs64=>?_⟩
    show (z &&& (18446744073709551615-Z9 (t.s.slot:Int))).testBit s=true↔_
    rw [qn7 hs.2 hs64]
    by_cases es:s=t.s.slot
    ·subst es
     rw [KJ,show t.s.lv*64+t.s.slot=t.key from rfl,hnil]; simp
    ·rw [decide_eq_true es,Bool.and_true]
     exact keep s hs64 (by unfold Tm.key; omega)
   ·exact ⟨zn,by rw [List.getElem?_set_ne en]; exact h1,h2,fun s hs64=>keep s hs64 (by unfold Tm.key; omega)⟩
  ·rw [hb,if_neg he]
   refine ⟨zn,h1,h2,fun s hs64=>?_⟩
   by_cases ek:n*64+s=t.key
   ·rw [h3 s hs64,ek,KJ]
    exact ⟨fun _ e=>he (by rw [e]; rfl),fun _ e=>he (by rw [e]; rfl)⟩
   ·exact keep s hs64 ek
 ·have e1:(Yo l t.id).map (·.1)=(l.map (·.1)).filter (fun x=>decide (t.id≠x)):=by unfold Yo; rw [List.filter_map]; rfl
  have e2:(Ys L t.id).map (·.id)=(L.map (·.id)).filter (fun x=>decide (t.id≠x)):=by
   unfold Ys; rw [List.filter_map]; congr 1
   exact List.filter_congr fun u _=>decide_eq_decide.2 ⟨fun h e=>h e.symm,fun h e=>h e.symm⟩
  rw [e1,e2]; exact h.keys.filter _
 ·intro p hp
  obtain ⟨hp1,hp2⟩:=List.mem_filter.1 hp
  obtain ⟨u,hu,h1,h2⟩:=h.val p hp1
  exact ⟨u,List.mem_filter.2 ⟨hu,decide_eq_true (fun e=>of_decide_eq_true hp2 (e ▸ h1))⟩,h1,h2⟩
 ·exact h.nodup.sublist (List.Sublist.map _ List.filter_sublist)
theorem qeN {x:Nat} (hx:x≤18446744073709551615) (hs:s<64):Yk x s=if (x+1)%64≤s then s-(x+1)%64+1 else s+65-(x+1)%64:=by
 unfold Yk
 split <;> split <;> omega
theorem XI {x:Nat} (hx:x≤18446744073709551615) (h:zN z (((x+1)%64:Nat):Int)=some s):s<64∧z.testBit s=true∧∀ r,r<64→z.testBit r=true→Yk x s≤Yk x r:=by
 obtain ⟨h1,h2⟩:=K5 h
 refine ⟨h1,h2,fun r hr hb=>?_⟩
 rw [qeN hx h1,qeN hx hr]
 unfold zN at h
 cases hn:Z2 z (((x+1)%64:Nat):Int) with
 | some i =>
  rw [hn] at h
  obtain rfl:i=s:=Option.some.inj h
  obtain ⟨_,_,h3,h4⟩:=JZ hn
  have h5:=h4 r
  by_cases c:r<i
  ·have:=h5 c hb
   split <;> split <;> omega
  ·split <;> split <;> omega
 | none =>
  rw [hn] at h
  obtain ⟨_,_,h3,h4⟩:=JZ h
  have lt:∀ j,z.testBit j=true→j<64→(j:Int)<(((x+1)%64:Nat):Int):=fun j hj hj64=>by
   by_cases c:(j:Int)<(((x+1)%64:Nat):Int)
   ·exact c
   ·exfalso
    unfold Z2 at hn
    rw [List.find?_eq_none] at hn
    exact hn j (List.mem_range.2 hj64) (by rw [hj,decide_eq_true (by omega)]; rfl)
  have l1:=lt s h2 h1
  have l2:=lt r hb hr
  have h5:¬ r<s:=fun c=>by have:=h4 r c hb; omega
  split <;> split <;> omega
theorem qbx {f:Int} (h:zN z f=none):∀ r,r<64→z.testBit r=false:=fun r hr=>by
 cases hb:z.testBit r with
 | false=>rfl
 | true =>
  exfalso
  unfold zN at h
  have h0:Z2 z 0=none:=by
   cases hn:Z2 z f with
   | some i=>rw [hn] at h; cases h
   | none=>rw [hn] at h; exact h
  unfold Z2 at h0
  rw [List.find?_eq_none] at h0
  exact h0 r (List.mem_range.2 hr) (by rw [hb,decide_eq_true (by omega)]; rfl)
theorem qb2 (h:a≤b):Zg a n≤Zg b n:=by
 have hm:=Nat.mul_le_mul_right (8 ^ n) h
 have h0:¬ 18446744073709551615/8 ^ n<a→a*8 ^ n≤18446744073709551615:=fun hh=>(Nat.le_div_iff_mul_le (Nat.pow_pos zO)).1 zO
 unfold Zg
 by_cases ha:18446744073709551615/8 ^ n<a
 ·rw [if_pos ha,if_pos (by omega)]; exact Nat.le_refl _
 ·rw [if_neg ha]
  have:=h0 ha
  split <;> omega
theorem qeK {now turn c:Nat} {L:List Tm} {sl:List Value} {XS:List qg} {bs:List Nat} {l:Qk Int} (h:QZ now L sl XS bs l c turn) (hnow:now≤18446744073709551615):∀ n,n≤8 →
  (nx now bs n=none∧∀ t∈L,n≤t.s.lv)∨∃ a,nx now bs n=some a∧(∃ t∈L,t.s.lv<n∧t.s.due=a)∧∀ t∈L,t.s.lv<n→a≤t.s.due
 | 0,_=>.inl ⟨rfl,fun _ _=>Nat.zero_le _⟩
 | n+1,hn=>by
  have ih:=qeK h hnow n zO
  obtain ⟨z,hz,hz2,hz3⟩:=h.busy n zO
  have hx:now/8 ^ n≤18446744073709551615:=Nat.le_trans (Nat.div_le_self _ _) hnow
  cases ha:zN z ((Z4 now n:Nat):Int) with
  | none =>
   have hno:∀ t∈L,t.s.lv≠n:=fun t ht e=>by
    subst e
    have h1:=qbx ha t.s.slot (h.spot t ht).2
    have h2:=(hz3 t.s.slot (h.spot t ht).2).2 (fun e=>by have:=Jj.2 ⟨t,ht,rfl,rfl⟩; rw [show t.key=t.s.lv*64+t.s.slot from rfl,e] at this; cases this)
    rw [h1] at h2; cases h2
   rw [qgJ hz ha]
   rcases ih with ⟨h1,h2⟩ | ⟨a,h1,⟨t,h2,h3,h4⟩,h5⟩
   ·exact .inl ⟨h1,fun t ht=>by have:=h2 t ht; have:=hno t ht; omega⟩
   ·exact .inr ⟨a,h1,⟨t,h2,by omega,h4⟩,fun u hu hl=>h5 u hu (by have:=hno u hu; omega)⟩
  | some s =>
   obtain ⟨g1,g2,g3⟩:=XI hx ha
   obtain ⟨id,hid⟩:∃ id,id∈zv L (n*64+s):=List.exists_mem_of_ne_nil _ ((hz3 s g1).1 g2)
   obtain ⟨t,ht,hk,_⟩:=Jj.1 hid
   have hsp:=h.spot t ht
   have hk2:t.s.lv*64+t.s.slot=n*64+s:=hk
   have hlv:t.s.lv=n:=by omega
   have hsl:t.s.slot=s:=by omega
   have dueOf:∀ u∈L,u.s.lv=n→u.s.due=Q8 now n u.s.slot:=fun u hu e=>by
    obtain ⟨num,m1,m2,m3,m4,_⟩:=h.time u hu
    subst e
    rw [m2,qgz hnow m3 m4 m1.symm]
   have hd:=dueOf t ht hlv
   rw [hsl] at hd
   have le1:∀ u∈L,u.s.lv=n→Q8 now n s≤u.s.due:=fun u hu e=>by
    rw [dueOf u hu e]
    have hm:=g3 u.s.slot (h.spot u hu).2 ((e ▸ hz3 u.s.slot (h.spot u hu).2).2 (fun e2=>by have:=Jj.2 ⟨u,hu,rfl,rfl⟩; rw [show u.key=u.s.lv*64+u.s.slot from rfl,e2] at this; cases this))
    unfold Q8
    have hmo:=qb2 (n:=n) (Nat.add_le_add_left hm (now/8 ^ n))
    have hle:=qb3 (now/8 ^ n+Yk (now/8 ^ n) s) n
    split <;> split <;> omega
   right
   rcases ih with ⟨h1,h2⟩ | ⟨a,h1,⟨t2,h2,h3,h4⟩,h5⟩
   ·exact ⟨_,qeL hz ha h1,⟨t,ht,by omega,hd⟩,fun u hu hl=>le1 u hu (by have:=h2 u hu; omega)⟩
   ·refine ⟨_,qdP hz ha h1,?_,fun u hu hl=>?_⟩
    ·by_cases c:Q8 now n s<a
     ·rw [if_pos c]; exact ⟨t,ht,by omega,hd⟩
     ·rw [if_neg c]; exact ⟨t2,h2,by omega,h4⟩
    ·by_cases e:u.s.lv=n
     ·have:=le1 u hu e; split <;> omega
     ·have:=h5 u hu zO; split <;> omega
theorem qiY {x:Nat}:Zg x n≤x*8 ^ n:=by
 unfold Zg
 split
 ·rename_i h
  have:=(Nat.div_lt_iff_lt_mul (Nat.pow_pos (by omega:0<8))).1 h
  omega
 ·exact Nat.le_refl _
theorem QZ.later {now':Nat} {l:Qk Int} (h:QZ now L sl XS bs l c turn) (hle:now≤now') (hd:∀ t∈L,now'<t.s.due):QZ now' L sl XS bs l c turn :=
 { h with
  time:=fun t ht=>by
   obtain ⟨num,h1,h2,h3,h4,h5a⟩:=h.time t ht
   have h5:=hd t ht
   rw [h2] at h5
   have h6:now'<num*8 ^ t.s.lv:=Nat.lt_of_lt_of_le h5 qiY
   have h7:now/8 ^ t.s.lv≤now'/8 ^ t.s.lv:=Nat.div_le_div_right hle
   exact ⟨num,h1,h2,(Nat.div_lt_iff_lt_mul (Nat.pow_pos zO)).2 h6,by omega,h5a⟩ }
theorem qiu {z:Int} (hid:id<0∨256≤id):Qx Tryz.prog (fun _=>True) 180 [zp bw,zi id,zu z] (.tuple #[.agg qN.v.toArray,zi 2]):=by
 intro w0 H hT
 refine qc Tryz.func180 rfl Tryz.ntmps180 rfl rfl (ze ?_)
 refine qp (l:=qN.v) zj rfl rfl (fun b6=>?_)
 refine za 6 rfl ?_
 refine W_x (qr rfl rfl Ze) (fun _ h=>by cases h) rfl ?_
 refine za 7 rfl ?_
 apply YR
 iterate 4 exact rfl
 case h1 =>
  intro hg2
  refine za 4 rfl ?_
  exact Q3 rfl zR
 refine za 2 rfl ?_
 refine KP rfl (by simp; omega) ?_
 refine ze (qX zj qcf .nil rfl zF rfl ?_)
 refine ql (l':=qN.v) rfl rfl zj rfl rfl (b:=b6) zM (by exact Nat.le_refl 4) rfl zU ?_
 refine za 2 rfl ?_
 refine zc (H2:=H) Tryz.results180 (.nil _) (.own rfl zj rfl zM rfl) (.tmp rfl) zH ?_
 exact ⟨rfl,rfl⟩
theorem qiw {l:Qk Int} (hid:0≤id∧id<256) (ha:a≤18446744073709551615) (hok:Zy sl bs) (hw:(bw,.cells 406 523 (q9 18446744073709551615 sl bs bm turn))∈H) (hm:(bm,.obj (qM (Value.int .i64) l c))∈H) (hv:(Ye l id).getD Xa=Xa) (hh:Z3 l id=false) :qB Tryz.prog w0 H 180 [zp bw,zi id,zu ((a:Nat):Int)] (.tuple #[.agg qN.v.toArray,zi 12]):=by
 refine qc Tryz.func180 rfl Tryz.ntmps180 rfl rfl (ze ?_)
 refine qp (l:=qN.v) zj rfl rfl (fun b6=>?_)
 refine za 6 rfl ?_
 refine W_x (qr rfl rfl Ze) (fun _ h=>by cases h) rfl ?_
 refine za 7 rfl ?_
 apply YR
 iterate 4 exact rfl
 case h1 =>
  intro hg2
  refine za 4 rfl ?_
  exact Q3 rfl zR
 refine za 2 rfl ?_
 refine QA rfl (by simp; omega) ?_
 refine za 7 rfl ?_
 refine qe (v:=.map (some bm)) rfl ZY rfl (qf.own (b:=bw) (List.mem_cons_of_mem _ hw) (Y5 hok)) rfl ?_
 refine qD rfl rfl ?_
 refine Xq (a:=id) (zE:=Xa) rfl rfl qc3 ZY zEz (List.mem_cons_of_mem _ hm) rfl ?_
 simp only [if_true]
 rw [hv,hh]
 refine za 3 rfl ?_
 refine qp (l:=[zi 0,zi 0,zu 0,zu 0,zi 0]) XZ rfl rfl (fun b8=>?_)
 refine ql (l':=[zi 0,zi 0,zu 0,zu 0,zi 0]) rfl rfl XZ rfl rfl (b:=b8) zM (by exact Nat.le_refl 5) rfl zU ?_
 refine za 11 rfl ?_
 refine qe (v:=zu ((18446744073709551615:Nat):Int)) rfl zJ rfl (qf.own (b:=bw) (by repeat (first | exact hw | exact List.mem_cons_self | apply List.mem_cons_of_mem | apply List.mem_append_right)) qaP) rfl ?_
 refine qD rfl rfl ?_
 refine qT (zc2 rfl rfl) Tryz.call267 rfl (T:=fun _=>True) trivial (qcY (a:=18446744073709551615) (b:=a) (Nat.le_refl _) ha) ?_
 rw [show Qq 18446744073709551615 a=(qN,12) from if_pos rfl]
 refine za 3 rfl ?_
 refine qp (l:=qN.v) zj rfl rfl (fun b10=>?_)
 refine ql (l':=qN.v) rfl rfl zj rfl rfl (b:=b10) zM (by exact Nat.le_refl 4) rfl zU ?_
 refine za 9 rfl (qX zj qcf .nil rfl zF rfl (qD rfl rfl ?_))
 refine ql (l':=qN.v) rfl rfl zj rfl rfl (b:=b6) zM (by exact Nat.le_refl 4) rfl zU ?_
 refine za 2 rfl ?_
 refine zc (H2:=H) Tryz.results180 (.nil _) (.own rfl zj rfl zM rfl) (.tmp rfl) zH ?_
 exact ⟨rfl,rfl⟩
theorem qe5 {B:qg} (h:XS[k]?=some B):qC (XS.flatten++H) (B++((XS.set k []).flatten++H)) :=
 qC.of_perm (((flat_take h).append_right H).trans (by rw [List.append_assoc]))
theorem qgU {B:qg} (h:k<XS.length):qC (B++((XS.set k []).flatten++H)) ((XS.set k B).flatten++H) :=
 by
 have h1:=(qcC (B:=B) h).append_right H
 rw [List.append_assoc] at h1
 exact qC.of_perm h1
inductive zP (bw now:Nat) (L:List Tm) (turn:Nat):qg→Prop
 | mk {bm c:Nat} {sl:List Value} {XS:List qg} {bs:List Nat} {l:Qk Int} (h:QZ now L sl XS bs l c turn):zP bw now L turn ((bw,.cells 406 523 (q9 now sl bs bm turn))::(bm,.obj (qM (Value.int .i64) l c))::XS.flatten)
theorem KG:∀ {n:Nat} {l:List Int},l.Nodup→(∀ x∈l,0≤x∧x<(n:Int))→l.length≤n
 | 0,l,_,h=>by
  cases l with
  | nil=>exact Nat.le_refl _
  | cons x l=>have:=h x List.mem_cons_self; omega
 | n+1,l,hn,h=>by
  have h1:=KG (n:=n) (hn.filter (fun x=>decide (x≠(n:Int)))) (fun x hx=>by
   obtain ⟨m1,m2⟩:=List.mem_filter.1 hx
   have:=h x m1
   have:=of_decide_eq_true m2
   omega)
  by_cases c:(n:Int)∈l
  ·have h2:l.length=(l.filter (fun x=>decide (x≠(n:Int)))).length+1:=by
    have e:l.erase (n:Int)=l.filter (fun x=>decide (x≠(n:Int))):=by
     rw [hn.erase_eq_filter]
     exact List.filter_congr fun x _=>by
      by_cases e:x=(n:Int) <;> simp [e]
    rw [← e,List.length_erase_of_mem c]
    have:=List.length_pos_of_mem c
    omega
   omega
  ·have h2:l.filter (fun x=>decide (x≠(n:Int)))=l:=List.filter_eq_self.2 fun x hx=>decide_eq_true (fun e=>c (e ▸ hx))
   rw [h2] at h1; omega
theorem QZ.len {l:Qk Int} (h:QZ now L sl XS bs l c turn):L.length≤256:=by
 have:=KG (n:=256) h.nodup (fun x hx=>by
  obtain ⟨t,ht,rfl⟩:=List.mem_map.1 hx
  exact h.range t ht)
 rwa [List.length_map] at this
theorem KI (L:List Tm) (k:Nat):(zv L k).length≤L.length:=by
 unfold zv; rw [List.length_map]; exact List.length_filter_le _ _
theorem QZ.miss {l:Qk Int} (h:QZ now L sl XS bs l c turn) (hn:id ∉ L.map (·.id)):(Ye l id).getD Xa=Xa∧Z3 l id=false:=by
 have h1:Z3 l id=false:=by
  cases hh:Z3 l id with
  | false=>rfl
  | true=>exact absurd (h.keys.mem_iff.1 (J0.1 hh)) hn
 refine ⟨?_,h1⟩
 unfold Ye
 cases hf:l.find? (fun p=>decide (id=p.1)) with
 | none=>rfl
 | some p =>
  exfalso
  have h2:=List.find?_some hf
  have h3:=List.mem_of_find?_eq_some hf
  have:id∈l.map (·.1):=by
   rw [of_decide_eq_true h2]; exact List.mem_map_of_mem h3
  exact hn (h.keys.mem_iff.1 this)
theorem qqh {l:Qk Int} (h:QZ now L sl XS bs l c turn) (hnow:now<18446744073709551615) (ha:a≤18446744073709551615) (hid:0≤id∧id<256) (htn:turn≤4611686018427387904) (he:(Qq now a)=(e,0)) (hsp:e.lv<8∧e.slot<64) (hv:(Ye l id).getD Xa=Xa) (hh:Z3 l id=false) :qh Tryz.prog w0 180 #[zp bw,zi id,zu ((a:Nat):Int)] ((bw,.cells 406 523 (q9 now sl bs bm turn))::(bm,.obj (qM (Value.int .i64) l c))::(XS.flatten++H)) (fun v H'=>∃ v' X' z,v=.tuple #[.agg e.v.toArray,zi 0]∧zm 3 1 v' (zv L (e.lv*64+e.slot)++[id]).length ((zv L (e.lv*64+e.slot)++[id]).map (Value.int .i64)) X'∧bs[e.lv]?=some z∧H'=(bw,.cells 406 523 (q9 now (sl.set (e.lv*64+e.slot) v') (bs.set e.lv (ZE z [(e.slot:Int)])) bm (turn+1)))::(bm,.obj (qM (Value.int .i64) (Yd l c id (.agg (e.v++[Value.int .i64 (((turn+1):Nat):Int)]).toArray)) (Kb l c id)))::((XS.set (e.lv*64+e.slot) X').flatten++H)):=by
 refine qc (l:=[zp bw,zi id,zu ((a:Nat):Int)]) Tryz.func180 rfl Tryz.ntmps180 rfl rfl ?_
 refine ze ?_
 refine qp (l:=qN.v) zj rfl rfl (fun b6=>?_)
 refine za 6 rfl ?_
 refine W_x (qr rfl rfl Ze) (fun _ h=>by cases h) rfl ?_
 refine za 7 rfl ?_
 apply YR
 iterate 4 exact rfl
 case h1 =>
  intro hg2
  refine za 4 rfl ?_
  exact Q3 rfl zR
 refine za 2 rfl ?_
 refine QA rfl (by simp; omega) ?_
 refine za 7 rfl ?_
 refine qe (v:=.map (some bm)) rfl ZY rfl (qf.own (b:=bw) zM (Y5 h.row)) rfl ?_
 refine qD rfl rfl ?_
 refine Xq (b:=bm) (a:=id) (zE:=Xa) rfl rfl qc3 ZY zEz zM rfl ?_
 simp only [if_true]
 rw [hv,hh]
 refine za 3 rfl ?_
 refine qp (l:=[zi 0,zi 0,zu 0,zu 0,zi 0]) XZ rfl rfl (fun b8=>?_)
 refine ql (l':=[zi 0,zi 0,zu 0,zu 0,zi 0]) rfl rfl XZ rfl rfl (b:=b8) zM (by exact Nat.le_refl 5) rfl zU ?_
 refine za 11 rfl ?_
 refine qe (v:=zu (now:Int)) rfl zJ rfl (qf.own (b:=bw) zM qaP) rfl ?_
 refine qD rfl rfl ?_
 refine qT (zc2 rfl rfl) Tryz.call267 rfl (T:=fun _=>True) trivial (qcY (a:=now) (b:=a) zO ha) ?_
 rw [he]
 refine za 3 rfl ?_
 refine qp (l:=qN.v) zj rfl rfl (fun b10=>?_)
 refine ql (l':=e.v) rfl rfl zj rfl rfl (b:=b10) zM (by exact Nat.le_refl 4) rfl zU ?_
 refine za 13 rfl ?_
 refine qe (v:=zi (turn:Int)) rfl ty3 rfl (qf.own (b:=bw) zM (qgt h.row)) rfl ?_
 refine qE rfl rfl (qQ (m:=((turn+1:Nat):Int)) (by rw [zg (by omega)]; omega)) rfl ?_
 refine za 2 rfl ?_
 refine qv (l':=q9 now sl bs bm (turn+1)) rfl rfl ty3 rfl rfl (b:=bw) zM (by rw [qaQ h.row]; rfl) (qfr h.row) zU ?_
 refine za 2 rfl ?_
 refine W_anyC [(b10,.cells 71 4 e.v),(bw,.cells 406 523 (q9 now sl bs bm (turn+1)))] zk ?_
 refine zw [0,1,2] rfl rfl ?_
 refine WC_take 3 rfl zK zK zK rfl rfl (qj (v:=.map (some bm)) rfl ZY rfl (qf.own (b:=bw) zM (Y5 h.row))) rfl ?_
 refine zw [4] rfl rfl ?_
 refine WC_take 5 rfl zK zK zK rfl rfl (Qm (vs:=e.v) rfl zj rfl (b:=b10) zM rfl rfl) rfl ?_
 refine zw [6,7,8] rfl rfl ?_
 refine WC_take 9 rfl zK zK zK rfl rfl (qj (v:=zi ((turn+1:Nat):Int)) rfl ty3 rfl (qf.own (b:=bw) zM (qgt h.row))) rfl ?_
 refine WC_take 10 rfl zK zK zK rfl rfl (qaK (l:=(e.v++[Value.int .i64 (((turn+1):Nat):Int)])) XZ pl408 (.cons rfl rfl rfl rfl rfl (.cons rfl rfl rfl rfl rfl .nil)) rfl rfl) rfl ?_
 refine WC_one 11 zH zK rfl rfl ?_
 refine J4 (a:=id) (b:=bm) rfl rfl rfl qc3 ZY h.map zU ?_
 refine qs (WC_goal (WC_done zH zK (Kv ?_)))
 obtain ⟨v,X,hsl,hX,hO⟩:=h.own (e.lv*64+e.slot) zO
 have hlen:=h.len
 have hil:=KI L (e.lv*64+e.slot)
 refine qO (.cons (.here _) (.drop (.cons (.here _) (.cons (.here _) (.cons (.here _) (qe5 hX)))))) ?_
 refine W_anyS [(b10,.cells 71 4 e.v),(bw,.cells 406 523 (q9 now sl bs bm (turn+1)))] 22 zk ?_
 refine WS_take 0 rfl rfl zK zK zK zK rfl rfl (zf rfl) rfl ?_
 refine WS_take 1 rfl rfl zK zK zK zK rfl rfl (qF rfl Yq zd) rfl ?_
 refine WS_take 2 rfl rfl zK zK zK zK rfl rfl (qj (v:=zi (e.lv:Int)) rfl ty3 rfl (qf.own (b:=b10) zM rfl)) rfl ?_
 refine WS_take 3 rfl rfl zK zK zK zK rfl rfl (qF rfl XF zd) rfl ?_
 refine WS_take 4 rfl rfl zK zK zK zK rfl rfl (qj (v:=zi (e.slot:Int)) rfl ty3 rfl (qf.own (b:=b10) zM rfl)) rfl ?_
 refine WS_take 5 rfl rfl zK zK zK zK rfl rfl (zf rfl) rfl ?_
 refine WS_take 6 rfl rfl zK zK zK zK rfl rfl (qF rfl Yq zd) rfl ?_
 refine WS_take 7 rfl rfl zK zK zK zK rfl rfl (qj (v:=zi (e.lv:Int)) rfl ty3 rfl (qf.own (b:=b10) zM rfl)) rfl ?_
 refine WS_take 8 rfl rfl zK zK zK zK rfl rfl (qF rfl XF zd) rfl ?_
 refine WS_take 9 rfl rfl zK zK zK zK rfl rfl (qj (v:=zi (e.slot:Int)) rfl ty3 rfl (qf.own (b:=b10) zM rfl)) rfl ?_
 refine WS_take 10 rfl rfl zK zK zK zK rfl rfl (qY rfl) rfl ?_
 refine WS_take 11 rfl rfl zK zK zK zK rfl rfl (qF rfl Kl zd) rfl ?_
 refine WS_take 12 rfl rfl zK zK zK zK rfl rfl (z8 (j:=e.lv) rfl rfl qc8 KU rfl hsp.1 (at_:=1+e.lv*64) zO) rfl ?_
 refine WS_take 13 rfl rfl zK zK zK zK rfl rfl (z8 (j:=e.slot) rfl rfl KU qZ rfl hsp.2 (at_:=1+(e.lv*64+e.slot)) zO) rfl ?_
 refine WS_take 14 rfl rfl zK zK zK zK rfl rfl (qj (v:=v) rfl qZ rfl (qf.own (b:=bw) zM (qiJ h.row hsl))) rfl ?_
 refine WS_take 15 rfl rfl zK zK zK zK rfl rfl (zf rfl) rfl ?_
 refine Qj 18 rfl rfl zK zK zK rfl rfl (qY rfl) rfl ?_
 refine Qj 19 rfl rfl zK zK zK rfl rfl (qF rfl Kl zd) rfl ?_
 refine Qj 20 rfl rfl zK zK zK rfl rfl (z8 (j:=e.lv) rfl rfl qc8 KU rfl hsp.1 (at_:=1+e.lv*64) zO) rfl ?_
 refine WS_one 16 zH rfl zK rfl rfl ?_
 refine qy qZ ty3 (.cons rfl rfl rfl rfl rfl .nil) rfl rfl rfl rfl rfl rfl rfl (fun b82=>?_)
 refine qs ?_
 refine WS_goal ?_
 refine WS_one 17 zH rfl zK rfl rfl ?_
 refine Qv (news:=[zi id]) (m:=1) (HB:=X) (H0:=(b82,.cells 3 1 [zi id])::(b10,.cells 71 4 e.v)::(b6,.cells 71 4 qN.v)::(bw,.cells 406 523 (q9 now sl bs bm (turn+1)))::(bm,.obj (qM (Value.int .i64) (Yd l c id (.agg (e.v++[Value.int .i64 (((turn+1):Nat):Int)]).toArray)) (Kb l c id)))::((XS.set (e.lv*64+e.slot) []).flatten++H)) rfl rfl qZ ty3 rfl (by decide) hO rfl (Holds.own List.mem_cons_self) rfl (by simp only [maxLen]; omega) (by omega) zH rfl (fun v' X' hO'=>?_)
 refine qs ?_
 refine WS_goal ?_
 refine WS_take 21 rfl rfl zK zK zK zK rfl rfl (z8 (j:=e.slot) rfl rfl KU qZ rfl hsp.2 (at_:=1+(e.lv*64+e.slot)) zO) rfl ?_
 refine WS_last zH zK rfl rfl ?_
 have hv1:v'.oneCell'=true:=by obtain ⟨_,_,rfl,_⟩:=hO'.shape; rfl
 refine qv (l':=q9 now (sl.set (e.lv*64+e.slot) v') bs bm (turn+1)) rfl rfl qZ hv1 rfl (b:=bw) zM (by rw [qaQ h.row,Nat.blt_eq]; omega) (qel h.row (by omega)) zU ?_
 refine qs (WC_goal (WC_done (.nil _) zK (Kv ?_)))
 obtain ⟨z,hz,hz2,_⟩:=h.busy e.lv hsp.1
 have hok2:=h.row.setSl (e.lv*64+e.slot) v'
 refine qO (H':=(b10,.cells 71 4 e.v)::(b6,.cells 71 4 qN.v)::(bw,.cells 406 523 (q9 now (sl.set (e.lv*64+e.slot) v') bs bm (turn+1)))::(bm,.obj (qM (Value.int .i64) (Yd l c id (.agg (e.v++[Value.int .i64 (((turn+1):Nat):Int)]).toArray)) (Kb l c id)))::((XS.set (e.lv*64+e.slot) X').flatten++H)) ((show qC _ ((b10,.cells 71 4 e.v)::(b6,.cells 71 4 qN.v)::(bw,.cells 406 523 (q9 now (sl.set (e.lv*64+e.slot) v') bs bm (turn+1)))::(bm,.obj (qM (Value.int .i64) (Yd l c id (.agg (e.v++[Value.int .i64 (((turn+1):Nat):Int)]).toArray)) (Kb l c id)))::(X'++((XS.set (e.lv*64+e.slot) []).flatten++H))) from zH).trans (.cons (.here _) (.cons (.here _) (.cons (.here _) (.cons (.here _) (qgU (by rw [h.xs]; omega))))))) ?_
 refine W_anyS [(b10,.cells 71 4 e.v),(bw,.cells 406 523 (q9 now (sl.set (e.lv*64+e.slot) v') bs bm (turn+1)))] 17 zk ?_
 refine WS_take 0 rfl rfl zK zK zK zK rfl rfl (zf rfl) rfl ?_
 refine WS_take 1 rfl rfl zK zK zK zK rfl rfl (qF rfl Yq zd) rfl ?_
 refine WS_take 2 rfl rfl zK zK zK zK rfl rfl (qj (v:=zi (e.lv:Int)) rfl ty3 rfl (qf.own (b:=b10) zM rfl)) rfl ?_
 refine WS_take 3 rfl rfl zK zK zK zK rfl rfl (zf rfl) rfl ?_
 refine WS_take 4 rfl rfl zK zK zK zK rfl rfl (qF rfl Yq zd) rfl ?_
 refine WS_take 5 rfl rfl zK zK zK zK rfl rfl (qj (v:=zi (e.lv:Int)) rfl ty3 rfl (qf.own (b:=b10) zM rfl)) rfl ?_
 refine WS_take 6 rfl rfl zK zK zK zK rfl rfl (qY rfl) rfl ?_
 refine WS_take 7 rfl rfl zK zK zK zK rfl rfl (qF rfl Kk zd) rfl ?_
 refine WS_take 8 rfl rfl zK zK zK zK rfl rfl (z8 (j:=e.lv) rfl rfl qc7 Qa rfl hsp.1 (at_:=513+e.lv) zO) rfl ?_
 refine WS_take 9 rfl rfl zK zK zK zK rfl rfl (qj (v:=zu (z:Int)) rfl Qa rfl (qf.own (b:=bw) zM (qiK hok2 hz))) rfl ?_
 refine WS_take 10 rfl rfl zK zK zK zK rfl rfl (qF rfl XF zd) rfl ?_
 refine WS_take 11 rfl rfl zK zK zK zK rfl rfl (qj (v:=zi (e.slot:Int)) rfl ty3 rfl (qf.own (b:=b10) zM rfl)) rfl ?_
 refine Qj 14 rfl rfl zK zK zK rfl rfl (qY rfl) rfl ?_
 refine Qj 15 rfl rfl zK zK zK rfl rfl (qF rfl Kk zd) rfl ?_
 refine WS_one 12 zH rfl zK rfl rfl ?_
 refine qy qZ ty3 (.cons rfl rfl rfl rfl rfl .nil) rfl rfl rfl rfl rfl rfl rfl (fun b100=>?_)
 refine qs ?_
 refine WS_goal ?_
 refine WS_one 13 zH rfl zK rfl rfl ?_
 refine qn (zc2 rfl rfl) Tryz.call232 rfl (qbU (l:=[(e.slot:Int)]) hz2 (show 1≤4611686018427387904 by decide) (Holds.own (b:=b100) zM)) ?_
 refine qs ?_
 refine WS_goal ?_
 refine WS_take 16 rfl rfl zK zK zK zK rfl rfl (z8 (j:=e.lv) rfl rfl qc7 Qa rfl hsp.1 (at_:=513+e.lv) zO) rfl ?_
 refine WS_last zH zK rfl rfl ?_
 refine qv (l':=(q9 now (sl.set (e.lv*64+e.slot) v') (bs.set e.lv (ZE z [(e.slot:Int)])) bm (turn+1))) rfl rfl Qa rfl rfl (b:=bw) zM (by rw [qaQ hok2,Nat.blt_eq]; omega) (qem hok2 hsp.1) zU ?_
 refine qs (WC_goal (WC_done (.nil _) zK (ze ?_)))
 refine qJ (vs:=e.v) rfl zj rfl (b:=b10) zM rfl rfl rfl ?_
 refine ql (l':=e.v) rfl rfl zj rfl rfl (b:=b6) zM (by exact Nat.le_refl 4) rfl zU ?_
 refine za 2 rfl ?_
 refine zc (H2:=(bw,.cells 406 523 (q9 now (sl.set (e.lv*64+e.slot) v') (bs.set e.lv (ZE z [(e.slot:Int)])) bm (turn+1)))::(bm,.obj (qM (Value.int .i64) (Yd l c id (.agg (e.v++[Value.int .i64 (((turn+1):Nat):Int)]).toArray)) (Kb l c id)))::((XS.set (e.lv*64+e.slot) X').flatten++H)) Tryz.results180 (.nil _) (.own rfl zj rfl zM rfl) (.tmp rfl) zH ?_
 exact ⟨v',X',z,rfl,by rw [List.length_append,List.map_append]; exact hO',hz,rfl⟩
def QQ (Q:List (Int × Int)) (k:Int):List Int:=(Q.filter (fun p=>decide (p.2=k))).map (·.1)
structure QOk (n:Nat) (Q:List (Int × Int)):Prop where
 ids:(Q.map (·.1)).Nodup
 rng:∀ p∈Q,(0≤p.1∧p.1<256)∧0≤p.2∧p.2<(n:Int)
structure Zp (rn of_:List Int) (Rs:List (Int × Int)):Prop where
 len1:rn.length=256
 len2:of_.length=32
 b1:∀ x∈rn,0≤x∧x≤32
 b2:∀ x∈of_,0≤x∧x≤256
 r1:∀ (i c:Nat),(rn[i]?=some ((c:Int)+1)↔((i:Int),(c:Int))∈Rs)
 r2:∀ (i c:Nat),(of_[c]?=some ((i:Int)+1)↔((i:Int),(c:Int))∈Rs)
 rng:∀ p∈Rs,(0≤p.1∧p.1<256)∧0≤p.2∧p.2<32
 nd:Rs.Nodup
def Ql (v:Value) (rn of_:List Int):List Value:=v::(rn.map (Value.int .i64)++of_.map (Value.int .i64))
abbrev rbP (rb:Nat):Value:=zp rb
inductive zb (pb n:Nat) (Q Rs:List (Int × Int)):qg→Prop
 | mk {v:Value} {XQ:qg} {XS:List qg} {rbs:List Nat} {rn of_:List Int} (hv:zm 281 1 v n (rbs.map rbP) XQ) (hl:XS.length=n) (hr:∀ (k:Nat) rb X,rbs[k]?=some rb→XS[k]?=some X→J9 256 rb (QQ Q (k:Int)) X) (hrun:Zp rn of_ Rs) (hq:QOk n Q):zb pb n Q Rs ((pb,.cells 294 289 (Ql v rn of_))::(XQ++XS.flatten))
theorem qcb (h:QOk n Q) (k:Int):(QQ Q k).Nodup∧(∀ x∈QQ Q k,0≤x∧x<256):=by
 have hs:List.Sublist (QQ Q k) (Q.map (·.1)):=List.filter_sublist.map _
 refine ⟨h.ids.sublist hs,fun x hx=>?_⟩
 obtain ⟨p,hp,rfl⟩:=List.mem_map.1 (hs.subset hx)
 exact (h.rng p hp).1
theorem qey (h:QOk n Q) (k:Int):(QQ Q k).length≤256:=KG (qcb h k).1 (fun x hx=>(qcb h k).2 x hx)
theorem Zp.idn (h:Zp rn of_ Rs) {p q:Int × Int} (hp:p∈Rs) (hq:q∈Rs) (e:p.1=q.1∨p.2=q.2):p=q:=by
 obtain ⟨i,a⟩:=p
 obtain ⟨j,b⟩:=q
 have h1:=h.rng _ hp
 have h2:=h.rng _ hq
 dsimp only at h1 h2 e
 obtain ⟨i,rfl⟩:∃ m:Nat,i=(m:Int):=⟨i.toNat,by omega⟩
 obtain ⟨j,rfl⟩:∃ m:Nat,j=(m:Int):=⟨j.toNat,by omega⟩
 obtain ⟨a,rfl⟩:∃ m:Nat,a=(m:Int):=⟨a.toNat,by omega⟩
 obtain ⟨b,rfl⟩:∃ m:Nat,b=(m:Int):=⟨b.toNat,by omega⟩
 rcases e with e | e
 ·have h3:=(h.r1 i a).2 hp
  rw [show i=j by omega,(h.r1 j b).2 hq] at h3
  have:=Option.some.inj h3
  rw [e,show a=b by omega]
 ·have h3:=(h.r2 i a).2 hp
  rw [show a=b by omega,(h.r2 j b).2 hq] at h3
  have:=Option.some.inj h3
  rw [e,show i=j by omega]
theorem qhI (h1:rn.length=256) (h2:of_.length=32):(Ql v rn of_).length=289:=by
 unfold Ql; simp [h1,h2]
theorem qeH (h:rn[i]?=some x):(Ql v rn of_)[1+i]?=some (zi x):=by
 unfold Ql
 rw [Nat.add_comm,List.getElem?_cons_succ,List.getElem?_append_left (by rw [List.length_map]; exact (List.getElem?_eq_some_iff.1 h).1),List.getElem?_map,h]; rfl
theorem qcg (h1:rn.length=256) (h:of_[i]?=some x):(Ql v rn of_)[257+i]?=some (zi x):=by
 unfold Ql
 rw [show 257+i=(256+i)+1 by omega,List.getElem?_cons_succ,List.getElem?_append_right (by rw [List.length_map]; omega),List.length_map,h1,Nat.add_sub_cancel_left,List.getElem?_map,h]; rfl
def quV (rbs:List Nat) (cpu:Int):Value:=if 0≤cpu then (match rbs[cpu.toNat]? with
 | some rb=>rbP rb
 | none=>.pointer none) else .pointer none
theorem qpk (h:rbs[k]?=some rb):quV rbs (k:Int)=rbP rb:=by
 unfold quV
 rw [if_pos (by omega),show ((k:Nat):Int).toNat=k by omega,h]
theorem qjo (h:cpu<0∨(rbs.length:Int)≤cpu):quV rbs cpu=.pointer none:=by
 unfold quV
 by_cases c:0≤cpu
 ·rw [if_pos c,List.getElem?_eq_none (by omega)]
 ·rw [if_neg c]
def inR (Rs:List (Int × Int)) (id:Int):Option Int:=(Rs.find? (fun p=>decide (p.1=id))).map (·.2)
def ofR (Rs:List (Int × Int)) (c:Int):Option Int:=(Rs.find? (fun p=>decide (p.2=c))).map (·.1)
def ZU (o:Option Int):Value:=match o with
 | some x=>.tuple #[.int .i64 x,.bool true]
 | none=>.tuple #[.int .i64 0,.bool false]
theorem qcs (h:Zp rn of_ Rs) {c:Int}:inR Rs id=some c↔(id,c)∈Rs:=by
 unfold inR
 constructor
 ·intro e
  obtain ⟨p,hp,rfl⟩:=Option.map_eq_some_iff.1 e
  have h1:p.1=id:=by simpa using List.find?_some hp
  rw [← h1]; exact List.mem_of_find?_eq_some hp
 ·intro hm
  cases hf:Rs.find? (fun p=>decide (p.1=id)) with
  | none=>exact absurd (List.find?_eq_none.1 hf _ hm) (by simp)
  | some p =>
   have h1:p.1=id:=by simpa using List.find?_some hf
   have h2:=h.idn (List.mem_of_find?_eq_some hf) hm (.inl h1)
   rw [h2]; rfl
theorem qck (h:Zp rn of_ Rs) {c:Int}:ofR Rs c=some id↔(id,c)∈Rs:=by
 unfold ofR
 constructor
 ·intro e
  obtain ⟨p,hp,rfl⟩:=Option.map_eq_some_iff.1 e
  have h1:p.2=c:=by simpa using List.find?_some hp
  rw [← h1]; exact List.mem_of_find?_eq_some hp
 ·intro hm
  cases hf:Rs.find? (fun p=>decide (p.2=c)) with
  | none=>exact absurd (List.find?_eq_none.1 hf _ hm) (by simp)
  | some p =>
   have h1:p.2=c:=by simpa using List.find?_some hf
   have h2:=h.idn (List.mem_of_find?_eq_some hf) hm (.inr h1)
   rw [h2]; rfl
theorem qjn (hm:(pb,.cells 294 289 (Ql (.slice ad n cap) rn of_))∈H) (hrow:Holds w0 H ad (rbs.map rbP)) (hl:rbs.length=n) (hn:n≤64) (hc:cpu<0∨(n:Int)≤cpu) :qB Tryz.prog w0 H 182 [zp pb,zi cpu] (quV rbs cpu):=by
 refine qc Tryz.func182 rfl Tryz.ntmps182 rfl rfl (za 6 rfl ?_)
 refine W_x (qr rfl rfl Zf) (fun _ h=>by cases h) rfl ?_
 refine qD rfl rfl ?_
 apply YR
 iterate 4 exact rfl
 case h1 =>
  intro hg2
  refine za 4 rfl ?_
  exact Q3 rfl zR
 refine qD rfl rfl ?_
 apply YR
 iterate 4 exact rfl
 case h1 =>
  intro hg6
  refine za 9 rfl ?_
  refine qe (v:=.slice ad n cap) rfl Xc rfl (qf.own (b:=pb) hm rfl) rfl ?_
  refine QD rfl rfl (zZ rfl Xc rfl rfl (za 2 rfl ?_))
  exact Q3 rfl zR
 refine qs ?_
 refine KP rfl (by simp; omega) ?_
 refine za 3 rfl ?_
 refine qd (H2:=H) Tryz.results182 rfl (.nil _) zH ?_
 exact ⟨(qjo zO).symm,rfl⟩
theorem qca (hm:(pb,.cells 294 289 (Ql (.slice ad n cap) rn of_))∈H) (hrow:Holds w0 H ad (rbs.map rbP)) (hl:rbs.length=n) (hn:n≤64) (hk:rbs[k]?=some rb) :qB Tryz.prog w0 H 182 [zp pb,zi (k:Int)] (rbP rb):=by
 have hkl:=(List.getElem?_eq_some_iff.1 hk).1
 obtain ⟨q0,p0,rfl,hc⟩:=hrow.at (i:=k) (v:=rbP rb) (by rw [List.getElem?_map,hk]; rfl)
 refine qc Tryz.func182 rfl Tryz.ntmps182 rfl rfl (za 6 rfl ?_)
 refine W_x (qr rfl rfl Zf) (fun _ h=>by cases h) rfl ?_
 refine qD rfl rfl ?_
 apply YR
 iterate 4 exact rfl
 case h1 =>
  intro hg2
  refine za 4 rfl ?_
  exact Q3 rfl zR
 refine qD rfl rfl ?_
 apply YR
 iterate 4 exact rfl
 case h1 =>
  intro hg6
  refine za 9 rfl ?_
  refine qe (v:=.slice (some ⟨q0,p0,none⟩) n cap) rfl Xc rfl (qf.own (b:=pb) hm rfl) rfl ?_
  refine QD rfl rfl (zZ rfl Xc rfl rfl (za 2 rfl ?_))
  exact Q3 rfl zR
 refine qs ?_
 refine QA rfl (by simp; omega) ?_
 refine za 5 rfl ?_
 refine qe (v:=.slice (some ⟨q0,p0,none⟩) n cap) rfl Xc rfl (qf.own (b:=pb) hm rfl) rfl ?_
 refine qD rfl rfl ?_
 refine qS (j:=k) rfl rfl Xc Yz (by first | rfl | omega) (by first | decide | omega | simp) rfl rfl ?_
 refine qe (v:=rbP rb) rfl Yz rfl (by rw [Nat.mul_one]; exact hc) rfl ?_
 refine za 2 rfl ?_
 refine qd (H2:=H) Tryz.results182 rfl (.nil _) zH ?_
 exact ⟨rfl,rfl⟩
theorem qm8 (hm:(pb,.cells 294 289 (Ql (.slice ad n cap) rn of_))∈H) (hrow:Holds w0 H ad (rbs.map rbP)) (hl:rbs.length=n) (hn:n≤64) :qB Tryz.prog w0 H 182 [zp pb,zi cpu] (quV rbs cpu):=by
 by_cases h:cpu<0∨(n:Int)≤cpu
 ·exact qjn hm hrow hl hn h
 ·obtain ⟨k,rfl⟩:∃ k:Nat,cpu=(k:Int):=⟨cpu.toNat,by omega⟩
  obtain ⟨rb,hk⟩:∃ rb,rbs[k]?=some rb:=⟨_,List.getElem?_eq_getElem zO⟩
  rw [qpk hk]
  exact qca hm hrow hl hn hk
theorem KY:Qx Tryz.prog (fun _=>True) 183 [zi id] (.bool (decide (0≤id) && decide (id<256))):=by
 intro w0 H hT
 refine qc Tryz.func183 rfl Tryz.ntmps183 rfl rfl (za 7 rfl ?_)
 apply qdx
 iterate 4 exact rfl
 case h1 =>
  intro hg2
  refine za 4 rfl ?_
  exact Q3 rfl zR
 refine za 2 rfl ?_
 refine qd (H2:=H) Tryz.results183 rfl (.nil _) zH ?_
 exact ⟨rfl,rfl⟩
theorem qjU (h:Zp rn of_ Rs) (hi:¬ (0≤id∧id<256)):inR Rs id=none:=by
 cases e:inR Rs id with
 | none=>rfl
 | some c=>exact absurd (h.rng _ ((qcs h).1 e)).1 hi
theorem qeJ (h:Zp rn of_ Rs) {c:Int} (hi:¬ (0≤c∧c<32)):ofR Rs c=none:=by
 cases e:ofR Rs c with
 | none=>rfl
 | some i=>exact absurd (h.rng _ ((qck h).1 e)).2 hi
theorem qjV (h:Zp rn of_ Rs) (hx:rn[i]?=some x):inR Rs (i:Int)=if x=0 then none else some (x-1):=by
 have hb:=h.b1 x (List.mem_of_getElem? hx)
 by_cases c:x=0
 ·rw [if_pos c]
  cases e:inR Rs (i:Int) with
  | none=>rfl
  | some k =>
   have h1:=(qcs h).1 e
   have h2:=h.rng _ h1
   obtain ⟨k,rfl⟩:∃ m:Nat,k=(m:Int):=⟨k.toNat,by have:=h2.2.1; dsimp only at this; omega⟩
   have h3:=(h.r1 i k).2 h1
   rw [hx] at h3
   have:=Option.some.inj h3
   omega
 ·rw [if_neg c,qcs h]
  obtain ⟨k,hk⟩:∃ m:Nat,x-1=(m:Int):=⟨(x-1).toNat,by omega⟩
  rw [hk]
  exact (h.r1 i k).1 (by rw [hx]; congr 1; omega)
theorem qfS (h:Zp rn of_ Rs) (hx:of_[i]?=some x):ofR Rs (i:Int)=if x=0 then none else some (x-1):=by
 have hb:=h.b2 x (List.mem_of_getElem? hx)
 by_cases c:x=0
 ·rw [if_pos c]
  cases e:ofR Rs (i:Int) with
  | none=>rfl
  | some k =>
   have h1:=(qck h).1 e
   have h2:=h.rng _ h1
   obtain ⟨k,rfl⟩:∃ m:Nat,k=(m:Int):=⟨k.toNat,by have:=h2.1.1; dsimp only at this; omega⟩
   have h3:=(h.r2 k i).2 h1
   rw [hx] at h3
   have:=Option.some.inj h3
   omega
 ·rw [if_neg c,qck h]
  obtain ⟨k,hk⟩:∃ m:Nat,x-1=(m:Int):=⟨(x-1).toNat,by omega⟩
  rw [hk]
  exact (h.r2 k i).1 (by rw [hx]; congr 1; omega)
theorem qoo (hm:(pb,.cells 294 289 (Ql v rn of_))∈H) (hR:Zp rn of_ Rs) (hi:¬ (0≤id∧id<256)) :qB Tryz.prog w0 H 252 [zp pb,zi id] (ZU (inR Rs id)):=by
 refine qc Tryz.func252 rfl Tryz.ntmps252 rfl rfl (za 7 rfl ?_)
 refine W_x (qr rfl rfl Zf) (fun _ h=>by cases h) rfl ?_
 refine za 4 rfl ?_
 refine qT (zc1 rfl) Tryz.call183 rfl (T:=fun _=>True) trivial (KY (id:=id)) ?_
 rw [show (decide (0≤id) && decide (id<256))=false by simp; omega]
 refine za 18 rfl ?_
 refine qL (H2:=H) Tryz.results252 rfl rfl (.nil _) zH ?_
 rw [qjU hR hi]
 exact ⟨rfl,rfl⟩
theorem qop (hm:(pb,.cells 294 289 (Ql v rn of_))∈H) (hR:Zp rn of_ Rs) (hi:i<256) :qB Tryz.prog w0 H 252 [zp pb,zi (i:Int)] (ZU (inR Rs (i:Int))):=by
 obtain ⟨x,hx⟩:∃ x,rn[i]?=some x:=⟨_,List.getElem?_eq_getElem (by rw [hR.len1]; exact hi)⟩
 have hb:=hR.b1 x (List.mem_of_getElem? hx)
 refine qc Tryz.func252 rfl Tryz.ntmps252 rfl rfl (za 7 rfl ?_)
 refine W_x (qr rfl rfl Zf) (fun _ h=>by cases h) rfl ?_
 refine za 4 rfl ?_
 refine qT (zc1 rfl) Tryz.call183 rfl (T:=fun _=>True) trivial (KY (id:=(i:Int))) ?_
 rw [show (decide (0≤(i:Int)) && decide ((i:Int)<256))=true by simp; omega]
 refine za 13 rfl ?_
 refine Qe (j:=i) rfl rfl qiQ ty3 (by first | rfl | omega) (by first | decide | omega | simp) rfl rfl ?_
 refine QD rfl rfl ?_
 refine qe (v:=zi x) rfl ty3 rfl (qf.own (b:=pb) hm (by simpa using qeH hx)) rfl ?_
 refine za 4 rfl ?_
 refine qm (p:=x=0) rfl (by simp) (fun q0=>?_) (fun q0=>?_)
 ·skip
  refine za 4 rfl ?_
  refine qL (H2:=H) Tryz.results252 rfl rfl (.nil _) zH ?_
  rw [qjV hR hx,if_pos q0]
  exact ⟨rfl,rfl⟩
 ·skip
  refine za 6 rfl ?_
  refine Qe (j:=i) rfl rfl qiQ ty3 (by first | rfl | omega) (by first | decide | omega | simp) rfl rfl ?_
  refine qe (v:=zi x) rfl ty3 rfl (qf.own (b:=pb) hm (by simpa using qeH hx)) rfl ?_
  refine qE rfl rfl (Zw (m:=x-1) (by rw [zg (by omega)])) rfl ?_
  refine za 3 rfl ?_
  refine qL (H2:=H) Tryz.results252 rfl rfl (.nil _) zH ?_
  rw [qjV hR hx,if_neg q0]
  exact ⟨rfl,rfl⟩
theorem Runs_q (hm:(pb,.cells 294 289 (Ql v rn of_))∈H) (hR:Zp rn of_ Rs) :qB Tryz.prog w0 H 252 [zp pb,zi id] (ZU (inR Rs id)):=by
 by_cases h:0≤id∧id<256
 ·obtain ⟨i,rfl⟩:∃ k:Nat,id=(k:Int):=⟨id.toNat,by omega⟩
  exact qop hm hR zO
 ·exact qoo hm hR h
theorem Of_lo (hm:(pb,.cells 294 289 (Ql v rn of_))∈H) (hR:Zp rn of_ Rs) {c:Int} (hi:c<0) :qB Tryz.prog w0 H 103 [zp pb,zi c] (ZU (ofR Rs c)):=by
 refine qc Tryz.func103 rfl Tryz.ntmps103 rfl rfl (za 7 rfl ?_)
 refine W_x (qr rfl rfl Zf) (fun _ h=>by cases h) rfl ?_
 refine za 5 rfl ?_
 first | rw [decide_eq_true (by omega)] | rw [decide_eq_false (by omega)]
 refine za 20 rfl ?_
 refine qL (H2:=H) Tryz.results103 rfl rfl (.nil _) zH ?_
 rw [qeJ hR (by omega)]
 exact ⟨rfl,rfl⟩
theorem Of_hi (hm:(pb,.cells 294 289 (Ql v rn of_))∈H) (hR:Zp rn of_ Rs) {c:Int} (hi:32≤c) :qB Tryz.prog w0 H 103 [zp pb,zi c] (ZU (ofR Rs c)):=by
 refine qc Tryz.func103 rfl Tryz.ntmps103 rfl rfl (za 7 rfl ?_)
 refine W_x (qr rfl rfl Zf) (fun _ h=>by cases h) rfl ?_
 refine za 5 rfl ?_
 first | rw [decide_eq_true (by omega)] | rw [decide_eq_false (by omega)]
 refine za 6 rfl ?_
 first | rw [decide_eq_true (by omega)] | rw [decide_eq_false (by omega)]
 refine za 16 rfl ?_
 refine qL (H2:=H) Tryz.results103 rfl rfl (.nil _) zH ?_
 rw [qeJ hR (by omega)]
 exact ⟨rfl,rfl⟩
theorem Of_in (hm:(pb,.cells 294 289 (Ql v rn of_))∈H) (hR:Zp rn of_ Rs) (hi:i<32) :qB Tryz.prog w0 H 103 [zp pb,zi (i:Int)] (ZU (ofR Rs (i:Int))):=by
 obtain ⟨x,hx⟩:∃ x,of_[i]?=some x:=⟨_,List.getElem?_eq_getElem (by rw [hR.len2]; exact hi)⟩
 have hb:=hR.b2 x (List.mem_of_getElem? hx)
 refine qc Tryz.func103 rfl Tryz.ntmps103 rfl rfl (za 7 rfl ?_)
 refine W_x (qr rfl rfl Zf) (fun _ h=>by cases h) rfl ?_
 refine za 5 rfl ?_
 first | rw [decide_eq_true (by omega)] | rw [decide_eq_false (by omega)]
 refine za 6 rfl ?_
 first | rw [decide_eq_true (by omega)] | rw [decide_eq_false (by omega)]
 refine za 11 rfl ?_
 refine Qe (j:=i) rfl rfl qfu ty3 (by first | rfl | omega) (by first | decide | omega | simp) rfl rfl ?_
 refine QD rfl rfl ?_
 refine qe (v:=zi x) rfl ty3 rfl (qf.own (b:=pb) hm (by simpa using qcg hR.len1 hx)) rfl ?_
 refine za 4 rfl ?_
 refine qm (p:=x=0) rfl (by simp) (fun q0=>?_) (fun q0=>?_)
 ·skip
  refine za 4 rfl ?_
  refine qL (H2:=H) Tryz.results103 rfl rfl (.nil _) zH ?_
  rw [qfS hR hx,if_pos q0]
  exact ⟨rfl,rfl⟩
 ·skip
  refine za 6 rfl ?_
  refine Qe (j:=i) rfl rfl qfu ty3 (by first | rfl | omega) (by first | decide | omega | simp) rfl rfl ?_
  refine qe (v:=zi x) rfl ty3 rfl (qf.own (b:=pb) hm (by simpa using qcg hR.len1 hx)) rfl ?_
  refine qE rfl rfl (Zw (m:=x-1) (by rw [zg (by omega)])) rfl ?_
  refine za 3 rfl ?_
  refine qL (H2:=H) Tryz.results103 rfl rfl (.nil _) zH ?_
  rw [qfS hR hx,if_neg q0]
  exact ⟨rfl,rfl⟩
theorem Of_q (hm:(pb,.cells 294 289 (Ql v rn of_))∈H) (hR:Zp rn of_ Rs) {c:Int}:qB Tryz.prog w0 H 103 [zp pb,zi c] (ZU (ofR Rs c)):=by
 by_cases h:c<0
 ·exact Of_lo hm hR h
 ·by_cases h2:32≤c
  ·exact Of_hi hm hR h2
  ·obtain ⟨i,rfl⟩:∃ k:Nat,c=(k:Int):=⟨c.toNat,by omega⟩
   exact Of_in hm hR zO
theorem zb.ok (h:zb pb n Q Rs HB):QOk n Q:=by cases h; assumption
theorem zb.at (h:zb pb n Q Rs HB) (hn:n≤64) (hk:k<n):∃ rb X HR,J9 256 rb (QQ Q (k:Int)) X∧(∀ {w0:World} {H:qg},(∀ p∈HB,p∈H)→qB Tryz.prog w0 H 182 [zp pb,zi (k:Int)] (rbP rb)) ∧
  (∀ H,qC (HB++H) (X++(HR++H)))∧(∀ H,qC (X++(HR++H)) (HB++H)) ∧
  (∀ (Q':List (Int × Int)) X',J9 256 rb (QQ Q' (k:Int)) X'→(∀ j:Nat,j≠k→QQ Q' (j:Int)=QQ Q (j:Int))→QOk n Q'→∃ HB',zb pb n Q' Rs HB'∧∀ H,qC (X'++(HR++H)) (HB'++H)):=by
 cases h with
 | @mk v XQ XS rbs rn of_ hv hl hr hrun hq =>
  have hvl:=hv.length
  rw [List.length_map,Nat.mul_one] at hvl
  obtain ⟨rb,hrb⟩:∃ rb,rbs[k]?=some rb:=⟨_,List.getElem?_eq_getElem zO⟩
  obtain ⟨X,hX⟩:∃ X,XS[k]?=some X:=⟨_,List.getElem?_eq_getElem zO⟩
  have hp:∀ H,(((pb,.cells 294 289 (Ql v rn of_))::(XQ++XS.flatten))++H).Perm (X++(((pb,.cells 294 289 (Ql v rn of_))::(XQ++(XS.set k []).flatten))++H)):=fun H=>by
   have h1:=((flat_take hX).append_left ((pb,.cells 294 289 (Ql v rn of_))::XQ)).append_right H
   refine List.Perm.trans (List.Perm.of_eq ?_) (h1.trans ?_)
   ·simp only [List.cons_append,List.append_assoc]
   ·have e:((pb,.cells 294 289 (Ql v rn of_))::XQ++(X++(XS.set k []).flatten))++H=((pb,.cells 294 289 (Ql v rn of_))::XQ)++(X++((XS.set k []).flatten++H)):=by simp only [List.cons_append,List.append_assoc]
    rw [e]
    refine (List.perm_append_comm_assoc _ _ _).trans (List.Perm.of_eq ?_)
    simp only [List.cons_append,List.append_assoc]
  refine ⟨rb,X,(pb,.cells 294 289 (Ql v rn of_))::(XQ++(XS.set k []).flatten),hr k rb X hrb hX,fun {w0 H} hm=>?_,fun H=>qC.of_perm (hp H),fun H=>qC.of_perm (hp H).symm,fun Q' X' hR' hj hq'=>?_⟩
  ·obtain ⟨ad,cap,rfl,_,_,hrow⟩:=Holds.of_own (w0:=w0) (H:=H) hv (fun p hp=>hm p (List.mem_cons_of_mem _ (List.mem_append_left _ hp)))
   exact qca (n:=n) (hm _ List.mem_cons_self) hrow zO hn hrb
  ·refine ⟨(pb,.cells 294 289 (Ql v rn of_))::(XQ++(XS.set k X').flatten),.mk hv (by rw [List.length_set,hl]) (fun j rb2 Y h1 h2=>?_) hrun hq',fun H=>?_⟩
   ·by_cases c:k=j
    ·subst c
     rw [List.getElem?_set_self (by omega)] at h2
     obtain rfl:=Option.some.inj h2
     obtain rfl:=Option.some.inj (h1.symm.trans hrb)
     exact hR'
    ·rw [List.getElem?_set_ne c] at h2
     rw [hj j (fun e=>c e.symm)]
     exact hr j rb2 Y h1 h2
   ·have h1:=((qcC (B:=X') (XS:=XS) (k:=k) zO).append_left ((pb,.cells 294 289 (Ql v rn of_))::XQ)).append_right H
    refine qC.of_perm (List.Perm.trans ?_ (h1.trans (List.Perm.of_eq ?_)))
    ·have e:((pb,.cells 294 289 (Ql v rn of_))::XQ++(X'++(XS.set k []).flatten))++H=((pb,.cells 294 289 (Ql v rn of_))::XQ)++(X'++((XS.set k []).flatten++H)):=by simp only [List.cons_append,List.append_assoc]
     rw [e]
     refine List.Perm.trans (List.Perm.of_eq ?_) (List.perm_append_comm_assoc _ _ _).symm.symm
     simp only [List.cons_append,List.append_assoc]
    ·simp only [List.cons_append,List.append_assoc]
theorem zb.noq (h:zb pb n Q Rs HB) (hn:n≤64) (hc:cpu<0∨(n:Int)≤cpu) (hm:∀ p∈HB,p∈H):qB Tryz.prog w0 H 182 [zp pb,zi cpu] (.pointer none):=by
 cases h with
 | @mk v XQ XS rbs rn of_ hv hl hr hrun hq =>
  have hvl:=hv.length
  rw [List.length_map,Nat.mul_one] at hvl
  obtain ⟨ad,cap,rfl,_,_,hrow⟩:=Holds.of_own (w0:=w0) (H:=H) hv (fun p hp=>hm p (List.mem_cons_of_mem _ (List.mem_append_left _ hp)))
  rw [← qjo (rbs:=rbs) (cpu:=cpu) (by omega)]
  exact qm8 (n:=n) (hm _ List.mem_cons_self) hrow zO hn
theorem zb.runs (h:zb pb n Q Rs HB):∃ v XX rn of_,HB=(pb,.cells 294 289 (Ql v rn of_))::XX∧Zp rn of_ Rs∧∀ rn' of' Rs',Zp rn' of' Rs'→zb pb n Q Rs' ((pb,.cells 294 289 (Ql v rn' of'))::XX):=by
 cases h with
 | @mk v XQ XS rbs rn of_ hv hl hr hrun hq=>exact ⟨v,_,rn,of_,rfl,hrun,fun rn' of' Rs' h=>.mk hv hl hr h hq⟩
theorem zb.Runs_q (h:zb pb n Q Rs HB) (hm:∀ p∈HB,p∈H) :qB Tryz.prog w0 H 252 [zp pb,zi id] (ZU (inR Rs id)):=by
 obtain ⟨v,XX,rn,of_,rfl,hR,_⟩:=h.runs
 exact Go.Proofs.YtincjohoncljoaaGreatDoor.Runs_q (hm _ List.mem_cons_self) hR
theorem zb.Of_q (h:zb pb n Q Rs HB) (hm:∀ p∈HB,p∈H) {c:Int}:qB Tryz.prog w0 H 103 [zp pb,zi c] (ZU (ofR Rs c)):=by
 obtain ⟨v,XX,rn,of_,rfl,hR,_⟩:=h.runs
 exact Go.Proofs.YtincjohoncljoaaGreatDoor.Of_q (hm _ List.mem_cons_self) hR
theorem qpp:qh Tryz.prog w0 272 #[zp pb,zi cpu] (H) (fun v H'=>∃ b2 b3,v=.func (.func 365) #[] #[zp b2,zp b3]∧H'=(b3,.cells 3 1 [zi cpu])::(b2,.cells 166 1 [zp pb])::H):=by
 refine qc (l:=[zp pb,zi cpu]) Tryz.func272 rfl Tryz.ntmps272 rfl rfl ?_
 refine ze ?_
 refine qK (l:=[zp pb]) rfl rfl rfl (fun b2=>?_)
 refine qK (l:=[zi cpu]) rfl rfl rfl (fun b3=>?_)
 refine za 3 rfl (qI .nil (.cons rfl (.cons rfl .nil)) rfl (za 2 rfl (qd Tryz.results272 rfl (.nil _) (.refl _) ?_)))
 exact ⟨b2,b3,rfl,rfl⟩
theorem qhJ {lp b2 b3:Nat} (hP:zb pb n Q Rs HB) (hn:n≤64) (hk:k<n) (J:Nat→qg→Prop) (S:qg→Prop)
  (hround:∀ i x Hi XB,(QQ Q (k:Int))[i]?=some x→J i Hi→ZD Tryz.prog w0 lp #[zi (i:Int),zi x] (XB++((b2,.cells 166 1 [zp pb])::(b3,.cells 3 1 [zi (k:Int)])::(HB++Hi))) (fun v H'=>∃ Hi',qC H' (XB++((b2,.cells 166 1 [zp pb])::(b3,.cells 3 1 [zi (k:Int)])::(HB++Hi')))∧((v=.bool true∧J (i+1) Hi')∨(v=.bool false∧S Hi')))) (hJ:J 0 H) :
  qh Tryz.prog w0 365 #[.func (.yield lp) #[] #[],zp b2,zp b3] ((b2,.cells 166 1 [zp pb])::(b3,.cells 3 1 [zi (k:Int)])::(HB++H)) (fun _ H'=>∃ Hi',qC H' ((b2,.cells 166 1 [zp pb])::(b3,.cells 3 1 [zi (k:Int)])::(HB++Hi'))∧(J (QQ Q (k:Int)).length Hi'∨S Hi')):=by
 have hql:=qey hP.ok (k:Int)
 obtain ⟨rb,X,HR,hR,hqu,ho1,ho2,hup⟩:=hP.at hn hk
 refine qc (l:=[.func (.yield lp) #[] #[],zp b2,zp b3]) Tryz.func365 rfl Tryz.ntmps365 rfl rfl ?_
 refine ze ?_
 refine qe (v:=zp pb) rfl Zf rfl (qf.own (b:=b2) zM rfl) rfl ?_
 refine qe (v:=zi (k:Int)) rfl ty3 rfl (qf.own (b:=b3) zM rfl) rfl ?_
 refine qn (zc2 rfl rfl) Tryz.call182 rfl (hqu (fun p hp=>List.mem_cons_of_mem _ (List.mem_cons_of_mem _ (List.mem_append_left _ hp)))) ?_
 refine qO (H':=X++((b2,.cells 166 1 [zp pb])::(b3,.cells 3 1 [zi (k:Int)])::(HR++H))) ((show qC _ ((b2,.cells 166 1 [zp pb])::(b3,.cells 3 1 [zi (k:Int)])::(X++(HR++H))) from .cons (.here _) (.cons (.here _) (ho1 H))).trans zH) ?_
 refine qk (zc1 rfl) Tryz.call366 rfl (qm6 hR) ?_
 rintro v H' ⟨XB,hXB,rfl⟩
 obtain ⟨ad,cap,rfl,hlc,hcm,hrow⟩:=Holds.of_own (w0:=w0) (H:=XB++[]) hXB (fun p hp=>List.mem_append_left _ hp)
 refine qO (H':=XB++((b2,.cells 166 1 [zp pb])::(b3,.cells 3 1 [zi (k:Int)])::(HB++H))) ((show qC _ (XB++((b2,.cells 166 1 [zp pb])::(b3,.cells 3 1 [zi (k:Int)])::(X++(HR++H)))) from zH).trans (.app (.here _) (.cons (.here _) (.cons (.here _) (ho2 H))))) ?_
 refine zZ rfl qZ rfl rfl (za 3 rfl ?_)
 refine qU (X:=(Nat × qg)) [(0,_),(9,_),(10,_)] (fun (x:(Nat × qg))=>[(11,zi (x.1:Int))]) (fun _=>_) (fun (x:(Nat × qg))=>XB++((b2,.cells 166 1 [zp pb])::(b3,.cells 3 1 [zi (k:Int)])::(HB++x.2))) (fun (x:(Nat × qg))=>x.1≤(QQ Q (k:Int)).length∧J x.1 x.2) (fun (x:(Nat × qg))=>(QQ Q (k:Int)).length-x.1) (0,H) ⟨Nat.zero_le _,hJ⟩ (qa rfl (qa rfl (qa rfl (qi _)))) (qa rfl (qi _)) rfl (.refl _) ?_
 rintro ⟨i,Hi⟩ ⟨hi,hJi⟩
 dsimp only at hi hJi ⊢
 simp only [List.cons_append,List.nil_append]
 refine za 4 rfl ?_
 refine qm (p:=(i:Int)<((QQ Q (k:Int)).length:Int)) rfl (by simp) (fun q0=>?_) (fun q0=>?_)
 ·skip
  refine za 5 rfl ?_
  obtain ⟨x,hx⟩:∃ x,(QQ Q (k:Int))[i]?=some x:=⟨_,List.getElem?_eq_getElem zO⟩
  obtain ⟨q0,p0,rfl,hcx⟩:=hrow.at (i:=i) (v:=.int .i64 x) (by rw [List.getElem?_map,hx]; rfl)
  refine qS (j:=i) rfl rfl qZ ty3 rfl zO rfl rfl ?_
  refine qe (v:=zi x) rfl ty3 rfl (by rw [Nat.mul_one]; exact hcx.up (qC.app (.here _) (.nil _))) rfl ?_
  refine za 7 rfl (JT rfl (.cons rfl (.cons rfl .nil)) rfl ((hround i x Hi XB hx hJi).hsub zH) ?_)
  rintro v H' ⟨Hi',hsub,⟨rfl,hJ'⟩ | ⟨rfl,hS'⟩⟩
  ·skip
   refine qO hsub ?_
   refine za 6 rfl ?_
   refine qE rfl rfl (qQ (m:=((i+1:Nat):Int)) (by rw [zg (by omega)]; omega)) rfl ?_
   refine za 2 rfl ?_
   refine qP (i+1,Hi') ⟨by show i+1≤_; omega,hJ'⟩ (by show (QQ Q (k:Int)).length-(i+1)<(QQ Q (k:Int)).length-i; omega) (qa rfl (qa rfl (qa rfl (qa rfl (qi _))))) rfl (.refl _)
  ·skip
   refine qO hsub ?_
   refine za 3 rfl (Yv Tryz.results365 (.nil _) (.refl _) ?_)
   exact ⟨Hi',.dropS (.refl _),.inr hS'⟩
 ·skip
  refine Yg rfl (Zn Tryz.results365 (.nil _) (.refl _) ?_)
  obtain rfl:i=(QQ Q (k:Int)).length:=by omega
  exact ⟨Hi,.dropS (.refl _),.inl hJi⟩
abbrev dB (D:Nat):Nat × Blk:=(D,.obj (.deferred (some [])))
theorem XA {H:qg}:∀ (Ds:List Nat),Y4 (Ds.map Go.Sl.mark) (Ds.map dB++H) H
 | []=>.nil _
 | D::Ds=>.cons (.here _) (XA Ds)
theorem zb.slice (h:zb pb n Q Rs HB):∃ ad cap rn of_,(pb,.cells 294 289 (Ql (.slice ad n cap) rn of_))∈HB:=by
 cases h with
 | @mk v XQ XS rbs rn of_ hv hl hr hrun hq =>
  obtain ⟨ad,cap,rfl,_,_⟩:=hv.shape
  exact ⟨ad,cap,rn,of_,List.mem_cons_self⟩
def qgn (n:Nat) (Q:List (Int × Int)) (id:Int) (v:Value):Prop:=(v=.tuple #[zi 0,zi 0,.bool false]∧∀ k:Nat,k<n→id ∉ QQ Q (k:Int))∨∃ k i:Nat,v=.tuple #[zi (k:Int),zi (i:Int),.bool true]∧k<n∧(QQ Q (k:Int))[i]?=some id
theorem qao {k:Int}:id∈QQ Q k↔(id,k)∈Q:=by
 unfold QQ
 rw [List.mem_map]
 constructor
 ·rintro ⟨p,hp,rfl⟩
  obtain ⟨h1,h2⟩:=List.mem_filter.1 hp
  rw [← of_decide_eq_true h2]; exact h1
 ·exact fun h=>⟨_,List.mem_filter.2 ⟨h,decide_eq_true rfl⟩,rfl⟩
def whQ (Q:List (Int × Int)) (id:Int):Option Int:=(Q.find? (fun p=>decide (p.1=id))).map (·.2)
theorem Xb (h:QOk n Q) {k:Int}:whQ Q id=some k↔(id,k)∈Q:=by
 unfold whQ
 constructor
 ·intro e
  obtain ⟨p,hp,rfl⟩:=Option.map_eq_some_iff.1 e
  have h1:p.1=id:=by simpa using List.find?_some hp
  rw [← h1]; exact List.mem_of_find?_eq_some hp
 ·intro hm
  cases hf:Q.find? (fun p=>decide (p.1=id)) with
  | none=>exact absurd (List.find?_eq_none.1 hf _ hm) (by simp)
  | some p =>
   have h1:p.1=id:=by simpa using List.find?_some hf
   have h2:p=(id,k):=by
    obtain ⟨i,hi,ei⟩:=List.getElem_of_mem (List.mem_of_find?_eq_some hf)
    obtain ⟨j,hj,ej⟩:=List.getElem_of_mem hm
    have e:i=j:=(List.getElem_inj (xs:=Q.map (·.1)) (h₀:=by simpa using hi) (h₁:=by simpa using hj) h.ids).1 (by simp only [List.getElem_map]; rw [ei,ej]; exact h1)
    subst e
    rw [← ei,ej]
   rw [h2]; rfl
theorem qgn.wh (h:qgn n Q id v) (hq:QOk n Q):(v=.tuple #[zi 0,zi 0,.bool false]∧whQ Q id=none)∨∃ k i:Nat,v=.tuple #[zi (k:Int),zi (i:Int),.bool true]∧k<n∧(QQ Q (k:Int))[i]?=some id∧whQ Q id=some (k:Int):=by
 rcases h with ⟨h,hno⟩ | ⟨k,i,h,hk,hi⟩
 ·refine .inl ⟨h,?_⟩
  cases e:whQ Q id with
  | none=>rfl
  | some c =>
   have h1:=(Xb hq).1 e
   have h2:=(hq.rng _ h1).2
   dsimp only at h2
   obtain ⟨c,rfl⟩:∃ m:Nat,c=(m:Int):=⟨c.toNat,by omega⟩
   exact absurd (qao.2 h1) (hno c zO)
 ·exact .inr ⟨k,i,h,hk,hi,(Xb hq).2 (qao.1 (List.mem_of_getElem? hi))⟩
theorem qmS {Q:List Int} (h:∀ (j:Nat) y,j<i→Q[j]?=some y→y≠id) (hx:Q[i]?=some x) (hn:x≠id):∀ (j:Nat) y,j<i+1→Q[j]?=some y→y≠id:=fun j y hj hy=>by
 by_cases e:j=i
 ·subst e
  obtain rfl:=Option.some.inj (hy.symm.trans hx)
  exact hn
 ·exact h j y zO hy
theorem whc_q (hb:(bi,.cells 3 1 [zi id])∈H) :qB Tryz.prog w0 H 190 [zi x,zp bi] (.bool (decide (x=id))):=by
 refine qc Tryz.func190 rfl Tryz.ntmps190 rfl rfl (za 5 rfl ?_)
 refine qe (v:=zi id) rfl ty3 rfl (qf.own hb rfl) rfl ?_
 refine za 3 rfl ?_
 refine qd (H2:=H) Tryz.results190 rfl (.nil _) zH ?_
 exact ⟨rfl,rfl⟩
theorem dec_q (hb:(bi,.cells 3 1 [zi id])∈H) :qB Tryz.prog w0 H 265 [zi x,zp bi] (.bool (decide (x=id))):=by
 refine qc Tryz.func265 rfl Tryz.ntmps265 rfl rfl (za 5 rfl ?_)
 refine qe (v:=zi id) rfl ty3 rfl (qf.own hb rfl) rfl ?_
 refine za 3 rfl ?_
 refine qd (H2:=H) Tryz.results265 rfl (.nil _) zH ?_
 exact ⟨rfl,rfl⟩
theorem qlp {fi:Nat} (hP:zb pb n Q Rs HB) (hn:n≤64) (hbi:(bi,.cells 3 1 [zi id])∈H) (hfi:∀ (args:Array Value) (w:World),(callFunc fi args).run Tryz.prog w=.ok (.enter fi args) w) (hcl:∀ (x:Int) (H:qg),(bi,.cells 3 1 [zi id])∈H→qB Tryz.prog w0 H fi [zi x,zp bi] (.bool (decide (x=id)))) :qh Tryz.prog w0 189 #[zp pb,.func (.func fi) #[] #[zp bi]] (HB++H) (fun v H'=>qgn n Q id v∧H'=HB++H):=by
 obtain ⟨ad,cap,rn,of_,hpe⟩:=hP.slice
 refine qc (l:=[zp pb,.func (.func fi) #[] #[zp bi]]) Tryz.func189 rfl Tryz.ntmps189 rfl rfl ?_
 refine ze ?_
 refine qK (l:=[.func (.func fi) #[] #[zp bi]]) rfl rfl rfl (fun b3=>?_)
 refine qp (l:=[zi 0]) ty3 rfl rfl (fun b4=>?_)
 refine qp (l:=[zi 0]) ty3 rfl rfl (fun b5=>?_)
 refine qp (l:=[.bool false]) ty4 rfl rfl (fun b6=>?_)
 refine za 4 rfl ?_
 refine W_x (qr rfl rfl Zf) (fun _ h=>by cases h) rfl ?_
 refine za 8 rfl ?_
 refine qe (v:=.slice ad n cap) rfl Xc rfl (qf.own (b:=pb) (by repeat (first | exact List.mem_append_left _ hpe | exact List.mem_cons_self | apply List.mem_cons_of_mem | apply List.mem_append_right)) rfl) rfl ?_
 refine zZ rfl Xc rfl rfl (za 3 rfl ?_)
 refine qU (X:=(Nat × List Nat)) [(0,_),(3,_),(4,_),(5,_),(6,_),(16,_)] (fun (x:(Nat × List Nat))=>[(17,zi (x.1:Int))]) (fun (x:(Nat × List Nat))=>x.2.map Go.Sl.mark) (fun (x:(Nat × List Nat))=>HB++(x.2.map dB++((b6,.cells 4 1 [.bool false])::(b5,.cells 3 1 [zi 0])::(b4,.cells 3 1 [zi 0])::(b3,.cells 172 1 [.func (.func fi) #[] #[zp bi]])::H))) (fun (x:(Nat × List Nat))=>x.1≤n∧∀ j:Nat,j<x.1→id ∉ QQ Q (j:Int)) (fun (x:(Nat × List Nat))=>n-x.1) (0,[]) ⟨Nat.zero_le _,fun j hj=>absurd hj (Nat.not_lt_zero _)⟩ (qa rfl (qa rfl (qa rfl (qa rfl (qa rfl (qa rfl (qi _))))))) (qa rfl (qi _)) rfl (show qC _ (HB++([]++((b6,.cells 4 1 [.bool false])::(b5,.cells 3 1 [zi 0])::(b4,.cells 3 1 [zi 0])::(b3,.cells 172 1 [.func (.func fi) #[] #[zp bi]])::H))) from zH) ?_
 rintro ⟨k,Ds⟩ ⟨hk,hno⟩
 dsimp only at hk hno ⊢
 simp only [List.cons_append,List.nil_append]
 refine za 4 rfl ?_
 refine qm (p:=(k:Int)<(n:Int)) rfl (by simp) (fun q0=>?_) (fun q0=>?_)
 ·skip
  refine za 5 rfl ?_
  refine qp (l:=[zi 0]) ty3 rfl rfl (fun b7=>?_)
  refine qv (l':=[zi (k:Int)]) rfl rfl ty3 rfl rfl (b:=b7) zM rfl rfl zU ?_
  refine za 3 rfl ?_
  refine qe (v:=zi (k:Int)) rfl ty3 rfl (qf.own (b:=b7) zM rfl) rfl ?_
  refine qk (zc2 rfl rfl) Tryz.call272 rfl (qpp) ?_
  rintro v H' ⟨c2,c3,rfl,rfl⟩
  refine za 2 rfl (Qp rfl Tryz.call365 ?_)
  intro lp D r hst hpd hps hasg hbody hA
  have hr:=QC hst hpd
  show qh _ _ _ #[_,_,_] _ _
  refine ((qhJ (b2:=c2) (b3:=c3) (H:=(lp,.obj (.loop r))::(D,.obj (.deferred (some [])))::((b7,.cells 3 1 [zi (k:Int)])::(Ds.map dB++((b6,.cells 4 1 [.bool false])::(b5,.cells 3 1 [zi 0])::(b4,.cells 3 1 [zi 0])::(b3,.cells 172 1 [.func (.func fi) #[] #[zp bi]])::H)))) hP hn (k:=k) zO (fun i Hi=>(∀ (j:Nat) y,j<i→(QQ Q (k:Int))[j]?=some y→y≠id)∧Hi=(lp,.obj (.loop r))::(D,.obj (.deferred (some [])))::((b7,.cells 3 1 [zi (k:Int)])::(Ds.map dB++((b6,.cells 4 1 [.bool false])::(b5,.cells 3 1 [zi 0])::(b4,.cells 3 1 [zi 0])::(b3,.cells 172 1 [.func (.func fi) #[] #[zp bi]])::H)))) (fun Hi=>∃ i:Nat,(QQ Q (k:Int))[i]?=some id∧Hi=(lp,.obj (.loop (Loop.at r .done (some .ret))))::(D,.obj (.deferred (some [])))::((b7,.cells 3 1 [zi (k:Int)])::(Ds.map dB++((b6,.cells 4 1 [.bool true])::(b5,.cells 3 1 [zi (i:Int)])::(b4,.cells 3 1 [zi (k:Int)])::(b3,.cells 172 1 [.func (.func fi) #[] #[zp bi]])::H)))) ?_ ⟨fun j y hj=>absurd hj (Nat.not_lt_zero _),rfl⟩).hsub zH).mono ?_
  ·intro i x Hi XB hx hJ
   obtain ⟨hJ1,rfl⟩:=hJ
   refine Qo hst hpd hA hps rfl hasg rfl rfl rfl zT ?_
   refine za 6 rfl (Jf hst hpd zT hbody (za 2 rfl ?_))
   refine qe (v:=.func (.func fi) #[] #[zp bi]) rfl qoG rfl (qf.own (b:=b3) zM rfl) rfl ?_
   refine qD rfl rfl ?_
   refine Xr (fa:=[]) (ca:=[zp bi]) rfl (.cons rfl .nil) rfl hfi rfl (hcl x _ (by repeat (first | exact hbi | exact List.mem_cons_self | apply List.mem_cons_of_mem | apply List.mem_append_right))) ?_
   by_cases hxi:x=id
   ·skip
    subst hxi
    rw [decide_eq_true rfl]
    refine za 3 rfl ?_
    refine qe (v:=zi (k:Int)) rfl ty3 rfl (qf.own (b:=b7) zM rfl) rfl ?_
    refine qD rfl rfl ?_
    refine qv (l':=[zi (k:Int)]) rfl rfl ty3 rfl rfl (b:=b4) zM rfl rfl zU ?_
    refine qv (l':=[zi (i:Int)]) rfl rfl ty3 rfl rfl (b:=b5) zM rfl rfl zU ?_
    refine qv (l':=[.bool true]) rfl rfl ty4 rfl rfl (b:=b6) zM rfl rfl zU ?_
    refine qs (XM zT ?_)
    exact ⟨(lp,.obj (.loop (Loop.at r .done (some .ret))))::(D,.obj (.deferred (some [])))::((b7,.cells 3 1 [zi (k:Int)])::(Ds.map dB++((b6,.cells 4 1 [.bool true])::(b5,.cells 3 1 [zi (i:Int)])::(b4,.cells 3 1 [zi (k:Int)])::(b3,.cells 172 1 [.func (.func fi) #[] #[zp bi]])::H))),zH,.inr ⟨rfl,i,hx,rfl⟩⟩
    skip
   ·skip
    rw [decide_eq_false hxi]
    refine za 4 rfl (Qs zT ?_)
    rw [hr]
    exact ⟨(lp,.obj (.loop r))::(D,.obj (.deferred (some [])))::((b7,.cells 3 1 [zi (k:Int)])::(Ds.map dB++((b6,.cells 4 1 [.bool false])::(b5,.cells 3 1 [zi 0])::(b4,.cells 3 1 [zi 0])::(b3,.cells 172 1 [.func (.func fi) #[] #[zp bi]])::H))),zH,.inl ⟨rfl,qmS hJ1 hx hxi,rfl⟩⟩
  ·intro _ H' hp
   obtain ⟨Hi',hs,hJS⟩:=hp
   rcases hJS with ⟨hJ1,rfl⟩ | ⟨i,hi,rfl⟩
   case inr =>
    refine ⟨.done,some .ret,(c2,.cells 166 1 [zp pb])::(c3,.cells 3 1 [zi (k:Int)])::(HB++((D,.obj (.deferred (some [])))::((b7,.cells 3 1 [zi (k:Int)])::(Ds.map dB++((b6,.cells 4 1 [.bool true])::(b5,.cells 3 1 [zi (i:Int)])::(b4,.cells 3 1 [zi (k:Int)])::(b3,.cells 172 1 [.func (.func fi) #[] #[zp bi]])::H))))),hs.trans zH,by decide,?_⟩
    show W _ _ _ _ _ _ _ _ _
    refine qO (H':=(D::Ds).map dB++(HB++((b6,.cells 4 1 [.bool true])::(b5,.cells 3 1 [zi (i:Int)])::(b4,.cells 3 1 [zi (k:Int)])::(b3,.cells 172 1 [.func (.func fi) #[] #[zp bi]])::H))) (show qC _ (dB D::(Ds.map dB++(HB++((b6,.cells 4 1 [.bool true])::(b5,.cells 3 1 [zi (i:Int)])::(b4,.cells 3 1 [zi (k:Int)])::(b3,.cells 172 1 [.func (.func fi) #[] #[zp bi]])::H)))) from zH) ?_
    refine qbP (H2:=HB++H) Tryz.results189 (XA (D::Ds)) (.one rfl ty3 rfl (qf.own (b:=b4) zM rfl)) (.one rfl ty3 rfl (qf.own (b:=b5) zM rfl)) (.one rfl ty4 rfl (qf.own (b:=b6) zM rfl)) zH ?_
    exact ⟨.inr ⟨k,i,rfl,by omega,hi⟩,rfl⟩
   refine ⟨.ready,none,(c2,.cells 166 1 [zp pb])::(c3,.cells 3 1 [zi (k:Int)])::(HB++((D,.obj (.deferred (some [])))::((b7,.cells 3 1 [zi (k:Int)])::(Ds.map dB++((b6,.cells 4 1 [.bool false])::(b5,.cells 3 1 [zi 0])::(b4,.cells 3 1 [zi 0])::(b3,.cells 172 1 [.func (.func fi) #[] #[zp bi]])::H))))),by rw [hr]; exact hs.trans zH,by decide,?_⟩
   show W _ _ _ _ _ _ _ _ _
   refine za 3 rfl ?_
   refine qE rfl rfl (qQ (m:=((k+1:Nat):Int)) (by rw [zg (by omega)]; omega)) rfl ?_
   refine za 2 rfl ?_
   refine qP (k+1,D::Ds) ⟨by show k+1≤n; omega,fun j hj hin=>by
     by_cases e:j=k
     ·subst e
      obtain ⟨q,hq,eq⟩:=List.getElem_of_mem hin
      exact hJ1 q id hq (by rw [List.getElem?_eq_getElem hq,eq]) rfl
     ·exact hno j (by have:j<k+1:=hj; omega) hin⟩ (by show n-(k+1)<n-k; omega) (qa rfl (qa rfl (qa rfl (qa rfl (qa rfl (qa rfl (qa rfl (qi _)))))))) rfl (show qC _ (HB++(dB D::(Ds.map dB++((b6,.cells 4 1 [.bool false])::(b5,.cells 3 1 [zi 0])::(b4,.cells 3 1 [zi 0])::(b3,.cells 172 1 [.func (.func fi) #[] #[zp bi]])::H)))) from zH)
 ·skip
  refine za 2 rfl ?_
  refine qv (l':=[zi 0]) rfl rfl ty3 rfl rfl (b:=b4) zM rfl rfl zU ?_
  refine qv (l':=[zi 0]) rfl rfl ty3 rfl rfl (b:=b5) zM rfl rfl zU ?_
  refine qv (l':=[.bool false]) rfl rfl ty4 rfl rfl (b:=b6) zM rfl rfl zU ?_
  refine qs ?_
  refine qO (H':=Ds.map dB++(HB++((b6,.cells 4 1 [.bool false])::(b5,.cells 3 1 [zi 0])::(b4,.cells 3 1 [zi 0])::(b3,.cells 172 1 [.func (.func fi) #[] #[zp bi]])::H))) zH ?_
  refine qbP (H2:=HB++H) Tryz.results189 (XA (Ds)) (.one rfl ty3 rfl (qf.own (b:=b4) zM rfl)) (.one rfl ty3 rfl (qf.own (b:=b5) zM rfl)) (.one rfl ty4 rfl (qf.own (b:=b6) zM rfl)) zH ?_
  obtain rfl:k=n:=by omega
  exact ⟨.inl ⟨rfl,hno⟩,rfl⟩
theorem qeg (hP:zb pb n Q Rs HB) (hn:n≤64) :qh Tryz.prog w0 99 #[zp pb,zi id] (HB++H) (fun v H'=>v=ZU (whQ Q id)∧H'=HB++H):=by
 refine qc (l:=[zp pb,zi id]) Tryz.func99 rfl Tryz.ntmps99 rfl rfl ?_
 refine ze ?_
 refine qK (l:=[zi id]) rfl rfl rfl (fun b3=>?_)
 refine za 5 rfl (qI .nil (.cons rfl .nil) rfl ?_)
 refine qk (zc2 rfl rfl) Tryz.call189 rfl ((qlp (bi:=b3) (fi:=190) (id:=id) hP hn (H:=(b3,.cells 3 1 [zi id])::H) zM Tryz.call190 (fun x H hb=>whc_q hb)).hsub zH) ?_
 rintro v H' ⟨hF,rfl⟩
 rcases hF.wh hP.ok with ⟨rfl,hw⟩ | ⟨k,i,rfl,hk,hi,hw⟩
 ·skip
  refine za 14 rfl ?_
  refine qL (H2:=HB++H) Tryz.results99 rfl rfl (.nil _) zH ?_
  rw [hw]
  exact ⟨rfl,rfl⟩
 ·skip
  refine za 14 rfl ?_
  refine qL (H2:=HB++H) Tryz.results99 rfl rfl (.nil _) zH ?_
  rw [hw]
  exact ⟨rfl,rfl⟩
end Go.Proofs.YtincjohoncljoaaGreatDoor
