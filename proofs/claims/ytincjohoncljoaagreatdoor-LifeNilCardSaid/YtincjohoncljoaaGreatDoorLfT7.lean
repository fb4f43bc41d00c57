/-
  Own work: contracts of functions that the statement reaches, and plain facts on what they compute; each theorem says its conditions.
-/
import Derived.Test.YtincjohoncljoaaGreatDoorLfT6
import Derived.Test.YtincjohoncljoaaGreatDoorLfS2
import Derived.Test.YtincjohoncljoaaGreatDoorLfS1
import Derived.Test.YtincjohoncljoaaGreatDoorLfA
set_option linter.all false
set_option linter.unusedSimpArgs false
set_option linter.unusedVariables false
set_option maxHeartbeats 16000000
namespace Go.Proofs.YtincjohoncljoaaGreatDoor
open Go Go.Sl
attribute [local irreducible] W
theorem bitsLen0:Pure Tryz.prog (fun _ => True) 227 [.int .u64 0] (.int .i64 (Lib.bitLen (0:Int).toNat:Nat)):=fun _ _ _ =>
 L_of_below (T:=fun _ => True) (fun w _ => (Tryz.bits_Len 0 w zd zd).mono fun _ _ ⟨h1,h2⟩ => ⟨h1,h2 ▸ Go.RowKit.Below.refl _ _⟩) (fun _ _ => trivial)
structure RevAt {K:Type} (d:List K) (i:Nat) (e:List K):Prop where
 len:e.length=d.length
 at_:∀ k,k < d.length→e[k]?=if k < i∨d.length - i≤k then d[d.length - 1 - k]? else d[k]?
theorem RevAt.zero {K:Type} (d:List K):RevAt d 0 d:=⟨rfl,fun k hk => by rw [if_neg (by omega)]⟩
theorem RevAt.swap {K:Type} {d e:List K} {i:Nat} {x y:K} (h:RevAt d i e) (hi:2 * i+1 < d.length) (hx:e[i]?=some x) (hy:e[d.length - 1 - i]?=some y):RevAt d (i+1) ((e.set i y).set (d.length - 1 - i) x):=by
 refine ⟨by rw [List.length_set,List.length_set]; exact h.len,fun k hk => ?_⟩
 have hl:=h.len
 have ei:e[i]?=d[i]?:=by rw [h.at_ i (by omega),if_neg (by omega)]
 have ej:e[d.length - 1 - i]?=d[d.length - 1 - i]?:=by rw [h.at_ _ (by omega),if_neg (by omega)]
 by_cases h1:k=d.length - 1 - i
 ·subst h1
  rw [List.getElem?_set_self (by rw [List.length_set]; omega),if_pos (by omega),← hx,ei]
  congr 1; omega
 ·rw [List.getElem?_set_ne (fun e => h1 e.symm)]
  by_cases h2:k=i
  ·subst h2
   rw [List.getElem?_set_self (by omega),if_pos (by omega),← hy,ej]
  ·rw [List.getElem?_set_ne (fun e => h2 e.symm),h.at_ k hk]
   by_cases h3:k < i∨d.length - i≤k
   ·rw [if_pos h3,if_pos (by omega)]
   ·rw [if_neg h3,if_neg (by omega)]
theorem RevAt.over {K:Type} {d e:List K} {i:Nat} (h:RevAt d i e) (hi:d.length≤2 * i+1):e=d.reverse:=by
 refine List.ext_getElem? fun k => ?_
 by_cases hk:k < d.length
 ·rw [List.getElem?_reverse hk,h.at_ k hk]
  by_cases h3:k < i∨d.length - i≤k
  ·rw [if_pos h3]
  ·rw [if_neg h3]; congr 1; omega
 ·rw [List.getElem?_eq_none (by rw [h.len]; omega),List.getElem?_eq_none (by simp; omega)]
theorem insU_nil (fv:Value):Pure Tryz.prog (fun _ => True) 420 [.slice none 0 0,.int .i64 0,.int .i64 0,fv] (.tuple #[]):=by
 intro w0 H hT
 refine L_enter Tryz.func420 rfl Tryz.ntmps420 rfl rfl ?_
 refine W_sr ?_
 refine W_move rfl rfl ?_
 refine W_bin rfl rfl (b_add (m:=1) zd) rfl ?_
 refine W_assign rfl rfl ?_
 refine W_nil (W_block ?_)
 refine W_loopC (X:=Unit) [(0,_),(1,_),(2,_),(3,_)] (fun (u:Unit) => [(8,.int .i64 1)]) (fun _ => _) (fun _ => _) (fun (u:Unit) => True) (fun (u:Unit) => 0) () trivial (sub_cons rfl (sub_cons rfl (sub_cons rfl (sub_cons rfl (sub_nil _))))) (sub_cons rfl (sub_nil _)) rfl zH ?_
 intro u hI
 simp only [List.cons_append,List.nil_append]
 refine W_seq (W_sr ?_)
 refine W_move rfl rfl ?_
 refine W_move rfl rfl ?_
 refine W_bin rfl rfl b_lss rfl ?_
 refine W_nil ?_
 refine W_condF rfl zd ?_
 refine W_exit rfl ?_
 refine W_end0m (H2:=H) Tryz.results420 (.nil _) zH ?_
 exact ⟨rfl,rfl⟩
theorem pdqU_nil (lim:Int) (fv:Value):Pure Tryz.prog (fun _ => True) 386 [.slice none 0 0,.int .i64 0,.int .i64 0,.int .i64 lim,fv] (.tuple #[]):=by
 intro w0 H hT
 refine L_enter Tryz.func386 rfl Tryz.ntmps386 rfl rfl ?_
 refine W_sr ?_
 refine W_assign rfl rfl ?_
 refine W_nil (W_sr ?_)
 refine W_assign rfl rfl ?_
 refine W_nil (W_block ?_)
 refine W_loopC (X:=Unit) [(0,_),(4,_)] (fun (u:Unit) => [(1,.int .i64 0),(2,.int .i64 0)]) (fun _ => _) (fun _ => _) (fun (u:Unit) => True) (fun (u:Unit) => 0) () trivial (sub_cons rfl (sub_cons rfl (sub_nil _))) (sub_cons rfl (sub_cons rfl (sub_nil _))) rfl zH ?_
 intro u hI
 simp only [List.cons_append,List.nil_append]
 refine W_block (W_sr ?_)
 refine W_move rfl rfl ?_
 refine W_move rfl rfl ?_
 refine W_bin rfl rfl (b_sub (m:=0) zd) rfl ?_
 refine W_assign rfl rfl ?_
 refine W_nil (W_seq (W_sr ?_))
 refine W_move rfl rfl ?_
 refine W_bin rfl rfl b_leq rfl ?_
 refine W_nil ?_
 refine W_condT rfl zd ?_
 refine W_sr ?_
 refine W_move rfl rfl ?_
 refine W_move rfl rfl ?_
 refine W_move rfl rfl ?_
 refine W_move rfl rfl ?_
 refine W_callp (.cons rfl (.cons rfl (.cons rfl (.cons rfl .nil)))) Tryz.call420 rfl (T:=fun _ => True) trivial (insU_nil fv) ?_
 refine W_nil ?_
 refine W_ret0m (H2:=H) Tryz.results386 (.nil _) zH ?_
 exact ⟨rfl,rfl⟩
theorem srtU_nil (fv:Value):Pure Tryz.prog (fun _ => True) 311 [.slice none 0 0,fv] (.tuple #[]):=by
 intro w0 H hT
 refine L_enter Tryz.func311 rfl Tryz.ntmps311 rfl rfl ?_
 refine W_sr ?_
 refine W_move rfl rfl ?_
 refine W_len rfl ty84 rfl rfl ?_
 refine W_assign rfl rfl ?_
 refine W_nil ?_
 refine W_region ?_
 refine W_move rfl rfl ?_
 refine W_move rfl rfl ?_
 refine W_move rfl rfl ?_
 refine W_conv (m:=0) rfl ty3 ty357 zd rfl ?_
 refine W_callp (.cons rfl .nil) Tryz.call227 rfl (T:=fun _ => True) trivial bitsLen0 ?_
 refine W_move rfl rfl ?_
 refine W_callp (.cons rfl (.cons rfl (.cons rfl (.cons rfl (.cons rfl .nil))))) Tryz.call386 rfl (T:=fun _ => True) trivial (pdqU_nil _ fv) ?_
 refine W_nil ?_
 refine W_end0m (H2:=H) Tryz.results311 (.nil _) zH ?_
 exact ⟨rfl,rfl⟩
theorem revU_nil :Pure Tryz.prog (fun _ => True) 314 [.slice none 0 0] (.tuple #[]):=by
 intro w0 H hT
 refine L_enter Tryz.func314 rfl Tryz.ntmps314 rfl rfl ?_
 refine W_sr ?_
 refine W_move rfl rfl ?_
 refine W_len rfl ty84 rfl rfl ?_
 refine W_bin rfl rfl (b_sub (m:=-1) zd) rfl ?_
 refine W_assign rfl rfl ?_
 refine W_assign rfl rfl ?_
 refine W_nil (W_block ?_)
 refine W_loopC (X:=Unit) [(0,_)] (fun (u:Unit) => [(2,.int .i64 0),(3,.int .i64 (-1))]) (fun _ => _) (fun _ => _) (fun (u:Unit) => True) (fun (u:Unit) => 0) () trivial (sub_cons rfl (sub_nil _)) (sub_cons rfl (sub_cons rfl (sub_nil _))) rfl zH ?_
 intro u hI
 simp only [List.cons_append,List.nil_append]
 refine W_seq (W_sr ?_)
 refine W_move rfl rfl ?_
 refine W_move rfl rfl ?_
 refine W_bin rfl rfl b_lss rfl ?_
 refine W_nil ?_
 refine W_condF rfl zd ?_
 refine W_exit rfl ?_
 refine W_end0m (H2:=H) Tryz.results314 (.nil _) zH ?_
 exact ⟨rfl,rfl⟩
theorem revU_L {w0:World} {H:Heap} {b tot cap:Nat} {d:List Int} (hd:d.length≤4611686018427387904) :LCalls Tryz.prog w0 314 #[.slice (some ⟨b,0,none⟩) d.length cap] ((b,.cells 30 tot (d.map (Value.int .u64)))::H) (fun v H' => v=.tuple #[]∧H'=(b,.cells 30 tot (d.reverse.map (Value.int .u64)))::H):=by
 refine L_enter (l:=[.slice (some ⟨b,0,none⟩) d.length cap]) Tryz.func314 rfl Tryz.ntmps314 rfl rfl ?_
 refine W_sr ?_
 refine W_move rfl rfl ?_
 refine W_len rfl ty84 rfl rfl ?_
 refine W_bin rfl rfl (b_sub (m:=(d.length:Int) - 1) (i64wO zO)) rfl ?_
 refine W_assign rfl rfl ?_
 refine W_assign rfl rfl ?_
 refine W_nil (W_block ?_)
 refine W_loopC (X:=(Nat × List Int)) [(0,_)] (fun (x:(Nat × List Int)) => [(2,.int .i64 (x.1:Int)),(3,.int .i64 ((d.length:Int) - 1 - x.1))]) (fun _ => _) (fun (x:(Nat × List Int)) => (b,.cells 30 tot (x.2.map (Value.int .u64)))::H) (fun (x:(Nat × List Int)) => 2 * x.1≤d.length∧RevAt d x.1 x.2) (fun (x:(Nat × List Int)) => d.length - x.1) (0,d) ⟨Nat.zero_le _,RevAt.zero d⟩ (sub_cons rfl (sub_nil _)) (sub_cons rfl (sub_cons (by simp; rfl) (sub_nil _))) rfl zH ?_
 rintro ⟨i,e⟩ ⟨hi,hR⟩
 dsimp only at hi hR ⊢
 have hel:=hR.len
 simp only [List.cons_append,List.nil_append]
 refine W_seq (W_sr ?_)
 refine W_move rfl rfl ?_
 refine W_move rfl rfl ?_
 refine W_bin rfl rfl b_lss rfl ?_
 refine W_nil ?_
 refine W_condPS (p:=(i:Int) < (d.length:Int) - 1 - i) rfl (by simp) (fun c0 => ?_) (fun c0 => ?_)
 ·skip
  refine W_skip (W_seq (W_block ?_))
  obtain ⟨x,hx⟩:∃ x,e[i]?=some x:=⟨_,List.getElem?_eq_getElem zO⟩
  obtain ⟨y,hy⟩:∃ y,e[d.length - 1 - i]?=some y:=⟨_,List.getElem?_eq_getElem zO⟩
  refine W_cut [(0,.slice (some ⟨b,0,none⟩) d.length cap),(2,.int .i64 (i:Int)),(3,.int .i64 ((d.length:Int) - 1 - i))] ((b,.cells 30 tot (((e.set i y).set (d.length - 1 - i) x).map (Value.int .u64)))::H) ?_ ?_
  ·skip
   refine W_any zk ?_
   refine WA_take 0 (l':=#[true,false,false,false,false,false,false,false,false,false,false,false,false,false,false,false]) rfl zK zK zK (fun _ h => by cases h) (fun _ h => by cases h) zK (X_move rfl) rfl ?_
   refine WA_take 1 (l':=#[true,true,false,false,false,false,false,false,false,false,false,false,false,false,false,false]) rfl zK zK zK (fun _ h => by cases h) (fun _ h => by cases h) zK (X_move rfl) rfl ?_
   refine WA_take 2 (l':=#[true,true,true,false,false,false,false,false,false,false,false,false,false,false,false,false]) rfl zK zK zK (fun _ h => by cases h) (fun _ h => by cases h) zK (X_move rfl) rfl ?_
   refine WA_take 3 (l':=#[true,true,true,true,false,false,false,false,false,false,false,false,false,false,false,false]) rfl zK zK zK (fun _ h => by cases h) (fun _ h => by cases h) zK (X_move rfl) rfl ?_
   refine WA_take 4 (l':=#[true,true,true,true,true,false,false,false,false,false,false,false,false,false,false,false]) rfl zK zK zK (fun _ h => by cases h) (fun _ h => by cases h) zK (X_move rfl) rfl ?_
   refine WA_take 5 (l':=#[true,true,true,true,true,true,false,false,false,false,false,false,false,false,false,false]) rfl zK zK zK (fun _ h => by cases h) (fun _ h => by cases h) zK (X_move rfl) rfl ?_
   refine WA_take 6 (l':=#[true,true,true,true,true,true,true,false,false,false,false,false,false,false,false,false]) rfl zK zK zK (fun _ h => by cases h) (fun _ h => by cases h) zK (X_indexAddr (j:=(d.length - 1 - i)) rfl rfl ty84 ty30 (by first | rfl | omega) zO (Nat.zero_add _)) rfl ?_
   refine WA_take 8 (l':=#[true,true,true,true,true,true,true,false,true,false,false,false,false,false,false,false]) rfl zK zK zK (fun _ h => by cases h) (fun _ h => by cases h) zK (X_move rfl) rfl ?_
   refine WA_take 9 (l':=#[true,true,true,true,true,true,true,false,true,true,false,false,false,false,false,false]) rfl zK zK zK (fun _ h => by cases h) (fun _ h => by cases h) zK (X_move rfl) rfl ?_
   refine WA_take 10 (l':=#[true,true,true,true,true,true,true,false,true,true,true,false,false,false,false,false]) rfl zK zK zK (fun _ h => by cases h) (fun _ h => by cases h) zK (X_indexAddr (j:=i) rfl rfl ty84 ty30 (by first | rfl | omega) zO (Nat.zero_add _)) rfl ?_
   refine WA_two 7 11 (l':=#[true,true,true,true,true,true,true,true,true,true,true,false,false,false,false,false]) (l'':=#[true,true,true,true,true,true,true,false,true,true,true,true,false,false,false,false]) zK rfl rfl zK zK ?_ ?_
   ·skip
    refine W_load (v:=(Value.int .u64) y) rfl ty30 rfl (Cell.own (b:=b) zM (by rw [Nat.mul_one,List.getElem?_map,hy]; rfl)) rfl ?_
    refine W_nil ?_
    refine WA_goal ?_
    refine WA_one 11 (l':=#[true,true,true,true,true,true,true,true,true,true,true,true,false,false,false,false]) zK rfl zK (fun _ h => by cases h) ?_
    refine W_load (v:=(Value.int .u64) x) rfl ty30 rfl (Cell.own (b:=b) zM (by rw [Nat.mul_one,List.getElem?_map,hx]; rfl)) rfl ?_
    refine W_nil ?_
    refine WA_goal ?_
    refine WA_take 12 (l':=#[true,true,true,true,true,true,true,true,true,true,true,true,true,false,false,false]) rfl zK zK zK (fun _ h => by cases h) (fun _ h => by cases h) zK (X_indexAddr (j:=i) rfl rfl ty84 ty30 (by first | rfl | omega) zO (Nat.zero_add _)) rfl ?_
    refine WA_one 13 (l':=#[true,true,true,true,true,true,true,true,true,true,true,true,true,true,false,false]) zK rfl zK (fun _ h => by cases h) ?_
    refine W_store (l:=(e).map (Value.int .u64)) (l':=((e).set i y).map (Value.int .u64)) rfl rfl ty30 rfl rfl (b:=b) zM (by rw [Nat.mul_one,List.length_map]; simp; omega) (by rw [Nat.mul_one]; simp only [List.map_set]) zU ?_
    refine W_nil ?_
    refine WA_goal ?_
    refine WA_take 14 (l':=#[true,true,true,true,true,true,true,true,true,true,true,true,true,true,true,false]) rfl zK zK zK (fun _ h => by cases h) (fun _ h => by cases h) zK (X_indexAddr (j:=(d.length - 1 - i)) rfl rfl ty84 ty30 (by first | rfl | omega) zO (Nat.zero_add _)) rfl ?_
    refine WA_one 15 (l':=#[true,true,true,true,true,true,true,true,true,true,true,true,true,true,true,true]) zK rfl zK (fun _ h => by cases h) ?_
    refine W_store (l:=(e.set i y).map (Value.int .u64)) (l':=((e.set i y).set (d.length - 1 - i) x).map (Value.int .u64)) rfl rfl ty30 rfl rfl (b:=b) zM (by rw [Nat.mul_one,List.length_map]; simp; omega) (by rw [Nat.mul_one]; simp only [List.map_set]) zU ?_
    refine W_nil ?_
    refine WA_goal ?_
    refine WA_done zK ?_
    refine W_joined (sub_cons rfl (sub_cons rfl (sub_cons rfl (sub_nil _)))) zH
   ·skip
    refine W_load (v:=(Value.int .u64) x) rfl ty30 rfl (Cell.own (b:=b) zM (by rw [Nat.mul_one,List.getElem?_map,hx]; rfl)) rfl ?_
    refine W_nil ?_
    refine WA_goal ?_
    refine WA_one 7 (l':=#[true,true,true,true,true,true,true,true,true,true,true,true,false,false,false,false]) zK rfl zK (fun _ h => by cases h) ?_
    refine W_load (v:=(Value.int .u64) y) rfl ty30 rfl (Cell.own (b:=b) zM (by rw [Nat.mul_one,List.getElem?_map,hy]; rfl)) rfl ?_
    refine W_nil ?_
    refine WA_goal ?_
    refine WA_take 12 (l':=#[true,true,true,true,true,true,true,true,true,true,true,true,true,false,false,false]) rfl zK zK zK (fun _ h => by cases h) (fun _ h => by cases h) zK (X_indexAddr (j:=i) rfl rfl ty84 ty30 (by first | rfl | omega) zO (Nat.zero_add _)) rfl ?_
    refine WA_one 13 (l':=#[true,true,true,true,true,true,true,true,true,true,true,true,true,true,false,false]) zK rfl zK (fun _ h => by cases h) ?_
    refine W_store (l:=(e).map (Value.int .u64)) (l':=((e).set i y).map (Value.int .u64)) rfl rfl ty30 rfl rfl (b:=b) zM (by rw [Nat.mul_one,List.length_map]; simp; omega) (by rw [Nat.mul_one]; simp only [List.map_set]) zU ?_
    refine W_nil ?_
    refine WA_goal ?_
    refine WA_take 14 (l':=#[true,true,true,true,true,true,true,true,true,true,true,true,true,true,true,false]) rfl zK zK zK (fun _ h => by cases h) (fun _ h => by cases h) zK (X_indexAddr (j:=(d.length - 1 - i)) rfl rfl ty84 ty30 (by first | rfl | omega) zO (Nat.zero_add _)) rfl ?_
    refine WA_one 15 (l':=#[true,true,true,true,true,true,true,true,true,true,true,true,true,true,true,true]) zK rfl zK (fun _ h => by cases h) ?_
    refine W_store (l:=(e.set i y).map (Value.int .u64)) (l':=((e.set i y).set (d.length - 1 - i) x).map (Value.int .u64)) rfl rfl ty30 rfl rfl (b:=b) zM (by rw [Nat.mul_one,List.length_map]; simp; omega) (by rw [Nat.mul_one]; simp only [List.map_set]) zU ?_
    refine W_nil ?_
    refine WA_goal ?_
    refine WA_done zK ?_
    refine W_joined (sub_cons rfl (sub_cons rfl (sub_cons rfl (sub_nil _)))) zH
  refine W_blk ?_
  refine W_region ?_
  refine W_move rfl rfl ?_
  refine W_bin rfl rfl (b_add (m:=((i+1:Nat):Int)) ((i64wO zO).trans zO)) rfl ?_
  refine W_move rfl rfl ?_
  refine W_bin rfl rfl (b_sub (m:=(d.length:Int) - 1 - ((i+1:Nat):Int)) ((i64wO zO).trans zO)) rfl ?_
  refine W_assign rfl rfl ?_
  refine W_assign rfl rfl ?_
  refine W_nil ?_
  refine W_again (i+1,(e.set i y).set (d.length - 1 - i) x) ⟨by show 2 * (i+1)≤d.length; omega,hR.swap zO hx hy⟩ (by show d.length - (i+1) < d.length - i; omega) (sub_cons rfl (sub_cons rfl (sub_cons rfl (sub_nil _)))) rfl zH
 ·skip
  refine W_exit rfl ?_
  refine W_end0m Tryz.results314 (.nil _) (.refl _) ?_
  obtain rfl:=hR.over zO
  exact ⟨rfl,rfl⟩
theorem own_orO {e:TypeId} {s:Nat} {v:Value} {n:Nat} {xs:List Value} {HB:Heap} (h:OwnS e s v n xs HB):(v=.slice none 0 0∧n=0∧xs=[]∧HB=[])∨∃ b cap,v=.slice (some ⟨b,0,none⟩) n cap∧HB=[(b,.cells e (cap * s) xs)]∧n≤cap∧cap≤maxLen:=by
 cases h with
 | nil => exact .inl ⟨rfl,rfl,rfl,rfl⟩
 | own h1 h2 h3 => exact .inr ⟨_,_,rfl,rfl,h2,h3⟩
theorem sortedU_L {w0:World} {H:Heap} {room last c bo bm:Nat} {m:List Int} {l:Ents Int} {τ:Int→Nat} (hO:OrdIs room m last l c τ) (bk:Bool) (h64:room≤64) :LCalls Tryz.prog w0 224 #[.pointer (some ⟨bo,0,none⟩),.bool bk] ((bo,.cells 372 3 [.int .i64 (room:Int),.int .i64 ((last:Nat):Int),.map (some bm)])::(bm,.obj (mapO (Value.int .u64) l c))::H) (fun v H' => ∃ bl sv HB,v=.func (.func 315) #[] #[.pointer (some ⟨bl,0,none⟩)]∧OwnS 30 1 sv (if bk then m.reverse else m).length ((if bk then m.reverse else m).map (Value.int .u64)) HB∧H'=(bl,.cells 84 1 [sv])::(HB++((bo,.cells 372 3 [.int .i64 (room:Int),.int .i64 ((last:Nat):Int),.map (some bm)])::(bm,.obj (mapO (Value.int .u64) l c))::H))):=by
 refine L_enter (l:=[.pointer (some ⟨bo,0,none⟩),.bool bk]) Tryz.func224 rfl Tryz.ntmps224 rfl rfl ?_
 refine W_sr ?_
 refine W_box rfl rfl rfl (fun b2 => ?_)
 refine W_assign rfl rfl ?_
 refine W_nil (W_sr ?_)
 refine W_alloc ty84 rfl rfl (fun b5 => ?_)
 refine W_nil (W_seq (W_sr ?_))
 refine W_load rfl ty215 rfl (Cell.own (b:=b2) zM rfl) rfl ?_
 refine W_x (X_ptrNotNil rfl rfl ty215) (fun _ h => by cases h) rfl ?_
 refine W_nil ?_
 refine W_condT rfl rfl ?_
 refine W_seq (W_sr ?_)
 refine W_load rfl ty215 rfl (Cell.own (b:=b2) zM rfl) rfl ?_
 refine W_nilCheck rfl rfl ?_
 refine W_fieldAddr rfl fld372_2 zd rfl ?_
 refine W_load rfl ty370 rfl (Cell.own (b:=bo) zM rfl) rfl ?_
 refine W_range (kf:=(Value.int .u64)) (l:=l) (cl:=c) rfl ty370 zM rfl (fun r => ?_)
 refine W_nil (W_block ?_)
 refine W_loopC (X:=(Ents Int × Value × Heap)) [(1,_),(2,_),(5,_),(13,_)] (fun (x:(Ents Int × Value × Heap)) => []) (fun _ => _) (fun (x:(Ents Int × Value × Heap)) => (r,.obj (iterO bm c (x.1.map (·.2.2)) c))::(b5,.cells 84 1 [x.2.1])::(b2,.cells 215 1 [.pointer (some ⟨bo,0,none⟩)])::(x.2.2++((bo,.cells 372 3 [.int .i64 (room:Int),.int .i64 ((last:Nat):Int),.map (some bm)])::(bm,.obj (mapO (Value.int .u64) l c))::H))) (fun (x:(Ents Int × Value × Heap)) => (x.1.map (·.2.2)).Nodup∧(∀ p ∈ x.1,p ∈ l)∧OwnS 30 1 x.2.1 (x.1.map (·.1)).length ((x.1.map (·.1)).map (Value.int .u64)) x.2.2) (fun (x:(Ents Int × Value × Heap)) => l.length - x.1.length) ([],.slice none 0 0,[]) ⟨.nil,(fun p hp => (by cases hp)),.nil⟩ (sub_cons rfl (sub_cons rfl (sub_cons rfl (sub_cons rfl (sub_nil _))))) (sub_nil _) rfl (HSub.refl _) ?_
 rintro ⟨vs,xv,XB⟩ ⟨hnd,hin,hX⟩
 dsimp only at hnd hin hX ⊢
 simp only [List.cons_append,List.nil_append]
 refine W_sr ?_
 refine W_next (kf:=(Value.int .u64)) (l:=l) (cl:=c) (b:=bm) (r:=r) (since:=c) (c0:=c) (sl:=vs.map (·.2.2)) (HN:=fun p => (r,.obj (iterO bm c (vs.map (·.2.2)++[p.2.2]) c))::(b5,.cells 84 1 [xv])::(b2,.cells 215 1 [.pointer (some ⟨bo,0,none⟩)])::(XB++((bo,.cells 372 3 [.int .i64 (room:Int),.int .i64 ((last:Nat):Int),.map (some bm)])::(bm,.obj (mapO (Value.int .u64) l c))::H))) rfl zM zM hO.ok.lt (Nat.le_refl _) (fun p => .head _) rfl (fun hall => ?_) (fun p hp hnp => ?_)
 ·skip
  refine W_extract rfl rfl rfl ?_
  refine W_nil (W_seq ?_)
  refine W_condF rfl rfl ?_
  refine W_exit rfl ?_
  refine W_region ?_
  have hp:=visit_perm hO.ok hnd hin hall
  have hpm:(vs.map (·.1)).Perm m:=(hp.map _).trans hO.keys
  have hlen:(vs.map (·.1)).length=m.length:=hpm.length_eq
  rcases own_orO hX with ⟨rfl,hn0,-,rfl⟩ | ⟨b,cap,rfl,rfl,hcap,hmax⟩
  ·skip
   refine W_load (v:=.slice none 0 0) rfl ty84 rfl (Cell.own (b:=b5) zM rfl) rfl ?_
   refine W_makeFunc .nil (.cons rfl .nil) rfl ?_
   refine W_callp (.cons rfl (.cons rfl .nil)) Tryz.call311 rfl (T:=fun _ => True) trivial (srtU_nil _) ?_
   refine W_nil (W_seq (W_sr ?_))
   refine W_move rfl rfl ?_
   refine W_nil ?_
   refine W_condS rfl (fun c0 => ?_) (fun c0 => ?_)
   ·skip
    refine W_region ?_
    refine W_load (v:=.slice none 0 0) rfl ty84 rfl (Cell.own (b:=b5) zM rfl) rfl ?_
    refine W_callp (.cons rfl .nil) Tryz.call314 rfl (T:=fun _ => True) trivial revU_nil ?_
    refine W_nil (W_sr ?_)
    refine W_makeFunc .nil (.cons rfl .nil) rfl ?_
    refine W_assign rfl rfl ?_
    refine W_nil ?_
    refine W_ret1m (H2:=(b5,.cells 84 1 [.slice none 0 0])::([]++((bo,.cells 372 3 [.int .i64 (room:Int),.int .i64 ((last:Nat):Int),.map (some bm)])::(bm,.obj (mapO (Value.int .u64) l c))::H))) Tryz.results224 rfl (.nil _) zH ?_
    have hm0:m=[]:=List.eq_nil_of_length_eq_zero zO
    subst hm0
    exact ⟨b5,.slice none 0 0,[],rfl,by rw [if_pos c0]; exact .nil,rfl⟩
   ·skip
    refine W_skip (W_sr ?_)
    refine W_makeFunc .nil (.cons rfl .nil) rfl ?_
    refine W_assign rfl rfl ?_
    refine W_nil ?_
    refine W_ret1m (H2:=(b5,.cells 84 1 [.slice none 0 0])::([]++((bo,.cells 372 3 [.int .i64 (room:Int),.int .i64 ((last:Nat):Int),.map (some bm)])::(bm,.obj (mapO (Value.int .u64) l c))::H))) Tryz.results224 rfl (.nil _) zH ?_
    have hm0:m=[]:=List.eq_nil_of_length_eq_zero zO
    subst hm0
    exact ⟨b5,.slice none 0 0,[],rfl,by rw [if_neg (by rw [c0]; simp)]; exact .nil,rfl⟩
  ·skip
   refine W_load (v:=.slice (some ⟨b,0,none⟩) (vs.map (·.1)).length cap) rfl ty84 rfl (Cell.own (b:=b5) zM rfl) rfl ?_
   refine W_makeFunc .nil (.cons rfl .nil) rfl ?_
   rw [List.singleton_append]
   have hcc:=sortU_L (w0:=w0) (b2:=b2) (bo:=bo) (bm:=bm) (H:=(b5,.cells 84 1 [.slice (some ⟨b,0,none⟩) (vs.map (·.1)).length cap])::H) (b:=b) (tot:=cap * 1) (cap:=cap) (d:=vs.map (·.1)) hO (by have:=hO.le; omega)
   refine W_call (.cons rfl (.cons rfl .nil)) Tryz.call311 rfl (hcc.hsub (.cons zT (.cons zT (.cons zT (.cons zT (.cons zT (.drop (.refl _)))))))) ?_
   rintro v H' ⟨rfl,d',hd',hsd,rfl⟩
   obtain rfl:d'=m:=sorted_isO (hd'.trans hpm) hO.nodup hO.asc hsd
   rw [hlen]
   refine W_nil (W_seq (W_sr ?_))
   refine W_move rfl rfl ?_
   refine W_nil ?_
   refine W_condS rfl (fun c0 => ?_) (fun c0 => ?_)
   ·skip
    refine W_region ?_
    refine W_load (v:=(.slice (some ⟨b,0,none⟩) d'.length cap)) rfl ty84 rfl (Cell.own (b:=b5) zM rfl) rfl ?_
    refine W_call (.cons rfl .nil) Tryz.call314 rfl ((revU_L (b:=b) (tot:=cap * 1) (cap:=cap) (d:=d') (by have:=hO.le; omega)).hsub (.cons zT (.refl _))) ?_
    rintro v H' ⟨rfl,rfl⟩
    refine W_nil (W_sr ?_)
    refine W_makeFunc .nil (.cons rfl .nil) rfl ?_
    refine W_assign rfl rfl ?_
    refine W_nil ?_
    refine W_ret1m (H2:=(b5,.cells 84 1 [(.slice (some ⟨b,0,none⟩) d'.length cap)])::([(b,.cells 30 (cap * 1) ((d'.reverse).map (Value.int .u64)))]++((bo,.cells 372 3 [.int .i64 (room:Int),.int .i64 ((last:Nat):Int),.map (some bm)])::(bm,.obj (mapO (Value.int .u64) l c))::H))) Tryz.results224 rfl (.nil _) zH ?_
    refine ⟨b5,_,_,rfl,?_,rfl⟩
    rw [if_pos c0]
    have h:=OwnS.own (e:=30) (s:=1) (b:=b) (n:=(d'.reverse).length) (cap:=cap) (xs:=(d'.reverse).map (Value.int .u64)) (by simp) (by first | omega | (rw [List.length_reverse]; omega)) hmax
    rwa [List.length_reverse] at h ⊢
   ·skip
    refine W_skip (W_sr ?_)
    refine W_makeFunc .nil (.cons rfl .nil) rfl ?_
    refine W_assign rfl rfl ?_
    refine W_nil ?_
    refine W_ret1m (H2:=(b5,.cells 84 1 [(.slice (some ⟨b,0,none⟩) d'.length cap)])::([(b,.cells 30 (cap * 1) ((d').map (Value.int .u64)))]++((bo,.cells 372 3 [.int .i64 (room:Int),.int .i64 ((last:Nat):Int),.map (some bm)])::(bm,.obj (mapO (Value.int .u64) l c))::H))) Tryz.results224 rfl (.nil _) zH ?_
    refine ⟨b5,_,_,rfl,?_,rfl⟩
    rw [if_neg (by rw [c0]; simp)]
    have h:=OwnS.own (e:=30) (s:=1) (b:=b) (n:=(d').length) (cap:=cap) (xs:=(d').map (Value.int .u64)) (by simp) (by first | omega | (rw [List.length_reverse]; omega)) hmax
    exact h
 ·skip
  refine W_extract rfl rfl rfl ?_
  refine W_nil (W_seq ?_)
  refine W_condT rfl rfl ?_
  refine W_skip (W_block (W_sr ?_))
  refine W_entry (kf:=(Value.int .u64)) (l:=l) (cl:=c) (b:=bm) (r:=r) (since:=c) (sl:=vs.map (·.2.2)) (p:=p) rfl zM zM hp hO.ok rfl ?_
  refine W_extract rfl rfl rfl ?_
  refine W_assign rfl rfl ?_
  refine W_nil ?_
  refine W_region ?_
  refine W_load (v:=xv) rfl ty84 rfl (Cell.own (b:=b5) zM rfl) rfl ?_
  refine W_move rfl rfl ?_
  refine W_buildSlice (l:=[(Value.int .u64) p.1]) ty84 ty30 (.cons rfl rfl rfl rfl rfl .nil) rfl rfl rfl rfl rfl rfl rfl (fun b20 => ?_)
  refine W_append (news:=[(Value.int .u64) p.1]) (m:=1) (HB:=XB) (H0:=(r,.obj (iterO bm c (vs.map (·.2.2)++[p.2.2]) c))::(b5,.cells 84 1 [xv])::(b2,.cells 215 1 [.pointer (some ⟨bo,0,none⟩)])::((bo,.cells 372 3 [.int .i64 (room:Int),.int .i64 ((last:Nat):Int),.map (some bm)])::(bm,.obj (mapO (Value.int .u64) l c))::H)) rfl rfl ty84 ty30 rfl (by decide) hX rfl (Holds.own List.mem_cons_self) rfl (by have:=visit_lt hnd hin hp hnp; rw [List.length_map]; have:=hO.len; have:=hO.le; simp only [maxLen]; omega) (by have:=visit_lt hnd hin hp hnp; rw [List.length_map]; have:=hO.len; have:=hO.le; omega) zH rfl (fun v' HB' hO' => ?_)
  refine W_store (l':=[v']) rfl rfl ty84 (by obtain ⟨a0,c0',e0,_⟩:=hO'.shape; rw [e0]; rfl) rfl (b:=b5) zM rfl rfl zU ?_
  refine W_nil ?_
  refine W_blk ?_
  refine W_again (vs++[p],v',HB') ⟨by show ((vs++[p]).map (·.2.2)).Nodup; rw [List.map_append]; exact List.nodup_append.2 ⟨hnd,by simp,fun x hx y hy e => hnp (by obtain rfl:y=p.2.2:=(by simpa using hy); exact e ▸ hx)⟩,fun q hq => (List.mem_append.1 hq).elim (hin q) (fun h => by obtain rfl:q=p:=(by simpa using h); exact hp),by show OwnS _ _ v' ((vs++[p]).map (·.1)).length (((vs++[p]).map (·.1)).map (Value.int .u64)) HB'; simp only [List.map_append,List.length_append,List.map_cons,List.map_nil,List.length_cons,List.length_nil] at hO' ⊢; exact hO'⟩ (by show l.length - (vs++[p]).length < l.length - vs.length; have:=visit_lt hnd hin hp hnp; rw [List.length_append,List.length_singleton]; omega) (sub_cons rfl (sub_cons rfl (sub_cons rfl (sub_cons rfl (sub_nil _))))) rfl (by simp only [List.map_append,List.map_cons,List.map_nil]; first | exact hsubI | (repeat (first | with_reducible exact HSub.refl _ | refine HSub.cons zT ?_ | refine HSub.app zS ?_ | exact HSub.nil _ | exact HSub.refl _ | refine HSub.drop ?_ | refine HSub.dropS ?_)))
theorem seqU_iter {w0:World} {H HB:Heap} {lp bl cap:Nat} {ad:Option Addr} {q:List Int} (J:Nat→Heap→Prop) (S:Heap→Prop) (hq:q.length≤4611686018427387904) (hrow:Holds w0 ((bl,.cells 84 1 [.slice ad q.length cap])::(HB++[])) ad (q.map (Value.int .u64)))
  (hround:∀ i z Hi,q[i]?=some z→J i Hi→RoundC Tryz.prog w0 lp #[(Value.int .u64) z] ((bl,.cells 84 1 [.slice ad q.length cap])::(HB++Hi)) (fun v H' => ∃ Hi',HSub H' ((bl,.cells 84 1 [.slice ad q.length cap])::(HB++Hi'))∧(v=.bool true∧J (i+1) Hi'∨v=.bool false∧S Hi'))) (hJ:J 0 H) :
  LCalls Tryz.prog w0 315 #[.func (.yield lp) #[] #[],.pointer (some ⟨bl,0,none⟩)] ((bl,.cells 84 1 [.slice ad q.length cap])::(HB++H)) (fun _ H' => ∃ Hi',HSub H' ((bl,.cells 84 1 [.slice ad q.length cap])::(HB++Hi'))∧(J q.length Hi'∨S Hi')):=by
 refine L_enter (l:=[.func (.yield lp) #[] #[],.pointer (some ⟨bl,0,none⟩)]) Tryz.func315 rfl Tryz.ntmps315 rfl rfl ?_
 refine W_sr ?_
 refine W_load (v:=.slice ad q.length cap) rfl ty84 rfl (Cell.own (b:=bl) zM rfl) rfl ?_
 refine W_len rfl ty84 rfl rfl ?_
 refine W_move rfl rfl ?_
 refine W_nil (W_block ?_)
 refine W_loopC (X:=(Nat × Heap)) [(0,_),(5,_),(6,_)] (fun (x:(Nat × Heap)) => [(7,.int .i64 (x.1:Int))]) (fun _ => _) (fun (x:(Nat × Heap)) => (bl,.cells 84 1 [.slice ad q.length cap])::(HB++x.2)) (fun (x:(Nat × Heap)) => x.1≤q.length∧J x.1 x.2) (fun (x:(Nat × Heap)) => q.length - x.1) (0,H) ⟨Nat.zero_le _,hJ⟩ (sub_cons rfl (sub_cons rfl (sub_cons rfl (sub_nil _)))) (sub_cons rfl (sub_nil _)) rfl (HSub.refl _) ?_
 rintro ⟨i,Hi⟩ ⟨hi,hJi⟩
 dsimp only at hi hJi ⊢
 simp only [List.cons_append,List.nil_append]
 refine W_sr ?_
 refine W_bin rfl rfl b_lss rfl ?_
 refine W_nil (W_seq ?_)
 refine W_condPS (p:=(i:Int) < (q.length:Int)) rfl (by simp) (fun c0 => ?_) (fun c0 => ?_)
 ·skip
  refine W_skip (W_seq ?_)
  refine W_block (W_sr ?_)
  obtain ⟨z,hz⟩:∃ z,q[i]?=some z:=⟨_,List.getElem?_eq_getElem zO⟩
  obtain ⟨q0,p0,rfl,hcz⟩:=hrow.at (i:=i) (v:=(Value.int .u64) z) (by rw [List.getElem?_map,hz]; rfl)
  refine W_indexAddr (j:=i) rfl rfl ty84 ty30 rfl zO rfl rfl ?_
  refine W_load (v:=(Value.int .u64) z) rfl ty30 rfl (by rw [Nat.mul_one]; exact hcz.up (.cons (.here _) (.app (.here _) (.nil _)))) rfl ?_
  refine W_assign rfl rfl ?_
  refine W_nil (W_sr ?_)
  refine W_move rfl rfl ?_
  refine W_move rfl rfl ?_
  refine W_yield rfl (.cons rfl .nil) rfl (hround i z Hi hz hJi) ?_
  rintro v H' ⟨Hi',hsub,⟨rfl,hJ'⟩ | ⟨rfl,hS'⟩⟩
  ·skip
   refine W_hsub hsub ?_
   refine W_not rfl rfl ?_
   refine W_nil ?_
   refine W_condF rfl rfl ?_
   refine W_skip ?_
   refine W_blk ?_
   refine W_region ?_
   refine W_bin rfl rfl (b_add (m:=((i+1:Nat):Int)) ((i64wO zO).trans zO)) rfl ?_
   refine W_move rfl rfl ?_
   refine W_nil ?_
   refine W_again (i+1,Hi') ⟨by show i+1≤q.length; omega,hJ'⟩ (by show q.length - (i+1) < q.length - i; omega) (sub_cons rfl (sub_cons rfl (sub_cons rfl (sub_cons rfl (sub_nil _))))) rfl (HSub.refl _)
  ·skip
   refine W_hsub hsub ?_
   refine W_not rfl rfl ?_
   refine W_nil ?_
   refine W_condT rfl rfl ?_
   refine W_ret0m Tryz.results315 (.nil _) (.refl _) ?_
   exact ⟨Hi',.refl _,.inr hS'⟩
 ·skip
  refine W_exit rfl ?_
  refine W_end0m Tryz.results315 (.nil _) (.refl _) ?_
  obtain rfl:i=q.length:=by omega
  exact ⟨Hi,.refl _,.inl hJi⟩
def firstU (q:List Int):Value:=match q[0]? with
 | some z => .tuple #[(Value.int .u64) z,.bool true]
 | none => .tuple #[(.int .u64 0),.bool false]
theorem firstU_L {w0:World} {H HB:Heap} {bl cap:Nat} {ad:Option Addr} {q:List Int} (hq:q.length≤4611686018427387904) (hrow:Holds w0 ((bl,.cells 84 1 [.slice ad q.length cap])::(HB++[])) ad (q.map (Value.int .u64))) :
  LCalls Tryz.prog w0 238 #[.func (.func 315) #[] #[.pointer (some ⟨bl,0,none⟩)]] ((bl,.cells 84 1 [.slice ad q.length cap])::(HB++H)) (fun v H' => v=firstU q∧H'=(bl,.cells 84 1 [.slice ad q.length cap])::(HB++H)):=by
 refine L_enter (l:=[.func (.func 315) #[] #[.pointer (some ⟨bl,0,none⟩)]]) Tryz.func238 rfl Tryz.ntmps238 rfl rfl ?_
 refine W_sr ?_
 refine W_alloc ty30 rfl rfl (fun b2 => ?_)
 refine W_alloc ty4 rfl rfl (fun b3 => ?_)
 refine W_nil (W_seq (W_sr ?_))
 refine W_move rfl rfl ?_
 refine W_nil (W_block ?_)
 refine W_rangeFunc rfl Tryz.call315 ?_
 intro lp D r hst hpd hps hasg hbody hA
 have hr:=loop_ready hst hpd
 show LCalls _ _ _ #[_,_] _ _
 refine ((seqU_iter (HB:=HB) (bl:=bl) (ad:=ad) (cap:=cap) (q:=q) (H:=(lp,.obj (.loop r))::(D,.obj (.deferred (some [])))::(b3,.cells 4 1 [.bool false])::(b2,.cells 30 1 [(.int .u64 0)])::H) (fun i Hi => i=0∧Hi=(lp,.obj (.loop r))::(D,.obj (.deferred (some [])))::(b3,.cells 4 1 [.bool false])::(b2,.cells 30 1 [(.int .u64 0)])::H) (fun Hi => ∃ z,q[0]?=some z∧Hi=(lp,.obj (.loop (Loop.at r .done (some .ret))))::(D,.obj (.deferred (some [])))::(b3,.cells 4 1 [.bool true])::(b2,.cells 30 1 [(Value.int .u64) z])::H) hq hrow ?_ ⟨rfl,rfl⟩).hsub zH).mono ?_
 ·intro i z Hi hz hJ
  obtain ⟨rfl,rfl⟩:=hJ
  refine round_intro hst hpd hA hps rfl hasg rfl rfl rfl zT ?_
  refine W_region ?_
  refine W_assign rfl rfl ?_
  refine W_nil ?_
  refine W_begin hst hpd zT hbody ?_
  refine W_block (W_sr ?_)
  refine W_move rfl rfl ?_
  refine W_store (l':=[(Value.int .u64) z]) rfl rfl ty30 rfl rfl (b:=b2) zM rfl rfl zU ?_
  refine W_store (l':=[.bool true]) rfl rfl ty4 rfl rfl (b:=b3) zM rfl rfl zU ?_
  refine W_nil ?_
  refine W_retround zT ?_
  exact ⟨(lp,.obj (.loop (Loop.at r .done (some .ret))))::(D,.obj (.deferred (some [])))::(b3,.cells 4 1 [.bool true])::(b2,.cells 30 1 [(Value.int .u64) z])::H,zH,.inr ⟨rfl,z,hz,rfl⟩⟩
  skip
 ·intro _ H' hp
  obtain ⟨Hi',hs,hJS⟩:=hp
  rcases hJS with ⟨hq0,rfl⟩ | ⟨z,hz,rfl⟩
  case inr =>
   refine ⟨.done,some .ret,(bl,.cells 84 1 [.slice ad q.length cap])::(HB++((D,.obj (.deferred (some [])))::(b3,.cells 4 1 [.bool true])::(b2,.cells 30 1 [(Value.int .u64) z])::H)),hs.trans zH,by decide,?_⟩
   show W _ _ _ _ _ _ _ _ _
   refine W_ret2G (H2:=(bl,.cells 84 1 [.slice ad q.length cap])::(HB++H)) Tryz.results238 (.cons zT (.nil _)) (.one rfl ty30 rfl (Cell.own (b:=b2) zM rfl)) (.one rfl ty4 rfl (Cell.own (b:=b3) zM rfl)) zH ?_
   exact ⟨by unfold firstU; rw [hz],rfl⟩
  refine ⟨.ready,none,(bl,.cells 84 1 [.slice ad q.length cap])::(HB++((D,.obj (.deferred (some [])))::(b3,.cells 4 1 [.bool false])::(b2,.cells 30 1 [(.int .u64 0)])::H)),by rw [hr]; exact hs.trans zH,by decide,?_⟩
  show W _ _ _ _ _ _ _ _ _
  refine W_blk ?_
  refine W_sr ?_
  refine W_assign rfl rfl ?_
  refine W_nil (W_sr ?_)
  refine W_move rfl rfl ?_
  refine W_store (l':=[(.int .u64 0)]) rfl rfl ty30 rfl rfl (b:=b2) zM rfl rfl zU ?_
  refine W_store (l':=[.bool false]) rfl rfl ty4 rfl rfl (b:=b3) zM rfl rfl zU ?_
  refine W_nil ?_
  refine W_ret2G (H2:=(bl,.cells 84 1 [.slice ad q.length cap])::(HB++H)) Tryz.results238 (.cons zT (.nil _)) (.one rfl ty30 rfl (Cell.own (b:=b2) zM rfl)) (.one rfl ty4 rfl (Cell.own (b:=b3) zM rfl)) zH ?_
  have hn:q=[]:=List.eq_nil_of_length_eq_zero hq0
  subst hn
  exact ⟨rfl,rfl⟩
def fstU (q:List Int):Value:=match q[0]? with
 | some z => (Value.int .u64) z
 | none => (.int .u64 0)
theorem firstU_eq (q:List Int):firstU q=.tuple #[fstU q,.bool (!q.isEmpty)]:=by
 unfold firstU fstU
 cases q <;> rfl
theorem OldestU_L {w0:World} {H:Heap} {room last c bo bm:Nat} {m:List Int} {l:Ents Int} {τ:Int→Nat} (hO:OrdIs room m last l c τ) (h64:room≤64) :LCalls Tryz.prog w0 147 #[.pointer (some ⟨bo,0,none⟩)] ((bo,.cells 372 3 [.int .i64 (room:Int),.int .i64 ((last:Nat):Int),.map (some bm)])::(bm,.obj (mapO (Value.int .u64) l c))::H) (fun v H' => v=.tuple #[fstU (m),.bool (!(m).isEmpty)]∧H'=(bo,.cells 372 3 [.int .i64 (room:Int),.int .i64 ((last:Nat):Int),.map (some bm)])::(bm,.obj (mapO (Value.int .u64) l c))::H):=by
 have hml:m.length≤64:=Nat.le_trans hO.le h64
 refine L_enter (l:=[.pointer (some ⟨bo,0,none⟩)]) Tryz.func147 rfl Tryz.ntmps147 rfl rfl ?_
 refine W_sr ?_
 refine W_assign rfl rfl ?_
 refine W_assign rfl rfl ?_
 refine W_nil (W_sr ?_)
 refine W_move rfl rfl ?_
 refine W_call (.cons rfl (.cons rfl .nil)) Tryz.call224 rfl ((sortedU_L (H:=H) hO false h64).hsub zH) ?_
 rintro v H' ⟨bl,sv,HB,rfl,hS,rfl⟩
 simp only [Bool.false_eq_true,if_false] at hS
 obtain ⟨ad,cap,rfl,_,_,hrw⟩:=Holds.of_own (w0:=w0) (H:=HB++[]) hS (fun p hp => List.mem_append_left _ hp)
 refine W_call (.cons rfl .nil) Tryz.call238 rfl (firstU_L (H:=(bo,.cells 372 3 [.int .i64 (room:Int),.int .i64 ((last:Nat):Int),.map (some bm)])::(bm,.obj (mapO (Value.int .u64) l c))::H) (HB:=HB) (bl:=bl) (ad:=ad) (q:=m) (by (try rw [List.length_reverse]); omega) (hrw.up (.drop (.refl _)))) ?_
 rintro v H' ⟨rfl,rfl⟩
 rw [firstU_eq]
 refine W_extract rfl rfl rfl ?_
 refine W_extract rfl rfl rfl ?_
 refine W_assign rfl rfl ?_
 refine W_assign rfl rfl ?_
 refine W_nil ?_
 refine W_ret2m (H2:=(bo,.cells 372 3 [.int .i64 (room:Int),.int .i64 ((last:Nat):Int),.map (some bm)])::(bm,.obj (mapO (Value.int .u64) l c))::H) Tryz.results147 rfl rfl (.nil _) zH ?_
 exact ⟨rfl,rfl⟩
inductive AreH (ab:Nat) (L:List Slt):Heap→Prop
 | mk {sb u f:Nat} (hu:TellsA 1 L u) (hf:TellsA 0 L f) (hk:AreOk L):AreH ab L [(ab,.cells 345 3 [.slice (some ⟨sb,0,none⟩) L.length L.length,.int .u64 ((u:Nat):Int),.int .u64 ((f:Nat):Int)]),(sb,.cells 377 (L.length * 7) ((L).flatMap sltC))]
inductive TabH (tb room:Nat) (C:List (Int × Hd)):Heap→Prop
 | mk {cb:Nat} {vs:List Value} {Hs:List Heap} (hT:TabIs C vs Hs):TabH tb room C ((tb,.cells 348 3 [.slice (some ⟨cb,0,none⟩) 8 8,.int .i64 (room:Int),.int .i64 ((C.length:Nat):Int)])::(cb,.cells 482 8 vs)::Hs.flatten)
theorem TabH.nd {tb room:Nat} {C:List (Int × Hd)} {HT:Heap} (h:TabH tb room C HT):(keyL C).Nodup∧C.length≤64:=by
 cases h with
 | mk hT => exact ⟨hT.nd,hT.len⟩
inductive OrdH (bo room T:Nat) (m:List Int):Heap→Prop
 | mk {bm last c:Nat} {l:Ents Int} {τ:Int→Nat} (hO:OrdIs room m last l c τ) (hl:last≤T):OrdH bo room T m [(bo,.cells 372 3 [.int .i64 (room:Int),.int .i64 ((last:Nat):Int),.map (some bm)]),(bm,.obj (mapO (Value.int .u64) l c))]
theorem OrdH.up {bo room T T':Nat} {m:List Int} {HO:Heap} (h:OrdH bo room T m HO) (hl:T≤T'):OrdH bo room T' m HO:=by
 cases h with
 | mk hO h1 => exact .mk hO (Nat.le_trans h1 hl)
section
variable {w0:World} {H HA HT HO:Heap} {ab tb bo room T:Nat} {L:List Slt} {C:List (Int × Hd)} {m:List Int}
theorem AreH.put (hA:AreH ab L HA) (hTab:Tab w0) {i:Nat} {s:Slt} {c:Cel} (hfi:firstF L=some i) (hs:L[i]?=some s) :
  LCalls Tryz.prog w0 241 #[.pointer (some ⟨ab,0,none⟩),.agg (List.toArray (celC c))] (HA++H) (fun v H' => ∃ HA',AreH ab (L.set i { s with st:=1,cel:=c }) HA'∧v=.tuple #[.agg (List.toArray (hdC s.own)),.int .i64 0]∧H'=HA'++H):=by
 cases hA with
 | mk hu hf hk =>
  refine (Put_LX (ab:=ab) (H:=H) hu hf hk hfi hs (c:=c) hTab).mono ?_
  rintro v H' ⟨u',f',rfl,hu',hf',rfl⟩
  exact ⟨_,.mk hu' hf' (hk.set (hk.own i s hs)),rfl,by rw [List.length_set]; rfl⟩
theorem AreH.get (hA:AreH ab L HA) (hm:∀ p ∈ HA,p ∈ H) {h:Hd}:PureAt Tryz.prog w0 H 245 [.pointer (some ⟨ab,0,none⟩),.agg (List.toArray (hdC h))] (.tuple #[.agg (List.toArray (celC (celA L h))),.int .i64 (errA L h)]):=by
 cases hA with
 | mk hu hf hk => exact Get_q hu hk (hm _ List.mem_cons_self) (hm _ (List.mem_cons_of_mem _ List.mem_cons_self))
theorem AreH.lenq (hA:AreH ab L HA) (hm:∀ p ∈ HA,p ∈ H):PureAt Tryz.prog w0 H 125 [.pointer (some ⟨ab,0,none⟩)] (.int .i64 ((cntA 1 L:Nat):Int)):=by
 cases hA with
 | mk hu hf hk => exact LenA_q hu hk (hm _ List.mem_cons_self)
theorem AreH.roomq (hA:AreH ab L HA) (hm:∀ p ∈ HA,p ∈ H):PureAt Tryz.prog w0 H 237 [.pointer (some ⟨ab,0,none⟩)] (.int .i64 ((cntA 0 L:Nat):Int)):=by
 cases hA with
 | mk hu hf hk => exact RoomA_q hf hk (hm _ List.mem_cons_self)
theorem setAX_cel (L:List Slt) (h:Hd) (c:Cel):(AreOk L→AreOk (setAX L h (fun s => { s with cel:=c })))∧∀ n m,TellsA n L m→TellsA n (setAX L h (fun s => { s with cel:=c })) m:=by
 by_cases he:errA L h=0
 ·obtain ⟨i,s,hi,hs,hu,ho,hc,hset⟩:=errA_ok he
  rw [hset]
  exact ⟨fun hk => hk.set (hk.own i s hs),fun n m h => h.same hs Iff.rfl⟩
 ·rw [(errA_no he).2]
  exact ⟨id,fun _ _ h => h⟩
theorem AreH.set (hA:AreH ab L HA) {h:Hd} {c:Cel}:LCalls Tryz.prog w0 144 #[.pointer (some ⟨ab,0,none⟩),.agg (List.toArray (hdC h)),.agg (List.toArray (celC c))] (HA++H) (fun v H' => ∃ HA',AreH ab (setAX L h (fun s => { s with cel:=c })) HA'∧v=.int .i64 (errA L h)∧H'=HA'++H):=by
 cases hA with
 | mk hu hf hk =>
  refine (Set_LX (ab:=ab) (H:=H) hu hk (h:=h) (c:=c)).mono ?_
  rintro v H' ⟨rfl,rfl⟩
  exact ⟨_,.mk ((setAX_cel L h c).2 _ _ hu) ((setAX_cel L h c).2 _ _ hf) ((setAX_cel L h c).1 hk),rfl,by rw [setAX_len]; rfl⟩
theorem setAX_rel {L:List Slt} {h:Hd} (hk:AreOk L):AreOk (setAX L h relS):=by
 by_cases he:errA L h=0
 ·obtain ⟨i,s,hi,hs,hu,ho,hc,hset⟩:=errA_ok he
  rw [hset]; exact hk.rel hs
 ·rw [(errA_no he).2]; exact hk
theorem AreH.free (hA:AreH ab L HA) {h:Hd} {ad:Option Addr} {cap:Nat} (hrow:Holds w0 H ad (hdC h)):LCalls Tryz.prog w0 255 #[.pointer (some ⟨ab,0,none⟩),.slice ad 1 cap] (HA++H) (fun v H' => ∃ HA',AreH ab (setAX L h relS) HA'∧v=.int .i64 (errA L h)∧H'=HA'++H):=by
 cases hA with
 | mk hu hf hk =>
  refine (Free_L (ab:=ab) (H:=H) hu hf hk (h:=h) (cap:=cap) hrow).mono ?_
  rintro v H' ⟨u',f',rfl,hu',hf',rfl⟩
  exact ⟨_,.mk hu' hf' (setAX_rel hk),rfl,by rw [setAX_len]; rfl⟩
theorem AreH.new {n:Nat} (h1:1≤n) (h2:n≤64):LCalls Tryz.prog w0 170 #[.int .i64 (n:Int)] H (fun v H' => ∃ ab HA,AreH ab (newL n n) HA∧v=.tuple #[.pointer (some ⟨ab,0,none⟩),.int .i64 0]∧H'=HA++H):=by
 refine (NewA_L (w0:=w0) (H:=H) h1 h2).mono ?_
 rintro v H' ⟨ab,sb,rfl,rfl⟩
 refine ⟨ab,_,.mk (sb:=sb) newL_used (newL_free h1 h2) (newL_ok h1 h2),rfl,?_⟩
 rw [newL_len]; rfl
theorem TabH.get (hT:TabH tb room C HT) (hm:∀ p ∈ HT,p ∈ H) {k:Int}:PureAt Tryz.prog w0 H 234 [.pointer (some ⟨tb,0,none⟩),.int .u64 k] (getV (fndC C k)):=by
 cases hT with
 | mk hT => exact GetT_q hT hm
theorem TabH.lenq (hT:TabH tb room C HT) (hm:∀ p ∈ HT,p ∈ H):PureAt Tryz.prog w0 H 126 [.pointer (some ⟨tb,0,none⟩)] (.int .i64 (C.length:Int)):=by
 cases hT with
 | mk hT => exact LenT_q (hm _ List.mem_cons_self)
theorem TabH.put (hT:TabH tb room C HT) {k:Int} {h:Hd} (hk:k ∉ keyL C) (hr:C.length < room) (hr64:room≤64):LCalls Tryz.prog w0 242 #[.pointer (some ⟨tb,0,none⟩),.int .u64 k,.agg (List.toArray (hdC h))] (HT++H) (fun v H' => ∃ HT',TabH tb room ((k,h)::C) HT'∧v=.tuple #[.bool false,.int .i64 0]∧H'=HT'++H):=by
 cases hT with
 | mk hT =>
  refine (PutT_L (tb:=tb) (room:=room) (H:=H) hT (h:=h) hk hr hr64).mono ?_
  rintro v H' ⟨vs',Hs',rfl,hT',rfl⟩
  exact ⟨_,.mk hT',rfl,rfl⟩
theorem TabH.del (hT:TabH tb room C HT) {k:Int} {ad:Option Addr} {kc:Nat} (hrow:Holds w0 H ad [.int .u64 k]):LCalls Tryz.prog w0 239 #[.pointer (some ⟨tb,0,none⟩),.slice ad 1 kc] (HT++H) (fun v H' => ∃ HT',TabH tb room (delC C k) HT'∧v=.int .i64 (cntIn C k:Int)∧H'=HT'++H):=by
 cases hT with
 | mk hT =>
  refine (DelT_L (tb:=tb) (room:=room) (H:=H) hT (k:=k) (kc:=kc) hrow).mono ?_
  rintro v H' ⟨vs',Hs',rfl,hT',rfl⟩
  exact ⟨_,.mk hT',rfl,rfl⟩
theorem TabH.new {room:Nat} (h1:1≤room) (h2:room≤64):LCalls Tryz.prog w0 171 #[.int .i64 8,.int .i64 (room:Int)] H (fun v H' => ∃ tb HT,TabH tb room [] HT∧v=.tuple #[.pointer (some ⟨tb,0,none⟩),.int .i64 0]∧H'=HT++H):=by
 refine (NewT_L (w0:=w0) (H:=H) h1 h2).mono ?_
 rintro v H' ⟨tb,cb,rfl,rfl⟩
 exact ⟨tb,_,.mk TabIs.nil,rfl,rfl⟩
theorem touch_ok {m:List Int} {room:Nat} {k:Int} (h:k ∈ m∨m.length < room):touchL m room [k]=(drop1O m k++[k],0):=by
 have e:touch1 m room k=(drop1O m k++[k],0):=if_neg (fun h2 => by rcases h with h | h; exact h2.1 h; omega)
 show (if (touch1 m room k).2=0 then touchL (touch1 m room k).1 room [] else (m,3))=_
 rw [e]; rfl
theorem OrdH.touch (hO:OrdH bo room T m HO) (hT:T≤1000000) {k:Int} {ad:Option Addr} {cap:Nat} (hk:k ∈ m∨m.length < room) (hrow:Holds w0 H ad [.int .u64 k]):LCalls Tryz.prog w0 143 #[.pointer (some ⟨bo,0,none⟩),.slice ad 1 cap] (HO++H) (fun v H' => ∃ HO',OrdH bo room (T+1) (drop1O m k++[k]) HO'∧v=.int .i64 0∧H'=HO'++H):=by
 cases hO with
 | mk hO hl =>
  refine (touchU_L (bo:=bo) (H:=H) hO (ks:=[k]) (cap:=cap) (by show _+1≤_; omega) hrow).mono ?_
  rintro v H' ⟨last',l',c',τ',rfl,hO',hl',rfl⟩
  rw [touch_ok hk] at hO' ⊢
  exact ⟨_,.mk hO' (by have:last'≤_+1:=hl'; omega),rfl,rfl⟩
theorem OrdH.drop (hO:OrdH bo room T m HO) {k:Int}:LCalls Tryz.prog w0 240 #[.pointer (some ⟨bo,0,none⟩),.int .u64 k] (HO++H) (fun v H' => ∃ HO',OrdH bo room T (drop1O m k) HO'∧v=.bool (inO m k)∧H'=HO'++H):=by
 cases hO with
 | mk hO hl =>
  refine (dropU_L (bo:=bo) (H:=H) hO k).mono ?_
  rintro v H' ⟨l',rfl,hO',rfl⟩
  exact ⟨_,.mk hO' hl,rfl,rfl⟩
theorem OrdH.oldest (hO:OrdH bo room T m HO) (h64:room≤64):LCalls Tryz.prog w0 147 #[.pointer (some ⟨bo,0,none⟩)] (HO++H) (fun v H' => v=.tuple #[fstU m,.bool (!m.isEmpty)]∧H'=HO++H):=by
 cases hO with
 | mk hO hl => exact OldestU_L (bo:=bo) (H:=H) hO h64
theorem OrdH.new {room:Nat} (hz:1≤room∧room≤64):LCalls Tryz.prog w0 172 #[.int .i64 (room:Int)] H (fun v H' => ∃ bo HO,OrdH bo room (0) [] HO∧v=.tuple #[.pointer (some ⟨bo,0,none⟩),.int .i64 0]∧H'=HO++H):=by
 refine (newU_L (w0:=w0) (H:=H) hz).mono ?_
 rintro v H' ⟨bo,bm,rfl,rfl⟩
 exact ⟨bo,_,.mk (OrdIs.nil room 0 (fun _ => 0)) (Nat.le_refl _),rfl,rfl⟩
end
theorem link_at {w0:World} {H:Heap} {mb ab tb bo T kind entries words:Nat} {closed:Bool} {L:List Slt} {C:List (Int × Hd)} {used:List Int} {HA HT HO:Heap} (hA:AreH ab L HA) (hB:TabH tb entries C HT) (hO:OrdH bo entries T used HO) (hTl:T≤1000000) (he:entries≤64) {i:Nat} {s:Slt} {c:Cel} (hfi:firstF L=some i) (hs:L[i]?=some s) (hk:c.key ∉ keyL C) (hr:C.length < entries) (hru:used.length < entries) (hTab:Tab w0):LCalls Tryz.prog w0 149 #[.pointer (some ⟨mb,0,none⟩),.agg (List.toArray (celC c))] ((mb,.cells 217 7 [.int .i64 (kind:Int),.int .i64 (entries:Int),.int .i64 (words:Int),.pointer (some ⟨ab,0,none⟩),.pointer (some ⟨tb,0,none⟩),.pointer (some ⟨bo,0,none⟩),.bool closed])::(HA++(HT++(HO++H)))) (fun v H' => ∃ HA' HT' HO',AreH ab (L.set i { s with st:=1,cel:=c }) HA'∧TabH tb entries ((c.key,s.own)::C) HT'∧OrdH bo entries (T+1) (drop1O used c.key++[c.key]) HO'∧v=.tuple #[.agg (List.toArray (hdC s.own)),.int .i64 0]∧H'=(mb,.cells 217 7 [.int .i64 (kind:Int),.int .i64 (entries:Int),.int .i64 (words:Int),.pointer (some ⟨ab,0,none⟩),.pointer (some ⟨tb,0,none⟩),.pointer (some ⟨bo,0,none⟩),.bool closed])::(HA'++(HT'++(HO'++H)))):=by
 refine L_enter (l:=[.pointer (some ⟨mb,0,none⟩),.agg (List.toArray (celC c))]) Tryz.func149 rfl Tryz.ntmps149 rfl rfl ?_
 refine W_sr ?_
 refine W_box rfl rfl rfl (fun b3 => ?_)
 refine W_alloc (l:=hdC zHd) ty40 rfl rfl (fun b4 => ?_)
 refine W_assign rfl rfl ?_
 refine W_nil (W_seq ?_)
 refine W_cutX (X:=(Heap × Nat)) (fun x => [(0,.pointer (some ⟨mb,0,none⟩)),(3,.pointer (some ⟨b3,0,none⟩)),(4,.pointer (some ⟨b4,0,none⟩)),(6,.pointer (some ⟨x.2,0,none⟩)),(7,.int .i64 0)]) (fun x => (x.2,.cells 40 2 (hdC s.own))::(b4,.cells 40 2 (hdC zHd))::(b3,.cells 220 5 (celC c))::(mb,.cells 217 7 [.int .i64 (kind:Int),.int .i64 (entries:Int),.int .i64 (words:Int),.pointer (some ⟨ab,0,none⟩),.pointer (some ⟨tb,0,none⟩),.pointer (some ⟨bo,0,none⟩),.bool closed])::(x.1++(HT++(HO++H)))) (fun x => AreH ab (L.set i { s with st:=1,cel:=c }) x.1) ?_ ?_
 ·skip
  refine W_anyC [(mb,.cells 217 7 [.int .i64 (kind:Int),.int .i64 (entries:Int),.int .i64 (words:Int),.pointer (some ⟨ab,0,none⟩),.pointer (some ⟨tb,0,none⟩),.pointer (some ⟨bo,0,none⟩),.bool closed]),(b3,.cells 220 5 (celC c))] zk ?_
  refine WC_take 0 rfl zK zK zK rfl rfl (X_move rfl) rfl ?_
  refine WC_take 1 rfl zK zK zK rfl rfl (X_nilCheck rfl) rfl ?_
  refine WC_take 2 rfl zK zK zK rfl rfl (X_fieldAddr rfl fld217_3 zd) rfl ?_
  refine WC_take 3 rfl zK zK zK rfl rfl (X_load (v:=.pointer (some ⟨ab,0,none⟩)) rfl ty213 rfl (Cell.own (b:=mb) zM rfl)) rfl ?_
  refine WC_take 4 rfl zK zK zK rfl rfl (X_loadB (vs:=celC (c)) rfl ty220 rfl (b:=b3) zM rfl rfl) rfl ?_
  refine WC_two 5 9 (l':=#[true,true,true,true,true,true,false,false,false,false,false,false]) (l'':=#[true,true,true,true,true,false,false,false,false,true,false,false]) zH zK rfl rfl zK zK ?_ ?_
  ·skip
   refine W_call (.cons rfl (.cons rfl .nil)) Tryz.call241 rfl ((hA.put hTab hfi hs (c:=c) (H:=(mb,.cells 217 7 [.int .i64 (kind:Int),.int .i64 (entries:Int),.int .i64 (words:Int),.pointer (some ⟨ab,0,none⟩),.pointer (some ⟨tb,0,none⟩),.pointer (some ⟨bo,0,none⟩),.bool closed])::(HT++(HO++((b4,.cells 40 2 (hdC zHd))::(b3,.cells 220 5 (celC c))::H))))).hsub zH) ?_
   rintro v H' ⟨HA2,hA2,rfl,rfl⟩
   refine W_nil ?_
   refine WC_goal ?_
   refine WC_take 6 rfl zK zK zK rfl rfl (X_move rfl) rfl ?_
   refine WC_take 7 rfl zK zK zK rfl rfl (X_extract rfl rfl) rfl ?_
   refine WC_take 8 rfl zK zK zK rfl rfl (X_extract rfl rfl) rfl ?_
   refine WC_one 9 zH zK rfl rfl ?_
   refine W_alloc (l:=hdC zHd) ty40 rfl rfl (fun b6 => ?_)
   refine W_nil ?_
   refine WC_goal ?_
   refine WC_one 10 zH zK rfl rfl ?_
   refine W_storeA (l':=hdC s.own) rfl rfl ty40 rfl rfl (b:=b6) zM (by exact Nat.le_refl 2) rfl zU ?_
   refine W_nil ?_
   refine WC_goal ?_
   refine WC_take 11 rfl zK zK zK rfl rfl (X_assign rfl) rfl ?_
   refine WC_done zH zK ?_
   refine W_joinX (HA2,b6) hA2 (sub_cons rfl (sub_cons rfl (sub_cons rfl (sub_cons rfl (sub_cons rfl (sub_nil _)))))) zH
  ·skip
   refine W_alloc (l:=hdC zHd) ty40 rfl rfl (fun b6 => ?_)
   refine W_nil ?_
   refine WC_goal ?_
   refine WC_one 5 zH zK rfl rfl ?_
   refine W_call (.cons rfl (.cons rfl .nil)) Tryz.call241 rfl ((hA.put hTab hfi hs (c:=c) (H:=(b6,.cells 40 2 (hdC zHd))::(mb,.cells 217 7 [.int .i64 (kind:Int),.int .i64 (entries:Int),.int .i64 (words:Int),.pointer (some ⟨ab,0,none⟩),.pointer (some ⟨tb,0,none⟩),.pointer (some ⟨bo,0,none⟩),.bool closed])::(HT++(HO++((b4,.cells 40 2 (hdC zHd))::(b3,.cells 220 5 (celC c))::H))))).hsub zH) ?_
   rintro v H' ⟨HA2,hA2,rfl,rfl⟩
   refine W_nil ?_
   refine WC_goal ?_
   refine WC_take 6 rfl zK zK zK rfl rfl (X_move rfl) rfl ?_
   refine WC_take 7 rfl zK zK zK rfl rfl (X_extract rfl rfl) rfl ?_
   refine WC_take 8 rfl zK zK zK rfl rfl (X_extract rfl rfl) rfl ?_
   refine WC_one 10 zH zK rfl rfl ?_
   refine W_storeA (l':=hdC s.own) rfl rfl ty40 rfl rfl (b:=b6) zM (by exact Nat.le_refl 2) rfl zU ?_
   refine W_nil ?_
   refine WC_goal ?_
   refine WC_take 11 rfl zK zK zK rfl rfl (X_assign rfl) rfl ?_
   refine WC_done zH zK ?_
   refine W_joinX (HA2,b6) hA2 (sub_cons rfl (sub_cons rfl (sub_cons rfl (sub_cons rfl (sub_cons rfl (sub_nil _)))))) zH
 rintro ⟨HA2,b6⟩ hA2
 dsimp only at hA2 ⊢
 refine W_seq (W_sr ?_)
 refine W_move rfl rfl ?_
 refine W_bin rfl rfl b_neq rfl ?_
 refine W_nil ?_
 refine W_condF rfl rfl ?_
 refine W_skip (W_seq ?_)
 refine W_anyC [(mb,.cells 217 7 [.int .i64 (kind:Int),.int .i64 (entries:Int),.int .i64 (words:Int),.pointer (some ⟨ab,0,none⟩),.pointer (some ⟨tb,0,none⟩),.pointer (some ⟨bo,0,none⟩),.bool closed]),(b3,.cells 220 5 (celC c)),(b6,.cells 40 2 (hdC s.own))] zk ?_
 refine WC_take 0 rfl zK zK zK rfl rfl (X_move rfl) rfl ?_
 refine WC_take 1 rfl zK zK zK rfl rfl (X_nilCheck rfl) rfl ?_
 refine WC_take 2 rfl zK zK zK rfl rfl (X_fieldAddr rfl fld217_4 zd) rfl ?_
 refine WC_take 3 rfl zK zK zK rfl rfl (X_load (v:=.pointer (some ⟨tb,0,none⟩)) rfl ty214 rfl (Cell.own (b:=mb) zM rfl)) rfl ?_
 refine WC_take 4 rfl zK zK zK rfl rfl (X_fieldAddr rfl fld220_0 zd) rfl ?_
 refine WC_take 5 rfl zK zK zK rfl rfl (X_load (v:=.int .u64 c.key) rfl ty30 rfl (Cell.own (b:=b3) zM rfl)) rfl ?_
 refine WC_take 6 rfl zK zK zK rfl rfl (X_loadB (vs:=hdC s.own) rfl ty40 rfl (b:=b6) zM rfl rfl) rfl ?_
 refine WC_one 7 zH zK rfl rfl ?_
 refine W_call (.cons rfl (.cons rfl (.cons rfl .nil))) Tryz.call242 rfl ((hB.put (h:=s.own) hk hr he (H:=(b6,.cells 40 2 (hdC s.own))::(b4,.cells 40 2 (hdC zHd))::(b3,.cells 220 5 (celC c))::(mb,.cells 217 7 [.int .i64 (kind:Int),.int .i64 (entries:Int),.int .i64 (words:Int),.pointer (some ⟨ab,0,none⟩),.pointer (some ⟨tb,0,none⟩),.pointer (some ⟨bo,0,none⟩),.bool closed])::(HA2++(HO++H)))).hsub zH) ?_
 rintro v H' ⟨HT2,hB2,rfl,rfl⟩
 refine W_nil ?_
 refine WC_goal ?_
 refine WC_done zH zK ?_
 refine W_seq ?_
 refine W_anyC [(mb,.cells 217 7 [.int .i64 (kind:Int),.int .i64 (entries:Int),.int .i64 (words:Int),.pointer (some ⟨ab,0,none⟩),.pointer (some ⟨tb,0,none⟩),.pointer (some ⟨bo,0,none⟩),.bool closed]),(b3,.cells 220 5 (celC c))] zk ?_
 refine WC_take 0 rfl zK zK zK rfl rfl (X_move rfl) rfl ?_
 refine WC_take 1 rfl zK zK zK rfl rfl (X_nilCheck rfl) rfl ?_
 refine WC_take 2 rfl zK zK zK rfl rfl (X_fieldAddr rfl fld217_5 zd) rfl ?_
 refine WC_take 3 rfl zK zK zK rfl rfl (X_load (v:=.pointer (some ⟨bo,0,none⟩)) rfl ty215 rfl (Cell.own (b:=mb) zM rfl)) rfl ?_
 refine WC_take 4 rfl zK zK zK rfl rfl (X_fieldAddr rfl fld220_0 zd) rfl ?_
 refine WC_take 5 rfl zK zK zK rfl rfl (X_load (v:=.int .u64 c.key) rfl ty30 rfl (Cell.own (b:=b3) zM rfl)) rfl ?_
 refine WC_one 6 zH zK rfl rfl ?_
 refine W_buildSlice (l:=[.int .u64 c.key]) ty84 ty30 (.cons rfl rfl rfl rfl rfl .nil) rfl rfl rfl rfl rfl rfl rfl (fun b34 => ?_)
 refine W_nil ?_
 refine WC_goal ?_
 refine WC_one 7 zH zK rfl rfl ?_
 refine W_call (.cons rfl (.cons rfl .nil)) Tryz.call143 rfl ((hO.touch hTl (k:=c.key) (cap:=1) (.inr hru) (Holds.own (b:=b34) zM) (H:=(b34,.cells 30 (1 * 1) [.int .u64 c.key])::(b6,.cells 40 2 (hdC s.own))::(b4,.cells 40 2 (hdC zHd))::(b3,.cells 220 5 (celC c))::(mb,.cells 217 7 [.int .i64 (kind:Int),.int .i64 (entries:Int),.int .i64 (words:Int),.pointer (some ⟨ab,0,none⟩),.pointer (some ⟨tb,0,none⟩),.pointer (some ⟨bo,0,none⟩),.bool closed])::(HA2++(HT2++H)))).hsub zH) ?_
 rintro v H' ⟨HO2,hO2,rfl,rfl⟩
 refine W_nil ?_
 refine WC_goal ?_
 refine WC_done zH zK ?_
 refine W_sr ?_
 refine W_loadB (vs:=hdC s.own) rfl ty40 rfl (b:=b6) zM rfl rfl rfl ?_
 refine W_storeA (l':=hdC s.own) rfl rfl ty40 rfl rfl (b:=b4) zM (by exact Nat.le_refl 2) rfl zU ?_
 refine W_assign rfl rfl ?_
 refine W_nil ?_
 refine W_ret2G (H2:=(mb,.cells 217 7 [.int .i64 (kind:Int),.int .i64 (entries:Int),.int .i64 (words:Int),.pointer (some ⟨ab,0,none⟩),.pointer (some ⟨tb,0,none⟩),.pointer (some ⟨bo,0,none⟩),.bool closed])::(HA2++(HT2++(HO2++H)))) Tryz.results149 (.nil _) (.own (vs:=hdC s.own) rfl ty40 rfl (b:=b4) zM rfl) (.tmp rfl) zH ?_
 exact ⟨HA2,HT2,HO2,hA2,hB2,hO2,rfl,rfl⟩
theorem unlink_at {w0:World} {H:Heap} {mb ab tb bo T kind entries words:Nat} {closed:Bool} {C:List (Int × Hd)} {used:List Int} {HA HT HO:Heap} (hB:TabH tb entries C HT) (hO:OrdH bo entries T used HO) {k:Int} :LCalls Tryz.prog w0 148 #[.pointer (some ⟨mb,0,none⟩),.int .u64 k] ((mb,.cells 217 7 [.int .i64 (kind:Int),.int .i64 (entries:Int),.int .i64 (words:Int),.pointer (some ⟨ab,0,none⟩),.pointer (some ⟨tb,0,none⟩),.pointer (some ⟨bo,0,none⟩),.bool closed])::(HA++(HT++(HO++H)))) (fun v H' => ∃ HT' HO',TabH tb entries (delC C k) HT'∧OrdH bo entries T (drop1O used k) HO'∧v=.agg (List.toArray (hdC ((fndC C k).getD zHd)))∧H'=(mb,.cells 217 7 [.int .i64 (kind:Int),.int .i64 (entries:Int),.int .i64 (words:Int),.pointer (some ⟨ab,0,none⟩),.pointer (some ⟨tb,0,none⟩),.pointer (some ⟨bo,0,none⟩),.bool closed])::(HA++(HT'++(HO'++H)))):=by
 refine L_enter (l:=[.pointer (some ⟨mb,0,none⟩),.int .u64 k]) Tryz.func148 rfl Tryz.ntmps148 rfl rfl ?_
 refine W_sr ?_
 refine W_alloc (l:=hdC zHd) ty40 rfl rfl (fun b4 => ?_)
 refine W_nil (W_sr ?_)
 refine W_move rfl rfl ?_
 refine W_nilCheck rfl rfl ?_
 refine W_fieldAddr rfl fld217_4 zd rfl ?_
 refine W_load (v:=.pointer (some ⟨tb,0,none⟩)) rfl ty214 rfl (Cell.own (b:=mb) zM rfl) rfl ?_
 refine W_move rfl rfl ?_
 refine W_callq (.cons rfl (.cons rfl .nil)) Tryz.call234 rfl (hB.get (k:=k) (fun p hp => by repeat (first | exact List.mem_append_left _ hp | apply List.mem_cons_of_mem | apply List.mem_append_right))) ?_
 obtain ⟨g,hg⟩:∃ g,g=(fndC C k).getD zHd:=⟨_,rfl⟩
 unfold getV
 rw [← hg]
 refine W_move rfl rfl ?_
 refine W_extract rfl rfl rfl ?_
 refine W_extract rfl rfl rfl ?_
 refine W_alloc (l:=hdC zHd) ty40 rfl rfl (fun b5 => ?_)
 refine W_storeA (l':=hdC g) rfl rfl ty40 rfl rfl (b:=b5) zM (by exact Nat.le_refl 2) rfl zU ?_
 refine W_assign rfl rfl ?_
 refine W_nil (W_sr ?_)
 refine W_move rfl rfl ?_
 refine W_nilCheck rfl rfl ?_
 refine W_fieldAddr rfl fld217_4 zd rfl ?_
 refine W_load (v:=.pointer (some ⟨tb,0,none⟩)) rfl ty214 rfl (Cell.own (b:=mb) zM rfl) rfl ?_
 refine W_move rfl rfl ?_
 refine W_buildSlice (l:=[.int .u64 k]) ty84 ty30 (.cons rfl rfl rfl rfl rfl .nil) rfl rfl rfl rfl rfl rfl rfl (fun b21 => ?_)
 refine W_call (.cons rfl (.cons rfl .nil)) Tryz.call239 rfl ((hB.del (k:=k) (kc:=1) (Holds.own (b:=b21) zM) (H:=(b21,.cells 30 (1 * 1) [.int .u64 k])::(b5,.cells 40 2 (hdC g))::(b4,.cells 40 2 (hdC zHd))::(mb,.cells 217 7 [.int .i64 (kind:Int),.int .i64 (entries:Int),.int .i64 (words:Int),.pointer (some ⟨ab,0,none⟩),.pointer (some ⟨tb,0,none⟩),.pointer (some ⟨bo,0,none⟩),.bool closed])::(HA++(HO++H)))).hsub zH) ?_
 rintro v H' ⟨HT2,hB2,rfl,rfl⟩
 refine W_nil (W_sr ?_)
 refine W_move rfl rfl ?_
 refine W_nilCheck rfl rfl ?_
 refine W_fieldAddr rfl fld217_5 zd rfl ?_
 refine W_load (v:=.pointer (some ⟨bo,0,none⟩)) rfl ty215 rfl (Cell.own (b:=mb) zM rfl) rfl ?_
 refine W_move rfl rfl ?_
 refine W_call (.cons rfl (.cons rfl .nil)) Tryz.call240 rfl ((hO.drop (k:=k) (H:=(b21,.cells 30 (1 * 1) [.int .u64 k])::(b5,.cells 40 2 (hdC g))::(b4,.cells 40 2 (hdC zHd))::(mb,.cells 217 7 [.int .i64 (kind:Int),.int .i64 (entries:Int),.int .i64 (words:Int),.pointer (some ⟨ab,0,none⟩),.pointer (some ⟨tb,0,none⟩),.pointer (some ⟨bo,0,none⟩),.bool closed])::(HA++(HT2++H)))).hsub zH) ?_
 rintro v H' ⟨HO2,hO2,rfl,rfl⟩
 refine W_nil (W_sr ?_)
 refine W_loadB (vs:=hdC g) rfl ty40 rfl (b:=b5) zM rfl rfl rfl ?_
 refine W_storeA (l':=hdC g) rfl rfl ty40 rfl rfl (b:=b4) zM (by exact Nat.le_refl 2) rfl zU ?_
 refine W_nil ?_
 refine W_ret1cO (H2:=(mb,.cells 217 7 [.int .i64 (kind:Int),.int .i64 (entries:Int),.int .i64 (words:Int),.pointer (some ⟨ab,0,none⟩),.pointer (some ⟨tb,0,none⟩),.pointer (some ⟨bo,0,none⟩),.bool closed])::(HA++(HT2++(HO2++H)))) Tryz.results148 rfl (.nil _) ty40 rfl (b:=b4) zM rfl zH ?_
 exact ⟨HT2,HO2,hB2,hO2,by rw [hg],rfl⟩
theorem Look_q {w0:World} {H:Heap} {mb ab tb bo kind entries words:Nat} {closed:Bool} {C:List (Int × Hd)} {HA HT HO:Heap} (hB:TabH tb entries C HT) {k:Int} (hm:∀ p ∈ ((mb,.cells 217 7 [.int .i64 (kind:Int),.int .i64 (entries:Int),.int .i64 (words:Int),.pointer (some ⟨ab,0,none⟩),.pointer (some ⟨tb,0,none⟩),.pointer (some ⟨bo,0,none⟩),.bool closed])::(HA++(HT++HO))),p ∈ H) :PureAt Tryz.prog w0 H 142 [.pointer (some ⟨mb,0,none⟩),.int .u64 k] (.tuple #[.agg (List.toArray (hdC ((fndC C k).getD zHd))),.int .i64 (if (fndC C k).isSome then 0 else 4)]):=by
 refine L_enter Tryz.func142 rfl Tryz.ntmps142 rfl rfl ?_
 refine W_sr ?_
 refine W_alloc (l:=hdC zHd) ty40 rfl rfl (fun b4 => ?_)
 refine W_assign rfl rfl ?_
 refine W_nil (W_seq (W_sr ?_))
 refine W_move rfl rfl ?_
 refine W_x (X_ptrNil rfl rfl ty65) (fun _ h => by cases h) rfl ?_
 refine W_nil ?_
 refine W_condF rfl rfl ?_
 refine W_skip (W_sr ?_)
 refine W_move rfl rfl ?_
 refine W_nilCheck rfl rfl ?_
 refine W_fieldAddr rfl fld217_4 zd rfl ?_
 refine W_load (v:=.pointer (some ⟨tb,0,none⟩)) rfl ty214 rfl (Cell.own (b:=mb) (by repeat (first | exact hm _ List.mem_cons_self | apply List.mem_cons_of_mem)) rfl) rfl ?_
 refine W_move rfl rfl ?_
 refine W_callq (.cons rfl (.cons rfl .nil)) Tryz.call234 rfl (hB.get (k:=k) (fun p hp => by repeat (first | exact hm p (List.mem_cons_of_mem _ (List.mem_append_right _ (List.mem_append_left _ hp))) | apply List.mem_cons_of_mem))) ?_
 unfold getV
 rcases hf:fndC C k with _ | g
 ·skip
  simp only [Option.getD_none,Option.isSome_none]
  refine W_move rfl rfl ?_
  refine W_extract rfl rfl rfl ?_
  refine W_extract rfl rfl rfl ?_
  refine W_alloc (l:=hdC zHd) ty40 rfl rfl (fun b6 => ?_)
  refine W_storeA (l':=hdC zHd) rfl rfl ty40 rfl rfl (b:=b6) zM (by exact Nat.le_refl 2) rfl zU ?_
  refine W_assign rfl rfl ?_
  refine W_nil (W_seq (W_sr ?_))
  refine W_move rfl rfl ?_
  refine W_not rfl rfl ?_
  refine W_nil ?_
  refine W_condT rfl rfl ?_
  refine W_sr ?_
  refine W_build (l:=hdC zHd) ty40 pl40 .nil rfl rfl rfl ?_
  refine W_storeA (l':=hdC zHd) rfl rfl ty40 rfl rfl (b:=b4) zM (by exact Nat.le_refl 2) rfl zU ?_
  refine W_assign rfl rfl ?_
  refine W_nil ?_
  refine W_ret2G (H2:=H) Tryz.results142 (.nil _) (.own (vs:=hdC zHd) rfl ty40 rfl (b:=b4) zM rfl) (.tmp rfl) zH ?_
  exact ⟨rfl,rfl⟩
 ·skip
  simp only [Option.getD_some,Option.isSome_some]
  refine W_move rfl rfl ?_
  refine W_extract rfl rfl rfl ?_
  refine W_extract rfl rfl rfl ?_
  refine W_alloc (l:=hdC zHd) ty40 rfl rfl (fun b6 => ?_)
  refine W_storeA (l':=hdC g) rfl rfl ty40 rfl rfl (b:=b6) zM (by exact Nat.le_refl 2) rfl zU ?_
  refine W_assign rfl rfl ?_
  refine W_nil (W_seq (W_sr ?_))
  refine W_move rfl rfl ?_
  refine W_not rfl rfl ?_
  refine W_nil ?_
  refine W_condF rfl rfl ?_
  refine W_skip (W_sr ?_)
  refine W_loadB (vs:=hdC g) rfl ty40 rfl (b:=b6) zM rfl rfl rfl ?_
  refine W_storeA (l':=hdC g) rfl rfl ty40 rfl rfl (b:=b4) zM (by exact Nat.le_refl 2) rfl zU ?_
  refine W_assign rfl rfl ?_
  refine W_nil ?_
  refine W_ret2G (H2:=H) Tryz.results142 (.nil _) (.own (vs:=hdC g) rfl ty40 rfl (b:=b4) zM rfl) (.tmp rfl) zH ?_
  exact ⟨rfl,rfl⟩
theorem mem3 {a:Nat × Blk} {X Y Z H:Heap}:∀ p ∈ a::(X++(Y++Z)),p ∈ a::(X++(Y++(Z++H))):=fun p hp => by
 rcases List.mem_cons.1 hp with rfl | hp
 ·exact List.mem_cons_self
 ·refine List.mem_cons_of_mem _ ?_
  rcases List.mem_append.1 hp with hp | hp
  ·exact List.mem_append_left _ hp
  ·refine List.mem_append_right _ ?_
   rcases List.mem_append.1 hp with hp | hp
   ·exact List.mem_append_left _ hp
   ·exact List.mem_append_right _ (List.mem_append_left _ hp)
structure Xm where
 kind:Nat
 entries:Nat
 words:Nat
 closed:Bool
 L:List Slt
 C:List (Int × Hd)
 used:List Int
structure Xm.Ok (x:Xm):Prop where
 knd:x.kind≤2
 ent:1≤x.entries∧x.entries≤8
 wrd:1≤x.words∧x.words≤4
 len:x.L.length=2 * x.entries
 are:AreOk x.L
 nd:(keyL x.C).Nodup
 perm:x.used.Perm (keyL x.C)
 le:x.C.length≤x.entries
 lk:∀ p ∈ x.C,∃ (i:Nat) (s:Slt),p.2.slot=(i:Int)∧x.L[i]?=some s∧s.st=1∧s.own=p.2∧s.cel.key=p.1
 rng:∀ k ∈ keyL x.C,0≤k∧k < 18446744073709551616
def Xm.use (x:Xm) (k:Int):Xm:={ x with used:=drop1O x.used k++[k] }
def Xm.link (x:Xm) (c:Cel):Xm × Hd:=match firstF x.L with
 | some i => match x.L[i]? with
  | some s => ({ x with L:=x.L.set i { s with st:=1,cel:=c },C:=(c.key,s.own)::x.C,used:=drop1O x.used c.key++[c.key] },s.own)
  | none => (x,zHd)
 | none => (x,zHd)
def Xm.unlink (x:Xm) (k:Int):Xm × Hd:=({ x with C:=delC x.C k,used:=drop1O x.used k },(fndC x.C k).getD zHd)
def Xm.refE (x:Xm) (how:Int):Int:=if x.kind=0 then 2 else if how=2 then 4 else if x.kind=1∧x.C.length=x.entries then 3 else if cntA 0 x.L=0 then 20 else 0
structure Putt where
 h:Hd
 gone:Hd
 out:Bool
deriving DecidableEq
def puttC (p:Putt):List Value:=[.int .i64 p.h.slot,.int .i64 p.h.gen,.int .i64 p.gone.slot,.int .i64 p.gone.gen,.bool p.out]
def zPutt:Putt:=⟨zHd,zHd,false⟩
def Xm.put (x:Xm) (how k:Int) (ws:List Int):Xm × Putt × Int :=
 if (how < 0∨2 < how)∨x.words < ws.length then (x,zPutt,1)
 else if x.closed=true then (x,zPutt,22)
 else match fndC x.C k with
  | some g => if how=1 then (x,zPutt,5) else ({ x.use k with L:=setAX x.L g (fun s => { s with cel:=⟨k,W4.of ws⟩ }) },⟨g,zHd,false⟩,errA x.L g)
  | none => if x.refE how ≠ 0 then (x,zPutt,x.refE how)
   else if x.C.length=x.entries then
    (((x.unlink (x.used.headD 0)).1.link ⟨k,W4.of ws⟩).1,⟨((x.unlink (x.used.headD 0)).1.link ⟨k,W4.of ws⟩).2,(x.unlink (x.used.headD 0)).2,true⟩,0)
   else ((x.link ⟨k,W4.of ws⟩).1,⟨(x.link ⟨k,W4.of ws⟩).2,zHd,false⟩,0)
def Xm.del (x:Xm) (k:Int):Xm × Hd × Int:=if x.kind=0 then (x,zHd,17) else match fndC x.C k with
 | some _ => ((x.unlink k).1,(x.unlink k).2,0)
 | none => (x,zHd,4)
def Xm.linked (x:Xm) (h:Hd):Bool:=decide (errA x.L h=0) && decide (fndC x.C (celA x.L h).key=some h)
def Xm.free (x:Xm) (h:Hd):Xm × Int:=if errA x.L h ≠ 0 then (x,errA x.L h) else if x.linked h=true then (x,21) else ({ x with L:=setAX x.L h relS },0)
def Xm.load (x:Xm) (h:Hd) (at_:Int):Int × Int:=if errA x.L h ≠ 0 then (0,errA x.L h) else if at_ < 0∨(x.words:Int)≤at_ then (0,1) else ((celA x.L h).w.get at_.toNat,0)
def Xm.store (x:Xm) (h:Hd) (at_ v:Int):Xm × Int:=if errA x.L h ≠ 0 then (x,errA x.L h) else if at_ < 0∨(x.words:Int)≤at_ then (x,1) else ({ x with L:=setAX x.L h (fun s => { s with cel:=⟨s.cel.key,s.cel.w.put at_.toNat v⟩ }) },0)
def Xm.key (x:Xm) (h:Hd):Int × Int:=((celA x.L h).key,errA x.L h)
theorem keyL_mem {C:List (Int × Hd)} {k:Int} {g:Hd} (h:fndC C k=some g):k ∈ keyL C:=List.mem_map.2 ⟨(k,g),fndC_mem h,rfl⟩
theorem Xm.Ok.ulen {x:Xm} (h:x.Ok):x.used.length=x.C.length:=by have:=h.perm.length_eq; simpa using this
theorem Xm.Ok.und {x:Xm} (h:x.Ok):x.used.Nodup:=h.perm.nodup_iff.2 h.nd
theorem Xm.Ok.umem {x:Xm} (h:x.Ok) {k:Int}:k ∈ x.used ↔ k ∈ keyL x.C:=h.perm.mem_iff
theorem Xm.Ok.own {x:Xm} (h:x.Ok) {k:Int} {g:Hd} (hf:fndC x.C k=some g):∃ (i:Nat) (s:Slt),g.slot=(i:Int)∧x.L[i]?=some s∧s.st=1∧s.own=g∧s.cel.key=k:=h.lk (k,g) (fndC_mem hf)
theorem Xm.Ok.err0 {x:Xm} (h:x.Ok) {k:Int} {g:Hd} (hf:fndC x.C k=some g):errA x.L g=0:=by
 obtain ⟨i,s,h1,h2,h3,h4,_⟩:=h.own hf
 exact errA_is h1 h2 h3 h4
theorem Xm.Ok.use {x:Xm} (h:x.Ok) {k:Int} (hk:k ∈ x.used):(x.use k).Ok :=
 ⟨h.knd,h.ent,h.wrd,h.len,h.are,h.nd,((drop1O_perm h.und hk).symm.trans h.perm),h.le,h.lk,h.rng⟩
theorem Xm.Ok.unlink {x:Xm} (h:x.Ok) (k:Int):(x.unlink k).1.Ok:=by
 refine ⟨h.knd,h.ent,h.wrd,h.len,h.are,delC_nodup h.nd k,?_,Nat.le_trans (List.length_filter_le _ _) h.le,fun p hp => h.lk p (List.mem_filter.1 hp).1,fun k2 hk2 => ?_⟩
 ·show (drop1O x.used k).Perm (keyL (delC x.C k))
  rw [keyL_del]
  exact h.perm.filter _
 ·obtain ⟨p,hp,rfl⟩:=List.mem_map.1 hk2
  exact h.rng p.1 (List.mem_map.2 ⟨p,(List.mem_filter.1 hp).1,rfl⟩)
theorem lk_set {C:List (Int × Hd)} {L:List Slt} {i:Nat} {t:Slt} (hl:∀ p ∈ C,∃ (i:Nat) (s:Slt),p.2.slot=(i:Int)∧L[i]?=some s∧s.st=1∧s.own=p.2∧s.cel.key=p.1) (ht:∀ s,L[i]?=some s→s.st=1→t.st=1∧t.own=s.own∧t.cel.key=s.cel.key) :
  ∀ p ∈ C,∃ (j:Nat) (s:Slt),p.2.slot=(j:Int)∧(L.set i t)[j]?=some s∧s.st=1∧s.own=p.2∧s.cel.key=p.1:=fun p hp => by
 obtain ⟨j,s,h1,h2,h3,h4,h5⟩:=hl p hp
 by_cases e:i=j
 ·subst e
  obtain ⟨a1,a2,a3⟩:=ht s h2 h3
  exact ⟨i,t,h1,List.getElem?_set_self (List.getElem?_eq_some_iff.1 h2).1,a1,a2.trans h4,a3.trans h5⟩
 ·exact ⟨j,s,h1,by rw [List.getElem?_set_ne e]; exact h2,h3,h4,h5⟩
theorem Xm.link_is {x:Xm} {c:Cel} {i:Nat} {s:Slt} (hf:firstF x.L=some i) (hs:x.L[i]?=some s):x.link c=({ x with L:=x.L.set i { s with st:=1,cel:=c },C:=(c.key,s.own)::x.C,used:=drop1O x.used c.key++[c.key] },s.own):=by
 unfold Xm.link; rw [hf]; dsimp only; rw [hs]
theorem Xm.Ok.link {x:Xm} (h:x.Ok) {c:Cel} {i:Nat} {s:Slt} (hf:firstF x.L=some i) (hs:x.L[i]?=some s) (hk:c.key ∉ keyL x.C) (hr:x.C.length < x.entries) (hc:0≤c.key∧c.key < 18446744073709551616):(x.link c).1.Ok:=by
 rw [Xm.link_is hf hs]
 obtain ⟨s',hs',h0,-⟩:=firstF_some hf
 obtain rfl:s=s':=Option.some.inj (hs.symm.trans hs')
 have hi:=(List.getElem?_eq_some_iff.1 hs).1
 refine ⟨h.knd,h.ent,h.wrd,by show (x.L.set i _).length=_; rw [List.length_set]; exact h.len,h.are.set (h.are.own i s hs),List.nodup_cons.2 ⟨hk,h.nd⟩,?_,by show x.C.length+1≤x.entries; omega,fun p hp => ?_,fun k hk2 => ?_⟩
 ·show (drop1O x.used c.key++[c.key]).Perm (c.key::keyL x.C)
  rw [drop1O_not (fun hm => hk (h.umem.1 hm))]
  exact (List.perm_append_singleton _ _).trans (h.perm.cons _)
 ·rcases List.mem_cons.1 hp with rfl | hp
  ·exact ⟨i,_,(h.are.own i s hs).1,List.getElem?_set_self hi,rfl,rfl,rfl⟩
  ·exact lk_set h.lk (fun t ht h1 => by
    obtain rfl:s=t:=Option.some.inj (hs.symm.trans ht)
    omega) p hp
 ·rcases List.mem_cons.1 hk2 with rfl | hk2
  ·exact hc
  ·exact h.rng k hk2
theorem Xm.Ok.cel {x:Xm} (h:x.Ok) (g:Hd) (f:Cel→Cel) (hf:∀ c,errA x.L g=0→c=celA x.L g→(f c).key=c.key):(Xm.mk x.kind x.entries x.words x.closed (setAX x.L g (fun s => { s with cel:=f s.cel })) x.C x.used).Ok:=by
 by_cases he:errA x.L g=0
 ·obtain ⟨i,s,h1,h2,h3,h4,h5,h6⟩:=errA_ok he
  rw [h6]
  refine ⟨h.knd,h.ent,h.wrd,by show (x.L.set i _).length=_; rw [List.length_set]; exact h.len,h.are.set (h.are.own i s h2),h.nd,h.perm,h.le,lk_set h.lk (fun t ht hu => ?_),h.rng⟩
  obtain rfl:s=t:=Option.some.inj (h2.symm.trans ht)
  exact ⟨h3,rfl,hf _ he h5.symm⟩
 ·rw [(errA_no he).2]; exact h
theorem Xm.Ok.free {x:Xm} (h:x.Ok) (g:Hd):(x.free g).1.Ok:=by
 unfold Xm.free
 by_cases he:errA x.L g ≠ 0
 ·rw [if_pos he]; exact h
 ·rw [if_neg he]
  by_cases hl:x.linked g=true
  ·rw [if_pos hl]; exact h
  ·rw [if_neg hl]
   have he:errA x.L g=0:=Classical.not_not.1 he
   obtain ⟨i,s,h1,h2,h3,h4,h5,h6⟩:=errA_ok he
   show (Xm.mk x.kind x.entries x.words x.closed (setAX x.L g relS) x.C x.used).Ok
   rw [h6]
   refine ⟨h.knd,h.ent,h.wrd,by show (x.L.set i _).length=_; rw [List.length_set]; exact h.len,h.are.rel h2,h.nd,h.perm,h.le,fun p hp => ?_,h.rng⟩
   obtain ⟨j,t,b1,b2,b3,b4,b5⟩:=h.lk p hp
   by_cases e:i=j
   ·exfalso
    subst e
    obtain rfl:s=t:=Option.some.inj (h2.symm.trans b2)
    apply hl
    unfold Xm.linked
    rw [decide_eq_true he,Bool.true_and,h5,b5]
    have:(p.1,g) ∈ x.C:=by
     have e:p.2=g:=b4.symm.trans h4
     rw [← e]; exact hp
    exact decide_eq_true (fndC_of h.nd this)
   ·exact ⟨j,t,b1,by show (x.L.set i _)[j]?=_; rw [List.getElem?_set_ne e]; exact b2,b3,b4,b5⟩
theorem full_q {w0:World} {H:Heap} {mb ab tb bo kind entries words:Nat} {closed:Bool} {C:List (Int × Hd)} {HA HT HO:Heap} (hB:TabH tb entries C HT) (hm:∀ p ∈ ((mb,.cells 217 7 [.int .i64 (kind:Int),.int .i64 (entries:Int),.int .i64 (words:Int),.pointer (some ⟨ab,0,none⟩),.pointer (some ⟨tb,0,none⟩),.pointer (some ⟨bo,0,none⟩),.bool closed])::(HA++(HT++HO))),p ∈ H) :PureAt Tryz.prog w0 H 146 [.pointer (some ⟨mb,0,none⟩)] (.bool (decide (C.length=entries))):=by
 refine L_enter Tryz.func146 rfl Tryz.ntmps146 rfl rfl ?_
 refine W_sr ?_
 refine W_assign rfl rfl ?_
 refine W_nil (W_seq ?_)
 refine W_anyC H zk ?_
 refine WC_take 0 rfl zK zK zK rfl rfl (X_move rfl) rfl ?_
 refine WC_take 1 rfl zK zK zK rfl rfl (X_nilCheck rfl) rfl ?_
 refine WC_take 2 rfl zK zK zK rfl rfl (X_fieldAddr rfl fld217_4 zd) rfl ?_
 refine WC_take 3 rfl zK zK zK rfl rfl (X_load (v:=.pointer (some ⟨tb,0,none⟩)) rfl ty214 rfl (Cell.own (b:=mb) (by repeat (first | exact hm _ List.mem_cons_self | apply List.mem_cons_of_mem)) rfl)) rfl ?_
 refine WC_take 5 rfl zK zK zK rfl rfl (X_move rfl) rfl ?_
 refine WC_take 6 rfl zK zK zK rfl rfl (X_nilCheck rfl) rfl ?_
 refine WC_take 7 rfl zK zK zK rfl rfl (X_fieldAddr rfl fld217_1 zd) rfl ?_
 refine WC_take 8 rfl zK zK zK rfl rfl (X_load (v:=.int .i64 (entries:Int)) rfl ty3 rfl (Cell.own (b:=mb) (by repeat (first | exact hm _ List.mem_cons_self | apply List.mem_cons_of_mem)) rfl)) rfl ?_
 refine WC_one 4 zH zK rfl rfl ?_
 refine W_callq (.cons rfl .nil) Tryz.call126 rfl (hB.lenq (fun p hp => by repeat (first | exact hm p (List.mem_cons_of_mem _ (List.mem_append_right _ (List.mem_append_left _ hp))) | apply List.mem_cons_of_mem))) ?_
 refine W_nil ?_
 refine WC_goal ?_
 refine WC_take 9 rfl zK zK zK rfl rfl (X_bin rfl rfl b_eql) rfl ?_
 rw [show decide ((C.length:Int)=(entries:Int))=decide (C.length=entries) from decide_eq_decide.2 (by omega)]
 refine WC_take 10 rfl zK zK zK rfl rfl (X_assign rfl) rfl ?_
 refine WC_done zH zK ?_
 refine W_ret1m (H2:=H) Tryz.results146 rfl (.nil _) zH ?_
 exact ⟨rfl,rfl⟩
theorem refuse_q {w0:World} {H:Heap} {mb ab tb bo kind entries words:Nat} {closed:Bool} {L:List Slt} {C:List (Int × Hd)} {used:List Int} {HA HT HO:Heap} (hA:AreH ab L HA) (hB:TabH tb entries C HT) {how:Int} (hm:∀ p ∈ ((mb,.cells 217 7 [.int .i64 (kind:Int),.int .i64 (entries:Int),.int .i64 (words:Int),.pointer (some ⟨ab,0,none⟩),.pointer (some ⟨tb,0,none⟩),.pointer (some ⟨bo,0,none⟩),.bool closed])::(HA++(HT++HO))),p ∈ H) :PureAt Tryz.prog w0 H 145 [.pointer (some ⟨mb,0,none⟩),.int .i64 how] (.int .i64 (Xm.refE (⟨kind,entries,words,closed,L,C,used⟩:Xm) how)):=by
 refine L_enter Tryz.func145 rfl Tryz.ntmps145 rfl rfl ?_
 refine W_sr ?_
 refine W_assign rfl rfl ?_
 refine W_nil (W_seq ?_)
 refine W_block (W_sr ?_)
 refine W_move rfl rfl ?_
 refine W_nilCheck rfl rfl ?_
 refine W_fieldAddr rfl fld217_0 zd rfl ?_
 refine W_load (v:=.int .i64 (kind:Int)) rfl ty3 rfl (Cell.own (b:=mb) (by repeat (first | exact hm _ List.mem_cons_self | apply List.mem_cons_of_mem)) rfl) rfl ?_
 refine W_bin rfl rfl b_eql rfl ?_
 refine W_assign rfl rfl ?_
 refine W_nil ?_
 refine W_condPS (p:=kind=0) rfl (by simp) (fun c0 => ?_) (fun c0 => ?_)
 ·skip
  refine W_sr ?_
  refine W_assign rfl rfl ?_
  refine W_nil ?_
  refine W_ret1m (H2:=H) Tryz.results145 rfl (.nil _) zH ?_
  exact ⟨by unfold Xm.refE; dsimp only; rw [if_pos c0],rfl⟩
 ·skip
  refine W_sr ?_
  refine W_move rfl rfl ?_
  refine W_bin rfl rfl b_eql rfl ?_
  refine W_assign rfl rfl ?_
  refine W_nil ?_
  refine W_condPS (p:=how=2) rfl (by simp) (fun c1 => ?_) (fun c1 => ?_)
  ·skip
   refine W_sr ?_
   refine W_assign rfl rfl ?_
   refine W_nil ?_
   refine W_ret1m (H2:=H) Tryz.results145 rfl (.nil _) zH ?_
   exact ⟨by unfold Xm.refE; dsimp only; rw [if_neg c0,if_pos c1],rfl⟩
  ·skip
   refine W_sr ?_
   refine W_move rfl rfl ?_
   refine W_nilCheck rfl rfl ?_
   refine W_fieldAddr rfl fld217_0 zd rfl ?_
   refine W_load (v:=.int .i64 (kind:Int)) rfl ty3 rfl (Cell.own (b:=mb) (by repeat (first | exact hm _ List.mem_cons_self | apply List.mem_cons_of_mem)) rfl) rfl ?_
   refine W_bin rfl rfl b_eql rfl ?_
   refine W_move rfl rfl ?_
   apply W_and
   iterate 4 exact rfl
   case h1 =>
    intro hg5
    refine W_gyes rfl rfl ?_
    refine W_move rfl rfl ?_
    refine W_gyes rfl rfl ?_
    refine W_callq (.cons rfl .nil) Tryz.call146 rfl (full_q hB (HA:=HA) (HO:=HO) (closed:=closed) (kind:=kind) (words:=words) hm) ?_
    exact W_met rfl zR
   refine W_assign rfl rfl ?_
   refine W_nil ?_
   refine W_condPS (p:=kind=1∧C.length=entries) rfl (by simp; omega) (fun c2 => ?_) (fun c2 => ?_)
   ·skip
    refine W_sr ?_
    refine W_assign rfl rfl ?_
    refine W_nil ?_
    refine W_ret1m (H2:=H) Tryz.results145 rfl (.nil _) zH ?_
    exact ⟨by unfold Xm.refE; dsimp only; rw [if_neg c0,if_neg c1,if_pos c2],rfl⟩
   ·skip
    refine W_sr ?_
    refine W_move rfl rfl ?_
    refine W_nilCheck rfl rfl ?_
    refine W_fieldAddr rfl fld217_3 zd rfl ?_
    refine W_load (v:=.pointer (some ⟨ab,0,none⟩)) rfl ty213 rfl (Cell.own (b:=mb) (by repeat (first | exact hm _ List.mem_cons_self | apply List.mem_cons_of_mem)) rfl) rfl ?_
    refine W_callq (.cons rfl .nil) Tryz.call237 rfl (hA.roomq (fun p hp => by repeat (first | exact hm p (List.mem_cons_of_mem _ (List.mem_append_left _ hp)) | apply List.mem_cons_of_mem))) ?_
    refine W_bin rfl rfl b_eql rfl ?_
    refine W_assign rfl rfl ?_
    refine W_nil ?_
    refine W_condPS (p:=cntA 0 L=0) rfl (by simp) (fun c3 => ?_) (fun c3 => ?_)
    ·skip
     refine W_sr ?_
     refine W_assign rfl rfl ?_
     refine W_nil ?_
     refine W_ret1m (H2:=H) Tryz.results145 rfl (.nil _) zH ?_
     exact ⟨by unfold Xm.refE; dsimp only; rw [if_neg c0,if_neg c1,if_neg c2,if_pos c3],rfl⟩
    ·skip
     refine W_skip ?_
     refine W_blk ?_
     refine W_sr ?_
     refine W_assign rfl rfl ?_
     refine W_nil ?_
     refine W_ret1m (H2:=H) Tryz.results145 rfl (.nil _) zH ?_
     exact ⟨by unfold Xm.refE; dsimp only; rw [if_neg c0,if_neg c1,if_neg c2,if_neg c3],rfl⟩
theorem Del_at {w0:World} {H:Heap} {mb ab tb bo T kind entries words:Nat} {closed:Bool} {L:List Slt} {C:List (Int × Hd)} {used:List Int} {HA HT HO:Heap} (hB:TabH tb entries C HT) (hO:OrdH bo entries T used HO) {k:Int} :LCalls Tryz.prog w0 68 #[.pointer (some ⟨mb,0,none⟩),.int .u64 k] ((mb,.cells 217 7 [.int .i64 (kind:Int),.int .i64 (entries:Int),.int .i64 (words:Int),.pointer (some ⟨ab,0,none⟩),.pointer (some ⟨tb,0,none⟩),.pointer (some ⟨bo,0,none⟩),.bool closed])::(HA++(HT++(HO++H)))) (fun v H' => ∃ HT' HO',TabH tb entries (Xm.del (⟨kind,entries,words,closed,L,C,used⟩:Xm) k).1.C HT'∧OrdH bo entries T (Xm.del (⟨kind,entries,words,closed,L,C,used⟩:Xm) k).1.used HO'∧v=.tuple #[.agg (List.toArray (hdC (Xm.del (⟨kind,entries,words,closed,L,C,used⟩:Xm) k).2.1)),.int .i64 (Xm.del (⟨kind,entries,words,closed,L,C,used⟩:Xm) k).2.2]∧H'=(mb,.cells 217 7 [.int .i64 (kind:Int),.int .i64 (entries:Int),.int .i64 (words:Int),.pointer (some ⟨ab,0,none⟩),.pointer (some ⟨tb,0,none⟩),.pointer (some ⟨bo,0,none⟩),.bool closed])::(HA++(HT'++(HO'++H)))):=by
 refine L_enter (l:=[.pointer (some ⟨mb,0,none⟩),.int .u64 k]) Tryz.func68 rfl Tryz.ntmps68 rfl rfl ?_
 refine W_sr ?_
 refine W_alloc (l:=hdC zHd) ty40 rfl rfl (fun b4 => ?_)
 refine W_assign rfl rfl ?_
 refine W_nil (W_seq (W_sr ?_))
 refine W_move rfl rfl ?_
 refine W_x (X_ptrNotNil rfl rfl ty65) (fun _ h => by cases h) rfl ?_
 refine W_move rfl rfl ?_
 apply W_and
 iterate 4 exact rfl
 case h1 =>
  intro hg2
  refine W_gyes rfl rfl ?_
  refine W_move rfl rfl ?_
  refine W_gyes rfl rfl ?_
  refine W_nilCheck rfl rfl ?_
  refine W_gyes rfl rfl ?_
  refine W_fieldAddr rfl fld217_0 zd rfl ?_
  refine W_gyes rfl rfl ?_
  refine W_load (v:=.int .i64 (kind:Int)) rfl ty3 rfl (Cell.own (b:=mb) zM rfl) rfl ?_
  refine W_gyes rfl rfl ?_
  refine W_bin rfl rfl b_eql rfl ?_
  exact W_met rfl zR
 refine W_nil ?_
 refine W_condPS (p:=kind=0) rfl (by simp) (fun c0 => ?_) (fun c0 => ?_)
 ·skip
  refine W_sr ?_
  refine W_build (l:=hdC zHd) ty40 pl40 .nil rfl rfl rfl ?_
  refine W_storeA (l':=hdC zHd) rfl rfl ty40 rfl rfl (b:=b4) zM (by exact Nat.le_refl 2) rfl zU ?_
  refine W_assign rfl rfl ?_
  refine W_nil ?_
  refine W_ret2G (H2:=(mb,.cells 217 7 [.int .i64 (kind:Int),.int .i64 (entries:Int),.int .i64 (words:Int),.pointer (some ⟨ab,0,none⟩),.pointer (some ⟨tb,0,none⟩),.pointer (some ⟨bo,0,none⟩),.bool closed])::(HA++(HT++(HO++H)))) Tryz.results68 (.nil _) (.own (vs:=hdC zHd) rfl ty40 rfl (b:=b4) zM rfl) (.tmp rfl) zH ?_
  have e:Xm.del (⟨kind,entries,words,closed,L,C,used⟩:Xm) k=((⟨kind,entries,words,closed,L,C,used⟩:Xm),zHd,17):=by unfold Xm.del; rw [if_pos c0]
  rw [e]
  exact ⟨HT,HO,hB,hO,rfl,rfl⟩
 ·skip
  refine W_skip (W_seq (W_sr ?_))
  refine W_move rfl rfl ?_
  refine W_move rfl rfl ?_
  refine W_callq (.cons rfl (.cons rfl .nil)) Tryz.call142 rfl (Look_q hB (k:=k) (HA:=HA) (HO:=HO) (closed:=closed) (kind:=kind) (words:=words) (fun p hp => by repeat (first | exact mem3 p hp | apply List.mem_cons_of_mem))) ?_
  rcases hf:fndC C k with _ | g
  ·skip
   simp only [Option.getD_none,Option.isSome_none,Bool.false_eq_true,if_false]
   refine W_move rfl rfl ?_
   refine W_extract rfl rfl rfl ?_
   refine W_extract rfl rfl rfl ?_
   refine W_alloc (l:=hdC zHd) ty40 rfl rfl (fun b6 => ?_)
   refine W_storeA (l':=hdC zHd) rfl rfl ty40 rfl rfl (b:=b6) zM (by exact Nat.le_refl 2) rfl zU ?_
   refine W_assign rfl rfl ?_
   refine W_nil (W_sr ?_)
   refine W_move rfl rfl ?_
   refine W_bin rfl rfl b_neq rfl ?_
   refine W_nil ?_
   refine W_condT rfl rfl ?_
   refine W_sr ?_
   refine W_build (l:=hdC zHd) ty40 pl40 .nil rfl rfl rfl ?_
   refine W_move rfl rfl ?_
   refine W_storeA (l':=hdC zHd) rfl rfl ty40 rfl rfl (b:=b4) zM (by exact Nat.le_refl 2) rfl zU ?_
   refine W_assign rfl rfl ?_
   refine W_nil ?_
   refine W_ret2G (H2:=(mb,.cells 217 7 [.int .i64 (kind:Int),.int .i64 (entries:Int),.int .i64 (words:Int),.pointer (some ⟨ab,0,none⟩),.pointer (some ⟨tb,0,none⟩),.pointer (some ⟨bo,0,none⟩),.bool closed])::(HA++(HT++(HO++H)))) Tryz.results68 (.nil _) (.own (vs:=hdC zHd) rfl ty40 rfl (b:=b4) zM rfl) (.tmp rfl) zH ?_
   have e:Xm.del (⟨kind,entries,words,closed,L,C,used⟩:Xm) k=((⟨kind,entries,words,closed,L,C,used⟩:Xm),zHd,4):=by unfold Xm.del; rw [if_neg c0]; dsimp only; rw [hf]
   rw [e]
   exact ⟨HT,HO,hB,hO,rfl,rfl⟩
  ·skip
   simp only [Option.getD_some,Option.isSome_some,if_true]
   refine W_move rfl rfl ?_
   refine W_extract rfl rfl rfl ?_
   refine W_extract rfl rfl rfl ?_
   refine W_alloc (l:=hdC zHd) ty40 rfl rfl (fun b6 => ?_)
   refine W_storeA (l':=hdC g) rfl rfl ty40 rfl rfl (b:=b6) zM (by exact Nat.le_refl 2) rfl zU ?_
   refine W_assign rfl rfl ?_
   refine W_nil (W_sr ?_)
   refine W_move rfl rfl ?_
   refine W_bin rfl rfl b_neq rfl ?_
   refine W_nil ?_
   refine W_condF rfl rfl ?_
   refine W_skip (W_sr ?_)
   refine W_move rfl rfl ?_
   refine W_move rfl rfl ?_
   refine W_call (.cons rfl (.cons rfl .nil)) Tryz.call148 rfl ((unlink_at (closed:=closed) (kind:=kind) (words:=words) (HA:=HA) hB hO (k:=k) (H:=(b6,.cells 40 2 (hdC g))::(b4,.cells 40 2 (hdC zHd))::H)).hsub zH) ?_
   rintro v H' ⟨HT2,HO2,hB2,hO2,rfl,rfl⟩
   rw [hf,Option.getD_some]
   refine W_storeA (l':=hdC g) rfl rfl ty40 rfl rfl (b:=b4) zM (by exact Nat.le_refl 2) rfl zU ?_
   refine W_assign rfl rfl ?_
   refine W_nil ?_
   refine W_ret2G (H2:=(mb,.cells 217 7 [.int .i64 (kind:Int),.int .i64 (entries:Int),.int .i64 (words:Int),.pointer (some ⟨ab,0,none⟩),.pointer (some ⟨tb,0,none⟩),.pointer (some ⟨bo,0,none⟩),.bool closed])::(HA++(HT2++(HO2++H)))) Tryz.results68 (.nil _) (.own (vs:=hdC g) rfl ty40 rfl (b:=b4) zM rfl) (.tmp rfl) zH ?_
   have e:Xm.del (⟨kind,entries,words,closed,L,C,used⟩:Xm) k=((Xm.unlink (⟨kind,entries,words,closed,L,C,used⟩:Xm) k).1,g,0):=by unfold Xm.del; rw [if_neg c0]; dsimp only; rw [hf]; show (_,(fndC C k).getD zHd,_)=_; rw [hf]; rfl
   rw [e]
   exact ⟨HT2,HO2,hB2,hO2,rfl,rfl⟩
theorem Xm.free_slot {x:Xm} {how:Int} (h:x.refE how=0):∃ i s,firstF x.L=some i∧x.L[i]?=some s:=by
 have hc:cntA 0 x.L ≠ 0:=fun e => by
  unfold Xm.refE at h
  rw [if_pos e] at h
  repeat' split at h
  all_goals cases h
 obtain ⟨t,ht,h0⟩:=cntA_pos.1 hc
 cases hf:firstF x.L with
 | none => exact absurd h0 (firstF_none.1 hf t ht)
 | some i =>
  obtain ⟨s,hs,-,-⟩:=firstF_some hf
  exact ⟨i,s,rfl,hs⟩
theorem Put_atX {w0:World} {H:Heap} {mb ab tb bo T kind entries words:Nat} {closed:Bool} {L:List Slt} {C:List (Int × Hd)} {used:List Int} {HA HT HO:Heap} (hA:AreH ab L HA) (hB:TabH tb entries C HT) (hO:OrdH bo entries T used HO) (hTl:T≤1000000) (hx:(⟨kind,entries,words,closed,L,C,used⟩:Xm).Ok) {how k:Int} {ws:List Int} {ad:Option Addr} {cap:Nat} (hrow:Holds w0 H ad (ws.map (Value.int .u64))) (hTab:Tab w0):LCalls Tryz.prog w0 61 #[.pointer (some ⟨mb,0,none⟩),.int .i64 how,.int .u64 k,.slice ad ws.length cap] ((mb,.cells 217 7 [.int .i64 (kind:Int),.int .i64 (entries:Int),.int .i64 (words:Int),.pointer (some ⟨ab,0,none⟩),.pointer (some ⟨tb,0,none⟩),.pointer (some ⟨bo,0,none⟩),.bool closed])::(HA++(HT++(HO++H)))) (fun v H' => ∃ HA' HT' HO',AreH ab (Xm.put (⟨kind,entries,words,closed,L,C,used⟩:Xm) how k ws).1.L HA'∧TabH tb entries (Xm.put (⟨kind,entries,words,closed,L,C,used⟩:Xm) how k ws).1.C HT'∧OrdH bo entries (T+2) (Xm.put (⟨kind,entries,words,closed,L,C,used⟩:Xm) how k ws).1.used HO'∧v=.tuple #[.agg (List.toArray (puttC (Xm.put (⟨kind,entries,words,closed,L,C,used⟩:Xm) how k ws).2.1)),.int .i64 (Xm.put (⟨kind,entries,words,closed,L,C,used⟩:Xm) how k ws).2.2]∧H'=(mb,.cells 217 7 [.int .i64 (kind:Int),.int .i64 (entries:Int),.int .i64 (words:Int),.pointer (some ⟨ab,0,none⟩),.pointer (some ⟨tb,0,none⟩),.pointer (some ⟨bo,0,none⟩),.bool closed])::(HA'++(HT'++(HO'++H)))):=by
 refine L_enter (l:=[.pointer (some ⟨mb,0,none⟩),.int .i64 how,.int .u64 k,.slice ad ws.length cap]) Tryz.func61 rfl Tryz.ntmps61 rfl rfl ?_
 refine W_sr ?_
 refine W_alloc (l:=puttC zPutt) ty139 rfl rfl (fun b8 => ?_)
 refine W_assign rfl rfl ?_
 refine W_nil (W_seq ?_)
 refine W_block (W_sr ?_)
 refine W_move rfl rfl ?_
 refine W_x (X_ptrNil rfl rfl ty65) (fun _ h => by cases h) rfl ?_
 refine W_assign rfl rfl ?_
 refine W_nil ?_
 refine W_condF rfl rfl ?_
 refine W_sr ?_
 refine W_move rfl rfl ?_
 refine W_bin rfl rfl b_lss rfl ?_
 refine W_move rfl rfl ?_
 apply W_or
 iterate 4 exact rfl
 case h1 =>
  intro hg2
  refine W_gyes rfl rfl ?_
  refine W_move rfl rfl ?_
  refine W_gyes rfl rfl ?_
  refine W_bin rfl rfl b_gtr rfl ?_
  exact W_met rfl zR
 refine W_move rfl rfl ?_
 apply W_or
 iterate 4 exact rfl
 case h1 =>
  intro hg6
  refine W_gyes rfl rfl ?_
  refine W_move rfl rfl ?_
  refine W_gyes rfl rfl ?_
  refine W_len rfl ty84 rfl rfl ?_
  refine W_gyes rfl rfl ?_
  refine W_move rfl rfl ?_
  refine W_gyes rfl rfl ?_
  refine W_nilCheck rfl rfl ?_
  refine W_gyes rfl rfl ?_
  refine W_fieldAddr rfl fld217_2 zd rfl ?_
  refine W_gyes rfl rfl ?_
  refine W_load (v:=.int .i64 (words:Int)) rfl ty3 rfl (Cell.own (b:=mb) zM rfl) rfl ?_
  refine W_gyes rfl rfl ?_
  refine W_bin rfl rfl b_gtr rfl ?_
  exact W_met rfl zR
 refine W_assign rfl rfl ?_
 refine W_nil ?_
 refine W_condPS (p:=(how < 0∨2 < how)∨(words:Int) < (ws.length:Int)) rfl (by simp) (fun c0 => ?_) (fun c0 => ?_)
 ·skip
  refine W_sr ?_
  refine W_build (l:=puttC zPutt) ty139 pl139 .nil rfl rfl rfl ?_
  refine W_storeA (l':=puttC zPutt) rfl rfl ty139 rfl rfl (b:=b8) zM (by exact Nat.le_refl 5) rfl zU ?_
  refine W_assign rfl rfl ?_
  refine W_nil ?_
  refine W_ret2G (H2:=(mb,.cells 217 7 [.int .i64 (kind:Int),.int .i64 (entries:Int),.int .i64 (words:Int),.pointer (some ⟨ab,0,none⟩),.pointer (some ⟨tb,0,none⟩),.pointer (some ⟨bo,0,none⟩),.bool closed])::(HA++(HT++(HO++H)))) Tryz.results61 (.nil _) (.own (vs:=puttC zPutt) rfl ty139 rfl (b:=b8) zM rfl) (.tmp rfl) zH ?_
  have e:(Xm.put (⟨kind,entries,words,closed,L,C,used⟩:Xm) how k ws)=((⟨kind,entries,words,closed,L,C,used⟩:Xm),zPutt,1):=by
   unfold Xm.put
   rw [if_pos (by dsimp only; omega)]
  rw [e]
  exact ⟨HA,HT,HO,hA,hB,hO.up zO,rfl,rfl⟩
 ·skip
  refine W_sr ?_
  refine W_move rfl rfl ?_
  refine W_nilCheck rfl rfl ?_
  refine W_fieldAddr rfl fld217_6 zd rfl ?_
  refine W_load (v:=.bool closed) rfl ty4 rfl (Cell.own (b:=mb) zM rfl) rfl ?_
  refine W_assign rfl rfl ?_
  refine W_nil ?_
  refine W_condPS (p:=closed=true) rfl (by simp) (fun c1 => ?_) (fun c1 => ?_)
  ·skip
   refine W_sr ?_
   refine W_build (l:=puttC zPutt) ty139 pl139 .nil rfl rfl rfl ?_
   refine W_storeA (l':=puttC zPutt) rfl rfl ty139 rfl rfl (b:=b8) zM (by exact Nat.le_refl 5) rfl zU ?_
   refine W_assign rfl rfl ?_
   refine W_nil ?_
   refine W_ret2G (H2:=(mb,.cells 217 7 [.int .i64 (kind:Int),.int .i64 (entries:Int),.int .i64 (words:Int),.pointer (some ⟨ab,0,none⟩),.pointer (some ⟨tb,0,none⟩),.pointer (some ⟨bo,0,none⟩),.bool closed])::(HA++(HT++(HO++H)))) Tryz.results61 (.nil _) (.own (vs:=puttC zPutt) rfl ty139 rfl (b:=b8) zM rfl) (.tmp rfl) zH ?_
   have e:(Xm.put (⟨kind,entries,words,closed,L,C,used⟩:Xm) how k ws)=((⟨kind,entries,words,closed,L,C,used⟩:Xm),zPutt,22):=by
    unfold Xm.put
    rw [if_neg (by dsimp only; omega)]
    rw [if_pos c1]
   rw [e]
   exact ⟨HA,HT,HO,hA,hB,hO.up zO,rfl,rfl⟩
  ·skip
   refine W_skip ?_
   refine W_blk ?_
   refine W_sr ?_
   refine W_move rfl rfl ?_
   refine W_build (l:=celC ⟨k,zW⟩) ty220 pl220 (.cons rfl rfl rfl rfl rfl .nil) rfl rfl rfl ?_
   refine W_alloc (l:=celC zCel) ty220 rfl rfl (fun b10 => ?_)
   refine W_storeA (l':=celC (⟨k,zW⟩)) rfl rfl ty220 rfl rfl (b:=b10) zM (by exact Nat.le_refl 5) rfl zU ?_
   refine W_nil (W_sr ?_)
   have hw4:ws.length≤4:=by have:=hx.wrd; dsimp only at this; omega
   refine W_fieldAddr rfl fld220_1 zd rfl ?_
   refine W_x (X_sliceArr (l:=0) (hh:=4) rfl ty218 ty30 rfl rfl zd zd zd) (fun _ h => by cases h) rfl ?_
   refine W_move rfl rfl ?_
   refine W_copy (kk:=ws.length) (news:=ws.map (Value.int .u64)) (l':=celC ⟨k,W4.of ws⟩) rfl rfl ty84 ty30 (by omega) (by rw [List.length_map,Nat.mul_one]) (hrow.up zH) (by simp [Value.oneCell']) (b:=b10) zM (by rw [List.length_map]; show 0+1+0 * 1+ws.length≤5; omega) (W4.copy hw4 (.int .u64 k)) zU rfl ?_
   refine W_nil (W_seq (W_sr ?_))
   refine W_move rfl rfl ?_
   refine W_move rfl rfl ?_
   refine W_callq (.cons rfl (.cons rfl .nil)) Tryz.call142 rfl (Look_q hB (k:=k) (HA:=HA) (HO:=HO) (closed:=closed) (kind:=kind) (words:=words) (fun p hp => by repeat (first | exact mem3 p hp | apply List.mem_cons_of_mem))) ?_
   rcases hf:fndC C k with _ | g
   ·skip
    simp only [Option.getD_none,Option.isSome_none,Bool.false_eq_true,if_false]
    refine W_move rfl rfl ?_
    refine W_extract rfl rfl rfl ?_
    refine W_extract rfl rfl rfl ?_
    refine W_alloc (l:=hdC zHd) ty40 rfl rfl (fun b11 => ?_)
    refine W_storeA (l':=hdC zHd) rfl rfl ty40 rfl rfl (b:=b11) zM (by exact Nat.le_refl 2) rfl zU ?_
    refine W_assign rfl rfl ?_
    refine W_nil (W_sr ?_)
    refine W_move rfl rfl ?_
    refine W_bin rfl rfl b_eql rfl ?_
    refine W_nil ?_
    refine W_condF rfl rfl ?_
    refine W_skip (W_seq (W_sr ?_))
    refine W_move rfl rfl ?_
    refine W_move rfl rfl ?_
    refine W_callq (.cons rfl (.cons rfl .nil)) Tryz.call145 rfl (refuse_q hA hB (how:=how) (HO:=HO) (used:=used) (closed:=closed) (words:=words) (fun p hp => by repeat (first | exact mem3 p hp | apply List.mem_cons_of_mem))) ?_
    refine W_assign rfl rfl ?_
    refine W_nil (W_sr ?_)
    refine W_move rfl rfl ?_
    refine W_bin rfl rfl b_neq rfl ?_
    refine W_nil ?_
    refine W_condPS (p:=¬ (Xm.refE (⟨kind,entries,words,closed,L,C,used⟩:Xm) how)=0) rfl (by simp) (fun c2 => ?_) (fun c2 => ?_)
    ·skip
     refine W_sr ?_
     refine W_build (l:=puttC zPutt) ty139 pl139 .nil rfl rfl rfl ?_
     refine W_move rfl rfl ?_
     refine W_storeA (l':=puttC zPutt) rfl rfl ty139 rfl rfl (b:=b8) zM (by exact Nat.le_refl 5) rfl zU ?_
     refine W_assign rfl rfl ?_
     refine W_nil ?_
     refine W_ret2G (H2:=(mb,.cells 217 7 [.int .i64 (kind:Int),.int .i64 (entries:Int),.int .i64 (words:Int),.pointer (some ⟨ab,0,none⟩),.pointer (some ⟨tb,0,none⟩),.pointer (some ⟨bo,0,none⟩),.bool closed])::(HA++(HT++(HO++H)))) Tryz.results61 (.nil _) (.own (vs:=puttC zPutt) rfl ty139 rfl (b:=b8) zM rfl) (.tmp rfl) zH ?_
     have e:(Xm.put (⟨kind,entries,words,closed,L,C,used⟩:Xm) how k ws)=((⟨kind,entries,words,closed,L,C,used⟩:Xm),zPutt,Xm.refE (⟨kind,entries,words,closed,L,C,used⟩:Xm) how):=by
      unfold Xm.put
      rw [if_neg (by dsimp only; omega)]
      rw [if_neg c1]
      dsimp only
      rw [hf]
      dsimp only
      rw [if_pos c2]
     rw [e]
     exact ⟨HA,HT,HO,hA,hB,hO.up zO,rfl,rfl⟩
    ·skip
     refine W_skip (W_sr ?_)
     refine W_alloc (l:=puttC zPutt) ty139 rfl rfl (fun b14 => ?_)
     refine W_nil (W_seq (W_sr ?_))
     refine W_move rfl rfl ?_
     refine W_callq (.cons rfl .nil) Tryz.call146 rfl (full_q hB (HA:=HA) (HO:=HO) (closed:=closed) (kind:=kind) (words:=words) (fun p hp => by repeat (first | exact mem3 p hp | apply List.mem_cons_of_mem))) ?_
     refine W_nil ?_
     refine W_condPS (p:=C.length=entries) rfl (by simp) (fun c3 => ?_) (fun c3 => ?_)
     ·skip
      refine W_sr ?_
      refine W_move rfl rfl ?_
      refine W_nilCheck rfl rfl ?_
      refine W_fieldAddr rfl fld217_5 zd rfl ?_
      refine W_load (v:=.pointer (some ⟨bo,0,none⟩)) rfl ty215 rfl (Cell.own (b:=mb) zM rfl) rfl ?_
      obtain ⟨o,ho⟩:∃ o,used[0]?=some o:=⟨_,List.getElem?_eq_getElem (by have:=hx.ulen; have:=hx.ent; dsimp only at *; omega)⟩
      have hom:o ∈ keyL C:=hx.umem.1 (List.mem_of_getElem? ho)
      refine W_call (.cons rfl .nil) Tryz.call147 rfl ((hO.oldest (by have:=hx.ent; dsimp only at *; omega) (H:=(b14,.cells 139 5 (puttC zPutt))::(b11,.cells 40 2 (hdC zHd))::(b10,.cells 220 5 (celC ⟨k,W4.of ws⟩))::(b8,.cells 139 5 (puttC zPutt))::(mb,.cells 217 7 [.int .i64 (kind:Int),.int .i64 (entries:Int),.int .i64 (words:Int),.pointer (some ⟨ab,0,none⟩),.pointer (some ⟨tb,0,none⟩),.pointer (some ⟨bo,0,none⟩),.bool closed])::(HA++(HT++H)))).hsub zH) ?_
      rintro v H' ⟨rfl,rfl⟩
      rw [show fstU used=.int .u64 o from by unfold fstU; rw [ho]]
      refine W_move rfl rfl ?_
      refine W_extract rfl rfl rfl ?_
      refine W_extract rfl rfl rfl ?_
      refine W_assign rfl rfl ?_
      refine W_assign rfl rfl ?_
      refine W_nil ?_
      refine W_region ?_
      refine W_move rfl rfl ?_
      refine W_move rfl rfl ?_
      refine W_call (.cons rfl (.cons rfl .nil)) Tryz.call148 rfl ((unlink_at (closed:=closed) (kind:=kind) (words:=words) (HA:=HA) hB hO (k:=o) (H:=(b14,.cells 139 5 (puttC zPutt))::(b11,.cells 40 2 (hdC zHd))::(b10,.cells 220 5 (celC ⟨k,W4.of ws⟩))::(b8,.cells 139 5 (puttC zPutt))::H)).hsub zH) ?_
      rintro v H' ⟨HT2,HO2,hB2,hO2,rfl,rfl⟩
      obtain ⟨g0,hg0⟩:∃ g0,g0=(fndC C o).getD zHd:=⟨_,rfl⟩
      rw [← hg0]
      refine W_fieldAddr rfl fld139_1 zd rfl ?_
      refine W_storeA (l':=puttC ⟨zHd,g0,false⟩) rfl rfl ty40 rfl rfl (b:=b14) zM (by show 2+2≤5; decide) rfl zU ?_
      refine W_fieldAddr rfl fld139_2 zd rfl ?_
      refine W_store (l':=puttC ⟨zHd,g0,true⟩) rfl rfl ty4 rfl rfl (b:=b14) zM rfl rfl zU ?_
      refine W_nil (W_sr ?_)
      refine W_move rfl rfl ?_
      refine W_loadB (vs:=celC ⟨k,W4.of ws⟩) rfl ty220 rfl (b:=b10) zM rfl rfl rfl ?_
      obtain ⟨i,s,hfi,hs⟩:=Xm.free_slot (x:=(⟨kind,entries,words,closed,L,C,used⟩:Xm)) (how:=how) (Classical.not_not.1 c2)
      dsimp only at hfi hs
      have hkn:=fndC_none.1 hf
      have hdl:=delC_len hB.nd.1 hom
      have hul:=hx.ulen
      have hule:(drop1O used o).length+1=used.length:=by have:=(drop1O_perm hx.und (List.mem_of_getElem? ho)).length_eq; rw [List.length_append] at this; exact this.symm
      dsimp only at hul
      refine W_call (.cons rfl (.cons rfl .nil)) Tryz.call149 rfl ((link_at (closed:=closed) (kind:=kind) (words:=words) hA hB2 hO2 (by omega) (by have:=hx.ent; dsimp only at this; omega) (c:=⟨k,W4.of ws⟩) hfi hs (by rw [keyL_del]; exact fun hm => hkn (List.mem_filter.1 hm).1) (by omega) (by omega) hTab (H:=(b14,.cells 139 5 (puttC ⟨zHd,g0,true⟩))::(b11,.cells 40 2 (hdC zHd))::(b10,.cells 220 5 (celC ⟨k,W4.of ws⟩))::(b8,.cells 139 5 (puttC zPutt))::H)).hsub zH) ?_
      rintro v H' ⟨HA3,HT3,HO3,hA3,hB3,hO3,rfl,rfl⟩
      refine W_move rfl rfl ?_
      refine W_extract rfl rfl rfl ?_
      refine W_extract rfl rfl rfl ?_
      refine W_alloc (l:=hdC zHd) ty40 rfl rfl (fun b17 => ?_)
      refine W_storeA (l':=hdC s.own) rfl rfl ty40 rfl rfl (b:=b17) zM (by exact Nat.le_refl 2) rfl zU ?_
      refine W_assign rfl rfl ?_
      refine W_nil (W_sr ?_)
      refine W_loadB (vs:=hdC s.own) rfl ty40 rfl (b:=b17) zM rfl rfl rfl ?_
      refine W_fieldAddr rfl fld139_0 zd rfl ?_
      refine W_storeA (l':=puttC ⟨s.own,g0,true⟩) rfl rfl ty40 rfl rfl (b:=b14) zM (by show 0+2≤5; decide) rfl zU ?_
      refine W_nil (W_sr ?_)
      refine W_loadB (vs:=puttC ⟨s.own,g0,true⟩) rfl ty139 rfl (b:=b14) zM rfl rfl rfl ?_
      refine W_move rfl rfl ?_
      refine W_storeA (l':=puttC ⟨s.own,g0,true⟩) rfl rfl ty139 rfl rfl (b:=b8) zM (by exact Nat.le_refl 5) rfl zU ?_
      refine W_assign rfl rfl ?_
      refine W_nil ?_
      refine W_ret2G (H2:=(mb,.cells 217 7 [.int .i64 (kind:Int),.int .i64 (entries:Int),.int .i64 (words:Int),.pointer (some ⟨ab,0,none⟩),.pointer (some ⟨tb,0,none⟩),.pointer (some ⟨bo,0,none⟩),.bool closed])::(HA3++(HT3++(HO3++H)))) Tryz.results61 (.nil _) (.own (vs:=puttC ⟨s.own,g0,true⟩) rfl ty139 rfl (b:=b8) zM rfl) (.tmp rfl) zH ?_
      have hh:used.headD 0=o:=by cases used with
       | nil => cases ho
       | cons a t => exact Option.some.inj ho
      have e:(Xm.put (⟨kind,entries,words,closed,L,C,used⟩:Xm) how k ws)=(((Xm.unlink (⟨kind,entries,words,closed,L,C,used⟩:Xm) o).1.link ⟨k,W4.of ws⟩).1,⟨((Xm.unlink (⟨kind,entries,words,closed,L,C,used⟩:Xm) o).1.link ⟨k,W4.of ws⟩).2,(Xm.unlink (⟨kind,entries,words,closed,L,C,used⟩:Xm) o).2,true⟩,0):=by
       unfold Xm.put
       rw [if_neg (by dsimp only; omega)]
       rw [if_neg c1]
       dsimp only
       rw [hf]
       dsimp only
       rw [if_neg c2,if_pos c3,hh]
      rw [e,Xm.link_is (x:=(Xm.unlink (⟨kind,entries,words,closed,L,C,used⟩:Xm) o).1) hfi hs]
      exact ⟨HA3,HT3,HO3,hA3,hB3,hO3.up (by omega),by rw [hg0]; rfl,rfl⟩
     ·skip
      refine W_skip (W_sr ?_)
      refine W_move rfl rfl ?_
      refine W_loadB (vs:=celC ⟨k,W4.of ws⟩) rfl ty220 rfl (b:=b10) zM rfl rfl rfl ?_
      obtain ⟨i,s,hfi,hs⟩:=Xm.free_slot (x:=(⟨kind,entries,words,closed,L,C,used⟩:Xm)) (how:=how) (Classical.not_not.1 c2)
      dsimp only at hfi hs
      have hkn:=fndC_none.1 hf
      have hul:=hx.ulen
      have hle:=hx.le
      dsimp only at hul hle
      refine W_call (.cons rfl (.cons rfl .nil)) Tryz.call149 rfl ((link_at (closed:=closed) (kind:=kind) (words:=words) hA hB hO zO (by have:=hx.ent; dsimp only at this; omega) (c:=⟨k,W4.of ws⟩) hfi hs hkn zO zO hTab (H:=(b14,.cells 139 5 (puttC zPutt))::(b11,.cells 40 2 (hdC zHd))::(b10,.cells 220 5 (celC ⟨k,W4.of ws⟩))::(b8,.cells 139 5 (puttC zPutt))::H)).hsub zH) ?_
      rintro v H' ⟨HA3,HT3,HO3,hA3,hB3,hO3,rfl,rfl⟩
      refine W_move rfl rfl ?_
      refine W_extract rfl rfl rfl ?_
      refine W_extract rfl rfl rfl ?_
      refine W_alloc (l:=hdC zHd) ty40 rfl rfl (fun b17 => ?_)
      refine W_storeA (l':=hdC s.own) rfl rfl ty40 rfl rfl (b:=b17) zM (by exact Nat.le_refl 2) rfl zU ?_
      refine W_assign rfl rfl ?_
      refine W_nil (W_sr ?_)
      refine W_loadB (vs:=hdC s.own) rfl ty40 rfl (b:=b17) zM rfl rfl rfl ?_
      refine W_fieldAddr rfl fld139_0 zd rfl ?_
      refine W_storeA (l':=puttC ⟨s.own,zHd,false⟩) rfl rfl ty40 rfl rfl (b:=b14) zM (by show 0+2≤5; decide) rfl zU ?_
      refine W_nil (W_sr ?_)
      refine W_loadB (vs:=puttC ⟨s.own,zHd,false⟩) rfl ty139 rfl (b:=b14) zM rfl rfl rfl ?_
      refine W_move rfl rfl ?_
      refine W_storeA (l':=puttC ⟨s.own,zHd,false⟩) rfl rfl ty139 rfl rfl (b:=b8) zM (by exact Nat.le_refl 5) rfl zU ?_
      refine W_assign rfl rfl ?_
      refine W_nil ?_
      refine W_ret2G (H2:=(mb,.cells 217 7 [.int .i64 (kind:Int),.int .i64 (entries:Int),.int .i64 (words:Int),.pointer (some ⟨ab,0,none⟩),.pointer (some ⟨tb,0,none⟩),.pointer (some ⟨bo,0,none⟩),.bool closed])::(HA3++(HT3++(HO3++H)))) Tryz.results61 (.nil _) (.own (vs:=puttC ⟨s.own,zHd,false⟩) rfl ty139 rfl (b:=b8) zM rfl) (.tmp rfl) zH ?_
      have e:(Xm.put (⟨kind,entries,words,closed,L,C,used⟩:Xm) how k ws)=((Xm.link (⟨kind,entries,words,closed,L,C,used⟩:Xm) ⟨k,W4.of ws⟩).1,⟨(Xm.link (⟨kind,entries,words,closed,L,C,used⟩:Xm) ⟨k,W4.of ws⟩).2,zHd,false⟩,0):=by
       unfold Xm.put
       rw [if_neg (by dsimp only; omega)]
       rw [if_neg c1]
       dsimp only
       rw [hf]
       dsimp only
       rw [if_neg c2,if_neg c3]
      rw [e,Xm.link_is (x:=(⟨kind,entries,words,closed,L,C,used⟩:Xm)) hfi hs]
      exact ⟨HA3,HT3,HO3,hA3,hB3,hO3.up zO,rfl,rfl⟩
   ·skip
    simp only [Option.getD_some,Option.isSome_some,if_true]
    refine W_move rfl rfl ?_
    refine W_extract rfl rfl rfl ?_
    refine W_extract rfl rfl rfl ?_
    refine W_alloc (l:=hdC zHd) ty40 rfl rfl (fun b11 => ?_)
    refine W_storeA (l':=hdC g) rfl rfl ty40 rfl rfl (b:=b11) zM (by exact Nat.le_refl 2) rfl zU ?_
    refine W_assign rfl rfl ?_
    refine W_nil (W_sr ?_)
    refine W_move rfl rfl ?_
    refine W_bin rfl rfl b_eql rfl ?_
    refine W_nil ?_
    refine W_condT rfl rfl ?_
    refine W_seq (W_sr ?_)
    refine W_move rfl rfl ?_
    refine W_bin rfl rfl b_eql rfl ?_
    refine W_nil ?_
    refine W_condPS (p:=how=1) rfl (by simp) (fun c2 => ?_) (fun c2 => ?_)
    ·skip
     refine W_sr ?_
     refine W_build (l:=puttC zPutt) ty139 pl139 .nil rfl rfl rfl ?_
     refine W_storeA (l':=puttC zPutt) rfl rfl ty139 rfl rfl (b:=b8) zM (by exact Nat.le_refl 5) rfl zU ?_
     refine W_assign rfl rfl ?_
     refine W_nil ?_
     refine W_ret2G (H2:=(mb,.cells 217 7 [.int .i64 (kind:Int),.int .i64 (entries:Int),.int .i64 (words:Int),.pointer (some ⟨ab,0,none⟩),.pointer (some ⟨tb,0,none⟩),.pointer (some ⟨bo,0,none⟩),.bool closed])::(HA++(HT++(HO++H)))) Tryz.results61 (.nil _) (.own (vs:=puttC zPutt) rfl ty139 rfl (b:=b8) zM rfl) (.tmp rfl) zH ?_
     have e:(Xm.put (⟨kind,entries,words,closed,L,C,used⟩:Xm) how k ws)=((⟨kind,entries,words,closed,L,C,used⟩:Xm),zPutt,5):=by
      unfold Xm.put
      rw [if_neg (by dsimp only; omega)]
      rw [if_neg c1]
      dsimp only
      rw [hf]
      dsimp only
      rw [if_pos c2]
     rw [e]
     exact ⟨HA,HT,HO,hA,hB,hO.up zO,rfl,rfl⟩
    ·skip
     refine W_skip (W_sr ?_)
     refine W_move rfl rfl ?_
     refine W_nilCheck rfl rfl ?_
     refine W_fieldAddr rfl fld217_5 zd rfl ?_
     refine W_load (v:=.pointer (some ⟨bo,0,none⟩)) rfl ty215 rfl (Cell.own (b:=mb) zM rfl) rfl ?_
     refine W_move rfl rfl ?_
     refine W_buildSlice (l:=[.int .u64 k]) ty84 ty30 (.cons rfl rfl rfl rfl rfl .nil) rfl rfl rfl rfl rfl rfl rfl (fun b68 => ?_)
     refine W_call (.cons rfl (.cons rfl .nil)) Tryz.call143 rfl ((hO.touch hTl (k:=k) (cap:=1) (.inl (hx.umem.2 (keyL_mem hf))) (Holds.own (b:=b68) zM) (H:=(b68,.cells 30 (1 * 1) [.int .u64 k])::(b11,.cells 40 2 (hdC g))::(b10,.cells 220 5 (celC ⟨k,W4.of ws⟩))::(b8,.cells 139 5 (puttC zPutt))::(mb,.cells 217 7 [.int .i64 (kind:Int),.int .i64 (entries:Int),.int .i64 (words:Int),.pointer (some ⟨ab,0,none⟩),.pointer (some ⟨tb,0,none⟩),.pointer (some ⟨bo,0,none⟩),.bool closed])::(HA++(HT++H)))).hsub zH) ?_
     rintro v H' ⟨HO2,hO2,rfl,rfl⟩
     refine W_nil (W_seq ?_)
     refine W_anyC [(mb,.cells 217 7 [.int .i64 (kind:Int),.int .i64 (entries:Int),.int .i64 (words:Int),.pointer (some ⟨ab,0,none⟩),.pointer (some ⟨tb,0,none⟩),.pointer (some ⟨bo,0,none⟩),.bool closed]),(b11,.cells 40 2 (hdC g)),(b10,.cells 220 5 (celC ⟨k,W4.of ws⟩))] zk ?_
     refine WC_take 0 rfl zK zK zK rfl rfl (X_loadB (vs:=hdC g) rfl ty40 rfl (b:=b11) zM rfl rfl) rfl ?_
     refine WC_take 1 rfl zK zK zK rfl rfl (X_build (l:=puttC ⟨g,zHd,false⟩) ty139 pl139 (.cons rfl rfl rfl rfl rfl .nil) rfl rfl) rfl ?_
     refine WC_take 2 rfl zK zK zK rfl rfl (X_move rfl) rfl ?_
     refine WC_take 3 rfl zK zK zK rfl rfl (X_nilCheck rfl) rfl ?_
     refine WC_take 4 rfl zK zK zK rfl rfl (X_fieldAddr rfl fld217_3 zd) rfl ?_
     refine WC_take 5 rfl zK zK zK rfl rfl (X_load (v:=.pointer (some ⟨ab,0,none⟩)) rfl ty213 rfl (Cell.own (b:=mb) zM rfl)) rfl ?_
     refine WC_take 6 rfl zK zK zK rfl rfl (X_loadB (vs:=hdC g) rfl ty40 rfl (b:=b11) zM rfl rfl) rfl ?_
     refine WC_take 7 rfl zK zK zK rfl rfl (X_loadB (vs:=celC (⟨k,W4.of ws⟩)) rfl ty220 rfl (b:=b10) zM rfl rfl) rfl ?_
     refine WC_one 8 zH zK rfl rfl ?_
     refine W_call (.cons rfl (.cons rfl (.cons rfl .nil))) Tryz.call144 rfl ((hA.set (h:=g) (c:=⟨k,W4.of ws⟩) (H:=(b11,.cells 40 2 (hdC g))::(b10,.cells 220 5 (celC ⟨k,W4.of ws⟩))::(b8,.cells 139 5 (puttC zPutt))::(mb,.cells 217 7 [.int .i64 (kind:Int),.int .i64 (entries:Int),.int .i64 (words:Int),.pointer (some ⟨ab,0,none⟩),.pointer (some ⟨tb,0,none⟩),.pointer (some ⟨bo,0,none⟩),.bool closed])::(HT++(HO2++H)))).hsub zH) ?_
     rintro v H' ⟨HA2,hA2,rfl,rfl⟩
     refine W_nil ?_
     refine WC_goal ?_
     refine WC_one 9 zH zK rfl rfl ?_
     refine W_storeA (l':=puttC ⟨g,zHd,false⟩) rfl rfl ty139 rfl rfl (b:=b8) zM (by exact Nat.le_refl 5) rfl zU ?_
     refine W_nil ?_
     refine WC_goal ?_
     refine WC_take 10 rfl zK zK zK rfl rfl (X_assign rfl) rfl ?_
     refine WC_done zH zK ?_
     refine W_ret2G (H2:=(mb,.cells 217 7 [.int .i64 (kind:Int),.int .i64 (entries:Int),.int .i64 (words:Int),.pointer (some ⟨ab,0,none⟩),.pointer (some ⟨tb,0,none⟩),.pointer (some ⟨bo,0,none⟩),.bool closed])::(HA2++(HT++(HO2++H)))) Tryz.results61 (.nil _) (.own (vs:=puttC ⟨g,zHd,false⟩) rfl ty139 rfl (b:=b8) zM rfl) (.tmp rfl) zH ?_
     have e:(Xm.put (⟨kind,entries,words,closed,L,C,used⟩:Xm) how k ws)=({ Xm.use (⟨kind,entries,words,closed,L,C,used⟩:Xm) k with L:=setAX L g (fun s => { s with cel:=⟨k,W4.of ws⟩ }) },⟨g,zHd,false⟩,errA L g):=by
      unfold Xm.put
      rw [if_neg (by dsimp only; omega)]
      rw [if_neg c1]
      dsimp only
      rw [hf]
      dsimp only
      rw [if_neg c2]
     rw [e]
     exact ⟨HA2,HT,HO2,hA2,hB,hO2.up (Nat.le_succ _),rfl,rfl⟩
theorem with_no {w0:World} {H:Heap} {mb ab tb bo kind entries words:Nat} {closed:Bool} {L:List Slt} {C:List (Int × Hd)} {HA HT HO:Heap} (hA:AreH ab L HA) (hB:TabH tb entries C HT) {h:Hd} {fi:Nat} {ca:List Value} (he:errA L h ≠ 0) (hm:∀ p ∈ ((mb,.cells 217 7 [.int .i64 (kind:Int),.int .i64 (entries:Int),.int .i64 (words:Int),.pointer (some ⟨ab,0,none⟩),.pointer (some ⟨tb,0,none⟩),.pointer (some ⟨bo,0,none⟩),.bool closed])::(HA++(HT++HO))),p ∈ H) :PureAt Tryz.prog w0 H 152 [.pointer (some ⟨mb,0,none⟩),.agg (List.toArray (hdC h)),Value.func (.func fi) #[] ca.toArray] (.int .i64 (errA L h)):=by
 refine L_enter Tryz.func152 rfl Tryz.ntmps152 rfl rfl ?_
 refine W_sr ?_
 refine W_box rfl rfl rfl (fun b4 => ?_)
 refine W_assign rfl rfl ?_
 refine W_nil (W_seq (W_sr ?_))
 refine W_move rfl rfl ?_
 refine W_x (X_ptrNil rfl rfl ty65) (fun _ h => by cases h) rfl ?_
 refine W_nil ?_
 refine W_condF rfl rfl ?_
 refine W_skip (W_seq ?_)
 refine W_cutX (X:=Nat) (fun x => [(0,.pointer (some ⟨mb,0,none⟩)),(2,Value.func (.func fi) #[] ca.toArray),(7,.pointer (some ⟨x,0,none⟩)),(8,.int .i64 (errA L h))]) (fun x => (x,.cells 220 5 (celC (celA L h)))::(b4,.cells 40 2 (hdC h))::H) (fun _ => True) ?_ ?_
 ·skip
  refine W_anyC ((b4,.cells 40 2 (hdC h))::H) zk ?_
  refine WC_take 0 rfl zK zK zK rfl rfl (X_move rfl) rfl ?_
  refine WC_take 1 rfl zK zK zK rfl rfl (X_nilCheck rfl) rfl ?_
  refine WC_take 2 rfl zK zK zK rfl rfl (X_fieldAddr rfl fld217_3 zd) rfl ?_
  refine WC_take 3 rfl zK zK zK rfl rfl (X_load (v:=.pointer (some ⟨ab,0,none⟩)) rfl ty213 rfl (Cell.own (b:=mb) (by repeat (first | exact hm _ List.mem_cons_self | apply List.mem_cons_of_mem)) rfl)) rfl ?_
  refine WC_take 4 rfl zK zK zK rfl rfl (X_loadB (vs:=hdC h) rfl ty40 rfl (b:=b4) zM rfl rfl) rfl ?_
  refine WC_two 5 9 (l':=#[true,true,true,true,true,true,false,false,false,false,false,false]) (l'':=#[true,true,true,true,true,false,false,false,false,true,false,false]) zH zK rfl rfl zK zK ?_ ?_
  ·skip
   refine W_callq (.cons rfl (.cons rfl .nil)) Tryz.call245 rfl (hA.get (h:=h) (fun p hp => by repeat (first | exact hm p (List.mem_cons_of_mem _ (List.mem_append_left _ hp)) | apply List.mem_cons_of_mem))) ?_
   refine W_nil ?_
   refine WC_goal ?_
   refine WC_take 6 rfl zK zK zK rfl rfl (X_move rfl) rfl ?_
   refine WC_take 7 rfl zK zK zK rfl rfl (X_extract rfl rfl) rfl ?_
   refine WC_take 8 rfl zK zK zK rfl rfl (X_extract rfl rfl) rfl ?_
   refine WC_one 9 zH zK rfl rfl ?_
   refine W_alloc (l:=celC zCel) ty220 rfl rfl (fun b7 => ?_)
   refine W_nil ?_
   refine WC_goal ?_
   refine WC_one 10 zH zK rfl rfl ?_
   refine W_storeA (l':=celC (celA L h)) rfl rfl ty220 rfl rfl (b:=b7) zM (by exact Nat.le_refl 5) rfl zU ?_
   refine W_nil ?_
   refine WC_goal ?_
   refine WC_take 11 rfl zK zK zK rfl rfl (X_assign rfl) rfl ?_
   refine WC_done zH zK ?_
   refine W_joinX b7 trivial (sub_cons rfl (sub_cons rfl (sub_cons rfl (sub_cons rfl (sub_nil _))))) zH
  ·skip
   refine W_alloc (l:=celC zCel) ty220 rfl rfl (fun b7 => ?_)
   refine W_nil ?_
   refine WC_goal ?_
   refine WC_one 5 zH zK rfl rfl ?_
   refine W_callq (.cons rfl (.cons rfl .nil)) Tryz.call245 rfl (hA.get (h:=h) (fun p hp => by repeat (first | exact hm p (List.mem_cons_of_mem _ (List.mem_append_left _ hp)) | apply List.mem_cons_of_mem))) ?_
   refine W_nil ?_
   refine WC_goal ?_
   refine WC_take 6 rfl zK zK zK rfl rfl (X_move rfl) rfl ?_
   refine WC_take 7 rfl zK zK zK rfl rfl (X_extract rfl rfl) rfl ?_
   refine WC_take 8 rfl zK zK zK rfl rfl (X_extract rfl rfl) rfl ?_
   refine WC_one 10 zH zK rfl rfl ?_
   refine W_storeA (l':=celC (celA L h)) rfl rfl ty220 rfl rfl (b:=b7) zM (by exact Nat.le_refl 5) rfl zU ?_
   refine W_nil ?_
   refine WC_goal ?_
   refine WC_take 11 rfl zK zK zK rfl rfl (X_assign rfl) rfl ?_
   refine WC_done zH zK ?_
   refine W_joinX b7 trivial (sub_cons rfl (sub_cons rfl (sub_cons rfl (sub_cons rfl (sub_nil _))))) zH
 rintro b7 -
 refine W_seq (W_sr ?_)
 refine W_move rfl rfl ?_
 refine W_bin rfl rfl b_neq rfl ?_
 refine W_nil ?_
 refine W_condT rfl (decide_eq_true he) ?_
 refine W_sr ?_
 refine W_move rfl rfl ?_
 refine W_assign rfl rfl ?_
 refine W_nil ?_
 refine W_ret1m (H2:=H) Tryz.results152 rfl (.nil _) zH ?_
 exact ⟨rfl,rfl⟩
theorem with_yes {w0:World} {H:Heap} {mb ab tb bo kind entries words:Nat} {closed:Bool} {L:List Slt} {C:List (Int × Hd)} {HA HT HO:Heap} (hA:AreH ab L HA) (hB:TabH tb entries C HT) {h:Hd} {fi:Nat} {ca:List Value} {R:Value→Heap→Prop} (hfi:∀ (args:Array Value) (w:World),(callFunc fi args).run Tryz.prog w=.ok (.enter fi args) w) (he:errA L h=0) (hm:∀ p ∈ ((mb,.cells 217 7 [.int .i64 (kind:Int),.int .i64 (entries:Int),.int .i64 (words:Int),.pointer (some ⟨ab,0,none⟩),.pointer (some ⟨tb,0,none⟩),.pointer (some ⟨bo,0,none⟩),.bool closed])::(HA++(HT++HO))),p ∈ H) (hdo:LCalls Tryz.prog w0 fi (#[]++#[.agg (List.toArray (celC (celA L h)))]++ca.toArray) (H) R) :LCalls Tryz.prog w0 152 #[.pointer (some ⟨mb,0,none⟩),.agg (List.toArray (hdC h)),Value.func (.func fi) #[] ca.toArray] (H) (R):=by
 refine L_enter (l:=[.pointer (some ⟨mb,0,none⟩),.agg (List.toArray (hdC h)),Value.func (.func fi) #[] ca.toArray]) Tryz.func152 rfl Tryz.ntmps152 rfl rfl ?_
 refine W_sr ?_
 refine W_box rfl rfl rfl (fun b4 => ?_)
 refine W_assign rfl rfl ?_
 refine W_nil (W_seq (W_sr ?_))
 refine W_move rfl rfl ?_
 refine W_x (X_ptrNil rfl rfl ty65) (fun _ h => by cases h) rfl ?_
 refine W_nil ?_
 refine W_condF rfl rfl ?_
 refine W_skip (W_seq ?_)
 refine W_cutX (X:=Nat) (fun x => [(0,.pointer (some ⟨mb,0,none⟩)),(2,Value.func (.func fi) #[] ca.toArray),(7,.pointer (some ⟨x,0,none⟩)),(8,.int .i64 (errA L h))]) (fun x => (x,.cells 220 5 (celC (celA L h)))::(b4,.cells 40 2 (hdC h))::H) (fun _ => True) ?_ ?_
 ·skip
  refine W_anyC ((b4,.cells 40 2 (hdC h))::H) zk ?_
  refine WC_take 0 rfl zK zK zK rfl rfl (X_move rfl) rfl ?_
  refine WC_take 1 rfl zK zK zK rfl rfl (X_nilCheck rfl) rfl ?_
  refine WC_take 2 rfl zK zK zK rfl rfl (X_fieldAddr rfl fld217_3 zd) rfl ?_
  refine WC_take 3 rfl zK zK zK rfl rfl (X_load (v:=.pointer (some ⟨ab,0,none⟩)) rfl ty213 rfl (Cell.own (b:=mb) (by repeat (first | exact hm _ List.mem_cons_self | apply List.mem_cons_of_mem)) rfl)) rfl ?_
  refine WC_take 4 rfl zK zK zK rfl rfl (X_loadB (vs:=hdC h) rfl ty40 rfl (b:=b4) zM rfl rfl) rfl ?_
  refine WC_two 5 9 (l':=#[true,true,true,true,true,true,false,false,false,false,false,false]) (l'':=#[true,true,true,true,true,false,false,false,false,true,false,false]) zH zK rfl rfl zK zK ?_ ?_
  ·skip
   refine W_callq (.cons rfl (.cons rfl .nil)) Tryz.call245 rfl (hA.get (h:=h) (fun p hp => by repeat (first | exact hm p (List.mem_cons_of_mem _ (List.mem_append_left _ hp)) | apply List.mem_cons_of_mem))) ?_
   refine W_nil ?_
   refine WC_goal ?_
   refine WC_take 6 rfl zK zK zK rfl rfl (X_move rfl) rfl ?_
   refine WC_take 7 rfl zK zK zK rfl rfl (X_extract rfl rfl) rfl ?_
   refine WC_take 8 rfl zK zK zK rfl rfl (X_extract rfl rfl) rfl ?_
   refine WC_one 9 zH zK rfl rfl ?_
   refine W_alloc (l:=celC zCel) ty220 rfl rfl (fun b7 => ?_)
   refine W_nil ?_
   refine WC_goal ?_
   refine WC_one 10 zH zK rfl rfl ?_
   refine W_storeA (l':=celC (celA L h)) rfl rfl ty220 rfl rfl (b:=b7) zM (by exact Nat.le_refl 5) rfl zU ?_
   refine W_nil ?_
   refine WC_goal ?_
   refine WC_take 11 rfl zK zK zK rfl rfl (X_assign rfl) rfl ?_
   refine WC_done zH zK ?_
   refine W_joinX b7 trivial (sub_cons rfl (sub_cons rfl (sub_cons rfl (sub_cons rfl (sub_nil _))))) zH
  ·skip
   refine W_alloc (l:=celC zCel) ty220 rfl rfl (fun b7 => ?_)
   refine W_nil ?_
   refine WC_goal ?_
   refine WC_one 5 zH zK rfl rfl ?_
   refine W_callq (.cons rfl (.cons rfl .nil)) Tryz.call245 rfl (hA.get (h:=h) (fun p hp => by repeat (first | exact hm p (List.mem_cons_of_mem _ (List.mem_append_left _ hp)) | apply List.mem_cons_of_mem))) ?_
   refine W_nil ?_
   refine WC_goal ?_
   refine WC_take 6 rfl zK zK zK rfl rfl (X_move rfl) rfl ?_
   refine WC_take 7 rfl zK zK zK rfl rfl (X_extract rfl rfl) rfl ?_
   refine WC_take 8 rfl zK zK zK rfl rfl (X_extract rfl rfl) rfl ?_
   refine WC_one 10 zH zK rfl rfl ?_
   refine W_storeA (l':=celC (celA L h)) rfl rfl ty220 rfl rfl (b:=b7) zM (by exact Nat.le_refl 5) rfl zU ?_
   refine W_nil ?_
   refine WC_goal ?_
   refine WC_take 11 rfl zK zK zK rfl rfl (X_assign rfl) rfl ?_
   refine WC_done zH zK ?_
   refine W_joinX b7 trivial (sub_cons rfl (sub_cons rfl (sub_cons rfl (sub_cons rfl (sub_nil _))))) zH
 rintro b7 -
 refine W_seq (W_sr ?_)
 refine W_move rfl rfl ?_
 refine W_bin rfl rfl b_neq rfl ?_
 refine W_nil ?_
 refine W_condF rfl (decide_eq_false (fun h => h he)) ?_
 refine W_skip (W_sr ?_)
 refine W_move rfl rfl ?_
 refine W_loadB (vs:=celC (celA L h)) rfl ty220 rfl (b:=b7) zM rfl rfl rfl ?_
 refine W_callv (fa:=#[]) (ca:=ca.toArray) rfl (.cons rfl .nil) hfi rfl (hdo.hsub zH) ?_
 rintro v H' hR
 refine W_assign rfl rfl ?_
 refine W_nil ?_
 refine W_ret1m (H2:=H') Tryz.results152 rfl (.nil _) zH ?_
 exact hR
theorem key1_L {w0:World} {H:Heap} {c:Cel} {b6:Nat} {z:Int} :LCalls Tryz.prog w0 153 #[.agg (List.toArray (celC c)),.pointer (some ⟨b6,0,none⟩)] ((b6,.cells 30 1 [.int .u64 z])::H) (fun v H' => v=.int .i64 0∧H'=(b6,.cells 30 1 [.int .u64 c.key])::H):=by
 refine L_enter (l:=[.agg (List.toArray (celC c)),.pointer (some ⟨b6,0,none⟩)]) Tryz.func153 rfl Tryz.ntmps153 rfl rfl ?_
 refine W_sr ?_
 refine W_box (l:=celC c) rfl rfl rfl (fun b2 => ?_)
 refine W_assign rfl rfl ?_
 refine W_nil (W_sr ?_)
 refine W_fieldAddr rfl fld220_0 zd rfl ?_
 refine W_load (v:=.int .u64 c.key) rfl ty30 rfl (Cell.own (b:=b2) zM rfl) rfl ?_
 refine W_store (l':=[.int .u64 c.key]) rfl rfl ty30 rfl rfl (b:=b6) zM rfl rfl zU ?_
 refine W_nil (W_sr ?_)
 refine W_assign rfl rfl ?_
 refine W_nil ?_
 refine W_ret1m (H2:=(b6,.cells 30 1 [.int .u64 c.key])::H) Tryz.results153 rfl (.nil _) zH ?_
 exact ⟨rfl,rfl⟩
theorem Key_q {w0:World} {H:Heap} {mb ab tb bo kind entries words:Nat} {closed:Bool} {L:List Slt} {C:List (Int × Hd)} {HA HT HO:Heap} (hA:AreH ab L HA) (hB:TabH tb entries C HT) {h:Hd} (hm:∀ p ∈ ((mb,.cells 217 7 [.int .i64 (kind:Int),.int .i64 (entries:Int),.int .i64 (words:Int),.pointer (some ⟨ab,0,none⟩),.pointer (some ⟨tb,0,none⟩),.pointer (some ⟨bo,0,none⟩),.bool closed])::(HA++(HT++HO))),p ∈ H) :PureAt Tryz.prog w0 H 66 [.pointer (some ⟨mb,0,none⟩),.agg (List.toArray (hdC h))] (.tuple #[.int .u64 (celA L h).key,.int .i64 (errA L h)]):=by
 refine L_enter Tryz.func66 rfl Tryz.ntmps66 rfl rfl ?_
 by_cases he:errA L h=0
 ·skip
  refine W_sr ?_
  refine W_box (l:=hdC h) rfl rfl rfl (fun b3 => ?_)
  refine W_assign rfl rfl ?_
  refine W_assign rfl rfl ?_
  refine W_nil (W_sr ?_)
  refine W_alloc (l:=[.int .u64 0]) ty30 rfl rfl (fun b6 => ?_)
  refine W_nil (W_sr ?_)
  refine W_move rfl rfl ?_
  refine W_loadB (vs:=hdC h) rfl ty40 rfl (b:=b3) zM rfl rfl rfl ?_
  refine W_makeFunc .nil (.cons rfl .nil) rfl ?_
  refine W_call (.cons rfl (.cons rfl (.cons rfl .nil))) Tryz.call152 rfl (with_yes (ca:=[.pointer (some ⟨b6,0,none⟩)]) hA hB Tryz.call153 he (HO:=HO) (closed:=closed) (kind:=kind) (words:=words) (fun p hp => by repeat (first | exact hm p hp | apply List.mem_cons_of_mem)) (key1_L (c:=celA L h) (z:=0))) ?_
  rintro v H' ⟨rfl,rfl⟩
  refine W_assign rfl rfl ?_
  refine W_nil (W_sr ?_)
  refine W_load (v:=.int .u64 (celA L h).key) rfl ty30 rfl (Cell.own (b:=b6) zM rfl) rfl ?_
  refine W_move rfl rfl ?_
  refine W_assign rfl rfl ?_
  refine W_assign rfl rfl ?_
  refine W_nil ?_
  refine W_ret2m (H2:=H) Tryz.results66 rfl rfl (.nil _) zH ?_
  exact ⟨by rw [he],rfl⟩
 ·skip
  refine W_sr ?_
  refine W_box (l:=hdC h) rfl rfl rfl (fun b3 => ?_)
  refine W_assign rfl rfl ?_
  refine W_assign rfl rfl ?_
  refine W_nil (W_sr ?_)
  refine W_alloc (l:=[.int .u64 0]) ty30 rfl rfl (fun b6 => ?_)
  refine W_nil (W_sr ?_)
  refine W_move rfl rfl ?_
  refine W_loadB (vs:=hdC h) rfl ty40 rfl (b:=b3) zM rfl rfl rfl ?_
  refine W_makeFunc .nil (.cons rfl .nil) rfl ?_
  refine W_callq (.cons rfl (.cons rfl (.cons rfl .nil))) Tryz.call152 rfl (with_no (ca:=[.pointer (some ⟨b6,0,none⟩)]) hA hB he (HO:=HO) (closed:=closed) (kind:=kind) (words:=words) (fun p hp => by repeat (first | exact hm p hp | apply List.mem_cons_of_mem))) ?_
  refine W_assign rfl rfl ?_
  refine W_nil (W_sr ?_)
  refine W_load (v:=.int .u64 0) rfl ty30 rfl (Cell.own (b:=b6) zM rfl) rfl ?_
  refine W_move rfl rfl ?_
  refine W_assign rfl rfl ?_
  refine W_assign rfl rfl ?_
  refine W_nil ?_
  refine W_ret2m (H2:=H) Tryz.results66 rfl rfl (.nil _) zH ?_
  exact ⟨by rw [(errA_no he).1]; rfl,rfl⟩
theorem linked1_L {w0:World} {H:Heap} {mb ab tb bo b2 b3 b5 kind entries words:Nat} {closed:Bool} {C:List (Int × Hd)} {HA HT HO:Heap} (hB:TabH tb entries C HT) {c:Cel} {h:Hd} (hm:∀ p ∈ ((mb,.cells 217 7 [.int .i64 (kind:Int),.int .i64 (entries:Int),.int .i64 (words:Int),.pointer (some ⟨ab,0,none⟩),.pointer (some ⟨tb,0,none⟩),.pointer (some ⟨bo,0,none⟩),.bool closed])::(HA++(HT++HO))),p ∈ H) :LCalls Tryz.prog w0 343 #[.agg (List.toArray (celC c)),.pointer (some ⟨b2,0,none⟩),.pointer (some ⟨b3,0,none⟩),.pointer (some ⟨b5,0,none⟩)] ((b5,.cells 4 1 [.bool false])::(b3,.cells 40 2 (hdC h))::(b2,.cells 65 1 [.pointer (some ⟨mb,0,none⟩)])::H) (fun v H' => (∃ e,v=.int .i64 e)∧H'=(b5,.cells 4 1 [.bool (decide (fndC C c.key=some h))])::(b3,.cells 40 2 (hdC h))::(b2,.cells 65 1 [.pointer (some ⟨mb,0,none⟩)])::H):=by
 refine L_enter (l:=[.agg (List.toArray (celC c)),.pointer (some ⟨b2,0,none⟩),.pointer (some ⟨b3,0,none⟩),.pointer (some ⟨b5,0,none⟩)]) Tryz.func343 rfl Tryz.ntmps343 rfl rfl ?_
 refine W_sr ?_
 refine W_box (l:=celC c) rfl rfl rfl (fun b4 => ?_)
 refine W_assign rfl rfl ?_
 refine W_nil (W_sr ?_)
 refine W_load (v:=.pointer (some ⟨mb,0,none⟩)) rfl ty65 rfl (Cell.own (b:=b2) zM rfl) rfl ?_
 refine W_fieldAddr rfl fld220_0 zd rfl ?_
 refine W_load (v:=.int .u64 c.key) rfl ty30 rfl (Cell.own (b:=b4) zM rfl) rfl ?_
 refine W_callq (.cons rfl (.cons rfl .nil)) Tryz.call142 rfl (Look_q hB (k:=c.key) (HA:=HA) (HO:=HO) (closed:=closed) (kind:=kind) (words:=words) (fun p hp => by repeat (first | exact hm p hp | apply List.mem_cons_of_mem))) ?_
 rcases hf:fndC C c.key with _ | g
 ·skip
  simp only [Option.getD_none,Option.isSome_none,Bool.false_eq_true,if_false]
  refine W_move rfl rfl ?_
  refine W_extract rfl rfl rfl ?_
  refine W_extract rfl rfl rfl ?_
  refine W_alloc (l:=hdC zHd) ty40 rfl rfl (fun b6 => ?_)
  refine W_storeA (l':=hdC zHd) rfl rfl ty40 rfl rfl (b:=b6) zM (by exact Nat.le_refl 2) rfl zU ?_
  refine W_assign rfl rfl ?_
  refine W_nil (W_sr ?_)
  refine W_move rfl rfl ?_
  refine W_bin rfl rfl b_eql rfl ?_
  rw [decide_eq_false (show ¬ (4:Int)=0 by decide)]
  refine W_move rfl rfl ?_
  refine W_gno rfl rfl rfl ?_
  refine W_gno rfl rfl rfl ?_
  refine W_gno rfl rfl rfl ?_
  first | refine W_pickt rfl rfl rfl ?_ | refine W_pickf rfl rfl rfl ?_
  refine W_store (l':=[.bool false]) rfl rfl ty4 rfl rfl (b:=b5) zM rfl rfl zU ?_
  refine W_nil (W_sr ?_)
  refine W_move rfl rfl ?_
  refine W_assign rfl rfl ?_
  refine W_nil ?_
  refine W_ret1m (H2:=(b5,.cells 4 1 [.bool false])::(b3,.cells 40 2 (hdC h))::(b2,.cells 65 1 [.pointer (some ⟨mb,0,none⟩)])::H) Tryz.results343 rfl (.nil _) zH ?_
  exact ⟨⟨_,rfl⟩,by rw [decide_eq_false (show ¬ (none:Option Hd)=some h from nofun)]⟩
 ·skip
  simp only [Option.getD_some,Option.isSome_some,if_true]
  refine W_move rfl rfl ?_
  refine W_extract rfl rfl rfl ?_
  refine W_extract rfl rfl rfl ?_
  refine W_alloc (l:=hdC zHd) ty40 rfl rfl (fun b6 => ?_)
  refine W_storeA (l':=hdC g) rfl rfl ty40 rfl rfl (b:=b6) zM (by exact Nat.le_refl 2) rfl zU ?_
  refine W_assign rfl rfl ?_
  refine W_nil (W_sr ?_)
  refine W_move rfl rfl ?_
  refine W_bin rfl rfl b_eql rfl ?_
  rw [decide_eq_true (show (0:Int)=0 from rfl)]
  refine W_move rfl rfl ?_
  refine W_gyes rfl rfl ?_
  refine W_loadB (vs:=hdC g) rfl ty40 rfl (b:=b6) zM rfl rfl rfl ?_
  refine W_gyes rfl rfl ?_
  refine W_loadB (vs:=hdC h) rfl ty40 rfl (b:=b3) zM rfl rfl rfl ?_
  refine W_gyes rfl rfl ?_
  refine W_x (X_eqF (f:=hdC) rfl rfl flat40 agg40 hdC_like hdC_inj gt40 zd) (fun _ h => by cases h) rfl ?_
  first | refine W_pickt rfl rfl rfl ?_ | refine W_pickf rfl rfl rfl ?_
  refine W_store (l':=[.bool (decide (g=h))]) rfl rfl ty4 rfl rfl (b:=b5) zM rfl rfl zU ?_
  refine W_nil (W_sr ?_)
  refine W_move rfl rfl ?_
  refine W_assign rfl rfl ?_
  refine W_nil ?_
  refine W_ret1m (H2:=(b5,.cells 4 1 [.bool (decide (g=h))])::(b3,.cells 40 2 (hdC h))::(b2,.cells 65 1 [.pointer (some ⟨mb,0,none⟩)])::H) Tryz.results343 rfl (.nil _) zH ?_
  exact ⟨⟨_,rfl⟩,by rw [show decide (some g=some h)=decide (g=h) from decide_eq_decide.2 (by simp)]⟩
theorem Linked_q {w0:World} {H:Heap} {mb ab tb bo kind entries words:Nat} {closed:Bool} {L:List Slt} {C:List (Int × Hd)} {HA HT HO:Heap} (hA:AreH ab L HA) (hB:TabH tb entries C HT) {h:Hd} (used:List Int) (hm:∀ p ∈ ((mb,.cells 217 7 [.int .i64 (kind:Int),.int .i64 (entries:Int),.int .i64 (words:Int),.pointer (some ⟨ab,0,none⟩),.pointer (some ⟨tb,0,none⟩),.pointer (some ⟨bo,0,none⟩),.bool closed])::(HA++(HT++HO))),p ∈ H) :PureAt Tryz.prog w0 H 254 [.pointer (some ⟨mb,0,none⟩),.agg (List.toArray (hdC h))] (.bool (Xm.linked (⟨kind,entries,words,closed,L,C,used⟩:Xm) h)):=by
 refine L_enter Tryz.func254 rfl Tryz.ntmps254 rfl rfl ?_
 by_cases he:errA L h=0
 ·skip
  refine W_sr ?_
  refine W_box (l:=[.pointer (some ⟨mb,0,none⟩)]) rfl rfl rfl (fun b2 => ?_)
  refine W_box (l:=hdC h) rfl rfl rfl (fun b3 => ?_)
  refine W_assign rfl rfl ?_
  refine W_nil (W_sr ?_)
  refine W_alloc (l:=[.bool false]) ty4 rfl rfl (fun b5 => ?_)
  refine W_store (l':=[.bool false]) rfl rfl ty4 rfl rfl (b:=b5) zM rfl rfl zU ?_
  refine W_nil (W_sr ?_)
  refine W_load (v:=.pointer (some ⟨mb,0,none⟩)) rfl ty65 rfl (Cell.own (b:=b2) zM rfl) rfl ?_
  refine W_loadB (vs:=hdC h) rfl ty40 rfl (b:=b3) zM rfl rfl rfl ?_
  refine W_makeFunc .nil (.cons rfl (.cons rfl (.cons rfl .nil))) rfl ?_
  refine W_call (.cons rfl (.cons rfl (.cons rfl .nil))) Tryz.call152 rfl (with_yes (ca:=[.pointer (some ⟨b2,0,none⟩),.pointer (some ⟨b3,0,none⟩),.pointer (some ⟨b5,0,none⟩)]) hA hB (HO:=HO) (closed:=closed) (kind:=kind) (words:=words) Tryz.call343 he (fun p hp => by repeat (first | exact hm p hp | apply List.mem_cons_of_mem)) (linked1_L hB (c:=celA L h) (h:=h) hm)) ?_
  rintro v H' ⟨⟨e1,rfl⟩,rfl⟩
  refine W_nil (W_sr ?_)
  refine W_load (v:=.bool (decide (fndC C (celA L h).key=some h))) rfl ty4 rfl (Cell.own (b:=b5) zM rfl) rfl ?_
  refine W_assign rfl rfl ?_
  refine W_nil ?_
  refine W_ret1m (H2:=H) Tryz.results254 rfl (.nil _) zH ?_
  exact ⟨by unfold Xm.linked; rw [decide_eq_true he,Bool.true_and],rfl⟩
 ·skip
  refine W_sr ?_
  refine W_box (l:=[.pointer (some ⟨mb,0,none⟩)]) rfl rfl rfl (fun b2 => ?_)
  refine W_box (l:=hdC h) rfl rfl rfl (fun b3 => ?_)
  refine W_assign rfl rfl ?_
  refine W_nil (W_sr ?_)
  refine W_alloc (l:=[.bool false]) ty4 rfl rfl (fun b5 => ?_)
  refine W_store (l':=[.bool false]) rfl rfl ty4 rfl rfl (b:=b5) zM rfl rfl zU ?_
  refine W_nil (W_sr ?_)
  refine W_load (v:=.pointer (some ⟨mb,0,none⟩)) rfl ty65 rfl (Cell.own (b:=b2) zM rfl) rfl ?_
  refine W_loadB (vs:=hdC h) rfl ty40 rfl (b:=b3) zM rfl rfl rfl ?_
  refine W_makeFunc .nil (.cons rfl (.cons rfl (.cons rfl .nil))) rfl ?_
  refine W_callq (.cons rfl (.cons rfl (.cons rfl .nil))) Tryz.call152 rfl (with_no (ca:=[.pointer (some ⟨b2,0,none⟩),.pointer (some ⟨b3,0,none⟩),.pointer (some ⟨b5,0,none⟩)]) hA hB he (HO:=HO) (closed:=closed) (kind:=kind) (words:=words) (fun p hp => by repeat (first | exact hm p hp | apply List.mem_cons_of_mem))) ?_
  refine W_nil (W_sr ?_)
  refine W_load (v:=.bool false) rfl ty4 rfl (Cell.own (b:=b5) zM rfl) rfl ?_
  refine W_assign rfl rfl ?_
  refine W_nil ?_
  refine W_ret1m (H2:=H) Tryz.results254 rfl (.nil _) zH ?_
  exact ⟨by unfold Xm.linked; rw [decide_eq_false he,Bool.false_and],rfl⟩
def sortU (l:List Int):List Int:=l.mergeSort (fun a b => decide (a≤b))
noncomputable def Xm.keys (x:Xm):List Int:=if x.kind=2 then x.used else if x.kind=0 then sortU (keysC x.C) else keysC x.C
theorem Held_qm {w0:World} {H:Heap} {mb ab tb bo kind entries words:Nat} {closed:Bool} {L:List Slt} {C:List (Int × Hd)} {HA HT HO:Heap} (hA:AreH ab L HA) (hB:TabH tb entries C HT) (hm:∀ p ∈ ((mb,.cells 217 7 [.int .i64 (kind:Int),.int .i64 (entries:Int),.int .i64 (words:Int),.pointer (some ⟨ab,0,none⟩),.pointer (some ⟨tb,0,none⟩),.pointer (some ⟨bo,0,none⟩),.bool closed])::(HA++(HT++HO))),p ∈ H) :PureAt Tryz.prog w0 H 43 [.pointer (some ⟨mb,0,none⟩)] (.int .i64 ((cntA 1 L:Nat):Int)):=by
 refine L_enter Tryz.func43 rfl Tryz.ntmps43 rfl rfl ?_
 refine W_sr ?_
 refine W_assign rfl rfl ?_
 refine W_nil (W_seq (W_sr ?_))
 refine W_move rfl rfl ?_
 refine W_x (X_ptrNil rfl rfl ty65) (fun _ h => by cases h) rfl ?_
 refine W_nil ?_
 refine W_condF rfl rfl ?_
 refine W_skip (W_sr ?_)
 refine W_move rfl rfl ?_
 refine W_nilCheck rfl rfl ?_
 refine W_fieldAddr rfl fld217_3 zd rfl ?_
 refine W_load (v:=.pointer (some ⟨ab,0,none⟩)) rfl ty213 rfl (Cell.own (b:=mb) (by repeat (first | exact hm _ List.mem_cons_self | apply List.mem_cons_of_mem)) rfl) rfl ?_
 refine W_callq (.cons rfl .nil) Tryz.call125 rfl (hA.lenq (fun p hp => by repeat (first | exact hm p (List.mem_cons_of_mem _ (List.mem_append_left _ hp)) | apply List.mem_cons_of_mem))) ?_
 refine W_assign rfl rfl ?_
 refine W_nil ?_
 refine W_ret1m (H2:=H) Tryz.results43 rfl (.nil _) zH ?_
 exact ⟨rfl,rfl⟩
end Go.Proofs.YtincjohoncljoaaGreatDoor
