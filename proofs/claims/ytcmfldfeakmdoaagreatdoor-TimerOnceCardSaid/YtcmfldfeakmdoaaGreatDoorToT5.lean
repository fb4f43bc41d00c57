/-
  Own work: contracts of functions that the statement reaches, and plain facts on what they compute; each theorem says its conditions.
-/
import Derived.Test.YtcmfldfeakmdoaaGreatDoorToT4
import Derived.Test.YtcmfldfeakmdoaaGreatDoorToS2
import Derived.Test.YtcmfldfeakmdoaaGreatDoorShelf
import Derived.Test.YtcmfldfeakmdoaaGreatDoorToS1
import Derived.Test.YtcmfldfeakmdoaaGreatDoorToA
set_option linter.all false
set_option linter.unusedSimpArgs false
set_option linter.unusedVariables false
namespace Go.Proofs.YtcmfldfeakmdoaaGreatDoor
open Go Go.Sl
attribute [local irreducible] W
open Go.Proofs
theorem cmp_reads {now turn c bw bm b2 : Nat} {L : List Tm} {sl : List Value} {XS : List Heap} {bs : List Nat} {l : Ents Int} (h : WhIs now L sl XS bs l c turn) {w0 : World} {H : Heap} {C : World → Prop} (hC : ∀ w, C w → C w.drew) (hCS : ∀ w, C w → Sat w0 ((b2, .cells 133 1 [.pointer (some ⟨bw, 0, none⟩)]) :: (bw, .cells 167 523 (whRow now sl bs bm turn)) :: (bm, .obj (mapO (Value.int .i64) l c)) :: H) w) (x y : Int) :
    ∀ w, C w → CallsIn Fence.wide 0 Tryz.prog 129 [(Value.int .i64) x, (Value.int .i64) y, .pointer (some ⟨b2, 0, none⟩)].toArray w fun e w' => e = .returned (.int .i64 (Lib.compareInt (tvN L x : Int) (tvN L y : Int))) ∧ C w' := by
  obtain ⟨ex, hx⟩ := h.ent x
  obtain ⟨ey, hy⟩ := h.ent y
  refine R_enter Tryz.func129 rfl Tryz.ntmps129 rfl rfl rfl (by kernel_rfl) (by decide +kernel) hC ?_
  refine WR_x (Ex.mono hCS (X_load (v := .pointer (some ⟨bw, 0, none⟩)) rfl ty133 rfl (Cell.own (b := b2) zM rfl))) rfl ?_
  refine WR_x (Ex.mono hCS (X_nilCheck rfl)) rfl ?_
  refine WR_x (Ex.mono hCS (X_fieldAddr rfl fld167_3 (by decide))) rfl ?_
  refine WR_x (Ex.mono hCS (X_load (v := .map (some bm)) rfl ty161 rfl (Cell.own (b := bw) zM (wh_map h.row)))) rfl ?_
  refine WR_x (Ex.mono hCS (X_move rfl)) rfl ?_
  refine WR_x (Ex.mono hCS (X_lookup (b := bm) (a := x) (zE := zEnt) rfl rfl keyI ty161 zEz zM)) rfl ?_
  simp only [Bool.false_eq_true, if_false]
  rw [hx]
  refine WR_x (Ex.mono hCS (X_field rfl fld169_1 rfl)) rfl ?_
  refine WR_x (Ex.mono hCS (X_load (v := .pointer (some ⟨bw, 0, none⟩)) rfl ty133 rfl (Cell.own (b := b2) zM rfl))) rfl ?_
  refine WR_x (Ex.mono hCS (X_nilCheck rfl)) rfl ?_
  refine WR_x (Ex.mono hCS (X_fieldAddr rfl fld167_3 (by decide))) rfl ?_
  refine WR_x (Ex.mono hCS (X_load (v := .map (some bm)) rfl ty161 rfl (Cell.own (b := bw) zM (wh_map h.row)))) rfl ?_
  refine WR_x (Ex.mono hCS (X_move rfl)) rfl ?_
  refine WR_x (Ex.mono hCS (X_lookup (b := bm) (a := y) (zE := zEnt) rfl rfl keyI ty161 zEz zM)) rfl ?_
  simp only [Bool.false_eq_true, if_false]
  rw [hy]
  refine WR_x (Ex.mono hCS (X_field rfl fld169_1 rfl)) rfl ?_
  refine WR_call (.cons rfl (.cons rfl .nil)) Tryz.call130 rfl (fun w _ => Tryz.cmp_Compare_int (tvN L x : Int) (tvN L y : Int) w) ?_
  refine WR_x (Ex.mono hCS (X_assign rfl)) rfl ?_
  exact WR_ret Tryz.results129 rfl
open Go.Proofs in
theorem sort_L {now turn c bw bm b2 : Nat} {L : List Tm} {sl : List Value} {XS : List Heap} {bs : List Nat} {l : Ents Int} (h : WhIs now L sl XS bs l c turn) {w0 : World} {H : Heap} {b tot cap : Nat} {d : List Int} (hd : d.length < 4611686018427387904) :
    LCalls Tryz.prog w0 128 #[.slice (some ⟨b, 0, none⟩) d.length cap, .func (.func 129) #[] #[.pointer (some ⟨b2, 0, none⟩)]] ((b, .cells 3 tot (d.map (Value.int .i64))) :: (b2, .cells 133 1 [.pointer (some ⟨bw, 0, none⟩)]) :: (bw, .cells 167 523 (whRow now sl bs bm turn)) :: (bm, .obj (mapO (Value.int .i64) l c)) :: H)
      (fun v H' => v = .tuple #[] ∧ ∃ d' : List Int, d'.Perm d ∧ (∀ (i j : Nat) x y, i < j → d'[i]? = some x → d'[j]? = some y → ltOf (fun x y => Lib.compareInt (tvN L x : Int) (tvN L y : Int)) y x = false) ∧ H' = (b, .cells 3 tot (d'.map (Value.int .i64))) :: (b2, .cells 133 1 [.pointer (some ⟨bw, 0, none⟩)]) :: (bw, .cells 167 523 (whRow now sl bs bm turn)) :: (bm, .obj (mapO (Value.int .i64) l c)) :: H) :=
  L_sort fun w hs => by
    have hlt : b < w.heap.size := (hs.own _ List.mem_cons_self).2.lt
    have := Tryz.slices_SortFunc (Value.int .i64) (fun _ => rfl) (fun x y => Lib.compareInt (tvN L x : Int) (tvN L y : Int)) (swo_key (fun x => (tvN L x : Int))) 129 #[.pointer (some ⟨b2, 0, none⟩)] b 0 cap d.toArray w Tryz.call129 (Go.Proofs.CmpReads.lays fun n os dk hdk x y => by
      have hsz : dk.size = d.length := by rw [hdk]; simp
      have hS : Sat w0 ((b, .cells 3 tot (dk.toList.map (Value.int .i64))) :: (b2, .cells 133 1 [.pointer (some ⟨bw, 0, none⟩)]) :: (bw, .cells 167 523 (whRow now sl bs bm turn)) :: (bm, .obj (mapO (Value.int .i64) l c)) :: H) (sortWorld (Value.int .i64) w b 0 n dk os) := sat_sortWorld hs hsz
      have h := cmp_reads (C := fun w' => ∃ q, w' = (sortWorld (Value.int .i64) w b 0 n dk os).drewN q) h (fun w' ⟨q, e⟩ => ⟨q + 1, by rw [e]; rfl⟩) (fun w' ⟨q, e⟩ => by rw [e]; exact (hS.drewN q).drop) x y _ ⟨0, rfl⟩
      exact callsIn_wide.1 h) (holds_row hs) hlt (by simpa using hd)
    simpa using this
theorem du_len {now at_ : Nat} {bs : List Nat} {L : List Tm} : ∀ n, (duL now at_ bs L n).length ≤ n * L.length
  | 0 => Nat.zero_le _
  | n + 1 => by
    have ih := du_len (now := now) (at_ := at_) (bs := bs) (L := L) n
    rw [Nat.add_mul]
    unfold duL
    split
    · omega
    · split
      · omega
      · split
        · rw [List.length_append]
          rename_i s _ _
          have := idsAt_len L (n * 64 + s)
          omega
        · omega
theorem OwnS.holds {w0 : World} {e : TypeId} {s : Nat} {ad : Option Addr} {n cap : Nat} {xs : List Value} {HB H : Heap} (h : OwnS e s (.slice ad n cap) n xs HB) (hs : ∀ p ∈ HB, p ∈ H) : Holds w0 H ad xs := by
  generalize hv : Value.slice ad n cap = v at h
  cases h with
  | nil => exact Holds.nil
  | own _ _ _ =>
    obtain ⟨rfl, _⟩ : ad = _ ∧ True := by simp at hv; exact ⟨hv.1, trivial⟩
    exact Holds.own (hs _ List.mem_cons_self)
set_option maxHeartbeats 4000000 in
theorem due_at {w0 : World} {H : Heap} {now turn c bw bm at_ : Nat} {L : List Tm} {sl : List Value} {XS : List Heap} {bs : List Nat} {l : Ents Int} (h : WhIs now L sl XS bs l c turn) (hnow : now ≤ 18446744073709551615) (hbs : ∀ z ∈ bs, z < 18446744073709551616) (hpos : 0 < (duL now at_ bs L 8).length) (hT : Tab w0) : LCalls Tryz.prog w0 110 #[.pointer (some ⟨bw, 0, none⟩), .int .u64 ((at_ : Nat) : Int)] ((bw, .cells 167 523 (whRow now sl bs bm turn)) :: (bm, .obj (mapO (Value.int .i64) l c)) :: (XS.flatten ++ H)) (fun v H' => ∃ (b cap : Nat) (d' : List Int), v = .slice (some ⟨b, 0, none⟩) d'.length cap ∧ d'.length ≤ cap ∧ cap ≤ maxLen ∧ d'.Perm (duL now at_ bs L 8) ∧ (∀ (i j : Nat) x y, i < j → d'[i]? = some x → d'[j]? = some y → ltOf (fun x y => Lib.compareInt (tvN L x : Int) (tvN L y : Int)) y x = false) ∧ H' = (b, .cells 3 (cap * 1) ((d').map (Value.int .i64))) :: (bw, .cells 167 523 (whRow now sl bs bm turn)) :: (bm, .obj (mapO (Value.int .i64) l c)) :: (XS.flatten ++ H)) := by
  have hlen0 := h.len
  have hdl0 := du_len (now := now) (at_ := at_) (bs := bs) (L := L) 8
  refine L_enter (l := [.pointer (some ⟨bw, 0, none⟩), .int .u64 ((at_ : Nat) : Int)]) Tryz.func110 rfl Tryz.ntmps110 rfl rfl ?_
  refine W_sr ?_
  refine W_box (l := [.pointer (some ⟨bw, 0, none⟩)]) rfl rfl rfl (fun b2 => ?_)
  refine W_box (l := [.int .u64 (at_ : Int)]) rfl rfl rfl (fun b3 => ?_)
  refine W_assign rfl rfl ?_
  refine W_nil ?_
  refine W_sr ?_
  refine W_alloc (l := [.slice none 0 0]) ty24 rfl rfl (fun b5 => ?_)
  refine W_nil ?_
  refine W_seq ?_
  refine W_sr ?_
  refine W_load (v := .pointer (some ⟨bw, 0, none⟩)) rfl ty133 rfl (Cell.own (b := b2) zM rfl) rfl ?_
  refine W_call (.cons rfl .nil) Tryz.call127 rfl (near_L (bw := bw)) ?_
  rintro v H' ⟨b1, rfl, rfl⟩
  refine W_nil ?_
  refine W_block ?_
  refine W_rangeFunc rfl Tryz.call140 ?_
  intro lp D r hst hpd hps hasg hbody hA
  have hr := loop_ready hst hpd
  show LCalls _ _ _ #[_, _] _ _
  refine ((near_iter (b1 := b1) (bw := bw) (bm := bm) (now := now) (turn := turn) (sl := sl) (bs := bs) (H := (lp, .obj (.loop r)) :: (D, .obj (.deferred (some []))) :: (b5, .cells 24 1 [.slice none 0 0]) :: (b3, .cells 22 1 [.int .u64 (at_ : Int)]) :: (b2, .cells 133 1 [.pointer (some ⟨bw, 0, none⟩)]) :: ([] ++ ((bm, .obj (mapO (Value.int .i64) l c)) :: (XS.flatten ++ H)))) hT h.row hnow hbs (fun n Hi => ∃ v X, OwnS 3 1 v (duL now at_ bs L n).length ((duL now at_ bs L n).map (Value.int .i64)) X ∧ Hi = (lp, .obj (.loop r)) :: (D, .obj (.deferred (some []))) :: (b5, .cells 24 1 [v]) :: (b3, .cells 22 1 [.int .u64 (at_ : Int)]) :: (b2, .cells 133 1 [.pointer (some ⟨bw, 0, none⟩)]) :: (X ++ ((bm, .obj (mapO (Value.int .i64) l c)) :: (XS.flatten ++ H)))) (fun n z Hi _ hz ha hJ => by obtain ⟨v, X, h1, h2⟩ := hJ; exact ⟨v, X, by rw [du_skip hz ha]; exact h1, h2⟩) ?_ ⟨_, [], OwnS.nil, rfl⟩).hsub (show HSub _ ((b1, .cells 133 1 [.pointer (some ⟨bw, 0, none⟩)]) :: (bw, .cells 167 523 (whRow now sl bs bm turn)) :: (lp, .obj (.loop r)) :: (D, .obj (.deferred (some []))) :: (b5, .cells 24 1 [.slice none 0 0]) :: (b3, .cells 22 1 [.int .u64 (at_ : Int)]) :: (b2, .cells 133 1 [.pointer (some ⟨bw, 0, none⟩)]) :: ((bm, .obj (mapO (Value.int .i64) l c)) :: (XS.flatten ++ H))) from zH)).mono ?_
  · intro n s z Hi hn hz ha hJ
    obtain ⟨v, X, hO, rfl⟩ := hJ
    obtain ⟨t, ht⟩ : ∃ t, t = timeT now n s := ⟨_, rfl⟩
    rw [← ht]
    have hs64 := (aroundN_is ha).1
    have hstep := du_some (now := now) (at_ := at_) (L := L) hz ha
    rw [← ht] at hstep
    refine round_intro hst hpd hA hps rfl hasg rfl rfl rfl zT ?_
    refine W_sr ?_
    refine W_alloc (l := zSpot.v) ty32 rfl rfl (fun b6 => ?_)
    refine W_storeA (l' := [.int .i64 (n : Int), .int .i64 (s : Int), .int .u64 0, .int .u64 0]) rfl rfl ty32 rfl rfl (b := b6) zM (by exact Nat.le_refl 4) rfl zU ?_
    refine W_nil ?_
    refine W_region ?_
    refine W_assign rfl rfl ?_
    refine W_nil ?_
    refine W_begin hst hpd zT hbody ?_
    refine W_block ?_
    refine W_sr ?_
    refine W_move rfl rfl ?_
    refine W_load (v := .int .u64 (at_ : Int)) rfl ty22 rfl (Cell.own (b := b3) zM rfl) rfl ?_
    refine W_bin rfl rfl b_eql rfl ?_
    refine W_nil ?_
    refine W_condPS (p := t = at_) rfl (by rw [decide_eq_true_eq]; exact Int.ofNat_inj) (fun q0 => ?_) (fun q0 => ?_)
    · skip
      obtain ⟨vs, Xs, hsl, hXs, hOs⟩ := h.own (n * 64 + s) (by omega)
      obtain ⟨ads, caps, rfl, _, _⟩ := hOs.shape
      have hlen := h.len
      have hil := idsAt_len L (n * 64 + s)
      have hdl := du_len (now := now) (at_ := at_) (bs := bs) (L := L) n
      have hn256 : n * L.length ≤ 8 * 256 := Nat.mul_le_mul (by omega) hlen
      have hmem : ∀ p ∈ Xs, p ∈ XS.flatten := fun p hp => List.mem_flatten.2 ⟨Xs, List.mem_of_getElem? hXs, hp⟩
      refine Rd.W_anyS [(b5, .cells 24 1 [v]), (b2, .cells 133 1 [.pointer (some ⟨bw, 0, none⟩)]), (b6, .cells 32 4 [.int .i64 (n : Int), .int .i64 (s : Int), .int .u64 0, .int .u64 0]), (bw, .cells 167 523 (whRow now sl bs bm turn))] 12 (by kernel_rfl) ?_
      refine Rd.WS_take 0 (l' := #[true, false, false, false, false, false, false, false, false, false, false, false, false]) rfl rfl (by decide +kernel) (by decide +kernel) (by decide +kernel) (by decide +kernel) (by decide +kernel) rfl (by decide +kernel) (X_load (v := v) rfl ty24 rfl (Cell.own (b := b5) zM rfl)) rfl ?_
      refine Rd.WS_take 1 (l' := #[true, true, false, false, false, false, false, false, false, false, false, false, false]) rfl rfl (by decide +kernel) (by decide +kernel) (by decide +kernel) (by decide +kernel) (by decide +kernel) rfl (by decide +kernel) (X_load (v := .pointer (some ⟨bw, 0, none⟩)) rfl ty133 rfl (Cell.own (b := b2) zM rfl)) rfl ?_
      refine Rd.WS_take 2 (l' := #[true, true, true, false, false, false, false, false, false, false, false, false, false]) rfl rfl (by decide +kernel) (by decide +kernel) (by decide +kernel) (by decide +kernel) (by decide +kernel) rfl (by decide +kernel) (X_fieldAddr rfl fld32_0 (by decide)) rfl ?_
      refine Rd.WS_take 3 (l' := #[true, true, true, true, false, false, false, false, false, false, false, false, false]) rfl rfl (by decide +kernel) (by decide +kernel) (by decide +kernel) (by decide +kernel) (by decide +kernel) rfl (by decide +kernel) (X_load (v := .int .i64 (n : Int)) rfl ty3 rfl (Cell.own (b := b6) zM rfl)) rfl ?_
      refine Rd.WS_take 4 (l' := #[true, true, true, true, true, false, false, false, false, false, false, false, false]) rfl rfl (by decide +kernel) (by decide +kernel) (by decide +kernel) (by decide +kernel) (by decide +kernel) rfl (by decide +kernel) (X_fieldAddr rfl fld32_1 (by decide)) rfl ?_
      refine Rd.WS_take 5 (l' := #[true, true, true, true, true, true, false, false, false, false, false, false, false]) rfl rfl (by decide +kernel) (by decide +kernel) (by decide +kernel) (by decide +kernel) (by decide +kernel) rfl (by decide +kernel) (X_load (v := .int .i64 (s : Int)) rfl ty3 rfl (Cell.own (b := b6) zM rfl)) rfl ?_
      refine Rd.WS_take 6 (l' := #[true, true, true, true, true, true, true, false, false, false, false, false, false]) rfl rfl (by decide +kernel) (by decide +kernel) (by decide +kernel) (by decide +kernel) (by decide +kernel) rfl (by decide +kernel) (X_nilCheck rfl) rfl ?_
      refine Rd.WS_take 7 (l' := #[true, true, true, true, true, true, true, true, false, false, false, false, false]) rfl rfl (by decide +kernel) (by decide +kernel) (by decide +kernel) (by decide +kernel) (by decide +kernel) rfl (by decide +kernel) (X_fieldAddr rfl fld167_1 (by decide)) rfl ?_
      refine Rd.WS_take 8 (l' := #[true, true, true, true, true, true, true, true, true, false, false, false, false]) rfl rfl (by decide +kernel) (by decide +kernel) (by decide +kernel) (by decide +kernel) (by decide +kernel) rfl (by decide +kernel) (X_indexAddrA (j := n) rfl rfl ty163 ty162 rfl hn (at_ := 1 + n * 64) (by omega)) rfl ?_
      refine Rd.WS_take 9 (l' := #[true, true, true, true, true, true, true, true, true, true, false, false, false]) rfl rfl (by decide +kernel) (by decide +kernel) (by decide +kernel) (by decide +kernel) (by decide +kernel) rfl (by decide +kernel) (X_indexAddrA (j := s) rfl rfl ty162 ty24 rfl hs64 (at_ := 1 + (n * 64 + s)) (by omega)) rfl ?_
      refine Rd.WS_take 10 (l' := #[true, true, true, true, true, true, true, true, true, true, true, false, false]) rfl rfl (by decide +kernel) (by decide +kernel) (by decide +kernel) (by decide +kernel) (by decide +kernel) rfl (by decide +kernel) (X_load (v := .slice ads (idsAt L (n * 64 + s)).length caps) rfl ty24 rfl (Cell.own (b := bw) zM (wh_sl h.row hsl))) rfl ?_
      refine Rd.WS_one 11 (l' := #[true, true, true, true, true, true, true, true, true, true, true, true, false]) zH rfl (by decide +kernel) rfl (by decide +kernel) ?_
      refine W_append (news := (idsAt L (n * 64 + s)).map (Value.int .i64)) (m := (idsAt L (n * 64 + s)).length) (HB := X) (H0 := (lp, .obj (.loop (Loop.at r .busy none))) :: (b6, .cells 32 4 [.int .i64 (n : Int), .int .i64 (s : Int), .int .u64 0, .int .u64 0]) :: (b1, .cells 133 1 [.pointer (some ⟨bw, 0, none⟩)]) :: (bw, .cells 167 523 (whRow now sl bs bm turn)) :: (D, .obj (.deferred (some []))) :: (b5, .cells 24 1 [v]) :: (b3, .cells 22 1 [.int .u64 (at_ : Int)]) :: (b2, .cells 133 1 [.pointer (some ⟨bw, 0, none⟩)]) :: ((bm, .obj (mapO (Value.int .i64) l c)) :: (XS.flatten ++ H))) rfl rfl ty24 ty3 rfl (by decide) hO (by rw [List.length_map, Nat.mul_one]) (OwnS.holds hOs (fun p hp => (by repeat (first | exact List.mem_append_left _ (hmem p hp) | exact List.mem_cons_self | apply List.mem_cons_of_mem | apply List.mem_append_right)))) (by rw [List.all_eq_true]; intro u hu; obtain ⟨q, _, rfl⟩ := List.mem_map.1 hu; rfl) (by simp only [maxLen]; omega) (by omega) zH rfl (fun v' X' hO' => ?_)
      refine W_nil ?_
      refine Rd.WS_goal ?_
      refine Rd.WS_last (l' := #[true, true, true, true, true, true, true, true, true, true, true, true, true]) zH (by decide +kernel) rfl (by decide +kernel) ?_
      have hv1 : v'.oneCell' = true := by obtain ⟨_, _, rfl, _⟩ := hO'.shape; rfl
      refine W_store (l' := [v']) rfl rfl ty24 hv1 rfl (b := b5) zM rfl rfl zU ?_
      refine W_nil ?_
      refine Rd.WC_goal ?_
      refine Rd.WC_done (.nil _) (by decide +kernel) ?_
      refine W_blk ?_
      refine W_endround zT ?_
      rw [hr]
      exact ⟨(lp, .obj (.loop r)) :: (D, .obj (.deferred (some []))) :: (b5, .cells 24 1 [v']) :: (b3, .cells 22 1 [.int .u64 (at_ : Int)]) :: (b2, .cells 133 1 [.pointer (some ⟨bw, 0, none⟩)]) :: (X' ++ ((bm, .obj (mapO (Value.int .i64) l c)) :: (XS.flatten ++ H))), zH, rfl, v', X', by rw [hstep, if_pos q0, List.length_append, List.map_append]; exact hO', rfl⟩
    · skip
      refine W_skip ?_
      refine W_blk ?_
      refine W_endround zT ?_
      rw [hr]
      exact ⟨(lp, .obj (.loop r)) :: (D, .obj (.deferred (some []))) :: (b5, .cells 24 1 [v]) :: (b3, .cells 22 1 [.int .u64 (at_ : Int)]) :: (b2, .cells 133 1 [.pointer (some ⟨bw, 0, none⟩)]) :: (X ++ ((bm, .obj (mapO (Value.int .i64) l c)) :: (XS.flatten ++ H))), zH, rfl, v, X, by rw [hstep, if_neg q0]; exact hO, rfl⟩
  · intro _ H' hp
    obtain ⟨Hi', hs, v, X, hO, rfl⟩ := hp
    obtain ⟨b, cap, rfl, rfl, hcap, hmax⟩ := OwnS.is hO hpos
    obtain ⟨d, hd⟩ : ∃ d, d = (duL now at_ bs L 8) := ⟨_, rfl⟩
    rw [← hd] at hs hcap ⊢
    have hs2 : HSub H' ((b1, .cells 133 1 [.pointer (some ⟨bw, 0, none⟩)]) :: (bw, .cells 167 523 (whRow now sl bs bm turn)) :: (lp, .obj (.loop r)) :: (D, .obj (.deferred (some []))) :: (b5, .cells 24 1 [.slice (some ⟨b, 0, none⟩) d.length cap]) :: (b3, .cells 22 1 [.int .u64 (at_ : Int)]) :: (b2, .cells 133 1 [.pointer (some ⟨bw, 0, none⟩)]) :: (b, .cells 3 (cap * 1) ((d).map (Value.int .i64))) :: (bm, .obj (mapO (Value.int .i64) l c)) :: (XS.flatten ++ H)) := hs
    refine ⟨.ready, none, (b1, .cells 133 1 [.pointer (some ⟨bw, 0, none⟩)]) :: (bw, .cells 167 523 (whRow now sl bs bm turn)) :: (D, .obj (.deferred (some []))) :: (b5, .cells 24 1 [.slice (some ⟨b, 0, none⟩) d.length cap]) :: (b3, .cells 22 1 [.int .u64 (at_ : Int)]) :: (b2, .cells 133 1 [.pointer (some ⟨bw, 0, none⟩)]) :: (b, .cells 3 (cap * 1) ((d).map (Value.int .i64))) :: (bm, .obj (mapO (Value.int .i64) l c)) :: (XS.flatten ++ H), by rw [hr]; exact hs2.trans zH, by decide, ?_⟩
    show W _ _ _ _ _ _ _ _ _
    refine W_blk ?_
    refine W_sr ?_
    refine W_load (v := .slice (some ⟨b, 0, none⟩) d.length cap) rfl ty24 rfl (Cell.own (b := b5) zM rfl) rfl ?_
    refine W_makeFunc .nil (.cons rfl .nil) rfl ?_
    refine W_call (.cons rfl (.cons rfl .nil)) Tryz.call128 rfl ((sort_L h (bw := bw) (bm := bm) (b2 := b2) (b := b) (tot := cap * 1) (cap := cap) (d := d) (H := (b1, .cells 133 1 [.pointer (some ⟨bw, 0, none⟩)]) :: (D, .obj (.deferred (some []))) :: (b5, .cells 24 1 [.slice (some ⟨b, 0, none⟩) d.length cap]) :: (b3, .cells 22 1 [.int .u64 (at_ : Int)]) :: (XS.flatten ++ H)) (by rw [hd]; omega)).hsub zH) ?_
    rintro v H' ⟨rfl, d', hp, hsrt, rfl⟩
    refine W_nil ?_
    refine W_sr ?_
    refine W_load (v := .slice (some ⟨b, 0, none⟩) d.length cap) rfl ty24 rfl (Cell.own (b := b5) zM rfl) rfl ?_
    refine W_assign rfl rfl ?_
    refine W_nil ?_
    refine W_ret1m (H2 := (b, .cells 3 (cap * 1) ((d').map (Value.int .i64))) :: (bw, .cells 167 523 (whRow now sl bs bm turn)) :: (bm, .obj (mapO (Value.int .i64) l c)) :: (XS.flatten ++ H)) Tryz.results110 rfl (.cons zT (.nil _)) zH ?_
    exact ⟨b, cap, d', by rw [hp.length_eq], by rw [hp.length_eq]; exact hcap, hmax, hp, hsrt, rfl⟩
end Go.Proofs.YtcmfldfeakmdoaaGreatDoor
namespace Go.Proofs.YtcmfldfeakmdoaaGreatDoor
open Go Go.Sl
attribute [local irreducible] W
def leastT : List Tm → Option Nat
  | [] => none
  | t :: L => match leastT L with
    | none => some t.s.due
    | some a => some (min t.s.due a)
theorem leastT_none : ∀ {L : List Tm}, leastT L = none ↔ L = []
  | [] => ⟨fun _ => rfl, fun _ => rfl⟩
  | t :: L => by
    unfold leastT
    cases leastT L <;> simp
theorem leastT_is : ∀ {L : List Tm} {a : Nat}, leastT L = some a → (∃ t ∈ L, t.s.due = a) ∧ ∀ t ∈ L, a ≤ t.s.due
  | [], a, h => by cases h
  | t :: L, a, h => by
    unfold leastT at h
    cases hl : leastT L with
    | none =>
      rw [hl] at h
      obtain rfl : t.s.due = a := Option.some.inj h
      obtain rfl := leastT_none.1 hl
      exact ⟨⟨t, List.mem_cons_self, rfl⟩, fun u hu => by rw [List.mem_singleton.1 hu]; exact Nat.le_refl _⟩
    | some b =>
      rw [hl] at h
      obtain rfl : min t.s.due b = a := Option.some.inj h
      obtain ⟨⟨u, hu, e⟩, h2⟩ := leastT_is hl
      refine ⟨?_, fun x hx => ?_⟩
      · by_cases c : t.s.due ≤ b
        · exact ⟨t, List.mem_cons_self, (Nat.min_eq_left c).symm⟩
        · exact ⟨u, List.mem_cons_of_mem _ hu, by omega⟩
      · rcases List.mem_cons.1 hx with rfl | hx
        · omega
        · have := h2 x hx; omega
theorem leastT_of {L : List Tm} {a : Nat} (h1 : ∃ t ∈ L, t.s.due = a) (h2 : ∀ t ∈ L, a ≤ t.s.due) : leastT L = some a := by
  obtain ⟨t, ht, rfl⟩ := h1
  cases hl : leastT L with
  | none => rw [leastT_none.1 hl] at ht; cases ht
  | some b =>
    obtain ⟨⟨u, hu, e⟩, h3⟩ := leastT_is hl
    have := h3 t ht
    have := h2 u hu
    rw [show b = t.s.due by omega]
section
variable {now turn c : Nat} {L : List Tm} {sl : List Value} {XS : List Heap} {bs : List Nat} {l : Ents Int}
theorem WhIs.bsOk (h : WhIs now L sl XS bs l c turn) : ∀ z ∈ bs, z < 18446744073709551616 := fun z hz => by
  obtain ⟨n, hn, e⟩ := List.getElem_of_mem hz
  obtain ⟨z', h1, h2, _⟩ := h.busy n (by rw [h.row.bs] at hn; exact hn)
  rw [List.getElem?_eq_getElem hn, e] at h1
  obtain rfl := Option.some.inj h1
  exact h2
theorem WhIs.nxIs (h : WhIs now L sl XS bs l c turn) (hnow : now ≤ 18446744073709551615) : nx now bs 8 = leastT L := by
  rcases nx_least h hnow 8 (Nat.le_refl _) with ⟨h1, h2⟩ | ⟨a, h1, ⟨t, h2, h3, h4⟩, h5⟩
  · rw [h1]
    cases L with
    | nil => rfl
    | cons t L => have := h2 t List.mem_cons_self; have := (h.spot t List.mem_cons_self).1; omega
  · rw [h1, leastT_of ⟨t, h2, h4⟩ (fun u hu => h5 u hu (h.spot u hu).1)]
end
theorem WheelH.ids {bw now turn : Nat} {L : List Tm} {HW : Heap} (h : WheelH bw now L turn HW) : (L.map (·.id)).Nodup ∧ (∀ t ∈ L, 0 ≤ t.id ∧ t.id < 256) ∧ L.Pairwise (fun a b => a.turn < b.turn) ∧ L.length ≤ 256 := by
  cases h with
  | mk h => exact ⟨h.nodup, h.range, h.turns, h.len⟩
theorem WheelH.later {bw now turn : Nat} {L : List Tm} {HW : Heap} (h : WheelH bw now L turn HW) (hnow : now < 18446744073709551615) : ∀ t ∈ L, now < t.s.due := by
  cases h with
  | mk h =>
    intro t ht
    obtain ⟨num, _, e, h1, _⟩ := h.time t ht
    rw [e]; exact due_later hnow h1
theorem WheelH.now {bw now turn : Nat} {L : List Tm} {HW : Heap} (h : WheelH bw now L turn HW) : ∃ row HT, HW = (bw, .cells 167 523 row) :: HT ∧ row.length = 523 ∧ row[0]? = some (.int .u64 (now : Int)) ∧
    ∀ n2, now ≤ n2 → (∀ t ∈ L, n2 < t.s.due) → WheelH bw n2 L turn ((bw, .cells 167 523 (row.set 0 (.int .u64 (n2 : Int)))) :: HT) := by
  cases h with
  | mk h => exact ⟨_, _, rfl, wh_len h.row, wh_now, fun n2 h1 h2 => by rw [wh_setNow]; exact .mk (h.later h1 h2)⟩
theorem Next_W {w0 : World} {H HW : Heap} {bw now turn : Nat} {L : List Tm} (hT : Tab w0) (hW : WheelH bw now L turn HW) (hnow : now ≤ 18446744073709551615) :
    LCalls Tryz.prog w0 109 #[.pointer (some ⟨bw, 0, none⟩)] (HW ++ H) (fun v H' => v = .tuple #[.int .u64 (((leastT L).getD 0 : Nat) : Int), .bool (leastT L).isSome] ∧ H' = HW ++ H) := by
  cases hW with
  | @mk bm c sl XS bs l h =>
    have := Next_L (bm := bm) (turn := turn) (H := (bm, .obj (mapO (Value.int .i64) l c)) :: (XS.flatten ++ H)) h.row hnow h.bsOk hT (bw := bw)
    rw [h.nxIs hnow] at this
    exact this
def spotOf (L : List Tm) (id : Int) : Spot := match L.find? (fun t => decide (t.id = id)) with
  | some t => t.s
  | none => zSpot
theorem spotOf_in {L : List Tm} (h : (L.map (·.id)).Nodup) {t : Tm} (ht : t ∈ L) : spotOf L t.id = t.s := by
  unfold spotOf
  cases hf : L.find? (fun u => decide (u.id = t.id)) with
  | none => exact absurd (decide_eq_true rfl) (List.find?_eq_none.1 hf t ht)
  | some u =>
    have h1 := List.find?_some hf
    obtain rfl : u = t := tm_uniq h (List.mem_of_find?_eq_some hf) ht (of_decide_eq_true h1)
    rfl
theorem spotOf_out {L : List Tm} {id : Int} (h : id ∉ L.map (·.id)) : spotOf L id = zSpot := by
  unfold spotOf
  cases hf : L.find? (fun u => decide (u.id = id)) with
  | none => rfl
  | some u =>
    have h1 := List.find?_some hf
    have h2 : u.id = id := of_decide_eq_true h1
    exact absurd (h2 ▸ List.mem_map_of_mem (List.mem_of_find?_eq_some hf)) h
theorem due_W {w0 : World} {H HW : Heap} {bw now turn at_ : Nat} {L : List Tm} (hT : Tab w0) (hW : WheelH bw now L turn HW) (hnow : now ≤ 18446744073709551615) (hat : leastT L = some at_) :
    LCalls Tryz.prog w0 110 #[.pointer (some ⟨bw, 0, none⟩), .int .u64 ((at_ : Nat) : Int)] (HW ++ H) (fun v H' => ∃ XB, OwnS 3 1 v ((dueAt L at_).map (·.id)).length (((dueAt L at_).map (·.id)).map (Value.int .i64)) XB ∧ H' = XB ++ (HW ++ H)) := by
  cases hW with
  | @mk bm c sl XS bs l h =>
    obtain ⟨⟨t, ht, e⟩, h2⟩ := leastT_is hat
    have hperm := du_all h hnow h2
    have hpos : 0 < (duL now at_ bs L 8).length := by
      rw [hperm.length_eq]
      exact List.length_pos_of_mem (List.mem_map_of_mem (List.mem_filter.2 ⟨ht, decide_eq_true e⟩))
    refine (due_at (bm := bm) (H := H) h hnow h.bsOk hpos hT).mono ?_
    rintro v H' ⟨b, cap, d', rfl, hcap, hmax, hp, hs, rfl⟩
    obtain ⟨n1, n2⟩ := h.dueAsc at_
    obtain rfl := sorted_is (hp.trans hperm) n1 n2 hs
    exact ⟨_, .own (by rw [List.length_map, Nat.mul_one]) hcap hmax, rfl⟩
end Go.Proofs.YtcmfldfeakmdoaaGreatDoor
namespace Go.Proofs.YtcmfldfeakmdoaaGreatDoor
open Go Go.Sl
attribute [local irreducible] W
def ahead (a b : Tm) : Prop := a.s.due < b.s.due ∨ (a.s.due = b.s.due ∧ a.turn < b.turn)
structure ToS where
  nw : Nat
  Li : List Tm
  O : List Tm
  v : Value
  XO : Heap
  HW : Heap
structure Gone (now nw : Nat) (L Li O : List Tm) : Prop where
  le : now ≤ nw
  left : Li = L.filter (fun t => decide (nw < t.s.due))
  perm : O.Perm (L.filter (fun t => decide (t.s.due ≤ nw)))
  asc : O.Pairwise ahead
theorem Gone.start {now : Nat} {L : List Tm} (h : ∀ t ∈ L, now < t.s.due) : Gone now now L L [] where
  le := Nat.le_refl _
  left := (List.filter_eq_self.2 fun t ht => decide_eq_true (h t ht)).symm
  perm := by
    rw [List.filter_eq_nil_iff.2 (fun t ht => by have := h t ht; simp; omega)]
  asc := .nil
theorem Gone.len {now nw : Nat} {L Li O : List Tm} (h : Gone now nw L Li O) : O.length ≤ L.length := by
  rw [h.perm.length_eq]; exact List.length_filter_le _ _
theorem Gone.wait {now nw n2 : Nat} {L Li O : List Tm} (h : Gone now nw L Li O) (hn : nw ≤ n2) (hl : ∀ t ∈ Li, n2 < t.s.due) : Gone now n2 L Li O := by
  have hd : ∀ t ∈ L, nw < t.s.due → n2 < t.s.due := fun t ht h1 => hl t (by rw [h.left]; exact List.mem_filter.2 ⟨ht, decide_eq_true h1⟩)
  refine ⟨Nat.le_trans h.le hn, ?_, ?_, h.asc⟩
  · rw [h.left]
    exact List.filter_congr fun t ht => decide_eq_decide.2 ⟨hd t ht, fun h1 => by omega⟩
  · refine h.perm.trans ?_
    rw [List.filter_congr fun t ht => (decide_eq_decide.2 ⟨fun h1 => by omega, fun h1 => by
      by_cases c : nw < t.s.due
      · have := hd t ht c; omega
      · omega⟩ : decide (t.s.due ≤ nw) = decide (t.s.due ≤ n2))]
theorem dueAt_pairwise {Li : List Tm} {at_ : Nat} (h : Li.Pairwise (fun a b => a.turn < b.turn)) : (dueAt Li at_).Pairwise ahead := by
  have h1 : (dueAt Li at_).Pairwise (fun a b => a.turn < b.turn) := h.sublist List.filter_sublist
  refine List.Pairwise.imp_of_mem ?_ h1
  intro a b ha hb hab
  exact .inr ⟨by rw [of_decide_eq_true (List.mem_filter.1 ha).2, of_decide_eq_true (List.mem_filter.1 hb).2], hab⟩
theorem Gone.step {now nw at_ : Nat} {L Li O : List Tm} (h : Gone now nw L Li O) (hat : leastT Li = some at_) (hturn : Li.Pairwise (fun a b => a.turn < b.turn)) :
    Gone now at_ L (Li.filter (fun t => decide (t.s.due ≠ at_))) (O ++ dueAt Li at_) := by
  obtain ⟨⟨t0, ht0, e0⟩, hl⟩ := leastT_is hat
  have hnw : nw < at_ := by
    rw [h.left] at ht0
    have := of_decide_eq_true (List.mem_filter.1 ht0).2
    omega
  have hd : ∀ t ∈ L, nw < t.s.due → at_ ≤ t.s.due := fun t ht h1 => hl t (by rw [h.left]; exact List.mem_filter.2 ⟨ht, decide_eq_true h1⟩)
  refine ⟨Nat.le_trans h.le (Nat.le_of_lt hnw), ?_, ?_, ?_⟩
  · rw [h.left, List.filter_filter]
    refine List.filter_congr fun t ht => ?_
    rw [← Bool.decide_and]
    refine decide_eq_decide.2 ⟨fun ⟨h1, h2⟩ => ?_, fun h1 => ⟨by omega, by omega⟩⟩
    have := hd t ht h2; omega
  · refine (h.perm.append_right _).trans ?_
    have e : dueAt Li at_ = L.filter (fun t => decide (t.s.due = at_)) := by
      unfold dueAt
      rw [h.left, List.filter_filter]
      refine List.filter_congr fun t ht => ?_
      rw [← Bool.decide_and]
      exact decide_eq_decide.2 ⟨fun h1 => h1.1, fun h1 => ⟨h1, by omega⟩⟩
    rw [e]
    refine filter_or L fun t ht => ⟨?_, ?_⟩
    · simp only [decide_eq_true_eq]
      refine ⟨fun h1 => ?_, fun h1 => by omega⟩
      by_cases c : nw < t.s.due
      · have := hd t ht c; omega
      · omega
    · simp only [decide_eq_true_eq]; omega
  · rw [List.pairwise_append]
    refine ⟨h.asc, dueAt_pairwise hturn, fun a ha b hb => .inl ?_⟩
    have h1 := of_decide_eq_true (List.mem_filter.1 (h.perm.mem_iff.1 ha)).2
    have h2 := of_decide_eq_true (List.mem_filter.1 hb).2
    omega
theorem delsT_is (L : List Tm) : ∀ (l : List Int) (n : Nat), (l.foldl (fun (s : List Tm × Nat) id => (delT s.1 id, s.2 + if heldB s.1 id = true then 1 else 0)) (L, n)).1 = L.filter (fun t => decide (t.id ∉ l)) := by
  intro l
  induction l generalizing L with
  | nil => intro n; exact (List.filter_eq_self.2 fun t _ => by simp).symm
  | cons x l ih =>
    intro n
    rw [List.foldl_cons, ih]
    unfold delT
    rw [List.filter_filter]
    refine List.filter_congr fun t _ => ?_
    rw [← Bool.decide_and]
    exact decide_eq_decide.2 ⟨fun h h2 => (List.mem_cons.1 h2).elim h.2 h.1, fun h => ⟨fun h2 => h (List.mem_cons_of_mem _ h2), fun h2 => h (h2 ▸ List.mem_cons_self)⟩⟩
theorem dels_due {L : List Tm} {at_ : Nat} (hn : (L.map (·.id)).Nodup) : (delsT L ((dueAt L at_).map (·.id))).1 = L.filter (fun t => decide (t.s.due ≠ at_)) := by
  unfold delsT
  rw [delsT_is]
  refine List.filter_congr fun t ht => decide_eq_decide.2 ⟨fun h e => h (List.mem_map_of_mem (List.mem_filter.2 ⟨ht, decide_eq_true e⟩)), fun h e => ?_⟩
  obtain ⟨u, hu, e2⟩ := List.mem_map.1 e
  obtain rfl := tm_uniq hn (List.mem_filter.1 hu).1 ht e2
  exact h (of_decide_eq_true (List.mem_filter.1 hu).2)
theorem filter_lt {L : List Tm} {at_ : Nat} (h : leastT L = some at_) : (L.filter (fun t => decide (t.s.due ≠ at_))).length < L.length := by
  obtain ⟨⟨t, ht, e⟩, _⟩ := leastT_is h
  refine List.length_filter_lt_length_iff_exists.2 ⟨t, ht, ?_⟩
  simp [e]
set_option maxHeartbeats 1000000 in
theorem To_stay {w0 : World} {H : Heap} {bw now a : Nat} {row : List Value} {tot : Nat} (hw : (bw, .cells 167 tot row) ∈ H) (hr : row[0]? = some (.int .u64 (now : Int))) (hle : a ≤ now)  : PureAt Tryz.prog w0 H 86 [.pointer (some ⟨bw, 0, none⟩), .int .u64 ((a : Nat) : Int)] (.slice none 0 0) := by
  refine L_enter Tryz.func86 rfl Tryz.ntmps86 rfl rfl ?_
  refine W_sr ?_
  refine W_assign rfl rfl ?_
  refine W_nil ?_
  refine W_scope (fun _ _ _ h => h) ?_
  refine W_seq ?_
  refine W_sr ?_
  refine W_move rfl rfl ?_
  refine W_x (X_ptrNil rfl rfl ty133) (fun _ h => by cases h) rfl ?_
  refine W_move rfl rfl ?_
  refine W_gyes rfl rfl ?_
  refine W_move rfl rfl ?_
  refine W_gyes rfl rfl ?_
  refine W_move rfl rfl ?_
  refine W_gyes rfl rfl ?_
  refine W_nilCheck rfl rfl ?_
  refine W_gyes rfl rfl ?_
  refine W_fieldAddr rfl fld167_0 (by decide) rfl ?_
  refine W_gyes rfl rfl ?_
  refine W_load (v := .int .u64 (now : Int)) rfl ty22 rfl (Cell.own hw hr) rfl ?_
  refine W_gyes rfl rfl ?_
  refine W_bin rfl rfl b_leq rfl ?_
  first | refine W_pickt rfl rfl rfl ?_ | refine W_pickf rfl rfl rfl ?_
  refine W_nil ?_
  refine W_condT rfl (decide_eq_true (by omega)) ?_
  refine W_sr ?_
  refine W_assign rfl rfl ?_
  refine W_nil ?_
  refine W_ret1m (H2 := H) Tryz.results86 rfl (.nil _) zH ?_
  exact ⟨rfl, rfl⟩
set_option maxHeartbeats 1000000 in
theorem To_nilp {z : Int} : Pure Tryz.prog (fun _ => True) 86 [.pointer none, .int .u64 z] (.slice none 0 0) := by
  intro w0 H hT
  refine L_enter Tryz.func86 rfl Tryz.ntmps86 rfl rfl ?_
  refine W_sr ?_
  refine W_assign rfl rfl ?_
  refine W_nil ?_
  refine W_scope (fun _ _ _ h => h) ?_
  refine W_seq ?_
  refine W_sr ?_
  refine W_move rfl rfl ?_
  refine W_x (X_ptrNil rfl rfl ty133) (fun _ h => by cases h) rfl ?_
  refine W_move rfl rfl ?_
  refine W_gno rfl rfl rfl ?_
  refine W_gno rfl rfl rfl ?_
  refine W_gno rfl rfl rfl ?_
  refine W_gno rfl rfl rfl ?_
  refine W_gno rfl rfl rfl ?_
  refine W_gno rfl rfl rfl ?_
  first | refine W_pickt rfl rfl rfl ?_ | refine W_pickf rfl rfl rfl ?_
  refine W_nil ?_
  refine W_condT rfl rfl ?_
  refine W_sr ?_
  refine W_assign rfl rfl ?_
  refine W_nil ?_
  refine W_ret1m (H2 := H) Tryz.results86 rfl (.nil _) zH ?_
  exact ⟨rfl, rfl⟩
set_option maxHeartbeats 4000000 in
theorem To_L {w0 : World} {H : Heap} {HW : Heap} {bw now turn a : Nat} {L : List Tm} (hW : WheelH bw now L turn HW) (hlt : now < a) (ha : a ≤ 18446744073709551615) (hT : Tab w0) : LCalls Tryz.prog w0 86 #[.pointer (some ⟨bw, 0, none⟩), .int .u64 ((a : Nat) : Int)] (HW ++ H) (fun v H' => ∃ O Li HW' XO, WheelH bw a Li turn HW' ∧ Gone now a L Li O ∧ OwnS 3 1 v O.length ((O.map (·.id)).map (Value.int .i64)) XO ∧ H' = XO ++ (HW' ++ H)) := by
  obtain ⟨row0, HT0, rfl, hrl0, hr0, _⟩ := hW.now
  refine L_enter (l := [.pointer (some ⟨bw, 0, none⟩), .int .u64 ((a : Nat) : Int)]) Tryz.func86 rfl Tryz.ntmps86 rfl rfl ?_
  refine W_sr ?_
  refine W_assign rfl rfl ?_
  refine W_nil ?_
  refine W_scope (fun _ _ _ h => h) ?_
  refine W_seq ?_
  refine W_sr ?_
  refine W_move rfl rfl ?_
  refine W_x (X_ptrNil rfl rfl ty133) (fun _ h => by cases h) rfl ?_
  refine W_move rfl rfl ?_
  refine W_gyes rfl rfl ?_
  refine W_move rfl rfl ?_
  refine W_gyes rfl rfl ?_
  refine W_move rfl rfl ?_
  refine W_gyes rfl rfl ?_
  refine W_nilCheck rfl rfl ?_
  refine W_gyes rfl rfl ?_
  refine W_fieldAddr rfl fld167_0 (by decide) rfl ?_
  refine W_gyes rfl rfl ?_
  refine W_load (v := .int .u64 (now : Int)) rfl ty22 rfl (Cell.own (b := bw) zM hr0) rfl ?_
  refine W_gyes rfl rfl ?_
  refine W_bin rfl rfl b_leq rfl ?_
  first | refine W_pickt rfl rfl rfl ?_ | refine W_pickf rfl rfl rfl ?_
  refine W_nil ?_
  refine W_condF rfl (decide_eq_false (by omega)) ?_
  refine W_skip ?_
  refine W_sr ?_
  refine W_assign rfl rfl ?_
  refine W_nil ?_
  refine W_seq ?_
  refine W_label ?_
  refine W_seq ?_
  refine W_block ?_
  refine W_loopC (X := ToS) [(0, _), (1, _)] (fun (x : ToS) => [(5, x.v)]) (fun _ => _) (fun (x : ToS) => x.XO ++ (x.HW ++ H)) (fun (x : ToS) => (WheelH bw x.nw x.Li turn x.HW ∧ Gone now x.nw L x.Li x.O) ∧ x.nw ≤ a ∧ OwnS 3 1 x.v x.O.length ((x.O.map (·.id)).map (Value.int .i64)) x.XO) (fun (x : ToS) => x.Li.length) ⟨now, L, [], .slice none 0 0, [], (bw, .cells 167 523 row0) :: HT0⟩ ⟨⟨hW, Gone.start (hW.later (by omega))⟩, by show now ≤ a; omega, OwnS.nil⟩ (sub_cons rfl (sub_cons rfl (sub_nil _))) (sub_cons rfl (sub_nil _)) rfl (.refl _) ?_
  rintro ⟨nw, Li, O, v, XO, HWi⟩ ⟨hI, hna, hO⟩
  dsimp only at hI hna hO ⊢
  have hOl := hI.2.len
  have hLl : L.length ≤ 256 := hW.ids.2.2.2
  simp only [List.cons_append, List.nil_append]
  refine W_block ?_
  refine W_sr ?_
  refine W_move rfl rfl ?_
  obtain ⟨hW0, hG⟩ := hI
  have hids := hW0.ids
  have hnw : nw ≤ 18446744073709551615 := by omega
  refine W_call (.cons rfl .nil) Tryz.call109 rfl ((Next_W hT hW0 hnw (H := XO ++ H)).hsub zH) ?_
  rintro v' H' ⟨rfl, rfl⟩
  rcases hat : leastT Li with _ | at_
  · skip
    refine W_move rfl rfl ?_
    refine W_extract rfl rfl rfl ?_
    refine W_extract rfl rfl rfl ?_
    refine W_assign rfl rfl ?_
    refine W_assign rfl rfl ?_
    refine W_nil ?_
    refine W_seq ?_
    refine W_sr ?_
    refine W_move rfl rfl ?_
    refine W_not rfl rfl ?_
    refine W_move rfl rfl ?_
    refine W_gno rfl rfl rfl ?_
    refine W_gno rfl rfl rfl ?_
    refine W_gno rfl rfl rfl ?_
    first | refine W_pickt rfl rfl rfl ?_ | refine W_pickf rfl rfl rfl ?_
    refine W_nil ?_
    refine W_condT rfl rfl ?_
    refine W_exit rfl ?_
    refine W_sr ?_
    have hfin : ∀ t ∈ Li, a < t.s.due := by rw [leastT_none.1 hat]; intro t ht; cases ht
    obtain ⟨row, HT, rfl, hrl, hr0, hlat⟩ := hW0.now
    have hW2 := hlat a hna hfin
    have hG2 := hG.wait hna hfin
    refine W_hsub (H' := XO ++ ((bw, .cells 167 523 row) :: (HT ++ H))) (show HSub (((bw, .cells 167 523 row) :: HT) ++ (XO ++ H)) _ from (show HSub ((bw, .cells 167 523 row) :: (HT ++ (XO ++ H))) _ from zH)) ?_
    refine W_move rfl rfl ?_
    refine W_move rfl rfl ?_
    refine W_nilCheck rfl rfl ?_
    refine W_fieldAddr rfl fld167_0 (by decide) rfl ?_
    refine W_store (l' := (row.set 0 (.int .u64 (a : Int)))) rfl rfl ty22 rfl rfl (b := bw) zM (by rw [hrl]; rfl) rfl zU ?_
    refine W_nil ?_
    refine W_sr ?_
    refine W_move rfl rfl ?_
    refine W_assign rfl rfl ?_
    refine W_nil ?_
    refine W_ret1m (H2 := XO ++ ((bw, .cells 167 523 (row.set 0 (.int .u64 (a : Int)))) :: (HT ++ H))) Tryz.results86 rfl (.nil _) zH ?_
    exact ⟨O, Li, _, XO, hW2, hG2, hO, rfl⟩
  · skip
    refine W_move rfl rfl ?_
    refine W_extract rfl rfl rfl ?_
    refine W_extract rfl rfl rfl ?_
    refine W_assign rfl rfl ?_
    refine W_assign rfl rfl ?_
    refine W_nil ?_
    refine W_seq ?_
    refine W_sr ?_
    refine W_move rfl rfl ?_
    refine W_not rfl rfl ?_
    refine W_move rfl rfl ?_
    refine W_gyes rfl rfl ?_
    refine W_move rfl rfl ?_
    refine W_gyes rfl rfl ?_
    refine W_move rfl rfl ?_
    refine W_gyes rfl rfl ?_
    refine W_bin rfl rfl b_gtr rfl ?_
    first | refine W_pickt rfl rfl rfl ?_ | refine W_pickf rfl rfl rfl ?_
    refine W_nil ?_
    refine W_condPS (p := a < at_) rfl (by simp) (fun q0 => ?_) (fun q0 => ?_)
    · skip
      refine W_exit rfl ?_
      refine W_sr ?_
      have hfin : ∀ t ∈ Li, a < t.s.due := fun t ht => by have := (leastT_is hat).2 t ht; omega
      obtain ⟨row, HT, rfl, hrl, hr0, hlat⟩ := hW0.now
      have hW2 := hlat a hna hfin
      have hG2 := hG.wait hna hfin
      refine W_hsub (H' := XO ++ ((bw, .cells 167 523 row) :: (HT ++ H))) (show HSub (((bw, .cells 167 523 row) :: HT) ++ (XO ++ H)) _ from (show HSub ((bw, .cells 167 523 row) :: (HT ++ (XO ++ H))) _ from zH)) ?_
      refine W_move rfl rfl ?_
      refine W_move rfl rfl ?_
      refine W_nilCheck rfl rfl ?_
      refine W_fieldAddr rfl fld167_0 (by decide) rfl ?_
      refine W_store (l' := (row.set 0 (.int .u64 (a : Int)))) rfl rfl ty22 rfl rfl (b := bw) zM (by rw [hrl]; rfl) rfl zU ?_
      refine W_nil ?_
      refine W_sr ?_
      refine W_move rfl rfl ?_
      refine W_assign rfl rfl ?_
      refine W_nil ?_
      refine W_ret1m (H2 := XO ++ ((bw, .cells 167 523 (row.set 0 (.int .u64 (a : Int)))) :: (HT ++ H))) Tryz.results86 rfl (.nil _) zH ?_
      exact ⟨O, Li, _, XO, hW2, hG2, hO, rfl⟩
    · skip
      refine W_skip ?_
      refine W_sr ?_
      refine W_move rfl rfl ?_
      refine W_move rfl rfl ?_
      refine W_call (.cons rfl (.cons rfl .nil)) Tryz.call110 rfl (due_W hT hW0 hnw hat) ?_
      rintro vd H' ⟨XB, hB, rfl⟩
      obtain ⟨ads, caps, rfl, _, _⟩ := hB.shape
      have hdl : (dueAt Li at_).length ≤ Li.length := List.length_filter_le _ _
      refine W_assign rfl rfl ?_
      refine W_nil ?_
      refine W_sr ?_
      refine W_move rfl rfl ?_
      refine W_move rfl rfl ?_
      have hrow : Holds w0 (XB ++ (XO ++ H)) ads (((dueAt Li at_).map (·.id)).map (Value.int .i64)) := OwnS.holds hB (fun p hp => List.mem_append_left _ hp)
      have hdn : ((dueAt Li at_).map (·.id)).length ≤ 4611686018427387904 := by rw [List.length_map]; omega
      have hDL := Del_L (cap := caps) hW0 hdn hrow
      have hDL2 := hDL.hsub (show HSub (XB ++ (HWi ++ (XO ++ H))) _ from zH)
      refine W_call (.cons rfl (.cons rfl .nil)) Tryz.call102 rfl hDL2 ?_
      rintro v' H' ⟨HW1, hW1, rfl, rfl⟩
      rw [dels_due hids.1] at hW1
      obtain ⟨row, HT, rfl, hrl, hr0, hlat⟩ := hW1.now
      have hG2 := hG.step hat hids.2.2.1
      have hnat : nw ≤ at_ := by
        obtain ⟨⟨t0, ht0, e0⟩, _⟩ := leastT_is hat
        rw [hG.left] at ht0
        have := of_decide_eq_true (List.mem_filter.1 ht0).2
        omega
      have hat2 : ∀ t ∈ Li.filter (fun t => decide (t.s.due ≠ at_)), at_ < t.s.due := fun t ht => by
        rw [hG2.left] at ht
        exact of_decide_eq_true (List.mem_filter.1 ht).2
      have hW2 := hlat at_ hnat hat2
      refine W_hsub (H' := (bw, .cells 167 523 row) :: (HT ++ (XB ++ (XO ++ H)))) (.refl _) ?_
      refine W_nil ?_
      refine W_sr ?_
      refine W_move rfl rfl ?_
      refine W_move rfl rfl ?_
      refine W_nilCheck rfl rfl ?_
      refine W_fieldAddr rfl fld167_0 (by decide) rfl ?_
      refine W_store (l' := (row.set 0 (.int .u64 (at_ : Int)))) rfl rfl ty22 rfl rfl (b := bw) zM (by rw [hrl]; rfl) rfl zU ?_
      refine W_nil ?_
      refine W_region ?_
      refine W_move rfl rfl ?_
      refine W_move rfl rfl ?_
      refine W_append (news := ((dueAt Li at_).map (·.id)).map (Value.int .i64)) (m := ((dueAt Li at_).map (·.id)).length) (HB := XO) (H0 := (bw, .cells 167 523 (row.set 0 (.int .u64 (at_ : Int)))) :: (HT ++ (XB ++ H))) rfl rfl ty24 ty3 rfl (by decide) hO (by rw [List.length_map, Nat.mul_one]) (OwnS.holds hB (fun p hp => List.mem_cons_of_mem _ (List.mem_append_right _ (List.mem_append_left _ hp)))) (by rw [List.all_eq_true]; intro u hu; obtain ⟨q, _, rfl⟩ := List.mem_map.1 hu; rfl) (by rw [List.length_map]; simp only [maxLen]; omega) (by rw [List.length_map]; omega) zH rfl (fun v' X' hO' => ?_)
      refine W_assign rfl rfl ?_
      refine W_nil ?_
      refine W_blk ?_
      refine W_again ⟨at_, Li.filter (fun t => decide (t.s.due ≠ at_)), O ++ dueAt Li at_, v', X', (bw, .cells 167 523 (row.set 0 (.int .u64 (at_ : Int)))) :: HT⟩ ⟨⟨hW2, hG2⟩, by show at_ ≤ a; omega, by show OwnS 3 1 v' (O ++ dueAt Li at_).length (((O ++ dueAt Li at_).map (·.id)).map (Value.int .i64)) X'; rw [List.map_append, List.map_append, List.length_append]; rw [List.length_map] at hO'; exact hO'⟩ (filter_lt hat) (sub_cons rfl (sub_cons rfl (sub_cons rfl (sub_nil _)))) rfl (show HSub _ (X' ++ ((bw, .cells 167 523 (row.set 0 (.int .u64 (at_ : Int)))) :: (HT ++ H))) from zH)
end Go.Proofs.YtcmfldfeakmdoaaGreatDoor
namespace Go.Proofs.YtcmfldfeakmdoaaGreatDoor
open Go Go.Sl
attribute [local irreducible] W
instance : DecidableEq Tm := fun a b => by
  cases a; cases b
  rename_i i s t i2 s2 t2
  exact if h : i = i2 ∧ s = s2 ∧ t = t2 then isTrue (by obtain ⟨rfl, rfl, rfl⟩ := h; rfl) else isFalse (fun e => h (by cases e; exact ⟨rfl, rfl, rfl⟩))
instance (a b : Tm) : Decidable (ahead a b) := inferInstanceAs (Decidable (_ ∨ _))
theorem ahead_unique : ∀ {a b : List Tm}, a.Perm b → a.Pairwise ahead → b.Pairwise ahead → a = b
  | [], b, hp, _, _ => (List.Perm.nil_eq hp)
  | x :: a, b, hp, ha, hb => by
    cases b with
    | nil => exact absurd hp.length_eq (by simp)
    | cons y b =>
      have ha' := List.pairwise_cons.1 ha
      have hb' := List.pairwise_cons.1 hb
      have hxy : x = y := by
        rcases List.mem_cons.1 (hp.mem_iff.1 List.mem_cons_self) with h | h
        · exact h
        · rcases List.mem_cons.1 (hp.mem_iff.2 List.mem_cons_self) with h' | h'
          · exact h'.symm
          · have h1 := hb'.1 x h; have h2 := ha'.1 y h'
            unfold ahead at h1 h2; omega
      subst hxy
      rw [ahead_unique (List.Perm.cons_inv hp) ha'.2 hb'.2]
theorem Gone.is {now nw : Nat} {L Li O O' : List Tm} (h : Gone now nw L Li O) (hp : O'.Perm (L.filter (fun t => decide (t.s.due ≤ nw)))) (ha : O'.Pairwise ahead) : O = O' := ahead_unique (h.perm.trans hp.symm) h.asc ha
set_option maxHeartbeats 1000000 in
theorem same_q {w0 : World} {H : Heap} {l r : List Int} {a1 a2 : Option Addr} {c1 c2 : Nat} (hl : Holds w0 H a1 (l.map (Value.int .i64))) (hr : Holds w0 H a2 (r.map (Value.int .i64))) (hn : l.length ≤ 4611686018427387904)  : PureAt Tryz.prog w0 H 43 [.slice a1 l.length c1, .slice a2 r.length c2] (.bool (decide (l = r))) := by
  refine L_enter Tryz.func43 rfl Tryz.ntmps43 rfl rfl ?_
  refine W_sr ?_
  refine W_assign rfl rfl ?_
  refine W_nil ?_
  refine W_seq ?_
  refine W_sr ?_
  refine W_move rfl rfl ?_
  refine W_len rfl ty24 rfl rfl ?_
  refine W_move rfl rfl ?_
  refine W_len rfl ty24 rfl rfl ?_
  refine W_bin rfl rfl b_neq rfl ?_
  refine W_nil ?_
  refine W_condPS (p := (l.length : Int) ≠ (r.length : Int)) rfl (by simp) (fun q0 => ?_) (fun q0 => ?_)
  · skip
    refine W_sr ?_
    refine W_assign rfl rfl ?_
    refine W_nil ?_
    refine W_ret1m (H2 := H) Tryz.results43 rfl (.nil _) zH ?_
    exact ⟨by rw [decide_eq_false (fun e => q0 (by rw [e]))], rfl⟩
  · skip
    refine W_skip ?_
    refine W_seq ?_
    refine W_sr ?_
    refine W_assign rfl rfl ?_
    refine W_nil ?_
    refine W_block ?_
    have hlen : l.length = r.length := by omega
    refine W_loopC (X := Nat) [(0, _), (1, _)] (fun (i : Nat) => [(5, .int .i64 (i : Int))]) (fun _ => _) (fun (i : Nat) => H) (fun (i : Nat) => i ≤ l.length ∧ l.take i = r.take i) (fun (i : Nat) => l.length - i) 0 ⟨Nat.zero_le _, rfl⟩ (sub_cons rfl (sub_cons rfl (sub_nil _))) (sub_cons rfl (sub_nil _)) rfl zH ?_
    rintro i ⟨hi, heq⟩
    simp only [List.cons_append, List.nil_append]
    refine W_seq ?_
    refine W_sr ?_
    refine W_move rfl rfl ?_
    refine W_move rfl rfl ?_
    refine W_len rfl ty24 rfl rfl ?_
    refine W_bin rfl rfl b_lss rfl ?_
    refine W_nil ?_
    refine W_condPS (p := (i : Int) < (l.length : Int)) rfl (by simp) (fun q1 => ?_) (fun q1 => ?_)
    · skip
      refine W_skip ?_
      refine W_seq ?_
      refine W_block ?_
      refine W_quietsr (by kernel_rfl) (by decide +kernel) ?_
      obtain ⟨x, hx⟩ : ∃ x, l[i]? = some x := ⟨_, List.getElem?_eq_getElem (by omega)⟩
      obtain ⟨q0, p0, rfl, hc⟩ := hl.at (i := i) (v := .int .i64 x) (by rw [List.getElem?_map, hx]; rfl)
      obtain ⟨y, hy⟩ : ∃ y, r[i]? = some y := ⟨_, List.getElem?_eq_getElem (by omega)⟩
      obtain ⟨q1, p1, rfl, hc'⟩ := hr.at (i := i) (v := .int .i64 y) (by rw [List.getElem?_map, hy]; rfl)
      refine WQ_x (X_move rfl) rfl ?_
      refine WQ_x (X_move rfl) rfl ?_
      refine WQ_x (X_indexAddr (j := i) rfl rfl ty24 ty3 rfl (by omega) rfl) rfl ?_
      refine WQ_x (X_load (v := .int .i64 x) rfl ty3 rfl (by rw [Nat.mul_one]; exact hc.up zH)) rfl ?_
      refine WQ_x (X_move rfl) rfl ?_
      refine WQ_x (X_move rfl) rfl ?_
      refine WQ_x (X_indexAddr (j := i) rfl rfl ty24 ty3 rfl (by omega) rfl) rfl ?_
      refine WQ_x (X_load (v := .int .i64 y) rfl ty3 rfl (by rw [Nat.mul_one]; exact hc'.up zH)) rfl ?_
      refine WQ_x (X_bin rfl rfl b_neq) rfl ?_
      refine WQ_nil ?_
      refine W_condPS (p := ¬ x = y) rfl (by simp) (fun q2 => ?_) (fun q2 => ?_)
      · skip
        refine W_sr ?_
        refine W_assign rfl rfl ?_
        refine W_nil ?_
        refine W_ret1m (H2 := H) Tryz.results43 rfl (.nil _) zH ?_
        exact ⟨by rw [decide_eq_false (fun e => q2 (by rw [e, hy] at hx; exact (Option.some.inj hx).symm))], rfl⟩
      · skip
        refine W_skip ?_
        refine W_blk ?_
        refine W_region ?_
        refine W_move rfl rfl ?_
        refine W_bin rfl rfl (b_add (m := ((i + 1 : Nat) : Int)) ((i64w (by omega)).trans (by omega))) rfl ?_
        refine W_assign rfl rfl ?_
        refine W_nil ?_
        refine W_again (i + 1) ⟨by omega, by rw [takeAt hx, takeAt hy, heq, Classical.not_not.1 q2]⟩ (by omega) (sub_cons rfl (sub_cons rfl (sub_cons rfl (sub_nil _)))) rfl zH
    · skip
      refine W_exit rfl ?_
      refine W_sr ?_
      refine W_assign rfl rfl ?_
      refine W_nil ?_
      refine W_ret1m (H2 := H) Tryz.results43 rfl (.nil _) zH ?_
      obtain rfl : i = l.length := by omega
      exact ⟨by rw [decide_eq_true (by rwa [List.take_length, hlen, List.take_length] at heq)], rfl⟩
end Go.Proofs.YtcmfldfeakmdoaaGreatDoor
namespace Go.Proofs.YtcmfldfeakmdoaaGreatDoor
open Go Go.Sl
attribute [local irreducible] W
theorem To_any {w0 : World} {H HW : Heap} {bw now turn a : Nat} {L : List Tm} (hT : Tab w0) (hW : WheelH bw now L turn HW) (hd : ∀ t ∈ L, now < t.s.due) (ha : a ≤ 18446744073709551615) :
    LCalls Tryz.prog w0 86 #[.pointer (some ⟨bw, 0, none⟩), .int .u64 ((a : Nat) : Int)] (HW ++ H) (fun v H' => ∃ O Li HW' XO, WheelH bw (max now a) Li turn HW' ∧ Gone now (max now a) L Li O ∧ OwnS 3 1 v O.length ((O.map (·.id)).map (Value.int .i64)) XO ∧ H' = XO ++ (HW' ++ H)) := by
  by_cases h : a ≤ now
  · obtain ⟨row, HT, rfl, _, hr0, _⟩ := hW.now
    have := To_stay (w0 := w0) (H := ((bw, .cells 167 523 row) :: HT) ++ H) (now := now) (row := row) (tot := 523) zM hr0 h
    refine LCalls.mono this ?_
    rintro v H' ⟨rfl, rfl⟩
    rw [Nat.max_eq_left h]
    exact ⟨[], L, _, [], hW, Gone.start hd, .nil, rfl⟩
  · have e : max now a = a := Nat.max_eq_right (by omega)
    rw [e]
    exact To_L hW (by omega) ha hT
theorem Gone.trans {now m n : Nat} {L Lm Li O1 O2 : List Tm} (h1 : Gone now m L Lm O1) (h2 : Gone m n Lm Li O2) : Gone now n L Li (O1 ++ O2) := by
  have hle := h2.le
  refine ⟨Nat.le_trans h1.le h2.le, ?_, ?_, ?_⟩
  · rw [h2.left, h1.left, List.filter_filter]
    refine List.filter_congr fun t _ => ?_
    rw [← Bool.decide_and]
    exact decide_eq_decide.2 ⟨fun h => h.1, fun h => ⟨h, by omega⟩⟩
  · have e := h2.perm
    rw [h1.left, List.filter_filter] at e
    refine (h1.perm.append e).trans (filter_or L fun t _ => ?_)
    simp only [decide_eq_true_eq, Bool.and_eq_true]
    omega
  · rw [List.pairwise_append]
    refine ⟨h1.asc, h2.asc, fun a ha b hb => .inl ?_⟩
    have e1 := of_decide_eq_true (List.mem_filter.1 (h1.perm.mem_iff.1 ha)).2
    have hb2 := (List.mem_filter.1 (h2.perm.mem_iff.1 hb)).1
    rw [h1.left] at hb2
    have e2 := of_decide_eq_true (List.mem_filter.1 hb2).2
    omega
theorem Gone.ahead {now nw : Nat} {L Li O : List Tm} (h : Gone now nw L Li O) : ∀ t ∈ Li, nw < t.s.due := fun t ht => by
  rw [h.left] at ht
  exact of_decide_eq_true (List.mem_filter.1 ht).2
theorem Gone.same {now nw : Nat} {L La Lb Oa Ob : List Tm} (ha : Gone now nw L La Oa) (hb : Gone now nw L Lb Ob) : La = Lb ∧ Oa = Ob :=
  ⟨ha.left.trans hb.left.symm, ahead_unique (ha.perm.trans hb.perm.symm) ha.asc hb.asc⟩
end Go.Proofs.YtcmfldfeakmdoaaGreatDoor
namespace Go.Proofs.YtcmfldfeakmdoaaGreatDoor
open Go Go.Sl
attribute [local irreducible] W
def tmC (t : Tm) : List Value := .int .i64 t.id :: t.s.v
abbrev rowT (L : List Tm) : List Value := L.flatMap tmC
def AtT (L : List Tm) (id z : Int) : Prop := (∃ (i : Nat) (t : Tm), z = (i : Int) ∧ L[i]? = some t ∧ t.id = id) ∨ (z = -1 ∧ id ∉ L.map (·.id))
theorem AtT.held {L : List Tm} {id z : Int} (h : AtT L id z) : (0 ≤ z ↔ id ∈ L.map (·.id)) := by
  rcases h with ⟨i, t, rfl, h1, rfl⟩ | ⟨rfl, h1⟩
  · exact ⟨fun _ => List.mem_map_of_mem (List.mem_of_getElem? h1), fun _ => by omega⟩
  · exact ⟨fun h => by omega, fun h => absurd h h1⟩
def BestT (L : List Tm) (z : Int) : Prop := (z = -1 ∧ L = []) ∨ ∃ (i : Nat) (t : Tm), z = (i : Int) ∧ L[i]? = some t ∧ (∀ u ∈ L, t.s.due ≤ u.s.due) ∧ ∀ (j : Nat) u, j < i → L[j]? = some u → t.s.due < u.s.due
def bestV (i b : Nat) : Int := if i = 0 then -1 else (b : Int)
def BestI (L : List Tm) (i b : Nat) : Prop := i = 0 ∨ (b < i ∧ ∃ t, L[b]? = some t ∧ ∀ (j : Nat) u, j < i → L[j]? = some u → t.s.due ≤ u.s.due ∧ (j < b → t.s.due < u.s.due))
theorem BestI.done {L : List Tm} {b : Nat} (h : BestI L L.length b) : BestT L (bestV L.length b) := by
  rcases h with h | ⟨h1, t, h2, h3⟩
  · exact .inl ⟨if_pos h, List.eq_nil_of_length_eq_zero h⟩
  · refine .inr ⟨b, t, if_neg (by omega), h2, fun u hu => ?_, fun j u hj hu => (h3 j u (by omega) hu).2 hj⟩
    obtain ⟨j, hj, e⟩ := List.getElem_of_mem hu
    exact (h3 j u hj (by rw [List.getElem?_eq_getElem hj, e])).1
theorem BestI.first {L : List Tm} {t : Tm} (h : L[0]? = some t) : BestI L 1 0 := .inr ⟨by omega, t, h, fun j u hj hu => by
  obtain rfl : j = 0 := by omega
  rw [h] at hu
  obtain rfl := Option.some.inj hu
  exact ⟨Nat.le_refl _, fun h => by omega⟩⟩
theorem BestI.keep {L : List Tm} {i b : Nat} {t u : Tm} (h : BestI L i b) (h0 : i ≠ 0) (hb : L[b]? = some t) (hi : L[i]? = some u) (hc : ¬ u.s.due < t.s.due) : BestI L (i + 1) b := by
  rcases h with h | ⟨h1, t', h2, h3⟩
  · exact absurd h h0
  · obtain rfl : t = t' := Option.some.inj (hb.symm.trans h2)
    refine .inr ⟨by omega, t, h2, fun j x hj hx => ?_⟩
    by_cases e : j = i
    · subst e
      rw [hi] at hx
      obtain rfl := Option.some.inj hx
      exact ⟨by omega, fun h => by omega⟩
    · exact h3 j x (by omega) hx
theorem BestI.turn {L : List Tm} {i b : Nat} {t u : Tm} (h : BestI L i b) (h0 : i ≠ 0) (hb : L[b]? = some t) (hi : L[i]? = some u) (hc : u.s.due < t.s.due) : BestI L (i + 1) i := by
  rcases h with h | ⟨h1, t', h2, h3⟩
  · exact absurd h h0
  · obtain rfl : t = t' := Option.some.inj (hb.symm.trans h2)
    refine .inr ⟨by omega, u, hi, fun j x hj hx => ?_⟩
    by_cases e : j = i
    · subst e
      rw [hi] at hx
      obtain rfl := Option.some.inj hx
      exact ⟨Nat.le_refl _, fun h => by omega⟩
    · have := (h3 j x (by omega) hx).1
      exact ⟨by omega, fun _ => by omega⟩
end Go.Proofs.YtcmfldfeakmdoaaGreatDoor
namespace Go.Proofs.YtcmfldfeakmdoaaGreatDoor
open Go Go.Sl
attribute [local irreducible] W
structure Goi (a : Nat) (L Li O : List Tm) : Prop where
  mem : ∀ t ∈ O, t ∈ L ∧ t.s.due ≤ a
  left : Li = L.filter (fun t => decide (t ∉ O))
  nodup : O.Nodup
  asc : O.Pairwise ahead
  cross : ∀ o ∈ O, ∀ t ∈ Li, ahead o t
theorem Goi.start {a : Nat} {L : List Tm} : Goi a L L [] :=
  ⟨fun t h => (by cases h), (List.filter_eq_self.2 fun t _ => by simp).symm, .nil, .nil, fun o h => (by cases h)⟩
theorem Goi.sub {a : Nat} {L Li O : List Tm} (h : Goi a L Li O) : List.Sublist Li L := by rw [h.left]; exact List.filter_sublist
theorem nodup_le {α : Type} [DecidableEq α] : ∀ {a b : List α}, a.Nodup → (∀ x ∈ a, x ∈ b) → a.length ≤ b.length
  | [], _, _, _ => Nat.zero_le _
  | x :: a, b, hn, h => by
    have hn' := List.nodup_cons.1 hn
    have hx := h x List.mem_cons_self
    have := nodup_le (a := a) (b := b.erase x) hn'.2 (fun y hy => (List.mem_erase_of_ne (fun e : y = x => hn'.1 (e ▸ hy))).2 (h y (List.mem_cons_of_mem _ hy)))
    rw [List.length_erase_of_mem hx] at this
    have : 0 < b.length := List.length_pos_of_mem hx
    simp only [List.length_cons]; omega
theorem Goi.len {a : Nat} {L Li O : List Tm} (h : Goi a L Li O) : O.length ≤ L.length := nodup_le h.nodup fun t ht => (h.mem t ht).1
theorem Goi.step {a i : Nat} {L Li O : List Tm} {t : Tm} (h : Goi a L Li O) (hn : (L.map (·.id)).Nodup) (ht : L.Pairwise (fun x y => x.turn < y.turn)) (hi : Li[i]? = some t) (hle : ∀ u ∈ Li, t.s.due ≤ u.s.due) (hf : ∀ (j : Nat) u, j < i → Li[j]? = some u → t.s.due < u.s.due) (hd : t.s.due ≤ a) : Goi a L (delT Li t.id) (O ++ [t]) := by
  have hin := List.mem_of_getElem? hi
  have hL := h.sub.subset hin
  have hno : t ∉ O := by rw [h.left] at hin; exact of_decide_eq_true (List.mem_filter.1 hin).2
  have hLn : (Li.map (·.id)).Nodup := hn.sublist (h.sub.map _)
  have hLt : Li.Pairwise (fun x y => x.turn < y.turn) := ht.sublist h.sub
  refine ⟨fun u hu => (List.mem_append.1 hu).elim (h.mem u) (fun h => by rw [List.mem_singleton.1 h]; exact ⟨hL, hd⟩), ?_, ?_, ?_, ?_⟩
  · unfold delT
    conv => lhs; rw [h.left]
    rw [List.filter_filter]
    refine List.filter_congr fun u hu => ?_
    rw [← Bool.decide_and]
    refine decide_eq_decide.2 ⟨fun ⟨h1, h2⟩ h3 => ?_, fun h1 => ⟨fun e => h1 ?_, fun h2 => h1 (List.mem_append_left _ h2)⟩⟩
    · rcases List.mem_append.1 h3 with h3 | h3
      · exact h2 h3
      · exact h1 (by rw [List.mem_singleton.1 h3])
    · rw [tm_uniq hn hu hL e]; exact List.mem_append_right _ List.mem_cons_self
  · rw [List.nodup_append]
    exact ⟨h.nodup, by simp, fun x hx y hy e => hno (by rw [← List.mem_singleton.1 hy, ← e]; exact hx)⟩
  · rw [List.pairwise_append]
    exact ⟨h.asc, List.pairwise_singleton _ _, fun x hx y hy => by rw [List.mem_singleton.1 hy]; exact h.cross x hx t hin⟩
  · intro o ho u hu
    obtain ⟨hu1, hu2⟩ := List.mem_filter.1 hu
    rcases List.mem_append.1 ho with ho | ho
    · exact h.cross o ho u hu1
    · rw [List.mem_singleton.1 ho]
      have h1 := hle u hu1
      by_cases e : t.s.due = u.s.due
      · refine .inr ⟨e, ?_⟩
        obtain ⟨j, hj, ej⟩ := List.getElem_of_mem hu1
        have hij : i < j := by
          rcases Nat.lt_trichotomy j i with c | c | c
          · have := hf j u c (by rw [List.getElem?_eq_getElem hj, ej]); omega
          · subst c
            rw [List.getElem?_eq_getElem hj, ej] at hi
            exact absurd (congrArg Tm.id (Option.some.inj hi)) (of_decide_eq_true hu2)
          · exact c
        have hi2 := (List.getElem?_eq_some_iff.1 hi)
        have := List.pairwise_iff_getElem.1 hLt i j hi2.1 hj hij
        rwa [hi2.2, ej] at this
      · exact .inl (by omega)
theorem Goi.done {now a : Nat} {L Li O : List Tm} (h : Goi a L Li O) (hn : (L.map (·.id)).Nodup) (hle : now ≤ a) (hl : ∀ t ∈ Li, a < t.s.due) : Gone now a L Li O := by
  have hiff : ∀ t ∈ L, (t ∉ O ↔ a < t.s.due) := fun t ht => ⟨fun h1 => hl t (by rw [h.left]; exact List.mem_filter.2 ⟨ht, decide_eq_true h1⟩), fun h1 h2 => by have := (h.mem t h2).2; omega⟩
  have hLn : L.Nodup := List.Pairwise.of_map _ (fun a b h e => h (congrArg Tm.id e)) hn
  refine ⟨hle, ?_, ?_, h.asc⟩
  · rw [h.left]
    exact List.filter_congr fun t ht => decide_eq_decide.2 (hiff t ht)
  · refine (List.perm_ext_iff_of_nodup h.nodup (hLn.sublist List.filter_sublist)).2 fun t => ⟨fun h1 => List.mem_filter.2 ⟨(h.mem t h1).1, decide_eq_true (h.mem t h1).2⟩, fun h1 => ?_⟩
    obtain ⟨h2, h3⟩ := List.mem_filter.1 h1
    have := of_decide_eq_true h3
    by_cases c : t ∈ O
    · exact c
    · have := (hiff t h2).1 c; omega
end Go.Proofs.YtcmfldfeakmdoaaGreatDoor
namespace Go.Proofs.YtcmfldfeakmdoaaGreatDoor
open Go Go.Sl
attribute [local irreducible] W
structure Wl where
  bw : Nat
  now : Nat
  L : List Tm
  turn : Nat
abbrev Wl.p (w : Wl) : Value := .pointer (some ⟨w.bw, 0, none⟩)
inductive BankH (bb : Nat) (Ws : List Wl) : Heap → Prop
  | mk {v : Value} {XS : Heap} {HWs : List Heap} (hv : OwnS 133 1 v Ws.length (Ws.map Wl.p) XS) (hl : HWs.length = Ws.length) (hw : ∀ (k : Nat) w HW, Ws[k]? = some w → HWs[k]? = some HW → WheelH w.bw w.now w.L w.turn HW) : BankH bb Ws ((bb, .cells 132 1 [v]) :: (XS ++ HWs.flatten))
theorem set_same {α : Type} {l : List α} {k : Nat} {x : α} (h : l[k]? = some x) : l.set k x = l := by
  apply List.ext_getElem?
  intro i
  by_cases e : k = i
  · subst e; rw [List.getElem?_set_self (List.getElem?_eq_some_iff.1 h).1, h]
  · rw [List.getElem?_set_ne e]
theorem BankH.at {bb k : Nat} {Ws : List Wl} {HB : Heap} {w : Wl} (h : BankH bb Ws HB) (hk : Ws[k]? = some w) : ∃ HW HR, WheelH w.bw w.now w.L w.turn HW ∧ (∀ H, HSub (HB ++ H) (HW ++ (HR ++ H))) ∧
    ∀ w' HW', w'.bw = w.bw → WheelH w'.bw w'.now w'.L w'.turn HW' → ∃ HB', BankH bb (Ws.set k w') HB' ∧ ∀ H, HSub (HW' ++ (HR ++ H)) (HB' ++ H) := by
  cases h with
  | @mk v XS HWs hv hl hw =>
    have hkl := (List.getElem?_eq_some_iff.1 hk).1
    obtain ⟨HW, hHW⟩ : ∃ HW, HWs[k]? = some HW := ⟨_, List.getElem?_eq_getElem (by omega)⟩
    refine ⟨HW, (bb, .cells 132 1 [v]) :: (XS ++ (HWs.set k []).flatten), hw k w HW hk hHW, fun H => ?_, fun w' HW' e hw' => ?_⟩
    · have h1 := ((flat_take hHW).append_left ((bb, .cells 132 1 [v]) :: XS)).append_right H
      refine HSub.of_perm ?_
      rw [List.append_assoc, List.append_assoc] at h1
      show (((bb, Blk.cells 132 1 [v]) :: XS) ++ HWs.flatten ++ H).Perm _
      rw [List.append_assoc]
      refine h1.trans ?_
      rw [List.append_assoc]
      refine (List.perm_append_comm_assoc _ _ _).trans ?_
      show (HW ++ (((bb, Blk.cells 132 1 [v]) :: XS) ++ _)).Perm (HW ++ ((((bb, Blk.cells 132 1 [v]) :: XS) ++ _) ++ H))
      rw [List.append_assoc]
    · refine ⟨(bb, .cells 132 1 [v]) :: (XS ++ (HWs.set k HW').flatten), .mk ?_ (by rw [List.length_set, List.length_set, hl]) ?_, fun H => ?_⟩
      · rw [List.length_set, List.map_set, set_same (by rw [List.getElem?_map, hk, show w'.p = w.p from by unfold Wl.p; rw [e]]; rfl)]; exact hv
      · intro j u HU hj hU
        by_cases c : k = j
        · subst c
          rw [List.getElem?_set_self hkl] at hj
          rw [List.getElem?_set_self (by omega)] at hU
          obtain rfl := Option.some.inj hj
          obtain rfl := Option.some.inj hU
          exact hw'
        · rw [List.getElem?_set_ne c] at hj hU
          exact hw j u HU hj hU
      · have h1 := ((flat_put (B := HW') (XS := HWs) (k := k) (by omega)).append_left ((bb, .cells 132 1 [v]) :: XS)).append_right H
        refine HSub.of_perm (List.Perm.trans ?_ h1)
        show (HW' ++ ((((bb, Blk.cells 132 1 [v]) :: XS) ++ _) ++ H)).Perm _
        rw [List.append_assoc, List.append_assoc, List.append_assoc]
        exact List.perm_append_comm_assoc _ _ _
theorem BankH.row {bb : Nat} {Ws : List Wl} {HB : Heap} (h : BankH bb Ws HB) : ∃ ad cap, (bb, Blk.cells 132 1 [.slice ad Ws.length cap]) ∈ HB ∧ Ws.length ≤ cap ∧ ∀ {w0 : World} {H : Heap}, (∀ p ∈ HB, p ∈ H) → Holds w0 H ad (Ws.map Wl.p) := by
  cases h with
  | @mk v XS HWs hv hl hw =>
    obtain ⟨ad, cap, rfl, h1, _⟩ := hv.shape
    exact ⟨ad, cap, List.mem_cons_self, h1, fun hm => OwnS.holds hv (fun p hp => hm p (List.mem_cons_of_mem _ (List.mem_append_left _ hp)))⟩
def wlAt (Ws : List Wl) (cpu : Int) : Option Wl := if 0 ≤ cpu then Ws[cpu.toNat]? else none
def ofV (Ws : List Wl) (cpu : Int) : Value := match wlAt Ws cpu with
  | some w => w.p
  | none => .pointer none
set_option maxHeartbeats 1000000 in
theorem CPUs_q {w0 : World} {H : Heap} {HB : Heap} {bb : Nat} {Ws : List Wl} (hB : BankH bb Ws HB) (hm : ∀ p ∈ HB, p ∈ H)  : PureAt Tryz.prog w0 H 38 [.pointer (some ⟨bb, 0, none⟩)] (.int .i64 (Ws.length : Int)) := by
  obtain ⟨ad, cap, hcell, hlc, hrow0⟩ := hB.row
  have hrow : Holds w0 H ad (Ws.map Wl.p) := hrow0 hm
  refine L_enter Tryz.func38 rfl Tryz.ntmps38 rfl rfl ?_
  refine W_sr ?_
  refine W_assign rfl rfl ?_
  refine W_nil ?_
  refine W_seq ?_
  refine W_sr ?_
  refine W_move rfl rfl ?_
  refine W_x (X_ptrNil rfl rfl ty84) (fun _ h => by cases h) rfl ?_
  refine W_nil ?_
  refine W_condF rfl rfl ?_
  refine W_skip ?_
  refine W_sr ?_
  refine W_move rfl rfl ?_
  refine W_nilCheck rfl rfl ?_
  refine W_fieldAddr rfl fld132_0 (by decide) rfl ?_
  refine W_load (v := .slice ad Ws.length cap) rfl ty130 rfl (Cell.own (b := bb) (hm _ hcell) rfl) rfl ?_
  refine W_len rfl ty130 rfl rfl ?_
  refine W_assign rfl rfl ?_
  refine W_nil ?_
  refine W_ret1m (H2 := H) Tryz.results38 rfl (.nil _) zH ?_
  exact ⟨rfl, rfl⟩
theorem cpu_ways (Ws : List Wl) (cpu : Int) : (cpu < 0 ∧ wlAt Ws cpu = none) ∨ (0 ≤ cpu ∧ (Ws.length : Int) ≤ cpu ∧ wlAt Ws cpu = none) ∨ (0 ≤ cpu ∧ cpu < (Ws.length : Int) ∧ wlAt Ws cpu = Ws[cpu.toNat]?) := by
  unfold wlAt
  by_cases h : 0 ≤ cpu
  · by_cases h2 : cpu < (Ws.length : Int)
    · exact .inr (.inr ⟨h, h2, if_pos h⟩)
    · exact .inr (.inl ⟨h, by omega, by rw [if_pos h, List.getElem?_eq_none (by omega)]⟩)
  · exact .inl ⟨by omega, if_neg h⟩
set_option maxHeartbeats 1000000 in
theorem of_q {w0 : World} {H : Heap} {HB : Heap} {bb : Nat} {Ws : List Wl} (hB : BankH bb Ws HB) (hm : ∀ p ∈ HB, p ∈ H) {cpu : Int}  : PureAt Tryz.prog w0 H 75 [.pointer (some ⟨bb, 0, none⟩), .int .i64 cpu] (ofV Ws cpu) := by
  obtain ⟨ad, cap, hcell, hlc, hrow0⟩ := hB.row
  have hrow : Holds w0 H ad (Ws.map Wl.p) := hrow0 hm
  refine L_enter Tryz.func75 rfl Tryz.ntmps75 rfl rfl ?_
  refine W_sr ?_
  refine W_assign rfl rfl ?_
  refine W_nil ?_
  refine W_seq ?_
  refine W_sr ?_
  rcases cpu_ways Ws cpu with ⟨h1, h2⟩ | ⟨h1, h2, h3⟩ | ⟨h1, h2, h3⟩
  · skip
    refine W_move rfl rfl ?_
    refine W_x (X_ptrNil rfl rfl ty84) (fun _ h => by cases h) rfl ?_
    refine W_move rfl rfl ?_
    refine W_gyes rfl rfl ?_
    refine W_move rfl rfl ?_
    refine W_gyes rfl rfl ?_
    refine W_bin rfl rfl b_lss rfl ?_
    rw [decide_eq_true (by omega)]
    first | refine W_pickt rfl rfl rfl ?_ | refine W_pickf rfl rfl rfl ?_
    refine W_move rfl rfl ?_
    refine W_gno rfl rfl rfl ?_
    refine W_gno rfl rfl rfl ?_
    refine W_gno rfl rfl rfl ?_
    refine W_gno rfl rfl rfl ?_
    refine W_gno rfl rfl rfl ?_
    refine W_gno rfl rfl rfl ?_
    refine W_gno rfl rfl rfl ?_
    first | refine W_pickt rfl rfl rfl ?_ | refine W_pickf rfl rfl rfl ?_
    refine W_nil ?_
    refine W_condT rfl rfl ?_
    refine W_sr ?_
    refine W_assign rfl rfl ?_
    refine W_nil ?_
    refine W_ret1m (H2 := H) Tryz.results75 rfl (.nil _) zH ?_
    exact ⟨by unfold ofV; rw [h2], rfl⟩
  · skip
    refine W_move rfl rfl ?_
    refine W_x (X_ptrNil rfl rfl ty84) (fun _ h => by cases h) rfl ?_
    refine W_move rfl rfl ?_
    refine W_gyes rfl rfl ?_
    refine W_move rfl rfl ?_
    refine W_gyes rfl rfl ?_
    refine W_bin rfl rfl b_lss rfl ?_
    rw [decide_eq_false (by omega)]
    first | refine W_pickt rfl rfl rfl ?_ | refine W_pickf rfl rfl rfl ?_
    refine W_move rfl rfl ?_
    refine W_gyes rfl rfl ?_
    refine W_move rfl rfl ?_
    refine W_gyes rfl rfl ?_
    refine W_move rfl rfl ?_
    refine W_gyes rfl rfl ?_
    refine W_nilCheck rfl rfl ?_
    refine W_gyes rfl rfl ?_
    refine W_fieldAddr rfl fld132_0 (by decide) rfl ?_
    refine W_gyes rfl rfl ?_
    refine W_load (v := .slice ad Ws.length cap) rfl ty130 rfl (Cell.own (b := bb) (hm _ hcell) rfl) rfl ?_
    refine W_gyes rfl rfl ?_
    refine W_len rfl ty130 rfl rfl ?_
    refine W_gyes rfl rfl ?_
    refine W_bin rfl rfl b_geq rfl ?_
    rw [decide_eq_true (by omega)]
    first | refine W_pickt rfl rfl rfl ?_ | refine W_pickf rfl rfl rfl ?_
    refine W_nil ?_
    refine W_condT rfl rfl ?_
    refine W_sr ?_
    refine W_assign rfl rfl ?_
    refine W_nil ?_
    refine W_ret1m (H2 := H) Tryz.results75 rfl (.nil _) zH ?_
    exact ⟨by unfold ofV; rw [h3], rfl⟩
  · skip
    refine W_move rfl rfl ?_
    refine W_x (X_ptrNil rfl rfl ty84) (fun _ h => by cases h) rfl ?_
    refine W_move rfl rfl ?_
    refine W_gyes rfl rfl ?_
    refine W_move rfl rfl ?_
    refine W_gyes rfl rfl ?_
    refine W_bin rfl rfl b_lss rfl ?_
    rw [decide_eq_false (by omega)]
    first | refine W_pickt rfl rfl rfl ?_ | refine W_pickf rfl rfl rfl ?_
    refine W_move rfl rfl ?_
    refine W_gyes rfl rfl ?_
    refine W_move rfl rfl ?_
    refine W_gyes rfl rfl ?_
    refine W_move rfl rfl ?_
    refine W_gyes rfl rfl ?_
    refine W_nilCheck rfl rfl ?_
    refine W_gyes rfl rfl ?_
    refine W_fieldAddr rfl fld132_0 (by decide) rfl ?_
    refine W_gyes rfl rfl ?_
    refine W_load (v := .slice ad Ws.length cap) rfl ty130 rfl (Cell.own (b := bb) (hm _ hcell) rfl) rfl ?_
    refine W_gyes rfl rfl ?_
    refine W_len rfl ty130 rfl rfl ?_
    refine W_gyes rfl rfl ?_
    refine W_bin rfl rfl b_geq rfl ?_
    rw [decide_eq_false (by omega)]
    first | refine W_pickt rfl rfl rfl ?_ | refine W_pickf rfl rfl rfl ?_
    refine W_nil ?_
    refine W_condF rfl rfl ?_
    refine W_skip ?_
    refine W_sr ?_
    refine W_move rfl rfl ?_
    refine W_nilCheck rfl rfl ?_
    refine W_fieldAddr rfl fld132_0 (by decide) rfl ?_
    obtain ⟨w, hw⟩ : ∃ w, Ws[cpu.toNat]? = some w := ⟨_, List.getElem?_eq_getElem (by omega)⟩
    obtain ⟨qb, qo, rfl, hc⟩ := hrow.at (i := cpu.toNat) (v := w.p) (by rw [List.getElem?_map, hw]; rfl)
    refine W_load (v := .slice (some ⟨qb, qo, none⟩) Ws.length cap) rfl ty130 rfl (Cell.own (b := bb) (hm _ hcell) rfl) rfl ?_
    refine W_move rfl rfl ?_
    refine W_indexAddr (j := cpu.toNat) rfl rfl ty130 ty133 (by omega) (by omega) rfl rfl ?_
    refine W_load (v := w.p) rfl ty133 rfl (by rw [Nat.mul_one]; exact hc) rfl ?_
    refine W_assign rfl rfl ?_
    refine W_nil ?_
    refine W_ret1m (H2 := H) Tryz.results75 rfl (.nil _) zH ?_
    exact ⟨by unfold ofV; rw [h3, hw], rfl⟩
structure NbS where
  i : Nat
  Ws : List Wl
  v : Value
  XS : Heap
  HWs : List Heap
def FreshW (now : Nat) (w : Wl) : Prop := w.now = now ∧ w.L = [] ∧ w.turn = 0
theorem all_snoc {Ws : List Wl} {HWs : List Heap} {u : Wl} {HU : Heap} (hl : HWs.length = Ws.length) (hw : ∀ (k : Nat) w HW, Ws[k]? = some w → HWs[k]? = some HW → WheelH w.bw w.now w.L w.turn HW) (hu : WheelH u.bw u.now u.L u.turn HU) : ∀ (k : Nat) w HW, (Ws ++ [u])[k]? = some w → (HWs ++ [HU])[k]? = some HW → WheelH w.bw w.now w.L w.turn HW := fun k w HW h1 h2 => by
  by_cases c : k < Ws.length
  · rw [List.getElem?_append_left c] at h1
    rw [List.getElem?_append_left (by omega)] at h2
    exact hw k w HW h1 h2
  · rw [List.getElem?_append_right (by omega)] at h1 h2
    rw [hl] at h2
    cases hk : k - Ws.length with
    | zero =>
      rw [hk] at h1 h2
      obtain rfl : u = w := by simpa using h1
      obtain rfl : HU = HW := by simpa using h2
      exact hu
    | succ j => rw [hk] at h1; simp at h1
set_option maxHeartbeats 1000000 in
theorem NewB_L {w0 : World} {H : Heap} {n now : Nat} (hn : 1 ≤ n ∧ n ≤ 64)  : LCalls Tryz.prog w0 34 #[.int .i64 (n : Int), .int .u64 ((now : Nat) : Int)] (H) (fun v H' => ∃ bb Ws HB, v = .tuple #[.pointer (some ⟨bb, 0, none⟩), .int .i64 0] ∧ BankH bb Ws HB ∧ Ws.length = n ∧ (∀ w ∈ Ws, FreshW now w) ∧ H' = HB ++ H) := by
  refine L_enter (l := [.int .i64 (n : Int), .int .u64 ((now : Nat) : Int)]) Tryz.func34 rfl Tryz.ntmps34 rfl rfl ?_
  refine W_sr ?_
  refine W_assign rfl rfl ?_
  refine W_assign rfl rfl ?_
  refine W_nil ?_
  refine W_seq ?_
  refine W_sr ?_
  refine W_move rfl rfl ?_
  refine W_bin rfl rfl b_lss rfl ?_
  rw [decide_eq_false (by omega)]
  refine W_move rfl rfl ?_
  refine W_gyes rfl rfl ?_
  refine W_move rfl rfl ?_
  refine W_gyes rfl rfl ?_
  refine W_bin rfl rfl b_gtr rfl ?_
  rw [decide_eq_false (by omega)]
  first | refine W_pickt rfl rfl rfl ?_ | refine W_pickf rfl rfl rfl ?_
  refine W_nil ?_
  refine W_condF rfl rfl ?_
  refine W_skip ?_
  refine W_sr ?_
  refine W_build (l := [.slice none 0 0]) ty132 pl132 .nil rfl rfl rfl ?_
  refine W_box (l := [.slice none 0 0]) rfl rfl rfl (fun b14 => ?_)
  refine W_assign rfl rfl ?_
  refine W_nil ?_
  refine W_seq ?_
  refine W_sr ?_
  refine W_move rfl rfl ?_
  refine W_move rfl rfl ?_
  refine W_nil ?_
  refine W_block ?_
  refine W_loopC (X := NbS) [(1, _), (6, _), (15, _)] (fun (x : NbS) => [(16, .int .i64 (x.i : Int))]) (fun _ => _) (fun (x : NbS) => (b14, .cells 132 1 [x.v]) :: (x.XS ++ (x.HWs.flatten ++ H))) (fun (x : NbS) => x.i ≤ n ∧ x.Ws.length = x.i ∧ OwnS 133 1 x.v x.Ws.length (x.Ws.map Wl.p) x.XS ∧ x.HWs.length = x.Ws.length ∧ (∀ (k : Nat) w HW, x.Ws[k]? = some w → x.HWs[k]? = some HW → WheelH w.bw w.now w.L w.turn HW) ∧ ∀ w ∈ x.Ws, FreshW now w) (fun (x : NbS) => n - x.i) ⟨0, [], .slice none 0 0, [], []⟩ ⟨Nat.zero_le _, rfl, .nil, rfl, fun k w HW h => (by cases h), fun w h => (by cases h)⟩ (sub_cons rfl (sub_cons rfl (sub_cons rfl (sub_nil _)))) (sub_cons rfl (sub_nil _)) rfl (.refl _) ?_
  rintro ⟨i, Ws, v, XS, HWs⟩ ⟨hi, hlen, hv, hl, hw, hf⟩
  dsimp only at hi hlen hv hl hw hf ⊢
  simp only [List.cons_append, List.nil_append]
  refine W_sr ?_
  refine W_bin rfl rfl b_lss rfl ?_
  refine W_nil ?_
  refine W_seq ?_
  refine W_condPS (p := (i : Int) < (n : Int)) rfl (by simp) (fun q0 => ?_) (fun q0 => ?_)
  · skip
    refine W_skip ?_
    refine W_seq ?_
    refine W_block ?_
    refine W_anyS [(b14, .cells 132 1 [v])] 11 (by kernel_rfl) ?_
    refine WS_take 0 (l' := #[true, false, false, false, false, false, false, false, false, false, false, false]) rfl rfl (by decide +kernel) (by decide +kernel) (by decide +kernel) (by decide +kernel) rfl (by decide +kernel) (X_move rfl) rfl ?_
    refine WS_take 1 (l' := #[true, true, false, false, false, false, false, false, false, false, false, false]) rfl rfl (by decide +kernel) (by decide +kernel) (by decide +kernel) (by decide +kernel) rfl (by decide +kernel) (X_move rfl) rfl ?_
    refine WS_take 2 (l' := #[true, true, true, false, false, false, false, false, false, false, false, false]) rfl rfl (by decide +kernel) (by decide +kernel) (by decide +kernel) (by decide +kernel) rfl (by decide +kernel) (X_nilCheck rfl) rfl ?_
    refine WS_take 3 (l' := #[true, true, true, true, false, false, false, false, false, false, false, false]) rfl rfl (by decide +kernel) (by decide +kernel) (by decide +kernel) (by decide +kernel) rfl (by decide +kernel) (X_fieldAddr rfl fld132_0 (by decide)) rfl ?_
    refine WS_take 4 (l' := #[true, true, true, true, true, false, false, false, false, false, false, false]) rfl rfl (by decide +kernel) (by decide +kernel) (by decide +kernel) (by decide +kernel) rfl (by decide +kernel) (X_load (v := v) rfl ty130 rfl (Cell.own (b := b14) zM rfl)) rfl ?_
    refine WS_take 5 (l' := #[true, true, true, true, true, true, false, false, false, false, false, false]) rfl rfl (by decide +kernel) (by decide +kernel) (by decide +kernel) (by decide +kernel) rfl (by decide +kernel) (X_move rfl) rfl ?_
    refine WS_one 6 (l' := #[true, true, true, true, true, true, true, false, false, false, false, false]) zH rfl (by decide +kernel) rfl (by decide +kernel) ?_
    refine W_call (.cons rfl .nil) Tryz.call73 rfl (New_W (now := now)) ?_
    rintro w2 H' ⟨bw, HW, rfl, hW, rfl⟩
    refine W_nil ?_
    refine WS_goal ?_
    refine WS_one 7 (l' := #[true, true, true, true, true, true, true, true, false, false, false, false]) zH rfl (by decide +kernel) rfl (by decide +kernel) ?_
    refine W_buildSlice (l := [.pointer (some ⟨bw, 0, none⟩)]) ty130 ty133 (.cons rfl rfl rfl rfl rfl .nil) rfl rfl rfl rfl rfl rfl rfl (fun b25 => ?_)
    refine W_nil ?_
    refine WS_goal ?_
    refine WS_one 8 (l' := #[true, true, true, true, true, true, true, true, true, false, false, false]) zH rfl (by decide +kernel) rfl (by decide +kernel) ?_
    refine W_append (news := [.pointer (some ⟨bw, 0, none⟩)]) (m := 1) (HB := XS) (H0 := (b25, .cells 133 1 [.pointer (some ⟨bw, 0, none⟩)]) :: (HW ++ ((b14, .cells 132 1 [v]) :: (HWs.flatten ++ H)))) rfl rfl ty130 ty133 rfl (by decide) hv rfl (Holds.own (b := b25) zM) rfl (by simp only [maxLen]; omega) (by omega) zH rfl (fun v' X' hv' => ?_)
    refine W_nil ?_
    refine WS_goal ?_
    refine WS_takeP 9 (l' := #[true, true, true, true, true, true, true, true, true, true, false, false]) rfl rfl (by decide +kernel) (by decide +kernel) (by decide +kernel) rfl (by decide +kernel) (X_nilCheck rfl) rfl ?_
    refine WS_take 10 (l' := #[true, true, true, true, true, true, true, true, true, true, true, false]) rfl rfl (by decide +kernel) (by decide +kernel) (by decide +kernel) (by decide +kernel) rfl (by decide +kernel) (X_fieldAddr rfl fld132_0 (by decide)) rfl ?_
    refine WS_last (l' := #[true, true, true, true, true, true, true, true, true, true, true, true]) zH (by decide +kernel) rfl (by decide +kernel) ?_
    have hv1 : v'.oneCell' = true := by obtain ⟨_, _, rfl, _⟩ := hv'.shape; rfl
    refine W_store (l' := [v']) rfl rfl ty130 hv1 rfl (b := b14) zM rfl rfl zU ?_
    refine W_nil ?_
    refine WC_goal ?_
    refine WC_done (.nil _) (by decide +kernel) ?_
    refine W_blk ?_
    refine W_region ?_
    refine W_bin rfl rfl (b_add (m := ((i + 1 : Nat) : Int)) ((i64w (by omega)).trans (by omega))) rfl ?_
    refine W_move rfl rfl ?_
    refine W_nil ?_
    refine W_again ⟨i + 1, Ws ++ [⟨bw, now, [], 0⟩], v', X', HWs ++ [HW]⟩ ⟨by show i + 1 ≤ n; omega, by show (Ws ++ [_]).length = i + 1; rw [List.length_append, hlen]; rfl, by show OwnS 133 1 v' (Ws ++ [_]).length ((Ws ++ [_]).map Wl.p) X'; rw [List.length_append, List.map_append]; exact hv', by show (HWs ++ [HW]).length = (Ws ++ [_]).length; rw [List.length_append, List.length_append, hl]; rfl, all_snoc hl hw hW, fun w h => (List.mem_append.1 h).elim (hf w) (fun h => by rw [List.mem_singleton.1 h]; exact ⟨rfl, rfl, rfl⟩)⟩ (by show n - (i + 1) < n - i; omega) (sub_cons rfl (sub_cons rfl (sub_cons rfl (sub_cons rfl (sub_nil _))))) rfl (by show HSub _ ((b14, .cells 132 1 [v']) :: (X' ++ ((HWs ++ [HW]).flatten ++ H))); rw [List.flatten_append, List.flatten_singleton, List.append_assoc]; first | exact hsubI | (repeat (first | with_reducible exact HSub.refl _ | refine HSub.cons zT ?_ | refine HSub.app zS ?_ | exact HSub.nil _ | exact HSub.refl _ | refine HSub.drop ?_ | refine HSub.dropS ?_)))
  · skip
    refine W_exit rfl ?_
    refine W_sr ?_
    refine W_move rfl rfl ?_
    refine W_assign rfl rfl ?_
    refine W_assign rfl rfl ?_
    refine W_nil ?_
    refine W_ret2m (H2 := (b14, .cells 132 1 [v]) :: (XS ++ (HWs.flatten ++ H))) Tryz.results34 rfl rfl (.nil _) zH ?_
    exact ⟨b14, Ws, (b14, .cells 132 1 [v]) :: (XS ++ HWs.flatten), rfl, .mk hv hl hw, by omega, hf, by show _ = _ :: ((XS ++ HWs.flatten) ++ H); rw [List.append_assoc]⟩
end Go.Proofs.YtcmfldfeakmdoaaGreatDoor
namespace Go.Proofs.YtcmfldfeakmdoaaGreatDoor
open Go Go.Sl
attribute [local irreducible] W
theorem BankH.same {bb k : Nat} {Ws : List Wl} {HB : Heap} {w : Wl} (h : BankH bb Ws HB) (hk : Ws[k]? = some w) : ∃ HW HR, WheelH w.bw w.now w.L w.turn HW ∧ (∀ H, HSub (HB ++ H) (HW ++ (HR ++ H))) ∧ ∀ H, HSub (HW ++ (HR ++ H)) (HB ++ H) := by
  cases h with
  | @mk v XS HWs hv hl hw =>
    have hkl := (List.getElem?_eq_some_iff.1 hk).1
    obtain ⟨HW, hHW⟩ : ∃ HW, HWs[k]? = some HW := ⟨_, List.getElem?_eq_getElem (by omega)⟩
    have hp : ∀ H, ((((bb, Blk.cells 132 1 [v]) :: XS) ++ HWs.flatten) ++ H).Perm (HW ++ ((((bb, Blk.cells 132 1 [v]) :: XS) ++ (HWs.set k []).flatten) ++ H)) := fun H => by
      have h1 := ((flat_take hHW).append_left ((bb, .cells 132 1 [v]) :: XS)).append_right H
      refine h1.trans ?_
      rw [List.append_assoc, List.append_assoc, List.append_assoc]
      exact List.perm_append_comm_assoc _ _ _
    exact ⟨HW, ((bb, .cells 132 1 [v]) :: XS) ++ (HWs.set k []).flatten, hw k w HW hk hHW, fun H => HSub.of_perm (hp H), fun H => HSub.of_perm (hp H).symm⟩
set_option maxHeartbeats 1000000 in
theorem such_L {w0 : World} {H : Heap} {b f : Value} (hb : b.cells.toList = [b]) (hf : f.cells.toList = [f]) : LCalls Tryz.prog w0 83 #[b, f] (H) (fun v H' => ∃ b2 b3, v = .func (.func 107) #[] #[.pointer (some ⟨b2, 0, none⟩), .pointer (some ⟨b3, 0, none⟩)] ∧ H' = (b3, .cells 140 1 [f]) :: (b2, .cells 84 1 [b]) :: H) := by
  refine L_enter (l := [b, f]) Tryz.func83 rfl Tryz.ntmps83 rfl rfl ?_
  refine W_sr ?_
  refine W_box (l := [b]) rfl hb rfl (fun b2 => ?_)
  refine W_box (l := [f]) rfl hf rfl (fun b3 => ?_)
  refine W_assign rfl rfl ?_
  refine W_nil ?_
  refine W_sr ?_
  refine W_makeFunc .nil (.cons rfl (.cons rfl .nil)) rfl ?_
  refine W_assign rfl rfl ?_
  refine W_nil ?_
  refine W_ret1m Tryz.results83 rfl (.nil _) (.refl _) ?_
  exact ⟨b2, b3, rfl, rfl⟩
set_option maxHeartbeats 2000000 in
theorem such_iter {w0 : World} {H HB0 : Heap} {lp b2 b3 bb n fi : Nat} {ca : List Value} {Ws0 : List Wl} (J : Nat → List Wl → Heap → Prop) (S : List Wl → Heap → Prop) (sel : Nat → Wl → Bool) (hfi : ∀ (args : Array Value) (w : World), (callFunc fi args).run Tryz.prog w = .ok (.enter fi args) w)
    (hn64 : n ≤ 64) (hlen : ∀ k Ws Hr, J k Ws Hr → Ws.length = n)
    (hcl : ∀ k Ws HB Hr w, k < n → Ws[k]? = some w → BankH bb Ws HB → J k Ws Hr → PureAt Tryz.prog w0 ((b2, .cells 84 1 [.pointer (some ⟨bb, 0, none⟩)]) :: (b3, .cells 140 1 [(Value.func (.func fi) #[] ca.toArray)]) :: (HB ++ Hr)) fi ([.int .i64 (k : Int), w.p] ++ ca) (.bool (sel k w)))
    (hskip : ∀ k Ws Hr w, k < n → Ws[k]? = some w → J k Ws Hr → sel k w = false → J (k + 1) Ws Hr)
    (hround : ∀ k Ws HB Hr w, k < n → Ws[k]? = some w → BankH bb Ws HB → J k Ws Hr → sel k w = true → RoundC Tryz.prog w0 lp #[.int .i64 (k : Int), w.p] ((b2, .cells 84 1 [.pointer (some ⟨bb, 0, none⟩)]) :: (b3, .cells 140 1 [(Value.func (.func fi) #[] ca.toArray)]) :: (HB ++ Hr)) (fun v H' => ∃ Ws' HB' Hr', BankH bb Ws' HB' ∧ HSub H' ((b2, .cells 84 1 [.pointer (some ⟨bb, 0, none⟩)]) :: (b3, .cells 140 1 [(Value.func (.func fi) #[] ca.toArray)]) :: (HB' ++ Hr')) ∧ ((v = .bool true ∧ J (k + 1) Ws' Hr') ∨ (v = .bool false ∧ S Ws' Hr'))))
    (hB0 : BankH bb Ws0 HB0) (hJ0 : J 0 Ws0 H) :
    LCalls Tryz.prog w0 107 #[.func (.yield lp) #[] #[], .pointer (some ⟨b2, 0, none⟩), .pointer (some ⟨b3, 0, none⟩)] ((b2, .cells 84 1 [.pointer (some ⟨bb, 0, none⟩)]) :: (b3, .cells 140 1 [(Value.func (.func fi) #[] ca.toArray)]) :: (HB0 ++ H)) (fun _ H' => ∃ Ws' HB' Hr', BankH bb Ws' HB' ∧ HSub H' ((b2, .cells 84 1 [.pointer (some ⟨bb, 0, none⟩)]) :: (b3, .cells 140 1 [(Value.func (.func fi) #[] ca.toArray)]) :: (HB' ++ Hr')) ∧ (J n Ws' Hr' ∨ S Ws' Hr')) := by
  refine L_enter (l := [.func (.yield lp) #[] #[], .pointer (some ⟨b2, 0, none⟩), .pointer (some ⟨b3, 0, none⟩)]) Tryz.func107 rfl Tryz.ntmps107 rfl rfl ?_
  refine W_sr ?_
  refine W_load (v := .pointer (some ⟨bb, 0, none⟩)) rfl ty84 rfl (Cell.own (b := b2) zM rfl) rfl ?_
  have hm0 : ∀ p ∈ HB0, p ∈ (b2, .cells 84 1 [.pointer (some ⟨bb, 0, none⟩)]) :: (b3, .cells 140 1 [(Value.func (.func fi) #[] ca.toArray)]) :: (HB0 ++ H) := fun p hp => List.mem_cons_of_mem _ (List.mem_cons_of_mem _ (List.mem_append_left _ hp))
  have hcq := CPUs_q (w0 := w0) (bb := bb) (Ws := Ws0) hB0 hm0
  rw [hlen 0 Ws0 H hJ0] at hcq
  refine W_callq (.cons rfl .nil) Tryz.call38 rfl hcq ?_
  refine W_move rfl rfl ?_
  refine W_nil ?_
  refine W_block ?_
  refine W_loopC (X := (Nat × List Wl × Heap × Heap)) [(0, _), (1, _), (2, _), (7, _)] (fun (x : (Nat × List Wl × Heap × Heap)) => [(8, .int .i64 (x.1 : Int))]) (fun _ => _) (fun (x : (Nat × List Wl × Heap × Heap)) => (b2, .cells 84 1 [.pointer (some ⟨bb, 0, none⟩)]) :: (b3, .cells 140 1 [(Value.func (.func fi) #[] ca.toArray)]) :: (x.2.2.1 ++ x.2.2.2)) (fun (x : (Nat × List Wl × Heap × Heap)) => x.1 ≤ n ∧ BankH bb x.2.1 x.2.2.1 ∧ J x.1 x.2.1 x.2.2.2) (fun (x : (Nat × List Wl × Heap × Heap)) => n - x.1) (0, Ws0, HB0, H) ⟨Nat.zero_le _, hB0, hJ0⟩ (sub_cons rfl (sub_cons rfl (sub_cons rfl (sub_cons rfl (sub_nil _))))) (sub_cons rfl (sub_nil _)) rfl (.refl _) ?_
  rintro ⟨k, Ws, HB, Hr⟩ ⟨hk, hB, hJk⟩
  dsimp only at hk hB hJk ⊢
  simp only [List.cons_append, List.nil_append]
  refine W_sr ?_
  refine W_bin rfl rfl b_lss rfl ?_
  refine W_nil ?_
  refine W_seq ?_
  refine W_condPS (p := (k : Int) < (n : Int)) rfl (by simp) (fun q0 => ?_) (fun q0 => ?_)
  · skip
    refine W_skip ?_
    refine W_seq ?_
    refine W_block ?_
    refine W_sr ?_
    refine W_move rfl rfl ?_
    refine W_assign rfl rfl ?_
    refine W_nil ?_
    refine W_sr ?_
    obtain ⟨w, hw⟩ : ∃ w, Ws[k]? = some w := ⟨_, List.getElem?_eq_getElem (by rw [hlen k Ws Hr hJk]; omega)⟩
    have hkn : k < n := by omega
    obtain ⟨ad, cap, hcell, hlc, hrow0⟩ := hB.row
    have hmem : ∀ p ∈ HB, p ∈ (b2, .cells 84 1 [.pointer (some ⟨bb, 0, none⟩)]) :: (b3, .cells 140 1 [(Value.func (.func fi) #[] ca.toArray)]) :: (HB ++ Hr) := fun p hp => List.mem_cons_of_mem _ (List.mem_cons_of_mem _ (List.mem_append_left _ hp))
    obtain ⟨qb, qo, rfl, hc⟩ := (hrow0 (w0 := w0) hmem).at (i := k) (v := w.p) (by rw [List.getElem?_map, hw]; rfl)
    refine W_load (v := .pointer (some ⟨bb, 0, none⟩)) rfl ty84 rfl (Cell.own (b := b2) zM rfl) rfl ?_
    refine W_nilCheck rfl rfl ?_
    refine W_fieldAddr rfl fld132_0 (by decide) rfl ?_
    refine W_load (v := .slice (some ⟨qb, qo, none⟩) Ws.length cap) rfl ty130 rfl (Cell.own (b := bb) (hmem _ hcell) rfl) rfl ?_
    refine W_move rfl rfl ?_
    refine W_indexAddr (j := k) rfl rfl ty130 ty133 rfl (by rw [hlen k Ws Hr hJk]; omega) rfl rfl ?_
    refine W_load (v := w.p) rfl ty133 rfl (by rw [Nat.mul_one]; exact hc) rfl ?_
    refine W_assign rfl rfl ?_
    refine W_nil ?_
    refine W_sr ?_
    refine W_load (v := (Value.func (.func fi) #[] ca.toArray)) rfl ty140 rfl (Cell.own (b := b3) zM rfl) rfl ?_
    refine W_move rfl rfl ?_
    refine W_move rfl rfl ?_
    refine W_callqv (fa := []) (ca := ca) rfl (.cons rfl (.cons rfl .nil)) rfl hfi rfl (hcl k Ws HB Hr w hkn hw hB hJk) ?_
    rcases hs : sel k w with _ | _
    · skip
      refine W_move rfl rfl ?_
      refine W_gno rfl rfl rfl ?_
      refine W_gno rfl rfl rfl ?_
      refine W_gno rfl rfl rfl ?_
      refine W_gno rfl rfl rfl ?_
      refine W_gno rfl rfl rfl ?_
      first | refine W_pickt rfl rfl rfl ?_ | refine W_pickf rfl rfl rfl ?_
      refine W_nil ?_
      refine W_condF rfl rfl ?_
      refine W_skip ?_
      refine W_blk ?_
      refine W_region ?_
      refine W_bin rfl rfl (b_add (m := ((k + 1 : Nat) : Int)) ((i64w (by omega)).trans (by omega))) rfl ?_
      refine W_move rfl rfl ?_
      refine W_nil ?_
      refine W_again (k + 1, Ws, HB, Hr) ⟨by show k + 1 ≤ n; omega, hB, hskip k Ws Hr w hkn hw hJk hs⟩ (by show n - (k + 1) < n - k; omega) (sub_cons rfl (sub_cons rfl (sub_cons rfl (sub_cons rfl (sub_cons rfl (sub_nil _)))))) rfl (.refl _)
    · skip
      refine W_move rfl rfl ?_
      refine W_gyes rfl rfl ?_
      refine W_move rfl rfl ?_
      refine W_gyes rfl rfl ?_
      refine W_move rfl rfl ?_
      refine W_gyes rfl rfl ?_
      refine W_move rfl rfl ?_
      refine W_gyes rfl rfl ?_
      refine W_yield rfl (.cons rfl (.cons rfl .nil)) rfl (hround k Ws HB Hr w hkn hw hB hJk hs) ?_
      rintro v H' ⟨Ws', HB', Hr', hB', hsub, ⟨rfl, hJ'⟩ | ⟨rfl, hS'⟩⟩
      · skip
        refine W_hsub hsub ?_
        refine W_gyes rfl rfl ?_
        refine W_not rfl rfl ?_
        first | refine W_pickt rfl rfl rfl ?_ | refine W_pickf rfl rfl rfl ?_
        refine W_nil ?_
        refine W_condF rfl rfl ?_
        refine W_skip ?_
        refine W_blk ?_
        refine W_region ?_
        refine W_bin rfl rfl (b_add (m := ((k + 1 : Nat) : Int)) ((i64w (by omega)).trans (by omega))) rfl ?_
        refine W_move rfl rfl ?_
        refine W_nil ?_
        refine W_again (k + 1, Ws', HB', Hr') ⟨by show k + 1 ≤ n; omega, hB', hJ'⟩ (by show n - (k + 1) < n - k; omega) (sub_cons rfl (sub_cons rfl (sub_cons rfl (sub_cons rfl (sub_cons rfl (sub_nil _)))))) rfl (.refl _)
      · skip
        refine W_hsub hsub ?_
        refine W_gyes rfl rfl ?_
        refine W_not rfl rfl ?_
        first | refine W_pickt rfl rfl rfl ?_ | refine W_pickf rfl rfl rfl ?_
        refine W_nil ?_
        refine W_condT rfl rfl ?_
        refine W_ret0m Tryz.results107 (.nil _) (.refl _) ?_
        exact ⟨Ws', HB', Hr', hB', .refl _, .inr hS'⟩
  · skip
    refine W_exit rfl ?_
    refine W_end0m Tryz.results107 (.nil _) (.refl _) ?_
    obtain rfl : k = n := by omega
    exact ⟨Ws, HB, Hr, hB, .refl _, .inl hJk⟩
end Go.Proofs.YtcmfldfeakmdoaaGreatDoor
namespace Go.Proofs.YtcmfldfeakmdoaaGreatDoor
open Go Go.Sl
attribute [local irreducible] W
theorem BankH.wheel {bb k : Nat} {Ws : List Wl} {HB : Heap} {w : Wl} (h : BankH bb Ws HB) (hk : Ws[k]? = some w) : ∃ HW, WheelH w.bw w.now w.L w.turn HW ∧ ∀ p ∈ HW, p ∈ HB := by
  cases h with
  | @mk v XS HWs hv hl hw =>
    have hkl := (List.getElem?_eq_some_iff.1 hk).1
    obtain ⟨HW, hHW⟩ : ∃ HW, HWs[k]? = some HW := ⟨_, List.getElem?_eq_getElem (by omega)⟩
    exact ⟨HW, hw k w HW hk hHW, fun p hp => List.mem_cons_of_mem _ (List.mem_append_right _ (List.mem_flatten.2 ⟨HW, List.mem_of_getElem? hHW, hp⟩))⟩
theorem find_q2 {w0 : World} {H HW : Heap} {bw now turn : Nat} {L : List Tm} {id : Int} (hW : WheelH bw now L turn HW) (hm : ∀ p ∈ HW, p ∈ H) : PureAt Tryz.prog w0 H 82 [.pointer (some ⟨bw, 0, none⟩), .int .i64 id] (.tuple #[.agg (spotOf L id).v.toArray, .bool (heldB L id)]) := by
  cases hW with
  | @mk bm c sl XS bs l h =>
    have h1 := hm _ List.mem_cons_self
    have h2 := hm _ (List.mem_cons_of_mem _ List.mem_cons_self)
    by_cases hin : id ∈ L.map (·.id)
    · obtain ⟨t, ht, rfl⟩ := List.mem_map.1 hin
      obtain ⟨hv, hh⟩ := h.hit ht
      rw [spotOf_in h.nodup ht, heldB_iff.2 hin]
      exact Find_q (now := now) (turn := turn) (c := c) (l := l) h.row h1 h2 hv hh
    · obtain ⟨hv, hh⟩ := h.miss hin
      rw [spotOf_out hin, show heldB L id = false by (cases hb : heldB L id with | false => rfl | true => exact absurd (heldB_iff.1 hb) hin)]
      exact Find_q (tn := 0) (e := zSpot) (now := now) (turn := turn) (c := c) (l := l) h.row h1 h2 hv hh
set_option maxHeartbeats 1000000 in
theorem findc_q {w0 : World} {H : Heap} {bi k : Nat} {id : Int} {w : Wl} {HW : Heap} (hW : WheelH w.bw w.now w.L w.turn HW) (hm : ∀ p ∈ HW, p ∈ H) (hb : (bi, .cells 3 1 [.int .i64 id]) ∈ H)  : PureAt Tryz.prog w0 H 81 [.int .i64 (k : Int), w.p, .pointer (some ⟨bi, 0, none⟩)] (.bool (heldB w.L id)) := by
  refine L_enter Tryz.func81 rfl Tryz.ntmps81 rfl rfl ?_
  refine W_sr ?_
  refine W_assign rfl rfl ?_
  refine W_nil ?_
  refine W_sr ?_
  refine W_move rfl rfl ?_
  refine W_load (v := .int .i64 id) rfl ty3 rfl (Cell.own hb rfl) rfl ?_
  refine W_callq (.cons rfl (.cons rfl .nil)) Tryz.call82 rfl (find_q2 (id := id) hW hm) ?_
  refine W_move rfl rfl ?_
  refine W_extract rfl rfl rfl ?_
  refine W_extract rfl rfl rfl ?_
  refine W_alloc (l := zSpot.v) ty32 rfl rfl (fun b6 => ?_)
  refine W_storeA (l' := (spotOf w.L id).v) rfl rfl ty32 rfl rfl (b := b6) zM (by exact Nat.le_refl 4) rfl zU ?_
  refine W_assign rfl rfl ?_
  refine W_nil ?_
  refine W_sr ?_
  refine W_move rfl rfl ?_
  refine W_assign rfl rfl ?_
  refine W_nil ?_
  refine W_ret1m (H2 := H) Tryz.results81 rfl (.nil _) zH ?_
  exact ⟨rfl, rfl⟩
def findK (Ws : List Wl) (id : Int) : Option Nat := Ws.findIdx? (fun w => heldB w.L id)
theorem findK_some {Ws : List Wl} {id : Int} {k : Nat} {w : Wl} (hw : Ws[k]? = some w) (hh : heldB w.L id = true) (hf : ∀ (j : Nat) u, j < k → Ws[j]? = some u → heldB u.L id = false) : findK Ws id = some k := by
  unfold findK
  have hk := (List.getElem?_eq_some_iff.1 hw)
  have hk1 := hk.1
  refine List.findIdx?_eq_some_iff_getElem.2 ⟨hk.1, by rw [hk.2]; exact hh, fun j hj => ?_⟩
  rw [hf j _ hj (List.getElem?_eq_getElem (by omega))]; simp
theorem findK_none {Ws : List Wl} {id : Int} (hf : ∀ (j : Nat) u, j < Ws.length → Ws[j]? = some u → heldB u.L id = false) : findK Ws id = none := by
  unfold findK
  rw [List.findIdx?_eq_none_iff]
  intro w hw
  obtain ⟨j, hj, e⟩ := List.getElem_of_mem hw
  exact hf j w hj (by rw [List.getElem?_eq_getElem hj, e])
def findV (Ws : List Wl) (id : Int) : Value := match findK Ws id with
  | some k => match Ws[k]? with
    | some w => .tuple #[.int .i64 (k : Int), .agg (spotOf w.L id).v.toArray, .bool true]
    | none => .tuple #[.int .i64 0, .agg zSpot.v.toArray, .bool false]
  | none => .tuple #[.int .i64 0, .agg zSpot.v.toArray, .bool false]
theorem snoc_all {Ws : List Wl} {p : Wl → Bool} {k : Nat} {w : Wl} (h : ∀ (j : Nat) u, j < k → Ws[j]? = some u → p u = false) (hw : Ws[k]? = some w) (hs : p w = false) : ∀ (j : Nat) u, j < k + 1 → Ws[j]? = some u → p u = false := fun j u hj hu => by
  by_cases e : j = k
  · subst e
    obtain rfl := Option.some.inj (hu.symm.trans hw)
    exact hs
  · exact h j u (by omega) hu
set_option maxHeartbeats 4000000 in
theorem FindB_L {w0 : World} {H : Heap} {HB : Heap} {bb : Nat} {Ws : List Wl} {id : Int} (hB : BankH bb Ws HB) (hn64 : Ws.length ≤ 64)  : LCalls Tryz.prog w0 45 #[.pointer (some ⟨bb, 0, none⟩), .int .i64 id] (HB ++ H) (fun v H' => ∃ HB', BankH bb Ws HB' ∧ v = findV Ws id ∧ H' = HB' ++ H) := by
  refine L_enter (l := [.pointer (some ⟨bb, 0, none⟩), .int .i64 id]) Tryz.func45 rfl Tryz.ntmps45 rfl rfl ?_
  refine W_sr ?_
  refine W_box (l := [.int .i64 id]) rfl rfl rfl (fun b3 => ?_)
  refine W_alloc (l := [.int .i64 0]) ty3 rfl rfl (fun b4 => ?_)
  refine W_alloc (l := zSpot.v) ty32 rfl rfl (fun b5 => ?_)
  refine W_alloc (l := [.bool false]) ty4 rfl rfl (fun b6 => ?_)
  refine W_nil ?_
  refine W_sr ?_
  refine W_makeFunc .nil (.cons rfl .nil) rfl ?_
  refine W_assign rfl rfl ?_
  refine W_nil ?_
  refine W_seq ?_
  refine W_sr ?_
  refine W_move rfl rfl ?_
  refine W_move rfl rfl ?_
  refine W_call (.cons rfl (.cons rfl .nil)) Tryz.call83 rfl (such_L (b := .pointer (some ⟨bb, 0, none⟩)) (f := .func (.func 81) #[] #[.pointer (some ⟨b3, 0, none⟩)]) rfl rfl) ?_
  rintro v H' ⟨b2_, b3_, rfl, rfl⟩
  refine W_nil ?_
  refine W_block ?_
  refine W_rangeFunc rfl Tryz.call107 ?_
  intro lp D r hst hpd hps hasg hbody hA
  have hr := loop_ready hst hpd
  show LCalls _ _ _ #[_, _, _] _ _
  refine ((such_iter (b2 := b2_) (b3 := b3_) (bb := bb) (n := Ws.length) (fi := 81) (ca := [.pointer (some ⟨b3, 0, none⟩)]) (Ws0 := Ws) (HB0 := HB) (H := (lp, .obj (.loop r)) :: (D, .obj (.deferred (some []))) :: (b6, .cells 4 1 [.bool false]) :: (b5, .cells 32 4 zSpot.v) :: (b4, .cells 3 1 [.int .i64 0]) :: (b3, .cells 3 1 [.int .i64 id]) :: H) (fun k Ws2 Hr => Ws2 = Ws ∧ (∀ (j : Nat) u, j < k → Ws[j]? = some u → heldB u.L id = false) ∧ Hr = (lp, .obj (.loop r)) :: (D, .obj (.deferred (some []))) :: (b6, .cells 4 1 [.bool false]) :: (b5, .cells 32 4 zSpot.v) :: (b4, .cells 3 1 [.int .i64 0]) :: (b3, .cells 3 1 [.int .i64 id]) :: H) (fun Ws2 Hr => Ws2 = Ws ∧ ∃ (k : Nat) (w : Wl), Ws[k]? = some w ∧ findK Ws id = some k ∧ Hr = (lp, .obj (.loop (Loop.at r .done (some .ret)))) :: (D, .obj (.deferred (some []))) :: (b6, .cells 4 1 [.bool true]) :: (b5, .cells 32 4 (spotOf w.L id).v) :: (b4, .cells 3 1 [.int .i64 (k : Int)]) :: (b3, .cells 3 1 [.int .i64 id]) :: H) (fun _ w => heldB w.L id) Tryz.call81 hn64 (fun k Ws' Hr hJ => by rw [hJ.1]) (fun k Ws2 HB2 Hr w hk hw hB2 hJ => by obtain ⟨rfl, _, rfl⟩ := hJ; obtain ⟨HW, hW, hmw⟩ := hB2.wheel hw; exact findc_q (bi := b3) hW (fun p hp => List.mem_cons_of_mem _ (List.mem_cons_of_mem _ (List.mem_append_left _ (hmw p hp)))) zM) (fun k Ws2 Hr w hk hw hJ hs => by obtain ⟨rfl, h1, h2⟩ := hJ; exact ⟨rfl, snoc_all h1 hw hs, h2⟩) ?_ hB ⟨rfl, fun j u hj => by omega, rfl⟩).hsub zH).mono ?_
  · intro k Ws2 HB2 Hr w hk hw hB2 hJ hs
    obtain ⟨rfl, hJ1, rfl⟩ := hJ
    obtain ⟨HW, hW, hmw⟩ := hB2.wheel hw
    refine round_intro hst hpd hA hps rfl hasg rfl rfl rfl zT ?_
    refine W_sr ?_
    refine W_assign rfl rfl ?_
    refine W_nil ?_
    refine W_region ?_
    refine W_assign rfl rfl ?_
    refine W_nil ?_
    refine W_begin hst hpd zT hbody ?_
    refine W_block ?_
    refine W_sr ?_
    refine W_move rfl rfl ?_
    refine W_load (v := .int .i64 id) rfl ty3 rfl (Cell.own (b := b3) zM rfl) rfl ?_
    refine W_callq (.cons rfl (.cons rfl .nil)) Tryz.call82 rfl (find_q2 (id := id) hW (fun p hp => (by repeat (first | exact List.mem_append_left _ (hmw p hp) | exact List.mem_cons_self | apply List.mem_cons_of_mem | apply List.mem_append_right)))) ?_
    refine W_move rfl rfl ?_
    refine W_extract rfl rfl rfl ?_
    refine W_extract rfl rfl rfl ?_
    refine W_alloc (l := zSpot.v) ty32 rfl rfl (fun b10 => ?_)
    refine W_storeA (l' := (spotOf w.L id).v) rfl rfl ty32 rfl rfl (b := b10) zM (by exact Nat.le_refl 4) rfl zU ?_
    refine W_assign rfl rfl ?_
    refine W_nil ?_
    refine W_seq ?_
    refine Rd.W_anyC [(b10, .cells 32 4 (spotOf w.L id).v)] (by kernel_rfl) ?_
    refine Rd.WC_take 0 (l' := #[true, false, false, false, false]) rfl (by decide +kernel) (by decide +kernel) (by decide +kernel) (by decide +kernel) rfl (by decide +kernel) (X_move rfl) rfl ?_
    refine Rd.WC_take 1 (l' := #[true, true, false, false, false]) rfl (by decide +kernel) (by decide +kernel) (by decide +kernel) (by decide +kernel) rfl (by decide +kernel) (X_loadB (vs := (spotOf w.L id).v) rfl ty32 rfl (b := b10) zM rfl rfl) rfl ?_
    refine Rd.WC_one 2 (l' := #[true, true, true, false, false]) zH (by decide +kernel) rfl (by decide +kernel) ?_
    refine W_store (l' := [.int .i64 (k : Int)]) rfl rfl ty3 rfl rfl (b := b4) zM rfl rfl zU ?_
    refine W_nil ?_
    refine Rd.WC_goal ?_
    refine Rd.WC_one 3 (l' := #[true, true, true, true, false]) zH (by decide +kernel) rfl (by decide +kernel) ?_
    refine W_storeA (l' := (spotOf w.L id).v) rfl rfl ty32 rfl rfl (b := b5) zM (by exact Nat.le_refl 4) rfl zU ?_
    refine W_nil ?_
    refine Rd.WC_goal ?_
    refine Rd.WC_one 4 (l' := #[true, true, true, true, true]) zH (by decide +kernel) rfl (by decide +kernel) ?_
    refine W_store (l' := [.bool true]) rfl rfl ty4 rfl rfl (b := b6) zM rfl rfl zU ?_
    refine W_nil ?_
    refine Rd.WC_goal ?_
    refine Rd.WC_done zH (by decide +kernel) ?_
    refine W_retround zT ?_
    exact ⟨Ws2, HB2, (lp, .obj (.loop (Loop.at r .done (some .ret)))) :: (D, .obj (.deferred (some []))) :: (b6, .cells 4 1 [.bool true]) :: (b5, .cells 32 4 (spotOf w.L id).v) :: (b4, .cells 3 1 [.int .i64 (k : Int)]) :: (b3, .cells 3 1 [.int .i64 id]) :: H, hB2, zH, .inr ⟨rfl, rfl, k, w, hw, findK_some hw hs hJ1, rfl⟩⟩
    skip
  · intro _ H' hp
    obtain ⟨Ws2, HB2, Hr, hB2, hs, hJS⟩ := hp
    rcases hJS with ⟨rfl, hJ1, rfl⟩ | ⟨rfl, k, w, hw, hfk, rfl⟩
    case inr =>
      refine ⟨.done, some .ret, (b2_, .cells 84 1 [.pointer (some ⟨bb, 0, none⟩)]) :: (b3_, .cells 140 1 [.func (.func 81) #[] #[.pointer (some ⟨b3, 0, none⟩)]]) :: (HB2 ++ ((D, .obj (.deferred (some []))) :: (b6, .cells 4 1 [.bool true]) :: (b5, .cells 32 4 (spotOf w.L id).v) :: (b4, .cells 3 1 [.int .i64 (k : Int)]) :: (b3, .cells 3 1 [.int .i64 id]) :: H)), hs.trans zH, by decide, ?_⟩
      show W _ _ _ _ _ _ _ _ _
      refine W_ret3G (H2 := HB2 ++ H) Tryz.results45 (.cons zT (.nil _)) (.one rfl ty3 rfl (Cell.own (b := b4) zM rfl)) (.own rfl ty32 rfl (b := b5) zM rfl) (.one rfl ty4 rfl (Cell.own (b := b6) zM rfl)) zH ?_
      exact ⟨HB2, hB2, by unfold findV; rw [hfk]; dsimp only; rw [hw], rfl⟩
    refine ⟨.ready, none, (b2_, .cells 84 1 [.pointer (some ⟨bb, 0, none⟩)]) :: (b3_, .cells 140 1 [.func (.func 81) #[] #[.pointer (some ⟨b3, 0, none⟩)]]) :: (HB2 ++ ((D, .obj (.deferred (some []))) :: (b6, .cells 4 1 [.bool false]) :: (b5, .cells 32 4 zSpot.v) :: (b4, .cells 3 1 [.int .i64 0]) :: (b3, .cells 3 1 [.int .i64 id]) :: H)), by rw [hr]; exact hs.trans zH, by decide, ?_⟩
    show W _ _ _ _ _ _ _ _ _
    refine W_blk ?_
    refine W_sr ?_
    refine W_build ty32 pl32 .nil rfl zF rfl ?_
    refine W_store (l' := [.int .i64 0]) rfl rfl ty3 rfl rfl (b := b4) zM rfl rfl zU ?_
    refine W_storeA (l' := zSpot.v) rfl rfl ty32 rfl rfl (b := b5) zM (by exact Nat.le_refl 4) rfl zU ?_
    refine W_store (l' := [.bool false]) rfl rfl ty4 rfl rfl (b := b6) zM rfl rfl zU ?_
    refine W_nil ?_
    refine W_ret3G (H2 := HB2 ++ H) Tryz.results45 (.cons zT (.nil _)) (.one rfl ty3 rfl (Cell.own (b := b4) zM rfl)) (.own rfl ty32 rfl (b := b5) zM rfl) (.one rfl ty4 rfl (Cell.own (b := b6) zM rfl)) zH ?_
    exact ⟨HB2, hB2, by unfold findV; rw [findK_none hJ1], rfl⟩
end Go.Proofs.YtcmfldfeakmdoaaGreatDoor
namespace Go.Proofs.YtcmfldfeakmdoaaGreatDoor
open Go Go.Sl
attribute [local irreducible] W
def CatchIs (Ws : List Wl) (cpu : Int) (a : Nat) (Ws' : List Wl) (O : List Tm) : Prop :=
  (wlAt Ws cpu = none ∧ Ws' = Ws ∧ O = []) ∨ ∃ (k : Nat) (w : Wl) (Li : List Tm), cpu = (k : Int) ∧ Ws[k]? = some w ∧ Gone w.now (max w.now a) w.L Li O ∧ Ws' = Ws.set k ⟨w.bw, max w.now a, Li, w.turn⟩
theorem wlAt_at {Ws : List Wl} {cpu : Int} {w : Wl} (h : wlAt Ws cpu = some w) : ∃ k : Nat, cpu = (k : Int) ∧ Ws[k]? = some w := by
  unfold wlAt at h
  by_cases c : 0 ≤ cpu
  · rw [if_pos c] at h
    exact ⟨cpu.toNat, by omega, h⟩
  · rw [if_neg c] at h; cases h
theorem ofV_none {Ws : List Wl} {cpu : Int} (h : wlAt Ws cpu = none) : ofV Ws cpu = .pointer none := by unfold ofV; rw [h]
theorem ofV_some {Ws : List Wl} {cpu : Int} {w : Wl} (h : wlAt Ws cpu = some w) : ofV Ws cpu = w.p := by unfold ofV; rw [h]
inductive PutIs (Ws : List Wl) (cpu id : Int) (a : Nat) : List Wl → Spot → Int → Prop
  | cpu (h : wlAt Ws cpu = none) : PutIs Ws cpu id a Ws zSpot 2
  | twice {w : Wl} {k : Nat} (h : wlAt Ws cpu = some w) (hf : findK Ws id = some k) : PutIs Ws cpu id a Ws zSpot 5
  | range {w : Wl} (h : wlAt Ws cpu = some w) (hf : findK Ws id = none) (hr : ¬ (0 ≤ id ∧ id < 256)) : PutIs Ws cpu id a Ws zSpot 2
  | late {w : Wl} (h : wlAt Ws cpu = some w) (hf : findK Ws id = none) (hr : 0 ≤ id ∧ id < 256) (hm : w.now = 18446744073709551615) : PutIs Ws cpu id a Ws zSpot 12
  | ok {k : Nat} {w : Wl} (hc : cpu = (k : Int)) (hk : Ws[k]? = some w) (hf : findK Ws id = none) (hr : 0 ≤ id ∧ id < 256) (hm : w.now < 18446744073709551615) : PutIs Ws cpu id a (Ws.set k ⟨w.bw, w.now, w.L ++ [tmOf w.now a w.turn id], w.turn + 1⟩) (placeT w.now a).1 0
theorem findK_no {Ws : List Wl} {id : Int} (h : findK Ws id = none) {w : Wl} (hw : w ∈ Ws) : id ∉ w.L.map (·.id) := fun hin => by
  unfold findK at h
  rw [List.findIdx?_eq_none_iff] at h
  have := h w hw
  rw [heldB_iff.2 hin] at this; cases this
set_option maxHeartbeats 1000000 in
theorem CatchB_L {w0 : World} {H : Heap} {HB : Heap} {bb : Nat} {Ws : List Wl} (hB : BankH bb Ws HB) {cpu : Int} {a : Nat} (ha : a ≤ 18446744073709551615) (hd : ∀ w ∈ Ws, ∀ t ∈ w.L, w.now < t.s.due) (hT : Tab w0) : LCalls Tryz.prog w0 47 #[.pointer (some ⟨bb, 0, none⟩), .int .i64 cpu, .int .u64 ((a : Nat) : Int)] (HB ++ H) (fun v H' => ∃ (Ws' : List Wl) (HB' : Heap) (O : List Tm) (XO : Heap), BankH bb Ws' HB' ∧ OwnS 3 1 v O.length ((O.map (·.id)).map (Value.int .i64)) XO ∧ CatchIs Ws cpu a Ws' O ∧ H' = XO ++ (HB' ++ H)) := by
  refine L_enter (l := [.pointer (some ⟨bb, 0, none⟩), .int .i64 cpu, .int .u64 ((a : Nat) : Int)]) Tryz.func47 rfl Tryz.ntmps47 rfl rfl ?_
  refine W_sr ?_
  refine W_assign rfl rfl ?_
  refine W_nil ?_
  refine W_sr ?_
  refine W_move rfl rfl ?_
  refine W_move rfl rfl ?_
  refine W_callq (.cons rfl (.cons rfl .nil)) Tryz.call75 rfl (of_q (cpu := cpu) hB (fun p hp => List.mem_append_left _ hp)) ?_
  rcases hwl : wlAt Ws cpu with _ | w
  · skip
    rw [ofV_none hwl]
    refine W_move rfl rfl ?_
    refine W_callp (.cons rfl (.cons rfl .nil)) Tryz.call86 rfl (T := fun _ => True) trivial To_nilp ?_
    refine W_assign rfl rfl ?_
    refine W_nil ?_
    refine W_ret1m Tryz.results47 rfl (.nil _) (.refl _) ?_
    exact ⟨Ws, HB, [], [], hB, .nil, .inl ⟨hwl, rfl, rfl⟩, rfl⟩
  · skip
    rw [ofV_some hwl]
    obtain ⟨k, hck, hwk⟩ := wlAt_at hwl
    obtain ⟨HW, HR, hW, hs1, hs2⟩ := hB.at hwk
    refine W_move rfl rfl ?_
    refine W_hsub (hs1 H) ?_
    refine W_call (.cons rfl (.cons rfl .nil)) Tryz.call86 rfl (To_any (a := a) hT hW (hd w (List.mem_of_getElem? hwk)) ha (H := HR ++ H)) ?_
    rintro v H' ⟨O, Li, HW', XO, hW', hG, hO, rfl⟩
    obtain ⟨HB', hB', hs3⟩ := hs2 ⟨w.bw, max w.now a, Li, w.turn⟩ HW' rfl hW'
    refine W_hsub (HSub.app (TakeS.here _) (hs3 H)) ?_
    refine W_assign rfl rfl ?_
    refine W_nil ?_
    refine W_ret1m Tryz.results47 rfl (.nil _) (.refl _) ?_
    exact ⟨_, HB', O, XO, hB', hO, .inr ⟨k, w, Li, hck, hwk, hG, rfl⟩, rfl⟩
def nowK (Ws : List Wl) (cpu : Int) : Nat := match wlAt Ws cpu with
  | some w => w.now
  | none => 0
theorem now_q3 {w0 : World} {H HW : Heap} {bw now turn : Nat} {L : List Tm} (hW : WheelH bw now L turn HW) (hm : ∀ p ∈ HW, p ∈ H) : PureAt Tryz.prog w0 H 76 [.pointer (some ⟨bw, 0, none⟩)] (.int .u64 ((now : Nat) : Int)) := by
  cases hW with
  | @mk bm c sl XS bs l h => exact Now_q (sl := sl) (bs := bs) (bm := bm) (turn := turn) (hm _ List.mem_cons_self)
set_option maxHeartbeats 1000000 in
theorem NowB_q {w0 : World} {H : Heap} {HB : Heap} {bb : Nat} {Ws : List Wl} (hB : BankH bb Ws HB) (hm : ∀ p ∈ HB, p ∈ H) {cpu : Int}  : PureAt Tryz.prog w0 H 40 [.pointer (some ⟨bb, 0, none⟩), .int .i64 cpu] (.int .u64 ((nowK Ws cpu : Nat) : Int)) := by
  refine L_enter Tryz.func40 rfl Tryz.ntmps40 rfl rfl ?_
  refine W_sr ?_
  refine W_assign rfl rfl ?_
  refine W_nil ?_
  refine W_sr ?_
  refine W_move rfl rfl ?_
  refine W_move rfl rfl ?_
  refine W_callq (.cons rfl (.cons rfl .nil)) Tryz.call75 rfl (of_q (cpu := cpu) hB hm) ?_
  rcases hwl : wlAt Ws cpu with _ | w
  · skip
    rw [ofV_none hwl]
    refine W_callp (.cons rfl .nil) Tryz.call76 rfl (T := fun _ => True) trivial Now_nil ?_
    refine W_assign rfl rfl ?_
    refine W_nil ?_
    refine W_ret1m (H2 := H) Tryz.results40 rfl (.nil _) zH ?_
    exact ⟨by unfold nowK; rw [hwl]; rfl, rfl⟩
  · skip
    rw [ofV_some hwl]
    obtain ⟨k, hck, hwk⟩ := wlAt_at hwl
    obtain ⟨HW, hW, hmw⟩ := hB.wheel hwk
    refine W_callq (.cons rfl .nil) Tryz.call76 rfl (now_q3 hW (fun p hp => hm p (hmw p hp))) ?_
    refine W_assign rfl rfl ?_
    refine W_nil ?_
    refine W_ret1m (H2 := H) Tryz.results40 rfl (.nil _) zH ?_
    exact ⟨by unfold nowK; rw [hwl], rfl⟩
theorem findK_at {Ws : List Wl} {id : Int} {k : Nat} (h : findK Ws id = some k) : ∃ w, Ws[k]? = some w ∧ heldB w.L id = true := by
  unfold findK at h
  obtain ⟨h1, h2, _⟩ := List.findIdx?_eq_some_iff_getElem.1 h
  exact ⟨Ws[k], List.getElem?_eq_getElem h1, h2⟩
theorem wheel_now {bw now turn : Nat} {L : List Tm} {HW : Heap} (h : WheelH bw now L turn HW) : True := trivial
theorem put_ways3 (nw : Nat) (hn : nw ≤ 18446744073709551615) (id : Int) : ¬ (0 ≤ id ∧ id < 256) ∨ ((0 ≤ id ∧ id < 256) ∧ nw = 18446744073709551615) ∨ ((0 ≤ id ∧ id < 256) ∧ nw < 18446744073709551615) := by
  by_cases h1 : 0 ≤ id ∧ id < 256
  · rcases Nat.lt_or_eq_of_le hn with h3 | h3
    · exact .inr (.inr ⟨h1, h3⟩)
    · exact .inr (.inl ⟨h1, h3⟩)
  · exact .inl h1
theorem Put_late' {w0 : World} {H HW : Heap} {bw turn a nw : Nat} {L : List Tm} {id : Int} (hW : WheelH bw nw L turn HW) (hid : 0 ≤ id ∧ id < 256) (ha : a ≤ 18446744073709551615) (hnew : id ∉ L.map (·.id)) (hm : nw = 18446744073709551615) :
    LCalls Tryz.prog w0 79 #[.pointer (some ⟨bw, 0, none⟩), .int .i64 id, .int .u64 ((a : Nat) : Int)] (HW ++ H) (fun v H' => v = .tuple #[.agg zSpot.v.toArray, .int .i64 12] ∧ H' = HW ++ H) := by
  subst hm; exact Put_late hW hid ha hnew
set_option maxHeartbeats 4000000 in
theorem PutB_L {w0 : World} {H : Heap} {HB : Heap} {bb : Nat} {Ws : List Wl} (hB : BankH bb Ws HB) (hn64 : Ws.length ≤ 64) {cpu id : Int} {a : Nat} (ha : a ≤ 18446744073709551615) (hnow : ∀ w ∈ Ws, w.now ≤ 18446744073709551615) (htn : ∀ w ∈ Ws, w.turn ≤ 4611686018427387904)  : LCalls Tryz.prog w0 42 #[.pointer (some ⟨bb, 0, none⟩), .int .i64 cpu, .int .i64 id, .int .u64 ((a : Nat) : Int)] (HB ++ H) (fun v H' => ∃ (Ws' : List Wl) (HB' : Heap) (s : Spot) (e : Int), BankH bb Ws' HB' ∧ v = .tuple #[.agg s.v.toArray, .int .i64 e] ∧ PutIs Ws cpu id a Ws' s e ∧ H' = HB' ++ H) := by
  refine L_enter (l := [.pointer (some ⟨bb, 0, none⟩), .int .i64 cpu, .int .i64 id, .int .u64 ((a : Nat) : Int)]) Tryz.func42 rfl Tryz.ntmps42 rfl rfl ?_
  refine W_sr ?_
  refine W_alloc (l := zSpot.v) ty32 rfl rfl (fun b8 => ?_)
  refine W_assign rfl rfl ?_
  refine W_nil ?_
  refine W_sr ?_
  refine W_move rfl rfl ?_
  refine W_move rfl rfl ?_
  refine W_callq (.cons rfl (.cons rfl .nil)) Tryz.call75 rfl (of_q (cpu := cpu) hB (fun p hp => List.mem_cons_of_mem _ (List.mem_append_left _ hp))) ?_
  rcases hwl : wlAt Ws cpu with _ | w
  · skip
    rw [ofV_none hwl]
    refine W_assign rfl rfl ?_
    refine W_nil ?_
    refine W_seq ?_
    refine W_block ?_
    refine W_sr ?_
    refine W_move rfl rfl ?_
    refine W_x (X_ptrNil rfl rfl ty84) (fun _ h => by cases h) rfl ?_
    refine W_assign rfl rfl ?_
    refine W_nil ?_
    refine W_condF rfl rfl ?_
    refine W_sr ?_
    refine W_move rfl rfl ?_
    refine W_x (X_ptrNil rfl rfl ty133) (fun _ h => by cases h) rfl ?_
    refine W_assign rfl rfl ?_
    refine W_nil ?_
    refine W_condT rfl rfl ?_
    refine W_sr ?_
    refine W_build ty32 pl32 .nil rfl zF rfl ?_
    refine W_storeA (l' := zSpot.v) rfl rfl ty32 rfl rfl (b := b8) zM (by exact Nat.le_refl 4) rfl zU ?_
    refine W_assign rfl rfl ?_
    refine W_nil ?_
    refine W_ret2G (H2 := HB ++ H) Tryz.results42 (.nil _) (.own rfl ty32 rfl zM rfl) (.tmp rfl) zH ?_
    exact ⟨Ws, HB, zSpot, 2, hB, rfl, .cpu hwl, rfl⟩
  · skip
    rw [ofV_some hwl]
    obtain ⟨k, hck, hwk⟩ := wlAt_at hwl
    refine W_assign rfl rfl ?_
    refine W_nil ?_
    refine W_seq ?_
    refine W_block ?_
    refine W_sr ?_
    refine W_move rfl rfl ?_
    refine W_x (X_ptrNil rfl rfl ty84) (fun _ h => by cases h) rfl ?_
    refine W_assign rfl rfl ?_
    refine W_nil ?_
    refine W_condF rfl rfl ?_
    refine W_sr ?_
    refine W_move rfl rfl ?_
    refine W_x (X_ptrNil rfl rfl ty133) (fun _ h => by cases h) rfl ?_
    refine W_assign rfl rfl ?_
    refine W_nil ?_
    refine W_condF rfl rfl ?_
    refine W_skip ?_
    refine W_blk ?_
    refine W_seq ?_
    refine W_sr ?_
    refine W_move rfl rfl ?_
    refine W_move rfl rfl ?_
    refine W_call (.cons rfl (.cons rfl .nil)) Tryz.call45 rfl (LCalls.hsub (FindB_L (id := id) hB hn64 (H := (b8, .cells 32 4 zSpot.v) :: H)) zH) ?_
    rintro v H' ⟨HB1, hB1, rfl, rfl⟩
    rcases hfk : findK Ws id with _ | kf
    · skip
      rw [show findV Ws id = .tuple #[.int .i64 0, .agg zSpot.v.toArray, .bool false] from by unfold findV; rw [hfk]]
      obtain ⟨HW1, HR1, hW1, hs3, hs4⟩ := hB1.at hwk
      have hno := findK_no hfk (List.mem_of_getElem? hwk)
      have hnm := wheel_now hW1
      refine W_move rfl rfl ?_
      refine W_extract rfl rfl rfl ?_
      refine W_extract rfl rfl rfl ?_
      refine W_extract rfl rfl rfl ?_
      refine W_alloc (l := zSpot.v) ty32 rfl rfl (fun b12 => ?_)
      refine W_assign rfl rfl ?_
      refine W_storeA (l' := zSpot.v) rfl rfl ty32 rfl rfl (b := b12) zM (by exact Nat.le_refl 4) rfl zU ?_
      refine W_assign rfl rfl ?_
      refine W_nil ?_
      refine W_sr ?_
      refine W_move rfl rfl ?_
      refine W_nil ?_
      refine W_condF rfl rfl ?_
      refine W_skip ?_
      refine W_sr ?_
      refine W_hsub (H' := HB1 ++ ((b8, .cells 32 4 zSpot.v) :: H)) zH ?_
      rcases put_ways3 w.now (hnow w (List.mem_of_getElem? hwk)) id with hr | ⟨hr, hnm2⟩ | ⟨hr, hlt⟩
      · skip
        refine W_move rfl rfl ?_
        refine W_move rfl rfl ?_
        refine W_move rfl rfl ?_
        refine W_callp (.cons rfl (.cons rfl (.cons rfl .nil))) Tryz.call79 rfl (T := fun _ => True) trivial (Put_range (bw := w.bw) (id := id) (z := (a : Int)) (by omega)) ?_
        refine W_extract rfl rfl rfl ?_
        refine W_extract rfl rfl rfl ?_
        refine W_storeA (l' := zSpot.v) rfl rfl ty32 rfl rfl (b := b8) zM (by exact Nat.le_refl 4) rfl zU ?_
        refine W_assign rfl rfl ?_
        refine W_nil ?_
        refine W_ret2G (H2 := HB1 ++ H) Tryz.results42 (.nil _) (.own rfl ty32 rfl zM rfl) (.tmp rfl) zH ?_
        exact ⟨Ws, HB1, zSpot, 2, hB1, rfl, .range hwl hfk hr, rfl⟩
      · skip
        refine W_move rfl rfl ?_
        refine W_move rfl rfl ?_
        refine W_move rfl rfl ?_
        refine W_hsub (H' := HW1 ++ ((b8, .cells 32 4 zSpot.v) :: (HR1 ++ H))) ((hs3 ((b8, .cells 32 4 zSpot.v) :: H)).trans zH) ?_
        refine W_call (.cons rfl (.cons rfl (.cons rfl .nil))) Tryz.call79 rfl (Put_late' (a := a) hW1 hr ha hno hnm2 (H := (b8, .cells 32 4 zSpot.v) :: (HR1 ++ H))) ?_
        rintro v H' ⟨rfl, rfl⟩
        obtain ⟨HB2, hB2, hs5⟩ := hs4 w HW1 rfl hW1
        rw [set_same hwk] at hB2
        refine W_hsub (H' := (b8, .cells 32 4 zSpot.v) :: (HB2 ++ H)) ((show HSub _ ((b8, .cells 32 4 zSpot.v) :: (HW1 ++ (HR1 ++ H))) from zH).trans (.cons (.here _) (hs5 H))) ?_
        refine W_extract rfl rfl rfl ?_
        refine W_extract rfl rfl rfl ?_
        refine W_storeA (l' := zSpot.v) rfl rfl ty32 rfl rfl (b := b8) zM (by exact Nat.le_refl 4) rfl zU ?_
        refine W_assign rfl rfl ?_
        refine W_nil ?_
        refine W_ret2G (H2 := HB2 ++ H) Tryz.results42 (.nil _) (.own rfl ty32 rfl zM rfl) (.tmp rfl) zH ?_
        exact ⟨Ws, HB2, zSpot, 12, hB2, rfl, .late hwl hfk hr hnm2, rfl⟩
      · skip
        refine W_move rfl rfl ?_
        refine W_move rfl rfl ?_
        refine W_move rfl rfl ?_
        refine W_hsub (H' := HW1 ++ ((b8, .cells 32 4 zSpot.v) :: (HR1 ++ H))) ((hs3 ((b8, .cells 32 4 zSpot.v) :: H)).trans zH) ?_
        refine W_call (.cons rfl (.cons rfl (.cons rfl .nil))) Tryz.call79 rfl (Put_L (a := a) hW1 hlt ha hr hno (htn w (List.mem_of_getElem? hwk)) (H := (b8, .cells 32 4 zSpot.v) :: (HR1 ++ H))) ?_
        rintro v H' ⟨HW2, hW2, rfl, rfl⟩
        obtain ⟨HB2, hB2, hs5⟩ := hs4 ⟨w.bw, w.now, w.L ++ [tmOf w.now a w.turn id], w.turn + 1⟩ HW2 rfl hW2
        refine W_hsub (H' := (b8, .cells 32 4 zSpot.v) :: (HB2 ++ H)) ((show HSub _ ((b8, .cells 32 4 zSpot.v) :: (HW2 ++ (HR1 ++ H))) from zH).trans (.cons (.here _) (hs5 H))) ?_
        refine W_extract rfl rfl rfl ?_
        refine W_extract rfl rfl rfl ?_
        refine W_storeA (l' := (placeT w.now a).1.v) rfl rfl ty32 rfl rfl (b := b8) zM (by exact Nat.le_refl 4) rfl zU ?_
        refine W_assign rfl rfl ?_
        refine W_nil ?_
        refine W_ret2G (H2 := HB2 ++ H) Tryz.results42 (.nil _) (.own rfl ty32 rfl zM rfl) (.tmp rfl) zH ?_
        exact ⟨_, HB2, _, 0, hB2, rfl, .ok hck hwk hfk hr hlt, rfl⟩
    · skip
      obtain ⟨wf, hwf, hfh⟩ := findK_at hfk
      rw [show findV Ws id = .tuple #[.int .i64 (kf : Int), .agg (spotOf wf.L id).v.toArray, .bool true] from by unfold findV; rw [hfk]; dsimp only; rw [hwf]]
      refine W_move rfl rfl ?_
      refine W_extract rfl rfl rfl ?_
      refine W_extract rfl rfl rfl ?_
      refine W_extract rfl rfl rfl ?_
      refine W_alloc (l := zSpot.v) ty32 rfl rfl (fun b12 => ?_)
      refine W_assign rfl rfl ?_
      refine W_storeA (l' := (spotOf wf.L id).v) rfl rfl ty32 rfl rfl (b := b12) zM (by exact Nat.le_refl 4) rfl zU ?_
      refine W_assign rfl rfl ?_
      refine W_nil ?_
      refine W_sr ?_
      refine W_move rfl rfl ?_
      refine W_nil ?_
      refine W_condT rfl rfl ?_
      refine W_sr ?_
      refine W_build ty32 pl32 .nil rfl zF rfl ?_
      refine W_storeA (l' := zSpot.v) rfl rfl ty32 rfl rfl (b := b8) zM (by exact Nat.le_refl 4) rfl zU ?_
      refine W_assign rfl rfl ?_
      refine W_nil ?_
      refine W_ret2G (H2 := HB1 ++ H) Tryz.results42 (.nil _) (.own rfl ty32 rfl zM rfl) (.tmp rfl) zH ?_
      exact ⟨Ws, HB1, zSpot, 5, hB1, rfl, .twice hwl hfk, rfl⟩
end Go.Proofs.YtcmfldfeakmdoaaGreatDoor
namespace Go.Proofs.YtcmfldfeakmdoaaGreatDoor
open Go Go.Sl
attribute [local irreducible] W
set_option maxHeartbeats 1000000 in
theorem delc_pure {x y : Value} : Pure Tryz.prog (fun _ => True) 101 [x, y] (.bool true) := by
  intro w0 H hT
  refine L_enter Tryz.func101 rfl Tryz.ntmps101 rfl rfl ?_
  refine W_sr ?_
  refine W_assign rfl rfl ?_
  refine W_nil ?_
  refine W_sr ?_
  refine W_assign rfl rfl ?_
  refine W_nil ?_
  refine W_ret1m (H2 := H) Tryz.results101 rfl (.nil _) zH ?_
  exact ⟨rfl, rfl⟩
theorem BankH.lens {bb : Nat} {Ws : List Wl} {HB : Heap} (h : BankH bb Ws HB) : ∀ w ∈ Ws, w.L.length ≤ 256 := fun w hw => by
  obtain ⟨k, hk, e⟩ := List.getElem_of_mem hw
  obtain ⟨HW, hW, _⟩ := h.wheel (k := k) (w := w) (by rw [List.getElem?_eq_getElem hk, e])
  exact hW.ids.2.2.2
def delW (l : List Int) (w : Wl) : Wl := ⟨w.bw, w.now, (delsT w.L l).1, w.turn⟩
def delK (Ws : List Wl) (l : List Int) (k : Nat) : List Wl := (Ws.take k).map (delW l) ++ Ws.drop k
theorem delK_len (Ws : List Wl) (l : List Int) (k : Nat) : (delK Ws l k).length = Ws.length := by
  unfold delK
  rw [List.length_append, List.length_map, List.length_take, List.length_drop]; omega
theorem delK_at {Ws : List Wl} {l : List Int} {k : Nat} {w : Wl} (h : Ws[k]? = some w) : (delK Ws l k)[k]? = some w := by
  have hk := (List.getElem?_eq_some_iff.1 h).1
  unfold delK
  rw [List.getElem?_append_right (by rw [List.length_map, List.length_take]; omega), List.length_map, List.length_take, Nat.min_eq_left (by omega), Nat.sub_self, List.getElem?_drop, Nat.add_zero, h]
theorem delK_set {Ws : List Wl} {l : List Int} {k : Nat} {w : Wl} (h : Ws[k]? = some w) : (delK Ws l k).set k (delW l w) = delK Ws l (k + 1) := by
  have hk := (List.getElem?_eq_some_iff.1 h).1
  have e : Ws.drop k = w :: Ws.drop (k + 1) := by
    rw [List.drop_eq_getElem_cons hk, (List.getElem?_eq_some_iff.1 h).2]
  unfold delK
  rw [takeAt h, List.map_append, e, List.set_append_right _ _ (by rw [List.length_map, List.length_take]; omega), List.length_map, List.length_take, Nat.min_eq_left (by omega), Nat.sub_self]
  simp
theorem delK_all (Ws : List Wl) (l : List Int) : delK Ws l Ws.length = Ws.map (delW l) := by
  unfold delK
  rw [List.take_length, List.drop_length, List.append_nil]
def cntK (Ws : List Wl) (l : List Int) : Nat → Nat
  | 0 => 0
  | k + 1 => cntK Ws l k + match Ws[k]? with
    | some w => (delsT w.L l).2
    | none => 0
theorem cntK_at {Ws : List Wl} {l : List Int} {k : Nat} {w : Wl} (h : Ws[k]? = some w) : cntK Ws l (k + 1) = cntK Ws l k + (delsT w.L l).2 := by
  show cntK Ws l k + (match Ws[k]? with | some w => (delsT w.L l).2 | none => 0) = _
  rw [h]
theorem delsT_le2 (L : List Tm) (l : List Int) : (delsT L l).2 ≤ l.length := by
  have := delsT_le L l l.length (Nat.le_refl _)
  rwa [List.take_length] at this
theorem cntK_le (Ws : List Wl) (l : List Int) : ∀ k, cntK Ws l k ≤ k * l.length
  | 0 => Nat.zero_le _
  | k + 1 => by
    have ih := cntK_le Ws l k
    rw [Nat.add_mul]
    show cntK Ws l k + (match Ws[k]? with | some w => (delsT w.L l).2 | none => 0) ≤ _
    refine Nat.add_le_add ih ?_
    cases hk : Ws[k]? with
    | none => exact Nat.zero_le _
    | some w => exact Nat.le_trans (delsT_le2 w.L l) (Nat.le_of_eq (Nat.one_mul _).symm)
set_option maxHeartbeats 4000000 in
theorem DelB_L {w0 : World} {H : Heap} {HB : Heap} {bb : Nat} {Ws : List Wl} (hB : BankH bb Ws HB) (hn64 : Ws.length ≤ 64) {l : List Int} {ad : Option Addr} {cap : Nat} (hl : l.length ≤ 4611686018427387904) (hl2 : l.length ≤ 1000000) (hrow : Holds w0 H ad (l.map (Value.int .i64)))  : LCalls Tryz.prog w0 77 #[.pointer (some ⟨bb, 0, none⟩), .slice ad l.length cap] (HB ++ H) (fun v H' => ∃ HB', BankH bb (Ws.map (delW l)) HB' ∧ v = .int .i64 (cntK Ws l Ws.length : Nat) ∧ H' = HB' ++ H) := by
  refine L_enter (l := [.pointer (some ⟨bb, 0, none⟩), .slice ad l.length cap]) Tryz.func77 rfl Tryz.ntmps77 rfl rfl ?_
  refine W_sr ?_
  refine W_box (l := [.slice ad l.length cap]) rfl rfl rfl (fun b3 => ?_)
  refine W_assign rfl rfl ?_
  refine W_nil ?_
  refine W_sr ?_
  refine W_alloc (l := [.int .i64 0]) ty3 rfl rfl (fun b5 => ?_)
  refine W_store (l' := [.int .i64 0]) rfl rfl ty3 rfl rfl (b := b5) zM rfl rfl zU ?_
  refine W_nil ?_
  refine W_seq ?_
  refine W_sr ?_
  refine W_move rfl rfl ?_
  refine W_call (.cons rfl (.cons rfl .nil)) Tryz.call83 rfl (such_L (b := .pointer (some ⟨bb, 0, none⟩)) (f := (Value.func (.func 101) #[] #[])) rfl rfl) ?_
  rintro v H' ⟨b2_, b3_, rfl, rfl⟩
  refine W_nil ?_
  refine W_block ?_
  refine W_rangeFunc rfl Tryz.call107 ?_
  intro lp D r hst hpd hps hasg hbody hA
  have hr := loop_ready hst hpd
  show LCalls _ _ _ #[_, _, _] _ _
  refine ((such_iter (b2 := b2_) (b3 := b3_) (bb := bb) (n := Ws.length) (fi := 101) (ca := []) (Ws0 := Ws) (HB0 := HB) (H := (lp, .obj (.loop r)) :: (D, .obj (.deferred (some []))) :: (b5, .cells 3 1 [.int .i64 (0 : Int)]) :: (b3, .cells 24 1 [.slice ad l.length cap]) :: H) (fun k Ws2 Hr => Ws2 = delK Ws l k ∧ Hr = (lp, .obj (.loop r)) :: (D, .obj (.deferred (some []))) :: (b5, .cells 3 1 [.int .i64 ((cntK Ws l k : Nat) : Int)]) :: (b3, .cells 24 1 [.slice ad l.length cap]) :: H) (fun _ _ => False) (fun _ _ => true) Tryz.call101 hn64 (fun k Ws' Hr hJ => by rw [hJ.1, delK_len]) (fun k Ws2 HB2 Hr w hk hw hB2 hJ => delc_pure.at trivial) (fun k Ws2 Hr w hk hw hJ hs => by cases hs) ?_ hB ⟨by unfold delK; rw [List.take_zero, List.drop_zero]; rfl, rfl⟩).hsub zH).mono ?_
  · intro k Ws2 HB2 Hr w hk hw hB2 hJ hs
    obtain ⟨rfl, rfl⟩ := hJ
    obtain ⟨w2, hw2⟩ : ∃ w2, Ws[k]? = some w2 := ⟨_, List.getElem?_eq_getElem hk⟩
    obtain rfl : w = w2 := Option.some.inj (hw.symm.trans (delK_at hw2))
    obtain ⟨HW, HR, hW, hs1, hs2⟩ := hB2.at hw
    have hc1 := cntK_le Ws l k
    have hc2 := delsT_le2 w.L l
    have hc3 := cntK_at (l := l) hw2
    have hc4 : k * l.length ≤ 64 * l.length := Nat.mul_le_mul_right _ (by omega)
    refine round_intro hst hpd hA hps rfl hasg rfl rfl rfl zT ?_
    refine W_region ?_
    refine W_assign rfl rfl ?_
    refine W_nil ?_
    refine W_begin hst hpd zT hbody ?_
    refine W_block ?_
    refine Rd.W_anyS [(b5, .cells 3 1 [.int .i64 ((cntK Ws l k : Nat) : Int)]), (b3, .cells 24 1 [.slice ad l.length cap])] 5 (by kernel_rfl) ?_
    refine Rd.WS_take 0 (l' := #[true, false, false, false, false, false]) rfl rfl (by decide +kernel) (by decide +kernel) (by decide +kernel) (by decide +kernel) (by decide +kernel) rfl (by decide +kernel) (X_load (v := .int .i64 (cntK Ws l k : Nat)) rfl ty3 rfl (Cell.own (b := b5) zM rfl)) rfl ?_
    refine Rd.WS_take 1 (l' := #[true, true, false, false, false, false]) rfl rfl (by decide +kernel) (by decide +kernel) (by decide +kernel) (by decide +kernel) (by decide +kernel) rfl (by decide +kernel) (X_move rfl) rfl ?_
    refine Rd.WS_take 2 (l' := #[true, true, true, false, false, false]) rfl rfl (by decide +kernel) (by decide +kernel) (by decide +kernel) (by decide +kernel) (by decide +kernel) rfl (by decide +kernel) (X_load (v := .slice ad l.length cap) rfl ty24 rfl (Cell.own (b := b3) zM rfl)) rfl ?_
    refine Rd.WS_one 3 (l' := #[true, true, true, true, false, false]) zH rfl (by decide +kernel) rfl (by decide +kernel) ?_
    refine W_hsub (H' := HW ++ (HR ++ ((lp, .obj (.loop (Loop.at r .busy none))) :: (b2_, .cells 84 1 [.pointer (some ⟨bb, 0, none⟩)]) :: (b3_, .cells 140 1 [(Value.func (.func 101) #[] #[])]) :: (D, .obj (.deferred (some []))) :: (b5, .cells 3 1 [.int .i64 ((cntK Ws l k : Nat) : Int)]) :: (b3, .cells 24 1 [.slice ad l.length cap]) :: H))) ((show HSub _ (HB2 ++ ((lp, .obj (.loop (Loop.at r .busy none))) :: (b2_, .cells 84 1 [.pointer (some ⟨bb, 0, none⟩)]) :: (b3_, .cells 140 1 [(Value.func (.func 101) #[] #[])]) :: (D, .obj (.deferred (some []))) :: (b5, .cells 3 1 [.int .i64 ((cntK Ws l k : Nat) : Int)]) :: (b3, .cells 24 1 [.slice ad l.length cap]) :: H)) from zH).trans (hs1 _)) ?_
    refine W_call (.cons rfl (.cons rfl .nil)) Tryz.call102 rfl (Del_L (l := l) hW hl (H := HR ++ ((lp, .obj (.loop (Loop.at r .busy none))) :: (b2_, .cells 84 1 [.pointer (some ⟨bb, 0, none⟩)]) :: (b3_, .cells 140 1 [(Value.func (.func 101) #[] #[])]) :: (D, .obj (.deferred (some []))) :: (b5, .cells 3 1 [.int .i64 ((cntK Ws l k : Nat) : Int)]) :: (b3, .cells 24 1 [.slice ad l.length cap]) :: H)) (hrow.up zH)) ?_
    rintro v H' ⟨HW', hW', rfl, rfl⟩
    obtain ⟨HB3, hB3, hs3⟩ := hs2 (delW l w) HW' rfl hW'
    rw [delK_set hw2] at hB3
    refine W_hsub (hs3 _) ?_
    refine W_nil ?_
    refine Rd.WS_goal ?_
    refine Rd.WS_take 4 (l' := #[true, true, true, true, true, false]) rfl rfl (by decide +kernel) (by decide +kernel) (by decide +kernel) (by decide +kernel) (by decide +kernel) rfl (by decide +kernel) (X_bin rfl rfl (b_add (m := ((cntK Ws l (k + 1) : Nat) : Int)) (by rw [i64w (by omega)]; omega))) rfl ?_
    refine Rd.WS_last (l' := #[true, true, true, true, true, true]) zH (by decide +kernel) rfl (by decide +kernel) ?_
    refine W_store (l' := [.int .i64 (cntK Ws l (k + 1) : Nat)]) rfl rfl ty3 rfl rfl (b := b5) zM rfl rfl zU ?_
    refine W_nil ?_
    refine Rd.WC_goal ?_
    refine Rd.WC_done (.nil _) (by decide +kernel) ?_
    refine W_blk ?_
    refine W_endround zT ?_
    rw [hr]
    exact ⟨delK Ws l (k + 1), HB3, (lp, .obj (.loop r)) :: (D, .obj (.deferred (some []))) :: (b5, .cells 3 1 [.int .i64 ((cntK Ws l (k + 1) : Nat) : Int)]) :: (b3, .cells 24 1 [.slice ad l.length cap]) :: H, hB3, zH, .inl ⟨rfl, rfl, rfl⟩⟩
  · intro _ H' hp
    obtain ⟨Ws2, HB2, Hr, hB2, hs, hJS⟩ := hp
    obtain ⟨rfl, rfl⟩ := hJS.resolve_right (fun h => h)
    rw [delK_all] at hB2
    refine ⟨.ready, none, (b2_, .cells 84 1 [.pointer (some ⟨bb, 0, none⟩)]) :: (b3_, .cells 140 1 [(Value.func (.func 101) #[] #[])]) :: (HB2 ++ ((D, .obj (.deferred (some []))) :: (b5, .cells 3 1 [.int .i64 ((cntK Ws l Ws.length : Nat) : Int)]) :: (b3, .cells 24 1 [.slice ad l.length cap]) :: H)), by rw [hr]; exact hs.trans zH, by decide, ?_⟩
    show W _ _ _ _ _ _ _ _ _
    refine W_blk ?_
    refine W_sr ?_
    refine W_load (v := .int .i64 (cntK Ws l Ws.length : Nat)) rfl ty3 rfl (Cell.own (b := b5) zM rfl) rfl ?_
    refine W_assign rfl rfl ?_
    refine W_nil ?_
    refine W_ret1m (H2 := HB2 ++ H) Tryz.results77 rfl (.cons zT (.nil _)) zH ?_
    exact ⟨HB2, hB2, rfl, rfl⟩
end Go.Proofs.YtcmfldfeakmdoaaGreatDoor
namespace Go.Proofs.YtcmfldfeakmdoaaGreatDoor
open Go Go.Sl
attribute [local irreducible] W
theorem PutIs.ok_of {Ws Ws' : List Wl} {cpu id e : Int} {a k : Nat} {s : Spot} {w : Wl} (h : PutIs Ws cpu id a Ws' s e) (hc : cpu = (k : Int)) (hk : Ws[k]? = some w) (hf : findK Ws id = none) (hr : 0 ≤ id ∧ id < 256) (hm : w.now < 18446744073709551615) : Ws' = Ws.set k ⟨w.bw, w.now, w.L ++ [tmOf w.now a w.turn id], w.turn + 1⟩ ∧ s = (placeT w.now a).1 ∧ e = 0 := by
  have hw : wlAt Ws cpu = some w := by unfold wlAt; rw [if_pos (by omega), show cpu.toNat = k by omega, hk]
  cases h with
  | cpu h => rw [hw] at h; cases h
  | twice h h2 => rw [hf] at h2; cases h2
  | range h _ h2 => exact absurd hr h2
  | late h _ _ h2 =>
    rw [hw] at h
    obtain rfl := Option.some.inj h
    omega
  | @ok k2 w2 hc2 hk2 _ _ _ =>
    obtain rfl : k = k2 := by omega
    obtain rfl : w = w2 := Option.some.inj (hk.symm.trans hk2)
    exact ⟨rfl, rfl, rfl⟩
theorem CatchIs.of_at {Ws Ws' : List Wl} {cpu : Int} {a k : Nat} {O : List Tm} {w : Wl} (h : CatchIs Ws cpu a Ws' O) (hc : cpu = (k : Int)) (hk : Ws[k]? = some w) : ∃ Li, Gone w.now (max w.now a) w.L Li O ∧ Ws' = Ws.set k ⟨w.bw, max w.now a, Li, w.turn⟩ := by
  rcases h with ⟨h, _, _⟩ | ⟨k2, w2, Li, hc2, hk2, hG, e⟩
  · exfalso
    unfold wlAt at h
    rw [if_pos (by omega), show cpu.toNat = k by omega, hk] at h; cases h
  · obtain rfl : k = k2 := by omega
    obtain rfl : w = w2 := Option.some.inj (hk.symm.trans hk2)
    exact ⟨Li, hG, e⟩
end Go.Proofs.YtcmfldfeakmdoaaGreatDoor
