/- A log of entries, folded: the log, the count, the eras; what is kept. -/
import Derived.Test.YtebdfelodihdhaaFp
namespace Go.Rost
open Go Go.RowKit Go.Proofs

theorem Log14_c (W0 : World) (b : Nat) (f : Fold) (H : List Chunk) (hl : f.book.log.length ≤ 100000) :
    Call Try.prog W0 14 [.pointer (some ⟨b, 0, none⟩)] (FoldC b f :: H) (fun v H' => H' = SlT 50 v f.book.log :: FoldC b f :: H) := by
  refine Call.ex (fun w h => FoldC.open h) ?_
  rintro ⟨bk, ev⟩
  simp only
  refine call_enter Try.func14 rfl Try.ntmps14 rfl ?_

  refine ct_seq ?_
  refine ct_region ?_
  (first | refine rs_ex rfl (by (first | (constructor <;> first | rfl | exact RdC.rd | exact inferInstance) | exact Ex.pickF rfl rfl | exact Ex.eqlS rfl rfl | exact Ex.neqS rfl rfl | exact Ex.eqlPN rfl rfl | exact Ex.neqPN rfl rfl | exact Ex.eqlSN rfl rfl | exact Ex.neqSN rfl rfl | exact Ex.lenStr rfl)) rfl ?_ | refine rs_skip rfl rfl ?_)
  refine rs_end ?_
  refine qe_then ?_
  refine ct_seq ?_
  refine ct_seq ?_
  refine ct_region ?_
  iterate 2 (first | refine rs_ex rfl (by (first | (constructor <;> first | rfl | exact RdC.rd | exact inferInstance) | exact Ex.pickF rfl rfl | exact Ex.eqlS rfl rfl | exact Ex.neqS rfl rfl | exact Ex.eqlPN rfl rfl | exact Ex.neqPN rfl rfl | exact Ex.eqlSN rfl rfl | exact Ex.neqSN rfl rfl | exact Ex.lenStr rfl)) rfl ?_ | refine rs_skip rfl rfl ?_)
  refine rs_end ?_
  refine qe_then ?_
  refine ct_cond rfl (fun h4 => by cases h4) (fun h4 => ?_)
  refine ct_skip ?_
  refine qe_then ?_
  refine ct_seq ?_
  refine ct_region ?_
  iterate 4 (first | refine rs_ex rfl (by (first | (constructor <;> first | rfl | exact RdC.rd | exact inferInstance) | exact Ex.pickF rfl rfl | exact Ex.eqlS rfl rfl | exact Ex.neqS rfl rfl | exact Ex.eqlPN rfl rfl | exact Ex.neqPN rfl rfl | exact Ex.eqlSN rfl rfl | exact Ex.neqSN rfl rfl | exact Ex.lenStr rfl)) rfl ?_ | refine rs_skip rfl rfl ?_)
  refine rs_op rfl rfl (opR_fn rfl (Call.heap (fun w h => by (first | exact h | exact h.sw1 | exact h.sw2 | exact h.sw3 | exact h.sw4 | exact h.sw5 | exact h.sw6 | exact h.sw7 | exact h.sw8 | exact h.pull2 | exact h.pull3 | exact h.pull4 | exact h.pull5 | exact h.fit)) ((Log_c W0 bk f.book _ hl).mono ?_)))
  rintro v H' rfl
  (first | refine rs_ex rfl (by (first | (constructor <;> first | rfl | exact RdC.rd | exact inferInstance) | exact Ex.pickF rfl rfl | exact Ex.eqlS rfl rfl | exact Ex.neqS rfl rfl | exact Ex.eqlPN rfl rfl | exact Ex.neqPN rfl rfl | exact Ex.eqlSN rfl rfl | exact Ex.neqSN rfl rfl | exact Ex.lenStr rfl)) rfl ?_ | refine rs_skip rfl rfl ?_)
  refine rs_end ?_
  refine qe_then ?_
  refine ct_ret ?_
  exact qe_heap (fun w h => At.sw1 (FoldC.shut (bk := bk) (ev := ev) (At.top [_, _, _, _] [2, 3, 1, 0] h))) (ret1 rfl rfl rfl)
theorem Log14_nil (W0 : World) (H : List Chunk) : Call Try.prog W0 14 [.pointer none] H (fun v H' => v = .slice none 0 0 ∧ H' = H) := by
  refine call_enter Try.func14 rfl Try.ntmps14 rfl ?_

  refine ct_seq ?_
  refine ct_region ?_
  (first | refine rs_ex rfl (by (first | (constructor <;> first | rfl | exact RdC.rd | exact inferInstance) | exact Ex.pickF rfl rfl | exact Ex.eqlS rfl rfl | exact Ex.neqS rfl rfl | exact Ex.eqlPN rfl rfl | exact Ex.neqPN rfl rfl | exact Ex.eqlSN rfl rfl | exact Ex.neqSN rfl rfl | exact Ex.lenStr rfl)) rfl ?_ | refine rs_skip rfl rfl ?_)
  refine rs_end ?_
  refine qe_then ?_
  refine ct_seq ?_
  refine ct_seq ?_
  refine ct_region ?_
  iterate 2 (first | refine rs_ex rfl (by (first | (constructor <;> first | rfl | exact RdC.rd | exact inferInstance) | exact Ex.pickF rfl rfl | exact Ex.eqlS rfl rfl | exact Ex.neqS rfl rfl | exact Ex.eqlPN rfl rfl | exact Ex.neqPN rfl rfl | exact Ex.eqlSN rfl rfl | exact Ex.neqSN rfl rfl | exact Ex.lenStr rfl)) rfl ?_ | refine rs_skip rfl rfl ?_)
  refine rs_end ?_
  refine qe_then ?_
  refine ct_cond rfl (fun h4 => ?_) (fun h4 => by cases h4)
  refine ct_seq ?_
  refine ct_region ?_
  (first | refine rs_ex rfl (by (first | (constructor <;> first | rfl | exact RdC.rd | exact inferInstance) | exact Ex.pickF rfl rfl | exact Ex.eqlS rfl rfl | exact Ex.neqS rfl rfl | exact Ex.eqlPN rfl rfl | exact Ex.neqPN rfl rfl | exact Ex.eqlSN rfl rfl | exact Ex.neqSN rfl rfl | exact Ex.lenStr rfl)) rfl ?_ | refine rs_skip rfl rfl ?_)
  refine rs_end ?_
  refine qe_then ?_
  refine ct_ret ?_
  exact ret1 rfl rfl ⟨rfl, rfl⟩
theorem Count14_c (W0 : World) (b : Nat) (f : Fold) (H : List Chunk) :
    Call Try.prog W0 13 [.pointer (some ⟨b, 0, none⟩)] (FoldC b f :: H) (fun v H' => v = .int .i64 f.count ∧ H' = FoldC b f :: H) := by
  refine Call.ex (fun w h => FoldC.open h) ?_
  rintro ⟨bk, ev⟩
  simp only
  refine call_enter Try.func13 rfl Try.ntmps13 rfl ?_

  refine ct_seq ?_
  refine ct_region ?_
  (first | refine rs_ex rfl (by (first | (constructor <;> first | rfl | exact RdC.rd | exact inferInstance) | exact Ex.pickF rfl rfl | exact Ex.eqlS rfl rfl | exact Ex.neqS rfl rfl | exact Ex.eqlPN rfl rfl | exact Ex.neqPN rfl rfl | exact Ex.eqlSN rfl rfl | exact Ex.neqSN rfl rfl | exact Ex.lenStr rfl)) rfl ?_ | refine rs_skip rfl rfl ?_)
  refine rs_end ?_
  refine qe_then ?_
  refine ct_seq ?_
  refine ct_seq ?_
  refine ct_region ?_
  iterate 2 (first | refine rs_ex rfl (by (first | (constructor <;> first | rfl | exact RdC.rd | exact inferInstance) | exact Ex.pickF rfl rfl | exact Ex.eqlS rfl rfl | exact Ex.neqS rfl rfl | exact Ex.eqlPN rfl rfl | exact Ex.neqPN rfl rfl | exact Ex.eqlSN rfl rfl | exact Ex.neqSN rfl rfl | exact Ex.lenStr rfl)) rfl ?_ | refine rs_skip rfl rfl ?_)
  refine rs_end ?_
  refine qe_then ?_
  refine ct_cond rfl (fun h4 => by cases h4) (fun h4 => ?_)
  refine ct_skip ?_
  refine qe_then ?_
  refine ct_seq ?_
  refine ct_region ?_
  iterate 5 (first | refine rs_ex rfl (by (first | (constructor <;> first | rfl | exact RdC.rd | exact inferInstance) | exact Ex.pickF rfl rfl | exact Ex.eqlS rfl rfl | exact Ex.neqS rfl rfl | exact Ex.eqlPN rfl rfl | exact Ex.neqPN rfl rfl | exact Ex.eqlSN rfl rfl | exact Ex.neqSN rfl rfl | exact Ex.lenStr rfl)) rfl ?_ | refine rs_skip rfl rfl ?_)
  refine rs_end ?_
  refine qe_then ?_
  refine ct_ret ?_
  exact qe_heap (fun w h => FoldC.shut (bk := bk) (ev := ev) h) (ret1 rfl rfl ⟨rfl, rfl⟩)
theorem Count14_nil (W0 : World) (H : List Chunk) : Call Try.prog W0 13 [.pointer none] H (fun v H' => v = .int .i64 0 ∧ H' = H) := by
  refine call_enter Try.func13 rfl Try.ntmps13 rfl ?_

  refine ct_seq ?_
  refine ct_region ?_
  (first | refine rs_ex rfl (by (first | (constructor <;> first | rfl | exact RdC.rd | exact inferInstance) | exact Ex.pickF rfl rfl | exact Ex.eqlS rfl rfl | exact Ex.neqS rfl rfl | exact Ex.eqlPN rfl rfl | exact Ex.neqPN rfl rfl | exact Ex.eqlSN rfl rfl | exact Ex.neqSN rfl rfl | exact Ex.lenStr rfl)) rfl ?_ | refine rs_skip rfl rfl ?_)
  refine rs_end ?_
  refine qe_then ?_
  refine ct_seq ?_
  refine ct_seq ?_
  refine ct_region ?_
  iterate 2 (first | refine rs_ex rfl (by (first | (constructor <;> first | rfl | exact RdC.rd | exact inferInstance) | exact Ex.pickF rfl rfl | exact Ex.eqlS rfl rfl | exact Ex.neqS rfl rfl | exact Ex.eqlPN rfl rfl | exact Ex.neqPN rfl rfl | exact Ex.eqlSN rfl rfl | exact Ex.neqSN rfl rfl | exact Ex.lenStr rfl)) rfl ?_ | refine rs_skip rfl rfl ?_)
  refine rs_end ?_
  refine qe_then ?_
  refine ct_cond rfl (fun h4 => ?_) (fun h4 => by cases h4)
  refine ct_seq ?_
  refine ct_region ?_
  (first | refine rs_ex rfl (by (first | (constructor <;> first | rfl | exact RdC.rd | exact inferInstance) | exact Ex.pickF rfl rfl | exact Ex.eqlS rfl rfl | exact Ex.neqS rfl rfl | exact Ex.eqlPN rfl rfl | exact Ex.neqPN rfl rfl | exact Ex.eqlSN rfl rfl | exact Ex.neqSN rfl rfl | exact Ex.lenStr rfl)) rfl ?_ | refine rs_skip rfl rfl ?_)
  refine rs_end ?_
  refine qe_then ?_
  refine ct_ret ?_
  exact ret1 rfl rfl ⟨rfl, rfl⟩
theorem Apply14_nil (W0 : World) (v : Value) (L : List Value) (H : List Chunk) [hc : CellsOf v L] : Call Try.prog W0 10 [.pointer none, v] H (fun r H' => r = .tuple #[.slice none 0 0, .bool false, .int .i64 1] ∧ H' = H) := by
  refine call_enter Try.func10 rfl Try.ntmps10 rfl ?_

  refine ct_seq ?_
  refine ct_region ?_
  refine rs_op rfl rfl (opR_box rfl fun b3 => ?_)
  iterate 3 (first | refine rs_ex rfl (by (first | (constructor <;> first | rfl | exact RdC.rd | exact inferInstance) | exact Ex.pickF rfl rfl | exact Ex.eqlS rfl rfl | exact Ex.neqS rfl rfl | exact Ex.eqlPN rfl rfl | exact Ex.neqPN rfl rfl | exact Ex.eqlSN rfl rfl | exact Ex.neqSN rfl rfl | exact Ex.lenStr rfl)) rfl ?_ | refine rs_skip rfl rfl ?_)
  refine rs_end ?_
  refine qe_then ?_
  refine ct_seq ?_
  refine ct_block ?_
  refine ct_seq ?_
  refine ct_region ?_
  iterate 3 (first | refine rs_ex rfl (by (first | (constructor <;> first | rfl | exact RdC.rd | exact inferInstance) | exact Ex.pickF rfl rfl | exact Ex.eqlS rfl rfl | exact Ex.neqS rfl rfl | exact Ex.eqlPN rfl rfl | exact Ex.neqPN rfl rfl | exact Ex.eqlSN rfl rfl | exact Ex.neqSN rfl rfl | exact Ex.lenStr rfl)) rfl ?_ | refine rs_skip rfl rfl ?_)
  refine rs_end ?_
  refine qe_then ?_
  refine ct_cond rfl (fun h10 => ?_) (fun h10 => by cases h10)
  refine ct_seq ?_
  refine ct_region ?_
  iterate 3 (first | refine rs_ex rfl (by (first | (constructor <;> first | rfl | exact RdC.rd | exact inferInstance) | exact Ex.pickF rfl rfl | exact Ex.eqlS rfl rfl | exact Ex.neqS rfl rfl | exact Ex.eqlPN rfl rfl | exact Ex.neqPN rfl rfl | exact Ex.eqlSN rfl rfl | exact Ex.neqSN rfl rfl | exact Ex.lenStr rfl)) rfl ?_ | refine rs_skip rfl rfl ?_)
  refine rs_end ?_
  refine qe_then ?_
  refine ct_ret ?_
  exact qe_heap (fun w h => h.drop) (ret3 rfl rfl rfl rfl ⟨rfl, rfl⟩)
theorem Eras_open (W0 : World) (b : Nat) (u x y : Value) (p : Option Addr) (c : Nat) (l : List Era) (H : List Chunk) (hv : SlV p c l) (hl : l.length ≤ 1000) (h0 : ∀ x ∈ l, x.epoch ≠ 0) :
    Call Try.prog W0 12 [.pointer (some ⟨b, 0, none⟩)] (Blk b (.cells #[u, .slice p l.length c, x, y] 56 (0, 0)) :: SlT 38 (.slice p l.length c) l :: H)
      (fun v H' => H' = SlT 38 v l :: Blk b (.cells #[u, .slice p l.length c, x, y] 56 (0, 0)) :: SlT 38 (.slice p l.length c) l :: H) := by
  refine (Call.over (K := fun v H1 => H1 = [SlT 38 v l]) fun W1 hW => Eras_in W1 b u x y p c l (RdBlk.base (fun w hw => ⟨_, _, hw.read⟩) hW) (SlR.base (RdS.slR (len := l.length) inferInstance hv) hW) hl h0).mono ?_
  rintro v H' ⟨H1, rfl, rfl⟩
  rfl
theorem ep_ne {f : Fold} {n : Nat} (h : f.Ok n) : ∀ x ∈ f.eras, x.epoch ≠ 0 := fun x hx => by
  obtain ⟨i, hi, rfl⟩ := List.getElem_of_mem hx
  have := h.ep i _ (List.getElem?_eq_getElem hi)
  omega
theorem Eras14_c (W0 : World) (b n : Nat) (f : Fold) (H : List Chunk) (hok : f.Ok n) (hn : n ≤ 500) :
    Call Try.prog W0 12 [.pointer (some ⟨b, 0, none⟩)] (FoldC b f :: H) (fun v H' => H' = SlT 38 v f.eras :: FoldC b f :: H) := by
  have hlen := hok.len
  refine Call.ex (fun w h => FoldC.open h) ?_
  rintro ⟨bk, ev⟩
  simp only
  refine Call.pr (fun w h => h.drop.slv) ?_
  rintro ⟨q, d, rfl, hv⟩
  refine Call.post (Eras_open W0 b (.pointer (some ⟨bk, 0, none⟩)) (.int .i64 f.count) (.int .i64 f.back) q d f.eras (BookC bk f.book :: H) hv (by omega) (ep_ne hok)) ?_
  rintro v H' rfl
  exact ⟨_, rfl, fun w h => At.sw1 (FoldC.shut (f := f) (bk := bk) (ev := .slice q f.eras.length d) (At.top [_, _, _, _] [1, 2, 3, 0] h))⟩
theorem All_nil (W0 : World) (H : List Chunk) : Call Try.prog W0 25 [.pointer none] H (fun v H' => ∃ b e, v = .func (.func 39) #[] #[.pointer (some ⟨b, 0, none⟩)] ∧ H' = Blk b (.cells #[.slice (some ⟨e, 0, none⟩) 0 0] 35 (0, 0)) :: Blk e (.cells #[] 38 (0, 0)) :: H) := by
  refine call_enter Try.func25 rfl Try.ntmps25 rfl ?_

  refine ct_seq ?_
  refine ct_region ?_
  (first | refine rs_ex rfl (by (first | (constructor <;> first | rfl | exact RdC.rd | exact inferInstance) | exact Ex.pickF rfl rfl | exact Ex.eqlS rfl rfl | exact Ex.neqS rfl rfl | exact Ex.eqlPN rfl rfl | exact Ex.neqPN rfl rfl | exact Ex.eqlSN rfl rfl | exact Ex.neqSN rfl rfl | exact Ex.lenStr rfl)) rfl ?_ | refine rs_skip rfl rfl ?_)
  refine rs_end ?_
  refine qe_then ?_
  refine ct_seq ?_
  refine ct_seq ?_
  refine ct_region ?_
  iterate 2 (first | refine rs_ex rfl (by (first | (constructor <;> first | rfl | exact RdC.rd | exact inferInstance) | exact Ex.pickF rfl rfl | exact Ex.eqlS rfl rfl | exact Ex.neqS rfl rfl | exact Ex.eqlPN rfl rfl | exact Ex.neqPN rfl rfl | exact Ex.eqlSN rfl rfl | exact Ex.neqSN rfl rfl | exact Ex.lenStr rfl)) rfl ?_ | refine rs_skip rfl rfl ?_)
  refine rs_end ?_
  refine qe_then ?_
  refine ct_cond rfl (fun h4 => ?_) (fun h4 => by cases h4)
  refine ct_seq ?_
  refine ct_region ?_
  refine rs_op rfl rfl (opR_buildSlice0 fun b5 => ?_)
  refine rs_op rfl rfl (opR_fn rfl (Call.heap (fun w h => by (first | exact h | exact h.sw1 | exact h.sw2 | exact h.sw3 | exact h.sw4 | exact h.sw5 | exact h.sw6 | exact h.sw7 | exact h.sw8 | exact h.pull2 | exact h.pull3 | exact h.pull4 | exact h.pull5 | exact h.fit)) ((ValE_c W0 (some ⟨b5, 0, none⟩) 0 0 _).mono ?_)))
  rintro v H' ⟨bl, rfl, rfl⟩
  (first | refine rs_ex rfl (by (first | (constructor <;> first | rfl | exact RdC.rd | exact inferInstance) | exact Ex.pickF rfl rfl | exact Ex.eqlS rfl rfl | exact Ex.neqS rfl rfl | exact Ex.eqlPN rfl rfl | exact Ex.neqPN rfl rfl | exact Ex.eqlSN rfl rfl | exact Ex.neqSN rfl rfl | exact Ex.lenStr rfl)) rfl ?_ | refine rs_skip rfl rfl ?_)
  refine rs_end ?_
  refine qe_then ?_
  refine ct_ret ?_
  exact ret1 rfl rfl ⟨_, _, rfl, rfl⟩
theorem Eras_nil_in (W0 : World) : Call Try.prog W0 12 [.pointer none] [] (fun v H' => H' = [SlT 38 v ([] : List Era)]) := by
  refine call_enterM Try.func12 rfl Try.ntmps12 rfl ?_

  refine ct_seq ?_
  refine ct_region ?_
  (first | refine rs_ex rfl (by (first | (constructor <;> first | rfl | exact RdC.rd | exact inferInstance) | exact Ex.pickF rfl rfl | exact Ex.eqlS rfl rfl | exact Ex.neqS rfl rfl | exact Ex.eqlPN rfl rfl | exact Ex.neqPN rfl rfl | exact Ex.eqlSN rfl rfl | exact Ex.neqSN rfl rfl | exact Ex.lenStr rfl)) rfl ?_ | refine rs_skip rfl rfl ?_)
  refine rs_end ?_
  refine qe_then ?_
  refine ct_scope ?_
  refine ct_seq ?_
  refine ct_region ?_
  refine rs_op rfl rfl (opR_alloc fun b3 => ?_)
  refine rs_end ?_
  refine qe_then ?_
  refine ct_seq ?_
  refine ct_label ?_
  refine qe_then ?_
  refine ct_seq ?_
  refine ct_seq ?_
  refine ct_region ?_
  (first | refine rs_ex rfl (by (first | (constructor <;> first | rfl | exact RdC.rd | exact inferInstance) | exact Ex.pickF rfl rfl | exact Ex.eqlS rfl rfl | exact Ex.neqS rfl rfl | exact Ex.eqlPN rfl rfl | exact Ex.neqPN rfl rfl | exact Ex.eqlSN rfl rfl | exact Ex.neqSN rfl rfl | exact Ex.lenStr rfl)) rfl ?_ | refine rs_skip rfl rfl ?_)
  refine rs_op rfl rfl (opR_fn rfl (Call.heap (fun w h => by (first | exact h | exact h.sw1 | exact h.sw2 | exact h.sw3 | exact h.sw4 | exact h.sw5 | exact h.sw6 | exact h.sw7 | exact h.sw8 | exact h.pull2 | exact h.pull3 | exact h.pull4 | exact h.pull5 | exact h.fit)) ((All_nil W0 _).mono ?_)))
  rintro v H' ⟨bl, e, rfl, rfl⟩
  refine rs_end ?_
  refine qe_then ?_
  refine ct_block ?_
  refine ct_rangeFunc (ζ := List Era) (f := 39) (first := []) (cap := [.pointer (some ⟨bl, 0, none⟩)]) encEr (Blk bl (.cells #[.slice (some ⟨e, 0, none⟩) 0 0] 35 (0, 0))) (fun z => [SlotC (α := Era) b3 35 38 []]) erStep (fun z xs => xs = []) (fun xs => xs = []) ([]) rfl (fun _ => rfl) rfl (fun w h => At.sw1 (SlotC.shut (α := Era) (At.sw1 (At.slt_nil (α := Era) 38 (At.top [_, _, _] [2, 0] h))))) (fun y gc T hy => ValE1_c W0 y gc _ _ [] bl 0 _ [] T hy rfl .nil (by simp)) ?_ ?_ ?_
  · exact fun l z x xs hz => by cases hz
  · exact fun z x xs hz _ => by cases hz
  · rintro xs db rfl
    rw [runs]
    refine qe_exs (fun w h => SlotC.open (At.sw1 h)) ?_
    intro v
    refine qe_heap (H' := Blk db (.deferred (some [])) :: Blk b3 (.cells #[v] 35 (0, 0)) :: SlT (α := Era) 38 v [] :: []) (fun w h => At.top [_, _, _] [2, 0, 1] h) ?_
    refine qe_block 0 ?_
    refine qe_then ?_
    refine ct_seq ?_
    refine ct_region ?_
    iterate 2 (first | refine rs_ex rfl (by (first | (constructor <;> first | rfl | exact RdC.rd | exact inferInstance) | exact Ex.pickF rfl rfl | exact Ex.eqlS rfl rfl | exact Ex.neqS rfl rfl | exact Ex.eqlPN rfl rfl | exact Ex.neqPN rfl rfl | exact Ex.eqlSN rfl rfl | exact Ex.neqSN rfl rfl | exact Ex.lenStr rfl)) rfl ?_ | refine rs_skip rfl rfl ?_)
    refine rs_end ?_
    refine qe_then ?_
    refine ct_ret ?_
    exact retM_mark (retM (qe_fit (ret1 rfl rfl rfl)))
theorem Eras_nil (W0 : World) (H : List Chunk) : Call Try.prog W0 12 [.pointer none] H (fun v H' => H' = SlT 38 v ([] : List Era) :: H) := by
  refine (Call.over (K := fun v H1 => H1 = [SlT 38 v ([] : List Era)]) fun W1 hW => Eras_nil_in W1).mono ?_
  rintro v H' ⟨H1, rfl, rfl⟩
  rfl
theorem Book.Good.mono {s : Book} {n m : Nat} (h : s.Good n) (hm : n ≤ m) : s.Good m := ⟨h.inv.mono hm, h.dry⟩
theorem Fold.ok_new (v : Int) : (Fold.new v).Ok 0 := ⟨Book.good_new, Int.le_refl _, Int.le_refl _, Nat.le_refl _, by simp [Fold.new], fun i x h => by
  cases i with
  | zero => simp [Fold.new] at h; subst h; rfl
  | succ i => simp [Fold.new] at h⟩
theorem last_ep {f : Fold} {n : Nat} (h : f.Ok n) : f.last.epoch = (f.eras.length : Int) := by
  obtain ⟨z, hz⟩ := last_some h.ne
  have hg := last_get hz
  have := h.ep _ _ hg
  have hp := List.length_pos_iff.2 h.ne
  rw [Fold.last_eq hz, this]
  omega
theorem Fold.Ok.begin {f : Fold} {n : Nat} (h : f.Ok n) (hn : n ≤ 500) (ver back : Int) (m : Nat) (hm : n + 1 ≤ m) : ((f.tick).begin ver back).Ok m := by
  have h1 := h.len
  have h2 := h.c0
  have h3 := h.c1
  refine ⟨h.good.mono (by omega), by show 0 ≤ f.count + 1; omega, by show f.count + 1 ≤ (m : Int); omega, by simp [Fold.begin, Fold.tick]; omega, by simp [Fold.begin], fun i x hx => ?_⟩
  have hx' : (f.eras ++ [(⟨IntKind.u32.wrap (f.tick.last.epoch + 1), ver, f.count + 1⟩ : Era)])[i]? = some x := hx
  by_cases hi : i < f.eras.length
  · rw [List.getElem?_append_left hi] at hx'; exact h.ep i x hx'
  · rw [List.getElem?_append_right (by omega)] at hx'
    have h0 : i - f.eras.length = 0 := by
      by_cases h0 : i - f.eras.length = 0
      · exact h0
      · obtain ⟨k, hk⟩ := Nat.exists_eq_succ_of_ne_zero h0
        rw [hk] at hx'; simp at hx'
    rw [h0] at hx'
    simp at hx'
    subst hx'
    have he : f.tick.last.epoch = (f.eras.length : Int) := by have h9 := last_ep h; exact h9
    show IntKind.u32.wrap _ = _
    rw [he, wrap32 (by omega) (by omega)]
    omega
theorem Fold.Ok.tick {f : Fold} {n : Nat} (h : f.Ok n) (m : Nat) (hm : n + 1 ≤ m) : f.tick.Ok m := by
  have h1 := h.len
  have h2 := h.c0
  have h3 := h.c1
  exact ⟨h.good.mono (by omega), by show 0 ≤ f.count + 1; omega, by show f.count + 1 ≤ (m : Int); omega, by show f.eras.length ≤ m + 1; omega, h.ne, h.ep⟩
theorem Fold.Ok.mono {f : Fold} {n m : Nat} (h : f.Ok n) (hm : n ≤ m) : f.Ok m := by
  have h1 := h.len
  have h3 := h.c1
  exact ⟨h.good.mono (by omega), h.c0, by omega, by omega, h.ne, h.ep⟩
theorem Fold.Ok.apply {f : Fold} {n : Nat} (h : f.Ok n) (hn : n ≤ 500) (e : Ent) : (f.apply e).2.Ok (n + 1) := by
  unfold Fold.apply
  split
  · exact h.mono (by omega)
  · rename_i hb
    split
    · exact h.tick _ (Nat.le_refl _)
    · simp only
      unfold Fold.doing
      obtain ⟨_, hm, _⟩ := bad_false (by simpa using hb)
      split
      · have ht := h.tick (n + 1) (Nat.le_refl _)
        exact ⟨(Book.Good.takes e.msgs h.good (by omega)).mono (by omega), ht.c0, ht.c1, ht.len, ht.ne, ht.ep⟩
      · split
        · split
          · exact h.begin hn _ _ _ (Nat.le_refl _)
          · exact h.tick _ (Nat.le_refl _)
        · split
          · exact h.tick _ (Nat.le_refl _)
          · exact h.begin hn _ _ _ (Nat.le_refl _)
end Go.Rost
