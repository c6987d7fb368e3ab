/- A log of entries, folded: an entry is applied; the log, the count, the eras. -/
import Derived.Test.YtebdfelodihdhaaFa
namespace Go.Rost
open Go Go.RowKit Go.Proofs

structure Fold.Ok (f : Fold) (n : Nat) : Prop where
  good : f.book.Good (64 * n)
  c0 : 0 ≤ f.count
  c1 : f.count ≤ n
  len : f.eras.length ≤ n + 1
  ne : f.eras ≠ []
  ep : ∀ (i : Nat) x, f.eras[i]? = some x → x.epoch = (i : Int) + 1
theorem bad_false {e : Ent} (h : e.bad = false) : (packV e.msgs).2 = 0 ∧ e.msgs.length ≤ 64 ∧ (e.kind = 1 ∨ e.kind = 2 ∨ e.kind = 3) ∧ (e.kind ≠ 1 → e.msgs = []) ∧ (e.kind ≠ 2 → e.ver = 0) := by
  have h1 : (packV e.msgs).2 = 0 := by simp_all [Ent.bad]
  refine ⟨h1, ?_, ?_, ?_, ?_⟩
  · unfold packV at h1
    split at h1
    · cases h1
    · omega
  · by_cases k1 : e.kind = 1
    · exact .inl k1
    · by_cases k2 : e.kind = 2
      · exact .inr (.inl k2)
      · by_cases k3 : e.kind = 3
        · exact .inr (.inr k3)
        · simp_all [Ent.bad]
  · intro k1
    have : ¬ 0 < e.msgs.length := by simp_all [Ent.bad]
    exact List.length_eq_zero_iff.1 (by omega)
  · intro k2
    simp_all [Ent.bad]
theorem Does14_c (W0 : World) (b bk n : Nat) (g : Fold) (e : Ent) (p : Option Addr) (c : Nat) (q : Option Addr) (d : Nat) (z : Era) (H : List Chunk) (hr : SlR (At W0 H) p e.msgs) (hl : e.msgs.length ≤ 1000) (hv : SlV q d g.eras) (hz : g.eras.getLast? = some z) (hn : g.eras.length ≤ 1000)
    (hg : g.book.Good n) (hn2 : n ≤ 40000) (hk : e.kind = 1 ∨ e.kind = 2 ∨ e.kind = 3) :
    CallV Try.prog W0 (does14 b e.kind) [e.v p c] (Blk b (.cells #[.pointer (some ⟨bk, 0, none⟩), .slice q g.eras.length d, .int .i64 g.count, .int .i64 g.back] 56 (0, 0)) :: SlT 38 (.slice q g.eras.length d) g.eras :: BookC bk g.book :: H)
      (fun v H' => ∃ u, v = .tuple #[u, .bool (g.doing e).1.2] ∧ H' = SlT 50 u (g.doing e).1.1 :: FoldC b (g.doing e).2 :: H) := by
  have hle := Fold.last_eq hz
  rcases hk with hk | hk | hk
  · rw [does14, if_pos hk]
    refine CallV.of_call (first := [.pointer (some ⟨b, 0, none⟩)]) (cap := []) (Call.post (Call.heap (fun w h => h.pull2) (Delivers14_c W0 b bk n g (.slice q g.eras.length d) e p c (SlT 38 (.slice q g.eras.length d) g.eras :: H) (hr.mono fun w h => h.drop) hl hg hn2)) ?_)
    rintro v H' ⟨u, rfl, rfl⟩
    rw [Fold.doing, if_pos hk]
    refine ⟨_, ⟨u, rfl, rfl⟩, fun w h => At.sw1 (FoldC.shut (f := { g with book := g.book.takes e.msgs }) (bk := bk) (ev := .slice q g.eras.length d) (At.top [_, _, _, _] [1, 3, 2, 0] h))⟩
  · rw [does14, if_neg (by omega), if_pos hk]
    refine CallV.of_call (first := [.pointer (some ⟨b, 0, none⟩)]) (cap := []) ((Switches_c W0 b bk g e p c q d z H hv hz hn).mono ?_)
    rintro v H' ⟨u, rfl, rfl⟩
    rw [Fold.doing, if_neg (by omega), if_pos hk]
    by_cases hc : checkVer g.last.ver e.ver = 0
    · exact ⟨u, by rw [decide_eq_true hc, if_pos hc], by rw [if_pos hc, if_pos hc]⟩
    · exact ⟨u, by rw [decide_eq_false hc, if_neg hc], by rw [if_neg hc, if_neg hc]⟩
  · rw [does14, if_neg (by omega), if_neg (by omega)]
    refine CallV.of_call (first := [.pointer (some ⟨b, 0, none⟩)]) (cap := []) ((Returns_c W0 b bk g e p c q d z H hv hz hn).mono ?_)
    rintro v H' ⟨u, rfl, rfl⟩
    rw [Fold.doing, if_neg (by omega), if_neg (by omega)]
    by_cases hc : g.back = 0
    · exact ⟨u, by rw [decide_eq_true hc, if_pos hc]; rfl, by rw [if_pos hc, if_pos hc]⟩
    · exact ⟨u, by rw [decide_eq_false hc, if_neg hc]; rfl, by rw [if_neg hc, if_neg hc]⟩
theorem Apply14_c (W0 : World) (b n : Nat) (f : Fold) (e : Ent) (p : Option Addr) (c : Nat) (H : List Chunk) (hr : SlR (At W0 H) p e.msgs) (hl : e.msgs.length ≤ 1000) (h0 : 0 ≤ e.epoch) (hok : f.Ok n) (hn : n ≤ 500) :
    Call Try.prog W0 10 [.pointer (some ⟨b, 0, none⟩), e.v p c] (FoldC b f :: H)
      (fun v H' => ∃ u, v = .tuple #[u, .bool (f.apply e).1.2.1, .int .i64 (f.apply e).1.2.2] ∧ H' = SlT 50 u (f.apply e).1.1 :: FoldC b (f.apply e).2 :: H) := by
  obtain ⟨z, hz⟩ := last_some hok.ne
  have hle := Fold.last_eq hz
  have hlen := hok.len
  have hc0 := hok.c0
  have hc1 := hok.c1
  refine call_enter Try.func10 rfl Try.ntmps10 rfl ?_

  refine ct_seq ?_
  refine ct_region ?_
  refine rs_op rfl rfl (opR_box rfl fun b3 => ?_)
  iterate 3 (first | refine rs_ex rfl (by (first | (constructor <;> first | rfl | exact RdC.rd | exact inferInstance) | exact Ex.pickF rfl rfl | exact Ex.eqlS rfl rfl | exact Ex.neqS rfl rfl | exact Ex.eqlPN rfl rfl | exact Ex.neqPN rfl rfl | exact Ex.eqlSN rfl rfl | exact Ex.neqSN rfl rfl | exact Ex.lenStr rfl)) rfl ?_ | refine rs_skip rfl rfl ?_)
  refine rs_end ?_
  refine qe_then ?_
  refine ct_seq ?_
  refine ct_block ?_
  refine ct_seq ?_
  refine ct_region ?_
  iterate 3 (first | refine rs_ex rfl (by (first | (constructor <;> first | rfl | exact RdC.rd | exact inferInstance) | exact Ex.pickF rfl rfl | exact Ex.eqlS rfl rfl | exact Ex.neqS rfl rfl | exact Ex.eqlPN rfl rfl | exact Ex.neqPN rfl rfl | exact Ex.eqlSN rfl rfl | exact Ex.neqSN rfl rfl | exact Ex.lenStr rfl)) rfl ?_ | refine rs_skip rfl rfl ?_)
  refine rs_end ?_
  refine qe_then ?_
  refine ct_cond rfl (fun h10 => by cases h10) (fun h10 => ?_)
  refine ct_seq ?_
  refine ct_region ?_
  (first | refine rs_ex rfl (by (first | (constructor <;> first | rfl | exact RdC.rd | exact inferInstance) | exact Ex.pickF rfl rfl | exact Ex.eqlS rfl rfl | exact Ex.neqS rfl rfl | exact Ex.eqlPN rfl rfl | exact Ex.neqPN rfl rfl | exact Ex.eqlSN rfl rfl | exact Ex.neqSN rfl rfl | exact Ex.lenStr rfl)) rfl ?_ | refine rs_skip rfl rfl ?_)
  refine rs_op rfl rfl (opR_fn rfl (Call.heap (fun w h => by (first | exact h | exact h.sw1 | exact h.sw2 | exact h.sw3 | exact h.sw4 | exact h.sw5 | exact h.sw6 | exact h.sw7 | exact h.sw8 | exact h.pull2 | exact h.pull3 | exact h.pull4 | exact h.pull5 | exact h.fit)) ((Right14_c W0 e p c _ (hr.mono fun w h => h.drop.drop) hl h0).mono ?_)))
  rintro v H' ⟨rfl, rfl⟩
  iterate 2 (first | refine rs_ex rfl (by (first | (constructor <;> first | rfl | exact RdC.rd | exact inferInstance) | exact Ex.pickF rfl rfl | exact Ex.eqlS rfl rfl | exact Ex.neqS rfl rfl | exact Ex.eqlPN rfl rfl | exact Ex.neqPN rfl rfl | exact Ex.eqlSN rfl rfl | exact Ex.neqSN rfl rfl | exact Ex.lenStr rfl)) rfl ?_ | refine rs_skip rfl rfl ?_)
  refine rs_end ?_
  refine qe_then ?_
  refine ct_cond rfl (fun h13 => ?_) (fun h13 => ?_)
  · have hb : e.bad = true := by simpa using h13
    refine ct_seq ?_
    refine ct_region ?_
    iterate 3 (first | refine rs_ex rfl (by (first | (constructor <;> first | rfl | exact RdC.rd | exact inferInstance) | exact Ex.pickF rfl rfl | exact Ex.eqlS rfl rfl | exact Ex.neqS rfl rfl | exact Ex.eqlPN rfl rfl | exact Ex.neqPN rfl rfl | exact Ex.eqlSN rfl rfl | exact Ex.neqSN rfl rfl | exact Ex.lenStr rfl)) rfl ?_ | refine rs_skip rfl rfl ?_)
    refine rs_end ?_
    refine qe_then ?_
    refine ct_ret ?_
    have ea : f.apply e = (([], false, 140), f) := by rw [Fold.apply, if_pos hb]
    exact qe_heap (H' := SlT (α := Msg) 50 (.slice none 0 0) [] :: FoldC b f :: H) (fun w h => At.slt_nil (α := Msg) 50 (At.fit h)) (ret3 rfl rfl rfl rfl ⟨_, by rw [ea], by rw [ea]⟩)
  · have hb : e.bad = false := by simpa using h13
    obtain ⟨_, hm64, hkk, _, _⟩ := bad_false hb
    refine ct_skip ?_
    refine qe_block 0 ?_
    refine qe_then ?_
    refine ct_seq ?_
    refine ct_ex (fun w h => FoldC.open (At.sw1 h)) ?_
    rintro ⟨bk, ev⟩
    simp only
    refine ct_pr (fun w h => h.drop.slv) ?_; rintro ⟨q, d, e2, hv⟩
    subst e2
    refine ct_region ?_
    iterate 5 (first | refine rs_ex rfl (by (first | (constructor <;> first | rfl | exact RdC.rd | exact inferInstance) | exact Ex.pickF rfl rfl | exact Ex.eqlS rfl rfl | exact Ex.neqS rfl rfl | exact Ex.eqlPN rfl rfl | exact Ex.neqPN rfl rfl | exact Ex.eqlSN rfl rfl | exact Ex.neqSN rfl rfl | exact Ex.lenStr rfl)) rfl ?_ | refine rs_skip rfl rfl ?_)
    refine rs_rw (by rw [wrap64 (by omega) (by omega)]) ?_
    iterate 2 (first | refine rs_ex rfl (by (first | (constructor <;> first | rfl | exact RdC.rd | exact inferInstance) | exact Ex.pickF rfl rfl | exact Ex.eqlS rfl rfl | exact Ex.neqS rfl rfl | exact Ex.eqlPN rfl rfl | exact Ex.neqPN rfl rfl | exact Ex.eqlSN rfl rfl | exact Ex.neqSN rfl rfl | exact Ex.lenStr rfl)) rfl ?_ | refine rs_skip rfl rfl ?_)
    refine rs_opN rfl (opR_store rfl rfl rfl rfl ?_)
    refine rs_end ?_
    refine qe_then ?_
    refine ct_seq ?_
    refine ct_seq ?_
    refine ct_draw0 (by kernel_rfl) ?_
    refine ra_take 0 rfl (by kernel_rfl) (by kernel_rfl) rfl (by (first | (constructor <;> first | rfl | exact RdC.rd | exact inferInstance) | exact Ex.pickF rfl rfl | exact Ex.eqlS rfl rfl | exact Ex.neqS rfl rfl | exact Ex.eqlPN rfl rfl | exact Ex.neqPN rfl rfl | exact Ex.eqlSN rfl rfl | exact Ex.neqSN rfl rfl | exact Ex.lenStr rfl)) rfl (fun _ h => h.fit) ?_
    refine ra_take 1 rfl (by kernel_rfl) (by kernel_rfl) rfl (by (first | (constructor <;> first | rfl | exact RdC.rd | exact inferInstance) | exact Ex.pickF rfl rfl | exact Ex.eqlS rfl rfl | exact Ex.neqS rfl rfl | exact Ex.eqlPN rfl rfl | exact Ex.neqPN rfl rfl | exact Ex.eqlSN rfl rfl | exact Ex.neqSN rfl rfl | exact Ex.lenStr rfl)) rfl (fun _ h => h.fit) ?_
    refine ra_take 2 rfl (by kernel_rfl) (by kernel_rfl) rfl (by (first | (constructor <;> first | rfl | exact RdC.rd | exact inferInstance) | exact Ex.pickF rfl rfl | exact Ex.eqlS rfl rfl | exact Ex.neqS rfl rfl | exact Ex.eqlPN rfl rfl | exact Ex.neqPN rfl rfl | exact Ex.eqlSN rfl rfl | exact Ex.neqSN rfl rfl | exact Ex.lenStr rfl)) rfl (fun _ h => h.fit) ?_
    refine ra_all (rs := [3]) (by kernel_rfl) rfl ?_
    refine each_op rfl rfl rfl (opR_fn rfl (Call.heap (fun w h => by (first | exact h | exact h.sw1 | exact h.sw2 | exact h.sw3 | exact h.sw4 | exact h.sw5 | exact h.sw6 | exact h.sw7 | exact h.sw8 | exact h.pull2 | exact h.pull3 | exact h.pull4 | exact h.pull5 | exact h.fit)) ((Now_c W0 b 0 (.pointer (some ⟨bk, 0, none⟩)) (.int .i64 (f.count + 1)) (.int .i64 f.back) q d f.eras z _ hv hz (by omega)).mono ?_))) each_nil
    rintro v H' ⟨rfl, rfl⟩
    refine ⟨.inr (fun w h => h.fit), ?_⟩
    refine ra_take 4 rfl (by kernel_rfl) (by kernel_rfl) rfl (ex_field Try.underlying38 rfl 31 rfl rfl rfl) rfl (fun _ h => h.fit) ?_
    refine ra_take 5 rfl (by kernel_rfl) (by kernel_rfl) rfl (by (first | (constructor <;> first | rfl | exact RdC.rd | exact inferInstance) | exact Ex.pickF rfl rfl | exact Ex.eqlS rfl rfl | exact Ex.neqS rfl rfl | exact Ex.eqlPN rfl rfl | exact Ex.neqPN rfl rfl | exact Ex.eqlSN rfl rfl | exact Ex.neqSN rfl rfl | exact Ex.lenStr rfl)) rfl (fun _ h => h.fit) ?_
    refine ra_end (by kernel_rfl) ?_
    refine qe_then ?_
    refine ct_cond rfl (fun h29 => ?_) (fun h29 => ?_)
    · have hep : e.epoch ≠ z.epoch := by simpa using h29
      refine ct_seq ?_
      refine ct_region ?_
      iterate 3 (first | refine rs_ex rfl (by (first | (constructor <;> first | rfl | exact RdC.rd | exact inferInstance) | exact Ex.pickF rfl rfl | exact Ex.eqlS rfl rfl | exact Ex.neqS rfl rfl | exact Ex.eqlPN rfl rfl | exact Ex.neqPN rfl rfl | exact Ex.eqlSN rfl rfl | exact Ex.neqSN rfl rfl | exact Ex.lenStr rfl)) rfl ?_ | refine rs_skip rfl rfl ?_)
      refine rs_end ?_
      refine qe_then ?_
      refine ct_ret ?_
      have ea : f.apply e = (([], false, 0), f.tick) := by rw [Fold.apply, if_neg (by rw [hb]; decide), if_pos (by rw [hle]; exact hep)]
      exact qe_heap (H' := SlT (α := Msg) 50 (.slice none 0 0) [] :: FoldC b f.tick :: H) (fun w h => At.slt_nil (α := Msg) 50 (FoldC.shut (f := f.tick) (bk := bk) (ev := .slice q f.eras.length d) (At.top [_, _, _, _] [0, 1, 2] h))) (ret3 rfl rfl rfl rfl ⟨_, by rw [ea], by rw [ea]⟩)
    · have hep : e.epoch = z.epoch := by simpa using h29
      have ea : f.apply e = (((f.tick.doing e).1.1, (f.tick.doing e).1.2, 0), (f.tick.doing e).2) := by rw [Fold.apply, if_neg (by rw [hb]; decide), if_neg (by rw [hle]; exact fun h => h hep)]
      refine ct_skip ?_
      refine qe_then ?_
      refine ct_seq ?_
      refine ct_region ?_
      refine rs_op rfl rfl (opR_makeMap fun b30 => ?_)
      refine rs_heap (fun w h => At.map_new (κ := Int) (ν := Value) intV (fun v => v) h) ?_
      iterate 2 (first | refine rs_ex rfl (by (first | (constructor <;> first | rfl | exact RdC.rd | exact inferInstance) | exact Ex.pickF rfl rfl | exact Ex.eqlS rfl rfl | exact Ex.neqS rfl rfl | exact Ex.eqlPN rfl rfl | exact Ex.neqPN rfl rfl | exact Ex.eqlSN rfl rfl | exact Ex.neqSN rfl rfl | exact Ex.lenStr rfl)) rfl ?_ | refine rs_skip rfl rfl ?_)
      refine rs_opN rfl (opR_insert (ek := intV) (ev := fun v : Value => v) rfl (1 : Int) (clo14 21 b) rfl rfl ?_)
      iterate 2 (first | refine rs_ex rfl (by (first | (constructor <;> first | rfl | exact RdC.rd | exact inferInstance) | exact Ex.pickF rfl rfl | exact Ex.eqlS rfl rfl | exact Ex.neqS rfl rfl | exact Ex.eqlPN rfl rfl | exact Ex.neqPN rfl rfl | exact Ex.eqlSN rfl rfl | exact Ex.neqSN rfl rfl | exact Ex.lenStr rfl)) rfl ?_ | refine rs_skip rfl rfl ?_)
      refine rs_opN rfl (opR_insert (ek := intV) (ev := fun v : Value => v) rfl (2 : Int) (clo14 22 b) rfl rfl ?_)
      iterate 2 (first | refine rs_ex rfl (by (first | (constructor <;> first | rfl | exact RdC.rd | exact inferInstance) | exact Ex.pickF rfl rfl | exact Ex.eqlS rfl rfl | exact Ex.neqS rfl rfl | exact Ex.eqlPN rfl rfl | exact Ex.neqPN rfl rfl | exact Ex.eqlSN rfl rfl | exact Ex.neqSN rfl rfl | exact Ex.lenStr rfl)) rfl ?_ | refine rs_skip rfl rfl ?_)
      refine rs_opN rfl (opR_insert (ek := intV) (ev := fun v : Value => v) rfl (3 : Int) (clo14 23 b) rfl rfl ?_)
      iterate 2 (first | refine rs_ex rfl (by (first | (constructor <;> first | rfl | exact RdC.rd | exact inferInstance) | exact Ex.pickF rfl rfl | exact Ex.eqlS rfl rfl | exact Ex.neqS rfl rfl | exact Ex.eqlPN rfl rfl | exact Ex.neqPN rfl rfl | exact Ex.eqlSN rfl rfl | exact Ex.neqSN rfl rfl | exact Ex.lenStr rfl)) rfl ?_ | refine rs_skip rfl rfl ?_)
      refine rs_end ?_
      refine qe_then ?_
      refine ct_seq ?_
      refine ct_region ?_
      iterate 3 (first | refine rs_ex rfl (by (first | (constructor <;> first | rfl | exact RdC.rd | exact inferInstance) | exact Ex.pickF rfl rfl | exact Ex.eqlS rfl rfl | exact Ex.neqS rfl rfl | exact Ex.eqlPN rfl rfl | exact Ex.neqPN rfl rfl | exact Ex.eqlSN rfl rfl | exact Ex.neqSN rfl rfl | exact Ex.lenStr rfl)) rfl ?_ | refine rs_skip rfl rfl ?_)
      refine rs_ex rfl (ex_lookup (ek := intV) (ev := fun v : Value => v) rfl e.kind rfl inferInstance) rfl ?_
      refine rs_rw (v := does14 b e.kind) ?_ ?_
      · simp only [look_mset, look_nil]
        unfold does14
        rcases hkk with k | k | k <;> rw [k] <;> rfl
      (first | refine rs_ex rfl (by (first | (constructor <;> first | rfl | exact RdC.rd | exact inferInstance) | exact Ex.pickF rfl rfl | exact Ex.eqlS rfl rfl | exact Ex.neqS rfl rfl | exact Ex.eqlPN rfl rfl | exact Ex.neqPN rfl rfl | exact Ex.eqlSN rfl rfl | exact Ex.neqSN rfl rfl | exact Ex.lenStr rfl)) rfl ?_ | refine rs_skip rfl rfl ?_)
      refine rs_op rfl rfl (opR_callV rfl rfl (CallV.heap (fun w h => At.top [_, _, _, _] [1, 2, 3, 0] h) ((Does14_c W0 b bk (64 * n) f.tick e p c q d z _ (hr.mono fun w h => h.drop.drop) hl hv hz (by show f.eras.length ≤ 1000; omega) hok.good (by omega) hkk).mono ?_)))
      rintro v H' ⟨u, rfl, rfl⟩
      iterate 5 (first | refine rs_ex rfl (by (first | (constructor <;> first | rfl | exact RdC.rd | exact inferInstance) | exact Ex.pickF rfl rfl | exact Ex.eqlS rfl rfl | exact Ex.neqS rfl rfl | exact Ex.eqlPN rfl rfl | exact Ex.neqPN rfl rfl | exact Ex.eqlSN rfl rfl | exact Ex.neqSN rfl rfl | exact Ex.lenStr rfl)) rfl ?_ | refine rs_skip rfl rfl ?_)
      refine rs_end ?_
      refine qe_then ?_
      refine ct_seq ?_
      refine ct_region ?_
      iterate 5 (first | refine rs_ex rfl (by (first | (constructor <;> first | rfl | exact RdC.rd | exact inferInstance) | exact Ex.pickF rfl rfl | exact Ex.eqlS rfl rfl | exact Ex.neqS rfl rfl | exact Ex.eqlPN rfl rfl | exact Ex.neqPN rfl rfl | exact Ex.eqlSN rfl rfl | exact Ex.neqSN rfl rfl | exact Ex.lenStr rfl)) rfl ?_ | refine rs_skip rfl rfl ?_)
      refine rs_end ?_
      refine qe_then ?_
      refine ct_ret ?_
      exact qe_heap (H' := SlT 50 u (f.tick.doing e).1.1 :: FoldC b (f.tick.doing e).2 :: H) (fun w h => At.fit h) (ret3 rfl rfl rfl rfl ⟨_, by rw [ea], by rw [ea]⟩)
end Go.Rost
