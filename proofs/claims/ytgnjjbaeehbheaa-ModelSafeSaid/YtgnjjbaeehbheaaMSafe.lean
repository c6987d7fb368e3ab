/- The law ModelSafe: what it does. -/
import Derived.Test.YtgnjjbaeehbheaaLg
namespace Go.Rost
open Go Go.RowKit Go.Proofs

theorem ModelSafe_bad (W0 : World) (n : Int) (p : Option Addr) (c : Nat) (l : List Happ) (h1 : SlR (At W0 []) p l) (hn : n < 1 ∨ 16 < n) :
    Call Try.prog W0 6 [.int .i64 n, .slice p l.length c] [] (fun v _ => v = .bool true) := by
  have hck : ∀ L, checkN n L = (0, 2) := fun L => by rw [checkN, if_pos hn]
  refine call_enter Try.func6 rfl Try.ntmps6 rfl ?_

  refine ct_seq ?_
  refine ct_region ?_
  (first | refine rs_ex rfl (by (first | (constructor <;> first | rfl | exact RdC.rd | exact inferInstance) | exact Ex.pickF rfl rfl | exact Ex.eqlS rfl rfl | exact Ex.neqS rfl rfl | exact Ex.eqlPN rfl rfl | exact Ex.neqPN rfl rfl | exact Ex.eqlSN rfl rfl | exact Ex.neqSN rfl rfl | exact Ex.lenStr rfl)) rfl ?_ | refine rs_skip rfl rfl ?_)
  refine rs_end ?_
  refine qe_then ?_
  refine ct_seq ?_
  refine ct_region ?_
  refine rs_op rfl rfl (opR_fn rfl (Call.heap (fun w h => by (first | exact h | exact h.sw1 | exact h.sw2 | exact h.sw3 | exact h.sw4 | exact h.sw5 | exact h.sw6 | exact h.sw7 | exact h.sw8 | exact h.pull2 | exact h.pull3 | exact h.pull4 | exact h.pull5 | exact h.fit)) ((Shown16_c W0 _).mono ?_)))
  rintro v H' ⟨rfl, rfl⟩
  (first | refine rs_ex rfl (by (first | (constructor <;> first | rfl | exact RdC.rd | exact inferInstance) | exact Ex.pickF rfl rfl | exact Ex.eqlS rfl rfl | exact Ex.neqS rfl rfl | exact Ex.eqlPN rfl rfl | exact Ex.neqPN rfl rfl | exact Ex.eqlSN rfl rfl | exact Ex.neqSN rfl rfl | exact Ex.lenStr rfl)) rfl ?_ | refine rs_skip rfl rfl ?_)
  refine rs_end ?_
  refine qe_then ?_
  refine ct_seq ?_
  refine ct_region ?_
  (first | refine rs_ex rfl (by (first | (constructor <;> first | rfl | exact RdC.rd | exact inferInstance) | exact Ex.pickF rfl rfl | exact Ex.eqlS rfl rfl | exact Ex.neqS rfl rfl | exact Ex.eqlPN rfl rfl | exact Ex.neqPN rfl rfl | exact Ex.eqlSN rfl rfl | exact Ex.neqSN rfl rfl | exact Ex.lenStr rfl)) rfl ?_ | refine rs_skip rfl rfl ?_)
  refine rs_op rfl rfl (opR_fn rfl (Call.heap (fun w h => by (first | exact h | exact h.sw1 | exact h.sw2 | exact h.sw3 | exact h.sw4 | exact h.sw5 | exact h.sw6 | exact h.sw7 | exact h.sw8 | exact h.pull2 | exact h.pull3 | exact h.pull4 | exact h.pull5 | exact h.fit)) ((Few_c W0 p c l _ h1).mono ?_)))
  rintro v H' rfl
  (first | refine rs_ex rfl (by (first | (constructor <;> first | rfl | exact RdC.rd | exact inferInstance) | exact Ex.pickF rfl rfl | exact Ex.eqlS rfl rfl | exact Ex.neqS rfl rfl | exact Ex.eqlPN rfl rfl | exact Ex.neqPN rfl rfl | exact Ex.eqlSN rfl rfl | exact Ex.neqSN rfl rfl | exact Ex.lenStr rfl)) rfl ?_ | refine rs_skip rfl rfl ?_)
  refine rs_end ?_
  refine qe_then ?_
  refine ct_pr (fun w h => h.slv) ?_; rintro ⟨p1, c1, e, hv1⟩
  cases e
  have hL := fewL_length l
  generalize fewL l = L at *
  refine ct_seq ?_
  refine ct_region ?_
  iterate 2 (first | refine rs_ex rfl (by (first | (constructor <;> first | rfl | exact RdC.rd | exact inferInstance) | exact Ex.pickF rfl rfl | exact Ex.eqlS rfl rfl | exact Ex.neqS rfl rfl | exact Ex.eqlPN rfl rfl | exact Ex.neqPN rfl rfl | exact Ex.eqlSN rfl rfl | exact Ex.neqSN rfl rfl | exact Ex.lenStr rfl)) rfl ?_ | refine rs_skip rfl rfl ?_)
  refine rs_op rfl rfl (opR_fn rfl (Call.heap (fun w h => by (first | exact h | exact h.sw1 | exact h.sw2 | exact h.sw3 | exact h.sw4 | exact h.sw5 | exact h.sw6 | exact h.sw7 | exact h.sw8 | exact h.pull2 | exact h.pull3 | exact h.pull4 | exact h.pull5 | exact h.fit)) ((Check_c W0 n p1 c1 L _ (by exact RdS.slR (len := L.length) inferInstance hv1) (by omega)).mono ?_)))
  rintro v H' ⟨rfl, rfl⟩
  iterate 5 (first | refine rs_ex rfl (by (first | (constructor <;> first | rfl | exact RdC.rd | exact inferInstance) | exact Ex.pickF rfl rfl | exact Ex.eqlS rfl rfl | exact Ex.neqS rfl rfl | exact Ex.eqlPN rfl rfl | exact Ex.neqPN rfl rfl | exact Ex.eqlSN rfl rfl | exact Ex.neqSN rfl rfl | exact Ex.lenStr rfl)) rfl ?_ | refine rs_skip rfl rfl ?_)
  refine rs_end ?_
  refine qe_then ?_
  rw [hck]
  refine ct_seq ?_
  refine ct_seq ?_
  refine ct_region ?_
  iterate 2 (first | refine rs_ex rfl (by (first | (constructor <;> first | rfl | exact RdC.rd | exact inferInstance) | exact Ex.pickF rfl rfl | exact Ex.eqlS rfl rfl | exact Ex.neqS rfl rfl | exact Ex.eqlPN rfl rfl | exact Ex.neqPN rfl rfl | exact Ex.eqlSN rfl rfl | exact Ex.neqSN rfl rfl | exact Ex.lenStr rfl)) rfl ?_ | refine rs_skip rfl rfl ?_)
  refine rs_end ?_
  refine qe_then ?_
  refine ct_cond rfl (fun h28 => ?_) (fun h28 => by simp at h28)
  refine ct_seq ?_
  refine ct_region ?_
  iterate 2 (first | refine rs_ex rfl (by (first | (constructor <;> first | rfl | exact RdC.rd | exact inferInstance) | exact Ex.pickF rfl rfl | exact Ex.eqlS rfl rfl | exact Ex.neqS rfl rfl | exact Ex.eqlPN rfl rfl | exact Ex.neqPN rfl rfl | exact Ex.eqlSN rfl rfl | exact Ex.neqSN rfl rfl | exact Ex.lenStr rfl)) rfl ?_ | refine rs_skip rfl rfl ?_)
  refine rs_end ?_
  refine qe_then ?_
  refine ct_ret ?_
  exact ret1 rfl rfl rfl
theorem ModelSafe_ok (W0 : World) (k : Nat) (p : Option Addr) (c : Nat) (l : List Happ) (h1 : SlR (At W0 []) p l) (hk1 : 1 ≤ k) (hk2 : k ≤ 16) :
    Call Try.prog W0 6 [.int .i64 (k : Int), .slice p l.length c] [] (fun v _ => v = .bool true) := by
  have hck : ∀ L, checkN k L = (((checkV (Mod.new k) L).1 : Int), (checkV (Mod.new k) L).2) := fun L => by rw [checkN, if_neg (by omega), Int.toNat_natCast]
  refine call_enter Try.func6 rfl Try.ntmps6 rfl ?_

  refine ct_seq ?_
  refine ct_region ?_
  (first | refine rs_ex rfl (by (first | (constructor <;> first | rfl | exact RdC.rd | exact inferInstance) | exact Ex.pickF rfl rfl | exact Ex.eqlS rfl rfl | exact Ex.neqS rfl rfl | exact Ex.eqlPN rfl rfl | exact Ex.neqPN rfl rfl | exact Ex.eqlSN rfl rfl | exact Ex.neqSN rfl rfl | exact Ex.lenStr rfl)) rfl ?_ | refine rs_skip rfl rfl ?_)
  refine rs_end ?_
  refine qe_then ?_
  refine ct_seq ?_
  refine ct_region ?_
  refine rs_op rfl rfl (opR_fn rfl (Call.heap (fun w h => by (first | exact h | exact h.sw1 | exact h.sw2 | exact h.sw3 | exact h.sw4 | exact h.sw5 | exact h.sw6 | exact h.sw7 | exact h.sw8 | exact h.pull2 | exact h.pull3 | exact h.pull4 | exact h.pull5 | exact h.fit)) ((Shown16_c W0 _).mono ?_)))
  rintro v H' ⟨rfl, rfl⟩
  (first | refine rs_ex rfl (by (first | (constructor <;> first | rfl | exact RdC.rd | exact inferInstance) | exact Ex.pickF rfl rfl | exact Ex.eqlS rfl rfl | exact Ex.neqS rfl rfl | exact Ex.eqlPN rfl rfl | exact Ex.neqPN rfl rfl | exact Ex.eqlSN rfl rfl | exact Ex.neqSN rfl rfl | exact Ex.lenStr rfl)) rfl ?_ | refine rs_skip rfl rfl ?_)
  refine rs_end ?_
  refine qe_then ?_
  refine ct_seq ?_
  refine ct_region ?_
  (first | refine rs_ex rfl (by (first | (constructor <;> first | rfl | exact RdC.rd | exact inferInstance) | exact Ex.pickF rfl rfl | exact Ex.eqlS rfl rfl | exact Ex.neqS rfl rfl | exact Ex.eqlPN rfl rfl | exact Ex.neqPN rfl rfl | exact Ex.eqlSN rfl rfl | exact Ex.neqSN rfl rfl | exact Ex.lenStr rfl)) rfl ?_ | refine rs_skip rfl rfl ?_)
  refine rs_op rfl rfl (opR_fn rfl (Call.heap (fun w h => by (first | exact h | exact h.sw1 | exact h.sw2 | exact h.sw3 | exact h.sw4 | exact h.sw5 | exact h.sw6 | exact h.sw7 | exact h.sw8 | exact h.pull2 | exact h.pull3 | exact h.pull4 | exact h.pull5 | exact h.fit)) ((Few_c W0 p c l _ h1).mono ?_)))
  rintro v H' rfl
  (first | refine rs_ex rfl (by (first | (constructor <;> first | rfl | exact RdC.rd | exact inferInstance) | exact Ex.pickF rfl rfl | exact Ex.eqlS rfl rfl | exact Ex.neqS rfl rfl | exact Ex.eqlPN rfl rfl | exact Ex.neqPN rfl rfl | exact Ex.eqlSN rfl rfl | exact Ex.neqSN rfl rfl | exact Ex.lenStr rfl)) rfl ?_ | refine rs_skip rfl rfl ?_)
  refine rs_end ?_
  refine qe_then ?_
  refine ct_pr (fun w h => h.slv) ?_; rintro ⟨p1, c1, e, hv1⟩
  cases e
  have hL := fewL_length l
  generalize fewL l = L at *
  refine ct_seq ?_
  refine ct_region ?_
  iterate 2 (first | refine rs_ex rfl (by (first | (constructor <;> first | rfl | exact RdC.rd | exact inferInstance) | exact Ex.pickF rfl rfl | exact Ex.eqlS rfl rfl | exact Ex.neqS rfl rfl | exact Ex.eqlPN rfl rfl | exact Ex.neqPN rfl rfl | exact Ex.eqlSN rfl rfl | exact Ex.neqSN rfl rfl | exact Ex.lenStr rfl)) rfl ?_ | refine rs_skip rfl rfl ?_)
  refine rs_op rfl rfl (opR_fn rfl (Call.heap (fun w h => by (first | exact h | exact h.sw1 | exact h.sw2 | exact h.sw3 | exact h.sw4 | exact h.sw5 | exact h.sw6 | exact h.sw7 | exact h.sw8 | exact h.pull2 | exact h.pull3 | exact h.pull4 | exact h.pull5 | exact h.fit)) ((Check_c W0 k p1 c1 L _ (by exact RdS.slR (len := L.length) inferInstance hv1) (by omega)).mono ?_)))
  rintro v H' ⟨rfl, rfl⟩
  iterate 5 (first | refine rs_ex rfl (by (first | (constructor <;> first | rfl | exact RdC.rd | exact inferInstance) | exact Ex.pickF rfl rfl | exact Ex.eqlS rfl rfl | exact Ex.neqS rfl rfl | exact Ex.eqlPN rfl rfl | exact Ex.neqPN rfl rfl | exact Ex.eqlSN rfl rfl | exact Ex.neqSN rfl rfl | exact Ex.lenStr rfl)) rfl ?_ | refine rs_skip rfl rfl ?_)
  refine rs_end ?_
  refine qe_then ?_
  rw [hck]
  have herr := chk_err L (Mod.new k)
  have hkl := chk_le L (Mod.new k)
  obtain ⟨e0, he0⟩ : ∃ e0, e0 = (checkV (Mod.new k) L).2 := ⟨_, rfl⟩
  rw [← he0] at herr ⊢
  obtain ⟨q, hq⟩ : ∃ q, q = (checkV (Mod.new k) L).1 := ⟨_, rfl⟩
  rw [← hq] at hkl ⊢
  refine ct_seq ?_
  refine ct_seq ?_
  refine ct_region ?_
  iterate 2 (first | refine rs_ex rfl (by (first | (constructor <;> first | rfl | exact RdC.rd | exact inferInstance) | exact Ex.pickF rfl rfl | exact Ex.eqlS rfl rfl | exact Ex.neqS rfl rfl | exact Ex.eqlPN rfl rfl | exact Ex.neqPN rfl rfl | exact Ex.eqlSN rfl rfl | exact Ex.neqSN rfl rfl | exact Ex.lenStr rfl)) rfl ?_ | refine rs_skip rfl rfl ?_)
  refine rs_end ?_
  refine qe_then ?_
  refine ct_cond rfl (fun h28 => by simp at h28; omega) (fun h28 => ?_)
  refine ct_skip ?_
  refine qe_then ?_
  refine ct_seq ?_
  refine ct_region ?_
  refine rs_op rfl rfl (opR_alloc fun b8 => ?_)
  refine rs_end ?_
  refine qe_then ?_
  refine ct_seq ?_
  refine ct_region ?_
  (first | refine rs_ex rfl (by (first | (constructor <;> first | rfl | exact RdC.rd | exact inferInstance) | exact Ex.pickF rfl rfl | exact Ex.eqlS rfl rfl | exact Ex.neqS rfl rfl | exact Ex.eqlPN rfl rfl | exact Ex.neqPN rfl rfl | exact Ex.eqlSN rfl rfl | exact Ex.neqSN rfl rfl | exact Ex.lenStr rfl)) rfl ?_ | refine rs_skip rfl rfl ?_)
  refine rs_end ?_
  refine qe_then ?_
  refine ct_seq ?_
  refine ct_seq ?_
  refine ct_region ?_
  (first | refine rs_ex rfl (by (first | (constructor <;> first | rfl | exact RdC.rd | exact inferInstance) | exact Ex.pickF rfl rfl | exact Ex.eqlS rfl rfl | exact Ex.neqS rfl rfl | exact Ex.eqlPN rfl rfl | exact Ex.neqPN rfl rfl | exact Ex.eqlSN rfl rfl | exact Ex.neqSN rfl rfl | exact Ex.lenStr rfl)) rfl ?_ | refine rs_skip rfl rfl ?_)
  refine rs_end ?_
  refine qe_then ?_
  refine ct_heap (H' := SlT (α := Msg) 34 (.slice none 0 0) [] :: LogsV b8 50 (List.replicate 16 (.slice none 0 0)) (List.replicate 16 []) :: SlT 52 (.slice p1 L.length c1) L :: []) (fun w h => At.slt_nil 34 (LogsV.new 16 h)) ?_
  refine ct_block ?_
  refine ct_loopc (ζ := Nat × Mod × List Msg × Value × List Value × List (List Msg)) (fun z => z.1 ≤ q ∧ z.2.1.Ok z.1 ∧ z.2.1.del.length = k ∧ z.1 + (checkV z.2.1 (L.drop z.1)).1 = q ∧ Among z.2.1 z.2.2.1 ∧ z.2.2.1.length ≤ z.1 ∧ z.2.2.2.2.1.length = 16 ∧ z.2.2.2.2.2.length = 16 ∧ ∀ a : Nat, a < 16 → z.2.2.2.2.2[a]? = some (z.2.1.book.log.take (dOf z.2.1 a))) [(0, _), (1, _), (5, _), (6, _), (8, _)] (fun z => [(10, .int .i64 (z.1 : Int)), (9, z.2.2.2.1)]) (fun z => SlT 34 z.2.2.2.1 z.2.2.1 :: LogsV b8 50 z.2.2.2.2.1 z.2.2.2.2.2 :: SlT 52 (.slice p1 L.length c1) L :: []) (fun z => q - z.1) ((0, Mod.new k, [], .slice none 0 0, List.replicate 16 (.slice none 0 0), List.replicate 16 [])) (⟨Nat.zero_le _, Mod.ok_new k, by simp [Mod.new], by simp only [List.drop_zero]; omega, ⟨fun i y hy => by simp [Mod.new, look_nil] at hy, fun y hy => by simp [Mod.new, Book.new] at hy⟩, Nat.le_refl _, List.length_replicate, List.length_replicate, fun a ha => by simp only; rw [List.getElem?_replicate, if_pos ha]; simp [Mod.new, Book.new]⟩) ⟨rfl, rfl, rfl, rfl, rfl, rfl, rfl, trivial⟩ (fun w h => by first | exact h.fit | exact h) ?_
  rintro ⟨i, s, I, vI, vs, ls⟩ ⟨hi, hs, hd, hsum, ham, hIl, hvl, hll, hlg⟩
  simp only at hi hs hd hsum ham hIl hvl hll hlg ⊢
  refine ct_seq ?_
  refine ct_seq ?_
  refine ct_region ?_
  iterate 3 (first | refine rs_ex rfl (by (first | (constructor <;> first | rfl | exact RdC.rd | exact inferInstance) | exact Ex.pickF rfl rfl | exact Ex.eqlS rfl rfl | exact Ex.neqS rfl rfl | exact Ex.eqlPN rfl rfl | exact Ex.neqPN rfl rfl | exact Ex.eqlSN rfl rfl | exact Ex.neqSN rfl rfl | exact Ex.lenStr rfl)) rfl ?_ | refine rs_skip rfl rfl ?_)
  refine rs_end ?_
  refine qe_then ?_
  refine ct_cond rfl (fun h32 => ?_) (fun h32 => ?_)
  · have hi1 : i < q := by simp at h32; exact h32
    have hiL : i < L.length := by omega
    obtain ⟨b1, rfl⟩ := hv1.some hiL
    obtain ⟨x, hx⟩ : ∃ x, x = L[i] := ⟨_, rfl⟩
    have hg : L[i]? = some x := by rw [hx]; exact List.getElem?_eq_getElem hiL
    obtain ⟨hx0, hxs⟩ := chk_step hg (s := s) (by omega)
    have hs' := hs.happen (by omega) x
    have hd' := happen_del s x
    rw [hd] at hd'
    have hw := happen_what hs (by omega) x
    have hrg := happen_range hx0
    rw [hd] at hrg
    have hamn := ham.happen hs (by omega) x hx0
    obtain ⟨a, haf⟩ : ∃ a : Nat, x.node = (a : Int) := ⟨x.node.toNat, by omega⟩
    have hat : x.node.toNat = a := by omega
    refine ct_skip ?_
    refine qe_then ?_
    refine ct_seq ?_
    refine ct_block ?_
    refine ct_seq ?_
    refine ct_region ?_
    iterate 2 (first | refine rs_ex rfl (by (first | (constructor <;> first | rfl | exact RdC.rd | exact inferInstance) | exact Ex.pickF rfl rfl | exact Ex.eqlS rfl rfl | exact Ex.neqS rfl rfl | exact Ex.eqlPN rfl rfl | exact Ex.neqPN rfl rfl | exact Ex.eqlSN rfl rfl | exact Ex.neqSN rfl rfl | exact Ex.lenStr rfl)) rfl ?_ | refine rs_skip rfl rfl ?_)
    refine rs_ex rfl (ex_indexAddr rfl rfl (by omega) (by omega)) rfl ?_
    refine rs_ex rfl (ex_loadHapp x rfl (RdE.get hg)) rfl ?_
    refine rs_op rfl rfl (opR_alloc fun b11 => ?_)
    refine rs_opN rfl (opR_store rfl rfl rfl rfl ?_)
    refine rs_end ?_
    refine qe_then ?_
    refine ct_seq ?_
    refine ct_seq ?_
    refine ct_region ?_
    iterate 4 (first | refine rs_ex rfl (by (first | (constructor <;> first | rfl | exact RdC.rd | exact inferInstance) | exact Ex.pickF rfl rfl | exact Ex.eqlS rfl rfl | exact Ex.neqS rfl rfl | exact Ex.eqlPN rfl rfl | exact Ex.neqPN rfl rfl | exact Ex.eqlSN rfl rfl | exact Ex.neqSN rfl rfl | exact Ex.lenStr rfl)) rfl ?_ | refine rs_skip rfl rfl ?_)
    refine rs_split (fun h42 => by simp at h42; omega) (fun h42 => ?_)
    iterate 6 (first | refine rs_ex rfl (by (first | (constructor <;> first | rfl | exact RdC.rd | exact inferInstance) | exact Ex.pickF rfl rfl | exact Ex.eqlS rfl rfl | exact Ex.neqS rfl rfl | exact Ex.eqlPN rfl rfl | exact Ex.neqPN rfl rfl | exact Ex.eqlSN rfl rfl | exact Ex.neqSN rfl rfl | exact Ex.lenStr rfl)) rfl ?_ | refine rs_skip rfl rfl ?_)
    refine rs_split (fun h48 => by simp at h48; omega) (fun h48 => ?_)
    iterate 4 (first | refine rs_ex rfl (by (first | (constructor <;> first | rfl | exact RdC.rd | exact inferInstance) | exact Ex.pickF rfl rfl | exact Ex.eqlS rfl rfl | exact Ex.neqS rfl rfl | exact Ex.eqlPN rfl rfl | exact Ex.neqPN rfl rfl | exact Ex.eqlSN rfl rfl | exact Ex.neqSN rfl rfl | exact Ex.lenStr rfl)) rfl ?_ | refine rs_skip rfl rfl ?_)
    refine rs_end ?_
    refine qe_then ?_
    refine ct_cond rfl (fun h52 => by simp at h52; omega) (fun h52 => ?_)
    refine ct_skip ?_
    refine qe_then ?_
    refine ct_meetc (ζ := List Msg × Value) (fun y => y.1 = (if x.kind = 1 then I ++ [x.m] else I) ∧ y.1.length ≤ i + 1) [(0, _), (1, _), (5, _), (6, _), (8, _), (10, _), (11, _)] (fun y => [(9, y.2)]) (fun y => Blk b11 (.cells #[.int .i64 x.kind, .int .i64 x.node, .int .i64 x.m.id.from_, .int .u32 x.m.id.count, .string x.m.data] 52 (0, 0)) :: SlT 34 y.2 y.1 :: LogsV b8 50 vs ls :: SlT 52 (.slice (some ⟨b1, 0, none⟩) L.length c1) L :: []) ⟨rfl, rfl, rfl, rfl, rfl, rfl, rfl, trivial⟩ ?_ ?_
    · refine ct_seq ?_
      refine ct_region ?_
      iterate 3 (first | refine rs_ex rfl (by (first | (constructor <;> first | rfl | exact RdC.rd | exact inferInstance) | exact Ex.pickF rfl rfl | exact Ex.eqlS rfl rfl | exact Ex.neqS rfl rfl | exact Ex.eqlPN rfl rfl | exact Ex.neqPN rfl rfl | exact Ex.eqlSN rfl rfl | exact Ex.neqSN rfl rfl | exact Ex.lenStr rfl)) rfl ?_ | refine rs_skip rfl rfl ?_)
      refine rs_end ?_
      refine qe_then ?_
      refine ct_cond rfl (fun h55 => ?_) (fun h55 => ?_)
      · have hk1 : x.kind = 1 := by simpa using h55
        refine ct_pr (fun w h => h.drop.slv) ?_; rintro ⟨pI, cI, e, hvI⟩
        subst e
        refine ct_region ?_
        iterate 3 (first | refine rs_ex rfl (by (first | (constructor <;> first | rfl | exact RdC.rd | exact inferInstance) | exact Ex.pickF rfl rfl | exact Ex.eqlS rfl rfl | exact Ex.neqS rfl rfl | exact Ex.eqlPN rfl rfl | exact Ex.neqPN rfl rfl | exact Ex.eqlSN rfl rfl | exact Ex.neqSN rfl rfl | exact Ex.lenStr rfl)) rfl ?_ | refine rs_skip rfl rfl ?_)
        refine rs_op rfl rfl (opR_buildSlice rfl rfl rfl rfl fun b59 => ?_)
        refine rs_op rfl rfl (opR_append [x.m] rfl rfl (SlR.blk RdC.rd [x.m] rfl) rfl (by simp; omega) rfl fun p3 cap3 hv3 => ?_)
        (first | refine rs_ex rfl (by (first | (constructor <;> first | rfl | exact RdC.rd | exact inferInstance) | exact Ex.pickF rfl rfl | exact Ex.eqlS rfl rfl | exact Ex.neqS rfl rfl | exact Ex.eqlPN rfl rfl | exact Ex.neqPN rfl rfl | exact Ex.eqlSN rfl rfl | exact Ex.neqSN rfl rfl | exact Ex.lenStr rfl)) rfl ?_ | refine rs_skip rfl rfl ?_)
        refine rs_end ?_
        refine qe_midc ((I ++ [x.m], _)) (⟨by simp only; rw [if_pos hk1], by simp; omega⟩) ⟨rfl, rfl, rfl, rfl, rfl, rfl, rfl, rfl, trivial⟩ (fun w h => by first | exact h.fit | exact h)
      · have hk1 : x.kind ≠ 1 := by simpa using h55
        refine ct_skip ?_
        refine qe_midc ((I, vI)) (⟨by simp only; rw [if_neg hk1], by simp only; omega⟩) ⟨rfl, rfl, rfl, rfl, rfl, rfl, rfl, rfl, trivial⟩ (fun w h => by first | exact h.fit | exact h)
    · rintro ⟨J, vJ⟩ ⟨hJ, hJl⟩
      simp only at hJ hJl ⊢
      rw [← hJ] at hamn
      refine ct_seq ?_
      refine ct_seq ?_
      refine ct_region ?_
      iterate 3 (first | refine rs_ex rfl (by (first | (constructor <;> first | rfl | exact RdC.rd | exact inferInstance) | exact Ex.pickF rfl rfl | exact Ex.eqlS rfl rfl | exact Ex.neqS rfl rfl | exact Ex.eqlPN rfl rfl | exact Ex.neqPN rfl rfl | exact Ex.eqlSN rfl rfl | exact Ex.neqSN rfl rfl | exact Ex.lenStr rfl)) rfl ?_ | refine rs_skip rfl rfl ?_)
      refine rs_end ?_
      refine qe_then ?_
      refine ct_cond rfl (fun h63 => ?_) (fun h63 => ?_)
      · have hk3 : x.kind ≠ 3 := by simpa using h63
        obtain ⟨hb, hde, _⟩ := hw.resolve_right (fun h => hk3 h.1)
        obtain ⟨vs', hvs'⟩ : ∃ vs', vs' = vs := ⟨_, rfl⟩
        obtain ⟨ls', hls'⟩ : ∃ ls', ls' = ls := ⟨_, rfl⟩
        have hvl' : vs'.length = 16 := by rw [hvs', hvl]
        have hll' : ls'.length = 16 := by rw [hls', hll]
        have hlg' : ∀ a : Nat, a < 16 → ls'[a]? = some ((s.happen x).2.book.log.take (dOf (s.happen x).2 a)) := fun a' ha' => by rw [hls', hlg a' ha']; unfold dOf; rw [hb, hde]
        rw [← hvs', ← hls']
        refine ct_exit ?_
        refine qe_then_exit ?_
        refine qe_block_exit ?_
        refine qe_then ?_
        refine ct_region ?_
        iterate 2 (first | refine rs_ex rfl (by (first | (constructor <;> first | rfl | exact RdC.rd | exact inferInstance) | exact Ex.pickF rfl rfl | exact Ex.eqlS rfl rfl | exact Ex.neqS rfl rfl | exact Ex.eqlPN rfl rfl | exact Ex.neqPN rfl rfl | exact Ex.eqlSN rfl rfl | exact Ex.neqSN rfl rfl | exact Ex.lenStr rfl)) rfl ?_ | refine rs_skip rfl rfl ?_)
        refine rs_rw (by rw [wrapS (by omega)]) ?_
        (first | refine rs_ex rfl (by (first | (constructor <;> first | rfl | exact RdC.rd | exact inferInstance) | exact Ex.pickF rfl rfl | exact Ex.eqlS rfl rfl | exact Ex.neqS rfl rfl | exact Ex.eqlPN rfl rfl | exact Ex.neqPN rfl rfl | exact Ex.eqlSN rfl rfl | exact Ex.neqSN rfl rfl | exact Ex.lenStr rfl)) rfl ?_ | refine rs_skip rfl rfl ?_)
        refine rs_end ?_
        refine qe_loopc ((i + 1, (s.happen x).2, J, _, vs', ls')) (⟨by simp only; omega, hs', hd', by simp only; omega, hamn, hJl, hvl', hll', hlg'⟩) (by first | omega | (simp only; omega)) ⟨rfl, rfl, rfl, rfl, rfl, rfl, rfl, trivial⟩ (fun w h => by first | exact h.fit | exact h)
      · have hk3 : x.kind = 3 := by simpa using h63
        obtain ⟨_, _, d, hdv⟩ := hw.resolve_left (fun h => h.2.2 hx0 hk3)
        obtain ⟨hmr, hmc⟩ := hdv.count hs'
        have hmJ : x.m ∈ J := hamn.log _ (List.mem_of_getElem? hdv.get)
        obtain ⟨lt, hlt⟩ : ∃ lt, lt = s.book.log.take d := ⟨_, rfl⟩
        have hla : ls[a]? = some lt := by rw [hlg a (by omega), ← hat, hdv.dOf_was, hlt]
        have hne : ∀ y ∈ lt, y.id ≠ x.m.id := fun y hy e => by
          rw [hlt] at hy
          have h2 := seq_le hs.bk.seq (List.mem_of_mem_take hy)
          obtain ⟨jj, hjj, hyy⟩ := List.getElem_of_mem hy
          have hjd : jj < d := by rw [List.length_take] at hjj; omega
          have h3 : s.book.log[jj]? = some y := by rw [← hyy, List.getElem_take]; exact List.getElem?_eq_getElem _
          have h4 := seq_at hs.bk.seq h3
          have h5 := of_take_lt h3 hjd
          rw [e] at h4 h5
          omega
        obtain ⟨va, hva⟩ : ∃ va, vs[a]? = some va := ⟨_, List.getElem?_eq_getElem (by omega)⟩
        have hltl : lt.length ≤ i := by rw [hlt, List.length_take]; have := hs.bk.len; omega
        refine ct_pr (fun w h => LogsV.slv h.drop.drop hva hla) ?_; rintro ⟨pa, ca, e, hvv⟩
        subst e
        refine ct_pr (fun w h => h.drop.slv) ?_; rintro ⟨pJ, cJ, e, hvJ⟩
        subst e
        have hget : vs.toArray[0 + x.node.toNat * 1]? = some (.slice pa lt.length ca) := by rw [hat]; simpa using hva
        refine ct_skip ?_
        refine qe_then ?_
        refine ct_seq ?_
        refine ct_region ?_
        (first | refine rs_ex rfl (by (first | (constructor <;> first | rfl | exact RdC.rd | exact inferInstance) | exact Ex.pickF rfl rfl | exact Ex.eqlS rfl rfl | exact Ex.neqS rfl rfl | exact Ex.eqlPN rfl rfl | exact Ex.neqPN rfl rfl | exact Ex.eqlSN rfl rfl | exact Ex.neqSN rfl rfl | exact Ex.lenStr rfl)) rfl ?_ | refine rs_skip rfl rfl ?_)
        refine rs_end ?_
        refine qe_then ?_
        refine ct_seq ?_
        refine ct_seq ?_
        refine ct_region ?_
        (first | refine rs_ex rfl (by (first | (constructor <;> first | rfl | exact RdC.rd | exact inferInstance) | exact Ex.pickF rfl rfl | exact Ex.eqlS rfl rfl | exact Ex.neqS rfl rfl | exact Ex.eqlPN rfl rfl | exact Ex.neqPN rfl rfl | exact Ex.eqlSN rfl rfl | exact Ex.neqSN rfl rfl | exact Ex.lenStr rfl)) rfl ?_ | refine rs_skip rfl rfl ?_)
        refine rs_end ?_
        refine qe_then ?_
        refine ct_block ?_
        refine ct_loopk (ζ := Nat) (fun j => j ≤ J.length) [(0, _), (1, _), (5, _), (6, _), (8, _), (9, _), (10, _), (11, _)] (fun j => [(13, .int .i64 (j : Int)), (12, .bool (decide (x.m ∈ J.take j)))]) (fun j => J.length - j) (0) (Nat.zero_le _) ⟨rfl, rfl, rfl, rfl, rfl, rfl, rfl, rfl, rfl, rfl, trivial⟩ ?_
        intro j hj
        refine ct_seq ?_
        refine ct_seq ?_
        refine ct_region ?_
        iterate 4 (first | refine rs_ex rfl (by (first | (constructor <;> first | rfl | exact RdC.rd | exact inferInstance) | exact Ex.pickF rfl rfl | exact Ex.eqlS rfl rfl | exact Ex.neqS rfl rfl | exact Ex.eqlPN rfl rfl | exact Ex.neqPN rfl rfl | exact Ex.eqlSN rfl rfl | exact Ex.neqSN rfl rfl | exact Ex.lenStr rfl)) rfl ?_ | refine rs_skip rfl rfl ?_)
        refine rs_end ?_
        refine qe_then ?_
        refine ct_cond rfl (fun h67 => ?_) (fun h67 => ?_)
        · have hj1 : j < J.length := by simp at h67; exact h67
          obtain ⟨bJ, rfl⟩ := hvJ.some hj1
          obtain ⟨y, hy⟩ : ∃ y, y = J[j] := ⟨_, rfl⟩
          have hgy : J[j]? = some y := by rw [hy]; exact List.getElem?_eq_getElem hj1
          have hst : J.take (j + 1) = J.take j ++ [y] := by rw [List.take_succ_eq_append_getElem hj1, ← hy]
          refine ct_skip ?_
          refine qe_then ?_
          refine ct_seq ?_
          refine ct_block ?_
          refine ct_draw0 (by kernel_rfl) ?_
          refine ra_take 0 rfl (by kernel_rfl) (by kernel_rfl) rfl (by (first | (constructor <;> first | rfl | exact RdC.rd | exact inferInstance) | exact Ex.pickF rfl rfl | exact Ex.eqlS rfl rfl | exact Ex.neqS rfl rfl | exact Ex.eqlPN rfl rfl | exact Ex.neqPN rfl rfl | exact Ex.eqlSN rfl rfl | exact Ex.neqSN rfl rfl | exact Ex.lenStr rfl)) rfl (fun _ h => h.fit) ?_
          refine ra_take 1 rfl (by kernel_rfl) (by kernel_rfl) rfl (by (first | (constructor <;> first | rfl | exact RdC.rd | exact inferInstance) | exact Ex.pickF rfl rfl | exact Ex.eqlS rfl rfl | exact Ex.neqS rfl rfl | exact Ex.eqlPN rfl rfl | exact Ex.neqPN rfl rfl | exact Ex.eqlSN rfl rfl | exact Ex.neqSN rfl rfl | exact Ex.lenStr rfl)) rfl (fun _ h => h.fit) ?_
          refine ra_split (fun h71 => ?_) (fun h71 => ?_)
          · have hdec : decide (x.m ∈ J.take (j + 1)) = true := by
              rw [hst]
              have h0 : x.m ∈ J.take j := by simpa using h71
              simp [h0]
            refine ra_skip 2 rfl (by kernel_rfl) (by kernel_rfl) rfl rfl (fun _ h => h.fit) ?_
            refine ra_skip 3 rfl (by kernel_rfl) (by kernel_rfl) rfl rfl (fun _ h => h.fit) ?_
            refine ra_skip 4 rfl (by kernel_rfl) (by kernel_rfl) rfl rfl (fun _ h => h.fit) ?_
            refine ra_skip 5 rfl (by kernel_rfl) (by kernel_rfl) rfl rfl (fun _ h => h.fit) ?_
            refine ra_skip 6 rfl (by kernel_rfl) (by kernel_rfl) rfl rfl (fun _ h => h.fit) ?_
            refine ra_skip 7 rfl (by kernel_rfl) (by kernel_rfl) rfl rfl (fun _ h => h.fit) ?_
            refine ra_skip 8 rfl (by kernel_rfl) (by kernel_rfl) rfl rfl (fun _ h => h.fit) ?_
            refine ra_take 9 rfl (by kernel_rfl) (by kernel_rfl) rfl (by (first | (constructor <;> first | rfl | exact RdC.rd | exact inferInstance) | exact Ex.pickF rfl rfl | exact Ex.eqlS rfl rfl | exact Ex.neqS rfl rfl | exact Ex.eqlPN rfl rfl | exact Ex.neqPN rfl rfl | exact Ex.eqlSN rfl rfl | exact Ex.neqSN rfl rfl | exact Ex.lenStr rfl)) rfl (fun _ h => h.fit) ?_
            refine ra_take 10 rfl (by kernel_rfl) (by kernel_rfl) rfl (by (first | (constructor <;> first | rfl | exact RdC.rd | exact inferInstance) | exact Ex.pickF rfl rfl | exact Ex.eqlS rfl rfl | exact Ex.neqS rfl rfl | exact Ex.eqlPN rfl rfl | exact Ex.neqPN rfl rfl | exact Ex.eqlSN rfl rfl | exact Ex.neqSN rfl rfl | exact Ex.lenStr rfl)) rfl (fun _ h => h.fit) ?_
            refine ra_end (by kernel_rfl) ?_
            refine qe_block 3 ?_
            refine qe_then ?_
            refine ct_region ?_
            iterate 2 (first | refine rs_ex rfl (by (first | (constructor <;> first | rfl | exact RdC.rd | exact inferInstance) | exact Ex.pickF rfl rfl | exact Ex.eqlS rfl rfl | exact Ex.neqS rfl rfl | exact Ex.eqlPN rfl rfl | exact Ex.neqPN rfl rfl | exact Ex.eqlSN rfl rfl | exact Ex.neqSN rfl rfl | exact Ex.lenStr rfl)) rfl ?_ | refine rs_skip rfl rfl ?_)
            refine rs_rw (by rw [wrapS (by omega)]) ?_
            (first | refine rs_ex rfl (by (first | (constructor <;> first | rfl | exact RdC.rd | exact inferInstance) | exact Ex.pickF rfl rfl | exact Ex.eqlS rfl rfl | exact Ex.neqS rfl rfl | exact Ex.eqlPN rfl rfl | exact Ex.neqPN rfl rfl | exact Ex.eqlSN rfl rfl | exact Ex.neqSN rfl rfl | exact Ex.lenStr rfl)) rfl ?_ | refine rs_skip rfl rfl ?_)
            refine rs_end ?_
            refine qe_loopc (j + 1) (by first | omega | (simp only; omega)) (by first | omega | (simp only; omega)) ⟨rfl, congrArg (fun b => some (Value.bool b)) hdec.symm, rfl, rfl, rfl, rfl, rfl, rfl, rfl, rfl, trivial⟩ (fun w h => by first | exact h.fit | exact h)
          · have hdec : decide (x.m ∈ J.take (j + 1)) = decide (y = x.m) := by
              rw [hst]
              have h0 : x.m ∉ J.take j := by simpa using h71
              simp [h0, eq_comm]
            refine ra_take 2 rfl (by kernel_rfl) (by kernel_rfl) rfl (by (first | (constructor <;> first | rfl | exact RdC.rd | exact inferInstance) | exact Ex.pickF rfl rfl | exact Ex.eqlS rfl rfl | exact Ex.neqS rfl rfl | exact Ex.eqlPN rfl rfl | exact Ex.neqPN rfl rfl | exact Ex.eqlSN rfl rfl | exact Ex.neqSN rfl rfl | exact Ex.lenStr rfl)) rfl (fun _ h => h.fit) ?_
            refine ra_take 3 rfl (by kernel_rfl) (by kernel_rfl) rfl (by (first | (constructor <;> first | rfl | exact RdC.rd | exact inferInstance) | exact Ex.pickF rfl rfl | exact Ex.eqlS rfl rfl | exact Ex.neqS rfl rfl | exact Ex.eqlPN rfl rfl | exact Ex.neqPN rfl rfl | exact Ex.eqlSN rfl rfl | exact Ex.neqSN rfl rfl | exact Ex.lenStr rfl)) rfl (fun _ h => h.fit) ?_
            refine ra_take 4 rfl (by kernel_rfl) (by kernel_rfl) rfl (ex_indexAddr rfl rfl (by omega) (by omega)) rfl (fun _ h => h.fit) ?_
            refine ra_take 5 rfl (by kernel_rfl) (by kernel_rfl) rfl (ex_loadMsg y rfl (RdE.get hgy)) rfl (fun _ h => h.fit) ?_
            refine ra_take 6 rfl (by kernel_rfl) (by kernel_rfl) rfl (by (first | (constructor <;> first | rfl | exact RdC.rd | exact inferInstance) | exact Ex.pickF rfl rfl | exact Ex.eqlS rfl rfl | exact Ex.neqS rfl rfl | exact Ex.eqlPN rfl rfl | exact Ex.neqPN rfl rfl | exact Ex.eqlSN rfl rfl | exact Ex.neqSN rfl rfl | exact Ex.lenStr rfl)) rfl (fun _ h => h.fit) ?_
            refine ra_take 7 rfl (by kernel_rfl) (by kernel_rfl) rfl (by (first | (constructor <;> first | rfl | exact RdC.rd | exact inferInstance) | exact Ex.pickF rfl rfl | exact Ex.eqlS rfl rfl | exact Ex.neqS rfl rfl | exact Ex.eqlPN rfl rfl | exact Ex.neqPN rfl rfl | exact Ex.eqlSN rfl rfl | exact Ex.neqSN rfl rfl | exact Ex.lenStr rfl)) rfl (fun _ h => h.fit) ?_
            refine ra_take 8 rfl (by kernel_rfl) (by kernel_rfl) rfl (ex_eqMsg y x.m rfl rfl) rfl (fun _ h => h.fit) ?_
            refine ra_take 9 rfl (by kernel_rfl) (by kernel_rfl) rfl (by (first | (constructor <;> first | rfl | exact RdC.rd | exact inferInstance) | exact Ex.pickF rfl rfl | exact Ex.eqlS rfl rfl | exact Ex.neqS rfl rfl | exact Ex.eqlPN rfl rfl | exact Ex.neqPN rfl rfl | exact Ex.eqlSN rfl rfl | exact Ex.neqSN rfl rfl | exact Ex.lenStr rfl)) rfl (fun _ h => h.fit) ?_
            refine ra_take 10 rfl (by kernel_rfl) (by kernel_rfl) rfl (by (first | (constructor <;> first | rfl | exact RdC.rd | exact inferInstance) | exact Ex.pickF rfl rfl | exact Ex.eqlS rfl rfl | exact Ex.neqS rfl rfl | exact Ex.eqlPN rfl rfl | exact Ex.neqPN rfl rfl | exact Ex.eqlSN rfl rfl | exact Ex.neqSN rfl rfl | exact Ex.lenStr rfl)) rfl (fun _ h => h.fit) ?_
            refine ra_end (by kernel_rfl) ?_
            refine qe_block 3 ?_
            refine qe_then ?_
            refine ct_region ?_
            iterate 2 (first | refine rs_ex rfl (by (first | (constructor <;> first | rfl | exact RdC.rd | exact inferInstance) | exact Ex.pickF rfl rfl | exact Ex.eqlS rfl rfl | exact Ex.neqS rfl rfl | exact Ex.eqlPN rfl rfl | exact Ex.neqPN rfl rfl | exact Ex.eqlSN rfl rfl | exact Ex.neqSN rfl rfl | exact Ex.lenStr rfl)) rfl ?_ | refine rs_skip rfl rfl ?_)
            refine rs_rw (by rw [wrapS (by omega)]) ?_
            (first | refine rs_ex rfl (by (first | (constructor <;> first | rfl | exact RdC.rd | exact inferInstance) | exact Ex.pickF rfl rfl | exact Ex.eqlS rfl rfl | exact Ex.neqS rfl rfl | exact Ex.eqlPN rfl rfl | exact Ex.neqPN rfl rfl | exact Ex.eqlSN rfl rfl | exact Ex.neqSN rfl rfl | exact Ex.lenStr rfl)) rfl ?_ | refine rs_skip rfl rfl ?_)
            refine rs_end ?_
            refine qe_loopc (j + 1) (by first | omega | (simp only; omega)) (by first | omega | (simp only; omega)) ⟨rfl, congrArg (fun b => some (Value.bool b)) hdec.symm, rfl, rfl, rfl, rfl, rfl, rfl, rfl, rfl, trivial⟩ (fun w h => by first | exact h.fit | exact h)
        · have hje : j = J.length := by simp at h67; omega
          subst hje
          rw [List.take_length, decide_eq_true hmJ]
          refine ct_exit ?_
          refine qe_then_exit ?_
          refine qe_loop_exit ?_
          refine qe_block_exit ?_
          refine qe_then ?_
          refine ct_seq ?_
          refine ct_seq ?_
          refine ct_region ?_
          (first | refine rs_ex rfl (by (first | (constructor <;> first | rfl | exact RdC.rd | exact inferInstance) | exact Ex.pickF rfl rfl | exact Ex.eqlS rfl rfl | exact Ex.neqS rfl rfl | exact Ex.eqlPN rfl rfl | exact Ex.neqPN rfl rfl | exact Ex.eqlSN rfl rfl | exact Ex.neqSN rfl rfl | exact Ex.lenStr rfl)) rfl ?_ | refine rs_skip rfl rfl ?_)
          refine rs_end ?_
          refine qe_then ?_
          refine ct_block ?_
          refine ct_loopk (ζ := Nat) (fun j => j ≤ lt.length) [(0, _), (1, _), (5, _), (6, _), (8, _), (9, _), (10, _), (11, _)] (fun j => [(14, .int .i64 (j : Int)), (12, .bool true)]) (fun j => lt.length - j) (0) (Nat.zero_le _) ⟨rfl, rfl, rfl, rfl, rfl, rfl, rfl, rfl, rfl, rfl, trivial⟩ ?_
          intro j hj
          refine ct_seq ?_
          refine ct_seq ?_
          refine ct_region ?_
          iterate 3 (first | refine rs_ex rfl (by (first | (constructor <;> first | rfl | exact RdC.rd | exact inferInstance) | exact Ex.pickF rfl rfl | exact Ex.eqlS rfl rfl | exact Ex.neqS rfl rfl | exact Ex.eqlPN rfl rfl | exact Ex.neqPN rfl rfl | exact Ex.eqlSN rfl rfl | exact Ex.neqSN rfl rfl | exact Ex.lenStr rfl)) rfl ?_ | refine rs_skip rfl rfl ?_)
          refine rs_ex rfl (ex_indexArr rfl rfl (by omega) (by omega)) rfl ?_
          refine rs_ex rfl (Ex.load1 rfl RdC.rd ⟨hget⟩) rfl ?_
          iterate 2 (first | refine rs_ex rfl (by (first | (constructor <;> first | rfl | exact RdC.rd | exact inferInstance) | exact Ex.pickF rfl rfl | exact Ex.eqlS rfl rfl | exact Ex.neqS rfl rfl | exact Ex.eqlPN rfl rfl | exact Ex.neqPN rfl rfl | exact Ex.eqlSN rfl rfl | exact Ex.neqSN rfl rfl | exact Ex.lenStr rfl)) rfl ?_ | refine rs_skip rfl rfl ?_)
          refine rs_end ?_
          refine qe_then ?_
          refine ct_cond rfl (fun h86 => ?_) (fun h86 => ?_)
          · have hj1 : j < lt.length := by simp at h86; exact h86
            obtain ⟨ba, rfl⟩ := hvv.some hj1
            obtain ⟨y, hy⟩ : ∃ y, y = lt[j] := ⟨_, rfl⟩
            have hgy : lt[j]? = some y := by rw [hy]; exact List.getElem?_eq_getElem hj1
            have hyn : y.id ≠ x.m.id := hne y (List.mem_of_getElem? hgy)
            obtain ⟨by1, oy1, ey, ry⟩ := (LogsV.slR (W0 := W0) (b := b8) (T := 50) (H := SlT 52 (.slice (some ⟨b1, 0, none⟩) L.length c1) L :: []) hva hla hvv).get hgy
            cases ey
            refine ct_skip ?_
            refine qe_then ?_
            refine ct_seq ?_
            refine ct_block ?_
            refine ct_draw0 (by kernel_rfl) ?_
            refine ra_take 0 rfl (by kernel_rfl) (by kernel_rfl) rfl (by (first | (constructor <;> first | rfl | exact RdC.rd | exact inferInstance) | exact Ex.pickF rfl rfl | exact Ex.eqlS rfl rfl | exact Ex.neqS rfl rfl | exact Ex.eqlPN rfl rfl | exact Ex.neqPN rfl rfl | exact Ex.eqlSN rfl rfl | exact Ex.neqSN rfl rfl | exact Ex.lenStr rfl)) rfl (fun _ h => h.fit) ?_
            refine ra_take 1 rfl (by kernel_rfl) (by kernel_rfl) rfl (by (first | (constructor <;> first | rfl | exact RdC.rd | exact inferInstance) | exact Ex.pickF rfl rfl | exact Ex.eqlS rfl rfl | exact Ex.neqS rfl rfl | exact Ex.eqlPN rfl rfl | exact Ex.neqPN rfl rfl | exact Ex.eqlSN rfl rfl | exact Ex.neqSN rfl rfl | exact Ex.lenStr rfl)) rfl (fun _ h => h.fit) ?_
            refine ra_split (fun h90 => ?_) (fun h90 => by simp at h90)
            refine ra_take 2 rfl (by kernel_rfl) (by kernel_rfl) rfl (by (first | (constructor <;> first | rfl | exact RdC.rd | exact inferInstance) | exact Ex.pickF rfl rfl | exact Ex.eqlS rfl rfl | exact Ex.neqS rfl rfl | exact Ex.eqlPN rfl rfl | exact Ex.neqPN rfl rfl | exact Ex.eqlSN rfl rfl | exact Ex.neqSN rfl rfl | exact Ex.lenStr rfl)) rfl (fun _ h => h.fit) ?_
            refine ra_take 3 rfl (by kernel_rfl) (by kernel_rfl) rfl (by (first | (constructor <;> first | rfl | exact RdC.rd | exact inferInstance) | exact Ex.pickF rfl rfl | exact Ex.eqlS rfl rfl | exact Ex.neqS rfl rfl | exact Ex.eqlPN rfl rfl | exact Ex.neqPN rfl rfl | exact Ex.eqlSN rfl rfl | exact Ex.neqSN rfl rfl | exact Ex.lenStr rfl)) rfl (fun _ h => h.fit) ?_
            refine ra_take 4 rfl (by kernel_rfl) (by kernel_rfl) rfl (ex_indexArr rfl rfl (by omega) (by omega)) rfl (fun _ h => h.fit) ?_
            refine ra_take 5 rfl (by kernel_rfl) (by kernel_rfl) rfl (Ex.load1 rfl RdC.rd ⟨hget⟩) rfl (fun _ h => h.fit) ?_
            refine ra_take 6 rfl (by kernel_rfl) (by kernel_rfl) rfl (by (first | (constructor <;> first | rfl | exact RdC.rd | exact inferInstance) | exact Ex.pickF rfl rfl | exact Ex.eqlS rfl rfl | exact Ex.neqS rfl rfl | exact Ex.eqlPN rfl rfl | exact Ex.neqPN rfl rfl | exact Ex.eqlSN rfl rfl | exact Ex.neqSN rfl rfl | exact Ex.lenStr rfl)) rfl (fun _ h => h.fit) ?_
            refine ra_take 7 rfl (by kernel_rfl) (by kernel_rfl) rfl (ex_indexAddr rfl rfl (by omega) (by omega)) rfl (fun _ h => h.fit) ?_
            refine ra_take 8 rfl (by kernel_rfl) (by kernel_rfl) rfl (by (first | (constructor <;> first | rfl | exact RdC.rd | exact inferInstance) | exact Ex.pickF rfl rfl | exact Ex.eqlS rfl rfl | exact Ex.neqS rfl rfl | exact Ex.eqlPN rfl rfl | exact Ex.neqPN rfl rfl | exact Ex.eqlSN rfl rfl | exact Ex.neqSN rfl rfl | exact Ex.lenStr rfl)) rfl (fun _ h => h.fit) ?_
            refine ra_take 9 rfl (by kernel_rfl) (by kernel_rfl) rfl (ex_loadIdOf y rfl (ry.mono fun w h => h.drop.drop)) rfl (fun _ h => h.fit) ?_
            refine ra_take 10 rfl (by kernel_rfl) (by kernel_rfl) rfl (by (first | (constructor <;> first | rfl | exact RdC.rd | exact inferInstance) | exact Ex.pickF rfl rfl | exact Ex.eqlS rfl rfl | exact Ex.neqS rfl rfl | exact Ex.eqlPN rfl rfl | exact Ex.neqPN rfl rfl | exact Ex.eqlSN rfl rfl | exact Ex.neqSN rfl rfl | exact Ex.lenStr rfl)) rfl (fun _ h => h.fit) ?_
            refine ra_take 11 rfl (by kernel_rfl) (by kernel_rfl) rfl (by (first | (constructor <;> first | rfl | exact RdC.rd | exact inferInstance) | exact Ex.pickF rfl rfl | exact Ex.eqlS rfl rfl | exact Ex.neqS rfl rfl | exact Ex.eqlPN rfl rfl | exact Ex.neqPN rfl rfl | exact Ex.eqlSN rfl rfl | exact Ex.neqSN rfl rfl | exact Ex.lenStr rfl)) rfl (fun _ h => h.fit) ?_
            refine ra_take 12 rfl (by kernel_rfl) (by kernel_rfl) rfl (by (first | (constructor <;> first | rfl | exact RdC.rd | exact inferInstance) | exact Ex.pickF rfl rfl | exact Ex.eqlS rfl rfl | exact Ex.neqS rfl rfl | exact Ex.eqlPN rfl rfl | exact Ex.neqPN rfl rfl | exact Ex.eqlSN rfl rfl | exact Ex.neqSN rfl rfl | exact Ex.lenStr rfl)) rfl (fun _ h => h.fit) ?_
            refine ra_take 13 rfl (by kernel_rfl) (by kernel_rfl) rfl (ex_neqId y.id x.m.id rfl rfl) rfl (fun _ h => h.fit) ?_
            refine ra_rw (by rw [decide_eq_false hyn]) ?_
            refine ra_take 14 rfl (by kernel_rfl) (by kernel_rfl) rfl (by (first | (constructor <;> first | rfl | exact RdC.rd | exact inferInstance) | exact Ex.pickF rfl rfl | exact Ex.eqlS rfl rfl | exact Ex.neqS rfl rfl | exact Ex.eqlPN rfl rfl | exact Ex.neqPN rfl rfl | exact Ex.eqlSN rfl rfl | exact Ex.neqSN rfl rfl | exact Ex.lenStr rfl)) rfl (fun _ h => h.fit) ?_
            refine ra_take 15 rfl (by kernel_rfl) (by kernel_rfl) rfl (by (first | (constructor <;> first | rfl | exact RdC.rd | exact inferInstance) | exact Ex.pickF rfl rfl | exact Ex.eqlS rfl rfl | exact Ex.neqS rfl rfl | exact Ex.eqlPN rfl rfl | exact Ex.neqPN rfl rfl | exact Ex.eqlSN rfl rfl | exact Ex.neqSN rfl rfl | exact Ex.lenStr rfl)) rfl (fun _ h => h.fit) ?_
            refine ra_end (by kernel_rfl) ?_
            refine qe_block 5 ?_
            refine qe_then ?_
            refine ct_region ?_
            iterate 2 (first | refine rs_ex rfl (by (first | (constructor <;> first | rfl | exact RdC.rd | exact inferInstance) | exact Ex.pickF rfl rfl | exact Ex.eqlS rfl rfl | exact Ex.neqS rfl rfl | exact Ex.eqlPN rfl rfl | exact Ex.neqPN rfl rfl | exact Ex.eqlSN rfl rfl | exact Ex.neqSN rfl rfl | exact Ex.lenStr rfl)) rfl ?_ | refine rs_skip rfl rfl ?_)
            refine rs_rw (by rw [wrapS (by omega)]) ?_
            (first | refine rs_ex rfl (by (first | (constructor <;> first | rfl | exact RdC.rd | exact inferInstance) | exact Ex.pickF rfl rfl | exact Ex.eqlS rfl rfl | exact Ex.neqS rfl rfl | exact Ex.eqlPN rfl rfl | exact Ex.neqPN rfl rfl | exact Ex.eqlSN rfl rfl | exact Ex.neqSN rfl rfl | exact Ex.lenStr rfl)) rfl ?_ | refine rs_skip rfl rfl ?_)
            refine rs_end ?_
            refine qe_loopc (j + 1) (by first | omega | (simp only; omega)) (by first | omega | (simp only; omega)) ⟨rfl, rfl, rfl, rfl, rfl, rfl, rfl, rfl, rfl, rfl, trivial⟩ (fun w h => by first | exact h.fit | exact h)
          · refine ct_exit ?_
            refine qe_then_exit ?_
            refine qe_loop_exit ?_
            refine qe_block_exit ?_
            refine qe_then ?_
            refine ct_seq ?_
            refine ct_seq ?_
            refine ct_region ?_
            iterate 2 (first | refine rs_ex rfl (by (first | (constructor <;> first | rfl | exact RdC.rd | exact inferInstance) | exact Ex.pickF rfl rfl | exact Ex.eqlS rfl rfl | exact Ex.neqS rfl rfl | exact Ex.eqlPN rfl rfl | exact Ex.neqPN rfl rfl | exact Ex.eqlSN rfl rfl | exact Ex.neqSN rfl rfl | exact Ex.lenStr rfl)) rfl ?_ | refine rs_skip rfl rfl ?_)
            refine rs_end ?_
            refine qe_then ?_
            refine ct_cond rfl (fun h105 => by simp at h105) (fun h105 => ?_)
            refine ct_skip ?_
            refine qe_then ?_
            refine ct_heap (H' := Blk b11 (.cells #[.int .i64 x.kind, .int .i64 x.node, .int .i64 x.m.id.from_, .int .u32 x.m.id.count, .string x.m.data] 52 (0, 0)) :: Blk b8 (.cells vs.toArray 50 (0, 0)) :: SlT 34 (.slice pa lt.length ca) lt :: RestV vs ls a :: SlT 34 (.slice pJ J.length cJ) J :: SlT 52 (.slice (some ⟨b1, 0, none⟩) L.length c1) L :: []) (fun w h => At.top [_, _, _, _, _, _] [4, 0, 1, 2, 5, 3] (LogsV.open (At.top [_, _, _, _] [2, 3, 0, 1] h) hva hla)) ?_
            refine ct_drawP [0, 1] (by kernel_rfl) ?_
            refine ra_take 0 rfl (by kernel_rfl) (by kernel_rfl) rfl (by (first | (constructor <;> first | rfl | exact RdC.rd | exact inferInstance) | exact Ex.pickF rfl rfl | exact Ex.eqlS rfl rfl | exact Ex.neqS rfl rfl | exact Ex.eqlPN rfl rfl | exact Ex.neqPN rfl rfl | exact Ex.eqlSN rfl rfl | exact Ex.neqSN rfl rfl | exact Ex.lenStr rfl)) rfl (fun _ h => h.fit) ?_
            refine ra_take 1 rfl (by kernel_rfl) (by kernel_rfl) rfl (by (first | (constructor <;> first | rfl | exact RdC.rd | exact inferInstance) | exact Ex.pickF rfl rfl | exact Ex.eqlS rfl rfl | exact Ex.neqS rfl rfl | exact Ex.eqlPN rfl rfl | exact Ex.neqPN rfl rfl | exact Ex.eqlSN rfl rfl | exact Ex.neqSN rfl rfl | exact Ex.lenStr rfl)) rfl (fun _ h => h.fit) ?_
            refine ra_take 2 rfl (by kernel_rfl) (by kernel_rfl) rfl (by (first | (constructor <;> first | rfl | exact RdC.rd | exact inferInstance) | exact Ex.pickF rfl rfl | exact Ex.eqlS rfl rfl | exact Ex.neqS rfl rfl | exact Ex.eqlPN rfl rfl | exact Ex.neqPN rfl rfl | exact Ex.eqlSN rfl rfl | exact Ex.neqSN rfl rfl | exact Ex.lenStr rfl)) rfl (fun _ h => h.fit) ?_
            refine ra_take 3 rfl (by kernel_rfl) (by kernel_rfl) rfl (by (first | (constructor <;> first | rfl | exact RdC.rd | exact inferInstance) | exact Ex.pickF rfl rfl | exact Ex.eqlS rfl rfl | exact Ex.neqS rfl rfl | exact Ex.eqlPN rfl rfl | exact Ex.neqPN rfl rfl | exact Ex.eqlSN rfl rfl | exact Ex.neqSN rfl rfl | exact Ex.lenStr rfl)) rfl (fun _ h => h.fit) ?_
            refine ra_take 4 rfl (by kernel_rfl) (by kernel_rfl) rfl (ex_indexArr rfl rfl (by omega) (by omega)) rfl (fun _ h => h.fit) ?_
            refine ra_take 5 rfl (by kernel_rfl) (by kernel_rfl) rfl (Ex.load1 rfl RdC.rd ⟨hget⟩) rfl (fun _ h => h.fit) ?_
            refine ra_take 6 rfl (by kernel_rfl) (by kernel_rfl) rfl (by (first | (constructor <;> first | rfl | exact RdC.rd | exact inferInstance) | exact Ex.pickF rfl rfl | exact Ex.eqlS rfl rfl | exact Ex.neqS rfl rfl | exact Ex.eqlPN rfl rfl | exact Ex.neqPN rfl rfl | exact Ex.eqlSN rfl rfl | exact Ex.neqSN rfl rfl | exact Ex.lenStr rfl)) rfl (fun _ h => h.fit) ?_
            refine ra_take 7 rfl (by kernel_rfl) (by kernel_rfl) rfl (by (first | (constructor <;> first | rfl | exact RdC.rd | exact inferInstance) | exact Ex.pickF rfl rfl | exact Ex.eqlS rfl rfl | exact Ex.neqS rfl rfl | exact Ex.eqlPN rfl rfl | exact Ex.neqPN rfl rfl | exact Ex.eqlSN rfl rfl | exact Ex.neqSN rfl rfl | exact Ex.lenStr rfl)) rfl (fun _ h => h.fit) ?_
            refine ra_all (rs := [8]) (by kernel_rfl) rfl ?_
            refine each_op rfl rfl rfl (opR_buildSlice rfl rfl rfl rfl fun b114 => ?_) each_nil
            refine ⟨.inr (fun w h => h.fit), ?_⟩
            refine ra_all (rs := [9]) (by kernel_rfl) rfl ?_
            refine each_op rfl rfl rfl (opR_append [x.m] rfl rfl (SlR.blk RdC.rd [x.m] rfl) rfl (by simp; omega) rfl fun p3 cap3 hv3 => ?_) each_nil
            refine ⟨.inr (fun w h => h.fit), ?_⟩
            refine ra_take 10 rfl (by kernel_rfl) (by kernel_rfl) rfl (ex_indexArr rfl rfl (by omega) (by omega)) rfl (fun _ h => h.fit) ?_
            refine ra_rw (by rw [hat]) ?_
            refine ra_all (rs := [11]) (by kernel_rfl) rfl ?_
            refine each_opN rfl rfl (opR_storeAt rfl rfl ⟨rfl⟩ rfl (by omega) ?_) each_nil
            refine ⟨.inl (by kernel_rfl), ?_⟩
            refine ra_end (by kernel_rfl) ?_
            refine qe_block 1 ?_
            refine qe_then ?_
            rw [show 0 + a * 1 = a by omega]
            obtain ⟨vs', hvs'⟩ : ∃ vs', vs' = vs.set a (.slice p3 (lt ++ [x.m]).length cap3) := ⟨_, rfl⟩
            obtain ⟨ls', hls'⟩ : ∃ ls', ls' = ls.set a (lt ++ [x.m]) := ⟨_, rfl⟩
            have hvl' : vs'.length = 16 := by rw [hvs', List.length_set, hvl]
            have hll' : ls'.length = 16 := by rw [hls', List.length_set, hll]
            have hlg' : ∀ a : Nat, a < 16 → ls'[a]? = some ((s.happen x).2.book.log.take (dOf (s.happen x).2 a)) := fun a' ha' => by
              rw [hls', hdv.taken hs, hat]
              by_cases he : a' = a
              · rw [he, List.getElem?_set_self (by omega), if_pos rfl, hlt]
              · rw [List.getElem?_set_ne (by omega), if_neg he, hlg a' ha']
            refine ct_heap (H' := SlT 34 (.slice pJ J.length cJ) J :: LogsV b8 50 vs' ls' :: SlT 52 (.slice (some ⟨b1, 0, none⟩) L.length c1) L :: []) (fun w h => by
              rw [hvs', hls']
              exact At.sw1 (LogsV.shut (by omega) (by omega) h.fit)) ?_
            refine ct_region ?_
            iterate 2 (first | refine rs_ex rfl (by (first | (constructor <;> first | rfl | exact RdC.rd | exact inferInstance) | exact Ex.pickF rfl rfl | exact Ex.eqlS rfl rfl | exact Ex.neqS rfl rfl | exact Ex.eqlPN rfl rfl | exact Ex.neqPN rfl rfl | exact Ex.eqlSN rfl rfl | exact Ex.neqSN rfl rfl | exact Ex.lenStr rfl)) rfl ?_ | refine rs_skip rfl rfl ?_)
            refine rs_rw (by rw [wrapS (by omega)]) ?_
            (first | refine rs_ex rfl (by (first | (constructor <;> first | rfl | exact RdC.rd | exact inferInstance) | exact Ex.pickF rfl rfl | exact Ex.eqlS rfl rfl | exact Ex.neqS rfl rfl | exact Ex.eqlPN rfl rfl | exact Ex.neqPN rfl rfl | exact Ex.eqlSN rfl rfl | exact Ex.neqSN rfl rfl | exact Ex.lenStr rfl)) rfl ?_ | refine rs_skip rfl rfl ?_)
            refine rs_end ?_
            refine qe_loopc ((i + 1, (s.happen x).2, J, _, vs', ls')) (⟨by simp only; omega, hs', hd', by simp only; omega, hamn, hJl, hvl', hll', hlg'⟩) (by first | omega | (simp only; omega)) ⟨rfl, rfl, rfl, rfl, rfl, rfl, rfl, trivial⟩ (fun w h => by first | exact h.fit | exact h)
  · refine ct_exit ?_
    refine qe_then_exit ?_
    refine qe_loop_exit ?_
    refine qe_block_exit ?_
    refine qe_then ?_
    refine ct_seq ?_
    refine ct_seq ?_
    refine ct_region ?_
    (first | refine rs_ex rfl (by (first | (constructor <;> first | rfl | exact RdC.rd | exact inferInstance) | exact Ex.pickF rfl rfl | exact Ex.eqlS rfl rfl | exact Ex.neqS rfl rfl | exact Ex.eqlPN rfl rfl | exact Ex.neqPN rfl rfl | exact Ex.eqlSN rfl rfl | exact Ex.neqSN rfl rfl | exact Ex.lenStr rfl)) rfl ?_ | refine rs_skip rfl rfl ?_)
    refine rs_end ?_
    refine qe_then ?_
    refine ct_block ?_
    refine ct_loopk (ζ := Nat) (fun u => u ≤ 16) [(5, _), (8, _)] (fun u => [(15, .int .i64 (u : Int))]) (fun u => 16 - u) (0) (Nat.zero_le _) ⟨rfl, rfl, rfl, trivial⟩ ?_
    intro u hu
    refine ct_seq ?_
    refine ct_seq ?_
    refine ct_region ?_
    iterate 2 (first | refine rs_ex rfl (by (first | (constructor <;> first | rfl | exact RdC.rd | exact inferInstance) | exact Ex.pickF rfl rfl | exact Ex.eqlS rfl rfl | exact Ex.neqS rfl rfl | exact Ex.eqlPN rfl rfl | exact Ex.neqPN rfl rfl | exact Ex.eqlSN rfl rfl | exact Ex.neqSN rfl rfl | exact Ex.lenStr rfl)) rfl ?_ | refine rs_skip rfl rfl ?_)
    refine rs_end ?_
    refine qe_then ?_
    refine ct_cond rfl (fun h118 => ?_) (fun h118 => ?_)
    · have hu1 : u < 16 := by simp at h118; omega
      refine ct_skip ?_
      refine qe_then ?_
      refine ct_seq ?_
      refine ct_block ?_
      refine ct_seq ?_
      refine ct_region ?_
      (first | refine rs_ex rfl (by (first | (constructor <;> first | rfl | exact RdC.rd | exact inferInstance) | exact Ex.pickF rfl rfl | exact Ex.eqlS rfl rfl | exact Ex.neqS rfl rfl | exact Ex.eqlPN rfl rfl | exact Ex.neqPN rfl rfl | exact Ex.eqlSN rfl rfl | exact Ex.neqSN rfl rfl | exact Ex.lenStr rfl)) rfl ?_ | refine rs_skip rfl rfl ?_)
      refine rs_end ?_
      refine qe_then ?_
      refine ct_block ?_
      refine ct_loopk (ζ := Nat) (fun t => t ≤ u) [(5, _), (8, _), (15, _)] (fun t => [(16, .int .i64 (t : Int))]) (fun t => u - t) (0) (Nat.zero_le _) ⟨rfl, rfl, rfl, rfl, trivial⟩ ?_
      intro t ht
      refine ct_seq ?_
      refine ct_seq ?_
      refine ct_region ?_
      iterate 3 (first | refine rs_ex rfl (by (first | (constructor <;> first | rfl | exact RdC.rd | exact inferInstance) | exact Ex.pickF rfl rfl | exact Ex.eqlS rfl rfl | exact Ex.neqS rfl rfl | exact Ex.eqlPN rfl rfl | exact Ex.neqPN rfl rfl | exact Ex.eqlSN rfl rfl | exact Ex.neqSN rfl rfl | exact Ex.lenStr rfl)) rfl ?_ | refine rs_skip rfl rfl ?_)
      refine rs_end ?_
      refine qe_then ?_
      refine ct_cond rfl (fun h123 => ?_) (fun h123 => ?_)
      · have ht1 : t < u := by simp at h123; exact h123
        obtain ⟨lu, hlu⟩ : ∃ lu, lu = s.book.log.take (dOf s u) := ⟨_, rfl⟩
        obtain ⟨lw, hlw⟩ : ∃ lw, lw = s.book.log.take (dOf s t) := ⟨_, rfl⟩
        have hgu : ls[u]? = some lu := by rw [hlg u hu1, hlu]
        have hgw : ls[t]? = some lw := by rw [hlg t (by omega), hlw]
        obtain ⟨vu, hvu⟩ : ∃ vu, vs[u]? = some vu := ⟨_, List.getElem?_eq_getElem (by omega)⟩
        obtain ⟨vw, hvw⟩ : ∃ vw, vs[t]? = some vw := ⟨_, List.getElem?_eq_getElem (by omega)⟩
        refine ct_pr (fun w h => LogsV.slv h.drop hvu hgu) ?_; rintro ⟨pu, cu, e, hvvu⟩
        subst e
        refine ct_pr (fun w h => LogsV.slv h.drop hvw hgw) ?_; rintro ⟨pw, cw, e, hvvw⟩
        subst e
        have hget1 : vs.toArray[0 + (u : Int).toNat * 1]? = some (.slice pu lu.length cu) := by rw [Int.toNat_natCast]; simpa using hvu
        have hget2 : vs.toArray[0 + (t : Int).toNat * 1]? = some (.slice pw lw.length cw) := by rw [Int.toNat_natCast]; simpa using hvw
        have hmin : (if (lw.length : Int) < (lu.length : Int) then (lw.length : Int) else (lu.length : Int)) = ((min lu.length lw.length : Nat) : Int) := by split <;> omega
        have hsame : lu.take (min lu.length lw.length) = lw.take (min lu.length lw.length) := by rw [hlu, hlw]; exact take_min_take _ _ _
        have hlen1 : (lu.take (min lu.length lw.length)).length = min lu.length lw.length := by rw [List.length_take]; omega
        have hlen2 : (lw.take (min lu.length lw.length)).length = min lu.length lw.length := by rw [List.length_take]; omega
        have hule : lu.length ≤ s.book.log.length := by rw [hlu, List.length_take]; omega
        have hbl := hs.bk.len
        have hcu := hvvu.le
        have hcw := hvvw.le
        refine ct_skip ?_
        refine qe_then ?_
        refine ct_seq ?_
        refine ct_block ?_
        refine ct_seq ?_
        refine ct_draw0 (by kernel_rfl) ?_
        refine ra_take 0 rfl (by kernel_rfl) (by kernel_rfl) rfl (by (first | (constructor <;> first | rfl | exact RdC.rd | exact inferInstance) | exact Ex.pickF rfl rfl | exact Ex.eqlS rfl rfl | exact Ex.neqS rfl rfl | exact Ex.eqlPN rfl rfl | exact Ex.neqPN rfl rfl | exact Ex.eqlSN rfl rfl | exact Ex.neqSN rfl rfl | exact Ex.lenStr rfl)) rfl (fun _ h => h.fit) ?_
        refine ra_take 1 rfl (by kernel_rfl) (by kernel_rfl) rfl (ex_indexArr rfl rfl (by omega) (by omega)) rfl (fun _ h => h.fit) ?_
        refine ra_take 2 rfl (by kernel_rfl) (by kernel_rfl) rfl (Ex.load1 rfl RdC.rd ⟨hget1⟩) rfl (fun _ h => h.fit) ?_
        refine ra_take 3 rfl (by kernel_rfl) (by kernel_rfl) rfl (by (first | (constructor <;> first | rfl | exact RdC.rd | exact inferInstance) | exact Ex.pickF rfl rfl | exact Ex.eqlS rfl rfl | exact Ex.neqS rfl rfl | exact Ex.eqlPN rfl rfl | exact Ex.neqPN rfl rfl | exact Ex.eqlSN rfl rfl | exact Ex.neqSN rfl rfl | exact Ex.lenStr rfl)) rfl (fun _ h => h.fit) ?_
        refine ra_take 4 rfl (by kernel_rfl) (by kernel_rfl) rfl (by (first | (constructor <;> first | rfl | exact RdC.rd | exact inferInstance) | exact Ex.pickF rfl rfl | exact Ex.eqlS rfl rfl | exact Ex.neqS rfl rfl | exact Ex.eqlPN rfl rfl | exact Ex.neqPN rfl rfl | exact Ex.eqlSN rfl rfl | exact Ex.neqSN rfl rfl | exact Ex.lenStr rfl)) rfl (fun _ h => h.fit) ?_
        refine ra_take 5 rfl (by kernel_rfl) (by kernel_rfl) rfl (ex_indexArr rfl rfl (by omega) (by omega)) rfl (fun _ h => h.fit) ?_
        refine ra_take 6 rfl (by kernel_rfl) (by kernel_rfl) rfl (Ex.load1 rfl RdC.rd ⟨hget2⟩) rfl (fun _ h => h.fit) ?_
        refine ra_take 7 rfl (by kernel_rfl) (by kernel_rfl) rfl (by (first | (constructor <;> first | rfl | exact RdC.rd | exact inferInstance) | exact Ex.pickF rfl rfl | exact Ex.eqlS rfl rfl | exact Ex.neqS rfl rfl | exact Ex.eqlPN rfl rfl | exact Ex.neqPN rfl rfl | exact Ex.eqlSN rfl rfl | exact Ex.neqSN rfl rfl | exact Ex.lenStr rfl)) rfl (fun _ h => h.fit) ?_
        refine ra_take 8 rfl (by kernel_rfl) (by kernel_rfl) rfl (ex_min rfl rfl) rfl (fun _ h => h.fit) ?_
        refine ra_rw (by rw [hmin]) ?_
        refine ra_take 9 rfl (by kernel_rfl) (by kernel_rfl) rfl (by (first | (constructor <;> first | rfl | exact RdC.rd | exact inferInstance) | exact Ex.pickF rfl rfl | exact Ex.eqlS rfl rfl | exact Ex.neqS rfl rfl | exact Ex.eqlPN rfl rfl | exact Ex.neqPN rfl rfl | exact Ex.eqlSN rfl rfl | exact Ex.neqSN rfl rfl | exact Ex.lenStr rfl)) rfl (fun _ h => h.fit) ?_
        refine ra_end (by kernel_rfl) ?_
        refine qe_then ?_
        refine ct_seq ?_
        refine ct_draw0 (by kernel_rfl) ?_
        refine ra_take 0 rfl (by kernel_rfl) (by kernel_rfl) rfl (by (first | (constructor <;> first | rfl | exact RdC.rd | exact inferInstance) | exact Ex.pickF rfl rfl | exact Ex.eqlS rfl rfl | exact Ex.neqS rfl rfl | exact Ex.eqlPN rfl rfl | exact Ex.neqPN rfl rfl | exact Ex.eqlSN rfl rfl | exact Ex.neqSN rfl rfl | exact Ex.lenStr rfl)) rfl (fun _ h => h.fit) ?_
        refine ra_take 1 rfl (by kernel_rfl) (by kernel_rfl) rfl (ex_indexArr rfl rfl (by omega) (by omega)) rfl (fun _ h => h.fit) ?_
        refine ra_take 2 rfl (by kernel_rfl) (by kernel_rfl) rfl (Ex.load1 rfl RdC.rd ⟨hget1⟩) rfl (fun _ h => h.fit) ?_
        refine ra_take 3 rfl (by kernel_rfl) (by kernel_rfl) rfl (by (first | (constructor <;> first | rfl | exact RdC.rd | exact inferInstance) | exact Ex.pickF rfl rfl | exact Ex.eqlS rfl rfl | exact Ex.neqS rfl rfl | exact Ex.eqlPN rfl rfl | exact Ex.neqPN rfl rfl | exact Ex.eqlSN rfl rfl | exact Ex.neqSN rfl rfl | exact Ex.lenStr rfl)) rfl (fun _ h => h.fit) ?_
        refine ra_take 4 rfl (by kernel_rfl) (by kernel_rfl) rfl (ex_slice (i := 0) (j := min lu.length lw.length) rfl (.inl ⟨rfl, rfl⟩) (.inr ⟨_, _, rfl, rfl⟩) (by omega) (by omega)) rfl (fun _ h => h.fit) ?_
        refine ra_rw (by rw [Nat.sub_zero, Nat.sub_zero, ← hlen1]) ?_
        refine ra_take 5 rfl (by kernel_rfl) (by kernel_rfl) rfl (by (first | (constructor <;> first | rfl | exact RdC.rd | exact inferInstance) | exact Ex.pickF rfl rfl | exact Ex.eqlS rfl rfl | exact Ex.neqS rfl rfl | exact Ex.eqlPN rfl rfl | exact Ex.neqPN rfl rfl | exact Ex.eqlSN rfl rfl | exact Ex.neqSN rfl rfl | exact Ex.lenStr rfl)) rfl (fun _ h => h.fit) ?_
        refine ra_take 6 rfl (by kernel_rfl) (by kernel_rfl) rfl (ex_indexArr rfl rfl (by omega) (by omega)) rfl (fun _ h => h.fit) ?_
        refine ra_take 7 rfl (by kernel_rfl) (by kernel_rfl) rfl (Ex.load1 rfl RdC.rd ⟨hget2⟩) rfl (fun _ h => h.fit) ?_
        refine ra_take 8 rfl (by kernel_rfl) (by kernel_rfl) rfl (by (first | (constructor <;> first | rfl | exact RdC.rd | exact inferInstance) | exact Ex.pickF rfl rfl | exact Ex.eqlS rfl rfl | exact Ex.neqS rfl rfl | exact Ex.eqlPN rfl rfl | exact Ex.neqPN rfl rfl | exact Ex.eqlSN rfl rfl | exact Ex.neqSN rfl rfl | exact Ex.lenStr rfl)) rfl (fun _ h => h.fit) ?_
        refine ra_take 9 rfl (by kernel_rfl) (by kernel_rfl) rfl (ex_slice (i := 0) (j := min lu.length lw.length) rfl (.inl ⟨rfl, rfl⟩) (.inr ⟨_, _, rfl, rfl⟩) (by omega) (by omega)) rfl (fun _ h => h.fit) ?_
        refine ra_rw (by rw [Nat.sub_zero, Nat.sub_zero, ← hlen2]) ?_
        refine ra_all (rs := [10]) (by kernel_rfl) rfl ?_
        refine each_op rfl rfl rfl (opR_fn rfl (Call.heap (fun w h => by (first | exact h | exact h.sw1 | exact h.sw2 | exact h.sw3 | exact h.sw4 | exact h.sw5 | exact h.sw6 | exact h.sw7 | exact h.sw8 | exact h.pull2 | exact h.pull3 | exact h.pull4 | exact h.pull5 | exact h.fit)) ((Same_c W0 _ _ (lu.take (min lu.length lw.length)) _ _ (lw.take (min lu.length lw.length)) _ (by exact (((LogsV.slR hvu hgu hvvu).takeA hcu).mono fun w h => h.drop)) (by exact (((LogsV.slR hvw hgw hvvw).takeA hcw).mono fun w h => h.drop)) (by omega)).mono ?_))) each_nil
        rintro v H' ⟨rfl, rfl⟩
        refine ⟨.inr (fun w h => h.fit), ?_⟩
        rw [decide_eq_true hsame]
        refine ra_take 11 rfl (by kernel_rfl) (by kernel_rfl) rfl (by (first | (constructor <;> first | rfl | exact RdC.rd | exact inferInstance) | exact Ex.pickF rfl rfl | exact Ex.eqlS rfl rfl | exact Ex.neqS rfl rfl | exact Ex.eqlPN rfl rfl | exact Ex.neqPN rfl rfl | exact Ex.eqlSN rfl rfl | exact Ex.neqSN rfl rfl | exact Ex.lenStr rfl)) rfl (fun _ h => h.fit) ?_
        refine ra_end (by kernel_rfl) ?_
        refine qe_then ?_
        refine ct_cond rfl (fun h146 => by simp at h146) (fun h146 => ?_)
        refine ct_skip ?_
        refine qe_block 9 ?_
        refine qe_then ?_
        refine ct_region ?_
        iterate 2 (first | refine rs_ex rfl (by (first | (constructor <;> first | rfl | exact RdC.rd | exact inferInstance) | exact Ex.pickF rfl rfl | exact Ex.eqlS rfl rfl | exact Ex.neqS rfl rfl | exact Ex.eqlPN rfl rfl | exact Ex.neqPN rfl rfl | exact Ex.eqlSN rfl rfl | exact Ex.neqSN rfl rfl | exact Ex.lenStr rfl)) rfl ?_ | refine rs_skip rfl rfl ?_)
        refine rs_rw (by rw [wrapS (by omega)]) ?_
        (first | refine rs_ex rfl (by (first | (constructor <;> first | rfl | exact RdC.rd | exact inferInstance) | exact Ex.pickF rfl rfl | exact Ex.eqlS rfl rfl | exact Ex.neqS rfl rfl | exact Ex.eqlPN rfl rfl | exact Ex.neqPN rfl rfl | exact Ex.eqlSN rfl rfl | exact Ex.neqSN rfl rfl | exact Ex.lenStr rfl)) rfl ?_ | refine rs_skip rfl rfl ?_)
        refine rs_end ?_
        refine qe_loopc (t + 1) (by first | omega | (simp only; omega)) (by first | omega | (simp only; omega)) ⟨rfl, rfl, rfl, rfl, trivial⟩ (fun w h => by first | exact h.fit | exact h)
      · refine ct_exit ?_
        refine qe_then_exit ?_
        refine qe_loop_exit ?_
        refine qe_block_exit ?_
        refine qe_block 7 ?_
        refine qe_then ?_
        refine ct_region ?_
        iterate 2 (first | refine rs_ex rfl (by (first | (constructor <;> first | rfl | exact RdC.rd | exact inferInstance) | exact Ex.pickF rfl rfl | exact Ex.eqlS rfl rfl | exact Ex.neqS rfl rfl | exact Ex.eqlPN rfl rfl | exact Ex.neqPN rfl rfl | exact Ex.eqlSN rfl rfl | exact Ex.neqSN rfl rfl | exact Ex.lenStr rfl)) rfl ?_ | refine rs_skip rfl rfl ?_)
        refine rs_rw (by rw [wrapS (by omega)]) ?_
        (first | refine rs_ex rfl (by (first | (constructor <;> first | rfl | exact RdC.rd | exact inferInstance) | exact Ex.pickF rfl rfl | exact Ex.eqlS rfl rfl | exact Ex.neqS rfl rfl | exact Ex.eqlPN rfl rfl | exact Ex.neqPN rfl rfl | exact Ex.eqlSN rfl rfl | exact Ex.neqSN rfl rfl | exact Ex.lenStr rfl)) rfl ?_ | refine rs_skip rfl rfl ?_)
        refine rs_end ?_
        refine qe_loopc (u + 1) (by first | omega | (simp only; omega)) (by first | omega | (simp only; omega)) ⟨rfl, rfl, rfl, trivial⟩ (fun w h => by first | exact h.fit | exact h)
    · refine ct_exit ?_
      refine qe_then_exit ?_
      refine qe_loop_exit ?_
      refine qe_block_exit ?_
      refine qe_then ?_
      refine ct_seq ?_
      refine ct_region ?_
      iterate 2 (first | refine rs_ex rfl (by (first | (constructor <;> first | rfl | exact RdC.rd | exact inferInstance) | exact Ex.pickF rfl rfl | exact Ex.eqlS rfl rfl | exact Ex.neqS rfl rfl | exact Ex.eqlPN rfl rfl | exact Ex.neqPN rfl rfl | exact Ex.eqlSN rfl rfl | exact Ex.neqSN rfl rfl | exact Ex.lenStr rfl)) rfl ?_ | refine rs_skip rfl rfl ?_)
      refine rs_end ?_
      refine qe_then ?_
      refine ct_ret ?_
      exact ret1 rfl rfl rfl
theorem ModelSafe_c (W0 : World) (n : Int) (p : Option Addr) (c : Nat) (l : List Happ) (h1 : SlR (At W0 []) p l) :
    Call Try.prog W0 6 [.int .i64 n, .slice p l.length c] [] (fun v _ => v = .bool true) := by
  by_cases hn : n < 1 ∨ 16 < n
  · exact ModelSafe_bad W0 n p c l h1 hn
  · obtain ⟨k, rfl⟩ : ∃ k : Nat, n = (k : Int) := ⟨n.toNat, by omega⟩
    exact ModelSafe_ok W0 k p c l h1 (by omega) (by omega)
end Go.Rost
