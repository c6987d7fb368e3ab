/- The reference of layer 16: a new one, who is behind, what happens. -/
import Derived.Test.YtgnjjbaeehbheaaRk
namespace Go.Rost
open Go Go.RowKit Go.Proofs

theorem RNew_c (W0 : World) (n : Int) (H : List Chunk) :
    Call Try.prog W0 35 [.int .i64 n] H (fun v H' => ((n < 1 ∨ 16 < n) ∧ v = .tuple #[.pointer none, .int .i64 2] ∧ H' = H) ∨ ∃ (b k : Nat), n = (k : Int) ∧ 1 ≤ k ∧ k ≤ 16 ∧ v = .tuple #[.pointer (some ⟨b, 0, none⟩), .int .i64 0] ∧ H' = RModC b (RMod.new k) :: H) := by
  refine call_enter Try.func35 rfl Try.ntmps35 rfl ?_

  refine ct_seq ?_
  refine ct_region ?_
  iterate 2 (first | refine rs_ex rfl (by (first | (constructor <;> first | rfl | exact RdC.rd | exact inferInstance) | exact Ex.pickF rfl rfl | exact Ex.eqlS rfl rfl | exact Ex.neqS rfl rfl | exact Ex.eqlPN rfl rfl | exact Ex.neqPN rfl rfl | exact Ex.eqlSN rfl rfl | exact Ex.neqSN rfl rfl | exact Ex.lenStr rfl)) rfl ?_ | refine rs_skip rfl rfl ?_)
  refine rs_end ?_
  refine qe_then ?_
  refine ct_seq ?_
  refine ct_seq ?_
  refine ct_region ?_
  iterate 3 (first | refine rs_ex rfl (by (first | (constructor <;> first | rfl | exact RdC.rd | exact inferInstance) | exact Ex.pickF rfl rfl | exact Ex.eqlS rfl rfl | exact Ex.neqS rfl rfl | exact Ex.eqlPN rfl rfl | exact Ex.neqPN rfl rfl | exact Ex.eqlSN rfl rfl | exact Ex.neqSN rfl rfl | exact Ex.lenStr rfl)) rfl ?_ | refine rs_skip rfl rfl ?_)
  refine rs_split (fun h6 => ?_) (fun h6 => ?_)
  · iterate 3 (first | refine rs_ex rfl (by (first | (constructor <;> first | rfl | exact RdC.rd | exact inferInstance) | exact Ex.pickF rfl rfl | exact Ex.eqlS rfl rfl | exact Ex.neqS rfl rfl | exact Ex.eqlPN rfl rfl | exact Ex.neqPN rfl rfl | exact Ex.eqlSN rfl rfl | exact Ex.neqSN rfl rfl | exact Ex.lenStr rfl)) rfl ?_ | refine rs_skip rfl rfl ?_)
    refine rs_end ?_
    refine qe_then ?_
    refine ct_cond rfl (fun _ => ?_) (fun h => absurd h (by decide))
    refine ct_seq ?_
    refine ct_region ?_
    iterate 2 (first | refine rs_ex rfl (by (first | (constructor <;> first | rfl | exact RdC.rd | exact inferInstance) | exact Ex.pickF rfl rfl | exact Ex.eqlS rfl rfl | exact Ex.neqS rfl rfl | exact Ex.eqlPN rfl rfl | exact Ex.neqPN rfl rfl | exact Ex.eqlSN rfl rfl | exact Ex.neqSN rfl rfl | exact Ex.lenStr rfl)) rfl ?_ | refine rs_skip rfl rfl ?_)
    refine rs_end ?_
    refine qe_then ?_
    refine ct_ret ?_
    exact ret2 rfl rfl rfl (.inl ⟨by simp_all, rfl, rfl⟩)
  · iterate 3 (first | refine rs_ex rfl (by (first | (constructor <;> first | rfl | exact RdC.rd | exact inferInstance) | exact Ex.pickF rfl rfl | exact Ex.eqlS rfl rfl | exact Ex.neqS rfl rfl | exact Ex.eqlPN rfl rfl | exact Ex.neqPN rfl rfl | exact Ex.eqlSN rfl rfl | exact Ex.neqSN rfl rfl | exact Ex.lenStr rfl)) rfl ?_ | refine rs_skip rfl rfl ?_)
    refine rs_end ?_
    refine qe_then ?_
    refine ct_cond rfl (fun h9 => ?_) (fun h9 => ?_)
    · refine ct_seq ?_
      refine ct_region ?_
      iterate 2 (first | refine rs_ex rfl (by (first | (constructor <;> first | rfl | exact RdC.rd | exact inferInstance) | exact Ex.pickF rfl rfl | exact Ex.eqlS rfl rfl | exact Ex.neqS rfl rfl | exact Ex.eqlPN rfl rfl | exact Ex.neqPN rfl rfl | exact Ex.eqlSN rfl rfl | exact Ex.neqSN rfl rfl | exact Ex.lenStr rfl)) rfl ?_ | refine rs_skip rfl rfl ?_)
      refine rs_end ?_
      refine qe_then ?_
      refine ct_ret ?_
      exact ret2 rfl rfl rfl (.inl ⟨by simp_all, rfl, rfl⟩)
    · refine ct_skip ?_
      refine qe_then ?_
      refine ct_seq ?_
      have hk : 1 ≤ n ∧ n ≤ 16 := by simp at h6 h9; omega
      obtain ⟨k, rfl⟩ : ∃ k : Nat, n = (k : Int) := ⟨n.toNat, by omega⟩
      obtain ⟨j, hj, hz, hs, hb⟩ := info_int
      refine ct_region ?_
      (first | refine rs_ex rfl (by (first | (constructor <;> first | rfl | exact RdC.rd | exact inferInstance) | exact Ex.pickF rfl rfl | exact Ex.eqlS rfl rfl | exact Ex.neqS rfl rfl | exact Ex.eqlPN rfl rfl | exact Ex.neqPN rfl rfl | exact Ex.eqlSN rfl rfl | exact Ex.neqSN rfl rfl | exact Ex.lenStr rfl)) rfl ?_ | refine rs_skip rfl rfl ?_)
      refine rs_op rfl rfl (opR_makeSlice k Try.underlying64 hj hz rfl rfl (by rw [hs]; omega) (by rw [hb]; omega) (by omega) fun dp => ?_)
      refine rs_ex rfl (ex_build rfl) rfl ?_
      refine rs_op rfl rfl (opR_box rfl fun b13 => ?_)
      iterate 2 (first | refine rs_ex rfl (by (first | (constructor <;> first | rfl | exact RdC.rd | exact inferInstance) | exact Ex.pickF rfl rfl | exact Ex.eqlS rfl rfl | exact Ex.neqS rfl rfl | exact Ex.eqlPN rfl rfl | exact Ex.neqPN rfl rfl | exact Ex.eqlSN rfl rfl | exact Ex.neqSN rfl rfl | exact Ex.lenStr rfl)) rfl ?_ | refine rs_skip rfl rfl ?_)
      refine rs_end ?_
      refine qe_then ?_
      refine ct_ret ?_
      refine qe_heap (H' := RModC b13 (RMod.new k) :: H) (fun w h => ?_) (ret2 rfl rfl rfl (.inr ⟨b13, k, rfl, by omega, by omega, rfl, rfl⟩))
      rw [hs, show (Value.int .i64 0).cells = #[.int .i64 0] from rfl, Nat.mul_one, made_ints] at h
      have h2 : At W0 (SlT (α := Msg) 34 (.slice none 0 0) [] :: SlT (α := Msg) 34 (.slice none 0 0) [] :: _) w := At.slt_nil _ (At.slt_nil _ h)
      refine RModC.shut (u := .slice none 0 0) (v := .slice none 0 0) (dp := dp) ?_
      have e : (RMod.new k).del.length = k := by simp [RMod.new]
      rw [e]
      exact At.top [_, _, _, _] [2, 0, 1, 3] h2
theorem RBehind_o (W0 : World) (b dp c : Nat) (u : Value) (p : Option Addr) (s : RMod) (f : Int) (H : List Chunk) (hd : ∀ d ∈ s.del, 0 ≤ d ∧ d ≤ (s.log.length : Int)) (hl : s.log.length ≤ 1000000) :
    Call Try.prog W0 39 [.pointer (some ⟨b, 0, none⟩), .int .i64 f]
      (Blk b (.cells #[u, .slice p s.log.length c, .slice (some ⟨dp, 0, none⟩) s.del.length s.del.length] 66 (0, 0)) :: Blk dp (.cells (flat s.del).toArray 3 (0, 0)) :: H)
      (fun v H' => v = .int .i64 (s.behind f) ∧ H' = Blk b (.cells #[u, .slice p s.log.length c, .slice (some ⟨dp, 0, none⟩) s.del.length s.del.length] 66 (0, 0)) :: Blk dp (.cells (flat s.del).toArray 3 (0, 0)) :: H) := by
  refine call_enter Try.func39 rfl Try.ntmps39 rfl ?_

  refine ct_seq ?_
  refine ct_region ?_
  (first | refine rs_ex rfl (by (first | (constructor <;> first | rfl | exact RdC.rd | exact inferInstance) | exact Ex.pickF rfl rfl | exact Ex.eqlS rfl rfl | exact Ex.neqS rfl rfl | exact Ex.eqlPN rfl rfl | exact Ex.neqPN rfl rfl | exact Ex.eqlSN rfl rfl | exact Ex.neqSN rfl rfl | exact Ex.lenStr rfl)) rfl ?_ | refine rs_skip rfl rfl ?_)
  refine rs_end ?_
  refine qe_then ?_
  refine ct_seq ?_
  refine ct_seq ?_
  refine ct_region ?_
  iterate 3 (first | refine rs_ex rfl (by (first | (constructor <;> first | rfl | exact RdC.rd | exact inferInstance) | exact Ex.pickF rfl rfl | exact Ex.eqlS rfl rfl | exact Ex.neqS rfl rfl | exact Ex.eqlPN rfl rfl | exact Ex.neqPN rfl rfl | exact Ex.eqlSN rfl rfl | exact Ex.neqSN rfl rfl | exact Ex.lenStr rfl)) rfl ?_ | refine rs_skip rfl rfl ?_)
  refine rs_split (fun h7 => ?_) (fun h7 => ?_)
  · iterate 8 (first | refine rs_ex rfl (by (first | (constructor <;> first | rfl | exact RdC.rd | exact inferInstance) | exact Ex.pickF rfl rfl | exact Ex.eqlS rfl rfl | exact Ex.neqS rfl rfl | exact Ex.eqlPN rfl rfl | exact Ex.neqPN rfl rfl | exact Ex.eqlSN rfl rfl | exact Ex.neqSN rfl rfl | exact Ex.lenStr rfl)) rfl ?_ | refine rs_skip rfl rfl ?_)
    refine rs_end ?_
    refine qe_then ?_
    refine ct_cond rfl (fun _ => ?_) (fun h => absurd h (by decide))
    refine ct_seq ?_
    refine ct_region ?_
    (first | refine rs_ex rfl (by (first | (constructor <;> first | rfl | exact RdC.rd | exact inferInstance) | exact Ex.pickF rfl rfl | exact Ex.eqlS rfl rfl | exact Ex.neqS rfl rfl | exact Ex.eqlPN rfl rfl | exact Ex.neqPN rfl rfl | exact Ex.eqlSN rfl rfl | exact Ex.neqSN rfl rfl | exact Ex.lenStr rfl)) rfl ?_ | refine rs_skip rfl rfl ?_)
    refine rs_end ?_
    refine qe_then ?_
    refine ct_ret ?_
    refine ret1 rfl rfl ⟨?_, rfl⟩
    rw [RMod.behind, if_pos (by simp_all)]
  · iterate 8 (first | refine rs_ex rfl (by (first | (constructor <;> first | rfl | exact RdC.rd | exact inferInstance) | exact Ex.pickF rfl rfl | exact Ex.eqlS rfl rfl | exact Ex.neqS rfl rfl | exact Ex.eqlPN rfl rfl | exact Ex.neqPN rfl rfl | exact Ex.eqlSN rfl rfl | exact Ex.neqSN rfl rfl | exact Ex.lenStr rfl)) rfl ?_ | refine rs_skip rfl rfl ?_)
    refine rs_end ?_
    refine qe_then ?_
    refine ct_cond rfl (fun h15 => ?_) (fun h15 => ?_)
    · refine ct_seq ?_
      refine ct_region ?_
      (first | refine rs_ex rfl (by (first | (constructor <;> first | rfl | exact RdC.rd | exact inferInstance) | exact Ex.pickF rfl rfl | exact Ex.eqlS rfl rfl | exact Ex.neqS rfl rfl | exact Ex.eqlPN rfl rfl | exact Ex.neqPN rfl rfl | exact Ex.eqlSN rfl rfl | exact Ex.neqSN rfl rfl | exact Ex.lenStr rfl)) rfl ?_ | refine rs_skip rfl rfl ?_)
      refine rs_end ?_
      refine qe_then ?_
      refine ct_ret ?_
      refine ret1 rfl rfl ⟨?_, rfl⟩
      rw [RMod.behind, if_pos (by simp_all)]
    · refine ct_skip ?_
      refine qe_then ?_
      refine ct_seq ?_
      have hf : ¬ (f < 0 ∨ (s.del.length : Int) ≤ f) := by simp at h7 h15; omega
      obtain ⟨nn, rfl⟩ : ∃ nn : Nat, f = (nn : Int) := ⟨f.toNat, by omega⟩
      have hlt : nn < s.del.length := by omega
      obtain ⟨k0, hk0⟩ : ∃ k0, s.del[nn]? = some k0 := ⟨_, List.getElem?_eq_getElem hlt⟩
      have hkb := hd k0 (List.mem_of_getElem? hk0)
      have e : s.behind (nn : Int) = (s.log.length : Int) - k0 := by rw [RMod.behind, if_neg hf, Int.toNat_natCast, hk0]; rfl
      refine ct_draw0 (by kernel_rfl) ?_
      refine ra_take 0 rfl (by kernel_rfl) (by kernel_rfl) rfl (by (first | (constructor <;> first | rfl | exact RdC.rd | exact inferInstance) | exact Ex.pickF rfl rfl | exact Ex.eqlS rfl rfl | exact Ex.neqS rfl rfl | exact Ex.eqlPN rfl rfl | exact Ex.neqPN rfl rfl | exact Ex.eqlSN rfl rfl | exact Ex.neqSN rfl rfl | exact Ex.lenStr rfl)) rfl (fun _ h => h.fit) ?_
      refine ra_take 1 rfl (by kernel_rfl) (by kernel_rfl) rfl (by (first | (constructor <;> first | rfl | exact RdC.rd | exact inferInstance) | exact Ex.pickF rfl rfl | exact Ex.eqlS rfl rfl | exact Ex.neqS rfl rfl | exact Ex.eqlPN rfl rfl | exact Ex.neqPN rfl rfl | exact Ex.eqlSN rfl rfl | exact Ex.neqSN rfl rfl | exact Ex.lenStr rfl)) rfl (fun _ h => h.fit) ?_
      refine ra_take 2 rfl (by kernel_rfl) (by kernel_rfl) rfl (by (first | (constructor <;> first | rfl | exact RdC.rd | exact inferInstance) | exact Ex.pickF rfl rfl | exact Ex.eqlS rfl rfl | exact Ex.neqS rfl rfl | exact Ex.eqlPN rfl rfl | exact Ex.neqPN rfl rfl | exact Ex.eqlSN rfl rfl | exact Ex.neqSN rfl rfl | exact Ex.lenStr rfl)) rfl (fun _ h => h.fit) ?_
      refine ra_take 3 rfl (by kernel_rfl) (by kernel_rfl) rfl (by (first | (constructor <;> first | rfl | exact RdC.rd | exact inferInstance) | exact Ex.pickF rfl rfl | exact Ex.eqlS rfl rfl | exact Ex.neqS rfl rfl | exact Ex.eqlPN rfl rfl | exact Ex.neqPN rfl rfl | exact Ex.eqlSN rfl rfl | exact Ex.neqSN rfl rfl | exact Ex.lenStr rfl)) rfl (fun _ h => h.fit) ?_
      refine ra_take 4 rfl (by kernel_rfl) (by kernel_rfl) rfl (by (first | (constructor <;> first | rfl | exact RdC.rd | exact inferInstance) | exact Ex.pickF rfl rfl | exact Ex.eqlS rfl rfl | exact Ex.neqS rfl rfl | exact Ex.eqlPN rfl rfl | exact Ex.neqPN rfl rfl | exact Ex.eqlSN rfl rfl | exact Ex.neqSN rfl rfl | exact Ex.lenStr rfl)) rfl (fun _ h => h.fit) ?_
      refine ra_take 5 rfl (by kernel_rfl) (by kernel_rfl) rfl (by (first | (constructor <;> first | rfl | exact RdC.rd | exact inferInstance) | exact Ex.pickF rfl rfl | exact Ex.eqlS rfl rfl | exact Ex.neqS rfl rfl | exact Ex.eqlPN rfl rfl | exact Ex.neqPN rfl rfl | exact Ex.eqlSN rfl rfl | exact Ex.neqSN rfl rfl | exact Ex.lenStr rfl)) rfl (fun _ h => h.fit) ?_
      refine ra_take 6 rfl (by kernel_rfl) (by kernel_rfl) rfl (by (first | (constructor <;> first | rfl | exact RdC.rd | exact inferInstance) | exact Ex.pickF rfl rfl | exact Ex.eqlS rfl rfl | exact Ex.neqS rfl rfl | exact Ex.eqlPN rfl rfl | exact Ex.neqPN rfl rfl | exact Ex.eqlSN rfl rfl | exact Ex.neqSN rfl rfl | exact Ex.lenStr rfl)) rfl (fun _ h => h.fit) ?_
      refine ra_take 7 rfl (by kernel_rfl) (by kernel_rfl) rfl (by (first | (constructor <;> first | rfl | exact RdC.rd | exact inferInstance) | exact Ex.pickF rfl rfl | exact Ex.eqlS rfl rfl | exact Ex.neqS rfl rfl | exact Ex.eqlPN rfl rfl | exact Ex.neqPN rfl rfl | exact Ex.eqlSN rfl rfl | exact Ex.neqSN rfl rfl | exact Ex.lenStr rfl)) rfl (fun _ h => h.fit) ?_
      refine ra_take 8 rfl (by kernel_rfl) (by kernel_rfl) rfl (by (first | (constructor <;> first | rfl | exact RdC.rd | exact inferInstance) | exact Ex.pickF rfl rfl | exact Ex.eqlS rfl rfl | exact Ex.neqS rfl rfl | exact Ex.eqlPN rfl rfl | exact Ex.neqPN rfl rfl | exact Ex.eqlSN rfl rfl | exact Ex.neqSN rfl rfl | exact Ex.lenStr rfl)) rfl (fun _ h => h.fit) ?_
      refine ra_take 9 rfl (by kernel_rfl) (by kernel_rfl) rfl (by (first | (constructor <;> first | rfl | exact RdC.rd | exact inferInstance) | exact Ex.pickF rfl rfl | exact Ex.eqlS rfl rfl | exact Ex.neqS rfl rfl | exact Ex.eqlPN rfl rfl | exact Ex.neqPN rfl rfl | exact Ex.eqlSN rfl rfl | exact Ex.neqSN rfl rfl | exact Ex.lenStr rfl)) rfl (fun _ h => h.fit) ?_
      refine ra_take 10 rfl (by kernel_rfl) (by kernel_rfl) rfl (ex_indexAddr rfl rfl (by omega) (by omega)) rfl (fun _ h => h.fit) ?_
      refine ra_take 11 rfl (by kernel_rfl) (by kernel_rfl) rfl (ex_loadInt k0 rfl (rd_ints RdC.rd hk0)) rfl (fun _ h => h.fit) ?_
      refine ra_take 12 rfl (by kernel_rfl) (by kernel_rfl) rfl (by (first | (constructor <;> first | rfl | exact RdC.rd | exact inferInstance) | exact Ex.pickF rfl rfl | exact Ex.eqlS rfl rfl | exact Ex.neqS rfl rfl | exact Ex.eqlPN rfl rfl | exact Ex.neqPN rfl rfl | exact Ex.eqlSN rfl rfl | exact Ex.neqSN rfl rfl | exact Ex.lenStr rfl)) rfl (fun _ h => h.fit) ?_
      refine ra_rw (by rw [wrap64 (by omega) (by omega)]) ?_
      refine ra_take 13 rfl (by kernel_rfl) (by kernel_rfl) rfl (by (first | (constructor <;> first | rfl | exact RdC.rd | exact inferInstance) | exact Ex.pickF rfl rfl | exact Ex.eqlS rfl rfl | exact Ex.neqS rfl rfl | exact Ex.eqlPN rfl rfl | exact Ex.neqPN rfl rfl | exact Ex.eqlSN rfl rfl | exact Ex.neqSN rfl rfl | exact Ex.lenStr rfl)) rfl (fun _ h => h.fit) ?_
      refine ra_end (by kernel_rfl) ?_
      refine qe_then ?_
      refine ct_ret ?_
      exact ret1 rfl rfl ⟨by rw [e], rfl⟩
end Go.Rost
