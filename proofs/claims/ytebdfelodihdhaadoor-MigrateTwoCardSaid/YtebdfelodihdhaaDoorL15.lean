/- One node's way through epochs: what it keeps; what it tells. -/
import Derived.Test.YtebdfelodihdhaaDoorMq
import Derived.Test.YtebdfelodihdhaaDoorFl
import Derived.Test.YtebdfelodihdhaaDoorLe
namespace Go.Rost
open Go Go.RowKit Go.Proofs

structure Loc where
  f : Fold
  s : Sta
  held : List Msg
  log : List Msg
  blk : Bool
def locB (b bf : Nat) (s : Sta) (v1 v2 : Value) (blk : Bool) : Chunk := Blk b (.cells #[.pointer (some ⟨bf, 0, none⟩), .int .i64 s.ver, .int .u32 s.cnt, .string s.data, v1, v2, .bool blk] 86 (0, 0))
def LocC (b : Nat) (l : Loc) : Chunk := Exs fun q : Nat × Value × Value =>
  Star [Blk b (.cells #[.pointer (some ⟨q.1, 0, none⟩), .int .i64 l.s.ver, .int .u32 l.s.cnt, .string l.s.data, q.2.1, q.2.2, .bool l.blk] 86 (0, 0)), SlT 80 q.2.1 l.held, SlT 80 q.2.2 l.log, FoldC q.1 l.f]
theorem LocC.open {W0 : World} {b : Nat} {l : Loc} {H : List Chunk} {w : World} (h : At W0 (LocC b l :: H) w) :
    ∃ q : Nat × Value × Value, At W0 (Blk b (.cells #[.pointer (some ⟨q.1, 0, none⟩), .int .i64 l.s.ver, .int .u32 l.s.cnt, .string l.s.data, q.2.1, q.2.2, .bool l.blk] 86 (0, 0)) :: SlT 80 q.2.1 l.held :: SlT 80 q.2.2 l.log :: FoldC q.1 l.f :: H) w := by
  obtain ⟨q, h⟩ := At.ex.1 h
  exact ⟨q, At.star.1 h⟩
theorem LocC.shut {W0 : World} {b bf : Nat} {v1 v2 : Value} {l : Loc} {H : List Chunk} {w : World} (h : At W0 (Blk b (.cells #[.pointer (some ⟨bf, 0, none⟩), .int .i64 l.s.ver, .int .u32 l.s.cnt, .string l.s.data, v1, v2, .bool l.blk] 86 (0, 0)) :: SlT 80 v1 l.held :: SlT 80 v2 l.log :: FoldC bf l.f :: H) w) : At W0 (LocC b l :: H) w :=
  At.ex.2 ⟨(bf, v1, v2), At.star.2 h⟩
theorem IsBlocked_c (W0 : World) (b : Nat) (l : Loc) (H : List Chunk) : Call Tryd.prog W0 34 [.pointer (some ⟨b, 0, none⟩)] (LocC b l :: H) (fun v H' => v = .bool l.blk ∧ H' = LocC b l :: H) := by
  refine Call.ex (fun w h => LocC.open h) ?_
  rintro ⟨bf, v1, v2⟩
  simp only
  refine call_enter Tryd.func34 rfl Tryd.ntmps34 rfl ?_

  refine ct_seq ?_
  refine ct_region ?_
  (first | refine rs_ex rfl (by (first | (constructor <;> first | rfl | exact RdC.rd | exact inferInstance) | exact Ex.pickF rfl rfl | exact Ex.eqlS rfl rfl | exact Ex.neqS rfl rfl | exact Ex.eqlPN rfl rfl | exact Ex.neqPN rfl rfl | exact Ex.eqlSN rfl rfl | exact Ex.neqSN rfl rfl | exact Ex.lenStr rfl)) rfl ?_ | refine rs_skip rfl rfl ?_)
  refine rs_end ?_
  refine qe_then ?_
  refine ct_seq ?_
  refine ct_region ?_
  iterate 3 (first | refine rs_ex rfl (by (first | (constructor <;> first | rfl | exact RdC.rd | exact inferInstance) | exact Ex.pickF rfl rfl | exact Ex.eqlS rfl rfl | exact Ex.neqS rfl rfl | exact Ex.eqlPN rfl rfl | exact Ex.neqPN rfl rfl | exact Ex.eqlSN rfl rfl | exact Ex.neqSN rfl rfl | exact Ex.lenStr rfl)) rfl ?_ | refine rs_skip rfl rfl ?_)
  refine rs_split (fun h5 => ?_) (fun h5 => by cases h5)
  iterate 6 (first | refine rs_ex rfl (by (first | (constructor <;> first | rfl | exact RdC.rd | exact inferInstance) | exact Ex.pickF rfl rfl | exact Ex.eqlS rfl rfl | exact Ex.neqS rfl rfl | exact Ex.eqlPN rfl rfl | exact Ex.neqPN rfl rfl | exact Ex.eqlSN rfl rfl | exact Ex.neqSN rfl rfl | exact Ex.lenStr rfl)) rfl ?_ | refine rs_skip rfl rfl ?_)
  refine rs_end ?_
  refine qe_then ?_
  refine ct_ret ?_
  exact qe_heap (fun w h => LocC.shut h) (ret1 rfl rfl ⟨rfl, rfl⟩)
theorem IsBlocked_nil (W0 : World) (H : List Chunk) : Call Tryd.prog W0 34 [.pointer none] H (fun v H' => v = .bool false ∧ H' = H) := by
  refine call_enter Tryd.func34 rfl Tryd.ntmps34 rfl ?_

  refine ct_seq ?_
  refine ct_region ?_
  (first | refine rs_ex rfl (by (first | (constructor <;> first | rfl | exact RdC.rd | exact inferInstance) | exact Ex.pickF rfl rfl | exact Ex.eqlS rfl rfl | exact Ex.neqS rfl rfl | exact Ex.eqlPN rfl rfl | exact Ex.neqPN rfl rfl | exact Ex.eqlSN rfl rfl | exact Ex.neqSN rfl rfl | exact Ex.lenStr rfl)) rfl ?_ | refine rs_skip rfl rfl ?_)
  refine rs_end ?_
  refine qe_then ?_
  refine ct_seq ?_
  refine ct_region ?_
  iterate 3 (first | refine rs_ex rfl (by (first | (constructor <;> first | rfl | exact RdC.rd | exact inferInstance) | exact Ex.pickF rfl rfl | exact Ex.eqlS rfl rfl | exact Ex.neqS rfl rfl | exact Ex.eqlPN rfl rfl | exact Ex.neqPN rfl rfl | exact Ex.eqlSN rfl rfl | exact Ex.neqSN rfl rfl | exact Ex.lenStr rfl)) rfl ?_ | refine rs_skip rfl rfl ?_)
  refine rs_split (fun h5 => by cases h5) (fun h5 => ?_)
  iterate 6 (first | refine rs_ex rfl (by (first | (constructor <;> first | rfl | exact RdC.rd | exact inferInstance) | exact Ex.pickF rfl rfl | exact Ex.eqlS rfl rfl | exact Ex.neqS rfl rfl | exact Ex.eqlPN rfl rfl | exact Ex.neqPN rfl rfl | exact Ex.eqlSN rfl rfl | exact Ex.neqSN rfl rfl | exact Ex.lenStr rfl)) rfl ?_ | refine rs_skip rfl rfl ?_)
  refine rs_end ?_
  refine qe_then ?_
  refine ct_ret ?_
  exact qe_fit (ret1 rfl rfl ⟨rfl, rfl⟩)
theorem State_nil (W0 : World) (H : List Chunk) : Call Tryd.prog W0 36 [.pointer none] H (fun v H' => v = Sta.zero.v ∧ H' = H) := by
  refine call_enter Tryd.func36 rfl Tryd.ntmps36 rfl ?_

  refine ct_seq ?_
  refine ct_region ?_
  refine rs_op rfl rfl (opR_alloc fun b2 => ?_)
  refine rs_end ?_
  refine qe_then ?_
  refine ct_seq ?_
  refine ct_seq ?_
  refine ct_region ?_
  iterate 2 (first | refine rs_ex rfl (by (first | (constructor <;> first | rfl | exact RdC.rd | exact inferInstance) | exact Ex.pickF rfl rfl | exact Ex.eqlS rfl rfl | exact Ex.neqS rfl rfl | exact Ex.eqlPN rfl rfl | exact Ex.neqPN rfl rfl | exact Ex.eqlSN rfl rfl | exact Ex.neqSN rfl rfl | exact Ex.lenStr rfl)) rfl ?_ | refine rs_skip rfl rfl ?_)
  refine rs_end ?_
  refine qe_then ?_
  refine ct_cond rfl (fun h4 => ?_) (fun h4 => by cases h4)
  refine ct_seq ?_
  refine ct_region ?_
  refine rs_ex rfl (ex_build rfl) rfl ?_
  refine rs_opN rfl (opR_store rfl rfl rfl rfl ?_)
  refine rs_end ?_
  refine qe_then ?_
  refine ct_ret ?_
  exact retC (vs := [.int .i64 0, .int .u32 0, .string ⟨#[]⟩]) rfl rfl rfl RdC.rd (fun j v e => by simpa using e) H (fun w h => h.fit) ⟨rfl, rfl⟩
theorem Holds_nil (W0 : World) (H : List Chunk) : Call Tryd.prog W0 37 [.pointer none] H (fun v H' => v = .slice none 0 0 ∧ H' = H) := by
  refine call_enter Tryd.func37 rfl Tryd.ntmps37 rfl ?_

  refine ct_seq ?_
  refine ct_region ?_
  (first | refine rs_ex rfl (by (first | (constructor <;> first | rfl | exact RdC.rd | exact inferInstance) | exact Ex.pickF rfl rfl | exact Ex.eqlS rfl rfl | exact Ex.neqS rfl rfl | exact Ex.eqlPN rfl rfl | exact Ex.neqPN rfl rfl | exact Ex.eqlSN rfl rfl | exact Ex.neqSN rfl rfl | exact Ex.lenStr rfl)) rfl ?_ | refine rs_skip rfl rfl ?_)
  refine rs_end ?_
  refine qe_then ?_
  refine ct_seq ?_
  refine ct_seq ?_
  refine ct_region ?_
  iterate 2 (first | refine rs_ex rfl (by (first | (constructor <;> first | rfl | exact RdC.rd | exact inferInstance) | exact Ex.pickF rfl rfl | exact Ex.eqlS rfl rfl | exact Ex.neqS rfl rfl | exact Ex.eqlPN rfl rfl | exact Ex.neqPN rfl rfl | exact Ex.eqlSN rfl rfl | exact Ex.neqSN rfl rfl | exact Ex.lenStr rfl)) rfl ?_ | refine rs_skip rfl rfl ?_)
  refine rs_end ?_
  refine qe_then ?_
  refine ct_cond rfl (fun h4 => ?_) (fun h4 => by cases h4)
  refine ct_seq ?_
  refine ct_region ?_
  (first | refine rs_ex rfl (by (first | (constructor <;> first | rfl | exact RdC.rd | exact inferInstance) | exact Ex.pickF rfl rfl | exact Ex.eqlS rfl rfl | exact Ex.neqS rfl rfl | exact Ex.eqlPN rfl rfl | exact Ex.neqPN rfl rfl | exact Ex.eqlSN rfl rfl | exact Ex.neqSN rfl rfl | exact Ex.lenStr rfl)) rfl ?_ | refine rs_skip rfl rfl ?_)
  refine rs_end ?_
  refine qe_then ?_
  refine ct_ret ?_
  exact ret1 rfl rfl ⟨rfl, rfl⟩
theorem Log15_nil (W0 : World) (H : List Chunk) : Call Tryd.prog W0 31 [.pointer none] H (fun v H' => v = .slice none 0 0 ∧ H' = H) := by
  refine call_enter Tryd.func31 rfl Tryd.ntmps31 rfl ?_

  refine ct_seq ?_
  refine ct_region ?_
  (first | refine rs_ex rfl (by (first | (constructor <;> first | rfl | exact RdC.rd | exact inferInstance) | exact Ex.pickF rfl rfl | exact Ex.eqlS rfl rfl | exact Ex.neqS rfl rfl | exact Ex.eqlPN rfl rfl | exact Ex.neqPN rfl rfl | exact Ex.eqlSN rfl rfl | exact Ex.neqSN rfl rfl | exact Ex.lenStr rfl)) rfl ?_ | refine rs_skip rfl rfl ?_)
  refine rs_end ?_
  refine qe_then ?_
  refine ct_seq ?_
  refine ct_seq ?_
  refine ct_region ?_
  iterate 2 (first | refine rs_ex rfl (by (first | (constructor <;> first | rfl | exact RdC.rd | exact inferInstance) | exact Ex.pickF rfl rfl | exact Ex.eqlS rfl rfl | exact Ex.neqS rfl rfl | exact Ex.eqlPN rfl rfl | exact Ex.neqPN rfl rfl | exact Ex.eqlSN rfl rfl | exact Ex.neqSN rfl rfl | exact Ex.lenStr rfl)) rfl ?_ | refine rs_skip rfl rfl ?_)
  refine rs_end ?_
  refine qe_then ?_
  refine ct_cond rfl (fun h4 => ?_) (fun h4 => by cases h4)
  refine ct_seq ?_
  refine ct_region ?_
  (first | refine rs_ex rfl (by (first | (constructor <;> first | rfl | exact RdC.rd | exact inferInstance) | exact Ex.pickF rfl rfl | exact Ex.eqlS rfl rfl | exact Ex.neqS rfl rfl | exact Ex.eqlPN rfl rfl | exact Ex.neqPN rfl rfl | exact Ex.eqlSN rfl rfl | exact Ex.neqSN rfl rfl | exact Ex.lenStr rfl)) rfl ?_ | refine rs_skip rfl rfl ?_)
  refine rs_end ?_
  refine qe_then ?_
  refine ct_ret ?_
  exact ret1 rfl rfl ⟨rfl, rfl⟩
theorem Log15_c (W0 : World) (b : Nat) (l : Loc) (H : List Chunk) (hl : l.log.length ≤ 100000) : Call Tryd.prog W0 31 [.pointer (some ⟨b, 0, none⟩)] (LocC b l :: H) (fun v H' => H' = SlT 80 v l.log :: LocC b l :: H) := by
  refine Call.ex (fun w h => LocC.open h) ?_
  rintro ⟨bf, v1, v2⟩
  simp only
  refine Call.pr (fun w h => h.drop.drop.slv) ?_
  rintro ⟨q, d, rfl, hv⟩
  refine call_enter Tryd.func31 rfl Tryd.ntmps31 rfl ?_

  refine ct_seq ?_
  refine ct_region ?_
  (first | refine rs_ex rfl (by (first | (constructor <;> first | rfl | exact RdC.rd | exact inferInstance) | exact Ex.pickF rfl rfl | exact Ex.eqlS rfl rfl | exact Ex.neqS rfl rfl | exact Ex.eqlPN rfl rfl | exact Ex.neqPN rfl rfl | exact Ex.eqlSN rfl rfl | exact Ex.neqSN rfl rfl | exact Ex.lenStr rfl)) rfl ?_ | refine rs_skip rfl rfl ?_)
  refine rs_end ?_
  refine qe_then ?_
  refine ct_seq ?_
  refine ct_seq ?_
  refine ct_region ?_
  iterate 2 (first | refine rs_ex rfl (by (first | (constructor <;> first | rfl | exact RdC.rd | exact inferInstance) | exact Ex.pickF rfl rfl | exact Ex.eqlS rfl rfl | exact Ex.neqS rfl rfl | exact Ex.eqlPN rfl rfl | exact Ex.neqPN rfl rfl | exact Ex.eqlSN rfl rfl | exact Ex.neqSN rfl rfl | exact Ex.lenStr rfl)) rfl ?_ | refine rs_skip rfl rfl ?_)
  refine rs_end ?_
  refine qe_then ?_
  refine ct_cond rfl (fun h4 => by cases h4) (fun h4 => ?_)
  refine ct_skip ?_
  refine qe_then ?_
  refine ct_seq ?_
  refine ct_region ?_
  iterate 4 (first | refine rs_ex rfl (by (first | (constructor <;> first | rfl | exact RdC.rd | exact inferInstance) | exact Ex.pickF rfl rfl | exact Ex.eqlS rfl rfl | exact Ex.neqS rfl rfl | exact Ex.eqlPN rfl rfl | exact Ex.neqPN rfl rfl | exact Ex.eqlSN rfl rfl | exact Ex.neqSN rfl rfl | exact Ex.lenStr rfl)) rfl ?_ | refine rs_skip rfl rfl ?_)
  refine rs_op rfl rfl (opR_fn rfl (Call.heap (fun w h => by (first | exact h | exact h.sw1 | exact h.sw2 | exact h.sw3 | exact h.sw4 | exact h.sw5 | exact h.sw6 | exact h.sw7 | exact h.sw8 | exact h.pull2 | exact h.pull3 | exact h.pull4 | exact h.pull5 | exact h.fit)) ((Clone_c W0 q d l.log _ (by rcases hv.sh with ⟨_, _, e⟩ | ⟨b', e⟩; exact fun _ => e; exact fun h => by rw [e] at h; cases h) (by exact RdS.slR (len := l.log.length) inferInstance hv) hl).mono ?_)))
  rintro v H' rfl
  (first | refine rs_ex rfl (by (first | (constructor <;> first | rfl | exact RdC.rd | exact inferInstance) | exact Ex.pickF rfl rfl | exact Ex.eqlS rfl rfl | exact Ex.neqS rfl rfl | exact Ex.eqlPN rfl rfl | exact Ex.neqPN rfl rfl | exact Ex.eqlSN rfl rfl | exact Ex.neqSN rfl rfl | exact Ex.lenStr rfl)) rfl ?_ | refine rs_skip rfl rfl ?_)
  refine rs_end ?_
  refine qe_then ?_
  refine ct_ret ?_
  exact qe_heap (fun w h => At.sw1 (LocC.shut (l := l) (At.top [_, _, _, _, _] [1, 2, 3, 4, 0] h))) (ret1 rfl rfl rfl)
theorem Eras15_c (W0 : World) (b n : Nat) (l : Loc) (H : List Chunk) (hok : l.f.Ok n) (hn : n ≤ 500) : Call Tryd.prog W0 50 [.pointer (some ⟨b, 0, none⟩)] (LocC b l :: H) (fun v H' => H' = SlT 55 v l.f.eras :: LocC b l :: H) := by
  refine Call.ex (fun w h => LocC.open h) ?_
  rintro ⟨bf, v1, v2⟩
  simp only
  refine call_enter Tryd.func50 rfl Tryd.ntmps50 rfl ?_

  refine ct_seq ?_
  refine ct_region ?_
  (first | refine rs_ex rfl (by (first | (constructor <;> first | rfl | exact RdC.rd | exact inferInstance) | exact Ex.pickF rfl rfl | exact Ex.eqlS rfl rfl | exact Ex.neqS rfl rfl | exact Ex.eqlPN rfl rfl | exact Ex.neqPN rfl rfl | exact Ex.eqlSN rfl rfl | exact Ex.neqSN rfl rfl | exact Ex.lenStr rfl)) rfl ?_ | refine rs_skip rfl rfl ?_)
  refine rs_end ?_
  refine qe_then ?_
  refine ct_seq ?_
  refine ct_seq ?_
  refine ct_region ?_
  iterate 2 (first | refine rs_ex rfl (by (first | (constructor <;> first | rfl | exact RdC.rd | exact inferInstance) | exact Ex.pickF rfl rfl | exact Ex.eqlS rfl rfl | exact Ex.neqS rfl rfl | exact Ex.eqlPN rfl rfl | exact Ex.neqPN rfl rfl | exact Ex.eqlSN rfl rfl | exact Ex.neqSN rfl rfl | exact Ex.lenStr rfl)) rfl ?_ | refine rs_skip rfl rfl ?_)
  refine rs_end ?_
  refine qe_then ?_
  refine ct_cond rfl (fun h4 => by cases h4) (fun h4 => ?_)
  refine ct_skip ?_
  refine qe_then ?_
  refine ct_seq ?_
  refine ct_region ?_
  iterate 4 (first | refine rs_ex rfl (by (first | (constructor <;> first | rfl | exact RdC.rd | exact inferInstance) | exact Ex.pickF rfl rfl | exact Ex.eqlS rfl rfl | exact Ex.neqS rfl rfl | exact Ex.eqlPN rfl rfl | exact Ex.neqPN rfl rfl | exact Ex.eqlSN rfl rfl | exact Ex.neqSN rfl rfl | exact Ex.lenStr rfl)) rfl ?_ | refine rs_skip rfl rfl ?_)
  refine rs_op rfl rfl (opR_fn rfl (Call.heap (fun w h => by (first | exact h | exact h.sw1 | exact h.sw2 | exact h.sw3 | exact h.sw4 | exact h.sw5 | exact h.sw6 | exact h.sw7 | exact h.sw8 | exact h.pull2 | exact h.pull3 | exact h.pull4 | exact h.pull5 | exact h.fit)) ((Eras14_c W0 bf n l.f _ hok hn).mono ?_)))
  rintro v H' rfl
  (first | refine rs_ex rfl (by (first | (constructor <;> first | rfl | exact RdC.rd | exact inferInstance) | exact Ex.pickF rfl rfl | exact Ex.eqlS rfl rfl | exact Ex.neqS rfl rfl | exact Ex.eqlPN rfl rfl | exact Ex.neqPN rfl rfl | exact Ex.eqlSN rfl rfl | exact Ex.neqSN rfl rfl | exact Ex.lenStr rfl)) rfl ?_ | refine rs_skip rfl rfl ?_)
  refine rs_end ?_
  refine qe_then ?_
  refine ct_ret ?_
  exact qe_heap (fun w h => At.sw1 (LocC.shut (l := l) (bf := bf) (v1 := v1) (v2 := v2) (At.top [_, _, _, _, _] [2, 3, 4, 1, 0] h))) (ret1 rfl rfl rfl)
theorem Era_nil (W0 : World) (H : List Chunk) : Call Tryd.prog W0 33 [.pointer none] H (fun v H' => v = (⟨0, 0, 0⟩ : Era).v ∧ H' = H) := by
  refine call_enter Tryd.func33 rfl Tryd.ntmps33 rfl ?_

  refine ct_seq ?_
  refine ct_region ?_
  refine rs_op rfl rfl (opR_alloc fun b2 => ?_)
  refine rs_end ?_
  refine qe_then ?_
  refine ct_seq ?_
  refine ct_seq ?_
  refine ct_region ?_
  iterate 2 (first | refine rs_ex rfl (by (first | (constructor <;> first | rfl | exact RdC.rd | exact inferInstance) | exact Ex.pickF rfl rfl | exact Ex.eqlS rfl rfl | exact Ex.neqS rfl rfl | exact Ex.eqlPN rfl rfl | exact Ex.neqPN rfl rfl | exact Ex.eqlSN rfl rfl | exact Ex.neqSN rfl rfl | exact Ex.lenStr rfl)) rfl ?_ | refine rs_skip rfl rfl ?_)
  refine rs_end ?_
  refine qe_then ?_
  refine ct_cond rfl (fun h5 => ?_) (fun h5 => by cases h5)
  refine ct_seq ?_
  refine ct_region ?_
  refine rs_ex rfl (ex_build rfl) rfl ?_
  refine rs_opN rfl (opR_store rfl rfl rfl rfl ?_)
  refine rs_end ?_
  refine qe_then ?_
  refine ct_ret ?_
  exact retC (vs := [.int .u32 0, .int .i64 0, .int .i64 0]) rfl rfl rfl RdC.rd (fun j v e => by simpa using e) H (fun w h => h.fit) ⟨rfl, rfl⟩
theorem Era_c (W0 : World) (b n : Nat) (l : Loc) (H : List Chunk) (hok : l.f.Ok n) (hn : n ≤ 500) : Call Tryd.prog W0 33 [.pointer (some ⟨b, 0, none⟩)] (LocC b l :: H) (fun v H' => v = l.f.last.v ∧ H' = LocC b l :: H) := by
  have hlen := hok.len
  obtain ⟨z, hz⟩ := last_some hok.ne
  have hle := Fold.last_eq hz
  have hgt := last_get hz
  have hpos := List.length_pos_iff.2 hok.ne
  refine call_enter Tryd.func33 rfl Tryd.ntmps33 rfl ?_

  refine ct_seq ?_
  refine ct_region ?_
  refine rs_op rfl rfl (opR_alloc fun b2 => ?_)
  refine rs_end ?_
  refine qe_then ?_
  refine ct_seq ?_
  refine ct_seq ?_
  refine ct_region ?_
  iterate 2 (first | refine rs_ex rfl (by (first | (constructor <;> first | rfl | exact RdC.rd | exact inferInstance) | exact Ex.pickF rfl rfl | exact Ex.eqlS rfl rfl | exact Ex.neqS rfl rfl | exact Ex.eqlPN rfl rfl | exact Ex.neqPN rfl rfl | exact Ex.eqlSN rfl rfl | exact Ex.neqSN rfl rfl | exact Ex.lenStr rfl)) rfl ?_ | refine rs_skip rfl rfl ?_)
  refine rs_end ?_
  refine qe_then ?_
  refine ct_cond rfl (fun h5 => by cases h5) (fun h5 => ?_)
  refine ct_skip ?_
  refine qe_then ?_
  refine ct_seq ?_
  refine ct_region ?_
  (first | refine rs_ex rfl (by (first | (constructor <;> first | rfl | exact RdC.rd | exact inferInstance) | exact Ex.pickF rfl rfl | exact Ex.eqlS rfl rfl | exact Ex.neqS rfl rfl | exact Ex.eqlPN rfl rfl | exact Ex.neqPN rfl rfl | exact Ex.eqlSN rfl rfl | exact Ex.neqSN rfl rfl | exact Ex.lenStr rfl)) rfl ?_ | refine rs_skip rfl rfl ?_)
  refine rs_op rfl rfl (opR_fn rfl (Call.heap (fun w h => by (first | exact h | exact h.sw1 | exact h.sw2 | exact h.sw3 | exact h.sw4 | exact h.sw5 | exact h.sw6 | exact h.sw7 | exact h.sw8 | exact h.pull2 | exact h.pull3 | exact h.pull4 | exact h.pull5 | exact h.fit)) ((Eras15_c W0 b n l _ hok hn).mono ?_)))
  rintro v H' rfl
  (first | refine rs_ex rfl (by (first | (constructor <;> first | rfl | exact RdC.rd | exact inferInstance) | exact Ex.pickF rfl rfl | exact Ex.eqlS rfl rfl | exact Ex.neqS rfl rfl | exact Ex.eqlPN rfl rfl | exact Ex.neqPN rfl rfl | exact Ex.eqlSN rfl rfl | exact Ex.neqSN rfl rfl | exact Ex.lenStr rfl)) rfl ?_ | refine rs_skip rfl rfl ?_)
  refine rs_end ?_
  refine qe_then ?_
  refine ct_pr (fun w h => h.slv) ?_; rintro ⟨p, c, e, hv⟩
  subst e
  obtain ⟨b3, rfl⟩ := hv.some (i := l.f.eras.length - 1) (by omega)
  refine ct_seq ?_
  refine ct_region ?_
  iterate 4 (first | refine rs_ex rfl (by (first | (constructor <;> first | rfl | exact RdC.rd | exact inferInstance) | exact Ex.pickF rfl rfl | exact Ex.eqlS rfl rfl | exact Ex.neqS rfl rfl | exact Ex.eqlPN rfl rfl | exact Ex.neqPN rfl rfl | exact Ex.eqlSN rfl rfl | exact Ex.neqSN rfl rfl | exact Ex.lenStr rfl)) rfl ?_ | refine rs_skip rfl rfl ?_)
  refine rs_rw (by rw [wrap64 (by omega) (by omega), show ((l.f.eras.length : Int) - 1) = ((l.f.eras.length - 1 : Nat) : Int) by omega]) ?_
  refine rs_ex rfl (ex_indexAddr rfl rfl (by omega) (by omega)) rfl ?_
  refine rs_ex rfl (ex_loadEra z rfl (RdE.get hgt)) rfl ?_
  refine rs_opN rfl (opR_store rfl rfl rfl rfl ?_)
  refine rs_end ?_
  refine qe_then ?_
  refine ct_ret ?_
  exact retC (vs := [.int .u32 z.epoch, .int .i64 z.ver, .int .i64 z.start]) rfl rfl rfl RdC.rd (fun j v e => by simpa using e) (LocC b l :: H) (fun w h => h.fit) ⟨by rw [hle]; rfl, rfl⟩
end Go.Rost
/- One node's way through epochs: its state migrated; what it delivers, what it releases. -/
namespace Go.Rost
open Go Go.RowKit Go.Proofs

def Loc.migr (l : Loc) (ver : Int) (fails : Bool) : Loc × Bool :=
  if l.s.ver = ver then (l, true)
  else if fails = true ∨ (migV l.s ver).2 ≠ 0 ∨ (migV l.s ver).1 = .zero then (l, false)
  else ({ l with s := (migV l.s ver).1 }, true)
theorem Migrates15_c (W0 : World) (a : Addr) (hg : RdBlk (At W0 []) 0 #[errF a]) (b : Nat) (l : Loc) (ver : Int) (fails : Bool) (H : List Chunk) (hc : 0 ≤ l.s.cnt) :
    Call Tryd.prog W0 45 [.pointer (some ⟨b, 0, none⟩), .int .i64 ver, .bool fails] (LocC b l :: H) (fun v H' => v = .bool (l.migr ver fails).2 ∧ H' = LocC b (l.migr ver fails).1 :: H) := by
  refine Call.ex (fun w h => LocC.open h) ?_
  rintro ⟨bf, v1, v2⟩
  simp only
  refine call_enter Tryd.func45 rfl Tryd.ntmps45 rfl ?_

  refine ct_seq ?_
  refine ct_region ?_
  (first | refine rs_ex rfl (by (first | (constructor <;> first | rfl | exact RdC.rd | exact inferInstance) | exact Ex.pickF rfl rfl | exact Ex.eqlS rfl rfl | exact Ex.neqS rfl rfl | exact Ex.eqlPN rfl rfl | exact Ex.neqPN rfl rfl | exact Ex.eqlSN rfl rfl | exact Ex.neqSN rfl rfl | exact Ex.lenStr rfl)) rfl ?_ | refine rs_skip rfl rfl ?_)
  refine rs_end ?_
  refine qe_then ?_
  refine ct_seq ?_
  refine ct_seq ?_
  refine ct_region ?_
  iterate 7 (first | refine rs_ex rfl (by (first | (constructor <;> first | rfl | exact RdC.rd | exact inferInstance) | exact Ex.pickF rfl rfl | exact Ex.eqlS rfl rfl | exact Ex.neqS rfl rfl | exact Ex.eqlPN rfl rfl | exact Ex.neqPN rfl rfl | exact Ex.eqlSN rfl rfl | exact Ex.neqSN rfl rfl | exact Ex.lenStr rfl)) rfl ?_ | refine rs_skip rfl rfl ?_)
  refine rs_end ?_
  refine qe_then ?_
  refine ct_cond rfl (fun h16 => ?_) (fun h16 => ?_)
  · have he : l.s.ver = ver := by simpa using h16
    have hm : l.migr ver fails = (l, true) := by rw [Loc.migr, if_pos he]
    refine ct_seq ?_
    refine ct_region ?_
    (first | refine rs_ex rfl (by (first | (constructor <;> first | rfl | exact RdC.rd | exact inferInstance) | exact Ex.pickF rfl rfl | exact Ex.eqlS rfl rfl | exact Ex.neqS rfl rfl | exact Ex.eqlPN rfl rfl | exact Ex.neqPN rfl rfl | exact Ex.eqlSN rfl rfl | exact Ex.neqSN rfl rfl | exact Ex.lenStr rfl)) rfl ?_ | refine rs_skip rfl rfl ?_)
    refine rs_end ?_
    refine qe_then ?_
    refine ct_ret ?_
    exact qe_heap (fun w h => LocC.shut (l := l) h) (ret1 rfl rfl ⟨by rw [hm], by rw [hm]⟩)
  · have he : l.s.ver ≠ ver := by simpa using h16
    refine ct_skip ?_
    refine qe_then ?_
    refine ct_seq ?_
    refine ct_region ?_
    iterate 5 (first | refine rs_ex rfl (by (first | (constructor <;> first | rfl | exact RdC.rd | exact inferInstance) | exact Ex.pickF rfl rfl | exact Ex.eqlS rfl rfl | exact Ex.neqS rfl rfl | exact Ex.eqlPN rfl rfl | exact Ex.neqPN rfl rfl | exact Ex.eqlSN rfl rfl | exact Ex.neqSN rfl rfl | exact Ex.lenStr rfl)) rfl ?_ | refine rs_skip rfl rfl ?_)
    refine rs_op rfl rfl (opR_fn rfl (Call.heap (fun w h => by (first | exact h | exact h.sw1 | exact h.sw2 | exact h.sw3 | exact h.sw4 | exact h.sw5 | exact h.sw6 | exact h.sw7 | exact h.sw8 | exact h.pull2 | exact h.pull3 | exact h.pull4 | exact h.pull5 | exact h.fit)) ((Migrate_c W0 a hg l.s ver _ hc).mono ?_)))
    rintro v H' ⟨rfl, rfl⟩
    iterate 3 (first | refine rs_ex rfl (by (first | (constructor <;> first | rfl | exact RdC.rd | exact inferInstance) | exact Ex.pickF rfl rfl | exact Ex.eqlS rfl rfl | exact Ex.neqS rfl rfl | exact Ex.eqlPN rfl rfl | exact Ex.neqPN rfl rfl | exact Ex.eqlSN rfl rfl | exact Ex.neqSN rfl rfl | exact Ex.lenStr rfl)) rfl ?_ | refine rs_skip rfl rfl ?_)
    refine rs_op rfl rfl (opR_alloc fun b7 => ?_)
    refine rs_opN rfl (opR_store rfl rfl rfl rfl ?_)
    (first | refine rs_ex rfl (by (first | (constructor <;> first | rfl | exact RdC.rd | exact inferInstance) | exact Ex.pickF rfl rfl | exact Ex.eqlS rfl rfl | exact Ex.neqS rfl rfl | exact Ex.eqlPN rfl rfl | exact Ex.neqPN rfl rfl | exact Ex.eqlSN rfl rfl | exact Ex.neqSN rfl rfl | exact Ex.lenStr rfl)) rfl ?_ | refine rs_skip rfl rfl ?_)
    refine rs_end ?_
    refine qe_then ?_
    refine ct_seq ?_
    refine ct_seq ?_
    refine ct_region ?_
    refine rs_ex rfl (ex_build rfl) rfl ?_
    refine rs_op rfl rfl (opR_alloc fun b9 => ?_)
    refine rs_opN rfl (opR_store rfl rfl rfl rfl ?_)
    refine rs_end ?_
    refine qe_then ?_
    refine ct_seq ?_
    refine ct_region ?_
    iterate 2 (first | refine rs_ex rfl (by (first | (constructor <;> first | rfl | exact RdC.rd | exact inferInstance) | exact Ex.pickF rfl rfl | exact Ex.eqlS rfl rfl | exact Ex.neqS rfl rfl | exact Ex.eqlPN rfl rfl | exact Ex.neqPN rfl rfl | exact Ex.eqlSN rfl rfl | exact Ex.neqSN rfl rfl | exact Ex.lenStr rfl)) rfl ?_ | refine rs_skip rfl rfl ?_)
    refine rs_split (fun h28 => ?_) (fun h28 => ?_)
    · iterate 8 (first | refine rs_ex rfl (by (first | (constructor <;> first | rfl | exact RdC.rd | exact inferInstance) | exact Ex.pickF rfl rfl | exact Ex.eqlS rfl rfl | exact Ex.neqS rfl rfl | exact Ex.eqlPN rfl rfl | exact Ex.neqPN rfl rfl | exact Ex.eqlSN rfl rfl | exact Ex.neqSN rfl rfl | exact Ex.lenStr rfl)) rfl ?_ | refine rs_skip rfl rfl ?_)
      refine rs_end ?_
      refine qe_then ?_
      refine ct_cond rfl (fun _ => ?_) (fun h => absurd h (by decide))
      refine ct_seq ?_
      refine ct_region ?_
      (first | refine rs_ex rfl (by (first | (constructor <;> first | rfl | exact RdC.rd | exact inferInstance) | exact Ex.pickF rfl rfl | exact Ex.eqlS rfl rfl | exact Ex.neqS rfl rfl | exact Ex.eqlPN rfl rfl | exact Ex.neqPN rfl rfl | exact Ex.eqlSN rfl rfl | exact Ex.neqSN rfl rfl | exact Ex.lenStr rfl)) rfl ?_ | refine rs_skip rfl rfl ?_)
      refine rs_end ?_
      refine qe_then ?_
      refine ct_ret ?_
      have hm : l.migr ver fails = (l, false) := by
        rw [Loc.migr, if_neg he, if_pos (by first | exact .inl h28 | exact .inr (.inl (by simpa using h32)) | exact .inr (.inr (by simpa using h36)))]
      exact qe_heap (H' := LocC b l :: H) (fun w h => LocC.shut (l := l) (At.top [_, _, _, _, _, _] [2, 3, 4, 5] h)) (ret1 rfl rfl ⟨by rw [hm], by rw [hm]⟩)
    · iterate 4 (first | refine rs_ex rfl (by (first | (constructor <;> first | rfl | exact RdC.rd | exact inferInstance) | exact Ex.pickF rfl rfl | exact Ex.eqlS rfl rfl | exact Ex.neqS rfl rfl | exact Ex.eqlPN rfl rfl | exact Ex.neqPN rfl rfl | exact Ex.eqlSN rfl rfl | exact Ex.neqSN rfl rfl | exact Ex.lenStr rfl)) rfl ?_ | refine rs_skip rfl rfl ?_)
      refine rs_split (fun h32 => ?_) (fun h32 => ?_)
      · iterate 4 (first | refine rs_ex rfl (by (first | (constructor <;> first | rfl | exact RdC.rd | exact inferInstance) | exact Ex.pickF rfl rfl | exact Ex.eqlS rfl rfl | exact Ex.neqS rfl rfl | exact Ex.eqlPN rfl rfl | exact Ex.neqPN rfl rfl | exact Ex.eqlSN rfl rfl | exact Ex.neqSN rfl rfl | exact Ex.lenStr rfl)) rfl ?_ | refine rs_skip rfl rfl ?_)
        refine rs_end ?_
        refine qe_then ?_
        refine ct_cond rfl (fun _ => ?_) (fun h => absurd h (by decide))
        refine ct_seq ?_
        refine ct_region ?_
        (first | refine rs_ex rfl (by (first | (constructor <;> first | rfl | exact RdC.rd | exact inferInstance) | exact Ex.pickF rfl rfl | exact Ex.eqlS rfl rfl | exact Ex.neqS rfl rfl | exact Ex.eqlPN rfl rfl | exact Ex.neqPN rfl rfl | exact Ex.eqlSN rfl rfl | exact Ex.neqSN rfl rfl | exact Ex.lenStr rfl)) rfl ?_ | refine rs_skip rfl rfl ?_)
        refine rs_end ?_
        refine qe_then ?_
        refine ct_ret ?_
        have hm : l.migr ver fails = (l, false) := by
          rw [Loc.migr, if_neg he, if_pos (by first | exact .inl h28 | exact .inr (.inl (by simpa using h32)) | exact .inr (.inr (by simpa using h36)))]
        exact qe_heap (H' := LocC b l :: H) (fun w h => LocC.shut (l := l) (At.top [_, _, _, _, _, _] [2, 3, 4, 5] h)) (ret1 rfl rfl ⟨by rw [hm], by rw [hm]⟩)
      · iterate 2 (first | refine rs_ex rfl (by (first | (constructor <;> first | rfl | exact RdC.rd | exact inferInstance) | exact Ex.pickF rfl rfl | exact Ex.eqlS rfl rfl | exact Ex.neqS rfl rfl | exact Ex.eqlPN rfl rfl | exact Ex.neqPN rfl rfl | exact Ex.eqlSN rfl rfl | exact Ex.neqSN rfl rfl | exact Ex.lenStr rfl)) rfl ?_ | refine rs_skip rfl rfl ?_)
        refine rs_ex rfl (ex_eqSta (migV l.s ver).1 .zero rfl rfl) rfl ?_
        (first | refine rs_ex rfl (by (first | (constructor <;> first | rfl | exact RdC.rd | exact inferInstance) | exact Ex.pickF rfl rfl | exact Ex.eqlS rfl rfl | exact Ex.neqS rfl rfl | exact Ex.eqlPN rfl rfl | exact Ex.neqPN rfl rfl | exact Ex.eqlSN rfl rfl | exact Ex.neqSN rfl rfl | exact Ex.lenStr rfl)) rfl ?_ | refine rs_skip rfl rfl ?_)
        refine rs_end ?_
        refine qe_then ?_
        refine ct_cond rfl (fun h36 => ?_) (fun h36 => ?_)
        · refine ct_seq ?_
          refine ct_region ?_
          (first | refine rs_ex rfl (by (first | (constructor <;> first | rfl | exact RdC.rd | exact inferInstance) | exact Ex.pickF rfl rfl | exact Ex.eqlS rfl rfl | exact Ex.neqS rfl rfl | exact Ex.eqlPN rfl rfl | exact Ex.neqPN rfl rfl | exact Ex.eqlSN rfl rfl | exact Ex.neqSN rfl rfl | exact Ex.lenStr rfl)) rfl ?_ | refine rs_skip rfl rfl ?_)
          refine rs_end ?_
          refine qe_then ?_
          refine ct_ret ?_
          have hm : l.migr ver fails = (l, false) := by
            rw [Loc.migr, if_neg he, if_pos (by first | exact .inl h28 | exact .inr (.inl (by simpa using h32)) | exact .inr (.inr (by simpa using h36)))]
          exact qe_heap (H' := LocC b l :: H) (fun w h => LocC.shut (l := l) (At.top [_, _, _, _, _, _] [2, 3, 4, 5] h)) (ret1 rfl rfl ⟨by rw [hm], by rw [hm]⟩)
        · have hm : l.migr ver fails = ({ l with s := (migV l.s ver).1 }, true) := by
            rw [Loc.migr, if_neg he, if_neg]
            rintro (h | h | h)
            · rw [h28] at h; cases h
            · simp at h32; exact h h32
            · simp [h] at h36
          refine ct_skip ?_
          refine qe_then ?_
          refine ct_seq ?_
          refine ct_region ?_
          iterate 4 (first | refine rs_ex rfl (by (first | (constructor <;> first | rfl | exact RdC.rd | exact inferInstance) | exact Ex.pickF rfl rfl | exact Ex.eqlS rfl rfl | exact Ex.neqS rfl rfl | exact Ex.eqlPN rfl rfl | exact Ex.neqPN rfl rfl | exact Ex.eqlSN rfl rfl | exact Ex.neqSN rfl rfl | exact Ex.lenStr rfl)) rfl ?_ | refine rs_skip rfl rfl ?_)
          refine rs_opN rfl (opR_store rfl rfl rfl rfl ?_)
          refine rs_end ?_
          refine qe_then ?_
          refine ct_seq ?_
          refine ct_region ?_
          (first | refine rs_ex rfl (by (first | (constructor <;> first | rfl | exact RdC.rd | exact inferInstance) | exact Ex.pickF rfl rfl | exact Ex.eqlS rfl rfl | exact Ex.neqS rfl rfl | exact Ex.eqlPN rfl rfl | exact Ex.neqPN rfl rfl | exact Ex.eqlSN rfl rfl | exact Ex.neqSN rfl rfl | exact Ex.lenStr rfl)) rfl ?_ | refine rs_skip rfl rfl ?_)
          refine rs_end ?_
          refine qe_then ?_
          refine ct_ret ?_
          exact qe_heap (H' := LocC b { l with s := (migV l.s ver).1 } :: H) (fun w h => LocC.shut (l := { l with s := (migV l.s ver).1 }) (At.top [_, _, _, _, _, _] [2, 3, 4, 5] h)) (ret1 rfl rfl ⟨by rw [hm], by rw [hm]⟩)
theorem Delivers15_c (W0 : World) (b : Nat) (l : Loc) (p : Option Addr) (c : Nat) (more : List Msg) (H : List Chunk) (hr : SlR (At W0 H) p more) (hl : l.log.length + more.length ≤ 1000000) :
    Call Tryd.prog W0 46 [.pointer (some ⟨b, 0, none⟩), .slice p more.length c] (LocC b l :: H) (fun v H' => v = .slice p more.length c ∧ H' = LocC b { l with log := l.log ++ more } :: H) := by
  refine Call.ex (fun w h => LocC.open h) ?_
  rintro ⟨bf, v1, v2⟩
  simp only
  refine call_enter Tryd.func46 rfl Tryd.ntmps46 rfl ?_

  refine ct_seq ?_
  refine ct_region ?_
  (first | refine rs_ex rfl (by (first | (constructor <;> first | rfl | exact RdC.rd | exact inferInstance) | exact Ex.pickF rfl rfl | exact Ex.eqlS rfl rfl | exact Ex.neqS rfl rfl | exact Ex.eqlPN rfl rfl | exact Ex.neqPN rfl rfl | exact Ex.eqlSN rfl rfl | exact Ex.neqSN rfl rfl | exact Ex.lenStr rfl)) rfl ?_ | refine rs_skip rfl rfl ?_)
  refine rs_end ?_
  refine qe_then ?_
  refine ct_seq ?_
  refine ct_region ?_
  iterate 6 (first | refine rs_ex rfl (by (first | (constructor <;> first | rfl | exact RdC.rd | exact inferInstance) | exact Ex.pickF rfl rfl | exact Ex.eqlS rfl rfl | exact Ex.neqS rfl rfl | exact Ex.eqlPN rfl rfl | exact Ex.neqPN rfl rfl | exact Ex.eqlSN rfl rfl | exact Ex.neqSN rfl rfl | exact Ex.lenStr rfl)) rfl ?_ | refine rs_skip rfl rfl ?_)
  refine rs_op rfl rfl (opR_append more rfl rfl (hr.mono fun w h => h.drop.drop.drop.drop) rfl (by omega) rfl fun p3 c3 hv3 => ?_)
  iterate 2 (first | refine rs_ex rfl (by (first | (constructor <;> first | rfl | exact RdC.rd | exact inferInstance) | exact Ex.pickF rfl rfl | exact Ex.eqlS rfl rfl | exact Ex.neqS rfl rfl | exact Ex.eqlPN rfl rfl | exact Ex.neqPN rfl rfl | exact Ex.eqlSN rfl rfl | exact Ex.neqSN rfl rfl | exact Ex.lenStr rfl)) rfl ?_ | refine rs_skip rfl rfl ?_)
  refine rs_opN rfl (opR_store rfl rfl rfl rfl ?_)
  refine rs_end ?_
  refine qe_then ?_
  refine ct_seq ?_
  refine ct_region ?_
  iterate 2 (first | refine rs_ex rfl (by (first | (constructor <;> first | rfl | exact RdC.rd | exact inferInstance) | exact Ex.pickF rfl rfl | exact Ex.eqlS rfl rfl | exact Ex.neqS rfl rfl | exact Ex.eqlPN rfl rfl | exact Ex.neqPN rfl rfl | exact Ex.eqlSN rfl rfl | exact Ex.neqSN rfl rfl | exact Ex.lenStr rfl)) rfl ?_ | refine rs_skip rfl rfl ?_)
  refine rs_end ?_
  refine qe_then ?_
  refine ct_ret ?_
  exact qe_heap (fun w h => LocC.shut (l := { l with log := l.log ++ more }) h) (ret1 rfl rfl ⟨rfl, rfl⟩)
def encM (x : Msg) : List Value := [x.v]
theorem ValM_c (W0 : World) (p : Option Addr) (n c : Nat) (H : List Chunk) : Call Tryd.prog W0 69 [.slice p n c] H (fun u H' => ∃ b, u = .func (.func 77) #[] #[.pointer (some ⟨b, 0, none⟩)] ∧ H' = Blk b (.cells #[.slice p n c] 44 (0, 0)) :: H) := by
  refine call_enter Tryd.func69 rfl Tryd.ntmps69 rfl ?_

  refine ct_seq ?_
  refine ct_region ?_
  refine rs_op rfl rfl (opR_box rfl fun b1 => ?_)
  (first | refine rs_ex rfl (by (first | (constructor <;> first | rfl | exact RdC.rd | exact inferInstance) | exact Ex.pickF rfl rfl | exact Ex.eqlS rfl rfl | exact Ex.neqS rfl rfl | exact Ex.eqlPN rfl rfl | exact Ex.neqPN rfl rfl | exact Ex.eqlSN rfl rfl | exact Ex.neqSN rfl rfl | exact Ex.lenStr rfl)) rfl ?_ | refine rs_skip rfl rfl ?_)
  refine rs_end ?_
  refine qe_then ?_
  refine ct_seq ?_
  refine ct_region ?_
  iterate 2 (first | refine rs_ex rfl (by (first | (constructor <;> first | rfl | exact RdC.rd | exact inferInstance) | exact Ex.pickF rfl rfl | exact Ex.eqlS rfl rfl | exact Ex.neqS rfl rfl | exact Ex.eqlPN rfl rfl | exact Ex.neqPN rfl rfl | exact Ex.eqlSN rfl rfl | exact Ex.neqSN rfl rfl | exact Ex.lenStr rfl)) rfl ?_ | refine rs_skip rfl rfl ?_)
  refine rs_end ?_
  refine qe_then ?_
  refine ct_ret ?_
  exact ret1 rfl rfl ⟨_, rfl, rfl⟩
/-- What a range over an owned slice reads. -/
def valIt (bs : Nat) (p : Option Addr) (c : Nat) (l : List Msg) : Chunk := Star [Blk bs (.cells #[.slice p l.length c] 44 (0, 0)), SlT 80 (.slice p l.length c) l]
theorem ValMO1_c (W0 : World) {ζ : Type} (y : Value) (gc : ζ → Option Code → Chunk) (step : ζ → Msg → ζ × Option Code) (J : ζ → List Msg → Prop) (z0 : ζ) (bs c : Nat) (p : Option Addr) (l : List Msg) (T : List Chunk)
    (hy : Yields Tryd.prog W0 y encM gc step J) (h0 : J z0 l) (hv : SlV p c l) (hl : l.length ≤ 100000) :
    Call Tryd.prog W0 77 [y, .pointer (some ⟨bs, 0, none⟩)] (valIt bs p c l :: gc z0 none :: T)
      (fun _ H' => ∃ xs it', xs = l ∧ H' = it' :: gc (runs step z0 xs).1 (runs step z0 xs).2 :: T) := by
  refine Call.heap (H' := Blk bs (.cells #[.slice p l.length c] 44 (0, 0)) :: SlT 80 (.slice p l.length c) l :: gc z0 none :: T) (fun w h => At.star.1 h) ?_
  refine call_enter Tryd.func77 rfl Tryd.ntmps77 rfl ?_

  refine ct_seq ?_
  refine ct_region ?_
  iterate 3 (first | refine rs_ex rfl (by (first | (constructor <;> first | rfl | exact RdC.rd | exact inferInstance) | exact Ex.pickF rfl rfl | exact Ex.eqlS rfl rfl | exact Ex.neqS rfl rfl | exact Ex.eqlPN rfl rfl | exact Ex.neqPN rfl rfl | exact Ex.eqlSN rfl rfl | exact Ex.neqSN rfl rfl | exact Ex.lenStr rfl)) rfl ?_ | refine rs_skip rfl rfl ?_)
  refine rs_end ?_
  refine qe_then ?_
  refine ct_block ?_
  refine ct_loopc (ζ := Nat × ζ) (fun q => J q.2 (l.drop q.1) ∧ q.1 ≤ l.length ∧ runs step q.2 (l.drop q.1) = runs step z0 l) [(0, _), (5, _), (6, _)] (fun q => [(7, .int .i64 (q.1 : Int))]) (fun q => Blk bs (.cells #[.slice p l.length c] 44 (0, 0)) :: SlT 80 (.slice p l.length c) l :: gc q.2 none :: T) (fun q => l.length - q.1) ((0, z0)) (⟨h0, Nat.zero_le _, rfl⟩) ⟨rfl, rfl, rfl, rfl, trivial⟩ (fun w h => by first | exact h.fit | exact h) ?_
  rintro ⟨i, z⟩ ⟨hz, hi, hruns⟩
  simp only at hz hi hruns ⊢
  refine ct_seq ?_
  refine ct_region ?_
  (first | refine rs_ex rfl (by (first | (constructor <;> first | rfl | exact RdC.rd | exact inferInstance) | exact Ex.pickF rfl rfl | exact Ex.eqlS rfl rfl | exact Ex.neqS rfl rfl | exact Ex.eqlPN rfl rfl | exact Ex.neqPN rfl rfl | exact Ex.eqlSN rfl rfl | exact Ex.neqSN rfl rfl | exact Ex.lenStr rfl)) rfl ?_ | refine rs_skip rfl rfl ?_)
  refine rs_end ?_
  refine qe_then ?_
  refine ct_seq ?_
  refine ct_cond rfl (fun h8 => ?_) (fun h8 => ?_)
  · have hi1 : i < l.length := by simp at h8; exact h8
    obtain ⟨b1, rfl⟩ := hv.some hi1
    obtain ⟨x, hx⟩ : ∃ x, x = l[i] := ⟨_, rfl⟩
    have hx' : l[i]? = some x := by rw [hx]; exact List.getElem?_eq_getElem hi1
    rw [List.drop_eq_getElem_cons hi1, ← hx] at hruns hz
    refine ct_skip ?_
    refine qe_then ?_
    refine ct_seq ?_
    refine ct_block ?_
    refine ct_seq ?_
    refine ct_region ?_
    refine rs_ex rfl (ex_indexAddr rfl rfl (by omega) (by omega)) rfl ?_
    refine rs_ex rfl (ex_loadMsg x rfl (RdE.get hx')) rfl ?_
    refine rs_op rfl rfl (opR_alloc fun b4 => ?_)
    refine rs_opN rfl (opR_store rfl rfl rfl rfl ?_)
    refine rs_end ?_
    refine qe_then ?_
    refine ct_seq ?_
    refine ct_region ?_
    iterate 2 (first | refine rs_ex rfl (by (first | (constructor <;> first | rfl | exact RdC.rd | exact inferInstance) | exact Ex.pickF rfl rfl | exact Ex.eqlS rfl rfl | exact Ex.neqS rfl rfl | exact Ex.eqlPN rfl rfl | exact Ex.neqPN rfl rfl | exact Ex.eqlSN rfl rfl | exact Ex.neqSN rfl rfl | exact Ex.lenStr rfl)) rfl ?_ | refine rs_skip rfl rfl ?_)
    have hcall := hy.call z x _ (Blk b4 (.cells #[.int .i64 x.id.from_, .int .u32 x.id.count, .string x.data] 80 (0, 0)) :: Blk bs (.cells #[.slice (some ⟨b1, 0, none⟩) l.length c] 44 (0, 0)) :: SlT 80 (.slice (some ⟨b1, 0, none⟩) l.length c) l :: T) hz
    refine rs_op rfl rfl (opR_callV rfl rfl (CallV.heap (fun w h => At.top [_, _, _, _] [3, 0, 1, 2] h) (hcall.mono ?_)))
    rintro v H' ⟨rfl, rfl⟩
    (first | refine rs_ex rfl (by (first | (constructor <;> first | rfl | exact RdC.rd | exact inferInstance) | exact Ex.pickF rfl rfl | exact Ex.eqlS rfl rfl | exact Ex.neqS rfl rfl | exact Ex.eqlPN rfl rfl | exact Ex.neqPN rfl rfl | exact Ex.eqlSN rfl rfl | exact Ex.neqSN rfl rfl | exact Ex.lenStr rfl)) rfl ?_ | refine rs_skip rfl rfl ?_)
    refine rs_end ?_
    refine qe_then ?_
    refine ct_cond rfl (fun h14 => ?_) (fun h14 => ?_)
    · obtain ⟨j, hj⟩ : ∃ j, (step z x).2 = some j := by
        cases hj : (step z x).2 with
        | none => rw [hj] at h14; cases h14
        | some j => exact ⟨j, rfl⟩
      refine ct_ret ?_
      exact qe_heap (H' := valIt bs (some ⟨b1, 0, none⟩) c l :: gc (step z x).1 (step z x).2 :: T) (fun w h => At.star.2 (At.top [_, _, _, _] [2, 3, 0] h)) (ret0 rfl ⟨l, valIt bs (some ⟨b1, 0, none⟩) c l, rfl, by rw [← hruns, runs, hj]⟩)
    · have hj : (step z x).2 = none := by
        cases hj : (step z x).2 with
        | none => rfl
        | some j => rw [hj] at h14; cases h14
      rw [hj]
      refine ct_skip ?_
      refine qe_block 1 ?_
      refine qe_then ?_
      refine ct_region ?_
      (first | refine rs_ex rfl (by (first | (constructor <;> first | rfl | exact RdC.rd | exact inferInstance) | exact Ex.pickF rfl rfl | exact Ex.eqlS rfl rfl | exact Ex.neqS rfl rfl | exact Ex.eqlPN rfl rfl | exact Ex.neqPN rfl rfl | exact Ex.eqlSN rfl rfl | exact Ex.neqSN rfl rfl | exact Ex.lenStr rfl)) rfl ?_ | refine rs_skip rfl rfl ?_)
      refine rs_rw (by rw [wrapS (by omega)]) ?_
      (first | refine rs_ex rfl (by (first | (constructor <;> first | rfl | exact RdC.rd | exact inferInstance) | exact Ex.pickF rfl rfl | exact Ex.eqlS rfl rfl | exact Ex.neqS rfl rfl | exact Ex.eqlPN rfl rfl | exact Ex.neqPN rfl rfl | exact Ex.eqlSN rfl rfl | exact Ex.neqSN rfl rfl | exact Ex.lenStr rfl)) rfl ?_ | refine rs_skip rfl rfl ?_)
      refine rs_end ?_
      refine qe_loopc ((i + 1, (step z x).1)) (⟨hy.keeps _ _ _ hz hj, by simp only; omega, by rw [← hruns, runs, hj]⟩) (by first | omega | (simp only; omega)) ⟨rfl, rfl, rfl, rfl, trivial⟩ (fun w h => At.top [_, _, _, _] [2, 3, 0] h)
  · have e : i = l.length := by simp at h8; omega
    subst e
    rw [List.drop_length] at hruns
    refine ct_exit ?_
    refine qe_then_exit ?_
    refine qe_loop_exit ?_
    refine qe_block_exit ?_
    refine qe_end ?_
    exact qe_heap (H' := valIt bs p c l :: gc z none :: T) (fun w h => At.star.2 h) (ret0 rfl ⟨l, valIt bs p c l, rfl, by rw [← hruns]; rfl⟩)
theorem Releases_c (W0 : World) (b : Nat) (l : Loc) (H : List Chunk) :
    Call Tryd.prog W0 47 [.pointer (some ⟨b, 0, none⟩)] (LocC b l :: H)
      (fun v H' => ∃ bs q c, v = .func (.func 77) #[] #[.pointer (some ⟨bs, 0, none⟩)] ∧ SlV q c l.held ∧ H' = valIt bs q c l.held :: LocC b { l with held := [] } :: H) := by
  refine Call.ex (fun w h => LocC.open h) ?_
  rintro ⟨bf, v1, v2⟩
  simp only
  refine Call.pr (fun w h => h.drop.slv) ?_
  rintro ⟨q, d, rfl, hv⟩
  refine call_enter Tryd.func47 rfl Tryd.ntmps47 rfl ?_

  refine ct_seq ?_
  refine ct_region ?_
  (first | refine rs_ex rfl (by (first | (constructor <;> first | rfl | exact RdC.rd | exact inferInstance) | exact Ex.pickF rfl rfl | exact Ex.eqlS rfl rfl | exact Ex.neqS rfl rfl | exact Ex.eqlPN rfl rfl | exact Ex.neqPN rfl rfl | exact Ex.eqlSN rfl rfl | exact Ex.neqSN rfl rfl | exact Ex.lenStr rfl)) rfl ?_ | refine rs_skip rfl rfl ?_)
  refine rs_end ?_
  refine qe_then ?_
  refine ct_seq ?_
  refine ct_region ?_
  iterate 5 (first | refine rs_ex rfl (by (first | (constructor <;> first | rfl | exact RdC.rd | exact inferInstance) | exact Ex.pickF rfl rfl | exact Ex.eqlS rfl rfl | exact Ex.neqS rfl rfl | exact Ex.eqlPN rfl rfl | exact Ex.neqPN rfl rfl | exact Ex.eqlSN rfl rfl | exact Ex.neqSN rfl rfl | exact Ex.lenStr rfl)) rfl ?_ | refine rs_skip rfl rfl ?_)
  refine rs_end ?_
  refine qe_then ?_
  refine ct_seq ?_
  refine ct_region ?_
  iterate 3 (first | refine rs_ex rfl (by (first | (constructor <;> first | rfl | exact RdC.rd | exact inferInstance) | exact Ex.pickF rfl rfl | exact Ex.eqlS rfl rfl | exact Ex.neqS rfl rfl | exact Ex.eqlPN rfl rfl | exact Ex.neqPN rfl rfl | exact Ex.eqlSN rfl rfl | exact Ex.neqSN rfl rfl | exact Ex.lenStr rfl)) rfl ?_ | refine rs_skip rfl rfl ?_)
  refine rs_opN rfl (opR_store rfl rfl rfl rfl ?_)
  refine rs_end ?_
  refine qe_then ?_
  refine ct_seq ?_
  refine ct_region ?_
  (first | refine rs_ex rfl (by (first | (constructor <;> first | rfl | exact RdC.rd | exact inferInstance) | exact Ex.pickF rfl rfl | exact Ex.eqlS rfl rfl | exact Ex.neqS rfl rfl | exact Ex.eqlPN rfl rfl | exact Ex.neqPN rfl rfl | exact Ex.eqlSN rfl rfl | exact Ex.neqSN rfl rfl | exact Ex.lenStr rfl)) rfl ?_ | refine rs_skip rfl rfl ?_)
  refine rs_op rfl rfl (opR_fn rfl (Call.heap (fun w h => by (first | exact h | exact h.sw1 | exact h.sw2 | exact h.sw3 | exact h.sw4 | exact h.sw5 | exact h.sw6 | exact h.sw7 | exact h.sw8 | exact h.pull2 | exact h.pull3 | exact h.pull4 | exact h.pull5 | exact h.fit)) ((ValM_c W0 q l.held.length d _).mono ?_)))
  rintro v H' ⟨bs, rfl, rfl⟩
  (first | refine rs_ex rfl (by (first | (constructor <;> first | rfl | exact RdC.rd | exact inferInstance) | exact Ex.pickF rfl rfl | exact Ex.eqlS rfl rfl | exact Ex.neqS rfl rfl | exact Ex.eqlPN rfl rfl | exact Ex.neqPN rfl rfl | exact Ex.eqlSN rfl rfl | exact Ex.neqSN rfl rfl | exact Ex.lenStr rfl)) rfl ?_ | refine rs_skip rfl rfl ?_)
  refine rs_end ?_
  refine qe_then ?_
  refine ct_ret ?_
  exact qe_heap (H' := valIt bs q d l.held :: LocC b { l with held := [] } :: H) (fun w h => At.star.2 (show At W0 ([_, _] ++ _) w from At.top [_, _, _] [1, 2, 0] (LocC.shut (l := { l with held := [] }) (v1 := .slice none 0 0) (At.top [_, _, _, _, _, _] [1, 0, 2, 3, 4, 5] (At.slt_nil (α := Msg) 80 (At.top [_, _, _, _, _] [1, 3, 4, 0, 2] h)))))) (ret1 rfl rfl ⟨bs, q, d, rfl, hv, rfl⟩)
end Go.Rost
/- One node's way through epochs: an entry is applied. -/
namespace Go.Rost
open Go Go.RowKit Go.Proofs

def Loc.mid1 (l : Loc) (e : Ent) : Loc := { l with f := (l.f.apply e).2, held := if l.blk = true then l.held ++ (l.f.apply e).1.1 else l.held }
def Loc.out1 (l : Loc) (e : Ent) : List Msg := if l.blk = true then [] else (l.f.apply e).1.1
def Loc.mid2 (l : Loc) (e : Ent) (fails : Bool) : Loc :=
  if (l.f.apply e).1.2.1 = true then { ((l.mid1 e).migr (l.mid1 e).f.last.ver fails).1 with blk := !((l.mid1 e).migr (l.mid1 e).f.last.ver fails).2 } else l.mid1 e
def Loc.mid3 (l : Loc) (e : Ent) (fails : Bool) : Loc := { l.mid2 e fails with log := (l.mid2 e fails).log ++ l.out1 e }
def Loc.apply (l : Loc) (e : Ent) (fails : Bool) : (List Msg × Int) × Loc :=
  if (l.f.apply e).1.2.2 ≠ 0 then (([], (l.f.apply e).1.2.2), { l with f := (l.f.apply e).2 })
  else if (l.mid3 e fails).blk = true then ((l.out1 e, 0), l.mid3 e fails)
  else ((l.out1 e ++ (l.mid3 e fails).held, 0), { l.mid3 e fails with log := (l.mid3 e fails).log ++ (l.mid3 e fails).held, held := [] })
structure Loc.Ok (l : Loc) (n : Nat) : Prop where
  fok : l.f.Ok n
  all : l.log ++ l.held = l.f.book.log
  dry : l.blk = false → l.held = []
  cnt : 0 ≤ l.s.cnt
theorem migr_same (l : Loc) (v : Int) (fails : Bool) : (l.migr v fails).1.f = l.f ∧ (l.migr v fails).1.held = l.held ∧ (l.migr v fails).1.log = l.log ∧ (l.migr v fails).1.blk = l.blk ∧ (0 ≤ l.s.cnt → 0 ≤ (l.migr v fails).1.s.cnt) := by
  unfold Loc.migr
  split
  · exact ⟨rfl, rfl, rfl, rfl, fun h => h⟩
  · split
    · exact ⟨rfl, rfl, rfl, rfl, fun h => h⟩
    · rename_i h1 h2
      refine ⟨rfl, rfl, rfl, rfl, fun h => ?_⟩
      have h0 : (migV l.s v).2 = 0 := Classical.byContradiction fun hc => h2 (.inr (.inl hc))
      show 0 ≤ (migV l.s v).1.cnt
      rw [(mig_back h0).2.2.2.2.1]
      exact h
theorem apply_wrong {f : Fold} {e : Ent} (h : (f.apply e).1.2.2 ≠ 0) : (f.apply e).2 = f ∧ (f.apply e).1.1 = [] := by
  unfold Fold.apply at h ⊢
  split
  · exact ⟨rfl, rfl⟩
  · rename_i hb
    rw [if_neg hb] at h
    split at h <;> exact absurd rfl h
theorem mid2_f (l : Loc) (e : Ent) (fails : Bool) : (l.mid2 e fails).f = (l.f.apply e).2 ∧ (l.mid2 e fails).held = (l.mid1 e).held ∧ (l.mid2 e fails).log = l.log ∧ (0 ≤ l.s.cnt → 0 ≤ (l.mid2 e fails).s.cnt) := by
  unfold Loc.mid2
  split
  · have h := migr_same (l.mid1 e) (l.mid1 e).f.last.ver fails
    exact ⟨h.1, h.2.1, h.2.2.1, fun hc => h.2.2.2.2 hc⟩
  · exact ⟨rfl, rfl, rfl, fun h => h⟩
/-- All that a node has delivered and holds is what its fold has delivered. -/
theorem mid3_all {l : Loc} {n : Nat} (h : l.Ok n) (hn : n ≤ 500) (e : Ent) (fails : Bool) : (l.mid3 e fails).log ++ (l.mid3 e fails).held = (l.f.apply e).2.book.log := by
  have h2 := mid2_f l e fails
  have ho := (apply_out h.fok hn e).1
  show ((l.mid2 e fails).log ++ l.out1 e) ++ (l.mid2 e fails).held = _
  rw [h2.2.1, h2.2.2.1, ho, ← h.all]
  unfold Loc.out1 Loc.mid1
  cases hb : l.blk with
  | true => simp
  | false => simp [h.dry hb]
theorem Loc.Ok.apply {l : Loc} {n : Nat} (h : l.Ok n) (hn : n ≤ 500) (e : Ent) (fails : Bool) : (l.apply e fails).2.Ok (n + 1) := by
  have h2 := mid2_f l e fails
  have ha := mid3_all h hn e fails
  have hf := h.fok.apply hn e
  unfold Loc.apply
  split
  · rename_i hw
    have := apply_wrong hw
    exact ⟨hf, by show l.log ++ l.held = (l.f.apply e).2.book.log; rw [this.1]; exact h.all, h.dry, h.cnt⟩
  · split
    · rename_i hb
      exact ⟨by show (l.mid2 e fails).f.Ok (n + 1); rw [h2.1]; exact hf, by show (l.mid3 e fails).log ++ (l.mid3 e fails).held = (l.mid2 e fails).f.book.log; rw [ha, h2.1], fun hc => (by rw [hb] at hc; cases hc), h2.2.2.2 h.cnt⟩
    · exact ⟨by show (l.mid2 e fails).f.Ok (n + 1); rw [h2.1]; exact hf, by show ((l.mid3 e fails).log ++ (l.mid3 e fails).held) ++ [] = (l.mid2 e fails).f.book.log; rw [List.append_nil, ha, h2.1], fun _ => rfl, h2.2.2.2 h.cnt⟩
theorem At.wrap {W0 : World} {H L : List Chunk} {w : World} (h : At W0 (L ++ H) w) : At W0 (Star H :: L) w := At.star.2 (h.perm List.perm_append_comm)
theorem At.unwrap {W0 : World} {H L : List Chunk} {w : World} (h : At W0 (Star H :: L) w) : At W0 (L ++ H) w := (At.star.1 h).perm List.perm_append_comm
def relStep (z : List Msg × List Msg) (x : Msg) : (List Msg × List Msg) × Option Code := if x.id.count = 0 then (z, some (.exit 0)) else ((z.1 ++ [x], z.2 ++ [x]), none)
theorem runs_rel : ∀ (l : List Msg) (z : List Msg × List Msg), (∀ x ∈ l, x.id.count ≠ 0) → runs relStep z l = ((z.1 ++ l, z.2 ++ l), none)
  | [], z, _ => by rw [runs, List.append_nil, List.append_nil]
  | x :: l, z, h => by
    have hx := h x (by simp)
    have e : relStep z x = ((z.1 ++ [x], z.2 ++ [x]), none) := by rw [relStep, if_neg hx]
    rw [runs, e]
    simp only
    rw [runs_rel l _ (fun y hy => h y (by simp [hy])), List.append_assoc, List.append_assoc]
    rfl
theorem SlV.nil0 : SlV (α := Msg) none 0 [] := ⟨Nat.le_refl _, .inl ⟨rfl, rfl, rfl⟩⟩
theorem Apply15_c (W0 : World) (a : Addr) (hg : RdBlk (At W0 []) 0 #[errF a]) (b n : Nat) (l : Loc) (e : Ent) (p : Option Addr) (c : Nat) (fails : Bool) (H : List Chunk) (hr : SlR (At W0 H) p e.msgs) (hl : e.msgs.length ≤ 1000) (h0 : 0 ≤ e.epoch) (hok : l.Ok n) (hn : n ≤ 400) :
    Call Tryd.prog W0 29 [.pointer (some ⟨b, 0, none⟩), e.v p c, .bool fails] (LocC b l :: H)
      (fun v H' => ∃ u, v = .tuple #[u, .int .i64 (l.apply e fails).1.2] ∧ H' = SlT 80 u (l.apply e fails).1.1 :: LocC b (l.apply e fails).2 :: H) := by
  have hfa := hok.fok.apply (by omega) e
  have hll := log_le hfa
  have hall := mid3_all hok (by omega) e fails
  have hlen3 : (l.mid3 e fails).log.length + (l.mid3 e fails).held.length ≤ 64 * (n + 1) := by rw [← List.length_append, hall]; exact hll
  have hl2 : (l.mid2 e fails).log.length + (l.out1 e).length ≤ 64 * (n + 1) := by
    have : (l.mid3 e fails).log.length = (l.mid2 e fails).log.length + (l.out1 e).length := by rw [Loc.mid3, List.length_append]
    omega
  have hrt : ∀ x ∈ (l.mid3 e fails).held, x.id.count ≠ 0 := fun x hx => by
    have h1 : x ∈ (l.f.apply e).2.book.log := by rw [← hall]; exact List.mem_append_right _ hx
    have := (right_spec (hfa.good.inv.rt x h1)).2.2.1
    omega
  have hhd : l.held.length + (l.f.apply e).1.1.length ≤ 64 * (n + 1) := by
    have h1 := (apply_out hok.fok (by omega) e).1
    rw [h1, List.length_append, ← hok.all, List.length_append] at hll
    omega
  refine call_enterM Tryd.func29 rfl Tryd.ntmps29 rfl ?_

  refine ct_seq ?_
  refine ct_region ?_
  refine rs_op rfl rfl (opR_box rfl fun b3 => ?_)
  refine rs_op rfl rfl (opR_box rfl fun b4 => ?_)
  iterate 2 (first | refine rs_ex rfl (by (first | (constructor <;> first | rfl | exact RdC.rd | exact inferInstance) | exact Ex.pickF rfl rfl | exact Ex.eqlS rfl rfl | exact Ex.neqS rfl rfl | exact Ex.eqlPN rfl rfl | exact Ex.neqPN rfl rfl | exact Ex.eqlSN rfl rfl | exact Ex.neqSN rfl rfl | exact Ex.lenStr rfl)) rfl ?_ | refine rs_skip rfl rfl ?_)
  refine rs_end ?_
  refine qe_then ?_
  refine ct_scope ?_
  refine ct_seq ?_
  refine ct_seq ?_
  refine ct_region ?_
  iterate 2 (first | refine rs_ex rfl (by (first | (constructor <;> first | rfl | exact RdC.rd | exact inferInstance) | exact Ex.pickF rfl rfl | exact Ex.eqlS rfl rfl | exact Ex.neqS rfl rfl | exact Ex.eqlPN rfl rfl | exact Ex.neqPN rfl rfl | exact Ex.eqlSN rfl rfl | exact Ex.neqSN rfl rfl | exact Ex.lenStr rfl)) rfl ?_ | refine rs_skip rfl rfl ?_)
  refine rs_end ?_
  refine qe_then ?_
  refine ct_cond rfl (fun h14 => by cases h14) (fun h14 => ?_)
  refine ct_skip ?_
  refine qe_then ?_
  refine ct_seq ?_
  refine ct_ex (fun w h => LocC.open (At.sw2 h)) ?_
  rintro ⟨bf, v1, v2⟩
  simp only
  refine ct_drawP [0, 4, 5] (by kernel_rfl) ?_
  refine ra_take 0 rfl (by kernel_rfl) (by kernel_rfl) rfl (by (first | (constructor <;> first | rfl | exact RdC.rd | exact inferInstance) | exact Ex.pickF rfl rfl | exact Ex.eqlS rfl rfl | exact Ex.neqS rfl rfl | exact Ex.eqlPN rfl rfl | exact Ex.neqPN rfl rfl | exact Ex.eqlSN rfl rfl | exact Ex.neqSN rfl rfl | exact Ex.lenStr rfl)) rfl (fun _ h => h.fit) ?_
  refine ra_take 1 rfl (by kernel_rfl) (by kernel_rfl) rfl (by (first | (constructor <;> first | rfl | exact RdC.rd | exact inferInstance) | exact Ex.pickF rfl rfl | exact Ex.eqlS rfl rfl | exact Ex.neqS rfl rfl | exact Ex.eqlPN rfl rfl | exact Ex.neqPN rfl rfl | exact Ex.eqlSN rfl rfl | exact Ex.neqSN rfl rfl | exact Ex.lenStr rfl)) rfl (fun _ h => h.fit) ?_
  refine ra_take 2 rfl (by kernel_rfl) (by kernel_rfl) rfl (by (first | (constructor <;> first | rfl | exact RdC.rd | exact inferInstance) | exact Ex.pickF rfl rfl | exact Ex.eqlS rfl rfl | exact Ex.neqS rfl rfl | exact Ex.eqlPN rfl rfl | exact Ex.neqPN rfl rfl | exact Ex.eqlSN rfl rfl | exact Ex.neqSN rfl rfl | exact Ex.lenStr rfl)) rfl (fun _ h => h.fit) ?_
  refine ra_take 3 rfl (by kernel_rfl) (by kernel_rfl) rfl (by (first | (constructor <;> first | rfl | exact RdC.rd | exact inferInstance) | exact Ex.pickF rfl rfl | exact Ex.eqlS rfl rfl | exact Ex.neqS rfl rfl | exact Ex.eqlPN rfl rfl | exact Ex.neqPN rfl rfl | exact Ex.eqlSN rfl rfl | exact Ex.neqSN rfl rfl | exact Ex.lenStr rfl)) rfl (fun _ h => h.fit) ?_
  refine ra_take 4 rfl (by kernel_rfl) (by kernel_rfl) rfl (by (first | (constructor <;> first | rfl | exact RdC.rd | exact inferInstance) | exact Ex.pickF rfl rfl | exact Ex.eqlS rfl rfl | exact Ex.neqS rfl rfl | exact Ex.eqlPN rfl rfl | exact Ex.neqPN rfl rfl | exact Ex.eqlSN rfl rfl | exact Ex.neqSN rfl rfl | exact Ex.lenStr rfl)) rfl (fun _ h => h.fit) ?_
  refine ra_all (rs := [5]) (by kernel_rfl) rfl ?_
  refine each_op rfl rfl rfl (opR_fn rfl (Call.heap (fun w h => by (first | exact h | exact h.sw1 | exact h.sw2 | exact h.sw3 | exact h.sw4 | exact h.sw5 | exact h.sw6 | exact h.sw7 | exact h.sw8 | exact h.pull2 | exact h.pull3 | exact h.pull4 | exact h.pull5 | exact h.fit)) ((Apply14_c W0 bf n l.f e p c _ (hr.mono fun w h => h.drop.drop.drop.drop.drop) hl h0 hok.fok (by omega)).mono ?_))) each_nil
  rintro v H' ⟨u, rfl, rfl⟩
  refine ⟨.inr (fun w h => h.fit), ?_⟩
  refine ra_take 6 rfl (by kernel_rfl) (by kernel_rfl) rfl (by (first | (constructor <;> first | rfl | exact RdC.rd | exact inferInstance) | exact Ex.pickF rfl rfl | exact Ex.eqlS rfl rfl | exact Ex.neqS rfl rfl | exact Ex.eqlPN rfl rfl | exact Ex.neqPN rfl rfl | exact Ex.eqlSN rfl rfl | exact Ex.neqSN rfl rfl | exact Ex.lenStr rfl)) rfl (fun _ h => h.fit) ?_
  refine ra_take 7 rfl (by kernel_rfl) (by kernel_rfl) rfl (by (first | (constructor <;> first | rfl | exact RdC.rd | exact inferInstance) | exact Ex.pickF rfl rfl | exact Ex.eqlS rfl rfl | exact Ex.neqS rfl rfl | exact Ex.eqlPN rfl rfl | exact Ex.neqPN rfl rfl | exact Ex.eqlSN rfl rfl | exact Ex.neqSN rfl rfl | exact Ex.lenStr rfl)) rfl (fun _ h => h.fit) ?_
  refine ra_take 8 rfl (by kernel_rfl) (by kernel_rfl) rfl (by (first | (constructor <;> first | rfl | exact RdC.rd | exact inferInstance) | exact Ex.pickF rfl rfl | exact Ex.eqlS rfl rfl | exact Ex.neqS rfl rfl | exact Ex.eqlPN rfl rfl | exact Ex.neqPN rfl rfl | exact Ex.eqlSN rfl rfl | exact Ex.neqSN rfl rfl | exact Ex.lenStr rfl)) rfl (fun _ h => h.fit) ?_
  refine ra_take 9 rfl (by kernel_rfl) (by kernel_rfl) rfl (by (first | (constructor <;> first | rfl | exact RdC.rd | exact inferInstance) | exact Ex.pickF rfl rfl | exact Ex.eqlS rfl rfl | exact Ex.neqS rfl rfl | exact Ex.eqlPN rfl rfl | exact Ex.neqPN rfl rfl | exact Ex.eqlSN rfl rfl | exact Ex.neqSN rfl rfl | exact Ex.lenStr rfl)) rfl (fun _ h => h.fit) ?_
  refine ra_take 10 rfl (by kernel_rfl) (by kernel_rfl) rfl (by (first | (constructor <;> first | rfl | exact RdC.rd | exact inferInstance) | exact Ex.pickF rfl rfl | exact Ex.eqlS rfl rfl | exact Ex.neqS rfl rfl | exact Ex.eqlPN rfl rfl | exact Ex.neqPN rfl rfl | exact Ex.eqlSN rfl rfl | exact Ex.neqSN rfl rfl | exact Ex.lenStr rfl)) rfl (fun _ h => h.fit) ?_
  refine ra_take 11 rfl (by kernel_rfl) (by kernel_rfl) rfl (by (first | (constructor <;> first | rfl | exact RdC.rd | exact inferInstance) | exact Ex.pickF rfl rfl | exact Ex.eqlS rfl rfl | exact Ex.neqS rfl rfl | exact Ex.eqlPN rfl rfl | exact Ex.neqPN rfl rfl | exact Ex.eqlSN rfl rfl | exact Ex.neqSN rfl rfl | exact Ex.lenStr rfl)) rfl (fun _ h => h.fit) ?_
  refine ra_take 12 rfl (by kernel_rfl) (by kernel_rfl) rfl (by (first | (constructor <;> first | rfl | exact RdC.rd | exact inferInstance) | exact Ex.pickF rfl rfl | exact Ex.eqlS rfl rfl | exact Ex.neqS rfl rfl | exact Ex.eqlPN rfl rfl | exact Ex.neqPN rfl rfl | exact Ex.eqlSN rfl rfl | exact Ex.neqSN rfl rfl | exact Ex.lenStr rfl)) rfl (fun _ h => h.fit) ?_
  refine ra_end (by kernel_rfl) ?_
  refine qe_then ?_
  refine ct_seq ?_
  refine ct_seq ?_
  refine ct_region ?_
  iterate 2 (first | refine rs_ex rfl (by (first | (constructor <;> first | rfl | exact RdC.rd | exact inferInstance) | exact Ex.pickF rfl rfl | exact Ex.eqlS rfl rfl | exact Ex.neqS rfl rfl | exact Ex.eqlPN rfl rfl | exact Ex.neqPN rfl rfl | exact Ex.eqlSN rfl rfl | exact Ex.neqSN rfl rfl | exact Ex.lenStr rfl)) rfl ?_ | refine rs_skip rfl rfl ?_)
  refine rs_end ?_
  refine qe_then ?_
  refine ct_cond rfl (fun h26 => ?_) (fun h26 => ?_)
  · have hw : (l.f.apply e).1.2.2 ≠ 0 := by simpa using h26
    have ea : l.apply e fails = (([], (l.f.apply e).1.2.2), { l with f := (l.f.apply e).2 }) := by rw [Loc.apply, if_pos hw]
    refine ct_seq ?_
    refine ct_region ?_
    iterate 3 (first | refine rs_ex rfl (by (first | (constructor <;> first | rfl | exact RdC.rd | exact inferInstance) | exact Ex.pickF rfl rfl | exact Ex.eqlS rfl rfl | exact Ex.neqS rfl rfl | exact Ex.eqlPN rfl rfl | exact Ex.neqPN rfl rfl | exact Ex.eqlSN rfl rfl | exact Ex.neqSN rfl rfl | exact Ex.lenStr rfl)) rfl ?_ | refine rs_skip rfl rfl ?_)
    refine rs_end ?_
    refine qe_then ?_
    refine ct_ret ?_
    exact retM (qe_heap (H' := SlT (α := Msg) 80 (.slice none 0 0) [] :: LocC b { l with f := (l.f.apply e).2 } :: H) (fun w h => At.slt_nil (α := Msg) 80 (LocC.shut (l := { l with f := (l.f.apply e).2 }) (At.top [_, _, _, _, _, _, _] [2, 3, 4, 1] h))) (ret2 rfl rfl rfl ⟨_, by rw [ea], by rw [ea]⟩))
  · have hw : (l.f.apply e).1.2.2 = 0 := by simpa using h26
    refine ct_pr (fun w h => h.slv) ?_; rintro ⟨pu, cu, eu, hvu⟩
    subst eu
    refine ct_skip ?_
    refine qe_then ?_
    refine ct_meetc (ζ := (Option Addr × Nat) × List Msg × List Msg) (fun q => SlV q.1.1 q.1.2 q.2.1 ∧ q.2.1 = l.out1 e ∧ q.2.2 = (l.mid1 e).held) [(2, _), (3, _), (9, _)] (fun q => [(8, .slice q.1.1 q.2.1.length q.1.2)]) (fun q => SlT 80 (.slice q.1.1 q.2.1.length q.1.2) q.2.1 :: LocC b { l with f := (l.f.apply e).2, held := q.2.2 } :: Blk b3 (.cells #[.pointer (some ⟨b, 0, none⟩)] 41 (0, 0)) :: H) ⟨rfl, rfl, rfl, trivial⟩ ?_ ?_
    · refine ct_seq ?_
      refine ct_region ?_
      iterate 4 (first | refine rs_ex rfl (by (first | (constructor <;> first | rfl | exact RdC.rd | exact inferInstance) | exact Ex.pickF rfl rfl | exact Ex.eqlS rfl rfl | exact Ex.neqS rfl rfl | exact Ex.eqlPN rfl rfl | exact Ex.neqPN rfl rfl | exact Ex.eqlSN rfl rfl | exact Ex.neqSN rfl rfl | exact Ex.lenStr rfl)) rfl ?_ | refine rs_skip rfl rfl ?_)
      refine rs_end ?_
      refine qe_then ?_
      refine ct_cond rfl (fun h31 => ?_) (fun h31 => ?_)
      · refine ct_seq ?_
        refine ct_drawP [2, 6] (by kernel_rfl) ?_
        refine ra_take 0 rfl (by kernel_rfl) (by kernel_rfl) rfl (by (first | (constructor <;> first | rfl | exact RdC.rd | exact inferInstance) | exact Ex.pickF rfl rfl | exact Ex.eqlS rfl rfl | exact Ex.neqS rfl rfl | exact Ex.eqlPN rfl rfl | exact Ex.neqPN rfl rfl | exact Ex.eqlSN rfl rfl | exact Ex.neqSN rfl rfl | exact Ex.lenStr rfl)) rfl (fun _ h => h.fit) ?_
        refine ra_take 1 rfl (by kernel_rfl) (by kernel_rfl) rfl (by (first | (constructor <;> first | rfl | exact RdC.rd | exact inferInstance) | exact Ex.pickF rfl rfl | exact Ex.eqlS rfl rfl | exact Ex.neqS rfl rfl | exact Ex.eqlPN rfl rfl | exact Ex.neqPN rfl rfl | exact Ex.eqlSN rfl rfl | exact Ex.neqSN rfl rfl | exact Ex.lenStr rfl)) rfl (fun _ h => h.fit) ?_
        refine ra_take 2 rfl (by kernel_rfl) (by kernel_rfl) rfl (by (first | (constructor <;> first | rfl | exact RdC.rd | exact inferInstance) | exact Ex.pickF rfl rfl | exact Ex.eqlS rfl rfl | exact Ex.neqS rfl rfl | exact Ex.eqlPN rfl rfl | exact Ex.neqPN rfl rfl | exact Ex.eqlSN rfl rfl | exact Ex.neqSN rfl rfl | exact Ex.lenStr rfl)) rfl (fun _ h => h.fit) ?_
        refine ra_take 3 rfl (by kernel_rfl) (by kernel_rfl) rfl (by (first | (constructor <;> first | rfl | exact RdC.rd | exact inferInstance) | exact Ex.pickF rfl rfl | exact Ex.eqlS rfl rfl | exact Ex.neqS rfl rfl | exact Ex.eqlPN rfl rfl | exact Ex.neqPN rfl rfl | exact Ex.eqlSN rfl rfl | exact Ex.neqSN rfl rfl | exact Ex.lenStr rfl)) rfl (fun _ h => h.fit) ?_
        refine ra_take 4 rfl (by kernel_rfl) (by kernel_rfl) rfl (by (first | (constructor <;> first | rfl | exact RdC.rd | exact inferInstance) | exact Ex.pickF rfl rfl | exact Ex.eqlS rfl rfl | exact Ex.neqS rfl rfl | exact Ex.eqlPN rfl rfl | exact Ex.neqPN rfl rfl | exact Ex.eqlSN rfl rfl | exact Ex.neqSN rfl rfl | exact Ex.lenStr rfl)) rfl (fun _ h => h.fit) ?_
        refine ra_take 5 rfl (by kernel_rfl) (by kernel_rfl) rfl (by (first | (constructor <;> first | rfl | exact RdC.rd | exact inferInstance) | exact Ex.pickF rfl rfl | exact Ex.eqlS rfl rfl | exact Ex.neqS rfl rfl | exact Ex.eqlPN rfl rfl | exact Ex.neqPN rfl rfl | exact Ex.eqlSN rfl rfl | exact Ex.neqSN rfl rfl | exact Ex.lenStr rfl)) rfl (fun _ h => h.fit) ?_
        refine ra_all (rs := [6]) (by kernel_rfl) rfl ?_
        refine each_op rfl rfl rfl (opR_append (l.f.apply e).1.1 rfl rfl (by exact RdS.slR (len := (l.f.apply e).1.1.length) inferInstance hvu) rfl (by omega) rfl fun p5 c5 hv5 => ?_) each_nil
        refine ⟨.inr (fun w h => h.fit), ?_⟩
        refine ra_take 7 rfl (by kernel_rfl) (by kernel_rfl) rfl (by (first | (constructor <;> first | rfl | exact RdC.rd | exact inferInstance) | exact Ex.pickF rfl rfl | exact Ex.eqlS rfl rfl | exact Ex.neqS rfl rfl | exact Ex.eqlPN rfl rfl | exact Ex.neqPN rfl rfl | exact Ex.eqlSN rfl rfl | exact Ex.neqSN rfl rfl | exact Ex.lenStr rfl)) rfl (fun _ h => h.fit) ?_
        refine ra_take 8 rfl (by kernel_rfl) (by kernel_rfl) rfl (by (first | (constructor <;> first | rfl | exact RdC.rd | exact inferInstance) | exact Ex.pickF rfl rfl | exact Ex.eqlS rfl rfl | exact Ex.neqS rfl rfl | exact Ex.eqlPN rfl rfl | exact Ex.neqPN rfl rfl | exact Ex.eqlSN rfl rfl | exact Ex.neqSN rfl rfl | exact Ex.lenStr rfl)) rfl (fun _ h => h.fit) ?_
        refine ra_all (rs := [9]) (by kernel_rfl) rfl ?_
        refine each_opN rfl rfl (opR_store rfl rfl rfl rfl ?_) each_nil
        refine ⟨.inl (by kernel_rfl), ?_⟩
        refine ra_end (by kernel_rfl) ?_
        refine qe_then ?_
        refine ct_region ?_
        (first | refine rs_ex rfl (by (first | (constructor <;> first | rfl | exact RdC.rd | exact inferInstance) | exact Ex.pickF rfl rfl | exact Ex.eqlS rfl rfl | exact Ex.neqS rfl rfl | exact Ex.eqlPN rfl rfl | exact Ex.neqPN rfl rfl | exact Ex.eqlSN rfl rfl | exact Ex.neqSN rfl rfl | exact Ex.lenStr rfl)) rfl ?_ | refine rs_skip rfl rfl ?_)
        refine rs_end ?_
        refine qe_midc (((none, 0), [], l.held ++ (l.f.apply e).1.1)) (⟨SlV.nil0, by rw [Loc.out1, if_pos h31], by rw [Loc.mid1]; simp [h31]⟩) ⟨rfl, rfl, rfl, rfl, trivial⟩ (fun w h => At.slt_nil (α := Msg) 80 (LocC.shut (l := { l with f := (l.f.apply e).2, held := l.held ++ (l.f.apply e).1.1 }) (At.top [_, _, _, _, _, _, _] [2, 3, 4, 1, 6] h)))
      · refine ct_skip ?_
        refine qe_midc (((pu, cu), (l.f.apply e).1.1, l.held)) (⟨hvu, by rw [Loc.out1, if_neg (by simp [h31])], by rw [Loc.mid1]; simp [h31]⟩) ⟨rfl, rfl, rfl, rfl, trivial⟩ (fun w h => At.sw1 (LocC.shut (l := { l with f := (l.f.apply e).2 }) (At.top [_, _, _, _, _, _, _] [2, 3, 4, 1, 0, 6] h)))
    · rintro ⟨⟨p1, c1⟩, d1, h1⟩ ⟨hv1, hd1, hh1⟩
      simp only at hv1 hd1 hh1 ⊢
      subst hd1
      subst hh1
      refine ct_heap (H' := SlT 80 (.slice p1 (l.out1 e).length c1) (l.out1 e) :: LocC b (l.mid1 e) :: Blk b3 (.cells #[.pointer (some ⟨b, 0, none⟩)] 41 (0, 0)) :: H) (fun w h => h) ?_
      refine ct_meetc (ζ := Loc) (fun q => q = l.mid2 e fails) [(3, _), (8, _)] (fun q => []) (fun q => SlT 80 (.slice p1 (l.out1 e).length c1) (l.out1 e) :: LocC b q :: Blk b3 (.cells #[.pointer (some ⟨b, 0, none⟩)] 41 (0, 0)) :: H) ⟨rfl, rfl, trivial⟩ ?_ ?_
      · refine ct_seq ?_
        refine ct_region ?_
        (first | refine rs_ex rfl (by (first | (constructor <;> first | rfl | exact RdC.rd | exact inferInstance) | exact Ex.pickF rfl rfl | exact Ex.eqlS rfl rfl | exact Ex.neqS rfl rfl | exact Ex.eqlPN rfl rfl | exact Ex.neqPN rfl rfl | exact Ex.eqlSN rfl rfl | exact Ex.neqSN rfl rfl | exact Ex.lenStr rfl)) rfl ?_ | refine rs_skip rfl rfl ?_)
        refine rs_end ?_
        refine qe_then ?_
        refine ct_cond rfl (fun h41 => ?_) (fun h41 => ?_)
        · refine ct_drawP [2] (by kernel_rfl) ?_
          refine ra_take 0 rfl (by kernel_rfl) (by kernel_rfl) rfl (by (first | (constructor <;> first | rfl | exact RdC.rd | exact inferInstance) | exact Ex.pickF rfl rfl | exact Ex.eqlS rfl rfl | exact Ex.neqS rfl rfl | exact Ex.eqlPN rfl rfl | exact Ex.neqPN rfl rfl | exact Ex.eqlSN rfl rfl | exact Ex.neqSN rfl rfl | exact Ex.lenStr rfl)) rfl (fun _ h => h.fit) ?_
          refine ra_take 1 rfl (by kernel_rfl) (by kernel_rfl) rfl (by (first | (constructor <;> first | rfl | exact RdC.rd | exact inferInstance) | exact Ex.pickF rfl rfl | exact Ex.eqlS rfl rfl | exact Ex.neqS rfl rfl | exact Ex.eqlPN rfl rfl | exact Ex.neqPN rfl rfl | exact Ex.eqlSN rfl rfl | exact Ex.neqSN rfl rfl | exact Ex.lenStr rfl)) rfl (fun _ h => h.fit) ?_
          refine ra_take 2 rfl (by kernel_rfl) (by kernel_rfl) rfl (by (first | (constructor <;> first | rfl | exact RdC.rd | exact inferInstance) | exact Ex.pickF rfl rfl | exact Ex.eqlS rfl rfl | exact Ex.neqS rfl rfl | exact Ex.eqlPN rfl rfl | exact Ex.neqPN rfl rfl | exact Ex.eqlSN rfl rfl | exact Ex.neqSN rfl rfl | exact Ex.lenStr rfl)) rfl (fun _ h => h.fit) ?_
          refine ra_take 5 rfl (by kernel_rfl) (by kernel_rfl) rfl (by (first | (constructor <;> first | rfl | exact RdC.rd | exact inferInstance) | exact Ex.pickF rfl rfl | exact Ex.eqlS rfl rfl | exact Ex.neqS rfl rfl | exact Ex.eqlPN rfl rfl | exact Ex.neqPN rfl rfl | exact Ex.eqlSN rfl rfl | exact Ex.neqSN rfl rfl | exact Ex.lenStr rfl)) rfl (fun _ h => h.fit) ?_
          refine ra_all (rs := [3]) (by kernel_rfl) rfl ?_
          refine each_op rfl rfl rfl (opR_fn rfl (Call.heap (fun w h => by (first | exact h | exact h.sw1 | exact h.sw2 | exact h.sw3 | exact h.sw4 | exact h.sw5 | exact h.sw6 | exact h.sw7 | exact h.sw8 | exact h.pull2 | exact h.pull3 | exact h.pull4 | exact h.pull5 | exact h.fit)) ((Era_c W0 b (n + 1) (l.mid1 e) _ hfa (by omega)).mono ?_))) each_nil
          rintro v H' ⟨rfl, rfl⟩
          refine ⟨.inr (fun w h => h.fit), ?_⟩
          refine ra_take 4 rfl (by kernel_rfl) (by kernel_rfl) rfl (ex_field Tryd.underlying55 rfl 3 rfl rfl rfl) rfl (fun _ h => h.fit) ?_
          refine ra_all (rs := [6]) (by kernel_rfl) rfl ?_
          refine each_op rfl rfl rfl (opR_fn rfl (Call.heap (fun w h => by (first | exact h | exact h.sw1 | exact h.sw2 | exact h.sw3 | exact h.sw4 | exact h.sw5 | exact h.sw6 | exact h.sw7 | exact h.sw8 | exact h.pull2 | exact h.pull3 | exact h.pull4 | exact h.pull5 | exact h.fit)) ((Migrates15_c W0 a hg b (l.mid1 e) (l.mid1 e).f.last.ver fails _ hok.cnt).mono ?_))) each_nil
          rintro v H' ⟨rfl, rfl⟩
          refine ⟨.inr (fun w h => h.fit), ?_⟩
          refine ra_exs (fun w h => LocC.open h) ?_
          rintro ⟨bf2, w1, w2⟩
          simp only
          refine ra_take 7 rfl (by kernel_rfl) (by kernel_rfl) rfl (by (first | (constructor <;> first | rfl | exact RdC.rd | exact inferInstance) | exact Ex.pickF rfl rfl | exact Ex.eqlS rfl rfl | exact Ex.neqS rfl rfl | exact Ex.eqlPN rfl rfl | exact Ex.neqPN rfl rfl | exact Ex.eqlSN rfl rfl | exact Ex.neqSN rfl rfl | exact Ex.lenStr rfl)) rfl (fun _ h => h.fit) ?_
          refine ra_take 8 rfl (by kernel_rfl) (by kernel_rfl) rfl (by (first | (constructor <;> first | rfl | exact RdC.rd | exact inferInstance) | exact Ex.pickF rfl rfl | exact Ex.eqlS rfl rfl | exact Ex.neqS rfl rfl | exact Ex.eqlPN rfl rfl | exact Ex.neqPN rfl rfl | exact Ex.eqlSN rfl rfl | exact Ex.neqSN rfl rfl | exact Ex.lenStr rfl)) rfl (fun _ h => h.fit) ?_
          refine ra_take 9 rfl (by kernel_rfl) (by kernel_rfl) rfl (by (first | (constructor <;> first | rfl | exact RdC.rd | exact inferInstance) | exact Ex.pickF rfl rfl | exact Ex.eqlS rfl rfl | exact Ex.neqS rfl rfl | exact Ex.eqlPN rfl rfl | exact Ex.neqPN rfl rfl | exact Ex.eqlSN rfl rfl | exact Ex.neqSN rfl rfl | exact Ex.lenStr rfl)) rfl (fun _ h => h.fit) ?_
          refine ra_all (rs := [10]) (by kernel_rfl) rfl ?_
          refine each_opN rfl rfl (opR_store rfl rfl rfl rfl ?_) each_nil
          refine ⟨.inl (by kernel_rfl), ?_⟩
          refine ra_end (by kernel_rfl) ?_
          refine qe_midc ({ ((l.mid1 e).migr (l.mid1 e).f.last.ver fails).1 with blk := !((l.mid1 e).migr (l.mid1 e).f.last.ver fails).2 }) (by rw [Loc.mid2, if_pos h41]) ⟨rfl, rfl, trivial⟩ (fun w h => At.sw1 (LocC.shut (l := { ((l.mid1 e).migr (l.mid1 e).f.last.ver fails).1 with blk := !((l.mid1 e).migr (l.mid1 e).f.last.ver fails).2 }) h))
        · refine ct_skip ?_
          refine qe_midc ((l.mid1 e)) (by rw [Loc.mid2, if_neg (by simp [h41])]) ⟨rfl, rfl, trivial⟩ (fun w h => h)
      · rintro l3 rfl
        refine ct_seq ?_
        refine ct_region ?_
        iterate 2 (first | refine rs_ex rfl (by (first | (constructor <;> first | rfl | exact RdC.rd | exact inferInstance) | exact Ex.pickF rfl rfl | exact Ex.eqlS rfl rfl | exact Ex.neqS rfl rfl | exact Ex.eqlPN rfl rfl | exact Ex.neqPN rfl rfl | exact Ex.eqlSN rfl rfl | exact Ex.neqSN rfl rfl | exact Ex.lenStr rfl)) rfl ?_ | refine rs_skip rfl rfl ?_)
        refine rs_op rfl rfl (opR_fn rfl (Call.heap (fun w h => by (first | exact h | exact h.sw1 | exact h.sw2 | exact h.sw3 | exact h.sw4 | exact h.sw5 | exact h.sw6 | exact h.sw7 | exact h.sw8 | exact h.pull2 | exact h.pull3 | exact h.pull4 | exact h.pull5 | exact h.fit)) ((Delivers15_c W0 b (l.mid2 e fails) p1 c1 (l.out1 e) _ (by exact RdS.slR (len := (l.out1 e).length) inferInstance hv1) (by omega)).mono ?_)))
        rintro v H' ⟨rfl, rfl⟩
        refine rs_op rfl rfl (opR_alloc fun b11 => ?_)
        refine rs_opN rfl (opR_store rfl rfl rfl rfl ?_)
        refine rs_end ?_
        refine qe_then ?_
        refine ct_seq ?_
        refine ct_seq ?_
        refine ct_heap (H' := Blk b11 (.cells #[.slice p1 (l.out1 e).length c1] 44 (0, 0)) :: LocC b (l.mid3 e fails) :: SlT 80 (.slice p1 (l.out1 e).length c1) (l.out1 e) :: Blk b3 (.cells #[.pointer (some ⟨b, 0, none⟩)] 41 (0, 0)) :: H) (fun w h => h) ?_
        refine ct_ex (fun w h => LocC.open (At.sw1 h)) ?_
        rintro ⟨bf4, y1, y2⟩
        simp only
        refine ct_region ?_
        iterate 4 (first | refine rs_ex rfl (by (first | (constructor <;> first | rfl | exact RdC.rd | exact inferInstance) | exact Ex.pickF rfl rfl | exact Ex.eqlS rfl rfl | exact Ex.neqS rfl rfl | exact Ex.eqlPN rfl rfl | exact Ex.neqPN rfl rfl | exact Ex.eqlSN rfl rfl | exact Ex.neqSN rfl rfl | exact Ex.lenStr rfl)) rfl ?_ | refine rs_skip rfl rfl ?_)
        refine rs_end ?_
        refine qe_then ?_
        refine ct_cond rfl (fun h58 => ?_) (fun h58 => ?_)
        · have ea : l.apply e fails = ((l.out1 e, 0), l.mid3 e fails) := by rw [Loc.apply, if_neg (by simp [hw]), if_pos h58]
          refine ct_seq ?_
          refine ct_region ?_
          iterate 3 (first | refine rs_ex rfl (by (first | (constructor <;> first | rfl | exact RdC.rd | exact inferInstance) | exact Ex.pickF rfl rfl | exact Ex.eqlS rfl rfl | exact Ex.neqS rfl rfl | exact Ex.eqlPN rfl rfl | exact Ex.neqPN rfl rfl | exact Ex.eqlSN rfl rfl | exact Ex.neqSN rfl rfl | exact Ex.lenStr rfl)) rfl ?_ | refine rs_skip rfl rfl ?_)
          refine rs_end ?_
          refine qe_then ?_
          refine ct_ret ?_
          exact retM (qe_heap (H' := SlT 80 (.slice p1 (l.out1 e).length c1) (l.out1 e) :: LocC b (l.mid3 e fails) :: H) (fun w h => At.sw1 (LocC.shut (l := l.mid3 e fails) (At.top [_, _, _, _, _, _, _] [0, 1, 2, 3, 5] h))) (ret2 rfl rfl rfl ⟨_, by rw [ea], by rw [ea]⟩))
        · have ea : l.apply e fails = ((l.out1 e ++ (l.mid3 e fails).held, 0), { l.mid3 e fails with log := (l.mid3 e fails).log ++ (l.mid3 e fails).held, held := [] }) := by rw [Loc.apply, if_neg (by simp [hw]), if_neg (by simp [h58])]
          refine ct_heap (H' := LocC b (l.mid3 e fails) :: Blk b11 (.cells #[.slice p1 (l.out1 e).length c1] 44 (0, 0)) :: SlT 80 (.slice p1 (l.out1 e).length c1) (l.out1 e) :: Blk b3 (.cells #[.pointer (some ⟨b, 0, none⟩)] 41 (0, 0)) :: H) (fun w h => LocC.shut (l := l.mid3 e fails) h) ?_
          refine ct_skip ?_
          refine qe_then ?_
          refine ct_seq ?_
          refine ct_label ?_
          refine qe_then ?_
          refine ct_seq ?_
          refine ct_seq ?_
          refine ct_region ?_
          (first | refine rs_ex rfl (by (first | (constructor <;> first | rfl | exact RdC.rd | exact inferInstance) | exact Ex.pickF rfl rfl | exact Ex.eqlS rfl rfl | exact Ex.neqS rfl rfl | exact Ex.eqlPN rfl rfl | exact Ex.neqPN rfl rfl | exact Ex.eqlSN rfl rfl | exact Ex.neqSN rfl rfl | exact Ex.lenStr rfl)) rfl ?_ | refine rs_skip rfl rfl ?_)
          refine rs_op rfl rfl (opR_fn rfl (Call.heap (fun w h => by (first | exact h | exact h.sw1 | exact h.sw2 | exact h.sw3 | exact h.sw4 | exact h.sw5 | exact h.sw6 | exact h.sw7 | exact h.sw8 | exact h.pull2 | exact h.pull3 | exact h.pull4 | exact h.pull5 | exact h.fit)) ((Releases_c W0 b (l.mid3 e fails) _).mono ?_)))
          rintro v H' ⟨bs, q, cq, rfl, hvq, rfl⟩
          refine rs_end ?_
          refine qe_then ?_
          refine ct_block ?_
          refine ct_rangeFunc (ζ := List Msg × List Msg) (f := 77) (first := []) (cap := [.pointer (some ⟨bs, 0, none⟩)]) encM (valIt bs q cq (l.mid3 e fails).held) (fun z => [Star H, SlotC b11 44 80 z.1, LocC b { l.mid3 e fails with log := z.2, held := [] }, Blk b3 (.cells #[.pointer (some ⟨b, 0, none⟩)] 41 (0, 0))]) relStep (fun z xs => z.1.length + xs.length ≤ 100000 ∧ z.2.length + xs.length ≤ 100000 ∧ ∀ x ∈ xs, x.id.count ≠ 0) (fun xs => xs = (l.mid3 e fails).held) ((l.out1 e, (l.mid3 e fails).log)) rfl (fun _ => rfl) rfl (fun w h => At.sw1 (At.wrap (L := [_, _, _, _]) (At.sw1 (SlotC.shut (At.top [_, _, _, _, _] [2, 3, 0, 1, 4] h))))) (fun y gc T hy => ValMO1_c W0 y gc _ _ (l.out1 e, (l.mid3 e fails).log) bs cq q (l.mid3 e fails).held T hy ⟨by simp only; omega, by simp only; omega, hrt⟩ hvq (by omega)) ?_ ?_ ?_
          · rintro l' z x xs ⟨hz1, hz2, hx0⟩ T2
            simp only [List.length_cons] at hz1 hz2
            have hxc : x.id.count ≠ 0 := hx0 x (by simp)
            have hst : relStep z x = ((z.1 ++ [x], z.2 ++ [x]), none) := by rw [relStep, if_neg hxc]
            refine ct_sub (τ := [(62, _), (3, _), (11, _)]) ⟨rfl, rfl, rfl, trivial⟩ ?_
            refine ct_app ?_
            refine ct_region ?_
            refine rs_op rfl rfl (opR_alloc fun b12 => ?_)
            refine rs_opN rfl (opR_store rfl rfl rfl rfl ?_)
            refine rs_end ?_
            refine qe_assignA (fun T' => ?_)
            refine ct_app ?_
            refine ct_block ?_
            refine ct_seq ?_
            refine ct_seq ?_
            refine ct_region ?_
            iterate 4 (first | refine rs_ex rfl (by (first | (constructor <;> first | rfl | exact RdC.rd | exact inferInstance) | exact Ex.pickF rfl rfl | exact Ex.eqlS rfl rfl | exact Ex.neqS rfl rfl | exact Ex.eqlPN rfl rfl | exact Ex.neqPN rfl rfl | exact Ex.eqlSN rfl rfl | exact Ex.neqSN rfl rfl | exact Ex.lenStr rfl)) rfl ?_ | refine rs_skip rfl rfl ?_)
            refine rs_end ?_
            refine qe_then ?_
            refine ct_cond rfl (fun h66 => by simp [hxc] at h66) (fun h66 => ?_)
            refine ct_skip ?_
            refine qe_then ?_
            refine ct_ex (fun w h => SlotC.open (At.sw2 h)) ?_
            intro vo
            refine ct_drawP [0, 2, 5] (by kernel_rfl) ?_
            refine ra_take 0 rfl (by kernel_rfl) (by kernel_rfl) rfl (by (first | (constructor <;> first | rfl | exact RdC.rd | exact inferInstance) | exact Ex.pickF rfl rfl | exact Ex.eqlS rfl rfl | exact Ex.neqS rfl rfl | exact Ex.eqlPN rfl rfl | exact Ex.neqPN rfl rfl | exact Ex.eqlSN rfl rfl | exact Ex.neqSN rfl rfl | exact Ex.lenStr rfl)) rfl (fun _ h => h.fit) ?_
            refine ra_take 1 rfl (by kernel_rfl) (by kernel_rfl) rfl (by (first | (constructor <;> first | rfl | exact RdC.rd | exact inferInstance) | exact Ex.pickF rfl rfl | exact Ex.eqlS rfl rfl | exact Ex.neqS rfl rfl | exact Ex.eqlPN rfl rfl | exact Ex.neqPN rfl rfl | exact Ex.eqlSN rfl rfl | exact Ex.neqSN rfl rfl | exact Ex.lenStr rfl)) rfl (fun _ h => h.fit) ?_
            refine ra_take 2 rfl (by kernel_rfl) (by kernel_rfl) rfl (by (first | (constructor <;> first | rfl | exact RdC.rd | exact inferInstance) | exact Ex.pickF rfl rfl | exact Ex.eqlS rfl rfl | exact Ex.neqS rfl rfl | exact Ex.eqlPN rfl rfl | exact Ex.neqPN rfl rfl | exact Ex.eqlSN rfl rfl | exact Ex.neqSN rfl rfl | exact Ex.lenStr rfl)) rfl (fun _ h => h.fit) ?_
            refine ra_all (rs := [3]) (by kernel_rfl) rfl ?_
            refine each_op rfl rfl rfl (opR_buildSlice rfl rfl rfl rfl fun b70 => ?_) each_nil
            refine ⟨.inr (fun w h => h.fit), ?_⟩
            refine ra_Snew ?_
            refine ra_all (rs := [4]) (by kernel_rfl) rfl ?_
            refine each_op rfl rfl rfl (opR_fn rfl (Call.heap (fun w h => by (first | exact h | exact h.sw1 | exact h.sw2 | exact h.sw3 | exact h.sw4 | exact h.sw5 | exact h.sw6 | exact h.sw7 | exact h.sw8 | exact h.pull2 | exact h.pull3 | exact h.pull4 | exact h.pull5 | exact h.fit)) ((Delivers15_c W0 b { l.mid3 e fails with log := z.2, held := [] } (some ⟨b70, 0, none⟩) 1 [x] _ (by exact SlR.blk RdC.rd [x] rfl) (by simp; omega)).mono ?_))) each_nil
            rintro v H' ⟨rfl, rfl⟩
            refine ⟨.inr (fun w h => h.fit), ?_⟩
            refine ra_all (rs := [5]) (by kernel_rfl) rfl ?_
            refine each_op rfl rfl rfl (opR_append [x] rfl rfl (by exact SlR.blk RdC.rd [x] rfl) rfl (by simp; omega) rfl fun p9 c9 hv9 => ?_) each_nil
            refine ⟨.inr (fun w h => h.fit), ?_⟩
            refine ra_all (rs := [6]) (by kernel_rfl) rfl ?_
            refine each_opN rfl rfl (opR_store rfl rfl rfl rfl ?_) each_nil
            refine ⟨.inl (by kernel_rfl), ?_⟩
            refine ra_end (by kernel_rfl) ?_
            refine qe_block 1 ?_
            exact qe_heap (H' := Star H :: SlotC b11 44 80 (z.1 ++ [x]) :: LocC b { l.mid3 e fails with log := z.2 ++ [x], held := [] } :: Blk b3 (.cells #[.pointer (some ⟨b, 0, none⟩)] 41 (0, 0)) :: T') (fun w h => At.top [_, _, _] [2, 0, 1] (SlotC.shut (At.top [_, _, _, _, _, _, _] [2, 3, 0, 5, 6] h))) (qe_roundA ⟨by rw [hst], by rw [hst]⟩)
          · rintro z x xs ⟨hz1, hz2, hx0⟩ _
            have hxc := hx0 x (by simp)
            rw [relStep, if_neg hxc]
            simp only [List.length_cons] at hz1 hz2
            exact ⟨by simp; omega, by simp; omega, fun y hy => hx0 y (by simp [hy])⟩
          · rintro xs db rfl
            rw [runs_rel _ _ hrt]
            refine qe_exs (fun w h => SlotC.open (At.sw2 h)) ?_
            intro vo
            refine qe_heap (H' := Blk db (.deferred (some [])) :: Blk b11 (.cells #[vo] 44 (0, 0)) :: SlT 80 vo (l.out1 e ++ (l.mid3 e fails).held) :: LocC b { l.mid3 e fails with log := (l.mid3 e fails).log ++ (l.mid3 e fails).held, held := [] } :: H) (fun w h => At.unwrap (L := [_, _, _, _]) (At.top [_, _, _, _, _, _] [3, 2, 0, 1, 4] h)) ?_
            refine qe_block 0 ?_
            refine qe_then ?_
            refine ct_seq ?_
            refine ct_region ?_
            iterate 3 (first | refine rs_ex rfl (by (first | (constructor <;> first | rfl | exact RdC.rd | exact inferInstance) | exact Ex.pickF rfl rfl | exact Ex.eqlS rfl rfl | exact Ex.neqS rfl rfl | exact Ex.eqlPN rfl rfl | exact Ex.neqPN rfl rfl | exact Ex.eqlSN rfl rfl | exact Ex.neqSN rfl rfl | exact Ex.lenStr rfl)) rfl ?_ | refine rs_skip rfl rfl ?_)
            refine rs_end ?_
            refine qe_then ?_
            refine ct_ret ?_
            exact retM_mark (retM (qe_heap (H' := SlT 80 vo (l.out1 e ++ (l.mid3 e fails).held) :: LocC b { l.mid3 e fails with log := (l.mid3 e fails).log ++ (l.mid3 e fails).held, held := [] } :: H) (fun w h => h.drop) (ret2 rfl rfl rfl ⟨_, by rw [ea], by rw [ea]⟩)))
theorem Apply15_nil (W0 : World) (v : Value) (L : List Value) (fails : Bool) (H : List Chunk) [hc : CellsOf v L] : Call Tryd.prog W0 29 [.pointer none, v, .bool fails] H (fun r H' => r = .tuple #[.slice none 0 0, .int .i64 1] ∧ H' = H) := by
  refine call_enterM Tryd.func29 rfl Tryd.ntmps29 rfl ?_
  refine ct_seq ?_
  ((repeat refine ct_seq ?_); refine ct_region ?_)
  refine rs_op rfl rfl (opR_box rfl fun b3 => ?_)
  refine rs_op rfl rfl (opR_box rfl fun b4 => ?_)
  repeat (first | refine rs_ex rfl (by (first | (constructor <;> first | rfl | exact RdC.rd | exact inferInstance) | exact Ex.pickF rfl rfl | exact Ex.eqlS rfl rfl | exact Ex.neqS rfl rfl | exact Ex.eqlPN rfl rfl | exact Ex.neqPN rfl rfl | exact Ex.eqlSN rfl rfl | exact Ex.neqSN rfl rfl | exact Ex.lenStr rfl)) rfl ?_ | refine rs_skip rfl rfl ?_)
  refine rs_end (qe_then ?_)
  (repeat refine ct_seq ?_)
  refine ct_scope ?_
  ((repeat refine ct_seq ?_); refine ct_region ?_; repeat (first | refine rs_ex rfl (by (first | (constructor <;> first | rfl | exact RdC.rd | exact inferInstance) | exact Ex.pickF rfl rfl | exact Ex.eqlS rfl rfl | exact Ex.neqS rfl rfl | exact Ex.eqlPN rfl rfl | exact Ex.neqPN rfl rfl | exact Ex.eqlSN rfl rfl | exact Ex.neqSN rfl rfl | exact Ex.lenStr rfl)) rfl ?_ | refine rs_skip rfl rfl ?_))
  refine rs_end (qe_then ?_)
  (repeat refine ct_seq ?_)
  refine ct_cond rfl (fun _ => ?_) (fun h => by cases h)
  ((repeat refine ct_seq ?_); refine ct_region ?_; repeat (first | refine rs_ex rfl (by (first | (constructor <;> first | rfl | exact RdC.rd | exact inferInstance) | exact Ex.pickF rfl rfl | exact Ex.eqlS rfl rfl | exact Ex.neqS rfl rfl | exact Ex.eqlPN rfl rfl | exact Ex.neqPN rfl rfl | exact Ex.eqlSN rfl rfl | exact Ex.neqSN rfl rfl | exact Ex.lenStr rfl)) rfl ?_ | refine rs_skip rfl rfl ?_))
  refine rs_end (qe_then (ct_ret (retM (qe_heap (fun w h => h.drop.drop) (ret2 rfl rfl rfl ⟨rfl, rfl⟩)))))
end Go.Rost
/- One node's way through epochs: a new one; what it asks for; the head of the laws. -/
namespace Go.Rost
open Go Go.RowKit Go.Proofs

/-- Two results, the first of which lies in a row of cells. -/
theorem retC2 {P : Program} {r : Option Nat} {N : Nat} {W0 : World} {fn : Func} {σ : Env} {H : List Chunk} {K : Value → List Chunk → Prop} {t T n u b o : Nat} {cs : Array Value} {vs : List Value} {v' : Value} [TAgg P T n] (hr : fn.results = #[.cell t T, .tmp u]) (hv : σ.get t = some (.pointer (some ⟨b, o, none⟩))) (hu : σ.get u = some v')
    (hn : vs.length = n) (hb : RdBlk (At W0 H) b cs) (hc : ∀ j v, vs[j]? = some v → cs[o + j]? = some v) (H' : List Chunk) (hh : ∀ w, At W0 H w → At W0 H' w) (hK : K (.tuple #[.agg vs.toArray, v']) H') : QE ⟨P, r, N, W0⟩ [] (bodyPost P fn (RK W0 K)) .ret σ H :=
  fun a w hs hw => ⟨hs.defers, .tuple #[.agg vs.toArray, v'], by
    have h1 := hs.get t _ hv
    have h1' := hs.get u _ hu
    have h2 : (loadVar T ⟨b, o, none⟩).run P w = .ok (.agg vs.toArray) w := by
      subst hn
      simp [loadVar, TAgg.agg (P := P) (T := T) (n := vs.length), TAgg.size (P := P) (T := T), run_loadCells (P := P) (w := w) (vs := vs) (b := b) (o := o) (fun j v e => hb.cell (hc j v e) hw)]
    simp [results, hr, h1, h1', asAddr, h2, -Array.getD_eq_getD_getElem?], _, H', rfl, hK, hh w hw⟩
def Loc.new (v : Int) : Loc := ⟨Fold.new v, (beginV v).1, [], [], false⟩
theorem begin_cnt {v : Int} (h : known v = true) : 0 ≤ (beginV v).1.cnt := by
  have := known_spec.1 h
  obtain rfl | rfl | rfl : v = 1 ∨ v = 2 ∨ v = 3 := by omega
  all_goals decide +kernel
theorem Loc.ok_new {v : Int} (h : known v = true) : (Loc.new v).Ok 0 := ⟨Fold.ok_new v, rfl, fun _ => rfl, begin_cnt h⟩
theorem New15_bad (W0 : World) (v : Int) (H : List Chunk) (hv : known v = false) : Call Tryd.prog W0 28 [.int .i64 v] H (fun r H' => r = .tuple #[.pointer none, .int .i64 130] ∧ H' = H) := by
  refine call_enter Tryd.func28 rfl Tryd.ntmps28 rfl ?_

  refine ct_seq ?_
  refine ct_region ?_
  iterate 2 (first | refine rs_ex rfl (by (first | (constructor <;> first | rfl | exact RdC.rd | exact inferInstance) | exact Ex.pickF rfl rfl | exact Ex.eqlS rfl rfl | exact Ex.neqS rfl rfl | exact Ex.eqlPN rfl rfl | exact Ex.neqPN rfl rfl | exact Ex.eqlSN rfl rfl | exact Ex.neqSN rfl rfl | exact Ex.lenStr rfl)) rfl ?_ | refine rs_skip rfl rfl ?_)
  refine rs_end ?_
  refine qe_then ?_
  refine ct_seq ?_
  refine ct_region ?_
  (first | refine rs_ex rfl (by (first | (constructor <;> first | rfl | exact RdC.rd | exact inferInstance) | exact Ex.pickF rfl rfl | exact Ex.eqlS rfl rfl | exact Ex.neqS rfl rfl | exact Ex.eqlPN rfl rfl | exact Ex.neqPN rfl rfl | exact Ex.eqlSN rfl rfl | exact Ex.neqSN rfl rfl | exact Ex.lenStr rfl)) rfl ?_ | refine rs_skip rfl rfl ?_)
  refine rs_op rfl rfl (opR_fn rfl (Call.heap (fun w h => by (first | exact h | exact h.sw1 | exact h.sw2 | exact h.sw3 | exact h.sw4 | exact h.sw5 | exact h.sw6 | exact h.sw7 | exact h.sw8 | exact h.pull2 | exact h.pull3 | exact h.pull4 | exact h.pull5 | exact h.fit)) ((New14_bad W0 v _ hv).mono ?_)))
  rintro v H' ⟨rfl, rfl⟩
  iterate 5 (first | refine rs_ex rfl (by (first | (constructor <;> first | rfl | exact RdC.rd | exact inferInstance) | exact Ex.pickF rfl rfl | exact Ex.eqlS rfl rfl | exact Ex.neqS rfl rfl | exact Ex.eqlPN rfl rfl | exact Ex.neqPN rfl rfl | exact Ex.eqlSN rfl rfl | exact Ex.neqSN rfl rfl | exact Ex.lenStr rfl)) rfl ?_ | refine rs_skip rfl rfl ?_)
  refine rs_end ?_
  refine qe_then ?_
  refine ct_seq ?_
  refine ct_seq ?_
  refine ct_region ?_
  iterate 2 (first | refine rs_ex rfl (by (first | (constructor <;> first | rfl | exact RdC.rd | exact inferInstance) | exact Ex.pickF rfl rfl | exact Ex.eqlS rfl rfl | exact Ex.neqS rfl rfl | exact Ex.eqlPN rfl rfl | exact Ex.neqPN rfl rfl | exact Ex.eqlSN rfl rfl | exact Ex.neqSN rfl rfl | exact Ex.lenStr rfl)) rfl ?_ | refine rs_skip rfl rfl ?_)
  refine rs_end ?_
  refine qe_then ?_
  refine ct_cond rfl (fun h14 => ?_) (fun h14 => by cases h14)
  refine ct_seq ?_
  refine ct_region ?_
  iterate 3 (first | refine rs_ex rfl (by (first | (constructor <;> first | rfl | exact RdC.rd | exact inferInstance) | exact Ex.pickF rfl rfl | exact Ex.eqlS rfl rfl | exact Ex.neqS rfl rfl | exact Ex.eqlPN rfl rfl | exact Ex.neqPN rfl rfl | exact Ex.eqlSN rfl rfl | exact Ex.neqSN rfl rfl | exact Ex.lenStr rfl)) rfl ?_ | refine rs_skip rfl rfl ?_)
  refine rs_end ?_
  refine qe_then ?_
  refine ct_ret ?_
  exact ret2 rfl rfl rfl ⟨rfl, rfl⟩
theorem New15_ok (W0 : World) (a : Addr) (hg : RdBlk (At W0 []) 0 #[errF a]) (v : Int) (H : List Chunk) (hv : known v = true) : Call Tryd.prog W0 28 [.int .i64 v] H (fun r H' => ∃ b, r = .tuple #[.pointer (some ⟨b, 0, none⟩), .int .i64 0] ∧ H' = LocC b (Loc.new v) :: H) := by
  refine call_enter Tryd.func28 rfl Tryd.ntmps28 rfl ?_

  refine ct_seq ?_
  refine ct_region ?_
  iterate 2 (first | refine rs_ex rfl (by (first | (constructor <;> first | rfl | exact RdC.rd | exact inferInstance) | exact Ex.pickF rfl rfl | exact Ex.eqlS rfl rfl | exact Ex.neqS rfl rfl | exact Ex.eqlPN rfl rfl | exact Ex.neqPN rfl rfl | exact Ex.eqlSN rfl rfl | exact Ex.neqSN rfl rfl | exact Ex.lenStr rfl)) rfl ?_ | refine rs_skip rfl rfl ?_)
  refine rs_end ?_
  refine qe_then ?_
  refine ct_seq ?_
  refine ct_region ?_
  (first | refine rs_ex rfl (by (first | (constructor <;> first | rfl | exact RdC.rd | exact inferInstance) | exact Ex.pickF rfl rfl | exact Ex.eqlS rfl rfl | exact Ex.neqS rfl rfl | exact Ex.eqlPN rfl rfl | exact Ex.neqPN rfl rfl | exact Ex.eqlSN rfl rfl | exact Ex.neqSN rfl rfl | exact Ex.lenStr rfl)) rfl ?_ | refine rs_skip rfl rfl ?_)
  refine rs_op rfl rfl (opR_fn rfl (Call.heap (fun w h => by (first | exact h | exact h.sw1 | exact h.sw2 | exact h.sw3 | exact h.sw4 | exact h.sw5 | exact h.sw6 | exact h.sw7 | exact h.sw8 | exact h.pull2 | exact h.pull3 | exact h.pull4 | exact h.pull5 | exact h.fit)) ((New14_ok W0 v _ hv).mono ?_)))
  rintro v H' ⟨bf, rfl, rfl⟩
  iterate 5 (first | refine rs_ex rfl (by (first | (constructor <;> first | rfl | exact RdC.rd | exact inferInstance) | exact Ex.pickF rfl rfl | exact Ex.eqlS rfl rfl | exact Ex.neqS rfl rfl | exact Ex.eqlPN rfl rfl | exact Ex.neqPN rfl rfl | exact Ex.eqlSN rfl rfl | exact Ex.neqSN rfl rfl | exact Ex.lenStr rfl)) rfl ?_ | refine rs_skip rfl rfl ?_)
  refine rs_end ?_
  refine qe_then ?_
  refine ct_seq ?_
  refine ct_seq ?_
  refine ct_region ?_
  iterate 2 (first | refine rs_ex rfl (by (first | (constructor <;> first | rfl | exact RdC.rd | exact inferInstance) | exact Ex.pickF rfl rfl | exact Ex.eqlS rfl rfl | exact Ex.neqS rfl rfl | exact Ex.eqlPN rfl rfl | exact Ex.neqPN rfl rfl | exact Ex.eqlSN rfl rfl | exact Ex.neqSN rfl rfl | exact Ex.lenStr rfl)) rfl ?_ | refine rs_skip rfl rfl ?_)
  refine rs_end ?_
  refine qe_then ?_
  refine ct_cond rfl (fun h14 => by cases h14) (fun h14 => ?_)
  refine ct_skip ?_
  refine qe_then ?_
  refine ct_seq ?_
  refine ct_region ?_
  (first | refine rs_ex rfl (by (first | (constructor <;> first | rfl | exact RdC.rd | exact inferInstance) | exact Ex.pickF rfl rfl | exact Ex.eqlS rfl rfl | exact Ex.neqS rfl rfl | exact Ex.eqlPN rfl rfl | exact Ex.neqPN rfl rfl | exact Ex.eqlSN rfl rfl | exact Ex.neqSN rfl rfl | exact Ex.lenStr rfl)) rfl ?_ | refine rs_skip rfl rfl ?_)
  refine rs_op rfl rfl (opR_fn rfl (Call.heap (fun w h => by (first | exact h | exact h.sw1 | exact h.sw2 | exact h.sw3 | exact h.sw4 | exact h.sw5 | exact h.sw6 | exact h.sw7 | exact h.sw8 | exact h.pull2 | exact h.pull3 | exact h.pull4 | exact h.pull5 | exact h.fit)) ((Begin_c W0 a hg v _).mono ?_)))
  rintro v H' ⟨rfl, rfl⟩
  iterate 3 (first | refine rs_ex rfl (by (first | (constructor <;> first | rfl | exact RdC.rd | exact inferInstance) | exact Ex.pickF rfl rfl | exact Ex.eqlS rfl rfl | exact Ex.neqS rfl rfl | exact Ex.eqlPN rfl rfl | exact Ex.neqPN rfl rfl | exact Ex.eqlSN rfl rfl | exact Ex.neqSN rfl rfl | exact Ex.lenStr rfl)) rfl ?_ | refine rs_skip rfl rfl ?_)
  refine rs_op rfl rfl (opR_alloc fun b6 => ?_)
  refine rs_opN rfl (opR_store rfl rfl rfl rfl ?_)
  (first | refine rs_ex rfl (by (first | (constructor <;> first | rfl | exact RdC.rd | exact inferInstance) | exact Ex.pickF rfl rfl | exact Ex.eqlS rfl rfl | exact Ex.neqS rfl rfl | exact Ex.eqlPN rfl rfl | exact Ex.neqPN rfl rfl | exact Ex.eqlSN rfl rfl | exact Ex.neqSN rfl rfl | exact Ex.lenStr rfl)) rfl ?_ | refine rs_skip rfl rfl ?_)
  refine rs_end ?_
  refine qe_then ?_
  refine ct_seq ?_
  refine ct_region ?_
  iterate 2 (first | refine rs_ex rfl (by (first | (constructor <;> first | rfl | exact RdC.rd | exact inferInstance) | exact Ex.pickF rfl rfl | exact Ex.eqlS rfl rfl | exact Ex.neqS rfl rfl | exact Ex.eqlPN rfl rfl | exact Ex.neqPN rfl rfl | exact Ex.eqlSN rfl rfl | exact Ex.neqSN rfl rfl | exact Ex.lenStr rfl)) rfl ?_ | refine rs_skip rfl rfl ?_)
  refine rs_ex rfl (ex_build rfl) rfl ?_
  refine rs_op rfl rfl (opR_box rfl fun b24 => ?_)
  iterate 2 (first | refine rs_ex rfl (by (first | (constructor <;> first | rfl | exact RdC.rd | exact inferInstance) | exact Ex.pickF rfl rfl | exact Ex.eqlS rfl rfl | exact Ex.neqS rfl rfl | exact Ex.eqlPN rfl rfl | exact Ex.neqPN rfl rfl | exact Ex.eqlSN rfl rfl | exact Ex.neqSN rfl rfl | exact Ex.lenStr rfl)) rfl ?_ | refine rs_skip rfl rfl ?_)
  refine rs_end ?_
  refine qe_then ?_
  refine ct_ret ?_
  exact qe_heap (H' := LocC b24 (Loc.new v) :: H) (fun w h => LocC.shut (l := Loc.new v) (v1 := .slice none 0 0) (v2 := .slice none 0 0) (At.top [_, _, _, _] [2, 0, 1, 3] (At.slt_nil (α := Msg) 80 (At.slt_nil (α := Msg) 80 (At.top [_, _, _] [0, 2] h))))) (ret2 rfl rfl rfl ⟨b24, rfl, rfl⟩)
theorem Asks_nil (W0 : World) (H : List Chunk) : Call Tryd.prog W0 35 [.pointer none] H (fun v H' => v = .tuple #[(⟨0, 0, 0, []⟩ : Ent).v none 0, .bool false] ∧ H' = H) := by
  refine call_enter Tryd.func35 rfl Tryd.ntmps35 rfl ?_

  refine ct_seq ?_
  refine ct_region ?_
  refine rs_op rfl rfl (opR_alloc fun b2 => ?_)
  (first | refine rs_ex rfl (by (first | (constructor <;> first | rfl | exact RdC.rd | exact inferInstance) | exact Ex.pickF rfl rfl | exact Ex.eqlS rfl rfl | exact Ex.neqS rfl rfl | exact Ex.eqlPN rfl rfl | exact Ex.neqPN rfl rfl | exact Ex.eqlSN rfl rfl | exact Ex.neqSN rfl rfl | exact Ex.lenStr rfl)) rfl ?_ | refine rs_skip rfl rfl ?_)
  refine rs_end ?_
  refine qe_then ?_
  refine ct_seq ?_
  refine ct_seq ?_
  refine ct_region ?_
  (first | refine rs_ex rfl (by (first | (constructor <;> first | rfl | exact RdC.rd | exact inferInstance) | exact Ex.pickF rfl rfl | exact Ex.eqlS rfl rfl | exact Ex.neqS rfl rfl | exact Ex.eqlPN rfl rfl | exact Ex.neqPN rfl rfl | exact Ex.eqlSN rfl rfl | exact Ex.neqSN rfl rfl | exact Ex.lenStr rfl)) rfl ?_ | refine rs_skip rfl rfl ?_)
  refine rs_op rfl rfl (opR_fn rfl (Call.heap (fun w h => by (first | exact h | exact h.sw1 | exact h.sw2 | exact h.sw3 | exact h.sw4 | exact h.sw5 | exact h.sw6 | exact h.sw7 | exact h.sw8 | exact h.pull2 | exact h.pull3 | exact h.pull4 | exact h.pull5 | exact h.fit)) ((IsBlocked_nil W0 _).mono ?_)))
  rintro v H' ⟨rfl, rfl⟩
  (first | refine rs_ex rfl (by (first | (constructor <;> first | rfl | exact RdC.rd | exact inferInstance) | exact Ex.pickF rfl rfl | exact Ex.eqlS rfl rfl | exact Ex.neqS rfl rfl | exact Ex.eqlPN rfl rfl | exact Ex.neqPN rfl rfl | exact Ex.eqlSN rfl rfl | exact Ex.neqSN rfl rfl | exact Ex.lenStr rfl)) rfl ?_ | refine rs_skip rfl rfl ?_)
  refine rs_end ?_
  refine qe_then ?_
  refine ct_cond rfl (fun h6 => ?_) (fun h6 => by cases h6)
  refine ct_seq ?_
  refine ct_region ?_
  refine rs_ex rfl (ex_build rfl) rfl ?_
  refine rs_opN rfl (opR_store rfl rfl rfl rfl ?_)
  (first | refine rs_ex rfl (by (first | (constructor <;> first | rfl | exact RdC.rd | exact inferInstance) | exact Ex.pickF rfl rfl | exact Ex.eqlS rfl rfl | exact Ex.neqS rfl rfl | exact Ex.eqlPN rfl rfl | exact Ex.neqPN rfl rfl | exact Ex.eqlSN rfl rfl | exact Ex.neqSN rfl rfl | exact Ex.lenStr rfl)) rfl ?_ | refine rs_skip rfl rfl ?_)
  refine rs_end ?_
  refine qe_then ?_
  refine ct_ret ?_
  exact retC2 (vs := [.int .i64 0, .int .u32 0, .int .i64 0, .slice none 0 0]) rfl rfl rfl rfl RdC.rd (fun j v e => by simpa using e) H (fun w h => h.fit) ⟨rfl, rfl⟩
theorem Asks_c (W0 : World) (b n : Nat) (l : Loc) (H : List Chunk) (hok : l.f.Ok n) (hn : n ≤ 500) (hb : l.blk = true) : Call Tryd.prog W0 35 [.pointer (some ⟨b, 0, none⟩)] (LocC b l :: H) (fun v H' => v = .tuple #[(⟨3, l.f.last.epoch, 0, []⟩ : Ent).v none 0, .bool true] ∧ H' = LocC b l :: H) := by
  refine call_enter Tryd.func35 rfl Tryd.ntmps35 rfl ?_

  refine ct_seq ?_
  refine ct_region ?_
  refine rs_op rfl rfl (opR_alloc fun b2 => ?_)
  (first | refine rs_ex rfl (by (first | (constructor <;> first | rfl | exact RdC.rd | exact inferInstance) | exact Ex.pickF rfl rfl | exact Ex.eqlS rfl rfl | exact Ex.neqS rfl rfl | exact Ex.eqlPN rfl rfl | exact Ex.neqPN rfl rfl | exact Ex.eqlSN rfl rfl | exact Ex.neqSN rfl rfl | exact Ex.lenStr rfl)) rfl ?_ | refine rs_skip rfl rfl ?_)
  refine rs_end ?_
  refine qe_then ?_
  refine ct_seq ?_
  refine ct_seq ?_
  refine ct_region ?_
  (first | refine rs_ex rfl (by (first | (constructor <;> first | rfl | exact RdC.rd | exact inferInstance) | exact Ex.pickF rfl rfl | exact Ex.eqlS rfl rfl | exact Ex.neqS rfl rfl | exact Ex.eqlPN rfl rfl | exact Ex.neqPN rfl rfl | exact Ex.eqlSN rfl rfl | exact Ex.neqSN rfl rfl | exact Ex.lenStr rfl)) rfl ?_ | refine rs_skip rfl rfl ?_)
  refine rs_op rfl rfl (opR_fn rfl (Call.heap (fun w h => by (first | exact h | exact h.sw1 | exact h.sw2 | exact h.sw3 | exact h.sw4 | exact h.sw5 | exact h.sw6 | exact h.sw7 | exact h.sw8 | exact h.pull2 | exact h.pull3 | exact h.pull4 | exact h.pull5 | exact h.fit)) ((IsBlocked_c W0 b l _).mono ?_)))
  rintro v H' ⟨rfl, rfl⟩
  (first | refine rs_ex rfl (by (first | (constructor <;> first | rfl | exact RdC.rd | exact inferInstance) | exact Ex.pickF rfl rfl | exact Ex.eqlS rfl rfl | exact Ex.neqS rfl rfl | exact Ex.eqlPN rfl rfl | exact Ex.neqPN rfl rfl | exact Ex.eqlSN rfl rfl | exact Ex.neqSN rfl rfl | exact Ex.lenStr rfl)) rfl ?_ | refine rs_skip rfl rfl ?_)
  refine rs_end ?_
  refine qe_then ?_
  refine ct_cond rfl (fun h6 => by rw [hb] at h6; cases h6) (fun h6 => ?_)
  refine ct_skip ?_
  refine qe_then ?_
  refine ct_seq ?_
  refine ct_region ?_
  (first | refine rs_ex rfl (by (first | (constructor <;> first | rfl | exact RdC.rd | exact inferInstance) | exact Ex.pickF rfl rfl | exact Ex.eqlS rfl rfl | exact Ex.neqS rfl rfl | exact Ex.eqlPN rfl rfl | exact Ex.neqPN rfl rfl | exact Ex.eqlSN rfl rfl | exact Ex.neqSN rfl rfl | exact Ex.lenStr rfl)) rfl ?_ | refine rs_skip rfl rfl ?_)
  refine rs_op rfl rfl (opR_fn rfl (Call.heap (fun w h => by (first | exact h | exact h.sw1 | exact h.sw2 | exact h.sw3 | exact h.sw4 | exact h.sw5 | exact h.sw6 | exact h.sw7 | exact h.sw8 | exact h.pull2 | exact h.pull3 | exact h.pull4 | exact h.pull5 | exact h.fit)) ((Era_c W0 b n l _ hok hn).mono ?_)))
  rintro v H' ⟨rfl, rfl⟩
  refine rs_ex rfl (ex_field (v := .int .u32 l.f.last.epoch) Tryd.underlying55 rfl 22 rfl rfl rfl) rfl ?_
  refine rs_ex rfl (ex_build rfl) rfl ?_
  refine rs_opN rfl (opR_store rfl rfl rfl rfl ?_)
  (first | refine rs_ex rfl (by (first | (constructor <;> first | rfl | exact RdC.rd | exact inferInstance) | exact Ex.pickF rfl rfl | exact Ex.eqlS rfl rfl | exact Ex.neqS rfl rfl | exact Ex.eqlPN rfl rfl | exact Ex.neqPN rfl rfl | exact Ex.eqlSN rfl rfl | exact Ex.neqSN rfl rfl | exact Ex.lenStr rfl)) rfl ?_ | refine rs_skip rfl rfl ?_)
  refine rs_end ?_
  refine qe_then ?_
  refine ct_ret ?_
  exact retC2 (vs := [.int .i64 3, .int .u32 l.f.last.epoch, .int .i64 0, .slice none 0 0]) rfl rfl rfl rfl RdC.rd (fun j v e => by simpa using e) (LocC b l :: H) (fun w h => h.fit) ⟨rfl, rfl⟩
theorem Msg15_c (W0 : World) (f c : Int) (H : List Chunk) : Call Tryd.prog W0 42 [.int .i64 f, .int .u32 c] H (fun v H' => v = (⟨⟨f, c⟩, ⟨#[109]⟩⟩ : Msg).v ∧ H' = H) := by
  refine call_enter Tryd.func42 rfl Tryd.ntmps42 rfl ?_

  refine ct_seq ?_
  refine ct_region ?_
  refine rs_op rfl rfl (opR_alloc fun b4 => ?_)
  refine rs_end ?_
  refine qe_then ?_
  refine ct_seq ?_
  refine ct_region ?_
  iterate 2 (first | refine rs_ex rfl (by (first | (constructor <;> first | rfl | exact RdC.rd | exact inferInstance) | exact Ex.pickF rfl rfl | exact Ex.eqlS rfl rfl | exact Ex.neqS rfl rfl | exact Ex.eqlPN rfl rfl | exact Ex.neqPN rfl rfl | exact Ex.eqlSN rfl rfl | exact Ex.neqSN rfl rfl | exact Ex.lenStr rfl)) rfl ?_ | refine rs_skip rfl rfl ?_)
  refine rs_ex rfl (ex_build rfl) rfl ?_
  refine rs_ex rfl (ex_build rfl) rfl ?_
  refine rs_opN rfl (opR_store rfl rfl rfl rfl ?_)
  refine rs_end ?_
  refine qe_then ?_
  refine ct_ret ?_
  exact retC (vs := [.int .i64 f, .int .u32 c, .string ⟨#[109]⟩]) rfl rfl rfl RdC.rd (fun j v e => by simpa using e) H (fun w h => h.fit) ⟨rfl, rfl⟩
def shM : Msg := ⟨⟨1, 1⟩, ⟨#[109]⟩⟩
def shX1 : Ent := ⟨2, 1, 2, []⟩
def shX2 : Ent := ⟨1, 2, 0, [shM]⟩
def shX3 : Ent := ⟨3, 2, 0, []⟩
def shL1 : Loc := ((Loc.new 1).apply shX1 true).2
def shL2 : Loc := (shL1.apply shX2 false).2
def shL3 : Loc := (shL2.apply shX3 false).2
theorem shA1 : ((Loc.new 1).apply shX1 true).1 = ([], 0) := by decide +kernel
theorem shB1 : shL1.blk = true := by decide +kernel
theorem shA2 : (shL1.apply shX2 false).1 = ([], 0) := by decide +kernel
theorem shB2 : shL2.blk = true := by decide +kernel
theorem shP2 : shL2.f.last.epoch = 2 := by decide +kernel
theorem shA3 : (shL2.apply shX3 false).1 = ([shM], 0) := by decide +kernel
theorem shB3 : shL3.blk = false := by decide +kernel
theorem shK1 : shL1.Ok 1 := (Loc.ok_new (by decide)).apply (by omega) _ _
theorem shK2 : shL2.Ok 2 := shK1.apply (by omega) _ _
theorem shK3 : shL3.Ok 3 := shK2.apply (by omega) _ _
theorem Shown15_c (W0 : World) (a : Addr) (hg : RdBlk (At W0 []) 0 #[errF a]) (H : List Chunk) : Call Tryd.prog W0 27 [] H (fun v H' => v = .bool true ∧ H' = H) := by
  refine call_enter Tryd.func27 rfl Tryd.ntmps27 rfl ?_

  refine ct_seq ?_
  refine ct_region ?_
  (first | refine rs_ex rfl (by (first | (constructor <;> first | rfl | exact RdC.rd | exact inferInstance) | exact Ex.pickF rfl rfl | exact Ex.eqlS rfl rfl | exact Ex.neqS rfl rfl | exact Ex.eqlPN rfl rfl | exact Ex.neqPN rfl rfl | exact Ex.eqlSN rfl rfl | exact Ex.neqSN rfl rfl | exact Ex.lenStr rfl)) rfl ?_ | refine rs_skip rfl rfl ?_)
  refine rs_end ?_
  refine qe_then ?_
  refine ct_seq ?_
  refine ct_region ?_
  refine rs_op rfl rfl (opR_fn rfl (Call.heap (fun w h => by (first | exact h | exact h.sw1 | exact h.sw2 | exact h.sw3 | exact h.sw4 | exact h.sw5 | exact h.sw6 | exact h.sw7 | exact h.sw8 | exact h.pull2 | exact h.pull3 | exact h.pull4 | exact h.pull5 | exact h.fit)) ((New15_ok W0 a hg 1 _ (by decide)).mono ?_)))
  rintro v H' ⟨b, rfl, rfl⟩
  iterate 5 (first | refine rs_ex rfl (by (first | (constructor <;> first | rfl | exact RdC.rd | exact inferInstance) | exact Ex.pickF rfl rfl | exact Ex.eqlS rfl rfl | exact Ex.neqS rfl rfl | exact Ex.eqlPN rfl rfl | exact Ex.neqPN rfl rfl | exact Ex.eqlSN rfl rfl | exact Ex.neqSN rfl rfl | exact Ex.lenStr rfl)) rfl ?_ | refine rs_skip rfl rfl ?_)
  refine rs_end ?_
  refine qe_then ?_
  refine ct_seq ?_
  refine ct_region ?_
  (first | refine rs_ex rfl (by (first | (constructor <;> first | rfl | exact RdC.rd | exact inferInstance) | exact Ex.pickF rfl rfl | exact Ex.eqlS rfl rfl | exact Ex.neqS rfl rfl | exact Ex.eqlPN rfl rfl | exact Ex.neqPN rfl rfl | exact Ex.eqlSN rfl rfl | exact Ex.neqSN rfl rfl | exact Ex.lenStr rfl)) rfl ?_ | refine rs_skip rfl rfl ?_)
  refine rs_ex rfl (ex_build rfl) rfl ?_
  refine rs_op rfl rfl (opR_fn rfl (Call.heap (fun w h => by (first | exact h | exact h.sw1 | exact h.sw2 | exact h.sw3 | exact h.sw4 | exact h.sw5 | exact h.sw6 | exact h.sw7 | exact h.sw8 | exact h.pull2 | exact h.pull3 | exact h.pull4 | exact h.pull5 | exact h.fit)) ((Apply15_c W0 a hg b 0 (Loc.new 1) shX1 none 0 true _ .nil (by decide) (by decide) (Loc.ok_new (by decide)) (by omega)).mono ?_)))
  rintro v H' ⟨u1, rfl, rfl⟩
  rw [shA1]
  refine rs_prp (fun w h => h.slv) ?_; rintro ⟨pu1, cu1, e1, hu1⟩
  subst e1
  refine rs_heap (H' := LocC b shL1 :: H) (fun w h => h.drop) ?_
  iterate 5 (first | refine rs_ex rfl (by (first | (constructor <;> first | rfl | exact RdC.rd | exact inferInstance) | exact Ex.pickF rfl rfl | exact Ex.eqlS rfl rfl | exact Ex.neqS rfl rfl | exact Ex.eqlPN rfl rfl | exact Ex.neqPN rfl rfl | exact Ex.eqlSN rfl rfl | exact Ex.neqSN rfl rfl | exact Ex.lenStr rfl)) rfl ?_ | refine rs_skip rfl rfl ?_)
  refine rs_end ?_
  refine qe_then ?_
  refine ct_seq ?_
  refine ct_region ?_
  (first | refine rs_ex rfl (by (first | (constructor <;> first | rfl | exact RdC.rd | exact inferInstance) | exact Ex.pickF rfl rfl | exact Ex.eqlS rfl rfl | exact Ex.neqS rfl rfl | exact Ex.eqlPN rfl rfl | exact Ex.neqPN rfl rfl | exact Ex.eqlSN rfl rfl | exact Ex.neqSN rfl rfl | exact Ex.lenStr rfl)) rfl ?_ | refine rs_skip rfl rfl ?_)
  refine rs_op rfl rfl (opR_fn rfl (Call.heap (fun w h => by (first | exact h | exact h.sw1 | exact h.sw2 | exact h.sw3 | exact h.sw4 | exact h.sw5 | exact h.sw6 | exact h.sw7 | exact h.sw8 | exact h.pull2 | exact h.pull3 | exact h.pull4 | exact h.pull5 | exact h.fit)) ((IsBlocked_c W0 b shL1 _).mono ?_)))
  rintro v H' ⟨rfl, rfl⟩
  rw [shB1]
  (first | refine rs_ex rfl (by (first | (constructor <;> first | rfl | exact RdC.rd | exact inferInstance) | exact Ex.pickF rfl rfl | exact Ex.eqlS rfl rfl | exact Ex.neqS rfl rfl | exact Ex.eqlPN rfl rfl | exact Ex.neqPN rfl rfl | exact Ex.eqlSN rfl rfl | exact Ex.neqSN rfl rfl | exact Ex.lenStr rfl)) rfl ?_ | refine rs_skip rfl rfl ?_)
  refine rs_end ?_
  refine qe_then ?_
  refine ct_seq ?_
  refine ct_region ?_
  (first | refine rs_ex rfl (by (first | (constructor <;> first | rfl | exact RdC.rd | exact inferInstance) | exact Ex.pickF rfl rfl | exact Ex.eqlS rfl rfl | exact Ex.neqS rfl rfl | exact Ex.eqlPN rfl rfl | exact Ex.neqPN rfl rfl | exact Ex.eqlSN rfl rfl | exact Ex.neqSN rfl rfl | exact Ex.lenStr rfl)) rfl ?_ | refine rs_skip rfl rfl ?_)
  refine rs_op rfl rfl (opR_fn rfl (Call.heap (fun w h => by (first | exact h | exact h.sw1 | exact h.sw2 | exact h.sw3 | exact h.sw4 | exact h.sw5 | exact h.sw6 | exact h.sw7 | exact h.sw8 | exact h.pull2 | exact h.pull3 | exact h.pull4 | exact h.pull5 | exact h.fit)) ((Msg15_c W0 1 1 _).mono ?_)))
  rintro v H' ⟨rfl, rfl⟩
  refine rs_op rfl rfl (opR_buildSlice rfl rfl rfl rfl fun b29 => ?_)
  refine rs_ex rfl (ex_build rfl) rfl ?_
  refine rs_op rfl rfl (opR_fn rfl (Call.heap (fun w h => by (first | exact h | exact h.sw1 | exact h.sw2 | exact h.sw3 | exact h.sw4 | exact h.sw5 | exact h.sw6 | exact h.sw7 | exact h.sw8 | exact h.pull2 | exact h.pull3 | exact h.pull4 | exact h.pull5 | exact h.fit)) ((Apply15_c W0 a hg b 1 shL1 shX2 (some ⟨b29, 0, none⟩) 1 false _ (by exact SlR.blk RdC.rd [shM] rfl) (by decide) (by decide) shK1 (by omega)).mono ?_)))
  rintro v H' ⟨u2, rfl, rfl⟩
  rw [shA2]
  refine rs_prp (fun w h => h.slv) ?_; rintro ⟨pu2, cu2, e2, hu2⟩
  subst e2
  refine rs_heap (H' := LocC b shL2 :: H) (fun w h => At.top [_, _, _] [1] h) ?_
  iterate 5 (first | refine rs_ex rfl (by (first | (constructor <;> first | rfl | exact RdC.rd | exact inferInstance) | exact Ex.pickF rfl rfl | exact Ex.eqlS rfl rfl | exact Ex.neqS rfl rfl | exact Ex.eqlPN rfl rfl | exact Ex.neqPN rfl rfl | exact Ex.eqlSN rfl rfl | exact Ex.neqSN rfl rfl | exact Ex.lenStr rfl)) rfl ?_ | refine rs_skip rfl rfl ?_)
  refine rs_end ?_
  refine qe_then ?_
  refine ct_seq ?_
  refine ct_region ?_
  (first | refine rs_ex rfl (by (first | (constructor <;> first | rfl | exact RdC.rd | exact inferInstance) | exact Ex.pickF rfl rfl | exact Ex.eqlS rfl rfl | exact Ex.neqS rfl rfl | exact Ex.eqlPN rfl rfl | exact Ex.neqPN rfl rfl | exact Ex.eqlSN rfl rfl | exact Ex.neqSN rfl rfl | exact Ex.lenStr rfl)) rfl ?_ | refine rs_skip rfl rfl ?_)
  refine rs_op rfl rfl (opR_fn rfl (Call.heap (fun w h => by (first | exact h | exact h.sw1 | exact h.sw2 | exact h.sw3 | exact h.sw4 | exact h.sw5 | exact h.sw6 | exact h.sw7 | exact h.sw8 | exact h.pull2 | exact h.pull3 | exact h.pull4 | exact h.pull5 | exact h.fit)) ((Asks_c W0 b 2 shL2 _ shK2.fok (by omega) shB2).mono ?_)))
  rintro v H' ⟨rfl, rfl⟩
  rw [shP2]
  iterate 3 (first | refine rs_ex rfl (by (first | (constructor <;> first | rfl | exact RdC.rd | exact inferInstance) | exact Ex.pickF rfl rfl | exact Ex.eqlS rfl rfl | exact Ex.neqS rfl rfl | exact Ex.eqlPN rfl rfl | exact Ex.neqPN rfl rfl | exact Ex.eqlSN rfl rfl | exact Ex.neqSN rfl rfl | exact Ex.lenStr rfl)) rfl ?_ | refine rs_skip rfl rfl ?_)
  refine rs_op rfl rfl (opR_alloc fun b8 => ?_)
  refine rs_opN rfl (opR_store rfl rfl rfl rfl ?_)
  (first | refine rs_ex rfl (by (first | (constructor <;> first | rfl | exact RdC.rd | exact inferInstance) | exact Ex.pickF rfl rfl | exact Ex.eqlS rfl rfl | exact Ex.neqS rfl rfl | exact Ex.eqlPN rfl rfl | exact Ex.neqPN rfl rfl | exact Ex.eqlSN rfl rfl | exact Ex.neqSN rfl rfl | exact Ex.lenStr rfl)) rfl ?_ | refine rs_skip rfl rfl ?_)
  refine rs_end ?_
  refine qe_then ?_
  refine ct_seq ?_
  refine ct_region ?_
  iterate 2 (first | refine rs_ex rfl (by (first | (constructor <;> first | rfl | exact RdC.rd | exact inferInstance) | exact Ex.pickF rfl rfl | exact Ex.eqlS rfl rfl | exact Ex.neqS rfl rfl | exact Ex.eqlPN rfl rfl | exact Ex.neqPN rfl rfl | exact Ex.eqlSN rfl rfl | exact Ex.neqSN rfl rfl | exact Ex.lenStr rfl)) rfl ?_ | refine rs_skip rfl rfl ?_)
  refine rs_op rfl rfl (opR_fn rfl (Call.heap (fun w h => by (first | exact h | exact h.sw1 | exact h.sw2 | exact h.sw3 | exact h.sw4 | exact h.sw5 | exact h.sw6 | exact h.sw7 | exact h.sw8 | exact h.pull2 | exact h.pull3 | exact h.pull4 | exact h.pull5 | exact h.fit)) ((Apply15_c W0 a hg b 2 shL2 shX3 none 0 false _ .nil (by decide) (by decide) shK2 (by omega)).mono ?_)))
  rintro v H' ⟨u3, rfl, rfl⟩
  rw [shA3]
  refine rs_prp (fun w h => h.slv) ?_; rintro ⟨pu3, cu3, e3, hu3⟩
  subst e3
  refine rs_heap (H' := SlT 80 (.slice pu3 1 cu3) [shM] :: LocC b shL3 :: H) (fun w h => At.top [_, _] [0, 1] (At.top [_, _, _] [0, 1] h)) ?_
  iterate 5 (first | refine rs_ex rfl (by (first | (constructor <;> first | rfl | exact RdC.rd | exact inferInstance) | exact Ex.pickF rfl rfl | exact Ex.eqlS rfl rfl | exact Ex.neqS rfl rfl | exact Ex.eqlPN rfl rfl | exact Ex.neqPN rfl rfl | exact Ex.eqlSN rfl rfl | exact Ex.neqSN rfl rfl | exact Ex.lenStr rfl)) rfl ?_ | refine rs_skip rfl rfl ?_)
  refine rs_end ?_
  refine qe_then ?_
  refine ct_seq ?_
  refine ct_region ?_
  refine rs_op rfl rfl (opR_fn rfl (Call.heap (fun w h => by (first | exact h | exact h.sw1 | exact h.sw2 | exact h.sw3 | exact h.sw4 | exact h.sw5 | exact h.sw6 | exact h.sw7 | exact h.sw8 | exact h.pull2 | exact h.pull3 | exact h.pull4 | exact h.pull5 | exact h.fit)) ((New15_bad W0 0 _ rfl).mono ?_)))
  rintro v H' ⟨rfl, rfl⟩
  iterate 5 (first | refine rs_ex rfl (by (first | (constructor <;> first | rfl | exact RdC.rd | exact inferInstance) | exact Ex.pickF rfl rfl | exact Ex.eqlS rfl rfl | exact Ex.neqS rfl rfl | exact Ex.eqlPN rfl rfl | exact Ex.neqPN rfl rfl | exact Ex.eqlSN rfl rfl | exact Ex.neqSN rfl rfl | exact Ex.lenStr rfl)) rfl ?_ | refine rs_skip rfl rfl ?_)
  refine rs_end ?_
  refine qe_then ?_
  refine ct_seq ?_
  refine ct_region ?_
  iterate 3 (first | refine rs_ex rfl (by (first | (constructor <;> first | rfl | exact RdC.rd | exact inferInstance) | exact Ex.pickF rfl rfl | exact Ex.eqlS rfl rfl | exact Ex.neqS rfl rfl | exact Ex.eqlPN rfl rfl | exact Ex.neqPN rfl rfl | exact Ex.eqlSN rfl rfl | exact Ex.neqSN rfl rfl | exact Ex.lenStr rfl)) rfl ?_ | refine rs_skip rfl rfl ?_)
  refine rs_split (fun h51 => ?_) (fun h51 => by simp at h51)
  iterate 4 (first | refine rs_ex rfl (by (first | (constructor <;> first | rfl | exact RdC.rd | exact inferInstance) | exact Ex.pickF rfl rfl | exact Ex.eqlS rfl rfl | exact Ex.neqS rfl rfl | exact Ex.eqlPN rfl rfl | exact Ex.neqPN rfl rfl | exact Ex.eqlSN rfl rfl | exact Ex.neqSN rfl rfl | exact Ex.lenStr rfl)) rfl ?_ | refine rs_skip rfl rfl ?_)
  refine rs_split (fun h55 => ?_) (fun h55 => by simp at h55)
  iterate 4 (first | refine rs_ex rfl (by (first | (constructor <;> first | rfl | exact RdC.rd | exact inferInstance) | exact Ex.pickF rfl rfl | exact Ex.eqlS rfl rfl | exact Ex.neqS rfl rfl | exact Ex.eqlPN rfl rfl | exact Ex.neqPN rfl rfl | exact Ex.eqlSN rfl rfl | exact Ex.neqSN rfl rfl | exact Ex.lenStr rfl)) rfl ?_ | refine rs_skip rfl rfl ?_)
  refine rs_split (fun h59 => ?_) (fun h59 => by simp at h59)
  iterate 4 (first | refine rs_ex rfl (by (first | (constructor <;> first | rfl | exact RdC.rd | exact inferInstance) | exact Ex.pickF rfl rfl | exact Ex.eqlS rfl rfl | exact Ex.neqS rfl rfl | exact Ex.eqlPN rfl rfl | exact Ex.neqPN rfl rfl | exact Ex.eqlSN rfl rfl | exact Ex.neqSN rfl rfl | exact Ex.lenStr rfl)) rfl ?_ | refine rs_skip rfl rfl ?_)
  refine rs_split (fun h63 => ?_) (fun h63 => by simp at h63)
  iterate 4 (first | refine rs_ex rfl (by (first | (constructor <;> first | rfl | exact RdC.rd | exact inferInstance) | exact Ex.pickF rfl rfl | exact Ex.eqlS rfl rfl | exact Ex.neqS rfl rfl | exact Ex.eqlPN rfl rfl | exact Ex.neqPN rfl rfl | exact Ex.eqlSN rfl rfl | exact Ex.neqSN rfl rfl | exact Ex.lenStr rfl)) rfl ?_ | refine rs_skip rfl rfl ?_)
  refine rs_split (fun h67 => ?_) (fun h67 => by simp at h67)
  iterate 3 (first | refine rs_ex rfl (by (first | (constructor <;> first | rfl | exact RdC.rd | exact inferInstance) | exact Ex.pickF rfl rfl | exact Ex.eqlS rfl rfl | exact Ex.neqS rfl rfl | exact Ex.eqlPN rfl rfl | exact Ex.neqPN rfl rfl | exact Ex.eqlSN rfl rfl | exact Ex.neqSN rfl rfl | exact Ex.lenStr rfl)) rfl ?_ | refine rs_skip rfl rfl ?_)
  refine rs_split (fun h70 => ?_) (fun h70 => by simp at h70)
  iterate 3 (first | refine rs_ex rfl (by (first | (constructor <;> first | rfl | exact RdC.rd | exact inferInstance) | exact Ex.pickF rfl rfl | exact Ex.eqlS rfl rfl | exact Ex.neqS rfl rfl | exact Ex.eqlPN rfl rfl | exact Ex.neqPN rfl rfl | exact Ex.eqlSN rfl rfl | exact Ex.neqSN rfl rfl | exact Ex.lenStr rfl)) rfl ?_ | refine rs_skip rfl rfl ?_)
  refine rs_split (fun h73 => ?_) (fun h73 => by simp at h73)
  iterate 5 (first | refine rs_ex rfl (by (first | (constructor <;> first | rfl | exact RdC.rd | exact inferInstance) | exact Ex.pickF rfl rfl | exact Ex.eqlS rfl rfl | exact Ex.neqS rfl rfl | exact Ex.eqlPN rfl rfl | exact Ex.neqPN rfl rfl | exact Ex.eqlSN rfl rfl | exact Ex.neqSN rfl rfl | exact Ex.lenStr rfl)) rfl ?_ | refine rs_skip rfl rfl ?_)
  refine rs_split (fun h78 => ?_) (fun h78 => by simp at h78)
  iterate 5 (first | refine rs_ex rfl (by (first | (constructor <;> first | rfl | exact RdC.rd | exact inferInstance) | exact Ex.pickF rfl rfl | exact Ex.eqlS rfl rfl | exact Ex.neqS rfl rfl | exact Ex.eqlPN rfl rfl | exact Ex.neqPN rfl rfl | exact Ex.eqlSN rfl rfl | exact Ex.neqSN rfl rfl | exact Ex.lenStr rfl)) rfl ?_ | refine rs_skip rfl rfl ?_)
  refine rs_split (fun h83 => ?_) (fun h83 => by simp at h83)
  (first | refine rs_ex rfl (by (first | (constructor <;> first | rfl | exact RdC.rd | exact inferInstance) | exact Ex.pickF rfl rfl | exact Ex.eqlS rfl rfl | exact Ex.neqS rfl rfl | exact Ex.eqlPN rfl rfl | exact Ex.neqPN rfl rfl | exact Ex.eqlSN rfl rfl | exact Ex.neqSN rfl rfl | exact Ex.lenStr rfl)) rfl ?_ | refine rs_skip rfl rfl ?_)
  refine rs_op rfl rfl (opR_fn rfl (Call.heap (fun w h => by (first | exact h | exact h.sw1 | exact h.sw2 | exact h.sw3 | exact h.sw4 | exact h.sw5 | exact h.sw6 | exact h.sw7 | exact h.sw8 | exact h.pull2 | exact h.pull3 | exact h.pull4 | exact h.pull5 | exact h.fit)) ((Msg15_c W0 1 1 _).mono ?_)))
  rintro v H' ⟨rfl, rfl⟩
  refine rs_op rfl rfl (opR_buildSlice rfl rfl rfl rfl fun b86 => ?_)
  refine rs_op rfl rfl (opR_fn rfl (Call.heap (fun w h => by (first | exact h | exact h.sw1 | exact h.sw2 | exact h.sw3 | exact h.sw4 | exact h.sw5 | exact h.sw6 | exact h.sw7 | exact h.sw8 | exact h.pull2 | exact h.pull3 | exact h.pull4 | exact h.pull5 | exact h.fit)) ((Same_c W0 pu3 cu3 [shM] (some ⟨b86, 0, none⟩) 1 [shM] _ (by exact RdS.slR (len := 1) inferInstance hu3) (by exact SlR.blk RdC.rd [shM] rfl) (by decide)).mono ?_)))
  rintro v H' ⟨rfl, rfl⟩
  iterate 2 (first | refine rs_ex rfl (by (first | (constructor <;> first | rfl | exact RdC.rd | exact inferInstance) | exact Ex.pickF rfl rfl | exact Ex.eqlS rfl rfl | exact Ex.neqS rfl rfl | exact Ex.eqlPN rfl rfl | exact Ex.neqPN rfl rfl | exact Ex.eqlSN rfl rfl | exact Ex.neqSN rfl rfl | exact Ex.lenStr rfl)) rfl ?_ | refine rs_skip rfl rfl ?_)
  refine rs_split (fun h89 => ?_) (fun h89 => by simp at h89)
  (first | refine rs_ex rfl (by (first | (constructor <;> first | rfl | exact RdC.rd | exact inferInstance) | exact Ex.pickF rfl rfl | exact Ex.eqlS rfl rfl | exact Ex.neqS rfl rfl | exact Ex.eqlPN rfl rfl | exact Ex.neqPN rfl rfl | exact Ex.eqlSN rfl rfl | exact Ex.neqSN rfl rfl | exact Ex.lenStr rfl)) rfl ?_ | refine rs_skip rfl rfl ?_)
  refine rs_op rfl rfl (opR_fn rfl (Call.heap (fun w h => by (first | exact h | exact h.sw1 | exact h.sw2 | exact h.sw3 | exact h.sw4 | exact h.sw5 | exact h.sw6 | exact h.sw7 | exact h.sw8 | exact h.pull2 | exact h.pull3 | exact h.pull4 | exact h.pull5 | exact h.fit)) ((IsBlocked_c W0 b shL3 _).mono ?_)))
  rintro v H' ⟨rfl, rfl⟩
  rw [shB3]
  iterate 3 (first | refine rs_ex rfl (by (first | (constructor <;> first | rfl | exact RdC.rd | exact inferInstance) | exact Ex.pickF rfl rfl | exact Ex.eqlS rfl rfl | exact Ex.neqS rfl rfl | exact Ex.eqlPN rfl rfl | exact Ex.neqPN rfl rfl | exact Ex.eqlSN rfl rfl | exact Ex.neqSN rfl rfl | exact Ex.lenStr rfl)) rfl ?_ | refine rs_skip rfl rfl ?_)
  refine rs_end ?_
  refine qe_then ?_
  refine ct_ret ?_
  exact qe_fit (ret1 rfl rfl ⟨rfl, rfl⟩)
end Go.Rost
/- The laws MigrateNone and MigrateQuiet: what they do. -/
namespace Go.Rost
open Go Go.RowKit Go.Proofs

def Ent.cut15 (e : Ent) : Ent := { e with msgs := cutL (e.msgs.take 70) }
theorem Cut15_c (W0 : World) (e : Ent) (p : Option Addr) (c : Nat) (H : List Chunk) (hr : SlR (At W0 H) p e.msgs) (hc : e.msgs.length ≤ c) :
    Call Tryd.prog W0 30 [e.v p c] H (fun v H' => ∃ q d, v = (e.cut15).v q d ∧ SlV q d e.cut15.msgs ∧ H' = SlT 80 (.slice q e.cut15.msgs.length d) e.cut15.msgs :: H) := by
  have hmin : (if (70 : Int) < (e.msgs.length : Int) then (70 : Int) else (e.msgs.length : Int)) = ((min e.msgs.length 70 : Nat) : Int) := by split <;> omega
  have hlen : (e.msgs.take 70).length = min e.msgs.length 70 := by rw [List.length_take]; omega
  have htk : e.msgs.take 70 = e.msgs.take (min e.msgs.length 70) := by
    rcases Nat.le_total e.msgs.length 70 with h | h
    · rw [Nat.min_eq_left h, List.take_length, List.take_of_length_le h]
    · rw [Nat.min_eq_right h]
  refine call_enter Tryd.func30 rfl Tryd.ntmps30 rfl ?_

  refine ct_seq ?_
  refine ct_region ?_
  refine rs_op rfl rfl (opR_box rfl fun b1 => ?_)
  refine rs_op rfl rfl (opR_alloc fun b2 => ?_)
  refine rs_end ?_
  refine qe_then ?_
  refine ct_seq ?_
  refine ct_region ?_
  iterate 5 (first | refine rs_ex rfl (by (first | (constructor <;> first | rfl | exact RdC.rd | exact inferInstance) | exact Ex.pickF rfl rfl | exact Ex.eqlS rfl rfl | exact Ex.neqS rfl rfl | exact Ex.eqlPN rfl rfl | exact Ex.neqPN rfl rfl | exact Ex.eqlSN rfl rfl | exact Ex.neqSN rfl rfl | exact Ex.lenStr rfl)) rfl ?_ | refine rs_skip rfl rfl ?_)
  refine rs_ex rfl (ex_min rfl rfl) rfl ?_
  refine rs_rw (by rw [hmin]) ?_
  refine rs_ex rfl (ex_slice (i := 0) (j := min e.msgs.length 70) rfl (.inl ⟨rfl, rfl⟩) (.inr ⟨_, _, rfl, rfl⟩) (by omega) (by omega)) rfl ?_
  refine rs_rw (by rw [Nat.sub_zero, Nat.sub_zero, ← hlen]) ?_
  refine rs_op rfl rfl (opR_fn rfl (Call.heap (fun w h => by (first | exact h | exact h.sw1 | exact h.sw2 | exact h.sw3 | exact h.sw4 | exact h.sw5 | exact h.sw6 | exact h.sw7 | exact h.sw8 | exact h.pull2 | exact h.pull3 | exact h.pull4 | exact h.pull5 | exact h.fit)) ((Cut_c W0 _ _ (e.msgs.take 70) _ (by exact ((hr.takeA hc).mono fun w h => h.drop.drop))).mono ?_)))
  rintro v H' rfl
  refine rs_prp (fun w h => h.slv) ?_; rintro ⟨q, d, ev, hv⟩
  subst ev
  (first | refine rs_ex rfl (by (first | (constructor <;> first | rfl | exact RdC.rd | exact inferInstance) | exact Ex.pickF rfl rfl | exact Ex.eqlS rfl rfl | exact Ex.neqS rfl rfl | exact Ex.eqlPN rfl rfl | exact Ex.neqPN rfl rfl | exact Ex.eqlSN rfl rfl | exact Ex.neqSN rfl rfl | exact Ex.lenStr rfl)) rfl ?_ | refine rs_skip rfl rfl ?_)
  refine rs_opN rfl (opR_store rfl rfl rfl rfl ?_)
  refine rs_end ?_
  refine qe_then ?_
  refine ct_seq ?_
  refine ct_region ?_
  (first | refine rs_ex rfl (by (first | (constructor <;> first | rfl | exact RdC.rd | exact inferInstance) | exact Ex.pickF rfl rfl | exact Ex.eqlS rfl rfl | exact Ex.neqS rfl rfl | exact Ex.eqlPN rfl rfl | exact Ex.neqPN rfl rfl | exact Ex.eqlSN rfl rfl | exact Ex.neqSN rfl rfl | exact Ex.lenStr rfl)) rfl ?_ | refine rs_skip rfl rfl ?_)
  refine rs_opN rfl (opR_store rfl rfl rfl rfl ?_)
  refine rs_end ?_
  refine qe_then ?_
  refine ct_ret ?_
  exact retC (vs := [.int .i64 e.kind, .int .u32 e.epoch, .int .i64 e.ver, .slice q (cutL (e.msgs.take 70)).length d]) rfl rfl rfl RdC.rd (fun j v e => by simpa using e) _ (fun w h => At.top [_, _, _] [0] h) ⟨q, d, rfl, hv, rfl⟩
theorem MigrateNone_c (W0 : World) (a : Addr) (hg : RdBlk (At W0 []) 0 #[errF a]) (e : Ent) (p : Option Addr) (c : Nat) : Call Tryd.prog W0 12 [e.v p c] [] (fun v _ => v = .bool true) := by
  refine call_enter Tryd.func12 rfl Tryd.ntmps12 rfl ?_

  refine ct_seq ?_
  refine ct_region ?_
  refine rs_op rfl rfl (opR_box rfl fun b1 => ?_)
  (first | refine rs_ex rfl (by (first | (constructor <;> first | rfl | exact RdC.rd | exact inferInstance) | exact Ex.pickF rfl rfl | exact Ex.eqlS rfl rfl | exact Ex.neqS rfl rfl | exact Ex.eqlPN rfl rfl | exact Ex.neqPN rfl rfl | exact Ex.eqlSN rfl rfl | exact Ex.neqSN rfl rfl | exact Ex.lenStr rfl)) rfl ?_ | refine rs_skip rfl rfl ?_)
  refine rs_end ?_
  refine qe_then ?_
  refine ct_seq ?_
  refine ct_region ?_
  refine rs_op rfl rfl (opR_fn rfl (Call.heap (fun w h => by (first | exact h | exact h.sw1 | exact h.sw2 | exact h.sw3 | exact h.sw4 | exact h.sw5 | exact h.sw6 | exact h.sw7 | exact h.sw8 | exact h.pull2 | exact h.pull3 | exact h.pull4 | exact h.pull5 | exact h.fit)) ((Shown15_c W0 a hg _).mono ?_)))
  rintro v H' ⟨rfl, rfl⟩
  (first | refine rs_ex rfl (by (first | (constructor <;> first | rfl | exact RdC.rd | exact inferInstance) | exact Ex.pickF rfl rfl | exact Ex.eqlS rfl rfl | exact Ex.neqS rfl rfl | exact Ex.eqlPN rfl rfl | exact Ex.neqPN rfl rfl | exact Ex.eqlSN rfl rfl | exact Ex.neqSN rfl rfl | exact Ex.lenStr rfl)) rfl ?_ | refine rs_skip rfl rfl ?_)
  refine rs_end ?_
  refine qe_then ?_
  refine ct_seq ?_
  refine ct_region ?_
  (first | refine rs_ex rfl (by (first | (constructor <;> first | rfl | exact RdC.rd | exact inferInstance) | exact Ex.pickF rfl rfl | exact Ex.eqlS rfl rfl | exact Ex.neqS rfl rfl | exact Ex.eqlPN rfl rfl | exact Ex.neqPN rfl rfl | exact Ex.eqlSN rfl rfl | exact Ex.neqSN rfl rfl | exact Ex.lenStr rfl)) rfl ?_ | refine rs_skip rfl rfl ?_)
  refine rs_end ?_
  refine qe_then ?_
  refine ct_seq ?_
  refine ct_region ?_
  iterate 2 (first | refine rs_ex rfl (by (first | (constructor <;> first | rfl | exact RdC.rd | exact inferInstance) | exact Ex.pickF rfl rfl | exact Ex.eqlS rfl rfl | exact Ex.neqS rfl rfl | exact Ex.eqlPN rfl rfl | exact Ex.neqPN rfl rfl | exact Ex.eqlSN rfl rfl | exact Ex.neqSN rfl rfl | exact Ex.lenStr rfl)) rfl ?_ | refine rs_skip rfl rfl ?_)
  refine rs_op rfl rfl (opR_fn rfl (Call.heap (fun w h => by (first | exact h | exact h.sw1 | exact h.sw2 | exact h.sw3 | exact h.sw4 | exact h.sw5 | exact h.sw6 | exact h.sw7 | exact h.sw8 | exact h.pull2 | exact h.pull3 | exact h.pull4 | exact h.pull5 | exact h.fit)) ((Apply15_nil W0 _ _ true _).mono ?_)))
  rintro v H' ⟨rfl, rfl⟩
  iterate 5 (first | refine rs_ex rfl (by (first | (constructor <;> first | rfl | exact RdC.rd | exact inferInstance) | exact Ex.pickF rfl rfl | exact Ex.eqlS rfl rfl | exact Ex.neqS rfl rfl | exact Ex.eqlPN rfl rfl | exact Ex.neqPN rfl rfl | exact Ex.eqlSN rfl rfl | exact Ex.neqSN rfl rfl | exact Ex.lenStr rfl)) rfl ?_ | refine rs_skip rfl rfl ?_)
  refine rs_end ?_
  refine qe_then ?_
  refine ct_seq ?_
  refine ct_region ?_
  (first | refine rs_ex rfl (by (first | (constructor <;> first | rfl | exact RdC.rd | exact inferInstance) | exact Ex.pickF rfl rfl | exact Ex.eqlS rfl rfl | exact Ex.neqS rfl rfl | exact Ex.eqlPN rfl rfl | exact Ex.neqPN rfl rfl | exact Ex.eqlSN rfl rfl | exact Ex.neqSN rfl rfl | exact Ex.lenStr rfl)) rfl ?_ | refine rs_skip rfl rfl ?_)
  refine rs_op rfl rfl (opR_fn rfl (Call.heap (fun w h => by (first | exact h | exact h.sw1 | exact h.sw2 | exact h.sw3 | exact h.sw4 | exact h.sw5 | exact h.sw6 | exact h.sw7 | exact h.sw8 | exact h.pull2 | exact h.pull3 | exact h.pull4 | exact h.pull5 | exact h.fit)) ((Asks_nil W0 _).mono ?_)))
  rintro v H' ⟨rfl, rfl⟩
  iterate 3 (first | refine rs_ex rfl (by (first | (constructor <;> first | rfl | exact RdC.rd | exact inferInstance) | exact Ex.pickF rfl rfl | exact Ex.eqlS rfl rfl | exact Ex.neqS rfl rfl | exact Ex.eqlPN rfl rfl | exact Ex.neqPN rfl rfl | exact Ex.eqlSN rfl rfl | exact Ex.neqSN rfl rfl | exact Ex.lenStr rfl)) rfl ?_ | refine rs_skip rfl rfl ?_)
  refine rs_op rfl rfl (opR_alloc fun b7 => ?_)
  refine rs_opN rfl (opR_store rfl rfl rfl rfl ?_)
  (first | refine rs_ex rfl (by (first | (constructor <;> first | rfl | exact RdC.rd | exact inferInstance) | exact Ex.pickF rfl rfl | exact Ex.eqlS rfl rfl | exact Ex.neqS rfl rfl | exact Ex.eqlPN rfl rfl | exact Ex.neqPN rfl rfl | exact Ex.eqlSN rfl rfl | exact Ex.neqSN rfl rfl | exact Ex.lenStr rfl)) rfl ?_ | refine rs_skip rfl rfl ?_)
  refine rs_end ?_
  refine qe_then ?_
  refine ct_seq ?_
  refine ct_region ?_
  iterate 2 (first | refine rs_ex rfl (by (first | (constructor <;> first | rfl | exact RdC.rd | exact inferInstance) | exact Ex.pickF rfl rfl | exact Ex.eqlS rfl rfl | exact Ex.neqS rfl rfl | exact Ex.eqlPN rfl rfl | exact Ex.neqPN rfl rfl | exact Ex.eqlSN rfl rfl | exact Ex.neqSN rfl rfl | exact Ex.lenStr rfl)) rfl ?_ | refine rs_skip rfl rfl ?_)
  refine rs_split (fun h22 => ?_) (fun h22 => by simp at h22)
  iterate 4 (first | refine rs_ex rfl (by (first | (constructor <;> first | rfl | exact RdC.rd | exact inferInstance) | exact Ex.pickF rfl rfl | exact Ex.eqlS rfl rfl | exact Ex.neqS rfl rfl | exact Ex.eqlPN rfl rfl | exact Ex.neqPN rfl rfl | exact Ex.eqlSN rfl rfl | exact Ex.neqSN rfl rfl | exact Ex.lenStr rfl)) rfl ?_ | refine rs_skip rfl rfl ?_)
  refine rs_split (fun h26 => ?_) (fun h26 => by simp at h26)
  iterate 5 (first | refine rs_ex rfl (by (first | (constructor <;> first | rfl | exact RdC.rd | exact inferInstance) | exact Ex.pickF rfl rfl | exact Ex.eqlS rfl rfl | exact Ex.neqS rfl rfl | exact Ex.eqlPN rfl rfl | exact Ex.neqPN rfl rfl | exact Ex.eqlSN rfl rfl | exact Ex.neqSN rfl rfl | exact Ex.lenStr rfl)) rfl ?_ | refine rs_skip rfl rfl ?_)
  refine rs_split (fun h31 => ?_) (fun h31 => by simp at h31)
  iterate 4 (first | refine rs_ex rfl (by (first | (constructor <;> first | rfl | exact RdC.rd | exact inferInstance) | exact Ex.pickF rfl rfl | exact Ex.eqlS rfl rfl | exact Ex.neqS rfl rfl | exact Ex.eqlPN rfl rfl | exact Ex.neqPN rfl rfl | exact Ex.eqlSN rfl rfl | exact Ex.neqSN rfl rfl | exact Ex.lenStr rfl)) rfl ?_ | refine rs_skip rfl rfl ?_)
  refine rs_split (fun h35 => ?_) (fun h35 => by simp at h35)
  (first | refine rs_ex rfl (by (first | (constructor <;> first | rfl | exact RdC.rd | exact inferInstance) | exact Ex.pickF rfl rfl | exact Ex.eqlS rfl rfl | exact Ex.neqS rfl rfl | exact Ex.eqlPN rfl rfl | exact Ex.neqPN rfl rfl | exact Ex.eqlSN rfl rfl | exact Ex.neqSN rfl rfl | exact Ex.lenStr rfl)) rfl ?_ | refine rs_skip rfl rfl ?_)
  refine rs_op rfl rfl (opR_fn rfl (Call.heap (fun w h => by (first | exact h | exact h.sw1 | exact h.sw2 | exact h.sw3 | exact h.sw4 | exact h.sw5 | exact h.sw6 | exact h.sw7 | exact h.sw8 | exact h.pull2 | exact h.pull3 | exact h.pull4 | exact h.pull5 | exact h.fit)) ((State_nil W0 _).mono ?_)))
  rintro v H' ⟨rfl, rfl⟩
  refine rs_ex rfl (ex_build rfl) rfl ?_
  refine rs_ex rfl (ex_eqSta .zero .zero rfl rfl) rfl ?_
  refine rs_rw (by rw [decide_eq_true rfl]) ?_
  iterate 2 (first | refine rs_ex rfl (by (first | (constructor <;> first | rfl | exact RdC.rd | exact inferInstance) | exact Ex.pickF rfl rfl | exact Ex.eqlS rfl rfl | exact Ex.neqS rfl rfl | exact Ex.eqlPN rfl rfl | exact Ex.neqPN rfl rfl | exact Ex.eqlSN rfl rfl | exact Ex.neqSN rfl rfl | exact Ex.lenStr rfl)) rfl ?_ | refine rs_skip rfl rfl ?_)
  refine rs_split (fun h41 => ?_) (fun h41 => by simp at h41)
  (first | refine rs_ex rfl (by (first | (constructor <;> first | rfl | exact RdC.rd | exact inferInstance) | exact Ex.pickF rfl rfl | exact Ex.eqlS rfl rfl | exact Ex.neqS rfl rfl | exact Ex.eqlPN rfl rfl | exact Ex.neqPN rfl rfl | exact Ex.eqlSN rfl rfl | exact Ex.neqSN rfl rfl | exact Ex.lenStr rfl)) rfl ?_ | refine rs_skip rfl rfl ?_)
  refine rs_op rfl rfl (opR_fn rfl (Call.heap (fun w h => by (first | exact h | exact h.sw1 | exact h.sw2 | exact h.sw3 | exact h.sw4 | exact h.sw5 | exact h.sw6 | exact h.sw7 | exact h.sw8 | exact h.pull2 | exact h.pull3 | exact h.pull4 | exact h.pull5 | exact h.fit)) ((IsBlocked_nil W0 _).mono ?_)))
  rintro v H' ⟨rfl, rfl⟩
  iterate 3 (first | refine rs_ex rfl (by (first | (constructor <;> first | rfl | exact RdC.rd | exact inferInstance) | exact Ex.pickF rfl rfl | exact Ex.eqlS rfl rfl | exact Ex.neqS rfl rfl | exact Ex.eqlPN rfl rfl | exact Ex.neqPN rfl rfl | exact Ex.eqlSN rfl rfl | exact Ex.neqSN rfl rfl | exact Ex.lenStr rfl)) rfl ?_ | refine rs_skip rfl rfl ?_)
  refine rs_split (fun h46 => ?_) (fun h46 => by simp at h46)
  (first | refine rs_ex rfl (by (first | (constructor <;> first | rfl | exact RdC.rd | exact inferInstance) | exact Ex.pickF rfl rfl | exact Ex.eqlS rfl rfl | exact Ex.neqS rfl rfl | exact Ex.eqlPN rfl rfl | exact Ex.neqPN rfl rfl | exact Ex.eqlSN rfl rfl | exact Ex.neqSN rfl rfl | exact Ex.lenStr rfl)) rfl ?_ | refine rs_skip rfl rfl ?_)
  refine rs_op rfl rfl (opR_fn rfl (Call.heap (fun w h => by (first | exact h | exact h.sw1 | exact h.sw2 | exact h.sw3 | exact h.sw4 | exact h.sw5 | exact h.sw6 | exact h.sw7 | exact h.sw8 | exact h.pull2 | exact h.pull3 | exact h.pull4 | exact h.pull5 | exact h.fit)) ((Holds_nil W0 _).mono ?_)))
  rintro v H' ⟨rfl, rfl⟩
  iterate 4 (first | refine rs_ex rfl (by (first | (constructor <;> first | rfl | exact RdC.rd | exact inferInstance) | exact Ex.pickF rfl rfl | exact Ex.eqlS rfl rfl | exact Ex.neqS rfl rfl | exact Ex.eqlPN rfl rfl | exact Ex.neqPN rfl rfl | exact Ex.eqlSN rfl rfl | exact Ex.neqSN rfl rfl | exact Ex.lenStr rfl)) rfl ?_ | refine rs_skip rfl rfl ?_)
  refine rs_split (fun h52 => ?_) (fun h52 => by simp at h52)
  (first | refine rs_ex rfl (by (first | (constructor <;> first | rfl | exact RdC.rd | exact inferInstance) | exact Ex.pickF rfl rfl | exact Ex.eqlS rfl rfl | exact Ex.neqS rfl rfl | exact Ex.eqlPN rfl rfl | exact Ex.neqPN rfl rfl | exact Ex.eqlSN rfl rfl | exact Ex.neqSN rfl rfl | exact Ex.lenStr rfl)) rfl ?_ | refine rs_skip rfl rfl ?_)
  refine rs_op rfl rfl (opR_fn rfl (Call.heap (fun w h => by (first | exact h | exact h.sw1 | exact h.sw2 | exact h.sw3 | exact h.sw4 | exact h.sw5 | exact h.sw6 | exact h.sw7 | exact h.sw8 | exact h.pull2 | exact h.pull3 | exact h.pull4 | exact h.pull5 | exact h.fit)) ((Log15_nil W0 _).mono ?_)))
  rintro v H' ⟨rfl, rfl⟩
  iterate 4 (first | refine rs_ex rfl (by (first | (constructor <;> first | rfl | exact RdC.rd | exact inferInstance) | exact Ex.pickF rfl rfl | exact Ex.eqlS rfl rfl | exact Ex.neqS rfl rfl | exact Ex.eqlPN rfl rfl | exact Ex.neqPN rfl rfl | exact Ex.eqlSN rfl rfl | exact Ex.neqSN rfl rfl | exact Ex.lenStr rfl)) rfl ?_ | refine rs_skip rfl rfl ?_)
  refine rs_split (fun h58 => ?_) (fun h58 => by simp at h58)
  (first | refine rs_ex rfl (by (first | (constructor <;> first | rfl | exact RdC.rd | exact inferInstance) | exact Ex.pickF rfl rfl | exact Ex.eqlS rfl rfl | exact Ex.neqS rfl rfl | exact Ex.eqlPN rfl rfl | exact Ex.neqPN rfl rfl | exact Ex.eqlSN rfl rfl | exact Ex.neqSN rfl rfl | exact Ex.lenStr rfl)) rfl ?_ | refine rs_skip rfl rfl ?_)
  refine rs_op rfl rfl (opR_fn rfl (Call.heap (fun w h => by (first | exact h | exact h.sw1 | exact h.sw2 | exact h.sw3 | exact h.sw4 | exact h.sw5 | exact h.sw6 | exact h.sw7 | exact h.sw8 | exact h.pull2 | exact h.pull3 | exact h.pull4 | exact h.pull5 | exact h.fit)) ((Era_nil W0 _).mono ?_)))
  rintro v H' ⟨rfl, rfl⟩
  refine rs_ex rfl (ex_build rfl) rfl ?_
  refine rs_ex rfl (ex_eqlEra ⟨0, 0, 0⟩ ⟨0, 0, 0⟩ rfl rfl) rfl ?_
  iterate 2 (first | refine rs_ex rfl (by (first | (constructor <;> first | rfl | exact RdC.rd | exact inferInstance) | exact Ex.pickF rfl rfl | exact Ex.eqlS rfl rfl | exact Ex.neqS rfl rfl | exact Ex.eqlPN rfl rfl | exact Ex.neqPN rfl rfl | exact Ex.eqlSN rfl rfl | exact Ex.neqSN rfl rfl | exact Ex.lenStr rfl)) rfl ?_ | refine rs_skip rfl rfl ?_)
  refine rs_end ?_
  refine qe_then ?_
  refine ct_ret ?_
  exact ret1 rfl rfl rfl
theorem batch_next (f : Fold) {e : Ent} (hk : e.kind = 1) : (f.apply e).1.2.1 = false := by
  unfold Fold.apply
  split
  · rfl
  · split
    · rfl
    · simp only
      unfold Fold.doing
      rw [if_pos hk]
/-- A node that is blocked holds what a batch delivers. -/
theorem quiet_blk {l : Loc} (hb : l.blk = true) {e : Ent} (hk : e.kind = 1) (fails : Bool) : (l.apply e fails).1.1 = [] ∧ (l.apply e fails).2.log = l.log ∧ (l.apply e fails).2.blk = true := by
  have h2 : l.mid2 e fails = l.mid1 e := by rw [Loc.mid2, if_neg (by rw [batch_next l.f hk]; decide)]
  have h3 : (l.mid3 e fails).blk = true := by show (l.mid2 e fails).blk = true; rw [h2]; exact hb
  have ho : l.out1 e = [] := by rw [Loc.out1, if_pos hb]
  unfold Loc.apply
  split
  · exact ⟨rfl, rfl, hb⟩
  · refine ⟨ho, ?_, h3⟩
    show (l.mid2 e fails).log ++ l.out1 e = l.log
    rw [ho, List.append_nil, h2]
    rfl
theorem quiet_late {l : Loc} (hb : l.blk = false) (hh : l.held = []) {e : Ent} (he : e.epoch ≠ l.f.last.epoch) (fails : Bool) : (l.apply e fails).1.1 = [] ∧ (l.apply e fails).2.blk = false := by
  have hf : (l.f.apply e).1.1 = [] ∧ (l.f.apply e).1.2.1 = false := by
    unfold Fold.apply
    split
    · exact ⟨rfl, rfl⟩
    · exact ⟨rfl, rfl⟩
  have h1 : (l.mid1 e).held = [] := by show (if l.blk = true then l.held ++ (l.f.apply e).1.1 else l.held) = []; rw [hb, hh]; rfl
  have h2 : l.mid2 e fails = l.mid1 e := by rw [Loc.mid2, if_neg (by rw [hf.2]; decide)]
  have h3 : (l.mid3 e fails).blk = false := by show (l.mid2 e fails).blk = false; rw [h2]; exact hb
  have h4 : (l.mid3 e fails).held = [] := by show (l.mid2 e fails).held = []; rw [h2]; exact h1
  have ho : l.out1 e = [] := by rw [Loc.out1, hb]; exact hf.1
  unfold Loc.apply
  split
  · exact ⟨rfl, hb⟩
  · rw [if_neg (show ¬ (l.mid3 e fails).blk = true by rw [h3]; decide)]
    exact ⟨by show l.out1 e ++ (l.mid3 e fails).held = []; rw [ho, h4]; rfl, h3⟩
theorem begin_ver {v : Int} (h : known v = true) : (beginV v).1.ver = v := by
  have := known_spec.1 h
  obtain rfl | rfl | rfl : v = 1 ∨ v = 2 ∨ v = 3 := by omega
  all_goals decide +kernel
theorem quiet_first {v n : Int} (hv : known v = true) : (((Loc.new v).apply ⟨2, 1, n, []⟩ true).2.blk = true ∧ ((Loc.new v).apply ⟨2, 1, n, []⟩ true).2.log = []) ∨
    (((Loc.new v).apply ⟨2, 1, n, []⟩ true).2.blk = false ∧ ((Loc.new v).apply ⟨2, 1, n, []⟩ true).2.held = [] ∧ ((Loc.new v).apply ⟨2, 1, n, []⟩ true).2.f.last.epoch = 1) := by
  obtain ⟨e, he⟩ : ∃ e : Ent, e = ⟨2, 1, n, []⟩ := ⟨_, rfl⟩
  rw [← he]
  by_cases hw : ((Fold.new v).apply e).1.2.2 ≠ 0
  · have hf := (apply_wrong hw).1
    right
    have ea : (Loc.new v).apply e true = (([], ((Fold.new v).apply e).1.2.2), { Loc.new v with f := ((Fold.new v).apply e).2 }) := if_pos hw
    rw [ea]
    refine ⟨rfl, rfl, ?_⟩
    show ((Fold.new v).apply e).2.last.epoch = 1
    rw [hf]; rfl
  · have hb : e.bad ≠ true := fun h => hw (by rw [Fold.apply, if_pos h]; exact (by decide : (140 : Int) ≠ 0))
    have hap : (Fold.new v).apply e = ((((Fold.new v).tick.doing e).1.1, ((Fold.new v).tick.doing e).1.2, 0), ((Fold.new v).tick.doing e).2) := by
      rw [Fold.apply, if_neg hb, if_neg (by rw [he]; exact fun h => h rfl)]
    by_cases hc : checkVer v n = 0
    · left
      have hd : (Fold.new v).tick.doing e = (([], true), (Fold.new v).tick.begin n v) := by
        rw [Fold.doing, he]
        exact (if_neg (show ¬ (2 : Int) = 1 by decide)).trans ((if_pos rfl).trans (if_pos hc))
      rw [hd] at hap
      have hlast : ((Loc.new v).mid1 e).f.last.ver = n := by
        show ((Fold.new v).apply e).2.last.ver = n
        rw [hap]; rfl
      have hmg : ((Loc.new v).mid1 e).migr n true = ((Loc.new v).mid1 e, false) := by
        rw [Loc.migr, if_neg (by show (beginV v).1.ver ≠ n; rw [begin_ver hv]; exact checkVer_ne hc), if_pos (.inl rfl)]
      have hm2 : (Loc.new v).mid2 e true = { (Loc.new v).mid1 e with blk := true } := by
        rw [Loc.mid2, if_pos (by show ((Fold.new v).apply e).1.2.1 = true; rw [hap]), hlast, hmg]
        rfl
      have ho : (Loc.new v).out1 e = [] := by
        show ((Fold.new v).apply e).1.1 = []
        rw [hap]
      have h3 : ((Loc.new v).mid3 e true).blk = true := by show ((Loc.new v).mid2 e true).blk = true; rw [hm2]
      have ea : (Loc.new v).apply e true = (((Loc.new v).out1 e, 0), (Loc.new v).mid3 e true) := (if_neg hw).trans (if_pos h3)
      rw [ea]
      refine ⟨h3, ?_⟩
      show ((Loc.new v).mid2 e true).log ++ (Loc.new v).out1 e = []
      rw [hm2, ho]; rfl
    · right
      have hd : (Fold.new v).tick.doing e = (([], false), (Fold.new v).tick) := by
        rw [Fold.doing, he]
        exact (if_neg (show ¬ (2 : Int) = 1 by decide)).trans ((if_pos rfl).trans (if_neg hc))
      rw [hd] at hap
      have hm2 : (Loc.new v).mid2 e true = (Loc.new v).mid1 e := by
        rw [Loc.mid2, if_neg (by show ((Fold.new v).apply e).1.2.1 ≠ true; rw [hap]; exact Bool.false_ne_true)]
      have h3 : ((Loc.new v).mid3 e true).blk ≠ true := by show ((Loc.new v).mid2 e true).blk ≠ true; rw [hm2]; exact Bool.false_ne_true
      have ea : (Loc.new v).apply e true = (((Loc.new v).out1 e ++ ((Loc.new v).mid3 e true).held, 0), { (Loc.new v).mid3 e true with log := ((Loc.new v).mid3 e true).log ++ ((Loc.new v).mid3 e true).held, held := [] }) := (if_neg hw).trans (if_neg h3)
      rw [ea]
      refine ⟨?_, rfl, ?_⟩
      · show ((Loc.new v).mid2 e true).blk = false; rw [hm2]; rfl
      · show ((Loc.new v).mid2 e true).f.last.epoch = 1
        rw [hm2]
        show ((Fold.new v).apply e).2.last.epoch = 1
        rw [hap]; rfl
end Go.Rost
