/- The reference of layer 12: what is pending, what is done. -/
import Derived.Test.YtdjjfmoknncojaaBo
namespace Go.Rost
open Go Go.RowKit Go.Proofs

def RPoolC (r : Nat) (s : Pool) : Chunk := Exs fun v : Value × Value => Star [Blk r (.cells #[v.1, v.2] 69 (0, 0)), SlT 34 v.1 s.p, SlT 32 v.2 s.d]
theorem RPoolC.open {W0 : World} {r : Nat} {s : Pool} {H : List Chunk} {w : World} (h : At W0 (RPoolC r s :: H) w) :
    ∃ q : {q : (Option Addr × Nat) × Option Addr × Nat // SlV q.1.1 q.1.2 s.p ∧ SlV q.2.1 q.2.2 s.d}, At W0 (Blk r (.cells #[.slice q.1.1.1 s.p.length q.1.1.2, .slice q.1.2.1 s.d.length q.1.2.2] 69 (0, 0)) :: SlT 34 (.slice q.1.1.1 s.p.length q.1.1.2) s.p :: SlT 32 (.slice q.1.2.1 s.d.length q.1.2.2) s.d :: H) w := by
  obtain ⟨⟨v1, v2⟩, h⟩ := At.ex.1 h
  have h1 := At.star.1 h
  obtain ⟨p1, c1, e1, hv1⟩ := (h1.drop).slv
  obtain ⟨p2, c2, e2, hv2⟩ := (h1.drop.drop).slv
  simp only at e1 e2
  subst e1
  subst e2
  exact ⟨⟨((p1, c1), p2, c2), hv1, hv2⟩, h1⟩
theorem RPoolC.shut {W0 : World} {r : Nat} {v1 v2 : Value} {s : Pool} {H : List Chunk} {w : World}
    (h : At W0 (Blk r (.cells #[v1, v2] 69 (0, 0)) :: SlT 34 v1 s.p :: SlT 32 v2 s.d :: H) w) : At W0 (RPoolC r s :: H) w := At.ex.2 ⟨(v1, v2), At.star.2 h⟩
theorem Ahead_c (W0 : World) (a b : Id) (H : List Chunk) : Call Try.prog W0 72 [a.v, b.v] H (fun v H' => v = .bool (decide (idLt a b)) ∧ H' = H) := by
  refine call_enter Try.func72 rfl Try.ntmps72 rfl ?_

  refine ct_seq ?_
  refine ct_region ?_
  refine rs_op rfl rfl (opR_box rfl fun b2 => ?_)
  refine rs_op rfl rfl (opR_box rfl fun b3 => ?_)
  (first | refine rs_ex rfl (by (first | (constructor <;> first | rfl | exact RdC.rd | exact inferInstance) | exact Ex.pickF rfl rfl | exact Ex.eqlS rfl rfl | exact Ex.neqS rfl rfl | exact Ex.eqlPN rfl rfl | exact Ex.neqPN rfl rfl | exact Ex.eqlSN rfl rfl | exact Ex.neqSN rfl rfl | exact Ex.lenStr rfl)) rfl ?_ | refine rs_skip rfl rfl ?_)
  refine rs_end ?_
  refine qe_then ?_
  refine ct_seq ?_
  refine ct_region ?_
  iterate 6 (first | refine rs_ex rfl (by (first | (constructor <;> first | rfl | exact RdC.rd | exact inferInstance) | exact Ex.pickF rfl rfl | exact Ex.eqlS rfl rfl | exact Ex.neqS rfl rfl | exact Ex.eqlPN rfl rfl | exact Ex.neqPN rfl rfl | exact Ex.eqlSN rfl rfl | exact Ex.neqSN rfl rfl | exact Ex.lenStr rfl)) rfl ?_ | refine rs_skip rfl rfl ?_)
  refine rs_split (fun h10 => ?_) (fun h10 => ?_)
  · iterate 14 (first | refine rs_ex rfl (by (first | (constructor <;> first | rfl | exact RdC.rd | exact inferInstance) | exact Ex.pickF rfl rfl | exact Ex.eqlS rfl rfl | exact Ex.neqS rfl rfl | exact Ex.eqlPN rfl rfl | exact Ex.neqPN rfl rfl | exact Ex.eqlSN rfl rfl | exact Ex.neqSN rfl rfl | exact Ex.lenStr rfl)) rfl ?_ | refine rs_skip rfl rfl ?_)
    refine rs_end ?_
    refine qe_then ?_
    refine ct_ret ?_
    exact qe_fit (ret1 rfl rfl ⟨by first | (simp_all [idLt]; done) | (simp_all [idLt]; omega), rfl⟩)
  · iterate 6 (first | refine rs_ex rfl (by (first | (constructor <;> first | rfl | exact RdC.rd | exact inferInstance) | exact Ex.pickF rfl rfl | exact Ex.eqlS rfl rfl | exact Ex.neqS rfl rfl | exact Ex.eqlPN rfl rfl | exact Ex.neqPN rfl rfl | exact Ex.eqlSN rfl rfl | exact Ex.neqSN rfl rfl | exact Ex.lenStr rfl)) rfl ?_ | refine rs_skip rfl rfl ?_)
    refine rs_split (fun h16 => ?_) (fun h16 => ?_)
    · iterate 8 (first | refine rs_ex rfl (by (first | (constructor <;> first | rfl | exact RdC.rd | exact inferInstance) | exact Ex.pickF rfl rfl | exact Ex.eqlS rfl rfl | exact Ex.neqS rfl rfl | exact Ex.eqlPN rfl rfl | exact Ex.neqPN rfl rfl | exact Ex.eqlSN rfl rfl | exact Ex.neqSN rfl rfl | exact Ex.lenStr rfl)) rfl ?_ | refine rs_skip rfl rfl ?_)
      refine rs_end ?_
      refine qe_then ?_
      refine ct_ret ?_
      exact qe_fit (ret1 rfl rfl ⟨by first | (simp_all [idLt]; done) | (simp_all [idLt]; omega), rfl⟩)
    · iterate 8 (first | refine rs_ex rfl (by (first | (constructor <;> first | rfl | exact RdC.rd | exact inferInstance) | exact Ex.pickF rfl rfl | exact Ex.eqlS rfl rfl | exact Ex.neqS rfl rfl | exact Ex.eqlPN rfl rfl | exact Ex.neqPN rfl rfl | exact Ex.eqlSN rfl rfl | exact Ex.neqSN rfl rfl | exact Ex.lenStr rfl)) rfl ?_ | refine rs_skip rfl rfl ?_)
      refine rs_end ?_
      refine qe_then ?_
      refine ct_ret ?_
      exact qe_fit (ret1 rfl rfl ⟨by first | (simp_all [idLt]; done) | (simp_all [idLt]; omega), rfl⟩)
theorem Pool.is_at {s : Pool} {j : Nat} {y i : Id} (h : s.d[j]? = some y) (e : y = i) : s.is i = true := by
  unfold Pool.is
  simp only [decide_eq_true_eq]
  rw [← e]
  exact List.mem_of_getElem? h
theorem Pool.is_no {s : Pool} {i : Id} (h : i ∉ s.d) : s.is i = false := by
  unfold Pool.is
  simpa using h
theorem RIs_o (W0 : World) (r : Nat) (s : Pool) (i : Id) (v1 : Value) (p2 : Option Addr) (c2 : Nat) (H : List Chunk) (hl : s.d.length ≤ 100000) (hv2 : SlV p2 c2 s.d) :
    Call Try.prog W0 49 [.pointer (some ⟨r, 0, none⟩), i.v] (Blk r (.cells #[v1, .slice p2 s.d.length c2] 69 (0, 0)) :: SlT 32 (.slice p2 s.d.length c2) s.d :: H)
      (fun v H' => v = .bool (s.is i) ∧ H' = Blk r (.cells #[v1, .slice p2 s.d.length c2] 69 (0, 0)) :: SlT 32 (.slice p2 s.d.length c2) s.d :: H) := by
  refine call_enter Try.func49 rfl Try.ntmps49 rfl ?_

  refine ct_seq ?_
  refine ct_region ?_
  refine rs_op rfl rfl (opR_box rfl fun b3 => ?_)
  (first | refine rs_ex rfl (by (first | (constructor <;> first | rfl | exact RdC.rd | exact inferInstance) | exact Ex.pickF rfl rfl | exact Ex.eqlS rfl rfl | exact Ex.neqS rfl rfl | exact Ex.eqlPN rfl rfl | exact Ex.neqPN rfl rfl | exact Ex.eqlSN rfl rfl | exact Ex.neqSN rfl rfl | exact Ex.lenStr rfl)) rfl ?_ | refine rs_skip rfl rfl ?_)
  refine rs_end ?_
  refine qe_then ?_
  refine ct_seq ?_
  refine ct_seq ?_
  refine ct_region ?_
  (first | refine rs_ex rfl (by (first | (constructor <;> first | rfl | exact RdC.rd | exact inferInstance) | exact Ex.pickF rfl rfl | exact Ex.eqlS rfl rfl | exact Ex.neqS rfl rfl | exact Ex.eqlPN rfl rfl | exact Ex.neqPN rfl rfl | exact Ex.eqlSN rfl rfl | exact Ex.neqSN rfl rfl | exact Ex.lenStr rfl)) rfl ?_ | refine rs_skip rfl rfl ?_)
  refine rs_end ?_
  refine qe_then ?_
  refine ct_block ?_
  refine ct_loopk (ζ := Nat) (fun j => j ≤ s.d.length ∧ i ∉ s.d.take j) [(0, _), (3, _)] (fun j => [(5, .int .i64 (j : Int))]) (fun j => s.d.length - j) (0) (⟨Nat.zero_le _, by simp⟩) ⟨rfl, rfl, rfl, trivial⟩ ?_
  rintro j ⟨hj, hno⟩
  refine ct_seq ?_
  refine ct_seq ?_
  refine ct_region ?_
  iterate 7 (first | refine rs_ex rfl (by (first | (constructor <;> first | rfl | exact RdC.rd | exact inferInstance) | exact Ex.pickF rfl rfl | exact Ex.eqlS rfl rfl | exact Ex.neqS rfl rfl | exact Ex.eqlPN rfl rfl | exact Ex.neqPN rfl rfl | exact Ex.eqlSN rfl rfl | exact Ex.neqSN rfl rfl | exact Ex.lenStr rfl)) rfl ?_ | refine rs_skip rfl rfl ?_)
  refine rs_end ?_
  refine qe_then ?_
  refine ct_cond rfl (fun h12 => ?_) (fun h12 => ?_)
  · have hj1 : j < s.d.length := by simp at h12; exact h12
    obtain ⟨bd, rfl⟩ := hv2.some hj1
    obtain ⟨y, hy⟩ : ∃ y, y = s.d[j] := ⟨_, rfl⟩
    have hy' : s.d[j]? = some y := by rw [hy]; exact List.getElem?_eq_getElem hj1
    refine ct_skip ?_
    refine qe_then ?_
    refine ct_seq ?_
    refine ct_block ?_
    refine ct_seq ?_
    refine ct_draw0 (by kernel_rfl) ?_
    refine ra_take 0 rfl (by kernel_rfl) (by kernel_rfl) rfl (by (first | (constructor <;> first | rfl | exact RdC.rd | exact inferInstance) | exact Ex.pickF rfl rfl | exact Ex.eqlS rfl rfl | exact Ex.neqS rfl rfl | exact Ex.eqlPN rfl rfl | exact Ex.neqPN rfl rfl | exact Ex.eqlSN rfl rfl | exact Ex.neqSN rfl rfl | exact Ex.lenStr rfl)) rfl (fun _ h => h.fit) ?_
    refine ra_take 1 rfl (by kernel_rfl) (by kernel_rfl) rfl (by (first | (constructor <;> first | rfl | exact RdC.rd | exact inferInstance) | exact Ex.pickF rfl rfl | exact Ex.eqlS rfl rfl | exact Ex.neqS rfl rfl | exact Ex.eqlPN rfl rfl | exact Ex.neqPN rfl rfl | exact Ex.eqlSN rfl rfl | exact Ex.neqSN rfl rfl | exact Ex.lenStr rfl)) rfl (fun _ h => h.fit) ?_
    refine ra_take 2 rfl (by kernel_rfl) (by kernel_rfl) rfl (by (first | (constructor <;> first | rfl | exact RdC.rd | exact inferInstance) | exact Ex.pickF rfl rfl | exact Ex.eqlS rfl rfl | exact Ex.neqS rfl rfl | exact Ex.eqlPN rfl rfl | exact Ex.neqPN rfl rfl | exact Ex.eqlSN rfl rfl | exact Ex.neqSN rfl rfl | exact Ex.lenStr rfl)) rfl (fun _ h => h.fit) ?_
    refine ra_take 3 rfl (by kernel_rfl) (by kernel_rfl) rfl (by (first | (constructor <;> first | rfl | exact RdC.rd | exact inferInstance) | exact Ex.pickF rfl rfl | exact Ex.eqlS rfl rfl | exact Ex.neqS rfl rfl | exact Ex.eqlPN rfl rfl | exact Ex.neqPN rfl rfl | exact Ex.eqlSN rfl rfl | exact Ex.neqSN rfl rfl | exact Ex.lenStr rfl)) rfl (fun _ h => h.fit) ?_
    refine ra_take 4 rfl (by kernel_rfl) (by kernel_rfl) rfl (by (first | (constructor <;> first | rfl | exact RdC.rd | exact inferInstance) | exact Ex.pickF rfl rfl | exact Ex.eqlS rfl rfl | exact Ex.neqS rfl rfl | exact Ex.eqlPN rfl rfl | exact Ex.neqPN rfl rfl | exact Ex.eqlSN rfl rfl | exact Ex.neqSN rfl rfl | exact Ex.lenStr rfl)) rfl (fun _ h => h.fit) ?_
    refine ra_take 5 rfl (by kernel_rfl) (by kernel_rfl) rfl (ex_indexAddr rfl rfl (by omega) (by omega)) rfl (fun _ h => h.fit) ?_
    refine ra_take 6 rfl (by kernel_rfl) (by kernel_rfl) rfl (ex_loadId y rfl (RdE.get hy')) rfl (fun _ h => h.fit) ?_
    refine ra_take 7 rfl (by kernel_rfl) (by kernel_rfl) rfl (by (first | (constructor <;> first | rfl | exact RdC.rd | exact inferInstance) | exact Ex.pickF rfl rfl | exact Ex.eqlS rfl rfl | exact Ex.neqS rfl rfl | exact Ex.eqlPN rfl rfl | exact Ex.neqPN rfl rfl | exact Ex.eqlSN rfl rfl | exact Ex.neqSN rfl rfl | exact Ex.lenStr rfl)) rfl (fun _ h => h.fit) ?_
    refine ra_take 8 rfl (by kernel_rfl) (by kernel_rfl) rfl (ex_eqId y i rfl rfl) rfl (fun _ h => h.fit) ?_
    refine ra_end (by kernel_rfl) ?_
    refine qe_then ?_
    refine ct_cond rfl (fun h23 => ?_) (fun h23 => ?_)
    · have hyi : y = i := by simpa using h23
      refine ct_seq ?_
      refine ct_region ?_
      (first | refine rs_ex rfl (by (first | (constructor <;> first | rfl | exact RdC.rd | exact inferInstance) | exact Ex.pickF rfl rfl | exact Ex.eqlS rfl rfl | exact Ex.neqS rfl rfl | exact Ex.eqlPN rfl rfl | exact Ex.neqPN rfl rfl | exact Ex.eqlSN rfl rfl | exact Ex.neqSN rfl rfl | exact Ex.lenStr rfl)) rfl ?_ | refine rs_skip rfl rfl ?_)
      refine rs_end ?_
      refine qe_then ?_
      refine ct_ret ?_
      exact qe_heap (fun w h => h.drop) (ret1 rfl rfl ⟨by rw [Pool.is_at hy' hyi], rfl⟩)
    · have hyi : y ≠ i := by simpa using h23
      refine ct_skip ?_
      refine qe_block 1 ?_
      refine qe_then ?_
      refine ct_region ?_
      iterate 2 (first | refine rs_ex rfl (by (first | (constructor <;> first | rfl | exact RdC.rd | exact inferInstance) | exact Ex.pickF rfl rfl | exact Ex.eqlS rfl rfl | exact Ex.neqS rfl rfl | exact Ex.eqlPN rfl rfl | exact Ex.neqPN rfl rfl | exact Ex.eqlSN rfl rfl | exact Ex.neqSN rfl rfl | exact Ex.lenStr rfl)) rfl ?_ | refine rs_skip rfl rfl ?_)
      refine rs_rw (by rw [wrapS (by omega)]) ?_
      (first | refine rs_ex rfl (by (first | (constructor <;> first | rfl | exact RdC.rd | exact inferInstance) | exact Ex.pickF rfl rfl | exact Ex.eqlS rfl rfl | exact Ex.neqS rfl rfl | exact Ex.eqlPN rfl rfl | exact Ex.neqPN rfl rfl | exact Ex.eqlSN rfl rfl | exact Ex.neqSN rfl rfl | exact Ex.lenStr rfl)) rfl ?_ | refine rs_skip rfl rfl ?_)
      refine rs_end ?_
      refine qe_loopc (j + 1) (⟨by omega, by rw [List.take_succ_eq_append_getElem hj1, ← hy]; simp [hno, hyi.symm]⟩) (by first | omega | (simp only; omega)) ⟨rfl, rfl, rfl, trivial⟩ (fun w h => by first | exact h.fit | exact h)
  · have hje : j = s.d.length := by simp at h12; omega
    rw [hje, List.take_length] at hno
    refine ct_exit ?_
    refine qe_then_exit ?_
    refine qe_loop_exit ?_
    refine qe_block_exit ?_
    refine qe_then ?_
    refine ct_seq ?_
    refine ct_region ?_
    (first | refine rs_ex rfl (by (first | (constructor <;> first | rfl | exact RdC.rd | exact inferInstance) | exact Ex.pickF rfl rfl | exact Ex.eqlS rfl rfl | exact Ex.neqS rfl rfl | exact Ex.eqlPN rfl rfl | exact Ex.neqPN rfl rfl | exact Ex.eqlSN rfl rfl | exact Ex.neqSN rfl rfl | exact Ex.lenStr rfl)) rfl ?_ | refine rs_skip rfl rfl ?_)
    refine rs_end ?_
    refine qe_then ?_
    refine ct_ret ?_
    exact qe_heap (fun w h => h.drop) (ret1 rfl rfl ⟨by rw [Pool.is_no hno], rfl⟩)
theorem RIs_c (W0 : World) (r : Nat) (s : Pool) (i : Id) (H : List Chunk) (hl : s.d.length ≤ 100000) : Call Try.prog W0 49 [.pointer (some ⟨r, 0, none⟩), i.v] (RPoolC r s :: H) (fun v H' => v = .bool (s.is i) ∧ H' = RPoolC r s :: H) := by
  refine Call.ex (fun w h => RPoolC.open h) ?_
  rintro ⟨⟨⟨p1, c1⟩, p2, c2⟩, hv1, hv2⟩
  simp only at hv1 hv2 ⊢
  refine (Call.heap (fun w h => At.top [_, _, _] [0, 2, 1] h) (RIs_o W0 r s i (.slice p1 s.p.length c1) p2 c2 _ hl hv2)).post ?_
  rintro v H' ⟨rfl, rfl⟩
  exact ⟨_, ⟨rfl, rfl⟩, fun w h => RPoolC.shut (At.top [_, _, _] [0, 2, 1] h)⟩
theorem RAt_c (W0 : World) (r : Nat) (s : Pool) (i : Id) (H : List Chunk) (hl : s.p.length ≤ 100000) : Call Try.prog W0 71 [.pointer (some ⟨r, 0, none⟩), i.v] (RPoolC r s :: H)
    (fun v H' => ∃ a : Int, v = .int .i64 a ∧ ((a = -1 ∧ s.has i = false) ∨ ∃ (k : Nat) (x : Msg), a = (k : Int) ∧ s.p[k]? = some x ∧ x.id = i) ∧ H' = RPoolC r s :: H) := by
  refine Call.ex (fun w h => RPoolC.open h) ?_
  rintro ⟨⟨⟨p1, c1⟩, p2, c2⟩, hv1, hv2⟩
  simp only at hv1 hv2 ⊢
  refine call_enter Try.func71 rfl Try.ntmps71 rfl ?_

  refine ct_seq ?_
  refine ct_region ?_
  refine rs_op rfl rfl (opR_box rfl fun b3 => ?_)
  (first | refine rs_ex rfl (by (first | (constructor <;> first | rfl | exact RdC.rd | exact inferInstance) | exact Ex.pickF rfl rfl | exact Ex.eqlS rfl rfl | exact Ex.neqS rfl rfl | exact Ex.eqlPN rfl rfl | exact Ex.neqPN rfl rfl | exact Ex.eqlSN rfl rfl | exact Ex.neqSN rfl rfl | exact Ex.lenStr rfl)) rfl ?_ | refine rs_skip rfl rfl ?_)
  refine rs_end ?_
  refine qe_then ?_
  refine ct_seq ?_
  refine ct_seq ?_
  refine ct_region ?_
  (first | refine rs_ex rfl (by (first | (constructor <;> first | rfl | exact RdC.rd | exact inferInstance) | exact Ex.pickF rfl rfl | exact Ex.eqlS rfl rfl | exact Ex.neqS rfl rfl | exact Ex.eqlPN rfl rfl | exact Ex.neqPN rfl rfl | exact Ex.eqlSN rfl rfl | exact Ex.neqSN rfl rfl | exact Ex.lenStr rfl)) rfl ?_ | refine rs_skip rfl rfl ?_)
  refine rs_end ?_
  refine qe_then ?_
  refine ct_block ?_
  refine ct_loopk (ζ := Nat) (fun j => j ≤ s.p.length ∧ ∀ x ∈ s.p.take j, x.id ≠ i) [(0, _), (3, _)] (fun j => [(5, .int .i64 (j : Int))]) (fun j => s.p.length - j) (0) (⟨Nat.zero_le _, by simp⟩) ⟨rfl, rfl, rfl, trivial⟩ ?_
  rintro j ⟨hj, hno⟩
  refine ct_seq ?_
  refine ct_seq ?_
  refine ct_region ?_
  iterate 7 (first | refine rs_ex rfl (by (first | (constructor <;> first | rfl | exact RdC.rd | exact inferInstance) | exact Ex.pickF rfl rfl | exact Ex.eqlS rfl rfl | exact Ex.neqS rfl rfl | exact Ex.eqlPN rfl rfl | exact Ex.neqPN rfl rfl | exact Ex.eqlSN rfl rfl | exact Ex.neqSN rfl rfl | exact Ex.lenStr rfl)) rfl ?_ | refine rs_skip rfl rfl ?_)
  refine rs_end ?_
  refine qe_then ?_
  refine ct_cond rfl (fun h12 => ?_) (fun h12 => ?_)
  · have hj1 : j < s.p.length := by simp at h12; exact h12
    obtain ⟨bd, rfl⟩ := hv1.some hj1
    obtain ⟨y, hy⟩ : ∃ y, y = s.p[j] := ⟨_, rfl⟩
    have hy' : s.p[j]? = some y := by rw [hy]; exact List.getElem?_eq_getElem hj1
    refine ct_skip ?_
    refine qe_then ?_
    refine ct_seq ?_
    refine ct_block ?_
    refine ct_seq ?_
    refine ct_draw0 (by kernel_rfl) ?_
    refine ra_take 0 rfl (by kernel_rfl) (by kernel_rfl) rfl (by (first | (constructor <;> first | rfl | exact RdC.rd | exact inferInstance) | exact Ex.pickF rfl rfl | exact Ex.eqlS rfl rfl | exact Ex.neqS rfl rfl | exact Ex.eqlPN rfl rfl | exact Ex.neqPN rfl rfl | exact Ex.eqlSN rfl rfl | exact Ex.neqSN rfl rfl | exact Ex.lenStr rfl)) rfl (fun _ h => h.fit) ?_
    refine ra_take 1 rfl (by kernel_rfl) (by kernel_rfl) rfl (by (first | (constructor <;> first | rfl | exact RdC.rd | exact inferInstance) | exact Ex.pickF rfl rfl | exact Ex.eqlS rfl rfl | exact Ex.neqS rfl rfl | exact Ex.eqlPN rfl rfl | exact Ex.neqPN rfl rfl | exact Ex.eqlSN rfl rfl | exact Ex.neqSN rfl rfl | exact Ex.lenStr rfl)) rfl (fun _ h => h.fit) ?_
    refine ra_take 2 rfl (by kernel_rfl) (by kernel_rfl) rfl (by (first | (constructor <;> first | rfl | exact RdC.rd | exact inferInstance) | exact Ex.pickF rfl rfl | exact Ex.eqlS rfl rfl | exact Ex.neqS rfl rfl | exact Ex.eqlPN rfl rfl | exact Ex.neqPN rfl rfl | exact Ex.eqlSN rfl rfl | exact Ex.neqSN rfl rfl | exact Ex.lenStr rfl)) rfl (fun _ h => h.fit) ?_
    refine ra_take 3 rfl (by kernel_rfl) (by kernel_rfl) rfl (by (first | (constructor <;> first | rfl | exact RdC.rd | exact inferInstance) | exact Ex.pickF rfl rfl | exact Ex.eqlS rfl rfl | exact Ex.neqS rfl rfl | exact Ex.eqlPN rfl rfl | exact Ex.neqPN rfl rfl | exact Ex.eqlSN rfl rfl | exact Ex.neqSN rfl rfl | exact Ex.lenStr rfl)) rfl (fun _ h => h.fit) ?_
    refine ra_take 4 rfl (by kernel_rfl) (by kernel_rfl) rfl (by (first | (constructor <;> first | rfl | exact RdC.rd | exact inferInstance) | exact Ex.pickF rfl rfl | exact Ex.eqlS rfl rfl | exact Ex.neqS rfl rfl | exact Ex.eqlPN rfl rfl | exact Ex.neqPN rfl rfl | exact Ex.eqlSN rfl rfl | exact Ex.neqSN rfl rfl | exact Ex.lenStr rfl)) rfl (fun _ h => h.fit) ?_
    refine ra_take 5 rfl (by kernel_rfl) (by kernel_rfl) rfl (ex_indexAddr rfl rfl (by omega) (by omega)) rfl (fun _ h => h.fit) ?_
    refine ra_take 6 rfl (by kernel_rfl) (by kernel_rfl) rfl (by (first | (constructor <;> first | rfl | exact RdC.rd | exact inferInstance) | exact Ex.pickF rfl rfl | exact Ex.eqlS rfl rfl | exact Ex.neqS rfl rfl | exact Ex.eqlPN rfl rfl | exact Ex.neqPN rfl rfl | exact Ex.eqlSN rfl rfl | exact Ex.neqSN rfl rfl | exact Ex.lenStr rfl)) rfl (fun _ h => h.fit) ?_
    refine ra_take 7 rfl (by kernel_rfl) (by kernel_rfl) rfl (ex_loadIdOf y rfl (RdE.get hy')) rfl (fun _ h => h.fit) ?_
    refine ra_take 8 rfl (by kernel_rfl) (by kernel_rfl) rfl (by (first | (constructor <;> first | rfl | exact RdC.rd | exact inferInstance) | exact Ex.pickF rfl rfl | exact Ex.eqlS rfl rfl | exact Ex.neqS rfl rfl | exact Ex.eqlPN rfl rfl | exact Ex.neqPN rfl rfl | exact Ex.eqlSN rfl rfl | exact Ex.neqSN rfl rfl | exact Ex.lenStr rfl)) rfl (fun _ h => h.fit) ?_
    refine ra_take 9 rfl (by kernel_rfl) (by kernel_rfl) rfl (ex_eqId y.id i rfl rfl) rfl (fun _ h => h.fit) ?_
    refine ra_end (by kernel_rfl) ?_
    refine qe_then ?_
    refine ct_cond rfl (fun h24 => ?_) (fun h24 => ?_)
    · have hyi : y.id = i := by simpa using h24
      refine ct_seq ?_
      refine ct_region ?_
      iterate 2 (first | refine rs_ex rfl (by (first | (constructor <;> first | rfl | exact RdC.rd | exact inferInstance) | exact Ex.pickF rfl rfl | exact Ex.eqlS rfl rfl | exact Ex.neqS rfl rfl | exact Ex.eqlPN rfl rfl | exact Ex.neqPN rfl rfl | exact Ex.eqlSN rfl rfl | exact Ex.neqSN rfl rfl | exact Ex.lenStr rfl)) rfl ?_ | refine rs_skip rfl rfl ?_)
      refine rs_end ?_
      refine qe_then ?_
      refine ct_ret ?_
      exact qe_heap (fun w h => RPoolC.shut h.drop) (ret1 rfl rfl ⟨(j : Int), rfl, .inr ⟨j, y, rfl, hy', hyi⟩, rfl⟩)
    · have hyi : y.id ≠ i := by simpa using h24
      refine ct_skip ?_
      refine qe_block 1 ?_
      refine qe_then ?_
      refine ct_region ?_
      iterate 2 (first | refine rs_ex rfl (by (first | (constructor <;> first | rfl | exact RdC.rd | exact inferInstance) | exact Ex.pickF rfl rfl | exact Ex.eqlS rfl rfl | exact Ex.neqS rfl rfl | exact Ex.eqlPN rfl rfl | exact Ex.neqPN rfl rfl | exact Ex.eqlSN rfl rfl | exact Ex.neqSN rfl rfl | exact Ex.lenStr rfl)) rfl ?_ | refine rs_skip rfl rfl ?_)
      refine rs_rw (by rw [wrapS (by omega)]) ?_
      (first | refine rs_ex rfl (by (first | (constructor <;> first | rfl | exact RdC.rd | exact inferInstance) | exact Ex.pickF rfl rfl | exact Ex.eqlS rfl rfl | exact Ex.neqS rfl rfl | exact Ex.eqlPN rfl rfl | exact Ex.neqPN rfl rfl | exact Ex.eqlSN rfl rfl | exact Ex.neqSN rfl rfl | exact Ex.lenStr rfl)) rfl ?_ | refine rs_skip rfl rfl ?_)
      refine rs_end ?_
      refine qe_loopc (j + 1) (⟨by omega, fun x hx => by
        rw [List.take_succ_eq_append_getElem hj1, ← hy] at hx
        rcases List.mem_append.1 hx with hx | hx
        · exact hno x hx
        · simp at hx; subst hx; exact hyi⟩) (by first | omega | (simp only; omega)) ⟨rfl, rfl, rfl, trivial⟩ (fun w h => by first | exact h.fit | exact h)
  · have hje : j = s.p.length := by simp at h12; omega
    rw [hje, List.take_length] at hno
    refine ct_exit ?_
    refine qe_then_exit ?_
    refine qe_loop_exit ?_
    refine qe_block_exit ?_
    refine qe_then ?_
    refine ct_seq ?_
    refine ct_region ?_
    (first | refine rs_ex rfl (by (first | (constructor <;> first | rfl | exact RdC.rd | exact inferInstance) | exact Ex.pickF rfl rfl | exact Ex.eqlS rfl rfl | exact Ex.neqS rfl rfl | exact Ex.eqlPN rfl rfl | exact Ex.neqPN rfl rfl | exact Ex.eqlSN rfl rfl | exact Ex.neqSN rfl rfl | exact Ex.lenStr rfl)) rfl ?_ | refine rs_skip rfl rfl ?_)
    refine rs_end ?_
    refine qe_then ?_
    refine ct_ret ?_
    exact qe_heap (fun w h => RPoolC.shut h.drop) (ret1 rfl rfl ⟨-1, rfl, .inl ⟨rfl, by
      unfold Pool.has
      simp only [decide_eq_false_iff_not]
      intro hm
      obtain ⟨x, hx, e⟩ := List.mem_map.1 hm
      exact hno x hx e⟩, rfl⟩)
theorem insAt_up {m : Msg} {l : List Msg} {k : Nat} {x : Msg} (hk : k ≤ insAt m l) (hx : l[k]? = some x) (h : idLt x.id m.id) : k + 1 ≤ insAt m l := by
  rcases Nat.lt_or_ge k (insAt m l) with h1 | h1
  · exact h1
  · have e : k = insAt m l := by omega
    subst e
    exact absurd h (insAt_eq m l x hx)
theorem insAt_is {m : Msg} {l : List Msg} {k : Nat} {x : Msg} (hk : k ≤ insAt m l) (hx : l[k]? = some x) (h : ¬ idLt x.id m.id) : k = insAt m l := by
  rcases Nat.lt_or_ge k (insAt m l) with h1 | h1
  · exact absurd (insAt_lt m l k x hx h1) h
  · omega
theorem RAdd_c (W0 : World) (r : Nat) (s : Pool) (m : Msg) (H : List Chunk) (hl : s.p.length ≤ 1000) (hd : s.d.length ≤ 100000) :
    Call Try.prog W0 42 [.pointer (some ⟨r, 0, none⟩), m.v] (RPoolC r s :: H) (fun v H' => v = .int .i64 (s.addErr m) ∧ H' = RPoolC r (s.add m) :: H) := by
  refine call_enter Try.func42 rfl Try.ntmps42 rfl ?_

  refine ct_seq ?_
  refine ct_region ?_
  refine rs_op rfl rfl (opR_box rfl fun b3 => ?_)
  (first | refine rs_ex rfl (by (first | (constructor <;> first | rfl | exact RdC.rd | exact inferInstance) | exact Ex.pickF rfl rfl | exact Ex.eqlS rfl rfl | exact Ex.neqS rfl rfl | exact Ex.eqlPN rfl rfl | exact Ex.neqPN rfl rfl | exact Ex.eqlSN rfl rfl | exact Ex.neqSN rfl rfl | exact Ex.lenStr rfl)) rfl ?_ | refine rs_skip rfl rfl ?_)
  refine rs_end ?_
  refine qe_then ?_
  refine ct_seq ?_
  refine ct_region ?_
  (first | refine rs_ex rfl (by (first | (constructor <;> first | rfl | exact RdC.rd | exact inferInstance) | exact Ex.pickF rfl rfl | exact Ex.eqlS rfl rfl | exact Ex.neqS rfl rfl | exact Ex.eqlPN rfl rfl | exact Ex.neqPN rfl rfl | exact Ex.eqlSN rfl rfl | exact Ex.neqSN rfl rfl | exact Ex.lenStr rfl)) rfl ?_ | refine rs_skip rfl rfl ?_)
  refine rs_op rfl rfl (opR_fn rfl (Call.heap (fun w h => by (first | exact h | exact h.sw1 | exact h.sw2 | exact h.sw3 | exact h.sw4 | exact h.sw5 | exact h.sw6 | exact h.sw7 | exact h.sw8 | exact h.pull2 | exact h.pull3 | exact h.pull4 | exact h.pull5 | exact h.fit)) ((RefRight_c W0 m _).mono ?_)))
  rintro v H' ⟨rfl, rfl⟩
  (first | refine rs_ex rfl (by (first | (constructor <;> first | rfl | exact RdC.rd | exact inferInstance) | exact Ex.pickF rfl rfl | exact Ex.eqlS rfl rfl | exact Ex.neqS rfl rfl | exact Ex.eqlPN rfl rfl | exact Ex.neqPN rfl rfl | exact Ex.eqlSN rfl rfl | exact Ex.neqSN rfl rfl | exact Ex.lenStr rfl)) rfl ?_ | refine rs_skip rfl rfl ?_)
  refine rs_end ?_
  refine qe_then ?_
  refine ct_seq ?_
  refine ct_seq ?_
  refine ct_region ?_
  iterate 2 (first | refine rs_ex rfl (by (first | (constructor <;> first | rfl | exact RdC.rd | exact inferInstance) | exact Ex.pickF rfl rfl | exact Ex.eqlS rfl rfl | exact Ex.neqS rfl rfl | exact Ex.eqlPN rfl rfl | exact Ex.neqPN rfl rfl | exact Ex.eqlSN rfl rfl | exact Ex.neqSN rfl rfl | exact Ex.lenStr rfl)) rfl ?_ | refine rs_skip rfl rfl ?_)
  refine rs_end ?_
  refine qe_then ?_
  refine ct_cond rfl (fun h11 => ?_) (fun h11 => ?_)
  · have hr : m.right = false := by simpa using h11
    refine ct_seq ?_
    refine ct_region ?_
    (first | refine rs_ex rfl (by (first | (constructor <;> first | rfl | exact RdC.rd | exact inferInstance) | exact Ex.pickF rfl rfl | exact Ex.eqlS rfl rfl | exact Ex.neqS rfl rfl | exact Ex.eqlPN rfl rfl | exact Ex.neqPN rfl rfl | exact Ex.eqlSN rfl rfl | exact Ex.neqSN rfl rfl | exact Ex.lenStr rfl)) rfl ?_ | refine rs_skip rfl rfl ?_)
    refine rs_end ?_
    refine qe_then ?_
    refine ct_ret ?_
    exact qe_heap (fun w h => h.drop) (ret1 rfl rfl ⟨by rw [Pool.addErr, if_pos hr], by rw [Pool.add, if_pos (.inl hr)]⟩)
  · have hr : m.right = true := by simpa using h11
    refine ct_skip ?_
    refine qe_then ?_
    refine ct_seq ?_
    refine ct_seq ?_
    refine ct_region ?_
    iterate 3 (first | refine rs_ex rfl (by (first | (constructor <;> first | rfl | exact RdC.rd | exact inferInstance) | exact Ex.pickF rfl rfl | exact Ex.eqlS rfl rfl | exact Ex.neqS rfl rfl | exact Ex.eqlPN rfl rfl | exact Ex.neqPN rfl rfl | exact Ex.eqlSN rfl rfl | exact Ex.neqSN rfl rfl | exact Ex.lenStr rfl)) rfl ?_ | refine rs_skip rfl rfl ?_)
    refine rs_op rfl rfl (opR_fn rfl (Call.heap (fun w h => by (first | exact h | exact h.sw1 | exact h.sw2 | exact h.sw3 | exact h.sw4 | exact h.sw5 | exact h.sw6 | exact h.sw7 | exact h.sw8 | exact h.pull2 | exact h.pull3 | exact h.pull4 | exact h.pull5 | exact h.fit)) ((RIs_c W0 r s m.id _ hd).mono ?_)))
    rintro v H' ⟨rfl, rfl⟩
    (first | refine rs_ex rfl (by (first | (constructor <;> first | rfl | exact RdC.rd | exact inferInstance) | exact Ex.pickF rfl rfl | exact Ex.eqlS rfl rfl | exact Ex.neqS rfl rfl | exact Ex.eqlPN rfl rfl | exact Ex.neqPN rfl rfl | exact Ex.eqlSN rfl rfl | exact Ex.neqSN rfl rfl | exact Ex.lenStr rfl)) rfl ?_ | refine rs_skip rfl rfl ?_)
    refine rs_split (fun h16 => ?_) (fun h16 => ?_)
    · have hor : s.is m.id = true ∨ s.has m.id = true := .inl h16
      iterate 6 (first | refine rs_ex rfl (by (first | (constructor <;> first | rfl | exact RdC.rd | exact inferInstance) | exact Ex.pickF rfl rfl | exact Ex.eqlS rfl rfl | exact Ex.neqS rfl rfl | exact Ex.eqlPN rfl rfl | exact Ex.neqPN rfl rfl | exact Ex.eqlSN rfl rfl | exact Ex.neqSN rfl rfl | exact Ex.lenStr rfl)) rfl ?_ | refine rs_skip rfl rfl ?_)
      refine rs_end ?_
      refine qe_then ?_
      refine ct_cond rfl (fun _ => ?_) (fun h => absurd h (by decide))
      refine ct_seq ?_
      refine ct_region ?_
      (first | refine rs_ex rfl (by (first | (constructor <;> first | rfl | exact RdC.rd | exact inferInstance) | exact Ex.pickF rfl rfl | exact Ex.eqlS rfl rfl | exact Ex.neqS rfl rfl | exact Ex.eqlPN rfl rfl | exact Ex.neqPN rfl rfl | exact Ex.eqlSN rfl rfl | exact Ex.neqSN rfl rfl | exact Ex.lenStr rfl)) rfl ?_ | refine rs_skip rfl rfl ?_)
      refine rs_end ?_
      refine qe_then ?_
      refine ct_ret ?_
      exact qe_heap (fun w h => At.dr1 h) (ret1 rfl rfl ⟨by rw [Pool.addErr, if_neg (by simp [hr]), if_pos hor], by rw [Pool.add, if_pos (hor.elim (fun h => .inr (.inl h)) (fun h => .inr (.inr (.inl h))))]⟩)
    · have his : s.is m.id = false := h16
      iterate 3 (first | refine rs_ex rfl (by (first | (constructor <;> first | rfl | exact RdC.rd | exact inferInstance) | exact Ex.pickF rfl rfl | exact Ex.eqlS rfl rfl | exact Ex.neqS rfl rfl | exact Ex.eqlPN rfl rfl | exact Ex.neqPN rfl rfl | exact Ex.eqlSN rfl rfl | exact Ex.neqSN rfl rfl | exact Ex.lenStr rfl)) rfl ?_ | refine rs_skip rfl rfl ?_)
      refine rs_op rfl rfl (opR_fn rfl (Call.heap (fun w h => by (first | exact h | exact h.sw1 | exact h.sw2 | exact h.sw3 | exact h.sw4 | exact h.sw5 | exact h.sw6 | exact h.sw7 | exact h.sw8 | exact h.pull2 | exact h.pull3 | exact h.pull4 | exact h.pull5 | exact h.fit)) ((RAt_c W0 r s m.id _ (by omega)).mono ?_)))
      rintro v H' ⟨a, rfl, ha, rfl⟩
      iterate 2 (first | refine rs_ex rfl (by (first | (constructor <;> first | rfl | exact RdC.rd | exact inferInstance) | exact Ex.pickF rfl rfl | exact Ex.eqlS rfl rfl | exact Ex.neqS rfl rfl | exact Ex.eqlPN rfl rfl | exact Ex.neqPN rfl rfl | exact Ex.eqlSN rfl rfl | exact Ex.neqSN rfl rfl | exact Ex.lenStr rfl)) rfl ?_ | refine rs_skip rfl rfl ?_)
      refine rs_end ?_
      refine qe_then ?_
      refine ct_cond rfl (fun h22 => ?_) (fun h22 => ?_)
      · have hor : s.is m.id = true ∨ s.has m.id = true := by
          right
          rcases ha with ⟨e, _⟩ | ⟨k, x, _, hk, hxi⟩
          · simp at h22; omega
          · exact Pool.has_iff.2 ⟨x, List.mem_of_getElem? hk, hxi⟩
        refine ct_seq ?_
        refine ct_region ?_
        (first | refine rs_ex rfl (by (first | (constructor <;> first | rfl | exact RdC.rd | exact inferInstance) | exact Ex.pickF rfl rfl | exact Ex.eqlS rfl rfl | exact Ex.neqS rfl rfl | exact Ex.eqlPN rfl rfl | exact Ex.neqPN rfl rfl | exact Ex.eqlSN rfl rfl | exact Ex.neqSN rfl rfl | exact Ex.lenStr rfl)) rfl ?_ | refine rs_skip rfl rfl ?_)
        refine rs_end ?_
        refine qe_then ?_
        refine ct_ret ?_
        exact qe_heap (fun w h => At.dr1 h) (ret1 rfl rfl ⟨by rw [Pool.addErr, if_neg (by simp [hr]), if_pos hor], by rw [Pool.add, if_pos (hor.elim (fun h => .inr (.inl h)) (fun h => .inr (.inr (.inl h))))]⟩)
      · have hh : s.has m.id = false := by
          rcases ha with ⟨_, e⟩ | ⟨k, x, e, _, _⟩
          · exact e
          · simp at h22; omega
        refine ct_ex (fun w h => RPoolC.open h) ?_
        rintro ⟨⟨⟨p1, c1⟩, p2, c2⟩, hv1, hv2⟩
        simp only at hv1 hv2 ⊢
        refine ct_skip ?_
        refine qe_then ?_
        refine ct_seq ?_
        refine ct_seq ?_
        refine ct_region ?_
        iterate 6 (first | refine rs_ex rfl (by (first | (constructor <;> first | rfl | exact RdC.rd | exact inferInstance) | exact Ex.pickF rfl rfl | exact Ex.eqlS rfl rfl | exact Ex.neqS rfl rfl | exact Ex.eqlPN rfl rfl | exact Ex.neqPN rfl rfl | exact Ex.eqlSN rfl rfl | exact Ex.neqSN rfl rfl | exact Ex.lenStr rfl)) rfl ?_ | refine rs_skip rfl rfl ?_)
        refine rs_end ?_
        refine qe_then ?_
        refine ct_cond rfl (fun h28 => ?_) (fun h28 => ?_)
        · have hf : s.p.length = 1000 := by simp at h28; omega
          refine ct_seq ?_
          refine ct_region ?_
          (first | refine rs_ex rfl (by (first | (constructor <;> first | rfl | exact RdC.rd | exact inferInstance) | exact Ex.pickF rfl rfl | exact Ex.eqlS rfl rfl | exact Ex.neqS rfl rfl | exact Ex.eqlPN rfl rfl | exact Ex.neqPN rfl rfl | exact Ex.eqlSN rfl rfl | exact Ex.neqSN rfl rfl | exact Ex.lenStr rfl)) rfl ?_ | refine rs_skip rfl rfl ?_)
          refine rs_end ?_
          refine qe_then ?_
          refine ct_ret ?_
          exact qe_heap (fun w h => RPoolC.shut (At.dr3 h)) (ret1 rfl rfl ⟨by rw [Pool.addErr, if_neg (by simp [hr]), if_neg (by simp [his, hh]), if_pos hf], by rw [Pool.add, if_pos (.inr (.inr (.inr hf)))]⟩)
        · have hf : s.p.length ≠ 1000 := by simp at h28; omega
          have hat := insAt_le m s.p
          refine ct_skip ?_
          refine qe_then ?_
          refine ct_seq ?_
          refine ct_region ?_
          (first | refine rs_ex rfl (by (first | (constructor <;> first | rfl | exact RdC.rd | exact inferInstance) | exact Ex.pickF rfl rfl | exact Ex.eqlS rfl rfl | exact Ex.neqS rfl rfl | exact Ex.eqlPN rfl rfl | exact Ex.neqPN rfl rfl | exact Ex.eqlSN rfl rfl | exact Ex.neqSN rfl rfl | exact Ex.lenStr rfl)) rfl ?_ | refine rs_skip rfl rfl ?_)
          refine rs_end ?_
          refine qe_then ?_
          refine ct_seq ?_
          refine ct_block ?_
          refine ct_loopk (ζ := Nat) (fun k => k ≤ insAt m s.p) [(0, _), (3, _)] (fun k => [(6, .int .i64 (k : Int))]) (fun k => s.p.length - k) (0) (Nat.zero_le _) ⟨rfl, rfl, rfl, trivial⟩ ?_
          rintro k hk
          refine ct_seq ?_
          refine ct_seq ?_
          refine ct_draw0 (by kernel_rfl) ?_
          refine ra_take 0 rfl (by kernel_rfl) (by kernel_rfl) rfl (by (first | (constructor <;> first | rfl | exact RdC.rd | exact inferInstance) | exact Ex.pickF rfl rfl | exact Ex.eqlS rfl rfl | exact Ex.neqS rfl rfl | exact Ex.eqlPN rfl rfl | exact Ex.neqPN rfl rfl | exact Ex.eqlSN rfl rfl | exact Ex.neqSN rfl rfl | exact Ex.lenStr rfl)) rfl (fun _ h => h.fit) ?_
          refine ra_take 1 rfl (by kernel_rfl) (by kernel_rfl) rfl (by (first | (constructor <;> first | rfl | exact RdC.rd | exact inferInstance) | exact Ex.pickF rfl rfl | exact Ex.eqlS rfl rfl | exact Ex.neqS rfl rfl | exact Ex.eqlPN rfl rfl | exact Ex.neqPN rfl rfl | exact Ex.eqlSN rfl rfl | exact Ex.neqSN rfl rfl | exact Ex.lenStr rfl)) rfl (fun _ h => h.fit) ?_
          refine ra_take 2 rfl (by kernel_rfl) (by kernel_rfl) rfl (by (first | (constructor <;> first | rfl | exact RdC.rd | exact inferInstance) | exact Ex.pickF rfl rfl | exact Ex.eqlS rfl rfl | exact Ex.neqS rfl rfl | exact Ex.eqlPN rfl rfl | exact Ex.neqPN rfl rfl | exact Ex.eqlSN rfl rfl | exact Ex.neqSN rfl rfl | exact Ex.lenStr rfl)) rfl (fun _ h => h.fit) ?_
          refine ra_take 3 rfl (by kernel_rfl) (by kernel_rfl) rfl (by (first | (constructor <;> first | rfl | exact RdC.rd | exact inferInstance) | exact Ex.pickF rfl rfl | exact Ex.eqlS rfl rfl | exact Ex.neqS rfl rfl | exact Ex.eqlPN rfl rfl | exact Ex.neqPN rfl rfl | exact Ex.eqlSN rfl rfl | exact Ex.neqSN rfl rfl | exact Ex.lenStr rfl)) rfl (fun _ h => h.fit) ?_
          refine ra_take 4 rfl (by kernel_rfl) (by kernel_rfl) rfl (by (first | (constructor <;> first | rfl | exact RdC.rd | exact inferInstance) | exact Ex.pickF rfl rfl | exact Ex.eqlS rfl rfl | exact Ex.neqS rfl rfl | exact Ex.eqlPN rfl rfl | exact Ex.neqPN rfl rfl | exact Ex.eqlSN rfl rfl | exact Ex.neqSN rfl rfl | exact Ex.lenStr rfl)) rfl (fun _ h => h.fit) ?_
          refine ra_take 5 rfl (by kernel_rfl) (by kernel_rfl) rfl (by (first | (constructor <;> first | rfl | exact RdC.rd | exact inferInstance) | exact Ex.pickF rfl rfl | exact Ex.eqlS rfl rfl | exact Ex.neqS rfl rfl | exact Ex.eqlPN rfl rfl | exact Ex.neqPN rfl rfl | exact Ex.eqlSN rfl rfl | exact Ex.neqSN rfl rfl | exact Ex.lenStr rfl)) rfl (fun _ h => h.fit) ?_
          refine ra_take 6 rfl (by kernel_rfl) (by kernel_rfl) rfl (by (first | (constructor <;> first | rfl | exact RdC.rd | exact inferInstance) | exact Ex.pickF rfl rfl | exact Ex.eqlS rfl rfl | exact Ex.neqS rfl rfl | exact Ex.eqlPN rfl rfl | exact Ex.neqPN rfl rfl | exact Ex.eqlSN rfl rfl | exact Ex.neqSN rfl rfl | exact Ex.lenStr rfl)) rfl (fun _ h => h.fit) ?_
          refine ra_take 7 rfl (by kernel_rfl) (by kernel_rfl) rfl (by (first | (constructor <;> first | rfl | exact RdC.rd | exact inferInstance) | exact Ex.pickF rfl rfl | exact Ex.eqlS rfl rfl | exact Ex.neqS rfl rfl | exact Ex.eqlPN rfl rfl | exact Ex.neqPN rfl rfl | exact Ex.eqlSN rfl rfl | exact Ex.neqSN rfl rfl | exact Ex.lenStr rfl)) rfl (fun _ h => h.fit) ?_
          refine ra_split (fun h36 => ?_) (fun h36 => ?_)
          · have hk1 : k < s.p.length := by simp at h36; exact h36
            obtain ⟨bd, rfl⟩ := hv1.some hk1
            obtain ⟨y, hy⟩ : ∃ y, y = s.p[k] := ⟨_, rfl⟩
            have hy' : s.p[k]? = some y := by rw [hy]; exact List.getElem?_eq_getElem hk1
            refine ra_take 8 rfl (by kernel_rfl) (by kernel_rfl) rfl (by (first | (constructor <;> first | rfl | exact RdC.rd | exact inferInstance) | exact Ex.pickF rfl rfl | exact Ex.eqlS rfl rfl | exact Ex.neqS rfl rfl | exact Ex.eqlPN rfl rfl | exact Ex.neqPN rfl rfl | exact Ex.eqlSN rfl rfl | exact Ex.neqSN rfl rfl | exact Ex.lenStr rfl)) rfl (fun _ h => h.fit) ?_
            refine ra_take 9 rfl (by kernel_rfl) (by kernel_rfl) rfl (by (first | (constructor <;> first | rfl | exact RdC.rd | exact inferInstance) | exact Ex.pickF rfl rfl | exact Ex.eqlS rfl rfl | exact Ex.neqS rfl rfl | exact Ex.eqlPN rfl rfl | exact Ex.neqPN rfl rfl | exact Ex.eqlSN rfl rfl | exact Ex.neqSN rfl rfl | exact Ex.lenStr rfl)) rfl (fun _ h => h.fit) ?_
            refine ra_take 10 rfl (by kernel_rfl) (by kernel_rfl) rfl (by (first | (constructor <;> first | rfl | exact RdC.rd | exact inferInstance) | exact Ex.pickF rfl rfl | exact Ex.eqlS rfl rfl | exact Ex.neqS rfl rfl | exact Ex.eqlPN rfl rfl | exact Ex.neqPN rfl rfl | exact Ex.eqlSN rfl rfl | exact Ex.neqSN rfl rfl | exact Ex.lenStr rfl)) rfl (fun _ h => h.fit) ?_
            refine ra_take 11 rfl (by kernel_rfl) (by kernel_rfl) rfl (by (first | (constructor <;> first | rfl | exact RdC.rd | exact inferInstance) | exact Ex.pickF rfl rfl | exact Ex.eqlS rfl rfl | exact Ex.neqS rfl rfl | exact Ex.eqlPN rfl rfl | exact Ex.neqPN rfl rfl | exact Ex.eqlSN rfl rfl | exact Ex.neqSN rfl rfl | exact Ex.lenStr rfl)) rfl (fun _ h => h.fit) ?_
            refine ra_take 12 rfl (by kernel_rfl) (by kernel_rfl) rfl (by (first | (constructor <;> first | rfl | exact RdC.rd | exact inferInstance) | exact Ex.pickF rfl rfl | exact Ex.eqlS rfl rfl | exact Ex.neqS rfl rfl | exact Ex.eqlPN rfl rfl | exact Ex.neqPN rfl rfl | exact Ex.eqlSN rfl rfl | exact Ex.neqSN rfl rfl | exact Ex.lenStr rfl)) rfl (fun _ h => h.fit) ?_
            refine ra_take 13 rfl (by kernel_rfl) (by kernel_rfl) rfl (ex_indexAddr rfl rfl (by omega) (by omega)) rfl (fun _ h => h.fit) ?_
            refine ra_take 14 rfl (by kernel_rfl) (by kernel_rfl) rfl (by (first | (constructor <;> first | rfl | exact RdC.rd | exact inferInstance) | exact Ex.pickF rfl rfl | exact Ex.eqlS rfl rfl | exact Ex.neqS rfl rfl | exact Ex.eqlPN rfl rfl | exact Ex.neqPN rfl rfl | exact Ex.eqlSN rfl rfl | exact Ex.neqSN rfl rfl | exact Ex.lenStr rfl)) rfl (fun _ h => h.fit) ?_
            refine ra_take 15 rfl (by kernel_rfl) (by kernel_rfl) rfl (ex_loadIdOf y rfl (RdE.get hy')) rfl (fun _ h => h.fit) ?_
            refine ra_take 16 rfl (by kernel_rfl) (by kernel_rfl) rfl (by (first | (constructor <;> first | rfl | exact RdC.rd | exact inferInstance) | exact Ex.pickF rfl rfl | exact Ex.eqlS rfl rfl | exact Ex.neqS rfl rfl | exact Ex.eqlPN rfl rfl | exact Ex.neqPN rfl rfl | exact Ex.eqlSN rfl rfl | exact Ex.neqSN rfl rfl | exact Ex.lenStr rfl)) rfl (fun _ h => h.fit) ?_
            refine ra_take 17 rfl (by kernel_rfl) (by kernel_rfl) rfl (by (first | (constructor <;> first | rfl | exact RdC.rd | exact inferInstance) | exact Ex.pickF rfl rfl | exact Ex.eqlS rfl rfl | exact Ex.neqS rfl rfl | exact Ex.eqlPN rfl rfl | exact Ex.neqPN rfl rfl | exact Ex.eqlSN rfl rfl | exact Ex.neqSN rfl rfl | exact Ex.lenStr rfl)) rfl (fun _ h => h.fit) ?_
            refine ra_all (rs := [18]) (by kernel_rfl) rfl ?_
            refine each_op rfl rfl rfl (opR_fn rfl (Call.heap (fun w h => by (first | exact h | exact h.sw1 | exact h.sw2 | exact h.sw3 | exact h.sw4 | exact h.sw5 | exact h.sw6 | exact h.sw7 | exact h.sw8 | exact h.pull2 | exact h.pull3 | exact h.pull4 | exact h.pull5 | exact h.fit)) ((Ahead_c W0 y.id m.id _).mono ?_))) each_nil
            rintro v H' ⟨rfl, rfl⟩
            refine ⟨.inr (fun w h => h.fit), ?_⟩
            refine ra_take 19 rfl (by kernel_rfl) (by kernel_rfl) rfl (by (first | (constructor <;> first | rfl | exact RdC.rd | exact inferInstance) | exact Ex.pickF rfl rfl | exact Ex.eqlS rfl rfl | exact Ex.neqS rfl rfl | exact Ex.eqlPN rfl rfl | exact Ex.neqPN rfl rfl | exact Ex.eqlSN rfl rfl | exact Ex.neqSN rfl rfl | exact Ex.lenStr rfl)) rfl (fun _ h => h.fit) ?_
            refine ra_end (by kernel_rfl) ?_
            refine qe_then ?_
            refine ct_cond rfl (fun h48 => ?_) (fun h48 => ?_)
            · have hlt : idLt y.id m.id := by simpa using h48
              refine ct_skip ?_
              refine qe_then ?_
              refine ct_block ?_
              refine ct_region ?_
              iterate 2 (first | refine rs_ex rfl (by (first | (constructor <;> first | rfl | exact RdC.rd | exact inferInstance) | exact Ex.pickF rfl rfl | exact Ex.eqlS rfl rfl | exact Ex.neqS rfl rfl | exact Ex.eqlPN rfl rfl | exact Ex.neqPN rfl rfl | exact Ex.eqlSN rfl rfl | exact Ex.neqSN rfl rfl | exact Ex.lenStr rfl)) rfl ?_ | refine rs_skip rfl rfl ?_)
              refine rs_rw (by rw [wrapS (by omega)]) ?_
              (first | refine rs_ex rfl (by (first | (constructor <;> first | rfl | exact RdC.rd | exact inferInstance) | exact Ex.pickF rfl rfl | exact Ex.eqlS rfl rfl | exact Ex.neqS rfl rfl | exact Ex.eqlPN rfl rfl | exact Ex.neqPN rfl rfl | exact Ex.eqlSN rfl rfl | exact Ex.neqSN rfl rfl | exact Ex.lenStr rfl)) rfl ?_ | refine rs_skip rfl rfl ?_)
              refine rs_end ?_
              refine qe_block 1 ?_
              refine qe_loopc (k + 1) (insAt_up hk hy' hlt) (by first | omega | (simp only; omega)) ⟨rfl, rfl, rfl, trivial⟩ (fun w h => by first | exact h.fit | exact h)
            · refine ct_exit ?_
              refine qe_then_exit ?_
              refine qe_loop_exit ?_
              refine qe_block_exit ?_
              refine qe_then ?_
              refine ct_seq ?_
              obtain rfl : k = insAt m s.p := by
                first
                  | exact insAt_is hk hy' (by simpa using h48)
                  | (simp at h36; omega)
              refine ct_region ?_
              (first | refine rs_ex rfl (by (first | (constructor <;> first | rfl | exact RdC.rd | exact inferInstance) | exact Ex.pickF rfl rfl | exact Ex.eqlS rfl rfl | exact Ex.neqS rfl rfl | exact Ex.eqlPN rfl rfl | exact Ex.neqPN rfl rfl | exact Ex.eqlSN rfl rfl | exact Ex.neqSN rfl rfl | exact Ex.lenStr rfl)) rfl ?_ | refine rs_skip rfl rfl ?_)
              refine rs_end ?_
              refine qe_then ?_
              refine ct_heap (fun w h => At.slt_nil (α := Msg) 34 h) ?_
              refine ct_seq ?_
              refine ct_region ?_
              iterate 6 (first | refine rs_ex rfl (by (first | (constructor <;> first | rfl | exact RdC.rd | exact inferInstance) | exact Ex.pickF rfl rfl | exact Ex.eqlS rfl rfl | exact Ex.neqS rfl rfl | exact Ex.eqlPN rfl rfl | exact Ex.neqPN rfl rfl | exact Ex.eqlSN rfl rfl | exact Ex.neqSN rfl rfl | exact Ex.lenStr rfl)) rfl ?_ | refine rs_skip rfl rfl ?_)
              refine rs_ex rfl (ex_slice (i := 0) (j := insAt m s.p) rfl (.inl ⟨rfl, rfl⟩) (.inr ⟨_, _, rfl, rfl⟩) (by omega) (by have := hv1.le; omega)) rfl ?_
              refine rs_rw (by rw [Nat.sub_zero, Nat.sub_zero, show insAt m s.p = (s.p.take (insAt m s.p)).length by simp; omega]) ?_
              refine rs_op rfl rfl (opR_append (s.p.take (insAt m s.p)) rfl rfl (by exact SlR.takeA (RdS.slR (len := s.p.length) inferInstance hv1) hv1.le) rfl (by simp; omega) rfl fun p3 c3 hv3 => ?_)
              (first | refine rs_ex rfl (by (first | (constructor <;> first | rfl | exact RdC.rd | exact inferInstance) | exact Ex.pickF rfl rfl | exact Ex.eqlS rfl rfl | exact Ex.neqS rfl rfl | exact Ex.eqlPN rfl rfl | exact Ex.neqPN rfl rfl | exact Ex.eqlSN rfl rfl | exact Ex.neqSN rfl rfl | exact Ex.lenStr rfl)) rfl ?_ | refine rs_skip rfl rfl ?_)
              refine rs_end ?_
              refine qe_then ?_
              refine ct_seq ?_
              refine ct_region ?_
              iterate 2 (first | refine rs_ex rfl (by (first | (constructor <;> first | rfl | exact RdC.rd | exact inferInstance) | exact Ex.pickF rfl rfl | exact Ex.eqlS rfl rfl | exact Ex.neqS rfl rfl | exact Ex.eqlPN rfl rfl | exact Ex.neqPN rfl rfl | exact Ex.eqlSN rfl rfl | exact Ex.neqSN rfl rfl | exact Ex.lenStr rfl)) rfl ?_ | refine rs_skip rfl rfl ?_)
              refine rs_op rfl rfl (opR_buildSlice rfl rfl rfl rfl fun b61 => ?_)
              refine rs_op rfl rfl (opR_append [m] rfl rfl (by exact SlR.blk RdC.rd [m] rfl) rfl (by simp; omega) rfl fun p4 c4 hv4 => ?_)
              (first | refine rs_ex rfl (by (first | (constructor <;> first | rfl | exact RdC.rd | exact inferInstance) | exact Ex.pickF rfl rfl | exact Ex.eqlS rfl rfl | exact Ex.neqS rfl rfl | exact Ex.eqlPN rfl rfl | exact Ex.neqPN rfl rfl | exact Ex.eqlSN rfl rfl | exact Ex.neqSN rfl rfl | exact Ex.lenStr rfl)) rfl ?_ | refine rs_skip rfl rfl ?_)
              refine rs_end ?_
              refine qe_then ?_
              refine ct_seq ?_
              refine ct_region ?_
              iterate 7 (first | refine rs_ex rfl (by (first | (constructor <;> first | rfl | exact RdC.rd | exact inferInstance) | exact Ex.pickF rfl rfl | exact Ex.eqlS rfl rfl | exact Ex.neqS rfl rfl | exact Ex.eqlPN rfl rfl | exact Ex.neqPN rfl rfl | exact Ex.eqlSN rfl rfl | exact Ex.neqSN rfl rfl | exact Ex.lenStr rfl)) rfl ?_ | refine rs_skip rfl rfl ?_)
              refine rs_ex rfl (ex_slice (i := insAt m s.p) (j := s.p.length) rfl (.inr ⟨_, _, rfl, rfl⟩) (.inl ⟨rfl, rfl⟩) (by omega) (by have := hv1.le; omega)) rfl ?_
              refine rs_rw (by rw [show s.p.length - insAt m s.p = (s.p.drop (insAt m s.p)).length by simp]) ?_
              refine rs_op rfl rfl (opR_append (s.p.drop (insAt m s.p)) rfl rfl (by exact SlR.dropA (RdS.slR (len := s.p.length) inferInstance hv1) hv1.le) rfl (by simp; omega) rfl fun p5 c5 hv5 => ?_)
              iterate 2 (first | refine rs_ex rfl (by (first | (constructor <;> first | rfl | exact RdC.rd | exact inferInstance) | exact Ex.pickF rfl rfl | exact Ex.eqlS rfl rfl | exact Ex.neqS rfl rfl | exact Ex.eqlPN rfl rfl | exact Ex.neqPN rfl rfl | exact Ex.eqlSN rfl rfl | exact Ex.neqSN rfl rfl | exact Ex.lenStr rfl)) rfl ?_ | refine rs_skip rfl rfl ?_)
              refine rs_opN rfl (opR_store rfl rfl rfl rfl ?_)
              refine rs_end ?_
              refine qe_then ?_
              have hfin : [] ++ s.p.take (insAt m s.p) ++ [m] ++ s.p.drop (insAt m s.p) = (s.add m).p := by
                rw [Pool.add_new (by simp [hr, his, hh, hf])]
                show _ = ins m s.p
                rw [ins_at]
                simp
              rw [hfin]
              refine ct_heap (H' := RPoolC r (s.add m) :: H) (fun w h => ?_) ?_
              · have h2 := At.top [_, _, _, _, _, _] [2, 1, 4] h
                refine RPoolC.shut (s := s.add m) (v1 := .slice p5 (s.add m).p.length c5) (v2 := .slice p2 s.d.length c2) ?_
                rw [Pool.add_d]
                exact h2
              refine ct_seq ?_
              refine ct_region ?_
              (first | refine rs_ex rfl (by (first | (constructor <;> first | rfl | exact RdC.rd | exact inferInstance) | exact Ex.pickF rfl rfl | exact Ex.eqlS rfl rfl | exact Ex.neqS rfl rfl | exact Ex.eqlPN rfl rfl | exact Ex.neqPN rfl rfl | exact Ex.eqlSN rfl rfl | exact Ex.neqSN rfl rfl | exact Ex.lenStr rfl)) rfl ?_ | refine rs_skip rfl rfl ?_)
              refine rs_end ?_
              refine qe_then ?_
              refine ct_ret ?_
              exact (ret1 rfl rfl ⟨by rw [Pool.addErr, if_neg (by simp [hr]), if_neg (by simp [his, hh]), if_neg hf], rfl⟩)
          · refine ra_skip 8 rfl (by kernel_rfl) (by kernel_rfl) rfl rfl (fun _ h => h.fit) ?_
            refine ra_skip 9 rfl (by kernel_rfl) (by kernel_rfl) rfl rfl (fun _ h => h.fit) ?_
            refine ra_skip 10 rfl (by kernel_rfl) (by kernel_rfl) rfl rfl (fun _ h => h.fit) ?_
            refine ra_skip 11 rfl (by kernel_rfl) (by kernel_rfl) rfl rfl (fun _ h => h.fit) ?_
            refine ra_skip 12 rfl (by kernel_rfl) (by kernel_rfl) rfl rfl (fun _ h => h.fit) ?_
            refine ra_skip 13 rfl (by kernel_rfl) (by kernel_rfl) rfl rfl (fun _ h => h.fit) ?_
            refine ra_skip 14 rfl (by kernel_rfl) (by kernel_rfl) rfl rfl (fun _ h => h.fit) ?_
            refine ra_skip 15 rfl (by kernel_rfl) (by kernel_rfl) rfl rfl (fun _ h => h.fit) ?_
            refine ra_skip 16 rfl (by kernel_rfl) (by kernel_rfl) rfl rfl (fun _ h => h.fit) ?_
            refine ra_skip 17 rfl (by kernel_rfl) (by kernel_rfl) rfl rfl (fun _ h => h.fit) ?_
            refine ra_skip 18 rfl (by kernel_rfl) (by kernel_rfl) rfl rfl (fun _ h => h.fit) ?_
            refine ra_take 19 rfl (by kernel_rfl) (by kernel_rfl) rfl (by (first | (constructor <;> first | rfl | exact RdC.rd | exact inferInstance) | exact Ex.pickF rfl rfl | exact Ex.eqlS rfl rfl | exact Ex.neqS rfl rfl | exact Ex.eqlPN rfl rfl | exact Ex.neqPN rfl rfl | exact Ex.eqlSN rfl rfl | exact Ex.neqSN rfl rfl | exact Ex.lenStr rfl)) rfl (fun _ h => h.fit) ?_
            refine ra_end (by kernel_rfl) ?_
            refine qe_then ?_
            refine ct_cond rfl (fun h => absurd h (by decide)) (fun _ => ?_)
            refine ct_exit ?_
            refine qe_then_exit ?_
            refine qe_loop_exit ?_
            refine qe_block_exit ?_
            refine qe_then ?_
            refine ct_seq ?_
            obtain rfl : k = insAt m s.p := by
              first
                | exact insAt_is hk hy' (by simpa using h48)
                | (simp at h36; omega)
            refine ct_region ?_
            (first | refine rs_ex rfl (by (first | (constructor <;> first | rfl | exact RdC.rd | exact inferInstance) | exact Ex.pickF rfl rfl | exact Ex.eqlS rfl rfl | exact Ex.neqS rfl rfl | exact Ex.eqlPN rfl rfl | exact Ex.neqPN rfl rfl | exact Ex.eqlSN rfl rfl | exact Ex.neqSN rfl rfl | exact Ex.lenStr rfl)) rfl ?_ | refine rs_skip rfl rfl ?_)
            refine rs_end ?_
            refine qe_then ?_
            refine ct_heap (fun w h => At.slt_nil (α := Msg) 34 h) ?_
            refine ct_seq ?_
            refine ct_region ?_
            iterate 6 (first | refine rs_ex rfl (by (first | (constructor <;> first | rfl | exact RdC.rd | exact inferInstance) | exact Ex.pickF rfl rfl | exact Ex.eqlS rfl rfl | exact Ex.neqS rfl rfl | exact Ex.eqlPN rfl rfl | exact Ex.neqPN rfl rfl | exact Ex.eqlSN rfl rfl | exact Ex.neqSN rfl rfl | exact Ex.lenStr rfl)) rfl ?_ | refine rs_skip rfl rfl ?_)
            refine rs_ex rfl (ex_slice (i := 0) (j := insAt m s.p) rfl (.inl ⟨rfl, rfl⟩) (.inr ⟨_, _, rfl, rfl⟩) (by omega) (by have := hv1.le; omega)) rfl ?_
            refine rs_rw (by rw [Nat.sub_zero, Nat.sub_zero, show insAt m s.p = (s.p.take (insAt m s.p)).length by simp; omega]) ?_
            refine rs_op rfl rfl (opR_append (s.p.take (insAt m s.p)) rfl rfl (by exact SlR.takeA (RdS.slR (len := s.p.length) inferInstance hv1) hv1.le) rfl (by simp; omega) rfl fun p3 c3 hv3 => ?_)
            (first | refine rs_ex rfl (by (first | (constructor <;> first | rfl | exact RdC.rd | exact inferInstance) | exact Ex.pickF rfl rfl | exact Ex.eqlS rfl rfl | exact Ex.neqS rfl rfl | exact Ex.eqlPN rfl rfl | exact Ex.neqPN rfl rfl | exact Ex.eqlSN rfl rfl | exact Ex.neqSN rfl rfl | exact Ex.lenStr rfl)) rfl ?_ | refine rs_skip rfl rfl ?_)
            refine rs_end ?_
            refine qe_then ?_
            refine ct_seq ?_
            refine ct_region ?_
            iterate 2 (first | refine rs_ex rfl (by (first | (constructor <;> first | rfl | exact RdC.rd | exact inferInstance) | exact Ex.pickF rfl rfl | exact Ex.eqlS rfl rfl | exact Ex.neqS rfl rfl | exact Ex.eqlPN rfl rfl | exact Ex.neqPN rfl rfl | exact Ex.eqlSN rfl rfl | exact Ex.neqSN rfl rfl | exact Ex.lenStr rfl)) rfl ?_ | refine rs_skip rfl rfl ?_)
            refine rs_op rfl rfl (opR_buildSlice rfl rfl rfl rfl fun b61 => ?_)
            refine rs_op rfl rfl (opR_append [m] rfl rfl (by exact SlR.blk RdC.rd [m] rfl) rfl (by simp; omega) rfl fun p4 c4 hv4 => ?_)
            (first | refine rs_ex rfl (by (first | (constructor <;> first | rfl | exact RdC.rd | exact inferInstance) | exact Ex.pickF rfl rfl | exact Ex.eqlS rfl rfl | exact Ex.neqS rfl rfl | exact Ex.eqlPN rfl rfl | exact Ex.neqPN rfl rfl | exact Ex.eqlSN rfl rfl | exact Ex.neqSN rfl rfl | exact Ex.lenStr rfl)) rfl ?_ | refine rs_skip rfl rfl ?_)
            refine rs_end ?_
            refine qe_then ?_
            refine ct_seq ?_
            refine ct_region ?_
            iterate 7 (first | refine rs_ex rfl (by (first | (constructor <;> first | rfl | exact RdC.rd | exact inferInstance) | exact Ex.pickF rfl rfl | exact Ex.eqlS rfl rfl | exact Ex.neqS rfl rfl | exact Ex.eqlPN rfl rfl | exact Ex.neqPN rfl rfl | exact Ex.eqlSN rfl rfl | exact Ex.neqSN rfl rfl | exact Ex.lenStr rfl)) rfl ?_ | refine rs_skip rfl rfl ?_)
            refine rs_ex rfl (ex_slice (i := insAt m s.p) (j := s.p.length) rfl (.inr ⟨_, _, rfl, rfl⟩) (.inl ⟨rfl, rfl⟩) (by omega) (by have := hv1.le; omega)) rfl ?_
            refine rs_rw (by rw [show s.p.length - insAt m s.p = (s.p.drop (insAt m s.p)).length by simp]) ?_
            refine rs_op rfl rfl (opR_append (s.p.drop (insAt m s.p)) rfl rfl (by exact SlR.dropA (RdS.slR (len := s.p.length) inferInstance hv1) hv1.le) rfl (by simp; omega) rfl fun p5 c5 hv5 => ?_)
            iterate 2 (first | refine rs_ex rfl (by (first | (constructor <;> first | rfl | exact RdC.rd | exact inferInstance) | exact Ex.pickF rfl rfl | exact Ex.eqlS rfl rfl | exact Ex.neqS rfl rfl | exact Ex.eqlPN rfl rfl | exact Ex.neqPN rfl rfl | exact Ex.eqlSN rfl rfl | exact Ex.neqSN rfl rfl | exact Ex.lenStr rfl)) rfl ?_ | refine rs_skip rfl rfl ?_)
            refine rs_opN rfl (opR_store rfl rfl rfl rfl ?_)
            refine rs_end ?_
            refine qe_then ?_
            have hfin : [] ++ s.p.take (insAt m s.p) ++ [m] ++ s.p.drop (insAt m s.p) = (s.add m).p := by
              rw [Pool.add_new (by simp [hr, his, hh, hf])]
              show _ = ins m s.p
              rw [ins_at]
              simp
            rw [hfin]
            refine ct_heap (H' := RPoolC r (s.add m) :: H) (fun w h => ?_) ?_
            · have h2 := At.top [_, _, _, _, _, _] [2, 1, 4] h
              refine RPoolC.shut (s := s.add m) (v1 := .slice p5 (s.add m).p.length c5) (v2 := .slice p2 s.d.length c2) ?_
              rw [Pool.add_d]
              exact h2
            refine ct_seq ?_
            refine ct_region ?_
            (first | refine rs_ex rfl (by (first | (constructor <;> first | rfl | exact RdC.rd | exact inferInstance) | exact Ex.pickF rfl rfl | exact Ex.eqlS rfl rfl | exact Ex.neqS rfl rfl | exact Ex.eqlPN rfl rfl | exact Ex.neqPN rfl rfl | exact Ex.eqlSN rfl rfl | exact Ex.neqSN rfl rfl | exact Ex.lenStr rfl)) rfl ?_ | refine rs_skip rfl rfl ?_)
            refine rs_end ?_
            refine qe_then ?_
            refine ct_ret ?_
            exact (ret1 rfl rfl ⟨by rw [Pool.addErr, if_neg (by simp [hr]), if_neg (by simp [his, hh]), if_neg hf], rfl⟩)
theorem RBatch_c (W0 : World) (r : Nat) (s : Pool) (n : Int) (p1 : Option Addr) (c1 : Nat) (v2 : Value) (H : List Chunk) (hv1 : SlV p1 c1 s.p) :
    Call Try.prog W0 44 [.pointer (some ⟨r, 0, none⟩), .int .i64 n] (Blk r (.cells #[.slice p1 s.p.length c1, v2] 69 (0, 0)) :: SlT 34 (.slice p1 s.p.length c1) s.p :: H)
      (fun v H' => ∃ q c, v = .tuple #[.slice q (s.batch n).length c, .int .i64 (batchErr n)] ∧ (q = subA p1 c1 0 3 ∨ s.batch n = []) ∧ H' = Blk r (.cells #[.slice p1 s.p.length c1, v2] 69 (0, 0)) :: SlT 34 (.slice p1 s.p.length c1) s.p :: H) := by
  refine call_enter Try.func44 rfl Try.ntmps44 rfl ?_

  refine ct_seq ?_
  refine ct_region ?_
  iterate 2 (first | refine rs_ex rfl (by (first | (constructor <;> first | rfl | exact RdC.rd | exact inferInstance) | exact Ex.pickF rfl rfl | exact Ex.eqlS rfl rfl | exact Ex.neqS rfl rfl | exact Ex.eqlPN rfl rfl | exact Ex.neqPN rfl rfl | exact Ex.eqlSN rfl rfl | exact Ex.neqSN rfl rfl | exact Ex.lenStr rfl)) rfl ?_ | refine rs_skip rfl rfl ?_)
  refine rs_end ?_
  refine qe_then ?_
  refine ct_seq ?_
  refine ct_seq ?_
  refine ct_region ?_
  iterate 3 (first | refine rs_ex rfl (by (first | (constructor <;> first | rfl | exact RdC.rd | exact inferInstance) | exact Ex.pickF rfl rfl | exact Ex.eqlS rfl rfl | exact Ex.neqS rfl rfl | exact Ex.eqlPN rfl rfl | exact Ex.neqPN rfl rfl | exact Ex.eqlSN rfl rfl | exact Ex.neqSN rfl rfl | exact Ex.lenStr rfl)) rfl ?_ | refine rs_skip rfl rfl ?_)
  refine rs_split (fun h8 => ?_) (fun h8 => ?_)
  · have hn : n < 1 ∨ 64 < n := .inl (by simpa using h8)
    iterate 3 (first | refine rs_ex rfl (by (first | (constructor <;> first | rfl | exact RdC.rd | exact inferInstance) | exact Ex.pickF rfl rfl | exact Ex.eqlS rfl rfl | exact Ex.neqS rfl rfl | exact Ex.eqlPN rfl rfl | exact Ex.neqPN rfl rfl | exact Ex.eqlSN rfl rfl | exact Ex.neqSN rfl rfl | exact Ex.lenStr rfl)) rfl ?_ | refine rs_skip rfl rfl ?_)
    refine rs_end ?_
    refine qe_then ?_
    refine ct_cond rfl (fun _ => ?_) (fun h => absurd h (by decide))
    refine ct_seq ?_
    have e1 : s.batch n = [] := by rw [Pool.batch, if_pos hn]
    refine ct_region ?_
    iterate 2 (first | refine rs_ex rfl (by (first | (constructor <;> first | rfl | exact RdC.rd | exact inferInstance) | exact Ex.pickF rfl rfl | exact Ex.eqlS rfl rfl | exact Ex.neqS rfl rfl | exact Ex.eqlPN rfl rfl | exact Ex.neqPN rfl rfl | exact Ex.eqlSN rfl rfl | exact Ex.neqSN rfl rfl | exact Ex.lenStr rfl)) rfl ?_ | refine rs_skip rfl rfl ?_)
    refine rs_end ?_
    refine qe_then ?_
    refine ct_ret ?_
    exact ret2 rfl rfl rfl ⟨none, 0, by rw [e1, batchErr, if_pos hn]; rfl, .inr e1, rfl⟩
  · iterate 3 (first | refine rs_ex rfl (by (first | (constructor <;> first | rfl | exact RdC.rd | exact inferInstance) | exact Ex.pickF rfl rfl | exact Ex.eqlS rfl rfl | exact Ex.neqS rfl rfl | exact Ex.eqlPN rfl rfl | exact Ex.neqPN rfl rfl | exact Ex.eqlSN rfl rfl | exact Ex.neqSN rfl rfl | exact Ex.lenStr rfl)) rfl ?_ | refine rs_skip rfl rfl ?_)
    refine rs_end ?_
    refine qe_then ?_
    refine ct_cond rfl (fun h11 => ?_) (fun h11 => ?_)
    · have hn : n < 1 ∨ 64 < n := .inr (by simpa using h11)
      refine ct_seq ?_
      have e1 : s.batch n = [] := by rw [Pool.batch, if_pos hn]
      refine ct_region ?_
      iterate 2 (first | refine rs_ex rfl (by (first | (constructor <;> first | rfl | exact RdC.rd | exact inferInstance) | exact Ex.pickF rfl rfl | exact Ex.eqlS rfl rfl | exact Ex.neqS rfl rfl | exact Ex.eqlPN rfl rfl | exact Ex.neqPN rfl rfl | exact Ex.eqlSN rfl rfl | exact Ex.neqSN rfl rfl | exact Ex.lenStr rfl)) rfl ?_ | refine rs_skip rfl rfl ?_)
      refine rs_end ?_
      refine qe_then ?_
      refine ct_ret ?_
      exact ret2 rfl rfl rfl ⟨none, 0, by rw [e1, batchErr, if_pos hn]; rfl, .inr e1, rfl⟩
    · have hn : ¬ (n < 1 ∨ 64 < n) := by simp at h8 h11; omega
      obtain ⟨k, rfl⟩ : ∃ k : Nat, n = (k : Int) := ⟨n.toNat, by omega⟩
      have e1 : s.batch (k : Int) = s.p.take k := by rw [Pool.batch, if_neg hn, Int.toNat_natCast]
      refine ct_skip ?_
      refine qe_then ?_
      refine ct_seq ?_
      refine ct_draw0 (by kernel_rfl) ?_
      refine ra_take 0 rfl (by kernel_rfl) (by kernel_rfl) rfl (by (first | (constructor <;> first | rfl | exact RdC.rd | exact inferInstance) | exact Ex.pickF rfl rfl | exact Ex.eqlS rfl rfl | exact Ex.neqS rfl rfl | exact Ex.eqlPN rfl rfl | exact Ex.neqPN rfl rfl | exact Ex.eqlSN rfl rfl | exact Ex.neqSN rfl rfl | exact Ex.lenStr rfl)) rfl (fun _ h => h.fit) ?_
      refine ra_take 1 rfl (by kernel_rfl) (by kernel_rfl) rfl (by (first | (constructor <;> first | rfl | exact RdC.rd | exact inferInstance) | exact Ex.pickF rfl rfl | exact Ex.eqlS rfl rfl | exact Ex.neqS rfl rfl | exact Ex.eqlPN rfl rfl | exact Ex.neqPN rfl rfl | exact Ex.eqlSN rfl rfl | exact Ex.neqSN rfl rfl | exact Ex.lenStr rfl)) rfl (fun _ h => h.fit) ?_
      refine ra_take 2 rfl (by kernel_rfl) (by kernel_rfl) rfl (by (first | (constructor <;> first | rfl | exact RdC.rd | exact inferInstance) | exact Ex.pickF rfl rfl | exact Ex.eqlS rfl rfl | exact Ex.neqS rfl rfl | exact Ex.eqlPN rfl rfl | exact Ex.neqPN rfl rfl | exact Ex.eqlSN rfl rfl | exact Ex.neqSN rfl rfl | exact Ex.lenStr rfl)) rfl (fun _ h => h.fit) ?_
      refine ra_take 3 rfl (by kernel_rfl) (by kernel_rfl) rfl (by (first | (constructor <;> first | rfl | exact RdC.rd | exact inferInstance) | exact Ex.pickF rfl rfl | exact Ex.eqlS rfl rfl | exact Ex.neqS rfl rfl | exact Ex.eqlPN rfl rfl | exact Ex.neqPN rfl rfl | exact Ex.eqlSN rfl rfl | exact Ex.neqSN rfl rfl | exact Ex.lenStr rfl)) rfl (fun _ h => h.fit) ?_
      refine ra_take 4 rfl (by kernel_rfl) (by kernel_rfl) rfl (by (first | (constructor <;> first | rfl | exact RdC.rd | exact inferInstance) | exact Ex.pickF rfl rfl | exact Ex.eqlS rfl rfl | exact Ex.neqS rfl rfl | exact Ex.eqlPN rfl rfl | exact Ex.neqPN rfl rfl | exact Ex.eqlSN rfl rfl | exact Ex.neqSN rfl rfl | exact Ex.lenStr rfl)) rfl (fun _ h => h.fit) ?_
      refine ra_take 5 rfl (by kernel_rfl) (by kernel_rfl) rfl (by (first | (constructor <;> first | rfl | exact RdC.rd | exact inferInstance) | exact Ex.pickF rfl rfl | exact Ex.eqlS rfl rfl | exact Ex.neqS rfl rfl | exact Ex.eqlPN rfl rfl | exact Ex.neqPN rfl rfl | exact Ex.eqlSN rfl rfl | exact Ex.neqSN rfl rfl | exact Ex.lenStr rfl)) rfl (fun _ h => h.fit) ?_
      refine ra_take 6 rfl (by kernel_rfl) (by kernel_rfl) rfl (by (first | (constructor <;> first | rfl | exact RdC.rd | exact inferInstance) | exact Ex.pickF rfl rfl | exact Ex.eqlS rfl rfl | exact Ex.neqS rfl rfl | exact Ex.eqlPN rfl rfl | exact Ex.neqPN rfl rfl | exact Ex.eqlSN rfl rfl | exact Ex.neqSN rfl rfl | exact Ex.lenStr rfl)) rfl (fun _ h => h.fit) ?_
      refine ra_take 7 rfl (by kernel_rfl) (by kernel_rfl) rfl (by (first | (constructor <;> first | rfl | exact RdC.rd | exact inferInstance) | exact Ex.pickF rfl rfl | exact Ex.eqlS rfl rfl | exact Ex.neqS rfl rfl | exact Ex.eqlPN rfl rfl | exact Ex.neqPN rfl rfl | exact Ex.eqlSN rfl rfl | exact Ex.neqSN rfl rfl | exact Ex.lenStr rfl)) rfl (fun _ h => h.fit) ?_
      refine ra_take 8 rfl (by kernel_rfl) (by kernel_rfl) rfl (by (first | (constructor <;> first | rfl | exact RdC.rd | exact inferInstance) | exact Ex.pickF rfl rfl | exact Ex.eqlS rfl rfl | exact Ex.neqS rfl rfl | exact Ex.eqlPN rfl rfl | exact Ex.neqPN rfl rfl | exact Ex.eqlSN rfl rfl | exact Ex.neqSN rfl rfl | exact Ex.lenStr rfl)) rfl (fun _ h => h.fit) ?_
      refine ra_take 9 rfl (by kernel_rfl) (by kernel_rfl) rfl (by (first | (constructor <;> first | rfl | exact RdC.rd | exact inferInstance) | exact Ex.pickF rfl rfl | exact Ex.eqlS rfl rfl | exact Ex.neqS rfl rfl | exact Ex.eqlPN rfl rfl | exact Ex.neqPN rfl rfl | exact Ex.eqlSN rfl rfl | exact Ex.neqSN rfl rfl | exact Ex.lenStr rfl)) rfl (fun _ h => h.fit) ?_
      refine ra_take 10 rfl (by kernel_rfl) (by kernel_rfl) rfl (ex_min rfl rfl) rfl (fun _ h => h.fit) ?_
      refine ra_rw (by rw [show (if ((s.p.length : Nat) : Int) < (k : Int) then ((s.p.length : Nat) : Int) else (k : Int)) = ((min k s.p.length : Nat) : Int) by split <;> omega]) ?_
      refine ra_take 11 rfl (by kernel_rfl) (by kernel_rfl) rfl (ex_slice (i := 0) (j := min k s.p.length) rfl (.inl ⟨rfl, rfl⟩) (.inr ⟨_, _, rfl, rfl⟩) (by omega) (by have := hv1.le; omega)) rfl (fun _ h => h.fit) ?_
      refine ra_rw (by rw [Nat.sub_zero, Nat.sub_zero]) ?_
      refine ra_take 12 rfl (by kernel_rfl) (by kernel_rfl) rfl (by (first | (constructor <;> first | rfl | exact RdC.rd | exact inferInstance) | exact Ex.pickF rfl rfl | exact Ex.eqlS rfl rfl | exact Ex.neqS rfl rfl | exact Ex.eqlPN rfl rfl | exact Ex.neqPN rfl rfl | exact Ex.eqlSN rfl rfl | exact Ex.neqSN rfl rfl | exact Ex.lenStr rfl)) rfl (fun _ h => h.fit) ?_
      refine ra_take 13 rfl (by kernel_rfl) (by kernel_rfl) rfl (by (first | (constructor <;> first | rfl | exact RdC.rd | exact inferInstance) | exact Ex.pickF rfl rfl | exact Ex.eqlS rfl rfl | exact Ex.neqS rfl rfl | exact Ex.eqlPN rfl rfl | exact Ex.neqPN rfl rfl | exact Ex.eqlSN rfl rfl | exact Ex.neqSN rfl rfl | exact Ex.lenStr rfl)) rfl (fun _ h => h.fit) ?_
      refine ra_end (by kernel_rfl) ?_
      refine qe_then ?_
      refine ct_ret ?_
      exact ret2 rfl rfl rfl ⟨_, c1, by rw [e1, batchErr, if_neg hn, List.length_take], .inl rfl, rfl⟩
theorem pool_cut {l : List Msg} (h : Asc l) {k : Nat} {x : Msg} (hx : l[k]? = some x) : l.take k ++ l.drop (k + 1) = l.filter fun y => decide (y.id ≠ x.id) := by
  obtain ⟨hk, e⟩ := List.getElem?_eq_some_iff.1 hx
  conv => rhs; rw [← List.take_append_drop k l, List.drop_eq_getElem_cons hk, e]
  have ha := h
  unfold Asc at ha
  rw [← List.take_append_drop k l, List.drop_eq_getElem_cons hk, e] at ha
  have h1 := List.pairwise_append.1 ha
  have h2 := List.pairwise_cons.1 h1.2.1
  rw [List.filter_append, List.filter_cons_of_neg (by simp)]
  congr 1
  · symm
    rw [List.filter_eq_self]
    intro y hy
    have := h1.2.2 y hy x (by simp)
    simp only [ne_eq, decide_not, Bool.not_eq_true', decide_eq_false_iff_not]
    intro e2
    rw [e2] at this
    exact idLt_irrefl _ this
  · symm
    rw [List.filter_eq_self]
    intro y hy
    have := h2.1 y hy
    simp only [ne_eq, decide_not, Bool.not_eq_true', decide_eq_false_iff_not]
    intro e2
    rw [e2] at this
    exact idLt_irrefl _ this
theorem pool_keep {s : Pool} {m : Msg} (h : s.has m.id = false) : s.p.filter (fun y => decide (y.id ≠ m.id)) = s.p := by
  rw [List.filter_eq_self]
  intro y hy
  simp only [ne_eq, decide_not, Bool.not_eq_true', decide_eq_false_iff_not]
  intro e
  have := Pool.has_iff.2 ⟨y, hy, e⟩
  rw [h] at this
  cases this
theorem RDone_c (W0 : World) (r : Nat) (s : Pool) (p : Option Addr) (c : Nat) (l : List Msg) (H : List Chunk) (hr : SlR (At W0 H) p l) (hl : l.length ≤ 1000) (ha : Asc s.p) (hp : s.p.length ≤ 1000) (hd : s.d.length ≤ 10000) :
    Call Try.prog W0 46 [.pointer (some ⟨r, 0, none⟩), .slice p l.length c] (RPoolC r s :: H)
      (fun v H' => ∃ u, v = .tuple #[u, .int .i64 (Pool.doneErr l)] ∧ H' = SlT 34 u (s.did l) :: RPoolC r (s.done l) :: H) := by
  refine call_enter Try.func46 rfl Try.ntmps46 rfl ?_

  refine ct_seq ?_
  refine ct_region ?_
  iterate 2 (first | refine rs_ex rfl (by (first | (constructor <;> first | rfl | exact RdC.rd | exact inferInstance) | exact Ex.pickF rfl rfl | exact Ex.eqlS rfl rfl | exact Ex.neqS rfl rfl | exact Ex.eqlPN rfl rfl | exact Ex.neqPN rfl rfl | exact Ex.eqlSN rfl rfl | exact Ex.neqSN rfl rfl | exact Ex.lenStr rfl)) rfl ?_ | refine rs_skip rfl rfl ?_)
  refine rs_end ?_
  refine qe_then ?_
  refine ct_seq ?_
  refine ct_seq ?_
  refine ct_region ?_
  (first | refine rs_ex rfl (by (first | (constructor <;> first | rfl | exact RdC.rd | exact inferInstance) | exact Ex.pickF rfl rfl | exact Ex.eqlS rfl rfl | exact Ex.neqS rfl rfl | exact Ex.eqlPN rfl rfl | exact Ex.neqPN rfl rfl | exact Ex.eqlSN rfl rfl | exact Ex.neqSN rfl rfl | exact Ex.lenStr rfl)) rfl ?_ | refine rs_skip rfl rfl ?_)
  refine rs_end ?_
  refine qe_then ?_
  refine ct_block ?_
  refine ct_loopk (ζ := Nat) (fun i => i ≤ l.length ∧ rightAll (l.take i) = true) [(0, _), (1, _)] (fun i => [(6, .int .i64 (i : Int))]) (fun i => l.length - i) (0) (⟨Nat.zero_le _, rfl⟩) ⟨rfl, rfl, rfl, trivial⟩ ?_
  rintro i ⟨hi, ht⟩
  refine ct_seq ?_
  refine ct_seq ?_
  refine ct_region ?_
  iterate 4 (first | refine rs_ex rfl (by (first | (constructor <;> first | rfl | exact RdC.rd | exact inferInstance) | exact Ex.pickF rfl rfl | exact Ex.eqlS rfl rfl | exact Ex.neqS rfl rfl | exact Ex.eqlPN rfl rfl | exact Ex.neqPN rfl rfl | exact Ex.eqlSN rfl rfl | exact Ex.neqSN rfl rfl | exact Ex.lenStr rfl)) rfl ?_ | refine rs_skip rfl rfl ?_)
  refine rs_end ?_
  refine qe_then ?_
  refine ct_cond rfl (fun h16 => ?_) (fun h16 => ?_)
  · have hi1 : i < l.length := by simp at h16; exact h16
    obtain ⟨b1, o1, rfl, r1⟩ := hr.get (List.getElem?_eq_getElem hi1)
    obtain ⟨x, hx⟩ : ∃ x, x = l[i] := ⟨_, rfl⟩
    rw [← hx] at r1
    have hts : l.take (i + 1) = l.take i ++ [x] := by rw [List.take_succ_eq_append_getElem hi1, ← hx]
    refine ct_skip ?_
    refine qe_then ?_
    refine ct_seq ?_
    refine ct_block ?_
    refine ct_seq ?_
    refine ct_region ?_
    iterate 2 (first | refine rs_ex rfl (by (first | (constructor <;> first | rfl | exact RdC.rd | exact inferInstance) | exact Ex.pickF rfl rfl | exact Ex.eqlS rfl rfl | exact Ex.neqS rfl rfl | exact Ex.eqlPN rfl rfl | exact Ex.neqPN rfl rfl | exact Ex.eqlSN rfl rfl | exact Ex.neqSN rfl rfl | exact Ex.lenStr rfl)) rfl ?_ | refine rs_skip rfl rfl ?_)
    refine rs_ex rfl (ex_indexAddr rfl rfl (by omega) (by omega)) rfl ?_
    refine rs_ex rfl (ex_loadMsg x rfl (r1.mono fun w h => h.drop)) rfl ?_
    refine rs_op rfl rfl (opR_fn rfl (Call.heap (fun w h => by (first | exact h | exact h.sw1 | exact h.sw2 | exact h.sw3 | exact h.sw4 | exact h.sw5 | exact h.sw6 | exact h.sw7 | exact h.sw8 | exact h.pull2 | exact h.pull3 | exact h.pull4 | exact h.pull5 | exact h.fit)) ((RefRight_c W0 x _).mono ?_)))
    rintro v H' ⟨rfl, rfl⟩
    (first | refine rs_ex rfl (by (first | (constructor <;> first | rfl | exact RdC.rd | exact inferInstance) | exact Ex.pickF rfl rfl | exact Ex.eqlS rfl rfl | exact Ex.neqS rfl rfl | exact Ex.eqlPN rfl rfl | exact Ex.neqPN rfl rfl | exact Ex.eqlSN rfl rfl | exact Ex.neqSN rfl rfl | exact Ex.lenStr rfl)) rfl ?_ | refine rs_skip rfl rfl ?_)
    refine rs_end ?_
    refine qe_then ?_
    refine ct_seq ?_
    refine ct_region ?_
    iterate 2 (first | refine rs_ex rfl (by (first | (constructor <;> first | rfl | exact RdC.rd | exact inferInstance) | exact Ex.pickF rfl rfl | exact Ex.eqlS rfl rfl | exact Ex.neqS rfl rfl | exact Ex.eqlPN rfl rfl | exact Ex.neqPN rfl rfl | exact Ex.eqlSN rfl rfl | exact Ex.neqSN rfl rfl | exact Ex.lenStr rfl)) rfl ?_ | refine rs_skip rfl rfl ?_)
    refine rs_end ?_
    refine qe_then ?_
    refine ct_cond rfl (fun h25 => ?_) (fun h25 => ?_)
    · have hx0 : x.right = false := by simpa using h25
      have hw : ¬ rightAll l = true := by
        unfold rightAll
        rw [List.all_eq_true]
        intro h
        have := h x (by rw [hx]; exact List.getElem_mem _)
        rw [hx0] at this
        cases this
      refine ct_seq ?_
      refine ct_region ?_
      iterate 2 (first | refine rs_ex rfl (by (first | (constructor <;> first | rfl | exact RdC.rd | exact inferInstance) | exact Ex.pickF rfl rfl | exact Ex.eqlS rfl rfl | exact Ex.neqS rfl rfl | exact Ex.eqlPN rfl rfl | exact Ex.neqPN rfl rfl | exact Ex.eqlSN rfl rfl | exact Ex.neqSN rfl rfl | exact Ex.lenStr rfl)) rfl ?_ | refine rs_skip rfl rfl ?_)
      refine rs_end ?_
      refine qe_then ?_
      refine ct_ret ?_
      exact qe_heap (H' := SlT (α := Msg) 34 (.slice none 0 0) [] :: RPoolC r s :: H) (fun w h => At.slt_nil (α := Msg) 34 h) (ret2 rfl rfl rfl ⟨_, by rw [Pool.doneErr, if_neg hw], by rw [Pool.did, if_neg hw, Pool.done, if_neg hw]⟩)
    · have hx0 : x.right = true := by simpa using h25
      refine ct_skip ?_
      refine qe_block 1 ?_
      refine qe_then ?_
      refine ct_region ?_
      iterate 2 (first | refine rs_ex rfl (by (first | (constructor <;> first | rfl | exact RdC.rd | exact inferInstance) | exact Ex.pickF rfl rfl | exact Ex.eqlS rfl rfl | exact Ex.neqS rfl rfl | exact Ex.eqlPN rfl rfl | exact Ex.neqPN rfl rfl | exact Ex.eqlSN rfl rfl | exact Ex.neqSN rfl rfl | exact Ex.lenStr rfl)) rfl ?_ | refine rs_skip rfl rfl ?_)
      refine rs_rw (by rw [wrapS (by omega)]) ?_
      (first | refine rs_ex rfl (by (first | (constructor <;> first | rfl | exact RdC.rd | exact inferInstance) | exact Ex.pickF rfl rfl | exact Ex.eqlS rfl rfl | exact Ex.neqS rfl rfl | exact Ex.eqlPN rfl rfl | exact Ex.neqPN rfl rfl | exact Ex.eqlSN rfl rfl | exact Ex.neqSN rfl rfl | exact Ex.lenStr rfl)) rfl ?_ | refine rs_skip rfl rfl ?_)
      refine rs_end ?_
      refine qe_loopc (i + 1) (⟨by omega, by rw [hts, rightAll_snoc, ht, hx0]; rfl⟩) (by first | omega | (simp only; omega)) ⟨rfl, rfl, rfl, trivial⟩ (fun w h => by first | exact h.fit | exact h)
  · have hie : i = l.length := by simp at h16; omega
    rw [hie, List.take_length] at ht
    have hw : rightAll l = true := ht
    refine ct_exit ?_
    refine qe_then_exit ?_
    refine qe_loop_exit ?_
    refine qe_block_exit ?_
    refine qe_then ?_
    refine ct_seq ?_
    refine ct_region ?_
    (first | refine rs_ex rfl (by (first | (constructor <;> first | rfl | exact RdC.rd | exact inferInstance) | exact Ex.pickF rfl rfl | exact Ex.eqlS rfl rfl | exact Ex.neqS rfl rfl | exact Ex.eqlPN rfl rfl | exact Ex.neqPN rfl rfl | exact Ex.eqlSN rfl rfl | exact Ex.neqSN rfl rfl | exact Ex.lenStr rfl)) rfl ?_ | refine rs_skip rfl rfl ?_)
    refine rs_end ?_
    refine qe_then ?_
    refine ct_seq ?_
    refine ct_seq ?_
    refine ct_region ?_
    (first | refine rs_ex rfl (by (first | (constructor <;> first | rfl | exact RdC.rd | exact inferInstance) | exact Ex.pickF rfl rfl | exact Ex.eqlS rfl rfl | exact Ex.neqS rfl rfl | exact Ex.eqlPN rfl rfl | exact Ex.neqPN rfl rfl | exact Ex.eqlSN rfl rfl | exact Ex.neqSN rfl rfl | exact Ex.lenStr rfl)) rfl ?_ | refine rs_skip rfl rfl ?_)
    refine rs_end ?_
    refine qe_then ?_
    refine ct_heap (H' := SlT 34 (.slice none 0 0) ([] : List Msg) :: RPoolC r s :: H) (fun w h => At.slt_nil (α := Msg) 34 h) ?_
    refine ct_block ?_
    refine ct_loopc (ζ := Nat × (Option Addr × Nat) × Pool × List Msg) (fun q => q.1 ≤ l.length ∧ SlV q.2.1.1 q.2.1.2 q.2.2.2 ∧ s.doneN l = ((q.2.2.1.doneN (l.drop q.1)).1, q.2.2.2 ++ (q.2.2.1.doneN (l.drop q.1)).2) ∧ q.2.2.2.length ≤ q.1 ∧ Asc q.2.2.1.p ∧ q.2.2.1.p.length ≤ 1000 ∧ q.2.2.1.d.length ≤ 10000 + q.1) [(0, _), (1, _)] (fun q => [(9, .int .i64 (q.1 : Int)), (8, .slice q.2.1.1 q.2.2.2.length q.2.1.2)]) (fun q => SlT 34 (.slice q.2.1.1 q.2.2.2.length q.2.1.2) q.2.2.2 :: RPoolC r q.2.2.1 :: H) (fun q => l.length - q.1) ((0, (none, 0), s, [])) (⟨Nat.zero_le _, ⟨Nat.le_refl _, .inl ⟨rfl, rfl, rfl⟩⟩, by simp, Nat.le_refl _, ha, hp, by simp only; omega⟩) ⟨rfl, rfl, rfl, rfl, trivial⟩ (fun w h => by first | exact h.fit | exact h) ?_
    rintro ⟨j, ⟨po, co⟩, s1, o1⟩ ⟨hj, hvo, hdn, ho, ha1, hp1, hd1⟩
    simp only at hj hvo hdn ho ha1 hp1 hd1 ⊢
    refine ct_seq ?_
    refine ct_seq ?_
    refine ct_region ?_
    iterate 4 (first | refine rs_ex rfl (by (first | (constructor <;> first | rfl | exact RdC.rd | exact inferInstance) | exact Ex.pickF rfl rfl | exact Ex.eqlS rfl rfl | exact Ex.neqS rfl rfl | exact Ex.eqlPN rfl rfl | exact Ex.neqPN rfl rfl | exact Ex.eqlSN rfl rfl | exact Ex.neqSN rfl rfl | exact Ex.lenStr rfl)) rfl ?_ | refine rs_skip rfl rfl ?_)
    refine rs_end ?_
    refine qe_then ?_
    refine ct_cond rfl (fun h29 => ?_) (fun h29 => ?_)
    · have hj1 : j < l.length := by simp at h29; exact h29
      obtain ⟨b1, oo1, rfl, r1⟩ := hr.get (List.getElem?_eq_getElem hj1)
      obtain ⟨x, hx⟩ : ∃ x, x = l[j] := ⟨_, rfl⟩
      rw [← hx] at r1
      rw [List.drop_eq_getElem_cons hj1, ← hx] at hdn
      refine ct_skip ?_
      refine qe_then ?_
      refine ct_meetc (ζ := (Option Addr × Nat) × Pool × List Msg) (fun q => SlV q.1.1 q.1.2 q.2.2 ∧ s.doneN l = ((q.2.1.doneN (l.drop (j + 1))).1, q.2.2 ++ (q.2.1.doneN (l.drop (j + 1))).2) ∧ q.2.2.length ≤ j + 1 ∧ Asc q.2.1.p ∧ q.2.1.p.length ≤ 1000 ∧ q.2.1.d.length ≤ 10000 + (j + 1)) [(0, _), (1, _), (9, _)] (fun q => [(8, .slice q.1.1 q.2.2.length q.1.2)]) (fun q => SlT 34 (.slice q.1.1 q.2.2.length q.1.2) q.2.2 :: RPoolC r q.2.1 :: H) ⟨rfl, rfl, rfl, trivial⟩ ?_ ?_
      · refine ct_block ?_
        refine ct_seq ?_
        refine ct_region ?_
        iterate 3 (first | refine rs_ex rfl (by (first | (constructor <;> first | rfl | exact RdC.rd | exact inferInstance) | exact Ex.pickF rfl rfl | exact Ex.eqlS rfl rfl | exact Ex.neqS rfl rfl | exact Ex.eqlPN rfl rfl | exact Ex.neqPN rfl rfl | exact Ex.eqlSN rfl rfl | exact Ex.neqSN rfl rfl | exact Ex.lenStr rfl)) rfl ?_ | refine rs_skip rfl rfl ?_)
        refine rs_ex rfl (ex_indexAddr rfl rfl (by omega) (by omega)) rfl ?_
        (first | refine rs_ex rfl (by (first | (constructor <;> first | rfl | exact RdC.rd | exact inferInstance) | exact Ex.pickF rfl rfl | exact Ex.eqlS rfl rfl | exact Ex.neqS rfl rfl | exact Ex.eqlPN rfl rfl | exact Ex.neqPN rfl rfl | exact Ex.eqlSN rfl rfl | exact Ex.neqSN rfl rfl | exact Ex.lenStr rfl)) rfl ?_ | refine rs_skip rfl rfl ?_)
        refine rs_ex rfl (ex_loadIdOf x rfl (r1.mono fun w h => h.drop.drop)) rfl ?_
        refine rs_op rfl rfl (opR_fn rfl (Call.heap (fun w h => by (first | exact h | exact h.sw1 | exact h.sw2 | exact h.sw3 | exact h.sw4 | exact h.sw5 | exact h.sw6 | exact h.sw7 | exact h.sw8 | exact h.pull2 | exact h.pull3 | exact h.pull4 | exact h.pull5 | exact h.fit)) ((RIs_c W0 r s1 x.id _ (by omega)).mono ?_)))
        rintro v H' ⟨rfl, rfl⟩
        (first | refine rs_ex rfl (by (first | (constructor <;> first | rfl | exact RdC.rd | exact inferInstance) | exact Ex.pickF rfl rfl | exact Ex.eqlS rfl rfl | exact Ex.neqS rfl rfl | exact Ex.eqlPN rfl rfl | exact Ex.neqPN rfl rfl | exact Ex.eqlSN rfl rfl | exact Ex.neqSN rfl rfl | exact Ex.lenStr rfl)) rfl ?_ | refine rs_skip rfl rfl ?_)
        refine rs_end ?_
        refine qe_then ?_
        refine ct_seq ?_
        refine ct_seq ?_
        refine ct_region ?_
        (first | refine rs_ex rfl (by (first | (constructor <;> first | rfl | exact RdC.rd | exact inferInstance) | exact Ex.pickF rfl rfl | exact Ex.eqlS rfl rfl | exact Ex.neqS rfl rfl | exact Ex.eqlPN rfl rfl | exact Ex.neqPN rfl rfl | exact Ex.eqlSN rfl rfl | exact Ex.neqSN rfl rfl | exact Ex.lenStr rfl)) rfl ?_ | refine rs_skip rfl rfl ?_)
        refine rs_end ?_
        refine qe_then ?_
        refine ct_cond rfl (fun h39 => ?_) (fun h39 => ?_)
        · have hold : s1.is x.id = true := h39
          rw [Pool.doneN_in hold] at hdn
          refine ct_exit ?_
          refine qe_then_exit ?_
          refine qe_block_exit ?_
          refine qe_midc (((po, co), s1, o1)) (⟨hvo, hdn, by simp only; omega, ha1, hp1, by simp only; omega⟩) ⟨rfl, rfl, rfl, rfl, trivial⟩ (fun w h => by first | exact h.fit | exact At.sw1 h)
        · have hnew : s1.is x.id = false := h39
          rw [Pool.doneN_new hnew] at hdn
          refine ct_ex (fun w h => RPoolC.open h) ?_
          rintro ⟨⟨⟨q1, e1⟩, q2, e2⟩, hw1, hw2⟩
          simp only at hw1 hw2 ⊢
          refine ct_skip ?_
          refine qe_then ?_
          refine ct_seq ?_
          refine ct_draw (by kernel_rfl) (At W0 (Blk r (.cells #[.slice q1 s1.p.length e1, .slice q2 s1.d.length e2] 69 (0, 0)) :: SlT 34 (.slice q1 s1.p.length e1) s1.p :: SlT 34 (.slice po o1.length co) o1 :: H)) ?_
          refine ra_take 0 rfl (by kernel_rfl) (by kernel_rfl) rfl (by (first | (constructor <;> first | rfl | exact RdC.rd | exact inferInstance) | exact Ex.pickF rfl rfl | exact Ex.eqlS rfl rfl | exact Ex.neqS rfl rfl | exact Ex.eqlPN rfl rfl | exact Ex.neqPN rfl rfl | exact Ex.eqlSN rfl rfl | exact Ex.neqSN rfl rfl | exact Ex.lenStr rfl)) rfl (fun _ h => h.fit) ?_
          refine ra_take 1 rfl (by kernel_rfl) (by kernel_rfl) rfl (by (first | (constructor <;> first | rfl | exact RdC.rd | exact inferInstance) | exact Ex.pickF rfl rfl | exact Ex.eqlS rfl rfl | exact Ex.neqS rfl rfl | exact Ex.eqlPN rfl rfl | exact Ex.neqPN rfl rfl | exact Ex.eqlSN rfl rfl | exact Ex.neqSN rfl rfl | exact Ex.lenStr rfl)) rfl (fun _ h => h.fit) ?_
          refine ra_take 2 rfl (by kernel_rfl) (by kernel_rfl) rfl (by (first | (constructor <;> first | rfl | exact RdC.rd | exact inferInstance) | exact Ex.pickF rfl rfl | exact Ex.eqlS rfl rfl | exact Ex.neqS rfl rfl | exact Ex.eqlPN rfl rfl | exact Ex.neqPN rfl rfl | exact Ex.eqlSN rfl rfl | exact Ex.neqSN rfl rfl | exact Ex.lenStr rfl)) rfl (fun _ h => h.fit) ?_
          refine ra_take 3 rfl (by kernel_rfl) (by kernel_rfl) rfl (by (first | (constructor <;> first | rfl | exact RdC.rd | exact inferInstance) | exact Ex.pickF rfl rfl | exact Ex.eqlS rfl rfl | exact Ex.neqS rfl rfl | exact Ex.eqlPN rfl rfl | exact Ex.neqPN rfl rfl | exact Ex.eqlSN rfl rfl | exact Ex.neqSN rfl rfl | exact Ex.lenStr rfl)) rfl (fun _ h => h.fit) ?_
          refine ra_take 4 rfl (by kernel_rfl) (by kernel_rfl) rfl (by (first | (constructor <;> first | rfl | exact RdC.rd | exact inferInstance) | exact Ex.pickF rfl rfl | exact Ex.eqlS rfl rfl | exact Ex.neqS rfl rfl | exact Ex.eqlPN rfl rfl | exact Ex.neqPN rfl rfl | exact Ex.eqlSN rfl rfl | exact Ex.neqSN rfl rfl | exact Ex.lenStr rfl)) rfl (fun _ h => h.fit) ?_
          refine ra_take 5 rfl (by kernel_rfl) (by kernel_rfl) rfl (by (first | (constructor <;> first | rfl | exact RdC.rd | exact inferInstance) | exact Ex.pickF rfl rfl | exact Ex.eqlS rfl rfl | exact Ex.neqS rfl rfl | exact Ex.eqlPN rfl rfl | exact Ex.neqPN rfl rfl | exact Ex.eqlSN rfl rfl | exact Ex.neqSN rfl rfl | exact Ex.lenStr rfl)) rfl (fun _ h => h.fit) ?_
          refine ra_take 6 rfl (by kernel_rfl) (by kernel_rfl) rfl (by (first | (constructor <;> first | rfl | exact RdC.rd | exact inferInstance) | exact Ex.pickF rfl rfl | exact Ex.eqlS rfl rfl | exact Ex.neqS rfl rfl | exact Ex.eqlPN rfl rfl | exact Ex.neqPN rfl rfl | exact Ex.eqlSN rfl rfl | exact Ex.neqSN rfl rfl | exact Ex.lenStr rfl)) rfl (fun _ h => h.fit) ?_
          refine ra_take 7 rfl (by kernel_rfl) (by kernel_rfl) rfl (ex_indexAddr rfl rfl (by omega) (by omega)) rfl (fun _ h => h.fit) ?_
          refine ra_take 8 rfl (by kernel_rfl) (by kernel_rfl) rfl (by (first | (constructor <;> first | rfl | exact RdC.rd | exact inferInstance) | exact Ex.pickF rfl rfl | exact Ex.eqlS rfl rfl | exact Ex.neqS rfl rfl | exact Ex.eqlPN rfl rfl | exact Ex.neqPN rfl rfl | exact Ex.eqlSN rfl rfl | exact Ex.neqSN rfl rfl | exact Ex.lenStr rfl)) rfl (fun _ h => h.fit) ?_
          refine ra_take 9 rfl (by kernel_rfl) (by kernel_rfl) rfl (ex_loadIdOf x rfl (r1.mono fun w h => h.drop.drop.drop)) rfl (fun _ h => h.fit) ?_
          refine ra_all (rs := [10]) (by kernel_rfl) rfl ?_
          refine each_op rfl rfl rfl (opR_buildSlice rfl rfl rfl rfl fun b50 => ?_) each_nil
          refine ⟨.inr (fun w h => h.fit), ?_⟩
          refine ra_Snew ?_
          refine ra_all (rs := [11]) (by kernel_rfl) rfl ?_
          refine each_op rfl rfl rfl (opR_append [x.id] rfl rfl (by exact SlR.blk RdC.rd [x.id] rfl) rfl (by simp; omega) rfl fun p9 c9 hv9 => ?_) each_nil
          refine ⟨.inr (fun w h => h.fit), ?_⟩
          refine ra_take 12 rfl (by kernel_rfl) (by kernel_rfl) rfl (by (first | (constructor <;> first | rfl | exact RdC.rd | exact inferInstance) | exact Ex.pickF rfl rfl | exact Ex.eqlS rfl rfl | exact Ex.neqS rfl rfl | exact Ex.eqlPN rfl rfl | exact Ex.neqPN rfl rfl | exact Ex.eqlSN rfl rfl | exact Ex.neqSN rfl rfl | exact Ex.lenStr rfl)) rfl (fun _ h => h.fit) ?_
          refine ra_take 13 rfl (by kernel_rfl) (by kernel_rfl) rfl (by (first | (constructor <;> first | rfl | exact RdC.rd | exact inferInstance) | exact Ex.pickF rfl rfl | exact Ex.eqlS rfl rfl | exact Ex.neqS rfl rfl | exact Ex.eqlPN rfl rfl | exact Ex.neqPN rfl rfl | exact Ex.eqlSN rfl rfl | exact Ex.neqSN rfl rfl | exact Ex.lenStr rfl)) rfl (fun _ h => h.fit) ?_
          refine ra_all (rs := [14]) (by kernel_rfl) rfl ?_
          refine each_opN rfl rfl (opR_store rfl rfl rfl rfl ?_) each_nil
          refine ⟨.inl (by kernel_rfl), ?_⟩
          refine ra_end (by kernel_rfl) ?_
          refine qe_then ?_
          refine ct_heap (H' := SlT 34 (.slice po o1.length co) o1 :: RPoolC r ⟨s1.p, s1.d ++ [x.id]⟩ :: H) (fun w h => At.sw1 (RPoolC.shut (s := ⟨s1.p, s1.d ++ [x.id]⟩) h.drop)) ?_
          refine ct_seq ?_
          refine ct_region ?_
          iterate 3 (first | refine rs_ex rfl (by (first | (constructor <;> first | rfl | exact RdC.rd | exact inferInstance) | exact Ex.pickF rfl rfl | exact Ex.eqlS rfl rfl | exact Ex.neqS rfl rfl | exact Ex.eqlPN rfl rfl | exact Ex.neqPN rfl rfl | exact Ex.eqlSN rfl rfl | exact Ex.neqSN rfl rfl | exact Ex.lenStr rfl)) rfl ?_ | refine rs_skip rfl rfl ?_)
          refine rs_ex rfl (ex_indexAddr rfl rfl (by omega) (by omega)) rfl ?_
          refine rs_ex rfl (ex_loadMsg x rfl (r1.mono fun w h => h.drop.drop)) rfl ?_
          refine rs_op rfl rfl (opR_buildSlice rfl rfl rfl rfl fun b59 => ?_)
          refine rs_op rfl rfl (opR_append [x] rfl rfl (by exact SlR.blk RdC.rd [x] rfl) rfl (by simp; omega) rfl fun p8 c8 hv8 => ?_)
          (first | refine rs_ex rfl (by (first | (constructor <;> first | rfl | exact RdC.rd | exact inferInstance) | exact Ex.pickF rfl rfl | exact Ex.eqlS rfl rfl | exact Ex.neqS rfl rfl | exact Ex.eqlPN rfl rfl | exact Ex.neqPN rfl rfl | exact Ex.eqlSN rfl rfl | exact Ex.neqSN rfl rfl | exact Ex.lenStr rfl)) rfl ?_ | refine rs_skip rfl rfl ?_)
          refine rs_end ?_
          refine qe_then ?_
          refine ct_seq ?_
          refine ct_region ?_
          iterate 3 (first | refine rs_ex rfl (by (first | (constructor <;> first | rfl | exact RdC.rd | exact inferInstance) | exact Ex.pickF rfl rfl | exact Ex.eqlS rfl rfl | exact Ex.neqS rfl rfl | exact Ex.eqlPN rfl rfl | exact Ex.neqPN rfl rfl | exact Ex.eqlSN rfl rfl | exact Ex.neqSN rfl rfl | exact Ex.lenStr rfl)) rfl ?_ | refine rs_skip rfl rfl ?_)
          refine rs_ex rfl (ex_indexAddr rfl rfl (by omega) (by omega)) rfl ?_
          (first | refine rs_ex rfl (by (first | (constructor <;> first | rfl | exact RdC.rd | exact inferInstance) | exact Ex.pickF rfl rfl | exact Ex.eqlS rfl rfl | exact Ex.neqS rfl rfl | exact Ex.eqlPN rfl rfl | exact Ex.neqPN rfl rfl | exact Ex.eqlSN rfl rfl | exact Ex.neqSN rfl rfl | exact Ex.lenStr rfl)) rfl ?_ | refine rs_skip rfl rfl ?_)
          refine rs_ex rfl (ex_loadIdOf x rfl (r1.mono fun w h => h.drop.drop.drop)) rfl ?_
          refine rs_op rfl rfl (opR_fn rfl (Call.heap (fun w h => by (first | exact h | exact h.sw1 | exact h.sw2 | exact h.sw3 | exact h.sw4 | exact h.sw5 | exact h.sw6 | exact h.sw7 | exact h.sw8 | exact h.pull2 | exact h.pull3 | exact h.pull4 | exact h.pull5 | exact h.fit)) ((RAt_c W0 r ⟨s1.p, s1.d ++ [x.id]⟩ x.id _ (by simp only; omega)).mono ?_)))
          rintro v H' ⟨a, rfl, hat, rfl⟩
          (first | refine rs_ex rfl (by (first | (constructor <;> first | rfl | exact RdC.rd | exact inferInstance) | exact Ex.pickF rfl rfl | exact Ex.eqlS rfl rfl | exact Ex.neqS rfl rfl | exact Ex.eqlPN rfl rfl | exact Ex.neqPN rfl rfl | exact Ex.eqlSN rfl rfl | exact Ex.neqSN rfl rfl | exact Ex.lenStr rfl)) rfl ?_ | refine rs_skip rfl rfl ?_)
          refine rs_end ?_
          refine qe_then ?_
          refine ct_seq ?_
          refine ct_region ?_
          iterate 2 (first | refine rs_ex rfl (by (first | (constructor <;> first | rfl | exact RdC.rd | exact inferInstance) | exact Ex.pickF rfl rfl | exact Ex.eqlS rfl rfl | exact Ex.neqS rfl rfl | exact Ex.eqlPN rfl rfl | exact Ex.neqPN rfl rfl | exact Ex.eqlSN rfl rfl | exact Ex.neqSN rfl rfl | exact Ex.lenStr rfl)) rfl ?_ | refine rs_skip rfl rfl ?_)
          refine rs_end ?_
          refine qe_then ?_
          refine ct_cond rfl (fun h69 => ?_) (fun h69 => ?_)
          · obtain ⟨k, y, hk, hky, hyx⟩ : ∃ (k : Nat) (y : Msg), a = (k : Int) ∧ s1.p[k]? = some y ∧ y.id = x.id := by
              rcases hat with ⟨e, _⟩ | h
              · simp at h69; omega
              · exact h
            subst hk
            have hkl : k < s1.p.length := (List.getElem?_eq_some_iff.1 hky).1
            have hs2 : s1.done1 x = ⟨s1.p.take k ++ s1.p.drop (k + 1), s1.d ++ [x.id]⟩ := by
              unfold Pool.done1
              rw [pool_cut ha1 hky, hyx]
            rw [hs2] at hdn
            refine ct_ex (fun w h => RPoolC.open h) ?_
            rintro ⟨⟨⟨q1, e1⟩, q2, e2⟩, hw1, hw2⟩
            simp only at hw1 hw2 ⊢
            refine ct_seq ?_
            refine ct_region ?_
            (first | refine rs_ex rfl (by (first | (constructor <;> first | rfl | exact RdC.rd | exact inferInstance) | exact Ex.pickF rfl rfl | exact Ex.eqlS rfl rfl | exact Ex.neqS rfl rfl | exact Ex.eqlPN rfl rfl | exact Ex.neqPN rfl rfl | exact Ex.eqlSN rfl rfl | exact Ex.neqSN rfl rfl | exact Ex.lenStr rfl)) rfl ?_ | refine rs_skip rfl rfl ?_)
            refine rs_end ?_
            refine qe_then ?_
            refine ct_heap (fun w h => At.slt_nil (α := Msg) 34 h) ?_
            refine ct_seq ?_
            refine ct_region ?_
            iterate 6 (first | refine rs_ex rfl (by (first | (constructor <;> first | rfl | exact RdC.rd | exact inferInstance) | exact Ex.pickF rfl rfl | exact Ex.eqlS rfl rfl | exact Ex.neqS rfl rfl | exact Ex.eqlPN rfl rfl | exact Ex.neqPN rfl rfl | exact Ex.eqlSN rfl rfl | exact Ex.neqSN rfl rfl | exact Ex.lenStr rfl)) rfl ?_ | refine rs_skip rfl rfl ?_)
            refine rs_ex rfl (ex_slice (i := 0) (j := k) rfl (.inl ⟨rfl, rfl⟩) (.inr ⟨_, _, rfl, rfl⟩) (by omega) (by have := hw1.le; omega)) rfl ?_
            refine rs_rw (by rw [Nat.sub_zero, Nat.sub_zero, show k = (s1.p.take k).length by simp; omega]) ?_
            refine rs_op rfl rfl (opR_append (s1.p.take k) rfl rfl (by exact SlR.takeA (RdS.slR (len := s1.p.length) inferInstance hw1) hw1.le) rfl (by simp; omega) rfl fun p3 c3 hv3 => ?_)
            (first | refine rs_ex rfl (by (first | (constructor <;> first | rfl | exact RdC.rd | exact inferInstance) | exact Ex.pickF rfl rfl | exact Ex.eqlS rfl rfl | exact Ex.neqS rfl rfl | exact Ex.eqlPN rfl rfl | exact Ex.neqPN rfl rfl | exact Ex.eqlSN rfl rfl | exact Ex.neqSN rfl rfl | exact Ex.lenStr rfl)) rfl ?_ | refine rs_skip rfl rfl ?_)
            refine rs_end ?_
            refine qe_then ?_
            refine ct_region ?_
            iterate 8 (first | refine rs_ex rfl (by (first | (constructor <;> first | rfl | exact RdC.rd | exact inferInstance) | exact Ex.pickF rfl rfl | exact Ex.eqlS rfl rfl | exact Ex.neqS rfl rfl | exact Ex.eqlPN rfl rfl | exact Ex.neqPN rfl rfl | exact Ex.eqlSN rfl rfl | exact Ex.neqSN rfl rfl | exact Ex.lenStr rfl)) rfl ?_ | refine rs_skip rfl rfl ?_)
            refine rs_rw (by rw [wrapS (by omega)]) ?_
            refine rs_ex rfl (ex_slice (i := k + 1) (j := s1.p.length) rfl (.inr ⟨_, _, rfl, rfl⟩) (.inl ⟨rfl, rfl⟩) (by omega) (by have := hw1.le; omega)) rfl ?_
            refine rs_rw (by rw [show s1.p.length - (k + 1) = (s1.p.drop (k + 1)).length by simp]) ?_
            refine rs_op rfl rfl (opR_append (s1.p.drop (k + 1)) rfl rfl (by exact SlR.dropA (RdS.slR (len := s1.p.length) inferInstance hw1) hw1.le) rfl (by simp; omega) rfl fun p5 c5 hv5 => ?_)
            iterate 2 (first | refine rs_ex rfl (by (first | (constructor <;> first | rfl | exact RdC.rd | exact inferInstance) | exact Ex.pickF rfl rfl | exact Ex.eqlS rfl rfl | exact Ex.neqS rfl rfl | exact Ex.eqlPN rfl rfl | exact Ex.neqPN rfl rfl | exact Ex.eqlSN rfl rfl | exact Ex.neqSN rfl rfl | exact Ex.lenStr rfl)) rfl ?_ | refine rs_skip rfl rfl ?_)
            refine rs_opN rfl (opR_store rfl rfl rfl rfl ?_)
            refine rs_end ?_
            refine qe_block 3 ?_
            refine qe_midc (((p8, c8), ⟨s1.p.take k ++ s1.p.drop (k + 1), s1.d ++ [x.id]⟩, o1 ++ [x])) (⟨hv8, by simp only; rw [hdn, List.append_assoc]; rfl, by simp; omega, by have := ha1.filter fun y => decide (y.id ≠ x.id); rw [← hyx, ← pool_cut ha1 hky] at this; exact this, by simp; omega, by simp; omega⟩) ⟨rfl, rfl, rfl, rfl, trivial⟩ (fun w h => At.sw1 (RPoolC.shut (s := ⟨s1.p.take k ++ s1.p.drop (k + 1), s1.d ++ [x.id]⟩) (At.top [_, _, _, _, _, _] [1, 0, 3, 5] h)))
          · have hno : (⟨s1.p, s1.d ++ [x.id]⟩ : Pool).has x.id = false := by
              rcases hat with ⟨_, e⟩ | ⟨k, y, e, _, _⟩
              · exact e
              · simp at h69; omega
            have hs2 : s1.done1 x = ⟨s1.p, s1.d ++ [x.id]⟩ := by
              unfold Pool.done1
              rw [pool_keep (s := s1) (m := x) hno]
            rw [hs2] at hdn
            refine ct_skip ?_
            refine qe_block 3 ?_
            refine qe_midc (((p8, c8), ⟨s1.p, s1.d ++ [x.id]⟩, o1 ++ [x])) (⟨hv8, by simp only; rw [hdn, List.append_assoc]; rfl, by simp; omega, ha1, hp1, by simp; omega⟩) ⟨rfl, rfl, rfl, rfl, trivial⟩ (fun w h => by first | exact h.fit | exact At.sw1 h.fit)
      · rintro ⟨⟨p2, c2⟩, s2, o2⟩ ⟨hv2, hd2, ho2, ha2, hp2, hdd2⟩
        simp only at hv2 hd2 ho2 ha2 hp2 hdd2 ⊢
        refine ct_region ?_
        iterate 2 (first | refine rs_ex rfl (by (first | (constructor <;> first | rfl | exact RdC.rd | exact inferInstance) | exact Ex.pickF rfl rfl | exact Ex.eqlS rfl rfl | exact Ex.neqS rfl rfl | exact Ex.eqlPN rfl rfl | exact Ex.neqPN rfl rfl | exact Ex.eqlSN rfl rfl | exact Ex.neqSN rfl rfl | exact Ex.lenStr rfl)) rfl ?_ | refine rs_skip rfl rfl ?_)
        refine rs_rw (by rw [wrapS (by omega)]) ?_
        (first | refine rs_ex rfl (by (first | (constructor <;> first | rfl | exact RdC.rd | exact inferInstance) | exact Ex.pickF rfl rfl | exact Ex.eqlS rfl rfl | exact Ex.neqS rfl rfl | exact Ex.eqlPN rfl rfl | exact Ex.neqPN rfl rfl | exact Ex.eqlSN rfl rfl | exact Ex.neqSN rfl rfl | exact Ex.lenStr rfl)) rfl ?_ | refine rs_skip rfl rfl ?_)
        refine rs_end ?_
        refine qe_loopc ((j + 1, (p2, c2), s2, o2)) (⟨by simp only; omega, hv2, hd2, ho2, ha2, hp2, hdd2⟩) (by first | omega | (simp only; omega)) ⟨rfl, rfl, rfl, rfl, trivial⟩ (fun w h => by first | exact h.fit | exact h)
    · have hie : j = l.length := by simp at h29; omega
      subst hie
      rw [List.drop_length, Pool.doneN, List.append_nil] at hdn
      refine ct_exit ?_
      refine qe_then_exit ?_
      refine qe_loop_exit ?_
      refine qe_block_exit ?_
      refine qe_then ?_
      refine ct_seq ?_
      refine ct_region ?_
      iterate 3 (first | refine rs_ex rfl (by (first | (constructor <;> first | rfl | exact RdC.rd | exact inferInstance) | exact Ex.pickF rfl rfl | exact Ex.eqlS rfl rfl | exact Ex.neqS rfl rfl | exact Ex.eqlPN rfl rfl | exact Ex.neqPN rfl rfl | exact Ex.eqlSN rfl rfl | exact Ex.neqSN rfl rfl | exact Ex.lenStr rfl)) rfl ?_ | refine rs_skip rfl rfl ?_)
      refine rs_end ?_
      refine qe_then ?_
      refine ct_ret ?_
      exact ret2 rfl rfl rfl ⟨_, by rw [Pool.doneErr, if_pos hw], by rw [Pool.did, if_pos hw, Pool.done, if_pos hw, hdn]⟩
end Go.Rost
