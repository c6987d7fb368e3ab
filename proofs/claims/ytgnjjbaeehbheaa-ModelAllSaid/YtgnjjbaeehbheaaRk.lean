/- The reference of layer 16: its functions. -/
import Derived.Test.YtgnjjbaeehbheaaL16
import Derived.Test.YtgnjjbaeehbheaaFt
namespace Go.Rost
open Go Go.RowKit Go.Proofs

theorem Count_c (W0 : World) (p : Option Addr) (c : Nat) (l : List Msg) (f : Int) (H : List Chunk) (h1 : SlR (At W0 H) p l) (hl : l.length ≤ 1000000) :
    Call Try.prog W0 54 [.slice p l.length c, .int .i64 f] H (fun v H' => v = .int .u32 ((of l f).length : Int) ∧ H' = H) := by
  refine call_enter Try.func54 rfl Try.ntmps54 rfl ?_

  refine ct_seq ?_
  refine ct_region ?_
  (first | refine rs_ex rfl (by (first | (constructor <;> first | rfl | exact RdC.rd | exact inferInstance) | exact Ex.pickF rfl rfl | exact Ex.eqlS rfl rfl | exact Ex.neqS rfl rfl | exact Ex.eqlPN rfl rfl | exact Ex.neqPN rfl rfl | exact Ex.eqlSN rfl rfl | exact Ex.neqSN rfl rfl | exact Ex.lenStr rfl)) rfl ?_ | refine rs_skip rfl rfl ?_)
  refine rs_end ?_
  refine qe_then ?_
  refine ct_seq ?_
  refine ct_region ?_
  (first | refine rs_ex rfl (by (first | (constructor <;> first | rfl | exact RdC.rd | exact inferInstance) | exact Ex.pickF rfl rfl | exact Ex.eqlS rfl rfl | exact Ex.neqS rfl rfl | exact Ex.eqlPN rfl rfl | exact Ex.neqPN rfl rfl | exact Ex.eqlSN rfl rfl | exact Ex.neqSN rfl rfl | exact Ex.lenStr rfl)) rfl ?_ | refine rs_skip rfl rfl ?_)
  refine rs_end ?_
  refine qe_then ?_
  refine ct_seq ?_
  refine ct_seq ?_
  refine ct_region ?_
  (first | refine rs_ex rfl (by (first | (constructor <;> first | rfl | exact RdC.rd | exact inferInstance) | exact Ex.pickF rfl rfl | exact Ex.eqlS rfl rfl | exact Ex.neqS rfl rfl | exact Ex.eqlPN rfl rfl | exact Ex.neqPN rfl rfl | exact Ex.eqlSN rfl rfl | exact Ex.neqSN rfl rfl | exact Ex.lenStr rfl)) rfl ?_ | refine rs_skip rfl rfl ?_)
  refine rs_end ?_
  refine qe_then ?_
  refine ct_block ?_
  refine ct_loopk (ζ := Nat) (fun i => i ≤ l.length) [(0, _), (1, _)] (fun i => [(6, .int .i64 (i : Int)), (5, .int .u32 ((of (l.take i) f).length : Int))]) (fun i => l.length - i) (0) (Nat.zero_le _) ⟨rfl, rfl, rfl, rfl, trivial⟩ ?_
  intro i hi
  refine ct_seq ?_
  refine ct_seq ?_
  refine ct_region ?_
  iterate 4 (first | refine rs_ex rfl (by (first | (constructor <;> first | rfl | exact RdC.rd | exact inferInstance) | exact Ex.pickF rfl rfl | exact Ex.eqlS rfl rfl | exact Ex.neqS rfl rfl | exact Ex.eqlPN rfl rfl | exact Ex.neqPN rfl rfl | exact Ex.eqlSN rfl rfl | exact Ex.neqSN rfl rfl | exact Ex.lenStr rfl)) rfl ?_ | refine rs_skip rfl rfl ?_)
  refine rs_end ?_
  refine qe_then ?_
  refine ct_cond rfl (fun h10 => ?_) (fun h10 => ?_)
  · have hi1 : i < l.length := by simp at h10; exact h10
    obtain ⟨b1, o1, rfl, r1⟩ := h1.get (List.getElem?_eq_getElem hi1)
    have hn := of_le (l.take i) f
    have hof : of (l.take (i + 1)) f = of (l.take i) f ++ of [l[i]] f := by rw [List.take_succ_eq_append_getElem hi1, of_append]
    refine ct_skip ?_
    refine qe_then ?_
    refine ct_seq ?_
    refine ct_block ?_
    refine ct_seq ?_
    refine ct_region ?_
    iterate 2 (first | refine rs_ex rfl (by (first | (constructor <;> first | rfl | exact RdC.rd | exact inferInstance) | exact Ex.pickF rfl rfl | exact Ex.eqlS rfl rfl | exact Ex.neqS rfl rfl | exact Ex.eqlPN rfl rfl | exact Ex.neqPN rfl rfl | exact Ex.eqlSN rfl rfl | exact Ex.neqSN rfl rfl | exact Ex.lenStr rfl)) rfl ?_ | refine rs_skip rfl rfl ?_)
    refine rs_ex rfl (ex_indexAddr rfl rfl (by omega) (by omega)) rfl ?_
    iterate 2 (first | refine rs_ex rfl (by (first | (constructor <;> first | rfl | exact RdC.rd | exact inferInstance) | exact Ex.pickF rfl rfl | exact Ex.eqlS rfl rfl | exact Ex.neqS rfl rfl | exact Ex.eqlPN rfl rfl | exact Ex.neqPN rfl rfl | exact Ex.eqlSN rfl rfl | exact Ex.neqSN rfl rfl | exact Ex.lenStr rfl)) rfl ?_ | refine rs_skip rfl rfl ?_)
    refine rs_ex rfl (ex_loadCell (k := 0) rfl r1 rfl) rfl ?_
    iterate 2 (first | refine rs_ex rfl (by (first | (constructor <;> first | rfl | exact RdC.rd | exact inferInstance) | exact Ex.pickF rfl rfl | exact Ex.eqlS rfl rfl | exact Ex.neqS rfl rfl | exact Ex.eqlPN rfl rfl | exact Ex.neqPN rfl rfl | exact Ex.eqlSN rfl rfl | exact Ex.neqSN rfl rfl | exact Ex.lenStr rfl)) rfl ?_ | refine rs_skip rfl rfl ?_)
    refine rs_end ?_
    refine qe_then ?_
    refine ct_cond rfl (fun h20 => ?_) (fun h20 => ?_)
    · have he : l[i].id.from_ = f := by simpa using h20
      rw [of_one_self he] at hof
      refine ct_region ?_
      iterate 2 (first | refine rs_ex rfl (by (first | (constructor <;> first | rfl | exact RdC.rd | exact inferInstance) | exact Ex.pickF rfl rfl | exact Ex.eqlS rfl rfl | exact Ex.neqS rfl rfl | exact Ex.eqlPN rfl rfl | exact Ex.neqPN rfl rfl | exact Ex.eqlSN rfl rfl | exact Ex.neqSN rfl rfl | exact Ex.lenStr rfl)) rfl ?_ | refine rs_skip rfl rfl ?_)
      refine rs_rw (by rw [wrap32 (by omega) (by simp at hn; omega)]) ?_
      (first | refine rs_ex rfl (by (first | (constructor <;> first | rfl | exact RdC.rd | exact inferInstance) | exact Ex.pickF rfl rfl | exact Ex.eqlS rfl rfl | exact Ex.neqS rfl rfl | exact Ex.eqlPN rfl rfl | exact Ex.neqPN rfl rfl | exact Ex.eqlSN rfl rfl | exact Ex.neqSN rfl rfl | exact Ex.lenStr rfl)) rfl ?_ | refine rs_skip rfl rfl ?_)
      refine rs_end ?_
      refine qe_block 1 ?_
      refine qe_then ?_
      refine ct_region ?_
      iterate 2 (first | refine rs_ex rfl (by (first | (constructor <;> first | rfl | exact RdC.rd | exact inferInstance) | exact Ex.pickF rfl rfl | exact Ex.eqlS rfl rfl | exact Ex.neqS rfl rfl | exact Ex.eqlPN rfl rfl | exact Ex.neqPN rfl rfl | exact Ex.eqlSN rfl rfl | exact Ex.neqSN rfl rfl | exact Ex.lenStr rfl)) rfl ?_ | refine rs_skip rfl rfl ?_)
      refine rs_rw (by rw [wrapS (by omega)]) ?_
      (first | refine rs_ex rfl (by (first | (constructor <;> first | rfl | exact RdC.rd | exact inferInstance) | exact Ex.pickF rfl rfl | exact Ex.eqlS rfl rfl | exact Ex.neqS rfl rfl | exact Ex.eqlPN rfl rfl | exact Ex.neqPN rfl rfl | exact Ex.eqlSN rfl rfl | exact Ex.neqSN rfl rfl | exact Ex.lenStr rfl)) rfl ?_ | refine rs_skip rfl rfl ?_)
      refine rs_end ?_
      refine qe_loopc (i + 1) (by first | omega | (simp only; omega)) (by first | omega | (simp only; omega)) ⟨rfl, by rw [hof]; first | rfl | (rw [List.length_append, List.length_singleton]; show some (Value.int IntKind.u32 _) = some (Value.int IntKind.u32 _); simp), rfl, rfl, trivial⟩ (fun w h => by first | exact h.fit | exact h)
    · have he : l[i].id.from_ ≠ f := by simpa using h20
      rw [of_one_ne he, List.append_nil] at hof
      refine ct_skip ?_
      refine qe_block 1 ?_
      refine qe_then ?_
      refine ct_region ?_
      iterate 2 (first | refine rs_ex rfl (by (first | (constructor <;> first | rfl | exact RdC.rd | exact inferInstance) | exact Ex.pickF rfl rfl | exact Ex.eqlS rfl rfl | exact Ex.neqS rfl rfl | exact Ex.eqlPN rfl rfl | exact Ex.neqPN rfl rfl | exact Ex.eqlSN rfl rfl | exact Ex.neqSN rfl rfl | exact Ex.lenStr rfl)) rfl ?_ | refine rs_skip rfl rfl ?_)
      refine rs_rw (by rw [wrapS (by omega)]) ?_
      (first | refine rs_ex rfl (by (first | (constructor <;> first | rfl | exact RdC.rd | exact inferInstance) | exact Ex.pickF rfl rfl | exact Ex.eqlS rfl rfl | exact Ex.neqS rfl rfl | exact Ex.eqlPN rfl rfl | exact Ex.neqPN rfl rfl | exact Ex.eqlSN rfl rfl | exact Ex.neqSN rfl rfl | exact Ex.lenStr rfl)) rfl ?_ | refine rs_skip rfl rfl ?_)
      refine rs_end ?_
      refine qe_loopc (i + 1) (by first | omega | (simp only; omega)) (by first | omega | (simp only; omega)) ⟨rfl, by rw [hof]; first | rfl | (rw [List.length_append, List.length_singleton]; show some (Value.int IntKind.u32 _) = some (Value.int IntKind.u32 _); simp), rfl, rfl, trivial⟩ (fun w h => by first | exact h.fit | exact h)
  · have e : i = l.length := by simp at h10; omega
    subst e
    rw [List.take_length]
    refine ct_exit ?_
    refine qe_then_exit ?_
    refine qe_loop_exit ?_
    refine qe_block_exit ?_
    refine qe_then ?_
    refine ct_seq ?_
    refine ct_region ?_
    iterate 2 (first | refine rs_ex rfl (by (first | (constructor <;> first | rfl | exact RdC.rd | exact inferInstance) | exact Ex.pickF rfl rfl | exact Ex.eqlS rfl rfl | exact Ex.neqS rfl rfl | exact Ex.eqlPN rfl rfl | exact Ex.neqPN rfl rfl | exact Ex.eqlSN rfl rfl | exact Ex.neqSN rfl rfl | exact Ex.lenStr rfl)) rfl ?_ | refine rs_skip rfl rfl ?_)
    refine rs_end ?_
    refine qe_then ?_
    refine ct_ret ?_
    exact ret1 rfl rfl ⟨rfl, rfl⟩
theorem HasL_c (W0 : World) (p : Option Addr) (c : Nat) (l : List Msg) (m : Msg) (H : List Chunk) (h1 : SlR (At W0 H) p l) (hl : l.length ≤ 1000000) :
    Call Try.prog W0 55 [.slice p l.length c, m.v] H (fun v H' => v = .bool (decide (m ∈ l)) ∧ H' = H) := by
  refine call_enter Try.func55 rfl Try.ntmps55 rfl ?_

  refine ct_seq ?_
  refine ct_region ?_
  refine rs_op rfl rfl (opR_box rfl fun b3 => ?_)
  (first | refine rs_ex rfl (by (first | (constructor <;> first | rfl | exact RdC.rd | exact inferInstance) | exact Ex.pickF rfl rfl | exact Ex.eqlS rfl rfl | exact Ex.neqS rfl rfl | exact Ex.eqlPN rfl rfl | exact Ex.neqPN rfl rfl | exact Ex.eqlSN rfl rfl | exact Ex.neqSN rfl rfl | exact Ex.lenStr rfl)) rfl ?_ | refine rs_skip rfl rfl ?_)
  refine rs_end ?_
  refine qe_then ?_
  refine ct_seq ?_
  refine ct_seq ?_
  refine ct_region ?_
  (first | refine rs_ex rfl (by (first | (constructor <;> first | rfl | exact RdC.rd | exact inferInstance) | exact Ex.pickF rfl rfl | exact Ex.eqlS rfl rfl | exact Ex.neqS rfl rfl | exact Ex.eqlPN rfl rfl | exact Ex.neqPN rfl rfl | exact Ex.eqlSN rfl rfl | exact Ex.neqSN rfl rfl | exact Ex.lenStr rfl)) rfl ?_ | refine rs_skip rfl rfl ?_)
  refine rs_end ?_
  refine qe_then ?_
  refine ct_block ?_
  refine ct_loopk (ζ := Nat) (fun i => i ≤ l.length ∧ m ∉ l.take i) [(0, _), (3, _)] (fun i => [(5, .int .i64 (i : Int))]) (fun i => l.length - i) (0) (⟨Nat.zero_le _, by simp⟩) ⟨rfl, rfl, rfl, trivial⟩ ?_
  rintro i ⟨hi, hm⟩
  refine ct_seq ?_
  refine ct_seq ?_
  refine ct_region ?_
  iterate 4 (first | refine rs_ex rfl (by (first | (constructor <;> first | rfl | exact RdC.rd | exact inferInstance) | exact Ex.pickF rfl rfl | exact Ex.eqlS rfl rfl | exact Ex.neqS rfl rfl | exact Ex.eqlPN rfl rfl | exact Ex.neqPN rfl rfl | exact Ex.eqlSN rfl rfl | exact Ex.neqSN rfl rfl | exact Ex.lenStr rfl)) rfl ?_ | refine rs_skip rfl rfl ?_)
  refine rs_end ?_
  refine qe_then ?_
  refine ct_cond rfl (fun h9 => ?_) (fun h9 => ?_)
  · have hi1 : i < l.length := by simp at h9; exact h9
    obtain ⟨b1, o1, rfl, r1⟩ := h1.get (List.getElem?_eq_getElem hi1)
    refine ct_skip ?_
    refine qe_then ?_
    refine ct_seq ?_
    refine ct_block ?_
    refine ct_seq ?_
    refine ct_draw0 (by kernel_rfl) ?_
    refine ra_take 0 rfl (by kernel_rfl) (by kernel_rfl) rfl (by (first | (constructor <;> first | rfl | exact RdC.rd | exact inferInstance) | exact Ex.pickF rfl rfl | exact Ex.eqlS rfl rfl | exact Ex.neqS rfl rfl | exact Ex.eqlPN rfl rfl | exact Ex.neqPN rfl rfl | exact Ex.eqlSN rfl rfl | exact Ex.neqSN rfl rfl | exact Ex.lenStr rfl)) rfl (fun _ h => h.fit) ?_
    refine ra_take 1 rfl (by kernel_rfl) (by kernel_rfl) rfl (by (first | (constructor <;> first | rfl | exact RdC.rd | exact inferInstance) | exact Ex.pickF rfl rfl | exact Ex.eqlS rfl rfl | exact Ex.neqS rfl rfl | exact Ex.eqlPN rfl rfl | exact Ex.neqPN rfl rfl | exact Ex.eqlSN rfl rfl | exact Ex.neqSN rfl rfl | exact Ex.lenStr rfl)) rfl (fun _ h => h.fit) ?_
    refine ra_take 2 rfl (by kernel_rfl) (by kernel_rfl) rfl (ex_indexAddr rfl rfl (by omega) (by omega)) rfl (fun _ h => h.fit) ?_
    refine ra_take 3 rfl (by kernel_rfl) (by kernel_rfl) rfl (ex_loadMsg (l[i]) rfl (r1.mono fun w h => h.drop)) rfl (fun _ h => h.fit) ?_
    refine ra_take 4 rfl (by kernel_rfl) (by kernel_rfl) rfl (by (first | (constructor <;> first | rfl | exact RdC.rd | exact inferInstance) | exact Ex.pickF rfl rfl | exact Ex.eqlS rfl rfl | exact Ex.neqS rfl rfl | exact Ex.eqlPN rfl rfl | exact Ex.neqPN rfl rfl | exact Ex.eqlSN rfl rfl | exact Ex.neqSN rfl rfl | exact Ex.lenStr rfl)) rfl (fun _ h => h.fit) ?_
    refine ra_take 5 rfl (by kernel_rfl) (by kernel_rfl) rfl (ex_eqMsg (l[i]) m rfl rfl) rfl (fun _ h => h.fit) ?_
    refine ra_end (by kernel_rfl) ?_
    refine qe_then ?_
    refine ct_cond rfl (fun h17 => ?_) (fun h17 => ?_)
    · have he : l[i] = m := by simpa using h17
      refine ct_seq ?_
      refine ct_region ?_
      (first | refine rs_ex rfl (by (first | (constructor <;> first | rfl | exact RdC.rd | exact inferInstance) | exact Ex.pickF rfl rfl | exact Ex.eqlS rfl rfl | exact Ex.neqS rfl rfl | exact Ex.eqlPN rfl rfl | exact Ex.neqPN rfl rfl | exact Ex.eqlSN rfl rfl | exact Ex.neqSN rfl rfl | exact Ex.lenStr rfl)) rfl ?_ | refine rs_skip rfl rfl ?_)
      refine rs_end ?_
      refine qe_then ?_
      refine ct_ret ?_
      exact qe_fit (ret1 rfl rfl ⟨by rw [decide_eq_true (he ▸ List.getElem_mem hi1)], rfl⟩)
    · have he : l[i] ≠ m := by simpa using h17
      refine ct_skip ?_
      refine qe_block 1 ?_
      refine qe_then ?_
      refine ct_region ?_
      iterate 2 (first | refine rs_ex rfl (by (first | (constructor <;> first | rfl | exact RdC.rd | exact inferInstance) | exact Ex.pickF rfl rfl | exact Ex.eqlS rfl rfl | exact Ex.neqS rfl rfl | exact Ex.eqlPN rfl rfl | exact Ex.neqPN rfl rfl | exact Ex.eqlSN rfl rfl | exact Ex.neqSN rfl rfl | exact Ex.lenStr rfl)) rfl ?_ | refine rs_skip rfl rfl ?_)
      refine rs_rw (by rw [wrapS (by omega)]) ?_
      (first | refine rs_ex rfl (by (first | (constructor <;> first | rfl | exact RdC.rd | exact inferInstance) | exact Ex.pickF rfl rfl | exact Ex.eqlS rfl rfl | exact Ex.neqS rfl rfl | exact Ex.eqlPN rfl rfl | exact Ex.neqPN rfl rfl | exact Ex.eqlSN rfl rfl | exact Ex.neqSN rfl rfl | exact Ex.lenStr rfl)) rfl ?_ | refine rs_skip rfl rfl ?_)
      refine rs_end ?_
      refine qe_loopc (i + 1) (⟨by omega, by rw [List.take_succ_eq_append_getElem hi1, List.mem_append]; rintro (h | h); exact hm h; exact he (List.mem_singleton.1 h).symm⟩) (by first | omega | (simp only; omega)) ⟨rfl, rfl, rfl, trivial⟩ (fun w h => by first | exact h.fit | exact h)
  · have e : i = l.length := by simp at h9; omega
    subst e
    rw [List.take_length] at hm
    refine ct_exit ?_
    refine qe_then_exit ?_
    refine qe_loop_exit ?_
    refine qe_block_exit ?_
    refine qe_then ?_
    refine ct_seq ?_
    refine ct_region ?_
    (first | refine rs_ex rfl (by (first | (constructor <;> first | rfl | exact RdC.rd | exact inferInstance) | exact Ex.pickF rfl rfl | exact Ex.eqlS rfl rfl | exact Ex.neqS rfl rfl | exact Ex.eqlPN rfl rfl | exact Ex.neqPN rfl rfl | exact Ex.eqlSN rfl rfl | exact Ex.neqSN rfl rfl | exact Ex.lenStr rfl)) rfl ?_ | refine rs_skip rfl rfl ?_)
    refine rs_end ?_
    refine qe_then ?_
    refine ct_ret ?_
    exact qe_fit (ret1 rfl rfl ⟨by rw [decide_eq_false hm], rfl⟩)
/-- The reference's model: what was accepted, the log, how many each node has delivered. -/
structure RMod where
  acc : List Msg
  log : List Msg
  del : List Int
def RModC (b : Nat) (r : RMod) : Chunk := Exs fun q : Value × Value × Nat =>
  Star [Blk b (.cells #[q.1, q.2.1, .slice (some ⟨q.2.2, 0, none⟩) r.del.length r.del.length] 66 (0, 0)), SlT 34 q.1 r.acc, SlT 34 q.2.1 r.log, Blk q.2.2 (.cells (flat r.del).toArray 3 (0, 0))]
theorem RModC.open {W0 : World} {b : Nat} {r : RMod} {H : List Chunk} {w : World} (h : At W0 (RModC b r :: H) w) :
    ∃ q : Value × Value × Nat, At W0 (Blk b (.cells #[q.1, q.2.1, .slice (some ⟨q.2.2, 0, none⟩) r.del.length r.del.length] 66 (0, 0)) :: SlT 34 q.1 r.acc :: SlT 34 q.2.1 r.log :: Blk q.2.2 (.cells (flat r.del).toArray 3 (0, 0)) :: H) w := by
  obtain ⟨q, h⟩ := At.ex.1 h
  exact ⟨q, At.star.1 h⟩
theorem RModC.shut {W0 : World} {b dp : Nat} {u v : Value} {r : RMod} {H : List Chunk} {w : World} (h : At W0 (Blk b (.cells #[u, v, .slice (some ⟨dp, 0, none⟩) r.del.length r.del.length] 66 (0, 0)) :: SlT 34 u r.acc :: SlT 34 v r.log :: Blk dp (.cells (flat r.del).toArray 3 (0, 0)) :: H) w) : At W0 (RModC b r :: H) w :=
  At.ex.2 ⟨(u, v, dp), At.star.2 h⟩
theorem RModC.shutN {W0 : World} {b dp n : Nat} {u v : Value} {r : RMod} {H : List Chunk} {w : World} (hn : r.del.length = n) (h : At W0 (Blk b (.cells #[u, v, .slice (some ⟨dp, 0, none⟩) n n] 66 (0, 0)) :: SlT 34 u r.acc :: SlT 34 v r.log :: Blk dp (.cells (flat r.del).toArray 3 (0, 0)) :: H) w) : At W0 (RModC b r :: H) w := by
  subst hn
  exact RModC.shut h
def RMod.new (k : Nat) : RMod := ⟨[], [], List.replicate k 0⟩
def RMod.behind (s : RMod) (n : Int) : Int := if n < 0 ∨ (s.del.length : Int) ≤ n then -1 else (s.log.length : Int) - (s.del[n.toNat]?).getD 0
def RMod.accOK (s : RMod) (h : Happ) : Bool := h.m.right && (decide (h.m.id.from_ = h.node) && decide (h.m.id.count = (of s.acc h.node).length + 1))
def RMod.layOK (s : RMod) (m : Msg) : Bool := decide (m ∈ s.acc) && decide (m.id.count = (of s.log m.id.from_).length + 1)
def RMod.happen (s : RMod) (h : Happ) : Int × RMod :=
  if h.node < 0 ∨ (s.del.length : Int) ≤ h.node then (160, s)
  else if h.kind = 2 then (0, s)
  else if h.kind = 1 then (if s.accOK h = true then (0, { s with acc := s.acc ++ [h.m] }) else (160, s))
  else if h.kind = 3 then
    (let k := (s.del[h.node.toNat]?).getD 0
     if k = (s.log.length : Int) then (if s.layOK h.m = true then (0, { s with log := s.log ++ [h.m], del := s.del.set h.node.toNat (k + 1) }) else (160, s))
     else if s.log[k.toNat]? = some h.m then (0, { s with del := s.del.set h.node.toNat (k + 1) }) else (160, s))
  else (160, s)
end Go.Rost
