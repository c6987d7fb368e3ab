/- The model of a log: what happens, one after the other. -/
import Derived.Test.YtgnjjbaeehbheaaMh
import Derived.Test.YtgnjjbaeehbheaaRf
namespace Go.Rost
open Go Go.RowKit Go.Proofs

/-- A call that leaves what is owned alone: it may be walked over the world as it is. -/
theorem Call.fresh {P : Program} {W0 : World} {f : FuncId} {args : List Value} {H : List Chunk} {K : Value → List Chunk → Prop} (h : ∀ W1, At W0 H W1 → Call P W1 f args [] K) : Call P W0 f args H (fun v H' => (∃ H1, K v H1) ∧ H' = H) := by
  intro w hw
  refine (h w hw w (At.start w)).mono ?_
  rintro e w' ⟨v, H1, he, hk, hw'⟩
  refine ⟨v, H, he, ⟨⟨H1, hk⟩, rfl⟩, ?_⟩
  obtain ⟨hb, k, hk2, s⟩ := hw
  have hb' := hw'.1
  refine ⟨⟨hb'.os.trans hb.os, hb'.tape.trans hb.tape, hb'.output.trans hb.output, Nat.le_trans hb.size hb'.size, fun i hi => (hb'.block i (Nat.lt_of_lt_of_le hi hb.size)).trans (hb.block i hi)⟩, k, fun b o e => ⟨(hk2 b o e).1, ?_⟩, s⟩
  have h2 := (hk2 b o e).2
  rw [hb'.block b (Array.getElem?_eq_some_iff.1 h2).1]
  exact h2
theorem At.bare {W0 : World} {H : List Chunk} {w : World} (h : At W0 H w) : At W0 [] w := ⟨h.1, fun _ => none, fun _ _ e => (by cases e), trivial⟩
theorem ex_loadHapp {S : World → Prop} {σ : Env} {x : Operand} {b o : Nat} (a : Happ) (hx : σ.val x = some (.pointer (some ⟨b, o, none⟩))) (h : Rd S b o (Enc.enc a)) : Ex Try.prog S σ (.load 52 x) a.v := ex_loadA a hx h
theorem Values_c (W0 : World) (v : Value) (p : Option Addr) (n c : Nat) (H : List Chunk) (hv : v = .slice p n c) : Call Try.prog W0 66 [v] H (fun u H' => ∃ b, u = .func (.func 74) #[] #[.pointer (some ⟨b, 0, none⟩)] ∧ H' = Blk b (.cells #[.slice p n c] 46 (0, 0)) :: H) := by
  subst hv
  refine call_enter Try.func66 rfl Try.ntmps66 rfl ?_
  ((repeat refine ct_seq ?_); refine ct_region ?_)
  refine rs_op rfl rfl (opR_box rfl ?_); intro bx
  repeat (first | refine rs_ex rfl (by (first | (constructor <;> first | rfl | exact RdC.rd | exact inferInstance) | exact Ex.pickF rfl rfl | exact Ex.eqlS rfl rfl | exact Ex.neqS rfl rfl | exact Ex.eqlPN rfl rfl | exact Ex.neqPN rfl rfl | exact Ex.eqlSN rfl rfl | exact Ex.neqSN rfl rfl | exact Ex.lenStr rfl)) rfl ?_ | refine rs_skip rfl rfl ?_)
  refine rs_end (qe_then ?_)
  ((repeat refine ct_seq ?_); refine ct_region ?_; repeat (first | refine rs_ex rfl (by (first | (constructor <;> first | rfl | exact RdC.rd | exact inferInstance) | exact Ex.pickF rfl rfl | exact Ex.eqlS rfl rfl | exact Ex.neqS rfl rfl | exact Ex.eqlPN rfl rfl | exact Ex.neqPN rfl rfl | exact Ex.eqlSN rfl rfl | exact Ex.neqSN rfl rfl | exact Ex.lenStr rfl)) rfl ?_ | refine rs_skip rfl rfl ?_))
  refine rs_end (qe_then (ct_ret (ret1 rfl rfl ⟨_, rfl, rfl⟩)))
def encH (h : Happ) : List Value := [h.v]
theorem Values1_c (W0 : World) {ζ : Type} (y : Value) (gc : ζ → Option Code → Chunk) (step : ζ → Happ → ζ × Option Code) (J : ζ → List Happ → Prop) (z0 : ζ) (bs c : Nat) (p : Option Addr) (l : List Happ) (T : List Chunk)
    (hy : Yields Try.prog W0 y encH gc step J) (h0 : J z0 l) (hr : SlR (At W0 []) p l) (hl : l.length ≤ 100000) :
    Call Try.prog W0 74 [y, .pointer (some ⟨bs, 0, none⟩)] (Blk bs (.cells #[.slice p l.length c] 46 (0, 0)) :: gc z0 none :: T)
      (fun v H' => ∃ xs it', xs = l ∧ H' = it' :: gc (runs step z0 xs).1 (runs step z0 xs).2 :: T) := by
  refine call_enter Try.func74 rfl Try.ntmps74 rfl ?_
  ((repeat refine ct_seq ?_); refine ct_region ?_; repeat (first | refine rs_ex rfl (by (first | (constructor <;> first | rfl | exact RdC.rd | exact inferInstance) | exact Ex.pickF rfl rfl | exact Ex.eqlS rfl rfl | exact Ex.neqS rfl rfl | exact Ex.eqlPN rfl rfl | exact Ex.neqPN rfl rfl | exact Ex.eqlSN rfl rfl | exact Ex.neqSN rfl rfl | exact Ex.lenStr rfl)) rfl ?_ | refine rs_skip rfl rfl ?_))
  refine rs_end (qe_then (ct_block ?_))
  refine ct_loop (ζ := Nat × ζ) (fun q => J q.2 (l.drop q.1) ∧ q.1 ≤ l.length ∧ runs step q.2 (l.drop q.1) = runs step z0 l) (fun q => [(7, .int .i64 (q.1 : Int)), (6, .int .i64 (l.length : Int)), (5, .slice p l.length c), (0, y)])
    (fun q => Blk bs (.cells #[.slice p l.length c] 46 (0, 0)) :: gc q.2 none :: T) (fun q => l.length - q.1) (0, z0) ⟨h0, Nat.zero_le _, rfl⟩ ⟨rfl, rfl, rfl, rfl, trivial⟩ (fun w h => h) ?_
  rintro ⟨i, z⟩ ⟨hz, hi, hruns⟩
  simp only at hz hi hruns ⊢
  ((repeat refine ct_seq ?_); refine ct_region ?_; repeat (first | refine rs_ex rfl (by (first | (constructor <;> first | rfl | exact RdC.rd | exact inferInstance) | exact Ex.pickF rfl rfl | exact Ex.eqlS rfl rfl | exact Ex.neqS rfl rfl | exact Ex.eqlPN rfl rfl | exact Ex.neqPN rfl rfl | exact Ex.eqlSN rfl rfl | exact Ex.neqSN rfl rfl | exact Ex.lenStr rfl)) rfl ?_ | refine rs_skip rfl rfl ?_))
  refine rs_end (qe_then ?_)
  (repeat refine ct_seq ?_)
  refine ct_cond rfl (fun hc => ?_) (fun hc => ?_)
  · have hi1 : i < l.length := by simp at hc; exact hc
    obtain ⟨b1, o1, rfl, r1⟩ := hr.get (List.getElem?_eq_getElem hi1)
    obtain ⟨x, hx⟩ : ∃ x, x = l[i] := ⟨_, rfl⟩
    rw [← hx] at r1
    rw [List.drop_eq_getElem_cons hi1, ← hx] at hruns hz
    refine ct_skip (qe_then ?_)
    (repeat refine ct_seq ?_)
    refine ct_block ?_
    ((repeat refine ct_seq ?_); refine ct_region ?_; repeat (first | refine rs_ex rfl (by (first | (constructor <;> first | rfl | exact RdC.rd | exact inferInstance) | exact Ex.pickF rfl rfl | exact Ex.eqlS rfl rfl | exact Ex.neqS rfl rfl | exact Ex.eqlPN rfl rfl | exact Ex.neqPN rfl rfl | exact Ex.eqlSN rfl rfl | exact Ex.neqSN rfl rfl | exact Ex.lenStr rfl)) rfl ?_ | refine rs_skip rfl rfl ?_))
    refine rs_ex rfl (ex_indexAddr rfl rfl (by omega) (by omega)) rfl ?_
    refine rs_ex rfl (ex_loadHapp x rfl (r1.mono fun w h => h.bare)) rfl ?_
    refine rs_op rfl rfl (opR_alloc fun b4 => ?_)
    refine rs_opN rfl (opR_store rfl rfl rfl rfl ?_)
    refine rs_end (qe_then ?_)
    ((repeat refine ct_seq ?_); refine ct_region ?_; repeat (first | refine rs_ex rfl (by (first | (constructor <;> first | rfl | exact RdC.rd | exact inferInstance) | exact Ex.pickF rfl rfl | exact Ex.eqlS rfl rfl | exact Ex.neqS rfl rfl | exact Ex.eqlPN rfl rfl | exact Ex.neqPN rfl rfl | exact Ex.eqlSN rfl rfl | exact Ex.neqSN rfl rfl | exact Ex.lenStr rfl)) rfl ?_ | refine rs_skip rfl rfl ?_))
    have hcall := (hy.call z x _ (Blk b4 (.cells #[.int .i64 x.kind, .int .i64 x.node, .int .i64 x.m.id.from_, .int .u32 x.m.id.count, .string x.m.data] 52 (0, 0)) :: Blk bs (.cells #[.slice (some ⟨b1, o1, none⟩) l.length c] 46 (0, 0)) :: T) hz)
    refine rs_op rfl rfl (opR_callV rfl rfl (CallV.heap (fun w h => At.top [_, _, _] [2, 0, 1] h) (hcall.mono ?_)))
    rintro v H' ⟨rfl, rfl⟩
    cases hj : (step z x).2 with
    | none =>
      repeat (first | refine rs_ex rfl (by (first | (constructor <;> first | rfl | exact RdC.rd | exact inferInstance) | exact Ex.pickF rfl rfl | exact Ex.eqlS rfl rfl | exact Ex.neqS rfl rfl | exact Ex.eqlPN rfl rfl | exact Ex.neqPN rfl rfl | exact Ex.eqlSN rfl rfl | exact Ex.neqSN rfl rfl | exact Ex.lenStr rfl)) rfl ?_ | refine rs_skip rfl rfl ?_)
      refine rs_end (qe_then ?_)
      refine ct_cond rfl (fun h => by cases h) (fun _ => ?_)
      refine ct_skip (qe_block 1 (qe_then ?_))
      ((repeat refine ct_seq ?_); refine ct_region ?_; repeat (first | refine rs_ex rfl (by (first | (constructor <;> first | rfl | exact RdC.rd | exact inferInstance) | exact Ex.pickF rfl rfl | exact Ex.eqlS rfl rfl | exact Ex.neqS rfl rfl | exact Ex.eqlPN rfl rfl | exact Ex.neqPN rfl rfl | exact Ex.eqlSN rfl rfl | exact Ex.neqSN rfl rfl | exact Ex.lenStr rfl)) rfl ?_ | refine rs_skip rfl rfl ?_))
      refine rs_rw (by rw [wrapS (by omega)]) ?_
      repeat (first | refine rs_ex rfl (by (first | (constructor <;> first | rfl | exact RdC.rd | exact inferInstance) | exact Ex.pickF rfl rfl | exact Ex.eqlS rfl rfl | exact Ex.neqS rfl rfl | exact Ex.eqlPN rfl rfl | exact Ex.neqPN rfl rfl | exact Ex.eqlSN rfl rfl | exact Ex.neqSN rfl rfl | exact Ex.lenStr rfl)) rfl ?_ | refine rs_skip rfl rfl ?_)
      refine rs_end (qe_loop (i + 1, (step z x).1) ⟨hy.keeps _ _ _ hz hj, by simp only; omega, ?_⟩ (by simp only; omega) ⟨rfl, rfl, rfl, rfl, trivial⟩ (fun w h => ?_))
      · rw [← hruns, runs, hj]
      · exact At.top [_, _, _] [2, 0] h
    | some j =>
      repeat (first | refine rs_ex rfl (by (first | (constructor <;> first | rfl | exact RdC.rd | exact inferInstance) | exact Ex.pickF rfl rfl | exact Ex.eqlS rfl rfl | exact Ex.neqS rfl rfl | exact Ex.eqlPN rfl rfl | exact Ex.neqPN rfl rfl | exact Ex.eqlSN rfl rfl | exact Ex.neqSN rfl rfl | exact Ex.lenStr rfl)) rfl ?_ | refine rs_skip rfl rfl ?_)
      refine rs_end (qe_then ?_)
      refine ct_cond rfl (fun _ => ?_) (fun h => by cases h)
      refine ct_ret (qe_heap (H' := Blk bs (.cells #[.slice (some ⟨b1, o1, none⟩) l.length c] 46 (0, 0)) :: gc (step z x).1 (some j) :: T) (fun w h => At.top [_, _, _] [2, 0] h) (ret0 rfl ⟨l, Blk bs (.cells #[.slice (some ⟨b1, o1, none⟩) l.length c] 46 (0, 0)), rfl, ?_⟩))
      rw [← hruns, runs, hj]
  · have e : i = l.length := by simp at hc; omega
    subst e
    rw [List.drop_length] at hruns
    (refine ct_exit ?_; repeat (first | refine qe_then_exit ?_ | refine qe_loop_exit ?_ | refine qe_mid_exit ?_ | refine qe_block_exit_ne rfl ?_); refine qe_block_exit ?_)
    refine qe_end (ret0 rfl ⟨l, Blk bs (.cells #[.slice p l.length c] 46 (0, 0)), rfl, ?_⟩)
    rw [← hruns]; rfl
end Go.Rost
