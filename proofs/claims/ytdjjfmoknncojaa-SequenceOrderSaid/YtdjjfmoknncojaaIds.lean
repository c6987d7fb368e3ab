/- Messages by their ids: what each function of the package ids does. -/
import Derived.Test.YtdjjfmoknncojaaDt
namespace Go.Rost
open Go Go.RowKit Go.Proofs

theorem Right_c (W0 : World) (m : Msg) (H : List Chunk) : Call Try.prog W0 56 [m.v] H (fun v H' => v = .bool m.right ∧ H' = H) := by
  refine call_enter Try.func56 rfl Try.ntmps56 rfl ?_
  refine ct_seq (ct_region ?_)
  refine rs_op rfl rfl (opR_box rfl ?_); intro b
  repeat (first | refine rs_ex rfl (by (first | (constructor <;> first | rfl | exact RdC.rd | exact inferInstance) | exact Ex.pickF rfl rfl | exact Ex.eqlS rfl rfl | exact Ex.neqS rfl rfl | exact Ex.eqlPN rfl rfl | exact Ex.neqPN rfl rfl | exact Ex.eqlSN rfl rfl | exact Ex.neqSN rfl rfl | exact Ex.lenStr rfl)) rfl ?_ | refine rs_skip rfl rfl ?_)
  refine rs_end (qe_then ?_)
  refine ct_seq (ct_region ?_)
  repeat' (first | (first | refine rs_ex rfl (by (first | (constructor <;> first | rfl | exact RdC.rd | exact inferInstance) | exact Ex.pickF rfl rfl | exact Ex.eqlS rfl rfl | exact Ex.neqS rfl rfl | exact Ex.eqlPN rfl rfl | exact Ex.neqPN rfl rfl | exact Ex.eqlSN rfl rfl | exact Ex.neqSN rfl rfl | exact Ex.lenStr rfl)) rfl ?_ | refine rs_skip rfl rfl ?_) | (refine rs_split (fun h => ?_) (fun h => ?_) <;> (first | refine rs_ex rfl (by (first | (constructor <;> first | rfl | exact RdC.rd | exact inferInstance) | exact Ex.pickF rfl rfl | exact Ex.eqlS rfl rfl | exact Ex.neqS rfl rfl | exact Ex.eqlPN rfl rfl | exact Ex.neqPN rfl rfl | exact Ex.eqlSN rfl rfl | exact Ex.neqSN rfl rfl | exact Ex.lenStr rfl)) rfl ?_ | refine rs_skip rfl rfl ?_)))
  all_goals
    refine rs_end (qe_then (ct_ret (qe_heap (fun _ h => h.drop) ?_)))
    refine ret1 rfl rfl ⟨?_, rfl⟩
    first | (simp_all [Msg.right]; done) | (simp_all [Msg.right]; omega)

structure Book where
  log : List Msg
  waits : List (Id × Msg)
  next : List (Int × Int)
def Book.new : Book := ⟨[], [], []⟩
def BookC (b : Nat) (s : Book) : Chunk := Exs fun lv : Value => Exs fun wr : Nat => Exs fun nr : Nat =>
  Star [Blk b (.cells #[lv, .map (some wr), .map (some nr)] 97 (0, 0)), SlT 34 lv s.log, MapC Id.v Msg.v wr s.waits, MapC intV u32V nr s.next]
theorem BookC.open {W0 : World} {b : Nat} {s : Book} {H : List Chunk} {w : World} (h : At W0 (BookC b s :: H) w) :
    ∃ (lv : Value) (wr nr : Nat), At W0 (Blk b (.cells #[lv, .map (some wr), .map (some nr)] 97 (0, 0)) :: SlT 34 lv s.log :: MapC Id.v Msg.v wr s.waits :: MapC intV u32V nr s.next :: H) w := by
  obtain ⟨lv, h⟩ := At.ex.1 h
  obtain ⟨wr, h⟩ := At.ex.1 h
  obtain ⟨nr, h⟩ := At.ex.1 h
  exact ⟨lv, wr, nr, At.star.1 h⟩
theorem BookC.shut {W0 : World} {b wr nr : Nat} {lv : Value} {s : Book} {H : List Chunk} {w : World}
    (h : At W0 (Blk b (.cells #[lv, .map (some wr), .map (some nr)] 97 (0, 0)) :: SlT 34 lv s.log :: MapC Id.v Msg.v wr s.waits :: MapC intV u32V nr s.next :: H) w) : At W0 (BookC b s :: H) w :=
  At.ex.2 ⟨lv, At.ex.2 ⟨wr, At.ex.2 ⟨nr, At.star.2 h⟩⟩⟩

theorem New_c (W0 : World) (H : List Chunk) : Call Try.prog W0 20 [] H (fun v H' => ∃ b, v = .pointer (some ⟨b, 0, none⟩) ∧ H' = BookC b Book.new :: H) := by
  refine call_enter Try.func20 rfl Try.ntmps20 rfl ?_
  refine ct_seq (ct_region ?_)
  repeat (first | refine rs_ex rfl (by (first | (constructor <;> first | rfl | exact RdC.rd | exact inferInstance) | exact Ex.pickF rfl rfl | exact Ex.eqlS rfl rfl | exact Ex.neqS rfl rfl | exact Ex.eqlPN rfl rfl | exact Ex.neqPN rfl rfl | exact Ex.eqlSN rfl rfl | exact Ex.neqSN rfl rfl | exact Ex.lenStr rfl)) rfl ?_ | refine rs_skip rfl rfl ?_)
  refine rs_end (qe_then ?_)
  refine ct_seq (ct_region ?_)
  refine rs_op rfl rfl (opR_makeMap ?_); intro wr
  refine rs_op rfl rfl (opR_makeMap ?_); intro nr
  refine rs_ex rfl (ex_build rfl) rfl ?_
  refine rs_op rfl rfl (opR_box rfl ?_); intro b
  repeat (first | refine rs_ex rfl (by (first | (constructor <;> first | rfl | exact RdC.rd | exact inferInstance) | exact Ex.pickF rfl rfl | exact Ex.eqlS rfl rfl | exact Ex.neqS rfl rfl | exact Ex.eqlPN rfl rfl | exact Ex.neqPN rfl rfl | exact Ex.eqlSN rfl rfl | exact Ex.neqSN rfl rfl | exact Ex.lenStr rfl)) rfl ?_ | refine rs_skip rfl rfl ?_)
  refine rs_end (qe_then (ct_ret (qe_heap (H' := BookC b Book.new :: H) (fun w h => ?_) ?_)))
  · have h1 : At W0 (MapC intV u32V nr [] :: Blk b _ :: Blk wr _ :: H) w := At.map_new intV u32V (At.top [_, _, _] [1, 0, 2] h)
    have h2 : At W0 (MapC Id.v Msg.v wr [] :: MapC intV u32V nr [] :: Blk b _ :: H) w := At.map_new Id.v Msg.v (At.top [_, _, _] [2, 0, 1] h1)
    exact BookC.shut (s := Book.new) (At.top [_, _, _, _] [3, 0, 1, 2] (At.slt_nil (α := Msg) 34 h2))
  · refine ret1 rfl rfl ⟨b, rfl, rfl⟩

theorem Clone_c (W0 : World) (p : Option Addr) (cap : Nat) (l : List Msg) (H : List Chunk) (hp : p = none → l = []) (hr : SlR (At W0 H) p l) (hl : l.length ≤ 100000) : Call Try.prog W0 57 [.slice p l.length cap] H (fun v H' => H' = SlT 34 v l :: H) := by
  refine call_enter Try.func57 rfl Try.ntmps57 rfl ?_
  refine ct_seq (ct_region ?_)
  repeat (first | refine rs_ex rfl (by (first | (constructor <;> first | rfl | exact RdC.rd | exact inferInstance) | exact Ex.pickF rfl rfl | exact Ex.eqlS rfl rfl | exact Ex.neqS rfl rfl | exact Ex.eqlPN rfl rfl | exact Ex.neqPN rfl rfl | exact Ex.eqlSN rfl rfl | exact Ex.neqSN rfl rfl | exact Ex.lenStr rfl)) rfl ?_ | refine rs_skip rfl rfl ?_)
  refine rs_end (qe_then ?_)
  refine ct_seq ?_
  refine ct_seq (ct_region ?_)
  repeat (first | refine rs_ex rfl (by (first | (constructor <;> first | rfl | exact RdC.rd | exact inferInstance) | exact Ex.pickF rfl rfl | exact Ex.eqlS rfl rfl | exact Ex.neqS rfl rfl | exact Ex.eqlPN rfl rfl | exact Ex.neqPN rfl rfl | exact Ex.eqlSN rfl rfl | exact Ex.neqSN rfl rfl | exact Ex.lenStr rfl)) rfl ?_ | refine rs_skip rfl rfl ?_)
  refine rs_end (qe_then ?_)
  refine ct_cond rfl (fun h => ?_) (fun h => ?_)
  · refine ct_seq (ct_region ?_)
    repeat (first | refine rs_ex rfl (by (first | (constructor <;> first | rfl | exact RdC.rd | exact inferInstance) | exact Ex.pickF rfl rfl | exact Ex.eqlS rfl rfl | exact Ex.neqS rfl rfl | exact Ex.eqlPN rfl rfl | exact Ex.neqPN rfl rfl | exact Ex.eqlSN rfl rfl | exact Ex.neqSN rfl rfl | exact Ex.lenStr rfl)) rfl ?_ | refine rs_skip rfl rfl ?_)
    refine rs_end (qe_then (ct_ret ?_))
    have e : l = [] := hp (by simpa using h)
    subst e
    exact qe_heap (fun w h => At.slt_nil (α := Msg) 34 h) (ret1 rfl rfl rfl)
  · refine ct_skip (qe_then ?_)
    refine ct_seq (ct_region ?_)
    refine rs_op rfl rfl (opR_buildSlice0 ?_); intro b
    refine rs_heap (fun w h => At.slt_blk (α := Msg) (l := []) (cap := 0) h [] rfl rfl) ?_
    repeat (first | refine rs_ex rfl (by (first | (constructor <;> first | rfl | exact RdC.rd | exact inferInstance) | exact Ex.pickF rfl rfl | exact Ex.eqlS rfl rfl | exact Ex.neqS rfl rfl | exact Ex.eqlPN rfl rfl | exact Ex.neqPN rfl rfl | exact Ex.eqlSN rfl rfl | exact Ex.neqSN rfl rfl | exact Ex.lenStr rfl)) rfl ?_ | refine rs_skip rfl rfl ?_)
    refine rs_op rfl rfl (opR_append l rfl rfl (hr.mono fun w h => h.drop) rfl (by simp; omega) rfl ?_); intro p' cap' hv'
    repeat (first | refine rs_ex rfl (by (first | (constructor <;> first | rfl | exact RdC.rd | exact inferInstance) | exact Ex.pickF rfl rfl | exact Ex.eqlS rfl rfl | exact Ex.neqS rfl rfl | exact Ex.eqlPN rfl rfl | exact Ex.neqPN rfl rfl | exact Ex.eqlSN rfl rfl | exact Ex.neqSN rfl rfl | exact Ex.lenStr rfl)) rfl ?_ | refine rs_skip rfl rfl ?_)
    refine rs_end (qe_then (ct_ret (ret1 rfl rfl rfl)))

theorem Log_c (W0 : World) (b : Nat) (s : Book) (H : List Chunk) (hl : s.log.length ≤ 100000) : Call Try.prog W0 22 [.pointer (some ⟨b, 0, none⟩)] (BookC b s :: H) (fun v H' => H' = SlT 34 v s.log :: BookC b s :: H) := by
  refine Call.ex3 (fun w h => BookC.open h) ?_; intro lv wr nr
  refine Call.pr (fun w h => h.drop.slv) ?_; rintro ⟨p, cap, e, hv⟩
  cases e
  refine call_enter Try.func22 rfl Try.ntmps22 rfl ?_
  refine ct_seq (ct_region ?_)
  repeat (first | refine rs_ex rfl (by (first | (constructor <;> first | rfl | exact RdC.rd | exact inferInstance) | exact Ex.pickF rfl rfl | exact Ex.eqlS rfl rfl | exact Ex.neqS rfl rfl | exact Ex.eqlPN rfl rfl | exact Ex.neqPN rfl rfl | exact Ex.eqlSN rfl rfl | exact Ex.neqSN rfl rfl | exact Ex.lenStr rfl)) rfl ?_ | refine rs_skip rfl rfl ?_)
  refine rs_end (qe_then ?_)
  refine ct_seq ?_
  refine ct_seq (ct_region ?_)
  repeat (first | refine rs_ex rfl (by (first | (constructor <;> first | rfl | exact RdC.rd | exact inferInstance) | exact Ex.pickF rfl rfl | exact Ex.eqlS rfl rfl | exact Ex.neqS rfl rfl | exact Ex.eqlPN rfl rfl | exact Ex.neqPN rfl rfl | exact Ex.eqlSN rfl rfl | exact Ex.neqSN rfl rfl | exact Ex.lenStr rfl)) rfl ?_ | refine rs_skip rfl rfl ?_)
  refine rs_end (qe_then ?_)
  refine ct_cond rfl (fun h => by cases h) (fun h => ?_)
  refine ct_skip (qe_then ?_)
  refine ct_seq (ct_region ?_)
  repeat (first | refine rs_ex rfl (by (first | (constructor <;> first | rfl | exact RdC.rd | exact inferInstance) | exact Ex.pickF rfl rfl | exact Ex.eqlS rfl rfl | exact Ex.neqS rfl rfl | exact Ex.eqlPN rfl rfl | exact Ex.neqPN rfl rfl | exact Ex.eqlSN rfl rfl | exact Ex.neqSN rfl rfl | exact Ex.lenStr rfl)) rfl ?_ | refine rs_skip rfl rfl ?_)
  refine rs_op rfl rfl (opR_fn rfl ((Clone_c W0 p cap s.log _ ?_ ?_ hl).mono ?_))
  · intro e; rcases hv.sh with h | ⟨b, h⟩
    · exact h.2.2
    · rw [e] at h; cases h
  · exact RdS.slR (len := s.log.length) inferInstance hv
  · rintro v H' rfl
    repeat (first | refine rs_ex rfl (by (first | (constructor <;> first | rfl | exact RdC.rd | exact inferInstance) | exact Ex.pickF rfl rfl | exact Ex.eqlS rfl rfl | exact Ex.neqS rfl rfl | exact Ex.eqlPN rfl rfl | exact Ex.neqPN rfl rfl | exact Ex.eqlSN rfl rfl | exact Ex.neqSN rfl rfl | exact Ex.lenStr rfl)) rfl ?_ | refine rs_skip rfl rfl ?_)
    refine rs_end (qe_then (ct_ret (qe_heap (fun w h => ?_) (ret1 rfl rfl rfl))))
    exact (At.top [_, _] [1, 0] (BookC.shut (At.top [_, _, _, _, _] [1, 2, 3, 4, 0] h)))

theorem lookV_u32 (o : Option Int) : lookV u32V (.int .u32 0) o = .int .u32 (o.getD 0) := by cases o <;> rfl
theorem ex_lookNext {S : World → Prop} {σ : Env} {x y : Operand} {r : Nat} {m : List (Int × Int)} (hx : σ.val x = some (.map (some r))) (k : Int) (hy : σ.val y = some (.int .i64 k)) (hr : RdM S r Int Int intV u32V m) :
    Ex Try.prog S σ (.lookup 95 x y false) (.int .u32 ((look m k).getD 0)) := by
  have := ex_lookup (P := Try.prog) (T := 95) (ek := intV) hx k hy hr
  rw [lookV_u32] at this
  exact this
def Book.nextOf (s : Book) (f : Int) : Int := if f < 0 ∨ 16 ≤ f then 0 else IntKind.u32.wrap ((look s.next f).getD 0 + 1)
theorem Next_nil (W0 : World) (f : Int) (H : List Chunk) : Call Try.prog W0 25 [.pointer none, .int .i64 f] H (fun v H' => v = .int .u32 0 ∧ H' = H) := by
  refine call_enter Try.func25 rfl Try.ntmps25 rfl ?_
  refine ct_seq (ct_region ?_)
  repeat (first | refine rs_ex rfl (by (first | (constructor <;> first | rfl | exact RdC.rd | exact inferInstance) | exact Ex.pickF rfl rfl | exact Ex.eqlS rfl rfl | exact Ex.neqS rfl rfl | exact Ex.eqlPN rfl rfl | exact Ex.neqPN rfl rfl | exact Ex.eqlSN rfl rfl | exact Ex.neqSN rfl rfl | exact Ex.lenStr rfl)) rfl ?_ | refine rs_skip rfl rfl ?_)
  refine rs_end (qe_then ?_)
  refine ct_seq ?_
  refine ct_seq (ct_region ?_)
  repeat' (first | (first | refine rs_ex rfl (by (first | (constructor <;> first | rfl | exact RdC.rd | exact inferInstance) | exact Ex.pickF rfl rfl | exact Ex.eqlS rfl rfl | exact Ex.neqS rfl rfl | exact Ex.eqlPN rfl rfl | exact Ex.neqPN rfl rfl | exact Ex.eqlSN rfl rfl | exact Ex.neqSN rfl rfl | exact Ex.lenStr rfl)) rfl ?_ | refine rs_skip rfl rfl ?_) | (refine rs_split (fun h => ?_) (fun h => ?_) <;> (first | refine rs_ex rfl (by (first | (constructor <;> first | rfl | exact RdC.rd | exact inferInstance) | exact Ex.pickF rfl rfl | exact Ex.eqlS rfl rfl | exact Ex.neqS rfl rfl | exact Ex.eqlPN rfl rfl | exact Ex.neqPN rfl rfl | exact Ex.eqlSN rfl rfl | exact Ex.neqSN rfl rfl | exact Ex.lenStr rfl)) rfl ?_ | refine rs_skip rfl rfl ?_)))
  refine rs_end (qe_then ?_)
  refine ct_cond rfl (fun _ => ?_) (fun h => by cases h)
  refine ct_seq (ct_region ?_)
  repeat (first | refine rs_ex rfl (by (first | (constructor <;> first | rfl | exact RdC.rd | exact inferInstance) | exact Ex.pickF rfl rfl | exact Ex.eqlS rfl rfl | exact Ex.neqS rfl rfl | exact Ex.eqlPN rfl rfl | exact Ex.neqPN rfl rfl | exact Ex.eqlSN rfl rfl | exact Ex.neqSN rfl rfl | exact Ex.lenStr rfl)) rfl ?_ | refine rs_skip rfl rfl ?_)
  exact rs_end (qe_then (ct_ret (ret1 rfl rfl ⟨rfl, rfl⟩)))
theorem Next_c (W0 : World) (b : Nat) (s : Book) (f : Int) (H : List Chunk) : Call Try.prog W0 25 [.pointer (some ⟨b, 0, none⟩), .int .i64 f] (BookC b s :: H) (fun v H' => v = .int .u32 (s.nextOf f) ∧ H' = BookC b s :: H) := by
  refine Call.ex3 (fun w h => BookC.open h) ?_; intro lv wr nr
  refine call_enter Try.func25 rfl Try.ntmps25 rfl ?_
  refine ct_seq (ct_region ?_)
  repeat (first | refine rs_ex rfl (by (first | (constructor <;> first | rfl | exact RdC.rd | exact inferInstance) | exact Ex.pickF rfl rfl | exact Ex.eqlS rfl rfl | exact Ex.neqS rfl rfl | exact Ex.eqlPN rfl rfl | exact Ex.neqPN rfl rfl | exact Ex.eqlSN rfl rfl | exact Ex.neqSN rfl rfl | exact Ex.lenStr rfl)) rfl ?_ | refine rs_skip rfl rfl ?_)
  refine rs_end (qe_then ?_)
  refine ct_seq ?_
  refine ct_seq (ct_region ?_)
  repeat' (first | (first | refine rs_ex rfl (by (first | (constructor <;> first | rfl | exact RdC.rd | exact inferInstance) | exact Ex.pickF rfl rfl | exact Ex.eqlS rfl rfl | exact Ex.neqS rfl rfl | exact Ex.eqlPN rfl rfl | exact Ex.neqPN rfl rfl | exact Ex.eqlSN rfl rfl | exact Ex.neqSN rfl rfl | exact Ex.lenStr rfl)) rfl ?_ | refine rs_skip rfl rfl ?_) | (refine rs_split (fun h => ?_) (fun h => ?_) <;> (first | refine rs_ex rfl (by (first | (constructor <;> first | rfl | exact RdC.rd | exact inferInstance) | exact Ex.pickF rfl rfl | exact Ex.eqlS rfl rfl | exact Ex.neqS rfl rfl | exact Ex.eqlPN rfl rfl | exact Ex.neqPN rfl rfl | exact Ex.eqlSN rfl rfl | exact Ex.neqSN rfl rfl | exact Ex.lenStr rfl)) rfl ?_ | refine rs_skip rfl rfl ?_)))
  all_goals
    refine rs_end (qe_then ?_)
    refine ct_cond rfl (fun hc => ?_) (fun hc => ?_)
  all_goals try (exfalso; simp_all; done)
  all_goals try (
    refine ct_seq (ct_region ?_)
    repeat (first | refine rs_ex rfl (by (first | (constructor <;> first | rfl | exact RdC.rd | exact inferInstance) | exact Ex.pickF rfl rfl | exact Ex.eqlS rfl rfl | exact Ex.neqS rfl rfl | exact Ex.eqlPN rfl rfl | exact Ex.neqPN rfl rfl | exact Ex.eqlSN rfl rfl | exact Ex.neqSN rfl rfl | exact Ex.lenStr rfl)) rfl ?_ | refine rs_skip rfl rfl ?_)
    refine rs_end (qe_then (ct_ret (qe_heap (fun w h => BookC.shut h) ?_)))
    refine ret1 rfl rfl ⟨?_, rfl⟩
    have : f < 0 ∨ 16 ≤ f := by simp_all <;> omega
    rw [Book.nextOf, if_pos this])
  refine ct_skip (qe_then ?_)
  refine ct_seq (ct_region ?_)
  repeat (first | refine rs_ex rfl (by (first | (constructor <;> first | rfl | exact RdC.rd | exact inferInstance) | exact Ex.pickF rfl rfl | exact Ex.eqlS rfl rfl | exact Ex.neqS rfl rfl | exact Ex.eqlPN rfl rfl | exact Ex.neqPN rfl rfl | exact Ex.eqlSN rfl rfl | exact Ex.neqSN rfl rfl | exact Ex.lenStr rfl)) rfl ?_ | refine rs_skip rfl rfl ?_)
  refine rs_ex rfl (ex_lookup (ek := intV) rfl f rfl inferInstance) rfl ?_
  refine rs_rw (lookV_u32 _) ?_
  repeat (first | refine rs_ex rfl (by (first | (constructor <;> first | rfl | exact RdC.rd | exact inferInstance) | exact Ex.pickF rfl rfl | exact Ex.eqlS rfl rfl | exact Ex.neqS rfl rfl | exact Ex.eqlPN rfl rfl | exact Ex.neqPN rfl rfl | exact Ex.eqlSN rfl rfl | exact Ex.neqSN rfl rfl | exact Ex.lenStr rfl)) rfl ?_ | refine rs_skip rfl rfl ?_)
  refine rs_end (qe_then (ct_ret (qe_heap (fun w h => BookC.shut h) ?_)))
  refine ret1 rfl rfl ⟨?_, rfl⟩
  have : ¬ (f < 0 ∨ 16 ≤ f) := by simp_all
  rw [Book.nextOf, if_neg this]

def Msg.zero : Msg := ⟨⟨0, 0⟩, ⟨#[]⟩⟩
theorem ex_lookM {S : World → Prop} {σ : Env} {x y : Operand} {r : Nat} {m : List (Id × Msg)} (hx : σ.val x = some (.map (some r))) (k : Id) (hy : σ.val y = some k.v) (hr : RdM S r Id Msg Id.v Msg.v m) :
    Ex Try.prog S σ (.lookup 94 x y true) (.tuple #[((look m k).getD Msg.zero).v, .bool (look m k).isSome]) := by
  have := ex_lookup_ok (P := Try.prog) (T := 94) hx k hy hr
  have e : ∀ o : Option Msg, lookV Msg.v (.agg #[.int .i64 0, .int .u32 0, .string ⟨#[]⟩]) o = (o.getD Msg.zero).v := fun o => by cases o <;> rfl
  rw [e] at this
  exact this
def Book.has (s : Book) (i : Id) : Bool := (look s.waits i).isSome || (decide (0 < i.count) && decide (i.count < s.nextOf i.from_))
theorem Has_nil (W0 : World) (i : Id) (H : List Chunk) : Call Try.prog W0 24 [.pointer none, i.v] H (fun v H' => v = .bool false ∧ H' = H) := by
  refine call_enter Try.func24 rfl Try.ntmps24 rfl ?_
  refine ct_seq (ct_region ?_)
  refine rs_op rfl rfl (opR_box rfl ?_); intro bx
  repeat (first | refine rs_ex rfl (by (first | (constructor <;> first | rfl | exact RdC.rd | exact inferInstance) | exact Ex.pickF rfl rfl | exact Ex.eqlS rfl rfl | exact Ex.neqS rfl rfl | exact Ex.eqlPN rfl rfl | exact Ex.neqPN rfl rfl | exact Ex.eqlSN rfl rfl | exact Ex.neqSN rfl rfl | exact Ex.lenStr rfl)) rfl ?_ | refine rs_skip rfl rfl ?_)
  refine rs_end (qe_then ?_)
  refine ct_seq ?_
  refine ct_seq (ct_region ?_)
  repeat (first | refine rs_ex rfl (by (first | (constructor <;> first | rfl | exact RdC.rd | exact inferInstance) | exact Ex.pickF rfl rfl | exact Ex.eqlS rfl rfl | exact Ex.neqS rfl rfl | exact Ex.eqlPN rfl rfl | exact Ex.neqPN rfl rfl | exact Ex.eqlSN rfl rfl | exact Ex.neqSN rfl rfl | exact Ex.lenStr rfl)) rfl ?_ | refine rs_skip rfl rfl ?_)
  refine rs_end (qe_then ?_)
  refine ct_cond rfl (fun _ => ?_) (fun h => by cases h)
  refine ct_seq (ct_region ?_)
  repeat (first | refine rs_ex rfl (by (first | (constructor <;> first | rfl | exact RdC.rd | exact inferInstance) | exact Ex.pickF rfl rfl | exact Ex.eqlS rfl rfl | exact Ex.neqS rfl rfl | exact Ex.eqlPN rfl rfl | exact Ex.neqPN rfl rfl | exact Ex.eqlSN rfl rfl | exact Ex.neqSN rfl rfl | exact Ex.lenStr rfl)) rfl ?_ | refine rs_skip rfl rfl ?_)
  exact rs_end (qe_then (ct_ret (qe_heap (fun w h => h.drop) (ret1 rfl rfl ⟨rfl, rfl⟩))))
theorem Has_c (W0 : World) (b : Nat) (s : Book) (i : Id) (H : List Chunk) : Call Try.prog W0 24 [.pointer (some ⟨b, 0, none⟩), i.v] (BookC b s :: H) (fun v H' => v = .bool (s.has i) ∧ H' = BookC b s :: H) := by
  refine Call.ex3 (fun w h => BookC.open h) ?_; intro lv wr nr
  refine call_enter Try.func24 rfl Try.ntmps24 rfl ?_
  refine ct_seq (ct_region ?_)
  refine rs_op rfl rfl (opR_box rfl ?_); intro bx
  repeat (first | refine rs_ex rfl (by (first | (constructor <;> first | rfl | exact RdC.rd | exact inferInstance) | exact Ex.pickF rfl rfl | exact Ex.eqlS rfl rfl | exact Ex.neqS rfl rfl | exact Ex.eqlPN rfl rfl | exact Ex.neqPN rfl rfl | exact Ex.eqlSN rfl rfl | exact Ex.neqSN rfl rfl | exact Ex.lenStr rfl)) rfl ?_ | refine rs_skip rfl rfl ?_)
  refine rs_end (qe_then ?_)
  refine ct_seq ?_
  refine ct_seq (ct_region ?_)
  repeat (first | refine rs_ex rfl (by (first | (constructor <;> first | rfl | exact RdC.rd | exact inferInstance) | exact Ex.pickF rfl rfl | exact Ex.eqlS rfl rfl | exact Ex.neqS rfl rfl | exact Ex.eqlPN rfl rfl | exact Ex.neqPN rfl rfl | exact Ex.eqlSN rfl rfl | exact Ex.neqSN rfl rfl | exact Ex.lenStr rfl)) rfl ?_ | refine rs_skip rfl rfl ?_)
  refine rs_end (qe_then ?_)
  refine ct_cond rfl (fun h => by cases h) (fun _ => ?_)
  refine ct_skip (qe_then ?_)
  refine ct_seq (ct_draw0 (by kernel_rfl) ?_)
  refine ra_take 0 rfl (by kernel_rfl) (by kernel_rfl) rfl (by (first | (constructor <;> first | rfl | exact RdC.rd | exact inferInstance) | exact Ex.pickF rfl rfl | exact Ex.eqlS rfl rfl | exact Ex.neqS rfl rfl | exact Ex.eqlPN rfl rfl | exact Ex.neqPN rfl rfl | exact Ex.eqlSN rfl rfl | exact Ex.neqSN rfl rfl | exact Ex.lenStr rfl)) rfl (by first | exact fun _ h => h | exact fun _ h => h.drop | exact fun _ h => h.drop.drop | exact fun _ h => h.drop.drop.drop | exact fun _ h => h.drop.drop.drop.drop | exact fun _ h => h.drop.drop.drop.drop.drop | exact fun _ h => h.drop.drop.drop.drop.drop.drop | exact fun _ h => h.drop.drop.drop.drop.drop.drop.drop | exact fun _ h => h.drop.drop.drop.drop.drop.drop.drop.drop) ?_
  refine ra_take 1 rfl (by kernel_rfl) (by kernel_rfl) rfl (by (first | (constructor <;> first | rfl | exact RdC.rd | exact inferInstance) | exact Ex.pickF rfl rfl | exact Ex.eqlS rfl rfl | exact Ex.neqS rfl rfl | exact Ex.eqlPN rfl rfl | exact Ex.neqPN rfl rfl | exact Ex.eqlSN rfl rfl | exact Ex.neqSN rfl rfl | exact Ex.lenStr rfl)) rfl (by first | exact fun _ h => h | exact fun _ h => h.drop | exact fun _ h => h.drop.drop | exact fun _ h => h.drop.drop.drop | exact fun _ h => h.drop.drop.drop.drop | exact fun _ h => h.drop.drop.drop.drop.drop | exact fun _ h => h.drop.drop.drop.drop.drop.drop | exact fun _ h => h.drop.drop.drop.drop.drop.drop.drop | exact fun _ h => h.drop.drop.drop.drop.drop.drop.drop.drop) ?_
  refine ra_take 2 rfl (by kernel_rfl) (by kernel_rfl) rfl (by (first | (constructor <;> first | rfl | exact RdC.rd | exact inferInstance) | exact Ex.pickF rfl rfl | exact Ex.eqlS rfl rfl | exact Ex.neqS rfl rfl | exact Ex.eqlPN rfl rfl | exact Ex.neqPN rfl rfl | exact Ex.eqlSN rfl rfl | exact Ex.neqSN rfl rfl | exact Ex.lenStr rfl)) rfl (by first | exact fun _ h => h | exact fun _ h => h.drop | exact fun _ h => h.drop.drop | exact fun _ h => h.drop.drop.drop | exact fun _ h => h.drop.drop.drop.drop | exact fun _ h => h.drop.drop.drop.drop.drop | exact fun _ h => h.drop.drop.drop.drop.drop.drop | exact fun _ h => h.drop.drop.drop.drop.drop.drop.drop | exact fun _ h => h.drop.drop.drop.drop.drop.drop.drop.drop) ?_
  refine ra_take 3 rfl (by kernel_rfl) (by kernel_rfl) rfl (by (first | (constructor <;> first | rfl | exact RdC.rd | exact inferInstance) | exact Ex.pickF rfl rfl | exact Ex.eqlS rfl rfl | exact Ex.neqS rfl rfl | exact Ex.eqlPN rfl rfl | exact Ex.neqPN rfl rfl | exact Ex.eqlSN rfl rfl | exact Ex.neqSN rfl rfl | exact Ex.lenStr rfl)) rfl (by first | exact fun _ h => h | exact fun _ h => h.drop | exact fun _ h => h.drop.drop | exact fun _ h => h.drop.drop.drop | exact fun _ h => h.drop.drop.drop.drop | exact fun _ h => h.drop.drop.drop.drop.drop | exact fun _ h => h.drop.drop.drop.drop.drop.drop | exact fun _ h => h.drop.drop.drop.drop.drop.drop.drop | exact fun _ h => h.drop.drop.drop.drop.drop.drop.drop.drop) ?_
  refine ra_take 4 rfl (by kernel_rfl) (by kernel_rfl) rfl (by (first | (constructor <;> first | rfl | exact RdC.rd | exact inferInstance) | exact Ex.pickF rfl rfl | exact Ex.eqlS rfl rfl | exact Ex.neqS rfl rfl | exact Ex.eqlPN rfl rfl | exact Ex.neqPN rfl rfl | exact Ex.eqlSN rfl rfl | exact Ex.neqSN rfl rfl | exact Ex.lenStr rfl)) rfl (by first | exact fun _ h => h | exact fun _ h => h.drop | exact fun _ h => h.drop.drop | exact fun _ h => h.drop.drop.drop | exact fun _ h => h.drop.drop.drop.drop | exact fun _ h => h.drop.drop.drop.drop.drop | exact fun _ h => h.drop.drop.drop.drop.drop.drop | exact fun _ h => h.drop.drop.drop.drop.drop.drop.drop | exact fun _ h => h.drop.drop.drop.drop.drop.drop.drop.drop) ?_
  refine ra_take 5 rfl (by kernel_rfl) (by kernel_rfl) rfl (ex_lookM rfl i rfl inferInstance) rfl (by first | exact fun _ h => h | exact fun _ h => h.drop | exact fun _ h => h.drop.drop | exact fun _ h => h.drop.drop.drop | exact fun _ h => h.drop.drop.drop.drop | exact fun _ h => h.drop.drop.drop.drop.drop | exact fun _ h => h.drop.drop.drop.drop.drop.drop | exact fun _ h => h.drop.drop.drop.drop.drop.drop.drop | exact fun _ h => h.drop.drop.drop.drop.drop.drop.drop.drop) ?_
  refine ra_take 6 rfl (by kernel_rfl) (by kernel_rfl) rfl (by (first | (constructor <;> first | rfl | exact RdC.rd | exact inferInstance) | exact Ex.pickF rfl rfl | exact Ex.eqlS rfl rfl | exact Ex.neqS rfl rfl | exact Ex.eqlPN rfl rfl | exact Ex.neqPN rfl rfl | exact Ex.eqlSN rfl rfl | exact Ex.neqSN rfl rfl | exact Ex.lenStr rfl)) rfl (by first | exact fun _ h => h | exact fun _ h => h.drop | exact fun _ h => h.drop.drop | exact fun _ h => h.drop.drop.drop | exact fun _ h => h.drop.drop.drop.drop | exact fun _ h => h.drop.drop.drop.drop.drop | exact fun _ h => h.drop.drop.drop.drop.drop.drop | exact fun _ h => h.drop.drop.drop.drop.drop.drop.drop | exact fun _ h => h.drop.drop.drop.drop.drop.drop.drop.drop) ?_
  refine ra_take 7 rfl (by kernel_rfl) (by kernel_rfl) rfl (by (first | (constructor <;> first | rfl | exact RdC.rd | exact inferInstance) | exact Ex.pickF rfl rfl | exact Ex.eqlS rfl rfl | exact Ex.neqS rfl rfl | exact Ex.eqlPN rfl rfl | exact Ex.neqPN rfl rfl | exact Ex.eqlSN rfl rfl | exact Ex.neqSN rfl rfl | exact Ex.lenStr rfl)) rfl (by first | exact fun _ h => h | exact fun _ h => h.drop | exact fun _ h => h.drop.drop | exact fun _ h => h.drop.drop.drop | exact fun _ h => h.drop.drop.drop.drop | exact fun _ h => h.drop.drop.drop.drop.drop | exact fun _ h => h.drop.drop.drop.drop.drop.drop | exact fun _ h => h.drop.drop.drop.drop.drop.drop.drop | exact fun _ h => h.drop.drop.drop.drop.drop.drop.drop.drop) ?_
  refine ra_take 8 rfl (by kernel_rfl) (by kernel_rfl) rfl (by (first | (constructor <;> first | rfl | exact RdC.rd | exact inferInstance) | exact Ex.pickF rfl rfl | exact Ex.eqlS rfl rfl | exact Ex.neqS rfl rfl | exact Ex.eqlPN rfl rfl | exact Ex.neqPN rfl rfl | exact Ex.eqlSN rfl rfl | exact Ex.neqSN rfl rfl | exact Ex.lenStr rfl)) rfl (by first | exact fun _ h => h | exact fun _ h => h.drop | exact fun _ h => h.drop.drop | exact fun _ h => h.drop.drop.drop | exact fun _ h => h.drop.drop.drop.drop | exact fun _ h => h.drop.drop.drop.drop.drop | exact fun _ h => h.drop.drop.drop.drop.drop.drop | exact fun _ h => h.drop.drop.drop.drop.drop.drop.drop | exact fun _ h => h.drop.drop.drop.drop.drop.drop.drop.drop) ?_
  refine ra_all (rs := [9]) (by kernel_rfl) rfl ?_
  refine each_op rfl rfl rfl (opR_alloc fun wb => ⟨.inr (by first | exact fun _ h => h | exact fun _ h => h.drop | exact fun _ h => h.drop.drop | exact fun _ h => h.drop.drop.drop | exact fun _ h => h.drop.drop.drop.drop | exact fun _ h => h.drop.drop.drop.drop.drop | exact fun _ h => h.drop.drop.drop.drop.drop.drop | exact fun _ h => h.drop.drop.drop.drop.drop.drop.drop | exact fun _ h => h.drop.drop.drop.drop.drop.drop.drop.drop), ?_⟩) each_nil
  refine ra_all (rs := [10]) (by kernel_rfl) rfl ?_
  refine each_opN rfl rfl (opR_store rfl rfl rfl rfl ⟨.inr (by first | exact fun _ h => h | exact fun _ h => h.drop | exact fun _ h => h.drop.drop | exact fun _ h => h.drop.drop.drop | exact fun _ h => h.drop.drop.drop.drop | exact fun _ h => h.drop.drop.drop.drop.drop | exact fun _ h => h.drop.drop.drop.drop.drop.drop | exact fun _ h => h.drop.drop.drop.drop.drop.drop.drop | exact fun _ h => h.drop.drop.drop.drop.drop.drop.drop.drop), ?_⟩) each_nil
  refine ra_take 11 rfl (by kernel_rfl) (by kernel_rfl) rfl (by (first | (constructor <;> first | rfl | exact RdC.rd | exact inferInstance) | exact Ex.pickF rfl rfl | exact Ex.eqlS rfl rfl | exact Ex.neqS rfl rfl | exact Ex.eqlPN rfl rfl | exact Ex.neqPN rfl rfl | exact Ex.eqlSN rfl rfl | exact Ex.neqSN rfl rfl | exact Ex.lenStr rfl)) rfl (by first | exact fun _ h => h | exact fun _ h => h.drop | exact fun _ h => h.drop.drop | exact fun _ h => h.drop.drop.drop | exact fun _ h => h.drop.drop.drop.drop | exact fun _ h => h.drop.drop.drop.drop.drop | exact fun _ h => h.drop.drop.drop.drop.drop.drop | exact fun _ h => h.drop.drop.drop.drop.drop.drop.drop | exact fun _ h => h.drop.drop.drop.drop.drop.drop.drop.drop) ?_
  refine ra_end (by kernel_rfl) (qe_then ?_)
  refine ct_heap (H' := Blk bx (.cells #[.int .i64 i.from_, .int .u32 i.count] 32 (0, 0)) :: BookC b s :: H) (fun w h => At.top [_, _] [1, 0] (BookC.shut (At.top [_, _, _, _, _] [1, 2, 3, 4, 0] h.drop))) ?_
  refine ct_sub (τ := [(0, .pointer (some ⟨b, 0, none⟩)), (3, .pointer (some ⟨bx, 0, none⟩)), (6, .bool (look s.waits i).isSome)]) ⟨rfl, rfl, rfl, trivial⟩ ?_
  refine ct_seq (ct_draw0 (by kernel_rfl) ?_)
  refine ra_take 0 rfl (by kernel_rfl) (by kernel_rfl) rfl (by (first | (constructor <;> first | rfl | exact RdC.rd | exact inferInstance) | exact Ex.pickF rfl rfl | exact Ex.eqlS rfl rfl | exact Ex.neqS rfl rfl | exact Ex.eqlPN rfl rfl | exact Ex.neqPN rfl rfl | exact Ex.eqlSN rfl rfl | exact Ex.neqSN rfl rfl | exact Ex.lenStr rfl)) rfl (by first | exact fun _ h => h | exact fun _ h => h.drop | exact fun _ h => h.drop.drop | exact fun _ h => h.drop.drop.drop | exact fun _ h => h.drop.drop.drop.drop | exact fun _ h => h.drop.drop.drop.drop.drop | exact fun _ h => h.drop.drop.drop.drop.drop.drop | exact fun _ h => h.drop.drop.drop.drop.drop.drop.drop | exact fun _ h => h.drop.drop.drop.drop.drop.drop.drop.drop) ?_
  refine ra_take 1 rfl (by kernel_rfl) (by kernel_rfl) rfl (by (first | (constructor <;> first | rfl | exact RdC.rd | exact inferInstance) | exact Ex.pickF rfl rfl | exact Ex.eqlS rfl rfl | exact Ex.neqS rfl rfl | exact Ex.eqlPN rfl rfl | exact Ex.neqPN rfl rfl | exact Ex.eqlSN rfl rfl | exact Ex.neqSN rfl rfl | exact Ex.lenStr rfl)) rfl (by first | exact fun _ h => h | exact fun _ h => h.drop | exact fun _ h => h.drop.drop | exact fun _ h => h.drop.drop.drop | exact fun _ h => h.drop.drop.drop.drop | exact fun _ h => h.drop.drop.drop.drop.drop | exact fun _ h => h.drop.drop.drop.drop.drop.drop | exact fun _ h => h.drop.drop.drop.drop.drop.drop.drop | exact fun _ h => h.drop.drop.drop.drop.drop.drop.drop.drop) ?_
  refine ra_split (fun h1 => ?_) (fun h1 => ?_)
  · refine ra_skip 2 rfl (by kernel_rfl) (by kernel_rfl) rfl rfl (by first | exact fun _ h => h | exact fun _ h => h.drop | exact fun _ h => h.drop.drop | exact fun _ h => h.drop.drop.drop | exact fun _ h => h.drop.drop.drop.drop | exact fun _ h => h.drop.drop.drop.drop.drop | exact fun _ h => h.drop.drop.drop.drop.drop.drop | exact fun _ h => h.drop.drop.drop.drop.drop.drop.drop | exact fun _ h => h.drop.drop.drop.drop.drop.drop.drop.drop) ?_
    refine ra_skip 3 rfl (by kernel_rfl) (by kernel_rfl) rfl rfl (by first | exact fun _ h => h | exact fun _ h => h.drop | exact fun _ h => h.drop.drop | exact fun _ h => h.drop.drop.drop | exact fun _ h => h.drop.drop.drop.drop | exact fun _ h => h.drop.drop.drop.drop.drop | exact fun _ h => h.drop.drop.drop.drop.drop.drop | exact fun _ h => h.drop.drop.drop.drop.drop.drop.drop | exact fun _ h => h.drop.drop.drop.drop.drop.drop.drop.drop) ?_
    refine ra_skip 4 rfl (by kernel_rfl) (by kernel_rfl) rfl rfl (by first | exact fun _ h => h | exact fun _ h => h.drop | exact fun _ h => h.drop.drop | exact fun _ h => h.drop.drop.drop | exact fun _ h => h.drop.drop.drop.drop | exact fun _ h => h.drop.drop.drop.drop.drop | exact fun _ h => h.drop.drop.drop.drop.drop.drop | exact fun _ h => h.drop.drop.drop.drop.drop.drop.drop | exact fun _ h => h.drop.drop.drop.drop.drop.drop.drop.drop) ?_
    refine ra_skip 5 rfl (by kernel_rfl) (by kernel_rfl) rfl rfl (by first | exact fun _ h => h | exact fun _ h => h.drop | exact fun _ h => h.drop.drop | exact fun _ h => h.drop.drop.drop | exact fun _ h => h.drop.drop.drop.drop | exact fun _ h => h.drop.drop.drop.drop.drop | exact fun _ h => h.drop.drop.drop.drop.drop.drop | exact fun _ h => h.drop.drop.drop.drop.drop.drop.drop | exact fun _ h => h.drop.drop.drop.drop.drop.drop.drop.drop) ?_
    refine ra_skip 6 rfl (by kernel_rfl) (by kernel_rfl) rfl rfl (by first | exact fun _ h => h | exact fun _ h => h.drop | exact fun _ h => h.drop.drop | exact fun _ h => h.drop.drop.drop | exact fun _ h => h.drop.drop.drop.drop | exact fun _ h => h.drop.drop.drop.drop.drop | exact fun _ h => h.drop.drop.drop.drop.drop.drop | exact fun _ h => h.drop.drop.drop.drop.drop.drop.drop | exact fun _ h => h.drop.drop.drop.drop.drop.drop.drop.drop) ?_
    refine ra_skip 7 rfl (by kernel_rfl) (by kernel_rfl) rfl rfl (by first | exact fun _ h => h | exact fun _ h => h.drop | exact fun _ h => h.drop.drop | exact fun _ h => h.drop.drop.drop | exact fun _ h => h.drop.drop.drop.drop | exact fun _ h => h.drop.drop.drop.drop.drop | exact fun _ h => h.drop.drop.drop.drop.drop.drop | exact fun _ h => h.drop.drop.drop.drop.drop.drop.drop | exact fun _ h => h.drop.drop.drop.drop.drop.drop.drop.drop) ?_
    refine ra_skip 8 rfl (by kernel_rfl) (by kernel_rfl) rfl rfl (by first | exact fun _ h => h | exact fun _ h => h.drop | exact fun _ h => h.drop.drop | exact fun _ h => h.drop.drop.drop | exact fun _ h => h.drop.drop.drop.drop | exact fun _ h => h.drop.drop.drop.drop.drop | exact fun _ h => h.drop.drop.drop.drop.drop.drop | exact fun _ h => h.drop.drop.drop.drop.drop.drop.drop | exact fun _ h => h.drop.drop.drop.drop.drop.drop.drop.drop) ?_
    refine ra_skip 9 rfl (by kernel_rfl) (by kernel_rfl) rfl rfl (by first | exact fun _ h => h | exact fun _ h => h.drop | exact fun _ h => h.drop.drop | exact fun _ h => h.drop.drop.drop | exact fun _ h => h.drop.drop.drop.drop | exact fun _ h => h.drop.drop.drop.drop.drop | exact fun _ h => h.drop.drop.drop.drop.drop.drop | exact fun _ h => h.drop.drop.drop.drop.drop.drop.drop | exact fun _ h => h.drop.drop.drop.drop.drop.drop.drop.drop) ?_
    refine ra_skip 10 rfl (by kernel_rfl) (by kernel_rfl) rfl rfl (by first | exact fun _ h => h | exact fun _ h => h.drop | exact fun _ h => h.drop.drop | exact fun _ h => h.drop.drop.drop | exact fun _ h => h.drop.drop.drop.drop | exact fun _ h => h.drop.drop.drop.drop.drop | exact fun _ h => h.drop.drop.drop.drop.drop.drop | exact fun _ h => h.drop.drop.drop.drop.drop.drop.drop | exact fun _ h => h.drop.drop.drop.drop.drop.drop.drop.drop) ?_
    refine ra_skip 11 rfl (by kernel_rfl) (by kernel_rfl) rfl rfl (by first | exact fun _ h => h | exact fun _ h => h.drop | exact fun _ h => h.drop.drop | exact fun _ h => h.drop.drop.drop | exact fun _ h => h.drop.drop.drop.drop | exact fun _ h => h.drop.drop.drop.drop.drop | exact fun _ h => h.drop.drop.drop.drop.drop.drop | exact fun _ h => h.drop.drop.drop.drop.drop.drop.drop | exact fun _ h => h.drop.drop.drop.drop.drop.drop.drop.drop) ?_
    refine ra_skip 12 rfl (by kernel_rfl) (by kernel_rfl) rfl rfl (by first | exact fun _ h => h | exact fun _ h => h.drop | exact fun _ h => h.drop.drop | exact fun _ h => h.drop.drop.drop | exact fun _ h => h.drop.drop.drop.drop | exact fun _ h => h.drop.drop.drop.drop.drop | exact fun _ h => h.drop.drop.drop.drop.drop.drop | exact fun _ h => h.drop.drop.drop.drop.drop.drop.drop | exact fun _ h => h.drop.drop.drop.drop.drop.drop.drop.drop) ?_
    refine ra_skip 13 rfl (by kernel_rfl) (by kernel_rfl) rfl rfl (by first | exact fun _ h => h | exact fun _ h => h.drop | exact fun _ h => h.drop.drop | exact fun _ h => h.drop.drop.drop | exact fun _ h => h.drop.drop.drop.drop | exact fun _ h => h.drop.drop.drop.drop.drop | exact fun _ h => h.drop.drop.drop.drop.drop.drop | exact fun _ h => h.drop.drop.drop.drop.drop.drop.drop | exact fun _ h => h.drop.drop.drop.drop.drop.drop.drop.drop) ?_
    refine ra_take 14 rfl (by kernel_rfl) (by kernel_rfl) rfl (by (first | (constructor <;> first | rfl | exact RdC.rd | exact inferInstance) | exact Ex.pickF rfl rfl | exact Ex.eqlS rfl rfl | exact Ex.neqS rfl rfl | exact Ex.eqlPN rfl rfl | exact Ex.neqPN rfl rfl | exact Ex.eqlSN rfl rfl | exact Ex.neqSN rfl rfl | exact Ex.lenStr rfl)) rfl (by first | exact fun _ h => h | exact fun _ h => h.drop | exact fun _ h => h.drop.drop | exact fun _ h => h.drop.drop.drop | exact fun _ h => h.drop.drop.drop.drop | exact fun _ h => h.drop.drop.drop.drop.drop | exact fun _ h => h.drop.drop.drop.drop.drop.drop | exact fun _ h => h.drop.drop.drop.drop.drop.drop.drop | exact fun _ h => h.drop.drop.drop.drop.drop.drop.drop.drop) ?_
    refine ra_take 15 rfl (by kernel_rfl) (by kernel_rfl) rfl (by (first | (constructor <;> first | rfl | exact RdC.rd | exact inferInstance) | exact Ex.pickF rfl rfl | exact Ex.eqlS rfl rfl | exact Ex.neqS rfl rfl | exact Ex.eqlPN rfl rfl | exact Ex.neqPN rfl rfl | exact Ex.eqlSN rfl rfl | exact Ex.neqSN rfl rfl | exact Ex.lenStr rfl)) rfl (by first | exact fun _ h => h | exact fun _ h => h.drop | exact fun _ h => h.drop.drop | exact fun _ h => h.drop.drop.drop | exact fun _ h => h.drop.drop.drop.drop | exact fun _ h => h.drop.drop.drop.drop.drop | exact fun _ h => h.drop.drop.drop.drop.drop.drop | exact fun _ h => h.drop.drop.drop.drop.drop.drop.drop | exact fun _ h => h.drop.drop.drop.drop.drop.drop.drop.drop) ?_
    refine ra_end (by kernel_rfl) (qe_then (ct_ret (qe_heap (fun w h => h.drop) ?_)))
    refine ret1 rfl rfl ⟨?_, rfl⟩
    simp [Book.has, h1]
  · refine ra_take 2 rfl (by kernel_rfl) (by kernel_rfl) rfl (by (first | (constructor <;> first | rfl | exact RdC.rd | exact inferInstance) | exact Ex.pickF rfl rfl | exact Ex.eqlS rfl rfl | exact Ex.neqS rfl rfl | exact Ex.eqlPN rfl rfl | exact Ex.neqPN rfl rfl | exact Ex.eqlSN rfl rfl | exact Ex.neqSN rfl rfl | exact Ex.lenStr rfl)) rfl (by first | exact fun _ h => h | exact fun _ h => h.drop | exact fun _ h => h.drop.drop | exact fun _ h => h.drop.drop.drop | exact fun _ h => h.drop.drop.drop.drop | exact fun _ h => h.drop.drop.drop.drop.drop | exact fun _ h => h.drop.drop.drop.drop.drop.drop | exact fun _ h => h.drop.drop.drop.drop.drop.drop.drop | exact fun _ h => h.drop.drop.drop.drop.drop.drop.drop.drop) ?_
    refine ra_take 3 rfl (by kernel_rfl) (by kernel_rfl) rfl (by (first | (constructor <;> first | rfl | exact RdC.rd | exact inferInstance) | exact Ex.pickF rfl rfl | exact Ex.eqlS rfl rfl | exact Ex.neqS rfl rfl | exact Ex.eqlPN rfl rfl | exact Ex.neqPN rfl rfl | exact Ex.eqlSN rfl rfl | exact Ex.neqSN rfl rfl | exact Ex.lenStr rfl)) rfl (by first | exact fun _ h => h | exact fun _ h => h.drop | exact fun _ h => h.drop.drop | exact fun _ h => h.drop.drop.drop | exact fun _ h => h.drop.drop.drop.drop | exact fun _ h => h.drop.drop.drop.drop.drop | exact fun _ h => h.drop.drop.drop.drop.drop.drop | exact fun _ h => h.drop.drop.drop.drop.drop.drop.drop | exact fun _ h => h.drop.drop.drop.drop.drop.drop.drop.drop) ?_
    refine ra_take 4 rfl (by kernel_rfl) (by kernel_rfl) rfl (by (first | (constructor <;> first | rfl | exact RdC.rd | exact inferInstance) | exact Ex.pickF rfl rfl | exact Ex.eqlS rfl rfl | exact Ex.neqS rfl rfl | exact Ex.eqlPN rfl rfl | exact Ex.neqPN rfl rfl | exact Ex.eqlSN rfl rfl | exact Ex.neqSN rfl rfl | exact Ex.lenStr rfl)) rfl (by first | exact fun _ h => h | exact fun _ h => h.drop | exact fun _ h => h.drop.drop | exact fun _ h => h.drop.drop.drop | exact fun _ h => h.drop.drop.drop.drop | exact fun _ h => h.drop.drop.drop.drop.drop | exact fun _ h => h.drop.drop.drop.drop.drop.drop | exact fun _ h => h.drop.drop.drop.drop.drop.drop.drop | exact fun _ h => h.drop.drop.drop.drop.drop.drop.drop.drop) ?_
    refine ra_take 5 rfl (by kernel_rfl) (by kernel_rfl) rfl (by (first | (constructor <;> first | rfl | exact RdC.rd | exact inferInstance) | exact Ex.pickF rfl rfl | exact Ex.eqlS rfl rfl | exact Ex.neqS rfl rfl | exact Ex.eqlPN rfl rfl | exact Ex.neqPN rfl rfl | exact Ex.eqlSN rfl rfl | exact Ex.neqSN rfl rfl | exact Ex.lenStr rfl)) rfl (by first | exact fun _ h => h | exact fun _ h => h.drop | exact fun _ h => h.drop.drop | exact fun _ h => h.drop.drop.drop | exact fun _ h => h.drop.drop.drop.drop | exact fun _ h => h.drop.drop.drop.drop.drop | exact fun _ h => h.drop.drop.drop.drop.drop.drop | exact fun _ h => h.drop.drop.drop.drop.drop.drop.drop | exact fun _ h => h.drop.drop.drop.drop.drop.drop.drop.drop) ?_
    refine ra_split (fun h2 => ?_) (fun h2 => ?_)
    · refine ra_take 6 rfl (by kernel_rfl) (by kernel_rfl) rfl (by (first | (constructor <;> first | rfl | exact RdC.rd | exact inferInstance) | exact Ex.pickF rfl rfl | exact Ex.eqlS rfl rfl | exact Ex.neqS rfl rfl | exact Ex.eqlPN rfl rfl | exact Ex.neqPN rfl rfl | exact Ex.eqlSN rfl rfl | exact Ex.neqSN rfl rfl | exact Ex.lenStr rfl)) rfl (by first | exact fun _ h => h | exact fun _ h => h.drop | exact fun _ h => h.drop.drop | exact fun _ h => h.drop.drop.drop | exact fun _ h => h.drop.drop.drop.drop | exact fun _ h => h.drop.drop.drop.drop.drop | exact fun _ h => h.drop.drop.drop.drop.drop.drop | exact fun _ h => h.drop.drop.drop.drop.drop.drop.drop | exact fun _ h => h.drop.drop.drop.drop.drop.drop.drop.drop) ?_
      refine ra_take 7 rfl (by kernel_rfl) (by kernel_rfl) rfl (by (first | (constructor <;> first | rfl | exact RdC.rd | exact inferInstance) | exact Ex.pickF rfl rfl | exact Ex.eqlS rfl rfl | exact Ex.neqS rfl rfl | exact Ex.eqlPN rfl rfl | exact Ex.neqPN rfl rfl | exact Ex.eqlSN rfl rfl | exact Ex.neqSN rfl rfl | exact Ex.lenStr rfl)) rfl (by first | exact fun _ h => h | exact fun _ h => h.drop | exact fun _ h => h.drop.drop | exact fun _ h => h.drop.drop.drop | exact fun _ h => h.drop.drop.drop.drop | exact fun _ h => h.drop.drop.drop.drop.drop | exact fun _ h => h.drop.drop.drop.drop.drop.drop | exact fun _ h => h.drop.drop.drop.drop.drop.drop.drop | exact fun _ h => h.drop.drop.drop.drop.drop.drop.drop.drop) ?_
      refine ra_take 8 rfl (by kernel_rfl) (by kernel_rfl) rfl (by (first | (constructor <;> first | rfl | exact RdC.rd | exact inferInstance) | exact Ex.pickF rfl rfl | exact Ex.eqlS rfl rfl | exact Ex.neqS rfl rfl | exact Ex.eqlPN rfl rfl | exact Ex.neqPN rfl rfl | exact Ex.eqlSN rfl rfl | exact Ex.neqSN rfl rfl | exact Ex.lenStr rfl)) rfl (by first | exact fun _ h => h | exact fun _ h => h.drop | exact fun _ h => h.drop.drop | exact fun _ h => h.drop.drop.drop | exact fun _ h => h.drop.drop.drop.drop | exact fun _ h => h.drop.drop.drop.drop.drop | exact fun _ h => h.drop.drop.drop.drop.drop.drop | exact fun _ h => h.drop.drop.drop.drop.drop.drop.drop | exact fun _ h => h.drop.drop.drop.drop.drop.drop.drop.drop) ?_
      refine ra_take 9 rfl (by kernel_rfl) (by kernel_rfl) rfl (by (first | (constructor <;> first | rfl | exact RdC.rd | exact inferInstance) | exact Ex.pickF rfl rfl | exact Ex.eqlS rfl rfl | exact Ex.neqS rfl rfl | exact Ex.eqlPN rfl rfl | exact Ex.neqPN rfl rfl | exact Ex.eqlSN rfl rfl | exact Ex.neqSN rfl rfl | exact Ex.lenStr rfl)) rfl (by first | exact fun _ h => h | exact fun _ h => h.drop | exact fun _ h => h.drop.drop | exact fun _ h => h.drop.drop.drop | exact fun _ h => h.drop.drop.drop.drop | exact fun _ h => h.drop.drop.drop.drop.drop | exact fun _ h => h.drop.drop.drop.drop.drop.drop | exact fun _ h => h.drop.drop.drop.drop.drop.drop.drop | exact fun _ h => h.drop.drop.drop.drop.drop.drop.drop.drop) ?_
      refine ra_take 10 rfl (by kernel_rfl) (by kernel_rfl) rfl (by (first | (constructor <;> first | rfl | exact RdC.rd | exact inferInstance) | exact Ex.pickF rfl rfl | exact Ex.eqlS rfl rfl | exact Ex.neqS rfl rfl | exact Ex.eqlPN rfl rfl | exact Ex.neqPN rfl rfl | exact Ex.eqlSN rfl rfl | exact Ex.neqSN rfl rfl | exact Ex.lenStr rfl)) rfl (by first | exact fun _ h => h | exact fun _ h => h.drop | exact fun _ h => h.drop.drop | exact fun _ h => h.drop.drop.drop | exact fun _ h => h.drop.drop.drop.drop | exact fun _ h => h.drop.drop.drop.drop.drop | exact fun _ h => h.drop.drop.drop.drop.drop.drop | exact fun _ h => h.drop.drop.drop.drop.drop.drop.drop | exact fun _ h => h.drop.drop.drop.drop.drop.drop.drop.drop) ?_
      refine ra_all (rs := [11]) (by kernel_rfl) rfl ?_
      refine each_op rfl rfl rfl (opR_fn rfl (Call.heap (fun w h => At.top [_, _] [1, 0] h) ((Next_c W0 b s i.from_ _).mono ?_))) each_nil
      rintro v H' ⟨rfl, rfl⟩
      refine ⟨.inr (fun w h => At.top [_, _] [1, 0] h), ra_heap (fun w h => At.top [_, _] [1, 0] h) ?_⟩
      refine ra_take 12 rfl (by kernel_rfl) (by kernel_rfl) rfl (by (first | (constructor <;> first | rfl | exact RdC.rd | exact inferInstance) | exact Ex.pickF rfl rfl | exact Ex.eqlS rfl rfl | exact Ex.neqS rfl rfl | exact Ex.eqlPN rfl rfl | exact Ex.neqPN rfl rfl | exact Ex.eqlSN rfl rfl | exact Ex.neqSN rfl rfl | exact Ex.lenStr rfl)) rfl (by first | exact fun _ h => h | exact fun _ h => h.drop | exact fun _ h => h.drop.drop | exact fun _ h => h.drop.drop.drop | exact fun _ h => h.drop.drop.drop.drop | exact fun _ h => h.drop.drop.drop.drop.drop | exact fun _ h => h.drop.drop.drop.drop.drop.drop | exact fun _ h => h.drop.drop.drop.drop.drop.drop.drop | exact fun _ h => h.drop.drop.drop.drop.drop.drop.drop.drop) ?_
      refine ra_take 13 rfl (by kernel_rfl) (by kernel_rfl) rfl (by (first | (constructor <;> first | rfl | exact RdC.rd | exact inferInstance) | exact Ex.pickF rfl rfl | exact Ex.eqlS rfl rfl | exact Ex.neqS rfl rfl | exact Ex.eqlPN rfl rfl | exact Ex.neqPN rfl rfl | exact Ex.eqlSN rfl rfl | exact Ex.neqSN rfl rfl | exact Ex.lenStr rfl)) rfl (by first | exact fun _ h => h | exact fun _ h => h.drop | exact fun _ h => h.drop.drop | exact fun _ h => h.drop.drop.drop | exact fun _ h => h.drop.drop.drop.drop | exact fun _ h => h.drop.drop.drop.drop.drop | exact fun _ h => h.drop.drop.drop.drop.drop.drop | exact fun _ h => h.drop.drop.drop.drop.drop.drop.drop | exact fun _ h => h.drop.drop.drop.drop.drop.drop.drop.drop) ?_
      refine ra_take 14 rfl (by kernel_rfl) (by kernel_rfl) rfl (by (first | (constructor <;> first | rfl | exact RdC.rd | exact inferInstance) | exact Ex.pickF rfl rfl | exact Ex.eqlS rfl rfl | exact Ex.neqS rfl rfl | exact Ex.eqlPN rfl rfl | exact Ex.neqPN rfl rfl | exact Ex.eqlSN rfl rfl | exact Ex.neqSN rfl rfl | exact Ex.lenStr rfl)) rfl (by first | exact fun _ h => h | exact fun _ h => h.drop | exact fun _ h => h.drop.drop | exact fun _ h => h.drop.drop.drop | exact fun _ h => h.drop.drop.drop.drop | exact fun _ h => h.drop.drop.drop.drop.drop | exact fun _ h => h.drop.drop.drop.drop.drop.drop | exact fun _ h => h.drop.drop.drop.drop.drop.drop.drop | exact fun _ h => h.drop.drop.drop.drop.drop.drop.drop.drop) ?_
      refine ra_take 15 rfl (by kernel_rfl) (by kernel_rfl) rfl (by (first | (constructor <;> first | rfl | exact RdC.rd | exact inferInstance) | exact Ex.pickF rfl rfl | exact Ex.eqlS rfl rfl | exact Ex.neqS rfl rfl | exact Ex.eqlPN rfl rfl | exact Ex.neqPN rfl rfl | exact Ex.eqlSN rfl rfl | exact Ex.neqSN rfl rfl | exact Ex.lenStr rfl)) rfl (by first | exact fun _ h => h | exact fun _ h => h.drop | exact fun _ h => h.drop.drop | exact fun _ h => h.drop.drop.drop | exact fun _ h => h.drop.drop.drop.drop | exact fun _ h => h.drop.drop.drop.drop.drop | exact fun _ h => h.drop.drop.drop.drop.drop.drop | exact fun _ h => h.drop.drop.drop.drop.drop.drop.drop | exact fun _ h => h.drop.drop.drop.drop.drop.drop.drop.drop) ?_
      refine ra_end (by kernel_rfl) (qe_then (ct_ret (qe_heap (fun w h => h.drop) ?_)))
      refine ret1 rfl rfl ⟨?_, rfl⟩
      simp [Book.has, h1, h2]
    · refine ra_skip 6 rfl (by kernel_rfl) (by kernel_rfl) rfl rfl (by first | exact fun _ h => h | exact fun _ h => h.drop | exact fun _ h => h.drop.drop | exact fun _ h => h.drop.drop.drop | exact fun _ h => h.drop.drop.drop.drop | exact fun _ h => h.drop.drop.drop.drop.drop | exact fun _ h => h.drop.drop.drop.drop.drop.drop | exact fun _ h => h.drop.drop.drop.drop.drop.drop.drop | exact fun _ h => h.drop.drop.drop.drop.drop.drop.drop.drop) ?_
      refine ra_skip 7 rfl (by kernel_rfl) (by kernel_rfl) rfl rfl (by first | exact fun _ h => h | exact fun _ h => h.drop | exact fun _ h => h.drop.drop | exact fun _ h => h.drop.drop.drop | exact fun _ h => h.drop.drop.drop.drop | exact fun _ h => h.drop.drop.drop.drop.drop | exact fun _ h => h.drop.drop.drop.drop.drop.drop | exact fun _ h => h.drop.drop.drop.drop.drop.drop.drop | exact fun _ h => h.drop.drop.drop.drop.drop.drop.drop.drop) ?_
      refine ra_skip 8 rfl (by kernel_rfl) (by kernel_rfl) rfl rfl (by first | exact fun _ h => h | exact fun _ h => h.drop | exact fun _ h => h.drop.drop | exact fun _ h => h.drop.drop.drop | exact fun _ h => h.drop.drop.drop.drop | exact fun _ h => h.drop.drop.drop.drop.drop | exact fun _ h => h.drop.drop.drop.drop.drop.drop | exact fun _ h => h.drop.drop.drop.drop.drop.drop.drop | exact fun _ h => h.drop.drop.drop.drop.drop.drop.drop.drop) ?_
      refine ra_skip 9 rfl (by kernel_rfl) (by kernel_rfl) rfl rfl (by first | exact fun _ h => h | exact fun _ h => h.drop | exact fun _ h => h.drop.drop | exact fun _ h => h.drop.drop.drop | exact fun _ h => h.drop.drop.drop.drop | exact fun _ h => h.drop.drop.drop.drop.drop | exact fun _ h => h.drop.drop.drop.drop.drop.drop | exact fun _ h => h.drop.drop.drop.drop.drop.drop.drop | exact fun _ h => h.drop.drop.drop.drop.drop.drop.drop.drop) ?_
      refine ra_skip 10 rfl (by kernel_rfl) (by kernel_rfl) rfl rfl (by first | exact fun _ h => h | exact fun _ h => h.drop | exact fun _ h => h.drop.drop | exact fun _ h => h.drop.drop.drop | exact fun _ h => h.drop.drop.drop.drop | exact fun _ h => h.drop.drop.drop.drop.drop | exact fun _ h => h.drop.drop.drop.drop.drop.drop | exact fun _ h => h.drop.drop.drop.drop.drop.drop.drop | exact fun _ h => h.drop.drop.drop.drop.drop.drop.drop.drop) ?_
      refine ra_skip 11 rfl (by kernel_rfl) (by kernel_rfl) rfl rfl (by first | exact fun _ h => h | exact fun _ h => h.drop | exact fun _ h => h.drop.drop | exact fun _ h => h.drop.drop.drop | exact fun _ h => h.drop.drop.drop.drop | exact fun _ h => h.drop.drop.drop.drop.drop | exact fun _ h => h.drop.drop.drop.drop.drop.drop | exact fun _ h => h.drop.drop.drop.drop.drop.drop.drop | exact fun _ h => h.drop.drop.drop.drop.drop.drop.drop.drop) ?_
      refine ra_skip 12 rfl (by kernel_rfl) (by kernel_rfl) rfl rfl (by first | exact fun _ h => h | exact fun _ h => h.drop | exact fun _ h => h.drop.drop | exact fun _ h => h.drop.drop.drop | exact fun _ h => h.drop.drop.drop.drop | exact fun _ h => h.drop.drop.drop.drop.drop | exact fun _ h => h.drop.drop.drop.drop.drop.drop | exact fun _ h => h.drop.drop.drop.drop.drop.drop.drop | exact fun _ h => h.drop.drop.drop.drop.drop.drop.drop.drop) ?_
      refine ra_take 13 rfl (by kernel_rfl) (by kernel_rfl) rfl (by (first | (constructor <;> first | rfl | exact RdC.rd | exact inferInstance) | exact Ex.pickF rfl rfl | exact Ex.eqlS rfl rfl | exact Ex.neqS rfl rfl | exact Ex.eqlPN rfl rfl | exact Ex.neqPN rfl rfl | exact Ex.eqlSN rfl rfl | exact Ex.neqSN rfl rfl | exact Ex.lenStr rfl)) rfl (by first | exact fun _ h => h | exact fun _ h => h.drop | exact fun _ h => h.drop.drop | exact fun _ h => h.drop.drop.drop | exact fun _ h => h.drop.drop.drop.drop | exact fun _ h => h.drop.drop.drop.drop.drop | exact fun _ h => h.drop.drop.drop.drop.drop.drop | exact fun _ h => h.drop.drop.drop.drop.drop.drop.drop | exact fun _ h => h.drop.drop.drop.drop.drop.drop.drop.drop) ?_
      refine ra_take 14 rfl (by kernel_rfl) (by kernel_rfl) rfl (by (first | (constructor <;> first | rfl | exact RdC.rd | exact inferInstance) | exact Ex.pickF rfl rfl | exact Ex.eqlS rfl rfl | exact Ex.neqS rfl rfl | exact Ex.eqlPN rfl rfl | exact Ex.neqPN rfl rfl | exact Ex.eqlSN rfl rfl | exact Ex.neqSN rfl rfl | exact Ex.lenStr rfl)) rfl (by first | exact fun _ h => h | exact fun _ h => h.drop | exact fun _ h => h.drop.drop | exact fun _ h => h.drop.drop.drop | exact fun _ h => h.drop.drop.drop.drop | exact fun _ h => h.drop.drop.drop.drop.drop | exact fun _ h => h.drop.drop.drop.drop.drop.drop | exact fun _ h => h.drop.drop.drop.drop.drop.drop.drop | exact fun _ h => h.drop.drop.drop.drop.drop.drop.drop.drop) ?_
      refine ra_take 15 rfl (by kernel_rfl) (by kernel_rfl) rfl (by (first | (constructor <;> first | rfl | exact RdC.rd | exact inferInstance) | exact Ex.pickF rfl rfl | exact Ex.eqlS rfl rfl | exact Ex.neqS rfl rfl | exact Ex.eqlPN rfl rfl | exact Ex.neqPN rfl rfl | exact Ex.eqlSN rfl rfl | exact Ex.neqSN rfl rfl | exact Ex.lenStr rfl)) rfl (by first | exact fun _ h => h | exact fun _ h => h.drop | exact fun _ h => h.drop.drop | exact fun _ h => h.drop.drop.drop | exact fun _ h => h.drop.drop.drop.drop | exact fun _ h => h.drop.drop.drop.drop.drop | exact fun _ h => h.drop.drop.drop.drop.drop.drop | exact fun _ h => h.drop.drop.drop.drop.drop.drop.drop | exact fun _ h => h.drop.drop.drop.drop.drop.drop.drop.drop) ?_
      refine ra_end (by kernel_rfl) (qe_then (ct_ret (qe_heap (fun w h => h.drop) ?_)))
      refine ret1 rfl rfl ⟨?_, rfl⟩
      simp [Book.has, h1, h2]
end Go.Rost
