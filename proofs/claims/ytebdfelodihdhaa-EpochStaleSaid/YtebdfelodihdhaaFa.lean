/- A log of entries, folded: an entry is applied. -/
import Derived.Test.YtebdfelodihdhaaEr
import Derived.Test.YtebdfelodihdhaaMo
namespace Go.Rost
open Go Go.RowKit Go.Proofs

def Fold.new (v : Int) : Fold := ⟨Book.new, [⟨1, v, 0⟩], 0, 0⟩
def Fold.begin (g : Fold) (ver back : Int) : Fold := { g with eras := g.eras ++ [⟨IntKind.u32.wrap (g.last.epoch + 1), ver, g.count⟩], back := back }
/-- What an entry of the epoch does. -/
def Fold.doing (g : Fold) (e : Ent) : (List Msg × Bool) × Fold :=
  if e.kind = 1 then ((g.book.outs e.msgs, false), { g with book := g.book.takes e.msgs })
  else if e.kind = 2 then (if checkVer g.last.ver e.ver = 0 then (([], true), g.begin e.ver g.last.ver) else (([], false), g))
  else (if g.back = 0 then (([], false), g) else (([], true), g.begin g.back 0))
def Fold.tick (f : Fold) : Fold := { f with count := f.count + 1 }
def Fold.apply (f : Fold) (e : Ent) : (List Msg × Bool × Int) × Fold :=
  if e.bad = true then (([], false, 140), f)
  else if e.epoch ≠ f.last.epoch then (([], false, 0), f.tick)
  else (((f.tick.doing e).1.1, (f.tick.doing e).1.2, 0), (f.tick.doing e).2)
theorem last_some {l : List Era} (h : l ≠ []) : ∃ z, l.getLast? = some z := by
  cases e : l.getLast? with
  | none => exact absurd (List.getLast?_eq_none_iff.1 e) h
  | some z => exact ⟨z, rfl⟩
theorem Fold.last_eq {f : Fold} {z : Era} (h : f.eras.getLast? = some z) : f.last = z := by rw [Fold.last, h]; rfl
def clo14 (f : FuncId) (b : Nat) : Value := .func (.func f) #[.pointer (some ⟨b, 0, none⟩)] #[]
def does14 (b : Nat) (k : Int) : Value := if k = 1 then clo14 21 b else if k = 2 then clo14 22 b else clo14 23 b
theorem Right14_c (W0 : World) (e : Ent) (p : Option Addr) (c : Nat) (H : List Chunk) (hr : SlR (At W0 H) p e.msgs) (hl : e.msgs.length ≤ 1000) (h0 : 0 ≤ e.epoch) :
    Call Try.prog W0 17 [e.v p c] H (fun v H' => v = .bool (!e.bad) ∧ H' = H) := by
  refine call_enter Try.func17 rfl Try.ntmps17 rfl ?_

  refine ct_seq ?_
  refine ct_region ?_
  refine rs_op rfl rfl (opR_box rfl fun b1 => ?_)
  (first | refine rs_ex rfl (by (first | (constructor <;> first | rfl | exact RdC.rd | exact inferInstance) | exact Ex.pickF rfl rfl | exact Ex.eqlS rfl rfl | exact Ex.neqS rfl rfl | exact Ex.eqlPN rfl rfl | exact Ex.neqPN rfl rfl | exact Ex.eqlSN rfl rfl | exact Ex.neqSN rfl rfl | exact Ex.lenStr rfl)) rfl ?_ | refine rs_skip rfl rfl ?_)
  refine rs_end ?_
  refine qe_then ?_
  refine ct_seq ?_
  refine ct_region ?_
  (first | refine rs_ex rfl (by (first | (constructor <;> first | rfl | exact RdC.rd | exact inferInstance) | exact Ex.pickF rfl rfl | exact Ex.eqlS rfl rfl | exact Ex.neqS rfl rfl | exact Ex.eqlPN rfl rfl | exact Ex.neqPN rfl rfl | exact Ex.eqlSN rfl rfl | exact Ex.neqSN rfl rfl | exact Ex.lenStr rfl)) rfl ?_ | refine rs_skip rfl rfl ?_)
  refine rs_op rfl rfl (opR_fn rfl (Call.heap (fun w h => by (first | exact h | exact h.sw1 | exact h.sw2 | exact h.sw3 | exact h.sw4 | exact h.sw5 | exact h.sw6 | exact h.sw7 | exact h.sw8 | exact h.pull2 | exact h.pull3 | exact h.pull4 | exact h.pull5 | exact h.fit)) ((Encode_c W0 e p c _ (hr.mono fun w h => h.drop) hl h0).mono ?_)))
  rintro v H' ⟨rfl, rfl⟩
  iterate 5 (first | refine rs_ex rfl (by (first | (constructor <;> first | rfl | exact RdC.rd | exact inferInstance) | exact Ex.pickF rfl rfl | exact Ex.eqlS rfl rfl | exact Ex.neqS rfl rfl | exact Ex.eqlPN rfl rfl | exact Ex.neqPN rfl rfl | exact Ex.eqlSN rfl rfl | exact Ex.neqSN rfl rfl | exact Ex.lenStr rfl)) rfl ?_ | refine rs_skip rfl rfl ?_)
  refine rs_end ?_
  refine qe_then ?_
  refine ct_seq ?_
  refine ct_region ?_
  iterate 3 (first | refine rs_ex rfl (by (first | (constructor <;> first | rfl | exact RdC.rd | exact inferInstance) | exact Ex.pickF rfl rfl | exact Ex.eqlS rfl rfl | exact Ex.neqS rfl rfl | exact Ex.eqlPN rfl rfl | exact Ex.neqPN rfl rfl | exact Ex.eqlSN rfl rfl | exact Ex.neqSN rfl rfl | exact Ex.lenStr rfl)) rfl ?_ | refine rs_skip rfl rfl ?_)
  refine rs_end ?_
  refine qe_then ?_
  refine ct_ret ?_
  exact qe_fit (ret1 rfl rfl ⟨by unfold Ent.enc; cases e.bad <;> rfl, rfl⟩)
theorem New14_bad (W0 : World) (v : Int) (H : List Chunk) (hv : known v = false) : Call Try.prog W0 9 [.int .i64 v] H (fun r H' => r = .tuple #[.pointer none, .int .i64 130] ∧ H' = H) := by
  refine call_enter Try.func9 rfl Try.ntmps9 rfl ?_

  refine ct_seq ?_
  refine ct_region ?_
  iterate 2 (first | refine rs_ex rfl (by (first | (constructor <;> first | rfl | exact RdC.rd | exact inferInstance) | exact Ex.pickF rfl rfl | exact Ex.eqlS rfl rfl | exact Ex.neqS rfl rfl | exact Ex.eqlPN rfl rfl | exact Ex.neqPN rfl rfl | exact Ex.eqlSN rfl rfl | exact Ex.neqSN rfl rfl | exact Ex.lenStr rfl)) rfl ?_ | refine rs_skip rfl rfl ?_)
  refine rs_end ?_
  refine qe_then ?_
  refine ct_seq ?_
  refine ct_seq ?_
  refine ct_region ?_
  (first | refine rs_ex rfl (by (first | (constructor <;> first | rfl | exact RdC.rd | exact inferInstance) | exact Ex.pickF rfl rfl | exact Ex.eqlS rfl rfl | exact Ex.neqS rfl rfl | exact Ex.eqlPN rfl rfl | exact Ex.neqPN rfl rfl | exact Ex.eqlSN rfl rfl | exact Ex.neqSN rfl rfl | exact Ex.lenStr rfl)) rfl ?_ | refine rs_skip rfl rfl ?_)
  refine rs_op rfl rfl (opR_fn rfl (Call.heap (fun w h => by (first | exact h | exact h.sw1 | exact h.sw2 | exact h.sw3 | exact h.sw4 | exact h.sw5 | exact h.sw6 | exact h.sw7 | exact h.sw8 | exact h.pull2 | exact h.pull3 | exact h.pull4 | exact h.pull5 | exact h.fit)) ((Known_c W0 v _).mono ?_)))
  rintro v H' ⟨rfl, rfl⟩
  rw [hv]
  (first | refine rs_ex rfl (by (first | (constructor <;> first | rfl | exact RdC.rd | exact inferInstance) | exact Ex.pickF rfl rfl | exact Ex.eqlS rfl rfl | exact Ex.neqS rfl rfl | exact Ex.eqlPN rfl rfl | exact Ex.neqPN rfl rfl | exact Ex.eqlSN rfl rfl | exact Ex.neqSN rfl rfl | exact Ex.lenStr rfl)) rfl ?_ | refine rs_skip rfl rfl ?_)
  refine rs_end ?_
  refine qe_then ?_
  refine ct_cond rfl (fun h6 => ?_) (fun h6 => by simp at h6)
  refine ct_seq ?_
  refine ct_region ?_
  iterate 2 (first | refine rs_ex rfl (by (first | (constructor <;> first | rfl | exact RdC.rd | exact inferInstance) | exact Ex.pickF rfl rfl | exact Ex.eqlS rfl rfl | exact Ex.neqS rfl rfl | exact Ex.eqlPN rfl rfl | exact Ex.neqPN rfl rfl | exact Ex.eqlSN rfl rfl | exact Ex.neqSN rfl rfl | exact Ex.lenStr rfl)) rfl ?_ | refine rs_skip rfl rfl ?_)
  refine rs_end ?_
  refine qe_then ?_
  refine ct_ret ?_
  exact ret2 rfl rfl rfl ⟨rfl, rfl⟩
theorem New14_ok (W0 : World) (v : Int) (H : List Chunk) (hv : known v = true) : Call Try.prog W0 9 [.int .i64 v] H (fun r H' => ∃ b, r = .tuple #[.pointer (some ⟨b, 0, none⟩), .int .i64 0] ∧ H' = FoldC b (Fold.new v) :: H) := by
  refine call_enter Try.func9 rfl Try.ntmps9 rfl ?_

  refine ct_seq ?_
  refine ct_region ?_
  iterate 2 (first | refine rs_ex rfl (by (first | (constructor <;> first | rfl | exact RdC.rd | exact inferInstance) | exact Ex.pickF rfl rfl | exact Ex.eqlS rfl rfl | exact Ex.neqS rfl rfl | exact Ex.eqlPN rfl rfl | exact Ex.neqPN rfl rfl | exact Ex.eqlSN rfl rfl | exact Ex.neqSN rfl rfl | exact Ex.lenStr rfl)) rfl ?_ | refine rs_skip rfl rfl ?_)
  refine rs_end ?_
  refine qe_then ?_
  refine ct_seq ?_
  refine ct_seq ?_
  refine ct_region ?_
  (first | refine rs_ex rfl (by (first | (constructor <;> first | rfl | exact RdC.rd | exact inferInstance) | exact Ex.pickF rfl rfl | exact Ex.eqlS rfl rfl | exact Ex.neqS rfl rfl | exact Ex.eqlPN rfl rfl | exact Ex.neqPN rfl rfl | exact Ex.eqlSN rfl rfl | exact Ex.neqSN rfl rfl | exact Ex.lenStr rfl)) rfl ?_ | refine rs_skip rfl rfl ?_)
  refine rs_op rfl rfl (opR_fn rfl (Call.heap (fun w h => by (first | exact h | exact h.sw1 | exact h.sw2 | exact h.sw3 | exact h.sw4 | exact h.sw5 | exact h.sw6 | exact h.sw7 | exact h.sw8 | exact h.pull2 | exact h.pull3 | exact h.pull4 | exact h.pull5 | exact h.fit)) ((Known_c W0 v _).mono ?_)))
  rintro v H' ⟨rfl, rfl⟩
  rw [hv]
  (first | refine rs_ex rfl (by (first | (constructor <;> first | rfl | exact RdC.rd | exact inferInstance) | exact Ex.pickF rfl rfl | exact Ex.eqlS rfl rfl | exact Ex.neqS rfl rfl | exact Ex.eqlPN rfl rfl | exact Ex.neqPN rfl rfl | exact Ex.eqlSN rfl rfl | exact Ex.neqSN rfl rfl | exact Ex.lenStr rfl)) rfl ?_ | refine rs_skip rfl rfl ?_)
  refine rs_end ?_
  refine qe_then ?_
  refine ct_cond rfl (fun h6 => by simp at h6) (fun h6 => ?_)
  refine ct_skip ?_
  refine qe_then ?_
  refine ct_seq ?_
  refine ct_region ?_
  refine rs_op rfl rfl (opR_fn rfl (Call.heap (fun w h => by (first | exact h | exact h.sw1 | exact h.sw2 | exact h.sw3 | exact h.sw4 | exact h.sw5 | exact h.sw6 | exact h.sw7 | exact h.sw8 | exact h.pull2 | exact h.pull3 | exact h.pull4 | exact h.pull5 | exact h.fit)) ((New_c W0 _).mono ?_)))
  rintro v H' ⟨bk, rfl, rfl⟩
  (first | refine rs_ex rfl (by (first | (constructor <;> first | rfl | exact RdC.rd | exact inferInstance) | exact Ex.pickF rfl rfl | exact Ex.eqlS rfl rfl | exact Ex.neqS rfl rfl | exact Ex.eqlPN rfl rfl | exact Ex.neqPN rfl rfl | exact Ex.eqlSN rfl rfl | exact Ex.neqSN rfl rfl | exact Ex.lenStr rfl)) rfl ?_ | refine rs_skip rfl rfl ?_)
  refine rs_ex rfl (ex_build rfl) rfl ?_
  refine rs_op rfl rfl (opR_buildSlice rfl rfl rfl rfl fun b10 => ?_)
  refine rs_ex rfl (ex_build rfl) rfl ?_
  refine rs_op rfl rfl (opR_box rfl fun b12 => ?_)
  iterate 2 (first | refine rs_ex rfl (by (first | (constructor <;> first | rfl | exact RdC.rd | exact inferInstance) | exact Ex.pickF rfl rfl | exact Ex.eqlS rfl rfl | exact Ex.neqS rfl rfl | exact Ex.eqlPN rfl rfl | exact Ex.neqPN rfl rfl | exact Ex.eqlSN rfl rfl | exact Ex.neqSN rfl rfl | exact Ex.lenStr rfl)) rfl ?_ | refine rs_skip rfl rfl ?_)
  refine rs_end ?_
  refine qe_then ?_
  refine ct_ret ?_
  exact qe_heap (H' := FoldC b12 (Fold.new _) :: _) (fun w h => FoldC.shut (f := Fold.new _) (At.sw1 (At.slt_blk (α := Era) (l := [⟨1, _, 0⟩]) (cap := 1) (At.sw1 h) [] rfl rfl))) (ret2 rfl rfl rfl ⟨b12, rfl, rfl⟩)
theorem Switches_c (W0 : World) (b bk : Nat) (g : Fold) (e : Ent) (p : Option Addr) (c : Nat) (q : Option Addr) (d : Nat) (z : Era) (H : List Chunk) (hv : SlV q d g.eras) (hz : g.eras.getLast? = some z) (hn : g.eras.length ≤ 1000) :
    Call Try.prog W0 22 [.pointer (some ⟨b, 0, none⟩), e.v p c] (Blk b (.cells #[.pointer (some ⟨bk, 0, none⟩), .slice q g.eras.length d, .int .i64 g.count, .int .i64 g.back] 56 (0, 0)) :: SlT 38 (.slice q g.eras.length d) g.eras :: BookC bk g.book :: H)
      (fun v H' => ∃ u, v = .tuple #[u, .bool (decide (checkVer g.last.ver e.ver = 0))] ∧ H' = SlT (α := Msg) 50 u [] :: FoldC b (if checkVer g.last.ver e.ver = 0 then g.begin e.ver g.last.ver else g) :: H) := by
  have hl := Fold.last_eq hz
  refine call_enter Try.func22 rfl Try.ntmps22 rfl ?_

  refine ct_seq ?_
  refine ct_region ?_
  refine rs_op rfl rfl (opR_box rfl fun b3 => ?_)
  iterate 2 (first | refine rs_ex rfl (by (first | (constructor <;> first | rfl | exact RdC.rd | exact inferInstance) | exact Ex.pickF rfl rfl | exact Ex.eqlS rfl rfl | exact Ex.neqS rfl rfl | exact Ex.eqlPN rfl rfl | exact Ex.neqPN rfl rfl | exact Ex.eqlSN rfl rfl | exact Ex.neqSN rfl rfl | exact Ex.lenStr rfl)) rfl ?_ | refine rs_skip rfl rfl ?_)
  refine rs_end ?_
  refine qe_then ?_
  refine ct_seq ?_
  refine ct_region ?_
  (first | refine rs_ex rfl (by (first | (constructor <;> first | rfl | exact RdC.rd | exact inferInstance) | exact Ex.pickF rfl rfl | exact Ex.eqlS rfl rfl | exact Ex.neqS rfl rfl | exact Ex.eqlPN rfl rfl | exact Ex.neqPN rfl rfl | exact Ex.eqlSN rfl rfl | exact Ex.neqSN rfl rfl | exact Ex.lenStr rfl)) rfl ?_ | refine rs_skip rfl rfl ?_)
  refine rs_op rfl rfl (opR_fn rfl (Call.heap (fun w h => by (first | exact h | exact h.sw1 | exact h.sw2 | exact h.sw3 | exact h.sw4 | exact h.sw5 | exact h.sw6 | exact h.sw7 | exact h.sw8 | exact h.pull2 | exact h.pull3 | exact h.pull4 | exact h.pull5 | exact h.fit)) ((Now_c W0 b 0 (.pointer (some ⟨bk, 0, none⟩)) (.int .i64 g.count) (.int .i64 g.back) q d g.eras z _ hv hz (by omega)).mono ?_)))
  rintro v H' ⟨rfl, rfl⟩
  refine rs_ex rfl (ex_field Try.underlying38 rfl 3 rfl rfl rfl) rfl ?_
  (first | refine rs_ex rfl (by (first | (constructor <;> first | rfl | exact RdC.rd | exact inferInstance) | exact Ex.pickF rfl rfl | exact Ex.eqlS rfl rfl | exact Ex.neqS rfl rfl | exact Ex.eqlPN rfl rfl | exact Ex.neqPN rfl rfl | exact Ex.eqlSN rfl rfl | exact Ex.neqSN rfl rfl | exact Ex.lenStr rfl)) rfl ?_ | refine rs_skip rfl rfl ?_)
  refine rs_end ?_
  refine qe_then ?_
  refine ct_seq ?_
  refine ct_region ?_
  iterate 3 (first | refine rs_ex rfl (by (first | (constructor <;> first | rfl | exact RdC.rd | exact inferInstance) | exact Ex.pickF rfl rfl | exact Ex.eqlS rfl rfl | exact Ex.neqS rfl rfl | exact Ex.eqlPN rfl rfl | exact Ex.neqPN rfl rfl | exact Ex.eqlSN rfl rfl | exact Ex.neqSN rfl rfl | exact Ex.lenStr rfl)) rfl ?_ | refine rs_skip rfl rfl ?_)
  refine rs_op rfl rfl (opR_fn rfl (Call.heap (fun w h => by (first | exact h | exact h.sw1 | exact h.sw2 | exact h.sw3 | exact h.sw4 | exact h.sw5 | exact h.sw6 | exact h.sw7 | exact h.sw8 | exact h.pull2 | exact h.pull3 | exact h.pull4 | exact h.pull5 | exact h.fit)) ((Check_ver W0 z.ver e.ver _).mono ?_)))
  rintro v H' ⟨rfl, rfl⟩
  iterate 2 (first | refine rs_ex rfl (by (first | (constructor <;> first | rfl | exact RdC.rd | exact inferInstance) | exact Ex.pickF rfl rfl | exact Ex.eqlS rfl rfl | exact Ex.neqS rfl rfl | exact Ex.eqlPN rfl rfl | exact Ex.neqPN rfl rfl | exact Ex.eqlSN rfl rfl | exact Ex.neqSN rfl rfl | exact Ex.lenStr rfl)) rfl ?_ | refine rs_skip rfl rfl ?_)
  refine rs_split (fun h15 => ?_) (fun h15 => ?_)
  · have hc : checkVer z.ver e.ver = 0 := by simpa using h15
    iterate 4 (first | refine rs_ex rfl (by (first | (constructor <;> first | rfl | exact RdC.rd | exact inferInstance) | exact Ex.pickF rfl rfl | exact Ex.eqlS rfl rfl | exact Ex.neqS rfl rfl | exact Ex.eqlPN rfl rfl | exact Ex.neqPN rfl rfl | exact Ex.eqlSN rfl rfl | exact Ex.neqSN rfl rfl | exact Ex.lenStr rfl)) rfl ?_ | refine rs_skip rfl rfl ?_)
    refine rs_op rfl rfl (opR_fn rfl (Call.heap (fun w h => by (first | exact h | exact h.sw1 | exact h.sw2 | exact h.sw3 | exact h.sw4 | exact h.sw5 | exact h.sw6 | exact h.sw7 | exact h.sw8 | exact h.pull2 | exact h.pull3 | exact h.pull4 | exact h.pull5 | exact h.fit)) ((Begins_c W0 b 0 (.pointer (some ⟨bk, 0, none⟩)) g.count g.back e.ver z.ver q d g.eras z _ hv hz (by omega)).mono ?_)))
    rintro v H' ⟨p', c', rfl, hv', rfl⟩
    iterate 3 (first | refine rs_ex rfl (by (first | (constructor <;> first | rfl | exact RdC.rd | exact inferInstance) | exact Ex.pickF rfl rfl | exact Ex.eqlS rfl rfl | exact Ex.neqS rfl rfl | exact Ex.eqlPN rfl rfl | exact Ex.neqPN rfl rfl | exact Ex.eqlSN rfl rfl | exact Ex.neqSN rfl rfl | exact Ex.lenStr rfl)) rfl ?_ | refine rs_skip rfl rfl ?_)
    refine rs_end ?_
    refine qe_then ?_
    refine ct_ret ?_
    exact qe_heap (H' := SlT (α := Msg) 50 (.slice none 0 0) [] :: FoldC b (if checkVer g.last.ver e.ver = 0 then g.begin e.ver g.last.ver else g) :: H) (fun w h => by
      refine At.slt_nil (α := Msg) 50 ?_
      first
        | (rw [hl, if_pos hc]
           refine FoldC.shut (f := g.begin e.ver z.ver) (bk := bk) (ev := .slice p' (g.eras ++ [(⟨IntKind.u32.wrap (z.epoch + 1), e.ver, g.count⟩ : Era)]).length c') ?_
           rw [Fold.begin, hl]
           exact At.fit h)
        | (rw [hl, if_neg hc]
           exact FoldC.shut (f := g) (bk := bk) (ev := .slice q g.eras.length d) (At.fit h))) (ret2 rfl rfl rfl ⟨_, by rw [hl]; first | rw [decide_eq_true hc] | rw [decide_eq_false hc], rfl⟩)
  · have hc : checkVer z.ver e.ver ≠ 0 := by simpa using h15
    iterate 8 (first | refine rs_ex rfl (by (first | (constructor <;> first | rfl | exact RdC.rd | exact inferInstance) | exact Ex.pickF rfl rfl | exact Ex.eqlS rfl rfl | exact Ex.neqS rfl rfl | exact Ex.eqlPN rfl rfl | exact Ex.neqPN rfl rfl | exact Ex.eqlSN rfl rfl | exact Ex.neqSN rfl rfl | exact Ex.lenStr rfl)) rfl ?_ | refine rs_skip rfl rfl ?_)
    refine rs_end ?_
    refine qe_then ?_
    refine ct_ret ?_
    exact qe_heap (H' := SlT (α := Msg) 50 (.slice none 0 0) [] :: FoldC b (if checkVer g.last.ver e.ver = 0 then g.begin e.ver g.last.ver else g) :: H) (fun w h => by
      refine At.slt_nil (α := Msg) 50 ?_
      first
        | (rw [hl, if_pos hc]
           refine FoldC.shut (f := g.begin e.ver z.ver) (bk := bk) (ev := .slice p' (g.eras ++ [(⟨IntKind.u32.wrap (z.epoch + 1), e.ver, g.count⟩ : Era)]).length c') ?_
           rw [Fold.begin, hl]
           exact At.fit h)
        | (rw [hl, if_neg hc]
           exact FoldC.shut (f := g) (bk := bk) (ev := .slice q g.eras.length d) (At.fit h))) (ret2 rfl rfl rfl ⟨_, by rw [hl]; first | rw [decide_eq_true hc] | rw [decide_eq_false hc], rfl⟩)
theorem Returns_c (W0 : World) (b bk : Nat) (g : Fold) (e : Ent) (p : Option Addr) (c : Nat) (q : Option Addr) (d : Nat) (z : Era) (H : List Chunk) (hv : SlV q d g.eras) (hz : g.eras.getLast? = some z) (hn : g.eras.length ≤ 1000) :
    Call Try.prog W0 23 [.pointer (some ⟨b, 0, none⟩), e.v p c] (Blk b (.cells #[.pointer (some ⟨bk, 0, none⟩), .slice q g.eras.length d, .int .i64 g.count, .int .i64 g.back] 56 (0, 0)) :: SlT 38 (.slice q g.eras.length d) g.eras :: BookC bk g.book :: H)
      (fun v H' => ∃ u, v = .tuple #[u, .bool (!decide (g.back = 0))] ∧ H' = SlT (α := Msg) 50 u [] :: FoldC b (if g.back = 0 then g else g.begin g.back 0) :: H) := by
  have hl := Fold.last_eq hz
  refine call_enter Try.func23 rfl Try.ntmps23 rfl ?_

  refine ct_seq ?_
  refine ct_region ?_
  refine rs_op rfl rfl (opR_box rfl fun b3 => ?_)
  iterate 2 (first | refine rs_ex rfl (by (first | (constructor <;> first | rfl | exact RdC.rd | exact inferInstance) | exact Ex.pickF rfl rfl | exact Ex.eqlS rfl rfl | exact Ex.neqS rfl rfl | exact Ex.eqlPN rfl rfl | exact Ex.neqPN rfl rfl | exact Ex.eqlSN rfl rfl | exact Ex.neqSN rfl rfl | exact Ex.lenStr rfl)) rfl ?_ | refine rs_skip rfl rfl ?_)
  refine rs_end ?_
  refine qe_then ?_
  refine ct_seq ?_
  refine ct_region ?_
  iterate 6 (first | refine rs_ex rfl (by (first | (constructor <;> first | rfl | exact RdC.rd | exact inferInstance) | exact Ex.pickF rfl rfl | exact Ex.eqlS rfl rfl | exact Ex.neqS rfl rfl | exact Ex.eqlPN rfl rfl | exact Ex.neqPN rfl rfl | exact Ex.eqlSN rfl rfl | exact Ex.neqSN rfl rfl | exact Ex.lenStr rfl)) rfl ?_ | refine rs_skip rfl rfl ?_)
  refine rs_split (fun h11 => ?_) (fun h11 => ?_)
  · have hc : g.back ≠ 0 := by simpa using h11
    iterate 5 (first | refine rs_ex rfl (by (first | (constructor <;> first | rfl | exact RdC.rd | exact inferInstance) | exact Ex.pickF rfl rfl | exact Ex.eqlS rfl rfl | exact Ex.neqS rfl rfl | exact Ex.eqlPN rfl rfl | exact Ex.neqPN rfl rfl | exact Ex.eqlSN rfl rfl | exact Ex.neqSN rfl rfl | exact Ex.lenStr rfl)) rfl ?_ | refine rs_skip rfl rfl ?_)
    refine rs_op rfl rfl (opR_fn rfl (Call.heap (fun w h => by (first | exact h | exact h.sw1 | exact h.sw2 | exact h.sw3 | exact h.sw4 | exact h.sw5 | exact h.sw6 | exact h.sw7 | exact h.sw8 | exact h.pull2 | exact h.pull3 | exact h.pull4 | exact h.pull5 | exact h.fit)) ((Begins_c W0 b 0 (.pointer (some ⟨bk, 0, none⟩)) g.count g.back g.back 0 q d g.eras z _ hv hz (by omega)).mono ?_)))
    rintro v H' ⟨p', c', rfl, hv', rfl⟩
    iterate 3 (first | refine rs_ex rfl (by (first | (constructor <;> first | rfl | exact RdC.rd | exact inferInstance) | exact Ex.pickF rfl rfl | exact Ex.eqlS rfl rfl | exact Ex.neqS rfl rfl | exact Ex.eqlPN rfl rfl | exact Ex.neqPN rfl rfl | exact Ex.eqlSN rfl rfl | exact Ex.neqSN rfl rfl | exact Ex.lenStr rfl)) rfl ?_ | refine rs_skip rfl rfl ?_)
    refine rs_end ?_
    refine qe_then ?_
    refine ct_ret ?_
    exact qe_heap (H' := SlT (α := Msg) 50 (.slice none 0 0) [] :: FoldC b (if g.back = 0 then g else g.begin g.back 0) :: H) (fun w h => by
      refine At.slt_nil (α := Msg) 50 ?_
      first
        | (rw [if_neg hc]
           refine FoldC.shut (f := g.begin g.back 0) (bk := bk) (ev := .slice p' (g.eras ++ [(⟨IntKind.u32.wrap (z.epoch + 1), g.back, g.count⟩ : Era)]).length c') ?_
           rw [Fold.begin, hl]
           exact At.fit h)
        | (rw [if_pos hc]
           exact FoldC.shut (f := g) (bk := bk) (ev := .slice q g.eras.length d) (At.fit h))) (ret2 rfl rfl rfl ⟨_, by first | rw [decide_eq_false hc]; rfl | rw [decide_eq_true hc]; rfl, rfl⟩)
  · have hc : g.back = 0 := by simpa using h11
    iterate 9 (first | refine rs_ex rfl (by (first | (constructor <;> first | rfl | exact RdC.rd | exact inferInstance) | exact Ex.pickF rfl rfl | exact Ex.eqlS rfl rfl | exact Ex.neqS rfl rfl | exact Ex.eqlPN rfl rfl | exact Ex.neqPN rfl rfl | exact Ex.eqlSN rfl rfl | exact Ex.neqSN rfl rfl | exact Ex.lenStr rfl)) rfl ?_ | refine rs_skip rfl rfl ?_)
    refine rs_end ?_
    refine qe_then ?_
    refine ct_ret ?_
    exact qe_heap (H' := SlT (α := Msg) 50 (.slice none 0 0) [] :: FoldC b (if g.back = 0 then g else g.begin g.back 0) :: H) (fun w h => by
      refine At.slt_nil (α := Msg) 50 ?_
      first
        | (rw [if_neg hc]
           refine FoldC.shut (f := g.begin g.back 0) (bk := bk) (ev := .slice p' (g.eras ++ [(⟨IntKind.u32.wrap (z.epoch + 1), g.back, g.count⟩ : Era)]).length c') ?_
           rw [Fold.begin, hl]
           exact At.fit h)
        | (rw [if_pos hc]
           exact FoldC.shut (f := g) (bk := bk) (ev := .slice q g.eras.length d) (At.fit h))) (ret2 rfl rfl rfl ⟨_, by first | rw [decide_eq_false hc]; rfl | rw [decide_eq_true hc]; rfl, rfl⟩)
end Go.Rost
