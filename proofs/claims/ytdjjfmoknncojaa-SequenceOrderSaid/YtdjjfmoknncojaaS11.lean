/- Numbered messages, places; a sequencer: what it does. -/
import Derived.Test.YtdjjfmoknncojaaMo
import Derived.Test.YtdjjfmoknncojaaIds
import Derived.Test.YtdjjfmoknncojaaTk
import Derived.Test.YtdjjfmoknncojaaWr
import Derived.Test.YtdjjfmoknncojaaLs0
import Derived.Test.YtdjjfmoknncojaaXx
namespace Go.Rost
open Go Go.RowKit Go.Proofs

structure Numb where
  e : Int
  n : Int
  m : Msg
deriving DecidableEq
def Numb.v (x : Numb) : Value := .agg #[.int .u32 x.e, .int .u32 x.n, .int .i64 x.m.id.from_, .int .u32 x.m.id.count, .string x.m.data]
def Numb.cells (x : Numb) : List Value := [.int .u32 x.e, .int .u32 x.n, .int .i64 x.m.id.from_, .int .u32 x.m.id.count, .string x.m.data]
instance {x : Numb} : CellsOf x.v [.int .u32 x.e, .int .u32 x.n, .int .i64 x.m.id.from_, .int .u32 x.m.id.count, .string x.m.data] := ⟨rfl⟩
instance : Enc Numb := ⟨5, Numb.v, Numb.cells, fun _ => rfl, fun _ => rfl, by decide⟩
instance : EncA Numb := ⟨fun _ => rfl⟩
theorem ex_loadNumb {S : World → Prop} {σ : Env} {x : Operand} {b o : Nat} (a : Numb) (hx : σ.val x = some (.pointer (some ⟨b, o, none⟩))) (h : Rd S b o (Enc.enc a)) : Ex Try.prog S σ (.load 51 x) a.v := ex_loadA a hx h
instance : EqT Try.prog 51 Numb.v 4 where
  eq d a b w hd := by
    obtain ⟨d, rfl⟩ : ∃ e, d = e + 4 := ⟨d - 4, by omega⟩
    obtain ⟨a1, a2, a3⟩ := a
    obtain ⟨b1, b2, b3⟩ := b
    refine (struct_eq Try.underlying51 (by kernel_rfl) (fields_cons (by decide) (a := .int .u32 a1) (b := .int .u32 b1) ?_ ?_ (eqT_int _ _ _ _ (by omega)) (fields_cons (by decide) (a := .int .u32 a2) (b := .int .u32 b2) ?_ ?_ (eqT_int _ _ _ _ (by omega)) (fields_cons (by decide) (a := Msg.v a3) (b := Msg.v b3) ?_ ?_ (EqT.eq (T := 34) _ _ _ _ (by omega)) fields_nil)))).trans ?_
    iterate 6 simp [part, TPlain.agg, TAgg.agg, TAgg.size, Msg.v]
    congr 1
    rw [Bool.eq_iff_iff]; simp
  le := by decide
theorem ex_eqNumb {S : World → Prop} {σ : Env} {T' : TypeId} {x y : Operand} (a b : Numb) (hx : σ.val x = some a.v) (hy : σ.val y = some b.v) : Ex Try.prog S σ (.binOp .eql 51 x y T') (.bool (decide (a = b))) :=
  ex_eqT a b hx hy (hg := fun w => guard_agg (by kernel_rfl) w)

/-! ### A sequencer -/
structure Seq where
  e : Int
  l : List Numb
/-- Where an id stands. -/
def posN (i : Id) : List Numb → Option Nat
  | [] => none
  | x :: l => if x.m.id = i then some 0 else (posN i l).map (· + 1)
theorem posN_snoc (i : Id) (x : Numb) : ∀ l, posN i (l ++ [x]) = match posN i l with
    | some k => some k
    | none => if x.m.id = i then some l.length else none
  | [] => by simp [posN]
  | y :: l => by
    rw [List.cons_append, posN, posN, posN_snoc i x l]
    by_cases h : y.m.id = i
    · simp [h]
    · simp only [h, if_false]
      cases posN i l with
      | some k => rfl
      | none => simp only [Option.map_none]; split <;> simp
theorem posN_lt {i : Id} : ∀ {l : List Numb} {k : Nat}, posN i l = some k → ∃ x, l[k]? = some x ∧ x.m.id = i
  | [], k, h => by cases h
  | x :: l, k, h => by
    rw [posN] at h
    by_cases hx : x.m.id = i
    · rw [if_pos hx] at h; cases h; exact ⟨x, rfl, hx⟩
    · rw [if_neg hx] at h
      cases hp : posN i l with
      | none => rw [hp] at h; cases h
      | some j =>
        rw [hp] at h
        cases h
        obtain ⟨y, hy, e⟩ := posN_lt hp
        exact ⟨y, by simpa using hy, e⟩
theorem posN_none {i : Id} : ∀ {l : List Numb}, posN i l = none ↔ ∀ x ∈ l, x.m.id ≠ i
  | [] => by simp [posN]
  | x :: l => by
    rw [posN]
    by_cases hx : x.m.id = i
    · simp [hx]
    · have := posN_none (i := i) (l := l)
      simp [hx, this]
def natV (n : Nat) : Value := .int .i64 (n : Int)
instance {n : Nat} : CellsOf (natV n) [.int .i64 (n : Int)] := ⟨rfl⟩
def SeqC (b : Nat) (s : Seq) : Chunk := Exs fun q : Value × Nat × List (Id × Nat) =>
  Star [Pr (∀ i, look q.2.2 i = posN i s.l) (Blk b (.cells #[.int .u32 s.e, q.1, .map (some q.2.1)] 130 (0, 0))), SlT 51 q.1 s.l, MapC Id.v natV q.2.1 q.2.2]
theorem SeqC.open {W0 : World} {b : Nat} {s : Seq} {H : List Chunk} {w : World} (h : At W0 (SeqC b s :: H) w) :
    ∃ q : {q : (Option Addr × Nat) × Nat × List (Id × Nat) // (∀ i, look q.2.2 i = posN i s.l) ∧ SlV q.1.1 q.1.2 s.l},
      At W0 (Blk b (.cells #[.int .u32 s.e, .slice q.1.1.1 s.l.length q.1.1.2, .map (some q.1.2.1)] 130 (0, 0)) :: SlT 51 (.slice q.1.1.1 s.l.length q.1.1.2) s.l :: MapC Id.v natV q.1.2.1 q.1.2.2 :: H) w := by
  obtain ⟨⟨v, r, m⟩, h⟩ := At.ex.1 h
  obtain ⟨h2, h3⟩ := At.pr.1 (At.star.1 h)
  obtain ⟨p, c, e, hv⟩ := h3.drop.slv
  simp only at e
  subst e
  exact ⟨⟨((p, c), r, m), h2, hv⟩, h3⟩
theorem SeqC.shut {W0 : World} {b r : Nat} {v : Value} {m : List (Id × Nat)} {s : Seq} {H : List Chunk} {w : World} (hi : ∀ i, look m i = posN i s.l)
    (h : At W0 (Blk b (.cells #[.int .u32 s.e, v, .map (some r)] 130 (0, 0)) :: SlT 51 v s.l :: MapC Id.v natV r m :: H) w) : At W0 (SeqC b s :: H) w :=
  At.ex.2 ⟨(v, r, m), At.star.2 (At.pr.2 ⟨hi, h⟩)⟩
theorem NewSeq_c (W0 : World) (e : Int) (H : List Chunk) : Call Try.prog W0 53 [.int .u32 e] H (fun v H' => ∃ b, v = .pointer (some ⟨b, 0, none⟩) ∧ H' = SeqC b ⟨e, []⟩ :: H) := by
  refine call_enter Try.func53 rfl Try.ntmps53 rfl ?_

  refine ct_seq ?_
  refine ct_region ?_
  (first | refine rs_ex rfl (by (first | (constructor <;> first | rfl | exact RdC.rd | exact inferInstance) | exact Ex.pickF rfl rfl | exact Ex.eqlS rfl rfl | exact Ex.neqS rfl rfl | exact Ex.eqlPN rfl rfl | exact Ex.neqPN rfl rfl | exact Ex.eqlSN rfl rfl | exact Ex.neqSN rfl rfl | exact Ex.lenStr rfl)) rfl ?_ | refine rs_skip rfl rfl ?_)
  refine rs_end ?_
  refine qe_then ?_
  refine ct_seq ?_
  refine ct_region ?_
  (first | refine rs_ex rfl (by (first | (constructor <;> first | rfl | exact RdC.rd | exact inferInstance) | exact Ex.pickF rfl rfl | exact Ex.eqlS rfl rfl | exact Ex.neqS rfl rfl | exact Ex.eqlPN rfl rfl | exact Ex.neqPN rfl rfl | exact Ex.eqlSN rfl rfl | exact Ex.neqSN rfl rfl | exact Ex.lenStr rfl)) rfl ?_ | refine rs_skip rfl rfl ?_)
  refine rs_ex rfl (ex_build rfl) rfl ?_
  refine rs_op rfl rfl (opR_makeMap fun b5 => ?_)
  refine rs_ex rfl (ex_build rfl) rfl ?_
  refine rs_op rfl rfl (opR_box rfl fun b7 => ?_)
  (first | refine rs_ex rfl (by (first | (constructor <;> first | rfl | exact RdC.rd | exact inferInstance) | exact Ex.pickF rfl rfl | exact Ex.eqlS rfl rfl | exact Ex.neqS rfl rfl | exact Ex.eqlPN rfl rfl | exact Ex.neqPN rfl rfl | exact Ex.eqlSN rfl rfl | exact Ex.neqSN rfl rfl | exact Ex.lenStr rfl)) rfl ?_ | refine rs_skip rfl rfl ?_)
  refine rs_end ?_
  refine qe_then ?_
  refine ct_heap (H' := SeqC b7 ⟨e, []⟩ :: H) (fun w h => ?_) ?_
  · have h1 : At W0 (MapC Id.v natV b5 [] :: Blk b7 _ :: H) w := At.map_new Id.v natV (At.sw1 h)
    exact SeqC.shut (s := ⟨e, []⟩) (v := .slice none 0 0) (fun i => rfl) (At.top [_, _, _] [2, 0, 1] (At.slt_nil (α := Numb) 51 h1))
  refine ct_ret ?_
  exact ret1 rfl rfl ⟨b7, rfl, rfl⟩
def Numb.zero : Numb := ⟨0, 0, Msg.zero⟩
/-- What a sequencer tells of a message. -/
def Seq.num (s : Seq) (m : Msg) : Numb × Int :=
  if m.right = false then (Numb.zero, 100) else
  match posN m.id s.l with
  | some k => (s.l[k]?.getD Numb.zero, 0)
  | none => (⟨s.e, (s.l.length : Int) + 1, m⟩, 0)
def Seq.next (s : Seq) (m : Msg) : Seq :=
  if m.right = false then s else
  match posN m.id s.l with
  | some _ => s
  | none => ⟨s.e, s.l ++ [⟨s.e, (s.l.length : Int) + 1, m⟩]⟩
theorem ex_lookAt {S : World → Prop} {σ : Env} {x y : Operand} {r : Nat} {m : List (Id × Nat)} (hx : σ.val x = some (.map (some r))) (k : Id) (hy : σ.val y = some k.v) (hr : RdM S r Id Nat Id.v natV m) :
    Ex Try.prog S σ (.lookup 128 x y true) (.tuple #[.int .i64 (((look m k).getD 0 : Nat) : Int), .bool (look m k).isSome]) := by
  have := ex_lookup_ok (P := Try.prog) (T := 128) hx k hy hr
  have e : ∀ o : Option Nat, lookV natV (.int .i64 0) o = .int .i64 ((o.getD 0 : Nat) : Int) := fun o => by cases o <;> rfl
  rw [e] at this
  exact this
theorem Number_nil (W0 : World) (m : Msg) (H : List Chunk) : Call Try.prog W0 54 [.pointer none, m.v] H (fun v H' => v = .tuple #[Numb.zero.v, .int .i64 1] ∧ H' = H) := by
  refine call_enter Try.func54 rfl Try.ntmps54 rfl ?_

  refine ct_seq ?_
  refine ct_region ?_
  refine rs_op rfl rfl (opR_box rfl fun b3 => ?_)
  refine rs_op rfl rfl (opR_alloc fun b4 => ?_)
  (first | refine rs_ex rfl (by (first | (constructor <;> first | rfl | exact RdC.rd | exact inferInstance) | exact Ex.pickF rfl rfl | exact Ex.eqlS rfl rfl | exact Ex.neqS rfl rfl | exact Ex.eqlPN rfl rfl | exact Ex.neqPN rfl rfl | exact Ex.eqlSN rfl rfl | exact Ex.neqSN rfl rfl | exact Ex.lenStr rfl)) rfl ?_ | refine rs_skip rfl rfl ?_)
  refine rs_end ?_
  refine qe_then ?_
  refine ct_seq ?_
  refine ct_block ?_
  refine ct_seq ?_
  refine ct_region ?_
  iterate 3 (first | refine rs_ex rfl (by (first | (constructor <;> first | rfl | exact RdC.rd | exact inferInstance) | exact Ex.pickF rfl rfl | exact Ex.eqlS rfl rfl | exact Ex.neqS rfl rfl | exact Ex.eqlPN rfl rfl | exact Ex.neqPN rfl rfl | exact Ex.eqlSN rfl rfl | exact Ex.neqSN rfl rfl | exact Ex.lenStr rfl)) rfl ?_ | refine rs_skip rfl rfl ?_)
  refine rs_end ?_
  refine qe_then ?_
  refine ct_cond rfl (fun h8 => ?_) (fun h8 => by cases h8)
  refine ct_seq ?_
  refine ct_region ?_
  refine rs_ex rfl (ex_build rfl) rfl ?_
  refine rs_opN rfl (opR_store rfl rfl rfl rfl ?_)
  (first | refine rs_ex rfl (by (first | (constructor <;> first | rfl | exact RdC.rd | exact inferInstance) | exact Ex.pickF rfl rfl | exact Ex.eqlS rfl rfl | exact Ex.neqS rfl rfl | exact Ex.eqlPN rfl rfl | exact Ex.neqPN rfl rfl | exact Ex.eqlSN rfl rfl | exact Ex.neqSN rfl rfl | exact Ex.lenStr rfl)) rfl ?_ | refine rs_skip rfl rfl ?_)
  refine rs_end ?_
  refine qe_then ?_
  refine ct_ret ?_
  exact retC2 (vs := [.int .u32 0, .int .u32 0, .int .i64 0, .int .u32 0, .string ⟨#[]⟩]) rfl rfl rfl rfl RdC.rd (fun j v e => by simpa using e) H (fun w h => h.fit) ⟨rfl, rfl⟩
theorem Number_c (W0 : World) (b : Nat) (s : Seq) (m : Msg) (H : List Chunk) (hl : s.l.length ≤ 100000) : Call Try.prog W0 54 [.pointer (some ⟨b, 0, none⟩), m.v] (SeqC b s :: H)
    (fun v H' => v = .tuple #[(s.num m).1.v, .int .i64 (s.num m).2] ∧ H' = SeqC b (s.next m) :: H) := by
  refine Call.ex (fun w h => SeqC.open h) ?_
  rintro ⟨⟨⟨p, c⟩, r, at_⟩, hi, hv⟩
  simp only at hi hv ⊢
  refine call_enter Try.func54 rfl Try.ntmps54 rfl ?_

  refine ct_seq ?_
  refine ct_region ?_
  refine rs_op rfl rfl (opR_box rfl fun b3 => ?_)
  refine rs_op rfl rfl (opR_alloc fun b4 => ?_)
  (first | refine rs_ex rfl (by (first | (constructor <;> first | rfl | exact RdC.rd | exact inferInstance) | exact Ex.pickF rfl rfl | exact Ex.eqlS rfl rfl | exact Ex.neqS rfl rfl | exact Ex.eqlPN rfl rfl | exact Ex.neqPN rfl rfl | exact Ex.eqlSN rfl rfl | exact Ex.neqSN rfl rfl | exact Ex.lenStr rfl)) rfl ?_ | refine rs_skip rfl rfl ?_)
  refine rs_end ?_
  refine qe_then ?_
  refine ct_seq ?_
  refine ct_block ?_
  refine ct_seq ?_
  refine ct_region ?_
  iterate 3 (first | refine rs_ex rfl (by (first | (constructor <;> first | rfl | exact RdC.rd | exact inferInstance) | exact Ex.pickF rfl rfl | exact Ex.eqlS rfl rfl | exact Ex.neqS rfl rfl | exact Ex.eqlPN rfl rfl | exact Ex.neqPN rfl rfl | exact Ex.eqlSN rfl rfl | exact Ex.neqSN rfl rfl | exact Ex.lenStr rfl)) rfl ?_ | refine rs_skip rfl rfl ?_)
  refine rs_end ?_
  refine qe_then ?_
  refine ct_cond rfl (fun h8 => by cases h8) (fun h8 => ?_)
  refine ct_seq ?_
  refine ct_region ?_
  (first | refine rs_ex rfl (by (first | (constructor <;> first | rfl | exact RdC.rd | exact inferInstance) | exact Ex.pickF rfl rfl | exact Ex.eqlS rfl rfl | exact Ex.neqS rfl rfl | exact Ex.eqlPN rfl rfl | exact Ex.neqPN rfl rfl | exact Ex.eqlSN rfl rfl | exact Ex.neqSN rfl rfl | exact Ex.lenStr rfl)) rfl ?_ | refine rs_skip rfl rfl ?_)
  refine rs_op rfl rfl (opR_fn rfl (Call.heap (fun w h => by (first | exact h | exact h.sw1 | exact h.sw2 | exact h.sw3 | exact h.sw4 | exact h.sw5 | exact h.sw6 | exact h.sw7 | exact h.sw8 | exact h.pull2 | exact h.pull3 | exact h.pull4 | exact h.pull5 | exact h.fit)) ((Right_c W0 m _).mono ?_)))
  rintro v H' ⟨rfl, rfl⟩
  iterate 2 (first | refine rs_ex rfl (by (first | (constructor <;> first | rfl | exact RdC.rd | exact inferInstance) | exact Ex.pickF rfl rfl | exact Ex.eqlS rfl rfl | exact Ex.neqS rfl rfl | exact Ex.eqlPN rfl rfl | exact Ex.neqPN rfl rfl | exact Ex.eqlSN rfl rfl | exact Ex.neqSN rfl rfl | exact Ex.lenStr rfl)) rfl ?_ | refine rs_skip rfl rfl ?_)
  refine rs_end ?_
  refine qe_then ?_
  refine ct_cond rfl (fun h12 => ?_) (fun h12 => ?_)
  · have hr : m.right = false := by simpa using h12
    refine ct_seq ?_
    refine ct_region ?_
    refine rs_ex rfl (ex_build rfl) rfl ?_
    refine rs_opN rfl (opR_store rfl rfl rfl rfl ?_)
    (first | refine rs_ex rfl (by (first | (constructor <;> first | rfl | exact RdC.rd | exact inferInstance) | exact Ex.pickF rfl rfl | exact Ex.eqlS rfl rfl | exact Ex.neqS rfl rfl | exact Ex.eqlPN rfl rfl | exact Ex.neqPN rfl rfl | exact Ex.eqlSN rfl rfl | exact Ex.neqSN rfl rfl | exact Ex.lenStr rfl)) rfl ?_ | refine rs_skip rfl rfl ?_)
    refine rs_end ?_
    refine qe_then ?_
    refine ct_ret ?_
    exact retC2 (vs := [.int .u32 0, .int .u32 0, .int .i64 0, .int .u32 0, .string ⟨#[]⟩]) rfl rfl rfl rfl RdC.rd (fun j v e => by simpa using e) (SeqC b s :: H) (fun w h => SeqC.shut hi h.drop.drop) ⟨by rw [Seq.num, if_pos hr]; rfl, by rw [Seq.next, if_pos hr]⟩
  · have hr : ¬ m.right = false := by simpa using h12
    refine ct_skip ?_
    refine qe_block 0 ?_
    refine qe_then ?_
    refine ct_seq ?_
    refine ct_draw0 (by kernel_rfl) ?_
    refine ra_take 0 rfl (by kernel_rfl) (by kernel_rfl) rfl (by (first | (constructor <;> first | rfl | exact RdC.rd | exact inferInstance) | exact Ex.pickF rfl rfl | exact Ex.eqlS rfl rfl | exact Ex.neqS rfl rfl | exact Ex.eqlPN rfl rfl | exact Ex.neqPN rfl rfl | exact Ex.eqlSN rfl rfl | exact Ex.neqSN rfl rfl | exact Ex.lenStr rfl)) rfl (fun _ h => h.fit) ?_
    refine ra_take 1 rfl (by kernel_rfl) (by kernel_rfl) rfl (by (first | (constructor <;> first | rfl | exact RdC.rd | exact inferInstance) | exact Ex.pickF rfl rfl | exact Ex.eqlS rfl rfl | exact Ex.neqS rfl rfl | exact Ex.eqlPN rfl rfl | exact Ex.neqPN rfl rfl | exact Ex.eqlSN rfl rfl | exact Ex.neqSN rfl rfl | exact Ex.lenStr rfl)) rfl (fun _ h => h.fit) ?_
    refine ra_take 2 rfl (by kernel_rfl) (by kernel_rfl) rfl (by (first | (constructor <;> first | rfl | exact RdC.rd | exact inferInstance) | exact Ex.pickF rfl rfl | exact Ex.eqlS rfl rfl | exact Ex.neqS rfl rfl | exact Ex.eqlPN rfl rfl | exact Ex.neqPN rfl rfl | exact Ex.eqlSN rfl rfl | exact Ex.neqSN rfl rfl | exact Ex.lenStr rfl)) rfl (fun _ h => h.fit) ?_
    refine ra_take 3 rfl (by kernel_rfl) (by kernel_rfl) rfl (by (first | (constructor <;> first | rfl | exact RdC.rd | exact inferInstance) | exact Ex.pickF rfl rfl | exact Ex.eqlS rfl rfl | exact Ex.neqS rfl rfl | exact Ex.eqlPN rfl rfl | exact Ex.neqPN rfl rfl | exact Ex.eqlSN rfl rfl | exact Ex.neqSN rfl rfl | exact Ex.lenStr rfl)) rfl (fun _ h => h.fit) ?_
    refine ra_take 4 rfl (by kernel_rfl) (by kernel_rfl) rfl (by (first | (constructor <;> first | rfl | exact RdC.rd | exact inferInstance) | exact Ex.pickF rfl rfl | exact Ex.eqlS rfl rfl | exact Ex.neqS rfl rfl | exact Ex.eqlPN rfl rfl | exact Ex.neqPN rfl rfl | exact Ex.eqlSN rfl rfl | exact Ex.neqSN rfl rfl | exact Ex.lenStr rfl)) rfl (fun _ h => h.fit) ?_
    refine ra_take 5 rfl (by kernel_rfl) (by kernel_rfl) rfl (by (first | (constructor <;> first | rfl | exact RdC.rd | exact inferInstance) | exact Ex.pickF rfl rfl | exact Ex.eqlS rfl rfl | exact Ex.neqS rfl rfl | exact Ex.eqlPN rfl rfl | exact Ex.neqPN rfl rfl | exact Ex.eqlSN rfl rfl | exact Ex.neqSN rfl rfl | exact Ex.lenStr rfl)) rfl (fun _ h => h.fit) ?_
    refine ra_take 6 rfl (by kernel_rfl) (by kernel_rfl) rfl (ex_lookAt rfl m.id rfl inferInstance) rfl (fun _ h => h.fit) ?_
    refine ra_rw (by rw [hi m.id]) ?_
    refine ra_take 7 rfl (by kernel_rfl) (by kernel_rfl) rfl (by (first | (constructor <;> first | rfl | exact RdC.rd | exact inferInstance) | exact Ex.pickF rfl rfl | exact Ex.eqlS rfl rfl | exact Ex.neqS rfl rfl | exact Ex.eqlPN rfl rfl | exact Ex.neqPN rfl rfl | exact Ex.eqlSN rfl rfl | exact Ex.neqSN rfl rfl | exact Ex.lenStr rfl)) rfl (fun _ h => h.fit) ?_
    refine ra_take 8 rfl (by kernel_rfl) (by kernel_rfl) rfl (by (first | (constructor <;> first | rfl | exact RdC.rd | exact inferInstance) | exact Ex.pickF rfl rfl | exact Ex.eqlS rfl rfl | exact Ex.neqS rfl rfl | exact Ex.eqlPN rfl rfl | exact Ex.neqPN rfl rfl | exact Ex.eqlSN rfl rfl | exact Ex.neqSN rfl rfl | exact Ex.lenStr rfl)) rfl (fun _ h => h.fit) ?_
    refine ra_take 9 rfl (by kernel_rfl) (by kernel_rfl) rfl (by (first | (constructor <;> first | rfl | exact RdC.rd | exact inferInstance) | exact Ex.pickF rfl rfl | exact Ex.eqlS rfl rfl | exact Ex.neqS rfl rfl | exact Ex.eqlPN rfl rfl | exact Ex.neqPN rfl rfl | exact Ex.eqlSN rfl rfl | exact Ex.neqSN rfl rfl | exact Ex.lenStr rfl)) rfl (fun _ h => h.fit) ?_
    refine ra_take 10 rfl (by kernel_rfl) (by kernel_rfl) rfl (by (first | (constructor <;> first | rfl | exact RdC.rd | exact inferInstance) | exact Ex.pickF rfl rfl | exact Ex.eqlS rfl rfl | exact Ex.neqS rfl rfl | exact Ex.eqlPN rfl rfl | exact Ex.neqPN rfl rfl | exact Ex.eqlSN rfl rfl | exact Ex.neqSN rfl rfl | exact Ex.lenStr rfl)) rfl (fun _ h => h.fit) ?_
    refine ra_take 11 rfl (by kernel_rfl) (by kernel_rfl) rfl (by (first | (constructor <;> first | rfl | exact RdC.rd | exact inferInstance) | exact Ex.pickF rfl rfl | exact Ex.eqlS rfl rfl | exact Ex.neqS rfl rfl | exact Ex.eqlPN rfl rfl | exact Ex.neqPN rfl rfl | exact Ex.eqlSN rfl rfl | exact Ex.neqSN rfl rfl | exact Ex.lenStr rfl)) rfl (fun _ h => h.fit) ?_
    refine ra_end (by kernel_rfl) ?_
    refine qe_then ?_
    refine ct_meetc (ζ := (Option Addr × Nat) × List Numb × Nat × List (Id × Nat) × Numb) (fun q => SlV q.1.1 q.1.2 q.2.1 ∧ (∀ i, look q.2.2.2.1 i = posN i q.2.1) ∧ q.2.1[q.2.2.1]? = some q.2.2.2.2 ∧ s.num m = (q.2.2.2.2, 0) ∧ s.next m = ⟨s.e, q.2.1⟩ ∧ q.2.1.length ≤ 100001) [(0, _), (4, _)] (fun q => [(6, .int .i64 (q.2.2.1 : Int))]) (fun q => Blk b4 (.cells #[.int .u32 0, .int .u32 0, .int .i64 0, .int .u32 0, .string ⟨#[]⟩] 51 (0, 0)) :: Blk b (.cells #[.int .u32 s.e, .slice q.1.1 q.2.1.length q.1.2, .map (some r)] 130 (0, 0)) :: SlT 51 (.slice q.1.1 q.2.1.length q.1.2) q.2.1 :: MapC Id.v natV r q.2.2.2.1 :: H) ⟨rfl, rfl, trivial⟩ ?_ ?_
    · refine ct_seq ?_
      refine ct_region ?_
      iterate 2 (first | refine rs_ex rfl (by (first | (constructor <;> first | rfl | exact RdC.rd | exact inferInstance) | exact Ex.pickF rfl rfl | exact Ex.eqlS rfl rfl | exact Ex.neqS rfl rfl | exact Ex.eqlPN rfl rfl | exact Ex.neqPN rfl rfl | exact Ex.eqlSN rfl rfl | exact Ex.neqSN rfl rfl | exact Ex.lenStr rfl)) rfl ?_ | refine rs_skip rfl rfl ?_)
      refine rs_end ?_
      refine qe_then ?_
      refine ct_cond rfl (fun h28 => ?_) (fun h28 => ?_)
      · have hn : posN m.id s.l = none := by simpa using h28
        refine ct_seq ?_
        refine ct_region ?_
        iterate 6 (first | refine rs_ex rfl (by (first | (constructor <;> first | rfl | exact RdC.rd | exact inferInstance) | exact Ex.pickF rfl rfl | exact Ex.eqlS rfl rfl | exact Ex.neqS rfl rfl | exact Ex.eqlPN rfl rfl | exact Ex.neqPN rfl rfl | exact Ex.eqlSN rfl rfl | exact Ex.neqSN rfl rfl | exact Ex.lenStr rfl)) rfl ?_ | refine rs_skip rfl rfl ?_)
        refine rs_end ?_
        refine qe_then ?_
        refine ct_seq ?_
        refine ct_draw0 (by kernel_rfl) ?_
        refine ra_take 0 rfl (by kernel_rfl) (by kernel_rfl) rfl (by (first | (constructor <;> first | rfl | exact RdC.rd | exact inferInstance) | exact Ex.pickF rfl rfl | exact Ex.eqlS rfl rfl | exact Ex.neqS rfl rfl | exact Ex.eqlPN rfl rfl | exact Ex.neqPN rfl rfl | exact Ex.eqlSN rfl rfl | exact Ex.neqSN rfl rfl | exact Ex.lenStr rfl)) rfl (fun _ h => h.fit) ?_
        refine ra_take 1 rfl (by kernel_rfl) (by kernel_rfl) rfl (by (first | (constructor <;> first | rfl | exact RdC.rd | exact inferInstance) | exact Ex.pickF rfl rfl | exact Ex.eqlS rfl rfl | exact Ex.neqS rfl rfl | exact Ex.eqlPN rfl rfl | exact Ex.neqPN rfl rfl | exact Ex.eqlSN rfl rfl | exact Ex.neqSN rfl rfl | exact Ex.lenStr rfl)) rfl (fun _ h => h.fit) ?_
        refine ra_take 2 rfl (by kernel_rfl) (by kernel_rfl) rfl (by (first | (constructor <;> first | rfl | exact RdC.rd | exact inferInstance) | exact Ex.pickF rfl rfl | exact Ex.eqlS rfl rfl | exact Ex.neqS rfl rfl | exact Ex.eqlPN rfl rfl | exact Ex.neqPN rfl rfl | exact Ex.eqlSN rfl rfl | exact Ex.neqSN rfl rfl | exact Ex.lenStr rfl)) rfl (fun _ h => h.fit) ?_
        refine ra_take 3 rfl (by kernel_rfl) (by kernel_rfl) rfl (by (first | (constructor <;> first | rfl | exact RdC.rd | exact inferInstance) | exact Ex.pickF rfl rfl | exact Ex.eqlS rfl rfl | exact Ex.neqS rfl rfl | exact Ex.eqlPN rfl rfl | exact Ex.neqPN rfl rfl | exact Ex.eqlSN rfl rfl | exact Ex.neqSN rfl rfl | exact Ex.lenStr rfl)) rfl (fun _ h => h.fit) ?_
        refine ra_take 4 rfl (by kernel_rfl) (by kernel_rfl) rfl (by (first | (constructor <;> first | rfl | exact RdC.rd | exact inferInstance) | exact Ex.pickF rfl rfl | exact Ex.eqlS rfl rfl | exact Ex.neqS rfl rfl | exact Ex.eqlPN rfl rfl | exact Ex.neqPN rfl rfl | exact Ex.eqlSN rfl rfl | exact Ex.neqSN rfl rfl | exact Ex.lenStr rfl)) rfl (fun _ h => h.fit) ?_
        refine ra_take 5 rfl (by kernel_rfl) (by kernel_rfl) rfl (by (first | (constructor <;> first | rfl | exact RdC.rd | exact inferInstance) | exact Ex.pickF rfl rfl | exact Ex.eqlS rfl rfl | exact Ex.neqS rfl rfl | exact Ex.eqlPN rfl rfl | exact Ex.neqPN rfl rfl | exact Ex.eqlSN rfl rfl | exact Ex.neqSN rfl rfl | exact Ex.lenStr rfl)) rfl (fun _ h => h.fit) ?_
        refine ra_take 6 rfl (by kernel_rfl) (by kernel_rfl) rfl (by (first | (constructor <;> first | rfl | exact RdC.rd | exact inferInstance) | exact Ex.pickF rfl rfl | exact Ex.eqlS rfl rfl | exact Ex.neqS rfl rfl | exact Ex.eqlPN rfl rfl | exact Ex.neqPN rfl rfl | exact Ex.eqlSN rfl rfl | exact Ex.neqSN rfl rfl | exact Ex.lenStr rfl)) rfl (fun _ h => h.fit) ?_
        refine ra_all (rs := [7]) (by kernel_rfl) rfl ?_
        refine each_opN rfl rfl (opR_mapUpdate (ev := natV) rfl m.id s.l.length rfl rfl ?_) each_nil
        refine ⟨.inl (by kernel_rfl), ?_⟩
        refine ra_end (by kernel_rfl) ?_
        refine qe_then ?_
        refine ct_drawP [1, 2] (by kernel_rfl) ?_
        refine ra_take 0 rfl (by kernel_rfl) (by kernel_rfl) rfl (by (first | (constructor <;> first | rfl | exact RdC.rd | exact inferInstance) | exact Ex.pickF rfl rfl | exact Ex.eqlS rfl rfl | exact Ex.neqS rfl rfl | exact Ex.eqlPN rfl rfl | exact Ex.neqPN rfl rfl | exact Ex.eqlSN rfl rfl | exact Ex.neqSN rfl rfl | exact Ex.lenStr rfl)) rfl (fun _ h => h.fit) ?_
        refine ra_take 1 rfl (by kernel_rfl) (by kernel_rfl) rfl (by (first | (constructor <;> first | rfl | exact RdC.rd | exact inferInstance) | exact Ex.pickF rfl rfl | exact Ex.eqlS rfl rfl | exact Ex.neqS rfl rfl | exact Ex.eqlPN rfl rfl | exact Ex.neqPN rfl rfl | exact Ex.eqlSN rfl rfl | exact Ex.neqSN rfl rfl | exact Ex.lenStr rfl)) rfl (fun _ h => h.fit) ?_
        refine ra_take 2 rfl (by kernel_rfl) (by kernel_rfl) rfl (by (first | (constructor <;> first | rfl | exact RdC.rd | exact inferInstance) | exact Ex.pickF rfl rfl | exact Ex.eqlS rfl rfl | exact Ex.neqS rfl rfl | exact Ex.eqlPN rfl rfl | exact Ex.neqPN rfl rfl | exact Ex.eqlSN rfl rfl | exact Ex.neqSN rfl rfl | exact Ex.lenStr rfl)) rfl (fun _ h => h.fit) ?_
        refine ra_take 3 rfl (by kernel_rfl) (by kernel_rfl) rfl (by (first | (constructor <;> first | rfl | exact RdC.rd | exact inferInstance) | exact Ex.pickF rfl rfl | exact Ex.eqlS rfl rfl | exact Ex.neqS rfl rfl | exact Ex.eqlPN rfl rfl | exact Ex.neqPN rfl rfl | exact Ex.eqlSN rfl rfl | exact Ex.neqSN rfl rfl | exact Ex.lenStr rfl)) rfl (fun _ h => h.fit) ?_
        refine ra_take 4 rfl (by kernel_rfl) (by kernel_rfl) rfl (by (first | (constructor <;> first | rfl | exact RdC.rd | exact inferInstance) | exact Ex.pickF rfl rfl | exact Ex.eqlS rfl rfl | exact Ex.neqS rfl rfl | exact Ex.eqlPN rfl rfl | exact Ex.neqPN rfl rfl | exact Ex.eqlSN rfl rfl | exact Ex.neqSN rfl rfl | exact Ex.lenStr rfl)) rfl (fun _ h => h.fit) ?_
        refine ra_take 5 rfl (by kernel_rfl) (by kernel_rfl) rfl (by (first | (constructor <;> first | rfl | exact RdC.rd | exact inferInstance) | exact Ex.pickF rfl rfl | exact Ex.eqlS rfl rfl | exact Ex.neqS rfl rfl | exact Ex.eqlPN rfl rfl | exact Ex.neqPN rfl rfl | exact Ex.eqlSN rfl rfl | exact Ex.neqSN rfl rfl | exact Ex.lenStr rfl)) rfl (fun _ h => h.fit) ?_
        refine ra_take 6 rfl (by kernel_rfl) (by kernel_rfl) rfl (by (first | (constructor <;> first | rfl | exact RdC.rd | exact inferInstance) | exact Ex.pickF rfl rfl | exact Ex.eqlS rfl rfl | exact Ex.neqS rfl rfl | exact Ex.eqlPN rfl rfl | exact Ex.neqPN rfl rfl | exact Ex.eqlSN rfl rfl | exact Ex.neqSN rfl rfl | exact Ex.lenStr rfl)) rfl (fun _ h => h.fit) ?_
        refine ra_take 7 rfl (by kernel_rfl) (by kernel_rfl) rfl (by (first | (constructor <;> first | rfl | exact RdC.rd | exact inferInstance) | exact Ex.pickF rfl rfl | exact Ex.eqlS rfl rfl | exact Ex.neqS rfl rfl | exact Ex.eqlPN rfl rfl | exact Ex.neqPN rfl rfl | exact Ex.eqlSN rfl rfl | exact Ex.neqSN rfl rfl | exact Ex.lenStr rfl)) rfl (fun _ h => h.fit) ?_
        refine ra_take 8 rfl (by kernel_rfl) (by kernel_rfl) rfl (by (first | (constructor <;> first | rfl | exact RdC.rd | exact inferInstance) | exact Ex.pickF rfl rfl | exact Ex.eqlS rfl rfl | exact Ex.neqS rfl rfl | exact Ex.eqlPN rfl rfl | exact Ex.neqPN rfl rfl | exact Ex.eqlSN rfl rfl | exact Ex.neqSN rfl rfl | exact Ex.lenStr rfl)) rfl (fun _ h => h.fit) ?_
        refine ra_take 9 rfl (by kernel_rfl) (by kernel_rfl) rfl (by (first | (constructor <;> first | rfl | exact RdC.rd | exact inferInstance) | exact Ex.pickF rfl rfl | exact Ex.eqlS rfl rfl | exact Ex.neqS rfl rfl | exact Ex.eqlPN rfl rfl | exact Ex.neqPN rfl rfl | exact Ex.eqlSN rfl rfl | exact Ex.neqSN rfl rfl | exact Ex.lenStr rfl)) rfl (fun _ h => h.fit) ?_
        refine ra_take 10 rfl (by kernel_rfl) (by kernel_rfl) rfl (by (first | (constructor <;> first | rfl | exact RdC.rd | exact inferInstance) | exact Ex.pickF rfl rfl | exact Ex.eqlS rfl rfl | exact Ex.neqS rfl rfl | exact Ex.eqlPN rfl rfl | exact Ex.neqPN rfl rfl | exact Ex.eqlSN rfl rfl | exact Ex.neqSN rfl rfl | exact Ex.lenStr rfl)) rfl (fun _ h => h.fit) ?_
        refine ra_take 11 rfl (by kernel_rfl) (by kernel_rfl) rfl (by (first | (constructor <;> first | rfl | exact RdC.rd | exact inferInstance) | exact Ex.pickF rfl rfl | exact Ex.eqlS rfl rfl | exact Ex.neqS rfl rfl | exact Ex.eqlPN rfl rfl | exact Ex.neqPN rfl rfl | exact Ex.eqlSN rfl rfl | exact Ex.neqSN rfl rfl | exact Ex.lenStr rfl)) rfl (fun _ h => h.fit) ?_
        refine ra_rw (by rw [wrap32 (by omega) (by omega)]) ?_
        refine ra_take 12 rfl (by kernel_rfl) (by kernel_rfl) rfl (by (first | (constructor <;> first | rfl | exact RdC.rd | exact inferInstance) | exact Ex.pickF rfl rfl | exact Ex.eqlS rfl rfl | exact Ex.neqS rfl rfl | exact Ex.eqlPN rfl rfl | exact Ex.neqPN rfl rfl | exact Ex.eqlSN rfl rfl | exact Ex.neqSN rfl rfl | exact Ex.lenStr rfl)) rfl (fun _ h => h.fit) ?_
        refine ra_rw (by rw [wrap32 (by omega) (by omega)]) ?_
        refine ra_take 13 rfl (by kernel_rfl) (by kernel_rfl) rfl (by (first | (constructor <;> first | rfl | exact RdC.rd | exact inferInstance) | exact Ex.pickF rfl rfl | exact Ex.eqlS rfl rfl | exact Ex.neqS rfl rfl | exact Ex.eqlPN rfl rfl | exact Ex.neqPN rfl rfl | exact Ex.eqlSN rfl rfl | exact Ex.neqSN rfl rfl | exact Ex.lenStr rfl)) rfl (fun _ h => h.fit) ?_
        refine ra_take 14 rfl (by kernel_rfl) (by kernel_rfl) rfl (ex_build rfl) rfl (fun _ h => h.fit) ?_
        refine ra_all (rs := [15]) (by kernel_rfl) rfl ?_
        refine each_op rfl rfl rfl (opR_buildSlice rfl rfl rfl rfl fun b56 => ?_) each_nil
        refine ⟨.inr (fun w h => h.fit), ?_⟩
        refine ra_Snew ?_
        refine ra_all (rs := [16]) (by kernel_rfl) rfl ?_
        refine each_op rfl rfl rfl (opR_append [⟨s.e, (s.l.length : Int) + 1, m⟩] rfl rfl (by exact SlR.blk RdC.rd [(⟨s.e, (s.l.length : Int) + 1, m⟩ : Numb)] rfl) rfl (by simp; omega) rfl fun p9 c9 hv9 => ?_) each_nil
        refine ⟨.inr (fun w h => h.fit), ?_⟩
        refine ra_take 17 rfl (by kernel_rfl) (by kernel_rfl) rfl (by (first | (constructor <;> first | rfl | exact RdC.rd | exact inferInstance) | exact Ex.pickF rfl rfl | exact Ex.eqlS rfl rfl | exact Ex.neqS rfl rfl | exact Ex.eqlPN rfl rfl | exact Ex.neqPN rfl rfl | exact Ex.eqlSN rfl rfl | exact Ex.neqSN rfl rfl | exact Ex.lenStr rfl)) rfl (fun _ h => h.fit) ?_
        refine ra_take 18 rfl (by kernel_rfl) (by kernel_rfl) rfl (by (first | (constructor <;> first | rfl | exact RdC.rd | exact inferInstance) | exact Ex.pickF rfl rfl | exact Ex.eqlS rfl rfl | exact Ex.neqS rfl rfl | exact Ex.eqlPN rfl rfl | exact Ex.neqPN rfl rfl | exact Ex.eqlSN rfl rfl | exact Ex.neqSN rfl rfl | exact Ex.lenStr rfl)) rfl (fun _ h => h.fit) ?_
        refine ra_all (rs := [19]) (by kernel_rfl) rfl ?_
        refine each_opN rfl rfl (opR_store rfl rfl rfl rfl ?_) each_nil
        refine ⟨.inl (by kernel_rfl), ?_⟩
        refine ra_end (by kernel_rfl) ?_
        refine qe_midc (((p9, c9), s.l ++ [(⟨s.e, (s.l.length : Int) + 1, m⟩ : Numb)], s.l.length, mset at_ m.id s.l.length, (⟨s.e, (s.l.length : Int) + 1, m⟩ : Numb))) (⟨hv9, fun i => by
          simp only
          rw [look_mset, hi, posN_snoc]
          by_cases e : i = m.id
          · rw [e, if_pos rfl, hn, if_pos rfl]
          · rw [if_neg e]
            cases posN i s.l with
            | some k => rfl
            | none => simp only; rw [if_neg (fun h => e h.symm)], by simp, by rw [Seq.num, if_neg hr, hn], by rw [Seq.next, if_neg hr, hn], by simp; omega⟩) ⟨rfl, rfl, rfl, trivial⟩ (fun w h => At.top [_, _, _, _, _, _] [1, 3, 4, 5] h)
      · obtain ⟨k0, hk0⟩ : ∃ k, posN m.id s.l = some k := by
          cases hp : posN m.id s.l with
          | none => rw [hp] at h28; cases h28
          | some k => exact ⟨k, rfl⟩
        obtain ⟨y0, hy0, _⟩ := posN_lt hk0
        rw [hk0]
        refine ct_skip ?_
        refine qe_midc (((p, c), s.l, k0, at_, y0)) (⟨hv, hi, hy0, by rw [Seq.num, if_neg hr, hk0]; simp only; rw [hy0]; rfl, by rw [Seq.next, if_neg hr, hk0], by simp only; omega⟩) ⟨rfl, rfl, rfl, trivial⟩ (fun w h => At.top [_, _, _, _, _] [0, 2, 3, 4] h)
    · rintro ⟨⟨p2, c2⟩, l2, k, at2, y⟩ ⟨hv2, hi2, hy, hnum, hnext, hl2⟩
      simp only at hv2 hi2 hy hnum hnext hl2 ⊢
      have hkl : k < l2.length := (List.getElem?_eq_some_iff.1 hy).1
      obtain ⟨bx, rfl⟩ := hv2.some hkl
      refine ct_seq ?_
      refine ct_region ?_
      iterate 5 (first | refine rs_ex rfl (by (first | (constructor <;> first | rfl | exact RdC.rd | exact inferInstance) | exact Ex.pickF rfl rfl | exact Ex.eqlS rfl rfl | exact Ex.neqS rfl rfl | exact Ex.eqlPN rfl rfl | exact Ex.neqPN rfl rfl | exact Ex.eqlSN rfl rfl | exact Ex.neqSN rfl rfl | exact Ex.lenStr rfl)) rfl ?_ | refine rs_skip rfl rfl ?_)
      refine rs_ex rfl (ex_indexAddr rfl rfl (by omega) (by omega)) rfl ?_
      refine rs_ex rfl (ex_loadNumb y rfl (RdE.get hy)) rfl ?_
      refine rs_opN rfl (opR_store rfl rfl rfl rfl ?_)
      (first | refine rs_ex rfl (by (first | (constructor <;> first | rfl | exact RdC.rd | exact inferInstance) | exact Ex.pickF rfl rfl | exact Ex.eqlS rfl rfl | exact Ex.neqS rfl rfl | exact Ex.eqlPN rfl rfl | exact Ex.neqPN rfl rfl | exact Ex.eqlSN rfl rfl | exact Ex.neqSN rfl rfl | exact Ex.lenStr rfl)) rfl ?_ | refine rs_skip rfl rfl ?_)
      refine rs_end ?_
      refine qe_then ?_
      refine ct_ret ?_
      exact retC2 (vs := [.int .u32 y.e, .int .u32 y.n, .int .i64 y.m.id.from_, .int .u32 y.m.id.count, .string y.m.data]) rfl rfl rfl rfl RdC.rd (fun j v e => by simpa using e) (SeqC b (s.next m) :: H) (fun w h => by rw [hnext]; exact SeqC.shut (s := ⟨s.e, l2⟩) hi2 h.drop) ⟨by rw [hnum]; rfl, rfl⟩
theorem CloneN_c (W0 : World) (p : Option Addr) (cap : Nat) (l : List Numb) (H : List Chunk) (hp : p = none → l = []) (hr : SlR (At W0 H) p l) (hl : l.length ≤ 100000) : Call Try.prog W0 76 [.slice p l.length cap] H (fun v H' => H' = SlT 51 v l :: H) := by
  refine call_enter Try.func76 rfl Try.ntmps76 rfl ?_

  refine ct_seq ?_
  refine ct_region ?_
  (first | refine rs_ex rfl (by (first | (constructor <;> first | rfl | exact RdC.rd | exact inferInstance) | exact Ex.pickF rfl rfl | exact Ex.eqlS rfl rfl | exact Ex.neqS rfl rfl | exact Ex.eqlPN rfl rfl | exact Ex.neqPN rfl rfl | exact Ex.eqlSN rfl rfl | exact Ex.neqSN rfl rfl | exact Ex.lenStr rfl)) rfl ?_ | refine rs_skip rfl rfl ?_)
  refine rs_end ?_
  refine qe_then ?_
  refine ct_seq ?_
  refine ct_seq ?_
  refine ct_region ?_
  iterate 2 (first | refine rs_ex rfl (by (first | (constructor <;> first | rfl | exact RdC.rd | exact inferInstance) | exact Ex.pickF rfl rfl | exact Ex.eqlS rfl rfl | exact Ex.neqS rfl rfl | exact Ex.eqlPN rfl rfl | exact Ex.neqPN rfl rfl | exact Ex.eqlSN rfl rfl | exact Ex.neqSN rfl rfl | exact Ex.lenStr rfl)) rfl ?_ | refine rs_skip rfl rfl ?_)
  refine rs_end ?_
  refine qe_then ?_
  refine ct_cond rfl (fun h4 => ?_) (fun h4 => ?_)
  · have e : l = [] := hp (by simpa using h4)
    subst e
    refine ct_seq ?_
    refine ct_region ?_
    (first | refine rs_ex rfl (by (first | (constructor <;> first | rfl | exact RdC.rd | exact inferInstance) | exact Ex.pickF rfl rfl | exact Ex.eqlS rfl rfl | exact Ex.neqS rfl rfl | exact Ex.eqlPN rfl rfl | exact Ex.neqPN rfl rfl | exact Ex.eqlSN rfl rfl | exact Ex.neqSN rfl rfl | exact Ex.lenStr rfl)) rfl ?_ | refine rs_skip rfl rfl ?_)
    refine rs_end ?_
    refine qe_then ?_
    refine ct_ret ?_
    exact qe_heap (fun w h => At.slt_nil (α := Numb) 51 h) (ret1 rfl rfl rfl)
  · refine ct_skip ?_
    refine qe_then ?_
    refine ct_seq ?_
    refine ct_region ?_
    refine rs_op rfl rfl (opR_buildSlice0 fun b5 => ?_)
    refine rs_heap (fun w h => At.slt_blk (α := Numb) (l := []) (cap := 0) h [] rfl rfl) ?_
    (first | refine rs_ex rfl (by (first | (constructor <;> first | rfl | exact RdC.rd | exact inferInstance) | exact Ex.pickF rfl rfl | exact Ex.eqlS rfl rfl | exact Ex.neqS rfl rfl | exact Ex.eqlPN rfl rfl | exact Ex.neqPN rfl rfl | exact Ex.eqlSN rfl rfl | exact Ex.neqSN rfl rfl | exact Ex.lenStr rfl)) rfl ?_ | refine rs_skip rfl rfl ?_)
    refine rs_op rfl rfl (opR_append l rfl rfl (hr.mono fun w h => h.drop) rfl (by simp; omega) rfl fun p' cap' hv' => ?_)
    (first | refine rs_ex rfl (by (first | (constructor <;> first | rfl | exact RdC.rd | exact inferInstance) | exact Ex.pickF rfl rfl | exact Ex.eqlS rfl rfl | exact Ex.neqS rfl rfl | exact Ex.eqlPN rfl rfl | exact Ex.neqPN rfl rfl | exact Ex.eqlSN rfl rfl | exact Ex.neqSN rfl rfl | exact Ex.lenStr rfl)) rfl ?_ | refine rs_skip rfl rfl ?_)
    refine rs_end ?_
    refine qe_then ?_
    refine ct_ret ?_
    exact ret1 rfl rfl rfl
theorem AllSeq_c (W0 : World) (b : Nat) (s : Seq) (H : List Chunk) (hl : s.l.length ≤ 100000) : Call Try.prog W0 55 [.pointer (some ⟨b, 0, none⟩)] (SeqC b s :: H) (fun v H' => H' = SlT 51 v s.l :: SeqC b s :: H) := by
  refine Call.ex (fun w h => SeqC.open h) ?_
  rintro ⟨⟨⟨p, c⟩, r, at_⟩, hi, hv⟩
  simp only at hi hv ⊢
  refine call_enter Try.func55 rfl Try.ntmps55 rfl ?_

  refine ct_seq ?_
  refine ct_region ?_
  (first | refine rs_ex rfl (by (first | (constructor <;> first | rfl | exact RdC.rd | exact inferInstance) | exact Ex.pickF rfl rfl | exact Ex.eqlS rfl rfl | exact Ex.neqS rfl rfl | exact Ex.eqlPN rfl rfl | exact Ex.neqPN rfl rfl | exact Ex.eqlSN rfl rfl | exact Ex.neqSN rfl rfl | exact Ex.lenStr rfl)) rfl ?_ | refine rs_skip rfl rfl ?_)
  refine rs_end ?_
  refine qe_then ?_
  refine ct_seq ?_
  refine ct_seq ?_
  refine ct_region ?_
  iterate 2 (first | refine rs_ex rfl (by (first | (constructor <;> first | rfl | exact RdC.rd | exact inferInstance) | exact Ex.pickF rfl rfl | exact Ex.eqlS rfl rfl | exact Ex.neqS rfl rfl | exact Ex.eqlPN rfl rfl | exact Ex.neqPN rfl rfl | exact Ex.eqlSN rfl rfl | exact Ex.neqSN rfl rfl | exact Ex.lenStr rfl)) rfl ?_ | refine rs_skip rfl rfl ?_)
  refine rs_end ?_
  refine qe_then ?_
  refine ct_cond rfl (fun h4 => by cases h4) (fun h4 => ?_)
  refine ct_skip ?_
  refine qe_then ?_
  refine ct_seq ?_
  refine ct_region ?_
  iterate 4 (first | refine rs_ex rfl (by (first | (constructor <;> first | rfl | exact RdC.rd | exact inferInstance) | exact Ex.pickF rfl rfl | exact Ex.eqlS rfl rfl | exact Ex.neqS rfl rfl | exact Ex.eqlPN rfl rfl | exact Ex.neqPN rfl rfl | exact Ex.eqlSN rfl rfl | exact Ex.neqSN rfl rfl | exact Ex.lenStr rfl)) rfl ?_ | refine rs_skip rfl rfl ?_)
  refine rs_op rfl rfl (opR_fn rfl (Call.heap (fun w h => by (first | exact h | exact h.sw1 | exact h.sw2 | exact h.sw3 | exact h.sw4 | exact h.sw5 | exact h.sw6 | exact h.sw7 | exact h.sw8 | exact h.pull2 | exact h.pull3 | exact h.pull4 | exact h.pull5 | exact h.fit)) ((CloneN_c W0 p c s.l _ hv.nil_of (by exact RdS.slR (len := s.l.length) inferInstance hv) hl).mono ?_)))
  rintro v H' rfl
  (first | refine rs_ex rfl (by (first | (constructor <;> first | rfl | exact RdC.rd | exact inferInstance) | exact Ex.pickF rfl rfl | exact Ex.eqlS rfl rfl | exact Ex.neqS rfl rfl | exact Ex.eqlPN rfl rfl | exact Ex.neqPN rfl rfl | exact Ex.eqlSN rfl rfl | exact Ex.neqSN rfl rfl | exact Ex.lenStr rfl)) rfl ?_ | refine rs_skip rfl rfl ?_)
  refine rs_end ?_
  refine qe_then ?_
  refine ct_ret ?_
  exact qe_heap (fun w h => At.sw1 (SeqC.shut (s := s) hi (At.top [_, _, _, _] [1, 2, 3, 0] h))) (ret1 rfl rfl rfl)
theorem AllSeq_nil (W0 : World) (H : List Chunk) : Call Try.prog W0 55 [.pointer none] H (fun v H' => v = .slice none 0 0 ∧ H' = H) := by
  refine call_enter Try.func55 rfl Try.ntmps55 rfl ?_

  refine ct_seq ?_
  refine ct_region ?_
  (first | refine rs_ex rfl (by (first | (constructor <;> first | rfl | exact RdC.rd | exact inferInstance) | exact Ex.pickF rfl rfl | exact Ex.eqlS rfl rfl | exact Ex.neqS rfl rfl | exact Ex.eqlPN rfl rfl | exact Ex.neqPN rfl rfl | exact Ex.eqlSN rfl rfl | exact Ex.neqSN rfl rfl | exact Ex.lenStr rfl)) rfl ?_ | refine rs_skip rfl rfl ?_)
  refine rs_end ?_
  refine qe_then ?_
  refine ct_seq ?_
  refine ct_seq ?_
  refine ct_region ?_
  iterate 2 (first | refine rs_ex rfl (by (first | (constructor <;> first | rfl | exact RdC.rd | exact inferInstance) | exact Ex.pickF rfl rfl | exact Ex.eqlS rfl rfl | exact Ex.neqS rfl rfl | exact Ex.eqlPN rfl rfl | exact Ex.neqPN rfl rfl | exact Ex.eqlSN rfl rfl | exact Ex.neqSN rfl rfl | exact Ex.lenStr rfl)) rfl ?_ | refine rs_skip rfl rfl ?_)
  refine rs_end ?_
  refine qe_then ?_
  refine ct_cond rfl (fun h4 => ?_) (fun h4 => by cases h4)
  refine ct_seq ?_
  refine ct_region ?_
  (first | refine rs_ex rfl (by (first | (constructor <;> first | rfl | exact RdC.rd | exact inferInstance) | exact Ex.pickF rfl rfl | exact Ex.eqlS rfl rfl | exact Ex.neqS rfl rfl | exact Ex.eqlPN rfl rfl | exact Ex.neqPN rfl rfl | exact Ex.eqlSN rfl rfl | exact Ex.neqSN rfl rfl | exact Ex.lenStr rfl)) rfl ?_ | refine rs_skip rfl rfl ?_)
  refine rs_end ?_
  refine qe_then ?_
  refine ct_ret ?_
  exact ret1 rfl rfl ⟨rfl, rfl⟩
end Go.Rost
