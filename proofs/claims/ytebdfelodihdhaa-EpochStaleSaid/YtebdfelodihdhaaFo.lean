/- A log of entries, folded: the era that it is, the next one. -/
import Derived.Test.YtebdfelodihdhaaVe
import Derived.Test.YtebdfelodihdhaaEn
import Derived.Test.YtebdfelodihdhaaBk
import Derived.Test.YtebdfelodihdhaaLs0
namespace Go.Rost
open Go Go.RowKit Go.Proofs

structure Era where
  epoch : Int
  ver : Int
  start : Int
  deriving DecidableEq
def Era.v (e : Era) : Value := .agg #[.int .u32 e.epoch, .int .i64 e.ver, .int .i64 e.start]
instance : Enc Era := ⟨3, Era.v, fun e => [.int .u32 e.epoch, .int .i64 e.ver, .int .i64 e.start], fun _ => rfl, fun _ => rfl, by decide⟩
instance : EncA Era := ⟨fun _ => rfl⟩
instance {e : Era} : CellsOf e.v [.int .u32 e.epoch, .int .i64 e.ver, .int .i64 e.start] := ⟨rfl⟩
instance : EqT Try.prog 38 Era.v 2 where
  eq d a b w hd := by
    obtain ⟨d, rfl⟩ : ∃ e, d = e + 2 := ⟨d - 2, by omega⟩
    obtain ⟨a1, a2, a3⟩ := a
    obtain ⟨b1, b2, b3⟩ := b
    refine (struct_eq Try.underlying38 (by kernel_rfl) (fields_cons (by decide) (a := .int .u32 a1) (b := .int .u32 b1) ?_ ?_ (eqT_int _ _ _ _ (by omega)) (fields_cons (by decide) (a := .int .i64 a2) (b := .int .i64 b2) ?_ ?_ (eqT_int _ _ _ _ (by omega)) (fields_cons (by decide) (a := .int .i64 a3) (b := .int .i64 b3) ?_ ?_ (eqT_int _ _ _ _ (by omega)) fields_nil)))).trans ?_
    iterate 6 simp [part, TPlain.agg]
    congr 1
    rw [Bool.eq_iff_iff]; simp
  le := by decide
theorem ex_loadEra {S : World → Prop} {σ : Env} {x : Operand} {b o : Nat} (a : Era) (hx : σ.val x = some (.pointer (some ⟨b, o, none⟩))) (h : Rd S b o (Enc.enc a)) : Ex Try.prog S σ (.load 38 x) a.v := ex_loadA (P := Try.prog) (T := 38) a hx h
theorem ex_neqEra {S : World → Prop} {σ : Env} {T' : TypeId} {x y : Operand} (a b : Era) (hx : σ.val x = some a.v) (hy : σ.val y = some b.v) : Ex Try.prog S σ (.binOp .neq 38 x y T') (.bool (!decide (a = b))) :=
  ex_neqT a b hx hy (by rfl) (fun w => guard_agg (by kernel_rfl) w)
theorem ex_eqlEra {S : World → Prop} {σ : Env} {T' : TypeId} {x y : Operand} (a b : Era) (hx : σ.val x = some a.v) (hy : σ.val y = some b.v) : Ex Try.prog S σ (.binOp .eql 38 x y T') (.bool (decide (a = b))) :=
  ex_eqT a b hx hy (by rfl) (fun w => guard_agg (by kernel_rfl) w)
structure Fold where
  book : Book
  eras : List Era
  count : Int
  back : Int
def Fold.last (f : Fold) : Era := (f.eras.getLast?).getD ⟨0, 0, 0⟩
def foldB (b bk : Nat) (ev : Value) (f : Fold) : Chunk := Blk b (.cells #[.pointer (some ⟨bk, 0, none⟩), ev, .int .i64 f.count, .int .i64 f.back] 56 (0, 0))
def FoldC (b : Nat) (f : Fold) : Chunk := Exs fun q : Nat × Value =>
  Star [Blk b (.cells #[.pointer (some ⟨q.1, 0, none⟩), q.2, .int .i64 f.count, .int .i64 f.back] 56 (0, 0)), SlT 38 q.2 f.eras, BookC q.1 f.book]
theorem FoldC.open {W0 : World} {b : Nat} {f : Fold} {H : List Chunk} {w : World} (h : At W0 (FoldC b f :: H) w) :
    ∃ q : Nat × Value, At W0 (Blk b (.cells #[.pointer (some ⟨q.1, 0, none⟩), q.2, .int .i64 f.count, .int .i64 f.back] 56 (0, 0)) :: SlT 38 q.2 f.eras :: BookC q.1 f.book :: H) w := by
  obtain ⟨q, h⟩ := At.ex.1 h
  exact ⟨q, At.star.1 h⟩
theorem FoldC.shut {W0 : World} {b bk : Nat} {ev : Value} {f : Fold} {H : List Chunk} {w : World} (h : At W0 (Blk b (.cells #[.pointer (some ⟨bk, 0, none⟩), ev, .int .i64 f.count, .int .i64 f.back] 56 (0, 0)) :: SlT 38 ev f.eras :: BookC bk f.book :: H) w) : At W0 (FoldC b f :: H) w :=
  At.ex.2 ⟨(bk, ev), At.star.2 h⟩
theorem last_get {l : List Era} {x : Era} (h : l.getLast? = some x) : l[l.length - 1]? = some x := by rw [← h, List.getLast?_eq_getElem?]
theorem Now_c (W0 : World) (b n : Nat) (u x y : Value) (p : Option Addr) (c : Nat) (l : List Era) (z : Era) (H : List Chunk) (hv : SlV p c l) (hz : l.getLast? = some z) (hn : l.length ≤ 100000) :
    Call Try.prog W0 20 [.pointer (some ⟨b, 0, none⟩)] (Blk b (.cells #[u, .slice p l.length c, x, y] 56 (0, 0)) :: SlT 38 (.slice p l.length c) l :: H)
      (fun v H' => v = z.v ∧ H' = Blk b (.cells #[u, .slice p l.length c, x, y] 56 (0, 0)) :: SlT 38 (.slice p l.length c) l :: H) := by
  have hg := last_get hz
  have hlt := (List.getElem?_eq_some_iff.1 hg).1
  obtain ⟨b1, rfl⟩ := hv.some hlt
  refine call_enter Try.func20 rfl Try.ntmps20 rfl ?_

  refine ct_seq ?_
  refine ct_region ?_
  refine rs_op rfl rfl (opR_alloc fun b2 => ?_)
  refine rs_end ?_
  refine qe_then ?_
  refine ct_seq ?_
  refine ct_draw0 (by kernel_rfl) ?_
  refine ra_take 0 rfl (by kernel_rfl) (by kernel_rfl) rfl (by (first | (constructor <;> first | rfl | exact RdC.rd | exact inferInstance) | exact Ex.pickF rfl rfl | exact Ex.eqlS rfl rfl | exact Ex.neqS rfl rfl | exact Ex.eqlPN rfl rfl | exact Ex.neqPN rfl rfl | exact Ex.eqlSN rfl rfl | exact Ex.neqSN rfl rfl | exact Ex.lenStr rfl)) rfl (fun _ h => h.fit) ?_
  refine ra_take 1 rfl (by kernel_rfl) (by kernel_rfl) rfl (by (first | (constructor <;> first | rfl | exact RdC.rd | exact inferInstance) | exact Ex.pickF rfl rfl | exact Ex.eqlS rfl rfl | exact Ex.neqS rfl rfl | exact Ex.eqlPN rfl rfl | exact Ex.neqPN rfl rfl | exact Ex.eqlSN rfl rfl | exact Ex.neqSN rfl rfl | exact Ex.lenStr rfl)) rfl (fun _ h => h.fit) ?_
  refine ra_take 2 rfl (by kernel_rfl) (by kernel_rfl) rfl (by (first | (constructor <;> first | rfl | exact RdC.rd | exact inferInstance) | exact Ex.pickF rfl rfl | exact Ex.eqlS rfl rfl | exact Ex.neqS rfl rfl | exact Ex.eqlPN rfl rfl | exact Ex.neqPN rfl rfl | exact Ex.eqlSN rfl rfl | exact Ex.neqSN rfl rfl | exact Ex.lenStr rfl)) rfl (fun _ h => h.fit) ?_
  refine ra_take 3 rfl (by kernel_rfl) (by kernel_rfl) rfl (by (first | (constructor <;> first | rfl | exact RdC.rd | exact inferInstance) | exact Ex.pickF rfl rfl | exact Ex.eqlS rfl rfl | exact Ex.neqS rfl rfl | exact Ex.eqlPN rfl rfl | exact Ex.neqPN rfl rfl | exact Ex.eqlSN rfl rfl | exact Ex.neqSN rfl rfl | exact Ex.lenStr rfl)) rfl (fun _ h => h.fit) ?_
  refine ra_take 4 rfl (by kernel_rfl) (by kernel_rfl) rfl (by (first | (constructor <;> first | rfl | exact RdC.rd | exact inferInstance) | exact Ex.pickF rfl rfl | exact Ex.eqlS rfl rfl | exact Ex.neqS rfl rfl | exact Ex.eqlPN rfl rfl | exact Ex.neqPN rfl rfl | exact Ex.eqlSN rfl rfl | exact Ex.neqSN rfl rfl | exact Ex.lenStr rfl)) rfl (fun _ h => h.fit) ?_
  refine ra_take 5 rfl (by kernel_rfl) (by kernel_rfl) rfl (by (first | (constructor <;> first | rfl | exact RdC.rd | exact inferInstance) | exact Ex.pickF rfl rfl | exact Ex.eqlS rfl rfl | exact Ex.neqS rfl rfl | exact Ex.eqlPN rfl rfl | exact Ex.neqPN rfl rfl | exact Ex.eqlSN rfl rfl | exact Ex.neqSN rfl rfl | exact Ex.lenStr rfl)) rfl (fun _ h => h.fit) ?_
  refine ra_take 6 rfl (by kernel_rfl) (by kernel_rfl) rfl (by (first | (constructor <;> first | rfl | exact RdC.rd | exact inferInstance) | exact Ex.pickF rfl rfl | exact Ex.eqlS rfl rfl | exact Ex.neqS rfl rfl | exact Ex.eqlPN rfl rfl | exact Ex.neqPN rfl rfl | exact Ex.eqlSN rfl rfl | exact Ex.neqSN rfl rfl | exact Ex.lenStr rfl)) rfl (fun _ h => h.fit) ?_
  refine ra_take 7 rfl (by kernel_rfl) (by kernel_rfl) rfl (by (first | (constructor <;> first | rfl | exact RdC.rd | exact inferInstance) | exact Ex.pickF rfl rfl | exact Ex.eqlS rfl rfl | exact Ex.neqS rfl rfl | exact Ex.eqlPN rfl rfl | exact Ex.neqPN rfl rfl | exact Ex.eqlSN rfl rfl | exact Ex.neqSN rfl rfl | exact Ex.lenStr rfl)) rfl (fun _ h => h.fit) ?_
  refine ra_take 8 rfl (by kernel_rfl) (by kernel_rfl) rfl (by (first | (constructor <;> first | rfl | exact RdC.rd | exact inferInstance) | exact Ex.pickF rfl rfl | exact Ex.eqlS rfl rfl | exact Ex.neqS rfl rfl | exact Ex.eqlPN rfl rfl | exact Ex.neqPN rfl rfl | exact Ex.eqlSN rfl rfl | exact Ex.neqSN rfl rfl | exact Ex.lenStr rfl)) rfl (fun _ h => h.fit) ?_
  refine ra_take 9 rfl (by kernel_rfl) (by kernel_rfl) rfl (by (first | (constructor <;> first | rfl | exact RdC.rd | exact inferInstance) | exact Ex.pickF rfl rfl | exact Ex.eqlS rfl rfl | exact Ex.neqS rfl rfl | exact Ex.eqlPN rfl rfl | exact Ex.neqPN rfl rfl | exact Ex.eqlSN rfl rfl | exact Ex.neqSN rfl rfl | exact Ex.lenStr rfl)) rfl (fun _ h => h.fit) ?_
  refine ra_rw (by rw [wrap64 (by omega) (by omega), show (l.length : Int) - 1 = ((l.length - 1 : Nat) : Int) by omega]) ?_
  refine ra_take 10 rfl (by kernel_rfl) (by kernel_rfl) rfl (ex_indexAddr rfl rfl (by omega) (by omega)) rfl (fun _ h => h.fit) ?_
  refine ra_take 11 rfl (by kernel_rfl) (by kernel_rfl) rfl (ex_loadEra z rfl (RdE.get hg)) rfl (fun _ h => h.fit) ?_
  refine ra_all (rs := [12]) (by kernel_rfl) rfl ?_
  refine each_opN rfl rfl (opR_store rfl rfl rfl rfl ?_) each_nil
  refine ⟨.inl (by kernel_rfl), ?_⟩
  refine ra_end (by kernel_rfl) ?_
  refine qe_then ?_
  refine ct_ret ?_
  exact retC rfl rfl rfl RdC.rd (fun j v e => by simpa using e) _ (fun w h => h.drop) ⟨rfl, rfl⟩
end Go.Rost
