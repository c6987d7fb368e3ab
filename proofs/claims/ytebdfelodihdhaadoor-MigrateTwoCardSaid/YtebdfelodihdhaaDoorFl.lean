/- A log of entries, folded: the era that it is, the next one. -/
import Derived.Test.YtebdfelodihdhaaDoorVe
import Derived.Test.YtebdfelodihdhaaDoorEn
import Derived.Test.YtebdfelodihdhaaDoorBk
import Derived.Test.YtebdfelodihdhaaDoorLs0
import Derived.Test.YtebdfelodihdhaaDoorCf
import Derived.Test.YtebdfelodihdhaaDoorMo
namespace Go.Rost
open Go Go.RowKit Go.Proofs

structure Era where
  epoch : Int
  ver : Int
  start : Int
  deriving DecidableEq
def Era.v (e : Era) : Value := .agg #[.int .u32 e.epoch, .int .i64 e.ver, .int .i64 e.start]
instance : Enc Era := ⟨3, Era.v, fun e => [.int .u32 e.epoch, .int .i64 e.ver, .int .i64 e.start], fun _ => rfl, fun _ => rfl, by decide⟩
instance : EncA Era := ⟨fun _ => rfl⟩
instance {e : Era} : CellsOf e.v [.int .u32 e.epoch, .int .i64 e.ver, .int .i64 e.start] := ⟨rfl⟩
instance : EqT Tryd.prog 55 Era.v 2 where
  eq d a b w hd := by
    obtain ⟨d, rfl⟩ : ∃ e, d = e + 2 := ⟨d - 2, by omega⟩
    obtain ⟨a1, a2, a3⟩ := a
    obtain ⟨b1, b2, b3⟩ := b
    refine (struct_eq Tryd.underlying55 (by kernel_rfl) (fields_cons (by decide) (a := .int .u32 a1) (b := .int .u32 b1) ?_ ?_ (eqT_int _ _ _ _ (by omega)) (fields_cons (by decide) (a := .int .i64 a2) (b := .int .i64 b2) ?_ ?_ (eqT_int _ _ _ _ (by omega)) (fields_cons (by decide) (a := .int .i64 a3) (b := .int .i64 b3) ?_ ?_ (eqT_int _ _ _ _ (by omega)) fields_nil)))).trans ?_
    iterate 6 simp [part, TPlain.agg]
    congr 1
    rw [Bool.eq_iff_iff]; simp
  le := by decide
theorem ex_loadEra {S : World → Prop} {σ : Env} {x : Operand} {b o : Nat} (a : Era) (hx : σ.val x = some (.pointer (some ⟨b, o, none⟩))) (h : Rd S b o (Enc.enc a)) : Ex Tryd.prog S σ (.load 55 x) a.v := ex_loadA (P := Tryd.prog) (T := 55) a hx h
theorem ex_neqEra {S : World → Prop} {σ : Env} {T' : TypeId} {x y : Operand} (a b : Era) (hx : σ.val x = some a.v) (hy : σ.val y = some b.v) : Ex Tryd.prog S σ (.binOp .neq 55 x y T') (.bool (!decide (a = b))) :=
  ex_neqT a b hx hy (by rfl) (fun w => guard_agg (by kernel_rfl) w)
theorem ex_eqlEra {S : World → Prop} {σ : Env} {T' : TypeId} {x y : Operand} (a b : Era) (hx : σ.val x = some a.v) (hy : σ.val y = some b.v) : Ex Tryd.prog S σ (.binOp .eql 55 x y T') (.bool (decide (a = b))) :=
  ex_eqT a b hx hy (by rfl) (fun w => guard_agg (by kernel_rfl) w)
structure Fold where
  book : Book
  eras : List Era
  count : Int
  back : Int
def Fold.last (f : Fold) : Era := (f.eras.getLast?).getD ⟨0, 0, 0⟩
def foldB (b bk : Nat) (ev : Value) (f : Fold) : Chunk := Blk b (.cells #[.pointer (some ⟨bk, 0, none⟩), ev, .int .i64 f.count, .int .i64 f.back] 109 (0, 0))
def FoldC (b : Nat) (f : Fold) : Chunk := Exs fun q : Nat × Value =>
  Star [Blk b (.cells #[.pointer (some ⟨q.1, 0, none⟩), q.2, .int .i64 f.count, .int .i64 f.back] 109 (0, 0)), SlT 55 q.2 f.eras, BookC q.1 f.book]
theorem FoldC.open {W0 : World} {b : Nat} {f : Fold} {H : List Chunk} {w : World} (h : At W0 (FoldC b f :: H) w) :
    ∃ q : Nat × Value, At W0 (Blk b (.cells #[.pointer (some ⟨q.1, 0, none⟩), q.2, .int .i64 f.count, .int .i64 f.back] 109 (0, 0)) :: SlT 55 q.2 f.eras :: BookC q.1 f.book :: H) w := by
  obtain ⟨q, h⟩ := At.ex.1 h
  exact ⟨q, At.star.1 h⟩
theorem FoldC.shut {W0 : World} {b bk : Nat} {ev : Value} {f : Fold} {H : List Chunk} {w : World} (h : At W0 (Blk b (.cells #[.pointer (some ⟨bk, 0, none⟩), ev, .int .i64 f.count, .int .i64 f.back] 109 (0, 0)) :: SlT 55 ev f.eras :: BookC bk f.book :: H) w) : At W0 (FoldC b f :: H) w :=
  At.ex.2 ⟨(bk, ev), At.star.2 h⟩
theorem last_get {l : List Era} {x : Era} (h : l.getLast? = some x) : l[l.length - 1]? = some x := by rw [← h, List.getLast?_eq_getElem?]
theorem Now_c (W0 : World) (b _n : Nat) (u x y : Value) (p : Option Addr) (c : Nat) (l : List Era) (z : Era) (H : List Chunk) (hv : SlV p c l) (hz : l.getLast? = some z) (hn : l.length ≤ 100000) :
    Call Tryd.prog W0 65 [.pointer (some ⟨b, 0, none⟩)] (Blk b (.cells #[u, .slice p l.length c, x, y] 109 (0, 0)) :: SlT 55 (.slice p l.length c) l :: H)
      (fun v H' => v = z.v ∧ H' = Blk b (.cells #[u, .slice p l.length c, x, y] 109 (0, 0)) :: SlT 55 (.slice p l.length c) l :: H) := by
  have hg := last_get hz
  have hlt := (List.getElem?_eq_some_iff.1 hg).1
  obtain ⟨b1, rfl⟩ := hv.some hlt
  refine call_enter Tryd.func65 rfl Tryd.ntmps65 rfl ?_

  refine ct_seq ?_
  refine ct_region ?_
  refine rs_op rfl rfl (opR_alloc fun b2 => ?_)
  refine rs_end ?_
  refine qe_then ?_
  refine ct_seq ?_
  refine ct_draw0 (by kernel_rfl) ?_
  refine ra_take 0 rfl (by kernel_rfl) (by kernel_rfl) rfl (by (first | (constructor <;> first | rfl | exact RdC.rd | exact inferInstance) | exact Ex.pickF rfl rfl | exact Ex.eqlS rfl rfl | exact Ex.neqS rfl rfl | exact Ex.eqlPN rfl rfl | exact Ex.neqPN rfl rfl | exact Ex.eqlSN rfl rfl | exact Ex.neqSN rfl rfl | exact Ex.lenStr rfl)) rfl (fun _ h => h.fit) ?_
  refine ra_take 1 rfl (by kernel_rfl) (by kernel_rfl) rfl (by (first | (constructor <;> first | rfl | exact RdC.rd | exact inferInstance) | exact Ex.pickF rfl rfl | exact Ex.eqlS rfl rfl | exact Ex.neqS rfl rfl | exact Ex.eqlPN rfl rfl | exact Ex.neqPN rfl rfl | exact Ex.eqlSN rfl rfl | exact Ex.neqSN rfl rfl | exact Ex.lenStr rfl)) rfl (fun _ h => h.fit) ?_
  refine ra_take 2 rfl (by kernel_rfl) (by kernel_rfl) rfl (by (first | (constructor <;> first | rfl | exact RdC.rd | exact inferInstance) | exact Ex.pickF rfl rfl | exact Ex.eqlS rfl rfl | exact Ex.neqS rfl rfl | exact Ex.eqlPN rfl rfl | exact Ex.neqPN rfl rfl | exact Ex.eqlSN rfl rfl | exact Ex.neqSN rfl rfl | exact Ex.lenStr rfl)) rfl (fun _ h => h.fit) ?_
  refine ra_take 3 rfl (by kernel_rfl) (by kernel_rfl) rfl (by (first | (constructor <;> first | rfl | exact RdC.rd | exact inferInstance) | exact Ex.pickF rfl rfl | exact Ex.eqlS rfl rfl | exact Ex.neqS rfl rfl | exact Ex.eqlPN rfl rfl | exact Ex.neqPN rfl rfl | exact Ex.eqlSN rfl rfl | exact Ex.neqSN rfl rfl | exact Ex.lenStr rfl)) rfl (fun _ h => h.fit) ?_
  refine ra_take 4 rfl (by kernel_rfl) (by kernel_rfl) rfl (by (first | (constructor <;> first | rfl | exact RdC.rd | exact inferInstance) | exact Ex.pickF rfl rfl | exact Ex.eqlS rfl rfl | exact Ex.neqS rfl rfl | exact Ex.eqlPN rfl rfl | exact Ex.neqPN rfl rfl | exact Ex.eqlSN rfl rfl | exact Ex.neqSN rfl rfl | exact Ex.lenStr rfl)) rfl (fun _ h => h.fit) ?_
  refine ra_take 5 rfl (by kernel_rfl) (by kernel_rfl) rfl (by (first | (constructor <;> first | rfl | exact RdC.rd | exact inferInstance) | exact Ex.pickF rfl rfl | exact Ex.eqlS rfl rfl | exact Ex.neqS rfl rfl | exact Ex.eqlPN rfl rfl | exact Ex.neqPN rfl rfl | exact Ex.eqlSN rfl rfl | exact Ex.neqSN rfl rfl | exact Ex.lenStr rfl)) rfl (fun _ h => h.fit) ?_
  refine ra_take 6 rfl (by kernel_rfl) (by kernel_rfl) rfl (by (first | (constructor <;> first | rfl | exact RdC.rd | exact inferInstance) | exact Ex.pickF rfl rfl | exact Ex.eqlS rfl rfl | exact Ex.neqS rfl rfl | exact Ex.eqlPN rfl rfl | exact Ex.neqPN rfl rfl | exact Ex.eqlSN rfl rfl | exact Ex.neqSN rfl rfl | exact Ex.lenStr rfl)) rfl (fun _ h => h.fit) ?_
  refine ra_take 7 rfl (by kernel_rfl) (by kernel_rfl) rfl (by (first | (constructor <;> first | rfl | exact RdC.rd | exact inferInstance) | exact Ex.pickF rfl rfl | exact Ex.eqlS rfl rfl | exact Ex.neqS rfl rfl | exact Ex.eqlPN rfl rfl | exact Ex.neqPN rfl rfl | exact Ex.eqlSN rfl rfl | exact Ex.neqSN rfl rfl | exact Ex.lenStr rfl)) rfl (fun _ h => h.fit) ?_
  refine ra_take 8 rfl (by kernel_rfl) (by kernel_rfl) rfl (by (first | (constructor <;> first | rfl | exact RdC.rd | exact inferInstance) | exact Ex.pickF rfl rfl | exact Ex.eqlS rfl rfl | exact Ex.neqS rfl rfl | exact Ex.eqlPN rfl rfl | exact Ex.neqPN rfl rfl | exact Ex.eqlSN rfl rfl | exact Ex.neqSN rfl rfl | exact Ex.lenStr rfl)) rfl (fun _ h => h.fit) ?_
  refine ra_take 9 rfl (by kernel_rfl) (by kernel_rfl) rfl (by (first | (constructor <;> first | rfl | exact RdC.rd | exact inferInstance) | exact Ex.pickF rfl rfl | exact Ex.eqlS rfl rfl | exact Ex.neqS rfl rfl | exact Ex.eqlPN rfl rfl | exact Ex.neqPN rfl rfl | exact Ex.eqlSN rfl rfl | exact Ex.neqSN rfl rfl | exact Ex.lenStr rfl)) rfl (fun _ h => h.fit) ?_
  refine ra_rw (by rw [wrap64 (by omega) (by omega), show (l.length : Int) - 1 = ((l.length - 1 : Nat) : Int) by omega]) ?_
  refine ra_take 10 rfl (by kernel_rfl) (by kernel_rfl) rfl (ex_indexAddr rfl rfl (by omega) (by omega)) rfl (fun _ h => h.fit) ?_
  refine ra_take 11 rfl (by kernel_rfl) (by kernel_rfl) rfl (ex_loadEra z rfl (RdE.get hg)) rfl (fun _ h => h.fit) ?_
  refine ra_all (rs := [12]) (by kernel_rfl) rfl ?_
  refine each_opN rfl rfl (opR_store rfl rfl rfl rfl ?_) each_nil
  refine ⟨.inl (by kernel_rfl), ?_⟩
  refine ra_end (by kernel_rfl) ?_
  refine qe_then ?_
  refine ct_ret ?_
  exact retC rfl rfl rfl RdC.rd (fun j v e => by simpa using e) _ (fun w h => h.drop) ⟨rfl, rfl⟩
end Go.Rost
/- A log of entries, folded: what a batch, a switch, a return do. -/
namespace Go.Rost
open Go Go.RowKit Go.Proofs

theorem Begins_c (W0 : World) (b n : Nat) (u : Value) (k0 bk0 ver back : Int) (p : Option Addr) (c : Nat) (l : List Era) (z : Era) (H : List Chunk) (hv : SlV p c l) (hz : l.getLast? = some z) (hn : l.length ≤ 100000) :
    Call Tryd.prog W0 76 [.pointer (some ⟨b, 0, none⟩), .int .i64 ver, .int .i64 back] (Blk b (.cells #[u, .slice p l.length c, .int .i64 k0, .int .i64 bk0] 109 (0, 0)) :: SlT 55 (.slice p l.length c) l :: H)
      (fun v H' => ∃ p' c', v = .bool true ∧ SlV p' c' (l ++ [⟨IntKind.u32.wrap (z.epoch + 1), ver, k0⟩]) ∧ H' = Blk b (.cells #[u, .slice p' (l ++ [(⟨IntKind.u32.wrap (z.epoch + 1), ver, k0⟩ : Era)]).length c', .int .i64 k0, .int .i64 back] 109 (0, 0)) :: SlT 55 (.slice p' (l ++ [(⟨IntKind.u32.wrap (z.epoch + 1), ver, k0⟩ : Era)]).length c') (l ++ [⟨IntKind.u32.wrap (z.epoch + 1), ver, k0⟩]) :: H) := by
  refine call_enter Tryd.func76 rfl Tryd.ntmps76 rfl ?_

  refine ct_seq ?_
  refine ct_region ?_
  (first | refine rs_ex rfl (by (first | (constructor <;> first | rfl | exact RdC.rd | exact inferInstance) | exact Ex.pickF rfl rfl | exact Ex.eqlS rfl rfl | exact Ex.neqS rfl rfl | exact Ex.eqlPN rfl rfl | exact Ex.neqPN rfl rfl | exact Ex.eqlSN rfl rfl | exact Ex.neqSN rfl rfl | exact Ex.lenStr rfl)) rfl ?_ | refine rs_skip rfl rfl ?_)
  refine rs_end ?_
  refine qe_then ?_
  refine ct_seq ?_
  refine ct_drawP [0] (by kernel_rfl) ?_
  refine ra_take 0 rfl (by kernel_rfl) (by kernel_rfl) rfl (by (first | (constructor <;> first | rfl | exact RdC.rd | exact inferInstance) | exact Ex.pickF rfl rfl | exact Ex.eqlS rfl rfl | exact Ex.neqS rfl rfl | exact Ex.eqlPN rfl rfl | exact Ex.neqPN rfl rfl | exact Ex.eqlSN rfl rfl | exact Ex.neqSN rfl rfl | exact Ex.lenStr rfl)) rfl (fun _ h => h.fit) ?_
  refine ra_take 1 rfl (by kernel_rfl) (by kernel_rfl) rfl (by (first | (constructor <;> first | rfl | exact RdC.rd | exact inferInstance) | exact Ex.pickF rfl rfl | exact Ex.eqlS rfl rfl | exact Ex.neqS rfl rfl | exact Ex.eqlPN rfl rfl | exact Ex.neqPN rfl rfl | exact Ex.eqlSN rfl rfl | exact Ex.neqSN rfl rfl | exact Ex.lenStr rfl)) rfl (fun _ h => h.fit) ?_
  refine ra_take 2 rfl (by kernel_rfl) (by kernel_rfl) rfl (by (first | (constructor <;> first | rfl | exact RdC.rd | exact inferInstance) | exact Ex.pickF rfl rfl | exact Ex.eqlS rfl rfl | exact Ex.neqS rfl rfl | exact Ex.eqlPN rfl rfl | exact Ex.neqPN rfl rfl | exact Ex.eqlSN rfl rfl | exact Ex.neqSN rfl rfl | exact Ex.lenStr rfl)) rfl (fun _ h => h.fit) ?_
  refine ra_take 3 rfl (by kernel_rfl) (by kernel_rfl) rfl (by (first | (constructor <;> first | rfl | exact RdC.rd | exact inferInstance) | exact Ex.pickF rfl rfl | exact Ex.eqlS rfl rfl | exact Ex.neqS rfl rfl | exact Ex.eqlPN rfl rfl | exact Ex.neqPN rfl rfl | exact Ex.eqlSN rfl rfl | exact Ex.neqSN rfl rfl | exact Ex.lenStr rfl)) rfl (fun _ h => h.fit) ?_
  refine ra_take 4 rfl (by kernel_rfl) (by kernel_rfl) rfl (by (first | (constructor <;> first | rfl | exact RdC.rd | exact inferInstance) | exact Ex.pickF rfl rfl | exact Ex.eqlS rfl rfl | exact Ex.neqS rfl rfl | exact Ex.eqlPN rfl rfl | exact Ex.neqPN rfl rfl | exact Ex.eqlSN rfl rfl | exact Ex.neqSN rfl rfl | exact Ex.lenStr rfl)) rfl (fun _ h => h.fit) ?_
  refine ra_take 5 rfl (by kernel_rfl) (by kernel_rfl) rfl (by (first | (constructor <;> first | rfl | exact RdC.rd | exact inferInstance) | exact Ex.pickF rfl rfl | exact Ex.eqlS rfl rfl | exact Ex.neqS rfl rfl | exact Ex.eqlPN rfl rfl | exact Ex.neqPN rfl rfl | exact Ex.eqlSN rfl rfl | exact Ex.neqSN rfl rfl | exact Ex.lenStr rfl)) rfl (fun _ h => h.fit) ?_
  refine ra_take 9 rfl (by kernel_rfl) (by kernel_rfl) rfl (by (first | (constructor <;> first | rfl | exact RdC.rd | exact inferInstance) | exact Ex.pickF rfl rfl | exact Ex.eqlS rfl rfl | exact Ex.neqS rfl rfl | exact Ex.eqlPN rfl rfl | exact Ex.neqPN rfl rfl | exact Ex.eqlSN rfl rfl | exact Ex.neqSN rfl rfl | exact Ex.lenStr rfl)) rfl (fun _ h => h.fit) ?_
  refine ra_take 10 rfl (by kernel_rfl) (by kernel_rfl) rfl (by (first | (constructor <;> first | rfl | exact RdC.rd | exact inferInstance) | exact Ex.pickF rfl rfl | exact Ex.eqlS rfl rfl | exact Ex.neqS rfl rfl | exact Ex.eqlPN rfl rfl | exact Ex.neqPN rfl rfl | exact Ex.eqlSN rfl rfl | exact Ex.neqSN rfl rfl | exact Ex.lenStr rfl)) rfl (fun _ h => h.fit) ?_
  refine ra_take 11 rfl (by kernel_rfl) (by kernel_rfl) rfl (by (first | (constructor <;> first | rfl | exact RdC.rd | exact inferInstance) | exact Ex.pickF rfl rfl | exact Ex.eqlS rfl rfl | exact Ex.neqS rfl rfl | exact Ex.eqlPN rfl rfl | exact Ex.neqPN rfl rfl | exact Ex.eqlSN rfl rfl | exact Ex.neqSN rfl rfl | exact Ex.lenStr rfl)) rfl (fun _ h => h.fit) ?_
  refine ra_take 12 rfl (by kernel_rfl) (by kernel_rfl) rfl (by (first | (constructor <;> first | rfl | exact RdC.rd | exact inferInstance) | exact Ex.pickF rfl rfl | exact Ex.eqlS rfl rfl | exact Ex.neqS rfl rfl | exact Ex.eqlPN rfl rfl | exact Ex.neqPN rfl rfl | exact Ex.eqlSN rfl rfl | exact Ex.neqSN rfl rfl | exact Ex.lenStr rfl)) rfl (fun _ h => h.fit) ?_
  refine ra_take 13 rfl (by kernel_rfl) (by kernel_rfl) rfl (by (first | (constructor <;> first | rfl | exact RdC.rd | exact inferInstance) | exact Ex.pickF rfl rfl | exact Ex.eqlS rfl rfl | exact Ex.neqS rfl rfl | exact Ex.eqlPN rfl rfl | exact Ex.neqPN rfl rfl | exact Ex.eqlSN rfl rfl | exact Ex.neqSN rfl rfl | exact Ex.lenStr rfl)) rfl (fun _ h => h.fit) ?_
  refine ra_all (rs := [6]) (by kernel_rfl) rfl ?_
  refine each_op rfl rfl rfl (opR_fn rfl (Call.heap (fun w h => by (first | exact h | exact h.sw1 | exact h.sw2 | exact h.sw3 | exact h.sw4 | exact h.sw5 | exact h.sw6 | exact h.sw7 | exact h.sw8 | exact h.pull2 | exact h.pull3 | exact h.pull4 | exact h.pull5 | exact h.fit)) ((Now_c W0 b n u (.int .i64 k0) (.int .i64 bk0) p c l z _ hv hz hn).mono ?_))) each_nil
  rintro v H' ⟨rfl, rfl⟩
  refine ⟨.inr (fun w h => h.fit), ?_⟩
  refine ra_take 7 rfl (by kernel_rfl) (by kernel_rfl) rfl (ex_field Tryd.underlying55 rfl 22 rfl rfl rfl) rfl (fun _ h => h.fit) ?_
  refine ra_take 8 rfl (by kernel_rfl) (by kernel_rfl) rfl (by (first | (constructor <;> first | rfl | exact RdC.rd | exact inferInstance) | exact Ex.pickF rfl rfl | exact Ex.eqlS rfl rfl | exact Ex.neqS rfl rfl | exact Ex.eqlPN rfl rfl | exact Ex.neqPN rfl rfl | exact Ex.eqlSN rfl rfl | exact Ex.neqSN rfl rfl | exact Ex.lenStr rfl)) rfl (fun _ h => h.fit) ?_
  refine ra_take 14 rfl (by kernel_rfl) (by kernel_rfl) rfl (ex_build rfl) rfl (fun _ h => h.fit) ?_
  refine ra_all (rs := [15]) (by kernel_rfl) rfl ?_
  refine each_op rfl rfl rfl (opR_buildSlice rfl rfl rfl rfl fun b22 => ?_) each_nil
  refine ⟨.inr (fun w h => h.fit), ?_⟩
  refine ra_Snew ?_
  refine ra_all (rs := [16]) (by kernel_rfl) rfl ?_
  refine each_op rfl rfl rfl (opR_append [(⟨IntKind.u32.wrap (z.epoch + 1), ver, k0⟩ : Era)] rfl rfl (SlR.blk RdC.rd [(⟨IntKind.u32.wrap (z.epoch + 1), ver, k0⟩ : Era)] rfl) rfl (by simp; omega) rfl fun p3 cap3 hv3 => ?_) each_nil
  refine ⟨.inr (fun w h => h.fit), ?_⟩
  refine ra_take 17 rfl (by kernel_rfl) (by kernel_rfl) rfl (by (first | (constructor <;> first | rfl | exact RdC.rd | exact inferInstance) | exact Ex.pickF rfl rfl | exact Ex.eqlS rfl rfl | exact Ex.neqS rfl rfl | exact Ex.eqlPN rfl rfl | exact Ex.neqPN rfl rfl | exact Ex.eqlSN rfl rfl | exact Ex.neqSN rfl rfl | exact Ex.lenStr rfl)) rfl (fun _ h => h.fit) ?_
  refine ra_take 18 rfl (by kernel_rfl) (by kernel_rfl) rfl (by (first | (constructor <;> first | rfl | exact RdC.rd | exact inferInstance) | exact Ex.pickF rfl rfl | exact Ex.eqlS rfl rfl | exact Ex.neqS rfl rfl | exact Ex.eqlPN rfl rfl | exact Ex.neqPN rfl rfl | exact Ex.eqlSN rfl rfl | exact Ex.neqSN rfl rfl | exact Ex.lenStr rfl)) rfl (fun _ h => h.fit) ?_
  refine ra_all (rs := [19]) (by kernel_rfl) rfl ?_
  refine each_opN rfl rfl (opR_store rfl rfl rfl rfl ?_) each_nil
  refine ⟨.inl (by kernel_rfl), ?_⟩
  refine ra_end (by kernel_rfl) ?_
  refine qe_then ?_
  refine ct_seq ?_
  refine ct_region ?_
  iterate 4 (first | refine rs_ex rfl (by (first | (constructor <;> first | rfl | exact RdC.rd | exact inferInstance) | exact Ex.pickF rfl rfl | exact Ex.eqlS rfl rfl | exact Ex.neqS rfl rfl | exact Ex.eqlPN rfl rfl | exact Ex.neqPN rfl rfl | exact Ex.eqlSN rfl rfl | exact Ex.neqSN rfl rfl | exact Ex.lenStr rfl)) rfl ?_ | refine rs_skip rfl rfl ?_)
  refine rs_opN rfl (opR_store rfl rfl rfl rfl ?_)
  refine rs_end ?_
  refine qe_then ?_
  refine ct_seq ?_
  refine ct_region ?_
  (first | refine rs_ex rfl (by (first | (constructor <;> first | rfl | exact RdC.rd | exact inferInstance) | exact Ex.pickF rfl rfl | exact Ex.eqlS rfl rfl | exact Ex.neqS rfl rfl | exact Ex.eqlPN rfl rfl | exact Ex.neqPN rfl rfl | exact Ex.eqlSN rfl rfl | exact Ex.neqSN rfl rfl | exact Ex.lenStr rfl)) rfl ?_ | refine rs_skip rfl rfl ?_)
  refine rs_end ?_
  refine qe_then ?_
  refine ct_ret ?_
  exact qe_fit (ret1 rfl rfl ⟨p3, cap3, rfl, hv3, rfl⟩)
theorem takes_log : ∀ (l : List Msg) {s : Book} {n : Nat}, s.Good n → n + l.length ≤ 50000 → ∃ t, (s.takes l).log = s.log ++ t
  | [], s, _, _, _ => ⟨[], by rw [Book.takes_nil, List.append_nil]⟩
  | m :: l, s, n, h, hn => by
    rw [List.length_cons] at hn
    obtain ⟨_, _, t, ht, _⟩ := h.inv.take (by omega) h.dry m
    obtain ⟨t2, ht2⟩ := takes_log l (h.take (by omega) m) (by omega)
    exact ⟨t ++ t2, by rw [show s.takes (m :: l) = (s.take m).takes l from rfl, ht2, ht, List.append_assoc]⟩
/-- What a batch delivers. -/
def Book.outs (s : Book) (l : List Msg) : List Msg := (s.takes l).log.drop s.log.length
theorem outs_nil (s : Book) : s.outs [] = [] := by simp [Book.outs, Book.takes_nil]
theorem outs_snoc {s : Book} {n : Nat} (h : s.Good n) (l : List Msg) (m : Msg) (hn : n + l.length + 1 ≤ 50000) : s.outs (l ++ [m]) = s.outs l ++ (s.takes l).took m := by
  obtain ⟨t, ht⟩ := takes_log l h (by omega)
  have hg := Book.Good.takes l h (by omega)
  obtain ⟨_, _, t2, ht2, _⟩ := hg.inv.take (by omega) hg.dry m
  unfold Book.outs Book.took
  rw [Book.takes_snoc, ht2, ht]
  simp [List.append_assoc]
theorem Delivers14_c (W0 : World) (b bk n : Nat) (f : Fold) (ev : Value) (e : Ent) (p : Option Addr) (c : Nat) (H : List Chunk) (hr : SlR (At W0 H) p e.msgs) (hl : e.msgs.length ≤ 1000) (hg : f.book.Good n) (hn : n ≤ 40000) :
    Call Tryd.prog W0 66 [.pointer (some ⟨b, 0, none⟩), e.v p c] (Blk b (.cells #[.pointer (some ⟨bk, 0, none⟩), ev, .int .i64 f.count, .int .i64 f.back] 109 (0, 0)) :: BookC bk f.book :: H)
      (fun v H' => ∃ u, v = .tuple #[u, .bool false] ∧ H' = SlT 80 u (f.book.outs e.msgs) :: Blk b (.cells #[.pointer (some ⟨bk, 0, none⟩), ev, .int .i64 f.count, .int .i64 f.back] 109 (0, 0)) :: BookC bk (f.book.takes e.msgs) :: H) := by
  refine call_enter Tryd.func66 rfl Tryd.ntmps66 rfl ?_

  refine ct_seq ?_
  refine ct_region ?_
  refine rs_op rfl rfl (opR_box rfl fun b3 => ?_)
  iterate 2 (first | refine rs_ex rfl (by (first | (constructor <;> first | rfl | exact RdC.rd | exact inferInstance) | exact Ex.pickF rfl rfl | exact Ex.eqlS rfl rfl | exact Ex.neqS rfl rfl | exact Ex.eqlPN rfl rfl | exact Ex.neqPN rfl rfl | exact Ex.eqlSN rfl rfl | exact Ex.neqSN rfl rfl | exact Ex.lenStr rfl)) rfl ?_ | refine rs_skip rfl rfl ?_)
  refine rs_end ?_
  refine qe_then ?_
  refine ct_seq ?_
  refine ct_region ?_
  (first | refine rs_ex rfl (by (first | (constructor <;> first | rfl | exact RdC.rd | exact inferInstance) | exact Ex.pickF rfl rfl | exact Ex.eqlS rfl rfl | exact Ex.neqS rfl rfl | exact Ex.eqlPN rfl rfl | exact Ex.neqPN rfl rfl | exact Ex.eqlSN rfl rfl | exact Ex.neqSN rfl rfl | exact Ex.lenStr rfl)) rfl ?_ | refine rs_skip rfl rfl ?_)
  refine rs_end ?_
  refine qe_then ?_
  refine ct_seq ?_
  refine ct_seq ?_
  refine ct_region ?_
  iterate 4 (first | refine rs_ex rfl (by (first | (constructor <;> first | rfl | exact RdC.rd | exact inferInstance) | exact Ex.pickF rfl rfl | exact Ex.eqlS rfl rfl | exact Ex.neqS rfl rfl | exact Ex.eqlPN rfl rfl | exact Ex.neqPN rfl rfl | exact Ex.eqlSN rfl rfl | exact Ex.neqSN rfl rfl | exact Ex.lenStr rfl)) rfl ?_ | refine rs_skip rfl rfl ?_)
  refine rs_end ?_
  refine qe_then ?_
  refine ct_heap (H' := SlT 80 (.slice none 0 0) (f.book.outs (e.msgs.take 0)) :: Blk b (.cells #[.pointer (some ⟨bk, 0, none⟩), ev, .int .i64 f.count, .int .i64 f.back] 109 (0, 0)) :: BookC bk (f.book.takes (e.msgs.take 0)) :: H) (fun w h => by
    rw [List.take_zero, outs_nil, Book.takes_nil]
    exact At.slt_nil (α := Msg) 80 h.fit) ?_
  refine ct_block ?_
  refine ct_loopc (ζ := Nat × Value) (fun z => z.1 ≤ e.msgs.length) [(0, _), (12, _), (13, _)] (fun z => [(14, .int .i64 (z.1 : Int)), (6, z.2)]) (fun z => SlT 80 z.2 (f.book.outs (e.msgs.take z.1)) :: Blk b (.cells #[.pointer (some ⟨bk, 0, none⟩), ev, .int .i64 f.count, .int .i64 f.back] 109 (0, 0)) :: BookC bk (f.book.takes (e.msgs.take z.1)) :: H) (fun z => e.msgs.length - z.1) ((0, .slice none 0 0)) (Nat.zero_le _) ⟨rfl, rfl, rfl, rfl, rfl, trivial⟩ (fun w h => by first | exact h.fit | exact h) ?_
  rintro ⟨j, vO⟩ hj
  simp only at hj ⊢
  refine ct_seq ?_
  refine ct_region ?_
  (first | refine rs_ex rfl (by (first | (constructor <;> first | rfl | exact RdC.rd | exact inferInstance) | exact Ex.pickF rfl rfl | exact Ex.eqlS rfl rfl | exact Ex.neqS rfl rfl | exact Ex.eqlPN rfl rfl | exact Ex.neqPN rfl rfl | exact Ex.eqlSN rfl rfl | exact Ex.neqSN rfl rfl | exact Ex.lenStr rfl)) rfl ?_ | refine rs_skip rfl rfl ?_)
  refine rs_end ?_
  refine qe_then ?_
  refine ct_seq ?_
  refine ct_cond rfl (fun h15 => ?_) (fun h15 => ?_)
  · have hj1 : j < e.msgs.length := by simp at h15; exact h15
    obtain ⟨b1, o1, rfl, r1⟩ := hr.get (List.getElem?_eq_getElem hj1)
    obtain ⟨m, hm⟩ : ∃ m, m = e.msgs[j] := ⟨_, rfl⟩
    rw [← hm] at r1
    have hgj := Book.Good.takes (e.msgs.take j) hg (by simp; omega)
    have hlj := hgj.inv.len
    rw [List.length_take] at hlj
    have hst : e.msgs.take (j + 1) = e.msgs.take j ++ [m] := by rw [List.take_succ_eq_append_getElem hj1, hm]
    have ho := outs_snoc hg (e.msgs.take j) m (by simp; omega)
    have hgs := Book.Good.takes (e.msgs.take (j + 1)) hg (by simp; omega)
    have hls := hgs.inv.len
    rw [List.length_take, hst, Book.takes_snoc] at hls
    have hol : (f.book.outs (e.msgs.take j)).length ≤ 50000 := by simp only [Book.outs, List.length_drop]; omega
    have htl : ((f.book.takes (e.msgs.take j)).took m).length ≤ 50000 := by simp only [Book.took, List.length_drop]; omega
    refine ct_skip ?_
    refine qe_then ?_
    refine ct_seq ?_
    refine ct_block ?_
    refine ct_seq ?_
    refine ct_region ?_
    refine rs_ex rfl (ex_indexAddr rfl rfl (by omega) (by omega)) rfl ?_
    refine rs_ex rfl (ex_loadMsg m rfl (r1.mono fun w h => h.fit)) rfl ?_
    refine rs_op rfl rfl (opR_alloc fun b8 => ?_)
    refine rs_opN rfl (opR_store rfl rfl rfl rfl ?_)
    refine rs_end ?_
    refine qe_then ?_
    refine ct_seq ?_
    refine ct_drawP [0, 2] (by kernel_rfl) ?_
    refine ra_take 0 rfl (by kernel_rfl) (by kernel_rfl) rfl (by (first | (constructor <;> first | rfl | exact RdC.rd | exact inferInstance) | exact Ex.pickF rfl rfl | exact Ex.eqlS rfl rfl | exact Ex.neqS rfl rfl | exact Ex.eqlPN rfl rfl | exact Ex.neqPN rfl rfl | exact Ex.eqlSN rfl rfl | exact Ex.neqSN rfl rfl | exact Ex.lenStr rfl)) rfl (fun _ h => h.fit) ?_
    refine ra_take 1 rfl (by kernel_rfl) (by kernel_rfl) rfl (by (first | (constructor <;> first | rfl | exact RdC.rd | exact inferInstance) | exact Ex.pickF rfl rfl | exact Ex.eqlS rfl rfl | exact Ex.neqS rfl rfl | exact Ex.eqlPN rfl rfl | exact Ex.neqPN rfl rfl | exact Ex.eqlSN rfl rfl | exact Ex.neqSN rfl rfl | exact Ex.lenStr rfl)) rfl (fun _ h => h.fit) ?_
    refine ra_take 2 rfl (by kernel_rfl) (by kernel_rfl) rfl (by (first | (constructor <;> first | rfl | exact RdC.rd | exact inferInstance) | exact Ex.pickF rfl rfl | exact Ex.eqlS rfl rfl | exact Ex.neqS rfl rfl | exact Ex.eqlPN rfl rfl | exact Ex.neqPN rfl rfl | exact Ex.eqlSN rfl rfl | exact Ex.neqSN rfl rfl | exact Ex.lenStr rfl)) rfl (fun _ h => h.fit) ?_
    refine ra_take 3 rfl (by kernel_rfl) (by kernel_rfl) rfl (by (first | (constructor <;> first | rfl | exact RdC.rd | exact inferInstance) | exact Ex.pickF rfl rfl | exact Ex.eqlS rfl rfl | exact Ex.neqS rfl rfl | exact Ex.eqlPN rfl rfl | exact Ex.neqPN rfl rfl | exact Ex.eqlSN rfl rfl | exact Ex.neqSN rfl rfl | exact Ex.lenStr rfl)) rfl (fun _ h => h.fit) ?_
    refine ra_take 4 rfl (by kernel_rfl) (by kernel_rfl) rfl (by (first | (constructor <;> first | rfl | exact RdC.rd | exact inferInstance) | exact Ex.pickF rfl rfl | exact Ex.eqlS rfl rfl | exact Ex.neqS rfl rfl | exact Ex.eqlPN rfl rfl | exact Ex.neqPN rfl rfl | exact Ex.eqlSN rfl rfl | exact Ex.neqSN rfl rfl | exact Ex.lenStr rfl)) rfl (fun _ h => h.fit) ?_
    refine ra_all (rs := [5]) (by kernel_rfl) rfl ?_
    refine each_op rfl rfl rfl (opR_fn rfl (Call.heap (fun w h => by (first | exact h | exact h.sw1 | exact h.sw2 | exact h.sw3 | exact h.sw4 | exact h.sw5 | exact h.sw6 | exact h.sw7 | exact h.sw8 | exact h.pull2 | exact h.pull3 | exact h.pull4 | exact h.pull5 | exact h.fit)) ((Take_c W0 bk (f.book.takes (e.msgs.take j)) m _ (by omega)).mono ?_))) each_nil
    rintro v H' ⟨u, rfl, rfl⟩
    refine ⟨.inr (fun w h => h.fit), ?_⟩
    refine ra_take 6 rfl (by kernel_rfl) (by kernel_rfl) rfl (by (first | (constructor <;> first | rfl | exact RdC.rd | exact inferInstance) | exact Ex.pickF rfl rfl | exact Ex.eqlS rfl rfl | exact Ex.neqS rfl rfl | exact Ex.eqlPN rfl rfl | exact Ex.neqPN rfl rfl | exact Ex.eqlSN rfl rfl | exact Ex.neqSN rfl rfl | exact Ex.lenStr rfl)) rfl (fun _ h => h.fit) ?_
    refine ra_take 7 rfl (by kernel_rfl) (by kernel_rfl) rfl (by (first | (constructor <;> first | rfl | exact RdC.rd | exact inferInstance) | exact Ex.pickF rfl rfl | exact Ex.eqlS rfl rfl | exact Ex.neqS rfl rfl | exact Ex.eqlPN rfl rfl | exact Ex.neqPN rfl rfl | exact Ex.eqlSN rfl rfl | exact Ex.neqSN rfl rfl | exact Ex.lenStr rfl)) rfl (fun _ h => h.fit) ?_
    refine ra_take 8 rfl (by kernel_rfl) (by kernel_rfl) rfl (by (first | (constructor <;> first | rfl | exact RdC.rd | exact inferInstance) | exact Ex.pickF rfl rfl | exact Ex.eqlS rfl rfl | exact Ex.neqS rfl rfl | exact Ex.eqlPN rfl rfl | exact Ex.neqPN rfl rfl | exact Ex.eqlSN rfl rfl | exact Ex.neqSN rfl rfl | exact Ex.lenStr rfl)) rfl (fun _ h => h.fit) ?_
    refine ra_take 9 rfl (by kernel_rfl) (by kernel_rfl) rfl (by (first | (constructor <;> first | rfl | exact RdC.rd | exact inferInstance) | exact Ex.pickF rfl rfl | exact Ex.eqlS rfl rfl | exact Ex.neqS rfl rfl | exact Ex.eqlPN rfl rfl | exact Ex.neqPN rfl rfl | exact Ex.eqlSN rfl rfl | exact Ex.neqSN rfl rfl | exact Ex.lenStr rfl)) rfl (fun _ h => h.fit) ?_
    refine ra_take 10 rfl (by kernel_rfl) (by kernel_rfl) rfl (by (first | (constructor <;> first | rfl | exact RdC.rd | exact inferInstance) | exact Ex.pickF rfl rfl | exact Ex.eqlS rfl rfl | exact Ex.neqS rfl rfl | exact Ex.eqlPN rfl rfl | exact Ex.neqPN rfl rfl | exact Ex.eqlSN rfl rfl | exact Ex.neqSN rfl rfl | exact Ex.lenStr rfl)) rfl (fun _ h => h.fit) ?_
    refine ra_end (by kernel_rfl) ?_
    refine qe_then ?_
    refine ct_pr (fun w h => h.slv) ?_; rintro ⟨pu, cu, eu, hvu⟩
    subst eu
    refine ct_region ?_
    iterate 2 (first | refine rs_ex rfl (by (first | (constructor <;> first | rfl | exact RdC.rd | exact inferInstance) | exact Ex.pickF rfl rfl | exact Ex.eqlS rfl rfl | exact Ex.neqS rfl rfl | exact Ex.eqlPN rfl rfl | exact Ex.neqPN rfl rfl | exact Ex.eqlSN rfl rfl | exact Ex.neqSN rfl rfl | exact Ex.lenStr rfl)) rfl ?_ | refine rs_skip rfl rfl ?_)
    refine rs_op rfl rfl (opR_append ((f.book.takes (e.msgs.take j)).took m) rfl rfl (by exact RdS.slR (len := ((f.book.takes (e.msgs.take j)).took m).length) inferInstance hvu) rfl (by omega) rfl fun p3 cap3 hv3 => ?_)
    (first | refine rs_ex rfl (by (first | (constructor <;> first | rfl | exact RdC.rd | exact inferInstance) | exact Ex.pickF rfl rfl | exact Ex.eqlS rfl rfl | exact Ex.neqS rfl rfl | exact Ex.eqlPN rfl rfl | exact Ex.neqPN rfl rfl | exact Ex.eqlSN rfl rfl | exact Ex.neqSN rfl rfl | exact Ex.lenStr rfl)) rfl ?_ | refine rs_skip rfl rfl ?_)
    refine rs_end ?_
    refine qe_block 1 ?_
    refine qe_then ?_
    refine ct_region ?_
    (first | refine rs_ex rfl (by (first | (constructor <;> first | rfl | exact RdC.rd | exact inferInstance) | exact Ex.pickF rfl rfl | exact Ex.eqlS rfl rfl | exact Ex.neqS rfl rfl | exact Ex.eqlPN rfl rfl | exact Ex.neqPN rfl rfl | exact Ex.eqlSN rfl rfl | exact Ex.neqSN rfl rfl | exact Ex.lenStr rfl)) rfl ?_ | refine rs_skip rfl rfl ?_)
    refine rs_rw (by rw [wrapS (by omega)]) ?_
    (first | refine rs_ex rfl (by (first | (constructor <;> first | rfl | exact RdC.rd | exact inferInstance) | exact Ex.pickF rfl rfl | exact Ex.eqlS rfl rfl | exact Ex.neqS rfl rfl | exact Ex.eqlPN rfl rfl | exact Ex.neqPN rfl rfl | exact Ex.eqlSN rfl rfl | exact Ex.neqSN rfl rfl | exact Ex.lenStr rfl)) rfl ?_ | refine rs_skip rfl rfl ?_)
    refine rs_end ?_
    rw [← ho, ← Book.takes_snoc, ← hst]
    refine qe_loopc ((j + 1, _)) (by first | omega | (simp only; omega)) (by first | omega | (simp only; omega)) ⟨rfl, rfl, rfl, rfl, rfl, trivial⟩ (fun w h => by first | exact h.fit | exact h)
  · have hje : j = e.msgs.length := by simp at h15; omega
    subst hje
    rw [List.take_length]
    refine ct_exit ?_
    refine qe_then_exit ?_
    refine qe_loop_exit ?_
    refine qe_block_exit ?_
    refine qe_then ?_
    refine ct_seq ?_
    refine ct_region ?_
    iterate 3 (first | refine rs_ex rfl (by (first | (constructor <;> first | rfl | exact RdC.rd | exact inferInstance) | exact Ex.pickF rfl rfl | exact Ex.eqlS rfl rfl | exact Ex.neqS rfl rfl | exact Ex.eqlPN rfl rfl | exact Ex.neqPN rfl rfl | exact Ex.eqlSN rfl rfl | exact Ex.neqSN rfl rfl | exact Ex.lenStr rfl)) rfl ?_ | refine rs_skip rfl rfl ?_)
    refine rs_end ?_
    refine qe_then ?_
    refine ct_ret ?_
    exact qe_fit (ret2 rfl rfl rfl ⟨_, rfl, rfl⟩)
end Go.Rost
/- The eras of a log, gone through, and told. -/
namespace Go.Rost
open Go Go.RowKit Go.Proofs

def encEr (e : Era) : List Value := [e.v]
theorem ValE_c (W0 : World) (p : Option Addr) (n c : Nat) (H : List Chunk) : Call Tryd.prog W0 89 [.slice p n c] H (fun u H' => ∃ b, u = .func (.func 94) #[] #[.pointer (some ⟨b, 0, none⟩)] ∧ H' = Blk b (.cells #[.slice p n c] 95 (0, 0)) :: H) := by
  refine call_enter Tryd.func89 rfl Tryd.ntmps89 rfl ?_

  refine ct_seq ?_
  refine ct_region ?_
  refine rs_op rfl rfl (opR_box rfl fun b1 => ?_)
  (first | refine rs_ex rfl (by (first | (constructor <;> first | rfl | exact RdC.rd | exact inferInstance) | exact Ex.pickF rfl rfl | exact Ex.eqlS rfl rfl | exact Ex.neqS rfl rfl | exact Ex.eqlPN rfl rfl | exact Ex.neqPN rfl rfl | exact Ex.eqlSN rfl rfl | exact Ex.neqSN rfl rfl | exact Ex.lenStr rfl)) rfl ?_ | refine rs_skip rfl rfl ?_)
  refine rs_end ?_
  refine qe_then ?_
  refine ct_seq ?_
  refine ct_region ?_
  iterate 2 (first | refine rs_ex rfl (by (first | (constructor <;> first | rfl | exact RdC.rd | exact inferInstance) | exact Ex.pickF rfl rfl | exact Ex.eqlS rfl rfl | exact Ex.neqS rfl rfl | exact Ex.eqlPN rfl rfl | exact Ex.neqPN rfl rfl | exact Ex.eqlSN rfl rfl | exact Ex.neqSN rfl rfl | exact Ex.lenStr rfl)) rfl ?_ | refine rs_skip rfl rfl ?_)
  refine rs_end ?_
  refine qe_then ?_
  refine ct_ret ?_
  exact ret1 rfl rfl ⟨_, rfl, rfl⟩
theorem ValE1_c (W0 : World) {ζ : Type} (y : Value) (gc : ζ → Option Code → Chunk) (step : ζ → Era → ζ × Option Code) (J : ζ → List Era → Prop) (z0 : ζ) (bs c : Nat) (p : Option Addr) (l : List Era) (T : List Chunk)
    (hy : Yields Tryd.prog W0 y encEr gc step J) (h0 : J z0 l) (hr : SlR (At W0 []) p l) (hl : l.length ≤ 100000) :
    Call Tryd.prog W0 94 [y, .pointer (some ⟨bs, 0, none⟩)] (Blk bs (.cells #[.slice p l.length c] 95 (0, 0)) :: gc z0 none :: T)
      (fun _ H' => ∃ xs it', xs = l ∧ H' = it' :: gc (runs step z0 xs).1 (runs step z0 xs).2 :: T) := by
  refine call_enter Tryd.func94 rfl Tryd.ntmps94 rfl ?_

  refine ct_seq ?_
  refine ct_region ?_
  iterate 3 (first | refine rs_ex rfl (by (first | (constructor <;> first | rfl | exact RdC.rd | exact inferInstance) | exact Ex.pickF rfl rfl | exact Ex.eqlS rfl rfl | exact Ex.neqS rfl rfl | exact Ex.eqlPN rfl rfl | exact Ex.neqPN rfl rfl | exact Ex.eqlSN rfl rfl | exact Ex.neqSN rfl rfl | exact Ex.lenStr rfl)) rfl ?_ | refine rs_skip rfl rfl ?_)
  refine rs_end ?_
  refine qe_then ?_
  refine ct_block ?_
  refine ct_loopc (ζ := Nat × ζ) (fun q => J q.2 (l.drop q.1) ∧ q.1 ≤ l.length ∧ runs step q.2 (l.drop q.1) = runs step z0 l) [(0, _), (5, _), (6, _)] (fun q => [(7, .int .i64 (q.1 : Int))]) (fun q => Blk bs (.cells #[.slice p l.length c] 95 (0, 0)) :: gc q.2 none :: T) (fun q => l.length - q.1) ((0, z0)) (⟨h0, Nat.zero_le _, rfl⟩) ⟨rfl, rfl, rfl, rfl, trivial⟩ (fun w h => by first | exact h.fit | exact h) ?_
  rintro ⟨i, z⟩ ⟨hz, hi, hruns⟩
  simp only at hz hi hruns ⊢
  refine ct_seq ?_
  refine ct_region ?_
  (first | refine rs_ex rfl (by (first | (constructor <;> first | rfl | exact RdC.rd | exact inferInstance) | exact Ex.pickF rfl rfl | exact Ex.eqlS rfl rfl | exact Ex.neqS rfl rfl | exact Ex.eqlPN rfl rfl | exact Ex.neqPN rfl rfl | exact Ex.eqlSN rfl rfl | exact Ex.neqSN rfl rfl | exact Ex.lenStr rfl)) rfl ?_ | refine rs_skip rfl rfl ?_)
  refine rs_end ?_
  refine qe_then ?_
  refine ct_seq ?_
  refine ct_cond rfl (fun h8 => ?_) (fun h8 => ?_)
  · have hi1 : i < l.length := by simp at h8; exact h8
    obtain ⟨b1, o1, rfl, r1⟩ := hr.get (List.getElem?_eq_getElem hi1)
    obtain ⟨x, hx⟩ : ∃ x, x = l[i] := ⟨_, rfl⟩
    rw [← hx] at r1
    rw [List.drop_eq_getElem_cons hi1, ← hx] at hruns hz
    refine ct_skip ?_
    refine qe_then ?_
    refine ct_seq ?_
    refine ct_block ?_
    refine ct_seq ?_
    refine ct_region ?_
    refine rs_ex rfl (ex_indexAddr rfl rfl (by omega) (by omega)) rfl ?_
    refine rs_ex rfl (ex_loadEra x rfl (r1.mono fun w h => h.bare)) rfl ?_
    refine rs_op rfl rfl (opR_alloc fun b4 => ?_)
    refine rs_opN rfl (opR_store rfl rfl rfl rfl ?_)
    refine rs_end ?_
    refine qe_then ?_
    refine ct_seq ?_
    refine ct_region ?_
    iterate 2 (first | refine rs_ex rfl (by (first | (constructor <;> first | rfl | exact RdC.rd | exact inferInstance) | exact Ex.pickF rfl rfl | exact Ex.eqlS rfl rfl | exact Ex.neqS rfl rfl | exact Ex.eqlPN rfl rfl | exact Ex.neqPN rfl rfl | exact Ex.eqlSN rfl rfl | exact Ex.neqSN rfl rfl | exact Ex.lenStr rfl)) rfl ?_ | refine rs_skip rfl rfl ?_)
    have hcall := hy.call z x _ (Blk b4 (.cells #[.int .u32 x.epoch, .int .i64 x.ver, .int .i64 x.start] 55 (0, 0)) :: Blk bs (.cells #[.slice (some ⟨b1, o1, none⟩) l.length c] 95 (0, 0)) :: T) hz
    refine rs_op rfl rfl (opR_callV rfl rfl (CallV.heap (fun w h => At.top [_, _, _] [2, 0, 1] h) (hcall.mono ?_)))
    rintro v H' ⟨rfl, rfl⟩
    (first | refine rs_ex rfl (by (first | (constructor <;> first | rfl | exact RdC.rd | exact inferInstance) | exact Ex.pickF rfl rfl | exact Ex.eqlS rfl rfl | exact Ex.neqS rfl rfl | exact Ex.eqlPN rfl rfl | exact Ex.neqPN rfl rfl | exact Ex.eqlSN rfl rfl | exact Ex.neqSN rfl rfl | exact Ex.lenStr rfl)) rfl ?_ | refine rs_skip rfl rfl ?_)
    refine rs_end ?_
    refine qe_then ?_
    refine ct_cond rfl (fun h14 => ?_) (fun h14 => ?_)
    · obtain ⟨j, hj⟩ : ∃ j, (step z x).2 = some j := by
        cases hj : (step z x).2 with
        | none => rw [hj] at h14; cases h14
        | some j => exact ⟨j, rfl⟩
      refine ct_ret ?_
      exact qe_heap (H' := Blk bs (.cells #[.slice (some ⟨b1, o1, none⟩) l.length c] 95 (0, 0)) :: gc (step z x).1 (step z x).2 :: T) (fun w h => At.top [_, _, _] [2, 0] h) (ret0 rfl ⟨l, Blk bs (.cells #[.slice (some ⟨b1, o1, none⟩) l.length c] 95 (0, 0)), rfl, by rw [← hruns, runs, hj]⟩)
    · have hj : (step z x).2 = none := by
        cases hj : (step z x).2 with
        | none => rfl
        | some j => rw [hj] at h14; cases h14
      rw [hj]
      refine ct_skip ?_
      refine qe_block 1 ?_
      refine qe_then ?_
      refine ct_region ?_
      (first | refine rs_ex rfl (by (first | (constructor <;> first | rfl | exact RdC.rd | exact inferInstance) | exact Ex.pickF rfl rfl | exact Ex.eqlS rfl rfl | exact Ex.neqS rfl rfl | exact Ex.eqlPN rfl rfl | exact Ex.neqPN rfl rfl | exact Ex.eqlSN rfl rfl | exact Ex.neqSN rfl rfl | exact Ex.lenStr rfl)) rfl ?_ | refine rs_skip rfl rfl ?_)
      refine rs_rw (by rw [wrapS (by omega)]) ?_
      (first | refine rs_ex rfl (by (first | (constructor <;> first | rfl | exact RdC.rd | exact inferInstance) | exact Ex.pickF rfl rfl | exact Ex.eqlS rfl rfl | exact Ex.neqS rfl rfl | exact Ex.eqlPN rfl rfl | exact Ex.neqPN rfl rfl | exact Ex.eqlSN rfl rfl | exact Ex.neqSN rfl rfl | exact Ex.lenStr rfl)) rfl ?_ | refine rs_skip rfl rfl ?_)
      refine rs_end ?_
      refine qe_loopc ((i + 1, (step z x).1)) (⟨hy.keeps _ _ _ hz hj, by simp only; omega, by rw [← hruns, runs, hj]⟩) (by first | omega | (simp only; omega)) ⟨rfl, rfl, rfl, rfl, trivial⟩ (fun w h => At.top [_, _, _] [2, 0] h)
  · have e : i = l.length := by simp at h8; omega
    subst e
    rw [List.drop_length] at hruns
    refine ct_exit ?_
    refine qe_then_exit ?_
    refine qe_loop_exit ?_
    refine qe_block_exit ?_
    refine qe_end ?_
    exact ret0 rfl ⟨l, Blk bs (.cells #[.slice p l.length c] 95 (0, 0)), rfl, by rw [← hruns]; rfl⟩
theorem All_in (W0 : World) (b : Nat) (u x y : Value) (p : Option Addr) (n c : Nat) (H : List Chunk) (hb : RdBlk (At W0 []) b #[u, .slice p n c, x, y]) :
    Call Tryd.prog W0 78 [.pointer (some ⟨b, 0, none⟩)] H (fun v H' => ∃ b, v = .func (.func 94) #[] #[.pointer (some ⟨b, 0, none⟩)] ∧ H' = Blk b (.cells #[.slice p n c] 95 (0, 0)) :: H) := by
  have hbH : RdC (At W0 H) b #[u, .slice p n c, x, y] := ⟨fun w hw => hb w hw.bare⟩
  refine call_enter Tryd.func78 rfl Tryd.ntmps78 rfl ?_

  refine ct_seq ?_
  refine ct_region ?_
  (first | refine rs_ex rfl (by (first | (constructor <;> first | rfl | exact RdC.rd | exact inferInstance) | exact Ex.pickF rfl rfl | exact Ex.eqlS rfl rfl | exact Ex.neqS rfl rfl | exact Ex.eqlPN rfl rfl | exact Ex.neqPN rfl rfl | exact Ex.eqlSN rfl rfl | exact Ex.neqSN rfl rfl | exact Ex.lenStr rfl)) rfl ?_ | refine rs_skip rfl rfl ?_)
  refine rs_end ?_
  refine qe_then ?_
  refine ct_seq ?_
  refine ct_seq ?_
  refine ct_region ?_
  iterate 2 (first | refine rs_ex rfl (by (first | (constructor <;> first | rfl | exact RdC.rd | exact inferInstance) | exact Ex.pickF rfl rfl | exact Ex.eqlS rfl rfl | exact Ex.neqS rfl rfl | exact Ex.eqlPN rfl rfl | exact Ex.neqPN rfl rfl | exact Ex.eqlSN rfl rfl | exact Ex.neqSN rfl rfl | exact Ex.lenStr rfl)) rfl ?_ | refine rs_skip rfl rfl ?_)
  refine rs_end ?_
  refine qe_then ?_
  refine ct_cond rfl (fun h4 => by cases h4) (fun h4 => ?_)
  refine ct_skip ?_
  refine qe_then ?_
  refine ct_seq ?_
  refine ct_region ?_
  iterate 4 (first | refine rs_ex rfl (by (first | (constructor <;> first | rfl | exact RdC.rd | exact inferInstance) | exact Ex.pickF rfl rfl | exact Ex.eqlS rfl rfl | exact Ex.neqS rfl rfl | exact Ex.eqlPN rfl rfl | exact Ex.neqPN rfl rfl | exact Ex.eqlSN rfl rfl | exact Ex.neqSN rfl rfl | exact Ex.lenStr rfl)) rfl ?_ | refine rs_skip rfl rfl ?_)
  refine rs_op rfl rfl (opR_fn rfl (Call.heap (fun w h => by (first | exact h | exact h.sw1 | exact h.sw2 | exact h.sw3 | exact h.sw4 | exact h.sw5 | exact h.sw6 | exact h.sw7 | exact h.sw8 | exact h.pull2 | exact h.pull3 | exact h.pull4 | exact h.pull5 | exact h.fit)) ((ValE_c W0 p n c _).mono ?_)))
  rintro v H' ⟨bl, rfl, rfl⟩
  (first | refine rs_ex rfl (by (first | (constructor <;> first | rfl | exact RdC.rd | exact inferInstance) | exact Ex.pickF rfl rfl | exact Ex.eqlS rfl rfl | exact Ex.neqS rfl rfl | exact Ex.eqlPN rfl rfl | exact Ex.neqPN rfl rfl | exact Ex.eqlSN rfl rfl | exact Ex.neqSN rfl rfl | exact Ex.lenStr rfl)) rfl ?_ | refine rs_skip rfl rfl ?_)
  refine rs_end ?_
  refine qe_then ?_
  refine ct_ret ?_
  exact ret1 rfl rfl ⟨_, rfl, rfl⟩
def erStep (z : List Era) (e : Era) : List Era × Option Code := if e.epoch = 0 then (z, some (.exit 0)) else (z ++ [e], none)
theorem runs_er : ∀ (l z : List Era), (∀ x ∈ l, x.epoch ≠ 0) → runs erStep z l = (z ++ l, none)
  | [], z, _ => by rw [runs, List.append_nil]
  | x :: l, z, h => by
    have hx := h x (by simp)
    have e : erStep z x = (z ++ [x], none) := by rw [erStep, if_neg hx]
    rw [runs, e]
    simp only
    rw [runs_er l (z ++ [x]) (fun y hy => h y (by simp [hy])), List.append_assoc]
    rfl
theorem Eras_in (W0 : World) (b : Nat) (u x y : Value) (p : Option Addr) (c : Nat) (l : List Era) (hb : RdBlk (At W0 []) b #[u, .slice p l.length c, x, y]) (hr : SlR (At W0 []) p l) (hl : l.length ≤ 1000) (h0 : ∀ x ∈ l, x.epoch ≠ 0) :
    Call Tryd.prog W0 70 [.pointer (some ⟨b, 0, none⟩)] [] (fun v H' => H' = [SlT 55 v l]) := by
  refine call_enterM Tryd.func70 rfl Tryd.ntmps70 rfl ?_

  refine ct_seq ?_
  refine ct_region ?_
  (first | refine rs_ex rfl (by (first | (constructor <;> first | rfl | exact RdC.rd | exact inferInstance) | exact Ex.pickF rfl rfl | exact Ex.eqlS rfl rfl | exact Ex.neqS rfl rfl | exact Ex.eqlPN rfl rfl | exact Ex.neqPN rfl rfl | exact Ex.eqlSN rfl rfl | exact Ex.neqSN rfl rfl | exact Ex.lenStr rfl)) rfl ?_ | refine rs_skip rfl rfl ?_)
  refine rs_end ?_
  refine qe_then ?_
  refine ct_scope ?_
  refine ct_seq ?_
  refine ct_region ?_
  refine rs_op rfl rfl (opR_alloc fun b3 => ?_)
  refine rs_end ?_
  refine qe_then ?_
  refine ct_seq ?_
  refine ct_label ?_
  refine qe_then ?_
  refine ct_seq ?_
  refine ct_seq ?_
  refine ct_region ?_
  (first | refine rs_ex rfl (by (first | (constructor <;> first | rfl | exact RdC.rd | exact inferInstance) | exact Ex.pickF rfl rfl | exact Ex.eqlS rfl rfl | exact Ex.neqS rfl rfl | exact Ex.eqlPN rfl rfl | exact Ex.neqPN rfl rfl | exact Ex.eqlSN rfl rfl | exact Ex.neqSN rfl rfl | exact Ex.lenStr rfl)) rfl ?_ | refine rs_skip rfl rfl ?_)
  refine rs_op rfl rfl (opR_fn rfl (Call.heap (fun w h => by (first | exact h | exact h.sw1 | exact h.sw2 | exact h.sw3 | exact h.sw4 | exact h.sw5 | exact h.sw6 | exact h.sw7 | exact h.sw8 | exact h.pull2 | exact h.pull3 | exact h.pull4 | exact h.pull5 | exact h.fit)) ((All_in W0 b u x y p l.length c _ hb).mono ?_)))
  rintro v H' ⟨bl, rfl, rfl⟩
  refine rs_end ?_
  refine qe_then ?_
  refine ct_block ?_
  refine ct_rangeFunc (ζ := List Era) (f := 94) (first := []) (cap := [.pointer (some ⟨bl, 0, none⟩)]) encEr (Blk bl (.cells #[.slice p l.length c] 95 (0, 0))) (fun z => [SlotC b3 95 55 z]) erStep (fun z xs => z.length + xs.length ≤ 1000 ∧ ∀ x ∈ xs, x.epoch ≠ 0) (fun xs => xs = l) ([]) rfl (fun _ => rfl) rfl (fun w h => At.sw1 (SlotC.shut (α := Era) (At.sw1 (At.slt_nil (α := Era) 55 (At.sw1 h))))) (fun y gc T hy => ValE1_c W0 y gc _ _ [] bl c p l T hy ⟨by simp; omega, h0⟩ hr (by omega)) ?_ ?_ ?_
  · rintro l' z x xs ⟨hz, hx0⟩ T2
    simp only [List.length_cons] at hz
    have hxe : x.epoch ≠ 0 := hx0 x (by simp)
    refine ct_sub (τ := [(7, _), (3, _)]) ⟨rfl, rfl, trivial⟩ ?_
    refine ct_app ?_
    refine ct_region ?_
    refine rs_op rfl rfl (opR_alloc fun b4 => ?_)
    refine rs_opN rfl (opR_store rfl rfl rfl rfl ?_)
    refine rs_end ?_
    refine qe_assignA (fun T' => ?_)
    refine ct_app ?_
    refine ct_ex (fun w h => SlotC.open (At.sw1 h)) ?_
    intro v
    refine ct_heap (H' := Blk b4 (.cells #[.int .u32 x.epoch, .int .i64 x.ver, .int .i64 x.start] 55 (0, 0)) :: Blk b3 (.cells #[v] 95 (0, 0)) :: SlT 55 v z :: T') (fun w h => At.sw2 h) ?_
    refine ct_block ?_
    refine ct_seq ?_
    refine ct_seq ?_
    refine ct_region ?_
    iterate 3 (first | refine rs_ex rfl (by (first | (constructor <;> first | rfl | exact RdC.rd | exact inferInstance) | exact Ex.pickF rfl rfl | exact Ex.eqlS rfl rfl | exact Ex.neqS rfl rfl | exact Ex.eqlPN rfl rfl | exact Ex.neqPN rfl rfl | exact Ex.eqlSN rfl rfl | exact Ex.neqSN rfl rfl | exact Ex.lenStr rfl)) rfl ?_ | refine rs_skip rfl rfl ?_)
    refine rs_end ?_
    refine qe_then ?_
    refine ct_cond rfl (fun h10 => by simp [hxe] at h10) (fun h10 => ?_)
    refine ct_skip ?_
    refine qe_then ?_
    refine ct_pr (fun w h => h.drop.drop.slv) ?_; rintro ⟨pv, cv, ev, hvv⟩
    subst ev
    refine ct_region ?_
    iterate 2 (first | refine rs_ex rfl (by (first | (constructor <;> first | rfl | exact RdC.rd | exact inferInstance) | exact Ex.pickF rfl rfl | exact Ex.eqlS rfl rfl | exact Ex.neqS rfl rfl | exact Ex.eqlPN rfl rfl | exact Ex.neqPN rfl rfl | exact Ex.eqlSN rfl rfl | exact Ex.neqSN rfl rfl | exact Ex.lenStr rfl)) rfl ?_ | refine rs_skip rfl rfl ?_)
    refine rs_op rfl rfl (opR_buildSlice rfl rfl rfl rfl fun b13 => ?_)
    refine rs_op rfl rfl (opR_append [x] rfl rfl (SlR.blk RdC.rd [x] rfl) rfl (by simp; omega) rfl fun p3 cap3 hv3 => ?_)
    refine rs_opN rfl (opR_store rfl rfl rfl rfl ?_)
    refine rs_end ?_
    refine qe_block 1 ?_
    have hst : erStep z x = (z ++ [x], none) := by rw [erStep, if_neg hxe]
    exact qe_heap (H' := SlotC b3 95 55 (z ++ [x]) :: T') (fun w h => SlotC.shut (At.top [_, _, _, _] [2, 3] h)) (qe_roundA ⟨by rw [hst], by rw [hst]⟩)
  · exact fun z x xs ⟨hz, hx0⟩ _ => ⟨by simp only [List.length_cons] at hz; rw [erStep, if_neg (hx0 x (by simp))]; simp; omega, fun y hy => hx0 y (by simp [hy])⟩
  · rintro xs db rfl
    rw [runs_er xs [] h0]
    refine qe_exs (fun w h => SlotC.open (At.sw1 h)) ?_
    intro v
    refine qe_heap (H' := Blk db (.deferred (some [])) :: Blk b3 (.cells #[v] 95 (0, 0)) :: SlT 55 v xs :: []) (fun w h => At.top [_, _, _] [2, 0, 1] h) ?_
    refine qe_block 0 ?_
    refine qe_then ?_
    refine ct_seq ?_
    refine ct_region ?_
    iterate 2 (first | refine rs_ex rfl (by (first | (constructor <;> first | rfl | exact RdC.rd | exact inferInstance) | exact Ex.pickF rfl rfl | exact Ex.eqlS rfl rfl | exact Ex.neqS rfl rfl | exact Ex.eqlPN rfl rfl | exact Ex.neqPN rfl rfl | exact Ex.eqlSN rfl rfl | exact Ex.neqSN rfl rfl | exact Ex.lenStr rfl)) rfl ?_ | refine rs_skip rfl rfl ?_)
    refine rs_end ?_
    refine qe_then ?_
    refine ct_ret ?_
    exact retM_mark (retM (qe_fit (ret1 rfl rfl rfl)))
end Go.Rost
/- A log of entries, folded: an entry is applied. -/
namespace Go.Rost
open Go Go.RowKit Go.Proofs

def Fold.new (v : Int) : Fold := ⟨Book.new, [⟨1, v, 0⟩], 0, 0⟩
def Fold.begin (g : Fold) (ver back : Int) : Fold := { g with eras := g.eras ++ [⟨IntKind.u32.wrap (g.last.epoch + 1), ver, g.count⟩], back := back }
/-- What an entry of the epoch does. -/
def Fold.doing (g : Fold) (e : Ent) : (List Msg × Bool) × Fold :=
  if e.kind = 1 then ((g.book.outs e.msgs, false), { g with book := g.book.takes e.msgs })
  else if e.kind = 2 then (if checkVer g.last.ver e.ver = 0 then (([], true), g.begin e.ver g.last.ver) else (([], false), g))
  else (if g.back = 0 then (([], false), g) else (([], true), g.begin g.back 0))
def Fold.tick (f : Fold) : Fold := { f with count := f.count + 1 }
def Fold.apply (f : Fold) (e : Ent) : (List Msg × Bool × Int) × Fold :=
  if e.bad = true then (([], false, 140), f)
  else if e.epoch ≠ f.last.epoch then (([], false, 0), f.tick)
  else (((f.tick.doing e).1.1, (f.tick.doing e).1.2, 0), (f.tick.doing e).2)
theorem last_some {l : List Era} (h : l ≠ []) : ∃ z, l.getLast? = some z := by
  cases e : l.getLast? with
  | none => exact absurd (List.getLast?_eq_none_iff.1 e) h
  | some z => exact ⟨z, rfl⟩
theorem Fold.last_eq {f : Fold} {z : Era} (h : f.eras.getLast? = some z) : f.last = z := by rw [Fold.last, h]; rfl
def clo14 (f : FuncId) (b : Nat) : Value := .func (.func f) #[.pointer (some ⟨b, 0, none⟩)] #[]
def does14 (b : Nat) (k : Int) : Value := if k = 1 then clo14 66 b else if k = 2 then clo14 67 b else clo14 68 b
theorem Right14_c (W0 : World) (e : Ent) (p : Option Addr) (c : Nat) (H : List Chunk) (hr : SlR (At W0 H) p e.msgs) (hl : e.msgs.length ≤ 1000) (h0 : 0 ≤ e.epoch) :
    Call Tryd.prog W0 64 [e.v p c] H (fun v H' => v = .bool (!e.bad) ∧ H' = H) := by
  refine call_enter Tryd.func64 rfl Tryd.ntmps64 rfl ?_

  refine ct_seq ?_
  refine ct_region ?_
  refine rs_op rfl rfl (opR_box rfl fun b1 => ?_)
  (first | refine rs_ex rfl (by (first | (constructor <;> first | rfl | exact RdC.rd | exact inferInstance) | exact Ex.pickF rfl rfl | exact Ex.eqlS rfl rfl | exact Ex.neqS rfl rfl | exact Ex.eqlPN rfl rfl | exact Ex.neqPN rfl rfl | exact Ex.eqlSN rfl rfl | exact Ex.neqSN rfl rfl | exact Ex.lenStr rfl)) rfl ?_ | refine rs_skip rfl rfl ?_)
  refine rs_end ?_
  refine qe_then ?_
  refine ct_seq ?_
  refine ct_region ?_
  (first | refine rs_ex rfl (by (first | (constructor <;> first | rfl | exact RdC.rd | exact inferInstance) | exact Ex.pickF rfl rfl | exact Ex.eqlS rfl rfl | exact Ex.neqS rfl rfl | exact Ex.eqlPN rfl rfl | exact Ex.neqPN rfl rfl | exact Ex.eqlSN rfl rfl | exact Ex.neqSN rfl rfl | exact Ex.lenStr rfl)) rfl ?_ | refine rs_skip rfl rfl ?_)
  refine rs_op rfl rfl (opR_fn rfl (Call.heap (fun w h => by (first | exact h | exact h.sw1 | exact h.sw2 | exact h.sw3 | exact h.sw4 | exact h.sw5 | exact h.sw6 | exact h.sw7 | exact h.sw8 | exact h.pull2 | exact h.pull3 | exact h.pull4 | exact h.pull5 | exact h.fit)) ((Encode_c W0 e p c _ (hr.mono fun w h => h.drop) hl h0).mono ?_)))
  rintro v H' ⟨rfl, rfl⟩
  iterate 5 (first | refine rs_ex rfl (by (first | (constructor <;> first | rfl | exact RdC.rd | exact inferInstance) | exact Ex.pickF rfl rfl | exact Ex.eqlS rfl rfl | exact Ex.neqS rfl rfl | exact Ex.eqlPN rfl rfl | exact Ex.neqPN rfl rfl | exact Ex.eqlSN rfl rfl | exact Ex.neqSN rfl rfl | exact Ex.lenStr rfl)) rfl ?_ | refine rs_skip rfl rfl ?_)
  refine rs_end ?_
  refine qe_then ?_
  refine ct_seq ?_
  refine ct_region ?_
  iterate 3 (first | refine rs_ex rfl (by (first | (constructor <;> first | rfl | exact RdC.rd | exact inferInstance) | exact Ex.pickF rfl rfl | exact Ex.eqlS rfl rfl | exact Ex.neqS rfl rfl | exact Ex.eqlPN rfl rfl | exact Ex.neqPN rfl rfl | exact Ex.eqlSN rfl rfl | exact Ex.neqSN rfl rfl | exact Ex.lenStr rfl)) rfl ?_ | refine rs_skip rfl rfl ?_)
  refine rs_end ?_
  refine qe_then ?_
  refine ct_ret ?_
  exact qe_fit (ret1 rfl rfl ⟨by unfold Ent.enc; cases e.bad <;> rfl, rfl⟩)
theorem New14_bad (W0 : World) (v : Int) (H : List Chunk) (hv : known v = false) : Call Tryd.prog W0 43 [.int .i64 v] H (fun r H' => r = .tuple #[.pointer none, .int .i64 130] ∧ H' = H) := by
  refine call_enter Tryd.func43 rfl Tryd.ntmps43 rfl ?_

  refine ct_seq ?_
  refine ct_region ?_
  iterate 2 (first | refine rs_ex rfl (by (first | (constructor <;> first | rfl | exact RdC.rd | exact inferInstance) | exact Ex.pickF rfl rfl | exact Ex.eqlS rfl rfl | exact Ex.neqS rfl rfl | exact Ex.eqlPN rfl rfl | exact Ex.neqPN rfl rfl | exact Ex.eqlSN rfl rfl | exact Ex.neqSN rfl rfl | exact Ex.lenStr rfl)) rfl ?_ | refine rs_skip rfl rfl ?_)
  refine rs_end ?_
  refine qe_then ?_
  refine ct_seq ?_
  refine ct_seq ?_
  refine ct_region ?_
  (first | refine rs_ex rfl (by (first | (constructor <;> first | rfl | exact RdC.rd | exact inferInstance) | exact Ex.pickF rfl rfl | exact Ex.eqlS rfl rfl | exact Ex.neqS rfl rfl | exact Ex.eqlPN rfl rfl | exact Ex.neqPN rfl rfl | exact Ex.eqlSN rfl rfl | exact Ex.neqSN rfl rfl | exact Ex.lenStr rfl)) rfl ?_ | refine rs_skip rfl rfl ?_)
  refine rs_op rfl rfl (opR_fn rfl (Call.heap (fun w h => by (first | exact h | exact h.sw1 | exact h.sw2 | exact h.sw3 | exact h.sw4 | exact h.sw5 | exact h.sw6 | exact h.sw7 | exact h.sw8 | exact h.pull2 | exact h.pull3 | exact h.pull4 | exact h.pull5 | exact h.fit)) ((Known_c W0 v _).mono ?_)))
  rintro v H' ⟨rfl, rfl⟩
  rw [hv]
  (first | refine rs_ex rfl (by (first | (constructor <;> first | rfl | exact RdC.rd | exact inferInstance) | exact Ex.pickF rfl rfl | exact Ex.eqlS rfl rfl | exact Ex.neqS rfl rfl | exact Ex.eqlPN rfl rfl | exact Ex.neqPN rfl rfl | exact Ex.eqlSN rfl rfl | exact Ex.neqSN rfl rfl | exact Ex.lenStr rfl)) rfl ?_ | refine rs_skip rfl rfl ?_)
  refine rs_end ?_
  refine qe_then ?_
  refine ct_cond rfl (fun h6 => ?_) (fun h6 => by simp at h6)
  refine ct_seq ?_
  refine ct_region ?_
  iterate 2 (first | refine rs_ex rfl (by (first | (constructor <;> first | rfl | exact RdC.rd | exact inferInstance) | exact Ex.pickF rfl rfl | exact Ex.eqlS rfl rfl | exact Ex.neqS rfl rfl | exact Ex.eqlPN rfl rfl | exact Ex.neqPN rfl rfl | exact Ex.eqlSN rfl rfl | exact Ex.neqSN rfl rfl | exact Ex.lenStr rfl)) rfl ?_ | refine rs_skip rfl rfl ?_)
  refine rs_end ?_
  refine qe_then ?_
  refine ct_ret ?_
  exact ret2 rfl rfl rfl ⟨rfl, rfl⟩
theorem New14_ok (W0 : World) (v : Int) (H : List Chunk) (hv : known v = true) : Call Tryd.prog W0 43 [.int .i64 v] H (fun r H' => ∃ b, r = .tuple #[.pointer (some ⟨b, 0, none⟩), .int .i64 0] ∧ H' = FoldC b (Fold.new v) :: H) := by
  refine call_enter Tryd.func43 rfl Tryd.ntmps43 rfl ?_

  refine ct_seq ?_
  refine ct_region ?_
  iterate 2 (first | refine rs_ex rfl (by (first | (constructor <;> first | rfl | exact RdC.rd | exact inferInstance) | exact Ex.pickF rfl rfl | exact Ex.eqlS rfl rfl | exact Ex.neqS rfl rfl | exact Ex.eqlPN rfl rfl | exact Ex.neqPN rfl rfl | exact Ex.eqlSN rfl rfl | exact Ex.neqSN rfl rfl | exact Ex.lenStr rfl)) rfl ?_ | refine rs_skip rfl rfl ?_)
  refine rs_end ?_
  refine qe_then ?_
  refine ct_seq ?_
  refine ct_seq ?_
  refine ct_region ?_
  (first | refine rs_ex rfl (by (first | (constructor <;> first | rfl | exact RdC.rd | exact inferInstance) | exact Ex.pickF rfl rfl | exact Ex.eqlS rfl rfl | exact Ex.neqS rfl rfl | exact Ex.eqlPN rfl rfl | exact Ex.neqPN rfl rfl | exact Ex.eqlSN rfl rfl | exact Ex.neqSN rfl rfl | exact Ex.lenStr rfl)) rfl ?_ | refine rs_skip rfl rfl ?_)
  refine rs_op rfl rfl (opR_fn rfl (Call.heap (fun w h => by (first | exact h | exact h.sw1 | exact h.sw2 | exact h.sw3 | exact h.sw4 | exact h.sw5 | exact h.sw6 | exact h.sw7 | exact h.sw8 | exact h.pull2 | exact h.pull3 | exact h.pull4 | exact h.pull5 | exact h.fit)) ((Known_c W0 v _).mono ?_)))
  rintro v H' ⟨rfl, rfl⟩
  rw [hv]
  (first | refine rs_ex rfl (by (first | (constructor <;> first | rfl | exact RdC.rd | exact inferInstance) | exact Ex.pickF rfl rfl | exact Ex.eqlS rfl rfl | exact Ex.neqS rfl rfl | exact Ex.eqlPN rfl rfl | exact Ex.neqPN rfl rfl | exact Ex.eqlSN rfl rfl | exact Ex.neqSN rfl rfl | exact Ex.lenStr rfl)) rfl ?_ | refine rs_skip rfl rfl ?_)
  refine rs_end ?_
  refine qe_then ?_
  refine ct_cond rfl (fun h6 => by simp at h6) (fun h6 => ?_)
  refine ct_skip ?_
  refine qe_then ?_
  refine ct_seq ?_
  refine ct_region ?_
  refine rs_op rfl rfl (opR_fn rfl (Call.heap (fun w h => by (first | exact h | exact h.sw1 | exact h.sw2 | exact h.sw3 | exact h.sw4 | exact h.sw5 | exact h.sw6 | exact h.sw7 | exact h.sw8 | exact h.pull2 | exact h.pull3 | exact h.pull4 | exact h.pull5 | exact h.fit)) ((New_c W0 _).mono ?_)))
  rintro v H' ⟨bk, rfl, rfl⟩
  (first | refine rs_ex rfl (by (first | (constructor <;> first | rfl | exact RdC.rd | exact inferInstance) | exact Ex.pickF rfl rfl | exact Ex.eqlS rfl rfl | exact Ex.neqS rfl rfl | exact Ex.eqlPN rfl rfl | exact Ex.neqPN rfl rfl | exact Ex.eqlSN rfl rfl | exact Ex.neqSN rfl rfl | exact Ex.lenStr rfl)) rfl ?_ | refine rs_skip rfl rfl ?_)
  refine rs_ex rfl (ex_build rfl) rfl ?_
  refine rs_op rfl rfl (opR_buildSlice rfl rfl rfl rfl fun b10 => ?_)
  refine rs_ex rfl (ex_build rfl) rfl ?_
  refine rs_op rfl rfl (opR_box rfl fun b12 => ?_)
  iterate 2 (first | refine rs_ex rfl (by (first | (constructor <;> first | rfl | exact RdC.rd | exact inferInstance) | exact Ex.pickF rfl rfl | exact Ex.eqlS rfl rfl | exact Ex.neqS rfl rfl | exact Ex.eqlPN rfl rfl | exact Ex.neqPN rfl rfl | exact Ex.eqlSN rfl rfl | exact Ex.neqSN rfl rfl | exact Ex.lenStr rfl)) rfl ?_ | refine rs_skip rfl rfl ?_)
  refine rs_end ?_
  refine qe_then ?_
  refine ct_ret ?_
  exact qe_heap (H' := FoldC b12 (Fold.new _) :: _) (fun w h => FoldC.shut (f := Fold.new _) (At.sw1 (At.slt_blk (α := Era) (l := [⟨1, _, 0⟩]) (cap := 1) (At.sw1 h) [] rfl rfl))) (ret2 rfl rfl rfl ⟨b12, rfl, rfl⟩)
theorem Switches_c (W0 : World) (b bk : Nat) (g : Fold) (e : Ent) (p : Option Addr) (c : Nat) (q : Option Addr) (d : Nat) (z : Era) (H : List Chunk) (hv : SlV q d g.eras) (hz : g.eras.getLast? = some z) (hn : g.eras.length ≤ 1000) :
    Call Tryd.prog W0 67 [.pointer (some ⟨b, 0, none⟩), e.v p c] (Blk b (.cells #[.pointer (some ⟨bk, 0, none⟩), .slice q g.eras.length d, .int .i64 g.count, .int .i64 g.back] 109 (0, 0)) :: SlT 55 (.slice q g.eras.length d) g.eras :: BookC bk g.book :: H)
      (fun v H' => ∃ u, v = .tuple #[u, .bool (decide (checkVer g.last.ver e.ver = 0))] ∧ H' = SlT (α := Msg) 80 u [] :: FoldC b (if checkVer g.last.ver e.ver = 0 then g.begin e.ver g.last.ver else g) :: H) := by
  have hl := Fold.last_eq hz
  refine call_enter Tryd.func67 rfl Tryd.ntmps67 rfl ?_

  refine ct_seq ?_
  refine ct_region ?_
  refine rs_op rfl rfl (opR_box rfl fun b3 => ?_)
  iterate 2 (first | refine rs_ex rfl (by (first | (constructor <;> first | rfl | exact RdC.rd | exact inferInstance) | exact Ex.pickF rfl rfl | exact Ex.eqlS rfl rfl | exact Ex.neqS rfl rfl | exact Ex.eqlPN rfl rfl | exact Ex.neqPN rfl rfl | exact Ex.eqlSN rfl rfl | exact Ex.neqSN rfl rfl | exact Ex.lenStr rfl)) rfl ?_ | refine rs_skip rfl rfl ?_)
  refine rs_end ?_
  refine qe_then ?_
  refine ct_seq ?_
  refine ct_region ?_
  (first | refine rs_ex rfl (by (first | (constructor <;> first | rfl | exact RdC.rd | exact inferInstance) | exact Ex.pickF rfl rfl | exact Ex.eqlS rfl rfl | exact Ex.neqS rfl rfl | exact Ex.eqlPN rfl rfl | exact Ex.neqPN rfl rfl | exact Ex.eqlSN rfl rfl | exact Ex.neqSN rfl rfl | exact Ex.lenStr rfl)) rfl ?_ | refine rs_skip rfl rfl ?_)
  refine rs_op rfl rfl (opR_fn rfl (Call.heap (fun w h => by (first | exact h | exact h.sw1 | exact h.sw2 | exact h.sw3 | exact h.sw4 | exact h.sw5 | exact h.sw6 | exact h.sw7 | exact h.sw8 | exact h.pull2 | exact h.pull3 | exact h.pull4 | exact h.pull5 | exact h.fit)) ((Now_c W0 b 0 (.pointer (some ⟨bk, 0, none⟩)) (.int .i64 g.count) (.int .i64 g.back) q d g.eras z _ hv hz (by omega)).mono ?_)))
  rintro v H' ⟨rfl, rfl⟩
  refine rs_ex rfl (ex_field Tryd.underlying55 rfl 3 rfl rfl rfl) rfl ?_
  (first | refine rs_ex rfl (by (first | (constructor <;> first | rfl | exact RdC.rd | exact inferInstance) | exact Ex.pickF rfl rfl | exact Ex.eqlS rfl rfl | exact Ex.neqS rfl rfl | exact Ex.eqlPN rfl rfl | exact Ex.neqPN rfl rfl | exact Ex.eqlSN rfl rfl | exact Ex.neqSN rfl rfl | exact Ex.lenStr rfl)) rfl ?_ | refine rs_skip rfl rfl ?_)
  refine rs_end ?_
  refine qe_then ?_
  refine ct_seq ?_
  refine ct_region ?_
  iterate 3 (first | refine rs_ex rfl (by (first | (constructor <;> first | rfl | exact RdC.rd | exact inferInstance) | exact Ex.pickF rfl rfl | exact Ex.eqlS rfl rfl | exact Ex.neqS rfl rfl | exact Ex.eqlPN rfl rfl | exact Ex.neqPN rfl rfl | exact Ex.eqlSN rfl rfl | exact Ex.neqSN rfl rfl | exact Ex.lenStr rfl)) rfl ?_ | refine rs_skip rfl rfl ?_)
  refine rs_op rfl rfl (opR_fn rfl (Call.heap (fun w h => by (first | exact h | exact h.sw1 | exact h.sw2 | exact h.sw3 | exact h.sw4 | exact h.sw5 | exact h.sw6 | exact h.sw7 | exact h.sw8 | exact h.pull2 | exact h.pull3 | exact h.pull4 | exact h.pull5 | exact h.fit)) ((Check_ver W0 z.ver e.ver _).mono ?_)))
  rintro v H' ⟨rfl, rfl⟩
  iterate 2 (first | refine rs_ex rfl (by (first | (constructor <;> first | rfl | exact RdC.rd | exact inferInstance) | exact Ex.pickF rfl rfl | exact Ex.eqlS rfl rfl | exact Ex.neqS rfl rfl | exact Ex.eqlPN rfl rfl | exact Ex.neqPN rfl rfl | exact Ex.eqlSN rfl rfl | exact Ex.neqSN rfl rfl | exact Ex.lenStr rfl)) rfl ?_ | refine rs_skip rfl rfl ?_)
  refine rs_split (fun h15 => ?_) (fun h15 => ?_)
  · have hc : checkVer z.ver e.ver = 0 := by simpa using h15
    iterate 4 (first | refine rs_ex rfl (by (first | (constructor <;> first | rfl | exact RdC.rd | exact inferInstance) | exact Ex.pickF rfl rfl | exact Ex.eqlS rfl rfl | exact Ex.neqS rfl rfl | exact Ex.eqlPN rfl rfl | exact Ex.neqPN rfl rfl | exact Ex.eqlSN rfl rfl | exact Ex.neqSN rfl rfl | exact Ex.lenStr rfl)) rfl ?_ | refine rs_skip rfl rfl ?_)
    refine rs_op rfl rfl (opR_fn rfl (Call.heap (fun w h => by (first | exact h | exact h.sw1 | exact h.sw2 | exact h.sw3 | exact h.sw4 | exact h.sw5 | exact h.sw6 | exact h.sw7 | exact h.sw8 | exact h.pull2 | exact h.pull3 | exact h.pull4 | exact h.pull5 | exact h.fit)) ((Begins_c W0 b 0 (.pointer (some ⟨bk, 0, none⟩)) g.count g.back e.ver z.ver q d g.eras z _ hv hz (by omega)).mono ?_)))
    rintro v H' ⟨p', c', rfl, hv', rfl⟩
    iterate 3 (first | refine rs_ex rfl (by (first | (constructor <;> first | rfl | exact RdC.rd | exact inferInstance) | exact Ex.pickF rfl rfl | exact Ex.eqlS rfl rfl | exact Ex.neqS rfl rfl | exact Ex.eqlPN rfl rfl | exact Ex.neqPN rfl rfl | exact Ex.eqlSN rfl rfl | exact Ex.neqSN rfl rfl | exact Ex.lenStr rfl)) rfl ?_ | refine rs_skip rfl rfl ?_)
    refine rs_end ?_
    refine qe_then ?_
    refine ct_ret ?_
    exact qe_heap (H' := SlT (α := Msg) 80 (.slice none 0 0) [] :: FoldC b (if checkVer g.last.ver e.ver = 0 then g.begin e.ver g.last.ver else g) :: H) (fun w h => by
      refine At.slt_nil (α := Msg) 80 ?_
      first
        | (rw [hl, if_pos hc]
           refine FoldC.shut (f := g.begin e.ver z.ver) (bk := bk) (ev := .slice p' (g.eras ++ [(⟨IntKind.u32.wrap (z.epoch + 1), e.ver, g.count⟩ : Era)]).length c') ?_
           rw [Fold.begin, hl]
           exact At.fit h)
        | (rw [hl, if_neg hc]
           exact FoldC.shut (f := g) (bk := bk) (ev := .slice q g.eras.length d) (At.fit h))) (ret2 rfl rfl rfl ⟨_, by rw [hl]; first | rw [decide_eq_true hc] | rw [decide_eq_false hc], rfl⟩)
  · have hc : checkVer z.ver e.ver ≠ 0 := by simpa using h15
    iterate 8 (first | refine rs_ex rfl (by (first | (constructor <;> first | rfl | exact RdC.rd | exact inferInstance) | exact Ex.pickF rfl rfl | exact Ex.eqlS rfl rfl | exact Ex.neqS rfl rfl | exact Ex.eqlPN rfl rfl | exact Ex.neqPN rfl rfl | exact Ex.eqlSN rfl rfl | exact Ex.neqSN rfl rfl | exact Ex.lenStr rfl)) rfl ?_ | refine rs_skip rfl rfl ?_)
    refine rs_end ?_
    refine qe_then ?_
    refine ct_ret ?_
    exact qe_heap (H' := SlT (α := Msg) 80 (.slice none 0 0) [] :: FoldC b (if checkVer g.last.ver e.ver = 0 then g.begin e.ver g.last.ver else g) :: H) (fun w h => by
      refine At.slt_nil (α := Msg) 80 ?_
      first
        | (rw [hl, if_pos hc]
           refine FoldC.shut (f := g.begin e.ver z.ver) (bk := bk) (ev := .slice p' (g.eras ++ [(⟨IntKind.u32.wrap (z.epoch + 1), e.ver, g.count⟩ : Era)]).length c') ?_
           rw [Fold.begin, hl]
           exact At.fit h)
        | (rw [hl, if_neg hc]
           exact FoldC.shut (f := g) (bk := bk) (ev := .slice q g.eras.length d) (At.fit h))) (ret2 rfl rfl rfl ⟨_, by rw [hl]; first | rw [decide_eq_true hc] | rw [decide_eq_false hc], rfl⟩)
theorem Returns_c (W0 : World) (b bk : Nat) (g : Fold) (e : Ent) (p : Option Addr) (c : Nat) (q : Option Addr) (d : Nat) (z : Era) (H : List Chunk) (hv : SlV q d g.eras) (hz : g.eras.getLast? = some z) (hn : g.eras.length ≤ 1000) :
    Call Tryd.prog W0 68 [.pointer (some ⟨b, 0, none⟩), e.v p c] (Blk b (.cells #[.pointer (some ⟨bk, 0, none⟩), .slice q g.eras.length d, .int .i64 g.count, .int .i64 g.back] 109 (0, 0)) :: SlT 55 (.slice q g.eras.length d) g.eras :: BookC bk g.book :: H)
      (fun v H' => ∃ u, v = .tuple #[u, .bool (!decide (g.back = 0))] ∧ H' = SlT (α := Msg) 80 u [] :: FoldC b (if g.back = 0 then g else g.begin g.back 0) :: H) := by
  have hl := Fold.last_eq hz
  refine call_enter Tryd.func68 rfl Tryd.ntmps68 rfl ?_

  refine ct_seq ?_
  refine ct_region ?_
  refine rs_op rfl rfl (opR_box rfl fun b3 => ?_)
  iterate 2 (first | refine rs_ex rfl (by (first | (constructor <;> first | rfl | exact RdC.rd | exact inferInstance) | exact Ex.pickF rfl rfl | exact Ex.eqlS rfl rfl | exact Ex.neqS rfl rfl | exact Ex.eqlPN rfl rfl | exact Ex.neqPN rfl rfl | exact Ex.eqlSN rfl rfl | exact Ex.neqSN rfl rfl | exact Ex.lenStr rfl)) rfl ?_ | refine rs_skip rfl rfl ?_)
  refine rs_end ?_
  refine qe_then ?_
  refine ct_seq ?_
  refine ct_region ?_
  iterate 6 (first | refine rs_ex rfl (by (first | (constructor <;> first | rfl | exact RdC.rd | exact inferInstance) | exact Ex.pickF rfl rfl | exact Ex.eqlS rfl rfl | exact Ex.neqS rfl rfl | exact Ex.eqlPN rfl rfl | exact Ex.neqPN rfl rfl | exact Ex.eqlSN rfl rfl | exact Ex.neqSN rfl rfl | exact Ex.lenStr rfl)) rfl ?_ | refine rs_skip rfl rfl ?_)
  refine rs_split (fun h11 => ?_) (fun h11 => ?_)
  · have hc : g.back ≠ 0 := by simpa using h11
    iterate 5 (first | refine rs_ex rfl (by (first | (constructor <;> first | rfl | exact RdC.rd | exact inferInstance) | exact Ex.pickF rfl rfl | exact Ex.eqlS rfl rfl | exact Ex.neqS rfl rfl | exact Ex.eqlPN rfl rfl | exact Ex.neqPN rfl rfl | exact Ex.eqlSN rfl rfl | exact Ex.neqSN rfl rfl | exact Ex.lenStr rfl)) rfl ?_ | refine rs_skip rfl rfl ?_)
    refine rs_op rfl rfl (opR_fn rfl (Call.heap (fun w h => by (first | exact h | exact h.sw1 | exact h.sw2 | exact h.sw3 | exact h.sw4 | exact h.sw5 | exact h.sw6 | exact h.sw7 | exact h.sw8 | exact h.pull2 | exact h.pull3 | exact h.pull4 | exact h.pull5 | exact h.fit)) ((Begins_c W0 b 0 (.pointer (some ⟨bk, 0, none⟩)) g.count g.back g.back 0 q d g.eras z _ hv hz (by omega)).mono ?_)))
    rintro v H' ⟨p', c', rfl, hv', rfl⟩
    iterate 3 (first | refine rs_ex rfl (by (first | (constructor <;> first | rfl | exact RdC.rd | exact inferInstance) | exact Ex.pickF rfl rfl | exact Ex.eqlS rfl rfl | exact Ex.neqS rfl rfl | exact Ex.eqlPN rfl rfl | exact Ex.neqPN rfl rfl | exact Ex.eqlSN rfl rfl | exact Ex.neqSN rfl rfl | exact Ex.lenStr rfl)) rfl ?_ | refine rs_skip rfl rfl ?_)
    refine rs_end ?_
    refine qe_then ?_
    refine ct_ret ?_
    exact qe_heap (H' := SlT (α := Msg) 80 (.slice none 0 0) [] :: FoldC b (if g.back = 0 then g else g.begin g.back 0) :: H) (fun w h => by
      refine At.slt_nil (α := Msg) 80 ?_
      first
        | (rw [if_neg hc]
           refine FoldC.shut (f := g.begin g.back 0) (bk := bk) (ev := .slice p' (g.eras ++ [(⟨IntKind.u32.wrap (z.epoch + 1), g.back, g.count⟩ : Era)]).length c') ?_
           rw [Fold.begin, hl]
           exact At.fit h)
        | (rw [if_pos hc]
           exact FoldC.shut (f := g) (bk := bk) (ev := .slice q g.eras.length d) (At.fit h))) (ret2 rfl rfl rfl ⟨_, by first | rw [decide_eq_false hc]; rfl | rw [decide_eq_true hc]; rfl, rfl⟩)
  · have hc : g.back = 0 := by simpa using h11
    iterate 9 (first | refine rs_ex rfl (by (first | (constructor <;> first | rfl | exact RdC.rd | exact inferInstance) | exact Ex.pickF rfl rfl | exact Ex.eqlS rfl rfl | exact Ex.neqS rfl rfl | exact Ex.eqlPN rfl rfl | exact Ex.neqPN rfl rfl | exact Ex.eqlSN rfl rfl | exact Ex.neqSN rfl rfl | exact Ex.lenStr rfl)) rfl ?_ | refine rs_skip rfl rfl ?_)
    refine rs_end ?_
    refine qe_then ?_
    refine ct_ret ?_
    exact qe_heap (H' := SlT (α := Msg) 80 (.slice none 0 0) [] :: FoldC b (if g.back = 0 then g else g.begin g.back 0) :: H) (fun w h => by
      refine At.slt_nil (α := Msg) 80 ?_
      first
        | (rw [if_neg hc]
           refine FoldC.shut (f := g.begin g.back 0) (bk := bk) (ev := .slice p' (g.eras ++ [(⟨IntKind.u32.wrap (z.epoch + 1), g.back, g.count⟩ : Era)]).length c') ?_
           rw [Fold.begin, hl]
           exact At.fit h)
        | (rw [if_pos hc]
           exact FoldC.shut (f := g) (bk := bk) (ev := .slice q g.eras.length d) (At.fit h))) (ret2 rfl rfl rfl ⟨_, by first | rw [decide_eq_false hc]; rfl | rw [decide_eq_true hc]; rfl, rfl⟩)
end Go.Rost
/- A log of entries, folded: an entry is applied; the log, the count, the eras. -/
namespace Go.Rost
open Go Go.RowKit Go.Proofs

structure Fold.Ok (f : Fold) (n : Nat) : Prop where
  good : f.book.Good (64 * n)
  c0 : 0 ≤ f.count
  c1 : f.count ≤ n
  len : f.eras.length ≤ n + 1
  ne : f.eras ≠ []
  ep : ∀ (i : Nat) x, f.eras[i]? = some x → x.epoch = (i : Int) + 1
theorem bad_false {e : Ent} (h : e.bad = false) : (packV e.msgs).2 = 0 ∧ e.msgs.length ≤ 64 ∧ (e.kind = 1 ∨ e.kind = 2 ∨ e.kind = 3) ∧ (e.kind ≠ 1 → e.msgs = []) ∧ (e.kind ≠ 2 → e.ver = 0) := by
  have h1 : (packV e.msgs).2 = 0 := by simp_all [Ent.bad]
  refine ⟨h1, ?_, ?_, ?_, ?_⟩
  · unfold packV at h1
    split at h1
    · cases h1
    · omega
  · by_cases k1 : e.kind = 1
    · exact .inl k1
    · by_cases k2 : e.kind = 2
      · exact .inr (.inl k2)
      · by_cases k3 : e.kind = 3
        · exact .inr (.inr k3)
        · simp_all [Ent.bad]
  · intro k1
    have : ¬ 0 < e.msgs.length := by simp_all [Ent.bad]
    exact List.length_eq_zero_iff.1 (by omega)
  · intro k2
    simp_all [Ent.bad]
theorem Does14_c (W0 : World) (b bk n : Nat) (g : Fold) (e : Ent) (p : Option Addr) (c : Nat) (q : Option Addr) (d : Nat) (z : Era) (H : List Chunk) (hr : SlR (At W0 H) p e.msgs) (hl : e.msgs.length ≤ 1000) (hv : SlV q d g.eras) (hz : g.eras.getLast? = some z) (hn : g.eras.length ≤ 1000)
    (hg : g.book.Good n) (hn2 : n ≤ 40000) (hk : e.kind = 1 ∨ e.kind = 2 ∨ e.kind = 3) :
    CallV Tryd.prog W0 (does14 b e.kind) [e.v p c] (Blk b (.cells #[.pointer (some ⟨bk, 0, none⟩), .slice q g.eras.length d, .int .i64 g.count, .int .i64 g.back] 109 (0, 0)) :: SlT 55 (.slice q g.eras.length d) g.eras :: BookC bk g.book :: H)
      (fun v H' => ∃ u, v = .tuple #[u, .bool (g.doing e).1.2] ∧ H' = SlT 80 u (g.doing e).1.1 :: FoldC b (g.doing e).2 :: H) := by
  have hle := Fold.last_eq hz
  rcases hk with hk | hk | hk
  · rw [does14, if_pos hk]
    refine CallV.of_call (first := [.pointer (some ⟨b, 0, none⟩)]) (cap := []) (Call.post (Call.heap (fun w h => h.pull2) (Delivers14_c W0 b bk n g (.slice q g.eras.length d) e p c (SlT 55 (.slice q g.eras.length d) g.eras :: H) (hr.mono fun w h => h.drop) hl hg hn2)) ?_)
    rintro v H' ⟨u, rfl, rfl⟩
    rw [Fold.doing, if_pos hk]
    refine ⟨_, ⟨u, rfl, rfl⟩, fun w h => At.sw1 (FoldC.shut (f := { g with book := g.book.takes e.msgs }) (bk := bk) (ev := .slice q g.eras.length d) (At.top [_, _, _, _] [1, 3, 2, 0] h))⟩
  · rw [does14, if_neg (by omega), if_pos hk]
    refine CallV.of_call (first := [.pointer (some ⟨b, 0, none⟩)]) (cap := []) ((Switches_c W0 b bk g e p c q d z H hv hz hn).mono ?_)
    rintro v H' ⟨u, rfl, rfl⟩
    rw [Fold.doing, if_neg (by omega), if_pos hk]
    by_cases hc : checkVer g.last.ver e.ver = 0
    · exact ⟨u, by rw [decide_eq_true hc, if_pos hc], by rw [if_pos hc, if_pos hc]⟩
    · exact ⟨u, by rw [decide_eq_false hc, if_neg hc], by rw [if_neg hc, if_neg hc]⟩
  · rw [does14, if_neg (by omega), if_neg (by omega)]
    refine CallV.of_call (first := [.pointer (some ⟨b, 0, none⟩)]) (cap := []) ((Returns_c W0 b bk g e p c q d z H hv hz hn).mono ?_)
    rintro v H' ⟨u, rfl, rfl⟩
    rw [Fold.doing, if_neg (by omega), if_neg (by omega)]
    by_cases hc : g.back = 0
    · exact ⟨u, by rw [decide_eq_true hc, if_pos hc]; rfl, by rw [if_pos hc, if_pos hc]⟩
    · exact ⟨u, by rw [decide_eq_false hc, if_neg hc]; rfl, by rw [if_neg hc, if_neg hc]⟩
theorem Apply14_c (W0 : World) (b n : Nat) (f : Fold) (e : Ent) (p : Option Addr) (c : Nat) (H : List Chunk) (hr : SlR (At W0 H) p e.msgs) (hl : e.msgs.length ≤ 1000) (h0 : 0 ≤ e.epoch) (hok : f.Ok n) (hn : n ≤ 500) :
    Call Tryd.prog W0 44 [.pointer (some ⟨b, 0, none⟩), e.v p c] (FoldC b f :: H)
      (fun v H' => ∃ u, v = .tuple #[u, .bool (f.apply e).1.2.1, .int .i64 (f.apply e).1.2.2] ∧ H' = SlT 80 u (f.apply e).1.1 :: FoldC b (f.apply e).2 :: H) := by
  obtain ⟨z, hz⟩ := last_some hok.ne
  have hle := Fold.last_eq hz
  have hlen := hok.len
  have hc0 := hok.c0
  have hc1 := hok.c1
  refine call_enter Tryd.func44 rfl Tryd.ntmps44 rfl ?_

  refine ct_seq ?_
  refine ct_region ?_
  refine rs_op rfl rfl (opR_box rfl fun b3 => ?_)
  iterate 3 (first | refine rs_ex rfl (by (first | (constructor <;> first | rfl | exact RdC.rd | exact inferInstance) | exact Ex.pickF rfl rfl | exact Ex.eqlS rfl rfl | exact Ex.neqS rfl rfl | exact Ex.eqlPN rfl rfl | exact Ex.neqPN rfl rfl | exact Ex.eqlSN rfl rfl | exact Ex.neqSN rfl rfl | exact Ex.lenStr rfl)) rfl ?_ | refine rs_skip rfl rfl ?_)
  refine rs_end ?_
  refine qe_then ?_
  refine ct_seq ?_
  refine ct_block ?_
  refine ct_seq ?_
  refine ct_region ?_
  iterate 3 (first | refine rs_ex rfl (by (first | (constructor <;> first | rfl | exact RdC.rd | exact inferInstance) | exact Ex.pickF rfl rfl | exact Ex.eqlS rfl rfl | exact Ex.neqS rfl rfl | exact Ex.eqlPN rfl rfl | exact Ex.neqPN rfl rfl | exact Ex.eqlSN rfl rfl | exact Ex.neqSN rfl rfl | exact Ex.lenStr rfl)) rfl ?_ | refine rs_skip rfl rfl ?_)
  refine rs_end ?_
  refine qe_then ?_
  refine ct_cond rfl (fun h10 => by cases h10) (fun h10 => ?_)
  refine ct_seq ?_
  refine ct_region ?_
  (first | refine rs_ex rfl (by (first | (constructor <;> first | rfl | exact RdC.rd | exact inferInstance) | exact Ex.pickF rfl rfl | exact Ex.eqlS rfl rfl | exact Ex.neqS rfl rfl | exact Ex.eqlPN rfl rfl | exact Ex.neqPN rfl rfl | exact Ex.eqlSN rfl rfl | exact Ex.neqSN rfl rfl | exact Ex.lenStr rfl)) rfl ?_ | refine rs_skip rfl rfl ?_)
  refine rs_op rfl rfl (opR_fn rfl (Call.heap (fun w h => by (first | exact h | exact h.sw1 | exact h.sw2 | exact h.sw3 | exact h.sw4 | exact h.sw5 | exact h.sw6 | exact h.sw7 | exact h.sw8 | exact h.pull2 | exact h.pull3 | exact h.pull4 | exact h.pull5 | exact h.fit)) ((Right14_c W0 e p c _ (hr.mono fun w h => h.drop.drop) hl h0).mono ?_)))
  rintro v H' ⟨rfl, rfl⟩
  iterate 2 (first | refine rs_ex rfl (by (first | (constructor <;> first | rfl | exact RdC.rd | exact inferInstance) | exact Ex.pickF rfl rfl | exact Ex.eqlS rfl rfl | exact Ex.neqS rfl rfl | exact Ex.eqlPN rfl rfl | exact Ex.neqPN rfl rfl | exact Ex.eqlSN rfl rfl | exact Ex.neqSN rfl rfl | exact Ex.lenStr rfl)) rfl ?_ | refine rs_skip rfl rfl ?_)
  refine rs_end ?_
  refine qe_then ?_
  refine ct_cond rfl (fun h13 => ?_) (fun h13 => ?_)
  · have hb : e.bad = true := by simpa using h13
    refine ct_seq ?_
    refine ct_region ?_
    iterate 3 (first | refine rs_ex rfl (by (first | (constructor <;> first | rfl | exact RdC.rd | exact inferInstance) | exact Ex.pickF rfl rfl | exact Ex.eqlS rfl rfl | exact Ex.neqS rfl rfl | exact Ex.eqlPN rfl rfl | exact Ex.neqPN rfl rfl | exact Ex.eqlSN rfl rfl | exact Ex.neqSN rfl rfl | exact Ex.lenStr rfl)) rfl ?_ | refine rs_skip rfl rfl ?_)
    refine rs_end ?_
    refine qe_then ?_
    refine ct_ret ?_
    have ea : f.apply e = (([], false, 140), f) := by rw [Fold.apply, if_pos hb]
    exact qe_heap (H' := SlT (α := Msg) 80 (.slice none 0 0) [] :: FoldC b f :: H) (fun w h => At.slt_nil (α := Msg) 80 (At.fit h)) (ret3 rfl rfl rfl rfl ⟨_, by rw [ea], by rw [ea]⟩)
  · have hb : e.bad = false := by simpa using h13
    obtain ⟨_, hm64, hkk, _, _⟩ := bad_false hb
    refine ct_skip ?_
    refine qe_block 0 ?_
    refine qe_then ?_
    refine ct_seq ?_
    refine ct_ex (fun w h => FoldC.open (At.sw1 h)) ?_
    rintro ⟨bk, ev⟩
    simp only
    refine ct_pr (fun w h => h.drop.slv) ?_; rintro ⟨q, d, e2, hv⟩
    subst e2
    refine ct_region ?_
    iterate 5 (first | refine rs_ex rfl (by (first | (constructor <;> first | rfl | exact RdC.rd | exact inferInstance) | exact Ex.pickF rfl rfl | exact Ex.eqlS rfl rfl | exact Ex.neqS rfl rfl | exact Ex.eqlPN rfl rfl | exact Ex.neqPN rfl rfl | exact Ex.eqlSN rfl rfl | exact Ex.neqSN rfl rfl | exact Ex.lenStr rfl)) rfl ?_ | refine rs_skip rfl rfl ?_)
    refine rs_rw (by rw [wrap64 (by omega) (by omega)]) ?_
    iterate 2 (first | refine rs_ex rfl (by (first | (constructor <;> first | rfl | exact RdC.rd | exact inferInstance) | exact Ex.pickF rfl rfl | exact Ex.eqlS rfl rfl | exact Ex.neqS rfl rfl | exact Ex.eqlPN rfl rfl | exact Ex.neqPN rfl rfl | exact Ex.eqlSN rfl rfl | exact Ex.neqSN rfl rfl | exact Ex.lenStr rfl)) rfl ?_ | refine rs_skip rfl rfl ?_)
    refine rs_opN rfl (opR_store rfl rfl rfl rfl ?_)
    refine rs_end ?_
    refine qe_then ?_
    refine ct_seq ?_
    refine ct_seq ?_
    refine ct_draw0 (by kernel_rfl) ?_
    refine ra_take 0 rfl (by kernel_rfl) (by kernel_rfl) rfl (by (first | (constructor <;> first | rfl | exact RdC.rd | exact inferInstance) | exact Ex.pickF rfl rfl | exact Ex.eqlS rfl rfl | exact Ex.neqS rfl rfl | exact Ex.eqlPN rfl rfl | exact Ex.neqPN rfl rfl | exact Ex.eqlSN rfl rfl | exact Ex.neqSN rfl rfl | exact Ex.lenStr rfl)) rfl (fun _ h => h.fit) ?_
    refine ra_take 1 rfl (by kernel_rfl) (by kernel_rfl) rfl (by (first | (constructor <;> first | rfl | exact RdC.rd | exact inferInstance) | exact Ex.pickF rfl rfl | exact Ex.eqlS rfl rfl | exact Ex.neqS rfl rfl | exact Ex.eqlPN rfl rfl | exact Ex.neqPN rfl rfl | exact Ex.eqlSN rfl rfl | exact Ex.neqSN rfl rfl | exact Ex.lenStr rfl)) rfl (fun _ h => h.fit) ?_
    refine ra_take 2 rfl (by kernel_rfl) (by kernel_rfl) rfl (by (first | (constructor <;> first | rfl | exact RdC.rd | exact inferInstance) | exact Ex.pickF rfl rfl | exact Ex.eqlS rfl rfl | exact Ex.neqS rfl rfl | exact Ex.eqlPN rfl rfl | exact Ex.neqPN rfl rfl | exact Ex.eqlSN rfl rfl | exact Ex.neqSN rfl rfl | exact Ex.lenStr rfl)) rfl (fun _ h => h.fit) ?_
    refine ra_all (rs := [3]) (by kernel_rfl) rfl ?_
    refine each_op rfl rfl rfl (opR_fn rfl (Call.heap (fun w h => by (first | exact h | exact h.sw1 | exact h.sw2 | exact h.sw3 | exact h.sw4 | exact h.sw5 | exact h.sw6 | exact h.sw7 | exact h.sw8 | exact h.pull2 | exact h.pull3 | exact h.pull4 | exact h.pull5 | exact h.fit)) ((Now_c W0 b 0 (.pointer (some ⟨bk, 0, none⟩)) (.int .i64 (f.count + 1)) (.int .i64 f.back) q d f.eras z _ hv hz (by omega)).mono ?_))) each_nil
    rintro v H' ⟨rfl, rfl⟩
    refine ⟨.inr (fun w h => h.fit), ?_⟩
    refine ra_take 4 rfl (by kernel_rfl) (by kernel_rfl) rfl (ex_field Tryd.underlying55 rfl 22 rfl rfl rfl) rfl (fun _ h => h.fit) ?_
    refine ra_take 5 rfl (by kernel_rfl) (by kernel_rfl) rfl (by (first | (constructor <;> first | rfl | exact RdC.rd | exact inferInstance) | exact Ex.pickF rfl rfl | exact Ex.eqlS rfl rfl | exact Ex.neqS rfl rfl | exact Ex.eqlPN rfl rfl | exact Ex.neqPN rfl rfl | exact Ex.eqlSN rfl rfl | exact Ex.neqSN rfl rfl | exact Ex.lenStr rfl)) rfl (fun _ h => h.fit) ?_
    refine ra_end (by kernel_rfl) ?_
    refine qe_then ?_
    refine ct_cond rfl (fun h29 => ?_) (fun h29 => ?_)
    · have hep : e.epoch ≠ z.epoch := by simpa using h29
      refine ct_seq ?_
      refine ct_region ?_
      iterate 3 (first | refine rs_ex rfl (by (first | (constructor <;> first | rfl | exact RdC.rd | exact inferInstance) | exact Ex.pickF rfl rfl | exact Ex.eqlS rfl rfl | exact Ex.neqS rfl rfl | exact Ex.eqlPN rfl rfl | exact Ex.neqPN rfl rfl | exact Ex.eqlSN rfl rfl | exact Ex.neqSN rfl rfl | exact Ex.lenStr rfl)) rfl ?_ | refine rs_skip rfl rfl ?_)
      refine rs_end ?_
      refine qe_then ?_
      refine ct_ret ?_
      have ea : f.apply e = (([], false, 0), f.tick) := by rw [Fold.apply, if_neg (by rw [hb]; decide), if_pos (by rw [hle]; exact hep)]
      exact qe_heap (H' := SlT (α := Msg) 80 (.slice none 0 0) [] :: FoldC b f.tick :: H) (fun w h => At.slt_nil (α := Msg) 80 (FoldC.shut (f := f.tick) (bk := bk) (ev := .slice q f.eras.length d) (At.top [_, _, _, _] [0, 1, 2] h))) (ret3 rfl rfl rfl rfl ⟨_, by rw [ea], by rw [ea]⟩)
    · have hep : e.epoch = z.epoch := by simpa using h29
      have ea : f.apply e = (((f.tick.doing e).1.1, (f.tick.doing e).1.2, 0), (f.tick.doing e).2) := by rw [Fold.apply, if_neg (by rw [hb]; decide), if_neg (by rw [hle]; exact fun h => h hep)]
      refine ct_skip ?_
      refine qe_then ?_
      refine ct_seq ?_
      refine ct_region ?_
      refine rs_op rfl rfl (opR_makeMap fun b30 => ?_)
      refine rs_heap (fun w h => At.map_new (κ := Int) (ν := Value) intV (fun v => v) h) ?_
      iterate 2 (first | refine rs_ex rfl (by (first | (constructor <;> first | rfl | exact RdC.rd | exact inferInstance) | exact Ex.pickF rfl rfl | exact Ex.eqlS rfl rfl | exact Ex.neqS rfl rfl | exact Ex.eqlPN rfl rfl | exact Ex.neqPN rfl rfl | exact Ex.eqlSN rfl rfl | exact Ex.neqSN rfl rfl | exact Ex.lenStr rfl)) rfl ?_ | refine rs_skip rfl rfl ?_)
      refine rs_opN rfl (opR_insert (ek := intV) (ev := fun v : Value => v) rfl (1 : Int) (clo14 66 b) rfl rfl ?_)
      iterate 2 (first | refine rs_ex rfl (by (first | (constructor <;> first | rfl | exact RdC.rd | exact inferInstance) | exact Ex.pickF rfl rfl | exact Ex.eqlS rfl rfl | exact Ex.neqS rfl rfl | exact Ex.eqlPN rfl rfl | exact Ex.neqPN rfl rfl | exact Ex.eqlSN rfl rfl | exact Ex.neqSN rfl rfl | exact Ex.lenStr rfl)) rfl ?_ | refine rs_skip rfl rfl ?_)
      refine rs_opN rfl (opR_insert (ek := intV) (ev := fun v : Value => v) rfl (2 : Int) (clo14 67 b) rfl rfl ?_)
      iterate 2 (first | refine rs_ex rfl (by (first | (constructor <;> first | rfl | exact RdC.rd | exact inferInstance) | exact Ex.pickF rfl rfl | exact Ex.eqlS rfl rfl | exact Ex.neqS rfl rfl | exact Ex.eqlPN rfl rfl | exact Ex.neqPN rfl rfl | exact Ex.eqlSN rfl rfl | exact Ex.neqSN rfl rfl | exact Ex.lenStr rfl)) rfl ?_ | refine rs_skip rfl rfl ?_)
      refine rs_opN rfl (opR_insert (ek := intV) (ev := fun v : Value => v) rfl (3 : Int) (clo14 68 b) rfl rfl ?_)
      iterate 2 (first | refine rs_ex rfl (by (first | (constructor <;> first | rfl | exact RdC.rd | exact inferInstance) | exact Ex.pickF rfl rfl | exact Ex.eqlS rfl rfl | exact Ex.neqS rfl rfl | exact Ex.eqlPN rfl rfl | exact Ex.neqPN rfl rfl | exact Ex.eqlSN rfl rfl | exact Ex.neqSN rfl rfl | exact Ex.lenStr rfl)) rfl ?_ | refine rs_skip rfl rfl ?_)
      refine rs_end ?_
      refine qe_then ?_
      refine ct_seq ?_
      refine ct_region ?_
      iterate 3 (first | refine rs_ex rfl (by (first | (constructor <;> first | rfl | exact RdC.rd | exact inferInstance) | exact Ex.pickF rfl rfl | exact Ex.eqlS rfl rfl | exact Ex.neqS rfl rfl | exact Ex.eqlPN rfl rfl | exact Ex.neqPN rfl rfl | exact Ex.eqlSN rfl rfl | exact Ex.neqSN rfl rfl | exact Ex.lenStr rfl)) rfl ?_ | refine rs_skip rfl rfl ?_)
      refine rs_ex rfl (ex_lookup (ek := intV) (ev := fun v : Value => v) rfl e.kind rfl inferInstance) rfl ?_
      refine rs_rw (v := does14 b e.kind) ?_ ?_
      · simp only [look_mset, look_nil]
        unfold does14
        rcases hkk with k | k | k <;> rw [k] <;> rfl
      (first | refine rs_ex rfl (by (first | (constructor <;> first | rfl | exact RdC.rd | exact inferInstance) | exact Ex.pickF rfl rfl | exact Ex.eqlS rfl rfl | exact Ex.neqS rfl rfl | exact Ex.eqlPN rfl rfl | exact Ex.neqPN rfl rfl | exact Ex.eqlSN rfl rfl | exact Ex.neqSN rfl rfl | exact Ex.lenStr rfl)) rfl ?_ | refine rs_skip rfl rfl ?_)
      refine rs_op rfl rfl (opR_callV rfl rfl (CallV.heap (fun w h => At.top [_, _, _, _] [1, 2, 3, 0] h) ((Does14_c W0 b bk (64 * n) f.tick e p c q d z _ (hr.mono fun w h => h.drop.drop) hl hv hz (by show f.eras.length ≤ 1000; omega) hok.good (by omega) hkk).mono ?_)))
      rintro v H' ⟨u, rfl, rfl⟩
      iterate 5 (first | refine rs_ex rfl (by (first | (constructor <;> first | rfl | exact RdC.rd | exact inferInstance) | exact Ex.pickF rfl rfl | exact Ex.eqlS rfl rfl | exact Ex.neqS rfl rfl | exact Ex.eqlPN rfl rfl | exact Ex.neqPN rfl rfl | exact Ex.eqlSN rfl rfl | exact Ex.neqSN rfl rfl | exact Ex.lenStr rfl)) rfl ?_ | refine rs_skip rfl rfl ?_)
      refine rs_end ?_
      refine qe_then ?_
      refine ct_seq ?_
      refine ct_region ?_
      iterate 5 (first | refine rs_ex rfl (by (first | (constructor <;> first | rfl | exact RdC.rd | exact inferInstance) | exact Ex.pickF rfl rfl | exact Ex.eqlS rfl rfl | exact Ex.neqS rfl rfl | exact Ex.eqlPN rfl rfl | exact Ex.neqPN rfl rfl | exact Ex.eqlSN rfl rfl | exact Ex.neqSN rfl rfl | exact Ex.lenStr rfl)) rfl ?_ | refine rs_skip rfl rfl ?_)
      refine rs_end ?_
      refine qe_then ?_
      refine ct_ret ?_
      exact qe_heap (H' := SlT 80 u (f.tick.doing e).1.1 :: FoldC b (f.tick.doing e).2 :: H) (fun w h => At.fit h) (ret3 rfl rfl rfl rfl ⟨_, by rw [ea], by rw [ea]⟩)
end Go.Rost
/- A log of entries, folded: the log, the count, the eras; what is kept. -/
namespace Go.Rost
open Go Go.RowKit Go.Proofs

theorem Apply14_nil (W0 : World) (v : Value) (L : List Value) (H : List Chunk) [hc : CellsOf v L] : Call Tryd.prog W0 44 [.pointer none, v] H (fun r H' => r = .tuple #[.slice none 0 0, .bool false, .int .i64 1] ∧ H' = H) := by
  refine call_enter Tryd.func44 rfl Tryd.ntmps44 rfl ?_

  refine ct_seq ?_
  refine ct_region ?_
  refine rs_op rfl rfl (opR_box rfl fun b3 => ?_)
  iterate 3 (first | refine rs_ex rfl (by (first | (constructor <;> first | rfl | exact RdC.rd | exact inferInstance) | exact Ex.pickF rfl rfl | exact Ex.eqlS rfl rfl | exact Ex.neqS rfl rfl | exact Ex.eqlPN rfl rfl | exact Ex.neqPN rfl rfl | exact Ex.eqlSN rfl rfl | exact Ex.neqSN rfl rfl | exact Ex.lenStr rfl)) rfl ?_ | refine rs_skip rfl rfl ?_)
  refine rs_end ?_
  refine qe_then ?_
  refine ct_seq ?_
  refine ct_block ?_
  refine ct_seq ?_
  refine ct_region ?_
  iterate 3 (first | refine rs_ex rfl (by (first | (constructor <;> first | rfl | exact RdC.rd | exact inferInstance) | exact Ex.pickF rfl rfl | exact Ex.eqlS rfl rfl | exact Ex.neqS rfl rfl | exact Ex.eqlPN rfl rfl | exact Ex.neqPN rfl rfl | exact Ex.eqlSN rfl rfl | exact Ex.neqSN rfl rfl | exact Ex.lenStr rfl)) rfl ?_ | refine rs_skip rfl rfl ?_)
  refine rs_end ?_
  refine qe_then ?_
  refine ct_cond rfl (fun h10 => ?_) (fun h10 => by cases h10)
  refine ct_seq ?_
  refine ct_region ?_
  iterate 3 (first | refine rs_ex rfl (by (first | (constructor <;> first | rfl | exact RdC.rd | exact inferInstance) | exact Ex.pickF rfl rfl | exact Ex.eqlS rfl rfl | exact Ex.neqS rfl rfl | exact Ex.eqlPN rfl rfl | exact Ex.neqPN rfl rfl | exact Ex.eqlSN rfl rfl | exact Ex.neqSN rfl rfl | exact Ex.lenStr rfl)) rfl ?_ | refine rs_skip rfl rfl ?_)
  refine rs_end ?_
  refine qe_then ?_
  refine ct_ret ?_
  exact qe_heap (fun w h => h.drop) (ret3 rfl rfl rfl rfl ⟨rfl, rfl⟩)
theorem Eras_open (W0 : World) (b : Nat) (u x y : Value) (p : Option Addr) (c : Nat) (l : List Era) (H : List Chunk) (hv : SlV p c l) (hl : l.length ≤ 1000) (h0 : ∀ x ∈ l, x.epoch ≠ 0) :
    Call Tryd.prog W0 70 [.pointer (some ⟨b, 0, none⟩)] (Blk b (.cells #[u, .slice p l.length c, x, y] 109 (0, 0)) :: SlT 55 (.slice p l.length c) l :: H)
      (fun v H' => H' = SlT 55 v l :: Blk b (.cells #[u, .slice p l.length c, x, y] 109 (0, 0)) :: SlT 55 (.slice p l.length c) l :: H) := by
  refine (Call.over (K := fun v H1 => H1 = [SlT 55 v l]) fun W1 hW => Eras_in W1 b u x y p c l (RdBlk.base (fun w hw => ⟨_, _, hw.read⟩) hW) (SlR.base (RdS.slR (len := l.length) inferInstance hv) hW) hl h0).mono ?_
  rintro v H' ⟨H1, rfl, rfl⟩
  rfl
theorem ep_ne {f : Fold} {n : Nat} (h : f.Ok n) : ∀ x ∈ f.eras, x.epoch ≠ 0 := fun x hx => by
  obtain ⟨i, hi, rfl⟩ := List.getElem_of_mem hx
  have := h.ep i _ (List.getElem?_eq_getElem hi)
  omega
theorem Eras14_c (W0 : World) (b n : Nat) (f : Fold) (H : List Chunk) (hok : f.Ok n) (hn : n ≤ 500) :
    Call Tryd.prog W0 70 [.pointer (some ⟨b, 0, none⟩)] (FoldC b f :: H) (fun v H' => H' = SlT 55 v f.eras :: FoldC b f :: H) := by
  have hlen := hok.len
  refine Call.ex (fun w h => FoldC.open h) ?_
  rintro ⟨bk, ev⟩
  simp only
  refine Call.pr (fun w h => h.drop.slv) ?_
  rintro ⟨q, d, rfl, hv⟩
  refine Call.post (Eras_open W0 b (.pointer (some ⟨bk, 0, none⟩)) (.int .i64 f.count) (.int .i64 f.back) q d f.eras (BookC bk f.book :: H) hv (by omega) (ep_ne hok)) ?_
  rintro v H' rfl
  exact ⟨_, rfl, fun w h => At.sw1 (FoldC.shut (f := f) (bk := bk) (ev := .slice q f.eras.length d) (At.top [_, _, _, _] [1, 2, 3, 0] h))⟩
theorem All_nil (W0 : World) (H : List Chunk) : Call Tryd.prog W0 78 [.pointer none] H (fun v H' => ∃ b e, v = .func (.func 94) #[] #[.pointer (some ⟨b, 0, none⟩)] ∧ H' = Blk b (.cells #[.slice (some ⟨e, 0, none⟩) 0 0] 95 (0, 0)) :: Blk e (.cells #[] 55 (0, 0)) :: H) := by
  refine call_enter Tryd.func78 rfl Tryd.ntmps78 rfl ?_

  refine ct_seq ?_
  refine ct_region ?_
  (first | refine rs_ex rfl (by (first | (constructor <;> first | rfl | exact RdC.rd | exact inferInstance) | exact Ex.pickF rfl rfl | exact Ex.eqlS rfl rfl | exact Ex.neqS rfl rfl | exact Ex.eqlPN rfl rfl | exact Ex.neqPN rfl rfl | exact Ex.eqlSN rfl rfl | exact Ex.neqSN rfl rfl | exact Ex.lenStr rfl)) rfl ?_ | refine rs_skip rfl rfl ?_)
  refine rs_end ?_
  refine qe_then ?_
  refine ct_seq ?_
  refine ct_seq ?_
  refine ct_region ?_
  iterate 2 (first | refine rs_ex rfl (by (first | (constructor <;> first | rfl | exact RdC.rd | exact inferInstance) | exact Ex.pickF rfl rfl | exact Ex.eqlS rfl rfl | exact Ex.neqS rfl rfl | exact Ex.eqlPN rfl rfl | exact Ex.neqPN rfl rfl | exact Ex.eqlSN rfl rfl | exact Ex.neqSN rfl rfl | exact Ex.lenStr rfl)) rfl ?_ | refine rs_skip rfl rfl ?_)
  refine rs_end ?_
  refine qe_then ?_
  refine ct_cond rfl (fun h4 => ?_) (fun h4 => by cases h4)
  refine ct_seq ?_
  refine ct_region ?_
  refine rs_op rfl rfl (opR_buildSlice0 fun b5 => ?_)
  refine rs_op rfl rfl (opR_fn rfl (Call.heap (fun w h => by (first | exact h | exact h.sw1 | exact h.sw2 | exact h.sw3 | exact h.sw4 | exact h.sw5 | exact h.sw6 | exact h.sw7 | exact h.sw8 | exact h.pull2 | exact h.pull3 | exact h.pull4 | exact h.pull5 | exact h.fit)) ((ValE_c W0 (some ⟨b5, 0, none⟩) 0 0 _).mono ?_)))
  rintro v H' ⟨bl, rfl, rfl⟩
  (first | refine rs_ex rfl (by (first | (constructor <;> first | rfl | exact RdC.rd | exact inferInstance) | exact Ex.pickF rfl rfl | exact Ex.eqlS rfl rfl | exact Ex.neqS rfl rfl | exact Ex.eqlPN rfl rfl | exact Ex.neqPN rfl rfl | exact Ex.eqlSN rfl rfl | exact Ex.neqSN rfl rfl | exact Ex.lenStr rfl)) rfl ?_ | refine rs_skip rfl rfl ?_)
  refine rs_end ?_
  refine qe_then ?_
  refine ct_ret ?_
  exact ret1 rfl rfl ⟨_, _, rfl, rfl⟩
theorem Eras_nil_in (W0 : World) : Call Tryd.prog W0 70 [.pointer none] [] (fun v H' => H' = [SlT 55 v ([] : List Era)]) := by
  refine call_enterM Tryd.func70 rfl Tryd.ntmps70 rfl ?_

  refine ct_seq ?_
  refine ct_region ?_
  (first | refine rs_ex rfl (by (first | (constructor <;> first | rfl | exact RdC.rd | exact inferInstance) | exact Ex.pickF rfl rfl | exact Ex.eqlS rfl rfl | exact Ex.neqS rfl rfl | exact Ex.eqlPN rfl rfl | exact Ex.neqPN rfl rfl | exact Ex.eqlSN rfl rfl | exact Ex.neqSN rfl rfl | exact Ex.lenStr rfl)) rfl ?_ | refine rs_skip rfl rfl ?_)
  refine rs_end ?_
  refine qe_then ?_
  refine ct_scope ?_
  refine ct_seq ?_
  refine ct_region ?_
  refine rs_op rfl rfl (opR_alloc fun b3 => ?_)
  refine rs_end ?_
  refine qe_then ?_
  refine ct_seq ?_
  refine ct_label ?_
  refine qe_then ?_
  refine ct_seq ?_
  refine ct_seq ?_
  refine ct_region ?_
  (first | refine rs_ex rfl (by (first | (constructor <;> first | rfl | exact RdC.rd | exact inferInstance) | exact Ex.pickF rfl rfl | exact Ex.eqlS rfl rfl | exact Ex.neqS rfl rfl | exact Ex.eqlPN rfl rfl | exact Ex.neqPN rfl rfl | exact Ex.eqlSN rfl rfl | exact Ex.neqSN rfl rfl | exact Ex.lenStr rfl)) rfl ?_ | refine rs_skip rfl rfl ?_)
  refine rs_op rfl rfl (opR_fn rfl (Call.heap (fun w h => by (first | exact h | exact h.sw1 | exact h.sw2 | exact h.sw3 | exact h.sw4 | exact h.sw5 | exact h.sw6 | exact h.sw7 | exact h.sw8 | exact h.pull2 | exact h.pull3 | exact h.pull4 | exact h.pull5 | exact h.fit)) ((All_nil W0 _).mono ?_)))
  rintro v H' ⟨bl, e, rfl, rfl⟩
  refine rs_end ?_
  refine qe_then ?_
  refine ct_block ?_
  refine ct_rangeFunc (ζ := List Era) (f := 94) (first := []) (cap := [.pointer (some ⟨bl, 0, none⟩)]) encEr (Blk bl (.cells #[.slice (some ⟨e, 0, none⟩) 0 0] 95 (0, 0))) (fun z => [SlotC (α := Era) b3 95 55 []]) erStep (fun z xs => xs = []) (fun xs => xs = []) ([]) rfl (fun _ => rfl) rfl (fun w h => At.sw1 (SlotC.shut (α := Era) (At.sw1 (At.slt_nil (α := Era) 55 (At.top [_, _, _] [2, 0] h))))) (fun y gc T hy => ValE1_c W0 y gc _ _ [] bl 0 _ [] T hy rfl .nil (by simp)) ?_ ?_ ?_
  · exact fun l z x xs hz => by cases hz
  · exact fun z x xs hz _ => by cases hz
  · rintro xs db rfl
    rw [runs]
    refine qe_exs (fun w h => SlotC.open (At.sw1 h)) ?_
    intro v
    refine qe_heap (H' := Blk db (.deferred (some [])) :: Blk b3 (.cells #[v] 95 (0, 0)) :: SlT (α := Era) 55 v [] :: []) (fun w h => At.top [_, _, _] [2, 0, 1] h) ?_
    refine qe_block 0 ?_
    refine qe_then ?_
    refine ct_seq ?_
    refine ct_region ?_
    iterate 2 (first | refine rs_ex rfl (by (first | (constructor <;> first | rfl | exact RdC.rd | exact inferInstance) | exact Ex.pickF rfl rfl | exact Ex.eqlS rfl rfl | exact Ex.neqS rfl rfl | exact Ex.eqlPN rfl rfl | exact Ex.neqPN rfl rfl | exact Ex.eqlSN rfl rfl | exact Ex.neqSN rfl rfl | exact Ex.lenStr rfl)) rfl ?_ | refine rs_skip rfl rfl ?_)
    refine rs_end ?_
    refine qe_then ?_
    refine ct_ret ?_
    exact retM_mark (retM (qe_fit (ret1 rfl rfl rfl)))
theorem Eras_nil (W0 : World) (H : List Chunk) : Call Tryd.prog W0 70 [.pointer none] H (fun v H' => H' = SlT 55 v ([] : List Era) :: H) := by
  refine (Call.over (K := fun v H1 => H1 = [SlT 55 v ([] : List Era)]) fun W1 hW => Eras_nil_in W1).mono ?_
  rintro v H' ⟨H1, rfl, rfl⟩
  rfl
theorem Book.Good.mono {s : Book} {n m : Nat} (h : s.Good n) (hm : n ≤ m) : s.Good m := ⟨h.inv.mono hm, h.dry⟩
theorem Fold.ok_new (v : Int) : (Fold.new v).Ok 0 := ⟨Book.good_new, Int.le_refl _, Int.le_refl _, Nat.le_refl _, by simp [Fold.new], fun i x h => by
  cases i with
  | zero => simp [Fold.new] at h; subst h; rfl
  | succ i => simp [Fold.new] at h⟩
theorem last_ep {f : Fold} {n : Nat} (h : f.Ok n) : f.last.epoch = (f.eras.length : Int) := by
  obtain ⟨z, hz⟩ := last_some h.ne
  have hg := last_get hz
  have := h.ep _ _ hg
  have hp := List.length_pos_iff.2 h.ne
  rw [Fold.last_eq hz, this]
  omega
theorem Fold.Ok.begin {f : Fold} {n : Nat} (h : f.Ok n) (hn : n ≤ 500) (ver back : Int) (m : Nat) (hm : n + 1 ≤ m) : ((f.tick).begin ver back).Ok m := by
  have h1 := h.len
  have h2 := h.c0
  have h3 := h.c1
  refine ⟨h.good.mono (by omega), by show 0 ≤ f.count + 1; omega, by show f.count + 1 ≤ (m : Int); omega, by simp [Fold.begin, Fold.tick]; omega, by simp [Fold.begin], fun i x hx => ?_⟩
  have hx' : (f.eras ++ [(⟨IntKind.u32.wrap (f.tick.last.epoch + 1), ver, f.count + 1⟩ : Era)])[i]? = some x := hx
  by_cases hi : i < f.eras.length
  · rw [List.getElem?_append_left hi] at hx'; exact h.ep i x hx'
  · rw [List.getElem?_append_right (by omega)] at hx'
    have h0 : i - f.eras.length = 0 := by
      by_cases h0 : i - f.eras.length = 0
      · exact h0
      · obtain ⟨k, hk⟩ := Nat.exists_eq_succ_of_ne_zero h0
        rw [hk] at hx'; simp at hx'
    rw [h0] at hx'
    simp at hx'
    subst hx'
    have he : f.tick.last.epoch = (f.eras.length : Int) := by have h9 := last_ep h; exact h9
    show IntKind.u32.wrap _ = _
    rw [he, wrap32 (by omega) (by omega)]
    omega
theorem Fold.Ok.tick {f : Fold} {n : Nat} (h : f.Ok n) (m : Nat) (hm : n + 1 ≤ m) : f.tick.Ok m := by
  have h1 := h.len
  have h2 := h.c0
  have h3 := h.c1
  exact ⟨h.good.mono (by omega), by show 0 ≤ f.count + 1; omega, by show f.count + 1 ≤ (m : Int); omega, by show f.eras.length ≤ m + 1; omega, h.ne, h.ep⟩
theorem Fold.Ok.mono {f : Fold} {n m : Nat} (h : f.Ok n) (hm : n ≤ m) : f.Ok m := by
  have h1 := h.len
  have h3 := h.c1
  exact ⟨h.good.mono (by omega), h.c0, by omega, by omega, h.ne, h.ep⟩
theorem Fold.Ok.apply {f : Fold} {n : Nat} (h : f.Ok n) (hn : n ≤ 500) (e : Ent) : (f.apply e).2.Ok (n + 1) := by
  unfold Fold.apply
  split
  · exact h.mono (by omega)
  · rename_i hb
    split
    · exact h.tick _ (Nat.le_refl _)
    · simp only
      unfold Fold.doing
      obtain ⟨_, hm, _⟩ := bad_false (by simpa using hb)
      split
      · have ht := h.tick (n + 1) (Nat.le_refl _)
        exact ⟨(Book.Good.takes e.msgs h.good (by omega)).mono (by omega), ht.c0, ht.c1, ht.len, ht.ne, ht.ep⟩
      · split
        · split
          · exact h.begin hn _ _ _ (Nat.le_refl _)
          · exact h.tick _ (Nat.le_refl _)
        · split
          · exact h.tick _ (Nat.le_refl _)
          · exact h.begin hn _ _ _ (Nat.le_refl _)
end Go.Rost
