/- States; texts cut at their ends. -/
import Derived.Test.YtebdfelodihdhaaDoorEs
import Derived.Test.YtebdfelodihdhaaDoorJo
import Derived.Test.YtebdfelodihdhaaDoorPp
import Derived.Test.YtebdfelodihdhaaDoorLs0
import Derived.Test.YtebdfelodihdhaaDoorMo
import Derived.Test.YtebdfelodihdhaaDoorCf
import Derived.Test.YtebdfelodihdhaaDoorRp
namespace Go.Rost
open Go Go.RowKit Go.Proofs

structure Sta where
  ver : Int
  cnt : Int
  data : ByteArray
  deriving DecidableEq
def Sta.v (s : Sta) : Value := .agg #[.int .i64 s.ver, .int .u32 s.cnt, .string s.data]
def Sta.cells (s : Sta) : List Value := [.int .i64 s.ver, .int .u32 s.cnt, .string s.data]
def Sta.zero : Sta := ⟨0, 0, ⟨#[]⟩⟩
abbrev Sta.l (s : Sta) : List UInt8 := s.data.data.toList
instance {s : Sta} : CellsOf s.v [.int .i64 s.ver, .int .u32 s.cnt, .string s.data] := ⟨rfl⟩
instance : Enc Sta := ⟨3, Sta.v, Sta.cells, fun _ => rfl, fun _ => rfl, by decide⟩
instance : EncA Sta := ⟨fun _ => rfl⟩
instance : EqT Tryd.prog 24 Sta.v 2 where
  eq d a b w hd := by
    obtain ⟨d, rfl⟩ : ∃ e, d = e + 2 := ⟨d - 2, by omega⟩
    obtain ⟨a1, a2, a3⟩ := a
    obtain ⟨b1, b2, b3⟩ := b
    refine (struct_eq Tryd.underlying24 (by kernel_rfl) (fields_cons (by decide) (a := .int .i64 a1) (b := .int .i64 b1) ?_ ?_ (eqT_int _ _ _ _ (by omega)) (fields_cons (by decide) (a := .int .u32 a2) (b := .int .u32 b2) ?_ ?_ (eqT_int _ _ _ _ (by omega)) (fields_cons (by decide) (a := .string a3) (b := .string b3) ?_ ?_ (eqT_str _ _ _ _ (by omega)) fields_nil)))).trans ?_
    iterate 6 simp [part, TPlain.agg]
    congr 1
    rw [Bool.eq_iff_iff]; simp
  le := by decide
theorem ex_eqSta {S : World → Prop} {σ : Env} {T' : TypeId} {x y : Operand} (a b : Sta) (hx : σ.val x = some a.v) (hy : σ.val y = some b.v) : Ex Tryd.prog S σ (.binOp .eql 24 x y T') (.bool (decide (a = b))) :=
  ex_eqT a b hx hy rfl fun w => guard_agg (by kernel_rfl) w
theorem ex_loadSta {S : World → Prop} {σ : Env} {x : Operand} {b o : Nat} (a : Sta) (hx : σ.val x = some (.pointer (some ⟨b, o, none⟩))) (h : Rd S b o (Enc.enc a)) : Ex Tryd.prog S σ (.load 24 x) a.v := ex_loadA (P := Tryd.prog) (T := 24) a hx h
/-- Two results, the first of which lies in three cells. -/
theorem retS3 {P : Program} {r : Option Nat} {N : Nat} {W0 : World} {fn : Func} {σ : Env} {H : List Chunk} {K : Value → List Chunk → Prop} {t T u b : Nat} {v0 v1 v2 v' : Value} [TAgg P T 3] (hr : fn.results = #[.cell t T, .tmp u]) (hv : σ.get t = some (.pointer (some ⟨b, 0, none⟩))) (hu : σ.get u = some v')
    (hb : RdBlk (At W0 H) b #[v0, v1, v2]) (H' : List Chunk) (hh : ∀ w, At W0 H w → At W0 H' w) (hK : K (.tuple #[.agg #[v0, v1, v2], v']) H') : QE ⟨P, r, N, W0⟩ [] (bodyPost P fn (RK W0 K)) .ret σ H :=
  fun a w hs hw => ⟨hs.defers, .tuple #[.agg #[v0, v1, v2], v'], by
    have h1 := hs.get t _ hv
    have h1' := hs.get u _ hu
    have hl : (loadCells ⟨b, 0, none⟩ 3).run P w = .ok #[v0, v1, v2] w := run_loadCells (P := P) (w := w) (vs := [v0, v1, v2]) (b := b) (o := 0) (fun j v e => hb.cell (by simpa using e) hw)
    have h2 : (loadVar T ⟨b, 0, none⟩).run P w = .ok (.agg #[v0, v1, v2]) w := by
      simp [loadVar, TAgg.agg (P := P) (T := T) (n := 3), TAgg.size (P := P) (T := T), hl]
    simp [results, hr, h1, h1', asAddr, h2, -Array.getD_eq_getD_getElem?], _, H', rfl, hK, hh w hw⟩
def hasSuf (s t : ByteArray) : Bool := decide (t.size ≤ s.size) && decide (s.extract (s.size - t.size) s.size = t)
def hasPre (s t : ByteArray) : Bool := decide (t.size ≤ s.size) && decide (s.extract 0 t.size = t)
theorem HasSuf_c (W0 : World) (s t : ByteArray) (H : List Chunk) (hs : s.size < 4611686018427387904) : Call Tryd.prog W0 82 [.string s, .string t] H (fun v H' => v = .bool (hasSuf s t) ∧ H' = H) := by
  refine call_enter Tryd.func82 rfl Tryd.ntmps82 rfl ?_

  refine ct_seq ?_
  refine ct_region ?_
  (first | refine rs_ex rfl (by (first | (constructor <;> first | rfl | exact RdC.rd | exact inferInstance) | exact Ex.pickF rfl rfl | exact Ex.eqlS rfl rfl | exact Ex.neqS rfl rfl | exact Ex.eqlPN rfl rfl | exact Ex.neqPN rfl rfl | exact Ex.eqlSN rfl rfl | exact Ex.neqSN rfl rfl | exact Ex.lenStr rfl)) rfl ?_ | refine rs_skip rfl rfl ?_)
  refine rs_end ?_
  refine qe_then ?_
  refine ct_seq ?_
  refine ct_region ?_
  iterate 6 (first | refine rs_ex rfl (by (first | (constructor <;> first | rfl | exact RdC.rd | exact inferInstance) | exact Ex.pickF rfl rfl | exact Ex.eqlS rfl rfl | exact Ex.neqS rfl rfl | exact Ex.eqlPN rfl rfl | exact Ex.neqPN rfl rfl | exact Ex.eqlSN rfl rfl | exact Ex.neqSN rfl rfl | exact Ex.lenStr rfl)) rfl ?_ | refine rs_skip rfl rfl ?_)
  refine rs_split (fun h10 => ?_) (fun h10 => ?_)
  · have hle : t.size ≤ s.size := by simp at h10; exact h10
    iterate 6 (first | refine rs_ex rfl (by (first | (constructor <;> first | rfl | exact RdC.rd | exact inferInstance) | exact Ex.pickF rfl rfl | exact Ex.eqlS rfl rfl | exact Ex.neqS rfl rfl | exact Ex.eqlPN rfl rfl | exact Ex.neqPN rfl rfl | exact Ex.eqlSN rfl rfl | exact Ex.neqSN rfl rfl | exact Ex.lenStr rfl)) rfl ?_ | refine rs_skip rfl rfl ?_)
    refine rs_rw (by rw [wrap64 (by omega) (by omega), show ((s.size : Int) - (t.size : Int)) = ((s.size - t.size : Nat) : Int) by omega]) ?_
    refine rs_ex rfl (ex_sliceStr (i := s.size - t.size) (j := s.size) rfl (.inr ⟨_, _, rfl, rfl⟩) (.inl ⟨rfl, rfl⟩) (by omega) (by omega)) rfl ?_
    iterate 4 (first | refine rs_ex rfl (by (first | (constructor <;> first | rfl | exact RdC.rd | exact inferInstance) | exact Ex.pickF rfl rfl | exact Ex.eqlS rfl rfl | exact Ex.neqS rfl rfl | exact Ex.eqlPN rfl rfl | exact Ex.neqPN rfl rfl | exact Ex.eqlSN rfl rfl | exact Ex.neqSN rfl rfl | exact Ex.lenStr rfl)) rfl ?_ | refine rs_skip rfl rfl ?_)
    refine rs_end ?_
    refine qe_then ?_
    refine ct_ret ?_
    exact ret1 rfl rfl ⟨by simp [hasSuf, hle], rfl⟩
  · have hle : ¬ t.size ≤ s.size := by simp at h10; omega
    iterate 11 (first | refine rs_ex rfl (by (first | (constructor <;> first | rfl | exact RdC.rd | exact inferInstance) | exact Ex.pickF rfl rfl | exact Ex.eqlS rfl rfl | exact Ex.neqS rfl rfl | exact Ex.eqlPN rfl rfl | exact Ex.neqPN rfl rfl | exact Ex.eqlSN rfl rfl | exact Ex.neqSN rfl rfl | exact Ex.lenStr rfl)) rfl ?_ | refine rs_skip rfl rfl ?_)
    refine rs_end ?_
    refine qe_then ?_
    refine ct_ret ?_
    exact ret1 rfl rfl ⟨by simp [hasSuf, hle], rfl⟩
theorem HasPre_c (W0 : World) (s t : ByteArray) (H : List Chunk) : Call Tryd.prog W0 83 [.string s, .string t] H (fun v H' => v = .bool (hasPre s t) ∧ H' = H) := by
  refine call_enter Tryd.func83 rfl Tryd.ntmps83 rfl ?_

  refine ct_seq ?_
  refine ct_region ?_
  (first | refine rs_ex rfl (by (first | (constructor <;> first | rfl | exact RdC.rd | exact inferInstance) | exact Ex.pickF rfl rfl | exact Ex.eqlS rfl rfl | exact Ex.neqS rfl rfl | exact Ex.eqlPN rfl rfl | exact Ex.neqPN rfl rfl | exact Ex.eqlSN rfl rfl | exact Ex.neqSN rfl rfl | exact Ex.lenStr rfl)) rfl ?_ | refine rs_skip rfl rfl ?_)
  refine rs_end ?_
  refine qe_then ?_
  refine ct_seq ?_
  refine ct_region ?_
  iterate 6 (first | refine rs_ex rfl (by (first | (constructor <;> first | rfl | exact RdC.rd | exact inferInstance) | exact Ex.pickF rfl rfl | exact Ex.eqlS rfl rfl | exact Ex.neqS rfl rfl | exact Ex.eqlPN rfl rfl | exact Ex.neqPN rfl rfl | exact Ex.eqlSN rfl rfl | exact Ex.neqSN rfl rfl | exact Ex.lenStr rfl)) rfl ?_ | refine rs_skip rfl rfl ?_)
  refine rs_split (fun h10 => ?_) (fun h10 => ?_)
  · have hle : t.size ≤ s.size := by simp at h10; exact h10
    iterate 3 (first | refine rs_ex rfl (by (first | (constructor <;> first | rfl | exact RdC.rd | exact inferInstance) | exact Ex.pickF rfl rfl | exact Ex.eqlS rfl rfl | exact Ex.neqS rfl rfl | exact Ex.eqlPN rfl rfl | exact Ex.neqPN rfl rfl | exact Ex.eqlSN rfl rfl | exact Ex.neqSN rfl rfl | exact Ex.lenStr rfl)) rfl ?_ | refine rs_skip rfl rfl ?_)
    refine rs_ex rfl (ex_sliceStr (i := 0) (j := t.size) rfl (.inl ⟨rfl, rfl⟩) (.inr ⟨_, _, rfl, rfl⟩) (by omega) (by omega)) rfl ?_
    iterate 4 (first | refine rs_ex rfl (by (first | (constructor <;> first | rfl | exact RdC.rd | exact inferInstance) | exact Ex.pickF rfl rfl | exact Ex.eqlS rfl rfl | exact Ex.neqS rfl rfl | exact Ex.eqlPN rfl rfl | exact Ex.neqPN rfl rfl | exact Ex.eqlSN rfl rfl | exact Ex.neqSN rfl rfl | exact Ex.lenStr rfl)) rfl ?_ | refine rs_skip rfl rfl ?_)
    refine rs_end ?_
    refine qe_then ?_
    refine ct_ret ?_
    exact ret1 rfl rfl ⟨by simp [hasPre, hle], rfl⟩
  · have hle : ¬ t.size ≤ s.size := by simp at h10; omega
    iterate 8 (first | refine rs_ex rfl (by (first | (constructor <;> first | rfl | exact RdC.rd | exact inferInstance) | exact Ex.pickF rfl rfl | exact Ex.eqlS rfl rfl | exact Ex.neqS rfl rfl | exact Ex.eqlPN rfl rfl | exact Ex.neqPN rfl rfl | exact Ex.eqlSN rfl rfl | exact Ex.neqSN rfl rfl | exact Ex.lenStr rfl)) rfl ?_ | refine rs_skip rfl rfl ?_)
    refine rs_end ?_
    refine qe_then ?_
    refine ct_ret ?_
    exact ret1 rfl rfl ⟨by simp [hasPre, hle], rfl⟩
theorem CutSufI_c (W0 : World) (s t : ByteArray) (H : List Chunk) (hs : s.size < 4611686018427387904) : Call Tryd.prog W0 72 [.string s, .string t] H (fun v H' => v = .tuple #[.string (if hasSuf s t = true then s.extract 0 (s.size - t.size) else s), .bool (hasSuf s t)] ∧ H' = H) := by
  refine call_enter Tryd.func72 rfl Tryd.ntmps72 rfl ?_

  refine ct_seq ?_
  refine ct_region ?_
  iterate 2 (first | refine rs_ex rfl (by (first | (constructor <;> first | rfl | exact RdC.rd | exact inferInstance) | exact Ex.pickF rfl rfl | exact Ex.eqlS rfl rfl | exact Ex.neqS rfl rfl | exact Ex.eqlPN rfl rfl | exact Ex.neqPN rfl rfl | exact Ex.eqlSN rfl rfl | exact Ex.neqSN rfl rfl | exact Ex.lenStr rfl)) rfl ?_ | refine rs_skip rfl rfl ?_)
  refine rs_end ?_
  refine qe_then ?_
  refine ct_seq ?_
  refine ct_seq ?_
  refine ct_region ?_
  iterate 2 (first | refine rs_ex rfl (by (first | (constructor <;> first | rfl | exact RdC.rd | exact inferInstance) | exact Ex.pickF rfl rfl | exact Ex.eqlS rfl rfl | exact Ex.neqS rfl rfl | exact Ex.eqlPN rfl rfl | exact Ex.neqPN rfl rfl | exact Ex.eqlSN rfl rfl | exact Ex.neqSN rfl rfl | exact Ex.lenStr rfl)) rfl ?_ | refine rs_skip rfl rfl ?_)
  refine rs_op rfl rfl (opR_fn rfl (Call.heap (fun w h => by (first | exact h | exact h.sw1 | exact h.sw2 | exact h.sw3 | exact h.sw4 | exact h.sw5 | exact h.sw6 | exact h.sw7 | exact h.sw8 | exact h.pull2 | exact h.pull3 | exact h.pull4 | exact h.pull5 | exact h.fit)) ((HasSuf_c W0 s t _ hs).mono ?_)))
  rintro v H' ⟨rfl, rfl⟩
  (first | refine rs_ex rfl (by (first | (constructor <;> first | rfl | exact RdC.rd | exact inferInstance) | exact Ex.pickF rfl rfl | exact Ex.eqlS rfl rfl | exact Ex.neqS rfl rfl | exact Ex.eqlPN rfl rfl | exact Ex.neqPN rfl rfl | exact Ex.eqlSN rfl rfl | exact Ex.neqSN rfl rfl | exact Ex.lenStr rfl)) rfl ?_ | refine rs_skip rfl rfl ?_)
  refine rs_end ?_
  refine qe_then ?_
  refine ct_cond rfl (fun h9 => ?_) (fun h9 => ?_)
  · have hn : hasSuf s t = false := by simpa using h9
    refine ct_seq ?_
    refine ct_region ?_
    iterate 3 (first | refine rs_ex rfl (by (first | (constructor <;> first | rfl | exact RdC.rd | exact inferInstance) | exact Ex.pickF rfl rfl | exact Ex.eqlS rfl rfl | exact Ex.neqS rfl rfl | exact Ex.eqlPN rfl rfl | exact Ex.neqPN rfl rfl | exact Ex.eqlSN rfl rfl | exact Ex.neqSN rfl rfl | exact Ex.lenStr rfl)) rfl ?_ | refine rs_skip rfl rfl ?_)
    refine rs_end ?_
    refine qe_then ?_
    refine ct_ret ?_
    exact ret2 rfl rfl rfl ⟨by rw [hn]; rfl, rfl⟩
  · have hn : hasSuf s t = true := by simpa using h9
    have hle : t.size ≤ s.size := by simp [hasSuf] at hn; exact hn.1
    refine ct_skip ?_
    refine qe_then ?_
    refine ct_seq ?_
    refine ct_region ?_
    iterate 6 (first | refine rs_ex rfl (by (first | (constructor <;> first | rfl | exact RdC.rd | exact inferInstance) | exact Ex.pickF rfl rfl | exact Ex.eqlS rfl rfl | exact Ex.neqS rfl rfl | exact Ex.eqlPN rfl rfl | exact Ex.neqPN rfl rfl | exact Ex.eqlSN rfl rfl | exact Ex.neqSN rfl rfl | exact Ex.lenStr rfl)) rfl ?_ | refine rs_skip rfl rfl ?_)
    refine rs_rw (by rw [wrap64 (by omega) (by omega), show ((s.size : Int) - (t.size : Int)) = ((s.size - t.size : Nat) : Int) by omega]) ?_
    refine rs_ex rfl (ex_sliceStr (i := 0) (j := s.size - t.size) rfl (.inl ⟨rfl, rfl⟩) (.inr ⟨_, _, rfl, rfl⟩) (by omega) (by omega)) rfl ?_
    iterate 2 (first | refine rs_ex rfl (by (first | (constructor <;> first | rfl | exact RdC.rd | exact inferInstance) | exact Ex.pickF rfl rfl | exact Ex.eqlS rfl rfl | exact Ex.neqS rfl rfl | exact Ex.eqlPN rfl rfl | exact Ex.neqPN rfl rfl | exact Ex.eqlSN rfl rfl | exact Ex.neqSN rfl rfl | exact Ex.lenStr rfl)) rfl ?_ | refine rs_skip rfl rfl ?_)
    refine rs_end ?_
    refine qe_then ?_
    refine ct_ret ?_
    exact ret2 rfl rfl rfl ⟨by rw [hn, if_pos rfl], rfl⟩
theorem CutPreI_c (W0 : World) (s t : ByteArray) (H : List Chunk) : Call Tryd.prog W0 73 [.string s, .string t] H (fun v H' => v = .tuple #[.string (if hasPre s t = true then s.extract t.size s.size else s), .bool (hasPre s t)] ∧ H' = H) := by
  refine call_enter Tryd.func73 rfl Tryd.ntmps73 rfl ?_

  refine ct_seq ?_
  refine ct_region ?_
  iterate 2 (first | refine rs_ex rfl (by (first | (constructor <;> first | rfl | exact RdC.rd | exact inferInstance) | exact Ex.pickF rfl rfl | exact Ex.eqlS rfl rfl | exact Ex.neqS rfl rfl | exact Ex.eqlPN rfl rfl | exact Ex.neqPN rfl rfl | exact Ex.eqlSN rfl rfl | exact Ex.neqSN rfl rfl | exact Ex.lenStr rfl)) rfl ?_ | refine rs_skip rfl rfl ?_)
  refine rs_end ?_
  refine qe_then ?_
  refine ct_seq ?_
  refine ct_seq ?_
  refine ct_region ?_
  iterate 2 (first | refine rs_ex rfl (by (first | (constructor <;> first | rfl | exact RdC.rd | exact inferInstance) | exact Ex.pickF rfl rfl | exact Ex.eqlS rfl rfl | exact Ex.neqS rfl rfl | exact Ex.eqlPN rfl rfl | exact Ex.neqPN rfl rfl | exact Ex.eqlSN rfl rfl | exact Ex.neqSN rfl rfl | exact Ex.lenStr rfl)) rfl ?_ | refine rs_skip rfl rfl ?_)
  refine rs_op rfl rfl (opR_fn rfl (Call.heap (fun w h => by (first | exact h | exact h.sw1 | exact h.sw2 | exact h.sw3 | exact h.sw4 | exact h.sw5 | exact h.sw6 | exact h.sw7 | exact h.sw8 | exact h.pull2 | exact h.pull3 | exact h.pull4 | exact h.pull5 | exact h.fit)) ((HasPre_c W0 s t _).mono ?_)))
  rintro v H' ⟨rfl, rfl⟩
  (first | refine rs_ex rfl (by (first | (constructor <;> first | rfl | exact RdC.rd | exact inferInstance) | exact Ex.pickF rfl rfl | exact Ex.eqlS rfl rfl | exact Ex.neqS rfl rfl | exact Ex.eqlPN rfl rfl | exact Ex.neqPN rfl rfl | exact Ex.eqlSN rfl rfl | exact Ex.neqSN rfl rfl | exact Ex.lenStr rfl)) rfl ?_ | refine rs_skip rfl rfl ?_)
  refine rs_end ?_
  refine qe_then ?_
  refine ct_cond rfl (fun h9 => ?_) (fun h9 => ?_)
  · have hn : hasPre s t = false := by simpa using h9
    refine ct_seq ?_
    refine ct_region ?_
    iterate 3 (first | refine rs_ex rfl (by (first | (constructor <;> first | rfl | exact RdC.rd | exact inferInstance) | exact Ex.pickF rfl rfl | exact Ex.eqlS rfl rfl | exact Ex.neqS rfl rfl | exact Ex.eqlPN rfl rfl | exact Ex.neqPN rfl rfl | exact Ex.eqlSN rfl rfl | exact Ex.neqSN rfl rfl | exact Ex.lenStr rfl)) rfl ?_ | refine rs_skip rfl rfl ?_)
    refine rs_end ?_
    refine qe_then ?_
    refine ct_ret ?_
    exact ret2 rfl rfl rfl ⟨by rw [hn]; rfl, rfl⟩
  · have hn : hasPre s t = true := by simpa using h9
    have hle : t.size ≤ s.size := by simp [hasPre] at hn; exact hn.1
    refine ct_skip ?_
    refine qe_then ?_
    refine ct_seq ?_
    refine ct_region ?_
    iterate 3 (first | refine rs_ex rfl (by (first | (constructor <;> first | rfl | exact RdC.rd | exact inferInstance) | exact Ex.pickF rfl rfl | exact Ex.eqlS rfl rfl | exact Ex.neqS rfl rfl | exact Ex.eqlPN rfl rfl | exact Ex.neqPN rfl rfl | exact Ex.eqlSN rfl rfl | exact Ex.neqSN rfl rfl | exact Ex.lenStr rfl)) rfl ?_ | refine rs_skip rfl rfl ?_)
    refine rs_ex rfl (ex_sliceStr (i := t.size) (j := s.size) rfl (.inr ⟨_, _, rfl, rfl⟩) (.inl ⟨rfl, rfl⟩) (by omega) (by omega)) rfl ?_
    iterate 2 (first | refine rs_ex rfl (by (first | (constructor <;> first | rfl | exact RdC.rd | exact inferInstance) | exact Ex.pickF rfl rfl | exact Ex.eqlS rfl rfl | exact Ex.neqS rfl rfl | exact Ex.eqlPN rfl rfl | exact Ex.neqPN rfl rfl | exact Ex.eqlSN rfl rfl | exact Ex.neqSN rfl rfl | exact Ex.lenStr rfl)) rfl ?_ | refine rs_skip rfl rfl ?_)
    refine rs_end ?_
    refine qe_then ?_
    refine ct_ret ?_
    exact ret2 rfl rfl rfl ⟨by rw [hn, if_pos rfl], rfl⟩
theorem CutSuf_c (W0 : World) (s t : ByteArray) (H : List Chunk) (hs : s.size < 4611686018427387904) : Call Tryd.prog W0 56 [.string s, .string t] H (fun v H' => v = .tuple #[.string (if hasSuf s t = true then s.extract 0 (s.size - t.size) else s), .bool (hasSuf s t)] ∧ H' = H) := by
  refine call_enter Tryd.func56 rfl Tryd.ntmps56 rfl ?_

  refine ct_seq ?_
  refine ct_region ?_
  iterate 2 (first | refine rs_ex rfl (by (first | (constructor <;> first | rfl | exact RdC.rd | exact inferInstance) | exact Ex.pickF rfl rfl | exact Ex.eqlS rfl rfl | exact Ex.neqS rfl rfl | exact Ex.eqlPN rfl rfl | exact Ex.neqPN rfl rfl | exact Ex.eqlSN rfl rfl | exact Ex.neqSN rfl rfl | exact Ex.lenStr rfl)) rfl ?_ | refine rs_skip rfl rfl ?_)
  refine rs_end ?_
  refine qe_then ?_
  refine ct_seq ?_
  refine ct_region ?_
  iterate 2 (first | refine rs_ex rfl (by (first | (constructor <;> first | rfl | exact RdC.rd | exact inferInstance) | exact Ex.pickF rfl rfl | exact Ex.eqlS rfl rfl | exact Ex.neqS rfl rfl | exact Ex.eqlPN rfl rfl | exact Ex.neqPN rfl rfl | exact Ex.eqlSN rfl rfl | exact Ex.neqSN rfl rfl | exact Ex.lenStr rfl)) rfl ?_ | refine rs_skip rfl rfl ?_)
  refine rs_op rfl rfl (opR_fn rfl (Call.heap (fun w h => by (first | exact h | exact h.sw1 | exact h.sw2 | exact h.sw3 | exact h.sw4 | exact h.sw5 | exact h.sw6 | exact h.sw7 | exact h.sw8 | exact h.pull2 | exact h.pull3 | exact h.pull4 | exact h.pull5 | exact h.fit)) ((CutSufI_c W0 s t _ hs).mono ?_)))
  rintro v H' ⟨rfl, rfl⟩
  iterate 4 (first | refine rs_ex rfl (by (first | (constructor <;> first | rfl | exact RdC.rd | exact inferInstance) | exact Ex.pickF rfl rfl | exact Ex.eqlS rfl rfl | exact Ex.neqS rfl rfl | exact Ex.eqlPN rfl rfl | exact Ex.neqPN rfl rfl | exact Ex.eqlSN rfl rfl | exact Ex.neqSN rfl rfl | exact Ex.lenStr rfl)) rfl ?_ | refine rs_skip rfl rfl ?_)
  refine rs_end ?_
  refine qe_then ?_
  refine ct_ret ?_
  exact qe_fit (ret2 rfl rfl rfl ⟨rfl, rfl⟩)
theorem CutPre_c (W0 : World) (s t : ByteArray) (H : List Chunk) : Call Tryd.prog W0 58 [.string s, .string t] H (fun v H' => v = .tuple #[.string (if hasPre s t = true then s.extract t.size s.size else s), .bool (hasPre s t)] ∧ H' = H) := by
  refine call_enter Tryd.func58 rfl Tryd.ntmps58 rfl ?_

  refine ct_seq ?_
  refine ct_region ?_
  iterate 2 (first | refine rs_ex rfl (by (first | (constructor <;> first | rfl | exact RdC.rd | exact inferInstance) | exact Ex.pickF rfl rfl | exact Ex.eqlS rfl rfl | exact Ex.neqS rfl rfl | exact Ex.eqlPN rfl rfl | exact Ex.neqPN rfl rfl | exact Ex.eqlSN rfl rfl | exact Ex.neqSN rfl rfl | exact Ex.lenStr rfl)) rfl ?_ | refine rs_skip rfl rfl ?_)
  refine rs_end ?_
  refine qe_then ?_
  refine ct_seq ?_
  refine ct_region ?_
  iterate 2 (first | refine rs_ex rfl (by (first | (constructor <;> first | rfl | exact RdC.rd | exact inferInstance) | exact Ex.pickF rfl rfl | exact Ex.eqlS rfl rfl | exact Ex.neqS rfl rfl | exact Ex.eqlPN rfl rfl | exact Ex.neqPN rfl rfl | exact Ex.eqlSN rfl rfl | exact Ex.neqSN rfl rfl | exact Ex.lenStr rfl)) rfl ?_ | refine rs_skip rfl rfl ?_)
  refine rs_op rfl rfl (opR_fn rfl (Call.heap (fun w h => by (first | exact h | exact h.sw1 | exact h.sw2 | exact h.sw3 | exact h.sw4 | exact h.sw5 | exact h.sw6 | exact h.sw7 | exact h.sw8 | exact h.pull2 | exact h.pull3 | exact h.pull4 | exact h.pull5 | exact h.fit)) ((CutPreI_c W0 s t _).mono ?_)))
  rintro v H' ⟨rfl, rfl⟩
  iterate 4 (first | refine rs_ex rfl (by (first | (constructor <;> first | rfl | exact RdC.rd | exact inferInstance) | exact Ex.pickF rfl rfl | exact Ex.eqlS rfl rfl | exact Ex.neqS rfl rfl | exact Ex.eqlPN rfl rfl | exact Ex.neqPN rfl rfl | exact Ex.eqlSN rfl rfl | exact Ex.neqSN rfl rfl | exact Ex.lenStr rfl)) rfl ?_ | refine rs_skip rfl rfl ?_)
  refine rs_end ?_
  refine qe_then ?_
  refine ct_ret ?_
  exact qe_fit (ret2 rfl rfl rfl ⟨rfl, rfl⟩)
end Go.Rost
/- A state turned by one version. -/
namespace Go.Rost
open Go Go.RowKit Go.Proofs

def turned (s : Sta) (to : Int) (l : List UInt8) : Option Sta := if l.length ≤ 1000 then some ⟨to, s.cnt, toB l⟩ else none
def staV (o : Option Sta) : Sta := o.getD .zero
theorem Turned_c (W0 : World) (a : Addr) (hg : RdBlk (At W0 []) 0 #[errF a]) (s : Sta) (to : Int) (p : Option Addr) (c : Nat) (ss : List ByteArray) (H : List Chunk) (hr : SlR (At W0 H) p ss) (hl : (joinB ss).length ≤ 900000) (hn : ss.length ≤ 1000) (hc : ss.length ≤ c) (h0 : joinB ss ≠ [] ∨ ss.length = 1) :
    Call Tryd.prog W0 52 [s.v, .int .i64 to, .slice p ss.length c] H (fun v H' => v = .tuple #[(staV (turned s to (joinB ss))).v, errV a (turned s to (joinB ss)).isNone] ∧ H' = H) := by
  have hgB : RdC (At W0 []) 0 #[errF a] := ⟨hg⟩
  refine call_enter Tryd.func52 rfl Tryd.ntmps52 rfl ?_

  refine ct_seq ?_
  refine ct_region ?_
  refine rs_op rfl rfl (opR_box rfl fun b3 => ?_)
  refine rs_op rfl rfl (opR_alloc fun b6 => ?_)
  (first | refine rs_ex rfl (by (first | (constructor <;> first | rfl | exact RdC.rd | exact inferInstance) | exact Ex.pickF rfl rfl | exact Ex.eqlS rfl rfl | exact Ex.neqS rfl rfl | exact Ex.eqlPN rfl rfl | exact Ex.neqPN rfl rfl | exact Ex.eqlSN rfl rfl | exact Ex.neqSN rfl rfl | exact Ex.lenStr rfl)) rfl ?_ | refine rs_skip rfl rfl ?_)
  refine rs_end ?_
  refine qe_then ?_
  refine ct_seq ?_
  refine ct_region ?_
  iterate 2 (first | refine rs_ex rfl (by (first | (constructor <;> first | rfl | exact RdC.rd | exact inferInstance) | exact Ex.pickF rfl rfl | exact Ex.eqlS rfl rfl | exact Ex.neqS rfl rfl | exact Ex.eqlPN rfl rfl | exact Ex.neqPN rfl rfl | exact Ex.eqlSN rfl rfl | exact Ex.neqSN rfl rfl | exact Ex.lenStr rfl)) rfl ?_ | refine rs_skip rfl rfl ?_)
  refine rs_op rfl rfl (opR_fn rfl (Call.heap (fun w h => by (first | exact h | exact h.sw1 | exact h.sw2 | exact h.sw3 | exact h.sw4 | exact h.sw5 | exact h.sw6 | exact h.sw7 | exact h.sw8 | exact h.pull2 | exact h.pull3 | exact h.pull4 | exact h.pull5 | exact h.fit)) ((Join_c W0 p c ss _ (hr.mono fun w h => h.drop.drop) hl hn hc h0).mono ?_)))
  rintro v H' ⟨rfl, rfl⟩
  (first | refine rs_ex rfl (by (first | (constructor <;> first | rfl | exact RdC.rd | exact inferInstance) | exact Ex.pickF rfl rfl | exact Ex.eqlS rfl rfl | exact Ex.neqS rfl rfl | exact Ex.eqlPN rfl rfl | exact Ex.neqPN rfl rfl | exact Ex.eqlSN rfl rfl | exact Ex.neqSN rfl rfl | exact Ex.lenStr rfl)) rfl ?_ | refine rs_skip rfl rfl ?_)
  refine rs_opN rfl (opR_store rfl rfl rfl rfl ?_)
  (first | refine rs_ex rfl (by (first | (constructor <;> first | rfl | exact RdC.rd | exact inferInstance) | exact Ex.pickF rfl rfl | exact Ex.eqlS rfl rfl | exact Ex.neqS rfl rfl | exact Ex.eqlPN rfl rfl | exact Ex.neqPN rfl rfl | exact Ex.eqlSN rfl rfl | exact Ex.neqSN rfl rfl | exact Ex.lenStr rfl)) rfl ?_ | refine rs_skip rfl rfl ?_)
  refine rs_opN rfl (opR_store rfl rfl rfl rfl ?_)
  refine rs_end ?_
  refine qe_then ?_
  refine ct_seq ?_
  refine ct_seq ?_
  refine ct_region ?_
  iterate 3 (first | refine rs_ex rfl (by (first | (constructor <;> first | rfl | exact RdC.rd | exact inferInstance) | exact Ex.pickF rfl rfl | exact Ex.eqlS rfl rfl | exact Ex.neqS rfl rfl | exact Ex.eqlPN rfl rfl | exact Ex.neqPN rfl rfl | exact Ex.eqlSN rfl rfl | exact Ex.neqSN rfl rfl | exact Ex.lenStr rfl)) rfl ?_ | refine rs_skip rfl rfl ?_)
  refine rs_rw (by rw [toB_size]) ?_
  (first | refine rs_ex rfl (by (first | (constructor <;> first | rfl | exact RdC.rd | exact inferInstance) | exact Ex.pickF rfl rfl | exact Ex.eqlS rfl rfl | exact Ex.neqS rfl rfl | exact Ex.eqlPN rfl rfl | exact Ex.neqPN rfl rfl | exact Ex.eqlSN rfl rfl | exact Ex.neqSN rfl rfl | exact Ex.lenStr rfl)) rfl ?_ | refine rs_skip rfl rfl ?_)
  refine rs_end ?_
  refine qe_then ?_
  refine ct_cond rfl (fun h16 => ?_) (fun h16 => ?_)
  · have ht : turned s to (joinB ss) = none := by rw [turned, if_neg]; simp at h16; omega
    refine ct_seq ?_
    refine ct_drawP [] (by kernel_rfl) ?_
    refine ra_take 0 rfl (by kernel_rfl) (by kernel_rfl) rfl (ex_build rfl) rfl (fun _ h => h.fit) ?_
    refine ra_take 1 rfl (by kernel_rfl) (by kernel_rfl) rfl (by (first | (constructor <;> first | rfl | exact RdC.rd | exact inferInstance) | exact Ex.pickF rfl rfl | exact Ex.eqlS rfl rfl | exact Ex.neqS rfl rfl | exact Ex.eqlPN rfl rfl | exact Ex.neqPN rfl rfl | exact Ex.eqlSN rfl rfl | exact Ex.neqSN rfl rfl | exact Ex.lenStr rfl)) rfl (fun _ h => h.fit) ?_
    refine ra_all (rs := [2]) (by kernel_rfl) rfl ?_
    refine each_opN rfl rfl (opR_store rfl rfl rfl rfl ?_) each_nil
    refine ⟨.inr (fun w h => h.fit), ?_⟩
    refine ra_take 3 rfl (by kernel_rfl) (by kernel_rfl) rfl (by (first | (constructor <;> first | rfl | exact RdC.rd | exact inferInstance) | exact Ex.pickF rfl rfl | exact Ex.eqlS rfl rfl | exact Ex.neqS rfl rfl | exact Ex.eqlPN rfl rfl | exact Ex.neqPN rfl rfl | exact Ex.eqlSN rfl rfl | exact Ex.neqSN rfl rfl | exact Ex.lenStr rfl)) rfl (fun _ h => h.fit) ?_
    refine ra_end (by kernel_rfl) ?_
    refine qe_then ?_
    refine ct_ret ?_
    exact retS3 rfl rfl rfl RdC.rd H (fun w h => h.drop.drop) ⟨by rw [ht]; rfl, rfl⟩
  · have ht : turned s to (joinB ss) = some ⟨to, s.cnt, toB (joinB ss)⟩ := by rw [turned, if_pos]; simp at h16; omega
    refine ct_skip ?_
    refine qe_then ?_
    refine ct_seq ?_
    refine ct_region ?_
    (first | refine rs_ex rfl (by (first | (constructor <;> first | rfl | exact RdC.rd | exact inferInstance) | exact Ex.pickF rfl rfl | exact Ex.eqlS rfl rfl | exact Ex.neqS rfl rfl | exact Ex.eqlPN rfl rfl | exact Ex.neqPN rfl rfl | exact Ex.eqlSN rfl rfl | exact Ex.neqSN rfl rfl | exact Ex.lenStr rfl)) rfl ?_ | refine rs_skip rfl rfl ?_)
    refine rs_opN rfl (opR_store rfl rfl rfl rfl ?_)
    (first | refine rs_ex rfl (by (first | (constructor <;> first | rfl | exact RdC.rd | exact inferInstance) | exact Ex.pickF rfl rfl | exact Ex.eqlS rfl rfl | exact Ex.neqS rfl rfl | exact Ex.eqlPN rfl rfl | exact Ex.neqPN rfl rfl | exact Ex.eqlSN rfl rfl | exact Ex.neqSN rfl rfl | exact Ex.lenStr rfl)) rfl ?_ | refine rs_skip rfl rfl ?_)
    refine rs_end ?_
    refine qe_then ?_
    refine ct_ret ?_
    exact retS3 rfl rfl rfl RdC.rd H (fun w h => h.drop.drop) ⟨by rw [ht]; rfl, rfl⟩
theorem putL_len (n : Int) : (putL n).length = 4 := rfl
theorem putB_size (n : Int) : (⟨(putL n).toArray⟩ : ByteArray).size = 4 := rfl
def tn12 (s : Sta) : Option Sta := turned s 2 (98 :: s.l)
def tn23 (s : Sta) : Option Sta := turned s 3 (s.l ++ putL s.cnt)
def tn32 (s : Sta) : Option Sta := if hasSuf s.data ⟨(putL s.cnt).toArray⟩ = true then turned s 2 (s.data.extract 0 (s.data.size - 4)).data.toList else none
def tn21 (s : Sta) : Option Sta := if hasPre s.data ⟨#[98]⟩ = true then turned s 1 (s.data.extract 1 s.data.size).data.toList else none
def TurnK (a : Addr) (o : Option Sta) (H : List Chunk) (v : Value) (H' : List Chunk) : Prop := v = .tuple #[(staV o).v, errV a o.isNone] ∧ H' = H
theorem TurnK.elim {a : Addr} {o : Option Sta} {H : List Chunk} {P : Value → List Chunk → Prop} (h : P (.tuple #[(staV o).v, errV a o.isNone]) H) : ∀ v H', TurnK a o H v H' → P v H' := by
  rintro v H' ⟨rfl, rfl⟩
  exact h
theorem Turn12_c (W0 : World) (a : Addr) (hg : RdBlk (At W0 []) 0 #[errF a]) (s : Sta) (H : List Chunk) (hs : s.data.size ≤ 1000) :
    Call Tryd.prog W0 51 [s.v] H (TurnK a (tn12 s) H) := by
  refine call_enter Tryd.func51 rfl Tryd.ntmps51 rfl ?_
  have hsz := size_list s.data
  have e : joinB [⟨#[98]⟩, s.data] = 98 :: s.l := by simp [joinB]

  refine ct_seq ?_
  refine ct_region ?_
  refine rs_op rfl rfl (opR_box rfl fun b1 => ?_)
  refine rs_op rfl rfl (opR_alloc fun b2 => ?_)
  (first | refine rs_ex rfl (by (first | (constructor <;> first | rfl | exact RdC.rd | exact inferInstance) | exact Ex.pickF rfl rfl | exact Ex.eqlS rfl rfl | exact Ex.neqS rfl rfl | exact Ex.eqlPN rfl rfl | exact Ex.neqPN rfl rfl | exact Ex.eqlSN rfl rfl | exact Ex.neqSN rfl rfl | exact Ex.lenStr rfl)) rfl ?_ | refine rs_skip rfl rfl ?_)
  refine rs_end ?_
  refine qe_then ?_
  refine ct_seq ?_
  refine ct_region ?_
  iterate 3 (first | refine rs_ex rfl (by (first | (constructor <;> first | rfl | exact RdC.rd | exact inferInstance) | exact Ex.pickF rfl rfl | exact Ex.eqlS rfl rfl | exact Ex.neqS rfl rfl | exact Ex.eqlPN rfl rfl | exact Ex.neqPN rfl rfl | exact Ex.eqlSN rfl rfl | exact Ex.neqSN rfl rfl | exact Ex.lenStr rfl)) rfl ?_ | refine rs_skip rfl rfl ?_)
  refine rs_op rfl rfl (opR_buildSlice rfl rfl rfl rfl fun b7 => ?_)
  refine rs_op rfl rfl (opR_fn rfl (Call.heap (fun w h => by (first | exact h | exact h.sw1 | exact h.sw2 | exact h.sw3 | exact h.sw4 | exact h.sw5 | exact h.sw6 | exact h.sw7 | exact h.sw8 | exact h.pull2 | exact h.pull3 | exact h.pull4 | exact h.pull5 | exact h.fit)) ((Turned_c W0 a hg s 2 (some ⟨b7, 0, none⟩) 2 [(⟨#[98]⟩ : ByteArray), s.data] _ (by exact SlR.blk RdC.rd [(⟨#[98]⟩ : ByteArray), s.data] rfl) (by rw [e]; simp; omega) (by simp) (by simp) (.inl (by rw [e]; simp))).mono ?_)))
  rintro v H' ⟨rfl, rfl⟩
  rw [e]
  iterate 2 (first | refine rs_ex rfl (by (first | (constructor <;> first | rfl | exact RdC.rd | exact inferInstance) | exact Ex.pickF rfl rfl | exact Ex.eqlS rfl rfl | exact Ex.neqS rfl rfl | exact Ex.eqlPN rfl rfl | exact Ex.neqPN rfl rfl | exact Ex.eqlSN rfl rfl | exact Ex.neqSN rfl rfl | exact Ex.lenStr rfl)) rfl ?_ | refine rs_skip rfl rfl ?_)
  refine rs_opN rfl (opR_store rfl rfl rfl rfl ?_)
  (first | refine rs_ex rfl (by (first | (constructor <;> first | rfl | exact RdC.rd | exact inferInstance) | exact Ex.pickF rfl rfl | exact Ex.eqlS rfl rfl | exact Ex.neqS rfl rfl | exact Ex.eqlPN rfl rfl | exact Ex.neqPN rfl rfl | exact Ex.eqlSN rfl rfl | exact Ex.neqSN rfl rfl | exact Ex.lenStr rfl)) rfl ?_ | refine rs_skip rfl rfl ?_)
  refine rs_end ?_
  refine qe_then ?_
  refine ct_ret ?_
  exact retS3 rfl rfl rfl RdC.rd H (fun w h => h.drop.drop.drop) ⟨rfl, rfl⟩
theorem Turn23_c (W0 : World) (a : Addr) (hg : RdBlk (At W0 []) 0 #[errF a]) (s : Sta) (H : List Chunk) (hs : s.data.size ≤ 1000) (hc : 0 ≤ s.cnt) :
    Call Tryd.prog W0 53 [s.v] H (TurnK a (tn23 s) H) := by
  refine call_enter Tryd.func53 rfl Tryd.ntmps53 rfl ?_
  have hsz : s.l.length = s.data.size := size_list s.data
  have e : joinB [s.data, ⟨(putL s.cnt).toArray⟩] = s.l ++ putL s.cnt := by simp [joinB]

  refine ct_seq ?_
  refine ct_region ?_
  refine rs_op rfl rfl (opR_box rfl fun b1 => ?_)
  refine rs_op rfl rfl (opR_alloc fun b2 => ?_)
  (first | refine rs_ex rfl (by (first | (constructor <;> first | rfl | exact RdC.rd | exact inferInstance) | exact Ex.pickF rfl rfl | exact Ex.eqlS rfl rfl | exact Ex.neqS rfl rfl | exact Ex.eqlPN rfl rfl | exact Ex.neqPN rfl rfl | exact Ex.eqlSN rfl rfl | exact Ex.neqSN rfl rfl | exact Ex.lenStr rfl)) rfl ?_ | refine rs_skip rfl rfl ?_)
  refine rs_end ?_
  refine qe_then ?_
  refine ct_seq ?_
  refine ct_drawP [1] (by kernel_rfl) ?_
  refine ra_take 0 rfl (by kernel_rfl) (by kernel_rfl) rfl (by (first | (constructor <;> first | rfl | exact RdC.rd | exact inferInstance) | exact Ex.pickF rfl rfl | exact Ex.eqlS rfl rfl | exact Ex.neqS rfl rfl | exact Ex.eqlPN rfl rfl | exact Ex.neqPN rfl rfl | exact Ex.eqlSN rfl rfl | exact Ex.neqSN rfl rfl | exact Ex.lenStr rfl)) rfl (fun _ h => h.fit) ?_
  refine ra_take 1 rfl (by kernel_rfl) (by kernel_rfl) rfl (by (first | (constructor <;> first | rfl | exact RdC.rd | exact inferInstance) | exact Ex.pickF rfl rfl | exact Ex.eqlS rfl rfl | exact Ex.neqS rfl rfl | exact Ex.eqlPN rfl rfl | exact Ex.neqPN rfl rfl | exact Ex.eqlSN rfl rfl | exact Ex.neqSN rfl rfl | exact Ex.lenStr rfl)) rfl (fun _ h => h.fit) ?_
  refine ra_take 2 rfl (by kernel_rfl) (by kernel_rfl) rfl (by (first | (constructor <;> first | rfl | exact RdC.rd | exact inferInstance) | exact Ex.pickF rfl rfl | exact Ex.eqlS rfl rfl | exact Ex.neqS rfl rfl | exact Ex.eqlPN rfl rfl | exact Ex.neqPN rfl rfl | exact Ex.eqlSN rfl rfl | exact Ex.neqSN rfl rfl | exact Ex.lenStr rfl)) rfl (fun _ h => h.fit) ?_
  refine ra_take 3 rfl (by kernel_rfl) (by kernel_rfl) rfl (by (first | (constructor <;> first | rfl | exact RdC.rd | exact inferInstance) | exact Ex.pickF rfl rfl | exact Ex.eqlS rfl rfl | exact Ex.neqS rfl rfl | exact Ex.eqlPN rfl rfl | exact Ex.neqPN rfl rfl | exact Ex.eqlSN rfl rfl | exact Ex.neqSN rfl rfl | exact Ex.lenStr rfl)) rfl (fun _ h => h.fit) ?_
  refine ra_take 4 rfl (by kernel_rfl) (by kernel_rfl) rfl (by (first | (constructor <;> first | rfl | exact RdC.rd | exact inferInstance) | exact Ex.pickF rfl rfl | exact Ex.eqlS rfl rfl | exact Ex.neqS rfl rfl | exact Ex.eqlPN rfl rfl | exact Ex.neqPN rfl rfl | exact Ex.eqlSN rfl rfl | exact Ex.neqSN rfl rfl | exact Ex.lenStr rfl)) rfl (fun _ h => h.fit) ?_
  refine ra_all (rs := [5]) (by kernel_rfl) rfl ?_
  refine each_op rfl rfl rfl (opR_fn rfl (Call.heap (fun w h => by (first | exact h | exact h.sw1 | exact h.sw2 | exact h.sw3 | exact h.sw4 | exact h.sw5 | exact h.sw6 | exact h.sw7 | exact h.sw8 | exact h.pull2 | exact h.pull3 | exact h.pull4 | exact h.pull5 | exact h.fit)) ((Put_c W0 s.cnt _ hc).mono ?_))) each_nil
  rintro v H' ⟨rfl, rfl⟩
  refine ⟨.inr (fun w h => h.fit), ?_⟩
  refine ra_all (rs := [6]) (by kernel_rfl) rfl ?_
  refine each_op rfl rfl rfl (opR_buildSlice rfl rfl rfl rfl fun b10 => ?_) each_nil
  refine ⟨.inr (fun w h => h.fit), ?_⟩
  refine ra_Snew ?_
  refine ra_all (rs := [7]) (by kernel_rfl) rfl ?_
  refine each_op rfl rfl rfl (opR_fn rfl (Call.heap (fun w h => by (first | exact h | exact h.sw1 | exact h.sw2 | exact h.sw3 | exact h.sw4 | exact h.sw5 | exact h.sw6 | exact h.sw7 | exact h.sw8 | exact h.pull2 | exact h.pull3 | exact h.pull4 | exact h.pull5 | exact h.fit)) ((Turned_c W0 a hg s 3 (some ⟨b10, 0, none⟩) 2 [s.data, ⟨(putL s.cnt).toArray⟩] _ (by exact SlR.blk RdC.rd [s.data, ⟨(putL s.cnt).toArray⟩] rfl) (by rw [e, List.length_append, putL_len]; omega) (by simp) (by simp) (.inl (by rw [e]; simp [putL]))).mono ?_))) each_nil
  rintro v H' ⟨rfl, rfl⟩
  refine ⟨.inr (fun w h => h.fit), ?_⟩
  rw [e]
  refine ra_take 8 rfl (by kernel_rfl) (by kernel_rfl) rfl (by (first | (constructor <;> first | rfl | exact RdC.rd | exact inferInstance) | exact Ex.pickF rfl rfl | exact Ex.eqlS rfl rfl | exact Ex.neqS rfl rfl | exact Ex.eqlPN rfl rfl | exact Ex.neqPN rfl rfl | exact Ex.eqlSN rfl rfl | exact Ex.neqSN rfl rfl | exact Ex.lenStr rfl)) rfl (fun _ h => h.fit) ?_
  refine ra_take 9 rfl (by kernel_rfl) (by kernel_rfl) rfl (by (first | (constructor <;> first | rfl | exact RdC.rd | exact inferInstance) | exact Ex.pickF rfl rfl | exact Ex.eqlS rfl rfl | exact Ex.neqS rfl rfl | exact Ex.eqlPN rfl rfl | exact Ex.neqPN rfl rfl | exact Ex.eqlSN rfl rfl | exact Ex.neqSN rfl rfl | exact Ex.lenStr rfl)) rfl (fun _ h => h.fit) ?_
  refine ra_all (rs := [10]) (by kernel_rfl) rfl ?_
  refine each_opN rfl rfl (opR_store rfl rfl rfl rfl ?_) each_nil
  refine ⟨.inr (fun w h => h.fit), ?_⟩
  refine ra_take 11 rfl (by kernel_rfl) (by kernel_rfl) rfl (by (first | (constructor <;> first | rfl | exact RdC.rd | exact inferInstance) | exact Ex.pickF rfl rfl | exact Ex.eqlS rfl rfl | exact Ex.neqS rfl rfl | exact Ex.eqlPN rfl rfl | exact Ex.neqPN rfl rfl | exact Ex.eqlSN rfl rfl | exact Ex.neqSN rfl rfl | exact Ex.lenStr rfl)) rfl (fun _ h => h.fit) ?_
  refine ra_end (by kernel_rfl) ?_
  refine qe_then ?_
  refine ct_ret ?_
  exact retS3 rfl rfl rfl RdC.rd H (fun w h => by first | exact h.drop.drop.drop | exact (At.sw1 h).drop.drop.drop) ⟨rfl, rfl⟩
theorem Turn32_c (W0 : World) (a : Addr) (hg : RdBlk (At W0 []) 0 #[errF a]) (s : Sta) (H : List Chunk) (hs : s.data.size ≤ 1000) (hc : 0 ≤ s.cnt) :
    Call Tryd.prog W0 55 [s.v] H (TurnK a (tn32 s) H) := by
  have hgB : RdC (At W0 []) 0 #[errF a] := ⟨hg⟩
  refine call_enter Tryd.func55 rfl Tryd.ntmps55 rfl ?_

  refine ct_seq ?_
  refine ct_region ?_
  refine rs_op rfl rfl (opR_box rfl fun b1 => ?_)
  refine rs_op rfl rfl (opR_alloc fun b2 => ?_)
  (first | refine rs_ex rfl (by (first | (constructor <;> first | rfl | exact RdC.rd | exact inferInstance) | exact Ex.pickF rfl rfl | exact Ex.eqlS rfl rfl | exact Ex.neqS rfl rfl | exact Ex.eqlPN rfl rfl | exact Ex.neqPN rfl rfl | exact Ex.eqlSN rfl rfl | exact Ex.neqSN rfl rfl | exact Ex.lenStr rfl)) rfl ?_ | refine rs_skip rfl rfl ?_)
  refine rs_end ?_
  refine qe_then ?_
  refine ct_seq ?_
  refine ct_draw0 (by kernel_rfl) ?_
  refine ra_take 0 rfl (by kernel_rfl) (by kernel_rfl) rfl (by (first | (constructor <;> first | rfl | exact RdC.rd | exact inferInstance) | exact Ex.pickF rfl rfl | exact Ex.eqlS rfl rfl | exact Ex.neqS rfl rfl | exact Ex.eqlPN rfl rfl | exact Ex.neqPN rfl rfl | exact Ex.eqlSN rfl rfl | exact Ex.neqSN rfl rfl | exact Ex.lenStr rfl)) rfl (fun _ h => h.fit) ?_
  refine ra_take 1 rfl (by kernel_rfl) (by kernel_rfl) rfl (by (first | (constructor <;> first | rfl | exact RdC.rd | exact inferInstance) | exact Ex.pickF rfl rfl | exact Ex.eqlS rfl rfl | exact Ex.neqS rfl rfl | exact Ex.eqlPN rfl rfl | exact Ex.neqPN rfl rfl | exact Ex.eqlSN rfl rfl | exact Ex.neqSN rfl rfl | exact Ex.lenStr rfl)) rfl (fun _ h => h.fit) ?_
  refine ra_take 2 rfl (by kernel_rfl) (by kernel_rfl) rfl (by (first | (constructor <;> first | rfl | exact RdC.rd | exact inferInstance) | exact Ex.pickF rfl rfl | exact Ex.eqlS rfl rfl | exact Ex.neqS rfl rfl | exact Ex.eqlPN rfl rfl | exact Ex.neqPN rfl rfl | exact Ex.eqlSN rfl rfl | exact Ex.neqSN rfl rfl | exact Ex.lenStr rfl)) rfl (fun _ h => h.fit) ?_
  refine ra_take 3 rfl (by kernel_rfl) (by kernel_rfl) rfl (by (first | (constructor <;> first | rfl | exact RdC.rd | exact inferInstance) | exact Ex.pickF rfl rfl | exact Ex.eqlS rfl rfl | exact Ex.neqS rfl rfl | exact Ex.eqlPN rfl rfl | exact Ex.neqPN rfl rfl | exact Ex.eqlSN rfl rfl | exact Ex.neqSN rfl rfl | exact Ex.lenStr rfl)) rfl (fun _ h => h.fit) ?_
  refine ra_all (rs := [4]) (by kernel_rfl) rfl ?_
  refine each_op rfl rfl rfl (opR_fn rfl (Call.heap (fun w h => by (first | exact h | exact h.sw1 | exact h.sw2 | exact h.sw3 | exact h.sw4 | exact h.sw5 | exact h.sw6 | exact h.sw7 | exact h.sw8 | exact h.pull2 | exact h.pull3 | exact h.pull4 | exact h.pull5 | exact h.fit)) ((Put_c W0 s.cnt _ hc).mono ?_))) each_nil
  rintro v H' ⟨rfl, rfl⟩
  refine ⟨.inr (fun w h => h.fit), ?_⟩
  refine ra_all (rs := [5]) (by kernel_rfl) rfl ?_
  refine each_op rfl rfl rfl (opR_fn rfl (Call.heap (fun w h => by (first | exact h | exact h.sw1 | exact h.sw2 | exact h.sw3 | exact h.sw4 | exact h.sw5 | exact h.sw6 | exact h.sw7 | exact h.sw8 | exact h.pull2 | exact h.pull3 | exact h.pull4 | exact h.pull5 | exact h.fit)) ((CutSuf_c W0 s.data ⟨(putL s.cnt).toArray⟩ _ (by omega)).mono ?_))) each_nil
  rintro v H' ⟨rfl, rfl⟩
  refine ⟨.inr (fun w h => h.fit), ?_⟩
  refine ra_take 6 rfl (by kernel_rfl) (by kernel_rfl) rfl (by (first | (constructor <;> first | rfl | exact RdC.rd | exact inferInstance) | exact Ex.pickF rfl rfl | exact Ex.eqlS rfl rfl | exact Ex.neqS rfl rfl | exact Ex.eqlPN rfl rfl | exact Ex.neqPN rfl rfl | exact Ex.eqlSN rfl rfl | exact Ex.neqSN rfl rfl | exact Ex.lenStr rfl)) rfl (fun _ h => h.fit) ?_
  refine ra_take 7 rfl (by kernel_rfl) (by kernel_rfl) rfl (by (first | (constructor <;> first | rfl | exact RdC.rd | exact inferInstance) | exact Ex.pickF rfl rfl | exact Ex.eqlS rfl rfl | exact Ex.neqS rfl rfl | exact Ex.eqlPN rfl rfl | exact Ex.neqPN rfl rfl | exact Ex.eqlSN rfl rfl | exact Ex.neqSN rfl rfl | exact Ex.lenStr rfl)) rfl (fun _ h => h.fit) ?_
  refine ra_take 8 rfl (by kernel_rfl) (by kernel_rfl) rfl (by (first | (constructor <;> first | rfl | exact RdC.rd | exact inferInstance) | exact Ex.pickF rfl rfl | exact Ex.eqlS rfl rfl | exact Ex.neqS rfl rfl | exact Ex.eqlPN rfl rfl | exact Ex.neqPN rfl rfl | exact Ex.eqlSN rfl rfl | exact Ex.neqSN rfl rfl | exact Ex.lenStr rfl)) rfl (fun _ h => h.fit) ?_
  refine ra_take 9 rfl (by kernel_rfl) (by kernel_rfl) rfl (by (first | (constructor <;> first | rfl | exact RdC.rd | exact inferInstance) | exact Ex.pickF rfl rfl | exact Ex.eqlS rfl rfl | exact Ex.neqS rfl rfl | exact Ex.eqlPN rfl rfl | exact Ex.neqPN rfl rfl | exact Ex.eqlSN rfl rfl | exact Ex.neqSN rfl rfl | exact Ex.lenStr rfl)) rfl (fun _ h => h.fit) ?_
  refine ra_take 10 rfl (by kernel_rfl) (by kernel_rfl) rfl (by (first | (constructor <;> first | rfl | exact RdC.rd | exact inferInstance) | exact Ex.pickF rfl rfl | exact Ex.eqlS rfl rfl | exact Ex.neqS rfl rfl | exact Ex.eqlPN rfl rfl | exact Ex.neqPN rfl rfl | exact Ex.eqlSN rfl rfl | exact Ex.neqSN rfl rfl | exact Ex.lenStr rfl)) rfl (fun _ h => h.fit) ?_
  refine ra_end (by kernel_rfl) ?_
  refine qe_then ?_
  refine ct_seq ?_
  refine ct_seq ?_
  refine ct_region ?_
  iterate 2 (first | refine rs_ex rfl (by (first | (constructor <;> first | rfl | exact RdC.rd | exact inferInstance) | exact Ex.pickF rfl rfl | exact Ex.eqlS rfl rfl | exact Ex.neqS rfl rfl | exact Ex.eqlPN rfl rfl | exact Ex.neqPN rfl rfl | exact Ex.eqlSN rfl rfl | exact Ex.neqSN rfl rfl | exact Ex.lenStr rfl)) rfl ?_ | refine rs_skip rfl rfl ?_)
  refine rs_end ?_
  refine qe_then ?_
  refine ct_cond rfl (fun h16 => ?_) (fun h16 => ?_)
  · have hn : hasSuf s.data ⟨(putL s.cnt).toArray⟩ = false := by simpa using h16
    have ht : tn32 s = none := by rw [tn32, hn]; rfl
    refine ct_seq ?_
    refine ct_drawP [] (by kernel_rfl) ?_
    refine ra_take 0 rfl (by kernel_rfl) (by kernel_rfl) rfl (ex_build rfl) rfl (fun _ h => h.fit) ?_
    refine ra_take 1 rfl (by kernel_rfl) (by kernel_rfl) rfl (by (first | (constructor <;> first | rfl | exact RdC.rd | exact inferInstance) | exact Ex.pickF rfl rfl | exact Ex.eqlS rfl rfl | exact Ex.neqS rfl rfl | exact Ex.eqlPN rfl rfl | exact Ex.neqPN rfl rfl | exact Ex.eqlSN rfl rfl | exact Ex.neqSN rfl rfl | exact Ex.lenStr rfl)) rfl (fun _ h => h.fit) ?_
    refine ra_all (rs := [2]) (by kernel_rfl) rfl ?_
    refine each_opN rfl rfl (opR_store rfl rfl rfl rfl ?_) each_nil
    refine ⟨.inr (fun w h => h.fit), ?_⟩
    refine ra_take 3 rfl (by kernel_rfl) (by kernel_rfl) rfl (by (first | (constructor <;> first | rfl | exact RdC.rd | exact inferInstance) | exact Ex.pickF rfl rfl | exact Ex.eqlS rfl rfl | exact Ex.neqS rfl rfl | exact Ex.eqlPN rfl rfl | exact Ex.neqPN rfl rfl | exact Ex.eqlSN rfl rfl | exact Ex.neqSN rfl rfl | exact Ex.lenStr rfl)) rfl (fun _ h => h.fit) ?_
    refine ra_end (by kernel_rfl) ?_
    refine qe_then ?_
    refine ct_ret ?_
    exact retS3 rfl rfl rfl RdC.rd H (fun w h => h.drop.drop) ⟨by rw [ht]; rfl, rfl⟩
  · have hn : hasSuf s.data ⟨(putL s.cnt).toArray⟩ = true := by simpa using h16
    have ht : tn32 s = turned s 2 (joinB [s.data.extract 0 (s.data.size - 4)]) := by rw [tn32, if_pos hn]; simp [joinB]
    have hsz := size_list (s.data.extract 0 (s.data.size - 4))
    rw [if_pos hn]
    refine ct_skip ?_
    refine qe_then ?_
    refine ct_seq ?_
    refine ct_region ?_
    iterate 2 (first | refine rs_ex rfl (by (first | (constructor <;> first | rfl | exact RdC.rd | exact inferInstance) | exact Ex.pickF rfl rfl | exact Ex.eqlS rfl rfl | exact Ex.neqS rfl rfl | exact Ex.eqlPN rfl rfl | exact Ex.neqPN rfl rfl | exact Ex.eqlSN rfl rfl | exact Ex.neqSN rfl rfl | exact Ex.lenStr rfl)) rfl ?_ | refine rs_skip rfl rfl ?_)
    refine rs_op rfl rfl (opR_buildSlice rfl rfl rfl rfl fun b21 => ?_)
    refine rs_op rfl rfl (opR_fn rfl (Call.heap (fun w h => by (first | exact h | exact h.sw1 | exact h.sw2 | exact h.sw3 | exact h.sw4 | exact h.sw5 | exact h.sw6 | exact h.sw7 | exact h.sw8 | exact h.pull2 | exact h.pull3 | exact h.pull4 | exact h.pull5 | exact h.fit)) ((Turned_c W0 a hg s 2 (some ⟨b21, 0, none⟩) 1 [s.data.extract 0 (s.data.size - 4)] _ (by exact SlR.blk RdC.rd [s.data.extract 0 (s.data.size - 4)] rfl) (by simp [joinB]; omega) (by simp) (by simp) (.inr rfl)).mono ?_)))
    rintro v H' ⟨rfl, rfl⟩
    rw [← ht]
    iterate 2 (first | refine rs_ex rfl (by (first | (constructor <;> first | rfl | exact RdC.rd | exact inferInstance) | exact Ex.pickF rfl rfl | exact Ex.eqlS rfl rfl | exact Ex.neqS rfl rfl | exact Ex.eqlPN rfl rfl | exact Ex.neqPN rfl rfl | exact Ex.eqlSN rfl rfl | exact Ex.neqSN rfl rfl | exact Ex.lenStr rfl)) rfl ?_ | refine rs_skip rfl rfl ?_)
    refine rs_opN rfl (opR_store rfl rfl rfl rfl ?_)
    (first | refine rs_ex rfl (by (first | (constructor <;> first | rfl | exact RdC.rd | exact inferInstance) | exact Ex.pickF rfl rfl | exact Ex.eqlS rfl rfl | exact Ex.neqS rfl rfl | exact Ex.eqlPN rfl rfl | exact Ex.neqPN rfl rfl | exact Ex.eqlSN rfl rfl | exact Ex.neqSN rfl rfl | exact Ex.lenStr rfl)) rfl ?_ | refine rs_skip rfl rfl ?_)
    refine rs_end ?_
    refine qe_then ?_
    refine ct_ret ?_
    exact retS3 rfl rfl rfl RdC.rd H (fun w h => h.drop.drop.drop) ⟨rfl, rfl⟩
theorem Turn21_c (W0 : World) (a : Addr) (hg : RdBlk (At W0 []) 0 #[errF a]) (s : Sta) (H : List Chunk) (hs : s.data.size ≤ 1000) :
    Call Tryd.prog W0 57 [s.v] H (TurnK a (tn21 s) H) := by
  have hgB : RdC (At W0 []) 0 #[errF a] := ⟨hg⟩
  refine call_enter Tryd.func57 rfl Tryd.ntmps57 rfl ?_

  refine ct_seq ?_
  refine ct_region ?_
  refine rs_op rfl rfl (opR_box rfl fun b1 => ?_)
  refine rs_op rfl rfl (opR_alloc fun b2 => ?_)
  (first | refine rs_ex rfl (by (first | (constructor <;> first | rfl | exact RdC.rd | exact inferInstance) | exact Ex.pickF rfl rfl | exact Ex.eqlS rfl rfl | exact Ex.neqS rfl rfl | exact Ex.eqlPN rfl rfl | exact Ex.neqPN rfl rfl | exact Ex.eqlSN rfl rfl | exact Ex.neqSN rfl rfl | exact Ex.lenStr rfl)) rfl ?_ | refine rs_skip rfl rfl ?_)
  refine rs_end ?_
  refine qe_then ?_
  refine ct_seq ?_
  refine ct_region ?_
  iterate 2 (first | refine rs_ex rfl (by (first | (constructor <;> first | rfl | exact RdC.rd | exact inferInstance) | exact Ex.pickF rfl rfl | exact Ex.eqlS rfl rfl | exact Ex.neqS rfl rfl | exact Ex.eqlPN rfl rfl | exact Ex.neqPN rfl rfl | exact Ex.eqlSN rfl rfl | exact Ex.neqSN rfl rfl | exact Ex.lenStr rfl)) rfl ?_ | refine rs_skip rfl rfl ?_)
  refine rs_op rfl rfl (opR_fn rfl (Call.heap (fun w h => by (first | exact h | exact h.sw1 | exact h.sw2 | exact h.sw3 | exact h.sw4 | exact h.sw5 | exact h.sw6 | exact h.sw7 | exact h.sw8 | exact h.pull2 | exact h.pull3 | exact h.pull4 | exact h.pull5 | exact h.fit)) ((CutPre_c W0 s.data ⟨#[98]⟩ _).mono ?_)))
  rintro v H' ⟨rfl, rfl⟩
  iterate 5 (first | refine rs_ex rfl (by (first | (constructor <;> first | rfl | exact RdC.rd | exact inferInstance) | exact Ex.pickF rfl rfl | exact Ex.eqlS rfl rfl | exact Ex.neqS rfl rfl | exact Ex.eqlPN rfl rfl | exact Ex.neqPN rfl rfl | exact Ex.eqlSN rfl rfl | exact Ex.neqSN rfl rfl | exact Ex.lenStr rfl)) rfl ?_ | refine rs_skip rfl rfl ?_)
  refine rs_end ?_
  refine qe_then ?_
  refine ct_seq ?_
  refine ct_seq ?_
  refine ct_region ?_
  iterate 2 (first | refine rs_ex rfl (by (first | (constructor <;> first | rfl | exact RdC.rd | exact inferInstance) | exact Ex.pickF rfl rfl | exact Ex.eqlS rfl rfl | exact Ex.neqS rfl rfl | exact Ex.eqlPN rfl rfl | exact Ex.neqPN rfl rfl | exact Ex.eqlSN rfl rfl | exact Ex.neqSN rfl rfl | exact Ex.lenStr rfl)) rfl ?_ | refine rs_skip rfl rfl ?_)
  refine rs_end ?_
  refine qe_then ?_
  refine ct_cond rfl (fun h13 => ?_) (fun h13 => ?_)
  · have hn : hasPre s.data ⟨#[98]⟩ = false := by simpa using h13
    have ht : tn21 s = none := by rw [tn21, hn]; rfl
    refine ct_seq ?_
    refine ct_drawP [] (by kernel_rfl) ?_
    refine ra_take 0 rfl (by kernel_rfl) (by kernel_rfl) rfl (ex_build rfl) rfl (fun _ h => h.fit) ?_
    refine ra_take 1 rfl (by kernel_rfl) (by kernel_rfl) rfl (by (first | (constructor <;> first | rfl | exact RdC.rd | exact inferInstance) | exact Ex.pickF rfl rfl | exact Ex.eqlS rfl rfl | exact Ex.neqS rfl rfl | exact Ex.eqlPN rfl rfl | exact Ex.neqPN rfl rfl | exact Ex.eqlSN rfl rfl | exact Ex.neqSN rfl rfl | exact Ex.lenStr rfl)) rfl (fun _ h => h.fit) ?_
    refine ra_all (rs := [2]) (by kernel_rfl) rfl ?_
    refine each_opN rfl rfl (opR_store rfl rfl rfl rfl ?_) each_nil
    refine ⟨.inr (fun w h => h.fit), ?_⟩
    refine ra_take 3 rfl (by kernel_rfl) (by kernel_rfl) rfl (by (first | (constructor <;> first | rfl | exact RdC.rd | exact inferInstance) | exact Ex.pickF rfl rfl | exact Ex.eqlS rfl rfl | exact Ex.neqS rfl rfl | exact Ex.eqlPN rfl rfl | exact Ex.neqPN rfl rfl | exact Ex.eqlSN rfl rfl | exact Ex.neqSN rfl rfl | exact Ex.lenStr rfl)) rfl (fun _ h => h.fit) ?_
    refine ra_end (by kernel_rfl) ?_
    refine qe_then ?_
    refine ct_ret ?_
    exact retS3 rfl rfl rfl RdC.rd H (fun w h => h.drop.drop) ⟨by rw [ht]; rfl, rfl⟩
  · have hn : hasPre s.data ⟨#[98]⟩ = true := by simpa using h13
    have ht : tn21 s = turned s 1 (joinB [s.data.extract 1 s.data.size]) := by rw [tn21, if_pos hn]; simp [joinB]
    have hsz := size_list (s.data.extract 1 s.data.size)
    rw [if_pos hn]
    refine ct_skip ?_
    refine qe_then ?_
    refine ct_seq ?_
    refine ct_region ?_
    iterate 2 (first | refine rs_ex rfl (by (first | (constructor <;> first | rfl | exact RdC.rd | exact inferInstance) | exact Ex.pickF rfl rfl | exact Ex.eqlS rfl rfl | exact Ex.neqS rfl rfl | exact Ex.eqlPN rfl rfl | exact Ex.neqPN rfl rfl | exact Ex.eqlSN rfl rfl | exact Ex.neqSN rfl rfl | exact Ex.lenStr rfl)) rfl ?_ | refine rs_skip rfl rfl ?_)
    refine rs_op rfl rfl (opR_buildSlice rfl rfl rfl rfl fun b18 => ?_)
    refine rs_op rfl rfl (opR_fn rfl (Call.heap (fun w h => by (first | exact h | exact h.sw1 | exact h.sw2 | exact h.sw3 | exact h.sw4 | exact h.sw5 | exact h.sw6 | exact h.sw7 | exact h.sw8 | exact h.pull2 | exact h.pull3 | exact h.pull4 | exact h.pull5 | exact h.fit)) ((Turned_c W0 a hg s 1 (some ⟨b18, 0, none⟩) 1 [s.data.extract 1 s.data.size] _ (by exact SlR.blk RdC.rd [s.data.extract 1 s.data.size] rfl) (by simp [joinB]; omega) (by simp) (by simp) (.inr rfl)).mono ?_)))
    rintro v H' ⟨rfl, rfl⟩
    rw [← ht]
    iterate 2 (first | refine rs_ex rfl (by (first | (constructor <;> first | rfl | exact RdC.rd | exact inferInstance) | exact Ex.pickF rfl rfl | exact Ex.eqlS rfl rfl | exact Ex.neqS rfl rfl | exact Ex.eqlPN rfl rfl | exact Ex.neqPN rfl rfl | exact Ex.eqlSN rfl rfl | exact Ex.neqSN rfl rfl | exact Ex.lenStr rfl)) rfl ?_ | refine rs_skip rfl rfl ?_)
    refine rs_opN rfl (opR_store rfl rfl rfl rfl ?_)
    (first | refine rs_ex rfl (by (first | (constructor <;> first | rfl | exact RdC.rd | exact inferInstance) | exact Ex.pickF rfl rfl | exact Ex.eqlS rfl rfl | exact Ex.neqS rfl rfl | exact Ex.eqlPN rfl rfl | exact Ex.neqPN rfl rfl | exact Ex.eqlSN rfl rfl | exact Ex.neqSN rfl rfl | exact Ex.lenStr rfl)) rfl ?_ | refine rs_skip rfl rfl ?_)
    refine rs_end ?_
    refine qe_then ?_
    refine ct_ret ?_
    exact retS3 rfl rfl rfl RdC.rd H (fun w h => h.drop.drop.drop) ⟨rfl, rfl⟩
end Go.Rost
/- The turns by name; the steps gone through. -/
namespace Go.Rost
open Go Go.RowKit Go.Proofs

structure Stp where
  a : Int
  b : Int
  deriving DecidableEq
def Stp.v (i : Stp) : Value := .agg #[.int .i64 i.a, .int .i64 i.b]
instance {i : Stp} : CellsOf i.v [.int .i64 i.a, .int .i64 i.b] := ⟨rfl⟩
instance : Enc Stp := ⟨2, Stp.v, fun i => [.int .i64 i.a, .int .i64 i.b], fun _ => rfl, fun _ => rfl, by decide⟩
instance : EncA Stp := ⟨fun _ => rfl⟩
theorem ex_loadStp {S : World → Prop} {σ : Env} {x : Operand} {b o : Nat} (a : Stp) (hx : σ.val x = some (.pointer (some ⟨b, o, none⟩))) (h : Rd S b o (Enc.enc a)) : Ex Tryd.prog S σ (.load 71 x) a.v := ex_loadA (P := Tryd.prog) (T := 71) a hx h
instance : EqT Tryd.prog 71 Stp.v 2 where
  eq d a b w hd := by
    obtain ⟨d, rfl⟩ : ∃ e, d = e + 2 := ⟨d - 2, by omega⟩
    obtain ⟨a1, a2⟩ := a
    obtain ⟨b1, b2⟩ := b
    refine (struct_eq Tryd.underlying71 (by kernel_rfl) (fields_cons (by decide) (a := .int .i64 a1) (b := .int .i64 b1) ?_ ?_ (eqT_int _ _ _ _ (by omega)) (fields_cons (by decide) (a := .int .i64 a2) (b := .int .i64 b2) ?_ ?_ (eqT_int _ _ _ _ (by omega)) fields_nil))).trans ?_
    iterate 4 simp [part, TPlain.agg]
    congr 1
    rw [Bool.eq_iff_iff]; simp
  le := by decide
theorem chk_stp (e : Bool) (d : Nat) (k : Stp) (w : World) : (Instr.checkKey e (d + 2) 71 k.v).run Tryd.prog w = .ok () w := by
  rw [Instr.checkKey]
  simp only [Stp.v, Sem.run_bind, TUnder.under (P := Tryd.prog) (T := 71), Result.andThen_ok]
  simp [part, TPlain.agg, chk_int]
instance : KeyC Tryd.prog 71 Stp.v where
  eq a b w := EqT.eq (P := Tryd.prog) (T := 71) _ a b w (by decide)
  chk e k w := chk_stp e 9998 k w
  now := ⟨_, TUnder.under, .inr fun a b => rfl⟩
  bits a := bits_agg2 9999 _ _ (bits_int _ _) (bits_int _ _)
def fnV (f : Nat) : Value := .func (.func f) #[] #[]
def turnF (k : Stp) : Option Nat := if k = ⟨1, 2⟩ then some 51 else if k = ⟨2, 3⟩ then some 53 else if k = ⟨3, 2⟩ then some 55 else if k = ⟨2, 1⟩ then some 57 else none
theorem Turns_c (W0 : World) (H : List Chunk) : Call Tryd.prog W0 38 [] H (fun v H' => ∃ r m, v = .map (some r) ∧ (∀ k, look m k = turnF k) ∧ H' = MapC Stp.v fnV r m :: H) := by
  refine call_enter Tryd.func38 rfl Tryd.ntmps38 rfl ?_

  refine ct_seq ?_
  refine ct_region ?_
  (first | refine rs_ex rfl (by (first | (constructor <;> first | rfl | exact RdC.rd | exact inferInstance) | exact Ex.pickF rfl rfl | exact Ex.eqlS rfl rfl | exact Ex.neqS rfl rfl | exact Ex.eqlPN rfl rfl | exact Ex.neqPN rfl rfl | exact Ex.eqlSN rfl rfl | exact Ex.neqSN rfl rfl | exact Ex.lenStr rfl)) rfl ?_ | refine rs_skip rfl rfl ?_)
  refine rs_end ?_
  refine qe_then ?_
  refine ct_meetc (ζ := Nat × List (Stp × Nat)) (fun q => ∀ k, look q.2 k = turnF k) [] (fun q => [(0, .map (some q.1))]) (fun q => MapC Stp.v fnV q.1 q.2 :: H) trivial ?_ ?_
  · refine ct_drawP [] (by kernel_rfl) ?_
    refine ra_take 1 rfl (by kernel_rfl) (by kernel_rfl) rfl (ex_build rfl) rfl (fun _ h => h.fit) ?_
    refine ra_take 3 rfl (by kernel_rfl) (by kernel_rfl) rfl (ex_build rfl) rfl (fun _ h => h.fit) ?_
    refine ra_take 5 rfl (by kernel_rfl) (by kernel_rfl) rfl (ex_build rfl) rfl (fun _ h => h.fit) ?_
    refine ra_take 7 rfl (by kernel_rfl) (by kernel_rfl) rfl (ex_build rfl) rfl (fun _ h => h.fit) ?_
    refine ra_all (rs := [0]) (by kernel_rfl) rfl ?_
    refine each_op rfl rfl rfl (opR_makeMap fun b1 => ?_) each_nil
    refine ⟨.inr (fun w h => h.fit), ?_⟩
    refine ra_heap (fun w h => At.map_new (κ := Stp) (ν := Nat) Stp.v fnV h) ?_
    refine ra_all (rs := [2, 4, 6, 8]) (by kernel_rfl) rfl ?_
    refine each_opN rfl rfl (opR_insert (ek := Stp.v) (ev := fnV) rfl (⟨1, 2⟩ : Stp) 51 rfl rfl ?_) ?_
    · refine ⟨.inr (fun w h => h.fit), ?_⟩
      refine ra_all (rs := [4, 6, 8]) (by kernel_rfl) rfl ?_
      refine each_opN rfl rfl (opR_insert (ek := Stp.v) (ev := fnV) rfl (⟨2, 3⟩ : Stp) 53 rfl rfl ?_) ?_
      · refine ⟨.inr (fun w h => h.fit), ?_⟩
        refine ra_all (rs := [6, 8]) (by kernel_rfl) rfl ?_
        refine each_opN rfl rfl (opR_insert (ek := Stp.v) (ev := fnV) rfl (⟨3, 2⟩ : Stp) 55 rfl rfl ?_) ?_
        · refine ⟨.inr (fun w h => h.fit), ?_⟩
          refine ra_all (rs := [8]) (by kernel_rfl) rfl ?_
          refine each_opN rfl rfl (opR_insert (ek := Stp.v) (ev := fnV) rfl (⟨2, 1⟩ : Stp) 57 rfl rfl ?_) each_nil
          refine ⟨.inr (fun w h => h.fit), ?_⟩
          refine ra_take 9 rfl (by kernel_rfl) (by kernel_rfl) rfl (by (first | (constructor <;> first | rfl | exact RdC.rd | exact inferInstance) | exact Ex.pickF rfl rfl | exact Ex.eqlS rfl rfl | exact Ex.neqS rfl rfl | exact Ex.eqlPN rfl rfl | exact Ex.neqPN rfl rfl | exact Ex.eqlSN rfl rfl | exact Ex.neqSN rfl rfl | exact Ex.lenStr rfl)) rfl (fun _ h => h.fit) ?_
          refine ra_take 10 rfl (by kernel_rfl) (by kernel_rfl) rfl (by (first | (constructor <;> first | rfl | exact RdC.rd | exact inferInstance) | exact Ex.pickF rfl rfl | exact Ex.eqlS rfl rfl | exact Ex.neqS rfl rfl | exact Ex.eqlPN rfl rfl | exact Ex.neqPN rfl rfl | exact Ex.eqlSN rfl rfl | exact Ex.neqSN rfl rfl | exact Ex.lenStr rfl)) rfl (fun _ h => h.fit) ?_
          refine ra_end (by kernel_rfl) ?_
          refine qe_midc ((b1, _)) (by intro k; first | (simp only [look_mset, look_cons, look_nil, turnF]; done) | (simp only [look_mset, look_cons, look_nil, turnF]; (repeat' split) <;> simp_all)) ⟨rfl, trivial⟩ (fun w h => h)
        refine each_opN rfl rfl (opR_insert (ek := Stp.v) (ev := fnV) rfl (⟨2, 1⟩ : Stp) 57 rfl rfl ?_) ?_
        · refine ⟨.inr (fun w h => h.fit), ?_⟩
          refine ra_all (rs := [6]) (by kernel_rfl) rfl ?_
          refine each_opN rfl rfl (opR_insert (ek := Stp.v) (ev := fnV) rfl (⟨3, 2⟩ : Stp) 55 rfl rfl ?_) each_nil
          refine ⟨.inr (fun w h => h.fit), ?_⟩
          refine ra_take 9 rfl (by kernel_rfl) (by kernel_rfl) rfl (by (first | (constructor <;> first | rfl | exact RdC.rd | exact inferInstance) | exact Ex.pickF rfl rfl | exact Ex.eqlS rfl rfl | exact Ex.neqS rfl rfl | exact Ex.eqlPN rfl rfl | exact Ex.neqPN rfl rfl | exact Ex.eqlSN rfl rfl | exact Ex.neqSN rfl rfl | exact Ex.lenStr rfl)) rfl (fun _ h => h.fit) ?_
          refine ra_take 10 rfl (by kernel_rfl) (by kernel_rfl) rfl (by (first | (constructor <;> first | rfl | exact RdC.rd | exact inferInstance) | exact Ex.pickF rfl rfl | exact Ex.eqlS rfl rfl | exact Ex.neqS rfl rfl | exact Ex.eqlPN rfl rfl | exact Ex.neqPN rfl rfl | exact Ex.eqlSN rfl rfl | exact Ex.neqSN rfl rfl | exact Ex.lenStr rfl)) rfl (fun _ h => h.fit) ?_
          refine ra_end (by kernel_rfl) ?_
          refine qe_midc ((b1, _)) (by intro k; first | (simp only [look_mset, look_cons, look_nil, turnF]; done) | (simp only [look_mset, look_cons, look_nil, turnF]; (repeat' split) <;> simp_all)) ⟨rfl, trivial⟩ (fun w h => h)
        exact each_nil
      refine each_opN rfl rfl (opR_insert (ek := Stp.v) (ev := fnV) rfl (⟨3, 2⟩ : Stp) 55 rfl rfl ?_) ?_
      · refine ⟨.inr (fun w h => h.fit), ?_⟩
        refine ra_all (rs := [4, 8]) (by kernel_rfl) rfl ?_
        refine each_opN rfl rfl (opR_insert (ek := Stp.v) (ev := fnV) rfl (⟨2, 3⟩ : Stp) 53 rfl rfl ?_) ?_
        · refine ⟨.inr (fun w h => h.fit), ?_⟩
          refine ra_all (rs := [8]) (by kernel_rfl) rfl ?_
          refine each_opN rfl rfl (opR_insert (ek := Stp.v) (ev := fnV) rfl (⟨2, 1⟩ : Stp) 57 rfl rfl ?_) each_nil
          refine ⟨.inr (fun w h => h.fit), ?_⟩
          refine ra_take 9 rfl (by kernel_rfl) (by kernel_rfl) rfl (by (first | (constructor <;> first | rfl | exact RdC.rd | exact inferInstance) | exact Ex.pickF rfl rfl | exact Ex.eqlS rfl rfl | exact Ex.neqS rfl rfl | exact Ex.eqlPN rfl rfl | exact Ex.neqPN rfl rfl | exact Ex.eqlSN rfl rfl | exact Ex.neqSN rfl rfl | exact Ex.lenStr rfl)) rfl (fun _ h => h.fit) ?_
          refine ra_take 10 rfl (by kernel_rfl) (by kernel_rfl) rfl (by (first | (constructor <;> first | rfl | exact RdC.rd | exact inferInstance) | exact Ex.pickF rfl rfl | exact Ex.eqlS rfl rfl | exact Ex.neqS rfl rfl | exact Ex.eqlPN rfl rfl | exact Ex.neqPN rfl rfl | exact Ex.eqlSN rfl rfl | exact Ex.neqSN rfl rfl | exact Ex.lenStr rfl)) rfl (fun _ h => h.fit) ?_
          refine ra_end (by kernel_rfl) ?_
          refine qe_midc ((b1, _)) (by intro k; first | (simp only [look_mset, look_cons, look_nil, turnF]; done) | (simp only [look_mset, look_cons, look_nil, turnF]; (repeat' split) <;> simp_all)) ⟨rfl, trivial⟩ (fun w h => h)
        refine each_opN rfl rfl (opR_insert (ek := Stp.v) (ev := fnV) rfl (⟨2, 1⟩ : Stp) 57 rfl rfl ?_) ?_
        · refine ⟨.inr (fun w h => h.fit), ?_⟩
          refine ra_all (rs := [4]) (by kernel_rfl) rfl ?_
          refine each_opN rfl rfl (opR_insert (ek := Stp.v) (ev := fnV) rfl (⟨2, 3⟩ : Stp) 53 rfl rfl ?_) each_nil
          refine ⟨.inr (fun w h => h.fit), ?_⟩
          refine ra_take 9 rfl (by kernel_rfl) (by kernel_rfl) rfl (by (first | (constructor <;> first | rfl | exact RdC.rd | exact inferInstance) | exact Ex.pickF rfl rfl | exact Ex.eqlS rfl rfl | exact Ex.neqS rfl rfl | exact Ex.eqlPN rfl rfl | exact Ex.neqPN rfl rfl | exact Ex.eqlSN rfl rfl | exact Ex.neqSN rfl rfl | exact Ex.lenStr rfl)) rfl (fun _ h => h.fit) ?_
          refine ra_take 10 rfl (by kernel_rfl) (by kernel_rfl) rfl (by (first | (constructor <;> first | rfl | exact RdC.rd | exact inferInstance) | exact Ex.pickF rfl rfl | exact Ex.eqlS rfl rfl | exact Ex.neqS rfl rfl | exact Ex.eqlPN rfl rfl | exact Ex.neqPN rfl rfl | exact Ex.eqlSN rfl rfl | exact Ex.neqSN rfl rfl | exact Ex.lenStr rfl)) rfl (fun _ h => h.fit) ?_
          refine ra_end (by kernel_rfl) ?_
          refine qe_midc ((b1, _)) (by intro k; first | (simp only [look_mset, look_cons, look_nil, turnF]; done) | (simp only [look_mset, look_cons, look_nil, turnF]; (repeat' split) <;> simp_all)) ⟨rfl, trivial⟩ (fun w h => h)
        exact each_nil
      refine each_opN rfl rfl (opR_insert (ek := Stp.v) (ev := fnV) rfl (⟨2, 1⟩ : Stp) 57 rfl rfl ?_) ?_
      · refine ⟨.inr (fun w h => h.fit), ?_⟩
        refine ra_all (rs := [4, 6]) (by kernel_rfl) rfl ?_
        refine each_opN rfl rfl (opR_insert (ek := Stp.v) (ev := fnV) rfl (⟨2, 3⟩ : Stp) 53 rfl rfl ?_) ?_
        · refine ⟨.inr (fun w h => h.fit), ?_⟩
          refine ra_all (rs := [6]) (by kernel_rfl) rfl ?_
          refine each_opN rfl rfl (opR_insert (ek := Stp.v) (ev := fnV) rfl (⟨3, 2⟩ : Stp) 55 rfl rfl ?_) each_nil
          refine ⟨.inr (fun w h => h.fit), ?_⟩
          refine ra_take 9 rfl (by kernel_rfl) (by kernel_rfl) rfl (by (first | (constructor <;> first | rfl | exact RdC.rd | exact inferInstance) | exact Ex.pickF rfl rfl | exact Ex.eqlS rfl rfl | exact Ex.neqS rfl rfl | exact Ex.eqlPN rfl rfl | exact Ex.neqPN rfl rfl | exact Ex.eqlSN rfl rfl | exact Ex.neqSN rfl rfl | exact Ex.lenStr rfl)) rfl (fun _ h => h.fit) ?_
          refine ra_take 10 rfl (by kernel_rfl) (by kernel_rfl) rfl (by (first | (constructor <;> first | rfl | exact RdC.rd | exact inferInstance) | exact Ex.pickF rfl rfl | exact Ex.eqlS rfl rfl | exact Ex.neqS rfl rfl | exact Ex.eqlPN rfl rfl | exact Ex.neqPN rfl rfl | exact Ex.eqlSN rfl rfl | exact Ex.neqSN rfl rfl | exact Ex.lenStr rfl)) rfl (fun _ h => h.fit) ?_
          refine ra_end (by kernel_rfl) ?_
          refine qe_midc ((b1, _)) (by intro k; first | (simp only [look_mset, look_cons, look_nil, turnF]; done) | (simp only [look_mset, look_cons, look_nil, turnF]; (repeat' split) <;> simp_all)) ⟨rfl, trivial⟩ (fun w h => h)
        refine each_opN rfl rfl (opR_insert (ek := Stp.v) (ev := fnV) rfl (⟨3, 2⟩ : Stp) 55 rfl rfl ?_) ?_
        · refine ⟨.inr (fun w h => h.fit), ?_⟩
          refine ra_all (rs := [4]) (by kernel_rfl) rfl ?_
          refine each_opN rfl rfl (opR_insert (ek := Stp.v) (ev := fnV) rfl (⟨2, 3⟩ : Stp) 53 rfl rfl ?_) each_nil
          refine ⟨.inr (fun w h => h.fit), ?_⟩
          refine ra_take 9 rfl (by kernel_rfl) (by kernel_rfl) rfl (by (first | (constructor <;> first | rfl | exact RdC.rd | exact inferInstance) | exact Ex.pickF rfl rfl | exact Ex.eqlS rfl rfl | exact Ex.neqS rfl rfl | exact Ex.eqlPN rfl rfl | exact Ex.neqPN rfl rfl | exact Ex.eqlSN rfl rfl | exact Ex.neqSN rfl rfl | exact Ex.lenStr rfl)) rfl (fun _ h => h.fit) ?_
          refine ra_take 10 rfl (by kernel_rfl) (by kernel_rfl) rfl (by (first | (constructor <;> first | rfl | exact RdC.rd | exact inferInstance) | exact Ex.pickF rfl rfl | exact Ex.eqlS rfl rfl | exact Ex.neqS rfl rfl | exact Ex.eqlPN rfl rfl | exact Ex.neqPN rfl rfl | exact Ex.eqlSN rfl rfl | exact Ex.neqSN rfl rfl | exact Ex.lenStr rfl)) rfl (fun _ h => h.fit) ?_
          refine ra_end (by kernel_rfl) ?_
          refine qe_midc ((b1, _)) (by intro k; first | (simp only [look_mset, look_cons, look_nil, turnF]; done) | (simp only [look_mset, look_cons, look_nil, turnF]; (repeat' split) <;> simp_all)) ⟨rfl, trivial⟩ (fun w h => h)
        exact each_nil
      exact each_nil
    refine each_opN rfl rfl (opR_insert (ek := Stp.v) (ev := fnV) rfl (⟨2, 3⟩ : Stp) 53 rfl rfl ?_) ?_
    · refine ⟨.inr (fun w h => h.fit), ?_⟩
      refine ra_all (rs := [2, 6, 8]) (by kernel_rfl) rfl ?_
      refine each_opN rfl rfl (opR_insert (ek := Stp.v) (ev := fnV) rfl (⟨1, 2⟩ : Stp) 51 rfl rfl ?_) ?_
      · refine ⟨.inr (fun w h => h.fit), ?_⟩
        refine ra_all (rs := [6, 8]) (by kernel_rfl) rfl ?_
        refine each_opN rfl rfl (opR_insert (ek := Stp.v) (ev := fnV) rfl (⟨3, 2⟩ : Stp) 55 rfl rfl ?_) ?_
        · refine ⟨.inr (fun w h => h.fit), ?_⟩
          refine ra_all (rs := [8]) (by kernel_rfl) rfl ?_
          refine each_opN rfl rfl (opR_insert (ek := Stp.v) (ev := fnV) rfl (⟨2, 1⟩ : Stp) 57 rfl rfl ?_) each_nil
          refine ⟨.inr (fun w h => h.fit), ?_⟩
          refine ra_take 9 rfl (by kernel_rfl) (by kernel_rfl) rfl (by (first | (constructor <;> first | rfl | exact RdC.rd | exact inferInstance) | exact Ex.pickF rfl rfl | exact Ex.eqlS rfl rfl | exact Ex.neqS rfl rfl | exact Ex.eqlPN rfl rfl | exact Ex.neqPN rfl rfl | exact Ex.eqlSN rfl rfl | exact Ex.neqSN rfl rfl | exact Ex.lenStr rfl)) rfl (fun _ h => h.fit) ?_
          refine ra_take 10 rfl (by kernel_rfl) (by kernel_rfl) rfl (by (first | (constructor <;> first | rfl | exact RdC.rd | exact inferInstance) | exact Ex.pickF rfl rfl | exact Ex.eqlS rfl rfl | exact Ex.neqS rfl rfl | exact Ex.eqlPN rfl rfl | exact Ex.neqPN rfl rfl | exact Ex.eqlSN rfl rfl | exact Ex.neqSN rfl rfl | exact Ex.lenStr rfl)) rfl (fun _ h => h.fit) ?_
          refine ra_end (by kernel_rfl) ?_
          refine qe_midc ((b1, _)) (by intro k; first | (simp only [look_mset, look_cons, look_nil, turnF]; done) | (simp only [look_mset, look_cons, look_nil, turnF]; (repeat' split) <;> simp_all)) ⟨rfl, trivial⟩ (fun w h => h)
        refine each_opN rfl rfl (opR_insert (ek := Stp.v) (ev := fnV) rfl (⟨2, 1⟩ : Stp) 57 rfl rfl ?_) ?_
        · refine ⟨.inr (fun w h => h.fit), ?_⟩
          refine ra_all (rs := [6]) (by kernel_rfl) rfl ?_
          refine each_opN rfl rfl (opR_insert (ek := Stp.v) (ev := fnV) rfl (⟨3, 2⟩ : Stp) 55 rfl rfl ?_) each_nil
          refine ⟨.inr (fun w h => h.fit), ?_⟩
          refine ra_take 9 rfl (by kernel_rfl) (by kernel_rfl) rfl (by (first | (constructor <;> first | rfl | exact RdC.rd | exact inferInstance) | exact Ex.pickF rfl rfl | exact Ex.eqlS rfl rfl | exact Ex.neqS rfl rfl | exact Ex.eqlPN rfl rfl | exact Ex.neqPN rfl rfl | exact Ex.eqlSN rfl rfl | exact Ex.neqSN rfl rfl | exact Ex.lenStr rfl)) rfl (fun _ h => h.fit) ?_
          refine ra_take 10 rfl (by kernel_rfl) (by kernel_rfl) rfl (by (first | (constructor <;> first | rfl | exact RdC.rd | exact inferInstance) | exact Ex.pickF rfl rfl | exact Ex.eqlS rfl rfl | exact Ex.neqS rfl rfl | exact Ex.eqlPN rfl rfl | exact Ex.neqPN rfl rfl | exact Ex.eqlSN rfl rfl | exact Ex.neqSN rfl rfl | exact Ex.lenStr rfl)) rfl (fun _ h => h.fit) ?_
          refine ra_end (by kernel_rfl) ?_
          refine qe_midc ((b1, _)) (by intro k; first | (simp only [look_mset, look_cons, look_nil, turnF]; done) | (simp only [look_mset, look_cons, look_nil, turnF]; (repeat' split) <;> simp_all)) ⟨rfl, trivial⟩ (fun w h => h)
        exact each_nil
      refine each_opN rfl rfl (opR_insert (ek := Stp.v) (ev := fnV) rfl (⟨3, 2⟩ : Stp) 55 rfl rfl ?_) ?_
      · refine ⟨.inr (fun w h => h.fit), ?_⟩
        refine ra_all (rs := [2, 8]) (by kernel_rfl) rfl ?_
        refine each_opN rfl rfl (opR_insert (ek := Stp.v) (ev := fnV) rfl (⟨1, 2⟩ : Stp) 51 rfl rfl ?_) ?_
        · refine ⟨.inr (fun w h => h.fit), ?_⟩
          refine ra_all (rs := [8]) (by kernel_rfl) rfl ?_
          refine each_opN rfl rfl (opR_insert (ek := Stp.v) (ev := fnV) rfl (⟨2, 1⟩ : Stp) 57 rfl rfl ?_) each_nil
          refine ⟨.inr (fun w h => h.fit), ?_⟩
          refine ra_take 9 rfl (by kernel_rfl) (by kernel_rfl) rfl (by (first | (constructor <;> first | rfl | exact RdC.rd | exact inferInstance) | exact Ex.pickF rfl rfl | exact Ex.eqlS rfl rfl | exact Ex.neqS rfl rfl | exact Ex.eqlPN rfl rfl | exact Ex.neqPN rfl rfl | exact Ex.eqlSN rfl rfl | exact Ex.neqSN rfl rfl | exact Ex.lenStr rfl)) rfl (fun _ h => h.fit) ?_
          refine ra_take 10 rfl (by kernel_rfl) (by kernel_rfl) rfl (by (first | (constructor <;> first | rfl | exact RdC.rd | exact inferInstance) | exact Ex.pickF rfl rfl | exact Ex.eqlS rfl rfl | exact Ex.neqS rfl rfl | exact Ex.eqlPN rfl rfl | exact Ex.neqPN rfl rfl | exact Ex.eqlSN rfl rfl | exact Ex.neqSN rfl rfl | exact Ex.lenStr rfl)) rfl (fun _ h => h.fit) ?_
          refine ra_end (by kernel_rfl) ?_
          refine qe_midc ((b1, _)) (by intro k; first | (simp only [look_mset, look_cons, look_nil, turnF]; done) | (simp only [look_mset, look_cons, look_nil, turnF]; (repeat' split) <;> simp_all)) ⟨rfl, trivial⟩ (fun w h => h)
        refine each_opN rfl rfl (opR_insert (ek := Stp.v) (ev := fnV) rfl (⟨2, 1⟩ : Stp) 57 rfl rfl ?_) ?_
        · refine ⟨.inr (fun w h => h.fit), ?_⟩
          refine ra_all (rs := [2]) (by kernel_rfl) rfl ?_
          refine each_opN rfl rfl (opR_insert (ek := Stp.v) (ev := fnV) rfl (⟨1, 2⟩ : Stp) 51 rfl rfl ?_) each_nil
          refine ⟨.inr (fun w h => h.fit), ?_⟩
          refine ra_take 9 rfl (by kernel_rfl) (by kernel_rfl) rfl (by (first | (constructor <;> first | rfl | exact RdC.rd | exact inferInstance) | exact Ex.pickF rfl rfl | exact Ex.eqlS rfl rfl | exact Ex.neqS rfl rfl | exact Ex.eqlPN rfl rfl | exact Ex.neqPN rfl rfl | exact Ex.eqlSN rfl rfl | exact Ex.neqSN rfl rfl | exact Ex.lenStr rfl)) rfl (fun _ h => h.fit) ?_
          refine ra_take 10 rfl (by kernel_rfl) (by kernel_rfl) rfl (by (first | (constructor <;> first | rfl | exact RdC.rd | exact inferInstance) | exact Ex.pickF rfl rfl | exact Ex.eqlS rfl rfl | exact Ex.neqS rfl rfl | exact Ex.eqlPN rfl rfl | exact Ex.neqPN rfl rfl | exact Ex.eqlSN rfl rfl | exact Ex.neqSN rfl rfl | exact Ex.lenStr rfl)) rfl (fun _ h => h.fit) ?_
          refine ra_end (by kernel_rfl) ?_
          refine qe_midc ((b1, _)) (by intro k; first | (simp only [look_mset, look_cons, look_nil, turnF]; done) | (simp only [look_mset, look_cons, look_nil, turnF]; (repeat' split) <;> simp_all)) ⟨rfl, trivial⟩ (fun w h => h)
        exact each_nil
      refine each_opN rfl rfl (opR_insert (ek := Stp.v) (ev := fnV) rfl (⟨2, 1⟩ : Stp) 57 rfl rfl ?_) ?_
      · refine ⟨.inr (fun w h => h.fit), ?_⟩
        refine ra_all (rs := [2, 6]) (by kernel_rfl) rfl ?_
        refine each_opN rfl rfl (opR_insert (ek := Stp.v) (ev := fnV) rfl (⟨1, 2⟩ : Stp) 51 rfl rfl ?_) ?_
        · refine ⟨.inr (fun w h => h.fit), ?_⟩
          refine ra_all (rs := [6]) (by kernel_rfl) rfl ?_
          refine each_opN rfl rfl (opR_insert (ek := Stp.v) (ev := fnV) rfl (⟨3, 2⟩ : Stp) 55 rfl rfl ?_) each_nil
          refine ⟨.inr (fun w h => h.fit), ?_⟩
          refine ra_take 9 rfl (by kernel_rfl) (by kernel_rfl) rfl (by (first | (constructor <;> first | rfl | exact RdC.rd | exact inferInstance) | exact Ex.pickF rfl rfl | exact Ex.eqlS rfl rfl | exact Ex.neqS rfl rfl | exact Ex.eqlPN rfl rfl | exact Ex.neqPN rfl rfl | exact Ex.eqlSN rfl rfl | exact Ex.neqSN rfl rfl | exact Ex.lenStr rfl)) rfl (fun _ h => h.fit) ?_
          refine ra_take 10 rfl (by kernel_rfl) (by kernel_rfl) rfl (by (first | (constructor <;> first | rfl | exact RdC.rd | exact inferInstance) | exact Ex.pickF rfl rfl | exact Ex.eqlS rfl rfl | exact Ex.neqS rfl rfl | exact Ex.eqlPN rfl rfl | exact Ex.neqPN rfl rfl | exact Ex.eqlSN rfl rfl | exact Ex.neqSN rfl rfl | exact Ex.lenStr rfl)) rfl (fun _ h => h.fit) ?_
          refine ra_end (by kernel_rfl) ?_
          refine qe_midc ((b1, _)) (by intro k; first | (simp only [look_mset, look_cons, look_nil, turnF]; done) | (simp only [look_mset, look_cons, look_nil, turnF]; (repeat' split) <;> simp_all)) ⟨rfl, trivial⟩ (fun w h => h)
        refine each_opN rfl rfl (opR_insert (ek := Stp.v) (ev := fnV) rfl (⟨3, 2⟩ : Stp) 55 rfl rfl ?_) ?_
        · refine ⟨.inr (fun w h => h.fit), ?_⟩
          refine ra_all (rs := [2]) (by kernel_rfl) rfl ?_
          refine each_opN rfl rfl (opR_insert (ek := Stp.v) (ev := fnV) rfl (⟨1, 2⟩ : Stp) 51 rfl rfl ?_) each_nil
          refine ⟨.inr (fun w h => h.fit), ?_⟩
          refine ra_take 9 rfl (by kernel_rfl) (by kernel_rfl) rfl (by (first | (constructor <;> first | rfl | exact RdC.rd | exact inferInstance) | exact Ex.pickF rfl rfl | exact Ex.eqlS rfl rfl | exact Ex.neqS rfl rfl | exact Ex.eqlPN rfl rfl | exact Ex.neqPN rfl rfl | exact Ex.eqlSN rfl rfl | exact Ex.neqSN rfl rfl | exact Ex.lenStr rfl)) rfl (fun _ h => h.fit) ?_
          refine ra_take 10 rfl (by kernel_rfl) (by kernel_rfl) rfl (by (first | (constructor <;> first | rfl | exact RdC.rd | exact inferInstance) | exact Ex.pickF rfl rfl | exact Ex.eqlS rfl rfl | exact Ex.neqS rfl rfl | exact Ex.eqlPN rfl rfl | exact Ex.neqPN rfl rfl | exact Ex.eqlSN rfl rfl | exact Ex.neqSN rfl rfl | exact Ex.lenStr rfl)) rfl (fun _ h => h.fit) ?_
          refine ra_end (by kernel_rfl) ?_
          refine qe_midc ((b1, _)) (by intro k; first | (simp only [look_mset, look_cons, look_nil, turnF]; done) | (simp only [look_mset, look_cons, look_nil, turnF]; (repeat' split) <;> simp_all)) ⟨rfl, trivial⟩ (fun w h => h)
        exact each_nil
      exact each_nil
    refine each_opN rfl rfl (opR_insert (ek := Stp.v) (ev := fnV) rfl (⟨3, 2⟩ : Stp) 55 rfl rfl ?_) ?_
    · refine ⟨.inr (fun w h => h.fit), ?_⟩
      refine ra_all (rs := [2, 4, 8]) (by kernel_rfl) rfl ?_
      refine each_opN rfl rfl (opR_insert (ek := Stp.v) (ev := fnV) rfl (⟨1, 2⟩ : Stp) 51 rfl rfl ?_) ?_
      · refine ⟨.inr (fun w h => h.fit), ?_⟩
        refine ra_all (rs := [4, 8]) (by kernel_rfl) rfl ?_
        refine each_opN rfl rfl (opR_insert (ek := Stp.v) (ev := fnV) rfl (⟨2, 3⟩ : Stp) 53 rfl rfl ?_) ?_
        · refine ⟨.inr (fun w h => h.fit), ?_⟩
          refine ra_all (rs := [8]) (by kernel_rfl) rfl ?_
          refine each_opN rfl rfl (opR_insert (ek := Stp.v) (ev := fnV) rfl (⟨2, 1⟩ : Stp) 57 rfl rfl ?_) each_nil
          refine ⟨.inr (fun w h => h.fit), ?_⟩
          refine ra_take 9 rfl (by kernel_rfl) (by kernel_rfl) rfl (by (first | (constructor <;> first | rfl | exact RdC.rd | exact inferInstance) | exact Ex.pickF rfl rfl | exact Ex.eqlS rfl rfl | exact Ex.neqS rfl rfl | exact Ex.eqlPN rfl rfl | exact Ex.neqPN rfl rfl | exact Ex.eqlSN rfl rfl | exact Ex.neqSN rfl rfl | exact Ex.lenStr rfl)) rfl (fun _ h => h.fit) ?_
          refine ra_take 10 rfl (by kernel_rfl) (by kernel_rfl) rfl (by (first | (constructor <;> first | rfl | exact RdC.rd | exact inferInstance) | exact Ex.pickF rfl rfl | exact Ex.eqlS rfl rfl | exact Ex.neqS rfl rfl | exact Ex.eqlPN rfl rfl | exact Ex.neqPN rfl rfl | exact Ex.eqlSN rfl rfl | exact Ex.neqSN rfl rfl | exact Ex.lenStr rfl)) rfl (fun _ h => h.fit) ?_
          refine ra_end (by kernel_rfl) ?_
          refine qe_midc ((b1, _)) (by intro k; first | (simp only [look_mset, look_cons, look_nil, turnF]; done) | (simp only [look_mset, look_cons, look_nil, turnF]; (repeat' split) <;> simp_all)) ⟨rfl, trivial⟩ (fun w h => h)
        refine each_opN rfl rfl (opR_insert (ek := Stp.v) (ev := fnV) rfl (⟨2, 1⟩ : Stp) 57 rfl rfl ?_) ?_
        · refine ⟨.inr (fun w h => h.fit), ?_⟩
          refine ra_all (rs := [4]) (by kernel_rfl) rfl ?_
          refine each_opN rfl rfl (opR_insert (ek := Stp.v) (ev := fnV) rfl (⟨2, 3⟩ : Stp) 53 rfl rfl ?_) each_nil
          refine ⟨.inr (fun w h => h.fit), ?_⟩
          refine ra_take 9 rfl (by kernel_rfl) (by kernel_rfl) rfl (by (first | (constructor <;> first | rfl | exact RdC.rd | exact inferInstance) | exact Ex.pickF rfl rfl | exact Ex.eqlS rfl rfl | exact Ex.neqS rfl rfl | exact Ex.eqlPN rfl rfl | exact Ex.neqPN rfl rfl | exact Ex.eqlSN rfl rfl | exact Ex.neqSN rfl rfl | exact Ex.lenStr rfl)) rfl (fun _ h => h.fit) ?_
          refine ra_take 10 rfl (by kernel_rfl) (by kernel_rfl) rfl (by (first | (constructor <;> first | rfl | exact RdC.rd | exact inferInstance) | exact Ex.pickF rfl rfl | exact Ex.eqlS rfl rfl | exact Ex.neqS rfl rfl | exact Ex.eqlPN rfl rfl | exact Ex.neqPN rfl rfl | exact Ex.eqlSN rfl rfl | exact Ex.neqSN rfl rfl | exact Ex.lenStr rfl)) rfl (fun _ h => h.fit) ?_
          refine ra_end (by kernel_rfl) ?_
          refine qe_midc ((b1, _)) (by intro k; first | (simp only [look_mset, look_cons, look_nil, turnF]; done) | (simp only [look_mset, look_cons, look_nil, turnF]; (repeat' split) <;> simp_all)) ⟨rfl, trivial⟩ (fun w h => h)
        exact each_nil
      refine each_opN rfl rfl (opR_insert (ek := Stp.v) (ev := fnV) rfl (⟨2, 3⟩ : Stp) 53 rfl rfl ?_) ?_
      · refine ⟨.inr (fun w h => h.fit), ?_⟩
        refine ra_all (rs := [2, 8]) (by kernel_rfl) rfl ?_
        refine each_opN rfl rfl (opR_insert (ek := Stp.v) (ev := fnV) rfl (⟨1, 2⟩ : Stp) 51 rfl rfl ?_) ?_
        · refine ⟨.inr (fun w h => h.fit), ?_⟩
          refine ra_all (rs := [8]) (by kernel_rfl) rfl ?_
          refine each_opN rfl rfl (opR_insert (ek := Stp.v) (ev := fnV) rfl (⟨2, 1⟩ : Stp) 57 rfl rfl ?_) each_nil
          refine ⟨.inr (fun w h => h.fit), ?_⟩
          refine ra_take 9 rfl (by kernel_rfl) (by kernel_rfl) rfl (by (first | (constructor <;> first | rfl | exact RdC.rd | exact inferInstance) | exact Ex.pickF rfl rfl | exact Ex.eqlS rfl rfl | exact Ex.neqS rfl rfl | exact Ex.eqlPN rfl rfl | exact Ex.neqPN rfl rfl | exact Ex.eqlSN rfl rfl | exact Ex.neqSN rfl rfl | exact Ex.lenStr rfl)) rfl (fun _ h => h.fit) ?_
          refine ra_take 10 rfl (by kernel_rfl) (by kernel_rfl) rfl (by (first | (constructor <;> first | rfl | exact RdC.rd | exact inferInstance) | exact Ex.pickF rfl rfl | exact Ex.eqlS rfl rfl | exact Ex.neqS rfl rfl | exact Ex.eqlPN rfl rfl | exact Ex.neqPN rfl rfl | exact Ex.eqlSN rfl rfl | exact Ex.neqSN rfl rfl | exact Ex.lenStr rfl)) rfl (fun _ h => h.fit) ?_
          refine ra_end (by kernel_rfl) ?_
          refine qe_midc ((b1, _)) (by intro k; first | (simp only [look_mset, look_cons, look_nil, turnF]; done) | (simp only [look_mset, look_cons, look_nil, turnF]; (repeat' split) <;> simp_all)) ⟨rfl, trivial⟩ (fun w h => h)
        refine each_opN rfl rfl (opR_insert (ek := Stp.v) (ev := fnV) rfl (⟨2, 1⟩ : Stp) 57 rfl rfl ?_) ?_
        · refine ⟨.inr (fun w h => h.fit), ?_⟩
          refine ra_all (rs := [2]) (by kernel_rfl) rfl ?_
          refine each_opN rfl rfl (opR_insert (ek := Stp.v) (ev := fnV) rfl (⟨1, 2⟩ : Stp) 51 rfl rfl ?_) each_nil
          refine ⟨.inr (fun w h => h.fit), ?_⟩
          refine ra_take 9 rfl (by kernel_rfl) (by kernel_rfl) rfl (by (first | (constructor <;> first | rfl | exact RdC.rd | exact inferInstance) | exact Ex.pickF rfl rfl | exact Ex.eqlS rfl rfl | exact Ex.neqS rfl rfl | exact Ex.eqlPN rfl rfl | exact Ex.neqPN rfl rfl | exact Ex.eqlSN rfl rfl | exact Ex.neqSN rfl rfl | exact Ex.lenStr rfl)) rfl (fun _ h => h.fit) ?_
          refine ra_take 10 rfl (by kernel_rfl) (by kernel_rfl) rfl (by (first | (constructor <;> first | rfl | exact RdC.rd | exact inferInstance) | exact Ex.pickF rfl rfl | exact Ex.eqlS rfl rfl | exact Ex.neqS rfl rfl | exact Ex.eqlPN rfl rfl | exact Ex.neqPN rfl rfl | exact Ex.eqlSN rfl rfl | exact Ex.neqSN rfl rfl | exact Ex.lenStr rfl)) rfl (fun _ h => h.fit) ?_
          refine ra_end (by kernel_rfl) ?_
          refine qe_midc ((b1, _)) (by intro k; first | (simp only [look_mset, look_cons, look_nil, turnF]; done) | (simp only [look_mset, look_cons, look_nil, turnF]; (repeat' split) <;> simp_all)) ⟨rfl, trivial⟩ (fun w h => h)
        exact each_nil
      refine each_opN rfl rfl (opR_insert (ek := Stp.v) (ev := fnV) rfl (⟨2, 1⟩ : Stp) 57 rfl rfl ?_) ?_
      · refine ⟨.inr (fun w h => h.fit), ?_⟩
        refine ra_all (rs := [2, 4]) (by kernel_rfl) rfl ?_
        refine each_opN rfl rfl (opR_insert (ek := Stp.v) (ev := fnV) rfl (⟨1, 2⟩ : Stp) 51 rfl rfl ?_) ?_
        · refine ⟨.inr (fun w h => h.fit), ?_⟩
          refine ra_all (rs := [4]) (by kernel_rfl) rfl ?_
          refine each_opN rfl rfl (opR_insert (ek := Stp.v) (ev := fnV) rfl (⟨2, 3⟩ : Stp) 53 rfl rfl ?_) each_nil
          refine ⟨.inr (fun w h => h.fit), ?_⟩
          refine ra_take 9 rfl (by kernel_rfl) (by kernel_rfl) rfl (by (first | (constructor <;> first | rfl | exact RdC.rd | exact inferInstance) | exact Ex.pickF rfl rfl | exact Ex.eqlS rfl rfl | exact Ex.neqS rfl rfl | exact Ex.eqlPN rfl rfl | exact Ex.neqPN rfl rfl | exact Ex.eqlSN rfl rfl | exact Ex.neqSN rfl rfl | exact Ex.lenStr rfl)) rfl (fun _ h => h.fit) ?_
          refine ra_take 10 rfl (by kernel_rfl) (by kernel_rfl) rfl (by (first | (constructor <;> first | rfl | exact RdC.rd | exact inferInstance) | exact Ex.pickF rfl rfl | exact Ex.eqlS rfl rfl | exact Ex.neqS rfl rfl | exact Ex.eqlPN rfl rfl | exact Ex.neqPN rfl rfl | exact Ex.eqlSN rfl rfl | exact Ex.neqSN rfl rfl | exact Ex.lenStr rfl)) rfl (fun _ h => h.fit) ?_
          refine ra_end (by kernel_rfl) ?_
          refine qe_midc ((b1, _)) (by intro k; first | (simp only [look_mset, look_cons, look_nil, turnF]; done) | (simp only [look_mset, look_cons, look_nil, turnF]; (repeat' split) <;> simp_all)) ⟨rfl, trivial⟩ (fun w h => h)
        refine each_opN rfl rfl (opR_insert (ek := Stp.v) (ev := fnV) rfl (⟨2, 3⟩ : Stp) 53 rfl rfl ?_) ?_
        · refine ⟨.inr (fun w h => h.fit), ?_⟩
          refine ra_all (rs := [2]) (by kernel_rfl) rfl ?_
          refine each_opN rfl rfl (opR_insert (ek := Stp.v) (ev := fnV) rfl (⟨1, 2⟩ : Stp) 51 rfl rfl ?_) each_nil
          refine ⟨.inr (fun w h => h.fit), ?_⟩
          refine ra_take 9 rfl (by kernel_rfl) (by kernel_rfl) rfl (by (first | (constructor <;> first | rfl | exact RdC.rd | exact inferInstance) | exact Ex.pickF rfl rfl | exact Ex.eqlS rfl rfl | exact Ex.neqS rfl rfl | exact Ex.eqlPN rfl rfl | exact Ex.neqPN rfl rfl | exact Ex.eqlSN rfl rfl | exact Ex.neqSN rfl rfl | exact Ex.lenStr rfl)) rfl (fun _ h => h.fit) ?_
          refine ra_take 10 rfl (by kernel_rfl) (by kernel_rfl) rfl (by (first | (constructor <;> first | rfl | exact RdC.rd | exact inferInstance) | exact Ex.pickF rfl rfl | exact Ex.eqlS rfl rfl | exact Ex.neqS rfl rfl | exact Ex.eqlPN rfl rfl | exact Ex.neqPN rfl rfl | exact Ex.eqlSN rfl rfl | exact Ex.neqSN rfl rfl | exact Ex.lenStr rfl)) rfl (fun _ h => h.fit) ?_
          refine ra_end (by kernel_rfl) ?_
          refine qe_midc ((b1, _)) (by intro k; first | (simp only [look_mset, look_cons, look_nil, turnF]; done) | (simp only [look_mset, look_cons, look_nil, turnF]; (repeat' split) <;> simp_all)) ⟨rfl, trivial⟩ (fun w h => h)
        exact each_nil
      exact each_nil
    refine each_opN rfl rfl (opR_insert (ek := Stp.v) (ev := fnV) rfl (⟨2, 1⟩ : Stp) 57 rfl rfl ?_) ?_
    · refine ⟨.inr (fun w h => h.fit), ?_⟩
      refine ra_all (rs := [2, 4, 6]) (by kernel_rfl) rfl ?_
      refine each_opN rfl rfl (opR_insert (ek := Stp.v) (ev := fnV) rfl (⟨1, 2⟩ : Stp) 51 rfl rfl ?_) ?_
      · refine ⟨.inr (fun w h => h.fit), ?_⟩
        refine ra_all (rs := [4, 6]) (by kernel_rfl) rfl ?_
        refine each_opN rfl rfl (opR_insert (ek := Stp.v) (ev := fnV) rfl (⟨2, 3⟩ : Stp) 53 rfl rfl ?_) ?_
        · refine ⟨.inr (fun w h => h.fit), ?_⟩
          refine ra_all (rs := [6]) (by kernel_rfl) rfl ?_
          refine each_opN rfl rfl (opR_insert (ek := Stp.v) (ev := fnV) rfl (⟨3, 2⟩ : Stp) 55 rfl rfl ?_) each_nil
          refine ⟨.inr (fun w h => h.fit), ?_⟩
          refine ra_take 9 rfl (by kernel_rfl) (by kernel_rfl) rfl (by (first | (constructor <;> first | rfl | exact RdC.rd | exact inferInstance) | exact Ex.pickF rfl rfl | exact Ex.eqlS rfl rfl | exact Ex.neqS rfl rfl | exact Ex.eqlPN rfl rfl | exact Ex.neqPN rfl rfl | exact Ex.eqlSN rfl rfl | exact Ex.neqSN rfl rfl | exact Ex.lenStr rfl)) rfl (fun _ h => h.fit) ?_
          refine ra_take 10 rfl (by kernel_rfl) (by kernel_rfl) rfl (by (first | (constructor <;> first | rfl | exact RdC.rd | exact inferInstance) | exact Ex.pickF rfl rfl | exact Ex.eqlS rfl rfl | exact Ex.neqS rfl rfl | exact Ex.eqlPN rfl rfl | exact Ex.neqPN rfl rfl | exact Ex.eqlSN rfl rfl | exact Ex.neqSN rfl rfl | exact Ex.lenStr rfl)) rfl (fun _ h => h.fit) ?_
          refine ra_end (by kernel_rfl) ?_
          refine qe_midc ((b1, _)) (by intro k; first | (simp only [look_mset, look_cons, look_nil, turnF]; done) | (simp only [look_mset, look_cons, look_nil, turnF]; (repeat' split) <;> simp_all)) ⟨rfl, trivial⟩ (fun w h => h)
        refine each_opN rfl rfl (opR_insert (ek := Stp.v) (ev := fnV) rfl (⟨3, 2⟩ : Stp) 55 rfl rfl ?_) ?_
        · refine ⟨.inr (fun w h => h.fit), ?_⟩
          refine ra_all (rs := [4]) (by kernel_rfl) rfl ?_
          refine each_opN rfl rfl (opR_insert (ek := Stp.v) (ev := fnV) rfl (⟨2, 3⟩ : Stp) 53 rfl rfl ?_) each_nil
          refine ⟨.inr (fun w h => h.fit), ?_⟩
          refine ra_take 9 rfl (by kernel_rfl) (by kernel_rfl) rfl (by (first | (constructor <;> first | rfl | exact RdC.rd | exact inferInstance) | exact Ex.pickF rfl rfl | exact Ex.eqlS rfl rfl | exact Ex.neqS rfl rfl | exact Ex.eqlPN rfl rfl | exact Ex.neqPN rfl rfl | exact Ex.eqlSN rfl rfl | exact Ex.neqSN rfl rfl | exact Ex.lenStr rfl)) rfl (fun _ h => h.fit) ?_
          refine ra_take 10 rfl (by kernel_rfl) (by kernel_rfl) rfl (by (first | (constructor <;> first | rfl | exact RdC.rd | exact inferInstance) | exact Ex.pickF rfl rfl | exact Ex.eqlS rfl rfl | exact Ex.neqS rfl rfl | exact Ex.eqlPN rfl rfl | exact Ex.neqPN rfl rfl | exact Ex.eqlSN rfl rfl | exact Ex.neqSN rfl rfl | exact Ex.lenStr rfl)) rfl (fun _ h => h.fit) ?_
          refine ra_end (by kernel_rfl) ?_
          refine qe_midc ((b1, _)) (by intro k; first | (simp only [look_mset, look_cons, look_nil, turnF]; done) | (simp only [look_mset, look_cons, look_nil, turnF]; (repeat' split) <;> simp_all)) ⟨rfl, trivial⟩ (fun w h => h)
        exact each_nil
      refine each_opN rfl rfl (opR_insert (ek := Stp.v) (ev := fnV) rfl (⟨2, 3⟩ : Stp) 53 rfl rfl ?_) ?_
      · refine ⟨.inr (fun w h => h.fit), ?_⟩
        refine ra_all (rs := [2, 6]) (by kernel_rfl) rfl ?_
        refine each_opN rfl rfl (opR_insert (ek := Stp.v) (ev := fnV) rfl (⟨1, 2⟩ : Stp) 51 rfl rfl ?_) ?_
        · refine ⟨.inr (fun w h => h.fit), ?_⟩
          refine ra_all (rs := [6]) (by kernel_rfl) rfl ?_
          refine each_opN rfl rfl (opR_insert (ek := Stp.v) (ev := fnV) rfl (⟨3, 2⟩ : Stp) 55 rfl rfl ?_) each_nil
          refine ⟨.inr (fun w h => h.fit), ?_⟩
          refine ra_take 9 rfl (by kernel_rfl) (by kernel_rfl) rfl (by (first | (constructor <;> first | rfl | exact RdC.rd | exact inferInstance) | exact Ex.pickF rfl rfl | exact Ex.eqlS rfl rfl | exact Ex.neqS rfl rfl | exact Ex.eqlPN rfl rfl | exact Ex.neqPN rfl rfl | exact Ex.eqlSN rfl rfl | exact Ex.neqSN rfl rfl | exact Ex.lenStr rfl)) rfl (fun _ h => h.fit) ?_
          refine ra_take 10 rfl (by kernel_rfl) (by kernel_rfl) rfl (by (first | (constructor <;> first | rfl | exact RdC.rd | exact inferInstance) | exact Ex.pickF rfl rfl | exact Ex.eqlS rfl rfl | exact Ex.neqS rfl rfl | exact Ex.eqlPN rfl rfl | exact Ex.neqPN rfl rfl | exact Ex.eqlSN rfl rfl | exact Ex.neqSN rfl rfl | exact Ex.lenStr rfl)) rfl (fun _ h => h.fit) ?_
          refine ra_end (by kernel_rfl) ?_
          refine qe_midc ((b1, _)) (by intro k; first | (simp only [look_mset, look_cons, look_nil, turnF]; done) | (simp only [look_mset, look_cons, look_nil, turnF]; (repeat' split) <;> simp_all)) ⟨rfl, trivial⟩ (fun w h => h)
        refine each_opN rfl rfl (opR_insert (ek := Stp.v) (ev := fnV) rfl (⟨3, 2⟩ : Stp) 55 rfl rfl ?_) ?_
        · refine ⟨.inr (fun w h => h.fit), ?_⟩
          refine ra_all (rs := [2]) (by kernel_rfl) rfl ?_
          refine each_opN rfl rfl (opR_insert (ek := Stp.v) (ev := fnV) rfl (⟨1, 2⟩ : Stp) 51 rfl rfl ?_) each_nil
          refine ⟨.inr (fun w h => h.fit), ?_⟩
          refine ra_take 9 rfl (by kernel_rfl) (by kernel_rfl) rfl (by (first | (constructor <;> first | rfl | exact RdC.rd | exact inferInstance) | exact Ex.pickF rfl rfl | exact Ex.eqlS rfl rfl | exact Ex.neqS rfl rfl | exact Ex.eqlPN rfl rfl | exact Ex.neqPN rfl rfl | exact Ex.eqlSN rfl rfl | exact Ex.neqSN rfl rfl | exact Ex.lenStr rfl)) rfl (fun _ h => h.fit) ?_
          refine ra_take 10 rfl (by kernel_rfl) (by kernel_rfl) rfl (by (first | (constructor <;> first | rfl | exact RdC.rd | exact inferInstance) | exact Ex.pickF rfl rfl | exact Ex.eqlS rfl rfl | exact Ex.neqS rfl rfl | exact Ex.eqlPN rfl rfl | exact Ex.neqPN rfl rfl | exact Ex.eqlSN rfl rfl | exact Ex.neqSN rfl rfl | exact Ex.lenStr rfl)) rfl (fun _ h => h.fit) ?_
          refine ra_end (by kernel_rfl) ?_
          refine qe_midc ((b1, _)) (by intro k; first | (simp only [look_mset, look_cons, look_nil, turnF]; done) | (simp only [look_mset, look_cons, look_nil, turnF]; (repeat' split) <;> simp_all)) ⟨rfl, trivial⟩ (fun w h => h)
        exact each_nil
      refine each_opN rfl rfl (opR_insert (ek := Stp.v) (ev := fnV) rfl (⟨3, 2⟩ : Stp) 55 rfl rfl ?_) ?_
      · refine ⟨.inr (fun w h => h.fit), ?_⟩
        refine ra_all (rs := [2, 4]) (by kernel_rfl) rfl ?_
        refine each_opN rfl rfl (opR_insert (ek := Stp.v) (ev := fnV) rfl (⟨1, 2⟩ : Stp) 51 rfl rfl ?_) ?_
        · refine ⟨.inr (fun w h => h.fit), ?_⟩
          refine ra_all (rs := [4]) (by kernel_rfl) rfl ?_
          refine each_opN rfl rfl (opR_insert (ek := Stp.v) (ev := fnV) rfl (⟨2, 3⟩ : Stp) 53 rfl rfl ?_) each_nil
          refine ⟨.inr (fun w h => h.fit), ?_⟩
          refine ra_take 9 rfl (by kernel_rfl) (by kernel_rfl) rfl (by (first | (constructor <;> first | rfl | exact RdC.rd | exact inferInstance) | exact Ex.pickF rfl rfl | exact Ex.eqlS rfl rfl | exact Ex.neqS rfl rfl | exact Ex.eqlPN rfl rfl | exact Ex.neqPN rfl rfl | exact Ex.eqlSN rfl rfl | exact Ex.neqSN rfl rfl | exact Ex.lenStr rfl)) rfl (fun _ h => h.fit) ?_
          refine ra_take 10 rfl (by kernel_rfl) (by kernel_rfl) rfl (by (first | (constructor <;> first | rfl | exact RdC.rd | exact inferInstance) | exact Ex.pickF rfl rfl | exact Ex.eqlS rfl rfl | exact Ex.neqS rfl rfl | exact Ex.eqlPN rfl rfl | exact Ex.neqPN rfl rfl | exact Ex.eqlSN rfl rfl | exact Ex.neqSN rfl rfl | exact Ex.lenStr rfl)) rfl (fun _ h => h.fit) ?_
          refine ra_end (by kernel_rfl) ?_
          refine qe_midc ((b1, _)) (by intro k; first | (simp only [look_mset, look_cons, look_nil, turnF]; done) | (simp only [look_mset, look_cons, look_nil, turnF]; (repeat' split) <;> simp_all)) ⟨rfl, trivial⟩ (fun w h => h)
        refine each_opN rfl rfl (opR_insert (ek := Stp.v) (ev := fnV) rfl (⟨2, 3⟩ : Stp) 53 rfl rfl ?_) ?_
        · refine ⟨.inr (fun w h => h.fit), ?_⟩
          refine ra_all (rs := [2]) (by kernel_rfl) rfl ?_
          refine each_opN rfl rfl (opR_insert (ek := Stp.v) (ev := fnV) rfl (⟨1, 2⟩ : Stp) 51 rfl rfl ?_) each_nil
          refine ⟨.inr (fun w h => h.fit), ?_⟩
          refine ra_take 9 rfl (by kernel_rfl) (by kernel_rfl) rfl (by (first | (constructor <;> first | rfl | exact RdC.rd | exact inferInstance) | exact Ex.pickF rfl rfl | exact Ex.eqlS rfl rfl | exact Ex.neqS rfl rfl | exact Ex.eqlPN rfl rfl | exact Ex.neqPN rfl rfl | exact Ex.eqlSN rfl rfl | exact Ex.neqSN rfl rfl | exact Ex.lenStr rfl)) rfl (fun _ h => h.fit) ?_
          refine ra_take 10 rfl (by kernel_rfl) (by kernel_rfl) rfl (by (first | (constructor <;> first | rfl | exact RdC.rd | exact inferInstance) | exact Ex.pickF rfl rfl | exact Ex.eqlS rfl rfl | exact Ex.neqS rfl rfl | exact Ex.eqlPN rfl rfl | exact Ex.neqPN rfl rfl | exact Ex.eqlSN rfl rfl | exact Ex.neqSN rfl rfl | exact Ex.lenStr rfl)) rfl (fun _ h => h.fit) ?_
          refine ra_end (by kernel_rfl) ?_
          refine qe_midc ((b1, _)) (by intro k; first | (simp only [look_mset, look_cons, look_nil, turnF]; done) | (simp only [look_mset, look_cons, look_nil, turnF]; (repeat' split) <;> simp_all)) ⟨rfl, trivial⟩ (fun w h => h)
        exact each_nil
      exact each_nil
    exact each_nil
  · rintro ⟨r, m⟩ hm
    refine ct_ret ?_
    exact ret1 rfl rfl ⟨r, m, rfl, hm, rfl⟩
def stepsFrom (v d : Int) : Nat → List Stp
  | 0 => []
  | n + 1 => ⟨v, v + d⟩ :: stepsFrom (v + d) d n
def dirOf (a b : Int) : Int := if b < a then -1 else 1
def stepsL (a b : Int) : List Stp := stepsFrom a (dirOf a b) (b - a).natAbs
theorem Steps_c (W0 : World) (x y : Int) (H : List Chunk) : Call Tryd.prog W0 39 [.int .i64 x, .int .i64 y] H
    (fun u H' => ∃ bt bf, u = .func (.func 59) #[] #[.pointer (some ⟨bt, 0, none⟩), .pointer (some ⟨bf, 0, none⟩)] ∧ H' = Blk bt (.cells #[.int .i64 y] 3 (0, 0)) :: Blk bf (.cells #[.int .i64 x] 3 (0, 0)) :: H) := by
  refine call_enter Tryd.func39 rfl Tryd.ntmps39 rfl ?_

  refine ct_seq ?_
  refine ct_region ?_
  refine rs_op rfl rfl (opR_box rfl fun b2 => ?_)
  refine rs_op rfl rfl (opR_box rfl fun b3 => ?_)
  (first | refine rs_ex rfl (by (first | (constructor <;> first | rfl | exact RdC.rd | exact inferInstance) | exact Ex.pickF rfl rfl | exact Ex.eqlS rfl rfl | exact Ex.neqS rfl rfl | exact Ex.eqlPN rfl rfl | exact Ex.neqPN rfl rfl | exact Ex.eqlSN rfl rfl | exact Ex.neqSN rfl rfl | exact Ex.lenStr rfl)) rfl ?_ | refine rs_skip rfl rfl ?_)
  refine rs_end ?_
  refine qe_then ?_
  refine ct_seq ?_
  refine ct_region ?_
  iterate 2 (first | refine rs_ex rfl (by (first | (constructor <;> first | rfl | exact RdC.rd | exact inferInstance) | exact Ex.pickF rfl rfl | exact Ex.eqlS rfl rfl | exact Ex.neqS rfl rfl | exact Ex.eqlPN rfl rfl | exact Ex.neqPN rfl rfl | exact Ex.eqlSN rfl rfl | exact Ex.neqSN rfl rfl | exact Ex.lenStr rfl)) rfl ?_ | refine rs_skip rfl rfl ?_)
  refine rs_end ?_
  refine qe_then ?_
  refine ct_ret ?_
  exact ret1 rfl rfl ⟨_, _, rfl, rfl⟩
def encS (x : Stp) : List Value := [x.v]
def stepsIt (bt bf : Nat) (x y : Int) : Chunk := Star [Blk bt (.cells #[.int .i64 y] 3 (0, 0)), Blk bf (.cells #[.int .i64 x] 3 (0, 0))]
theorem Steps1_c (W0 : World) {ζ : Type} (y : Value) (gc : ζ → Option Code → Chunk) (step : ζ → Stp → ζ × Option Code) (J : ζ → List Stp → Prop) (z0 : ζ) (bt bf : Nat) (u v : Int) (T : List Chunk)
    (hy : Yields Tryd.prog W0 y encS gc step J) (h0 : J z0 (stepsL u v)) (hu : 0 ≤ u ∧ u ≤ 10) (hv : 0 ≤ v ∧ v ≤ 10) :
    Call Tryd.prog W0 59 [y, .pointer (some ⟨bt, 0, none⟩), .pointer (some ⟨bf, 0, none⟩)] (stepsIt bt bf u v :: gc z0 none :: T)
      (fun _ H' => ∃ xs it', xs = stepsL u v ∧ H' = it' :: gc (runs step z0 xs).1 (runs step z0 xs).2 :: T) := by
  refine Call.heap (H' := Blk bt (.cells #[.int .i64 v] 3 (0, 0)) :: Blk bf (.cells #[.int .i64 u] 3 (0, 0)) :: gc z0 none :: T) (fun w h => At.star.1 h) ?_
  refine call_enter Tryd.func59 rfl Tryd.ntmps59 rfl ?_

  refine ct_seq ?_
  refine ct_region ?_
  (first | refine rs_ex rfl (by (first | (constructor <;> first | rfl | exact RdC.rd | exact inferInstance) | exact Ex.pickF rfl rfl | exact Ex.eqlS rfl rfl | exact Ex.neqS rfl rfl | exact Ex.eqlPN rfl rfl | exact Ex.neqPN rfl rfl | exact Ex.eqlSN rfl rfl | exact Ex.neqSN rfl rfl | exact Ex.lenStr rfl)) rfl ?_ | refine rs_skip rfl rfl ?_)
  refine rs_end ?_
  refine qe_then ?_
  refine ct_meetc (ζ := Int) (fun d => d = dirOf u v) [(0, _), (1, _), (2, _)] (fun d => [(4, .int .i64 d)]) (fun d => Blk bt (.cells #[.int .i64 v] 3 (0, 0)) :: Blk bf (.cells #[.int .i64 u] 3 (0, 0)) :: gc z0 none :: T) ⟨rfl, rfl, rfl, trivial⟩ ?_ ?_
  · refine ct_seq ?_
    refine ct_region ?_
    iterate 3 (first | refine rs_ex rfl (by (first | (constructor <;> first | rfl | exact RdC.rd | exact inferInstance) | exact Ex.pickF rfl rfl | exact Ex.eqlS rfl rfl | exact Ex.neqS rfl rfl | exact Ex.eqlPN rfl rfl | exact Ex.neqPN rfl rfl | exact Ex.eqlSN rfl rfl | exact Ex.neqSN rfl rfl | exact Ex.lenStr rfl)) rfl ?_ | refine rs_skip rfl rfl ?_)
    refine rs_end ?_
    refine qe_then ?_
    refine ct_cond rfl (fun h8 => ?_) (fun h8 => ?_)
    · refine ct_region ?_
      (first | refine rs_ex rfl (by (first | (constructor <;> first | rfl | exact RdC.rd | exact inferInstance) | exact Ex.pickF rfl rfl | exact Ex.eqlS rfl rfl | exact Ex.neqS rfl rfl | exact Ex.eqlPN rfl rfl | exact Ex.neqPN rfl rfl | exact Ex.eqlSN rfl rfl | exact Ex.neqSN rfl rfl | exact Ex.lenStr rfl)) rfl ?_ | refine rs_skip rfl rfl ?_)
      refine rs_end ?_
      refine qe_midc (_) (by unfold dirOf; simp at h8; split <;> omega) ⟨rfl, rfl, rfl, rfl, trivial⟩ (fun w h => by first | exact h.fit | exact h)
    · refine ct_skip ?_
      refine qe_midc (_) (by unfold dirOf; simp at h8; split <;> omega) ⟨rfl, rfl, rfl, rfl, trivial⟩ (fun w h => by first | exact h.fit | exact h)
  · rintro d hd
    refine ct_seq ?_
    refine ct_region ?_
    iterate 2 (first | refine rs_ex rfl (by (first | (constructor <;> first | rfl | exact RdC.rd | exact inferInstance) | exact Ex.pickF rfl rfl | exact Ex.eqlS rfl rfl | exact Ex.neqS rfl rfl | exact Ex.eqlPN rfl rfl | exact Ex.neqPN rfl rfl | exact Ex.eqlSN rfl rfl | exact Ex.neqSN rfl rfl | exact Ex.lenStr rfl)) rfl ?_ | refine rs_skip rfl rfl ?_)
    refine rs_end ?_
    refine qe_then ?_
    refine ct_block ?_
    refine ct_loopc (ζ := Nat × Int × ζ) (fun q => (J q.2.2 (stepsFrom q.2.1 d q.1) ∧ runs step q.2.2 (stepsFrom q.2.1 d q.1) = runs step z0 (stepsL u v)) ∧ ((d = 1 ∧ q.2.1 + q.1 = v) ∨ (d = -1 ∧ q.2.1 - q.1 = v)) ∧ 0 ≤ q.2.1 ∧ q.2.1 ≤ 10) [(0, _), (1, _), (4, _)] (fun q => [(5, .int .i64 q.2.1)]) (fun q => Blk bt (.cells #[.int .i64 v] 3 (0, 0)) :: Blk bf (.cells #[.int .i64 u] 3 (0, 0)) :: gc q.2.2 none :: T) (fun q => q.1) (((v - u).natAbs, u, z0)) (⟨⟨by rw [hd]; exact h0, by rw [hd]; rfl⟩, by rw [hd]; unfold dirOf; simp only; split <;> omega, hu⟩) ⟨rfl, rfl, rfl, rfl, trivial⟩ (fun w h => by first | exact h.fit | exact h) ?_
    rintro ⟨n, x, z⟩ ⟨⟨hz, hruns⟩, hdn, hx⟩
    simp only at hz hruns hdn hx ⊢
    refine ct_seq ?_
    refine ct_seq ?_
    refine ct_region ?_
    iterate 3 (first | refine rs_ex rfl (by (first | (constructor <;> first | rfl | exact RdC.rd | exact inferInstance) | exact Ex.pickF rfl rfl | exact Ex.eqlS rfl rfl | exact Ex.neqS rfl rfl | exact Ex.eqlPN rfl rfl | exact Ex.neqPN rfl rfl | exact Ex.eqlSN rfl rfl | exact Ex.neqSN rfl rfl | exact Ex.lenStr rfl)) rfl ?_ | refine rs_skip rfl rfl ?_)
    refine rs_end ?_
    refine qe_then ?_
    refine ct_cond rfl (fun h12 => ?_) (fun h12 => ?_)
    · obtain ⟨k, rfl⟩ : ∃ k, n = k + 1 := ⟨n - 1, by simp at h12; omega⟩
      rw [stepsFrom] at hz hruns
      refine ct_skip ?_
      refine qe_then ?_
      refine ct_seq ?_
      refine ct_block ?_
      refine ct_seq ?_
      refine ct_region ?_
      iterate 5 (first | refine rs_ex rfl (by (first | (constructor <;> first | rfl | exact RdC.rd | exact inferInstance) | exact Ex.pickF rfl rfl | exact Ex.eqlS rfl rfl | exact Ex.neqS rfl rfl | exact Ex.eqlPN rfl rfl | exact Ex.neqPN rfl rfl | exact Ex.eqlSN rfl rfl | exact Ex.neqSN rfl rfl | exact Ex.lenStr rfl)) rfl ?_ | refine rs_skip rfl rfl ?_)
      refine rs_rw (by rw [wrap64 (by omega) (by omega)]) ?_
      refine rs_ex rfl (ex_build rfl) rfl ?_
      have hcall := hy.call z ⟨x, x + d⟩ _ (Blk bt (.cells #[.int .i64 v] 3 (0, 0)) :: Blk bf (.cells #[.int .i64 u] 3 (0, 0)) :: T) hz
      refine rs_op rfl rfl (opR_callV rfl rfl (CallV.heap (fun w h => At.top [_, _, _] [2, 0, 1] h) (hcall.mono ?_)))
      rintro v' H' ⟨rfl, rfl⟩
      (first | refine rs_ex rfl (by (first | (constructor <;> first | rfl | exact RdC.rd | exact inferInstance) | exact Ex.pickF rfl rfl | exact Ex.eqlS rfl rfl | exact Ex.neqS rfl rfl | exact Ex.eqlPN rfl rfl | exact Ex.neqPN rfl rfl | exact Ex.eqlSN rfl rfl | exact Ex.neqSN rfl rfl | exact Ex.lenStr rfl)) rfl ?_ | refine rs_skip rfl rfl ?_)
      refine rs_end ?_
      refine qe_then ?_
      refine ct_cond rfl (fun h23 => ?_) (fun h23 => ?_)
      · obtain ⟨j, hj⟩ : ∃ j, (step z ⟨x, x + d⟩).2 = some j := by
          cases hj : (step z ⟨x, x + d⟩).2 with
          | none => rw [hj] at h23; cases h23
          | some j => exact ⟨j, rfl⟩
        refine ct_ret ?_
        exact qe_heap (H' := stepsIt bt bf u v :: gc (step z ⟨x, x + d⟩).1 (step z ⟨x, x + d⟩).2 :: T) (fun w h => At.star.2 (At.top [_, _, _] [1, 2, 0] h)) (ret0 rfl ⟨_, stepsIt bt bf u v, rfl, by rw [← hruns, runs, hj]⟩)
      · have hj : (step z ⟨x, x + d⟩).2 = none := by
          cases hj : (step z ⟨x, x + d⟩).2 with
          | none => rfl
          | some j => rw [hj] at h23; cases h23
        rw [hj]
        refine ct_skip ?_
        refine qe_block 1 ?_
        refine qe_then ?_
        refine ct_region ?_
        iterate 3 (first | refine rs_ex rfl (by (first | (constructor <;> first | rfl | exact RdC.rd | exact inferInstance) | exact Ex.pickF rfl rfl | exact Ex.eqlS rfl rfl | exact Ex.neqS rfl rfl | exact Ex.eqlPN rfl rfl | exact Ex.neqPN rfl rfl | exact Ex.eqlSN rfl rfl | exact Ex.neqSN rfl rfl | exact Ex.lenStr rfl)) rfl ?_ | refine rs_skip rfl rfl ?_)
        refine rs_rw (by rw [wrap64 (by omega) (by omega)]) ?_
        (first | refine rs_ex rfl (by (first | (constructor <;> first | rfl | exact RdC.rd | exact inferInstance) | exact Ex.pickF rfl rfl | exact Ex.eqlS rfl rfl | exact Ex.neqS rfl rfl | exact Ex.eqlPN rfl rfl | exact Ex.neqPN rfl rfl | exact Ex.eqlSN rfl rfl | exact Ex.neqSN rfl rfl | exact Ex.lenStr rfl)) rfl ?_ | refine rs_skip rfl rfl ?_)
        refine rs_end ?_
        refine qe_loopc ((k, x + d, (step z ⟨x, x + d⟩).1)) (⟨⟨hy.keeps _ _ _ hz hj, by rw [← hruns, runs, hj]⟩, by simp only; omega, by simp only; omega, by simp only; omega⟩) (by first | omega | (simp only; omega)) ⟨rfl, rfl, rfl, rfl, trivial⟩ (fun w h => At.top [_, _, _] [1, 2, 0] h)
    · have hn : n = 0 := by simp at h12; omega
      subst hn
      rw [stepsFrom] at hruns
      refine ct_exit ?_
      refine qe_then_exit ?_
      refine qe_loop_exit ?_
      refine qe_block_exit ?_
      refine qe_end ?_
      exact qe_heap (H' := stepsIt bt bf u v :: gc z none :: T) (fun w h => At.star.2 h) (ret0 rfl ⟨_, stepsIt bt bf u v, rfl, by rw [← hruns]; rfl⟩)
end Go.Rost
/- A state migrated. -/
namespace Go.Rost
open Go Go.RowKit Go.Proofs

theorem checkVer_known {x y : Int} (h : checkVer x y = 0) : known x = true ∧ known y = true := by
  unfold checkVer at h
  split at h
  · cases h
  · rename_i h1; simp at h1; exact h1
instance {a : Addr} {b : Bool} : CellsOf (errV a b) [errV a b] := ⟨by cases b <;> rfl⟩
theorem ones_err (a : Addr) (b : Bool) : ones [errV a b] = true := by cases b <;> rfl
def turnX (k : Stp) (s : Sta) : Option Sta := if k = ⟨1, 2⟩ then tn12 s else if k = ⟨2, 3⟩ then tn23 s else if k = ⟨3, 2⟩ then tn32 s else if k = ⟨2, 1⟩ then tn21 s else none
def migL : List Stp → Sta → Option Sta
  | [], s => some s
  | k :: l, s => match turnX k s with
    | some t => migL l t
    | none => none
def migV (s : Sta) (to : Int) : Sta × Int := if checkVer s.ver to ≠ 0 then (.zero, checkVer s.ver to) else if 1000 < s.data.size then (.zero, 132) else match migL (stepsL s.ver to) s with
  | some t => (t, 0)
  | none => (.zero, 132)
theorem turned_some {s t : Sta} {to : Int} {l : List UInt8} (h : turned s to l = some t) : t = ⟨to, s.cnt, toB l⟩ ∧ l.length ≤ 1000 := by
  unfold turned at h
  split at h
  · cases h; exact ⟨rfl, by assumption⟩
  · cases h
theorem turnX_some {k : Stp} {s t : Sta} (h : turnX k s = some t) : t.cnt = s.cnt ∧ t.ver = k.b ∧ t.data.size ≤ 1000 := by
  have fin : ∀ {to : Int} {l : List UInt8}, turned s to l = some t → k.b = to → t.cnt = s.cnt ∧ t.ver = k.b ∧ t.data.size ≤ 1000 := fun h e => by
    obtain ⟨rfl, hl⟩ := turned_some h
    exact ⟨rfl, e.symm, by rw [toB_size]; exact hl⟩
  unfold turnX at h
  split at h
  · rename_i hk; subst hk; exact fin h rfl
  · split at h
    · rename_i hk; subst hk; exact fin h rfl
    · split at h
      · rename_i hk; subst hk
        unfold tn32 at h
        split at h
        · exact fin h rfl
        · cases h
      · split at h
        · rename_i hk; subst hk
          unfold tn21 at h
          split at h
          · exact fin h rfl
          · cases h
        · cases h
def migStep (z : Sta × Bool) (k : Stp) : (Sta × Bool) × Option Code := match turnX k z.1 with
  | some t => ((t, false), none)
  | none => ((.zero, true), some (.exit 0))
theorem migStep_eq (z : Sta × Bool) (k : Stp) : (migStep z k).1 = (staV (turnX k z.1), (turnX k z.1).isNone) ∧ (migStep z k).2 = if (turnX k z.1).isNone then some (.exit 0) else none := by
  unfold migStep
  cases turnX k z.1 <;> exact ⟨rfl, rfl⟩
theorem runs_mig : ∀ (l : List Stp) (s : Sta) (e : Bool), (∀ t, migL l s = some t → ∃ e', runs migStep (s, e) l = ((t, e'), none) ∧ (l ≠ [] → e' = false) ∧ (l = [] → e' = e)) ∧ (migL l s = none → runs migStep (s, e) l = ((.zero, true), some (.exit 0)))
  | [], s, e => ⟨fun t h => by cases h; exact ⟨e, rfl, fun h => absurd rfl h, fun _ => rfl⟩, fun h => by cases h⟩
  | k :: l, s, e => by
    have ih := fun t => runs_mig l t false
    rw [runs]
    unfold migL migStep
    simp only
    cases hk : turnX k s with
    | none => exact ⟨fun t h => (by cases h), fun _ => rfl⟩
    | some u =>
      simp only
      refine ⟨fun t h => ?_, fun h => (ih u).2 h⟩
      obtain ⟨e', h1, h2, h3⟩ := (ih u).1 t h
      refine ⟨e', h1, fun _ => ?_, fun h => (by cases h)⟩
      by_cases hl : l = []
      · exact h3 hl
      · exact h2 hl
theorem runs_some {l : List Stp} {s t : Sta} (h : migL l s = some t) : runs migStep (s, false) l = ((t, false), none) := by
  obtain ⟨e', h1, h2, h3⟩ := (runs_mig l s false).1 t h
  rw [h1]
  by_cases hl : l = []
  · rw [h3 hl]
  · rw [h2 hl]
theorem runs_none {l : List Stp} {s : Sta} (h : migL l s = none) : runs migStep (s, false) l = ((.zero, true), some (.exit 0)) := (runs_mig l s false).2 h
/-- The steps that there are. -/
def Stp.Ok (k : Stp) : Prop := k = ⟨1, 2⟩ ∨ k = ⟨2, 3⟩ ∨ k = ⟨3, 2⟩ ∨ k = ⟨2, 1⟩
theorem turn_call (W0 : World) (a : Addr) (hg : RdBlk (At W0 []) 0 #[errF a]) (k : Stp) (hk : k.Ok) (s : Sta) (hs : s.data.size ≤ 1000) (hc : 0 ≤ s.cnt) :
    ∃ f, turnF k = some f ∧ ∀ H, CallV Tryd.prog W0 (fnV f) [s.v] H (TurnK a (turnX k s) H) := by
  rcases hk with rfl | rfl | rfl | rfl
  · exact ⟨51, rfl, fun H => CallV.of_call (first := []) (cap := []) (Turn12_c W0 a hg s H hs)⟩
  · exact ⟨53, rfl, fun H => CallV.of_call (first := []) (cap := []) (Turn23_c W0 a hg s H hs hc)⟩
  · exact ⟨55, rfl, fun H => CallV.of_call (first := []) (cap := []) (Turn32_c W0 a hg s H hs hc)⟩
  · exact ⟨57, rfl, fun H => CallV.of_call (first := []) (cap := []) (Turn21_c W0 a hg s H hs)⟩
theorem steps_ok {x y : Int} (h : checkVer x y = 0) : ∀ k ∈ stepsL x y, k.Ok := by
  have hx : known x = true := by
    unfold checkVer at h
    split at h
    · cases h
    · rename_i h1; simp at h1; exact h1.1
  have hy : known y = true := by
    unfold checkVer at h
    split at h
    · cases h
    · rename_i h1; simp at h1; exact h1.2
  rw [known_spec] at hx hy
  obtain rfl | rfl | rfl : x = 1 ∨ x = 2 ∨ x = 3 := by omega
  all_goals obtain rfl | rfl | rfl : y = 1 ∨ y = 2 ∨ y = 3 := by omega
  all_goals first | (simp [checkVer, known] at h; done) | (intro k hk; simp [stepsL, stepsFrom, dirOf] at hk; unfold Stp.Ok; simp_all; done) | (intro k hk; simp [stepsL, stepsFrom, dirOf] at hk; unfold Stp.Ok; rcases hk with rfl | rfl <;> simp)
theorem RightS_c (W0 : World) (s : Sta) (H : List Chunk) : Call Tryd.prog W0 17 [s.v] H (fun v H' => v = .bool (known s.ver && decide ((s.data.size : Int) ≤ 1000)) ∧ H' = H) := by
  refine call_enter Tryd.func17 rfl Tryd.ntmps17 rfl ?_

  refine ct_seq ?_
  refine ct_region ?_
  refine rs_op rfl rfl (opR_box rfl fun b1 => ?_)
  (first | refine rs_ex rfl (by (first | (constructor <;> first | rfl | exact RdC.rd | exact inferInstance) | exact Ex.pickF rfl rfl | exact Ex.eqlS rfl rfl | exact Ex.neqS rfl rfl | exact Ex.eqlPN rfl rfl | exact Ex.neqPN rfl rfl | exact Ex.eqlSN rfl rfl | exact Ex.neqSN rfl rfl | exact Ex.lenStr rfl)) rfl ?_ | refine rs_skip rfl rfl ?_)
  refine rs_end ?_
  refine qe_then ?_
  refine ct_seq ?_
  refine ct_region ?_
  iterate 2 (first | refine rs_ex rfl (by (first | (constructor <;> first | rfl | exact RdC.rd | exact inferInstance) | exact Ex.pickF rfl rfl | exact Ex.eqlS rfl rfl | exact Ex.neqS rfl rfl | exact Ex.eqlPN rfl rfl | exact Ex.neqPN rfl rfl | exact Ex.eqlSN rfl rfl | exact Ex.neqSN rfl rfl | exact Ex.lenStr rfl)) rfl ?_ | refine rs_skip rfl rfl ?_)
  refine rs_op rfl rfl (opR_fn rfl (Call.heap (fun w h => by (first | exact h | exact h.sw1 | exact h.sw2 | exact h.sw3 | exact h.sw4 | exact h.sw5 | exact h.sw6 | exact h.sw7 | exact h.sw8 | exact h.pull2 | exact h.pull3 | exact h.pull4 | exact h.pull5 | exact h.fit)) ((Known_c W0 s.ver _).mono ?_)))
  rintro v H' ⟨rfl, rfl⟩
  (first | refine rs_ex rfl (by (first | (constructor <;> first | rfl | exact RdC.rd | exact inferInstance) | exact Ex.pickF rfl rfl | exact Ex.eqlS rfl rfl | exact Ex.neqS rfl rfl | exact Ex.eqlPN rfl rfl | exact Ex.neqPN rfl rfl | exact Ex.eqlSN rfl rfl | exact Ex.neqSN rfl rfl | exact Ex.lenStr rfl)) rfl ?_ | refine rs_skip rfl rfl ?_)
  refine rs_split (fun h6 => ?_) (fun h6 => ?_)
  · iterate 6 (first | refine rs_ex rfl (by (first | (constructor <;> first | rfl | exact RdC.rd | exact inferInstance) | exact Ex.pickF rfl rfl | exact Ex.eqlS rfl rfl | exact Ex.neqS rfl rfl | exact Ex.eqlPN rfl rfl | exact Ex.neqPN rfl rfl | exact Ex.eqlSN rfl rfl | exact Ex.neqSN rfl rfl | exact Ex.lenStr rfl)) rfl ?_ | refine rs_skip rfl rfl ?_)
    refine rs_end ?_
    refine qe_then ?_
    refine ct_ret ?_
    exact qe_fit (ret1 rfl rfl ⟨by simp_all, rfl⟩)
  · iterate 6 (first | refine rs_ex rfl (by (first | (constructor <;> first | rfl | exact RdC.rd | exact inferInstance) | exact Ex.pickF rfl rfl | exact Ex.eqlS rfl rfl | exact Ex.neqS rfl rfl | exact Ex.eqlPN rfl rfl | exact Ex.neqPN rfl rfl | exact Ex.eqlSN rfl rfl | exact Ex.neqSN rfl rfl | exact Ex.lenStr rfl)) rfl ?_ | refine rs_skip rfl rfl ?_)
    refine rs_end ?_
    refine qe_then ?_
    refine ct_ret ?_
    exact qe_fit (ret1 rfl rfl ⟨by simp_all, rfl⟩)
theorem Migrate_in (W0 : World) (a : Addr) (hg : RdBlk (At W0 []) 0 #[errF a]) (s : Sta) (to : Int) (hc : 0 ≤ s.cnt) :
    Call Tryd.prog W0 15 [s.v, .int .i64 to] [] (fun v H' => v = .tuple #[(migV s to).1.v, .int .i64 (migV s to).2] ∧ H' = []) := by
  have hgB : RdC (At W0 []) 0 #[errF a] := ⟨hg⟩
  refine call_enterM Tryd.func15 rfl Tryd.ntmps15 rfl ?_

  refine ct_seq ?_
  refine ct_region ?_
  refine rs_op rfl rfl (opR_box rfl fun b2 => ?_)
  refine rs_op rfl rfl (opR_alloc fun b4 => ?_)
  (first | refine rs_ex rfl (by (first | (constructor <;> first | rfl | exact RdC.rd | exact inferInstance) | exact Ex.pickF rfl rfl | exact Ex.eqlS rfl rfl | exact Ex.neqS rfl rfl | exact Ex.eqlPN rfl rfl | exact Ex.neqPN rfl rfl | exact Ex.eqlSN rfl rfl | exact Ex.neqSN rfl rfl | exact Ex.lenStr rfl)) rfl ?_ | refine rs_skip rfl rfl ?_)
  refine rs_end ?_
  refine qe_then ?_
  refine ct_scope ?_
  refine ct_seq ?_
  refine ct_seq ?_
  refine ct_region ?_
  iterate 3 (first | refine rs_ex rfl (by (first | (constructor <;> first | rfl | exact RdC.rd | exact inferInstance) | exact Ex.pickF rfl rfl | exact Ex.eqlS rfl rfl | exact Ex.neqS rfl rfl | exact Ex.eqlPN rfl rfl | exact Ex.neqPN rfl rfl | exact Ex.eqlSN rfl rfl | exact Ex.neqSN rfl rfl | exact Ex.lenStr rfl)) rfl ?_ | refine rs_skip rfl rfl ?_)
  refine rs_op rfl rfl (opR_fn rfl (Call.heap (fun w h => by (first | exact h | exact h.sw1 | exact h.sw2 | exact h.sw3 | exact h.sw4 | exact h.sw5 | exact h.sw6 | exact h.sw7 | exact h.sw8 | exact h.pull2 | exact h.pull3 | exact h.pull4 | exact h.pull5 | exact h.fit)) ((Check_ver W0 s.ver to _).mono ?_)))
  rintro v H' ⟨rfl, rfl⟩
  (first | refine rs_ex rfl (by (first | (constructor <;> first | rfl | exact RdC.rd | exact inferInstance) | exact Ex.pickF rfl rfl | exact Ex.eqlS rfl rfl | exact Ex.neqS rfl rfl | exact Ex.eqlPN rfl rfl | exact Ex.neqPN rfl rfl | exact Ex.eqlSN rfl rfl | exact Ex.neqSN rfl rfl | exact Ex.lenStr rfl)) rfl ?_ | refine rs_skip rfl rfl ?_)
  refine rs_end ?_
  refine qe_then ?_
  refine ct_seq ?_
  refine ct_region ?_
  iterate 2 (first | refine rs_ex rfl (by (first | (constructor <;> first | rfl | exact RdC.rd | exact inferInstance) | exact Ex.pickF rfl rfl | exact Ex.eqlS rfl rfl | exact Ex.neqS rfl rfl | exact Ex.eqlPN rfl rfl | exact Ex.neqPN rfl rfl | exact Ex.eqlSN rfl rfl | exact Ex.neqSN rfl rfl | exact Ex.lenStr rfl)) rfl ?_ | refine rs_skip rfl rfl ?_)
  refine rs_end ?_
  refine qe_then ?_
  refine ct_cond rfl (fun h15 => ?_) (fun h15 => ?_)
  · have hv : migV s to = (.zero, checkVer s.ver to) := by rw [migV, if_pos]; simpa using h15
    refine ct_seq ?_
    refine ct_region ?_
    refine rs_ex rfl (ex_build rfl) rfl ?_
    (first | refine rs_ex rfl (by (first | (constructor <;> first | rfl | exact RdC.rd | exact inferInstance) | exact Ex.pickF rfl rfl | exact Ex.eqlS rfl rfl | exact Ex.neqS rfl rfl | exact Ex.eqlPN rfl rfl | exact Ex.neqPN rfl rfl | exact Ex.eqlSN rfl rfl | exact Ex.neqSN rfl rfl | exact Ex.lenStr rfl)) rfl ?_ | refine rs_skip rfl rfl ?_)
    refine rs_opN rfl (opR_store rfl rfl rfl rfl ?_)
    (first | refine rs_ex rfl (by (first | (constructor <;> first | rfl | exact RdC.rd | exact inferInstance) | exact Ex.pickF rfl rfl | exact Ex.eqlS rfl rfl | exact Ex.neqS rfl rfl | exact Ex.eqlPN rfl rfl | exact Ex.neqPN rfl rfl | exact Ex.eqlSN rfl rfl | exact Ex.neqSN rfl rfl | exact Ex.lenStr rfl)) rfl ?_ | refine rs_skip rfl rfl ?_)
    refine rs_end ?_
    refine qe_then ?_
    refine ct_ret ?_
    exact retM (retS3 rfl rfl rfl RdC.rd [] (fun w h => h.drop.drop) ⟨by rw [hv]; rfl, rfl⟩)
  · have hk : checkVer s.ver to = 0 := by simpa using h15
    refine ct_skip ?_
    refine qe_then ?_
    refine ct_seq ?_
    refine ct_seq ?_
    refine ct_region ?_
    (first | refine rs_ex rfl (by (first | (constructor <;> first | rfl | exact RdC.rd | exact inferInstance) | exact Ex.pickF rfl rfl | exact Ex.eqlS rfl rfl | exact Ex.neqS rfl rfl | exact Ex.eqlPN rfl rfl | exact Ex.neqPN rfl rfl | exact Ex.eqlSN rfl rfl | exact Ex.neqSN rfl rfl | exact Ex.lenStr rfl)) rfl ?_ | refine rs_skip rfl rfl ?_)
    refine rs_op rfl rfl (opR_fn rfl (Call.heap (fun w h => by (first | exact h | exact h.sw1 | exact h.sw2 | exact h.sw3 | exact h.sw4 | exact h.sw5 | exact h.sw6 | exact h.sw7 | exact h.sw8 | exact h.pull2 | exact h.pull3 | exact h.pull4 | exact h.pull5 | exact h.fit)) ((RightS_c W0 s _).mono ?_)))
    rintro v H' ⟨rfl, rfl⟩
    (first | refine rs_ex rfl (by (first | (constructor <;> first | rfl | exact RdC.rd | exact inferInstance) | exact Ex.pickF rfl rfl | exact Ex.eqlS rfl rfl | exact Ex.neqS rfl rfl | exact Ex.eqlPN rfl rfl | exact Ex.neqPN rfl rfl | exact Ex.eqlSN rfl rfl | exact Ex.neqSN rfl rfl | exact Ex.lenStr rfl)) rfl ?_ | refine rs_skip rfl rfl ?_)
    refine rs_end ?_
    refine qe_then ?_
    refine ct_cond rfl (fun h20 => ?_) (fun h20 => ?_)
    · have hkn := (checkVer_known hk).1
      have hv : migV s to = (.zero, 132) := by rw [migV, if_neg (by simp [hk]), if_pos]; simp [hkn] at h20; omega
      refine ct_seq ?_
      refine ct_region ?_
      refine rs_ex rfl (ex_build rfl) rfl ?_
      refine rs_opN rfl (opR_store rfl rfl rfl rfl ?_)
      (first | refine rs_ex rfl (by (first | (constructor <;> first | rfl | exact RdC.rd | exact inferInstance) | exact Ex.pickF rfl rfl | exact Ex.eqlS rfl rfl | exact Ex.neqS rfl rfl | exact Ex.eqlPN rfl rfl | exact Ex.neqPN rfl rfl | exact Ex.eqlSN rfl rfl | exact Ex.neqSN rfl rfl | exact Ex.lenStr rfl)) rfl ?_ | refine rs_skip rfl rfl ?_)
      refine rs_end ?_
      refine qe_then ?_
      refine ct_ret ?_
      exact retM (retS3 rfl rfl rfl RdC.rd [] (fun w h => h.drop.drop) ⟨by rw [hv]; rfl, rfl⟩)
    · have hkn := checkVer_known hk
      have hsz : s.data.size ≤ 1000 := by simp [hkn.1] at h20; omega
      have hv : migV s to = match migL (stepsL s.ver to) s with | some t => (t, 0) | none => (.zero, 132) := by rw [migV, if_neg (by simp [hk]), if_neg (by omega)]
      have hb1 := known_spec.1 hkn.1
      have hb2 := known_spec.1 hkn.2
      refine ct_skip ?_
      refine qe_then ?_
      refine ct_seq ?_
      refine ct_region ?_
      refine rs_op rfl rfl (opR_fn rfl (Call.heap (fun w h => by (first | exact h | exact h.sw1 | exact h.sw2 | exact h.sw3 | exact h.sw4 | exact h.sw5 | exact h.sw6 | exact h.sw7 | exact h.sw8 | exact h.pull2 | exact h.pull3 | exact h.pull4 | exact h.pull5 | exact h.fit)) ((Turns_c W0 _).mono ?_)))
      rintro v H' ⟨r, m, rfl, hm, rfl⟩
      refine rs_op rfl rfl (opR_alloc fun b7 => ?_)
      refine rs_opN rfl (opR_store rfl rfl rfl rfl ?_)
      refine rs_end ?_
      refine qe_then ?_
      refine ct_seq ?_
      refine ct_region ?_
      refine rs_op rfl rfl (opR_alloc fun b8 => ?_)
      refine rs_end ?_
      refine qe_then ?_
      refine ct_seq ?_
      refine ct_label ?_
      refine qe_then ?_
      refine ct_seq ?_
      refine ct_seq ?_
      refine ct_region ?_
      iterate 3 (first | refine rs_ex rfl (by (first | (constructor <;> first | rfl | exact RdC.rd | exact inferInstance) | exact Ex.pickF rfl rfl | exact Ex.eqlS rfl rfl | exact Ex.neqS rfl rfl | exact Ex.eqlPN rfl rfl | exact Ex.neqPN rfl rfl | exact Ex.eqlSN rfl rfl | exact Ex.neqSN rfl rfl | exact Ex.lenStr rfl)) rfl ?_ | refine rs_skip rfl rfl ?_)
      refine rs_op rfl rfl (opR_fn rfl (Call.heap (fun w h => by (first | exact h | exact h.sw1 | exact h.sw2 | exact h.sw3 | exact h.sw4 | exact h.sw5 | exact h.sw6 | exact h.sw7 | exact h.sw8 | exact h.pull2 | exact h.pull3 | exact h.pull4 | exact h.pull5 | exact h.fit)) ((Steps_c W0 s.ver to _).mono ?_)))
      rintro v H' ⟨bt, bf, rfl, rfl⟩
      refine rs_end ?_
      refine qe_then ?_
      refine ct_block ?_
      refine ct_rangeFunc (ζ := Sta × Bool) (f := 59) (first := []) (cap := [.pointer (some ⟨bt, 0, none⟩), .pointer (some ⟨bf, 0, none⟩)]) encS (stepsIt bt bf s.ver to) (fun z => [Blk b2 (.cells #[.int .i64 z.1.ver, .int .u32 z.1.cnt, .string z.1.data] 24 (0, 0)), Blk b8 (.cells #[errV a z.2] 66 (0, 0)), Blk b7 (.cells #[.map (some r)] 63 (0, 0)), MapC Stp.v fnV r m, Blk b4 (.cells #[.int .i64 0, .int .u32 0, .string ⟨#[]⟩] 24 (0, 0))]) migStep (fun z xs => (z.1.data.size ≤ 1000 ∧ 0 ≤ z.1.cnt) ∧ ∀ x ∈ xs, x.Ok) (fun xs => xs = stepsL s.ver to) ((s, false)) rfl (fun _ => rfl) rfl (fun w h => At.star.2 (show At W0 ([_, _] ++ [Blk b2 (.cells #[.int .i64 s.ver, .int .u32 s.cnt, .string s.data] 24 (0, 0)), Blk b8 (.cells #[errV a false] 66 (0, 0)), Blk b7 (.cells #[.map (some r)] 63 (0, 0)), MapC Stp.v fnV r m, Blk b4 (.cells #[.int .i64 0, .int .u32 0, .string ⟨#[]⟩] 24 (0, 0))]) w from At.top [_, _, _, _, _, _, _] [0, 1, 6, 2, 3, 4, 5] h)) (fun y gc T hy => Steps1_c W0 y gc _ _ (s, false) bt bf s.ver to T hy ⟨⟨hsz, hc⟩, steps_ok hk⟩ (by omega) (by omega)) ?_ ?_ ?_
      · rintro l' z x xs ⟨⟨hz, hzc⟩, hx0⟩ T2
        have hxo : x.Ok := hx0 x (by simp)
        obtain ⟨f, hf, hcall⟩ := turn_call W0 a hg x hxo z.1 hz hzc
        have hst := migStep_eq z x
        refine ct_sub (τ := [(27, _), (2, _), (7, _), (8, _)]) ⟨rfl, rfl, rfl, rfl, trivial⟩ ?_
        refine ct_app ?_
        refine ct_region ?_
        refine rs_op rfl rfl (opR_alloc fun b9 => ?_)
        refine rs_opN rfl (opR_store rfl rfl rfl rfl ?_)
        refine rs_end ?_
        refine qe_assignA (fun T' => ?_)
        refine ct_app ?_
        refine ct_block ?_
        refine ct_seq ?_
        refine ct_drawP [0, 3, 4] (by kernel_rfl) ?_
        refine ra_take 0 rfl (by kernel_rfl) (by kernel_rfl) rfl (by (first | (constructor <;> first | rfl | exact RdC.rd | exact inferInstance) | exact Ex.pickF rfl rfl | exact Ex.eqlS rfl rfl | exact Ex.neqS rfl rfl | exact Ex.eqlPN rfl rfl | exact Ex.neqPN rfl rfl | exact Ex.eqlSN rfl rfl | exact Ex.neqSN rfl rfl | exact Ex.lenStr rfl)) rfl (fun _ h => h.fit) ?_
        refine ra_take 1 rfl (by kernel_rfl) (by kernel_rfl) rfl (by (first | (constructor <;> first | rfl | exact RdC.rd | exact inferInstance) | exact Ex.pickF rfl rfl | exact Ex.eqlS rfl rfl | exact Ex.neqS rfl rfl | exact Ex.eqlPN rfl rfl | exact Ex.neqPN rfl rfl | exact Ex.eqlSN rfl rfl | exact Ex.neqSN rfl rfl | exact Ex.lenStr rfl)) rfl (fun _ h => h.fit) ?_
        refine ra_take 2 rfl (by kernel_rfl) (by kernel_rfl) rfl (ex_lookup (ek := Stp.v) (ev := fnV) (m := m) rfl x rfl inferInstance) rfl (fun _ h => h.fit) ?_
        refine ra_rw (by rw [hm, hf]) ?_
        refine ra_all (rs := [3]) (by kernel_rfl) rfl ?_
        refine each_op rfl rfl rfl (Ex.opR (by (first | (constructor <;> first | rfl | exact RdC.rd | exact inferInstance) | exact Ex.pickF rfl rfl | exact Ex.eqlS rfl rfl | exact Ex.neqS rfl rfl | exact Ex.eqlPN rfl rfl | exact Ex.neqPN rfl rfl | exact Ex.eqlSN rfl rfl | exact Ex.neqSN rfl rfl | exact Ex.lenStr rfl)) ?_) each_nil
        refine ⟨.inr (fun w h => h.fit), ?_⟩
        refine ra_all (rs := [4]) (by kernel_rfl) rfl ?_
        refine each_op rfl rfl rfl (opR_callV rfl rfl ((hcall _).mono (TurnK.elim ?_))) each_nil
        refine ⟨.inr (fun w h => h.fit), ?_⟩
        refine ra_take 5 rfl (by kernel_rfl) (by kernel_rfl) rfl (by (first | (constructor <;> first | rfl | exact RdC.rd | exact inferInstance) | exact Ex.pickF rfl rfl | exact Ex.eqlS rfl rfl | exact Ex.neqS rfl rfl | exact Ex.eqlPN rfl rfl | exact Ex.neqPN rfl rfl | exact Ex.eqlSN rfl rfl | exact Ex.neqSN rfl rfl | exact Ex.lenStr rfl)) rfl (fun _ h => h.fit) ?_
        refine ra_take 6 rfl (by kernel_rfl) (by kernel_rfl) rfl (by (first | (constructor <;> first | rfl | exact RdC.rd | exact inferInstance) | exact Ex.pickF rfl rfl | exact Ex.eqlS rfl rfl | exact Ex.neqS rfl rfl | exact Ex.eqlPN rfl rfl | exact Ex.neqPN rfl rfl | exact Ex.eqlSN rfl rfl | exact Ex.neqSN rfl rfl | exact Ex.lenStr rfl)) rfl (fun _ h => h.fit) ?_
        refine ra_take 7 rfl (by kernel_rfl) (by kernel_rfl) rfl (by (first | (constructor <;> first | rfl | exact RdC.rd | exact inferInstance) | exact Ex.pickF rfl rfl | exact Ex.eqlS rfl rfl | exact Ex.neqS rfl rfl | exact Ex.eqlPN rfl rfl | exact Ex.neqPN rfl rfl | exact Ex.eqlSN rfl rfl | exact Ex.neqSN rfl rfl | exact Ex.lenStr rfl)) rfl (fun _ h => h.fit) ?_
        refine ra_all (rs := [8]) (by kernel_rfl) rfl ?_
        refine each_opN rfl rfl (opR_store rfl rfl rfl rfl ?_) each_nil
        refine ⟨.inr (fun w h => h.fit), ?_⟩
        refine ra_all (rs := [9]) (by kernel_rfl) rfl ?_
        refine each_opN rfl rfl (opR_store rfl rfl rfl (ones_err _ _) ?_) each_nil
        refine ⟨.inl (by kernel_rfl), ?_⟩
        refine ra_end (by kernel_rfl) ?_
        refine qe_then ?_
        refine ct_seq ?_
        refine ct_region ?_
        (first | refine rs_ex rfl (by (first | (constructor <;> first | rfl | exact RdC.rd | exact inferInstance) | exact Ex.pickF rfl rfl | exact Ex.eqlS rfl rfl | exact Ex.neqS rfl rfl | exact Ex.eqlPN rfl rfl | exact Ex.neqPN rfl rfl | exact Ex.eqlSN rfl rfl | exact Ex.neqSN rfl rfl | exact Ex.lenStr rfl)) rfl ?_ | refine rs_skip rfl rfl ?_)
        refine rs_ex rfl (ex_errNil rfl) rfl ?_
        refine rs_end ?_
        refine qe_then ?_
        refine ct_cond rfl (fun h37 => ?_) (fun h37 => ?_)
        · refine ct_exit ?_
          refine qe_block_exit_ne rfl ?_
          have e1 : (turnX x z.1).isNone = true := h37
          refine qe_heap (fun w h => h.drop) (qe_round_exit _ (fun w h => h) ⟨by rw [hst.2, e1]; rfl, by rw [hst.1]⟩)
        · refine ct_skip ?_
          refine qe_block 1 ?_
          have e1 : (turnX x z.1).isNone = false := h37
          exact qe_heap (fun w h => h.drop) (qe_roundA ⟨by rw [hst.2, e1]; rfl, by rw [hst.1]⟩)
      · rintro z x xs ⟨⟨hz, hzc⟩, hx0⟩ hn
        have hst := migStep_eq z x
        rw [hst.2] at hn
        cases ht : turnX x z.1 with
        | none => rw [ht] at hn; cases hn
        | some t =>
          have h1 := turnX_some ht
          rw [hst.1, ht]
          exact ⟨⟨h1.2.2, by show 0 ≤ t.cnt; rw [h1.1]; exact hzc⟩, fun y hy => hx0 y (by simp [hy])⟩
      · rintro xs db rfl
        rcases hmg : migL (stepsL s.ver to) s with _ | t
        · rw [runs_none hmg]
          refine ct_heap (H' := Blk db (.deferred (some [])) :: [Blk b2 (.cells #[.int .i64 0, .int .u32 0, .string ⟨#[]⟩] 24 (0, 0)), Blk b8 (.cells #[errV a true] 66 (0, 0)), Blk b7 (.cells #[.map (some r)] 63 (0, 0)), MapC Stp.v fnV r m, Blk b4 (.cells #[.int .i64 0, .int .u32 0, .string ⟨#[]⟩] 24 (0, 0))]) (fun w h => h) ?_
          refine ct_exit ?_
          refine qe_block_exit ?_
          refine qe_then ?_
          refine ct_seq ?_
          refine ct_seq ?_
          refine ct_region ?_
          iterate 2 (first | refine rs_ex rfl (by (first | (constructor <;> first | rfl | exact RdC.rd | exact inferInstance) | exact Ex.pickF rfl rfl | exact Ex.eqlS rfl rfl | exact Ex.neqS rfl rfl | exact Ex.eqlPN rfl rfl | exact Ex.neqPN rfl rfl | exact Ex.eqlSN rfl rfl | exact Ex.neqSN rfl rfl | exact Ex.lenStr rfl)) rfl ?_ | refine rs_skip rfl rfl ?_)
          refine rs_op rfl rfl (opR_fn rfl (Call.heap (fun w h => by (first | exact h | exact h.sw1 | exact h.sw2 | exact h.sw3 | exact h.sw4 | exact h.sw5 | exact h.sw6 | exact h.sw7 | exact h.sw8 | exact h.pull2 | exact h.pull3 | exact h.pull4 | exact h.pull5 | exact h.fit)) ((Is_c W0 a _ _).mono ?_)))
          rintro v H' ⟨rfl, rfl⟩
          refine rs_end ?_
          refine qe_then ?_
          refine ct_cond rfl (fun h40 => ?_) (fun h40 => ?_)
          · refine ct_seq ?_
            refine ct_region ?_
            refine rs_ex rfl (ex_build rfl) rfl ?_
            refine rs_opN rfl (opR_store rfl rfl rfl rfl ?_)
            (first | refine rs_ex rfl (by (first | (constructor <;> first | rfl | exact RdC.rd | exact inferInstance) | exact Ex.pickF rfl rfl | exact Ex.eqlS rfl rfl | exact Ex.neqS rfl rfl | exact Ex.eqlPN rfl rfl | exact Ex.neqPN rfl rfl | exact Ex.eqlSN rfl rfl | exact Ex.neqSN rfl rfl | exact Ex.lenStr rfl)) rfl ?_ | refine rs_skip rfl rfl ?_)
            refine rs_end ?_
            refine qe_then ?_
            refine ct_ret ?_
            exact retM_mark (retM (retS3 rfl rfl rfl RdC.rd [] (fun w h => h.fit) (by first | exact absurd h40 (by decide) | exact ⟨by rw [hv, hmg]; rfl, rfl⟩)))
          · refine ct_skip ?_
            refine qe_then ?_
            refine ct_seq ?_
            refine ct_region ?_
            (first | refine rs_ex rfl (by (first | (constructor <;> first | rfl | exact RdC.rd | exact inferInstance) | exact Ex.pickF rfl rfl | exact Ex.eqlS rfl rfl | exact Ex.neqS rfl rfl | exact Ex.eqlPN rfl rfl | exact Ex.neqPN rfl rfl | exact Ex.eqlSN rfl rfl | exact Ex.neqSN rfl rfl | exact Ex.lenStr rfl)) rfl ?_ | refine rs_skip rfl rfl ?_)
            refine rs_opN rfl (opR_store rfl rfl rfl rfl ?_)
            (first | refine rs_ex rfl (by (first | (constructor <;> first | rfl | exact RdC.rd | exact inferInstance) | exact Ex.pickF rfl rfl | exact Ex.eqlS rfl rfl | exact Ex.neqS rfl rfl | exact Ex.eqlPN rfl rfl | exact Ex.neqPN rfl rfl | exact Ex.eqlSN rfl rfl | exact Ex.neqSN rfl rfl | exact Ex.lenStr rfl)) rfl ?_ | refine rs_skip rfl rfl ?_)
            refine rs_end ?_
            refine qe_then ?_
            refine ct_ret ?_
            exact retM_mark (retM (retS3 rfl rfl rfl RdC.rd [] (fun w h => h.fit) (by first | exact absurd h40 (by decide) | exact ⟨by rw [hv, hmg]; rfl, rfl⟩)))
        · rw [runs_some hmg]
          refine qe_heap (H' := Blk db (.deferred (some [])) :: [Blk b2 (.cells #[.int .i64 t.ver, .int .u32 t.cnt, .string t.data] 24 (0, 0)), Blk b8 (.cells #[errV a false] 66 (0, 0)), Blk b7 (.cells #[.map (some r)] 63 (0, 0)), MapC Stp.v fnV r m, Blk b4 (.cells #[.int .i64 0, .int .u32 0, .string ⟨#[]⟩] 24 (0, 0))]) (fun w h => h) ?_
          refine qe_block 0 ?_
          refine qe_then ?_
          refine ct_seq ?_
          refine ct_seq ?_
          refine ct_region ?_
          iterate 2 (first | refine rs_ex rfl (by (first | (constructor <;> first | rfl | exact RdC.rd | exact inferInstance) | exact Ex.pickF rfl rfl | exact Ex.eqlS rfl rfl | exact Ex.neqS rfl rfl | exact Ex.eqlPN rfl rfl | exact Ex.neqPN rfl rfl | exact Ex.eqlSN rfl rfl | exact Ex.neqSN rfl rfl | exact Ex.lenStr rfl)) rfl ?_ | refine rs_skip rfl rfl ?_)
          refine rs_op rfl rfl (opR_fn rfl (Call.heap (fun w h => by (first | exact h | exact h.sw1 | exact h.sw2 | exact h.sw3 | exact h.sw4 | exact h.sw5 | exact h.sw6 | exact h.sw7 | exact h.sw8 | exact h.pull2 | exact h.pull3 | exact h.pull4 | exact h.pull5 | exact h.fit)) ((Is_c W0 a _ _).mono ?_)))
          rintro v H' ⟨rfl, rfl⟩
          refine rs_end ?_
          refine qe_then ?_
          refine ct_cond rfl (fun h40 => ?_) (fun h40 => ?_)
          · refine ct_seq ?_
            refine ct_region ?_
            refine rs_ex rfl (ex_build rfl) rfl ?_
            refine rs_opN rfl (opR_store rfl rfl rfl rfl ?_)
            (first | refine rs_ex rfl (by (first | (constructor <;> first | rfl | exact RdC.rd | exact inferInstance) | exact Ex.pickF rfl rfl | exact Ex.eqlS rfl rfl | exact Ex.neqS rfl rfl | exact Ex.eqlPN rfl rfl | exact Ex.neqPN rfl rfl | exact Ex.eqlSN rfl rfl | exact Ex.neqSN rfl rfl | exact Ex.lenStr rfl)) rfl ?_ | refine rs_skip rfl rfl ?_)
            refine rs_end ?_
            refine qe_then ?_
            refine ct_ret ?_
            exact retM_mark (retM (retS3 rfl rfl rfl RdC.rd [] (fun w h => h.fit) (by first | exact absurd h40 (by decide) | exact ⟨by rw [hv, hmg]; rfl, rfl⟩)))
          · refine ct_skip ?_
            refine qe_then ?_
            refine ct_seq ?_
            refine ct_region ?_
            (first | refine rs_ex rfl (by (first | (constructor <;> first | rfl | exact RdC.rd | exact inferInstance) | exact Ex.pickF rfl rfl | exact Ex.eqlS rfl rfl | exact Ex.neqS rfl rfl | exact Ex.eqlPN rfl rfl | exact Ex.neqPN rfl rfl | exact Ex.eqlSN rfl rfl | exact Ex.neqSN rfl rfl | exact Ex.lenStr rfl)) rfl ?_ | refine rs_skip rfl rfl ?_)
            refine rs_opN rfl (opR_store rfl rfl rfl rfl ?_)
            (first | refine rs_ex rfl (by (first | (constructor <;> first | rfl | exact RdC.rd | exact inferInstance) | exact Ex.pickF rfl rfl | exact Ex.eqlS rfl rfl | exact Ex.neqS rfl rfl | exact Ex.eqlPN rfl rfl | exact Ex.neqPN rfl rfl | exact Ex.eqlSN rfl rfl | exact Ex.neqSN rfl rfl | exact Ex.lenStr rfl)) rfl ?_ | refine rs_skip rfl rfl ?_)
            refine rs_end ?_
            refine qe_then ?_
            refine ct_ret ?_
            exact retM_mark (retM (retS3 rfl rfl rfl RdC.rd [] (fun w h => h.fit) (by first | exact absurd h40 (by decide) | exact ⟨by rw [hv, hmg]; rfl, rfl⟩)))
end Go.Rost
/- Migrating, as the program and as the reference do it. -/
namespace Go.Rost
open Go Go.RowKit Go.Proofs

def stE (r : Sta × Int) : Value := .tuple #[r.1.v, .int .i64 r.2]
theorem Migrate_c (W0 : World) (a : Addr) (hg : RdBlk (At W0 []) 0 #[errF a]) (s : Sta) (to : Int) (H : List Chunk) (hc : 0 ≤ s.cnt) :
    Call Tryd.prog W0 15 [s.v, .int .i64 to] H (fun v H' => v = .tuple #[(migV s to).1.v, .int .i64 (migV s to).2] ∧ H' = H) :=
  (Call.fresh fun W1 hw => Migrate_in W1 a (RdBlk.base (fun w h => hg w h.bare) hw) s to hc).mono fun _ _ ⟨⟨_, hv, _⟩, e⟩ => ⟨hv, e⟩
def beginV (v : Int) : Sta × Int := if v = 1 then (⟨1, 0, ⟨#[]⟩⟩, 0) else migV ⟨1, 0, ⟨#[]⟩⟩ v
theorem Begin_c (W0 : World) (a : Addr) (hg : RdBlk (At W0 []) 0 #[errF a]) (x : Int) (H : List Chunk) :
    Call Tryd.prog W0 19 [.int .i64 x] H (fun v H' => v = .tuple #[(beginV x).1.v, .int .i64 (beginV x).2] ∧ H' = H) := by
  refine call_enter Tryd.func19 rfl Tryd.ntmps19 rfl ?_

  refine ct_seq ?_
  refine ct_region ?_
  refine rs_op rfl rfl (opR_alloc fun b2 => ?_)
  (first | refine rs_ex rfl (by (first | (constructor <;> first | rfl | exact RdC.rd | exact inferInstance) | exact Ex.pickF rfl rfl | exact Ex.eqlS rfl rfl | exact Ex.neqS rfl rfl | exact Ex.eqlPN rfl rfl | exact Ex.neqPN rfl rfl | exact Ex.eqlSN rfl rfl | exact Ex.neqSN rfl rfl | exact Ex.lenStr rfl)) rfl ?_ | refine rs_skip rfl rfl ?_)
  refine rs_end ?_
  refine qe_then ?_
  refine ct_seq ?_
  refine ct_region ?_
  refine rs_ex rfl (ex_build rfl) rfl ?_
  refine rs_op rfl rfl (opR_alloc fun b4 => ?_)
  refine rs_opN rfl (opR_store rfl rfl rfl rfl ?_)
  refine rs_end ?_
  refine qe_then ?_
  refine ct_seq ?_
  refine ct_seq ?_
  refine ct_region ?_
  iterate 4 (first | refine rs_ex rfl (by (first | (constructor <;> first | rfl | exact RdC.rd | exact inferInstance) | exact Ex.pickF rfl rfl | exact Ex.eqlS rfl rfl | exact Ex.neqS rfl rfl | exact Ex.eqlPN rfl rfl | exact Ex.neqPN rfl rfl | exact Ex.eqlSN rfl rfl | exact Ex.neqSN rfl rfl | exact Ex.lenStr rfl)) rfl ?_ | refine rs_skip rfl rfl ?_)
  refine rs_end ?_
  refine qe_then ?_
  refine ct_cond rfl (fun h9 => ?_) (fun h9 => ?_)
  · have hx : x = 1 := by simpa using h9
    refine ct_seq ?_
    refine ct_region ?_
    (first | refine rs_ex rfl (by (first | (constructor <;> first | rfl | exact RdC.rd | exact inferInstance) | exact Ex.pickF rfl rfl | exact Ex.eqlS rfl rfl | exact Ex.neqS rfl rfl | exact Ex.eqlPN rfl rfl | exact Ex.neqPN rfl rfl | exact Ex.eqlSN rfl rfl | exact Ex.neqSN rfl rfl | exact Ex.lenStr rfl)) rfl ?_ | refine rs_skip rfl rfl ?_)
    refine rs_opN rfl (opR_store rfl rfl rfl rfl ?_)
    (first | refine rs_ex rfl (by (first | (constructor <;> first | rfl | exact RdC.rd | exact inferInstance) | exact Ex.pickF rfl rfl | exact Ex.eqlS rfl rfl | exact Ex.neqS rfl rfl | exact Ex.eqlPN rfl rfl | exact Ex.neqPN rfl rfl | exact Ex.eqlSN rfl rfl | exact Ex.neqSN rfl rfl | exact Ex.lenStr rfl)) rfl ?_ | refine rs_skip rfl rfl ?_)
    refine rs_end ?_
    refine qe_then ?_
    refine ct_ret ?_
    exact retS3 rfl rfl rfl RdC.rd H (fun w h => h.fit) ⟨by rw [beginV, if_pos hx]; rfl, rfl⟩
  · have hx : x ≠ 1 := by simpa using h9
    have hb : beginV x = migV ⟨1, 0, ⟨#[]⟩⟩ x := if_neg hx
    refine ct_skip ?_
    refine qe_then ?_
    refine ct_seq ?_
    refine ct_region ?_
    iterate 2 (first | refine rs_ex rfl (by (first | (constructor <;> first | rfl | exact RdC.rd | exact inferInstance) | exact Ex.pickF rfl rfl | exact Ex.eqlS rfl rfl | exact Ex.neqS rfl rfl | exact Ex.eqlPN rfl rfl | exact Ex.neqPN rfl rfl | exact Ex.eqlSN rfl rfl | exact Ex.neqSN rfl rfl | exact Ex.lenStr rfl)) rfl ?_ | refine rs_skip rfl rfl ?_)
    refine rs_op rfl rfl (opR_fn rfl (Call.heap (fun w h => by (first | exact h | exact h.sw1 | exact h.sw2 | exact h.sw3 | exact h.sw4 | exact h.sw5 | exact h.sw6 | exact h.sw7 | exact h.sw8 | exact h.pull2 | exact h.pull3 | exact h.pull4 | exact h.pull5 | exact h.fit)) ((Migrate_c W0 a hg ⟨1, 0, ⟨#[]⟩⟩ x _ (by decide)).mono ?_)))
    rintro v H' ⟨rfl, rfl⟩
    rw [← hb]
    iterate 2 (first | refine rs_ex rfl (by (first | (constructor <;> first | rfl | exact RdC.rd | exact inferInstance) | exact Ex.pickF rfl rfl | exact Ex.eqlS rfl rfl | exact Ex.neqS rfl rfl | exact Ex.eqlPN rfl rfl | exact Ex.neqPN rfl rfl | exact Ex.eqlSN rfl rfl | exact Ex.neqSN rfl rfl | exact Ex.lenStr rfl)) rfl ?_ | refine rs_skip rfl rfl ?_)
    refine rs_opN rfl (opR_store rfl rfl rfl rfl ?_)
    (first | refine rs_ex rfl (by (first | (constructor <;> first | rfl | exact RdC.rd | exact inferInstance) | exact Ex.pickF rfl rfl | exact Ex.eqlS rfl rfl | exact Ex.neqS rfl rfl | exact Ex.eqlPN rfl rfl | exact Ex.neqPN rfl rfl | exact Ex.eqlSN rfl rfl | exact Ex.neqSN rfl rfl | exact Ex.lenStr rfl)) rfl ?_ | refine rs_skip rfl rfl ?_)
    refine rs_end ?_
    refine qe_then ?_
    refine ct_ret ?_
    exact retS3 rfl rfl rfl RdC.rd H (fun w h => h.fit) ⟨rfl, rfl⟩
theorem RefKnown_c (W0 : World) (v : Int) (H : List Chunk) : Call Tryd.prog W0 24 [.int .i64 v] H (fun r H' => r = .bool (known v) ∧ H' = H) := by
  refine call_enter Tryd.func24 rfl Tryd.ntmps24 rfl ?_

  refine ct_seq ?_
  refine ct_region ?_
  (first | refine rs_ex rfl (by (first | (constructor <;> first | rfl | exact RdC.rd | exact inferInstance) | exact Ex.pickF rfl rfl | exact Ex.eqlS rfl rfl | exact Ex.neqS rfl rfl | exact Ex.eqlPN rfl rfl | exact Ex.neqPN rfl rfl | exact Ex.eqlSN rfl rfl | exact Ex.neqSN rfl rfl | exact Ex.lenStr rfl)) rfl ?_ | refine rs_skip rfl rfl ?_)
  refine rs_end ?_
  refine qe_then ?_
  refine ct_seq ?_
  refine ct_region ?_
  iterate 3 (first | refine rs_ex rfl (by (first | (constructor <;> first | rfl | exact RdC.rd | exact inferInstance) | exact Ex.pickF rfl rfl | exact Ex.eqlS rfl rfl | exact Ex.neqS rfl rfl | exact Ex.eqlPN rfl rfl | exact Ex.neqPN rfl rfl | exact Ex.eqlSN rfl rfl | exact Ex.neqSN rfl rfl | exact Ex.lenStr rfl)) rfl ?_ | refine rs_skip rfl rfl ?_)
  refine rs_split (fun h5 => ?_) (fun h5 => ?_)
  · iterate 4 (first | refine rs_ex rfl (by (first | (constructor <;> first | rfl | exact RdC.rd | exact inferInstance) | exact Ex.pickF rfl rfl | exact Ex.eqlS rfl rfl | exact Ex.neqS rfl rfl | exact Ex.eqlPN rfl rfl | exact Ex.neqPN rfl rfl | exact Ex.eqlSN rfl rfl | exact Ex.neqSN rfl rfl | exact Ex.lenStr rfl)) rfl ?_ | refine rs_skip rfl rfl ?_)
    refine rs_end ?_
    refine qe_then ?_
    refine ct_ret ?_
    exact ret1 rfl rfl ⟨by first | (simp_all [known]; done) | (simp_all [known]; omega), rfl⟩
  · iterate 4 (first | refine rs_ex rfl (by (first | (constructor <;> first | rfl | exact RdC.rd | exact inferInstance) | exact Ex.pickF rfl rfl | exact Ex.eqlS rfl rfl | exact Ex.neqS rfl rfl | exact Ex.eqlPN rfl rfl | exact Ex.neqPN rfl rfl | exact Ex.eqlSN rfl rfl | exact Ex.neqSN rfl rfl | exact Ex.lenStr rfl)) rfl ?_ | refine rs_skip rfl rfl ?_)
    refine rs_end ?_
    refine qe_then ?_
    refine ct_ret ?_
    exact ret1 rfl rfl ⟨by first | (simp_all [known]; done) | (simp_all [known]; omega), rfl⟩
theorem RefCheck_c (W0 : World) (a b : Int) (H : List Chunk) : Call Tryd.prog W0 26 [.int .i64 a, .int .i64 b] H (fun r H' => r = .int .i64 (checkVer a b) ∧ H' = H) := by
  refine call_enter Tryd.func26 rfl Tryd.ntmps26 rfl ?_

  refine ct_seq ?_
  refine ct_region ?_
  (first | refine rs_ex rfl (by (first | (constructor <;> first | rfl | exact RdC.rd | exact inferInstance) | exact Ex.pickF rfl rfl | exact Ex.eqlS rfl rfl | exact Ex.neqS rfl rfl | exact Ex.eqlPN rfl rfl | exact Ex.neqPN rfl rfl | exact Ex.eqlSN rfl rfl | exact Ex.neqSN rfl rfl | exact Ex.lenStr rfl)) rfl ?_ | refine rs_skip rfl rfl ?_)
  refine rs_end ?_
  refine qe_then ?_
  refine ct_seq ?_
  refine ct_seq ?_
  refine ct_region ?_
  (first | refine rs_ex rfl (by (first | (constructor <;> first | rfl | exact RdC.rd | exact inferInstance) | exact Ex.pickF rfl rfl | exact Ex.eqlS rfl rfl | exact Ex.neqS rfl rfl | exact Ex.eqlPN rfl rfl | exact Ex.neqPN rfl rfl | exact Ex.eqlSN rfl rfl | exact Ex.neqSN rfl rfl | exact Ex.lenStr rfl)) rfl ?_ | refine rs_skip rfl rfl ?_)
  refine rs_op rfl rfl (opR_fn rfl (Call.heap (fun w h => by (first | exact h | exact h.sw1 | exact h.sw2 | exact h.sw3 | exact h.sw4 | exact h.sw5 | exact h.sw6 | exact h.sw7 | exact h.sw8 | exact h.pull2 | exact h.pull3 | exact h.pull4 | exact h.pull5 | exact h.fit)) ((RefKnown_c W0 a _).mono ?_)))
  rintro v H' ⟨rfl, rfl⟩
  iterate 2 (first | refine rs_ex rfl (by (first | (constructor <;> first | rfl | exact RdC.rd | exact inferInstance) | exact Ex.pickF rfl rfl | exact Ex.eqlS rfl rfl | exact Ex.neqS rfl rfl | exact Ex.eqlPN rfl rfl | exact Ex.neqPN rfl rfl | exact Ex.eqlSN rfl rfl | exact Ex.neqSN rfl rfl | exact Ex.lenStr rfl)) rfl ?_ | refine rs_skip rfl rfl ?_)
  refine rs_split (fun h8 => ?_) (fun h8 => ?_)
  · iterate 4 (first | refine rs_ex rfl (by (first | (constructor <;> first | rfl | exact RdC.rd | exact inferInstance) | exact Ex.pickF rfl rfl | exact Ex.eqlS rfl rfl | exact Ex.neqS rfl rfl | exact Ex.eqlPN rfl rfl | exact Ex.neqPN rfl rfl | exact Ex.eqlSN rfl rfl | exact Ex.neqSN rfl rfl | exact Ex.lenStr rfl)) rfl ?_ | refine rs_skip rfl rfl ?_)
    refine rs_end ?_
    refine qe_then ?_
    refine ct_cond rfl (fun _ => ?_) (fun h => absurd h (by decide))
    refine ct_seq ?_
    refine ct_region ?_
    (first | refine rs_ex rfl (by (first | (constructor <;> first | rfl | exact RdC.rd | exact inferInstance) | exact Ex.pickF rfl rfl | exact Ex.eqlS rfl rfl | exact Ex.neqS rfl rfl | exact Ex.eqlPN rfl rfl | exact Ex.neqPN rfl rfl | exact Ex.eqlSN rfl rfl | exact Ex.neqSN rfl rfl | exact Ex.lenStr rfl)) rfl ?_ | refine rs_skip rfl rfl ?_)
    refine rs_end ?_
    refine qe_then ?_
    refine ct_ret ?_
    exact ret1 rfl rfl ⟨by rw [checkVer, if_pos (by simp_all)], rfl⟩
  · (first | refine rs_ex rfl (by (first | (constructor <;> first | rfl | exact RdC.rd | exact inferInstance) | exact Ex.pickF rfl rfl | exact Ex.eqlS rfl rfl | exact Ex.neqS rfl rfl | exact Ex.eqlPN rfl rfl | exact Ex.neqPN rfl rfl | exact Ex.eqlSN rfl rfl | exact Ex.neqSN rfl rfl | exact Ex.lenStr rfl)) rfl ?_ | refine rs_skip rfl rfl ?_)
    refine rs_op rfl rfl (opR_fn rfl (Call.heap (fun w h => by (first | exact h | exact h.sw1 | exact h.sw2 | exact h.sw3 | exact h.sw4 | exact h.sw5 | exact h.sw6 | exact h.sw7 | exact h.sw8 | exact h.pull2 | exact h.pull3 | exact h.pull4 | exact h.pull5 | exact h.fit)) ((RefKnown_c W0 b _).mono ?_)))
    rintro v H' ⟨rfl, rfl⟩
    iterate 2 (first | refine rs_ex rfl (by (first | (constructor <;> first | rfl | exact RdC.rd | exact inferInstance) | exact Ex.pickF rfl rfl | exact Ex.eqlS rfl rfl | exact Ex.neqS rfl rfl | exact Ex.eqlPN rfl rfl | exact Ex.neqPN rfl rfl | exact Ex.eqlSN rfl rfl | exact Ex.neqSN rfl rfl | exact Ex.lenStr rfl)) rfl ?_ | refine rs_skip rfl rfl ?_)
    refine rs_end ?_
    refine qe_then ?_
    refine ct_cond rfl (fun h12 => ?_) (fun h12 => ?_)
    · refine ct_seq ?_
      refine ct_region ?_
      (first | refine rs_ex rfl (by (first | (constructor <;> first | rfl | exact RdC.rd | exact inferInstance) | exact Ex.pickF rfl rfl | exact Ex.eqlS rfl rfl | exact Ex.neqS rfl rfl | exact Ex.eqlPN rfl rfl | exact Ex.neqPN rfl rfl | exact Ex.eqlSN rfl rfl | exact Ex.neqSN rfl rfl | exact Ex.lenStr rfl)) rfl ?_ | refine rs_skip rfl rfl ?_)
      refine rs_end ?_
      refine qe_then ?_
      refine ct_ret ?_
      exact ret1 rfl rfl ⟨by rw [checkVer, if_pos (by simp_all)], rfl⟩
    · refine ct_skip ?_
      refine qe_then ?_
      refine ct_seq ?_
      refine ct_seq ?_
      refine ct_region ?_
      iterate 3 (first | refine rs_ex rfl (by (first | (constructor <;> first | rfl | exact RdC.rd | exact inferInstance) | exact Ex.pickF rfl rfl | exact Ex.eqlS rfl rfl | exact Ex.neqS rfl rfl | exact Ex.eqlPN rfl rfl | exact Ex.neqPN rfl rfl | exact Ex.eqlSN rfl rfl | exact Ex.neqSN rfl rfl | exact Ex.lenStr rfl)) rfl ?_ | refine rs_skip rfl rfl ?_)
      refine rs_end ?_
      refine qe_then ?_
      refine ct_cond rfl (fun h15 => ?_) (fun h15 => ?_)
      · refine ct_seq ?_
        refine ct_region ?_
        (first | refine rs_ex rfl (by (first | (constructor <;> first | rfl | exact RdC.rd | exact inferInstance) | exact Ex.pickF rfl rfl | exact Ex.eqlS rfl rfl | exact Ex.neqS rfl rfl | exact Ex.eqlPN rfl rfl | exact Ex.neqPN rfl rfl | exact Ex.eqlSN rfl rfl | exact Ex.neqSN rfl rfl | exact Ex.lenStr rfl)) rfl ?_ | refine rs_skip rfl rfl ?_)
        refine rs_end ?_
        refine qe_then ?_
        refine ct_ret ?_
        exact ret1 rfl rfl ⟨by rw [checkVer, if_neg (by simp_all), if_pos (by simp_all)], rfl⟩
      · refine ct_skip ?_
        refine qe_then ?_
        refine ct_seq ?_
        refine ct_region ?_
        (first | refine rs_ex rfl (by (first | (constructor <;> first | rfl | exact RdC.rd | exact inferInstance) | exact Ex.pickF rfl rfl | exact Ex.eqlS rfl rfl | exact Ex.neqS rfl rfl | exact Ex.eqlPN rfl rfl | exact Ex.neqPN rfl rfl | exact Ex.eqlSN rfl rfl | exact Ex.neqSN rfl rfl | exact Ex.lenStr rfl)) rfl ?_ | refine rs_skip rfl rfl ?_)
        refine rs_end ?_
        refine qe_then ?_
        refine ct_ret ?_
        exact ret1 rfl rfl ⟨by rw [checkVer, if_neg (by simp_all), if_neg (by simp_all)], rfl⟩
theorem RefRight_c (W0 : World) (s : Sta) (H : List Chunk) : Call Tryd.prog W0 18 [s.v] H (fun v H' => v = .bool (known s.ver && decide ((s.data.size : Int) ≤ 1000)) ∧ H' = H) := by
  refine call_enter Tryd.func18 rfl Tryd.ntmps18 rfl ?_

  refine ct_seq ?_
  refine ct_region ?_
  refine rs_op rfl rfl (opR_box rfl fun b1 => ?_)
  (first | refine rs_ex rfl (by (first | (constructor <;> first | rfl | exact RdC.rd | exact inferInstance) | exact Ex.pickF rfl rfl | exact Ex.eqlS rfl rfl | exact Ex.neqS rfl rfl | exact Ex.eqlPN rfl rfl | exact Ex.neqPN rfl rfl | exact Ex.eqlSN rfl rfl | exact Ex.neqSN rfl rfl | exact Ex.lenStr rfl)) rfl ?_ | refine rs_skip rfl rfl ?_)
  refine rs_end ?_
  refine qe_then ?_
  refine ct_seq ?_
  refine ct_region ?_
  iterate 2 (first | refine rs_ex rfl (by (first | (constructor <;> first | rfl | exact RdC.rd | exact inferInstance) | exact Ex.pickF rfl rfl | exact Ex.eqlS rfl rfl | exact Ex.neqS rfl rfl | exact Ex.eqlPN rfl rfl | exact Ex.neqPN rfl rfl | exact Ex.eqlSN rfl rfl | exact Ex.neqSN rfl rfl | exact Ex.lenStr rfl)) rfl ?_ | refine rs_skip rfl rfl ?_)
  refine rs_op rfl rfl (opR_fn rfl (Call.heap (fun w h => by (first | exact h | exact h.sw1 | exact h.sw2 | exact h.sw3 | exact h.sw4 | exact h.sw5 | exact h.sw6 | exact h.sw7 | exact h.sw8 | exact h.pull2 | exact h.pull3 | exact h.pull4 | exact h.pull5 | exact h.fit)) ((RefKnown_c W0 s.ver _).mono ?_)))
  rintro v H' ⟨rfl, rfl⟩
  (first | refine rs_ex rfl (by (first | (constructor <;> first | rfl | exact RdC.rd | exact inferInstance) | exact Ex.pickF rfl rfl | exact Ex.eqlS rfl rfl | exact Ex.neqS rfl rfl | exact Ex.eqlPN rfl rfl | exact Ex.neqPN rfl rfl | exact Ex.eqlSN rfl rfl | exact Ex.neqSN rfl rfl | exact Ex.lenStr rfl)) rfl ?_ | refine rs_skip rfl rfl ?_)
  refine rs_split (fun h6 => ?_) (fun h6 => ?_)
  · iterate 6 (first | refine rs_ex rfl (by (first | (constructor <;> first | rfl | exact RdC.rd | exact inferInstance) | exact Ex.pickF rfl rfl | exact Ex.eqlS rfl rfl | exact Ex.neqS rfl rfl | exact Ex.eqlPN rfl rfl | exact Ex.neqPN rfl rfl | exact Ex.eqlSN rfl rfl | exact Ex.neqSN rfl rfl | exact Ex.lenStr rfl)) rfl ?_ | refine rs_skip rfl rfl ?_)
    refine rs_end ?_
    refine qe_then ?_
    refine ct_ret ?_
    exact qe_fit (ret1 rfl rfl ⟨by simp_all, rfl⟩)
  · iterate 6 (first | refine rs_ex rfl (by (first | (constructor <;> first | rfl | exact RdC.rd | exact inferInstance) | exact Ex.pickF rfl rfl | exact Ex.eqlS rfl rfl | exact Ex.neqS rfl rfl | exact Ex.eqlPN rfl rfl | exact Ex.neqPN rfl rfl | exact Ex.eqlSN rfl rfl | exact Ex.neqSN rfl rfl | exact Ex.lenStr rfl)) rfl ?_ | refine rs_skip rfl rfl ?_)
    refine rs_end ?_
    refine qe_then ?_
    refine ct_ret ?_
    exact qe_fit (ret1 rfl rfl ⟨by simp_all, rfl⟩)
def protoV (x : Int) : Int × Int := if known x = true then (if (2 : Int) < x then 2 else x, 0) else (0, 130)
theorem Protocol_c (W0 : World) (x : Int) (H : List Chunk) : Call Tryd.prog W0 21 [.int .i64 x] H (fun r H' => r = .tuple #[.int .i64 (protoV x).1, .int .i64 (protoV x).2] ∧ H' = H) := by
  refine call_enter Tryd.func21 rfl Tryd.ntmps21 rfl ?_

  refine ct_seq ?_
  refine ct_region ?_
  iterate 2 (first | refine rs_ex rfl (by (first | (constructor <;> first | rfl | exact RdC.rd | exact inferInstance) | exact Ex.pickF rfl rfl | exact Ex.eqlS rfl rfl | exact Ex.neqS rfl rfl | exact Ex.eqlPN rfl rfl | exact Ex.neqPN rfl rfl | exact Ex.eqlSN rfl rfl | exact Ex.neqSN rfl rfl | exact Ex.lenStr rfl)) rfl ?_ | refine rs_skip rfl rfl ?_)
  refine rs_end ?_
  refine qe_then ?_
  refine ct_seq ?_
  refine ct_seq ?_
  refine ct_region ?_
  (first | refine rs_ex rfl (by (first | (constructor <;> first | rfl | exact RdC.rd | exact inferInstance) | exact Ex.pickF rfl rfl | exact Ex.eqlS rfl rfl | exact Ex.neqS rfl rfl | exact Ex.eqlPN rfl rfl | exact Ex.neqPN rfl rfl | exact Ex.eqlSN rfl rfl | exact Ex.neqSN rfl rfl | exact Ex.lenStr rfl)) rfl ?_ | refine rs_skip rfl rfl ?_)
  refine rs_op rfl rfl (opR_fn rfl (Call.heap (fun w h => by (first | exact h | exact h.sw1 | exact h.sw2 | exact h.sw3 | exact h.sw4 | exact h.sw5 | exact h.sw6 | exact h.sw7 | exact h.sw8 | exact h.pull2 | exact h.pull3 | exact h.pull4 | exact h.pull5 | exact h.fit)) ((Known_c W0 x _).mono ?_)))
  rintro v H' ⟨rfl, rfl⟩
  (first | refine rs_ex rfl (by (first | (constructor <;> first | rfl | exact RdC.rd | exact inferInstance) | exact Ex.pickF rfl rfl | exact Ex.eqlS rfl rfl | exact Ex.neqS rfl rfl | exact Ex.eqlPN rfl rfl | exact Ex.neqPN rfl rfl | exact Ex.eqlSN rfl rfl | exact Ex.neqSN rfl rfl | exact Ex.lenStr rfl)) rfl ?_ | refine rs_skip rfl rfl ?_)
  refine rs_end ?_
  refine qe_then ?_
  refine ct_cond rfl (fun h6 => ?_) (fun h6 => ?_)
  · refine ct_seq ?_
    refine ct_region ?_
    iterate 2 (first | refine rs_ex rfl (by (first | (constructor <;> first | rfl | exact RdC.rd | exact inferInstance) | exact Ex.pickF rfl rfl | exact Ex.eqlS rfl rfl | exact Ex.neqS rfl rfl | exact Ex.eqlPN rfl rfl | exact Ex.neqPN rfl rfl | exact Ex.eqlSN rfl rfl | exact Ex.neqSN rfl rfl | exact Ex.lenStr rfl)) rfl ?_ | refine rs_skip rfl rfl ?_)
    refine rs_end ?_
    refine qe_then ?_
    refine ct_ret ?_
    exact ret2 rfl rfl rfl ⟨by rw [show protoV x = (0, 130) from if_neg (by simp_all)], rfl⟩
  · refine ct_skip ?_
    refine qe_then ?_
    refine ct_seq ?_
    refine ct_region ?_
    (first | refine rs_ex rfl (by (first | (constructor <;> first | rfl | exact RdC.rd | exact inferInstance) | exact Ex.pickF rfl rfl | exact Ex.eqlS rfl rfl | exact Ex.neqS rfl rfl | exact Ex.eqlPN rfl rfl | exact Ex.neqPN rfl rfl | exact Ex.eqlSN rfl rfl | exact Ex.neqSN rfl rfl | exact Ex.lenStr rfl)) rfl ?_ | refine rs_skip rfl rfl ?_)
    refine rs_ex rfl (ex_min rfl rfl) rfl ?_
    iterate 2 (first | refine rs_ex rfl (by (first | (constructor <;> first | rfl | exact RdC.rd | exact inferInstance) | exact Ex.pickF rfl rfl | exact Ex.eqlS rfl rfl | exact Ex.neqS rfl rfl | exact Ex.eqlPN rfl rfl | exact Ex.neqPN rfl rfl | exact Ex.eqlSN rfl rfl | exact Ex.neqSN rfl rfl | exact Ex.lenStr rfl)) rfl ?_ | refine rs_skip rfl rfl ?_)
    refine rs_end ?_
    refine qe_then ?_
    refine ct_ret ?_
    exact ret2 rfl rfl rfl ⟨by rw [show protoV x = (if (2 : Int) < x then 2 else x, 0) from if_pos (by simp_all)], rfl⟩
theorem RefProtocol_c (W0 : World) (x : Int) (H : List Chunk) : Call Tryd.prog W0 22 [.int .i64 x] H (fun r H' => r = .tuple #[.int .i64 (protoV x).1, .int .i64 (protoV x).2] ∧ H' = H) := by
  refine call_enter Tryd.func22 rfl Tryd.ntmps22 rfl ?_

  refine ct_seq ?_
  refine ct_region ?_
  iterate 2 (first | refine rs_ex rfl (by (first | (constructor <;> first | rfl | exact RdC.rd | exact inferInstance) | exact Ex.pickF rfl rfl | exact Ex.eqlS rfl rfl | exact Ex.neqS rfl rfl | exact Ex.eqlPN rfl rfl | exact Ex.neqPN rfl rfl | exact Ex.eqlSN rfl rfl | exact Ex.neqSN rfl rfl | exact Ex.lenStr rfl)) rfl ?_ | refine rs_skip rfl rfl ?_)
  refine rs_end ?_
  refine qe_then ?_
  refine ct_seq ?_
  refine ct_seq ?_
  refine ct_region ?_
  (first | refine rs_ex rfl (by (first | (constructor <;> first | rfl | exact RdC.rd | exact inferInstance) | exact Ex.pickF rfl rfl | exact Ex.eqlS rfl rfl | exact Ex.neqS rfl rfl | exact Ex.eqlPN rfl rfl | exact Ex.neqPN rfl rfl | exact Ex.eqlSN rfl rfl | exact Ex.neqSN rfl rfl | exact Ex.lenStr rfl)) rfl ?_ | refine rs_skip rfl rfl ?_)
  refine rs_op rfl rfl (opR_fn rfl (Call.heap (fun w h => by (first | exact h | exact h.sw1 | exact h.sw2 | exact h.sw3 | exact h.sw4 | exact h.sw5 | exact h.sw6 | exact h.sw7 | exact h.sw8 | exact h.pull2 | exact h.pull3 | exact h.pull4 | exact h.pull5 | exact h.fit)) ((RefKnown_c W0 x _).mono ?_)))
  rintro v H' ⟨rfl, rfl⟩
  (first | refine rs_ex rfl (by (first | (constructor <;> first | rfl | exact RdC.rd | exact inferInstance) | exact Ex.pickF rfl rfl | exact Ex.eqlS rfl rfl | exact Ex.neqS rfl rfl | exact Ex.eqlPN rfl rfl | exact Ex.neqPN rfl rfl | exact Ex.eqlSN rfl rfl | exact Ex.neqSN rfl rfl | exact Ex.lenStr rfl)) rfl ?_ | refine rs_skip rfl rfl ?_)
  refine rs_end ?_
  refine qe_then ?_
  refine ct_cond rfl (fun h6 => ?_) (fun h6 => ?_)
  · refine ct_seq ?_
    refine ct_region ?_
    iterate 2 (first | refine rs_ex rfl (by (first | (constructor <;> first | rfl | exact RdC.rd | exact inferInstance) | exact Ex.pickF rfl rfl | exact Ex.eqlS rfl rfl | exact Ex.neqS rfl rfl | exact Ex.eqlPN rfl rfl | exact Ex.neqPN rfl rfl | exact Ex.eqlSN rfl rfl | exact Ex.neqSN rfl rfl | exact Ex.lenStr rfl)) rfl ?_ | refine rs_skip rfl rfl ?_)
    refine rs_end ?_
    refine qe_then ?_
    refine ct_ret ?_
    exact ret2 rfl rfl rfl ⟨by rw [show protoV x = (0, 130) from if_neg (by simp_all)], rfl⟩
  · refine ct_skip ?_
    refine qe_then ?_
    refine ct_seq ?_
    refine ct_region ?_
    (first | refine rs_ex rfl (by (first | (constructor <;> first | rfl | exact RdC.rd | exact inferInstance) | exact Ex.pickF rfl rfl | exact Ex.eqlS rfl rfl | exact Ex.neqS rfl rfl | exact Ex.eqlPN rfl rfl | exact Ex.neqPN rfl rfl | exact Ex.eqlSN rfl rfl | exact Ex.neqSN rfl rfl | exact Ex.lenStr rfl)) rfl ?_ | refine rs_skip rfl rfl ?_)
    refine rs_ex rfl (ex_min rfl rfl) rfl ?_
    iterate 2 (first | refine rs_ex rfl (by (first | (constructor <;> first | rfl | exact RdC.rd | exact inferInstance) | exact Ex.pickF rfl rfl | exact Ex.eqlS rfl rfl | exact Ex.neqS rfl rfl | exact Ex.eqlPN rfl rfl | exact Ex.neqPN rfl rfl | exact Ex.eqlSN rfl rfl | exact Ex.neqSN rfl rfl | exact Ex.lenStr rfl)) rfl ?_ | refine rs_skip rfl rfl ?_)
    refine rs_end ?_
    refine qe_then ?_
    refine ct_ret ?_
    exact ret2 rfl rfl rfl ⟨by rw [show protoV x = (if (2 : Int) < x then 2 else x, 0) from if_pos (by simp_all)], rfl⟩
def refO (s : Sta) (up : Bool) : Option Sta := if up then (if s.ver = 1 then tn12 s else tn23 s) else (if s.ver = 3 then tn32 s else tn21 s)
theorem add_b (s : ByteArray) : (⟨#[98]⟩ : ByteArray) ++ s = toB (98 :: s.data.toList) := by
  rw [show (⟨#[98]⟩ : ByteArray) = toB [98] from rfl]
  conv => lhs; rw [← toB_self s]
  rw [toB_add]; rfl
theorem add_put (s : ByteArray) (n : Int) : s ++ (⟨(putL n).toArray⟩ : ByteArray) = toB (s.data.toList ++ putL n) := by
  rw [show (⟨(putL n).toArray⟩ : ByteArray) = toB (putL n) from rfl]
  conv => lhs; rw [← toB_self s]
  rw [toB_add]
theorem first_byte {s : ByteArray} (h : 1 ≤ s.size) : ∃ c, s[0]? = some c ∧ s.extract 0 1 = ⟨#[c]⟩ := by
  refine ⟨s[0], getElem?_pos s 0 h, ?_⟩
  apply ByteArray.ext
  rw [ByteArray.data_extract]
  apply Array.ext
  · simp; omega
  · intro i h1 h2
    have : i = 0 := by simp at h2; exact h2
    subst this
    simp
    rfl
theorem ex_addStr {P : Program} {S : World → Prop} {σ : Env} {T T' : TypeId} {x y : Operand} {s t : ByteArray} (hx : σ.val x = some (.string s)) (hy : σ.val y = some (.string t)) (hst : s.size + t.size ≤ 1000000) : Ex P S σ (.binOp .add T x y T') (.string (s ++ t)) := by
  refine Ex.any (fun ρ hρ c hop w hw => ?_) (fun _ _ e => by cases e) (fun _ e => by cases e)
  simp [execOp, hop, hρ _ _ hx, hρ _ _ hy, binOp, eqGuard, Op.stringOp]
  omega
theorem turned_b (s : Sta) (to : Int) (l : List UInt8) : turned s to l = if decide ((l.length : Int) ≤ 1000) = true then some ⟨to, s.cnt, toB l⟩ else none := by
  unfold turned
  by_cases h : l.length ≤ 1000
  · rw [if_pos h, if_pos (by rw [decide_eq_true_eq]; omega)]
  · rw [if_neg h, if_neg (by rw [decide_eq_true_eq]; omega)]
def TurnR (s : Sta) (up : Bool) (H : List Chunk) (v : Value) (H' : List Chunk) : Prop := ∃ x, (∀ y, refO s up = some y → x = y) ∧ v = .tuple #[x.v, .bool (refO s up).isSome] ∧ H' = H
theorem TurnR.ok {s : Sta} {up : Bool} {H : List Chunk} {x : Sta} {b : Bool} (h : refO s up = if b then some x else none) : TurnR s up H (.tuple #[x.v, .bool b]) H := by
  cases b with
  | true => exact ⟨x, fun y hy => by rw [h] at hy; simpa using hy, by rw [h]; rfl, rfl⟩
  | false => exact ⟨x, fun y hy => by rw [h] at hy; simp at hy, by rw [h]; rfl, rfl⟩
theorem RefTurn_c (W0 : World) (s : Sta) (up : Bool) (H : List Chunk) (hc : 0 ≤ s.cnt) (hs : s.data.size ≤ 1000) (hv : if up then s.ver = 1 ∨ s.ver = 2 else s.ver = 2 ∨ s.ver = 3) :
    Call Tryd.prog W0 41 [s.v, .bool up] H (TurnR s up H) := by
  have hsz : s.l.length = s.data.size := size_list s.data
  refine call_enter Tryd.func41 rfl Tryd.ntmps41 rfl ?_

  refine ct_seq ?_
  refine ct_region ?_
  refine rs_op rfl rfl (opR_box rfl fun b2 => ?_)
  refine rs_op rfl rfl (opR_alloc fun b4 => ?_)
  (first | refine rs_ex rfl (by (first | (constructor <;> first | rfl | exact RdC.rd | exact inferInstance) | exact Ex.pickF rfl rfl | exact Ex.eqlS rfl rfl | exact Ex.neqS rfl rfl | exact Ex.eqlPN rfl rfl | exact Ex.neqPN rfl rfl | exact Ex.eqlSN rfl rfl | exact Ex.neqSN rfl rfl | exact Ex.lenStr rfl)) rfl ?_ | refine rs_skip rfl rfl ?_)
  refine rs_end ?_
  refine qe_then ?_
  refine ct_seq ?_
  refine ct_region ?_
  iterate 2 (first | refine rs_ex rfl (by (first | (constructor <;> first | rfl | exact RdC.rd | exact inferInstance) | exact Ex.pickF rfl rfl | exact Ex.eqlS rfl rfl | exact Ex.neqS rfl rfl | exact Ex.eqlPN rfl rfl | exact Ex.neqPN rfl rfl | exact Ex.eqlSN rfl rfl | exact Ex.neqSN rfl rfl | exact Ex.lenStr rfl)) rfl ?_ | refine rs_skip rfl rfl ?_)
  refine rs_op rfl rfl (opR_fn rfl (Call.heap (fun w h => by (first | exact h | exact h.sw1 | exact h.sw2 | exact h.sw3 | exact h.sw4 | exact h.sw5 | exact h.sw6 | exact h.sw7 | exact h.sw8 | exact h.pull2 | exact h.pull3 | exact h.pull4 | exact h.pull5 | exact h.fit)) ((RefPut_c W0 s.cnt _ hc).mono ?_)))
  rintro v H' ⟨rfl, rfl⟩
  (first | refine rs_ex rfl (by (first | (constructor <;> first | rfl | exact RdC.rd | exact inferInstance) | exact Ex.pickF rfl rfl | exact Ex.eqlS rfl rfl | exact Ex.neqS rfl rfl | exact Ex.eqlPN rfl rfl | exact Ex.neqPN rfl rfl | exact Ex.eqlSN rfl rfl | exact Ex.neqSN rfl rfl | exact Ex.lenStr rfl)) rfl ?_ | refine rs_skip rfl rfl ?_)
  refine rs_end ?_
  refine qe_then ?_
  refine ct_seq ?_
  refine ct_region ?_
  iterate 4 (first | refine rs_ex rfl (by (first | (constructor <;> first | rfl | exact RdC.rd | exact inferInstance) | exact Ex.pickF rfl rfl | exact Ex.eqlS rfl rfl | exact Ex.neqS rfl rfl | exact Ex.eqlPN rfl rfl | exact Ex.neqPN rfl rfl | exact Ex.eqlSN rfl rfl | exact Ex.neqSN rfl rfl | exact Ex.lenStr rfl)) rfl ?_ | refine rs_skip rfl rfl ?_)
  refine rs_end ?_
  refine qe_then ?_
  refine ct_seq ?_
  refine ct_seq ?_
  refine ct_region ?_
  (first | refine rs_ex rfl (by (first | (constructor <;> first | rfl | exact RdC.rd | exact inferInstance) | exact Ex.pickF rfl rfl | exact Ex.eqlS rfl rfl | exact Ex.neqS rfl rfl | exact Ex.eqlPN rfl rfl | exact Ex.neqPN rfl rfl | exact Ex.eqlSN rfl rfl | exact Ex.neqSN rfl rfl | exact Ex.lenStr rfl)) rfl ?_ | refine rs_skip rfl rfl ?_)
  refine rs_end ?_
  refine qe_then ?_
  refine ct_cond rfl (fun h14 => ?_) (fun h14 => ?_)
  · subst h14
    simp only [if_true] at hv
    refine ct_seq ?_
    refine ct_seq ?_
    refine ct_region ?_
    iterate 3 (first | refine rs_ex rfl (by (first | (constructor <;> first | rfl | exact RdC.rd | exact inferInstance) | exact Ex.pickF rfl rfl | exact Ex.eqlS rfl rfl | exact Ex.neqS rfl rfl | exact Ex.eqlPN rfl rfl | exact Ex.neqPN rfl rfl | exact Ex.eqlSN rfl rfl | exact Ex.neqSN rfl rfl | exact Ex.lenStr rfl)) rfl ?_ | refine rs_skip rfl rfl ?_)
    refine rs_end ?_
    refine qe_then ?_
    refine ct_cond rfl (fun h17 => ?_) (fun h17 => ?_)
    · have h1 : s.ver = 1 := by simpa using h17
      refine ct_region ?_
      iterate 2 (first | refine rs_ex rfl (by (first | (constructor <;> first | rfl | exact RdC.rd | exact inferInstance) | exact Ex.pickF rfl rfl | exact Ex.eqlS rfl rfl | exact Ex.neqS rfl rfl | exact Ex.eqlPN rfl rfl | exact Ex.neqPN rfl rfl | exact Ex.eqlSN rfl rfl | exact Ex.neqSN rfl rfl | exact Ex.lenStr rfl)) rfl ?_ | refine rs_skip rfl rfl ?_)
      refine rs_ex rfl (ex_addStr rfl rfl (by show 1 + s.data.size ≤ _; omega)) rfl ?_
      refine rs_rw (by rw [add_b]) ?_
      (first | refine rs_ex rfl (by (first | (constructor <;> first | rfl | exact RdC.rd | exact inferInstance) | exact Ex.pickF rfl rfl | exact Ex.eqlS rfl rfl | exact Ex.neqS rfl rfl | exact Ex.eqlPN rfl rfl | exact Ex.neqPN rfl rfl | exact Ex.eqlSN rfl rfl | exact Ex.neqSN rfl rfl | exact Ex.lenStr rfl)) rfl ?_ | refine rs_skip rfl rfl ?_)
      refine rs_opN rfl (opR_store rfl rfl rfl rfl ?_)
      refine rs_end ?_
      refine qe_then ?_
      refine ct_seq ?_
      refine ct_region ?_
      iterate 3 (first | refine rs_ex rfl (by (first | (constructor <;> first | rfl | exact RdC.rd | exact inferInstance) | exact Ex.pickF rfl rfl | exact Ex.eqlS rfl rfl | exact Ex.neqS rfl rfl | exact Ex.eqlPN rfl rfl | exact Ex.neqPN rfl rfl | exact Ex.eqlSN rfl rfl | exact Ex.neqSN rfl rfl | exact Ex.lenStr rfl)) rfl ?_ | refine rs_skip rfl rfl ?_)
      refine rs_rw (by rw [wrap64 (by omega) (by omega)]) ?_
      (first | refine rs_ex rfl (by (first | (constructor <;> first | rfl | exact RdC.rd | exact inferInstance) | exact Ex.pickF rfl rfl | exact Ex.eqlS rfl rfl | exact Ex.neqS rfl rfl | exact Ex.eqlPN rfl rfl | exact Ex.neqPN rfl rfl | exact Ex.eqlSN rfl rfl | exact Ex.neqSN rfl rfl | exact Ex.lenStr rfl)) rfl ?_ | refine rs_skip rfl rfl ?_)
      refine rs_opN rfl (opR_store rfl rfl rfl rfl ?_)
      refine rs_end ?_
      refine qe_then ?_
      refine ct_seq ?_
      refine ct_drawP [1] (by kernel_rfl) ?_
      refine ra_take 0 rfl (by kernel_rfl) (by kernel_rfl) rfl (by (first | (constructor <;> first | rfl | exact RdC.rd | exact inferInstance) | exact Ex.pickF rfl rfl | exact Ex.eqlS rfl rfl | exact Ex.neqS rfl rfl | exact Ex.eqlPN rfl rfl | exact Ex.neqPN rfl rfl | exact Ex.eqlSN rfl rfl | exact Ex.neqSN rfl rfl | exact Ex.lenStr rfl)) rfl (fun _ h => h.fit) ?_
      refine ra_take 1 rfl (by kernel_rfl) (by kernel_rfl) rfl (by (first | (constructor <;> first | rfl | exact RdC.rd | exact inferInstance) | exact Ex.pickF rfl rfl | exact Ex.eqlS rfl rfl | exact Ex.neqS rfl rfl | exact Ex.eqlPN rfl rfl | exact Ex.neqPN rfl rfl | exact Ex.eqlSN rfl rfl | exact Ex.neqSN rfl rfl | exact Ex.lenStr rfl)) rfl (fun _ h => h.fit) ?_
      refine ra_take 2 rfl (by kernel_rfl) (by kernel_rfl) rfl (by (first | (constructor <;> first | rfl | exact RdC.rd | exact inferInstance) | exact Ex.pickF rfl rfl | exact Ex.eqlS rfl rfl | exact Ex.neqS rfl rfl | exact Ex.eqlPN rfl rfl | exact Ex.neqPN rfl rfl | exact Ex.eqlSN rfl rfl | exact Ex.neqSN rfl rfl | exact Ex.lenStr rfl)) rfl (fun _ h => h.fit) ?_
      refine ra_take 3 rfl (by kernel_rfl) (by kernel_rfl) rfl (by (first | (constructor <;> first | rfl | exact RdC.rd | exact inferInstance) | exact Ex.pickF rfl rfl | exact Ex.eqlS rfl rfl | exact Ex.neqS rfl rfl | exact Ex.eqlPN rfl rfl | exact Ex.neqPN rfl rfl | exact Ex.eqlSN rfl rfl | exact Ex.neqSN rfl rfl | exact Ex.lenStr rfl)) rfl (fun _ h => h.fit) ?_
      refine ra_rw (by rw [toB_size]) ?_
      refine ra_take 4 rfl (by kernel_rfl) (by kernel_rfl) rfl (by (first | (constructor <;> first | rfl | exact RdC.rd | exact inferInstance) | exact Ex.pickF rfl rfl | exact Ex.eqlS rfl rfl | exact Ex.neqS rfl rfl | exact Ex.eqlPN rfl rfl | exact Ex.neqPN rfl rfl | exact Ex.eqlSN rfl rfl | exact Ex.neqSN rfl rfl | exact Ex.lenStr rfl)) rfl (fun _ h => h.fit) ?_
      refine ra_all (rs := [5]) (by kernel_rfl) rfl ?_
      refine each_opN rfl rfl (opR_store rfl rfl rfl rfl ?_) each_nil
      refine ⟨.inr (fun w h => h.fit), ?_⟩
      refine ra_take 6 rfl (by kernel_rfl) (by kernel_rfl) rfl (by (first | (constructor <;> first | rfl | exact RdC.rd | exact inferInstance) | exact Ex.pickF rfl rfl | exact Ex.eqlS rfl rfl | exact Ex.neqS rfl rfl | exact Ex.eqlPN rfl rfl | exact Ex.neqPN rfl rfl | exact Ex.eqlSN rfl rfl | exact Ex.neqSN rfl rfl | exact Ex.lenStr rfl)) rfl (fun _ h => h.fit) ?_
      refine ra_end (by kernel_rfl) ?_
      refine qe_then ?_
      refine ct_ret ?_
      exact retS3 rfl rfl rfl RdC.rd H (fun w h => h.fit) (TurnR.ok (x := ⟨_, _, _⟩) (by first | (rw [refO, if_pos rfl, if_pos (by omega), tn12, turned_b, h1]; rfl) | (rw [refO, if_pos rfl, if_neg (by omega), tn23, turned_b, h1]; rfl)))
    · have h1 : s.ver = 2 := by simp at h17; omega
      refine ct_region ?_
      iterate 3 (first | refine rs_ex rfl (by (first | (constructor <;> first | rfl | exact RdC.rd | exact inferInstance) | exact Ex.pickF rfl rfl | exact Ex.eqlS rfl rfl | exact Ex.neqS rfl rfl | exact Ex.eqlPN rfl rfl | exact Ex.neqPN rfl rfl | exact Ex.eqlSN rfl rfl | exact Ex.neqSN rfl rfl | exact Ex.lenStr rfl)) rfl ?_ | refine rs_skip rfl rfl ?_)
      refine rs_ex rfl (ex_addStr rfl rfl (by rw [putB_size]; omega)) rfl ?_
      refine rs_rw (by rw [add_put]) ?_
      (first | refine rs_ex rfl (by (first | (constructor <;> first | rfl | exact RdC.rd | exact inferInstance) | exact Ex.pickF rfl rfl | exact Ex.eqlS rfl rfl | exact Ex.neqS rfl rfl | exact Ex.eqlPN rfl rfl | exact Ex.neqPN rfl rfl | exact Ex.eqlSN rfl rfl | exact Ex.neqSN rfl rfl | exact Ex.lenStr rfl)) rfl ?_ | refine rs_skip rfl rfl ?_)
      refine rs_opN rfl (opR_store rfl rfl rfl rfl ?_)
      refine rs_end ?_
      refine qe_then ?_
      refine ct_seq ?_
      refine ct_region ?_
      iterate 3 (first | refine rs_ex rfl (by (first | (constructor <;> first | rfl | exact RdC.rd | exact inferInstance) | exact Ex.pickF rfl rfl | exact Ex.eqlS rfl rfl | exact Ex.neqS rfl rfl | exact Ex.eqlPN rfl rfl | exact Ex.neqPN rfl rfl | exact Ex.eqlSN rfl rfl | exact Ex.neqSN rfl rfl | exact Ex.lenStr rfl)) rfl ?_ | refine rs_skip rfl rfl ?_)
      refine rs_rw (by rw [wrap64 (by omega) (by omega)]) ?_
      (first | refine rs_ex rfl (by (first | (constructor <;> first | rfl | exact RdC.rd | exact inferInstance) | exact Ex.pickF rfl rfl | exact Ex.eqlS rfl rfl | exact Ex.neqS rfl rfl | exact Ex.eqlPN rfl rfl | exact Ex.neqPN rfl rfl | exact Ex.eqlSN rfl rfl | exact Ex.neqSN rfl rfl | exact Ex.lenStr rfl)) rfl ?_ | refine rs_skip rfl rfl ?_)
      refine rs_opN rfl (opR_store rfl rfl rfl rfl ?_)
      refine rs_end ?_
      refine qe_then ?_
      refine ct_seq ?_
      refine ct_drawP [1] (by kernel_rfl) ?_
      refine ra_take 0 rfl (by kernel_rfl) (by kernel_rfl) rfl (by (first | (constructor <;> first | rfl | exact RdC.rd | exact inferInstance) | exact Ex.pickF rfl rfl | exact Ex.eqlS rfl rfl | exact Ex.neqS rfl rfl | exact Ex.eqlPN rfl rfl | exact Ex.neqPN rfl rfl | exact Ex.eqlSN rfl rfl | exact Ex.neqSN rfl rfl | exact Ex.lenStr rfl)) rfl (fun _ h => h.fit) ?_
      refine ra_take 1 rfl (by kernel_rfl) (by kernel_rfl) rfl (by (first | (constructor <;> first | rfl | exact RdC.rd | exact inferInstance) | exact Ex.pickF rfl rfl | exact Ex.eqlS rfl rfl | exact Ex.neqS rfl rfl | exact Ex.eqlPN rfl rfl | exact Ex.neqPN rfl rfl | exact Ex.eqlSN rfl rfl | exact Ex.neqSN rfl rfl | exact Ex.lenStr rfl)) rfl (fun _ h => h.fit) ?_
      refine ra_take 2 rfl (by kernel_rfl) (by kernel_rfl) rfl (by (first | (constructor <;> first | rfl | exact RdC.rd | exact inferInstance) | exact Ex.pickF rfl rfl | exact Ex.eqlS rfl rfl | exact Ex.neqS rfl rfl | exact Ex.eqlPN rfl rfl | exact Ex.neqPN rfl rfl | exact Ex.eqlSN rfl rfl | exact Ex.neqSN rfl rfl | exact Ex.lenStr rfl)) rfl (fun _ h => h.fit) ?_
      refine ra_take 3 rfl (by kernel_rfl) (by kernel_rfl) rfl (by (first | (constructor <;> first | rfl | exact RdC.rd | exact inferInstance) | exact Ex.pickF rfl rfl | exact Ex.eqlS rfl rfl | exact Ex.neqS rfl rfl | exact Ex.eqlPN rfl rfl | exact Ex.neqPN rfl rfl | exact Ex.eqlSN rfl rfl | exact Ex.neqSN rfl rfl | exact Ex.lenStr rfl)) rfl (fun _ h => h.fit) ?_
      refine ra_rw (by rw [toB_size]) ?_
      refine ra_take 4 rfl (by kernel_rfl) (by kernel_rfl) rfl (by (first | (constructor <;> first | rfl | exact RdC.rd | exact inferInstance) | exact Ex.pickF rfl rfl | exact Ex.eqlS rfl rfl | exact Ex.neqS rfl rfl | exact Ex.eqlPN rfl rfl | exact Ex.neqPN rfl rfl | exact Ex.eqlSN rfl rfl | exact Ex.neqSN rfl rfl | exact Ex.lenStr rfl)) rfl (fun _ h => h.fit) ?_
      refine ra_all (rs := [5]) (by kernel_rfl) rfl ?_
      refine each_opN rfl rfl (opR_store rfl rfl rfl rfl ?_) each_nil
      refine ⟨.inr (fun w h => h.fit), ?_⟩
      refine ra_take 6 rfl (by kernel_rfl) (by kernel_rfl) rfl (by (first | (constructor <;> first | rfl | exact RdC.rd | exact inferInstance) | exact Ex.pickF rfl rfl | exact Ex.eqlS rfl rfl | exact Ex.neqS rfl rfl | exact Ex.eqlPN rfl rfl | exact Ex.neqPN rfl rfl | exact Ex.eqlSN rfl rfl | exact Ex.neqSN rfl rfl | exact Ex.lenStr rfl)) rfl (fun _ h => h.fit) ?_
      refine ra_end (by kernel_rfl) ?_
      refine qe_then ?_
      refine ct_ret ?_
      exact retS3 rfl rfl rfl RdC.rd H (fun w h => h.fit) (TurnR.ok (x := ⟨_, _, _⟩) (by first | (rw [refO, if_pos rfl, if_pos (by omega), tn12, turned_b, h1]; rfl) | (rw [refO, if_pos rfl, if_neg (by omega), tn23, turned_b, h1]; rfl)))
  · subst h14
    simp only [Bool.false_eq_true, if_false] at hv
    refine ct_skip ?_
    refine qe_then ?_
    refine ct_seq ?_
    refine ct_seq ?_
    refine ct_region ?_
    iterate 3 (first | refine rs_ex rfl (by (first | (constructor <;> first | rfl | exact RdC.rd | exact inferInstance) | exact Ex.pickF rfl rfl | exact Ex.eqlS rfl rfl | exact Ex.neqS rfl rfl | exact Ex.eqlPN rfl rfl | exact Ex.neqPN rfl rfl | exact Ex.eqlSN rfl rfl | exact Ex.neqSN rfl rfl | exact Ex.lenStr rfl)) rfl ?_ | refine rs_skip rfl rfl ?_)
    refine rs_end ?_
    refine qe_then ?_
    refine ct_cond rfl (fun h38 => ?_) (fun h38 => ?_)
    · have h3 : s.ver = 3 := by simpa using h38
      have hr : refO s false = tn32 s := by rw [refO, if_neg (by decide), if_pos h3]
      refine ct_seq ?_
      refine ct_seq ?_
      refine ct_region ?_
      iterate 3 (first | refine rs_ex rfl (by (first | (constructor <;> first | rfl | exact RdC.rd | exact inferInstance) | exact Ex.pickF rfl rfl | exact Ex.eqlS rfl rfl | exact Ex.neqS rfl rfl | exact Ex.eqlPN rfl rfl | exact Ex.neqPN rfl rfl | exact Ex.eqlSN rfl rfl | exact Ex.neqSN rfl rfl | exact Ex.lenStr rfl)) rfl ?_ | refine rs_skip rfl rfl ?_)
      refine rs_split (fun h41 => ?_) (fun h41 => ?_)
      · have hn : hasSuf s.data ⟨(putL s.cnt).toArray⟩ = false := by rw [hasSuf, putB_size, decide_eq_false (by simp at h41; omega)]; rfl
        have ho : refO s false = none := by rw [hr, tn32, hn]; rfl
        iterate 8 (first | refine rs_ex rfl (by (first | (constructor <;> first | rfl | exact RdC.rd | exact inferInstance) | exact Ex.pickF rfl rfl | exact Ex.eqlS rfl rfl | exact Ex.neqS rfl rfl | exact Ex.eqlPN rfl rfl | exact Ex.neqPN rfl rfl | exact Ex.eqlSN rfl rfl | exact Ex.neqSN rfl rfl | exact Ex.lenStr rfl)) rfl ?_ | refine rs_skip rfl rfl ?_)
        refine rs_end ?_
        refine qe_then ?_
        refine ct_cond rfl (fun _ => ?_) (fun h => absurd h (by decide))
        refine ct_seq ?_
        refine ct_region ?_
        (first | refine rs_ex rfl (by (first | (constructor <;> first | rfl | exact RdC.rd | exact inferInstance) | exact Ex.pickF rfl rfl | exact Ex.eqlS rfl rfl | exact Ex.neqS rfl rfl | exact Ex.eqlPN rfl rfl | exact Ex.neqPN rfl rfl | exact Ex.eqlSN rfl rfl | exact Ex.neqSN rfl rfl | exact Ex.lenStr rfl)) rfl ?_ | refine rs_skip rfl rfl ?_)
        refine rs_opN rfl (opR_store rfl rfl rfl rfl ?_)
        (first | refine rs_ex rfl (by (first | (constructor <;> first | rfl | exact RdC.rd | exact inferInstance) | exact Ex.pickF rfl rfl | exact Ex.eqlS rfl rfl | exact Ex.neqS rfl rfl | exact Ex.eqlPN rfl rfl | exact Ex.neqPN rfl rfl | exact Ex.eqlSN rfl rfl | exact Ex.neqSN rfl rfl | exact Ex.lenStr rfl)) rfl ?_ | refine rs_skip rfl rfl ?_)
        refine rs_end ?_
        refine qe_then ?_
        refine ct_ret ?_
        exact retS3 rfl rfl rfl RdC.rd H (fun w h => h.fit) (TurnR.ok (x := s) (by rw [ho]; rfl))
      · have hlt : 4 ≤ s.data.size := by simp at h41; omega
        iterate 4 (first | refine rs_ex rfl (by (first | (constructor <;> first | rfl | exact RdC.rd | exact inferInstance) | exact Ex.pickF rfl rfl | exact Ex.eqlS rfl rfl | exact Ex.neqS rfl rfl | exact Ex.eqlPN rfl rfl | exact Ex.neqPN rfl rfl | exact Ex.eqlSN rfl rfl | exact Ex.neqSN rfl rfl | exact Ex.lenStr rfl)) rfl ?_ | refine rs_skip rfl rfl ?_)
        refine rs_rw (by rw [wrap64 (by omega) (by omega), show ((s.data.size : Int) - 4) = ((s.data.size - 4 : Nat) : Int) by omega]) ?_
        refine rs_ex rfl (ex_sliceStr (i := s.data.size - 4) (j := s.data.size) rfl (.inr ⟨_, _, rfl, rfl⟩) (.inl ⟨rfl, rfl⟩) (by omega) (by omega)) rfl ?_
        iterate 3 (first | refine rs_ex rfl (by (first | (constructor <;> first | rfl | exact RdC.rd | exact inferInstance) | exact Ex.pickF rfl rfl | exact Ex.eqlS rfl rfl | exact Ex.neqS rfl rfl | exact Ex.eqlPN rfl rfl | exact Ex.neqPN rfl rfl | exact Ex.eqlSN rfl rfl | exact Ex.neqSN rfl rfl | exact Ex.lenStr rfl)) rfl ?_ | refine rs_skip rfl rfl ?_)
        refine rs_end ?_
        refine qe_then ?_
        refine ct_cond rfl (fun h49 => ?_) (fun h49 => ?_)
        · have ho : refO s false = none := by
            first | exact ho | (rw [hr, tn32, if_neg]; rw [hasSuf, putB_size]; simp at h49; simp; intro _ h; exact h49 h)
          refine ct_seq ?_
          refine ct_region ?_
          (first | refine rs_ex rfl (by (first | (constructor <;> first | rfl | exact RdC.rd | exact inferInstance) | exact Ex.pickF rfl rfl | exact Ex.eqlS rfl rfl | exact Ex.neqS rfl rfl | exact Ex.eqlPN rfl rfl | exact Ex.neqPN rfl rfl | exact Ex.eqlSN rfl rfl | exact Ex.neqSN rfl rfl | exact Ex.lenStr rfl)) rfl ?_ | refine rs_skip rfl rfl ?_)
          refine rs_opN rfl (opR_store rfl rfl rfl rfl ?_)
          (first | refine rs_ex rfl (by (first | (constructor <;> first | rfl | exact RdC.rd | exact inferInstance) | exact Ex.pickF rfl rfl | exact Ex.eqlS rfl rfl | exact Ex.neqS rfl rfl | exact Ex.eqlPN rfl rfl | exact Ex.neqPN rfl rfl | exact Ex.eqlSN rfl rfl | exact Ex.neqSN rfl rfl | exact Ex.lenStr rfl)) rfl ?_ | refine rs_skip rfl rfl ?_)
          refine rs_end ?_
          refine qe_then ?_
          refine ct_ret ?_
          exact retS3 rfl rfl rfl RdC.rd H (fun w h => h.fit) (TurnR.ok (x := s) (by rw [ho]; rfl))
        · have hn : hasSuf s.data ⟨(putL s.cnt).toArray⟩ = true := by rw [hasSuf, putB_size]; simp at h49; simp [hlt, ← h49]
          have hx := size_list (s.data.extract 0 (s.data.size - 4))
          have ho : refO s false = some ⟨2, s.cnt, s.data.extract 0 (s.data.size - 4)⟩ := by
            rw [hr, tn32, if_pos hn, turned, if_pos (by rw [hx]; simp; omega), toB_self]
          refine ct_skip ?_
          refine qe_then ?_
          refine ct_region ?_
          iterate 4 (first | refine rs_ex rfl (by (first | (constructor <;> first | rfl | exact RdC.rd | exact inferInstance) | exact Ex.pickF rfl rfl | exact Ex.eqlS rfl rfl | exact Ex.neqS rfl rfl | exact Ex.eqlPN rfl rfl | exact Ex.neqPN rfl rfl | exact Ex.eqlSN rfl rfl | exact Ex.neqSN rfl rfl | exact Ex.lenStr rfl)) rfl ?_ | refine rs_skip rfl rfl ?_)
          refine rs_rw (by rw [wrap64 (by omega) (by omega), show ((s.data.size : Int) - 4) = ((s.data.size - 4 : Nat) : Int) by omega]) ?_
          refine rs_ex rfl (ex_sliceStr (i := 0) (j := s.data.size - 4) rfl (.inl ⟨rfl, rfl⟩) (.inr ⟨_, _, rfl, rfl⟩) (by omega) (by omega)) rfl ?_
          (first | refine rs_ex rfl (by (first | (constructor <;> first | rfl | exact RdC.rd | exact inferInstance) | exact Ex.pickF rfl rfl | exact Ex.eqlS rfl rfl | exact Ex.neqS rfl rfl | exact Ex.eqlPN rfl rfl | exact Ex.neqPN rfl rfl | exact Ex.eqlSN rfl rfl | exact Ex.neqSN rfl rfl | exact Ex.lenStr rfl)) rfl ?_ | refine rs_skip rfl rfl ?_)
          refine rs_opN rfl (opR_store rfl rfl rfl rfl ?_)
          refine rs_end ?_
          refine qe_then ?_
          refine ct_seq ?_
          refine ct_region ?_
          iterate 3 (first | refine rs_ex rfl (by (first | (constructor <;> first | rfl | exact RdC.rd | exact inferInstance) | exact Ex.pickF rfl rfl | exact Ex.eqlS rfl rfl | exact Ex.neqS rfl rfl | exact Ex.eqlPN rfl rfl | exact Ex.neqPN rfl rfl | exact Ex.eqlSN rfl rfl | exact Ex.neqSN rfl rfl | exact Ex.lenStr rfl)) rfl ?_ | refine rs_skip rfl rfl ?_)
          refine rs_rw (by rw [wrap64 (by omega) (by omega)]) ?_
          (first | refine rs_ex rfl (by (first | (constructor <;> first | rfl | exact RdC.rd | exact inferInstance) | exact Ex.pickF rfl rfl | exact Ex.eqlS rfl rfl | exact Ex.neqS rfl rfl | exact Ex.eqlPN rfl rfl | exact Ex.neqPN rfl rfl | exact Ex.eqlSN rfl rfl | exact Ex.neqSN rfl rfl | exact Ex.lenStr rfl)) rfl ?_ | refine rs_skip rfl rfl ?_)
          refine rs_opN rfl (opR_store rfl rfl rfl rfl ?_)
          refine rs_end ?_
          refine qe_then ?_
          refine ct_seq ?_
          refine ct_region ?_
          (first | refine rs_ex rfl (by (first | (constructor <;> first | rfl | exact RdC.rd | exact inferInstance) | exact Ex.pickF rfl rfl | exact Ex.eqlS rfl rfl | exact Ex.neqS rfl rfl | exact Ex.eqlPN rfl rfl | exact Ex.neqPN rfl rfl | exact Ex.eqlSN rfl rfl | exact Ex.neqSN rfl rfl | exact Ex.lenStr rfl)) rfl ?_ | refine rs_skip rfl rfl ?_)
          refine rs_opN rfl (opR_store rfl rfl rfl rfl ?_)
          (first | refine rs_ex rfl (by (first | (constructor <;> first | rfl | exact RdC.rd | exact inferInstance) | exact Ex.pickF rfl rfl | exact Ex.eqlS rfl rfl | exact Ex.neqS rfl rfl | exact Ex.eqlPN rfl rfl | exact Ex.neqPN rfl rfl | exact Ex.eqlSN rfl rfl | exact Ex.neqSN rfl rfl | exact Ex.lenStr rfl)) rfl ?_ | refine rs_skip rfl rfl ?_)
          refine rs_end ?_
          refine qe_then ?_
          refine ct_ret ?_
          exact retS3 rfl rfl rfl RdC.rd H (fun w h => h.fit) (TurnR.ok (x := ⟨_, _, _⟩) (by rw [ho, h3]; rfl))
    · have h3 : s.ver = 2 := by simp at h38; omega
      have hr : refO s false = tn21 s := by rw [refO, if_neg (by decide), if_neg (by omega)]
      refine ct_seq ?_
      refine ct_seq ?_
      refine ct_region ?_
      iterate 3 (first | refine rs_ex rfl (by (first | (constructor <;> first | rfl | exact RdC.rd | exact inferInstance) | exact Ex.pickF rfl rfl | exact Ex.eqlS rfl rfl | exact Ex.neqS rfl rfl | exact Ex.eqlPN rfl rfl | exact Ex.neqPN rfl rfl | exact Ex.eqlSN rfl rfl | exact Ex.neqSN rfl rfl | exact Ex.lenStr rfl)) rfl ?_ | refine rs_skip rfl rfl ?_)
      refine rs_split (fun h59 => ?_) (fun h59 => ?_)
      · have hn : hasPre s.data ⟨#[98]⟩ = false := by rw [hasPre, show (⟨#[98]⟩ : ByteArray).size = 1 from rfl, decide_eq_false (by simp at h59; omega)]; rfl
        have ho : refO s false = none := by rw [hr, tn21, hn]; rfl
        iterate 5 (first | refine rs_ex rfl (by (first | (constructor <;> first | rfl | exact RdC.rd | exact inferInstance) | exact Ex.pickF rfl rfl | exact Ex.eqlS rfl rfl | exact Ex.neqS rfl rfl | exact Ex.eqlPN rfl rfl | exact Ex.neqPN rfl rfl | exact Ex.eqlSN rfl rfl | exact Ex.neqSN rfl rfl | exact Ex.lenStr rfl)) rfl ?_ | refine rs_skip rfl rfl ?_)
        refine rs_end ?_
        refine qe_then ?_
        refine ct_cond rfl (fun _ => ?_) (fun h => absurd h (by decide))
        refine ct_seq ?_
        refine ct_region ?_
        (first | refine rs_ex rfl (by (first | (constructor <;> first | rfl | exact RdC.rd | exact inferInstance) | exact Ex.pickF rfl rfl | exact Ex.eqlS rfl rfl | exact Ex.neqS rfl rfl | exact Ex.eqlPN rfl rfl | exact Ex.neqPN rfl rfl | exact Ex.eqlSN rfl rfl | exact Ex.neqSN rfl rfl | exact Ex.lenStr rfl)) rfl ?_ | refine rs_skip rfl rfl ?_)
        refine rs_opN rfl (opR_store rfl rfl rfl rfl ?_)
        (first | refine rs_ex rfl (by (first | (constructor <;> first | rfl | exact RdC.rd | exact inferInstance) | exact Ex.pickF rfl rfl | exact Ex.eqlS rfl rfl | exact Ex.neqS rfl rfl | exact Ex.eqlPN rfl rfl | exact Ex.neqPN rfl rfl | exact Ex.eqlSN rfl rfl | exact Ex.neqSN rfl rfl | exact Ex.lenStr rfl)) rfl ?_ | refine rs_skip rfl rfl ?_)
        refine rs_end ?_
        refine qe_then ?_
        refine ct_ret ?_
        exact retS3 rfl rfl rfl RdC.rd H (fun w h => h.fit) (TurnR.ok (x := s) (by rw [ho]; rfl))
      · have hlt : 1 ≤ s.data.size := by simp at h59; omega
        have hd : hasPre s.data ⟨#[98]⟩ = decide (s.data.extract 0 1 = ⟨#[98]⟩) := by rw [hasPre, show (⟨#[98]⟩ : ByteArray).size = 1 from rfl, decide_eq_true hlt]; rfl
        obtain ⟨c, hcd, hce⟩ := first_byte hlt
        iterate 2 (first | refine rs_ex rfl (by (first | (constructor <;> first | rfl | exact RdC.rd | exact inferInstance) | exact Ex.pickF rfl rfl | exact Ex.eqlS rfl rfl | exact Ex.neqS rfl rfl | exact Ex.eqlPN rfl rfl | exact Ex.neqPN rfl rfl | exact Ex.eqlSN rfl rfl | exact Ex.neqSN rfl rfl | exact Ex.lenStr rfl)) rfl ?_ | refine rs_skip rfl rfl ?_)
        refine rs_ex rfl (ex_indexStr (i := 0) rfl rfl hcd) rfl ?_
        iterate 2 (first | refine rs_ex rfl (by (first | (constructor <;> first | rfl | exact RdC.rd | exact inferInstance) | exact Ex.pickF rfl rfl | exact Ex.eqlS rfl rfl | exact Ex.neqS rfl rfl | exact Ex.eqlPN rfl rfl | exact Ex.neqPN rfl rfl | exact Ex.eqlSN rfl rfl | exact Ex.neqSN rfl rfl | exact Ex.lenStr rfl)) rfl ?_ | refine rs_skip rfl rfl ?_)
        refine rs_end ?_
        refine qe_then ?_
        refine ct_cond rfl (fun h64 => ?_) (fun h64 => ?_)
        · have ho : refO s false = none := by
            first | exact ho | (rw [hr, tn21, if_neg]; rw [hd, hce]; simp at h64; simp; intro h; subst h; simp at h64)
          refine ct_seq ?_
          refine ct_region ?_
          (first | refine rs_ex rfl (by (first | (constructor <;> first | rfl | exact RdC.rd | exact inferInstance) | exact Ex.pickF rfl rfl | exact Ex.eqlS rfl rfl | exact Ex.neqS rfl rfl | exact Ex.eqlPN rfl rfl | exact Ex.neqPN rfl rfl | exact Ex.eqlSN rfl rfl | exact Ex.neqSN rfl rfl | exact Ex.lenStr rfl)) rfl ?_ | refine rs_skip rfl rfl ?_)
          refine rs_opN rfl (opR_store rfl rfl rfl rfl ?_)
          (first | refine rs_ex rfl (by (first | (constructor <;> first | rfl | exact RdC.rd | exact inferInstance) | exact Ex.pickF rfl rfl | exact Ex.eqlS rfl rfl | exact Ex.neqS rfl rfl | exact Ex.eqlPN rfl rfl | exact Ex.neqPN rfl rfl | exact Ex.eqlSN rfl rfl | exact Ex.neqSN rfl rfl | exact Ex.lenStr rfl)) rfl ?_ | refine rs_skip rfl rfl ?_)
          refine rs_end ?_
          refine qe_then ?_
          refine ct_ret ?_
          exact retS3 rfl rfl rfl RdC.rd H (fun w h => h.fit) (TurnR.ok (x := s) (by rw [ho]; rfl))
        · have hn : hasPre s.data ⟨#[98]⟩ = true := by rw [hd, hce]; simp at h64; simp; apply UInt8.toNat.inj; show c.toNat = 98; omega
          have hx := size_list (s.data.extract 1 s.data.size)
          have ho : refO s false = some ⟨1, s.cnt, s.data.extract 1 s.data.size⟩ := by
            rw [hr, tn21, if_pos hn, turned, if_pos (by rw [hx]; simp; omega), toB_self]
          refine ct_skip ?_
          refine qe_then ?_
          refine ct_region ?_
          iterate 2 (first | refine rs_ex rfl (by (first | (constructor <;> first | rfl | exact RdC.rd | exact inferInstance) | exact Ex.pickF rfl rfl | exact Ex.eqlS rfl rfl | exact Ex.neqS rfl rfl | exact Ex.eqlPN rfl rfl | exact Ex.neqPN rfl rfl | exact Ex.eqlSN rfl rfl | exact Ex.neqSN rfl rfl | exact Ex.lenStr rfl)) rfl ?_ | refine rs_skip rfl rfl ?_)
          refine rs_ex rfl (ex_sliceStr (i := 1) (j := s.data.size) rfl (.inr ⟨_, _, rfl, rfl⟩) (.inl ⟨rfl, rfl⟩) (by omega) (by omega)) rfl ?_
          (first | refine rs_ex rfl (by (first | (constructor <;> first | rfl | exact RdC.rd | exact inferInstance) | exact Ex.pickF rfl rfl | exact Ex.eqlS rfl rfl | exact Ex.neqS rfl rfl | exact Ex.eqlPN rfl rfl | exact Ex.neqPN rfl rfl | exact Ex.eqlSN rfl rfl | exact Ex.neqSN rfl rfl | exact Ex.lenStr rfl)) rfl ?_ | refine rs_skip rfl rfl ?_)
          refine rs_opN rfl (opR_store rfl rfl rfl rfl ?_)
          refine rs_end ?_
          refine qe_then ?_
          refine ct_seq ?_
          refine ct_region ?_
          iterate 3 (first | refine rs_ex rfl (by (first | (constructor <;> first | rfl | exact RdC.rd | exact inferInstance) | exact Ex.pickF rfl rfl | exact Ex.eqlS rfl rfl | exact Ex.neqS rfl rfl | exact Ex.eqlPN rfl rfl | exact Ex.neqPN rfl rfl | exact Ex.eqlSN rfl rfl | exact Ex.neqSN rfl rfl | exact Ex.lenStr rfl)) rfl ?_ | refine rs_skip rfl rfl ?_)
          refine rs_rw (by rw [wrap64 (by omega) (by omega)]) ?_
          (first | refine rs_ex rfl (by (first | (constructor <;> first | rfl | exact RdC.rd | exact inferInstance) | exact Ex.pickF rfl rfl | exact Ex.eqlS rfl rfl | exact Ex.neqS rfl rfl | exact Ex.eqlPN rfl rfl | exact Ex.neqPN rfl rfl | exact Ex.eqlSN rfl rfl | exact Ex.neqSN rfl rfl | exact Ex.lenStr rfl)) rfl ?_ | refine rs_skip rfl rfl ?_)
          refine rs_opN rfl (opR_store rfl rfl rfl rfl ?_)
          refine rs_end ?_
          refine qe_then ?_
          refine ct_seq ?_
          refine ct_region ?_
          (first | refine rs_ex rfl (by (first | (constructor <;> first | rfl | exact RdC.rd | exact inferInstance) | exact Ex.pickF rfl rfl | exact Ex.eqlS rfl rfl | exact Ex.neqS rfl rfl | exact Ex.eqlPN rfl rfl | exact Ex.neqPN rfl rfl | exact Ex.eqlSN rfl rfl | exact Ex.neqSN rfl rfl | exact Ex.lenStr rfl)) rfl ?_ | refine rs_skip rfl rfl ?_)
          refine rs_opN rfl (opR_store rfl rfl rfl rfl ?_)
          (first | refine rs_ex rfl (by (first | (constructor <;> first | rfl | exact RdC.rd | exact inferInstance) | exact Ex.pickF rfl rfl | exact Ex.eqlS rfl rfl | exact Ex.neqS rfl rfl | exact Ex.eqlPN rfl rfl | exact Ex.neqPN rfl rfl | exact Ex.eqlSN rfl rfl | exact Ex.neqSN rfl rfl | exact Ex.lenStr rfl)) rfl ?_ | refine rs_skip rfl rfl ?_)
          refine rs_end ?_
          refine qe_then ?_
          refine ct_ret ?_
          exact retS3 rfl rfl rfl RdC.rd H (fun w h => h.fit) (TurnR.ok (x := ⟨_, _, _⟩) (by rw [ho, h3]; rfl))
end Go.Rost
/- Migrating as the reference does it. -/
namespace Go.Rost
open Go Go.RowKit Go.Proofs

theorem stepsL_self (x : Int) : stepsL x x = [] := by simp [stepsL, stepsFrom]
theorem stepsL_cons {x y : Int} (hx : 1 ≤ x ∧ x ≤ 3) (hy : 1 ≤ y ∧ y ≤ 3) (hne : x ≠ y) : stepsL x y = ⟨x, x + dirOf x y⟩ :: stepsL (x + dirOf x y) y := by
  obtain rfl | rfl | rfl : x = 1 ∨ x = 2 ∨ x = 3 := by omega
  all_goals obtain rfl | rfl | rfl : y = 1 ∨ y = 2 ∨ y = 3 := by omega
  all_goals first | exact absurd rfl hne | rfl
theorem turnX_ref {s : Sta} {to : Int} (hx : 1 ≤ s.ver ∧ s.ver ≤ 3) (hy : 1 ≤ to ∧ to ≤ 3) (hne : s.ver ≠ to) : turnX ⟨s.ver, s.ver + dirOf s.ver to⟩ s = refO s (decide (s.ver < to)) := by
  unfold turnX refO dirOf
  obtain h | h | h : s.ver = 1 ∨ s.ver = 2 ∨ s.ver = 3 := by omega
  all_goals obtain rfl | rfl | rfl : to = 1 ∨ to = 2 ∨ to = 3 := by omega
  all_goals first | exact absurd h hne | (rw [h]; simp)
theorem RefMigrate_c (W0 : World) (s : Sta) (to : Int) (H : List Chunk) (hc : 0 ≤ s.cnt) :
    Call Tryd.prog W0 16 [s.v, .int .i64 to] H (fun v H' => v = .tuple #[(migV s to).1.v, .int .i64 (migV s to).2] ∧ H' = H) := by
  refine call_enter Tryd.func16 rfl Tryd.ntmps16 rfl ?_

  refine ct_seq ?_
  refine ct_region ?_
  refine rs_op rfl rfl (opR_box rfl fun b2 => ?_)
  refine rs_op rfl rfl (opR_alloc fun b4 => ?_)
  (first | refine rs_ex rfl (by (first | (constructor <;> first | rfl | exact RdC.rd | exact inferInstance) | exact Ex.pickF rfl rfl | exact Ex.eqlS rfl rfl | exact Ex.neqS rfl rfl | exact Ex.eqlPN rfl rfl | exact Ex.neqPN rfl rfl | exact Ex.eqlSN rfl rfl | exact Ex.neqSN rfl rfl | exact Ex.lenStr rfl)) rfl ?_ | refine rs_skip rfl rfl ?_)
  refine rs_end ?_
  refine qe_then ?_
  refine ct_seq ?_
  refine ct_region ?_
  iterate 3 (first | refine rs_ex rfl (by (first | (constructor <;> first | rfl | exact RdC.rd | exact inferInstance) | exact Ex.pickF rfl rfl | exact Ex.eqlS rfl rfl | exact Ex.neqS rfl rfl | exact Ex.eqlPN rfl rfl | exact Ex.neqPN rfl rfl | exact Ex.eqlSN rfl rfl | exact Ex.neqSN rfl rfl | exact Ex.lenStr rfl)) rfl ?_ | refine rs_skip rfl rfl ?_)
  refine rs_op rfl rfl (opR_fn rfl (Call.heap (fun w h => by (first | exact h | exact h.sw1 | exact h.sw2 | exact h.sw3 | exact h.sw4 | exact h.sw5 | exact h.sw6 | exact h.sw7 | exact h.sw8 | exact h.pull2 | exact h.pull3 | exact h.pull4 | exact h.pull5 | exact h.fit)) ((RefCheck_c W0 s.ver to _).mono ?_)))
  rintro v H' ⟨rfl, rfl⟩
  (first | refine rs_ex rfl (by (first | (constructor <;> first | rfl | exact RdC.rd | exact inferInstance) | exact Ex.pickF rfl rfl | exact Ex.eqlS rfl rfl | exact Ex.neqS rfl rfl | exact Ex.eqlPN rfl rfl | exact Ex.neqPN rfl rfl | exact Ex.eqlSN rfl rfl | exact Ex.neqSN rfl rfl | exact Ex.lenStr rfl)) rfl ?_ | refine rs_skip rfl rfl ?_)
  refine rs_end ?_
  refine qe_then ?_
  refine ct_seq ?_
  refine ct_seq ?_
  refine ct_region ?_
  iterate 2 (first | refine rs_ex rfl (by (first | (constructor <;> first | rfl | exact RdC.rd | exact inferInstance) | exact Ex.pickF rfl rfl | exact Ex.eqlS rfl rfl | exact Ex.neqS rfl rfl | exact Ex.eqlPN rfl rfl | exact Ex.neqPN rfl rfl | exact Ex.eqlSN rfl rfl | exact Ex.neqSN rfl rfl | exact Ex.lenStr rfl)) rfl ?_ | refine rs_skip rfl rfl ?_)
  refine rs_end ?_
  refine qe_then ?_
  refine ct_cond rfl (fun h15 => ?_) (fun h15 => ?_)
  · have hv : migV s to = (.zero, checkVer s.ver to) := by rw [migV, if_pos]; simpa using h15
    refine ct_seq ?_
    refine ct_region ?_
    refine rs_ex rfl (ex_build rfl) rfl ?_
    (first | refine rs_ex rfl (by (first | (constructor <;> first | rfl | exact RdC.rd | exact inferInstance) | exact Ex.pickF rfl rfl | exact Ex.eqlS rfl rfl | exact Ex.neqS rfl rfl | exact Ex.eqlPN rfl rfl | exact Ex.neqPN rfl rfl | exact Ex.eqlSN rfl rfl | exact Ex.neqSN rfl rfl | exact Ex.lenStr rfl)) rfl ?_ | refine rs_skip rfl rfl ?_)
    refine rs_opN rfl (opR_store rfl rfl rfl rfl ?_)
    (first | refine rs_ex rfl (by (first | (constructor <;> first | rfl | exact RdC.rd | exact inferInstance) | exact Ex.pickF rfl rfl | exact Ex.eqlS rfl rfl | exact Ex.neqS rfl rfl | exact Ex.eqlPN rfl rfl | exact Ex.neqPN rfl rfl | exact Ex.eqlSN rfl rfl | exact Ex.neqSN rfl rfl | exact Ex.lenStr rfl)) rfl ?_ | refine rs_skip rfl rfl ?_)
    refine rs_end ?_
    refine qe_then ?_
    refine ct_ret ?_
    exact retS3 rfl rfl rfl RdC.rd H (fun w h => h.fit) ⟨by rw [hv]; rfl, rfl⟩
  · have hk : checkVer s.ver to = 0 := by simpa using h15
    refine ct_skip ?_
    refine qe_then ?_
    refine ct_seq ?_
    refine ct_region ?_
    (first | refine rs_ex rfl (by (first | (constructor <;> first | rfl | exact RdC.rd | exact inferInstance) | exact Ex.pickF rfl rfl | exact Ex.eqlS rfl rfl | exact Ex.neqS rfl rfl | exact Ex.eqlPN rfl rfl | exact Ex.neqPN rfl rfl | exact Ex.eqlSN rfl rfl | exact Ex.neqSN rfl rfl | exact Ex.lenStr rfl)) rfl ?_ | refine rs_skip rfl rfl ?_)
    refine rs_op rfl rfl (opR_fn rfl (Call.heap (fun w h => by (first | exact h | exact h.sw1 | exact h.sw2 | exact h.sw3 | exact h.sw4 | exact h.sw5 | exact h.sw6 | exact h.sw7 | exact h.sw8 | exact h.pull2 | exact h.pull3 | exact h.pull4 | exact h.pull5 | exact h.fit)) ((RefRight_c W0 s _).mono ?_)))
    rintro v H' ⟨rfl, rfl⟩
    (first | refine rs_ex rfl (by (first | (constructor <;> first | rfl | exact RdC.rd | exact inferInstance) | exact Ex.pickF rfl rfl | exact Ex.eqlS rfl rfl | exact Ex.neqS rfl rfl | exact Ex.eqlPN rfl rfl | exact Ex.neqPN rfl rfl | exact Ex.eqlSN rfl rfl | exact Ex.neqSN rfl rfl | exact Ex.lenStr rfl)) rfl ?_ | refine rs_skip rfl rfl ?_)
    refine rs_end ?_
    refine qe_then ?_
    refine ct_seq ?_
    refine ct_seq ?_
    refine ct_region ?_
    iterate 2 (first | refine rs_ex rfl (by (first | (constructor <;> first | rfl | exact RdC.rd | exact inferInstance) | exact Ex.pickF rfl rfl | exact Ex.eqlS rfl rfl | exact Ex.neqS rfl rfl | exact Ex.eqlPN rfl rfl | exact Ex.neqPN rfl rfl | exact Ex.eqlSN rfl rfl | exact Ex.neqSN rfl rfl | exact Ex.lenStr rfl)) rfl ?_ | refine rs_skip rfl rfl ?_)
    refine rs_end ?_
    refine qe_then ?_
    refine ct_cond rfl (fun h21 => ?_) (fun h21 => ?_)
    · have hkn := (checkVer_known hk).1
      have hv : migV s to = (.zero, 132) := by rw [migV, if_neg (by simp [hk]), if_pos]; simp [hkn] at h21; omega
      refine ct_seq ?_
      refine ct_region ?_
      refine rs_ex rfl (ex_build rfl) rfl ?_
      refine rs_opN rfl (opR_store rfl rfl rfl rfl ?_)
      (first | refine rs_ex rfl (by (first | (constructor <;> first | rfl | exact RdC.rd | exact inferInstance) | exact Ex.pickF rfl rfl | exact Ex.eqlS rfl rfl | exact Ex.neqS rfl rfl | exact Ex.eqlPN rfl rfl | exact Ex.neqPN rfl rfl | exact Ex.eqlSN rfl rfl | exact Ex.neqSN rfl rfl | exact Ex.lenStr rfl)) rfl ?_ | refine rs_skip rfl rfl ?_)
      refine rs_end ?_
      refine qe_then ?_
      refine ct_ret ?_
      exact retS3 rfl rfl rfl RdC.rd H (fun w h => h.fit) ⟨by rw [hv]; rfl, rfl⟩
    · have hkn := checkVer_known hk
      have hsz : s.data.size ≤ 1000 := by simp [hkn.1] at h21; omega
      have hv : migV s to = match migL (stepsL s.ver to) s with | some t => (t, 0) | none => (.zero, 132) := by rw [migV, if_neg (by simp [hk]), if_neg (by omega)]
      have hb1 := known_spec.1 hkn.1
      have hb2 := known_spec.1 hkn.2
      refine ct_skip ?_
      refine qe_then ?_
      refine ct_seq ?_
      refine ct_block ?_
      refine ct_loopc (ζ := Sta) (fun t => (1 ≤ t.ver ∧ t.ver ≤ 3) ∧ t.data.size ≤ 1000 ∧ 0 ≤ t.cnt ∧ migL (stepsL t.ver to) t = migL (stepsL s.ver to) s) [(1, _), (2, _), (4, _)] (fun t => []) (fun t => Blk b4 (.cells #[.int .i64 0, .int .u32 0, .string ⟨#[]⟩] 24 (0, 0)) :: Blk b2 (.cells #[.int .i64 t.ver, .int .u32 t.cnt, .string t.data] 24 (0, 0)) :: H) (fun t => (to - t.ver).natAbs) (s) (⟨hb1, hsz, hc, rfl⟩) ⟨rfl, rfl, rfl, trivial⟩ (fun w h => by first | exact h.fit | exact h) ?_
      rintro t ⟨hb, hts, htc, hm⟩
      refine ct_seq ?_
      refine ct_seq ?_
      refine ct_region ?_
      iterate 4 (first | refine rs_ex rfl (by (first | (constructor <;> first | rfl | exact RdC.rd | exact inferInstance) | exact Ex.pickF rfl rfl | exact Ex.eqlS rfl rfl | exact Ex.neqS rfl rfl | exact Ex.eqlPN rfl rfl | exact Ex.neqPN rfl rfl | exact Ex.eqlSN rfl rfl | exact Ex.neqSN rfl rfl | exact Ex.lenStr rfl)) rfl ?_ | refine rs_skip rfl rfl ?_)
      refine rs_end ?_
      refine qe_then ?_
      refine ct_cond rfl (fun h26 => ?_) (fun h26 => ?_)
      · have hne : t.ver ≠ to := by simpa using h26
        rw [stepsL_cons hb hb2 hne, migL, turnX_ref hb hb2 hne] at hm
        refine ct_skip ?_
        refine qe_then ?_
        refine ct_block ?_
        refine ct_seq ?_
        refine ct_region ?_
        iterate 5 (first | refine rs_ex rfl (by (first | (constructor <;> first | rfl | exact RdC.rd | exact inferInstance) | exact Ex.pickF rfl rfl | exact Ex.eqlS rfl rfl | exact Ex.neqS rfl rfl | exact Ex.eqlPN rfl rfl | exact Ex.neqPN rfl rfl | exact Ex.eqlSN rfl rfl | exact Ex.neqSN rfl rfl | exact Ex.lenStr rfl)) rfl ?_ | refine rs_skip rfl rfl ?_)
        refine rs_op rfl rfl (opR_fn rfl (Call.heap (fun w h => by (first | exact h | exact h.sw1 | exact h.sw2 | exact h.sw3 | exact h.sw4 | exact h.sw5 | exact h.sw6 | exact h.sw7 | exact h.sw8 | exact h.pull2 | exact h.pull3 | exact h.pull4 | exact h.pull5 | exact h.fit)) ((RefTurn_c W0 t (decide (t.ver < to)) _ htc hts (by by_cases hlt : t.ver < to <;> simp [hlt] <;> omega)).mono ?_)))
        rintro v H' ⟨x, hxo, rfl, rfl⟩
        iterate 3 (first | refine rs_ex rfl (by (first | (constructor <;> first | rfl | exact RdC.rd | exact inferInstance) | exact Ex.pickF rfl rfl | exact Ex.eqlS rfl rfl | exact Ex.neqS rfl rfl | exact Ex.eqlPN rfl rfl | exact Ex.neqPN rfl rfl | exact Ex.eqlSN rfl rfl | exact Ex.neqSN rfl rfl | exact Ex.lenStr rfl)) rfl ?_ | refine rs_skip rfl rfl ?_)
        refine rs_op rfl rfl (opR_alloc fun b8 => ?_)
        refine rs_opN rfl (opR_store rfl rfl rfl rfl ?_)
        (first | refine rs_ex rfl (by (first | (constructor <;> first | rfl | exact RdC.rd | exact inferInstance) | exact Ex.pickF rfl rfl | exact Ex.eqlS rfl rfl | exact Ex.neqS rfl rfl | exact Ex.eqlPN rfl rfl | exact Ex.neqPN rfl rfl | exact Ex.eqlSN rfl rfl | exact Ex.neqSN rfl rfl | exact Ex.lenStr rfl)) rfl ?_ | refine rs_skip rfl rfl ?_)
        refine rs_end ?_
        refine qe_then ?_
        refine ct_seq ?_
        refine ct_seq ?_
        refine ct_region ?_
        iterate 2 (first | refine rs_ex rfl (by (first | (constructor <;> first | rfl | exact RdC.rd | exact inferInstance) | exact Ex.pickF rfl rfl | exact Ex.eqlS rfl rfl | exact Ex.neqS rfl rfl | exact Ex.eqlPN rfl rfl | exact Ex.neqPN rfl rfl | exact Ex.eqlSN rfl rfl | exact Ex.neqSN rfl rfl | exact Ex.lenStr rfl)) rfl ?_ | refine rs_skip rfl rfl ?_)
        refine rs_end ?_
        refine qe_then ?_
        refine ct_cond rfl (fun h37 => ?_) (fun h37 => ?_)
        · have ho : refO t (decide (t.ver < to)) = none := by
            cases ho : refO t (decide (t.ver < to)) with
            | none => rfl
            | some u => rw [ho] at h37; cases h37
          rw [ho] at hm
          simp only at hm
          refine ct_seq ?_
          refine ct_region ?_
          refine rs_ex rfl (ex_build rfl) rfl ?_
          refine rs_opN rfl (opR_store rfl rfl rfl rfl ?_)
          (first | refine rs_ex rfl (by (first | (constructor <;> first | rfl | exact RdC.rd | exact inferInstance) | exact Ex.pickF rfl rfl | exact Ex.eqlS rfl rfl | exact Ex.neqS rfl rfl | exact Ex.eqlPN rfl rfl | exact Ex.neqPN rfl rfl | exact Ex.eqlSN rfl rfl | exact Ex.neqSN rfl rfl | exact Ex.lenStr rfl)) rfl ?_ | refine rs_skip rfl rfl ?_)
          refine rs_end ?_
          refine qe_then ?_
          refine ct_ret ?_
          exact retS3 rfl rfl rfl RdC.rd H (fun w h => h.fit) ⟨by rw [hv, ← hm]; rfl, rfl⟩
        · obtain ⟨u, ho⟩ : ∃ u, refO t (decide (t.ver < to)) = some u := by
            cases ho : refO t (decide (t.ver < to)) with
            | none => rw [ho] at h37; cases h37
            | some u => exact ⟨u, rfl⟩
          have hxu := hxo u ho
          subst hxu
          have hts' := turnX_some ((turnX_ref hb hb2 hne).trans ho)
          rw [ho] at hm
          simp only at hm
          have hd : dirOf t.ver to = if to < t.ver then -1 else 1 := rfl
          refine ct_skip ?_
          refine qe_then ?_
          refine ct_region ?_
          (first | refine rs_ex rfl (by (first | (constructor <;> first | rfl | exact RdC.rd | exact inferInstance) | exact Ex.pickF rfl rfl | exact Ex.eqlS rfl rfl | exact Ex.neqS rfl rfl | exact Ex.eqlPN rfl rfl | exact Ex.neqPN rfl rfl | exact Ex.eqlSN rfl rfl | exact Ex.neqSN rfl rfl | exact Ex.lenStr rfl)) rfl ?_ | refine rs_skip rfl rfl ?_)
          refine rs_opN rfl (opR_store rfl rfl rfl rfl ?_)
          refine rs_end ?_
          refine qe_block 1 ?_
          refine qe_loopc (x) (⟨by rw [hts'.2.1]; simp only; rw [hd]; split <;> omega, hts'.2.2, by rw [hts'.1]; exact htc, by rw [hts'.2.1]; exact hm⟩) (by rw [hts'.2.1]; simp only; rw [hd]; split <;> omega) ⟨rfl, rfl, rfl, trivial⟩ (fun w h => by first | exact h.fit | exact h)
      · have heq : t.ver = to := by simpa using h26
        rw [heq, stepsL_self, migL] at hm
        refine ct_exit ?_
        refine qe_then_exit ?_
        refine qe_loop_exit ?_
        refine qe_block_exit ?_
        refine qe_then ?_
        refine ct_seq ?_
        refine ct_region ?_
        (first | refine rs_ex rfl (by (first | (constructor <;> first | rfl | exact RdC.rd | exact inferInstance) | exact Ex.pickF rfl rfl | exact Ex.eqlS rfl rfl | exact Ex.neqS rfl rfl | exact Ex.eqlPN rfl rfl | exact Ex.neqPN rfl rfl | exact Ex.eqlSN rfl rfl | exact Ex.neqSN rfl rfl | exact Ex.lenStr rfl)) rfl ?_ | refine rs_skip rfl rfl ?_)
        refine rs_opN rfl (opR_store rfl rfl rfl rfl ?_)
        (first | refine rs_ex rfl (by (first | (constructor <;> first | rfl | exact RdC.rd | exact inferInstance) | exact Ex.pickF rfl rfl | exact Ex.eqlS rfl rfl | exact Ex.neqS rfl rfl | exact Ex.eqlPN rfl rfl | exact Ex.neqPN rfl rfl | exact Ex.eqlSN rfl rfl | exact Ex.neqSN rfl rfl | exact Ex.lenStr rfl)) rfl ?_ | refine rs_skip rfl rfl ?_)
        refine rs_end ?_
        refine qe_then ?_
        refine ct_ret ?_
        exact retS3 rfl rfl rfl RdC.rd H (fun w h => h.fit) ⟨by rw [hv, ← hm]; rfl, rfl⟩
theorem RefBegin_c (W0 : World) (x : Int) (H : List Chunk) :
    Call Tryd.prog W0 23 [.int .i64 x] H (fun v H' => v = .tuple #[(beginV x).1.v, .int .i64 (beginV x).2] ∧ H' = H) := by
  refine call_enter Tryd.func23 rfl Tryd.ntmps23 rfl ?_

  refine ct_seq ?_
  refine ct_region ?_
  refine rs_op rfl rfl (opR_alloc fun b2 => ?_)
  (first | refine rs_ex rfl (by (first | (constructor <;> first | rfl | exact RdC.rd | exact inferInstance) | exact Ex.pickF rfl rfl | exact Ex.eqlS rfl rfl | exact Ex.neqS rfl rfl | exact Ex.eqlPN rfl rfl | exact Ex.neqPN rfl rfl | exact Ex.eqlSN rfl rfl | exact Ex.neqSN rfl rfl | exact Ex.lenStr rfl)) rfl ?_ | refine rs_skip rfl rfl ?_)
  refine rs_end ?_
  refine qe_then ?_
  refine ct_seq ?_
  refine ct_region ?_
  refine rs_ex rfl (ex_build rfl) rfl ?_
  refine rs_op rfl rfl (opR_alloc fun b4 => ?_)
  refine rs_opN rfl (opR_store rfl rfl rfl rfl ?_)
  refine rs_end ?_
  refine qe_then ?_
  refine ct_seq ?_
  refine ct_seq ?_
  refine ct_region ?_
  iterate 2 (first | refine rs_ex rfl (by (first | (constructor <;> first | rfl | exact RdC.rd | exact inferInstance) | exact Ex.pickF rfl rfl | exact Ex.eqlS rfl rfl | exact Ex.neqS rfl rfl | exact Ex.eqlPN rfl rfl | exact Ex.neqPN rfl rfl | exact Ex.eqlSN rfl rfl | exact Ex.neqSN rfl rfl | exact Ex.lenStr rfl)) rfl ?_ | refine rs_skip rfl rfl ?_)
  refine rs_end ?_
  refine qe_then ?_
  refine ct_cond rfl (fun h7 => ?_) (fun h7 => ?_)
  · have hx : x = 1 := by simpa using h7
    refine ct_seq ?_
    refine ct_region ?_
    (first | refine rs_ex rfl (by (first | (constructor <;> first | rfl | exact RdC.rd | exact inferInstance) | exact Ex.pickF rfl rfl | exact Ex.eqlS rfl rfl | exact Ex.neqS rfl rfl | exact Ex.eqlPN rfl rfl | exact Ex.neqPN rfl rfl | exact Ex.eqlSN rfl rfl | exact Ex.neqSN rfl rfl | exact Ex.lenStr rfl)) rfl ?_ | refine rs_skip rfl rfl ?_)
    refine rs_opN rfl (opR_store rfl rfl rfl rfl ?_)
    (first | refine rs_ex rfl (by (first | (constructor <;> first | rfl | exact RdC.rd | exact inferInstance) | exact Ex.pickF rfl rfl | exact Ex.eqlS rfl rfl | exact Ex.neqS rfl rfl | exact Ex.eqlPN rfl rfl | exact Ex.neqPN rfl rfl | exact Ex.eqlSN rfl rfl | exact Ex.neqSN rfl rfl | exact Ex.lenStr rfl)) rfl ?_ | refine rs_skip rfl rfl ?_)
    refine rs_end ?_
    refine qe_then ?_
    refine ct_ret ?_
    exact retS3 rfl rfl rfl RdC.rd H (fun w h => h.fit) ⟨by rw [beginV, if_pos hx]; rfl, rfl⟩
  · have hx : x ≠ 1 := by simpa using h7
    have hb : beginV x = migV ⟨1, 0, ⟨#[]⟩⟩ x := if_neg hx
    refine ct_skip ?_
    refine qe_then ?_
    refine ct_seq ?_
    refine ct_region ?_
    iterate 2 (first | refine rs_ex rfl (by (first | (constructor <;> first | rfl | exact RdC.rd | exact inferInstance) | exact Ex.pickF rfl rfl | exact Ex.eqlS rfl rfl | exact Ex.neqS rfl rfl | exact Ex.eqlPN rfl rfl | exact Ex.neqPN rfl rfl | exact Ex.eqlSN rfl rfl | exact Ex.neqSN rfl rfl | exact Ex.lenStr rfl)) rfl ?_ | refine rs_skip rfl rfl ?_)
    refine rs_op rfl rfl (opR_fn rfl (Call.heap (fun w h => by (first | exact h | exact h.sw1 | exact h.sw2 | exact h.sw3 | exact h.sw4 | exact h.sw5 | exact h.sw6 | exact h.sw7 | exact h.sw8 | exact h.pull2 | exact h.pull3 | exact h.pull4 | exact h.pull5 | exact h.fit)) ((RefMigrate_c W0 ⟨1, 0, ⟨#[]⟩⟩ x _ (by decide)).mono ?_)))
    rintro v H' ⟨rfl, rfl⟩
    rw [← hb]
    iterate 2 (first | refine rs_ex rfl (by (first | (constructor <;> first | rfl | exact RdC.rd | exact inferInstance) | exact Ex.pickF rfl rfl | exact Ex.eqlS rfl rfl | exact Ex.neqS rfl rfl | exact Ex.eqlPN rfl rfl | exact Ex.neqPN rfl rfl | exact Ex.eqlSN rfl rfl | exact Ex.neqSN rfl rfl | exact Ex.lenStr rfl)) rfl ?_ | refine rs_skip rfl rfl ?_)
    refine rs_opN rfl (opR_store rfl rfl rfl rfl ?_)
    (first | refine rs_ex rfl (by (first | (constructor <;> first | rfl | exact RdC.rd | exact inferInstance) | exact Ex.pickF rfl rfl | exact Ex.eqlS rfl rfl | exact Ex.neqS rfl rfl | exact Ex.eqlPN rfl rfl | exact Ex.neqPN rfl rfl | exact Ex.eqlSN rfl rfl | exact Ex.neqSN rfl rfl | exact Ex.lenStr rfl)) rfl ?_ | refine rs_skip rfl rfl ?_)
    refine rs_end ?_
    refine qe_then ?_
    refine ct_ret ?_
    exact retS3 rfl rfl rfl RdC.rd H (fun w h => h.fit) ⟨rfl, rfl⟩
def Sta.cut (s : Sta) : Sta := ⟨s.ver, s.cnt, s.data.extract 0 (min s.data.size 1100)⟩
theorem Cut13_c (W0 : World) (s : Sta) (H : List Chunk) : Call Tryd.prog W0 14 [s.v] H (fun v H' => v = s.cut.v ∧ H' = H) := by
  have hmin : (if (1100 : Int) < (s.data.size : Int) then (1100 : Int) else (s.data.size : Int)) = ((min s.data.size 1100 : Nat) : Int) := by split <;> omega
  refine call_enter Tryd.func14 rfl Tryd.ntmps14 rfl ?_

  refine ct_seq ?_
  refine ct_region ?_
  refine rs_op rfl rfl (opR_box rfl fun b1 => ?_)
  refine rs_op rfl rfl (opR_alloc fun b2 => ?_)
  refine rs_end ?_
  refine qe_then ?_
  refine ct_seq ?_
  refine ct_region ?_
  iterate 5 (first | refine rs_ex rfl (by (first | (constructor <;> first | rfl | exact RdC.rd | exact inferInstance) | exact Ex.pickF rfl rfl | exact Ex.eqlS rfl rfl | exact Ex.neqS rfl rfl | exact Ex.eqlPN rfl rfl | exact Ex.neqPN rfl rfl | exact Ex.eqlSN rfl rfl | exact Ex.neqSN rfl rfl | exact Ex.lenStr rfl)) rfl ?_ | refine rs_skip rfl rfl ?_)
  refine rs_ex rfl (ex_min rfl rfl) rfl ?_
  refine rs_rw (by rw [hmin]) ?_
  refine rs_ex rfl (ex_sliceStr (i := 0) (j := min s.data.size 1100) rfl (.inl ⟨rfl, rfl⟩) (.inr ⟨_, _, rfl, rfl⟩) (by omega) (by omega)) rfl ?_
  (first | refine rs_ex rfl (by (first | (constructor <;> first | rfl | exact RdC.rd | exact inferInstance) | exact Ex.pickF rfl rfl | exact Ex.eqlS rfl rfl | exact Ex.neqS rfl rfl | exact Ex.eqlPN rfl rfl | exact Ex.neqPN rfl rfl | exact Ex.eqlSN rfl rfl | exact Ex.neqSN rfl rfl | exact Ex.lenStr rfl)) rfl ?_ | refine rs_skip rfl rfl ?_)
  refine rs_opN rfl (opR_store rfl rfl rfl rfl ?_)
  refine rs_end ?_
  refine qe_then ?_
  refine ct_seq ?_
  refine ct_region ?_
  (first | refine rs_ex rfl (by (first | (constructor <;> first | rfl | exact RdC.rd | exact inferInstance) | exact Ex.pickF rfl rfl | exact Ex.eqlS rfl rfl | exact Ex.neqS rfl rfl | exact Ex.eqlPN rfl rfl | exact Ex.neqPN rfl rfl | exact Ex.eqlSN rfl rfl | exact Ex.neqSN rfl rfl | exact Ex.lenStr rfl)) rfl ?_ | refine rs_skip rfl rfl ?_)
  refine rs_opN rfl (opR_store rfl rfl rfl rfl ?_)
  refine rs_end ?_
  refine qe_then ?_
  refine ct_ret ?_
  exact retC (vs := [.int .i64 s.ver, .int .u32 s.cnt, .string (s.data.extract 0 (min s.data.size 1100))]) rfl rfl rfl RdC.rd (fun j v e => by simpa using e) H (fun w h => h.fit) ⟨rfl, rfl⟩
theorem shown_a : migV ⟨1, 5, ⟨#[120]⟩⟩ 3 = (⟨3, 5, ⟨#[98, 120, 5, 0, 0, 0]⟩⟩, 0) := by kernel_rfl
theorem shown_b : (migV ⟨2, 0, ⟨#[120]⟩⟩ 1).2 = 132 := by kernel_rfl
theorem Shown13_c (W0 : World) (a : Addr) (hg : RdBlk (At W0 []) 0 #[errF a]) (H : List Chunk) : Call Tryd.prog W0 13 [] H (fun v H' => v = .bool true ∧ H' = H) := by
  refine call_enter Tryd.func13 rfl Tryd.ntmps13 rfl ?_

  refine ct_seq ?_
  refine ct_region ?_
  (first | refine rs_ex rfl (by (first | (constructor <;> first | rfl | exact RdC.rd | exact inferInstance) | exact Ex.pickF rfl rfl | exact Ex.eqlS rfl rfl | exact Ex.neqS rfl rfl | exact Ex.eqlPN rfl rfl | exact Ex.neqPN rfl rfl | exact Ex.eqlSN rfl rfl | exact Ex.neqSN rfl rfl | exact Ex.lenStr rfl)) rfl ?_ | refine rs_skip rfl rfl ?_)
  refine rs_end ?_
  refine qe_then ?_
  refine ct_seq ?_
  refine ct_region ?_
  refine rs_ex rfl (ex_build rfl) rfl ?_
  refine rs_op rfl rfl (opR_fn rfl (Call.heap (fun w h => by (first | exact h | exact h.sw1 | exact h.sw2 | exact h.sw3 | exact h.sw4 | exact h.sw5 | exact h.sw6 | exact h.sw7 | exact h.sw8 | exact h.pull2 | exact h.pull3 | exact h.pull4 | exact h.pull5 | exact h.fit)) ((Migrate_c W0 a hg ⟨1, 5, ⟨#[120]⟩⟩ 3 _ (by decide)).mono ?_)))
  rintro v H' ⟨rfl, rfl⟩
  rw [shown_a]
  iterate 3 (first | refine rs_ex rfl (by (first | (constructor <;> first | rfl | exact RdC.rd | exact inferInstance) | exact Ex.pickF rfl rfl | exact Ex.eqlS rfl rfl | exact Ex.neqS rfl rfl | exact Ex.eqlPN rfl rfl | exact Ex.neqPN rfl rfl | exact Ex.eqlSN rfl rfl | exact Ex.neqSN rfl rfl | exact Ex.lenStr rfl)) rfl ?_ | refine rs_skip rfl rfl ?_)
  refine rs_op rfl rfl (opR_alloc fun b1 => ?_)
  refine rs_opN rfl (opR_store rfl rfl rfl rfl ?_)
  (first | refine rs_ex rfl (by (first | (constructor <;> first | rfl | exact RdC.rd | exact inferInstance) | exact Ex.pickF rfl rfl | exact Ex.eqlS rfl rfl | exact Ex.neqS rfl rfl | exact Ex.eqlPN rfl rfl | exact Ex.neqPN rfl rfl | exact Ex.eqlSN rfl rfl | exact Ex.neqSN rfl rfl | exact Ex.lenStr rfl)) rfl ?_ | refine rs_skip rfl rfl ?_)
  refine rs_end ?_
  refine qe_then ?_
  refine ct_seq ?_
  refine ct_region ?_
  refine rs_ex rfl (ex_build rfl) rfl ?_
  refine rs_op rfl rfl (opR_fn rfl (Call.heap (fun w h => by (first | exact h | exact h.sw1 | exact h.sw2 | exact h.sw3 | exact h.sw4 | exact h.sw5 | exact h.sw6 | exact h.sw7 | exact h.sw8 | exact h.pull2 | exact h.pull3 | exact h.pull4 | exact h.pull5 | exact h.fit)) ((Migrate_c W0 a hg ⟨2, 0, ⟨#[120]⟩⟩ 1 _ (by decide)).mono ?_)))
  rintro v H' ⟨rfl, rfl⟩
  rw [shown_b]
  iterate 3 (first | refine rs_ex rfl (by (first | (constructor <;> first | rfl | exact RdC.rd | exact inferInstance) | exact Ex.pickF rfl rfl | exact Ex.eqlS rfl rfl | exact Ex.neqS rfl rfl | exact Ex.eqlPN rfl rfl | exact Ex.neqPN rfl rfl | exact Ex.eqlSN rfl rfl | exact Ex.neqSN rfl rfl | exact Ex.lenStr rfl)) rfl ?_ | refine rs_skip rfl rfl ?_)
  refine rs_op rfl rfl (opR_alloc fun b3 => ?_)
  refine rs_opN rfl (opR_store rfl rfl rfl rfl ?_)
  (first | refine rs_ex rfl (by (first | (constructor <;> first | rfl | exact RdC.rd | exact inferInstance) | exact Ex.pickF rfl rfl | exact Ex.eqlS rfl rfl | exact Ex.neqS rfl rfl | exact Ex.eqlPN rfl rfl | exact Ex.neqPN rfl rfl | exact Ex.eqlSN rfl rfl | exact Ex.neqSN rfl rfl | exact Ex.lenStr rfl)) rfl ?_ | refine rs_skip rfl rfl ?_)
  refine rs_end ?_
  refine qe_then ?_
  refine ct_seq ?_
  refine ct_region ?_
  iterate 3 (first | refine rs_ex rfl (by (first | (constructor <;> first | rfl | exact RdC.rd | exact inferInstance) | exact Ex.pickF rfl rfl | exact Ex.eqlS rfl rfl | exact Ex.neqS rfl rfl | exact Ex.eqlPN rfl rfl | exact Ex.neqPN rfl rfl | exact Ex.eqlSN rfl rfl | exact Ex.neqSN rfl rfl | exact Ex.lenStr rfl)) rfl ?_ | refine rs_skip rfl rfl ?_)
  refine rs_split (fun h17 => ?_) (fun h17 => by cases h17)
  iterate 4 (first | refine rs_ex rfl (by (first | (constructor <;> first | rfl | exact RdC.rd | exact inferInstance) | exact Ex.pickF rfl rfl | exact Ex.eqlS rfl rfl | exact Ex.neqS rfl rfl | exact Ex.eqlPN rfl rfl | exact Ex.neqPN rfl rfl | exact Ex.eqlSN rfl rfl | exact Ex.neqSN rfl rfl | exact Ex.lenStr rfl)) rfl ?_ | refine rs_skip rfl rfl ?_)
  refine rs_split (fun h21 => ?_) (fun h21 => by cases h21)
  (first | refine rs_ex rfl (by (first | (constructor <;> first | rfl | exact RdC.rd | exact inferInstance) | exact Ex.pickF rfl rfl | exact Ex.eqlS rfl rfl | exact Ex.neqS rfl rfl | exact Ex.eqlPN rfl rfl | exact Ex.neqPN rfl rfl | exact Ex.eqlSN rfl rfl | exact Ex.neqSN rfl rfl | exact Ex.lenStr rfl)) rfl ?_ | refine rs_skip rfl rfl ?_)
  refine rs_ex rfl (ex_build rfl) rfl ?_
  refine rs_ex rfl (ex_eqSta ⟨3, 5, ⟨#[98, 120, 5, 0, 0, 0]⟩⟩ ⟨3, 5, ⟨#[98, 120, 5, 0, 0, 0]⟩⟩ rfl rfl) rfl ?_
  refine rs_rw (by rw [decide_eq_true rfl]) ?_
  iterate 2 (first | refine rs_ex rfl (by (first | (constructor <;> first | rfl | exact RdC.rd | exact inferInstance) | exact Ex.pickF rfl rfl | exact Ex.eqlS rfl rfl | exact Ex.neqS rfl rfl | exact Ex.eqlPN rfl rfl | exact Ex.neqPN rfl rfl | exact Ex.eqlSN rfl rfl | exact Ex.neqSN rfl rfl | exact Ex.lenStr rfl)) rfl ?_ | refine rs_skip rfl rfl ?_)
  refine rs_split (fun h26 => ?_) (fun h26 => by cases h26)
  refine rs_op rfl rfl (opR_fn rfl (Call.heap (fun w h => by (first | exact h | exact h.sw1 | exact h.sw2 | exact h.sw3 | exact h.sw4 | exact h.sw5 | exact h.sw6 | exact h.sw7 | exact h.sw8 | exact h.pull2 | exact h.pull3 | exact h.pull4 | exact h.pull5 | exact h.fit)) ((Check_ver W0 1 1 _).mono ?_)))
  rintro v H' ⟨rfl, rfl⟩
  iterate 3 (first | refine rs_ex rfl (by (first | (constructor <;> first | rfl | exact RdC.rd | exact inferInstance) | exact Ex.pickF rfl rfl | exact Ex.eqlS rfl rfl | exact Ex.neqS rfl rfl | exact Ex.eqlPN rfl rfl | exact Ex.neqPN rfl rfl | exact Ex.eqlSN rfl rfl | exact Ex.neqSN rfl rfl | exact Ex.lenStr rfl)) rfl ?_ | refine rs_skip rfl rfl ?_)
  refine rs_end ?_
  refine qe_then ?_
  refine ct_ret ?_
  exact qe_fit (ret1 rfl rfl ⟨rfl, rfl⟩)
end Go.Rost
/- The plain laws of migrating. -/
namespace Go.Rost
open Go Go.RowKit Go.Proofs

theorem toB_ext (l : List UInt8) (i j : Nat) : (toB l).extract i j = toB ((l.take j).drop i) := by
  apply ByteArray.ext
  rw [ByteArray.data_extract]
  apply Array.toList_inj.mp
  simp [toB, List.drop_take]
theorem toB_list (l : List UInt8) : (toB l).data.toList = l := by simp [toB]
theorem toB_inj {l m : List UInt8} : toB l = toB m ↔ l = m := ⟨fun h => by have := congrArg (fun s : ByteArray => s.data.toList) h; simpa [toB] using this, fun h => by rw [h]⟩
theorem putB (n : Int) : (⟨(putL n).toArray⟩ : ByteArray) = toB (putL n) := rfl
theorem hasSuf_b (l : List UInt8) (n : Int) : hasSuf (toB l) ⟨(putL n).toArray⟩ = decide (4 ≤ l.length ∧ l.drop (l.length - 4) = putL n) := by
  rw [hasSuf, putB_size, toB_size, toB_ext, putB, List.take_length]
  rw [Bool.eq_iff_iff]; simp [toB_inj]
theorem hasPre_b (l : List UInt8) : hasPre (toB l) ⟨#[98]⟩ = decide (l.take 1 = [98]) := by
  rw [hasPre, show (⟨#[98]⟩ : ByteArray).size = 1 from rfl, toB_size, toB_ext, show (⟨#[98]⟩ : ByteArray) = toB [98] from rfl, List.drop_zero]
  rw [Bool.eq_iff_iff]
  simp only [Bool.and_eq_true, decide_eq_true_eq, toB_inj]
  constructor
  · exact fun h => h.2
  · intro h
    refine ⟨?_, h⟩
    cases l with
    | nil => cases h
    | cons c l => simp
theorem turned_of {s : Sta} {to : Int} {l : List UInt8} (h : l.length ≤ 1000) : turned s to l = some ⟨to, s.cnt, toB l⟩ := if_pos h
theorem tn32_b (v c : Int) (l : List UInt8) : tn32 ⟨v, c, toB l⟩ = if 4 ≤ l.length ∧ l.drop (l.length - 4) = putL c then turned ⟨v, c, toB l⟩ 2 (l.take (l.length - 4)) else none := by
  rw [tn32, hasSuf_b]
  simp only [decide_eq_true_eq, toB_size, toB_ext, toB_list, List.drop_zero]
theorem tn21_b (v c : Int) (l : List UInt8) : tn21 ⟨v, c, toB l⟩ = if l.take 1 = [98] then turned ⟨v, c, toB l⟩ 1 (l.drop 1) else none := by
  rw [tn21, hasPre_b]
  simp only [decide_eq_true_eq, toB_size, toB_ext, toB_list, List.take_length]
theorem tn12_b (v c : Int) (l : List UInt8) : tn12 ⟨v, c, toB l⟩ = turned ⟨v, c, toB l⟩ 2 (98 :: l) := by rw [tn12]; simp only [Sta.l, toB_list]
theorem tn23_b (v c : Int) (l : List UInt8) : tn23 ⟨v, c, toB l⟩ = turned ⟨v, c, toB l⟩ 3 (l ++ putL c) := by rw [tn23]; simp only [Sta.l, toB_list]
theorem turn_back {k : Stp} (hk : k.Ok) {s t : Sta} (hs : s.data.size ≤ 1000) (hv : s.ver = k.a) (h : turnX k s = some t) : turnX ⟨k.b, k.a⟩ t = some s := by
  obtain ⟨v, c, d⟩ := s
  obtain ⟨l, rfl⟩ : ∃ l, d = toB l := ⟨_, (toB_self d).symm⟩
  rw [toB_size] at hs
  simp only at hs hv
  subst hv
  rcases hk with rfl | rfl | rfl | rfl
  · change tn12 _ = some t at h
    change tn21 t = _
    rw [tn12_b] at h
    obtain ⟨rfl, hl⟩ := turned_some h
    rw [tn21_b, if_pos (by simp), List.drop_one, List.tail_cons, turned_of hs]
  · change tn23 _ = some t at h
    change tn32 t = _
    rw [tn23_b] at h
    obtain ⟨rfl, hl⟩ := turned_some h
    rw [tn32_b, List.length_append, putL_len, Nat.add_sub_cancel, if_pos ⟨by omega, by simp⟩, List.take_left', turned_of hs]
    rfl
  · change tn32 _ = some t at h
    change tn23 t = _
    rw [tn32_b] at h
    split at h
    · rename_i h4
      obtain ⟨rfl, hl⟩ := turned_some h
      rw [tn23_b, show l.take (l.length - 4) ++ putL c = l by rw [← h4.2, List.take_append_drop], turned_of hs]
    · cases h
  · change tn21 _ = some t at h
    change tn12 t = _
    rw [tn21_b] at h
    split at h
    · rename_i h1
      obtain ⟨rfl, hl⟩ := turned_some h
      rw [tn12_b, show 98 :: l.drop 1 = l by rw [← List.take_append_drop 1 l, h1]; simp, turned_of hs]
    · cases h
theorem mig_two {k1 k2 : Stp} {s t : Sta} (h : migL [k1, k2] s = some t) : ∃ u, turnX k1 s = some u ∧ turnX k2 u = some t := by
  simp only [migL] at h
  split at h
  · rename_i u hu
    split at h
    · rename_i x hx; cases h; exact ⟨u, hu, hx⟩
    · cases h
  · cases h
theorem mig_one {k : Stp} {s t : Sta} (h : migL [k] s = some t) : turnX k s = some t := by
  simp only [migL] at h
  split at h
  · rename_i x hx; cases h; exact hx
  · cases h
theorem one_mig {k : Stp} {s t : Sta} (h : turnX k s = some t) : migL [k] s = some t := by simp only [migL, h]
theorem two_mig {k1 k2 : Stp} {s u t : Sta} (h1 : turnX k1 s = some u) (h2 : turnX k2 u = some t) : migL [k1, k2] s = some t := by simp only [migL, h1, h2]
theorem steps_all {x y : Int} (hx : 1 ≤ x ∧ x ≤ 3) (hy : 1 ≤ y ∧ y ≤ 3) (hne : x ≠ y) : (stepsL x y = [⟨x, y⟩] ∧ stepsL y x = [⟨y, x⟩] ∧ (⟨x, y⟩ : Stp).Ok) ∨ (∃ m, stepsL x y = [⟨x, m⟩, ⟨m, y⟩] ∧ stepsL y x = [⟨y, m⟩, ⟨m, x⟩] ∧ (⟨x, m⟩ : Stp).Ok ∧ (⟨m, y⟩ : Stp).Ok) := by
  obtain rfl | rfl | rfl : x = 1 ∨ x = 2 ∨ x = 3 := by omega
  all_goals obtain rfl | rfl | rfl : y = 1 ∨ y = 2 ∨ y = 3 := by omega
  all_goals first | exact absurd rfl hne | exact .inl ⟨rfl, rfl, by simp [Stp.Ok]⟩ | exact .inr ⟨2, rfl, rfl, by simp [Stp.Ok], by simp [Stp.Ok]⟩
theorem mig_ver {x y : Int} (hx : 1 ≤ x ∧ x ≤ 3) (hy : 1 ≤ y ∧ y ≤ 3) (hne : x ≠ y) {s t : Sta} (hs : s.data.size ≤ 1000) (hv : s.ver = x) (h : migL (stepsL x y) s = some t) : t.ver = y ∧ t.cnt = s.cnt ∧ t.data.size ≤ 1000 ∧ migL (stepsL y x) t = some s := by
  rcases steps_all hx hy hne with ⟨e1, e2, ho⟩ | ⟨m, e1, e2, ho1, ho2⟩
  · rw [e1] at h
    rw [e2]
    have h1 := mig_one h
    have h2 := turnX_some h1
    exact ⟨h2.2.1, h2.1, h2.2.2, one_mig (turn_back ho hs hv h1)⟩
  · rw [e1] at h
    rw [e2]
    obtain ⟨u, h1, h2⟩ := mig_two h
    have h3 := turnX_some h1
    have h4 := turnX_some h2
    exact ⟨h4.2.1, h4.1.trans h3.1, h4.2.2, two_mig (turn_back ho2 h3.2.2 h3.2.1 h2) (turn_back ho1 hs hv h1)⟩
theorem checkVer_ok {x y : Int} (hx : known x = true) (hy : known y = true) (hne : x ≠ y) : checkVer x y = 0 := by
  rw [checkVer, if_neg (by simp [hx, hy]), if_neg hne]
theorem checkVer_ne {x y : Int} (h : checkVer x y = 0) : x ≠ y := by
  rintro rfl
  unfold checkVer at h
  split at h
  · cases h
  · simp at h
theorem migV_ok {s : Sta} {to : Int} (h : checkVer s.ver to = 0) (hs : s.data.size ≤ 1000) : migV s to = match migL (stepsL s.ver to) s with | some t => (t, 0) | none => (.zero, 132) := by rw [migV, if_neg (by simp [h]), if_neg (by omega)]
theorem migV_cases (s : Sta) (to : Int) : (∃ e, e ≠ 0 ∧ migV s to = (.zero, e)) ∨ (∃ t, migV s to = (t, 0) ∧ checkVer s.ver to = 0 ∧ s.data.size ≤ 1000 ∧ migL (stepsL s.ver to) s = some t) := by
  by_cases h : checkVer s.ver to = 0
  · by_cases hs : s.data.size ≤ 1000
    · rw [migV_ok h hs]
      cases hm : migL (stepsL s.ver to) s with
      | none => exact .inl ⟨132, by decide, rfl⟩
      | some t => exact .inr ⟨t, rfl, h, hs, rfl⟩
    · exact .inl ⟨132, by decide, by rw [migV, if_neg (by simp [h]), if_pos (by omega)]⟩
  · exact .inl ⟨_, h, by rw [migV, if_pos h]⟩
theorem mig_back {s : Sta} {to : Int} (h : (migV s to).2 = 0) : migV (migV s to).1 s.ver = (s, 0) ∧ known (migV s to).1.ver = true ∧ (migV s to).1.data.size ≤ 1000 ∧ (migV s to).1.ver = to ∧ (migV s to).1.cnt = s.cnt ∧ to ≠ s.ver := by
  rcases migV_cases s to with ⟨e, he, hv⟩ | ⟨t, hv, hk, hs, hm⟩
  · rw [hv] at h; exact absurd h he
  · rw [hv]
    simp only
    have hkn := checkVer_known hk
    have hne := checkVer_ne hk
    obtain ⟨h1, h2, h3, h4⟩ := mig_ver (known_spec.1 hkn.1) (known_spec.1 hkn.2) hne hs rfl hm
    refine ⟨?_, by rw [h1]; exact hkn.2, h3, h1, h2, fun e => hne e.symm⟩
    rw [migV_ok (by rw [h1]; exact checkVer_ok hkn.2 hkn.1 (fun e => hne e.symm)) h3, h1, h4]
theorem mig_bad {s : Sta} {to : Int} (h : (migV s to).2 ≠ 0) : (migV s to).1 = .zero := by
  rcases migV_cases s to with ⟨e, he, hv⟩ | ⟨t, hv, hk, hs, hm⟩
  · rw [hv]
  · rw [hv] at h; exact absurd rfl h
theorem mig_ways {s : Sta} (h1 : s.ver = 1) : ((migV s 2).2 ≠ 0 → (migV s 3).2 = 132) ∧ ((migV s 2).2 = 0 → migV s 3 = migV (migV s 2).1 3) := by
  have k2 : checkVer s.ver 2 = 0 := by rw [h1]; rfl
  have k3 : checkVer s.ver 3 = 0 := by rw [h1]; rfl
  by_cases hs : s.data.size ≤ 1000
  · rw [migV_ok k2 hs, migV_ok k3 hs, h1]
    rw [show stepsL 1 2 = [⟨1, 2⟩] from rfl, show stepsL 1 3 = [⟨1, 2⟩, ⟨2, 3⟩] from rfl]
    simp only [migL]
    cases hu : turnX ⟨1, 2⟩ s with
    | none => simp
    | some u =>
      simp only
      refine ⟨fun h => absurd rfl h, fun _ => ?_⟩
      have h2 := turnX_some hu
      rw [migV_ok (s := u) (by rw [h2.2.1]; rfl) h2.2.2, h2.2.1]
      rw [show stepsL 2 3 = [⟨2, 3⟩] from rfl]
      simp only [migL]
  · have e2 : migV s 2 = (.zero, 132) := by rw [migV, if_neg (by simp [k2]), if_pos (by omega)]
    have e3 : migV s 3 = (.zero, 132) := by rw [migV, if_neg (by simp [k3]), if_pos (by omega)]
    rw [e2, e3]
    exact ⟨fun _ => rfl, fun h => (by cases h)⟩
theorem begin_known (v : Int) : decide ((beginV v).2 = 0) = known v := by
  by_cases hk : known v = true
  · obtain rfl | rfl | rfl : v = 1 ∨ v = 2 ∨ v = 3 := by have := known_spec.1 hk; omega
    · rfl
    · kernel_rfl
    · kernel_rfl
  · have h1 : v ≠ 1 := by rintro rfl; exact hk rfl
    have hf : known v = false := by simpa using hk
    rw [beginV, if_neg h1, migV, if_pos (by simp [checkVer, hf]), hf]
    simp [checkVer, hf]
theorem begin_mig {v w : Int} (hv : (beginV v).2 = 0) (hw : (beginV w).2 = 0) (hne : v ≠ w) : migV (beginV v).1 w = ((beginV w).1, 0) ∧ (beginV v).1.cnt = 0 := by
  have h1 := begin_known v
  have h2 := begin_known w
  rw [decide_eq_true hv] at h1
  rw [decide_eq_true hw] at h2
  have h3 := known_spec.1 h1.symm
  have h4 := known_spec.1 h2.symm
  obtain rfl | rfl | rfl : v = 1 ∨ v = 2 ∨ v = 3 := by omega
  all_goals obtain rfl | rfl | rfl : w = 1 ∨ w = 2 ∨ w = 3 := by omega
  all_goals first | exact absurd rfl hne | exact ⟨by kernel_rfl, by kernel_rfl⟩
theorem mig_full {d : ByteArray} {to : Int} (h : to = 2 ∨ to = 3) : (migV ⟨1, 0, d⟩ to).2 = if d.size + (if to = 3 then 5 else 1) ≤ 1000 then 0 else 132 := by
  obtain ⟨l, rfl⟩ : ∃ l, d = toB l := ⟨_, (toB_self d).symm⟩
  rw [toB_size]
  by_cases hs : l.length ≤ 1000
  · rcases h with rfl | rfl
    · rw [migV_ok rfl (by rw [toB_size]; exact hs), show stepsL (⟨1, 0, toB l⟩ : Sta).ver 2 = [⟨1, 2⟩] from rfl]
      simp only [migL]
      rw [show turnX ⟨1, 2⟩ ⟨1, 0, toB l⟩ = tn12 ⟨1, 0, toB l⟩ from rfl, tn12_b, turned]
      simp only [List.length_cons]
      by_cases h2 : l.length + 1 ≤ 1000 <;> simp [h2]
    · rw [migV_ok rfl (by rw [toB_size]; exact hs), show stepsL (⟨1, 0, toB l⟩ : Sta).ver 3 = [⟨1, 2⟩, ⟨2, 3⟩] from rfl]
      simp only [migL]
      rw [show turnX ⟨1, 2⟩ ⟨1, 0, toB l⟩ = tn12 ⟨1, 0, toB l⟩ from rfl, tn12_b, turned]
      simp only [List.length_cons]
      by_cases h2 : l.length + 1 ≤ 1000
      · rw [if_pos h2]
        simp only
        rw [show turnX ⟨2, 3⟩ ⟨2, 0, toB (98 :: l)⟩ = tn23 ⟨2, 0, toB (98 :: l)⟩ from rfl, tn23_b, turned]
        simp only [List.length_append, List.length_cons, putL_len]
        by_cases h3 : l.length + 5 ≤ 1000
        · rw [if_pos (by omega), if_pos (by simpa using h3)]
        · rw [if_neg (by omega), if_neg (by simpa using h3)]
      · rw [if_neg h2, if_neg (by simp; omega)]
  · have hk : checkVer 1 to = 0 := by rcases h with rfl | rfl <;> rfl
    rw [migV, if_neg (by simp [hk]), if_pos (by rw [toB_size]; omega), if_neg (by split <;> omega)]
end Go.Rost
