/- The first happenings of a list; who is behind. -/
import Derived.Test.YtgnjjbaeehbheaaL16
import Derived.Test.YtgnjjbaeehbheaaFs
namespace Go.Rost
open Go Go.RowKit Go.Proofs

def zeros (n : Nat) : List UInt8 := List.replicate n 0
def Happ.few (h : Happ) : Happ := if 100 < h.m.data.size then ⟨h.kind, h.node, ⟨h.m.id, ⟨(zeros 1001).toArray⟩⟩⟩ else h
def fewL (l : List Happ) : List Happ := (l.take 100).map Happ.few
theorem fewL_length (l : List Happ) : (fewL l).length ≤ 100 := by simp [fewL]; omega
theorem made_bytes (n : Nat) : madeCells #[Value.int .u8 0] n = (flat (zeros n)).toArray := by
  apply Array.toList_inj.mp
  rw [flat_bytes, zeros]
  simp only [madeCells, Array.toList_map, Array.toList_range, List.map_replicate]
  refine List.ext_getElem (by simp) fun i h1 h2 => ?_
  simp [Nat.mod_one]
  rfl
theorem info_byte : ∃ i, Try.prog.info? 5 = some i ∧ i.zero = some (.int .u8 0) ∧ i.size = 1 ∧ i.bytes = 1 := by
  have h : (Try.prog.info? 5).map (fun i => (i.zero, i.size, i.bytes)) = some (some (.int .u8 0), 1, 1) := by kernel_rfl
  cases e : Try.prog.info? 5 with
  | none => rw [e] at h; cases h
  | some i =>
    rw [e] at h
    simp at h
    exact ⟨i, rfl, h.1, h.2.1, h.2.2⟩
theorem Few_c (W0 : World) (p : Option Addr) (c : Nat) (l : List Happ) (H : List Chunk) (h1 : SlR (At W0 H) p l) :
    Call Try.prog W0 31 [.slice p l.length c] H (fun v H' => H' = SlT 52 v (fewL l) :: H) := by
  refine call_enter Try.func31 rfl Try.ntmps31 rfl ?_

  refine ct_seq ?_
  refine ct_region ?_
  (first | refine rs_ex rfl (by (first | (constructor <;> first | rfl | exact RdC.rd | exact inferInstance) | exact Ex.pickF rfl rfl | exact Ex.eqlS rfl rfl | exact Ex.neqS rfl rfl | exact Ex.eqlPN rfl rfl | exact Ex.neqPN rfl rfl | exact Ex.eqlSN rfl rfl | exact Ex.neqSN rfl rfl | exact Ex.lenStr rfl)) rfl ?_ | refine rs_skip rfl rfl ?_)
  refine rs_end ?_
  refine qe_then ?_
  refine ct_seq ?_
  refine ct_region ?_
  (first | refine rs_ex rfl (by (first | (constructor <;> first | rfl | exact RdC.rd | exact inferInstance) | exact Ex.pickF rfl rfl | exact Ex.eqlS rfl rfl | exact Ex.neqS rfl rfl | exact Ex.eqlPN rfl rfl | exact Ex.neqPN rfl rfl | exact Ex.eqlSN rfl rfl | exact Ex.neqSN rfl rfl | exact Ex.lenStr rfl)) rfl ?_ | refine rs_skip rfl rfl ?_)
  refine rs_end ?_
  refine qe_then ?_
  refine ct_seq ?_
  refine ct_seq ?_
  refine ct_region ?_
  (first | refine rs_ex rfl (by (first | (constructor <;> first | rfl | exact RdC.rd | exact inferInstance) | exact Ex.pickF rfl rfl | exact Ex.eqlS rfl rfl | exact Ex.neqS rfl rfl | exact Ex.eqlPN rfl rfl | exact Ex.neqPN rfl rfl | exact Ex.eqlSN rfl rfl | exact Ex.neqSN rfl rfl | exact Ex.lenStr rfl)) rfl ?_ | refine rs_skip rfl rfl ?_)
  refine rs_end ?_
  refine qe_then ?_
  refine ct_heap (H' := SlT 52 (.slice none 0 0) ((l.take 0).map Happ.few) :: H) (fun w h => At.slt_nil (α := Happ) 52 h) ?_
  refine ct_block ?_
  refine ct_loopc (ζ := Nat × Value) (fun z => z.1 ≤ l.length ∧ z.1 ≤ 100) [(0, _)] (fun z => [(4, .int .i64 (z.1 : Int)), (3, z.2)]) (fun z => SlT 52 z.2 ((l.take z.1).map Happ.few) :: H) (fun z => 100 - z.1) ((0, .slice none 0 0)) (⟨Nat.zero_le _, Nat.zero_le _⟩) ⟨rfl, rfl, rfl, trivial⟩ (fun w h => by first | exact h.fit | exact h) ?_
  rintro ⟨i, v⟩ ⟨hi, hi100⟩
  simp only at hi hi100 ⊢
  refine ct_seq ?_
  refine ct_seq ?_
  refine ct_region ?_
  iterate 5 (first | refine rs_ex rfl (by (first | (constructor <;> first | rfl | exact RdC.rd | exact inferInstance) | exact Ex.pickF rfl rfl | exact Ex.eqlS rfl rfl | exact Ex.neqS rfl rfl | exact Ex.eqlPN rfl rfl | exact Ex.neqPN rfl rfl | exact Ex.eqlSN rfl rfl | exact Ex.neqSN rfl rfl | exact Ex.lenStr rfl)) rfl ?_ | refine rs_skip rfl rfl ?_)
  refine rs_split (fun h10 => ?_) (fun h10 => ?_)
  · iterate 3 (first | refine rs_ex rfl (by (first | (constructor <;> first | rfl | exact RdC.rd | exact inferInstance) | exact Ex.pickF rfl rfl | exact Ex.eqlS rfl rfl | exact Ex.neqS rfl rfl | exact Ex.eqlPN rfl rfl | exact Ex.neqPN rfl rfl | exact Ex.eqlSN rfl rfl | exact Ex.neqSN rfl rfl | exact Ex.lenStr rfl)) rfl ?_ | refine rs_skip rfl rfl ?_)
    refine rs_end ?_
    refine qe_then ?_
    refine ct_cond rfl (fun h13 => ?_) (fun h13 => ?_)
    · have hi1 : i < l.length := by simp at h10; exact h10
      have hi2 : i < 100 := by simp at h13; omega
      obtain ⟨b1, o1, rfl, r1⟩ := h1.get (List.getElem?_eq_getElem hi1)
      obtain ⟨x, hx⟩ : ∃ x, x = l[i] := ⟨_, rfl⟩
      rw [← hx] at r1
      have hstep : (l.take (i + 1)).map Happ.few = (l.take i).map Happ.few ++ [x.few] := by rw [List.take_succ_eq_append_getElem hi1, ← hx]; simp
      refine ct_skip ?_
      refine qe_then ?_
      refine ct_seq ?_
      refine ct_block ?_
      refine ct_seq ?_
      refine ct_region ?_
      iterate 2 (first | refine rs_ex rfl (by (first | (constructor <;> first | rfl | exact RdC.rd | exact inferInstance) | exact Ex.pickF rfl rfl | exact Ex.eqlS rfl rfl | exact Ex.neqS rfl rfl | exact Ex.eqlPN rfl rfl | exact Ex.neqPN rfl rfl | exact Ex.eqlSN rfl rfl | exact Ex.neqSN rfl rfl | exact Ex.lenStr rfl)) rfl ?_ | refine rs_skip rfl rfl ?_)
      refine rs_ex rfl (ex_indexAddr rfl rfl (by omega) (by omega)) rfl ?_
      refine rs_ex rfl (ex_loadHapp x rfl (r1.mono fun w h => h.drop)) rfl ?_
      refine rs_op rfl rfl (opR_alloc fun b5 => ?_)
      refine rs_opN rfl (opR_store rfl rfl rfl rfl ?_)
      refine rs_end ?_
      refine qe_then ?_
      refine ct_seq ?_
      refine ct_seq ?_
      refine ct_region ?_
      iterate 5 (first | refine rs_ex rfl (by (first | (constructor <;> first | rfl | exact RdC.rd | exact inferInstance) | exact Ex.pickF rfl rfl | exact Ex.eqlS rfl rfl | exact Ex.neqS rfl rfl | exact Ex.eqlPN rfl rfl | exact Ex.neqPN rfl rfl | exact Ex.eqlSN rfl rfl | exact Ex.neqSN rfl rfl | exact Ex.lenStr rfl)) rfl ?_ | refine rs_skip rfl rfl ?_)
      refine rs_end ?_
      refine qe_then ?_
      refine ct_cond rfl (fun h24 => ?_) (fun h24 => ?_)
      · have e : x.few = ⟨x.kind, x.node, ⟨x.m.id, ⟨(zeros 1001).toArray⟩⟩⟩ := by rw [Happ.few, if_pos (by simp at h24; omega)]
        obtain ⟨j, hj, hz, hs, hb⟩ := info_byte
        have hzl : (zeros 1001).length = 1001 := List.length_replicate
        refine ct_region ?_
        refine rs_op rfl rfl (opR_makeSlice 1001 Try.underlying85 hj hz rfl rfl (by rw [hs]; decide) (by rw [hb]; decide) (by decide) fun bz => ?_)
        rw [hs, show madeCells (Value.int .u8 0).cells (1001 * 1) = (flat (zeros 1001)).toArray from made_bytes 1001]
        generalize zeros 1001 = Z at *
        refine rs_ex rfl (ex_bytesStr (l := Z) (c := 1001) Try.underlying85 Try.underlying9 Try.underlying5 (by rw [hzl]; rfl) (SlR.blk RdC.rd Z rfl) (fun e => by cases e)) rfl ?_
        iterate 2 (first | refine rs_ex rfl (by (first | (constructor <;> first | rfl | exact RdC.rd | exact inferInstance) | exact Ex.pickF rfl rfl | exact Ex.eqlS rfl rfl | exact Ex.neqS rfl rfl | exact Ex.eqlPN rfl rfl | exact Ex.neqPN rfl rfl | exact Ex.eqlSN rfl rfl | exact Ex.neqSN rfl rfl | exact Ex.lenStr rfl)) rfl ?_ | refine rs_skip rfl rfl ?_)
        refine rs_opN rfl (opR_store rfl rfl rfl rfl ?_)
        refine rs_end ?_
        refine qe_then ?_
        refine ct_region ?_
        iterate 2 (first | refine rs_ex rfl (by (first | (constructor <;> first | rfl | exact RdC.rd | exact inferInstance) | exact Ex.pickF rfl rfl | exact Ex.eqlS rfl rfl | exact Ex.neqS rfl rfl | exact Ex.eqlPN rfl rfl | exact Ex.neqPN rfl rfl | exact Ex.eqlSN rfl rfl | exact Ex.neqSN rfl rfl | exact Ex.lenStr rfl)) rfl ?_ | refine rs_skip rfl rfl ?_)
        refine rs_op rfl rfl (opR_buildSlice rfl rfl rfl rfl fun b31 => ?_)
        refine rs_op rfl rfl (opR_append [x.few] rfl rfl (by rw [e]; exact SlR.blk RdC.rd [_] rfl) rfl (by simp; omega) rfl fun p3 cap3 hv3 => ?_)
        (first | refine rs_ex rfl (by (first | (constructor <;> first | rfl | exact RdC.rd | exact inferInstance) | exact Ex.pickF rfl rfl | exact Ex.eqlS rfl rfl | exact Ex.neqS rfl rfl | exact Ex.eqlPN rfl rfl | exact Ex.neqPN rfl rfl | exact Ex.eqlSN rfl rfl | exact Ex.neqSN rfl rfl | exact Ex.lenStr rfl)) rfl ?_ | refine rs_skip rfl rfl ?_)
        refine rs_end ?_
        refine qe_block 1 ?_
        refine qe_then ?_
        refine ct_region ?_
        iterate 2 (first | refine rs_ex rfl (by (first | (constructor <;> first | rfl | exact RdC.rd | exact inferInstance) | exact Ex.pickF rfl rfl | exact Ex.eqlS rfl rfl | exact Ex.neqS rfl rfl | exact Ex.eqlPN rfl rfl | exact Ex.neqPN rfl rfl | exact Ex.eqlSN rfl rfl | exact Ex.neqSN rfl rfl | exact Ex.lenStr rfl)) rfl ?_ | refine rs_skip rfl rfl ?_)
        refine rs_rw (by rw [wrapS (by omega)]) ?_
        (first | refine rs_ex rfl (by (first | (constructor <;> first | rfl | exact RdC.rd | exact inferInstance) | exact Ex.pickF rfl rfl | exact Ex.eqlS rfl rfl | exact Ex.neqS rfl rfl | exact Ex.eqlPN rfl rfl | exact Ex.neqPN rfl rfl | exact Ex.eqlSN rfl rfl | exact Ex.neqSN rfl rfl | exact Ex.lenStr rfl)) rfl ?_ | refine rs_skip rfl rfl ?_)
        refine rs_end ?_
        rw [← hstep]
        refine qe_loopc ((i + 1, _)) (⟨by simp only; omega, by simp only; omega⟩) (by first | omega | (simp only; omega)) ⟨rfl, rfl, rfl, trivial⟩ (fun w h => h.fit)
      · have e : x.few = x := by rw [Happ.few, if_neg (by simp at h24; omega)]
        refine ct_skip ?_
        refine qe_then ?_
        refine ct_region ?_
        iterate 2 (first | refine rs_ex rfl (by (first | (constructor <;> first | rfl | exact RdC.rd | exact inferInstance) | exact Ex.pickF rfl rfl | exact Ex.eqlS rfl rfl | exact Ex.neqS rfl rfl | exact Ex.eqlPN rfl rfl | exact Ex.neqPN rfl rfl | exact Ex.eqlSN rfl rfl | exact Ex.neqSN rfl rfl | exact Ex.lenStr rfl)) rfl ?_ | refine rs_skip rfl rfl ?_)
        refine rs_op rfl rfl (opR_buildSlice rfl rfl rfl rfl fun b31 => ?_)
        refine rs_op rfl rfl (opR_append [x.few] rfl rfl (by rw [e]; exact SlR.blk RdC.rd [_] rfl) rfl (by simp; omega) rfl fun p3 cap3 hv3 => ?_)
        (first | refine rs_ex rfl (by (first | (constructor <;> first | rfl | exact RdC.rd | exact inferInstance) | exact Ex.pickF rfl rfl | exact Ex.eqlS rfl rfl | exact Ex.neqS rfl rfl | exact Ex.eqlPN rfl rfl | exact Ex.neqPN rfl rfl | exact Ex.eqlSN rfl rfl | exact Ex.neqSN rfl rfl | exact Ex.lenStr rfl)) rfl ?_ | refine rs_skip rfl rfl ?_)
        refine rs_end ?_
        refine qe_block 1 ?_
        refine qe_then ?_
        refine ct_region ?_
        iterate 2 (first | refine rs_ex rfl (by (first | (constructor <;> first | rfl | exact RdC.rd | exact inferInstance) | exact Ex.pickF rfl rfl | exact Ex.eqlS rfl rfl | exact Ex.neqS rfl rfl | exact Ex.eqlPN rfl rfl | exact Ex.neqPN rfl rfl | exact Ex.eqlSN rfl rfl | exact Ex.neqSN rfl rfl | exact Ex.lenStr rfl)) rfl ?_ | refine rs_skip rfl rfl ?_)
        refine rs_rw (by rw [wrapS (by omega)]) ?_
        (first | refine rs_ex rfl (by (first | (constructor <;> first | rfl | exact RdC.rd | exact inferInstance) | exact Ex.pickF rfl rfl | exact Ex.eqlS rfl rfl | exact Ex.neqS rfl rfl | exact Ex.eqlPN rfl rfl | exact Ex.neqPN rfl rfl | exact Ex.eqlSN rfl rfl | exact Ex.neqSN rfl rfl | exact Ex.lenStr rfl)) rfl ?_ | refine rs_skip rfl rfl ?_)
        refine rs_end ?_
        rw [← hstep]
        refine qe_loopc ((i + 1, _)) (⟨by simp only; omega, by simp only; omega⟩) (by first | omega | (simp only; omega)) ⟨rfl, rfl, rfl, trivial⟩ (fun w h => h.fit)
    · have hex : l.take 100 = l.take i := by
        have : i = 100 := by simp at h13; omega
        rw [this]
      refine ct_exit ?_
      refine qe_then_exit ?_
      refine qe_loop_exit ?_
      refine qe_block_exit ?_
      refine qe_then ?_
      refine ct_seq ?_
      refine ct_region ?_
      iterate 2 (first | refine rs_ex rfl (by (first | (constructor <;> first | rfl | exact RdC.rd | exact inferInstance) | exact Ex.pickF rfl rfl | exact Ex.eqlS rfl rfl | exact Ex.neqS rfl rfl | exact Ex.eqlPN rfl rfl | exact Ex.neqPN rfl rfl | exact Ex.eqlSN rfl rfl | exact Ex.neqSN rfl rfl | exact Ex.lenStr rfl)) rfl ?_ | refine rs_skip rfl rfl ?_)
      refine rs_end ?_
      refine qe_then ?_
      refine ct_ret ?_
      exact ret1 rfl rfl (by rw [fewL, hex])
  · have hex : l.take 100 = l.take i := by
      have : i = l.length := by simp at h10; omega
      rw [this, List.take_length, List.take_of_length_le (by omega)]
    iterate 3 (first | refine rs_ex rfl (by (first | (constructor <;> first | rfl | exact RdC.rd | exact inferInstance) | exact Ex.pickF rfl rfl | exact Ex.eqlS rfl rfl | exact Ex.neqS rfl rfl | exact Ex.eqlPN rfl rfl | exact Ex.neqPN rfl rfl | exact Ex.eqlSN rfl rfl | exact Ex.neqSN rfl rfl | exact Ex.lenStr rfl)) rfl ?_ | refine rs_skip rfl rfl ?_)
    refine rs_end ?_
    refine qe_then ?_
    refine ct_cond rfl (fun h => absurd h (by decide)) (fun _ => ?_)
    refine ct_exit ?_
    refine qe_then_exit ?_
    refine qe_loop_exit ?_
    refine qe_block_exit ?_
    refine qe_then ?_
    refine ct_seq ?_
    refine ct_region ?_
    iterate 2 (first | refine rs_ex rfl (by (first | (constructor <;> first | rfl | exact RdC.rd | exact inferInstance) | exact Ex.pickF rfl rfl | exact Ex.eqlS rfl rfl | exact Ex.neqS rfl rfl | exact Ex.eqlPN rfl rfl | exact Ex.neqPN rfl rfl | exact Ex.eqlSN rfl rfl | exact Ex.neqSN rfl rfl | exact Ex.lenStr rfl)) rfl ?_ | refine rs_skip rfl rfl ?_)
    refine rs_end ?_
    refine qe_then ?_
    refine ct_ret ?_
    exact ret1 rfl rfl (by rw [fewL, hex])
def Mod.behind (s : Mod) (n : Int) : Int := if n < 0 ∨ (s.del.length : Int) ≤ n then -1 else (s.book.log.length : Int) - (s.del[n.toNat]?).getD 0
theorem Behind_c (W0 : World) (b n : Nat) (s : Mod) (f : Int) (H : List Chunk) (hok : s.Ok n) (hn : n ≤ 50000) :
    Call Try.prog W0 38 [.pointer (some ⟨b, 0, none⟩), .int .i64 f] (ModC b s :: H) (fun v H' => v = .int .i64 (s.behind f) ∧ H' = ModC b s :: H) := by
  refine Call.ex (fun w h => ModC.open h) ?_
  rintro ⟨ar, nr, bk, dp⟩
  simp only
  have hlen := hok.bk.len
  refine call_enter Try.func38 rfl Try.ntmps38 rfl ?_

  refine ct_seq ?_
  refine ct_region ?_
  (first | refine rs_ex rfl (by (first | (constructor <;> first | rfl | exact RdC.rd | exact inferInstance) | exact Ex.pickF rfl rfl | exact Ex.eqlS rfl rfl | exact Ex.neqS rfl rfl | exact Ex.eqlPN rfl rfl | exact Ex.neqPN rfl rfl | exact Ex.eqlSN rfl rfl | exact Ex.neqSN rfl rfl | exact Ex.lenStr rfl)) rfl ?_ | refine rs_skip rfl rfl ?_)
  refine rs_end ?_
  refine qe_then ?_
  refine ct_seq ?_
  refine ct_seq ?_
  refine ct_region ?_
  iterate 3 (first | refine rs_ex rfl (by (first | (constructor <;> first | rfl | exact RdC.rd | exact inferInstance) | exact Ex.pickF rfl rfl | exact Ex.eqlS rfl rfl | exact Ex.neqS rfl rfl | exact Ex.eqlPN rfl rfl | exact Ex.neqPN rfl rfl | exact Ex.eqlSN rfl rfl | exact Ex.neqSN rfl rfl | exact Ex.lenStr rfl)) rfl ?_ | refine rs_skip rfl rfl ?_)
  refine rs_split (fun h7 => ?_) (fun h7 => ?_)
  · iterate 12 (first | refine rs_ex rfl (by (first | (constructor <;> first | rfl | exact RdC.rd | exact inferInstance) | exact Ex.pickF rfl rfl | exact Ex.eqlS rfl rfl | exact Ex.neqS rfl rfl | exact Ex.eqlPN rfl rfl | exact Ex.neqPN rfl rfl | exact Ex.eqlSN rfl rfl | exact Ex.neqSN rfl rfl | exact Ex.lenStr rfl)) rfl ?_ | refine rs_skip rfl rfl ?_)
    refine rs_end ?_
    refine qe_then ?_
    refine ct_cond rfl (fun _ => ?_) (fun h => absurd h (by decide))
    refine ct_seq ?_
    refine ct_region ?_
    (first | refine rs_ex rfl (by (first | (constructor <;> first | rfl | exact RdC.rd | exact inferInstance) | exact Ex.pickF rfl rfl | exact Ex.eqlS rfl rfl | exact Ex.neqS rfl rfl | exact Ex.eqlPN rfl rfl | exact Ex.neqPN rfl rfl | exact Ex.eqlSN rfl rfl | exact Ex.neqSN rfl rfl | exact Ex.lenStr rfl)) rfl ?_ | refine rs_skip rfl rfl ?_)
    refine rs_end ?_
    refine qe_then ?_
    refine ct_ret ?_
    refine qe_heap (fun w h => ModC.shut h) (ret1 rfl rfl ⟨?_, rfl⟩)
    rw [Mod.behind, if_pos (by simp_all)]
  · iterate 4 (first | refine rs_ex rfl (by (first | (constructor <;> first | rfl | exact RdC.rd | exact inferInstance) | exact Ex.pickF rfl rfl | exact Ex.eqlS rfl rfl | exact Ex.neqS rfl rfl | exact Ex.eqlPN rfl rfl | exact Ex.neqPN rfl rfl | exact Ex.eqlSN rfl rfl | exact Ex.neqSN rfl rfl | exact Ex.lenStr rfl)) rfl ?_ | refine rs_skip rfl rfl ?_)
    refine rs_split (fun h11 => ?_) (fun h11 => ?_)
    · iterate 8 (first | refine rs_ex rfl (by (first | (constructor <;> first | rfl | exact RdC.rd | exact inferInstance) | exact Ex.pickF rfl rfl | exact Ex.eqlS rfl rfl | exact Ex.neqS rfl rfl | exact Ex.eqlPN rfl rfl | exact Ex.neqPN rfl rfl | exact Ex.eqlSN rfl rfl | exact Ex.neqSN rfl rfl | exact Ex.lenStr rfl)) rfl ?_ | refine rs_skip rfl rfl ?_)
      refine rs_end ?_
      refine qe_then ?_
      refine ct_cond rfl (fun _ => ?_) (fun h => absurd h (by decide))
      refine ct_seq ?_
      refine ct_region ?_
      (first | refine rs_ex rfl (by (first | (constructor <;> first | rfl | exact RdC.rd | exact inferInstance) | exact Ex.pickF rfl rfl | exact Ex.eqlS rfl rfl | exact Ex.neqS rfl rfl | exact Ex.eqlPN rfl rfl | exact Ex.neqPN rfl rfl | exact Ex.eqlSN rfl rfl | exact Ex.neqSN rfl rfl | exact Ex.lenStr rfl)) rfl ?_ | refine rs_skip rfl rfl ?_)
      refine rs_end ?_
      refine qe_then ?_
      refine ct_ret ?_
      refine qe_heap (fun w h => ModC.shut h) (ret1 rfl rfl ⟨?_, rfl⟩)
      rw [Mod.behind, if_pos (by simp_all)]
    · iterate 8 (first | refine rs_ex rfl (by (first | (constructor <;> first | rfl | exact RdC.rd | exact inferInstance) | exact Ex.pickF rfl rfl | exact Ex.eqlS rfl rfl | exact Ex.neqS rfl rfl | exact Ex.eqlPN rfl rfl | exact Ex.neqPN rfl rfl | exact Ex.eqlSN rfl rfl | exact Ex.neqSN rfl rfl | exact Ex.lenStr rfl)) rfl ?_ | refine rs_skip rfl rfl ?_)
      refine rs_end ?_
      refine qe_then ?_
      refine ct_cond rfl (fun h19 => ?_) (fun h19 => ?_)
      · refine ct_seq ?_
        refine ct_region ?_
        (first | refine rs_ex rfl (by (first | (constructor <;> first | rfl | exact RdC.rd | exact inferInstance) | exact Ex.pickF rfl rfl | exact Ex.eqlS rfl rfl | exact Ex.neqS rfl rfl | exact Ex.eqlPN rfl rfl | exact Ex.neqPN rfl rfl | exact Ex.eqlSN rfl rfl | exact Ex.neqSN rfl rfl | exact Ex.lenStr rfl)) rfl ?_ | refine rs_skip rfl rfl ?_)
        refine rs_end ?_
        refine qe_then ?_
        refine ct_ret ?_
        refine qe_heap (fun w h => ModC.shut h) (ret1 rfl rfl ⟨?_, rfl⟩)
        rw [Mod.behind, if_pos (by simp_all)]
      · refine ct_skip ?_
        refine qe_then ?_
        refine ct_seq ?_
        have hf : ¬ (f < 0 ∨ (s.del.length : Int) ≤ f) := by simp at h11 h19; omega
        obtain ⟨nn, rfl⟩ : ∃ nn : Nat, f = (nn : Int) := ⟨f.toNat, by omega⟩
        have hlt : nn < s.del.length := by omega
        obtain ⟨k0, hk0⟩ : ∃ k0, s.del[nn]? = some k0 := ⟨_, List.getElem?_eq_getElem hlt⟩
        have hkb := hok.dl k0 (List.mem_of_getElem? hk0)
        have e : s.behind (nn : Int) = (s.book.log.length : Int) - k0 := by rw [Mod.behind, if_neg hf, Int.toNat_natCast, hk0]; rfl
        refine ct_draw0 (by kernel_rfl) ?_
        refine ra_take 0 rfl (by kernel_rfl) (by kernel_rfl) rfl (by (first | (constructor <;> first | rfl | exact RdC.rd | exact inferInstance) | exact Ex.pickF rfl rfl | exact Ex.eqlS rfl rfl | exact Ex.neqS rfl rfl | exact Ex.eqlPN rfl rfl | exact Ex.neqPN rfl rfl | exact Ex.eqlSN rfl rfl | exact Ex.neqSN rfl rfl | exact Ex.lenStr rfl)) rfl (fun _ h => h.fit) ?_
        refine ra_take 1 rfl (by kernel_rfl) (by kernel_rfl) rfl (by (first | (constructor <;> first | rfl | exact RdC.rd | exact inferInstance) | exact Ex.pickF rfl rfl | exact Ex.eqlS rfl rfl | exact Ex.neqS rfl rfl | exact Ex.eqlPN rfl rfl | exact Ex.neqPN rfl rfl | exact Ex.eqlSN rfl rfl | exact Ex.neqSN rfl rfl | exact Ex.lenStr rfl)) rfl (fun _ h => h.fit) ?_
        refine ra_take 2 rfl (by kernel_rfl) (by kernel_rfl) rfl (by (first | (constructor <;> first | rfl | exact RdC.rd | exact inferInstance) | exact Ex.pickF rfl rfl | exact Ex.eqlS rfl rfl | exact Ex.neqS rfl rfl | exact Ex.eqlPN rfl rfl | exact Ex.neqPN rfl rfl | exact Ex.eqlSN rfl rfl | exact Ex.neqSN rfl rfl | exact Ex.lenStr rfl)) rfl (fun _ h => h.fit) ?_
        refine ra_take 3 rfl (by kernel_rfl) (by kernel_rfl) rfl (by (first | (constructor <;> first | rfl | exact RdC.rd | exact inferInstance) | exact Ex.pickF rfl rfl | exact Ex.eqlS rfl rfl | exact Ex.neqS rfl rfl | exact Ex.eqlPN rfl rfl | exact Ex.neqPN rfl rfl | exact Ex.eqlSN rfl rfl | exact Ex.neqSN rfl rfl | exact Ex.lenStr rfl)) rfl (fun _ h => h.fit) ?_
        refine ra_take 6 rfl (by kernel_rfl) (by kernel_rfl) rfl (by (first | (constructor <;> first | rfl | exact RdC.rd | exact inferInstance) | exact Ex.pickF rfl rfl | exact Ex.eqlS rfl rfl | exact Ex.neqS rfl rfl | exact Ex.eqlPN rfl rfl | exact Ex.neqPN rfl rfl | exact Ex.eqlSN rfl rfl | exact Ex.neqSN rfl rfl | exact Ex.lenStr rfl)) rfl (fun _ h => h.fit) ?_
        refine ra_take 7 rfl (by kernel_rfl) (by kernel_rfl) rfl (by (first | (constructor <;> first | rfl | exact RdC.rd | exact inferInstance) | exact Ex.pickF rfl rfl | exact Ex.eqlS rfl rfl | exact Ex.neqS rfl rfl | exact Ex.eqlPN rfl rfl | exact Ex.neqPN rfl rfl | exact Ex.eqlSN rfl rfl | exact Ex.neqSN rfl rfl | exact Ex.lenStr rfl)) rfl (fun _ h => h.fit) ?_
        refine ra_take 8 rfl (by kernel_rfl) (by kernel_rfl) rfl (by (first | (constructor <;> first | rfl | exact RdC.rd | exact inferInstance) | exact Ex.pickF rfl rfl | exact Ex.eqlS rfl rfl | exact Ex.neqS rfl rfl | exact Ex.eqlPN rfl rfl | exact Ex.neqPN rfl rfl | exact Ex.eqlSN rfl rfl | exact Ex.neqSN rfl rfl | exact Ex.lenStr rfl)) rfl (fun _ h => h.fit) ?_
        refine ra_take 9 rfl (by kernel_rfl) (by kernel_rfl) rfl (by (first | (constructor <;> first | rfl | exact RdC.rd | exact inferInstance) | exact Ex.pickF rfl rfl | exact Ex.eqlS rfl rfl | exact Ex.neqS rfl rfl | exact Ex.eqlPN rfl rfl | exact Ex.neqPN rfl rfl | exact Ex.eqlSN rfl rfl | exact Ex.neqSN rfl rfl | exact Ex.lenStr rfl)) rfl (fun _ h => h.fit) ?_
        refine ra_take 10 rfl (by kernel_rfl) (by kernel_rfl) rfl (by (first | (constructor <;> first | rfl | exact RdC.rd | exact inferInstance) | exact Ex.pickF rfl rfl | exact Ex.eqlS rfl rfl | exact Ex.neqS rfl rfl | exact Ex.eqlPN rfl rfl | exact Ex.neqPN rfl rfl | exact Ex.eqlSN rfl rfl | exact Ex.neqSN rfl rfl | exact Ex.lenStr rfl)) rfl (fun _ h => h.fit) ?_
        refine ra_take 11 rfl (by kernel_rfl) (by kernel_rfl) rfl (ex_indexAddr rfl rfl (by omega) (by omega)) rfl (fun _ h => h.fit) ?_
        refine ra_take 12 rfl (by kernel_rfl) (by kernel_rfl) rfl (ex_loadInt k0 rfl (rd_ints RdC.rd hk0)) rfl (fun _ h => h.fit) ?_
        refine ra_all (rs := [4]) (by kernel_rfl) rfl ?_
        refine each_op rfl rfl rfl (opR_fn rfl (Call.heap (fun w h => by (first | exact h | exact h.sw1 | exact h.sw2 | exact h.sw3 | exact h.sw4 | exact h.sw5 | exact h.sw6 | exact h.sw7 | exact h.sw8 | exact h.pull2 | exact h.pull3 | exact h.pull4 | exact h.pull5 | exact h.fit)) ((Log_c W0 bk s.book _ (by omega)).mono ?_))) each_nil
        rintro v H' rfl
        refine ⟨.inr (fun w h => h.fit), ?_⟩
        refine ra_prp (fun w h => h.slv) ?_
        rintro ⟨p, cap, ev, hv⟩
        subst ev
        refine ra_take 5 rfl (by kernel_rfl) (by kernel_rfl) rfl (by (first | (constructor <;> first | rfl | exact RdC.rd | exact inferInstance) | exact Ex.pickF rfl rfl | exact Ex.eqlS rfl rfl | exact Ex.neqS rfl rfl | exact Ex.eqlPN rfl rfl | exact Ex.neqPN rfl rfl | exact Ex.eqlSN rfl rfl | exact Ex.neqSN rfl rfl | exact Ex.lenStr rfl)) rfl (fun _ h => h.fit) ?_
        refine ra_take 13 rfl (by kernel_rfl) (by kernel_rfl) rfl (by (first | (constructor <;> first | rfl | exact RdC.rd | exact inferInstance) | exact Ex.pickF rfl rfl | exact Ex.eqlS rfl rfl | exact Ex.neqS rfl rfl | exact Ex.eqlPN rfl rfl | exact Ex.neqPN rfl rfl | exact Ex.eqlSN rfl rfl | exact Ex.neqSN rfl rfl | exact Ex.lenStr rfl)) rfl (fun _ h => h.fit) ?_
        refine ra_rw (by rw [wrap64 (by omega) (by omega)]) ?_
        refine ra_take 14 rfl (by kernel_rfl) (by kernel_rfl) rfl (by (first | (constructor <;> first | rfl | exact RdC.rd | exact inferInstance) | exact Ex.pickF rfl rfl | exact Ex.eqlS rfl rfl | exact Ex.neqS rfl rfl | exact Ex.eqlPN rfl rfl | exact Ex.neqPN rfl rfl | exact Ex.eqlSN rfl rfl | exact Ex.neqSN rfl rfl | exact Ex.lenStr rfl)) rfl (fun _ h => h.fit) ?_
        refine ra_end (by kernel_rfl) ?_
        refine qe_then ?_
        refine ct_ret ?_
        refine qe_heap (fun w h => ModC.shut (dp := dp) (ar := ar) (nr := nr) (bk := bk) h.fit) (ret1 rfl rfl ⟨by rw [e], rfl⟩)
end Go.Rost
