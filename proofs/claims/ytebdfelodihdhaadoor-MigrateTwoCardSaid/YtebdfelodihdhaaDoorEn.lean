/- Entries of a log, and their bytes. -/
import Derived.Test.YtebdfelodihdhaaDoorJo
import Derived.Test.YtebdfelodihdhaaDoorPa
import Derived.Test.YtebdfelodihdhaaDoorFr
namespace Go.Rost
open Go Go.RowKit Go.Proofs

/-- The byte of a whole number. -/
def byteI (n : Int) : UInt8 := UInt8.ofNat (n % 256).toNat
theorem u8_any (n : Int) : IntKind.u8.wrap n = ((byteI n).toNat : Int) := by
  have h : IntKind.u8.wrap n = n % 256 := by simp [IntKind.wrap, IntKind.signed, IntKind.bits]
  rw [h, byteI]
  have h1 : 0 ≤ n % 256 := Int.emod_nonneg _ (by decide)
  have h2 : n % 256 < 256 := Int.emod_lt_of_pos _ (by decide)
  rw [show (UInt8.ofNat (n % 256).toNat).toNat = (n % 256).toNat % 256 from UInt8.toNat_ofNat']
  omega
/-- An entry, without its messages. -/
structure Ent where
  kind : Int
  epoch : Int
  ver : Int
  msgs : List Msg
def Ent.v (e : Ent) (p : Option Addr) (c : Nat) : Value := .agg #[.int .i64 e.kind, .int .u32 e.epoch, .int .i64 e.ver, .slice p e.msgs.length c]
def Ent.cells (e : Ent) (p : Option Addr) (c : Nat) : Array Value := #[.int .i64 e.kind, .int .u32 e.epoch, .int .i64 e.ver, .slice p e.msgs.length c]
instance {e : Ent} {p : Option Addr} {c : Nat} : CellsOf (e.v p c) [.int .i64 e.kind, .int .u32 e.epoch, .int .i64 e.ver, .slice p e.msgs.length c] := ⟨rfl⟩
def Ent.bytes (e : Ent) : List UInt8 := byteI e.kind :: (putL e.epoch ++ (byteI e.ver :: (packV e.msgs).1.data.toList))
def Ent.bad (e : Ent) : Bool :=
  decide ((packV e.msgs).2 ≠ 0) || (decide (4000 < e.bytes.length) || ((decide (e.kind ≠ 1) && (decide (e.kind ≠ 2) && decide (e.kind ≠ 3))) ||
    ((decide (e.kind ≠ 1) && decide (0 < e.msgs.length)) || ((decide (e.kind ≠ 2) && decide (e.ver ≠ 0)) || (decide (e.ver < 0) || decide (255 < e.ver))))))
def Ent.enc (e : Ent) : ByteArray × Int := if e.bad = true then (⟨#[]⟩, 140) else (toB e.bytes, 0)
theorem packV_size (l : List Msg) : (packV l).1.data.toList.length ≤ 64577 := by
  unfold packV
  split
  · simp
  · rename_i h1
    split
    · rename_i h2
      have := flat_enc_le l (fun x hx => by simpa using (List.all_eq_true.1 h2 x hx))
      simp only [packL, List.length_cons]
      omega
    · simp
theorem Joined14_c (W0 : World) (p : Option Addr) (c : Nat) (ss : List ByteArray) (H : List Chunk) (hr : SlR (At W0 H) p ss) (hl : (joinB ss).length ≤ 900000) (hn : ss.length ≤ 1000) (hc : ss.length ≤ c) (h0 : joinB ss ≠ []) :
    Call Tryd.prog W0 85 [.slice p ss.length c] H (fun v H' => v = .string (toB (joinB ss)) ∧ H' = H) := by
  refine call_enter Tryd.func85 rfl Tryd.ntmps85 rfl ?_

  refine ct_seq ?_
  refine ct_region ?_
  (first | refine rs_ex rfl (by (first | (constructor <;> first | rfl | exact RdC.rd | exact inferInstance) | exact Ex.pickF rfl rfl | exact Ex.eqlS rfl rfl | exact Ex.neqS rfl rfl | exact Ex.eqlPN rfl rfl | exact Ex.neqPN rfl rfl | exact Ex.eqlSN rfl rfl | exact Ex.neqSN rfl rfl | exact Ex.lenStr rfl)) rfl ?_ | refine rs_skip rfl rfl ?_)
  refine rs_end ?_
  refine qe_then ?_
  refine ct_seq ?_
  refine ct_region ?_
  (first | refine rs_ex rfl (by (first | (constructor <;> first | rfl | exact RdC.rd | exact inferInstance) | exact Ex.pickF rfl rfl | exact Ex.eqlS rfl rfl | exact Ex.neqS rfl rfl | exact Ex.eqlPN rfl rfl | exact Ex.neqPN rfl rfl | exact Ex.eqlSN rfl rfl | exact Ex.neqSN rfl rfl | exact Ex.lenStr rfl)) rfl ?_ | refine rs_skip rfl rfl ?_)
  refine rs_op rfl rfl (opR_fn rfl (Call.heap (fun w h => by (first | exact h | exact h.sw1 | exact h.sw2 | exact h.sw3 | exact h.sw4 | exact h.sw5 | exact h.sw6 | exact h.sw7 | exact h.sw8 | exact h.pull2 | exact h.pull3 | exact h.pull4 | exact h.pull5 | exact h.fit)) ((Join_c W0 p c ss _ hr hl hn hc (.inl h0)).mono ?_)))
  rintro v H' ⟨rfl, rfl⟩
  (first | refine rs_ex rfl (by (first | (constructor <;> first | rfl | exact RdC.rd | exact inferInstance) | exact Ex.pickF rfl rfl | exact Ex.eqlS rfl rfl | exact Ex.neqS rfl rfl | exact Ex.eqlPN rfl rfl | exact Ex.neqPN rfl rfl | exact Ex.eqlSN rfl rfl | exact Ex.neqSN rfl rfl | exact Ex.lenStr rfl)) rfl ?_ | refine rs_skip rfl rfl ?_)
  refine rs_end ?_
  refine qe_then ?_
  refine ct_ret ?_
  exact ret1 rfl rfl ⟨rfl, rfl⟩
theorem Encode_c (W0 : World) (e : Ent) (p : Option Addr) (c : Nat) (H : List Chunk) (hr : SlR (At W0 H) p e.msgs) (hl : e.msgs.length ≤ 1000) (h0 : 0 ≤ e.epoch) :
    Call Tryd.prog W0 74 [e.v p c] H (fun v H' => v = .tuple #[.string e.enc.1, .int .i64 e.enc.2] ∧ H' = H) := by
  have hpk := packV_size e.msgs
  have hpl : (putL e.epoch).length = 4 := rfl
  have hjo : joinB [toB [byteI e.kind], ⟨(putL e.epoch).toArray⟩, toB [byteI e.ver], (packV e.msgs).1] = e.bytes := by simp [joinB, toB, Ent.bytes]
  have hbl : e.bytes.length ≤ 70000 := by simp only [Ent.bytes, List.length_cons, List.length_append]; omega
  have hbs : (toB e.bytes).size = e.bytes.length := toB_size _
  refine call_enter Tryd.func74 rfl Tryd.ntmps74 rfl ?_

  refine ct_seq ?_
  refine ct_region ?_
  refine rs_op rfl rfl (opR_box rfl fun b1 => ?_)
  iterate 2 (first | refine rs_ex rfl (by (first | (constructor <;> first | rfl | exact RdC.rd | exact inferInstance) | exact Ex.pickF rfl rfl | exact Ex.eqlS rfl rfl | exact Ex.neqS rfl rfl | exact Ex.eqlPN rfl rfl | exact Ex.neqPN rfl rfl | exact Ex.eqlSN rfl rfl | exact Ex.neqSN rfl rfl | exact Ex.lenStr rfl)) rfl ?_ | refine rs_skip rfl rfl ?_)
  refine rs_end ?_
  refine qe_then ?_
  refine ct_seq ?_
  refine ct_draw0 (by kernel_rfl) ?_
  refine ra_take 0 rfl (by kernel_rfl) (by kernel_rfl) rfl (by (first | (constructor <;> first | rfl | exact RdC.rd | exact inferInstance) | exact Ex.pickF rfl rfl | exact Ex.eqlS rfl rfl | exact Ex.neqS rfl rfl | exact Ex.eqlPN rfl rfl | exact Ex.neqPN rfl rfl | exact Ex.eqlSN rfl rfl | exact Ex.neqSN rfl rfl | exact Ex.lenStr rfl)) rfl (fun _ h => h.fit) ?_
  refine ra_take 1 rfl (by kernel_rfl) (by kernel_rfl) rfl (by (first | (constructor <;> first | rfl | exact RdC.rd | exact inferInstance) | exact Ex.pickF rfl rfl | exact Ex.eqlS rfl rfl | exact Ex.neqS rfl rfl | exact Ex.eqlPN rfl rfl | exact Ex.neqPN rfl rfl | exact Ex.eqlSN rfl rfl | exact Ex.neqSN rfl rfl | exact Ex.lenStr rfl)) rfl (fun _ h => h.fit) ?_
  refine ra_take 2 rfl (by kernel_rfl) (by kernel_rfl) rfl (by (first | (constructor <;> first | rfl | exact RdC.rd | exact inferInstance) | exact Ex.pickF rfl rfl | exact Ex.eqlS rfl rfl | exact Ex.neqS rfl rfl | exact Ex.eqlPN rfl rfl | exact Ex.neqPN rfl rfl | exact Ex.eqlSN rfl rfl | exact Ex.neqSN rfl rfl | exact Ex.lenStr rfl)) rfl (fun _ h => h.fit) ?_
  refine ra_take 3 rfl (by kernel_rfl) (by kernel_rfl) rfl (by (first | (constructor <;> first | rfl | exact RdC.rd | exact inferInstance) | exact Ex.pickF rfl rfl | exact Ex.eqlS rfl rfl | exact Ex.neqS rfl rfl | exact Ex.eqlPN rfl rfl | exact Ex.neqPN rfl rfl | exact Ex.eqlSN rfl rfl | exact Ex.neqSN rfl rfl | exact Ex.lenStr rfl)) rfl (fun _ h => h.fit) ?_
  refine ra_take 4 rfl (by kernel_rfl) (by kernel_rfl) rfl (by (first | (constructor <;> first | rfl | exact RdC.rd | exact inferInstance) | exact Ex.pickF rfl rfl | exact Ex.eqlS rfl rfl | exact Ex.neqS rfl rfl | exact Ex.eqlPN rfl rfl | exact Ex.neqPN rfl rfl | exact Ex.eqlSN rfl rfl | exact Ex.neqSN rfl rfl | exact Ex.lenStr rfl)) rfl (fun _ h => h.fit) ?_
  refine ra_take 5 rfl (by kernel_rfl) (by kernel_rfl) rfl (by (first | (constructor <;> first | rfl | exact RdC.rd | exact inferInstance) | exact Ex.pickF rfl rfl | exact Ex.eqlS rfl rfl | exact Ex.neqS rfl rfl | exact Ex.eqlPN rfl rfl | exact Ex.neqPN rfl rfl | exact Ex.eqlSN rfl rfl | exact Ex.neqSN rfl rfl | exact Ex.lenStr rfl)) rfl (fun _ h => h.fit) ?_
  refine ra_take 6 rfl (by kernel_rfl) (by kernel_rfl) rfl (by (first | (constructor <;> first | rfl | exact RdC.rd | exact inferInstance) | exact Ex.pickF rfl rfl | exact Ex.eqlS rfl rfl | exact Ex.neqS rfl rfl | exact Ex.eqlPN rfl rfl | exact Ex.neqPN rfl rfl | exact Ex.eqlSN rfl rfl | exact Ex.neqSN rfl rfl | exact Ex.lenStr rfl)) rfl (fun _ h => h.fit) ?_
  refine ra_take 7 rfl (by kernel_rfl) (by kernel_rfl) rfl (by (first | (constructor <;> first | rfl | exact RdC.rd | exact inferInstance) | exact Ex.pickF rfl rfl | exact Ex.eqlS rfl rfl | exact Ex.neqS rfl rfl | exact Ex.eqlPN rfl rfl | exact Ex.neqPN rfl rfl | exact Ex.eqlSN rfl rfl | exact Ex.neqSN rfl rfl | exact Ex.lenStr rfl)) rfl (fun _ h => h.fit) ?_
  refine ra_end (by kernel_rfl) ?_
  refine qe_then ?_
  refine ct_seq ?_
  refine ct_region ?_
  iterate 2 (first | refine rs_ex rfl (by (first | (constructor <;> first | rfl | exact RdC.rd | exact inferInstance) | exact Ex.pickF rfl rfl | exact Ex.eqlS rfl rfl | exact Ex.neqS rfl rfl | exact Ex.eqlPN rfl rfl | exact Ex.neqPN rfl rfl | exact Ex.eqlSN rfl rfl | exact Ex.neqSN rfl rfl | exact Ex.lenStr rfl)) rfl ?_ | refine rs_skip rfl rfl ?_)
  refine rs_op rfl rfl (opR_fn rfl (Call.heap (fun w h => by (first | exact h | exact h.sw1 | exact h.sw2 | exact h.sw3 | exact h.sw4 | exact h.sw5 | exact h.sw6 | exact h.sw7 | exact h.sw8 | exact h.pull2 | exact h.pull3 | exact h.pull4 | exact h.pull5 | exact h.fit)) ((Pack_c W0 p c e.msgs _ (hr.mono fun w h => h.drop) hl).mono ?_)))
  rintro v H' ⟨rfl, rfl⟩
  iterate 5 (first | refine rs_ex rfl (by (first | (constructor <;> first | rfl | exact RdC.rd | exact inferInstance) | exact Ex.pickF rfl rfl | exact Ex.eqlS rfl rfl | exact Ex.neqS rfl rfl | exact Ex.eqlPN rfl rfl | exact Ex.neqPN rfl rfl | exact Ex.eqlSN rfl rfl | exact Ex.neqSN rfl rfl | exact Ex.lenStr rfl)) rfl ?_ | refine rs_skip rfl rfl ?_)
  refine rs_end ?_
  refine qe_then ?_
  refine ct_meetc (ζ := Unit) (fun _ => True) [(1, _), (4, _), (5, _), (7, _)] (fun _ => [(8, .string (toB e.bytes))]) (fun _ => Blk b1 (.cells #[.int .i64 e.kind, .int .u32 e.epoch, .int .i64 e.ver, .slice p e.msgs.length c] 48 (0, 0)) :: H) ⟨rfl, rfl, rfl, rfl, trivial⟩ ?_ ?_
  · refine ct_draw0 (by kernel_rfl) ?_
    refine ra_take 0 rfl (by kernel_rfl) (by kernel_rfl) rfl (by (first | (constructor <;> first | rfl | exact RdC.rd | exact inferInstance) | exact Ex.pickF rfl rfl | exact Ex.eqlS rfl rfl | exact Ex.neqS rfl rfl | exact Ex.eqlPN rfl rfl | exact Ex.neqPN rfl rfl | exact Ex.eqlSN rfl rfl | exact Ex.neqSN rfl rfl | exact Ex.lenStr rfl)) rfl (fun _ h => h.fit) ?_
    refine ra_take 1 rfl (by kernel_rfl) (by kernel_rfl) rfl (by (first | (constructor <;> first | rfl | exact RdC.rd | exact inferInstance) | exact Ex.pickF rfl rfl | exact Ex.eqlS rfl rfl | exact Ex.neqS rfl rfl | exact Ex.eqlPN rfl rfl | exact Ex.neqPN rfl rfl | exact Ex.eqlSN rfl rfl | exact Ex.neqSN rfl rfl | exact Ex.lenStr rfl)) rfl (fun _ h => h.fit) ?_
    refine ra_take 2 rfl (by kernel_rfl) (by kernel_rfl) rfl (by (first | (constructor <;> first | rfl | exact RdC.rd | exact inferInstance) | exact Ex.pickF rfl rfl | exact Ex.eqlS rfl rfl | exact Ex.neqS rfl rfl | exact Ex.eqlPN rfl rfl | exact Ex.neqPN rfl rfl | exact Ex.eqlSN rfl rfl | exact Ex.neqSN rfl rfl | exact Ex.lenStr rfl)) rfl (fun _ h => h.fit) ?_
    refine ra_rw (by rw [u8_any]) ?_
    refine ra_take 5 rfl (by kernel_rfl) (by kernel_rfl) rfl (by (first | (constructor <;> first | rfl | exact RdC.rd | exact inferInstance) | exact Ex.pickF rfl rfl | exact Ex.eqlS rfl rfl | exact Ex.neqS rfl rfl | exact Ex.eqlPN rfl rfl | exact Ex.neqPN rfl rfl | exact Ex.eqlSN rfl rfl | exact Ex.neqSN rfl rfl | exact Ex.lenStr rfl)) rfl (fun _ h => h.fit) ?_
    refine ra_take 6 rfl (by kernel_rfl) (by kernel_rfl) rfl (by (first | (constructor <;> first | rfl | exact RdC.rd | exact inferInstance) | exact Ex.pickF rfl rfl | exact Ex.eqlS rfl rfl | exact Ex.neqS rfl rfl | exact Ex.eqlPN rfl rfl | exact Ex.neqPN rfl rfl | exact Ex.eqlSN rfl rfl | exact Ex.neqSN rfl rfl | exact Ex.lenStr rfl)) rfl (fun _ h => h.fit) ?_
    refine ra_take 8 rfl (by kernel_rfl) (by kernel_rfl) rfl (by (first | (constructor <;> first | rfl | exact RdC.rd | exact inferInstance) | exact Ex.pickF rfl rfl | exact Ex.eqlS rfl rfl | exact Ex.neqS rfl rfl | exact Ex.eqlPN rfl rfl | exact Ex.neqPN rfl rfl | exact Ex.eqlSN rfl rfl | exact Ex.neqSN rfl rfl | exact Ex.lenStr rfl)) rfl (fun _ h => h.fit) ?_
    refine ra_take 9 rfl (by kernel_rfl) (by kernel_rfl) rfl (by (first | (constructor <;> first | rfl | exact RdC.rd | exact inferInstance) | exact Ex.pickF rfl rfl | exact Ex.eqlS rfl rfl | exact Ex.neqS rfl rfl | exact Ex.eqlPN rfl rfl | exact Ex.neqPN rfl rfl | exact Ex.eqlSN rfl rfl | exact Ex.neqSN rfl rfl | exact Ex.lenStr rfl)) rfl (fun _ h => h.fit) ?_
    refine ra_take 10 rfl (by kernel_rfl) (by kernel_rfl) rfl (by (first | (constructor <;> first | rfl | exact RdC.rd | exact inferInstance) | exact Ex.pickF rfl rfl | exact Ex.eqlS rfl rfl | exact Ex.neqS rfl rfl | exact Ex.eqlPN rfl rfl | exact Ex.neqPN rfl rfl | exact Ex.eqlSN rfl rfl | exact Ex.neqSN rfl rfl | exact Ex.lenStr rfl)) rfl (fun _ h => h.fit) ?_
    refine ra_rw (by rw [u8_any]) ?_
    refine ra_take 13 rfl (by kernel_rfl) (by kernel_rfl) rfl (by (first | (constructor <;> first | rfl | exact RdC.rd | exact inferInstance) | exact Ex.pickF rfl rfl | exact Ex.eqlS rfl rfl | exact Ex.neqS rfl rfl | exact Ex.eqlPN rfl rfl | exact Ex.neqPN rfl rfl | exact Ex.eqlSN rfl rfl | exact Ex.neqSN rfl rfl | exact Ex.lenStr rfl)) rfl (fun _ h => h.fit) ?_
    refine ra_all (rs := [3, 7, 11]) (by kernel_rfl) rfl ?_
    refine each_op rfl rfl rfl (opR_buildSlice rfl rfl rfl rfl fun b24 => ?_) ?_
    · refine ⟨.inr (fun w h => h.fit), ?_⟩
      refine ra_Snew ?_
      refine ra_take 4 rfl (by kernel_rfl) (by kernel_rfl) rfl (ex_bytesStr (l := [byteI e.kind]) (c := 1) Tryd.underlying32 Tryd.underlying9 Tryd.underlying5 rfl (SlR.blk RdC.rd [byteI e.kind] rfl) (fun e => by cases e)) rfl (fun _ h => h.fit) ?_
      refine ra_all (rs := [7, 11]) (by kernel_rfl) rfl ?_
      refine each_op rfl rfl rfl (opR_fn rfl (Call.heap (fun w h => by (first | exact h | exact h.sw1 | exact h.sw2 | exact h.sw3 | exact h.sw4 | exact h.sw5 | exact h.sw6 | exact h.sw7 | exact h.sw8 | exact h.pull2 | exact h.pull3 | exact h.pull4 | exact h.pull5 | exact h.fit)) ((Put_c W0 e.epoch _ h0).mono ?_))) ?_
      · rintro v H' ⟨rfl, rfl⟩
        refine ⟨.inr (fun w h => h.fit), ?_⟩
        refine ra_all (rs := [11]) (by kernel_rfl) rfl ?_
        refine each_op rfl rfl rfl (opR_buildSlice rfl rfl rfl rfl fun b32 => ?_) each_nil
        refine ⟨.inr (fun w h => h.fit), ?_⟩
        refine ra_Snew ?_
        refine ra_take 12 rfl (by kernel_rfl) (by kernel_rfl) rfl (ex_bytesStr (l := [byteI e.ver]) (c := 1) Tryd.underlying32 Tryd.underlying9 Tryd.underlying5 rfl (SlR.blk RdC.rd [byteI e.ver] rfl) (fun e => by cases e)) rfl (fun _ h => h.fit) ?_
        refine ra_all (rs := [14]) (by kernel_rfl) rfl ?_
        refine each_op rfl rfl rfl (opR_buildSlice rfl rfl rfl rfl fun b35 => ?_) each_nil
        refine ⟨.inr (fun w h => h.fit), ?_⟩
        refine ra_Snew ?_
        refine ra_all (rs := [15]) (by kernel_rfl) rfl ?_
        refine each_op rfl rfl rfl (opR_fn rfl (Call.heap (fun w h => by (first | exact h | exact h.sw1 | exact h.sw2 | exact h.sw3 | exact h.sw4 | exact h.sw5 | exact h.sw6 | exact h.sw7 | exact h.sw8 | exact h.pull2 | exact h.pull3 | exact h.pull4 | exact h.pull5 | exact h.fit)) ((Joined14_c W0 (some ⟨b35, 0, none⟩) 4 [toB [byteI e.kind], ⟨(putL e.epoch).toArray⟩, toB [byteI e.ver], (packV e.msgs).1] _ (by exact SlR.blk RdC.rd [toB [byteI e.kind], ⟨(putL e.epoch).toArray⟩, toB [byteI e.ver], (packV e.msgs).1] rfl) (by rw [hjo]; omega) (by simp) (by simp) (by rw [hjo]; simp [Ent.bytes])).mono ?_))) each_nil
        rintro v H' ⟨rfl, rfl⟩
        refine ⟨.inr (fun w h => h.fit), ?_⟩
        rw [hjo]
        refine ra_take 16 rfl (by kernel_rfl) (by kernel_rfl) rfl (by (first | (constructor <;> first | rfl | exact RdC.rd | exact inferInstance) | exact Ex.pickF rfl rfl | exact Ex.eqlS rfl rfl | exact Ex.neqS rfl rfl | exact Ex.eqlPN rfl rfl | exact Ex.neqPN rfl rfl | exact Ex.eqlSN rfl rfl | exact Ex.neqSN rfl rfl | exact Ex.lenStr rfl)) rfl (fun _ h => h.fit) ?_
        refine ra_end (by kernel_rfl) ?_
        refine qe_midc (()) (trivial) ⟨rfl, rfl, rfl, rfl, rfl, trivial⟩ (fun w h => by first | exact h.fit | exact h)
      refine each_op rfl rfl rfl (opR_buildSlice rfl rfl rfl rfl fun b32 => ?_) ?_
      · refine ⟨.inr (fun w h => h.fit), ?_⟩
        refine ra_Snew ?_
        refine ra_take 12 rfl (by kernel_rfl) (by kernel_rfl) rfl (ex_bytesStr (l := [byteI e.ver]) (c := 1) Tryd.underlying32 Tryd.underlying9 Tryd.underlying5 rfl (SlR.blk RdC.rd [byteI e.ver] rfl) (fun e => by cases e)) rfl (fun _ h => h.fit) ?_
        refine ra_all (rs := [7]) (by kernel_rfl) rfl ?_
        refine each_op rfl rfl rfl (opR_fn rfl (Call.heap (fun w h => by (first | exact h | exact h.sw1 | exact h.sw2 | exact h.sw3 | exact h.sw4 | exact h.sw5 | exact h.sw6 | exact h.sw7 | exact h.sw8 | exact h.pull2 | exact h.pull3 | exact h.pull4 | exact h.pull5 | exact h.fit)) ((Put_c W0 e.epoch _ h0).mono ?_))) each_nil
        rintro v H' ⟨rfl, rfl⟩
        refine ⟨.inr (fun w h => h.fit), ?_⟩
        refine ra_all (rs := [14]) (by kernel_rfl) rfl ?_
        refine each_op rfl rfl rfl (opR_buildSlice rfl rfl rfl rfl fun b35 => ?_) each_nil
        refine ⟨.inr (fun w h => h.fit), ?_⟩
        refine ra_Snew ?_
        refine ra_all (rs := [15]) (by kernel_rfl) rfl ?_
        refine each_op rfl rfl rfl (opR_fn rfl (Call.heap (fun w h => by (first | exact h | exact h.sw1 | exact h.sw2 | exact h.sw3 | exact h.sw4 | exact h.sw5 | exact h.sw6 | exact h.sw7 | exact h.sw8 | exact h.pull2 | exact h.pull3 | exact h.pull4 | exact h.pull5 | exact h.fit)) ((Joined14_c W0 (some ⟨b35, 0, none⟩) 4 [toB [byteI e.kind], ⟨(putL e.epoch).toArray⟩, toB [byteI e.ver], (packV e.msgs).1] _ (by exact SlR.blk RdC.rd [toB [byteI e.kind], ⟨(putL e.epoch).toArray⟩, toB [byteI e.ver], (packV e.msgs).1] rfl) (by rw [hjo]; omega) (by simp) (by simp) (by rw [hjo]; simp [Ent.bytes])).mono ?_))) each_nil
        rintro v H' ⟨rfl, rfl⟩
        refine ⟨.inr (fun w h => h.fit), ?_⟩
        rw [hjo]
        refine ra_take 16 rfl (by kernel_rfl) (by kernel_rfl) rfl (by (first | (constructor <;> first | rfl | exact RdC.rd | exact inferInstance) | exact Ex.pickF rfl rfl | exact Ex.eqlS rfl rfl | exact Ex.neqS rfl rfl | exact Ex.eqlPN rfl rfl | exact Ex.neqPN rfl rfl | exact Ex.eqlSN rfl rfl | exact Ex.neqSN rfl rfl | exact Ex.lenStr rfl)) rfl (fun _ h => h.fit) ?_
        refine ra_end (by kernel_rfl) ?_
        refine qe_midc (()) (trivial) ⟨rfl, rfl, rfl, rfl, rfl, trivial⟩ (fun w h => by first | exact h.fit | exact h)
      exact each_nil
    refine each_op rfl rfl rfl (opR_fn rfl (Call.heap (fun w h => by (first | exact h | exact h.sw1 | exact h.sw2 | exact h.sw3 | exact h.sw4 | exact h.sw5 | exact h.sw6 | exact h.sw7 | exact h.sw8 | exact h.pull2 | exact h.pull3 | exact h.pull4 | exact h.pull5 | exact h.fit)) ((Put_c W0 e.epoch _ h0).mono ?_))) ?_
    · rintro v H' ⟨rfl, rfl⟩
      refine ⟨.inr (fun w h => h.fit), ?_⟩
      refine ra_all (rs := [3, 11]) (by kernel_rfl) rfl ?_
      refine each_op rfl rfl rfl (opR_buildSlice rfl rfl rfl rfl fun b24 => ?_) ?_
      · refine ⟨.inr (fun w h => h.fit), ?_⟩
        refine ra_Snew ?_
        refine ra_take 4 rfl (by kernel_rfl) (by kernel_rfl) rfl (ex_bytesStr (l := [byteI e.kind]) (c := 1) Tryd.underlying32 Tryd.underlying9 Tryd.underlying5 rfl (SlR.blk RdC.rd [byteI e.kind] rfl) (fun e => by cases e)) rfl (fun _ h => h.fit) ?_
        refine ra_all (rs := [11]) (by kernel_rfl) rfl ?_
        refine each_op rfl rfl rfl (opR_buildSlice rfl rfl rfl rfl fun b32 => ?_) each_nil
        refine ⟨.inr (fun w h => h.fit), ?_⟩
        refine ra_Snew ?_
        refine ra_take 12 rfl (by kernel_rfl) (by kernel_rfl) rfl (ex_bytesStr (l := [byteI e.ver]) (c := 1) Tryd.underlying32 Tryd.underlying9 Tryd.underlying5 rfl (SlR.blk RdC.rd [byteI e.ver] rfl) (fun e => by cases e)) rfl (fun _ h => h.fit) ?_
        refine ra_all (rs := [14]) (by kernel_rfl) rfl ?_
        refine each_op rfl rfl rfl (opR_buildSlice rfl rfl rfl rfl fun b35 => ?_) each_nil
        refine ⟨.inr (fun w h => h.fit), ?_⟩
        refine ra_Snew ?_
        refine ra_all (rs := [15]) (by kernel_rfl) rfl ?_
        refine each_op rfl rfl rfl (opR_fn rfl (Call.heap (fun w h => by (first | exact h | exact h.sw1 | exact h.sw2 | exact h.sw3 | exact h.sw4 | exact h.sw5 | exact h.sw6 | exact h.sw7 | exact h.sw8 | exact h.pull2 | exact h.pull3 | exact h.pull4 | exact h.pull5 | exact h.fit)) ((Joined14_c W0 (some ⟨b35, 0, none⟩) 4 [toB [byteI e.kind], ⟨(putL e.epoch).toArray⟩, toB [byteI e.ver], (packV e.msgs).1] _ (by exact SlR.blk RdC.rd [toB [byteI e.kind], ⟨(putL e.epoch).toArray⟩, toB [byteI e.ver], (packV e.msgs).1] rfl) (by rw [hjo]; omega) (by simp) (by simp) (by rw [hjo]; simp [Ent.bytes])).mono ?_))) each_nil
        rintro v H' ⟨rfl, rfl⟩
        refine ⟨.inr (fun w h => h.fit), ?_⟩
        rw [hjo]
        refine ra_take 16 rfl (by kernel_rfl) (by kernel_rfl) rfl (by (first | (constructor <;> first | rfl | exact RdC.rd | exact inferInstance) | exact Ex.pickF rfl rfl | exact Ex.eqlS rfl rfl | exact Ex.neqS rfl rfl | exact Ex.eqlPN rfl rfl | exact Ex.neqPN rfl rfl | exact Ex.eqlSN rfl rfl | exact Ex.neqSN rfl rfl | exact Ex.lenStr rfl)) rfl (fun _ h => h.fit) ?_
        refine ra_end (by kernel_rfl) ?_
        refine qe_midc (()) (trivial) ⟨rfl, rfl, rfl, rfl, rfl, trivial⟩ (fun w h => by first | exact h.fit | exact h)
      refine each_op rfl rfl rfl (opR_buildSlice rfl rfl rfl rfl fun b32 => ?_) ?_
      · refine ⟨.inr (fun w h => h.fit), ?_⟩
        refine ra_Snew ?_
        refine ra_take 12 rfl (by kernel_rfl) (by kernel_rfl) rfl (ex_bytesStr (l := [byteI e.ver]) (c := 1) Tryd.underlying32 Tryd.underlying9 Tryd.underlying5 rfl (SlR.blk RdC.rd [byteI e.ver] rfl) (fun e => by cases e)) rfl (fun _ h => h.fit) ?_
        refine ra_all (rs := [3]) (by kernel_rfl) rfl ?_
        refine each_op rfl rfl rfl (opR_buildSlice rfl rfl rfl rfl fun b24 => ?_) each_nil
        refine ⟨.inr (fun w h => h.fit), ?_⟩
        refine ra_Snew ?_
        refine ra_take 4 rfl (by kernel_rfl) (by kernel_rfl) rfl (ex_bytesStr (l := [byteI e.kind]) (c := 1) Tryd.underlying32 Tryd.underlying9 Tryd.underlying5 rfl (SlR.blk RdC.rd [byteI e.kind] rfl) (fun e => by cases e)) rfl (fun _ h => h.fit) ?_
        refine ra_all (rs := [14]) (by kernel_rfl) rfl ?_
        refine each_op rfl rfl rfl (opR_buildSlice rfl rfl rfl rfl fun b35 => ?_) each_nil
        refine ⟨.inr (fun w h => h.fit), ?_⟩
        refine ra_Snew ?_
        refine ra_all (rs := [15]) (by kernel_rfl) rfl ?_
        refine each_op rfl rfl rfl (opR_fn rfl (Call.heap (fun w h => by (first | exact h | exact h.sw1 | exact h.sw2 | exact h.sw3 | exact h.sw4 | exact h.sw5 | exact h.sw6 | exact h.sw7 | exact h.sw8 | exact h.pull2 | exact h.pull3 | exact h.pull4 | exact h.pull5 | exact h.fit)) ((Joined14_c W0 (some ⟨b35, 0, none⟩) 4 [toB [byteI e.kind], ⟨(putL e.epoch).toArray⟩, toB [byteI e.ver], (packV e.msgs).1] _ (by exact SlR.blk RdC.rd [toB [byteI e.kind], ⟨(putL e.epoch).toArray⟩, toB [byteI e.ver], (packV e.msgs).1] rfl) (by rw [hjo]; omega) (by simp) (by simp) (by rw [hjo]; simp [Ent.bytes])).mono ?_))) each_nil
        rintro v H' ⟨rfl, rfl⟩
        refine ⟨.inr (fun w h => h.fit), ?_⟩
        rw [hjo]
        refine ra_take 16 rfl (by kernel_rfl) (by kernel_rfl) rfl (by (first | (constructor <;> first | rfl | exact RdC.rd | exact inferInstance) | exact Ex.pickF rfl rfl | exact Ex.eqlS rfl rfl | exact Ex.neqS rfl rfl | exact Ex.eqlPN rfl rfl | exact Ex.neqPN rfl rfl | exact Ex.eqlSN rfl rfl | exact Ex.neqSN rfl rfl | exact Ex.lenStr rfl)) rfl (fun _ h => h.fit) ?_
        refine ra_end (by kernel_rfl) ?_
        refine qe_midc (()) (trivial) ⟨rfl, rfl, rfl, rfl, rfl, trivial⟩ (fun w h => by first | exact h.fit | exact h)
      exact each_nil
    refine each_op rfl rfl rfl (opR_buildSlice rfl rfl rfl rfl fun b32 => ?_) ?_
    · refine ⟨.inr (fun w h => h.fit), ?_⟩
      refine ra_Snew ?_
      refine ra_take 12 rfl (by kernel_rfl) (by kernel_rfl) rfl (ex_bytesStr (l := [byteI e.ver]) (c := 1) Tryd.underlying32 Tryd.underlying9 Tryd.underlying5 rfl (SlR.blk RdC.rd [byteI e.ver] rfl) (fun e => by cases e)) rfl (fun _ h => h.fit) ?_
      refine ra_all (rs := [3, 7]) (by kernel_rfl) rfl ?_
      refine each_op rfl rfl rfl (opR_buildSlice rfl rfl rfl rfl fun b24 => ?_) ?_
      · refine ⟨.inr (fun w h => h.fit), ?_⟩
        refine ra_Snew ?_
        refine ra_take 4 rfl (by kernel_rfl) (by kernel_rfl) rfl (ex_bytesStr (l := [byteI e.kind]) (c := 1) Tryd.underlying32 Tryd.underlying9 Tryd.underlying5 rfl (SlR.blk RdC.rd [byteI e.kind] rfl) (fun e => by cases e)) rfl (fun _ h => h.fit) ?_
        refine ra_all (rs := [7]) (by kernel_rfl) rfl ?_
        refine each_op rfl rfl rfl (opR_fn rfl (Call.heap (fun w h => by (first | exact h | exact h.sw1 | exact h.sw2 | exact h.sw3 | exact h.sw4 | exact h.sw5 | exact h.sw6 | exact h.sw7 | exact h.sw8 | exact h.pull2 | exact h.pull3 | exact h.pull4 | exact h.pull5 | exact h.fit)) ((Put_c W0 e.epoch _ h0).mono ?_))) each_nil
        rintro v H' ⟨rfl, rfl⟩
        refine ⟨.inr (fun w h => h.fit), ?_⟩
        refine ra_all (rs := [14]) (by kernel_rfl) rfl ?_
        refine each_op rfl rfl rfl (opR_buildSlice rfl rfl rfl rfl fun b35 => ?_) each_nil
        refine ⟨.inr (fun w h => h.fit), ?_⟩
        refine ra_Snew ?_
        refine ra_all (rs := [15]) (by kernel_rfl) rfl ?_
        refine each_op rfl rfl rfl (opR_fn rfl (Call.heap (fun w h => by (first | exact h | exact h.sw1 | exact h.sw2 | exact h.sw3 | exact h.sw4 | exact h.sw5 | exact h.sw6 | exact h.sw7 | exact h.sw8 | exact h.pull2 | exact h.pull3 | exact h.pull4 | exact h.pull5 | exact h.fit)) ((Joined14_c W0 (some ⟨b35, 0, none⟩) 4 [toB [byteI e.kind], ⟨(putL e.epoch).toArray⟩, toB [byteI e.ver], (packV e.msgs).1] _ (by exact SlR.blk RdC.rd [toB [byteI e.kind], ⟨(putL e.epoch).toArray⟩, toB [byteI e.ver], (packV e.msgs).1] rfl) (by rw [hjo]; omega) (by simp) (by simp) (by rw [hjo]; simp [Ent.bytes])).mono ?_))) each_nil
        rintro v H' ⟨rfl, rfl⟩
        refine ⟨.inr (fun w h => h.fit), ?_⟩
        rw [hjo]
        refine ra_take 16 rfl (by kernel_rfl) (by kernel_rfl) rfl (by (first | (constructor <;> first | rfl | exact RdC.rd | exact inferInstance) | exact Ex.pickF rfl rfl | exact Ex.eqlS rfl rfl | exact Ex.neqS rfl rfl | exact Ex.eqlPN rfl rfl | exact Ex.neqPN rfl rfl | exact Ex.eqlSN rfl rfl | exact Ex.neqSN rfl rfl | exact Ex.lenStr rfl)) rfl (fun _ h => h.fit) ?_
        refine ra_end (by kernel_rfl) ?_
        refine qe_midc (()) (trivial) ⟨rfl, rfl, rfl, rfl, rfl, trivial⟩ (fun w h => by first | exact h.fit | exact h)
      refine each_op rfl rfl rfl (opR_fn rfl (Call.heap (fun w h => by (first | exact h | exact h.sw1 | exact h.sw2 | exact h.sw3 | exact h.sw4 | exact h.sw5 | exact h.sw6 | exact h.sw7 | exact h.sw8 | exact h.pull2 | exact h.pull3 | exact h.pull4 | exact h.pull5 | exact h.fit)) ((Put_c W0 e.epoch _ h0).mono ?_))) ?_
      · rintro v H' ⟨rfl, rfl⟩
        refine ⟨.inr (fun w h => h.fit), ?_⟩
        refine ra_all (rs := [3]) (by kernel_rfl) rfl ?_
        refine each_op rfl rfl rfl (opR_buildSlice rfl rfl rfl rfl fun b24 => ?_) each_nil
        refine ⟨.inr (fun w h => h.fit), ?_⟩
        refine ra_Snew ?_
        refine ra_take 4 rfl (by kernel_rfl) (by kernel_rfl) rfl (ex_bytesStr (l := [byteI e.kind]) (c := 1) Tryd.underlying32 Tryd.underlying9 Tryd.underlying5 rfl (SlR.blk RdC.rd [byteI e.kind] rfl) (fun e => by cases e)) rfl (fun _ h => h.fit) ?_
        refine ra_all (rs := [14]) (by kernel_rfl) rfl ?_
        refine each_op rfl rfl rfl (opR_buildSlice rfl rfl rfl rfl fun b35 => ?_) each_nil
        refine ⟨.inr (fun w h => h.fit), ?_⟩
        refine ra_Snew ?_
        refine ra_all (rs := [15]) (by kernel_rfl) rfl ?_
        refine each_op rfl rfl rfl (opR_fn rfl (Call.heap (fun w h => by (first | exact h | exact h.sw1 | exact h.sw2 | exact h.sw3 | exact h.sw4 | exact h.sw5 | exact h.sw6 | exact h.sw7 | exact h.sw8 | exact h.pull2 | exact h.pull3 | exact h.pull4 | exact h.pull5 | exact h.fit)) ((Joined14_c W0 (some ⟨b35, 0, none⟩) 4 [toB [byteI e.kind], ⟨(putL e.epoch).toArray⟩, toB [byteI e.ver], (packV e.msgs).1] _ (by exact SlR.blk RdC.rd [toB [byteI e.kind], ⟨(putL e.epoch).toArray⟩, toB [byteI e.ver], (packV e.msgs).1] rfl) (by rw [hjo]; omega) (by simp) (by simp) (by rw [hjo]; simp [Ent.bytes])).mono ?_))) each_nil
        rintro v H' ⟨rfl, rfl⟩
        refine ⟨.inr (fun w h => h.fit), ?_⟩
        rw [hjo]
        refine ra_take 16 rfl (by kernel_rfl) (by kernel_rfl) rfl (by (first | (constructor <;> first | rfl | exact RdC.rd | exact inferInstance) | exact Ex.pickF rfl rfl | exact Ex.eqlS rfl rfl | exact Ex.neqS rfl rfl | exact Ex.eqlPN rfl rfl | exact Ex.neqPN rfl rfl | exact Ex.eqlSN rfl rfl | exact Ex.neqSN rfl rfl | exact Ex.lenStr rfl)) rfl (fun _ h => h.fit) ?_
        refine ra_end (by kernel_rfl) ?_
        refine qe_midc (()) (trivial) ⟨rfl, rfl, rfl, rfl, rfl, trivial⟩ (fun w h => by first | exact h.fit | exact h)
      exact each_nil
    exact each_nil
  · rintro ⟨⟩ _
    refine ct_seq ?_
    refine ct_block ?_
    refine ct_seq ?_
    refine ct_region ?_
    iterate 3 (first | refine rs_ex rfl (by (first | (constructor <;> first | rfl | exact RdC.rd | exact inferInstance) | exact Ex.pickF rfl rfl | exact Ex.eqlS rfl rfl | exact Ex.neqS rfl rfl | exact Ex.eqlPN rfl rfl | exact Ex.neqPN rfl rfl | exact Ex.eqlSN rfl rfl | exact Ex.neqSN rfl rfl | exact Ex.lenStr rfl)) rfl ?_ | refine rs_skip rfl rfl ?_)
    refine rs_split (fun h40 => ?_) (fun h40 => ?_)
    · iterate 5 (first | refine rs_ex rfl (by (first | (constructor <;> first | rfl | exact RdC.rd | exact inferInstance) | exact Ex.pickF rfl rfl | exact Ex.eqlS rfl rfl | exact Ex.neqS rfl rfl | exact Ex.eqlPN rfl rfl | exact Ex.neqPN rfl rfl | exact Ex.eqlSN rfl rfl | exact Ex.neqSN rfl rfl | exact Ex.lenStr rfl)) rfl ?_ | refine rs_skip rfl rfl ?_)
      refine rs_end ?_
      refine qe_then ?_
      refine ct_cond rfl (fun _ => ?_) (fun h => absurd h (by decide))
      refine ct_seq ?_
      refine ct_region ?_
      iterate 2 (first | refine rs_ex rfl (by (first | (constructor <;> first | rfl | exact RdC.rd | exact inferInstance) | exact Ex.pickF rfl rfl | exact Ex.eqlS rfl rfl | exact Ex.neqS rfl rfl | exact Ex.eqlPN rfl rfl | exact Ex.neqPN rfl rfl | exact Ex.eqlSN rfl rfl | exact Ex.neqSN rfl rfl | exact Ex.lenStr rfl)) rfl ?_ | refine rs_skip rfl rfl ?_)
      refine rs_end ?_
      refine qe_then ?_
      refine ct_ret ?_
      have hb : e.bad = true := by first | (simp_all [Ent.bad]; done) | (simp_all [Ent.bad]; omega)
      exact qe_fit (ret2 rfl rfl rfl ⟨by rw [Ent.enc, if_pos hb], rfl⟩)
    · iterate 5 (first | refine rs_ex rfl (by (first | (constructor <;> first | rfl | exact RdC.rd | exact inferInstance) | exact Ex.pickF rfl rfl | exact Ex.eqlS rfl rfl | exact Ex.neqS rfl rfl | exact Ex.eqlPN rfl rfl | exact Ex.neqPN rfl rfl | exact Ex.eqlSN rfl rfl | exact Ex.neqSN rfl rfl | exact Ex.lenStr rfl)) rfl ?_ | refine rs_skip rfl rfl ?_)
      refine rs_end ?_
      refine qe_then ?_
      refine ct_cond rfl (fun h37 => ?_) (fun h37 => ?_)
      · refine ct_seq ?_
        refine ct_region ?_
        iterate 2 (first | refine rs_ex rfl (by (first | (constructor <;> first | rfl | exact RdC.rd | exact inferInstance) | exact Ex.pickF rfl rfl | exact Ex.eqlS rfl rfl | exact Ex.neqS rfl rfl | exact Ex.eqlPN rfl rfl | exact Ex.neqPN rfl rfl | exact Ex.eqlSN rfl rfl | exact Ex.neqSN rfl rfl | exact Ex.lenStr rfl)) rfl ?_ | refine rs_skip rfl rfl ?_)
        refine rs_end ?_
        refine qe_then ?_
        refine ct_ret ?_
        have hb : e.bad = true := by first | (simp_all [Ent.bad]; done) | (simp_all [Ent.bad]; omega)
        exact qe_fit (ret2 rfl rfl rfl ⟨by rw [Ent.enc, if_pos hb], rfl⟩)
      · refine ct_seq ?_
        refine ct_region ?_
        iterate 3 (first | refine rs_ex rfl (by (first | (constructor <;> first | rfl | exact RdC.rd | exact inferInstance) | exact Ex.pickF rfl rfl | exact Ex.eqlS rfl rfl | exact Ex.neqS rfl rfl | exact Ex.eqlPN rfl rfl | exact Ex.neqPN rfl rfl | exact Ex.eqlSN rfl rfl | exact Ex.neqSN rfl rfl | exact Ex.lenStr rfl)) rfl ?_ | refine rs_skip rfl rfl ?_)
        refine rs_split (fun h48 => ?_) (fun h48 => ?_)
        · iterate 4 (first | refine rs_ex rfl (by (first | (constructor <;> first | rfl | exact RdC.rd | exact inferInstance) | exact Ex.pickF rfl rfl | exact Ex.eqlS rfl rfl | exact Ex.neqS rfl rfl | exact Ex.eqlPN rfl rfl | exact Ex.neqPN rfl rfl | exact Ex.eqlSN rfl rfl | exact Ex.neqSN rfl rfl | exact Ex.lenStr rfl)) rfl ?_ | refine rs_skip rfl rfl ?_)
          refine rs_split (fun h52 => ?_) (fun h52 => ?_)
          · iterate 5 (first | refine rs_ex rfl (by (first | (constructor <;> first | rfl | exact RdC.rd | exact inferInstance) | exact Ex.pickF rfl rfl | exact Ex.eqlS rfl rfl | exact Ex.neqS rfl rfl | exact Ex.eqlPN rfl rfl | exact Ex.neqPN rfl rfl | exact Ex.eqlSN rfl rfl | exact Ex.neqSN rfl rfl | exact Ex.lenStr rfl)) rfl ?_ | refine rs_skip rfl rfl ?_)
            refine rs_end ?_
            refine qe_then ?_
            refine ct_cond rfl (fun h45 => ?_) (fun h45 => ?_)
            · refine ct_seq ?_
              refine ct_region ?_
              iterate 2 (first | refine rs_ex rfl (by (first | (constructor <;> first | rfl | exact RdC.rd | exact inferInstance) | exact Ex.pickF rfl rfl | exact Ex.eqlS rfl rfl | exact Ex.neqS rfl rfl | exact Ex.eqlPN rfl rfl | exact Ex.neqPN rfl rfl | exact Ex.eqlSN rfl rfl | exact Ex.neqSN rfl rfl | exact Ex.lenStr rfl)) rfl ?_ | refine rs_skip rfl rfl ?_)
              refine rs_end ?_
              refine qe_then ?_
              refine ct_ret ?_
              have hb : e.bad = true := by first | (simp_all [Ent.bad]; done) | (simp_all [Ent.bad]; omega)
              exact qe_fit (ret2 rfl rfl rfl ⟨by rw [Ent.enc, if_pos hb], rfl⟩)
            · refine ct_seq ?_
              refine ct_region ?_
              iterate 3 (first | refine rs_ex rfl (by (first | (constructor <;> first | rfl | exact RdC.rd | exact inferInstance) | exact Ex.pickF rfl rfl | exact Ex.eqlS rfl rfl | exact Ex.neqS rfl rfl | exact Ex.eqlPN rfl rfl | exact Ex.neqPN rfl rfl | exact Ex.eqlSN rfl rfl | exact Ex.neqSN rfl rfl | exact Ex.lenStr rfl)) rfl ?_ | refine rs_skip rfl rfl ?_)
              refine rs_split (fun h60 => ?_) (fun h60 => ?_)
              · iterate 6 (first | refine rs_ex rfl (by (first | (constructor <;> first | rfl | exact RdC.rd | exact inferInstance) | exact Ex.pickF rfl rfl | exact Ex.eqlS rfl rfl | exact Ex.neqS rfl rfl | exact Ex.eqlPN rfl rfl | exact Ex.neqPN rfl rfl | exact Ex.eqlSN rfl rfl | exact Ex.neqSN rfl rfl | exact Ex.lenStr rfl)) rfl ?_ | refine rs_skip rfl rfl ?_)
                refine rs_split (fun h66 => ?_) (fun h66 => ?_)
                · iterate 19 (first | refine rs_ex rfl (by (first | (constructor <;> first | rfl | exact RdC.rd | exact inferInstance) | exact Ex.pickF rfl rfl | exact Ex.eqlS rfl rfl | exact Ex.neqS rfl rfl | exact Ex.eqlPN rfl rfl | exact Ex.neqPN rfl rfl | exact Ex.eqlSN rfl rfl | exact Ex.neqSN rfl rfl | exact Ex.lenStr rfl)) rfl ?_ | refine rs_skip rfl rfl ?_)
                  refine rs_end ?_
                  refine qe_then ?_
                  refine ct_cond rfl (fun _ => ?_) (fun h => absurd h (by decide))
                  refine ct_seq ?_
                  refine ct_region ?_
                  iterate 2 (first | refine rs_ex rfl (by (first | (constructor <;> first | rfl | exact RdC.rd | exact inferInstance) | exact Ex.pickF rfl rfl | exact Ex.eqlS rfl rfl | exact Ex.neqS rfl rfl | exact Ex.eqlPN rfl rfl | exact Ex.neqPN rfl rfl | exact Ex.eqlSN rfl rfl | exact Ex.neqSN rfl rfl | exact Ex.lenStr rfl)) rfl ?_ | refine rs_skip rfl rfl ?_)
                  refine rs_end ?_
                  refine qe_then ?_
                  refine ct_ret ?_
                  have hb : e.bad = true := by first | (simp_all [Ent.bad]; done) | (simp_all [Ent.bad]; omega)
                  exact qe_fit (ret2 rfl rfl rfl ⟨by rw [Ent.enc, if_pos hb], rfl⟩)
                · iterate 3 (first | refine rs_ex rfl (by (first | (constructor <;> first | rfl | exact RdC.rd | exact inferInstance) | exact Ex.pickF rfl rfl | exact Ex.eqlS rfl rfl | exact Ex.neqS rfl rfl | exact Ex.eqlPN rfl rfl | exact Ex.neqPN rfl rfl | exact Ex.eqlSN rfl rfl | exact Ex.neqSN rfl rfl | exact Ex.lenStr rfl)) rfl ?_ | refine rs_skip rfl rfl ?_)
                  refine rs_split (fun h69 => ?_) (fun h69 => ?_)
                  · iterate 6 (first | refine rs_ex rfl (by (first | (constructor <;> first | rfl | exact RdC.rd | exact inferInstance) | exact Ex.pickF rfl rfl | exact Ex.eqlS rfl rfl | exact Ex.neqS rfl rfl | exact Ex.eqlPN rfl rfl | exact Ex.neqPN rfl rfl | exact Ex.eqlSN rfl rfl | exact Ex.neqSN rfl rfl | exact Ex.lenStr rfl)) rfl ?_ | refine rs_skip rfl rfl ?_)
                    refine rs_split (fun h75 => ?_) (fun h75 => ?_)
                    · iterate 10 (first | refine rs_ex rfl (by (first | (constructor <;> first | rfl | exact RdC.rd | exact inferInstance) | exact Ex.pickF rfl rfl | exact Ex.eqlS rfl rfl | exact Ex.neqS rfl rfl | exact Ex.eqlPN rfl rfl | exact Ex.neqPN rfl rfl | exact Ex.eqlSN rfl rfl | exact Ex.neqSN rfl rfl | exact Ex.lenStr rfl)) rfl ?_ | refine rs_skip rfl rfl ?_)
                      refine rs_end ?_
                      refine qe_then ?_
                      refine ct_cond rfl (fun _ => ?_) (fun h => absurd h (by decide))
                      refine ct_seq ?_
                      refine ct_region ?_
                      iterate 2 (first | refine rs_ex rfl (by (first | (constructor <;> first | rfl | exact RdC.rd | exact inferInstance) | exact Ex.pickF rfl rfl | exact Ex.eqlS rfl rfl | exact Ex.neqS rfl rfl | exact Ex.eqlPN rfl rfl | exact Ex.neqPN rfl rfl | exact Ex.eqlSN rfl rfl | exact Ex.neqSN rfl rfl | exact Ex.lenStr rfl)) rfl ?_ | refine rs_skip rfl rfl ?_)
                      refine rs_end ?_
                      refine qe_then ?_
                      refine ct_ret ?_
                      have hb : e.bad = true := by first | (simp_all [Ent.bad]; done) | (simp_all [Ent.bad]; omega)
                      exact qe_fit (ret2 rfl rfl rfl ⟨by rw [Ent.enc, if_pos hb], rfl⟩)
                    · iterate 5 (first | refine rs_ex rfl (by (first | (constructor <;> first | rfl | exact RdC.rd | exact inferInstance) | exact Ex.pickF rfl rfl | exact Ex.eqlS rfl rfl | exact Ex.neqS rfl rfl | exact Ex.eqlPN rfl rfl | exact Ex.neqPN rfl rfl | exact Ex.eqlSN rfl rfl | exact Ex.neqSN rfl rfl | exact Ex.lenStr rfl)) rfl ?_ | refine rs_skip rfl rfl ?_)
                      refine rs_split (fun h80 => ?_) (fun h80 => ?_)
                      · iterate 5 (first | refine rs_ex rfl (by (first | (constructor <;> first | rfl | exact RdC.rd | exact inferInstance) | exact Ex.pickF rfl rfl | exact Ex.eqlS rfl rfl | exact Ex.neqS rfl rfl | exact Ex.eqlPN rfl rfl | exact Ex.neqPN rfl rfl | exact Ex.eqlSN rfl rfl | exact Ex.neqSN rfl rfl | exact Ex.lenStr rfl)) rfl ?_ | refine rs_skip rfl rfl ?_)
                        refine rs_end ?_
                        refine qe_then ?_
                        refine ct_cond rfl (fun _ => ?_) (fun h => absurd h (by decide))
                        refine ct_seq ?_
                        refine ct_region ?_
                        iterate 2 (first | refine rs_ex rfl (by (first | (constructor <;> first | rfl | exact RdC.rd | exact inferInstance) | exact Ex.pickF rfl rfl | exact Ex.eqlS rfl rfl | exact Ex.neqS rfl rfl | exact Ex.eqlPN rfl rfl | exact Ex.neqPN rfl rfl | exact Ex.eqlSN rfl rfl | exact Ex.neqSN rfl rfl | exact Ex.lenStr rfl)) rfl ?_ | refine rs_skip rfl rfl ?_)
                        refine rs_end ?_
                        refine qe_then ?_
                        refine ct_ret ?_
                        have hb : e.bad = true := by first | (simp_all [Ent.bad]; done) | (simp_all [Ent.bad]; omega)
                        exact qe_fit (ret2 rfl rfl rfl ⟨by rw [Ent.enc, if_pos hb], rfl⟩)
                      · iterate 5 (first | refine rs_ex rfl (by (first | (constructor <;> first | rfl | exact RdC.rd | exact inferInstance) | exact Ex.pickF rfl rfl | exact Ex.eqlS rfl rfl | exact Ex.neqS rfl rfl | exact Ex.eqlPN rfl rfl | exact Ex.neqPN rfl rfl | exact Ex.eqlSN rfl rfl | exact Ex.neqSN rfl rfl | exact Ex.lenStr rfl)) rfl ?_ | refine rs_skip rfl rfl ?_)
                        refine rs_end ?_
                        refine qe_then ?_
                        refine ct_cond rfl (fun h57 => ?_) (fun h57 => ?_)
                        · refine ct_seq ?_
                          refine ct_region ?_
                          iterate 2 (first | refine rs_ex rfl (by (first | (constructor <;> first | rfl | exact RdC.rd | exact inferInstance) | exact Ex.pickF rfl rfl | exact Ex.eqlS rfl rfl | exact Ex.neqS rfl rfl | exact Ex.eqlPN rfl rfl | exact Ex.neqPN rfl rfl | exact Ex.eqlSN rfl rfl | exact Ex.neqSN rfl rfl | exact Ex.lenStr rfl)) rfl ?_ | refine rs_skip rfl rfl ?_)
                          refine rs_end ?_
                          refine qe_then ?_
                          refine ct_ret ?_
                          have hb : e.bad = true := by first | (simp_all [Ent.bad]; done) | (simp_all [Ent.bad]; omega)
                          exact qe_fit (ret2 rfl rfl rfl ⟨by rw [Ent.enc, if_pos hb], rfl⟩)
                        · refine ct_skip ?_
                          refine qe_block 0 ?_
                          refine qe_then ?_
                          refine ct_seq ?_
                          refine ct_region ?_
                          iterate 3 (first | refine rs_ex rfl (by (first | (constructor <;> first | rfl | exact RdC.rd | exact inferInstance) | exact Ex.pickF rfl rfl | exact Ex.eqlS rfl rfl | exact Ex.neqS rfl rfl | exact Ex.eqlPN rfl rfl | exact Ex.neqPN rfl rfl | exact Ex.eqlSN rfl rfl | exact Ex.neqSN rfl rfl | exact Ex.lenStr rfl)) rfl ?_ | refine rs_skip rfl rfl ?_)
                          refine rs_end ?_
                          refine qe_then ?_
                          refine ct_ret ?_
                          have hb : ¬ e.bad = true := by first | (simp_all [Ent.bad]; done) | (simp_all [Ent.bad]; omega)
                          exact qe_fit (ret2 rfl rfl rfl ⟨by rw [Ent.enc, if_neg hb], rfl⟩)
                  · iterate 11 (first | refine rs_ex rfl (by (first | (constructor <;> first | rfl | exact RdC.rd | exact inferInstance) | exact Ex.pickF rfl rfl | exact Ex.eqlS rfl rfl | exact Ex.neqS rfl rfl | exact Ex.eqlPN rfl rfl | exact Ex.neqPN rfl rfl | exact Ex.eqlSN rfl rfl | exact Ex.neqSN rfl rfl | exact Ex.lenStr rfl)) rfl ?_ | refine rs_skip rfl rfl ?_)
                    refine rs_split (fun h80 => ?_) (fun h80 => ?_)
                    · iterate 5 (first | refine rs_ex rfl (by (first | (constructor <;> first | rfl | exact RdC.rd | exact inferInstance) | exact Ex.pickF rfl rfl | exact Ex.eqlS rfl rfl | exact Ex.neqS rfl rfl | exact Ex.eqlPN rfl rfl | exact Ex.neqPN rfl rfl | exact Ex.eqlSN rfl rfl | exact Ex.neqSN rfl rfl | exact Ex.lenStr rfl)) rfl ?_ | refine rs_skip rfl rfl ?_)
                      refine rs_end ?_
                      refine qe_then ?_
                      refine ct_cond rfl (fun _ => ?_) (fun h => absurd h (by decide))
                      refine ct_seq ?_
                      refine ct_region ?_
                      iterate 2 (first | refine rs_ex rfl (by (first | (constructor <;> first | rfl | exact RdC.rd | exact inferInstance) | exact Ex.pickF rfl rfl | exact Ex.eqlS rfl rfl | exact Ex.neqS rfl rfl | exact Ex.eqlPN rfl rfl | exact Ex.neqPN rfl rfl | exact Ex.eqlSN rfl rfl | exact Ex.neqSN rfl rfl | exact Ex.lenStr rfl)) rfl ?_ | refine rs_skip rfl rfl ?_)
                      refine rs_end ?_
                      refine qe_then ?_
                      refine ct_ret ?_
                      have hb : e.bad = true := by first | (simp_all [Ent.bad]; done) | (simp_all [Ent.bad]; omega)
                      exact qe_fit (ret2 rfl rfl rfl ⟨by rw [Ent.enc, if_pos hb], rfl⟩)
                    · iterate 5 (first | refine rs_ex rfl (by (first | (constructor <;> first | rfl | exact RdC.rd | exact inferInstance) | exact Ex.pickF rfl rfl | exact Ex.eqlS rfl rfl | exact Ex.neqS rfl rfl | exact Ex.eqlPN rfl rfl | exact Ex.neqPN rfl rfl | exact Ex.eqlSN rfl rfl | exact Ex.neqSN rfl rfl | exact Ex.lenStr rfl)) rfl ?_ | refine rs_skip rfl rfl ?_)
                      refine rs_end ?_
                      refine qe_then ?_
                      refine ct_cond rfl (fun h57 => ?_) (fun h57 => ?_)
                      · refine ct_seq ?_
                        refine ct_region ?_
                        iterate 2 (first | refine rs_ex rfl (by (first | (constructor <;> first | rfl | exact RdC.rd | exact inferInstance) | exact Ex.pickF rfl rfl | exact Ex.eqlS rfl rfl | exact Ex.neqS rfl rfl | exact Ex.eqlPN rfl rfl | exact Ex.neqPN rfl rfl | exact Ex.eqlSN rfl rfl | exact Ex.neqSN rfl rfl | exact Ex.lenStr rfl)) rfl ?_ | refine rs_skip rfl rfl ?_)
                        refine rs_end ?_
                        refine qe_then ?_
                        refine ct_ret ?_
                        have hb : e.bad = true := by first | (simp_all [Ent.bad]; done) | (simp_all [Ent.bad]; omega)
                        exact qe_fit (ret2 rfl rfl rfl ⟨by rw [Ent.enc, if_pos hb], rfl⟩)
                      · refine ct_skip ?_
                        refine qe_block 0 ?_
                        refine qe_then ?_
                        refine ct_seq ?_
                        refine ct_region ?_
                        iterate 3 (first | refine rs_ex rfl (by (first | (constructor <;> first | rfl | exact RdC.rd | exact inferInstance) | exact Ex.pickF rfl rfl | exact Ex.eqlS rfl rfl | exact Ex.neqS rfl rfl | exact Ex.eqlPN rfl rfl | exact Ex.neqPN rfl rfl | exact Ex.eqlSN rfl rfl | exact Ex.neqSN rfl rfl | exact Ex.lenStr rfl)) rfl ?_ | refine rs_skip rfl rfl ?_)
                        refine rs_end ?_
                        refine qe_then ?_
                        refine ct_ret ?_
                        have hb : ¬ e.bad = true := by first | (simp_all [Ent.bad]; done) | (simp_all [Ent.bad]; omega)
                        exact qe_fit (ret2 rfl rfl rfl ⟨by rw [Ent.enc, if_neg hb], rfl⟩)
              · iterate 9 (first | refine rs_ex rfl (by (first | (constructor <;> first | rfl | exact RdC.rd | exact inferInstance) | exact Ex.pickF rfl rfl | exact Ex.eqlS rfl rfl | exact Ex.neqS rfl rfl | exact Ex.eqlPN rfl rfl | exact Ex.neqPN rfl rfl | exact Ex.eqlSN rfl rfl | exact Ex.neqSN rfl rfl | exact Ex.lenStr rfl)) rfl ?_ | refine rs_skip rfl rfl ?_)
                refine rs_split (fun h69 => ?_) (fun h69 => ?_)
                · iterate 6 (first | refine rs_ex rfl (by (first | (constructor <;> first | rfl | exact RdC.rd | exact inferInstance) | exact Ex.pickF rfl rfl | exact Ex.eqlS rfl rfl | exact Ex.neqS rfl rfl | exact Ex.eqlPN rfl rfl | exact Ex.neqPN rfl rfl | exact Ex.eqlSN rfl rfl | exact Ex.neqSN rfl rfl | exact Ex.lenStr rfl)) rfl ?_ | refine rs_skip rfl rfl ?_)
                  refine rs_split (fun h75 => ?_) (fun h75 => ?_)
                  · iterate 10 (first | refine rs_ex rfl (by (first | (constructor <;> first | rfl | exact RdC.rd | exact inferInstance) | exact Ex.pickF rfl rfl | exact Ex.eqlS rfl rfl | exact Ex.neqS rfl rfl | exact Ex.eqlPN rfl rfl | exact Ex.neqPN rfl rfl | exact Ex.eqlSN rfl rfl | exact Ex.neqSN rfl rfl | exact Ex.lenStr rfl)) rfl ?_ | refine rs_skip rfl rfl ?_)
                    refine rs_end ?_
                    refine qe_then ?_
                    refine ct_cond rfl (fun _ => ?_) (fun h => absurd h (by decide))
                    refine ct_seq ?_
                    refine ct_region ?_
                    iterate 2 (first | refine rs_ex rfl (by (first | (constructor <;> first | rfl | exact RdC.rd | exact inferInstance) | exact Ex.pickF rfl rfl | exact Ex.eqlS rfl rfl | exact Ex.neqS rfl rfl | exact Ex.eqlPN rfl rfl | exact Ex.neqPN rfl rfl | exact Ex.eqlSN rfl rfl | exact Ex.neqSN rfl rfl | exact Ex.lenStr rfl)) rfl ?_ | refine rs_skip rfl rfl ?_)
                    refine rs_end ?_
                    refine qe_then ?_
                    refine ct_ret ?_
                    have hb : e.bad = true := by first | (simp_all [Ent.bad]; done) | (simp_all [Ent.bad]; omega)
                    exact qe_fit (ret2 rfl rfl rfl ⟨by rw [Ent.enc, if_pos hb], rfl⟩)
                  · iterate 5 (first | refine rs_ex rfl (by (first | (constructor <;> first | rfl | exact RdC.rd | exact inferInstance) | exact Ex.pickF rfl rfl | exact Ex.eqlS rfl rfl | exact Ex.neqS rfl rfl | exact Ex.eqlPN rfl rfl | exact Ex.neqPN rfl rfl | exact Ex.eqlSN rfl rfl | exact Ex.neqSN rfl rfl | exact Ex.lenStr rfl)) rfl ?_ | refine rs_skip rfl rfl ?_)
                    refine rs_split (fun h80 => ?_) (fun h80 => ?_)
                    · iterate 5 (first | refine rs_ex rfl (by (first | (constructor <;> first | rfl | exact RdC.rd | exact inferInstance) | exact Ex.pickF rfl rfl | exact Ex.eqlS rfl rfl | exact Ex.neqS rfl rfl | exact Ex.eqlPN rfl rfl | exact Ex.neqPN rfl rfl | exact Ex.eqlSN rfl rfl | exact Ex.neqSN rfl rfl | exact Ex.lenStr rfl)) rfl ?_ | refine rs_skip rfl rfl ?_)
                      refine rs_end ?_
                      refine qe_then ?_
                      refine ct_cond rfl (fun _ => ?_) (fun h => absurd h (by decide))
                      refine ct_seq ?_
                      refine ct_region ?_
                      iterate 2 (first | refine rs_ex rfl (by (first | (constructor <;> first | rfl | exact RdC.rd | exact inferInstance) | exact Ex.pickF rfl rfl | exact Ex.eqlS rfl rfl | exact Ex.neqS rfl rfl | exact Ex.eqlPN rfl rfl | exact Ex.neqPN rfl rfl | exact Ex.eqlSN rfl rfl | exact Ex.neqSN rfl rfl | exact Ex.lenStr rfl)) rfl ?_ | refine rs_skip rfl rfl ?_)
                      refine rs_end ?_
                      refine qe_then ?_
                      refine ct_ret ?_
                      have hb : e.bad = true := by first | (simp_all [Ent.bad]; done) | (simp_all [Ent.bad]; omega)
                      exact qe_fit (ret2 rfl rfl rfl ⟨by rw [Ent.enc, if_pos hb], rfl⟩)
                    · iterate 5 (first | refine rs_ex rfl (by (first | (constructor <;> first | rfl | exact RdC.rd | exact inferInstance) | exact Ex.pickF rfl rfl | exact Ex.eqlS rfl rfl | exact Ex.neqS rfl rfl | exact Ex.eqlPN rfl rfl | exact Ex.neqPN rfl rfl | exact Ex.eqlSN rfl rfl | exact Ex.neqSN rfl rfl | exact Ex.lenStr rfl)) rfl ?_ | refine rs_skip rfl rfl ?_)
                      refine rs_end ?_
                      refine qe_then ?_
                      refine ct_cond rfl (fun h57 => ?_) (fun h57 => ?_)
                      · refine ct_seq ?_
                        refine ct_region ?_
                        iterate 2 (first | refine rs_ex rfl (by (first | (constructor <;> first | rfl | exact RdC.rd | exact inferInstance) | exact Ex.pickF rfl rfl | exact Ex.eqlS rfl rfl | exact Ex.neqS rfl rfl | exact Ex.eqlPN rfl rfl | exact Ex.neqPN rfl rfl | exact Ex.eqlSN rfl rfl | exact Ex.neqSN rfl rfl | exact Ex.lenStr rfl)) rfl ?_ | refine rs_skip rfl rfl ?_)
                        refine rs_end ?_
                        refine qe_then ?_
                        refine ct_ret ?_
                        have hb : e.bad = true := by first | (simp_all [Ent.bad]; done) | (simp_all [Ent.bad]; omega)
                        exact qe_fit (ret2 rfl rfl rfl ⟨by rw [Ent.enc, if_pos hb], rfl⟩)
                      · refine ct_skip ?_
                        refine qe_block 0 ?_
                        refine qe_then ?_
                        refine ct_seq ?_
                        refine ct_region ?_
                        iterate 3 (first | refine rs_ex rfl (by (first | (constructor <;> first | rfl | exact RdC.rd | exact inferInstance) | exact Ex.pickF rfl rfl | exact Ex.eqlS rfl rfl | exact Ex.neqS rfl rfl | exact Ex.eqlPN rfl rfl | exact Ex.neqPN rfl rfl | exact Ex.eqlSN rfl rfl | exact Ex.neqSN rfl rfl | exact Ex.lenStr rfl)) rfl ?_ | refine rs_skip rfl rfl ?_)
                        refine rs_end ?_
                        refine qe_then ?_
                        refine ct_ret ?_
                        have hb : ¬ e.bad = true := by first | (simp_all [Ent.bad]; done) | (simp_all [Ent.bad]; omega)
                        exact qe_fit (ret2 rfl rfl rfl ⟨by rw [Ent.enc, if_neg hb], rfl⟩)
                · iterate 11 (first | refine rs_ex rfl (by (first | (constructor <;> first | rfl | exact RdC.rd | exact inferInstance) | exact Ex.pickF rfl rfl | exact Ex.eqlS rfl rfl | exact Ex.neqS rfl rfl | exact Ex.eqlPN rfl rfl | exact Ex.neqPN rfl rfl | exact Ex.eqlSN rfl rfl | exact Ex.neqSN rfl rfl | exact Ex.lenStr rfl)) rfl ?_ | refine rs_skip rfl rfl ?_)
                  refine rs_split (fun h80 => ?_) (fun h80 => ?_)
                  · iterate 5 (first | refine rs_ex rfl (by (first | (constructor <;> first | rfl | exact RdC.rd | exact inferInstance) | exact Ex.pickF rfl rfl | exact Ex.eqlS rfl rfl | exact Ex.neqS rfl rfl | exact Ex.eqlPN rfl rfl | exact Ex.neqPN rfl rfl | exact Ex.eqlSN rfl rfl | exact Ex.neqSN rfl rfl | exact Ex.lenStr rfl)) rfl ?_ | refine rs_skip rfl rfl ?_)
                    refine rs_end ?_
                    refine qe_then ?_
                    refine ct_cond rfl (fun _ => ?_) (fun h => absurd h (by decide))
                    refine ct_seq ?_
                    refine ct_region ?_
                    iterate 2 (first | refine rs_ex rfl (by (first | (constructor <;> first | rfl | exact RdC.rd | exact inferInstance) | exact Ex.pickF rfl rfl | exact Ex.eqlS rfl rfl | exact Ex.neqS rfl rfl | exact Ex.eqlPN rfl rfl | exact Ex.neqPN rfl rfl | exact Ex.eqlSN rfl rfl | exact Ex.neqSN rfl rfl | exact Ex.lenStr rfl)) rfl ?_ | refine rs_skip rfl rfl ?_)
                    refine rs_end ?_
                    refine qe_then ?_
                    refine ct_ret ?_
                    have hb : e.bad = true := by first | (simp_all [Ent.bad]; done) | (simp_all [Ent.bad]; omega)
                    exact qe_fit (ret2 rfl rfl rfl ⟨by rw [Ent.enc, if_pos hb], rfl⟩)
                  · iterate 5 (first | refine rs_ex rfl (by (first | (constructor <;> first | rfl | exact RdC.rd | exact inferInstance) | exact Ex.pickF rfl rfl | exact Ex.eqlS rfl rfl | exact Ex.neqS rfl rfl | exact Ex.eqlPN rfl rfl | exact Ex.neqPN rfl rfl | exact Ex.eqlSN rfl rfl | exact Ex.neqSN rfl rfl | exact Ex.lenStr rfl)) rfl ?_ | refine rs_skip rfl rfl ?_)
                    refine rs_end ?_
                    refine qe_then ?_
                    refine ct_cond rfl (fun h57 => ?_) (fun h57 => ?_)
                    · refine ct_seq ?_
                      refine ct_region ?_
                      iterate 2 (first | refine rs_ex rfl (by (first | (constructor <;> first | rfl | exact RdC.rd | exact inferInstance) | exact Ex.pickF rfl rfl | exact Ex.eqlS rfl rfl | exact Ex.neqS rfl rfl | exact Ex.eqlPN rfl rfl | exact Ex.neqPN rfl rfl | exact Ex.eqlSN rfl rfl | exact Ex.neqSN rfl rfl | exact Ex.lenStr rfl)) rfl ?_ | refine rs_skip rfl rfl ?_)
                      refine rs_end ?_
                      refine qe_then ?_
                      refine ct_ret ?_
                      have hb : e.bad = true := by first | (simp_all [Ent.bad]; done) | (simp_all [Ent.bad]; omega)
                      exact qe_fit (ret2 rfl rfl rfl ⟨by rw [Ent.enc, if_pos hb], rfl⟩)
                    · refine ct_skip ?_
                      refine qe_block 0 ?_
                      refine qe_then ?_
                      refine ct_seq ?_
                      refine ct_region ?_
                      iterate 3 (first | refine rs_ex rfl (by (first | (constructor <;> first | rfl | exact RdC.rd | exact inferInstance) | exact Ex.pickF rfl rfl | exact Ex.eqlS rfl rfl | exact Ex.neqS rfl rfl | exact Ex.eqlPN rfl rfl | exact Ex.neqPN rfl rfl | exact Ex.eqlSN rfl rfl | exact Ex.neqSN rfl rfl | exact Ex.lenStr rfl)) rfl ?_ | refine rs_skip rfl rfl ?_)
                      refine rs_end ?_
                      refine qe_then ?_
                      refine ct_ret ?_
                      have hb : ¬ e.bad = true := by first | (simp_all [Ent.bad]; done) | (simp_all [Ent.bad]; omega)
                      exact qe_fit (ret2 rfl rfl rfl ⟨by rw [Ent.enc, if_neg hb], rfl⟩)
          · iterate 5 (first | refine rs_ex rfl (by (first | (constructor <;> first | rfl | exact RdC.rd | exact inferInstance) | exact Ex.pickF rfl rfl | exact Ex.eqlS rfl rfl | exact Ex.neqS rfl rfl | exact Ex.eqlPN rfl rfl | exact Ex.neqPN rfl rfl | exact Ex.eqlSN rfl rfl | exact Ex.neqSN rfl rfl | exact Ex.lenStr rfl)) rfl ?_ | refine rs_skip rfl rfl ?_)
            refine rs_end ?_
            refine qe_then ?_
            refine ct_cond rfl (fun h => absurd h (by decide)) (fun _ => ?_)
            refine ct_seq ?_
            refine ct_region ?_
            iterate 3 (first | refine rs_ex rfl (by (first | (constructor <;> first | rfl | exact RdC.rd | exact inferInstance) | exact Ex.pickF rfl rfl | exact Ex.eqlS rfl rfl | exact Ex.neqS rfl rfl | exact Ex.eqlPN rfl rfl | exact Ex.neqPN rfl rfl | exact Ex.eqlSN rfl rfl | exact Ex.neqSN rfl rfl | exact Ex.lenStr rfl)) rfl ?_ | refine rs_skip rfl rfl ?_)
            refine rs_split (fun h60 => ?_) (fun h60 => ?_)
            · iterate 6 (first | refine rs_ex rfl (by (first | (constructor <;> first | rfl | exact RdC.rd | exact inferInstance) | exact Ex.pickF rfl rfl | exact Ex.eqlS rfl rfl | exact Ex.neqS rfl rfl | exact Ex.eqlPN rfl rfl | exact Ex.neqPN rfl rfl | exact Ex.eqlSN rfl rfl | exact Ex.neqSN rfl rfl | exact Ex.lenStr rfl)) rfl ?_ | refine rs_skip rfl rfl ?_)
              refine rs_split (fun h66 => ?_) (fun h66 => ?_)
              · iterate 19 (first | refine rs_ex rfl (by (first | (constructor <;> first | rfl | exact RdC.rd | exact inferInstance) | exact Ex.pickF rfl rfl | exact Ex.eqlS rfl rfl | exact Ex.neqS rfl rfl | exact Ex.eqlPN rfl rfl | exact Ex.neqPN rfl rfl | exact Ex.eqlSN rfl rfl | exact Ex.neqSN rfl rfl | exact Ex.lenStr rfl)) rfl ?_ | refine rs_skip rfl rfl ?_)
                refine rs_end ?_
                refine qe_then ?_
                refine ct_cond rfl (fun _ => ?_) (fun h => absurd h (by decide))
                refine ct_seq ?_
                refine ct_region ?_
                iterate 2 (first | refine rs_ex rfl (by (first | (constructor <;> first | rfl | exact RdC.rd | exact inferInstance) | exact Ex.pickF rfl rfl | exact Ex.eqlS rfl rfl | exact Ex.neqS rfl rfl | exact Ex.eqlPN rfl rfl | exact Ex.neqPN rfl rfl | exact Ex.eqlSN rfl rfl | exact Ex.neqSN rfl rfl | exact Ex.lenStr rfl)) rfl ?_ | refine rs_skip rfl rfl ?_)
                refine rs_end ?_
                refine qe_then ?_
                refine ct_ret ?_
                have hb : e.bad = true := by first | (simp_all [Ent.bad]; done) | (simp_all [Ent.bad]; omega)
                exact qe_fit (ret2 rfl rfl rfl ⟨by rw [Ent.enc, if_pos hb], rfl⟩)
              · iterate 3 (first | refine rs_ex rfl (by (first | (constructor <;> first | rfl | exact RdC.rd | exact inferInstance) | exact Ex.pickF rfl rfl | exact Ex.eqlS rfl rfl | exact Ex.neqS rfl rfl | exact Ex.eqlPN rfl rfl | exact Ex.neqPN rfl rfl | exact Ex.eqlSN rfl rfl | exact Ex.neqSN rfl rfl | exact Ex.lenStr rfl)) rfl ?_ | refine rs_skip rfl rfl ?_)
                refine rs_split (fun h69 => ?_) (fun h69 => ?_)
                · iterate 6 (first | refine rs_ex rfl (by (first | (constructor <;> first | rfl | exact RdC.rd | exact inferInstance) | exact Ex.pickF rfl rfl | exact Ex.eqlS rfl rfl | exact Ex.neqS rfl rfl | exact Ex.eqlPN rfl rfl | exact Ex.neqPN rfl rfl | exact Ex.eqlSN rfl rfl | exact Ex.neqSN rfl rfl | exact Ex.lenStr rfl)) rfl ?_ | refine rs_skip rfl rfl ?_)
                  refine rs_split (fun h75 => ?_) (fun h75 => ?_)
                  · iterate 10 (first | refine rs_ex rfl (by (first | (constructor <;> first | rfl | exact RdC.rd | exact inferInstance) | exact Ex.pickF rfl rfl | exact Ex.eqlS rfl rfl | exact Ex.neqS rfl rfl | exact Ex.eqlPN rfl rfl | exact Ex.neqPN rfl rfl | exact Ex.eqlSN rfl rfl | exact Ex.neqSN rfl rfl | exact Ex.lenStr rfl)) rfl ?_ | refine rs_skip rfl rfl ?_)
                    refine rs_end ?_
                    refine qe_then ?_
                    refine ct_cond rfl (fun _ => ?_) (fun h => absurd h (by decide))
                    refine ct_seq ?_
                    refine ct_region ?_
                    iterate 2 (first | refine rs_ex rfl (by (first | (constructor <;> first | rfl | exact RdC.rd | exact inferInstance) | exact Ex.pickF rfl rfl | exact Ex.eqlS rfl rfl | exact Ex.neqS rfl rfl | exact Ex.eqlPN rfl rfl | exact Ex.neqPN rfl rfl | exact Ex.eqlSN rfl rfl | exact Ex.neqSN rfl rfl | exact Ex.lenStr rfl)) rfl ?_ | refine rs_skip rfl rfl ?_)
                    refine rs_end ?_
                    refine qe_then ?_
                    refine ct_ret ?_
                    have hb : e.bad = true := by first | (simp_all [Ent.bad]; done) | (simp_all [Ent.bad]; omega)
                    exact qe_fit (ret2 rfl rfl rfl ⟨by rw [Ent.enc, if_pos hb], rfl⟩)
                  · iterate 5 (first | refine rs_ex rfl (by (first | (constructor <;> first | rfl | exact RdC.rd | exact inferInstance) | exact Ex.pickF rfl rfl | exact Ex.eqlS rfl rfl | exact Ex.neqS rfl rfl | exact Ex.eqlPN rfl rfl | exact Ex.neqPN rfl rfl | exact Ex.eqlSN rfl rfl | exact Ex.neqSN rfl rfl | exact Ex.lenStr rfl)) rfl ?_ | refine rs_skip rfl rfl ?_)
                    refine rs_split (fun h80 => ?_) (fun h80 => ?_)
                    · iterate 5 (first | refine rs_ex rfl (by (first | (constructor <;> first | rfl | exact RdC.rd | exact inferInstance) | exact Ex.pickF rfl rfl | exact Ex.eqlS rfl rfl | exact Ex.neqS rfl rfl | exact Ex.eqlPN rfl rfl | exact Ex.neqPN rfl rfl | exact Ex.eqlSN rfl rfl | exact Ex.neqSN rfl rfl | exact Ex.lenStr rfl)) rfl ?_ | refine rs_skip rfl rfl ?_)
                      refine rs_end ?_
                      refine qe_then ?_
                      refine ct_cond rfl (fun _ => ?_) (fun h => absurd h (by decide))
                      refine ct_seq ?_
                      refine ct_region ?_
                      iterate 2 (first | refine rs_ex rfl (by (first | (constructor <;> first | rfl | exact RdC.rd | exact inferInstance) | exact Ex.pickF rfl rfl | exact Ex.eqlS rfl rfl | exact Ex.neqS rfl rfl | exact Ex.eqlPN rfl rfl | exact Ex.neqPN rfl rfl | exact Ex.eqlSN rfl rfl | exact Ex.neqSN rfl rfl | exact Ex.lenStr rfl)) rfl ?_ | refine rs_skip rfl rfl ?_)
                      refine rs_end ?_
                      refine qe_then ?_
                      refine ct_ret ?_
                      have hb : e.bad = true := by first | (simp_all [Ent.bad]; done) | (simp_all [Ent.bad]; omega)
                      exact qe_fit (ret2 rfl rfl rfl ⟨by rw [Ent.enc, if_pos hb], rfl⟩)
                    · iterate 5 (first | refine rs_ex rfl (by (first | (constructor <;> first | rfl | exact RdC.rd | exact inferInstance) | exact Ex.pickF rfl rfl | exact Ex.eqlS rfl rfl | exact Ex.neqS rfl rfl | exact Ex.eqlPN rfl rfl | exact Ex.neqPN rfl rfl | exact Ex.eqlSN rfl rfl | exact Ex.neqSN rfl rfl | exact Ex.lenStr rfl)) rfl ?_ | refine rs_skip rfl rfl ?_)
                      refine rs_end ?_
                      refine qe_then ?_
                      refine ct_cond rfl (fun h57 => ?_) (fun h57 => ?_)
                      · refine ct_seq ?_
                        refine ct_region ?_
                        iterate 2 (first | refine rs_ex rfl (by (first | (constructor <;> first | rfl | exact RdC.rd | exact inferInstance) | exact Ex.pickF rfl rfl | exact Ex.eqlS rfl rfl | exact Ex.neqS rfl rfl | exact Ex.eqlPN rfl rfl | exact Ex.neqPN rfl rfl | exact Ex.eqlSN rfl rfl | exact Ex.neqSN rfl rfl | exact Ex.lenStr rfl)) rfl ?_ | refine rs_skip rfl rfl ?_)
                        refine rs_end ?_
                        refine qe_then ?_
                        refine ct_ret ?_
                        have hb : e.bad = true := by first | (simp_all [Ent.bad]; done) | (simp_all [Ent.bad]; omega)
                        exact qe_fit (ret2 rfl rfl rfl ⟨by rw [Ent.enc, if_pos hb], rfl⟩)
                      · refine ct_skip ?_
                        refine qe_block 0 ?_
                        refine qe_then ?_
                        refine ct_seq ?_
                        refine ct_region ?_
                        iterate 3 (first | refine rs_ex rfl (by (first | (constructor <;> first | rfl | exact RdC.rd | exact inferInstance) | exact Ex.pickF rfl rfl | exact Ex.eqlS rfl rfl | exact Ex.neqS rfl rfl | exact Ex.eqlPN rfl rfl | exact Ex.neqPN rfl rfl | exact Ex.eqlSN rfl rfl | exact Ex.neqSN rfl rfl | exact Ex.lenStr rfl)) rfl ?_ | refine rs_skip rfl rfl ?_)
                        refine rs_end ?_
                        refine qe_then ?_
                        refine ct_ret ?_
                        have hb : ¬ e.bad = true := by first | (simp_all [Ent.bad]; done) | (simp_all [Ent.bad]; omega)
                        exact qe_fit (ret2 rfl rfl rfl ⟨by rw [Ent.enc, if_neg hb], rfl⟩)
                · iterate 11 (first | refine rs_ex rfl (by (first | (constructor <;> first | rfl | exact RdC.rd | exact inferInstance) | exact Ex.pickF rfl rfl | exact Ex.eqlS rfl rfl | exact Ex.neqS rfl rfl | exact Ex.eqlPN rfl rfl | exact Ex.neqPN rfl rfl | exact Ex.eqlSN rfl rfl | exact Ex.neqSN rfl rfl | exact Ex.lenStr rfl)) rfl ?_ | refine rs_skip rfl rfl ?_)
                  refine rs_split (fun h80 => ?_) (fun h80 => ?_)
                  · iterate 5 (first | refine rs_ex rfl (by (first | (constructor <;> first | rfl | exact RdC.rd | exact inferInstance) | exact Ex.pickF rfl rfl | exact Ex.eqlS rfl rfl | exact Ex.neqS rfl rfl | exact Ex.eqlPN rfl rfl | exact Ex.neqPN rfl rfl | exact Ex.eqlSN rfl rfl | exact Ex.neqSN rfl rfl | exact Ex.lenStr rfl)) rfl ?_ | refine rs_skip rfl rfl ?_)
                    refine rs_end ?_
                    refine qe_then ?_
                    refine ct_cond rfl (fun _ => ?_) (fun h => absurd h (by decide))
                    refine ct_seq ?_
                    refine ct_region ?_
                    iterate 2 (first | refine rs_ex rfl (by (first | (constructor <;> first | rfl | exact RdC.rd | exact inferInstance) | exact Ex.pickF rfl rfl | exact Ex.eqlS rfl rfl | exact Ex.neqS rfl rfl | exact Ex.eqlPN rfl rfl | exact Ex.neqPN rfl rfl | exact Ex.eqlSN rfl rfl | exact Ex.neqSN rfl rfl | exact Ex.lenStr rfl)) rfl ?_ | refine rs_skip rfl rfl ?_)
                    refine rs_end ?_
                    refine qe_then ?_
                    refine ct_ret ?_
                    have hb : e.bad = true := by first | (simp_all [Ent.bad]; done) | (simp_all [Ent.bad]; omega)
                    exact qe_fit (ret2 rfl rfl rfl ⟨by rw [Ent.enc, if_pos hb], rfl⟩)
                  · iterate 5 (first | refine rs_ex rfl (by (first | (constructor <;> first | rfl | exact RdC.rd | exact inferInstance) | exact Ex.pickF rfl rfl | exact Ex.eqlS rfl rfl | exact Ex.neqS rfl rfl | exact Ex.eqlPN rfl rfl | exact Ex.neqPN rfl rfl | exact Ex.eqlSN rfl rfl | exact Ex.neqSN rfl rfl | exact Ex.lenStr rfl)) rfl ?_ | refine rs_skip rfl rfl ?_)
                    refine rs_end ?_
                    refine qe_then ?_
                    refine ct_cond rfl (fun h57 => ?_) (fun h57 => ?_)
                    · refine ct_seq ?_
                      refine ct_region ?_
                      iterate 2 (first | refine rs_ex rfl (by (first | (constructor <;> first | rfl | exact RdC.rd | exact inferInstance) | exact Ex.pickF rfl rfl | exact Ex.eqlS rfl rfl | exact Ex.neqS rfl rfl | exact Ex.eqlPN rfl rfl | exact Ex.neqPN rfl rfl | exact Ex.eqlSN rfl rfl | exact Ex.neqSN rfl rfl | exact Ex.lenStr rfl)) rfl ?_ | refine rs_skip rfl rfl ?_)
                      refine rs_end ?_
                      refine qe_then ?_
                      refine ct_ret ?_
                      have hb : e.bad = true := by first | (simp_all [Ent.bad]; done) | (simp_all [Ent.bad]; omega)
                      exact qe_fit (ret2 rfl rfl rfl ⟨by rw [Ent.enc, if_pos hb], rfl⟩)
                    · refine ct_skip ?_
                      refine qe_block 0 ?_
                      refine qe_then ?_
                      refine ct_seq ?_
                      refine ct_region ?_
                      iterate 3 (first | refine rs_ex rfl (by (first | (constructor <;> first | rfl | exact RdC.rd | exact inferInstance) | exact Ex.pickF rfl rfl | exact Ex.eqlS rfl rfl | exact Ex.neqS rfl rfl | exact Ex.eqlPN rfl rfl | exact Ex.neqPN rfl rfl | exact Ex.eqlSN rfl rfl | exact Ex.neqSN rfl rfl | exact Ex.lenStr rfl)) rfl ?_ | refine rs_skip rfl rfl ?_)
                      refine rs_end ?_
                      refine qe_then ?_
                      refine ct_ret ?_
                      have hb : ¬ e.bad = true := by first | (simp_all [Ent.bad]; done) | (simp_all [Ent.bad]; omega)
                      exact qe_fit (ret2 rfl rfl rfl ⟨by rw [Ent.enc, if_neg hb], rfl⟩)
            · iterate 9 (first | refine rs_ex rfl (by (first | (constructor <;> first | rfl | exact RdC.rd | exact inferInstance) | exact Ex.pickF rfl rfl | exact Ex.eqlS rfl rfl | exact Ex.neqS rfl rfl | exact Ex.eqlPN rfl rfl | exact Ex.neqPN rfl rfl | exact Ex.eqlSN rfl rfl | exact Ex.neqSN rfl rfl | exact Ex.lenStr rfl)) rfl ?_ | refine rs_skip rfl rfl ?_)
              refine rs_split (fun h69 => ?_) (fun h69 => ?_)
              · iterate 6 (first | refine rs_ex rfl (by (first | (constructor <;> first | rfl | exact RdC.rd | exact inferInstance) | exact Ex.pickF rfl rfl | exact Ex.eqlS rfl rfl | exact Ex.neqS rfl rfl | exact Ex.eqlPN rfl rfl | exact Ex.neqPN rfl rfl | exact Ex.eqlSN rfl rfl | exact Ex.neqSN rfl rfl | exact Ex.lenStr rfl)) rfl ?_ | refine rs_skip rfl rfl ?_)
                refine rs_split (fun h75 => ?_) (fun h75 => ?_)
                · iterate 10 (first | refine rs_ex rfl (by (first | (constructor <;> first | rfl | exact RdC.rd | exact inferInstance) | exact Ex.pickF rfl rfl | exact Ex.eqlS rfl rfl | exact Ex.neqS rfl rfl | exact Ex.eqlPN rfl rfl | exact Ex.neqPN rfl rfl | exact Ex.eqlSN rfl rfl | exact Ex.neqSN rfl rfl | exact Ex.lenStr rfl)) rfl ?_ | refine rs_skip rfl rfl ?_)
                  refine rs_end ?_
                  refine qe_then ?_
                  refine ct_cond rfl (fun _ => ?_) (fun h => absurd h (by decide))
                  refine ct_seq ?_
                  refine ct_region ?_
                  iterate 2 (first | refine rs_ex rfl (by (first | (constructor <;> first | rfl | exact RdC.rd | exact inferInstance) | exact Ex.pickF rfl rfl | exact Ex.eqlS rfl rfl | exact Ex.neqS rfl rfl | exact Ex.eqlPN rfl rfl | exact Ex.neqPN rfl rfl | exact Ex.eqlSN rfl rfl | exact Ex.neqSN rfl rfl | exact Ex.lenStr rfl)) rfl ?_ | refine rs_skip rfl rfl ?_)
                  refine rs_end ?_
                  refine qe_then ?_
                  refine ct_ret ?_
                  have hb : e.bad = true := by first | (simp_all [Ent.bad]; done) | (simp_all [Ent.bad]; omega)
                  exact qe_fit (ret2 rfl rfl rfl ⟨by rw [Ent.enc, if_pos hb], rfl⟩)
                · iterate 5 (first | refine rs_ex rfl (by (first | (constructor <;> first | rfl | exact RdC.rd | exact inferInstance) | exact Ex.pickF rfl rfl | exact Ex.eqlS rfl rfl | exact Ex.neqS rfl rfl | exact Ex.eqlPN rfl rfl | exact Ex.neqPN rfl rfl | exact Ex.eqlSN rfl rfl | exact Ex.neqSN rfl rfl | exact Ex.lenStr rfl)) rfl ?_ | refine rs_skip rfl rfl ?_)
                  refine rs_split (fun h80 => ?_) (fun h80 => ?_)
                  · iterate 5 (first | refine rs_ex rfl (by (first | (constructor <;> first | rfl | exact RdC.rd | exact inferInstance) | exact Ex.pickF rfl rfl | exact Ex.eqlS rfl rfl | exact Ex.neqS rfl rfl | exact Ex.eqlPN rfl rfl | exact Ex.neqPN rfl rfl | exact Ex.eqlSN rfl rfl | exact Ex.neqSN rfl rfl | exact Ex.lenStr rfl)) rfl ?_ | refine rs_skip rfl rfl ?_)
                    refine rs_end ?_
                    refine qe_then ?_
                    refine ct_cond rfl (fun _ => ?_) (fun h => absurd h (by decide))
                    refine ct_seq ?_
                    refine ct_region ?_
                    iterate 2 (first | refine rs_ex rfl (by (first | (constructor <;> first | rfl | exact RdC.rd | exact inferInstance) | exact Ex.pickF rfl rfl | exact Ex.eqlS rfl rfl | exact Ex.neqS rfl rfl | exact Ex.eqlPN rfl rfl | exact Ex.neqPN rfl rfl | exact Ex.eqlSN rfl rfl | exact Ex.neqSN rfl rfl | exact Ex.lenStr rfl)) rfl ?_ | refine rs_skip rfl rfl ?_)
                    refine rs_end ?_
                    refine qe_then ?_
                    refine ct_ret ?_
                    have hb : e.bad = true := by first | (simp_all [Ent.bad]; done) | (simp_all [Ent.bad]; omega)
                    exact qe_fit (ret2 rfl rfl rfl ⟨by rw [Ent.enc, if_pos hb], rfl⟩)
                  · iterate 5 (first | refine rs_ex rfl (by (first | (constructor <;> first | rfl | exact RdC.rd | exact inferInstance) | exact Ex.pickF rfl rfl | exact Ex.eqlS rfl rfl | exact Ex.neqS rfl rfl | exact Ex.eqlPN rfl rfl | exact Ex.neqPN rfl rfl | exact Ex.eqlSN rfl rfl | exact Ex.neqSN rfl rfl | exact Ex.lenStr rfl)) rfl ?_ | refine rs_skip rfl rfl ?_)
                    refine rs_end ?_
                    refine qe_then ?_
                    refine ct_cond rfl (fun h57 => ?_) (fun h57 => ?_)
                    · refine ct_seq ?_
                      refine ct_region ?_
                      iterate 2 (first | refine rs_ex rfl (by (first | (constructor <;> first | rfl | exact RdC.rd | exact inferInstance) | exact Ex.pickF rfl rfl | exact Ex.eqlS rfl rfl | exact Ex.neqS rfl rfl | exact Ex.eqlPN rfl rfl | exact Ex.neqPN rfl rfl | exact Ex.eqlSN rfl rfl | exact Ex.neqSN rfl rfl | exact Ex.lenStr rfl)) rfl ?_ | refine rs_skip rfl rfl ?_)
                      refine rs_end ?_
                      refine qe_then ?_
                      refine ct_ret ?_
                      have hb : e.bad = true := by first | (simp_all [Ent.bad]; done) | (simp_all [Ent.bad]; omega)
                      exact qe_fit (ret2 rfl rfl rfl ⟨by rw [Ent.enc, if_pos hb], rfl⟩)
                    · refine ct_skip ?_
                      refine qe_block 0 ?_
                      refine qe_then ?_
                      refine ct_seq ?_
                      refine ct_region ?_
                      iterate 3 (first | refine rs_ex rfl (by (first | (constructor <;> first | rfl | exact RdC.rd | exact inferInstance) | exact Ex.pickF rfl rfl | exact Ex.eqlS rfl rfl | exact Ex.neqS rfl rfl | exact Ex.eqlPN rfl rfl | exact Ex.neqPN rfl rfl | exact Ex.eqlSN rfl rfl | exact Ex.neqSN rfl rfl | exact Ex.lenStr rfl)) rfl ?_ | refine rs_skip rfl rfl ?_)
                      refine rs_end ?_
                      refine qe_then ?_
                      refine ct_ret ?_
                      have hb : ¬ e.bad = true := by first | (simp_all [Ent.bad]; done) | (simp_all [Ent.bad]; omega)
                      exact qe_fit (ret2 rfl rfl rfl ⟨by rw [Ent.enc, if_neg hb], rfl⟩)
              · iterate 11 (first | refine rs_ex rfl (by (first | (constructor <;> first | rfl | exact RdC.rd | exact inferInstance) | exact Ex.pickF rfl rfl | exact Ex.eqlS rfl rfl | exact Ex.neqS rfl rfl | exact Ex.eqlPN rfl rfl | exact Ex.neqPN rfl rfl | exact Ex.eqlSN rfl rfl | exact Ex.neqSN rfl rfl | exact Ex.lenStr rfl)) rfl ?_ | refine rs_skip rfl rfl ?_)
                refine rs_split (fun h80 => ?_) (fun h80 => ?_)
                · iterate 5 (first | refine rs_ex rfl (by (first | (constructor <;> first | rfl | exact RdC.rd | exact inferInstance) | exact Ex.pickF rfl rfl | exact Ex.eqlS rfl rfl | exact Ex.neqS rfl rfl | exact Ex.eqlPN rfl rfl | exact Ex.neqPN rfl rfl | exact Ex.eqlSN rfl rfl | exact Ex.neqSN rfl rfl | exact Ex.lenStr rfl)) rfl ?_ | refine rs_skip rfl rfl ?_)
                  refine rs_end ?_
                  refine qe_then ?_
                  refine ct_cond rfl (fun _ => ?_) (fun h => absurd h (by decide))
                  refine ct_seq ?_
                  refine ct_region ?_
                  iterate 2 (first | refine rs_ex rfl (by (first | (constructor <;> first | rfl | exact RdC.rd | exact inferInstance) | exact Ex.pickF rfl rfl | exact Ex.eqlS rfl rfl | exact Ex.neqS rfl rfl | exact Ex.eqlPN rfl rfl | exact Ex.neqPN rfl rfl | exact Ex.eqlSN rfl rfl | exact Ex.neqSN rfl rfl | exact Ex.lenStr rfl)) rfl ?_ | refine rs_skip rfl rfl ?_)
                  refine rs_end ?_
                  refine qe_then ?_
                  refine ct_ret ?_
                  have hb : e.bad = true := by first | (simp_all [Ent.bad]; done) | (simp_all [Ent.bad]; omega)
                  exact qe_fit (ret2 rfl rfl rfl ⟨by rw [Ent.enc, if_pos hb], rfl⟩)
                · iterate 5 (first | refine rs_ex rfl (by (first | (constructor <;> first | rfl | exact RdC.rd | exact inferInstance) | exact Ex.pickF rfl rfl | exact Ex.eqlS rfl rfl | exact Ex.neqS rfl rfl | exact Ex.eqlPN rfl rfl | exact Ex.neqPN rfl rfl | exact Ex.eqlSN rfl rfl | exact Ex.neqSN rfl rfl | exact Ex.lenStr rfl)) rfl ?_ | refine rs_skip rfl rfl ?_)
                  refine rs_end ?_
                  refine qe_then ?_
                  refine ct_cond rfl (fun h57 => ?_) (fun h57 => ?_)
                  · refine ct_seq ?_
                    refine ct_region ?_
                    iterate 2 (first | refine rs_ex rfl (by (first | (constructor <;> first | rfl | exact RdC.rd | exact inferInstance) | exact Ex.pickF rfl rfl | exact Ex.eqlS rfl rfl | exact Ex.neqS rfl rfl | exact Ex.eqlPN rfl rfl | exact Ex.neqPN rfl rfl | exact Ex.eqlSN rfl rfl | exact Ex.neqSN rfl rfl | exact Ex.lenStr rfl)) rfl ?_ | refine rs_skip rfl rfl ?_)
                    refine rs_end ?_
                    refine qe_then ?_
                    refine ct_ret ?_
                    have hb : e.bad = true := by first | (simp_all [Ent.bad]; done) | (simp_all [Ent.bad]; omega)
                    exact qe_fit (ret2 rfl rfl rfl ⟨by rw [Ent.enc, if_pos hb], rfl⟩)
                  · refine ct_skip ?_
                    refine qe_block 0 ?_
                    refine qe_then ?_
                    refine ct_seq ?_
                    refine ct_region ?_
                    iterate 3 (first | refine rs_ex rfl (by (first | (constructor <;> first | rfl | exact RdC.rd | exact inferInstance) | exact Ex.pickF rfl rfl | exact Ex.eqlS rfl rfl | exact Ex.neqS rfl rfl | exact Ex.eqlPN rfl rfl | exact Ex.neqPN rfl rfl | exact Ex.eqlSN rfl rfl | exact Ex.neqSN rfl rfl | exact Ex.lenStr rfl)) rfl ?_ | refine rs_skip rfl rfl ?_)
                    refine rs_end ?_
                    refine qe_then ?_
                    refine ct_ret ?_
                    have hb : ¬ e.bad = true := by first | (simp_all [Ent.bad]; done) | (simp_all [Ent.bad]; omega)
                    exact qe_fit (ret2 rfl rfl rfl ⟨by rw [Ent.enc, if_neg hb], rfl⟩)
        · iterate 9 (first | refine rs_ex rfl (by (first | (constructor <;> first | rfl | exact RdC.rd | exact inferInstance) | exact Ex.pickF rfl rfl | exact Ex.eqlS rfl rfl | exact Ex.neqS rfl rfl | exact Ex.eqlPN rfl rfl | exact Ex.neqPN rfl rfl | exact Ex.eqlSN rfl rfl | exact Ex.neqSN rfl rfl | exact Ex.lenStr rfl)) rfl ?_ | refine rs_skip rfl rfl ?_)
          refine rs_end ?_
          refine qe_then ?_
          refine ct_cond rfl (fun h => absurd h (by decide)) (fun _ => ?_)
          refine ct_seq ?_
          refine ct_region ?_
          iterate 3 (first | refine rs_ex rfl (by (first | (constructor <;> first | rfl | exact RdC.rd | exact inferInstance) | exact Ex.pickF rfl rfl | exact Ex.eqlS rfl rfl | exact Ex.neqS rfl rfl | exact Ex.eqlPN rfl rfl | exact Ex.neqPN rfl rfl | exact Ex.eqlSN rfl rfl | exact Ex.neqSN rfl rfl | exact Ex.lenStr rfl)) rfl ?_ | refine rs_skip rfl rfl ?_)
          refine rs_split (fun h60 => ?_) (fun h60 => ?_)
          · iterate 6 (first | refine rs_ex rfl (by (first | (constructor <;> first | rfl | exact RdC.rd | exact inferInstance) | exact Ex.pickF rfl rfl | exact Ex.eqlS rfl rfl | exact Ex.neqS rfl rfl | exact Ex.eqlPN rfl rfl | exact Ex.neqPN rfl rfl | exact Ex.eqlSN rfl rfl | exact Ex.neqSN rfl rfl | exact Ex.lenStr rfl)) rfl ?_ | refine rs_skip rfl rfl ?_)
            refine rs_split (fun h66 => ?_) (fun h66 => ?_)
            · iterate 19 (first | refine rs_ex rfl (by (first | (constructor <;> first | rfl | exact RdC.rd | exact inferInstance) | exact Ex.pickF rfl rfl | exact Ex.eqlS rfl rfl | exact Ex.neqS rfl rfl | exact Ex.eqlPN rfl rfl | exact Ex.neqPN rfl rfl | exact Ex.eqlSN rfl rfl | exact Ex.neqSN rfl rfl | exact Ex.lenStr rfl)) rfl ?_ | refine rs_skip rfl rfl ?_)
              refine rs_end ?_
              refine qe_then ?_
              refine ct_cond rfl (fun _ => ?_) (fun h => absurd h (by decide))
              refine ct_seq ?_
              refine ct_region ?_
              iterate 2 (first | refine rs_ex rfl (by (first | (constructor <;> first | rfl | exact RdC.rd | exact inferInstance) | exact Ex.pickF rfl rfl | exact Ex.eqlS rfl rfl | exact Ex.neqS rfl rfl | exact Ex.eqlPN rfl rfl | exact Ex.neqPN rfl rfl | exact Ex.eqlSN rfl rfl | exact Ex.neqSN rfl rfl | exact Ex.lenStr rfl)) rfl ?_ | refine rs_skip rfl rfl ?_)
              refine rs_end ?_
              refine qe_then ?_
              refine ct_ret ?_
              have hb : e.bad = true := by first | (simp_all [Ent.bad]; done) | (simp_all [Ent.bad]; omega)
              exact qe_fit (ret2 rfl rfl rfl ⟨by rw [Ent.enc, if_pos hb], rfl⟩)
            · iterate 3 (first | refine rs_ex rfl (by (first | (constructor <;> first | rfl | exact RdC.rd | exact inferInstance) | exact Ex.pickF rfl rfl | exact Ex.eqlS rfl rfl | exact Ex.neqS rfl rfl | exact Ex.eqlPN rfl rfl | exact Ex.neqPN rfl rfl | exact Ex.eqlSN rfl rfl | exact Ex.neqSN rfl rfl | exact Ex.lenStr rfl)) rfl ?_ | refine rs_skip rfl rfl ?_)
              refine rs_split (fun h69 => ?_) (fun h69 => ?_)
              · iterate 6 (first | refine rs_ex rfl (by (first | (constructor <;> first | rfl | exact RdC.rd | exact inferInstance) | exact Ex.pickF rfl rfl | exact Ex.eqlS rfl rfl | exact Ex.neqS rfl rfl | exact Ex.eqlPN rfl rfl | exact Ex.neqPN rfl rfl | exact Ex.eqlSN rfl rfl | exact Ex.neqSN rfl rfl | exact Ex.lenStr rfl)) rfl ?_ | refine rs_skip rfl rfl ?_)
                refine rs_split (fun h75 => ?_) (fun h75 => ?_)
                · iterate 10 (first | refine rs_ex rfl (by (first | (constructor <;> first | rfl | exact RdC.rd | exact inferInstance) | exact Ex.pickF rfl rfl | exact Ex.eqlS rfl rfl | exact Ex.neqS rfl rfl | exact Ex.eqlPN rfl rfl | exact Ex.neqPN rfl rfl | exact Ex.eqlSN rfl rfl | exact Ex.neqSN rfl rfl | exact Ex.lenStr rfl)) rfl ?_ | refine rs_skip rfl rfl ?_)
                  refine rs_end ?_
                  refine qe_then ?_
                  refine ct_cond rfl (fun _ => ?_) (fun h => absurd h (by decide))
                  refine ct_seq ?_
                  refine ct_region ?_
                  iterate 2 (first | refine rs_ex rfl (by (first | (constructor <;> first | rfl | exact RdC.rd | exact inferInstance) | exact Ex.pickF rfl rfl | exact Ex.eqlS rfl rfl | exact Ex.neqS rfl rfl | exact Ex.eqlPN rfl rfl | exact Ex.neqPN rfl rfl | exact Ex.eqlSN rfl rfl | exact Ex.neqSN rfl rfl | exact Ex.lenStr rfl)) rfl ?_ | refine rs_skip rfl rfl ?_)
                  refine rs_end ?_
                  refine qe_then ?_
                  refine ct_ret ?_
                  have hb : e.bad = true := by first | (simp_all [Ent.bad]; done) | (simp_all [Ent.bad]; omega)
                  exact qe_fit (ret2 rfl rfl rfl ⟨by rw [Ent.enc, if_pos hb], rfl⟩)
                · iterate 5 (first | refine rs_ex rfl (by (first | (constructor <;> first | rfl | exact RdC.rd | exact inferInstance) | exact Ex.pickF rfl rfl | exact Ex.eqlS rfl rfl | exact Ex.neqS rfl rfl | exact Ex.eqlPN rfl rfl | exact Ex.neqPN rfl rfl | exact Ex.eqlSN rfl rfl | exact Ex.neqSN rfl rfl | exact Ex.lenStr rfl)) rfl ?_ | refine rs_skip rfl rfl ?_)
                  refine rs_split (fun h80 => ?_) (fun h80 => ?_)
                  · iterate 5 (first | refine rs_ex rfl (by (first | (constructor <;> first | rfl | exact RdC.rd | exact inferInstance) | exact Ex.pickF rfl rfl | exact Ex.eqlS rfl rfl | exact Ex.neqS rfl rfl | exact Ex.eqlPN rfl rfl | exact Ex.neqPN rfl rfl | exact Ex.eqlSN rfl rfl | exact Ex.neqSN rfl rfl | exact Ex.lenStr rfl)) rfl ?_ | refine rs_skip rfl rfl ?_)
                    refine rs_end ?_
                    refine qe_then ?_
                    refine ct_cond rfl (fun _ => ?_) (fun h => absurd h (by decide))
                    refine ct_seq ?_
                    refine ct_region ?_
                    iterate 2 (first | refine rs_ex rfl (by (first | (constructor <;> first | rfl | exact RdC.rd | exact inferInstance) | exact Ex.pickF rfl rfl | exact Ex.eqlS rfl rfl | exact Ex.neqS rfl rfl | exact Ex.eqlPN rfl rfl | exact Ex.neqPN rfl rfl | exact Ex.eqlSN rfl rfl | exact Ex.neqSN rfl rfl | exact Ex.lenStr rfl)) rfl ?_ | refine rs_skip rfl rfl ?_)
                    refine rs_end ?_
                    refine qe_then ?_
                    refine ct_ret ?_
                    have hb : e.bad = true := by first | (simp_all [Ent.bad]; done) | (simp_all [Ent.bad]; omega)
                    exact qe_fit (ret2 rfl rfl rfl ⟨by rw [Ent.enc, if_pos hb], rfl⟩)
                  · iterate 5 (first | refine rs_ex rfl (by (first | (constructor <;> first | rfl | exact RdC.rd | exact inferInstance) | exact Ex.pickF rfl rfl | exact Ex.eqlS rfl rfl | exact Ex.neqS rfl rfl | exact Ex.eqlPN rfl rfl | exact Ex.neqPN rfl rfl | exact Ex.eqlSN rfl rfl | exact Ex.neqSN rfl rfl | exact Ex.lenStr rfl)) rfl ?_ | refine rs_skip rfl rfl ?_)
                    refine rs_end ?_
                    refine qe_then ?_
                    refine ct_cond rfl (fun h57 => ?_) (fun h57 => ?_)
                    · refine ct_seq ?_
                      refine ct_region ?_
                      iterate 2 (first | refine rs_ex rfl (by (first | (constructor <;> first | rfl | exact RdC.rd | exact inferInstance) | exact Ex.pickF rfl rfl | exact Ex.eqlS rfl rfl | exact Ex.neqS rfl rfl | exact Ex.eqlPN rfl rfl | exact Ex.neqPN rfl rfl | exact Ex.eqlSN rfl rfl | exact Ex.neqSN rfl rfl | exact Ex.lenStr rfl)) rfl ?_ | refine rs_skip rfl rfl ?_)
                      refine rs_end ?_
                      refine qe_then ?_
                      refine ct_ret ?_
                      have hb : e.bad = true := by first | (simp_all [Ent.bad]; done) | (simp_all [Ent.bad]; omega)
                      exact qe_fit (ret2 rfl rfl rfl ⟨by rw [Ent.enc, if_pos hb], rfl⟩)
                    · refine ct_skip ?_
                      refine qe_block 0 ?_
                      refine qe_then ?_
                      refine ct_seq ?_
                      refine ct_region ?_
                      iterate 3 (first | refine rs_ex rfl (by (first | (constructor <;> first | rfl | exact RdC.rd | exact inferInstance) | exact Ex.pickF rfl rfl | exact Ex.eqlS rfl rfl | exact Ex.neqS rfl rfl | exact Ex.eqlPN rfl rfl | exact Ex.neqPN rfl rfl | exact Ex.eqlSN rfl rfl | exact Ex.neqSN rfl rfl | exact Ex.lenStr rfl)) rfl ?_ | refine rs_skip rfl rfl ?_)
                      refine rs_end ?_
                      refine qe_then ?_
                      refine ct_ret ?_
                      have hb : ¬ e.bad = true := by first | (simp_all [Ent.bad]; done) | (simp_all [Ent.bad]; omega)
                      exact qe_fit (ret2 rfl rfl rfl ⟨by rw [Ent.enc, if_neg hb], rfl⟩)
              · iterate 11 (first | refine rs_ex rfl (by (first | (constructor <;> first | rfl | exact RdC.rd | exact inferInstance) | exact Ex.pickF rfl rfl | exact Ex.eqlS rfl rfl | exact Ex.neqS rfl rfl | exact Ex.eqlPN rfl rfl | exact Ex.neqPN rfl rfl | exact Ex.eqlSN rfl rfl | exact Ex.neqSN rfl rfl | exact Ex.lenStr rfl)) rfl ?_ | refine rs_skip rfl rfl ?_)
                refine rs_split (fun h80 => ?_) (fun h80 => ?_)
                · iterate 5 (first | refine rs_ex rfl (by (first | (constructor <;> first | rfl | exact RdC.rd | exact inferInstance) | exact Ex.pickF rfl rfl | exact Ex.eqlS rfl rfl | exact Ex.neqS rfl rfl | exact Ex.eqlPN rfl rfl | exact Ex.neqPN rfl rfl | exact Ex.eqlSN rfl rfl | exact Ex.neqSN rfl rfl | exact Ex.lenStr rfl)) rfl ?_ | refine rs_skip rfl rfl ?_)
                  refine rs_end ?_
                  refine qe_then ?_
                  refine ct_cond rfl (fun _ => ?_) (fun h => absurd h (by decide))
                  refine ct_seq ?_
                  refine ct_region ?_
                  iterate 2 (first | refine rs_ex rfl (by (first | (constructor <;> first | rfl | exact RdC.rd | exact inferInstance) | exact Ex.pickF rfl rfl | exact Ex.eqlS rfl rfl | exact Ex.neqS rfl rfl | exact Ex.eqlPN rfl rfl | exact Ex.neqPN rfl rfl | exact Ex.eqlSN rfl rfl | exact Ex.neqSN rfl rfl | exact Ex.lenStr rfl)) rfl ?_ | refine rs_skip rfl rfl ?_)
                  refine rs_end ?_
                  refine qe_then ?_
                  refine ct_ret ?_
                  have hb : e.bad = true := by first | (simp_all [Ent.bad]; done) | (simp_all [Ent.bad]; omega)
                  exact qe_fit (ret2 rfl rfl rfl ⟨by rw [Ent.enc, if_pos hb], rfl⟩)
                · iterate 5 (first | refine rs_ex rfl (by (first | (constructor <;> first | rfl | exact RdC.rd | exact inferInstance) | exact Ex.pickF rfl rfl | exact Ex.eqlS rfl rfl | exact Ex.neqS rfl rfl | exact Ex.eqlPN rfl rfl | exact Ex.neqPN rfl rfl | exact Ex.eqlSN rfl rfl | exact Ex.neqSN rfl rfl | exact Ex.lenStr rfl)) rfl ?_ | refine rs_skip rfl rfl ?_)
                  refine rs_end ?_
                  refine qe_then ?_
                  refine ct_cond rfl (fun h57 => ?_) (fun h57 => ?_)
                  · refine ct_seq ?_
                    refine ct_region ?_
                    iterate 2 (first | refine rs_ex rfl (by (first | (constructor <;> first | rfl | exact RdC.rd | exact inferInstance) | exact Ex.pickF rfl rfl | exact Ex.eqlS rfl rfl | exact Ex.neqS rfl rfl | exact Ex.eqlPN rfl rfl | exact Ex.neqPN rfl rfl | exact Ex.eqlSN rfl rfl | exact Ex.neqSN rfl rfl | exact Ex.lenStr rfl)) rfl ?_ | refine rs_skip rfl rfl ?_)
                    refine rs_end ?_
                    refine qe_then ?_
                    refine ct_ret ?_
                    have hb : e.bad = true := by first | (simp_all [Ent.bad]; done) | (simp_all [Ent.bad]; omega)
                    exact qe_fit (ret2 rfl rfl rfl ⟨by rw [Ent.enc, if_pos hb], rfl⟩)
                  · refine ct_skip ?_
                    refine qe_block 0 ?_
                    refine qe_then ?_
                    refine ct_seq ?_
                    refine ct_region ?_
                    iterate 3 (first | refine rs_ex rfl (by (first | (constructor <;> first | rfl | exact RdC.rd | exact inferInstance) | exact Ex.pickF rfl rfl | exact Ex.eqlS rfl rfl | exact Ex.neqS rfl rfl | exact Ex.eqlPN rfl rfl | exact Ex.neqPN rfl rfl | exact Ex.eqlSN rfl rfl | exact Ex.neqSN rfl rfl | exact Ex.lenStr rfl)) rfl ?_ | refine rs_skip rfl rfl ?_)
                    refine rs_end ?_
                    refine qe_then ?_
                    refine ct_ret ?_
                    have hb : ¬ e.bad = true := by first | (simp_all [Ent.bad]; done) | (simp_all [Ent.bad]; omega)
                    exact qe_fit (ret2 rfl rfl rfl ⟨by rw [Ent.enc, if_neg hb], rfl⟩)
          · iterate 9 (first | refine rs_ex rfl (by (first | (constructor <;> first | rfl | exact RdC.rd | exact inferInstance) | exact Ex.pickF rfl rfl | exact Ex.eqlS rfl rfl | exact Ex.neqS rfl rfl | exact Ex.eqlPN rfl rfl | exact Ex.neqPN rfl rfl | exact Ex.eqlSN rfl rfl | exact Ex.neqSN rfl rfl | exact Ex.lenStr rfl)) rfl ?_ | refine rs_skip rfl rfl ?_)
            refine rs_split (fun h69 => ?_) (fun h69 => ?_)
            · iterate 6 (first | refine rs_ex rfl (by (first | (constructor <;> first | rfl | exact RdC.rd | exact inferInstance) | exact Ex.pickF rfl rfl | exact Ex.eqlS rfl rfl | exact Ex.neqS rfl rfl | exact Ex.eqlPN rfl rfl | exact Ex.neqPN rfl rfl | exact Ex.eqlSN rfl rfl | exact Ex.neqSN rfl rfl | exact Ex.lenStr rfl)) rfl ?_ | refine rs_skip rfl rfl ?_)
              refine rs_split (fun h75 => ?_) (fun h75 => ?_)
              · iterate 10 (first | refine rs_ex rfl (by (first | (constructor <;> first | rfl | exact RdC.rd | exact inferInstance) | exact Ex.pickF rfl rfl | exact Ex.eqlS rfl rfl | exact Ex.neqS rfl rfl | exact Ex.eqlPN rfl rfl | exact Ex.neqPN rfl rfl | exact Ex.eqlSN rfl rfl | exact Ex.neqSN rfl rfl | exact Ex.lenStr rfl)) rfl ?_ | refine rs_skip rfl rfl ?_)
                refine rs_end ?_
                refine qe_then ?_
                refine ct_cond rfl (fun _ => ?_) (fun h => absurd h (by decide))
                refine ct_seq ?_
                refine ct_region ?_
                iterate 2 (first | refine rs_ex rfl (by (first | (constructor <;> first | rfl | exact RdC.rd | exact inferInstance) | exact Ex.pickF rfl rfl | exact Ex.eqlS rfl rfl | exact Ex.neqS rfl rfl | exact Ex.eqlPN rfl rfl | exact Ex.neqPN rfl rfl | exact Ex.eqlSN rfl rfl | exact Ex.neqSN rfl rfl | exact Ex.lenStr rfl)) rfl ?_ | refine rs_skip rfl rfl ?_)
                refine rs_end ?_
                refine qe_then ?_
                refine ct_ret ?_
                have hb : e.bad = true := by first | (simp_all [Ent.bad]; done) | (simp_all [Ent.bad]; omega)
                exact qe_fit (ret2 rfl rfl rfl ⟨by rw [Ent.enc, if_pos hb], rfl⟩)
              · iterate 5 (first | refine rs_ex rfl (by (first | (constructor <;> first | rfl | exact RdC.rd | exact inferInstance) | exact Ex.pickF rfl rfl | exact Ex.eqlS rfl rfl | exact Ex.neqS rfl rfl | exact Ex.eqlPN rfl rfl | exact Ex.neqPN rfl rfl | exact Ex.eqlSN rfl rfl | exact Ex.neqSN rfl rfl | exact Ex.lenStr rfl)) rfl ?_ | refine rs_skip rfl rfl ?_)
                refine rs_split (fun h80 => ?_) (fun h80 => ?_)
                · iterate 5 (first | refine rs_ex rfl (by (first | (constructor <;> first | rfl | exact RdC.rd | exact inferInstance) | exact Ex.pickF rfl rfl | exact Ex.eqlS rfl rfl | exact Ex.neqS rfl rfl | exact Ex.eqlPN rfl rfl | exact Ex.neqPN rfl rfl | exact Ex.eqlSN rfl rfl | exact Ex.neqSN rfl rfl | exact Ex.lenStr rfl)) rfl ?_ | refine rs_skip rfl rfl ?_)
                  refine rs_end ?_
                  refine qe_then ?_
                  refine ct_cond rfl (fun _ => ?_) (fun h => absurd h (by decide))
                  refine ct_seq ?_
                  refine ct_region ?_
                  iterate 2 (first | refine rs_ex rfl (by (first | (constructor <;> first | rfl | exact RdC.rd | exact inferInstance) | exact Ex.pickF rfl rfl | exact Ex.eqlS rfl rfl | exact Ex.neqS rfl rfl | exact Ex.eqlPN rfl rfl | exact Ex.neqPN rfl rfl | exact Ex.eqlSN rfl rfl | exact Ex.neqSN rfl rfl | exact Ex.lenStr rfl)) rfl ?_ | refine rs_skip rfl rfl ?_)
                  refine rs_end ?_
                  refine qe_then ?_
                  refine ct_ret ?_
                  have hb : e.bad = true := by first | (simp_all [Ent.bad]; done) | (simp_all [Ent.bad]; omega)
                  exact qe_fit (ret2 rfl rfl rfl ⟨by rw [Ent.enc, if_pos hb], rfl⟩)
                · iterate 5 (first | refine rs_ex rfl (by (first | (constructor <;> first | rfl | exact RdC.rd | exact inferInstance) | exact Ex.pickF rfl rfl | exact Ex.eqlS rfl rfl | exact Ex.neqS rfl rfl | exact Ex.eqlPN rfl rfl | exact Ex.neqPN rfl rfl | exact Ex.eqlSN rfl rfl | exact Ex.neqSN rfl rfl | exact Ex.lenStr rfl)) rfl ?_ | refine rs_skip rfl rfl ?_)
                  refine rs_end ?_
                  refine qe_then ?_
                  refine ct_cond rfl (fun h57 => ?_) (fun h57 => ?_)
                  · refine ct_seq ?_
                    refine ct_region ?_
                    iterate 2 (first | refine rs_ex rfl (by (first | (constructor <;> first | rfl | exact RdC.rd | exact inferInstance) | exact Ex.pickF rfl rfl | exact Ex.eqlS rfl rfl | exact Ex.neqS rfl rfl | exact Ex.eqlPN rfl rfl | exact Ex.neqPN rfl rfl | exact Ex.eqlSN rfl rfl | exact Ex.neqSN rfl rfl | exact Ex.lenStr rfl)) rfl ?_ | refine rs_skip rfl rfl ?_)
                    refine rs_end ?_
                    refine qe_then ?_
                    refine ct_ret ?_
                    have hb : e.bad = true := by first | (simp_all [Ent.bad]; done) | (simp_all [Ent.bad]; omega)
                    exact qe_fit (ret2 rfl rfl rfl ⟨by rw [Ent.enc, if_pos hb], rfl⟩)
                  · refine ct_skip ?_
                    refine qe_block 0 ?_
                    refine qe_then ?_
                    refine ct_seq ?_
                    refine ct_region ?_
                    iterate 3 (first | refine rs_ex rfl (by (first | (constructor <;> first | rfl | exact RdC.rd | exact inferInstance) | exact Ex.pickF rfl rfl | exact Ex.eqlS rfl rfl | exact Ex.neqS rfl rfl | exact Ex.eqlPN rfl rfl | exact Ex.neqPN rfl rfl | exact Ex.eqlSN rfl rfl | exact Ex.neqSN rfl rfl | exact Ex.lenStr rfl)) rfl ?_ | refine rs_skip rfl rfl ?_)
                    refine rs_end ?_
                    refine qe_then ?_
                    refine ct_ret ?_
                    have hb : ¬ e.bad = true := by first | (simp_all [Ent.bad]; done) | (simp_all [Ent.bad]; omega)
                    exact qe_fit (ret2 rfl rfl rfl ⟨by rw [Ent.enc, if_neg hb], rfl⟩)
            · iterate 11 (first | refine rs_ex rfl (by (first | (constructor <;> first | rfl | exact RdC.rd | exact inferInstance) | exact Ex.pickF rfl rfl | exact Ex.eqlS rfl rfl | exact Ex.neqS rfl rfl | exact Ex.eqlPN rfl rfl | exact Ex.neqPN rfl rfl | exact Ex.eqlSN rfl rfl | exact Ex.neqSN rfl rfl | exact Ex.lenStr rfl)) rfl ?_ | refine rs_skip rfl rfl ?_)
              refine rs_split (fun h80 => ?_) (fun h80 => ?_)
              · iterate 5 (first | refine rs_ex rfl (by (first | (constructor <;> first | rfl | exact RdC.rd | exact inferInstance) | exact Ex.pickF rfl rfl | exact Ex.eqlS rfl rfl | exact Ex.neqS rfl rfl | exact Ex.eqlPN rfl rfl | exact Ex.neqPN rfl rfl | exact Ex.eqlSN rfl rfl | exact Ex.neqSN rfl rfl | exact Ex.lenStr rfl)) rfl ?_ | refine rs_skip rfl rfl ?_)
                refine rs_end ?_
                refine qe_then ?_
                refine ct_cond rfl (fun _ => ?_) (fun h => absurd h (by decide))
                refine ct_seq ?_
                refine ct_region ?_
                iterate 2 (first | refine rs_ex rfl (by (first | (constructor <;> first | rfl | exact RdC.rd | exact inferInstance) | exact Ex.pickF rfl rfl | exact Ex.eqlS rfl rfl | exact Ex.neqS rfl rfl | exact Ex.eqlPN rfl rfl | exact Ex.neqPN rfl rfl | exact Ex.eqlSN rfl rfl | exact Ex.neqSN rfl rfl | exact Ex.lenStr rfl)) rfl ?_ | refine rs_skip rfl rfl ?_)
                refine rs_end ?_
                refine qe_then ?_
                refine ct_ret ?_
                have hb : e.bad = true := by first | (simp_all [Ent.bad]; done) | (simp_all [Ent.bad]; omega)
                exact qe_fit (ret2 rfl rfl rfl ⟨by rw [Ent.enc, if_pos hb], rfl⟩)
              · iterate 5 (first | refine rs_ex rfl (by (first | (constructor <;> first | rfl | exact RdC.rd | exact inferInstance) | exact Ex.pickF rfl rfl | exact Ex.eqlS rfl rfl | exact Ex.neqS rfl rfl | exact Ex.eqlPN rfl rfl | exact Ex.neqPN rfl rfl | exact Ex.eqlSN rfl rfl | exact Ex.neqSN rfl rfl | exact Ex.lenStr rfl)) rfl ?_ | refine rs_skip rfl rfl ?_)
                refine rs_end ?_
                refine qe_then ?_
                refine ct_cond rfl (fun h57 => ?_) (fun h57 => ?_)
                · refine ct_seq ?_
                  refine ct_region ?_
                  iterate 2 (first | refine rs_ex rfl (by (first | (constructor <;> first | rfl | exact RdC.rd | exact inferInstance) | exact Ex.pickF rfl rfl | exact Ex.eqlS rfl rfl | exact Ex.neqS rfl rfl | exact Ex.eqlPN rfl rfl | exact Ex.neqPN rfl rfl | exact Ex.eqlSN rfl rfl | exact Ex.neqSN rfl rfl | exact Ex.lenStr rfl)) rfl ?_ | refine rs_skip rfl rfl ?_)
                  refine rs_end ?_
                  refine qe_then ?_
                  refine ct_ret ?_
                  have hb : e.bad = true := by first | (simp_all [Ent.bad]; done) | (simp_all [Ent.bad]; omega)
                  exact qe_fit (ret2 rfl rfl rfl ⟨by rw [Ent.enc, if_pos hb], rfl⟩)
                · refine ct_skip ?_
                  refine qe_block 0 ?_
                  refine qe_then ?_
                  refine ct_seq ?_
                  refine ct_region ?_
                  iterate 3 (first | refine rs_ex rfl (by (first | (constructor <;> first | rfl | exact RdC.rd | exact inferInstance) | exact Ex.pickF rfl rfl | exact Ex.eqlS rfl rfl | exact Ex.neqS rfl rfl | exact Ex.eqlPN rfl rfl | exact Ex.neqPN rfl rfl | exact Ex.eqlSN rfl rfl | exact Ex.neqSN rfl rfl | exact Ex.lenStr rfl)) rfl ?_ | refine rs_skip rfl rfl ?_)
                  refine rs_end ?_
                  refine qe_then ?_
                  refine ct_ret ?_
                  have hb : ¬ e.bad = true := by first | (simp_all [Ent.bad]; done) | (simp_all [Ent.bad]; omega)
                  exact qe_fit (ret2 rfl rfl rfl ⟨by rw [Ent.enc, if_neg hb], rfl⟩)
end Go.Rost
