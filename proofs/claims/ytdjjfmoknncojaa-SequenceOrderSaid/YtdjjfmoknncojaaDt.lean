/- The data that all layers share: ids, messages. -/
import Derived.Test.YtdjjfmoknncojaaEq
import Derived.Test.YtdjjfmoknncojaaTy
namespace Go.Rost
open Go Go.RowKit Go.Proofs

structure Id where
  from_ : Int
  count : Int
  deriving DecidableEq
structure Msg where
  id : Id
  data : ByteArray
  deriving DecidableEq
def Id.v (i : Id) : Value := .agg #[.int .i64 i.from_, .int .u32 i.count]
def Msg.v (m : Msg) : Value := .agg #[.int .i64 m.id.from_, .int .u32 m.id.count, .string m.data]
def Id.cells (i : Id) : List Value := [.int .i64 i.from_, .int .u32 i.count]
def Msg.cells (m : Msg) : List Value := [.int .i64 m.id.from_, .int .u32 m.id.count, .string m.data]
instance {i : Id} : CellsOf i.v [.int .i64 i.from_, .int .u32 i.count] := ⟨rfl⟩
instance {m : Msg} : CellsOf m.v [.int .i64 m.id.from_, .int .u32 m.id.count, .string m.data] := ⟨rfl⟩
instance : Enc Msg := ⟨3, Msg.v, Msg.cells, fun _ => rfl, fun _ => rfl, by decide⟩
instance : EncA Msg := ⟨fun _ => rfl⟩
instance : EqT Try.prog 32 Id.v 2 where
  eq d a b w hd := by
    obtain ⟨d, rfl⟩ : ∃ e, d = e + 2 := ⟨d - 2, by omega⟩
    obtain ⟨a1, a2⟩ := a
    obtain ⟨b1, b2⟩ := b
    refine (struct_eq Try.underlying32 (by kernel_rfl) (fields_cons (by decide) (a := .int .i64 a1) (b := .int .i64 b1) ?_ ?_ (eqT_int _ _ _ _ (by omega)) (fields_cons (by decide) (a := .int .u32 a2) (b := .int .u32 b2) ?_ ?_ (eqT_int _ _ _ _ (by omega)) fields_nil))).trans ?_
    iterate 4 simp [part, TPlain.agg]
    congr 1
    rw [Bool.eq_iff_iff]; simp
  le := by decide
instance : EqT Try.prog 34 Msg.v 3 where
  eq d a b w hd := by
    obtain ⟨d, rfl⟩ : ∃ e, d = e + 3 := ⟨d - 3, by omega⟩
    obtain ⟨a1, a2⟩ := a
    obtain ⟨b1, b2⟩ := b
    refine (struct_eq Try.underlying34 (by kernel_rfl) (fields_cons (by decide) (a := Id.v a1) (b := Id.v b1) ?_ ?_ (EqT.eq _ _ _ _ (by omega)) (fields_cons (by decide) (a := .string a2) (b := .string b2) ?_ ?_ (eqT_str _ _ _ _ (by omega)) fields_nil))).trans ?_
    iterate 4 simp [part, TPlain.agg, TAgg.agg, TAgg.size, Id.v]
    congr 1
    rw [Bool.eq_iff_iff]; simp
  le := by decide
theorem bits_agg2 (d : Nat) (u v : Value) (hu : Instr.sameBits d u u = true) (hv : Instr.sameBits d v v = true) : Instr.sameBits (d + 1) (.agg #[u, v]) (.agg #[u, v]) = true := by
  simp [Instr.sameBits, hu, hv]
theorem chk_id (e : Bool) (d : Nat) (k : Id) (w : World) : (Instr.checkKey e (d + 2) 32 k.v).run Try.prog w = .ok () w := by
  rw [Instr.checkKey]
  simp only [Id.v, Sem.run_bind, TUnder.under (P := Try.prog) (T := 32), Result.andThen_ok]
  simp [part, TPlain.agg, chk_int]
instance : KeyC Try.prog 32 Id.v where
  eq a b w := EqT.eq (P := Try.prog) (T := 32) _ a b w (by decide)
  chk e k w := chk_id e 9998 k w
  now := ⟨_, TUnder.under, .inr fun a b => rfl⟩
  bits a := bits_agg2 9999 _ _ (bits_int _ _) (bits_int _ _)
def Msg.right (m : Msg) : Bool := decide (0 ≤ m.id.from_) && (decide (m.id.from_ < 16) && (decide (0 < m.id.count) && (decide (m.id.count < 4294967295) && decide ((m.data.size : Int) ≤ 1000))))
end Go.Rost
