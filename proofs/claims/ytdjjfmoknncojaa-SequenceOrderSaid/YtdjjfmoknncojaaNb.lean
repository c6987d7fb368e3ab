/- Bits, bytes and strings of bytes; a scope without jumps. -/
import Derived.Test.YtdjjfmoknncojaaRf
import Derived.Lib.ConvBytes
import Derived.Laws.BytesString
namespace Go.Rost
open Go Go.RowKit Go.Proofs

def Exit.straight (Q : Exit → Act → World → Prop) : Exit → Act → World → Prop
  | .goto _, _, _ => False
  | e, a, w => Q e a w
section
variable {F : Fence} {n : Nat} {P : Program} {b : Frame} {a : Act} {k : List Item} {cs : List Frame} {w : World}
theorem stepR_scope {c : Code} : step P (lone (b.atR a (.code (.scope c) :: k)) cs w) = .next (lone (b.atR a (.code c :: .inScope c :: k)) cs w) :=
  step_lone_go (by simp [stepG, stepG.exec, Frame.atR])
theorem stepR_inScope {c : Code} : step P (lone (b.atR a (.inScope c :: k)) cs w) = .next (lone (b.atR a k) cs w) :=
  step_lone_go (by simp [stepG, stepG.exec, Frame.atR])
theorem wpIn_scope {Q : Exit → Act → World → Prop} {c : Code} (h : c.wpIn F n P (Exit.straight Q) a w) : (Code.scope c).wpIn F n P Q a w := by
  intro b k cs hro hb hr
  have h0 : (lone (b.atR a (.code (.scope c) :: k)) cs w).fenced P F := fenced_calm hb hr rfl
  obtain ⟨e, a₁, w₁, hq, harr⟩ := h b (.inScope c :: k) cs hro hb hr
  cases e with
  | normal => exact ⟨.normal, a₁, w₁, hq, .head h0 stepR_scope (StepsIn.trans harr (.one (fenced_calm hb hr rfl) stepR_inScope))⟩
  | exit id =>
    have hx : exitTo id (.inScope c :: k) = exitTo id k := by simp [exitTo]
    exact ⟨.exit id, a₁, w₁, hq, fun k' hk => .head h0 stepR_scope (harr.1 k' (by rw [hx]; exact hk)),
      fun hr' hk => let ⟨k₁, h1, h2⟩ := harr.2 hr' (by rw [hx]; exact hk); ⟨k₁, h1, .head h0 stepR_scope h2⟩⟩
  | goto l => exact hq.elim
  | ret => exact ⟨_, a₁, w₁, hq, .of_steps (.one h0 stepR_scope) harr⟩
  | panic ch => exact ⟨_, a₁, w₁, hq, .of_steps (.one h0 stepR_scope) harr⟩
  | outgrown => exact ⟨_, a₁, w₁, hq, .of_steps (.one h0 stepR_scope) harr⟩
end
section
variable {C : Cx} {ds : List Deferred} {σ : Env} {H : List Chunk} {Q : Exit → Act → World → Prop} {x : Code}
theorem ct_scope (h : CT C ds x σ H (Exit.straight Q)) : CT C ds (.scope x) σ H Q := fun a w hs hw => wpIn_scope (h a w hs hw)
theorem qe_straight (h : QE C ds Q .normal σ H) : QE C ds (Exit.straight Q) .normal σ H := h
theorem qe_straight_ret (h : QE C ds Q .ret σ H) : QE C ds (Exit.straight Q) .ret σ H := h
theorem qe_straight_exit {id : Nat} (h : QE C ds Q (.exit id) σ H) : QE C ds (Exit.straight Q) (.exit id) σ H := h
end
/-! ### Bits -/
def shlU (a : Int) (n : Int) : Int := IntKind.u32.wrap (a * 2 ^ (min n.toNat 32))
def orU (a b : Int) : Int := IntKind.u32.wrap (BitVec.ofInt 32 a ||| BitVec.ofInt 32 b).toNat
section
variable {P : Program} {S : World → Prop} {σ : Env}
theorem ex_shlU {T T' : TypeId} {x y : Operand} {k : IntKind} {a n : Int} (hx : σ.val x = some (.int .u32 a)) (hy : σ.val y = some (.int k n)) (hn : 0 ≤ n) : Ex P S σ (.binOp .shl T x y T') (.int .u32 (shlU a n)) := by
  refine Ex.any (fun ρ hρ c hop w hw => ?_) (fun _ _ e => by cases e) (fun _ e => by cases e)
  have : ¬ n < 0 := by omega
  simp [execOp, hop, hρ _ _ hx, hρ _ _ hy, binOp, eqGuard, Op.shift, this, shlU, IntKind.bits]
theorem ex_orU {T T' : TypeId} {x y : Operand} {a b : Int} (hx : σ.val x = some (.int .u32 a)) (hy : σ.val y = some (.int .u32 b)) : Ex P S σ (.binOp .or T x y T') (.int .u32 (orU a b)) := by
  refine Ex.any (fun ρ hρ c hop w hw => ?_) (fun _ _ e => by cases e) (fun _ e => by cases e)
  simp [execOp, hop, hρ _ _ hx, hρ _ _ hy, binOp, eqGuard, Op.intBits, orU]
  rfl
end
theorem wrapU_range (n : Int) : 0 ≤ IntKind.u32.wrap n ∧ IntKind.u32.wrap n < 4294967296 := by
  simp only [IntKind.wrap, IntKind.bits, IntKind.signed]
  simp
  omega
theorem orU_zero {a : Int} (h0 : 0 ≤ a) (h1 : a < 4294967296) : orU 0 a = a := by
  have e : (BitVec.ofInt 32 a).toNat = a.toNat := by
    rw [BitVec.toNat_ofInt]
    rw [Int.emod_eq_of_lt h0 (by simpa using h1)]
  unfold orU
  simp [e]
  rw [wrap32 (by omega) (by omega)]
  omega
/-! ### Bytes -/
def byteV (b : UInt8) : Value := .int .u8 b.toNat
instance : Enc UInt8 := ⟨1, byteV, fun b => [byteV b], fun _ => rfl, fun _ => rfl, by decide⟩
instance : Enc1 UInt8 := ⟨rfl, fun _ => rfl⟩
theorem flat_bytes (l : List UInt8) : flat l = l.map byteV := by
  induction l with
  | nil => rfl
  | cons b l ih => rw [flat_cons, ih]; rfl
theorem ex_loadByte {P : Program} {S : World → Prop} {σ : Env} {T : TypeId} {x : Operand} {b o : Nat} [TPlain P T] (a : UInt8) (hx : σ.val x = some (.pointer (some ⟨b, o, none⟩))) (h : Rd S b o (Enc.enc a)) : Ex P S σ (.load T x) (.int .u8 a.toNat) := ex_load1 a hx h
class Under (P : Program) (t : TypeId) (d : outParam TypeDesc) : Prop where
  u : P.underlying t = some d
theorem freeze_one {w : World} {b n : Nat} {cs : Array Value} {T : TypeId} (h : w.heap[b]? = some (.cells cs T (0, 0))) : w.freeze ⟨b, n, none⟩ 1 = { w with heap := w.heap.setIfInBounds b (.cells cs T (n, n + 1)) } := by
  unfold World.freeze
  rw [if_neg (by decide)]
  congr 1
  apply Array.ext
  · simp
  · intro i h1 h2
    rw [Array.getElem_modify, Array.getElem_setIfInBounds]
    by_cases e : b = i
    · subst e
      rw [if_pos rfl, if_pos rfl]
      obtain ⟨hlt, e2⟩ := Array.getElem?_eq_some_iff.1 h
      rw [e2]; rfl
    · rw [if_neg e, if_neg e]
theorem opR_strBytes {C : Cx} {ds : List Deferred} {σ : Env} {H : List Chunk} {K : Value → List Chunk → Prop} {dst : Option Tmp} {ty : TypeId} {pos : String} {aft : Array Edge} {g : Option (Nat × Bool)} {src dstT e : TypeId} {x : Operand} {s : ByteArray} {u : TypeDesc}
    (hs : C.P.underlying src = some u) (hd : C.P.underlying dstT = some (.slice e)) (he : C.P.underlying e = some (.int .u8)) (hx : σ.val x = some (.string s))
    (h : ∀ b cap (sp : List Value) fz, s.size ≤ cap → K (.slice (some ⟨b, 0, none⟩) s.size cap) (Blk b (.cells (flat s.data.toList ++ sp).toArray e fz) :: H)) : OpR C ds ⟨dst, .convert src dstT x, ty, pos, aft, g⟩ σ H K := by
  refine OpR.of_run (fun c e => by cases e) fun ρ hρ w hw => ?_
  have hc : (Lib.bytesCells w e s) = (flat s.data.toList ++ List.replicate (grownCap w s.size 0 e - s.size) (Value.int .u8 0)).toArray := by
    apply Array.toList_inj.mp
    simp [Lib.bytesCells, flat_bytes]
    exact fun _ _ => rfl
  have hge : s.size ≤ grownCap w s.size 0 e := by unfold grownCap; simp only [Question.cut]; omega
  refine ⟨.slice (some ⟨w.heap.size, 0, none⟩) s.size (grownCap w s.size 0 e), Lib.bytesWorld w e s, _, ?_, h w.heap.size (grownCap w s.size 0 e) (List.replicate (grownCap w s.size 0 e - s.size) (.int .u8 0)) ((Lib.bytesCells w e s).size, (Lib.bytesCells w e s).size + 1) hge, ?_⟩
  · simp only [execOp, hρ _ _ hx, Sem.run_bind, Lib.run_convert_string_bytes w src dstT e s hs hd he, Result.andThen_ok, Sem.run_pure]
  · have h1 := (hw.drew (w.drawn + 1)).alloc (.cells (Lib.bytesCells w e s) e (0, 0))
    have h2 := h1.write (o' := .cells (Lib.bytesCells w e s) e ((Lib.bytesCells w e s).size, (Lib.bytesCells w e s).size + 1))
    rw [← hc]
    have e3 : Lib.bytesWorld w e s = _ := freeze_one (w := w.drew.alloc (.cells (Lib.bytesCells w e s) e)) (b := w.heap.size) (n := (Lib.bytesCells w e s).size) (cs := Lib.bytesCells w e s) (T := e) (by exact h1.read)
    rw [e3]
    exact h2
theorem push_all : ∀ (l : List UInt8) (acc : ByteArray), (l.map fun b => (b.toNat : Int)).foldl (fun r n => r.push (UInt8.ofNat n.toNat)) acc = ⟨acc.data ++ l.toArray⟩
  | [], acc => by simp
  | b :: l, acc => by
    rw [List.map_cons, List.foldl_cons, push_all l]
    congr 1
    apply Array.toList_inj.mp
    simp [ByteArray.push]
theorem ex_bytesStr {P : Program} {S : World → Prop} {σ : Env} {src dst e : TypeId} {x : Operand} {p : Option Addr} {l : List UInt8} {c : Nat} (hs : P.underlying src = some (.slice e)) (hd : P.underlying dst = some .string) (he : P.underlying e = some (.int .u8))
    (hx : σ.val x = some (.slice p l.length c)) (hr : SlR S p l) (hp : p = none → l = []) : Ex P S σ (.convert src dst x) (.string ⟨l.toArray⟩) := by
  refine Ex.any (fun ρ hρ d hop w hw => ?_) (fun _ _ e => by cases e) (fun _ e => by cases e)
  have hb : (Conv.bytesToString (.slice p l.length c)).run P w = .ok (.string ⟨l.toArray⟩) w := by
    cases p with
    | none => rw [hp rfl]; rfl
    | some a =>
      have hl : (loadCells a l.length).run P w = .ok ((l.map fun b => (b.toNat : Int)).map (Value.int .u8)).toArray w := by
        rcases hr with rfl | ⟨b, o, e, hr⟩
        · simp [loadCells, loadCellsFrom]
        · cases e
          have := run_loadCells (P := P) (w := w) (b := b) (o := o) (vs := flat l) (fun j v e => hr w hw j v e)
          rw [flat_length] at this
          rw [show l.length * Enc.n UInt8 = l.length from Nat.mul_one _] at this
          rw [this, flat_bytes]
          simp
          exact fun _ _ => rfl
      rw [run_bytesToString w a l.length c _ hl, push_all]
      simp
  simp [execOp, hop, hρ _ _ hx, convert, run_underlying hs, run_underlying hd, run_underlying he, hb]
theorem size_list (s : ByteArray) : s.data.toList.length = s.size := by simp
end Go.Rost
