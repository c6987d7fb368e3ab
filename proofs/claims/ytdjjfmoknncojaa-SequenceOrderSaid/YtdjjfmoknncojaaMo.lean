/- More operations: slices made, cells written, maps of functions; happenings. -/
import Derived.Test.YtdjjfmoknncojaaNb
import Derived.Laws.MakeOwn
namespace Go.Rost
open Go Go.RowKit Go.Proofs

section
variable {κ ν : Type} [DecidableEq κ] {C : Cx} {ds : List Deferred} {σ : Env} {H : List Chunk} {K : Value → List Chunk → Prop} {dst : Option Tmp} {ty : TypeId} {pos : String} {aft : Array Edge} {g : Option (Nat × Bool)}
theorem opR_insert {T KT VT : TypeId} {x y z : Operand} {r : Nat} {ek : κ → Value} {ev : ν → Value} {m : List (κ × ν)} {H' : List (κ × ν) → List Chunk} [hT : TUnder C.P T (.map KT VT)] [hk : KeyC C.P KT ek] (hx : σ.val x = some (.map (some r)))
    (k : κ) (v : ν) [hf : FindM r H κ ν ek ev m H'] (hy : σ.val y = some (ek k)) (hz : σ.val z = some (ev v)) (h : K undef (H' (mset m k v))) : OpR C ds ⟨dst, .insert T x y z, ty, pos, aft, g⟩ σ H K := by
  refine OpR.of_skip (fun c e => by cases e) fun ρ hρ w hw => ?_
  obtain ⟨R, p1, p2⟩ := (hf.rep (mset m k v)).split
  obtain ⟨es, clock, h1, h2⟩ := At.map.1 (hw.perm p1)
  have hrd := h1.read
  have hfind := run_findKey (P := C.P) (T := KT) k w m es.toList h2.enc
  cases hfi : findIx k m 0 with
  | none =>
    rw [hfi] at hfind
    refine ⟨_, _, ?_, h, (At.map.2 ⟨es.push { key := ek k, val := ev v, born := clock }, clock + 1, h1.write, ?_⟩).perm p2.symm⟩
    · simp only [execOp, Instr.mapUpdate, Sem.run_bind, hT.under, Result.andThen_ok, hρ _ _ hx, hρ _ _ hy, hρ _ _ hz, run_getMap hrd, hk.chk, hfind, Option.map_none, run_setMap _ hrd, Sem.run_pure]
    · rw [findIx_none hfi v]; exact mapIs_push h2 k v
  | some p =>
    obtain ⟨j, u⟩ := p
    rw [hfi] at hfind
    obtain ⟨_, hj, hset⟩ := findIx_some hfi
    rw [Nat.sub_zero] at hj
    have hkey := findIx_key hfi
    rw [Nat.sub_zero] at hkey
    have hek : ((es[j]?).map (·.key)).getD (ek k) = ek k := by
      have := congrArg (·[j]?) h2.enc
      simp only [List.getElem?_map, hkey] at this
      rw [← Array.getElem?_toList]
      cases he : es.toList[j]? with
      | none => rfl
      | some e => rw [he] at this; simp [encE] at this; simp [this.1]
    refine ⟨_, _, ?_, h, (At.map.2 ⟨es.modify j fun e => { e with key := ek k, val := ev v }, clock, h1.write, ?_⟩).perm p2.symm⟩
    · simp only [execOp, Instr.mapUpdate, Sem.run_bind, hT.under, Result.andThen_ok, hρ _ _ hx, hρ _ _ hy, hρ _ _ hz, run_getMap hrd, hk.chk, hfind, Option.map_some, hek, Instr.keyThatStays, hk.bits, if_true, Sem.run_pure, run_setMap _ hrd]
    · rw [hset v, Nat.sub_zero]; exact mapIs_set h2 j k v hj
end
section
variable {C : Cx} {ds : List Deferred} {σ : Env} {H : List Chunk} {K : Value → List Chunk → Prop} {dst : Option Tmp} {ty : TypeId} {pos : String} {aft : Array Edge} {g : Option (Nat × Bool)}
theorem opR_makeSlice {T e : TypeId} {x y : Operand} {i : TypeInfo} {z : Value} {k : IntKind} (n : Nat) (ht : C.P.underlying T = some (.slice e)) (hi : C.P.info? e = some i) (hz : i.zero = some z) (hx : σ.val x = some (.int k (n : Int))) (hy : σ.val y = some (.int k (n : Int)))
    (h1 : n * i.size ≤ 16777216) (h2 : i.bytes * n ≤ 281474976710656) (h3 : n ≤ 1000000) (h : ∀ b, K (.slice (some ⟨b, 0, none⟩) n n) (Blk b (.cells (madeCells z.cells (n * i.size)) e (0, 0)) :: H)) : OpR C ds ⟨dst, .makeSlice T x y, ty, pos, aft, g⟩ σ H K := by
  refine OpR.of_run (fun c e => by cases e) fun ρ hρ w hw => ⟨_, _, _, ?_, h w.heap.size, hw.alloc _⟩
  have hb : ((i.bytes : Int) * (n : Int)) ≤ 281474976710656 := by
    have : ((i.bytes * n : Nat) : Int) ≤ 281474976710656 := by omega
    simpa using this
  have := run_makeSlice (w := w) T e i z ht hi hz k k (n : Int) (n : Int) (by omega) (by omega) (by simpa using h1) hb (by omega)
  simp only [Int.toNat_natCast] at this
  simp only [execOp, hρ _ _ hx, hρ _ _ hy, Sem.run_bind, this, Result.andThen_ok, Sem.run_pure]
  rfl
/-- One cell of a row is written, wherever it lies in it. -/
theorem opR_storeAt {T : TypeId} {x y : Operand} {b o : Nat} {v : Value} {L : List Value} {E : TypeId} {H' : Obj → List Chunk} [hT : TSize C.P T 1] (hx : σ.val x = some (.pointer (some ⟨b, o, none⟩))) (hy : σ.val y = some v) (hc : CellsOf v [v])
    (h1 : ones [v] = true) [hf : FindC b H (.cells L.toArray E (0, 0)) H'] (ho : o < L.length) (h : K undef (H' (.cells (L.set o v).toArray E (0, 0)))) : OpR C ds ⟨dst, .store T x y, ty, pos, aft, g⟩ σ H K :=
  opR_store (hc := hc) (hs := ⟨.inl (by simp; omega), rfl⟩) hx hy rfl h1 h
theorem ex_eqFN {P : Program} {S : World → Prop} {T T' : TypeId} {x : Operand} {ps rs : Array TypeId} {vd : Bool} {fn : Fn} {first cap : Array Value} (hu : P.underlying T = some (.func ps rs vd)) (hx : σ.val x = some (.func fn first cap)) : Ex P S σ (.binOp .eql T x (.const .nilFunc) T') (.bool false) := by
  refine Ex.any (fun ρ hρ c hop w hw => ?_) (fun _ _ e => by cases e) (fun _ e => by cases e)
  have hn : ρ (.const .nilFunc) = .nilFunc := hρ _ _ rfl
  have h : ∀ d, (Op.equalIn (d + 1) T (.func fn first cap) .nilFunc).run P w = .ok false w := fun d => by
    simp only [Op.equalIn, Sem.run_bind, run_underlying hu, Result.andThen_ok, Sem.run_pure]
  have h' : (Op.equalIn Op.maxDepth T (.func fn first cap) .nilFunc).run P w = .ok false w := h 9999
  simp [execOp, hop, hρ _ _ hx, hn, binOp, eqGuard, Op.equal, h']
theorem ex_eqNN {P : Program} {S : World → Prop} {T T' : TypeId} {x : Operand} {ps rs : Array TypeId} {vd : Bool} (hu : P.underlying T = some (.func ps rs vd)) (hx : σ.val x = some .nilFunc) : Ex P S σ (.binOp .eql T x (.const .nilFunc) T') (.bool true) := by
  refine Ex.any (fun ρ hρ c hop w hw => ?_) (fun _ _ e => by cases e) (fun _ e => by cases e)
  have hn : ρ (.const .nilFunc) = .nilFunc := hρ _ _ rfl
  have h : ∀ d, (Op.equalIn (d + 1) T .nilFunc .nilFunc).run P w = .ok true w := fun d => by
    simp only [Op.equalIn, Sem.run_bind, run_underlying hu, Result.andThen_ok, Sem.run_pure]
  have h' : (Op.equalIn Op.maxDepth T .nilFunc .nilFunc).run P w = .ok true w := h 9999
  simp [execOp, hop, hρ _ _ hx, hn, binOp, eqGuard, Op.equal, h']
end
instance : Enc Int := ⟨1, intV, fun n => [intV n], fun _ => rfl, fun _ => rfl, by decide⟩
instance : Enc1 Int := ⟨rfl, fun _ => rfl⟩
theorem ex_loadInt {P : Program} {S : World → Prop} {σ : Env} {T : TypeId} {x : Operand} {b o : Nat} [TPlain P T] (a : Int) (hx : σ.val x = some (.pointer (some ⟨b, o, none⟩))) (h : Rd S b o (Enc.enc a)) : Ex P S σ (.load T x) (.int .i64 a) := ex_load1 a hx h
theorem flat_ints (l : List Int) : flat l = l.map intV := by
  induction l with
  | nil => rfl
  | cons b l ih => rw [flat_cons, ih]; rfl
theorem made_ints (n : Nat) : madeCells #[Value.int .i64 0] n = (flat (List.replicate n (0 : Int))).toArray := by
  apply Array.toList_inj.mp
  rw [flat_ints]
  simp only [madeCells, Array.toList_map, Array.toList_range, List.map_replicate]
  refine List.ext_getElem (by simp) fun i h1 h2 => ?_
  simp [Nat.mod_one]
  rfl
/-- Something that happens. -/
structure Happ where
  kind : Int
  node : Int
  m : Msg
  deriving DecidableEq
def Happ.v (h : Happ) : Value := .agg #[.int .i64 h.kind, .int .i64 h.node, .int .i64 h.m.id.from_, .int .u32 h.m.id.count, .string h.m.data]
def Happ.cells (h : Happ) : List Value := [.int .i64 h.kind, .int .i64 h.node, .int .i64 h.m.id.from_, .int .u32 h.m.id.count, .string h.m.data]
instance {h : Happ} : CellsOf h.v [.int .i64 h.kind, .int .i64 h.node, .int .i64 h.m.id.from_, .int .u32 h.m.id.count, .string h.m.data] := ⟨rfl⟩
instance : Enc Happ := ⟨5, Happ.v, Happ.cells, fun _ => rfl, fun _ => rfl, by decide⟩
instance : EncA Happ := ⟨fun _ => rfl⟩
end Go.Rost
