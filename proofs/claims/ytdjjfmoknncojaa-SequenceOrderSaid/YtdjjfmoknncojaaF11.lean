/- A follower of numbers: what it does. -/
import Derived.Test.YtdjjfmoknncojaaS11
import Derived.Test.YtdjjfmoknncojaaRfk
import Derived.Test.YtdjjfmoknncojaaRm
import Derived.Test.YtdjjfmoknncojaaSo
import Derived.Test.YtdjjfmoknncojaaSh
import Derived.Test.YtdjjfmoknncojaaCm
namespace Go.Rost
open Go Go.RowKit Go.Proofs Go.Shelf

structure Plc where
  e : Int
  n : Int
  deriving DecidableEq
def Plc.v (i : Plc) : Value := .agg #[.int .u32 i.e, .int .u32 i.n]
instance {i : Plc} : CellsOf i.v [.int .u32 i.e, .int .u32 i.n] := ⟨rfl⟩
instance : EqT Try.prog 111 Plc.v 2 where
  eq d a b w hd := by
    obtain ⟨d, rfl⟩ : ∃ e, d = e + 2 := ⟨d - 2, by omega⟩
    obtain ⟨a1, a2⟩ := a
    obtain ⟨b1, b2⟩ := b
    refine (struct_eq Try.underlying111 (by kernel_rfl) (fields_cons (by decide) (a := .int .u32 a1) (b := .int .u32 b1) ?_ ?_ (eqT_int _ _ _ _ (by omega)) (fields_cons (by decide) (a := .int .u32 a2) (b := .int .u32 b2) ?_ ?_ (eqT_int _ _ _ _ (by omega)) fields_nil))).trans ?_
    iterate 4 simp [part, TPlain.agg]
    congr 1
    rw [Bool.eq_iff_iff]; simp
  le := by decide
theorem chk_plc (e : Bool) (d : Nat) (k : Plc) (w : World) : (Instr.checkKey e (d + 2) 111 k.v).run Try.prog w = .ok () w := by
  rw [Instr.checkKey]
  simp only [Plc.v, Sem.run_bind, TUnder.under (P := Try.prog) (T := 111), Result.andThen_ok]
  simp [part, TPlain.agg, chk_int]
instance : KeyC Try.prog 111 Plc.v where
  eq a b w := EqT.eq (P := Try.prog) (T := 111) _ a b w (by decide)
  chk e k w := chk_plc e 9998 k w
  now := ⟨_, TUnder.under, .inr fun a b => rfl⟩
  bits a := bits_agg2 9999 _ _ (bits_int _ _) (bits_int _ _)
section
variable {C : Cx} {ds : List Deferred} {σ : Env} {H : List Chunk} {K : Value → List Chunk → Prop} {dst : Option Tmp} {ty : TypeId} {pos : String} {aft : Array Edge} {g : Option (Nat × Bool)}
theorem opR_clear {κ ν : Type} {T KT VT : TypeId} {x : Operand} {r : Nat} {ek : κ → Value} {ev : ν → Value} {m : List (κ × ν)} {H' : List (κ × ν) → List Chunk} [hT : TUnder C.P T (.map KT VT)] (hx : σ.val x = some (.map (some r)))
    [hf : FindM r H κ ν ek ev m H'] (h : K (.tuple #[]) (H' [])) : OpR C ds ⟨dst, .call ⟨.builtin .clear, #[x], #[T]⟩, ty, pos, aft, g⟩ σ H K := by
  refine OpR.of_run (fun c e => by cases e) fun ρ hρ w hw => ?_
  obtain ⟨R, p1, p2⟩ := (hf.rep []).split
  obtain ⟨es, clock, h1, h2⟩ := At.map.1 (hw.perm p1)
  have hrd := h1.read
  refine ⟨_, _, _, ?_, h, (At.map.2 ⟨#[], clock, h1.write, ⟨rfl, by simp, by simp⟩⟩).perm p2.symm⟩
  simp [execOp, resolve, invoke, builtin, Builtin.clear_, hT.under, hρ _ _ hx, run_getMap hrd, run_setMap _ hrd]
end

/-! ### The state -/
structure Fol where
  e : Int
  nx : Int
  w : List (Plc × Msg)
  b : List (Plc × Msg)
def FolC (b : Nat) (f : Fol) : Chunk := Exs fun q : Nat × Nat =>
  Star [Blk b (.cells #[.int .u32 f.e, .int .u32 f.nx, .map (some q.1), .map (some q.2)] 108 (0, 0)), MapC Plc.v Msg.v q.1 f.w, MapC Plc.v Msg.v q.2 f.b]
theorem FolC.open {W0 : World} {b : Nat} {f : Fol} {H : List Chunk} {w : World} (h : At W0 (FolC b f :: H) w) :
    ∃ q : Nat × Nat, At W0 (Blk b (.cells #[.int .u32 f.e, .int .u32 f.nx, .map (some q.1), .map (some q.2)] 108 (0, 0)) :: MapC Plc.v Msg.v q.1 f.w :: MapC Plc.v Msg.v q.2 f.b :: H) w := by
  obtain ⟨q, h⟩ := At.ex.1 h
  exact ⟨q, At.star.1 h⟩
theorem FolC.shut {W0 : World} {b wr br : Nat} {f : Fol} {H : List Chunk} {w : World} (h : At W0 (Blk b (.cells #[.int .u32 f.e, .int .u32 f.nx, .map (some wr), .map (some br)] 108 (0, 0)) :: MapC Plc.v Msg.v wr f.w :: MapC Plc.v Msg.v br f.b :: H) w) : At W0 (FolC b f :: H) w :=
  At.ex.2 ⟨(wr, br), At.star.2 h⟩
theorem NewFol_c (W0 : World) (e : Int) (H : List Chunk) : Call Try.prog W0 28 [.int .u32 e] H (fun v H' => ∃ b, v = .pointer (some ⟨b, 0, none⟩) ∧ H' = FolC b ⟨e, 1, [], []⟩ :: H) := by
  refine call_enter Try.func28 rfl Try.ntmps28 rfl ?_

  refine ct_seq ?_
  refine ct_region ?_
  (first | refine rs_ex rfl (by (first | (constructor <;> first | rfl | exact RdC.rd | exact inferInstance) | exact Ex.pickF rfl rfl | exact Ex.eqlS rfl rfl | exact Ex.neqS rfl rfl | exact Ex.eqlPN rfl rfl | exact Ex.neqPN rfl rfl | exact Ex.eqlSN rfl rfl | exact Ex.neqSN rfl rfl | exact Ex.lenStr rfl)) rfl ?_ | refine rs_skip rfl rfl ?_)
  refine rs_end ?_
  refine qe_then ?_
  refine ct_seq ?_
  refine ct_region ?_
  (first | refine rs_ex rfl (by (first | (constructor <;> first | rfl | exact RdC.rd | exact inferInstance) | exact Ex.pickF rfl rfl | exact Ex.eqlS rfl rfl | exact Ex.neqS rfl rfl | exact Ex.eqlPN rfl rfl | exact Ex.neqPN rfl rfl | exact Ex.eqlSN rfl rfl | exact Ex.neqSN rfl rfl | exact Ex.lenStr rfl)) rfl ?_ | refine rs_skip rfl rfl ?_)
  refine rs_ex rfl (ex_build rfl) rfl ?_
  refine rs_op rfl rfl (opR_makeMap fun b5 => ?_)
  refine rs_op rfl rfl (opR_makeMap fun b6 => ?_)
  refine rs_ex rfl (ex_build rfl) rfl ?_
  refine rs_op rfl rfl (opR_box rfl fun b8 => ?_)
  (first | refine rs_ex rfl (by (first | (constructor <;> first | rfl | exact RdC.rd | exact inferInstance) | exact Ex.pickF rfl rfl | exact Ex.eqlS rfl rfl | exact Ex.neqS rfl rfl | exact Ex.eqlPN rfl rfl | exact Ex.neqPN rfl rfl | exact Ex.eqlSN rfl rfl | exact Ex.neqSN rfl rfl | exact Ex.lenStr rfl)) rfl ?_ | refine rs_skip rfl rfl ?_)
  refine rs_end ?_
  refine qe_then ?_
  refine ct_heap (H' := FolC b8 ⟨e, 1, [], []⟩ :: H) (fun w h => ?_) ?_
  · have h1 : At W0 (MapC Plc.v Msg.v b5 [] :: Blk b8 _ :: Blk b6 _ :: H) w := At.map_new Plc.v Msg.v (At.top [_, _, _] [2, 0, 1] h)
    have h2 : At W0 (MapC Plc.v Msg.v b6 [] :: MapC Plc.v Msg.v b5 [] :: Blk b8 _ :: H) w := At.map_new Plc.v Msg.v (At.top [_, _, _] [2, 0, 1] h1)
    exact FolC.shut (f := ⟨e, 1, [], []⟩) (At.top [_, _, _] [2, 1, 0] h2)
  refine ct_ret ?_
  exact ret1 rfl rfl ⟨b8, rfl, rfl⟩
theorem IsLater_c (W0 : World) (b : Nat) (e x : Int) (u v w : Value) (H : List Chunk) (hb : RdBlk (At W0 H) b #[.int .u32 e, u, v, w]) : Call Try.prog W0 63 [.pointer (some ⟨b, 0, none⟩), .int .u32 x] H (fun v H' => v = .bool (decide (e < x)) ∧ H' = H) := by
  have hbH : RdC (At W0 H) b #[.int .u32 e, u, v, w] := ⟨hb⟩
  refine call_enter Try.func63 rfl Try.ntmps63 rfl ?_

  refine ct_seq ?_
  refine ct_region ?_
  (first | refine rs_ex rfl (by (first | (constructor <;> first | rfl | exact RdC.rd | exact inferInstance) | exact Ex.pickF rfl rfl | exact Ex.eqlS rfl rfl | exact Ex.neqS rfl rfl | exact Ex.eqlPN rfl rfl | exact Ex.neqPN rfl rfl | exact Ex.eqlSN rfl rfl | exact Ex.neqSN rfl rfl | exact Ex.lenStr rfl)) rfl ?_ | refine rs_skip rfl rfl ?_)
  refine rs_end ?_
  refine qe_then ?_
  refine ct_seq ?_
  refine ct_region ?_
  iterate 7 (first | refine rs_ex rfl (by (first | (constructor <;> first | rfl | exact RdC.rd | exact inferInstance) | exact Ex.pickF rfl rfl | exact Ex.eqlS rfl rfl | exact Ex.neqS rfl rfl | exact Ex.eqlPN rfl rfl | exact Ex.neqPN rfl rfl | exact Ex.eqlSN rfl rfl | exact Ex.neqSN rfl rfl | exact Ex.lenStr rfl)) rfl ?_ | refine rs_skip rfl rfl ?_)
  refine rs_end ?_
  refine qe_then ?_
  refine ct_ret ?_
  exact ret1 rfl rfl ⟨rfl, rfl⟩
theorem ex_lookP {S : World → Prop} {σ : Env} {x y : Operand} {r : Nat} {m : List (Plc × Msg)} (hx : σ.val x = some (.map (some r))) (k : Plc) (hy : σ.val y = some k.v) (hr : RdM S r Plc Msg Plc.v Msg.v m) :
    Ex Try.prog S σ (.lookup 106 x y true) (.tuple #[((look m k).getD Msg.zero).v, .bool (look m k).isSome]) := by
  have := ex_lookup_ok (P := Try.prog) (T := 106) hx k hy hr
  have e : ∀ o : Option Msg, lookV Msg.v (.agg #[.int .i64 0, .int .u32 0, .string ⟨#[]⟩]) o = (o.getD Msg.zero).v := fun o => by cases o <;> rfl
  rw [e] at this
  exact this
def keep (l : List (Plc × Msg)) (p : Plc) (m : Msg) : List (Plc × Msg) := if (look l p).isSome = true then l else mset l p m
theorem Keeps_c (W0 : World) (r : Nat) (p : Plc) (m : Msg) (l : List (Plc × Msg)) (H : List Chunk) : Call Try.prog W0 67 [.map (some r), p.v, m.v] (MapC Plc.v Msg.v r l :: H) (fun v H' => v = .tuple #[] ∧ H' = MapC Plc.v Msg.v r (keep l p m) :: H) := by
  refine call_enter Try.func67 rfl Try.ntmps67 rfl ?_

  refine ct_seq ?_
  refine ct_region ?_
  refine rs_op rfl rfl (opR_box rfl fun b4 => ?_)
  refine rs_op rfl rfl (opR_box rfl fun b5 => ?_)
  refine rs_end ?_
  refine qe_then ?_
  refine ct_seq ?_
  refine ct_region ?_
  iterate 2 (first | refine rs_ex rfl (by (first | (constructor <;> first | rfl | exact RdC.rd | exact inferInstance) | exact Ex.pickF rfl rfl | exact Ex.eqlS rfl rfl | exact Ex.neqS rfl rfl | exact Ex.eqlPN rfl rfl | exact Ex.neqPN rfl rfl | exact Ex.eqlSN rfl rfl | exact Ex.neqSN rfl rfl | exact Ex.lenStr rfl)) rfl ?_ | refine rs_skip rfl rfl ?_)
  refine rs_ex rfl (ex_lookP rfl p rfl inferInstance) rfl ?_
  iterate 3 (first | refine rs_ex rfl (by (first | (constructor <;> first | rfl | exact RdC.rd | exact inferInstance) | exact Ex.pickF rfl rfl | exact Ex.eqlS rfl rfl | exact Ex.neqS rfl rfl | exact Ex.eqlPN rfl rfl | exact Ex.neqPN rfl rfl | exact Ex.eqlSN rfl rfl | exact Ex.neqSN rfl rfl | exact Ex.lenStr rfl)) rfl ?_ | refine rs_skip rfl rfl ?_)
  refine rs_op rfl rfl (opR_alloc fun b6 => ?_)
  refine rs_opN rfl (opR_store rfl rfl rfl rfl ?_)
  (first | refine rs_ex rfl (by (first | (constructor <;> first | rfl | exact RdC.rd | exact inferInstance) | exact Ex.pickF rfl rfl | exact Ex.eqlS rfl rfl | exact Ex.neqS rfl rfl | exact Ex.eqlPN rfl rfl | exact Ex.neqPN rfl rfl | exact Ex.eqlSN rfl rfl | exact Ex.neqSN rfl rfl | exact Ex.lenStr rfl)) rfl ?_ | refine rs_skip rfl rfl ?_)
  refine rs_end ?_
  refine qe_then ?_
  refine ct_seq ?_
  refine ct_region ?_
  iterate 2 (first | refine rs_ex rfl (by (first | (constructor <;> first | rfl | exact RdC.rd | exact inferInstance) | exact Ex.pickF rfl rfl | exact Ex.eqlS rfl rfl | exact Ex.neqS rfl rfl | exact Ex.eqlPN rfl rfl | exact Ex.neqPN rfl rfl | exact Ex.eqlSN rfl rfl | exact Ex.neqSN rfl rfl | exact Ex.lenStr rfl)) rfl ?_ | refine rs_skip rfl rfl ?_)
  refine rs_end ?_
  refine qe_then ?_
  refine ct_cond rfl (fun h15 => ?_) (fun h15 => ?_)
  · have hn : ¬ (look l p).isSome = true := by simpa using h15
    refine ct_region ?_
    iterate 3 (first | refine rs_ex rfl (by (first | (constructor <;> first | rfl | exact RdC.rd | exact inferInstance) | exact Ex.pickF rfl rfl | exact Ex.eqlS rfl rfl | exact Ex.neqS rfl rfl | exact Ex.eqlPN rfl rfl | exact Ex.neqPN rfl rfl | exact Ex.eqlSN rfl rfl | exact Ex.neqSN rfl rfl | exact Ex.lenStr rfl)) rfl ?_ | refine rs_skip rfl rfl ?_)
    refine rs_opN rfl (opR_mapUpdate rfl p m rfl rfl ?_)
    refine rs_end ?_
    refine qe_end ?_
    exact qe_heap (H' := MapC Plc.v Msg.v r (keep l p m) :: H) (fun w h => by rw [keep, if_neg hn]; exact h.fit) (ret0 rfl ⟨rfl, rfl⟩)
  · have hn : (look l p).isSome = true := by simpa using h15
    refine ct_skip ?_
    refine qe_end ?_
    exact qe_heap (H' := MapC Plc.v Msg.v r (keep l p m) :: H) (fun w h => by rw [keep, if_pos hn]; exact h.fit) (ret0 rfl ⟨rfl, rfl⟩)
/-- The message of the next number, if it waits, is taken. -/
def Fol.step (f : Fol) : Option (Msg × Fol) := match look f.w ⟨f.e, f.nx⟩ with
  | none => none
  | some m => some (m, { f with w := mdel f.w ⟨f.e, f.nx⟩, nx := IntKind.u32.wrap (f.nx + 1) })
def Fol.drainN : Nat → Fol → List Msg × Fol
  | 0, f => ([], f)
  | k + 1, f => match f.step with
    | none => ([], f)
    | some (m, g) => (m :: (drainN k g).1, (drainN k g).2)
def Fol.drain (f : Fol) : List Msg × Fol := f.drainN f.w.length
theorem Fol.step_len {f g : Fol} {m : Msg} (h : f.step = some (m, g)) : g.w.length + 1 = f.w.length := by
  unfold Fol.step at h
  cases hl : look f.w ⟨f.e, f.nx⟩ with
  | none => rw [hl] at h; cases h
  | some x => rw [hl] at h; cases h; exact mdel_length hl
theorem Fol.drain_none {f : Fol} (h : f.step = none) : f.drain = ([], f) := by
  unfold Fol.drain
  cases f.w.length with
  | zero => rfl
  | succ n => rw [Fol.drainN, h]
theorem Fol.drain_some {f g : Fol} {m : Msg} (h : f.step = some (m, g)) : f.drain = (m :: g.drain.1, g.drain.2) := by
  unfold Fol.drain
  rw [← Fol.step_len h, Fol.drainN, h]
theorem Fol.drain_len : ∀ (k : Nat) (f : Fol), (f.drainN k).1.length + (f.drainN k).2.w.length = f.w.length
  | 0, f => by simp [Fol.drainN]
  | k + 1, f => by
    rw [Fol.drainN]
    cases h : f.step with
    | none => simp
    | some q =>
      obtain ⟨m, g⟩ := q
      have := Fol.step_len h
      have ih := Fol.drain_len k g
      simp only [List.length_cons]
      omega
theorem Joined_c (W0 : World) (v : Value) (l : List Msg) (q : Option Addr) (ys : List Msg) (c : Nat) (H : List Chunk) (hr : SlR (At W0 (SlT 34 v l :: H)) q ys) (hl : l.length + ys.length ≤ 100000) :
    Call Try.prog W0 66 [v, .slice q ys.length c] (SlT 34 v l :: H) (fun u H' => H' = SlT 34 u (l ++ ys) :: H) := by
  refine call_enter Try.func66 rfl Try.ntmps66 rfl ?_

  refine ct_seq ?_
  refine ct_region ?_
  (first | refine rs_ex rfl (by (first | (constructor <;> first | rfl | exact RdC.rd | exact inferInstance) | exact Ex.pickF rfl rfl | exact Ex.eqlS rfl rfl | exact Ex.neqS rfl rfl | exact Ex.eqlPN rfl rfl | exact Ex.neqPN rfl rfl | exact Ex.eqlSN rfl rfl | exact Ex.neqSN rfl rfl | exact Ex.lenStr rfl)) rfl ?_ | refine rs_skip rfl rfl ?_)
  refine rs_end ?_
  refine qe_then ?_
  refine ct_seq ?_
  refine ct_region ?_
  iterate 2 (first | refine rs_ex rfl (by (first | (constructor <;> first | rfl | exact RdC.rd | exact inferInstance) | exact Ex.pickF rfl rfl | exact Ex.eqlS rfl rfl | exact Ex.neqS rfl rfl | exact Ex.eqlPN rfl rfl | exact Ex.neqPN rfl rfl | exact Ex.eqlSN rfl rfl | exact Ex.neqSN rfl rfl | exact Ex.lenStr rfl)) rfl ?_ | refine rs_skip rfl rfl ?_)
  refine rs_op rfl rfl (opR_append ys rfl rfl hr rfl (by omega) rfl fun p3 c3 hv3 => ?_)
  (first | refine rs_ex rfl (by (first | (constructor <;> first | rfl | exact RdC.rd | exact inferInstance) | exact Ex.pickF rfl rfl | exact Ex.eqlS rfl rfl | exact Ex.neqS rfl rfl | exact Ex.eqlPN rfl rfl | exact Ex.neqPN rfl rfl | exact Ex.eqlSN rfl rfl | exact Ex.neqSN rfl rfl | exact Ex.lenStr rfl)) rfl ?_ | refine rs_skip rfl rfl ?_)
  refine rs_end ?_
  refine qe_then ?_
  refine ct_ret ?_
  exact ret1 rfl rfl rfl
def folIt (bc b : Nat) (f : Fol) : Chunk := Star [Blk bc (.cells #[.pointer (some ⟨b, 0, none⟩)] 44 (0, 0)), FolC b f]
theorem Ready_c (W0 : World) (b : Nat) (H : List Chunk) : Call Try.prog W0 68 [.pointer (some ⟨b, 0, none⟩)] H
    (fun v H' => ∃ bc, v = .func (.func 82) #[] #[.pointer (some ⟨bc, 0, none⟩)] ∧ H' = Blk bc (.cells #[.pointer (some ⟨b, 0, none⟩)] 44 (0, 0)) :: H) := by
  refine call_enter Try.func68 rfl Try.ntmps68 rfl ?_

  refine ct_seq ?_
  refine ct_region ?_
  refine rs_op rfl rfl (opR_box rfl fun b1 => ?_)
  (first | refine rs_ex rfl (by (first | (constructor <;> first | rfl | exact RdC.rd | exact inferInstance) | exact Ex.pickF rfl rfl | exact Ex.eqlS rfl rfl | exact Ex.neqS rfl rfl | exact Ex.eqlPN rfl rfl | exact Ex.neqPN rfl rfl | exact Ex.eqlSN rfl rfl | exact Ex.neqSN rfl rfl | exact Ex.lenStr rfl)) rfl ?_ | refine rs_skip rfl rfl ?_)
  refine rs_end ?_
  refine qe_then ?_
  refine ct_seq ?_
  refine ct_region ?_
  iterate 2 (first | refine rs_ex rfl (by (first | (constructor <;> first | rfl | exact RdC.rd | exact inferInstance) | exact Ex.pickF rfl rfl | exact Ex.eqlS rfl rfl | exact Ex.neqS rfl rfl | exact Ex.eqlPN rfl rfl | exact Ex.neqPN rfl rfl | exact Ex.eqlSN rfl rfl | exact Ex.neqSN rfl rfl | exact Ex.lenStr rfl)) rfl ?_ | refine rs_skip rfl rfl ?_)
  refine rs_end ?_
  refine qe_then ?_
  refine ct_ret ?_
  exact ret1 rfl rfl ⟨b1, rfl, rfl⟩
theorem Ready1_c (W0 : World) {ζ : Type} (y : Value) (gc : ζ → Option Code → Chunk) (step : ζ → Msg → ζ × Option Code) (J : ζ → List Msg → Prop) (z0 : ζ) (bc b : Nat) (f : Fol) (T : List Chunk)
    (hy : Yields Try.prog W0 y encM gc step J) (hst : ∀ z x, (step z x).2 = none) (h0 : J z0 f.drain.1) :
    Call Try.prog W0 82 [y, .pointer (some ⟨bc, 0, none⟩)] (folIt bc b f :: gc z0 none :: T)
      (fun _ H' => ∃ xs, xs = f.drain.1 ∧ H' = folIt bc b f.drain.2 :: gc (runs step z0 xs).1 (runs step z0 xs).2 :: T) := by
  refine Call.heap (H' := FolC b f :: Blk bc (.cells #[.pointer (some ⟨b, 0, none⟩)] 44 (0, 0)) :: gc z0 none :: T) (fun w h => At.sw1 (At.star.1 h)) ?_
  refine call_enter Try.func82 rfl Try.ntmps82 rfl ?_

  refine ct_scope ?_
  refine ct_seq ?_
  refine ct_label ?_
  refine qe_then ?_
  refine ct_block ?_
  refine ct_loopc (ζ := Fol × ζ) (fun q => J q.2 q.1.drain.1 ∧ q.1.drain.2 = f.drain.2 ∧ runs step q.2 q.1.drain.1 = runs step z0 f.drain.1) [(0, _), (1, _)] (fun q => []) (fun q => FolC b q.1 :: Blk bc (.cells #[.pointer (some ⟨b, 0, none⟩)] 44 (0, 0)) :: gc q.2 none :: T) (fun q => q.1.w.length) ((f, z0)) (⟨h0, rfl, rfl⟩) ⟨rfl, rfl, trivial⟩ (fun w h => by first | exact h.fit | exact h) ?_
  rintro ⟨g, z⟩ ⟨hz, hd, hruns⟩
  simp only at hz hd hruns ⊢
  refine ct_ex (fun w h => FolC.open h) ?_
  rintro ⟨wr, br⟩
  simp only
  refine ct_block ?_
  refine ct_seq ?_
  refine ct_draw0 (by kernel_rfl) ?_
  refine ra_take 0 rfl (by kernel_rfl) (by kernel_rfl) rfl (by (first | (constructor <;> first | rfl | exact RdC.rd | exact inferInstance) | exact Ex.pickF rfl rfl | exact Ex.eqlS rfl rfl | exact Ex.neqS rfl rfl | exact Ex.eqlPN rfl rfl | exact Ex.neqPN rfl rfl | exact Ex.eqlSN rfl rfl | exact Ex.neqSN rfl rfl | exact Ex.lenStr rfl)) rfl (fun _ h => h.fit) ?_
  refine ra_take 1 rfl (by kernel_rfl) (by kernel_rfl) rfl (by (first | (constructor <;> first | rfl | exact RdC.rd | exact inferInstance) | exact Ex.pickF rfl rfl | exact Ex.eqlS rfl rfl | exact Ex.neqS rfl rfl | exact Ex.eqlPN rfl rfl | exact Ex.neqPN rfl rfl | exact Ex.eqlSN rfl rfl | exact Ex.neqSN rfl rfl | exact Ex.lenStr rfl)) rfl (fun _ h => h.fit) ?_
  refine ra_take 2 rfl (by kernel_rfl) (by kernel_rfl) rfl (by (first | (constructor <;> first | rfl | exact RdC.rd | exact inferInstance) | exact Ex.pickF rfl rfl | exact Ex.eqlS rfl rfl | exact Ex.neqS rfl rfl | exact Ex.eqlPN rfl rfl | exact Ex.neqPN rfl rfl | exact Ex.eqlSN rfl rfl | exact Ex.neqSN rfl rfl | exact Ex.lenStr rfl)) rfl (fun _ h => h.fit) ?_
  refine ra_take 3 rfl (by kernel_rfl) (by kernel_rfl) rfl (by (first | (constructor <;> first | rfl | exact RdC.rd | exact inferInstance) | exact Ex.pickF rfl rfl | exact Ex.eqlS rfl rfl | exact Ex.neqS rfl rfl | exact Ex.eqlPN rfl rfl | exact Ex.neqPN rfl rfl | exact Ex.eqlSN rfl rfl | exact Ex.neqSN rfl rfl | exact Ex.lenStr rfl)) rfl (fun _ h => h.fit) ?_
  refine ra_take 4 rfl (by kernel_rfl) (by kernel_rfl) rfl (by (first | (constructor <;> first | rfl | exact RdC.rd | exact inferInstance) | exact Ex.pickF rfl rfl | exact Ex.eqlS rfl rfl | exact Ex.neqS rfl rfl | exact Ex.eqlPN rfl rfl | exact Ex.neqPN rfl rfl | exact Ex.eqlSN rfl rfl | exact Ex.neqSN rfl rfl | exact Ex.lenStr rfl)) rfl (fun _ h => h.fit) ?_
  refine ra_take 5 rfl (by kernel_rfl) (by kernel_rfl) rfl (by (first | (constructor <;> first | rfl | exact RdC.rd | exact inferInstance) | exact Ex.pickF rfl rfl | exact Ex.eqlS rfl rfl | exact Ex.neqS rfl rfl | exact Ex.eqlPN rfl rfl | exact Ex.neqPN rfl rfl | exact Ex.eqlSN rfl rfl | exact Ex.neqSN rfl rfl | exact Ex.lenStr rfl)) rfl (fun _ h => h.fit) ?_
  refine ra_take 6 rfl (by kernel_rfl) (by kernel_rfl) rfl (by (first | (constructor <;> first | rfl | exact RdC.rd | exact inferInstance) | exact Ex.pickF rfl rfl | exact Ex.eqlS rfl rfl | exact Ex.neqS rfl rfl | exact Ex.eqlPN rfl rfl | exact Ex.neqPN rfl rfl | exact Ex.eqlSN rfl rfl | exact Ex.neqSN rfl rfl | exact Ex.lenStr rfl)) rfl (fun _ h => h.fit) ?_
  refine ra_take 7 rfl (by kernel_rfl) (by kernel_rfl) rfl (by (first | (constructor <;> first | rfl | exact RdC.rd | exact inferInstance) | exact Ex.pickF rfl rfl | exact Ex.eqlS rfl rfl | exact Ex.neqS rfl rfl | exact Ex.eqlPN rfl rfl | exact Ex.neqPN rfl rfl | exact Ex.eqlSN rfl rfl | exact Ex.neqSN rfl rfl | exact Ex.lenStr rfl)) rfl (fun _ h => h.fit) ?_
  refine ra_take 8 rfl (by kernel_rfl) (by kernel_rfl) rfl (by (first | (constructor <;> first | rfl | exact RdC.rd | exact inferInstance) | exact Ex.pickF rfl rfl | exact Ex.eqlS rfl rfl | exact Ex.neqS rfl rfl | exact Ex.eqlPN rfl rfl | exact Ex.neqPN rfl rfl | exact Ex.eqlSN rfl rfl | exact Ex.neqSN rfl rfl | exact Ex.lenStr rfl)) rfl (fun _ h => h.fit) ?_
  refine ra_take 9 rfl (by kernel_rfl) (by kernel_rfl) rfl (ex_build rfl) rfl (fun _ h => h.fit) ?_
  refine ra_all (rs := [10]) (by kernel_rfl) rfl ?_
  refine each_op rfl rfl rfl (opR_alloc fun b3 => ?_) each_nil
  refine ⟨.inr (fun w h => h.fit), ?_⟩
  refine ra_Snew ?_
  refine ra_all (rs := [11]) (by kernel_rfl) rfl ?_
  refine each_opN rfl rfl (opR_store rfl rfl rfl rfl ?_) each_nil
  refine ⟨.inl (by kernel_rfl), ?_⟩
  refine ra_end (by kernel_rfl) ?_
  refine qe_then ?_
  refine ct_seq ?_
  refine ct_draw0 (by kernel_rfl) ?_
  refine ra_take 0 rfl (by kernel_rfl) (by kernel_rfl) rfl (by (first | (constructor <;> first | rfl | exact RdC.rd | exact inferInstance) | exact Ex.pickF rfl rfl | exact Ex.eqlS rfl rfl | exact Ex.neqS rfl rfl | exact Ex.eqlPN rfl rfl | exact Ex.neqPN rfl rfl | exact Ex.eqlSN rfl rfl | exact Ex.neqSN rfl rfl | exact Ex.lenStr rfl)) rfl (fun _ h => h.fit) ?_
  refine ra_take 1 rfl (by kernel_rfl) (by kernel_rfl) rfl (by (first | (constructor <;> first | rfl | exact RdC.rd | exact inferInstance) | exact Ex.pickF rfl rfl | exact Ex.eqlS rfl rfl | exact Ex.neqS rfl rfl | exact Ex.eqlPN rfl rfl | exact Ex.neqPN rfl rfl | exact Ex.eqlSN rfl rfl | exact Ex.neqSN rfl rfl | exact Ex.lenStr rfl)) rfl (fun _ h => h.fit) ?_
  refine ra_take 2 rfl (by kernel_rfl) (by kernel_rfl) rfl (by (first | (constructor <;> first | rfl | exact RdC.rd | exact inferInstance) | exact Ex.pickF rfl rfl | exact Ex.eqlS rfl rfl | exact Ex.neqS rfl rfl | exact Ex.eqlPN rfl rfl | exact Ex.neqPN rfl rfl | exact Ex.eqlSN rfl rfl | exact Ex.neqSN rfl rfl | exact Ex.lenStr rfl)) rfl (fun _ h => h.fit) ?_
  refine ra_take 3 rfl (by kernel_rfl) (by kernel_rfl) rfl (by (first | (constructor <;> first | rfl | exact RdC.rd | exact inferInstance) | exact Ex.pickF rfl rfl | exact Ex.eqlS rfl rfl | exact Ex.neqS rfl rfl | exact Ex.eqlPN rfl rfl | exact Ex.neqPN rfl rfl | exact Ex.eqlSN rfl rfl | exact Ex.neqSN rfl rfl | exact Ex.lenStr rfl)) rfl (fun _ h => h.fit) ?_
  refine ra_take 4 rfl (by kernel_rfl) (by kernel_rfl) rfl (by (first | (constructor <;> first | rfl | exact RdC.rd | exact inferInstance) | exact Ex.pickF rfl rfl | exact Ex.eqlS rfl rfl | exact Ex.neqS rfl rfl | exact Ex.eqlPN rfl rfl | exact Ex.neqPN rfl rfl | exact Ex.eqlSN rfl rfl | exact Ex.neqSN rfl rfl | exact Ex.lenStr rfl)) rfl (fun _ h => h.fit) ?_
  refine ra_take 5 rfl (by kernel_rfl) (by kernel_rfl) rfl (ex_lookP rfl ⟨g.e, g.nx⟩ rfl inferInstance) rfl (fun _ h => h.fit) ?_
  refine ra_take 6 rfl (by kernel_rfl) (by kernel_rfl) rfl (by (first | (constructor <;> first | rfl | exact RdC.rd | exact inferInstance) | exact Ex.pickF rfl rfl | exact Ex.eqlS rfl rfl | exact Ex.neqS rfl rfl | exact Ex.eqlPN rfl rfl | exact Ex.neqPN rfl rfl | exact Ex.eqlSN rfl rfl | exact Ex.neqSN rfl rfl | exact Ex.lenStr rfl)) rfl (fun _ h => h.fit) ?_
  refine ra_take 7 rfl (by kernel_rfl) (by kernel_rfl) rfl (by (first | (constructor <;> first | rfl | exact RdC.rd | exact inferInstance) | exact Ex.pickF rfl rfl | exact Ex.eqlS rfl rfl | exact Ex.neqS rfl rfl | exact Ex.eqlPN rfl rfl | exact Ex.neqPN rfl rfl | exact Ex.eqlSN rfl rfl | exact Ex.neqSN rfl rfl | exact Ex.lenStr rfl)) rfl (fun _ h => h.fit) ?_
  refine ra_take 8 rfl (by kernel_rfl) (by kernel_rfl) rfl (by (first | (constructor <;> first | rfl | exact RdC.rd | exact inferInstance) | exact Ex.pickF rfl rfl | exact Ex.eqlS rfl rfl | exact Ex.neqS rfl rfl | exact Ex.eqlPN rfl rfl | exact Ex.neqPN rfl rfl | exact Ex.eqlSN rfl rfl | exact Ex.neqSN rfl rfl | exact Ex.lenStr rfl)) rfl (fun _ h => h.fit) ?_
  refine ra_all (rs := [9]) (by kernel_rfl) rfl ?_
  refine each_op rfl rfl rfl (opR_alloc fun b4 => ?_) each_nil
  refine ⟨.inr (fun w h => h.fit), ?_⟩
  refine ra_all (rs := [10]) (by kernel_rfl) rfl ?_
  refine each_opN rfl rfl (opR_store rfl rfl rfl rfl ?_) each_nil
  refine ⟨.inr (fun w h => h.fit), ?_⟩
  refine ra_take 11 rfl (by kernel_rfl) (by kernel_rfl) rfl (by (first | (constructor <;> first | rfl | exact RdC.rd | exact inferInstance) | exact Ex.pickF rfl rfl | exact Ex.eqlS rfl rfl | exact Ex.neqS rfl rfl | exact Ex.eqlPN rfl rfl | exact Ex.neqPN rfl rfl | exact Ex.eqlSN rfl rfl | exact Ex.neqSN rfl rfl | exact Ex.lenStr rfl)) rfl (fun _ h => h.fit) ?_
  refine ra_end (by kernel_rfl) ?_
  refine qe_then ?_
  refine ct_seq ?_
  refine ct_seq ?_
  refine ct_region ?_
  iterate 2 (first | refine rs_ex rfl (by (first | (constructor <;> first | rfl | exact RdC.rd | exact inferInstance) | exact Ex.pickF rfl rfl | exact Ex.eqlS rfl rfl | exact Ex.neqS rfl rfl | exact Ex.eqlPN rfl rfl | exact Ex.neqPN rfl rfl | exact Ex.eqlSN rfl rfl | exact Ex.neqSN rfl rfl | exact Ex.lenStr rfl)) rfl ?_ | refine rs_skip rfl rfl ?_)
  refine rs_end ?_
  refine qe_then ?_
  refine ct_cond rfl (fun h26 => ?_) (fun h26 => ?_)
  · have hl : look g.w ⟨g.e, g.nx⟩ = none := by simpa using h26
    have hs : g.step = none := by rw [Fol.step, hl]
    have hdn := Fol.drain_none hs
    rw [hdn] at hruns hd
    simp only at hruns hd
    refine ct_exit ?_
    refine qe_then_exit ?_
    refine qe_block_exit_ne rfl ?_
    refine qe_loop_exit ?_
    refine qe_block_exit ?_
    refine qe_straight ?_
    refine qe_end ?_
    exact qe_heap (H' := folIt bc b g :: gc z none :: T) (fun w h => At.star.2 (At.sw1 (FolC.shut (f := g) h.drop.drop))) (ret0 rfl ⟨f.drain.1, rfl, by rw [← hruns, ← hd]; rfl⟩)
  · obtain ⟨m, hl⟩ : ∃ m, look g.w ⟨g.e, g.nx⟩ = some m := by
      cases hl : look g.w ⟨g.e, g.nx⟩ with
      | none => rw [hl] at h26; cases h26
      | some m => exact ⟨m, rfl⟩
    rw [hl]
    obtain ⟨g', hg'⟩ : ∃ g', g' = ({ g with w := mdel g.w ⟨g.e, g.nx⟩, nx := IntKind.u32.wrap (g.nx + 1) } : Fol) := ⟨_, rfl⟩
    have hs : g.step = some (m, g') := by rw [Fol.step, hl, hg']
    have hds := Fol.drain_some hs
    have hln := Fol.step_len hs
    rw [hds] at hruns hd hz
    simp only at hruns hd hz
    refine ct_skip ?_
    refine qe_then ?_
    refine ct_seq ?_
    refine ct_draw0 (by kernel_rfl) ?_
    refine ra_take 0 rfl (by kernel_rfl) (by kernel_rfl) rfl (by (first | (constructor <;> first | rfl | exact RdC.rd | exact inferInstance) | exact Ex.pickF rfl rfl | exact Ex.eqlS rfl rfl | exact Ex.neqS rfl rfl | exact Ex.eqlPN rfl rfl | exact Ex.neqPN rfl rfl | exact Ex.eqlSN rfl rfl | exact Ex.neqSN rfl rfl | exact Ex.lenStr rfl)) rfl (fun _ h => h.fit) ?_
    refine ra_take 1 rfl (by kernel_rfl) (by kernel_rfl) rfl (by (first | (constructor <;> first | rfl | exact RdC.rd | exact inferInstance) | exact Ex.pickF rfl rfl | exact Ex.eqlS rfl rfl | exact Ex.neqS rfl rfl | exact Ex.eqlPN rfl rfl | exact Ex.neqPN rfl rfl | exact Ex.eqlSN rfl rfl | exact Ex.neqSN rfl rfl | exact Ex.lenStr rfl)) rfl (fun _ h => h.fit) ?_
    refine ra_take 2 rfl (by kernel_rfl) (by kernel_rfl) rfl (by (first | (constructor <;> first | rfl | exact RdC.rd | exact inferInstance) | exact Ex.pickF rfl rfl | exact Ex.eqlS rfl rfl | exact Ex.neqS rfl rfl | exact Ex.eqlPN rfl rfl | exact Ex.neqPN rfl rfl | exact Ex.eqlSN rfl rfl | exact Ex.neqSN rfl rfl | exact Ex.lenStr rfl)) rfl (fun _ h => h.fit) ?_
    refine ra_take 3 rfl (by kernel_rfl) (by kernel_rfl) rfl (by (first | (constructor <;> first | rfl | exact RdC.rd | exact inferInstance) | exact Ex.pickF rfl rfl | exact Ex.eqlS rfl rfl | exact Ex.neqS rfl rfl | exact Ex.eqlPN rfl rfl | exact Ex.neqPN rfl rfl | exact Ex.eqlSN rfl rfl | exact Ex.neqSN rfl rfl | exact Ex.lenStr rfl)) rfl (fun _ h => h.fit) ?_
    refine ra_take 4 rfl (by kernel_rfl) (by kernel_rfl) rfl (by (first | (constructor <;> first | rfl | exact RdC.rd | exact inferInstance) | exact Ex.pickF rfl rfl | exact Ex.eqlS rfl rfl | exact Ex.neqS rfl rfl | exact Ex.eqlPN rfl rfl | exact Ex.neqPN rfl rfl | exact Ex.eqlSN rfl rfl | exact Ex.neqSN rfl rfl | exact Ex.lenStr rfl)) rfl (fun _ h => h.fit) ?_
    refine ra_all (rs := [5]) (by kernel_rfl) rfl ?_
    refine each_opN rfl rfl (opR_delete rfl ⟨g.e, g.nx⟩ rfl ?_) each_nil
    refine ⟨.inl (by kernel_rfl), ?_⟩
    refine ra_end (by kernel_rfl) ?_
    refine qe_then ?_
    refine ct_seq ?_
    refine ct_region ?_
    iterate 7 (first | refine rs_ex rfl (by (first | (constructor <;> first | rfl | exact RdC.rd | exact inferInstance) | exact Ex.pickF rfl rfl | exact Ex.eqlS rfl rfl | exact Ex.neqS rfl rfl | exact Ex.eqlPN rfl rfl | exact Ex.neqPN rfl rfl | exact Ex.eqlSN rfl rfl | exact Ex.neqSN rfl rfl | exact Ex.lenStr rfl)) rfl ?_ | refine rs_skip rfl rfl ?_)
    refine rs_opN rfl (opR_store rfl rfl rfl rfl ?_)
    refine rs_end ?_
    refine qe_then ?_
    refine ct_seq ?_
    refine ct_heap (H' := gc z none :: FolC b g' :: Blk bc (.cells #[.pointer (some ⟨b, 0, none⟩)] 44 (0, 0)) :: Blk b4 (.cells #[.int .i64 m.id.from_, .int .u32 m.id.count, .string m.data] 34 (0, 0)) :: T) (fun w h => ?_) ?_
    · subst hg'
      exact At.top [_, _, _, _] [3, 0, 1, 2] (FolC.shut (f := { g with w := mdel g.w ⟨g.e, g.nx⟩, nx := IntKind.u32.wrap (g.nx + 1) }) (At.top [_, _, _, _, _, _, _] [2, 3, 4, 5, 0, 6] h))
    refine ct_region ?_
    iterate 2 (first | refine rs_ex rfl (by (first | (constructor <;> first | rfl | exact RdC.rd | exact inferInstance) | exact Ex.pickF rfl rfl | exact Ex.eqlS rfl rfl | exact Ex.neqS rfl rfl | exact Ex.eqlPN rfl rfl | exact Ex.neqPN rfl rfl | exact Ex.eqlSN rfl rfl | exact Ex.neqSN rfl rfl | exact Ex.lenStr rfl)) rfl ?_ | refine rs_skip rfl rfl ?_)
    refine rs_op rfl rfl (opR_callV rfl rfl (CallV.heap (fun w h => h) ((hy.call z m _ (FolC b g' :: Blk bc (.cells #[.pointer (some ⟨b, 0, none⟩)] 44 (0, 0)) :: Blk b4 (.cells #[.int .i64 m.id.from_, .int .u32 m.id.count, .string m.data] 34 (0, 0)) :: T) hz).mono ?_)))
    rintro v H' ⟨rfl, rfl⟩
    rw [hst z m]
    (first | refine rs_ex rfl (by (first | (constructor <;> first | rfl | exact RdC.rd | exact inferInstance) | exact Ex.pickF rfl rfl | exact Ex.eqlS rfl rfl | exact Ex.neqS rfl rfl | exact Ex.eqlPN rfl rfl | exact Ex.neqPN rfl rfl | exact Ex.eqlSN rfl rfl | exact Ex.neqSN rfl rfl | exact Ex.lenStr rfl)) rfl ?_ | refine rs_skip rfl rfl ?_)
    refine rs_end ?_
    refine qe_then ?_
    refine ct_cond rfl (fun h42 => by cases h42) (fun h42 => ?_)
    refine ct_skip ?_
    refine qe_block 1 ?_
    refine qe_loopc ((g', (step z m).1)) (⟨hy.keeps _ _ _ hz (hst z m), hd, by rw [← hruns, runs, hst z m]⟩) (by first | omega | (simp only; omega)) ⟨rfl, rfl, trivial⟩ (fun w h => At.top [_, _, _, _] [1, 2, 0] h)
end Go.Rost
