/- What a builder holds; numbers put into four bytes; texts laid one behind the other. -/
import Derived.Test.YtebdfelodihdhaaDoorBd
namespace Go.Rost
open Go Go.RowKit Go.Proofs

section
variable {C : Cx} {ds : List Deferred} {σ : Env} {H : List Chunk} {K : Value → List Chunk → Prop} {dst : Option Tmp} {ty : TypeId} {pos : String} {aft : Array Edge} {g : Option (Nat × Bool)}
theorem ex_sliceData {P : Program} {S : World → Prop} {x : Operand} {a : Addr} {n c : Nat} {ts : Array TypeId} (hx : σ.val x = some (.slice (some a) n c)) (hc : c ≠ 0) : Ex P S σ (.call ⟨.builtin .unsafeSliceData, #[x], ts⟩) (.pointer (some a)) := by
  refine Ex.any (fun ρ hρ d hop w hw => ?_) (fun _ _ e => by cases e) (fun _ e => by cases e)
  simp only [execOp, hop, resolve, List.map_toArray, List.map_cons, List.map_nil, hρ _ _ hx, Sem.run_bind, Sem.run_pure, Result.andThen_ok, invoke, builtin, Lib.run_unsafeSliceData_row w ts d.type a n c hc]
theorem freeze_at {w : World} {b n : Nat} {cs : Array Value} {T : TypeId} (hn : n ≠ 0) (h : w.heap[b]? = some (.cells cs T (0, 0))) : w.freeze ⟨b, 0, none⟩ n = { w with heap := w.heap.setIfInBounds b (.cells cs T (0, 0 + n)) } := by
  unfold World.freeze
  rw [if_neg hn]
  congr 1
  apply Array.ext
  · simp
  · intro i h1 h2
    rw [Array.getElem_modify, Array.getElem_setIfInBounds]
    by_cases e : b = i
    · subst e
      rw [if_pos rfl, if_pos rfl]
      obtain ⟨hlt, e2⟩ := Array.getElem?_eq_some_iff.1 h
      rw [e2]; rfl
    · rw [if_neg e, if_neg e]
theorem opR_unsafeString {pt it e : TypeId} {x y : Operand} {b : Nat} {l : List UInt8} {sp : List Value} (hp : C.P.underlying pt = some (.pointer e)) (hc : C.P.cellsOf e = 1) (hx : σ.val x = some (.pointer (some ⟨b, 0, none⟩))) (hy : σ.val y = some (.int .i64 (l.length : Int)))
    (h0 : l ≠ []) (hl : l.length ≤ 9223372036854775807) (h : ∀ fz, K (.string ⟨l.toArray⟩) (Blk b (.cells (flat l ++ sp).toArray e fz) :: H)) :
    OpR C ds ⟨dst, .call ⟨.builtin .unsafeString, #[x, y], #[pt, it]⟩, ty, pos, aft, g⟩ σ (Blk b (.cells (flat l ++ sp).toArray e (0, 0)) :: H) K := by
  refine OpR.of_run (fun c e => by cases e) fun ρ hρ w hw => ⟨_, w.freeze ⟨b, 0, none⟩ l.length, _, ?_, h (0, 0 + l.length), ?_⟩
  · have hsh : w.shape? b = some (e, (flat l ++ sp).length) := by simp [World.shape?, hw.read]
    have hcell : ∀ j x, l[j]? = some x → w.cell? ((⟨b, 0, none⟩ : Addr).add j) = some (.int .u8 x.toNat) := by
      intro j x hj
      have e1 : (⟨b, 0, none⟩ : Addr).add j = ⟨b, j, none⟩ := by unfold Addr.add; split <;> simp_all
      rw [e1]
      have hlt : j < l.length := (List.getElem?_eq_some_iff.1 hj).1
      simp only [World.cell?, hw.read, Option.isSome_none, Bool.false_eq_true, if_false, List.getElem?_toArray]
      rw [List.getElem?_append_left (by rw [flat_bytes]; simpa using hlt), flat_bytes, List.getElem?_map, hj]
      rfl
    simp only [execOp, resolve, List.map_toArray, List.map_cons, List.map_nil, hρ _ _ hx, hρ _ _ hy, Sem.run_bind, Sem.run_pure, Result.andThen_ok, invoke, builtin, Lib.run_unsafeString_row w pt it ty e hp hc b (flat l ++ sp).length hsh l h0 (by rw [List.length_append, flat_bytes, List.length_map]; omega) hl hcell]
  · rw [freeze_at (by simpa using h0) hw.read]
    exact hw.write
end
theorem String_in (W0 : World) (b g cap : Nat) (a : Value) (l : List UInt8) (sp : List Value) (H : List Chunk) (h0 : l ≠ []) (hcap : cap ≠ 0) (hl : l.length ≤ 1000000) :
    Call Tryd.prog W0 81 [.pointer (some ⟨b, 0, none⟩)] (Blk g (.cells (flat l ++ sp).toArray 5 (0, 0)) :: Blk b (.cells #[a, .slice (some ⟨g, 0, none⟩) l.length cap] 141 (0, 0)) :: H) (fun v H' => v = .string ⟨l.toArray⟩ ∧ H' = H) := by
  refine call_enter Tryd.func81 rfl Tryd.ntmps81 rfl ?_
  ((repeat refine ct_seq ?_); refine ct_region ?_; repeat (first | refine rs_ex rfl (by (first | (constructor <;> first | rfl | exact RdC.rd | exact inferInstance) | exact Ex.pickF rfl rfl | exact Ex.eqlS rfl rfl | exact Ex.neqS rfl rfl | exact Ex.eqlPN rfl rfl | exact Ex.neqPN rfl rfl | exact Ex.eqlSN rfl rfl | exact Ex.neqSN rfl rfl | exact Ex.lenStr rfl)) rfl ?_ | refine rs_skip rfl rfl ?_))
  refine rs_end (qe_then ?_)
  refine ct_seq (ct_draw1 (by kernel_rfl) ?_)
  refine ra_take 0 rfl (by kernel_rfl) (by kernel_rfl) rfl (by (first | (constructor <;> first | rfl | exact RdC.rd | exact inferInstance) | exact Ex.pickF rfl rfl | exact Ex.eqlS rfl rfl | exact Ex.neqS rfl rfl | exact Ex.eqlPN rfl rfl | exact Ex.neqPN rfl rfl | exact Ex.eqlSN rfl rfl | exact Ex.neqSN rfl rfl | exact Ex.lenStr rfl)) rfl (by first | exact fun _ h => h | exact fun _ h => h.drop | exact fun _ h => h.drop.drop | exact fun _ h => h.drop.drop.drop | exact fun _ h => h.drop.drop.drop.drop | exact fun _ h => h.drop.drop.drop.drop.drop | exact fun _ h => h.drop.drop.drop.drop.drop.drop | exact fun _ h => h.drop.drop.drop.drop.drop.drop.drop | exact fun _ h => h.drop.drop.drop.drop.drop.drop.drop.drop) ?_
  refine ra_take 1 rfl (by kernel_rfl) (by kernel_rfl) rfl (by (first | (constructor <;> first | rfl | exact RdC.rd | exact inferInstance) | exact Ex.pickF rfl rfl | exact Ex.eqlS rfl rfl | exact Ex.neqS rfl rfl | exact Ex.eqlPN rfl rfl | exact Ex.neqPN rfl rfl | exact Ex.eqlSN rfl rfl | exact Ex.neqSN rfl rfl | exact Ex.lenStr rfl)) rfl (by first | exact fun _ h => h | exact fun _ h => h.drop | exact fun _ h => h.drop.drop | exact fun _ h => h.drop.drop.drop | exact fun _ h => h.drop.drop.drop.drop | exact fun _ h => h.drop.drop.drop.drop.drop | exact fun _ h => h.drop.drop.drop.drop.drop.drop | exact fun _ h => h.drop.drop.drop.drop.drop.drop.drop | exact fun _ h => h.drop.drop.drop.drop.drop.drop.drop.drop) ?_
  refine ra_take 2 rfl (by kernel_rfl) (by kernel_rfl) rfl (by (first | (constructor <;> first | rfl | exact RdC.rd | exact inferInstance) | exact Ex.pickF rfl rfl | exact Ex.eqlS rfl rfl | exact Ex.neqS rfl rfl | exact Ex.eqlPN rfl rfl | exact Ex.neqPN rfl rfl | exact Ex.eqlSN rfl rfl | exact Ex.neqSN rfl rfl | exact Ex.lenStr rfl)) rfl (by first | exact fun _ h => h | exact fun _ h => h.drop | exact fun _ h => h.drop.drop | exact fun _ h => h.drop.drop.drop | exact fun _ h => h.drop.drop.drop.drop | exact fun _ h => h.drop.drop.drop.drop.drop | exact fun _ h => h.drop.drop.drop.drop.drop.drop | exact fun _ h => h.drop.drop.drop.drop.drop.drop.drop | exact fun _ h => h.drop.drop.drop.drop.drop.drop.drop.drop) ?_
  refine ra_take 3 rfl (by kernel_rfl) (by kernel_rfl) rfl (by (first | (constructor <;> first | rfl | exact RdC.rd | exact inferInstance) | exact Ex.pickF rfl rfl | exact Ex.eqlS rfl rfl | exact Ex.neqS rfl rfl | exact Ex.eqlPN rfl rfl | exact Ex.neqPN rfl rfl | exact Ex.eqlSN rfl rfl | exact Ex.neqSN rfl rfl | exact Ex.lenStr rfl)) rfl (by first | exact fun _ h => h | exact fun _ h => h.drop | exact fun _ h => h.drop.drop | exact fun _ h => h.drop.drop.drop | exact fun _ h => h.drop.drop.drop.drop | exact fun _ h => h.drop.drop.drop.drop.drop | exact fun _ h => h.drop.drop.drop.drop.drop.drop | exact fun _ h => h.drop.drop.drop.drop.drop.drop.drop | exact fun _ h => h.drop.drop.drop.drop.drop.drop.drop.drop) ?_
  refine ra_take 4 rfl (by kernel_rfl) (by kernel_rfl) rfl (ex_sliceData rfl hcap) rfl (by first | exact fun _ h => h | exact fun _ h => h.drop | exact fun _ h => h.drop.drop | exact fun _ h => h.drop.drop.drop | exact fun _ h => h.drop.drop.drop.drop | exact fun _ h => h.drop.drop.drop.drop.drop | exact fun _ h => h.drop.drop.drop.drop.drop.drop | exact fun _ h => h.drop.drop.drop.drop.drop.drop.drop | exact fun _ h => h.drop.drop.drop.drop.drop.drop.drop.drop) ?_
  refine ra_take 5 rfl (by kernel_rfl) (by kernel_rfl) rfl (by (first | (constructor <;> first | rfl | exact RdC.rd | exact inferInstance) | exact Ex.pickF rfl rfl | exact Ex.eqlS rfl rfl | exact Ex.neqS rfl rfl | exact Ex.eqlPN rfl rfl | exact Ex.neqPN rfl rfl | exact Ex.eqlSN rfl rfl | exact Ex.neqSN rfl rfl | exact Ex.lenStr rfl)) rfl (by first | exact fun _ h => h | exact fun _ h => h.drop | exact fun _ h => h.drop.drop | exact fun _ h => h.drop.drop.drop | exact fun _ h => h.drop.drop.drop.drop | exact fun _ h => h.drop.drop.drop.drop.drop | exact fun _ h => h.drop.drop.drop.drop.drop.drop | exact fun _ h => h.drop.drop.drop.drop.drop.drop.drop | exact fun _ h => h.drop.drop.drop.drop.drop.drop.drop.drop) ?_
  refine ra_take 6 rfl (by kernel_rfl) (by kernel_rfl) rfl (by (first | (constructor <;> first | rfl | exact RdC.rd | exact inferInstance) | exact Ex.pickF rfl rfl | exact Ex.eqlS rfl rfl | exact Ex.neqS rfl rfl | exact Ex.eqlPN rfl rfl | exact Ex.neqPN rfl rfl | exact Ex.eqlSN rfl rfl | exact Ex.neqSN rfl rfl | exact Ex.lenStr rfl)) rfl (by first | exact fun _ h => h | exact fun _ h => h.drop | exact fun _ h => h.drop.drop | exact fun _ h => h.drop.drop.drop | exact fun _ h => h.drop.drop.drop.drop | exact fun _ h => h.drop.drop.drop.drop.drop | exact fun _ h => h.drop.drop.drop.drop.drop.drop | exact fun _ h => h.drop.drop.drop.drop.drop.drop.drop | exact fun _ h => h.drop.drop.drop.drop.drop.drop.drop.drop) ?_
  refine ra_take 7 rfl (by kernel_rfl) (by kernel_rfl) rfl (by (first | (constructor <;> first | rfl | exact RdC.rd | exact inferInstance) | exact Ex.pickF rfl rfl | exact Ex.eqlS rfl rfl | exact Ex.neqS rfl rfl | exact Ex.eqlPN rfl rfl | exact Ex.neqPN rfl rfl | exact Ex.eqlSN rfl rfl | exact Ex.neqSN rfl rfl | exact Ex.lenStr rfl)) rfl (by first | exact fun _ h => h | exact fun _ h => h.drop | exact fun _ h => h.drop.drop | exact fun _ h => h.drop.drop.drop | exact fun _ h => h.drop.drop.drop.drop | exact fun _ h => h.drop.drop.drop.drop.drop | exact fun _ h => h.drop.drop.drop.drop.drop.drop | exact fun _ h => h.drop.drop.drop.drop.drop.drop.drop | exact fun _ h => h.drop.drop.drop.drop.drop.drop.drop.drop) ?_
  refine ra_take 8 rfl (by kernel_rfl) (by kernel_rfl) rfl (by (first | (constructor <;> first | rfl | exact RdC.rd | exact inferInstance) | exact Ex.pickF rfl rfl | exact Ex.eqlS rfl rfl | exact Ex.neqS rfl rfl | exact Ex.eqlPN rfl rfl | exact Ex.neqPN rfl rfl | exact Ex.eqlSN rfl rfl | exact Ex.neqSN rfl rfl | exact Ex.lenStr rfl)) rfl (by first | exact fun _ h => h | exact fun _ h => h.drop | exact fun _ h => h.drop.drop | exact fun _ h => h.drop.drop.drop | exact fun _ h => h.drop.drop.drop.drop | exact fun _ h => h.drop.drop.drop.drop.drop | exact fun _ h => h.drop.drop.drop.drop.drop.drop | exact fun _ h => h.drop.drop.drop.drop.drop.drop.drop | exact fun _ h => h.drop.drop.drop.drop.drop.drop.drop.drop) ?_
  refine ra_take 9 rfl (by kernel_rfl) (by kernel_rfl) rfl (by (first | (constructor <;> first | rfl | exact RdC.rd | exact inferInstance) | exact Ex.pickF rfl rfl | exact Ex.eqlS rfl rfl | exact Ex.neqS rfl rfl | exact Ex.eqlPN rfl rfl | exact Ex.neqPN rfl rfl | exact Ex.eqlSN rfl rfl | exact Ex.neqSN rfl rfl | exact Ex.lenStr rfl)) rfl (by first | exact fun _ h => h | exact fun _ h => h.drop | exact fun _ h => h.drop.drop | exact fun _ h => h.drop.drop.drop | exact fun _ h => h.drop.drop.drop.drop | exact fun _ h => h.drop.drop.drop.drop.drop | exact fun _ h => h.drop.drop.drop.drop.drop.drop | exact fun _ h => h.drop.drop.drop.drop.drop.drop.drop | exact fun _ h => h.drop.drop.drop.drop.drop.drop.drop.drop) ?_
  refine ra_all (rs := [10]) (by kernel_rfl) rfl ?_
  refine each_op rfl rfl rfl (opR_unsafeString Tryd.underlying153 (by kernel_rfl) rfl rfl h0 (by omega) (fun fz => ⟨.inr (fun w h => h.drop), ?_⟩)) each_nil
  refine ra_take 11 rfl (by kernel_rfl) (by kernel_rfl) rfl (by (first | (constructor <;> first | rfl | exact RdC.rd | exact inferInstance) | exact Ex.pickF rfl rfl | exact Ex.eqlS rfl rfl | exact Ex.neqS rfl rfl | exact Ex.eqlPN rfl rfl | exact Ex.neqPN rfl rfl | exact Ex.eqlSN rfl rfl | exact Ex.neqSN rfl rfl | exact Ex.lenStr rfl)) rfl (by first | exact fun _ h => h | exact fun _ h => h.drop | exact fun _ h => h.drop.drop | exact fun _ h => h.drop.drop.drop | exact fun _ h => h.drop.drop.drop.drop | exact fun _ h => h.drop.drop.drop.drop.drop | exact fun _ h => h.drop.drop.drop.drop.drop.drop | exact fun _ h => h.drop.drop.drop.drop.drop.drop.drop | exact fun _ h => h.drop.drop.drop.drop.drop.drop.drop.drop) ?_
  refine ra_end (by kernel_rfl) (qe_then (ct_ret (qe_heap (fun w h => h.drop.drop) (ret1 rfl rfl ⟨rfl, rfl⟩))))
theorem String_c (W0 : World) (b : Nat) (l : List UInt8) (H : List Chunk) (h0 : l ≠ []) (hl : l.length ≤ 1000000) :
    Call Tryd.prog W0 81 [.pointer (some ⟨b, 0, none⟩)] (BuildC b l :: H) (fun v H' => v = .string ⟨l.toArray⟩ ∧ H' = H) := by
  intro w hw
  obtain ⟨a, v, h⟩ := BuildC.open hw
  have h2 := ((At.pr.1 h).2).sw1
  rcases h2.slt with ⟨_, e, _⟩ | ⟨g, cap, sp, e, hlen, h3⟩
  · exact absurd e h0
  · subst e
    refine String_in W0 b g cap a l sp H h0 ?_ hl w h3
    intro e; rw [e] at hlen
    have : (flat l).length = 0 := by simp at hlen; rw [hlen.1]; rfl
    rw [flat_bytes, List.length_map] at this
    exact h0 (List.length_eq_zero_iff.1 this)
instance : Enc ByteArray := ⟨1, Value.string, fun b => [.string b], fun _ => rfl, fun _ => rfl, by decide⟩
instance : Enc1 ByteArray := ⟨rfl, fun _ => rfl⟩
theorem ex_loadStr {P : Program} {S : World → Prop} {σ : Env} {T : TypeId} {x : Operand} {b o : Nat} [TPlain P T] (a : ByteArray) (hx : σ.val x = some (.pointer (some ⟨b, o, none⟩))) (h : Rd S b o (Enc.enc a)) : Ex P S σ (.load T x) (.string a) := ex_load1 a hx h
def joinB (l : List ByteArray) : List UInt8 := l.flatMap fun s => s.data.toList
theorem joinB_append (l m : List ByteArray) : joinB (l ++ m) = joinB l ++ joinB m := by simp [joinB]
theorem Lays_c (W0 : World) (b : Nat) (l : List UInt8) (p : Option Addr) (c : Nat) (ss : List ByteArray) (H : List Chunk) (hr : SlR (At W0 H) p ss) (hl : l.length + (joinB ss).length ≤ 900000) (hn : ss.length ≤ 1000) :
    Call Tryd.prog W0 93 [.pointer (some ⟨b, 0, none⟩), .slice p ss.length c] (BuildC b l :: H) (fun _ H' => H' = BuildC b (l ++ joinB ss) :: H) := by
  refine call_enter Tryd.func93 rfl Tryd.ntmps93 rfl ?_
  ((repeat refine ct_seq ?_); refine ct_region ?_; repeat (first | refine rs_ex rfl (by (first | (constructor <;> first | rfl | exact RdC.rd | exact inferInstance) | exact Ex.pickF rfl rfl | exact Ex.eqlS rfl rfl | exact Ex.neqS rfl rfl | exact Ex.eqlPN rfl rfl | exact Ex.neqPN rfl rfl | exact Ex.eqlSN rfl rfl | exact Ex.neqSN rfl rfl | exact Ex.lenStr rfl)) rfl ?_ | refine rs_skip rfl rfl ?_))
  refine rs_end (qe_then (ct_block ?_))
  refine ct_loop (ζ := Nat) (fun i => i ≤ ss.length) (fun i => [(8, .int .i64 (i : Int)), (7, .int .i64 (ss.length : Int)), (6, .slice p ss.length c), (0, .pointer (some ⟨b, 0, none⟩))]) (fun i => BuildC b (l ++ joinB (ss.take i)) :: H) (fun i => ss.length - i) 0 (Nat.zero_le _) ⟨rfl, rfl, rfl, rfl, trivial⟩ (fun w h => by simpa [joinB] using h) ?_
  intro i hi
  ((repeat refine ct_seq ?_); refine ct_region ?_; repeat (first | refine rs_ex rfl (by (first | (constructor <;> first | rfl | exact RdC.rd | exact inferInstance) | exact Ex.pickF rfl rfl | exact Ex.eqlS rfl rfl | exact Ex.neqS rfl rfl | exact Ex.eqlPN rfl rfl | exact Ex.neqPN rfl rfl | exact Ex.eqlSN rfl rfl | exact Ex.neqSN rfl rfl | exact Ex.lenStr rfl)) rfl ?_ | refine rs_skip rfl rfl ?_))
  refine rs_end (qe_then ?_)
  (repeat refine ct_seq ?_)
  refine ct_cond rfl (fun hc => ?_) (fun hc => ?_)
  · have hi1 : i < ss.length := by simp at hc; exact hc
    obtain ⟨b1, o1, rfl, r1⟩ := hr.get (List.getElem?_eq_getElem hi1)
    have hj : joinB (ss.take (i + 1)) = joinB (ss.take i) ++ (ss[i]).data.toList := by rw [List.take_succ_eq_append_getElem hi1, joinB_append]; simp [joinB]
    have hle : (joinB (ss.take (i + 1))).length ≤ (joinB ss).length := by
      conv => rhs; rw [← List.take_append_drop (i + 1) ss, joinB_append]
      simp
    rw [hj, List.length_append] at hle
    refine ct_skip (qe_then ?_)
    (repeat refine ct_seq ?_)
    refine ct_block ?_
    ((repeat refine ct_seq ?_); refine ct_region ?_; repeat (first | refine rs_ex rfl (by (first | (constructor <;> first | rfl | exact RdC.rd | exact inferInstance) | exact Ex.pickF rfl rfl | exact Ex.eqlS rfl rfl | exact Ex.neqS rfl rfl | exact Ex.eqlPN rfl rfl | exact Ex.neqPN rfl rfl | exact Ex.eqlSN rfl rfl | exact Ex.neqSN rfl rfl | exact Ex.lenStr rfl)) rfl ?_ | refine rs_skip rfl rfl ?_))
    refine rs_ex rfl (ex_indexAddr rfl rfl (by omega) (by omega)) rfl ?_
    refine rs_ex rfl (ex_loadStr (ss[i]) rfl (r1.mono fun w h => h.drop)) rfl ?_
    repeat (first | refine rs_ex rfl (by (first | (constructor <;> first | rfl | exact RdC.rd | exact inferInstance) | exact Ex.pickF rfl rfl | exact Ex.eqlS rfl rfl | exact Ex.neqS rfl rfl | exact Ex.eqlPN rfl rfl | exact Ex.neqPN rfl rfl | exact Ex.eqlSN rfl rfl | exact Ex.neqSN rfl rfl | exact Ex.lenStr rfl)) rfl ?_ | refine rs_skip rfl rfl ?_)
    refine rs_end (qe_then ?_)
    ((repeat refine ct_seq ?_); refine ct_region ?_; repeat (first | refine rs_ex rfl (by (first | (constructor <;> first | rfl | exact RdC.rd | exact inferInstance) | exact Ex.pickF rfl rfl | exact Ex.eqlS rfl rfl | exact Ex.neqS rfl rfl | exact Ex.eqlPN rfl rfl | exact Ex.neqPN rfl rfl | exact Ex.eqlSN rfl rfl | exact Ex.neqSN rfl rfl | exact Ex.lenStr rfl)) rfl ?_ | refine rs_skip rfl rfl ?_))
    refine rs_op rfl rfl (opR_fn rfl ((WriteString_c W0 b _ ss[i] _ ?_).mono ?_))
    · rw [List.length_append]; simp at hle ⊢; omega
    rintro v H' rfl
    refine rs_end (qe_block 1 (qe_then ?_))
    ((repeat refine ct_seq ?_); refine ct_region ?_; repeat (first | refine rs_ex rfl (by (first | (constructor <;> first | rfl | exact RdC.rd | exact inferInstance) | exact Ex.pickF rfl rfl | exact Ex.eqlS rfl rfl | exact Ex.neqS rfl rfl | exact Ex.eqlPN rfl rfl | exact Ex.neqPN rfl rfl | exact Ex.eqlSN rfl rfl | exact Ex.neqSN rfl rfl | exact Ex.lenStr rfl)) rfl ?_ | refine rs_skip rfl rfl ?_))
    refine rs_rw (by rw [wrapS (by omega)]) ?_
    repeat (first | refine rs_ex rfl (by (first | (constructor <;> first | rfl | exact RdC.rd | exact inferInstance) | exact Ex.pickF rfl rfl | exact Ex.eqlS rfl rfl | exact Ex.neqS rfl rfl | exact Ex.eqlPN rfl rfl | exact Ex.neqPN rfl rfl | exact Ex.eqlSN rfl rfl | exact Ex.neqSN rfl rfl | exact Ex.lenStr rfl)) rfl ?_ | refine rs_skip rfl rfl ?_)
    refine rs_end (qe_loop (i + 1) (by omega) (by omega) ⟨rfl, rfl, rfl, rfl, trivial⟩ (fun w h => ?_))
    rw [hj, ← List.append_assoc]; exact h
  · have e : i = ss.length := by simp at hc; omega
    subst e
    rw [List.take_length]
    (refine ct_exit ?_; repeat (first | refine qe_then_exit ?_ | refine qe_loop_exit ?_ | refine qe_mid_exit ?_ | refine qe_block_exit_ne rfl ?_); refine qe_block_exit ?_)
    refine qe_end (ret0 rfl rfl)
/-! ### Numbers, put -/
def byteAt (n : Int) (k : Nat) : UInt8 := UInt8.ofNat (n.fdiv (2 ^ (8 * k))).toNat
def putL (n : Int) : List UInt8 := [byteAt n 0, byteAt n 1, byteAt n 2, byteAt n 3]
theorem u8_wrap {m : Int} (h : 0 ≤ m) : IntKind.u8.wrap m = ((UInt8.ofNat m.toNat).toNat : Int) := by
  simp only [IntKind.wrap, IntKind.bits, IntKind.signed]
  simp
  omega
theorem ex_shrU {P : Program} {S : World → Prop} {σ : Env} {T T' : TypeId} {x y : Operand} {k : IntKind} {a : Int} (n : Nat) (hx : σ.val x = some (.int .u32 a)) (hy : σ.val y = some (.int k (n : Int))) (hn : n ≤ 32) : Ex P S σ (.binOp .shr T x y T') (.int .u32 (a.fdiv (2 ^ n))) := by
  refine Ex.any (fun ρ hρ c hop w hw => ?_) (fun _ _ e => by cases e) (fun _ e => by cases e)
  have h1 : ¬ (n : Int) < 0 := by omega
  have h2 : min n 32 = n := by omega
  simp [execOp, hop, hρ _ _ hx, hρ _ _ hy, binOp, eqGuard, Op.shift, h1, IntKind.bits, h2]
theorem fdiv_nonneg {n : Int} (h : 0 ≤ n) (k : Nat) : 0 ≤ n.fdiv (2 ^ k) := by
  have : (0 : Int) ≤ 2 ^ k := Int.pow_nonneg (by decide)
  exact Int.fdiv_nonneg h this
end Go.Rost
