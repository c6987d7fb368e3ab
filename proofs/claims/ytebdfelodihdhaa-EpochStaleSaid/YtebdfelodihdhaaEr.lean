/- The eras of a log, gone through, and told. -/
import Derived.Test.YtebdfelodihdhaaFd
import Derived.Test.YtebdfelodihdhaaCf
namespace Go.Rost
open Go Go.RowKit Go.Proofs

def encEr (e : Era) : List Value := [e.v]
theorem ValE_c (W0 : World) (p : Option Addr) (n c : Nat) (H : List Chunk) : Call Try.prog W0 31 [.slice p n c] H (fun u H' => ∃ b, u = .func (.func 39) #[] #[.pointer (some ⟨b, 0, none⟩)] ∧ H' = Blk b (.cells #[.slice p n c] 35 (0, 0)) :: H) := by
  refine call_enter Try.func31 rfl Try.ntmps31 rfl ?_

  refine ct_seq ?_
  refine ct_region ?_
  refine rs_op rfl rfl (opR_box rfl fun b1 => ?_)
  (first | refine rs_ex rfl (by (first | (constructor <;> first | rfl | exact RdC.rd | exact inferInstance) | exact Ex.pickF rfl rfl | exact Ex.eqlS rfl rfl | exact Ex.neqS rfl rfl | exact Ex.eqlPN rfl rfl | exact Ex.neqPN rfl rfl | exact Ex.eqlSN rfl rfl | exact Ex.neqSN rfl rfl | exact Ex.lenStr rfl)) rfl ?_ | refine rs_skip rfl rfl ?_)
  refine rs_end ?_
  refine qe_then ?_
  refine ct_seq ?_
  refine ct_region ?_
  iterate 2 (first | refine rs_ex rfl (by (first | (constructor <;> first | rfl | exact RdC.rd | exact inferInstance) | exact Ex.pickF rfl rfl | exact Ex.eqlS rfl rfl | exact Ex.neqS rfl rfl | exact Ex.eqlPN rfl rfl | exact Ex.neqPN rfl rfl | exact Ex.eqlSN rfl rfl | exact Ex.neqSN rfl rfl | exact Ex.lenStr rfl)) rfl ?_ | refine rs_skip rfl rfl ?_)
  refine rs_end ?_
  refine qe_then ?_
  refine ct_ret ?_
  exact ret1 rfl rfl ⟨_, rfl, rfl⟩
theorem ValE1_c (W0 : World) {ζ : Type} (y : Value) (gc : ζ → Option Code → Chunk) (step : ζ → Era → ζ × Option Code) (J : ζ → List Era → Prop) (z0 : ζ) (bs c : Nat) (p : Option Addr) (l : List Era) (T : List Chunk)
    (hy : Yields Try.prog W0 y encEr gc step J) (h0 : J z0 l) (hr : SlR (At W0 []) p l) (hl : l.length ≤ 100000) :
    Call Try.prog W0 39 [y, .pointer (some ⟨bs, 0, none⟩)] (Blk bs (.cells #[.slice p l.length c] 35 (0, 0)) :: gc z0 none :: T)
      (fun v H' => ∃ xs it', xs = l ∧ H' = it' :: gc (runs step z0 xs).1 (runs step z0 xs).2 :: T) := by
  refine call_enter Try.func39 rfl Try.ntmps39 rfl ?_

  refine ct_seq ?_
  refine ct_region ?_
  iterate 3 (first | refine rs_ex rfl (by (first | (constructor <;> first | rfl | exact RdC.rd | exact inferInstance) | exact Ex.pickF rfl rfl | exact Ex.eqlS rfl rfl | exact Ex.neqS rfl rfl | exact Ex.eqlPN rfl rfl | exact Ex.neqPN rfl rfl | exact Ex.eqlSN rfl rfl | exact Ex.neqSN rfl rfl | exact Ex.lenStr rfl)) rfl ?_ | refine rs_skip rfl rfl ?_)
  refine rs_end ?_
  refine qe_then ?_
  refine ct_block ?_
  refine ct_loopc (ζ := Nat × ζ) (fun q => J q.2 (l.drop q.1) ∧ q.1 ≤ l.length ∧ runs step q.2 (l.drop q.1) = runs step z0 l) [(0, _), (5, _), (6, _)] (fun q => [(7, .int .i64 (q.1 : Int))]) (fun q => Blk bs (.cells #[.slice p l.length c] 35 (0, 0)) :: gc q.2 none :: T) (fun q => l.length - q.1) ((0, z0)) (⟨h0, Nat.zero_le _, rfl⟩) ⟨rfl, rfl, rfl, rfl, trivial⟩ (fun w h => by first | exact h.fit | exact h) ?_
  rintro ⟨i, z⟩ ⟨hz, hi, hruns⟩
  simp only at hz hi hruns ⊢
  refine ct_seq ?_
  refine ct_region ?_
  (first | refine rs_ex rfl (by (first | (constructor <;> first | rfl | exact RdC.rd | exact inferInstance) | exact Ex.pickF rfl rfl | exact Ex.eqlS rfl rfl | exact Ex.neqS rfl rfl | exact Ex.eqlPN rfl rfl | exact Ex.neqPN rfl rfl | exact Ex.eqlSN rfl rfl | exact Ex.neqSN rfl rfl | exact Ex.lenStr rfl)) rfl ?_ | refine rs_skip rfl rfl ?_)
  refine rs_end ?_
  refine qe_then ?_
  refine ct_seq ?_
  refine ct_cond rfl (fun h8 => ?_) (fun h8 => ?_)
  · have hi1 : i < l.length := by simp at h8; exact h8
    obtain ⟨b1, o1, rfl, r1⟩ := hr.get (List.getElem?_eq_getElem hi1)
    obtain ⟨x, hx⟩ : ∃ x, x = l[i] := ⟨_, rfl⟩
    rw [← hx] at r1
    rw [List.drop_eq_getElem_cons hi1, ← hx] at hruns hz
    refine ct_skip ?_
    refine qe_then ?_
    refine ct_seq ?_
    refine ct_block ?_
    refine ct_seq ?_
    refine ct_region ?_
    refine rs_ex rfl (ex_indexAddr rfl rfl (by omega) (by omega)) rfl ?_
    refine rs_ex rfl (ex_loadEra x rfl (r1.mono fun w h => h.bare)) rfl ?_
    refine rs_op rfl rfl (opR_alloc fun b4 => ?_)
    refine rs_opN rfl (opR_store rfl rfl rfl rfl ?_)
    refine rs_end ?_
    refine qe_then ?_
    refine ct_seq ?_
    refine ct_region ?_
    iterate 2 (first | refine rs_ex rfl (by (first | (constructor <;> first | rfl | exact RdC.rd | exact inferInstance) | exact Ex.pickF rfl rfl | exact Ex.eqlS rfl rfl | exact Ex.neqS rfl rfl | exact Ex.eqlPN rfl rfl | exact Ex.neqPN rfl rfl | exact Ex.eqlSN rfl rfl | exact Ex.neqSN rfl rfl | exact Ex.lenStr rfl)) rfl ?_ | refine rs_skip rfl rfl ?_)
    have hcall := hy.call z x _ (Blk b4 (.cells #[.int .u32 x.epoch, .int .i64 x.ver, .int .i64 x.start] 38 (0, 0)) :: Blk bs (.cells #[.slice (some ⟨b1, o1, none⟩) l.length c] 35 (0, 0)) :: T) hz
    refine rs_op rfl rfl (opR_callV rfl rfl (CallV.heap (fun w h => At.top [_, _, _] [2, 0, 1] h) (hcall.mono ?_)))
    rintro v H' ⟨rfl, rfl⟩
    (first | refine rs_ex rfl (by (first | (constructor <;> first | rfl | exact RdC.rd | exact inferInstance) | exact Ex.pickF rfl rfl | exact Ex.eqlS rfl rfl | exact Ex.neqS rfl rfl | exact Ex.eqlPN rfl rfl | exact Ex.neqPN rfl rfl | exact Ex.eqlSN rfl rfl | exact Ex.neqSN rfl rfl | exact Ex.lenStr rfl)) rfl ?_ | refine rs_skip rfl rfl ?_)
    refine rs_end ?_
    refine qe_then ?_
    refine ct_cond rfl (fun h14 => ?_) (fun h14 => ?_)
    · obtain ⟨j, hj⟩ : ∃ j, (step z x).2 = some j := by
        cases hj : (step z x).2 with
        | none => rw [hj] at h14; cases h14
        | some j => exact ⟨j, rfl⟩
      refine ct_ret ?_
      exact qe_heap (H' := Blk bs (.cells #[.slice (some ⟨b1, o1, none⟩) l.length c] 35 (0, 0)) :: gc (step z x).1 (step z x).2 :: T) (fun w h => At.top [_, _, _] [2, 0] h) (ret0 rfl ⟨l, Blk bs (.cells #[.slice (some ⟨b1, o1, none⟩) l.length c] 35 (0, 0)), rfl, by rw [← hruns, runs, hj]⟩)
    · have hj : (step z x).2 = none := by
        cases hj : (step z x).2 with
        | none => rfl
        | some j => rw [hj] at h14; cases h14
      rw [hj]
      refine ct_skip ?_
      refine qe_block 1 ?_
      refine qe_then ?_
      refine ct_region ?_
      (first | refine rs_ex rfl (by (first | (constructor <;> first | rfl | exact RdC.rd | exact inferInstance) | exact Ex.pickF rfl rfl | exact Ex.eqlS rfl rfl | exact Ex.neqS rfl rfl | exact Ex.eqlPN rfl rfl | exact Ex.neqPN rfl rfl | exact Ex.eqlSN rfl rfl | exact Ex.neqSN rfl rfl | exact Ex.lenStr rfl)) rfl ?_ | refine rs_skip rfl rfl ?_)
      refine rs_rw (by rw [wrapS (by omega)]) ?_
      (first | refine rs_ex rfl (by (first | (constructor <;> first | rfl | exact RdC.rd | exact inferInstance) | exact Ex.pickF rfl rfl | exact Ex.eqlS rfl rfl | exact Ex.neqS rfl rfl | exact Ex.eqlPN rfl rfl | exact Ex.neqPN rfl rfl | exact Ex.eqlSN rfl rfl | exact Ex.neqSN rfl rfl | exact Ex.lenStr rfl)) rfl ?_ | refine rs_skip rfl rfl ?_)
      refine rs_end ?_
      refine qe_loopc ((i + 1, (step z x).1)) (⟨hy.keeps _ _ _ hz hj, by simp only; omega, by rw [← hruns, runs, hj]⟩) (by first | omega | (simp only; omega)) ⟨rfl, rfl, rfl, rfl, trivial⟩ (fun w h => At.top [_, _, _] [2, 0] h)
  · have e : i = l.length := by simp at h8; omega
    subst e
    rw [List.drop_length] at hruns
    refine ct_exit ?_
    refine qe_then_exit ?_
    refine qe_loop_exit ?_
    refine qe_block_exit ?_
    refine qe_end ?_
    exact ret0 rfl ⟨l, Blk bs (.cells #[.slice p l.length c] 35 (0, 0)), rfl, by rw [← hruns]; rfl⟩
theorem All_in (W0 : World) (b : Nat) (u x y : Value) (p : Option Addr) (n c : Nat) (H : List Chunk) (hb : RdBlk (At W0 []) b #[u, .slice p n c, x, y]) :
    Call Try.prog W0 25 [.pointer (some ⟨b, 0, none⟩)] H (fun v H' => ∃ b, v = .func (.func 39) #[] #[.pointer (some ⟨b, 0, none⟩)] ∧ H' = Blk b (.cells #[.slice p n c] 35 (0, 0)) :: H) := by
  have hbH : RdC (At W0 H) b #[u, .slice p n c, x, y] := ⟨fun w hw => hb w hw.bare⟩
  refine call_enter Try.func25 rfl Try.ntmps25 rfl ?_

  refine ct_seq ?_
  refine ct_region ?_
  (first | refine rs_ex rfl (by (first | (constructor <;> first | rfl | exact RdC.rd | exact inferInstance) | exact Ex.pickF rfl rfl | exact Ex.eqlS rfl rfl | exact Ex.neqS rfl rfl | exact Ex.eqlPN rfl rfl | exact Ex.neqPN rfl rfl | exact Ex.eqlSN rfl rfl | exact Ex.neqSN rfl rfl | exact Ex.lenStr rfl)) rfl ?_ | refine rs_skip rfl rfl ?_)
  refine rs_end ?_
  refine qe_then ?_
  refine ct_seq ?_
  refine ct_seq ?_
  refine ct_region ?_
  iterate 2 (first | refine rs_ex rfl (by (first | (constructor <;> first | rfl | exact RdC.rd | exact inferInstance) | exact Ex.pickF rfl rfl | exact Ex.eqlS rfl rfl | exact Ex.neqS rfl rfl | exact Ex.eqlPN rfl rfl | exact Ex.neqPN rfl rfl | exact Ex.eqlSN rfl rfl | exact Ex.neqSN rfl rfl | exact Ex.lenStr rfl)) rfl ?_ | refine rs_skip rfl rfl ?_)
  refine rs_end ?_
  refine qe_then ?_
  refine ct_cond rfl (fun h4 => by cases h4) (fun h4 => ?_)
  refine ct_skip ?_
  refine qe_then ?_
  refine ct_seq ?_
  refine ct_region ?_
  iterate 4 (first | refine rs_ex rfl (by (first | (constructor <;> first | rfl | exact RdC.rd | exact inferInstance) | exact Ex.pickF rfl rfl | exact Ex.eqlS rfl rfl | exact Ex.neqS rfl rfl | exact Ex.eqlPN rfl rfl | exact Ex.neqPN rfl rfl | exact Ex.eqlSN rfl rfl | exact Ex.neqSN rfl rfl | exact Ex.lenStr rfl)) rfl ?_ | refine rs_skip rfl rfl ?_)
  refine rs_op rfl rfl (opR_fn rfl (Call.heap (fun w h => by (first | exact h | exact h.sw1 | exact h.sw2 | exact h.sw3 | exact h.sw4 | exact h.sw5 | exact h.sw6 | exact h.sw7 | exact h.sw8 | exact h.pull2 | exact h.pull3 | exact h.pull4 | exact h.pull5 | exact h.fit)) ((ValE_c W0 p n c _).mono ?_)))
  rintro v H' ⟨bl, rfl, rfl⟩
  (first | refine rs_ex rfl (by (first | (constructor <;> first | rfl | exact RdC.rd | exact inferInstance) | exact Ex.pickF rfl rfl | exact Ex.eqlS rfl rfl | exact Ex.neqS rfl rfl | exact Ex.eqlPN rfl rfl | exact Ex.neqPN rfl rfl | exact Ex.eqlSN rfl rfl | exact Ex.neqSN rfl rfl | exact Ex.lenStr rfl)) rfl ?_ | refine rs_skip rfl rfl ?_)
  refine rs_end ?_
  refine qe_then ?_
  refine ct_ret ?_
  exact ret1 rfl rfl ⟨_, rfl, rfl⟩
def erStep (z : List Era) (e : Era) : List Era × Option Code := if e.epoch = 0 then (z, some (.exit 0)) else (z ++ [e], none)
theorem runs_er : ∀ (l z : List Era), (∀ x ∈ l, x.epoch ≠ 0) → runs erStep z l = (z ++ l, none)
  | [], z, _ => by rw [runs, List.append_nil]
  | x :: l, z, h => by
    have hx := h x (by simp)
    have e : erStep z x = (z ++ [x], none) := by rw [erStep, if_neg hx]
    rw [runs, e]
    simp only
    rw [runs_er l (z ++ [x]) (fun y hy => h y (by simp [hy])), List.append_assoc]
    rfl
theorem Eras_in (W0 : World) (b : Nat) (u x y : Value) (p : Option Addr) (c : Nat) (l : List Era) (hb : RdBlk (At W0 []) b #[u, .slice p l.length c, x, y]) (hr : SlR (At W0 []) p l) (hl : l.length ≤ 1000) (h0 : ∀ x ∈ l, x.epoch ≠ 0) :
    Call Try.prog W0 12 [.pointer (some ⟨b, 0, none⟩)] [] (fun v H' => H' = [SlT 38 v l]) := by
  refine call_enterM Try.func12 rfl Try.ntmps12 rfl ?_

  refine ct_seq ?_
  refine ct_region ?_
  (first | refine rs_ex rfl (by (first | (constructor <;> first | rfl | exact RdC.rd | exact inferInstance) | exact Ex.pickF rfl rfl | exact Ex.eqlS rfl rfl | exact Ex.neqS rfl rfl | exact Ex.eqlPN rfl rfl | exact Ex.neqPN rfl rfl | exact Ex.eqlSN rfl rfl | exact Ex.neqSN rfl rfl | exact Ex.lenStr rfl)) rfl ?_ | refine rs_skip rfl rfl ?_)
  refine rs_end ?_
  refine qe_then ?_
  refine ct_scope ?_
  refine ct_seq ?_
  refine ct_region ?_
  refine rs_op rfl rfl (opR_alloc fun b3 => ?_)
  refine rs_end ?_
  refine qe_then ?_
  refine ct_seq ?_
  refine ct_label ?_
  refine qe_then ?_
  refine ct_seq ?_
  refine ct_seq ?_
  refine ct_region ?_
  (first | refine rs_ex rfl (by (first | (constructor <;> first | rfl | exact RdC.rd | exact inferInstance) | exact Ex.pickF rfl rfl | exact Ex.eqlS rfl rfl | exact Ex.neqS rfl rfl | exact Ex.eqlPN rfl rfl | exact Ex.neqPN rfl rfl | exact Ex.eqlSN rfl rfl | exact Ex.neqSN rfl rfl | exact Ex.lenStr rfl)) rfl ?_ | refine rs_skip rfl rfl ?_)
  refine rs_op rfl rfl (opR_fn rfl (Call.heap (fun w h => by (first | exact h | exact h.sw1 | exact h.sw2 | exact h.sw3 | exact h.sw4 | exact h.sw5 | exact h.sw6 | exact h.sw7 | exact h.sw8 | exact h.pull2 | exact h.pull3 | exact h.pull4 | exact h.pull5 | exact h.fit)) ((All_in W0 b u x y p l.length c _ hb).mono ?_)))
  rintro v H' ⟨bl, rfl, rfl⟩
  refine rs_end ?_
  refine qe_then ?_
  refine ct_block ?_
  refine ct_rangeFunc (ζ := List Era) (f := 39) (first := []) (cap := [.pointer (some ⟨bl, 0, none⟩)]) encEr (Blk bl (.cells #[.slice p l.length c] 35 (0, 0))) (fun z => [SlotC b3 35 38 z]) erStep (fun z xs => z.length + xs.length ≤ 1000 ∧ ∀ x ∈ xs, x.epoch ≠ 0) (fun xs => xs = l) ([]) rfl (fun _ => rfl) rfl (fun w h => At.sw1 (SlotC.shut (α := Era) (At.sw1 (At.slt_nil (α := Era) 38 (At.sw1 h))))) (fun y gc T hy => ValE1_c W0 y gc _ _ [] bl c p l T hy ⟨by simp; omega, h0⟩ hr (by omega)) ?_ ?_ ?_
  · rintro l' z x xs ⟨hz, hx0⟩ T2
    simp only [List.length_cons] at hz
    have hxe : x.epoch ≠ 0 := hx0 x (by simp)
    refine ct_sub (τ := [(7, _), (3, _)]) ⟨rfl, rfl, trivial⟩ ?_
    refine ct_app ?_
    refine ct_region ?_
    refine rs_op rfl rfl (opR_alloc fun b4 => ?_)
    refine rs_opN rfl (opR_store rfl rfl rfl rfl ?_)
    refine rs_end ?_
    refine qe_assignA (fun T' => ?_)
    refine ct_app ?_
    refine ct_ex (fun w h => SlotC.open (At.sw1 h)) ?_
    intro v
    refine ct_heap (H' := Blk b4 (.cells #[.int .u32 x.epoch, .int .i64 x.ver, .int .i64 x.start] 38 (0, 0)) :: Blk b3 (.cells #[v] 35 (0, 0)) :: SlT 38 v z :: T') (fun w h => At.sw2 h) ?_
    refine ct_block ?_
    refine ct_seq ?_
    refine ct_seq ?_
    refine ct_region ?_
    iterate 3 (first | refine rs_ex rfl (by (first | (constructor <;> first | rfl | exact RdC.rd | exact inferInstance) | exact Ex.pickF rfl rfl | exact Ex.eqlS rfl rfl | exact Ex.neqS rfl rfl | exact Ex.eqlPN rfl rfl | exact Ex.neqPN rfl rfl | exact Ex.eqlSN rfl rfl | exact Ex.neqSN rfl rfl | exact Ex.lenStr rfl)) rfl ?_ | refine rs_skip rfl rfl ?_)
    refine rs_end ?_
    refine qe_then ?_
    refine ct_cond rfl (fun h10 => by simp [hxe] at h10) (fun h10 => ?_)
    refine ct_skip ?_
    refine qe_then ?_
    refine ct_pr (fun w h => h.drop.drop.slv) ?_; rintro ⟨pv, cv, ev, hvv⟩
    subst ev
    refine ct_region ?_
    iterate 2 (first | refine rs_ex rfl (by (first | (constructor <;> first | rfl | exact RdC.rd | exact inferInstance) | exact Ex.pickF rfl rfl | exact Ex.eqlS rfl rfl | exact Ex.neqS rfl rfl | exact Ex.eqlPN rfl rfl | exact Ex.neqPN rfl rfl | exact Ex.eqlSN rfl rfl | exact Ex.neqSN rfl rfl | exact Ex.lenStr rfl)) rfl ?_ | refine rs_skip rfl rfl ?_)
    refine rs_op rfl rfl (opR_buildSlice rfl rfl rfl rfl fun b13 => ?_)
    refine rs_op rfl rfl (opR_append [x] rfl rfl (SlR.blk RdC.rd [x] rfl) rfl (by simp; omega) rfl fun p3 cap3 hv3 => ?_)
    refine rs_opN rfl (opR_store rfl rfl rfl rfl ?_)
    refine rs_end ?_
    refine qe_block 1 ?_
    have hst : erStep z x = (z ++ [x], none) := by rw [erStep, if_neg hxe]
    exact qe_heap (H' := SlotC b3 35 38 (z ++ [x]) :: T') (fun w h => SlotC.shut (At.top [_, _, _, _] [2, 3] h)) (qe_roundA ⟨by rw [hst], by rw [hst]⟩)
  · exact fun z x xs ⟨hz, hx0⟩ _ => ⟨by simp only [List.length_cons] at hz; rw [erStep, if_neg (hx0 x (by simp))]; simp; omega, fun y hy => hx0 y (by simp [hy])⟩
  · rintro xs db rfl
    rw [runs_er xs [] h0]
    refine qe_exs (fun w h => SlotC.open (At.sw1 h)) ?_
    intro v
    refine qe_heap (H' := Blk db (.deferred (some [])) :: Blk b3 (.cells #[v] 35 (0, 0)) :: SlT 38 v xs :: []) (fun w h => At.top [_, _, _] [2, 0, 1] h) ?_
    refine qe_block 0 ?_
    refine qe_then ?_
    refine ct_seq ?_
    refine ct_region ?_
    iterate 2 (first | refine rs_ex rfl (by (first | (constructor <;> first | rfl | exact RdC.rd | exact inferInstance) | exact Ex.pickF rfl rfl | exact Ex.eqlS rfl rfl | exact Ex.neqS rfl rfl | exact Ex.eqlPN rfl rfl | exact Ex.neqPN rfl rfl | exact Ex.eqlSN rfl rfl | exact Ex.neqSN rfl rfl | exact Ex.lenStr rfl)) rfl ?_ | refine rs_skip rfl rfl ?_)
    refine rs_end ?_
    refine qe_then ?_
    refine ct_ret ?_
    exact retM_mark (retM (qe_fit (ret1 rfl rfl rfl)))
end Go.Rost
