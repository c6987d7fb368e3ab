/- A state migrated. -/
import Derived.Test.YtebdfelodihdhaaDoorTs
namespace Go.Rost
open Go Go.RowKit Go.Proofs

theorem checkVer_known {x y : Int} (h : checkVer x y = 0) : known x = true ∧ known y = true := by
  unfold checkVer at h
  split at h
  · cases h
  · rename_i h1; simp at h1; exact h1
instance {a : Addr} {b : Bool} : CellsOf (errV a b) [errV a b] := ⟨by cases b <;> rfl⟩
theorem ones_err (a : Addr) (b : Bool) : ones [errV a b] = true := by cases b <;> rfl
def turnX (k : Stp) (s : Sta) : Option Sta := if k = ⟨1, 2⟩ then tn12 s else if k = ⟨2, 3⟩ then tn23 s else if k = ⟨3, 2⟩ then tn32 s else if k = ⟨2, 1⟩ then tn21 s else none
def migL : List Stp → Sta → Option Sta
  | [], s => some s
  | k :: l, s => match turnX k s with
    | some t => migL l t
    | none => none
def migV (s : Sta) (to : Int) : Sta × Int := if checkVer s.ver to ≠ 0 then (.zero, checkVer s.ver to) else if 1000 < s.data.size then (.zero, 132) else match migL (stepsL s.ver to) s with
  | some t => (t, 0)
  | none => (.zero, 132)
theorem turned_some {s t : Sta} {to : Int} {l : List UInt8} (h : turned s to l = some t) : t = ⟨to, s.cnt, toB l⟩ ∧ l.length ≤ 1000 := by
  unfold turned at h
  split at h
  · cases h; exact ⟨rfl, by assumption⟩
  · cases h
theorem turnX_some {k : Stp} {s t : Sta} (h : turnX k s = some t) : t.cnt = s.cnt ∧ t.ver = k.b ∧ t.data.size ≤ 1000 := by
  have fin : ∀ {to : Int} {l : List UInt8}, turned s to l = some t → k.b = to → t.cnt = s.cnt ∧ t.ver = k.b ∧ t.data.size ≤ 1000 := fun h e => by
    obtain ⟨rfl, hl⟩ := turned_some h
    exact ⟨rfl, e.symm, by rw [toB_size]; exact hl⟩
  unfold turnX at h
  split at h
  · rename_i hk; subst hk; exact fin h rfl
  · split at h
    · rename_i hk; subst hk; exact fin h rfl
    · split at h
      · rename_i hk; subst hk
        unfold tn32 at h
        split at h
        · exact fin h rfl
        · cases h
      · split at h
        · rename_i hk; subst hk
          unfold tn21 at h
          split at h
          · exact fin h rfl
          · cases h
        · cases h
def migStep (z : Sta × Bool) (k : Stp) : (Sta × Bool) × Option Code := match turnX k z.1 with
  | some t => ((t, false), none)
  | none => ((.zero, true), some (.exit 0))
theorem migStep_eq (z : Sta × Bool) (k : Stp) : (migStep z k).1 = (staV (turnX k z.1), (turnX k z.1).isNone) ∧ (migStep z k).2 = if (turnX k z.1).isNone then some (.exit 0) else none := by
  unfold migStep
  cases turnX k z.1 <;> exact ⟨rfl, rfl⟩
theorem runs_mig : ∀ (l : List Stp) (s : Sta) (e : Bool), (∀ t, migL l s = some t → ∃ e', runs migStep (s, e) l = ((t, e'), none) ∧ (l ≠ [] → e' = false) ∧ (l = [] → e' = e)) ∧ (migL l s = none → runs migStep (s, e) l = ((.zero, true), some (.exit 0)))
  | [], s, e => ⟨fun t h => by cases h; exact ⟨e, rfl, fun h => absurd rfl h, fun _ => rfl⟩, fun h => by cases h⟩
  | k :: l, s, e => by
    have ih := fun t => runs_mig l t false
    rw [runs]
    unfold migL migStep
    simp only
    cases hk : turnX k s with
    | none => exact ⟨fun t h => (by cases h), fun _ => rfl⟩
    | some u =>
      simp only
      refine ⟨fun t h => ?_, fun h => (ih u).2 h⟩
      obtain ⟨e', h1, h2, h3⟩ := (ih u).1 t h
      refine ⟨e', h1, fun _ => ?_, fun h => (by cases h)⟩
      by_cases hl : l = []
      · exact h3 hl
      · exact h2 hl
theorem runs_some {l : List Stp} {s t : Sta} (h : migL l s = some t) : runs migStep (s, false) l = ((t, false), none) := by
  obtain ⟨e', h1, h2, h3⟩ := (runs_mig l s false).1 t h
  rw [h1]
  by_cases hl : l = []
  · rw [h3 hl]
  · rw [h2 hl]
theorem runs_none {l : List Stp} {s : Sta} (h : migL l s = none) : runs migStep (s, false) l = ((.zero, true), some (.exit 0)) := (runs_mig l s false).2 h
/-- The steps that there are. -/
def Stp.Ok (k : Stp) : Prop := k = ⟨1, 2⟩ ∨ k = ⟨2, 3⟩ ∨ k = ⟨3, 2⟩ ∨ k = ⟨2, 1⟩
theorem turn_call (W0 : World) (a : Addr) (hg : RdBlk (At W0 []) 0 #[errF a]) (k : Stp) (hk : k.Ok) (s : Sta) (hs : s.data.size ≤ 1000) (hc : 0 ≤ s.cnt) :
    ∃ f, turnF k = some f ∧ ∀ H, CallV Tryd.prog W0 (fnV f) [s.v] H (TurnK a (turnX k s) H) := by
  rcases hk with rfl | rfl | rfl | rfl
  · exact ⟨51, rfl, fun H => CallV.of_call (first := []) (cap := []) (Turn12_c W0 a hg s H hs)⟩
  · exact ⟨53, rfl, fun H => CallV.of_call (first := []) (cap := []) (Turn23_c W0 a hg s H hs hc)⟩
  · exact ⟨55, rfl, fun H => CallV.of_call (first := []) (cap := []) (Turn32_c W0 a hg s H hs hc)⟩
  · exact ⟨57, rfl, fun H => CallV.of_call (first := []) (cap := []) (Turn21_c W0 a hg s H hs)⟩
theorem steps_ok {x y : Int} (h : checkVer x y = 0) : ∀ k ∈ stepsL x y, k.Ok := by
  have hx : known x = true := by
    unfold checkVer at h
    split at h
    · cases h
    · rename_i h1; simp at h1; exact h1.1
  have hy : known y = true := by
    unfold checkVer at h
    split at h
    · cases h
    · rename_i h1; simp at h1; exact h1.2
  rw [known_spec] at hx hy
  obtain rfl | rfl | rfl : x = 1 ∨ x = 2 ∨ x = 3 := by omega
  all_goals obtain rfl | rfl | rfl : y = 1 ∨ y = 2 ∨ y = 3 := by omega
  all_goals first | (simp [checkVer, known] at h; done) | (intro k hk; simp [stepsL, stepsFrom, dirOf] at hk; unfold Stp.Ok; simp_all; done) | (intro k hk; simp [stepsL, stepsFrom, dirOf] at hk; unfold Stp.Ok; rcases hk with rfl | rfl <;> simp)
theorem RightS_c (W0 : World) (s : Sta) (H : List Chunk) : Call Tryd.prog W0 17 [s.v] H (fun v H' => v = .bool (known s.ver && decide ((s.data.size : Int) ≤ 1000)) ∧ H' = H) := by
  refine call_enter Tryd.func17 rfl Tryd.ntmps17 rfl ?_

  refine ct_seq ?_
  refine ct_region ?_
  refine rs_op rfl rfl (opR_box rfl fun b1 => ?_)
  (first | refine rs_ex rfl (by (first | (constructor <;> first | rfl | exact RdC.rd | exact inferInstance) | exact Ex.pickF rfl rfl | exact Ex.eqlS rfl rfl | exact Ex.neqS rfl rfl | exact Ex.eqlPN rfl rfl | exact Ex.neqPN rfl rfl | exact Ex.eqlSN rfl rfl | exact Ex.neqSN rfl rfl | exact Ex.lenStr rfl)) rfl ?_ | refine rs_skip rfl rfl ?_)
  refine rs_end ?_
  refine qe_then ?_
  refine ct_seq ?_
  refine ct_region ?_
  iterate 2 (first | refine rs_ex rfl (by (first | (constructor <;> first | rfl | exact RdC.rd | exact inferInstance) | exact Ex.pickF rfl rfl | exact Ex.eqlS rfl rfl | exact Ex.neqS rfl rfl | exact Ex.eqlPN rfl rfl | exact Ex.neqPN rfl rfl | exact Ex.eqlSN rfl rfl | exact Ex.neqSN rfl rfl | exact Ex.lenStr rfl)) rfl ?_ | refine rs_skip rfl rfl ?_)
  refine rs_op rfl rfl (opR_fn rfl (Call.heap (fun w h => by (first | exact h | exact h.sw1 | exact h.sw2 | exact h.sw3 | exact h.sw4 | exact h.sw5 | exact h.sw6 | exact h.sw7 | exact h.sw8 | exact h.pull2 | exact h.pull3 | exact h.pull4 | exact h.pull5 | exact h.fit)) ((Known_c W0 s.ver _).mono ?_)))
  rintro v H' ⟨rfl, rfl⟩
  (first | refine rs_ex rfl (by (first | (constructor <;> first | rfl | exact RdC.rd | exact inferInstance) | exact Ex.pickF rfl rfl | exact Ex.eqlS rfl rfl | exact Ex.neqS rfl rfl | exact Ex.eqlPN rfl rfl | exact Ex.neqPN rfl rfl | exact Ex.eqlSN rfl rfl | exact Ex.neqSN rfl rfl | exact Ex.lenStr rfl)) rfl ?_ | refine rs_skip rfl rfl ?_)
  refine rs_split (fun h6 => ?_) (fun h6 => ?_)
  · iterate 6 (first | refine rs_ex rfl (by (first | (constructor <;> first | rfl | exact RdC.rd | exact inferInstance) | exact Ex.pickF rfl rfl | exact Ex.eqlS rfl rfl | exact Ex.neqS rfl rfl | exact Ex.eqlPN rfl rfl | exact Ex.neqPN rfl rfl | exact Ex.eqlSN rfl rfl | exact Ex.neqSN rfl rfl | exact Ex.lenStr rfl)) rfl ?_ | refine rs_skip rfl rfl ?_)
    refine rs_end ?_
    refine qe_then ?_
    refine ct_ret ?_
    exact qe_fit (ret1 rfl rfl ⟨by simp_all, rfl⟩)
  · iterate 6 (first | refine rs_ex rfl (by (first | (constructor <;> first | rfl | exact RdC.rd | exact inferInstance) | exact Ex.pickF rfl rfl | exact Ex.eqlS rfl rfl | exact Ex.neqS rfl rfl | exact Ex.eqlPN rfl rfl | exact Ex.neqPN rfl rfl | exact Ex.eqlSN rfl rfl | exact Ex.neqSN rfl rfl | exact Ex.lenStr rfl)) rfl ?_ | refine rs_skip rfl rfl ?_)
    refine rs_end ?_
    refine qe_then ?_
    refine ct_ret ?_
    exact qe_fit (ret1 rfl rfl ⟨by simp_all, rfl⟩)
theorem Migrate_in (W0 : World) (a : Addr) (hg : RdBlk (At W0 []) 0 #[errF a]) (s : Sta) (to : Int) (hc : 0 ≤ s.cnt) :
    Call Tryd.prog W0 15 [s.v, .int .i64 to] [] (fun v H' => v = .tuple #[(migV s to).1.v, .int .i64 (migV s to).2] ∧ H' = []) := by
  have hgB : RdC (At W0 []) 0 #[errF a] := ⟨hg⟩
  refine call_enterM Tryd.func15 rfl Tryd.ntmps15 rfl ?_

  refine ct_seq ?_
  refine ct_region ?_
  refine rs_op rfl rfl (opR_box rfl fun b2 => ?_)
  refine rs_op rfl rfl (opR_alloc fun b4 => ?_)
  (first | refine rs_ex rfl (by (first | (constructor <;> first | rfl | exact RdC.rd | exact inferInstance) | exact Ex.pickF rfl rfl | exact Ex.eqlS rfl rfl | exact Ex.neqS rfl rfl | exact Ex.eqlPN rfl rfl | exact Ex.neqPN rfl rfl | exact Ex.eqlSN rfl rfl | exact Ex.neqSN rfl rfl | exact Ex.lenStr rfl)) rfl ?_ | refine rs_skip rfl rfl ?_)
  refine rs_end ?_
  refine qe_then ?_
  refine ct_scope ?_
  refine ct_seq ?_
  refine ct_seq ?_
  refine ct_region ?_
  iterate 3 (first | refine rs_ex rfl (by (first | (constructor <;> first | rfl | exact RdC.rd | exact inferInstance) | exact Ex.pickF rfl rfl | exact Ex.eqlS rfl rfl | exact Ex.neqS rfl rfl | exact Ex.eqlPN rfl rfl | exact Ex.neqPN rfl rfl | exact Ex.eqlSN rfl rfl | exact Ex.neqSN rfl rfl | exact Ex.lenStr rfl)) rfl ?_ | refine rs_skip rfl rfl ?_)
  refine rs_op rfl rfl (opR_fn rfl (Call.heap (fun w h => by (first | exact h | exact h.sw1 | exact h.sw2 | exact h.sw3 | exact h.sw4 | exact h.sw5 | exact h.sw6 | exact h.sw7 | exact h.sw8 | exact h.pull2 | exact h.pull3 | exact h.pull4 | exact h.pull5 | exact h.fit)) ((Check_ver W0 s.ver to _).mono ?_)))
  rintro v H' ⟨rfl, rfl⟩
  (first | refine rs_ex rfl (by (first | (constructor <;> first | rfl | exact RdC.rd | exact inferInstance) | exact Ex.pickF rfl rfl | exact Ex.eqlS rfl rfl | exact Ex.neqS rfl rfl | exact Ex.eqlPN rfl rfl | exact Ex.neqPN rfl rfl | exact Ex.eqlSN rfl rfl | exact Ex.neqSN rfl rfl | exact Ex.lenStr rfl)) rfl ?_ | refine rs_skip rfl rfl ?_)
  refine rs_end ?_
  refine qe_then ?_
  refine ct_seq ?_
  refine ct_region ?_
  iterate 2 (first | refine rs_ex rfl (by (first | (constructor <;> first | rfl | exact RdC.rd | exact inferInstance) | exact Ex.pickF rfl rfl | exact Ex.eqlS rfl rfl | exact Ex.neqS rfl rfl | exact Ex.eqlPN rfl rfl | exact Ex.neqPN rfl rfl | exact Ex.eqlSN rfl rfl | exact Ex.neqSN rfl rfl | exact Ex.lenStr rfl)) rfl ?_ | refine rs_skip rfl rfl ?_)
  refine rs_end ?_
  refine qe_then ?_
  refine ct_cond rfl (fun h15 => ?_) (fun h15 => ?_)
  · have hv : migV s to = (.zero, checkVer s.ver to) := by rw [migV, if_pos]; simpa using h15
    refine ct_seq ?_
    refine ct_region ?_
    refine rs_ex rfl (ex_build rfl) rfl ?_
    (first | refine rs_ex rfl (by (first | (constructor <;> first | rfl | exact RdC.rd | exact inferInstance) | exact Ex.pickF rfl rfl | exact Ex.eqlS rfl rfl | exact Ex.neqS rfl rfl | exact Ex.eqlPN rfl rfl | exact Ex.neqPN rfl rfl | exact Ex.eqlSN rfl rfl | exact Ex.neqSN rfl rfl | exact Ex.lenStr rfl)) rfl ?_ | refine rs_skip rfl rfl ?_)
    refine rs_opN rfl (opR_store rfl rfl rfl rfl ?_)
    (first | refine rs_ex rfl (by (first | (constructor <;> first | rfl | exact RdC.rd | exact inferInstance) | exact Ex.pickF rfl rfl | exact Ex.eqlS rfl rfl | exact Ex.neqS rfl rfl | exact Ex.eqlPN rfl rfl | exact Ex.neqPN rfl rfl | exact Ex.eqlSN rfl rfl | exact Ex.neqSN rfl rfl | exact Ex.lenStr rfl)) rfl ?_ | refine rs_skip rfl rfl ?_)
    refine rs_end ?_
    refine qe_then ?_
    refine ct_ret ?_
    exact retM (retS3 rfl rfl rfl RdC.rd [] (fun w h => h.drop.drop) ⟨by rw [hv]; rfl, rfl⟩)
  · have hk : checkVer s.ver to = 0 := by simpa using h15
    refine ct_skip ?_
    refine qe_then ?_
    refine ct_seq ?_
    refine ct_seq ?_
    refine ct_region ?_
    (first | refine rs_ex rfl (by (first | (constructor <;> first | rfl | exact RdC.rd | exact inferInstance) | exact Ex.pickF rfl rfl | exact Ex.eqlS rfl rfl | exact Ex.neqS rfl rfl | exact Ex.eqlPN rfl rfl | exact Ex.neqPN rfl rfl | exact Ex.eqlSN rfl rfl | exact Ex.neqSN rfl rfl | exact Ex.lenStr rfl)) rfl ?_ | refine rs_skip rfl rfl ?_)
    refine rs_op rfl rfl (opR_fn rfl (Call.heap (fun w h => by (first | exact h | exact h.sw1 | exact h.sw2 | exact h.sw3 | exact h.sw4 | exact h.sw5 | exact h.sw6 | exact h.sw7 | exact h.sw8 | exact h.pull2 | exact h.pull3 | exact h.pull4 | exact h.pull5 | exact h.fit)) ((RightS_c W0 s _).mono ?_)))
    rintro v H' ⟨rfl, rfl⟩
    (first | refine rs_ex rfl (by (first | (constructor <;> first | rfl | exact RdC.rd | exact inferInstance) | exact Ex.pickF rfl rfl | exact Ex.eqlS rfl rfl | exact Ex.neqS rfl rfl | exact Ex.eqlPN rfl rfl | exact Ex.neqPN rfl rfl | exact Ex.eqlSN rfl rfl | exact Ex.neqSN rfl rfl | exact Ex.lenStr rfl)) rfl ?_ | refine rs_skip rfl rfl ?_)
    refine rs_end ?_
    refine qe_then ?_
    refine ct_cond rfl (fun h20 => ?_) (fun h20 => ?_)
    · have hkn := (checkVer_known hk).1
      have hv : migV s to = (.zero, 132) := by rw [migV, if_neg (by simp [hk]), if_pos]; simp [hkn] at h20; omega
      refine ct_seq ?_
      refine ct_region ?_
      refine rs_ex rfl (ex_build rfl) rfl ?_
      refine rs_opN rfl (opR_store rfl rfl rfl rfl ?_)
      (first | refine rs_ex rfl (by (first | (constructor <;> first | rfl | exact RdC.rd | exact inferInstance) | exact Ex.pickF rfl rfl | exact Ex.eqlS rfl rfl | exact Ex.neqS rfl rfl | exact Ex.eqlPN rfl rfl | exact Ex.neqPN rfl rfl | exact Ex.eqlSN rfl rfl | exact Ex.neqSN rfl rfl | exact Ex.lenStr rfl)) rfl ?_ | refine rs_skip rfl rfl ?_)
      refine rs_end ?_
      refine qe_then ?_
      refine ct_ret ?_
      exact retM (retS3 rfl rfl rfl RdC.rd [] (fun w h => h.drop.drop) ⟨by rw [hv]; rfl, rfl⟩)
    · have hkn := checkVer_known hk
      have hsz : s.data.size ≤ 1000 := by simp [hkn.1] at h20; omega
      have hv : migV s to = match migL (stepsL s.ver to) s with | some t => (t, 0) | none => (.zero, 132) := by rw [migV, if_neg (by simp [hk]), if_neg (by omega)]
      have hb1 := known_spec.1 hkn.1
      have hb2 := known_spec.1 hkn.2
      refine ct_skip ?_
      refine qe_then ?_
      refine ct_seq ?_
      refine ct_region ?_
      refine rs_op rfl rfl (opR_fn rfl (Call.heap (fun w h => by (first | exact h | exact h.sw1 | exact h.sw2 | exact h.sw3 | exact h.sw4 | exact h.sw5 | exact h.sw6 | exact h.sw7 | exact h.sw8 | exact h.pull2 | exact h.pull3 | exact h.pull4 | exact h.pull5 | exact h.fit)) ((Turns_c W0 _).mono ?_)))
      rintro v H' ⟨r, m, rfl, hm, rfl⟩
      refine rs_op rfl rfl (opR_alloc fun b7 => ?_)
      refine rs_opN rfl (opR_store rfl rfl rfl rfl ?_)
      refine rs_end ?_
      refine qe_then ?_
      refine ct_seq ?_
      refine ct_region ?_
      refine rs_op rfl rfl (opR_alloc fun b8 => ?_)
      refine rs_end ?_
      refine qe_then ?_
      refine ct_seq ?_
      refine ct_label ?_
      refine qe_then ?_
      refine ct_seq ?_
      refine ct_seq ?_
      refine ct_region ?_
      iterate 3 (first | refine rs_ex rfl (by (first | (constructor <;> first | rfl | exact RdC.rd | exact inferInstance) | exact Ex.pickF rfl rfl | exact Ex.eqlS rfl rfl | exact Ex.neqS rfl rfl | exact Ex.eqlPN rfl rfl | exact Ex.neqPN rfl rfl | exact Ex.eqlSN rfl rfl | exact Ex.neqSN rfl rfl | exact Ex.lenStr rfl)) rfl ?_ | refine rs_skip rfl rfl ?_)
      refine rs_op rfl rfl (opR_fn rfl (Call.heap (fun w h => by (first | exact h | exact h.sw1 | exact h.sw2 | exact h.sw3 | exact h.sw4 | exact h.sw5 | exact h.sw6 | exact h.sw7 | exact h.sw8 | exact h.pull2 | exact h.pull3 | exact h.pull4 | exact h.pull5 | exact h.fit)) ((Steps_c W0 s.ver to _).mono ?_)))
      rintro v H' ⟨bt, bf, rfl, rfl⟩
      refine rs_end ?_
      refine qe_then ?_
      refine ct_block ?_
      refine ct_rangeFunc (ζ := Sta × Bool) (f := 59) (first := []) (cap := [.pointer (some ⟨bt, 0, none⟩), .pointer (some ⟨bf, 0, none⟩)]) encS (stepsIt bt bf s.ver to) (fun z => [Blk b2 (.cells #[.int .i64 z.1.ver, .int .u32 z.1.cnt, .string z.1.data] 24 (0, 0)), Blk b8 (.cells #[errV a z.2] 66 (0, 0)), Blk b7 (.cells #[.map (some r)] 63 (0, 0)), MapC Stp.v fnV r m, Blk b4 (.cells #[.int .i64 0, .int .u32 0, .string ⟨#[]⟩] 24 (0, 0))]) migStep (fun z xs => (z.1.data.size ≤ 1000 ∧ 0 ≤ z.1.cnt) ∧ ∀ x ∈ xs, x.Ok) (fun xs => xs = stepsL s.ver to) ((s, false)) rfl (fun _ => rfl) rfl (fun w h => At.star.2 (show At W0 ([_, _] ++ [Blk b2 (.cells #[.int .i64 s.ver, .int .u32 s.cnt, .string s.data] 24 (0, 0)), Blk b8 (.cells #[errV a false] 66 (0, 0)), Blk b7 (.cells #[.map (some r)] 63 (0, 0)), MapC Stp.v fnV r m, Blk b4 (.cells #[.int .i64 0, .int .u32 0, .string ⟨#[]⟩] 24 (0, 0))]) w from At.top [_, _, _, _, _, _, _] [0, 1, 6, 2, 3, 4, 5] h)) (fun y gc T hy => Steps1_c W0 y gc _ _ (s, false) bt bf s.ver to T hy ⟨⟨hsz, hc⟩, steps_ok hk⟩ (by omega) (by omega)) ?_ ?_ ?_
      · rintro l' z x xs ⟨⟨hz, hzc⟩, hx0⟩ T2
        have hxo : x.Ok := hx0 x (by simp)
        obtain ⟨f, hf, hcall⟩ := turn_call W0 a hg x hxo z.1 hz hzc
        have hst := migStep_eq z x
        refine ct_sub (τ := [(27, _), (2, _), (7, _), (8, _)]) ⟨rfl, rfl, rfl, rfl, trivial⟩ ?_
        refine ct_app ?_
        refine ct_region ?_
        refine rs_op rfl rfl (opR_alloc fun b9 => ?_)
        refine rs_opN rfl (opR_store rfl rfl rfl rfl ?_)
        refine rs_end ?_
        refine qe_assignA (fun T' => ?_)
        refine ct_app ?_
        refine ct_block ?_
        refine ct_seq ?_
        refine ct_drawP [0, 3, 4] (by kernel_rfl) ?_
        refine ra_take 0 rfl (by kernel_rfl) (by kernel_rfl) rfl (by (first | (constructor <;> first | rfl | exact RdC.rd | exact inferInstance) | exact Ex.pickF rfl rfl | exact Ex.eqlS rfl rfl | exact Ex.neqS rfl rfl | exact Ex.eqlPN rfl rfl | exact Ex.neqPN rfl rfl | exact Ex.eqlSN rfl rfl | exact Ex.neqSN rfl rfl | exact Ex.lenStr rfl)) rfl (fun _ h => h.fit) ?_
        refine ra_take 1 rfl (by kernel_rfl) (by kernel_rfl) rfl (by (first | (constructor <;> first | rfl | exact RdC.rd | exact inferInstance) | exact Ex.pickF rfl rfl | exact Ex.eqlS rfl rfl | exact Ex.neqS rfl rfl | exact Ex.eqlPN rfl rfl | exact Ex.neqPN rfl rfl | exact Ex.eqlSN rfl rfl | exact Ex.neqSN rfl rfl | exact Ex.lenStr rfl)) rfl (fun _ h => h.fit) ?_
        refine ra_take 2 rfl (by kernel_rfl) (by kernel_rfl) rfl (ex_lookup (ek := Stp.v) (ev := fnV) (m := m) rfl x rfl inferInstance) rfl (fun _ h => h.fit) ?_
        refine ra_rw (by rw [hm, hf]) ?_
        refine ra_all (rs := [3]) (by kernel_rfl) rfl ?_
        refine each_op rfl rfl rfl (Ex.opR (by (first | (constructor <;> first | rfl | exact RdC.rd | exact inferInstance) | exact Ex.pickF rfl rfl | exact Ex.eqlS rfl rfl | exact Ex.neqS rfl rfl | exact Ex.eqlPN rfl rfl | exact Ex.neqPN rfl rfl | exact Ex.eqlSN rfl rfl | exact Ex.neqSN rfl rfl | exact Ex.lenStr rfl)) ?_) each_nil
        refine ⟨.inr (fun w h => h.fit), ?_⟩
        refine ra_all (rs := [4]) (by kernel_rfl) rfl ?_
        refine each_op rfl rfl rfl (opR_callV rfl rfl ((hcall _).mono (TurnK.elim ?_))) each_nil
        refine ⟨.inr (fun w h => h.fit), ?_⟩
        refine ra_take 5 rfl (by kernel_rfl) (by kernel_rfl) rfl (by (first | (constructor <;> first | rfl | exact RdC.rd | exact inferInstance) | exact Ex.pickF rfl rfl | exact Ex.eqlS rfl rfl | exact Ex.neqS rfl rfl | exact Ex.eqlPN rfl rfl | exact Ex.neqPN rfl rfl | exact Ex.eqlSN rfl rfl | exact Ex.neqSN rfl rfl | exact Ex.lenStr rfl)) rfl (fun _ h => h.fit) ?_
        refine ra_take 6 rfl (by kernel_rfl) (by kernel_rfl) rfl (by (first | (constructor <;> first | rfl | exact RdC.rd | exact inferInstance) | exact Ex.pickF rfl rfl | exact Ex.eqlS rfl rfl | exact Ex.neqS rfl rfl | exact Ex.eqlPN rfl rfl | exact Ex.neqPN rfl rfl | exact Ex.eqlSN rfl rfl | exact Ex.neqSN rfl rfl | exact Ex.lenStr rfl)) rfl (fun _ h => h.fit) ?_
        refine ra_take 7 rfl (by kernel_rfl) (by kernel_rfl) rfl (by (first | (constructor <;> first | rfl | exact RdC.rd | exact inferInstance) | exact Ex.pickF rfl rfl | exact Ex.eqlS rfl rfl | exact Ex.neqS rfl rfl | exact Ex.eqlPN rfl rfl | exact Ex.neqPN rfl rfl | exact Ex.eqlSN rfl rfl | exact Ex.neqSN rfl rfl | exact Ex.lenStr rfl)) rfl (fun _ h => h.fit) ?_
        refine ra_all (rs := [8]) (by kernel_rfl) rfl ?_
        refine each_opN rfl rfl (opR_store rfl rfl rfl rfl ?_) each_nil
        refine ⟨.inr (fun w h => h.fit), ?_⟩
        refine ra_all (rs := [9]) (by kernel_rfl) rfl ?_
        refine each_opN rfl rfl (opR_store rfl rfl rfl (ones_err _ _) ?_) each_nil
        refine ⟨.inl (by kernel_rfl), ?_⟩
        refine ra_end (by kernel_rfl) ?_
        refine qe_then ?_
        refine ct_seq ?_
        refine ct_region ?_
        (first | refine rs_ex rfl (by (first | (constructor <;> first | rfl | exact RdC.rd | exact inferInstance) | exact Ex.pickF rfl rfl | exact Ex.eqlS rfl rfl | exact Ex.neqS rfl rfl | exact Ex.eqlPN rfl rfl | exact Ex.neqPN rfl rfl | exact Ex.eqlSN rfl rfl | exact Ex.neqSN rfl rfl | exact Ex.lenStr rfl)) rfl ?_ | refine rs_skip rfl rfl ?_)
        refine rs_ex rfl (ex_errNil rfl) rfl ?_
        refine rs_end ?_
        refine qe_then ?_
        refine ct_cond rfl (fun h37 => ?_) (fun h37 => ?_)
        · refine ct_exit ?_
          refine qe_block_exit_ne rfl ?_
          have e1 : (turnX x z.1).isNone = true := h37
          refine qe_heap (fun w h => h.drop) (qe_round_exit _ (fun w h => h) ⟨by rw [hst.2, e1]; rfl, by rw [hst.1]⟩)
        · refine ct_skip ?_
          refine qe_block 1 ?_
          have e1 : (turnX x z.1).isNone = false := h37
          exact qe_heap (fun w h => h.drop) (qe_roundA ⟨by rw [hst.2, e1]; rfl, by rw [hst.1]⟩)
      · rintro z x xs ⟨⟨hz, hzc⟩, hx0⟩ hn
        have hst := migStep_eq z x
        rw [hst.2] at hn
        cases ht : turnX x z.1 with
        | none => rw [ht] at hn; cases hn
        | some t =>
          have h1 := turnX_some ht
          rw [hst.1, ht]
          exact ⟨⟨h1.2.2, by show 0 ≤ t.cnt; rw [h1.1]; exact hzc⟩, fun y hy => hx0 y (by simp [hy])⟩
      · rintro xs db rfl
        rcases hmg : migL (stepsL s.ver to) s with _ | t
        · rw [runs_none hmg]
          refine ct_heap (H' := Blk db (.deferred (some [])) :: [Blk b2 (.cells #[.int .i64 0, .int .u32 0, .string ⟨#[]⟩] 24 (0, 0)), Blk b8 (.cells #[errV a true] 66 (0, 0)), Blk b7 (.cells #[.map (some r)] 63 (0, 0)), MapC Stp.v fnV r m, Blk b4 (.cells #[.int .i64 0, .int .u32 0, .string ⟨#[]⟩] 24 (0, 0))]) (fun w h => h) ?_
          refine ct_exit ?_
          refine qe_block_exit ?_
          refine qe_then ?_
          refine ct_seq ?_
          refine ct_seq ?_
          refine ct_region ?_
          iterate 2 (first | refine rs_ex rfl (by (first | (constructor <;> first | rfl | exact RdC.rd | exact inferInstance) | exact Ex.pickF rfl rfl | exact Ex.eqlS rfl rfl | exact Ex.neqS rfl rfl | exact Ex.eqlPN rfl rfl | exact Ex.neqPN rfl rfl | exact Ex.eqlSN rfl rfl | exact Ex.neqSN rfl rfl | exact Ex.lenStr rfl)) rfl ?_ | refine rs_skip rfl rfl ?_)
          refine rs_op rfl rfl (opR_fn rfl (Call.heap (fun w h => by (first | exact h | exact h.sw1 | exact h.sw2 | exact h.sw3 | exact h.sw4 | exact h.sw5 | exact h.sw6 | exact h.sw7 | exact h.sw8 | exact h.pull2 | exact h.pull3 | exact h.pull4 | exact h.pull5 | exact h.fit)) ((Is_c W0 a _ _).mono ?_)))
          rintro v H' ⟨rfl, rfl⟩
          refine rs_end ?_
          refine qe_then ?_
          refine ct_cond rfl (fun h40 => ?_) (fun h40 => ?_)
          · refine ct_seq ?_
            refine ct_region ?_
            refine rs_ex rfl (ex_build rfl) rfl ?_
            refine rs_opN rfl (opR_store rfl rfl rfl rfl ?_)
            (first | refine rs_ex rfl (by (first | (constructor <;> first | rfl | exact RdC.rd | exact inferInstance) | exact Ex.pickF rfl rfl | exact Ex.eqlS rfl rfl | exact Ex.neqS rfl rfl | exact Ex.eqlPN rfl rfl | exact Ex.neqPN rfl rfl | exact Ex.eqlSN rfl rfl | exact Ex.neqSN rfl rfl | exact Ex.lenStr rfl)) rfl ?_ | refine rs_skip rfl rfl ?_)
            refine rs_end ?_
            refine qe_then ?_
            refine ct_ret ?_
            exact retM_mark (retM (retS3 rfl rfl rfl RdC.rd [] (fun w h => h.fit) (by first | exact absurd h40 (by decide) | exact ⟨by rw [hv, hmg]; rfl, rfl⟩)))
          · refine ct_skip ?_
            refine qe_then ?_
            refine ct_seq ?_
            refine ct_region ?_
            (first | refine rs_ex rfl (by (first | (constructor <;> first | rfl | exact RdC.rd | exact inferInstance) | exact Ex.pickF rfl rfl | exact Ex.eqlS rfl rfl | exact Ex.neqS rfl rfl | exact Ex.eqlPN rfl rfl | exact Ex.neqPN rfl rfl | exact Ex.eqlSN rfl rfl | exact Ex.neqSN rfl rfl | exact Ex.lenStr rfl)) rfl ?_ | refine rs_skip rfl rfl ?_)
            refine rs_opN rfl (opR_store rfl rfl rfl rfl ?_)
            (first | refine rs_ex rfl (by (first | (constructor <;> first | rfl | exact RdC.rd | exact inferInstance) | exact Ex.pickF rfl rfl | exact Ex.eqlS rfl rfl | exact Ex.neqS rfl rfl | exact Ex.eqlPN rfl rfl | exact Ex.neqPN rfl rfl | exact Ex.eqlSN rfl rfl | exact Ex.neqSN rfl rfl | exact Ex.lenStr rfl)) rfl ?_ | refine rs_skip rfl rfl ?_)
            refine rs_end ?_
            refine qe_then ?_
            refine ct_ret ?_
            exact retM_mark (retM (retS3 rfl rfl rfl RdC.rd [] (fun w h => h.fit) (by first | exact absurd h40 (by decide) | exact ⟨by rw [hv, hmg]; rfl, rfl⟩)))
        · rw [runs_some hmg]
          refine qe_heap (H' := Blk db (.deferred (some [])) :: [Blk b2 (.cells #[.int .i64 t.ver, .int .u32 t.cnt, .string t.data] 24 (0, 0)), Blk b8 (.cells #[errV a false] 66 (0, 0)), Blk b7 (.cells #[.map (some r)] 63 (0, 0)), MapC Stp.v fnV r m, Blk b4 (.cells #[.int .i64 0, .int .u32 0, .string ⟨#[]⟩] 24 (0, 0))]) (fun w h => h) ?_
          refine qe_block 0 ?_
          refine qe_then ?_
          refine ct_seq ?_
          refine ct_seq ?_
          refine ct_region ?_
          iterate 2 (first | refine rs_ex rfl (by (first | (constructor <;> first | rfl | exact RdC.rd | exact inferInstance) | exact Ex.pickF rfl rfl | exact Ex.eqlS rfl rfl | exact Ex.neqS rfl rfl | exact Ex.eqlPN rfl rfl | exact Ex.neqPN rfl rfl | exact Ex.eqlSN rfl rfl | exact Ex.neqSN rfl rfl | exact Ex.lenStr rfl)) rfl ?_ | refine rs_skip rfl rfl ?_)
          refine rs_op rfl rfl (opR_fn rfl (Call.heap (fun w h => by (first | exact h | exact h.sw1 | exact h.sw2 | exact h.sw3 | exact h.sw4 | exact h.sw5 | exact h.sw6 | exact h.sw7 | exact h.sw8 | exact h.pull2 | exact h.pull3 | exact h.pull4 | exact h.pull5 | exact h.fit)) ((Is_c W0 a _ _).mono ?_)))
          rintro v H' ⟨rfl, rfl⟩
          refine rs_end ?_
          refine qe_then ?_
          refine ct_cond rfl (fun h40 => ?_) (fun h40 => ?_)
          · refine ct_seq ?_
            refine ct_region ?_
            refine rs_ex rfl (ex_build rfl) rfl ?_
            refine rs_opN rfl (opR_store rfl rfl rfl rfl ?_)
            (first | refine rs_ex rfl (by (first | (constructor <;> first | rfl | exact RdC.rd | exact inferInstance) | exact Ex.pickF rfl rfl | exact Ex.eqlS rfl rfl | exact Ex.neqS rfl rfl | exact Ex.eqlPN rfl rfl | exact Ex.neqPN rfl rfl | exact Ex.eqlSN rfl rfl | exact Ex.neqSN rfl rfl | exact Ex.lenStr rfl)) rfl ?_ | refine rs_skip rfl rfl ?_)
            refine rs_end ?_
            refine qe_then ?_
            refine ct_ret ?_
            exact retM_mark (retM (retS3 rfl rfl rfl RdC.rd [] (fun w h => h.fit) (by first | exact absurd h40 (by decide) | exact ⟨by rw [hv, hmg]; rfl, rfl⟩)))
          · refine ct_skip ?_
            refine qe_then ?_
            refine ct_seq ?_
            refine ct_region ?_
            (first | refine rs_ex rfl (by (first | (constructor <;> first | rfl | exact RdC.rd | exact inferInstance) | exact Ex.pickF rfl rfl | exact Ex.eqlS rfl rfl | exact Ex.neqS rfl rfl | exact Ex.eqlPN rfl rfl | exact Ex.neqPN rfl rfl | exact Ex.eqlSN rfl rfl | exact Ex.neqSN rfl rfl | exact Ex.lenStr rfl)) rfl ?_ | refine rs_skip rfl rfl ?_)
            refine rs_opN rfl (opR_store rfl rfl rfl rfl ?_)
            (first | refine rs_ex rfl (by (first | (constructor <;> first | rfl | exact RdC.rd | exact inferInstance) | exact Ex.pickF rfl rfl | exact Ex.eqlS rfl rfl | exact Ex.neqS rfl rfl | exact Ex.eqlPN rfl rfl | exact Ex.neqPN rfl rfl | exact Ex.eqlSN rfl rfl | exact Ex.neqSN rfl rfl | exact Ex.lenStr rfl)) rfl ?_ | refine rs_skip rfl rfl ?_)
            refine rs_end ?_
            refine qe_then ?_
            refine ct_ret ?_
            exact retM_mark (retM (retS3 rfl rfl rfl RdC.rd [] (fun w h => h.fit) (by first | exact absurd h40 (by decide) | exact ⟨by rw [hv, hmg]; rfl, rfl⟩)))
end Go.Rost
