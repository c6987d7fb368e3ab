/- The law SequenceAll: what it does. -/
import Derived.Test.YtdjjfmoknncojaaBy
namespace Go.Rost
open Go Go.RowKit Go.Proofs

/-- Which comes as the i-th. -/
def allIdx (k u : Nat) (bk : Bool) (i : Nat) : Nat := if bk = true then k - 1 - (i + u) % k else (i + u) % k
theorem allIdx_lt {k u i : Nat} {bk : Bool} (hk : 0 < k) : allIdx k u bk i < k := by
  have := Nat.mod_lt (i + u) hk
  unfold allIdx
  split <;> omega
theorem mod_onto {k m : Nat} (u : Nat) (hm : m < k) : ∃ j, j < k ∧ (j + u) % k = m := by
  have hr := Nat.mod_lt u (show 0 < k by omega)
  have key : ∀ j, (j + u) % k = (j + u % k) % k := fun j => by rw [Nat.add_mod_mod]
  by_cases h : u % k ≤ m
  · refine ⟨m - u % k, by omega, ?_⟩
    rw [key, show m - u % k + u % k = m by omega, Nat.mod_eq_of_lt hm]
  · refine ⟨m + k - u % k, by omega, ?_⟩
    rw [key, show m + k - u % k + u % k = m + k by omega, Nat.add_mod_right, Nat.mod_eq_of_lt hm]
theorem allIdx_onto {k m : Nat} (u : Nat) (bk : Bool) (hm : m < k) : ∃ j, j < k ∧ allIdx k u bk j = m := by
  unfold allIdx
  cases bk with
  | false => obtain ⟨j, h1, h2⟩ := mod_onto u hm; exact ⟨j, h1, by simpa using h2⟩
  | true =>
    obtain ⟨j, h1, h2⟩ := mod_onto u (show k - 1 - m < k by omega)
    exact ⟨j, h1, by rw [if_pos rfl, h2]; omega⟩
structure AllI (k : Nat) (idx : Nat → Nat) (i : Nat) (f : Fol) (a : List Msg) : Prop where
  fam : Fam 1 gS k f a
  ok : f.Ok (2 * i)
  fb : FamB 2 gT k f.b
  bl : f.b.length ≤ i
  hs : ∀ j, j < i → ((⟨1, (idx j : Int) + 1⟩, gS (idx j)) : Plc × Msg) ∈ numd 1 1 a ++ f.w
  ht : ∀ j, j < i → ((⟨2, (idx j : Int) + 1⟩, gT (idx j)) : Plc × Msg) ∈ f.b
def nS (q : Nat) : Numb := ⟨1, (q : Int) + 1, gS q⟩
def nT (q : Nat) : Numb := ⟨2, (q : Int) + 1, gT q⟩
theorem AllI.new (k : Nat) (idx : Nat → Nat) : AllI k idx 0 ⟨1, 1, [], []⟩ [] := ⟨⟨rfl, rfl, fun q h => by cases h⟩, Fol.ok_new 1, (fun q h => by cases h), Nat.le_refl _, fun j h => by omega, fun j h => by omega⟩
theorem AllI.one {k : Nat} {idx : Nat → Nat} {i : Nat} {f : Fol} {a : List Msg} (h : AllI k idx i f a) (hk : k ≤ 20) (hi : i < k) (hq : idx i < k) :
    (f.recv (nS (idx i))).1.2 = 0 ∧ (a ++ (f.recv (nS (idx i))).1.1).length ≤ k ∧ (f.recv (nS (idx i))).2.w.length ≤ 100 ∧ ((f.recv (nS (idx i))).2.recv (nT (idx i))).1 = ([], 0) ∧ AllI k idx (i + 1) ((f.recv (nS (idx i))).2.recv (nT (idx i))).2 (a ++ (f.recv (nS (idx i))).1.1) := by
  have s := h.fam.recv h.ok (by omega) hq (gS_right (by omega))
  have ok2 := h.ok.recv (by omega) (nS (idx i)) (by show (0 : Int) ≤ (idx i : Int) + 1; omega)
  have ok3 := ok2.recv (by omega) (nT (idx i)) (by show (0 : Int) ≤ (idx i : Int) + 1; omega)
  have hfe := s.fam.e
  have hlate := recv_late (f := (f.recv (nS (idx i))).2) (x := nT (idx i)) (gT_right (by omega)) (by show (idx i : Int) + 1 ≠ 0; omega) (by show (f.recv (nS (idx i))).2.e < 2; rw [show (f.recv (nS (idx i))).2.e = 1 from hfe]; decide)
  have hb : (f.recv (nS (idx i))).2.b = f.b := s.b
  have hbl := h.bl
  have hb64 : (f.recv (nS (idx i))).2.b.length < 64 := by rw [hb]; omega
  rw [if_pos hb64, hb] at hlate
  have kl := keep_len f.b ⟨(nT (idx i)).e, (nT (idx i)).n⟩ (nT (idx i)).m
  refine ⟨s.code, s.fam.len, by have := ok2.n1; have := ok2.n0; omega, by rw [hlate], ?_⟩
  rw [hlate] at ok3 ⊢
  simp only at ok3 ⊢
  have hfb : FamB 2 gT k (keep f.b ⟨(nT (idx i)).e, (nT (idx i)).n⟩ (nT (idx i)).m) := by
    have := h.fb.keep hq
    rw [if_pos (by omega)] at this
    exact this
  refine ⟨⟨s.fam.e, s.fam.nx, s.fam.all⟩, ok3.mono (by omega), hfb, by simp only; omega, fun j hj => ?_, fun j hj => ?_⟩
  · by_cases e : j = i
    · subst e; exact s.has
    · exact s.sub _ (h.hs j (by omega))
  · by_cases e : j = i
    · subst e
      obtain ⟨m', hm'⟩ := keep_key (l := f.b) (⟨(nT (idx j)).e, (nT (idx j)).n⟩ : Plc) (nT (idx j)).m
      obtain ⟨p, _, hp⟩ := hfb _ hm'
      have h1 := congrArg (fun q : Plc × Msg => q.1.n) hp
      have h2 := congrArg (fun q : Plc × Msg => q.2) hp
      simp only [nT] at h1 h2
      have : p = idx j := by omega
      subst this
      rw [h2] at hm'
      exact hm'
    · exact keep_sub (h.ht j (by omega))
theorem AllI.done {k u : Nat} {bk : Bool} {f : Fol} {a : List Msg} (h : AllI k (allIdx k u bk) k f a) (hk : k ≤ 20) {l : List Numb} (hp : l.Perm ((ofE 2 f.b).map toN)) :
    a.length = k ∧ ((f.moved 2).recvs l).1.length = k := by
  refine ⟨h.fam.full h.ok.dry fun m hm => ?_, ?_⟩
  · obtain ⟨j, hj, e⟩ := allIdx_onto u bk hm
    rw [← e]
    exact h.hs j hj
  · obtain ⟨m1, m2, _, m4⟩ := Fam.move (g := gT) (n := k) (fun i h => gT_right (by omega)) h.ok h.fb hp
    refine m1.full m2.dry fun m hm => m4 _ ?_
    obtain ⟨j, hj, e⟩ := allIdx_onto u bk hm
    rw [← e]
    exact h.ht j hj
theorem SequenceAll_c (W0 : World) (n turn : Int) (bk : Bool) : Call Try.prog W0 15 [.int .i64 n, .int .i64 turn, .bool bk] [] (fun v _ => v = .bool true) := by
  refine call_enter Try.func15 rfl Try.ntmps15 rfl ?_

  refine ct_seq ?_
  refine ct_region ?_
  (first | refine rs_ex rfl (by (first | (constructor <;> first | rfl | exact RdC.rd | exact inferInstance) | exact Ex.pickF rfl rfl | exact Ex.eqlS rfl rfl | exact Ex.neqS rfl rfl | exact Ex.eqlPN rfl rfl | exact Ex.neqPN rfl rfl | exact Ex.eqlSN rfl rfl | exact Ex.neqSN rfl rfl | exact Ex.lenStr rfl)) rfl ?_ | refine rs_skip rfl rfl ?_)
  refine rs_end ?_
  refine qe_then ?_
  refine ct_seq ?_
  refine ct_region ?_
  refine rs_op rfl rfl (opR_fn rfl (Call.heap (fun w h => by (first | exact h | exact h.sw1 | exact h.sw2 | exact h.sw3 | exact h.sw4 | exact h.sw5 | exact h.sw6 | exact h.sw7 | exact h.sw8 | exact h.pull2 | exact h.pull3 | exact h.pull4 | exact h.pull5 | exact h.fit)) ((Shown11_c W0 _).mono ?_)))
  rintro v H' ⟨rfl, rfl⟩
  (first | refine rs_ex rfl (by (first | (constructor <;> first | rfl | exact RdC.rd | exact inferInstance) | exact Ex.pickF rfl rfl | exact Ex.eqlS rfl rfl | exact Ex.neqS rfl rfl | exact Ex.eqlPN rfl rfl | exact Ex.neqPN rfl rfl | exact Ex.eqlSN rfl rfl | exact Ex.neqSN rfl rfl | exact Ex.lenStr rfl)) rfl ?_ | refine rs_skip rfl rfl ?_)
  refine rs_end ?_
  refine qe_then ?_
  refine ct_seq ?_
  refine ct_seq ?_
  refine ct_region ?_
  iterate 3 (first | refine rs_ex rfl (by (first | (constructor <;> first | rfl | exact RdC.rd | exact inferInstance) | exact Ex.pickF rfl rfl | exact Ex.eqlS rfl rfl | exact Ex.neqS rfl rfl | exact Ex.eqlPN rfl rfl | exact Ex.neqPN rfl rfl | exact Ex.eqlSN rfl rfl | exact Ex.neqSN rfl rfl | exact Ex.lenStr rfl)) rfl ?_ | refine rs_skip rfl rfl ?_)
  refine rs_split (fun h23 => ?_) (fun h23 => ?_)
  · iterate 3 (first | refine rs_ex rfl (by (first | (constructor <;> first | rfl | exact RdC.rd | exact inferInstance) | exact Ex.pickF rfl rfl | exact Ex.eqlS rfl rfl | exact Ex.neqS rfl rfl | exact Ex.eqlPN rfl rfl | exact Ex.neqPN rfl rfl | exact Ex.eqlSN rfl rfl | exact Ex.neqSN rfl rfl | exact Ex.lenStr rfl)) rfl ?_ | refine rs_skip rfl rfl ?_)
    refine rs_end ?_
    refine qe_then ?_
    refine ct_cond rfl (fun _ => ?_) (fun h => absurd h (by decide))
    refine ct_seq ?_
    refine ct_region ?_
    iterate 2 (first | refine rs_ex rfl (by (first | (constructor <;> first | rfl | exact RdC.rd | exact inferInstance) | exact Ex.pickF rfl rfl | exact Ex.eqlS rfl rfl | exact Ex.neqS rfl rfl | exact Ex.eqlPN rfl rfl | exact Ex.neqPN rfl rfl | exact Ex.eqlSN rfl rfl | exact Ex.neqSN rfl rfl | exact Ex.lenStr rfl)) rfl ?_ | refine rs_skip rfl rfl ?_)
    refine rs_end ?_
    refine qe_then ?_
    refine ct_ret ?_
    exact ret1 rfl rfl rfl
  · iterate 3 (first | refine rs_ex rfl (by (first | (constructor <;> first | rfl | exact RdC.rd | exact inferInstance) | exact Ex.pickF rfl rfl | exact Ex.eqlS rfl rfl | exact Ex.neqS rfl rfl | exact Ex.eqlPN rfl rfl | exact Ex.neqPN rfl rfl | exact Ex.eqlSN rfl rfl | exact Ex.neqSN rfl rfl | exact Ex.lenStr rfl)) rfl ?_ | refine rs_skip rfl rfl ?_)
    refine rs_end ?_
    refine qe_then ?_
    refine ct_cond rfl (fun h26 => ?_) (fun h26 => ?_)
    · refine ct_seq ?_
      refine ct_region ?_
      iterate 2 (first | refine rs_ex rfl (by (first | (constructor <;> first | rfl | exact RdC.rd | exact inferInstance) | exact Ex.pickF rfl rfl | exact Ex.eqlS rfl rfl | exact Ex.neqS rfl rfl | exact Ex.eqlPN rfl rfl | exact Ex.neqPN rfl rfl | exact Ex.eqlSN rfl rfl | exact Ex.neqSN rfl rfl | exact Ex.lenStr rfl)) rfl ?_ | refine rs_skip rfl rfl ?_)
      refine rs_end ?_
      refine qe_then ?_
      refine ct_ret ?_
      exact ret1 rfl rfl rfl
    · refine ct_skip ?_
      refine qe_then ?_
      refine ct_seq ?_
      have hn : 1 ≤ n ∧ n ≤ 20 := by simp at h23 h26; omega
      obtain ⟨k, rfl⟩ : ∃ k : Nat, n = (k : Int) := ⟨n.toNat, by omega⟩
      have hwr := wrapU64_range turn
      obtain ⟨u, hu, hu20⟩ : ∃ u : Nat, (IntKind.u64.wrap turn).tmod 20 = (u : Int) ∧ u < 20 := by
        obtain ⟨q, hq⟩ : ∃ q : Nat, IntKind.u64.wrap turn = (q : Int) := ⟨(IntKind.u64.wrap turn).toNat, by omega⟩
        rw [hq]
        exact ⟨q % 20, tmod_nat (b := 20), Nat.mod_lt _ (by omega)⟩
      have ls := fam_len 1 gS k
      have lt := fam_len 2 gT k
      refine ct_region ?_
      (first | refine rs_ex rfl (by (first | (constructor <;> first | rfl | exact RdC.rd | exact inferInstance) | exact Ex.pickF rfl rfl | exact Ex.eqlS rfl rfl | exact Ex.neqS rfl rfl | exact Ex.eqlPN rfl rfl | exact Ex.neqPN rfl rfl | exact Ex.eqlSN rfl rfl | exact Ex.neqSN rfl rfl | exact Ex.lenStr rfl)) rfl ?_ | refine rs_skip rfl rfl ?_)
      refine rs_op rfl rfl (opR_fn rfl (Call.heap (fun w h => by (first | exact h | exact h.sw1 | exact h.sw2 | exact h.sw3 | exact h.sw4 | exact h.sw5 | exact h.sw6 | exact h.sw7 | exact h.sw8 | exact h.pull2 | exact h.pull3 | exact h.pull4 | exact h.pull5 | exact h.fit)) ((Both_c W0 k _ (by omega)).mono ?_)))
      rintro v H' ⟨u1, u2, rfl, rfl⟩
      refine rs_prp (fun w h => h.slv) ?_; rintro ⟨ps, ks, es, hvs⟩
      subst es
      refine rs_prp (fun w h => h.drop.slv) ?_; rintro ⟨pt, kt, et, hvt⟩
      subst et
      obtain ⟨bls, rfl⟩ := hvs.some (i := 0) (by omega)
      obtain ⟨blt, rfl⟩ := hvt.some (i := 0) (by omega)
      iterate 5 (first | refine rs_ex rfl (by (first | (constructor <;> first | rfl | exact RdC.rd | exact inferInstance) | exact Ex.pickF rfl rfl | exact Ex.eqlS rfl rfl | exact Ex.neqS rfl rfl | exact Ex.eqlPN rfl rfl | exact Ex.neqPN rfl rfl | exact Ex.eqlSN rfl rfl | exact Ex.neqSN rfl rfl | exact Ex.lenStr rfl)) rfl ?_ | refine rs_skip rfl rfl ?_)
      refine rs_end ?_
      refine qe_then ?_
      refine ct_seq ?_
      refine ct_seq ?_
      refine ct_region ?_
      iterate 5 (first | refine rs_ex rfl (by (first | (constructor <;> first | rfl | exact RdC.rd | exact inferInstance) | exact Ex.pickF rfl rfl | exact Ex.eqlS rfl rfl | exact Ex.neqS rfl rfl | exact Ex.eqlPN rfl rfl | exact Ex.neqPN rfl rfl | exact Ex.eqlSN rfl rfl | exact Ex.neqSN rfl rfl | exact Ex.lenStr rfl)) rfl ?_ | refine rs_skip rfl rfl ?_)
      refine rs_split (fun h37 => by exfalso; simp at h37; omega) (fun h37 => ?_)
      iterate 5 (first | refine rs_ex rfl (by (first | (constructor <;> first | rfl | exact RdC.rd | exact inferInstance) | exact Ex.pickF rfl rfl | exact Ex.eqlS rfl rfl | exact Ex.neqS rfl rfl | exact Ex.eqlPN rfl rfl | exact Ex.neqPN rfl rfl | exact Ex.eqlSN rfl rfl | exact Ex.neqSN rfl rfl | exact Ex.lenStr rfl)) rfl ?_ | refine rs_skip rfl rfl ?_)
      refine rs_end ?_
      refine qe_then ?_
      refine ct_cond rfl (fun h42 => by exfalso; simp at h42; omega) (fun h42 => ?_)
      refine ct_skip ?_
      refine qe_then ?_
      refine ct_seq ?_
      refine ct_region ?_
      refine rs_op rfl rfl (opR_fn rfl (Call.heap (fun w h => by (first | exact h | exact h.sw1 | exact h.sw2 | exact h.sw3 | exact h.sw4 | exact h.sw5 | exact h.sw6 | exact h.sw7 | exact h.sw8 | exact h.pull2 | exact h.pull3 | exact h.pull4 | exact h.pull5 | exact h.fit)) ((NewFol_c W0 1 _).mono ?_)))
      rintro v H' ⟨bf, rfl, rfl⟩
      (first | refine rs_ex rfl (by (first | (constructor <;> first | rfl | exact RdC.rd | exact inferInstance) | exact Ex.pickF rfl rfl | exact Ex.eqlS rfl rfl | exact Ex.neqS rfl rfl | exact Ex.eqlPN rfl rfl | exact Ex.neqPN rfl rfl | exact Ex.eqlSN rfl rfl | exact Ex.neqSN rfl rfl | exact Ex.lenStr rfl)) rfl ?_ | refine rs_skip rfl rfl ?_)
      refine rs_end ?_
      refine qe_then ?_
      refine ct_seq ?_
      refine ct_region ?_
      (first | refine rs_ex rfl (by (first | (constructor <;> first | rfl | exact RdC.rd | exact inferInstance) | exact Ex.pickF rfl rfl | exact Ex.eqlS rfl rfl | exact Ex.neqS rfl rfl | exact Ex.eqlPN rfl rfl | exact Ex.neqPN rfl rfl | exact Ex.eqlSN rfl rfl | exact Ex.neqSN rfl rfl | exact Ex.lenStr rfl)) rfl ?_ | refine rs_skip rfl rfl ?_)
      refine rs_end ?_
      refine qe_then ?_
      refine ct_seq ?_
      refine ct_seq ?_
      refine ct_region ?_
      (first | refine rs_ex rfl (by (first | (constructor <;> first | rfl | exact RdC.rd | exact inferInstance) | exact Ex.pickF rfl rfl | exact Ex.eqlS rfl rfl | exact Ex.neqS rfl rfl | exact Ex.eqlPN rfl rfl | exact Ex.neqPN rfl rfl | exact Ex.eqlSN rfl rfl | exact Ex.neqSN rfl rfl | exact Ex.lenStr rfl)) rfl ?_ | refine rs_skip rfl rfl ?_)
      refine rs_end ?_
      refine qe_then ?_
      refine ct_block ?_
      refine ct_loopc (ζ := Nat × Fol × List Msg) (fun z => z.1 ≤ k ∧ AllI k (allIdx k u bk) z.1 z.2.1 z.2.2) [(0, _), (1, _), (2, _), (7, _), (8, _), (9, _), (10, _)] (fun z => [(12, .int .i64 (z.1 : Int)), (11, .int .i64 (z.2.2.length : Int))]) (fun z => FolC bf z.2.1 :: SlT 51 (.slice (some ⟨bls, 0, none⟩) (fam 1 gS k).length ks) (fam 1 gS k) :: SlT 51 (.slice (some ⟨blt, 0, none⟩) (fam 2 gT k).length kt) (fam 2 gT k) :: []) (fun z => k - z.1) ((0, ⟨1, 1, [], []⟩, [])) (⟨Nat.zero_le _, AllI.new k _⟩) ⟨rfl, rfl, rfl, rfl, rfl, rfl, rfl, rfl, rfl, trivial⟩ (fun w h => by first | exact h.fit | exact h) ?_
      rintro ⟨i, f, a⟩ ⟨hi, hI⟩
      simp only at hi hI ⊢
      refine ct_seq ?_
      refine ct_seq ?_
      refine ct_region ?_
      iterate 3 (first | refine rs_ex rfl (by (first | (constructor <;> first | rfl | exact RdC.rd | exact inferInstance) | exact Ex.pickF rfl rfl | exact Ex.eqlS rfl rfl | exact Ex.neqS rfl rfl | exact Ex.eqlPN rfl rfl | exact Ex.neqPN rfl rfl | exact Ex.eqlSN rfl rfl | exact Ex.neqSN rfl rfl | exact Ex.lenStr rfl)) rfl ?_ | refine rs_skip rfl rfl ?_)
      refine rs_end ?_
      refine qe_then ?_
      refine ct_cond rfl (fun h46 => ?_) (fun h46 => ?_)
      · have hi1 : i < k := by simp at h46; omega
        have hmod : (i + u) % k < k := Nat.mod_lt _ (by omega)
        refine ct_skip ?_
        refine qe_then ?_
        refine ct_seq ?_
        refine ct_block ?_
        refine ct_seq ?_
        refine ct_region ?_
        iterate 3 (first | refine rs_ex rfl (by (first | (constructor <;> first | rfl | exact RdC.rd | exact inferInstance) | exact Ex.pickF rfl rfl | exact Ex.eqlS rfl rfl | exact Ex.neqS rfl rfl | exact Ex.eqlPN rfl rfl | exact Ex.neqPN rfl rfl | exact Ex.eqlSN rfl rfl | exact Ex.neqSN rfl rfl | exact Ex.lenStr rfl)) rfl ?_ | refine rs_skip rfl rfl ?_)
        refine rs_ex rfl (ex_rem rfl rfl (by decide)) rfl ?_
        refine rs_rw (by rw [hu]) ?_
        (first | refine rs_ex rfl (by (first | (constructor <;> first | rfl | exact RdC.rd | exact inferInstance) | exact Ex.pickF rfl rfl | exact Ex.eqlS rfl rfl | exact Ex.neqS rfl rfl | exact Ex.eqlPN rfl rfl | exact Ex.neqPN rfl rfl | exact Ex.eqlSN rfl rfl | exact Ex.neqSN rfl rfl | exact Ex.lenStr rfl)) rfl ?_ | refine rs_skip rfl rfl ?_)
        refine rs_rw (by rw [wrap64 (by omega) (by omega)]) ?_
        (first | refine rs_ex rfl (by (first | (constructor <;> first | rfl | exact RdC.rd | exact inferInstance) | exact Ex.pickF rfl rfl | exact Ex.eqlS rfl rfl | exact Ex.neqS rfl rfl | exact Ex.eqlPN rfl rfl | exact Ex.neqPN rfl rfl | exact Ex.eqlSN rfl rfl | exact Ex.neqSN rfl rfl | exact Ex.lenStr rfl)) rfl ?_ | refine rs_skip rfl rfl ?_)
        refine rs_rw (by rw [wrap64 (by omega) (by omega), show ((i : Int) + (u : Int)) = ((i + u : Nat) : Int) by omega]) ?_
        (first | refine rs_ex rfl (by (first | (constructor <;> first | rfl | exact RdC.rd | exact inferInstance) | exact Ex.pickF rfl rfl | exact Ex.eqlS rfl rfl | exact Ex.neqS rfl rfl | exact Ex.eqlPN rfl rfl | exact Ex.neqPN rfl rfl | exact Ex.eqlSN rfl rfl | exact Ex.neqSN rfl rfl | exact Ex.lenStr rfl)) rfl ?_ | refine rs_skip rfl rfl ?_)
        refine rs_ex rfl (ex_rem rfl rfl (by omega)) rfl ?_
        refine rs_rw (by rw [tmod_nat]) ?_
        (first | refine rs_ex rfl (by (first | (constructor <;> first | rfl | exact RdC.rd | exact inferInstance) | exact Ex.pickF rfl rfl | exact Ex.eqlS rfl rfl | exact Ex.neqS rfl rfl | exact Ex.eqlPN rfl rfl | exact Ex.neqPN rfl rfl | exact Ex.eqlSN rfl rfl | exact Ex.neqSN rfl rfl | exact Ex.lenStr rfl)) rfl ?_ | refine rs_skip rfl rfl ?_)
        refine rs_end ?_
        refine qe_then ?_
        refine ct_meetc (ζ := Nat) (fun q => q = allIdx k u bk i) [(0, _), (1, _), (2, _), (7, _), (8, _), (9, _), (10, _), (11, _), (12, _)] (fun q => [(13, .int .i64 (q : Int))]) (fun q => FolC bf f :: SlT 51 (.slice (some ⟨bls, 0, none⟩) (fam 1 gS k).length ks) (fam 1 gS k) :: SlT 51 (.slice (some ⟨blt, 0, none⟩) (fam 2 gT k).length kt) (fam 2 gT k) :: []) ⟨rfl, rfl, rfl, rfl, rfl, rfl, rfl, rfl, rfl, trivial⟩ ?_ ?_
        · refine ct_seq ?_
          refine ct_region ?_
          (first | refine rs_ex rfl (by (first | (constructor <;> first | rfl | exact RdC.rd | exact inferInstance) | exact Ex.pickF rfl rfl | exact Ex.eqlS rfl rfl | exact Ex.neqS rfl rfl | exact Ex.eqlPN rfl rfl | exact Ex.neqPN rfl rfl | exact Ex.eqlSN rfl rfl | exact Ex.neqSN rfl rfl | exact Ex.lenStr rfl)) rfl ?_ | refine rs_skip rfl rfl ?_)
          refine rs_end ?_
          refine qe_then ?_
          refine ct_cond rfl (fun h57 => ?_) (fun h57 => ?_)
          · refine ct_region ?_
            iterate 2 (first | refine rs_ex rfl (by (first | (constructor <;> first | rfl | exact RdC.rd | exact inferInstance) | exact Ex.pickF rfl rfl | exact Ex.eqlS rfl rfl | exact Ex.neqS rfl rfl | exact Ex.eqlPN rfl rfl | exact Ex.neqPN rfl rfl | exact Ex.eqlSN rfl rfl | exact Ex.neqSN rfl rfl | exact Ex.lenStr rfl)) rfl ?_ | refine rs_skip rfl rfl ?_)
            refine rs_rw (by rw [wrap64 (by omega) (by omega)]) ?_
            iterate 2 (first | refine rs_ex rfl (by (first | (constructor <;> first | rfl | exact RdC.rd | exact inferInstance) | exact Ex.pickF rfl rfl | exact Ex.eqlS rfl rfl | exact Ex.neqS rfl rfl | exact Ex.eqlPN rfl rfl | exact Ex.neqPN rfl rfl | exact Ex.eqlSN rfl rfl | exact Ex.neqSN rfl rfl | exact Ex.lenStr rfl)) rfl ?_ | refine rs_skip rfl rfl ?_)
            refine rs_rw (by rw [wrap64 (by omega) (by omega), show ((k : Int) - 1 - (((i + u) % k : Nat) : Int)) = ((k - 1 - (i + u) % k : Nat) : Int) by omega]) ?_
            (first | refine rs_ex rfl (by (first | (constructor <;> first | rfl | exact RdC.rd | exact inferInstance) | exact Ex.pickF rfl rfl | exact Ex.eqlS rfl rfl | exact Ex.neqS rfl rfl | exact Ex.eqlPN rfl rfl | exact Ex.neqPN rfl rfl | exact Ex.eqlSN rfl rfl | exact Ex.neqSN rfl rfl | exact Ex.lenStr rfl)) rfl ?_ | refine rs_skip rfl rfl ?_)
            refine rs_end ?_
            refine qe_midc (k - 1 - (i + u) % k) (by unfold allIdx; rw [if_pos h57]) ⟨rfl, rfl, rfl, rfl, rfl, rfl, rfl, rfl, rfl, rfl, trivial⟩ (fun w h => by first | exact h.fit | exact h)
          · refine ct_skip ?_
            refine qe_midc ((i + u) % k) (by unfold allIdx; rw [if_neg (by simp [h57])]) ⟨rfl, rfl, rfl, rfl, rfl, rfl, rfl, rfl, rfl, rfl, trivial⟩ (fun w h => by first | exact h.fit | exact h)
        · rintro q hq
          have hqk : q < k := by rw [hq]; exact allIdx_lt (by omega)
          have ok1 := hI.ok.n1
          have ok0 := hI.ok.n0
          obtain ⟨s1, s2, s3, s4, s5⟩ := hI.one (by omega) hi1 (by rw [← hq]; exact hqk)
          rw [← hq] at s1 s2 s3 s4 s5
          refine ct_seq ?_
          refine ct_region ?_
          iterate 3 (first | refine rs_ex rfl (by (first | (constructor <;> first | rfl | exact RdC.rd | exact inferInstance) | exact Ex.pickF rfl rfl | exact Ex.eqlS rfl rfl | exact Ex.neqS rfl rfl | exact Ex.eqlPN rfl rfl | exact Ex.neqPN rfl rfl | exact Ex.eqlSN rfl rfl | exact Ex.neqSN rfl rfl | exact Ex.lenStr rfl)) rfl ?_ | refine rs_skip rfl rfl ?_)
          refine rs_ex rfl (ex_indexAddr rfl rfl (by omega) (by omega)) rfl ?_
          refine rs_ex rfl (ex_loadNumb (nS q) rfl (RdE.get (fam_get hqk))) rfl ?_
          refine rs_op rfl rfl (opR_fn rfl (Call.heap (fun w h => by (first | exact h | exact h.sw1 | exact h.sw2 | exact h.sw3 | exact h.sw4 | exact h.sw5 | exact h.sw6 | exact h.sw7 | exact h.sw8 | exact h.pull2 | exact h.pull3 | exact h.pull4 | exact h.pull5 | exact h.fit)) ((Receive_c W0 bf f (nS q) _ (by omega)).mono ?_)))
          rintro v H' ⟨v1, rfl, rfl⟩
          rw [s1]
          refine rs_prp (fun w h => h.slv) ?_; rintro ⟨pa, ca, ea, hva⟩
          subst ea
          iterate 5 (first | refine rs_ex rfl (by (first | (constructor <;> first | rfl | exact RdC.rd | exact inferInstance) | exact Ex.pickF rfl rfl | exact Ex.eqlS rfl rfl | exact Ex.neqS rfl rfl | exact Ex.eqlPN rfl rfl | exact Ex.neqPN rfl rfl | exact Ex.eqlSN rfl rfl | exact Ex.neqSN rfl rfl | exact Ex.lenStr rfl)) rfl ?_ | refine rs_skip rfl rfl ?_)
          refine rs_end ?_
          refine qe_then ?_
          refine ct_seq ?_
          refine ct_region ?_
          iterate 3 (first | refine rs_ex rfl (by (first | (constructor <;> first | rfl | exact RdC.rd | exact inferInstance) | exact Ex.pickF rfl rfl | exact Ex.eqlS rfl rfl | exact Ex.neqS rfl rfl | exact Ex.eqlPN rfl rfl | exact Ex.neqPN rfl rfl | exact Ex.eqlSN rfl rfl | exact Ex.neqSN rfl rfl | exact Ex.lenStr rfl)) rfl ?_ | refine rs_skip rfl rfl ?_)
          refine rs_ex rfl (ex_indexAddr rfl rfl (by omega) (by omega)) rfl ?_
          refine rs_ex rfl (ex_loadNumb (nT q) rfl (RdE.get (fam_get hqk))) rfl ?_
          refine rs_op rfl rfl (opR_fn rfl (Call.heap (fun w h => by (first | exact h | exact h.sw1 | exact h.sw2 | exact h.sw3 | exact h.sw4 | exact h.sw5 | exact h.sw6 | exact h.sw7 | exact h.sw8 | exact h.pull2 | exact h.pull3 | exact h.pull4 | exact h.pull5 | exact h.fit)) ((Receive_c W0 bf (f.recv (nS q)).2 (nT q) _ (by omega)).mono ?_)))
          rintro v H' ⟨v2, rfl, rfl⟩
          rw [s4]
          simp only
          refine rs_prp (fun w h => h.slv) ?_; rintro ⟨pb, cb, eb, hvb⟩
          subst eb
          rw [List.length_append] at s2
          iterate 5 (first | refine rs_ex rfl (by (first | (constructor <;> first | rfl | exact RdC.rd | exact inferInstance) | exact Ex.pickF rfl rfl | exact Ex.eqlS rfl rfl | exact Ex.neqS rfl rfl | exact Ex.eqlPN rfl rfl | exact Ex.neqPN rfl rfl | exact Ex.eqlSN rfl rfl | exact Ex.neqSN rfl rfl | exact Ex.lenStr rfl)) rfl ?_ | refine rs_skip rfl rfl ?_)
          refine rs_end ?_
          refine qe_then ?_
          refine ct_seq ?_
          refine ct_region ?_
          iterate 4 (first | refine rs_ex rfl (by (first | (constructor <;> first | rfl | exact RdC.rd | exact inferInstance) | exact Ex.pickF rfl rfl | exact Ex.eqlS rfl rfl | exact Ex.neqS rfl rfl | exact Ex.eqlPN rfl rfl | exact Ex.neqPN rfl rfl | exact Ex.eqlSN rfl rfl | exact Ex.neqSN rfl rfl | exact Ex.lenStr rfl)) rfl ?_ | refine rs_skip rfl rfl ?_)
          refine rs_rw (by rw [wrap64 (by omega) (by omega), show ((a.length : Int) + ((f.recv (nS q)).1.1.length : Int)) = ((a ++ (f.recv (nS q)).1.1).length : Int) by rw [List.length_append]; omega]) ?_
          (first | refine rs_ex rfl (by (first | (constructor <;> first | rfl | exact RdC.rd | exact inferInstance) | exact Ex.pickF rfl rfl | exact Ex.eqlS rfl rfl | exact Ex.neqS rfl rfl | exact Ex.eqlPN rfl rfl | exact Ex.neqPN rfl rfl | exact Ex.eqlSN rfl rfl | exact Ex.neqSN rfl rfl | exact Ex.lenStr rfl)) rfl ?_ | refine rs_skip rfl rfl ?_)
          refine rs_end ?_
          refine qe_then ?_
          refine ct_seq ?_
          refine ct_region ?_
          iterate 3 (first | refine rs_ex rfl (by (first | (constructor <;> first | rfl | exact RdC.rd | exact inferInstance) | exact Ex.pickF rfl rfl | exact Ex.eqlS rfl rfl | exact Ex.neqS rfl rfl | exact Ex.eqlPN rfl rfl | exact Ex.neqPN rfl rfl | exact Ex.eqlSN rfl rfl | exact Ex.neqSN rfl rfl | exact Ex.lenStr rfl)) rfl ?_ | refine rs_skip rfl rfl ?_)
          refine rs_split (fun h86 => by simp at h86) (fun h86 => ?_)
          iterate 4 (first | refine rs_ex rfl (by (first | (constructor <;> first | rfl | exact RdC.rd | exact inferInstance) | exact Ex.pickF rfl rfl | exact Ex.eqlS rfl rfl | exact Ex.neqS rfl rfl | exact Ex.eqlPN rfl rfl | exact Ex.neqPN rfl rfl | exact Ex.eqlSN rfl rfl | exact Ex.neqSN rfl rfl | exact Ex.lenStr rfl)) rfl ?_ | refine rs_skip rfl rfl ?_)
          refine rs_split (fun h90 => by simp at h90) (fun h90 => ?_)
          iterate 4 (first | refine rs_ex rfl (by (first | (constructor <;> first | rfl | exact RdC.rd | exact inferInstance) | exact Ex.pickF rfl rfl | exact Ex.eqlS rfl rfl | exact Ex.neqS rfl rfl | exact Ex.eqlPN rfl rfl | exact Ex.neqPN rfl rfl | exact Ex.eqlSN rfl rfl | exact Ex.neqSN rfl rfl | exact Ex.lenStr rfl)) rfl ?_ | refine rs_skip rfl rfl ?_)
          refine rs_end ?_
          refine qe_then ?_
          refine ct_cond rfl (fun h94 => by simp at h94) (fun h94 => ?_)
          refine ct_skip ?_
          refine qe_block 1 ?_
          refine qe_then ?_
          refine ct_region ?_
          iterate 2 (first | refine rs_ex rfl (by (first | (constructor <;> first | rfl | exact RdC.rd | exact inferInstance) | exact Ex.pickF rfl rfl | exact Ex.eqlS rfl rfl | exact Ex.neqS rfl rfl | exact Ex.eqlPN rfl rfl | exact Ex.neqPN rfl rfl | exact Ex.eqlSN rfl rfl | exact Ex.neqSN rfl rfl | exact Ex.lenStr rfl)) rfl ?_ | refine rs_skip rfl rfl ?_)
          refine rs_rw (by rw [wrapS (by omega)]) ?_
          (first | refine rs_ex rfl (by (first | (constructor <;> first | rfl | exact RdC.rd | exact inferInstance) | exact Ex.pickF rfl rfl | exact Ex.eqlS rfl rfl | exact Ex.neqS rfl rfl | exact Ex.eqlPN rfl rfl | exact Ex.neqPN rfl rfl | exact Ex.eqlSN rfl rfl | exact Ex.neqSN rfl rfl | exact Ex.lenStr rfl)) rfl ?_ | refine rs_skip rfl rfl ?_)
          refine rs_end ?_
          refine qe_loopc ((i + 1, ((f.recv (nS q)).2.recv (nT q)).2, a ++ (f.recv (nS q)).1.1)) (⟨by simp only; omega, s5⟩) (by first | omega | (simp only; omega)) ⟨rfl, rfl, rfl, rfl, rfl, rfl, rfl, rfl, rfl, trivial⟩ (fun w h => by first | exact h.fit | exact h)
      · have hie : i = k := by simp at h46; omega
        subst hie
        have ok1 := hI.ok.n1
        have hbl := hI.bl
        refine ct_exit ?_
        refine qe_then_exit ?_
        refine qe_loop_exit ?_
        refine qe_block_exit ?_
        refine qe_then ?_
        refine ct_seq ?_
        refine ct_region ?_
        (first | refine rs_ex rfl (by (first | (constructor <;> first | rfl | exact RdC.rd | exact inferInstance) | exact Ex.pickF rfl rfl | exact Ex.eqlS rfl rfl | exact Ex.neqS rfl rfl | exact Ex.eqlPN rfl rfl | exact Ex.neqPN rfl rfl | exact Ex.eqlSN rfl rfl | exact Ex.neqSN rfl rfl | exact Ex.lenStr rfl)) rfl ?_ | refine rs_skip rfl rfl ?_)
        refine rs_op rfl rfl (opR_fn rfl (Call.heap (fun w h => by (first | exact h | exact h.sw1 | exact h.sw2 | exact h.sw3 | exact h.sw4 | exact h.sw5 | exact h.sw6 | exact h.sw7 | exact h.sw8 | exact h.pull2 | exact h.pull3 | exact h.pull4 | exact h.pull5 | exact h.fit)) ((Move_c W0 bf f 2 _ (by rw [hI.fam.e]; decide) hI.ok.bn (by omega)).mono ?_)))
        rintro v H' ⟨u3, l3, rfl, hp, rfl⟩
        obtain ⟨hla, hlm⟩ := hI.done (by omega) hp
        refine rs_prp (fun w h => h.slv) ?_; rintro ⟨po, co, eo, hvo⟩
        subst eo
        iterate 5 (first | refine rs_ex rfl (by (first | (constructor <;> first | rfl | exact RdC.rd | exact inferInstance) | exact Ex.pickF rfl rfl | exact Ex.eqlS rfl rfl | exact Ex.neqS rfl rfl | exact Ex.eqlPN rfl rfl | exact Ex.neqPN rfl rfl | exact Ex.eqlSN rfl rfl | exact Ex.neqSN rfl rfl | exact Ex.lenStr rfl)) rfl ?_ | refine rs_skip rfl rfl ?_)
        refine rs_end ?_
        refine qe_then ?_
        refine ct_seq ?_
        refine ct_region ?_
        iterate 2 (first | refine rs_ex rfl (by (first | (constructor <;> first | rfl | exact RdC.rd | exact inferInstance) | exact Ex.pickF rfl rfl | exact Ex.eqlS rfl rfl | exact Ex.neqS rfl rfl | exact Ex.eqlPN rfl rfl | exact Ex.neqPN rfl rfl | exact Ex.eqlSN rfl rfl | exact Ex.neqSN rfl rfl | exact Ex.lenStr rfl)) rfl ?_ | refine rs_skip rfl rfl ?_)
        refine rs_split (fun h101 => ?_) (fun h101 => by cases h101)
        iterate 5 (first | refine rs_ex rfl (by (first | (constructor <;> first | rfl | exact RdC.rd | exact inferInstance) | exact Ex.pickF rfl rfl | exact Ex.eqlS rfl rfl | exact Ex.neqS rfl rfl | exact Ex.eqlPN rfl rfl | exact Ex.neqPN rfl rfl | exact Ex.eqlSN rfl rfl | exact Ex.neqSN rfl rfl | exact Ex.lenStr rfl)) rfl ?_ | refine rs_skip rfl rfl ?_)
        refine rs_split (fun h106 => ?_) (fun h106 => by exfalso; simp at h106; omega)
        iterate 6 (first | refine rs_ex rfl (by (first | (constructor <;> first | rfl | exact RdC.rd | exact inferInstance) | exact Ex.pickF rfl rfl | exact Ex.eqlS rfl rfl | exact Ex.neqS rfl rfl | exact Ex.eqlPN rfl rfl | exact Ex.neqPN rfl rfl | exact Ex.eqlSN rfl rfl | exact Ex.neqSN rfl rfl | exact Ex.lenStr rfl)) rfl ?_ | refine rs_skip rfl rfl ?_)
        refine rs_split (fun h112 => ?_) (fun h112 => by exfalso; simp at h112; omega)
        iterate 4 (first | refine rs_ex rfl (by (first | (constructor <;> first | rfl | exact RdC.rd | exact inferInstance) | exact Ex.pickF rfl rfl | exact Ex.eqlS rfl rfl | exact Ex.neqS rfl rfl | exact Ex.eqlPN rfl rfl | exact Ex.neqPN rfl rfl | exact Ex.eqlSN rfl rfl | exact Ex.neqSN rfl rfl | exact Ex.lenStr rfl)) rfl ?_ | refine rs_skip rfl rfl ?_)
        refine rs_end ?_
        refine qe_then ?_
        refine ct_ret ?_
        exact ret1 rfl rfl (congrArg Value.bool (decide_eq_true rfl))
end Go.Rost
