/- Whatever comes, in whatever order: without the program. -/
import Derived.Test.YtdjjfmoknncojaaLAl
namespace Go.Rost
open Go Go.RowKit Go.Proofs

def Pre (g : Nat → Msg) (k : Nat) (a : List Msg) : Prop := ∀ (i : Nat) m, a[i]? = some m → i < k ∧ m = g i
theorem Pre.len {g : Nat → Msg} {k : Nat} {a : List Msg} (h : Pre g k a) : a.length ≤ k := by
  refine Classical.byContradiction fun hc => ?_
  have := (h k a[k] (List.getElem?_eq_getElem (by omega))).1
  omega
theorem Pre.nil (g : Nat → Msg) (k : Nat) : Pre g k [] := fun i m h => by simp at h
structure OrdI (k i : Nat) (f : Fol) (a b : List Msg) (mv : Bool) : Prop where
  ok : f.Ok (64 + i)
  pa : Pre gS k a
  pb : Pre gT k b
  one : mv = false → Fam 1 gS k f a ∧ FamB 2 gT k f.b ∧ b = []
  two : mv = true → Fam 2 gT k f b
theorem OrdI.new (k : Nat) : OrdI k 0 ⟨1, 1, [], []⟩ [] [] false := ⟨(Fol.ok_new 1).mono (by omega), Pre.nil _ _, Pre.nil _ _, fun _ => ⟨⟨rfl, rfl, fun q h => by cases h⟩, (fun q h => by cases h), rfl⟩, fun h => by cases h⟩
theorem OrdI.move {k i : Nat} {f : Fol} {a b : List Msg} (h : OrdI k i f a b false) (hk : k ≤ 20) {l : List Numb} (hp : l.Perm ((ofE 2 f.b).map toN)) : OrdI k i ((f.moved 2).recvs l).2 a (b ++ ((f.moved 2).recvs l).1) true := by
  obtain ⟨h1, h2, h3⟩ := h.one rfl
  obtain ⟨m1, m2, _, _⟩ := Fam.move (g := gT) (n := k) (fun i h => gT_right (by omega)) h.ok h2 hp
  subst h3
  rw [List.nil_append]
  exact ⟨m2.mono (by omega), h.pa, fun j m hj => m1.get hj, (fun e => by cases e), fun _ => m1⟩
theorem OrdI.recvT {k i : Nat} {f : Fol} {a b : List Msg} {mv : Bool} (h : OrdI k i f a b mv) (hk : k ≤ 20) (hi : i ≤ 1000) {q : Nat} (hq : q < k) :
    (f.recv (nT q)).1.2 = 0 ∧ (mv = false → (f.recv (nT q)).1.1 = []) ∧ OrdI k (i + 1) (f.recv (nT q)).2 a (b ++ (f.recv (nT q)).1.1) mv := by
  have okn := h.ok.recv (by omega) (nT q) (by show (0 : Int) ≤ (q : Int) + 1; omega)
  cases mv with
  | false =>
    obtain ⟨h1, h2, h3⟩ := h.one rfl
    have hlate := recv_late (f := f) (x := nT q) (gT_right (by omega)) (by show (q : Int) + 1 ≠ 0; omega) (by show f.e < 2; rw [h1.e]; decide)
    rw [hlate] at okn ⊢
    refine ⟨rfl, fun _ => rfl, okn, h.pa, by rw [List.append_nil]; exact h.pb, fun _ => ⟨h1.keepB _, h2.keep hq, by rw [h3]; rfl⟩, fun e => by cases e⟩
  | true =>
    have s := (h.two rfl).recv h.ok (by omega) hq (gT_right (by omega))
    exact ⟨s.code, (fun e => by cases e), okn, h.pa, fun j m hj => s.fam.get hj, (fun e => by cases e), fun _ => s.fam⟩
theorem OrdI.recvS {k i : Nat} {f : Fol} {a b : List Msg} {mv : Bool} (h : OrdI k i f a b mv) (hk : k ≤ 20) (hi : i ≤ 1000) {q : Nat} (hq : q < k) :
    (f.recv (nS q)).1.2 = (if mv = true then 110 else 0) ∧ OrdI k (i + 1) (f.recv (nS q)).2 (a ++ (f.recv (nS q)).1.1) b mv := by
  have okn := h.ok.recv (by omega) (nS q) (by show (0 : Int) ≤ (q : Int) + 1; omega)
  cases mv with
  | false =>
    obtain ⟨h1, h2, h3⟩ := h.one rfl
    have s := h1.recv h.ok (by omega) hq (gS_right (by omega))
    have sb : (f.recv (nS q)).2.b = f.b := s.b
    exact ⟨s.code, okn, fun j m hj => s.fam.get hj, h.pb, fun _ => ⟨s.fam, by rw [sb]; exact h2, h3⟩, fun e => by cases e⟩
  | true =>
    have h1 := h.two rfl
    have hold := recv_old (f := f) (x := nS q) (gS_right (by omega)) (by show (q : Int) + 1 ≠ 0; omega) (by show (1 : Int) < f.e; rw [h1.e]; decide)
    rw [hold] at okn ⊢
    exact ⟨rfl, okn, by rw [List.append_nil]; exact h.pa, h.pb, (fun e => by cases e), fun _ => h1⟩
end Go.Rost
/- The law SequenceOrder: what it does. -/
namespace Go.Rost
open Go Go.RowKit Go.Proofs

theorem SequenceOrder_c (W0 : World) (n : Int) (p : Option Addr) (c : Nat) (l : List WayS) (move : Int) (h1 : SlR (At W0 []) p l) :
    Call Try.prog W0 14 [.int .i64 n, .slice p l.length c, .int .i64 move] [] (fun v _ => v = .bool true) := by
  refine call_enter Try.func14 rfl Try.ntmps14 rfl ?_

  refine ct_seq ?_
  refine ct_region ?_
  (first | refine rs_ex rfl (by (first | (constructor <;> first | rfl | exact RdC.rd | exact inferInstance) | exact Ex.pickF rfl rfl | exact Ex.eqlS rfl rfl | exact Ex.neqS rfl rfl | exact Ex.eqlPN rfl rfl | exact Ex.neqPN rfl rfl | exact Ex.eqlSN rfl rfl | exact Ex.neqSN rfl rfl | exact Ex.lenStr rfl)) rfl ?_ | refine rs_skip rfl rfl ?_)
  refine rs_end ?_
  refine qe_then ?_
  refine ct_seq ?_
  refine ct_region ?_
  refine rs_op rfl rfl (opR_fn rfl (Call.heap (fun w h => by (first | exact h | exact h.sw1 | exact h.sw2 | exact h.sw3 | exact h.sw4 | exact h.sw5 | exact h.sw6 | exact h.sw7 | exact h.sw8 | exact h.pull2 | exact h.pull3 | exact h.pull4 | exact h.pull5 | exact h.fit)) ((Shown11_c W0 _).mono ?_)))
  rintro v H' ⟨rfl, rfl⟩
  (first | refine rs_ex rfl (by (first | (constructor <;> first | rfl | exact RdC.rd | exact inferInstance) | exact Ex.pickF rfl rfl | exact Ex.eqlS rfl rfl | exact Ex.neqS rfl rfl | exact Ex.eqlPN rfl rfl | exact Ex.neqPN rfl rfl | exact Ex.eqlSN rfl rfl | exact Ex.neqSN rfl rfl | exact Ex.lenStr rfl)) rfl ?_ | refine rs_skip rfl rfl ?_)
  refine rs_end ?_
  refine qe_then ?_
  refine ct_seq ?_
  refine ct_seq ?_
  refine ct_region ?_
  iterate 3 (first | refine rs_ex rfl (by (first | (constructor <;> first | rfl | exact RdC.rd | exact inferInstance) | exact Ex.pickF rfl rfl | exact Ex.eqlS rfl rfl | exact Ex.neqS rfl rfl | exact Ex.eqlPN rfl rfl | exact Ex.neqPN rfl rfl | exact Ex.eqlSN rfl rfl | exact Ex.neqSN rfl rfl | exact Ex.lenStr rfl)) rfl ?_ | refine rs_skip rfl rfl ?_)
  refine rs_split (fun h27 => ?_) (fun h27 => ?_)
  · iterate 3 (first | refine rs_ex rfl (by (first | (constructor <;> first | rfl | exact RdC.rd | exact inferInstance) | exact Ex.pickF rfl rfl | exact Ex.eqlS rfl rfl | exact Ex.neqS rfl rfl | exact Ex.eqlPN rfl rfl | exact Ex.neqPN rfl rfl | exact Ex.eqlSN rfl rfl | exact Ex.neqSN rfl rfl | exact Ex.lenStr rfl)) rfl ?_ | refine rs_skip rfl rfl ?_)
    refine rs_end ?_
    refine qe_then ?_
    refine ct_cond rfl (fun _ => ?_) (fun h => absurd h (by decide))
    refine ct_seq ?_
    refine ct_region ?_
    iterate 2 (first | refine rs_ex rfl (by (first | (constructor <;> first | rfl | exact RdC.rd | exact inferInstance) | exact Ex.pickF rfl rfl | exact Ex.eqlS rfl rfl | exact Ex.neqS rfl rfl | exact Ex.eqlPN rfl rfl | exact Ex.neqPN rfl rfl | exact Ex.eqlSN rfl rfl | exact Ex.neqSN rfl rfl | exact Ex.lenStr rfl)) rfl ?_ | refine rs_skip rfl rfl ?_)
    refine rs_end ?_
    refine qe_then ?_
    refine ct_ret ?_
    exact ret1 rfl rfl rfl
  · iterate 3 (first | refine rs_ex rfl (by (first | (constructor <;> first | rfl | exact RdC.rd | exact inferInstance) | exact Ex.pickF rfl rfl | exact Ex.eqlS rfl rfl | exact Ex.neqS rfl rfl | exact Ex.eqlPN rfl rfl | exact Ex.neqPN rfl rfl | exact Ex.eqlSN rfl rfl | exact Ex.neqSN rfl rfl | exact Ex.lenStr rfl)) rfl ?_ | refine rs_skip rfl rfl ?_)
    refine rs_end ?_
    refine qe_then ?_
    refine ct_cond rfl (fun h30 => ?_) (fun h30 => ?_)
    · refine ct_seq ?_
      refine ct_region ?_
      iterate 2 (first | refine rs_ex rfl (by (first | (constructor <;> first | rfl | exact RdC.rd | exact inferInstance) | exact Ex.pickF rfl rfl | exact Ex.eqlS rfl rfl | exact Ex.neqS rfl rfl | exact Ex.eqlPN rfl rfl | exact Ex.neqPN rfl rfl | exact Ex.eqlSN rfl rfl | exact Ex.neqSN rfl rfl | exact Ex.lenStr rfl)) rfl ?_ | refine rs_skip rfl rfl ?_)
      refine rs_end ?_
      refine qe_then ?_
      refine ct_ret ?_
      exact ret1 rfl rfl rfl
    · refine ct_skip ?_
      refine qe_then ?_
      refine ct_seq ?_
      have hn : 1 ≤ n ∧ n ≤ 20 := by simp at h27 h30; omega
      obtain ⟨k, rfl⟩ : ∃ k : Nat, n = (k : Int) := ⟨n.toNat, by omega⟩
      have ls := fam_len 1 gS k
      have lt := fam_len 2 gT k
      refine ct_region ?_
      (first | refine rs_ex rfl (by (first | (constructor <;> first | rfl | exact RdC.rd | exact inferInstance) | exact Ex.pickF rfl rfl | exact Ex.eqlS rfl rfl | exact Ex.neqS rfl rfl | exact Ex.eqlPN rfl rfl | exact Ex.neqPN rfl rfl | exact Ex.eqlSN rfl rfl | exact Ex.neqSN rfl rfl | exact Ex.lenStr rfl)) rfl ?_ | refine rs_skip rfl rfl ?_)
      refine rs_op rfl rfl (opR_fn rfl (Call.heap (fun w h => by (first | exact h | exact h.sw1 | exact h.sw2 | exact h.sw3 | exact h.sw4 | exact h.sw5 | exact h.sw6 | exact h.sw7 | exact h.sw8 | exact h.pull2 | exact h.pull3 | exact h.pull4 | exact h.pull5 | exact h.fit)) ((Both_c W0 k _ (by omega)).mono ?_)))
      rintro v H' ⟨u1, u2, rfl, rfl⟩
      refine rs_prp (fun w h => h.slv) ?_; rintro ⟨ps, ks, es, hvs⟩
      subst es
      refine rs_prp (fun w h => h.drop.slv) ?_; rintro ⟨pt, kt, et, hvt⟩
      subst et
      obtain ⟨bls, rfl⟩ := hvs.some (i := 0) (by omega)
      obtain ⟨blt, rfl⟩ := hvt.some (i := 0) (by omega)
      iterate 5 (first | refine rs_ex rfl (by (first | (constructor <;> first | rfl | exact RdC.rd | exact inferInstance) | exact Ex.pickF rfl rfl | exact Ex.eqlS rfl rfl | exact Ex.neqS rfl rfl | exact Ex.eqlPN rfl rfl | exact Ex.neqPN rfl rfl | exact Ex.eqlSN rfl rfl | exact Ex.neqSN rfl rfl | exact Ex.lenStr rfl)) rfl ?_ | refine rs_skip rfl rfl ?_)
      refine rs_end ?_
      refine qe_then ?_
      refine ct_seq ?_
      refine ct_seq ?_
      refine ct_region ?_
      iterate 5 (first | refine rs_ex rfl (by (first | (constructor <;> first | rfl | exact RdC.rd | exact inferInstance) | exact Ex.pickF rfl rfl | exact Ex.eqlS rfl rfl | exact Ex.neqS rfl rfl | exact Ex.eqlPN rfl rfl | exact Ex.neqPN rfl rfl | exact Ex.eqlSN rfl rfl | exact Ex.neqSN rfl rfl | exact Ex.lenStr rfl)) rfl ?_ | refine rs_skip rfl rfl ?_)
      refine rs_split (fun h41 => by exfalso; simp at h41; omega) (fun h41 => ?_)
      iterate 5 (first | refine rs_ex rfl (by (first | (constructor <;> first | rfl | exact RdC.rd | exact inferInstance) | exact Ex.pickF rfl rfl | exact Ex.eqlS rfl rfl | exact Ex.neqS rfl rfl | exact Ex.eqlPN rfl rfl | exact Ex.neqPN rfl rfl | exact Ex.eqlSN rfl rfl | exact Ex.neqSN rfl rfl | exact Ex.lenStr rfl)) rfl ?_ | refine rs_skip rfl rfl ?_)
      refine rs_end ?_
      refine qe_then ?_
      refine ct_cond rfl (fun h46 => by exfalso; simp at h46; omega) (fun h46 => ?_)
      refine ct_skip ?_
      refine qe_then ?_
      refine ct_seq ?_
      refine ct_region ?_
      refine rs_op rfl rfl (opR_fn rfl (Call.heap (fun w h => by (first | exact h | exact h.sw1 | exact h.sw2 | exact h.sw3 | exact h.sw4 | exact h.sw5 | exact h.sw6 | exact h.sw7 | exact h.sw8 | exact h.pull2 | exact h.pull3 | exact h.pull4 | exact h.pull5 | exact h.fit)) ((NewFol_c W0 1 _).mono ?_)))
      rintro v H' ⟨bf, rfl, rfl⟩
      (first | refine rs_ex rfl (by (first | (constructor <;> first | rfl | exact RdC.rd | exact inferInstance) | exact Ex.pickF rfl rfl | exact Ex.eqlS rfl rfl | exact Ex.neqS rfl rfl | exact Ex.eqlPN rfl rfl | exact Ex.neqPN rfl rfl | exact Ex.eqlSN rfl rfl | exact Ex.neqSN rfl rfl | exact Ex.lenStr rfl)) rfl ?_ | refine rs_skip rfl rfl ?_)
      refine rs_end ?_
      refine qe_then ?_
      refine ct_seq ?_
      refine ct_region ?_
      iterate 2 (first | refine rs_ex rfl (by (first | (constructor <;> first | rfl | exact RdC.rd | exact inferInstance) | exact Ex.pickF rfl rfl | exact Ex.eqlS rfl rfl | exact Ex.neqS rfl rfl | exact Ex.eqlPN rfl rfl | exact Ex.neqPN rfl rfl | exact Ex.eqlSN rfl rfl | exact Ex.neqSN rfl rfl | exact Ex.lenStr rfl)) rfl ?_ | refine rs_skip rfl rfl ?_)
      refine rs_end ?_
      refine qe_then ?_
      refine ct_heap (H' := SlT 34 (.slice none 0 0) ([] : List Msg) :: SlT 34 (.slice none 0 0) ([] : List Msg) :: FolC bf ⟨1, 1, [], []⟩ :: SlT 51 (.slice (some ⟨bls, 0, none⟩) (fam 1 gS k).length ks) (fam 1 gS k) :: SlT 51 (.slice (some ⟨blt, 0, none⟩) (fam 2 gT k).length kt) (fam 2 gT k) :: []) (fun w h => At.slt_nil (α := Msg) 34 (At.slt_nil (α := Msg) 34 h)) ?_
      refine ct_seq ?_
      refine ct_region ?_
      (first | refine rs_ex rfl (by (first | (constructor <;> first | rfl | exact RdC.rd | exact inferInstance) | exact Ex.pickF rfl rfl | exact Ex.eqlS rfl rfl | exact Ex.neqS rfl rfl | exact Ex.eqlPN rfl rfl | exact Ex.neqPN rfl rfl | exact Ex.eqlSN rfl rfl | exact Ex.neqSN rfl rfl | exact Ex.lenStr rfl)) rfl ?_ | refine rs_skip rfl rfl ?_)
      refine rs_end ?_
      refine qe_then ?_
      refine ct_seq ?_
      refine ct_seq ?_
      refine ct_region ?_
      (first | refine rs_ex rfl (by (first | (constructor <;> first | rfl | exact RdC.rd | exact inferInstance) | exact Ex.pickF rfl rfl | exact Ex.eqlS rfl rfl | exact Ex.neqS rfl rfl | exact Ex.eqlPN rfl rfl | exact Ex.neqPN rfl rfl | exact Ex.eqlSN rfl rfl | exact Ex.neqSN rfl rfl | exact Ex.lenStr rfl)) rfl ?_ | refine rs_skip rfl rfl ?_)
      refine rs_end ?_
      refine qe_then ?_
      refine ct_block ?_
      refine ct_loopc (ζ := (Nat × Bool) × ((Option Addr × Nat) × Option Addr × Nat) × List Msg × List Msg × Fol) (fun z => z.1.1 ≤ 100 ∧ z.1.1 ≤ l.length ∧ SlV z.2.1.1.1 z.2.1.1.2 z.2.2.1 ∧ SlV z.2.1.2.1 z.2.1.2.2 z.2.2.2.1 ∧ OrdI k z.1.1 z.2.2.2.2 z.2.2.1 z.2.2.2.1 z.1.2 ∧ (z.1.2 = true → move < z.1.1)) [(0, _), (1, _), (2, _), (7, _), (8, _), (9, _), (10, _)] (fun z => [(14, .int .i64 (z.1.1 : Int)), (13, .bool z.1.2), (11, .slice z.2.1.1.1 z.2.2.1.length z.2.1.1.2), (12, .slice z.2.1.2.1 z.2.2.2.1.length z.2.1.2.2)]) (fun z => SlT 34 (.slice z.2.1.1.1 z.2.2.1.length z.2.1.1.2) z.2.2.1 :: SlT 34 (.slice z.2.1.2.1 z.2.2.2.1.length z.2.1.2.2) z.2.2.2.1 :: FolC bf z.2.2.2.2 :: SlT 51 (.slice (some ⟨bls, 0, none⟩) (fam 1 gS k).length ks) (fam 1 gS k) :: SlT 51 (.slice (some ⟨blt, 0, none⟩) (fam 2 gT k).length kt) (fam 2 gT k) :: []) (fun z => 100 - z.1.1) (((0, false), ((none, 0), none, 0), [], [], ⟨1, 1, [], []⟩)) (⟨by simp only; omega, Nat.zero_le _, ⟨Nat.zero_le _, .inl ⟨rfl, rfl, rfl⟩⟩, ⟨Nat.zero_le _, .inl ⟨rfl, rfl, rfl⟩⟩, OrdI.new k, fun e => by cases e⟩) ⟨rfl, rfl, rfl, rfl, rfl, rfl, rfl, rfl, rfl, rfl, rfl, trivial⟩ (fun w h => by first | exact h.fit | exact h) ?_
      rintro ⟨⟨i, mv⟩, ⟨⟨pa, ca⟩, pb, cb⟩, a, b, f⟩ ⟨hi, hil, hva, hvb, hI, hmv⟩
      simp only at hi hil hva hvb hI hmv ⊢
      have hal := hI.pa.len
      have hbl := hI.pb.len
      have okl := hI.ok.bl
      refine ct_seq ?_
      refine ct_seq ?_
      refine ct_region ?_
      iterate 5 (first | refine rs_ex rfl (by (first | (constructor <;> first | rfl | exact RdC.rd | exact inferInstance) | exact Ex.pickF rfl rfl | exact Ex.eqlS rfl rfl | exact Ex.neqS rfl rfl | exact Ex.eqlPN rfl rfl | exact Ex.neqPN rfl rfl | exact Ex.eqlSN rfl rfl | exact Ex.neqSN rfl rfl | exact Ex.lenStr rfl)) rfl ?_ | refine rs_skip rfl rfl ?_)
      refine rs_split (fun h52 => ?_) (fun h52 => ?_)
      · iterate 3 (first | refine rs_ex rfl (by (first | (constructor <;> first | rfl | exact RdC.rd | exact inferInstance) | exact Ex.pickF rfl rfl | exact Ex.eqlS rfl rfl | exact Ex.neqS rfl rfl | exact Ex.eqlPN rfl rfl | exact Ex.neqPN rfl rfl | exact Ex.eqlSN rfl rfl | exact Ex.neqSN rfl rfl | exact Ex.lenStr rfl)) rfl ?_ | refine rs_skip rfl rfl ?_)
        refine rs_end ?_
        refine qe_then ?_
        refine ct_cond rfl (fun h55 => ?_) (fun h55 => ?_)
        · have hi1 : i < l.length ∧ i < 100 := by simp at h52 h55; omega
          refine ct_skip ?_
          refine qe_then ?_
          refine ct_meetc (ζ := ((Option Addr × Nat) × Option Addr × Nat) × List Msg × List Msg × Fol × Bool) (fun z => SlV z.1.1.1 z.1.1.2 z.2.1 ∧ SlV z.1.2.1 z.1.2.2 z.2.2.1 ∧ OrdI k (i + 1) z.2.2.2.1 z.2.1 z.2.2.1 z.2.2.2.2 ∧ (z.2.2.2.2 = true → move < (i : Int) + 1)) [(0, _), (1, _), (2, _), (7, _), (8, _), (9, _), (10, _), (14, _)] (fun z => [(13, .bool z.2.2.2.2), (11, .slice z.1.1.1 z.2.1.length z.1.1.2), (12, .slice z.1.2.1 z.2.2.1.length z.1.2.2)]) (fun z => SlT 34 (.slice z.1.1.1 z.2.1.length z.1.1.2) z.2.1 :: SlT 34 (.slice z.1.2.1 z.2.2.1.length z.1.2.2) z.2.2.1 :: FolC bf z.2.2.2.1 :: SlT 51 (.slice (some ⟨bls, 0, none⟩) (fam 1 gS k).length ks) (fam 1 gS k) :: SlT 51 (.slice (some ⟨blt, 0, none⟩) (fam 2 gT k).length kt) (fam 2 gT k) :: []) ⟨rfl, rfl, rfl, rfl, rfl, rfl, rfl, rfl, trivial⟩ ?_ ?_
          · refine ct_block ?_
            refine ct_meetc (ζ := (Bool × Option Addr × Nat) × List Msg × Fol) (fun z => SlV z.1.2.1 z.1.2.2 z.2.1 ∧ OrdI k i z.2.2 a z.2.1 z.1.1 ∧ (z.1.1 = true → move < (i : Int) + 1)) [(0, _), (1, _), (2, _), (7, _), (8, _), (9, _), (10, _), (11, _), (14, _)] (fun z => [(13, .bool z.1.1), (12, .slice z.1.2.1 z.2.1.length z.1.2.2)]) (fun z => SlT 34 (.slice pa a.length ca) a :: SlT 34 (.slice z.1.2.1 z.2.1.length z.1.2.2) z.2.1 :: FolC bf z.2.2 :: SlT 51 (.slice (some ⟨bls, 0, none⟩) (fam 1 gS k).length ks) (fam 1 gS k) :: SlT 51 (.slice (some ⟨blt, 0, none⟩) (fam 2 gT k).length kt) (fam 2 gT k) :: []) ⟨rfl, rfl, rfl, rfl, rfl, rfl, rfl, rfl, rfl, trivial⟩ ?_ ?_
            · refine ct_seq ?_
              refine ct_region ?_
              iterate 3 (first | refine rs_ex rfl (by (first | (constructor <;> first | rfl | exact RdC.rd | exact inferInstance) | exact Ex.pickF rfl rfl | exact Ex.eqlS rfl rfl | exact Ex.neqS rfl rfl | exact Ex.eqlPN rfl rfl | exact Ex.neqPN rfl rfl | exact Ex.eqlSN rfl rfl | exact Ex.neqSN rfl rfl | exact Ex.lenStr rfl)) rfl ?_ | refine rs_skip rfl rfl ?_)
              refine rs_end ?_
              refine qe_then ?_
              refine ct_cond rfl (fun h60 => ?_) (fun h60 => ?_)
              · have him : (i : Int) = move := by simpa using h60
                have hmf : mv = false := by
                  cases mv with
                  | false => rfl
                  | true => have := hmv rfl; omega
                subst hmf
                refine ct_seq ?_
                refine ct_region ?_
                (first | refine rs_ex rfl (by (first | (constructor <;> first | rfl | exact RdC.rd | exact inferInstance) | exact Ex.pickF rfl rfl | exact Ex.eqlS rfl rfl | exact Ex.neqS rfl rfl | exact Ex.eqlPN rfl rfl | exact Ex.neqPN rfl rfl | exact Ex.eqlSN rfl rfl | exact Ex.neqSN rfl rfl | exact Ex.lenStr rfl)) rfl ?_ | refine rs_skip rfl rfl ?_)
                refine rs_op rfl rfl (opR_fn rfl (Call.heap (fun w h => by (first | exact h | exact h.sw1 | exact h.sw2 | exact h.sw3 | exact h.sw4 | exact h.sw5 | exact h.sw6 | exact h.sw7 | exact h.sw8 | exact h.pull2 | exact h.pull3 | exact h.pull4 | exact h.pull5 | exact h.fit)) ((Move_c W0 bf f 2 _ (by rw [(hI.one rfl).1.e]; decide) hI.ok.bn (by omega)).mono ?_)))
                rintro v H' ⟨u3, l3, rfl, hp, rfl⟩
                have hIm := hI.move (by omega) hp
                have hbm := hIm.pb.len
                rw [List.length_append] at hbm
                refine rs_prp (fun w h => h.slv) ?_; rintro ⟨po, co, eo, hvo⟩
                subst eo
                iterate 5 (first | refine rs_ex rfl (by (first | (constructor <;> first | rfl | exact RdC.rd | exact inferInstance) | exact Ex.pickF rfl rfl | exact Ex.eqlS rfl rfl | exact Ex.neqS rfl rfl | exact Ex.eqlPN rfl rfl | exact Ex.neqPN rfl rfl | exact Ex.eqlSN rfl rfl | exact Ex.neqSN rfl rfl | exact Ex.lenStr rfl)) rfl ?_ | refine rs_skip rfl rfl ?_)
                refine rs_end ?_
                refine qe_then ?_
                refine ct_seq ?_
                refine ct_seq ?_
                refine ct_region ?_
                iterate 2 (first | refine rs_ex rfl (by (first | (constructor <;> first | rfl | exact RdC.rd | exact inferInstance) | exact Ex.pickF rfl rfl | exact Ex.eqlS rfl rfl | exact Ex.neqS rfl rfl | exact Ex.eqlPN rfl rfl | exact Ex.neqPN rfl rfl | exact Ex.eqlSN rfl rfl | exact Ex.neqSN rfl rfl | exact Ex.lenStr rfl)) rfl ?_ | refine rs_skip rfl rfl ?_)
                refine rs_end ?_
                refine qe_then ?_
                refine ct_cond rfl (fun h67 => by simp at h67) (fun h67 => ?_)
                refine ct_skip ?_
                refine qe_then ?_
                refine ct_seq ?_
                refine ct_region ?_
                iterate 2 (first | refine rs_ex rfl (by (first | (constructor <;> first | rfl | exact RdC.rd | exact inferInstance) | exact Ex.pickF rfl rfl | exact Ex.eqlS rfl rfl | exact Ex.neqS rfl rfl | exact Ex.eqlPN rfl rfl | exact Ex.neqPN rfl rfl | exact Ex.eqlSN rfl rfl | exact Ex.neqSN rfl rfl | exact Ex.lenStr rfl)) rfl ?_ | refine rs_skip rfl rfl ?_)
                refine rs_op rfl rfl (opR_append ((f.moved 2).recvs l3).1 rfl rfl (by exact RdS.slR (len := ((f.moved 2).recvs l3).1.length) inferInstance hvo) rfl (by omega) rfl fun p8 c8 hv8 => ?_)
                (first | refine rs_ex rfl (by (first | (constructor <;> first | rfl | exact RdC.rd | exact inferInstance) | exact Ex.pickF rfl rfl | exact Ex.eqlS rfl rfl | exact Ex.neqS rfl rfl | exact Ex.eqlPN rfl rfl | exact Ex.neqPN rfl rfl | exact Ex.eqlSN rfl rfl | exact Ex.neqSN rfl rfl | exact Ex.lenStr rfl)) rfl ?_ | refine rs_skip rfl rfl ?_)
                refine rs_end ?_
                refine qe_then ?_
                refine ct_region ?_
                (first | refine rs_ex rfl (by (first | (constructor <;> first | rfl | exact RdC.rd | exact inferInstance) | exact Ex.pickF rfl rfl | exact Ex.eqlS rfl rfl | exact Ex.neqS rfl rfl | exact Ex.eqlPN rfl rfl | exact Ex.neqPN rfl rfl | exact Ex.eqlSN rfl rfl | exact Ex.neqSN rfl rfl | exact Ex.lenStr rfl)) rfl ?_ | refine rs_skip rfl rfl ?_)
                refine rs_end ?_
                refine qe_midc (((true, p8, c8), b ++ ((f.moved 2).recvs l3).1, ((f.moved 2).recvs l3).2)) (⟨hv8, hIm, fun _ => by omega⟩) ⟨rfl, rfl, rfl, rfl, rfl, rfl, rfl, rfl, rfl, rfl, rfl, trivial⟩ (fun w h => by first | exact h.fit | exact h)
              · refine ct_skip ?_
                refine qe_midc (((mv, pb, cb), b, f)) (⟨hvb, hI, fun e => by have := hmv e; omega⟩) ⟨rfl, rfl, rfl, rfl, rfl, rfl, rfl, rfl, rfl, rfl, rfl, trivial⟩ (fun w h => by first | exact h.fit | exact h)
            · rintro ⟨⟨mv2, pb2, cb2⟩, bb, ff⟩ ⟨hvb2, hI2, hmv2⟩
              simp only at hvb2 hI2 hmv2 ⊢
              have hbl2 := hI2.pb.len
              have okn1 := hI2.ok.n1
              have okn0 := hI2.ok.n0
              obtain ⟨bw, ow, rfl, rw_⟩ := h1.get (List.getElem?_eq_getElem hi1.1)
              obtain ⟨y, hy⟩ : ∃ y, y = l[i] := ⟨_, rfl⟩
              rw [← hy] at rw_
              have hwr := wrapU64_range y.at_
              obtain ⟨q, hq, hqk⟩ : ∃ q : Nat, (IntKind.u64.wrap y.at_).tmod (k : Int) = (q : Int) ∧ q < k := by
                obtain ⟨z, hz⟩ : ∃ z : Nat, IntKind.u64.wrap y.at_ = (z : Int) := ⟨(IntKind.u64.wrap y.at_).toNat, by omega⟩
                rw [hz, tmod_nat]
                exact ⟨z % k, rfl, Nat.mod_lt _ (by omega)⟩
              refine ct_seq ?_
              refine ct_region ?_
              iterate 2 (first | refine rs_ex rfl (by (first | (constructor <;> first | rfl | exact RdC.rd | exact inferInstance) | exact Ex.pickF rfl rfl | exact Ex.eqlS rfl rfl | exact Ex.neqS rfl rfl | exact Ex.eqlPN rfl rfl | exact Ex.neqPN rfl rfl | exact Ex.eqlSN rfl rfl | exact Ex.neqSN rfl rfl | exact Ex.lenStr rfl)) rfl ?_ | refine rs_skip rfl rfl ?_)
              refine rs_ex rfl (ex_indexAddr rfl rfl (by omega) (by omega)) rfl ?_
              (first | refine rs_ex rfl (by (first | (constructor <;> first | rfl | exact RdC.rd | exact inferInstance) | exact Ex.pickF rfl rfl | exact Ex.eqlS rfl rfl | exact Ex.neqS rfl rfl | exact Ex.eqlPN rfl rfl | exact Ex.neqPN rfl rfl | exact Ex.eqlSN rfl rfl | exact Ex.neqSN rfl rfl | exact Ex.lenStr rfl)) rfl ?_ | refine rs_skip rfl rfl ?_)
              refine rs_ex rfl (ex_loadCell (k := 1) rfl (rw_.mono fun w h => h.bare) rfl) rfl ?_
              iterate 3 (first | refine rs_ex rfl (by (first | (constructor <;> first | rfl | exact RdC.rd | exact inferInstance) | exact Ex.pickF rfl rfl | exact Ex.eqlS rfl rfl | exact Ex.neqS rfl rfl | exact Ex.eqlPN rfl rfl | exact Ex.neqPN rfl rfl | exact Ex.eqlSN rfl rfl | exact Ex.neqSN rfl rfl | exact Ex.lenStr rfl)) rfl ?_ | refine rs_skip rfl rfl ?_)
              refine rs_rw (by rw [wrapU64_id (by omega) (by omega)]) ?_
              refine rs_ex rfl (ex_rem rfl rfl (by omega)) rfl ?_
              refine rs_rw (by rw [hq]) ?_
              (first | refine rs_ex rfl (by (first | (constructor <;> first | rfl | exact RdC.rd | exact inferInstance) | exact Ex.pickF rfl rfl | exact Ex.eqlS rfl rfl | exact Ex.neqS rfl rfl | exact Ex.eqlPN rfl rfl | exact Ex.neqPN rfl rfl | exact Ex.eqlSN rfl rfl | exact Ex.neqSN rfl rfl | exact Ex.lenStr rfl)) rfl ?_ | refine rs_skip rfl rfl ?_)
              refine rs_rw (by rw [wrap64 (by omega) (by omega)]) ?_
              (first | refine rs_ex rfl (by (first | (constructor <;> first | rfl | exact RdC.rd | exact inferInstance) | exact Ex.pickF rfl rfl | exact Ex.eqlS rfl rfl | exact Ex.neqS rfl rfl | exact Ex.eqlPN rfl rfl | exact Ex.neqPN rfl rfl | exact Ex.eqlSN rfl rfl | exact Ex.neqSN rfl rfl | exact Ex.lenStr rfl)) rfl ?_ | refine rs_skip rfl rfl ?_)
              refine rs_end ?_
              refine qe_then ?_
              refine ct_seq ?_
              refine ct_region ?_
              iterate 2 (first | refine rs_ex rfl (by (first | (constructor <;> first | rfl | exact RdC.rd | exact inferInstance) | exact Ex.pickF rfl rfl | exact Ex.eqlS rfl rfl | exact Ex.neqS rfl rfl | exact Ex.eqlPN rfl rfl | exact Ex.neqPN rfl rfl | exact Ex.eqlSN rfl rfl | exact Ex.neqSN rfl rfl | exact Ex.lenStr rfl)) rfl ?_ | refine rs_skip rfl rfl ?_)
              refine rs_ex rfl (ex_indexAddr rfl rfl (by omega) (by omega)) rfl ?_
              (first | refine rs_ex rfl (by (first | (constructor <;> first | rfl | exact RdC.rd | exact inferInstance) | exact Ex.pickF rfl rfl | exact Ex.eqlS rfl rfl | exact Ex.neqS rfl rfl | exact Ex.eqlPN rfl rfl | exact Ex.neqPN rfl rfl | exact Ex.eqlSN rfl rfl | exact Ex.neqSN rfl rfl | exact Ex.lenStr rfl)) rfl ?_ | refine rs_skip rfl rfl ?_)
              refine rs_ex rfl (ex_loadCell (k := 0) rfl (rw_.mono fun w h => h.bare) rfl) rfl ?_
              refine rs_end ?_
              refine qe_then ?_
              refine ct_cond rfl (fun h85 => ?_) (fun h85 => ?_)
              · refine ct_seq ?_
                refine ct_region ?_
                iterate 3 (first | refine rs_ex rfl (by (first | (constructor <;> first | rfl | exact RdC.rd | exact inferInstance) | exact Ex.pickF rfl rfl | exact Ex.eqlS rfl rfl | exact Ex.neqS rfl rfl | exact Ex.eqlPN rfl rfl | exact Ex.neqPN rfl rfl | exact Ex.eqlSN rfl rfl | exact Ex.neqSN rfl rfl | exact Ex.lenStr rfl)) rfl ?_ | refine rs_skip rfl rfl ?_)
                refine rs_ex rfl (ex_indexAddr rfl rfl (by omega) (by omega)) rfl ?_
                refine rs_ex rfl (ex_loadNumb (nT q) rfl (RdE.get (fam_get hqk))) rfl ?_
                refine rs_op rfl rfl (opR_fn rfl (Call.heap (fun w h => by (first | exact h | exact h.sw1 | exact h.sw2 | exact h.sw3 | exact h.sw4 | exact h.sw5 | exact h.sw6 | exact h.sw7 | exact h.sw8 | exact h.pull2 | exact h.pull3 | exact h.pull4 | exact h.pull5 | exact h.fit)) ((Receive_c W0 bf ff (nT q) _ (by omega)).mono ?_)))
                rintro v H' ⟨v1, rfl, rfl⟩
                obtain ⟨s1, s2, s3⟩ := hI2.recvT (by omega) (by omega) hqk
                rw [s1]
                have hb3 := s3.pb.len
                rw [List.length_append] at hb3
                refine rs_prp (fun w h => h.slv) ?_; rintro ⟨po, co, eo, hvo⟩
                subst eo
                iterate 5 (first | refine rs_ex rfl (by (first | (constructor <;> first | rfl | exact RdC.rd | exact inferInstance) | exact Ex.pickF rfl rfl | exact Ex.eqlS rfl rfl | exact Ex.neqS rfl rfl | exact Ex.eqlPN rfl rfl | exact Ex.neqPN rfl rfl | exact Ex.eqlSN rfl rfl | exact Ex.neqSN rfl rfl | exact Ex.lenStr rfl)) rfl ?_ | refine rs_skip rfl rfl ?_)
                refine rs_end ?_
                refine qe_then ?_
                refine ct_seq ?_
                refine ct_seq ?_
                refine ct_region ?_
                iterate 3 (first | refine rs_ex rfl (by (first | (constructor <;> first | rfl | exact RdC.rd | exact inferInstance) | exact Ex.pickF rfl rfl | exact Ex.eqlS rfl rfl | exact Ex.neqS rfl rfl | exact Ex.eqlPN rfl rfl | exact Ex.neqPN rfl rfl | exact Ex.eqlSN rfl rfl | exact Ex.neqSN rfl rfl | exact Ex.lenStr rfl)) rfl ?_ | refine rs_skip rfl rfl ?_)
                refine rs_split (fun h97 => by simp at h97) (fun h97 => ?_)
                iterate 3 (first | refine rs_ex rfl (by (first | (constructor <;> first | rfl | exact RdC.rd | exact inferInstance) | exact Ex.pickF rfl rfl | exact Ex.eqlS rfl rfl | exact Ex.neqS rfl rfl | exact Ex.eqlPN rfl rfl | exact Ex.neqPN rfl rfl | exact Ex.eqlSN rfl rfl | exact Ex.neqSN rfl rfl | exact Ex.lenStr rfl)) rfl ?_ | refine rs_skip rfl rfl ?_)
                refine rs_split (fun h100 => ?_) (fun h100 => ?_)
                · iterate 5 (first | refine rs_ex rfl (by (first | (constructor <;> first | rfl | exact RdC.rd | exact inferInstance) | exact Ex.pickF rfl rfl | exact Ex.eqlS rfl rfl | exact Ex.neqS rfl rfl | exact Ex.eqlPN rfl rfl | exact Ex.neqPN rfl rfl | exact Ex.eqlSN rfl rfl | exact Ex.neqSN rfl rfl | exact Ex.lenStr rfl)) rfl ?_ | refine rs_skip rfl rfl ?_)
                  refine rs_end ?_
                  refine qe_then ?_
                  refine ct_cond rfl (fun h105 => by exfalso; first | (rw [s2 (by simpa using h100)] at h105; simp at h105; done) | (simp at h105; done)) (fun h105 => ?_)
                  refine ct_skip ?_
                  refine qe_then ?_
                  refine ct_region ?_
                  iterate 2 (first | refine rs_ex rfl (by (first | (constructor <;> first | rfl | exact RdC.rd | exact inferInstance) | exact Ex.pickF rfl rfl | exact Ex.eqlS rfl rfl | exact Ex.neqS rfl rfl | exact Ex.eqlPN rfl rfl | exact Ex.neqPN rfl rfl | exact Ex.eqlSN rfl rfl | exact Ex.neqSN rfl rfl | exact Ex.lenStr rfl)) rfl ?_ | refine rs_skip rfl rfl ?_)
                  refine rs_op rfl rfl (opR_append (ff.recv (nT q)).1.1 rfl rfl (by exact RdS.slR (len := (ff.recv (nT q)).1.1.length) inferInstance hvo) rfl (by omega) rfl fun p8 c8 hv8 => ?_)
                  (first | refine rs_ex rfl (by (first | (constructor <;> first | rfl | exact RdC.rd | exact inferInstance) | exact Ex.pickF rfl rfl | exact Ex.eqlS rfl rfl | exact Ex.neqS rfl rfl | exact Ex.eqlPN rfl rfl | exact Ex.neqPN rfl rfl | exact Ex.eqlSN rfl rfl | exact Ex.neqSN rfl rfl | exact Ex.lenStr rfl)) rfl ?_ | refine rs_skip rfl rfl ?_)
                  refine rs_end ?_
                  refine qe_block 1 ?_
                  refine qe_midc ((((pa, ca), p8, c8), a, bb ++ (ff.recv (nT q)).1.1, (ff.recv (nT q)).2, mv2)) (⟨hva, hv8, s3, hmv2⟩) ⟨rfl, rfl, rfl, rfl, rfl, rfl, rfl, rfl, rfl, rfl, rfl, trivial⟩ (fun w h => by first | exact h.fit | exact h)
                · iterate 5 (first | refine rs_ex rfl (by (first | (constructor <;> first | rfl | exact RdC.rd | exact inferInstance) | exact Ex.pickF rfl rfl | exact Ex.eqlS rfl rfl | exact Ex.neqS rfl rfl | exact Ex.eqlPN rfl rfl | exact Ex.neqPN rfl rfl | exact Ex.eqlSN rfl rfl | exact Ex.neqSN rfl rfl | exact Ex.lenStr rfl)) rfl ?_ | refine rs_skip rfl rfl ?_)
                  refine rs_end ?_
                  refine qe_then ?_
                  refine ct_cond rfl (fun h => absurd h (by decide)) (fun _ => ?_)
                  refine ct_skip ?_
                  refine qe_then ?_
                  refine ct_region ?_
                  iterate 2 (first | refine rs_ex rfl (by (first | (constructor <;> first | rfl | exact RdC.rd | exact inferInstance) | exact Ex.pickF rfl rfl | exact Ex.eqlS rfl rfl | exact Ex.neqS rfl rfl | exact Ex.eqlPN rfl rfl | exact Ex.neqPN rfl rfl | exact Ex.eqlSN rfl rfl | exact Ex.neqSN rfl rfl | exact Ex.lenStr rfl)) rfl ?_ | refine rs_skip rfl rfl ?_)
                  refine rs_op rfl rfl (opR_append (ff.recv (nT q)).1.1 rfl rfl (by exact RdS.slR (len := (ff.recv (nT q)).1.1.length) inferInstance hvo) rfl (by omega) rfl fun p8 c8 hv8 => ?_)
                  (first | refine rs_ex rfl (by (first | (constructor <;> first | rfl | exact RdC.rd | exact inferInstance) | exact Ex.pickF rfl rfl | exact Ex.eqlS rfl rfl | exact Ex.neqS rfl rfl | exact Ex.eqlPN rfl rfl | exact Ex.neqPN rfl rfl | exact Ex.eqlSN rfl rfl | exact Ex.neqSN rfl rfl | exact Ex.lenStr rfl)) rfl ?_ | refine rs_skip rfl rfl ?_)
                  refine rs_end ?_
                  refine qe_block 1 ?_
                  refine qe_midc ((((pa, ca), p8, c8), a, bb ++ (ff.recv (nT q)).1.1, (ff.recv (nT q)).2, mv2)) (⟨hva, hv8, s3, hmv2⟩) ⟨rfl, rfl, rfl, rfl, rfl, rfl, rfl, rfl, rfl, rfl, rfl, trivial⟩ (fun w h => by first | exact h.fit | exact h)
              · refine ct_seq ?_
                refine ct_region ?_
                iterate 3 (first | refine rs_ex rfl (by (first | (constructor <;> first | rfl | exact RdC.rd | exact inferInstance) | exact Ex.pickF rfl rfl | exact Ex.eqlS rfl rfl | exact Ex.neqS rfl rfl | exact Ex.eqlPN rfl rfl | exact Ex.neqPN rfl rfl | exact Ex.eqlSN rfl rfl | exact Ex.neqSN rfl rfl | exact Ex.lenStr rfl)) rfl ?_ | refine rs_skip rfl rfl ?_)
                refine rs_ex rfl (ex_indexAddr rfl rfl (by omega) (by omega)) rfl ?_
                refine rs_ex rfl (ex_loadNumb (nS q) rfl (RdE.get (fam_get hqk))) rfl ?_
                refine rs_op rfl rfl (opR_fn rfl (Call.heap (fun w h => by (first | exact h | exact h.sw1 | exact h.sw2 | exact h.sw3 | exact h.sw4 | exact h.sw5 | exact h.sw6 | exact h.sw7 | exact h.sw8 | exact h.pull2 | exact h.pull3 | exact h.pull4 | exact h.pull5 | exact h.fit)) ((Receive_c W0 bf ff (nS q) _ (by omega)).mono ?_)))
                rintro v H' ⟨v1, rfl, rfl⟩
                obtain ⟨s1, s3⟩ := hI2.recvS (by omega) (by omega) hqk
                rw [s1]
                have ha3 := s3.pa.len
                rw [List.length_append] at ha3
                refine rs_prp (fun w h => h.slv) ?_; rintro ⟨po, co, eo, hvo⟩
                subst eo
                iterate 5 (first | refine rs_ex rfl (by (first | (constructor <;> first | rfl | exact RdC.rd | exact inferInstance) | exact Ex.pickF rfl rfl | exact Ex.eqlS rfl rfl | exact Ex.neqS rfl rfl | exact Ex.eqlPN rfl rfl | exact Ex.neqPN rfl rfl | exact Ex.eqlSN rfl rfl | exact Ex.neqSN rfl rfl | exact Ex.lenStr rfl)) rfl ?_ | refine rs_skip rfl rfl ?_)
                refine rs_end ?_
                refine qe_then ?_
                refine ct_seq ?_
                refine ct_seq ?_
                refine ct_region ?_
                iterate 3 (first | refine rs_ex rfl (by (first | (constructor <;> first | rfl | exact RdC.rd | exact inferInstance) | exact Ex.pickF rfl rfl | exact Ex.eqlS rfl rfl | exact Ex.neqS rfl rfl | exact Ex.eqlPN rfl rfl | exact Ex.neqPN rfl rfl | exact Ex.eqlSN rfl rfl | exact Ex.neqSN rfl rfl | exact Ex.lenStr rfl)) rfl ?_ | refine rs_skip rfl rfl ?_)
                refine rs_ex rfl (ex_neqBool _ _ rfl rfl) rfl ?_
                refine rs_end ?_
                refine qe_then ?_
                refine ct_cond rfl (fun h121 => by exfalso; cases mv2 <;> simp at h121) (fun h121 => ?_)
                refine ct_skip ?_
                refine qe_then ?_
                refine ct_region ?_
                iterate 2 (first | refine rs_ex rfl (by (first | (constructor <;> first | rfl | exact RdC.rd | exact inferInstance) | exact Ex.pickF rfl rfl | exact Ex.eqlS rfl rfl | exact Ex.neqS rfl rfl | exact Ex.eqlPN rfl rfl | exact Ex.neqPN rfl rfl | exact Ex.eqlSN rfl rfl | exact Ex.neqSN rfl rfl | exact Ex.lenStr rfl)) rfl ?_ | refine rs_skip rfl rfl ?_)
                refine rs_op rfl rfl (opR_append (ff.recv (nS q)).1.1 rfl rfl (by exact RdS.slR (len := (ff.recv (nS q)).1.1.length) inferInstance hvo) rfl (by omega) rfl fun p8 c8 hv8 => ?_)
                (first | refine rs_ex rfl (by (first | (constructor <;> first | rfl | exact RdC.rd | exact inferInstance) | exact Ex.pickF rfl rfl | exact Ex.eqlS rfl rfl | exact Ex.neqS rfl rfl | exact Ex.eqlPN rfl rfl | exact Ex.neqPN rfl rfl | exact Ex.eqlSN rfl rfl | exact Ex.neqSN rfl rfl | exact Ex.lenStr rfl)) rfl ?_ | refine rs_skip rfl rfl ?_)
                refine rs_end ?_
                refine qe_block 1 ?_
                refine qe_midc ((((p8, c8), pb2, cb2), a ++ (ff.recv (nS q)).1.1, bb, (ff.recv (nS q)).2, mv2)) (⟨hv8, hvb2, s3, hmv2⟩) ⟨rfl, rfl, rfl, rfl, rfl, rfl, rfl, rfl, rfl, rfl, rfl, trivial⟩ (fun w h => by first | exact h.fit | exact h)
          · rintro ⟨⟨⟨pa3, ca3⟩, pb3, cb3⟩, a3, b3, f3, mv3⟩ ⟨hva3, hvb3, hI3, hmv3⟩
            simp only at hva3 hvb3 hI3 hmv3 ⊢
            refine ct_region ?_
            iterate 2 (first | refine rs_ex rfl (by (first | (constructor <;> first | rfl | exact RdC.rd | exact inferInstance) | exact Ex.pickF rfl rfl | exact Ex.eqlS rfl rfl | exact Ex.neqS rfl rfl | exact Ex.eqlPN rfl rfl | exact Ex.neqPN rfl rfl | exact Ex.eqlSN rfl rfl | exact Ex.neqSN rfl rfl | exact Ex.lenStr rfl)) rfl ?_ | refine rs_skip rfl rfl ?_)
            refine rs_rw (by rw [wrapS (by omega)]) ?_
            (first | refine rs_ex rfl (by (first | (constructor <;> first | rfl | exact RdC.rd | exact inferInstance) | exact Ex.pickF rfl rfl | exact Ex.eqlS rfl rfl | exact Ex.neqS rfl rfl | exact Ex.eqlPN rfl rfl | exact Ex.neqPN rfl rfl | exact Ex.eqlSN rfl rfl | exact Ex.neqSN rfl rfl | exact Ex.lenStr rfl)) rfl ?_ | refine rs_skip rfl rfl ?_)
            refine rs_end ?_
            refine qe_loopc (((i + 1, mv3), ((pa3, ca3), pb3, cb3), a3, b3, f3)) (⟨by simp only; omega, by simp only; omega, hva3, hvb3, hI3, fun e => by have := hmv3 e; simp only; omega⟩) (by first | omega | (simp only; omega)) ⟨rfl, rfl, rfl, rfl, rfl, rfl, rfl, rfl, rfl, rfl, rfl, trivial⟩ (fun w h => by first | exact h.fit | exact h)
        · refine ct_exit ?_
          refine qe_then_exit ?_
          refine qe_loop_exit ?_
          refine qe_block_exit ?_
          refine qe_then ?_
          refine ct_seq ?_
          refine ct_seq ?_
          refine ct_region ?_
          iterate 5 (first | refine rs_ex rfl (by (first | (constructor <;> first | rfl | exact RdC.rd | exact inferInstance) | exact Ex.pickF rfl rfl | exact Ex.eqlS rfl rfl | exact Ex.neqS rfl rfl | exact Ex.eqlPN rfl rfl | exact Ex.neqPN rfl rfl | exact Ex.eqlSN rfl rfl | exact Ex.neqSN rfl rfl | exact Ex.lenStr rfl)) rfl ?_ | refine rs_skip rfl rfl ?_)
          refine rs_split (fun h129 => by exfalso; simp at h129; omega) (fun h129 => ?_)
          iterate 5 (first | refine rs_ex rfl (by (first | (constructor <;> first | rfl | exact RdC.rd | exact inferInstance) | exact Ex.pickF rfl rfl | exact Ex.eqlS rfl rfl | exact Ex.neqS rfl rfl | exact Ex.eqlPN rfl rfl | exact Ex.neqPN rfl rfl | exact Ex.eqlSN rfl rfl | exact Ex.neqSN rfl rfl | exact Ex.lenStr rfl)) rfl ?_ | refine rs_skip rfl rfl ?_)
          refine rs_end ?_
          refine qe_then ?_
          refine ct_cond rfl (fun h134 => by exfalso; simp at h134; omega) (fun h134 => ?_)
          refine ct_skip ?_
          refine qe_then ?_
          refine ct_seq ?_
          refine ct_seq ?_
          refine ct_region ?_
          (first | refine rs_ex rfl (by (first | (constructor <;> first | rfl | exact RdC.rd | exact inferInstance) | exact Ex.pickF rfl rfl | exact Ex.eqlS rfl rfl | exact Ex.neqS rfl rfl | exact Ex.eqlPN rfl rfl | exact Ex.neqPN rfl rfl | exact Ex.eqlSN rfl rfl | exact Ex.neqSN rfl rfl | exact Ex.lenStr rfl)) rfl ?_ | refine rs_skip rfl rfl ?_)
          refine rs_end ?_
          refine qe_then ?_
          refine ct_block ?_
          refine ct_loopc (ζ := Nat) (fun j => j ≤ a.length) [(7, _), (8, _), (9, _), (11, _), (12, _)] (fun j => [(22, .int .i64 (j : Int))]) (fun j => SlT 34 (.slice pa a.length ca) a :: SlT 34 (.slice pb b.length cb) b :: SlT 51 (.slice (some ⟨bls, 0, none⟩) (fam 1 gS k).length ks) (fam 1 gS k) :: SlT 51 (.slice (some ⟨blt, 0, none⟩) (fam 2 gT k).length kt) (fam 2 gT k) :: []) (fun j => a.length - j) (0) (Nat.zero_le _) ⟨rfl, rfl, rfl, rfl, rfl, rfl, trivial⟩ (fun w h => by first | exact h.fit | exact h) ?_
          rintro j hj
          refine ct_seq ?_
          refine ct_seq ?_
          refine ct_region ?_
          iterate 4 (first | refine rs_ex rfl (by (first | (constructor <;> first | rfl | exact RdC.rd | exact inferInstance) | exact Ex.pickF rfl rfl | exact Ex.eqlS rfl rfl | exact Ex.neqS rfl rfl | exact Ex.eqlPN rfl rfl | exact Ex.neqPN rfl rfl | exact Ex.eqlSN rfl rfl | exact Ex.neqSN rfl rfl | exact Ex.lenStr rfl)) rfl ?_ | refine rs_skip rfl rfl ?_)
          refine rs_end ?_
          refine qe_then ?_
          refine ct_cond rfl (fun h138 => ?_) (fun h138 => ?_)
          · have hj1 : j < a.length := by simp at h138; exact h138
            obtain ⟨bo, rfl⟩ := hva.some hj1
            obtain ⟨m, hm⟩ : ∃ m, m = a[j] := ⟨_, rfl⟩
            have hm' : a[j]? = some m := by rw [hm]; exact List.getElem?_eq_getElem hj1
            obtain ⟨hjk, hmg⟩ := hI.pa j m hm'
            refine ct_skip ?_
            refine qe_then ?_
            refine ct_seq ?_
            refine ct_block ?_
            refine ct_seq ?_
            refine ct_draw0 (by kernel_rfl) ?_
            refine ra_take 0 rfl (by kernel_rfl) (by kernel_rfl) rfl (by (first | (constructor <;> first | rfl | exact RdC.rd | exact inferInstance) | exact Ex.pickF rfl rfl | exact Ex.eqlS rfl rfl | exact Ex.neqS rfl rfl | exact Ex.eqlPN rfl rfl | exact Ex.neqPN rfl rfl | exact Ex.eqlSN rfl rfl | exact Ex.neqSN rfl rfl | exact Ex.lenStr rfl)) rfl (fun _ h => h.fit) ?_
            refine ra_take 1 rfl (by kernel_rfl) (by kernel_rfl) rfl (by (first | (constructor <;> first | rfl | exact RdC.rd | exact inferInstance) | exact Ex.pickF rfl rfl | exact Ex.eqlS rfl rfl | exact Ex.neqS rfl rfl | exact Ex.eqlPN rfl rfl | exact Ex.neqPN rfl rfl | exact Ex.eqlSN rfl rfl | exact Ex.neqSN rfl rfl | exact Ex.lenStr rfl)) rfl (fun _ h => h.fit) ?_
            refine ra_take 2 rfl (by kernel_rfl) (by kernel_rfl) rfl (ex_indexAddr rfl rfl (by omega) (by omega)) rfl (fun _ h => h.fit) ?_
            refine ra_take 3 rfl (by kernel_rfl) (by kernel_rfl) rfl (ex_loadMsg m rfl (RdE.get hm')) rfl (fun _ h => h.fit) ?_
            refine ra_take 4 rfl (by kernel_rfl) (by kernel_rfl) rfl (by (first | (constructor <;> first | rfl | exact RdC.rd | exact inferInstance) | exact Ex.pickF rfl rfl | exact Ex.eqlS rfl rfl | exact Ex.neqS rfl rfl | exact Ex.eqlPN rfl rfl | exact Ex.neqPN rfl rfl | exact Ex.eqlSN rfl rfl | exact Ex.neqSN rfl rfl | exact Ex.lenStr rfl)) rfl (fun _ h => h.fit) ?_
            refine ra_take 5 rfl (by kernel_rfl) (by kernel_rfl) rfl (by (first | (constructor <;> first | rfl | exact RdC.rd | exact inferInstance) | exact Ex.pickF rfl rfl | exact Ex.eqlS rfl rfl | exact Ex.neqS rfl rfl | exact Ex.eqlPN rfl rfl | exact Ex.neqPN rfl rfl | exact Ex.eqlSN rfl rfl | exact Ex.neqSN rfl rfl | exact Ex.lenStr rfl)) rfl (fun _ h => h.fit) ?_
            refine ra_take 6 rfl (by kernel_rfl) (by kernel_rfl) rfl (ex_indexAddr rfl rfl (by omega) (by omega)) rfl (fun _ h => h.fit) ?_
            refine ra_take 7 rfl (by kernel_rfl) (by kernel_rfl) rfl (by (first | (constructor <;> first | rfl | exact RdC.rd | exact inferInstance) | exact Ex.pickF rfl rfl | exact Ex.eqlS rfl rfl | exact Ex.neqS rfl rfl | exact Ex.eqlPN rfl rfl | exact Ex.neqPN rfl rfl | exact Ex.eqlSN rfl rfl | exact Ex.neqSN rfl rfl | exact Ex.lenStr rfl)) rfl (fun _ h => h.fit) ?_
            refine ra_take 8 rfl (by kernel_rfl) (by kernel_rfl) rfl (ex_loadMsgN (nS j) rfl (RdE.get (fam_get hjk))) rfl (fun _ h => h.fit) ?_
            refine ra_take 9 rfl (by kernel_rfl) (by kernel_rfl) rfl (ex_neqMsg m (gS j) rfl rfl) rfl (fun _ h => h.fit) ?_
            refine ra_end (by kernel_rfl) ?_
            refine qe_then ?_
            refine ct_cond rfl (fun h150 => by simp [hmg] at h150) (fun h150 => ?_)
            refine ct_skip ?_
            refine qe_block 3 ?_
            refine qe_then ?_
            refine ct_region ?_
            iterate 2 (first | refine rs_ex rfl (by (first | (constructor <;> first | rfl | exact RdC.rd | exact inferInstance) | exact Ex.pickF rfl rfl | exact Ex.eqlS rfl rfl | exact Ex.neqS rfl rfl | exact Ex.eqlPN rfl rfl | exact Ex.neqPN rfl rfl | exact Ex.eqlSN rfl rfl | exact Ex.neqSN rfl rfl | exact Ex.lenStr rfl)) rfl ?_ | refine rs_skip rfl rfl ?_)
            refine rs_rw (by rw [wrapS (by omega)]) ?_
            (first | refine rs_ex rfl (by (first | (constructor <;> first | rfl | exact RdC.rd | exact inferInstance) | exact Ex.pickF rfl rfl | exact Ex.eqlS rfl rfl | exact Ex.neqS rfl rfl | exact Ex.eqlPN rfl rfl | exact Ex.neqPN rfl rfl | exact Ex.eqlSN rfl rfl | exact Ex.neqSN rfl rfl | exact Ex.lenStr rfl)) rfl ?_ | refine rs_skip rfl rfl ?_)
            refine rs_end ?_
            refine qe_loopc (j + 1) (by omega) (by first | omega | (simp only; omega)) ⟨rfl, rfl, rfl, rfl, rfl, rfl, trivial⟩ (fun w h => by first | exact h.fit | exact h)
          · refine ct_exit ?_
            refine qe_then_exit ?_
            refine qe_loop_exit ?_
            refine qe_block_exit ?_
            refine qe_then ?_
            refine ct_seq ?_
            refine ct_seq ?_
            refine ct_region ?_
            (first | refine rs_ex rfl (by (first | (constructor <;> first | rfl | exact RdC.rd | exact inferInstance) | exact Ex.pickF rfl rfl | exact Ex.eqlS rfl rfl | exact Ex.neqS rfl rfl | exact Ex.eqlPN rfl rfl | exact Ex.neqPN rfl rfl | exact Ex.eqlSN rfl rfl | exact Ex.neqSN rfl rfl | exact Ex.lenStr rfl)) rfl ?_ | refine rs_skip rfl rfl ?_)
            refine rs_end ?_
            refine qe_then ?_
            refine ct_block ?_
            refine ct_loopc (ζ := Nat) (fun j => j ≤ b.length) [(7, _), (9, _), (12, _)] (fun j => [(23, .int .i64 (j : Int))]) (fun j => SlT 34 (.slice pb b.length cb) b :: SlT 51 (.slice (some ⟨blt, 0, none⟩) (fam 2 gT k).length kt) (fam 2 gT k) :: []) (fun j => b.length - j) (0) (Nat.zero_le _) ⟨rfl, rfl, rfl, rfl, trivial⟩ (fun w h => by first | exact h.fit | exact h) ?_
            rintro j hj
            refine ct_seq ?_
            refine ct_seq ?_
            refine ct_region ?_
            iterate 4 (first | refine rs_ex rfl (by (first | (constructor <;> first | rfl | exact RdC.rd | exact inferInstance) | exact Ex.pickF rfl rfl | exact Ex.eqlS rfl rfl | exact Ex.neqS rfl rfl | exact Ex.eqlPN rfl rfl | exact Ex.neqPN rfl rfl | exact Ex.eqlSN rfl rfl | exact Ex.neqSN rfl rfl | exact Ex.lenStr rfl)) rfl ?_ | refine rs_skip rfl rfl ?_)
            refine rs_end ?_
            refine qe_then ?_
            refine ct_cond rfl (fun h154 => ?_) (fun h154 => ?_)
            · have hj1 : j < b.length := by simp at h154; exact h154
              obtain ⟨bo, rfl⟩ := hvb.some hj1
              obtain ⟨m, hm⟩ : ∃ m, m = b[j] := ⟨_, rfl⟩
              have hm' : b[j]? = some m := by rw [hm]; exact List.getElem?_eq_getElem hj1
              obtain ⟨hjk, hmg⟩ := hI.pb j m hm'
              refine ct_skip ?_
              refine qe_then ?_
              refine ct_seq ?_
              refine ct_block ?_
              refine ct_seq ?_
              refine ct_draw0 (by kernel_rfl) ?_
              refine ra_take 0 rfl (by kernel_rfl) (by kernel_rfl) rfl (by (first | (constructor <;> first | rfl | exact RdC.rd | exact inferInstance) | exact Ex.pickF rfl rfl | exact Ex.eqlS rfl rfl | exact Ex.neqS rfl rfl | exact Ex.eqlPN rfl rfl | exact Ex.neqPN rfl rfl | exact Ex.eqlSN rfl rfl | exact Ex.neqSN rfl rfl | exact Ex.lenStr rfl)) rfl (fun _ h => h.fit) ?_
              refine ra_take 1 rfl (by kernel_rfl) (by kernel_rfl) rfl (by (first | (constructor <;> first | rfl | exact RdC.rd | exact inferInstance) | exact Ex.pickF rfl rfl | exact Ex.eqlS rfl rfl | exact Ex.neqS rfl rfl | exact Ex.eqlPN rfl rfl | exact Ex.neqPN rfl rfl | exact Ex.eqlSN rfl rfl | exact Ex.neqSN rfl rfl | exact Ex.lenStr rfl)) rfl (fun _ h => h.fit) ?_
              refine ra_take 2 rfl (by kernel_rfl) (by kernel_rfl) rfl (ex_indexAddr rfl rfl (by omega) (by omega)) rfl (fun _ h => h.fit) ?_
              refine ra_take 3 rfl (by kernel_rfl) (by kernel_rfl) rfl (ex_loadMsg m rfl (RdE.get hm')) rfl (fun _ h => h.fit) ?_
              refine ra_take 4 rfl (by kernel_rfl) (by kernel_rfl) rfl (by (first | (constructor <;> first | rfl | exact RdC.rd | exact inferInstance) | exact Ex.pickF rfl rfl | exact Ex.eqlS rfl rfl | exact Ex.neqS rfl rfl | exact Ex.eqlPN rfl rfl | exact Ex.neqPN rfl rfl | exact Ex.eqlSN rfl rfl | exact Ex.neqSN rfl rfl | exact Ex.lenStr rfl)) rfl (fun _ h => h.fit) ?_
              refine ra_take 5 rfl (by kernel_rfl) (by kernel_rfl) rfl (by (first | (constructor <;> first | rfl | exact RdC.rd | exact inferInstance) | exact Ex.pickF rfl rfl | exact Ex.eqlS rfl rfl | exact Ex.neqS rfl rfl | exact Ex.eqlPN rfl rfl | exact Ex.neqPN rfl rfl | exact Ex.eqlSN rfl rfl | exact Ex.neqSN rfl rfl | exact Ex.lenStr rfl)) rfl (fun _ h => h.fit) ?_
              refine ra_take 6 rfl (by kernel_rfl) (by kernel_rfl) rfl (ex_indexAddr rfl rfl (by omega) (by omega)) rfl (fun _ h => h.fit) ?_
              refine ra_take 7 rfl (by kernel_rfl) (by kernel_rfl) rfl (by (first | (constructor <;> first | rfl | exact RdC.rd | exact inferInstance) | exact Ex.pickF rfl rfl | exact Ex.eqlS rfl rfl | exact Ex.neqS rfl rfl | exact Ex.eqlPN rfl rfl | exact Ex.neqPN rfl rfl | exact Ex.eqlSN rfl rfl | exact Ex.neqSN rfl rfl | exact Ex.lenStr rfl)) rfl (fun _ h => h.fit) ?_
              refine ra_take 8 rfl (by kernel_rfl) (by kernel_rfl) rfl (ex_loadMsgN (nT j) rfl (RdE.get (fam_get hjk))) rfl (fun _ h => h.fit) ?_
              refine ra_take 9 rfl (by kernel_rfl) (by kernel_rfl) rfl (ex_neqMsg m (gT j) rfl rfl) rfl (fun _ h => h.fit) ?_
              refine ra_end (by kernel_rfl) ?_
              refine qe_then ?_
              refine ct_cond rfl (fun h166 => by simp [hmg] at h166) (fun h166 => ?_)
              refine ct_skip ?_
              refine qe_block 5 ?_
              refine qe_then ?_
              refine ct_region ?_
              iterate 2 (first | refine rs_ex rfl (by (first | (constructor <;> first | rfl | exact RdC.rd | exact inferInstance) | exact Ex.pickF rfl rfl | exact Ex.eqlS rfl rfl | exact Ex.neqS rfl rfl | exact Ex.eqlPN rfl rfl | exact Ex.neqPN rfl rfl | exact Ex.eqlSN rfl rfl | exact Ex.neqSN rfl rfl | exact Ex.lenStr rfl)) rfl ?_ | refine rs_skip rfl rfl ?_)
              refine rs_rw (by rw [wrapS (by omega)]) ?_
              (first | refine rs_ex rfl (by (first | (constructor <;> first | rfl | exact RdC.rd | exact inferInstance) | exact Ex.pickF rfl rfl | exact Ex.eqlS rfl rfl | exact Ex.neqS rfl rfl | exact Ex.eqlPN rfl rfl | exact Ex.neqPN rfl rfl | exact Ex.eqlSN rfl rfl | exact Ex.neqSN rfl rfl | exact Ex.lenStr rfl)) rfl ?_ | refine rs_skip rfl rfl ?_)
              refine rs_end ?_
              refine qe_loopc (j + 1) (by omega) (by first | omega | (simp only; omega)) ⟨rfl, rfl, rfl, rfl, trivial⟩ (fun w h => by first | exact h.fit | exact h)
            · refine ct_exit ?_
              refine qe_then_exit ?_
              refine qe_loop_exit ?_
              refine qe_block_exit ?_
              refine qe_then ?_
              refine ct_seq ?_
              refine ct_region ?_
              iterate 2 (first | refine rs_ex rfl (by (first | (constructor <;> first | rfl | exact RdC.rd | exact inferInstance) | exact Ex.pickF rfl rfl | exact Ex.eqlS rfl rfl | exact Ex.neqS rfl rfl | exact Ex.eqlPN rfl rfl | exact Ex.neqPN rfl rfl | exact Ex.eqlSN rfl rfl | exact Ex.neqSN rfl rfl | exact Ex.lenStr rfl)) rfl ?_ | refine rs_skip rfl rfl ?_)
              refine rs_end ?_
              refine qe_then ?_
              refine ct_ret ?_
              exact ret1 rfl rfl rfl
      · iterate 3 (first | refine rs_ex rfl (by (first | (constructor <;> first | rfl | exact RdC.rd | exact inferInstance) | exact Ex.pickF rfl rfl | exact Ex.eqlS rfl rfl | exact Ex.neqS rfl rfl | exact Ex.eqlPN rfl rfl | exact Ex.neqPN rfl rfl | exact Ex.eqlSN rfl rfl | exact Ex.neqSN rfl rfl | exact Ex.lenStr rfl)) rfl ?_ | refine rs_skip rfl rfl ?_)
        refine rs_end ?_
        refine qe_then ?_
        refine ct_cond rfl (fun h => absurd h (by decide)) (fun _ => ?_)
        refine ct_exit ?_
        refine qe_then_exit ?_
        refine qe_loop_exit ?_
        refine qe_block_exit ?_
        refine qe_then ?_
        refine ct_seq ?_
        refine ct_seq ?_
        refine ct_region ?_
        iterate 5 (first | refine rs_ex rfl (by (first | (constructor <;> first | rfl | exact RdC.rd | exact inferInstance) | exact Ex.pickF rfl rfl | exact Ex.eqlS rfl rfl | exact Ex.neqS rfl rfl | exact Ex.eqlPN rfl rfl | exact Ex.neqPN rfl rfl | exact Ex.eqlSN rfl rfl | exact Ex.neqSN rfl rfl | exact Ex.lenStr rfl)) rfl ?_ | refine rs_skip rfl rfl ?_)
        refine rs_split (fun h129 => by exfalso; simp at h129; omega) (fun h129 => ?_)
        iterate 5 (first | refine rs_ex rfl (by (first | (constructor <;> first | rfl | exact RdC.rd | exact inferInstance) | exact Ex.pickF rfl rfl | exact Ex.eqlS rfl rfl | exact Ex.neqS rfl rfl | exact Ex.eqlPN rfl rfl | exact Ex.neqPN rfl rfl | exact Ex.eqlSN rfl rfl | exact Ex.neqSN rfl rfl | exact Ex.lenStr rfl)) rfl ?_ | refine rs_skip rfl rfl ?_)
        refine rs_end ?_
        refine qe_then ?_
        refine ct_cond rfl (fun h134 => by exfalso; simp at h134; omega) (fun h134 => ?_)
        refine ct_skip ?_
        refine qe_then ?_
        refine ct_seq ?_
        refine ct_seq ?_
        refine ct_region ?_
        (first | refine rs_ex rfl (by (first | (constructor <;> first | rfl | exact RdC.rd | exact inferInstance) | exact Ex.pickF rfl rfl | exact Ex.eqlS rfl rfl | exact Ex.neqS rfl rfl | exact Ex.eqlPN rfl rfl | exact Ex.neqPN rfl rfl | exact Ex.eqlSN rfl rfl | exact Ex.neqSN rfl rfl | exact Ex.lenStr rfl)) rfl ?_ | refine rs_skip rfl rfl ?_)
        refine rs_end ?_
        refine qe_then ?_
        refine ct_block ?_
        refine ct_loopc (ζ := Nat) (fun j => j ≤ a.length) [(7, _), (8, _), (9, _), (11, _), (12, _)] (fun j => [(22, .int .i64 (j : Int))]) (fun j => SlT 34 (.slice pa a.length ca) a :: SlT 34 (.slice pb b.length cb) b :: SlT 51 (.slice (some ⟨bls, 0, none⟩) (fam 1 gS k).length ks) (fam 1 gS k) :: SlT 51 (.slice (some ⟨blt, 0, none⟩) (fam 2 gT k).length kt) (fam 2 gT k) :: []) (fun j => a.length - j) (0) (Nat.zero_le _) ⟨rfl, rfl, rfl, rfl, rfl, rfl, trivial⟩ (fun w h => by first | exact h.fit | exact h) ?_
        rintro j hj
        refine ct_seq ?_
        refine ct_seq ?_
        refine ct_region ?_
        iterate 4 (first | refine rs_ex rfl (by (first | (constructor <;> first | rfl | exact RdC.rd | exact inferInstance) | exact Ex.pickF rfl rfl | exact Ex.eqlS rfl rfl | exact Ex.neqS rfl rfl | exact Ex.eqlPN rfl rfl | exact Ex.neqPN rfl rfl | exact Ex.eqlSN rfl rfl | exact Ex.neqSN rfl rfl | exact Ex.lenStr rfl)) rfl ?_ | refine rs_skip rfl rfl ?_)
        refine rs_end ?_
        refine qe_then ?_
        refine ct_cond rfl (fun h138 => ?_) (fun h138 => ?_)
        · have hj1 : j < a.length := by simp at h138; exact h138
          obtain ⟨bo, rfl⟩ := hva.some hj1
          obtain ⟨m, hm⟩ : ∃ m, m = a[j] := ⟨_, rfl⟩
          have hm' : a[j]? = some m := by rw [hm]; exact List.getElem?_eq_getElem hj1
          obtain ⟨hjk, hmg⟩ := hI.pa j m hm'
          refine ct_skip ?_
          refine qe_then ?_
          refine ct_seq ?_
          refine ct_block ?_
          refine ct_seq ?_
          refine ct_draw0 (by kernel_rfl) ?_
          refine ra_take 0 rfl (by kernel_rfl) (by kernel_rfl) rfl (by (first | (constructor <;> first | rfl | exact RdC.rd | exact inferInstance) | exact Ex.pickF rfl rfl | exact Ex.eqlS rfl rfl | exact Ex.neqS rfl rfl | exact Ex.eqlPN rfl rfl | exact Ex.neqPN rfl rfl | exact Ex.eqlSN rfl rfl | exact Ex.neqSN rfl rfl | exact Ex.lenStr rfl)) rfl (fun _ h => h.fit) ?_
          refine ra_take 1 rfl (by kernel_rfl) (by kernel_rfl) rfl (by (first | (constructor <;> first | rfl | exact RdC.rd | exact inferInstance) | exact Ex.pickF rfl rfl | exact Ex.eqlS rfl rfl | exact Ex.neqS rfl rfl | exact Ex.eqlPN rfl rfl | exact Ex.neqPN rfl rfl | exact Ex.eqlSN rfl rfl | exact Ex.neqSN rfl rfl | exact Ex.lenStr rfl)) rfl (fun _ h => h.fit) ?_
          refine ra_take 2 rfl (by kernel_rfl) (by kernel_rfl) rfl (ex_indexAddr rfl rfl (by omega) (by omega)) rfl (fun _ h => h.fit) ?_
          refine ra_take 3 rfl (by kernel_rfl) (by kernel_rfl) rfl (ex_loadMsg m rfl (RdE.get hm')) rfl (fun _ h => h.fit) ?_
          refine ra_take 4 rfl (by kernel_rfl) (by kernel_rfl) rfl (by (first | (constructor <;> first | rfl | exact RdC.rd | exact inferInstance) | exact Ex.pickF rfl rfl | exact Ex.eqlS rfl rfl | exact Ex.neqS rfl rfl | exact Ex.eqlPN rfl rfl | exact Ex.neqPN rfl rfl | exact Ex.eqlSN rfl rfl | exact Ex.neqSN rfl rfl | exact Ex.lenStr rfl)) rfl (fun _ h => h.fit) ?_
          refine ra_take 5 rfl (by kernel_rfl) (by kernel_rfl) rfl (by (first | (constructor <;> first | rfl | exact RdC.rd | exact inferInstance) | exact Ex.pickF rfl rfl | exact Ex.eqlS rfl rfl | exact Ex.neqS rfl rfl | exact Ex.eqlPN rfl rfl | exact Ex.neqPN rfl rfl | exact Ex.eqlSN rfl rfl | exact Ex.neqSN rfl rfl | exact Ex.lenStr rfl)) rfl (fun _ h => h.fit) ?_
          refine ra_take 6 rfl (by kernel_rfl) (by kernel_rfl) rfl (ex_indexAddr rfl rfl (by omega) (by omega)) rfl (fun _ h => h.fit) ?_
          refine ra_take 7 rfl (by kernel_rfl) (by kernel_rfl) rfl (by (first | (constructor <;> first | rfl | exact RdC.rd | exact inferInstance) | exact Ex.pickF rfl rfl | exact Ex.eqlS rfl rfl | exact Ex.neqS rfl rfl | exact Ex.eqlPN rfl rfl | exact Ex.neqPN rfl rfl | exact Ex.eqlSN rfl rfl | exact Ex.neqSN rfl rfl | exact Ex.lenStr rfl)) rfl (fun _ h => h.fit) ?_
          refine ra_take 8 rfl (by kernel_rfl) (by kernel_rfl) rfl (ex_loadMsgN (nS j) rfl (RdE.get (fam_get hjk))) rfl (fun _ h => h.fit) ?_
          refine ra_take 9 rfl (by kernel_rfl) (by kernel_rfl) rfl (ex_neqMsg m (gS j) rfl rfl) rfl (fun _ h => h.fit) ?_
          refine ra_end (by kernel_rfl) ?_
          refine qe_then ?_
          refine ct_cond rfl (fun h150 => by simp [hmg] at h150) (fun h150 => ?_)
          refine ct_skip ?_
          refine qe_block 3 ?_
          refine qe_then ?_
          refine ct_region ?_
          iterate 2 (first | refine rs_ex rfl (by (first | (constructor <;> first | rfl | exact RdC.rd | exact inferInstance) | exact Ex.pickF rfl rfl | exact Ex.eqlS rfl rfl | exact Ex.neqS rfl rfl | exact Ex.eqlPN rfl rfl | exact Ex.neqPN rfl rfl | exact Ex.eqlSN rfl rfl | exact Ex.neqSN rfl rfl | exact Ex.lenStr rfl)) rfl ?_ | refine rs_skip rfl rfl ?_)
          refine rs_rw (by rw [wrapS (by omega)]) ?_
          (first | refine rs_ex rfl (by (first | (constructor <;> first | rfl | exact RdC.rd | exact inferInstance) | exact Ex.pickF rfl rfl | exact Ex.eqlS rfl rfl | exact Ex.neqS rfl rfl | exact Ex.eqlPN rfl rfl | exact Ex.neqPN rfl rfl | exact Ex.eqlSN rfl rfl | exact Ex.neqSN rfl rfl | exact Ex.lenStr rfl)) rfl ?_ | refine rs_skip rfl rfl ?_)
          refine rs_end ?_
          refine qe_loopc (j + 1) (by omega) (by first | omega | (simp only; omega)) ⟨rfl, rfl, rfl, rfl, rfl, rfl, trivial⟩ (fun w h => by first | exact h.fit | exact h)
        · refine ct_exit ?_
          refine qe_then_exit ?_
          refine qe_loop_exit ?_
          refine qe_block_exit ?_
          refine qe_then ?_
          refine ct_seq ?_
          refine ct_seq ?_
          refine ct_region ?_
          (first | refine rs_ex rfl (by (first | (constructor <;> first | rfl | exact RdC.rd | exact inferInstance) | exact Ex.pickF rfl rfl | exact Ex.eqlS rfl rfl | exact Ex.neqS rfl rfl | exact Ex.eqlPN rfl rfl | exact Ex.neqPN rfl rfl | exact Ex.eqlSN rfl rfl | exact Ex.neqSN rfl rfl | exact Ex.lenStr rfl)) rfl ?_ | refine rs_skip rfl rfl ?_)
          refine rs_end ?_
          refine qe_then ?_
          refine ct_block ?_
          refine ct_loopc (ζ := Nat) (fun j => j ≤ b.length) [(7, _), (9, _), (12, _)] (fun j => [(23, .int .i64 (j : Int))]) (fun j => SlT 34 (.slice pb b.length cb) b :: SlT 51 (.slice (some ⟨blt, 0, none⟩) (fam 2 gT k).length kt) (fam 2 gT k) :: []) (fun j => b.length - j) (0) (Nat.zero_le _) ⟨rfl, rfl, rfl, rfl, trivial⟩ (fun w h => by first | exact h.fit | exact h) ?_
          rintro j hj
          refine ct_seq ?_
          refine ct_seq ?_
          refine ct_region ?_
          iterate 4 (first | refine rs_ex rfl (by (first | (constructor <;> first | rfl | exact RdC.rd | exact inferInstance) | exact Ex.pickF rfl rfl | exact Ex.eqlS rfl rfl | exact Ex.neqS rfl rfl | exact Ex.eqlPN rfl rfl | exact Ex.neqPN rfl rfl | exact Ex.eqlSN rfl rfl | exact Ex.neqSN rfl rfl | exact Ex.lenStr rfl)) rfl ?_ | refine rs_skip rfl rfl ?_)
          refine rs_end ?_
          refine qe_then ?_
          refine ct_cond rfl (fun h154 => ?_) (fun h154 => ?_)
          · have hj1 : j < b.length := by simp at h154; exact h154
            obtain ⟨bo, rfl⟩ := hvb.some hj1
            obtain ⟨m, hm⟩ : ∃ m, m = b[j] := ⟨_, rfl⟩
            have hm' : b[j]? = some m := by rw [hm]; exact List.getElem?_eq_getElem hj1
            obtain ⟨hjk, hmg⟩ := hI.pb j m hm'
            refine ct_skip ?_
            refine qe_then ?_
            refine ct_seq ?_
            refine ct_block ?_
            refine ct_seq ?_
            refine ct_draw0 (by kernel_rfl) ?_
            refine ra_take 0 rfl (by kernel_rfl) (by kernel_rfl) rfl (by (first | (constructor <;> first | rfl | exact RdC.rd | exact inferInstance) | exact Ex.pickF rfl rfl | exact Ex.eqlS rfl rfl | exact Ex.neqS rfl rfl | exact Ex.eqlPN rfl rfl | exact Ex.neqPN rfl rfl | exact Ex.eqlSN rfl rfl | exact Ex.neqSN rfl rfl | exact Ex.lenStr rfl)) rfl (fun _ h => h.fit) ?_
            refine ra_take 1 rfl (by kernel_rfl) (by kernel_rfl) rfl (by (first | (constructor <;> first | rfl | exact RdC.rd | exact inferInstance) | exact Ex.pickF rfl rfl | exact Ex.eqlS rfl rfl | exact Ex.neqS rfl rfl | exact Ex.eqlPN rfl rfl | exact Ex.neqPN rfl rfl | exact Ex.eqlSN rfl rfl | exact Ex.neqSN rfl rfl | exact Ex.lenStr rfl)) rfl (fun _ h => h.fit) ?_
            refine ra_take 2 rfl (by kernel_rfl) (by kernel_rfl) rfl (ex_indexAddr rfl rfl (by omega) (by omega)) rfl (fun _ h => h.fit) ?_
            refine ra_take 3 rfl (by kernel_rfl) (by kernel_rfl) rfl (ex_loadMsg m rfl (RdE.get hm')) rfl (fun _ h => h.fit) ?_
            refine ra_take 4 rfl (by kernel_rfl) (by kernel_rfl) rfl (by (first | (constructor <;> first | rfl | exact RdC.rd | exact inferInstance) | exact Ex.pickF rfl rfl | exact Ex.eqlS rfl rfl | exact Ex.neqS rfl rfl | exact Ex.eqlPN rfl rfl | exact Ex.neqPN rfl rfl | exact Ex.eqlSN rfl rfl | exact Ex.neqSN rfl rfl | exact Ex.lenStr rfl)) rfl (fun _ h => h.fit) ?_
            refine ra_take 5 rfl (by kernel_rfl) (by kernel_rfl) rfl (by (first | (constructor <;> first | rfl | exact RdC.rd | exact inferInstance) | exact Ex.pickF rfl rfl | exact Ex.eqlS rfl rfl | exact Ex.neqS rfl rfl | exact Ex.eqlPN rfl rfl | exact Ex.neqPN rfl rfl | exact Ex.eqlSN rfl rfl | exact Ex.neqSN rfl rfl | exact Ex.lenStr rfl)) rfl (fun _ h => h.fit) ?_
            refine ra_take 6 rfl (by kernel_rfl) (by kernel_rfl) rfl (ex_indexAddr rfl rfl (by omega) (by omega)) rfl (fun _ h => h.fit) ?_
            refine ra_take 7 rfl (by kernel_rfl) (by kernel_rfl) rfl (by (first | (constructor <;> first | rfl | exact RdC.rd | exact inferInstance) | exact Ex.pickF rfl rfl | exact Ex.eqlS rfl rfl | exact Ex.neqS rfl rfl | exact Ex.eqlPN rfl rfl | exact Ex.neqPN rfl rfl | exact Ex.eqlSN rfl rfl | exact Ex.neqSN rfl rfl | exact Ex.lenStr rfl)) rfl (fun _ h => h.fit) ?_
            refine ra_take 8 rfl (by kernel_rfl) (by kernel_rfl) rfl (ex_loadMsgN (nT j) rfl (RdE.get (fam_get hjk))) rfl (fun _ h => h.fit) ?_
            refine ra_take 9 rfl (by kernel_rfl) (by kernel_rfl) rfl (ex_neqMsg m (gT j) rfl rfl) rfl (fun _ h => h.fit) ?_
            refine ra_end (by kernel_rfl) ?_
            refine qe_then ?_
            refine ct_cond rfl (fun h166 => by simp [hmg] at h166) (fun h166 => ?_)
            refine ct_skip ?_
            refine qe_block 5 ?_
            refine qe_then ?_
            refine ct_region ?_
            iterate 2 (first | refine rs_ex rfl (by (first | (constructor <;> first | rfl | exact RdC.rd | exact inferInstance) | exact Ex.pickF rfl rfl | exact Ex.eqlS rfl rfl | exact Ex.neqS rfl rfl | exact Ex.eqlPN rfl rfl | exact Ex.neqPN rfl rfl | exact Ex.eqlSN rfl rfl | exact Ex.neqSN rfl rfl | exact Ex.lenStr rfl)) rfl ?_ | refine rs_skip rfl rfl ?_)
            refine rs_rw (by rw [wrapS (by omega)]) ?_
            (first | refine rs_ex rfl (by (first | (constructor <;> first | rfl | exact RdC.rd | exact inferInstance) | exact Ex.pickF rfl rfl | exact Ex.eqlS rfl rfl | exact Ex.neqS rfl rfl | exact Ex.eqlPN rfl rfl | exact Ex.neqPN rfl rfl | exact Ex.eqlSN rfl rfl | exact Ex.neqSN rfl rfl | exact Ex.lenStr rfl)) rfl ?_ | refine rs_skip rfl rfl ?_)
            refine rs_end ?_
            refine qe_loopc (j + 1) (by omega) (by first | omega | (simp only; omega)) ⟨rfl, rfl, rfl, rfl, trivial⟩ (fun w h => by first | exact h.fit | exact h)
          · refine ct_exit ?_
            refine qe_then_exit ?_
            refine qe_loop_exit ?_
            refine qe_block_exit ?_
            refine qe_then ?_
            refine ct_seq ?_
            refine ct_region ?_
            iterate 2 (first | refine rs_ex rfl (by (first | (constructor <;> first | rfl | exact RdC.rd | exact inferInstance) | exact Ex.pickF rfl rfl | exact Ex.eqlS rfl rfl | exact Ex.neqS rfl rfl | exact Ex.eqlPN rfl rfl | exact Ex.neqPN rfl rfl | exact Ex.eqlSN rfl rfl | exact Ex.neqSN rfl rfl | exact Ex.lenStr rfl)) rfl ?_ | refine rs_skip rfl rfl ?_)
            refine rs_end ?_
            refine qe_then ?_
            refine ct_ret ?_
            exact ret1 rfl rfl rfl
end Go.Rost
