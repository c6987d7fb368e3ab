/- A follower of numbers: receiving, moving to a later epoch. -/
import Derived.Test.YtdjjfmoknncojaaF11
import Derived.Test.YtdjjfmoknncojaaBp
namespace Go.Rost
open Go Go.RowKit Go.Proofs Go.Shelf

def Fol.kept (f : Fol) (x : Numb) : Fol := { f with w := keep f.w ⟨x.e, x.n⟩ x.m }
/-- What a follower tells of what it receives, and what it is then. -/
def Fol.recv (f : Fol) (x : Numb) : (List Msg × Int) × Fol :=
  if x.m.right = false ∨ x.n = 0 then (([], 100), f)
  else if f.e < x.e then (([], 0), { f with b := if f.b.length < 64 then keep f.b ⟨x.e, x.n⟩ x.m else f.b })
  else if x.e < f.e then (([], 110), f)
  else if x.n < f.nx then (([], 0), f)
  else (((f.kept x).drain.1, 0), (f.kept x).drain.2)
def colM (z : List Msg) (x : Msg) : List Msg × Option Code := (z ++ [x], none)
theorem runs_colM : ∀ (l z : List Msg), runs colM z l = (z ++ l, none)
  | [], z => by rw [runs, List.append_nil]
  | x :: l, z => by rw [runs, colM]; simp only; rw [runs_colM l, List.append_assoc]; rfl
theorem keep_len (l : List (Plc × Msg)) (p : Plc) (m : Msg) : (keep l p m).length ≤ l.length + 1 := by
  rw [keep]
  split
  · omega
  · rename_i h
    rw [mset_length_new m (by simpa using h)]; omega
theorem folIt.open {W0 : World} {bc b : Nat} {f : Fol} {H : List Chunk} {w : World} (h : At W0 (folIt bc b f :: H) w) : At W0 (Blk bc (.cells #[.pointer (some ⟨b, 0, none⟩)] 44 (0, 0)) :: FolC b f :: H) w := At.star.1 h
theorem Receive_nil (W0 : World) (x : Numb) (H : List Chunk) : Call Try.prog W0 32 [.pointer none, x.v] H (fun v H' => v = .tuple #[.slice none 0 0, .int .i64 1] ∧ H' = H) := by
  refine call_enterM Try.func32 rfl Try.ntmps32 rfl ?_

  refine ct_seq ?_
  refine ct_region ?_
  refine rs_op rfl rfl (opR_box rfl fun b3 => ?_)
  iterate 2 (first | refine rs_ex rfl (by (first | (constructor <;> first | rfl | exact RdC.rd | exact inferInstance) | exact Ex.pickF rfl rfl | exact Ex.eqlS rfl rfl | exact Ex.neqS rfl rfl | exact Ex.eqlPN rfl rfl | exact Ex.neqPN rfl rfl | exact Ex.eqlSN rfl rfl | exact Ex.neqSN rfl rfl | exact Ex.lenStr rfl)) rfl ?_ | refine rs_skip rfl rfl ?_)
  refine rs_end ?_
  refine qe_then ?_
  refine ct_seq ?_
  refine ct_region ?_
  iterate 4 (first | refine rs_ex rfl (by (first | (constructor <;> first | rfl | exact RdC.rd | exact inferInstance) | exact Ex.pickF rfl rfl | exact Ex.eqlS rfl rfl | exact Ex.neqS rfl rfl | exact Ex.eqlPN rfl rfl | exact Ex.neqPN rfl rfl | exact Ex.eqlSN rfl rfl | exact Ex.neqSN rfl rfl | exact Ex.lenStr rfl)) rfl ?_ | refine rs_skip rfl rfl ?_)
  refine rs_ex rfl (ex_build rfl) rfl ?_
  refine rs_op rfl rfl (opR_alloc fun b6 => ?_)
  refine rs_opN rfl (opR_store rfl rfl rfl rfl ?_)
  refine rs_end ?_
  refine qe_then ?_
  refine ct_seq ?_
  refine ct_block ?_
  refine ct_seq ?_
  refine ct_region ?_
  iterate 3 (first | refine rs_ex rfl (by (first | (constructor <;> first | rfl | exact RdC.rd | exact inferInstance) | exact Ex.pickF rfl rfl | exact Ex.eqlS rfl rfl | exact Ex.neqS rfl rfl | exact Ex.eqlPN rfl rfl | exact Ex.neqPN rfl rfl | exact Ex.eqlSN rfl rfl | exact Ex.neqSN rfl rfl | exact Ex.lenStr rfl)) rfl ?_ | refine rs_skip rfl rfl ?_)
  refine rs_end ?_
  refine qe_then ?_
  refine ct_cond rfl (fun h14 => ?_) (fun h14 => by cases h14)
  refine ct_seq ?_
  refine ct_region ?_
  iterate 2 (first | refine rs_ex rfl (by (first | (constructor <;> first | rfl | exact RdC.rd | exact inferInstance) | exact Ex.pickF rfl rfl | exact Ex.eqlS rfl rfl | exact Ex.neqS rfl rfl | exact Ex.eqlPN rfl rfl | exact Ex.neqPN rfl rfl | exact Ex.eqlSN rfl rfl | exact Ex.neqSN rfl rfl | exact Ex.lenStr rfl)) rfl ?_ | refine rs_skip rfl rfl ?_)
  refine rs_end ?_
  refine qe_then ?_
  refine ct_ret ?_
  exact retM (qe_heap (fun w h => h.drop.drop) (ret2 rfl rfl rfl ⟨rfl, rfl⟩))
theorem Receive_c (W0 : World) (b : Nat) (f : Fol) (x : Numb) (H : List Chunk) (hl : f.w.length ≤ 1000) :
    Call Try.prog W0 32 [.pointer (some ⟨b, 0, none⟩), x.v] (FolC b f :: H)
      (fun v H' => ∃ u, v = .tuple #[u, .int .i64 (f.recv x).1.2] ∧ H' = SlT 34 u (f.recv x).1.1 :: FolC b (f.recv x).2 :: H) := by
  refine Call.ex (fun w h => FolC.open h) ?_
  rintro ⟨wr, br⟩
  simp only
  refine call_enterM Try.func32 rfl Try.ntmps32 rfl ?_

  refine ct_seq ?_
  refine ct_region ?_
  refine rs_op rfl rfl (opR_box rfl fun b3 => ?_)
  iterate 2 (first | refine rs_ex rfl (by (first | (constructor <;> first | rfl | exact RdC.rd | exact inferInstance) | exact Ex.pickF rfl rfl | exact Ex.eqlS rfl rfl | exact Ex.neqS rfl rfl | exact Ex.eqlPN rfl rfl | exact Ex.neqPN rfl rfl | exact Ex.eqlSN rfl rfl | exact Ex.neqSN rfl rfl | exact Ex.lenStr rfl)) rfl ?_ | refine rs_skip rfl rfl ?_)
  refine rs_end ?_
  refine qe_then ?_
  refine ct_seq ?_
  refine ct_region ?_
  iterate 4 (first | refine rs_ex rfl (by (first | (constructor <;> first | rfl | exact RdC.rd | exact inferInstance) | exact Ex.pickF rfl rfl | exact Ex.eqlS rfl rfl | exact Ex.neqS rfl rfl | exact Ex.eqlPN rfl rfl | exact Ex.neqPN rfl rfl | exact Ex.eqlSN rfl rfl | exact Ex.neqSN rfl rfl | exact Ex.lenStr rfl)) rfl ?_ | refine rs_skip rfl rfl ?_)
  refine rs_ex rfl (ex_build rfl) rfl ?_
  refine rs_op rfl rfl (opR_alloc fun b6 => ?_)
  refine rs_opN rfl (opR_store rfl rfl rfl rfl ?_)
  refine rs_end ?_
  refine qe_then ?_
  refine ct_seq ?_
  refine ct_block ?_
  refine ct_seq ?_
  refine ct_region ?_
  iterate 3 (first | refine rs_ex rfl (by (first | (constructor <;> first | rfl | exact RdC.rd | exact inferInstance) | exact Ex.pickF rfl rfl | exact Ex.eqlS rfl rfl | exact Ex.neqS rfl rfl | exact Ex.eqlPN rfl rfl | exact Ex.neqPN rfl rfl | exact Ex.eqlSN rfl rfl | exact Ex.neqSN rfl rfl | exact Ex.lenStr rfl)) rfl ?_ | refine rs_skip rfl rfl ?_)
  refine rs_end ?_
  refine qe_then ?_
  refine ct_cond rfl (fun h14 => by cases h14) (fun h14 => ?_)
  refine ct_seq ?_
  refine ct_region ?_
  iterate 2 (first | refine rs_ex rfl (by (first | (constructor <;> first | rfl | exact RdC.rd | exact inferInstance) | exact Ex.pickF rfl rfl | exact Ex.eqlS rfl rfl | exact Ex.neqS rfl rfl | exact Ex.eqlPN rfl rfl | exact Ex.neqPN rfl rfl | exact Ex.eqlSN rfl rfl | exact Ex.neqSN rfl rfl | exact Ex.lenStr rfl)) rfl ?_ | refine rs_skip rfl rfl ?_)
  refine rs_op rfl rfl (opR_fn rfl (Call.heap (fun w h => by (first | exact h | exact h.sw1 | exact h.sw2 | exact h.sw3 | exact h.sw4 | exact h.sw5 | exact h.sw6 | exact h.sw7 | exact h.sw8 | exact h.pull2 | exact h.pull3 | exact h.pull4 | exact h.pull5 | exact h.fit)) ((Right_c W0 x.m _).mono ?_)))
  rintro v H' ⟨rfl, rfl⟩
  iterate 2 (first | refine rs_ex rfl (by (first | (constructor <;> first | rfl | exact RdC.rd | exact inferInstance) | exact Ex.pickF rfl rfl | exact Ex.eqlS rfl rfl | exact Ex.neqS rfl rfl | exact Ex.eqlPN rfl rfl | exact Ex.neqPN rfl rfl | exact Ex.eqlSN rfl rfl | exact Ex.neqSN rfl rfl | exact Ex.lenStr rfl)) rfl ?_ | refine rs_skip rfl rfl ?_)
  refine rs_split (fun h22 => ?_) (fun h22 => ?_)
  · have hbad : x.m.right = false ∨ x.n = 0 := .inl (by simpa using h22)
    iterate 5 (first | refine rs_ex rfl (by (first | (constructor <;> first | rfl | exact RdC.rd | exact inferInstance) | exact Ex.pickF rfl rfl | exact Ex.eqlS rfl rfl | exact Ex.neqS rfl rfl | exact Ex.eqlPN rfl rfl | exact Ex.neqPN rfl rfl | exact Ex.eqlSN rfl rfl | exact Ex.neqSN rfl rfl | exact Ex.lenStr rfl)) rfl ?_ | refine rs_skip rfl rfl ?_)
    refine rs_end ?_
    refine qe_then ?_
    refine ct_cond rfl (fun _ => ?_) (fun h => absurd h (by decide))
    refine ct_seq ?_
    refine ct_region ?_
    iterate 2 (first | refine rs_ex rfl (by (first | (constructor <;> first | rfl | exact RdC.rd | exact inferInstance) | exact Ex.pickF rfl rfl | exact Ex.eqlS rfl rfl | exact Ex.neqS rfl rfl | exact Ex.eqlPN rfl rfl | exact Ex.neqPN rfl rfl | exact Ex.eqlSN rfl rfl | exact Ex.neqSN rfl rfl | exact Ex.lenStr rfl)) rfl ?_ | refine rs_skip rfl rfl ?_)
    refine rs_end ?_
    refine qe_then ?_
    refine ct_ret ?_
    exact retM (qe_heap (H' := SlT (α := Msg) 34 (.slice none 0 0) [] :: FolC b f :: H) (fun w h => At.slt_nil (α := Msg) 34 (FolC.shut (f := f) h.drop.drop)) (ret2 rfl rfl rfl ⟨_, by rw [Fol.recv, if_pos hbad], by rw [Fol.recv, if_pos hbad]⟩))
  · iterate 5 (first | refine rs_ex rfl (by (first | (constructor <;> first | rfl | exact RdC.rd | exact inferInstance) | exact Ex.pickF rfl rfl | exact Ex.eqlS rfl rfl | exact Ex.neqS rfl rfl | exact Ex.eqlPN rfl rfl | exact Ex.neqPN rfl rfl | exact Ex.eqlSN rfl rfl | exact Ex.neqSN rfl rfl | exact Ex.lenStr rfl)) rfl ?_ | refine rs_skip rfl rfl ?_)
    refine rs_end ?_
    refine qe_then ?_
    refine ct_cond rfl (fun h17 => ?_) (fun h17 => ?_)
    · have hbad : x.m.right = false ∨ x.n = 0 := .inr (by simpa using h17)
      refine ct_seq ?_
      refine ct_region ?_
      iterate 2 (first | refine rs_ex rfl (by (first | (constructor <;> first | rfl | exact RdC.rd | exact inferInstance) | exact Ex.pickF rfl rfl | exact Ex.eqlS rfl rfl | exact Ex.neqS rfl rfl | exact Ex.eqlPN rfl rfl | exact Ex.neqPN rfl rfl | exact Ex.eqlSN rfl rfl | exact Ex.neqSN rfl rfl | exact Ex.lenStr rfl)) rfl ?_ | refine rs_skip rfl rfl ?_)
      refine rs_end ?_
      refine qe_then ?_
      refine ct_ret ?_
      exact retM (qe_heap (H' := SlT (α := Msg) 34 (.slice none 0 0) [] :: FolC b f :: H) (fun w h => At.slt_nil (α := Msg) 34 (FolC.shut (f := f) h.drop.drop)) (ret2 rfl rfl rfl ⟨_, by rw [Fol.recv, if_pos hbad], by rw [Fol.recv, if_pos hbad]⟩))
    · have hok : ¬ (x.m.right = false ∨ x.n = 0) := by simp at h22 h17; simp [h22, h17]
      refine ct_seq ?_
      refine ct_draw0 (by kernel_rfl) ?_
      refine ra_take 0 rfl (by kernel_rfl) (by kernel_rfl) rfl (by (first | (constructor <;> first | rfl | exact RdC.rd | exact inferInstance) | exact Ex.pickF rfl rfl | exact Ex.eqlS rfl rfl | exact Ex.neqS rfl rfl | exact Ex.eqlPN rfl rfl | exact Ex.neqPN rfl rfl | exact Ex.eqlSN rfl rfl | exact Ex.neqSN rfl rfl | exact Ex.lenStr rfl)) rfl (fun _ h => h.fit) ?_
      refine ra_take 1 rfl (by kernel_rfl) (by kernel_rfl) rfl (by (first | (constructor <;> first | rfl | exact RdC.rd | exact inferInstance) | exact Ex.pickF rfl rfl | exact Ex.eqlS rfl rfl | exact Ex.neqS rfl rfl | exact Ex.eqlPN rfl rfl | exact Ex.neqPN rfl rfl | exact Ex.eqlSN rfl rfl | exact Ex.neqSN rfl rfl | exact Ex.lenStr rfl)) rfl (fun _ h => h.fit) ?_
      refine ra_take 2 rfl (by kernel_rfl) (by kernel_rfl) rfl (by (first | (constructor <;> first | rfl | exact RdC.rd | exact inferInstance) | exact Ex.pickF rfl rfl | exact Ex.eqlS rfl rfl | exact Ex.neqS rfl rfl | exact Ex.eqlPN rfl rfl | exact Ex.neqPN rfl rfl | exact Ex.eqlSN rfl rfl | exact Ex.neqSN rfl rfl | exact Ex.lenStr rfl)) rfl (fun _ h => h.fit) ?_
      refine ra_take 3 rfl (by kernel_rfl) (by kernel_rfl) rfl (by (first | (constructor <;> first | rfl | exact RdC.rd | exact inferInstance) | exact Ex.pickF rfl rfl | exact Ex.eqlS rfl rfl | exact Ex.neqS rfl rfl | exact Ex.eqlPN rfl rfl | exact Ex.neqPN rfl rfl | exact Ex.eqlSN rfl rfl | exact Ex.neqSN rfl rfl | exact Ex.lenStr rfl)) rfl (fun _ h => h.fit) ?_
      refine ra_take 4 rfl (by kernel_rfl) (by kernel_rfl) rfl (by (first | (constructor <;> first | rfl | exact RdC.rd | exact inferInstance) | exact Ex.pickF rfl rfl | exact Ex.eqlS rfl rfl | exact Ex.neqS rfl rfl | exact Ex.eqlPN rfl rfl | exact Ex.neqPN rfl rfl | exact Ex.eqlSN rfl rfl | exact Ex.neqSN rfl rfl | exact Ex.lenStr rfl)) rfl (fun _ h => h.fit) ?_
      refine ra_all (rs := [5]) (by kernel_rfl) rfl ?_
      refine each_op rfl rfl rfl (opR_fn rfl (Call.heap (fun w h => by (first | exact h | exact h.sw1 | exact h.sw2 | exact h.sw3 | exact h.sw4 | exact h.sw5 | exact h.sw6 | exact h.sw7 | exact h.sw8 | exact h.pull2 | exact h.pull3 | exact h.pull4 | exact h.pull5 | exact h.fit)) ((IsLater_c W0 b f.e x.e _ _ _ _ (by exact RdC.rd)).mono ?_))) each_nil
      rintro v H' ⟨rfl, rfl⟩
      refine ⟨.inr (fun w h => h.fit), ?_⟩
      refine ra_take 6 rfl (by kernel_rfl) (by kernel_rfl) rfl (by (first | (constructor <;> first | rfl | exact RdC.rd | exact inferInstance) | exact Ex.pickF rfl rfl | exact Ex.eqlS rfl rfl | exact Ex.neqS rfl rfl | exact Ex.eqlPN rfl rfl | exact Ex.neqPN rfl rfl | exact Ex.eqlSN rfl rfl | exact Ex.neqSN rfl rfl | exact Ex.lenStr rfl)) rfl (fun _ h => h.fit) ?_
      refine ra_end (by kernel_rfl) ?_
      refine qe_then ?_
      refine ct_cond rfl (fun h27 => ?_) (fun h27 => ?_)
      · have hlt : f.e < x.e := by simpa using h27
        refine ct_meetc (ζ := List (Plc × Msg)) (fun z => z = if f.b.length < 64 then keep f.b ⟨x.e, x.n⟩ x.m else f.b) [(0, _), (3, _), (6, _)] (fun z => []) (fun z => Blk b (.cells #[.int .u32 f.e, .int .u32 f.nx, .map (some wr), .map (some br)] 108 (0, 0)) :: MapC Plc.v Msg.v wr f.w :: MapC Plc.v Msg.v br z :: H) ⟨rfl, rfl, rfl, trivial⟩ ?_ ?_
        · refine ct_seq ?_
          refine ct_region ?_
          iterate 4 (first | refine rs_ex rfl (by (first | (constructor <;> first | rfl | exact RdC.rd | exact inferInstance) | exact Ex.pickF rfl rfl | exact Ex.eqlS rfl rfl | exact Ex.neqS rfl rfl | exact Ex.eqlPN rfl rfl | exact Ex.neqPN rfl rfl | exact Ex.eqlSN rfl rfl | exact Ex.neqSN rfl rfl | exact Ex.lenStr rfl)) rfl ?_ | refine rs_skip rfl rfl ?_)
          refine rs_ex rfl (ex_lenMap rfl inferInstance) rfl ?_
          (first | refine rs_ex rfl (by (first | (constructor <;> first | rfl | exact RdC.rd | exact inferInstance) | exact Ex.pickF rfl rfl | exact Ex.eqlS rfl rfl | exact Ex.neqS rfl rfl | exact Ex.eqlPN rfl rfl | exact Ex.neqPN rfl rfl | exact Ex.eqlSN rfl rfl | exact Ex.neqSN rfl rfl | exact Ex.lenStr rfl)) rfl ?_ | refine rs_skip rfl rfl ?_)
          refine rs_end ?_
          refine qe_then ?_
          refine ct_cond rfl (fun h39 => ?_) (fun h39 => ?_)
          · refine ct_draw0 (by kernel_rfl) ?_
            refine ra_take 0 rfl (by kernel_rfl) (by kernel_rfl) rfl (by (first | (constructor <;> first | rfl | exact RdC.rd | exact inferInstance) | exact Ex.pickF rfl rfl | exact Ex.eqlS rfl rfl | exact Ex.neqS rfl rfl | exact Ex.eqlPN rfl rfl | exact Ex.neqPN rfl rfl | exact Ex.eqlSN rfl rfl | exact Ex.neqSN rfl rfl | exact Ex.lenStr rfl)) rfl (fun _ h => h.fit) ?_
            refine ra_take 1 rfl (by kernel_rfl) (by kernel_rfl) rfl (by (first | (constructor <;> first | rfl | exact RdC.rd | exact inferInstance) | exact Ex.pickF rfl rfl | exact Ex.eqlS rfl rfl | exact Ex.neqS rfl rfl | exact Ex.eqlPN rfl rfl | exact Ex.neqPN rfl rfl | exact Ex.eqlSN rfl rfl | exact Ex.neqSN rfl rfl | exact Ex.lenStr rfl)) rfl (fun _ h => h.fit) ?_
            refine ra_take 2 rfl (by kernel_rfl) (by kernel_rfl) rfl (by (first | (constructor <;> first | rfl | exact RdC.rd | exact inferInstance) | exact Ex.pickF rfl rfl | exact Ex.eqlS rfl rfl | exact Ex.neqS rfl rfl | exact Ex.eqlPN rfl rfl | exact Ex.neqPN rfl rfl | exact Ex.eqlSN rfl rfl | exact Ex.neqSN rfl rfl | exact Ex.lenStr rfl)) rfl (fun _ h => h.fit) ?_
            refine ra_take 3 rfl (by kernel_rfl) (by kernel_rfl) rfl (by (first | (constructor <;> first | rfl | exact RdC.rd | exact inferInstance) | exact Ex.pickF rfl rfl | exact Ex.eqlS rfl rfl | exact Ex.neqS rfl rfl | exact Ex.eqlPN rfl rfl | exact Ex.neqPN rfl rfl | exact Ex.eqlSN rfl rfl | exact Ex.neqSN rfl rfl | exact Ex.lenStr rfl)) rfl (fun _ h => h.fit) ?_
            refine ra_take 4 rfl (by kernel_rfl) (by kernel_rfl) rfl (by (first | (constructor <;> first | rfl | exact RdC.rd | exact inferInstance) | exact Ex.pickF rfl rfl | exact Ex.eqlS rfl rfl | exact Ex.neqS rfl rfl | exact Ex.eqlPN rfl rfl | exact Ex.neqPN rfl rfl | exact Ex.eqlSN rfl rfl | exact Ex.neqSN rfl rfl | exact Ex.lenStr rfl)) rfl (fun _ h => h.fit) ?_
            refine ra_take 5 rfl (by kernel_rfl) (by kernel_rfl) rfl (by (first | (constructor <;> first | rfl | exact RdC.rd | exact inferInstance) | exact Ex.pickF rfl rfl | exact Ex.eqlS rfl rfl | exact Ex.neqS rfl rfl | exact Ex.eqlPN rfl rfl | exact Ex.neqPN rfl rfl | exact Ex.eqlSN rfl rfl | exact Ex.neqSN rfl rfl | exact Ex.lenStr rfl)) rfl (fun _ h => h.fit) ?_
            refine ra_take 6 rfl (by kernel_rfl) (by kernel_rfl) rfl (by (first | (constructor <;> first | rfl | exact RdC.rd | exact inferInstance) | exact Ex.pickF rfl rfl | exact Ex.eqlS rfl rfl | exact Ex.neqS rfl rfl | exact Ex.eqlPN rfl rfl | exact Ex.neqPN rfl rfl | exact Ex.eqlSN rfl rfl | exact Ex.neqSN rfl rfl | exact Ex.lenStr rfl)) rfl (fun _ h => h.fit) ?_
            refine ra_all (rs := [7]) (by kernel_rfl) rfl ?_
            refine each_op rfl rfl rfl (opR_fn rfl (Call.heap (fun w h => by (first | exact h | exact h.sw1 | exact h.sw2 | exact h.sw3 | exact h.sw4 | exact h.sw5 | exact h.sw6 | exact h.sw7 | exact h.sw8 | exact h.pull2 | exact h.pull3 | exact h.pull4 | exact h.pull5 | exact h.fit)) ((Keeps_c W0 br ⟨x.e, x.n⟩ x.m f.b _).mono ?_))) each_nil
            rintro v H' ⟨rfl, rfl⟩
            refine ⟨.inl (by kernel_rfl), ?_⟩
            refine ra_end (by kernel_rfl) ?_
            refine qe_midc ((keep f.b ⟨x.e, x.n⟩ x.m)) (by rw [if_pos (by simp at h39; omega)]) ⟨rfl, rfl, rfl, trivial⟩ (fun w h => by first | exact h.fit | exact At.top [_, _, _, _, _] [3, 4, 0] h)
          · refine ct_skip ?_
            refine qe_midc (f.b) (by rw [if_neg (by simp at h39; omega)]) ⟨rfl, rfl, rfl, trivial⟩ (fun w h => by first | exact h.fit | exact h)
        · rintro z rfl
          refine ct_seq ?_
          refine ct_region ?_
          iterate 2 (first | refine rs_ex rfl (by (first | (constructor <;> first | rfl | exact RdC.rd | exact inferInstance) | exact Ex.pickF rfl rfl | exact Ex.eqlS rfl rfl | exact Ex.neqS rfl rfl | exact Ex.eqlPN rfl rfl | exact Ex.neqPN rfl rfl | exact Ex.eqlSN rfl rfl | exact Ex.neqSN rfl rfl | exact Ex.lenStr rfl)) rfl ?_ | refine rs_skip rfl rfl ?_)
          refine rs_end ?_
          refine qe_then ?_
          refine ct_ret ?_
          exact retM (qe_heap (H' := SlT (α := Msg) 34 (.slice none 0 0) [] :: FolC b { f with b := if f.b.length < 64 then keep f.b ⟨x.e, x.n⟩ x.m else f.b } :: H) (fun w h => At.slt_nil (α := Msg) 34 (FolC.shut (f := { f with b := if f.b.length < 64 then keep f.b ⟨x.e, x.n⟩ x.m else f.b }) h)) (ret2 rfl rfl rfl ⟨_, by rw [Fol.recv, if_neg hok, if_pos hlt], by rw [Fol.recv, if_neg hok, if_pos hlt]⟩))
      · have hlt : ¬ f.e < x.e := by simpa using h27
        refine ct_seq ?_
        refine ct_draw0 (by kernel_rfl) ?_
        refine ra_take 0 rfl (by kernel_rfl) (by kernel_rfl) rfl (by (first | (constructor <;> first | rfl | exact RdC.rd | exact inferInstance) | exact Ex.pickF rfl rfl | exact Ex.eqlS rfl rfl | exact Ex.neqS rfl rfl | exact Ex.eqlPN rfl rfl | exact Ex.neqPN rfl rfl | exact Ex.eqlSN rfl rfl | exact Ex.neqSN rfl rfl | exact Ex.lenStr rfl)) rfl (fun _ h => h.fit) ?_
        refine ra_take 1 rfl (by kernel_rfl) (by kernel_rfl) rfl (by (first | (constructor <;> first | rfl | exact RdC.rd | exact inferInstance) | exact Ex.pickF rfl rfl | exact Ex.eqlS rfl rfl | exact Ex.neqS rfl rfl | exact Ex.eqlPN rfl rfl | exact Ex.neqPN rfl rfl | exact Ex.eqlSN rfl rfl | exact Ex.neqSN rfl rfl | exact Ex.lenStr rfl)) rfl (fun _ h => h.fit) ?_
        refine ra_take 2 rfl (by kernel_rfl) (by kernel_rfl) rfl (by (first | (constructor <;> first | rfl | exact RdC.rd | exact inferInstance) | exact Ex.pickF rfl rfl | exact Ex.eqlS rfl rfl | exact Ex.neqS rfl rfl | exact Ex.eqlPN rfl rfl | exact Ex.neqPN rfl rfl | exact Ex.eqlSN rfl rfl | exact Ex.neqSN rfl rfl | exact Ex.lenStr rfl)) rfl (fun _ h => h.fit) ?_
        refine ra_take 3 rfl (by kernel_rfl) (by kernel_rfl) rfl (by (first | (constructor <;> first | rfl | exact RdC.rd | exact inferInstance) | exact Ex.pickF rfl rfl | exact Ex.eqlS rfl rfl | exact Ex.neqS rfl rfl | exact Ex.eqlPN rfl rfl | exact Ex.neqPN rfl rfl | exact Ex.eqlSN rfl rfl | exact Ex.neqSN rfl rfl | exact Ex.lenStr rfl)) rfl (fun _ h => h.fit) ?_
        refine ra_take 4 rfl (by kernel_rfl) (by kernel_rfl) rfl (by (first | (constructor <;> first | rfl | exact RdC.rd | exact inferInstance) | exact Ex.pickF rfl rfl | exact Ex.eqlS rfl rfl | exact Ex.neqS rfl rfl | exact Ex.eqlPN rfl rfl | exact Ex.neqPN rfl rfl | exact Ex.eqlSN rfl rfl | exact Ex.neqSN rfl rfl | exact Ex.lenStr rfl)) rfl (fun _ h => h.fit) ?_
        refine ra_take 5 rfl (by kernel_rfl) (by kernel_rfl) rfl (by (first | (constructor <;> first | rfl | exact RdC.rd | exact inferInstance) | exact Ex.pickF rfl rfl | exact Ex.eqlS rfl rfl | exact Ex.neqS rfl rfl | exact Ex.eqlPN rfl rfl | exact Ex.neqPN rfl rfl | exact Ex.eqlSN rfl rfl | exact Ex.neqSN rfl rfl | exact Ex.lenStr rfl)) rfl (fun _ h => h.fit) ?_
        refine ra_take 6 rfl (by kernel_rfl) (by kernel_rfl) rfl (by (first | (constructor <;> first | rfl | exact RdC.rd | exact inferInstance) | exact Ex.pickF rfl rfl | exact Ex.eqlS rfl rfl | exact Ex.neqS rfl rfl | exact Ex.eqlPN rfl rfl | exact Ex.neqPN rfl rfl | exact Ex.eqlSN rfl rfl | exact Ex.neqSN rfl rfl | exact Ex.lenStr rfl)) rfl (fun _ h => h.fit) ?_
        refine ra_take 7 rfl (by kernel_rfl) (by kernel_rfl) rfl (by (first | (constructor <;> first | rfl | exact RdC.rd | exact inferInstance) | exact Ex.pickF rfl rfl | exact Ex.eqlS rfl rfl | exact Ex.neqS rfl rfl | exact Ex.eqlPN rfl rfl | exact Ex.neqPN rfl rfl | exact Ex.eqlSN rfl rfl | exact Ex.neqSN rfl rfl | exact Ex.lenStr rfl)) rfl (fun _ h => h.fit) ?_
        refine ra_take 8 rfl (by kernel_rfl) (by kernel_rfl) rfl (by (first | (constructor <;> first | rfl | exact RdC.rd | exact inferInstance) | exact Ex.pickF rfl rfl | exact Ex.eqlS rfl rfl | exact Ex.neqS rfl rfl | exact Ex.eqlPN rfl rfl | exact Ex.neqPN rfl rfl | exact Ex.eqlSN rfl rfl | exact Ex.neqSN rfl rfl | exact Ex.lenStr rfl)) rfl (fun _ h => h.fit) ?_
        refine ra_end (by kernel_rfl) ?_
        refine qe_then ?_
        refine ct_cond rfl (fun h48 => ?_) (fun h48 => ?_)
        · have hgt : x.e < f.e := by simpa using h48
          refine ct_seq ?_
          refine ct_region ?_
          iterate 2 (first | refine rs_ex rfl (by (first | (constructor <;> first | rfl | exact RdC.rd | exact inferInstance) | exact Ex.pickF rfl rfl | exact Ex.eqlS rfl rfl | exact Ex.neqS rfl rfl | exact Ex.eqlPN rfl rfl | exact Ex.neqPN rfl rfl | exact Ex.eqlSN rfl rfl | exact Ex.neqSN rfl rfl | exact Ex.lenStr rfl)) rfl ?_ | refine rs_skip rfl rfl ?_)
          refine rs_end ?_
          refine qe_then ?_
          refine ct_ret ?_
          exact retM (qe_heap (H' := SlT (α := Msg) 34 (.slice none 0 0) [] :: FolC b f :: H) (fun w h => At.slt_nil (α := Msg) 34 (FolC.shut (f := f) h.drop.drop)) (ret2 rfl rfl rfl ⟨_, by rw [Fol.recv, if_neg hok, if_neg hlt, if_pos hgt], by rw [Fol.recv, if_neg hok, if_neg hlt, if_pos hgt]⟩))
        · have hgt : ¬ x.e < f.e := by simpa using h48
          refine ct_seq ?_
          refine ct_draw0 (by kernel_rfl) ?_
          refine ra_take 0 rfl (by kernel_rfl) (by kernel_rfl) rfl (by (first | (constructor <;> first | rfl | exact RdC.rd | exact inferInstance) | exact Ex.pickF rfl rfl | exact Ex.eqlS rfl rfl | exact Ex.neqS rfl rfl | exact Ex.eqlPN rfl rfl | exact Ex.neqPN rfl rfl | exact Ex.eqlSN rfl rfl | exact Ex.neqSN rfl rfl | exact Ex.lenStr rfl)) rfl (fun _ h => h.fit) ?_
          refine ra_take 1 rfl (by kernel_rfl) (by kernel_rfl) rfl (by (first | (constructor <;> first | rfl | exact RdC.rd | exact inferInstance) | exact Ex.pickF rfl rfl | exact Ex.eqlS rfl rfl | exact Ex.neqS rfl rfl | exact Ex.eqlPN rfl rfl | exact Ex.neqPN rfl rfl | exact Ex.eqlSN rfl rfl | exact Ex.neqSN rfl rfl | exact Ex.lenStr rfl)) rfl (fun _ h => h.fit) ?_
          refine ra_take 2 rfl (by kernel_rfl) (by kernel_rfl) rfl (by (first | (constructor <;> first | rfl | exact RdC.rd | exact inferInstance) | exact Ex.pickF rfl rfl | exact Ex.eqlS rfl rfl | exact Ex.neqS rfl rfl | exact Ex.eqlPN rfl rfl | exact Ex.neqPN rfl rfl | exact Ex.eqlSN rfl rfl | exact Ex.neqSN rfl rfl | exact Ex.lenStr rfl)) rfl (fun _ h => h.fit) ?_
          refine ra_take 3 rfl (by kernel_rfl) (by kernel_rfl) rfl (by (first | (constructor <;> first | rfl | exact RdC.rd | exact inferInstance) | exact Ex.pickF rfl rfl | exact Ex.eqlS rfl rfl | exact Ex.neqS rfl rfl | exact Ex.eqlPN rfl rfl | exact Ex.neqPN rfl rfl | exact Ex.eqlSN rfl rfl | exact Ex.neqSN rfl rfl | exact Ex.lenStr rfl)) rfl (fun _ h => h.fit) ?_
          refine ra_take 4 rfl (by kernel_rfl) (by kernel_rfl) rfl (by (first | (constructor <;> first | rfl | exact RdC.rd | exact inferInstance) | exact Ex.pickF rfl rfl | exact Ex.eqlS rfl rfl | exact Ex.neqS rfl rfl | exact Ex.eqlPN rfl rfl | exact Ex.neqPN rfl rfl | exact Ex.eqlSN rfl rfl | exact Ex.neqSN rfl rfl | exact Ex.lenStr rfl)) rfl (fun _ h => h.fit) ?_
          refine ra_take 5 rfl (by kernel_rfl) (by kernel_rfl) rfl (by (first | (constructor <;> first | rfl | exact RdC.rd | exact inferInstance) | exact Ex.pickF rfl rfl | exact Ex.eqlS rfl rfl | exact Ex.neqS rfl rfl | exact Ex.eqlPN rfl rfl | exact Ex.neqPN rfl rfl | exact Ex.eqlSN rfl rfl | exact Ex.neqSN rfl rfl | exact Ex.lenStr rfl)) rfl (fun _ h => h.fit) ?_
          refine ra_take 6 rfl (by kernel_rfl) (by kernel_rfl) rfl (by (first | (constructor <;> first | rfl | exact RdC.rd | exact inferInstance) | exact Ex.pickF rfl rfl | exact Ex.eqlS rfl rfl | exact Ex.neqS rfl rfl | exact Ex.eqlPN rfl rfl | exact Ex.neqPN rfl rfl | exact Ex.eqlSN rfl rfl | exact Ex.neqSN rfl rfl | exact Ex.lenStr rfl)) rfl (fun _ h => h.fit) ?_
          refine ra_take 7 rfl (by kernel_rfl) (by kernel_rfl) rfl (by (first | (constructor <;> first | rfl | exact RdC.rd | exact inferInstance) | exact Ex.pickF rfl rfl | exact Ex.eqlS rfl rfl | exact Ex.neqS rfl rfl | exact Ex.eqlPN rfl rfl | exact Ex.neqPN rfl rfl | exact Ex.eqlSN rfl rfl | exact Ex.neqSN rfl rfl | exact Ex.lenStr rfl)) rfl (fun _ h => h.fit) ?_
          refine ra_end (by kernel_rfl) ?_
          refine qe_then ?_
          refine ct_cond rfl (fun h57 => ?_) (fun h57 => ?_)
          · have hnl : x.n < f.nx := by simpa using h57
            refine ct_seq ?_
            refine ct_region ?_
            iterate 2 (first | refine rs_ex rfl (by (first | (constructor <;> first | rfl | exact RdC.rd | exact inferInstance) | exact Ex.pickF rfl rfl | exact Ex.eqlS rfl rfl | exact Ex.neqS rfl rfl | exact Ex.eqlPN rfl rfl | exact Ex.neqPN rfl rfl | exact Ex.eqlSN rfl rfl | exact Ex.neqSN rfl rfl | exact Ex.lenStr rfl)) rfl ?_ | refine rs_skip rfl rfl ?_)
            refine rs_end ?_
            refine qe_then ?_
            refine ct_ret ?_
            exact retM (qe_heap (H' := SlT (α := Msg) 34 (.slice none 0 0) [] :: FolC b f :: H) (fun w h => At.slt_nil (α := Msg) 34 (FolC.shut (f := f) h.drop.drop)) (ret2 rfl rfl rfl ⟨_, by rw [Fol.recv, if_neg hok, if_neg hlt, if_neg hgt, if_pos hnl], by rw [Fol.recv, if_neg hok, if_neg hlt, if_neg hgt, if_pos hnl]⟩))
          · have hnl : ¬ x.n < f.nx := by simpa using h57
            have hrec : f.recv x = (((f.kept x).drain.1, 0), (f.kept x).drain.2) := by rw [Fol.recv, if_neg hok, if_neg hlt, if_neg hgt, if_neg hnl]
            have hkl := keep_len f.w ⟨x.e, x.n⟩ x.m
            have hdl := Fol.drain_len (f.kept x).w.length (f.kept x)
            have hkl2 : (f.kept x).w.length ≤ 1001 := by show (keep f.w ⟨x.e, x.n⟩ x.m).length ≤ 1001; omega
            have hdl2 : (f.kept x).drain.1.length ≤ 1001 := by unfold Fol.drain; omega
            refine ct_skip ?_
            refine qe_block 0 ?_
            refine qe_then ?_
            refine ct_seq ?_
            refine ct_draw0 (by kernel_rfl) ?_
            refine ra_take 0 rfl (by kernel_rfl) (by kernel_rfl) rfl (by (first | (constructor <;> first | rfl | exact RdC.rd | exact inferInstance) | exact Ex.pickF rfl rfl | exact Ex.eqlS rfl rfl | exact Ex.neqS rfl rfl | exact Ex.eqlPN rfl rfl | exact Ex.neqPN rfl rfl | exact Ex.eqlSN rfl rfl | exact Ex.neqSN rfl rfl | exact Ex.lenStr rfl)) rfl (fun _ h => h.fit) ?_
            refine ra_take 1 rfl (by kernel_rfl) (by kernel_rfl) rfl (by (first | (constructor <;> first | rfl | exact RdC.rd | exact inferInstance) | exact Ex.pickF rfl rfl | exact Ex.eqlS rfl rfl | exact Ex.neqS rfl rfl | exact Ex.eqlPN rfl rfl | exact Ex.neqPN rfl rfl | exact Ex.eqlSN rfl rfl | exact Ex.neqSN rfl rfl | exact Ex.lenStr rfl)) rfl (fun _ h => h.fit) ?_
            refine ra_take 2 rfl (by kernel_rfl) (by kernel_rfl) rfl (by (first | (constructor <;> first | rfl | exact RdC.rd | exact inferInstance) | exact Ex.pickF rfl rfl | exact Ex.eqlS rfl rfl | exact Ex.neqS rfl rfl | exact Ex.eqlPN rfl rfl | exact Ex.neqPN rfl rfl | exact Ex.eqlSN rfl rfl | exact Ex.neqSN rfl rfl | exact Ex.lenStr rfl)) rfl (fun _ h => h.fit) ?_
            refine ra_take 3 rfl (by kernel_rfl) (by kernel_rfl) rfl (by (first | (constructor <;> first | rfl | exact RdC.rd | exact inferInstance) | exact Ex.pickF rfl rfl | exact Ex.eqlS rfl rfl | exact Ex.neqS rfl rfl | exact Ex.eqlPN rfl rfl | exact Ex.neqPN rfl rfl | exact Ex.eqlSN rfl rfl | exact Ex.neqSN rfl rfl | exact Ex.lenStr rfl)) rfl (fun _ h => h.fit) ?_
            refine ra_take 4 rfl (by kernel_rfl) (by kernel_rfl) rfl (by (first | (constructor <;> first | rfl | exact RdC.rd | exact inferInstance) | exact Ex.pickF rfl rfl | exact Ex.eqlS rfl rfl | exact Ex.neqS rfl rfl | exact Ex.eqlPN rfl rfl | exact Ex.neqPN rfl rfl | exact Ex.eqlSN rfl rfl | exact Ex.neqSN rfl rfl | exact Ex.lenStr rfl)) rfl (fun _ h => h.fit) ?_
            refine ra_take 5 rfl (by kernel_rfl) (by kernel_rfl) rfl (by (first | (constructor <;> first | rfl | exact RdC.rd | exact inferInstance) | exact Ex.pickF rfl rfl | exact Ex.eqlS rfl rfl | exact Ex.neqS rfl rfl | exact Ex.eqlPN rfl rfl | exact Ex.neqPN rfl rfl | exact Ex.eqlSN rfl rfl | exact Ex.neqSN rfl rfl | exact Ex.lenStr rfl)) rfl (fun _ h => h.fit) ?_
            refine ra_take 6 rfl (by kernel_rfl) (by kernel_rfl) rfl (by (first | (constructor <;> first | rfl | exact RdC.rd | exact inferInstance) | exact Ex.pickF rfl rfl | exact Ex.eqlS rfl rfl | exact Ex.neqS rfl rfl | exact Ex.eqlPN rfl rfl | exact Ex.neqPN rfl rfl | exact Ex.eqlSN rfl rfl | exact Ex.neqSN rfl rfl | exact Ex.lenStr rfl)) rfl (fun _ h => h.fit) ?_
            refine ra_all (rs := [7]) (by kernel_rfl) rfl ?_
            refine each_op rfl rfl rfl (opR_fn rfl (Call.heap (fun w h => by (first | exact h | exact h.sw1 | exact h.sw2 | exact h.sw3 | exact h.sw4 | exact h.sw5 | exact h.sw6 | exact h.sw7 | exact h.sw8 | exact h.pull2 | exact h.pull3 | exact h.pull4 | exact h.pull5 | exact h.fit)) ((Keeps_c W0 wr ⟨x.e, x.n⟩ x.m f.w _).mono ?_))) each_nil
            rintro v H' ⟨rfl, rfl⟩
            refine ⟨.inl (by kernel_rfl), ?_⟩
            refine ra_end (by kernel_rfl) ?_
            refine qe_then ?_
            refine ct_heap (H' := FolC b (f.kept x) :: H) (fun w h => FolC.shut (f := f.kept x) (by first | exact h.fit | exact At.top [_, _, _, _, _] [3, 0, 4] h)) ?_
            refine ct_seq ?_
            refine ct_region ?_
            refine rs_op rfl rfl (opR_alloc fun b7 => ?_)
            refine rs_end ?_
            refine qe_then ?_
            refine ct_seq ?_
            refine ct_seq ?_
            refine ct_region ?_
            (first | refine rs_ex rfl (by (first | (constructor <;> first | rfl | exact RdC.rd | exact inferInstance) | exact Ex.pickF rfl rfl | exact Ex.eqlS rfl rfl | exact Ex.neqS rfl rfl | exact Ex.eqlPN rfl rfl | exact Ex.neqPN rfl rfl | exact Ex.eqlSN rfl rfl | exact Ex.neqSN rfl rfl | exact Ex.lenStr rfl)) rfl ?_ | refine rs_skip rfl rfl ?_)
            refine rs_op rfl rfl (opR_fn rfl (Call.heap (fun w h => by (first | exact h | exact h.sw1 | exact h.sw2 | exact h.sw3 | exact h.sw4 | exact h.sw5 | exact h.sw6 | exact h.sw7 | exact h.sw8 | exact h.pull2 | exact h.pull3 | exact h.pull4 | exact h.pull5 | exact h.fit)) ((Ready_c W0 b _).mono ?_)))
            rintro v H' ⟨bc, rfl, rfl⟩
            refine rs_end ?_
            refine qe_then ?_
            refine ct_block ?_
            refine ct_rangeFuncK (ζ := List Msg) (f := 82) (first := []) (cap := [.pointer (some ⟨bc, 0, none⟩)]) encM (folIt bc b (f.kept x)) (fun _ => folIt bc b (f.kept x).drain.2) (fun z => [Star H, SlotC b7 22 34 z]) colM (fun z xs => z.length + xs.length ≤ 2000) (fun xs => xs = (f.kept x).drain.1) ([]) rfl (fun _ => rfl) rfl (fun w h => At.top [_, _, _] [1, 0, 2] (At.wrap (L := [_, _]) (At.star.2 (show At W0 ([_, _] ++ _) w from At.top [_, _, _] [1, 2, 0] (SlotC.shut (At.top [_, _, _, _] [2, 0, 1, 3] (At.slt_nil (α := Msg) 34 h))))))) (fun y gc T hy => Ready1_c W0 y gc _ _ [] bc b (f.kept x) T hy (fun _ _ => rfl) (by simp; omega)) ?_ ?_ ?_
            · rintro l' z m xs hz T2
              refine ct_sub (τ := [(75, _), (7, _)]) ⟨rfl, rfl, trivial⟩ ?_
              refine ct_app ?_
              refine ct_region ?_
              refine rs_op rfl rfl (opR_alloc fun b8 => ?_)
              refine rs_opN rfl (opR_store rfl rfl rfl rfl ?_)
              refine rs_end ?_
              refine qe_assignA (fun T' => ?_)
              refine ct_app ?_
              refine ct_ex (fun w h => SlotC.open (At.sw2 h)) ?_
              intro vo
              simp only [List.length_cons] at hz
              refine ct_block ?_
              refine ct_region ?_
              iterate 2 (first | refine rs_ex rfl (by (first | (constructor <;> first | rfl | exact RdC.rd | exact inferInstance) | exact Ex.pickF rfl rfl | exact Ex.eqlS rfl rfl | exact Ex.neqS rfl rfl | exact Ex.eqlPN rfl rfl | exact Ex.neqPN rfl rfl | exact Ex.eqlSN rfl rfl | exact Ex.neqSN rfl rfl | exact Ex.lenStr rfl)) rfl ?_ | refine rs_skip rfl rfl ?_)
              refine rs_op rfl rfl (opR_buildSlice rfl rfl rfl rfl fun b78 => ?_)
              refine rs_op rfl rfl (opR_fn rfl (Call.heap (fun w h => by (first | exact h | exact h.sw1 | exact h.sw2 | exact h.sw3 | exact h.sw4 | exact h.sw5 | exact h.sw6 | exact h.sw7 | exact h.sw8 | exact h.pull2 | exact h.pull3 | exact h.pull4 | exact h.pull5 | exact h.fit)) ((Joined_c W0 vo z (some ⟨b78, 0, none⟩) [m] 1 _ (by exact SlR.blk RdC.rd [m] rfl) (by simp; omega)).mono ?_)))
              rintro v H' rfl
              refine rs_prp (fun w h => h.slv) ?_; rintro ⟨p9, c9, e9, hv9⟩
              subst e9
              refine rs_opN rfl (opR_store rfl rfl rfl rfl ?_)
              refine rs_end ?_
              refine qe_block 2 ?_
              exact qe_heap (H' := Star H :: SlotC b7 22 34 (z ++ [m]) :: T') (fun w h => At.sw1 (SlotC.shut (At.top [_, _, _, _, _] [2, 0, 4] h))) (qe_roundA ⟨by rw [colM], by rw [colM]⟩)
            · intro z m xs hz _; rw [colM]; simp only [List.length_cons] at hz; simp; omega
            · rintro xs db rfl
              rw [runs_colM, List.nil_append]
              refine qe_exs (fun w h => SlotC.open (At.sw2 h)) ?_
              intro vo
              refine qe_heap (H' := Blk db (.deferred (some [])) :: Blk b7 (.cells #[vo] 22 (0, 0)) :: SlT 34 vo (f.kept x).drain.1 :: FolC b (f.kept x).drain.2 :: H) (fun w h => At.top [_, _, _, _, _] [2, 3, 4, 1] (folIt.open (At.top [_, _, _, _] [3, 0, 1, 2] (At.unwrap (L := [_, _, _, _]) (At.top [_, _, _, _, _] [3, 2, 0, 1, 4] h))))) ?_
              refine qe_block 1 ?_
              refine qe_then ?_
              refine ct_seq ?_
              refine ct_region ?_
              iterate 3 (first | refine rs_ex rfl (by (first | (constructor <;> first | rfl | exact RdC.rd | exact inferInstance) | exact Ex.pickF rfl rfl | exact Ex.eqlS rfl rfl | exact Ex.neqS rfl rfl | exact Ex.eqlPN rfl rfl | exact Ex.neqPN rfl rfl | exact Ex.eqlSN rfl rfl | exact Ex.neqSN rfl rfl | exact Ex.lenStr rfl)) rfl ?_ | refine rs_skip rfl rfl ?_)
              refine rs_end ?_
              refine qe_then ?_
              refine ct_ret ?_
              exact retM_mark (retM (qe_heap (H' := SlT 34 vo (f.kept x).drain.1 :: FolC b (f.kept x).drain.2 :: H) (fun w h => h.drop) (ret2 rfl rfl rfl ⟨_, by rw [hrec], by rw [hrec]⟩)))
/-! ### Moving -/
instance : Inhabited Numb := ⟨Numb.zero⟩
def numCmp (x y : Numb) : Int := cmpV x.n y.n
theorem NumCmp_c (W0 : World) (x y : Numb) (H : List Chunk) : Call Try.prog W0 65 [x.v, y.v] H (fun v H' => v = .int .i64 (numCmp x y) ∧ H' = H) := by
  refine call_enter Try.func65 rfl Try.ntmps65 rfl ?_

  refine ct_seq ?_
  refine ct_region ?_
  refine rs_op rfl rfl (opR_box rfl fun b2 => ?_)
  refine rs_op rfl rfl (opR_box rfl fun b3 => ?_)
  (first | refine rs_ex rfl (by (first | (constructor <;> first | rfl | exact RdC.rd | exact inferInstance) | exact Ex.pickF rfl rfl | exact Ex.eqlS rfl rfl | exact Ex.neqS rfl rfl | exact Ex.eqlPN rfl rfl | exact Ex.neqPN rfl rfl | exact Ex.eqlSN rfl rfl | exact Ex.neqSN rfl rfl | exact Ex.lenStr rfl)) rfl ?_ | refine rs_skip rfl rfl ?_)
  refine rs_end ?_
  refine qe_then ?_
  refine ct_seq ?_
  refine ct_region ?_
  iterate 4 (first | refine rs_ex rfl (by (first | (constructor <;> first | rfl | exact RdC.rd | exact inferInstance) | exact Ex.pickF rfl rfl | exact Ex.eqlS rfl rfl | exact Ex.neqS rfl rfl | exact Ex.eqlPN rfl rfl | exact Ex.neqPN rfl rfl | exact Ex.eqlSN rfl rfl | exact Ex.neqSN rfl rfl | exact Ex.lenStr rfl)) rfl ?_ | refine rs_skip rfl rfl ?_)
  refine rs_op rfl rfl (opR_fn rfl (Call.heap (fun w h => by (first | exact h | exact h.sw1 | exact h.sw2 | exact h.sw3 | exact h.sw4 | exact h.sw5 | exact h.sw6 | exact h.sw7 | exact h.sw8 | exact h.pull2 | exact h.pull3 | exact h.pull4 | exact h.pull5 | exact h.fit)) ((CmpU_c W0 x.n y.n _).mono ?_)))
  rintro v H' ⟨rfl, rfl⟩
  (first | refine rs_ex rfl (by (first | (constructor <;> first | rfl | exact RdC.rd | exact inferInstance) | exact Ex.pickF rfl rfl | exact Ex.eqlS rfl rfl | exact Ex.neqS rfl rfl | exact Ex.eqlPN rfl rfl | exact Ex.neqPN rfl rfl | exact Ex.eqlSN rfl rfl | exact Ex.neqSN rfl rfl | exact Ex.lenStr rfl)) rfl ?_ | refine rs_skip rfl rfl ?_)
  refine rs_end ?_
  refine qe_then ?_
  refine ct_ret ?_
  exact qe_fit (ret1 rfl rfl ⟨rfl, rfl⟩)
theorem lt_numCmp (x y : Numb) : ltOf numCmp x y = decide (x.n < y.n) := by
  unfold ltOf numCmp cmpV
  apply decide_eq_decide.2
  repeat' split
  all_goals omega
theorem swo_num : Go.Sort.SWO (ltOf numCmp) where
  irrefl x := by rw [lt_numCmp]; simp
  trans x y z h g := by
    rw [lt_numCmp] at *
    simp only [decide_eq_true_eq] at *
    omega
  ntrans x y z h g := by
    rw [lt_numCmp] at *
    simp only [decide_eq_false_iff_not] at *
    omega
theorem sort_num : SortOk (α := Numb) Try.prog 64 (.func (.func 65) #[] #[]) 51 (fun x y => ltOf numCmp y x = false) :=
  sort_ok (α := Numb) Try.sortNum 51 (TAgg.agg (P := Try.prog) (T := 51)) (TAgg.size (P := Try.prog) (T := 51)) numCmp swo_num _ fun W x y => (NumCmp_c W x y []).mono fun _ _ h => h.1
def Fol.recvs : Fol → List Numb → List Msg × Fol
  | f, [] => ([], f)
  | f, x :: l => ((f.recv x).1.1 ++ ((f.recv x).2.recvs l).1, ((f.recv x).2.recvs l).2)
def toN (q : Plc × Msg) : Numb := ⟨q.1.e, q.1.n, q.2⟩
def ofE (e : Int) (l : List (Plc × Msg)) : List (Plc × Msg) := l.filter fun q => decide (q.1.e = e)
def later (e : Int) (l : List (Plc × Msg)) : List (Plc × Msg) := l.filter fun q => decide (e < q.1.e)
def Fol.moved (f : Fol) (to : Int) : Fol := ⟨to, 1, [], later to f.b⟩
theorem Fol.recv_len (f : Fol) (x : Numb) : (f.recv x).1.1.length + (f.recv x).2.w.length ≤ f.w.length + 1 := by
  rw [Fol.recv]
  repeat' split
  all_goals try (simp only [List.length_nil]; omega)
  have h1 := Fol.drain_len (f.kept x).w.length (f.kept x)
  have h2 : (f.kept x).w.length ≤ f.w.length + 1 := keep_len _ _ _
  simp only
  unfold Fol.drain
  omega
theorem recvs_snoc : ∀ (l : List Numb) (f : Fol) (x : Numb), f.recvs (l ++ [x]) = ((f.recvs l).1 ++ ((f.recvs l).2.recv x).1.1, ((f.recvs l).2.recv x).2)
  | [], f, x => by simp [Fol.recvs]
  | y :: l, f, x => by
    rw [List.cons_append, Fol.recvs, recvs_snoc l, Fol.recvs, List.append_assoc]
theorem recvs_len : ∀ (l : List Numb) (f : Fol), (f.recvs l).1.length + (f.recvs l).2.w.length ≤ f.w.length + l.length
  | [], f => by simp [Fol.recvs]
  | x :: l, f => by
    have h1 := f.recv_len x
    have h2 := recvs_len l (f.recv x).2
    simp only [Fol.recvs, List.length_append, List.length_cons]
    omega
theorem Move_nil (W0 : World) (to : Int) (H : List Chunk) : Call Try.prog W0 30 [.pointer none, .int .u32 to] H (fun v H' => v = .tuple #[.slice none 0 0, .int .i64 1] ∧ H' = H) := by
  refine call_enter Try.func30 rfl Try.ntmps30 rfl ?_

  refine ct_seq ?_
  refine ct_region ?_
  iterate 2 (first | refine rs_ex rfl (by (first | (constructor <;> first | rfl | exact RdC.rd | exact inferInstance) | exact Ex.pickF rfl rfl | exact Ex.eqlS rfl rfl | exact Ex.neqS rfl rfl | exact Ex.eqlPN rfl rfl | exact Ex.neqPN rfl rfl | exact Ex.eqlSN rfl rfl | exact Ex.neqSN rfl rfl | exact Ex.lenStr rfl)) rfl ?_ | refine rs_skip rfl rfl ?_)
  refine rs_end ?_
  refine qe_then ?_
  refine ct_seq ?_
  refine ct_block ?_
  refine ct_seq ?_
  refine ct_region ?_
  iterate 3 (first | refine rs_ex rfl (by (first | (constructor <;> first | rfl | exact RdC.rd | exact inferInstance) | exact Ex.pickF rfl rfl | exact Ex.eqlS rfl rfl | exact Ex.neqS rfl rfl | exact Ex.eqlPN rfl rfl | exact Ex.neqPN rfl rfl | exact Ex.eqlSN rfl rfl | exact Ex.neqSN rfl rfl | exact Ex.lenStr rfl)) rfl ?_ | refine rs_skip rfl rfl ?_)
  refine rs_end ?_
  refine qe_then ?_
  refine ct_cond rfl (fun h14 => ?_) (fun h14 => by cases h14)
  refine ct_seq ?_
  refine ct_region ?_
  iterate 2 (first | refine rs_ex rfl (by (first | (constructor <;> first | rfl | exact RdC.rd | exact inferInstance) | exact Ex.pickF rfl rfl | exact Ex.eqlS rfl rfl | exact Ex.neqS rfl rfl | exact Ex.eqlPN rfl rfl | exact Ex.neqPN rfl rfl | exact Ex.eqlSN rfl rfl | exact Ex.neqSN rfl rfl | exact Ex.lenStr rfl)) rfl ?_ | refine rs_skip rfl rfl ?_)
  refine rs_end ?_
  refine qe_then ?_
  refine ct_ret ?_
  exact ret2 rfl rfl rfl ⟨rfl, rfl⟩
theorem Move_no (W0 : World) (b : Nat) (f : Fol) (to : Int) (H : List Chunk) (hto : ¬ f.e < to) :
    Call Try.prog W0 30 [.pointer (some ⟨b, 0, none⟩), .int .u32 to] (FolC b f :: H) (fun v H' => v = .tuple #[.slice none 0 0, .int .i64 110] ∧ H' = FolC b f :: H) := by
  refine Call.ex (fun w h => FolC.open h) ?_
  rintro ⟨wr, br⟩
  simp only
  refine call_enter Try.func30 rfl Try.ntmps30 rfl ?_

  refine ct_seq ?_
  refine ct_region ?_
  iterate 2 (first | refine rs_ex rfl (by (first | (constructor <;> first | rfl | exact RdC.rd | exact inferInstance) | exact Ex.pickF rfl rfl | exact Ex.eqlS rfl rfl | exact Ex.neqS rfl rfl | exact Ex.eqlPN rfl rfl | exact Ex.neqPN rfl rfl | exact Ex.eqlSN rfl rfl | exact Ex.neqSN rfl rfl | exact Ex.lenStr rfl)) rfl ?_ | refine rs_skip rfl rfl ?_)
  refine rs_end ?_
  refine qe_then ?_
  refine ct_seq ?_
  refine ct_block ?_
  refine ct_seq ?_
  refine ct_region ?_
  iterate 3 (first | refine rs_ex rfl (by (first | (constructor <;> first | rfl | exact RdC.rd | exact inferInstance) | exact Ex.pickF rfl rfl | exact Ex.eqlS rfl rfl | exact Ex.neqS rfl rfl | exact Ex.eqlPN rfl rfl | exact Ex.neqPN rfl rfl | exact Ex.eqlSN rfl rfl | exact Ex.neqSN rfl rfl | exact Ex.lenStr rfl)) rfl ?_ | refine rs_skip rfl rfl ?_)
  refine rs_end ?_
  refine qe_then ?_
  refine ct_cond rfl (fun h14 => by cases h14) (fun h14 => ?_)
  refine ct_seq ?_
  refine ct_region ?_
  iterate 4 (first | refine rs_ex rfl (by (first | (constructor <;> first | rfl | exact RdC.rd | exact inferInstance) | exact Ex.pickF rfl rfl | exact Ex.eqlS rfl rfl | exact Ex.neqS rfl rfl | exact Ex.eqlPN rfl rfl | exact Ex.neqPN rfl rfl | exact Ex.eqlSN rfl rfl | exact Ex.neqSN rfl rfl | exact Ex.lenStr rfl)) rfl ?_ | refine rs_skip rfl rfl ?_)
  refine rs_op rfl rfl (opR_fn rfl (Call.heap (fun w h => by (first | exact h | exact h.sw1 | exact h.sw2 | exact h.sw3 | exact h.sw4 | exact h.sw5 | exact h.sw6 | exact h.sw7 | exact h.sw8 | exact h.pull2 | exact h.pull3 | exact h.pull4 | exact h.pull5 | exact h.fit)) ((IsLater_c W0 b f.e to _ _ _ _ (by exact RdC.rd)).mono ?_)))
  rintro v H' ⟨rfl, rfl⟩
  iterate 2 (first | refine rs_ex rfl (by (first | (constructor <;> first | rfl | exact RdC.rd | exact inferInstance) | exact Ex.pickF rfl rfl | exact Ex.eqlS rfl rfl | exact Ex.neqS rfl rfl | exact Ex.eqlPN rfl rfl | exact Ex.neqPN rfl rfl | exact Ex.eqlSN rfl rfl | exact Ex.neqSN rfl rfl | exact Ex.lenStr rfl)) rfl ?_ | refine rs_skip rfl rfl ?_)
  refine rs_end ?_
  refine qe_then ?_
  refine ct_cond rfl (fun h17 => ?_) (fun h17 => by simp at h17; omega)
  refine ct_seq ?_
  refine ct_region ?_
  iterate 2 (first | refine rs_ex rfl (by (first | (constructor <;> first | rfl | exact RdC.rd | exact inferInstance) | exact Ex.pickF rfl rfl | exact Ex.eqlS rfl rfl | exact Ex.neqS rfl rfl | exact Ex.eqlPN rfl rfl | exact Ex.neqPN rfl rfl | exact Ex.eqlSN rfl rfl | exact Ex.neqSN rfl rfl | exact Ex.lenStr rfl)) rfl ?_ | refine rs_skip rfl rfl ?_)
  refine rs_end ?_
  refine qe_then ?_
  refine ct_ret ?_
  exact qe_heap (fun w h => FolC.shut (f := f) h) (ret2 rfl rfl rfl ⟨rfl, rfl⟩)
end Go.Rost
