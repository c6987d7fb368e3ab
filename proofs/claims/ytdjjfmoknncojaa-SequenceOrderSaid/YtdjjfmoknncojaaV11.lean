/- The reference of layer 11 moves; the law SequenceFollows. -/
import Derived.Test.YtdjjfmoknncojaaR11
namespace Go.Rost
open Go Go.RowKit Go.Proofs

theorem Fol.Ok.mono {f : Fol} {N M : Nat} (h : f.Ok N) (hm : N ≤ M) : f.Ok M := ⟨h.wn, h.bn, h.dry, h.n0, by have := h.n1; omega, h.bl, h.bok⟩
theorem later_nodup {to : Int} {l : List (Plc × Msg)} (h : (mkeys l).Nodup) : (mkeys (later to l)).Nodup := h.sublist (List.filter_sublist.map _)
theorem Fol.Ok.moved {f : Fol} {N : Nat} (h : f.Ok N) (to : Int) : (f.moved to).Ok 0 :=
  ⟨List.nodup_nil, later_nodup h.bn, rfl, Int.le_refl _, by simp [Fol.moved], by have := List.length_filter_le (fun q : Plc × Msg => decide (to < q.1.e)) f.b; have := h.bl; show (later to f.b).length ≤ 64; unfold later; omega, fun q hq => h.bok q (List.mem_filter.1 hq).1⟩
theorem recvs_ok : ∀ (l : List Numb) {f : Fol} {N : Nat}, f.Ok N → N + l.length ≤ 100000 → (∀ x ∈ l, 0 ≤ x.n) → (f.recvs l).2.Ok (N + l.length)
  | [], f, N, h, _, _ => h
  | x :: l, f, N, h, hl, hx => by
    rw [List.length_cons] at hl
    have h1 := h.recv (by omega) x (hx x (by simp))
    have := recvs_ok l h1 (by omega) (fun y hy => hx y (by simp [hy]))
    rw [Fol.recvs, List.length_cons, show N + (l.length + 1) = N + 1 + l.length by omega]
    exact this
def Fol.now (f : Fol) (to : Int) : List Numb := (ofE to f.b).map toN
theorem now_spec {f : Fol} {N : Nat} (h : f.Ok N) (to : Int) : (∀ x ∈ f.now to, x.e = to ∧ x.m.right = true ∧ x.n ≠ 0 ∧ 1 ≤ x.n) ∧ (mkeys ((f.now to).map ofN)).Nodup ∧ (f.now to).length ≤ 64 := by
  refine ⟨fun x hx => ?_, ?_, ?_⟩
  · obtain ⟨q, hq, rfl⟩ := List.mem_map.1 hx
    have hf := List.mem_filter.1 hq
    have hb := h.bok q hf.1
    have he : q.1.e = to := by simpa using hf.2
    exact ⟨he, hb.1, by show q.1.n ≠ 0; omega, hb.2⟩
  · have e : (f.now to).map ofN = ofE to f.b := by
      unfold Fol.now
      rw [List.map_map]
      exact List.map_id' (ofE to f.b)
    rw [e]
    exact h.bn.sublist (List.filter_sublist.map _)
  · have := List.length_filter_le (fun q : Plc × Msg => decide (q.1.e = to)) f.b
    have := h.bl
    unfold Fol.now ofE
    rw [List.length_map]; omega
/-- What the reference tells where it is moved. -/
def Fol.mov (f : Fol) (to : Int) : (List Msg × Int) × Fol := if f.e < to then ((((f.moved to).recvs (f.now to)).1, 0), ((f.moved to).recvs (f.now to)).2) else (([], 110), f)
theorem mov_ok {f : Fol} {N : Nat} (h : f.Ok N) (to : Int) (hN : 64 ≤ N) : (f.mov to).2.Ok N := by
  rw [Fol.mov]
  obtain ⟨h1, h2, h3⟩ := now_spec h to
  split
  · exact (recvs_ok (f.now to) (h.moved to) (by omega) (fun x hx => by have := (h1 x hx).2.2.2; omega)).mono (by omega)
  · exact h
theorem MoveAll_c (W0 : World) (b : Nat) (f g : Fol) (N : Nat) (to : Int) (H : List Chunk) (hf : f.Ok N) (r : FolR f g) :
    Call Try.prog W0 30 [.pointer (some ⟨b, 0, none⟩), .int .u32 to] (FolC b f :: H)
      (fun v H' => ∃ u f', v = .tuple #[u, .int .i64 (g.mov to).1.2] ∧ FolR f' (g.mov to).2 ∧ (64 ≤ N → f'.Ok N) ∧ H' = SlT 34 u (g.mov to).1.1 :: FolC b f' :: H) := by
  by_cases hto : f.e < to
  · refine (Move_c W0 b f to H hto hf.bn (by have := hf.bl; omega)).mono ?_
    rintro v H' ⟨u, l, rfl, hp, rfl⟩
    obtain ⟨h1, h2, h3⟩ := now_spec hf to
    have hnow : g.now to = f.now to := by unfold Fol.now; rw [r.b]
    have hmv : g.moved to = f.moved to := by unfold Fol.moved; rw [r.b]
    have hpm := recvs_perm (f.moved to) (hf.moved to).dry (Int.le_refl _) hp h1 h2 (by show (1 : Int) + ((0 : Nat) : Int) + ((f.now to).length : Int) < 4294967296; omega)
    have e : g.mov to = ((((f.moved to).recvs (f.now to)).1, 0), ((f.moved to).recvs (f.now to)).2) := by rw [Fol.mov, if_pos (by rw [← r.e]; exact hto), hnow, hmv]
    have hlp := hp.length_eq
    have hln : ((ofE to f.b).map toN).length ≤ 64 := h3
    refine ⟨u, ((f.moved to).recvs l).2, by rw [e], by rw [e]; exact hpm.2, fun hN => ?_, ?_⟩
    · refine (recvs_ok l (hf.moved to) (by omega) (fun x hx => ?_)).mono (by omega)
      have := (h1 x (hp.subset hx)).2.2.2
      omega
    · rw [e]
      simp only
      rw [hpm.1]
      rfl
  · refine (Move_no W0 b f to H hto).post ?_
    rintro v H' ⟨rfl, rfl⟩
    have e : g.mov to = (([], 110), g) := by rw [Fol.mov, if_neg (by rw [← r.e]; exact hto)]
    exact ⟨_, ⟨.slice none 0 0, f, by rw [e], by rw [e]; exact r, fun _ => hf, rfl⟩, fun w h => by rw [e]; exact At.slt_nil (α := Msg) 34 h⟩
theorem ofE_snoc (to : Int) (l : List (Plc × Msg)) (q : Plc × Msg) : ofE to (l ++ [q]) = if q.1.e = to then ofE to l ++ [q] else ofE to l := by
  unfold ofE
  rw [List.filter_append]
  split
  · rename_i h; rw [List.filter_cons_of_pos (by simp [h])]; rfl
  · rename_i h; rw [List.filter_cons_of_neg (by simp [h])]; simp
theorem later_snoc (to : Int) (l : List (Plc × Msg)) (q : Plc × Msg) : later to (l ++ [q]) = if to < q.1.e then later to l ++ [q] else later to l := by
  unfold later
  rw [List.filter_append]
  split
  · rename_i h; rw [List.filter_cons_of_pos (by simp [h])]; rfl
  · rename_i h; rw [List.filter_cons_of_neg (by simp at h ⊢; omega)]; simp
theorem RMove_c (W0 : World) (r : Nat) (g : Fol) (N : Nat) (to : Int) (H : List Chunk) (hok : g.Ok N) :
    Call Try.prog W0 31 [.pointer (some ⟨r, 0, none⟩), .int .u32 to] (RFolC r g :: H)
      (fun v H' => ∃ u, v = .tuple #[u, .int .i64 (g.mov to).1.2] ∧ H' = SlT 34 u (g.mov to).1.1 :: RFolC r (g.mov to).2 :: H) := by
  have hbl := hok.bl
  refine Call.ex (fun w h => RFolC.open h) ?_
  rintro ⟨⟨⟨p1, c1⟩, p2, c2⟩, hv1, hv2⟩
  simp only at hv1 hv2 ⊢
  refine call_enter Try.func31 rfl Try.ntmps31 rfl ?_

  refine ct_seq ?_
  refine ct_region ?_
  iterate 2 (first | refine rs_ex rfl (by (first | (constructor <;> first | rfl | exact RdC.rd | exact inferInstance) | exact Ex.pickF rfl rfl | exact Ex.eqlS rfl rfl | exact Ex.neqS rfl rfl | exact Ex.eqlPN rfl rfl | exact Ex.neqPN rfl rfl | exact Ex.eqlSN rfl rfl | exact Ex.neqSN rfl rfl | exact Ex.lenStr rfl)) rfl ?_ | refine rs_skip rfl rfl ?_)
  refine rs_end ?_
  refine qe_then ?_
  refine ct_seq ?_
  refine ct_seq ?_
  refine ct_region ?_
  iterate 6 (first | refine rs_ex rfl (by (first | (constructor <;> first | rfl | exact RdC.rd | exact inferInstance) | exact Ex.pickF rfl rfl | exact Ex.eqlS rfl rfl | exact Ex.neqS rfl rfl | exact Ex.eqlPN rfl rfl | exact Ex.neqPN rfl rfl | exact Ex.eqlSN rfl rfl | exact Ex.neqSN rfl rfl | exact Ex.lenStr rfl)) rfl ?_ | refine rs_skip rfl rfl ?_)
  refine rs_end ?_
  refine qe_then ?_
  refine ct_cond rfl (fun h18 => ?_) (fun h18 => ?_)
  · have hto : ¬ g.e < to := by simp at h18; omega
    refine ct_seq ?_
    refine ct_region ?_
    iterate 2 (first | refine rs_ex rfl (by (first | (constructor <;> first | rfl | exact RdC.rd | exact inferInstance) | exact Ex.pickF rfl rfl | exact Ex.eqlS rfl rfl | exact Ex.neqS rfl rfl | exact Ex.eqlPN rfl rfl | exact Ex.neqPN rfl rfl | exact Ex.eqlSN rfl rfl | exact Ex.neqSN rfl rfl | exact Ex.lenStr rfl)) rfl ?_ | refine rs_skip rfl rfl ?_)
    refine rs_end ?_
    refine qe_then ?_
    refine ct_ret ?_
    exact qe_heap (H' := SlT (α := Msg) 34 (.slice none 0 0) [] :: RFolC r g :: H) (fun w h => At.slt_nil (α := Msg) 34 (RFolC.shut (g := g) h)) (ret2 rfl rfl rfl ⟨_, by rw [Fol.mov, if_neg hto], by rw [Fol.mov, if_neg hto]⟩)
  · have hto : g.e < to := by simp at h18; omega
    have emov : g.mov to = ((((g.moved to).recvs (g.now to)).1, 0), ((g.moved to).recvs (g.now to)).2) := by rw [Fol.mov, if_pos hto]
    refine ct_skip ?_
    refine qe_then ?_
    refine ct_seq ?_
    refine ct_region ?_
    iterate 4 (first | refine rs_ex rfl (by (first | (constructor <;> first | rfl | exact RdC.rd | exact inferInstance) | exact Ex.pickF rfl rfl | exact Ex.eqlS rfl rfl | exact Ex.neqS rfl rfl | exact Ex.eqlPN rfl rfl | exact Ex.neqPN rfl rfl | exact Ex.eqlSN rfl rfl | exact Ex.neqSN rfl rfl | exact Ex.lenStr rfl)) rfl ?_ | refine rs_skip rfl rfl ?_)
    refine rs_opN rfl (opR_store rfl rfl rfl rfl ?_)
    refine rs_end ?_
    refine qe_then ?_
    refine ct_seq ?_
    refine ct_region ?_
    iterate 3 (first | refine rs_ex rfl (by (first | (constructor <;> first | rfl | exact RdC.rd | exact inferInstance) | exact Ex.pickF rfl rfl | exact Ex.eqlS rfl rfl | exact Ex.neqS rfl rfl | exact Ex.eqlPN rfl rfl | exact Ex.neqPN rfl rfl | exact Ex.eqlSN rfl rfl | exact Ex.neqSN rfl rfl | exact Ex.lenStr rfl)) rfl ?_ | refine rs_skip rfl rfl ?_)
    refine rs_opN rfl (opR_store rfl rfl rfl rfl ?_)
    refine rs_end ?_
    refine qe_then ?_
    refine ct_seq ?_
    refine ct_region ?_
    iterate 3 (first | refine rs_ex rfl (by (first | (constructor <;> first | rfl | exact RdC.rd | exact inferInstance) | exact Ex.pickF rfl rfl | exact Ex.eqlS rfl rfl | exact Ex.neqS rfl rfl | exact Ex.eqlPN rfl rfl | exact Ex.neqPN rfl rfl | exact Ex.eqlSN rfl rfl | exact Ex.neqSN rfl rfl | exact Ex.lenStr rfl)) rfl ?_ | refine rs_skip rfl rfl ?_)
    refine rs_opN rfl (opR_store rfl rfl rfl rfl ?_)
    refine rs_end ?_
    refine qe_then ?_
    refine ct_seq ?_
    refine ct_region ?_
    iterate 5 (first | refine rs_ex rfl (by (first | (constructor <;> first | rfl | exact RdC.rd | exact inferInstance) | exact Ex.pickF rfl rfl | exact Ex.eqlS rfl rfl | exact Ex.neqS rfl rfl | exact Ex.eqlPN rfl rfl | exact Ex.neqPN rfl rfl | exact Ex.eqlSN rfl rfl | exact Ex.neqSN rfl rfl | exact Ex.lenStr rfl)) rfl ?_ | refine rs_skip rfl rfl ?_)
    refine rs_end ?_
    refine qe_then ?_
    refine ct_seq ?_
    refine ct_region ?_
    iterate 3 (first | refine rs_ex rfl (by (first | (constructor <;> first | rfl | exact RdC.rd | exact inferInstance) | exact Ex.pickF rfl rfl | exact Ex.eqlS rfl rfl | exact Ex.neqS rfl rfl | exact Ex.eqlPN rfl rfl | exact Ex.neqPN rfl rfl | exact Ex.eqlSN rfl rfl | exact Ex.neqSN rfl rfl | exact Ex.lenStr rfl)) rfl ?_ | refine rs_skip rfl rfl ?_)
    refine rs_opN rfl (opR_store rfl rfl rfl rfl ?_)
    refine rs_end ?_
    refine qe_then ?_
    refine ct_seq ?_
    refine ct_region ?_
    (first | refine rs_ex rfl (by (first | (constructor <;> first | rfl | exact RdC.rd | exact inferInstance) | exact Ex.pickF rfl rfl | exact Ex.eqlS rfl rfl | exact Ex.neqS rfl rfl | exact Ex.eqlPN rfl rfl | exact Ex.neqPN rfl rfl | exact Ex.eqlSN rfl rfl | exact Ex.neqSN rfl rfl | exact Ex.lenStr rfl)) rfl ?_ | refine rs_skip rfl rfl ?_)
    refine rs_end ?_
    refine qe_then ?_
    refine ct_heap (H' := Blk r (.cells #[.int .u32 to, .int .u32 1, .slice none 0 0, .slice none 0 0] 49 (0, 0)) :: SlT 51 (.slice none 0 0) ([] : List Numb) :: SlT 51 (.slice none 0 0) ([] : List Numb) :: SlT 51 (.slice p2 (g.b.map toN).length c2) (g.b.map toN) :: H) (fun w h => At.top [_, _, _, _, _] [2, 0, 1, 4] (At.slt_nil (α := Numb) 51 (At.slt_nil (α := Numb) 51 h))) ?_
    refine ct_seq ?_
    refine ct_seq ?_
    refine ct_region ?_
    (first | refine rs_ex rfl (by (first | (constructor <;> first | rfl | exact RdC.rd | exact inferInstance) | exact Ex.pickF rfl rfl | exact Ex.eqlS rfl rfl | exact Ex.neqS rfl rfl | exact Ex.eqlPN rfl rfl | exact Ex.neqPN rfl rfl | exact Ex.eqlSN rfl rfl | exact Ex.neqSN rfl rfl | exact Ex.lenStr rfl)) rfl ?_ | refine rs_skip rfl rfl ?_)
    refine rs_end ?_
    refine qe_then ?_
    refine ct_block ?_
    refine ct_loopc (ζ := Nat × (Option Addr × Nat) × Option Addr × Nat) (fun z => z.1 ≤ g.b.length ∧ SlV z.2.1.1 z.2.1.2 ((later to (g.b.take z.1)).map toN) ∧ SlV z.2.2.1 z.2.2.2 ((ofE to (g.b.take z.1)).map toN)) [(0, _), (1, _), (6, _)] (fun z => [(8, .int .i64 (z.1 : Int)), (7, .slice z.2.2.1 ((ofE to (g.b.take z.1)).map toN).length z.2.2.2)]) (fun z => Blk r (.cells #[.int .u32 to, .int .u32 1, .slice none 0 0, .slice z.2.1.1 ((later to (g.b.take z.1)).map toN).length z.2.1.2] 49 (0, 0)) :: SlT 51 (.slice z.2.1.1 ((later to (g.b.take z.1)).map toN).length z.2.1.2) ((later to (g.b.take z.1)).map toN) :: SlT 51 (.slice z.2.2.1 ((ofE to (g.b.take z.1)).map toN).length z.2.2.2) ((ofE to (g.b.take z.1)).map toN) :: SlT 51 (.slice p2 (g.b.map toN).length c2) (g.b.map toN) :: H) (fun z => g.b.length - z.1) ((0, (none, 0), none, 0)) (⟨Nat.zero_le _, ⟨Nat.zero_le _, .inl ⟨rfl, rfl, rfl⟩⟩, ⟨Nat.zero_le _, .inl ⟨rfl, rfl, rfl⟩⟩⟩) ⟨rfl, rfl, rfl, rfl, rfl, trivial⟩ (fun w h => by first | exact h.fit | exact h) ?_
    rintro ⟨i, ⟨pb, cb⟩, pn, cn⟩ ⟨hi, hvb, hvn⟩
    simp only at hi hvb hvn ⊢
    have hll := List.length_filter_le (fun q : Plc × Msg => decide (to < q.1.e)) (g.b.take i)
    have hnl := List.length_filter_le (fun q : Plc × Msg => decide (q.1.e = to)) (g.b.take i)
    have htl : (g.b.take i).length = i := by simp; omega
    have hll2 : (later to (g.b.take i)).length ≤ 64 := by unfold later; omega
    have hnl2 : (ofE to (g.b.take i)).length ≤ 64 := by unfold ofE; omega
    refine ct_seq ?_
    refine ct_seq ?_
    refine ct_region ?_
    iterate 4 (first | refine rs_ex rfl (by (first | (constructor <;> first | rfl | exact RdC.rd | exact inferInstance) | exact Ex.pickF rfl rfl | exact Ex.eqlS rfl rfl | exact Ex.neqS rfl rfl | exact Ex.eqlPN rfl rfl | exact Ex.neqPN rfl rfl | exact Ex.eqlSN rfl rfl | exact Ex.neqSN rfl rfl | exact Ex.lenStr rfl)) rfl ?_ | refine rs_skip rfl rfl ?_)
    refine rs_end ?_
    refine qe_then ?_
    refine ct_cond rfl (fun h39 => ?_) (fun h39 => ?_)
    · have hi1 : i < g.b.length := by simp at h39; exact h39
      obtain ⟨q, hq⟩ : ∃ q, q = g.b[i] := ⟨_, rfl⟩
      have hq' : g.b[i]? = some q := by rw [hq]; exact List.getElem?_eq_getElem hi1
      have hqm : (g.b.map toN)[i]? = some (toN q) := by rw [List.getElem?_map, hq']; rfl
      obtain ⟨bo, rfl⟩ := hv2.some (i := i) (by simpa using hi1)
      have hts : g.b.take (i + 1) = g.b.take i ++ [q] := by rw [List.take_succ_eq_append_getElem hi1, ← hq]
      refine ct_skip ?_
      refine qe_then ?_
      refine ct_meetc (ζ := ((Option Addr × Nat) × List Numb) × (Option Addr × Nat) × List Numb) (fun z => z.1.2 = (later to (g.b.take (i + 1))).map toN ∧ SlV z.1.1.1 z.1.1.2 z.1.2 ∧ z.2.2 = (ofE to (g.b.take (i + 1))).map toN ∧ SlV z.2.1.1 z.2.1.2 z.2.2) [(0, _), (1, _), (6, _), (8, _)] (fun z => [(7, .slice z.2.1.1 z.2.2.length z.2.1.2)]) (fun z => Blk r (.cells #[.int .u32 to, .int .u32 1, .slice none 0 0, .slice z.1.1.1 z.1.2.length z.1.1.2] 49 (0, 0)) :: SlT 51 (.slice z.1.1.1 z.1.2.length z.1.1.2) z.1.2 :: SlT 51 (.slice z.2.1.1 z.2.2.length z.2.1.2) z.2.2 :: SlT 51 (.slice (some ⟨bo, 0, none⟩) (g.b.map toN).length c2) (g.b.map toN) :: H) ⟨rfl, rfl, rfl, rfl, trivial⟩ ?_ ?_
      · refine ct_block ?_
        refine ct_meetc (ζ := (Option Addr × Nat) × List Numb) (fun z => z.2 = (later to (g.b.take (i + 1))).map toN ∧ SlV z.1.1 z.1.2 z.2) [(0, _), (1, _), (6, _), (7, _), (8, _)] (fun z => []) (fun z => Blk r (.cells #[.int .u32 to, .int .u32 1, .slice none 0 0, .slice z.1.1 z.2.length z.1.2] 49 (0, 0)) :: SlT 51 (.slice z.1.1 z.2.length z.1.2) z.2 :: SlT 51 (.slice pn ((ofE to (g.b.take i)).map toN).length cn) ((ofE to (g.b.take i)).map toN) :: SlT 51 (.slice (some ⟨bo, 0, none⟩) (g.b.map toN).length c2) (g.b.map toN) :: H) ⟨rfl, rfl, rfl, rfl, rfl, trivial⟩ ?_ ?_
        · refine ct_seq ?_
          refine ct_region ?_
          iterate 2 (first | refine rs_ex rfl (by (first | (constructor <;> first | rfl | exact RdC.rd | exact inferInstance) | exact Ex.pickF rfl rfl | exact Ex.eqlS rfl rfl | exact Ex.neqS rfl rfl | exact Ex.eqlPN rfl rfl | exact Ex.neqPN rfl rfl | exact Ex.eqlSN rfl rfl | exact Ex.neqSN rfl rfl | exact Ex.lenStr rfl)) rfl ?_ | refine rs_skip rfl rfl ?_)
          refine rs_ex rfl (ex_indexAddr rfl rfl (by omega) (by simp; omega)) rfl ?_
          (first | refine rs_ex rfl (by (first | (constructor <;> first | rfl | exact RdC.rd | exact inferInstance) | exact Ex.pickF rfl rfl | exact Ex.eqlS rfl rfl | exact Ex.neqS rfl rfl | exact Ex.eqlPN rfl rfl | exact Ex.neqPN rfl rfl | exact Ex.eqlSN rfl rfl | exact Ex.neqSN rfl rfl | exact Ex.lenStr rfl)) rfl ?_ | refine rs_skip rfl rfl ?_)
          refine rs_ex rfl (ex_loadCell (k := 0) rfl (RdE.get hqm) rfl) rfl ?_
          iterate 2 (first | refine rs_ex rfl (by (first | (constructor <;> first | rfl | exact RdC.rd | exact inferInstance) | exact Ex.pickF rfl rfl | exact Ex.eqlS rfl rfl | exact Ex.neqS rfl rfl | exact Ex.eqlPN rfl rfl | exact Ex.neqPN rfl rfl | exact Ex.eqlSN rfl rfl | exact Ex.neqSN rfl rfl | exact Ex.lenStr rfl)) rfl ?_ | refine rs_skip rfl rfl ?_)
          refine rs_end ?_
          refine qe_then ?_
          refine ct_cond rfl (fun h48 => ?_) (fun h48 => ?_)
          · have hlt : to < q.1.e := by simpa [toN] using of_decide_eq_true h48
            refine ct_drawP [0, 2, 3] (by kernel_rfl) ?_
            refine ra_take 0 rfl (by kernel_rfl) (by kernel_rfl) rfl (by (first | (constructor <;> first | rfl | exact RdC.rd | exact inferInstance) | exact Ex.pickF rfl rfl | exact Ex.eqlS rfl rfl | exact Ex.neqS rfl rfl | exact Ex.eqlPN rfl rfl | exact Ex.neqPN rfl rfl | exact Ex.eqlSN rfl rfl | exact Ex.neqSN rfl rfl | exact Ex.lenStr rfl)) rfl (fun _ h => h.fit) ?_
            refine ra_take 1 rfl (by kernel_rfl) (by kernel_rfl) rfl (by (first | (constructor <;> first | rfl | exact RdC.rd | exact inferInstance) | exact Ex.pickF rfl rfl | exact Ex.eqlS rfl rfl | exact Ex.neqS rfl rfl | exact Ex.eqlPN rfl rfl | exact Ex.neqPN rfl rfl | exact Ex.eqlSN rfl rfl | exact Ex.neqSN rfl rfl | exact Ex.lenStr rfl)) rfl (fun _ h => h.fit) ?_
            refine ra_take 2 rfl (by kernel_rfl) (by kernel_rfl) rfl (by (first | (constructor <;> first | rfl | exact RdC.rd | exact inferInstance) | exact Ex.pickF rfl rfl | exact Ex.eqlS rfl rfl | exact Ex.neqS rfl rfl | exact Ex.eqlPN rfl rfl | exact Ex.neqPN rfl rfl | exact Ex.eqlSN rfl rfl | exact Ex.neqSN rfl rfl | exact Ex.lenStr rfl)) rfl (fun _ h => h.fit) ?_
            refine ra_take 3 rfl (by kernel_rfl) (by kernel_rfl) rfl (by (first | (constructor <;> first | rfl | exact RdC.rd | exact inferInstance) | exact Ex.pickF rfl rfl | exact Ex.eqlS rfl rfl | exact Ex.neqS rfl rfl | exact Ex.eqlPN rfl rfl | exact Ex.neqPN rfl rfl | exact Ex.eqlSN rfl rfl | exact Ex.neqSN rfl rfl | exact Ex.lenStr rfl)) rfl (fun _ h => h.fit) ?_
            refine ra_take 4 rfl (by kernel_rfl) (by kernel_rfl) rfl (by (first | (constructor <;> first | rfl | exact RdC.rd | exact inferInstance) | exact Ex.pickF rfl rfl | exact Ex.eqlS rfl rfl | exact Ex.neqS rfl rfl | exact Ex.eqlPN rfl rfl | exact Ex.neqPN rfl rfl | exact Ex.eqlSN rfl rfl | exact Ex.neqSN rfl rfl | exact Ex.lenStr rfl)) rfl (fun _ h => h.fit) ?_
            refine ra_take 5 rfl (by kernel_rfl) (by kernel_rfl) rfl (by (first | (constructor <;> first | rfl | exact RdC.rd | exact inferInstance) | exact Ex.pickF rfl rfl | exact Ex.eqlS rfl rfl | exact Ex.neqS rfl rfl | exact Ex.eqlPN rfl rfl | exact Ex.neqPN rfl rfl | exact Ex.eqlSN rfl rfl | exact Ex.neqSN rfl rfl | exact Ex.lenStr rfl)) rfl (fun _ h => h.fit) ?_
            refine ra_take 6 rfl (by kernel_rfl) (by kernel_rfl) rfl (by (first | (constructor <;> first | rfl | exact RdC.rd | exact inferInstance) | exact Ex.pickF rfl rfl | exact Ex.eqlS rfl rfl | exact Ex.neqS rfl rfl | exact Ex.eqlPN rfl rfl | exact Ex.neqPN rfl rfl | exact Ex.eqlSN rfl rfl | exact Ex.neqSN rfl rfl | exact Ex.lenStr rfl)) rfl (fun _ h => h.fit) ?_
            refine ra_take 7 rfl (by kernel_rfl) (by kernel_rfl) rfl (ex_indexAddr rfl rfl (by omega) (by simp; omega)) rfl (fun _ h => h.fit) ?_
            refine ra_take 8 rfl (by kernel_rfl) (by kernel_rfl) rfl (ex_loadNumb (toN q) rfl (RdE.get hqm)) rfl (fun _ h => h.fit) ?_
            refine ra_all (rs := [9]) (by kernel_rfl) rfl ?_
            refine each_op rfl rfl rfl (opR_buildSlice rfl rfl rfl rfl fun b58 => ?_) each_nil
            refine ⟨.inr (fun w h => h.fit), ?_⟩
            refine ra_Snew ?_
            refine ra_all (rs := [10]) (by kernel_rfl) rfl ?_
            refine each_op rfl rfl rfl (opR_append [toN q] rfl rfl (by exact SlR.blk RdC.rd [toN q] rfl) rfl (by simp; omega) rfl fun p9 c9 hv9 => ?_) each_nil
            refine ⟨.inr (fun w h => h.fit), ?_⟩
            refine ra_take 11 rfl (by kernel_rfl) (by kernel_rfl) rfl (by (first | (constructor <;> first | rfl | exact RdC.rd | exact inferInstance) | exact Ex.pickF rfl rfl | exact Ex.eqlS rfl rfl | exact Ex.neqS rfl rfl | exact Ex.eqlPN rfl rfl | exact Ex.neqPN rfl rfl | exact Ex.eqlSN rfl rfl | exact Ex.neqSN rfl rfl | exact Ex.lenStr rfl)) rfl (fun _ h => h.fit) ?_
            refine ra_take 12 rfl (by kernel_rfl) (by kernel_rfl) rfl (by (first | (constructor <;> first | rfl | exact RdC.rd | exact inferInstance) | exact Ex.pickF rfl rfl | exact Ex.eqlS rfl rfl | exact Ex.neqS rfl rfl | exact Ex.eqlPN rfl rfl | exact Ex.neqPN rfl rfl | exact Ex.eqlSN rfl rfl | exact Ex.neqSN rfl rfl | exact Ex.lenStr rfl)) rfl (fun _ h => h.fit) ?_
            refine ra_all (rs := [13]) (by kernel_rfl) rfl ?_
            refine each_opN rfl rfl (opR_store rfl rfl rfl rfl ?_) each_nil
            refine ⟨.inl (by kernel_rfl), ?_⟩
            refine ra_end (by kernel_rfl) ?_
            refine qe_midc (((p9, c9), (later to (g.b.take i)).map toN ++ [toN q])) (⟨by simp only; rw [hts, later_snoc, if_pos hlt, List.map_append]; rfl, hv9⟩) ⟨rfl, rfl, rfl, rfl, rfl, trivial⟩ (fun w h => by first | exact h.fit | exact h)
          · have hlt : ¬ to < q.1.e := of_decide_eq_false h48
            refine ct_skip ?_
            refine qe_midc (((pb, cb), (later to (g.b.take i)).map toN)) (⟨by simp only; rw [hts, later_snoc, if_neg hlt], hvb⟩) ⟨rfl, rfl, rfl, rfl, rfl, trivial⟩ (fun w h => by first | exact h.fit | exact h)
        · rintro ⟨⟨pb2, cb2⟩, L2⟩ ⟨hL2, hvb2⟩
          simp only at hL2 hvb2 ⊢
          refine ct_seq ?_
          refine ct_region ?_
          iterate 2 (first | refine rs_ex rfl (by (first | (constructor <;> first | rfl | exact RdC.rd | exact inferInstance) | exact Ex.pickF rfl rfl | exact Ex.eqlS rfl rfl | exact Ex.neqS rfl rfl | exact Ex.eqlPN rfl rfl | exact Ex.neqPN rfl rfl | exact Ex.eqlSN rfl rfl | exact Ex.neqSN rfl rfl | exact Ex.lenStr rfl)) rfl ?_ | refine rs_skip rfl rfl ?_)
          refine rs_ex rfl (ex_indexAddr rfl rfl (by omega) (by simp; omega)) rfl ?_
          (first | refine rs_ex rfl (by (first | (constructor <;> first | rfl | exact RdC.rd | exact inferInstance) | exact Ex.pickF rfl rfl | exact Ex.eqlS rfl rfl | exact Ex.neqS rfl rfl | exact Ex.eqlPN rfl rfl | exact Ex.neqPN rfl rfl | exact Ex.eqlSN rfl rfl | exact Ex.neqSN rfl rfl | exact Ex.lenStr rfl)) rfl ?_ | refine rs_skip rfl rfl ?_)
          refine rs_ex rfl (ex_loadCell (k := 0) rfl (RdE.get hqm) rfl) rfl ?_
          iterate 2 (first | refine rs_ex rfl (by (first | (constructor <;> first | rfl | exact RdC.rd | exact inferInstance) | exact Ex.pickF rfl rfl | exact Ex.eqlS rfl rfl | exact Ex.neqS rfl rfl | exact Ex.eqlPN rfl rfl | exact Ex.neqPN rfl rfl | exact Ex.eqlSN rfl rfl | exact Ex.neqSN rfl rfl | exact Ex.lenStr rfl)) rfl ?_ | refine rs_skip rfl rfl ?_)
          refine rs_end ?_
          refine qe_then ?_
          refine ct_cond rfl (fun h68 => ?_) (fun h68 => ?_)
          · have heq : q.1.e = to := of_decide_eq_true h68
            refine ct_region ?_
            iterate 3 (first | refine rs_ex rfl (by (first | (constructor <;> first | rfl | exact RdC.rd | exact inferInstance) | exact Ex.pickF rfl rfl | exact Ex.eqlS rfl rfl | exact Ex.neqS rfl rfl | exact Ex.eqlPN rfl rfl | exact Ex.neqPN rfl rfl | exact Ex.eqlSN rfl rfl | exact Ex.neqSN rfl rfl | exact Ex.lenStr rfl)) rfl ?_ | refine rs_skip rfl rfl ?_)
            refine rs_ex rfl (ex_indexAddr rfl rfl (by omega) (by simp; omega)) rfl ?_
            refine rs_ex rfl (ex_loadNumb (toN q) rfl (RdE.get hqm)) rfl ?_
            refine rs_op rfl rfl (opR_buildSlice rfl rfl rfl rfl fun b74 => ?_)
            refine rs_op rfl rfl (opR_append [toN q] rfl rfl (by exact SlR.blk RdC.rd [toN q] rfl) rfl (by simp; omega) rfl fun p8 c8 hv8 => ?_)
            (first | refine rs_ex rfl (by (first | (constructor <;> first | rfl | exact RdC.rd | exact inferInstance) | exact Ex.pickF rfl rfl | exact Ex.eqlS rfl rfl | exact Ex.neqS rfl rfl | exact Ex.eqlPN rfl rfl | exact Ex.neqPN rfl rfl | exact Ex.eqlSN rfl rfl | exact Ex.neqSN rfl rfl | exact Ex.lenStr rfl)) rfl ?_ | refine rs_skip rfl rfl ?_)
            refine rs_end ?_
            refine qe_block 1 ?_
            refine qe_midc ((((pb2, cb2), L2), (p8, c8), (ofE to (g.b.take i)).map toN ++ [toN q])) (⟨hL2, hvb2, by simp only; rw [hts, ofE_snoc, if_pos heq, List.map_append]; rfl, hv8⟩) ⟨rfl, rfl, rfl, rfl, rfl, trivial⟩ (fun w h => by first | exact h.fit | exact h)
          · have heq : ¬ q.1.e = to := of_decide_eq_false h68
            refine ct_skip ?_
            refine qe_block 1 ?_
            refine qe_midc ((((pb2, cb2), L2), (pn, cn), (ofE to (g.b.take i)).map toN)) (⟨hL2, hvb2, by simp only; rw [hts, ofE_snoc, if_neg heq], hvn⟩) ⟨rfl, rfl, rfl, rfl, rfl, trivial⟩ (fun w h => by first | exact h.fit | exact h)
      · rintro ⟨⟨⟨pb3, cb3⟩, L3⟩, ⟨pn2, cn2⟩, M2⟩ ⟨hL3, hvb3, hM2, hvn2⟩
        simp only at hL3 hvb3 hM2 hvn2 ⊢
        subst hL3
        subst hM2
        refine ct_region ?_
        iterate 2 (first | refine rs_ex rfl (by (first | (constructor <;> first | rfl | exact RdC.rd | exact inferInstance) | exact Ex.pickF rfl rfl | exact Ex.eqlS rfl rfl | exact Ex.neqS rfl rfl | exact Ex.eqlPN rfl rfl | exact Ex.neqPN rfl rfl | exact Ex.eqlSN rfl rfl | exact Ex.neqSN rfl rfl | exact Ex.lenStr rfl)) rfl ?_ | refine rs_skip rfl rfl ?_)
        refine rs_rw (by rw [wrapS (by omega)]) ?_
        (first | refine rs_ex rfl (by (first | (constructor <;> first | rfl | exact RdC.rd | exact inferInstance) | exact Ex.pickF rfl rfl | exact Ex.eqlS rfl rfl | exact Ex.neqS rfl rfl | exact Ex.eqlPN rfl rfl | exact Ex.neqPN rfl rfl | exact Ex.eqlSN rfl rfl | exact Ex.neqSN rfl rfl | exact Ex.lenStr rfl)) rfl ?_ | refine rs_skip rfl rfl ?_)
        refine rs_end ?_
        refine qe_loopc ((i + 1, (pb3, cb3), pn2, cn2)) (⟨by simp only; omega, hvb3, hvn2⟩) (by first | omega | (simp only; omega)) ⟨rfl, rfl, rfl, rfl, rfl, trivial⟩ (fun w h => by first | exact h.fit | exact h)
    · have hie : i = g.b.length := by simp at h39; omega
      subst hie
      rw [List.take_length] at hvb hvn hll2 hnl2
      refine ct_exit ?_
      refine qe_then_exit ?_
      refine qe_loop_exit ?_
      refine qe_block_exit ?_
      refine qe_then ?_
      refine ct_seq ?_
      rw [List.take_length]
      obtain ⟨s1, s2, s3⟩ := now_spec hok to
      have hno : (ofE to g.b).map toN = g.now to := rfl
      rw [hno] at hvn ⊢
      refine ct_region ?_
      (first | refine rs_ex rfl (by (first | (constructor <;> first | rfl | exact RdC.rd | exact inferInstance) | exact Ex.pickF rfl rfl | exact Ex.eqlS rfl rfl | exact Ex.neqS rfl rfl | exact Ex.eqlPN rfl rfl | exact Ex.neqPN rfl rfl | exact Ex.eqlSN rfl rfl | exact Ex.neqSN rfl rfl | exact Ex.lenStr rfl)) rfl ?_ | refine rs_skip rfl rfl ?_)
      refine rs_end ?_
      refine qe_then ?_
      refine ct_heap (H' := SlT 34 (.slice none 0 0) ([] : List Msg) :: RFolC r (g.moved to) :: SlT 51 (.slice pn (g.now to).length cn) (g.now to) :: H) (fun w h => At.slt_nil (α := Msg) 34 (RFolC.shut (g := g.moved to) (v1 := .slice none 0 0) (v2 := .slice pb ((later to g.b).map toN).length cb) (At.top [_, _, _, _] [1, 0, 2, 3] (At.slt_nil (α := Numb) 51 (At.top [_, _, _, _] [0, 1, 2] h))))) ?_
      refine ct_seq ?_
      refine ct_seq ?_
      refine ct_region ?_
      (first | refine rs_ex rfl (by (first | (constructor <;> first | rfl | exact RdC.rd | exact inferInstance) | exact Ex.pickF rfl rfl | exact Ex.eqlS rfl rfl | exact Ex.neqS rfl rfl | exact Ex.eqlPN rfl rfl | exact Ex.neqPN rfl rfl | exact Ex.eqlSN rfl rfl | exact Ex.neqSN rfl rfl | exact Ex.lenStr rfl)) rfl ?_ | refine rs_skip rfl rfl ?_)
      refine rs_end ?_
      refine qe_then ?_
      refine ct_block ?_
      refine ct_loopc (ζ := Nat × (Option Addr × Nat) × List Msg × Fol) (fun z => z.1 ≤ (g.now to).length ∧ SlV z.2.1.1 z.2.1.2 z.2.2.1 ∧ z.2.2.1 = ((g.moved to).recvs ((g.now to).take z.1)).1 ∧ z.2.2.2 = ((g.moved to).recvs ((g.now to).take z.1)).2 ∧ z.2.2.2.Ok z.1) [(0, _), (7, _)] (fun z => [(10, .int .i64 (z.1 : Int)), (9, .slice z.2.1.1 z.2.2.1.length z.2.1.2)]) (fun z => SlT 34 (.slice z.2.1.1 z.2.2.1.length z.2.1.2) z.2.2.1 :: RFolC r z.2.2.2 :: SlT 51 (.slice pn (g.now to).length cn) (g.now to) :: H) (fun z => (g.now to).length - z.1) ((0, (none, 0), [], g.moved to)) (⟨Nat.zero_le _, ⟨Nat.le_refl _, .inl ⟨rfl, rfl, rfl⟩⟩, by simp [Fol.recvs], by simp [Fol.recvs], hok.moved to⟩) ⟨rfl, rfl, rfl, rfl, trivial⟩ (fun w h => by first | exact h.fit | exact h) ?_
      rintro ⟨j, ⟨po, co⟩, o, g1⟩ ⟨hj, hvo, ho, hg1, hok1⟩
      simp only at hj hvo ho hg1 hok1 ⊢
      have hrl := recvs_len ((g.now to).take j) (g.moved to)
      rw [← ho, ← hg1, List.length_take] at hrl
      have hw0 : (g.moved to).w.length = 0 := rfl
      refine ct_seq ?_
      refine ct_seq ?_
      refine ct_region ?_
      iterate 4 (first | refine rs_ex rfl (by (first | (constructor <;> first | rfl | exact RdC.rd | exact inferInstance) | exact Ex.pickF rfl rfl | exact Ex.eqlS rfl rfl | exact Ex.neqS rfl rfl | exact Ex.eqlPN rfl rfl | exact Ex.neqPN rfl rfl | exact Ex.eqlSN rfl rfl | exact Ex.neqSN rfl rfl | exact Ex.lenStr rfl)) rfl ?_ | refine rs_skip rfl rfl ?_)
      refine rs_end ?_
      refine qe_then ?_
      refine ct_cond rfl (fun h79 => ?_) (fun h79 => ?_)
      · have hj1 : j < (g.now to).length := by simp at h79; exact h79
        obtain ⟨bl, rfl⟩ := hvn.some hj1
        obtain ⟨x, hx⟩ : ∃ x, x = (g.now to)[j] := ⟨_, rfl⟩
        have hx' : (g.now to)[j]? = some x := by rw [hx]; exact List.getElem?_eq_getElem hj1
        have hst := recvs_snoc ((g.now to).take j) (g.moved to) x
        rw [← ho, ← hg1, show (g.now to).take j ++ [x] = (g.now to).take (j + 1) by rw [List.take_succ_eq_append_getElem hj1, ← hx]] at hst
        have hrx := g1.recv_len x
        have hx0 : 0 ≤ x.n := by have := (s1 x (List.mem_of_getElem? hx')).2.2.2; omega
        refine ct_skip ?_
        refine qe_then ?_
        refine ct_seq ?_
        refine ct_block ?_
        refine ct_seq ?_
        refine ct_region ?_
        iterate 3 (first | refine rs_ex rfl (by (first | (constructor <;> first | rfl | exact RdC.rd | exact inferInstance) | exact Ex.pickF rfl rfl | exact Ex.eqlS rfl rfl | exact Ex.neqS rfl rfl | exact Ex.eqlPN rfl rfl | exact Ex.neqPN rfl rfl | exact Ex.eqlSN rfl rfl | exact Ex.neqSN rfl rfl | exact Ex.lenStr rfl)) rfl ?_ | refine rs_skip rfl rfl ?_)
        refine rs_ex rfl (ex_indexAddr rfl rfl (by omega) (by omega)) rfl ?_
        refine rs_ex rfl (ex_loadNumb x rfl (RdE.get hx')) rfl ?_
        refine rs_op rfl rfl (opR_fn rfl (Call.heap (fun w h => by (first | exact h | exact h.sw1 | exact h.sw2 | exact h.sw3 | exact h.sw4 | exact h.sw5 | exact h.sw6 | exact h.sw7 | exact h.sw8 | exact h.pull2 | exact h.pull3 | exact h.pull4 | exact h.pull5 | exact h.fit)) ((RReceive_c W0 r g1 x j _ hok1 (by omega) hx0).mono ?_)))
        rintro v H' ⟨u, rfl, rfl⟩
        refine rs_prp (fun w h => h.slv) ?_; rintro ⟨pu, cu, eu, hvu⟩
        subst eu
        iterate 5 (first | refine rs_ex rfl (by (first | (constructor <;> first | rfl | exact RdC.rd | exact inferInstance) | exact Ex.pickF rfl rfl | exact Ex.eqlS rfl rfl | exact Ex.neqS rfl rfl | exact Ex.eqlPN rfl rfl | exact Ex.neqPN rfl rfl | exact Ex.eqlSN rfl rfl | exact Ex.neqSN rfl rfl | exact Ex.lenStr rfl)) rfl ?_ | refine rs_skip rfl rfl ?_)
        refine rs_end ?_
        refine qe_then ?_
        refine ct_region ?_
        iterate 2 (first | refine rs_ex rfl (by (first | (constructor <;> first | rfl | exact RdC.rd | exact inferInstance) | exact Ex.pickF rfl rfl | exact Ex.eqlS rfl rfl | exact Ex.neqS rfl rfl | exact Ex.eqlPN rfl rfl | exact Ex.neqPN rfl rfl | exact Ex.eqlSN rfl rfl | exact Ex.neqSN rfl rfl | exact Ex.lenStr rfl)) rfl ?_ | refine rs_skip rfl rfl ?_)
        refine rs_op rfl rfl (opR_append (g1.recv x).1.1 rfl rfl (by exact RdS.slR (len := (g1.recv x).1.1.length) inferInstance hvu) rfl (by omega) rfl fun p8 c8 hv8 => ?_)
        (first | refine rs_ex rfl (by (first | (constructor <;> first | rfl | exact RdC.rd | exact inferInstance) | exact Ex.pickF rfl rfl | exact Ex.eqlS rfl rfl | exact Ex.neqS rfl rfl | exact Ex.eqlPN rfl rfl | exact Ex.neqPN rfl rfl | exact Ex.eqlSN rfl rfl | exact Ex.neqSN rfl rfl | exact Ex.lenStr rfl)) rfl ?_ | refine rs_skip rfl rfl ?_)
        refine rs_end ?_
        refine qe_block 3 ?_
        refine qe_then ?_
        refine ct_region ?_
        iterate 2 (first | refine rs_ex rfl (by (first | (constructor <;> first | rfl | exact RdC.rd | exact inferInstance) | exact Ex.pickF rfl rfl | exact Ex.eqlS rfl rfl | exact Ex.neqS rfl rfl | exact Ex.eqlPN rfl rfl | exact Ex.neqPN rfl rfl | exact Ex.eqlSN rfl rfl | exact Ex.neqSN rfl rfl | exact Ex.lenStr rfl)) rfl ?_ | refine rs_skip rfl rfl ?_)
        refine rs_rw (by rw [wrapS (by omega)]) ?_
        (first | refine rs_ex rfl (by (first | (constructor <;> first | rfl | exact RdC.rd | exact inferInstance) | exact Ex.pickF rfl rfl | exact Ex.eqlS rfl rfl | exact Ex.neqS rfl rfl | exact Ex.eqlPN rfl rfl | exact Ex.neqPN rfl rfl | exact Ex.eqlSN rfl rfl | exact Ex.neqSN rfl rfl | exact Ex.lenStr rfl)) rfl ?_ | refine rs_skip rfl rfl ?_)
        refine rs_end ?_
        refine qe_loopc ((j + 1, (p8, c8), o ++ (g1.recv x).1.1, (g1.recv x).2)) (⟨by simp only; omega, hv8, by simp only; rw [hst], by simp only; rw [hst], hok1.recv (by omega) x hx0⟩) (by first | omega | (simp only; omega)) ⟨rfl, rfl, rfl, rfl, trivial⟩ (fun w h => by first | exact h.fit | exact h)
      · have hje : j = (g.now to).length := by simp at h79; omega
        subst hje
        rw [List.take_length] at ho hg1
        subst ho
        subst hg1
        refine ct_exit ?_
        refine qe_then_exit ?_
        refine qe_loop_exit ?_
        refine qe_block_exit ?_
        refine qe_then ?_
        refine ct_seq ?_
        refine ct_region ?_
        iterate 3 (first | refine rs_ex rfl (by (first | (constructor <;> first | rfl | exact RdC.rd | exact inferInstance) | exact Ex.pickF rfl rfl | exact Ex.eqlS rfl rfl | exact Ex.neqS rfl rfl | exact Ex.eqlPN rfl rfl | exact Ex.neqPN rfl rfl | exact Ex.eqlSN rfl rfl | exact Ex.neqSN rfl rfl | exact Ex.lenStr rfl)) rfl ?_ | refine rs_skip rfl rfl ?_)
        refine rs_end ?_
        refine qe_then ?_
        refine ct_ret ?_
        exact qe_heap (H' := SlT 34 (.slice po ((g.moved to).recvs (g.now to)).1.length co) ((g.moved to).recvs (g.now to)).1 :: RFolC r ((g.moved to).recvs (g.now to)).2 :: H) (fun w h => h.fit) (ret2 rfl rfl rfl ⟨_, by rw [emov], by rw [emov]⟩)
end Go.Rost
