/- The model of a log and its reference, without the program: they tell the same. -/
import Derived.Test.YtgnjjbaeehbheaaRh
import Derived.Test.YtgnjjbaeehbheaaFe
namespace Go.Rost
open Go Go.RowKit Go.Proofs

theorem of_nil (f : Int) : of [] f = [] := rfl
theorem mem_of {l : List Msg} {f : Int} {y : Msg} : y ∈ of l f ↔ y ∈ l ∧ y.id.from_ = f := by simp [of]
structure Sim (s : Mod) (r : RMod) : Prop where
  log : s.book.log = r.log
  del : s.del = r.del
  acc : ∀ i y, look s.acc i = some y ↔ (y ∈ r.acc ∧ y.id = i)
  nxt : ∀ f, (look s.nxt f).getD 0 = ((of r.acc f).length : Int)
  cnt : ∀ y ∈ r.acc, y.right = true ∧ y.id.count ≤ ((of r.acc y.id.from_).length : Int)
theorem sim_new (k : Nat) : Sim (Mod.new k) (RMod.new k) := ⟨rfl, rfl, fun i y => by simp [Mod.new, RMod.new, look_nil], fun f => rfl, fun y hy => by simp [RMod.new] at hy⟩
theorem Sim.accOK {s : Mod} {r : RMod} (h : Sim s r) {n : Nat} (hr : r.Ok n) (hn : n ≤ 50000) (x : Happ) : s.accOK x = r.accOK x := by
  unfold Mod.accOK RMod.accOK Mod.nextOf
  have h1 := of_le r.acc x.node
  have h2 := hr.acc
  rw [h.nxt, wrap32 (by omega) (by omega)]
theorem Sim.accept {s : Mod} {r : RMod} (h : Sim s r) {n : Nat} (hr : r.Ok n) (hn : n ≤ 50000) (x : Happ) (e : r.accOK x = true) : Sim (s.accept x) { r with acc := r.acc ++ [x.m] } := by
  have e' : s.accOK x = true := by rw [h.accOK hr hn, e]
  unfold Mod.accept
  rw [if_pos e']
  simp only [RMod.accOK, Bool.and_eq_true, decide_eq_true_eq] at e
  obtain ⟨e1, e2, e3⟩ := e
  have hle := of_le r.acc x.node
  have hra := hr.acc
  have hnx : s.nextOf x.node = ((of r.acc x.node).length : Int) + 1 := by unfold Mod.nextOf; rw [h.nxt, wrap32 (by omega) (by omega)]
  have hof : of (r.acc ++ [x.m]) x.node = of r.acc x.node ++ [x.m] := by rw [of_append, of_one_self e2]
  refine ⟨h.log, h.del, fun i y => ?_, fun f => ?_, fun y hy => ?_⟩
  · show look (mset s.acc x.m.id x.m) i = some y ↔ _
    rw [look_mset]
    by_cases hi : i = x.m.id
    · rw [if_pos hi]
      constructor
      · intro hy; cases hy; exact ⟨by simp, hi.symm⟩
      · rintro ⟨hy, hid⟩
        rcases List.mem_append.1 hy with hy | hy
        · have h1 := (h.cnt y hy).2
          rw [hid, hi, e2] at h1
          omega
        · rw [List.mem_singleton.1 hy]
    · rw [if_neg hi, h.acc]
      constructor
      · rintro ⟨hy, hid⟩; exact ⟨by simp [hy], hid⟩
      · rintro ⟨hy, hid⟩
        rcases List.mem_append.1 hy with hy | hy
        · exact ⟨hy, hid⟩
        · rw [List.mem_singleton.1 hy] at hid; exact absurd hid.symm hi
  · show (look (mset s.nxt x.node (s.nextOf x.node)) f).getD 0 = _
    rw [look_mset]
    by_cases hf : f = x.node
    · rw [if_pos hf, hf, hof, hnx]; simp
    · rw [if_neg hf, h.nxt, of_append, of_one_ne (fun h => hf (h.symm.trans e2)), List.append_nil]
  · rcases List.mem_append.1 hy with hy | hy
    · refine ⟨(h.cnt y hy).1, ?_⟩
      have h1 := (h.cnt y hy).2
      rw [of_append, List.length_append]
      omega
    · rw [List.mem_singleton.1 hy]
      refine ⟨e1, ?_⟩
      rw [e2, hof, e3]; simp
theorem Sim.layOK {s : Mod} {r : RMod} (h : Sim s r) {n : Nat} (hs : s.Ok n) (hn : n ≤ 50000) (x : Msg) : Go.Rost.layOK s.acc s.book x = r.layOK x := by
  unfold Go.Rost.layOK RMod.layOK
  by_cases hx : x ∈ r.acc
  · have h1 : look s.acc x.id = some x := (h.acc _ _).2 ⟨hx, rfl⟩
    obtain ⟨h2, h3, _⟩ := right_spec (h.cnt x hx).1
    rw [hs.bk.nextOf hn h2 h3, h.log, decide_eq_true h1, decide_eq_true hx]
  · have h1 : ¬ look s.acc x.id = some x := fun h1 => hx ((h.acc _ _).1 h1).1
    rw [decide_eq_false h1, decide_eq_false hx]
    rfl
theorem sim_happen {s : Mod} {r : RMod} (h : Sim s r) {n : Nat} (hs : s.Ok n) (hr : r.Ok n) (hn : n ≤ 49999) (x : Happ) : (s.happen x).1 = (r.happen x).1 ∧ Sim (s.happen x).2 (r.happen x).2 := by
  have hlen : s.del.length = r.del.length := by rw [h.del]
  unfold Mod.happen RMod.happen
  by_cases hin : x.node < 0 ∨ (r.del.length : Int) ≤ x.node
  · rw [if_pos hin, if_pos (by simp only [Mod.inRange, hlen]; rcases hin with hin | hin <;> simp <;> omega)]
    exact ⟨rfl, h⟩
  · rw [if_neg hin, if_neg (by simp only [Mod.inRange, hlen]; simp; omega)]
    by_cases hk1 : x.kind = 1
    · rw [if_pos hk1, if_neg (show ¬ x.kind = 2 by omega), if_pos hk1, h.accOK hr (by omega)]
      by_cases ha : r.accOK x = true
      · rw [if_pos ha, if_pos ha]; exact ⟨rfl, h.accept hr (by omega) x ha⟩
      · rw [if_neg ha, if_neg ha]; exact ⟨rfl, h⟩
    · rw [if_neg hk1, if_neg hk1]
      by_cases hk2 : x.kind = 2
      · rw [if_pos hk2, if_pos hk2]; exact ⟨rfl, h⟩
      · rw [if_neg hk2, if_neg hk2]
        by_cases hk3 : x.kind = 3
        · rw [if_pos hk3, if_pos hk3]
          unfold Mod.deliver
          rw [h.log, h.del, h.layOK hs (by omega)]
          simp only
          generalize (r.del[x.node.toNat]?).getD 0 = k
          by_cases hk : k = (r.log.length : Int)
          · rw [if_pos hk, if_pos hk]
            by_cases hl : r.layOK x.m = true
            · rw [if_pos hl, if_pos hl]
              refine ⟨rfl, ?_⟩
              have hl' := hl
              rw [← h.layOK hs (by omega)] at hl'
              simp only [Go.Rost.layOK, Bool.and_eq_true, decide_eq_true_eq] at hl'
              have ht := take_next hs.wt (hs.ac _ _ hl'.1).2 hl'.2
              exact ⟨by show (s.book.take x.m).log = _; rw [ht.1, h.log], rfl, h.acc, h.nxt, h.cnt⟩
            · rw [if_neg hl, if_neg hl]; exact ⟨rfl, h⟩
          · rw [if_neg hk, if_neg hk]
            by_cases hl : r.log[k.toNat]? = some x.m
            · rw [if_pos hl, if_pos hl]; exact ⟨rfl, h.log, rfl, h.acc, h.nxt, h.cnt⟩
            · rw [if_neg hl, if_neg hl]; exact ⟨rfl, h⟩
        · rw [if_neg hk3, if_neg hk3]; exact ⟨rfl, h⟩
theorem RMod.Ok.happen {r : RMod} {n : Nat} (h : r.Ok n) (x : Happ) : (r.happen x).2.Ok (n + 1) := by
  have h1 := h.acc
  have h2 := h.log
  have h3 := h.dl
  have triv : r.Ok (n + 1) := ⟨by omega, by omega, h3⟩
  unfold RMod.happen
  split
  · exact triv
  · split
    · exact triv
    · split
      · split
        · exact ⟨by simp; omega, by simp; omega, h3⟩
        · exact triv
      · split
        · simp only
          split
          · rename_i hk
            split
            · refine ⟨by simp; omega, by simp; omega, fun d hd => ?_⟩
              show 0 ≤ d ∧ d ≤ ((r.log ++ [x.m]).length : Int)
              rw [List.length_append, List.length_singleton]
              rcases List.mem_or_eq_of_mem_set hd with hd | rfl
              · have := h3 d hd; omega
              · rw [hk]; omega
            · exact triv
          · split
            · rename_i hg
              refine ⟨by simp; omega, by simp; omega, fun d hd => ?_⟩
              show 0 ≤ d ∧ d ≤ (r.log.length : Int)
              rcases List.mem_or_eq_of_mem_set hd with hd | rfl
              · exact h3 d hd
              · have hlt := (List.getElem?_eq_some_iff.1 hg).1
                cases e : r.del[x.node.toNat]? with
                | none => rw [e] at hlt; simp at hlt ⊢; omega
                | some d0 =>
                  have := h3 d0 (List.mem_of_getElem? e)
                  rw [e] at hlt; simp at hlt ⊢; omega
            · exact triv
        · exact triv
theorem RMod.ok_new (k : Nat) : (RMod.new k).Ok 0 := ⟨Nat.le_refl _, Nat.le_refl _, fun d hd => by
  have : d = 0 := List.eq_of_mem_replicate hd
  subst this
  exact ⟨Int.le_refl _, Int.le_refl _⟩⟩
theorem sim_behind {s : Mod} {r : RMod} (h : Sim s r) (f : Int) : s.behind f = r.behind f := by
  unfold Mod.behind RMod.behind
  rw [h.log, h.del]
theorem rhappen_del (r : RMod) (x : Happ) : (r.happen x).2.del.length = r.del.length := by
  unfold RMod.happen
  split
  · rfl
  · split
    · rfl
    · split
      · split <;> rfl
      · split
        · simp only
          split
          · split <;> simp
          · split <;> simp
        · rfl
theorem ModNew_bad (W0 : World) (n : Int) (H : List Chunk) (hn : n < 1 ∨ 16 < n) : Call Try.prog W0 33 [.int .i64 n] H (fun v H' => v = .tuple #[.pointer none, .int .i64 2] ∧ H' = H) :=
  (ModNew_c W0 n H).mono fun v H' h => by
    rcases h with ⟨_, h⟩ | ⟨b, k, rfl, h1, h2, _⟩
    · exact h
    · omega
theorem ModNew_ok (W0 : World) (k : Nat) (H : List Chunk) (h1 : 1 ≤ k) (h2 : k ≤ 16) : Call Try.prog W0 33 [.int .i64 (k : Int)] H (fun v H' => ∃ b, v = .tuple #[.pointer (some ⟨b, 0, none⟩), .int .i64 0] ∧ H' = ModC b (Mod.new k) :: H) :=
  (ModNew_c W0 k H).mono fun v H' h => by
    rcases h with ⟨h, _⟩ | ⟨b, k', hk, _, _, h3⟩
    · omega
    · obtain rfl : k = k' := by omega
      exact ⟨b, h3⟩
theorem RNew_bad (W0 : World) (n : Int) (H : List Chunk) (hn : n < 1 ∨ 16 < n) : Call Try.prog W0 35 [.int .i64 n] H (fun v H' => v = .tuple #[.pointer none, .int .i64 2] ∧ H' = H) :=
  (RNew_c W0 n H).mono fun v H' h => by
    rcases h with ⟨_, h⟩ | ⟨b, k, rfl, h1, h2, _⟩
    · exact h
    · omega
theorem RNew_ok (W0 : World) (k : Nat) (H : List Chunk) (h1 : 1 ≤ k) (h2 : k ≤ 16) : Call Try.prog W0 35 [.int .i64 (k : Int)] H (fun v H' => ∃ b, v = .tuple #[.pointer (some ⟨b, 0, none⟩), .int .i64 0] ∧ H' = RModC b (RMod.new k) :: H) :=
  (RNew_c W0 k H).mono fun v H' h => by
    rcases h with ⟨h, _⟩ | ⟨b, k', hk, _, _, h3⟩
    · omega
    · obtain rfl : k = k' := by omega
      exact ⟨b, h3⟩
end Go.Rost
