/- The model of a log, without the program: what is kept. -/
import Derived.Test.YtgnjjbaeehbheaaMh
namespace Go.Rost
open Go Go.RowKit Go.Proofs

theorem take_next {k : Book} {x : Msg} (hw : k.waits = []) (hr : x.right = true) (hc : x.id.count = k.nextOf x.id.from_) :
    (k.take x).log = k.log ++ [x] ∧ (k.take x).waits = [] := by
  have hh : k.has x.id = false := by simp [Book.has, hw, look_nil, hc]
  have hid : x.id = ⟨x.id.from_, k.nextOf x.id.from_⟩ := by rw [← hc]
  have hput : k.put x = ⟨k.log, [(x.id, x)], k.next⟩ := by simp [Book.put, hw, mset]
  have hstep : (⟨k.log, [(x.id, x)], k.next⟩ : Book).step x.id.from_ = some ⟨k.log ++ [x], [], mset k.next x.id.from_ (IntKind.u32.wrap ((look k.next x.id.from_).getD 0 + 1))⟩ := by
    have hn : (⟨k.log, [(x.id, x)], k.next⟩ : Book).nextOf x.id.from_ = k.nextOf x.id.from_ := rfl
    unfold Book.step
    rw [hn, ← hid]
    simp [look_cons, mdel]
  rw [Book.take, if_neg (by simp [hr, hh]), hput, Book.drain]
  show (Book.drainN x.id.from_ 1 _).log = _ ∧ (Book.drainN x.id.from_ 1 _).waits = _
  rw [Book.drainN, hstep]
  exact ⟨rfl, rfl⟩
theorem dry_none {k : Book} (hw : k.waits = []) (f : Int) : k.Dry f := by unfold Book.Dry; rw [hw]; rfl
theorem Mod.Ok.mono {s : Mod} {n m : Nat} (h : s.Ok n) (hm : n ≤ m) : s.Ok m := ⟨h.bk.mono hm, h.wt, h.ac, h.dl⟩
theorem accept_del (s : Mod) (h : Happ) : (s.accept h).del = s.del := by unfold Mod.accept; split <;> rfl
theorem deliver_del (s : Mod) (h : Happ) : (s.deliver h).2.del.length = s.del.length := by unfold Mod.deliver; split <;> split <;> simp
theorem happen_del (s : Mod) (h : Happ) : (s.happen h).2.del.length = s.del.length := by
  unfold Mod.happen
  split
  · rfl
  · split
    · split
      · rw [accept_del]
      · rfl
    · split
      · rfl
      · split
        · split
          · exact deliver_del s h
          · rfl
        · rfl
theorem Mod.Ok.accept {s : Mod} {n : Nat} (hok : s.Ok n) (h : Happ) : (s.accept h).Ok n := by
  unfold Mod.accept
  split
  · rename_i ha
    refine ⟨hok.bk, hok.wt, fun i y hy => ?_, hok.dl⟩
    have hy' : look (mset s.acc h.m.id h.m) i = some y := hy
    rw [look_mset] at hy'
    split at hy'
    · rename_i e
      cases hy'
      refine ⟨e.symm, ?_⟩
      simp only [Mod.accOK, Bool.and_eq_true] at ha
      exact ha.1
    · exact hok.ac i y hy'
  · exact hok
theorem Mod.Ok.deliver {s : Mod} {n : Nat} (hok : s.Ok n) (hn : n + 1 ≤ 50000) (h : Happ) : (s.deliver h).2.Ok (n + 1) := by
  unfold Mod.deliver
  split
  · rename_i hk
    split
    · rename_i hl
      simp only [layOK, Bool.and_eq_true, decide_eq_true_eq] at hl
      have hr := (hok.ac _ _ hl.1).2
      have ht := take_next hok.wt hr hl.2
      refine ⟨(hok.bk.take hn (fun f _ _ => dry_none hok.wt f) h.m).1, ht.2, hok.ac, fun d hd => ?_⟩
      show 0 ≤ d ∧ d ≤ ((s.book.take h.m).log.length : Int)
      rw [ht.1, List.length_append, List.length_singleton]
      rcases List.mem_or_eq_of_mem_set hd with hd | rfl
      · have := hok.dl d hd; omega
      · rw [hk]; omega
    · exact hok.mono (by omega)
  · rename_i hk
    split
    · rename_i hg
      refine ⟨hok.bk.mono (by omega), hok.wt, hok.ac, fun d hd => ?_⟩
      show 0 ≤ d ∧ d ≤ (s.book.log.length : Int)
      rcases List.mem_or_eq_of_mem_set hd with hd | rfl
      · exact hok.dl d hd
      · have hlt := (List.getElem?_eq_some_iff.1 hg).1
        cases e : s.del[h.node.toNat]? with
        | none => rw [e] at hlt; simp at hlt ⊢; omega
        | some d0 =>
          have := hok.dl d0 (List.mem_of_getElem? e)
          rw [e] at hlt; simp at hlt ⊢; omega
    · exact hok.mono (by omega)
theorem Mod.Ok.happen {s : Mod} {n : Nat} (hok : s.Ok n) (hn : n + 1 ≤ 50000) (h : Happ) : (s.happen h).2.Ok (n + 1) := by
  unfold Mod.happen
  split
  · exact hok.mono (by omega)
  · split
    · split
      · exact (hok.accept h).mono (by omega)
      · exact hok.mono (by omega)
    · split
      · exact hok.mono (by omega)
      · split
        · split
          · exact hok.deliver hn h
          · exact hok.mono (by omega)
        · exact hok.mono (by omega)
theorem Mod.ok_new (k : Nat) : (Mod.new k).Ok 0 := by
  refine ⟨Book.inv_new, rfl, (by intro i y h; cases h), fun d hd => ?_⟩
  have : d = 0 := List.eq_of_mem_replicate hd
  subst this
  exact ⟨Int.le_refl _, Int.le_refl _⟩
end Go.Rost
