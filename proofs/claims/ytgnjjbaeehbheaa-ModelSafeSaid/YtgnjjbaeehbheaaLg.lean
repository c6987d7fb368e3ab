/- Slices of messages in an array: what each of sixteen holds. -/
import Derived.Test.YtgnjjbaeehbheaaPo
import Derived.Test.YtgnjjbaeehbheaaAr
namespace Go.Rost
open Go Go.RowKit Go.Proofs

def zipC (vs : List Value) (ls : List (List Msg)) : List Chunk := List.zipWith (fun v l => SlT 34 v l) vs ls
def LogsV (b : Nat) (T : TypeId) (vs : List Value) (ls : List (List Msg)) : Chunk := Star (Blk b (.cells vs.toArray T (0, 0)) :: zipC vs ls)
theorem zipC_split : ∀ {vs : List Value} {ls : List (List Msg)} {a : Nat} {v : Value} {l : List Msg}, vs[a]? = some v → ls[a]? = some l → (zipC vs ls).Perm (SlT 34 v l :: (zipC vs ls).eraseIdx a)
  | [], _, _, _, _, h, _ => by simp at h
  | _ :: _, [], _, _, _, _, h => by simp at h
  | u :: vs, m :: ls, 0, v, l, h, h' => by
    simp at h h'
    subst h; subst h'
    exact .refl _
  | u :: vs, m :: ls, a + 1, v, l, h, h' => by
    have := zipC_split (vs := vs) (ls := ls) (a := a) (by simpa using h) (by simpa using h')
    exact (this.cons _).trans (.swap _ _ _)
theorem zipC_set : ∀ {vs : List Value} {ls : List (List Msg)} {a : Nat} (v : Value) (l : List Msg), a < vs.length → a < ls.length → (zipC (vs.set a v) (ls.set a l)).Perm (SlT 34 v l :: (zipC vs ls).eraseIdx a)
  | [], _, _, _, _, h, _ => by simp at h
  | _ :: _, [], _, _, _, _, h => by simp at h
  | u :: vs, m :: ls, 0, v, l, _, _ => .refl _
  | u :: vs, m :: ls, a + 1, v, l, h, h' => by
    have := zipC_set (vs := vs) (ls := ls) (a := a) v l (by simpa using h) (by simpa using h')
    exact (this.cons _).trans (.swap _ _ _)
def RestV (vs : List Value) (ls : List (List Msg)) (a : Nat) : Chunk := Star ((zipC vs ls).eraseIdx a)
theorem LogsV.open {W0 : World} {b : Nat} {T : TypeId} {vs : List Value} {ls : List (List Msg)} {H : List Chunk} {w : World} (h : At W0 (LogsV b T vs ls :: H) w) {a : Nat} {v : Value} {l : List Msg} (hv : vs[a]? = some v) (hl : ls[a]? = some l) :
    At W0 (Blk b (.cells vs.toArray T (0, 0)) :: SlT 34 v l :: RestV vs ls a :: H) w := by
  have h1 := At.star.1 h
  have h2 : At W0 (Blk b (.cells vs.toArray T (0, 0)) :: (SlT 34 v l :: (zipC vs ls).eraseIdx a ++ H)) w := h1.perm (((zipC_split hv hl).append_right H).cons _)
  have h3 : At W0 ((zipC vs ls).eraseIdx a ++ (Blk b (.cells vs.toArray T (0, 0)) :: SlT 34 v l :: H)) w := h2.perm (by
    refine ((List.perm_append_comm_assoc [_, _] _ H).trans ?_)
    exact .refl _)
  exact At.top [_, _, _] [1, 2, 0] (At.star.2 h3)
theorem LogsV.shut {W0 : World} {b : Nat} {T : TypeId} {vs : List Value} {ls : List (List Msg)} {H : List Chunk} {w : World} {a : Nat} {v : Value} {l : List Msg} (ha : a < vs.length) (ha' : a < ls.length)
    (h : At W0 (Blk b (.cells (vs.set a v).toArray T (0, 0)) :: SlT 34 v l :: RestV vs ls a :: H) w) : At W0 (LogsV b T (vs.set a v) (ls.set a l) :: H) w := by
  have h1 := At.star.1 (At.top [_, _, _] [2, 0, 1] h)
  refine At.star.2 (h1.perm ?_)
  refine (List.perm_append_comm_assoc _ [_, _] H).trans ?_
  exact ((zipC_set v l ha ha').symm.append_right H).cons _
theorem LogsV.same {W0 : World} {b : Nat} {T : TypeId} {vs : List Value} {ls : List (List Msg)} {H : List Chunk} {w : World} {a : Nat} {v : Value} {l : List Msg} (hv : vs[a]? = some v) (hl : ls[a]? = some l)
    (h : At W0 (Blk b (.cells vs.toArray T (0, 0)) :: SlT 34 v l :: RestV vs ls a :: H) w) : At W0 (LogsV b T vs ls :: H) w := by
  have h1 := At.star.1 (At.top [_, _, _] [2, 0, 1] h)
  refine At.star.2 (h1.perm ?_)
  refine (List.perm_append_comm_assoc _ [_, _] H).trans ?_
  exact ((zipC_split hv hl).symm.append_right H).cons _
instance RdC.logs {W0 : World} {b : Nat} {T : TypeId} {vs : List Value} {ls : List (List Msg)} {H : List Chunk} : RdC (At W0 (LogsV b T vs ls :: H)) b vs.toArray := ⟨fun _ hw => ⟨T, (0, 0), (At.star.1 hw).read⟩⟩
/-- Each of them may be read. -/
theorem LogsV.slv {W0 : World} {b : Nat} {T : TypeId} {vs : List Value} {ls : List (List Msg)} {H : List Chunk} {w : World} (h : At W0 (LogsV b T vs ls :: H) w) {a : Nat} {v : Value} {l : List Msg} (hv : vs[a]? = some v) (hl : ls[a]? = some l) :
    ∃ p cap, v = .slice p l.length cap ∧ SlV p cap l := (LogsV.open h hv hl).drop.slv
theorem LogsV.slR {W0 : World} {b : Nat} {T : TypeId} {vs : List Value} {ls : List (List Msg)} {H : List Chunk} {a : Nat} {p : Option Addr} {n cap : Nat} {l : List Msg} (hv : vs[a]? = some (.slice p n cap)) (hl : ls[a]? = some l) (hs : SlV p cap l) : SlR (At W0 (LogsV b T vs ls :: H)) p l :=
  (RdS.slR (S := At W0 (Blk b (.cells vs.toArray T (0, 0)) :: SlT 34 (.slice p n cap) l :: RestV vs ls a :: H)) (len := n) inferInstance hs).mono fun _ h => LogsV.open h hv hl
theorem LogsV.new {W0 : World} {b : Nat} {T : TypeId} {H : List Chunk} {w : World} (n : Nat) (h : At W0 (Blk b (.cells (List.replicate n (.slice none 0 0)).toArray T (0, 0)) :: H) w) : At W0 (LogsV b T (List.replicate n (.slice none 0 0)) (List.replicate n []) :: H) w := by
  have key : ∀ (n : Nat) (K : List Chunk), At W0 K w → At W0 (zipC (List.replicate n (.slice none 0 0)) (List.replicate n []) ++ K) w := by
    intro n
    induction n with
    | zero => exact fun K h => h
    | succ n ih => exact fun K h => At.slt_nil (α := Msg) 34 (ih K h)
  refine At.star.2 ?_
  have h1 := key n _ h
  exact h1.perm (List.perm_append_comm_assoc _ [_] H)
theorem ex_loadIdOf {S : World → Prop} {σ : Env} {x : Operand} {b o : Nat} (m : Msg) (hx : σ.val x = some (.pointer (some ⟨b, o, none⟩))) (h : Rd S b o (Enc.enc m)) : Ex Try.prog S σ (.load 32 x) m.id.v := by
  refine Ex.any (fun ρ hρ c hop w hw => ?_) (fun _ _ e => by cases e) (fun _ e => by cases e)
  refine run_loadOp hop (hρ _ _ hx) (run_loadAgg (vs := [.int .i64 m.id.from_, .int .u32 m.id.count]) rfl (fun j v e => ?_))
  refine h w hw j v ?_
  match j, e with
  | 0, e => exact e
  | 1, e => exact e
  | j + 2, e => simp at e
theorem happen_range {s : Mod} {x : Happ} (h : (s.happen x).1 = 0) : 0 ≤ x.node ∧ x.node < s.del.length := by
  unfold Mod.happen at h
  split at h
  · cases h
  · rename_i hin; simp [Mod.inRange] at hin; omega
theorem deliver_acc (s : Mod) (x : Happ) : (s.deliver x).2.acc = s.acc := by
  unfold Mod.deliver
  repeat' split
  all_goals rfl
/-- What was accepted, and what stands in the log, are among I. -/
structure Among (s : Mod) (I : List Msg) : Prop where
  acc : ∀ i y, look s.acc i = some y → y ∈ I
  log : ∀ y ∈ s.book.log, y ∈ I
theorem Among.accept {s : Mod} {I : List Msg} (h : Among s I) (x : Happ) : Among (s.accept x) (I ++ [x.m]) := by
  refine ⟨fun i y hy => ?_, fun y hy => ?_⟩
  · unfold Mod.accept at hy
    split at hy
    · have hy' : look (mset s.acc x.m.id x.m) i = some y := hy
      rw [look_mset] at hy'
      split at hy'
      · cases hy'; simp
      · exact List.mem_append_left _ (h.acc i y hy')
    · exact List.mem_append_left _ (h.acc i y hy)
  · rw [accept_book] at hy; exact List.mem_append_left _ (h.log y hy)
theorem Among.happen {s : Mod} {I : List Msg} {n : Nat} (hok : s.Ok n) (hn : n ≤ 49999) (h : Among s I) (x : Happ) (h0 : (s.happen x).1 = 0) : Among (s.happen x).2 (if x.kind = 1 then I ++ [x.m] else I) := by
  by_cases hk : x.kind = 1
  · rw [if_pos hk]
    unfold Mod.happen at h0 ⊢
    split
    · rename_i hin; rw [if_pos hin] at h0; cases h0
    · rename_i hin
      simp only [if_neg hin, if_pos hk] at h0 ⊢
      split
      · exact h.accept x
      · rename_i ha; rw [if_neg ha] at h0; cases h0
  · rw [if_neg hk]
    have hacc : (s.happen x).2.acc = s.acc := by
      unfold Mod.happen
      repeat' split
      all_goals first | rfl | exact deliver_acc s x | (exfalso; exact hk ‹x.kind = 1›)
    refine ⟨fun i y hy => h.acc i y (by rw [← hacc]; exact hy), fun y hy => ?_⟩
    rcases happen_what hok hn x with ⟨e, _, _⟩ | ⟨_, _, d, hd⟩
    · rw [e] at hy; exact h.log y hy
    · rcases hd.log with e | ⟨_, e⟩
      · rw [e] at hy; exact h.log y hy
      · rw [e] at hy
        rcases List.mem_append.1 hy with hy | hy
        · exact h.log y hy
        · rw [List.mem_singleton.1 hy]
          exact hd.acc.elim (h.acc _ _) (h.log _)
theorem take_min_take (l : List Msg) (i j : Nat) : (l.take i).take (min (l.take i).length (l.take j).length) = (l.take j).take (min (l.take i).length (l.take j).length) := by
  simp only [List.take_take, List.length_take]
  congr 1
  omega
end Go.Rost
