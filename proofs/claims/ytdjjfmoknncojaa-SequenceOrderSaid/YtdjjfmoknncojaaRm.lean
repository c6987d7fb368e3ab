/- Ranges over maps: the entries come in an order that is drawn. -/
import Derived.Test.YtdjjfmoknncojaaMp
import Derived.Maps.RangeRun
namespace Go.Rost
open Go Go.RowKit

variable {κ ν : Type}
/-- What a range over a map knows: which entries are left, which one it stands at. -/
structure RngIs (ek : κ → Value) (ev : ν → Value) (m todo : List (κ × ν)) (cur : Option (κ × ν)) (es : Array MapEntry) (clock since : Nat) (seen : Array Nat) : Prop where
  is : MapIs ek ev m es clock
  old : ∀ x ∈ es.toList, x.born < since
  le : since ≤ clock
  left : (leftOf es seen).toList.map (fun e => (e.key, e.val)) = todo.map (encE ek ev)
  at_ : ∀ x, cur = some x → ∃ e ∈ es.toList, ∃ s : Array Nat, seen = s.push e.born ∧ (e.key, e.val) = encE ek ev x
def RngC (ek : κ → Value) (ev : ν → Value) (b r : Nat) (m todo : List (κ × ν)) (cur : Option (κ × ν)) : Chunk :=
  Exs fun q : Array MapEntry × Nat × Nat × Array Nat => Star [Pr (RngIs ek ev m todo cur q.1 q.2.1 q.2.2.1 q.2.2.2) (Blk b (.map q.1 q.2.1)), Blk r (.mapIter (some b) q.2.2.1 q.2.2.2 q.2.1)]
theorem At.rng {W0 : World} {ek : κ → Value} {ev : ν → Value} {b r : Nat} {m todo : List (κ × ν)} {cur : Option (κ × ν)} {H : List Chunk} {w : World} (h : At W0 (RngC ek ev b r m todo cur :: H) w) :
    ∃ es clock since seen, At W0 (Blk b (.map es clock) :: Blk r (.mapIter (some b) since seen clock) :: H) w ∧ RngIs ek ev m todo cur es clock since seen := by
  obtain ⟨q, h⟩ := At.ex.1 h
  have h1 := At.star.1 h
  obtain ⟨h2, h3⟩ := At.pr.1 h1
  exact ⟨_, _, _, _, h3, h2⟩
theorem At.rng_shut {W0 : World} {ek : κ → Value} {ev : ν → Value} {b r : Nat} {m todo : List (κ × ν)} {cur : Option (κ × ν)} {H : List Chunk} {w : World} {es : Array MapEntry} {clock since : Nat} {seen : Array Nat}
    (h : At W0 (Blk b (.map es clock) :: Blk r (.mapIter (some b) since seen clock) :: H) w) (hi : RngIs ek ev m todo cur es clock since seen) : At W0 (RngC ek ev b r m todo cur :: H) w :=
  At.ex.2 ⟨(es, clock, since, seen), At.star.2 (At.pr.2 ⟨hi, h⟩)⟩
/-- Behind the range the map is as it is. -/
theorem At.rng_done {W0 : World} {ek : κ → Value} {ev : ν → Value} {b r : Nat} {m todo : List (κ × ν)} {cur : Option (κ × ν)} {H : List Chunk} {w : World} (h : At W0 (RngC ek ev b r m todo cur :: H) w) : At W0 (MapC ek ev b m :: H) w := by
  obtain ⟨es, clock, since, seen, h1, h2⟩ := h.rng
  exact At.map.2 ⟨es, clock, h1.sw1.drop, h2.is⟩
theorem left_step {ek : κ → Value} {ev : ν → Value} {e : MapEntry} : ∀ (L : List MapEntry) (todo : List (κ × ν)), L.map (fun e => (e.key, e.val)) = todo.map (encE ek ev) → e ∈ L → (L.map (·.born)).Nodup →
    ∃ x todo', (e.key, e.val) = encE ek ev x ∧ todo.Perm (x :: todo') ∧ (L.filter fun y => !(y.born == e.born)).map (fun e => (e.key, e.val)) = todo'.map (encE ek ev)
  | [], _, _, he, _ => by cases he
  | a :: L, [], h, _, _ => by cases h
  | a :: L, x :: todo, h, he, hn => by
    rw [List.map_cons, List.map_cons, List.cons.injEq] at h
    rw [List.map_cons, List.nodup_cons] at hn
    rcases List.mem_cons.1 he with rfl | he
    · refine ⟨x, todo, h.1, .refl _, ?_⟩
      have hf : (L.filter fun y => !(y.born == e.born)) = L := by
        rw [List.filter_eq_self]
        intro y hy
        have : y.born ≠ e.born := fun hb => hn.1 (hb ▸ List.mem_map.2 ⟨y, hy, rfl⟩)
        simpa using this
      rw [List.filter_cons_of_neg (by simp), hf]
      exact h.2
    · obtain ⟨y, todo', h1, h2, h3⟩ := left_step L todo h.2 he hn.2
      refine ⟨y, x :: todo', h1, (h2.cons x).trans (.swap _ _ _), ?_⟩
      have : a.born ≠ e.born := fun hb => hn.1 (hb ▸ List.mem_map.2 ⟨e, he, rfl⟩)
      rw [List.filter_cons_of_pos (by simpa using this), List.map_cons, List.map_cons, h.1, h3]
theorem leftOf_push (es : Array MapEntry) (seen : Array Nat) (b : Nat) : (leftOf es (seen.push b)).toList = (leftOf es seen).toList.filter fun y => !(y.born == b) := by
  unfold leftOf
  rw [Array.toList_filter, Array.toList_filter, List.filter_filter]
  congr 1
  funext y
  rw [Bool.eq_iff_iff]
  simp [and_comm]
section
variable {C : Cx} {ds : List Deferred} {σ : Env} {H : List Chunk} {K : Value → List Chunk → Prop} {dst : Option Tmp} {ty : TypeId} {pos : String} {aft : Array Edge} {g : Option (Nat × Bool)}
theorem opR_range {T KT VT : TypeId} {x : Operand} {b : Nat} {ek : κ → Value} {ev : ν → Value} {m : List (κ × ν)} [hT : TUnder C.P T (.map KT VT)] (hx : σ.val x = some (.map (some b)))
    (h : ∀ r, K (.pointer (some ⟨r, 0, none⟩)) (RngC ek ev b r m m none :: H)) : OpR C ds ⟨dst, .range T x, ty, pos, aft, g⟩ σ (MapC ek ev b m :: H) K := by
  refine OpR.of_run (fun c e => by cases e) fun ρ hρ w hw => ?_
  obtain ⟨es, clock, h1, h2⟩ := At.map.1 hw
  refine ⟨_, _, _, ?_, h w.heap.size, At.rng_shut (es := es) (clock := clock) (since := clock) (seen := #[]) (At.sw1 (h1.alloc (.mapIter (some b) clock #[] clock))) ⟨h2, h2.lt, Nat.le_refl _, ?_, fun x e => by cases e⟩⟩
  · simp [execOp, Instr.range, hT.under, hρ _ _ hx, run_getMap h1.read, newObj, Sem.run]
  · rw [show leftOf es #[] = es by simp [leftOf]]
    exact h2.enc
theorem opR_next {t : Operand} {b r : Nat} {ek : κ → Value} {ev : ν → Value} {m todo : List (κ × ν)} {cur : Option (κ × ν)} {nt : TypeId} (ht : σ.val t = some (.pointer (some ⟨r, 0, none⟩)))
    (h0 : todo = [] → K (.tuple #[.bool false]) (RngC ek ev b r m todo cur :: H))
    (h1 : ∀ x todo', todo.Perm (x :: todo') → K (.tuple #[.bool true, ek x.1, ev x.2]) (RngC ek ev b r m todo' (some x) :: H)) : OpR C ds ⟨dst, .next t false, nt, pos, aft, g⟩ σ (RngC ek ev b r m todo cur :: H) K := by
  refine OpR.of_run (fun c e => by cases e) fun ρ hρ w hw => ?_
  obtain ⟨es, clock, since, seen, h2, h3⟩ := hw.rng
  have hb := h2.read
  have hr := h2.sw1.read
  rcases run_next_at (P := C.P) w nt r b since clock seen es clock hr hb h3.old h3.le with ⟨hz, hrun⟩ | ⟨e, he, w1, hw1, hrun⟩
  · refine ⟨_, w, _, ?_, h0 ?_, hw⟩
    · simp [execOp, hρ _ _ ht, hrun]
    · have hl := h3.left
      have : (leftOf es seen).toList = [] := by
        apply List.length_eq_zero_iff.1
        simpa using hz
      rw [this] at hl
      cases todo with
      | nil => rfl
      | cons => cases hl
  · have hn : ((leftOf es seen).toList.map (·.born)).Nodup := by
      refine h3.is.born.sublist (List.Sublist.map _ ?_)
      unfold leftOf
      rw [Array.toList_filter]
      exact List.filter_sublist
    obtain ⟨x, todo', hx, hp, hl⟩ := left_step _ _ h3.left he hn
    have hmem : e ∈ es.toList := by
      unfold leftOf at he
      rw [Array.toList_filter] at he
      exact (List.mem_filter.1 he).1
    have hw1' : At C.W0 (Blk b (.map es clock) :: Blk r (.mapIter (some b) since seen clock) :: H) w1 := by
      rcases hw1 with rfl | rfl
      · exact h2
      · exact h2.drew _
    refine ⟨_, _, _, ?_, h1 x todo' hp, At.rng_shut (es := es) (clock := clock) (since := since) (seen := seen.push e.born) (At.sw1 (hw1'.sw1.write (o' := .mapIter (some b) since (seen.push e.born) clock))) ⟨h3.is, h3.old, h3.le, by rw [leftOf_push]; exact hl, fun y hy => ?_⟩⟩
    · simp only [encE, Prod.mk.injEq] at hx
      rw [hx.1, hx.2] at hrun
      simp [execOp, hρ _ _ ht, hrun]
      rfl
    · cases hy
      exact ⟨e, hmem, seen, rfl, hx⟩
theorem ex_entry {P : Program} {W0 : World} {σ : Env} {t : Operand} {b r : Nat} {ek : κ → Value} {ev : ν → Value} {m todo : List (κ × ν)} (x : κ × ν) {S : World → Prop} (hS : ∀ w, S w → ∃ H, At W0 (RngC ek ev b r m todo (some x) :: H) w) (ht : σ.val t = some (.pointer (some ⟨r, 0, none⟩))) :
    Ex P S σ (.entry t) (.tuple #[ek x.1, ev x.2]) := by
  refine Ex.any (fun ρ hρ c hop w hw => ?_) (fun _ _ e => by cases e) (fun _ e => by cases e)
  obtain ⟨H, hw⟩ := hS w hw
  obtain ⟨es, clock, since, seen, h2, h3⟩ := hw.rng
  obtain ⟨e, he, s, hs, hx⟩ := h3.at_ x rfl
  subst hs
  have hrun := run_entry_at (P := P) w r b since s es clock e h2.sw1.read h2.read he h3.is.born
  simp only [encE, Prod.mk.injEq] at hx
  rw [hx.1, hx.2] at hrun
  simp [execOp, hop, hρ _ _ ht, hrun]
theorem filter_eraseIdx {α : Type} (p : α → Bool) : ∀ (l : List α) (j : Nat) (x : α), l[j]? = some x → p x = false → (l.eraseIdx j).filter p = l.filter p
  | [], _, _, h, _ => by cases h
  | a :: l, 0, x, h, hp => by
    cases h
    rw [List.eraseIdx_cons_zero, List.filter_cons_of_neg (by simp [hp])]
  | a :: l, j + 1, x, h, hp => by
    rw [List.eraseIdx_cons_succ, List.filter_cons, List.filter_cons, filter_eraseIdx p l j x (by simpa using h) hp]
theorem key_inj {P : Program} {T : TypeId} {ek : κ → Value} [DecidableEq κ] [hk : KeyC P T ek] (w : World) {a b : κ} (h : ek a = ek b) : a = b := by
  have h1 := hk.eq a b w
  have h2 := hk.eq b b w
  rw [h] at h1
  rw [h1] at h2
  have h3 := (Result.ok.inj h2).1
  simpa using h3
/-- What the range stands at may be deleted. -/
theorem opR_rdelete [DecidableEq κ] {T KT VT T2 : TypeId} {x y : Operand} {b r : Nat} {ek : κ → Value} {ev : ν → Value} {m todo : List (κ × ν)} {c : κ × ν} [hT : TUnder C.P T (.map KT VT)] [hk : KeyC C.P KT ek] (hx : σ.val x = some (.map (some b))) (hy : σ.val y = some (ek c.1)) (hnd : (mkeys m).Nodup)
    (h : K (.tuple #[]) (RngC ek ev b r (mdel m c.1) todo none :: H)) : OpR C ds ⟨dst, .call ⟨.builtin .delete, #[x, y], #[T, T2]⟩, ty, pos, aft, g⟩ σ (RngC ek ev b r m todo (some c) :: H) K := by
  refine OpR.of_run (fun c e => by cases e) fun ρ hρ w hw => ?_
  obtain ⟨es, clock, since, seen, h2, h3⟩ := hw.rng
  have hrd := h2.read
  obtain ⟨e, he, s, hs, hc⟩ := h3.at_ c rfl
  have hfind := run_findKey (P := C.P) (T := KT) c.1 w m es.toList h3.is.enc
  obtain ⟨i, hi, hie⟩ := List.getElem_of_mem he
  have hlen : es.toList.length = m.length := by have := congrArg List.length h3.is.enc; simpa using this
  have hmi : (es.toList[i].key, es.toList[i].val) = encE ek ev (m[i]'(by omega)) := by
    have := congrArg (·[i]?) h3.is.enc
    simp only [List.getElem?_map, List.getElem?_eq_getElem hi, List.getElem?_eq_getElem (show i < m.length by omega), Option.map_some, Option.some.injEq] at this
    exact this
  have hki : (m[i]'(by omega)).1 = c.1 := by
    rw [hie, hc] at hmi
    simp only [encE, Prod.mk.injEq] at hmi
    exact (key_inj (P := C.P) (T := KT) w hmi.1).symm
  cases hfi : findIx c.1 m 0 with
  | none =>
    exfalso
    have h4 := findIx_look c.1 m 0
    rw [hfi] at h4
    have h5 := mem_keys_look.1 h4.symm
    exact h5 (by rw [← hki]; exact List.mem_map.2 ⟨_, List.getElem_mem _, rfl⟩)
  | some p =>
    obtain ⟨j, u⟩ := p
    have hkey := findIx_key hfi
    rw [Nat.sub_zero] at hkey
    have hji : j = i := by
      have hjl := (List.getElem?_eq_some_iff.1 hkey).1
      have h6 : (mkeys m)[j]'(by simpa [mkeys] using hjl) = (mkeys m)[i]'(by simp [mkeys]; omega) := by
        simp only [mkeys, List.getElem_map]
        rw [hki, (List.getElem?_eq_some_iff.1 hkey).2]
      have hp := List.pairwise_iff_getElem.1 hnd
      rcases Nat.lt_trichotomy j i with hlt | heq | hlt
      · exact absurd h6 (hp j i _ _ hlt)
      · exact heq
      · exact absurd h6.symm (hp i j _ _ hlt)
    rw [hfi] at hfind
    refine ⟨_, _, _, ?_, h, At.rng_shut (es := es.eraseIdxIfInBounds j) (clock := clock) (since := since) (seen := seen) h2.write ⟨by rw [mdel_findIx hfi, Nat.sub_zero]; exact mapIs_erase h3.is j, fun y hy => h3.old y ?_, h3.le, ?_, fun y hy => by cases hy⟩⟩
    · simp [execOp, resolve, invoke, builtin, Builtin.delete_, hT.under, hρ _ _ hx, hρ _ _ hy, run_getMap hrd, hk.chk, hfind, run_setMap _ hrd]
    · rw [Array.toList_eraseIdxIfInBounds] at hy
      exact List.mem_of_mem_eraseIdx hy
    · rw [← h3.left]
      congr 1
      unfold leftOf
      rw [Array.toList_filter, Array.toList_filter, Array.toList_eraseIdxIfInBounds]
      refine filter_eraseIdx _ _ _ e ?_ ?_
      · rw [hji, List.getElem?_eq_getElem hi, hie]
      · rw [hs]; simp
end
end Go.Rost
