/- Maps that are owned: a list of entries, looked up, set, deleted. -/
import Derived.Test.YtdjjfmoknncojaaHx
namespace Go.Rost
open Go Go.RowKit

/-- One chunk of a list turned into another. -/
inductive Rep (c c' : Chunk) : List Chunk → List Chunk → Prop
  | head {H : List Chunk} : Rep c c' (c :: H) (c' :: H)
  | tail {d : Chunk} {H H' : List Chunk} : Rep c c' H H' → Rep c c' (d :: H) (d :: H')
theorem Rep.split {c c' : Chunk} {H H' : List Chunk} (h : Rep c c' H H') : ∃ R, H.Perm (c :: R) ∧ H'.Perm (c' :: R) := by
  induction h with
  | head => exact ⟨_, .refl _, .refl _⟩
  | tail _ ih => obtain ⟨R, h1, h2⟩ := ih; exact ⟨_ :: R, (h1.cons _).trans (.swap _ _ _), (h2.cons _).trans (.swap _ _ _)⟩
theorem At.chunk {W0 : World} {c : Chunk} {H : List Chunk} {w : World} (h : At W0 (c :: H) w) : ∃ k : Hp, c k ∧ ∀ b o, k b = some o → w.heap[b]? = some o := by
  obtain ⟨_, k, hk, h1, h2, l1, _, _, hc, _⟩ := h
  exact ⟨h1, hc, fun b o e => (hk b o (l1.out b o e)).2⟩

variable {κ ν : Type} [DecidableEq κ]
/-! ### Association lists -/
def look (m : List (κ × ν)) (k : κ) : Option ν := (m.find? fun p => decide (k = p.1)).map (·.2)
def mset (m : List (κ × ν)) (k : κ) (v : ν) : List (κ × ν) := match m with
  | [] => [(k, v)]
  | p :: m => if k = p.1 then (k, v) :: m else p :: mset m k v
def mdel (m : List (κ × ν)) (k : κ) : List (κ × ν) := match m with
  | [] => []
  | p :: m => if k = p.1 then m else p :: mdel m k
def mkeys (m : List (κ × ν)) : List κ := m.map (·.1)
theorem look_nil (k : κ) : look ([] : List (κ × ν)) k = none := rfl
theorem look_cons (p : κ × ν) (m : List (κ × ν)) (k : κ) : look (p :: m) k = if k = p.1 then some p.2 else look m k := by
  unfold look
  by_cases h : k = p.1 <;> simp [h]
theorem look_mset (m : List (κ × ν)) (k k' : κ) (v : ν) : look (mset m k v) k' = if k' = k then some v else look m k' := by
  induction m with
  | nil => simp [mset, look_cons, look_nil]
  | cons p m ih =>
    unfold mset
    by_cases h : k = p.1
    · rw [if_pos h, look_cons, look_cons, ← h]; by_cases h' : k' = k <;> simp [h']
    · rw [if_neg h, look_cons, look_cons, ih]
      by_cases h' : k' = p.1
      · have : k' ≠ k := fun e => h (e ▸ h')
        rw [if_pos h', if_neg this, if_pos h']
      · rw [if_neg h', if_neg h']
theorem mem_keys_look {m : List (κ × ν)} {k : κ} : look m k = none ↔ k ∉ mkeys m := by
  induction m with
  | nil => simp [look_nil, mkeys]
  | cons p m ih =>
    rw [look_cons, mkeys, List.map_cons]
    by_cases h : k = p.1
    · simp [h]
    · rw [if_neg h, ih]; simp [mkeys, h]
theorem look_mdel {m : List (κ × ν)} (hn : (mkeys m).Nodup) (k k' : κ) : look (mdel m k) k' = if k' = k then none else look m k' := by
  induction m with
  | nil => simp [mdel, look_nil]
  | cons p m ih =>
    rw [mkeys, List.map_cons, List.nodup_cons] at hn
    unfold mdel
    by_cases h : k = p.1
    · rw [if_pos h, look_cons]
      by_cases h' : k' = k
      · subst h'; rw [if_pos rfl]; rw [h]; exact mem_keys_look.2 hn.1
      · rw [if_neg h', if_neg (fun e => h' (e.trans h.symm))]
    · rw [if_neg h, look_cons, look_cons, ih hn.2]
      by_cases h' : k' = p.1
      · have : k' ≠ k := fun e => h (e ▸ h')
        rw [if_pos h', if_neg this, if_pos h']
      · rw [if_neg h', if_neg h']
theorem mkeys_mset (m : List (κ × ν)) (k : κ) (v : ν) : ∀ x, x ∈ mkeys (mset m k v) ↔ x = k ∨ x ∈ mkeys m := by
  intro x
  have := mem_keys_look (m := mset m k v) (k := x)
  rw [look_mset] at this
  by_cases h : x = k
  · simp [h] at this ⊢; exact Classical.byContradiction fun hc => by simp [hc] at this
  · rw [if_neg h, mem_keys_look] at this
    constructor
    · intro hx; exact .inr (Classical.byContradiction fun hc => (this.1 hc) hx)
    · rintro (hx | hx)
      · exact absurd hx h
      · exact Classical.byContradiction fun hc => (this.2 hc) hx
theorem nodup_mset {m : List (κ × ν)} (hn : (mkeys m).Nodup) (k : κ) (v : ν) : (mkeys (mset m k v)).Nodup := by
  induction m with
  | nil => simp [mset, mkeys]
  | cons p m ih =>
    rw [mkeys, List.map_cons, List.nodup_cons] at hn
    unfold mset
    by_cases h : k = p.1
    · rw [if_pos h, mkeys, List.map_cons, List.nodup_cons]; exact ⟨by rw [h]; exact hn.1, hn.2⟩
    · rw [if_neg h, mkeys, List.map_cons, List.nodup_cons]
      exact ⟨fun hx => ((mkeys_mset m k v p.1).1 hx).elim (fun e => h e.symm) hn.1, ih hn.2⟩
theorem mkeys_mdel_sub (m : List (κ × ν)) (k : κ) : (mdel m k).Sublist m := by
  induction m with
  | nil => exact .refl _
  | cons p m ih =>
    unfold mdel
    by_cases h : k = p.1
    · rw [if_pos h]; exact List.sublist_cons_self p m
    · rw [if_neg h]; exact ih.cons_cons p
theorem nodup_mdel {m : List (κ × ν)} (hn : (mkeys m).Nodup) (k : κ) : (mkeys (mdel m k)).Nodup :=
  hn.sublist ((mkeys_mdel_sub m k).map _)

/-! ### Maps in memory -/
def encE (ek : κ → Value) (ev : ν → Value) (p : κ × ν) : Value × Value := (ek p.1, ev p.2)
structure MapIs (ek : κ → Value) (ev : ν → Value) (m : List (κ × ν)) (es : Array MapEntry) (clock : Nat) : Prop where
  enc : es.toList.map (fun e => (e.key, e.val)) = m.map (encE ek ev)
  born : (es.toList.map (·.born)).Nodup
  lt : ∀ e ∈ es.toList, e.born < clock
def MapC (ek : κ → Value) (ev : ν → Value) (r : Nat) (m : List (κ × ν)) : Chunk := fun h => ∃ es clock, h r = some (.map es clock) ∧ MapIs ek ev m es clock
omit [DecidableEq κ] in
theorem At.map {W0 : World} {ek : κ → Value} {ev : ν → Value} {r : Nat} {m : List (κ × ν)} {H : List Chunk} {w : World} : At W0 (MapC ek ev r m :: H) w ↔ ∃ es clock, At W0 (Blk r (.map es clock) :: H) w ∧ MapIs ek ev m es clock := by
  constructor
  · rintro ⟨hb, k, hk, h1, h2, l1, l2, d, ⟨es, clock, hm, his⟩, s⟩; exact ⟨es, clock, ⟨hb, k, hk, h1, h2, l1, l2, d, hm, s⟩, his⟩
  · rintro ⟨es, clock, ⟨hb, k, hk, h1, h2, l1, l2, d, hm, s⟩, his⟩; exact ⟨hb, k, hk, h1, h2, l1, l2, d, ⟨es, clock, hm, his⟩, s⟩
omit [DecidableEq κ] in
theorem At.map_new {W0 : World} {r : Nat} {H : List Chunk} {w : World} (ek : κ → Value) (ev : ν → Value) (h : At W0 (Blk r (.map #[] 0) :: H) w) : At W0 (MapC ek ev r [] :: H) w :=
  At.map.2 ⟨_, _, h, ⟨rfl, by simp, by simp⟩⟩

class KeyC (P : Program) (T : TypeId) (ek : κ → Value) : Prop where
  eq : ∀ k k' w, (Op.equal T (ek k) (ek k')).run P w = .ok (decide (k = k')) w
  chk : ∀ e k w, (Instr.checkKey e 10000 T (ek k)).run P w = .ok () w
  now : ∃ d, (∀ w, (underlying T).run P w = .ok d w) ∧ ((∀ k k', Instr.sameNow d (ek k) (ek k') = some (decide (k = k'))) ∨ (∀ k k', Instr.sameNow d (ek k) (ek k') = none))
  bits : ∀ k, Instr.sameBits 10000 (ek k) (ek k) = true

def findIx (k : κ) : List (κ × ν) → Nat → Option (Nat × ν)
  | [], _ => none
  | p :: m, i => if k = p.1 then some (i, p.2) else findIx k m (i + 1)
theorem findIx_look (k : κ) : ∀ (m : List (κ × ν)) (i : Nat), (findIx k m i).map (·.2) = look m k
  | [], _ => rfl
  | p :: m, i => by
    rw [look_cons, findIx]
    by_cases h : k = p.1
    · simp [h]
    · simp only [h, if_false]; exact findIx_look k m (i + 1)
theorem run_findAsking {P : Program} {T : TypeId} {ek : κ → Value} {ev : ν → Value} [hk : KeyC P T ek] (k : κ) (w : World) : ∀ (m : List (κ × ν)) (es : List MapEntry) (i : Nat), es.map (fun e => (e.key, e.val)) = m.map (encE ek ev) →
    (Instr.findAsking T (ek k) es i).run P w = .ok ((findIx k m i).map fun p => (p.1, ev p.2)) w
  | [], [], i, _ => rfl
  | [], _ :: _, _, h => by simp at h
  | _ :: _, [], _, h => by simp at h
  | p :: m, e :: es, i, h => by
    simp only [List.map_cons, List.cons.injEq, encE, Prod.mk.injEq] at h
    obtain ⟨⟨h1, h2⟩, h3⟩ := h
    simp only [Instr.findAsking, Sem.run_bind, h1, hk.eq, Result.andThen_ok, findIx]
    by_cases hkp : k = p.1
    · simp [hkp, h2]
    · simp only [hkp, decide_false, Bool.false_eq_true, if_false]
      exact run_findAsking k w m es (i + 1) h3
theorem findNow_eq {d : TypeDesc} {ek : κ → Value} {ev : ν → Value} (hd : ∀ k k', Instr.sameNow d (ek k) (ek k') = some (decide (k = k'))) (k : κ) : ∀ (m : List (κ × ν)) (es : List MapEntry) (i : Nat), es.map (fun e => (e.key, e.val)) = m.map (encE ek ev) →
    Instr.findNow d (ek k) es i = some ((findIx k m i).map fun p => (p.1, ev p.2))
  | [], [], i, _ => rfl
  | [], _ :: _, _, h => by simp at h
  | _ :: _, [], _, h => by simp at h
  | p :: m, e :: es, i, h => by
    simp only [List.map_cons, List.cons.injEq, encE, Prod.mk.injEq] at h
    obtain ⟨⟨h1, h2⟩, h3⟩ := h
    simp only [Instr.findNow, h1, hd, findIx]
    by_cases hkp : k = p.1
    · simp [hkp, h2]
    · simp only [hkp, decide_false, if_false]
      exact findNow_eq hd k m es (i + 1) h3
omit [DecidableEq κ] in
theorem findNow_none {d : TypeDesc} {ek : κ → Value} {ev : ν → Value} (hd : ∀ k k', Instr.sameNow d (ek k) (ek k') = none) (k : κ) (m : List (κ × ν)) (es : List MapEntry) (i : Nat) (h : es.map (fun e => (e.key, e.val)) = m.map (encE ek ev)) :
    Instr.findNow d (ek k) es i = none ∨ (m = [] ∧ Instr.findNow d (ek k) es i = some none) := by
  cases m with
  | nil => cases es with
    | nil => exact .inr ⟨rfl, rfl⟩
    | cons => simp at h
  | cons p m => cases es with
    | nil => simp at h
    | cons e es =>
      simp only [List.map_cons, List.cons.injEq, encE, Prod.mk.injEq] at h
      left
      simp only [Instr.findNow, h.1.1, hd]
theorem run_findKey {P : Program} {T : TypeId} {ek : κ → Value} {ev : ν → Value} [hk : KeyC P T ek] (k : κ) (w : World) (m : List (κ × ν)) (es : List MapEntry) (h : es.map (fun e => (e.key, e.val)) = m.map (encE ek ev)) :
    (Instr.findKey T (ek k) es).run P w = .ok ((findIx k m 0).map fun p => (p.1, ev p.2)) w := by
  obtain ⟨d, hd, hn⟩ := hk.now
  simp only [Instr.findKey, Sem.run_bind, hd, Result.andThen_ok]
  rcases hn with hn | hn
  · rw [findNow_eq hn k m es 0 h]; rfl
  · rcases findNow_none hn k m es 0 h with h' | ⟨rfl, h'⟩
    · rw [h']; exact run_findAsking k w m es 0 h
    · rw [h']; rfl

/-- A map that may be read. -/
class RdM (S : World → Prop) (r : Nat) (κ ν : outParam Type) (ek : outParam (κ → Value)) (ev : outParam (ν → Value)) (m : outParam (List (κ × ν))) : Prop where
  rd : ∀ w, S w → ∃ es clock, w.heap[r]? = some (.map es clock) ∧ MapIs ek ev m es clock
omit [DecidableEq κ] in
theorem rdM_head {W0 : World} {r : Nat} {ek : κ → Value} {ev : ν → Value} {m : List (κ × ν)} {H : List Chunk} : RdM (At W0 (MapC ek ev r m :: H)) r κ ν ek ev m :=
  ⟨fun _ hw => let ⟨es, clock, h1, h2⟩ := At.map.1 hw; ⟨es, clock, h1.read, h2⟩⟩
attribute [instance] rdM_head
instance (priority := low) RdM.tail {κ ν : Type} {W0 : World} {r : Nat} {ek : κ → Value} {ev : ν → Value} {m : List (κ × ν)} {c : Chunk} {H : List Chunk} [h : RdM (At W0 H) r κ ν ek ev m] : RdM (At W0 (c :: H)) r κ ν ek ev m :=
  ⟨fun w hw => h.rd w hw.drop⟩
omit [DecidableEq κ] in
theorem run_getMap {P : Program} {w : World} {r : Nat} {es : Array MapEntry} {clock : Nat} (h : w.heap[r]? = some (.map es clock)) : (getObj r).run P w = .ok (.map es clock) w := by
  simp only [getObj, Sem.run, h]

def lookV (ev : ν → Value) (z : Value) (o : Option ν) : Value := match o with | some v => ev v | none => z
theorem ex_lookup {P : Program} {S : World → Prop} {σ : Env} {T KT VT : TypeId} {x y : Operand} {r : Nat} {ek : κ → Value} {ev : ν → Value} {m : List (κ × ν)} {z : Value} [hT : TUnder P T (.map KT VT)] [hk : KeyC P KT ek] [hz : TZero P VT z] (hx : σ.val x = some (.map (some r)))
    (k : κ) (hy : σ.val y = some (ek k)) (hr : RdM S r κ ν ek ev m) : Ex P S σ (.lookup T x y false) (lookV ev z (look m k)) := by
  refine Ex.any (fun ρ hρ c hop w hw => ?_) (fun _ _ e => by cases e) (fun _ e => by cases e)
  obtain ⟨es, clock, h1, h2⟩ := hr.rd w hw
  simp only [execOp, hop, Instr.lookup, Sem.run_bind, hT.under, Result.andThen_ok, hρ _ _ hx, hρ _ _ hy, run_getMap h1, Sem.run_pure, hk.chk, run_findKey k w m es.toList h2.enc, ← findIx_look k m 0]
  cases findIx k m 0 <;> simp [lookV, hz.zero]
theorem ex_lookup_ok {P : Program} {S : World → Prop} {σ : Env} {T KT VT : TypeId} {x y : Operand} {r : Nat} {ek : κ → Value} {ev : ν → Value} {m : List (κ × ν)} {z : Value} [hT : TUnder P T (.map KT VT)] [hk : KeyC P KT ek] [hz : TZero P VT z] (hx : σ.val x = some (.map (some r)))
    (k : κ) (hy : σ.val y = some (ek k)) (hr : RdM S r κ ν ek ev m) : Ex P S σ (.lookup T x y true) (.tuple #[lookV ev z (look m k), .bool (look m k).isSome]) := by
  refine Ex.any (fun ρ hρ c hop w hw => ?_) (fun _ _ e => by cases e) (fun _ e => by cases e)
  obtain ⟨es, clock, h1, h2⟩ := hr.rd w hw
  simp only [execOp, hop, Instr.lookup, Sem.run_bind, hT.under, Result.andThen_ok, hρ _ _ hx, hρ _ _ hy, run_getMap h1, Sem.run_pure, hk.chk, run_findKey k w m es.toList h2.enc, ← findIx_look k m 0]
  cases findIx k m 0 <;> simp [lookV, hz.zero]
omit [DecidableEq κ] in
theorem ex_lenMap {P : Program} {S : World → Prop} {σ : Env} {T KT VT : TypeId} {x : Operand} {r : Nat} {ek : κ → Value} {ev : ν → Value} {m : List (κ × ν)} [hT : TUnder P T (.map KT VT)] (hx : σ.val x = some (.map (some r))) (hr : RdM S r κ ν ek ev m) :
    Ex P S σ (.call ⟨.builtin .len, #[x], #[T]⟩) (.int .i64 m.length) := by
  refine Ex.any (fun ρ hρ c hop w hw => ?_) (fun _ _ e => by cases e) (fun _ e => by cases e)
  obtain ⟨es, clock, h1, h2⟩ := hr.rd w hw
  have hl : es.size = m.length := by have := congrArg List.length h2.enc; simpa using this
  simp [execOp, hop, resolve, hρ _ _ hx, invoke, builtin, Builtin.len_, hT.under, run_getMap h1, goInt, hl]

/-- The map r among the owned, and the list with it turned. -/
class FindM (r : Nat) (H : List Chunk) (κ ν : outParam Type) (ek : outParam (κ → Value)) (ev : outParam (ν → Value)) (m : outParam (List (κ × ν))) (H' : outParam (List (κ × ν) → List Chunk)) : Prop where
  rep : ∀ m', Rep (MapC ek ev r m) (MapC ek ev r m') H (H' m')
omit [DecidableEq κ] in
theorem findM_head {r : Nat} {ek : κ → Value} {ev : ν → Value} {m : List (κ × ν)} {H : List Chunk} : FindM r (MapC ek ev r m :: H) κ ν ek ev m (fun m' => MapC ek ev r m' :: H) := ⟨fun _ => .head⟩
attribute [instance] findM_head
instance (priority := low) FindM.tail {κ ν : Type} {r : Nat} {ek : κ → Value} {ev : ν → Value} {m : List (κ × ν)} {c : Chunk} {H : List Chunk} {H' : List (κ × ν) → List Chunk} [h : FindM r H κ ν ek ev m H'] : FindM r (c :: H) κ ν ek ev m (fun m' => c :: H' m') := ⟨fun m' => .tail (h.rep m')⟩

theorem run_setMap {P : Program} {w : World} {r : Nat} {es : Array MapEntry} {clock : Nat} (o : Obj) (h : w.heap[r]? = some (.map es clock)) : (setObj r o).run P w = .ok () { w with heap := w.heap.setIfInBounds r o } := by
  simp only [setObj, Sem.run, h]
theorem findIx_some {k : κ} : ∀ {m : List (κ × ν)} {i j : Nat} {v : ν}, findIx k m i = some (j, v) → i ≤ j ∧ j - i < m.length ∧ ∀ u, mset m k u = m.set (j - i) (k, u)
  | [], _, _, _, h => by cases h
  | p :: m, i, j, v, h => by
    rw [findIx] at h
    by_cases hk : k = p.1
    · rw [if_pos hk] at h; cases h
      exact ⟨Nat.le_refl _, by simp, fun u => by simp [mset, hk]⟩
    · rw [if_neg hk] at h
      obtain ⟨h1, h2, h3⟩ := findIx_some h
      refine ⟨by omega, by simp; omega, fun u => ?_⟩
      rw [mset, if_neg hk, h3 u, show j - i = (j - (i + 1)) + 1 by omega, List.set_cons_succ]
theorem findIx_none {k : κ} : ∀ {m : List (κ × ν)} {i : Nat}, findIx k m i = none → ∀ u, mset m k u = m ++ [(k, u)]
  | [], _, _, u => rfl
  | p :: m, i, h, u => by
    rw [findIx] at h
    by_cases hk : k = p.1
    · rw [if_pos hk] at h; cases h
    · rw [if_neg hk] at h; rw [mset, if_neg hk, findIx_none h u]; rfl
theorem findIx_key {k : κ} : ∀ {m : List (κ × ν)} {i j : Nat} {v : ν}, findIx k m i = some (j, v) → m[j - i]? = some (k, v)
  | [], _, _, _, h => by cases h
  | p :: m, i, j, v, h => by
    rw [findIx] at h
    by_cases hk : k = p.1
    · rw [if_pos hk] at h; cases h; simp [hk]
    · rw [if_neg hk] at h
      have h1 := (findIx_some h).1
      rw [show j - i = (j - (i + 1)) + 1 by omega, List.getElem?_cons_succ]
      exact findIx_key h
omit [DecidableEq κ] in
theorem mapIs_set {ek : κ → Value} {ev : ν → Value} {m : List (κ × ν)} {es : Array MapEntry} {clock : Nat} (h : MapIs ek ev m es clock) (j : Nat) (k : κ) (v : ν) (hj : j < m.length) :
    MapIs ek ev (m.set j (k, v)) (es.modify j fun e => { e with key := ek k, val := ev v }) clock := by
  have hl : es.toList.length = m.length := by have := congrArg List.length h.enc; simpa using this
  have hborn : ((es.modify j fun e => { e with key := ek k, val := ev v }).toList.map (·.born)) = es.toList.map (·.born) := by
    rw [Array.toList_modify]
    apply List.ext_getElem?
    intro i
    simp only [List.getElem?_map, List.getElem?_modify]
    cases es.toList[i]? with
    | none => rfl
    | some e => by_cases hij : j = i <;> simp [hij]
  refine ⟨?_, by rw [hborn]; exact h.born, ?_⟩
  · rw [Array.toList_modify]
    apply List.ext_getElem?
    intro i
    have := congrArg (·[i]?) h.enc
    simp only [List.getElem?_map] at this
    simp only [List.getElem?_map, List.getElem?_modify, List.getElem?_set]
    by_cases hij : j = i
    · subst hij
      have : j < es.toList.length := by omega
      simp [hj, encE, List.getElem?_eq_getElem this]
    · simp only [hij, if_false]
      cases he : es.toList[i]? with
      | none => rw [he] at this; simpa using this
      | some e => rw [he] at this; simpa using this
  · intro e he
    have : e.born ∈ es.toList.map (·.born) := hborn ▸ List.mem_map.2 ⟨e, he, rfl⟩
    obtain ⟨e', he', hb⟩ := List.mem_map.1 this
    rw [← hb]; exact h.lt e' he'
omit [DecidableEq κ] in
theorem mapIs_push {ek : κ → Value} {ev : ν → Value} {m : List (κ × ν)} {es : Array MapEntry} {clock : Nat} (h : MapIs ek ev m es clock) (k : κ) (v : ν) :
    MapIs ek ev (m ++ [(k, v)]) (es.push { key := ek k, val := ev v, born := clock }) (clock + 1) := by
  refine ⟨?_, ?_, ?_⟩
  · simp [h.enc, encE]
  · rw [Array.toList_push, List.map_append, List.nodup_append]
    refine ⟨h.born, by simp, ?_⟩
    intro a ha b hb hab
    simp at hb
    subst hb
    obtain ⟨e, he, hb⟩ := List.mem_map.1 ha
    have := h.lt e he
    omega
  · intro e he
    rw [Array.toList_push, List.mem_append] at he
    rcases he with he | he
    · have := h.lt e he; omega
    · simp at he; subst he; simp
section
variable {C : Cx} {ds : List Deferred} {σ : Env} {H : List Chunk} {K : Value → List Chunk → Prop} {dst : Option Tmp} {ty : TypeId} {pos : String} {aft : Array Edge} {g : Option (Nat × Bool)}
theorem opR_mapUpdate {T KT VT : TypeId} {x y z : Operand} {r : Nat} {ek : κ → Value} {ev : ν → Value} {m : List (κ × ν)} {H' : List (κ × ν) → List Chunk} [hT : TUnder C.P T (.map KT VT)] [hk : KeyC C.P KT ek] (hx : σ.val x = some (.map (some r)))
    (k : κ) (v : ν) [hf : FindM r H κ ν ek ev m H'] (hy : σ.val y = some (ek k)) (hz : σ.val z = some (ev v)) (h : K undef (H' (mset m k v))) : OpR C ds ⟨dst, .mapUpdate T x y z, ty, pos, aft, g⟩ σ H K := by
  refine OpR.of_skip (fun c e => by cases e) fun ρ hρ w hw => ?_
  obtain ⟨R, p1, p2⟩ := (hf.rep (mset m k v)).split
  obtain ⟨es, clock, h1, h2⟩ := At.map.1 (hw.perm p1)
  have hrd := h1.read
  have hfind := run_findKey (P := C.P) (T := KT) k w m es.toList h2.enc
  cases hfi : findIx k m 0 with
  | none =>
    rw [hfi] at hfind
    refine ⟨_, _, ?_, h, (At.map.2 ⟨es.push { key := ek k, val := ev v, born := clock }, clock + 1, h1.write, ?_⟩).perm p2.symm⟩
    · simp only [execOp, Instr.mapUpdate, Sem.run_bind, hT.under, Result.andThen_ok, hρ _ _ hx, hρ _ _ hy, hρ _ _ hz, run_getMap hrd, hk.chk, hfind, Option.map_none, run_setMap _ hrd, Sem.run_pure]
    · rw [findIx_none hfi v]; exact mapIs_push h2 k v
  | some p =>
    obtain ⟨j, u⟩ := p
    rw [hfi] at hfind
    obtain ⟨_, hj, hset⟩ := findIx_some hfi
    rw [Nat.sub_zero] at hj
    have hkey := findIx_key hfi
    rw [Nat.sub_zero] at hkey
    have hek : ((es[j]?).map (·.key)).getD (ek k) = ek k := by
      have := congrArg (·[j]?) h2.enc
      simp only [List.getElem?_map, hkey] at this
      rw [← Array.getElem?_toList]
      cases he : es.toList[j]? with
      | none => rfl
      | some e => rw [he] at this; simp [encE] at this; simp [this.1]
    refine ⟨_, _, ?_, h, (At.map.2 ⟨es.modify j fun e => { e with key := ek k, val := ev v }, clock, h1.write, ?_⟩).perm p2.symm⟩
    · simp only [execOp, Instr.mapUpdate, Sem.run_bind, hT.under, Result.andThen_ok, hρ _ _ hx, hρ _ _ hy, hρ _ _ hz, run_getMap hrd, hk.chk, hfind, Option.map_some, hek, Instr.keyThatStays, hk.bits, if_true, Sem.run_pure, run_setMap _ hrd]
    · rw [hset v, Nat.sub_zero]; exact mapIs_set h2 j k v hj
end
theorem mdel_findIx {k : κ} : ∀ {m : List (κ × ν)} {i j : Nat} {v : ν}, findIx k m i = some (j, v) → mdel m k = m.eraseIdx (j - i)
  | [], _, _, _, h => by cases h
  | p :: m, i, j, v, h => by
    rw [findIx] at h
    by_cases hk : k = p.1
    · rw [if_pos hk] at h; cases h; simp [mdel, hk]
    · rw [if_neg hk] at h
      have h1 := (findIx_some h).1
      rw [mdel, if_neg hk, mdel_findIx h, show j - i = (j - (i + 1)) + 1 by omega, List.eraseIdx_cons_succ]
theorem mdel_none {k : κ} : ∀ {m : List (κ × ν)} {i : Nat}, findIx k m i = none → mdel m k = m
  | [], _, _ => rfl
  | p :: m, i, h => by
    rw [findIx] at h
    by_cases hk : k = p.1
    · rw [if_pos hk] at h; cases h
    · rw [if_neg hk] at h; rw [mdel, if_neg hk, mdel_none h]
theorem map_eraseIdx {α β : Type} (f : α → β) : ∀ (l : List α) (j : Nat), (l.eraseIdx j).map f = (l.map f).eraseIdx j
  | [], _ => rfl
  | x :: l, 0 => rfl
  | x :: l, j + 1 => by simp [List.eraseIdx_cons_succ, map_eraseIdx f l j]
omit [DecidableEq κ] in
theorem mapIs_erase {ek : κ → Value} {ev : ν → Value} {m : List (κ × ν)} {es : Array MapEntry} {clock : Nat} (h : MapIs ek ev m es clock) (j : Nat) : MapIs ek ev (m.eraseIdx j) (es.eraseIdxIfInBounds j) clock := by
  have he : (es.eraseIdxIfInBounds j).toList = es.toList.eraseIdx j := by
    simp only [Array.eraseIdxIfInBounds]
    split
    · simp
    · rename_i hj; rw [List.eraseIdx_of_length_le (by simpa using hj)]
  refine ⟨?_, ?_, fun e hm => h.lt e (List.mem_of_mem_eraseIdx (he ▸ hm))⟩
  · rw [he, map_eraseIdx, map_eraseIdx, h.enc]
  · rw [he, map_eraseIdx]; exact h.born.sublist (List.eraseIdx_sublist _ _)
section
variable {C : Cx} {ds : List Deferred} {σ : Env} {H : List Chunk} {K : Value → List Chunk → Prop} {dst : Option Tmp} {ty : TypeId} {pos : String} {aft : Array Edge} {g : Option (Nat × Bool)}
theorem opR_delete {T KT VT T2 : TypeId} {x y : Operand} {r : Nat} {ek : κ → Value} {ev : ν → Value} {m : List (κ × ν)} {H' : List (κ × ν) → List Chunk} [hT : TUnder C.P T (.map KT VT)] [hk : KeyC C.P KT ek] (hx : σ.val x = some (.map (some r)))
    (k : κ) [hf : FindM r H κ ν ek ev m H'] (hy : σ.val y = some (ek k)) (h : K (.tuple #[]) (H' (mdel m k))) : OpR C ds ⟨dst, .call ⟨.builtin .delete, #[x, y], #[T, T2]⟩, ty, pos, aft, g⟩ σ H K := by
  refine OpR.of_run (fun c e => by cases e) fun ρ hρ w hw => ?_
  obtain ⟨R, p1, p2⟩ := (hf.rep (mdel m k)).split
  obtain ⟨es, clock, h1, h2⟩ := At.map.1 (hw.perm p1)
  have hrd := h1.read
  have hfind := run_findKey (P := C.P) (T := KT) k w m es.toList h2.enc
  cases hfi : findIx k m 0 with
  | none =>
    rw [hfi] at hfind
    refine ⟨_, _, _, ?_, h, (At.map.2 ⟨es, clock, h1.write, ?_⟩).perm p2.symm⟩
    · simp [execOp, resolve, invoke, builtin, Builtin.delete_, hT.under, hρ _ _ hx, hρ _ _ hy, run_getMap hrd, hk.chk, hfind, run_setMap _ hrd]
    · rw [mdel_none hfi]; exact h2
  | some p =>
    obtain ⟨j, u⟩ := p
    rw [hfi] at hfind
    refine ⟨_, _, _, ?_, h, (At.map.2 ⟨es.eraseIdxIfInBounds j, clock, h1.write, ?_⟩).perm p2.symm⟩
    · simp [execOp, resolve, invoke, builtin, Builtin.delete_, hT.under, hρ _ _ hx, hρ _ _ hy, run_getMap hrd, hk.chk, hfind, run_setMap _ hrd]
    · rw [mdel_findIx hfi, Nat.sub_zero]; exact mapIs_erase h2 j
end
end Go.Rost
