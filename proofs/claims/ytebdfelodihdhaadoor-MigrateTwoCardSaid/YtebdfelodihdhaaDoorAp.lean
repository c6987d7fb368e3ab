/- A string's bytes behind a slice of bytes. -/
import Derived.Test.YtebdfelodihdhaaDoorNb
namespace Go.Rost
open Go Go.RowKit Go.Proofs

theorem run_firstStr {P : Program} {w : World} (s : ByteArray) (ys : List UInt8) (hys : ys = s.data.toList) : (Builtin.firstCells (Enc.n UInt8) ys.length (.string s)).run P w = .ok (flat ys).toArray w := by
  have hsz : ys.length = s.size := by rw [hys]; simp
  rw [hsz]
  simp only [Builtin.firstCells, Sem.run_pure]
  congr 1
  apply Array.toList_inj.mp
  rw [flat_bytes, hys]
  simp
  exact fun _ _ => rfl
section
variable {C : Cx} {ds : List Deferred} {σ : Env} {H : List Chunk} {K : Value → List Chunk → Prop} {dst : Option Tmp} {ty : TypeId} {pos : String} {aft : Array Edge} {g : Option (Nat × Bool)}
theorem opR_appendStr {T T2 E nb : TypeId} {x y : Operand} {v z : Value} {zs : List Value} {s : ByteArray} {l : List UInt8} {H' : Chunk → List Chunk} (ys : List UInt8) (hys : ys = s.data.toList) [hT2 : TUnder C.P T2 .string] [hT : TUnder C.P T (.slice E)] [hE : TSize C.P E (Enc.n UInt8)] [hZ : TZero C.P E z] [hc : CellsOf z zs] [hB : TBytes C.P E nb]
    (hx : σ.val x = some v) [hf : FindS v H UInt8 inferInstance E l H'] (hy : σ.val y = some (.string s)) (hzs : zs.length = Enc.n UInt8) (hb : l.length + ys.length ≤ 1048576) (hnb : Nat.ble nb 1024 = true)
    (h0 : ∀ p cap, SlV p cap (l ++ ys) → K (.slice p (l ++ ys).length cap) (H' (SlT E (.slice p (l ++ ys).length cap) (l ++ ys)))) : OpR C ds ⟨dst, .call ⟨.builtin .append, #[x, y], #[T, T2]⟩, ty, pos, aft, g⟩ σ H K := by
  refine OpR.of_run (fun c e => by cases e) fun ρ hρ w hw => ?_
  obtain ⟨i, hi1, hi2⟩ := hB.info w
  obtain ⟨i', hi1', hi2'⟩ := hB.info w.drew
  have hnb' : nb ≤ 1024 := Nat.le_of_ble_eq_true hnb
  have hsz : s.size = ys.length := by rw [hys]; simp
  have hnew := run_firstStr (P := C.P) (w := w) s ys hys
  have hexec : ∀ (s' : Value) (r : Result Value), s' = v → (Builtin.append_ #[T, T2] ty #[s', .string s]).run C.P w = r → (execOp ρ ⟨dst, .call ⟨.builtin .append, #[x, y], #[T, T2]⟩, ty, pos, aft, g⟩).run C.P w = r.andThen fun u w' => .ok (.value u) w' := by
    rintro s r rfl rfl
    simp [execOp, resolve, invoke, builtin, hρ _ _ hx, hρ _ _ hy]
  -- the row that is made where there is no room
  have grow : ∀ (p : Option Addr) (cap : Nat), v = .slice p l.length cap → (l.length ≤ cap) → SlR (fun w' => w' = w.drew) p l → ¬ l.length + ys.length ≤ cap →
      ∃ v' w' H'', (execOp ρ ⟨dst, .call ⟨.builtin .append, #[x, y], #[T, T2]⟩, ty, pos, aft, g⟩).run C.P w = .ok (.value v') w' ∧ K v' H'' ∧ At C.W0 H'' w' := by
    intro p cap hv hle hp hroom
    obtain ⟨nc, hnc⟩ : ∃ nc, nc = (Question.appendCap (l.length + ys.length) cap E).cut (w.tape w.drawn (.appendCap (l.length + ys.length) cap E)) := ⟨_, rfl⟩
    have hge : l.length + ys.length ≤ nc := by rw [hnc]; simp only [Question.cut]; omega
    have hold := run_first (P := C.P) (c := cap) hp
    have hnew' := run_firstStr (P := C.P) (w := w.drew) s ys hys
    have h48 : ¬ Builtin.nextslicecap (l.length + ys.length) cap * nb > 2 ^ 48 := by
      have h1 := nextcap_le (need := l.length + ys.length) (old := cap) (by omega)
      have h2 : Builtin.nextslicecap (l.length + ys.length) cap * nb ≤ (2 * (l.length + ys.length) + 1000) * 1024 := Nat.mul_le_mul h1 hnb'
      omega
    have hi63 : ¬ (((l.length + ys.length : Nat) : Int) > IntKind.i64.max ∧ (false = true ∨ nb = 0)) := by
      intro hh; have : IntKind.i64.max = 9223372036854775807 := by decide
      omega
    have hcells : (flat l).toArray ++ (flat ys).toArray ++ Builtin.zeroCells z.cells (nc - (l.length + ys.length)) = (flat (l ++ ys) ++ (Builtin.zeroCells z.cells (nc - (l.length + ys.length))).toList).toArray := by
      apply Array.toList_inj.mp; simp [flat_append]
    refine ⟨.slice (some ⟨w.heap.size, 0, none⟩) (l ++ ys).length nc, w.drew.alloc (.cells (flat (l ++ ys) ++ (Builtin.zeroCells z.cells (nc - (l.length + ys.length))).toList).toArray E (0, 0)), H' (SlT E (.slice (some ⟨w.heap.size, 0, none⟩) (l ++ ys).length nc) (l ++ ys)), ?_, h0 _ _ ⟨by rw [List.length_append]; exact hge, .inr ⟨_, rfl⟩⟩, ?_⟩
    · rw [hexec (.slice p l.length cap) _ hv.symm rfl]
      simp only [Builtin.append_, Sem.run_bind, hT.under, hT2.under, hsz, Result.andThen_ok, hE.size, List.getElem?_toArray, List.getElem?_cons_zero, List.getElem?_cons_succ, Sem.run_pure, Builtin.lenOf, hroom, if_false, hi1, hi2, Bool.false_eq_true]
      simp only [false_or, Bool.not_false, if_true, newRow, List.length_append]
      rw [if_neg (by simpa using hi63)]
      have h48' : ¬ 281474976710656 < Builtin.nextslicecap (l.length + ys.length) cap * nb := by simpa using h48
      simp [hi1, hi2, hi1', h48', hold, hnew', Question.forced, ← hnc, hZ.zero]
      rw [← Array.append_assoc, hcells]
    · have h1 : At C.W0 (Blk w.heap.size _ :: H) (w.drew.alloc _) := (hw.drew (w.drawn + 1)).alloc (.cells (flat (l ++ ys) ++ (Builtin.zeroCells z.cells (nc - (l.length + ys.length))).toList).toArray E (0, 0))
      obtain ⟨R, p1, p2⟩ := (hf.rep (SlT E (.slice (some ⟨w.heap.size, 0, none⟩) (l ++ ys).length nc) (l ++ ys))).split
      have h2 := (h1.perm ((p1.cons _).trans (.swap _ _ _))).drop
      refine (At.slt_blk (cap := nc) h2 _ rfl ?_).perm p2.symm
      have hsz : z.cells.size = Enc.n UInt8 := by rw [hc.eq]; simpa using hzs
      have hzl : (Builtin.zeroCells z.cells (nc - (l.length + ys.length))).toList.length = (nc - (l.length + ys.length)) * Enc.n UInt8 := by rw [Array.length_toList, Rost.size_zeroCells, hsz]
      rw [List.length_append, flat_length, hzl, List.length_append, ← Nat.add_mul]
      congr 1; omega
  obtain ⟨R, p1, p2⟩ := (hf.rep (SlT E v (l ++ ys))).split
  rcases (hw.perm p1).slt with ⟨hv, hl, _⟩ | ⟨b, cap, sp, hv, hlen, hw'⟩
  · subst hl
    by_cases hm : ys.length = 0
    · have hys : ys = [] := List.length_eq_zero_iff.1 hm
      subst hys
      refine ⟨.slice none 0 0, w, H' (SlT E (.slice none 0 0) (([] : List UInt8) ++ [])), ?_, h0 none 0 ⟨by simp, .inl ⟨rfl, rfl, rfl⟩⟩, ?_⟩
      · rw [hexec (.slice none 0 0) _ hv.symm rfl]
        have h0s : s.size = 0 := by rw [hsz]; rfl
        have hf0 := hnew
        simp [flat] at hf0
        simp [Builtin.append_, hT.under, hT2.under, hE.size, Builtin.lenOf, h0s, hf0]
      · obtain ⟨R', q1, q2⟩ := (hf.rep (SlT E (.slice none 0 0) (([] : List UInt8) ++ []))).split
        exact (At.slt_nil E (hw.perm q1).drop).perm q2.symm
    · exact grow none 0 (by simpa using hv) (by simp) (.inl rfl) (by rw [List.length_nil]; omega)
  · have hcapge : l.length ≤ cap := by
      rw [List.length_append, flat_length] at hlen
      exact Nat.le_of_mul_le_mul_right (by omega : l.length * Enc.n UInt8 ≤ cap * Enc.n UInt8) Enc.pos
    have hrd := hw'.read
    by_cases hroom : l.length + ys.length ≤ cap
    · have hsp : ys.length * Enc.n UInt8 ≤ sp.length := by
        rw [List.length_append, flat_length] at hlen
        have := Nat.mul_le_mul_right (Enc.n UInt8) hroom
        rw [Nat.add_mul] at this
        omega
      have hst := run_storeCells C.P b E (flat ys) 0 (l.length * Enc.n UInt8) (flat l ++ sp) w hrd (by rw [List.length_append, flat_length, flat_length]; omega) (ones_flat ys)
      have hset : setsL (flat l ++ sp) (l.length * Enc.n UInt8) (flat ys) = flat (l ++ ys) ++ sp.drop (flat ys).length := by
        rw [← flat_length l, setsL_append _ _ _ (by rw [flat_length]; exact hsp), flat_append, List.append_assoc]
      rw [Nat.add_zero, hset] at hst
      refine ⟨.slice (some ⟨b, 0, none⟩) (l ++ ys).length cap, { w with heap := w.heap.setIfInBounds b (.cells (flat (l ++ ys) ++ sp.drop (flat ys).length).toArray E (0, 0)) }, H' (SlT E (.slice (some ⟨b, 0, none⟩) (l ++ ys).length cap) (l ++ ys)), ?_, h0 _ _ ⟨by rw [List.length_append]; exact hroom, .inr ⟨_, rfl⟩⟩, ?_⟩
      · rw [hexec (.slice (some ⟨b, 0, none⟩) l.length cap) _ hv.symm rfl]
        simp [Builtin.append_, hT.under, hT2.under, hsz, hE.size, Builtin.lenOf, hroom, hnew, Addr.add_none, hst, -List.append_assoc]
      · obtain ⟨R', q1, q2⟩ := (hf.rep (SlT E (.slice (some ⟨b, 0, none⟩) (l ++ ys).length cap) (l ++ ys))).split
        have hR : At C.W0 (Blk b (.cells (flat l ++ sp).toArray E (0, 0)) :: R') w := by
          rcases (hw.perm q1).slt with ⟨hv', _, _⟩ | ⟨b', cap', sp', hv', hlen', hw''⟩
          · rw [hv] at hv'; cases hv'
          · rw [hv] at hv'; cases hv'
            have := hw''.read
            rw [hrd] at this
            rw [Option.some.inj this]
            exact hw''
        refine (At.slt_blk (cap := cap) hR.write _ rfl ?_).perm q2.symm
        rw [List.length_append, List.length_drop, flat_length, flat_length, List.length_append, Nat.add_mul]
        rw [List.length_append, flat_length] at hlen
        omega
    · refine grow (some ⟨b, 0, none⟩) cap hv hcapge (.inr ⟨b, 0, rfl, ?_⟩) hroom
      rintro w' rfl i u hu
      have hr' : RdBlk (fun w' => w' = w) b (flat l ++ sp).toArray := fun w' e => ⟨E, (0, 0), e ▸ hrd⟩
      exact hr'.rd rfl w rfl i u hu
end
end Go.Rost
