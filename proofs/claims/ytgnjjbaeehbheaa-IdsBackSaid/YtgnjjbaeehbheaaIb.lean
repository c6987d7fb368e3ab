/- Batches and their bytes are one to one: without the program. -/
import Derived.Test.YtgnjjbaeehbheaaPr
namespace Go.Rost
open Go Go.RowKit Go.Proofs

theorem ofInt_nat (n : Nat) : (BitVec.ofInt 32 (n : Int)).toNat = n % 4294967296 := by
  rw [BitVec.toNat_ofInt]
  omega
theorem orU_nat {a b : Nat} (ha : a < 4294967296) (hb : b < 4294967296) : orU (a : Int) (b : Int) = ((a ||| b : Nat) : Int) := by
  unfold orU
  have h : a ||| b < 2 ^ 32 := Nat.or_lt_two_pow (by omega) (by omega)
  rw [BitVec.toNat_or, ofInt_nat, ofInt_nat, Nat.mod_eq_of_lt ha, Nat.mod_eq_of_lt hb, wrap32 (by omega) (by omega)]
theorem shlU_byte (b : UInt8) (k : Nat) (hk : k ≤ 24) : shlU (b.toNat : Int) (k : Int) = ((b.toNat * 2 ^ k : Nat) : Int) := by
  unfold shlU
  have h1 := b.toNat_lt
  have h2 : 2 ^ k ≤ 2 ^ 24 := Nat.pow_le_pow_right (by decide) hk
  have h3 : b.toNat * 2 ^ k ≤ 255 * 2 ^ 24 := Nat.mul_le_mul (by omega) h2
  rw [Int.toNat_natCast, Nat.min_eq_left (by omega)]
  have e : (b.toNat : Int) * 2 ^ k = ((b.toNat * 2 ^ k : Nat) : Int) := by simp
  rw [e, wrap32 (by omega) (by omega)]
theorem or_add {a b k : Nat} (ha : a < 2 ^ k) : a ||| (b * 2 ^ k) = a + b * 2 ^ k := by
  have := Nat.two_pow_add_eq_or_of_lt ha b
  rw [Nat.mul_comm b, Nat.or_comm, ← this, Nat.add_comm]
theorem getv4 (b0 b1 b2 b3 : UInt8) : getv (toB [b0, b1, b2, b3]) = ((b0.toNat + b1.toNat * 256 + b2.toNat * 65536 + b3.toNat * 16777216 : Nat) : Int) := by
  have h0 := b0.toNat_lt; have h1 := b1.toNat_lt; have h2 := b2.toNat_lt; have h3 := b3.toNat_lt
  show orU (orU (orU (orU 0 (shlU b0.toNat (8 * ((0 : Nat) : Int)))) (shlU b1.toNat ((8 : Nat) : Int))) (shlU b2.toNat ((16 : Nat) : Int))) (shlU b3.toNat ((24 : Nat) : Int)) = _
  rw [shlU_zero, orU_zero (by omega) (by omega), shlU_byte _ _ (by decide), shlU_byte _ _ (by decide), shlU_byte _ _ (by decide)]
  rw [orU_nat (by omega) (by omega), or_add (by omega), orU_nat (by omega) (by omega), or_add (by omega), orU_nat (by omega) (by omega), or_add (by omega)]
theorem byteAt_nat (n k : Nat) : (byteAt (n : Int) k).toNat = n / 2 ^ (8 * k) % 256 := by
  unfold byteAt
  rw [UInt8.toNat_ofNat', Int.fdiv_eq_ediv_of_nonneg _ (Int.pow_nonneg (by decide))]
  have e : ((n : Int) / 2 ^ (8 * k)) = ((n / 2 ^ (8 * k) : Nat) : Int) := by simp
  rw [e, Int.toNat_natCast]
theorem getv_put {n : Nat} (h : n < 4294967296) : getv (toB (putL (n : Int))) = (n : Int) := by
  show getv (toB [byteAt n 0, byteAt n 1, byteAt n 2, byteAt n 3]) = _
  rw [getv4, byteAt_nat, byteAt_nat, byteAt_nat, byteAt_nat]
  congr 1
  simp only [Nat.mul_zero, Nat.pow_zero, Nat.div_one, Nat.mul_one]
  rw [show 8 * 2 = 16 from rfl, show 8 * 3 = 24 from rfl, show (2 : Nat) ^ 8 = 256 from rfl, show (2 : Nat) ^ 16 = 65536 from rfl, show (2 : Nat) ^ 24 = 16777216 from rfl]
  omega
theorem put_getv (b0 b1 b2 b3 : UInt8) : putL (getv (toB [b0, b1, b2, b3])) = [b0, b1, b2, b3] := by
  have h0 := b0.toNat_lt; have h1 := b1.toNat_lt; have h2 := b2.toNat_lt; have h3 := b3.toNat_lt
  rw [getv4]
  unfold putL
  have e : ∀ (k : Nat) (b : UInt8), (b0.toNat + b1.toNat * 256 + b2.toNat * 65536 + b3.toNat * 16777216) / 2 ^ (8 * k) % 256 = b.toNat → byteAt ((b0.toNat + b1.toNat * 256 + b2.toNat * 65536 + b3.toNat * 16777216 : Nat) : Int) k = b := fun k b h => by
    apply UInt8.toNat_inj.1
    rw [byteAt_nat, h]
  rw [e 0 b0 (by simp only [Nat.mul_zero, Nat.pow_zero, Nat.div_one]; omega), e 1 b1 (by rw [show (2 : Nat) ^ (8 * 1) = 256 from rfl]; omega), e 2 b2 (by rw [show (2 : Nat) ^ (8 * 2) = 65536 from rfl]; omega), e 3 b3 (by rw [show (2 : Nat) ^ (8 * 3) = 16777216 from rfl]; omega)]
theorem toB_extract (l : List UInt8) (i j : Nat) : (toB l).extract i j = toB ((l.take j).drop i) := by
  apply ByteArray.ext
  rw [ByteArray.data_extract]
  apply Array.toList_inj.mp
  simp [toB, List.drop_take]
theorem getB (l : List UInt8) (i : Nat) : (toB l)[i]? = l[i]? := by
  by_cases h : i < l.length
  · rw [getElem?_pos (toB l) i (by rw [toB_size]; exact h), List.getElem?_eq_getElem h]
    rfl
  · rw [getElem?_neg (toB l) i (by rw [toB_size]; exact h), List.getElem?_eq_none (by omega)]
theorem toB_inj {l m : List UInt8} (h : toB l = toB m) : l = m := by
  have := congrArg (fun b : ByteArray => b.data.toList) h
  simpa [toB] using this
theorem toB_of (s : ByteArray) : s = toB s.data.toList := (toB_self s).symm
theorem putL_length (n : Int) : (putL n).length = 4 := rfl
/-- What is written of a message is read as that message. -/
theorem part1_enc (m : Msg) (r : List UInt8) (h : m.right = true) : part1 (toB (enc1 m ++ r)) = some (m, toB r) := by
  obtain ⟨⟨f, c⟩, d⟩ := m
  have hr := right_spec h
  simp only at hr
  obtain ⟨fn, rfl⟩ : ∃ n : Nat, f = (n : Int) := ⟨f.toNat, by omega⟩
  obtain ⟨cn, rfl⟩ : ∃ n : Nat, c = (n : Int) := ⟨c.toNat, by omega⟩
  have hd : toB d.data.toList = d := toB_self d
  have hdl : d.data.toList.length = d.size := size_list d
  have hL : enc1 ⟨⟨fn, cn⟩, d⟩ ++ r = UInt8.ofNat fn :: (putL (cn : Int) ++ (putL (d.size : Int) ++ (d.data.toList ++ r))) := by simp [enc1]
  rw [hL]
  generalize hX : UInt8.ofNat fn :: (putL (cn : Int) ++ (putL (d.size : Int) ++ (d.data.toList ++ r))) = X
  have hXl : X.length = 9 + (d.size + r.length) := by rw [← hX]; simp [putL_length]; omega
  have e1 : (X.take 5).drop 1 = putL (cn : Int) := by rw [← hX]; rfl
  have e2 : (X.take 9).drop 5 = putL (d.size : Int) := by rw [← hX]; rfl
  have e3 : (X.take (9 + d.size)).drop 9 = d.data.toList := by
    rw [← hX, List.drop_take]
    show List.take (9 + d.size - 9) (d.data.toList ++ r) = _
    rw [Nat.add_sub_cancel_left, ← hdl, List.take_left]
  have e4 : (X.take X.length).drop (9 + d.size) = r := by
    rw [List.take_length, ← hX]
    show List.drop (9 + d.size) (UInt8.ofNat fn :: (putL (cn : Int) ++ (putL (d.size : Int) ++ (d.data.toList ++ r)))) = _
    rw [← List.drop_drop]
    show List.drop d.size (d.data.toList ++ r) = r
    rw [← hdl, List.drop_left]
  have e5 : (X[0]?).getD 0 = UInt8.ofNat fn := by rw [← hX]; rfl
  rw [part1, if_pos (by rw [toB_size]; omega), toB_extract, toB_extract, toB_extract, toB_extract, toB_size, getB, e1, e2, e5, getv_put (by omega), getv_put (by omega), if_neg (by omega), Int.toNat_natCast, e3, e4, hd]
  have ef : ((UInt8.ofNat fn).toNat : Int) = (fn : Int) := by
    rw [UInt8.toNat_ofNat']
    omega
  rw [ef, if_pos h]
theorem nine : ∀ {X : List UInt8}, 9 ≤ X.length → ∃ a0 a1 a2 a3 a4 a5 a6 a7 a8 Y, X = a0 :: a1 :: a2 :: a3 :: a4 :: a5 :: a6 :: a7 :: a8 :: Y := by
  intro X h
  rcases X with _ | ⟨a0, X⟩
  · simp at h
  rcases X with _ | ⟨a1, X⟩
  · simp at h
  rcases X with _ | ⟨a2, X⟩
  · simp at h
  rcases X with _ | ⟨a3, X⟩
  · simp at h
  rcases X with _ | ⟨a4, X⟩
  · simp at h
  rcases X with _ | ⟨a5, X⟩
  · simp at h
  rcases X with _ | ⟨a6, X⟩
  · simp at h
  rcases X with _ | ⟨a7, X⟩
  · simp at h
  rcases X with _ | ⟨a8, X⟩
  · simp at h
  exact ⟨_, _, _, _, _, _, _, _, _, _, rfl⟩
/-- What is read as a message was written so. -/
theorem enc_part1 {s : ByteArray} {m : Msg} {r : ByteArray} (h : part1 s = some (m, r)) : s.data.toList = enc1 m ++ r.data.toList ∧ m.right = true := by
  by_cases h9 : 9 ≤ s.size
  · obtain ⟨X, rfl⟩ : ∃ X, s = toB X := ⟨s.data.toList, toB_of s⟩
    obtain ⟨a0, a1, a2, a3, a4, a5, a6, a7, a8, Y, rfl⟩ := nine (X := X) (by rw [toB_size] at h9; exact h9)
    have e1 : ((a0 :: a1 :: a2 :: a3 :: a4 :: a5 :: a6 :: a7 :: a8 :: Y).take 5).drop 1 = [a1, a2, a3, a4] := rfl
    have e2 : ((a0 :: a1 :: a2 :: a3 :: a4 :: a5 :: a6 :: a7 :: a8 :: Y).take 9).drop 5 = [a5, a6, a7, a8] := rfl
    have hp1 := put_getv a1 a2 a3 a4
    have hp2 := put_getv a5 a6 a7 a8
    have hk0 := (getv_range (toB [a5, a6, a7, a8])).1
    rw [part1, if_pos h9, toB_extract, toB_extract, toB_extract, toB_extract, toB_size, getB, e1, e2] at h
    generalize getv (toB [a1, a2, a3, a4]) = cn at *
    generalize getv (toB [a5, a6, a7, a8]) = k0 at *
    obtain ⟨k, rfl⟩ : ∃ k : Nat, k0 = (k : Int) := ⟨k0.toNat, by omega⟩
    have e3 : ((a0 :: a1 :: a2 :: a3 :: a4 :: a5 :: a6 :: a7 :: a8 :: Y).take (9 + k)).drop 9 = Y.take k := by
      rw [List.drop_take, Nat.add_sub_cancel_left]; rfl
    have e4 : ((a0 :: a1 :: a2 :: a3 :: a4 :: a5 :: a6 :: a7 :: a8 :: Y).take (a0 :: a1 :: a2 :: a3 :: a4 :: a5 :: a6 :: a7 :: a8 :: Y).length).drop (9 + k) = Y.drop k := by
      rw [List.take_length, ← List.drop_drop]; rfl
    rw [Int.toNat_natCast, e3, e4] at h
    split at h
    · cases h
    · rename_i hno
      simp only [List.length_cons] at hno
      split at h
      · rename_i hr
        obtain ⟨rfl, rfl⟩ := Prod.mk.inj (Option.some.inj h)
        refine ⟨?_, hr⟩
        have hyk : (Y.take k).length = k := by rw [List.length_take]; omega
        have et : ∀ L : List UInt8, (toB L).data.toList = L := fun L => by simp [toB]
        unfold enc1
        simp only
        rw [et, et, et, hp1, toB_size, hyk, hp2]
        simp
      · cases h
  · rw [part1, if_neg h9] at h; cases h
theorem takeN_enc : ∀ (l : List Msg) (r : List UInt8) (out : List Msg), (∀ x ∈ l, x.right = true) → takeN l.length (toB (l.flatMap enc1 ++ r)) out = some (out ++ l, toB r)
  | [], r, out, _ => by simp [takeN]
  | m :: l, r, out, h => by
    rw [List.length_cons, takeN, List.flatMap_cons, List.append_assoc, part1_enc m _ (h m (by simp))]
    simp only
    rw [takeN_enc l r (out ++ [m]) (fun x hx => h x (by simp [hx]))]
    simp
theorem enc_takeN : ∀ (n : Nat) (s : ByteArray) (out l : List Msg) (r : ByteArray), takeN n s out = some (l, r) → ∃ l', l = out ++ l' ∧ l'.length = n ∧ s.data.toList = l'.flatMap enc1 ++ r.data.toList ∧ ∀ x ∈ l', x.right = true
  | 0, s, out, l, r, h => by cases h; exact ⟨[], by simp, rfl, by simp, fun x hx => by cases hx⟩
  | n + 1, s, out, l, r, h => by
    rw [takeN] at h
    cases hp : part1 s with
    | none => rw [hp] at h; cases h
    | some x =>
      obtain ⟨m, s'⟩ := x
      rw [hp] at h
      obtain ⟨l', rfl, h2, h3, h4⟩ := enc_takeN n s' (out ++ [m]) l r h
      obtain ⟨h5, h6⟩ := enc_part1 hp
      refine ⟨m :: l', by simp, by simp [h2], by rw [h5, h3]; simp, ?_⟩
      intro x hx
      rcases List.mem_cons.1 hx with rfl | hx
      · exact h6
      · exact h4 x hx
theorem unpack_pack {l : List Msg} (h : (packV l).2 = 0) : unpackV (packV l).1 = (l, 0) := by
  unfold packV at h ⊢
  split at h
  · cases h
  · rename_i h64
    split at h
    · rename_i hall
      rw [if_neg h64, if_pos hall]
      have hall' : ∀ x ∈ l, x.right = true := List.all_eq_true.1 hall
      show unpackV (toB (packL l)) = _
      have hf : firstOf (toB (packL l)) = l.length := by
        unfold firstOf
        rw [getB]
        show (UInt8.ofNat l.length).toNat = _
        rw [UInt8.toNat_ofNat']
        omega
      have hsz : (toB (packL l)).size = (l.flatMap enc1).length + 1 := by rw [toB_size]; rfl
      have hex : (toB (packL l)).extract 1 (toB (packL l)).size = toB (l.flatMap enc1 ++ []) := by
        rw [toB_extract, toB_size, List.take_length, List.append_nil]
        rfl
      rw [unpackV, if_neg (by rw [hf]; omega), hf, hex, takeN_enc l [] [] hall']
      simp only
      rw [if_pos (by rw [toB_size]; rfl), List.nil_append]
    · cases h
theorem pack_unpack {s : ByteArray} (h : (unpackV s).2 = 0) : packV (unpackV s).1 = (s, 0) := by
  unfold unpackV at h ⊢
  split at h
  · cases h
  · rename_i hn
    rw [if_neg hn]
    cases ht : takeN (firstOf s) (s.extract 1 s.size) [] with
    | none => rw [ht] at h; cases h
    | some q =>
      obtain ⟨l, r⟩ := q
      rw [ht] at h
      simp only at h ⊢
      split at h
      · rename_i hr
        rw [if_pos hr]
        obtain ⟨l', hl', h2, h3, h4⟩ := enc_takeN _ _ _ _ _ ht
        rw [List.nil_append] at hl'
        subst hl'
        show packV l = _
        have hre : r.data.toList = [] := by rw [empty_of_size hr]
        rw [hre, List.append_nil] at h3
        have h64 : ¬ 64 < l.length := by omega
        rw [packV_good h64 h4]
        congr 1
        have hs0 : s.data.toList = (s[0]?).getD 0 :: (s.extract 1 s.size).data.toList := by
          obtain ⟨X, hX⟩ : ∃ X, X = s.data.toList := ⟨_, rfl⟩
          have hs : s = toB X := by rw [hX]; exact toB_of s
          subst hs
          cases X with
          | nil => exact absurd (.inl rfl) hn
          | cons a Y =>
            rw [toB_extract, toB_size, List.take_length, getB]
            simp [toB]
        have hb : UInt8.ofNat l.length = (s[0]?).getD 0 := by
          rw [h2]
          unfold firstOf
          exact UInt8.ofNat_toNat
        show toB (packL l) = s
        rw [packL, hb, ← h3, ← hs0, toB_self]
      · cases h
theorem unpack_bad {s : ByteArray} (h : (unpackV s).2 ≠ 0) : (unpackV s).1 = [] := by
  unfold unpackV at h ⊢
  split
  · rfl
  · rename_i hn
    rw [if_neg hn] at h
    split
    · rfl
    · rename_i l r ht
      rw [ht] at h
      simp only at h
      split
      · rename_i hr; rw [if_pos hr] at h; exact absurd rfl h
      · rfl
end Go.Rost
