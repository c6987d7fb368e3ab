/- The plain laws of migrating. -/
import Derived.Test.YtebdfelodihdhaaDoorMx
namespace Go.Rost
open Go Go.RowKit Go.Proofs

theorem toB_ext (l : List UInt8) (i j : Nat) : (toB l).extract i j = toB ((l.take j).drop i) := by
  apply ByteArray.ext
  rw [ByteArray.data_extract]
  apply Array.toList_inj.mp
  simp [toB, List.drop_take]
theorem toB_list (l : List UInt8) : (toB l).data.toList = l := by simp [toB]
theorem toB_inj {l m : List UInt8} : toB l = toB m ↔ l = m := ⟨fun h => by have := congrArg (fun s : ByteArray => s.data.toList) h; simpa [toB] using this, fun h => by rw [h]⟩
theorem putB (n : Int) : (⟨(putL n).toArray⟩ : ByteArray) = toB (putL n) := rfl
theorem hasSuf_b (l : List UInt8) (n : Int) : hasSuf (toB l) ⟨(putL n).toArray⟩ = decide (4 ≤ l.length ∧ l.drop (l.length - 4) = putL n) := by
  rw [hasSuf, putB_size, toB_size, toB_ext, putB, List.take_length]
  rw [Bool.eq_iff_iff]; simp [toB_inj]
theorem hasPre_b (l : List UInt8) : hasPre (toB l) ⟨#[98]⟩ = decide (l.take 1 = [98]) := by
  rw [hasPre, show (⟨#[98]⟩ : ByteArray).size = 1 from rfl, toB_size, toB_ext, show (⟨#[98]⟩ : ByteArray) = toB [98] from rfl, List.drop_zero]
  rw [Bool.eq_iff_iff]
  simp only [Bool.and_eq_true, decide_eq_true_eq, toB_inj]
  constructor
  · exact fun h => h.2
  · intro h
    refine ⟨?_, h⟩
    cases l with
    | nil => cases h
    | cons c l => simp
theorem turned_of {s : Sta} {to : Int} {l : List UInt8} (h : l.length ≤ 1000) : turned s to l = some ⟨to, s.cnt, toB l⟩ := if_pos h
theorem tn32_b (v c : Int) (l : List UInt8) : tn32 ⟨v, c, toB l⟩ = if 4 ≤ l.length ∧ l.drop (l.length - 4) = putL c then turned ⟨v, c, toB l⟩ 2 (l.take (l.length - 4)) else none := by
  rw [tn32, hasSuf_b]
  simp only [decide_eq_true_eq, toB_size, toB_ext, toB_list, List.drop_zero]
theorem tn21_b (v c : Int) (l : List UInt8) : tn21 ⟨v, c, toB l⟩ = if l.take 1 = [98] then turned ⟨v, c, toB l⟩ 1 (l.drop 1) else none := by
  rw [tn21, hasPre_b]
  simp only [decide_eq_true_eq, toB_size, toB_ext, toB_list, List.take_length]
theorem tn12_b (v c : Int) (l : List UInt8) : tn12 ⟨v, c, toB l⟩ = turned ⟨v, c, toB l⟩ 2 (98 :: l) := by rw [tn12]; simp only [Sta.l, toB_list]
theorem tn23_b (v c : Int) (l : List UInt8) : tn23 ⟨v, c, toB l⟩ = turned ⟨v, c, toB l⟩ 3 (l ++ putL c) := by rw [tn23]; simp only [Sta.l, toB_list]
theorem turn_back {k : Stp} (hk : k.Ok) {s t : Sta} (hs : s.data.size ≤ 1000) (hv : s.ver = k.a) (h : turnX k s = some t) : turnX ⟨k.b, k.a⟩ t = some s := by
  obtain ⟨v, c, d⟩ := s
  obtain ⟨l, rfl⟩ : ∃ l, d = toB l := ⟨_, (toB_self d).symm⟩
  rw [toB_size] at hs
  simp only at hs hv
  subst hv
  rcases hk with rfl | rfl | rfl | rfl
  · change tn12 _ = some t at h
    change tn21 t = _
    rw [tn12_b] at h
    obtain ⟨rfl, hl⟩ := turned_some h
    rw [tn21_b, if_pos (by simp), List.drop_one, List.tail_cons, turned_of hs]
  · change tn23 _ = some t at h
    change tn32 t = _
    rw [tn23_b] at h
    obtain ⟨rfl, hl⟩ := turned_some h
    rw [tn32_b, List.length_append, putL_len, Nat.add_sub_cancel, if_pos ⟨by omega, by simp⟩, List.take_left', turned_of hs]
    rfl
  · change tn32 _ = some t at h
    change tn23 t = _
    rw [tn32_b] at h
    split at h
    · rename_i h4
      obtain ⟨rfl, hl⟩ := turned_some h
      rw [tn23_b, show l.take (l.length - 4) ++ putL c = l by rw [← h4.2, List.take_append_drop], turned_of hs]
    · cases h
  · change tn21 _ = some t at h
    change tn12 t = _
    rw [tn21_b] at h
    split at h
    · rename_i h1
      obtain ⟨rfl, hl⟩ := turned_some h
      rw [tn12_b, show 98 :: l.drop 1 = l by rw [← List.take_append_drop 1 l, h1]; simp, turned_of hs]
    · cases h
theorem mig_two {k1 k2 : Stp} {s t : Sta} (h : migL [k1, k2] s = some t) : ∃ u, turnX k1 s = some u ∧ turnX k2 u = some t := by
  simp only [migL] at h
  split at h
  · rename_i u hu
    split at h
    · rename_i x hx; cases h; exact ⟨u, hu, hx⟩
    · cases h
  · cases h
theorem mig_one {k : Stp} {s t : Sta} (h : migL [k] s = some t) : turnX k s = some t := by
  simp only [migL] at h
  split at h
  · rename_i x hx; cases h; exact hx
  · cases h
theorem one_mig {k : Stp} {s t : Sta} (h : turnX k s = some t) : migL [k] s = some t := by simp only [migL, h]
theorem two_mig {k1 k2 : Stp} {s u t : Sta} (h1 : turnX k1 s = some u) (h2 : turnX k2 u = some t) : migL [k1, k2] s = some t := by simp only [migL, h1, h2]
theorem steps_all {x y : Int} (hx : 1 ≤ x ∧ x ≤ 3) (hy : 1 ≤ y ∧ y ≤ 3) (hne : x ≠ y) : (stepsL x y = [⟨x, y⟩] ∧ stepsL y x = [⟨y, x⟩] ∧ (⟨x, y⟩ : Stp).Ok) ∨ (∃ m, stepsL x y = [⟨x, m⟩, ⟨m, y⟩] ∧ stepsL y x = [⟨y, m⟩, ⟨m, x⟩] ∧ (⟨x, m⟩ : Stp).Ok ∧ (⟨m, y⟩ : Stp).Ok) := by
  obtain rfl | rfl | rfl : x = 1 ∨ x = 2 ∨ x = 3 := by omega
  all_goals obtain rfl | rfl | rfl : y = 1 ∨ y = 2 ∨ y = 3 := by omega
  all_goals first | exact absurd rfl hne | exact .inl ⟨rfl, rfl, by simp [Stp.Ok]⟩ | exact .inr ⟨2, rfl, rfl, by simp [Stp.Ok], by simp [Stp.Ok]⟩
theorem mig_ver {x y : Int} (hx : 1 ≤ x ∧ x ≤ 3) (hy : 1 ≤ y ∧ y ≤ 3) (hne : x ≠ y) {s t : Sta} (hs : s.data.size ≤ 1000) (hv : s.ver = x) (h : migL (stepsL x y) s = some t) : t.ver = y ∧ t.cnt = s.cnt ∧ t.data.size ≤ 1000 ∧ migL (stepsL y x) t = some s := by
  rcases steps_all hx hy hne with ⟨e1, e2, ho⟩ | ⟨m, e1, e2, ho1, ho2⟩
  · rw [e1] at h
    rw [e2]
    have h1 := mig_one h
    have h2 := turnX_some h1
    exact ⟨h2.2.1, h2.1, h2.2.2, one_mig (turn_back ho hs hv h1)⟩
  · rw [e1] at h
    rw [e2]
    obtain ⟨u, h1, h2⟩ := mig_two h
    have h3 := turnX_some h1
    have h4 := turnX_some h2
    exact ⟨h4.2.1, h4.1.trans h3.1, h4.2.2, two_mig (turn_back ho2 h3.2.2 h3.2.1 h2) (turn_back ho1 hs hv h1)⟩
theorem checkVer_ok {x y : Int} (hx : known x = true) (hy : known y = true) (hne : x ≠ y) : checkVer x y = 0 := by
  rw [checkVer, if_neg (by simp [hx, hy]), if_neg hne]
theorem checkVer_ne {x y : Int} (h : checkVer x y = 0) : x ≠ y := by
  rintro rfl
  unfold checkVer at h
  split at h
  · cases h
  · simp at h
theorem migV_ok {s : Sta} {to : Int} (h : checkVer s.ver to = 0) (hs : s.data.size ≤ 1000) : migV s to = match migL (stepsL s.ver to) s with | some t => (t, 0) | none => (.zero, 132) := by rw [migV, if_neg (by simp [h]), if_neg (by omega)]; rfl
theorem migV_cases (s : Sta) (to : Int) : (∃ e, e ≠ 0 ∧ migV s to = (.zero, e)) ∨ (∃ t, migV s to = (t, 0) ∧ checkVer s.ver to = 0 ∧ s.data.size ≤ 1000 ∧ migL (stepsL s.ver to) s = some t) := by
  by_cases h : checkVer s.ver to = 0
  · by_cases hs : s.data.size ≤ 1000
    · rw [migV_ok h hs]
      cases hm : migL (stepsL s.ver to) s with
      | none => exact .inl ⟨132, by decide, rfl⟩
      | some t => exact .inr ⟨t, rfl, h, hs, rfl⟩
    · exact .inl ⟨132, by decide, by rw [migV, if_neg (by simp [h]), if_pos (by omega)]⟩
  · exact .inl ⟨_, h, by rw [migV, if_pos h]⟩
theorem mig_back {s : Sta} {to : Int} (h : (migV s to).2 = 0) : migV (migV s to).1 s.ver = (s, 0) ∧ known (migV s to).1.ver = true ∧ (migV s to).1.data.size ≤ 1000 ∧ (migV s to).1.ver = to ∧ (migV s to).1.cnt = s.cnt ∧ to ≠ s.ver := by
  rcases migV_cases s to with ⟨e, he, hv⟩ | ⟨t, hv, hk, hs, hm⟩
  · rw [hv] at h; exact absurd h he
  · rw [hv]
    simp only
    have hkn := checkVer_known hk
    have hne := checkVer_ne hk
    obtain ⟨h1, h2, h3, h4⟩ := mig_ver (known_spec.1 hkn.1) (known_spec.1 hkn.2) hne hs rfl hm
    refine ⟨?_, by rw [h1]; exact hkn.2, h3, h1, h2, fun e => hne e.symm⟩
    rw [migV_ok (by rw [h1]; exact checkVer_ok hkn.2 hkn.1 (fun e => hne e.symm)) h3, h1, h4]
theorem mig_bad {s : Sta} {to : Int} (h : (migV s to).2 ≠ 0) : (migV s to).1 = .zero := by
  rcases migV_cases s to with ⟨e, he, hv⟩ | ⟨t, hv, hk, hs, hm⟩
  · rw [hv]
  · rw [hv] at h; exact absurd rfl h
theorem mig_ways {s : Sta} (h1 : s.ver = 1) : ((migV s 2).2 ≠ 0 → (migV s 3).2 = 132) ∧ ((migV s 2).2 = 0 → migV s 3 = migV (migV s 2).1 3) := by
  have k2 : checkVer s.ver 2 = 0 := by rw [h1]; rfl
  have k3 : checkVer s.ver 3 = 0 := by rw [h1]; rfl
  by_cases hs : s.data.size ≤ 1000
  · rw [migV_ok k2 hs, migV_ok k3 hs, h1]
    rw [show stepsL 1 2 = [⟨1, 2⟩] from rfl, show stepsL 1 3 = [⟨1, 2⟩, ⟨2, 3⟩] from rfl]
    simp only [migL]
    cases hu : turnX ⟨1, 2⟩ s with
    | none => simp
    | some u =>
      simp only
      refine ⟨fun h => absurd rfl h, fun _ => ?_⟩
      have h2 := turnX_some hu
      rw [migV_ok (s := u) (by rw [h2.2.1]; rfl) h2.2.2, h2.2.1]
      rw [show stepsL 2 3 = [⟨2, 3⟩] from rfl]
      simp only [migL]
  · have e2 : migV s 2 = (.zero, 132) := by rw [migV, if_neg (by simp [k2]), if_pos (by omega)]
    have e3 : migV s 3 = (.zero, 132) := by rw [migV, if_neg (by simp [k3]), if_pos (by omega)]
    rw [e2, e3]
    exact ⟨fun _ => rfl, fun h => (by cases h)⟩
theorem begin_known (v : Int) : decide ((beginV v).2 = 0) = known v := by
  by_cases hk : known v = true
  · obtain rfl | rfl | rfl : v = 1 ∨ v = 2 ∨ v = 3 := by have := known_spec.1 hk; omega
    · rfl
    · kernel_rfl
    · kernel_rfl
  · have h1 : v ≠ 1 := by rintro rfl; exact hk rfl
    have hf : known v = false := by simpa using hk
    rw [beginV, if_neg h1, migV, if_pos (by simp [checkVer, hf]), hf]
    simp [checkVer, hf]
theorem begin_mig {v w : Int} (hv : (beginV v).2 = 0) (hw : (beginV w).2 = 0) (hne : v ≠ w) : migV (beginV v).1 w = ((beginV w).1, 0) ∧ (beginV v).1.cnt = 0 := by
  have h1 := begin_known v
  have h2 := begin_known w
  rw [decide_eq_true hv] at h1
  rw [decide_eq_true hw] at h2
  have h3 := known_spec.1 h1.symm
  have h4 := known_spec.1 h2.symm
  obtain rfl | rfl | rfl : v = 1 ∨ v = 2 ∨ v = 3 := by omega
  all_goals obtain rfl | rfl | rfl : w = 1 ∨ w = 2 ∨ w = 3 := by omega
  all_goals first | exact absurd rfl hne | exact ⟨by kernel_rfl, by kernel_rfl⟩
theorem mig_full {d : ByteArray} {to : Int} (h : to = 2 ∨ to = 3) : (migV ⟨1, 0, d⟩ to).2 = if d.size + (if to = 3 then 5 else 1) ≤ 1000 then 0 else 132 := by
  obtain ⟨l, rfl⟩ : ∃ l, d = toB l := ⟨_, (toB_self d).symm⟩
  rw [toB_size]
  by_cases hs : l.length ≤ 1000
  · rcases h with rfl | rfl
    · rw [migV_ok rfl (by rw [toB_size]; exact hs), show stepsL (⟨1, 0, toB l⟩ : Sta).ver 2 = [⟨1, 2⟩] from rfl]
      simp only [migL]
      rw [show turnX ⟨1, 2⟩ ⟨1, 0, toB l⟩ = tn12 ⟨1, 0, toB l⟩ from rfl, tn12_b, turned]
      simp only [List.length_cons]
      by_cases h2 : l.length + 1 ≤ 1000 <;> simp [h2]
    · rw [migV_ok rfl (by rw [toB_size]; exact hs), show stepsL (⟨1, 0, toB l⟩ : Sta).ver 3 = [⟨1, 2⟩, ⟨2, 3⟩] from rfl]
      simp only [migL]
      rw [show turnX ⟨1, 2⟩ ⟨1, 0, toB l⟩ = tn12 ⟨1, 0, toB l⟩ from rfl, tn12_b, turned]
      simp only [List.length_cons]
      by_cases h2 : l.length + 1 ≤ 1000
      · rw [if_pos h2]
        simp only
        rw [show turnX ⟨2, 3⟩ ⟨2, 0, toB (98 :: l)⟩ = tn23 ⟨2, 0, toB (98 :: l)⟩ from rfl, tn23_b, turned]
        simp only [List.length_append, List.length_cons, putL_len]
        by_cases h3 : l.length + 5 ≤ 1000
        · rw [if_pos (by omega), if_pos (by simpa using h3)]
        · rw [if_neg (by omega), if_neg (by simpa using h3)]
      · rw [if_neg h2, if_neg (by simp; omega)]
  · have hk : checkVer 1 to = 0 := by rcases h with rfl | rfl <;> rfl
    rw [migV, if_neg (by simp [hk]), if_pos (by rw [toB_size]; omega), if_neg (by split <;> omega)]
end Go.Rost
