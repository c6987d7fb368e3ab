/- The turns by name; the steps gone through. -/
import Derived.Test.YtebdfelodihdhaaDoorTu
import Derived.Test.YtebdfelodihdhaaDoorMo
import Derived.Test.YtebdfelodihdhaaDoorCf
namespace Go.Rost
open Go Go.RowKit Go.Proofs

structure Stp where
  a : Int
  b : Int
  deriving DecidableEq
def Stp.v (i : Stp) : Value := .agg #[.int .i64 i.a, .int .i64 i.b]
instance {i : Stp} : CellsOf i.v [.int .i64 i.a, .int .i64 i.b] := ⟨rfl⟩
instance : Enc Stp := ⟨2, Stp.v, fun i => [.int .i64 i.a, .int .i64 i.b], fun _ => rfl, fun _ => rfl, by decide⟩
instance : EncA Stp := ⟨fun _ => rfl⟩
theorem ex_loadStp {S : World → Prop} {σ : Env} {x : Operand} {b o : Nat} (a : Stp) (hx : σ.val x = some (.pointer (some ⟨b, o, none⟩))) (h : Rd S b o (Enc.enc a)) : Ex Tryd.prog S σ (.load 71 x) a.v := ex_loadA (P := Tryd.prog) (T := 71) a hx h
instance : EqT Tryd.prog 71 Stp.v 2 where
  eq d a b w hd := by
    obtain ⟨d, rfl⟩ : ∃ e, d = e + 2 := ⟨d - 2, by omega⟩
    obtain ⟨a1, a2⟩ := a
    obtain ⟨b1, b2⟩ := b
    refine (struct_eq Tryd.underlying71 (by kernel_rfl) (fields_cons (by decide) (a := .int .i64 a1) (b := .int .i64 b1) ?_ ?_ (eqT_int _ _ _ _ (by omega)) (fields_cons (by decide) (a := .int .i64 a2) (b := .int .i64 b2) ?_ ?_ (eqT_int _ _ _ _ (by omega)) fields_nil))).trans ?_
    iterate 4 simp [part, TPlain.agg]
    congr 1
    rw [Bool.eq_iff_iff]; simp
  le := by decide
theorem chk_stp (e : Bool) (d : Nat) (k : Stp) (w : World) : (Instr.checkKey e (d + 2) 71 k.v).run Tryd.prog w = .ok () w := by
  rw [Instr.checkKey]
  simp only [Stp.v, Sem.run_bind, TUnder.under (P := Tryd.prog) (T := 71), Result.andThen_ok]
  simp [part, TPlain.agg, chk_int]
instance : KeyC Tryd.prog 71 Stp.v where
  eq a b w := EqT.eq (P := Tryd.prog) (T := 71) _ a b w (by decide)
  chk e k w := chk_stp e 9998 k w
  now := ⟨_, TUnder.under, .inr fun a b => rfl⟩
  bits a := bits_agg2 9999 _ _ (bits_int _ _) (bits_int _ _)
def fnV (f : Nat) : Value := .func (.func f) #[] #[]
def turnF (k : Stp) : Option Nat := if k = ⟨1, 2⟩ then some 51 else if k = ⟨2, 3⟩ then some 53 else if k = ⟨3, 2⟩ then some 55 else if k = ⟨2, 1⟩ then some 57 else none
theorem Turns_c (W0 : World) (H : List Chunk) : Call Tryd.prog W0 38 [] H (fun v H' => ∃ r m, v = .map (some r) ∧ (∀ k, look m k = turnF k) ∧ H' = MapC Stp.v fnV r m :: H) := by
  refine call_enter Tryd.func38 rfl Tryd.ntmps38 rfl ?_

  refine ct_seq ?_
  refine ct_region ?_
  (first | refine rs_ex rfl (by (first | (constructor <;> first | rfl | exact RdC.rd | exact inferInstance) | exact Ex.pickF rfl rfl | exact Ex.eqlS rfl rfl | exact Ex.neqS rfl rfl | exact Ex.eqlPN rfl rfl | exact Ex.neqPN rfl rfl | exact Ex.eqlSN rfl rfl | exact Ex.neqSN rfl rfl | exact Ex.lenStr rfl)) rfl ?_ | refine rs_skip rfl rfl ?_)
  refine rs_end ?_
  refine qe_then ?_
  refine ct_meetc (ζ := Nat × List (Stp × Nat)) (fun q => ∀ k, look q.2 k = turnF k) [] (fun q => [(0, .map (some q.1))]) (fun q => MapC Stp.v fnV q.1 q.2 :: H) trivial ?_ ?_
  · refine ct_drawP [] (by kernel_rfl) ?_
    refine ra_take 1 rfl (by kernel_rfl) (by kernel_rfl) rfl (ex_build rfl) rfl (fun _ h => h.fit) ?_
    refine ra_take 3 rfl (by kernel_rfl) (by kernel_rfl) rfl (ex_build rfl) rfl (fun _ h => h.fit) ?_
    refine ra_take 5 rfl (by kernel_rfl) (by kernel_rfl) rfl (ex_build rfl) rfl (fun _ h => h.fit) ?_
    refine ra_take 7 rfl (by kernel_rfl) (by kernel_rfl) rfl (ex_build rfl) rfl (fun _ h => h.fit) ?_
    refine ra_all (rs := [0]) (by kernel_rfl) rfl ?_
    refine each_op rfl rfl rfl (opR_makeMap fun b1 => ?_) each_nil
    refine ⟨.inr (fun w h => h.fit), ?_⟩
    refine ra_heap (fun w h => At.map_new (κ := Stp) (ν := Nat) Stp.v fnV h) ?_
    refine ra_all (rs := [2, 4, 6, 8]) (by kernel_rfl) rfl ?_
    refine each_opN rfl rfl (opR_insert (ek := Stp.v) (ev := fnV) rfl (⟨1, 2⟩ : Stp) 51 rfl rfl ?_) ?_
    · refine ⟨.inr (fun w h => h.fit), ?_⟩
      refine ra_all (rs := [4, 6, 8]) (by kernel_rfl) rfl ?_
      refine each_opN rfl rfl (opR_insert (ek := Stp.v) (ev := fnV) rfl (⟨2, 3⟩ : Stp) 53 rfl rfl ?_) ?_
      · refine ⟨.inr (fun w h => h.fit), ?_⟩
        refine ra_all (rs := [6, 8]) (by kernel_rfl) rfl ?_
        refine each_opN rfl rfl (opR_insert (ek := Stp.v) (ev := fnV) rfl (⟨3, 2⟩ : Stp) 55 rfl rfl ?_) ?_
        · refine ⟨.inr (fun w h => h.fit), ?_⟩
          refine ra_all (rs := [8]) (by kernel_rfl) rfl ?_
          refine each_opN rfl rfl (opR_insert (ek := Stp.v) (ev := fnV) rfl (⟨2, 1⟩ : Stp) 57 rfl rfl ?_) each_nil
          refine ⟨.inr (fun w h => h.fit), ?_⟩
          refine ra_take 9 rfl (by kernel_rfl) (by kernel_rfl) rfl (by (first | (constructor <;> first | rfl | exact RdC.rd | exact inferInstance) | exact Ex.pickF rfl rfl | exact Ex.eqlS rfl rfl | exact Ex.neqS rfl rfl | exact Ex.eqlPN rfl rfl | exact Ex.neqPN rfl rfl | exact Ex.eqlSN rfl rfl | exact Ex.neqSN rfl rfl | exact Ex.lenStr rfl)) rfl (fun _ h => h.fit) ?_
          refine ra_take 10 rfl (by kernel_rfl) (by kernel_rfl) rfl (by (first | (constructor <;> first | rfl | exact RdC.rd | exact inferInstance) | exact Ex.pickF rfl rfl | exact Ex.eqlS rfl rfl | exact Ex.neqS rfl rfl | exact Ex.eqlPN rfl rfl | exact Ex.neqPN rfl rfl | exact Ex.eqlSN rfl rfl | exact Ex.neqSN rfl rfl | exact Ex.lenStr rfl)) rfl (fun _ h => h.fit) ?_
          refine ra_end (by kernel_rfl) ?_
          refine qe_midc ((b1, _)) (by intro k; first | (simp only [look_mset, look_cons, look_nil, turnF]; done) | (simp only [look_mset, look_cons, look_nil, turnF]; (repeat' split) <;> simp_all)) ⟨rfl, trivial⟩ (fun w h => h)
        refine each_opN rfl rfl (opR_insert (ek := Stp.v) (ev := fnV) rfl (⟨2, 1⟩ : Stp) 57 rfl rfl ?_) ?_
        · refine ⟨.inr (fun w h => h.fit), ?_⟩
          refine ra_all (rs := [6]) (by kernel_rfl) rfl ?_
          refine each_opN rfl rfl (opR_insert (ek := Stp.v) (ev := fnV) rfl (⟨3, 2⟩ : Stp) 55 rfl rfl ?_) each_nil
          refine ⟨.inr (fun w h => h.fit), ?_⟩
          refine ra_take 9 rfl (by kernel_rfl) (by kernel_rfl) rfl (by (first | (constructor <;> first | rfl | exact RdC.rd | exact inferInstance) | exact Ex.pickF rfl rfl | exact Ex.eqlS rfl rfl | exact Ex.neqS rfl rfl | exact Ex.eqlPN rfl rfl | exact Ex.neqPN rfl rfl | exact Ex.eqlSN rfl rfl | exact Ex.neqSN rfl rfl | exact Ex.lenStr rfl)) rfl (fun _ h => h.fit) ?_
          refine ra_take 10 rfl (by kernel_rfl) (by kernel_rfl) rfl (by (first | (constructor <;> first | rfl | exact RdC.rd | exact inferInstance) | exact Ex.pickF rfl rfl | exact Ex.eqlS rfl rfl | exact Ex.neqS rfl rfl | exact Ex.eqlPN rfl rfl | exact Ex.neqPN rfl rfl | exact Ex.eqlSN rfl rfl | exact Ex.neqSN rfl rfl | exact Ex.lenStr rfl)) rfl (fun _ h => h.fit) ?_
          refine ra_end (by kernel_rfl) ?_
          refine qe_midc ((b1, _)) (by intro k; first | (simp only [look_mset, look_cons, look_nil, turnF]; done) | (simp only [look_mset, look_cons, look_nil, turnF]; (repeat' split) <;> simp_all)) ⟨rfl, trivial⟩ (fun w h => h)
        exact each_nil
      refine each_opN rfl rfl (opR_insert (ek := Stp.v) (ev := fnV) rfl (⟨3, 2⟩ : Stp) 55 rfl rfl ?_) ?_
      · refine ⟨.inr (fun w h => h.fit), ?_⟩
        refine ra_all (rs := [4, 8]) (by kernel_rfl) rfl ?_
        refine each_opN rfl rfl (opR_insert (ek := Stp.v) (ev := fnV) rfl (⟨2, 3⟩ : Stp) 53 rfl rfl ?_) ?_
        · refine ⟨.inr (fun w h => h.fit), ?_⟩
          refine ra_all (rs := [8]) (by kernel_rfl) rfl ?_
          refine each_opN rfl rfl (opR_insert (ek := Stp.v) (ev := fnV) rfl (⟨2, 1⟩ : Stp) 57 rfl rfl ?_) each_nil
          refine ⟨.inr (fun w h => h.fit), ?_⟩
          refine ra_take 9 rfl (by kernel_rfl) (by kernel_rfl) rfl (by (first | (constructor <;> first | rfl | exact RdC.rd | exact inferInstance) | exact Ex.pickF rfl rfl | exact Ex.eqlS rfl rfl | exact Ex.neqS rfl rfl | exact Ex.eqlPN rfl rfl | exact Ex.neqPN rfl rfl | exact Ex.eqlSN rfl rfl | exact Ex.neqSN rfl rfl | exact Ex.lenStr rfl)) rfl (fun _ h => h.fit) ?_
          refine ra_take 10 rfl (by kernel_rfl) (by kernel_rfl) rfl (by (first | (constructor <;> first | rfl | exact RdC.rd | exact inferInstance) | exact Ex.pickF rfl rfl | exact Ex.eqlS rfl rfl | exact Ex.neqS rfl rfl | exact Ex.eqlPN rfl rfl | exact Ex.neqPN rfl rfl | exact Ex.eqlSN rfl rfl | exact Ex.neqSN rfl rfl | exact Ex.lenStr rfl)) rfl (fun _ h => h.fit) ?_
          refine ra_end (by kernel_rfl) ?_
          refine qe_midc ((b1, _)) (by intro k; first | (simp only [look_mset, look_cons, look_nil, turnF]; done) | (simp only [look_mset, look_cons, look_nil, turnF]; (repeat' split) <;> simp_all)) ⟨rfl, trivial⟩ (fun w h => h)
        refine each_opN rfl rfl (opR_insert (ek := Stp.v) (ev := fnV) rfl (⟨2, 1⟩ : Stp) 57 rfl rfl ?_) ?_
        · refine ⟨.inr (fun w h => h.fit), ?_⟩
          refine ra_all (rs := [4]) (by kernel_rfl) rfl ?_
          refine each_opN rfl rfl (opR_insert (ek := Stp.v) (ev := fnV) rfl (⟨2, 3⟩ : Stp) 53 rfl rfl ?_) each_nil
          refine ⟨.inr (fun w h => h.fit), ?_⟩
          refine ra_take 9 rfl (by kernel_rfl) (by kernel_rfl) rfl (by (first | (constructor <;> first | rfl | exact RdC.rd | exact inferInstance) | exact Ex.pickF rfl rfl | exact Ex.eqlS rfl rfl | exact Ex.neqS rfl rfl | exact Ex.eqlPN rfl rfl | exact Ex.neqPN rfl rfl | exact Ex.eqlSN rfl rfl | exact Ex.neqSN rfl rfl | exact Ex.lenStr rfl)) rfl (fun _ h => h.fit) ?_
          refine ra_take 10 rfl (by kernel_rfl) (by kernel_rfl) rfl (by (first | (constructor <;> first | rfl | exact RdC.rd | exact inferInstance) | exact Ex.pickF rfl rfl | exact Ex.eqlS rfl rfl | exact Ex.neqS rfl rfl | exact Ex.eqlPN rfl rfl | exact Ex.neqPN rfl rfl | exact Ex.eqlSN rfl rfl | exact Ex.neqSN rfl rfl | exact Ex.lenStr rfl)) rfl (fun _ h => h.fit) ?_
          refine ra_end (by kernel_rfl) ?_
          refine qe_midc ((b1, _)) (by intro k; first | (simp only [look_mset, look_cons, look_nil, turnF]; done) | (simp only [look_mset, look_cons, look_nil, turnF]; (repeat' split) <;> simp_all)) ⟨rfl, trivial⟩ (fun w h => h)
        exact each_nil
      refine each_opN rfl rfl (opR_insert (ek := Stp.v) (ev := fnV) rfl (⟨2, 1⟩ : Stp) 57 rfl rfl ?_) ?_
      · refine ⟨.inr (fun w h => h.fit), ?_⟩
        refine ra_all (rs := [4, 6]) (by kernel_rfl) rfl ?_
        refine each_opN rfl rfl (opR_insert (ek := Stp.v) (ev := fnV) rfl (⟨2, 3⟩ : Stp) 53 rfl rfl ?_) ?_
        · refine ⟨.inr (fun w h => h.fit), ?_⟩
          refine ra_all (rs := [6]) (by kernel_rfl) rfl ?_
          refine each_opN rfl rfl (opR_insert (ek := Stp.v) (ev := fnV) rfl (⟨3, 2⟩ : Stp) 55 rfl rfl ?_) each_nil
          refine ⟨.inr (fun w h => h.fit), ?_⟩
          refine ra_take 9 rfl (by kernel_rfl) (by kernel_rfl) rfl (by (first | (constructor <;> first | rfl | exact RdC.rd | exact inferInstance) | exact Ex.pickF rfl rfl | exact Ex.eqlS rfl rfl | exact Ex.neqS rfl rfl | exact Ex.eqlPN rfl rfl | exact Ex.neqPN rfl rfl | exact Ex.eqlSN rfl rfl | exact Ex.neqSN rfl rfl | exact Ex.lenStr rfl)) rfl (fun _ h => h.fit) ?_
          refine ra_take 10 rfl (by kernel_rfl) (by kernel_rfl) rfl (by (first | (constructor <;> first | rfl | exact RdC.rd | exact inferInstance) | exact Ex.pickF rfl rfl | exact Ex.eqlS rfl rfl | exact Ex.neqS rfl rfl | exact Ex.eqlPN rfl rfl | exact Ex.neqPN rfl rfl | exact Ex.eqlSN rfl rfl | exact Ex.neqSN rfl rfl | exact Ex.lenStr rfl)) rfl (fun _ h => h.fit) ?_
          refine ra_end (by kernel_rfl) ?_
          refine qe_midc ((b1, _)) (by intro k; first | (simp only [look_mset, look_cons, look_nil, turnF]; done) | (simp only [look_mset, look_cons, look_nil, turnF]; (repeat' split) <;> simp_all)) ⟨rfl, trivial⟩ (fun w h => h)
        refine each_opN rfl rfl (opR_insert (ek := Stp.v) (ev := fnV) rfl (⟨3, 2⟩ : Stp) 55 rfl rfl ?_) ?_
        · refine ⟨.inr (fun w h => h.fit), ?_⟩
          refine ra_all (rs := [4]) (by kernel_rfl) rfl ?_
          refine each_opN rfl rfl (opR_insert (ek := Stp.v) (ev := fnV) rfl (⟨2, 3⟩ : Stp) 53 rfl rfl ?_) each_nil
          refine ⟨.inr (fun w h => h.fit), ?_⟩
          refine ra_take 9 rfl (by kernel_rfl) (by kernel_rfl) rfl (by (first | (constructor <;> first | rfl | exact RdC.rd | exact inferInstance) | exact Ex.pickF rfl rfl | exact Ex.eqlS rfl rfl | exact Ex.neqS rfl rfl | exact Ex.eqlPN rfl rfl | exact Ex.neqPN rfl rfl | exact Ex.eqlSN rfl rfl | exact Ex.neqSN rfl rfl | exact Ex.lenStr rfl)) rfl (fun _ h => h.fit) ?_
          refine ra_take 10 rfl (by kernel_rfl) (by kernel_rfl) rfl (by (first | (constructor <;> first | rfl | exact RdC.rd | exact inferInstance) | exact Ex.pickF rfl rfl | exact Ex.eqlS rfl rfl | exact Ex.neqS rfl rfl | exact Ex.eqlPN rfl rfl | exact Ex.neqPN rfl rfl | exact Ex.eqlSN rfl rfl | exact Ex.neqSN rfl rfl | exact Ex.lenStr rfl)) rfl (fun _ h => h.fit) ?_
          refine ra_end (by kernel_rfl) ?_
          refine qe_midc ((b1, _)) (by intro k; first | (simp only [look_mset, look_cons, look_nil, turnF]; done) | (simp only [look_mset, look_cons, look_nil, turnF]; (repeat' split) <;> simp_all)) ⟨rfl, trivial⟩ (fun w h => h)
        exact each_nil
      exact each_nil
    refine each_opN rfl rfl (opR_insert (ek := Stp.v) (ev := fnV) rfl (⟨2, 3⟩ : Stp) 53 rfl rfl ?_) ?_
    · refine ⟨.inr (fun w h => h.fit), ?_⟩
      refine ra_all (rs := [2, 6, 8]) (by kernel_rfl) rfl ?_
      refine each_opN rfl rfl (opR_insert (ek := Stp.v) (ev := fnV) rfl (⟨1, 2⟩ : Stp) 51 rfl rfl ?_) ?_
      · refine ⟨.inr (fun w h => h.fit), ?_⟩
        refine ra_all (rs := [6, 8]) (by kernel_rfl) rfl ?_
        refine each_opN rfl rfl (opR_insert (ek := Stp.v) (ev := fnV) rfl (⟨3, 2⟩ : Stp) 55 rfl rfl ?_) ?_
        · refine ⟨.inr (fun w h => h.fit), ?_⟩
          refine ra_all (rs := [8]) (by kernel_rfl) rfl ?_
          refine each_opN rfl rfl (opR_insert (ek := Stp.v) (ev := fnV) rfl (⟨2, 1⟩ : Stp) 57 rfl rfl ?_) each_nil
          refine ⟨.inr (fun w h => h.fit), ?_⟩
          refine ra_take 9 rfl (by kernel_rfl) (by kernel_rfl) rfl (by (first | (constructor <;> first | rfl | exact RdC.rd | exact inferInstance) | exact Ex.pickF rfl rfl | exact Ex.eqlS rfl rfl | exact Ex.neqS rfl rfl | exact Ex.eqlPN rfl rfl | exact Ex.neqPN rfl rfl | exact Ex.eqlSN rfl rfl | exact Ex.neqSN rfl rfl | exact Ex.lenStr rfl)) rfl (fun _ h => h.fit) ?_
          refine ra_take 10 rfl (by kernel_rfl) (by kernel_rfl) rfl (by (first | (constructor <;> first | rfl | exact RdC.rd | exact inferInstance) | exact Ex.pickF rfl rfl | exact Ex.eqlS rfl rfl | exact Ex.neqS rfl rfl | exact Ex.eqlPN rfl rfl | exact Ex.neqPN rfl rfl | exact Ex.eqlSN rfl rfl | exact Ex.neqSN rfl rfl | exact Ex.lenStr rfl)) rfl (fun _ h => h.fit) ?_
          refine ra_end (by kernel_rfl) ?_
          refine qe_midc ((b1, _)) (by intro k; first | (simp only [look_mset, look_cons, look_nil, turnF]; done) | (simp only [look_mset, look_cons, look_nil, turnF]; (repeat' split) <;> simp_all)) ⟨rfl, trivial⟩ (fun w h => h)
        refine each_opN rfl rfl (opR_insert (ek := Stp.v) (ev := fnV) rfl (⟨2, 1⟩ : Stp) 57 rfl rfl ?_) ?_
        · refine ⟨.inr (fun w h => h.fit), ?_⟩
          refine ra_all (rs := [6]) (by kernel_rfl) rfl ?_
          refine each_opN rfl rfl (opR_insert (ek := Stp.v) (ev := fnV) rfl (⟨3, 2⟩ : Stp) 55 rfl rfl ?_) each_nil
          refine ⟨.inr (fun w h => h.fit), ?_⟩
          refine ra_take 9 rfl (by kernel_rfl) (by kernel_rfl) rfl (by (first | (constructor <;> first | rfl | exact RdC.rd | exact inferInstance) | exact Ex.pickF rfl rfl | exact Ex.eqlS rfl rfl | exact Ex.neqS rfl rfl | exact Ex.eqlPN rfl rfl | exact Ex.neqPN rfl rfl | exact Ex.eqlSN rfl rfl | exact Ex.neqSN rfl rfl | exact Ex.lenStr rfl)) rfl (fun _ h => h.fit) ?_
          refine ra_take 10 rfl (by kernel_rfl) (by kernel_rfl) rfl (by (first | (constructor <;> first | rfl | exact RdC.rd | exact inferInstance) | exact Ex.pickF rfl rfl | exact Ex.eqlS rfl rfl | exact Ex.neqS rfl rfl | exact Ex.eqlPN rfl rfl | exact Ex.neqPN rfl rfl | exact Ex.eqlSN rfl rfl | exact Ex.neqSN rfl rfl | exact Ex.lenStr rfl)) rfl (fun _ h => h.fit) ?_
          refine ra_end (by kernel_rfl) ?_
          refine qe_midc ((b1, _)) (by intro k; first | (simp only [look_mset, look_cons, look_nil, turnF]; done) | (simp only [look_mset, look_cons, look_nil, turnF]; (repeat' split) <;> simp_all)) ⟨rfl, trivial⟩ (fun w h => h)
        exact each_nil
      refine each_opN rfl rfl (opR_insert (ek := Stp.v) (ev := fnV) rfl (⟨3, 2⟩ : Stp) 55 rfl rfl ?_) ?_
      · refine ⟨.inr (fun w h => h.fit), ?_⟩
        refine ra_all (rs := [2, 8]) (by kernel_rfl) rfl ?_
        refine each_opN rfl rfl (opR_insert (ek := Stp.v) (ev := fnV) rfl (⟨1, 2⟩ : Stp) 51 rfl rfl ?_) ?_
        · refine ⟨.inr (fun w h => h.fit), ?_⟩
          refine ra_all (rs := [8]) (by kernel_rfl) rfl ?_
          refine each_opN rfl rfl (opR_insert (ek := Stp.v) (ev := fnV) rfl (⟨2, 1⟩ : Stp) 57 rfl rfl ?_) each_nil
          refine ⟨.inr (fun w h => h.fit), ?_⟩
          refine ra_take 9 rfl (by kernel_rfl) (by kernel_rfl) rfl (by (first | (constructor <;> first | rfl | exact RdC.rd | exact inferInstance) | exact Ex.pickF rfl rfl | exact Ex.eqlS rfl rfl | exact Ex.neqS rfl rfl | exact Ex.eqlPN rfl rfl | exact Ex.neqPN rfl rfl | exact Ex.eqlSN rfl rfl | exact Ex.neqSN rfl rfl | exact Ex.lenStr rfl)) rfl (fun _ h => h.fit) ?_
          refine ra_take 10 rfl (by kernel_rfl) (by kernel_rfl) rfl (by (first | (constructor <;> first | rfl | exact RdC.rd | exact inferInstance) | exact Ex.pickF rfl rfl | exact Ex.eqlS rfl rfl | exact Ex.neqS rfl rfl | exact Ex.eqlPN rfl rfl | exact Ex.neqPN rfl rfl | exact Ex.eqlSN rfl rfl | exact Ex.neqSN rfl rfl | exact Ex.lenStr rfl)) rfl (fun _ h => h.fit) ?_
          refine ra_end (by kernel_rfl) ?_
          refine qe_midc ((b1, _)) (by intro k; first | (simp only [look_mset, look_cons, look_nil, turnF]; done) | (simp only [look_mset, look_cons, look_nil, turnF]; (repeat' split) <;> simp_all)) ⟨rfl, trivial⟩ (fun w h => h)
        refine each_opN rfl rfl (opR_insert (ek := Stp.v) (ev := fnV) rfl (⟨2, 1⟩ : Stp) 57 rfl rfl ?_) ?_
        · refine ⟨.inr (fun w h => h.fit), ?_⟩
          refine ra_all (rs := [2]) (by kernel_rfl) rfl ?_
          refine each_opN rfl rfl (opR_insert (ek := Stp.v) (ev := fnV) rfl (⟨1, 2⟩ : Stp) 51 rfl rfl ?_) each_nil
          refine ⟨.inr (fun w h => h.fit), ?_⟩
          refine ra_take 9 rfl (by kernel_rfl) (by kernel_rfl) rfl (by (first | (constructor <;> first | rfl | exact RdC.rd | exact inferInstance) | exact Ex.pickF rfl rfl | exact Ex.eqlS rfl rfl | exact Ex.neqS rfl rfl | exact Ex.eqlPN rfl rfl | exact Ex.neqPN rfl rfl | exact Ex.eqlSN rfl rfl | exact Ex.neqSN rfl rfl | exact Ex.lenStr rfl)) rfl (fun _ h => h.fit) ?_
          refine ra_take 10 rfl (by kernel_rfl) (by kernel_rfl) rfl (by (first | (constructor <;> first | rfl | exact RdC.rd | exact inferInstance) | exact Ex.pickF rfl rfl | exact Ex.eqlS rfl rfl | exact Ex.neqS rfl rfl | exact Ex.eqlPN rfl rfl | exact Ex.neqPN rfl rfl | exact Ex.eqlSN rfl rfl | exact Ex.neqSN rfl rfl | exact Ex.lenStr rfl)) rfl (fun _ h => h.fit) ?_
          refine ra_end (by kernel_rfl) ?_
          refine qe_midc ((b1, _)) (by intro k; first | (simp only [look_mset, look_cons, look_nil, turnF]; done) | (simp only [look_mset, look_cons, look_nil, turnF]; (repeat' split) <;> simp_all)) ⟨rfl, trivial⟩ (fun w h => h)
        exact each_nil
      refine each_opN rfl rfl (opR_insert (ek := Stp.v) (ev := fnV) rfl (⟨2, 1⟩ : Stp) 57 rfl rfl ?_) ?_
      · refine ⟨.inr (fun w h => h.fit), ?_⟩
        refine ra_all (rs := [2, 6]) (by kernel_rfl) rfl ?_
        refine each_opN rfl rfl (opR_insert (ek := Stp.v) (ev := fnV) rfl (⟨1, 2⟩ : Stp) 51 rfl rfl ?_) ?_
        · refine ⟨.inr (fun w h => h.fit), ?_⟩
          refine ra_all (rs := [6]) (by kernel_rfl) rfl ?_
          refine each_opN rfl rfl (opR_insert (ek := Stp.v) (ev := fnV) rfl (⟨3, 2⟩ : Stp) 55 rfl rfl ?_) each_nil
          refine ⟨.inr (fun w h => h.fit), ?_⟩
          refine ra_take 9 rfl (by kernel_rfl) (by kernel_rfl) rfl (by (first | (constructor <;> first | rfl | exact RdC.rd | exact inferInstance) | exact Ex.pickF rfl rfl | exact Ex.eqlS rfl rfl | exact Ex.neqS rfl rfl | exact Ex.eqlPN rfl rfl | exact Ex.neqPN rfl rfl | exact Ex.eqlSN rfl rfl | exact Ex.neqSN rfl rfl | exact Ex.lenStr rfl)) rfl (fun _ h => h.fit) ?_
          refine ra_take 10 rfl (by kernel_rfl) (by kernel_rfl) rfl (by (first | (constructor <;> first | rfl | exact RdC.rd | exact inferInstance) | exact Ex.pickF rfl rfl | exact Ex.eqlS rfl rfl | exact Ex.neqS rfl rfl | exact Ex.eqlPN rfl rfl | exact Ex.neqPN rfl rfl | exact Ex.eqlSN rfl rfl | exact Ex.neqSN rfl rfl | exact Ex.lenStr rfl)) rfl (fun _ h => h.fit) ?_
          refine ra_end (by kernel_rfl) ?_
          refine qe_midc ((b1, _)) (by intro k; first | (simp only [look_mset, look_cons, look_nil, turnF]; done) | (simp only [look_mset, look_cons, look_nil, turnF]; (repeat' split) <;> simp_all)) ⟨rfl, trivial⟩ (fun w h => h)
        refine each_opN rfl rfl (opR_insert (ek := Stp.v) (ev := fnV) rfl (⟨3, 2⟩ : Stp) 55 rfl rfl ?_) ?_
        · refine ⟨.inr (fun w h => h.fit), ?_⟩
          refine ra_all (rs := [2]) (by kernel_rfl) rfl ?_
          refine each_opN rfl rfl (opR_insert (ek := Stp.v) (ev := fnV) rfl (⟨1, 2⟩ : Stp) 51 rfl rfl ?_) each_nil
          refine ⟨.inr (fun w h => h.fit), ?_⟩
          refine ra_take 9 rfl (by kernel_rfl) (by kernel_rfl) rfl (by (first | (constructor <;> first | rfl | exact RdC.rd | exact inferInstance) | exact Ex.pickF rfl rfl | exact Ex.eqlS rfl rfl | exact Ex.neqS rfl rfl | exact Ex.eqlPN rfl rfl | exact Ex.neqPN rfl rfl | exact Ex.eqlSN rfl rfl | exact Ex.neqSN rfl rfl | exact Ex.lenStr rfl)) rfl (fun _ h => h.fit) ?_
          refine ra_take 10 rfl (by kernel_rfl) (by kernel_rfl) rfl (by (first | (constructor <;> first | rfl | exact RdC.rd | exact inferInstance) | exact Ex.pickF rfl rfl | exact Ex.eqlS rfl rfl | exact Ex.neqS rfl rfl | exact Ex.eqlPN rfl rfl | exact Ex.neqPN rfl rfl | exact Ex.eqlSN rfl rfl | exact Ex.neqSN rfl rfl | exact Ex.lenStr rfl)) rfl (fun _ h => h.fit) ?_
          refine ra_end (by kernel_rfl) ?_
          refine qe_midc ((b1, _)) (by intro k; first | (simp only [look_mset, look_cons, look_nil, turnF]; done) | (simp only [look_mset, look_cons, look_nil, turnF]; (repeat' split) <;> simp_all)) ⟨rfl, trivial⟩ (fun w h => h)
        exact each_nil
      exact each_nil
    refine each_opN rfl rfl (opR_insert (ek := Stp.v) (ev := fnV) rfl (⟨3, 2⟩ : Stp) 55 rfl rfl ?_) ?_
    · refine ⟨.inr (fun w h => h.fit), ?_⟩
      refine ra_all (rs := [2, 4, 8]) (by kernel_rfl) rfl ?_
      refine each_opN rfl rfl (opR_insert (ek := Stp.v) (ev := fnV) rfl (⟨1, 2⟩ : Stp) 51 rfl rfl ?_) ?_
      · refine ⟨.inr (fun w h => h.fit), ?_⟩
        refine ra_all (rs := [4, 8]) (by kernel_rfl) rfl ?_
        refine each_opN rfl rfl (opR_insert (ek := Stp.v) (ev := fnV) rfl (⟨2, 3⟩ : Stp) 53 rfl rfl ?_) ?_
        · refine ⟨.inr (fun w h => h.fit), ?_⟩
          refine ra_all (rs := [8]) (by kernel_rfl) rfl ?_
          refine each_opN rfl rfl (opR_insert (ek := Stp.v) (ev := fnV) rfl (⟨2, 1⟩ : Stp) 57 rfl rfl ?_) each_nil
          refine ⟨.inr (fun w h => h.fit), ?_⟩
          refine ra_take 9 rfl (by kernel_rfl) (by kernel_rfl) rfl (by (first | (constructor <;> first | rfl | exact RdC.rd | exact inferInstance) | exact Ex.pickF rfl rfl | exact Ex.eqlS rfl rfl | exact Ex.neqS rfl rfl | exact Ex.eqlPN rfl rfl | exact Ex.neqPN rfl rfl | exact Ex.eqlSN rfl rfl | exact Ex.neqSN rfl rfl | exact Ex.lenStr rfl)) rfl (fun _ h => h.fit) ?_
          refine ra_take 10 rfl (by kernel_rfl) (by kernel_rfl) rfl (by (first | (constructor <;> first | rfl | exact RdC.rd | exact inferInstance) | exact Ex.pickF rfl rfl | exact Ex.eqlS rfl rfl | exact Ex.neqS rfl rfl | exact Ex.eqlPN rfl rfl | exact Ex.neqPN rfl rfl | exact Ex.eqlSN rfl rfl | exact Ex.neqSN rfl rfl | exact Ex.lenStr rfl)) rfl (fun _ h => h.fit) ?_
          refine ra_end (by kernel_rfl) ?_
          refine qe_midc ((b1, _)) (by intro k; first | (simp only [look_mset, look_cons, look_nil, turnF]; done) | (simp only [look_mset, look_cons, look_nil, turnF]; (repeat' split) <;> simp_all)) ⟨rfl, trivial⟩ (fun w h => h)
        refine each_opN rfl rfl (opR_insert (ek := Stp.v) (ev := fnV) rfl (⟨2, 1⟩ : Stp) 57 rfl rfl ?_) ?_
        · refine ⟨.inr (fun w h => h.fit), ?_⟩
          refine ra_all (rs := [4]) (by kernel_rfl) rfl ?_
          refine each_opN rfl rfl (opR_insert (ek := Stp.v) (ev := fnV) rfl (⟨2, 3⟩ : Stp) 53 rfl rfl ?_) each_nil
          refine ⟨.inr (fun w h => h.fit), ?_⟩
          refine ra_take 9 rfl (by kernel_rfl) (by kernel_rfl) rfl (by (first | (constructor <;> first | rfl | exact RdC.rd | exact inferInstance) | exact Ex.pickF rfl rfl | exact Ex.eqlS rfl rfl | exact Ex.neqS rfl rfl | exact Ex.eqlPN rfl rfl | exact Ex.neqPN rfl rfl | exact Ex.eqlSN rfl rfl | exact Ex.neqSN rfl rfl | exact Ex.lenStr rfl)) rfl (fun _ h => h.fit) ?_
          refine ra_take 10 rfl (by kernel_rfl) (by kernel_rfl) rfl (by (first | (constructor <;> first | rfl | exact RdC.rd | exact inferInstance) | exact Ex.pickF rfl rfl | exact Ex.eqlS rfl rfl | exact Ex.neqS rfl rfl | exact Ex.eqlPN rfl rfl | exact Ex.neqPN rfl rfl | exact Ex.eqlSN rfl rfl | exact Ex.neqSN rfl rfl | exact Ex.lenStr rfl)) rfl (fun _ h => h.fit) ?_
          refine ra_end (by kernel_rfl) ?_
          refine qe_midc ((b1, _)) (by intro k; first | (simp only [look_mset, look_cons, look_nil, turnF]; done) | (simp only [look_mset, look_cons, look_nil, turnF]; (repeat' split) <;> simp_all)) ⟨rfl, trivial⟩ (fun w h => h)
        exact each_nil
      refine each_opN rfl rfl (opR_insert (ek := Stp.v) (ev := fnV) rfl (⟨2, 3⟩ : Stp) 53 rfl rfl ?_) ?_
      · refine ⟨.inr (fun w h => h.fit), ?_⟩
        refine ra_all (rs := [2, 8]) (by kernel_rfl) rfl ?_
        refine each_opN rfl rfl (opR_insert (ek := Stp.v) (ev := fnV) rfl (⟨1, 2⟩ : Stp) 51 rfl rfl ?_) ?_
        · refine ⟨.inr (fun w h => h.fit), ?_⟩
          refine ra_all (rs := [8]) (by kernel_rfl) rfl ?_
          refine each_opN rfl rfl (opR_insert (ek := Stp.v) (ev := fnV) rfl (⟨2, 1⟩ : Stp) 57 rfl rfl ?_) each_nil
          refine ⟨.inr (fun w h => h.fit), ?_⟩
          refine ra_take 9 rfl (by kernel_rfl) (by kernel_rfl) rfl (by (first | (constructor <;> first | rfl | exact RdC.rd | exact inferInstance) | exact Ex.pickF rfl rfl | exact Ex.eqlS rfl rfl | exact Ex.neqS rfl rfl | exact Ex.eqlPN rfl rfl | exact Ex.neqPN rfl rfl | exact Ex.eqlSN rfl rfl | exact Ex.neqSN rfl rfl | exact Ex.lenStr rfl)) rfl (fun _ h => h.fit) ?_
          refine ra_take 10 rfl (by kernel_rfl) (by kernel_rfl) rfl (by (first | (constructor <;> first | rfl | exact RdC.rd | exact inferInstance) | exact Ex.pickF rfl rfl | exact Ex.eqlS rfl rfl | exact Ex.neqS rfl rfl | exact Ex.eqlPN rfl rfl | exact Ex.neqPN rfl rfl | exact Ex.eqlSN rfl rfl | exact Ex.neqSN rfl rfl | exact Ex.lenStr rfl)) rfl (fun _ h => h.fit) ?_
          refine ra_end (by kernel_rfl) ?_
          refine qe_midc ((b1, _)) (by intro k; first | (simp only [look_mset, look_cons, look_nil, turnF]; done) | (simp only [look_mset, look_cons, look_nil, turnF]; (repeat' split) <;> simp_all)) ⟨rfl, trivial⟩ (fun w h => h)
        refine each_opN rfl rfl (opR_insert (ek := Stp.v) (ev := fnV) rfl (⟨2, 1⟩ : Stp) 57 rfl rfl ?_) ?_
        · refine ⟨.inr (fun w h => h.fit), ?_⟩
          refine ra_all (rs := [2]) (by kernel_rfl) rfl ?_
          refine each_opN rfl rfl (opR_insert (ek := Stp.v) (ev := fnV) rfl (⟨1, 2⟩ : Stp) 51 rfl rfl ?_) each_nil
          refine ⟨.inr (fun w h => h.fit), ?_⟩
          refine ra_take 9 rfl (by kernel_rfl) (by kernel_rfl) rfl (by (first | (constructor <;> first | rfl | exact RdC.rd | exact inferInstance) | exact Ex.pickF rfl rfl | exact Ex.eqlS rfl rfl | exact Ex.neqS rfl rfl | exact Ex.eqlPN rfl rfl | exact Ex.neqPN rfl rfl | exact Ex.eqlSN rfl rfl | exact Ex.neqSN rfl rfl | exact Ex.lenStr rfl)) rfl (fun _ h => h.fit) ?_
          refine ra_take 10 rfl (by kernel_rfl) (by kernel_rfl) rfl (by (first | (constructor <;> first | rfl | exact RdC.rd | exact inferInstance) | exact Ex.pickF rfl rfl | exact Ex.eqlS rfl rfl | exact Ex.neqS rfl rfl | exact Ex.eqlPN rfl rfl | exact Ex.neqPN rfl rfl | exact Ex.eqlSN rfl rfl | exact Ex.neqSN rfl rfl | exact Ex.lenStr rfl)) rfl (fun _ h => h.fit) ?_
          refine ra_end (by kernel_rfl) ?_
          refine qe_midc ((b1, _)) (by intro k; first | (simp only [look_mset, look_cons, look_nil, turnF]; done) | (simp only [look_mset, look_cons, look_nil, turnF]; (repeat' split) <;> simp_all)) ⟨rfl, trivial⟩ (fun w h => h)
        exact each_nil
      refine each_opN rfl rfl (opR_insert (ek := Stp.v) (ev := fnV) rfl (⟨2, 1⟩ : Stp) 57 rfl rfl ?_) ?_
      · refine ⟨.inr (fun w h => h.fit), ?_⟩
        refine ra_all (rs := [2, 4]) (by kernel_rfl) rfl ?_
        refine each_opN rfl rfl (opR_insert (ek := Stp.v) (ev := fnV) rfl (⟨1, 2⟩ : Stp) 51 rfl rfl ?_) ?_
        · refine ⟨.inr (fun w h => h.fit), ?_⟩
          refine ra_all (rs := [4]) (by kernel_rfl) rfl ?_
          refine each_opN rfl rfl (opR_insert (ek := Stp.v) (ev := fnV) rfl (⟨2, 3⟩ : Stp) 53 rfl rfl ?_) each_nil
          refine ⟨.inr (fun w h => h.fit), ?_⟩
          refine ra_take 9 rfl (by kernel_rfl) (by kernel_rfl) rfl (by (first | (constructor <;> first | rfl | exact RdC.rd | exact inferInstance) | exact Ex.pickF rfl rfl | exact Ex.eqlS rfl rfl | exact Ex.neqS rfl rfl | exact Ex.eqlPN rfl rfl | exact Ex.neqPN rfl rfl | exact Ex.eqlSN rfl rfl | exact Ex.neqSN rfl rfl | exact Ex.lenStr rfl)) rfl (fun _ h => h.fit) ?_
          refine ra_take 10 rfl (by kernel_rfl) (by kernel_rfl) rfl (by (first | (constructor <;> first | rfl | exact RdC.rd | exact inferInstance) | exact Ex.pickF rfl rfl | exact Ex.eqlS rfl rfl | exact Ex.neqS rfl rfl | exact Ex.eqlPN rfl rfl | exact Ex.neqPN rfl rfl | exact Ex.eqlSN rfl rfl | exact Ex.neqSN rfl rfl | exact Ex.lenStr rfl)) rfl (fun _ h => h.fit) ?_
          refine ra_end (by kernel_rfl) ?_
          refine qe_midc ((b1, _)) (by intro k; first | (simp only [look_mset, look_cons, look_nil, turnF]; done) | (simp only [look_mset, look_cons, look_nil, turnF]; (repeat' split) <;> simp_all)) ⟨rfl, trivial⟩ (fun w h => h)
        refine each_opN rfl rfl (opR_insert (ek := Stp.v) (ev := fnV) rfl (⟨2, 3⟩ : Stp) 53 rfl rfl ?_) ?_
        · refine ⟨.inr (fun w h => h.fit), ?_⟩
          refine ra_all (rs := [2]) (by kernel_rfl) rfl ?_
          refine each_opN rfl rfl (opR_insert (ek := Stp.v) (ev := fnV) rfl (⟨1, 2⟩ : Stp) 51 rfl rfl ?_) each_nil
          refine ⟨.inr (fun w h => h.fit), ?_⟩
          refine ra_take 9 rfl (by kernel_rfl) (by kernel_rfl) rfl (by (first | (constructor <;> first | rfl | exact RdC.rd | exact inferInstance) | exact Ex.pickF rfl rfl | exact Ex.eqlS rfl rfl | exact Ex.neqS rfl rfl | exact Ex.eqlPN rfl rfl | exact Ex.neqPN rfl rfl | exact Ex.eqlSN rfl rfl | exact Ex.neqSN rfl rfl | exact Ex.lenStr rfl)) rfl (fun _ h => h.fit) ?_
          refine ra_take 10 rfl (by kernel_rfl) (by kernel_rfl) rfl (by (first | (constructor <;> first | rfl | exact RdC.rd | exact inferInstance) | exact Ex.pickF rfl rfl | exact Ex.eqlS rfl rfl | exact Ex.neqS rfl rfl | exact Ex.eqlPN rfl rfl | exact Ex.neqPN rfl rfl | exact Ex.eqlSN rfl rfl | exact Ex.neqSN rfl rfl | exact Ex.lenStr rfl)) rfl (fun _ h => h.fit) ?_
          refine ra_end (by kernel_rfl) ?_
          refine qe_midc ((b1, _)) (by intro k; first | (simp only [look_mset, look_cons, look_nil, turnF]; done) | (simp only [look_mset, look_cons, look_nil, turnF]; (repeat' split) <;> simp_all)) ⟨rfl, trivial⟩ (fun w h => h)
        exact each_nil
      exact each_nil
    refine each_opN rfl rfl (opR_insert (ek := Stp.v) (ev := fnV) rfl (⟨2, 1⟩ : Stp) 57 rfl rfl ?_) ?_
    · refine ⟨.inr (fun w h => h.fit), ?_⟩
      refine ra_all (rs := [2, 4, 6]) (by kernel_rfl) rfl ?_
      refine each_opN rfl rfl (opR_insert (ek := Stp.v) (ev := fnV) rfl (⟨1, 2⟩ : Stp) 51 rfl rfl ?_) ?_
      · refine ⟨.inr (fun w h => h.fit), ?_⟩
        refine ra_all (rs := [4, 6]) (by kernel_rfl) rfl ?_
        refine each_opN rfl rfl (opR_insert (ek := Stp.v) (ev := fnV) rfl (⟨2, 3⟩ : Stp) 53 rfl rfl ?_) ?_
        · refine ⟨.inr (fun w h => h.fit), ?_⟩
          refine ra_all (rs := [6]) (by kernel_rfl) rfl ?_
          refine each_opN rfl rfl (opR_insert (ek := Stp.v) (ev := fnV) rfl (⟨3, 2⟩ : Stp) 55 rfl rfl ?_) each_nil
          refine ⟨.inr (fun w h => h.fit), ?_⟩
          refine ra_take 9 rfl (by kernel_rfl) (by kernel_rfl) rfl (by (first | (constructor <;> first | rfl | exact RdC.rd | exact inferInstance) | exact Ex.pickF rfl rfl | exact Ex.eqlS rfl rfl | exact Ex.neqS rfl rfl | exact Ex.eqlPN rfl rfl | exact Ex.neqPN rfl rfl | exact Ex.eqlSN rfl rfl | exact Ex.neqSN rfl rfl | exact Ex.lenStr rfl)) rfl (fun _ h => h.fit) ?_
          refine ra_take 10 rfl (by kernel_rfl) (by kernel_rfl) rfl (by (first | (constructor <;> first | rfl | exact RdC.rd | exact inferInstance) | exact Ex.pickF rfl rfl | exact Ex.eqlS rfl rfl | exact Ex.neqS rfl rfl | exact Ex.eqlPN rfl rfl | exact Ex.neqPN rfl rfl | exact Ex.eqlSN rfl rfl | exact Ex.neqSN rfl rfl | exact Ex.lenStr rfl)) rfl (fun _ h => h.fit) ?_
          refine ra_end (by kernel_rfl) ?_
          refine qe_midc ((b1, _)) (by intro k; first | (simp only [look_mset, look_cons, look_nil, turnF]; done) | (simp only [look_mset, look_cons, look_nil, turnF]; (repeat' split) <;> simp_all)) ⟨rfl, trivial⟩ (fun w h => h)
        refine each_opN rfl rfl (opR_insert (ek := Stp.v) (ev := fnV) rfl (⟨3, 2⟩ : Stp) 55 rfl rfl ?_) ?_
        · refine ⟨.inr (fun w h => h.fit), ?_⟩
          refine ra_all (rs := [4]) (by kernel_rfl) rfl ?_
          refine each_opN rfl rfl (opR_insert (ek := Stp.v) (ev := fnV) rfl (⟨2, 3⟩ : Stp) 53 rfl rfl ?_) each_nil
          refine ⟨.inr (fun w h => h.fit), ?_⟩
          refine ra_take 9 rfl (by kernel_rfl) (by kernel_rfl) rfl (by (first | (constructor <;> first | rfl | exact RdC.rd | exact inferInstance) | exact Ex.pickF rfl rfl | exact Ex.eqlS rfl rfl | exact Ex.neqS rfl rfl | exact Ex.eqlPN rfl rfl | exact Ex.neqPN rfl rfl | exact Ex.eqlSN rfl rfl | exact Ex.neqSN rfl rfl | exact Ex.lenStr rfl)) rfl (fun _ h => h.fit) ?_
          refine ra_take 10 rfl (by kernel_rfl) (by kernel_rfl) rfl (by (first | (constructor <;> first | rfl | exact RdC.rd | exact inferInstance) | exact Ex.pickF rfl rfl | exact Ex.eqlS rfl rfl | exact Ex.neqS rfl rfl | exact Ex.eqlPN rfl rfl | exact Ex.neqPN rfl rfl | exact Ex.eqlSN rfl rfl | exact Ex.neqSN rfl rfl | exact Ex.lenStr rfl)) rfl (fun _ h => h.fit) ?_
          refine ra_end (by kernel_rfl) ?_
          refine qe_midc ((b1, _)) (by intro k; first | (simp only [look_mset, look_cons, look_nil, turnF]; done) | (simp only [look_mset, look_cons, look_nil, turnF]; (repeat' split) <;> simp_all)) ⟨rfl, trivial⟩ (fun w h => h)
        exact each_nil
      refine each_opN rfl rfl (opR_insert (ek := Stp.v) (ev := fnV) rfl (⟨2, 3⟩ : Stp) 53 rfl rfl ?_) ?_
      · refine ⟨.inr (fun w h => h.fit), ?_⟩
        refine ra_all (rs := [2, 6]) (by kernel_rfl) rfl ?_
        refine each_opN rfl rfl (opR_insert (ek := Stp.v) (ev := fnV) rfl (⟨1, 2⟩ : Stp) 51 rfl rfl ?_) ?_
        · refine ⟨.inr (fun w h => h.fit), ?_⟩
          refine ra_all (rs := [6]) (by kernel_rfl) rfl ?_
          refine each_opN rfl rfl (opR_insert (ek := Stp.v) (ev := fnV) rfl (⟨3, 2⟩ : Stp) 55 rfl rfl ?_) each_nil
          refine ⟨.inr (fun w h => h.fit), ?_⟩
          refine ra_take 9 rfl (by kernel_rfl) (by kernel_rfl) rfl (by (first | (constructor <;> first | rfl | exact RdC.rd | exact inferInstance) | exact Ex.pickF rfl rfl | exact Ex.eqlS rfl rfl | exact Ex.neqS rfl rfl | exact Ex.eqlPN rfl rfl | exact Ex.neqPN rfl rfl | exact Ex.eqlSN rfl rfl | exact Ex.neqSN rfl rfl | exact Ex.lenStr rfl)) rfl (fun _ h => h.fit) ?_
          refine ra_take 10 rfl (by kernel_rfl) (by kernel_rfl) rfl (by (first | (constructor <;> first | rfl | exact RdC.rd | exact inferInstance) | exact Ex.pickF rfl rfl | exact Ex.eqlS rfl rfl | exact Ex.neqS rfl rfl | exact Ex.eqlPN rfl rfl | exact Ex.neqPN rfl rfl | exact Ex.eqlSN rfl rfl | exact Ex.neqSN rfl rfl | exact Ex.lenStr rfl)) rfl (fun _ h => h.fit) ?_
          refine ra_end (by kernel_rfl) ?_
          refine qe_midc ((b1, _)) (by intro k; first | (simp only [look_mset, look_cons, look_nil, turnF]; done) | (simp only [look_mset, look_cons, look_nil, turnF]; (repeat' split) <;> simp_all)) ⟨rfl, trivial⟩ (fun w h => h)
        refine each_opN rfl rfl (opR_insert (ek := Stp.v) (ev := fnV) rfl (⟨3, 2⟩ : Stp) 55 rfl rfl ?_) ?_
        · refine ⟨.inr (fun w h => h.fit), ?_⟩
          refine ra_all (rs := [2]) (by kernel_rfl) rfl ?_
          refine each_opN rfl rfl (opR_insert (ek := Stp.v) (ev := fnV) rfl (⟨1, 2⟩ : Stp) 51 rfl rfl ?_) each_nil
          refine ⟨.inr (fun w h => h.fit), ?_⟩
          refine ra_take 9 rfl (by kernel_rfl) (by kernel_rfl) rfl (by (first | (constructor <;> first | rfl | exact RdC.rd | exact inferInstance) | exact Ex.pickF rfl rfl | exact Ex.eqlS rfl rfl | exact Ex.neqS rfl rfl | exact Ex.eqlPN rfl rfl | exact Ex.neqPN rfl rfl | exact Ex.eqlSN rfl rfl | exact Ex.neqSN rfl rfl | exact Ex.lenStr rfl)) rfl (fun _ h => h.fit) ?_
          refine ra_take 10 rfl (by kernel_rfl) (by kernel_rfl) rfl (by (first | (constructor <;> first | rfl | exact RdC.rd | exact inferInstance) | exact Ex.pickF rfl rfl | exact Ex.eqlS rfl rfl | exact Ex.neqS rfl rfl | exact Ex.eqlPN rfl rfl | exact Ex.neqPN rfl rfl | exact Ex.eqlSN rfl rfl | exact Ex.neqSN rfl rfl | exact Ex.lenStr rfl)) rfl (fun _ h => h.fit) ?_
          refine ra_end (by kernel_rfl) ?_
          refine qe_midc ((b1, _)) (by intro k; first | (simp only [look_mset, look_cons, look_nil, turnF]; done) | (simp only [look_mset, look_cons, look_nil, turnF]; (repeat' split) <;> simp_all)) ⟨rfl, trivial⟩ (fun w h => h)
        exact each_nil
      refine each_opN rfl rfl (opR_insert (ek := Stp.v) (ev := fnV) rfl (⟨3, 2⟩ : Stp) 55 rfl rfl ?_) ?_
      · refine ⟨.inr (fun w h => h.fit), ?_⟩
        refine ra_all (rs := [2, 4]) (by kernel_rfl) rfl ?_
        refine each_opN rfl rfl (opR_insert (ek := Stp.v) (ev := fnV) rfl (⟨1, 2⟩ : Stp) 51 rfl rfl ?_) ?_
        · refine ⟨.inr (fun w h => h.fit), ?_⟩
          refine ra_all (rs := [4]) (by kernel_rfl) rfl ?_
          refine each_opN rfl rfl (opR_insert (ek := Stp.v) (ev := fnV) rfl (⟨2, 3⟩ : Stp) 53 rfl rfl ?_) each_nil
          refine ⟨.inr (fun w h => h.fit), ?_⟩
          refine ra_take 9 rfl (by kernel_rfl) (by kernel_rfl) rfl (by (first | (constructor <;> first | rfl | exact RdC.rd | exact inferInstance) | exact Ex.pickF rfl rfl | exact Ex.eqlS rfl rfl | exact Ex.neqS rfl rfl | exact Ex.eqlPN rfl rfl | exact Ex.neqPN rfl rfl | exact Ex.eqlSN rfl rfl | exact Ex.neqSN rfl rfl | exact Ex.lenStr rfl)) rfl (fun _ h => h.fit) ?_
          refine ra_take 10 rfl (by kernel_rfl) (by kernel_rfl) rfl (by (first | (constructor <;> first | rfl | exact RdC.rd | exact inferInstance) | exact Ex.pickF rfl rfl | exact Ex.eqlS rfl rfl | exact Ex.neqS rfl rfl | exact Ex.eqlPN rfl rfl | exact Ex.neqPN rfl rfl | exact Ex.eqlSN rfl rfl | exact Ex.neqSN rfl rfl | exact Ex.lenStr rfl)) rfl (fun _ h => h.fit) ?_
          refine ra_end (by kernel_rfl) ?_
          refine qe_midc ((b1, _)) (by intro k; first | (simp only [look_mset, look_cons, look_nil, turnF]; done) | (simp only [look_mset, look_cons, look_nil, turnF]; (repeat' split) <;> simp_all)) ⟨rfl, trivial⟩ (fun w h => h)
        refine each_opN rfl rfl (opR_insert (ek := Stp.v) (ev := fnV) rfl (⟨2, 3⟩ : Stp) 53 rfl rfl ?_) ?_
        · refine ⟨.inr (fun w h => h.fit), ?_⟩
          refine ra_all (rs := [2]) (by kernel_rfl) rfl ?_
          refine each_opN rfl rfl (opR_insert (ek := Stp.v) (ev := fnV) rfl (⟨1, 2⟩ : Stp) 51 rfl rfl ?_) each_nil
          refine ⟨.inr (fun w h => h.fit), ?_⟩
          refine ra_take 9 rfl (by kernel_rfl) (by kernel_rfl) rfl (by (first | (constructor <;> first | rfl | exact RdC.rd | exact inferInstance) | exact Ex.pickF rfl rfl | exact Ex.eqlS rfl rfl | exact Ex.neqS rfl rfl | exact Ex.eqlPN rfl rfl | exact Ex.neqPN rfl rfl | exact Ex.eqlSN rfl rfl | exact Ex.neqSN rfl rfl | exact Ex.lenStr rfl)) rfl (fun _ h => h.fit) ?_
          refine ra_take 10 rfl (by kernel_rfl) (by kernel_rfl) rfl (by (first | (constructor <;> first | rfl | exact RdC.rd | exact inferInstance) | exact Ex.pickF rfl rfl | exact Ex.eqlS rfl rfl | exact Ex.neqS rfl rfl | exact Ex.eqlPN rfl rfl | exact Ex.neqPN rfl rfl | exact Ex.eqlSN rfl rfl | exact Ex.neqSN rfl rfl | exact Ex.lenStr rfl)) rfl (fun _ h => h.fit) ?_
          refine ra_end (by kernel_rfl) ?_
          refine qe_midc ((b1, _)) (by intro k; first | (simp only [look_mset, look_cons, look_nil, turnF]; done) | (simp only [look_mset, look_cons, look_nil, turnF]; (repeat' split) <;> simp_all)) ⟨rfl, trivial⟩ (fun w h => h)
        exact each_nil
      exact each_nil
    exact each_nil
  · rintro ⟨r, m⟩ hm
    refine ct_ret ?_
    exact ret1 rfl rfl ⟨r, m, rfl, hm, rfl⟩
def stepsFrom (v d : Int) : Nat → List Stp
  | 0 => []
  | n + 1 => ⟨v, v + d⟩ :: stepsFrom (v + d) d n
def dirOf (a b : Int) : Int := if b < a then -1 else 1
def stepsL (a b : Int) : List Stp := stepsFrom a (dirOf a b) (b - a).natAbs
theorem Steps_c (W0 : World) (x y : Int) (H : List Chunk) : Call Tryd.prog W0 39 [.int .i64 x, .int .i64 y] H
    (fun u H' => ∃ bt bf, u = .func (.func 59) #[] #[.pointer (some ⟨bt, 0, none⟩), .pointer (some ⟨bf, 0, none⟩)] ∧ H' = Blk bt (.cells #[.int .i64 y] 3 (0, 0)) :: Blk bf (.cells #[.int .i64 x] 3 (0, 0)) :: H) := by
  refine call_enter Tryd.func39 rfl Tryd.ntmps39 rfl ?_

  refine ct_seq ?_
  refine ct_region ?_
  refine rs_op rfl rfl (opR_box rfl fun b2 => ?_)
  refine rs_op rfl rfl (opR_box rfl fun b3 => ?_)
  (first | refine rs_ex rfl (by (first | (constructor <;> first | rfl | exact RdC.rd | exact inferInstance) | exact Ex.pickF rfl rfl | exact Ex.eqlS rfl rfl | exact Ex.neqS rfl rfl | exact Ex.eqlPN rfl rfl | exact Ex.neqPN rfl rfl | exact Ex.eqlSN rfl rfl | exact Ex.neqSN rfl rfl | exact Ex.lenStr rfl)) rfl ?_ | refine rs_skip rfl rfl ?_)
  refine rs_end ?_
  refine qe_then ?_
  refine ct_seq ?_
  refine ct_region ?_
  iterate 2 (first | refine rs_ex rfl (by (first | (constructor <;> first | rfl | exact RdC.rd | exact inferInstance) | exact Ex.pickF rfl rfl | exact Ex.eqlS rfl rfl | exact Ex.neqS rfl rfl | exact Ex.eqlPN rfl rfl | exact Ex.neqPN rfl rfl | exact Ex.eqlSN rfl rfl | exact Ex.neqSN rfl rfl | exact Ex.lenStr rfl)) rfl ?_ | refine rs_skip rfl rfl ?_)
  refine rs_end ?_
  refine qe_then ?_
  refine ct_ret ?_
  exact ret1 rfl rfl ⟨_, _, rfl, rfl⟩
def encS (x : Stp) : List Value := [x.v]
def stepsIt (bt bf : Nat) (x y : Int) : Chunk := Star [Blk bt (.cells #[.int .i64 y] 3 (0, 0)), Blk bf (.cells #[.int .i64 x] 3 (0, 0))]
theorem Steps1_c (W0 : World) {ζ : Type} (y : Value) (gc : ζ → Option Code → Chunk) (step : ζ → Stp → ζ × Option Code) (J : ζ → List Stp → Prop) (z0 : ζ) (bt bf : Nat) (u v : Int) (T : List Chunk)
    (hy : Yields Tryd.prog W0 y encS gc step J) (h0 : J z0 (stepsL u v)) (hu : 0 ≤ u ∧ u ≤ 10) (hv : 0 ≤ v ∧ v ≤ 10) :
    Call Tryd.prog W0 59 [y, .pointer (some ⟨bt, 0, none⟩), .pointer (some ⟨bf, 0, none⟩)] (stepsIt bt bf u v :: gc z0 none :: T)
      (fun _ H' => ∃ xs it', xs = stepsL u v ∧ H' = it' :: gc (runs step z0 xs).1 (runs step z0 xs).2 :: T) := by
  refine Call.heap (H' := Blk bt (.cells #[.int .i64 v] 3 (0, 0)) :: Blk bf (.cells #[.int .i64 u] 3 (0, 0)) :: gc z0 none :: T) (fun w h => At.star.1 h) ?_
  refine call_enter Tryd.func59 rfl Tryd.ntmps59 rfl ?_

  refine ct_seq ?_
  refine ct_region ?_
  (first | refine rs_ex rfl (by (first | (constructor <;> first | rfl | exact RdC.rd | exact inferInstance) | exact Ex.pickF rfl rfl | exact Ex.eqlS rfl rfl | exact Ex.neqS rfl rfl | exact Ex.eqlPN rfl rfl | exact Ex.neqPN rfl rfl | exact Ex.eqlSN rfl rfl | exact Ex.neqSN rfl rfl | exact Ex.lenStr rfl)) rfl ?_ | refine rs_skip rfl rfl ?_)
  refine rs_end ?_
  refine qe_then ?_
  refine ct_meetc (ζ := Int) (fun d => d = dirOf u v) [(0, _), (1, _), (2, _)] (fun d => [(4, .int .i64 d)]) (fun d => Blk bt (.cells #[.int .i64 v] 3 (0, 0)) :: Blk bf (.cells #[.int .i64 u] 3 (0, 0)) :: gc z0 none :: T) ⟨rfl, rfl, rfl, trivial⟩ ?_ ?_
  · refine ct_seq ?_
    refine ct_region ?_
    iterate 3 (first | refine rs_ex rfl (by (first | (constructor <;> first | rfl | exact RdC.rd | exact inferInstance) | exact Ex.pickF rfl rfl | exact Ex.eqlS rfl rfl | exact Ex.neqS rfl rfl | exact Ex.eqlPN rfl rfl | exact Ex.neqPN rfl rfl | exact Ex.eqlSN rfl rfl | exact Ex.neqSN rfl rfl | exact Ex.lenStr rfl)) rfl ?_ | refine rs_skip rfl rfl ?_)
    refine rs_end ?_
    refine qe_then ?_
    refine ct_cond rfl (fun h8 => ?_) (fun h8 => ?_)
    · refine ct_region ?_
      (first | refine rs_ex rfl (by (first | (constructor <;> first | rfl | exact RdC.rd | exact inferInstance) | exact Ex.pickF rfl rfl | exact Ex.eqlS rfl rfl | exact Ex.neqS rfl rfl | exact Ex.eqlPN rfl rfl | exact Ex.neqPN rfl rfl | exact Ex.eqlSN rfl rfl | exact Ex.neqSN rfl rfl | exact Ex.lenStr rfl)) rfl ?_ | refine rs_skip rfl rfl ?_)
      refine rs_end ?_
      refine qe_midc (_) (by unfold dirOf; simp at h8; split <;> omega) ⟨rfl, rfl, rfl, rfl, trivial⟩ (fun w h => by first | exact h.fit | exact h)
    · refine ct_skip ?_
      refine qe_midc (_) (by unfold dirOf; simp at h8; split <;> omega) ⟨rfl, rfl, rfl, rfl, trivial⟩ (fun w h => by first | exact h.fit | exact h)
  · rintro d hd
    refine ct_seq ?_
    refine ct_region ?_
    iterate 2 (first | refine rs_ex rfl (by (first | (constructor <;> first | rfl | exact RdC.rd | exact inferInstance) | exact Ex.pickF rfl rfl | exact Ex.eqlS rfl rfl | exact Ex.neqS rfl rfl | exact Ex.eqlPN rfl rfl | exact Ex.neqPN rfl rfl | exact Ex.eqlSN rfl rfl | exact Ex.neqSN rfl rfl | exact Ex.lenStr rfl)) rfl ?_ | refine rs_skip rfl rfl ?_)
    refine rs_end ?_
    refine qe_then ?_
    refine ct_block ?_
    refine ct_loopc (ζ := Nat × Int × ζ) (fun q => (J q.2.2 (stepsFrom q.2.1 d q.1) ∧ runs step q.2.2 (stepsFrom q.2.1 d q.1) = runs step z0 (stepsL u v)) ∧ ((d = 1 ∧ q.2.1 + q.1 = v) ∨ (d = -1 ∧ q.2.1 - q.1 = v)) ∧ 0 ≤ q.2.1 ∧ q.2.1 ≤ 10) [(0, _), (1, _), (4, _)] (fun q => [(5, .int .i64 q.2.1)]) (fun q => Blk bt (.cells #[.int .i64 v] 3 (0, 0)) :: Blk bf (.cells #[.int .i64 u] 3 (0, 0)) :: gc q.2.2 none :: T) (fun q => q.1) (((v - u).natAbs, u, z0)) (⟨⟨by rw [hd]; exact h0, by rw [hd]; rfl⟩, by rw [hd]; unfold dirOf; simp only; split <;> omega, hu⟩) ⟨rfl, rfl, rfl, rfl, trivial⟩ (fun w h => by first | exact h.fit | exact h) ?_
    rintro ⟨n, x, z⟩ ⟨⟨hz, hruns⟩, hdn, hx⟩
    simp only at hz hruns hdn hx ⊢
    refine ct_seq ?_
    refine ct_seq ?_
    refine ct_region ?_
    iterate 3 (first | refine rs_ex rfl (by (first | (constructor <;> first | rfl | exact RdC.rd | exact inferInstance) | exact Ex.pickF rfl rfl | exact Ex.eqlS rfl rfl | exact Ex.neqS rfl rfl | exact Ex.eqlPN rfl rfl | exact Ex.neqPN rfl rfl | exact Ex.eqlSN rfl rfl | exact Ex.neqSN rfl rfl | exact Ex.lenStr rfl)) rfl ?_ | refine rs_skip rfl rfl ?_)
    refine rs_end ?_
    refine qe_then ?_
    refine ct_cond rfl (fun h12 => ?_) (fun h12 => ?_)
    · obtain ⟨k, rfl⟩ : ∃ k, n = k + 1 := ⟨n - 1, by simp at h12; omega⟩
      rw [stepsFrom] at hz hruns
      refine ct_skip ?_
      refine qe_then ?_
      refine ct_seq ?_
      refine ct_block ?_
      refine ct_seq ?_
      refine ct_region ?_
      iterate 5 (first | refine rs_ex rfl (by (first | (constructor <;> first | rfl | exact RdC.rd | exact inferInstance) | exact Ex.pickF rfl rfl | exact Ex.eqlS rfl rfl | exact Ex.neqS rfl rfl | exact Ex.eqlPN rfl rfl | exact Ex.neqPN rfl rfl | exact Ex.eqlSN rfl rfl | exact Ex.neqSN rfl rfl | exact Ex.lenStr rfl)) rfl ?_ | refine rs_skip rfl rfl ?_)
      refine rs_rw (by rw [wrap64 (by omega) (by omega)]) ?_
      refine rs_ex rfl (ex_build rfl) rfl ?_
      have hcall := hy.call z ⟨x, x + d⟩ _ (Blk bt (.cells #[.int .i64 v] 3 (0, 0)) :: Blk bf (.cells #[.int .i64 u] 3 (0, 0)) :: T) hz
      refine rs_op rfl rfl (opR_callV rfl rfl (CallV.heap (fun w h => At.top [_, _, _] [2, 0, 1] h) (hcall.mono ?_)))
      rintro v' H' ⟨rfl, rfl⟩
      (first | refine rs_ex rfl (by (first | (constructor <;> first | rfl | exact RdC.rd | exact inferInstance) | exact Ex.pickF rfl rfl | exact Ex.eqlS rfl rfl | exact Ex.neqS rfl rfl | exact Ex.eqlPN rfl rfl | exact Ex.neqPN rfl rfl | exact Ex.eqlSN rfl rfl | exact Ex.neqSN rfl rfl | exact Ex.lenStr rfl)) rfl ?_ | refine rs_skip rfl rfl ?_)
      refine rs_end ?_
      refine qe_then ?_
      refine ct_cond rfl (fun h23 => ?_) (fun h23 => ?_)
      · obtain ⟨j, hj⟩ : ∃ j, (step z ⟨x, x + d⟩).2 = some j := by
          cases hj : (step z ⟨x, x + d⟩).2 with
          | none => rw [hj] at h23; cases h23
          | some j => exact ⟨j, rfl⟩
        refine ct_ret ?_
        exact qe_heap (H' := stepsIt bt bf u v :: gc (step z ⟨x, x + d⟩).1 (step z ⟨x, x + d⟩).2 :: T) (fun w h => At.star.2 (At.top [_, _, _] [1, 2, 0] h)) (ret0 rfl ⟨_, stepsIt bt bf u v, rfl, by rw [← hruns, runs, hj]⟩)
      · have hj : (step z ⟨x, x + d⟩).2 = none := by
          cases hj : (step z ⟨x, x + d⟩).2 with
          | none => rfl
          | some j => rw [hj] at h23; cases h23
        rw [hj]
        refine ct_skip ?_
        refine qe_block 1 ?_
        refine qe_then ?_
        refine ct_region ?_
        iterate 3 (first | refine rs_ex rfl (by (first | (constructor <;> first | rfl | exact RdC.rd | exact inferInstance) | exact Ex.pickF rfl rfl | exact Ex.eqlS rfl rfl | exact Ex.neqS rfl rfl | exact Ex.eqlPN rfl rfl | exact Ex.neqPN rfl rfl | exact Ex.eqlSN rfl rfl | exact Ex.neqSN rfl rfl | exact Ex.lenStr rfl)) rfl ?_ | refine rs_skip rfl rfl ?_)
        refine rs_rw (by rw [wrap64 (by omega) (by omega)]) ?_
        (first | refine rs_ex rfl (by (first | (constructor <;> first | rfl | exact RdC.rd | exact inferInstance) | exact Ex.pickF rfl rfl | exact Ex.eqlS rfl rfl | exact Ex.neqS rfl rfl | exact Ex.eqlPN rfl rfl | exact Ex.neqPN rfl rfl | exact Ex.eqlSN rfl rfl | exact Ex.neqSN rfl rfl | exact Ex.lenStr rfl)) rfl ?_ | refine rs_skip rfl rfl ?_)
        refine rs_end ?_
        refine qe_loopc ((k, x + d, (step z ⟨x, x + d⟩).1)) (⟨⟨hy.keeps _ _ _ hz hj, by rw [← hruns, runs, hj]⟩, by simp only; omega, by simp only; omega, by simp only; omega⟩) (by first | omega | (simp only; omega)) ⟨rfl, rfl, rfl, rfl, trivial⟩ (fun w h => At.top [_, _, _] [1, 2, 0] h)
    · have hn : n = 0 := by simp at h12; omega
      subst hn
      rw [stepsFrom] at hruns
      refine ct_exit ?_
      refine qe_then_exit ?_
      refine qe_loop_exit ?_
      refine qe_block_exit ?_
      refine qe_end ?_
      exact qe_heap (H' := stepsIt bt bf u v :: gc z none :: T) (fun w h => At.star.2 h) (ret0 rfl ⟨_, stepsIt bt bf u v, rfl, by rw [← hruns]; rfl⟩)
end Go.Rost
