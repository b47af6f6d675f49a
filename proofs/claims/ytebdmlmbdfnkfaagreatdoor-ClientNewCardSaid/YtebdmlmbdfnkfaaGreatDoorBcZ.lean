/- This text joins parts of the proof: each part says in its own first lines what it states. It has no conditions beyond those. -/
import Derived.Test.YtebdmlmbdfnkfaaGreatDoorBcQ
import Derived.Test.YtebdmlmbdfnkfaaGreatDoorBcK
import Derived.Test.YtebdmlmbdfnkfaaGreatDoorBcI
import Derived.Test.YtebdmlmbdfnkfaaGreatDoorBcJ
set_option linter.unusedVariables false
set_option linter.unusedSimpArgs false
/- This text proves that the law ClientNew (bodegalaw32) returns true for every configuration, every incarnation and both values of the third argument, and leaves its arguments as they were, in every world in which the two listed variables read as they are laid. -/
section
set_option linter.unusedVariables false
set_option linter.unusedSimpArgs false
namespace Go.Proofs.YtebdmlmbdfnkfaaGreatDoor.ClientNewLaw
open Go.ChangeShapes Go.WideShapes Go.ChangeAt Go.WideMaps Go.WideElems Go.RowKit
set_option maxRecDepth 100000 in
/-- a variable that reads as two noughts -/
theorem noughts_of {W : World} {cs : Array Value} {g fuel : Nat} {n : String} {q : List MemPlace} (hg : Tryz.prog.globalNamed n = some g) (hv : W.var? Tryz.prog n = some cs) (hd : DataW.trod (fun _ => ()) Tryz.prog W 0 (fun _ => true) false fuel 506 cs.toList = some (.agg [.lit (.int .i64 0), .lit (.int .i64 0)], q)) : Ev.Noughts W g := by
  obtain ⟨y0, y1, n, hx, hl, h0, h1⟩ := trod_struct2 Tryz.underlying506 hd
  rw [cNone] at hl
  simp only [Prod.mk.injEq, DataW.agg.injEq, List.cons.injEq, and_true] at hx
  obtain ⟨⟨e0, e1⟩, _⟩ := hx
  have w0 := World.var?_cell hg hv 0
  have w1 := World.var?_cell hg hv 1
  simp only [World.var?, hg, Option.bind_some] at hv
  split at hv
  · rename_i cs' e fz hh
    cases hv
    obtain ⟨l⟩ := cs
    match l, hl with
    | [x0, x1], _ =>
      simp only [c3, List.drop_zero, List.drop_succ_cons, List.take_succ_cons, List.take_zero] at h0 h1
      obtain ⟨k0, a0, b0, _⟩ := DataW.trod_int Tryz.underlying3 h0
      obtain ⟨k1, a1, b1, _⟩ := DataW.trod_int Tryz.underlying3 h1
      rw [b0] at e0
      rw [b1] at e1
      simp only [DataW.lit.injEq, Lit.int.injEq, true_and] at e0 e1
      subst e0 e1
      simp only [List.cons.injEq, and_true] at a0 a1
      subst a0 a1
      exact ⟨_, _, _, hh, rfl, rfl⟩
  · cases hv
theorem _root_.Ev.Noughts.below {W W' : World} {g : Nat} (h : Ev.Noughts W g) (hb : Below W.heap.size W W') : Ev.Noughts W' g := by
  obtain ⟨cs, e, fz, h1, h2, h3⟩ := h
  exact ⟨cs, e, fz, (hb.block g (Array.getElem?_eq_some_iff.1 h1).1).trans h1, h2, h3⟩
theorem of_laid {W : World} (h : laidMetH Tryz.prog laid W) : Ev.Noughts W 1 ∧ Ev.Noughts W 2 ∧ Ev.gN ≤ W.heap.size := by
  rw [MakeChecks.laidMetH_plain _ _ _ (by kernel_rfl)] at h
  obtain ⟨ps, ⟨g0, t0, cs0, f0, p0, q0, hg0, ht0, hv0, hd0, ⟨g1, t1, cs1, f1, p1, q1, hg1, ht1, hv1, hd1, _, _⟩, _⟩, _, _⟩ := h
  obtain rfl := Option.some.inj (gHx.symm.trans hg0)
  obtain rfl := Option.some.inj (gBt.symm.trans hg1)
  obtain rfl := Option.some.inj (tHx.symm.trans ht0)
  obtain rfl := Option.some.inj (tBt.symm.trans ht1)
  have n1 := noughts_of hg0 hv0 hd0
  have n2 := noughts_of hg1 hv1 hd1
  refine ⟨n2, n1, ?_⟩
  obtain ⟨_, _, _, a1, _⟩ := n1
  obtain ⟨_, _, _, a2, _⟩ := n2
  have := (Array.getElem?_eq_some_iff.1 a1).1
  have := (Array.getElem?_eq_some_iff.1 a2).1
  show 3 ≤ _
  omega
theorem array6 {α : Type} {cs : Array α} (h : cs.size = 6) : ∃ c0 c1 c2 c3 c4 c5, cs = #[c0, c1, c2, c3, c4, c5] := by
  obtain ⟨l⟩ := cs
  match l, h with
  | [c0, c1, c2, c3, c4, c5], _ => exact ⟨c0, c1, c2, c3, c4, c5, rfl⟩
section
variable {H : Type} {enc : TypeId × Value → H} {W : World} {base : Nat}
set_option maxRecDepth 100000 in
/-- a configuration: six numbers -/
theorem conf_open {v : Value} {d : DataW H} {p : List MemPlace} (hv : Value.okWide Tryz.prog W .any base 28 v) (h : DataW.Trod enc Tryz.prog W 0 (fun _ => true) true 28 v d p) :
    ∃ a b c e f g : Int, v = .agg #[.int .i64 a, .int .i64 b, .int .i64 c, .int .i64 e, .int .i64 f, .int .i64 g] ∧ d = .agg [.lit (.int .i64 a), .lit (.int .i64 b), .lit (.int .i64 c), .lit (.int .i64 e), .lit (.int .i64 f), .lit (.int .i64 g)] ∧ p = [] ∧
      (Lit.int .i64 a).wf = true ∧ (Lit.int .i64 b).wf = true ∧ (Lit.int .i64 c).wf = true ∧ (Lit.int .i64 e).wf = true ∧ (Lit.int .i64 f).wf = true ∧ (Lit.int .i64 g).wf = true := by
  obtain ⟨cs, rfl, hsz⟩ := okWide_struct Tryz.underlying28 hv
  obtain ⟨x0, x1, x2, x3, x4, x5, rfl⟩ := array6 (hsz.trans cConf)
  obtain ⟨fuel, hf⟩ := h
  obtain ⟨xs, n, _, hx, hl, hlen, hi⟩ := DataW.trod_struct Tryz.underlying28 hf
  match xs, hlen with
  | [y0, y1, y2, y3, y4, y5], _ =>
    have h0 : DataW.trod enc Tryz.prog W 0 (fun _ => true) true n 3 (List.take (Tryz.prog.cellsOf 3) (List.drop 0 [x0, x1, x2, x3, x4, x5])) = some y0 := hi 0 _ rfl
    have h1 : DataW.trod enc Tryz.prog W 0 (fun _ => true) true n 3 (List.take (Tryz.prog.cellsOf 3) (List.drop 1 [x0, x1, x2, x3, x4, x5])) = some y1 := hi 1 _ rfl
    have h2 : DataW.trod enc Tryz.prog W 0 (fun _ => true) true n 3 (List.take (Tryz.prog.cellsOf 3) (List.drop 2 [x0, x1, x2, x3, x4, x5])) = some y2 := hi 2 _ rfl
    have h3 : DataW.trod enc Tryz.prog W 0 (fun _ => true) true n 3 (List.take (Tryz.prog.cellsOf 3) (List.drop 3 [x0, x1, x2, x3, x4, x5])) = some y3 := hi 3 _ rfl
    have h4 : DataW.trod enc Tryz.prog W 0 (fun _ => true) true n 3 (List.take (Tryz.prog.cellsOf 3) (List.drop 4 [x0, x1, x2, x3, x4, x5])) = some y4 := hi 4 _ rfl
    have h5 : DataW.trod enc Tryz.prog W 0 (fun _ => true) true n 3 (List.take (Tryz.prog.cellsOf 3) (List.drop 5 [x0, x1, x2, x3, x4, x5])) = some y5 := hi 5 _ rfl
    simp only [c3, List.drop_zero, List.drop_succ_cons, List.take_succ_cons, List.take_zero] at h0 h1 h2 h3 h4 h5
    obtain ⟨k0, a0, b0, w0⟩ := DataW.trod_int Tryz.underlying3 h0
    obtain ⟨k1, a1, b1, w1⟩ := DataW.trod_int Tryz.underlying3 h1
    obtain ⟨k2, a2, b2, w2⟩ := DataW.trod_int Tryz.underlying3 h2
    obtain ⟨k3, a3, b3, w3⟩ := DataW.trod_int Tryz.underlying3 h3
    obtain ⟨k4, a4, b4, w4⟩ := DataW.trod_int Tryz.underlying3 h4
    obtain ⟨k5, a5, b5, w5⟩ := DataW.trod_int Tryz.underlying3 h5
    subst b0 b1 b2 b3 b4 b5
    simp only [List.cons.injEq, and_true] at a0 a1 a2 a3 a4 a5
    subst a0 a1 a2 a3 a4 a5
    simp only [Prod.mk.injEq] at hx
    exact ⟨k0, k1, k2, k3, k4, k5, rfl, by simpa using hx.1, by simpa using hx.2, w0, w1, w2, w3, w4, w5⟩
theorem int_mk {a : Int} (n : Nat) {spare : Nat → Bool} (h : (Lit.int .i64 a).wf = true) : DataW.trod enc Tryz.prog W base spare true (n + 1) 3 [.int .i64 a] = some (.lit (.int .i64 a), []) := by
  simp [DataW.trod, Tryz.underlying3, h]
theorem conf_shut {a b c e f g : Int} {spare : Nat → Bool} (w0 : (Lit.int .i64 a).wf = true) (w1 : (Lit.int .i64 b).wf = true) (w2 : (Lit.int .i64 c).wf = true) (w3 : (Lit.int .i64 e).wf = true) (w4 : (Lit.int .i64 f).wf = true) (w5 : (Lit.int .i64 g).wf = true) :
    DataW.Trod enc Tryz.prog W base spare true 28 (.agg #[.int .i64 a, .int .i64 b, .int .i64 c, .int .i64 e, .int .i64 f, .int .i64 g]) (.agg [.lit (.int .i64 a), .lit (.int .i64 b), .lit (.int .i64 c), .lit (.int .i64 e), .lit (.int .i64 f), .lit (.int .i64 g)]) [] := by
  have := trod_struct_mk (enc := enc) (w := W) (base := base) (spare := spare) (held := true) (n := 1) (cs := [.int .i64 a, .int .i64 b, .int .i64 c, .int .i64 e, .int .i64 f, .int .i64 g]) (xs := [(.lit (.int .i64 a), []), (.lit (.int .i64 b), []), (.lit (.int .i64 c), []), (.lit (.int .i64 e), []), (.lit (.int .i64 f), []), (.lit (.int .i64 g), [])]) Tryz.underlying28 (by rw [cConf]; rfl)
    (by simp [c3, int_mk 0 w0, int_mk 0 w1, int_mk 0 w2, int_mk 0 w3, int_mk 0 w4, int_mk 0 w5])
  exact ⟨2, by simpa [Value.cells] using this⟩
end
set_option maxRecDepth 100000 in
theorem lifted (os : Os) (started : os.Started) (H : Type) (enc : TypeId × Value → H) :
    ReturnsInHanded {} Tryz.checked os 4 .any (fun w args => (Rows.clientNewSpec.pre enc Tryz.prog Tryz.f4 [] false w args ∧ laidMetH Tryz.prog laid w) ∧ sizedMet enc Tryz.prog Tryz.f4 (OpenSpec.ofChange Rows.clientNewSpec) false w args)
      (Rows.clientNewSpec.post enc Tryz.prog Tryz.f4 false true false false) := by
  refine returnsInHanded_of_change_and (C := Tryz.checked) (X := fun w _ => laidMetH Tryz.prog laid w) (fun _ _ _ hh h => h.of_heap hh) own started (by kernel_rfl) Tryz.func4
    (ChangeSpec.witness_shaped (enc := enc) (C := Tryz.checked) (os := os) (X := fun w _ => laidMetH Tryz.prog laid w) false (World.doorLaid Tryz.prog 400 os) #[.agg #[.int .i64 0, .int .i64 0, .int .i64 0, .int .i64 0, .int .i64 0, .int .i64 0], .int .i64 0, .bool false] 8 rfl (World.shaped_of_RefB (by kernel_rfl) (by kernel_rfl)) (by kernel_rfl) (by kernel_rfl) (by kernel_rfl) (door_met os _)) ?_
  intro W base args ds gs before hval0 hW _ _ hL _
  have hval : ∀ (j : Nat) t v, Tryz.f4.params[j]? = some t → args[j]? = some v → Value.okWide Tryz.prog W .any base t v := hval0
  have hW' := hW
  obtain ⟨p, q, hA0, hV, rfl, hfz, hnd⟩ := hW
  have hA : DataW.TrodAll enc Tryz.prog W 0 (fun _ => true) true Tryz.f4.params.toList args.toList ds p := hA0
  rw [Tryz.params4] at hA hval
  obtain ⟨v0, v1, v2, d0, d1, d2, p0, p1, p2, rfl, rfl, rfl, h0, h1, h2⟩ := trodAll_three hA
  obtain ⟨rfl, rfl⟩ := trodVars_none hV
  obtain ⟨a, b, c, e, f, g, rfl, rfl, rfl, w0, w1, w2, w3, w4, w5⟩ := conf_open (hval 0 28 v0 rfl rfl) h0
  obtain ⟨i, rfl, rfl, rfl, wi⟩ := open_int Tryz.underlying3 (hval 1 3 v1 rfl rfl) h1
  obtain ⟨near, rfl, rfl, rfl⟩ := open_bool Tryz.underlying4 (hval 2 4 v2 rfl rfl) h2
  obtain ⟨l1, l2, l3⟩ := of_laid hL
  clear hA0 hval0
  simp only [List.append_nil] at hW'
  have HA : Hid (∀ W', Below W.heap.size W W' → Calls Tryz.prog 8 #[] W' fun e w' => e = .returned (.bool true) ∧ Below W'.heap.size W' w') := fun W' hb =>
    Ev.awake_any W' (Nat.le_trans l3 hb.size) (l1.below hb) (l2.below hb)
  refine (Ec.law_any a b c e f g i near W HA).mono fun ev W' ⟨he, bel⟩ => ?_
  subst he
  exact ⟨_, rfl, _, _, _, [], _, [], hW', trodAll_mk1 (shut_bool Tryz.underlying4 _), trodAll_mk3 (conf_shut w0 w1 w2 w3 w4 w5) (shut_int Tryz.underlying3 wi) (shut_bool Tryz.underlying4 _), rfl, bel.frame _, fun h => by cases h⟩

set_option maxRecDepth 100000 in
theorem holds : Rows.ClientNewSaid :=
  OpenClaim.holds_of_wide 4 Tryz.f4 rfl rfl rfl rfl rfl rfl rfl ⟨rfl, rfl, rfl, rfl, rfl⟩ rfl rfl rfl rfl rfl (by kernel_rfl) Tryz.func4 facts
    (of_decide_eq_true (by kernel_rfl)) (by unfold Func.isWrapper; first | (rw [if_pos (by decide +kernel)]; kernel_rfl) | (rw [if_neg (by decide +kernel)]; exact ⟨rfl, rfl⟩))
    (fun os started H enc _ => lifted os started H enc)
end Go.Proofs.YtebdmlmbdfnkfaaGreatDoor.ClientNewLaw
end
