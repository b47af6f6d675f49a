/- This text joins parts of the proof: each part says in its own first lines what it states. It has no conditions beyond those. -/
import Derived.Test.YtebdmlmbdfnkfaaGreatDoorProg
import Derived.WalkKit
import Derived.Laws.ResultCell
import Derived.Deep.Cut
import Derived.Deep.CutRange
import Derived.Deep.CutBlock
import Derived.Deep.DeepMust
import Derived.Sort.Row
import Derived.Deep.RegionWith
set_option linter.unusedVariables false
set_option linter.unusedSimpArgs false
/- This text walks through the small functions that the law ClientNew calls. -/
section
set_option linter.unusedVariables false
set_option linter.unusedSimpArgs false
namespace Ec
open Go Go.Proofs Go.RowKit
def pickV (x k : Int) : Int := (wrap64 (x.tmod k + k)).tmod k
theorem pickV_range (x k : Int) (hk : 1 ≤ k) (hk2 : k ≤ 1000) : 0 ≤ pickV x k ∧ pickV x k < k := by
  unfold pickV
  have h1 := Int.tmod_lt_of_pos x (show 0 < k by omega)
  have h2 : -k < x.tmod k := by
    have := Int.lt_tmod_of_pos x (show 0 < k by omega)
    omega
  have hw : wrap64 (x.tmod k + k) = x.tmod k + k := by unfold wrap64; omega
  rw [hw]
  exact ⟨Int.tmod_nonneg _ (by omega), Int.tmod_lt_of_pos _ (by omega)⟩
/-- bodegahand.Pick -/
theorem pick_any (x k : Int) (hk : 1 ≤ k) (hk2 : k ≤ 1000) (w : World) : Calls Tryz.prog 9 #[.int .i64 x, .int .i64 k] w fun e w' => e = .returned (.int .i64 (pickV x k)) ∧ w' = w := by
  have h1 : ¬ k < 1 := by omega
  go_enter Tryz.func9, Tryz.ntmps9
  go_wp2
  go_ret
  exact ⟨rfl, rfl⟩
theorem cache_new (d : Int) (h1 : 1 ≤ d) (h2 : d ≤ 256) (w : World) : Calls Tryz.prog 29 #[.int .i64 d] w fun e w' => e = .returned (.tuple #[.agg #[.int .i64 d, .slice none 0 0], .int .i64 0]) ∧ w' = w.alloc (.cells #[.int .i64 d, .slice none 0 0] 77) := by
  have g1 : ¬ d < 1 := by omega
  have g2 : ¬ 256 < d := by omega
  go_enter Tryz.func29, Tryz.ntmps29
  go_wp2
  (try simp only [Exit.inBlock, Exit.then])
  refine bodyPost_ret (v := .tuple #[.agg #[.int .i64 d, .slice none 0 0], .int .i64 0]) ?_ rfl ⟨rfl, ?_⟩
  · rw [results_cell_tmp rfl]; go_simp
  · rfl
/-- the error that client.New answers with -/
def newCode (a b c d e f i : Int) : Int := if a < 0 ∨ 6 ≤ a ∨ b < 1 ∨ 5 < b then 1 else if c < 120 ∨ 256 < c ∨ d < 1 ∨ 256 < d ∨ e < 1 ∨ 100 < e ∨ f < 1 ∨ 1048576 < f then 18 else if i < 1 ∨ 59 < i ∨ i % 2 = 0 then 2 else 0
def NewOk (a b c d e f i : Int) (w : World) (ev : Ending) (w' : World) : Prop :=
  Below w.heap.size w w' ∧ ((newCode a b c d e f i ≠ 0 ∧ ev = .returned (.tuple #[.pointer none, .int .i64 (newCode a b c d e f i)])) ∨
    (newCode a b c d e f i = 0 ∧ ∃ B cs, ev = .returned (.tuple #[.pointer (some ⟨B, 0, none⟩), .int .i64 0]) ∧ w.heap.size ≤ B ∧ w'.heap[B]? = some (.cells cs 113 (0, 0)) ∧ cs.size = 101 ∧ cs[55]? = some (.int .i64 0) ∧ cs[79]? = some (.bool false) ∧ cs[80]? = some (.bool false) ∧ cs[91]? = some (.bool false)))
theorem new_c1 {a b c d e f i : Int} (h : a < 0 ∨ 6 ≤ a ∨ b < 1 ∨ 5 < b) : newCode a b c d e f i = 1 := by unfold newCode; rw [if_pos h]
theorem new_c2 {a b c d e f i : Int} (h0 : ¬ (a < 0 ∨ 6 ≤ a ∨ b < 1 ∨ 5 < b)) (h : c < 120 ∨ 256 < c ∨ d < 1 ∨ 256 < d ∨ e < 1 ∨ 100 < e ∨ f < 1 ∨ 1048576 < f) : newCode a b c d e f i = 18 := by unfold newCode; rw [if_neg h0, if_pos h]
theorem new_c3 {a b c d e f i : Int} (h0 : ¬ (a < 0 ∨ 6 ≤ a ∨ b < 1 ∨ 5 < b)) (h1 : ¬ (c < 120 ∨ 256 < c ∨ d < 1 ∨ 256 < d ∨ e < 1 ∨ 100 < e ∨ f < 1 ∨ 1048576 < f)) (h : i < 1 ∨ 59 < i ∨ i % 2 = 0) : newCode a b c d e f i = 2 := by unfold newCode; rw [if_neg h0, if_neg h1, if_pos h]
theorem new_c4 {a b c d e f i : Int} (h0 : ¬ (a < 0 ∨ 6 ≤ a ∨ b < 1 ∨ 5 < b)) (h1 : ¬ (c < 120 ∨ 256 < c ∨ d < 1 ∨ 256 < d ∨ e < 1 ∨ 100 < e ∨ f < 1 ∨ 1048576 < f)) (h : ¬ (i < 1 ∨ 59 < i ∨ i % 2 = 0)) : newCode a b c d e f i = 0 := by unfold newCode; rw [if_neg h0, if_neg h1, if_neg h]
theorem alloc4_new (w : World) (o1 o2 o3 o : Obj) : ((((w.alloc o1).alloc o2).alloc o3).alloc o).heap[w.heap.size + 1 + 1 + 1]? = some o := by
  show ((((w.heap.push o1).push o2).push o3).push o)[w.heap.size + 1 + 1 + 1]? = some o
  rw [Array.getElem?_push, if_pos (by simp)]
set_option maxHeartbeats 4000000 in
set_option maxRecDepth 100000 in
theorem new_any (a b c d e f inc : Int) (w : World) : Calls Tryz.prog 6 #[.agg #[.int .i64 a, .int .i64 b, .int .i64 c, .int .i64 d, .int .i64 e, .int .i64 f], .int .i64 inc] w (NewOk a b c d e f inc w) := by
  go_enter Tryz.func6, Tryz.ntmps6
  go_wp2_with (go_at_call 29; refine (cache_new _ (by omega) (by omega) _).mono ?_; rintro e w' ⟨rfl, rfl⟩)
  all_goals go_ret2
  all_goals (try simp only [beq_iff_eq, beq_eq_false_iff_ne, ne_eq] at *)
  all_goals (refine ⟨by repeat' (first | exact Below.refl _ _ | refine Below.drew ?_ | refine Below.alloc ?_ (by simp <;> omega) _), ?_⟩)
  all_goals first
    | (have hc := new_c1 (a := a) (b := b) (c := c) (d := d) (e := e) (f := f) (i := inc) (by omega); exact .inl ⟨by rw [hc]; decide, by rw [hc]; rfl⟩)
    | (have hc := new_c2 (a := a) (b := b) (c := c) (d := d) (e := e) (f := f) (i := inc) (by omega) (by omega); exact .inl ⟨by rw [hc]; decide, by rw [hc]; rfl⟩)
    | (have hc := new_c3 (a := a) (b := b) (c := c) (d := d) (e := e) (f := f) (i := inc) (by omega) (by omega) (by omega); exact .inl ⟨by rw [hc]; decide, by rw [hc]; rfl⟩)
    | (have hc := new_c4 (a := a) (b := b) (c := c) (d := d) (e := e) (f := f) (i := inc) (by omega) (by omega) (by omega)
       exact .inr ⟨hc, w.heap.size + 1 + 1 + 1, _, rfl, by omega, alloc4_new _ _ _ _ _, by kernel_rfl, by kernel_rfl, by kernel_rfl, by kernel_rfl, by kernel_rfl⟩)
end Ec
end
/- This text walks through the methods of a client that has just been started. -/
section
set_option linter.unusedVariables false
set_option linter.unusedSimpArgs false
namespace Ec
open Go Go.Proofs Go.RowKit
theorem cell_of {w : World} {B i : Nat} {cs : Array Value} {t : TypeId} {v : Value} (hb : w.heap[B]? = some (.cells cs t (0, 0))) (h : cs[i]? = some v) : w.cell? ⟨B, i, none⟩ = some v := by
  simp [World.cell?, hb, h]
theorem answer_any (B : Nat) (w : World) (hB : B < w.heap.size) (hc : w.cell? ⟨B, 91, none⟩ = some (.bool false)) : Calls Tryz.prog 15 #[.pointer (some ⟨B, 0, none⟩)] w fun e w' =>
    e = .returned (.tuple #[.agg #[.int .i64 0, .int .i64 0, .slice none 0 0, .bool false, .int .i64 0], .bool false]) ∧ w' = w.alloc (.cells #[.int .i64 0, .int .i64 0, .slice none 0 0, .bool false, .int .i64 0] 51) := by
  have hne : B ≠ w.heap.size := by omega
  go_enter Tryz.func15, Tryz.ntmps15
  go_wp2
  (try simp only [Exit.inBlock, Exit.then])
  refine bodyPost_ret (v := .tuple #[.agg #[.int .i64 0, .int .i64 0, .slice none 0 0, .bool false, .int .i64 0], .bool false]) ?_ rfl ⟨rfl, ?_⟩
  · rw [results_cell_tmp rfl]; go_simp
  · rfl
theorem view_any (B : Nat) (w : World) (hB : B < w.heap.size) (hc : w.cell? ⟨B, 55, none⟩ = some (.int .i64 0)) : Calls Tryz.prog 16 #[.pointer (some ⟨B, 0, none⟩)] w fun e w' =>
    e = .returned (.tuple #[.agg #[.int .i64 0, .slice none 0 0], .bool false]) ∧ w' = w.alloc (.cells #[.int .i64 0, .slice none 0 0] 56) := by
  have hne : B ≠ w.heap.size := by omega
  go_enter Tryz.func16, Tryz.ntmps16
  go_wp2
  (try simp only [Exit.inBlock, Exit.then])
  refine bodyPost_ret (v := .tuple #[.agg #[.int .i64 0, .slice none 0 0], .bool false]) ?_ rfl ⟨rfl, ?_⟩
  · rw [results_cell_tmp rfl]; go_simp
  · rfl
theorem wants_any (B : Nat) (w : World) (hB : B < w.heap.size) (hc : w.cell? ⟨B, 79, none⟩ = some (.bool false)) : Calls Tryz.prog 17 #[.pointer (some ⟨B, 0, none⟩)] w fun e w' =>
    e = .returned (.tuple #[.int .i64 0, .bool false]) ∧ w' = w := by
  go_enter Tryz.func17, Tryz.ntmps17
  go_wp2
  go_ret2
  exact ⟨rfl, rfl⟩
theorem idle_any (B : Nat) (w : World) (hB : B < w.heap.size) (hc : w.cell? ⟨B, 80, none⟩ = some (.bool false)) : Calls Tryz.prog 18 #[.pointer (some ⟨B, 0, none⟩)] w fun e w' =>
    e = .returned (.bool false) ∧ w' = w := by
  go_enter Tryz.func18, Tryz.ntmps18
  go_wp2
  go_ret
  exact ⟨rfl, rfl⟩
end Ec
end
/- This text walks through the law ClientNew. -/
section
set_option linter.unusedVariables false
set_option linter.unusedSimpArgs false
namespace Ec
open Go Go.Proofs Go.RowKit
def Conf (w wc : World) : Prop := ∃ a b c d e f : Int, wc.heap[w.heap.size]? = some (.cells #[.int .i64 a, .int .i64 b, .int .i64 c, .int .i64 d, .int .i64 e, .int .i64 f] 28) ∧ Below w.heap.size w wc
theorem below_two {w wc w2 : World} (h : Below w.heap.size w wc) (hs : w.heap.size < wc.heap.size) (h2 : Below wc.heap.size wc w2) : Below w.heap.size w w2 :=
  ⟨h2.os.trans h.os, h2.tape.trans h.tape, h2.output.trans h.output, Nat.le_trans h.size h2.size, fun k hk => (h2.block k (by omega)).trans (h.block k hk)⟩
theorem below_three {w wc w2 w3 : World} (h : Below w.heap.size w wc) (hs : w.heap.size < wc.heap.size) (h2 : Below wc.heap.size wc w2) (h3 : Below w2.heap.size w2 w3) : Below w.heap.size w w3 :=
  below_two (below_two h hs h2) (by have := h2.size; omega) h3
theorem cell_push {w : World} {B i : Nat} {v : Value} (o : Obj) (h : B < w.heap.size ∧ w.cell? ⟨B, i, none⟩ = some v) : B < (w.alloc o).heap.size ∧ (w.alloc o).cell? ⟨B, i, none⟩ = some v :=
  ⟨by show B < (w.heap.push o).size; rw [Array.size_push]; omega, (World.cell?_alloc_old w o ⟨B, i, none⟩ (Nat.ne_of_lt h.1)).trans h.2⟩
theorem old_lt {w2 w3 : World} {B : Nat} {o : Obj} (h : w2.heap[B]? = some o) (hB : Below w2.heap.size w2 w3) : B < w3.heap.size := Nat.lt_of_lt_of_le (Array.getElem?_eq_some_iff.1 h).1 hB.size
theorem old_cell {w2 w3 : World} {B i : Nat} {cs : Array Value} {t : TypeId} {v : Value} (h : w2.heap[B]? = some (.cells cs t (0, 0))) (hB : Below w2.heap.size w2 w3) (hi : cs[i]? = some v) : w3.cell? ⟨B, i, none⟩ = some v :=
  cell_of ((hB.block B (Array.getElem?_eq_some_iff.1 h).1).trans h) hi
theorem conf_alloc {w wx : World} (o : Obj) (h : Conf w wx) : Conf w (wx.alloc o) := by
  obtain ⟨a, b, c, d, e, f, hb, hB⟩ := h
  have hl := (Array.getElem?_eq_some_iff.1 hb).1
  exact ⟨a, b, c, d, e, f, (heap_alloc_old _ _ hl).trans hb, hB.alloc (by omega) _⟩
theorem conf_drew {w wx : World} (h : Conf w wx) : Conf w wx.drew := by
  obtain ⟨a, b, c, d, e, f, hb, hB⟩ := h
  exact ⟨a, b, c, d, e, f, hb, hB.drew⟩
theorem conf_set {w wx : World} {k : Nat} (v : Int) (hk : k < 6) (h : Conf w wx) : Conf w (wx.setCell ⟨w.heap.size, k, none⟩ (.int .i64 v)) := by
  obtain ⟨a, b, c, d, e, f, hb, hB⟩ := h
  have hl := (Array.getElem?_eq_some_iff.1 hb).1
  have key : ∀ cs' : Array Value, #[Value.int .i64 a, .int .i64 b, .int .i64 c, .int .i64 d, .int .i64 e, .int .i64 f].setIfInBounds k (.int .i64 v) = cs' → (wx.setCell ⟨w.heap.size, k, none⟩ (.int .i64 v)).heap[w.heap.size]? = some (.cells cs' 28) := by
    intro cs' h
    rw [Go.Sort.setCell_eq]
    show (wx.heap.modify w.heap.size (Go.Sort.onCells _))[w.heap.size]? = _
    rw [Array.getElem?_modify, if_pos rfl, hb, ← h]
    rfl
  have hB' : Below w.heap.size w (wx.setCell ⟨w.heap.size, k, none⟩ (.int .i64 v)) := by
    refine ⟨hB.os, hB.tape, hB.output, by show _ ≤ (wx.heap.modify _ _).size; rw [Array.size_modify]; exact hB.size, fun j hj => ?_⟩
    show (wx.heap.modify w.heap.size _)[j]? = _
    rw [Array.getElem?_modify, if_neg (by omega)]
    exact hB.block j hj
  match k, hk with
  | 0, _ => exact ⟨v, b, c, d, e, f, key _ rfl, hB'⟩
  | 1, _ => exact ⟨a, v, c, d, e, f, key _ rfl, hB'⟩
  | 2, _ => exact ⟨a, b, v, d, e, f, key _ rfl, hB'⟩
  | 3, _ => exact ⟨a, b, c, v, e, f, key _ rfl, hB'⟩
  | 4, _ => exact ⟨a, b, c, d, v, f, key _ rfl, hB'⟩
  | 5, _ => exact ⟨a, b, c, d, e, v, key _ rfl, hB'⟩
theorem pick_five (x : Int) (w : World) : Calls Tryz.prog 9 #[.int .i64 x, .int .i64 5] w fun e w' => (∃ r : Int, e = .returned (.int .i64 r) ∧ (r = 0 ∨ r = 1 ∨ r = 2 ∨ r = 3 ∨ r = 4)) ∧ w' = w :=
  (pick_any x 5 (by omega) (by omega) w).mono fun e w' ⟨h1, h2⟩ => ⟨⟨_, h1, by have := pickV_range x 5 (by omega) (by omega); omega⟩, h2⟩
set_option maxHeartbeats 8000000 in
set_option maxRecDepth 100000 in
theorem law_any (a b c d e f inc : Int) (near : Bool) (w : World) (HA : Hid (∀ W, Below w.heap.size w W → Calls Tryz.prog 8 #[] W fun e w' => e = .returned (.bool true) ∧ Below W.heap.size W w')) :
    Calls Tryz.prog 4 #[.agg #[.int .i64 a, .int .i64 b, .int .i64 c, .int .i64 d, .int .i64 e, .int .i64 f], .int .i64 inc, .bool near] w fun e w' => e = .returned (.bool true) ∧ Below w.heap.size w w' := by
  go_enter Tryz.func4, Tryz.ntmps4
  go_upto_if 16 with (fail)
  go_cut [1] from 17 to 55 (fun s1 wc => ∃ i : Int, s1 = .int .i64 i ∧ Conf w wc)
  case first =>
    cases near with
    | false =>
      go_wp2
      go_meet
      exact ⟨inc, rfl, a, b, c, d, e, f, heap_alloc_new _ _, (Below.refl _ w).alloc (Nat.le_refl _) _⟩
    | true =>
      go_upto_region 2 with (fail)
      go_cut [] from 17 to 31 (fun wx => Conf w wx)
      case first =>
        go_region_with (go_at_call 9; refine (pick_any _ _ (by omega) (by omega) _).mono ?_; rintro ev wp ⟨rfl, rfl⟩)
        all_goals (go_wp2_with fail; go_meet; repeat' (first | refine conf_drew ?_ | exact ⟨_, _, _, _, _, _, heap_alloc_new _ _, (Below.refl _ w).alloc (Nat.le_refl _) _⟩))
      case rest =>
        obtain ⟨a2, b2, d2, e2, f2, g2, hb, hB⟩ := hcut
        have HC : Hid (Conf w wc) := ⟨a2, b2, d2, e2, f2, g2, hb, hB⟩
        have hc : wc.cell? ⟨w.heap.size, 3, none⟩ = some (.int .i64 e2) := cell_of hb rfl
        have hf : wc.frozen? ⟨w.heap.size, 3, none⟩ = false := by simp [World.frozen?, hb]
        have hsz : w.heap.size < wc.heap.size := (Array.getElem?_eq_some_iff.1 hb).1
        clear hb hB
        go_upto_region 3 with (fail)
        go_cut [] from 32 to 38 (fun wy => Conf w wy)
        case first =>
          go_wp2_with (go_at_call 9; refine (pick_five _ _).mono ?_; rintro ev wp ⟨⟨r, rfl, hr⟩, rfl⟩; rcases hr with rfl | rfl | rfl | rfl | rfl)
          all_goals (go_meet; repeat' (first | exact HC.out | refine conf_alloc _ ?_ | refine conf_set _ (by omega) ?_ | refine conf_drew ?_))
        case rest =>
        obtain ⟨a3, b3, d3, e3, f3, g3, hb, hB⟩ := hcut
        have HC : Hid (Conf w wc) := ⟨a3, b3, d3, e3, f3, g3, hb, hB⟩
        have hc : wc.cell? ⟨w.heap.size, 4, none⟩ = some (.int .i64 f3) := cell_of hb rfl
        have hf : wc.frozen? ⟨w.heap.size, 4, none⟩ = false := by simp [World.frozen?, hb]
        have hsz : w.heap.size < wc.heap.size := (Array.getElem?_eq_some_iff.1 hb).1
        clear hb hB
        go_upto_region 4 with (fail)
        go_cut [] from 39 to 45 (fun wy => Conf w wy)
        case first =>
          go_wp2_with (go_at_call 9; refine (pick_five _ _).mono ?_; rintro ev wp ⟨⟨r, rfl, hr⟩, rfl⟩; rcases hr with rfl | rfl | rfl | rfl | rfl)
          all_goals (go_meet; repeat' (first | exact HC.out | refine conf_alloc _ ?_ | refine conf_set _ (by omega) ?_ | refine conf_drew ?_))
        case rest =>
        obtain ⟨a4, b4, d4, e4, f4, g4, hb, hB⟩ := hcut
        have HC : Hid (Conf w wc) := ⟨a4, b4, d4, e4, f4, g4, hb, hB⟩
        have hc : wc.cell? ⟨w.heap.size, 5, none⟩ = some (.int .i64 g4) := cell_of hb rfl
        have hf : wc.frozen? ⟨w.heap.size, 5, none⟩ = false := by simp [World.frozen?, hb]
        have hsz : w.heap.size < wc.heap.size := (Array.getElem?_eq_some_iff.1 hb).1
        clear hb hB
        go_upto_region 5 with (fail)
        go_cut [] from 46 to 52 (fun wy => Conf w wy)
        case first =>
          go_wp2_with (go_at_call 9; refine (pick_five _ _).mono ?_; rintro ev wp ⟨⟨r, rfl, hr⟩, rfl⟩; rcases hr with rfl | rfl | rfl | rfl | rfl)
          all_goals (go_meet; repeat' (first | exact HC.out | refine conf_alloc _ ?_ | refine conf_set _ (by omega) ?_ | refine conf_drew ?_))
        case rest =>
        obtain ⟨a5, b5, d5, e5, f5, g5, hb, hB⟩ := hcut
        have HC : Hid (Conf w wc) := ⟨a5, b5, d5, e5, f5, g5, hb, hB⟩
        clear hb hB
        go_wp2_with (go_at_call 9; refine (pick_any _ _ (by omega) (by omega) _).mono ?_; rintro ev wp ⟨rfl, rfl⟩)
        go_meet
        exact ⟨_, rfl, HC.out⟩
  case rest =>
    obtain ⟨i, rfl, a', b', c', d', e', f', hb, hB⟩ := hcut
    have c0 : wc.cell? ⟨w.heap.size, 0, none⟩ = some (.int .i64 a') := cell_of hb rfl
    have c1 : wc.cell? ⟨w.heap.size, 1, none⟩ = some (.int .i64 b') := cell_of hb rfl
    have c2 : wc.cell? ⟨w.heap.size, 2, none⟩ = some (.int .i64 c') := cell_of hb rfl
    have c3 : wc.cell? ⟨w.heap.size, 3, none⟩ = some (.int .i64 d') := cell_of hb rfl
    have c4 : wc.cell? ⟨w.heap.size, 4, none⟩ = some (.int .i64 e') := cell_of hb rfl
    have c5 : wc.cell? ⟨w.heap.size, 5, none⟩ = some (.int .i64 f') := cell_of hb rfl
    have hsz : w.heap.size < wc.heap.size := (Array.getElem?_eq_some_iff.1 hb).1
    have HB : Hid (Below w.heap.size w wc) := hB
    clear hb hB
    go_upto_block 0 with (fail)
    go_cut [7] from 56 to 125 (fun s7 wx => s7 = .int .i64 (newCode a' b' c' d' e' f' i) ∧ wx = wc)
    case first =>
      go_wp2
      all_goals (go_meet; refine ⟨?_, rfl⟩)
      all_goals (try simp only [beq_iff_eq, beq_eq_false_iff_ne, ne_eq] at *)
      all_goals first
        | (have hc := new_c1 (a := a') (b := b') (c := c') (d := d') (e := e') (f := f') (i := i) (by omega); rw [hc])
        | (have hc := new_c2 (a := a') (b := b') (c := c') (d := d') (e := e') (f := f') (i := i) (by omega) (by omega); rw [hc])
        | (have hc := new_c3 (a := a') (b := b') (c := c') (d := d') (e := e') (f := f') (i := i) (by omega) (by omega) (by omega); rw [hc])
        | (have hc := new_c4 (a := a') (b := b') (c := c') (d := d') (e := e') (f := f') (i := i) (by omega) (by omega) (by omega); rw [hc])
    case rest =>
      obtain ⟨rfl, rfl⟩ := hcut
      have HN : Hid (Calls Tryz.prog 6 #[.agg #[.int .i64 a', .int .i64 b', .int .i64 c', .int .i64 d', .int .i64 e', .int .i64 f'], .int .i64 i] wc (NewOk a' b' c' d' e' f' i wc)) := new_any a' b' c' d' e' f' i wc
      unfold NewOk at HN
      generalize newCode a' b' c' d' e' f' i = k at HN ⊢
      go_wp2_with first
        | (go_at_call 6; refine HN.out.mono ?_; rintro ev w2 ⟨hB2, ⟨hk, rfl⟩ | ⟨rfl, B, cs, rfl, g1, g2, g3, g4, g5, g6, g7⟩⟩; (have hkb : (k != 0) = true := by simpa using hk))
        | (go_at_call 8; refine (HA.out _ (below_two HB.out hsz hB2)).mono ?_; rintro ev w3 ⟨rfl, hB3⟩)
        | (go_at_call 15; refine (answer_any B _ (old_lt g2 hB3) (old_cell g2 hB3 g7)).mono ?_; rintro ev w4 ⟨rfl, rfl⟩)
        | (go_at_call 16; refine (view_any B _ (by have := old_lt g2 hB3; simp <;> omega) (by have h0 := And.intro (old_lt g2 hB3) (old_cell g2 hB3 g4); first | exact h0.2 | exact (cell_push _ h0).2 | exact (cell_push _ (cell_push _ h0)).2 | exact (cell_push _ (cell_push _ (cell_push _ h0))).2 | exact (cell_push _ (cell_push _ (cell_push _ (cell_push _ h0)))).2)).mono ?_; rintro ev w5 ⟨rfl, rfl⟩)
        | (go_at_call 17; refine (wants_any B _ (by have := old_lt g2 hB3; simp <;> omega) (by have h0 := And.intro (old_lt g2 hB3) (old_cell g2 hB3 g5); first | exact h0.2 | exact (cell_push _ h0).2 | exact (cell_push _ (cell_push _ h0)).2 | exact (cell_push _ (cell_push _ (cell_push _ h0))).2 | exact (cell_push _ (cell_push _ (cell_push _ (cell_push _ h0)))).2)).mono ?_; rintro ev w6 ⟨rfl, rfl⟩)
        | (go_at_call 18; refine (idle_any B _ (by have := old_lt g2 hB3; simp <;> omega) (by have h0 := And.intro (old_lt g2 hB3) (old_cell g2 hB3 g6); first | exact h0.2 | exact (cell_push _ h0).2 | exact (cell_push _ (cell_push _ h0)).2 | exact (cell_push _ (cell_push _ (cell_push _ h0))).2 | exact (cell_push _ (cell_push _ (cell_push _ (cell_push _ h0)))).2)).mono ?_; rintro ev w7 ⟨rfl, rfl⟩)
      · go_ret
        exact ⟨rfl, below_three HB.out hsz hB2 hB3⟩
      · go_ret
        have h3 := below_three HB.out hsz hB2 hB3
        have hs := h3.size
        exact ⟨rfl, by repeat' (first | exact h3 | refine Below.alloc ?_ (by first | omega | (simp <;> omega)) _)⟩
end Ec
end
