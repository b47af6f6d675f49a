/- This text joins parts of the proof: each part says in its own first lines what it states. It has no conditions beyond those. -/
import Derived.Test.YtebdmlmbdfnkfaaGreatDoorBcF
import Derived.Test.YtebdmlmbdfnkfaaGreatDoorBcG
import Derived.Test.YtebdmlmbdfnkfaaGreatDoorBcH
set_option linter.unusedVariables false
set_option linter.unusedSimpArgs false
/- This text puts the run of awake (bodegalaw32) together: it returns true, and leaves what there was as it was. -/
section
set_option maxRecDepth 100000
set_option linter.unusedVariables false
namespace Ev
open Go Go.Proofs
theorem func_dr : Tryz.prog.funcs[31]? = some Tryz.f31 := by kernel_rfl
theorem body_dr : Tryz.f31.body = some cDr := by kernel_rfl
theorem func_be : Tryz.prog.funcs[93]? = some Tryz.f93 := by kernel_rfl
theorem sumsB_ok : ∀ g t, sumsB g = some t → SumOk Tryz.prog g t := CallOk.add sums2_ok (recS_ok call2_ok func_be (by kernel_rfl) (by kernel_rfl) (callChunk_sound call2_ok kB) domB1 domB2)
theorem callB_ok : CallOk Tryz.prog callB := callN_ok tryz_und tryz_mixed sumsB_ok 1000000
theorem loopa : ∃ k, LoopOk Tryz.prog xDr k (mkF fa0) (mkS ha0 (q 39)) .ret (mkF fa7) (mkS ha7 (q 2817)) := by
  obtain ⟨n4, t4⟩ := LoopOk.chunkEnd call2_ok tryz_und tryz_mixed (fun h => Ex.noConfusion h) 3 ka4
  obtain ⟨n0, t0⟩ := LoopOk.chunk call2_ok tryz_und tryz_mixed t4 3 ka0
  exact ⟨n0, t0⟩
theorem dra : CallAt Tryz.prog 31 reca.as_ (mkS reca.hl reca.nx) reca.v (mkS reca.hl' reca.nx') := by
  obtain ⟨k, hk⟩ := loopa
  refine CallAt.of_parts (fl := fa7) func_dr body_dr (by kernel_rfl) (pre_out_chunk call2_ok tryz_und tryz_mixed (e := .ret) (fun h => Ex.noConfusion h) [true, false, true] prea ?_) (.inr rfl) (by kernel_rfl)
  rw [show sub [true, false, true] cDr = .block 0 (.loop xDr) from by kernel_rfl]
  exact block_loop hk
theorem loopb : ∃ k, LoopOk Tryz.prog xDr k (mkF fb0) (mkS hb0 (q 2876)) .ret (mkF fb15) (mkS hb15 (q 15217)) := by
  obtain ⟨n14, t14⟩ := LoopOk.chunkEnd call2_ok tryz_und tryz_mixed (fun h => Ex.noConfusion h) 1 kb14
  obtain ⟨n13, t13⟩ := LoopOk.chunk call2_ok tryz_und tryz_mixed t14 0 kb13
  obtain ⟨n12, t12⟩ := LoopOk.chunk call2_ok tryz_und tryz_mixed t13 0 kb12
  obtain ⟨n11, t11⟩ := LoopOk.chunk call2_ok tryz_und tryz_mixed t12 0 kb11
  obtain ⟨n10, t10⟩ := LoopOk.chunk callB_ok tryz_und tryz_mixed t11 0 kb10
  obtain ⟨n9, t9⟩ := LoopOk.chunk call2_ok tryz_und tryz_mixed t10 0 kb9
  obtain ⟨n8, t8⟩ := LoopOk.chunk call2_ok tryz_und tryz_mixed t9 0 kb8
  obtain ⟨n7, t7⟩ := LoopOk.chunk call2_ok tryz_und tryz_mixed t8 0 kb7
  obtain ⟨n5, t5⟩ := LoopOk.chunk call2_ok tryz_und tryz_mixed t7 1 kb5
  obtain ⟨n3, t3⟩ := LoopOk.chunk call2_ok tryz_und tryz_mixed t5 1 kb3
  obtain ⟨n2, t2⟩ := LoopOk.chunk call2_ok tryz_und tryz_mixed t3 0 kb2
  obtain ⟨n0, t0⟩ := LoopOk.chunk call2_ok tryz_und tryz_mixed t2 1 kb0
  exact ⟨n0, t0⟩
theorem drb : CallAt Tryz.prog 31 recb.as_ (mkS recb.hl recb.nx) recb.v (mkS recb.hl' recb.nx') := by
  obtain ⟨k, hk⟩ := loopb
  refine CallAt.of_parts (fl := fb15) func_dr body_dr (by kernel_rfl) (pre_out_chunk call2_ok tryz_und tryz_mixed (e := .ret) (fun h => Ex.noConfusion h) [true, false, true] preb ?_) (.inr rfl) (by kernel_rfl)
  rw [show sub [true, false, true] cDr = .block 0 (.loop xDr) from by kernel_rfl]
  exact block_loop hk
noncomputable def sums3 : Nat → Option SumF := fun g => ifS (Nat.beq g 31) (sRec2 reca (recS call2 31 recb)) (sums2 g)
noncomputable def call3 : CallH := callN Tryz.prog sums3 1000000
theorem sums3_ok : ∀ g t, sums3 g = some t → SumOk Tryz.prog g t := CallOk.add sums2_ok (sRec_ok func_dr (by kernel_rfl) (by kernel_rfl) fun as_ st v st' h => by
  rcases sRec_at dra doma1 doma2 h with q | q
  · exact q
  · rcases sRec_at drb domb1 domb2 q with q | q
    · exact q
    · exact ⟨call2_ok.mono _ _ _ _ _ q, (call2_ok.fn 31 _ _ _ _ q).2⟩)
theorem call3_ok : CallOk Tryz.prog call3 := callN_ok tryz_und tryz_mixed sums3_ok 1000000
noncomputable def recW : Rec43 := ⟨.nil, hGl, q 4, .bool true, [], q 20000⟩
theorem kW : callChunk call3 8 recW = true := by kernel_rfl
/-- awake returns true -/
theorem awake_at : CallAt Tryz.prog 8 .nil (mkS hGl (q 4)) (.bool true) (mkS [] (q 20000)) := callChunk_sound call3_ok kW
end Ev
end
/- This text says that awake (bodegalaw32) returns true in every world whose two variables read as they are laid, and leaves what there was as it was. -/
section
set_option linter.unusedVariables false
namespace Ev
open Go Go.Proofs Go.RowKit
/-- a variable of two numbers, both nought -/
def Noughts (w : World) (g : Nat) : Prop := ∃ cs e fz, w.heap[g]? = some (.cells cs e fz) ∧ cs[0]? = some (.int .i64 0) ∧ cs[1]? = some (.int .i64 0)
noncomputable def sz (w : World) (g : Nat) : Nat := match w.heap[g]? with | some (.cells cs _ _) => cs.size | _ => 0
noncomputable def phiG (w : World) : Phi := fun b => if b.num < (pos gN).num then some (b.num - 1, 0, sz w (b.num - 1)) else none
theorem noughts_br {φ : Phi} {w : World} {g : Nat} (h : Noughts w g) : BR φ w g 0 (sz w g) (.ro (L [I 0, I 0])) := by
  obtain ⟨cs, e, fz, h1, h2, h3⟩ := h
  refine ⟨cs, e, fz, h1, by simp [sz, h1], fun q => Bool.noConfusion q, fun i v hv => ?_⟩
  have hv : lget i (L [I 0, I 0]) = some v := hv
  match i with
  | 0 =>
    have hv : some (I 0) = some v := hv
    cases hv
    exact ⟨.int .i64 0, by simpa using h2, .int .i64 0 (by decide), rfl⟩
  | 1 =>
    have hv : some (I 0) = some v := hv
    cases hv
    exact ⟨.int .i64 0, by simpa using h3, .int .i64 0 (by decide), rfl⟩
  | i + 2 =>
    rw [show L [I 0, I 0] = .cons (I 0) (.cons (I 0) .nil) from rfl, lget_succ_cons, lget_succ_cons, lget_nil] at hv
    cases hv
/-- the state that the globals make -/
theorem sr_globals {w : World} (hsz : gN ≤ w.heap.size) (h1 : Noughts w 1) (h2 : Noughts w 2) : SR (phiG w) (mkS hGl (q 4)) w := by
  have hmem : ∀ b k, Tr.find b (mkS hGl (q 4)).heap = some k → (b = pos 1 ∨ b = pos 2) ∧ k = .ro (L [I 0, I 0]) := by
    intro b k h
    have := mkH_find hGl b k h
    simp only [hGl, List.mem_cons, Prod.mk.injEq, List.not_mem_nil, or_false] at this
    rcases this with ⟨rfl, rfl⟩ | ⟨rfl, rfl⟩
    · exact ⟨.inl rfl, rfl⟩
    · exact ⟨.inr rfl, rfl⟩
  have hphi : ∀ b B s N, phiG w b = some (B, s, N) → b.num < (pos gN).num ∧ B = b.num - 1 ∧ s = 0 ∧ N = sz w (b.num - 1) := by
    intro b B s N h
    unfold phiG at h
    split at h
    · cases h; exact ⟨by assumption, rfl, rfl, rfl⟩
    · cases h
  refine ⟨fun b k B s N e1 e2 => ?_, fun b b' k k' B s N s' N' e1 e2 => ?_, fun b B s N e => ?_, fun g hg => ?_, fun b k e => ?_⟩
  · obtain ⟨hb, rfl⟩ := hmem b k e1
    obtain ⟨_, rfl, rfl, rfl⟩ := hphi b B s N e2
    rcases hb with rfl | rfl
    · rw [num_pos]; exact noughts_br h1
    · rw [num_pos]; exact noughts_br h2
  · obtain ⟨_, rfl⟩ := hmem b k e1
    cases e2
  · obtain ⟨h, rfl, _⟩ := hphi b B s N e
    rw [num_pos] at h
    have := b.num_pos
    omega
  · refine ⟨sz w g, ?_⟩
    unfold phiG
    rw [if_pos (by rw [num_pos, num_pos]; omega), num_pos]
    rfl
  · obtain ⟨hb, _⟩ := hmem b k e
    rcases hb with rfl | rfl <;> decide
/-- awake -/
theorem awake_any (w : World) (hsz : gN ≤ w.heap.size) (h1 : Noughts w 1) (h2 : Noughts w 2) : Calls Tryz.prog 8 #[] w fun e w' => e = .returned (.bool true) ∧ Below w.heap.size w w' := by
  have sr := sr_globals hsz h1 h2
  refine (awake_at.calls (phiG w) w [] sr .nil1 (fun b l1 l2 => ?_)).mono fun e w' he => ?_
  · unfold phiG
    rw [if_neg]
    have : (q 4).num = (pos gN).num := by decide
    have l1 : (q 4).num ≤ b.num := l1
    omega
  · cases e with
    | panicked _ => exact he.elim
    | outgrown => exact he.elim
    | returned x =>
      obtain ⟨φ', hv, m⟩ := he
      cases hv
      refine ⟨rfl, ⟨m.os, m.tape, m.output, m.size, fun B hB => m.frame B hB fun b k s N e1 e2 => ?_⟩⟩
      have hm := mkH_find hGl b k e1
      simp only [hGl, List.mem_cons, Prod.mk.injEq, List.not_mem_nil, or_false] at hm
      rcases hm with ⟨_, rfl⟩ | ⟨_, rfl⟩ <;> cases e2
end Ev
end
