/- This text joins parts of the proof: each part says in its own first lines what it states. It has no conditions beyond those. -/
import Derived.Test.YtebdmlmbdfnkfaaGreatDoorBcB
import GoSem.ClaimJoined
import Derived.JoinedOf
set_option linter.unusedVariables false
set_option linter.unusedSimpArgs false
/- This text proves that the evaluator's calls stand for the model's. -/
section
namespace Ev
open Go
def NFv (r : Rv) : Prop := ∀ n, r ≠ .fail n
theorem NFv.no {r x : Rv} {n : Nat} {α : Prop} (hr : NFv r) (h : x = r) (e : x = .fail n) : α := absurd (h.symm.trans e) (hr n)

section
variable {P : Program} {call : CallH}

theorem argsK_cases {as_ : AV} : ∀ {n : Nat} {fr : Tr AV} {k : Nat → Tr AV → Rv} {r : Rv}, argsK as_ n fr k = r → NFv r → ∃ fr', k (n + len as_) fr' = r ∧ IsL as_ ∧ ∀ t, Tr.find (pos t) fr' = if n ≤ t ∧ t < n + len as_ then lget (t - n) as_ else Tr.find (pos t) fr := by
  induction as_ with
  | nil => intro n fr k r h _; exact ⟨fr, h, .nil, fun t => by rw [len_nil, if_neg (by omega)]⟩
  | cons a b _ ih =>
    intro n fr k r h hr
    have h : Tr.set (pos n) a fr (fun fr => argsK b (Nat.succ n) fr k) = r := h
    rw [Tr.set_eq] at h
    obtain ⟨fr', h1, h2, h3⟩ := ih h hr
    refine ⟨fr', by rw [len_cons, show n + (len b + 1) = Nat.succ n + len b by omega]; exact h1, .cons _ _ h2, fun t => ?_⟩
    rw [h3 t, len_cons]
    by_cases e : Nat.succ n ≤ t ∧ t < Nat.succ n + len b
    · rw [if_pos e, if_pos (by omega)]
      obtain ⟨i, rfl⟩ : ∃ i, t = n + 1 + i := ⟨t - (n + 1), by omega⟩
      rw [show n + 1 + i - Nat.succ n = i by omega, show n + 1 + i - n = i + 1 by omega]; rfl
    · rw [if_neg e]
      by_cases e2 : t = n
      · subst e2; rw [Tr.find_ins_same, if_pos (by omega), Nat.sub_self]; rfl
      · rw [Tr.find_ins_ne _ _ _ _ (fun q => e2 (pos_inj q)), if_neg (by omega)]
  | _ => intro n fr k r h hr; exact hr.no h rfl

/-- what a result's variable yields, in the model -/
def resSem (tmps : Array Value) : ResultVar → Sem Value
  | .tmp t => pure (tmps.getD t Go.undef)
  | .cell a t => do loadVar t (← asAddr (tmps.getD a Go.undef))
theorem get_undef {φ : Phi} {fr : Tr AV} {tmps : Array Value} (hf : FR φ fr tmps) (t : Nat) : VR φ 0 ((Tr.find (pos t) fr).getD .undef) [tmps.getD t Go.undef] := by
  cases h : Tr.find (pos t) fr with
  | none => exact .undef _
  | some v =>
    obtain ⟨x, h1, h2⟩ := hf t v h
    rw [Array.getD_eq_getD_getElem?, h1]
    exact h2
theorem resultVars_cases {φ : Phi} {st : St} {w : World} {fr : Tr AV} {tmps : Array Value} (sr : SR φ st w) (hf : FR φ fr tmps) : ∀ (rs : List ResultVar) {k : AV → Rv} {r : Rv}, resultVars P fr st rs k = r → NFv r →
    ∃ l vs, k l = r ∧ VR φ 1 l vs ∧ (rs.mapM (resSem tmps)).run P w = .ok vs w
  | [], k, r, h, _ => ⟨.nil, [], h, .nil1, by simp⟩
  | x :: rs, k, r, h, hr => by
    have h : resultVar P fr st x (fun v => resultVars P fr st rs fun l => k (.cons v l)) = r := h
    have key : ∃ v y, resultVars P fr st rs (fun l => k (.cons v l)) = r ∧ VR φ 0 v [y] ∧ (resSem tmps x).run P w = .ok y w := by
      cases x with
      | tmp t =>
        have h : Tr.get (pos t) fr (fun v => resultVars P fr st rs fun l => k (.cons v l)) (resultVars P fr st rs fun l => k (.cons .undef l)) = r := h
        refine ⟨(Tr.find (pos t) fr).getD .undef, _, ?_, get_undef hf t, by simp [resSem]⟩
        rw [Tr.get_eq] at h
        cases e : Tr.find (pos t) fr <;> (rw [e] at h; exact h)
      | cell a t =>
        have h : Tr.get (pos a) fr (fun v => onPtr v (fun b o => loadK P t b o st (fun v => resultVars P fr st rs fun l => k (.cons v l)) (.fail 271)) (.fail 272)) (.fail 273) = r := h
        have hv := get_undef hf a
        rw [Tr.get_eq] at h
        cases e : Tr.find (pos a) fr with
        | none => rw [e] at h; exact hr.no h rfl
        | some v =>
          rw [e] at h hv
          have h : onPtr v (fun b o => loadK P t b o st (fun v => resultVars P fr st rs fun l => k (.cons v l)) (.fail 271)) (.fail 272) = r := h
          have hv : VR φ 0 v [tmps.getD a Go.undef] := hv
          rcases onPtr_cases v (fun b o => loadK P t b o st (fun v => resultVars P fr st rs fun l => k (.cons v l)) (.fail 271)) (.fail 272) with ⟨b, i, rfl, he⟩ | he
          rotate_left
          · exact hr.no h he
          rw [he] at h
          generalize hu : tmps.getD a Go.undef = u at hv
          cases hv with
          | ptr _ _ B s N hb =>
          rcases loadK_sound P sr (t := t) (o := i) (k := fun v => resultVars P fr st rs fun l => k (.cons v l)) (d := .fail 271) hb with ⟨v', y, e1, e2, e3⟩ | e1
          · rw [e1] at h
            exact ⟨v', y, h, e3, by simp [resSem, hu, asAddr, e2]⟩
          · exact hr.no h e1
    obtain ⟨v, y, h1, h2, h3⟩ := key
    obtain ⟨l, vs, g1, g2, g3⟩ := resultVars_cases sr hf rs h1 hr
    exact ⟨.cons v l, y :: vs, g1, .cons1 _ _ _ _ h2 g2, by simp [h3, g3]⟩
theorem run_results {w : World} {fn : Func} {tmps : Array Value} {vs : List Value} (h : (fn.results.toList.mapM (resSem tmps)).run P w = .ok vs w) : (results fn tmps).run P w = .ok (if h : vs.length = 1 then vs[0] else .tuple ⟨vs⟩) w := by
  have e : results fn tmps = (fn.results.mapM (resSem tmps) >>= fun vs => pure (if h : vs.size = 1 then vs[0] else .tuple vs)) := by
    rfl
  rw [e, Array.mapM_eq_mapM_toList]
  simp [h]
theorem shut_cases {φ : Phi} {l : AV} {vs : List Value} (h : VR φ 1 l vs) (k : AV → Rv) : ∃ v, shut l k = k v ∧ VR φ 0 v [if h : vs.length = 1 then vs[0] else .tuple ⟨vs⟩] := by
  cases h with
  | nil1 => exact ⟨_, rfl, .tup _ _ .nil1⟩
  | cons1 a b x xs h1 h2 =>
    cases h2 with
    | nil1 => exact ⟨a, rfl, h1⟩
    | cons1 a' b' x' xs' h3 h4 => exact ⟨.tup (.cons a (.cons a' b')), rfl, by simpa using VR.tup _ _ (.cons1 a _ x _ h1 (.cons1 a' b' x' xs' h3 h4))⟩

/-- a block that nothing speaks of is turned -/
theorem Moved.off {φ φ' : Phi} {st st' : St} {w w' w2 : World} (m : Moved φ st w φ' st' w') {B : Nat} (hB : w.heap.size ≤ B) (hn : ∀ b k s N, Tr.find b st'.heap = some k → k ≠ .dead → φ' b ≠ some (B, s, N))
    (hh : ∀ C, C ≠ B → w2.heap[C]? = w'.heap[C]?) (hs : w2.heap.size = w'.heap.size) (h1 : w2.os = w'.os) (h2 : w2.tape = w'.tape) (h3 : w2.output = w'.output) : Moved φ st w φ' st' w2 := by
  refine ⟨m.ext, m.only, ⟨fun b k C s N e1 e2 => ?_, m.sr.inj, fun b C s N e => by rw [hs]; exact m.sr.rng b C s N e, m.sr.glob, m.sr.dom⟩, m.mono, by rw [hs]; exact m.size, h1.trans m.os, h2.trans m.tape, h3.trans m.output, fun C hC hq => ?_, m.img⟩
  · by_cases hk : k = .dead
    · subst hk; trivial
    · exact (m.sr.blk b k C s N e1 e2).mono (.refl _) (hh C fun q => by subst q; exact hn b k s N e1 hk e2)
  · rw [hh C (by omega)]; exact m.frame C hC hq
theorem run_takeDeferred {w : World} {B : Nat} (h : w.heap[B]? = some (.deferred (some []))) : (Instr.takeDeferred B).run P w = .ok [] { w with heap := w.heap.setIfInBounds B (.deferred none) } := by
  unfold Instr.takeDeferred
  simp [getObj, setObj, Sem.run, h]

theorem leaves {φ φ' : Phi} {st st' : St} {w : World} {fn : Func} {n : Nat} {tmps : Array Value} {R : Ending → World → Prop}
    (hR : ∀ w', Moved φ st w φ' st' w' → ∃ x, (results fn tmps).run P w' = .ok x w' ∧ R (.returned x) w') : ∀ (Bs : List Nat) (w' : World), Moved φ st w φ' st' w' → Bs.Nodup → (∀ B ∈ Bs, w.heap.size ≤ B ∧ w'.heap[B]? = some (.deferred (some [])) ∧ ∀ b k s N, Tr.find b st'.heap = some k → k ≠ .dead → φ' b ≠ some (B, s, N)) →
      LeavesInM Fence.wide n P fn tmps R (Bs.map (fun B => { target := .collected B, args := #[] })) .returning w'
  | [], w', m, _, _ => hR w' m
  | B :: Bs, w', m, hnd, h => by
    obtain ⟨h1, h2, h3⟩ := h B (List.mem_cons_self ..)
    have hnd := List.nodup_cons.1 hnd
    have hne : ∀ C, C ≠ B → (w'.heap.setIfInBounds B (.deferred none))[C]? = w'.heap[C]? := fun C hC => by rw [Array.getElem?_setIfInBounds_ne (Ne.symm hC)]
    have m2 : Moved φ st w φ' st' { w' with heap := w'.heap.setIfInBounds B (.deferred none) } := m.off h1 h3 hne (by simp) rfl rfl rfl
    refine ⟨by simp, .inl ⟨B, _, rfl, run_takeDeferred h2, leaves hR Bs _ m2 hnd.2 fun C hC => ?_⟩⟩
    obtain ⟨g1, g2, g3⟩ := h C (List.mem_cons_of_mem _ hC)
    have : C ≠ B := fun q => by subst q; exact hnd.1 hC
    exact ⟨g1, by rw [hne C this]; exact g2, g3⟩

/-- a call of a function, through its body -/
theorem body_ok (hc : CallOk P call) (hP : P.underlying 4294967295 = none) (hm : P.follows .mixedOrders = true) {f : FuncId} {fnc : Func} (hf : P.funcs[f]? = some fnc) {as_ : AV} {st st' : St} {v : AV} (h : callBody P call as_ st fnc = .ok v st') :
    st.next.num ≤ st'.next.num ∧ fnc.body.isNone = false ∧ (fnc.name == "runtime.NumGoroutine") = false ∧ ∀ φ w args, SR φ st w → VR φ 1 as_ args → Fresh φ st.next st'.next → Calls P f ⟨args⟩ w (EndR φ st w v st') := by
  have hnf : NFv (.ok v st') := fun n q => by cases q
  obtain ⟨c, hb, hok, h⟩ : ∃ c, fnc.body = some c ∧ fnOk fnc c = true ∧ argsK as_ 0 .e (fun n fr => ifB (Nat.ble n fnc.ntmps) (resRv (codeF c P call fr st) fun fr st => resultVars P fr st fnc.results.toList fun l => shut l fun v => .ok v st) (.fail 276)) = .ok v st' := by
    cases fnc with
    | mk name origin targs params rt nfree ntmps results body nr ours file el ln met tn =>
    cases body with
    | none => exact hnf.no h rfl
    | some c =>
      have h : ifB (fnOk ⟨name, origin, targs, params, rt, nfree, ntmps, results, some c, nr, ours, file, el, ln, met, tn⟩ c) (argsK as_ 0 .e fun n fr => ifB (Nat.ble n ntmps) (resRv (codeF c P call fr st) fun fr st => resultVars P fr st results.toList fun l => shut l fun v => .ok v st) (.fail 276)) (.fail 277) = .ok v st' := h
      rcases ifB_cases (fnOk ⟨name, origin, targs, params, rt, nfree, ntmps, results, some c, nr, ours, file, el, ln, met, tn⟩ c) (argsK as_ 0 .e fun n fr => ifB (Nat.ble n ntmps) (resRv (codeF c P call fr st) fun fr st => resultVars P fr st results.toList fun l => shut l fun v => .ok v st) (.fail 276)) (.fail 277) with ⟨hk, he⟩ | ⟨_, he⟩
      · rw [he] at h; exact ⟨c, rfl, hk, h⟩
      · exact hnf.no h he
  obtain ⟨fr0, h, hL, hfind⟩ := argsK_cases h hnf
  rw [Nat.zero_add] at h hfind
  rcases ifB_cases (Nat.ble (len as_) fnc.ntmps) (resRv (codeF c P call fr0 st) fun fr st => resultVars P fr st fnc.results.toList fun l => shut l fun v => .ok v st) (.fail 276) with ⟨hle, he⟩ | ⟨_, he⟩
  rotate_left
  · exact hnf.no h he
  rw [he] at h
  have hle : len as_ ≤ fnc.ntmps := Nat.le_of_ble_eq_true hle
  unfold fnOk at hok
  simp only [Bool.and_eq_true] at hok
  obtain ⟨⟨hdst, _⟩, hname⟩ := hok
  have hname : (fnc.name == "runtime.NumGoroutine") = false := by simpa using hname
  cases hcode : codeF c P call fr0 st with
  | fail n => rw [hcode] at h; exact hnf.no h rfl
  | ok e fr1 st1 =>
    rw [hcode] at h
    have h : exOn e (resultVars P fr1 st1 fnc.results.toList fun l => shut l fun v => .ok v st1) (resultVars P fr1 st1 fnc.results.toList fun l => shut l fun v => .ok v st1) (fun _ => .fail 274) = .ok v st' := h
    have he : (e = .norm ∨ e = .ret) ∧ (resultVars P fr1 st1 fnc.results.toList fun l => shut l fun v => .ok v st1) = .ok v st' := by
      cases e with
      | norm => exact ⟨.inl rfl, h⟩
      | ret => exact ⟨.inr rfl, h⟩
      | exit j => exact hnf.no h rfl
    obtain ⟨hex, h⟩ := he
    have hst : st1 = st' := by
      have key : ∀ (rs : List ResultVar) (k : AV → Rv), (∀ l, (∃ n, k l = .fail n) ∨ ∃ v, k l = .ok v st1) → (∃ n, resultVars P fr1 st1 rs k = .fail n) ∨ ∃ v, resultVars P fr1 st1 rs k = .ok v st1 := by
        intro rs
        induction rs with
        | nil => intro k hk; exact hk .nil
        | cons x rs ih =>
          intro k hk
          have hk' := fun v => ih (fun l => k (.cons v l)) (fun l => hk _)
          cases x with
          | tmp t =>
            show (∃ n, Tr.get (pos t) fr1 (fun v => resultVars P fr1 st1 rs fun l => k (.cons v l)) (resultVars P fr1 st1 rs fun l => k (.cons .undef l)) = .fail n) ∨ ∃ v, Tr.get (pos t) fr1 (fun v => resultVars P fr1 st1 rs fun l => k (.cons v l)) (resultVars P fr1 st1 rs fun l => k (.cons .undef l)) = .ok v st1
            rw [Tr.get_eq]
            cases Tr.find (pos t) fr1 with
            | none => exact hk' _
            | some v => exact hk' _
          | cell a t =>
            show (∃ n, Tr.get (pos a) fr1 (fun v => onPtr v (fun b o => loadK P t b o st1 (fun v => resultVars P fr1 st1 rs fun l => k (.cons v l)) (.fail 271)) (.fail 272)) (.fail 273) = .fail n) ∨ ∃ v, Tr.get (pos a) fr1 (fun v => onPtr v (fun b o => loadK P t b o st1 (fun v => resultVars P fr1 st1 rs fun l => k (.cons v l)) (.fail 271)) (.fail 272)) (.fail 273) = .ok v st1
            rw [Tr.get_eq]
            cases Tr.find (pos a) fr1 with
            | none => exact .inl ⟨_, rfl⟩
            | some v =>
              show (∃ n, onPtr v (fun b o => loadK P t b o st1 (fun v => resultVars P fr1 st1 rs fun l => k (.cons v l)) (.fail 271)) (.fail 272) = .fail n) ∨ ∃ v', onPtr v (fun b o => loadK P t b o st1 (fun v => resultVars P fr1 st1 rs fun l => k (.cons v l)) (.fail 271)) (.fail 272) = .ok v' st1
              rcases onPtr_cases v (fun b o => loadK P t b o st1 (fun v => resultVars P fr1 st1 rs fun l => k (.cons v l)) (.fail 271)) (.fail 272) with ⟨b, i, _, he⟩ | he
              · rw [he]
                unfold loadK
                rcases atB_cases b st1 (fun c => lkOn (lk P t) (blkGet i c (fun v => resultVars P fr1 st1 rs fun l => k (.cons v l)) (.fail 271)) (fun n => blkRange i n c (fun l => (fun v => resultVars P fr1 st1 rs fun l => k (.cons v l)) (.agg l)) (.fail 271)) (.fail 271)) (.fail 271) with ⟨blk, _, he⟩ | he
                · rw [he]
                  rcases lkOn_cases (lk P t) (blkGet i blk (fun v => resultVars P fr1 st1 rs fun l => k (.cons v l)) (.fail 271)) (fun n => blkRange i n blk (fun l => (fun v => resultVars P fr1 st1 rs fun l => k (.cons v l)) (.agg l)) (.fail 271)) (.fail 271) with ⟨_, he⟩ | ⟨n, _, he⟩ | he
                  · rw [he]
                    rcases blkGet_cases i blk (fun v => resultVars P fr1 st1 rs fun l => k (.cons v l)) (.fail 271) with ⟨v, _, he⟩ | he
                    · rw [he]; exact hk' v
                    · rw [he]; exact .inl ⟨_, rfl⟩
                  · rw [he]
                    rcases blkRange_cases i n blk (fun l => (fun v => resultVars P fr1 st1 rs fun l => k (.cons v l)) (.agg l)) (.fail 271) with ⟨v, _, he⟩ | he
                    · rw [he]; exact hk' _
                    · rw [he]; exact .inl ⟨_, rfl⟩
                  · rw [he]; exact .inl ⟨_, rfl⟩
                · rw [he]; exact .inl ⟨_, rfl⟩
              · rw [he]; exact .inl ⟨_, rfl⟩
      rcases key fnc.results.toList (fun l => shut l fun v => .ok v st1) (fun l => by
          unfold shut
          rcases onCons_cases l (fun a b => onCons b (fun _ _ => Rv.ok (.tup l) st1) (.ok a st1)) (.ok (.tup l) st1) with ⟨a, b, _, he⟩ | he
          · rw [he]
            rcases onCons_cases b (fun _ _ => Rv.ok (.tup l) st1) (.ok a st1) with ⟨_, _, _, he⟩ | he
            · rw [he]; exact .inr ⟨_, rfl⟩
            · rw [he]; exact .inr ⟨_, rfl⟩
          · rw [he]; exact .inr ⟨_, rfl⟩) with ⟨n, q⟩ | ⟨v', q⟩
      · exact hnf.no h q
      · rw [h] at q; cases q; rfl
    subst hst
    have hmono := code_mono hc.mono c fr0 fr1 st st1 e hcode
    refine ⟨hmono, by rw [hb]; rfl, hname, fun φ w args sr hargs hfr => ?_⟩
    obtain ⟨_, hlen, hget⟩ := hargs.get1 rfl
    have hsz : ((⟨args⟩ : Array Value) ++ Array.replicate (fnc.ntmps - (⟨args⟩ : Array Value).size) Go.undef).size = fnc.ntmps := by
      simp; omega
    have hfr0 : FR φ fr0 ((⟨args⟩ : Array Value) ++ Array.replicate (fnc.ntmps - (⟨args⟩ : Array Value).size) Go.undef) := by
      intro t u hu
      rw [hfind t] at hu
      by_cases ht : 0 ≤ t ∧ t < len as_
      · rw [if_pos ht, Nat.sub_zero] at hu
        obtain ⟨x, e1, e2⟩ := hget t u hu
        refine ⟨x, ?_, e2⟩
        rw [Array.getElem?_append_left (by simp; omega)]
        simpa using e1
      · rw [if_neg ht, Tr.find_e] at hu; cases hu
    refine callsIn_wide (n := 0).1 (callsIn_of_wp_marks hf hb trivial ?_ rfl)
    refine codeIn hc hP hm c fr0 fr1 st st1 e hcode Fence.wide 0 _ w.heap.size φ _ w (.inl rfl) (.inl rfl) sr hfr0 (by rw [hsz]; exact hdst) hfr .nil (fun φ' a' w' g1 g2 g3 g4 => ?_)
    obtain ⟨_, Bs, d1, d2, d3⟩ := g3
    have hleave : LeavesInM Fence.wide 0 P fnc a'.tmps (EndR φ st w v st1) a'.defers .returning w' := by
      rw [d1]
      refine leaves (φ' := φ') (st' := st1) (fun w2 m2 => ?_) Bs w' g4 d2 d3
      obtain ⟨l, vs, q1, q2, q3⟩ := resultVars_cases m2.sr g1 fnc.results.toList h hnf
      obtain ⟨v', s1, s2⟩ := shut_cases q2 (fun v => .ok v st1)
      rw [q1] at s1
      cases s1
      exact ⟨_, run_results q3, φ', s2, m2⟩
    rcases hex with rfl | rfl
    · exact hleave
    · exact hleave

theorem putArgs_cases : ∀ (ps : List Nat) {as_ : AV} {fr : Tr AV} {k : Tr AV → Rv} {r : Rv}, putArgs ps as_ fr k = r → NFv r → ∃ fr', k fr' = r ∧ ∀ {φ : Phi} {args : List Value} {tmps : Array Value}, VR φ 1 as_ args → FR φ fr tmps → (∀ t ∈ ps, t < tmps.size) →
      args.length = ps.length ∧ FR φ fr' ((ps.zip args).foldl (fun (tmps : Array Value) (p : Nat × Value) => tmps.setIfInBounds p.1 p.2) tmps) ∧ ((ps.zip args).foldl (fun (tmps : Array Value) (p : Nat × Value) => tmps.setIfInBounds p.1 p.2) tmps).size = tmps.size
  | [], as_, fr, k, r, h, hr => by
    rcases onList_cases as_ (k fr) (fun _ _ => .fail 268) (.fail 268) with ⟨rfl, he⟩ | ⟨_, _, _, he⟩ | he
    · refine ⟨fr, he.symm.trans h, fun ha hf _ => ?_⟩
      cases ha
      exact ⟨rfl, hf, rfl⟩
    · exact hr.no h he
    · exact hr.no h he
  | t :: ps, as_, fr, k, r, h, hr => by
    rcases onCons_cases as_ (fun a l => Tr.set (pos t) a fr fun fr => putArgs ps l fr k) (.fail 269) with ⟨a, l, rfl, he⟩ | he
    rotate_left
    · exact hr.no h he
    have h : Tr.set (pos t) a fr (fun fr => putArgs ps l fr k) = r := he.symm.trans h
    rw [Tr.set_eq] at h
    obtain ⟨fr', h1, h2⟩ := putArgs_cases ps h hr
    refine ⟨fr', h1, fun ha hf hlt => ?_⟩
    cases ha with
    | cons1 _ _ x xs g1 g2 =>
    have ht := hlt t (List.mem_cons_self ..)
    obtain ⟨e1, e2, e3⟩ := h2 g2 (FR.put (a := { tmps := _, defers := [] }) (dst := some t) (.refl _) hf g1 (fun d hd => by cases hd; exact ht)) (fun t' ht' => by
      show t' < (Array.setIfInBounds _ _ _).size
      simp only [Array.size_setIfInBounds]
      exact hlt t' (List.mem_cons_of_mem _ ht'))
    refine ⟨by simp [e1], e2, ?_⟩
    rw [List.zip_cons_cons, List.foldl_cons]
    refine Eq.trans e3 ?_
    show (Array.setIfInBounds _ _ _).size = _
    simp

theorem run_beginRound {w : World} {l : Nat} {r : Loop} (h : w.heap[l]? = some (.loop r)) (hs : sttOf r.state = 0) : (Instr.beginRound l).run P w = .ok () { w with heap := w.heap.setIfInBounds l (.loop { r with state := .busy }) } := by
  have hr : r.state = .ready := by
    cases e : r.state <;> first | rfl | (rw [e] at hs; cases hs)
  unfold Instr.beginRound
  have := heapSet (P := P) (o2 := .loop { r with state := .busy }) h (.inr (.inr ⟨r, rfl⟩))
  simp [run_getLoop h, this, hr]
theorem run_endRound {w : World} {l : Nat} {r : Loop} (h : w.heap[l]? = some (.loop r)) (jump : Option Code) : (Instr.endRound l jump).run P w = .ok (.bool jump.isNone) { w with heap := w.heap.setIfInBounds l (.loop { r with state := if jump.isNone then .ready else .done, pending := jump }) } := by
  unfold Instr.endRound
  have := heapSet (P := P) (o2 := .loop { r with state := if jump.isNone then .ready else .done, pending := jump }) h (.inr (.inr ⟨r, rfl⟩))
  simp only [Sem.run_bind, run_getLoop h, Result.andThen_ok, this]
  rfl

theorem round_ok (hc : CallOk P call) (hP : P.underlying 4294967295 = none) (hm : P.follows .mixedOrders = true) {b : Pos} {as_ : AV} {st st' : St} {v : AV} (h : round P call b as_ st = .ok v st') :
    st.next.num ≤ st'.next.num ∧ ∀ φ w args B N, SR φ st w → φ b = some (B, 0, N) → VR φ 1 as_ args → Fresh φ st.next st'.next → ∃ f tmps asg body, (Instr.yield B ⟨args⟩).run P w = .ok (.round B f tmps asg body) w ∧
      ∀ n, RoundIn Fence.wide n P B f tmps asg body w (EndR φ st w v st') := by
  have hnf : NFv (.ok v st') := fun n q => by cases q
  unfold round at h
  rcases lpAt_cases b st _ (Rv.fail 285) with ⟨ps, lf, asg, bd, stt, pend, hf0, he⟩ | he
  rotate_left
  · exact hnf.no h he
  rw [he] at h
  rcases ifB_cases (Nat.beq stt 0) _ (Rv.fail 284) with ⟨hs0, he⟩ | ⟨_, he⟩
  rotate_left
  · exact hnf.no h he
  rw [he] at h
  have hs0 : stt = 0 := Nat.eq_of_beq_eq_true hs0
  subst hs0
  obtain ⟨fr0, h, hput⟩ := putArgs_cases ps h hnf
  cases hc1 : codeF asg P call fr0 st with
  | fail n => rw [hc1] at h; exact hnf.no h rfl
  | ok e1 fr1 st1 =>
  rw [hc1] at h
  cases e1 with
  | ret => exact hnf.no h rfl
  | exit j => exact hnf.no h rfl
  | norm =>
  have h : lpAt b st1 (fun ps lf as_ bd' stt pend => ifB (Nat.beq stt 0) (putBlk b (.lp ps lf as_ bd' 1 pend) st1 fun st => resRv3 (codeF bd P call fr1 st) fun e _ st => lpAt b st (fun ps lf as_ bd _ _ => exOn e
        (putBlk b (.lp ps lf as_ bd 0 none) st fun st => Rv.ok (.bool true) st) (putBlk b (.lp ps lf as_ bd 2 (some 0)) st fun st => Rv.ok (.bool false) st) (fun j => putBlk b (.lp ps lf as_ bd 2 (some (Nat.succ j))) st fun st => Rv.ok (.bool false) st)) (Rv.fail 286)) (Rv.fail 280)) (Rv.fail 281) = .ok v st' := h
  rcases lpAt_cases b st1 _ (Rv.fail 281) with ⟨ps1, lf1, asg1, bd1, stt1, pend1, hf1, he⟩ | he
  rotate_left
  · exact hnf.no h he
  rw [he] at h
  rcases ifB_cases (Nat.beq stt1 0) _ (Rv.fail 280) with ⟨hs1, he⟩ | ⟨_, he⟩
  rotate_left
  · exact hnf.no h he
  rw [he, putBlk_eq] at h
  have hs1 : stt1 = 0 := Nat.eq_of_beq_eq_true hs1
  subst hs1
  cases hc2 : codeF bd P call fr1 (stPut b (.lp ps1 lf1 asg1 bd1 1 pend1) st1) with
  | fail n => rw [hc2] at h; exact hnf.no h rfl
  | ok e2 fr2 st2 =>
  rw [hc2] at h
  have h : lpAt b st2 (fun ps lf as_ bd _ _ => exOn e2
        (putBlk b (.lp ps lf as_ bd 0 none) st2 fun st => Rv.ok (.bool true) st) (putBlk b (.lp ps lf as_ bd 2 (some 0)) st2 fun st => Rv.ok (.bool false) st) (fun j => putBlk b (.lp ps lf as_ bd 2 (some (Nat.succ j))) st2 fun st => Rv.ok (.bool false) st)) (Rv.fail 286) = .ok v st' := h
  rcases lpAt_cases b st2 (fun ps lf as_ bd _ _ => exOn e2
        (putBlk b (.lp ps lf as_ bd 0 none) st2 fun st => Rv.ok (.bool true) st) (putBlk b (.lp ps lf as_ bd 2 (some 0)) st2 fun st => Rv.ok (.bool false) st) (fun j => putBlk b (.lp ps lf as_ bd 2 (some (Nat.succ j))) st2 fun st => Rv.ok (.bool false) st)) (Rv.fail 286) with ⟨ps2, lf2, asg2, bd2, stt2, pend2, hf2, he⟩ | he
  rotate_left
  · exact hnf.no h he
  rw [he] at h
  -- how the round ends
  obtain ⟨stt', pend', jump, hv, hst', hjump, hstt, hsome⟩ : ∃ (stt' : Nat) (pend' : Option Nat) (jump : Option Code), v = .bool jump.isNone ∧ st' = stPut b (.lp ps2 lf2 asg2 bd2 stt' pend') st2 ∧ jump = pendOf pend' ∧ sttOf (if jump.isNone then .ready else .done) = stt' ∧
      (match e2 with | .norm => jump = none | .ret => jump = some .ret | .exit j => jump = some (.exit j)) := by
    cases e2 with
    | norm =>
      have h : putBlk b (.lp ps2 lf2 asg2 bd2 0 none) st2 (fun st => Rv.ok (.bool true) st) = .ok v st' := h
      rw [putBlk_eq] at h; cases h
      exact ⟨0, none, none, rfl, rfl, rfl, rfl, rfl⟩
    | ret =>
      have h : putBlk b (.lp ps2 lf2 asg2 bd2 2 (some 0)) st2 (fun st => Rv.ok (.bool false) st) = .ok v st' := h
      rw [putBlk_eq] at h; cases h
      exact ⟨2, some 0, some .ret, rfl, rfl, rfl, rfl, rfl⟩
    | exit j =>
      have h : putBlk b (.lp ps2 lf2 asg2 bd2 2 (some (Nat.succ j))) st2 (fun st => Rv.ok (.bool false) st) = .ok v st' := h
      rw [putBlk_eq] at h; cases h
      exact ⟨2, some (j + 1), some (.exit j), rfl, rfl, rfl, rfl, rfl⟩
  subst hv; subst hst'
  have mo1 := code_mono hc.mono asg fr0 fr1 st st1 _ hc1
  have mo2 : (stPut b (.lp ps1 lf1 asg1 bd1 1 pend1) st1).next.num ≤ st2.next.num := code_mono hc.mono bd fr1 fr2 _ st2 _ hc2
  have mo2 : st1.next.num ≤ st2.next.num := mo2
  refine ⟨Nat.le_trans mo1 mo2, fun φ w args B N sr hφ hargs hfr => ?_⟩
  have hfr : Fresh φ st.next st2.next := hfr
  obtain ⟨_, r, b1, b2, b3, b4, b5, b6, b7, b8, b9, b10, b11, b12⟩ := sr.blk _ _ _ _ _ hf0 hφ
  obtain ⟨p1, p2, p3⟩ := hput hargs b7 b10
  refine ⟨r.fn, (r.params.zip (⟨args⟩ : Array Value)).foldl (fun tmps (x : Tmp × Value) => tmps.setIfInBounds x.1 x.2) r.tmps, r.assign, r.body, ?_, fun n => ?_⟩
  · unfold Instr.yield
    have hsz : (⟨args⟩ : Array Value).size = r.params.size := by rw [b2]; simpa using p1
    simp only [Sem.run_bind, run_getLoop b1, Result.andThen_ok, hsz, ne_eq, not_true_eq_false, if_false]
    rfl
  · rw [b3, b4]
    have htm : (r.params.zip (⟨args⟩ : Array Value)).foldl (fun tmps (x : Tmp × Value) => tmps.setIfInBounds x.1 x.2) r.tmps = (ps.zip args).foldl (fun (tmps : Array Value) (p : Nat × Value) => tmps.setIfInBounds p.1 p.2) r.tmps := by
      rw [b2]
      simp
    refine roundIn_of_wpIn (F := Fence.wide) trivial ?_
    have hFi : FW (Fence.wide.inRound B) := .inr ⟨B, rfl⟩
    refine codeIn hc hP hm asg fr0 fr1 st st1 .norm hc1 (Fence.wide.inRound B) n _ w.heap.size φ _ w hFi (.inr b11) sr (by dsimp only; rw [htm]; exact p2) (by dsimp only; rw [htm, p3]; exact b8) (hfr.cut mo2) .nil (fun φ1 a1 w1 g1 g2 g3 g4 => ?_)
    have hφ1 := g4.ext _ _ hφ
    obtain ⟨_, r1, c1, c2, c3, c4, c5, c6, c7, c8, c9, c10, c11, c12⟩ := g4.sr.blk _ _ _ _ _ hf1 hφ1
    have m1 : Moved φ1 st1 w1 φ1 (stPut b (.lp ps1 lf1 asg1 bd1 1 pend1) st1) { w1 with heap := w1.heap.setIfInBounds B (.loop { r1 with state := .busy }) } :=
      moved_set g4.sr hf1 rfl hφ1 c1 ⟨rfl, { r1 with state := .busy }, set_at c1, c2, c3, c4, rfl, c6, c7, c8, c9, c10, c11, c12⟩
    refine ⟨_, run_beginRound c1 c5, ?_⟩
    have ha1 : a1.tmps.size = r.tmps.size := by rw [g2]; dsimp only; rw [htm, p3]
    refine codeIn hc hP hm bd fr1 fr2 _ st2 e2 hc2 (Fence.wide.inRound B) n _ w.heap.size φ1 a1 _ hFi (.inr b12) m1.sr g1 (by rw [ha1]; exact b9) (hfr.after (g4.trans m1)) (g3.step m1) (fun φ2 a2 w2 f1 f2 f3 f4 => ?_)
    have hφ2 := f4.ext _ _ hφ1
    obtain ⟨_, r2, d1, d2, d3, d4, d5, d6, d7, d8, d9, d10, d11, d12⟩ := f4.sr.blk _ _ _ _ _ hf2 hφ2
    have m2 : Moved φ2 st2 w2 φ2 (stPut b (.lp ps2 lf2 asg2 bd2 stt' pend') st2) { w2 with heap := w2.heap.setIfInBounds B (.loop { r2 with state := if jump.isNone then .ready else .done, pending := jump }) } :=
      moved_set f4.sr hf2 rfl hφ2 d1 ⟨rfl, { r2 with state := if jump.isNone then .ready else .done, pending := jump }, set_at d1, d2, d3, d4, hstt, hjump, d7, d8, d9, d10, d11, d12⟩
    have hend := run_endRound (P := P) d1 jump
    have hR : EndR φ st w (.bool jump.isNone) (stPut b (.lp ps2 lf2 asg2 bd2 stt' pend') st2) (.returned (.bool jump.isNone)) { w2 with heap := w2.heap.setIfInBounds B (.loop { r2 with state := if jump.isNone then .ready else .done, pending := jump }) } :=
      ⟨φ2, .bool _, g4.trans (m1.trans (f4.trans m2))⟩
    cases e2 with
    | norm => have hq : jump = none := hsome; subst hq; exact ⟨_, _, hend, hR⟩
    | ret => have hq : jump = some .ret := hsome; subst hq; exact ⟨_, _, hend, hR⟩
    | exit j => have hq : jump = some (.exit j) := hsome; subst hq; exact ⟨_, _, hend, hR⟩
end
end Ev
end
/- This text proves that what the evaluator says of a call is so, given contracts for the functions that it does not walk through. -/
section
namespace Ev
open Go

/-- a summary tells the truth -/
structure SumOk (P : Program) (f : FuncId) (s : SumF) : Prop where
  here : ∃ fnc, P.funcs[f]? = some fnc ∧ fnc.body.isNone = false ∧ (fnc.name == "runtime.NumGoroutine") = false
  mono : ∀ as_ st v st', s as_ st = .ok v st' → st.next.num ≤ st'.next.num
  calls : ∀ as_ st v st', s as_ st = .ok v st' → ∀ φ w args, SR φ st w → VR φ 1 as_ args → Fresh φ st.next st'.next → Calls P f ⟨args⟩ w (EndR φ st w v st')

section
variable {P : Program}
theorem fn_find {f : Nat} {fn : Func} (h : Tr.find (pos f) (fnTab P) = some fn) : P.funcs[f]? = some fn := by
  have := tabOf_find P.funcs.toList f
  rw [show Tr.find (pos f) (tabOf P.funcs.toList) = Tr.find (pos f) (fnTab P) from rfl, h] at this
  rw [← Array.getElem?_toList]; exact this.symm

theorem step_ok {call : CallH} (hc : CallOk P call) (hP : P.underlying 4294967295 = none) (hm : P.follows .mixedOrders = true) {S : Nat → Option SumF} (hS : ∀ f s, S f = some s → SumOk P f s) : CallOk P (callStep P S call) := by
  have nf : ∀ (v : AV) (st : St), NFv (.ok v st) := fun v st n q => by cases q
  have fnCase : ∀ f a c as_ st v st', callStep P S call (.fn f a c) as_ st = .ok v st' → (∃ s, S f = some s ∧ s as_ st = .ok v st') ∨ ∃ fnc, P.funcs[f]? = some fnc ∧ callBody P call as_ st fnc = .ok v st' := by
    intro f a c as_ st v st' h
    have h : Option.rec (motive := fun _ => Rv) (getFn P f (callBody P call as_ st) (.fail 278)) (fun s => s as_ st) (S f) = .ok v st' := h
    cases hs : S f with
    | some s => rw [hs] at h; exact .inl ⟨s, rfl, h⟩
    | none =>
      rw [hs] at h
      have h : Tr.get (pos f) (fnTab P) (callBody P call as_ st) (.fail 278) = .ok v st' := h
      rcases Tr.get_cases (pos f) (fnTab P) (callBody P call as_ st) (.fail 278) with ⟨fnc, hf, he⟩ | he
      · rw [he] at h; exact .inr ⟨fnc, fn_find hf, h⟩
      · exact (nf v st').no h he
  refine ⟨fun g as_ st v st' h => ?_, fun f as_ st v st' h => ?_, fun b as_ st v st' h => ?_⟩
  · cases g with
    | fn f a c =>
      rcases fnCase f a c as_ st v st' h with ⟨s, h1, h2⟩ | ⟨fnc, h1, h2⟩
      · exact (hS f s h1).mono _ _ _ _ h2
      · exact (body_ok hc hP hm h1 h2).1
    | yl b => exact (round_ok hc hP hm (show round P call b as_ st = .ok v st' from h)).1
    | _ => cases h
  · rcases fnCase f .nil .nil as_ st v st' h with ⟨s, h1, h2⟩ | ⟨fnc, h1, h2⟩
    · exact ⟨(hS f s h1).here, (hS f s h1).calls _ _ _ _ h2⟩
    · obtain ⟨_, g2, g3, g4⟩ := body_ok hc hP hm h1 h2
      exact ⟨⟨fnc, h1, g2, g3⟩, g4⟩
  · exact (round_ok hc hP hm (show round P call b as_ st = .ok v st' from h)).2

theorem callN_ok (hP : P.underlying 4294967295 = none) (hm : P.follows .mixedOrders = true) {S : Nat → Option SumF} (hS : ∀ f s, S f = some s → SumOk P f s) : ∀ n, CallOk P (callN P S n)
  | 0 => ⟨fun _ _ _ _ _ h => (by cases h), fun _ _ _ _ _ h => (by cases h), fun _ _ _ _ _ h => (by cases h)⟩
  | n + 1 => step_ok (callN_ok hP hm hS n) hP hm hS

/-- a function that the evaluator has run keeps to what it said -/
theorem sum_of_run {call : CallH} (hc : CallOk P call) {f : FuncId} : (∀ as_ st v st', call (.fn f .nil .nil) as_ st = .ok v st' → st.next.num ≤ st'.next.num ∧ ∀ φ w args, SR φ st w → VR φ 1 as_ args → Fresh φ st.next st'.next → Calls P f ⟨args⟩ w (EndR φ st w v st')) :=
  fun as_ st v st' h => ⟨hc.mono _ _ _ _ _ h, (hc.fn f as_ st v st' h).2⟩
end
end Ev
end
/- This text proves how runs of the evaluator through parts of a statement are put together, what is no longer needed being dropped between them. -/
section
namespace Ev
open Go

section
variable {P : Program}
/-- a statement, begun in a state, ends so -/
structure CodeOk (P : Program) (c : Code) (fr : Tr AV) (st : St) (e : Ex) (fr' : Tr AV) (st' : St) : Prop where
  mono : st.next.num ≤ st'.next.num
  wp : ∀ (F : Fence) (n : Nat) (Q : Exit → Act → World → Prop) (s0 : Nat) (φ : Phi) (a : Act) (w : World), FW F → (F.round = none ∨ noRF c = true) → SR φ st w → FR φ fr a.tmps → dstsOk a.tmps.size c = true → Fresh φ st.next st'.next → DefOk s0 a.defers φ st w →
      (∀ φ' a' w', FR φ' fr' a'.tmps → a'.tmps.size = a.tmps.size → DefOk s0 a'.defers φ' st' w' → Moved φ st w φ' st' w' → Q (exitOf e) a' w') → c.wpIn F n P Q a w
/-- rounds of a loop -/
structure LoopOk (P : Program) (x : Code) (m : Nat) (fr : Tr AV) (st : St) (e : Ex) (fr' : Tr AV) (st' : St) : Prop where
  mono : st.next.num ≤ st'.next.num
  wp : ∀ (F : Fence) (n : Nat) (Q : Exit → Act → World → Prop) (s0 : Nat) (φ : Phi) (a : Act) (w : World), FW F → (F.round = none ∨ noRF x = true) → SR φ st w → FR φ fr a.tmps → dstsOk a.tmps.size x = true → Fresh φ st.next st'.next → DefOk s0 a.defers φ st w →
      (∀ φ' a' w', FR φ' fr' a'.tmps → a'.tmps.size = a.tmps.size → DefOk s0 a'.defers φ' st' w' → Moved φ st w φ' st' w' → Q (exitOf e) a' w') → Code.roundsIn F n P x Q m a w

theorem CodeOk.of_run {call : CallH} (hc : CallOk P call) (hP : P.underlying 4294967295 = none) (hm : P.follows .mixedOrders = true) {c : Code} {fr fr' : Tr AV} {st st' : St} {e : Ex} (h : codeF c P call fr st = .ok e fr' st') : CodeOk P c fr st e fr' st' :=
  ⟨code_mono hc.mono c fr fr' st st' e h, fun F n Q s0 φ a w => codeIn hc hP hm c fr fr' st st' e h F n Q s0 φ a w⟩

/-- a smaller frame, a smaller state -/
structure Less (fr2 fr : Tr AV) (st2 st : St) : Prop where
  frame : ∀ t v, Tr.find (pos t) fr2 = some v → Tr.find (pos t) fr = some v
  heap : ∀ b k, Tr.find b st2.heap = some k → Tr.find b st.heap = some k
  dom : ∀ b k, Tr.find b st2.heap = some k → b.num < st2.next.num
  next : st.next.num ≤ st2.next.num
theorem Moved.less {φ φ' : Phi} {st st' st2 : St} {w w' : World} (m : Moved φ st w φ' st' w') (hh : ∀ b k, Tr.find b st2.heap = some k → Tr.find b st'.heap = some k) (hd : ∀ b k, Tr.find b st2.heap = some k → b.num < st2.next.num) (hn : st'.next.num ≤ st2.next.num) : Moved φ st w φ' st2 w' :=
  ⟨m.ext, fun b h1 h2 => let ⟨a, c⟩ := m.only b h1 h2; ⟨a, by omega⟩, m.sr.sub (fun b k e _ => hh b k e) hd, Nat.le_trans m.mono hn, m.size, m.os, m.tape, m.output, m.frame, fun b k B s N h1 h2 h3 h4 => m.img b k B s N (hh b k h1) h2 h3 h4⟩
theorem CodeOk.less {c : Code} {fr fr' fr2 : Tr AV} {st st' st2 : St} {e : Ex} (h : CodeOk P c fr st e fr' st') (l : Less fr2 fr' st2 st') : CodeOk P c fr st e fr2 st2 := by
  refine ⟨Nat.le_trans h.mono l.next, fun F n Q s0 φ a w hF hrf sr hf hd hfr hdef hQ => ?_⟩
  refine h.wp F n Q s0 φ a w hF hrf sr hf hd (hfr.cut l.next) hdef fun φ' a' w' g1 g2 g3 g4 => ?_
  refine hQ φ' a' w' (fun t v e => g1 t v (l.frame t v e)) g2 ?_ (g4.less l.heap l.dom l.next)
  obtain ⟨q0, Bs, q1, q2, q3⟩ := g3
  exact ⟨q0, Bs, q1, q2, fun B hB => let ⟨a1, a2, a3⟩ := q3 B hB; ⟨a1, a2, fun b k s N e1 e2 => a3 b k s N (l.heap b k e1) e2⟩⟩

theorem CodeOk.seq_norm {x y : Code} {fr fr1 fr' : Tr AV} {st st1 st' : St} {e : Ex} (h1 : CodeOk P x fr st .norm fr1 st1) (h2 : CodeOk P y fr1 st1 e fr' st') : CodeOk P (.seq x y) fr st e fr' st' := by
  refine ⟨Nat.le_trans h1.mono h2.mono, fun F n Q s0 φ a w hF hrf sr hf hd hfr hdef hQ => ?_⟩
  have hd : dstsOk a.tmps.size x = true ∧ dstsOk a.tmps.size y = true := by unfold dstsOk at hd; simpa using hd
  have hrf' : (F.round = none ∨ noRF x = true) ∧ (F.round = none ∨ noRF y = true) := by
    rcases hrf with q | q
    · exact ⟨.inl q, .inl q⟩
    · have : noRF x = true ∧ noRF y = true := by unfold noRF at q; simpa using q
      exact ⟨.inr this.1, .inr this.2⟩
  refine wpIn_seq ?_
  refine h1.wp F n _ s0 φ a w hF hrf'.1 sr hf hd.1 (hfr.cut h2.mono) hdef fun φ1 a1 w1 g1 g2 g3 g4 => ?_
  show y.wpIn F n P Q a1 w1
  exact h2.wp F n Q s0 φ1 a1 w1 hF hrf'.2 g4.sr g1 (by rw [g2]; exact hd.2) (hfr.after g4) g3 fun φ2 a2 w2 f1 f2 f3 f4 => hQ φ2 a2 w2 f1 (f2.trans g2) f3 (g4.trans f4)
theorem CodeOk.seq_out {x y : Code} {fr fr' : Tr AV} {st st' : St} {e : Ex} (h1 : CodeOk P x fr st e fr' st') (he : e ≠ .norm) : CodeOk P (.seq x y) fr st e fr' st' := by
  refine ⟨h1.mono, fun F n Q s0 φ a w hF hrf sr hf hd hfr hdef hQ => ?_⟩
  have hd : dstsOk a.tmps.size x = true ∧ dstsOk a.tmps.size y = true := by unfold dstsOk at hd; simpa using hd
  have hrf' : F.round = none ∨ noRF x = true := by
    rcases hrf with q | q
    · exact .inl q
    · have : noRF x = true ∧ noRF y = true := by unfold noRF at q; simpa using q
      exact .inr this.1
  refine wpIn_seq ?_
  refine h1.wp F n _ s0 φ a w hF hrf' sr hf hd.1 hfr hdef fun φ1 a1 w1 g1 g2 g3 g4 => ?_
  cases e with
  | norm => exact absurd rfl he
  | ret => exact hQ φ1 a1 w1 g1 g2 g3 g4
  | exit j => exact hQ φ1 a1 w1 g1 g2 g3 g4
/-- what a block makes of a way out -/
def outOf (id : Nat) : Ex → Ex
  | .exit j => if j = id then .norm else .exit j
  | e => e
theorem CodeOk.block {id : Nat} {x : Code} {fr fr' : Tr AV} {st st' : St} {e : Ex} (h : CodeOk P x fr st e fr' st') : CodeOk P (.block id x) fr st (outOf id e) fr' st' := by
  refine ⟨h.mono, fun F n Q s0 φ a w hF hrf sr hf hd hfr hdef hQ => ?_⟩
  refine wpIn_block ?_
  refine h.wp F n _ s0 φ a w hF hrf sr hf hd hfr hdef fun φ1 a1 w1 g1 g2 g3 g4 => ?_
  have := hQ φ1 a1 w1 g1 g2 g3 g4
  cases e with
  | norm => exact this
  | ret => exact this
  | exit j =>
    show (if j = id then Q .normal a1 w1 else Q (.exit j) a1 w1)
    replace this : Q (exitOf (if j = id then .norm else .exit j)) a1 w1 := this
    by_cases q : j = id
    · rw [if_pos q] at this ⊢; exact this
    · rw [if_neg q] at this ⊢; exact this
theorem CodeOk.loop {x : Code} {m : Nat} {fr fr' : Tr AV} {st st' : St} {e : Ex} (h : LoopOk P x m fr st e fr' st') : CodeOk P (.loop x) fr st e fr' st' :=
  ⟨h.mono, fun F n Q s0 φ a w hF hrf sr hf hd hfr hdef hQ => wpIn_loop_rounds m (h.wp F n Q s0 φ a w hF hrf sr hf hd hfr hdef hQ)⟩
theorem LoopOk.last {x : Code} {fr fr' : Tr AV} {st st' : St} {e : Ex} (h : CodeOk P x fr st e fr' st') (he : e ≠ .norm) : LoopOk P x 1 fr st e fr' st' := by
  refine ⟨h.mono, fun F n Q s0 φ a w hF hrf sr hf hd hfr hdef hQ => ?_⟩
  rw [roundsIn_succ]
  refine h.wp F n _ s0 φ a w hF hrf sr hf hd hfr hdef fun φ1 a1 w1 g1 g2 g3 g4 => ?_
  cases e with
  | norm => exact absurd rfl he
  | ret => exact hQ φ1 a1 w1 g1 g2 g3 g4
  | exit j => exact hQ φ1 a1 w1 g1 g2 g3 g4
theorem LoopOk.round {x : Code} {m : Nat} {fr fr1 fr' : Tr AV} {st st1 st' : St} {e : Ex} (h1 : CodeOk P x fr st .norm fr1 st1) (h2 : LoopOk P x m fr1 st1 e fr' st') : LoopOk P x (m + 1) fr st e fr' st' := by
  refine ⟨Nat.le_trans h1.mono h2.mono, fun F n Q s0 φ a w hF hrf sr hf hd hfr hdef hQ => ?_⟩
  rw [roundsIn_succ]
  refine h1.wp F n _ s0 φ a w hF hrf sr hf hd (hfr.cut h2.mono) hdef fun φ1 a1 w1 g1 g2 g3 g4 => ?_
  exact h2.wp F n Q s0 φ1 a1 w1 hF hrf g4.sr g1 (by rw [g2]; exact hd) (hfr.after g4) g3 fun φ2 a2 w2 f1 f2 f3 f4 => hQ φ2 a2 w2 f1 (f2.trans g2) f3 (g4.trans f4)

/-! ### checks for the kernel -/
/-- are all members of the first tree in the second one? -/
noncomputable def frSub (ks : List Nat) (fr2 fr : Tr AV) : Bool :=
  List.rec (motive := fun _ => Bool) true (fun t _ ih => Tr.get (pos t) fr2 (fun v => Tr.get (pos t) fr (fun u => avEq v u ih false) false) ih) ks
end

section
variable {P : Program} {call : CallH}
/-- a call at one place -/
structure CallAt (P : Program) (f : FuncId) (as_ : AV) (st : St) (v : AV) (st' : St) : Prop where
  mono : st.next.num ≤ st'.next.num
  calls : ∀ φ w args, SR φ st w → VR φ 1 as_ args → Fresh φ st.next st'.next → Calls P f ⟨args⟩ w (EndR φ st w v st')

theorem resultVars_state {fr : Tr AV} {st st' : St} {rs : List ResultVar} {v : AV} (h : resultVars P fr st rs (fun l => shut l fun v => .ok v st) = .ok v st') : st = st' := by
  have hnf : NFv (.ok v st') := fun n q => by cases q
  have key : ∀ (rs : List ResultVar) (k : AV → Rv), (∀ l, (∃ n, k l = .fail n) ∨ ∃ v, k l = .ok v st) → (∃ n, resultVars P fr st rs k = .fail n) ∨ ∃ v, resultVars P fr st rs k = .ok v st := by
    intro rs
    induction rs with
    | nil => intro k hk; exact hk .nil
    | cons x rs ih =>
      intro k hk
      have hk' := fun v => ih (fun l => k (.cons v l)) (fun l => hk _)
      cases x with
      | tmp t =>
        show (∃ n, Tr.get (pos t) fr (fun v => resultVars P fr st rs fun l => k (.cons v l)) (resultVars P fr st rs fun l => k (.cons .undef l)) = .fail n) ∨ ∃ v, Tr.get (pos t) fr (fun v => resultVars P fr st rs fun l => k (.cons v l)) (resultVars P fr st rs fun l => k (.cons .undef l)) = .ok v st
        rw [Tr.get_eq]
        cases Tr.find (pos t) fr with
        | none => exact hk' _
        | some v => exact hk' _
      | cell a t =>
        show (∃ n, Tr.get (pos a) fr (fun v => onPtr v (fun b o => loadK P t b o st (fun v => resultVars P fr st rs fun l => k (.cons v l)) (.fail 271)) (.fail 272)) (.fail 273) = .fail n) ∨ ∃ v, Tr.get (pos a) fr (fun v => onPtr v (fun b o => loadK P t b o st (fun v => resultVars P fr st rs fun l => k (.cons v l)) (.fail 271)) (.fail 272)) (.fail 273) = .ok v st
        rw [Tr.get_eq]
        cases Tr.find (pos a) fr with
        | none => exact .inl ⟨_, rfl⟩
        | some v =>
          show (∃ n, onPtr v (fun b o => loadK P t b o st (fun v => resultVars P fr st rs fun l => k (.cons v l)) (.fail 271)) (.fail 272) = .fail n) ∨ ∃ v', onPtr v (fun b o => loadK P t b o st (fun v => resultVars P fr st rs fun l => k (.cons v l)) (.fail 271)) (.fail 272) = .ok v' st
          rcases onPtr_cases v (fun b o => loadK P t b o st (fun v => resultVars P fr st rs fun l => k (.cons v l)) (.fail 271)) (.fail 272) with ⟨b, i, _, he⟩ | he
          · rw [he]
            unfold loadK
            rcases atB_cases b st (fun c => lkOn (lk P t) (blkGet i c (fun v => resultVars P fr st rs fun l => k (.cons v l)) (.fail 271)) (fun n => blkRange i n c (fun l => (fun v => resultVars P fr st rs fun l => k (.cons v l)) (.agg l)) (.fail 271)) (.fail 271)) (.fail 271) with ⟨blk, _, he⟩ | he
            · rw [he]
              rcases lkOn_cases (lk P t) (blkGet i blk (fun v => resultVars P fr st rs fun l => k (.cons v l)) (.fail 271)) (fun n => blkRange i n blk (fun l => (fun v => resultVars P fr st rs fun l => k (.cons v l)) (.agg l)) (.fail 271)) (.fail 271) with ⟨_, he⟩ | ⟨n, _, he⟩ | he
              · rw [he]
                rcases blkGet_cases i blk (fun v => resultVars P fr st rs fun l => k (.cons v l)) (.fail 271) with ⟨v, _, he⟩ | he
                · rw [he]; exact hk' v
                · rw [he]; exact .inl ⟨_, rfl⟩
              · rw [he]
                rcases blkRange_cases i n blk (fun l => (fun v => resultVars P fr st rs fun l => k (.cons v l)) (.agg l)) (.fail 271) with ⟨v, _, he⟩ | he
                · rw [he]; exact hk' _
                · rw [he]; exact .inl ⟨_, rfl⟩
              · rw [he]; exact .inl ⟨_, rfl⟩
            · rw [he]; exact .inl ⟨_, rfl⟩
          · rw [he]; exact .inl ⟨_, rfl⟩
  rcases key rs (fun l => shut l fun v => .ok v st) (fun l => by
      unfold shut
      rcases onCons_cases l (fun a b => onCons b (fun _ _ => Rv.ok (.tup l) st) (.ok a st)) (.ok (.tup l) st) with ⟨a, b, _, he⟩ | he
      · rw [he]
        rcases onCons_cases b (fun _ _ => Rv.ok (.tup l) st) (.ok a st) with ⟨_, _, _, he⟩ | he
        · rw [he]; exact .inr ⟨_, rfl⟩
        · rw [he]; exact .inr ⟨_, rfl⟩
      · rw [he]; exact .inr ⟨_, rfl⟩) with ⟨n, q⟩ | ⟨v', q⟩
  · exact hnf.no h q
  · rw [h] at q; cases q; rfl

/-- a call, its body having been walked through in parts -/
theorem CallAt.of_code {f : FuncId} {fnc : Func} {c : Code} {as_ : AV} {st st' : St} {fr0 fr1 : Tr AV} {v : AV} {e : Ex} (hf : P.funcs[f]? = some fnc) (hb : fnc.body = some c) (hok : fnOk fnc c = true) (hle : len as_ ≤ fnc.ntmps)
    (hargs : argsK as_ 0 .e (fun _ fr => (.ok (.agg .nil) ⟨.e, .h⟩ : Rv)) = .ok (.agg .nil) ⟨.e, .h⟩) (hfr : ∀ t v, Tr.find (pos t) fr0 = some v → t < len as_ ∧ lget t as_ = some v)
    (hcode : CodeOk P c fr0 st e fr1 st') (he : e = .norm ∨ e = .ret) (hres : resultVars P fr1 st' fnc.results.toList (fun l => shut l fun v => .ok v st') = .ok v st') : CallAt P f as_ st v st' := by
  have hnf : NFv (.ok v st') := fun n q => by cases q
  unfold fnOk at hok
  simp only [Bool.and_eq_true] at hok
  obtain ⟨⟨hdst, _⟩, hname⟩ := hok
  refine ⟨hcode.mono, fun φ w args sr hargs hfresh => ?_⟩
  obtain ⟨_, hlen, hget⟩ := hargs.get1 rfl
  have hsz : ((⟨args⟩ : Array Value) ++ Array.replicate (fnc.ntmps - (⟨args⟩ : Array Value).size) Go.undef).size = fnc.ntmps := by
    simp; omega
  have hfr0 : FR φ fr0 ((⟨args⟩ : Array Value) ++ Array.replicate (fnc.ntmps - (⟨args⟩ : Array Value).size) Go.undef) := by
    intro t u hu
    obtain ⟨ht, hu⟩ := hfr t u hu
    obtain ⟨x, e1, e2⟩ := hget t u hu
    refine ⟨x, ?_, e2⟩
    rw [Array.getElem?_append_left (by simp; omega)]
    simpa using e1
  refine callsIn_wide (n := 0).1 (callsIn_of_wp_marks hf hb trivial ?_ rfl)
  refine hcode.wp Fence.wide 0 _ w.heap.size φ _ w (.inl rfl) (.inl rfl) sr hfr0 (by rw [hsz]; exact hdst) hfresh .nil (fun φ' a' w' g1 g2 g3 g4 => ?_)
  obtain ⟨_, Bs, d1, d2, d3⟩ := g3
  have hleave : LeavesInM Fence.wide 0 P fnc a'.tmps (EndR φ st w v st') a'.defers .returning w' := by
    rw [d1]
    refine leaves (φ' := φ') (st' := st') (fun w2 m2 => ?_) Bs w' g4 d2 d3
    obtain ⟨l, vs, q1, q2, q3⟩ := resultVars_cases m2.sr g1 fnc.results.toList hres hnf
    obtain ⟨v', s1, s2⟩ := shut_cases q2 (fun v => .ok v st')
    rw [q1] at s1
    cases s1
    exact ⟨_, run_results q3, φ', s2, m2⟩
  rcases he with rfl | rfl
  · exact hleave
  · exact hleave

/-- a call that was walked through serves in a state that holds what it began with -/
theorem CallAt.wider {f : FuncId} {as_ : AV} {σ σ' st st' : St} {v : AV} (h : CallAt P f as_ σ v σ') (hs : ∀ b k, Tr.find b σ.heap = some k → Tr.find b st.heap = some k) (hd : ∀ b k, Tr.find b σ.heap = some k → b.num < σ.next.num) (hn : st.next.num ≤ σ.next.num)
    (hh : ∀ b k, Tr.find b st'.heap = some k → Tr.find b σ'.heap = some k ∨ (Tr.find b st.heap = some k ∧ Tr.find b σ.heap = none ∧ b.num < st.next.num)) (hd' : ∀ b k, Tr.find b st'.heap = some k → b.num < st'.next.num) (hn' : σ'.next.num ≤ st'.next.num) : CallAt P f as_ st v st' := by
  refine ⟨Nat.le_trans hn (Nat.le_trans h.mono hn'), fun φ w args sr hargs hfr => ?_⟩
  have hc := h.calls φ w args (sr.sub (fun b k e _ => hs b k e) hd) hargs (fun b h1 h2 => hfr b (by omega) (by omega))
  refine Calls.mono hc fun e w' he => ?_
  cases e with
  | panicked _ => exact he.elim
  | outgrown => exact he.elim
  | returned x =>
    obtain ⟨φ', hv, m⟩ := he
    refine ⟨φ', hv, ?_⟩
    cases st' with
    | mk h' n' =>
    have M0 : Moved φ st w φ ⟨st.heap, n'⟩ w :=
      ⟨.refl φ, fun _ h1 h2 => absurd h1 h2, ⟨sr.blk, sr.inj, sr.rng, sr.glob, fun b k q => Nat.lt_of_lt_of_le (sr.dom b k q) (Nat.le_trans hn (Nat.le_trans h.mono hn'))⟩, Nat.le_trans hn (Nat.le_trans h.mono hn'), Nat.le_refl _, rfl, rfl, rfl, fun _ _ _ => rfl, fun b k _ s N h1 h2 h3 _ => ⟨b, k, s, N, h1, h2, h3, fun q => q⟩⟩
    refine M0.part (fun b k e _ => hs b k e) m (fun b k e hb => ?_) hd' hn hn'
    rcases hh b k e with q | ⟨q1, q2, q3⟩
    · exact .inl q
    · refine .inr ⟨q1, fun q => ?_, q2⟩
      have := m.only b q hb
      omega
end
end Ev
end
/- This text defines checks, for the kernel, of one part of a long run of the evaluator, from a written-out state to the next one, and proves what they give. -/
section
namespace Ev
open Go
noncomputable section

/-- trees of values, compared -/
def trEq : Tr AV → Tr AV → Bool :=
  Tr.rec (motive := fun _ => Tr AV → Bool) (fun u => Tr.rec (motive := fun _ => Bool) true (fun _ _ _ _ _ => false) (fun _ _ _ _ => false) u)
    (fun v _ _ ihl ihr u => Tr.rec (motive := fun _ => Bool) false (fun v' l' r' _ _ => avEq v v' (ifB (ihl l') (ihr r') false) false) (fun _ _ _ _ => false) u)
    (fun _ _ ihl ihr u => Tr.rec (motive := fun _ => Bool) false (fun _ _ _ _ _ => false) (fun l' r' _ _ => ifB (ihl l') (ihr r') false) u)
theorem trEq_sound : ∀ a b : Tr AV, trEq a b = true → a = b
  | .e, b, h => by cases b <;> first | rfl | cases h
  | .n v l r, b, h => by
    cases b with
    | n v' l' r' =>
      have h : avEq v v' (ifB (trEq l l') (trEq r r') false) false = true := h
      rcases avEq_cases false v v' (ifB (trEq l l') (trEq r r') false) with q | ⟨h1, q⟩
      · rw [q] at h; cases h
      · rw [q] at h
        cases hl : trEq l l' with
        | false => rw [hl] at h; cases h
        | true =>
          rw [hl] at h
          rw [h1, trEq_sound l l' hl, trEq_sound r r' h]
    | _ => cases h
  | .z l r, b, h => by
    cases b with
    | z l' r' =>
      have h : ifB (trEq l l') (trEq r r') false = true := h
      cases hl : trEq l l' with
      | false => rw [hl] at h; cases h
      | true =>
        rw [hl] at h
        rw [trEq_sound l l' hl, trEq_sound r r' h]
    | _ => cases h
/-- blocks, compared -/
def bkEq : Blk → Blk → Bool :=
  Blk.rec (motive := fun _ => Blk → Bool) (fun _ => false)
    (fun c b => Blk.rec (motive := fun _ => Bool) false (fun c' => avEq c c' true false) (fun _ => false) (fun _ _ _ => false) (fun _ _ => false) (fun _ _ _ _ _ => false) (fun _ _ _ _ _ _ => false) b)
    (fun c b => Blk.rec (motive := fun _ => Bool) false (fun _ => false) (fun c' => avEq c c' true false) (fun _ _ _ => false) (fun _ _ => false) (fun _ _ _ _ _ => false) (fun _ _ _ _ _ _ => false) b)
    (fun d n t b => Blk.rec (motive := fun _ => Bool) false (fun _ => false) (fun _ => false) (fun d' n' t' => avEq d d' (ifB (Nat.beq n n') (trEq t t') false) false) (fun _ _ => false) (fun _ _ _ _ _ => false) (fun _ _ _ _ _ _ => false) b)
    (fun c n b => Blk.rec (motive := fun _ => Bool) false (fun _ => false) (fun _ => false) (fun _ _ _ => false) (fun c' n' => ifB (Nat.beq n n') (avEq c c' true false) false) (fun _ _ _ _ _ => false) (fun _ _ _ _ _ _ => false) b)
    (fun _ _ _ _ _ _ => false) (fun _ _ _ _ _ _ _ => false)
theorem bkEq_sound (a b : Blk) (h : bkEq a b = true) : a = b := by
  cases a with
  | l c =>
    cases b with
    | l c' =>
      have h : avEq c c' true false = true := h
      rcases avEq_cases false c c' true with q | ⟨h1, _⟩
      · rw [q] at h; cases h
      · rw [h1]
    | _ => cases h
  | ro c =>
    cases b with
    | ro c' =>
      have h : avEq c c' true false = true := h
      rcases avEq_cases false c c' true with q | ⟨h1, _⟩
      · rw [q] at h; cases h
      · rw [h1]
    | _ => cases h
  | t d n t =>
    cases b with
    | t d' n' t' =>
      have h : avEq d d' (ifB (Nat.beq n n') (trEq t t') false) false = true := h
      rcases avEq_cases false d d' (ifB (Nat.beq n n') (trEq t t') false) with q | ⟨h1, q⟩
      · rw [q] at h; cases h
      · rw [q] at h
        rcases natEq_cases n n' (trEq t t') false with q | ⟨h2, q⟩
        · rw [q] at h; cases h
        · rw [q] at h
          rw [h1, h2, trEq_sound _ _ h]
    | _ => cases h
  | m c n =>
    cases b with
    | m c' n' =>
      have h : ifB (Nat.beq n n') (avEq c c' true false) false = true := h
      rcases natEq_cases n n' (avEq c c' true false) false with q | ⟨h1, q⟩
      · rw [q] at h; cases h
      · rw [q] at h
        rcases avEq_cases false c c' true with q | ⟨h2, _⟩
        · rw [q] at h; cases h
        · rw [h1, h2]
    | _ => cases h
  | _ => cases h

/-- a written-out frame, a written-out heap -/
def mkF (l : List (Nat × AV)) : Tr AV := List.rec (motive := fun _ => Tr AV) .e (fun p _ ih => Tr.set (pos p.1) p.2 ih fun t => t) l
def mkH (l : List (Pos × Blk)) : Tr Blk := List.rec (motive := fun _ => Tr Blk) .e (fun p _ ih => Tr.set p.1 p.2 ih fun t => t) l
theorem mkF_find : ∀ (l : List (Nat × AV)) (t : Nat) (v : AV), Tr.find (pos t) (mkF l) = some v → (t, v) ∈ l
  | [], t, v, h => by rw [show mkF [] = .e from rfl, Tr.find_e] at h; cases h
  | (t', v') :: l, t, v, h => by
    rw [show mkF ((t', v') :: l) = Tr.set (pos t') v' (mkF l) (fun t => t) from rfl, Tr.set_eq] at h
    by_cases e : t = t'
    · subst e; rw [Tr.find_ins_same] at h; cases h; exact List.mem_cons_self ..
    · rw [Tr.find_ins_ne _ _ _ _ (fun q => e (pos_inj q))] at h
      exact List.mem_cons_of_mem _ (mkF_find l t v h)
theorem mkH_find : ∀ (l : List (Pos × Blk)) (b : Pos) (k : Blk), Tr.find b (mkH l) = some k → (b, k) ∈ l
  | [], b, k, h => by rw [show mkH [] = .e from rfl, Tr.find_e] at h; cases h
  | (b', k') :: l, b, k, h => by
    rw [show mkH ((b', k') :: l) = Tr.set b' k' (mkH l) (fun t => t) from rfl, Tr.set_eq] at h
    by_cases e : b = b'
    · subst e; rw [Tr.find_ins_same] at h; cases h; exact List.mem_cons_self ..
    · rw [Tr.find_ins_ne _ _ _ _ e] at h
      exact List.mem_cons_of_mem _ (mkH_find l b k h)
/-- every member of the written-out frame is in the frame -/
def frChk (fr : Tr AV) (l : List (Nat × AV)) : Bool := List.rec (motive := fun _ => Bool) true (fun p _ ih => Tr.get (pos p.1) fr (fun u => avEq p.2 u ih false) false) l
theorem frChk_sound (fr : Tr AV) : ∀ l : List (Nat × AV), frChk fr l = true → ∀ p ∈ l, Tr.find (pos p.1) fr = some p.2
  | [], _, p, hp => by cases hp
  | q :: l, h, p, hp => by
    have h : Tr.get (pos q.1) fr (fun u => avEq q.2 u (frChk fr l) false) false = true := h
    rcases Tr.get_cases (pos q.1) fr (fun u => avEq q.2 u (frChk fr l) false) false with ⟨u, hu, e⟩ | e
    · rw [e] at h
      rcases avEq_cases false q.2 u (frChk fr l) with e2 | ⟨e1, e2⟩
      · rw [e2] at h; cases h
      · rw [e2] at h
        rcases List.mem_cons.1 hp with rfl | hp
        · rw [hu, e1]
        · exact frChk_sound fr l h p hp
    · rw [e] at h; cases h
/-- every member of the written-out heap is in the heap; its number is below nx -/
def hpChk (h : Tr Blk) (nx : Nat) (l : List (Pos × Blk)) : Bool := List.rec (motive := fun _ => Bool) true (fun p _ ih => ifB (Nat.blt p.1.num nx) (Tr.get p.1 h (fun u => ifB (bkEq p.2 u) ih false) false) false) l
theorem hpChk_sound (hp : Tr Blk) (nx : Nat) : ∀ l : List (Pos × Blk), hpChk hp nx l = true → ∀ p ∈ l, p.1.num < nx ∧ Tr.find p.1 hp = some p.2
  | [], _, p, hp => by cases hp
  | q :: l, h, p, hm => by
    have h : ifB (Nat.blt q.1.num nx) (Tr.get q.1 hp (fun u => ifB (bkEq q.2 u) (hpChk hp nx l) false) false) false = true := h
    rcases ifB_cases (Nat.blt q.1.num nx) (Tr.get q.1 hp (fun u => ifB (bkEq q.2 u) (hpChk hp nx l) false) false) false with ⟨h1, e⟩ | ⟨_, e⟩
    rotate_left
    · rw [e] at h; cases h
    rw [e] at h
    rcases Tr.get_cases q.1 hp (fun u => ifB (bkEq q.2 u) (hpChk hp nx l) false) false with ⟨u, hu, e⟩ | e
    rotate_left
    · rw [e] at h; cases h
    rw [e] at h
    rcases ifB_cases (bkEq q.2 u) (hpChk hp nx l) false with ⟨h2, e⟩ | ⟨_, e⟩
    rotate_left
    · rw [e] at h; cases h
    rw [e] at h
    rcases List.mem_cons.1 hm with rfl | hm
    · exact ⟨Nat.le_of_ble_eq_true h1, by rw [hu, bkEq_sound _ _ h2]⟩
    · exact hpChk_sound hp nx l h p hm
/-- a written-out state -/
def mkS (l : List (Pos × Blk)) (nx : Pos) : St := ⟨mkH l, nx⟩
def exEq : Ex → Ex → Bool := Ex.rec (motive := fun _ => Ex → Bool) (Ex.rec (motive := fun _ => Bool) true false (fun _ => false)) (Ex.rec (motive := fun _ => Bool) false true (fun _ => false)) (fun n => Ex.rec (motive := fun _ => Bool) false false (fun m => Nat.beq n m))
theorem exEq_sound (a b : Ex) (h : exEq a b = true) : a = b := by
  cases a <;> cases b <;> first | rfl | cases h | (congr 1; exact Nat.eq_of_beq_eq_true h)
/-- one part of a run -/
def chunk (r : Res) (e : Ex) (fl : List (Nat × AV)) (hl : List (Pos × Blk)) (nx : Pos) : Bool :=
  Res.rec (motive := fun _ => Bool) (fun _ => false) (fun e' fr st => ifB (exEq e e') (onSt st fun h n => ifB (Nat.ble n.num nx.num) (ifB (frChk fr fl) (hpChk h nx.num hl) false) false) false) r
end
section
variable {P : Program} {call : CallH}
theorem chunk_ok (hc : CallOk P call) (hP : P.underlying 4294967295 = none) (hm : P.follows .mixedOrders = true) {c : Code} {fr : Tr AV} {st : St} {e : Ex} {fl : List (Nat × AV)} {hl : List (Pos × Blk)} {nx : Pos} (h : chunk (codeF c P call fr st) e fl hl nx = true) :
    CodeOk P c fr st e (mkF fl) (mkS hl nx) := by
  cases hr : codeF c P call fr st with
  | fail n => rw [hr] at h; cases h
  | ok e' fr' st' =>
    rw [hr] at h
    cases st' with
    | mk h' n' =>
    replace h : ifB (exEq e e') (ifB (Nat.ble n'.num nx.num) (ifB (frChk fr' fl) (hpChk h' nx.num hl) false) false) false = true := h
    rcases ifB_cases (exEq e e') (ifB (Nat.ble n'.num nx.num) (ifB (frChk fr' fl) (hpChk h' nx.num hl) false) false) false with ⟨h1, q⟩ | ⟨_, q⟩
    rotate_left
    · rw [q] at h; cases h
    rw [q] at h
    rcases ifB_cases (Nat.ble n'.num nx.num) (ifB (frChk fr' fl) (hpChk h' nx.num hl) false) false with ⟨h2, q⟩ | ⟨_, q⟩
    rotate_left
    · rw [q] at h; cases h
    rw [q] at h
    rcases ifB_cases (frChk fr' fl) (hpChk h' nx.num hl) false with ⟨h3, q⟩ | ⟨_, q⟩
    rotate_left
    · rw [q] at h; cases h
    rw [q] at h
    have he := exEq_sound _ _ h1
    subst he
    have hf := frChk_sound fr' fl h3
    have hh := hpChk_sound h' nx.num hl h
    exact (CodeOk.of_run hc hP hm hr).less ⟨fun t v q => hf _ (mkF_find fl t v q), fun b k q => (hh _ (mkH_find hl b k q)).2, fun b k q => (hh _ (mkH_find hl b k q)).1, Nat.le_of_ble_eq_true h2⟩
end
end Ev
end
/- This text reckons where a function leads, in a form that the kernel reckons with little memory, and proves that it is the model's own list. -/
section
set_option linter.unusedVariables false
namespace Ev
open Go
noncomputable section
theorem tab_funcs (P : Program) (f : Nat) : Tr.find (pos f) (fnTab P) = P.funcs[f]? := by
  have := tabOf_find P.funcs.toList f
  rw [show Tr.find (pos f) (fnTab P) = Tr.find (pos f) (tabOf P.funcs.toList) from rfl, this, ← Array.getElem?_toList]
def leadsK (P : Program) (f : Nat) : List Nat := Tr.get (pos f) (fnTab P) (fun fn => P.leadsTo fn) []
theorem leadsK_eq (P : Program) (f : Nat) : leadsK P f = (P.funcs[f]?).elim [] P.leadsTo := by
  unfold leadsK
  rw [Tr.get_eq, tab_funcs]
  cases P.funcs[f]? <;> rfl
/-- the functions that are reached, by a tree of those that were seen -/
def viaF (P : Program) : Nat → List Nat → Tr Unit → List Nat → List Nat :=
  Nat.rec (motive := fun _ => List Nat → Tr Unit → List Nat → List Nat) (fun _ _ seen => seen.reverse) (fun _ ih todo tr seen =>
    List.rec (motive := fun _ => List Nat) seen.reverse (fun f rest _ => frc f fun f => Tr.get (pos f) tr (fun _ => ih rest tr seen) (Tr.set (pos f) () tr fun tr' => ih (leadsK P f ++ rest) tr' (f :: seen))) todo)
theorem viaF_eq (P : Program) : ∀ (n : Nat) (todo : List Nat) (tr : Tr Unit) (seen : List Nat), (∀ f, Tr.find (pos f) tr = some () ↔ f ∈ seen) → viaF P n todo tr seen = P.closureVia n todo seen := by
  intro n
  induction n with
  | zero => intro todo tr seen _; cases todo <;> rfl
  | succ n ih =>
    intro todo tr seen h
    cases todo with
    | nil => rfl
    | cons f rest =>
      have step : viaF P (n + 1) (f :: rest) tr seen = frc f fun f => Tr.get (pos f) tr (fun _ => viaF P n rest tr seen) (Tr.set (pos f) () tr fun tr' => viaF P n (leadsK P f ++ rest) tr' (f :: seen)) := rfl
      rw [step, frc_eq, Tr.get_eq]
      have stepR : P.closureVia (n + 1) (f :: rest) seen = if seen.contains f then P.closureVia n rest seen else P.closureVia n ((P.funcs[f]?).elim [] P.leadsTo ++ rest) (f :: seen) := rfl
      rw [stepR]
      cases hf : Tr.find (pos f) tr with
      | some u =>
        have : f ∈ seen := (h f).1 hf
        rw [if_pos (by simpa using this)]
        exact ih _ _ _ h
      | none =>
        have : ¬ f ∈ seen := fun q => by rw [(h f).2 q] at hf; cases hf
        rw [if_neg (by simpa using this)]
        show Tr.set (pos f) () tr (fun tr' => viaF P n (leadsK P f ++ rest) tr' (f :: seen)) = _
        rw [Tr.set_eq, leadsK_eq]
        refine ih _ _ _ fun g => ?_
        by_cases e : g = f
        · subst e; rw [Tr.find_ins_same]; simp
        · rw [Tr.find_ins_ne _ _ _ _ (fun q => e (pos_inj q)), h g]; simp [e]
theorem closure_of {P : Program} {f N : Nat} {L : List Nat} (hN : (P.funcs.toList.map fun g => (P.leadsTo g).length + 1).sum = N) (hL : viaF P (1 + N) [f] .e [] = L) : P.closure f = L := by
  unfold Program.closure
  rw [hN, ← hL, viaF_eq]
  intro g
  rw [Tr.find_e]
  simp
end
end Ev
end
