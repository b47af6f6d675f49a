/- This text joins parts of the proof: each part says in its own first lines what it states. It has no conditions beyond those. -/
import Derived.Test.YtebdmlmbdfnkfaaGreatDoorBcA
import Derived.Laws.Append
import Derived.Laws.AppendOwn
import Derived.Lib.ConvBytes
import Derived.Laws.BytesString
import Derived.Laws.IdiomRangeMap
import Derived.CallsIn
import Derived.OrdersIn
import Derived.LoopNIn
import Derived.RangeFuncLeaves
set_option linter.unusedVariables false
set_option linter.unusedSimpArgs false
/- This text proves that the evaluator's append stands for the model's. -/
section
namespace Ev
open Go
section ops
variable {P : Program} {o : Oper} {ρ : Operand → Value} {φ : Phi} {st : St} {w : World} {fr : Tr AV} {k : AV → St → Res} {r : Res}

/-- the builtin functions that leave the state as it is -/
def qb : Go.Builtin → Bool
  | .len | .cap | .max | .min => true
  | _ => false
/-- the claim about a builtin function -/
def BSound (P : Program) (b : Go.Builtin) (ts : Array TypeId) (ty : TypeId) (consts : Array Bool) (args : List Value) (φ : Phi) (st : St) (w : World) (k : AV → St → Res) (r : Res) : Prop :=
  ∃ v st', k v st' = r ∧ (qb b = true → st' = st) ∧ (Fresh φ st.next st'.next → ∃ x w' φ', (Go.builtin b ts ty consts ⟨args⟩).run P w = .ok (.value x) w' ∧ VR φ' 0 v [x] ∧ Moved φ st w φ' st' w')

theorem isStrT_t {t : TypeId} (h : isStrT P t = true) : P.underlying t = some .string := by
  unfold isStrT at h
  cases e : und P t with
  | none => rw [e] at h; cases h
  | some d => rw [e] at h; cases d <;> first | exact und_sound e | cases h
theorem ty_some {P : Program} {ts : Array TypeId} {i : Nat} {d : TypeDesc} (h : P.underlying (ts[i]?.getD 4294967295) = some d) (hP : P.underlying 4294967295 = none) : ∃ t, ts[i]? = some t ∧ P.underlying t = some d := by
  cases e : ts[i]? with
  | none => rw [e] at h; rw [show (none : Option TypeId).getD 4294967295 = 4294967295 from rfl, hP] at h; cases h
  | some t => rw [e] at h; exact ⟨t, rfl, h⟩

theorem scells_eq : ∀ (l : List Nat) (kk : AV → Res), ∃ c, scells l kk = kk c ∧ IsL c ∧ len c = l.length ∧ ∀ i, lget i c = l[i]?.map (AV.int .u8)
  | [], kk => ⟨.nil, rfl, .nil, rfl, fun i => by rw [lget_nil]; simp⟩
  | a :: l, kk => by
    obtain ⟨c, h1, h2, h3, h4⟩ := scells_eq l fun c => kk (.cons (.int .u8 a) c)
    refine ⟨.cons (.int .u8 a) c, h1, .cons _ _ h2, by rw [len_cons, h3]; rfl, fun i => ?_⟩
    cases i with
    | zero => rfl
    | succ i => rw [lget_succ_cons, h4 i]; rfl
theorem wrap_u8 (b : UInt8) : IntKind.u8.wrap (b.toNat : Int) = b.toNat := wrap_low .u8 (by show b.toNat < 256; exact b.toNat_lt)
/-- the bytes of a string as cells -/
theorem bytes_sound (l : List Nat) (bs : List UInt8) (h : bs.map UInt8.toNat = l) {c : AV} (h2 : IsL c) (h3 : len c = l.length) (h4 : ∀ i, lget i c = l[i]?.map (AV.int .u8)) : VR φ 2 c (bs.map fun b => Value.int .u8 b.toNat) := by
  refine .of_get2 h2 (by rw [h3, ← h]; simp) fun i v hv => ?_
  rw [h4, ← h] at hv
  simp only [List.getElem?_map, Option.map_map, Option.map_eq_some_iff] at hv
  obtain ⟨b, hb, rfl⟩ := hv
  refine ⟨_, by rw [List.getElem?_map, hb]; rfl, ?_, rfl⟩
  have := VR.int (φ := φ) .u8 b.toNat (by show b.toNat < 256; exact b.toNat_lt)
  rw [wrap_u8] at this
  exact this

theorem cell_heap {w w' : World} (h : w'.heap = w.heap) (a : Addr) : w'.cell? a = w.cell? a := by simp [World.cell?, h]

/-- the length of a slice or a string -/
theorem lenK_cases {x : AV} {v : Value} (hx : VR φ 0 x [v]) {kk : Nat → Res} {d : Res} :
    (∃ n, lenK x kk d = kk n ∧ (∀ w', (Builtin.lenOf v).run P w' = .ok n w') ∧ ((∃ a l C, v = .slice a l C ∧ n = l) ∨ ∃ s, v = .string s ∧ n = s.size)) ∨ lenK x kk d = d := by
  unfold lenK
  rcases onSl_cases x (kk 0) (fun _ _ l _ _ _ => kk l) (onStr x (fun l => frc (slen l) kk) d) with ⟨rfl, he⟩ | ⟨b, o', l, c, z, ex, rfl, he⟩ | he
  · cases hx
    exact .inl ⟨0, he, fun _ => rfl, .inl ⟨none, 0, 0, rfl, rfl⟩⟩
  · cases hx with
    | sl _ _ _ _ _ _ B s N a C hb p1 p2 p3 p4 p5 => exact .inl ⟨l, he, fun _ => rfl, .inl ⟨_, l, C, rfl, rfl⟩⟩
  · rcases onStr_cases x (fun l => frc (slen l) kk) d with ⟨s, rfl, he2⟩ | he2
    · cases hx with
      | str _ b hs =>
        have hsz : slen s = b.size := by rw [slen_eq, ← hs]; simp
        rw [he, he2, frc_eq, hsz]
        exact .inl ⟨b.size, rfl, fun _ => rfl, .inr ⟨b, rfl, rfl⟩⟩
    · exact .inr (he.trans he2)

/-- the first elements of a slice or a string -/
theorem firstK_cases (sr : SR φ st w) {n size : Nat} {x : AV} {v : Value} (hx : VR φ 0 x [v]) (hv : (∃ a l C, v = .slice a l C ∧ n ≤ l) ∨ ∃ s, v = .string s) {kk : AV → Res} {d : Res} :
    (∃ new news, firstK n size x st kk d = kk new ∧ VR φ 2 new news ∧ news.length = n * size ∧ ∀ w', w'.heap = w.heap → (Builtin.firstCells size n v).run P w' = .ok news.toArray w') ∨ firstK n size x st kk d = d := by
  unfold firstK
  rcases ifB_cases (Nat.beq n 0) (kk .nil) (onSl x d (fun b o _ _ _ _ => atB b st (fun c => blkRange o (Nat.mul n size) c kk d) d) (onStr x (fun l => ifB (Nat.beq size 1) (stake n l (fun l => scells l kk) d) d) d)) with ⟨h0, he⟩ | ⟨_, he⟩
  · have h0 : n = 0 := Nat.eq_of_beq_eq_true h0
    subst h0
    refine .inl ⟨.nil, [], he, .nil2, by simp, fun w' _ => ?_⟩
    rcases hv with ⟨a, l, C, rfl, _⟩ | ⟨s, rfl⟩
    · cases a with
      | none => simp [Builtin.firstCells]
      | some a =>
        have := run_loadCells_list (P := P) w' a [] (by simp)
        simpa [Builtin.firstCells] using this
    · simp [Builtin.firstCells]
  · rw [he]
    rcases onSl_cases x d (fun b o _ _ _ _ => atB b st (fun c => blkRange o (Nat.mul n size) c kk d) d) (onStr x (fun l => ifB (Nat.beq size 1) (stake n l (fun l => scells l kk) d) d) d) with ⟨rfl, he⟩ | ⟨b, o', l, c, z, ex, rfl, he⟩ | he
    · exact .inr he
    · rw [he]
      cases hx with
      | sl _ _ _ _ _ _ B s N a C hb p1 p2 p3 p4 p5 =>
      rcases hv with ⟨_, _, _, hq, hnl⟩ | ⟨s, hq⟩
      rotate_left
      · cases hq
      cases hq
      rcases atB_cases b st _ d with ⟨blk, hf, he⟩ | he
      rotate_left
      · exact .inr he
      rw [he]
      rcases blkRange_cases o' (Nat.mul n size) blk kk d with ⟨l', hr, he⟩ | he
      · obtain ⟨cs, e1, e2, e3⟩ := run_of sr hf hb hr
        refine .inl ⟨l', cs, he, e3, e1, fun w' hw => ?_⟩
        show (loadCells ⟨B, a, none⟩ (n * size)).run P w' = _
        have e1' : cs.length = n * size := e1
        rw [← e1']
        refine run_loadCells_list w' _ cs fun j u hj => ?_
        have ha : a = s + o' := by
          rcases p4 with p4 | p4
          · have hj' := (List.getElem?_eq_some_iff.1 hj).1
            have : n = 0 := by omega
            subst this
            omega
          · exact p4
        rw [add_none, ha, cell_heap hw]
        exact e2 j u hj
      · exact .inr he
    · rw [he]
      rcases onStr_cases x _ d with ⟨s, rfl, he⟩ | he
      rotate_left
      · exact .inr he
      rw [he]
      cases hx with
      | str _ b hs =>
      rcases ifB_cases (Nat.beq size 1) (stake n s (fun l => scells l kk) d) d with ⟨h1, he⟩ | ⟨_, he⟩
      rotate_left
      · exact .inr he
      have h1 : size = 1 := Nat.eq_of_beq_eq_true h1
      subst h1
      rw [he]
      rcases stake_cases n s (fun l => scells l kk) d with ⟨hle, he⟩ | he
      rotate_left
      · exact .inr he
      obtain ⟨c, c1, c2, c3, c4⟩ := scells_eq (s.take n) kk
      refine .inl ⟨c, ((b.data.toList.take n).map fun b => Value.int .u8 b.toNat), he.trans c1, bytes_sound _ _ (by rw [← hs, List.map_take]) c2 c3 c4, ?_, fun w' _ => ?_⟩
      · rw [List.length_map, List.length_take, Nat.mul_one]
        rw [← hs, List.length_map] at hle
        omega
      · simp only [Builtin.firstCells, Sem.run_pure]
        congr 1
        apply Array.ext'
        simp

/-- a block is given up, its object goes on under another name -/
theorem Moved.alias {w' : World} (h : SR φ st w) (hf : φ st.next = none) {b : Pos} {kb k' : Blk} {B s N s' N' : Nat} (hb : Tr.find b st.heap = some kb) (hk : wr kb = true) (hφ : φ b = some (B, s, N))
    (hother : ∀ C, C ≠ B → w'.heap[C]? = w.heap[C]?) (hsize : w'.heap.size = w.heap.size) (h1 : w'.os = w.os) (h2 : w'.tape = w.tape) (h3 : w'.output = w.output) (hk' : BR (upd φ st.next (B, s', N')) w' B s' N' k') :
    Moved φ st w (upd φ st.next (B, s', N')) (stNew k' (stPut b .dead st)) w' := by
  have hB := h.rng _ _ _ _ hφ
  have hext : Ext φ (upd φ st.next (B, s', N')) := .upd _ hf
  have hphi : ∀ c C t M, upd φ st.next (B, s', N') c = some (C, t, M) → (c = st.next ∧ C = B) ∨ (c ≠ st.next ∧ φ c = some (C, t, M)) := by
    intro c C t M e
    by_cases hc : c = st.next
    · subst hc; rw [upd_same] at e; cases e; exact .inl ⟨rfl, rfl⟩
    · rw [upd_ne _ _ hc] at e; exact .inr ⟨hc, e⟩
  have hfind : ∀ c x, Tr.find c (stNew k' (stPut b .dead st)).heap = some x → (c = st.next ∧ x = k') ∨ (c ≠ st.next ∧ c = b ∧ x = .dead) ∨ (c ≠ st.next ∧ c ≠ b ∧ Tr.find c st.heap = some x) := by
    intro c x e
    by_cases hc : c = st.next
    · subst hc
      rw [show (stNew k' (stPut b .dead st)).heap = Tr.ins st.next k' (Tr.ins b .dead st.heap) from rfl, Tr.find_ins_same] at e
      cases e; exact .inl ⟨rfl, rfl⟩
    · rw [show (stNew k' (stPut b .dead st)).heap = Tr.ins st.next k' (Tr.ins b .dead st.heap) from rfl, Tr.find_ins_ne _ _ _ _ hc] at e
      by_cases hc2 : c = b
      · subst hc2; rw [Tr.find_ins_same] at e; cases e; exact .inr (.inl ⟨hc, rfl, rfl⟩)
      · rw [Tr.find_ins_ne _ _ _ _ hc2] at e; exact .inr (.inr ⟨hc, hc2, e⟩)
  have nob : ∀ c x t M, c ≠ b → Tr.find c st.heap = some x → x ≠ .dead → φ c ≠ some (B, t, M) := fun c x t M hc e hx q => hc (h.inj b c kb x B s N t M hb hk e hx hφ q).symm
  refine ⟨hext, fun c e1 e2 => ?_, ⟨fun c x C t M e1 e2 => ?_, fun c c' x x' C t1 N1 t2 N2 e1 e2 e3 e4 e5 e6 => ?_, fun c C t M e => ?_, fun g hg => ?_, fun c x e => ?_⟩, ?_, by omega, h1, h2, h3, fun C hC hn => ?_, fun c x C t M e1 e2 e3 hC => ?_⟩
  · have hc : c = st.next := by
      refine Classical.byContradiction fun hc => e2 ?_
      rw [upd_ne _ _ hc]; exact e1
    subst hc
    show _ ∧ _ < st.next.inc.num
    rw [Pos.num_inc]; omega
  · rcases hfind _ _ e1 with ⟨rfl, rfl⟩ | ⟨hc, rfl, rfl⟩ | ⟨hc, hcb, e1'⟩
    · rw [upd_same] at e2; cases e2; exact hk'
    · trivial
    · rcases hphi _ _ _ _ e2 with ⟨hq, _⟩ | ⟨_, e2'⟩
      · exact absurd hq hc
      · by_cases hx : x = .dead
        · subst hx; trivial
        · exact (h.blk c x C t M e1' e2').mono hext (hother C fun q => by subst q; exact nob c x t M hcb e1' hx e2')
  · rcases hfind _ _ e1 with ⟨rfl, rfl⟩ | ⟨hc, rfl, rfl⟩ | ⟨hc, hcb, e1'⟩
    · rcases hfind _ _ e3 with ⟨rfl, _⟩ | ⟨_, _, rfl⟩ | ⟨hc', hcb', e3'⟩
      · rfl
      · exact absurd rfl e4
      · rcases hphi _ _ _ _ e5 with ⟨_, rfl⟩ | ⟨q, _⟩
        · rcases hphi _ _ _ _ e6 with ⟨q, _⟩ | ⟨_, e6'⟩
          · exact absurd q hc'
          · exact absurd e6' (nob c' x' _ _ hcb' e3' e4)
        · exact absurd rfl q
    · cases e2
    · rcases hphi _ _ _ _ e5 with ⟨q, _⟩ | ⟨_, e5'⟩
      · exact absurd q hc
      rcases hfind _ _ e3 with ⟨rfl, _⟩ | ⟨_, _, rfl⟩ | ⟨hc', hcb', e3'⟩
      · rcases hphi _ _ _ _ e6 with ⟨_, rfl⟩ | ⟨q, _⟩
        · exact absurd e5' (nob c x _ _ hcb e1' (wr_live e2))
        · exact absurd rfl q
      · exact absurd rfl e4
      · rcases hphi _ _ _ _ e6 with ⟨q, _⟩ | ⟨_, e6'⟩
        · exact absurd q hc'
        · exact h.inj c c' x x' C t1 N1 t2 N2 e1' e2 e3' e4 e5' e6'
  · rw [hsize]
    rcases hphi _ _ _ _ e with ⟨_, rfl⟩ | ⟨_, e'⟩
    · exact hB
    · exact h.rng _ _ _ _ e'
  · obtain ⟨M, hM⟩ := h.glob g hg
    exact ⟨M, hext _ _ hM⟩
  · show _ < st.next.inc.num
    rw [Pos.num_inc]
    rcases hfind _ _ e with ⟨rfl, _⟩ | ⟨_, rfl, _⟩ | ⟨_, _, e'⟩
    · omega
    · have := h.dom _ _ hb; omega
    · have := h.dom _ _ e'; omega
  · show _ ≤ st.next.inc.num
    rw [Pos.num_inc]; omega
  · exact hother C fun q => by subst q; exact hn b kb s N hb hk hφ
  · rcases hfind _ _ e1 with ⟨rfl, rfl⟩ | ⟨hc, rfl, rfl⟩ | ⟨hc, hcb, e1'⟩
    · rcases hphi _ _ _ _ e3 with ⟨_, rfl⟩ | ⟨q, _⟩
      · exact ⟨b, kb, s, N, hb, wr_live hk, hφ, fun _ => hk⟩
      · exact absurd rfl q
    · exact absurd rfl e2
    · rcases hphi _ _ _ _ e3 with ⟨q, _⟩ | ⟨_, e3'⟩
      · exact absurd q hc
      · exact ⟨c, x, t, M, e1', e2, e3', id⟩

/-- append, where there is room -/
theorem run_app_room {ts : Array TypeId} {ty t tx e : TypeId} {i : TypeInfo} (h0 : ts[0]? = some t) (h1 : ts[1]? = some tx) (ht : P.underlying t = some (.slice e)) (hi : P.info? e = some i) (htx : (∃ e', P.underlying tx = some (.slice e')) ∨ P.underlying tx = some .string)
    {base : Option Addr} {l C n : Nat} {x : Value} {news : List Value} (hlen : (Builtin.lenOf x).run P w = .ok n w) (hroom : l + n ≤ C) (hcells : (Builtin.firstCells i.size n x).run P w = .ok news.toArray w) {w' : World}
    (hst : ∀ a, base = some a → (storeCells (a.add (l * i.size)) news).run P w = .ok () w') (hnone : base = none → w' = w) :
    (Builtin.append_ ts ty #[.slice base l C, x]).run P w = .ok (.slice base (l + n) C) w' := by
  cases base with
  | none =>
    rw [hnone rfl]
    rcases htx with ⟨e', htx⟩ | htx <;> simp [Builtin.append_, h0, h1, run_underlying ht, run_underlying htx, Go.sizeOf, typeInfo, hi, hlen, hroom, hcells]
  | some a =>
    have := hst a rfl
    rcases htx with ⟨e', htx⟩ | htx <;> simp [Builtin.append_, h0, h1, run_underlying ht, run_underlying htx, Go.sizeOf, typeInfo, hi, hlen, hroom, hcells, this]
/-- append, where there is none -/
theorem run_app_grow {ts : Array TypeId} {ty t tx e : TypeId} {i : TypeInfo} {z : Value} (h0 : ts[0]? = some t) (h1 : ts[1]? = some tx) (ht : P.underlying t = some (.slice e)) (hi : P.info? e = some i) (hz : i.zero = some z) (htx : (∃ e', P.underlying tx = some (.slice e')) ∨ P.underlying tx = some .string)
    {base : Option Addr} {l C n : Nat} {x : Value} {olds news : List Value} (hlen : (Builtin.lenOf x).run P w = .ok n w) (hg : C < l + n) (hcells : (Builtin.firstCells i.size n x).run P w.drew = .ok news.toArray w.drew)
    (hold : (Builtin.firstCells i.size l (.slice base l C)).run P w.drew = .ok olds.toArray w.drew) (h63 : ((l + n : Nat) : Int) ≤ 9223372036854775807) (hfit : Builtin.nextslicecap (l + n) C * i.bytes ≤ 281474976710656) :
    (Builtin.append_ ts ty #[.slice base l C, x]).run P w = .ok (.slice (some ⟨w.heap.size, 0, none⟩) (l + n) (grownCap w (l + n) C e))
        (w.drew.alloc (.cells ((olds ++ news).toArray ++ Builtin.zeroCells z.cells (grownCap w (l + n) C e - (l + n))) e)) := by
  have hn : ¬ (l + n ≤ C) := by omega
  have h63' : ¬ (9223372036854775807 < ((l : Int) + (n : Int))) := by omega
  have h48' : ¬ (281474976710656 < Builtin.nextslicecap (l + n) C * i.bytes) := by omega
  rcases htx with ⟨e', htx⟩ | htx <;>
      (simp [Builtin.append_, h0, h1, run_underlying ht, run_underlying htx, Go.sizeOf, typeInfo, zeroValue, hi, hz, hlen, hn, h63', h48', Question.forced, hcells, hold, newRow, grownCap]
       congr 2
       apply Array.ext'
       simp [List.append_assoc])
end ops
end Ev
end
/- This text proves that the evaluator's append and the other builtin functions stand for the model's. -/
section
namespace Ev
open Go
section ops
variable {P : Program} {o : Oper} {ρ : Operand → Value} {φ : Phi} {st : St} {w : World} {fr : Tr AV} {k : AV → St → Res} {r : Res}

theorem append_two {a b l : AV} {xs ys : List Value} (ha : VR φ 2 a xs) (hb : VR φ 2 b ys) (hl : IsL l) (h2 : len l = len a + len b) (h3 : ∀ j, lget j l = if j < len a then lget j a else lget (j - len a) b) : VR φ 2 l (xs ++ ys) := by
  obtain ⟨a1, a2, a3⟩ := ha.get2 rfl
  obtain ⟨b1, b2, b3⟩ := hb.get2 rfl
  refine .of_get2 hl (by rw [h2, a2, b2, List.length_append]) fun i v hv => ?_
  rw [h3 i] at hv
  split at hv
  · next hi =>
    obtain ⟨x, g1, g2, g3⟩ := a3 i v hv
    exact ⟨x, by rw [List.getElem?_append_left (by omega)]; exact g1, g2, g3⟩
  · next hi =>
    obtain ⟨x, g1, g2, g3⟩ := b3 _ v hv
    exact ⟨x, by rw [List.getElem?_append_right (by omega), ← a2]; exact g1, g2, g3⟩

theorem oneCells {l : AV} {cs : List Value} (h : VR φ 2 l cs) : ∀ v ∈ cs, v.oneCell' = true := fun v hv => by
  obtain ⟨hL, hlen, hget⟩ := h.get2 rfl
  obtain ⟨i, hi⟩ := List.getElem?_of_mem hv
  have hi' := (List.getElem?_eq_some_iff.1 hi).1
  obtain ⟨u, hu⟩ := lget_some hL (i := i) (by omega)
  obtain ⟨x, g1, _, g3⟩ := hget i u hu
  rw [hi] at g1; cases g1; exact g3

theorem bytesPer_eq {e : TypeId} {i : TypeInfo} (hi : P.info? e = some i) {n : Nat} (hn : 0 < n) (h : n * (bytesPer P e + 1) ≤ 140737488355328) : n * i.bytes ≤ 140737488355328 ∧ n ≤ 140737488355328 := by
  unfold bytesPer at h
  cases e2 : inf P e with
  | none =>
    rw [e2] at h
    have : 1 * (2 ^ 60 + 1) ≤ n * (2 ^ 60 + 1) := Nat.mul_le_mul_right _ hn
    simp only at h
    omega
  | some j =>
    have := inf_sound e2
    rw [hi] at this
    cases this
    rw [e2, Nat.mul_add] at h
    simp only at h
    omega

theorem zeroOk_sound {e : TypeId} (h : zeroOk P e = true) : ∃ i z, P.info? e = some i ∧ i.zero = some z ∧ z.cells.size = i.size := by
  unfold zeroOk at h
  cases e2 : inf P e with
  | none => rw [e2] at h; cases h
  | some i =>
    rw [e2] at h
    cases e3 : i.zero with
    | none => simp only [e3] at h; cases h
    | some z =>
      simp only [e3] at h
      exact ⟨i, z, inf_sound e2, e3, by simpa using Nat.eq_of_beq_eq_true h⟩

theorem size_grown {cs : List Value} {z : Value} {need size C : Nat} (hc : cs.length = need * size) (hz : z.cells.size = size) (hC : need ≤ C) : (cs.toArray ++ Builtin.zeroCells z.cells (C - need)).size = C * size := by
  rw [Array.size_append, List.size_toArray, hc]
  have : (Builtin.zeroCells z.cells (C - need)).size = (C - need) * size := by unfold Builtin.zeroCells; simp [hz]
  rw [this, ← Nat.add_mul]
  congr 1
  omega
/-- a grown row as a block -/
theorem grown_moved (sr : SR φ st w) (hf : φ st.next = none) {l : AV} {cs : List Value} (hl : VR φ 2 l cs) (rest : Array Value) (e : TypeId) :
    Moved φ st w (upd φ st.next (w.heap.size, 0, (cs.toArray ++ rest).size)) (stNew (.l l) st) (w.drew.alloc (.cells (cs.toArray ++ rest) e)) :=
  alloc_cells sr hf (l := l) (cs := cs.toArray ++ rest) e (fz := (0, 0)) (Nat.le_refl _) rfl rfl rfl rfl (n := cs.length) (by
    rw [Array.toList_append, List.take_append_of_le_length (by simp)]
    simpa using hl)

theorem appendK_ok {by_ size n : Nat} {s new : AV} {sv x : Value} {news : List Value} {ts : Array TypeId} {ty t tx e : TypeId} {i : TypeInfo} {z : Value} {consts : Array Bool}
    (h : appendK by_ size s new n st k = r) (hr : NF r) (sr : SR φ st w) (hs : VR φ 0 s [sv])
    (h0 : ts[0]? = some t) (h1 : ts[1]? = some tx) (ht : P.underlying t = some (.slice e)) (hi : P.info? e = some i) (hz : i.zero = some z) (hzc : z.cells.size = i.size) (hsz : i.size = size) (hby : by_ = bytesPer P e)
    (htx : (∃ e', P.underlying tx = some (.slice e')) ∨ P.underlying tx = some .string) (hlen : ∀ w', (Builtin.lenOf x).run P w' = .ok n w')
    (hnew : VR φ 2 new news) (hnl : news.length = n * size) (hcells : ∀ w', w'.heap = w.heap → (Builtin.firstCells size n x).run P w' = .ok news.toArray w') :
    BSound P .append ts ty consts [sv, x] φ st w k r := by
  subst hsz
  subst hby
  have bi : ∀ (y : Value) (w' : World), (Builtin.append_ ts ty #[sv, x]).run P w = .ok y w' → (Go.builtin .append ts ty consts ⟨[sv, x]⟩).run P w = .ok (.value y) w' := fun y w' hh => by
    have hh' : (Builtin.append_ ts ty ⟨[sv, x]⟩).run P w = .ok y w' := hh
    simp [Go.builtin, hh']
  unfold appendK at h
  rcases onSl_cases s _ _ (bad 176) with ⟨rfl, he⟩ | ⟨b, o', l, c, zz, ex, rfl, he⟩ | he
  · rw [he] at h
    cases hs
    rcases ifB_cases (Nat.beq n 0) (k .nils st) (ifB (Nat.ble (Nat.mul n (Nat.succ (bytesPer P e))) 140737488355328) (newBlk (.l new) st fun b st => k (.sl b 0 n n i.size false) st) (bad 169)) with ⟨hn, he⟩ | ⟨hn, he⟩
    · rw [he] at h
      have hn : n = 0 := Nat.eq_of_beq_eq_true hn
      subst hn
      refine ⟨_, _, h, nofun, fun _ => ⟨_, w, φ, bi _ _ (run_app_room (news := news) h0 h1 ht hi htx (hlen w) (Nat.le_refl _) (hcells w rfl) (by simp) (fun _ => rfl)), .nils, .refl sr⟩⟩
    · rw [he] at h
      have hn : 0 < n := by
        rcases Nat.eq_zero_or_pos n with q | q
        · rw [q] at hn; cases hn
        · exact q
      rcases ifB_cases (Nat.ble (Nat.mul n (Nat.succ (bytesPer P e))) 140737488355328) (newBlk (.l new) st fun b st => k (.sl b 0 n n i.size false) st) (bad 169) with ⟨hb, he⟩ | ⟨_, he⟩
      rotate_left
      · exact hr.no h he
      rw [he, newBlk_eq] at h
      have hb : n * (bytesPer P e + 1) ≤ 140737488355328 := Nat.le_of_ble_eq_true hb
      obtain ⟨hb1, hb2⟩ := bytesPer_eq hi hn hb
      refine ⟨_, _, h, nofun, fun hf => ?_⟩
      have hnx := fresh_next hf
      have hge := grownCap_ge w (0 + n) 0 e
      have hrun := run_app_grow (ty := ty) (base := none) (l := 0) (C := 0) (olds := []) h0 h1 ht hi hz htx (hlen w) (by omega) (hcells w.drew rfl) (by simp [Builtin.firstCells]) (by omega) (growslice_fits (by omega) (by rw [Nat.zero_add]; exact hb1))
      rw [List.nil_append, Nat.zero_add] at hrun
      rw [Nat.zero_add] at hge
      have hsize := size_grown (z := z) (C := grownCap w n 0 e) hnl hzc hge
      refine ⟨_, _, _, bi _ _ hrun, ?_, grown_moved sr hnx hnew _ e⟩
      exact .sl _ _ _ _ _ _ _ _ _ _ _ (upd_same _ _ _) (Nat.le_refl _) hge (by simp) (.inr rfl) (by rw [hsize]; omega)
  · rw [he] at h
    rcases ifB_cases (Nat.beq zz i.size) _ (bad 173) with ⟨hzz, he⟩ | ⟨_, he⟩
    rotate_left
    · exact hr.no h he
    rw [he, frc_eq] at h
    have hzz : zz = i.size := Nat.eq_of_beq_eq_true hzz
    subst hzz
    have hs' := hs
    cases hs with
    | sl _ _ _ _ _ _ B s N a C hb p1 p2 p3 p4 p5 =>
    rcases ifB_cases (Nat.ble (Nat.add l n) c) _ _ with ⟨hroom, he⟩ | ⟨hroom, he⟩
    · rw [he] at h
      have hroom : l + n ≤ c := Nat.le_of_ble_eq_true hroom
      rcases ifB_cases (Nat.beq n 0) _ _ with ⟨hn, he⟩ | ⟨hn, he⟩
      · rw [he] at h
        have hn : n = 0 := Nat.eq_of_beq_eq_true hn
        subst hn
        have hnn : news = [] := List.eq_nil_of_length_eq_zero (by omega)
        subst hnn
        refine ⟨_, _, h, nofun, fun _ => ⟨_, w, φ, bi _ _ (run_app_room (news := []) (n := 0) h0 h1 ht hi htx (hlen w) (by omega) (hcells w rfl) (fun a _ => rfl) (by simp)), ?_, .refl sr⟩⟩
        exact .sl b o' _ c _ ex B s N a C hb (by show l + 0 ≤ c; omega) p2 p3 p4 p5
      · rw [he, frc_eq] at h
        have hn : 0 < n := by
          rcases Nat.eq_zero_or_pos n with q | q
          · rw [q] at hn; cases hn
          · exact q
        rcases atB_cases b st _ (bad 171) with ⟨blk, hf, he⟩ | he
        rotate_left
        · exact hr.no h he
        rw [he] at h
        rcases blkOver_cases (Nat.add o' (Nat.mul l i.size)) new blk (fun cs => putBlk b cs st fun st => k (.sl b o' (Nat.add l n) c i.size ex) st) (bad 170) with ⟨b', e1, e2, e3, e4, e5, he⟩ | he
        rotate_left
        · exact hr.no h he
        rw [he, putBlk_eq] at h
        have ha : a = s + o' := by
          rcases p4 with q | q
          · omega
          · exact q
        subst ha
        have hll := (hnew.get2 rfl).2.1
        obtain ⟨g1, g2⟩ := over_sound (o := o' + l * i.size) P sr hf hb e1 e2 hnew (fun j hj => e4 j (by omega)) (fun j => by rw [e5 j, hll]; rfl)
        refine ⟨_, _, h, nofun, fun _ => ⟨_, _, φ, bi _ _ (run_app_room (news := news) (n := n) h0 h1 ht hi htx (hlen w) (by omega) (hcells w rfl) (fun a hq => ?_) (by simp)), ?_, g2⟩⟩
        · cases hq
          rw [add_none, Nat.add_assoc]
          exact g1
        · exact .sl b o' _ c _ ex B s N (s + o') C hb hroom p2 p3 p4 p5
    · rw [he] at h
      have hroom : ¬ l + n ≤ c := fun q => by rw [show Nat.ble (Nat.add l n) c = true from ble_t q] at hroom; cases hroom
      have hn : 0 < n := by omega
      rcases ifB_cases (Nat.ble (Nat.mul (Nat.add l n) (Nat.succ (bytesPer P e))) 140737488355328) _ (bad 168) with ⟨hbb, he⟩ | ⟨_, he⟩
      rotate_left
      · exact hr.no h he
      rw [he] at h
      have hbb : (l + n) * (bytesPer P e + 1) ≤ 140737488355328 := Nat.le_of_ble_eq_true hbb
      obtain ⟨hb1, hb2⟩ := bytesPer_eq hi (by omega) hbb
      rcases firstK_cases (P := P) sr (n := l) (size := i.size) hs' (.inl ⟨_, l, C, rfl, Nat.le_refl _⟩) (kk := _) (d := bad 175) with ⟨old, olds, he, o1, o2, o3⟩ | he
      rotate_left
      · exact hr.no h he
      rw [he] at h
      rcases appK_cases new (hnew.get2 rfl).1 old _ (bad 174) with ⟨cs, _, c1, c2, c3, he⟩ | he
      rotate_left
      · exact hr.no h he
      rw [he] at h
      have hcs := append_two o1 hnew c1 c2 c3
      have hcl : (olds ++ news).length = (l + n) * i.size := by rw [List.length_append, o2, hnl, Nat.add_mul]
      -- a new row
      have grow : C < l + n → ∀ (stx : St) (hx : φ stx.next = none), (Builtin.append_ ts ty #[.slice (some ⟨B, a, none⟩) l C, x]).run P w = .ok (.slice (some ⟨w.heap.size, 0, none⟩) (l + n) (grownCap w (l + n) C e))
          (w.drew.alloc (.cells ((olds ++ news).toArray ++ Builtin.zeroCells z.cells (grownCap w (l + n) C e - (l + n))) e)) ∧
          VR (upd φ stx.next (w.heap.size, 0, ((olds ++ news).toArray ++ Builtin.zeroCells z.cells (grownCap w (l + n) C e - (l + n))).size)) 0 (.sl stx.next 0 (l + n) (l + n) i.size false) [.slice (some ⟨w.heap.size, 0, none⟩) (l + n) (grownCap w (l + n) C e)] := by
        intro hg stx hx
        have hge := grownCap_ge w (l + n) C e
        have hsize := size_grown (z := z) (C := grownCap w (l + n) C e) hcl hzc hge
        refine ⟨run_app_grow h0 h1 ht hi hz htx (hlen w) hg (hcells w.drew rfl) (o3 w.drew rfl) (by omega) (growslice_fits hg hb1), ?_⟩
        exact .sl _ _ _ _ _ _ _ _ _ _ _ (upd_same _ _ _) (Nat.le_refl _) hge (by simp) (.inr rfl) (by rw [hsize]; omega)
      rcases ifB_cases ex _ _ with ⟨hex, he⟩ | ⟨hex, he⟩
      · rw [he, newBlk_eq] at h
        have hC := p3 hex
        subst hC
        refine ⟨_, _, h, nofun, fun hf => ?_⟩
        have hnx := fresh_next hf
        obtain ⟨q1, q2⟩ := grow (by omega) st hnx
        exact ⟨_, _, _, bi _ _ q1, q2, grown_moved sr hnx hcs _ e⟩
      · rw [he] at h
        rcases atB_cases b st _ (bad 172) with ⟨blk, hf, he⟩ | he
        rotate_left
        · exact hr.no h he
        rw [he] at h
        have hown : bown blk = true ∧ isOwn blk (putBlk b .dead st fun st => newBlk (.l cs) st fun b st => k (.sl b 0 (Nat.add l n) (Nat.add l n) i.size false) st) (bad 174) = (putBlk b .dead st fun st => newBlk (.l cs) st fun b st => k (.sl b 0 (Nat.add l n) (Nat.add l n) i.size false) st) := by
          cases blk <;> first
            | exact ⟨rfl, rfl⟩
            | exact hr.no h rfl
        rw [hown.2, putBlk_eq, newBlk_eq] at h
        refine ⟨_, _, h, nofun, fun hfr => ?_⟩
        have hnx : φ st.next = none := fresh_next (st := stPut b .dead st) hfr
        by_cases hg : C < l + n
        · have m1 : Moved φ st w φ (stPut b .dead st) w := Moved.write sr hf (wr_of_own hown.1) hb (fun _ _ => rfl) rfl rfl rfl rfl trivial
          obtain ⟨q1, q2⟩ := grow hg (stPut b .dead st) hnx
          exact ⟨_, _, _, bi _ _ q1, q2, m1.trans (grown_moved m1.sr hnx hcs _ e)⟩
        · -- the old row has room after all
          have hC : 0 < C := by omega
          have ha : a = s + o' := by
            rcases p4 with q | q
            · omega
            · exact q
          subst ha
          obtain ⟨ds, e', fz, d1, d2, d3, d4⟩ := (BR_own hown.1).1 (sr.blk b blk B s N hf hb)
          have d3 := d3 rfl
          have hle : (l + n) * i.size ≤ C * i.size := Nat.mul_le_mul_right _ (by omega)
          have hmul : (l + n) * i.size = l * i.size + n * i.size := Nat.add_mul ..
          have hfit : s + o' + l * i.size + news.length ≤ ds.size := by rw [hnl]; omega
          have hst := run_storeCells_cells (P := P) B (s + o' + l * i.size) news 0 w (fun j hj => by
              have : s + o' + l * i.size + j < ds.size := by omega
              simp [World.cell?, d1, this]) (fun j hj => by
              have := d3 (s + o' + l * i.size + 0 + j)
              simp only [World.frozen?, d1, Bool.and_eq_false_iff, decide_eq_false_iff_not]
              by_cases q : fz.1 ≤ s + o' + l * i.size + 0 + j
              · exact .inr fun q' => this ⟨q, q'⟩
              · exact .inl q) (oneCells hnew)
          rw [Nat.add_zero] at hst
          obtain ⟨cs', g1, g2, g3, g4, g5, g6, g7, g8⟩ := setCells_spec B news (s + o' + l * i.size) w ds e' fz d1 hfit
          have hold : ∀ j u, olds[j]? = some u → ds[s + o' + j]? = some u := by
            intro j u hj
            have hj' := (List.getElem?_eq_some_iff.1 hj).1
            have hq : (loadCells ⟨B, s + o', none⟩ (l * i.size)).run P w = .ok olds.toArray w := o3 w rfl
            have hq2 := run_loadCells_list (P := P) w ⟨B, s + o', none⟩ ((List.range (l * i.size)).map fun j => ds.getD (s + o' + j) undef) (fun j u hj => by
              rw [add_none]
              simp only [List.getElem?_map, Option.map_eq_some_iff] at hj
              obtain ⟨j', hj1, rfl⟩ := hj
              have hlt := (List.getElem?_eq_some_iff.1 hj1).1
              rw [List.length_range] at hlt
              rw [List.getElem?_range hlt] at hj1
              cases hj1
              have : s + o' + j < ds.size := by omega
              simp [World.cell?, d1, this])
            rw [List.length_map, List.length_range, hq] at hq2
            have hq3 : olds = (List.range (l * i.size)).map fun j => ds.getD (s + o' + j) undef := by simpa using hq2
            rw [hq3] at hj
            have hjl : j < l * i.size := by omega
            rw [List.getElem?_map, List.getElem?_range hjl] at hj
            have : s + o' + j < ds.size := by omega
            simp [this] at hj
            rw [← hj]
            simp [this]
          refine ⟨_, _, _, bi _ _ (run_app_room (news := news) (n := n) h0 h1 ht hi htx (hlen w) (by omega) (hcells w rfl) (fun a hq => by cases hq; rw [add_none]; exact hst) (by simp)), ?_,
            Moved.alias (N' := N) (s' := s + o') sr hnx hf (wr_of_own hown.1) hb g4 g5 g6 g7 g8 ((BR_own rfl).2 ⟨cs', e', fz, g1, by omega, fun _ => d3, fun j v hv => ?_⟩)⟩
          · refine .sl _ 0 _ _ _ false B (s + o') N (s + o') C (upd_same _ _ _) (Nat.le_refl _) (by show l + n ≤ C; omega) (by simp) (.inr rfl) p5
          · have hv : lget j cs = some v := hv
            obtain ⟨y, y1, y2, y3⟩ := (hcs.get2 rfl).2.2 j v hv
            refine ⟨y, ?_, y2.mono (.upd _ hnx), y3⟩
            rw [g3]
            have hjl := (List.getElem?_eq_some_iff.1 y1).1
            rw [List.length_append, hnl, o2] at hjl
            by_cases hj : j < l * i.size
            · rw [if_neg (by omega)]
              rw [List.getElem?_append_left (by omega)] at y1
              exact hold j y y1
            · rw [if_pos (by omega), show s + o' + j - (s + o' + l * i.size) = j - l * i.size by omega]
              rw [List.getElem?_append_right (by omega), o2] at y1
              exact y1
  · exact hr.no h he
end ops
end Ev
end
/- This text proves that the evaluator's builtin functions stand for the model's. -/
section
namespace Ev
open Go
section ops
variable {P : Program} {o : Oper} {ρ : Operand → Value} {φ : Phi} {st : St} {w : World} {fr : Tr AV} {k : AV → St → Res} {r : Res} {ts : Array TypeId} {ty : TypeId} {consts : Array Bool} {as_ : AV} {args : List Value}

theorem arg2_cases {R : Type} {as_ : AV} (ha : VR φ 1 as_ args) (kk : AV → AV → R) (d : R) : (∃ a b x y, args = [x, y] ∧ VR φ 0 a [x] ∧ VR φ 0 b [y] ∧ arg2 as_ kk d = kk a b) ∨ arg2 as_ kk d = d := by
  unfold arg2
  rcases onCons_cases as_ (fun a l => onCons l (fun b l => onList l (kk a b) (fun _ _ => d) d) d) d with ⟨a, l, rfl, he⟩ | he
  rotate_left
  · exact .inr he
  rw [he]
  rcases onCons_cases l (fun b l => onList l (kk a b) (fun _ _ => d) d) d with ⟨b, l', rfl, he⟩ | he
  rotate_left
  · exact .inr he
  rw [he]
  rcases onList_cases l' (kk a b) (fun _ _ => d) d with ⟨rfl, he⟩ | ⟨_, _, _, he⟩ | he
  · cases ha with
    | cons1 _ _ x xs h1 h2 => cases h2 with
      | cons1 _ _ y ys h3 h4 => cases h4; exact .inl ⟨a, b, x, y, rfl, h1, h3, he⟩
  · exact .inr he
  · exact .inr he
theorem arg1_cases {R : Type} {as_ : AV} (ha : VR φ 1 as_ args) (kk : AV → R) (d : R) : (∃ a x, args = [x] ∧ VR φ 0 a [x] ∧ arg1 as_ kk d = kk a) ∨ arg1 as_ kk d = d := by
  unfold arg1
  rcases onCons_cases as_ (fun a l => onList l (kk a) (fun _ _ => d) d) d with ⟨a, l, rfl, he⟩ | he
  rotate_left
  · exact .inr he
  rw [he]
  rcases onList_cases l (kk a) (fun _ _ => d) d with ⟨rfl, he⟩ | ⟨_, _, _, he⟩ | he
  · cases ha with
    | cons1 _ _ x xs h1 h2 => cases h2; exact .inl ⟨a, x, rfl, h1, he⟩
  · exact .inr he
  · exact .inr he

theorem lenV_cases {n : Nat} {kk : AV → Res} : (VR φ 0 (.int .i64 n) [goInt n] ∧ lenV n kk = kk (.int .i64 n)) ∨ lenV n kk = bad 149 := by
  unfold lenV
  rcases ifB_cases (Nat.blt n 9223372036854775808) (kint .i64 n kk) (bad 149) with ⟨h, he⟩ | ⟨_, he⟩
  · have h : n < 9223372036854775808 := Nat.le_of_ble_eq_true h
    rw [he, kint_eq]
    refine .inl ⟨?_, rfl⟩
    have := VR.int (φ := φ) .i64 n (by show n < 18446744073709551616; omega)
    rw [wrap_low .i64 (show n < khalf .i64 from h)] at this
    exact this
  · exact .inr he

theorem BSound.same {b : Go.Builtin} {v : AV} {x : Value} (sr : SR φ st w) (h : k v st = r) (hr : (Go.builtin b ts ty consts ⟨args⟩).run P w = .ok (.value x) w) (hv : VR φ 0 v [x]) : BSound P b ts ty consts args φ st w k r :=
  ⟨v, st, h, fun _ => rfl, fun _ => ⟨x, w, φ, hr, hv, .refl sr⟩⟩

theorem biAppend_ok (h : biAppend P ts as_ st k = r) (hr : NF r) (hP : P.underlying 4294967295 = none) (sr : SR φ st w) (ha : VR φ 1 as_ args) : BSound P .append ts ty consts args φ st w k r := by
  unfold biAppend at h
  rcases arg2_cases ha _ (bad 190) with ⟨a, b, x, y, hargs, h1, h2, he⟩ | he
  rotate_left
  · exact hr.no h he
  rw [he] at h
  subst hargs
  rcases ikOn_cases (ik P (ty0 ts)) (fun _ _ => bad 177) _ (bad 188) (bad 189) with ⟨_, _, _, he⟩ | ⟨size, hk, he⟩ | ⟨_, he⟩ | he
  · exact hr.no h he
  rotate_left
  · exact hr.no h he
  · exact hr.no h he
  rw [he] at h
  rcases ifB_cases (appOk P ts) _ (bad 178) with ⟨hap, he⟩ | ⟨_, he⟩
  rotate_left
  · exact hr.no h he
  rw [he] at h
  obtain ⟨e, i, g1, g2, g3, g4⟩ := ik_sl hk
  unfold appOk at hap
  simp only [Bool.and_eq_true, Bool.or_eq_true] at hap
  obtain ⟨⟨_, q2⟩, q3⟩ := hap
  rw [g4] at q3 h
  obtain ⟨i', z, z1, z2, z3⟩ := zeroOk_sound q3
  rw [g2] at z1
  cases z1
  obtain ⟨t, ht0, ht1⟩ := ty_some g1 hP
  have hq : ∃ tx, ts[1]? = some tx ∧ ((∃ e', P.underlying tx = some (.slice e')) ∨ P.underlying tx = some .string) := by
    rcases q2 with q2 | q2
    · obtain ⟨e', he'⟩ := isSlT_t q2
      obtain ⟨tx, x1, x2⟩ := ty_some he' hP
      exact ⟨tx, x1, .inl ⟨e', x2⟩⟩
    · obtain ⟨tx, x1, x2⟩ := ty_some (isStrT_t q2) hP
      exact ⟨tx, x1, .inr x2⟩
  obtain ⟨tx, htx0, htx1⟩ := hq
  rcases lenK_cases (P := P) h2 (d := bad 185) with ⟨n, he, hlen, hform⟩ | he
  rotate_left
  · exact hr.no h he
  rw [he] at h
  rcases firstK_cases (P := P) sr (n := n) (size := size) h2 (by
      rcases hform with ⟨a, l, C, q, q'⟩ | ⟨s, q, _⟩
      · exact .inl ⟨a, l, C, q, by omega⟩
      · exact .inr ⟨s, q⟩) (kk := _) (d := bad 184) with ⟨new, news, he, o1, o2, o3⟩ | he
  rotate_left
  · exact hr.no h he
  rw [he] at h
  exact appendK_ok h hr sr h1 ht0 htx0 ht1 g2 z2 z3 g3 rfl htx1 hlen o1 o2 o3

theorem biLen_ok (h : biLen P ts as_ st k = r) (hr : NF r) (hP : P.underlying 4294967295 = none) (sr : SR φ st w) (ha : VR φ 1 as_ args) : BSound P .len ts ty consts args φ st w k r := by
  unfold biLen at h
  rcases arg1_cases ha _ (bad 154) with ⟨a, x, hargs, h1, he⟩ | he
  rotate_left
  · exact hr.no h he
  rw [he] at h
  subst hargs
  have bi : ∀ (y : Value) (w' : World), (Builtin.len_ ts ty #[x]).run P w = .ok y w' → (Go.builtin .len ts ty consts ⟨[x]⟩).run P w = .ok (.value y) w' := fun y w' hh => by
    have hh' : (Builtin.len_ ts ty ⟨[x]⟩).run P w = .ok y w' := hh
    simp [Go.builtin, hh']
  rcases ikOn_cases (ik P (ty0 ts)) _ _ _ (bad 153) with ⟨n, size, hk, he⟩ | ⟨size, hk, he⟩ | ⟨hk, he⟩ | he
  · rw [he] at h
    obtain ⟨e, i, g1, g2, g3, g4⟩ := ik_arr hk
    obtain ⟨t, ht0, ht1⟩ := ty_some g1 hP
    rcases lenV_cases (φ := φ) (n := n) (kk := fun v => k v st) with ⟨hv, he⟩ | he
    · rw [he] at h
      exact .same sr h (bi _ _ (by simp [Builtin.len_, ht0, run_underlying ht1])) hv
    · exact hr.no h he
  · rw [he] at h
    obtain ⟨e, i, g1, g2, g3, g4⟩ := ik_sl hk
    obtain ⟨t, ht0, ht1⟩ := ty_some g1 hP
    rcases onSl_cases a (k (.int .i64 0) st) (fun _ _ l _ _ _ => lenV l fun v => k v st) (bad 151) with ⟨rfl, he⟩ | ⟨b, o', l, c, z, ex, rfl, he⟩ | he
    · rw [he] at h
      cases h1
      refine .same sr h (bi _ _ (by simp [Builtin.len_, ht0, run_underlying ht1]; rfl)) ?_
      have := VR.int (φ := φ) .i64 0 (by decide)
      exact this
    · rw [he] at h
      rcases lenV_cases (φ := φ) (n := l) (kk := fun v => k v st) with ⟨hv, he⟩ | he
      · rw [he] at h
        cases h1
        exact .same sr h (bi _ _ (by simp [Builtin.len_, ht0, run_underlying ht1])) hv
      · exact hr.no h he
    · exact hr.no h he
  · rw [he] at h
    obtain ⟨t, ht0, ht1⟩ := ty_some (ik_str hk) hP
    rcases onStr_cases a (fun l => lenV (slen l) fun v => k v st) (bad 152) with ⟨l, rfl, he⟩ | he
    · rw [he] at h
      rcases lenV_cases (φ := φ) (n := slen l) (kk := fun v => k v st) with ⟨hv, he⟩ | he
      · rw [he] at h
        cases h1 with
        | str _ s hs =>
        have hsz : slen l = s.size := by rw [slen_eq, ← hs]; simp
        rw [hsz] at hv h
        exact .same sr h (bi _ _ (by simp [Builtin.len_, ht0, run_underlying ht1])) hv
      · exact hr.no h he
    · exact hr.no h he
  · exact hr.no h he

theorem biCap_ok (h : biCap P ts as_ st k = r) (hr : NF r) (hP : P.underlying 4294967295 = none) (sr : SR φ st w) (ha : VR φ 1 as_ args) : BSound P .cap ts ty consts args φ st w k r := by
  unfold biCap at h
  rcases arg1_cases ha _ (bad 160) with ⟨a, x, hargs, h1, he⟩ | he
  rotate_left
  · exact hr.no h he
  rw [he] at h
  subst hargs
  have bi : ∀ (y : Value) (w' : World), (Builtin.cap_ ts ty #[x]).run P w = .ok y w' → (Go.builtin .cap ts ty consts ⟨[x]⟩).run P w = .ok (.value y) w' := fun y w' hh => by
    have hh' : (Builtin.cap_ ts ty ⟨[x]⟩).run P w = .ok y w' := hh
    simp [Go.builtin, hh']
  rcases ikOn_cases (ik P (ty0 ts)) (fun _ _ => bad 155) _ (bad 158) (bad 159) with ⟨_, _, _, he⟩ | ⟨size, hk, he⟩ | ⟨hk, he⟩ | he
  · exact hr.no h he
  rotate_left
  · exact hr.no h he
  · exact hr.no h he
  rw [he] at h
  obtain ⟨e, i, g1, g2, g3, g4⟩ := ik_sl hk
  obtain ⟨t, ht0, ht1⟩ := ty_some g1 hP
  rcases onSl_cases a (k (.int .i64 0) st) (fun _ _ _ c _ ex => ifB ex (lenV c fun v => k v st) (bad 156)) (bad 157) with ⟨rfl, he⟩ | ⟨b, o', l, c, z, ex, rfl, he⟩ | he
  · rw [he] at h
    cases h1
    refine .same sr h (bi _ _ (by simp [Builtin.cap_, ht0, run_underlying ht1]; rfl)) ?_
    have := VR.int (φ := φ) .i64 0 (by decide)
    exact this
  · rw [he] at h
    rcases ifB_cases ex (lenV c fun v => k v st) (bad 156) with ⟨rfl, he⟩ | ⟨_, he⟩
    rotate_left
    · exact hr.no h he
    rw [he] at h
    rcases lenV_cases (φ := φ) (n := c) (kk := fun v => k v st) with ⟨hv, he⟩ | he
    · rw [he] at h
      cases h1 with
      | sl _ _ _ _ _ _ B s N a C hb p1 p2 p3 p4 p5 =>
      have := p3 rfl
      subst this
      exact .same sr h (bi _ _ (by simp [Builtin.cap_, ht0, run_underlying ht1])) hv
    · exact hr.no h he
  · exact hr.no h he

theorem int_pair {a b : AV} {x y : Value} (h1 : VR φ 0 a [x]) (h2 : VR φ 0 b [y]) (kk : IntKind → Nat → Nat → Res) (d1 d2 d3 : Res) :
    (∃ kd, ∃ m n : Nat, x = .int kd (kd.wrap (m : Int)) ∧ y = .int kd (kd.wrap (n : Int)) ∧ m < kmod kd ∧ n < kmod kd ∧ onInt a (fun ka x => onInt b (fun kb y => kindIs ka kb (kk ka x y) d1) d2) d3 = kk kd m n) ∨
      onInt a (fun ka x => onInt b (fun kb y => kindIs ka kb (kk ka x y) d1) d2) d3 = d1 ∨ onInt a (fun ka x => onInt b (fun kb y => kindIs ka kb (kk ka x y) d1) d2) d3 = d2 ∨ onInt a (fun ka x => onInt b (fun kb y => kindIs ka kb (kk ka x y) d1) d2) d3 = d3 := by
  rcases onInt_cases a (fun ka x => onInt b (fun kb y => kindIs ka kb (kk ka x y) d1) d2) d3 with ⟨ka, m, rfl, he⟩ | he
  rotate_left
  · exact .inr (.inr (.inr he))
  rw [he]
  rcases onInt_cases b (fun kb y => kindIs ka kb (kk ka m y) d1) d2 with ⟨kb, n, rfl, he⟩ | he
  rotate_left
  · exact .inr (.inr (.inl he))
  rw [he]
  rcases kindIs_cases ka kb (kk ka m n) d1 with ⟨rfl, he⟩ | he
  · cases h1 with
    | int _ _ hm => cases h2 with
      | int _ _ hn => exact .inl ⟨ka, m, n, rfl, rfl, hm, hn, he⟩
  · exact .inr (.inl he)

theorem biMax_ok (h : biMax P ts as_ st k = r) (hr : NF r) (sr : SR φ st w) (ha : VR φ 1 as_ args) : BSound P .max ts ty consts args φ st w k r := by
  unfold biMax at h
  rcases arg2_cases ha _ (bad 164) with ⟨a, b, x, y, hargs, h1, h2, he⟩ | he
  rotate_left
  · exact hr.no h he
  rw [he] at h
  subst hargs
  rcases int_pair h1 h2 (fun ka x y => ifB (ltK ka x y) (k (.int ka y) st) (k (.int ka x) st)) (bad 161) (bad 162) (bad 163) with ⟨kd, m, n, rfl, rfl, hm, hn, he⟩ | he | he | he
  · rw [he] at h
    have bi := run_max_int2 (P := P) w ts ty kd kd (kd.wrap (m : Int)) (kd.wrap (n : Int))
    rcases ifB_cases (ltK kd m n) (k (.int kd n) st) (k (.int kd m) st) with ⟨hl, he⟩ | ⟨hl, he⟩
    · rw [he] at h
      rw [if_pos ((ltK_iff kd hm hn).1 hl)] at bi
      exact .same sr h (by simp [Go.builtin, bi]) (.int kd n hn)
    · rw [he] at h
      rw [if_neg (fun q => by rw [(ltK_iff kd hm hn).2 q] at hl; cases hl)] at bi
      exact .same sr h (by simp [Go.builtin, bi]) (.int kd m hm)
  · exact hr.no h he
  · exact hr.no h he
  · exact hr.no h he
theorem biMin_ok (h : biMin P ts as_ st k = r) (hr : NF r) (sr : SR φ st w) (ha : VR φ 1 as_ args) : BSound P .min ts ty consts args φ st w k r := by
  unfold biMin at h
  rcases arg2_cases ha _ (bad 168) with ⟨a, b, x, y, hargs, h1, h2, he⟩ | he
  rotate_left
  · exact hr.no h he
  rw [he] at h
  subst hargs
  rcases int_pair h1 h2 (fun ka x y => ifB (ltK ka y x) (k (.int ka y) st) (k (.int ka x) st)) (bad 165) (bad 166) (bad 167) with ⟨kd, m, n, rfl, rfl, hm, hn, he⟩ | he | he | he
  · rw [he] at h
    have bi := run_min_int2 (P := P) w ts ty kd kd (kd.wrap (m : Int)) (kd.wrap (n : Int))
    rcases ifB_cases (ltK kd n m) (k (.int kd n) st) (k (.int kd m) st) with ⟨hl, he⟩ | ⟨hl, he⟩
    · rw [he] at h
      rw [if_pos ((ltK_iff kd hn hm).1 hl)] at bi
      exact .same sr h (by simp [Go.builtin, bi]) (.int kd n hn)
    · rw [he] at h
      rw [if_neg (fun q => by rw [(ltK_iff kd hn hm).2 q] at hl; cases hl)] at bi
      exact .same sr h (by simp [Go.builtin, bi]) (.int kd m hm)
  · exact hr.no h he
  · exact hr.no h he
  · exact hr.no h he

theorem biCopy_ok (h : biCopy P ts as_ st k = r) (hr : NF r) (hP : P.underlying 4294967295 = none) (sr : SR φ st w) (ha : VR φ 1 as_ args) : BSound P .copy ts ty consts args φ st w k r := by
  unfold biCopy at h
  rcases arg2_cases ha _ (bad 201) with ⟨a, b, x, y, hargs, h1, h2, he⟩ | he
  rotate_left
  · exact hr.no h he
  rw [he] at h
  subst hargs
  have bi : ∀ (u : Value) (w' : World), (Builtin.copy_ ts ty #[x, y]).run P w = .ok u w' → (Go.builtin .copy ts ty consts ⟨[x, y]⟩).run P w = .ok (.value u) w' := fun u w' hh => by
    have hh' : (Builtin.copy_ ts ty ⟨[x, y]⟩).run P w = .ok u w' := hh
    simp [Go.builtin, hh']
  rcases ikOn_cases (ik P (ty0 ts)) (fun _ _ => bad 191) _ (bad 199) (bad 200) with ⟨_, _, _, he⟩ | ⟨size, hk, he⟩ | ⟨_, he⟩ | he
  · exact hr.no h he
  rotate_left
  · exact hr.no h he
  · exact hr.no h he
  rw [he] at h
  obtain ⟨e, i, g1, g2, g3, g4⟩ := ik_sl hk
  obtain ⟨t, ht0, ht1⟩ := ty_some g1 hP
  have hS : (∃ ld, (∃ base C, x = .slice base ld C) ∧ ∀ (kk : Nat → Res) (d : Res), lenS a kk d = kk ld) ∨ ∀ (kk : Nat → Res) (d : Res), lenS a kk d = d := by
    rcases onSl_cases a True (fun _ _ _ _ _ _ => True) True with ⟨rfl, _⟩ | ⟨b', o', l, c, z, ex, rfl, _⟩ | _
    · cases h1
      exact .inl ⟨0, ⟨_, _, rfl⟩, fun _ _ => rfl⟩
    · cases h1
      exact .inl ⟨l, ⟨_, _, rfl⟩, fun _ _ => rfl⟩
    · cases a <;> first
        | exact .inr fun _ _ => rfl
        | (cases h1; exact .inl ⟨_, ⟨_, _, rfl⟩, fun _ _ => rfl⟩)
  rcases hS with ⟨ld, hfd, he⟩ | he
  rotate_left
  · exact hr.no h (he _ _)
  rw [he] at h
  rcases lenK_cases (P := P) h2 (d := bad 197) with ⟨lx, he, hlx, hfx⟩ | he
  rotate_left
  · exact hr.no h he
  rw [he, frc_eq] at h
  have hmin : ifB (Nat.ble lx ld) lx ld = Nat.min lx ld := by
    show _ = min lx ld
    by_cases q : lx ≤ ld
    · rw [ble_t q, Nat.min_eq_left q]; rfl
    · rw [ble_f q, Nat.min_eq_right (by omega)]; rfl
  rw [hmin] at h
  generalize hn : Nat.min lx ld = n at h
  have hnl : n ≤ lx := by rw [← hn]; exact Nat.min_le_left _ _
  have hsrc : (∃ a l C, y = .slice a l C ∧ n ≤ l) ∨ ∃ s, y = .string s := by
    rcases hfx with ⟨a, l, C, q, q'⟩ | ⟨s, q, _⟩
    · exact .inl ⟨a, l, C, q, by omega⟩
    · exact .inr ⟨s, q⟩
  obtain ⟨base, C, rfl⟩ := hfd
  -- the model's copy
  have run : ∀ (cs : List Value) (w' : World), (Builtin.firstCells size n y).run P w = .ok cs.toArray w → (∀ a, base = some a → (storeCells a cs).run P w = .ok () w') → (base = none → w' = w) →
      (Builtin.copy_ ts ty #[.slice base ld C, y]).run P w = .ok (goInt n) w' := by
    intro cs w' hc hst hno
    cases base with
    | none => rw [hno rfl]; simp [Builtin.copy_, ht0, run_underlying ht1, Go.sizeOf, typeInfo, g2, g3, hlx, hn, hc]
    | some a => simp [Builtin.copy_, ht0, run_underlying ht1, Go.sizeOf, typeInfo, g2, g3, hlx, hn, hc, hst a rfl]
  rcases ifB_cases (Nat.beq n 0) (k (.int .i64 0) st) (firstK n size b st (fun new => onSl a (bad 192) (fun b o _ _ z _ => atB b st (fun cs => blkOver o new cs (fun cs => putBlk b cs st fun st => lenV n fun v => k v st) (ifB (Nat.beq z size) (blkExt o new cs (fun cs => putBlk b cs st fun st => lenV n fun v => k v st) (bad 193)) (bad 193))) (bad 194)) (bad 195)) (bad 196)) with ⟨h0, he⟩ | ⟨h0, he⟩
  · rw [he] at h
    have h0 : n = 0 := Nat.eq_of_beq_eq_true h0
    subst h0
    rcases firstK_cases (P := P) sr (n := 0) (size := size) h2 hsrc (kk := fun _ => .fail 1) (d := .fail 2) with ⟨new, news, _, o1, o2, o3⟩ | he
    · have hnn : news = [] := List.eq_nil_of_length_eq_zero (by omega)
      subst hnn
      refine .same sr h (bi _ _ (run [] w (o3 w rfl) (fun a _ => rfl) (fun _ => rfl))) ?_
      have := VR.int (φ := φ) .i64 0 (by decide)
      exact this
    · have he : Res.fail 1 = Res.fail 2 := he
      cases he
  · rw [he] at h
    have h0 : 0 < n := by
      rcases Nat.eq_zero_or_pos n with q | q
      · rw [q] at h0; cases h0
      · exact q
    have hnd : n ≤ ld := by rw [← hn]; exact Nat.min_le_right _ _
    rcases firstK_cases (P := P) sr (n := n) (size := size) h2 hsrc (kk := fun new => onSl a (bad 192) (fun b o _ _ z _ => atB b st (fun cs => blkOver o new cs (fun cs => putBlk b cs st fun st => lenV n fun v => k v st) (ifB (Nat.beq z size) (blkExt o new cs (fun cs => putBlk b cs st fun st => lenV n fun v => k v st) (bad 193)) (bad 193))) (bad 194)) (bad 195)) (d := bad 196) with ⟨new, news, he, o1, o2, o3⟩ | he
    rotate_left
    · exact hr.no h he
    rw [he] at h
    rcases onSl_cases a (bad 192) (fun b o _ _ z _ => atB b st (fun cs => blkOver o new cs (fun cs => putBlk b cs st fun st => lenV n fun v => k v st) (ifB (Nat.beq z size) (blkExt o new cs (fun cs => putBlk b cs st fun st => lenV n fun v => k v st) (bad 193)) (bad 193))) (bad 194)) (bad 195) with ⟨rfl, he⟩ | ⟨bb, o', l, c, z, ex, rfl, he⟩ | he
    · exact hr.no h he
    rotate_left
    · exact hr.no h he
    rw [he] at h
    cases h1 with
    | sl _ _ _ _ _ _ B s N a _ hb p1 p2 p3 p4 p5 =>
    rcases atB_cases bb st (fun cs => blkOver o' new cs (fun cs => putBlk bb cs st fun st => lenV n fun v => k v st) (ifB (Nat.beq z size) (blkExt o' new cs (fun cs => putBlk bb cs st fun st => lenV n fun v => k v st) (bad 193)) (bad 193))) (bad 194) with ⟨blk, hf, he⟩ | he
    rotate_left
    · exact hr.no h he
    rw [he] at h
    have ha : a = s + o' := by
      rcases p4 with q | q
      · omega
      · exact q
    subst ha
    have hll := (o1.get2 rfl).2.1
    have fin : ∀ b', ((storeCells ⟨B, s + o', none⟩ news).run P w = .ok () (w.setCells B (s + o') news) ∧ Moved φ st w φ (stPut bb b' st) (w.setCells B (s + o') news)) → putBlk bb b' st (fun st => lenV n fun v => k v st) = r → BSound P .copy ts ty consts [.slice (some ⟨B, s + o', none⟩) ld C, y] φ st w k r := by
      intro b' g h
      rw [putBlk_eq] at h
      rcases lenV_cases (φ := φ) (n := n) (kk := fun v => k v (stPut bb b' st)) with ⟨hv, he⟩ | he
      rotate_left
      · exact hr.no h he
      rw [he] at h
      exact ⟨_, _, h, nofun, fun _ => ⟨_, _, φ, bi _ _ (run news _ (o3 w rfl) (fun a hq => by cases hq; exact g.1) (by simp)), hv, g.2⟩⟩
    rcases blkOver_cases o' new blk (fun cs => putBlk bb cs st fun st => lenV n fun v => k v st) (ifB (Nat.beq z size) (blkExt o' new blk (fun cs => putBlk bb cs st fun st => lenV n fun v => k v st) (bad 193)) (bad 193)) with ⟨b', e1, e2, e3, e4, e5, he⟩ | he
    · rw [he] at h
      exact fin b' (over_sound (o := o') P sr hf hb e1 e2 o1 (fun j hj => e4 j (by omega)) (fun j => by rw [e5 j, hll])) h
    · rw [he] at h
      rcases ifB_cases (Nat.beq z size) (blkExt o' new blk (fun cs => putBlk bb cs st fun st => lenV n fun v => k v st) (bad 193)) (bad 193) with ⟨hz, he⟩ | ⟨_, he⟩
      rotate_left
      · exact hr.no h he
      rw [he] at h
      have hz : z = size := Nat.eq_of_beq_eq_true hz
      subst hz
      rcases blkExt_cases o' new blk (fun cs => putBlk bb cs st fun st => lenV n fun v => k v st) (bad 193) with ⟨b', e1, e2, e5, he⟩ | he
      rotate_left
      · exact hr.no h he
      rw [he] at h
      refine fin b' (ext_sound (o := o') P sr hf hb e1 e2 o1 ?_ e5) h
      have := Nat.mul_le_mul_right z (Nat.le_trans hnd (Nat.le_trans p1 p2))
      omega

theorem biClear_ok (h : biClear P ts as_ st k = r) (hr : NF r) (hP : P.underlying 4294967295 = none) (sr : SR φ st w) (ha : VR φ 1 as_ args) : BSound P .clear ts ty consts args φ st w k r := by
  unfold biClear at h
  rcases arg1_cases ha _ (bad 211) with ⟨a, x, hargs, h1, he⟩ | he
  rotate_left
  · exact hr.no h he
  rw [he] at h
  subst hargs
  have bi : ∀ (y : Value) (w' : World), (Builtin.clear_ ts ty #[x]).run P w = .ok y w' → (Go.builtin .clear ts ty consts ⟨[x]⟩).run P w = .ok (.value y) w' := fun y w' hh => by
    have hh' : (Builtin.clear_ ts ty ⟨[x]⟩).run P w = .ok y w' := hh
    simp [Go.builtin, hh']
  rcases ikOn_cases (ik P (ty0 ts)) (fun _ _ => bad 202) _ (bad 209) (bad 210) with ⟨_, _, _, he⟩ | ⟨size, hk, he⟩ | ⟨_, he⟩ | he
  · exact hr.no h he
  rotate_left
  · exact hr.no h he
  · exact hr.no h he
  rw [he] at h
  obtain ⟨e, i, g1, g2, g3, g4⟩ := ik_sl hk
  obtain ⟨t, ht0, ht1⟩ := ty_some g1 hP
  rw [g4] at h
  rcases onSl_cases a _ _ (bad 208) with ⟨rfl, he⟩ | ⟨bb, o', l, c, z, ex, rfl, he⟩ | he
  · rw [he] at h
    cases h1
    exact .same sr h (bi _ _ (by simp [Builtin.clear_, ht0, run_underlying ht1])) (.tup _ _ .nil1)
  rotate_left
  · exact hr.no h he
  rw [he] at h
  cases h1 with
  | sl _ _ _ _ _ _ B s N a C hb p1 p2 p3 p4 p5 =>
  rcases ifB_cases (Nat.beq l 0) _ _ with ⟨h0, he⟩ | ⟨h0, he⟩
  · rw [he] at h
    have h0 : l = 0 := Nat.eq_of_beq_eq_true h0
    subst h0
    exact .same sr h (bi _ _ (by simp [Builtin.clear_, ht0, run_underlying ht1])) (.tup _ _ .nil1)
  · rw [he] at h
    have h0 : 0 < l := by
      rcases Nat.eq_zero_or_pos l with q | q
      · rw [q] at h0; cases h0
      · exact q
    rcases cellsK_cases (zeroOf P e) _ (bad 207) with ⟨zl, hzs, he⟩ | he
    rotate_left
    · exact hr.no h he
    have hu : zeroOf P e ≠ .undef := fun q => by
      rw [q] at he
      have he' : bad 207 = _ := he
      rw [q, he] at h
      exact hr 207 (h.symm.trans he'.symm)
    rw [he] at h
    rcases lenIs_eq _ (bad 206) size zl with ⟨hzL, hzl, he⟩ | he
    rotate_left
    · exact hr.no h he
    rw [he] at h
    rcases repK_cases zl hzL l _ (bad 205) with ⟨new, l1, l2, l3, he⟩ | he
    rotate_left
    · exact hr.no h he
    rw [he] at h
    obtain ⟨i', zv, z1, z2, z3⟩ := zeroOf_sound φ rfl hu
    rw [g2] at z1
    cases z1
    have hzv := hzs φ zv z3
    have hrep := rep_sound (n := l) hzv l1 l2 l3
    rcases atB_cases bb st _ (bad 204) with ⟨blk, hf, he⟩ | he
    rotate_left
    · exact hr.no h he
    rw [he] at h
    rcases blkOver_cases o' new blk _ (bad 203) with ⟨b', e1, e2, e3, e4, e5, he⟩ | he
    rotate_left
    · exact hr.no h he
    rw [he, putBlk_eq] at h
    have ha : a = s + o' := by
      rcases p4 with q | q
      · omega
      · exact q
    subst ha
    have hll := (hrep.get2 rfl).2.1
    obtain ⟨q1, q2⟩ := over_sound (o := o') P sr hf hb e1 e2 hrep (fun j hj => e4 j (by omega)) (fun j => by rw [e5 j, hll])
    refine ⟨_, _, h, nofun, fun _ => ⟨_, _, φ, bi _ _ ?_, .tup _ _ .nil1, q2⟩⟩
    have hz' : Builtin.zeroCells zv.cells l = (Array.range (l * zv.cells.toList.length)).map ((⟨zv.cells.toList⟩ : Array Value)[· % zv.cells.toList.length]!) := by
      unfold Builtin.zeroCells
      simp
    obtain ⟨l', rfl⟩ : ∃ l', l = l' + 1 := ⟨l - 1, by omega⟩
    have hstep : (Builtin.clear_ ts ty #[.slice (some ⟨B, s + o', none⟩) (l' + 1) C]).run P w = ((zeroValue e).run P w).andThen fun zz w => ((storeCells ⟨B, s + o', none⟩ (Builtin.zeroCells zz.cells (l' + 1)).toList).run P w).andThen fun _ w => .ok (.tuple #[]) w := by
      unfold Builtin.clear_
      simp only [ht0, List.getElem?_toArray, List.getElem?_cons_zero, Sem.run_bind, run_underlying ht1, Result.andThen_ok, Sem.run_pure]
    rw [hstep, run_zeroValue' g2 z2, Result.andThen_ok, hz', q1]
    rfl
end ops
end Ev
end
/- This text proves that the evaluator's conversions stand for the model's. -/
section
namespace Ev
open Go
section ops
variable {P : Program} {o : Oper} {ρ : Operand → Value} {φ : Phi} {st : St} {w : World} {fr : Tr AV} {k : AV → St → Res} {r : Res}

theorem ckS_int {s d : TypeId} {kd : IntKind} (h : ckS P s d = .int kd) : (∃ ds, P.underlying s = some ds) ∧ P.underlying d = some (.int kd) := by
  unfold ckS at h
  cases e : und P s with
  | none => rw [e] at h; cases h
  | some ds =>
    rw [e] at h
    refine ⟨⟨ds, und_sound e⟩, ?_⟩
    unfold ck at h
    cases e2 : und P d with
    | none => rw [e2] at h; cases h
    | some dd => rw [e2] at h; cases dd <;> first | (cases h; exact und_sound e2) | cases h
theorem ckS_str {s d : TypeId} (h : ckS P s d = .str) : (∃ ds, P.underlying s = some ds) ∧ P.underlying d = some .string := by
  unfold ckS at h
  cases e : und P s with
  | none => rw [e] at h; cases h
  | some ds =>
    rw [e] at h
    refine ⟨⟨ds, und_sound e⟩, ?_⟩
    unfold ck at h
    cases e2 : und P d with
    | none => rw [e2] at h; cases h
    | some dd => rw [e2] at h; cases dd <;> first | (cases h; exact und_sound e2) | cases h
theorem isBytes_t {t : TypeId} (h : isBytes P t = true) : ∃ e, P.underlying t = some (.slice e) ∧ P.underlying e = some (.int .u8) := by
  unfold isBytes at h
  cases e1 : und P t with
  | none => rw [e1] at h; cases h
  | some d =>
    rw [e1] at h
    cases d with
    | slice e =>
      simp only at h
      cases e2 : und P e with
      | none => rw [e2] at h; cases h
      | some d2 =>
        rw [e2] at h
        cases d2 with
        | int kd => cases kd <;> first | exact ⟨e, und_sound e1, und_sound e2⟩ | cases h
        | _ => cases h
    | _ => cases h
theorem ckOn_cases {R : Type} (c : Ck) (a : IntKind → R) (b d : R) : (∃ kd, c = .int kd ∧ ckOn c a b d = a kd) ∨ (c = .str ∧ ckOn c a b d = b) ∨ (c = .bad ∧ ckOn c a b d = d) := by
  cases c with
  | int kd => exact .inl ⟨kd, rfl, rfl⟩
  | str => exact .inr (.inl ⟨rfl, rfl⟩)
  | bad => exact .inr (.inr ⟨rfl, rfl⟩)

theorem kmod_dvd {a b : IntKind} (h : kmod a ≤ kmod b) : kmod a ∣ kmod b := by
  cases a <;> cases b <;> first | (exact ⟨_, rfl⟩) | (exfalso; revert h; decide) | (exact ⟨1, rfl⟩) | (exact ⟨256, rfl⟩) | (exact ⟨65536, rfl⟩) | (exact ⟨16777216, rfl⟩) | (exact ⟨4294967296, rfl⟩) | (exact ⟨281474976710656, rfl⟩) | (exact ⟨72057594037927936, rfl⟩)
theorem conv_wrap {a b : IntKind} {n : Nat} (h : nonneg a n = true ∨ kmod b ≤ kmod a) : b.wrap (a.wrap (n : Int)) = b.wrap ((n % kmod b : Nat) : Int) := by
  rcases h with h | h
  · rw [nonneg_t h]
    refine wrap_congr b ?_
    rw [Int.natCast_emod, Int.emod_emod]
  · refine wrap_congr b ?_
    rw [Int.natCast_emod, Int.emod_emod]
    have h1 := wrap_emod a n
    obtain ⟨q, hq⟩ := kmod_dvd h
    have hd : (kmod b : Int) ∣ (kmod a : Int) := ⟨q, by rw [hq, Int.natCast_mul]⟩
    have h2 := congrArg (· % (kmod b : Int)) h1
    simp only [Int.emod_emod_of_dvd _ hd] at h2
    exact h2

/-- a list of byte cells as a string -/
theorem cellsS_cases : ∀ {l : AV} {cs : List Value}, VR φ 2 l cs → ∀ (kk : List Nat → Res) (d : Res), (∃ ns : List Nat, cs = ns.map (fun n : Nat => Value.int .u8 n) ∧ (∀ n ∈ ns, n < 256) ∧ cellsS l kk d = kk ns) ∨ cellsS l kk d = d := by
  intro l
  induction l with
  | nil => intro cs h kk d; cases h; exact .inl ⟨[], rfl, by simp, rfl⟩
  | cons a l _ ih =>
    intro cs h kk d
    cases h with
    | cons2 _ _ x xs h1 h2 h3 =>
    rcases onInt_cases a (fun kd n => IntKind.rec (motive := fun _ => Res) d d d d (cellsS l (fun l => kk (n :: l)) d) d d d kd) d with ⟨kd, n, rfl, he⟩ | he
    · cases kd <;> first
        | exact .inr he
        | skip
      rcases ih h3 (fun l => kk (n :: l)) d with ⟨ns, e1, e2, e3⟩ | e
      · cases h1 with
        | int _ _ hn =>
        have hn : n < 256 := hn
        refine .inl ⟨n :: ns, ?_, fun m hm => ?_, he.trans e3⟩
        · rw [wrap_low .u8 (show n < khalf .u8 from hn), e1]; rfl
        · rcases List.mem_cons.1 hm with rfl | hm
          · exact hn
          · exact e2 m hm
      · exact .inr (he.trans e)
    · exact .inr he
  | _ => intro cs h; cases h

theorem foldl_push (ns : List Nat) (hns : ∀ n ∈ ns, n < 256) : ∀ b : ByteArray, ((ns.foldl (fun (r : ByteArray) (n : Nat) => r.push (UInt8.ofNat (Int.toNat (n : Int)))) b).data.toList.map UInt8.toNat) = b.data.toList.map UInt8.toNat ++ ns := by
  induction ns with
  | nil => intro b; simp
  | cons n ns ih =>
    intro b
    rw [List.foldl_cons, ih (fun m hm => hns m (List.mem_cons_of_mem _ hm))]
    have hn := hns n (List.mem_cons_self ..)
    have : (b.push (UInt8.ofNat (Int.toNat (n : Int)))).data = b.data.push (UInt8.ofNat n) := rfl
    rw [this]
    simp
    omega

theorem bytesWorld_heap (w : World) (e : TypeId) (s : ByteArray) : (Lib.bytesWorld w e s).heap = w.heap.push (.cells (Lib.bytesCells w e s) e ((Lib.bytesCells w e s).size, (Lib.bytesCells w e s).size + 1)) := by
  apply Array.ext_getElem?
  intro i
  rcases Nat.lt_trichotomy i w.heap.size with h | h | h
  · rw [Lib.bytesWorld_at_old w e s i h, Array.getElem?_push, if_neg (by omega)]
  · subst h
    rw [Lib.bytesWorld_at_new, Array.getElem?_push, if_pos rfl]
  · rw [Array.getElem?_eq_none (by rw [Lib.bytesWorld_size]; omega), Array.getElem?_eq_none (by rw [Array.size_push]; omega)]
theorem bytesWorld_rest (w : World) (e : TypeId) (s : ByteArray) : (Lib.bytesWorld w e s).os = w.os ∧ (Lib.bytesWorld w e s).tape = w.tape ∧ (Lib.bytesWorld w e s).output = w.output := by
  unfold Lib.bytesWorld World.freeze
  rw [if_neg (by decide)]
  exact ⟨rfl, rfl, rfl⟩

theorem opConv_ok {s d : TypeId} {x : Operand} (h : opConv s d x P fr st k = r) (hr : NF r) (sr : SR φ st w) (ho : o.op = .convert s d x) (hx : VR φ 0 (eo fr x) [ρ x]) : Sound P o ρ φ st w k r := by
  unfold opConv at h
  rw [opnd_eq] at h
  generalize eo fr x = v at *
  rcases ckOn_cases (ckS P s d) _ _ _ with ⟨kd, hc, he⟩ | ⟨hc, he⟩ | ⟨hck, he⟩
  · rw [he] at h
    obtain ⟨⟨ds, hs⟩, hd⟩ := ckS_int hc
    rcases onInt_cases v _ (bad 50) with ⟨ks, n, rfl, he⟩ | he
    rotate_left
    · exact hr.no h he
    rw [he] at h
    generalize hρ : ρ x = u at hx
    cases hx with
    | int _ _ hn =>
    have fin : (nonneg ks n = true ∨ kmod kd ≤ kmod ks) → (kint kd (Nat.mod n (kmod kd)) fun v => k v st) = r → Sound P o ρ φ st w k r := by
      intro hw h
      rw [kint_eq] at h
      have hv := VR.int (φ := φ) kd (n % kmod kd) (Nat.mod_lt _ (kmod_pos kd))
      refine .same sr h ?_ hv
      rw [← conv_wrap hw]
      simp [execOp, ho, hρ, convert, run_underlying hs, run_underlying hd, Conv.intToInt]
    rcases ifB_cases (nonneg ks n) _ _ with ⟨hw, he⟩ | ⟨_, he⟩
    · rw [he] at h
      exact fin (.inl hw) h
    · rw [he] at h
      rcases ifB_cases (Nat.ble (kmod kd) (kmod ks)) _ (bad 50) with ⟨hw, he⟩ | ⟨_, he⟩
      · rw [he] at h
        exact fin (.inr (Nat.le_of_ble_eq_true hw)) h
      · exact hr.no h he
  · rw [he] at h
    obtain ⟨⟨ds, hs⟩, hd⟩ := ckS_str hc
    rcases onStr_cases v (fun l => k (.str l) st) (ifB (isBytes P s) (onSl v (k (.str []) st) (fun b o l _ _ _ => ifB (Nat.beq l 0) (k (.str []) st) (atB b st (fun c => blkRange o l c (fun c => cellsS c (fun l => k (.str l) st) (bad 51)) (bad 52)) (bad 54))) (bad 55)) (bad 56)) with ⟨l, rfl, he⟩ | he
    · rw [he] at h
      generalize hρ : ρ x = u at hx
      cases hx with
      | str _ b hb =>
      refine .same sr h ?_ (.str _ b hb)
      simp [execOp, ho, hρ, convert, run_underlying hs, run_underlying hd]
    · rw [he] at h
      rcases ifB_cases (isBytes P s) _ (bad 56) with ⟨hby, he⟩ | ⟨_, he⟩
      rotate_left
      · exact hr.no h he
      rw [he] at h
      obtain ⟨e, hs1, hs2⟩ := isBytes_t hby
      have conv : ∀ (a : Option Addr) (l C : Nat), (convert s d (.slice a l C)).run P w = (Conv.bytesToString (.slice a l C)).run P w := fun a l C => run_convert_bytes_string w s d e a l C hs1 hs2 hd
      rcases onSl_cases v (k (.str []) st) (fun b o l _ _ _ => ifB (Nat.beq l 0) (k (.str []) st) (atB b st (fun c => blkRange o l c (fun c => cellsS c (fun l => k (.str l) st) (bad 51)) (bad 52)) (bad 54))) (bad 55) with ⟨rfl, he⟩ | ⟨b, o', l, c, z, ex, rfl, he⟩ | he
      · rw [he] at h
        generalize hρ : ρ x = u at hx
        cases hx
        refine .same sr h ?_ (.str [] .empty rfl)
        simp [execOp, ho, hρ, conv, Conv.bytesToString]
      rotate_left
      · exact hr.no h he
      rw [he] at h
      generalize hρ : ρ x = u at hx
      cases hx with
      | sl _ _ _ _ _ _ B s' N a C hb p1 p2 p3 p4 p5 =>
      rcases ifB_cases (Nat.beq l 0) (k (.str []) st) (atB b st (fun c => blkRange o' l c (fun c => cellsS c (fun l => k (.str l) st) (bad 51)) (bad 52)) (bad 54)) with ⟨h0, he⟩ | ⟨h0, he⟩
      · rw [he] at h
        have h0 : l = 0 := Nat.eq_of_beq_eq_true h0
        subst h0
        refine .same sr h ?_ (.str [] .empty rfl)
        have := run_bytesToString (P := P) w ⟨B, a, none⟩ 0 C [] (run_loadCells_list w _ [] (by simp))
        simp [execOp, ho, hρ, conv, this]
      · rw [he] at h
        have h0 : 0 < l := by
          rcases Nat.eq_zero_or_pos l with q | q
          · rw [q] at h0; cases h0
          · exact q
        rcases atB_cases b st (fun c => blkRange o' l c (fun c => cellsS c (fun l => k (.str l) st) (bad 51)) (bad 52)) (bad 54) with ⟨blk, hf, he⟩ | he
        rotate_left
        · exact hr.no h he
        rw [he] at h
        rcases blkRange_cases o' l blk (fun c => cellsS c (fun l => k (.str l) st) (bad 51)) (bad 52) with ⟨l', hrun, he⟩ | he
        rotate_left
        · exact hr.no h he
        rw [he] at h
        obtain ⟨cs, e1, e2, e3⟩ := run_of sr hf hb hrun
        rcases cellsS_cases e3 (fun l => k (.str l) st) (bad 51) with ⟨ns, f1, f2, he⟩ | he
        rotate_left
        · exact hr.no h he
        rw [he] at h
        have ha : a = s' + o' := by
          rcases p4 with q | q
          · omega
          · exact q
        subst ha
        have hl : (loadCells ⟨B, s' + o', none⟩ l).run P w = .ok ((ns.map fun n : Nat => (n : Int)).map (Value.int .u8)).toArray w := by
          rw [List.map_map, ← e1]
          have := run_loadCells_list (P := P) w ⟨B, s' + o', none⟩ cs fun j v e => by rw [add_none]; exact e2 j v e
          rw [this, f1]
          rfl
        have hb2 := run_bytesToString (P := P) w ⟨B, s' + o', none⟩ l C _ hl
        refine .same sr h ?_ (.str ns ((ns.map fun n : Nat => (n : Int)).foldl (fun r n => r.push (UInt8.ofNat n.toNat)) ByteArray.empty) ?_)
        · simp only [execOp, ho, hρ, Sem.run_bind, conv, hb2, Result.andThen_ok, Sem.run_pure]
        · rw [List.foldl_map, foldl_push ns f2]
          rfl
  · rw [he] at h
    rcases ifB_cases (isBytes P d) _ (bad 58) with ⟨hby, he⟩ | ⟨_, he⟩
    rotate_left
    · exact hr.no h he
    rw [he] at h
    rcases ifB_cases (isStrT P s) _ (bad 59) with ⟨hst, he⟩ | ⟨_, he⟩
    rotate_left
    · exact hr.no h he
    rw [he] at h
    obtain ⟨e, hd1, hd2⟩ := isBytes_t hby
    have hs := isStrT_t hst
    have hcls : cls P o.op = .alloc := by
      rw [ho]
      show clsConv P s d = .alloc
      unfold ckS at hck
      unfold isStrT at hst
      unfold clsConv
      cases e1 : und P s with
      | none => rw [e1] at hst; cases hst
      | some ds =>
        rw [e1] at hck
        simp only at hck
        rw [hck]
    rcases onStr_cases v _ (bad 57) with ⟨l, rfl, he⟩ | he
    rotate_left
    · exact hr.no h he
    rw [he] at h
    obtain ⟨c, c1, c2, c3, c4⟩ := scells_eq l fun c => frc (slen l) fun n => newBlk (.ro c) st fun b st => k (.sl b 0 n n 1 false) st
    rw [c1, frc_eq, newBlk_eq] at h
    generalize hρ : ρ x = u at hx
    cases hx with
    | str _ b hb =>
    have hsz : slen l = b.size := by rw [slen_eq, ← hb]; simp
    rw [hsz] at h
    refine ⟨_, _, h, not_quiet (.inl hcls), fun hf => ?_⟩
    have hn := fresh_next hf
    have hge := grownCap_ge w b.size 0 e
    have hcs : (Lib.bytesCells w e b).size = grownCap w b.size 0 e := by
      unfold Lib.bytesCells
      rw [Array.size_append, Array.size_map, Array.size_replicate]
      show b.size + _ = _
      omega
    obtain ⟨r1, r2, r3⟩ := bytesWorld_rest w e b
    refine ⟨_, _, _, .inl (by simp [execOp, ho, hρ, Lib.run_convert_string_bytes w s d e b hs hd1 hd2]; rfl), ?_, alloc_ro sr hn (l := c) (cs := Lib.bytesCells w e b) e (bytesWorld_heap w e b) r1 r2 r3 (n := b.size) ?_⟩
    · exact .sl _ _ _ _ _ _ _ _ _ _ _ (upd_same _ _ _) (Nat.le_refl _) hge (by simp) (.inr rfl) (by rw [hcs]; omega)
    · have : (Lib.bytesCells w e b).toList.take b.size = b.data.toList.map fun b => Value.int .u8 b.toNat := by
        unfold Lib.bytesCells
        rw [Array.toList_append, List.take_append_of_le_length (by simp)]
        rw [List.take_of_length_le (by simp)]
        simp
      rw [this]
      exact bytes_sound l _ hb c2 c3 c4
end ops
end Ev
end
/- This text proves that the evaluator's operations on maps stand for the model's. -/
section
namespace Ev
open Go
section ops
variable {P : Program} {o : Oper} {ρ : Operand → Value} {φ : Phi} {st : St} {w : World} {fr : Tr AV} {k : AV → St → Res} {r : Res}

/-- the kind of keys that a map has -/
def KeyD : Mk → TypeDesc → Prop
  | .int, d => ∃ kd, d = .int kd
  | .str, d => d = .string
  | .bad, _ => False
theorem mk_sound {t : TypeId} {m : Mk} (h : mk P t = m) (hm : m ≠ .bad) : ∃ kt et d, P.underlying t = some (.map kt et) ∧ P.underlying kt = some d ∧ KeyD m d ∧ mapElem P t = et := by
  unfold mk at h
  unfold mapElem
  cases e1 : und P t with
  | none => rw [e1] at h; exact absurd h.symm hm
  | some d =>
    rw [e1] at h
    cases d with
    | map kt et =>
      simp only at h
      cases e2 : und P kt with
      | none => rw [e2] at h; exact absurd h.symm hm
      | some dk =>
        rw [e2] at h
        refine ⟨kt, et, dk, und_sound e1, und_sound e2, ?_, rfl⟩
        cases dk <;> simp only at h <;> first
          | (subst h; exact ⟨_, rfl⟩)
          | (subst h; rfl)
          | exact absurd h.symm hm
    | _ => exact absurd h.symm hm

theorem keyEq_cases {m : Mk} {d : TypeDesc} (hd : m ≠ .bad → KeyD m d) {a b : AV} {x y : Value} (ha : VR φ 0 a [x]) (hb : VR φ 0 b [y]) (t e dd : Res) :
    (m ≠ .bad ∧ keyEq m a b t e dd = t ∧ Instr.sameNow d x y = some true ∧ ∀ n, Instr.sameBits n y x = true) ∨ (m ≠ .bad ∧ keyEq m a b t e dd = e ∧ Instr.sameNow d x y = some false) ∨ keyEq m a b t e dd = dd := by
  unfold keyEq
  cases m with
  | bad => exact .inr (.inr rfl)
  | int =>
    show (_ ∧ onInt a (fun ka x => onInt b (fun kb y => kindIs ka kb (ifB (Nat.beq x y) t e) dd) dd) dd = t ∧ _) ∨ (_ ∧ onInt a (fun ka x => onInt b (fun kb y => kindIs ka kb (ifB (Nat.beq x y) t e) dd) dd) dd = e ∧ _) ∨ onInt a (fun ka x => onInt b (fun kb y => kindIs ka kb (ifB (Nat.beq x y) t e) dd) dd) dd = dd
    rcases int_pair ha hb (fun _ x y => ifB (Nat.beq x y) t e) dd dd dd with ⟨kd, m, n, rfl, rfl, hm, hn, he⟩ | he | he | he
    · obtain ⟨kq, rfl⟩ := hd (by simp)
      rw [he]
      rcases ifB_cases (Nat.beq m n) t e with ⟨hq, he⟩ | ⟨hq, he⟩
      · have hq : m = n := Nat.eq_of_beq_eq_true hq
        subst hq
        exact .inl ⟨by simp, he, by simp [Instr.sameNow], fun n => by cases n <;> simp [Instr.sameBits]⟩
      · have hne : kd.wrap (m : Int) ≠ kd.wrap (n : Int) := fun q => by
          rw [wrap_inj kd hm hn q, Nat.beq_refl] at hq; cases hq
        exact .inr (.inl ⟨by simp, he, by simp [Instr.sameNow, hne]⟩)
    · exact .inr (.inr he)
    · exact .inr (.inr he)
    · exact .inr (.inr he)
  | str =>
    show (_ ∧ onStr a (fun x => onStr b (fun y => seq x y t e) dd) dd = t ∧ _) ∨ (_ ∧ onStr a (fun x => onStr b (fun y => seq x y t e) dd) dd = e ∧ _) ∨ onStr a (fun x => onStr b (fun y => seq x y t e) dd) dd = dd
    rcases onStr_cases a (fun x => onStr b (fun y => seq x y t e) dd) dd with ⟨l, rfl, he⟩ | he
    rotate_left
    · exact .inr (.inr he)
    rw [he]
    rcases onStr_cases b (fun y => seq l y t e) dd with ⟨l', rfl, he⟩ | he
    rotate_left
    · exact .inr (.inr he)
    rw [he, seq_eq]
    have hd := hd (by simp)
    cases ha with
    | str _ s hs => cases hb with
      | str _ s' hs' =>
      have hd : d = .string := hd
      subst hd
      by_cases hq : l = l'
      · rw [if_pos hq]
        have hss : s = s' := by
          have h2 : s.data.toList.map UInt8.toNat = s'.data.toList.map UInt8.toNat := by rw [hs, hs', hq]
          have h3 : s.data.toList = s'.data.toList := by
            have inj : ∀ (x y : List UInt8), x.map UInt8.toNat = y.map UInt8.toNat → x = y := by
              intro x
              induction x with
              | nil => intro y hy; cases y with
                | nil => rfl
                | cons _ _ => cases hy
              | cons a x ih => intro y hy; cases y with
                | nil => cases hy
                | cons b y =>
                  simp only [List.map_cons, List.cons.injEq] at hy
                  rw [ih y hy.2, UInt8.toNat_inj.1 hy.1]
            exact inj _ _ h2
          cases s; cases s'
          simp only [ByteArray.mk.injEq]
          exact Array.toList_inj.1 h3
        subst hss
        exact .inl ⟨by simp, rfl, by simp [Instr.sameNow, ba_beq], fun n => by cases n <;> simp [Instr.sameBits, ba_beq]⟩
      · rw [if_neg hq]
        have hne : s ≠ s' := fun q => by subst q; exact hq (hs.symm.trans hs')
        exact .inr (.inl ⟨by simp, rfl, by simp [Instr.sameNow, ba_beq, hne]⟩)

theorem entryK_eq {R : Type} (n : Nat) (a v : AV) (kk : AV → AV → AV → R) (d : R) : entryK (.cons (.int .u64 n) (.cons a v)) kk d = kk (.int .u64 n) a v := rfl

/-- a key looked up -/
theorem mapFind_cases {m : Mk} {d : TypeDesc} (hd : m ≠ .bad → KeyD m d) {key : AV} {kx : Value} (hk : VR φ 0 key [kx]) {l : AV} {es : List MapEntry} (h : ER φ l es) (kk : AV → Res) (no dd : Res) :
    (∃ v i e, m ≠ .bad ∧ mapFind m key l kk no dd = kk v ∧ es[i]? = some e ∧ VR φ 0 v [e.val] ∧ ∀ j, Instr.findNow d kx es j = some (some (j + i, e.val))) ∨ (mapFind m key l kk no dd = no ∧ ∀ j, Instr.findNow d kx es j = some none) ∨ mapFind m key l kk no dd = dd := by
  induction h with
  | nil => exact .inr (.inl ⟨rfl, fun _ => rfl⟩)
  | cons n a v l e es hn ha hv hl ih =>
    have e0 : mapFind m key (.cons (.cons (.int .u64 n) (.cons a v)) l) kk no dd = keyEq m key a (kk v) (mapFind m key l kk no dd) dd := rfl
    rw [e0]
    rcases keyEq_cases hd hk ha (kk v) (mapFind m key l kk no dd) dd with ⟨hm, he, hs, _⟩ | ⟨hm, he, hs⟩ | he
    · exact .inl ⟨v, 0, e, hm, he, rfl, hv, fun j => by simp [Instr.findNow, hs]⟩
    · rw [he]
      rcases ih with ⟨v', i, e', hm, h1, h2, h3, h4⟩ | ⟨h1, h2⟩ | h1
      · exact .inl ⟨v', i + 1, e', hm, h1, h2, h3, fun j => by simp [Instr.findNow, hs, h4]; omega⟩
      · exact .inr (.inl ⟨h1, fun j => by simp [Instr.findNow, hs, h2]⟩)
      · exact .inr (.inr h1)
    · exact .inr (.inr he)

/-- a key's entry turned -/
theorem mapPut_cases {m : Mk} {d : TypeDesc} (hd : m ≠ .bad → KeyD m d) {key val : AV} {kx vx : Value} (hk : VR φ 0 key [kx]) (hv' : VR φ 0 val [vx]) {l : AV} {es : List MapEntry} (h : ER φ l es) : ∀ (kk : AV → Res) (no dd : Res),
    (∃ l' i e, m ≠ .bad ∧ mapPut m key val l kk no dd = kk l' ∧ es[i]? = some e ∧ ER φ l' (es.modify i fun e => { e with key := kx, val := vx }) ∧ (∀ n, Instr.sameBits n e.key kx = true) ∧ ∀ j, Instr.findNow d kx es j = some (some (j + i, e.val))) ∨ (mapPut m key val l kk no dd = no ∧ ∀ j, Instr.findNow d kx es j = some none) ∨ mapPut m key val l kk no dd = dd := by
  induction h with
  | nil => intro kk no dd; exact .inr (.inl ⟨rfl, fun _ => rfl⟩)
  | cons n a v l e es hn ha hv hl ih =>
    intro kk no dd
    have e0 : mapPut m key val (.cons (.cons (.int .u64 n) (.cons a v)) l) kk no dd = keyEq m key a (kk (.cons (.cons (.int .u64 n) (.cons key val)) l)) (mapPut m key val l (fun l => kk (.cons (.cons (.int .u64 n) (.cons a v)) l)) no dd) dd := rfl
    rw [e0]
    rcases keyEq_cases hd hk ha (kk (.cons (.cons (.int .u64 n) (.cons key val)) l)) (mapPut m key val l (fun l => kk (.cons (.cons (.int .u64 n) (.cons a v)) l)) no dd) dd with ⟨hm, he, hs, hb⟩ | ⟨hm, he, hs⟩ | he
    · refine .inl ⟨_, 0, e, hm, he, rfl, ?_, hb, fun j => by simp [Instr.findNow, hs]⟩
      exact .cons n key val l { e with key := kx, val := vx } es hn hk hv' hl
    · rw [he]
      rcases ih (fun l => kk (.cons (.cons (.int .u64 n) (.cons a v)) l)) no dd with ⟨l', i, e', hm, h1, h2, h3, h4, h5⟩ | ⟨h1, h2⟩ | h1
      · refine .inl ⟨_, i + 1, e', hm, h1, h2, ?_, h4, fun j => by simp [Instr.findNow, hs, h5]; omega⟩
        exact .cons n a v l' e _ hn ha hv h3
      · exact .inr (.inl ⟨h1, fun j => by simp [Instr.findNow, hs, h2]⟩)
      · exact .inr (.inr h1)
    · exact .inr (.inr he)

/-- a key's entry struck -/
theorem mapDel_cases {m : Mk} {d : TypeDesc} (hd : m ≠ .bad → KeyD m d) {key : AV} {kx : Value} (hk : VR φ 0 key [kx]) {l : AV} {es : List MapEntry} (h : ER φ l es) : ∀ (kk : AV → Res) (no dd : Res),
    (∃ l' i e, m ≠ .bad ∧ mapDel m key l kk no dd = kk l' ∧ es[i]? = some e ∧ ER φ l' (es.eraseIdx i) ∧ ∀ j, Instr.findNow d kx es j = some (some (j + i, e.val))) ∨ (mapDel m key l kk no dd = no ∧ ∀ j, Instr.findNow d kx es j = some none) ∨ mapDel m key l kk no dd = dd := by
  induction h with
  | nil => intro kk no dd; exact .inr (.inl ⟨rfl, fun _ => rfl⟩)
  | cons n a v l e es hn ha hv hl ih =>
    intro kk no dd
    have e0 : mapDel m key (.cons (.cons (.int .u64 n) (.cons a v)) l) kk no dd = keyEq m key a (kk l) (mapDel m key l (fun l => kk (.cons (.cons (.int .u64 n) (.cons a v)) l)) no dd) dd := rfl
    rw [e0]
    rcases keyEq_cases hd hk ha (kk l) (mapDel m key l (fun l => kk (.cons (.cons (.int .u64 n) (.cons a v)) l)) no dd) dd with ⟨hm, he, hs, _⟩ | ⟨hm, he, hs⟩ | he
    · exact .inl ⟨_, 0, e, hm, he, rfl, hl, fun j => by simp [Instr.findNow, hs]⟩
    · rw [he]
      rcases ih (fun l => kk (.cons (.cons (.int .u64 n) (.cons a v)) l)) no dd with ⟨l', i, e', hm, h1, h2, h3, h4⟩ | ⟨h1, h2⟩ | h1
      · refine .inl ⟨_, i + 1, e', hm, h1, h2, ?_, fun j => by simp [Instr.findNow, hs, h4]; omega⟩
        exact .cons n a v l' e _ hn ha hv h3
      · exact .inr (.inl ⟨h1, fun j => by simp [Instr.findNow, hs, h2]⟩)
      · exact .inr (.inr h1)
    · exact .inr (.inr he)

/-- the map behind an address -/
theorem mapAt_cases {R : Type} (sr : SR φ st w) {b : Pos} {B s N : Nat} (hb : φ b = some (B, s, N)) (kk : AV → Nat → R) (d : R) : (∃ es clk ents, mapAt b st kk d = kk es clk ∧ Tr.find b st.heap = some (.m es clk) ∧ w.heap[B]? = some (.map ents clk) ∧ ER φ es ents.toList) ∨ mapAt b st kk d = d := by
  have e0 : mapAt b st kk d = atB b st (fun blk => onMap blk kk d) d := by cases st; rfl
  rw [e0]
  rcases atB_cases b st (fun blk => onMap blk kk d) d with ⟨blk, hf, he⟩ | he
  rotate_left
  · exact .inr he
  rw [he]
  cases blk with
  | m es clk =>
    obtain ⟨_, ents, h1, h2⟩ := sr.blk b _ B s N hf hb
    exact .inl ⟨es, clk, ents, rfl, hf, h1, h2⟩
  | _ => exact .inr rfl

theorem isKey {m : Mk} {d : TypeDesc} (hd : KeyD m d) {k : TypeId} (hk : P.underlying k = some d) (e : Bool) (x : Value) (w : World) : (Instr.checkKey e 10000 k x).run P w = .ok () w := by
  unfold Instr.checkKey
  simp only [Sem.run_bind, run_underlying hk, Result.andThen]
  cases m with
  | bad => cases hd
  | int => obtain ⟨kd, rfl⟩ := hd; simp
  | str => have hd : d = .string := hd; subst hd; simp

theorem opMakeMap_ok {t : TypeId} {q : Option Operand} (h : opMakeMap q fr st k = r) (hr : NF r) (sr : SR φ st w) (ho : o.op = .makeMap t q) : Sound P o ρ φ st w k r := by
  unfold opMakeMap at h
  cases q with
  | some _ => exact hr.no h rfl
  | none =>
    have h : (newBlk (.m .nil 0) st fun b st => k (.mp b) st) = r := h
    rw [newBlk_eq] at h
    refine ⟨_, _, h, not_quiet (by rw [ho]; exact .inl rfl), fun hf => ?_⟩
    have hn := fresh_next hf
    refine ⟨_, _, _, .inl (by simp [execOp, ho, show (Instr.makeMap t none).run P w = .ok (.map (some w.heap.size)) (w.alloc (.map #[] 0)) from rfl]; rfl), ?_, Moved.alloc sr hn (.map #[] 0) (.m .nil 0) 0 (w' := w.alloc (.map #[] 0)) rfl rfl rfl rfl ⟨rfl, #[], by show (w.heap.push _)[w.heap.size]? = _; simp, .nil⟩⟩
    exact .mp _ _ _ (upd_same _ _ _)

theorem mkGo_cases {R : Type} (m : Mk) (kk : Mk → R) (d : R) : (m ≠ .bad ∧ mkGo m kk d = kk m) ∨ mkGo m kk d = d := by
  cases m with
  | int => exact .inl ⟨by simp, rfl⟩
  | str => exact .inl ⟨by simp, rfl⟩
  | bad => exact .inr rfl

theorem find_now {k : TypeId} {d : TypeDesc} (hk : P.underlying k = some d) {x : Value} {es : List MapEntry} {a : Option (Nat × Value)} (h : Instr.findNow d x es 0 = some a) (w : World) : (Instr.findKey k x es).run P w = .ok a w := by
  simp [Instr.findKey, run_underlying hk, Result.andThen, h]
theorem get_map {B : Nat} {ents : Array MapEntry} {clk : Nat} (h : w.heap[B]? = some (.map ents clk)) : (getObj B).run P w = .ok (.map ents clk) w := by
  simp [getObj, Sem.run, h]

theorem zeroDef_sound (φ : Phi) {t : TypeId} (w : World) (h : zeroDef P t = true) : ∃ z, VR φ 0 (zeroOf P t) [z] ∧ (zeroValue t).run P w = .ok z w := by
  unfold zeroDef at h
  unfold zeroOf
  cases e : inf P t with
  | none => rw [e] at h; cases h
  | some i =>
    rw [e] at h
    obtain ⟨z, hz⟩ := Option.isSome_iff_exists.1 h
    refine ⟨z, ?_, run_zeroValue' (inf_sound e) hz w⟩
    simp only [hz]
    exact ofV_sound φ z

theorem opLookup_ok {t : TypeId} {x ix : Operand} {ok : Bool} (h : opLookup t x ix ok P fr st k = r) (hr : NF r) (sr : SR φ st w) (ho : o.op = .lookup t x ix ok) (hx : VR φ 0 (eo fr x) [ρ x]) (hix : VR φ 0 (eo fr ix) [ρ ix]) : Sound P o ρ φ st w k r := by
  unfold opLookup at h
  rw [opnd_eq, opnd_eq] at h
  generalize eo fr x = vx at *
  generalize eo fr ix = vi at *
  rcases mkGo_cases (mk P t) _ (bad 334) with ⟨hm, he⟩ | he
  rotate_left
  · exact hr.no h he
  rw [he] at h
  rcases onMp_cases vx (bad 221) _ (bad 224) with ⟨_, he⟩ | ⟨b, rfl, he⟩ | he
  · exact hr.no h he
  rotate_left
  · exact hr.no h he
  rw [he] at h
  generalize hρ : ρ x = u at hx
  cases hx with
  | mp _ B N hb =>
  rcases mapAt_cases sr hb _ (bad 223) with ⟨es, clk, ents, he, hf, hB, hes⟩ | he
  rotate_left
  · exact hr.no h he
  rw [he] at h
  obtain ⟨kt, et, d, g1, g2, g3, g4⟩ := mk_sound (P := P) rfl hm
  rw [g4] at h
  have hck : ∀ (e : Bool), (Instr.checkKey e 10000 kt (ρ ix)).run P w = .ok () w := fun e => isKey g3 g2 e _ w
  rcases mapFind_cases (m := mk P t) (d := d) (fun _ => g3) hix hes (fun v => ifB ok (k (.tup (.cons v (.cons (.bool true) .nil))) st) (k v st))
     (ifB (zeroDef P et) (ifB ok (k (.tup (.cons (zeroOf P et) (.cons (.bool false) .nil))) st) (k (zeroOf P et) st)) (bad 337)) (bad 222) with ⟨v, i, e, _, he, h1, h2, h3⟩ | ⟨he, h1⟩ | he
  · rw [he] at h
    have hfk := find_now (P := P) g2 (h3 0) w
    cases ok with
    | true =>
      refine .same sr h (x := .tuple #[e.val, .bool true]) ?_ (.tup _ _ (.cons1 _ _ _ _ h2 (.cons1 _ _ _ _ (.bool true) .nil1)))
      simp [execOp, ho, hρ, Instr.lookup, run_underlying g1, get_map hB, hck, hfk]
    | false =>
      refine .same sr h (x := e.val) ?_ h2
      simp [execOp, ho, hρ, Instr.lookup, run_underlying g1, get_map hB, hck, hfk]
  · rw [he] at h
    have hfk := find_now (P := P) g2 (h1 0) w
    rcases ifB_cases (zeroDef P et) (ifB ok (k (.tup (.cons (zeroOf P et) (.cons (.bool false) .nil))) st) (k (zeroOf P et) st)) (bad 337) with ⟨hzd, he⟩ | ⟨_, he⟩
    rotate_left
    · exact hr.no h he
    rw [he] at h
    obtain ⟨z, hz1, hz2⟩ := zeroDef_sound φ w hzd
    cases ok with
    | true =>
      refine .same sr h (x := .tuple #[z, .bool false]) ?_ (.tup _ _ (.cons1 _ _ _ _ hz1 (.cons1 _ _ _ _ (.bool false) .nil1)))
      simp [execOp, ho, hρ, Instr.lookup, run_underlying g1, get_map hB, hck, hfk, hz2]
    | false =>
      refine .same sr h (x := z) ?_ hz1
      simp [execOp, ho, hρ, Instr.lookup, run_underlying g1, get_map hB, hck, hfk, hz2]
  · exact hr.no h he

theorem heapSet {B : Nat} {o' o2 : Obj} (hb : w.heap[B]? = some o') (hc : (∃ a b, o' = .map a b) ∨ (∃ a b c d, o' = .mapIter a b c d) ∨ ∃ l, o' = .loop l) : (setObj B o2).run P w = .ok () { w with heap := w.heap.setIfInBounds B o2 } := by
  rcases hc with ⟨a, b, rfl⟩ | ⟨a, b, c, d, rfl⟩ | ⟨l, rfl⟩ <;> simp [setObj, Sem.run, hb]
/-- a map's object turned -/
theorem moved_set (sr : SR φ st w) {b : Pos} {kb k' : Blk} {B s N : Nat} {o' o2 : Obj} (hf : Tr.find b st.heap = some kb) (hk : wr kb = true) (hb : φ b = some (B, s, N)) (hB : w.heap[B]? = some o')
    (hk' : BR φ { w with heap := w.heap.setIfInBounds B o2 } B s N k') : Moved φ st w φ (stPut b k' st) { w with heap := w.heap.setIfInBounds B o2 } :=
  Moved.write sr hf hk hb (fun C hC => by show (w.heap.setIfInBounds B o2)[C]? = _; rw [Array.getElem?_setIfInBounds_ne (Ne.symm hC)]) (by show (w.heap.setIfInBounds B o2).size = _; simp) rfl rfl rfl hk'
theorem set_at {B : Nat} {o' o2 : Obj} (hB : w.heap[B]? = some o') : ({ w with heap := w.heap.setIfInBounds B o2 } : World).heap[B]? = some o2 := by
  have := (Array.getElem?_eq_some_iff.1 hB).1
  show (w.heap.setIfInBounds B o2)[B]? = _
  simp [this]

theorem opMapUpdate_ok {t : TypeId} {m key x : Operand} (h : opMapUpdate t m key x P fr st k = r) (hr : NF r) (sr : SR φ st w) (ho : o.op = .mapUpdate t m key x ∨ o.op = .insert t m key x) (hm : VR φ 0 (eo fr m) [ρ m]) (hk : VR φ 0 (eo fr key) [ρ key]) (hx : VR φ 0 (eo fr x) [ρ x]) : Sound P o ρ φ st w k r := by
  have hop : ∀ (w' : World), (Instr.mapUpdate t (ρ m) (ρ key) (ρ x)).run P w = .ok () w' → (execOp ρ o).run P w = .ok .skip w' := fun w' e => by
    rcases ho with ho | ho <;> simp [execOp, ho, e]
  unfold opMapUpdate at h
  rw [opnd_eq, opnd_eq, opnd_eq] at h
  generalize eo fr m = vm at *
  generalize eo fr key = vk at *
  generalize eo fr x = vx at *
  rcases mkGo_cases (mk P t) _ (bad 335) with ⟨hmk, he⟩ | he
  rotate_left
  · exact hr.no h he
  rw [he] at h
  rcases onMp_cases vm (bad 225) _ (bad 228) with ⟨_, he⟩ | ⟨b, rfl, he⟩ | he
  · exact hr.no h he
  rotate_left
  · exact hr.no h he
  rw [he] at h
  generalize hρ : ρ m = u at hm
  cases hm with
  | mp _ B N hb =>
  rcases mapAt_cases sr hb _ (bad 227) with ⟨es, clk, ents, he, hf, hB, hes⟩ | he
  rotate_left
  · exact hr.no h he
  rw [he] at h
  obtain ⟨kt, et, d, g1, g2, g3, g4⟩ := mk_sound (P := P) rfl hmk
  have hck : ∀ (e : Bool), (Instr.checkKey e 10000 kt (ρ key)).run P w = .ok () w := fun e => isKey g3 g2 e _ w
  rcases mapPut_cases (m := mk P t) (d := d) (fun _ => g3) hk hx hes (fun es => putBlk b (.m es clk) st fun st => k .undef st)
     (appK es (.cons (.cons (.int .u64 clk) (.cons vk vx)) .nil) (fun es => frc (Nat.succ clk) fun n => putBlk b (.m es n) st fun st => k .undef st) (bad 229)) (bad 226) with ⟨l', i, e, _, he, h1, h2, h3, h4⟩ | ⟨he, h1⟩ | he
  · rw [he, putBlk_eq] at h
    have hfk := find_now (P := P) g2 (h4 0) w
    have hei : ents[i]? = some e := by rw [← Array.getElem?_toList]; exact h1
    refine ⟨_, _, h, not_quiet (by rcases ho with ho | ho <;> (rw [ho]; exact .inr rfl)), fun _ => ⟨Go.undef, _, φ, .inr ⟨hop _ ?_, rfl⟩, .undef _, moved_set (o2 := .map (ents.modify i fun e => { e with key := ρ key, val := ρ x }) clk) sr hf rfl hb hB ⟨rfl, _, set_at hB, ?_⟩⟩⟩
    · simp [Instr.mapUpdate, hρ, run_underlying g1, get_map hB, hck, hfk, hei, Instr.keyThatStays, h3, heapSet hB (.inl ⟨_, _, rfl⟩)]
    · rw [Array.toList_modify]; exact h2
  · rw [he] at h
    have hfk := find_now (P := P) g2 (h1 0) w
    rcases appK_cases (.cons (.cons (.int .u64 clk) (.cons vk vx)) .nil) (.cons _ _ .nil) es (fun es => frc (Nat.succ clk) fun n => putBlk b (.m es n) st fun st => k .undef st) (bad 229) with ⟨l, _, _, _, _, he⟩ | he
    rotate_left
    · exact hr.no h he
    have happ : ∀ (es0 : AV) (l0 : List MapEntry) (kk : AV → Res) (d : Res), ER φ es0 l0 → ∃ l, ER φ l (l0 ++ [⟨ρ key, ρ x, clk⟩]) ∧ appK es0 (.cons (.cons (.int .u64 clk) (.cons vk vx)) .nil) kk d = kk l := by
      intro es0 l0 kk d hER
      induction hER generalizing kk with
      | nil => exact ⟨_, .cons clk vk vx .nil ⟨ρ key, ρ x, clk⟩ [] rfl hk hx .nil, rfl⟩
      | cons n a v l e es hn ha hv hl ih =>
        obtain ⟨l', q1, q2⟩ := ih fun l => kk (.cons (.cons (.int .u64 n) (.cons a v)) l)
        exact ⟨_, .cons n a v l' e _ hn ha hv q1, q2⟩
    obtain ⟨l, q1, q2⟩ := happ es ents.toList (fun es => frc (Nat.succ clk) fun n => putBlk b (.m es n) st fun st => k .undef st) (bad 229) hes
    rw [q2, frc_eq, putBlk_eq] at h
    refine ⟨_, _, h, not_quiet (by rcases ho with ho | ho <;> (rw [ho]; exact .inr rfl)), fun _ => ⟨Go.undef, _, φ, .inr ⟨hop _ ?_, rfl⟩, .undef _, moved_set (o2 := .map (ents.push ⟨ρ key, ρ x, clk⟩) (clk + 1)) sr hf rfl hb hB ⟨rfl, _, set_at hB, ?_⟩⟩⟩
    · simp [Instr.mapUpdate, hρ, run_underlying g1, get_map hB, hck, hfk, heapSet hB (.inl ⟨_, _, rfl⟩)]
    · rw [Array.toList_push]; exact q1
  · exact hr.no h he

theorem opRange_ok {t : TypeId} {x : Operand} (h : opRange t x P fr st k = r) (hr : NF r) (sr : SR φ st w) (ho : o.op = .range t x) (hx : VR φ 0 (eo fr x) [ρ x]) : Sound P o ρ φ st w k r := by
  unfold opRange at h
  rw [opnd_eq] at h
  generalize eo fr x = vx at *
  rcases mkGo_cases (mk P t) _ (bad 218) with ⟨hmk, he⟩ | he
  rotate_left
  · exact hr.no h he
  rw [he] at h
  rcases onMp_cases vx (bad 212) _ (bad 217) with ⟨_, he⟩ | ⟨b, rfl, he⟩ | he
  · exact hr.no h he
  rotate_left
  · exact hr.no h he
  rw [he] at h
  generalize hρ : ρ x = u at hx
  cases hx with
  | mp _ B N hb =>
  rcases mapAt_cases sr hb _ (bad 216) with ⟨es, clk, ents, he, hf, hB, hes⟩ | he
  rotate_left
  · exact hr.no h he
  rw [he, newBlk_eq] at h
  obtain ⟨kt, et, d, g1, g2, g3, g4⟩ := mk_sound (P := P) rfl hmk
  refine ⟨_, _, h, not_quiet (by rw [ho]; exact .inr rfl), fun hfr => ?_⟩
  have hn := fresh_next hfr
  refine ⟨_, _, _, .inl (by simp [execOp, ho, hρ, run_range_map w t kt et B ents clk g1 hB]), ptr_new w.heap.size 0, Moved.alloc sr hn (.mapIter (some B) clk #[] clk) (.it b clk 0 0 0) 0 (w' := w.alloc (.mapIter (some B) clk #[] clk)) rfl rfl rfl rfl ⟨rfl, B, N, #[], clk, Ext.upd _ hn _ _ hb, heap_alloc_new w _, .inl ⟨rfl, rfl⟩⟩⟩

/-- the iterator behind an address -/
theorem onIt_cases {R : Type} (blk : Blk) (kk : Pos → Nat → Nat → Nat → Nat → R) (d : R) : (∃ m s n b c, blk = .it m s n b c ∧ onIt blk kk d = kk m s n b c) ∨ onIt blk kk d = d := by
  cases blk with
  | it m s n b c => exact .inl ⟨m, s, n, b, c, rfl, rfl⟩
  | _ => exact .inr rfl

theorem opNext_ok {x : Operand} {isS : Bool} (h : opNext x isS fr st k = r) (hr : NF r) (sr : SR φ st w) (ho : o.op = .next x isS) (hx : VR φ 0 (eo fr x) [ρ x]) : Sound P o ρ φ st w k r := by
  unfold opNext at h
  cases isS with
  | true => exact hr.no h rfl
  | false =>
  rw [show ∀ (a b : Res), ifB false a b = b from fun _ _ => rfl, opnd_eq] at h
  generalize eo fr x = vx at *
  rcases onPtr_cases vx _ (bad 307) with ⟨i, o', rfl, he⟩ | he
  rotate_left
  · exact hr.no h he
  rw [he] at h
  rcases ifB_cases (Nat.beq o' 0) _ (bad 306) with ⟨h0, he⟩ | ⟨_, he⟩
  rotate_left
  · exact hr.no h he
  rw [he] at h
  have h0 : o' = 0 := Nat.eq_of_beq_eq_true h0
  subst h0
  rcases atB_cases i st _ (bad 305) with ⟨blk, hf, he⟩ | he
  rotate_left
  · exact hr.no h he
  rw [he] at h
  rcases onIt_cases blk _ (bad 304) with ⟨m, since, n, stamp, stepped, hblk, he⟩ | he
  rotate_left
  · exact hr.no h he
  rw [he] at h
  subst hblk
  generalize hρ : ρ x = u at hx
  cases hx with
  | ptr _ _ B s N hb =>
  obtain ⟨hs, Bm, Nm, seen, last, hm, hB, hseen⟩ := sr.blk i _ B s N hf hb
  subst hs
  rcases mapAt_cases sr hm _ (bad 303) with ⟨es, clk, ents, he, hfm, hBm, hes⟩ | he
  rotate_left
  · exact hr.no h he
  rw [he] at h
  have gB : (getObj B).run P w = .ok (.mapIter (some Bm) since seen last) w := by simp [getObj, Sem.run, hB]
  have gM : (getObj Bm).run P w = .ok (.map ents clk) w := get_map hBm
  rcases onList_cases es _ _ (bad 325) with ⟨rfl, he⟩ | ⟨e, rest, rfl, he⟩ | he
  · rw [he] at h
    have hents : ents = #[] := by
      cases hl : ents.toList with
      | nil => exact Array.toList_eq_nil_iff.1 hl
      | cons _ _ => rw [hl] at hes; cases hes
    subst hents
    refine .same sr h ?_ (.tup _ _ (.cons1 _ _ _ _ (.bool false) .nil1))
    simp [execOp, ho, hρ, Instr.next, gB, gM, choose, Sem.run, Question.forced]
  rotate_left
  · exact hr.no h he
  rw [he] at h
  rcases onList_cases rest _ _ (bad 324) with ⟨hrest, he⟩ | ⟨_, _, _, he⟩ | he
  rotate_left
  · exact hr.no h he
  · exact hr.no h he
  rw [he] at h
  subst hrest
  cases hl : ents.toList with
  | nil => rw [hl] at hes; cases hes
  | cons ent tl =>
  rw [hl] at hes
  cases hes with
  | cons b a v _ _ _ hn ha hv hl2 =>
  have htl : tl = [] := by cases hl2; rfl
  subst htl
  have hents : ents = #[ent] := by apply Array.ext'; rw [hl]
  subst hents
  have hborn : ent.born = b := hn
  replace h : (ifB (Nat.beq n 0) (ifB (Nat.blt b since) (putBlk i (.it m since 1 b clk) st fun st => k (.tup (.cons (.bool true) (.cons a (.cons v .nil)))) st) (bad 301))
           (ifB (Nat.beq b stamp) (ifB (Nat.blt b stepped) (k (.tup (.cons (.bool false) .nil)) st) (bad 302)) (bad 320))) = r := h
  rcases ifB_cases (Nat.beq n 0) (ifB (Nat.blt b since) (putBlk i (.it m since 1 b clk) st fun st => k (.tup (.cons (.bool true) (.cons a (.cons v .nil)))) st) (bad 301))
           (ifB (Nat.beq b stamp) (ifB (Nat.blt b stepped) (k (.tup (.cons (.bool false) .nil)) st) (bad 302)) (bad 320)) with ⟨hz, he⟩ | ⟨hz, he⟩
  · rw [he] at h
    have hz : n = 0 := Nat.eq_of_beq_eq_true hz
    subst hz
    rcases ifB_cases (Nat.blt b since) (putBlk i (.it m since 1 b clk) st fun st => k (.tup (.cons (.bool true) (.cons a (.cons v .nil)))) st) (bad 301) with ⟨hlt, he⟩ | ⟨_, he⟩
    rotate_left
    · exact hr.no h he
    rw [he, putBlk_eq] at h
    have hlt : b < since := Nat.le_of_ble_eq_true hlt
    rcases hseen with ⟨_, hseen⟩ | ⟨hq, _⟩
    rotate_left
    · cases hq
    subst hseen
    refine ⟨_, _, h, not_quiet (by rw [ho]; exact .inr rfl), fun _ => ⟨.tuple #[.bool true, ent.key, ent.val], _, φ, .inl ?_, .tup _ _ (.cons1 _ _ _ _ (.bool true) (.cons1 _ _ _ _ ha (.cons1 _ _ _ _ hv .nil1))), moved_set (o2 := .mapIter (some Bm) since #[b] clk) sr hf rfl hb hB ⟨rfl, Bm, Nm, #[b], clk, hm, set_at hB, .inr ⟨rfl, rfl, rfl⟩⟩⟩⟩
    have hlt' : ent.born < since := by rw [hborn]; exact hlt
    have hge' : ¬ (since ≤ ent.born) := by omega
    simp [execOp, ho, hρ, Instr.next, gB, gM, choose, Sem.run, Question.forced, hborn, hlt, show ¬ since ≤ b by omega]
    have := heapSet (P := P) (o2 := .mapIter (some Bm) since #[b] clk) hB (.inr (.inl ⟨_, _, _, _, rfl⟩))
    simp [this]
  · rw [he] at h
    rcases ifB_cases (Nat.beq b stamp) (ifB (Nat.blt b stepped) (k (.tup (.cons (.bool false) .nil)) st) (bad 302)) (bad 320) with ⟨hq, he⟩ | ⟨_, he⟩
    rotate_left
    · exact hr.no h he
    rw [he] at h
    have hq : b = stamp := Nat.eq_of_beq_eq_true hq
    subst hq
    rcases ifB_cases (Nat.blt b stepped) (k (.tup (.cons (.bool false) .nil)) st) (bad 302) with ⟨hlt, he⟩ | ⟨_, he⟩
    rotate_left
    · exact hr.no h he
    rw [he] at h
    have hlt : b < stepped := Nat.le_of_ble_eq_true hlt
    rcases hseen with ⟨hq, _⟩ | ⟨_, hseen, hlast⟩
    · subst hq; cases hz
    subst hseen
    subst hlast
    refine .same sr h ?_ (.tup _ _ (.cons1 _ _ _ _ (.bool false) .nil1))
    simp [execOp, ho, hρ, Instr.next, gB, gM, choose, Sem.run, Question.forced, hborn, show ¬ last ≤ b by omega]

theorem opEntry_ok {x : Operand} (h : opEntry x fr st k = r) (hr : NF r) (sr : SR φ st w) (ho : o.op = .entry x) (hx : VR φ 0 (eo fr x) [ρ x]) : Sound P o ρ φ st w k r := by
  unfold opEntry at h
  rw [opnd_eq] at h
  generalize eo fr x = vx at *
  rcases onPtr_cases vx _ (bad 315) with ⟨i, o', rfl, he⟩ | he
  rotate_left
  · exact hr.no h he
  rw [he] at h
  rcases ifB_cases (Nat.beq o' 0) _ (bad 314) with ⟨h0, he⟩ | ⟨_, he⟩
  rotate_left
  · exact hr.no h he
  rw [he] at h
  have h0 : o' = 0 := Nat.eq_of_beq_eq_true h0
  subst h0
  rcases atB_cases i st _ (bad 313) with ⟨blk, hf, he⟩ | he
  rotate_left
  · exact hr.no h he
  rw [he] at h
  rcases onIt_cases blk _ (bad 312) with ⟨m, since, n, stamp, stepped, hblk, he⟩ | he
  rotate_left
  · exact hr.no h he
  rw [he] at h
  subst hblk
  rcases ifB_cases (Nat.beq n 1) _ (bad 311) with ⟨h1, he⟩ | ⟨_, he⟩
  rotate_left
  · exact hr.no h he
  rw [he] at h
  have h1 : n = 1 := Nat.eq_of_beq_eq_true h1
  subst h1
  generalize hρ : ρ x = u at hx
  cases hx with
  | ptr _ _ B s N hb =>
  obtain ⟨hs, Bm, Nm, seen, last, hm, hB, hseen⟩ := sr.blk i _ B s N hf hb
  subst hs
  rcases hseen with ⟨hq, _⟩ | ⟨_, hseen, hlast⟩
  · cases hq
  subst hseen
  subst hlast
  rcases mapAt_cases sr hm _ (bad 310) with ⟨es, clk, ents, he, hfm, hBm, hes⟩ | he
  rotate_left
  · exact hr.no h he
  rw [he] at h
  rcases ifB_cases (Nat.beq clk last) _ (bad 328) with ⟨hc, he⟩ | ⟨_, he⟩
  rotate_left
  · exact hr.no h he
  rw [he] at h
  have hc : clk = last := Nat.eq_of_beq_eq_true hc
  subst hc
  have gB : (getObj B).run P w = .ok (.mapIter (some Bm) since #[stamp] clk) w := by simp [getObj, Sem.run, hB]
  have gM : (getObj Bm).run P w = .ok (.map ents clk) w := get_map hBm
  rcases onCons_cases es _ (bad 309) with ⟨e, rest, rfl, he⟩ | he
  rotate_left
  · exact hr.no h he
  rw [he] at h
  cases hl : ents.toList with
  | nil => rw [hl] at hes; cases hes
  | cons ent tl =>
  rw [hl] at hes
  cases hes with
  | cons b a v _ _ _ hn ha hv hl2 =>
  have hborn : ent.born = b := hn
  replace h : (ifB (Nat.beq b stamp) (k (.tup (.cons a (.cons v .nil))) st) (bad 326)) = r := h
  rcases ifB_cases (Nat.beq b stamp) (k (.tup (.cons a (.cons v .nil))) st) (bad 326) with ⟨hq, he⟩ | ⟨_, he⟩
  rotate_left
  · exact hr.no h he
  rw [he] at h
  have hq : b = stamp := Nat.eq_of_beq_eq_true hq
  subst hq
  refine .same sr h (x := .tuple #[ent.key, ent.val]) ?_ (.tup _ _ (.cons1 _ _ _ _ ha (.cons1 _ _ _ _ hv .nil1)))
  have hfind : ents.find? (·.born == b) = some ent := by
    rw [← Array.find?_toList, hl, List.find?_cons_of_pos (by simp [hborn])]
  simp [execOp, ho, hρ, Instr.entry, gB, gM, hfind]

variable {ts : Array TypeId} {ty : TypeId} {consts : Array Bool} {as_ : AV} {args : List Value}
theorem biDelete_ok (h : biDelete P ts as_ st k = r) (hr : NF r) (hP : P.underlying 4294967295 = none) (sr : SR φ st w) (ha : VR φ 1 as_ args) : BSound P .delete ts ty consts args φ st w k r := by
  unfold biDelete at h
  rcases arg2_cases ha _ (bad 329) with ⟨a, b, x, y, hargs, h1, h2, he⟩ | he
  rotate_left
  · exact hr.no h he
  rw [he] at h
  subst hargs
  have bi : ∀ (u : Value) (w' : World), (Builtin.delete_ ts ty #[x, y]).run P w = .ok u w' → (Go.builtin .delete ts ty consts ⟨[x, y]⟩).run P w = .ok (.value u) w' := fun u w' hh => by
    have hh' : (Builtin.delete_ ts ty ⟨[x, y]⟩).run P w = .ok u w' := hh
    simp [Go.builtin, hh']
  rcases mkGo_cases (mk P (ty0 ts)) _ (bad 336) with ⟨hmk, he⟩ | he
  rotate_left
  · exact hr.no h he
  rw [he] at h
  rcases onMp_cases a (bad 318) _ (bad 319) with ⟨_, he⟩ | ⟨bp, rfl, he⟩ | he
  · exact hr.no h he
  rotate_left
  · exact hr.no h he
  rw [he] at h
  cases h1 with
  | mp _ B N hb =>
  rcases mapAt_cases sr hb _ (bad 317) with ⟨es, clk, ents, he, hf, hB, hes⟩ | he
  rotate_left
  · exact hr.no h he
  rw [he] at h
  obtain ⟨kt, et, d, g1, g2, g3, g4⟩ := mk_sound (P := P) rfl hmk
  obtain ⟨t, ht0, ht1⟩ := ty_some g1 hP
  have hck : ∀ (e : Bool), (Instr.checkKey e 10000 kt y).run P w = .ok () w := fun e => isKey g3 g2 e _ w
  rcases mapDel_cases (m := mk P (ty0 ts)) (d := d) (fun _ => g3) h2 hes (fun es => putBlk bp (.m es clk) st fun st => k (.tup .nil) st) (k (.tup .nil) st) (bad 316) with ⟨l', i, e, _, he, q1, q2, q3⟩ | ⟨he, q1⟩ | he
  · rw [he, putBlk_eq] at h
    have hfk := find_now (P := P) g2 (q3 0) w
    refine ⟨_, _, h, nofun, fun _ => ⟨.tuple #[], _, φ, bi _ _ ?_, .tup _ _ .nil1, moved_set (o2 := .map (ents.eraseIdxIfInBounds i) clk) sr hf rfl hb hB ⟨rfl, _, set_at hB, ?_⟩⟩⟩
    · simp [Builtin.delete_, ht0, run_underlying ht1, get_map hB, hck, hfk, heapSet hB (.inl ⟨_, _, rfl⟩)]
    · have hi : i < ents.size := by have := (List.getElem?_eq_some_iff.1 q1).1; simpa using this
      rw [Array.eraseIdxIfInBounds_eq, dif_pos hi, Array.toList_eraseIdx]; exact q2
  · rw [he] at h
    have hfk := find_now (P := P) g2 (q1 0) w
    have hsame : ({ w with heap := w.heap.setIfInBounds B (.map ents clk) } : World) = w := by
      have : w.heap.setIfInBounds B (.map ents clk) = w.heap := by
        apply Array.ext_getElem?
        intro j
        by_cases hj : B = j
        · subst hj
          rw [hB]
          have := (Array.getElem?_eq_some_iff.1 hB).1
          simp [this]
        · rw [Array.getElem?_setIfInBounds_ne hj]
      cases w
      simp only at this
      simp [this]
    refine .same sr h (bi _ _ ?_) (.tup _ _ .nil1)
    have hs := heapSet (P := P) (o2 := .map ents clk) hB (.inl ⟨_, _, rfl⟩)
    rw [hsame] at hs
    simp [Builtin.delete_, ht0, run_underlying ht1, get_map hB, hck, hfk, hs]
  · exact hr.no h he
end ops
end Ev
end
/- This text proves that no operation of the evaluator takes back the number of the next block. -/
section
namespace Ev
open Go

/-- the result is a failure, or the continuation's at a state whose next block is not below the old one -/
def GM (st : St) (k : AV → St → Res) (r : Res) : Prop := (∃ n, r = .fail n) ∨ ∃ v st', st.next.num ≤ st'.next.num ∧ r = k v st'
theorem le_inc (p : Pos) : p.num ≤ p.inc.num := by rw [Pos.num_inc]; omega
/-- calls take back no number -/
def CallMono (call : CallH) : Prop := ∀ g as_ st v st', call g as_ st = .ok v st' → st.next.num ≤ st'.next.num

section gm
variable {st : St} {k : AV → St → Res} {P : Program}
theorem GM.bad (n : Nat) : GM st k (bad n) := .inl ⟨n, rfl⟩
theorem GM.kk (v : AV) (st' : St) (h : st.next.num ≤ st'.next.num) : GM st k (k v st') := .inr ⟨v, st', h, rfl⟩
theorem GM.of_or {r a b : Res} (h : r = a ∨ r = b) (ha : GM st k a) (hb : GM st k b) : GM st k r := by rcases h with rfl | rfl <;> assumption
theorem GM.of_ex {α : Sort _} {r b : Res} {f : α → Res} (h : (∃ x, r = f x) ∨ r = b) (ha : ∀ x, GM st k (f x)) (hb : GM st k b) : GM st k r := by
  rcases h with ⟨x, rfl⟩ | rfl
  · exact ha x
  · exact hb
theorem GM.opnd {x : Operand} {fr : Tr AV} {f : AV → Res} (h : ∀ v, GM st k (f v)) : GM st k (opnd x fr f) := by rw [opnd_eq]; exact h _
theorem GM.frc {n : Nat} {f : Nat → Res} (h : ∀ v, GM st k (f v)) : GM st k (frc n f) := by rw [frc_eq]; exact h _
theorem GM.kint {kd : IntKind} {n : Nat} {f : AV → Res} (h : ∀ v, GM st k (f v)) : GM st k (kint kd n f) := by rw [kint_eq]; exact h _
theorem GM.ifB {b : Bool} {t e : Res} (ht : GM st k t) (he : GM st k e) : GM st k (ifB b t e) := by cases b <;> assumption
theorem GM.onInt {v : AV} {f : IntKind → Nat → Res} {d : Res} (h : ∀ a b, GM st k (f a b)) (hd : GM st k d) : GM st k (onInt v f d) := by
  rcases onInt_cases v f d with ⟨_, _, _, e⟩ | e <;> rw [e] <;> first | exact h _ _ | exact hd
theorem GM.onBool {v : AV} {f : Bool → Res} {d : Res} (h : ∀ a, GM st k (f a)) (hd : GM st k d) : GM st k (onBool v f d) := by
  rcases onBool_cases v f d with ⟨_, _, e⟩ | e <;> rw [e] <;> first | exact h _ | exact hd
theorem GM.onPtr {v : AV} {f : Pos → Nat → Res} {d : Res} (h : ∀ a b, GM st k (f a b)) (hd : GM st k d) : GM st k (onPtr v f d) := by
  rcases onPtr_cases v f d with ⟨_, _, _, e⟩ | e <;> rw [e] <;> first | exact h _ _ | exact hd
theorem GM.onNptr {v : AV} {f : Pos → Nat → Res} {n d : Res} (hn : GM st k n) (h : ∀ a b, GM st k (f a b)) (hd : GM st k d) : GM st k (onNptr v n f d) := by
  rcases onNptr_cases v n f d with ⟨_, e⟩ | ⟨_, _, _, e⟩ | e <;> rw [e] <;> first | exact h _ _ | exact hd | exact hn
theorem GM.onCons {v : AV} {f : AV → AV → Res} {d : Res} (h : ∀ a b, GM st k (f a b)) (hd : GM st k d) : GM st k (onCons v f d) := by
  rcases onCons_cases v f d with ⟨_, _, _, e⟩ | e <;> rw [e] <;> first | exact h _ _ | exact hd
theorem GM.onList {v : AV} {f : AV → AV → Res} {n d : Res} (hn : GM st k n) (h : ∀ a b, GM st k (f a b)) (hd : GM st k d) : GM st k (onList v n f d) := by
  rcases onList_cases v n f d with ⟨_, e⟩ | ⟨_, _, _, e⟩ | e <;> rw [e] <;> first | exact h _ _ | exact hd | exact hn
theorem GM.onAgg {v : AV} {f : AV → Res} {d : Res} (h : ∀ a, GM st k (f a)) (hd : GM st k d) : GM st k (onAgg v f d) := by
  rcases onAgg_cases v f d with ⟨_, _, e⟩ | e <;> rw [e] <;> first | exact h _ | exact hd
theorem GM.onTup {v : AV} {f : AV → Res} {d : Res} (h : ∀ a, GM st k (f a)) (hd : GM st k d) : GM st k (onTup v f d) := by
  rcases onTup_cases v f d with ⟨_, _, e⟩ | e <;> rw [e] <;> first | exact h _ | exact hd
theorem GM.onStr {v : AV} {f : List Nat → Res} {d : Res} (h : ∀ a, GM st k (f a)) (hd : GM st k d) : GM st k (onStr v f d) := by
  rcases onStr_cases v f d with ⟨_, _, e⟩ | e <;> rw [e] <;> first | exact h _ | exact hd
theorem GM.onYl {v : AV} {f : Pos → Res} {d : Res} (h : ∀ a, GM st k (f a)) (hd : GM st k d) : GM st k (onYl v f d) := by
  rcases onYl_cases v f d with ⟨_, _, e⟩ | e <;> rw [e] <;> first | exact h _ | exact hd
theorem GM.onFn {v : AV} {f : Nat → AV → AV → Res} {d : Res} (h : ∀ a b c, GM st k (f a b c)) (hd : GM st k d) : GM st k (onFn v f d) := by
  rcases onFn_cases v f d with ⟨_, _, _, _, e⟩ | e <;> rw [e] <;> first | exact h _ _ _ | exact hd
theorem GM.onMp {v : AV} {f : Pos → Res} {n d : Res} (hn : GM st k n) (h : ∀ a, GM st k (f a)) (hd : GM st k d) : GM st k (onMp v n f d) := by
  rcases onMp_cases v n f d with ⟨_, e⟩ | ⟨_, _, e⟩ | e <;> rw [e] <;> first | exact h _ | exact hd | exact hn
theorem GM.onSl {v : AV} {f : Pos → Nat → Nat → Nat → Nat → Bool → Res} {n d : Res} (hn : GM st k n) (h : ∀ a b c e g i, GM st k (f a b c e g i)) (hd : GM st k d) : GM st k (onSl v n f d) := by
  rcases onSl_cases v n f d with ⟨_, e⟩ | ⟨_, _, _, _, _, _, _, e⟩ | e <;> rw [e] <;> first | exact h _ _ _ _ _ _ | exact hd | exact hn
theorem GM.cellsK {v : AV} {f : AV → Res} {d : Res} (h : ∀ a, GM st k (f a)) (hd : GM st k d) : GM st k (cellsK v f d) := by
  rcases cellsK_cases v f d with ⟨_, _, e⟩ | e <;> rw [e] <;> first | exact h _ | exact hd
theorem GM.oneK {v : AV} {t e : Res} (h : GM st k t) (hd : GM st k e) : GM st k (oneK v t e) := by
  rcases oneK_cases v t e with ⟨_, q⟩ | q <;> rw [q] <;> first | exact h | exact hd
theorem GM.newBlk {b : Blk} {st0 : St} {f : Pos → St → Res} (h : GM st k (f st0.next (stNew b st0))) : GM st k (newBlk b st0 f) := by rw [newBlk_eq]; exact h
theorem GM.putBlk {p : Pos} {b : Blk} {st0 : St} {f : St → Res} (h : GM st k (f (stPut p b st0))) : GM st k (putBlk p b st0 f) := by rw [putBlk_eq]; exact h
theorem GM.atB {p : Pos} {st0 : St} {f : Blk → Res} {d : Res} (h : ∀ b, GM st k (f b)) (hd : GM st k d) : GM st k (atB p st0 f d) := by
  rcases atB_cases p st0 f d with ⟨_, _, e⟩ | e <;> rw [e] <;> first | exact h _ | exact hd
theorem GM.onMap {b : Blk} {f : AV → Nat → Res} {d : Res} (h : ∀ a c, GM st k (f a c)) (hd : GM st k d) : GM st k (onMap b f d) := by
  cases b <;> first | exact h _ _ | exact hd
theorem GM.mapAt {p : Pos} {st0 : St} {f : AV → Nat → Res} {d : Res} (h : ∀ a c, GM st k (f a c)) (hd : GM st k d) : GM st k (mapAt p st0 f d) := by
  have e0 : Ev.mapAt p st0 f d = Ev.atB p st0 (fun blk => Ev.onMap blk f d) d := by cases st0; rfl
  rw [e0]; exact GM.atB (fun b => GM.onMap h hd) hd
theorem GM.blkGet {o : Nat} {b : Blk} {f : AV → Res} {d : Res} (h : ∀ a, GM st k (f a)) (hd : GM st k d) : GM st k (blkGet o b f d) := by
  rcases blkGet_cases o b f d with ⟨_, _, e⟩ | e <;> rw [e] <;> first | exact h _ | exact hd
theorem GM.blkRange {o n : Nat} {b : Blk} {f : AV → Res} {d : Res} (h : ∀ a, GM st k (f a)) (hd : GM st k d) : GM st k (blkRange o n b f d) := by
  rcases blkRange_cases o n b f d with ⟨_, _, e⟩ | e <;> rw [e] <;> first | exact h _ | exact hd
theorem GM.blkSet {o : Nat} {v : AV} {b : Blk} {f : Blk → Res} {d : Res} (h : ∀ a, GM st k (f a)) (hd : GM st k d) : GM st k (blkSet o v b f d) := by
  rcases blkSet_cases o v b f d with ⟨_, _, _, _, _, e⟩ | e <;> rw [e] <;> first | exact h _ | exact hd
theorem GM.blkOver {o : Nat} {v : AV} {b : Blk} {f : Blk → Res} {d : Res} (h : ∀ a, GM st k (f a)) (hd : GM st k d) : GM st k (blkOver o v b f d) := by
  rcases blkOver_cases o v b f d with ⟨_, _, _, _, _, _, e⟩ | e <;> rw [e] <;> first | exact h _ | exact hd
theorem GM.blkExt {o : Nat} {v : AV} {b : Blk} {f : Blk → Res} {d : Res} (h : ∀ a, GM st k (f a)) (hd : GM st k d) : GM st k (blkExt o v b f d) := by
  rcases blkExt_cases o v b f d with ⟨_, _, _, _, e⟩ | e <;> rw [e] <;> first | exact h _ | exact hd
theorem GM.isOwn {b : Blk} {t e : Res} (h : GM st k t) (hd : GM st k e) : GM st k (isOwn b t e) := by cases b <;> first | exact h | exact hd
theorem GM.lkOn {l : Lk} {a : Res} {f : Nat → Res} {d : Res} (ha : GM st k a) (h : ∀ n, GM st k (f n)) (hd : GM st k d) : GM st k (lkOn l a f d) := by cases l <;> first | exact ha | exact h _ | exact hd
theorem GM.ikOn {l : Ik} {f : Nat → Nat → Res} {g : Nat → Res} {a d : Res} (hf : ∀ a b, GM st k (f a b)) (hg : ∀ a, GM st k (g a)) (ha : GM st k a) (hd : GM st k d) : GM st k (ikOn l f g a d) := by cases l <;> first | exact hf _ _ | exact hg _ | exact ha | exact hd
theorem GM.fkOn {l : Fk} {f : Nat → Nat → Bool → Res} {d : Res} (hf : ∀ a b c, GM st k (f a b c)) (hd : GM st k d) : GM st k (fkOn l f d) := by cases l <;> first | exact hf _ _ _ | exact hd
theorem GM.ckOn {l : Ck} {f : IntKind → Res} {a d : Res} (hf : ∀ a, GM st k (f a)) (ha : GM st k a) (hd : GM st k d) : GM st k (ckOn l f a d) := by cases l <;> first | exact hf _ | exact ha | exact hd
theorem GM.mkGo {l : Mk} {f : Mk → Res} {d : Res} (hf : ∀ a, GM st k (f a)) (hd : GM st k d) : GM st k (mkGo l f d) := by cases l <;> first | exact hf _ | exact hd
theorem GM.mkOn {l : Mk} {a b d : Res} (ha : GM st k a) (hb : GM st k b) (hd : GM st k d) : GM st k (mkOn l a b d) := by cases l <;> assumption
theorem GM.kindsOn {l : Option (List Kd)} {f : List Kd → Res} {d : Res} (hf : ∀ a, GM st k (f a)) (hd : GM st k d) : GM st k (kindsOn l f d) := by cases l <;> first | exact hf _ | exact hd
theorem GM.pairOn {l : Option (Nat × Nat)} {f : Nat → Nat → Res} {d : Res} (hf : ∀ a b, GM st k (f a b)) (hd : GM st k d) : GM st k (pairOn l f d) := by
  cases l with
  | none => exact hd
  | some p => cases p; exact hf _ _
theorem GM.nthK {i : Nat} {l : AV} {f : AV → Res} {d : Res} (h : ∀ a, GM st k (f a)) (hd : GM st k d) : GM st k (nthK i l f d) := by
  rcases nthK_cases f d i l with ⟨_, _, e⟩ | e <;> rw [e] <;> first | exact h _ | exact hd
theorem GM.dropK {i : Nat} {l : AV} {f : AV → Res} {d : Res} (h : ∀ a, GM st k (f a)) (hd : GM st k d) : GM st k (dropK i l f d) := by
  rcases dropK_cases f d i l with ⟨_, _, e⟩ | e <;> rw [e] <;> first | exact h _ | exact hd
theorem GM.takeK {n : Nat} : ∀ {l : AV} {f : AV → Res} {d : Res} (_ : ∀ a, GM st k (f a)) (_ : GM st k d), GM st k (takeK n l f d) := by
  induction n with
  | zero => intro l f d h _; exact h _
  | succ n ih => intro l f d h hd; exact GM.onCons (fun a b => ih (fun c => h _) hd) hd
theorem GM.overAtK {v : AV} {i : Nat} {l : AV} {f : AV → Res} {d : Res} (h : ∀ a, GM st k (f a)) (hd : GM st k d) : GM st k (overAtK v i l f d) := by
  rcases overAtK_cases v i l f d with ⟨_, _, _, _, e⟩ | e <;> rw [e] <;> first | exact h _ | exact hd
theorem GM.lenIs {n : Nat} {l : AV} {t e : Res} (h : GM st k t) (hd : GM st k e) : GM st k (lenIs n l t e) := by
  rcases lenIs_eq t e n l with ⟨_, _, q⟩ | q <;> rw [q] <;> assumption
theorem GM.appK {a b : AV} : ∀ {f : AV → Res} {d : Res} (_ : ∀ a, GM st k (f a)) (_ : GM st k d), GM st k (appK a b f d) := by
  induction a with
  | nil => intro f d h _; exact h _
  | cons x y _ ih => intro f d h hd; exact ih (fun l => h _) hd
  | _ => intro f d _ hd; exact hd
theorem GM.repK {z : AV} {n : Nat} : ∀ {f : AV → Res} {d : Res} (_ : ∀ a, GM st k (f a)) (_ : GM st k d), GM st k (repK z n f d) := by
  induction n with
  | zero => intro f d h _; exact h _
  | succ n ih => intro f d h hd; exact ih (fun l => GM.appK h hd) hd
theorem GM.stake {n : Nat} {l : List Nat} {f : List Nat → Res} {d : Res} (h : ∀ a, GM st k (f a)) (hd : GM st k d) : GM st k (stake n l f d) := by
  rcases stake_cases n l f d with ⟨_, e⟩ | e <;> rw [e] <;> first | exact h _ | exact hd
theorem GM.sdrop {n : Nat} {l : List Nat} {f : List Nat → Res} {d : Res} (h : ∀ a, GM st k (f a)) (hd : GM st k d) : GM st k (sdrop n l f d) := by
  rcases sdrop_cases n l f d with ⟨_, e⟩ | e <;> rw [e] <;> first | exact h _ | exact hd
theorem GM.snth {n : Nat} : ∀ {l : List Nat} {f : Nat → Res} {d : Res} (_ : ∀ a, GM st k (f a)) (_ : GM st k d), GM st k (snth n l f d) := by
  induction n with
  | zero => intro l f d h hd; cases l <;> first | exact hd | exact h _
  | succ n ih => intro l f d h hd; cases l <;> first | exact hd | exact ih h hd
theorem GM.sapp {a b : List Nat} {f : List Nat → Res} (h : ∀ a, GM st k (f a)) : GM st k (sapp b a f) := by rw [sapp_eq]; exact h _
theorem GM.scells {l : List Nat} {f : AV → Res} (h : ∀ a, GM st k (f a)) : GM st k (scells l f) := by
  obtain ⟨c, e, _⟩ := scells_eq l f
  rw [e]; exact h _
theorem GM.cellsS {l : AV} : ∀ {f : List Nat → Res} {d : Res} (_ : ∀ a, GM st k (f a)) (_ : GM st k d), GM st k (cellsS l f d) := by
  induction l with
  | nil => intro f d h _; exact h _
  | cons x y _ ih => intro f d h hd; exact GM.onInt (fun kd n => by cases kd <;> first | exact hd | exact ih (fun l => h _) hd) hd
  | _ => intro f d _ hd; exact hd
theorem GM.cmpT {b : Bool} {f : AV → Res} (h : ∀ a, GM st k (f a)) : GM st k (cmpT b f) := by cases b <;> exact h _
theorem GM.cmpF {b : Bool} {f : AV → Res} (h : ∀ a, GM st k (f a)) : GM st k (cmpF b f) := by cases b <;> exact h _
theorem GM.kindIs {a b : IntKind} {t e : Res} (h : GM st k t) (hd : GM st k e) : GM st k (kindIs a b t e) := by
  rcases kindIs_cases a b t e with ⟨_, q⟩ | q <;> rw [q] <;> assumption
theorem GM.seq {a b : List Nat} {t e : Res} (h : GM st k t) (hd : GM st k e) : GM st k (seq a b t e) := by
  rw [seq_eq]; split <;> assumption
theorem GM.binInt {op : BinOp} {kd : IntKind} {a b : Nat} {f : AV → Res} (h : ∀ a, GM st k (f a)) : GM st k (binInt op kd a b f) := by
  cases op <;> first
    | exact GM.kint h
    | exact GM.cmpT h
    | exact GM.cmpF h
    | exact GM.bad _
    | exact GM.ifB (GM.ifB (GM.ifB (GM.bad _) (GM.kint h)) (GM.bad _)) (GM.bad _)
theorem GM.shOf {op : BinOp} {kd kj : IntKind} {a b : Nat} {f : AV → Res} {d : Res} (h : ∀ a, GM st k (f a)) (hd : GM st k d) : GM st k (shOf op kd kj a b f d) := by
  cases op <;> first
    | exact hd
    | exact GM.ifB (GM.ifB (GM.kint h) (GM.bad _)) (GM.bad _)
    | exact GM.ifB (GM.ifB (GM.ifB (GM.kint h) (GM.bad _)) (GM.bad _)) (GM.bad _)
theorem GM.eqOf {op : BinOp} {f : AV → Res} {d : Res} {b : Bool} (h : ∀ a, GM st k (f a)) (hd : GM st k d) : GM st k (eqOf op f d b) := by
  cases op <;> first | exact hd | exact GM.cmpT h | exact GM.cmpF h
theorem GM.addOf {op : BinOp} {t d : Res} (h : GM st k t) (hd : GM st k d) : GM st k (addOf op t d) := by cases op <;> assumption
theorem GM.cellK {kd : Kd} {a b : AV} {f : Bool → Res} {d : Res} (h : ∀ t, GM st k (f t)) (hd : GM st k d) : GM st k (cellK kd a b f d) := by
  unfold Ev.cellK
  rw [kdOn_eq]
  cases kd
  · exact GM.onBool (fun _ => GM.onBool (fun _ => h _) hd) hd
  · exact GM.onInt (fun _ _ => GM.onInt (fun _ _ => GM.kindIs (GM.kindIs (h _) hd) hd) hd) hd
  · exact GM.onStr (fun _ => GM.onStr (fun _ => GM.seq (h _) (h _)) hd) hd
theorem GM.listEq : ∀ {ks : List Kd} {a b : AV} {f : Bool → Res} {d : Res} (_ : ∀ t, GM st k (f t)) (_ : GM st k d), GM st k (listEq ks a b f d)
  | [], a, b, f, d, h, hd => GM.onList (GM.onList (h _) (fun _ _ => hd) hd) (fun _ _ => hd) hd
  | kd :: ks, a, b, f, d, h, hd => GM.onCons (fun _ _ => GM.onCons (fun _ _ => GM.cellK (fun _ => GM.listEq (fun _ => h _) hd) hd) hd) hd
theorem GM.eqK {t : TypeId} {a b : AV} {f : Bool → Res} {d : Res} (h : ∀ t, GM st k (f t)) (hd : GM st k d) : GM st k (eqK P t a b f d) := by
  unfold Ev.eqK
  repeat' first
    | exact hd
    | exact h _
    | apply GM.listEq
    | apply GM.onNptr
    | apply GM.onSl
    | apply GM.onBool
    | apply GM.onAgg
    | apply GM.ifB
    | apply GM.kindsOn
    | intro _
theorem GM.loadK {t : TypeId} {b : Pos} {o : Nat} {st0 : St} {f : AV → Res} {d : Res} (h : ∀ t, GM st k (f t)) (hd : GM st k d) : GM st k (loadK P t b o st0 f d) :=
  GM.atB (fun _ => GM.lkOn (GM.blkGet h hd) (fun _ => GM.blkRange (fun _ => h _) hd) hd) hd
theorem GM.storeK {t : TypeId} {b : Pos} {o : Nat} {v : AV} {st0 : St} {f : St → Res} {d : Res} (h : ∀ blk, GM st k (f (stPut b blk st0))) (hd : GM st k d) : GM st k (storeK P t b o v st0 f d) :=
  GM.atB (fun _ => GM.lkOn (GM.oneK (GM.blkSet (fun _ => GM.putBlk (h _)) hd) hd) (fun _ => GM.onAgg (fun _ => GM.lenIs (GM.blkOver (fun _ => GM.putBlk (h _)) hd) hd) hd) hd) hd
theorem GM.partK {l : Lk} {o : Nat} {c : AV} {f : AV → Res} {d : Res} (h : ∀ t, GM st k (f t)) (hd : GM st k d) : GM st k (partK l o c f d) :=
  GM.lkOn (GM.nthK h hd) (fun _ => GM.dropK (fun _ => GM.takeK (fun _ => h _) hd) hd) hd
theorem GM.parts {t : TypeId} {fr : Tr AV} : ∀ {l : List (Nat × Operand)} {c : AV} {f : AV → Res} (_ : ∀ t, GM st k (f t)), GM st k (parts P t fr l c f)
  | [], c, f, h => h _
  | (i, x) :: l, c, f, h => GM.opnd fun _ => GM.cellsK (fun _ => GM.pairOn (fun _ _ => GM.lenIs (GM.overAtK (fun _ => GM.parts h) (GM.bad _)) (GM.bad _)) (GM.bad _)) (GM.bad _)
theorem GM.natK {x : Operand} {fr : Tr AV} {f : Nat → Res} {d : Res} (h : ∀ t, GM st k (f t)) (hd : GM st k d) : GM st k (natK x fr f d) :=
  GM.opnd fun _ => GM.onInt (fun _ _ => GM.ifB (h _) hd) hd
theorem GM.optK {x : Option Operand} {fr : Tr AV} {n : Res} {f : Nat → Res} {d : Res} (hn : GM st k n) (h : ∀ t, GM st k (f t)) (hd : GM st k d) : GM st k (optK x fr n f d) := by
  cases x with
  | none => exact hn
  | some x => exact GM.natK h hd
theorem GM.boundsK {l c : Nat} {lo hi mx : Option Operand} {fr : Tr AV} {f : Nat → Nat → Nat → Bool → Res} (h : ∀ a b c d, GM st k (f a b c d)) : GM st k (boundsK l c lo hi mx fr f) := by
  unfold Ev.boundsK
  repeat' first
    | exact GM.bad _
    | exact h _ _ _ _
    | apply GM.optK
    | apply GM.ifB
    | intro _
theorem GM.lenV {n : Nat} {f : AV → Res} (h : ∀ t, GM st k (f t)) : GM st k (lenV n f) := GM.ifB (GM.kint h) (GM.bad _)
theorem GM.arg1 {l : AV} {f : AV → Res} {d : Res} (h : ∀ t, GM st k (f t)) (hd : GM st k d) : GM st k (arg1 l f d) := GM.onCons (fun _ _ => GM.onList (h _) (fun _ _ => hd) hd) hd
theorem GM.arg2 {l : AV} {f : AV → AV → Res} {d : Res} (h : ∀ s t, GM st k (f s t)) (hd : GM st k d) : GM st k (arg2 l f d) := GM.onCons (fun _ _ => GM.onCons (fun _ _ => GM.onList (h _ _) (fun _ _ => hd) hd) hd) hd
theorem GM.lenK {x : AV} {f : Nat → Res} {d : Res} (h : ∀ t, GM st k (f t)) (hd : GM st k d) : GM st k (lenK x f d) := GM.onSl (h _) (fun _ _ _ _ _ _ => h _) (GM.onStr (fun _ => GM.frc h) hd)
theorem GM.lenS {x : AV} {f : Nat → Res} {d : Res} (h : ∀ t, GM st k (f t)) (hd : GM st k d) : GM st k (lenS x f d) := GM.onSl (h _) (fun _ _ _ _ _ _ => h _) hd
theorem GM.firstK {n size : Nat} {x : AV} {st0 : St} {f : AV → Res} {d : Res} (h : ∀ t, GM st k (f t)) (hd : GM st k d) : GM st k (firstK n size x st0 f d) :=
  GM.ifB (h _) (GM.onSl hd (fun _ _ _ _ _ _ => GM.atB (fun _ => GM.blkRange h hd) hd) (GM.onStr (fun _ => GM.ifB (GM.stake (fun _ => GM.scells h) hd) hd) hd))
theorem GM.appendK {by_ size : Nat} {s new : AV} {n : Nat} : GM st k (appendK by_ size s new n st k) := by
  unfold Ev.appendK
  repeat' first
    | exact GM.bad _
    | exact GM.kk _ _ (Nat.le_refl _)
    | exact GM.kk _ _ (le_inc _)
    | apply GM.newBlk
    | apply GM.putBlk
    | apply GM.blkOver
    | apply GM.firstK
    | apply GM.appK
    | apply GM.onSl
    | apply GM.ifB
    | apply GM.frc
    | apply GM.atB
    | apply GM.isOwn
    | intro _
theorem GM.keyEq {m : Mk} {a b : AV} {t e d : Res} (h : GM st k t) (he : GM st k e) (hd : GM st k d) : GM st k (keyEq m a b t e d) :=
  GM.mkOn (GM.onInt (fun _ _ => GM.onInt (fun _ _ => GM.kindIs (GM.ifB h he) hd) hd) hd) (GM.onStr (fun _ => GM.onStr (fun _ => GM.seq h he) hd) hd) hd
theorem GM.entryK {e : AV} {f : AV → AV → AV → Res} {d : Res} (h : ∀ a b c, GM st k (f a b c)) (hd : GM st k d) : GM st k (entryK e f d) := GM.onCons (fun _ _ => GM.onCons (fun _ _ => h _ _ _) hd) hd
theorem GM.mapFind {m : Mk} {key l : AV} {f : AV → Res} {n d : Res} (h : ∀ t, GM st k (f t)) (hn : GM st k n) (hd : GM st k d) : GM st k (mapFind m key l f n d) := by
  induction l with
  | nil => exact hn
  | cons e l _ ih => exact GM.entryK (fun _ _ _ => GM.keyEq (h _) ih hd) hd
  | _ => exact hd
theorem GM.mapPut {m : Mk} {key v l : AV} : ∀ {f : AV → Res} {n d : Res} (_ : ∀ t, GM st k (f t)) (_ : GM st k n) (_ : GM st k d), GM st k (mapPut m key v l f n d) := by
  induction l with
  | nil => intro f n d _ hn _; exact hn
  | cons e l _ ih => intro f n d h hn hd; exact GM.entryK (fun _ _ _ => GM.keyEq (h _) (ih (fun _ => h _) hn hd) hd) hd
  | _ => intro f n d _ _ hd; exact hd
theorem GM.mapDel {m : Mk} {key l : AV} : ∀ {f : AV → Res} {n d : Res} (_ : ∀ t, GM st k (f t)) (_ : GM st k n) (_ : GM st k d), GM st k (mapDel m key l f n d) := by
  induction l with
  | nil => intro f n d _ hn _; exact hn
  | cons e l _ ih => intro f n d h hn hd; exact GM.entryK (fun _ _ _ => GM.keyEq (h _) (ih (fun _ => h _) hn hd) hd) hd
  | _ => intro f n d _ _ hd; exact hd
theorem GM.onIt {b : Blk} {f : Pos → Nat → Nat → Nat → Nat → Res} {d : Res} (h : ∀ a b c e g, GM st k (f a b c e g)) (hd : GM st k d) : GM st k (onIt b f d) := by cases b <;> first | exact h _ _ _ _ _ | exact hd
theorem GM.opnds {fr : Tr AV} : ∀ {l : List Operand} {f : AV → Res} (_ : ∀ t, GM st k (f t)), GM st k (opnds l fr f)
  | [], f, h => h _
  | x :: l, f, h => GM.opnd fun _ => GM.opnds fun _ => h _
theorem GM.onRv {call : CallH} (hc : CallMono call) {g l : AV} : GM st k (onRv (call g l st) k) := by
  cases e : call g l st with
  | fail n => exact .inl ⟨n, rfl⟩
  | ok v st' => exact .inr ⟨v, st', hc _ _ _ _ _ e, rfl⟩

theorem biOf_mono {b : Go.Builtin} {ts : Array TypeId} {l : AV} : GM st k (biOf b P ts l st k) := by
  cases b <;> first
    | exact GM.bad _
    | (show GM st k (biAppend P ts l st k); unfold biAppend
       repeat' first
        | exact GM.bad _
        | exact GM.appendK
        | apply GM.arg2
        | apply GM.lenK
        | apply GM.firstK
        | apply GM.ikOn
        | apply GM.ifB
        | intro _)
    | (show GM st k (biCap P ts l st k); unfold biCap
       repeat' first
        | exact GM.bad _
        | exact GM.kk _ _ (Nat.le_refl _)
        | apply GM.arg1
        | apply GM.lenV
        | apply GM.ikOn
        | apply GM.onSl
        | apply GM.ifB
        | intro _)
    | (show GM st k (biLen P ts l st k); unfold biLen
       repeat' first
        | exact GM.bad _
        | exact GM.kk _ _ (Nat.le_refl _)
        | apply GM.arg1
        | apply GM.lenV
        | apply GM.ikOn
        | apply GM.onSl
        | apply GM.onStr
        | intro _)
    | (show GM st k (biMax P ts l st k); unfold biMax
       repeat' first
        | exact GM.bad _
        | exact GM.kk _ _ (Nat.le_refl _)
        | apply GM.arg2
        | apply GM.onInt
        | apply GM.kindIs
        | apply GM.ifB
        | intro _)
    | (show GM st k (biMin P ts l st k); unfold biMin
       repeat' first
        | exact GM.bad _
        | exact GM.kk _ _ (Nat.le_refl _)
        | apply GM.arg2
        | apply GM.onInt
        | apply GM.kindIs
        | apply GM.ifB
        | intro _)
    | (show GM st k (biCopy P ts l st k); unfold biCopy
       repeat' first
        | exact GM.bad _
        | exact GM.kk _ _ (Nat.le_refl _)
        | apply GM.arg2
        | apply GM.lenS
        | apply GM.lenK
        | apply GM.firstK
        | apply GM.blkOver
        | apply GM.blkExt
        | apply GM.putBlk
        | apply GM.lenV
        | apply GM.ikOn
        | apply GM.frc
        | apply GM.ifB
        | apply GM.onSl
        | apply GM.atB
        | intro _)
    | (show GM st k (biClear P ts l st k); unfold biClear
       repeat' first
        | exact GM.bad _
        | exact GM.kk _ _ (Nat.le_refl _)
        | apply GM.arg1
        | apply GM.cellsK
        | apply GM.lenIs
        | apply GM.repK
        | apply GM.blkOver
        | apply GM.putBlk
        | apply GM.ikOn
        | apply GM.ifB
        | apply GM.onSl
        | apply GM.atB
        | intro _)
    | (show GM st k (biDelete P ts l st k); unfold biDelete
       repeat' first
        | exact GM.bad _
        | exact GM.kk _ _ (Nat.le_refl _)
        | apply GM.arg2
        | apply GM.mkGo
        | apply GM.mapAt
        | apply GM.mapDel
        | apply GM.putBlk
        | apply GM.onMp
        | intro _)

theorem opStep_mono {call : CallH} (hc : CallMono call) {op : Op} {fr : Tr AV} : GM st k (opStep op P call fr st k) := by
  cases op <;> (show GM st k _) <;> first
    | exact GM.bad _
    | (simp only [opStep, gMove, gPick, gAlloc, gBox, gBuild, gBuildSlice, gLoad, gStore, gNil, gBin, gUn, gConv, gMakeFunc, gMakeMap, gMakeSlice, gSlice, gFieldAddr, gField, gIxAddr, gIndex, gLookup, gMapUpdate, gRange, gNext, gEntry, gExtract, gCall,
        opMove, opPick, opAlloc, opBox, opBuild, opBuildSlice, opLoad, opStore, opNil, opBin, opConv, opMakeSlice, opSlice, opFieldAddr, opField, opIxAddr, opIndex, opLookup, opMapUpdate, opRange, opNext, opEntry, opExtract]
       repeat' first
        | exact GM.bad _
        | exact GM.kk _ _ (Nat.le_refl _)
        | exact GM.kk _ _ (le_inc _)
        | apply GM.kint
        | apply GM.cellsK
        | apply GM.newBlk
        | apply GM.putBlk
        | apply GM.mapAt
        | apply GM.blkGet
        | apply GM.blkRange
        | apply GM.loadK
        | apply GM.storeK
        | apply GM.partK
        | apply GM.parts
        | apply GM.lenIs
        | apply GM.repK
        | apply GM.appK
        | apply GM.natK
        | apply GM.boundsK
        | apply GM.mkGo
        | apply GM.shOf
        | apply GM.binInt
        | apply GM.addOf
        | apply GM.sapp
        | apply GM.eqOf
        | apply GM.eqK
        | apply GM.cellsS
        | apply GM.scells
        | apply GM.snth
        | apply GM.stake
        | apply GM.sdrop
        | apply GM.mapFind
        | apply GM.mapPut
        | apply GM.onIt
        | apply GM.entryK
        | apply GM.opnd
        | apply GM.onBool
        | apply GM.onPtr
        | apply GM.onInt
        | apply GM.onStr
        | apply GM.onSl
        | apply GM.onMp
        | apply GM.onAgg
        | apply GM.onTup
        | apply GM.onCons
        | apply GM.onList
        | apply GM.ifB
        | apply GM.frc
        | apply GM.atB
        | apply GM.ikOn
        | apply GM.fkOn
        | apply GM.ckOn
        | apply GM.lkOn
        | apply GM.kindIs
        | apply GM.nthK
        | apply GM.dropK
        | apply GM.takeK
        | intro _
       done)
    | skip
  · next t n ps =>
    show GM st k (opBuildSlice t n ps P fr st k)
    refine GM.ikOn (fun _ _ => GM.bad _) (fun size => GM.ifB (GM.ifB ?_ (GM.cellsK (fun _ => GM.lenIs (GM.repK (fun _ => GM.parts fun _ => GM.newBlk (GM.kk _ _ (le_inc _))) (GM.bad _)) (GM.bad _)) (GM.bad _))) (GM.bad _)) (GM.bad _) (GM.bad _)
    cases ps.toList with
    | nil => exact GM.newBlk (GM.kk _ _ (le_inc _))
    | cons _ _ => exact GM.bad _
  · next u _ x =>
    show GM st k (opUn u x fr st k)
    cases u with
    | neg => exact GM.opnd fun _ => GM.onInt (fun _ _ => GM.kint fun _ => GM.kk _ _ (Nat.le_refl _)) (GM.bad _)
    | not => exact GM.opnd fun _ => GM.onBool (fun _ => GM.cmpF fun _ => GM.kk _ _ (Nat.le_refl _)) (GM.bad _)
    | xor => exact GM.opnd fun _ => GM.onInt (fun _ _ => GM.kint fun _ => GM.kk _ _ (Nat.le_refl _)) (GM.bad _)
    | _ => exact GM.bad _
  · next f a b =>
    show GM st k (opMakeFunc f a b fr st k)
    cases f with
    | func f => exact GM.opnds fun _ => GM.opnds fun _ => GM.kk _ _ (Nat.le_refl _)
    | _ => exact GM.bad _
  · next t r =>
    show GM st k (opMakeMap r fr st k)
    cases r with
    | none => exact GM.newBlk (GM.kk _ _ (le_inc _))
    | some _ => exact GM.bad _
  · next t x lo hi mx =>
    show GM st k (opSlice t x lo hi mx P fr st k)
    refine GM.opnd fun _ => GM.ikOn (fun _ _ => GM.onPtr (fun _ _ => GM.atB (fun _ => GM.blkGet (fun _ => GM.boundsK fun _ _ _ _ => GM.frc fun _ => GM.frc fun _ => GM.frc fun _ => GM.kk _ _ (Nat.le_refl _)) (GM.bad _)) (GM.bad _)) (GM.bad _))
      (fun _ => GM.onSl (GM.boundsK fun _ _ _ _ => GM.kk _ _ (Nat.le_refl _)) (fun _ _ _ _ _ _ => GM.ifB (GM.boundsK fun _ _ _ _ => GM.frc fun _ => GM.frc fun _ => GM.frc fun _ => GM.kk _ _ (Nat.le_refl _)) (GM.bad _)) (GM.bad _))
      (GM.onStr (fun s => ?_) (GM.bad _)) (GM.bad _)
    cases mx with
    | none => exact GM.frc fun _ => GM.boundsK fun _ _ _ _ => GM.stake (fun _ => GM.sdrop (fun _ => GM.kk _ _ (Nat.le_refl _)) (GM.bad _)) (GM.bad _)
    | some _ => exact GM.bad _
  · next c =>
    show GM st k (opCall c P call fr st k)
    cases c with
    | mk callee as_ ts =>
    cases callee with
    | value f => exact GM.opnd fun _ => GM.onFn (fun _ _ _ => GM.opnds fun _ => GM.appK (fun _ => GM.appK (fun _ => GM.onRv hc) (GM.bad _)) (GM.bad _)) (GM.onYl (fun _ => GM.opnds fun _ => GM.onRv hc) (GM.bad _))
    | invoke => exact GM.bad _
    | builtin b => exact GM.opnds fun _ => biOf_mono
end gm
end Ev
end
/- This text proves that every operation of the evaluator's stands for the model's, calls among them. -/
section
namespace Ev
open Go

/-- the fences that are spoken of -/
def FW (F : Fence) : Prop := F = Fence.wide ∨ ∃ l, F = Fence.wide.inRound l
theorem FW.fn {F : Fence} (h : FW F) (f : FuncId) : F.fn f := by rcases h with rfl | ⟨l, rfl⟩ <;> exact trivial
theorem FW.depth {F : Fence} (h : FW F) : F.depth.isSome = false := by rcases h with rfl | ⟨l, rfl⟩ <;> rfl
theorem FW.calls {F : Fence} (h : FW F) {n : Nat} {P : Program} {f : FuncId} {args : Array Value} {w : World} {R : Ending → World → Prop} (hc : Calls P f args w R) : CallsIn F n P f args w R := by
  rcases h with rfl | ⟨l, rfl⟩
  · exact callsIn_wide.2 hc
  · have := callsIn_wide (n := n).2 hc
    exact this
theorem FW.round {F : Fence} (h : FW F) {n : Nat} {P : Program} {l : Nat} {f : FuncId} {tmps : Array Value} {as_ bd : Code} {w : World} {R : Ending → World → Prop} (hc : RoundIn Fence.wide n P l f tmps as_ bd w R) : RoundIn F n P l f tmps as_ bd w R := by
  rcases h with rfl | ⟨l, rfl⟩ <;> exact hc

/-- how a call ends -/
def EndR (φ : Phi) (st : St) (w : World) (v : AV) (st' : St) : Ending → World → Prop
  | .returned x, w' => ∃ φ', VR φ' 0 v [x] ∧ Moved φ st w φ' st' w'
  | _, _ => False
/-- what the evaluator says of calls is so -/
structure CallOk (P : Program) (call : CallH) : Prop where
  mono : CallMono call
  fn : ∀ f as_ st v st', call (.fn f .nil .nil) as_ st = .ok v st' → (∃ fnc, P.funcs[f]? = some fnc ∧ fnc.body.isNone = false ∧ (fnc.name == "runtime.NumGoroutine") = false) ∧
    ∀ φ w args, SR φ st w → VR φ 1 as_ args → Fresh φ st.next st'.next → Calls P f ⟨args⟩ w (EndR φ st w v st')
  yl : ∀ b as_ st v st', call (.yl b) as_ st = .ok v st' →
    ∀ φ w args B N, SR φ st w → φ b = some (B, 0, N) → VR φ 1 as_ args → Fresh φ st.next st'.next → ∃ f tmps asg body, (Instr.yield B ⟨args⟩).run P w = .ok (.round B f tmps asg body) w ∧
      ∀ n, RoundIn Fence.wide n P B f tmps asg body w (EndR φ st w v st')

section ops
variable {P : Program} {o : Oper} {φ : Phi} {st : St} {w : World} {fr : Tr AV} {k : AV → St → Res} {r : Res} {a : Act}

/-- the claim about an operation in a walk -/
def OpIn (P : Program) (o : Oper) (a : Act) (φ : Phi) (st : St) (w : World) (k : AV → St → Res) (r : Res) : Prop :=
  ∃ v st', k v st' = r ∧ (Quiet P o.op → st' = st) ∧ (Fresh φ st.next st'.next → ∀ (F : Fence) (n : Nat) (next : Act → World → Prop) (Q : Exit → Act → World → Prop), FW F →
    (∀ x w' φ', VR φ' 0 v [x] → Moved φ st w φ' st' w' → next (a.put o.dst x) w') → o.wpIn F n P a w next Q)

theorem OpIn.of_sound (h : Sound P o a.eval φ st w k r) (hd : ∀ c, o.op ≠ .defer c) : OpIn P o a φ st w k r := by
  obtain ⟨v, st', h1, h2, h3⟩ := h
  refine ⟨v, st', h1, h2, fun hf F n next Q hF hn => ⟨fun f _ => hF.fn f, ?_⟩⟩
  rw [Oper.semAt_eq _ _ _ hd]
  obtain ⟨x, w', φ', hx, hv, hm⟩ := h3 hf
  rcases hx with hx | ⟨hx, rfl⟩
  · rw [hx]; exact hn x w' φ' hv hm
  · rw [hx]; exact hn _ w' φ' hv hm

theorem run_callFunc {f : FuncId} {fnc : Func} (h1 : P.funcs[f]? = some fnc) (h2 : fnc.body.isNone = false) (h3 : (fnc.name == "runtime.NumGoroutine") = false) (args : Array Value) (w : World) : (callFunc f args).run P w = .ok (.enter f args) w := by
  have h2' : fnc.body ≠ none := fun e => by rw [e] at h2; cases h2
  have h3' : ¬ fnc.name = "runtime.NumGoroutine" := fun e => by rw [e] at h3; revert h3; decide
  unfold callFunc
  simp [h1, h2', h3']

theorem append_one {a b l : AV} {xs ys : List Value} (ha : VR φ 1 a xs) (hb : VR φ 1 b ys) (kk : AV → Res) (d : Res) : (∃ l, appK a b kk d = kk l ∧ VR φ 1 l (xs ++ ys)) ∨ appK a b kk d = d := by
  induction a generalizing xs kk with
  | nil => cases ha; exact .inl ⟨b, rfl, hb⟩
  | cons x a _ ih =>
    cases ha with
    | cons1 _ _ y ys' h1 h2 =>
    rcases ih h2 (fun l => kk (.cons x l)) with ⟨l, e, q⟩ | e
    · exact .inl ⟨_, e, .cons1 _ _ _ _ h1 q⟩
    · exact .inr e
  | _ => exact .inr rfl

theorem opCall_ok {call : CallH} (hc : CallOk P call) (hP : P.underlying 4294967295 = none) {c : Call} (h : opCall c P call fr st k = r) (hr : NF r) (sr : SR φ st w) (ho : o.op = .call c) (hx : ∀ x ∈ c.operands.toList, VR φ 0 (eo fr x) [a.eval x]) : OpIn P o a φ st w k r := by
  have hd : ∀ c, o.op ≠ .defer c := fun c e => by rw [ho] at e; cases e
  cases c with
  | mk callee as_ ts =>
  have nqc : (∃ f, callee = .value f) → ∀ {α : Prop}, Quiet P o.op → α := fun ⟨f, e⟩ => by
    subst e
    exact not_quiet (by rw [ho]; exact .inr rfl)
  have hargs : VR φ 1 (eos fr as_.toList) (as_.toList.map a.eval) := eos_sound _ fun x hm => hx x (by
    have hm := Array.mem_toList_iff.1 hm
    cases callee <;> simp [Call.operands, hm])
  cases callee with
  | invoke => exact hr.no h rfl
  | builtin b =>
    have h : callBi b ts as_ P fr st k = r := h
    unfold callBi at h
    rw [opnds_eq] at h
    have fin : BSound P b ts o.type (as_.map fun | .const _ => true | _ => false) (as_.toList.map a.eval) φ st w k r → OpIn P o a φ st w k r := by
      intro hb
      obtain ⟨v, st', h1, h2, h3⟩ := hb
      refine OpIn.of_sound ⟨v, st', h1, fun q => h2 ?_, fun hf => ?_⟩ hd
      · rw [ho] at q
        cases b <;> first | rfl | exact not_quiet (.inr rfl) q
      · obtain ⟨x, w', φ', q1, q2, q3⟩ := h3 hf
        have he : as_.map a.eval = ⟨as_.toList.map a.eval⟩ := by apply Array.ext'; simp
        refine ⟨x, w', φ', .inl ?_, q2, q3⟩
        simp only [execOp, ho, Sem.run_bind, resolve, Sem.run_pure, Result.andThen_ok, invoke, he]
        exact q1
    have noB : ∀ b', biOf b' = biBad → biOf b' P ts (eos fr as_.toList) st k = r → OpIn P o a φ st w k r := fun b' e q => by
      rw [e] at q
      exact hr.no q rfl
    cases b <;> first
      | exact noB _ rfl h
      | exact fin (biAppend_ok h hr hP sr hargs)
      | exact fin (biLen_ok h hr hP sr hargs)
      | exact fin (biCap_ok h hr hP sr hargs)
      | exact fin (biMax_ok h hr sr hargs)
      | exact fin (biMin_ok h hr sr hargs)
      | exact fin (biCopy_ok h hr hP sr hargs)
      | exact fin (biClear_ok h hr hP sr hargs)
      | exact fin (biDelete_ok h hr hP sr hargs)
  | value f =>
    have h : callVal f as_ call fr st k = r := h
    unfold callVal at h
    rw [opnd_eq] at h
    have hfv := hx f (by simp [Call.operands])
    generalize eo fr f = vf at *
    have he : as_.map a.eval = ⟨as_.toList.map a.eval⟩ := by apply Array.ext'; simp
    rcases onFn_cases vf (fun f fst cap => opnds as_.toList fr fun l => appK l cap (fun l => appK fst l (fun l => onRv (call (.fn f .nil .nil) l st) k) (bad 230)) (bad 231)) (onYl vf (fun b => opnds as_.toList fr fun l => onRv (call (.yl b) l st) k) (bad 232)) with ⟨g, fst, cap, rfl, he1⟩ | he1
    · rw [he1, opnds_eq] at h
      generalize hρ : a.eval f = u at hfv
      cases hfv with
      | fn _ _ _ xs ys h1 h2 =>
      rcases append_one (l := .nil) hargs h2 (fun l => appK fst l (fun l => onRv (call (.fn g .nil .nil) l st) k) (bad 230)) (bad 231) with ⟨l1, e1, q1⟩ | e1
      rotate_left
      · exact hr.no h e1
      rw [e1] at h
      rcases append_one (l := .nil) h1 q1 (fun l => onRv (call (.fn g .nil .nil) l st) k) (bad 230) with ⟨l2, e2, q2⟩ | e2
      rotate_left
      · exact hr.no h e2
      rw [e2] at h
      cases hcall : call (.fn g .nil .nil) l2 st with
      | fail n => rw [hcall] at h; exact hr.no h rfl
      | ok v st' =>
        rw [hcall] at h
        obtain ⟨⟨fnc, f1, f2, f3⟩, hspec⟩ := hc.fn g l2 st v st' hcall
        refine ⟨v, st', h, nqc ⟨f, rfl⟩, fun hf F n next Q hF hn => ⟨fun f _ => hF.fn f, ?_⟩⟩
        rw [Oper.semAt_eq _ _ _ hd]
        have hrun : (execOp a.eval o).run P w = .ok (.enter g ⟨xs ++ (as_.toList.map a.eval ++ ys)⟩) w := by
          simp only [execOp, ho, Sem.run_bind, resolve, hρ, Deferred.ofValue, Sem.run_pure, Result.andThen_ok, invoke, he]
          rw [run_callFunc f1 f2 f3]
          congr 2
          apply Array.ext'
          simp
        rw [hrun]
        refine ⟨fun q => (by rw [hF.depth] at q; cases q), ?_⟩
        refine CallsIn.mono (hF.calls (hspec φ w _ sr q2 hf)) fun e w' he => ?_
        cases e with
        | returned x => obtain ⟨φ', g1, g2⟩ := he; exact hn x w' φ' g1 g2
        | panicked _ => exact he.elim
        | outgrown => exact he.elim
    · rw [he1] at h
      rcases onYl_cases vf _ (bad 232) with ⟨b, rfl, he2⟩ | he2
      rotate_left
      · exact hr.no h he2
      rw [he2, opnds_eq] at h
      generalize hρ : a.eval f = u at hfv
      cases hfv with
      | yl _ B N hb =>
      cases hcall : call (.yl b) (eos fr as_.toList) st with
      | fail n => rw [hcall] at h; exact hr.no h rfl
      | ok v st' =>
        rw [hcall] at h
        have hspec := hc.yl b _ st v st' hcall
        refine ⟨v, st', h, nqc ⟨f, rfl⟩, fun hf F n next Q hF hn => ⟨fun f _ => hF.fn f, ?_⟩⟩
        obtain ⟨g, tmps, asg, body, y1, y2⟩ := hspec φ w _ B N sr hb hargs hf
        rw [Oper.semAt_eq _ _ _ hd]
        have hrun : (execOp a.eval o).run P w = .ok (.round B g tmps asg body) w := by
          simp only [execOp, ho, Sem.run_bind, resolve, hρ, Deferred.ofValue, Sem.run_pure, Result.andThen_ok, invoke, he]
          rw [← y1]
          simp
        rw [hrun]
        refine ⟨fun q => (by rw [hF.depth] at q; cases q), ?_⟩
        refine RoundIn.mono (hF.round (y2 _)) fun e w' he => ?_
        cases e with
        | returned x => obtain ⟨φ', g1, g2⟩ := he; exact hn x w' φ' g1 g2
        | panicked _ => exact he.elim
        | outgrown => exact he.elim

theorem opIn {call : CallH} (hc : CallOk P call) (hP : P.underlying 4294967295 = none) (h : opStep o.op P call fr st k = r) (hr : NF r) (sr : SR φ st w) (hx : ∀ x ∈ o.op.operands.toList, VR φ 0 (eo fr x) [a.eval x]) : OpIn P o a φ st w k r := by
  have nb : ∀ {op : Op}, opStep op = gBad → opStep op P call fr st k = r → OpIn P o a φ st w k r := fun e q => by rw [e] at q; exact hr.no q rfl
  cases ho : o.op <;> rw [ho] at h hx <;> first
    | exact nb rfl h
    | exact opCall_ok hc hP h hr sr ho hx
    | (refine OpIn.of_sound ?_ (fun c e => by rw [ho] at e; cases e)
       first
| (refine opMove_ok ?_ sr (.inl ho) (hx _ (by simp [Op.operands])); exact h)
        | (refine opMove_ok ?_ sr (.inr ho) (hx _ (by simp [Op.operands])); exact h)
        | (refine opPick_ok ?_ hr sr ho (hx _ (by simp [Op.operands])) (hx _ (by simp [Op.operands])) (hx _ (by simp [Op.operands])); exact h)
        | (refine opNil_ok ?_ hr sr ho (hx _ (by simp [Op.operands])); exact h)
        | (refine opLoad_ok ?_ hr sr ho (hx _ (by simp [Op.operands])); exact h)
        | (refine opStore_ok ?_ hr sr ho (hx _ (by simp [Op.operands])) (hx _ (by simp [Op.operands])); exact h)
        | (refine opAlloc_ok (fr := fr) ?_ hr sr ho; exact h)
        | (refine opBox_ok ?_ hr sr ho (hx _ (by simp [Op.operands])); exact h)
        | (refine opFieldAddr_ok ?_ hr sr ho (hx _ (by simp [Op.operands])); exact h)
        | (refine opField_ok ?_ hr sr ho (hx _ (by simp [Op.operands])); exact h)
        | (refine opExtract_ok ?_ hr sr ho (hx _ (by simp [Op.operands])); exact h)
        | (refine opIxAddr_ok ?_ hr sr ho (hx _ (by simp [Op.operands])) (hx _ (by simp [Op.operands])); exact h)
        | (refine opIndex_ok ?_ hr sr ho (hx _ (by simp [Op.operands])) (hx _ (by simp [Op.operands])); exact h)
        | (refine opBin_ok ?_ hr sr ho (hx _ (by simp [Op.operands])) (hx _ (by simp [Op.operands])); exact h)
        | (refine opMakeFunc_ok ?_ hr sr ho (fun x hm => hx x (by simp [Op.operands, Array.mem_toList_iff.1 hm])) (fun x hm => hx x (by simp [Op.operands, Array.mem_toList_iff.1 hm])); exact h)
        | (refine opBuild_ok ?_ hr sr ho (fun p hm => hx p.2 (by simp only [Op.operands]; exact List.mem_map.2 ⟨p, hm, rfl⟩)); exact h)
        | (refine opBuildSlice_ok ?_ hr sr ho (fun p hm => hx p.2 (by simp only [Op.operands]; exact List.mem_map.2 ⟨p, hm, rfl⟩)); exact h)
        | (refine opMakeSlice_ok ?_ hr sr ho (hx _ (by simp [Op.operands])) (hx _ (by simp [Op.operands])); exact h)
        | (refine opSlice_ok ?_ hr sr ho (hx _ (by simp [Op.operands])) (fun y e => hx y (by subst e; simp [Op.operands])) (fun y e => hx y (by subst e; simp [Op.operands])) (fun y e => hx y (by subst e; simp [Op.operands])); exact h)
        | (refine opConv_ok ?_ hr sr ho (hx _ (by simp [Op.operands])); exact h)
        | (refine opMakeMap_ok (fr := fr) ?_ hr sr ho; exact h)
        | (refine opLookup_ok ?_ hr sr ho (hx _ (by simp [Op.operands])) (hx _ (by simp [Op.operands])); exact h)
        | (refine opMapUpdate_ok ?_ hr sr (.inl ho) (hx _ (by simp [Op.operands])) (hx _ (by simp [Op.operands])) (hx _ (by simp [Op.operands])); exact h)
        | (refine opMapUpdate_ok ?_ hr sr (.inr ho) (hx _ (by simp [Op.operands])) (hx _ (by simp [Op.operands])) (hx _ (by simp [Op.operands])); exact h)
        | (refine opRange_ok ?_ hr sr ho (hx _ (by simp [Op.operands])); exact h)
        | (refine opNext_ok ?_ hr sr ho (hx _ (by simp [Op.operands])); exact h)
        | (refine opEntry_ok ?_ hr sr ho (hx _ (by simp [Op.operands])); exact h))
    | skip
  next u t x =>
  refine OpIn.of_sound ?_ (fun c e => by rw [ho] at e; cases e)
  have hxx := hx x (by simp [Op.operands])
  have h : opUn u x fr st k = r := h
  cases u with
  | neg => exact opNeg_ok h hr sr ho hxx
  | xor => exact opCom_ok h hr sr ho hxx
  | not => exact opNot_ok h hr sr ho hxx
  | plus => exact hr.no h rfl
end ops
end Ev
end
/- This text proves that the evaluator's regions whose order is settled stand for the model's. -/
section
namespace Ev
open Go

/-- the frame with one temporary turned -/
noncomputable def setD (dst : Option Nat) (v : AV) (fr : Tr AV) : Tr AV := match dst with | none => fr | some d => Tr.ins (pos d) v fr
theorem setDst_eq (dst : Option Nat) (v : AV) (fr : Tr AV) (k : Tr AV → Res) : setDst dst v fr k = k (setD dst v fr) := by
  cases dst with
  | none => rfl
  | some d => exact Tr.set_eq _ _ _ _
theorem put_size (a : Act) (dst : Option Nat) (x : Value) : (a.put dst x).tmps.size = a.tmps.size := by cases dst <;> simp [Act.put]
theorem put_defers (a : Act) (dst : Option Nat) (x : Value) : (a.put dst x).defers = a.defers := by cases dst <;> rfl
theorem FR.put {φ φ' : Phi} {fr : Tr AV} {a : Act} {dst : Option Nat} {v : AV} {x : Value} (he : Ext φ φ') (h : FR φ fr a.tmps) (hv : VR φ' 0 v [x]) (hd : ∀ d, dst = some d → d < a.tmps.size) : FR φ' (setD dst v fr) (a.put dst x).tmps := by
  cases dst with
  | none => exact h.mono he
  | some d =>
    intro t u hu
    have hd := hd d rfl
    by_cases e : t = d
    · subst e
      rw [show setD (some t) v fr = Tr.ins (pos t) v fr from rfl, Tr.find_ins_same] at hu
      cases hu
      exact ⟨x, by simp [Act.put, hd], hv⟩
    · rw [show setD (some d) v fr = Tr.ins (pos d) v fr from rfl, Tr.find_ins_ne _ _ _ _ (fun q => e (pos_inj q))] at hu
      obtain ⟨y, h1, h2⟩ := (h.mono he) t u hu
      exact ⟨y, by simp [Act.put, Ne.symm e, h1], h2⟩

/-- whether an operation is wanted -/
theorem guardK_cases {φ : Phi} {all : Array Oper} {o : Oper} {fr : Tr AV} {a : Act} {yes no r : Res} (h : guardK all o.guard fr yes no = r) (hr : NF r)
    (hf : ∀ j want d v, o.guard = some (j, want) → guardTmp all j = some d → Tr.find (pos d) fr = some v → ∃ x, a.tmps[d]? = some x ∧ VR φ 0 v [x]) :
    (Region.wanted o (yielded all a.tmps) = true ∧ yes = r) ∨ (Region.wanted o (yielded all a.tmps) = false ∧ no = r) := by
  unfold Region.wanted
  cases hg : o.guard with
  | none => rw [hg] at h; exact .inl ⟨rfl, h⟩
  | some p =>
    obtain ⟨j, want⟩ := p
    rw [hg] at h
    cases ht : guardTmp all j with
    | none =>
      have h : (Option.rec (motive := fun _ => Res) (bad 250) (fun d => Tr.get (pos d) fr (fun v => onBool v (fun b => boolEq b want yes no) (onTup v (fun _ => no) (bad 251))) (bad 252)) (guardTmp all j)) = r := h
      rw [ht] at h; exact hr.no h rfl
    | some d =>
      have h : (Option.rec (motive := fun _ => Res) (bad 250) (fun d => Tr.get (pos d) fr (fun v => onBool v (fun b => boolEq b want yes no) (onTup v (fun _ => no) (bad 251))) (bad 252)) (guardTmp all j)) = r := h
      rw [ht] at h
      have h : Tr.get (pos d) fr (fun v => onBool v (fun b => boolEq b want yes no) (onTup v (fun _ => no) (bad 251))) (bad 252) = r := h
      have hy : ∀ x, a.tmps[d]? = some x → yielded all a.tmps j = match x with | .bool b => some b | _ => none := by
        intro x hx
        unfold guardTmp at ht
        unfold yielded
        rw [ht]
        simp only [Option.bind_some, hx]
        cases x <;> rfl
      rcases Tr.get_cases (pos d) fr (fun v => onBool v (fun b => boolEq b want yes no) (onTup v (fun _ => no) (bad 251))) (bad 252) with ⟨v, hv, he⟩ | he
      rotate_left
      · exact hr.no h he
      rw [he] at h
      obtain ⟨x, hx, hvr⟩ := hf j want d v hg ht hv
      rcases onBool_cases v (fun b => boolEq b want yes no) (onTup v (fun _ => no) (bad 251)) with ⟨b, rfl, he⟩ | he
      · rw [he] at h
        cases hvr
        simp only [hy _ hx]
        cases b <;> cases want <;> first
          | exact .inl ⟨rfl, h⟩
          | exact .inr ⟨rfl, h⟩
      · rw [he] at h
        rcases onTup_cases v (fun _ => no) (bad 251) with ⟨l, rfl, he⟩ | he
        · rw [he] at h
          cases hvr
          simp only [hy _ hx]
          exact .inr ⟨rfl, h⟩
        · exact hr.no h he

section
variable {P : Program} {call : CallH}

/-- the result is a failure, or the continuation's at a state whose next block is not below the old one -/
def GF (st : St) (k : FrK) (r : Res) : Prop := (∃ n, r = .fail n) ∨ ∃ fr' st', st.next.num ≤ st'.next.num ∧ r = k fr' st'
theorem GF.guard {st : St} {k : FrK} {all : Array Oper} {g : Option (Nat × Bool)} {fr : Tr AV} {yes no : Res} (h1 : GF st k yes) (h2 : GF st k no) : GF st k (guardK all g fr yes no) := by
  cases g with
  | none => exact h1
  | some p =>
    obtain ⟨j, want⟩ := p
    show GF st k (Option.rec (motive := fun _ => Res) (bad 250) (fun d => Tr.get (pos d) fr (fun v => onBool v (fun b => boolEq b want yes no) (onTup v (fun _ => no) (bad 251))) (bad 252)) (guardTmp all j))
    cases guardTmp all j with
    | none => exact .inl ⟨250, rfl⟩
    | some d =>
      show GF st k (Tr.get (pos d) fr _ (bad 252))
      rcases Tr.get_cases (pos d) fr (fun v => onBool v (fun b => boolEq b want yes no) (onTup v (fun _ => no) (bad 251))) (bad 252) with ⟨v, _, he⟩ | he
      · rw [he]
        rcases onBool_cases v (fun b => boolEq b want yes no) (onTup v (fun _ => no) (bad 251)) with ⟨b, _, he⟩ | he
        · rw [he]
          cases b <;> cases want <;> first | exact h1 | exact h2
        · rw [he]
          rcases onTup_cases v (fun _ => no) (bad 251) with ⟨l, _, he⟩ | he
          · rw [he]; exact h2
          · rw [he]; exact .inl ⟨251, rfl⟩
      · rw [he]; exact .inl ⟨252, rfl⟩
theorem ops_mono (hc : CallMono call) (all : Array Oper) (k : FrK) : ∀ (l : List Oper) (fr : Tr AV) (st : St), GF st k (opsGo l all P call fr st k)
  | [], fr, st => .inr ⟨fr, st, Nat.le_refl _, rfl⟩
  | o :: l, fr, st => by
    show GF st k (operStep o all P call fr st (fun fr st => opsGo l all P call fr st k))
    cases o with
    | mk dst op type ps after guard =>
    refine GF.guard ?_ ?_
    · rcases opStep_mono (P := P) (st := st) (k := putK dst fr (fun fr st => opsGo l all P call fr st k)) hc (op := op) (fr := fr) with ⟨n, e⟩ | ⟨v, st1, h1, e⟩
      · exact .inl ⟨n, e⟩
      · rw [e]
        unfold putK
        rw [setDst_eq]
        rcases ops_mono hc all k l (setD dst v fr) st1 with h | ⟨fr', st', h2, h3⟩
        · exact .inl h
        · exact .inr ⟨fr', st', Nat.le_trans h1 h2, h3⟩
    · rw [setDst_eq]; exact ops_mono hc all k l _ st

/-- an empty tuple stands where nothing was reckoned -/
theorem undef_vr (φ : Phi) : VR φ 0 (.tup .nil) [Go.undef] := .tup _ _ .nil1

theorem opsIn (hc : CallOk P call) (hP : P.underlying 4294967295 = none) (all : Array Oper) {F : Fence} (hF : FW F) (n : Nat) (Q : Exit → Act → World → Prop) {fr' : Tr AV} {st' : St} {e : Ex} :
    ∀ (l : List Oper) (i : Nat), (∀ j, l[j]? = all[i + j]?) → ∀ (fr : Tr AV) (st : St) (φ : Phi) (a : Act) (w : World), opsGo l all P call fr st cNorm = .ok e fr' st' → SR φ st w → FR φ fr a.tmps → (∀ o ∈ l, ∀ d, o.dst = some d → d < a.tmps.size) →
      Fresh φ st.next st'.next → (∀ φ' a' w', FR φ' fr' a'.tmps → a'.tmps.size = a.tmps.size → a'.defers = a.defers → Moved φ st w φ' st' w' → Q .normal a' w') → wpOpsIn F n P all Q (List.range' i l.length) a w
  | [], i, _, fr, st, φ, a, w, h, sr, hf, _, _, hQ => by
    cases h
    exact hQ φ a w hf rfl rfl (.refl sr)
  | o :: l, i, hl, fr, st, φ, a, w, h, sr, hf, hd, hfr, hQ => by
    have hi : all[i]? = some o := by have := hl 0; simpa using this.symm
    have hl' : ∀ j, l[j]? = all[i + 1 + j]? := fun j => by have := hl (j + 1); rw [List.getElem?_cons_succ] at this; rw [this]; congr 1; omega
    have hnf : NF (.ok e fr' st') := fun n q => by cases q
    rw [List.length_cons, List.range'_succ]
    simp only [wpOpsIn, hi]
    have hdo : ∀ d, o.dst = some d → d < a.tmps.size := hd o (List.mem_cons_self ..)
    have hdl : ∀ o ∈ l, ∀ d, o.dst = some d → d < a.tmps.size := fun o ho => hd o (List.mem_cons_of_mem _ ho)
    have h : guardK all o.guard fr (opStep o.op P call fr st (putK o.dst fr (fun fr st => opsGo l all P call fr st cNorm))) (setDst o.dst (.tup .nil) fr fun fr => opsGo l all P call fr st cNorm) = .ok e fr' st' := by
      cases o; exact h
    rcases guardK_cases (φ := φ) (a := a) h hnf (fun j want d v _ _ hv => hf d v hv) with ⟨hw, h⟩ | ⟨hw, h⟩
    · rw [if_pos hw]
      obtain ⟨v, st1, h1, _, h3⟩ := opIn hc hP (o := o) (a := a) h hnf sr (fun x _ => eo_sound hf sr.glob x)
      unfold putK at h1
      rw [setDst_eq] at h1
      replace h1 : opsGo l all P call (setD o.dst v fr) st1 cNorm = .ok e fr' st' := h1
      have hm : st1.next.num ≤ st'.next.num := by
        rcases ops_mono (P := P) hc.mono all cNorm l (setD o.dst v fr) st1 with ⟨n, q⟩ | ⟨fr2, st2, q1, q2⟩
        · rw [h1] at q; cases q
        · rw [h1] at q2; cases q2; exact q1
      refine h3 (fun b q1 q2 => hfr b q1 (by omega)) F n _ Q hF fun x w1 φ1 hv hmv => ?_
      refine opsIn hc hP all hF n Q l (i + 1) hl' (setD o.dst v fr) st1 φ1 (a.put o.dst x) w1 h1 hmv.sr (hf.put hmv.ext hv hdo) (fun o ho d hdd => by rw [put_size]; exact hdl o ho d hdd) (fun b q1 q2 => ?_) (fun φ2 a2 w2 g1 g2 g3 g4 => ?_)
      · refine Classical.byContradiction fun q => ?_
        by_cases hb : φ b = none
        · have := hmv.only b hb q; omega
        · exact hb (hfr b (by have := hmv.mono; omega) q2)
      · exact hQ φ2 a2 w2 g1 (g2.trans (put_size _ _ _)) (g3.trans (put_defers _ _ _)) (hmv.trans g4)
    · rw [if_neg (by simp [hw])]
      rw [setDst_eq] at h
      refine ⟨fun f _ => hF.fn f, ?_⟩
      refine opsIn hc hP all hF n Q l (i + 1) hl' (setD o.dst (.tup .nil) fr) st φ (a.put o.dst Go.undef) w h sr (hf.put (.refl φ) (undef_vr φ) hdo) (fun o ho d hdd => by rw [put_size]; exact hdl o ho d hdd) hfr (fun φ2 a2 w2 g1 g2 g3 g4 => ?_)
      exact hQ φ2 a2 w2 g1 (g2.trans (put_size _ _ _)) (g3.trans (put_defers _ _ _)) g4
end
end Ev
end
/- This text proves what a run of the evaluator through a region whose order is open records. -/
section
namespace Ev
open Go

theorem posEq_cases {R : Type} : ∀ (p q : Pos) (t e : R), posEq p q t e = e ∨ (p = q ∧ posEq p q t e = t)
  | .h, q, t, e => by cases q <;> first | exact .inr ⟨rfl, rfl⟩ | exact .inl rfl
  | .o p, q, t, e => by
    cases q with
    | o q =>
      rcases posEq_cases p q t e with h | ⟨h1, h2⟩
      · exact .inl h
      · exact .inr ⟨by rw [h1], h2⟩
    | _ => exact .inl rfl
  | .i p, q, t, e => by
    cases q with
    | i q =>
      rcases posEq_cases p q t e with h | ⟨h1, h2⟩
      · exact .inl h
      · exact .inr ⟨by rw [h1], h2⟩
    | _ => exact .inl rfl
theorem boolEq_cases {R : Type} (p q : Bool) (t e : R) : boolEq p q t e = e ∨ (p = q ∧ boolEq p q t e = t) := by
  cases p <;> cases q <;> first | exact .inr ⟨rfl, rfl⟩ | exact .inl rfl
theorem natEq_cases {R : Type} (p q : Nat) (t e : R) : ifB (Nat.beq p q) t e = e ∨ (p = q ∧ ifB (Nat.beq p q) t e = t) := by
  rcases ifB_cases (Nat.beq p q) t e with ⟨h, he⟩ | ⟨_, he⟩
  · exact .inr ⟨Nat.eq_of_beq_eq_true h, he⟩
  · exact .inl he
theorem avEq_cases {R : Type} (e : R) (a : AV) : ∀ (b : AV) (t : R), avEq a b t e = e ∨ (a = b ∧ avEq a b t e = t) := by
  induction a with
  | nil =>
    intro b t
    rcases onList_cases b t (fun _ _ => e) e with ⟨rfl, he⟩ | ⟨_, _, _, he⟩ | he
    · exact .inr ⟨rfl, he⟩
    · exact .inl he
    · exact .inl he
  | cons x y ihx ihy =>
    intro b t
    rcases onCons_cases b (fun x' y' => avEq x x' (avEq y y' t e) e) e with ⟨x', y', rfl, he⟩ | he
    · have he : avEq (.cons x y) (.cons x' y') t e = avEq x x' (avEq y y' t e) e := he
      rw [he]
      rcases ihx x' (avEq y y' t e) with h | ⟨h1, h2⟩
      · exact .inl h
      · rw [h2]
        rcases ihy y' t with h | ⟨h3, h4⟩
        · exact .inl h
        · exact .inr ⟨by rw [h1, h3], h4⟩
    · exact .inl he
  | int k n =>
    intro b t
    rcases onInt_cases b (fun j m => kindIs k j (ifB (Nat.beq n m) t e) e) e with ⟨j, m, rfl, he⟩ | he
    · have he : avEq (.int k n) (.int j m) t e = kindIs k j (ifB (Nat.beq n m) t e) e := he
      rw [he]
      rcases kindIs_cases k j (ifB (Nat.beq n m) t e) e with ⟨rfl, h⟩ | h
      · rw [h]
        rcases natEq_cases n m t e with h | ⟨h1, h2⟩
        · exact .inl h
        · exact .inr ⟨by rw [h1], h2⟩
      · exact .inl h
    · exact .inl he
  | bool u =>
    intro b t
    rcases onBool_cases b (fun y => boolEq u y t e) e with ⟨y, rfl, he⟩ | he
    · have he : avEq (.bool u) (.bool y) t e = boolEq u y t e := he
      rw [he]
      rcases boolEq_cases u y t e with h | ⟨h1, h2⟩
      · exact .inl h
      · exact .inr ⟨by rw [h1], h2⟩
    · exact .inl he
  | str u =>
    intro b t
    rcases onStr_cases b (fun y => seq u y t e) e with ⟨y, rfl, he⟩ | he
    · have he : avEq (.str u) (.str y) t e = seq u y t e := he
      rw [he, seq_eq]
      by_cases h : u = y
      · rw [if_pos h]; exact .inr ⟨by rw [h], rfl⟩
      · rw [if_neg h]; exact .inl rfl
    · exact .inl he
  | nilp =>
    intro b t
    rcases onNptr_cases b t (fun _ _ => e) e with ⟨rfl, he⟩ | ⟨_, _, _, he⟩ | he
    · exact .inr ⟨rfl, he⟩
    · exact .inl he
    · exact .inl he
  | ptr p o =>
    intro b t
    rcases onPtr_cases b (fun q m => posEq p q (ifB (Nat.beq o m) t e) e) e with ⟨q, m, rfl, he⟩ | he
    · have he : avEq (.ptr p o) (.ptr q m) t e = posEq p q (ifB (Nat.beq o m) t e) e := he
      rw [he]
      rcases posEq_cases p q (ifB (Nat.beq o m) t e) e with h | ⟨h1, h2⟩
      · exact .inl h
      · rw [h2]
        rcases natEq_cases o m t e with h | ⟨h3, h4⟩
        · exact .inl h
        · exact .inr ⟨by rw [h1, h3], h4⟩
    · exact .inl he
  | nils =>
    intro b t
    rcases onSl_cases b t (fun _ _ _ _ _ _ => e) e with ⟨rfl, he⟩ | ⟨_, _, _, _, _, _, _, he⟩ | he
    · exact .inr ⟨rfl, he⟩
    · exact .inl he
    · exact .inl he
  | sl p o l c z x =>
    intro b t
    rcases onSl_cases b e (fun q o' l' c' z' y => posEq p q (ifB (Nat.beq o o') (ifB (Nat.beq l l') (ifB (Nat.beq c c') (ifB (Nat.beq z z') (boolEq x y t e) e) e) e) e) e) e with ⟨_, he⟩ | ⟨q, o', l', c', z', y, rfl, he⟩ | he
    · exact .inl he
    · have he : avEq (.sl p o l c z x) (.sl q o' l' c' z' y) t e = posEq p q (ifB (Nat.beq o o') (ifB (Nat.beq l l') (ifB (Nat.beq c c') (ifB (Nat.beq z z') (boolEq x y t e) e) e) e) e) e := he
      rw [he]
      rcases posEq_cases p q (ifB (Nat.beq o o') (ifB (Nat.beq l l') (ifB (Nat.beq c c') (ifB (Nat.beq z z') (boolEq x y t e) e) e) e) e) e with h | ⟨h1, h⟩
      · exact .inl h
      rw [h]
      rcases natEq_cases o o' (ifB (Nat.beq l l') (ifB (Nat.beq c c') (ifB (Nat.beq z z') (boolEq x y t e) e) e) e) e with h | ⟨h2, h⟩
      · exact .inl h
      rw [h]
      rcases natEq_cases l l' (ifB (Nat.beq c c') (ifB (Nat.beq z z') (boolEq x y t e) e) e) e with h | ⟨h3, h⟩
      · exact .inl h
      rw [h]
      rcases natEq_cases c c' (ifB (Nat.beq z z') (boolEq x y t e) e) e with h | ⟨h4, h⟩
      · exact .inl h
      rw [h]
      rcases natEq_cases z z' (boolEq x y t e) e with h | ⟨h5, h⟩
      · exact .inl h
      rw [h]
      rcases boolEq_cases x y t e with h | ⟨h6, h⟩
      · exact .inl h
      · exact .inr ⟨by rw [h1, h2, h3, h4, h5, h6], h⟩
    · exact .inl he
  | nilm =>
    intro b t
    rcases onMp_cases b t (fun _ => e) e with ⟨rfl, he⟩ | ⟨_, _, he⟩ | he
    · exact .inr ⟨rfl, he⟩
    · exact .inl he
    · exact .inl he
  | mp p =>
    intro b t
    rcases onMp_cases b e (fun q => posEq p q t e) e with ⟨_, he⟩ | ⟨q, rfl, he⟩ | he
    · exact .inl he
    · have he : avEq (.mp p) (.mp q) t e = posEq p q t e := he
      rw [he]
      rcases posEq_cases p q t e with h | ⟨h1, h2⟩
      · exact .inl h
      · exact .inr ⟨by rw [h1], h2⟩
    · exact .inl he
  | fn f x y ihx ihy =>
    intro b t
    rcases onFn_cases b (fun g x' y' => ifB (Nat.beq f g) (avEq x x' (avEq y y' t e) e) e) e with ⟨g, x', y', rfl, he⟩ | he
    · have he : avEq (.fn f x y) (.fn g x' y') t e = ifB (Nat.beq f g) (avEq x x' (avEq y y' t e) e) e := he
      rw [he]
      rcases natEq_cases f g (avEq x x' (avEq y y' t e) e) e with h | ⟨h0, h⟩
      · exact .inl h
      rw [h]
      rcases ihx x' (avEq y y' t e) with h | ⟨h1, h2⟩
      · exact .inl h
      · rw [h2]
        rcases ihy y' t with h | ⟨h3, h4⟩
        · exact .inl h
        · exact .inr ⟨by rw [h0, h1, h3], h4⟩
    · exact .inl he
  | nilf =>
    intro b t
    rcases onNilf_cases b t e with ⟨rfl, he⟩ | he
    · exact .inr ⟨rfl, he⟩
    · exact .inl he
  | ifc => intro b t; exact .inl rfl
  | nili => intro b t; exact .inl rfl
  | agg l ih =>
    intro b t
    rcases onAgg_cases b (fun y => avEq l y t e) e with ⟨y, rfl, he⟩ | he
    · have he : avEq (.agg l) (.agg y) t e = avEq l y t e := he
      rw [he]
      rcases ih y t with h | ⟨h1, h2⟩
      · exact .inl h
      · exact .inr ⟨by rw [h1], h2⟩
    · exact .inl he
  | tup l ih =>
    intro b t
    rcases onTup_cases b (fun y => avEq l y t e) e with ⟨y, rfl, he⟩ | he
    · have he : avEq (.tup l) (.tup y) t e = avEq l y t e := he
      rw [he]
      rcases ih y t with h | ⟨h1, h2⟩
      · exact .inl h
      · exact .inr ⟨by rw [h1], h2⟩
    · exact .inl he
  | yl p =>
    intro b t
    rcases onYl_cases b (fun q => posEq p q t e) e with ⟨q, rfl, he⟩ | he
    · have he : avEq (.yl p) (.yl q) t e = posEq p q t e := he
      rw [he]
      rcases posEq_cases p q t e with h | ⟨h1, h2⟩
      · exact .inl h
      · exact .inr ⟨by rw [h1], h2⟩
    · exact .inl he
  | undef => intro b t; exact .inl rfl
theorem blkEq_cases {R : Type} (a b : Blk) (t e : R) : blkEq a b t e = e ∨ (a = b ∧ blkEq a b t e = t) := by
  cases a with
  | l x =>
    cases b with
    | l y =>
      rcases avEq_cases e x y t with h | ⟨h1, h2⟩
      · exact .inl h
      · exact .inr ⟨by rw [h1], h2⟩
    | _ => exact .inl rfl
  | m x n =>
    cases b with
    | m y m =>
      have he : blkEq (.m x n) (.m y m) t e = ifB (Nat.beq n m) (avEq x y t e) e := rfl
      rw [he]
      rcases natEq_cases n m (avEq x y t e) e with h | ⟨h0, h⟩
      · exact .inl h
      rw [h]
      rcases avEq_cases e x y t with h | ⟨h1, h2⟩
      · exact .inl h
      · exact .inr ⟨by rw [h0, h1], h2⟩
    | _ => exact .inl rfl
  | _ => exact .inl rfl

theorem bit_cases {R : Type} (m j : Nat) (t e : R) : (m.testBit j = true ∧ bit m j t e = t) ∨ bit m j t e = e := by
  unfold bit
  rcases ifB_cases (Nat.beq (Nat.land (Nat.shiftRight m j) 1) 1) t e with ⟨h, he⟩ | ⟨_, he⟩
  · refine .inl ⟨?_, he⟩
    have h : Nat.land (Nat.shiftRight m j) 1 = 1 := Nat.eq_of_beq_eq_true h
    have h2 : (m >>> j) &&& 1 = 1 := h
    rw [Nat.and_one_is_mod] at h2
    rw [Nat.testBit, Nat.one_and_eq_mod_two, h2]
    rfl
  · exact .inr he

/-! ### the record -/
structure Rec where
  fr : Tr AV
  st : St
  v : AV
  c : Option Cls

/-- whether an operation is wanted, in the evaluator's frame -/
def GuardIs (all : Array Oper) (g : Option (Nat × Bool)) (fr : Tr AV) (b : Bool) : Prop :=
  match g with
  | none => b = true
  | some (j, want) => ∃ d v, guardTmp all j = some d ∧ Tr.find (pos d) fr = some v ∧ ((∃ u, v = .bool u ∧ b = (u == want)) ∨ (∃ l, v = .tup l ∧ b = false))
theorem guard_is {all : Array Oper} {g : Option (Nat × Bool)} {fr : Tr AV} {yes no r : Res} (h : guardK all g fr yes no = r) (hr : NF r) :
    (GuardIs all g fr true ∧ yes = r) ∨ (GuardIs all g fr false ∧ no = r) := by
  cases g with
  | none => exact .inl ⟨rfl, h⟩
  | some p =>
    obtain ⟨j, want⟩ := p
    have h : (Option.rec (motive := fun _ => Res) (bad 250) (fun d => Tr.get (pos d) fr (fun v => onBool v (fun b => boolEq b want yes no) (onTup v (fun _ => no) (bad 251))) (bad 252)) (guardTmp all j)) = r := h
    cases ht : guardTmp all j with
    | none => rw [ht] at h; exact hr.no h rfl
    | some d =>
      rw [ht] at h
      have h : Tr.get (pos d) fr (fun v => onBool v (fun b => boolEq b want yes no) (onTup v (fun _ => no) (bad 251))) (bad 252) = r := h
      rcases Tr.get_cases (pos d) fr (fun v => onBool v (fun b => boolEq b want yes no) (onTup v (fun _ => no) (bad 251))) (bad 252) with ⟨v, hv, he⟩ | he
      rotate_left
      · exact hr.no h he
      rw [he] at h
      rcases onBool_cases v (fun b => boolEq b want yes no) (onTup v (fun _ => no) (bad 251)) with ⟨b, rfl, he⟩ | he
      · rw [he] at h
        cases b <;> cases want <;> first
          | exact .inl ⟨⟨d, _, ht, hv, .inl ⟨_, rfl, rfl⟩⟩, h⟩
          | exact .inr ⟨⟨d, _, ht, hv, .inl ⟨_, rfl, rfl⟩⟩, h⟩
      · rw [he] at h
        rcases onTup_cases v (fun _ => no) (bad 251) with ⟨l, rfl, he⟩ | he
        · rw [he] at h
          exact .inr ⟨⟨d, _, ht, hv, .inr ⟨_, rfl, rfl⟩⟩, h⟩
        · exact hr.no h he
theorem wanted_of {φ : Phi} {all : Array Oper} {o : Oper} {fr : Tr AV} {a : Act} {b : Bool} (h : GuardIs all o.guard fr b)
    (hf : ∀ j want d v, o.guard = some (j, want) → guardTmp all j = some d → Tr.find (pos d) fr = some v → ∃ x, a.tmps[d]? = some x ∧ VR φ 0 v [x]) : Region.wanted o (yielded all a.tmps) = b := by
  unfold Region.wanted
  cases hg : o.guard with
  | none => rw [hg] at h; exact h.symm
  | some p =>
    obtain ⟨j, want⟩ := p
    rw [hg] at h
    obtain ⟨d, v, ht, hv, hh⟩ := h
    obtain ⟨x, hx, hvr⟩ := hf j want d v hg ht hv
    have hy : yielded all a.tmps j = match x with | .bool b => some b | _ => none := by
      unfold guardTmp at ht
      unfold yielded
      rw [ht]
      simp only [Option.bind_some, hx]
      cases x <;> rfl
    simp only [hy]
    rcases hh with ⟨u, rfl, rfl⟩ | ⟨l, rfl, rfl⟩
    · cases hvr; cases u <;> cases want <;> rfl
    · cases hvr; rfl

/-- it would yield the same in another state -/
def Again (P : Program) (call : CallH) (o : Op) (fr : Tr AV) (st : St) (v : AV) : Prop := ∃ t, NF (again o P call fr st v t)

section
variable (P : Program) (call : CallH) (ops : Array Oper) (ms : List Nat)
/-- one step of the record -/
def StepOk (T : List Rec) (x : Rec) (fr' : Tr AV) (st' : St) : Prop :=
  ∃ o, ops[T.length]? = some o ∧ fr' = setD o.dst x.v x.fr ∧
   ((x.c = none ∧ x.v = .tup .nil ∧ st' = x.st ∧ GuardIs ops o.guard x.fr false) ∨
    (GuardIs ops o.guard x.fr true ∧
     ((x.c = some .pure ∧ cls P o.op = .pure ∧ st' = x.st ∧ ∃ st1, opStep o.op P call x.fr ⟨.e, x.st.next⟩ reify = reify x.v st1) ∨
      (x.c = some .read ∧ cls P o.op = .read ∧ st' = x.st ∧ (∃ st1, opStep o.op P call x.fr x.st reify = reify x.v st1) ∧
        ∀ i y, T[i]? = some y → y.c = some .eff → (ms.getD T.length 0).testBit i = true ∨ Again P call o.op x.fr y.st x.v) ∨
      (x.c = some .alloc ∧ cls P o.op = .alloc ∧ ∃ st1 blk, opStep o.op P call x.fr ⟨.e, x.st.next⟩ reify = reify x.v st1 ∧ st1.next = x.st.next.inc ∧ Tr.find x.st.next st1.heap = some blk ∧ st' = stNew blk x.st) ∨
      (x.c = some .eff ∧ cls P o.op = .eff ∧ opStep o.op P call x.fr x.st reify = reify x.v st' ∧
        ∀ i y, T[i]? = some y → (ms.getD T.length 0).testBit i = true ∨ (y.c ≠ some .eff ∧ (y.c = some .read → ∃ oi, ops[i]? = some oi ∧ Again P call oi.op y.fr st' y.v) ∧
          (y.c = some .alloc → ∃ z, Tr.find y.st.next x.st.heap = some z ∧ Tr.find y.st.next st'.heap = some z))))))

inductive TOk (fr0 : Tr AV) (st0 : St) : List Rec → Tr AV → St → Prop
  | nil : TOk fr0 st0 [] fr0 st0
  | snoc (T : List Rec) (x : Rec) (fr' : Tr AV) (st' : St) : TOk fr0 st0 T x.fr x.st → StepOk P call ops ms T x fr' st' → TOk fr0 st0 (T ++ [x]) fr' st'
end

def HasE (i : Nat) (st : St) : Log → Prop
  | .nil => False
  | .eff j s l => (j = i ∧ s = st) ∨ HasE i st l
  | .qt _ _ _ _ l => HasE i st l
  | .al _ _ l => HasE i st l
def HasQ (i : Nat) (o : Op) (fr : Tr AV) (v : AV) : Log → Prop
  | .nil => False
  | .eff _ _ l => HasQ i o fr v l
  | .qt j o' fr' v' l => (j = i ∧ o' = o ∧ fr' = fr ∧ v' = v) ∨ HasQ i o fr v l
  | .al _ _ l => HasQ i o fr v l
def HasA (i : Nat) (b : Pos) : Log → Prop
  | .nil => False
  | .eff _ _ l => HasA i b l
  | .qt _ _ _ _ l => HasA i b l
  | .al j b' l => (j = i ∧ b' = b) ∨ HasA i b l

section
variable {P : Program} {call : CallH} {ops : Array Oper} {ms : List Nat}

theorem again_cases {o : Op} {fr : Tr AV} {st : St} {v : AV} {t r : Res} (h : again o P call fr st v t = r) (hr : NF r) : Again P call o fr st v := ⟨t, by rw [h]; exact hr⟩
/-- what is behind a check comes out of it -/
theorem again_to {hc : CallMono call} {o : Op} {fr : Tr AV} {st : St} {v : AV} {t r : Res} (h : again o P call fr st v t = r) (hr : NF r) : t = r := by
  rcases opStep_mono (P := P) (st := st) (k := fun w _ => avEq v w t (bad 253)) hc (op := o) (fr := fr) with ⟨n, e⟩ | ⟨w, st', _, e⟩
  · exact hr.no h e
  · unfold again at h
    rw [e] at h
    rcases avEq_cases (bad 253) v w t with q | ⟨_, q⟩
    · exact hr.no h q
    · exact q.symm.trans h

theorem logEff_spec (hc : CallMono call) {m : Nat} {st0 st1 : St} {k r : Res} (hr : NF r) : ∀ log : Log, logEff m P call st0 st1 k log = r →
    k = r ∧ (∀ i st, HasE i st log → m.testBit i = true) ∧ (∀ i o fr v, HasQ i o fr v log → m.testBit i = true ∨ Again P call o fr st1 v) ∧
      (∀ i b, HasA i b log → m.testBit i = true ∨ ∃ z, Tr.find b st0.heap = some z ∧ Tr.find b st1.heap = some z)
  | .nil, h => ⟨h, fun _ _ q => q.elim, fun _ _ _ _ q => q.elim, fun _ _ q => q.elim⟩
  | .eff j s l, h => by
    have h : bit m j (logEff m P call st0 st1 k l) (bad 254) = r := h
    rcases bit_cases m j (logEff m P call st0 st1 k l) (bad 254) with ⟨hb, he⟩ | he
    · rw [he] at h
      obtain ⟨h1, h2, h3, h4⟩ := logEff_spec hc hr l h
      exact ⟨h1, fun i st q => by
        rcases q with ⟨rfl, _⟩ | q
        · exact hb
        · exact h2 i st q, h3, h4⟩
    · exact hr.no h he
  | .qt j o fr v l, h => by
    have h : bit m j (logEff m P call st0 st1 k l) (again o P call fr st1 v (logEff m P call st0 st1 k l)) = r := h
    have key : logEff m P call st0 st1 k l = r ∧ (m.testBit j = true ∨ Again P call o fr st1 v) := by
      rcases bit_cases m j (logEff m P call st0 st1 k l) (again o P call fr st1 v (logEff m P call st0 st1 k l)) with ⟨hb, he⟩ | he
      · rw [he] at h; exact ⟨h, .inl hb⟩
      · rw [he] at h; exact ⟨again_to (hc := hc) h hr, .inr (again_cases h hr)⟩
    obtain ⟨h1, h2, h3, h4⟩ := logEff_spec hc hr l key.1
    exact ⟨h1, h2, fun i o' fr' v' q => by
      rcases q with ⟨rfl, rfl, rfl, rfl⟩ | q
      · exact key.2
      · exact h3 i o' fr' v' q, h4⟩
  | .al j b l, h => by
    have h : bit m j (logEff m P call st0 st1 k l) (onSt st0 fun h0 _ => onSt st1 fun h1 _ => Tr.get b h0 (fun x => Tr.get b h1 (fun y => blkEq x y (logEff m P call st0 st1 k l) (bad 255)) (bad 256)) (bad 257)) = r := h
    have key : logEff m P call st0 st1 k l = r ∧ (m.testBit j = true ∨ ∃ z, Tr.find b st0.heap = some z ∧ Tr.find b st1.heap = some z) := by
      rcases bit_cases m j (logEff m P call st0 st1 k l) (onSt st0 fun h0 _ => onSt st1 fun h1 _ => Tr.get b h0 (fun x => Tr.get b h1 (fun y => blkEq x y (logEff m P call st0 st1 k l) (bad 255)) (bad 256)) (bad 257)) with ⟨hb, he⟩ | he
      · rw [he] at h; exact ⟨h, .inl hb⟩
      · rw [he] at h
        cases st0 with
        | mk h0 n0 =>
        cases st1 with
        | mk h1 n1 =>
        have h : Tr.get b h0 (fun x => Tr.get b h1 (fun y => blkEq x y (logEff m P call ⟨h0, n0⟩ ⟨h1, n1⟩ k l) (bad 255)) (bad 256)) (bad 257) = r := h
        rcases Tr.get_cases b h0 (fun x => Tr.get b h1 (fun y => blkEq x y (logEff m P call ⟨h0, n0⟩ ⟨h1, n1⟩ k l) (bad 255)) (bad 256)) (bad 257) with ⟨x, hx, he⟩ | he
        rotate_left
        · exact hr.no h he
        rw [he] at h
        rcases Tr.get_cases b h1 (fun y => blkEq x y (logEff m P call ⟨h0, n0⟩ ⟨h1, n1⟩ k l) (bad 255)) (bad 256) with ⟨y, hy, he⟩ | he
        rotate_left
        · exact hr.no h he
        rw [he] at h
        rcases blkEq_cases x y (logEff m P call ⟨h0, n0⟩ ⟨h1, n1⟩ k l) (bad 255) with q | ⟨rfl, q⟩
        · exact hr.no h q
        · rw [q] at h
          exact ⟨h, .inr ⟨x, hx, hy⟩⟩
    obtain ⟨h1, h2, h3, h4⟩ := logEff_spec hc hr l key.1
    exact ⟨h1, h2, h3, fun i b' q => by
      rcases q with ⟨rfl, rfl⟩ | q
      · exact key.2
      · exact h4 i b' q⟩

theorem logRead_spec (hc : CallMono call) {m : Nat} {o : Op} {fr : Tr AV} {v : AV} {k r : Res} (hr : NF r) : ∀ log : Log, logRead m o P call fr v k log = r →
    k = r ∧ ∀ i st, HasE i st log → m.testBit i = true ∨ Again P call o fr st v
  | .nil, h => ⟨h, fun _ _ q => q.elim⟩
  | .eff j s l, h => by
    have h : bit m j (logRead m o P call fr v k l) (again o P call fr s v (logRead m o P call fr v k l)) = r := h
    have key : logRead m o P call fr v k l = r ∧ (m.testBit j = true ∨ Again P call o fr s v) := by
      rcases bit_cases m j (logRead m o P call fr v k l) (again o P call fr s v (logRead m o P call fr v k l)) with ⟨hb, he⟩ | he
      · rw [he] at h; exact ⟨h, .inl hb⟩
      · rw [he] at h; exact ⟨again_to (hc := hc) h hr, .inr (again_cases h hr)⟩
    obtain ⟨h1, h2⟩ := logRead_spec hc hr l key.1
    exact ⟨h1, fun i st q => by
      rcases q with ⟨rfl, rfl⟩ | q
      · exact key.2
      · exact h2 i st q⟩
  | .qt j o' fr' v' l, h => logRead_spec hc hr l h
  | .al j b l, h => logRead_spec hc hr l h

/-- the log tells of the record -/
def LogOk (ops : Array Oper) (T : List Rec) (log : Log) : Prop := ∀ i y, T[i]? = some y → (y.c = some .eff → HasE i y.st log) ∧ (y.c = some .read → ∃ oi, ops[i]? = some oi ∧ HasQ i oi.op y.fr y.v log) ∧ (y.c = some .alloc → HasA i y.st.next log)

theorem onReif_cases {r : Res} {k : AV → St → Res} : (∃ v st, r = reify v st ∧ onReif r k = k v st) ∨ (∃ n, onReif r k = .fail n) ∨ ∃ ex v l r' st, r = .ok ex (.n v l r') st ∧ onReif r k = k v st := by
  cases r with
  | fail n => exact .inr (.inl ⟨n, rfl⟩)
  | ok ex t st =>
    cases t with
    | e => exact .inr (.inl ⟨292, rfl⟩)
    | z l r => exact .inr (.inl ⟨293, rfl⟩)
    | n v l r => exact .inr (.inr ⟨ex, v, l, r, st, rfl, rfl⟩)
/-- an operation seen through its value and state -/
theorem reif_op (hc : CallMono call) {op : Op} {fr : Tr AV} {st : St} {k : AV → St → Res} {r : Res} (h : onReif (opStep op P call fr st reify) k = r) (hr : NF r) : ∃ v st1, opStep op P call fr st reify = reify v st1 ∧ st.next.num ≤ st1.next.num ∧ k v st1 = r := by
  rcases opStep_mono (P := P) (st := st) (k := reify) hc (op := op) (fr := fr) with ⟨n, e⟩ | ⟨v, st1, h1, e⟩
  · rw [e] at h; exact hr.no h rfl
  · rw [e] at h; exact ⟨v, st1, e, h1, h⟩

theorem draw_trace (hc : CallMono call) {fr0 : Tr AV} {st0 : St} {k : FrK} {r : Res} (hr : NF r) : ∀ (l : List Oper) (ml : List Nat) (T : List Rec) (log : Log) (fr : Tr AV) (st : St), (∀ j, l[j]? = ops[T.length + j]?) → (∀ j, ml[j]? = ms[T.length + j]?) →
    TOk P call ops ms fr0 st0 T fr st → LogOk ops T log → drawGo l ml T.length log ops P call fr st k = r → ∃ T' fr' st', TOk P call ops ms fr0 st0 T' fr' st' ∧ T'.length = T.length + l.length ∧ k fr' st' = r
  | [], ml, T, log, fr, st, _, _, hT, _, h => ⟨T, fr, st, hT, rfl, h⟩
  | o :: l, ml, T, log, fr, st, hl, hm, hT, hlog, h => by
    cases ml with
    | nil => exact hr.no h rfl
    | cons m ml =>
    have ho : ops[T.length]? = some o := by have := hl 0; simpa using this.symm
    have hm0 : ms.getD T.length 0 = m := by
      have := hm 0
      rw [List.getElem?_cons_zero, Nat.add_zero] at this
      rw [List.getD_eq_getElem?_getD, ← this]; rfl
    have hl' : ∀ (x : Rec) j, l[j]? = ops[(T ++ [x]).length + j]? := fun x j => by
      have := hl (j + 1); rw [List.getElem?_cons_succ] at this; rw [this]; congr 1; simp; omega
    have hm' : ∀ (x : Rec) j, ml[j]? = ms[(T ++ [x]).length + j]? := fun x j => by
      have := hm (j + 1); rw [List.getElem?_cons_succ] at this; rw [this]; congr 1; simp; omega
    have h : guardK ops o.guard fr (drawOne o.dst o.op m T.length log P call fr st (fun log fr st => drawGo l ml (Nat.succ T.length) log ops P call fr st k)) (setDst o.dst (.tup .nil) fr fun fr => drawGo l ml (Nat.succ T.length) log ops P call fr st k) = r := by
      cases o; exact h
    have go : ∀ (x : Rec) (log' : Log) (fr' : Tr AV) (st' : St), x.fr = fr → x.st = st → StepOk P call ops ms T x fr' st' → LogOk ops (T ++ [x]) log' → drawGo l ml (Nat.succ T.length) log' ops P call fr' st' k = r →
        ∃ T' fr' st', TOk P call ops ms fr0 st0 T' fr' st' ∧ T'.length = T.length + (o :: l).length ∧ k fr' st' = r := by
      intro x log' fr' st' hx1 hx2 hs hlg hd
      subst hx1; subst hx2
      have hlen : (T ++ [x]).length = Nat.succ T.length := by simp
      obtain ⟨T', fr2, st2, q1, q2, q3⟩ := draw_trace hc hr l ml (T ++ [x]) log' fr' st' (hl' x) (hm' x) (.snoc T x fr' st' hT hs) hlg (by rw [hlen]; exact hd)
      exact ⟨T', fr2, st2, q1, by rw [q2, hlen, List.length_cons]; omega, q3⟩
    have oldLog : ∀ (x : Rec) (log' : Log), (∀ i s, HasE i s log → HasE i s log') → (∀ i o f v, HasQ i o f v log → HasQ i o f v log') → (∀ i b, HasA i b log → HasA i b log') →
        ((x.c = some .eff → HasE T.length x.st log') ∧ (x.c = some .read → ∃ oi, ops[T.length]? = some oi ∧ HasQ T.length oi.op x.fr x.v log') ∧ (x.c = some .alloc → HasA T.length x.st.next log')) → LogOk ops (T ++ [x]) log' := by
      intro x log' h1 h2 h3 h4 i y hy
      rw [List.getElem?_append] at hy
      split at hy
      · obtain ⟨a1, a2, a3⟩ := hlog i y hy
        exact ⟨fun q => h1 _ _ (a1 q), fun q => let ⟨oi, b1, b2⟩ := a2 q; ⟨oi, b1, h2 _ _ _ _ b2⟩, fun q => h3 _ _ (a3 q)⟩
      · next hi =>
        have : i = T.length := by
          have := (List.getElem?_eq_some_iff.1 hy).1
          simp at this
          omega
        subst this
        rw [Nat.sub_self] at hy
        cases hy
        exact h4
    rcases guard_is h hr with ⟨hg, h⟩ | ⟨hg, h⟩
    · unfold drawOne at h
      cases hcl : cls P o.op with
      | pure =>
        rw [hcl] at h
        have h : onReif (opStep o.op P call fr ⟨.e, st.next⟩ reify) (fun v _ => setDst o.dst v fr fun fr => drawGo l ml (Nat.succ T.length) log ops P call fr st k) = r := by cases st; exact h
        obtain ⟨v, st1, e1, _, e2⟩ := reif_op hc h hr
        rw [setDst_eq] at e2
        exact go ⟨fr, st, v, some .pure⟩ log _ _ rfl rfl ⟨o, ho, rfl, .inr ⟨hg, .inl ⟨rfl, hcl, rfl, st1, e1⟩⟩⟩ (oldLog _ _ (fun _ _ q => q) (fun _ _ _ _ q => q) (fun _ _ q => q) ⟨nofun, nofun, nofun⟩) e2
      | read =>
        rw [hcl] at h
        have h : onReif (opStep o.op P call fr st reify) (fun v _ => logRead m o.op P call fr v (setDst o.dst v fr fun fr1 => drawGo l ml (Nat.succ T.length) (.qt T.length o.op fr v log) ops P call fr1 st k) log) = r := h
        obtain ⟨v, st1, e1, _, e2⟩ := reif_op hc h hr
        obtain ⟨e3, e4⟩ := logRead_spec hc hr log e2
        rw [setDst_eq] at e3
        refine go ⟨fr, st, v, some .read⟩ (.qt T.length o.op fr v log) _ _ rfl rfl ⟨o, ho, rfl, .inr ⟨hg, .inr (.inl ⟨rfl, hcl, rfl, ⟨st1, e1⟩, fun i y hy hq => ?_⟩)⟩⟩ (oldLog _ (.qt T.length o.op fr v log) (fun _ _ q => q) (fun _ _ _ _ q => Or.inr q) (fun _ _ q => q) ⟨nofun, fun _ => ⟨o, ho, Or.inl ⟨rfl, rfl, rfl, rfl⟩⟩, nofun⟩) e3
        rw [hm0]
        exact e4 i y.st ((hlog i y hy).1 hq)
      | alloc =>
        rw [hcl] at h
        have h : onReif (opStep o.op P call fr ⟨.e, st.next⟩ reify) (fun v st1 => onSt st1 fun h1 n1 => Pos.succ st.next fun n2 => posEq n2 n1 (Tr.get st.next h1 (fun blk => Tr.set st.next blk st.heap fun h => setDst o.dst v fr fun fr => drawGo l ml (Nat.succ T.length) (.al T.length st.next log) ops P call fr ⟨h, n1⟩ k) (bad 291)) (bad 294)) = r := by cases st; exact h
        obtain ⟨v, st1, e1, _, e2⟩ := reif_op hc h hr
        cases st1 with
        | mk h1 n1 =>
        have e2 : (Pos.succ st.next fun n2 => posEq n2 n1 (Tr.get st.next h1 (fun blk => Tr.set st.next blk st.heap fun h => setDst o.dst v fr fun fr => drawGo l ml (Nat.succ T.length) (.al T.length st.next log) ops P call fr ⟨h, n1⟩ k) (bad 291)) (bad 294)) = r := e2
        rw [Pos.succ_eq] at e2
        rcases posEq_cases st.next.inc n1 (Tr.get st.next h1 (fun blk => Tr.set st.next blk st.heap fun h => setDst o.dst v fr fun fr => drawGo l ml (Nat.succ T.length) (.al T.length st.next log) ops P call fr ⟨h, n1⟩ k) (bad 291)) (bad 294) with q | ⟨hn, q⟩
        · exact hr.no e2 q
        rw [q] at e2
        rcases Tr.get_cases st.next h1 (fun blk => Tr.set st.next blk st.heap fun h => setDst o.dst v fr fun fr => drawGo l ml (Nat.succ T.length) (.al T.length st.next log) ops P call fr ⟨h, n1⟩ k) (bad 291) with ⟨blk, hb, q⟩ | q
        rotate_left
        · exact hr.no e2 q
        rw [q, Tr.set_eq, setDst_eq] at e2
        subst hn
        exact go ⟨fr, st, v, some .alloc⟩ (.al T.length st.next log) _ (stNew blk st) rfl rfl ⟨o, ho, rfl, .inr ⟨hg, .inr (.inr (.inl ⟨rfl, hcl, _, blk, e1, rfl, hb, rfl⟩))⟩⟩ (oldLog _ (.al T.length st.next log) (fun _ _ q => q) (fun _ _ _ _ q => q) (fun _ _ q => Or.inr q) ⟨nofun, nofun, fun _ => Or.inl ⟨rfl, rfl⟩⟩) e2
      | eff =>
        rw [hcl] at h
        have h : onReif (opStep o.op P call fr st reify) (fun v st1 => logEff m P call st st1 (setDst o.dst v fr fun fr => drawGo l ml (Nat.succ T.length) (.eff T.length st log) ops P call fr st1 k) log) = r := h
        obtain ⟨v, st1, e1, _, e2⟩ := reif_op hc h hr
        obtain ⟨e3, e4, e5, e6⟩ := logEff_spec hc hr log e2
        rw [setDst_eq] at e3
        refine go ⟨fr, st, v, some .eff⟩ (.eff T.length st log) _ st1 rfl rfl ⟨o, ho, rfl, .inr ⟨hg, .inr (.inr (.inr ⟨rfl, hcl, e1, fun i y hy => ?_⟩))⟩⟩ (oldLog _ (.eff T.length st log) (fun _ _ q => Or.inr q) (fun _ _ _ _ q => q) (fun _ _ q => q) ⟨fun _ => Or.inl ⟨rfl, rfl⟩, nofun, nofun⟩) e3
        rw [hm0]
        obtain ⟨b1, b2, b3⟩ := hlog i y hy
        by_cases hbit : m.testBit i = true
        · exact .inl hbit
        · refine .inr ⟨fun q => hbit (e4 i y.st (b1 q)), fun q => ?_, fun q => ?_⟩
          · obtain ⟨oi, c1, c2⟩ := b2 q
            exact ⟨oi, c1, (e5 i oi.op y.fr y.v c2).resolve_left hbit⟩
          · exact (e6 i y.st.next (b3 q)).resolve_left hbit
    · rw [setDst_eq] at h
      exact go ⟨fr, st, .tup .nil, none⟩ log _ _ rfl rfl ⟨o, ho, rfl, .inl ⟨rfl, rfl, rfl, hg⟩⟩ (oldLog _ _ (fun _ _ q => q) (fun _ _ _ _ q => q) (fun _ _ q => q) ⟨nofun, nofun, nofun⟩) h
end
end Ev
end
/- This text puts the record of a region whose order is open into functions of the operations' numbers, and proves what the region's edges give. -/
section
namespace Ev
open Go

section
variable (P : Program) (call : CallH) (ops : Array Oper) (ms : List Nat)
/-- the record as functions -/
structure Canon (fr : Nat → Tr AV) (st : Nat → St) (v : Nat → AV) (c : Nat → Option Cls) : Prop where
  next : ∀ j o, ops[j]? = some o → fr (j + 1) = setD o.dst (v j) (fr j)
  step : ∀ j o, ops[j]? = some o → (c j = none ∧ v j = .tup .nil ∧ st (j + 1) = st j ∧ GuardIs ops o.guard (fr j) false) ∨
    (GuardIs ops o.guard (fr j) true ∧
     ((c j = some .pure ∧ cls P o.op = .pure ∧ st (j + 1) = st j ∧ ∃ st1, opStep o.op P call (fr j) ⟨.e, (st j).next⟩ reify = reify (v j) st1) ∨
      (c j = some .read ∧ cls P o.op = .read ∧ st (j + 1) = st j ∧ (∃ st1, opStep o.op P call (fr j) (st j) reify = reify (v j) st1) ∧
        ∀ i, i < j → c i = some .eff → (ms.getD j 0).testBit i = true ∨ Again P call o.op (fr j) (st i) (v j)) ∨
      (c j = some .alloc ∧ cls P o.op = .alloc ∧ ∃ st1 blk, opStep o.op P call (fr j) ⟨.e, (st j).next⟩ reify = reify (v j) st1 ∧ st1.next = (st j).next.inc ∧ Tr.find (st j).next st1.heap = some blk ∧ st (j + 1) = stNew blk (st j)) ∨
      (c j = some .eff ∧ cls P o.op = .eff ∧ opStep o.op P call (fr j) (st j) reify = reify (v j) (st (j + 1)) ∧
        ∀ i oi, i < j → ops[i]? = some oi → (ms.getD j 0).testBit i = true ∨ (c i ≠ some .eff ∧ (c i = some .read → Again P call oi.op (fr i) (st (j + 1)) (v i)) ∧
          (c i = some .alloc → ∃ z, Tr.find (st i).next (st j).heap = some z ∧ Tr.find (st i).next (st (j + 1)).heap = some z)))))
end

section
variable {P : Program} {call : CallH} {ops : Array Oper} {ms : List Nat}

noncomputable def stA (T : List Rec) (stE : St) (j : Nat) : St := match T[j]? with | some y => y.st | none => stE
noncomputable def frA (T : List Rec) (frE : Tr AV) (j : Nat) : Tr AV := match T[j]? with | some y => y.fr | none => frE
theorem trace_at {fr0 frE : Tr AV} {st0 stE : St} {T : List Rec} (h : TOk P call ops ms fr0 st0 T frE stE) :
    frA T frE 0 = fr0 ∧ stA T stE 0 = st0 ∧ ∀ j y, T[j]? = some y → StepOk P call ops ms (T.take j) y (frA T frE (j + 1)) (stA T stE (j + 1)) := by
  induction h with
  | nil => exact ⟨rfl, rfl, fun j y q => by simp at q⟩
  | snoc T x fr' st' hT hs ih =>
    obtain ⟨i1, i2, i3⟩ := ih
    have hlt : ∀ j, j < T.length → (T ++ [x])[j]? = T[j]? := fun j hj => List.getElem?_append_left hj
    have hx : (T ++ [x])[T.length]? = some x := by simp
    have hend : (T ++ [x])[T.length + 1]? = none := by simp
    refine ⟨?_, ?_, fun j y q => ?_⟩
    · rcases Nat.eq_zero_or_pos T.length with q | q
      · have hnil : T = [] := List.eq_nil_of_length_eq_zero q
        subst hnil
        exact i1
      · unfold frA at i1 ⊢
        rw [hlt 0 q]
        cases e : T[0]? with
        | none => rw [List.getElem?_eq_none_iff] at e; omega
        | some y => rw [e] at i1; exact i1
    · rcases Nat.eq_zero_or_pos T.length with q | q
      · have hnil : T = [] := List.eq_nil_of_length_eq_zero q
        subst hnil
        exact i2
      · unfold stA at i2 ⊢
        rw [hlt 0 q]
        cases e : T[0]? with
        | none => rw [List.getElem?_eq_none_iff] at e; omega
        | some y => rw [e] at i2; exact i2
    · have hj := (List.getElem?_eq_some_iff.1 q).1
      rw [List.length_append, List.length_singleton] at hj
      by_cases hjl : j < T.length
      · rw [hlt j hjl] at q
        have h1 := i3 j y q
        have e1 : (T ++ [x]).take j = T.take j := by rw [List.take_append_of_le_length (by omega)]
        have e2 : frA (T ++ [x]) fr' (j + 1) = frA T x.fr (j + 1) := by
          unfold frA
          by_cases hq : j + 1 < T.length
          · rw [hlt _ hq]
            cases e : T[j + 1]? with
            | none => rw [List.getElem?_eq_none_iff] at e; omega
            | some y => rfl
          · have : j + 1 = T.length := by omega
            rw [this, hx, List.getElem?_eq_none (by omega)]
        have e3 : stA (T ++ [x]) st' (j + 1) = stA T x.st (j + 1) := by
          unfold stA
          by_cases hq : j + 1 < T.length
          · rw [hlt _ hq]
            cases e : T[j + 1]? with
            | none => rw [List.getElem?_eq_none_iff] at e; omega
            | some y => rfl
          · have : j + 1 = T.length := by omega
            rw [this, hx, List.getElem?_eq_none (by omega)]
        rw [e1, e2, e3]
        exact h1
      · have : j = T.length := by omega
        subst this
        rw [hx] at q
        cases q
        have e1 : (T ++ [x]).take T.length = T := by simp
        have e2 : frA (T ++ [x]) fr' (T.length + 1) = fr' := by unfold frA; rw [hend]
        have e3 : stA (T ++ [x]) st' (T.length + 1) = st' := by unfold stA; rw [hend]
        rw [e1, e2, e3]
        exact hs

theorem canon_of {fr0 frE : Tr AV} {st0 stE : St} {T : List Rec} (h : TOk P call ops ms fr0 st0 T frE stE) (hlen : T.length = ops.size) :
    ∃ (fr : Nat → Tr AV) (st : Nat → St) (v : Nat → AV) (c : Nat → Option Cls), Canon P call ops ms fr st v c ∧ fr 0 = fr0 ∧ st 0 = st0 ∧ fr ops.size = frE ∧ st ops.size = stE := by
  obtain ⟨h1, h2, h3⟩ := trace_at h
  let v : Nat → AV := fun j => match T[j]? with | some y => y.v | none => .undef
  let c : Nat → Option Cls := fun j => match T[j]? with | some y => y.c | none => none
  have hsome : ∀ j o, ops[j]? = some o → ∃ y, T[j]? = some y ∧ frA T frE j = y.fr ∧ stA T stE j = y.st ∧ v j = y.v ∧ c j = y.c := fun j o ho => by
    have hj := (Array.getElem?_eq_some_iff.1 ho).1
    cases e : T[j]? with
    | none => rw [List.getElem?_eq_none_iff] at e; omega
    | some y => exact ⟨y, rfl, by unfold frA; rw [e], by unfold stA; rw [e], by simp only [v, e], by simp only [c, e]⟩
  have hstep : ∀ j o, ops[j]? = some o → ∃ y, T[j]? = some y ∧ frA T frE j = y.fr ∧ stA T stE j = y.st ∧ v j = y.v ∧ c j = y.c ∧ StepOk P call ops ms (T.take j) y (frA T frE (j + 1)) (stA T stE (j + 1)) ∧ (T.take j).length = j := fun j o ho => by
    obtain ⟨y, a1, a2, a3, a4, a5⟩ := hsome j o ho
    have hj := (Array.getElem?_eq_some_iff.1 ho).1
    exact ⟨y, a1, a2, a3, a4, a5, h3 j y a1, by rw [List.length_take]; omega⟩
  have hold : ∀ i j, i < j → j < T.length → ∀ oi, ops[i]? = some oi → ∃ y, (T.take j)[i]? = some y ∧ frA T frE i = y.fr ∧ stA T stE i = y.st ∧ v i = y.v ∧ c i = y.c := fun i j hij hj oi ho => by
    obtain ⟨y, a1, a2⟩ := hsome i oi ho
    exact ⟨y, by rw [List.getElem?_take, if_pos hij]; exact a1, a2⟩
  refine ⟨frA T frE, stA T stE, v, c, ⟨fun j o ho => ?_, fun j o ho => ?_⟩, h1, h2, by unfold frA; rw [List.getElem?_eq_none (by omega)], by unfold stA; rw [List.getElem?_eq_none (by omega)]⟩
  · obtain ⟨y, a1, a2, a3, a4, a5, ⟨o', b1, b2, _⟩, a7⟩ := hstep j o ho
    rw [a7, ho] at b1
    cases b1
    rw [b2, a2, a4]
  · obtain ⟨y, a1, a2, a3, a4, a5, ⟨o', b1, b2, b3⟩, a7⟩ := hstep j o ho
    have hj : j < T.length := (List.getElem?_eq_some_iff.1 a1).1
    rw [a7, ho] at b1
    cases b1
    rw [a2, a3, a4, a5]
    rcases b3 with ⟨c1, c2, c3, c4⟩ | ⟨c0, b3⟩
    · exact .inl ⟨c1, c2, c3, c4⟩
    · refine .inr ⟨c0, ?_⟩
      rcases b3 with b3 | ⟨c1, c2, c3, c4, c5⟩ | b3 | ⟨c1, c2, c3, c4⟩
      · exact .inl b3
      · refine .inr (.inl ⟨c1, c2, c3, c4, fun i hij hci => ?_⟩)
        have hi : i < ops.size := by omega
        obtain ⟨yi, d1, d2, d3, d4, d5⟩ := hold i j hij hj ops[i] (by simp [hi])
        rw [d5] at hci
        have := c5 i yi d1 hci
        rw [a7] at this
        rw [d3]
        exact this
      · exact .inr (.inr (.inl b3))
      · refine .inr (.inr (.inr ⟨c1, c2, c3, fun i oi hij hoi => ?_⟩))
        obtain ⟨yi, d1, d2, d3, d4, d5⟩ := hold i j hij hj oi hoi
        have := c4 i yi d1
        rw [a7] at this
        rw [d2, d3, d4, d5]
        rcases this with q | ⟨q1, q2, q3⟩
        · exact .inl q
        · refine .inr ⟨q1, fun q => ?_, q3⟩
          obtain ⟨o2, e1, e2⟩ := q2 q
          rw [hoi] at e1; cases e1
          exact e2

/-! ### the edges -/
theorem maskOf_bit (acc : List Nat) (i : Nat) : ∀ (es : List Edge) (s : Nat), (es.foldl (fun s e => if Region.binds .any e then s ||| (2 ^ e.on ||| acc.getD e.on 0) else s) s).testBit i = true → s.testBit i = true ∨ ∃ e ∈ es, Region.binds .any e = true ∧ (e.on = i ∨ (acc.getD e.on 0).testBit i = true)
  | [], s, h => .inl h
  | e :: es, s, h => by
    rw [List.foldl_cons] at h
    rcases maskOf_bit acc i es _ h with h | ⟨e', h1, h2⟩
    · by_cases hb : Region.binds .any e = true
      · rw [if_pos hb, Nat.testBit_or, Bool.or_eq_true, Nat.testBit_or, Bool.or_eq_true] at h
        rcases h with h | h | h
        · exact .inl h
        · refine .inr ⟨e, List.mem_cons_self .., hb, .inl ?_⟩
          rw [Nat.testBit_two_pow] at h
          simpa using h
        · exact .inr ⟨e, List.mem_cons_self .., hb, .inr h⟩
      · rw [if_neg hb] at h
        exact .inl h
    · exact .inr ⟨e', List.mem_cons_of_mem _ h1, h2⟩
theorem masksGo_spec : ∀ (l : List Oper) (acc : List Nat), (masksGo l acc).length = acc.length + l.length ∧ (∀ j, j < acc.length → (masksGo l acc).getD j 0 = acc.getD j 0) ∧
    ∀ j o, l[j]? = some o → ∀ i, ((masksGo l acc).getD (acc.length + j) 0).testBit i = true → ∃ e ∈ o.after.toList, Region.binds .any e = true ∧ (e.on = i ∨ (e.on < acc.length + j ∧ ((masksGo l acc).getD e.on 0).testBit i = true))
  | [], acc => ⟨rfl, fun _ _ => rfl, fun j o h => by simp at h⟩
  | o :: l, acc => by
    obtain ⟨h1, h2, h3⟩ := masksGo_spec l (acc ++ [maskOf acc o.after.toList])
    have e0 : masksGo (o :: l) acc = masksGo l (acc ++ [maskOf acc o.after.toList]) := rfl
    have hlow : ∀ j, j < acc.length → (masksGo (o :: l) acc).getD j 0 = acc.getD j 0 := fun j hj => by
      rw [e0, h2 j (by simp; omega)]
      rw [List.getD_eq_getElem?_getD, List.getElem?_append_left hj, ← List.getD_eq_getElem?_getD]
    refine ⟨by rw [e0, h1]; simp; omega, hlow, fun j o' hj i hi => ?_⟩
    cases j with
    | zero =>
      cases hj
      rw [e0, Nat.add_zero, h2 acc.length (by simp)] at hi
      rw [List.getD_eq_getElem?_getD, List.getElem?_append_right (Nat.le_refl _), Nat.sub_self] at hi
      have hi : (maskOf acc o.after.toList).testBit i = true := hi
      rcases maskOf_bit acc i _ 0 hi with q | ⟨e, q1, q2, q3⟩
      · simp at q
      · refine ⟨e, q1, q2, ?_⟩
        rcases q3 with q3 | q3
        · exact .inl q3
        · have hlt : e.on < acc.length := by
            refine Classical.byContradiction fun hn => ?_
            rw [List.getD_eq_getElem?_getD, List.getElem?_eq_none (by omega)] at q3
            simp at q3
          exact .inr ⟨by omega, by rw [hlow _ hlt]; exact q3⟩
    | succ j =>
      have hlen : (acc ++ [maskOf acc o.after.toList]).length = acc.length + 1 := by simp
      have := h3 j o' hj i (by rw [hlen, show acc.length + 1 + j = acc.length + (j + 1) by omega]; exact hi)
      obtain ⟨e, q1, q2, q3⟩ := this
      exact ⟨e, q1, q2, q3.imp id fun ⟨a, b⟩ => ⟨by rw [hlen] at a; omega, b⟩⟩
theorem masks_spec {j : Nat} {o : Oper} (ho : ops[j]? = some o) {i : Nat} (h : ((masks ops.toList).getD j 0).testBit i = true) : ∃ e ∈ o.after.toList, Region.binds .any e = true ∧ (e.on = i ∨ (e.on < j ∧ ((masks ops.toList).getD e.on 0).testBit i = true)) := by
  obtain ⟨_, _, h3⟩ := masksGo_spec ops.toList []
  have := h3 j o (by rw [Array.getElem?_toList]; exact ho) i (by rw [List.length_nil, Nat.zero_add]; exact h)
  obtain ⟨e, q1, q2, q3⟩ := this
  exact ⟨e, q1, q2, q3.imp id fun ⟨a, b⟩ => ⟨by rw [List.length_nil] at a; omega, b⟩⟩

/-- a set of operations that holds what stands before each -/
def Closed (ops : Array Oper) (L : Nat → Prop) : Prop := ∀ j o, ops[j]? = some o → L j → ∀ e ∈ o.after.toList, Region.binds .any e = true → L e.on
theorem Closed.mask {L : Nat → Prop} (h : Closed ops L) (hN : ∀ j, L j → j < ops.size) : ∀ (j : Nat), L j → ∀ i, ((masks ops.toList).getD j 0).testBit i = true → L i := by
  intro j
  induction j using Nat.strongRecOn with
  | _ j ih =>
    intro hj i hi
    have hlt := hN j hj
    have ho : ops[j]? = some ops[j] := by simp [hlt]
    obtain ⟨e, q1, q2, q3⟩ := masks_spec ho hi
    have he := h j _ ho hj e q1 q2
    rcases q3 with rfl | ⟨q3, q4⟩
    · exact he
    · exact ih e.on q3 he i q4
/-- an operation whose turn it may be: all that stands before it has been -/
theorem Closed.ready {L : Nat → Prop} (h : Closed ops L) (hN : ∀ j, L j → j < ops.size) {j : Nat} {o : Oper} (ho : ops[j]? = some o) (hr : ∀ e ∈ o.after.toList, Region.binds .any e = true → L e.on) : ∀ i, ((masks ops.toList).getD j 0).testBit i = true → L i := by
  intro i hi
  obtain ⟨e, q1, q2, q3⟩ := masks_spec ho hi
  have he := hr e q1 q2
  rcases q3 with rfl | ⟨q3, q4⟩
  · exact he
  · exact h.mask hN e.on he i q4

theorem drawOk_spec (h : drawOk ops = true) : (∀ j o, ops[j]? = some o → ∀ e ∈ o.after.toList, Region.binds .any e = true → e.on < j) ∧
    ∀ i j x y, ops[i]? = some x → ops[j]? = some y → i < j → ((masks ops.toList).getD j 0).testBit i = true ∨ ((∀ d, x.dst = some d → d ∉ namesOf ops y) ∧ (∀ d, y.dst = some d → d ∉ namesOf ops x)) := by
  unfold drawOk at h
  simp only [Bool.and_eq_true, List.all_eq_true] at h
  obtain ⟨h1, h2⟩ := h
  have mem : ∀ j o, ops[j]? = some o → (o, j) ∈ ops.toList.zipIdx := fun j o ho => by
    rw [List.mem_zipIdx_iff_getElem?, Array.getElem?_toList]; exact ho
  refine ⟨fun j o ho e he hb => ?_, fun i j x y hx hy hij => ?_⟩
  · have := h1 (o, j) (mem j o ho) e he
    simpa [hb] using this
  · have := h2 (y, j) (mem j y hy) (x, i) (mem i x hx)
    simp only [Bool.or_eq_true, decide_eq_true_eq] at this
    rcases this with q | q
    · omega
    · unfold pairOk at q
      simp only [Bool.or_eq_true, Bool.and_eq_true] at q
      rcases q with q | ⟨q1, q2⟩
      · exact .inl q
      · refine .inr ⟨fun d hd => ?_, fun d hd => ?_⟩
        · rw [hd] at q1; simpa using q1
        · rw [hd] at q2; simpa using q2

/-- the heap's numbers only grow -/
theorem Canon.le {fr : Nat → Tr AV} {st : Nat → St} {v : Nat → AV} {c : Nat → Option Cls} (h : Canon P call ops ms fr st v c) (hc : CallMono call) {j : Nat} (hj : j < ops.size) : (st j).next.num ≤ (st (j + 1)).next.num := by
  have ho : ops[j]? = some ops[j] := by simp [hj]
  rcases h.step j _ ho with ⟨_, _, e, _⟩ | ⟨_, ⟨_, _, e, _⟩ | ⟨_, _, e, _⟩ | ⟨_, _, _, _, _, _, _, e⟩ | ⟨_, _, e, _⟩⟩
  · rw [e]; exact Nat.le_refl _
  · rw [e]; exact Nat.le_refl _
  · rw [e]; exact Nat.le_refl _
  · rw [e]; exact le_inc _
  · rcases opStep_mono (P := P) (st := st j) (k := reify) hc (op := ops[j].op) (fr := fr j) with ⟨n, q⟩ | ⟨v', st', q1, q⟩
    · rw [e] at q; cases q
    · rw [e] at q
      cases q
      exact q1
theorem Canon.mono {fr : Nat → Tr AV} {st : Nat → St} {v : Nat → AV} {c : Nat → Option Cls} (h : Canon P call ops ms fr st v c) (hc : CallMono call) {i j : Nat} (hij : i ≤ j) (hj : j ≤ ops.size) : (st i).next.num ≤ (st j).next.num := by
  induction hij with
  | refl => exact Nat.le_refl _
  | step hij ih => exact Nat.le_trans (ih (by omega)) (h.le hc (by omega))
end

/-! ### frames -/
/-- what a temporary holds when the operations of a set have been: the last one's value -/
def LastIn (ops : Array Oper) (v : Nat → AV) (fr0 : Tr AV) (L : Nat → Prop) (t : Nat) (u : AV) : Prop :=
  (∃ i o, L i ∧ ops[i]? = some o ∧ o.dst = some t ∧ u = v i ∧ ∀ i' o', L i' → ops[i']? = some o' → o'.dst = some t → i' ≤ i) ∨ ((∀ i o, L i → ops[i]? = some o → o.dst ≠ some t) ∧ Tr.find (pos t) fr0 = some u)
theorem Canon.last {P : Program} {call : CallH} {ops : Array Oper} {ms : List Nat} {fr : Nat → Tr AV} {st : Nat → St} {v : Nat → AV} {c : Nat → Option Cls} (h : Canon P call ops ms fr st v c) : ∀ (j : Nat), j ≤ ops.size → ∀ t u, Tr.find (pos t) (fr j) = some u → LastIn ops v (fr 0) (· < j) t u
  | 0, _, t, u, hu => .inr ⟨fun i o hi => absurd hi (Nat.not_lt_zero _), hu⟩
  | j + 1, hj, t, u, hu => by
    have ho : ops[j]? = some ops[j] := by simp [show j < ops.size by omega]
    rw [h.next j _ ho] at hu
    have old : (ops[j].dst ≠ some t) → Tr.find (pos t) (fr j) = some u → LastIn ops v (fr 0) (· < j + 1) t u := by
      intro hne hu
      rcases Canon.last h j (by omega) t u hu with ⟨i, o, h1, h2, h3, h4, h5⟩ | ⟨h1, h2⟩
      · refine .inl ⟨i, o, Nat.lt_succ_of_lt h1, h2, h3, h4, fun i' o' g1 g2 g3 => ?_⟩
        by_cases e : i' = j
        · subst e; rw [ho] at g2; cases g2; exact absurd g3 hne
        · exact h5 i' o' (by omega) g2 g3
      · refine .inr ⟨fun i o g1 g2 => ?_, h2⟩
        by_cases e : i = j
        · subst e; rw [ho] at g2; cases g2; exact hne
        · exact h1 i o (by omega) g2
    cases hd : ops[j].dst with
    | none =>
      rw [hd] at hu
      exact old (by rw [hd]; simp) hu
    | some d =>
      rw [hd] at hu
      by_cases e : t = d
      · subst e
        rw [show setD (some t) (v j) (fr j) = Tr.ins (pos t) (v j) (fr j) from rfl, Tr.find_ins_same] at hu
        cases hu
        exact .inl ⟨j, _, Nat.lt_succ_self j, ho, hd, rfl, fun i' o' g1 _ _ => by omega⟩
      · rw [show setD (some d) (v j) (fr j) = Tr.ins (pos d) (v j) (fr j) from rfl, Tr.find_ins_ne _ _ _ _ (fun q => e (pos_inj q))] at hu
        exact old (by rw [hd]; intro q; cases q; exact e rfl) hu

/-! ### heaps -/
theorem pos_of_num (b : Pos) : b = pos (b.num - 1) := Pos.num_inj (by rw [num_pos]; have := b.num_pos; omega)
/-- a tree with given members below a number -/
theorem tree_of {α : Type} (f : Pos → Option α) : ∀ n : Nat, ∃ t : Tr α, ∀ b : Pos, Tr.find b t = if b.num < n then f b else none
  | 0 => ⟨.e, fun b => by rw [Tr.find_e, if_neg (by omega)]⟩
  | 1 => ⟨.e, fun b => by rw [Tr.find_e, if_neg (by have := b.num_pos; omega)]⟩
  | n + 2 => by
    obtain ⟨t, ht⟩ := tree_of f (n + 1)
    cases hf : f (pos n) with
    | none =>
      refine ⟨t, fun b => ?_⟩
      rw [ht b]
      by_cases hb : b.num < n + 1
      · rw [if_pos hb, if_pos (by omega)]
      · rw [if_neg hb]
        by_cases hb2 : b.num < n + 2
        · have : b = pos n := Pos.num_inj (by rw [num_pos]; omega)
          rw [if_pos hb2, this, hf]
        · rw [if_neg hb2]
    | some x =>
      refine ⟨Tr.ins (pos n) x t, fun b => ?_⟩
      by_cases hb : b = pos n
      · subst hb
        rw [Tr.find_ins_same, if_pos (by rw [num_pos]; omega), hf]
      · have hbn : b.num ≠ n + 1 := fun q => hb (Pos.num_inj (by rw [num_pos]; exact q))
        rw [Tr.find_ins_ne _ _ _ _ hb, ht b]
        by_cases hq : b.num < n + 1
        · rw [if_pos hq, if_pos (by omega)]
        · rw [if_neg hq, if_neg (by omega)]

theorem SR.sub {φ : Phi} {st st' : St} {w : World} (h : SR φ st w) (hs : ∀ b k, Tr.find b st'.heap = some k → φ b ≠ none → Tr.find b st.heap = some k) (hd : ∀ b k, Tr.find b st'.heap = some k → b.num < st'.next.num) : SR φ st' w := by
  have ne : ∀ {b : Pos} {x : Nat × Nat × Nat}, φ b = some x → φ b ≠ none := fun e q => by rw [e] at q; cases q
  exact ⟨fun b k B s N h1 h2 => h.blk b k B s N (hs b k h1 (ne h2)) h2, fun b b' k k' B s N s' N' h1 h2 h3 h4 h5 h6 => h.inj b b' k k' B s N s' N' (hs b k h1 (ne h5)) h2 (hs b' k' h3 (ne h6)) h4 h5 h6, h.rng, h.glob, hd⟩
theorem SR.empty {φ : Phi} {st : St} {w : World} (h : SR φ st w) (n : Pos) : SR φ ⟨.e, n⟩ w :=
  h.sub (fun b k e _ => by rw [show Tr.find b (St.heap ⟨.e, n⟩) = none from Tr.find_e b] at e; cases e) (fun b k e => by rw [show Tr.find b (St.heap ⟨.e, n⟩) = none from Tr.find_e b] at e; cases e)

/-- a step in a part of the state is a step of the whole -/
theorem Moved.part {φ0 φ φ' : Phi} {st0 σ σ' : St} {w0 w w' : World} {h h' : Tr Blk} {nN : Pos} (M0 : Moved φ0 st0 w0 φ ⟨h, nN⟩ w) (hs : ∀ b k, Tr.find b σ.heap = some k → φ b ≠ none → Tr.find b h = some k)
    (M : Moved φ σ w φ' σ' w') (hh : ∀ b k, Tr.find b h' = some k → φ' b ≠ none → Tr.find b σ'.heap = some k ∨ (Tr.find b h = some k ∧ φ b ≠ none ∧ Tr.find b σ.heap = none))
    (hd : ∀ b k, Tr.find b h' = some k → b.num < nN.num) (lo : st0.next.num ≤ σ.next.num) (hi : σ'.next.num ≤ nN.num) : Moved φ0 st0 w0 φ' ⟨h', nN⟩ w' := by
  have ne : ∀ {ψ : Phi} {b : Pos} {x : Nat × Nat × Nat}, ψ b = some x → ψ b ≠ none := fun e q => by rw [e] at q; cases q
  have same : ∀ {b : Pos} {B s N : Nat}, φ b ≠ none → φ' b = some (B, s, N) → φ b = some (B, s, N) := fun {b B s N} h1 h2 => by
    cases e : φ b with
    | none => exact absurd e h1
    | some x => have := M.ext b x e; rw [h2] at this; exact this.symm
  have fr : ∀ {b : Pos} {k : Blk} {B s N : Nat}, Tr.find b h = some k → k ≠ .dead → φ b = some (B, s, N) → Tr.find b σ.heap = none → w'.heap[B]? = w.heap[B]? := fun {b k B s N} h1 hk h2 h3 => by
    refine M.frame B (M0.sr.rng _ _ _ _ h2) fun b0 k0 s0 N0 g1 g2 g3 => ?_
    have := M0.sr.inj b0 b k0 k B s0 N0 s N (hs b0 k0 g1 (ne g3)) g2 h1 hk g3 h2
    subst this
    rw [h3] at g1; cases g1
  refine ⟨M0.ext.trans M.ext, fun b h1 h2 => ?_, ⟨fun b k B s N h1 h2 => ?_, fun b b' k k' B s N s' N' h1 h2 h3 h4 h5 h6 => ?_, M.sr.rng, M.sr.glob, hd⟩, M0.mono, Nat.le_trans M0.size M.size, M.os.trans M0.os, M.tape.trans M0.tape, M.output.trans M0.output, fun B hB hn => ?_, fun b k B s N h1 h2 h3 hB => ?_⟩
  · by_cases e : φ b = none
    · have := M.only b e h2
      exact ⟨by omega, by show b.num < nN.num; omega⟩
    · exact M0.only b h1 e
  · rcases hh b k h1 (ne h2) with q | ⟨q1, q2, q3⟩
    · exact M.sr.blk b k B s N q h2
    · by_cases hk : k = .dead
      · subst hk; trivial
      · have e := same q2 h2
        exact (M0.sr.blk b k B s N q1 e).mono M.ext (fr q1 hk e q3)
  · rcases hh b k h1 (ne h5) with q | ⟨q1, q2, q3⟩ <;> rcases hh b' k' h3 (ne h6) with p | ⟨p1, p2, p3⟩
    · exact M.sr.inj b b' k k' B s N s' N' q h2 p h4 h5 h6
    · have e6 := same p2 h6
      obtain ⟨b0, k0, s0, N0, g1, g2, g3, g4⟩ := M.img b k B s N q (wr_live h2) h5 (M0.sr.rng _ _ _ _ e6)
      have := M0.sr.inj b0 b' k0 k' B s0 N0 s' N' (hs b0 k0 g1 (ne g3)) (g4 h2) p1 h4 g3 e6
      subst this
      rw [p3] at g1; cases g1
    · have e5 := same q2 h5
      obtain ⟨b0, k0, s0, N0, g1, g2, g3, g4⟩ := M.img b' k' B s' N' p h4 h6 (M0.sr.rng _ _ _ _ e5)
      have := M0.sr.inj b b0 k k0 B s N s0 N0 q1 h2 (hs b0 k0 g1 (ne g3)) g2 e5 g3
      subst this
      rw [q3] at g1; cases g1
    · exact M0.sr.inj b b' k k' B s N s' N' q1 h2 p1 h4 (same q2 h5) (same p2 h6)
  · have e1 := M0.frame B hB hn
    refine (M.frame B (Nat.lt_of_lt_of_le hB M0.size) fun b0 k0 s0 N0 g1 g2 g3 => ?_).trans e1
    obtain ⟨b1, k1, s1, N1, f1, f2, f3, f4⟩ := M0.img b0 k0 B s0 N0 (hs b0 k0 g1 (ne g3)) (wr_live g2) g3 hB
    exact hn b1 k1 s1 N1 f1 (f4 g2) f3
  · rcases hh b k h1 (ne h3) with q | ⟨q1, q2, q3⟩
    · obtain ⟨b0, k0, s0, N0, g1, g2, g3, g4⟩ := M.img b k B s N q h2 h3 (Nat.lt_of_lt_of_le hB M0.size)
      obtain ⟨b1, k1, s1, N1, f1, f2, f3, f4⟩ := M0.img b0 k0 B s0 N0 (hs b0 k0 g1 (ne g3)) g2 g3 hB
      exact ⟨b1, k1, s1, N1, f1, f2, f3, fun e => f4 (g4 e)⟩
    · exact M0.img b k B s N q1 h2 (same q2 h3) hB
end Ev
end
/- This text proves that the evaluator's regions whose order is open stand for the model's. -/
section
namespace Ev
open Go

section
variable {P : Program} {call : CallH} {ops : Array Oper} {fr : Nat → Tr AV} {st : Nat → St} {v : Nat → AV} {c : Nat → Option Cls}
variable {φ0 : Phi} {w0 : World} {n0 : Nat} {d0 : List Deferred}

/-- how far a region has come -/
structure Inv (P : Program) (call : CallH) (ops : Array Oper) (fr : Nat → Tr AV) (st : Nat → St) (v : Nat → AV) (c : Nat → Option Cls) (φ0 : Phi) (w0 : World) (n0 : Nat) (d0 : List Deferred) (L : Nat → Prop) (φ : Phi) (a : Act) (w : World) : Prop where
  lt : ∀ i, L i → i < ops.size
  closed : Closed ops L
  size : a.tmps.size = n0
  defers : a.defers = d0
  frame : ∀ t u, LastIn ops v (fr 0) L t u → ∃ x, a.tmps[t]? = some x ∧ VR φ 0 u [x]
  rest : ∃ p h, p ≤ ops.size ∧ (p = 0 ∨ ∃ e, p = e + 1 ∧ c e = some .eff ∧ L e) ∧ (∀ j, c j = some .eff → j < ops.size → (L j ↔ j < p)) ∧
    Moved φ0 (st 0) w0 φ ⟨h, (st ops.size).next⟩ w ∧
    (∀ b, φ b ≠ none → b.num < (st p).next.num → Tr.find b h = Tr.find b (st p).heap) ∧
    (∀ i, L i → c i = some .alloc → p ≤ i → ∃ blk, Tr.find (st i).next (st (i + 1)).heap = some blk ∧ Tr.find (st i).next h = some blk) ∧
    (∀ b : Pos, (st 0).next.num ≤ b.num → b.num < (st ops.size).next.num → φ b ≠ none → ∃ i, L i ∧ (st i).next.num ≤ b.num ∧ b.num < (st (i + 1)).next.num) ∧
    (∀ b k, Tr.find b (st p).heap = some k → b.num < (st p).next.num)

/-- no effect stands between two places: only new blocks do -/
theorem between (can : Canon P call ops (masks ops.toList) fr st v c) (hc : CallMono call) {p : Nat} (hD : ∀ b k, Tr.find b (st p).heap = some k → b.num < (st p).next.num) {x : Nat} (hpx : p ≤ x) (hx : x ≤ ops.size) (hne : ∀ e, p ≤ e → e < x → c e ≠ some .eff) :
    ∀ b k, Tr.find b (st x).heap = some k → b.num < (st x).next.num ∧ ((Tr.find b (st p).heap = some k ∧ b.num < (st p).next.num) ∨ ∃ i, p ≤ i ∧ i < x ∧ c i = some .alloc ∧ b = (st i).next ∧ Tr.find b (st (i + 1)).heap = some k) := by
  induction hpx with
  | refl => intro b k e; exact ⟨hD b k e, .inl ⟨e, hD b k e⟩⟩
  | @step x hpx ih =>
    intro b k e
    have ih := ih (by omega) (fun e h1 h2 => hne e h1 (by omega))
    have hxl : x < ops.size := by omega
    have ho : ops[x]? = some ops[x] := by simp [hxl]
    have same : st (x + 1) = st x → b.num < (st (x + 1)).next.num ∧ ((Tr.find b (st p).heap = some k ∧ b.num < (st p).next.num) ∨ ∃ i, p ≤ i ∧ i < x + 1 ∧ c i = some .alloc ∧ b = (st i).next ∧ Tr.find b (st (i + 1)).heap = some k) := fun q => by
      rw [q] at e
      obtain ⟨h1, h2⟩ := ih b k e
      rw [q]
      exact ⟨h1, h2.imp id fun ⟨i, g1, g2, g3⟩ => ⟨i, g1, by omega, g3⟩⟩
    rcases can.step x _ ho with ⟨_, _, q, _⟩ | ⟨_, ⟨_, _, q, _⟩ | ⟨_, _, q, _⟩ | ⟨hal, _, _, blk, _, _, _, q⟩ | ⟨q, _⟩⟩
    · exact same q
    · exact same q
    · exact same q
    · by_cases hb : b = (st x).next
      · refine ⟨?_, .inr ⟨x, hpx, by omega, hal, hb, e⟩⟩
        rw [q, hb]
        show _ < (st x).next.inc.num
        rw [Pos.num_inc]; omega
      · have e' := e
        rw [q, show (stNew blk (st x)).heap = Tr.ins (st x).next blk (st x).heap from rfl, Tr.find_ins_ne _ _ _ _ hb] at e'
        obtain ⟨h1, h2⟩ := ih b k e'
        refine ⟨?_, h2.imp id fun ⟨i, g1, g2, g3⟩ => ⟨i, g1, by omega, g3⟩⟩
        exact Nat.lt_of_lt_of_le h1 (can.le hc hxl)
    · exact absurd q (hne x hpx (by omega))

theorem num_lt_inc (p : Pos) : p.num < p.inc.num := by rw [Pos.num_inc]; omega
theorem alloc_lt (can : Canon P call ops (masks ops.toList) fr st v c) {i : Nat} (hi : i < ops.size) (h : c i = some .alloc) : ∃ blk, st (i + 1) = stNew blk (st i) := by
  have ho : ops[i]? = some ops[i] := by simp [hi]
  rcases can.step i _ ho with ⟨q, _⟩ | ⟨_, ⟨q, _⟩ | ⟨q, _⟩ | ⟨_, _, _, blk, _, _, _, q⟩ | ⟨q, _⟩⟩
  · rw [q] at h; cases h
  · rw [q] at h; cases h
  · rw [q] at h; cases h
  · exact ⟨blk, q⟩
  · rw [q] at h; cases h
/-- two operations' new numbers are apart -/
theorem apart (can : Canon P call ops (masks ops.toList) fr st v c) (hc : CallMono call) {i j : Nat} (hi : i < ops.size) (hj : j < ops.size) {b : Pos} (h1 : (st i).next.num ≤ b.num) (h2 : b.num < (st (i + 1)).next.num) (h3 : (st j).next.num ≤ b.num) (h4 : b.num < (st (j + 1)).next.num) : i = j := by
  rcases Nat.lt_trichotomy i j with h | h | h
  · have := can.mono hc (i := i + 1) (j := j) (by omega) (by omega); omega
  · exact h
  · have := can.mono hc (i := j + 1) (j := i) (by omega) (by omega); omega

variable {L : Nat → Prop} {φ : Phi} {a : Act} {w : World}
/-- what is known of the world, seen from a place of the record -/
theorem part_sr (can : Canon P call ops (masks ops.toList) fr st v c) (hc : CallMono call) {p : Nat} {h : Tr Blk} (hL : ∀ i, L i → i < ops.size) (hp : p ≤ ops.size) (M : Moved φ0 (st 0) w0 φ ⟨h, (st ops.size).next⟩ w)
    (hA : ∀ b, φ b ≠ none → b.num < (st p).next.num → Tr.find b h = Tr.find b (st p).heap)
    (hB : ∀ i, L i → c i = some .alloc → p ≤ i → ∃ blk, Tr.find (st i).next (st (i + 1)).heap = some blk ∧ Tr.find (st i).next h = some blk)
    (hC : ∀ b : Pos, (st 0).next.num ≤ b.num → b.num < (st ops.size).next.num → φ b ≠ none → ∃ i, L i ∧ (st i).next.num ≤ b.num ∧ b.num < (st (i + 1)).next.num)
    (hD : ∀ b k, Tr.find b (st p).heap = some k → b.num < (st p).next.num) {x : Nat} (hpx : p ≤ x) (hx : x ≤ ops.size) (hne : ∀ e, p ≤ e → e < x → c e ≠ some .eff) :
    (∀ b k, Tr.find b (st x).heap = some k → φ b ≠ none → Tr.find b h = some k) ∧ SR φ (st x) w := by
  have hb := between can hc hD hpx hx hne
  have key : ∀ b k, Tr.find b (st x).heap = some k → φ b ≠ none → Tr.find b h = some k := by
    intro b k e hφ
    obtain ⟨_, h2⟩ := hb b k e
    rcases h2 with ⟨h2, h3⟩ | ⟨i, g1, g2, g3, g4, g5⟩
    · rw [hA b hφ h3]; exact h2
    · subst g4
      obtain ⟨blk, hbl⟩ := alloc_lt can (i := i) (by omega) g3
      have hlt : (st i).next.num < (st (i + 1)).next.num := by rw [hbl]; exact num_lt_inc _
      have l0 := can.mono hc (i := 0) (j := i) (by omega) (by omega)
      have lN := can.mono hc (i := i + 1) (j := ops.size) (by omega) (by omega)
      obtain ⟨i', f1, f2, f3⟩ := hC (st i).next l0 (by omega) hφ
      have : i' = i := apart can hc (hL i' f1) (by omega) f2 f3 (Nat.le_refl _) hlt
      subst this
      obtain ⟨blk', q1, q2⟩ := hB i' f1 g3 g1
      rw [q1] at g5; cases g5
      exact q2
  exact ⟨key, M.sr.sub key fun b k e => (hb b k e).1⟩

theorem last_names (can : Canon P call ops (masks ops.toList) fr st v c) (hdraw : drawOk ops = true) (hL : ∀ i, L i → i < ops.size) (hcl : Closed ops L) {j : Nat} {o : Oper} (ho : ops[j]? = some o) (hnl : ¬ L j) (hrd : ∀ e ∈ o.after.toList, Region.binds .any e = true → L e.on) :
    ∀ t ∈ namesOf ops o, ∀ u, Tr.find (pos t) (fr j) = some u → LastIn ops v (fr 0) L t u := by
  intro t ht u hu
  have hj := (Array.getElem?_eq_some_iff.1 ho).1
  obtain ⟨_, hpair⟩ := drawOk_spec hdraw
  have later : ∀ i' o', L i' → ops[i']? = some o' → o'.dst = some t → i' < j := by
    intro i' o' g1 g2 g3
    refine Classical.byContradiction fun hn => ?_
    rcases Nat.lt_or_ge j i' with h | h
    · rcases hpair j i' o o' ho g2 h with q | ⟨_, q⟩
      · exact hnl (hcl.mask hL i' g1 j q)
      · exact q t g3 ht
    · have : i' = j := by omega
      subst this; exact hnl g1
  rcases can.last j (by omega) t u hu with ⟨i, oi, h1, h2, h3, h4, h5⟩ | ⟨h1, h2⟩
  · refine .inl ⟨i, oi, ?_, h2, h3, h4, fun i' o' g1 g2 g3 => h5 i' o' (later i' o' g1 g2 g3) g2 g3⟩
    rcases hpair i j oi o h2 ho h1 with q | ⟨q, _⟩
    · exact hcl.ready hL ho hrd i q
    · exact absurd ht (q t h3)
  · exact .inr ⟨fun i oi g1 g2 g3 => h1 i oi (later i oi g1 g2 g3) g2 g3, h2⟩
theorem last_next (hdraw : drawOk ops = true) (hL : ∀ i, L i → i < ops.size) (hcl : Closed ops L) {j : Nat} {o : Oper} (ho : ops[j]? = some o) (hnl : ¬ L j) {t : Nat} {u : AV} (h : LastIn ops v (fr 0) (fun i => L i ∨ i = j) t u) :
    (o.dst = some t ∧ u = v j) ∨ (o.dst ≠ some t ∧ LastIn ops v (fr 0) L t u) := by
  obtain ⟨_, hpair⟩ := drawOk_spec hdraw
  rcases h with ⟨i, oi, h1, h2, h3, h4, h5⟩ | ⟨h1, h2⟩
  · rcases h1 with h1 | h1
    · by_cases hd : o.dst = some t
      · exfalso
        have hle := h5 j o (.inr rfl) ho hd
        have hne : j ≠ i := fun e => by subst e; exact hnl h1
        rcases hpair j i o oi ho h2 (by omega) with q | ⟨_, q⟩
        · exact hnl (hcl.mask hL i h1 j q)
        · refine q t h3 ?_
          unfold namesOf
          rw [hd]
          simp
      · exact .inr ⟨hd, .inl ⟨i, oi, h1, h2, h3, h4, fun i' o' g1 => h5 i' o' (.inl g1)⟩⟩
    · subst h1
      rw [ho] at h2; cases h2
      exact .inl ⟨h3, h4⟩
  · exact .inr ⟨h1 j o (.inr rfl) ho, .inr ⟨fun i oi g => h1 i oi (.inl g), h2⟩⟩

/-- a step's frame and set -/
theorem Inv.next (hdraw : drawOk ops = true) (hdst : ∀ (j : Nat) (o : Oper), ops[j]? = some o → ∀ d, o.dst = some d → d < n0) (inv : Inv P call ops fr st v c φ0 w0 n0 d0 L φ a w) {j : Nat} {o : Oper} (ho : ops[j]? = some o) (hnl : ¬ L j) (hrd : ∀ e ∈ o.after.toList, Region.binds .any e = true → L e.on)
    {φ' : Phi} {x : Value} {w' : World} (he : Ext φ φ') (hv : VR φ' 0 (v j) [x])
    (hrest : ∃ p h, p ≤ ops.size ∧ (p = 0 ∨ ∃ e, p = e + 1 ∧ c e = some .eff ∧ (L e ∨ e = j)) ∧ (∀ i, c i = some .eff → i < ops.size → ((L i ∨ i = j) ↔ i < p)) ∧
      Moved φ0 (st 0) w0 φ' ⟨h, (st ops.size).next⟩ w' ∧
      (∀ b, φ' b ≠ none → b.num < (st p).next.num → Tr.find b h = Tr.find b (st p).heap) ∧
      (∀ i, (L i ∨ i = j) → c i = some .alloc → p ≤ i → ∃ blk, Tr.find (st i).next (st (i + 1)).heap = some blk ∧ Tr.find (st i).next h = some blk) ∧
      (∀ b : Pos, (st 0).next.num ≤ b.num → b.num < (st ops.size).next.num → φ' b ≠ none → ∃ i, (L i ∨ i = j) ∧ (st i).next.num ≤ b.num ∧ b.num < (st (i + 1)).next.num) ∧
      (∀ b k, Tr.find b (st p).heap = some k → b.num < (st p).next.num)) :
    Inv P call ops fr st v c φ0 w0 n0 d0 (fun i => L i ∨ i = j) φ' (a.put o.dst x) w' := by
  refine ⟨fun i hi => ?_, fun i oi hi hL e he hb => ?_, (put_size _ _ _).trans inv.size, (put_defers _ _ _).trans inv.defers, fun t u hu => ?_, hrest⟩
  · rcases hi with hi | rfl
    · exact inv.lt i hi
    · exact (Array.getElem?_eq_some_iff.1 ho).1
  · rcases hL with hL | rfl
    · exact .inl (inv.closed i oi hi hL e he hb)
    · rw [ho] at hi; cases hi
      exact .inl (hrd e he hb)
  · rcases last_next hdraw inv.lt inv.closed ho hnl hu with ⟨hd, rfl⟩ | ⟨hd, hu⟩
    · refine ⟨x, ?_, hv⟩
      have := hdst j o ho t hd
      rw [hd]
      simp [Act.put, inv.size, this]
    · obtain ⟨y, h1, h2⟩ := inv.frame t u hu
      refine ⟨y, ?_, h2.mono he⟩
      cases hq : o.dst with
      | none => exact h1
      | some d =>
        have : d ≠ t := fun e => by subst e; exact hd hq
        simp [Act.put, this, h1]

theorem op_reif (hc : CallOk P call) (hP : P.underlying 4294967295 = none) {o : Oper} {f : Tr AV} {σ σ' : St} {u : AV} (hx : ∀ x ∈ o.op.operands.toList, VR φ 0 (eo f x) [a.eval x]) (sr : SR φ σ w) (h : opStep o.op P call f σ reify = reify u σ') :
    (Quiet P o.op → σ' = σ) ∧ (Fresh φ σ.next σ'.next → ∀ (F : Fence) (n : Nat) (next : Act → World → Prop) (Q : Exit → Act → World → Prop), FW F → (∀ x w' φ', VR φ' 0 u [x] → Moved φ σ w φ' σ' w' → next (a.put o.dst x) w') → o.wpIn F n P a w next Q) := by
  obtain ⟨v', st', h1, h2, h3⟩ := opIn (k := reify) hc hP (o := o) (a := a) h (fun n q => by cases q) sr hx
  cases h1
  exact ⟨h2, h3⟩
theorem op_again (hc : CallOk P call) (hP : P.underlying 4294967295 = none) {o : Oper} {f : Tr AV} {σ : St} {u : AV} (hx : ∀ x ∈ o.op.operands.toList, VR φ 0 (eo f x) [a.eval x]) (sr : SR φ σ w) (hq : Quiet P o.op) (h : Again P call o.op f σ u)
    (F : Fence) (n : Nat) (next : Act → World → Prop) (Q : Exit → Act → World → Prop) (hF : FW F) (hn : ∀ x w' φ', VR φ' 0 u [x] → Moved φ σ w φ' σ w' → next (a.put o.dst x) w') : o.wpIn F n P a w next Q := by
  obtain ⟨t, ht⟩ := h
  unfold again at ht
  obtain ⟨v', st', h1, h2, h3⟩ := opIn (k := fun w _ => avEq u w t (bad 253)) hc hP (o := o) (a := a) rfl ht sr hx
  have := h2 hq
  subst this
  rcases avEq_cases (bad 253) u v' t with e | ⟨rfl, _⟩
  · exact ht.no rfl (h1.symm.trans e)
  · exact h3 (fun b q1 q2 => by omega) F n next Q hF hn

theorem eo_names {o : Oper} {f : Tr AV} (hg : ∀ g, g < gN → ∃ N, φ (pos g) = some (g, 0, N)) (hf : ∀ t ∈ namesOf ops o, ∀ u, Tr.find (pos t) f = some u → ∃ x, a.tmps[t]? = some x ∧ VR φ 0 u [x]) : ∀ x ∈ o.op.operands.toList, VR φ 0 (eo f x) [a.eval x] := by
  intro x hx
  cases x with
  | tmp t =>
    show VR φ 0 ((Tr.find (pos t) f).getD .undef) [a.tmps.getD t Go.undef]
    cases h : Tr.find (pos t) f with
    | none => exact .undef _
    | some u =>
      obtain ⟨x, h1, h2⟩ := hf t (by
        unfold namesOf
        refine List.mem_append_left _ (List.mem_append_right _ (List.mem_filterMap.2 ⟨.tmp t, hx, rfl⟩))) u h
      rw [Array.getD_eq_getD_getElem?, h1]
      exact h2
  | const v => exact ofV_sound φ v
  | global g =>
    show VR φ 0 (if g < gN then _ else _) _
    by_cases h : g < gN
    · rw [if_pos h]
      obtain ⟨N, hN⟩ := hg g h
      exact VR.ptr (φ := φ) (pos g) 0 g 0 N hN
    · rw [if_neg h]; exact .undef _
  | func f => exact .fn f _ _ [] [] .nil1 .nil1

theorem exec (can : Canon P call ops (masks ops.toList) fr st v c) (hc : CallOk P call) (hP : P.underlying 4294967295 = none) (hdraw : drawOk ops = true) (hdst : ∀ (j : Nat) (o : Oper), ops[j]? = some o → ∀ d, o.dst = some d → d < n0)
    (inv : Inv P call ops fr st v c φ0 w0 n0 d0 L φ a w) {j : Nat} {o : Oper} (ho : ops[j]? = some o) (hnl : ¬ L j) (hrd : ∀ e ∈ o.after.toList, Region.binds .any e = true → L e.on)
    {F : Fence} (hF : FW F) {n : Nat} {Q : Exit → Act → World → Prop} {K : Act → World → Prop} (hK : ∀ φ' a' w', Inv P call ops fr st v c φ0 w0 n0 d0 (fun i => L i ∨ i = j) φ' a' w' → K a' w') : wpOpIn F n P ops Q j K a w := by
  have hj := (Array.getElem?_eq_some_iff.1 ho).1
  have hcm := hc.mono
  obtain ⟨p, h, hp, hpe, heff, M, hA, hB, hC, hD⟩ := inv.rest
  have hnames : ∀ t ∈ namesOf ops o, ∀ u, Tr.find (pos t) (fr j) = some u → ∃ x, a.tmps[t]? = some x ∧ VR φ 0 u [x] := fun t ht u hu => inv.frame t u (last_names can hdraw inv.lt inv.closed ho hnl hrd t ht u hu)
  have hx := eo_names (ops := ops) M.sr.glob hnames
  have hguard : ∀ j' want d u, o.guard = some (j', want) → guardTmp ops j' = some d → Tr.find (pos d) (fr j) = some u → ∃ x, a.tmps[d]? = some x ∧ VR φ 0 u [x] := fun j' want d u hg ht hu => hnames d (by
    unfold namesOf guardTmp at *
    rw [hg]
    refine List.mem_append_right _ ?_
    simp only [ht]
    simp) u hu
  have l0j := can.mono hcm (i := 0) (j := j) (by omega) (by omega)
  have ljN := can.mono hcm (i := j + 1) (j := ops.size) (by omega) (by omega)
  have ljj := can.le hcm hj
  have hNd : ∀ b k, Tr.find b h = some k → b.num < (st ops.size).next.num := M.sr.dom
  -- an effect that is not this one
  have effs : c j ≠ some .eff → (∀ i, c i = some .eff → i < ops.size → ((L i ∨ i = j) ↔ i < p)) := fun hne i hi hlt => by
    constructor
    · rintro (q | rfl)
      · exact (heff i hi hlt).1 q
      · exact absurd hi hne
    · intro q; exact .inl ((heff i hi hlt).2 q)
  have hpe' : p = 0 ∨ ∃ e, p = e + 1 ∧ c e = some .eff ∧ (L e ∨ e = j) := hpe.imp id fun ⟨e, q1, q2, q3⟩ => ⟨e, q1, q2, .inl q3⟩
  -- nothing is made: the heap stays
  have quiet : c j ≠ some .eff → c j ≠ some .alloc → ∀ (σ : St), SR φ σ w → (∀ b k, Tr.find b σ.heap = some k → φ b ≠ none → Tr.find b h = some k) → (st 0).next.num ≤ σ.next.num → σ.next.num ≤ (st ops.size).next.num →
      ∀ x w' φ', VR φ' 0 (v j) [x] → Moved φ σ w φ' σ w' → K (a.put o.dst x) w' := by
    intro h1 h2 σ _ hsub lo hi x w' φ' hv hm
    have old : ∀ b, φ' b ≠ none → φ b ≠ none := fun b hb q => by have := hm.only b q hb; omega
    refine hK φ' _ w' (inv.next hdraw hdst ho hnl hrd hm.ext hv ⟨p, h, hp, hpe', effs h1, ?_, fun b hb => hA b (old b hb), fun i hi hai hpi => ?_, fun b q1 q2 q3 => ?_, hD⟩)
    · refine M.part hsub hm (fun b k e hb => ?_) hNd lo hi
      cases hf : Tr.find b σ.heap with
      | none => exact .inr ⟨e, old b hb, rfl⟩
      | some k2 =>
        have := hsub b k2 hf (old b hb)
        rw [e] at this; cases this
        exact .inl rfl
    · rcases hi with hi | rfl
      · exact hB i hi hai hpi
      · exact absurd hai h2
    · obtain ⟨i, g1, g2⟩ := hC b q1 q2 (old b q3)
      exact ⟨i, .inl g1, g2⟩
  unfold wpOpIn
  simp only [ho]
  rcases can.step j o ho with ⟨hcj, hvj, hst, hg⟩ | ⟨hg, hcase⟩
  · -- not wanted
    rw [if_neg (by rw [wanted_of hg hguard]; simp)]
    refine ⟨fun f _ => hF.fn f, ?_⟩
    have hv : VR φ 0 (v j) [Go.undef] := by rw [hvj]; exact undef_vr φ
    refine hK φ _ w (inv.next hdraw hdst ho hnl hrd (.refl φ) hv ⟨p, h, hp, hpe', effs (by rw [hcj]; simp), M, hA, fun i hi hai hpi => ?_, fun b q1 q2 q3 => ?_, hD⟩)
    · rcases hi with hi | rfl
      · exact hB i hi hai hpi
      · rw [hcj] at hai; cases hai
    · obtain ⟨i, g1, g2⟩ := hC b q1 q2 q3
      exact ⟨i, .inl g1, g2⟩
  · rw [if_pos (wanted_of hg hguard)]
    rcases hcase with ⟨hcj, hcl, hst, st1, hrun⟩ | ⟨hcj, hcl, hst, ⟨st1, hrun⟩, hlog⟩ | ⟨hcj, hcl, st1, blk, hrun, hn1, hblk, hst⟩ | ⟨hcj, hcl, hrun, hlog⟩
    · -- it doesn't look
      have sr := M.sr.empty (st j).next
      obtain ⟨h2, h3⟩ := op_reif (a := a) hc hP hx sr hrun
      have hs1 := h2 (.inl hcl)
      subst hs1
      refine h3 (fun b q1 q2 => by omega) F n K Q hF fun x w' φ' hv hm => ?_
      exact quiet (by rw [hcj]; simp) (by rw [hcj]; simp) _ sr (fun b k e _ => by rw [show Tr.find b (St.heap ⟨.e, (st j).next⟩) = none from Tr.find_e b] at e; cases e) l0j (by show (st j).next.num ≤ _; omega) x w' φ' hv hm
    · -- it looks
      have hq : Quiet P o.op := .inr hcl
      have go : ∀ x', p ≤ x' → x' ≤ ops.size → (∀ e, p ≤ e → e < x' → c e ≠ some .eff) → Again P call o.op (fr j) (st x') (v j) → o.wpIn F n P a w K Q := by
        intro x' g1 g2 g3 g4
        obtain ⟨k1, k2⟩ := part_sr can hcm inv.lt hp M hA hB hC hD g1 g2 g3
        exact op_again (a := a) hc hP hx k2 hq g4 F n K Q hF (quiet (by rw [hcj]; simp) (by rw [hcj]; simp) _ k2 k1 (can.mono hcm (by omega) g2) (can.mono hcm g2 (Nat.le_refl _)))
      by_cases hjp : j < p
      · rcases hpe with q | ⟨e, rfl, he1, he2⟩
        · omega
        · have hel := inv.lt e he2
          have hoe : ops[e]? = some ops[e] := by simp [hel]
          have hej : j < e := by
            have : j ≠ e := fun q => by subst q; exact hnl he2
            omega
          rcases can.step e _ hoe with ⟨q, _⟩ | ⟨_, ⟨q, _⟩ | ⟨q, _⟩ | ⟨q, _⟩ | ⟨_, _, _, hl⟩⟩
          · rw [q] at he1; cases he1
          · rw [q] at he1; cases he1
          · rw [q] at he1; cases he1
          · rw [q] at he1; cases he1
          · rcases hl j o hej ho with q | ⟨_, q, _⟩
            · exact absurd (inv.closed.mask inv.lt e he2 j q) hnl
            · exact go (e + 1) (Nat.le_refl _) (by omega) (fun e' h1 h2 => by omega) (q hcj)
      · by_cases hex : ∃ e, p ≤ e ∧ e < j ∧ c e = some .eff
        · -- the first effect behind p
          have key : ∀ m, (∀ e, p ≤ e → e < p + m → c e ≠ some .eff) ∨ ∃ e, p ≤ e ∧ e < p + m ∧ c e = some .eff ∧ ∀ e', p ≤ e' → e' < e → c e' ≠ some .eff := by
            intro m
            induction m with
            | zero => exact .inl fun e h1 h2 => by omega
            | succ m ih =>
              rcases ih with ih | ⟨e, h1, h2, h3⟩
              · by_cases hq : c (p + m) = some .eff
                · exact .inr ⟨p + m, by omega, by omega, hq, ih⟩
                · refine .inl fun e h1 h2 => ?_
                  by_cases he : e = p + m
                  · subst he; exact hq
                  · exact ih e h1 (by omega)
              · exact .inr ⟨e, h1, by omega, h3⟩
          rcases key (j - p) with q | ⟨e, h1, h2, h3, h4⟩
          · obtain ⟨e, g1, g2, g3⟩ := hex
            exact absurd g3 (q e g1 (by omega))
          · rcases hlog e (by omega) h3 with q | q
            · have := inv.closed.ready inv.lt ho hrd e q
              have := (heff e h3 (by omega)).1 this
              omega
            · exact go e h1 (by omega) h4 q
        · have hne : ∀ e, p ≤ e → e < j → c e ≠ some .eff := fun e h1 h2 h3 => hex ⟨e, h1, h2, h3⟩
          obtain ⟨k1, k2⟩ := part_sr can hcm inv.lt hp M hA hB hC hD (by omega) (by omega) hne
          obtain ⟨h2, h3⟩ := op_reif (a := a) hc hP hx k2 hrun
          have hs1 := h2 hq
          subst hs1
          exact h3 (fun b q1 q2 => by omega) F n K Q hF (quiet (by rw [hcj]; simp) (by rw [hcj]; simp) _ k2 k1 l0j (by omega))
    · -- a new block
      have sr := M.sr.empty (st j).next
      obtain ⟨_, h3⟩ := op_reif (a := a) hc hP hx sr hrun
      have hstn : (st (j + 1)).next.num = (st j).next.num + 1 := by rw [hst]; exact Pos.num_inc _
      have hnum1 : st1.next.num = (st j).next.num + 1 := by rw [hn1]; exact Pos.num_inc _
      refine h3 (fun b q1 q2 => ?_) F n K Q hF fun x w' φ' hv hm => ?_
      · refine Classical.byContradiction fun hb => ?_
        have q1 : (st j).next.num ≤ b.num := q1
        obtain ⟨i, g1, g2, g3⟩ := hC b (by omega) (by omega) hb
        have : i = j := apart can hcm (inv.lt i g1) hj g2 g3 q1 (by omega)
        subst this
        exact hnl g1
      · have old : ∀ b, φ' b ≠ none → b ≠ (st j).next → φ b ≠ none := fun b hb hne q => by
          have := hm.only b q hb
          have h1 : (st j).next.num ≤ b.num := this.1
          exact hne (Pos.num_inj (by omega))
        refine hK φ' _ w' (inv.next hdraw hdst ho hnl hrd hm.ext hv ⟨p, Tr.ins (st j).next blk h, hp, hpe', effs (by rw [hcj]; simp), ?_, fun b hb hlt => ?_, fun i hi hai hpi => ?_, fun b q1 q2 q3 => ?_, hD⟩)
        · refine M.part (fun b k e _ => by rw [show Tr.find b (St.heap ⟨.e, (st j).next⟩) = none from Tr.find_e b] at e; cases e) hm (fun b k e hb => ?_) (fun b k e => ?_) l0j (by omega)
          · by_cases hbn : b = (st j).next
            · subst hbn
              rw [Tr.find_ins_same] at e; cases e
              exact .inl hblk
            · rw [Tr.find_ins_ne _ _ _ _ hbn] at e
              exact .inr ⟨e, old b hb hbn, Tr.find_e b⟩
          · by_cases hbn : b = (st j).next
            · subst hbn; omega
            · rw [Tr.find_ins_ne _ _ _ _ hbn] at e
              exact hNd b k e
        · by_cases hbn : b = (st j).next
          · subst hbn
            rw [Tr.find_ins_same]
            -- it is as it was when it was made
            have hjp : j < p := by
              refine Classical.byContradiction fun hn => ?_
              have := can.mono hcm (i := p) (j := j) (by omega) (by omega)
              omega
            have key : ∀ m, j + 1 + m ≤ p → Tr.find (st j).next (st (j + 1 + m)).heap = some blk := by
              intro m
              induction m with
              | zero => intro _; rw [Nat.add_zero, hst]; exact Tr.find_ins_same _ _ _
              | succ m ih =>
                intro hm'
                have ih := ih (by omega)
                have hil : j + 1 + m < ops.size := by omega
                have hoi : ops[j + 1 + m]? = some ops[j + 1 + m] := by simp [hil]
                rcases can.step _ _ hoi with ⟨_, _, q, _⟩ | ⟨_, ⟨_, _, q, _⟩ | ⟨_, _, q, _⟩ | ⟨_, _, _, blk', _, _, _, q⟩ | ⟨he, _, _, hl⟩⟩
                · show Tr.find _ (st (j + 1 + m + 1)).heap = _
                  rw [q]; exact ih
                · show Tr.find _ (st (j + 1 + m + 1)).heap = _
                  rw [q]; exact ih
                · show Tr.find _ (st (j + 1 + m + 1)).heap = _
                  rw [q]; exact ih
                · show Tr.find _ (st (j + 1 + m + 1)).heap = _
                  rw [q]
                  have hne : (st j).next ≠ (st (j + 1 + m)).next := fun e => by
                    have := can.mono hcm (i := j + 1) (j := j + 1 + m) (by omega) (by omega)
                    rw [← e] at this; omega
                  rw [show (stNew blk' (st (j + 1 + m))).heap = Tr.ins (st (j + 1 + m)).next blk' (st (j + 1 + m)).heap from rfl, Tr.find_ins_ne _ _ _ _ hne]
                  exact ih
                · show Tr.find _ (st (j + 1 + m + 1)).heap = _
                  have hLe : L (j + 1 + m) := (heff _ he hil).2 (by omega)
                  rcases hl j o (by omega) ho with q | ⟨_, _, q⟩
                  · exact absurd (inv.closed.mask inv.lt _ hLe j q) hnl
                  · obtain ⟨z, z1, z2⟩ := q hcj
                    rw [ih] at z1; cases z1
                    exact z2
            have := key (p - (j + 1)) (by omega)
            rw [show j + 1 + (p - (j + 1)) = p by omega] at this
            exact this.symm
          · rw [Tr.find_ins_ne _ _ _ _ hbn]
            exact hA b (old b hb hbn) hlt
        · by_cases hij : i = j
          · subst hij
            exact ⟨blk, by rw [hst]; exact Tr.find_ins_same _ _ _, Tr.find_ins_same _ _ _⟩
          · have hi := hi.resolve_right hij
            obtain ⟨blk', q1, q2⟩ := hB i hi hai hpi
            have hil := inv.lt i hi
            obtain ⟨bi, hbi⟩ := alloc_lt can hil hai
            have hne : (st i).next ≠ (st j).next := fun e => by
              refine hij (apart can hcm hil hj (b := (st i).next) (Nat.le_refl _) (by rw [hbi]; exact num_lt_inc _) (by rw [e]; exact Nat.le_refl _) (by rw [e]; omega))
            exact ⟨blk', q1, by rw [Tr.find_ins_ne _ _ _ _ hne]; exact q2⟩
        · by_cases hbn : b = (st j).next
          · subst hbn
            exact ⟨j, .inr rfl, Nat.le_refl _, by omega⟩
          · obtain ⟨i, g1, g2⟩ := hC b q1 q2 (old b q3 hbn)
            exact ⟨i, .inl g1, g2⟩
    · -- an effect
      have hjp : p ≤ j := by
        refine Classical.byContradiction fun hn => hnl ?_
        exact (heff j hcj hj).2 (by omega)
      have hne : ∀ e, p ≤ e → e < j → c e ≠ some .eff := fun e h1 h2 h3 => by
        have hel : e < ops.size := by omega
        rcases hlog e ops[e] h2 (by simp [hel]) with q | ⟨q, _⟩
        · have := inv.closed.ready inv.lt ho hrd e q
          have := (heff e h3 hel).1 this
          omega
        · exact q h3
      obtain ⟨k1, k2⟩ := part_sr can hcm inv.lt hp M hA hB hC hD hjp (by omega) hne
      obtain ⟨_, h3⟩ := op_reif (a := a) hc hP hx k2 hrun
      refine h3 (fun b q1 q2 => ?_) F n K Q hF fun x w' φ' hv hm => ?_
      · refine Classical.byContradiction fun hb => ?_
        obtain ⟨i, g1, g2, g3⟩ := hC b (by omega) (by omega) hb
        have : i = j := apart can hcm (inv.lt i g1) hj g2 g3 q1 q2
        subst this
        exact hnl g1
      · have old : ∀ b, φ' b ≠ none → ¬ ((st j).next.num ≤ b.num ∧ b.num < (st (j + 1)).next.num) → φ b ≠ none := fun b hb hne q => hne (hm.only b q hb)
        obtain ⟨h', hh'⟩ := tree_of (fun b => if b.num < (st (j + 1)).next.num then Tr.find b (st (j + 1)).heap else Tr.find b h) (st ops.size).next.num
        have lo : ∀ b : Pos, b.num < (st (j + 1)).next.num → Tr.find b h' = Tr.find b (st (j + 1)).heap := fun b hb => by rw [hh' b, if_pos (by omega), if_pos hb]
        have hi : ∀ b : Pos, ¬ b.num < (st (j + 1)).next.num → Tr.find b h' = Tr.find b h := fun b hb => by
          rw [hh' b, if_neg hb]
          by_cases q : b.num < (st ops.size).next.num
          · rw [if_pos q]
          · rw [if_neg q]
            cases e : Tr.find b h with
            | none => rfl
            | some k => exact absurd (hNd b k e) q
        refine hK φ' _ w' (inv.next hdraw hdst ho hnl hrd hm.ext hv ⟨j + 1, h', by omega, .inr ⟨j, rfl, hcj, .inr rfl⟩, fun i hi hil => ?_, ?_, fun b hb hlt => lo b hlt, fun i hii hai hpi => ?_, fun b q1 q2 q3 => ?_, hm.sr.dom⟩)
        · constructor
          · rintro (q | rfl)
            · have := (heff i hi hil).1 q; omega
            · omega
          · intro q
            by_cases e : i = j
            · exact .inr e
            · refine .inl ((heff i hi hil).2 ?_)
              refine Classical.byContradiction fun hn => ?_
              exact hne i (by omega) (by omega) hi
        · refine M.part k1 hm (fun b k e hb => ?_) (fun b k e => ?_) l0j ljN
          · by_cases q : b.num < (st (j + 1)).next.num
            · rw [lo b q] at e; exact .inl e
            · rw [hi b q] at e
              refine .inr ⟨e, old b hb (fun g => q g.2), ?_⟩
              cases ef : Tr.find b (st j).heap with
              | none => rfl
              | some kk => exact absurd (k2.dom b kk ef) (by omega)
          · rw [hh' b] at e
            by_cases q : b.num < (st ops.size).next.num
            · exact q
            · rw [if_neg q] at e; cases e
        · have hij : i ≠ j := by omega
          have hL := hii.resolve_right hij
          obtain ⟨blk, g1, g2⟩ := hB i hL hai (by omega)
          refine ⟨blk, g1, ?_⟩
          rw [hi _ (by have := can.mono hcm (i := j + 1) (j := i) hpi (by have := inv.lt i hL; omega); omega)]
          exact g2
        · by_cases q : (st j).next.num ≤ b.num ∧ b.num < (st (j + 1)).next.num
          · exact ⟨j, .inr rfl, q⟩
          · obtain ⟨i, g1, g2⟩ := hC b q1 q2 (old b q3 q)
            exact ⟨i, .inl g1, g2⟩
end
end Ev
end
/- This text proves that a region whose order is open stands for the model's, whatever order is drawn. -/
section
namespace Ev
open Go

section
variable {P : Program} {call : CallH} {ops : Array Oper} {fr : Nat → Tr AV} {st : Nat → St} {v : Nat → AV} {c : Nat → Option Cls}
variable {φ0 : Phi} {w0 : World} {n0 : Nat} {d0 : List Deferred}

theorem Inv.congr {L L' : Nat → Prop} {φ : Phi} {a : Act} {w : World} (h : Inv P call ops fr st v c φ0 w0 n0 d0 L φ a w) (e : ∀ i, L i ↔ L' i) : Inv P call ops fr st v c φ0 w0 n0 d0 L' φ a w := by
  have : L = L' := funext fun i => propext (e i)
  subst this; exact h

/-- what is listed -/
def Lst (listed : Array Bool) (i : Nat) : Prop := listed[i]? = some true
theorem mem_ready {listed : Array Bool} (hs : listed.size = ops.size) {i : Nat} (h : i ∈ Region.ready .any ops listed) : ∃ o, ops[i]? = some o ∧ ¬ Lst listed i ∧ ∀ e ∈ o.after.toList, Region.binds .any e = true → Lst listed e.on := by
  unfold Region.ready at h
  simp only [List.mem_filter, List.mem_range, Bool.and_eq_true, Bool.not_eq_true'] at h
  obtain ⟨hi, h1, h2⟩ := h
  have ho : ops[i]? = some ops[i] := by simp [hi]
  refine ⟨ops[i], ho, fun q => ?_, fun e he hb => ?_⟩
  · unfold Lst at q
    rw [Array.getD_eq_getD_getElem?, q] at h1
    cases h1
  · rw [ho] at h2
    simp only [Option.map_some, Option.getD_some] at h2
    rw [Array.all_eq_true_iff_forall_mem] at h2
    have := h2 e (by simpa using he)
    simp only [hb, Bool.not_true, Bool.false_or] at this
    unfold Lst
    rw [Array.getD_eq_getD_getElem?] at this
    cases e' : listed[e.on]? with
    | none => rw [e'] at this; cases this
    | some b => rw [e'] at this; rw [show b = true from this]
theorem ready_nil {listed : Array Bool} (hs : listed.size = ops.size) (hdraw : drawOk ops = true) (h : Region.ready .any ops listed = []) : ∀ i, i < ops.size → Lst listed i := by
  intro i
  induction i using Nat.strongRecOn with
  | _ i ih =>
    intro hi
    refine Classical.byContradiction fun hn => ?_
    have ho : ops[i]? = some ops[i] := by simp [hi]
    have hm : i ∈ Region.ready .any ops listed := by
      unfold Region.ready
      simp only [List.mem_filter, List.mem_range, Bool.and_eq_true, Bool.not_eq_true']
      refine ⟨hi, ?_, ?_⟩
      · have hil : i < listed.size := by omega
        have e : listed[i]? = some listed[i] := by simp [hil]
        rw [Array.getD_eq_getD_getElem?, e]
        cases hb : listed[i] with
        | false => rfl
        | true => exact absurd (by unfold Lst; rw [e, hb]) hn
      · rw [ho]
        simp only [Option.map_some, Option.getD_some]
        rw [Array.all_eq_true_iff_forall_mem]
        intro e he
        by_cases hb : Region.binds .any e = true
        · have hlt := (drawOk_spec hdraw).1 i _ ho e (by simpa using he) hb
          have := ih e.on hlt (by omega)
          unfold Lst at this
          rw [Array.getD_eq_getD_getElem?, this]
          simp
        · simp [hb]
    rw [h] at hm
    cases hm

theorem wpAny (can : Canon P call ops (masks ops.toList) fr st v c) (hc : CallOk P call) (hP : P.underlying 4294967295 = none) (hdraw : drawOk ops = true) (hdst : ∀ (j : Nat) (o : Oper), ops[j]? = some o → ∀ d, o.dst = some d → d < n0)
    {F : Fence} (hF : FW F) {n : Nat} {Q : Exit → Act → World → Prop} (hQ : ∀ φ a w, Inv P call ops fr st v c φ0 w0 n0 d0 (· < ops.size) φ a w → Q .normal a w) :
    ∀ (fuel : Nat) (listed : Array Bool) (φ : Phi) (a : Act) (w : World), listed.size = ops.size → listed.toList.count false ≤ fuel → Inv P call ops fr st v c φ0 w0 n0 d0 (Lst listed) φ a w → wpAnyIn F n P .any ops Q fuel listed a w := by
  intro fuel
  have fin : ∀ (listed : Array Bool) (φ : Phi) (a : Act) (w : World), listed.size = ops.size → Inv P call ops fr st v c φ0 w0 n0 d0 (Lst listed) φ a w → Region.ready .any ops listed = [] → Q .normal a w := fun listed φ a w hs inv hr => by
    refine hQ φ a w (inv.congr fun i => ⟨fun q => inv.lt i q, fun q => ready_nil hs hdraw hr i q⟩)
  induction fuel with
  | zero =>
    intro listed φ a w hs hf inv
    have hall : ∀ i, i < ops.size → Lst listed i := fun i hi => by
      unfold Lst
      have hil : i < listed.size := by omega
      have e : listed[i]? = some listed[i] := by simp [hil]
      rw [e]
      cases hb : listed[i] with
      | true => rfl
      | false =>
        have : false ∈ listed.toList := by rw [← hb]; simp
        have := List.count_pos_iff.2 this
        omega
    have hr : Region.ready .any ops listed = [] := by
      cases e : Region.ready .any ops listed with
      | nil => rfl
      | cons i l =>
        obtain ⟨o, ho, hn, _⟩ := mem_ready hs (i := i) (by rw [e]; exact List.mem_cons_self ..)
        exact absurd (hall i ((Array.getElem?_eq_some_iff.1 ho).1)) hn
    exact ⟨hr, fin listed φ a w hs inv hr⟩
  | succ fuel ih =>
    intro listed φ a w hs hf inv
    refine ⟨fin listed φ a w hs inv, fun i hi => ?_⟩
    obtain ⟨o, ho, hn, hrd⟩ := mem_ready hs hi
    have hil : i < listed.size := by have := (Array.getElem?_eq_some_iff.1 ho).1; omega
    refine exec can hc hP hdraw hdst inv ho hn hrd hF fun φ' a' w' inv' => ?_
    refine ih (listed.setIfInBounds i true) φ' a' w' (by simpa using hs) ?_ (inv'.congr fun k => ?_)
    · have hb : listed[i] = false := by
        cases hb : listed[i] with
        | false => rfl
        | true => exact absurd (by unfold Lst; simp [hil, hb]) hn
      rw [Array.toList_setIfInBounds, List.count_set (by simpa using hil)]
      have : listed.toList[i]'(by simpa using hil) = false := by simpa using hb
      simp only [this, beq_self_eq_true, if_true]
      have hpos : 0 < listed.toList.count false := List.count_pos_iff.2 (by rw [← this]; exact List.getElem_mem _)
      rw [show (true == false) = false from rfl]
      simp only [Bool.false_eq_true, if_false]
      omega
    · unfold Lst
      rw [Array.getElem?_setIfInBounds]
      by_cases e : i = k
      · subst e; simp [hil]
      · rw [if_neg e]
        constructor
        · rintro (q | q)
          · exact q
          · exact absurd q.symm e
        · exact .inl

theorem drawIn (hc : CallOk P call) (hP : P.underlying 4294967295 = none) (hm : P.follows .mixedOrders = true) (hdraw : drawOk ops = true) {fr0 frE : Tr AV} {st0 stE : St} {e : Ex} {φ : Phi} {a : Act} {w : World}
    (h : drawGo ops.toList (masks ops.toList) 0 .nil ops P call fr0 st0 cNorm = .ok e frE stE) (sr : SR φ st0 w) (hf : FR φ fr0 a.tmps) (hd : ∀ o ∈ ops.toList, ∀ d, o.dst = some d → d < a.tmps.size) (hfr : Fresh φ st0.next stE.next)
    {F : Fence} (hF : FW F) {n id : Nat} {Q : Exit → Act → World → Prop} (hQ : ∀ φ' a' w', FR φ' frE a'.tmps → a'.tmps.size = a.tmps.size → a'.defers = a.defers → Moved φ st0 w φ' stE w' → Q .normal a' w') : (Code.region id ops true).wpIn F n P Q a w := by
  obtain ⟨T, fr', st', hT, hlen, hk⟩ := draw_trace (ms := masks ops.toList) hc.mono (fun n q => by cases q) ops.toList (masks ops.toList) [] .nil fr0 st0 (fun j => by simp) (fun j => by simp) .nil (fun i y q => by simp at q) h
  cases hk
  obtain ⟨fr, st, v, c, can, e1, e2, e3, e4⟩ := canon_of hT (by rw [hlen]; simp)
  subst e1; subst e2; subst e3; subst e4
  refine wpIn_region_any hm ?_
  have hdst : ∀ (j : Nat) (o : Oper), ops[j]? = some o → ∀ d, o.dst = some d → d < a.tmps.size := fun j o ho => hd o (by
    rw [← Array.getElem?_toList] at ho
    exact List.mem_of_getElem? ho)
  have sr' : SR φ (st 0) { w with drawn := w.drawn + 1 } := sr.drawn _ rfl
  have hmono := can.mono hc.mono (i := 0) (j := ops.size) (Nat.zero_le _) (Nat.le_refl _)
  have M0 : Moved φ (st 0) w φ ⟨(st 0).heap, (st ops.size).next⟩ { w with drawn := w.drawn + 1 } :=
    ⟨.refl φ, fun _ h1 h2 => absurd h1 h2, ⟨sr'.blk, sr'.inj, sr'.rng, sr'.glob, fun b k q => Nat.lt_of_lt_of_le (sr'.dom b k q) hmono⟩, hmono, Nat.le_refl _, rfl, rfl, rfl, fun _ _ _ => rfl, fun b k _ s N h1 h2 h3 _ => ⟨b, k, s, N, h1, h2, h3, fun q => q⟩⟩
  refine wpAny (φ0 := φ) (w0 := w) (n0 := a.tmps.size) (d0 := a.defers) can hc hP hdraw hdst hF (fun φ' a' w' inv => ?_) ops.size _ φ a _ (by simp) ?_ ?_
  · obtain ⟨p, h, hp, hpe, heff, M, hA, hB, hC, hD⟩ := inv.rest
    have hne : ∀ e, p ≤ e → e < ops.size → c e ≠ some .eff := fun e h1 h2 h3 => by
      have := (heff e h3 h2).1 h2; omega
    obtain ⟨k1, k2⟩ := part_sr can hc.mono inv.lt hp M hA hB hC hD hp (Nat.le_refl _) hne
    have ne : ∀ {ψ : Phi} {b : Pos} {x : Nat × Nat × Nat}, ψ b = some x → ψ b ≠ none := fun e q => by rw [e] at q; cases q
    refine hQ φ' a' w' (fun t u hu => inv.frame t u (can.last ops.size (Nat.le_refl _) t u hu)) inv.size inv.defers
      ⟨M.ext, M.only, k2, M.mono, M.size, M.os, M.tape, M.output, M.frame, fun b k B s N h1 h2 h3 hB => M.img b k B s N (k1 b k h1 (ne h3)) h2 h3 hB⟩
  · rw [Array.toList_replicate]
    simp
  · have nl : ∀ i, ¬ Lst (Array.replicate ops.size false) i := fun i q => by
      unfold Lst at q
      rw [Array.getElem?_replicate] at q
      split at q <;> cases q
    refine ⟨fun i q => absurd q (nl i), fun j o ho q => absurd q (nl j), rfl, rfl, fun t u hu => ?_, 0, (st 0).heap, Nat.zero_le _, .inl rfl, fun j hj hjl => ⟨fun q => absurd q (nl j), fun q => absurd q (Nat.not_lt_zero _)⟩, M0, fun _ _ _ => rfl, fun i q => absurd q (nl i), fun b q1 q2 q3 => ?_, sr.dom⟩
    · rcases hu with ⟨i, _, q, _⟩ | ⟨_, q⟩
      · exact absurd q (nl i)
      · exact hf t u q
    · exact absurd (hfr b q1 q2) q3
end
end Ev
end
/- This text proves that no statement of the evaluator's takes back the number of the next block. -/
section
namespace Ev
open Go
section
variable {P : Program} {call : CallH}

theorem draw_mono (hc : CallMono call) {ops : Array Oper} {fr0 frE : Tr AV} {st0 stE : St} {e : Ex} (h : drawGo ops.toList (masks ops.toList) 0 .nil ops P call fr0 st0 cNorm = .ok e frE stE) : e = .norm ∧ st0.next.num ≤ stE.next.num := by
  obtain ⟨T, fr', st', hT, hlen, hk⟩ := draw_trace (ms := masks ops.toList) hc (fun n q => by cases q) ops.toList (masks ops.toList) [] .nil fr0 st0 (fun j => by simp) (fun j => by simp) .nil (fun i y q => by simp at q) h
  cases hk
  obtain ⟨fr, st, v, c, can, e1, e2, e3, e4⟩ := canon_of hT (by rw [hlen]; simp)
  subst e1; subst e2; subst e3; subst e4
  exact ⟨rfl, can.mono hc (Nat.zero_le _) (Nat.le_refl _)⟩
theorem go_mono (hc : CallMono call) {ops : Array Oper} {l : List Oper} {fr0 frE : Tr AV} {st0 stE : St} {e : Ex} (h : opsGo l ops P call fr0 st0 cNorm = .ok e frE stE) : e = .norm ∧ st0.next.num ≤ stE.next.num := by
  rcases ops_mono (P := P) hc ops cNorm l fr0 st0 with ⟨n, q⟩ | ⟨fr', st', h1, q⟩
  · rw [h] at q; cases q
  · rw [h] at q; cases q
    exact ⟨rfl, h1⟩

theorem exOn_ret {R : Type} (a b : R) (k : Nat → R) : exOn .ret a b k = b := rfl
theorem onRes_ok {r : Res} {k : Ex → Tr AV → St → Res} {e : Ex} {fr : Tr AV} {st : St} (h : onRes r k = .ok e fr st) : ∃ e1 fr1 st1, r = .ok e1 fr1 st1 ∧ k e1 fr1 st1 = .ok e fr st := by
  cases r with
  | fail n => cases h
  | ok e1 fr1 st1 => exact ⟨e1, fr1, st1, rfl, h⟩

theorem lpAt_cases {R : Type} (b : Pos) (st : St) (k : List Nat → Tr AV → Code → Code → Nat → Option Nat → R) (d : R) : (∃ ps lf as_ bd stt pend, Tr.find b st.heap = some (.lp ps lf as_ bd stt pend) ∧ lpAt b st k d = k ps lf as_ bd stt pend) ∨ lpAt b st k d = d := by
  have e0 : lpAt b st k d = atB b st (fun blk => onLp blk k d) d := by cases st; rfl
  rw [e0]
  rcases atB_cases b st (fun blk => onLp blk k d) d with ⟨blk, hf, he⟩ | he
  · rw [he]
    cases blk <;> first | exact .inl ⟨_, _, _, _, _, _, hf, rfl⟩ | exact .inr rfl
  · exact .inr he

/-- a range over a function, step by step -/
theorem cRange_cases {f : Operand} {ps : Array Tmp} {as_ bd : Code} {fr fr' : Tr AV} {st st' : St} {e : Ex} (h : cRange f ps as_ bd P call fr st = .ok e fr' st') :
    ∃ g fst cap l1 l2 v st3 ps' lf' as' bd' stt pend, eo fr f = .fn g fst cap ∧ (appK (.cons (.yl st.next) .nil) cap (fun l => (.ok .norm (.n l .e .e) st : Res)) (bad 0) = .ok .norm (.n l1 .e .e) st) ∧ (appK fst l1 (fun l => (.ok .norm (.n l .e .e) st : Res)) (bad 0) = .ok .norm (.n l2 .e .e) st) ∧
      call (.fn g .nil .nil) l2 (stNew (.lp ps.toList fr as_ bd 0 none) st) = .ok v st3 ∧ Tr.find st.next st3.heap = some (.lp ps' lf' as' bd' stt pend) ∧ stt ≠ 1 ∧ e = numEx pend ∧ fr' = fr ∧ st' = stPut st.next (.lp ps' lf' as' bd' 3 pend) st3 := by
  unfold cRange at h
  rw [opnd_eq, newBlk_eq] at h
  have hnf : NF (.ok e fr' st') := fun n q => by cases q
  rcases onFn_cases (eo fr f) _ (bad 267) with ⟨g, fst, cap, hv, he⟩ | he
  rotate_left
  · exact hnf.no h he
  rw [he] at h
  have app : ∀ (a b : AV) (kk : AV → Res) (d : Res), (∃ l, appK a b kk d = kk l ∧ ∀ (kk' : AV → Res) (d' : Res), appK a b kk' d' = kk' l) ∨ appK a b kk d = d := by
    intro a b
    induction a with
    | nil => intro kk d; exact .inl ⟨b, rfl, fun _ _ => rfl⟩
    | cons x a _ ih =>
      intro kk d
      rcases ih (fun l => kk (.cons x l)) d with ⟨l, h1, h2⟩ | h1
      · exact .inl ⟨.cons x l, h1, fun kk' d' => h2 (fun l => kk' (.cons x l)) d'⟩
      · exact .inr h1
    | _ => intro kk d; exact .inr rfl
  rcases app (.cons (.yl st.next) .nil) cap _ (bad 266) with ⟨l1, he, a1⟩ | he
  rotate_left
  · exact hnf.no h he
  rw [he] at h
  rcases app fst l1 _ (bad 265) with ⟨l2, he, a2⟩ | he
  rotate_left
  · exact hnf.no h he
  rw [he] at h
  cases hcall : call (.fn g .nil .nil) l2 (stNew (.lp ps.toList fr as_ bd 0 none) st) with
  | fail n => rw [hcall] at h; exact hnf.no h rfl
  | ok v st3 =>
    rw [hcall] at h
    have h : lpAt st.next st3 (fun ps lf as_ bd stt pend => ifB (Nat.beq stt 1) (bad 263) (putBlk st.next (.lp ps lf as_ bd 3 pend) st3 fun st => .ok (numEx pend) fr st)) (bad 264) = .ok e fr' st' := h
    rcases lpAt_cases st.next st3 (fun ps lf as_ bd stt pend => ifB (Nat.beq stt 1) (bad 263) (putBlk st.next (.lp ps lf as_ bd 3 pend) st3 fun st => .ok (numEx pend) fr st)) (bad 264) with ⟨ps', lf', as', bd', stt, pend, hf, he⟩ | he
    rotate_left
    · exact hnf.no h he
    rw [he] at h
    rcases ifB_cases (Nat.beq stt 1) (bad 263) (putBlk st.next (.lp ps' lf' as' bd' 3 pend) st3 fun st => .ok (numEx pend) fr st) with ⟨_, he⟩ | ⟨hs, he⟩
    · exact hnf.no h he
    rw [he, putBlk_eq] at h
    cases h
    exact ⟨g, fst, cap, l1, l2, v, st3, ps', lf', as', bd', stt, pend, hv, a1 _ _, a2 _ _, hcall, hf, fun q => (by subst q; cases hs), rfl, rfl, rfl⟩

theorem code_mono (hc : CallMono call) (c : Code) : ∀ (fr fr' : Tr AV) (st st' : St) (e : Ex), codeF c P call fr st = .ok e fr' st' → st.next.num ≤ st'.next.num := by
  induction c with
  | skip => intro fr fr' st st' e h; cases h; exact Nat.le_refl _
  | region id ops draw =>
    intro fr fr' st st' e h
    have h : ifB draw (ifB (drawOk ops) (drawGo ops.toList (masks ops.toList) 0 .nil ops P call fr st cNorm) (bad 260)) (opsGo ops.toList ops P call fr st cNorm) = .ok e fr' st' := h
    cases draw with
    | false => exact (go_mono hc h).2
    | true =>
      have h : ifB (drawOk ops) (drawGo ops.toList (masks ops.toList) 0 .nil ops P call fr st cNorm) (bad 260) = .ok e fr' st' := h
      rcases ifB_cases (drawOk ops) (drawGo ops.toList (masks ops.toList) 0 .nil ops P call fr st cNorm) (bad 260) with ⟨_, he⟩ | ⟨_, he⟩
      · rw [he] at h; exact (draw_mono hc h).2
      · rw [he] at h; cases h
  | seq a b iha ihb =>
    intro fr fr' st st' e h
    obtain ⟨e1, fr1, st1, h1, h2⟩ := onRes_ok (show onRes (codeF a P call fr st) (cSeq2 (codeF b) P call) = .ok e fr' st' from h)
    have m1 := iha fr fr1 st st1 e1 h1
    cases e1 with
    | norm => exact Nat.le_trans m1 (ihb fr1 fr' st1 st' e h2)
    | ret => cases h2; exact m1
    | exit j => cases h2; exact m1
  | cond c a b iha ihb =>
    intro fr fr' st st' e h
    have h : opnd c fr (fun v => onBool v (fun t => ifB t (codeF a) (codeF b) P call fr st) (bad 261)) = .ok e fr' st' := h
    rw [opnd_eq] at h
    rcases onBool_cases (eo fr c) (fun t => ifB t (codeF a) (codeF b) P call fr st) (bad 261) with ⟨t, _, he⟩ | he
    · rw [he] at h
      cases t
      · exact ihb fr fr' st st' e h
      · exact iha fr fr' st st' e h
    · rw [he] at h; cases h
  | block id a iha =>
    intro fr fr' st st' e h
    obtain ⟨e1, fr1, st1, h1, h2⟩ := onRes_ok (show onRes (codeF a P call fr st) (cBlock2 id) = .ok e fr' st' from h)
    have m1 := iha fr fr1 st st1 e1 h1
    cases e1 with
    | norm => cases h2; exact m1
    | ret => cases h2; exact m1
    | exit j =>
      have h2 : ifB (Nat.beq j id) (.ok .norm fr1 st1) (.ok (.exit j) fr1 st1) = Res.ok e fr' st' := h2
      cases hq : Nat.beq j id <;> rw [hq] at h2 <;> cases h2 <;> exact m1
  | loop a iha =>
    intro fr fr' st st' e h
    have key : ∀ (n : Nat) (fr : Tr AV) (st : St), loopN n (codeF a P call) fr st = .ok e fr' st' → st.next.num ≤ st'.next.num := by
      intro n
      induction n with
      | zero => intro fr st h; cases h
      | succ n ih =>
        intro fr st h
        obtain ⟨e1, fr1, st1, h1, h2⟩ := onRes_ok (show onRes (codeF a P call fr st) (fun e fr st => exOn e (loopN n (codeF a P call) fr st) (.ok .ret fr st) (fun j => .ok (.exit j) fr st)) = .ok e fr' st' from h)
        have m1 := iha fr fr1 st st1 e1 h1
        cases e1 with
        | norm => exact Nat.le_trans m1 (ih fr1 st1 h2)
        | ret => cases h2; exact m1
        | exit j => cases h2; exact m1
    exact key 1000000 fr st h
  | rangeFunc f ps a b _ _ =>
    intro fr fr' st st' e h
    obtain ⟨g, fst, cap, l1, l2, v, st3, ps', lf', as', bd', stt, pend, _, _, _, h4, _, _, _, _, h9⟩ := cRange_cases (P := P) h
    subst h9
    have := hc _ _ _ _ _ h4
    exact Nat.le_trans (le_inc _) this
  | exit id => intro fr fr' st st' e h; cases h; exact Nat.le_refl _
  | scope a _ => intro fr fr' st st' e h; cases h
  | label l => intro fr fr' st st' e h; cases h; exact Nat.le_refl _
  | goto l => intro fr fr' st st' e h; cases h
  | ret => intro fr fr' st st' e h; cases h; exact Nat.le_refl _
  | refuse w => intro fr fr' st st' e h; cases h
end
end Ev
end
/- This text proves that the evaluator's statements stand for the model's. -/
section
namespace Ev
open Go

/-- a way out -/
def exitOf : Ex → Exit
  | .norm => .normal
  | .ret => .ret
  | .exit n => .exit n

/-- the marks of loops over functions among the deferred calls -/
def DefOk (s0 : Nat) (ds : List Deferred) (φ : Phi) (st : St) (w : World) : Prop :=
  s0 ≤ w.heap.size ∧ ∃ Bs : List Nat, ds = Bs.map (fun B => { target := .collected B, args := #[] }) ∧ Bs.Nodup ∧
    ∀ B ∈ Bs, s0 ≤ B ∧ w.heap[B]? = some (.deferred (some [])) ∧ ∀ b k s N, Tr.find b st.heap = some k → k ≠ .dead → φ b ≠ some (B, s, N)
theorem DefOk.step {s0 : Nat} {ds : List Deferred} {φ φ' : Phi} {st st' : St} {w w' : World} (h : DefOk s0 ds φ st w) (m : Moved φ st w φ' st' w') : DefOk s0 ds φ' st' w' := by
  obtain ⟨h0, Bs, h1, h2, h3⟩ := h
  refine ⟨Nat.le_trans h0 m.size, Bs, h1, h2, fun B hB => ?_⟩
  obtain ⟨g1, g2, g3⟩ := h3 B hB
  have hlt : B < w.heap.size := (Array.getElem?_eq_some_iff.1 g2).1
  refine ⟨g1, (m.frame B hlt fun b k s N e1 e2 => g3 b k s N e1 (wr_live e2)).trans g2, fun b k s N e1 e2 e3 => ?_⟩
  obtain ⟨b0, k0, s0, N0, f1, f2, f3, _⟩ := m.img b k B s N e1 e2 e3 hlt
  exact g3 b0 k0 s0 N0 f1 f2 f3
theorem DefOk.nil {φ : Phi} {st : St} {w : World} : DefOk w.heap.size [] φ st w := ⟨Nat.le_refl _, [], rfl, .nil, fun _ h => by cases h⟩

theorem Fresh.after {φ φ1 : Phi} {st st1 : St} {w w1 : World} {n : Pos} (h : Fresh φ st.next n) (m : Moved φ st w φ1 st1 w1) : Fresh φ1 st1.next n := fun b h1 h2 => by
  refine Classical.byContradiction fun q => ?_
  by_cases e : φ b = none
  · have := m.only b e q; omega
  · exact e (h b (Nat.le_trans m.mono h1) h2)
theorem Fresh.cut {φ : Phi} {lo n n' : Pos} (h : Fresh φ lo n') (hn : n.num ≤ n'.num) : Fresh φ lo n := fun b h1 h2 => h b h1 (by omega)

/-- an object that nothing speaks of -/
theorem Moved.push {φ : Phi} {st : St} {w w' : World} {o : Obj} (h : SR φ st w) (hh : w'.heap = w.heap.push o) (h1 : w'.os = w.os) (h2 : w'.tape = w.tape) (h3 : w'.output = w.output) : Moved φ st w φ st w' := by
  have old : ∀ B, B < w.heap.size → w'.heap[B]? = w.heap[B]? := fun B hB => by rw [hh, Array.getElem?_push, if_neg (by omega)]
  refine ⟨.refl φ, fun _ h1 h2 => absurd h1 h2, ⟨fun b k B s N e1 e2 => (h.blk b k B s N e1 e2).mono (.refl φ) (old B (h.rng _ _ _ _ e2)), h.inj, fun b B s N e => ?_, h.glob, h.dom⟩, Nat.le_refl _, ?_, h1, h2, h3, fun B hB _ => old B hB, fun b k _ s N e1 e2 e3 _ => ⟨b, k, s, N, e1, e2, e3, fun q => q⟩⟩
  · have := h.rng b B s N e; rw [hh, Array.size_push]; omega
  · rw [hh, Array.size_push]; omega

section
variable {P : Program} {call : CallH}

theorem dsts_region {n id : Nat} {ops : Array Oper} {draw : Bool} (h : dstsOk n (.region id ops draw) = true) : ∀ o ∈ ops.toList, ∀ d, o.dst = some d → d < n := by
  unfold dstsOk at h
  intro o ho d hd
  have := List.all_eq_true.1 h o ho
  rw [hd] at this
  exact Nat.le_of_ble_eq_true this

theorem run_enterLoop {fn : FuncId} {tmps : Array Value} {ps : Array Tmp} {as_ bd : Code} (w : World) : (Instr.enterLoop fn tmps ps as_ bd none).run P w =
    .ok (w.heap.size + 1, [{ target := .collected w.heap.size, args := #[] }]) ((w.alloc (.deferred (some []))).alloc (.loop { state := .ready, pending := none, fn := fn, tmps := tmps, params := ps, assign := as_, body := bd, defers := w.heap.size })) := by
  unfold Instr.enterLoop
  simp
theorem run_getLoop {w : World} {l : Nat} {r : Loop} (h : w.heap[l]? = some (.loop r)) : (Instr.getLoop l).run P w = .ok r w := by
  unfold Instr.getLoop
  simp [getObj, Sem.run, h]
theorem run_endLoop {w : World} {l : Nat} {r : Loop} (h : w.heap[l]? = some (.loop r)) (hs : sttOf r.state ≠ 1) : (Instr.endLoop l).run P w = .ok r.pending { w with heap := w.heap.setIfInBounds l (.loop { r with state := .exhausted }) } := by
  unfold Instr.endLoop
  have hb : (r.state == LoopState.busy) = false := by
    cases e : r.state <;> first | rfl | (rw [e] at hs; exact absurd rfl hs)
  have := heapSet (P := P) (o2 := .loop { r with state := .exhausted }) h (.inr (.inr ⟨r, rfl⟩))
  simp only [Sem.run_bind, run_getLoop h, Result.andThen_ok, hb, Bool.false_eq_true, if_false]
  simp [this]

theorem app_is {a b l : AV} {xs ys : List Value} {φ : Phi} {st : St} (ha : VR φ 1 a xs) (hb : VR φ 1 b ys) (h : appK a b (fun l => (.ok .norm (.n l .e .e) st : Res)) (bad 0) = .ok .norm (.n l .e .e) st) : VR φ 1 l (xs ++ ys) := by
  rcases append_one (l := .nil) ha hb (fun l => (.ok .norm (.n l .e .e) st : Res)) (bad 0) with ⟨l', e, q⟩ | e
  · rw [h] at e; cases e; exact q
  · rw [h] at e; cases e

theorem codeIn (hc : CallOk P call) (hP : P.underlying 4294967295 = none) (hm : P.follows .mixedOrders = true) (c : Code) : ∀ (fr fr' : Tr AV) (st st' : St) (e : Ex), codeF c P call fr st = .ok e fr' st' →
    ∀ (F : Fence) (n : Nat) (Q : Exit → Act → World → Prop) (s0 : Nat) (φ : Phi) (a : Act) (w : World), FW F → (F.round = none ∨ noRF c = true) → SR φ st w → FR φ fr a.tmps → dstsOk a.tmps.size c = true → Fresh φ st.next st'.next → DefOk s0 a.defers φ st w →
      (∀ φ' a' w', FR φ' fr' a'.tmps → a'.tmps.size = a.tmps.size → DefOk s0 a'.defers φ' st' w' → Moved φ st w φ' st' w' → Q (exitOf e) a' w') → c.wpIn F n P Q a w := by
  induction c with
  | skip =>
    intro fr fr' st st' e h F n Q s0 φ a w hF hrf sr hf hd hfr hdef hQ
    cases h
    exact wpIn_skip (hQ φ a w hf rfl hdef (.refl sr))
  | region id ops draw =>
    intro fr fr' st st' e h F n Q s0 φ a w hF hrf sr hf hd hfr hdef hQ
    have h : ifB draw (ifB (drawOk ops) (drawGo ops.toList (masks ops.toList) 0 .nil ops P call fr st cNorm) (bad 260)) (opsGo ops.toList ops P call fr st cNorm) = .ok e fr' st' := h
    have hds := dsts_region hd
    cases draw with
    | false =>
      have h : opsGo ops.toList ops P call fr st cNorm = .ok e fr' st' := h
      have he := (go_mono hc.mono h).1
      subst he
      refine wpIn_region ?_
      rw [List.range_eq_range']
      have := opsIn hc hP ops hF n Q ops.toList 0 (fun j => by simp) fr st φ a w h sr hf hds hfr (fun φ' a' w' g1 g2 g3 g4 => hQ φ' a' w' g1 g2 (by rw [g3]; exact hdef.step g4) g4)
      simpa using this
    | true =>
      have h : ifB (drawOk ops) (drawGo ops.toList (masks ops.toList) 0 .nil ops P call fr st cNorm) (bad 260) = .ok e fr' st' := h
      rcases ifB_cases (drawOk ops) (drawGo ops.toList (masks ops.toList) 0 .nil ops P call fr st cNorm) (bad 260) with ⟨hdr, he⟩ | ⟨_, he⟩
      · rw [he] at h
        have he := (draw_mono hc.mono h).1
        subst he
        exact drawIn hc hP hm hdr h sr hf hds hfr hF (fun φ' a' w' g1 g2 g3 g4 => hQ φ' a' w' g1 g2 (by rw [g3]; exact hdef.step g4) g4)
      · rw [he] at h; cases h
  | seq x y ihx ihy =>
    intro fr fr' st st' e h F n Q s0 φ a w hF hrf sr hf hd hfr hdef hQ
    obtain ⟨e1, fr1, st1, h1, h2⟩ := onRes_ok (show onRes (codeF x P call fr st) (cSeq2 (codeF y) P call) = .ok e fr' st' from h)
    have hd : dstsOk a.tmps.size x = true ∧ dstsOk a.tmps.size y = true := by unfold dstsOk at hd; simpa using hd
    have hrf' : (F.round = none ∨ noRF x = true) ∧ (F.round = none ∨ noRF y = true) := by
      rcases hrf with q | q
      · exact ⟨.inl q, .inl q⟩
      · have : noRF x = true ∧ noRF y = true := by unfold noRF at q; simpa using q
        exact ⟨.inr this.1, .inr this.2⟩
    refine wpIn_seq ?_
    cases e1 with
    | norm =>
      have m2 := code_mono hc.mono y fr1 fr' st1 st' e h2
      refine ihx fr fr1 st st1 .norm h1 F n _ s0 φ a w hF hrf'.1 sr hf hd.1 (hfr.cut m2) hdef (fun φ1 a1 w1 g1 g2 g3 g4 => ?_)
      show y.wpIn F n P Q a1 w1
      exact ihy fr1 fr' st1 st' e h2 F n Q s0 φ1 a1 w1 hF hrf'.2 g4.sr g1 (by rw [g2]; exact hd.2) (hfr.after g4) g3 (fun φ2 a2 w2 f1 f2 f3 f4 => hQ φ2 a2 w2 f1 (f2.trans g2) f3 (g4.trans f4))
    | ret =>
      cases h2
      exact ihx fr _ st _ .ret h1 F n _ s0 φ a w hF hrf'.1 sr hf hd.1 hfr hdef (fun φ1 a1 w1 g1 g2 g3 g4 => hQ φ1 a1 w1 g1 g2 g3 g4)
    | exit j =>
      cases h2
      exact ihx fr _ st _ (.exit j) h1 F n _ s0 φ a w hF hrf'.1 sr hf hd.1 hfr hdef (fun φ1 a1 w1 g1 g2 g3 g4 => hQ φ1 a1 w1 g1 g2 g3 g4)
  | cond q x y ihx ihy =>
    intro fr fr' st st' e h F n Q s0 φ a w hF hrf sr hf hd hfr hdef hQ
    have h : opnd q fr (fun v => onBool v (fun t => ifB t (codeF x) (codeF y) P call fr st) (bad 261)) = .ok e fr' st' := h
    rw [opnd_eq] at h
    have hd : dstsOk a.tmps.size x = true ∧ dstsOk a.tmps.size y = true := by unfold dstsOk at hd; simpa using hd
    have hrf' : (F.round = none ∨ noRF x = true) ∧ (F.round = none ∨ noRF y = true) := by
      rcases hrf with q | q
      · exact ⟨.inl q, .inl q⟩
      · have : noRF x = true ∧ noRF y = true := by unfold noRF at q; simpa using q
        exact ⟨.inr this.1, .inr this.2⟩
    have hv := eo_sound hf sr.glob q
    rcases onBool_cases (eo fr q) (fun t => ifB t (codeF x) (codeF y) P call fr st) (bad 261) with ⟨t, hq, he⟩ | he
    · rw [he] at h
      rw [hq] at hv
      generalize hqv : a.eval q = qv at hv
      cases hv
      cases t with
      | false => exact wpIn_cond_false hqv (ihy fr fr' st st' e h F n Q s0 φ a w hF hrf'.2 sr hf hd.2 hfr hdef hQ)
      | true => exact wpIn_cond_true hqv (ihx fr fr' st st' e h F n Q s0 φ a w hF hrf'.1 sr hf hd.1 hfr hdef hQ)
    · rw [he] at h; cases h
  | block id x ihx =>
    intro fr fr' st st' e h F n Q s0 φ a w hF hrf sr hf hd hfr hdef hQ
    obtain ⟨e1, fr1, st1, h1, h2⟩ := onRes_ok (show onRes (codeF x P call fr st) (cBlock2 id) = .ok e fr' st' from h)
    have hrf' : F.round = none ∨ noRF x = true := hrf
    refine wpIn_block ?_
    cases e1 with
    | norm => cases h2; exact ihx fr _ st _ .norm h1 F n _ s0 φ a w hF hrf' sr hf hd hfr hdef (fun φ1 a1 w1 g1 g2 g3 g4 => hQ φ1 a1 w1 g1 g2 g3 g4)
    | ret => cases h2; exact ihx fr _ st _ .ret h1 F n _ s0 φ a w hF hrf' sr hf hd hfr hdef (fun φ1 a1 w1 g1 g2 g3 g4 => hQ φ1 a1 w1 g1 g2 g3 g4)
    | exit j =>
      have h2 : ifB (Nat.beq j id) (.ok .norm fr1 st1) (.ok (.exit j) fr1 st1) = Res.ok e fr' st' := h2
      cases hq : Nat.beq j id with
      | true =>
        rw [hq] at h2
        cases h2
        have hj : j = id := Nat.eq_of_beq_eq_true hq
        refine ihx fr _ st _ (.exit j) h1 F n _ s0 φ a w hF hrf' sr hf hd hfr hdef (fun φ1 a1 w1 g1 g2 g3 g4 => ?_)
        show (if j = id then _ else _)
        rw [if_pos hj]
        exact hQ φ1 a1 w1 g1 g2 g3 g4
      | false =>
        rw [hq] at h2
        cases h2
        have hj : j ≠ id := fun q => by subst q; rw [Nat.beq_refl] at hq; cases hq
        refine ihx fr _ st _ (.exit j) h1 F n _ s0 φ a w hF hrf' sr hf hd hfr hdef (fun φ1 a1 w1 g1 g2 g3 g4 => ?_)
        show (if j = id then _ else _)
        rw [if_neg hj]
        exact hQ φ1 a1 w1 g1 g2 g3 g4
  | loop x ihx =>
    intro fr fr' st st' e h F n Q s0 φ a w hF hrf sr hf hd hfr hdef hQ
    have hrf' : F.round = none ∨ noRF x = true := hrf
    have hd : dstsOk a.tmps.size x = true := hd
    have hlm : ∀ (m : Nat) (fr : Tr AV) (st : St), loopN m (codeF x P call) fr st = .ok e fr' st' → st.next.num ≤ st'.next.num := by
      intro m
      induction m with
      | zero => intro fr st h; cases h
      | succ m ih =>
        intro fr st h
        obtain ⟨e1, fr1, st1, h1, h2⟩ := onRes_ok (show onRes (codeF x P call fr st) (fun e fr st => exOn e (loopN m (codeF x P call) fr st) (.ok .ret fr st) (fun j => .ok (.exit j) fr st)) = .ok e fr' st' from h)
        have m1 := code_mono hc.mono x fr fr1 st st1 e1 h1
        cases e1 with
        | norm => exact Nat.le_trans m1 (ih fr1 st1 h2)
        | ret => cases h2; exact m1
        | exit j => cases h2; exact m1
    refine wpIn_loop_rounds 1000000 ?_
    have key : ∀ (m : Nat) (fr : Tr AV) (st : St) (φ : Phi) (a : Act) (w : World), loopN m (codeF x P call) fr st = .ok e fr' st' → SR φ st w → FR φ fr a.tmps → dstsOk a.tmps.size x = true → Fresh φ st.next st'.next → DefOk s0 a.defers φ st w →
        (∀ φ' a' w', FR φ' fr' a'.tmps → a'.tmps.size = a.tmps.size → DefOk s0 a'.defers φ' st' w' → Moved φ st w φ' st' w' → Q (exitOf e) a' w') → Code.roundsIn F n P x Q m a w := by
      intro m
      induction m with
      | zero => intro fr st φ a w h; cases h
      | succ m ih =>
        intro fr st φ a w h sr hf hd hfr hdef hQ
        obtain ⟨e1, fr1, st1, h1, h2⟩ := onRes_ok (show onRes (codeF x P call fr st) (fun e fr st => exOn e (loopN m (codeF x P call) fr st) (.ok .ret fr st) (fun j => .ok (.exit j) fr st)) = .ok e fr' st' from h)
        rw [roundsIn_succ]
        cases e1 with
        | norm =>
          have m2 := hlm m fr1 st1 h2
          refine ihx fr fr1 st st1 .norm h1 F n _ s0 φ a w hF hrf' sr hf hd (hfr.cut m2) hdef (fun φ1 a1 w1 g1 g2 g3 g4 => ?_)
          show Code.roundsIn F n P x Q m a1 w1
          exact ih fr1 st1 φ1 a1 w1 h2 g4.sr g1 (by rw [g2]; exact hd) (hfr.after g4) g3 (fun φ2 a2 w2 f1 f2 f3 f4 => hQ φ2 a2 w2 f1 (f2.trans g2) f3 (g4.trans f4))
        | ret =>
          cases h2
          exact ihx fr _ st _ .ret h1 F n _ s0 φ a w hF hrf' sr hf hd hfr hdef (fun φ1 a1 w1 g1 g2 g3 g4 => hQ φ1 a1 w1 g1 g2 g3 g4)
        | exit j =>
          cases h2
          exact ihx fr _ st _ (.exit j) h1 F n _ s0 φ a w hF hrf' sr hf hd hfr hdef (fun φ1 a1 w1 g1 g2 g3 g4 => hQ φ1 a1 w1 g1 g2 g3 g4)
    exact key 1000000 fr st φ a w h sr hf hd hfr hdef hQ
  | rangeFunc f ps as_ bd _ _ =>
    intro fr fr' st st' e h F n Q s0 φ a w hF hrf sr hf hd hfr hdef hQ
    have hround : F.round = none := by
      rcases hrf with q | q
      · exact q
      · cases q
    obtain ⟨g, fst, cap, l1, l2, v, st3, ps', lf', as', bd', stt, pend, hv, ha1, ha2, hcall, hf3, hstt, he, hfr', hst'⟩ := cRange_cases (P := P) h
    subst he; subst hfr'; subst hst'
    have hd' : ((∀ t ∈ ps.toList, t < a.tmps.size) ∧ dstsOk a.tmps.size as_ = true ∧ dstsOk a.tmps.size bd = true) ∧ noRF as_ = true ∧ noRF bd = true := by
      unfold dstsOk at hd
      simp only [Bool.and_eq_true, List.all_eq_true] at hd
      obtain ⟨⟨⟨⟨d1, d2⟩, d3⟩, d4⟩, d5⟩ := hd
      exact ⟨⟨fun t ht => Nat.le_of_ble_eq_true (d1 t ht), d2, d3⟩, d4, d5⟩
    have hfv := eo_sound hf sr.glob f
    rw [hv] at hfv
    generalize hρ : a.eval f = fv at hfv
    cases hfv with
    | fn _ _ _ xs ys hx hy =>
    refine wpIn_rangeFunc fun fnid _ => ?_
    let r0 : Loop := { state := .ready, pending := none, fn := fnid, tmps := a.tmps, params := ps, assign := as_, body := bd, defers := w.heap.size }
    let wA := w.alloc (.deferred (some []))
    let w1 := wA.alloc (.loop r0)
    have mA : Moved φ st w φ st wA := Moved.push sr rfl rfl rfl rfl
    have hsA : wA.heap.size = w.heap.size + 1 := by show (w.heap.push _).size = _; simp
    have hnx : φ st.next = none := hfr st.next (Nat.le_refl _) (by
      have := hc.mono _ _ _ _ _ hcall
      have h2 : st.next.inc.num ≤ st3.next.num := this
      rw [Pos.num_inc] at h2
      show _ < st3.next.num
      omega)
    have hw1l : w1.heap[w.heap.size + 1]? = some (.loop r0) := by
      show (wA.heap.push (.loop r0))[w.heap.size + 1]? = _
      rw [← hsA]; simp
    have mB : Moved φ st wA (upd φ st.next (w.heap.size + 1, 0, 0)) (stNew (.lp ps.toList fr' as_ bd 0 none) st) w1 := by
      have := Moved.alloc (w' := w1) mA.sr hnx (.loop r0) (.lp ps.toList fr' as_ bd 0 none) 0 rfl rfl rfl rfl (by
        rw [hsA]
        exact ⟨rfl, r0, hw1l, by simp [r0], rfl, rfl, rfl, rfl, hf.mono (.upd _ hnx), hd'.1.2.1, hd'.1.2.2, hd'.1.1, hd'.2.1, hd'.2.2⟩)
      rw [hsA] at this
      exact this
    have m1 := mA.trans mB
    have hyl : VR (upd φ st.next (w.heap.size + 1, 0, 0)) 0 (.yl st.next) [.func (.yield (w.heap.size + 1)) #[] #[]] := .yl _ _ _ (upd_same _ _ _)
    have hl1 := app_is (VR.cons1 _ _ _ _ hyl .nil1) (hy.mono m1.ext) ha1
    have hl2 := app_is (hx.mono m1.ext) hl1 ha2
    obtain ⟨⟨fnc, f1, f2, f3⟩, hspec⟩ := hc.fn g l2 _ v st3 hcall
    have hfr3 : Fresh (upd φ st.next (w.heap.size + 1, 0, 0)) (stNew (.lp ps.toList fr' as_ bd 0 none) st).next st3.next := Fresh.after (n := st3.next) hfr m1
    refine ⟨w.heap.size + 1, [{ target := .collected w.heap.size, args := #[] }], w1, { target := .fn (.func g) ⟨ys⟩, args := ⟨xs ++ [.func (.yield (w.heap.size + 1)) #[] #[]]⟩ }, w1, g, ⟨xs ++ ([.func (.yield (w.heap.size + 1)) #[] #[]] ++ ys)⟩, w1, ?_, ?_, fun f' _ => hF.fn f', ?_, fun q => (by rw [hF.depth] at q; cases q), ?_⟩
    · rw [hround]; exact run_enterLoop w
    · have : Act.eval a (.const (.func (.yield (w.heap.size + 1)) #[] #[])) = .func (.yield (w.heap.size + 1)) #[] #[] := rfl
      simp [resolve, rangeCall, hρ, Deferred.ofValue, this]
    · simp only [invoke]
      rw [run_callFunc f1 f2 f3]
      congr 2
      apply Array.ext'
      simp
    · refine CallsIn.mono (hF.calls (hspec _ w1 _ m1.sr hl2 hfr3)) fun en w3 hen => ?_
      cases en with
      | panicked _ => exact hen.elim
      | outgrown => exact hen.elim
      | returned x =>
        obtain ⟨φ3, _, m3⟩ := hen
        have hφ3 : φ3 st.next = some (w.heap.size + 1, 0, 0) := m3.ext _ _ (upd_same _ _ _)
        obtain ⟨_, r, b1, b2, b3, b4, b5, b6, b7, b8, b9, b10⟩ := m3.sr.blk _ _ _ _ _ hf3 hφ3
        have m4 : Moved φ3 st3 w3 φ3 (stPut st.next (.lp ps' lf' as' bd' 3 pend) st3) { w3 with heap := w3.heap.setIfInBounds (w.heap.size + 1) (.loop { r with state := .exhausted }) } :=
          moved_set m3.sr hf3 rfl hφ3 b1 ⟨rfl, { r with state := .exhausted }, set_at b1, b2, b3, b4, rfl, b6, b7, b8, b9, b10⟩
        have mAll := m1.trans (m3.trans m4)
        have hdef1 : DefOk s0 ({ target := .collected w.heap.size, args := #[] } :: a.defers) (upd φ st.next (w.heap.size + 1, 0, 0)) (stNew (.lp ps.toList fr' as_ bd 0 none) st) w1 := by
          obtain ⟨q0, Bs, q1, q2, q3⟩ := hdef.step m1
          have q0' := hdef.1
          obtain ⟨_, Bs', p1, p2, p3⟩ := hdef
          refine ⟨q0, w.heap.size :: Bs', by rw [p1]; rfl, List.nodup_cons.2 ⟨fun hmem => ?_, p2⟩, fun B hB => ?_⟩
          · obtain ⟨_, g2, _⟩ := p3 _ hmem
            have := (Array.getElem?_eq_some_iff.1 g2).1
            omega
          · rcases List.mem_cons.1 hB with rfl | hB
            · refine ⟨q0', ?_, fun b k s N e1 e2 e3 => ?_⟩
              · show (wA.heap.push (.loop r0))[w.heap.size]? = _
                rw [Array.getElem?_push, if_neg (by omega)]
                show (w.heap.push _)[w.heap.size]? = _
                simp
              · by_cases hb : b = st.next
                · subst hb; rw [upd_same] at e3; simp at e3
                · rw [upd_ne _ _ hb] at e3
                  have := sr.rng _ _ _ _ e3
                  omega
            · have : Bs' = Bs := by
                have hinj : Function.Injective (fun B : Nat => ({ target := .collected B, args := #[] } : Deferred)) := fun x y e => by
                  injection e with e1 _
                  injection e1
                rw [p1] at q1
                exact List.map_inj_right (fun x y e => hinj e) |>.1 q1
              subst this
              exact q3 B hB
        have hfin : Q (exitOf (numEx pend)) { a with defers := [{ target := .collected w.heap.size, args := #[] }] ++ a.defers } { w3 with heap := w3.heap.setIfInBounds (w.heap.size + 1) (.loop { r with state := .exhausted }) } :=
          hQ φ3 _ _ (hf.mono mAll.ext) rfl (hdef1.step (m3.trans m4)) mAll
        refine ⟨r.pending, _, run_endLoop b1 (by rw [b5]; exact hstt), ?_⟩
        rw [b6] at hfin
        rw [b6]
        cases pend with
        | none => exact hfin
        | some m =>
          cases m with
          | zero => exact wpIn_ret hfin
          | succ m => exact wpIn_exit hfin
  | exit id =>
    intro fr fr' st st' e h F n Q s0 φ a w hF hrf sr hf hd hfr hdef hQ
    cases h
    exact wpIn_exit (hQ φ a w hf rfl hdef (.refl sr))
  | scope x _ => intro fr fr' st st' e h; cases h
  | label l =>
    intro fr fr' st st' e h F n Q s0 φ a w hF hrf sr hf hd hfr hdef hQ
    cases h
    exact wpIn_label (hQ φ a w hf rfl hdef (.refl sr))
  | goto l => intro fr fr' st st' e h; cases h
  | ret =>
    intro fr fr' st st' e h F n Q s0 φ a w hF hrf sr hf hd hfr hdef hQ
    cases h
    exact wpIn_ret (hQ φ a w hf rfl hdef (.refl sr))
  | refuse x => intro fr fr' st st' e h; cases h
end
end Ev
end
