/-
  RvKa: the frame, with what it leaves alone.
  RvKb: a range over a map whose round calls a function (maps.Keys' iterator), keys of a struct's kind: the keys come, each once, in some order.
  RvKc: the iterator of maps.Keys, keys of a struct's kind: a call of it, against whatever it is handed.
  RvKd: slices.AppendSeq(nil, maps.Keys(m)), keys of a struct's kind.
  RvKe: slices.AppendSeq(nil, maps.Keys(m)), slices.Collect(maps.Keys(m)): the call.
  RvKf: slices.SortedFunc(maps.Keys(m), cmp), keys of a struct's kind: held against the evaluator's word for each order in which the keys may come.
  RvKg: a range over a map whose round calls a function, keys of a plain kind (one cell): maps.Keys' iterator there.
  RvKh: slices.Sorted(maps.Keys(m)), keys of one cell: held against the evaluator's word for each order in which the keys may come.
-/
import Derived.Test.YtikjcgibklgpdaaGreatRvFour
import Derived.Maps.RangeRun
import Derived.Sort.MapsRangeIn
import Derived.LoopIn
import Derived.Shelf.SlIter.Keys
set_option linter.unusedSimpArgs false
set_option linter.unusedVariables false
set_option linter.unusedSectionVars false

namespace Go.Rv

/-- A call has come back, and has left some objects alone. -/
def RetK (N : Num) (k : Nat) (φ : Phi) (w : World) (keep : Nat → Prop) (K : AVal → AHeap → Prop) (x : Value) (w' : World) : Prop :=
  ∃ v H' φ', K v H' ∧ k ≤ H'.length ∧ VRel N.env φ' w' v x ∧ HRel N.env φ' w' (get H') ∧ Ext φ w φ' w' ∧ ∀ id l, keep id → φ id = .live l → φ' id = .live l ∧ w'.heap[l.blk]? = w.heap[l.blk]?

def UponG (N : Num) (R : Value → World → Prop) : Result Next → Prop
  | .ok (.value x) w' => R x w'
  | .ok .skip w' => R undef w'
  | .ok (.enter f args) w' => CallsIn (Fn none) 0 N.P f args w' fun e w'' => ∃ x, e = .returned x ∧ R x w''
  | .ok (.round l f tmps asg bd) w' => RoundIn (Fn none) 0 N.P l f tmps asg bd w' fun e w'' => ∃ x, e = .returned x ∧ R x w''
  | _ => False

def ACallK (N : Num) (keep : Nat → Prop) (fv : AVal) (args : List AVal) (H : AHeap) (K : AVal → AHeap → Prop) : Prop :=
  ∀ (φ : Phi) (w : World) (f : Value) (vs : List Value), HRel N.env φ w (get H) → VRel N.env φ w fv f → VsRel N.env φ w args vs →
    ∃ d : Deferred, (Deferred.ofValue f vs.toArray).run N.P w = .ok d w ∧ UponG N (RetK N H.length φ w keep K) ((invoke d.target d.args).run N.P w)

theorem ACallV.frameK {N : Num} {fv : AVal} {args : List AVal} {H H0 : AHeap} {K : AVal → AHeap → Prop} (ι : List Nat) (hl : Lies ι H H0) (hbf : bndV H0.length fv = true) (hba : bndL H0.length args = true) (hbH : bndH H0.length H0 = true)
    (h : ∀ X, ACallV (N.withX X) fv args H0 fun v H' => K (ren (nums ι H.length) v) (glue ι H H')) : ACallK N (fun id => id < H.length ∧ id ∉ ι) (ren (nums ι H.length) fv) (renL (nums ι H.length) args) H K := by
  obtain ⟨hnd, hlen, hat⟩ := hl
  intro φ w fval vs HH hf ha
  have hιlt : ∀ i ∈ ι, i < H.length := by
    intro i hi
    obtain ⟨j, hj, rfl⟩ := List.mem_iff_getElem.1 hi
    have := hat j ι[j] (H0[j]'(by omega)) (by simp [hj]) (by simp [show j < H0.length by omega])
    exact (List.getElem?_eq_some_iff.1 this).1
  let f := nums ι H.length
  have f_lt : ∀ j, j < ι.length → ∃ i, ι[j]? = some i ∧ f j = i := fun j hj => ⟨ι[j], by simp [hj], by simp [f, nums, hj]⟩
  have f_ge : ∀ j, ι.length ≤ j → f j = H.length + (j - ι.length) := fun j hj => by simp [f, nums, List.getElem?_eq_none hj]
  let φ0 : Phi := fun j => if j < H0.length then φ (f j) else .un
  let X : Nat → Prop := fun b => N.other b ∨ ∃ id l, φ id = .live l ∧ l.blk = b ∧ id ∉ ι
  have hφ0 : ∀ j, j < H0.length → φ0 j = φ (f j) := fun j hj => by simp [φ0, hj]
  have φ0_live : ∀ j l, φ0 j = .live l → j < H0.length ∧ φ (f j) = .live l ∧ f j ∈ ι := by
    intro j l hj
    simp only [φ0] at hj
    split at hj
    · rename_i hlt
      obtain ⟨i, hi, hfi⟩ := f_lt j (by omega)
      exact ⟨hlt, hj, by rw [hfi]; exact List.mem_of_getElem? hi⟩
    · cases hj
  have f_inj : ∀ i j, i < ι.length → j < ι.length → f i = f j → i = j := by
    intro i j hi hj e
    obtain ⟨a, ha1, ha2⟩ := f_lt i hi
    obtain ⟨b, hb1, hb2⟩ := f_lt j hj
    have : ι[i]? = ι[j]? := by rw [ha1, hb1, ← ha2, ← hb2, e]
    exact (List.getElem?_inj hi hnd).1 this
  have himm0 : ∀ {b}, Imm N.env φ w b → Imm (N.withX X).env φ0 w b := by
    intro b hb
    refine ⟨⟨hb.1.1, ?_⟩, fun id l hl => hb.2 _ l (φ0_live id l hl).2.1⟩
    rintro (h1 | ⟨id, l, h1, h2, _⟩)
    · exact hb.1.2 h1
    · exact hb.2 id l h1 h2
  have HH0 : HRel (N.withX X).env φ0 w (get H0) := by
    refine ⟨fun j => ?_, fun i j li lj hi hj e => ?_⟩
    · by_cases hj : j < H0.length
      · obtain ⟨i, hi, hfi⟩ := f_lt j (by omega)
        have ho : H0[j]? = some (get H0 j) := by simp [get, List.getD, hj]
        have hbig := hat j i _ hi ho
        have := HH.1 (f j)
        rw [hfi, get_some hbig] at this
        rw [hφ0 j hj, hfi]
        exact ORel.unren (k := H0.length) (E1 := N.env) (E2 := (N.withX X).env) (φ1 := φ) rfl (N.cc_withX X).symm (fun q hq => hφ0 q hq) himm0 this (bndH_get hbH ho)
      · have : get H0 j = .un := by simp [get, List.getD, List.getElem?_eq_none (by omega : H0.length ≤ j)]
        rw [this]; simp [φ0, hj, ORel]
    · obtain ⟨h1, h2, _⟩ := φ0_live i li hi
      obtain ⟨h3, h4, _⟩ := φ0_live j lj hj
      exact f_inj i j (by omega) (by omega) (HH.2 _ _ _ _ h2 h4 e)
  obtain ⟨d, hd, hU⟩ := h X φ0 w fval vs HH0 (VRel.unren (k := H0.length) (E1 := N.env) (E2 := (N.withX X).env) (φ1 := φ) rfl (fun q hq => hφ0 q hq) himm0 hf hbf) (VsRel.unren (k := H0.length) (E1 := N.env) (E2 := (N.withX X).env) (φ1 := φ) rfl (fun q hq => hφ0 q hq) himm0 ha hba)
  refine ⟨d, hd, ?_⟩
  have key : ∀ x w', Ret (N.withX X) H0.length φ0 w (fun v H' => K (ren f v) (glue ι H H')) x w' → RetK N H.length φ w (fun id => id < H.length ∧ id ∉ ι) K x w' := by
    rintro x w' ⟨v, H', φ0', hK, hk, hv, HH', hE⟩
    let g : Nat → Nat := fun id => if id ∈ ι then ι.idxOf id else ι.length + (id - H.length)
    let φ' : Phi := fun id => if id < H.length ∧ id ∉ ι then φ id else φ0' (g id)
    have hφ' : ∀ j, φ' (f j) = φ0' j := by
      intro j
      rcases Nat.lt_or_ge j ι.length with hj | hj
      · obtain ⟨i, hi, hfi⟩ := f_lt j hj
        have hm : i ∈ ι := List.mem_of_getElem? hi
        have hix : ι.idxOf i = j := by
          have h1 : ι.idxOf i < ι.length := List.idxOf_lt_length_iff.2 hm
          have h2 : ι[ι.idxOf i]? = some i := by rw [List.getElem?_eq_getElem h1]; simp
          exact (List.getElem?_inj h1 hnd).1 (by rw [h2, hi])
        simp only [φ', hfi, hm, not_true_eq_false, and_false, if_false, g, if_true, hix]
      · rw [f_ge j hj]
        have hm : H.length + (j - ι.length) ∉ ι := fun hm => by have := hιlt _ hm; omega
        simp only [φ', hm, not_false_eq_true, and_true, g, if_false]
        rw [if_neg (by omega)]
        congr 1; omega
    have live' : ∀ id l, φ' id = .live l → (id < H.length ∧ id ∉ ι ∧ φ id = .live l) ∨ (¬ (id < H.length ∧ id ∉ ι) ∧ φ0' (g id) = .live l) := by
      intro id l hl
      simp only [φ'] at hl
      split at hl
      · rename_i hc; exact .inl ⟨hc.1, hc.2, hl⟩
      · rename_i hc; exact .inr ⟨hc, hl⟩
    have hX : ∀ id l, id ∉ ι → φ id = .live l → X l.blk := fun id l hi hl => .inr ⟨id, l, hl, rfl, hi⟩
    have himm' : ∀ {b}, Imm (N.withX X).env φ0' w' b → Imm N.env φ' w' b := by
      intro b hb
      refine ⟨⟨hb.1.1, fun ho => hb.1.2 (.inl ho)⟩, fun id l hl e => ?_⟩
      rcases live' id l hl with ⟨_, h2, h3⟩ | ⟨_, h2⟩
      · exact hb.1.2 (by rw [← e]; exact hX id l h2 h3)
      · exact hb.2 _ l h2 e
    have blk_lt : ∀ id l, φ id = .live l → l.blk < w.heap.size := fun id l hl => HH.blk hl
    have frame_ne : ∀ id l, id ∉ ι → φ id = .live l → ∀ j l0, φ0 j = .live l0 → l0.blk ≠ l.blk := by
      intro id l hi hl j l0 hj e
      obtain ⟨_, h2, h3⟩ := φ0_live j l0 hj
      have := HH.2 _ _ _ _ h2 hl e
      exact hi (this ▸ h3)
    have keep0 : ∀ b, b < w.heap.size → (∀ id l, φ id = .live l → l.blk ≠ b) → w'.heap[b]? = w.heap[b]? := fun b hb hn => hE.keep b hb fun j l0 hj => hn _ l0 (φ0_live j l0 hj).2.1
    have hgoes : ∀ id, Goes (φ id) (φ' id) := by
      intro id
      by_cases hc : id < H.length ∧ id ∉ ι
      · simp only [φ', hc, and_self, not_false_eq_true, if_true]; exact .refl _
      · by_cases hm : id ∈ ι
        · obtain ⟨j, hj, hij⟩ := List.mem_iff_getElem.1 hm
          obtain ⟨i2, hi2, hfi⟩ := f_lt j hj
          have e : f j = id := by rw [hfi]; rw [List.getElem?_eq_getElem hj] at hi2; rw [← hij]; simpa using hi2.symm
          have := hE.goes j
          rw [hφ0 j (by omega), e] at this
          rw [← e, hφ']
          rw [e]; exact this
        · have hge : H.length ≤ id := by
            rcases Nat.lt_or_ge id H.length with h1 | h1
            · exact absurd ⟨h1, hm⟩ hc
            · exact h1
          rw [un_of_ge HH hge]
          exact ⟨(by intro h; cases h), (by intro l h; cases h)⟩
    have hfresh : ∀ id l', φ' id = .live l' → (∃ id0 l, φ id0 = .live l ∧ l.blk = l'.blk) ∨ w.heap.size ≤ l'.blk := by
      intro id l' hl
      rcases live' id l' hl with ⟨_, _, h3⟩ | ⟨_, h2⟩
      · exact .inl ⟨id, l', h3, rfl⟩
      · rcases hE.fresh _ l' h2 with ⟨id0, l, h1, h2⟩ | h1
        · exact .inl ⟨_, l, (φ0_live id0 l h1).2.1, h2⟩
        · exact .inr h1
    have ext : Ext φ w φ' w' := ⟨⟨hE.same, hE.size, keep0, hfresh, hE.loops⟩, hgoes⟩
    have hlenH' : (glue ι H H').length = H.length + (H'.length - ι.length) := by
      simp [glue, setAll_length, renH_length]
    refine ⟨ren f v, glue ι H H', φ', hK, by omega, VRel.ren (E1 := (N.withX X).env) (E2 := N.env) rfl hφ' himm' hv, ?_, ext, fun id l hk hl => ⟨by simp only [φ', hk, and_self, not_false_eq_true, if_true]; exact hl, hE.keep _ (blk_lt id l hl) fun j l0 hj => frame_ne id l hk.2 hl j l0 hj⟩⟩
    refine ⟨fun id => ?_, fun i j li lj hi hj e => ?_⟩
    · by_cases hc : id < H.length ∧ id ∉ ι
      · have e1 : φ' id = φ id := by simp only [φ', hc, and_self, not_false_eq_true, if_true]
        have e2 : get (glue ι H H') id = get H id := by
          simp only [get, List.getD, glue]
          rw [List.getElem?_append_left (by rw [setAll_length]; exact hc.1), setAll_out _ _ _ _ hc.2]
        rw [e1, e2]
        refine (HH.1 id).mono ext fun l hl => ?_
        exact hE.keep _ (blk_lt id l hl) fun j l0 hj => frame_ne id l hc.2 hl j l0 hj
      · obtain ⟨j, hj⟩ : ∃ j, f j = id := by
          by_cases hm : id ∈ ι
          · obtain ⟨j, hj, hij⟩ := List.mem_iff_getElem.1 hm
            obtain ⟨i2, hi2, hfi⟩ := f_lt j hj
            exact ⟨j, by rw [hfi]; rw [List.getElem?_eq_getElem hj] at hi2; rw [← hij]; simpa using hi2.symm⟩
          · have hge : H.length ≤ id := by
              rcases Nat.lt_or_ge id H.length with h1 | h1
              · exact absurd ⟨h1, hm⟩ hc
              · exact h1
            exact ⟨ι.length + (id - H.length), by rw [f_ge _ (by omega)]; omega⟩
        have e2 : get (glue ι H H') (f j) = renO f (get H' j) := by
          rcases Nat.lt_or_ge j ι.length with hjl | hjl
          · obtain ⟨i, hi, hfi⟩ := f_lt j hjl
            have hjH : j < H'.length := by omega
            have ho : (renH f H')[j]? = some (renO f H'[j]) := by rw [renH_get]; simp [hjH]
            have := setAll_in ι (renH f H') H j i _ hnd hιlt hi ho
            simp only [get, List.getD, glue]
            rw [List.getElem?_append_left (by rw [setAll_length, hfi]; exact hιlt i (List.mem_of_getElem? hi)), hfi, this]
            simp [hjH]
          · rw [f_ge j hjl]
            simp only [get, List.getD, glue]
            rw [List.getElem?_append_right (by rw [setAll_length]; omega), setAll_length, List.getElem?_drop, renH_get]
            have : ι.length + (H.length + (j - ι.length) - H.length) = j := by omega
            rw [this]
            cases H'[j]? <;> rfl
        rw [← hj, hφ', e2]
        exact ORel.ren (E1 := (N.withX X).env) (E2 := N.env) rfl (N.cc_withX X) hφ' himm' (HH'.1 j)
    · have cross : ∀ id l, id < H.length → id ∉ ι → φ id = .live l → ∀ q lq, φ0' q = .live lq → l.blk ≠ lq.blk := by
        intro id l _ h2 h3 q lq hq e
        rcases hE.fresh q lq hq with ⟨id0, l0, a1, a2⟩ | hge
        · exact frame_ne id l h2 h3 id0 l0 a1 (a2.trans e.symm)
        · have := blk_lt id l h3; omega
      rcases live' i li hi with ⟨a1, a2, a3⟩ | ⟨a1, a2⟩
      · rcases live' j lj hj with ⟨b1, b2, b3⟩ | ⟨b1, b2⟩
        · exact HH.2 i j li lj a3 b3 e
        · exact absurd e (cross i li a1 a2 a3 _ lj b2)
      · rcases live' j lj hj with ⟨b1, b2, b3⟩ | ⟨b1, b2⟩
        · exact absurd e.symm (cross j lj b1 b2 b3 _ li a2)
        · have hg : g i = g j := HH'.2 _ _ _ _ a2 b2 e
          have finv : ∀ id, ¬ (id < H.length ∧ id ∉ ι) → f (g id) = id := by
            intro id hc
            by_cases hm : id ∈ ι
            · simp only [g, hm, if_true]
              have h1 : ι.idxOf id < ι.length := List.idxOf_lt_length_iff.2 hm
              obtain ⟨q, hq1, hq2⟩ := f_lt _ h1
              rw [hq2]
              rw [List.getElem?_eq_getElem h1] at hq1
              simpa using hq1.symm
            · have hge : H.length ≤ id := by
                rcases Nat.lt_or_ge id H.length with h1 | h1
                · exact absurd ⟨h1, hm⟩ hc
                · exact h1
              simp only [g, hm, if_false]
              rw [f_ge _ (by omega)]; omega
          rw [← finv i a1, ← finv j b1, hg]
  have hr : Upon (N.withX X) H0.length φ0 w (fun v H' => K (ren f v) (glue ι H H')) ((invoke d.target d.args).run N.P w) := hU
  generalize (invoke d.target d.args).run N.P w = r at hr
  clear hU
  unfold Upon at hr
  unfold UponG
  split at hr
  · exact key _ _ hr
  · exact key _ _ hr
  · exact CallsIn.mono (P := N.P) hr fun e w'' ⟨x, h1, h2⟩ => ⟨x, h1, key _ _ h2⟩
  · exact RoundIn.mono (P := N.P) hr fun e w'' ⟨x, h1, h2⟩ => ⟨x, h1, key _ _ h2⟩
  · exact hr.elim


end Go.Rv

namespace Go.Rv
open Go.ChangeMaps (setBlock)

def keysBody (tm tk tf tb t0 : TypeId) : Code :=
  ((Code.region 0
            #[{ dst := some 4, op := Op.load tm (Operand.tmp 1), type := tm, pos := "iter.go:27", after := #[],
                guard := none },
              { dst := some 5, op := Op.range tm (Operand.tmp 4), type := t0, pos := "iter.go:27",
                after := #[{ on := 0, ground := Ground.data }], guard := none }]
            false).seq
        (Code.block 0
          ((Code.region 1
                  #[{ dst := some 6, op := Op.next (Operand.tmp 5) false, type := t0, pos := "iter.go:27", after := #[],
                      guard := none },
                    { dst := some 7, op := Op.extract (Operand.tmp 6) 0, type := tb, pos := "iter.go:27",
                      after := #[{ on := 0, ground := Ground.data }], guard := none }]
                  false).seq
              ((Code.cond (Operand.tmp 7) Code.skip (Code.exit 0)).seq
                (Code.block 1
                  ((Code.region 2
                        #[{ dst := some 8, op := Op.entry (Operand.tmp 5), type := t0, pos := "iter.go:27",
                            after := #[], guard := none },
                          { dst := some 9, op := Op.extract (Operand.tmp 8) 0, type := tk, pos := "iter.go:27",
                            after := #[{ on := 0, ground := Ground.data }], guard := none },
                          { dst := some 3, op := Op.alloc tk, type := t0, pos := "iter.go:27", after := #[],
                            guard := none },
                          { dst := none, op := Op.store tk (Operand.tmp 3) (Operand.tmp 9), type := t0,
                            pos := "iter.go:27",
                            after :=
                              #[{ on := 2, ground := Ground.data }, { on := 1, ground := Ground.data },
                                { on := 0, ground := Ground.phase }, { on := 1, ground := Ground.phase },
                                { on := 2, ground := Ground.phase }],
                            guard := none }]
                        false).seq
                    ((Code.region 3
                          #[{ dst := some 10, op := Op.move (Operand.tmp 0), type := tf, pos := "iter.go:28",
                              after := #[], guard := none },
                            { dst := some 11, op := Op.load tk (Operand.tmp 3), type := tk, pos := "iter.go:28",
                              after := #[], guard := none },
                            { dst := some 12,
                              op :=
                                Op.call
                                  { callee := Callee.value (Operand.tmp 10), args := #[Operand.tmp 11],
                                    argTypes := #[tk] },
                              type := tb, pos := "iter.go:28",
                              after := #[{ on := 0, ground := Ground.data }, { on := 1, ground := Ground.data }],
                              guard := none },
                            { dst := some 13, op := Op.unOp UnOp.not tb (Operand.tmp 12), type := tb, pos := "iter.go:28",
                              after := #[{ on := 2, ground := Ground.data }], guard := none }]
                          false).seq
                      (Code.cond (Operand.tmp 13) Code.ret Code.skip)))))).loop))

/-- Two worlds, the same but for the block r and what came later. -/
structure Beside (r : Nat) (w w' : World) : Prop where
  same : SameW w w'
  size : w.heap.size ≤ w'.heap.size
  blk : ∀ b, b < w.heap.size → b ≠ r → w'.heap[b]? = w.heap[b]?

theorem Beside.trans {r : Nat} {w w' w'' : World} (h : Beside r w w') (k : Beside r w' w'') : Beside r w w'' :=
  ⟨h.same.trans k.same, Nat.le_trans h.size k.size, fun b hb hr => (k.blk b (Nat.lt_of_lt_of_le hb h.size) hr).trans (h.blk b hb hr)⟩

section
variable {N : Num} {ro : Option Nat} {ops : Array Oper} {rest : List Oper} {o : Oper} {a : Act} {w : World} {Q : Exit → Act → World → Prop}

theorem step_op {x : Value} {w' : World} (hg : o.guard = none) (hnd : ∀ c, o.op ≠ .defer c) (hrun : (execOp a.eval o).run N.P w = .ok (.value x) w' ∨ ((execOp a.eval o).run N.P w = .ok .skip w' ∧ x = undef)) (h : wpListIn (Fn ro) 0 N.P ops Q rest (a.put o.dst x) w') :
    wpListIn (Fn ro) 0 N.P ops Q (o :: rest) a w := by
  refine wpListIn_plain hg fun K' hK' => ?_
  unfold Oper.wpIn
  refine ⟨about_ok ro N.P o w a.eval, ?_⟩
  rw [Oper.semAt_plain (Fn ro) _ _ hnd]
  rcases hrun with h1 | ⟨h1, rfl⟩
  · rw [h1, Oper.uponIn_value]; exact hK' _ _ h
  · rw [h1, Oper.uponIn_skip]; exact hK' _ _ h

theorem step_load {t : TypeId} {p : Operand} {b : Nat} {x : Value} (hg : o.guard = none) (hop : o.op = .load t p) (hp : a.eval p = .pointer (some ⟨b, 0, none⟩)) (hl : (loadVar t ⟨b, 0, none⟩).run N.P w = .ok x w) (h : wpListIn (Fn ro) 0 N.P ops Q rest (a.put o.dst x) w) :
    wpListIn (Fn ro) 0 N.P ops Q (o :: rest) a w :=
  step_op hg (by rw [hop]; intro c e; cases e) (.inl (by simp [execOp, hop, hp, Instr.loadAt, Instr.sureAddr, hl])) h

theorem step_range {t k e : TypeId} {p : Operand} {bm : Nat} {es : Array MapEntry} {clock : Nat} (hg : o.guard = none) (hop : o.op = .range t p) (hp : a.eval p = .map (some bm)) (ht : N.P.underlying t = some (.map k e)) (hb : w.heap[bm]? = some (.map es clock))
    (h : wpListIn (Fn ro) 0 N.P ops Q rest (a.put o.dst (.pointer (some ⟨w.heap.size, 0, none⟩))) (w.alloc (.mapIter (some bm) clock #[] clock))) :
    wpListIn (Fn ro) 0 N.P ops Q (o :: rest) a w :=
  step_op hg (by rw [hop]; intro c e; cases e) (.inl (by simp [execOp, hop, hp, run_range_map w t k e bm es clock ht hb])) h

/-- One draw, or none. -/
structure Drew (w w1 : World) : Prop where
  heap : w1.heap = w.heap
  same : SameW w w1

theorem step_next {p : Operand} {r bm since c0 : Nat} {seen : Array Nat} {es : Array MapEntry} {clock : Nat} (hg : o.guard = none) (hop : o.op = .next p false) (hp : a.eval p = .pointer (some ⟨r, 0, none⟩))
    (hr : w.heap[r]? = some (.mapIter (some bm) since seen c0)) (hb : w.heap[bm]? = some (.map es clock)) (hold : ∀ x ∈ es.toList, x.born < since) (hsc : since ≤ c0)
    (h0 : (leftOf es seen).size = 0 → wpListIn (Fn ro) 0 N.P ops Q rest (a.put o.dst (.tuple #[.bool false])) w)
    (h1 : ∀ e ∈ (leftOf es seen).toList, ∀ w1 : World, Drew w w1 → wpListIn (Fn ro) 0 N.P ops Q rest (a.put o.dst (.tuple #[.bool true, e.key, e.val])) (setBlock w1 r (.mapIter (some bm) since (seen.push e.born) clock))) :
    wpListIn (Fn ro) 0 N.P ops Q (o :: rest) a w := by
  rcases run_next_at (P := N.P) w o.type r bm since c0 seen es clock hr hb hold hsc with ⟨hz, hrun⟩ | ⟨e, he, w1, hw, hrun⟩
  · exact step_op hg (by rw [hop]; intro c e; cases e) (.inl (by simp [execOp, hop, hp, hrun, Result.andThen])) (h0 hz)
  · exact step_op hg (by rw [hop]; intro c e; cases e) (.inl (by simp [execOp, hop, hp, hrun, Result.andThen])) (h1 e he w1 (by rcases hw with rfl | rfl <;> (first | exact ⟨rfl, .refl _⟩ | exact ⟨rfl, ⟨rfl, rfl, rfl⟩⟩)))

theorem step_entry {p : Operand} {r bm since clock : Nat} {seen : Array Nat} {es : Array MapEntry} {e : MapEntry} (hg : o.guard = none) (hop : o.op = .entry p) (hp : a.eval p = .pointer (some ⟨r, 0, none⟩))
    (hr : w.heap[r]? = some (.mapIter (some bm) since (seen.push e.born) clock)) (hb : w.heap[bm]? = some (.map es clock)) (he : e ∈ es.toList) (hn : (es.toList.map (·.born)).Nodup)
    (h : wpListIn (Fn ro) 0 N.P ops Q rest (a.put o.dst (.tuple #[e.key, e.val])) w) :
    wpListIn (Fn ro) 0 N.P ops Q (o :: rest) a w :=
  step_op hg (by rw [hop]; intro c e; cases e) (.inl (by simp [execOp, hop, hp, run_entry_at w r bm since seen es clock e hr hb he hn])) h

theorem step_alloc {t : TypeId} {z : AVal} {zc : List AVal} (hg : o.guard = none) (hop : o.op = .alloc t) (hz : zeroT N.P t = some z) (hzs : z.sure = some zc)
    (h : ∀ arr : Array Value, arr.size = zc.length → wpListIn (Fn ro) 0 N.P ops Q rest (a.put o.dst (.pointer (some ⟨w.heap.size, 0, none⟩))) (w.alloc (.cells arr t))) :
    wpListIn (Fn ro) 0 N.P ops Q (o :: rest) a w := by
  obtain ⟨x, hx, ha⟩ := zeroT_run hz w
  obtain ⟨hv, h1⟩ := (absV_rel (E := N.env) (φ := fun _ => .un) (w := w) ha).sure hzs
  refine step_op hg (by rw [hop]; intro c e; cases e) (.inl ?_) (h x.cells ?_)
  · simp [execOp, hop, Instr.alloc, hx, newVar_run]
  · have := hv.length; simpa using this.symm

theorem step_store {t : TypeId} {p v : Operand} {b n : Nat} {vs arr : Array Value} {el : TypeId} (hg : o.guard = none) (hop : o.op = .store t p v) (hp : a.eval p = .pointer (some ⟨b, 0, none⟩)) (hv : a.eval v = .agg vs) (hn : sizeT N.P t = some n) (hvn : vs.size = n) (hv1 : ∀ y ∈ vs.toList, oneC y = true)
    (hb : w.heap[b]? = some (.cells arr el)) (han : arr.size = n) (h : wpListIn (Fn ro) 0 N.P ops Q rest (a.put o.dst undef) (setBlk w b (.cells vs el))) :
    wpListIn (Fn ro) 0 N.P ops Q (o :: rest) a w := by
  have hs := storeVar_run (P := N.P) (w := w) (t := t) (n := n) (b := b) (o := 0) (v := .agg vs) hn (by simp [Value.cells, hvn]) hb (by intro i hi; omega) (by omega) (by simpa [Value.cells] using hv1)
  have e1 : (spliceV arr.toList 0 (Value.agg vs).cells.toList).toArray = vs := by
    rw [spliceV_all _ _ (by simp [Value.cells, hvn, han])]; simp [Value.cells]
  rw [e1] at hs
  refine step_op hg (by rw [hop]; intro c e; cases e) (.inr ⟨?_, rfl⟩) h
  simp [execOp, hop, hp, hv, Instr.storeAt, Instr.sureAddr, hs]

theorem load_box {t : TypeId} {n b : Nat} {vs : Array Value} {el : TypeId} {fr : Nat × Nat} (hg : isAggT N.P t = some true) (hn : sizeT N.P t = some n) (hb : w.heap[b]? = some (.cells vs el fr)) (hvn : vs.size = n) (hv1 : ∀ y ∈ vs.toList, oneC y = true) :
    (loadVar t ⟨b, 0, none⟩).run N.P w = .ok (.agg vs) w := by
  have hv : VsRel N.env (fun _ => .un) w (vs.toList.map .opq) vs.toList := by
    have : ∀ l : List Value, (∀ y ∈ l, oneC y = true) → VsRel N.env (fun _ => .un) w (l.map .opq) l := by
      intro l
      induction l with
      | nil => intro _; rfl
      | cons y l ih => intro h; exact ⟨⟨rfl, h y (by simp)⟩, ih fun y hy => h y (by simp [hy])⟩
    exact this _ hv1
  obtain ⟨x, h1, h2⟩ := loadVar_run (off := 0) (a := .agg (vs.toList.map .opq)) hg hn (reads_block hb) hv hv1 (by simp [readAt, hvn]; exact List.take_of_length_le (by simp [hvn]))
  simp only [VRel] at h2
  obtain ⟨us, rfl, h3, _⟩ := h2
  have : ∀ (l : List Value) (us : List Value), VsRel N.env (fun _ => .un) w (l.map .opq) us → us = l := by
    intro l
    induction l with
    | nil => intro us h; exact h
    | cons y l ih =>
      intro us h
      cases us with
      | nil => exact h.elim
      | cons u us =>
        simp only [List.map_cons, VsRel, VRel] at h
        rw [h.1.1, ih us h.2]
  have e : us = vs := Array.ext' (this _ _ h3)
  subst e
  exact h1

theorem step_extract {p : Operand} {i : Nat} {vs : Array Value} {v : Value} (hg : o.guard = none) (hop : o.op = .extract p i) (hp : a.eval p = .tuple vs) (hv : vs[i]? = some v) (h : wpListIn (Fn ro) 0 N.P ops Q rest (a.put o.dst v) w) :
    wpListIn (Fn ro) 0 N.P ops Q (o :: rest) a w :=
  step_op hg (by rw [hop]; intro c e; cases e) (.inl (by simp [execOp, hop, hp, Instr.extract, hv])) h

theorem step_move {p : Operand} (hg : o.guard = none) (hop : o.op = .move p) (h : wpListIn (Fn ro) 0 N.P ops Q rest (a.put o.dst (a.eval p)) w) :
    wpListIn (Fn ro) 0 N.P ops Q (o :: rest) a w :=
  step_op hg (by rw [hop]; intro c e; cases e) (.inl (by simp [execOp, hop])) h

theorem step_not {p : Operand} {t : TypeId} {b : Bool} (hg : o.guard = none) (hop : o.op = .unOp .not t p) (hp : a.eval p = .bool b) (h : wpListIn (Fn ro) 0 N.P ops Q rest (a.put o.dst (.bool !b)) w) :
    wpListIn (Fn ro) 0 N.P ops Q (o :: rest) a w :=
  step_op hg (by rw [hop]; intro c e; cases e) (.inl (by simp [execOp, hop, hp, Op.unary])) h

theorem load_one {t : TypeId} {b n : Nat} {x : Value} (hg : isAggT N.P t = some false) (hn : sizeT N.P t = some n) (hc : w.cell? ⟨b, 0, none⟩ = some x) (h1 : oneC x = true) : (loadVar t ⟨b, 0, none⟩).run N.P w = .ok x w := by
  have hr : Reads w b 0 [x] := by
    intro i v hv
    cases i with
    | zero => simp only [List.getElem?_cons_zero, Option.some.injEq] at hv; subst hv; exact hc
    | succ i => simp at hv
  obtain ⟨y, h2, h3⟩ := loadVar_run (E := N.env) (φ := fun _ => .un) (off := 0) (cs := [.opq x]) (a := .opq x) hg hn hr ⟨⟨rfl, h1⟩, rfl⟩ (by simpa using h1) rfl
  simp only [VRel] at h3
  rw [h3.1] at h2
  exact h2

theorem step_callK {f : Operand} {x : Operand} {ats : Array TypeId} {R : Value → World → Prop} {fv xv : Value} (hg : o.guard = none) (hop : o.op = .call { callee := .value f, args := #[x], argTypes := ats }) (hfv : a.eval f = fv) (hxv : a.eval x = xv)
    (hU : ∃ d : Deferred, (Deferred.ofValue fv [xv].toArray).run N.P w = .ok d w ∧ UponG N R ((invoke d.target d.args).run N.P w)) (h : ∀ v w', R v w' → wpListIn (Fn ro) 0 N.P ops Q rest (a.put o.dst v) w') :
    wpListIn (Fn ro) 0 N.P ops Q (o :: rest) a w := by
  refine wpListIn_plain hg fun K' hK' => ?_
  unfold Oper.wpIn
  refine ⟨about_ok ro N.P o w a.eval, ?_⟩
  rw [Oper.semAt_plain (Fn ro) _ _ (by rw [hop]; intro c e; cases e)]
  obtain ⟨d, hd, hU⟩ := hU
  subst hfv; subst hxv
  have e1 : (execOp a.eval o).run N.P w = (invoke d.target d.args).run N.P w := by
    simp only [execOp, hop, resolve, List.map_toArray, List.map_cons, List.map_nil, Sem.run_bind, hd, Result.andThen]
  rw [e1]
  generalize (invoke d.target d.args).run N.P w = r at hU
  unfold UponG at hU
  split at hU
  · exact hK' _ _ (h _ _ hU)
  · exact hK' _ _ (h _ _ hU)
  · rw [Oper.uponIn_enter]
    refine ⟨fun h => by simp [Fn] at h, callsIn_ro (hU.mono ?_)⟩
    rintro e w'' ⟨x, rfl, h2⟩
    exact hK' _ _ (h _ _ h2)
  · rw [Oper.uponIn_round]
    refine ⟨fun h => by simp [Fn] at h, roundIn_ro (hU.mono ?_)⟩
    rintro e w'' ⟨x, rfl, h2⟩
    exact hK' _ _ (h _ _ h2)
  · exact hU.elim
end

section
variable {N : Num} {tm tk te tf tb t0 : TypeId}

open Classical in
theorem nodup_length_le {α : Type} : ∀ {l m : List α}, l.Nodup → (∀ x ∈ l, x ∈ m) → l.length ≤ m.length
  | [], m, _, _ => by simp
  | a :: l, m, hn, hs => by
    have ha : a ∈ m := hs a (by simp)
    have := nodup_length_le (l := l) (m := m.erase a) (List.nodup_cons.1 hn).2 fun x hx => by
      have hne : x ≠ a := fun e => (List.nodup_cons.1 hn).1 (e ▸ hx)
      exact (List.mem_erase_of_ne hne).2 (hs x (by simp [hx]))
    rw [List.length_erase_of_mem ha] at this
    have := List.length_pos_of_mem ha
    simp only [List.length_cons]; omega

/-- How many entries haven't come. -/
def leftNo (ents : Array MapEntry) (r : Nat) (w : World) : Nat := match w.heap[r]? with
  | some (.mapIter _ _ seen _) => ents.size - seen.size
  | _ => 0

set_option maxHeartbeats 400000 in
theorem keys_model {f : FuncId} {fn : Func} {args : Array Value} {R : Ending → World → Prop} (hfn : N.P.funcs[f]? = some fn) (hbody : fn.body = some (keysBody tm tk tf tb t0)) (hnt : fn.ntmps = 14) (hres : fn.results = #[])
    (ht : N.P.underlying tm = some (.map tk te)) (hgm : isAggT N.P tm = some false) (hsm : sizeT N.P tm = some 1) (hg : isAggT N.P tk = some true) {n : Nat} (hn : sizeT N.P tk = some n) {z : AVal} {zc : List AVal} (hz : zeroT N.P tk = some z) (hzs : z.sure = some zc) (hzl : zc.length = n) (htb : N.P.underlying tb = some .bool)
    {yv : Value} {w0 : World} {pb bm clk : Nat} {ents : Array MapEntry} (hcell : w0.cell? ⟨pb, 0, none⟩ = some (.map (some bm))) (hb : w0.heap[bm]? = some (.map ents clk))
    (hborn : ∀ x ∈ ents.toList, x.born < clk) (hpw : (ents.toList.map (·.born)).Pairwise (· < ·)) (hkey : ∀ x ∈ ents.toList, ∃ vs : Array Value, x.key = .agg vs ∧ vs.size = n ∧ ∀ y ∈ vs.toList, oneC y = true)
    (I : List MapEntry → World → Prop) (hI0 : I [] (w0.alloc (.mapIter (some bm) clk #[] clk)))
    (hI : ∀ done e w w4, I done w → e ∈ ents.toList → e ∉ done → Beside w0.heap.size w w4 →
      ∃ d : Deferred, (Deferred.ofValue yv [e.key].toArray).run N.P w4 = .ok d w4 ∧ UponG N (fun x w5 => x = .bool true ∧ I (done ++ [e]) w5 ∧ w5.heap[w0.heap.size]? = w4.heap[w0.heap.size]? ∧ w5.heap[bm]? = w4.heap[bm]? ∧ w4.heap.size ≤ w5.heap.size) ((invoke d.target d.args).run N.P w4))
    (hend : ∀ done w w', I done w → done.Perm ents.toList → Beside w0.heap.size w w' → R (.returned (.tuple #[])) w') :
    CallsIn (Fn none) 0 N.P f #[yv, .pointer (some ⟨pb, 0, none⟩)] w0 R := by
  have u1 := run_underlying ht
  have u2 := run_underlying htb
  have a1 := fun w => isAggT_run hgm w
  have z1 := fun w => sizeT_run hsm w
  have a2 := fun w => isAggT_run hg w
  have z2 := fun w => sizeT_run hn w
  refine callsIn_of_wp hfn hbody trivial ?_
  simp only [hnt, List.size_toArray, List.length_cons, List.length_nil, Nat.reduceAdd, Nat.reduceSub, Array.replicate_succ, Array.replicate_zero, List.push_toArray, List.append_toArray, List.nil_append, List.cons_append]
  have hld := load_one (N := N) (w := w0) hgm hsm hcell rfl
  unfold keysBody
  gi_wp2_with (first
    | (refine step_load rfl rfl rfl hld ?_)
    | (refine step_range rfl rfl rfl ht hb ?_))
  go_frame
  gi_loopw [3] (fun _ wr => ∃ (done : List MapEntry) (seen : Array Nat), done.Nodup ∧ (∀ x ∈ done, x ∈ ents.toList) ∧ seen.toList = done.map (·.born) ∧ wr.heap[w0.heap.size]? = some (.mapIter (some bm) clk seen clk) ∧ wr.heap[bm]? = some (.map ents clk) ∧ w0.heap.size < wr.heap.size ∧ I done wr)
    (fun _ wr => leftNo ents w0.heap.size wr)
  case atStart =>
    refine ⟨[], #[], List.nodup_nil, by simp, rfl, alloc_new _ _, ?_, by simp, hI0⟩
    simp only [World.alloc, Array.getElem?_push]; rw [if_neg (by have := heap_lt hb; omega)]; exact hb
  case round =>
    obtain ⟨done, seen, hnd, hsub, hseen, hr, hbr, hsz, hId⟩ := hrel
    refine wpIn_seq (wpIn_region_list ?_)
    refine step_next rfl rfl rfl hr hbr hborn (Nat.le_refl _) ?_ ?_
    · intro hl0
      refine step_extract rfl rfl rfl rfl ?_
      refine wpListIn_nil (wpIn_seq (wpIn_cond_false rfl (wpIn_exit ?_)))
      refine bodyPost_end (results_none hres _ _ _) rfl ?_
      have hndE : ents.toList.Nodup := List.Pairwise.of_map _ (fun a b h e => absurd h (by rw [e]; exact Nat.lt_irrefl _)) hpw
      have hinj : ∀ (l : List MapEntry), (l.map (·.born)).Pairwise (· < ·) → ∀ x ∈ l, ∀ y ∈ l, x.born = y.born → x = y := by
        intro l
        induction l with
        | nil => intro _ x hx; cases hx
        | cons u l ih =>
          intro hp x hx y hy e
          simp only [List.map_cons, List.pairwise_cons, List.mem_map, forall_exists_index, and_imp, forall_apply_eq_imp_iff₂] at hp
          rcases List.mem_cons.1 hx with rfl | hx' <;> rcases List.mem_cons.1 hy with rfl | hy'
          · rfl
          · have := hp.1 y hy'; omega
          · have := hp.1 x hx'; omega
          · exact ih hp.2 x hx' y hy' e
      have hperm : done.Perm ents.toList := (List.perm_ext_iff_of_nodup hnd hndE).2 fun {x} => Iff.intro (hsub x) fun hx => by
        have hz0 : leftOf ents seen = #[] := Array.eq_empty_of_size_eq_zero hl0
        have hin : x.born ∈ seen := by
          have h1 : x ∉ (leftOf ents seen).toList := by rw [hz0]; simp
          rcases Classical.em (x.born ∈ seen) with h2 | h2
          · exact h2
          · exact absurd (by simpa [leftOf, h2] using hx) h1
        have : x.born ∈ done.map (·.born) := by rw [← hseen]; simpa using hin
        obtain ⟨y, hy, hyb⟩ := List.mem_map.1 this
        exact hinj _ hpw y (hsub y hy) x hx hyb ▸ hy
      exact hend done wr wr hId hperm ⟨.refl _, Nat.le_refl _, fun _ _ _ => rfl⟩
    · intro e he w1 hw1
      have hr1 : (setBlock w1 w0.heap.size (.mapIter (some bm) clk (seen.push e.born) clk)).heap[w0.heap.size]? = some (.mapIter (some bm) clk (seen.push e.born) clk) := setBlk_same (by rw [hw1.heap]; exact hsz)
      have hb1 : (setBlock w1 w0.heap.size (.mapIter (some bm) clk (seen.push e.born) clk)).heap[bm]? = some (.map ents clk) := (setBlk_ne (by have := heap_lt hb; omega)).trans (by rw [hw1.heap]; exact hbr)
      have hB1 : Beside w0.heap.size wr (setBlock w1 w0.heap.size (.mapIter (some bm) clk (seen.push e.born) clk)) := ⟨⟨hw1.same.1, hw1.same.2.1, hw1.same.2.2⟩, by simp [setBlock, hw1.heap], fun b hb hne => (setBlk_ne hne).trans (by rw [hw1.heap])⟩
      have hsz1 : w0.heap.size < (setBlock w1 w0.heap.size (.mapIter (some bm) clk (seen.push e.born) clk)).heap.size := by simp [setBlock, hw1.heap, hsz]
      generalize setBlock w1 w0.heap.size (.mapIter (some bm) clk (seen.push e.born) clk) = w2 at *
      have hel : e ∈ ents.toList ∧ e.born ∉ seen := by simpa [leftOf] using he
      obtain ⟨vs, hkv, hvn, hv1⟩ := hkey e hel.1
      have hbn : (ents.toList.map (·.born)).Nodup := hpw.imp fun h => by omega
      have hnin : e ∉ done := fun h => hel.2 (by
        have : e.born ∈ seen.toList := by rw [hseen]; exact List.mem_map.2 ⟨e, h, rfl⟩
        simpa using this)
      have hB3 : ∀ arr : Array Value, Beside w0.heap.size wr (setBlk (w2.alloc (.cells arr tk)) w2.heap.size (.cells vs tk)) := fun arr => hB1.trans ⟨⟨rfl, rfl, rfl⟩, by simp [setBlk], fun b hb hne => (setBlk_ne (by omega)).trans (by simp only [World.alloc, Array.getElem?_push]; rw [if_neg (by omega)])⟩
      have hlen : seen.size = done.length := by simpa using congrArg List.length hseen
      have hcall := fun arr => hI done e wr _ hId hel.1 hnin (hB3 arr)
      rw [hkv] at hcall
      refine step_extract rfl rfl rfl rfl ?_
      refine wpListIn_nil (wpIn_seq (wpIn_cond_true rfl (wpIn_skip ?_)))
      go_frame
      refine wpIn_block (wpIn_seq (wpIn_region_list ?_))
      refine step_entry rfl rfl rfl hr1 hb1 hel.1 hbn ?_
      refine step_extract rfl rfl rfl rfl ?_
      refine step_alloc rfl rfl hz hzs ?_
      intro arr harr
      refine step_store rfl rfl rfl (by rw [hkv]; rfl) hn hvn hv1 (alloc_new _ _) (harr.trans hzl) ?_
      refine wpListIn_nil ?_
      change Code.wpIn _ _ _ _ _ _ _
      go_frame
      refine wpIn_seq (wpIn_region_list ?_)
      refine step_move rfl rfl ?_
      refine step_load rfl rfl rfl (load_box hg hn (setBlk_same (by simp)) hvn hv1) ?_
      refine step_callK (fv := yv) (xv := .agg vs) rfl rfl rfl rfl (hcall arr) ?_
      rintro v w5 ⟨rfl, hI5, hr5, hb5, hs5⟩
      refine step_not (b := true) rfl rfl rfl ?_
      refine wpListIn_nil (wpIn_cond_false rfl (wpIn_skip ?_))
      go_frame
      go_roundw
      case' rel => skip
      · refine ⟨_, _, _, _, _, _, _, _, _, ⟨done ++ [e], seen.push e.born, ?_, ?_, ?_, ?_, ?_, ?_, hI5⟩, rfl⟩
        · exact List.nodup_append.2 ⟨hnd, by simp, fun a ha b hb hab => hnin (by simp at hb; rw [← hb, ← hab]; exact ha)⟩
        · intro x hx
          rcases List.mem_append.1 hx with hx | hx
          · exact hsub x hx
          · simp at hx; exact hx ▸ hel.1
        · simp [hseen]
        · rw [hr5, setBlk_ne (by omega)]; simp only [World.alloc, Array.getElem?_push]; rw [if_neg (by omega)]; exact hr1
        · rw [hb5, setBlk_ne (by have := heap_lt hb1; omega)]; simp only [World.alloc, Array.getElem?_push]; rw [if_neg (by have := heap_lt hb1; omega)]; exact hb1
        · refine Nat.lt_of_lt_of_le hsz1 (Nat.le_trans ?_ hs5); simp [setBlk]
      · have h5 : w5.heap[w0.heap.size]? = some (.mapIter (some bm) clk (seen.push e.born) clk) := by
          rw [hr5, setBlk_ne (by omega)]; simp only [World.alloc, Array.getElem?_push]; rw [if_neg (by omega)]; exact hr1
        have hlt : done.length < ents.size := by
          have : (done ++ [e]).length ≤ ents.toList.length := by
            refine nodup_length_le (List.nodup_append.2 ⟨hnd, by simp, fun a ha b hb hab => hnin (by simp at hb; rw [← hb, ← hab]; exact ha)⟩) fun x hx => ?_
            rcases List.mem_append.1 hx with hx | hx
            · exact hsub x hx
            · simp at hx; exact hx ▸ hel.1
          simp at this; omega
        simp only [leftNo, h5, hr, Array.size_push]
        omega
end
end Go.Rv

namespace Go.Rv

mutual
theorem ren_same : ∀ (a : AVal), ren (fun i => i) a = a
  | .ptr .. | .eptr .. | .slice .. | .map _ | .yld _ => rfl
  | .junk | .bool _ | .int .. | .str _ | .nilPtr | .nilSlice | .nilMap | .nilFunc | .nilIface | .opq _ => rfl
  | .iptr cs => by simp only [ren, renL_same cs]
  | .islice sz es => by simp only [ren, renL_same es]
  | .func f a b => by simp only [ren, renL_same a, renL_same b]
  | .agg cs => by simp only [ren, renL_same cs]
  | .tuple cs => by simp only [ren, renL_same cs]
theorem renL_same : ∀ (l : List AVal), renL (fun i => i) l = l
  | [] => rfl
  | a :: l => by simp only [renL, ren_same a, renL_same l]
end

theorem renE_same : ∀ (l : List (AVal × AVal)), renE (fun i => i) l = l
  | [] => rfl
  | (a, b) :: l => by simp only [renE, ren_same a, ren_same b, renE_same l]

theorem renO_same (o : AObj) : renO (fun i => i) o = o := by
  cases o <;> simp only [renO, renL_same, renE_same]

/-- Another word for what lies outside. -/
theorem HRel.env {E1 E2 : Env} {φ : Phi} {w : World} {h : Nat → AObj} (hi : E1.idx = E2.idx) (hcc : E1.cc = E2.cc) (himm : ∀ {b}, Imm E1 φ w b → Imm E2 φ w b) (H : HRel E1 φ w h) : HRel E2 φ w h := by
  refine ⟨fun id => ?_, H.2⟩
  have := ORel.ren (f := fun i => i) (φ2 := φ) hi hcc (fun _ => rfl) himm (H.1 id)
  rwa [renO_same] at this

theorem VRel.env {E1 E2 : Env} {φ : Phi} {w : World} (hi : E1.idx = E2.idx) (himm : ∀ {b}, Imm E1 φ w b → Imm E2 φ w b) {a : AVal} {v : Value} (h : VRel E1 φ w a v) : VRel E2 φ w a v := by
  have := VRel.ren (f := fun i => i) (φ2 := φ) hi (fun _ => rfl) himm h
  rwa [ren_same] at this

/-! ### Two worlds, the same but for one block that lies outside -/

theorem Beside.sub {E : Env} {r : Nat} {φ : Phi} {w w' : World} (h : Beside r w w') (hx : E.other r) : Sub E φ w φ w' where
  imm hb := ⟨⟨Nat.lt_of_lt_of_le hb.1.1 h.size, hb.1.2⟩, hb.2⟩
  reads {b o vs} hb hr := by
    intro i v hv
    have := hr i v hv
    have hne : b ≠ r := fun e => hb.1.2 (e ▸ hx)
    have hk := h.blk b hb.1.1 hne
    simp only [World.cell?] at this ⊢
    rw [hk]; exact this
  dead _ h := h
  live _ l h := .inr ⟨l, h, Nat.le_refl _, fun _ => rfl⟩

theorem HRel.beside {E : Env} {r : Nat} {φ : Phi} {w w' : World} {h : Nat → AObj} (H : HRel E φ w h) (hb : Beside r w w') (hx : E.other r) (hr : ∀ i l, φ i = .live l → l.blk ≠ r) : HRel E φ w' h :=
  ⟨fun id => (H.1 id).mono0 (hb.sub hx) fun l hl => hb.blk _ (H.blk hl) (hr id l hl), H.2⟩

theorem Ext.beside {r : Nat} {φ0 φ : Phi} {w0 w w' : World} (h : Ext φ0 w0 φ w) (hb : Beside r w w') (hr : w0.heap.size ≤ r) : Ext φ0 w0 φ w' :=
  ⟨⟨h.same.trans hb.same, Nat.le_trans h.size hb.size, fun b hlt hn => (hb.blk b (Nat.lt_of_lt_of_le hlt h.size) (by omega)).trans (h.keep b hlt hn), h.fresh, fun b q hq => by
    have hlt := heap_lt hq
    obtain ⟨q', hq'⟩ := h.loops b q hq
    exact ⟨q', (hb.blk b (Nat.lt_of_lt_of_le hlt h.size) (by omega)).trans hq'⟩⟩, h.goes⟩

/-! ### The key of an entry -/

def kof : List (AVal × AVal) → List MapEntry → MapEntry → AVal
  | e :: es, m :: ms, x => if x.born = m.born then e.1 else kof es ms x
  | _, _, _ => .junk

theorem kof_map : ∀ {es : List (AVal × AVal)} {ms : List MapEntry}, ms.length = es.length → (ms.map (·.born)).Pairwise (· < ·) → ms.map (kof es ms) = es.map (·.1)
  | [], [], _, _ => rfl
  | [], _ :: _, h, _ => by simp at h
  | _ :: _, [], h, _ => by simp at h
  | e :: es, m :: ms, h, hp => by
    simp only [List.map_cons, List.pairwise_cons, List.mem_map, forall_exists_index, and_imp, forall_apply_eq_imp_iff₂] at hp
    simp only [List.map_cons, kof, if_true, List.cons.injEq, true_and]
    rw [← kof_map (es := es) (ms := ms) (by simpa using h) hp.2]
    refine List.map_congr_left fun x hx => ?_
    rw [if_neg (by have := hp.1 x hx; omega)]

theorem kof_rel {E : Env} {φ : Phi} {w : World} : ∀ {es : List (AVal × AVal)} {ms : List MapEntry}, EntsRel E φ w es ms → (ms.map (·.born)).Pairwise (· < ·) → ∀ x ∈ ms, VRel E φ w (kof es ms x) x.key ∧ kof es ms x ∈ es.map (·.1)
  | [], ms, h, _, x, hx => by simp only [EntsRel] at h; subst h; cases hx
  | e :: es, [], h, _, x, hx => by cases hx
  | e :: es, m :: ms, h, hp, x, hx => by
    simp only [EntsRel] at h
    simp only [List.map_cons, List.pairwise_cons, List.mem_map, forall_exists_index, and_imp, forall_apply_eq_imp_iff₂] at hp
    rcases List.mem_cons.1 hx with rfl | hx
    · simp only [kof, if_true]; exact ⟨h.1, by simp⟩
    · have := hp.1 x hx
      simp only [kof]
      rw [if_neg (by omega)]
      have := kof_rel h.2.2 hp.2 x hx
      exact ⟨this.1, by simp only [List.map_cons]; exact List.mem_cons_of_mem _ this.2⟩

theorem UponG.imp {N : Num} {R R' : Value → World → Prop} {r : Result Next} (h : UponG N R r) (hk : ∀ x w', R x w' → R' x w') : UponG N R' r := by
  unfold UponG at h ⊢
  split at h
  · exact hk _ _ h
  · exact hk _ _ h
  · exact CallsIn.mono (P := N.P) h fun e w'' ⟨x, h1, h2⟩ => ⟨x, h1, hk _ _ h2⟩
  · exact RoundIn.mono (P := N.P) h fun e w'' ⟨x, h1, h2⟩ => ⟨x, h1, hk _ _ h2⟩
  · exact h.elim

/-- What is known of a seat's maps.Keys iterator, keys of a struct's kind with n cells. -/
structure KeysFn (N : Num) (c n : Nat) : Prop where
  at_ : ∃ (rf : FuncId) (fn : Func) (tm tk te tf tb t0 : TypeId) (z : AVal) (zc : List AVal), N.idx c = some rf ∧ N.P.funcs[rf]? = some fn ∧ fn.body = some (keysBody tm tk tf tb t0) ∧ (fn.name == "runtime.NumGoroutine") = false ∧ fn.ntmps = 14 ∧ fn.results = #[] ∧
    N.P.underlying tm = some (.map tk te) ∧ isAggT N.P tm = some false ∧ sizeT N.P tm = some 1 ∧ isAggT N.P tk = some true ∧ sizeT N.P tk = some n ∧ zeroT N.P tk = some z ∧ z.sure = some zc ∧ zc.length = n ∧ N.P.underlying tb = some .bool

/-- **maps.Keys' ITERATOR**: whatever J the rounds carry on, key by key: the keys come, each once, in some order. -/
theorem ACallV.keysIter {N : Num} {c q id n : Nat} (hF : KeysFn N c n) {H : AHeap} {es : List (AVal × AVal)} {y : AVal} (hq : H[q]? = some (.cells [.map id])) (hm : H[id]? = some (.map es)) (hk : ∀ e ∈ es, ∃ cs, e.1 = .agg cs ∧ cs.length = n)
    (J : List AVal → AHeap → Prop) (hJ0 : J [] H) (hJm : ∀ ks H', J ks H' → H'[id]? = some (.map es)) (keep : Nat → Prop) (hkid : keep id)
    (hstep : ∀ X ks k H', J ks H' → ks.length < es.length → k ∈ es.map (·.1) → ACallK (N.withX X) keep y [k] H' fun v H'' => v = .bool true ∧ J (ks ++ [k]) H'') :
    ACallV N (.func c [] [.ptr q 0]) [y] H fun v H' => ∃ ks, ks.Perm (es.map (·.1)) ∧ J ks H' := by
  obtain ⟨rf, fn, tm, tk, te, tf, tb, t0, z, zc, hidx, hfn, hbody, hname, hnt, hres, ht, hgm, hsm, hg, hn, hz, hzs, hzl, htb⟩ := hF.at_
  intro φ w f vs HH hf ha
  simp only [VRel, VsRel] at hf
  obtain ⟨rf', a, b, h1, rfl, ha0, hb0⟩ := hf
  have h1' : N.idx c = some rf' := h1
  rw [hidx] at h1'; cases h1'
  have ea : a = #[] := by cases a; simp_all
  subst ea
  obtain ⟨yv, rfl, hyv⟩ : ∃ yv, vs = [yv] ∧ VRel N.env φ w y yv := by
    cases vs with
    | nil => exact ha.elim
    | cons x vs => obtain ⟨h2, rfl⟩ := ha; exact ⟨x, rfl, h2⟩
  obtain ⟨lq, arr, el, fr, hlq, hgq, hbq, hvq, h1q, _⟩ := HH.cellsAt (get_some hq)
  obtain ⟨lm, ents, clk, hlm, hgm', hbm, hem, hborn, hbpw⟩ := HH.mapAt (get_some hm)
  obtain ⟨p, rfl, hpv⟩ : ∃ p, b = #[p] ∧ VRel N.env φ w (.ptr q 0) p := by
    cases hb : b.toList with
    | nil => rw [hb] at hb0; exact hb0.elim
    | cons p r =>
      rw [hb] at hb0
      obtain ⟨h3, rfl⟩ := hb0
      exact ⟨p, by apply Array.ext'; simp [hb], by simpa [VRel] using h3⟩
  have hpe : p = .pointer (some ⟨lq.blk, 0, none⟩) := by
    simp only [VRel, hlq] at hpv
    exact hpv.2 hgq
  subst hpe
  have hcell : w.cell? ⟨lq.blk, 0, none⟩ = some (.map (some lm.blk)) := by
    cases hl : arr.toList with
    | nil => rw [hl] at hvq; simp [VsRel] at hvq
    | cons y r =>
      rw [hl] at hvq
      simp only [VsRel] at hvq
      have : y = .map (some lm.blk) := by
        have := hvq.1
        simp only [VRel, hlm] at this
        exact this.2 hgm'
      subst this
      have : arr[0]? = some (.map (some lm.blk)) := by rw [← Array.getElem?_toList, hl]; rfl
      simp [World.cell?, hbq, this]
  have hlen := entsRel_length hem
  refine ⟨{ target := .fn (.func rf) #[.pointer (some ⟨lq.blk, 0, none⟩)], args := #[yv] }, by simp [Deferred.ofValue, pure, Sem.run], ?_⟩
  have hinv : (invoke (.fn (.func rf) #[.pointer (some ⟨lq.blk, 0, none⟩)]) #[yv]).run N.P w = .ok (.enter rf #[yv, .pointer (some ⟨lq.blk, 0, none⟩)]) w := by
    have hname' : fn.name ≠ "runtime.NumGoroutine" := by simpa using hname
    simp [invoke, callFunc, program, hfn, hbody, hname', pure, Sem.run]
  simp only [hinv, Upon]
  let r := w.heap.size
  let X : Nat → Prop := fun b => N.other b ∨ b = r
  have hX : (N.withX X).env.other r := .inr rfl
  have hcc : N.env.cc = (N.withX X).env.cc := (N.cc_withX X).symm
  have himm0 : ∀ {b}, Imm N.env φ w b → Imm (N.withX X).env φ w b := fun {b} hb => ⟨⟨hb.1.1, fun h => by
    rcases h with h | h
    · exact hb.1.2 h
    · have := hb.1.1; omega⟩, hb.2⟩
  have himmB : ∀ {φ w b}, Imm (N.withX X).env φ w b → Imm N.env φ w b := fun {φ w b} hb => ⟨⟨hb.1.1, fun h => hb.1.2 (.inl h)⟩, hb.2⟩
  have HX : HRel (N.withX X).env φ w (get H) := HRel.env (E1 := N.env) (E2 := (N.withX X).env) rfl hcc himm0 HH
  have hE0 : ∀ o, Beside r w (w.alloc o) := fun o => ⟨⟨rfl, rfl, rfl⟩, by simp, fun b hb hne => by simp only [World.alloc, Array.getElem?_push]; rw [if_neg (by omega)]⟩
  have hliveφ : ∀ i l, φ i = .live l → l.blk ≠ r := fun i l hl => by have := HH.blk hl; omega
  have hkeyR : ∀ x ∈ ents.toList, VRel N.env φ w (kof es ents.toList x) x.key ∧ kof es ents.toList x ∈ es.map (·.1) := kof_rel hem hbpw
  refine keys_model (N := N) (tm := tm) (tk := tk) (te := te) (tf := tf) (tb := tb) (t0 := t0) (args := #[]) hfn hbody hnt hres ht hgm hsm hg hn hz hzs hzl htb hcell hbm hborn hbpw ?_
    (fun done w1 => ∃ H' φ', J (done.map (kof es ents.toList)) H' ∧ (done.Nodup ∧ ∀ x ∈ done, x ∈ ents.toList) ∧ HRel (N.withX X).env φ' w1 (get H') ∧ H.length ≤ H'.length ∧ Ext φ w φ' w1 ∧ φ' id = .live lm ∧ w1.heap[lm.blk]? = some (.map ents clk) ∧ (∀ i l, φ' i = .live l → l.blk ≠ r) ∧ r < w1.heap.size ∧ VRel (N.withX X).env φ' w1 y yv)
    ?_ ?_ ?_
  · intro x hx
    obtain ⟨h2, h3⟩ := hkeyR x hx
    obtain ⟨e, he, hek⟩ := List.mem_map.1 h3
    obtain ⟨cs, hcs, hcl⟩ := hk e he
    rw [← hek, hcs] at h2
    simp only [VRel] at h2
    obtain ⟨us, hu1, hu2, hu3⟩ := h2
    exact ⟨us, hu1, by have := hu2.length; simpa [hcl] using this.symm, hu3⟩
  · refine ⟨H, φ, hJ0, ⟨List.nodup_nil, by simp⟩, HX.beside (hE0 _) hX hliveφ, Nat.le_refl _, (Ext.refl φ w).beside (hE0 _) (Nat.le_refl _), hlm, ?_, hliveφ, by simp [r], (VRel.env (E1 := N.env) (E2 := (N.withX X).env) rfl himm0 hyv).mono0 ((hE0 _).sub hX)⟩
    exact ((hE0 _).blk _ (heap_lt hbm) (by have := heap_lt hbm; omega)).trans hbm
  · rintro done e w1 w4 ⟨H', φ', hJ, ⟨hnd, hsub⟩, H1, hlH, hE1, hid, hb1, hr1, hs1, hy1⟩ he hne hB
    have hB' : Beside r w1 w4 := hB
    have H4 := H1.beside hB' hX hr1
    have hy4 := hy1.mono0 (hB'.sub hX)
    have hE4 := hE1.beside hB' (Nat.le_refl _)
    have hb4 : w4.heap[lm.blk]? = some (.map ents clk) := (hB'.blk _ (heap_lt hb1) (by have := heap_lt hbm; omega)).trans hb1
    have hes4 : EntsRel (N.withX X).env φ' w4 es ents.toList := by
      obtain ⟨l2, ents2, clk2, g1, g2, g3, g4, _⟩ := H4.mapAt (get_some (hJm _ _ hJ))
      rw [hid] at g1; cases g1
      rw [hb4] at g3; cases g3
      exact g4
    have hkey4 := kof_rel hes4 hbpw e he
    have hlt : (done.map (kof es ents.toList)).length < es.length := by
      have := nodup_length_le (l := done ++ [e]) (m := ents.toList) (List.nodup_append.2 ⟨hnd, by simp, fun a ha b hb hab => hne (by simp at hb; rw [← hb, ← hab]; exact ha)⟩) fun x hx => by
        rcases List.mem_append.1 hx with hx | hx
        · exact hsub x hx
        · simp at hx; exact hx ▸ he
      simp only [List.length_append, List.length_cons, List.length_nil, List.length_map] at this ⊢
      omega
    obtain ⟨d, hd, hU⟩ := hstep X _ _ H' hJ hlt hkey4.2 φ' w4 yv [e.key] H4 hy4 ⟨hkey4.1, rfl⟩
    refine ⟨d, hd, ?_⟩
    refine UponG.imp (N := N) hU ?_
    rintro x w5 ⟨v, H5, φ5, ⟨rfl, hJ5⟩, hl5, hv5, HH5, hE5, hkp⟩
    simp only [VRel] at hv5
    have hl := hkp id lm hkid hid
    have hrlt : r < w4.heap.size := Nat.lt_of_lt_of_le hs1 hB'.size
    refine ⟨hv5, ⟨H5, φ5, by simpa using hJ5, ⟨List.nodup_append.2 ⟨hnd, by simp, fun a ha b hb hab => hne (by simp at hb; rw [← hb, ← hab]; exact ha)⟩, ?_⟩, HH5, Nat.le_trans hlH hl5, hE4.trans hE5, hl.1, hl.2.trans hb4, ?_, Nat.lt_of_lt_of_le hrlt hE5.size, hy4.mono0 hE5.sub⟩, ?_, hl.2, hE5.size⟩
    · intro x hx
      rcases List.mem_append.1 hx with hx | hx
      · exact hsub x hx
      · simp at hx; exact hx ▸ he
    · intro i l hil hlr
      rcases hE5.fresh i l hil with ⟨id0, l0, a1, a2⟩ | h5
      · exact hr1 id0 l0 a1 (a2.trans hlr)
      · omega
    · exact hE5.keep r hrlt fun i l hil => hr1 i l hil
  · rintro done w1 w' ⟨H', φ', hJ, ⟨hnd, hsub⟩, H1, hlH, hE1, hid, hb1, hr1, hs1, hy1⟩ hperm hB
    have hB' : Beside r w1 w' := hB
    have H4 := H1.beside hB' hX hr1
    refine ⟨.tuple #[], rfl, .tuple [], H', φ', ⟨_, ?_, hJ⟩, hlH, by simp [VRel, VsRel], HRel.env (E1 := (N.withX X).env) (E2 := N.env) rfl hcc.symm himmB H4, hE1.beside hB' (Nat.le_refl _)⟩
    rw [← kof_map hlen hbpw]
    exact hperm.map _

end Go.Rv

namespace Go.Rv

/-- The range over a function; the record tells less than the temporaries. -/
theorem CAT.rangeFuncJ {N : Num} {m : Nat} {fo : Opd} {ps : List Nat} {a b : CCode} {T : List AVal} {H : AHeap} {Q : APost} {c : Nat} {cf : CFunc} {first caps : List AVal} {T1 : List AVal} (hle : LeL T T1) (hf : HasFn N c cf) (hev : ev T fo = .func c first caps)
    (h : ACallV N (.func c first caps) [.yld H.length] (H ++ [.loop .ready none T1 ps a b]) fun _ H' => After Q T H.length H') :
    CAT N m (.rangeFunc fo ps a b) T H Q := by
  intro code hcode
  cases code with
  | rangeFunc g tps assign body =>
    simp only [compC] at hcode
    split at hcode
    · rename_i fo' hfo
      simp only [CCode.rangeFunc.injEq] at hcode
      obtain ⟨rfl, rfl, rfl, rfl⟩ := hcode
      intro ro n0 φ w act hro hn hm HH hT hM
      refine wpIn_rangeFunc fun fn _ => ?_
      have hcall := h
      have hfv := TRel.of hT g fo' hfo
      rw [hev] at hfv
      have main : ∀ (w0 : World) (mark : List Deferred) (dl : Nat), Ext φ w φ w0 → HRel N.env φ w0 (get H) → Marks N.env φ w0 n0 (mark ++ act.defers) →
          (Instr.enterLoop fn act.tmps tps assign body ro).run N.P w = .ok (w0.heap.size, mark) (w0.alloc (.loop { state := .ready, pending := none, fn := fn, tmps := act.tmps, params := tps, assign := assign, body := body, defers := dl })) →
          ∃ (l : Nat) (mark : List Deferred) (w₁ : World) (d : Deferred) (w₁' : World) (f : FuncId) (args : Array Value) (w₂ : World),
            (Instr.enterLoop fn act.tmps tps assign body (Fn ro).round).run N.P w = .ok (l, mark) w₁ ∧ (resolve act.eval (rangeCall g l) 0).run N.P w₁ = .ok d w₁' ∧ (∀ f', Target.leads N.P w₁' d.target d.args = some f' → (Fn ro).fn f') ∧
            (invoke d.target d.args).run N.P w₁' = .ok (.enter f args) w₂ ∧ ((Fn ro).depth.isSome = true → 1 ≤ 0) ∧ CallsIn (Fn ro) (0 - 1) N.P f args w₂ (rangePost (Fn ro) 0 N.P l (Post N m n0 φ w Q) { act with defers := mark ++ act.defers }) := by
        intro w0 mark dl E0 HH0 hM0 hrun
        have hun : φ H.length = .un := un_of_ge HH0 (Nat.le_refl _)
        obtain ⟨ext1, HH1⟩ := HH0.alloc hun (.loop { state := .ready, pending := none, fn := fn, tmps := act.tmps, params := tps, assign := assign, body := body, defers := dl }) (l' := { blk := w0.heap.size, base := 0, top := 0, sz := 0, gen := 0 }) rfl
          (o' := .loop .ready none T1 tps.toList (compC N assign) (compC N body)) fun ext => ⟨_, _, rfl, rfl, alloc_new _ _, rfl, rfl, ((hT.mono E0).mono ext).le hle, rfl, rfl, rfl⟩
        have happ := upd_app (H := H) (e := .alloc (.loop .ready none T1 tps.toList (compC N assign) (compC N body))) trivial
        rw [show updH (get H) H.length _ = get (H ++ [_]) from happ] at HH1
        generalize hw1 : w0.alloc (.loop { state := .ready, pending := none, fn := fn, tmps := act.tmps, params := tps, assign := assign, body := body, defers := dl }) = w1 at *
        have hfv1 := (hfv.mono E0).mono ext1
        have hy : VRel N.env (updP φ H.length (.live { blk := w0.heap.size, base := 0, top := 0, sz := 0, gen := 0 })) w1 (.yld H.length) (.func (.yield w0.heap.size) #[] #[]) := by
          simp [VRel, updP_same, oneC]
        obtain ⟨d, hd, hU⟩ := hcall _ w1 (act.eval g) [.func (.yield w0.heap.size) #[] #[]] HH1 hfv1 ⟨hy, rfl⟩
        obtain ⟨rf, fnn, hidx, hfn, hcf⟩ := hf
        simp only [VRel] at hfv1
        obtain ⟨rf', fa, ca, hidx', hge, _, _⟩ := hfv1
        have hidx'' : N.idx c = some rf' := hidx'
        rw [hidx] at hidx''; cases hidx''
        obtain ⟨bd, hbody, hname⟩ : ∃ bd, fnn.body = some bd ∧ fnn.name ≠ "runtime.NumGoroutine" := by
          simp only [compF] at hcf
          split at hcf
          · rename_i bd hbd
            split at hcf
            · split at hcf
              · rename_i hn; exact ⟨bd, hbd, hn⟩
              · cases hcf
            · cases hcf
          · cases hcf
        have hd2 : d = { target := .fn (.func rf) ca, args := fa ++ #[.func (.yield w0.heap.size) #[] #[]] } := by
          rw [hge] at hd
          simp [Deferred.ofValue, pure, Sem.run] at hd
          exact hd.symm
        subst hd2
        have hinv : (invoke (.fn (.func rf) ca) (fa ++ #[.func (.yield w0.heap.size) #[] #[]])).run N.P w1 = .ok (.enter rf (fa ++ #[.func (.yield w0.heap.size) #[] #[]] ++ ca)) w1 := by
          simp [invoke, callFunc, program, hfn, hbody, hname, pure, Sem.run]
        simp only [hinv, Upon] at hU
        refine ⟨w0.heap.size, mark, w1, { target := .fn (.func rf) ca, args := fa ++ #[.func (.yield w0.heap.size) #[] #[]] }, w1, rf, _, w1, hrun, ?_, fun _ _ => trivial, hinv, fun h => by simp [Fn] at h, callsIn_ro (hU.mono ?_)⟩
        · have : resolve act.eval (rangeCall g w0.heap.size) 0 = Deferred.ofValue (act.eval g) #[.func (.yield w0.heap.size) #[] #[]] := by
            simp [resolve, rangeCall, Act.eval]
          rw [this]; exact hd
        · rintro e w2 ⟨x, rfl, v, H', φ2, ⟨st, pend, T', ps2, as2, bs2, hc2, hst, hQ⟩, hlen, _, HH2, ext2⟩
          obtain ⟨l2, r2, g1, g2, g3, g4, g5, _⟩ := HH2.loopAt (get_some hc2)
          have hl2 : l2 = { blk := w0.heap.size, base := 0, top := 0, sz := 0, gen := 0 } := by
            rcases (ext2.goes H.length).2 _ (updP_same _ _ _) with hd | ⟨l', h6, _, h7⟩
            · rw [g1] at hd; cases hd
            · rw [g1] at h6; cases h6
              exact h7 g2
          subst hl2
          obtain ⟨φ3, ext3, HH3, _⟩ := HH2.turnLoop (s' := .exhausted) (pend' := pend) hc2 g1 g3
          have hE : Ext φ w φ3 _ := (E0.trans ext1).trans (ext2.trans ext3)
          have hM3 := (hM0.mono ext1.toKeep).mono (ext2.trans ext3).toKeep
          refine ⟨pend, setBlk w2 w0.heap.size (.loop { r2 with state := .exhausted, pending := pend }), ?_, ?_⟩
          · have e1 : ({ r2 with state := .exhausted, pending := pend } : Go.Loop) = { r2 with state := .exhausted } := by rw [← g5]
            rw [e1]
            have : (r2.state == LoopState.busy) = false := by rw [g4]; cases st <;> first | rfl | exact absurd rfl hst
            simp [Instr.endLoop, Instr.getLoop, getObj, setObj, Sem.run, g3, this, g5, pure, setBlk]
            intro hbusy
            exact absurd (g4.symm.trans hbusy) hst
          · have hml : m ≤ (H'.set H.length (.loop .exhausted pend T' ps2 as2 bs2)).length := by simp at hlen ⊢; omega
            cases pend with
            | none => exact ⟨.normal, T, _, φ3, hQ, rfl, HH3, hT.mono hE, hM3, hml, hE.toN _⟩
            | some j =>
              cases j with
              | ret => exact wpIn_ret ⟨.ret, T, _, φ3, hQ, rfl, HH3, hT.mono hE, hM3, hml, hE.toN _⟩
              | exit j => exact wpIn_exit ⟨.exit j, T, _, φ3, hQ, rfl, HH3, hT.mono hE, hM3, hml, hE.toN _⟩
              | _ => exact hQ.elim
      cases ro with
      | none =>
        have E0 : Ext φ w φ (w.alloc (.deferred (some []))) := ⟨⟨⟨rfl, rfl, rfl⟩, by simp, fun b hb _ => by simp only [World.alloc, Array.getElem?_push]; rw [if_neg (by omega)], fun id l hl => .inl ⟨id, l, hl, rfl⟩,
          fun b r hr => ⟨r, by simp only [World.alloc, Array.getElem?_push]; rw [if_neg (by have := heap_lt hr; omega)]; exact hr⟩⟩, fun _ => .refl _⟩
        have HH0 : HRel N.env φ (w.alloc (.deferred (some []))) (get H) := ⟨fun id => (HH.1 id).mono E0 fun l hl => E0.toKeep.loops |> fun _ => by
          have := HH.blk hl
          simp only [World.alloc, Array.getElem?_push]; rw [if_neg (by omega)], HH.2⟩
        refine main _ [{ target := .collected w.heap.size, args := #[] }] w.heap.size E0 HH0 ?_ ?_
        · obtain ⟨rs, h1, h2, h3⟩ := hM
          refine ⟨w.heap.size :: rs, by rw [h1]; rfl, List.nodup_cons.2 ⟨fun hm => by have := (h3 _ hm).2.2.1.1; omega, h2⟩, fun r hr => ?_⟩
          rcases List.mem_cons.1 hr with rfl | hr
          · refine ⟨hn, alloc_new _ _, ⟨⟨by simp, ?_⟩, fun id l hl e => by have := HH.blk hl; omega⟩⟩
            exact fun h => h
          · obtain ⟨a1, a2, a3⟩ := h3 r hr
            exact ⟨a1, by rw [E0.toKeep.heap_imm a3]; exact a2, E0.toKeep.imm a3⟩
        · simp [Instr.enterLoop, newObj, Sem.run, pure]
      | some l0 =>
        obtain ⟨r0, hr0⟩ := hro l0 rfl
        refine main w [] r0.defers (Ext.refl _ _) HH hM ?_
        simp [Instr.enterLoop, Instr.getLoop, getObj, newObj, Sem.run, hr0, pure]
    · cases hcode
  | region id ops draw => cases draw <;> simp [compC] at hcode
  | cond c x y => simp only [compC] at hcode; split at hcode <;> cases hcode
  | _ => simp [compC] at hcode


/-! ### The rounds of AppendSeq -/

def apAssign (n : Nat) (zc : List AVal) : CCode := .region [⟨some 5, none, .alloc zc⟩, ⟨none, none, .store n (.t 5) (.t 7)⟩]
def apOps (n by_ : Nat) (zc : List AVal) : List COp :=
  [⟨some 8, none, .load false 1 (.t 2)⟩, ⟨some 9, none, .load true n (.t 5)⟩, ⟨some 10, none, .buildSlice n 1 (.agg zc) [(0, .t 9)]⟩, ⟨some 11, none, .append n by_ (.t 8) (.t 10)⟩, ⟨none, none, .store 1 (.t 2) (.t 11)⟩]
def apBody (n by_ : Nat) (zc : List AVal) : CCode := .block 1 (.region (apOps n by_ zc))

/-- The record's temporaries; B: the box's number. -/
def apTmps (B : Nat) : List AVal := [.nilSlice, .junk, .ptr B 0, undefA, .nilSlice, undefA, .junk, undefA, undefA, undefA, undefA, undefA, undefA]

def apLoop (n by_ : Nat) (zc : List AVal) (B : Nat) (st : LoopState) : AObj := .loop st none (apTmps B) [7] (apAssign n zc) (apBody n by_ zc)

theorem ap_round0 {N : Num} {n by_ : Nat} {zc cs : List AVal} (hz : zc.length = n) (hc : cs.length = n) (hn : 0 < n) (hb : by_ ≤ 70368744177664) :
    ACallV N (.yld 1) [.agg cs] [.cells [.nilSlice], apLoop n by_ zc 0 .ready] fun v H' => v = .bool true ∧ H' = [.cells [.slice 4 0 0 1], apLoop n by_ zc 0 .ready, .cells cs, .row n 0 [.agg cs], .row n 0 [.agg cs]] := by
  refine ACallV.yield (id := 1) (T := apTmps 0) (ps := [7]) (assign := apAssign n zc) (body := apBody n by_ zc) rfl rfl (CAT.of (ar := Ar.std) ?_)
  have e1 : splice zc 0 n cs = cs := by simp [splice, ← hz]
  simp [apAssign, apLoop, apTmps, vc, vcOps, vcIns, guardOk, aopS_eq, putAll, put, aop, Eff.app, ev, AVal.sure, hc, hz, e1]
  refine ⟨_, _, _, _, ⟨rfl, rfl, rfl, rfl⟩, CAT.of (ar := Ar.std) ?_⟩
  have e2 : cs.take n = cs := List.take_of_length_le (by omega)
  simp [apBody, apOps, vc, vcOps, vcIns, guardOk, aopS_eq, put, aop, Eff.app, ev, AVal.sure, hc, hz, e1, e2, readAt, allSure, AVal.cells, elemsOf, elemsS, liveR, splice, List.range_succ, hb]
  exact ⟨_, _, _, _, ⟨rfl, rfl, rfl, rfl⟩, rfl, rfl, rfl, rfl⟩

theorem ap_roundS {N : Num} {n by_ g : Nat} {zc cs : List AVal} {ks : List AVal} (hz : zc.length = n) (hc : cs.length = n) (hn : 0 < n) (hb : (ks.length + 1) * by_ ≤ 70368744177664) (hk : ks.length + 1 ≤ 70368744177664) :
    ACallV N (.yld 1) [.agg cs] [.cells [.slice 2 g 0 ks.length], apLoop n by_ zc 0 .ready, .row n g ks] fun v H' => v = .bool true ∧ H' = [.cells [.slice 2 (g + 1) 0 (ks.length + 1)], apLoop n by_ zc 0 .ready, .row n (g + 1) (ks ++ [.agg cs]), .cells cs, .row n 0 [.agg cs]] := by
  refine ACallV.yield (id := 1) (T := apTmps 0) (ps := [7]) (assign := apAssign n zc) (body := apBody n by_ zc) rfl rfl (CAT.of (ar := Ar.std) ?_)
  have e1 : splice zc 0 n cs = cs := by simp [splice, ← hz]
  have e2 : cs.take n = cs := List.take_of_length_le (by omega)
  simp [apAssign, apLoop, apTmps, vc, vcOps, vcIns, guardOk, aopS_eq, putAll, put, aop, Eff.app, ev, AVal.sure, hc, hz, e1]
  refine ⟨_, _, _, _, ⟨rfl, rfl, rfl, rfl⟩, CAT.of (ar := Ar.std) ?_⟩
  simp [apBody, apOps, vc, vcOps, vcIns, guardOk, aopS_eq, put, aop, Eff.app, ev, AVal.sure, hc, hz, e1, e2, readAt, allSure, AVal.cells, elemsOf, elemsS, liveR, splice, List.range_succ, hb, hk]
  exact ⟨_, _, _, _, ⟨rfl, rfl, rfl, rfl⟩, rfl, rfl, rfl, rfl⟩

/-! ### What is no longer told -/

/-- A new object is given up. -/
theorem ACallV.kill {N : Num} {fv : AVal} {args : List AVal} {H : AHeap} {K : AVal → AHeap → Prop} (h : ACallV N fv args H fun v H' => ∃ i, H.length ≤ i ∧ i < H'.length ∧ K v (H'.set i .dead)) : ACallV N fv args H K := by
  intro φ w f vs h1 h2 h3
  obtain ⟨d, h4, h5⟩ := h φ w f vs h1 h2 h3
  refine ⟨d, h4, h5.imp ?_⟩
  rintro x w' ⟨v, H', φ', ⟨i, hi, hil, hK⟩, hk, hv, HH, hE⟩
  let φ2 : Phi := fun j => if j = i then .dead else φ' j
  have live2 : ∀ j l, φ2 j = .live l → j ≠ i ∧ φ' j = .live l := by
    intro j l hl
    simp only [φ2] at hl
    split at hl
    · cases hl
    · rename_i hne; exact ⟨hne, hl⟩
  have hsub : Sub N.env φ' w' φ2 w' := ⟨fun hb => ⟨hb.1, fun id l hl => hb.2 id l (live2 id l hl).2⟩, fun _ hr => hr, fun id hd => by simp only [φ2]; split <;> simp [hd], fun id l hl => by
    by_cases hj : id = i
    · exact .inl (by simp [φ2, hj])
    · exact .inr ⟨l, by simp [φ2, hj, hl], Nat.le_refl _, fun _ => rfl⟩⟩
  refine ⟨v, _, φ2, hK, by simpa using hk, hv.mono0 hsub, ⟨fun id => ?_, fun a b la lb ha hb e => HH.2 a b la lb (live2 a la ha).2 (live2 b lb hb).2 e⟩, ⟨⟨hE.same, hE.size, hE.keep, fun id l hl => hE.fresh id l (live2 id l hl).2, hE.loops⟩, fun id => ?_⟩⟩
  · by_cases hj : id = i
    · subst hj
      have : get (H'.set id .dead) id = .dead := by simp [get, List.getD, hil]
      rw [this]; simp [φ2, ORel]
    · have e1 : get (H'.set i .dead) id = get H' id := by simp only [get, List.getD, List.getElem?_set_ne (fun e => hj e.symm)]
      have e2 : φ2 id = φ' id := by simp [φ2, hj]
      rw [e1, e2]
      exact (HH.1 id).mono0 hsub fun _ _ => rfl
  · by_cases hj : id = i
    · subst hj
      rw [un_of_ge h1 hi]
      exact ⟨(by intro h; cases h), (by intro l h; cases h)⟩
    · have e2 : φ2 id = φ' id := by simp [φ2, hj]
      rw [e2]; exact hE.goes id

theorem RetK.mono {N : Num} {k : Nat} {φ : Phi} {w : World} {keep keep' : Nat → Prop} {K K' : AVal → AHeap → Prop} {x : Value} {w' : World} (h : RetK N k φ w keep K x w') (h1 : ∀ i, keep' i → keep i) (h2 : ∀ v H, K v H → K' v H) : RetK N k φ w keep' K' x w' := by
  obtain ⟨v, H', φ', hK, a, b, c, d, e⟩ := h
  exact ⟨v, H', φ', h2 _ _ hK, a, b, c, d, fun id l hi hl => e id l (h1 id hi) hl⟩

theorem ACallK.mono {N : Num} {keep keep' : Nat → Prop} {fv : AVal} {args : List AVal} {H : AHeap} {K K' : AVal → AHeap → Prop} (h : ACallK N keep fv args H K) (h1 : ∀ i, keep' i → keep i) (h2 : ∀ v H, K v H → K' v H) : ACallK N keep' fv args H K' := by
  intro φ w f vs a b c
  obtain ⟨d, e, g⟩ := h φ w f vs a b c
  exact ⟨d, e, UponG.imp g fun _ _ h => h.mono h1 h2⟩

/-! ### The call of AppendSeq -/

def apHeap (n by_ : Nat) (zc : List AVal) (H : AHeap) : List AVal → AHeap
  | [] => H ++ [.cells [.nilSlice], apLoop n by_ zc H.length .ready]
  | k :: r => H ++ [.cells [.slice (H.length + 4) r.length 0 (r.length + 1)], apLoop n by_ zc H.length .ready, .cells k.cells, .row n 0 [k], .row n r.length (k :: r)]

/-- A key: a struct of n cells, that holds no numbers. -/
def KeyOk (n : Nat) (k : AVal) : Prop := ∃ cs, k = .agg cs ∧ cs.length = n ∧ bndL 0 cs = true

theorem ap_step {N : Num} {n by_ : Nat} {zc : List AVal} (hz : zc.length = n) (hn : 0 < n) (H : AHeap) {ks : List AVal} {k : AVal} (hks : ∀ k ∈ ks, KeyOk n k) (hk : KeyOk n k) (hb : (ks.length + 1) * by_ ≤ 70368744177664) (hl : ks.length + 1 ≤ 70368744177664) (hzb : bndL 0 zc = true) :
    ACallK N (fun i => i < H.length) (.yld (H.length + 1)) [k] (apHeap n by_ zc H ks) fun v H' => v = .bool true ∧ H' = apHeap n by_ zc H (ks ++ [k]) := by
  obtain ⟨cs, rfl, hcl, hcb⟩ := hk
  have hc1 : ∀ f, renL f [.agg cs] = [.agg cs] := fun f => renL_closed f (by simp [bndL, bndV, hcb])
  have hcf : ∀ f, renL f cs = cs := fun f => renL_closed f hcb
  have hcm : ∀ m, bndL m cs = true := fun m => bndL_mono (Nat.zero_le m) hcb
  cases ks with
  | nil =>
    have := ACallV.frameK (N := N) (fv := .yld 1) (args := [.agg cs]) (H := apHeap n by_ zc H []) (H0 := [.cells [.nilSlice], apLoop n by_ zc 0 .ready]) (K := fun v H' => v = .bool true ∧ H' = apHeap n by_ zc H [.agg cs]) [H.length, H.length + 1] ?_ ?_ ?_ ?_ fun X => (ap_round0 hz hcl hn (by simpa using hb)).mono ?_
    · rw [hc1] at this
      have e : ren (nums [H.length, H.length + 1] (apHeap n by_ zc H []).length) (.yld 1) = .yld (H.length + 1) := by simp [ren, nums]
      rw [e] at this
      exact this.mono (fun i hi => ⟨by simp [apHeap]; omega, by simp; omega⟩) fun v H' h => by simpa using h
    · refine ⟨by simp, rfl, ?_⟩
      rintro (_ | _ | j) i o hj ho
      · simp at hj ho; subst hj ho; simp [apHeap, renO, renL, ren]
      · simp at hj ho; subst hj ho; simp [apHeap, apLoop, apTmps, renO, renL, ren, nums, undefA]
      · simp at hj
    · simp [bndV]
    · simp [bndL, bndV, hcm]
    · simp [bndH, bndO, bndL, bndV, apLoop, apTmps, undefA]
    · rintro v H' ⟨rfl, rfl⟩
      refine ⟨rfl, ?_⟩
      simp [glue, setAll, renH, renO, renL, ren, nums, apHeap, apLoop, apTmps, undefA, hcf, AVal.cells]
  | cons k0 r =>
    have hkr : ∀ {l : List AVal}, (∀ k ∈ l, KeyOk n k) → bndL 0 l = true := by
      intro l
      induction l with
      | nil => intro _; rfl
      | cons a l ih =>
        intro h
        obtain ⟨c, rfl, _, h2⟩ := h a (by simp)
        simp only [bndL, bndV, h2, Bool.true_and]
        exact ih fun k hk => h k (by simp [hk])
    have hkb := hkr hks
    have hkm : ∀ m, bndL m (k0 :: r) = true := fun m => bndL_mono (Nat.zero_le m) hkb
    have hkf : ∀ f, renL f (k0 :: r) = k0 :: r := fun f => renL_closed f hkb
    have hrd : ∀ X, ACallV (N.withX X) (.yld 1) [.agg cs] [.cells [.slice 2 r.length 0 (k0 :: r).length], apLoop n by_ zc 0 .ready, .row n r.length (k0 :: r)] fun v H' => v = .bool true ∧ H' = [.cells [.slice 2 (r.length + 1) 0 ((k0 :: r).length + 1)], apLoop n by_ zc 0 .ready, .row n (r.length + 1) (k0 :: r ++ [.agg cs])] := fun X => by
      refine ACallV.fgt ((ap_roundS (g := r.length) hz hcl hn hb hl).mono ?_)
      rintro v H' ⟨rfl, rfl⟩
      refine ⟨3, by simp, by simp, by simp [bndV], ?_, rfl, rfl⟩
      have h1 := hkm 3
      simp only [bndL, Bool.and_eq_true] at h1
      have h2 : bndL 3 (r ++ [.agg cs]) = true := bndL_mono (Nat.zero_le 3) (hkr fun k hk => by
        rcases List.mem_append.1 hk with hk | hk
        · exact hks k (by simp [hk])
        · simp at hk; exact ⟨cs, hk, hcl, hcb⟩)
      simp [bndH, bndO, bndL, bndV, apLoop, apTmps, undefA, h1.1, h2]
    have hlen : (apHeap n by_ zc H (k0 :: r)).length = H.length + 5 := by simp [apHeap]
    have := ACallV.frameK (N := N) (fv := .yld 1) (args := [.agg cs]) (H := apHeap n by_ zc H (k0 :: r)) (H0 := [.cells [.slice 2 r.length 0 (k0 :: r).length], apLoop n by_ zc 0 .ready, .row n r.length (k0 :: r)]) (K := fun v H' => v = .bool true ∧ H' = apHeap n by_ zc H (k0 :: r ++ [.agg cs])) [H.length, H.length + 1, H.length + 4] ?_ ?_ ?_ ?_ fun X => (hrd X).mono ?_
    · rw [hc1] at this
      have e : ren (nums [H.length, H.length + 1, H.length + 4] (apHeap n by_ zc H (k0 :: r)).length) (.yld 1) = .yld (H.length + 1) := by simp [ren, nums]
      rw [e] at this
      exact this.mono (fun i hi => ⟨by simp [apHeap]; omega, by simp; omega⟩) fun v H' h => h
    · refine ⟨by simp, rfl, ?_⟩
      rintro (_ | _ | _ | j) i o hj ho
      · simp at hj ho; subst hj ho; simp [apHeap, renO, renL, ren, nums]
      · simp at hj ho; subst hj ho; simp [apHeap, apLoop, apTmps, renO, renL, ren, nums, undefA]
      · simp at hj ho; subst hj ho; simp [apHeap, renO, hkf]
      · simp at hj
    · simp [bndV]
    · simp [bndL, bndV, hcm]
    · have h1 := hkm 3
      simp only [bndL, Bool.and_eq_true] at h1
      simp [bndH, bndO, bndL, bndV, apLoop, apTmps, undefA, h1.1, h1.2]
    · rintro v H' ⟨rfl, rfl⟩
      refine ⟨rfl, ?_⟩
      have h2 : ∀ f, renL f (k0 :: (r ++ [.agg cs])) = k0 :: (r ++ [.agg cs]) := fun f => renL_closed f (hkr fun k hk => by
        rcases List.mem_cons.1 hk with rfl | hk
        · exact hks _ (by simp)
        rcases List.mem_append.1 hk with hk | hk
        · exact hks k (by simp [hk])
        · simp at hk; exact ⟨cs, hk, hcl, hcb⟩)
      simp [glue, setAll, renH, renO, ren, nums, apHeap, apLoop, apTmps, undefA, h2]
      simp [renL, ren, nums]

end Go.Rv

namespace Go.Rv

/-- The code of slices.AppendSeq. -/
def apFn (n by_ : Nat) (zc : List AVal) : CFunc where
  nparams := 2
  ntmps := 13
  results := [.tmp 4]
  body :=
    .seq (.region [⟨some 2, none, .box (.t 0)⟩, ⟨some 4, none, .move (.c .nilSlice)⟩]) (
    .seq (.seq (.region [⟨some 6, none, .move (.t 1)⟩]) (.block 0 (.rangeFunc (.t 6) [7] (apAssign n zc) (apBody n by_ zc)))) (
    .seq (.region [⟨some 12, none, .load false 1 (.t 2)⟩, ⟨some 4, none, .move (.t 12)⟩]) .ret))

/-- What comes: the keys in some order, in a row of its own (what the call has left beside it is no longer told of). -/
def apOut (n : Nat) (H : AHeap) (ks : List AVal) (v : AVal) (H' : AHeap) : Prop :=
  match ks with
  | [] => v = .nilSlice ∧ H' = H ++ [.dead, .dead]
  | k :: r => v = .slice (H.length + 4) r.length 0 (r.length + 1) ∧ H' = H ++ [.dead, .dead, .dead, .dead, .row n r.length (k :: r)]

def apVal (H : AHeap) : List AVal → AVal
  | [] => .nilSlice
  | _ :: r => .slice (H.length + 4) r.length 0 (r.length + 1)

theorem ACallV.appendKeys {N : Num} {cA cK n by_ q id : Nat} {zc : List AVal} {cfK : CFunc} (hA : HasFn N cA (apFn n by_ zc)) (hF : KeysFn N cK n) (hFK : HasFn N cK cfK) (hz : zc.length = n) (hn : 0 < n) (hzb : bndL 0 zc = true) {H : AHeap} {es : List (AVal × AVal)} (hq : H[q]? = some (.cells [.map id])) (hm : H[id]? = some (.map es))
    (hk : ∀ e ∈ es, KeyOk n e.1) (hb : es.length * by_ ≤ 70368744177664) (hl : es.length ≤ 70368744177664) :
    ACallV N (.func cA [] []) [.nilSlice, .func cK [] [.ptr q 0]] H fun v H' => ∃ ks, ks.Perm (es.map (·.1)) ∧ apOut n H ks v H' := by
  have hqlt := (List.getElem?_eq_some_iff.1 hq).1
  have hmlt := (List.getElem?_eq_some_iff.1 hm).1
  -- the walk, what it leaves still told
  have main : ACallV N (.func cA [] []) [.nilSlice, .func cK [] [.ptr q 0]] H fun v H' => ∃ ks, ks.Perm (es.map (·.1)) ∧ (∀ k ∈ ks, KeyOk n k) ∧ H' = (apHeap n by_ zc H ks).set (H.length + 1) (.loop .exhausted none (apTmps H.length) [7] (apAssign n zc) (apBody n by_ zc)) ∧ v = apVal H ks := by
    refine ACallV.body hA ?_
    refine CAT.seq (CAT.of (ar := Ar.std) ?_)
    simp [apFn, tmps0, vc, vcOps, vcIns, guardOk, aopS_eq, put, aop, Eff.app, ev, undefA, AVal.sure]
    refine CAT.seq (CAT.seq (CAT.of (ar := Ar.std) ?_))
    simp [vc, vcOps, vcIns, guardOk, aopS_eq, put, aop, Eff.app, ev]
    have e0 : H ++ [AObj.cells [AVal.nilSlice]] ++ [.loop .ready none (apTmps H.length) [7] (apAssign n zc) (apBody n by_ zc)] = apHeap n by_ zc H [] := by simp [apHeap, apLoop]
    have e1 : (H ++ [AObj.cells [AVal.nilSlice]]).length = H.length + 1 := by simp
    refine CAT.block (CAT.rangeFuncJ (T1 := apTmps H.length) (by simp [LeL, apTmps, undefA]) hFK (first := []) (caps := [.ptr q 0]) rfl ?_)
    rw [e0, e1]
    have hkeyOk : ∀ k ∈ es.map (·.1), KeyOk n k := by
      intro k hkm
      obtain ⟨e, he, rfl⟩ := List.mem_map.1 hkm
      exact hk e he
    have iter := ACallV.keysIter (N := N) hF (H := apHeap n by_ zc H []) (es := es) (y := .yld (H.length + 1)) (q := q) (id := id)
      (by simp only [apHeap]; rw [List.getElem?_append_left hqlt]; exact hq) (by simp only [apHeap]; rw [List.getElem?_append_left hmlt]; exact hm)
      (fun e he => by obtain ⟨cs, h1, h2, _⟩ := hk e he; exact ⟨cs, h1, h2⟩)
      (fun ks H' => H' = apHeap n by_ zc H ks ∧ ∀ k ∈ ks, KeyOk n k) ⟨rfl, by simp⟩
      (by rintro ks H' ⟨rfl, _⟩; cases ks <;> (simp only [apHeap]; rw [List.getElem?_append_left hmlt]; exact hm))
      (fun i => i < H.length) hmlt ?_
    · refine iter.mono ?_
      rintro v H' ⟨ks, hperm, rfl, hks⟩
      have hlk : (apHeap n by_ zc H ks)[H.length + 1]? = some (apLoop n by_ zc H.length .ready) := by
        cases ks <;> simp [apHeap]
      refine ⟨_, _, _, _, _, _, hlk, by simp, ?_⟩
      refine CAT.seq (CAT.of (ar := Ar.std) ?_)
      have hcl : ((apHeap n by_ zc H ks).set (H.length + 1) (.loop .exhausted none (apTmps H.length) [7] (apAssign n zc) (apBody n by_ zc)))[H.length]? = some (.cells [apVal H ks]) := by
        rw [List.getElem?_set_ne (by omega)]
        cases ks <;> simp [apHeap, apVal]
      simp [vc, vcOps, vcIns, guardOk, aopS_eq, put, aop, Eff.app, ev, hcl, readAt]
      refine CAT.of (ar := Ar.std) ?_
      simp [vc, Back, resAll, resA, resOne]
      exact ⟨ks, hperm, hks, rfl, rfl⟩
    · rintro X ks k H' ⟨rfl, hks⟩ hlt hkm
      have h1 : (ks.length + 1) * by_ ≤ 70368744177664 := Nat.le_trans (Nat.mul_le_mul_right _ hlt) hb
      refine (ap_step (N := N.withX X) hz hn H hks (hkeyOk k hkm) h1 (by omega) hzb).mono (fun i h => h) ?_
      rintro v H' ⟨rfl, rfl⟩
      refine ⟨rfl, rfl, fun k' hk' => ?_⟩
      rcases List.mem_append.1 hk' with h | h
      · exact hks k' h
      · simp at h; exact h ▸ hkeyOk k hkm
  -- what is left beside it
  refine ACallV.kill (ACallV.kill (ACallV.kill (ACallV.kill (main.mono ?_))))
  rintro v H' ⟨ks, hperm, hks, rfl, rfl⟩
  cases ks with
  | nil =>
    refine ⟨H.length, Nat.le_refl _, by simp [apHeap], H.length, Nat.le_refl _, by simp [apHeap], H.length, Nat.le_refl _, by simp [apHeap], H.length + 1, by omega, by simp [apHeap], [], hperm, rfl, ?_⟩
    simp [apHeap]
  | cons k r =>
    refine ⟨H.length, Nat.le_refl _, by simp [apHeap], H.length + 1, by omega, by simp [apHeap], H.length + 2, by omega, by simp [apHeap], H.length + 3, by omega, by simp [apHeap], k :: r, hperm, rfl, ?_⟩
    simp [apHeap]

end Go.Rv

namespace Go.Rv

/-- The code of slices.Collect. -/
def coFn (cA : Nat) : CFunc where
  nparams := 1
  ntmps := 5
  results := [.tmp 2]
  body := .seq (.region [⟨some 2, none, .move (.c .nilSlice)⟩]) (.seq (.region [⟨some 3, none, .move (.t 0)⟩, ⟨some 4, none, .call cA [.c .nilSlice, .t 3]⟩, ⟨some 2, none, .move (.t 4)⟩]) .ret)

/-- The code of slices.SortedFunc. -/
def sfFn (cC cT : Nat) : CFunc where
  nparams := 2
  ntmps := 12
  results := [.tmp 4]
  body := .seq (.region [⟨some 4, none, .move (.c .nilSlice)⟩]) (.seq (.region [⟨some 6, none, .move (.t 0)⟩, ⟨some 7, none, .call cC [.t 6]⟩, ⟨some 5, none, .move (.t 7)⟩]) (
    .seq (.region [⟨some 8, none, .move (.t 5)⟩, ⟨some 9, none, .move (.t 1)⟩, ⟨some 10, none, .call cT [.t 8, .t 9]⟩]) (.seq (.region [⟨some 11, none, .move (.t 5)⟩, ⟨some 4, none, .move (.t 11)⟩]) .ret)))

theorem ACallV.collectKeys {N : Num} {cC cA cK n by_ q id : Nat} {zc : List AVal} {cfK : CFunc} (hC : HasFn N cC (coFn cA)) (hA : HasFn N cA (apFn n by_ zc)) (hF : KeysFn N cK n) (hFK : HasFn N cK cfK) (hz : zc.length = n) (hn : 0 < n) (hzb : bndL 0 zc = true) {H : AHeap} {es : List (AVal × AVal)} (hq : H[q]? = some (.cells [.map id])) (hm : H[id]? = some (.map es))
    (hk : ∀ e ∈ es, KeyOk n e.1) (hb : es.length * by_ ≤ 70368744177664) (hl : es.length ≤ 70368744177664) :
    ACallV N (.func cC [] []) [.func cK [] [.ptr q 0]] H fun v H' => ∃ ks, ks.Perm (es.map (·.1)) ∧ apOut n H ks v H' := by
  refine ACallV.body hC (CAT.of (ar := Ar.std) ?_)
  simp [coFn, tmps0, vc, vcOps, vcIns, guardOk, aopS_eq, put, aop, Eff.app, ev, undefA]
  refine (ACallV.appendKeys hA hF hFK hz hn hzb hq hm hk hb hl).mono ?_
  rintro v H' ⟨ks, h1, h2⟩
  simp [Back, resAll, resA, resOne]
  exact ⟨ks, by simpa using h1, h2⟩

/-- Sorted so, however they come. -/
def SortTo (N : Num) (cT : Nat) (cmp : AVal) (n : Nat) (ss : List AVal) : List AVal → Prop
  | [] => ss = [] ∧ ∀ X, ACallV (N.withX X) (.func cT [] []) [.nilSlice, cmp] [] fun _ H' => H' = []
  | k :: r => (ss.length = r.length + 1 ∧ bndL 0 ss = true) ∧ ∀ X, ACallV (N.withX X) (.func cT [] []) [.slice 0 r.length 0 (r.length + 1), cmp] [.row n r.length (k :: r)] fun _ H' => H' = [.row n r.length ss]

theorem ACallV.sortedFuncKeys {N : Num} {cS cT cC cA cK n by_ q id : Nat} {zc : List AVal} {cfK : CFunc} (hS : HasFn N cS (sfFn cC cT)) (hC : HasFn N cC (coFn cA)) (hA : HasFn N cA (apFn n by_ zc)) (hF : KeysFn N cK n) (hFK : HasFn N cK cfK) (hz : zc.length = n) (hn : 0 < n) (hzb : bndL 0 zc = true) {H : AHeap} {es : List (AVal × AVal)} (hq : H[q]? = some (.cells [.map id])) (hm : H[id]? = some (.map es))
    (hk : ∀ e ∈ es, KeyOk n e.1) (hb : es.length * by_ ≤ 70368744177664) (hl : es.length ≤ 70368744177664) {cmp : AVal} (hcmp : bndV 0 cmp = true) {ss : List AVal} (hss : ∀ ks, ks.Perm (es.map (·.1)) → SortTo N cT cmp n ss ks) :
    ACallV N (.func cS [] []) [.func cK [] [.ptr q 0], cmp] H (apOut n H ss) := by
  refine ACallV.body hS (CAT.of (ar := Ar.std) ?_)
  simp [sfFn, tmps0, vc, vcOps, vcIns, guardOk, aopS_eq, put, aop, Eff.app, ev, undefA]
  refine (ACallV.collectKeys hC hA hF hFK hz hn hzb hq hm hk hb hl).mono ?_
  rintro v H' ⟨ks, h1, h2⟩
  have hto := hss ks h1
  have hcf : ∀ f, ren f cmp = cmp := fun f => ren_closed f hcmp
  have hkr : ∀ {l : List AVal}, (∀ k ∈ l, KeyOk n k) → bndL 0 l = true := by
    intro l
    induction l with
    | nil => intro _; rfl
    | cons a l ih =>
      intro h
      obtain ⟨c, rfl, _, h2⟩ := h a (by simp)
      simp only [bndL, bndV, h2, Bool.true_and]
      exact ih fun k hk => h k (by simp [hk])
  have hkb : bndL 0 ks = true := hkr fun k hkm => by
    obtain ⟨e, he, rfl⟩ := List.mem_map.1 (h1.mem_iff.1 hkm)
    exact hk e he
  cases ks with
  | nil =>
    obtain ⟨rfl, rfl⟩ := h2
    obtain ⟨rfl, hto⟩ := hto
    have := ACallV.frame (N := N) (fv := .func cT [] []) (args := [.nilSlice, cmp]) (H := H ++ [.dead, .dead]) (H0 := []) (K := fun v H' => H' = H ++ [.dead, .dead]) [] ⟨by simp, rfl, by simp⟩ rfl (by simp [bndL, bndV, hcmp]) rfl fun X => (hto X).mono fun v H' h => by subst h; simp [glue, setAll, renH]
    simp only [ren, renL, hcf] at this
    refine this.mono ?_
    rintro v H' rfl
    simp [Back, resAll, resA, resOne, apOut]
  | cons k r =>
    obtain ⟨rfl, rfl⟩ := h2
    obtain ⟨⟨hlen, hsb⟩, hto⟩ := hto
    have hsn : ∃ k' r', ss = k' :: r' := by cases ss with
      | nil => simp at hlen
      | cons a b => exact ⟨a, b, rfl⟩
    obtain ⟨k', r', rfl⟩ := hsn
    have hrl : r'.length = r.length := by simpa using hlen
    have hkf : ∀ f, renL f (k :: r) = k :: r := fun f => renL_closed f hkb
    have hsf : ∀ f, renL f (k' :: r') = k' :: r' := fun f => renL_closed f hsb
    have := ACallV.frame (N := N) (fv := .func cT [] []) (args := [.slice 0 r.length 0 (r.length + 1), cmp]) (H := H ++ [.dead, .dead, .dead, .dead, .row n r.length (k :: r)]) (H0 := [.row n r.length (k :: r)]) (K := fun v H' => H' = H ++ [.dead, .dead, .dead, .dead, .row n r.length (k' :: r')]) [H.length + 4] ?_ rfl (by simp [bndL, bndV, bndV_mono (Nat.zero_le 1) hcmp]) ?_ fun X => (hto X).mono ?_
    · simp only [ren, renL, hcf] at this
      have e : nums [H.length + 4] (H ++ [AObj.dead, .dead, .dead, .dead, .row n r.length (k :: r)]).length 0 = H.length + 4 := by simp [nums]
      rw [e] at this
      refine this.mono ?_
      rintro v H' rfl
      simp [Back, resAll, resA, resOne, apOut, hrl]
    · refine ⟨by simp, rfl, ?_⟩
      rintro (_ | j) i o hj ho
      · simp at hj ho; subst hj ho; simp [renO, hkf]
      · simp at hj
    · have h3 := bndL_mono (Nat.zero_le 1) hkb
      simp only [bndL, Bool.and_eq_true] at h3
      simp [bndH, bndO, bndL, h3.1, h3.2]
    · rintro v H' rfl
      simp [glue, setAll, renH, renO, hsf]

/-! ### All orders -/

def inserts {α : Type} (a : α) : List α → List (List α)
  | [] => [[a]]
  | b :: l => (a :: b :: l) :: (inserts a l).map (b :: ·)

def perms {α : Type} : List α → List (List α)
  | [] => [[]]
  | a :: l => (perms l).flatMap (inserts a)

theorem inserts_mem {α : Type} (a : α) : ∀ (s t : List α), s ++ a :: t ∈ inserts a (s ++ t)
  | [], [] => by simp [inserts]
  | [], b :: t => by simp [inserts]
  | b :: s, t => by
    simp only [List.cons_append, inserts]
    exact List.mem_cons_of_mem _ (List.mem_map.2 ⟨_, inserts_mem a s t, rfl⟩)

theorem perms_mem {α : Type} : ∀ {l ks : List α}, ks.Perm l → ks ∈ perms l
  | [], ks, h => by rw [h.eq_nil]; simp [perms]
  | a :: l, ks, h => by
    have ha : a ∈ ks := h.mem_iff.2 (by simp)
    obtain ⟨s, t, rfl⟩ := List.append_of_mem ha
    have h2 : (s ++ t).Perm l := ((List.perm_middle (a := a) (l₁ := s) (l₂ := t)).symm.trans h).cons_inv
    exact List.mem_flatMap.2 ⟨s ++ t, perms_mem h2, inserts_mem a s t⟩

/-! ### The evaluator's word -/

noncomputable def pushAll : List AObj → FH → Option FH
  | [], h => some h
  | o :: l, h => (match FArr.push 12 h o with
    | some h' => pushAll l h'
    | none => none)

theorem pushAll_rep : ∀ {l : List AObj} {h h' : FH} {H : AHeap}, RH h H → pushAll l h = some h' → RH h' (H ++ l)
  | [], h, h', H, hH, e => by simp only [pushAll, Option.some.injEq] at e; subst e; simpa using hH
  | o :: l, h, h', H, hH, e => by
    simp only [pushAll] at e
    split at e
    · rename_i h1 hp
      have := pushAll_rep (hH.push hp) e
      simpa using this
    · cases e

def keysA (n : Nat) : List (AVal × AVal) → Option (List AVal)
  | [] => some []
  | (.agg cs, _) :: l => (match Nat.beq (lenF cs 0) n && bndL 0 cs, keysA n l with
    | true, some ks => some (.agg cs :: ks)
    | _, _ => none)
  | _ :: _ => none

theorem keysA_spec {n : Nat} : ∀ {es : List (AVal × AVal)} {ks : List AVal}, keysA n es = some ks → es.map (·.1) = ks ∧ ∀ e ∈ es, KeyOk n e.1
  | [], ks, h => by simp only [keysA, Option.some.injEq] at h; subst h; simp
  | (a, v) :: l, ks, h => by
    cases a <;> simp only [keysA] at h <;> first | (cases h; done) | skip
    rename_i cs
    split at h
    · rename_i ks' h1 h2
      simp only [Option.some.injEq] at h; subst h
      simp only [Bool.and_eq_true, lenF_eq, Nat.zero_add] at h1
      obtain ⟨g1, g2⟩ := keysA_spec h2
      refine ⟨by simp [g1], fun e he => ?_⟩
      rcases List.mem_cons.1 he with rfl | he
      · exact ⟨cs, rfl, Nat.eq_of_beq_eq_true h1.1, h1.2⟩
      · exact g2 e he
    · cases h

noncomputable def sortsOne (call : CallF) (cT n : Nat) (cmp : AVal) (ss : List AVal) : List AVal → Bool
  | [] => (match ss with
    | [] => callsF (call (.func cT [] []) [.nilSlice, cmp] ⟨0, .nil⟩) (.tuple []) []
    | _ => false)
  | k :: r => Nat.beq (lenF ss 0) (lenF (k :: r) 0) && (bndL 0 ss && callsF (call (.func cT [] []) [.slice 0 (lenF r 0) 0 (lenF (k :: r) 0), cmp] (heapOf [.row n (lenF r 0) (k :: r)])) (.tuple []) [.row n (lenF r 0) ss])

theorem sortsOne_ok {N : Num} {call : CallF} (hc : CallOkF N call) {cT n : Nat} {cmp : AVal} {ss ks : List AVal} (h : sortsOne call cT n cmp ss ks = true) : SortTo N cT cmp n ss ks := by
  cases ks with
  | nil =>
    cases ss with
    | nil => exact ⟨rfl, fun X => (calls_sound hc h heapNil (Nat.le_refl _) X).mono fun _ _ h => h.2⟩
    | cons a l => cases h
  | cons k r =>
    simp only [sortsOne, Bool.and_eq_true, lenF_eq, Nat.zero_add, List.length_cons] at h
    obtain ⟨h1, h2, h3⟩ := h
    exact ⟨⟨Nat.eq_of_beq_eq_true h1, h2⟩, fun X => (calls_sound hc h3 (heapOf_rep (by simp)) (by simp) X).mono fun _ _ h => h.2⟩

noncomputable def sortedOf (call : CallF) (cT n : Nat) (cmp : AVal) : List AVal → Option (List AVal)
  | [] => some []
  | k :: r => (match call (.func cT [] []) [.slice 0 (lenF r 0) 0 (lenF (k :: r) 0), cmp] (heapOf [.row n (lenF r 0) (k :: r)]) with
    | some (_, h) => (match objF h 0 with
      | some (.row _ _ ss) => some ss
      | _ => none)
    | none => none)

/-- 'cK': the number of the iterator of maps.Keys; 'cT': of slices.SortFunc. -/
noncomputable def oSortedF (call : CallF) (cK cT n by_ : Nat) : List AVal → FH → Option (AVal × FH)
  | [.func c [] [.ptr q 0], cmp], h => (match Nat.beq c cK && bndV 0 cmp, objF h q with
    | true, some (.cells [.map id]) => (match objF h id with
      | some (.map es) => (match keysA n es, sortedOf call cT n cmp (es.map (·.1)) with
        | some ks, some ss => (match Nat.ble (Nat.mul (lenF es 0) (Nat.succ by_)) 100000 && (perms ks).all (sortsOne call cT n cmp ss) with
          | true => (match ss with
            | [] => (match pushAll [.dead, .dead] h with
              | some h' => some (.nilSlice, h')
              | none => none)
            | k :: r => (match pushAll [.dead, .dead, .dead, .dead, .row n (lenF r 0) (k :: r)] h with
              | some h' => some (.slice (Nat.add h.n 4) (lenF r 0) 0 (Nat.succ (lenF r 0)), h')
              | none => none))
          | false => none)
        | _, _ => none)
      | _ => none)
    | _, _ => none)
  | _, _ => none

theorem oSortedF_ok {N : Num} {call : CallF} (hcall : CallOkF N call) {cS cT cC cA cK n by_ : Nat} {zc : List AVal} {cfK : CFunc} (hS : HasFn N cS (sfFn cC cT)) (hC : HasFn N cC (coFn cA)) (hA : HasFn N cA (apFn n by_ zc)) (hF : KeysFn N cK n) (hFK : HasFn N cK cfK) (hz : zc.length = n) (hn : 0 < n) (hzb : bndL 0 zc = true) :
    EntOk N cS (.orc (oSortedF call cK cT n by_)) := by
  refine ⟨fun _ _ _ _ _ => ⟨_, hS⟩, fun args h v h' hr H hH => ?_⟩
  unfold oSortedF at hr
  split at hr
  · rename_i c q cmp
    split at hr
    · rename_i id hc hq
      simp only [Bool.and_eq_true] at hc
      have hcK := Nat.eq_of_beq_eq_true hc.1
      subst hcK
      rw [objF_eq hH] at hq
      split at hr
      · rename_i es hm
        rw [objF_eq hH] at hm
        split at hr
        · rename_i ks ss hks _
          obtain ⟨g1, g2⟩ := keysA_spec hks
          split at hr
          · rename_i hall
            simp only [Bool.and_eq_true] at hall
            have hle := ble_iff.1 hall.1
            rw [lenF_eq, Nat.zero_add] at hle
            have hle' : es.length * (by_ + 1) ≤ 100000 := hle
            have hle1 : es.length * by_ ≤ es.length * (by_ + 1) := Nat.mul_le_mul_left _ (Nat.le_succ _)
            have hle2 : es.length * 1 ≤ es.length * (by_ + 1) := Nat.mul_le_mul_left _ (by omega)
            have key : ∀ X, ACallV (N.withX X) (.func cS [] []) [.func c [] [.ptr q 0], cmp] H (apOut n H ss) := fun X =>
              ACallV.sortedFuncKeys (N := N.withX X) (hS.withX X) (hC.withX X) (hA.withX X) ⟨hF.at_⟩ (hFK.withX X) hz hn hzb hq hm g2 (by omega) (by omega) hc.2 fun p hp => by
                have := sortsOne_ok hcall (List.all_eq_true.1 hall.2 p (perms_mem (by rw [g1] at hp; exact hp)))
                cases p with
                | nil => exact ⟨this.1, fun X' => this.2 X'⟩
                | cons a l => exact ⟨this.1, fun X' => this.2 X'⟩
            split at hr
            · split at hr
              · rename_i h1 hp
                simp only [Option.some.injEq, Prod.mk.injEq] at hr
                obtain ⟨rfl, rfl⟩ := hr
                exact ⟨_, pushAll_rep hH hp, fun X => (key X).mono fun v1 H1 hv => hv⟩
              · cases hr
            · rename_i k r
              split at hr
              · rename_i h1 hp
                simp only [Option.some.injEq, Prod.mk.injEq] at hr
                obtain ⟨rfl, rfl⟩ := hr
                refine ⟨_, pushAll_rep hH hp, fun X => (key X).mono fun v1 H1 hv => ?_⟩
                simp only [apOut] at hv
                rw [lenF_eq, Nat.zero_add, hH.1]
                exact hv
              · cases hr
          · cases hr
        · cases hr
      · cases hr
    · cases hr
  · cases hr

end Go.Rv

namespace Go.Rv
open Go.ChangeMaps (setBlock)

def keysBodyI (tm tk tf tb t0 : TypeId) : Code :=
  ((Code.region 0
            #[{ dst := some 4, op := Op.load tm (Operand.tmp 1), type := tm, pos := "iter.go:27", after := #[],
                guard := none },
              { dst := some 5, op := Op.range tm (Operand.tmp 4), type := t0, pos := "iter.go:27",
                after := #[{ on := 0, ground := Ground.data }], guard := none }]
            false).seq
        (Code.block 0
          ((Code.region 1
                  #[{ dst := some 6, op := Op.next (Operand.tmp 5) false, type := t0, pos := "iter.go:27", after := #[],
                      guard := none },
                    { dst := some 7, op := Op.extract (Operand.tmp 6) 0, type := tb, pos := "iter.go:27",
                      after := #[{ on := 0, ground := Ground.data }], guard := none }]
                  false).seq
              ((Code.cond (Operand.tmp 7) Code.skip (Code.exit 0)).seq
                (Code.block 1
                  ((Code.region 2
                          #[{ dst := some 8, op := Op.entry (Operand.tmp 5), type := t0, pos := "iter.go:27",
                              after := #[], guard := none },
                            { dst := some 9, op := Op.extract (Operand.tmp 8) 0, type := tk, pos := "iter.go:27",
                              after := #[{ on := 0, ground := Ground.data }], guard := none },
                            { dst := some 3, op := Op.assign (Operand.tmp 9), type := tk, pos := "iter.go:27",
                              after :=
                                #[{ on := 1, ground := Ground.data }, { on := 0, ground := Ground.phase },
                                  { on := 1, ground := Ground.phase }],
                              guard := none }]
                          false).seq
                    ((Code.region 3
                          #[{ dst := some 10, op := Op.move (Operand.tmp 0), type := tf, pos := "iter.go:28",
                              after := #[], guard := none },
                            { dst := some 11, op := Op.move (Operand.tmp 3), type := tk, pos := "iter.go:28",
                              after := #[], guard := none },
                            { dst := some 12,
                              op :=
                                Op.call
                                  { callee := Callee.value (Operand.tmp 10), args := #[Operand.tmp 11],
                                    argTypes := #[tk] },
                              type := tb, pos := "iter.go:28",
                              after := #[{ on := 0, ground := Ground.data }, { on := 1, ground := Ground.data }],
                              guard := none },
                            { dst := some 13, op := Op.unOp UnOp.not tb (Operand.tmp 12), type := tb, pos := "iter.go:28",
                              after := #[{ on := 2, ground := Ground.data }], guard := none }]
                          false).seq
                      (Code.cond (Operand.tmp 13) Code.ret Code.skip)))))).loop))

theorem step_assign {N : Num} {ro : Option Nat} {ops : Array Oper} {rest : List Oper} {o : Oper} {a : Act} {w : World} {Q : Exit → Act → World → Prop} {p : Operand} (hg : o.guard = none) (hop : o.op = .assign p) (h : wpListIn (Fn ro) 0 N.P ops Q rest (a.put o.dst (a.eval p)) w) :
    wpListIn (Fn ro) 0 N.P ops Q (o :: rest) a w :=
  step_op hg (by rw [hop]; intro c e; cases e) (.inl (by simp [execOp, hop])) h

section
variable {N : Num} {tm tk te tf tb t0 : TypeId}

set_option maxHeartbeats 400000 in
theorem keys_modelI {f : FuncId} {fn : Func} {args : Array Value} {R : Ending → World → Prop} (hfn : N.P.funcs[f]? = some fn) (hbody : fn.body = some (keysBodyI tm tk tf tb t0)) (hnt : fn.ntmps = 14) (hres : fn.results = #[])
    (ht : N.P.underlying tm = some (.map tk te)) (hgm : isAggT N.P tm = some false) (hsm : sizeT N.P tm = some 1) (htb : N.P.underlying tb = some .bool)
    {yv : Value} {w0 : World} {pb bm clk : Nat} {ents : Array MapEntry} (hcell : w0.cell? ⟨pb, 0, none⟩ = some (.map (some bm))) (hb : w0.heap[bm]? = some (.map ents clk))
    (hborn : ∀ x ∈ ents.toList, x.born < clk) (hpw : (ents.toList.map (·.born)).Pairwise (· < ·))
    (I : List MapEntry → World → Prop) (hI0 : I [] (w0.alloc (.mapIter (some bm) clk #[] clk)))
    (hI : ∀ done e w w4, I done w → e ∈ ents.toList → e ∉ done → Beside w0.heap.size w w4 →
      ∃ d : Deferred, (Deferred.ofValue yv [e.key].toArray).run N.P w4 = .ok d w4 ∧ UponG N (fun x w5 => x = .bool true ∧ I (done ++ [e]) w5 ∧ w5.heap[w0.heap.size]? = w4.heap[w0.heap.size]? ∧ w5.heap[bm]? = w4.heap[bm]? ∧ w4.heap.size ≤ w5.heap.size) ((invoke d.target d.args).run N.P w4))
    (hend : ∀ done w w', I done w → done.Perm ents.toList → Beside w0.heap.size w w' → R (.returned (.tuple #[])) w') :
    CallsIn (Fn none) 0 N.P f #[yv, .pointer (some ⟨pb, 0, none⟩)] w0 R := by
  have u1 := run_underlying ht
  have u2 := run_underlying htb
  have a1 := fun w => isAggT_run hgm w
  have z1 := fun w => sizeT_run hsm w
  refine callsIn_of_wp hfn hbody trivial ?_
  simp only [hnt, List.size_toArray, List.length_cons, List.length_nil, Nat.reduceAdd, Nat.reduceSub, Array.replicate_succ, Array.replicate_zero, List.push_toArray, List.append_toArray, List.nil_append, List.cons_append]
  have hld := load_one (N := N) (w := w0) hgm hsm hcell rfl
  unfold keysBodyI
  gi_wp2_with (first
    | (refine step_load rfl rfl rfl hld ?_)
    | (refine step_range rfl rfl rfl ht hb ?_))
  go_frame
  gi_loopw [3] (fun _ wr => ∃ (done : List MapEntry) (seen : Array Nat), done.Nodup ∧ (∀ x ∈ done, x ∈ ents.toList) ∧ seen.toList = done.map (·.born) ∧ wr.heap[w0.heap.size]? = some (.mapIter (some bm) clk seen clk) ∧ wr.heap[bm]? = some (.map ents clk) ∧ w0.heap.size < wr.heap.size ∧ I done wr)
    (fun _ wr => leftNo ents w0.heap.size wr)
  case atStart =>
    refine ⟨[], #[], List.nodup_nil, by simp, rfl, alloc_new _ _, ?_, by simp, hI0⟩
    simp only [World.alloc, Array.getElem?_push]; rw [if_neg (by have := heap_lt hb; omega)]; exact hb
  case round =>
    obtain ⟨done, seen, hnd, hsub, hseen, hr, hbr, hsz, hId⟩ := hrel
    refine wpIn_seq (wpIn_region_list ?_)
    refine step_next rfl rfl rfl hr hbr hborn (Nat.le_refl _) ?_ ?_
    · intro hl0
      refine step_extract rfl rfl rfl rfl ?_
      refine wpListIn_nil (wpIn_seq (wpIn_cond_false rfl (wpIn_exit ?_)))
      refine bodyPost_end (results_none hres _ _ _) rfl ?_
      have hndE : ents.toList.Nodup := List.Pairwise.of_map _ (fun a b h e => absurd h (by rw [e]; exact Nat.lt_irrefl _)) hpw
      have hinj : ∀ (l : List MapEntry), (l.map (·.born)).Pairwise (· < ·) → ∀ x ∈ l, ∀ y ∈ l, x.born = y.born → x = y := by
        intro l
        induction l with
        | nil => intro _ x hx; cases hx
        | cons u l ih =>
          intro hp x hx y hy e
          simp only [List.map_cons, List.pairwise_cons, List.mem_map, forall_exists_index, and_imp, forall_apply_eq_imp_iff₂] at hp
          rcases List.mem_cons.1 hx with rfl | hx' <;> rcases List.mem_cons.1 hy with rfl | hy'
          · rfl
          · have := hp.1 y hy'; omega
          · have := hp.1 x hx'; omega
          · exact ih hp.2 x hx' y hy' e
      have hperm : done.Perm ents.toList := (List.perm_ext_iff_of_nodup hnd hndE).2 fun {x} => Iff.intro (hsub x) fun hx => by
        have hz0 : leftOf ents seen = #[] := Array.eq_empty_of_size_eq_zero hl0
        have hin : x.born ∈ seen := by
          have h1 : x ∉ (leftOf ents seen).toList := by rw [hz0]; simp
          rcases Classical.em (x.born ∈ seen) with h2 | h2
          · exact h2
          · exact absurd (by simpa [leftOf, h2] using hx) h1
        have : x.born ∈ done.map (·.born) := by rw [← hseen]; simpa using hin
        obtain ⟨y, hy, hyb⟩ := List.mem_map.1 this
        exact hinj _ hpw y (hsub y hy) x hx hyb ▸ hy
      exact hend done wr wr hId hperm ⟨.refl _, Nat.le_refl _, fun _ _ _ => rfl⟩
    · intro e he w1 hw1
      have hr1 : (setBlock w1 w0.heap.size (.mapIter (some bm) clk (seen.push e.born) clk)).heap[w0.heap.size]? = some (.mapIter (some bm) clk (seen.push e.born) clk) := setBlk_same (by rw [hw1.heap]; exact hsz)
      have hb1 : (setBlock w1 w0.heap.size (.mapIter (some bm) clk (seen.push e.born) clk)).heap[bm]? = some (.map ents clk) := (setBlk_ne (by have := heap_lt hb; omega)).trans (by rw [hw1.heap]; exact hbr)
      have hB1 : Beside w0.heap.size wr (setBlock w1 w0.heap.size (.mapIter (some bm) clk (seen.push e.born) clk)) := ⟨⟨hw1.same.1, hw1.same.2.1, hw1.same.2.2⟩, by simp [setBlock, hw1.heap], fun b hb hne => (setBlk_ne hne).trans (by rw [hw1.heap])⟩
      have hsz1 : w0.heap.size < (setBlock w1 w0.heap.size (.mapIter (some bm) clk (seen.push e.born) clk)).heap.size := by simp [setBlock, hw1.heap, hsz]
      generalize setBlock w1 w0.heap.size (.mapIter (some bm) clk (seen.push e.born) clk) = w2 at *
      have hel : e ∈ ents.toList ∧ e.born ∉ seen := by simpa [leftOf] using he
      have hbn : (ents.toList.map (·.born)).Nodup := hpw.imp fun h => by omega
      have hnin : e ∉ done := fun h => hel.2 (by
        have : e.born ∈ seen.toList := by rw [hseen]; exact List.mem_map.2 ⟨e, h, rfl⟩
        simpa using this)
      have hlen : seen.size = done.length := by simpa using congrArg List.length hseen
      have hcall := hI done e wr _ hId hel.1 hnin hB1
      refine step_extract rfl rfl rfl rfl ?_
      refine wpListIn_nil (wpIn_seq (wpIn_cond_true rfl (wpIn_skip ?_)))
      go_frame
      refine wpIn_block (wpIn_seq (wpIn_region_list ?_))
      refine step_entry rfl rfl rfl hr1 hb1 hel.1 hbn ?_
      refine step_extract rfl rfl rfl rfl ?_
      refine step_assign rfl rfl ?_
      refine wpListIn_nil ?_
      change Code.wpIn _ _ _ _ _ _ _
      go_frame
      refine wpIn_seq (wpIn_region_list ?_)
      refine step_move rfl rfl ?_
      refine step_move rfl rfl ?_
      refine step_callK (fv := yv) (xv := e.key) rfl rfl rfl rfl hcall ?_
      rintro v w5 ⟨rfl, hI5, hr5, hb5, hs5⟩
      refine step_not (b := true) rfl rfl rfl ?_
      refine wpListIn_nil (wpIn_cond_false rfl (wpIn_skip ?_))
      go_frame
      go_roundw
      case' rel => skip
      · refine ⟨_, _, _, _, _, _, _, _, _, ⟨done ++ [e], seen.push e.born, ?_, ?_, ?_, ?_, ?_, ?_, hI5⟩, rfl⟩
        · exact List.nodup_append.2 ⟨hnd, by simp, fun a ha b hb hab => hnin (by simp at hb; rw [← hb, ← hab]; exact ha)⟩
        · intro x hx
          rcases List.mem_append.1 hx with hx | hx
          · exact hsub x hx
          · simp at hx; exact hx ▸ hel.1
        · simp [hseen]
        · rw [hr5]; exact hr1
        · rw [hb5]; exact hb1
        · exact Nat.lt_of_lt_of_le hsz1 hs5
      · have h5 : w5.heap[w0.heap.size]? = some (.mapIter (some bm) clk (seen.push e.born) clk) := by
          rw [hr5]; exact hr1
        have hlt : done.length < ents.size := by
          have : (done ++ [e]).length ≤ ents.toList.length := by
            refine nodup_length_le (List.nodup_append.2 ⟨hnd, by simp, fun a ha b hb hab => hnin (by simp at hb; rw [← hb, ← hab]; exact ha)⟩) fun x hx => ?_
            rcases List.mem_append.1 hx with hx | hx
            · exact hsub x hx
            · simp at hx; exact hx ▸ hel.1
          simp at this; omega
        simp only [leftNo, h5, hr, Array.size_push]
        omega
end
/-- What is known of a seat's maps.Keys iterator, keys of a plain kind. -/
structure KeysFnI (N : Num) (c : Nat) : Prop where
  at_ : ∃ (rf : FuncId) (fn : Func) (tm tk te tf tb t0 : TypeId), N.idx c = some rf ∧ N.P.funcs[rf]? = some fn ∧ fn.body = some (keysBodyI tm tk tf tb t0) ∧ (fn.name == "runtime.NumGoroutine") = false ∧ fn.ntmps = 14 ∧ fn.results = #[] ∧
    N.P.underlying tm = some (.map tk te) ∧ isAggT N.P tm = some false ∧ sizeT N.P tm = some 1 ∧ N.P.underlying tb = some .bool

/-- **maps.Keys' ITERATOR**: whatever J the rounds carry on, key by key: the keys come, each once, in some order. -/
theorem ACallV.keysIterI {N : Num} {c q id : Nat} (hF : KeysFnI N c) {H : AHeap} {es : List (AVal × AVal)} {y : AVal} (hq : H[q]? = some (.cells [.map id])) (hm : H[id]? = some (.map es))
    (J : List AVal → AHeap → Prop) (hJ0 : J [] H) (hJm : ∀ ks H', J ks H' → H'[id]? = some (.map es)) (keep : Nat → Prop) (hkid : keep id)
    (hstep : ∀ X ks k H', J ks H' → ks.length < es.length → k ∈ es.map (·.1) → ACallK (N.withX X) keep y [k] H' fun v H'' => v = .bool true ∧ J (ks ++ [k]) H'') :
    ACallV N (.func c [] [.ptr q 0]) [y] H fun v H' => ∃ ks, ks.Perm (es.map (·.1)) ∧ J ks H' := by
  obtain ⟨rf, fn, tm, tk, te, tf, tb, t0, hidx, hfn, hbody, hname, hnt, hres, ht, hgm, hsm, htb⟩ := hF.at_
  intro φ w f vs HH hf ha
  simp only [VRel, VsRel] at hf
  obtain ⟨rf', a, b, h1, rfl, ha0, hb0⟩ := hf
  have h1' : N.idx c = some rf' := h1
  rw [hidx] at h1'; cases h1'
  have ea : a = #[] := by cases a; simp_all
  subst ea
  obtain ⟨yv, rfl, hyv⟩ : ∃ yv, vs = [yv] ∧ VRel N.env φ w y yv := by
    cases vs with
    | nil => exact ha.elim
    | cons x vs => obtain ⟨h2, rfl⟩ := ha; exact ⟨x, rfl, h2⟩
  obtain ⟨lq, arr, el, fr, hlq, hgq, hbq, hvq, h1q, _⟩ := HH.cellsAt (get_some hq)
  obtain ⟨lm, ents, clk, hlm, hgm', hbm, hem, hborn, hbpw⟩ := HH.mapAt (get_some hm)
  obtain ⟨p, rfl, hpv⟩ : ∃ p, b = #[p] ∧ VRel N.env φ w (.ptr q 0) p := by
    cases hb : b.toList with
    | nil => rw [hb] at hb0; exact hb0.elim
    | cons p r =>
      rw [hb] at hb0
      obtain ⟨h3, rfl⟩ := hb0
      exact ⟨p, by apply Array.ext'; simp [hb], by simpa [VRel] using h3⟩
  have hpe : p = .pointer (some ⟨lq.blk, 0, none⟩) := by
    simp only [VRel, hlq] at hpv
    exact hpv.2 hgq
  subst hpe
  have hcell : w.cell? ⟨lq.blk, 0, none⟩ = some (.map (some lm.blk)) := by
    cases hl : arr.toList with
    | nil => rw [hl] at hvq; simp [VsRel] at hvq
    | cons y r =>
      rw [hl] at hvq
      simp only [VsRel] at hvq
      have : y = .map (some lm.blk) := by
        have := hvq.1
        simp only [VRel, hlm] at this
        exact this.2 hgm'
      subst this
      have : arr[0]? = some (.map (some lm.blk)) := by rw [← Array.getElem?_toList, hl]; rfl
      simp [World.cell?, hbq, this]
  have hlen := entsRel_length hem
  refine ⟨{ target := .fn (.func rf) #[.pointer (some ⟨lq.blk, 0, none⟩)], args := #[yv] }, by simp [Deferred.ofValue, pure, Sem.run], ?_⟩
  have hinv : (invoke (.fn (.func rf) #[.pointer (some ⟨lq.blk, 0, none⟩)]) #[yv]).run N.P w = .ok (.enter rf #[yv, .pointer (some ⟨lq.blk, 0, none⟩)]) w := by
    have hname' : fn.name ≠ "runtime.NumGoroutine" := by simpa using hname
    simp [invoke, callFunc, program, hfn, hbody, hname', pure, Sem.run]
  simp only [hinv, Upon]
  let r := w.heap.size
  let X : Nat → Prop := fun b => N.other b ∨ b = r
  have hX : (N.withX X).env.other r := .inr rfl
  have hcc : N.env.cc = (N.withX X).env.cc := (N.cc_withX X).symm
  have himm0 : ∀ {b}, Imm N.env φ w b → Imm (N.withX X).env φ w b := fun {b} hb => ⟨⟨hb.1.1, fun h => by
    rcases h with h | h
    · exact hb.1.2 h
    · have := hb.1.1; omega⟩, hb.2⟩
  have himmB : ∀ {φ w b}, Imm (N.withX X).env φ w b → Imm N.env φ w b := fun {φ w b} hb => ⟨⟨hb.1.1, fun h => hb.1.2 (.inl h)⟩, hb.2⟩
  have HX : HRel (N.withX X).env φ w (get H) := HRel.env (E1 := N.env) (E2 := (N.withX X).env) rfl hcc himm0 HH
  have hE0 : ∀ o, Beside r w (w.alloc o) := fun o => ⟨⟨rfl, rfl, rfl⟩, by simp, fun b hb hne => by simp only [World.alloc, Array.getElem?_push]; rw [if_neg (by omega)]⟩
  have hliveφ : ∀ i l, φ i = .live l → l.blk ≠ r := fun i l hl => by have := HH.blk hl; omega
  have hkeyR : ∀ x ∈ ents.toList, VRel N.env φ w (kof es ents.toList x) x.key ∧ kof es ents.toList x ∈ es.map (·.1) := kof_rel hem hbpw
  refine keys_modelI (N := N) (tm := tm) (tk := tk) (te := te) (tf := tf) (tb := tb) (t0 := t0) (args := #[]) hfn hbody hnt hres ht hgm hsm htb hcell hbm hborn hbpw
    (fun done w1 => ∃ H' φ', J (done.map (kof es ents.toList)) H' ∧ (done.Nodup ∧ ∀ x ∈ done, x ∈ ents.toList) ∧ HRel (N.withX X).env φ' w1 (get H') ∧ H.length ≤ H'.length ∧ Ext φ w φ' w1 ∧ φ' id = .live lm ∧ w1.heap[lm.blk]? = some (.map ents clk) ∧ (∀ i l, φ' i = .live l → l.blk ≠ r) ∧ r < w1.heap.size ∧ VRel (N.withX X).env φ' w1 y yv)
    ?_ ?_ ?_
  · refine ⟨H, φ, hJ0, ⟨List.nodup_nil, by simp⟩, HX.beside (hE0 _) hX hliveφ, Nat.le_refl _, (Ext.refl φ w).beside (hE0 _) (Nat.le_refl _), hlm, ?_, hliveφ, by simp [r], (VRel.env (E1 := N.env) (E2 := (N.withX X).env) rfl himm0 hyv).mono0 ((hE0 _).sub hX)⟩
    exact ((hE0 _).blk _ (heap_lt hbm) (by have := heap_lt hbm; omega)).trans hbm
  · rintro done e w1 w4 ⟨H', φ', hJ, ⟨hnd, hsub⟩, H1, hlH, hE1, hid, hb1, hr1, hs1, hy1⟩ he hne hB
    have hB' : Beside r w1 w4 := hB
    have H4 := H1.beside hB' hX hr1
    have hy4 := hy1.mono0 (hB'.sub hX)
    have hE4 := hE1.beside hB' (Nat.le_refl _)
    have hb4 : w4.heap[lm.blk]? = some (.map ents clk) := (hB'.blk _ (heap_lt hb1) (by have := heap_lt hbm; omega)).trans hb1
    have hes4 : EntsRel (N.withX X).env φ' w4 es ents.toList := by
      obtain ⟨l2, ents2, clk2, g1, g2, g3, g4, _⟩ := H4.mapAt (get_some (hJm _ _ hJ))
      rw [hid] at g1; cases g1
      rw [hb4] at g3; cases g3
      exact g4
    have hkey4 := kof_rel hes4 hbpw e he
    have hlt : (done.map (kof es ents.toList)).length < es.length := by
      have := nodup_length_le (l := done ++ [e]) (m := ents.toList) (List.nodup_append.2 ⟨hnd, by simp, fun a ha b hb hab => hne (by simp at hb; rw [← hb, ← hab]; exact ha)⟩) fun x hx => by
        rcases List.mem_append.1 hx with hx | hx
        · exact hsub x hx
        · simp at hx; exact hx ▸ he
      simp only [List.length_append, List.length_cons, List.length_nil, List.length_map] at this ⊢
      omega
    obtain ⟨d, hd, hU⟩ := hstep X _ _ H' hJ hlt hkey4.2 φ' w4 yv [e.key] H4 hy4 ⟨hkey4.1, rfl⟩
    refine ⟨d, hd, ?_⟩
    refine UponG.imp (N := N) hU ?_
    rintro x w5 ⟨v, H5, φ5, ⟨rfl, hJ5⟩, hl5, hv5, HH5, hE5, hkp⟩
    simp only [VRel] at hv5
    have hl := hkp id lm hkid hid
    have hrlt : r < w4.heap.size := Nat.lt_of_lt_of_le hs1 hB'.size
    refine ⟨hv5, ⟨H5, φ5, by simpa using hJ5, ⟨List.nodup_append.2 ⟨hnd, by simp, fun a ha b hb hab => hne (by simp at hb; rw [← hb, ← hab]; exact ha)⟩, ?_⟩, HH5, Nat.le_trans hlH hl5, hE4.trans hE5, hl.1, hl.2.trans hb4, ?_, Nat.lt_of_lt_of_le hrlt hE5.size, hy4.mono0 hE5.sub⟩, ?_, hl.2, hE5.size⟩
    · intro x hx
      rcases List.mem_append.1 hx with hx | hx
      · exact hsub x hx
      · simp at hx; exact hx ▸ he
    · intro i l hil hlr
      rcases hE5.fresh i l hil with ⟨id0, l0, a1, a2⟩ | h5
      · exact hr1 id0 l0 a1 (a2.trans hlr)
      · omega
    · exact hE5.keep r hrlt fun i l hil => hr1 i l hil
  · rintro done w1 w' ⟨H', φ', hJ, ⟨hnd, hsub⟩, H1, hlH, hE1, hid, hb1, hr1, hs1, hy1⟩ hperm hB
    have hB' : Beside r w1 w' := hB
    have H4 := H1.beside hB' hX hr1
    refine ⟨.tuple #[], rfl, .tuple [], H', φ', ⟨_, ?_, hJ⟩, hlH, by simp [VRel, VsRel], HRel.env (E1 := (N.withX X).env) (E2 := N.env) rfl hcc.symm himmB H4, hE1.beside hB' (Nat.le_refl _)⟩
    rw [← kof_map hlen hbpw]
    exact hperm.map _


end Go.Rv

namespace Go.Rv

/-! ### The rounds of AppendSeq, elements of one cell -/

def apAssignI : CCode := .region [⟨some 5, none, .move (.t 7)⟩]
def apOpsI (by_ : Nat) (z : AVal) : List COp :=
  [⟨some 8, none, .load false 1 (.t 2)⟩, ⟨some 9, none, .move (.t 5)⟩, ⟨some 10, none, .buildSlice 1 1 z [(0, .t 9)]⟩, ⟨some 11, none, .append 1 by_ (.t 8) (.t 10)⟩, ⟨none, none, .store 1 (.t 2) (.t 11)⟩]
def apBodyI (by_ : Nat) (z : AVal) : CCode := .block 1 (.region (apOpsI by_ z))

def apLoopI (by_ : Nat) (z : AVal) (B : Nat) (st : LoopState) : AObj := .loop st none (apTmps B) [7] apAssignI (apBodyI by_ z)

/-- A key of one cell, that holds no numbers. -/
def KeyOkI (k : AVal) : Prop := bndV 0 k = true ∧ k.sure = some [k]

theorem ap_round0I {N : Num} {by_ : Nat} {z k : AVal} (hz : z.cells.length = 1) (hc : KeyOkI k) (hb : by_ ≤ 70368744177664) :
    ACallV N (.yld 1) [k] [.cells [.nilSlice], apLoopI by_ z 0 .ready] fun v H' => v = .bool true ∧ H' = [.cells [.slice 3 0 0 1], apLoopI by_ z 0 .ready, .row 1 0 [k], .row 1 0 [k]] := by
  refine ACallV.yield (id := 1) (T := apTmps 0) (ps := [7]) (assign := apAssignI) (body := apBodyI by_ z) rfl rfl (CAT.of (ar := Ar.std) ?_)
  simp [apAssignI, apLoopI, apTmps, vc, vcOps, vcIns, guardOk, aopS_eq, putAll, put, aop, Eff.app, ev, AVal.sure]
  refine ⟨_, _, _, _, ⟨rfl, rfl, rfl, rfl⟩, CAT.of (ar := Ar.std) ?_⟩
  simp [apBodyI, apOpsI, vc, vcOps, vcIns, guardOk, aopS_eq, put, aop, Eff.app, ev, hc.2, hz, readAt, allSure, elemsOf, elemsS, liveR, splice, List.range_succ, hb]
  simp [AVal.sure, splice]
  exact ⟨_, _, _, _, ⟨rfl, rfl, rfl, rfl⟩, rfl, rfl, rfl, rfl⟩

theorem ap_roundSI {N : Num} {by_ g : Nat} {z k : AVal} {ks : List AVal} (hz : z.cells.length = 1) (hc : KeyOkI k) (hb : (ks.length + 1) * by_ ≤ 70368744177664) (hk : ks.length + 1 ≤ 70368744177664) :
    ACallV N (.yld 1) [k] [.cells [.slice 2 g 0 ks.length], apLoopI by_ z 0 .ready, .row 1 g ks] fun v H' => v = .bool true ∧ H' = [.cells [.slice 2 (g + 1) 0 (ks.length + 1)], apLoopI by_ z 0 .ready, .row 1 (g + 1) (ks ++ [k]), .row 1 0 [k]] := by
  refine ACallV.yield (id := 1) (T := apTmps 0) (ps := [7]) (assign := apAssignI) (body := apBodyI by_ z) rfl rfl (CAT.of (ar := Ar.std) ?_)
  simp [apAssignI, apLoopI, apTmps, vc, vcOps, vcIns, guardOk, aopS_eq, putAll, put, aop, Eff.app, ev, AVal.sure]
  refine ⟨_, _, _, _, ⟨rfl, rfl, rfl, rfl⟩, CAT.of (ar := Ar.std) ?_⟩
  simp [apBodyI, apOpsI, vc, vcOps, vcIns, guardOk, aopS_eq, put, aop, Eff.app, ev, hc.2, hz, readAt, allSure, elemsOf, elemsS, liveR, splice, List.range_succ, hb, hk]
  simp [AVal.sure, splice]
  exact ⟨_, _, _, _, ⟨rfl, rfl, rfl, rfl⟩, rfl, rfl, rfl, rfl⟩

/-! ### The call of AppendSeq -/

def apHeapI (by_ : Nat) (z : AVal) (H : AHeap) : List AVal → AHeap
  | [] => H ++ [.cells [.nilSlice], apLoopI by_ z H.length .ready]
  | k :: r => H ++ [.cells [.slice (H.length + 3) r.length 0 (r.length + 1)], apLoopI by_ z H.length .ready, .row 1 0 [k], .row 1 r.length (k :: r)]

theorem keysOkI_bnd : ∀ {l : List AVal}, (∀ k ∈ l, KeyOkI k) → bndL 0 l = true
  | [], _ => rfl
  | a :: l, h => by
    simp only [bndL, (h a (by simp)).1, Bool.true_and]
    exact keysOkI_bnd fun k hk => h k (by simp [hk])

theorem ap_stepI {N : Num} {by_ : Nat} {z : AVal} (hz : z.cells.length = 1) (H : AHeap) {ks : List AVal} {k : AVal} (hks : ∀ k ∈ ks, KeyOkI k) (hk : KeyOkI k) (hb : (ks.length + 1) * by_ ≤ 70368744177664) (hl : ks.length + 1 ≤ 70368744177664) :
    ACallK N (fun i => i < H.length) (.yld (H.length + 1)) [k] (apHeapI by_ z H ks) fun v H' => v = .bool true ∧ H' = apHeapI by_ z H (ks ++ [k]) := by
  have hcf : ∀ f, ren f k = k := fun f => ren_closed f hk.1
  have hc1 : ∀ f, renL f [k] = [k] := fun f => by simp only [renL, hcf]
  have hcm : ∀ m, bndV m k = true := fun m => bndV_mono (Nat.zero_le m) hk.1
  cases ks with
  | nil =>
    have := ACallV.frameK (N := N) (fv := .yld 1) (args := [k]) (H := apHeapI by_ z H []) (H0 := [.cells [.nilSlice], apLoopI by_ z 0 .ready]) (K := fun v H' => v = .bool true ∧ H' = apHeapI by_ z H [k]) [H.length, H.length + 1] ?_ ?_ ?_ ?_ fun X => (ap_round0I hz hk (by simpa using hb)).mono ?_
    · rw [hc1] at this
      have e : ren (nums [H.length, H.length + 1] (apHeapI by_ z H []).length) (.yld 1) = .yld (H.length + 1) := by simp [ren, nums]
      rw [e] at this
      exact this.mono (fun i hi => ⟨by simp [apHeapI]; omega, by simp; omega⟩) fun v H' h => by simpa using h
    · refine ⟨by simp, rfl, ?_⟩
      rintro (_ | _ | j) i o hj ho
      · simp at hj ho; subst hj ho; simp [apHeapI, renO, renL, ren]
      · simp at hj ho; subst hj ho; simp [apHeapI, apLoopI, apTmps, renO, renL, ren, nums, undefA]
      · simp at hj
    · simp [bndV]
    · simp [bndL, hcm]
    · simp [bndH, bndO, bndL, bndV, apLoopI, apTmps, undefA]
    · rintro v H' ⟨rfl, rfl⟩
      refine ⟨rfl, ?_⟩
      simp [glue, setAll, renH, renO, hc1, apHeapI, apLoopI, apTmps, undefA]
      simp [renL, ren, nums]
  | cons k0 r =>
    have hkb := keysOkI_bnd hks
    have hkm : ∀ m, bndL m (k0 :: r) = true := fun m => bndL_mono (Nat.zero_le m) hkb
    have hkf : ∀ f, renL f (k0 :: r) = k0 :: r := fun f => renL_closed f hkb
    have hrb : bndL 0 (r ++ [k]) = true := keysOkI_bnd fun k' hk' => by
      rcases List.mem_append.1 hk' with h | h
      · exact hks k' (by simp [h])
      · simp at h; exact h ▸ hk
    have hrd : ∀ X, ACallV (N.withX X) (.yld 1) [k] [.cells [.slice 2 r.length 0 (k0 :: r).length], apLoopI by_ z 0 .ready, .row 1 r.length (k0 :: r)] fun v H' => v = .bool true ∧ H' = [.cells [.slice 2 (r.length + 1) 0 ((k0 :: r).length + 1)], apLoopI by_ z 0 .ready, .row 1 (r.length + 1) (k0 :: r ++ [k])] := fun X => by
      refine ACallV.fgt ((ap_roundSI (g := r.length) hz hk hb hl).mono ?_)
      rintro v H' ⟨rfl, rfl⟩
      refine ⟨3, by simp, by simp, by simp [bndV], ?_, rfl, rfl⟩
      have h1 := hkm 3
      simp only [bndL, Bool.and_eq_true] at h1
      have h2 : bndL 3 (r ++ [k]) = true := bndL_mono (Nat.zero_le 3) hrb
      simp [bndH, bndO, bndL, bndV, apLoopI, apTmps, undefA, h1.1, h2]
    have := ACallV.frameK (N := N) (fv := .yld 1) (args := [k]) (H := apHeapI by_ z H (k0 :: r)) (H0 := [.cells [.slice 2 r.length 0 (k0 :: r).length], apLoopI by_ z 0 .ready, .row 1 r.length (k0 :: r)]) (K := fun v H' => v = .bool true ∧ H' = apHeapI by_ z H (k0 :: r ++ [k])) [H.length, H.length + 1, H.length + 3] ?_ ?_ ?_ ?_ fun X => (hrd X).mono ?_
    · rw [hc1] at this
      have e : ren (nums [H.length, H.length + 1, H.length + 3] (apHeapI by_ z H (k0 :: r)).length) (.yld 1) = .yld (H.length + 1) := by simp [ren, nums]
      rw [e] at this
      exact this.mono (fun i hi => ⟨by simp [apHeapI]; omega, by simp; omega⟩) fun v H' h => h
    · refine ⟨by simp, rfl, ?_⟩
      rintro (_ | _ | _ | j) i o hj ho
      · simp at hj ho; subst hj ho; simp [apHeapI, renO, renL, ren, nums]
      · simp at hj ho; subst hj ho; simp [apHeapI, apLoopI, apTmps, renO, renL, ren, nums, undefA]
      · simp at hj ho; subst hj ho; simp [apHeapI, renO, hkf]
      · simp at hj
    · simp [bndV]
    · simp [bndL, hcm]
    · have h1 := hkm 3
      simp only [bndL, Bool.and_eq_true] at h1
      simp [bndH, bndO, bndL, bndV, apLoopI, apTmps, undefA, h1.1, h1.2]
    · rintro v H' ⟨rfl, rfl⟩
      refine ⟨rfl, ?_⟩
      have h2 : ∀ f, renL f (k0 :: (r ++ [k])) = k0 :: (r ++ [k]) := fun f => renL_closed f (keysOkI_bnd fun k' hk' => by
        rcases List.mem_cons.1 hk' with rfl | hk'
        · exact hks _ (by simp)
        rcases List.mem_append.1 hk' with h | h
        · exact hks k' (by simp [h])
        · simp at h; exact h ▸ hk)
      simp [glue, setAll, renH, renO, ren, nums, apHeapI, apLoopI, apTmps, undefA, h2]
      simp [renL, ren, nums]

/-- The code of slices.AppendSeq. -/
def apFnI (by_ : Nat) (z : AVal) : CFunc where
  nparams := 2
  ntmps := 13
  results := [.tmp 4]
  body :=
    .seq (.region [⟨some 2, none, .box (.t 0)⟩, ⟨some 4, none, .move (.c .nilSlice)⟩]) (
    .seq (.seq (.region [⟨some 6, none, .move (.t 1)⟩]) (.block 0 (.rangeFunc (.t 6) [7] apAssignI (apBodyI by_ z)))) (
    .seq (.region [⟨some 12, none, .load false 1 (.t 2)⟩, ⟨some 4, none, .move (.t 12)⟩]) .ret))

/-- What comes: the keys in some order, in a row of its own (what the call has left beside it is no longer told of). -/
def apOutI (H : AHeap) (ks : List AVal) (v : AVal) (H' : AHeap) : Prop :=
  match ks with
  | [] => v = .nilSlice ∧ H' = H ++ [.dead, .dead]
  | k :: r => v = .slice (H.length + 3) r.length 0 (r.length + 1) ∧ H' = H ++ [.dead, .dead, .dead, .row 1 r.length (k :: r)]

def apValI (H : AHeap) : List AVal → AVal
  | [] => .nilSlice
  | _ :: r => .slice (H.length + 3) r.length 0 (r.length + 1)

theorem ACallV.appendKeysI {N : Num} {cA cK by_ q id : Nat} {z : AVal} {cfK : CFunc} (hA : HasFn N cA (apFnI by_ z)) (hF : KeysFnI N cK) (hFK : HasFn N cK cfK) (hz : z.cells.length = 1) {H : AHeap} {es : List (AVal × AVal)} (hq : H[q]? = some (.cells [.map id])) (hm : H[id]? = some (.map es))
    (hk : ∀ e ∈ es, KeyOkI e.1) (hb : es.length * by_ ≤ 70368744177664) (hl : es.length ≤ 70368744177664) :
    ACallV N (.func cA [] []) [.nilSlice, .func cK [] [.ptr q 0]] H fun v H' => ∃ ks, ks.Perm (es.map (·.1)) ∧ apOutI H ks v H' := by
  have hqlt := (List.getElem?_eq_some_iff.1 hq).1
  have hmlt := (List.getElem?_eq_some_iff.1 hm).1
  -- the walk, what it leaves still told
  have main : ACallV N (.func cA [] []) [.nilSlice, .func cK [] [.ptr q 0]] H fun v H' => ∃ ks, ks.Perm (es.map (·.1)) ∧ (∀ k ∈ ks, KeyOkI k) ∧ H' = (apHeapI by_ z H ks).set (H.length + 1) (.loop .exhausted none (apTmps H.length) [7] apAssignI (apBodyI by_ z)) ∧ v = apValI H ks := by
    refine ACallV.body hA ?_
    refine CAT.seq (CAT.of (ar := Ar.std) ?_)
    simp [apFnI, tmps0, vc, vcOps, vcIns, guardOk, aopS_eq, put, aop, Eff.app, ev, undefA, AVal.sure]
    refine CAT.seq (CAT.seq (CAT.of (ar := Ar.std) ?_))
    simp [vc, vcOps, vcIns, guardOk, aopS_eq, put, aop, Eff.app, ev]
    have e0 : H ++ [AObj.cells [AVal.nilSlice]] ++ [.loop .ready none (apTmps H.length) [7] apAssignI (apBodyI by_ z)] = apHeapI by_ z H [] := by simp [apHeapI, apLoopI]
    have e1 : (H ++ [AObj.cells [AVal.nilSlice]]).length = H.length + 1 := by simp
    refine CAT.block (CAT.rangeFuncJ (T1 := apTmps H.length) (by simp [LeL, apTmps, undefA]) hFK (first := []) (caps := [.ptr q 0]) rfl ?_)
    rw [e0, e1]
    have hkeyOk : ∀ k ∈ es.map (·.1), KeyOkI k := by
      intro k hkm
      obtain ⟨e, he, rfl⟩ := List.mem_map.1 hkm
      exact hk e he
    have iter := ACallV.keysIterI (N := N) hF (H := apHeapI by_ z H []) (es := es) (y := .yld (H.length + 1)) (q := q) (id := id)
      (by simp only [apHeapI]; rw [List.getElem?_append_left hqlt]; exact hq) (by simp only [apHeapI]; rw [List.getElem?_append_left hmlt]; exact hm)
      (fun ks H' => H' = apHeapI by_ z H ks ∧ ∀ k ∈ ks, KeyOkI k) ⟨rfl, by simp⟩
      (by rintro ks H' ⟨rfl, _⟩; cases ks <;> (simp only [apHeapI]; rw [List.getElem?_append_left hmlt]; exact hm))
      (fun i => i < H.length) hmlt ?_
    · refine iter.mono ?_
      rintro v H' ⟨ks, hperm, rfl, hks⟩
      have hlk : (apHeapI by_ z H ks)[H.length + 1]? = some (apLoopI by_ z H.length .ready) := by
        cases ks <;> simp [apHeapI]
      refine ⟨_, _, _, _, _, _, hlk, by simp, ?_⟩
      refine CAT.seq (CAT.of (ar := Ar.std) ?_)
      have hcl : ((apHeapI by_ z H ks).set (H.length + 1) (.loop .exhausted none (apTmps H.length) [7] apAssignI (apBodyI by_ z)))[H.length]? = some (.cells [apValI H ks]) := by
        rw [List.getElem?_set_ne (by omega)]
        cases ks <;> simp [apHeapI, apValI]
      simp [vc, vcOps, vcIns, guardOk, aopS_eq, put, aop, Eff.app, ev, hcl, readAt]
      refine CAT.of (ar := Ar.std) ?_
      simp [vc, Back, resAll, resA, resOne]
      exact ⟨ks, hperm, hks, rfl, rfl⟩
    · rintro X ks k H' ⟨rfl, hks⟩ hlt hkm
      have h1 : (ks.length + 1) * by_ ≤ 70368744177664 := Nat.le_trans (Nat.mul_le_mul_right _ hlt) hb
      refine (ap_stepI (N := N.withX X) hz H hks (hkeyOk k hkm) h1 (by omega)).mono (fun i h => h) ?_
      rintro v H' ⟨rfl, rfl⟩
      refine ⟨rfl, rfl, fun k' hk' => ?_⟩
      rcases List.mem_append.1 hk' with h | h
      · exact hks k' h
      · simp at h; exact h ▸ hkeyOk k hkm
  -- what is left beside it
  refine ACallV.kill (ACallV.kill (ACallV.kill (main.mono ?_)))
  rintro v H' ⟨ks, hperm, hks, rfl, rfl⟩
  cases ks with
  | nil =>
    refine ⟨H.length, Nat.le_refl _, by simp [apHeapI], H.length, Nat.le_refl _, by simp [apHeapI], H.length + 1, by omega, by simp [apHeapI], [], hperm, rfl, ?_⟩
    simp [apHeapI]
  | cons k r =>
    refine ⟨H.length, Nat.le_refl _, by simp [apHeapI], H.length + 1, by omega, by simp [apHeapI], H.length + 2, by omega, by simp [apHeapI], k :: r, hperm, rfl, ?_⟩
    simp [apHeapI]

/-- The code of slices.Sorted. -/
def sdFn (cC cT : Nat) : CFunc where
  nparams := 1
  ntmps := 9
  results := [.tmp 2]
  body := .seq (.region [⟨some 2, none, .move (.c .nilSlice)⟩]) (.seq (.region [⟨some 4, none, .move (.t 0)⟩, ⟨some 5, none, .call cC [.t 4]⟩, ⟨some 3, none, .move (.t 5)⟩]) (
    .seq (.region [⟨some 6, none, .move (.t 3)⟩, ⟨some 7, none, .call cT [.t 6]⟩]) (.seq (.region [⟨some 8, none, .move (.t 3)⟩, ⟨some 2, none, .move (.t 8)⟩]) .ret)))

theorem ACallV.collectKeysI {N : Num} {cC cA cK by_ q id : Nat} {z : AVal} {cfK : CFunc} (hC : HasFn N cC (coFn cA)) (hA : HasFn N cA (apFnI by_ z)) (hF : KeysFnI N cK) (hFK : HasFn N cK cfK) (hz : z.cells.length = 1) {H : AHeap} {es : List (AVal × AVal)} (hq : H[q]? = some (.cells [.map id])) (hm : H[id]? = some (.map es))
    (hk : ∀ e ∈ es, KeyOkI e.1) (hb : es.length * by_ ≤ 70368744177664) (hl : es.length ≤ 70368744177664) :
    ACallV N (.func cC [] []) [.func cK [] [.ptr q 0]] H fun v H' => ∃ ks, ks.Perm (es.map (·.1)) ∧ apOutI H ks v H' := by
  refine ACallV.body hC (CAT.of (ar := Ar.std) ?_)
  simp [coFn, tmps0, vc, vcOps, vcIns, guardOk, aopS_eq, put, aop, Eff.app, ev, undefA]
  refine (ACallV.appendKeysI hA hF hFK hz hq hm hk hb hl).mono ?_
  rintro v H' ⟨ks, h1, h2⟩
  simp [Back, resAll, resA, resOne]
  exact ⟨ks, by simpa using h1, h2⟩

/-- Sorted so, however they come. -/
def SortToI (N : Num) (cT : Nat) (ss : List AVal) : List AVal → Prop
  | [] => ss = [] ∧ ∀ X, ACallV (N.withX X) (.func cT [] []) [.nilSlice] [] fun _ H' => H' = []
  | k :: r => (ss.length = r.length + 1 ∧ bndL 0 ss = true) ∧ ∀ X, ACallV (N.withX X) (.func cT [] []) [.slice 0 r.length 0 (r.length + 1)] [AObj.row 1 r.length (k :: r)] fun _ H' => H' = [AObj.row 1 r.length ss]

theorem ACallV.sortedPlain {N : Num} {cS cT cC cA cK by_ q id : Nat} {z : AVal} {cfK : CFunc} (hS : HasFn N cS (sdFn cC cT)) (hC : HasFn N cC (coFn cA)) (hA : HasFn N cA (apFnI by_ z)) (hF : KeysFnI N cK) (hFK : HasFn N cK cfK) (hz : z.cells.length = 1) {H : AHeap} {es : List (AVal × AVal)} (hq : H[q]? = some (.cells [.map id])) (hm : H[id]? = some (.map es))
    (hk : ∀ e ∈ es, KeyOkI e.1) (hb : es.length * by_ ≤ 70368744177664) (hl : es.length ≤ 70368744177664) {ss : List AVal} (hss : ∀ ks, ks.Perm (es.map (·.1)) → SortToI N cT ss ks) :
    ACallV N (.func cS [] []) [.func cK [] [.ptr q 0]] H (apOutI H ss) := by
  refine ACallV.body hS (CAT.of (ar := Ar.std) ?_)
  simp [sdFn, tmps0, vc, vcOps, vcIns, guardOk, aopS_eq, put, aop, Eff.app, ev, undefA]
  refine (ACallV.collectKeysI hC hA hF hFK hz hq hm hk hb hl).mono ?_
  rintro v H' ⟨ks, h1, h2⟩
  have hto := hss ks h1
  have hkb : bndL 0 ks = true := keysOkI_bnd fun k hkm => by
    obtain ⟨e, he, rfl⟩ := List.mem_map.1 (h1.mem_iff.1 hkm)
    exact hk e he
  cases ks with
  | nil =>
    obtain ⟨rfl, rfl⟩ := h2
    obtain ⟨rfl, hto⟩ := hto
    have := ACallV.frame (N := N) (fv := .func cT [] []) (args := [.nilSlice]) (H := H ++ [.dead, .dead]) (H0 := []) (K := fun v H' => H' = H ++ [.dead, .dead]) [] ⟨by simp, rfl, by simp⟩ rfl (by simp [bndL, bndV]) rfl fun X => (hto X).mono fun v H' h => by subst h; simp [glue, setAll, renH]
    simp only [ren, renL] at this
    refine this.mono ?_
    rintro v H' rfl
    simp [Back, resAll, resA, resOne, apOutI]
  | cons k r =>
    obtain ⟨rfl, rfl⟩ := h2
    obtain ⟨⟨hlen, hsb⟩, hto⟩ := hto
    have hsn : ∃ k' r', ss = k' :: r' := by cases ss with
      | nil => simp at hlen
      | cons a b => exact ⟨a, b, rfl⟩
    obtain ⟨k', r', rfl⟩ := hsn
    have hrl : r'.length = r.length := by simpa using hlen
    have hkf : ∀ f, renL f (k :: r) = k :: r := fun f => renL_closed f hkb
    have hsf : ∀ f, renL f (k' :: r') = k' :: r' := fun f => renL_closed f hsb
    have := ACallV.frame (N := N) (fv := .func cT [] []) (args := [.slice 0 r.length 0 (r.length + 1)]) (H := H ++ [.dead, .dead, .dead, AObj.row 1 r.length (k :: r)]) (H0 := [AObj.row 1 r.length (k :: r)]) (K := fun v H' => H' = H ++ [.dead, .dead, .dead, AObj.row 1 r.length (k' :: r')]) [H.length + 3] ?_ rfl (by simp [bndL, bndV]) ?_ fun X => (hto X).mono ?_
    · simp only [ren, renL] at this
      have e : nums [H.length + 3] (H ++ [AObj.dead, .dead, .dead, AObj.row 1 r.length (k :: r)]).length 0 = H.length + 3 := by simp [nums]
      rw [e] at this
      refine this.mono ?_
      rintro v H' rfl
      simp [Back, resAll, resA, resOne, apOutI, hrl]
    · refine ⟨by simp, rfl, ?_⟩
      rintro (_ | j) i o hj ho
      · simp at hj ho; subst hj ho; simp [renO, hkf]
      · simp at hj
    · have h3 := bndL_mono (Nat.zero_le 1) hkb
      simp only [bndL, Bool.and_eq_true] at h3
      simp [bndH, bndO, bndL, h3.1, h3.2]
    · rintro v H' rfl
      simp [glue, setAll, renH, renO, hsf]

def keysI : List (AVal × AVal) → Option (List AVal)
  | [] => some []
  | (.int k m, _) :: l => (match keysI l with
    | some ks => some (.int k m :: ks)
    | none => none)
  | (.str s, _) :: l => (match keysI l with
    | some ks => some (.str s :: ks)
    | none => none)
  | _ :: _ => none

theorem keysI_spec : ∀ {es : List (AVal × AVal)} {ks : List AVal}, keysI es = some ks → es.map (·.1) = ks ∧ ∀ e ∈ es, KeyOkI e.1
  | [], ks, h => by simp only [keysI, Option.some.injEq] at h; subst h; simp
  | (a, v) :: l, ks, h => by
    cases a <;> simp only [keysI] at h <;> first | (cases h; done) | skip
    all_goals
      split at h
      · rename_i ks' h2
        simp only [Option.some.injEq] at h; subst h
        obtain ⟨g1, g2⟩ := keysI_spec h2
        refine ⟨by simp [g1], fun e he => ?_⟩
        rcases List.mem_cons.1 he with rfl | he
        · exact ⟨rfl, rfl⟩
        · exact g2 e he
      · cases h

noncomputable def sortsOneI (call : CallF) (cT : Nat) (ss : List AVal) : List AVal → Bool
  | [] => (match ss with
    | [] => callsF (call (.func cT [] []) [.nilSlice] ⟨0, .nil⟩) (.tuple []) []
    | _ => false)
  | k :: r => Nat.beq (lenF ss 0) (lenF (k :: r) 0) && (bndL 0 ss && callsF (call (.func cT [] []) [.slice 0 (lenF r 0) 0 (lenF (k :: r) 0)] (heapOf [AObj.row 1 (lenF r 0) (k :: r)])) (.tuple []) [AObj.row 1 (lenF r 0) ss])

theorem sortsOneI_ok {N : Num} {call : CallF} (hc : CallOkF N call) {cT : Nat} {ss ks : List AVal} (h : sortsOneI call cT ss ks = true) : SortToI N cT ss ks := by
  cases ks with
  | nil =>
    cases ss with
    | nil => exact ⟨rfl, fun X => (calls_sound hc h heapNil (Nat.le_refl _) X).mono fun _ _ h => h.2⟩
    | cons a l => cases h
  | cons k r =>
    simp only [sortsOneI, Bool.and_eq_true, lenF_eq, Nat.zero_add, List.length_cons] at h
    obtain ⟨h1, h2, h3⟩ := h
    exact ⟨⟨Nat.eq_of_beq_eq_true h1, h2⟩, fun X => (calls_sound hc h3 (heapOf_rep (by simp)) (by simp) X).mono fun _ _ h => h.2⟩

noncomputable def sortedOfI (call : CallF) (cT : Nat) : List AVal → Option (List AVal)
  | [] => some []
  | k :: r => (match call (.func cT [] []) [.slice 0 (lenF r 0) 0 (lenF (k :: r) 0)] (heapOf [AObj.row 1 (lenF r 0) (k :: r)]) with
    | some (_, h) => (match objF h 0 with
      | some (.row _ _ ss) => some ss
      | _ => none)
    | none => none)

/-- 'cK': the number of the iterator of maps.Keys; 'cT': of slices.SortFunc. -/
noncomputable def oSortedI (call : CallF) (cK cT by_ : Nat) : List AVal → FH → Option (AVal × FH)
  | [.func c [] [.ptr q 0]], h => (match Nat.beq c cK, objF h q with
    | true, some (.cells [.map id]) => (match objF h id with
      | some (.map es) => (match keysI es, sortedOfI call cT (es.map (·.1)) with
        | some ks, some ss => (match Nat.ble (Nat.mul (lenF es 0) (Nat.succ by_)) 100000 && (perms ks).all (sortsOneI call cT ss) with
          | true => (match ss with
            | [] => (match pushAll [.dead, .dead] h with
              | some h' => some (.nilSlice, h')
              | none => none)
            | k :: r => (match pushAll [.dead, .dead, .dead, AObj.row 1 (lenF r 0) (k :: r)] h with
              | some h' => some (.slice (Nat.add h.n 3) (lenF r 0) 0 (Nat.succ (lenF r 0)), h')
              | none => none))
          | false => none)
        | _, _ => none)
      | _ => none)
    | _, _ => none)
  | _, _ => none

theorem oSortedI_ok {N : Num} {call : CallF} (hcall : CallOkF N call) {cS cT cC cA cK by_ : Nat} {z : AVal} {cfK : CFunc} (hS : HasFn N cS (sdFn cC cT)) (hC : HasFn N cC (coFn cA)) (hA : HasFn N cA (apFnI by_ z)) (hF : KeysFnI N cK) (hFK : HasFn N cK cfK) (hz : z.cells.length = 1) :
    EntOk N cS (.orc (oSortedI call cK cT by_)) := by
  refine ⟨fun _ _ _ _ _ => ⟨_, hS⟩, fun args h v h' hr H hH => ?_⟩
  unfold oSortedI at hr
  split at hr
  · rename_i c q
    split at hr
    · rename_i id hc hq
      have hcK := Nat.eq_of_beq_eq_true hc
      subst hcK
      rw [objF_eq hH] at hq
      split at hr
      · rename_i es hm
        rw [objF_eq hH] at hm
        split at hr
        · rename_i ks ss hks _
          obtain ⟨g1, g2⟩ := keysI_spec hks
          split at hr
          · rename_i hall
            simp only [Bool.and_eq_true] at hall
            have hle := ble_iff.1 hall.1
            rw [lenF_eq, Nat.zero_add] at hle
            have hle' : es.length * (by_ + 1) ≤ 100000 := hle
            have hle1 : es.length * by_ ≤ es.length * (by_ + 1) := Nat.mul_le_mul_left _ (Nat.le_succ _)
            have hle2 : es.length * 1 ≤ es.length * (by_ + 1) := Nat.mul_le_mul_left _ (by omega)
            have key : ∀ X, ACallV (N.withX X) (.func cS [] []) [.func c [] [.ptr q 0]] H (apOutI H ss) := fun X =>
              ACallV.sortedPlain (N := N.withX X) (hS.withX X) (hC.withX X) (hA.withX X) ⟨hF.at_⟩ (hFK.withX X) hz hq hm g2 (by omega) (by omega) fun p hp => by
                have := sortsOneI_ok hcall (List.all_eq_true.1 hall.2 p (perms_mem (by rw [g1] at hp; exact hp)))
                cases p with
                | nil => exact ⟨this.1, fun X' => this.2 X'⟩
                | cons a l => exact ⟨this.1, fun X' => this.2 X'⟩
            split at hr
            · split at hr
              · rename_i h1 hp
                simp only [Option.some.injEq, Prod.mk.injEq] at hr
                obtain ⟨rfl, rfl⟩ := hr
                exact ⟨_, pushAll_rep hH hp, fun X => (key X).mono fun v1 H1 hv => hv⟩
              · cases hr
            · rename_i k r
              split at hr
              · rename_i h1 hp
                simp only [Option.some.injEq, Prod.mk.injEq] at hr
                obtain ⟨rfl, rfl⟩ := hr
                refine ⟨_, pushAll_rep hH hp, fun X => (key X).mono fun v1 H1 hv => ?_⟩
                simp only [apOutI] at hv
                rw [lenF_eq, Nat.zero_add, hH.1]
                exact hv
              · cases hr
          · cases hr
        · cases hr
      · cases hr
    · cases hr
  · cases hr


end Go.Rv
