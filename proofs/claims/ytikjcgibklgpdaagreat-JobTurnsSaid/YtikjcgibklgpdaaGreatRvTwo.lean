/-
  RvJ: '==' of bools and against nil, of structs; conversions; strings; slices; fields.
  RvK: conversions, strings, slices, fields, indexes, lengths: the model's operation does what 'aop' says.
  RvL: indexes, slices of slices, tuples, lengths, least and greatest, maps read.
  RvM: maps: look-up, store, delete: the model's operation does what 'aop' says.
  RvN: maps: look-up, store, delete: the model's operation does what 'aop' says.
  RvO: slices of strings and rows; slices built and made: the model's operation does what 'aop' says.
  RvP: rows made, grown and copied: the model's operation does what 'aop' says.
  RvQ: **EVERY OPERATION THAT IS SERVED DOES WHAT 'aop' SAYS.**
  RvQs: what an operation does, with its tests and its list operations behind a name ('Ar'): so that an evaluation stops at them where they are not decided.
-/
import Derived.Test.YtikjcgibklgpdaaGreatRvOne
import Derived.Laws.StructEq
import Derived.Laws.Append
set_option linter.unusedSimpArgs false
set_option linter.unusedVariables false
set_option linter.unusedSectionVars false

namespace Go.Rv

/-- Bools, pointers, slices, maps. -/
def plainV : Value → Bool
  | .bool _ | .pointer _ | .slice _ _ _ | .map _ => true
  | _ => false

theorem run_eql_other {P : Program} {w w' : World} {t : TypeId} {x y : Value} {r : Bool} (h : (Op.equal t x y).run P w = .ok r w') (h1 : plainV x = true) (h2 : plainV y = true) :
    (Go.binOp .eql t x y).run P w = .ok (.bool r) w' ∧ (Go.binOp .neq t x y).run P w = .ok (.bool (!r)) w' := by
  cases x <;> first | (simp [plainV] at h1; done) | skip
  all_goals (cases y <;> first | (simp [plainV] at h2; done) | (constructor <;> simp [Go.binOp, h]))

theorem equal_succ (t : TypeId) (x y : Value) : Op.equal t x y = Op.equalIn (9999 + 1) t x y := rfl

section
variable {P : Program} {w : World} {t : TypeId} (d : Nat)
theorem eqI_bool (hk : P.underlying t = some .bool) (a b : Bool) : (Op.equalIn (d + 1) t (.bool a) (.bool b)).run P w = .ok (a == b) w := by simp [Op.equalIn, run_underlying hk]
theorem eqI_ptr {p : TypeId} (hk : P.underlying t = some (.pointer p)) (a : Option Addr) : (Op.equalIn (d + 1) t (.pointer a) (.pointer none)).run P w = .ok a.isNone w := by
  cases a <;> simp [Op.equalIn, run_underlying hk]
theorem eqI_slice {p : TypeId} (hk : P.underlying t = some (.slice p)) (a : Option Addr) (n m : Nat) : (Op.equalIn (d + 1) t (.slice a n m) (.slice none 0 0)).run P w = .ok a.isNone w := by
  cases a <;> simp [Op.equalIn, run_underlying hk]
theorem eqI_map {p q : TypeId} (hk : P.underlying t = some (.map p q)) (a : Option Nat) : (Op.equalIn (d + 1) t (.map a) (.map none)).run P w = .ok a.isNone w := by
  cases a <;> simp [Op.equalIn, run_underlying hk]
end

theorem binK_does {N : Num} {φ : Phi} {w : World} {T : List AVal} {Hp : AHeap} {nxt : Nat} {wr : IntKind → Int → Int} {x y : Operand} {op : BinOp} {t u : TypeId} {ρ : Operand → Value} {o : Oper} {a b : Opd} {k : BK} {v : AVal} {e : Eff}
    (ho : o.op = .binOp op t x y u) (hx : VRel N.env φ w (ev T a) (ρ x)) (hy : VRel N.env φ w (ev T b) (ρ y)) (H : HRel N.env φ w (get Hp))
    (hk : match k with
      | .bool => N.P.underlying t = some .bool
      | .ptr => ∃ p, N.P.underlying t = some (.pointer p)
      | .slice => ∃ p, N.P.underlying t = some (.slice p)
      | .map => ∃ p q, N.P.underlying t = some (.map p q))
    (h : aop wr nxt (.binK k op a b) T Hp = some (v, e)) : Does N.env φ w (get Hp) nxt (execOp ρ o) v e := by
  simp only [aop] at h
  split at h
  · rename_i r hr
    have key : ∀ X Y, ρ x = X → ρ y = Y → plainV X = true → plainV Y = true →
        (Op.equalIn (9999 + 1) t X Y).run N.P w = .ok r w → Does N.env φ w (get Hp) nxt (execOp ρ o) v e := by
      rintro X Y rfl rfl h1 h2 he
      obtain ⟨q1, q2⟩ := run_eql_other (P := N.P) (w := w) (w' := w) (t := t) (x := ρ x) (y := ρ y) (r := r) (by rw [equal_succ]; exact he) h1 h2
      have hg := eqGuard_one (P := N.P) (w := w) (op := op) (t := t) (x := x) (y := y) (a := ρ x) (b := ρ y) (by intro c hc; rw [hc.1] at h1; simp [plainV] at h1) (fun hh => by rw [hh.1] at h1; simp [plainV] at h1)
      split at h
      · simp only [Option.some.injEq, Prod.mk.injEq] at h
        obtain ⟨rfl, rfl⟩ := h
        refine Does.calm H (x := .bool r) ?_ rfl
        simp [execOp, ho, hg, q1]
      · simp only [Option.some.injEq, Prod.mk.injEq] at h
        obtain ⟨rfl, rfl⟩ := h
        refine Does.calm H (x := .bool (!r)) ?_ rfl
        simp [execOp, ho, hg, q2]
      · cases h
    unfold eqK at hr
    split at hr
    · rename_i p q e1 e2
      simp only [Option.some.injEq] at hr; subst hr
      rw [e1] at hx; rw [e2] at hy
      simp only [VRel] at hx hy
      exact key _ _ hx hy rfl rfl (eqI_bool _ hk _ _)
    · rename_i e1 e2
      simp only [Option.some.injEq] at hr; subst hr
      rw [e1] at hx; rw [e2] at hy
      simp only [VRel] at hx hy
      obtain ⟨p, hk⟩ := hk
      exact key _ _ hx hy rfl rfl (eqI_ptr _ hk _)
    · rename_i id off e1 e2
      cases hc : liveC Hp id with
      | false => simp [hc] at hr
      | true =>
        simp only [hc, cond_true, Option.some.injEq] at hr; subst hr
        rw [e1] at hx; rw [e2] at hy
        simp only [VRel] at hy
        obtain ⟨l, hl, hg⟩ := liveC_at H hc
        obtain ⟨p, hk⟩ := hk
        exact key _ _ (ptr_form hx hl hg) hy rfl rfl (eqI_ptr _ hk _)
    · rename_i id gen i off e1 e2
      cases hc : liveG Hp id gen with
      | false => simp [hc] at hr
      | true =>
        simp only [hc, cond_true, Option.some.injEq] at hr; subst hr
        rw [e1] at hx; rw [e2] at hy
        simp only [VRel] at hy
        obtain ⟨l, hl, hg⟩ := liveG_at H hc
        obtain ⟨p, hk⟩ := hk
        exact key _ _ (eptr_form hx hl hg) hy rfl rfl (eqI_ptr _ hk _)
    · rename_i cs e1 e2
      simp only [Option.some.injEq] at hr; subst hr
      rw [e1] at hx; rw [e2] at hy
      simp only [VRel] at hx hy
      obtain ⟨b0, o0, vs, hx, _⟩ := hx
      obtain ⟨p, hk⟩ := hk
      exact key _ _ hx hy rfl rfl (eqI_ptr _ hk _)
    · rename_i e1 e2
      simp only [Option.some.injEq] at hr; subst hr
      rw [e1] at hx; rw [e2] at hy
      simp only [VRel] at hx hy
      obtain ⟨p, hk⟩ := hk
      exact key _ _ hx hy rfl rfl (eqI_slice _ hk _ _ _)
    · rename_i id gen off len e1 e2
      cases hc : liveG Hp id gen with
      | false => simp [hc] at hr
      | true =>
        simp only [hc, cond_true, Option.some.injEq] at hr; subst hr
        rw [e1] at hx; rw [e2] at hy
        simp only [VRel] at hy
        obtain ⟨l, hl, hg⟩ := liveG_at H hc
        obtain ⟨a0, cap, hx, _⟩ := slice_form hx hl hg
        obtain ⟨p, hk⟩ := hk
        exact key _ _ hx hy rfl rfl (eqI_slice _ hk _ _ _)
    · rename_i sz es e1 e2
      simp only [Option.some.injEq] at hr; subst hr
      rw [e1] at hx; rw [e2] at hy
      simp only [VRel] at hx hy
      obtain ⟨a0, cap, hx, _⟩ := hx
      obtain ⟨p, hk⟩ := hk
      exact key _ _ hx hy rfl rfl (eqI_slice _ hk _ _ _)
    · rename_i e1 e2
      simp only [Option.some.injEq] at hr; subst hr
      rw [e1] at hx; rw [e2] at hy
      simp only [VRel] at hx hy
      obtain ⟨p, q, hk⟩ := hk
      exact key _ _ hx hy rfl rfl (eqI_map _ hk _)
    · rename_i id e1 e2
      cases hc : liveM Hp id with
      | false => simp [hc] at hr
      | true =>
        simp only [hc, cond_true, Option.some.injEq] at hr; subst hr
        rw [e1] at hx; rw [e2] at hy
        simp only [VRel] at hy
        obtain ⟨l, hl, hg⟩ := liveM_at H hc
        obtain ⟨p, q, hk⟩ := hk
        exact key _ _ (map_form hx hl hg) hy rfl rfl (eqI_map _ hk _)
    · cases hr
  · cases h

/-- '==' of flat cells, as the model runs it. -/
theorem eqF_run {P : Program} {w : World} {E : Env} {φ : Phi} {t : TypeId} {f : FK} {a b : AVal} {x y : Value} {r : Bool} (hf : flatT P t = some f) (h : eqF f a b = some r)
    (hx : VRel E φ w a x) (hy : VRel E φ w b y) (d : Nat) : (Op.equalIn (d + 1) t x y).run P w = .ok r w := by
  unfold eqF at h
  split at h
  · rename_i k p k' q
    split at h
    · rename_i hk; subst hk
      simp only [Option.some.injEq] at h; subst h
      simp only [VRel] at hx hy; subst hx hy
      have : ∃ k0, P.underlying t = some (.int k0) := by
        simp only [flatT] at hf; split at hf <;> simp_all
      obtain ⟨k0, hu⟩ := this
      exact run_equalIn_int w d t k k0 p q hu
    · cases h
  · rename_i p q
    simp only [Option.some.injEq] at h; subst h
    simp only [VRel] at hx hy
    obtain ⟨ba, rfl, rfl⟩ := hx
    obtain ⟨bb, rfl, rfl⟩ := hy
    have hu : P.underlying t = some .string := by
      simp only [flatT] at hf; split at hf <;> simp_all
    rw [run_equalIn_string w d t ba bb hu, ByteArray.toList_eq, ByteArray.toList_eq, map_toNat_beq]
  · rename_i p q
    simp only [Option.some.injEq] at h; subst h
    simp only [VRel] at hx hy; subst hx hy
    have hu : P.underlying t = some .bool := by
      simp only [flatT] at hf; split at hf <;> simp_all
    exact run_equalIn_bool' w d t p q hu
  · cases h

theorem flatT_part {P : Program} {w : World} {t : TypeId} {f : FK} (hf : flatT P t = some f) {xs : Array Value} {i : Nat} {v : Value} (h : xs[i]? = some v) : (part t xs i).run P w = .ok v w := by
  have : isAggT P t = some false := by
    simp only [flatT] at hf
    simp only [isAggT]
    split at hf <;> simp_all
  simp [part, isAggT_run this, h, pure, Sem.run]

theorem eqFs_run {P : Program} {w : World} {E : Env} {φ : Phi} (d : Nat) {xs ys : Array Value} : ∀ (fs : List Field) (k : Nat) (ks : List FK) (as bs : List AVal) (r : Bool), flatFields P fs k = some ks →
    eqFs ks as bs = some r → VsRel E φ w as (xs.toList.drop k) → VsRel E φ w bs (ys.toList.drop k) → (Op.eqFields (d + 1) xs ys fs).run P w = .ok r w
  | [], k, ks, as, bs, r, hf, h, _, _ => by
    simp only [flatFields, Option.some.injEq] at hf; subst hf
    have : r = true := by
      cases as <;> cases bs <;> simp [eqFs] at h
      exact h
    subst this
    simp [Op.eqFields, pure, Sem.run]
  | f :: fs, k, ks, as, bs, r, hf, h, hx, hy => by
    simp only [flatFields] at hf
    split at hf
    · rename_i x l hx1 hl
      split at hf
      · rename_i hcond
        obtain ⟨hname, hoff⟩ := hcond
        simp only [Option.some.injEq] at hf; subst hf
        cases as with
        | nil => simp [eqFs] at h
        | cons a as =>
          cases bs with
          | nil => simp [eqFs] at h
          | cons b bs =>
            obtain ⟨va, hva, hra⟩ := hx.get (i := 0) rfl
            obtain ⟨vb, hvb, hrb⟩ := hy.get (i := 0) rfl
            rw [List.getElem?_drop] at hva hvb
            simp only [eqFs] at h
            have ga : xs[f.offset]? = some va := by rw [hoff]; simpa using hva
            have gb : ys[f.offset]? = some vb := by rw [hoff]; simpa using hvb
            have pa := flatT_part (w := w) hx1 ga
            have pb := flatT_part (w := w) hx1 gb
            have hx' := hx.drop 1
            have hy' := hy.drop 1
            simp only [List.drop_succ_cons, List.drop_zero, List.drop_drop] at hx' hy'
            split at h
            · rename_i he
              have := eqF_run hx1 he hra hrb d
              have ih := eqFs_run d fs (k + 1) l as bs r hl h (by simpa [Nat.add_comm] using hx') (by simpa [Nat.add_comm] using hy')
              simp [Op.eqFields, hname, pa, pb, this, ih]
            · rename_i he
              simp only [Option.some.injEq] at h; subst h
              have := eqF_run hx1 he hra hrb d
              simp [Op.eqFields, hname, pa, pb, this, pure, Sem.run]
            · cases h
      · cases hf
    · cases hf

theorem flatStruct_at {P : Program} {t : TypeId} {ks : List FK} (h : flatStruct P t = some ks) : ∃ fs, P.underlying t = some (.struct fs) ∧ P.stoodInHeld t = false ∧ P.eqGuardType P.depth t = false ∧ flatFields P fs.toList 0 = some ks := by
  simp only [flatStruct] at h
  split at h
  · rename_i fs hu
    split at h
    · rename_i hc; exact ⟨fs, hu, hc.1, hc.2, h⟩
    · cases h
  · cases h

theorem eqAgg_run {P : Program} {w : World} {E : Env} {φ : Phi} {t : TypeId} {ks : List FK} {as bs : List AVal} {xs ys : Array Value} {r : Bool} (hs : flatStruct P t = some ks) (h : eqFs ks as bs = some r)
    (hx : VsRel E φ w as xs.toList) (hy : VsRel E φ w bs ys.toList) (d : Nat) : (Op.equalIn (d + 2) t (.agg xs) (.agg ys)).run P w = .ok r w := by
  obtain ⟨fs, hu, h1, h2, h3⟩ := flatStruct_at hs
  have hu' : P.underlying t = some (.struct (P.fieldsOf t)) := by simp [Program.fieldsOf, hu]
  have hfo : P.fieldsOf t = fs := by simp [Program.fieldsOf, hu]
  rw [run_equalIn_struct w (d + 1) t xs ys hu' h1, hfo]
  exact eqFs_run d fs.toList 0 ks as bs r h3 h (by simpa using hx) (by simpa using hy)

theorem eqAgg_does {N : Num} {φ : Phi} {w : World} {T : List AVal} {Hp : AHeap} {nxt : Nat} {wr : IntKind → Int → Int} {x y : Operand} {op : BinOp} {t u : TypeId} {ρ : Operand → Value} {o : Oper} {a b : Opd} {ks : List FK} {neg : Bool} {v : AVal} {e : Eff}
    (ho : o.op = .binOp op t x y u) (hop : op = if neg then .neq else .eql) (hs : flatStruct N.P t = some ks) (hx : VRel N.env φ w (ev T a) (ρ x)) (hy : VRel N.env φ w (ev T b) (ρ y)) (H : HRel N.env φ w (get Hp))
    (h : aop wr nxt (.eqAgg neg ks a b) T Hp = some (v, e)) : Does N.env φ w (get Hp) nxt (execOp ρ o) v e := by
  simp only [aop] at h
  split at h
  · rename_i as bs e1 e2
    rw [e1] at hx; rw [e2] at hy
    simp only [VRel] at hx hy
    obtain ⟨xs, hx, hxs, _⟩ := hx
    obtain ⟨ys, hy, hys, _⟩ := hy
    split at h
    · rename_i r hr
      simp only [Option.some.injEq, Prod.mk.injEq] at h
      obtain ⟨rfl, rfl⟩ := h
      obtain ⟨fs, hu, h1, h2, h3⟩ := flatStruct_at hs
      have he := eqAgg_run (E := N.env) (φ := φ) hs hr hxs hys 9998
      cases neg with
      | false =>
        simp only [Bool.false_eq_true, if_false] at hop; subst hop
        refine Does.calm H (x := .bool r) ?_ rfl
        simp [execOp, ho, hx, hy, run_eqGuard_agg, h2, run_eql_struct, he]
      | true =>
        simp only [if_true] at hop; subst hop
        refine Does.calm H (x := .bool (!r)) ?_ rfl
        simp [execOp, ho, hx, hy, run_eqGuard_agg, h2, run_neq_struct, he]
    · cases h
  · cases h

end Go.Rv

namespace Go.Rv

section
variable {N : Num} {φ : Phi} {w : World} {T : List AVal} {Hp : AHeap} {nxt : Nat} {wr : IntKind → Int → Int} {ρ : Operand → Value} {o : Oper} {v : AVal} {e : Eff}

theorem move_does {x : Operand} {a : Opd} (ho : o.op = .move x ∨ o.op = .assign x) (hx : VRel N.env φ w (ev T a) (ρ x)) (H : HRel N.env φ w (get Hp)) (h : aop wr nxt (.move a) T Hp = some (v, e)) :
    Does N.env φ w (get Hp) nxt (execOp ρ o) v e := by
  simp only [aop, Option.some.injEq, Prod.mk.injEq] at h
  obtain ⟨rfl, rfl⟩ := h
  refine Does.calm H (x := ρ x) ?_ hx
  rcases ho with ho | ho <;> simp [execOp, ho, pure, Sem.run]

theorem pick_does {x y z : Operand} {a b c : Opd} (ho : o.op = .pick x y z) (hx : VRel N.env φ w (ev T a) (ρ x)) (hy : VRel N.env φ w (ev T b) (ρ y)) (hz : VRel N.env φ w (ev T c) (ρ z))
    (H : HRel N.env φ w (get Hp)) (h : aop wr nxt (.pick a b c) T Hp = some (v, e)) : Does N.env φ w (get Hp) nxt (execOp ρ o) v e := by
  simp only [aop] at h
  split at h
  · rename_i t et
    rw [et] at hx
    simp only [VRel] at hx
    cases t with
    | true =>
      simp only [Option.some.injEq, Prod.mk.injEq] at h
      obtain ⟨rfl, rfl⟩ := h
      exact Does.calm H (x := ρ y) (by simp [execOp, ho, hx, asBool, pure, Sem.run]) hy
    | false =>
      simp only [Option.some.injEq, Prod.mk.injEq] at h
      obtain ⟨rfl, rfl⟩ := h
      exact Does.calm H (x := ρ z) (by simp [execOp, ho, hx, asBool, pure, Sem.run]) hz
  · cases h

theorem not_does {x : Operand} {t : TypeId} {a : Opd} (ho : o.op = .unOp .not t x) (hx : VRel N.env φ w (ev T a) (ρ x)) (H : HRel N.env φ w (get Hp)) (h : aop wr nxt (.not a) T Hp = some (v, e)) :
    Does N.env φ w (get Hp) nxt (execOp ρ o) v e := by
  simp only [aop] at h
  split at h
  · rename_i b eb
    rw [eb] at hx
    simp only [VRel] at hx
    simp only [Option.some.injEq, Prod.mk.injEq] at h
    obtain ⟨rfl, rfl⟩ := h
    exact Does.calm H (x := .bool (!b)) (by simp [execOp, ho, hx, Op.unary, pure, Sem.run]) rfl
  · cases h

theorem conv_does {x : Operand} {s d : TypeId} {k ks : IntKind} {a : Opd} (ho : o.op = .convert s d x) (hs : N.P.underlying s = some (.int ks)) (hd : N.P.underlying d = some (.int k)) (hx : VRel N.env φ w (ev T a) (ρ x))
    (H : HRel N.env φ w (get Hp)) (h : aop IntKind.wrap nxt (.conv k a) T Hp = some (v, e)) : Does N.env φ w (get Hp) nxt (execOp ρ o) v e := by
  simp only [aop] at h
  split at h
  · rename_i k' n eb
    rw [eb] at hx
    simp only [VRel] at hx
    simp only [Option.some.injEq, Prod.mk.injEq] at h
    obtain ⟨rfl, rfl⟩ := h
    exact Does.calm H (x := .int k (k.wrap n)) (by simp [execOp, ho, hx, convert, run_underlying hs, run_underlying hd, Conv.intToInt, pure, Sem.run]) rfl
  · cases h

theorem strId_does {x : Operand} {s d : TypeId} {a : Opd} (ho : o.op = .convert s d x) (hs : N.P.underlying s = some .string) (hd : N.P.underlying d = some .string) (hx : VRel N.env φ w (ev T a) (ρ x))
    (H : HRel N.env φ w (get Hp)) (h : aop wr nxt (.strId a) T Hp = some (v, e)) : Does N.env φ w (get Hp) nxt (execOp ρ o) v e := by
  simp only [aop] at h
  split at h
  · rename_i n eb
    have hx0 := hx
    rw [eb] at hx hx0
    simp only [VRel] at hx
    obtain ⟨b, hb, _⟩ := hx
    simp only [Option.some.injEq, Prod.mk.injEq] at h
    obtain ⟨rfl, rfl⟩ := h
    exact Does.calm H (x := ρ x) (by simp [execOp, ho, hb, convert, run_underlying hs, run_underlying hd, pure, Sem.run]) hx0
  · cases h

theorem ElsRel.bytes {E : Env} {φ : Phi} {w : World} : ∀ (l : List UInt8), ElsRel E φ w 1 ((l.map UInt8.toNat).map fun b => AVal.int .u8 (Int.ofNat b)) (l.map fun b => Value.int .u8 b.toNat)
  | [] => by simp [ElsRel]
  | b :: l => by
    simp only [List.map_cons, ElsRel]
    exact ⟨.int .u8 b.toNat, _, rfl, rfl, ⟨rfl, by omega⟩, by simp [Value.cells, oneC], ElsRel.bytes l⟩

theorem toBytes_does {x : Operand} {s d el : TypeId} {a : Opd} (ho : o.op = .convert s d x) (hs : N.P.underlying s = some .string) (hd : N.P.underlying d = some (.slice el)) (he : N.P.underlying el = some (.int .u8))
    (hx : VRel N.env φ w (ev T a) (ρ x)) (hn : get Hp nxt = .un) (H : HRel N.env φ w (get Hp)) (h : aop wr nxt (.toBytes a) T Hp = some (v, e)) : Does N.env φ w (get Hp) nxt (execOp ρ o) v e := by
  simp only [aop] at h
  split at h
  · rename_i n eb
    rw [eb] at hx
    simp only [VRel] at hx
    obtain ⟨b, hb, rfl⟩ := hx
    simp only [Option.some.injEq, Prod.mk.injEq] at h
    obtain ⟨rfl, rfl⟩ := h
    have hun : φ nxt = .un := by have := H.1 nxt; rw [hn] at this; exact this
    -- the run
    obtain ⟨cap, hcap⟩ : ∃ cap, cap = (Question.appendCap b.size 0 el).cut (w.tape w.drawn (.appendCap b.size 0 el)) := ⟨_, rfl⟩
    have hle : b.size ≤ cap := by rw [hcap]; simp [Question.cut]
    let cells : Array Value := (b.data.map fun c => Value.int .u8 c.toNat) ++ Array.replicate (cap - b.size) (Value.int .u8 0)
    let w1 : World := { w with drawn := w.drawn + 1 }
    have hw1 : Ext φ w φ w1 := Ext.of_heap rfl ⟨rfl, rfl, rfl⟩
    have hsz : cells.size = cap := by simp [cells]; omega
    let w2 : World := (w1.alloc (.cells cells el)).freeze ⟨w1.heap.size, cells.size, none⟩ 1
    have hw2 : w2.heap[w1.heap.size]? = some (.cells cells el (cells.size, cells.size + 1)) := by
      simp only [w2, World.freeze]
      rw [if_neg (by omega)]
      show (Array.modify (w1.heap.push (.cells cells el)) w1.heap.size _)[w1.heap.size]? = _
      rw [Array.getElem?_modify]
      simp
    have hw2n : ∀ i, i < w1.heap.size → w2.heap[i]? = w1.heap[i]? := by
      intro i hi
      simp only [w2, World.freeze]
      rw [if_neg (by omega)]
      show (Array.modify (w1.heap.push _) _ _)[i]? = _
      rw [Array.getElem?_modify, if_neg (by show ¬ w1.heap.size = i; omega)]
      rw [Array.getElem?_push]
      rw [if_neg (by omega)]
    have hw2s : w2.heap.size = w1.heap.size + 1 := by
      simp only [w2, World.freeze]
      rw [if_neg (by omega)]
      simp
    have H1 := HRel.of_heap (w := w) (w' := w1) rfl ⟨rfl, rfl, rfl⟩ H
    obtain ⟨ext, hr⟩ := H1.upd (id := nxt) (w' := w2) (l' := { blk := w1.heap.size, base := 0, top := cap, sz := 1, gen := 0 }) (o' := .row 1 0 ((b.data.toList.map UInt8.toNat).map fun c => AVal.int .u8 (Int.ofNat c)))
      (.inl hun) (by simp only [w2, World.freeze]; rw [if_neg (by omega)]; exact ⟨rfl, rfl, rfl⟩) (by omega) (fun i hi _ => hw2n i hi) (.inr (Nat.le_refl _)) (fun r h => by simp at h) fun ext => by
        refine ⟨_, cells, el, _, b.data.toList.map (fun c => Value.int .u8 c.toNat), List.replicate (cap - b.size) (Value.int .u8 0), rfl, rfl, rfl, hw2, ?_, ElsRel.bytes _, by simp [hsz], ?_, ?_⟩
        · simp [cells]
        · simpa using hle
        · intro i hi; omega
    refine ⟨w2, _, .slice (some ⟨w1.heap.size, 0, none⟩) b.size cap, .inl ?_, ?_, hr, hw1.trans ext⟩
    · have hrun : (Conv.stringToBytes el b).run N.P w = .ok (.slice (some ⟨w1.heap.size, 0, none⟩) b.size cap) w2 := by
        simp only [Conv.stringToBytes, Sem.run_bind, choose, Sem.run, Question.forced, Result.andThen, Bool.false_eq_true, if_false]
        rw [← hcap]
        have : (newRow el ((b.data.map fun c => Value.int .u8 c.toNat) ++ Array.replicate (cap - b.size) (Value.int .u8 0))).run N.P w1 = .ok ⟨w1.heap.size, 0, none⟩ (w1.alloc (.cells cells el)) := newRow_run _ _ _ _
        simp only [w1] at this
        rw [this]
        have hsh : (w1.alloc (.cells cells el)).shape? w1.heap.size = some (el, cells.size) := by
          simp only [World.shape?, alloc_new]
        simp only [markStringish, shape, Sem.run_bind, Sem.run, Result.andThen]
        simp only [w1] at hsh
        simp only [hsh]
        rfl
      have : (execOp ρ o).run N.P w = (do pure (Next.value (← Conv.stringToBytes el b)) : Sem Next).run N.P w := by
        simp [execOp, ho, hb, convert, run_underlying hs, run_underlying hd, run_underlying he]
      show (execOp ρ o).run N.P w = _
      rw [this]; exact run_val hrun
    · simp only [VRel, updP_same]
      refine ⟨rfl, Nat.le_refl _, fun _ => ⟨⟨w1.heap.size, 0, none⟩, cap, by simp, by simpa using hle, by omega, .inr (by simp)⟩⟩
  · cases h

theorem elemsS_rel {sz : Nat} {a : AVal} {x : Value} {es : List AVal} (H : HRel N.env φ w (get Hp)) (hx : VRel N.env φ w a x) (h : elemsS sz Hp a = some es) :
    ∃ p n cap vs, x = .slice p n cap ∧ n = es.length ∧ ElsRel N.env φ w sz es vs ∧ (es ≠ [] → ∃ b off, p = some ⟨b, off, none⟩ ∧ Reads w b off vs) ∧ n ≤ cap ∧ (p = none → n = 0) := by
  cases a with
  | nilSlice =>
    simp only [elemsS, Option.some.injEq] at h; subst h
    simp only [VRel] at hx; subst hx
    exact ⟨none, 0, 0, [], rfl, rfl, by simp [ElsRel], fun h => absurd rfl h, Nat.le_refl _, fun _ => rfl⟩
  | islice s es' =>
    simp only [elemsS] at h
    split at h
    · rename_i hss; subst hss
      simp only [Option.some.injEq] at h; subst h
      simp only [VRel] at hx
      obtain ⟨p, cap, rfl, hle, hx⟩ := hx
      rcases hx with rfl | ⟨hsp, _, vs, hr, hv⟩
      · exact ⟨some p, 0, cap, [], rfl, rfl, by simp [ElsRel], fun h => absurd rfl h, hle, fun h => by cases h⟩
      · refine ⟨some p, _, cap, vs, rfl, rfl, hv, fun _ => ⟨p.block, p.off, ?_, hr⟩, hle, fun h => by cases h⟩
        cases p; simp_all
    · cases h
  | slice id gen off len =>
    simp only [elemsS] at h
    split at h
    · rename_i s g es' hc
      split at h
      · rename_i hcond
        obtain ⟨rfl, rfl, hle⟩ := hcond
        simp only [Option.some.injEq] at h; subst h
        obtain ⟨l, arr, el, fr, vs, post, hl, hsz, hgen, hb, hd, hels, htop, hlen, _⟩ := H.rowAt (get_some hc)
        obtain ⟨p, cap, hx, hcap, htop2, hp⟩ := slice_form hx hl hgen
        have hn : ((es'.drop off).take len).length = len := by simp; omega
        refine ⟨some p, len, cap, (vs.drop (off * s)).take (len * s), hx, hn.symm, ?_, fun hne => ?_, hcap, fun h => by cases h⟩
        · exact (hels.drop off).take len
        · rcases hp with h0 | hp
          · exfalso; apply hne
            have : len = 0 := by omega
            subst this; simp
          · refine ⟨l.blk, l.base + off * l.sz, by rw [hp], ?_⟩
            rw [hsz]
            have h2 := reads_drop (reads_block hb) l.base
            rw [hd, Nat.zero_add] at h2
            have h3 := reads_drop (reads_prefix h2) (off * s)
            rw [← List.take_append_drop (len * s) (vs.drop (off * s))] at h3
            exact reads_prefix h3
      · cases h
    · cases h
  | _ => simp [elemsS] at h

theorem elems_cells {sz : Nat} {es : List AVal} {vs : List Value} {p : Option Addr} {n cap : Nat} {P : Program} (hv : ElsRel N.env φ w sz es vs) (hn : n = es.length)
    (hr : es ≠ [] → ∃ b off, p = some ⟨b, off, none⟩ ∧ Reads w b off vs) (hp : p = none → n = 0) (k : Nat) (hk : k ≤ n) : (Builtin.firstCells sz k (.slice p n cap)).run P w = .ok (vs.take (k * sz)).toArray w := by
  cases p with
  | none =>
    have h0 := hp rfl
    have : k = 0 := by omega
    subst this
    simp [Builtin.firstCells, pure, Sem.run]
  | some p =>
    by_cases he : es = []
    · subst he
      simp at hn
      have : k = 0 := by omega
      subst this
      simp [Builtin.firstCells, loadCells, loadCellsFrom, pure, Sem.run]
    · obtain ⟨b, off, hpe, hrd⟩ := hr he
      simp only [Option.some.injEq] at hpe; subst hpe
      have hl := run_loadCells_list (P := P) (w := w) ⟨b, off, none⟩ (vs.take (k * sz)) (by
        intro j v hj
        have := reads_list (i := 0) (n := k * sz) hrd rfl j v (by simpa using hj)
        simpa using this)
      have hlen : (vs.take (k * sz)).length = k * sz := by
        rw [List.length_take, hv.vslen, ← hn]
        exact Nat.min_eq_left (Nat.mul_le_mul_right _ hk)
      rw [hlen] at hl
      simp [Builtin.firstCells, hl]

theorem bytesOf_rel : ∀ {es : List AVal} {vs : List Value} {s : List Nat}, ElsRel N.env φ w 1 es vs → bytesOf es = some s → ∃ l : List UInt8, l.map UInt8.toNat = s ∧ vs = l.map fun b => Value.int .u8 b.toNat
  | [], vs, s, h, hb => by
    simp only [ElsRel] at h; subst h
    simp only [bytesOf, Option.some.injEq] at hb; subst hb
    exact ⟨[], rfl, rfl⟩
  | e :: es, vs, s, h, hb => by
    simp only [ElsRel] at h
    obtain ⟨x, rest, hx, rfl, hs, _, hr⟩ := h
    cases e with
    | int k n =>
      cases k with
      | u8 =>
        simp only [bytesOf] at hb
        split at hb
        · rename_i hd
          simp only [decide_eq_true_eq] at hd
          split at hb
          · rename_i l hl
            simp only [Option.some.injEq] at hb; subst hb
            obtain ⟨l', rfl, rfl⟩ := bytesOf_rel hr hl
            simp only [VRel] at hx; subst hx
            refine ⟨UInt8.ofNat n.toNat :: l', ?_, ?_⟩
            · simp only [List.map_cons, UInt8.toNat_ofNat_of_lt' (by omega : n.toNat < 256)]
            · simp only [Value.cells, List.map_cons, UInt8.toNat_ofNat_of_lt' (by omega : n.toNat < 256)]
              simp [Int.toNat_of_nonneg hd.1]
          · cases hb
        · cases hb
      | _ => simp [bytesOf] at hb
    | _ => simp [bytesOf] at hb

theorem pushes_run {P : Program} {f : Value → ByteArray → Sem (ForInStep ByteArray)} (hf : ∀ (b : UInt8) (s : ByteArray), f (.int .u8 b.toNat) s = Sem.pure (.yield (s.push b))) :
    ∀ (l : List UInt8) (acc : ByteArray), (forIn (l.map fun b => Value.int .u8 b.toNat) acc f).run P w = .ok ⟨(acc.data.toList ++ l).toArray⟩ w
  | [], acc => by simp [pure, Sem.run]
  | b :: l, acc => by
    have ih := pushes_run (P := P) hf l (acc.push b)
    simp only [List.map_cons, List.forIn_cons, hf, Sem.run_bind, Sem.run, Result.andThen]
    rw [ih]
    simp [ByteArray.push]

theorem bytesToString_run {P : Program} {a : Addr} {l : List UInt8} {len cap : Nat} (hl : (loadCells a len).run P w = .ok (l.map fun b => Value.int .u8 b.toNat).toArray w) :
    (Conv.bytesToString (.slice (some a) len cap)).run P w = .ok (.string ⟨l.toArray⟩) w := by
  simp only [Conv.bytesToString, Sem.run_bind, hl, Result.andThen]
  rw [← Array.forIn_toList]
  rw [pushes_run (P := P) (f := _) (by intro b s; simp [pure]) l ByteArray.empty]
  simp [pure, Sem.run]

theorem toStr_does {x : Operand} {s d el : TypeId} {a : Opd} (ho : o.op = .convert s d x) (hs : N.P.underlying s = some (.slice el)) (hd : N.P.underlying d = some .string) (he : N.P.underlying el = some (.int .u8))
    (hx : VRel N.env φ w (ev T a) (ρ x)) (H : HRel N.env φ w (get Hp)) (h : aop wr nxt (.toStr a) T Hp = some (v, e)) : Does N.env φ w (get Hp) nxt (execOp ρ o) v e := by
  simp only [aop] at h
  split at h
  · rename_i es hes
    split at h
    · rename_i str hstr
      simp only [Option.some.injEq, Prod.mk.injEq] at h
      obtain ⟨rfl, rfl⟩ := h
      · obtain ⟨p, n, cap, vs, hxe, hn, hels, hr, hcap, hp⟩ := elemsS_rel H hx hes
        obtain ⟨l, hl, rfl⟩ := bytesOf_rel hels hstr
        have hc := elems_cells (P := N.P) (cap := cap) hels hn hr hp n (Nat.le_refl _)
        have hrun : (Conv.bytesToString (ρ x)).run N.P w = .ok (.string ⟨l.toArray⟩) w := by
          rw [hxe]
          have hlen : l.length = n := by have := hels.vslen; simp at this; omega
          cases p with
          | none =>
            have h0 := hp rfl
            have : l = [] := List.eq_nil_of_length_eq_zero (by omega)
            subst this
            rfl
          | some p =>
            simp only [Builtin.firstCells, Nat.mul_one] at hc
            rw [List.take_of_length_le (by simp; omega)] at hc
            exact bytesToString_run hc
        refine Does.calm H (x := .string ⟨l.toArray⟩) ?_ ⟨_, rfl, by simpa using hl⟩
        have : execOp ρ o = (do pure (Next.value (← convert s d (ρ x))) : Sem Next) := by simp [execOp, ho]
        rw [this]
        refine run_val ?_
        rw [hxe] at hrun ⊢
        show (convert s d (.slice p n cap)).run N.P w = _
        cases p <;> (simp only [convert, Sem.run_bind, run_underlying hs, run_underlying hd, run_underlying he, Result.andThen]; exact hrun)
    · cases h
  · cases h

theorem makeFunc_does {f : FuncId} {c : Nat} {first caps : Array Operand} {cf cc : List Opd} (ho : o.op = .makeFunc (.func f) first caps) (hf : N.fn f = some c) (hT : TRel N.env φ w T ρ N)
    (h1 : cOpds N first.toList = some cf) (h2 : cOpds N caps.toList = some cc) (H : HRel N.env φ w (get Hp)) (h : aop wr nxt (.makeFunc c cf cc) T Hp = some (v, e)) : Does N.env φ w (get Hp) nxt (execOp ρ o) v e := by
  simp only [aop, Option.some.injEq, Prod.mk.injEq] at h
  obtain ⟨rfl, rfl⟩ := h
  refine Does.calm H (x := .func (.func f) (first.map ρ) (caps.map ρ)) (by simp [execOp, ho, Instr.makeFunc, pure, Sem.run]) ?_
  simp only [VRel]
  exact ⟨f, _, _, Num.fn_idx hf, rfl, by simpa using hT.list h1, by simpa using hT.list h2⟩

theorem makeMap_does {t kt el : TypeId} (ho : o.op = .makeMap t none) (hn : get Hp nxt = .un) (H : HRel N.env φ w (get Hp)) (h : aop wr nxt .makeMap T Hp = some (v, e)) : Does N.env φ w (get Hp) nxt (execOp ρ o) v e := by
  simp only [aop, Option.some.injEq, Prod.mk.injEq] at h
  obtain ⟨rfl, rfl⟩ := h
  have hun : φ nxt = .un := by have := H.1 nxt; rw [hn] at this; exact this
  obtain ⟨ext, hr⟩ := H.alloc hun (.map #[] 0) (l' := { blk := w.heap.size, base := 0, top := 0, sz := 0, gen := 0 }) rfl (o' := .map []) fun ext =>
    ⟨_, #[], 0, rfl, rfl, alloc_new _ _, by simp [EntsRel], by simp, by simp⟩
  refine ⟨_, _, .map (some w.heap.size), .inl ?_, ?_, hr, ext⟩
  · have : (Instr.makeMap t none).run N.P w = .ok (.map (some w.heap.size)) (w.alloc (.map #[] 0)) := rfl
    show (execOp ρ o).run N.P w = _
    have e : execOp ρ o = (do pure (Next.value (← Instr.makeMap t none)) : Sem Next) := by simp [execOp, ho]
    rw [e]; exact run_val this
  · simp [VRel, oneC]

theorem fieldAddr_does {x : Operand} {t : TypeId} {fs : Array Field} {f : Nat} {fd : Field} {n : Nat} {a : Opd} (ho : o.op = .fieldAddr t x f) (hu : N.P.underlying t = some (.struct fs)) (hf : fs[f]? = some fd)
    (hn : sizeT N.P fd.type = some n) (hn0 : n ≠ 0) (hx : VRel N.env φ w (ev T a) (ρ x)) (H : HRel N.env φ w (get Hp)) (h : aop wr nxt (.fieldAddr fd.offset a) T Hp = some (v, e)) :
    Does N.env φ w (get Hp) nxt (execOp ρ o) v e := by
  have key : ∀ b off, ρ x = .pointer (some ⟨b, off, none⟩) → (execOp ρ o).run N.P w = .ok (.value (.pointer (some ⟨b, off + fd.offset, none⟩))) w := by
    intro b off hx
    simp [execOp, ho, hx, Instr.fieldAt, run_underlying hu, hf, Instr.sureAddr, fieldPlace, sizeT_run hn, hn0, add_none, pure, Sem.run]
  simp only [aop] at h
  split at h
  · rename_i id off he
    rw [he] at hx
    cases hc : liveC Hp id with
    | false => simp [hc] at h
    | true =>
      simp only [hc, cond_true, Option.some.injEq, Prod.mk.injEq] at h
      obtain ⟨rfl, rfl⟩ := h
      obtain ⟨l, hl, hg⟩ := liveC_at H hc
      exact Does.calm H (key _ _ (ptr_form hx hl hg)) (by simp [VRel, hl, oneC])
  · rename_i id gen i off he
    rw [he] at hx
    cases hc : liveG Hp id gen with
    | false => simp [hc] at h
    | true =>
      simp only [hc, cond_true, Option.some.injEq, Prod.mk.injEq] at h
      obtain ⟨rfl, rfl⟩ := h
      obtain ⟨l, hl, hg⟩ := liveG_at H hc
      refine Does.calm H (key _ _ (eptr_form hx hl hg)) ?_
      simp only [VRel, hl]
      exact ⟨rfl, by omega, fun _ => by rw [Nat.add_assoc]⟩
  · rename_i cs he
    rw [he] at hx
    simp only [VRel] at hx
    obtain ⟨b, off, vs, hx, hi, hr, hv, h1⟩ := hx
    simp only [Option.some.injEq, Prod.mk.injEq] at h
    obtain ⟨rfl, rfl⟩ := h
    refine Does.calm H (key _ _ hx) ?_
    simp only [VRel]
    exact ⟨b, _, vs.drop fd.offset, rfl, hi, reads_drop hr _, hv.drop _, fun y hy => h1 y (List.mem_of_mem_drop hy)⟩
  · cases h

theorem part_run {P : Program} {t : TypeId} {g : Bool} {n off : Nat} {cs : List AVal} {vs : Array Value} {a : AVal} (hg : isAggT P t = some g) (hn : sizeT P t = some n) (hv : VsRel N.env φ w cs vs.toList)
    (h1 : ∀ x ∈ vs.toList, oneC x = true) (h : readAt g n off cs = some a) : ∃ x, (part t vs off).run P w = .ok x w ∧ VRel N.env φ w a x := by
  cases g with
  | true =>
    simp only [readAt] at h
    split at h
    · simp only [Option.some.injEq] at h; subst h
      refine ⟨.agg (vs.extract off (off + n)), by simp [part, isAggT_run hg, sizeT_run hn, pure, Sem.run], ?_⟩
      simp only [VRel]
      refine ⟨_, rfl, ?_, ?_⟩
      · have := (hv.drop off).take n
        simpa [Array.toList_extract, List.extract_eq_take_drop] using this
      · intro y hy
        refine h1 y ?_
        rw [Array.toList_extract, List.extract_eq_take_drop] at hy
        exact List.mem_of_mem_drop (List.mem_of_mem_take hy)
    · cases h
  | false =>
    simp only [readAt] at h
    obtain ⟨x, hx, hxr⟩ := hv.get h
    exact ⟨x, by simp [part, isAggT_run hg, (by simpa using hx : vs[off]? = some x), pure, Sem.run], hxr⟩

theorem field_does {x : Operand} {t : TypeId} {fs : Array Field} {f : Nat} {fd : Field} {n : Nat} {g : Bool} {a : Opd} (ho : o.op = .field t x f) (hu : N.P.underlying t = some (.struct fs)) (hf : fs[f]? = some fd)
    (hg : isAggT N.P fd.type = some g) (hn : sizeT N.P fd.type = some n) (hx : VRel N.env φ w (ev T a) (ρ x)) (H : HRel N.env φ w (get Hp)) (h : aop wr nxt (.field g fd.offset n a) T Hp = some (v, e)) :
    Does N.env φ w (get Hp) nxt (execOp ρ o) v e := by
  simp only [aop] at h
  split at h
  · rename_i cs he
    rw [he] at hx
    simp only [VRel] at hx
    obtain ⟨vs, hx, hv, h1⟩ := hx
    split at h
    · rename_i r hr
      simp only [Option.some.injEq, Prod.mk.injEq] at h
      obtain ⟨rfl, rfl⟩ := h
      obtain ⟨y, hy, hyr⟩ := part_run (P := N.P) hg hn hv h1 hr
      exact Does.calm H (x := y) (by simp [execOp, ho, hx, Instr.field, run_underlying hu, hf, asAgg, hy]) hyr
    · cases h
  · cases h

theorem natOf_form {a : AVal} {x : Value} {k : Nat} {E : Env} (h : natOf a = some k) (hx : VRel E φ w a x) : ∃ q, x = .int q (k : Int) := by
  unfold natOf at h
  split at h
  · rename_i q n
    split at h
    · rename_i h0
      simp only [Option.some.injEq] at h
      simp only [VRel] at hx
      exact ⟨q, by rw [hx, ← h]; simp [Int.toNat_of_nonneg h0]⟩
    · cases h
  · cases h

end

end Go.Rv

namespace Go.Rv

section
variable {N : Num} {φ : Phi} {w : World} {T : List AVal} {Hp : AHeap} {nxt : Nat} {wr : IntKind → Int → Int} {ρ : Operand → Value} {o : Oper} {v : AVal} {e : Eff}

theorem Does.val {s : Sem Value} {op : Sem Next} {a : AVal} {x : Value} (hop : op = (do pure (Next.value (← s)) : Sem Next)) (H : HRel N.env φ w (get Hp)) (hr : s.run N.P w = .ok x w) (hv : VRel N.env φ w a x) :
    Does N.env φ w (get Hp) nxt op a .none := Does.calm H (by rw [hop]; exact run_val hr) hv

theorem extract_does {x : Operand} {i : Nat} {a : Opd} (ho : o.op = .extract x i) (hx : VRel N.env φ w (ev T a) (ρ x)) (H : HRel N.env φ w (get Hp)) (h : aop wr nxt (.extract a i) T Hp = some (v, e)) :
    Does N.env φ w (get Hp) nxt (execOp ρ o) v e := by
  simp only [aop] at h
  split at h
  · rename_i vs ev0
    rw [ev0] at hx
    simp only [VRel] at hx
    obtain ⟨us, hx, hv⟩ := hx
    split at h
    · rename_i r hr
      simp only [Option.some.injEq, Prod.mk.injEq] at h
      obtain ⟨rfl, rfl⟩ := h
      obtain ⟨y, hy, hyr⟩ := hv.get hr
      refine Does.val (s := Instr.extract (ρ x) i) (by simp [execOp, ho]) H ?_ hyr
      have : us[i]? = some y := by simpa using hy
      simp [hx, Instr.extract, this, pure, Sem.run]
    · cases h
  · cases h

theorem indexAddr_does {x i : Operand} {t el : TypeId} {sz : Nat} {a b : Opd} (ho : o.op = .indexAddr t x i) (hu : N.P.underlying t = some (.slice el)) (hs : sizeT N.P el = some sz)
    (hx : VRel N.env φ w (ev T a) (ρ x)) (hi : VRel N.env φ w (ev T b) (ρ i)) (H : HRel N.env φ w (get Hp)) (h : aop wr nxt (.indexAddr sz a b) T Hp = some (v, e)) :
    Does N.env φ w (get Hp) nxt (execOp ρ o) v e := by
  simp only [aop] at h
  split at h
  · rename_i k hk
    obtain ⟨q, hq⟩ := natOf_form hk hi
    have key : ∀ p len cap, ρ x = .slice (some p) len cap → k < len → (Instr.indexAt t (ρ x) (ρ i)).run N.P w = .ok (.pointer (some (p.add (k * sz)))) w := by
      intro p len cap hx hlt
      rw [hx, hq]
      simp [Instr.indexAt, asIntOf, run_underlying hu, sizeT_run hs, pure, Sem.run, hlt]
    split at h
    · rename_i id gen off len ea
      rw [ea] at hx
      cases hc : liveR Hp id gen sz with
      | false => simp [hc] at h
      | true =>
        simp only [hc, cond_true] at h
        split at h
        · rename_i hlt
          simp only [Option.some.injEq, Prod.mk.injEq] at h
          obtain ⟨rfl, rfl⟩ := h
          obtain ⟨l, hl, hg, hsz⟩ := liveR_at H hc
          obtain ⟨p, cap, hx, hcap, _, hp⟩ := slice_form hx hl hg
          have hp : p = ⟨l.blk, l.base + off * l.sz, none⟩ := by
            rcases hp with hp | hp
            · omega
            · exact hp
          refine Does.val (s := Instr.indexAt t (ρ x) (ρ i)) (by simp [execOp, ho]) H (key _ _ _ hx hlt) ?_
          rw [hp, add_none]
          simp only [VRel, hl]
          refine ⟨rfl, by omega, fun _ => ?_⟩
          rw [hsz, Nat.add_mul, Nat.add_assoc]; simp
        · cases h
    · rename_i s es ea
      rw [ea] at hx
      split at h
      · rename_i hss; subst hss
        split at h
        · rename_i e0 he0
          simp only [Option.some.injEq, Prod.mk.injEq] at h
          obtain ⟨rfl, rfl⟩ := h
          simp only [VRel] at hx
          obtain ⟨p, cap, hx, hcap, hx2⟩ := hx
          have hlt : k < es.length := (List.getElem?_eq_some_iff.1 he0).1
          rcases hx2 with rfl | ⟨hsp, himm, vs, hr, hels⟩
          · simp at hlt
          · refine Does.val (s := Instr.indexAt t (ρ x) (ρ i)) (by simp [execOp, ho]) H (key _ _ _ hx hlt) ?_
            obtain ⟨pre, xv, po, rfl, hpre, hxs, hx1, hxr, _, _⟩ := hels.split he0
            obtain ⟨us, hus, husr⟩ := hxr.cells (by rw [hxs.1]; exact hxs.2)
            obtain ⟨pb, po', ps⟩ := p
            simp only at hsp; subst hsp
            rw [add_none]
            simp only [VRel]
            refine ⟨pb, po' + k * s, us, rfl, himm, ?_, husr, fun y hy => hx1 y (by rw [hus]; exact List.mem_append.2 (.inl hy))⟩
            have h2 := reads_drop hr (k * s)
            rw [← hpre] at h2 ⊢
            simp only [List.append_assoc, List.drop_left] at h2
            have h3 := reads_prefix h2
            rw [hus] at h3
            exact reads_prefix h3
        · cases h
      · cases h
    · cases h
  · cases h

theorem indexArr_does {x i : Operand} {t el : TypeId} {n sz : Nat} {a b : Opd} (ho : o.op = .indexAddr t x i) (hu : N.P.underlying t = some (.array n el)) (hs : sizeT N.P el = some sz)
    (hx : VRel N.env φ w (ev T a) (ρ x)) (hi : VRel N.env φ w (ev T b) (ρ i)) (H : HRel N.env φ w (get Hp)) (h : aop wr nxt (.indexArr n sz a b) T Hp = some (v, e)) :
    Does N.env φ w (get Hp) nxt (execOp ρ o) v e := by
  simp only [aop] at h
  split at h
  · rename_i k hk
    obtain ⟨q, hq⟩ := natOf_form hk hi
    split at h
    · rename_i hlt
      split at h
      · rename_i id off ea
        rw [ea] at hx
        cases hc : liveC Hp id with
        | false => simp [hc] at h
        | true =>
          simp only [hc, cond_true, Option.some.injEq, Prod.mk.injEq] at h
          obtain ⟨rfl, rfl⟩ := h
          obtain ⟨l, hl, hg⟩ := liveC_at H hc
          have hx := ptr_form hx hl hg
          refine Does.val (s := Instr.indexAt t (ρ x) (ρ i)) (x := .pointer (some ⟨l.blk, off + k * sz, none⟩)) (by simp [execOp, ho]) H ?_ (by simp [VRel, hl, oneC])
          rw [hx, hq]
          simp [Instr.indexAt, asIntOf, Instr.sureAddr, run_underlying hu, sizeT_run hs, pure, Sem.run, hlt, add_none]
      · cases h
    · cases h
  · cases h

theorem indexStr_does {x i : Operand} {t : TypeId} {a b : Opd} (ho : o.op = .index t x i) (hu : N.P.underlying t = some .string)
    (hx : VRel N.env φ w (ev T a) (ρ x)) (hi : VRel N.env φ w (ev T b) (ρ i)) (H : HRel N.env φ w (get Hp)) (h : aop wr nxt (.indexStr a b) T Hp = some (v, e)) :
    Does N.env φ w (get Hp) nxt (execOp ρ o) v e := by
  simp only [aop] at h
  split at h
  · rename_i s ea
    rw [ea] at hx
    simp only [VRel] at hx
    obtain ⟨bs, hx, rfl⟩ := hx
    split at h
    · rename_i k hk
      obtain ⟨q, hq⟩ := natOf_form hk hi
      split at h
      · rename_i c hc
        simp only [Option.some.injEq, Prod.mk.injEq] at h
        obtain ⟨rfl, rfl⟩ := h
        rw [List.getElem?_map, Option.map_eq_some_iff] at hc
        obtain ⟨u, hu2, rfl⟩ := hc
        have hlt : k < bs.size := by
          have := (List.getElem?_eq_some_iff.1 hu2).1
          simpa using this
        have hb : bs[k]? = some u := by
          rw [ByteArray.getElem?_lt' bs k hlt]
          congr 1
          have := (List.getElem?_eq_some_iff.1 hu2).2
          simp at this
          exact this
        refine Does.val (s := Instr.index t (ρ x) (ρ i)) (x := .int .u8 u.toNat) (by simp [execOp, ho]) H ?_ rfl
        rw [hx, hq]
        simp [Instr.index, asIntOf, run_underlying hu, hb, pure, Sem.run]
      · cases h
    · cases h
  · cases h

theorem indexAgg_does {x i : Operand} {t el : TypeId} {n sz : Nat} {g : Bool} {a b : Opd} (ho : o.op = .index t x i) (hu : N.P.underlying t = some (.array n el)) (hs : sizeT N.P el = some sz) (hg : isAggT N.P el = some g)
    (hx : VRel N.env φ w (ev T a) (ρ x)) (hi : VRel N.env φ w (ev T b) (ρ i)) (H : HRel N.env φ w (get Hp)) (h : aop wr nxt (.indexAgg n sz g a b) T Hp = some (v, e)) :
    Does N.env φ w (get Hp) nxt (execOp ρ o) v e := by
  simp only [aop] at h
  split at h
  · rename_i k hk
    obtain ⟨q, hq⟩ := natOf_form hk hi
    split at h
    · rename_i hlt
      split at h
      · rename_i cs ea
        rw [ea] at hx
        simp only [VRel] at hx
        obtain ⟨vs, hx, hv, h1⟩ := hx
        split at h
        · rename_i r hr
          simp only [Option.some.injEq, Prod.mk.injEq] at h
          obtain ⟨rfl, rfl⟩ := h
          obtain ⟨y, hy, hyr⟩ := part_run (P := N.P) hg hs hv h1 hr
          refine Does.val (s := Instr.index t (ρ x) (ρ i)) (x := y) (by simp [execOp, ho]) H ?_ hyr
          rw [hx, hq]
          simp [Instr.index, asIntOf, run_underlying hu, sizeT_run hs, hlt, hy]
        · cases h
      · cases h
    · cases h
  · cases h

theorem lenStr_does {x : Operand} {t : TypeId} {ts : Array TypeId} {ty : TypeId} {a : Opd} (ho : o.op = .call { callee := .builtin .len, args := #[x], argTypes := ts }) (ht : ts[0]? = some t) (hu : N.P.underlying t = some .string)
    (hx : VRel N.env φ w (ev T a) (ρ x)) (H : HRel N.env φ w (get Hp)) (h : aop wr nxt (.lenStr a) T Hp = some (v, e)) : Does N.env φ w (get Hp) nxt (execOp ρ o) v e := by
  simp only [aop] at h
  split at h
  · rename_i s ea
    rw [ea] at hx
    simp only [VRel] at hx
    obtain ⟨bs, hx, rfl⟩ := hx
    simp only [Option.some.injEq, Prod.mk.injEq] at h
    obtain ⟨rfl, rfl⟩ := h
    refine Does.val (s := Builtin.len_ ts o.type #[ρ x]) (x := .int .i64 bs.size) ?_ H ?_ (by simp [VRel])
    · simp [execOp, ho, resolve, invoke, builtin]
    · rw [hx]
      simp [Builtin.len_, ht, run_underlying hu, goInt, pure, Sem.run]
  · cases h

theorem lenSlice_does {x : Operand} {t el : TypeId} {ts : Array TypeId} {a : Opd} (ho : o.op = .call { callee := .builtin .len, args := #[x], argTypes := ts }) (ht : ts[0]? = some t) (hu : N.P.underlying t = some (.slice el))
    (hx : VRel N.env φ w (ev T a) (ρ x)) (H : HRel N.env φ w (get Hp)) (h : aop wr nxt (.lenSlice a) T Hp = some (v, e)) : Does N.env φ w (get Hp) nxt (execOp ρ o) v e := by
  have key : ∀ p n cap, ρ x = .slice p n cap → Does N.env φ w (get Hp) nxt (execOp ρ o) (.int .i64 n) .none := by
    intro p n cap hx
    refine Does.val (s := Builtin.len_ ts o.type #[ρ x]) (x := .int .i64 n) ?_ H ?_ rfl
    · simp [execOp, ho, resolve, invoke, builtin]
    · rw [hx]
      simp [Builtin.len_, ht, run_underlying hu, goInt, pure, Sem.run]
  simp only [aop] at h
  split at h
  · rename_i ea
    rw [ea] at hx
    simp only [VRel] at hx
    simp only [Option.some.injEq, Prod.mk.injEq] at h
    obtain ⟨rfl, rfl⟩ := h
    exact key _ _ _ hx
  · rename_i id gen off len ea
    rw [ea] at hx
    cases hc : liveG Hp id gen with
    | false => simp [hc] at h
    | true =>
      simp only [hc, cond_true, Option.some.injEq, Prod.mk.injEq] at h
      obtain ⟨rfl, rfl⟩ := h
      obtain ⟨l, hl, hg⟩ := liveG_at H hc
      obtain ⟨p, cap, hx, _⟩ := slice_form hx hl hg
      exact key _ _ _ hx
  · rename_i s es ea
    rw [ea] at hx
    simp only [VRel] at hx
    simp only [Option.some.injEq, Prod.mk.injEq] at h
    obtain ⟨rfl, rfl⟩ := h
    obtain ⟨p, cap, hx, _⟩ := hx
    exact key _ _ _ hx
  · cases h

theorem EntsRel.length {E : Env} {φ : Phi} {w : World} : ∀ {es : List (AVal × AVal)} {ms : List MapEntry}, EntsRel E φ w es ms → es.length = ms.length
  | [], ms, h => by simp only [EntsRel] at h; subst h; rfl
  | e :: es, ms, h => by
    cases ms with
    | nil => simp [EntsRel] at h
    | cons m ms => simp only [EntsRel] at h; simp [EntsRel.length h.2.2]

theorem getObj_run {P : Program} {w : World} {r : Nat} {es : Array MapEntry} {clk : Nat} (h : w.heap[r]? = some (.map es clk)) : (getObj r).run P w = .ok (.map es clk) w := by
  simp [getObj, Sem.run, h]

theorem lenMap_does {x : Operand} {t kt el : TypeId} {ts : Array TypeId} {a : Opd} (ho : o.op = .call { callee := .builtin .len, args := #[x], argTypes := ts }) (ht : ts[0]? = some t) (hu : N.P.underlying t = some (.map kt el))
    (hx : VRel N.env φ w (ev T a) (ρ x)) (H : HRel N.env φ w (get Hp)) (h : aop wr nxt (.lenMap a) T Hp = some (v, e)) : Does N.env φ w (get Hp) nxt (execOp ρ o) v e := by
  have hop : execOp ρ o = (do pure (Next.value (← Builtin.len_ ts o.type #[ρ x])) : Sem Next) := by
    simp [execOp, ho, resolve, invoke, builtin]
  simp only [aop] at h
  split at h
  · rename_i ea
    rw [ea] at hx
    simp only [VRel] at hx
    simp only [Option.some.injEq, Prod.mk.injEq] at h
    obtain ⟨rfl, rfl⟩ := h
    refine Does.val (x := .int .i64 0) hop H ?_ rfl
    rw [hx]
    simp [Builtin.len_, ht, run_underlying hu, goInt, pure, Sem.run]
  · rename_i id ea
    rw [ea] at hx
    split at h
    · rename_i es hc
      simp only [Option.some.injEq, Prod.mk.injEq] at h
      obtain ⟨rfl, rfl⟩ := h
      obtain ⟨l, ents, clk, hl, hg, hb, hv, _⟩ := H.mapAt (get_some hc)
      have hx := map_form hx hl hg
      refine Does.val (x := .int .i64 ents.size) hop H ?_ (by simp only [VRel]; rw [hv.length]; simp)
      rw [hx]
      simp [Builtin.len_, ht, run_underlying hu, goInt, getObj_run hb, pure, Sem.run]
    · cases h
  · cases h

theorem min_does {x y : Operand} {ts : Array TypeId} {a b : Opd} (ho : o.op = .call { callee := .builtin .min, args := #[x, y], argTypes := ts })
    (hx : VRel N.env φ w (ev T a) (ρ x)) (hy : VRel N.env φ w (ev T b) (ρ y)) (H : HRel N.env φ w (get Hp)) (h : aop wr nxt (.min2 a b) T Hp = some (v, e)) : Does N.env φ w (get Hp) nxt (execOp ρ o) v e := by
  simp only [aop] at h
  split at h
  · rename_i k p k' q e1 e2
    rw [e1] at hx; rw [e2] at hy
    simp only [VRel] at hx hy
    split at h
    · simp only [Option.some.injEq, Prod.mk.injEq] at h
      obtain ⟨rfl, rfl⟩ := h
      refine Does.val (s := Builtin.min_ ts o.type #[ρ x, ρ y]) (x := .int k (if q < p then q else p)) ?_ H ?_ rfl
      · simp [execOp, ho, resolve, invoke, builtin]
      · rw [hx, hy]; simp [Builtin.min_, Builtin.min2, List.foldlM, pure, Sem.run]
    · cases h
  · cases h

theorem max_does {x y : Operand} {ts : Array TypeId} {a b : Opd} (ho : o.op = .call { callee := .builtin .max, args := #[x, y], argTypes := ts })
    (hx : VRel N.env φ w (ev T a) (ρ x)) (hy : VRel N.env φ w (ev T b) (ρ y)) (H : HRel N.env φ w (get Hp)) (h : aop wr nxt (.max2 a b) T Hp = some (v, e)) : Does N.env φ w (get Hp) nxt (execOp ρ o) v e := by
  simp only [aop] at h
  split at h
  · rename_i k p k' q e1 e2
    rw [e1] at hx; rw [e2] at hy
    simp only [VRel] at hx hy
    split at h
    · simp only [Option.some.injEq, Prod.mk.injEq] at h
      obtain ⟨rfl, rfl⟩ := h
      refine Does.val (s := Builtin.max_ ts o.type #[ρ x, ρ y]) (x := .int k (if q > p then q else p)) ?_ H ?_ rfl
      · simp [execOp, ho, resolve, invoke, builtin]
      · rw [hx, hy]; simp [Builtin.max_, Builtin.max2, List.foldlM, pure, Sem.run]
    · cases h
  · cases h

end

end Go.Rv

namespace Go.Rv

section
variable {N : Num} {φ : Phi} {w : World} {T : List AVal} {Hp : AHeap} {nxt : Nat} {wr : IntKind → Int → Int} {ρ : Operand → Value} {o : Oper} {v : AVal} {e : Eff}

theorem eqF_eq {f : FK} {a b : AVal} (h : eqF f a b = some true) : a = b := by
  unfold eqF at h
  split at h
  · split at h
    · rename_i hk; subst hk; simp at h; rw [h]
    · cases h
  · simp at h; rw [h]
  · simp at h; rw [h]
  · cases h

theorem eqFs_eq : ∀ {fs : List FK} {as bs : List AVal}, eqFs fs as bs = some true → as = bs
  | [], as, bs, h => by cases as <;> cases bs <;> simp_all [eqFs]
  | f :: fs, [], _, h => by simp [eqFs] at h
  | f :: fs, _ :: _, [], h => by simp [eqFs] at h
  | f :: fs, a :: as, b :: bs, h => by
    simp only [eqFs] at h
    split at h
    · rename_i h1
      rw [eqF_eq h1, eqFs_eq h]
    · cases h
    · cases h

theorem keyEq_eq {kk : KK} {a b : AVal} (h : keyEq kk a b = some true) : a = b := by
  cases kk with
  | one f => exact eqF_eq (by simpa [keyEq] using h)
  | many fs =>
    unfold keyEq at h
    split at h
    · rename_i heq
      cases heq
    · rename_i hk
      cases hk
      rw [eqFs_eq h]
    · cases h

/-- Flat values that are one are one to the bit. -/
theorem sameBits_one {f : FK} {a b : AVal} {r : Bool} {E : Env} {x y : Value} (h : eqF f a b = some r) (hr : r = true) (hx : VRel E φ w a x) (hy : VRel E φ w b y) (d : Nat) : Instr.sameBits d x y = true := by
  subst hr
  have e := eqF_eq h; subst e
  unfold eqF at h
  split at h <;> first | cases h | skip
  · simp only [VRel] at hx hy; subst hx hy; simp [Instr.sameBits]
  · simp only [VRel] at hx hy
    obtain ⟨p, rfl, hp⟩ := hx
    obtain ⟨q, rfl, hq⟩ := hy
    have : p = q := by
      obtain ⟨⟨p⟩⟩ := p; obtain ⟨⟨q⟩⟩ := q
      have := hp.trans hq.symm
      simp only at this
      have h2 := congrArg (List.map UInt8.ofNat) this
      simp only [List.map_map] at h2
      have h3 : UInt8.ofNat ∘ UInt8.toNat = id := by funext c; simp
      rw [h3] at h2
      simp at h2; rw [h2]
    subst this
    cases d <;> (show (p == p) = true; rw [beq_toListBytes]; simp)
  · simp only [VRel] at hx hy; subst hx hy; simp [Instr.sameBits]

theorem sameBits_many : ∀ {fs : List FK} {as bs : List AVal} {E : Env} {xs ys : List Value}, eqFs fs as bs = some true → VsRel E φ w as xs → VsRel E φ w bs ys → ∀ d, xs.length = ys.length ∧ (xs.zip ys).all (fun p => Instr.sameBits d p.1 p.2) = true
  | [], as, bs, E, xs, ys, h, hx, hy, d => by
    cases as <;> cases bs <;> simp [eqFs] at h
    simp only [VsRel] at hx hy; subst hx hy; simp
  | f :: fs, [], _, E, xs, ys, h, hx, hy, d => by simp [eqFs] at h
  | f :: fs, _ :: _, [], E, xs, ys, h, hx, hy, d => by simp [eqFs] at h
  | f :: fs, a :: as, b :: bs, E, xs, ys, h, hx, hy, d => by
    simp only [eqFs] at h
    split at h
    · rename_i h1
      cases xs with
      | nil => simp [VsRel] at hx
      | cons x xs =>
        cases ys with
        | nil => simp [VsRel] at hy
        | cons y ys =>
          simp only [VsRel] at hx hy
          obtain ⟨h2, h3⟩ := sameBits_many h hx.2 hy.2 d
          have := sameBits_one h1 rfl hx.1 hy.1 d
          simp [h2, h3, this]
    · cases h
    · cases h

theorem keyStays_run {P : Program} {kk : KK} {a b : AVal} {x y : Value} {E : Env} (h : keyEq kk a b = some true) (hx : VRel E φ w a x) (hy : VRel E φ w b y) : (Instr.keyThatStays y x).run P w = .ok x w := by
  have e := keyEq_eq h; subst e
  have hs : Instr.sameBits 10000 y x = true := by
    cases kk with
    | one f => exact sameBits_one (by simpa [keyEq] using h) rfl hy hx 10000
    | many fs =>
      cases a with
      | agg as =>
        simp only [keyEq] at h
        simp only [VRel] at hx hy
        obtain ⟨xs, rfl, hxs, _⟩ := hx
        obtain ⟨ys, rfl, hys, _⟩ := hy
        obtain ⟨h2, h3⟩ := sameBits_many h hys hxs 9999
        show Instr.sameBits (9999 + 1) _ _ = true
        simp only [Instr.sameBits, Bool.and_eq_true, beq_iff_eq]
        exact ⟨by simpa using h2, h3⟩
      | _ => simp [keyEq] at h
  simp [Instr.keyThatStays, hs, pure, Sem.run]

theorem checkKey_flat {P : Program} (em : Bool) (d : Nat) (t : TypeId) (x : Value) (h : (∃ k, P.underlying t = some (.int k)) ∨ P.underlying t = some .string ∨ P.underlying t = some .bool) : (Instr.checkKey em (d + 1) t x).run P w = .ok () w := by
  rcases h with ⟨k, hu⟩ | hu | hu <;> simp [Instr.checkKey, run_underlying hu, pure, Sem.run]

theorem checkKey_fields {P : Program} {E : Env} (em : Bool) (d : Nat) {xs : Array Value} : ∀ (fl : List Field) (k : Nat) (ks : List FK) (bs : List AVal), flatFields P fl k = some ks → VsRel E φ w bs (xs.toList.drop k) → eqFs ks bs bs ≠ none →
    (forIn fl PUnit.unit fun f _ => (if f.name ≠ "_" then (do
      let v ← part f.type xs f.offset
      Instr.checkKey em (d + 1) f.type v
      pure (ForInStep.yield PUnit.unit)) else pure (ForInStep.yield PUnit.unit) : Sem (ForInStep PUnit))).run P w = .ok PUnit.unit w := by
  intro fl
  induction fl with
  | nil => intro k ks bs _ _ _; simp [pure, Sem.run]
  | cons f fl ih =>
    intro k ks bs hf hb he
    simp only [flatFields] at hf
    split at hf
    · rename_i q l' hq hl'
      split at hf
      · rename_i hcond
        obtain ⟨hname, hoff⟩ := hcond
        simp only [Option.some.injEq] at hf; subst hf
        cases bs with
        | nil => simp [eqFs] at he
        | cons b bs =>
          obtain ⟨vb, hvb, hrb⟩ := hb.get (i := 0) rfl
          rw [List.getElem?_drop] at hvb
          have gb : xs[f.offset]? = some vb := by rw [hoff]; simpa using hvb
          have pb := flatT_part (w := w) hq gb
          have hfl : (∃ k, P.underlying f.type = some (.int k)) ∨ P.underlying f.type = some .string ∨ P.underlying f.type = some .bool := by
            simp only [flatT] at hq
            split at hq <;> simp_all
          have hck := checkKey_flat (w := w) em d f.type vb hfl
          have hb' := hb.drop 1
          simp only [List.drop_succ_cons, List.drop_zero, List.drop_drop] at hb'
          have he' : eqFs l' bs bs ≠ none := by
            simp only [eqFs] at he
            intro hn
            rw [hn] at he
            split at he <;> first | exact he rfl | skip
            rename_i hfalse
            have : eqF q b b = some true ∨ eqF q b b = none := by
              unfold eqF; split <;> first | (split <;> simp) | simp
            rcases this with h | h <;> rw [h] at hfalse <;> cases hfalse
          have ih' := ih (k + 1) l' bs hl' (by simpa [Nat.add_comm] using hb') he'
          simp only [List.forIn_cons, hname, ne_eq, not_false_eq_true, if_true, Sem.run_bind, pb, Result.andThen, hck]
          simp only [pure, Sem.run]
          simp only [pure] at ih'
          exact ih'
      · cases hf
    · cases hf

theorem checkKey_deep {P : Program} {t : TypeId} {kk : KK} {a : AVal} {x : Value} {E : Env} (d : Nat) (hk : keyT P t = some kk) (hx : VRel E φ w a x) (hok : keyEq kk a a ≠ none) (em : Bool) : (Instr.checkKey em (d + 1 + 1) t x).run P w = .ok () w := by
  simp only [keyT] at hk
  split at hk
  · rename_i k hu
    exact checkKey_flat em (d + 1) t x (.inl ⟨k, hu⟩)
  · rename_i hu
    exact checkKey_flat em (d + 1) t x (.inr (.inl hu))
  · rename_i fs hu
    split at hk
    · rename_i l hl
      simp only [Option.some.injEq] at hk; subst hk
      obtain ⟨fs', hu', h1, h2, h3⟩ := flatStruct_at hl
      rw [hu] at hu'; cases hu'
      cases a with
      | agg as =>
        simp only [VRel] at hx
        obtain ⟨xs, rfl, hxs, _⟩ := hx
        have hk2 := checkKey_fields (w := w) em d fs.toList 0 l as h3 (by simpa using hxs) (by simpa [keyEq] using hok)
        generalize d + 1 = e at hk2 ⊢
        simp only [Instr.checkKey, Sem.run_bind, run_underlying hu, Result.andThen]
        rw [← Array.forIn_toList, hk2]
        rfl
      | _ => simp [keyEq] at hok
    · cases hk
  · cases hk

theorem checkKey_run {P : Program} {t : TypeId} {kk : KK} {a : AVal} {x : Value} {E : Env} (hk : keyT P t = some kk) (hx : VRel E φ w a x) (hok : keyEq kk a a ≠ none) (em : Bool) : (Instr.checkKey em 10000 t x).run P w = .ok () w :=
  checkKey_deep 9998 hk hx hok em

end

end Go.Rv

namespace Go.Rv

section
variable {N : Num} {φ : Phi} {w : World} {T : List AVal} {Hp : AHeap} {nxt : Nat} {wr : IntKind → Int → Int} {ρ : Operand → Value} {o : Oper} {v : AVal} {e : Eff}

theorem setObj_map {P : Program} {w : World} {r : Nat} {es : Array MapEntry} {clk : Nat} (ob : Obj) (h : w.heap[r]? = some (.map es clk)) : (setObj r ob).run P w = .ok () (setBlk w r ob) := by
  simp [setObj, Sem.run, h, setBlk]

/-- What a search comes to. -/
def Found (E : Env) (φ : Phi) (w : World) (kk : KK) (k : AVal) (es : List (AVal × AVal)) (ms : List MapEntry) (i : Nat) (r : Option (Nat × AVal)) (res : Option (Nat × Value)) : Prop :=
  match r with
  | none => res = none
  | some (j, a) => ∃ e m, es[j - i]? = some e ∧ ms[j - i]? = some m ∧ i ≤ j ∧ res = some (j, m.val) ∧ e.2 = a ∧ keyEq kk k e.1 = some true ∧ VRel E φ w e.1 m.key ∧ VRel E φ w a m.val

theorem find_of {E : Env} {kk : KK} {k : AVal} (Q : List MapEntry → Nat → Option (Nat × Value) → Prop) (hq0 : ∀ i, Q [] i none)
    (hq1 : ∀ m ms i b, VRel E φ w b m.key → keyEq kk k b = some true → Q (m :: ms) i (some (i, m.val)))
    (hq2 : ∀ m ms i b r, VRel E φ w b m.key → keyEq kk k b = some false → Q ms (i + 1) r → Q (m :: ms) i r) :
    ∀ (es : List (AVal × AVal)) (ms : List MapEntry) (i : Nat) (r : Option (Nat × AVal)), EntsRel E φ w es ms → mapFind kk es k i = some r → ∃ res, Q ms i res ∧ Found E φ w kk k es ms i r res
  | [], ms, i, r, he, h => by
    simp only [EntsRel] at he; subst he
    simp only [mapFind] at h
    split at h
    · simp only [Option.some.injEq] at h; subst h
      exact ⟨none, hq0 i, rfl⟩
    · cases h
  | e :: es, ms, i, r, he, h => by
    cases ms with
    | nil => simp [EntsRel] at he
    | cons m ms =>
      simp only [EntsRel] at he
      simp only [mapFind] at h
      split at h
      · rename_i hk
        simp only [Option.some.injEq] at h; subst h
        exact ⟨some (i, m.val), hq1 m ms i e.1 he.1 hk, e, m, by simp, by simp, Nat.le_refl _, rfl, rfl, hk, he.1, he.2.1⟩
      · rename_i hk
        obtain ⟨res, h1, h2⟩ := find_of Q hq0 hq1 hq2 es ms (i + 1) r he.2.2 h
        refine ⟨res, hq2 m ms i e.1 res he.1 hk h1, ?_⟩
        cases r with
        | none => exact h2
        | some p =>
          obtain ⟨e', m', a1, a2, a3, a4⟩ := h2
          refine ⟨e', m', ?_, ?_, by omega, a4⟩
          · rw [show p.1 - i = (p.1 - (i + 1)) + 1 by omega]; simpa using a1
          · rw [show p.1 - i = (p.1 - (i + 1)) + 1 by omega]; simpa using a2
      · cases h

theorem sameNow_of {E : Env} {f : FK} {a b : AVal} {x y : Value} {r : Bool} {d : TypeDesc} (hd : (f = .int ∧ ∃ k, d = .int k) ∨ (f = .str ∧ d = .string)) (h : eqF f a b = some r) (hx : VRel E φ w a x) (hy : VRel E φ w b y) : Instr.sameNow d x y = some r := by
  unfold eqF at h
  split at h
  · split at h
    · rename_i hk; subst hk
      simp only [VRel] at hx hy; subst hx hy
      rcases hd with ⟨_, k, rfl⟩ | ⟨h0, _⟩
      · simp at h; simp [Instr.sameNow, h]
      · cases h0
    · cases h
  · simp only [VRel] at hx hy
    obtain ⟨p, rfl, hp⟩ := hx
    obtain ⟨q, rfl, hq⟩ := hy
    rcases hd with ⟨h0, _⟩ | ⟨_, rfl⟩
    · cases h0
    · simp only [Option.some.injEq] at h
      simp only [Instr.sameNow, Option.some.injEq]
      rw [← h, ← hp, ← hq]
      rw [beq_toListBytes, ByteArray.toList_eq, ByteArray.toList_eq, map_toNat_beq]
  · rcases hd with ⟨h0, _⟩ | ⟨h0, _⟩ <;> cases h0
  · cases h

theorem findKey_run {t : TypeId} {kk : KK} {k : AVal} {key : Value} {es : List (AVal × AVal)} {ms : List MapEntry} {r : Option (Nat × AVal)} (hk : keyT N.P t = some kk) (hkey : VRel N.env φ w k key) (he : EntsRel N.env φ w es ms)
    (h : mapFind kk es k 0 = some r) : ∃ res, (Instr.findKey t key ms).run N.P w = .ok res w ∧ Found N.env φ w kk k es ms 0 r res := by
  have one : ∀ (f : FK) (d : TypeDesc), kk = .one f → N.P.underlying t = some d → ((f = .int ∧ ∃ k, d = .int k) ∨ (f = .str ∧ d = .string)) → ∃ res, (Instr.findKey t key ms).run N.P w = .ok res w ∧ Found N.env φ w kk k es ms 0 r res := by
    intro f d hkk hu hd
    subst hkk
    obtain ⟨res, h1, h2⟩ := find_of (kk := .one f) (k := k) (fun ms i r => Instr.findNow d key ms i = some r) (fun i => rfl)
      (fun m ms i b hb hq => by simp only [keyEq] at hq; simp only [Instr.findNow, sameNow_of hd hq hkey hb])
      (fun m ms i b r hb hq h => by simp only [keyEq] at hq; simp only [Instr.findNow, sameNow_of hd hq hkey hb]; exact h) es ms 0 r he h
    exact ⟨res, by simp [Instr.findKey, run_underlying hu, h1, pure, Sem.run], h2⟩
  simp only [keyT] at hk
  split at hk
  · rename_i q hu
    exact one .int _ (by simpa using hk.symm) hu (.inl ⟨rfl, q, rfl⟩)
  · rename_i hu
    exact one .str _ (by simpa using hk.symm) hu (.inr ⟨rfl, rfl⟩)
  · rename_i fs hu
    split at hk
    · rename_i l hl
      simp only [Option.some.injEq] at hk; subst hk
      cases k with
      | agg as =>
        simp only [VRel] at hkey
        obtain ⟨xs, rfl, hxs, _⟩ := hkey
        obtain ⟨res, h1, h2⟩ := find_of (kk := .many l) (k := .agg as) (fun ms i r => (Instr.findAsking t (.agg xs) ms i).run N.P w = .ok r w) (fun i => by simp [Instr.findAsking, pure, Sem.run])
          (fun m ms i b hb hq => by
            cases b with
            | agg bs =>
              simp only [keyEq] at hq
              simp only [VRel] at hb
              obtain ⟨ys, hy, hys, _⟩ := hb
              have := eqAgg_run hl hq hxs hys 9998
              rw [← hy] at this
              simp [Instr.findAsking, Op.equal, Op.maxDepth, this, pure, Sem.run]
            | _ => simp [keyEq] at hq)
          (fun m ms i b r hb hq h => by
            cases b with
            | agg bs =>
              simp only [keyEq] at hq
              simp only [VRel] at hb
              obtain ⟨ys, hy, hys, _⟩ := hb
              have := eqAgg_run hl hq hxs hys 9998
              rw [← hy] at this
              simp [Instr.findAsking, Op.equal, Op.maxDepth, this]
              exact h
            | _ => simp [keyEq] at hq) es ms 0 r he h
        refine ⟨res, ?_, h2⟩
        have hn : Instr.findNow (.struct fs) (.agg xs) ms 0 = some res ∨ Instr.findNow (.struct fs) (.agg xs) ms 0 = none := by
          cases ms with
          | nil => left; simp only [Instr.findNow]; simp [Instr.findAsking, pure, Sem.run] at h1; simpa using h1
          | cons m ms => right; simp [Instr.findNow, Instr.sameNow]
        rcases hn with hn | hn
        · simp [Instr.findKey, run_underlying hu, hn, pure, Sem.run]
        · simp only [Instr.findKey, Sem.run_bind, run_underlying hu, Result.andThen, hn]; exact h1
      | _ =>
        cases es with
        | nil =>
          simp only [EntsRel] at he; subst he
          simp [mapFind, keyFit] at h
        | cons e es => simp [mapFind, keyEq] at h
    · cases hk
  · cases hk

theorem fitF_eq {f : FK} {a : AVal} (h : fitF f a = true) : eqF f a a = some true := by
  unfold fitF at h
  split at h <;> first | (cases h; done) | simp [eqF]

theorem fitFs_eq : ∀ {fs : List FK} {as : List AVal}, fitFs fs as = true → eqFs fs as as = some true
  | [], as, h => by cases as <;> simp_all [fitFs, eqFs]
  | f :: fs, [], h => by simp [fitFs] at h
  | f :: fs, a :: as, h => by
    simp only [fitFs, Bool.and_eq_true] at h
    simp [eqFs, fitF_eq h.1, fitFs_eq h.2]

theorem keyFit_eq {kk : KK} {a : AVal} (h : keyFit kk a = true) : keyEq kk a a = some true := by
  unfold keyFit at h
  split at h
  · simpa [keyEq] using fitF_eq h
  · simpa [keyEq] using fitFs_eq h
  · cases h

theorem mapFind_fit {kk : KK} {k : AVal} : ∀ {es : List (AVal × AVal)} {i : Nat} {r : Option (Nat × AVal)}, mapFind kk es k i = some r → keyEq kk k k = some true
  | [], i, r, h => by
    simp only [mapFind] at h
    split at h
    · rename_i hk; exact keyFit_eq hk
    · cases h
  | e :: es, i, r, h => by
    simp only [mapFind] at h
    split at h
    · rename_i hk
      have := keyEq_eq hk
      rw [← this] at hk; exact hk
    · exact mapFind_fit h
    · cases h

theorem lookup_does {x ix : Operand} {t kt el : TypeId} {ok : Bool} {a b : Opd} {kk : KK} {z : AVal} (ho : o.op = .lookup t x ix ok) (hu : N.P.underlying t = some (.map kt el)) (hkk : keyT N.P kt = some kk) (hz : zeroT N.P el = some z)
    (hx : VRel N.env φ w (ev T a) (ρ x)) (hy : VRel N.env φ w (ev T b) (ρ ix)) (H : HRel N.env φ w (get Hp)) (h : aop wr nxt (.lookup kk z a b ok) T Hp = some (v, e)) : Does N.env φ w (get Hp) nxt (execOp ρ o) v e := by
  simp only [aop] at h
  split at h
  · rename_i id ea
    rw [ea] at hx
    split at h
    · rename_i es hc
      obtain ⟨l, ents, clk, hl, hg, hb, hv, _⟩ := H.mapAt (get_some hc)
      have hx := map_form hx hl hg
      have key : ∀ (r : Option (Nat × AVal)) (q : AVal) (ob : Bool), mapFind kk es (ev T b) 0 = some r → (q = (match r with | some (_, a) => a | none => z)) → ob = r.isSome → Does N.env φ w (get Hp) nxt (execOp ρ o) (bif ok then .tuple [q, .bool ob] else q) .none := by
        intro r q ob hf hq hob
        obtain ⟨res, h1, h2⟩ := findKey_run hkk hy hv hf
        have hck := checkKey_run (P := N.P) hkk hy (by rw [mapFind_fit hf]; simp) ents.isEmpty
        obtain ⟨vz, hvz, hrz0⟩ := zeroT_run hz w
        have hrz : VRel N.env φ w z vz := absV_rel hrz0
        have hex : ∃ y, VRel N.env φ w q y ∧ (Instr.lookup t (ρ x) (ρ ix) ok).run N.P w = .ok (if ok then .tuple #[y, .bool ob] else y) w := by
          rw [hx]
          cases r with
          | none =>
            simp only at hq; subst hq
            simp only [Found] at h2; subst h2
            simp only [Option.isSome_none] at hob; subst hob
            refine ⟨vz, hrz, ?_⟩
            simp [Instr.lookup, run_underlying hu, getObj_run hb, hck, h1, hvz, pure, Sem.run]
          | some p =>
            simp only at hq; subst hq
            obtain ⟨e', m, _, _, _, rfl, _, _, _, hm⟩ := h2
            simp only [Option.isSome_some] at hob; subst hob
            refine ⟨m.val, hm, ?_⟩
            simp [Instr.lookup, run_underlying hu, getObj_run hb, hck, h1, pure, Sem.run]
        obtain ⟨y, hy1, hy2⟩ := hex
        refine Does.val (s := Instr.lookup t (ρ x) (ρ ix) ok) (x := if ok then .tuple #[y, .bool ob] else y) ?_ H hy2 ?_
        · simp [execOp, ho]
        · cases ok
          · simpa using hy1
          · simp [VRel, VsRel, hy1]
      split at h
      · rename_i i q hf
        simp only [Option.some.injEq, Prod.mk.injEq] at h
        obtain ⟨rfl, rfl⟩ := h
        exact key _ _ _ hf rfl rfl
      · rename_i hf
        simp only [Option.some.injEq, Prod.mk.injEq] at h
        obtain ⟨rfl, rfl⟩ := h
        exact key _ _ _ hf rfl rfl
      · cases h
    · cases h
  · cases h

theorem EntsRel.modify {E : Env} : ∀ {es : List (AVal × AVal)} {ms : List MapEntry} {i : Nat} {a : AVal} {x key : Value}, EntsRel E φ w es ms → (∀ e, es[i]? = some e → VRel E φ w e.1 key) → VRel E φ w a x →
    EntsRel E φ w (es.modify i fun e => (e.1, a)) (ms.modify i fun m => { m with key := key, val := x })
  | [], ms, i, a, x, key, h, _, _ => by simp only [EntsRel] at h; subst h; simp [EntsRel]
  | e :: es, ms, i, a, x, key, h, hk, hx => by
    cases ms with
    | nil => simp [EntsRel] at h
    | cons m ms =>
      simp only [EntsRel] at h
      cases i with
      | zero => simp only [List.modify_zero_cons, EntsRel]; exact ⟨hk e (by simp), hx, h.2.2⟩
      | succ i => simp only [List.modify_succ_cons, EntsRel]; exact ⟨h.1, h.2.1, EntsRel.modify h.2.2 (fun e he => hk e (by simpa using he)) hx⟩

theorem born_modify (ms : List MapEntry) (i : Nat) (key x : Value) : (ms.modify i fun m => { m with key := key, val := x }).map (·.born) = ms.map (·.born) := by
  apply List.ext_getElem?
  intro j
  simp only [List.getElem?_map, List.getElem?_modify]
  cases ms[j]? with
  | none => simp
  | some m => by_cases h : i = j <;> simp [h]

theorem EntsRel.push {E : Env} : ∀ {es : List (AVal × AVal)} {ms : List MapEntry} {e : AVal × AVal} {m : MapEntry}, EntsRel E φ w es ms → VRel E φ w e.1 m.key → VRel E φ w e.2 m.val → EntsRel E φ w (es ++ [e]) (ms ++ [m])
  | [], ms, e, m, h, h1, h2 => by simp only [EntsRel] at h; subst h; simp [EntsRel, h1, h2]
  | e0 :: es, ms, e, m, h, h1, h2 => by
    cases ms with
    | nil => simp [EntsRel] at h
    | cons m0 ms => simp only [EntsRel] at h; simp only [List.cons_append, EntsRel]; exact ⟨h.1, h.2.1, EntsRel.push h.2.2 h1 h2⟩

theorem EntsRel.erase {E : Env} : ∀ {es : List (AVal × AVal)} {ms : List MapEntry} {i : Nat}, EntsRel E φ w es ms → EntsRel E φ w (es.eraseIdx i) (ms.eraseIdx i)
  | [], ms, i, h => by simp only [EntsRel] at h; subst h; simp [EntsRel]
  | e :: es, ms, i, h => by
    cases ms with
    | nil => simp [EntsRel] at h
    | cons m ms =>
      simp only [EntsRel] at h
      cases i with
      | zero => simpa [EntsRel] using h.2.2
      | succ i => simp only [List.eraseIdx_cons_succ, EntsRel]; exact ⟨h.1, h.2.1, EntsRel.erase h.2.2⟩

theorem mapUpdate_does {m k x : Operand} {t kt el : TypeId} {a b c : Opd} {kk : KK} (ho : o.op = .mapUpdate t m k x ∨ o.op = .insert t m k x) (hu : N.P.underlying t = some (.map kt el)) (hkk : keyT N.P kt = some kk)
    (hm : VRel N.env φ w (ev T a) (ρ m)) (hk : VRel N.env φ w (ev T b) (ρ k)) (hx : VRel N.env φ w (ev T c) (ρ x)) (H : HRel N.env φ w (get Hp)) (h : aop wr nxt (.mapUpdate kk a b c) T Hp = some (v, e)) : Does N.env φ w (get Hp) nxt (execOp ρ o) v e := by
  have hop : execOp ρ o = (do Instr.mapUpdate t (ρ m) (ρ k) (ρ x); pure .skip : Sem Next) := by
    rcases ho with ho | ho <;> simp [execOp, ho]
  rw [hop]
  simp only [aop] at h
  split at h
  · rename_i id ea
    rw [ea] at hm
    split at h
    · rename_i es hc
      obtain ⟨l, ents, clk, hl, hg, hb, hv, hborn, hpw⟩ := H.mapAt (get_some hc)
      have hlt := heap_lt hb
      have hm := map_form hm hl hg
      split at h
      · rename_i i q hf
        simp only [Option.some.injEq, Prod.mk.injEq] at h
        obtain ⟨rfl, rfl⟩ := h
        obtain ⟨res, h1, h2⟩ := findKey_run hkk hk hv hf
        have hck := checkKey_run (P := N.P) hkk hk (by rw [mapFind_fit hf]; simp) false
        obtain ⟨e', m0, hei, hmi, _, rfl, _, hke, hkey, _⟩ := h2
        simp only [Nat.sub_zero, Array.getElem?_toList] at hmi
        have e0 : (ents.modify i fun e => { e with key := ρ k, val := ρ x }).toList = ents.toList.modify i fun e => { e with key := ρ k, val := ρ x } := by simp
        have hst := keyStays_run (P := N.P) hke hk hkey
        obtain ⟨ext, hr⟩ := H.turn hl (Nat.le_refl _) (fun _ => rfl) rfl (.map (ents.modify i fun e => { e with key := ρ k, val := ρ x }) clk) (by rw [hb]; simp) (o' := .map (es.modify i fun e => (e.1, ev T c))) fun ext => by
          refine ⟨l, _, clk, rfl, hg, setBlk_same hlt, ?_, ?_, ?_⟩
          · rw [e0]
            refine EntsRel.modify (hv.mono ext) (fun e2 he2 => ?_) (hx.mono ext)
            rw [Nat.sub_zero, he2] at hei
            cases hei
            rw [← keyEq_eq hke]
            exact hk.mono ext
          · rw [e0]; intro m' hm'
            have : m'.born ∈ (ents.toList.map (·.born)) := by rw [← born_modify ents.toList i (ρ k) (ρ x)]; exact List.mem_map_of_mem hm'
            obtain ⟨m2, h2, h3⟩ := List.mem_map.1 this
            rw [← h3]; exact hborn m2 h2
          · rw [e0, born_modify]; exact hpw
        refine ⟨_, _, undef, .inr ⟨?_, rfl⟩, by simp [undefA, undef, VRel, VsRel], hr, ext⟩
        rw [hm]
        simp [Instr.mapUpdate, run_underlying hu, getObj_run hb, hck, h1, hmi, hst, setObj_map _ hb, pure, Sem.run]
      · rename_i hf
        simp only [Option.some.injEq, Prod.mk.injEq] at h
        obtain ⟨rfl, rfl⟩ := h
        obtain ⟨res, h1, h2⟩ := findKey_run hkk hk hv hf
        have hck := checkKey_run (P := N.P) hkk hk (by rw [mapFind_fit hf]; simp) false
        simp only [Found] at h2; subst h2
        obtain ⟨ext, hr⟩ := H.turn hl (Nat.le_refl _) (fun _ => rfl) rfl (.map (ents.push { key := ρ k, val := ρ x, born := clk }) (clk + 1)) (by rw [hb]; simp) (o' := .map (es ++ [(ev T b, ev T c)])) fun ext => by
          refine ⟨l, _, clk + 1, rfl, hg, setBlk_same hlt, ?_, ?_, ?_⟩
          · rw [Array.toList_push]; exact EntsRel.push (hv.mono ext) (hk.mono ext) (hx.mono ext)
          · intro m' hm'
            rw [Array.toList_push, List.mem_append] at hm'
            rcases hm' with hm' | hm'
            · have := hborn m' hm'; omega
            · simp at hm'; subst hm'; simp
          · rw [Array.toList_push, List.map_append, List.pairwise_append]
            refine ⟨hpw, by simp, fun p hp q hq => ?_⟩
            simp at hq; subst hq
            obtain ⟨m', hm', rfl⟩ := List.mem_map.1 hp
            exact hborn m' hm'
        refine ⟨_, _, undef, .inr ⟨?_, rfl⟩, by simp [undefA, undef, VRel, VsRel], hr, ext⟩
        rw [hm]
        simp [Instr.mapUpdate, run_underlying hu, getObj_run hb, hck, h1, setObj_map _ hb, pure, Sem.run]
      · cases h
    · cases h
  · cases h

theorem delete_does {m k : Operand} {t kt el : TypeId} {ts : Array TypeId} {a b : Opd} {kk : KK} (ho : o.op = .call { callee := .builtin .delete, args := #[m, k], argTypes := ts }) (ht : ts[0]? = some t) (hu : N.P.underlying t = some (.map kt el)) (hkk : keyT N.P kt = some kk)
    (hm : VRel N.env φ w (ev T a) (ρ m)) (hk : VRel N.env φ w (ev T b) (ρ k)) (H : HRel N.env φ w (get Hp)) (h : aop wr nxt (.delete kk a b) T Hp = some (v, e)) : Does N.env φ w (get Hp) nxt (execOp ρ o) v e := by
  have hop : execOp ρ o = (do pure (Next.value (← Builtin.delete_ ts o.type #[ρ m, ρ k])) : Sem Next) := by
    simp [execOp, ho, resolve, invoke, builtin]
  rw [hop]
  simp only [aop] at h
  split at h
  · rename_i id ea
    rw [ea] at hm
    split at h
    · rename_i es hc
      obtain ⟨l, ents, clk, hl, hg, hb, hv, hborn, hpw⟩ := H.mapAt (get_some hc)
      have hlt := heap_lt hb
      have hm := map_form hm hl hg
      split at h
      · rename_i i q hf
        simp only [Option.some.injEq, Prod.mk.injEq] at h
        obtain ⟨rfl, rfl⟩ := h
        obtain ⟨res, h1, h2⟩ := findKey_run hkk hk hv hf
        have hck := checkKey_run (P := N.P) hkk hk (by rw [mapFind_fit hf]; simp) ents.isEmpty
        obtain ⟨e', m0, _, hmi, _, rfl, _, hke, hkey, _⟩ := h2
        obtain ⟨ext, hr⟩ := H.turn hl (Nat.le_refl _) (fun _ => rfl) rfl (.map (ents.eraseIdxIfInBounds i) clk) (by rw [hb]; simp) (o' := .map (es.eraseIdx i)) fun ext => by
          have e0 : (ents.eraseIdxIfInBounds i).toList = ents.toList.eraseIdx i := by simp
          refine ⟨l, _, clk, rfl, hg, setBlk_same hlt, ?_, ?_, ?_⟩
          · rw [e0]; exact (hv.mono ext).erase
          · rw [e0]; intro m' hm'; exact hborn m' (List.mem_of_mem_eraseIdx hm')
          · rw [e0]; exact hpw.sublist ((List.eraseIdx_sublist ..).map _)
        refine ⟨_, _, .tuple #[], .inl ?_, by simp [undefA, undef, VRel, VsRel], hr, ext⟩
        rw [hm]
        simp [Builtin.delete_, ht, run_underlying hu, getObj_run hb, hck, h1, setObj_map _ hb, pure, Sem.run]
      · rename_i hf
        simp only [Option.some.injEq, Prod.mk.injEq] at h
        obtain ⟨rfl, rfl⟩ := h
        obtain ⟨res, h1, h2⟩ := findKey_run hkk hk hv hf
        have hck := checkKey_run (P := N.P) hkk hk (by rw [mapFind_fit hf]; simp) ents.isEmpty
        simp only [Found] at h2; subst h2
        refine ⟨w, φ, .tuple #[], .inl ?_, by simp [undefA, undef, VRel, VsRel], H, Ext.refl _ _⟩
        rw [hm]
        simp [Builtin.delete_, ht, run_underlying hu, getObj_run hb, hck, h1, setObj_map _ hb, setBlk_self hb, pure, Sem.run]
      · cases h
    · cases h
  · cases h

end

end Go.Rv

namespace Go.Rv

section
variable {N : Num} {φ : Phi} {w : World} {T : List AVal} {Hp : AHeap} {nxt : Nat} {wr : IntKind → Int → Int} {ρ : Operand → Value} {o : Oper} {v : AVal} {e : Eff}

/-- A bound that may be wanting. -/
def OptRel (E : Env) (φ : Phi) (w : World) (T : List AVal) (ρ : Operand → Value) : Option Operand → Option Opd → Prop
  | none, none => True
  | some x, some a => VRel E φ w (ev T a) (ρ x)
  | _, _ => False

theorem sliceBound_run {P : Program} {q : IntKind} {k y : Nat} (c : BoundsCode) (h : k ≤ y) : (Instr.sliceBound (.int q (k : Int)) y c).run P w = .ok k w := by
  simp [Instr.sliceBound, asIntOf, h, pure, Sem.run]

theorem sliceBounds_run {P : Program} {E : Env} {lo hi : Option Operand} {la ha : Option Opd} {l h len cap : Nat} (hl : OptRel E φ w T ρ lo la) (hh : OptRel E φ w T ρ hi ha)
    (h1 : bound T 0 la = some l) (h2 : bound T len ha = some h) (hle : l ≤ h) (hc : h ≤ cap) (b : Bool) : (Instr.sliceBounds b len cap (lo.map ρ) (hi.map ρ) none).run P w = .ok (l, h, cap) w := by
  have g : ∀ (q : IntKind) (k y : Nat) (c : BoundsCode), k ≤ y → (Instr.sliceBound (.int q (k : Int)) y c).run P w = .ok k w := fun q k y c h => sliceBound_run c h
  cases hi with
  | none =>
    cases ha with
    | some a => exact hh.elim
    | none =>
      simp only [bound, Option.some.injEq] at h2; subst h2
      cases lo with
      | none =>
        cases la with
        | some a => exact hl.elim
        | none =>
          simp only [bound, Option.some.injEq] at h1; subst h1
          simp [Instr.sliceBounds, pure, Sem.run]
      | some x =>
        cases la with
        | none => exact hl.elim
        | some a =>
          obtain ⟨q, hq⟩ := natOf_form (by simpa only [bound] using h1) hl
          simp [Instr.sliceBounds, hq, g _ _ _ _ hle, pure, Sem.run]
  | some y =>
    cases ha with
    | none => exact hh.elim
    | some a2 =>
      obtain ⟨q2, hq2⟩ := natOf_form (by simpa only [bound] using h2) hh
      cases lo with
      | none =>
        cases la with
        | some a => exact hl.elim
        | none =>
          simp only [bound, Option.some.injEq] at h1; subst h1
          cases b <;> simp [Instr.sliceBounds, hq2, g _ _ _ _ hc, pure, Sem.run]
      | some x =>
        cases la with
        | none => exact hl.elim
        | some a =>
          obtain ⟨q, hq⟩ := natOf_form (by simpa only [bound] using h1) hl
          cases b <;> simp [Instr.sliceBounds, hq, hq2, g _ _ _ _ hle, g _ _ _ _ hc, pure, Sem.run]

theorem sliceStr_does {x : Operand} {lo hi : Option Operand} {la ha : Option Opd} {t : TypeId} {a : Opd} (ho : o.op = .slice t x lo hi none) (hu : N.P.underlying t = some .string)
    (hx : VRel N.env φ w (ev T a) (ρ x)) (hl : OptRel N.env φ w T ρ lo la) (hh : OptRel N.env φ w T ρ hi ha) (H : HRel N.env φ w (get Hp)) (h : aop wr nxt (.sliceStr a la ha) T Hp = some (v, e)) :
    Does N.env φ w (get Hp) nxt (execOp ρ o) v e := by
  simp only [aop] at h
  split at h
  · rename_i s ea
    rw [ea] at hx
    simp only [VRel] at hx
    obtain ⟨b, hb, rfl⟩ := hx
    split at h
    · rename_i l u hl1 hu1
      split at h
      · rename_i hcond
        simp only [Option.some.injEq, Prod.mk.injEq] at h
        obtain ⟨rfl, rfl⟩ := h
        have hsz : (b.data.toList.map UInt8.toNat).length = b.size := by rw [List.length_map, Array.length_toList]; rfl
        rw [hsz] at hu1 hcond
        have hsb := sliceBounds_run (P := N.P) (cap := b.size) hl hh hl1 hu1 hcond.1 hcond.2 false
        refine Does.val (s := Instr.sliceAt t (ρ x) (lo.map ρ) (hi.map ρ) none) (x := .string (b.extract l u)) ?_ H ?_ ?_
        · simp [execOp, ho]
        · rw [hb]; simp [Instr.sliceAt, Instr.slice, run_underlying hu, hsb, pure, Sem.run]
        · refine ⟨_, rfl, ?_⟩
          simp [ByteArray.data_extract, List.map_drop, List.map_take, List.extract_eq_take_drop]
      · cases h
    · cases h
  · cases h

theorem sliceRow_does {x : Operand} {lo hi : Option Operand} {la ha : Option Opd} {t el : TypeId} {a : Opd} {sz : Nat} (ho : o.op = .slice t x lo hi none) (hu : N.P.underlying t = some (.slice el)) (hs : sizeT N.P el = some sz)
    (hx : VRel N.env φ w (ev T a) (ρ x)) (hl : OptRel N.env φ w T ρ lo la) (hh : OptRel N.env φ w T ρ hi ha) (H : HRel N.env φ w (get Hp)) (h : aop wr nxt (.sliceRow sz a la ha) T Hp = some (v, e)) :
    Does N.env φ w (get Hp) nxt (execOp ρ o) v e := by
  have key : ∀ (p : Option Addr) (len cap l u : Nat), ρ x = .slice p len cap → bound T 0 la = some l → bound T len ha = some u → l ≤ u → u ≤ cap →
      (Instr.sliceAt t (ρ x) (lo.map ρ) (hi.map ρ) none).run N.P w = .ok (.slice (if cap = l then p else p.map (·.add (l * sz))) (u - l) (cap - l)) w := by
    intro p len cap l u hx0 hl1 hu1 h1 h2
    have hsb := sliceBounds_run (P := N.P) (cap := cap) hl hh hl1 hu1 h1 h2 true
    rw [hx0]
    simp [Instr.sliceAt, Instr.slice, run_underlying hu, hsb, sizeT_run hs, pure, Sem.run]
  have hop : execOp ρ o = (do pure (Next.value (← Instr.sliceAt t (ρ x) (lo.map ρ) (hi.map ρ) none)) : Sem Next) := by simp [execOp, ho]
  simp only [aop] at h
  split at h
  · rename_i id gen off len ea
    rw [ea] at hx
    cases hc : liveR Hp id gen sz with
    | false => simp [hc] at h
    | true =>
      simp only [hc, cond_true] at h
      split at h
      · rename_i l u hl1 hu1
        split at h
        · rename_i hcond
          simp only [Option.some.injEq, Prod.mk.injEq] at h
          obtain ⟨rfl, rfl⟩ := h
          obtain ⟨lc, hlc, hg, hsz⟩ := liveR_at H hc
          obtain ⟨p, cap, hx0, hcap, htop, hp⟩ := slice_form hx hlc hg
          refine Does.val hop H (key _ _ _ _ _ hx0 hl1 hu1 hcond.1 (by omega)) ?_
          simp only [VRel, hlc]
          refine ⟨rfl, by omega, fun _ => ?_⟩
          by_cases hcl : cap = l
          · subst hcl
            exact ⟨p, 0, by simp, by omega, by omega, .inl rfl⟩
          · rcases hp with h0 | hp
            · omega
            · refine ⟨p.add (l * sz), cap - l, by simp [hcl], by omega, by omega, .inr ?_⟩
              rw [hp, add_none, hsz, Nat.add_mul, Nat.add_assoc]
        · cases h
      · cases h
  · rename_i s es ea
    rw [ea] at hx
    split at h
    · rename_i hss
      split at h
      · rename_i l u hl1 hu1
        split at h
        · rename_i hcond
          simp only [Option.some.injEq, Prod.mk.injEq] at h
          obtain ⟨rfl, rfl⟩ := h
          simp only [VRel] at hx
          obtain ⟨p, cap, hx0, hcap, hx⟩ := hx
          refine Does.val hop H (key _ _ _ _ _ hx0 hl1 hu1 hcond.1 (by omega)) ?_
          subst hss
          have hlen : ((es.drop l).take (u - l)).length = u - l := by simp; omega
          simp only [VRel, hlen]
          refine ⟨if cap = l then p else p.add (l * s), cap - l, by split <;> simp, by omega, ?_⟩
          by_cases hcl : u = l
          · subst hcl; left; simp
          · right
            have hcl' : cap ≠ l := by omega
            rcases hx with rfl | ⟨hsp, hb, vs, hr, hv⟩
            · simp at hcond; omega
            · simp only [hcl', if_false]
              have hp : p = ⟨p.block, p.off, none⟩ := by cases p; simp_all
              rw [hp, add_none]
              refine ⟨rfl, hb, (vs.drop (l * s)).take ((u - l) * s), ?_, (hv.drop l).take (u - l)⟩
              have h3 := reads_drop hr (l * s)
              exact reads_prefix (us := (vs.drop (l * s)).drop ((u - l) * s)) (by rw [List.take_append_drop]; exact h3)
        · cases h
      · cases h
    · cases h
  · rename_i ea
    rw [ea] at hx
    split at h
    · rename_i hl1 hu1
      simp only [Option.some.injEq, Prod.mk.injEq] at h
      obtain ⟨rfl, rfl⟩ := h
      simp only [VRel] at hx
      refine Does.val hop H (key _ _ _ _ _ hx hl1 hu1 (Nat.le_refl _) (Nat.le_refl _)) ?_
      simp [VRel]
    · cases h
  · cases h

/-! ### Rows built -/

theorem foldSet (v : Array Value) (off : Nat) (arr : Array Value) (h : off + v.size ≤ arr.size) :
    (v.zipIdx.foldl (fun cs p => cs.setIfInBounds (off + p.2) p.1) arr).toList = spliceV arr.toList off v.toList := by
  have hset : ∀ (us : List Value) (arr : Array Value) (k : Nat), off + k + us.length ≤ arr.size →
      ((us.zipIdx k).foldl (fun cs p => cs.setIfInBounds (off + p.2) p.1) arr).toList = spliceV arr.toList (off + k) us := by
    intro us
    induction us with
    | nil => intro arr k _; simp [spliceV]
    | cons u us ih =>
      intro arr k hk
      simp only [List.length_cons] at hk
      simp only [List.zipIdx_cons, List.foldl_cons]
      rw [ih _ (k + 1) (by simp; omega), Array.toList_setIfInBounds, ← Nat.add_assoc, spliceV_cons (by simp; omega)]
  rw [← Array.foldl_toList, Array.toList_zipIdx]
  simpa using hset v.toList arr 0 (by simpa using h)

theorem fill_seq {sz : Nat} : ∀ (parts : List (Nat × Value)) (k : Nat) (cells : Array Value), parts.map (·.1) = List.range' k parts.length → (∀ p ∈ parts, p.2.cells.size = sz) → cells.size = (k + parts.length) * sz →
    ∃ us, Instr.fill (fun i => some (i * sz, sz)) cells parts = some us ∧ us.toList = cells.toList.take (k * sz) ++ parts.flatMap fun p => p.2.cells.toList
  | [], k, cells, _, _, hs => ⟨cells, rfl, by simp only [List.length_nil, Nat.add_zero] at hs; simp only [List.flatMap_nil, List.append_nil]; rw [List.take_of_length_le (by simp; omega)]⟩
  | p :: parts, k, cells, hr, hp, hs => by
    simp only [List.map_cons, List.length_cons, List.range'_succ, List.cons.injEq] at hr
    obtain ⟨hk, hr⟩ := hr
    have hp0 := hp p (by simp)
    simp only [List.length_cons] at hs
    have hs' : cells.size = k * sz + sz + parts.length * sz := by rw [hs]; simp [Nat.add_mul]; omega
    have hle : k * sz + p.2.cells.size ≤ cells.size := by omega
    have hset := foldSet p.2.cells (k * sz) cells hle
    have hsz2 : (p.2.cells.zipIdx.foldl (fun cs p => cs.setIfInBounds (k * sz + p.2) p.1) cells).size = cells.size := by
      have := congrArg List.length hset
      rw [spliceV_length (by simpa using hle)] at this
      simpa using this
    obtain ⟨us, h1, h2⟩ := fill_seq parts (k + 1) (p.2.cells.zipIdx.foldl (fun cs p => cs.setIfInBounds (k * sz + p.2) p.1) cells) hr (fun q hq => hp q (by simp [hq])) (by rw [hsz2, hs]; congr 1; omega)
    obtain ⟨i, x⟩ := p
    simp only at hk; subst hk
    refine ⟨us, ?_, ?_⟩
    · simp only [Instr.fill]
      rw [if_neg (by simp [hp0]; simp only [hp0] at hle; omega)]
      exact h1
    · rw [h2, hset, List.flatMap_cons, ← List.append_assoc]
      congr 1
      simp only [spliceV]
      have e1 : (i + 1) * sz = (cells.toList.take (i * sz)).length + x.cells.toList.length := by
        simp only at hp0
        simp [hp0, Nat.add_mul]; omega
      rw [e1, List.append_assoc, List.take_length_add_append, List.take_left]

theorem cParts_rel {E : Env} (hT : TRel E φ w T ρ N) : ∀ {parts : List (Nat × Operand)} {cp : List (Nat × Opd)}, cParts N parts = some cp →
    cp.map (·.1) = parts.map (·.1) ∧ VsRel E φ w (cp.map fun p => ev T p.2) (parts.map fun p => ρ p.2)
  | [], cp, h => by simp only [cParts, Option.some.injEq] at h; subst h; simp [VsRel]
  | (i, x) :: parts, cp, h => by
    simp only [cParts] at h
    split at h
    · rename_i a l ha hl
      simp only [Option.some.injEq] at h; subst h
      obtain ⟨h1, h2⟩ := cParts_rel hT hl
      exact ⟨by simp [h1], by simp only [List.map_cons, VsRel]; exact ⟨hT x a ha, h2⟩⟩
    · cases h

theorem els_of_sure {E : Env} {sz : Nat} (h0 : 0 < sz) : ∀ {es : List AVal} {vs : List Value}, VsRel E φ w es vs → allSure sz es = true → ElsRel E φ w sz es (vs.flatMap fun x => x.cells.toList) ∧ ∀ x ∈ vs, x.cells.size = sz
  | [], vs, h, _ => by simp only [VsRel] at h; subst h; simp [ElsRel]
  | e :: es, vs, h, hs => by
    cases vs with
    | nil => simp [VsRel] at h
    | cons v vs =>
      simp only [VsRel] at h
      simp only [allSure] at hs
      split at hs
      · rename_i cs hcs
        simp only [Bool.and_eq_true, decide_eq_true_eq] at hs
        obtain ⟨h1, h2⟩ := h.1.sure hcs
        have hl := h1.length
        simp only [Array.length_toList] at hl
        obtain ⟨h3, h4⟩ := els_of_sure h0 h.2 hs.2
        refine ⟨?_, ?_⟩
        · simp only [List.flatMap_cons, ElsRel]
          exact ⟨v, _, h.1, rfl, ⟨by omega, h0⟩, h2, h3⟩
        · intro x hx
          rcases List.mem_cons.1 hx with rfl | hx
          · omega
          · exact h4 x hx
      · cases hs

theorem zeroFits_run {P : Program} {E : Env} {t : TypeId} {z : AVal} {sz : Nat} (hz : zeroT P t = some z) (hf : zeroFits z sz = true) (φ : Phi) (w0 : World) : 0 < sz ∧ ∃ x, (zeroValue t).run P w = .ok x w ∧ x.cells.size = sz ∧ VRel E φ w0 z x ∧ ∀ y ∈ x.cells.toList, oneC y = true := by
  simp only [zeroFits] at hf
  split at hf
  · rename_i zs hzs
    simp only [decide_eq_true_eq] at hf
    obtain ⟨x, hx, ha⟩ := zeroT_run hz w
    have hv := absV_rel (E := E) (φ := φ) (w := w0) ha
    obtain ⟨h1, h2⟩ := hv.sure hzs
    have := h1.length
    simp only [Array.length_toList] at this
    exact ⟨hf.2, x, hx, by omega, hv, h2⟩
  · cases hf

theorem buildSlice_does {t el : TypeId} {n sz : Nat} {z : AVal} {parts : Array (Nat × Operand)} {cp : List (Nat × Opd)} (ho : o.op = .buildSlice t n parts) (hT : TRel N.env φ w T ρ N) (hu : N.P.underlying t = some (.slice el))
    (hz : zeroT N.P el = some z) (hs : sizeT N.P el = some sz) (hf : zeroFits z sz = true) (hle : n * sz ≤ 16777216) (hp : cParts N parts.toList = some cp)
    (hn : get Hp nxt = .un) (H : HRel N.env φ w (get Hp)) (h : aop wr nxt (.buildSlice sz n z cp) T Hp = some (v, e)) : Does N.env φ w (get Hp) nxt (execOp ρ o) v e := by
  have hop : execOp ρ o = (do pure (Next.value (← Instr.buildSlice t n (parts.map fun p => (p.1, ρ p.2)))) : Sem Next) := by simp [execOp, ho]
  simp only [aop] at h
  split at h
  · rename_i hcond
    simp only [Option.some.injEq, Prod.mk.injEq] at h
    obtain ⟨rfl, rfl⟩ := h
    obtain ⟨hr, hall, hzl⟩ := hcond
    obtain ⟨h1, h2⟩ := cParts_rel hT hp
    obtain ⟨h0, x, hx, hxs, hxv, hx1⟩ := zeroFits_run (E := N.env) (w := w) hz hf φ w
    obtain ⟨hels, hsz⟩ := els_of_sure h0 h2 hall
    have hlen : parts.toList.length = n := by
      have := congrArg List.length hr
      rw [h1] at this; simpa using this
    have hcpl : (cp.map fun p => ev T p.2).length = n := by
      rw [List.length_map, ← List.length_map (f := (·.1)), h1]; simpa using hlen
    let L : List (Nat × Value) := parts.toList.map fun p => (p.1, ρ p.2)
    have hL1 : L.map (·.1) = List.range' 0 L.length := by
      have : L.length = n := by simp [L]; simpa using hlen
      rw [this, ← List.range_eq_range', ← hr, h1]; simp [L]
    have hL2 : ∀ p ∈ L, p.2.cells.size = sz := by
      intro p hp
      obtain ⟨q, hq, rfl⟩ := List.mem_map.1 hp
      exact hsz _ (List.mem_map.2 ⟨q, hq, rfl⟩)
    have hLl : L.length = n := by simp [L]; simpa using hlen
    obtain ⟨us, hus, huse⟩ := fill_seq (sz := sz) L 0 ((Array.range (n * sz)).map fun i => (if n * sz = 0 then #[] else x.cells)[i % (if n * sz = 0 then #[] else x.cells).size]!) hL1 hL2 (by simp [hLl])
    simp only [Nat.zero_mul, List.take_zero, List.nil_append] at huse
    have hflat : L.flatMap (fun p => p.2.cells.toList) = (parts.toList.map fun p => ρ p.2).flatMap fun x => x.cells.toList := by simp [L, List.flatMap_map]
    rw [hflat] at huse
    obtain ⟨φ', ext, hr', hp'⟩ := new_row (cap := n) (post := []) H hn el hels (by simp) (by rw [hels.vslen, hcpl]; simp) (Nat.le_of_eq hcpl)
    rw [hcpl] at hp'
    refine ⟨_, φ', _, .inl ?_, hp', hr', ext⟩
    rw [hop]
    refine run_val ?_
    have : us = (List.flatMap (fun (x : Value) => x.cells.toList) (parts.toList.map fun (p : Nat × Operand) => ρ p.2) ++ []).toArray := by
      apply Array.ext'; simpa using huse
    rw [← this]
    simp only [L] at hus
    by_cases hz0 : n * sz = 0
    · simp [hz0] at hus
      simp [Instr.buildSlice, run_underlying hu, sizeT_run hs, hz0, hus, newRow_run, pure, Sem.run]
    · simp [hz0] at hus
      simp [Instr.buildSlice, run_underlying hu, sizeT_run hs, hz0, hx, hus, Nat.not_lt.2 hle, newRow_run, pure, Sem.run]
  · cases h

end

end Go.Rv

namespace Go.Rv

section
variable {N : Num} {φ : Phi} {w : World} {T : List AVal} {Hp : AHeap} {nxt : Nat} {wr : IntKind → Int → Int} {ρ : Operand → Value} {o : Oper} {v : AVal} {e : Eff}

theorem info_run {P : Program} {t : TypeId} {n : Nat} (h : bytesT P t = some n) : ∃ i, P.info? t = some i ∧ i.bytes = n := by
  simp only [bytesT, Option.map_eq_some_iff] at h
  exact h

theorem bytes_run {P : Program} {t : TypeId} {n : Nat} (h : bytesT P t = some n) : ∃ i, (typeInfo t).run P w = .ok i w ∧ i.bytes = n := by
  obtain ⟨i, hi, hn⟩ := info_run h
  exact ⟨i, by simp [typeInfo, hi, pure, Sem.run], hn⟩

theorem els_replicate {E : Env} {sz : Nat} {z : AVal} {x : Value} (h0 : 0 < sz) (hs : x.cells.size = sz) (hz : VRel E φ w z x) (h1 : ∀ y ∈ x.cells.toList, oneC y = true) : ∀ n, ElsRel E φ w sz (List.replicate n z) (List.replicate n x.cells.toList).flatten
  | 0 => by simp [ElsRel]
  | n + 1 => by
    simp only [List.replicate_succ, List.flatten_cons, ElsRel]
    exact ⟨x, _, hz, rfl, ⟨hs, h0⟩, h1, els_replicate h0 hs hz h1 n⟩

theorem cycle_list (zs : Array Value) (h0 : 0 < zs.size) (n : Nat) : ((Array.range (n * zs.size)).map fun i => zs[i % zs.size]!).toList = (List.replicate n zs.toList).flatten := by
  apply List.ext_getElem?
  intro j
  by_cases hj : j < n * zs.size
  · have h1 : ((Array.range (n * zs.size)).map fun i => zs[i % zs.size]!).toList[j]? = some (zs[j % zs.size]!) := by
      simp [hj]
    rw [h1]
    have hlt : j % zs.size < zs.size := Nat.mod_lt _ h0
    have h2 : ∀ (n j : Nat), j < n * zs.size → (List.replicate n zs.toList).flatten[j]? = some (zs[j % zs.size]!) := by
      intro n
      induction n with
      | zero => intro j hj; omega
      | succ n ih =>
        intro j hj
        simp only [List.replicate_succ, List.flatten_cons]
        by_cases hlt : j < zs.size
        · rw [List.getElem?_append_left (by simpa using hlt), Nat.mod_eq_of_lt hlt]
          simp [hlt]
        · rw [List.getElem?_append_right (by simp; omega)]
          have : j % zs.size = (j - zs.size) % zs.size := by rw [Nat.mod_eq_sub_mod (by omega)]
          rw [this, Array.length_toList]
          exact ih _ (by rw [Nat.add_mul] at hj; omega)
    exact (h2 n j hj).symm
  · rw [List.getElem?_eq_none (by simp; omega), List.getElem?_eq_none (by simp; omega)]

theorem makeSlice_does {l c : Operand} {t el : TypeId} {sz bytes : Nat} {z : AVal} {a b : Opd} (ho : o.op = .makeSlice t l c) (hu : N.P.underlying t = some (.slice el)) (hz : zeroT N.P el = some z) (hs : sizeT N.P el = some sz)
    (hb : bytesT N.P el = some bytes) (hf : zeroFits z sz = true) (hl : VRel N.env φ w (ev T a) (ρ l)) (hc : VRel N.env φ w (ev T b) (ρ c)) (hn : get Hp nxt = .un) (H : HRel N.env φ w (get Hp))
    (h : aop wr nxt (.makeSlice sz bytes z a b) T Hp = some (v, e)) : Does N.env φ w (get Hp) nxt (execOp ρ o) v e := by
  have hop : execOp ρ o = (do pure (Next.value (← Instr.makeSlice t (ρ l) (ρ c))) : Sem Next) := by simp [execOp, ho]
  simp only [aop] at h
  split at h
  · rename_i l0 c0 hl0 hc0
    split at h
    · rename_i hcond
      simp only [Option.some.injEq, Prod.mk.injEq] at h
      obtain ⟨rfl, rfl⟩ := h
      obtain ⟨hle, hbig, hbig2, _⟩ := hcond
      obtain ⟨q1, e1⟩ := natOf_form hl0 hl
      obtain ⟨q2, e2⟩ := natOf_form hc0 hc
      obtain ⟨h0, x, hx, hxs, hxv, hx1⟩ := zeroFits_run (E := N.env) (w := w) hz hf φ w
      obtain ⟨i, hi, hib⟩ := bytes_run (w := w) hb
      have hcy := cycle_list x.cells (by omega)
      obtain ⟨φ', ext, hr, hp⟩ := new_row (cap := c0) (vs := (List.replicate l0 x.cells.toList).flatten) (post := (List.replicate (c0 - l0) x.cells.toList).flatten) H hn el (els_replicate h0 hxs hxv hx1 l0)
        (by
          intro y hy
          simp only [List.mem_flatten] at hy
          obtain ⟨s, hs1, hs2⟩ := hy
          rw [List.eq_of_mem_replicate hs1] at hs2
          exact hx1 y hs2)
        (by simp [hxs]; rw [← Nat.add_mul]; congr 1; omega) (by simpa using hle)
      rw [List.length_replicate] at hp
      refine ⟨_, φ', _, .inl ?_, hp, hr, ext⟩
      rw [hop]
      refine run_val ?_
      have hw1 : IntKind.i64.wrap (l0 : Int) = l0 := by simp [IntKind.wrap, IntKind.bits, IntKind.signed]; omega
      have hw2 : IntKind.i64.wrap (c0 : Int) = c0 := by simp [IntKind.wrap, IntKind.bits, IntKind.signed]; omega
      have hcb : ¬ ((bytes : Int) * (c0 : Int) > 281474976710656) := by
        have : (bytes : Int) * (c0 : Int) = ((c0 * bytes : Nat) : Int) := by rw [Nat.mul_comm]; simp
        rw [this]; omega
      have hcells : ((Array.range (c0 * sz)).map fun i => (if c0 * sz = 0 then #[] else x.cells)[i % (if c0 * sz = 0 then #[] else x.cells).size]!) =
          ((List.replicate l0 x.cells.toList).flatten ++ (List.replicate (c0 - l0) x.cells.toList).flatten).toArray := by
        apply Array.ext'
        have h3 : (List.replicate l0 x.cells.toList).flatten ++ (List.replicate (c0 - l0) x.cells.toList).flatten = (List.replicate c0 x.cells.toList).flatten := by
          rw [← List.flatten_append, List.replicate_append_replicate]; congr 2; omega
        simp only [List.toList_toArray]
        rw [h3, ← hcy c0, hxs]
        by_cases hz0 : c0 * sz = 0
        · simp [hz0]
        · simp only [hz0, if_false, hxs]
      rw [e1, e2]
      by_cases hz0 : c0 * sz = 0
      · simp [hz0] at hcells
        simp [Instr.makeSlice, run_underlying hu, asInt, asIntOf, hi, hib, hw1, hw2, sizeT_run hs, hz0, newRow_run, pure, Sem.run]
        rw [if_neg (by rintro (((h | h) | h) | h) <;> omega)]
        exact congrArg _ (congrArg (fun q => w.alloc (Obj.cells q el)) hcells)
      · simp [hz0] at hcells
        simp [Instr.makeSlice, run_underlying hu, asInt, asIntOf, hi, hib, hw1, hw2, sizeT_run hs, hz0, newRow_run, hx, pure, Sem.run]
        rw [if_neg (by rintro (((h | h) | h) | h) <;> omega)]
        exact congrArg _ (congrArg (fun q => w.alloc (Obj.cells q el)) hcells)
    · cases h
  · cases h

/-- What a slice or a string holds, as 'append' and 'copy' read it. -/
theorem elemsOf_rel {sz : Nat} {a : AVal} {x : Value} {es : List AVal} (H : HRel N.env φ w (get Hp)) (hx : VRel N.env φ w a x) (h : elemsOf sz Hp a = some es) :
    ∃ vs, ElsRel N.env φ w sz es vs ∧ ∀ w', w'.heap = w.heap → (Builtin.lenOf x).run N.P w' = .ok es.length w' ∧ ∀ k, k ≤ es.length → (Builtin.firstCells sz k x).run N.P w' = .ok (vs.take (k * sz)).toArray w' := by
  have other : elemsS sz Hp a = some es → ∃ vs, ElsRel N.env φ w sz es vs ∧ ∀ w', w'.heap = w.heap → (Builtin.lenOf x).run N.P w' = .ok es.length w' ∧ ∀ k, k ≤ es.length → (Builtin.firstCells sz k x).run N.P w' = .ok (vs.take (k * sz)).toArray w' := by
    intro h
    obtain ⟨p, n, cap, vs, rfl, hn, hv, hr, hle, hp⟩ := elemsS_rel H hx h
    refine ⟨vs, hv, fun w' hw => ⟨by simp [Builtin.lenOf, hn, pure, Sem.run], fun k hk => ?_⟩⟩
    cases p with
    | none =>
      have h0 := hp rfl
      have : k = 0 := by omega
      subst this
      simp [Builtin.firstCells, pure, Sem.run]
    | some p =>
      by_cases he : es = []
      · subst he
        simp at hk
        subst hk
        simp [Builtin.firstCells, loadCells, loadCellsFrom, pure, Sem.run]
      · obtain ⟨b, off, hpe, hrd⟩ := hr he
        simp only [Option.some.injEq] at hpe; subst hpe
        have hrd' : Reads w' b off vs := fun i v hi => by simpa [World.cell?, hw] using hrd i v hi
        have hl := run_loadCells_list (P := N.P) (w := w') ⟨b, off, none⟩ (vs.take (k * sz)) (by
          intro j v hj
          have := reads_list (i := 0) (n := k * sz) hrd' rfl j v (by simpa using hj)
          simpa using this)
        have hlen : (vs.take (k * sz)).length = k * sz := by
          rw [List.length_take, hv.vslen]
          exact Nat.min_eq_left (Nat.mul_le_mul_right _ hk)
        rw [hlen] at hl
        simp [Builtin.firstCells, hl]
  cases a with
  | str s =>
    simp only [elemsOf] at h
    split at h
    · rename_i hs; subst hs
      simp only [Option.some.injEq] at h; subst h
      simp only [VRel] at hx
      obtain ⟨b, rfl, rfl⟩ := hx
      refine ⟨b.data.toList.map fun c => Value.int .u8 c.toNat, ElsRel.bytes _, fun w' _ => ⟨?_, fun k hk => ?_⟩⟩
      · simp only [Builtin.lenOf, pure, Sem.run, List.length_map, Array.length_toList]; rfl
      · simp only [Builtin.firstCells, pure, Sem.run, Nat.mul_one]
        congr 1
        apply Array.ext'
        simp [ByteArray.data_extract, List.map_take]
    · cases h
  | _ => exact other (by simpa [elemsOf] using h)

theorem zeroCells_one {x : Value} (h1 : ∀ y ∈ x.cells.toList, oneC y = true) (h0 : 0 < x.cells.size) (n : Nat) : (Builtin.zeroCells x.cells n).toList.length = n * x.cells.size ∧ ∀ y ∈ (Builtin.zeroCells x.cells n).toList, oneC y = true := by
  have e : (Builtin.zeroCells x.cells n).toList = (List.replicate n x.cells.toList).flatten := cycle_list x.cells h0 n
  rw [e]
  refine ⟨by simp, fun y hy => ?_⟩
  simp only [List.mem_flatten] at hy
  obtain ⟨s, hs1, hs2⟩ := hy
  rw [List.eq_of_mem_replicate hs1] at hs2
  exact h1 y hs2

theorem zero_all {P : Program} {t : TypeId} {x : Value} (h : (zeroValue t).run P w = .ok x w) (w0 : World) : (zeroValue t).run P w0 = .ok x w0 := by
  cases hi : P.info? t with
  | none => simp [zeroValue, typeInfo, hi, stuck, unsupported, Sem.run] at h
  | some i =>
    cases hz : i.zero with
    | none => simp [zeroValue, typeInfo, hi, hz, stuck, unsupported, pure, Sem.run] at h
    | some z =>
      simp [zeroValue, typeInfo, hi, hz, pure, Sem.run] at h ⊢
      exact h

theorem append_grow_run {P : Program} {ts : Array TypeId} {ty t u el : TypeId} {d : TypeDesc} {i : TypeInfo} {sz : Nat} {zx y : Value} {base : Option Addr} {sLen sCap : Nat} {olds news : List Value} {n : Nat} (ht0 : ts[0]? = some t) (ht1 : ts[1]? = some u)
    (hut : ∀ w0, (underlying t).run P w0 = .ok (.slice el) w0) (hnz : ∀ w0, (underlying u).run P w0 = .ok d w0) (hd' : (∃ q, d = .slice q) ∨ d = .string) (hsz : ∀ w0, (sizeOf el).run P w0 = .ok sz w0) (hti : ∀ w0, (typeInfo el).run P w0 = .ok i w0)
    (hzx : ∀ w0, (zeroValue el).run P w0 = .ok zx w0) (hi0 : 0 < i.bytes) (hol : (Builtin.firstCells sz sLen (.slice base sLen sCap)).run P w.drew = .ok olds.toArray w.drew) (hlen : (Builtin.lenOf y).run P w = .ok n w) (hnew : (Builtin.firstCells sz n y).run P w.drew = .ok news.toArray w.drew)
    (hg : sCap < sLen + n) (hfit : (sLen + n) * i.bytes ≤ 70368744177664) (hfit2 : sLen + n ≤ 70368744177664) :
    (Builtin.append_ ts ty #[.slice base sLen sCap, y]).run P w = .ok (.slice (some ⟨w.heap.size, 0, none⟩) (sLen + n) (grownCap w (sLen + n) sCap el))
      (w.drew.alloc (.cells (olds ++ news ++ (Builtin.zeroCells zx.cells (grownCap w (sLen + n) sCap el - (sLen + n))).toList).toArray el)) := by
  have hn : ¬ (sLen + n ≤ sCap) := by omega
  have h63' : ¬ (9223372036854775807 < ((sLen : Int) + (n : Int))) := by omega
  have h48 := growslice_fits (bytes := i.bytes) hg (by omega)
  have h48' : ¬ (281474976710656 < Builtin.nextslicecap (sLen + n) sCap * i.bytes) := by omega
  have e : (olds ++ news ++ (Builtin.zeroCells zx.cells (grownCap w (sLen + n) sCap el - (sLen + n))).toList).toArray = olds.toArray ++ news.toArray ++ Builtin.zeroCells zx.cells (grownCap w (sLen + n) sCap el - (sLen + n)) := by
    apply Array.ext'; simp
  rw [e]
  unfold grownCap
  rcases hd' with ⟨q, rfl⟩ | rfl <;>
    simp [Builtin.append_, ht0, ht1, hut, hnz, hsz, hti, hzx, hlen, hn, h63', h48', Question.forced, hol, hnew, newRow_run, pure, Sem.run] <;>
    exact congrArg (fun q => w.drew.alloc (Obj.cells q el)) (by apply Array.ext'; simp)

theorem append_fits_run {P : Program} {ts : Array TypeId} {ty t u el : TypeId} {d : TypeDesc} {sz : Nat} {y : Value} {b off : Nat} {a : Addr} {sLen sCap : Nat} {news : List Value} {n : Nat} {arr : Array Value} {fr : Nat × Nat} {el0 : TypeId} (ht0 : ts[0]? = some t) (ht1 : ts[1]? = some u)
    (hut : ∀ w0, (underlying t).run P w0 = .ok (.slice el) w0) (hnz : ∀ w0, (underlying u).run P w0 = .ok d w0) (hd' : (∃ q, d = .slice q) ∨ d = .string) (hsz : ∀ w0, (sizeOf el).run P w0 = .ok sz w0)
    (hlen : (Builtin.lenOf y).run P w = .ok n w) (hnew : (Builtin.firstCells sz n y).run P w = .ok news.toArray w) (hg : sLen + n ≤ sCap) (ha : news = [] ∨ a = ⟨b, off, none⟩)
    (hb : w.heap[b]? = some (.cells arr el0 fr)) (hu : unfrozen arr.size fr) (hle : off + sLen * sz + news.length ≤ arr.size) (h1 : ∀ v ∈ news, oneC v = true) :
    (Builtin.append_ ts ty #[.slice (some a) sLen sCap, y]).run P w = .ok (.slice (some a) (sLen + n) sCap) (setBlk w b (.cells (spliceV arr.toList (off + sLen * sz) news).toArray el0 fr)) := by
  have hst : (storeCells (a.add (sLen * sz)) news).run P w = .ok () (setBlk w b (.cells (spliceV arr.toList (off + sLen * sz) news).toArray el0 fr)) := by
    rcases ha with rfl | rfl
    · have : (spliceV arr.toList (off + sLen * sz) []).toArray = arr := by simp [spliceV]
      rw [this, setBlk_self hb]
      simp [storeCells, pure, Sem.run]
    · rw [add_none]
      have := storeCells_run (P := P) (b := b) (o := off + sLen * sz) news 0 w arr hb hu (by omega) h1
      simpa using this
  rcases hd' with ⟨q, rfl⟩ | rfl <;>
    simp [Builtin.append_, ht0, ht1, hut, hnz, hsz, hlen, hg, hnew, hst, pure, Sem.run]

theorem grown_le (w : World) (need old : Nat) (e : TypeId) : need ≤ grownCap w need old e := by
  show need ≤ need + _
  exact Nat.le_add_right _ _

theorem append_does {x y : Operand} {ts : Array TypeId} {t u el : TypeId} {d : TypeDesc} {sz bytes : Nat} {z : AVal} {a b : Opd} (ho : o.op = .call { callee := .builtin .append, args := #[x, y], argTypes := ts }) (ht0 : ts[0]? = some t) (ht1 : ts[1]? = some u)
    (hu : N.P.underlying t = some (.slice el)) (hd : N.P.underlying u = some d) (hd' : (∃ q, d = .slice q) ∨ d = .string)
    (hz : zeroT N.P el = some z) (hs : sizeT N.P el = some sz) (hb : bytesT N.P el = some bytes) (hb0 : 0 < bytes) (hf : zeroFits z sz = true)
    (hx : VRel N.env φ w (ev T a) (ρ x)) (hy : VRel N.env φ w (ev T b) (ρ y)) (hn : get Hp nxt = .un) (H : HRel N.env φ w (get Hp))
    (h : aop wr nxt (.append sz bytes a b) T Hp = some (v, e)) : Does N.env φ w (get Hp) nxt (execOp ρ o) v e := by
  have hop : execOp ρ o = (do pure (Next.value (← Builtin.append_ ts o.type #[ρ x, ρ y])) : Sem Next) := by
    simp [execOp, ho, resolve, invoke, builtin]
  obtain ⟨i, hi, hib⟩ := info_run hb
  have hti : ∀ w0, (typeInfo el).run N.P w0 = .ok i w0 := fun w0 => by simp [typeInfo, hi, pure, Sem.run]
  have hsz : ∀ w0, (sizeOf el).run N.P w0 = .ok sz w0 := sizeT_run hs
  have hnz : ∀ w0, (underlying u).run N.P w0 = .ok d w0 := run_underlying hd
  have hut : ∀ w0, (underlying t).run N.P w0 = .ok (.slice el) w0 := run_underlying hu
  simp only [aop] at h
  split at h
  · rename_i new hnew
    obtain ⟨vs, hvs, hrd⟩ := elemsOf_rel H hy hnew
    split at h
    · -- to nil
      rename_i ea
      rw [ea] at hx
      simp only [VRel] at hx
      split at h
      · simp only [Option.some.injEq, Prod.mk.injEq] at h
        obtain ⟨rfl, rfl⟩ := h
        obtain ⟨h1, h2⟩ := hrd w rfl
        have h3 := h2 0 (Nat.zero_le _)
        simp at h1 h3
        refine Does.val hop H (x := .slice none 0 0) ?_ (by simp [VRel])
        rw [hx]
        rcases hd' with ⟨q, rfl⟩ | rfl <;> simp [Builtin.append_, ht0, ht1, hut, hnz, hsz, h1, h3, pure, Sem.run]
      · rename_i e1 r1
        split at h
        · rename_i hcond
          simp only [Option.some.injEq, Prod.mk.injEq] at h
          obtain ⟨rfl, rfl⟩ := h
          obtain ⟨h0, zx, hzx0, hzs, hzv, hz1⟩ := zeroFits_run (E := N.env) (w := w) hz hf φ w
          have hzx : ∀ w0, (zeroValue el).run N.P w0 = .ok zx w0 := zero_all hzx0
          have hvl := hvs.vslen
          have h1 := (hrd w rfl).1
          have h2 := (hrd w.drew rfl).2 _ (Nat.le_refl _)
          rw [List.take_of_length_le (by omega)] at h2
          have hrun := append_grow_run (ty := o.type) (olds := []) ht0 ht1 hut hnz hd' hsz hti hzx (by omega) (base := none) (sLen := 0) (sCap := 0) (by simp [Builtin.firstCells, pure, Sem.run]) h1 h2 (by simp) (by rw [hib, Nat.zero_add]; exact hcond.1) (by rw [Nat.zero_add]; exact hcond.2)
          rw [Nat.zero_add] at hrun
          have hge := grown_le w (e1 :: r1).length 0 el
          obtain ⟨hzl, hzo⟩ := zeroCells_one hz1 (by omega) (grownCap w (e1 :: r1).length 0 el - (e1 :: r1).length)
          have Hd := HRel.of_heap (w := w) (w' := w.drew) rfl ⟨rfl, rfl, rfl⟩ H
          have Ed : Ext φ w φ w.drew := Ext.of_heap rfl ⟨rfl, rfl, rfl⟩
          obtain ⟨φ', ext, hr, hp⟩ := new_row (cap := grownCap w (e1 :: r1).length 0 el) Hd hn el (hvs.mono Ed) hzo (by rw [hvl, hzl, hzs, ← Nat.add_mul]; congr 1; omega) hge
          refine ⟨_, φ', _, .inl ?_, hp, hr, Ed.trans ext⟩
          rw [hop, hx]
          exact run_val (by simpa using hrun)
        · cases h
    · rename_i id gen off len ea
      rw [ea] at hx
      split at h
      · rename_i s g es hc
        split at h
        · rename_i hcond
          simp only [Option.some.injEq, Prod.mk.injEq] at h
          obtain ⟨rfl, rfl⟩ := h
          obtain ⟨rfl, rfl, hend, hfit, hfit2⟩ := hcond
          obtain ⟨h0, zx, hzx0, hzs, hzv, hz1⟩ := zeroFits_run (E := N.env) (w := w) hz hf φ w
          have hzx : ∀ w0, (zeroValue el).run N.P w0 = .ok zx w0 := zero_all hzx0
          have hvl := hvs.vslen
          obtain ⟨l, arr, el0, fr, vs0, post, hl, hlsz, hgen, hblk, hdr, hels, htop, hlen, hunf⟩ := H.rowAt (get_some hc)
          obtain ⟨p, cap, hx0, hcap, htop2, hp⟩ := slice_form hx hl hgen
          have hlt := heap_lt hblk
          by_cases hgr : len + new.length ≤ cap
          · -- in place
            have h2 := (hrd w rfl).1
            have h3 := (hrd w rfl).2 _ (Nat.le_refl _)
            rw [List.take_of_length_le (by omega)] at h3
            have hm1 : (off + cap) * s ≤ l.top * s := Nat.mul_le_mul_right _ htop2
            have hm2 : (len + new.length) * s ≤ cap * s := Nat.mul_le_mul_right _ hgr
            rw [Nat.add_mul] at hm1 hm2
            have hbound : (l.base + off * s) + len * s + vs.length ≤ arr.size := by rw [hvl]; omega
            have hrun := append_fits_run (ty := o.type) (b := l.blk) (off := l.base + off * s) (a := p) ht0 ht1 hut hnz hd' hsz h2 h3 hgr (by
              rcases hp with hp | hp
              · left
                have : vs.length = 0 := by rw [hvl]; have : new.length = 0 := by omega
                                           rw [this]; simp
                exact List.eq_nil_of_length_eq_zero this
              · right; rw [hp, hlsz]) hblk hunf hbound hvs.one
            obtain ⟨ext, hr⟩ := H.turn hl (l' := { blk := l.blk, base := l.base + off * s, top := l.top - off, sz := s, gen := l.gen + 1 }) (by simp) (fun h => by simp at h) rfl
                (.cells (spliceV arr.toList (l.base + off * s + len * s) vs).toArray el0 fr) (by rw [hblk]; simp) (o' := .row s (l.gen + 1) (es.drop off ++ new)) fun ext => by
              have hvs0 := hels.vslen
              have hdrop2 : arr.toList.drop (l.base + off * s) = vs0.drop (off * s) ++ post := by
                rw [← List.drop_drop, hdr, List.drop_append_of_le_length]
                rw [hvs0]; exact Nat.mul_le_mul_right _ (by omega)
              have hlen2 : (vs0.drop (off * s)).length = len * s := by
                rw [List.length_drop, hvs0, ← Nat.sub_mul]; congr 1; omega
              refine ⟨_, _, el0, fr, vs0.drop (off * s) ++ vs, post.drop vs.length, rfl, rfl, rfl, setBlk_same hlt, ?_, ((hels.drop off).append hvs).mono ext, ?_, ?_, ?_⟩
              · simp only [List.toList_toArray]
                have e3 : arr.toList = arr.toList.take (l.base + off * s) ++ (vs0.drop (off * s) ++ post) := by
                  rw [← hdrop2, List.take_append_drop]
                have e4 : (arr.toList.take (l.base + off * s)).length = l.base + off * s := by
                  rw [List.length_take, Array.length_toList]; omega
                generalize hA : arr.toList.take (l.base + off * s) = A at e3 e4
                rw [e3]
                simp only [spliceV]
                have e5 : l.base + off * s + len * s = A.length + (vs0.drop (off * s)).length := by rw [e4, hlen2]
                rw [e5, List.take_length_add_append, List.take_left, Nat.add_assoc, List.drop_length_add_append, List.drop_length_add_append, ← e4, List.append_assoc, List.append_assoc, List.drop_left, List.append_assoc]
              · have : (spliceV arr.toList (l.base + off * s + len * s) vs).length = arr.size := by
                  rw [spliceV_length (by simpa using hbound)]; simp
                simp only [List.size_toArray, this]
                have : (l.top - off) * s = l.top * s - off * s := Nat.sub_mul _ _ _
                have h9 : off * s ≤ l.top * s := Nat.mul_le_mul_right _ (by omega)
                omega
              · simp; omega
              · have : (spliceV arr.toList (l.base + off * s + len * s) vs).length = arr.size := by
                  rw [spliceV_length (by simpa using hbound)]; simp
                simpa [this] using hunf
            subst hgen
            refine ⟨_, _, .slice (some p) (len + new.length) cap, .inl ?_, ?_, hr, ext⟩
            · rw [hop, hx0]; exact run_val hrun
            · simp only [VRel, updP_same]
              refine ⟨rfl, by omega, fun _ => ⟨p, cap, rfl, by omega, by simp; omega, ?_⟩⟩
              rcases hp with hp | hp
              · exact .inl hp
              · right; rw [hp, hlsz]; simp
          · -- a new row
            have h2 := (hrd w rfl).1
            have h3 := (hrd w.drew rfl).2 _ (Nat.le_refl _)
            rw [List.take_of_length_le (by omega)] at h3
            have hold := (elemsOf_rel (sz := s) (es := es.drop off) H hx (by simp only [elemsOf, elemsS, hc]; rw [if_pos ⟨trivial, trivial, by omega⟩]; congr 1; rw [List.take_of_length_le (by simp; omega)]))
            obtain ⟨olds, holds, hod⟩ := hold
            have hoe : (es.drop off).length = len := by simp; omega
            have h4 := (hod w.drew rfl).2 _ (Nat.le_refl _)
            rw [hoe, hx0, List.take_of_length_le (by rw [holds.vslen, hoe]; omega)] at h4
            have hrun := append_grow_run (ty := o.type) (sCap := cap) ht0 ht1 hut hnz hd' hsz hti hzx (by omega) h4 h2 h3 (by omega) (by rw [hib]; exact hfit) hfit2
            have hge := grown_le w (len + new.length) cap el
            obtain ⟨hzl, hzo⟩ := zeroCells_one hz1 (by omega) (grownCap w (len + new.length) cap el - (len + new.length))
            have Hd := HRel.of_heap (w := w) (w' := w.drew) rfl ⟨rfl, rfl, rfl⟩ H
            have Ed : Ext φ w φ w.drew := Ext.of_heap rfl ⟨rfl, rfl, rfl⟩
            obtain ⟨ext, hr⟩ := Hd.upd (id := id) (w' := w.drew.alloc (.cells (olds ++ vs ++ (Builtin.zeroCells zx.cells (grownCap w (len + new.length) cap el - (len + new.length))).toList).toArray el))
                (l' := { blk := w.heap.size, base := 0, top := grownCap w (len + new.length) cap el, sz := s, gen := l.gen + 1 }) (o' := .row s (l.gen + 1) (es.drop off ++ new))
                (.inr ⟨l, hl, by simp, fun h => by simp at h⟩) ⟨rfl, rfl, rfl⟩ (by simp) (fun b hb _ => by simp only [World.alloc, Array.getElem?_push]; rw [if_neg (by simp at hb ⊢; omega)]) (.inr (by simp)) (fun r h => by simp at h) fun ext => by
              have hall : (olds ++ vs ++ (Builtin.zeroCells zx.cells (grownCap w (len + new.length) cap el - (len + new.length))).toList).length = grownCap w (len + new.length) cap el * s := by
                simp only [List.length_append]
                rw [hzl, holds.vslen, hvl, hoe, hzs, ← Nat.add_mul, ← Nat.add_mul]; congr 1; omega
              refine ⟨_, _, el, (0, 0), olds ++ vs, (Builtin.zeroCells zx.cells (grownCap w (len + new.length) cap el - (len + new.length))).toList, rfl, rfl, rfl, alloc_new _ _, by simp, ?_, ?_, ?_, by intro i _; simp⟩
              · exact ((holds.mono Ed).append (hvs.mono Ed)).mono ext
              · simp only [List.size_toArray, hall]; omega
              · rw [List.length_append, hoe]; exact hge
            subst hgen
            refine ⟨_, _, .slice (some ⟨w.heap.size, 0, none⟩) (len + new.length) (grownCap w (len + new.length) cap el), .inl ?_, ?_, hr, Ed.trans ext⟩
            · rw [hop, hx0]; exact run_val hrun
            · simp only [VRel, updP_same]
              exact ⟨rfl, by omega, fun _ => ⟨_, _, rfl, hge, by simp, .inr (by simp)⟩⟩
        · cases h
      · cases h
    · cases h
  · cases h

theorem copy_does {x y : Operand} {ts : Array TypeId} {t el : TypeId} {sz : Nat} {a b : Opd} (ho : o.op = .call { callee := .builtin .copy, args := #[x, y], argTypes := ts }) (ht0 : ts[0]? = some t)
    (hu : N.P.underlying t = some (.slice el)) (hs : sizeT N.P el = some sz) (hx : VRel N.env φ w (ev T a) (ρ x)) (hy : VRel N.env φ w (ev T b) (ρ y)) (H : HRel N.env φ w (get Hp))
    (h : aop wr nxt (.copy sz a b) T Hp = some (v, e)) : Does N.env φ w (get Hp) nxt (execOp ρ o) v e := by
  have hop : execOp ρ o = (do pure (Next.value (← Builtin.copy_ ts o.type #[ρ x, ρ y])) : Sem Next) := by
    simp [execOp, ho, resolve, invoke, builtin]
  have hut : ∀ w0, (underlying t).run N.P w0 = .ok (.slice el) w0 := run_underlying hu
  have hsz : ∀ w0, (sizeOf el).run N.P w0 = .ok sz w0 := sizeT_run hs
  simp only [aop] at h
  split at h
  · rename_i src hsrc
    obtain ⟨vs, hvs, hrd⟩ := elemsOf_rel H hy hsrc
    split at h
    · rename_i id gen off len ea
      rw [ea] at hx
      split at h
      · rename_i s g es hc
        split at h
        · rename_i hcond
          simp only [Option.some.injEq, Prod.mk.injEq] at h
          obtain ⟨rfl, rfl⟩ := h
          obtain ⟨rfl, rfl, hend⟩ := hcond
          obtain ⟨l, arr, el0, fr, vs0, post, hl, hlsz, hgen, hblk, hdr, hels, htop, hlen, hunf⟩ := H.rowAt (get_some hc)
          obtain ⟨p, cap, hx0, hcap, htop2, hp⟩ := slice_form hx hl hgen
          have hlt := heap_lt hblk
          obtain ⟨n, hn⟩ : ∃ n, n = min src.length len := ⟨_, rfl⟩
          rw [← hn]
          have h2 := (hrd w rfl).1
          have h3 := (hrd w rfl).2 n (by omega)
          have hnews := hvs.take n
          have hnl : (vs.take (n * s)).length = n * s := by rw [List.length_take, hvs.vslen]; exact Nat.min_eq_left (Nat.mul_le_mul_right _ (by omega))
          have hvs0 := hels.vslen
          have hbound : l.base + off * s + (vs.take (n * s)).length ≤ arr.size := by
            rw [hnl]
            have hm : (off + n) * s ≤ l.top * s := Nat.mul_le_mul_right _ (by omega)
            rw [Nat.add_mul] at hm; omega
          have hst : (storeCells p (vs.take (n * s))).run N.P w = .ok () (setBlk w l.blk (.cells (spliceV arr.toList (l.base + off * s) (vs.take (n * s))).toArray el0 fr)) := by
            by_cases hn0 : n = 0
            · rw [hn0]
              simp only [Nat.zero_mul, List.take_zero]
              have : (spliceV arr.toList (l.base + off * s) []).toArray = arr := by simp [spliceV]
              rw [this, setBlk_self hblk]
              simp [storeCells, pure, Sem.run]
            · have : p = ⟨l.blk, l.base + off * s, none⟩ := by
                rcases hp with hp | hp
                · omega
                · rw [hp, hlsz]
              rw [this]
              have := storeCells_run (P := N.P) (b := l.blk) (o := l.base + off * s) (vs.take (n * s)) 0 w arr hblk hunf (by omega) hnews.one
              simpa using this
          obtain ⟨ext, hr⟩ := H.turn hl (l' := l) (Nat.le_refl _) (fun _ => rfl) rfl
              (.cells (spliceV arr.toList (l.base + off * s) (vs.take (n * s))).toArray el0 fr) (by rw [hblk]; simp) (o' := .row s g (es.take off ++ src.take n ++ es.drop (off + n))) fun ext => by
            have hsp : spliceV arr.toList (l.base + off * s) (vs.take (n * s)) = arr.toList.take l.base ++ (vs0.take (off * s) ++ vs.take (n * s) ++ vs0.drop ((off + n) * s)) ++ post := by
              have e3 : arr.toList = arr.toList.take l.base ++ vs0 ++ post := by rw [List.append_assoc, ← hdr, List.take_append_drop]
              have e4 : (arr.toList.take l.base).length = l.base := by rw [List.length_take, Array.length_toList]; omega
              have e5 := spliceV_mid (arr.toList.take l.base) vs0 post (vs.take (n * s)) (off * s) (by
                rw [hnl, hvs0, ← Nat.add_mul]; exact Nat.mul_le_mul_right _ (by omega))
              rw [← e3, e4] at e5
              rw [e5]
              simp only [spliceV, hnl]
              rw [Nat.add_mul]
            have hall : (spliceV arr.toList (l.base + off * s) (vs.take (n * s))).length = arr.size := by
              rw [spliceV_length (by simpa using hbound)]; simp
            refine ⟨l, _, el0, fr, vs0.take (off * s) ++ vs.take (n * s) ++ vs0.drop ((off + n) * s), post, rfl, hlsz, hgen, setBlk_same hlt, ?_, ?_, ?_, ?_, ?_⟩
            · have e4 : (arr.toList.take l.base).length = l.base := by rw [List.length_take, Array.length_toList]; omega
              simp only [List.toList_toArray]
              rw [hsp, List.append_assoc, List.append_assoc]
              have := List.drop_left (l₁ := arr.toList.take l.base) (l₂ := (vs0.take (off * s) ++ vs.take (n * s) ++ vs0.drop ((off + n) * s)) ++ post)
              rw [e4] at this
              simpa using this
            · exact (((hels.take off).append hnews).append (hels.drop (off + n))).mono ext
            · simp only [List.size_toArray, hall]; exact htop
            · simp; omega
            · simpa [hall] using hunf
          refine ⟨_, _, .int .i64 n, .inl ?_, by simp [VRel], hr, ext⟩
          rw [hop, hx0]
          refine run_val ?_
          have hm : Nat.min src.length len = n := hn.symm
          simp [Builtin.copy_, ht0, hut, hsz, h2, h3, hm, hst, goInt, pure, Sem.run]
        · cases h
      · cases h
    · rename_i ea
      rw [ea] at hx
      simp only [VRel] at hx
      simp only [Option.some.injEq, Prod.mk.injEq] at h
      obtain ⟨rfl, rfl⟩ := h
      obtain ⟨h1, h2⟩ := hrd w rfl
      have h3 := h2 0 (Nat.zero_le _)
      simp at h3
      refine Does.val hop H (x := .int .i64 0) ?_ (by simp [VRel])
      rw [hx]
      have hm : Nat.min src.length 0 = 0 := Nat.min_zero _
      simp [Builtin.copy_, ht0, hut, hsz, h1, h3, hm, goInt, pure, Sem.run]
    · cases h
  · cases h

end

end Go.Rv

namespace Go.Rv

section
variable {N : Num} {φ : Phi} {w : World} {T : List AVal} {Hp : AHeap} {nxt : Nat} {ρ : Operand → Value} {o : Oper} {v : AVal} {e : Eff}

theorem cOpt_rel {E : Env} (hT : TRel E φ w T ρ N) {x : Option Operand} {a : Option Opd} (h : cOpt N x = some a) : OptRel E φ w T ρ x a := by
  cases x with
  | none => simp only [cOpt, Option.some.injEq] at h; subst h; trivial
  | some x =>
    simp only [cOpt] at h
    split at h
    · rename_i b hb
      simp only [Option.some.injEq] at h; subst h
      exact hT x b hb
    · cases h

theorem op_does {i : Ins} (hc : cIns N o.op = some i) (hT : TRel N.env φ w T ρ N) (hn : get Hp nxt = .un) (H : HRel N.env φ w (get Hp)) (h : aop IntKind.wrap nxt i T Hp = some (v, e)) :
    Does N.env φ w (get Hp) nxt (execOp ρ o) v e := by
  cases ho : o.op with
  | move x =>
    simp only [ho, cIns, Option.bind_eq_bind, Option.bind_eq_some_iff, Option.some.injEq] at hc
    obtain ⟨a, ha, rfl⟩ := hc
    exact move_does (.inl ho) (hT x a ha) H h
  | assign x =>
    simp only [ho, cIns, Option.bind_eq_bind, Option.bind_eq_some_iff, Option.some.injEq] at hc
    obtain ⟨a, ha, rfl⟩ := hc
    exact move_does (.inr ho) (hT x a ha) H h
  | pick c a b =>
    simp only [ho, cIns, Option.bind_eq_bind, Option.bind_eq_some_iff, Option.some.injEq] at hc
    obtain ⟨x, hx, y, hy, z, hz, rfl⟩ := hc
    exact pick_does ho (hT _ _ hx) (hT _ _ hy) (hT _ _ hz) H h
  | alloc t =>
    simp only [ho, cIns, Option.bind_eq_bind, Option.bind_eq_some_iff, Option.some.injEq] at hc
    obtain ⟨z, hz, cs, hs, rfl⟩ := hc
    have := alloc_does (N := N) (v := v) (e := e) (T := T) hz hs hn H h
    simpa [execOp, ho] using this
  | box t x =>
    simp only [ho, cIns, Option.bind_eq_bind, Option.bind_eq_some_iff, Option.some.injEq] at hc
    obtain ⟨a, ha, rfl⟩ := hc
    have := box_does (t := t) (hT _ _ ha) hn H h
    simpa [execOp, ho] using this
  | build t parts =>
    simp only [ho, cIns] at hc
    split at hc
    · rename_i fs hu
      simp only [Option.bind_eq_bind, Option.bind_eq_some_iff] at hc
      obtain ⟨z, hz, cs, hs, hc⟩ := hc
      split at hc
      · rename_i hf
        simp only [Option.bind_eq_some_iff, Option.some.injEq] at hc
        obtain ⟨cp, hp, rfl⟩ := hc
        have := build_does hT hu hz hs hf hp H h
        simpa [execOp, ho] using this
      · cases hc
    · rename_i k el hu
      simp only [Option.bind_eq_bind, Option.bind_eq_some_iff, Option.some.injEq] at hc
      obtain ⟨z, hz, cs, hs, sz, hsz, cp, hp, rfl⟩ := hc
      have := buildArr_does hT hu hz hs hsz hp H h
      simpa [execOp, ho] using this
    · cases hc
  | buildSlice t n parts =>
    simp only [ho, cIns] at hc
    split at hc
    · rename_i el hu
      simp only [Option.bind_eq_bind, Option.bind_eq_some_iff] at hc
      obtain ⟨z, hz, sz, hs, hc⟩ := hc
      split at hc
      · rename_i hf
        simp only [Option.bind_eq_some_iff, Option.some.injEq] at hc
        obtain ⟨cp, hp, rfl⟩ := hc
        exact buildSlice_does ho hT hu hz hs hf.2 hf.1 hp hn H h
      · cases hc
    · cases hc
  | load t a =>
    simp only [ho, cIns, Option.bind_eq_bind, Option.bind_eq_some_iff, Option.some.injEq] at hc
    obtain ⟨g, hg, n, hs, x, hx, rfl⟩ := hc
    have := load_does hg hs (hT _ _ hx) H h
    simpa [execOp, ho] using this
  | store t a x =>
    simp only [ho, cIns, Option.bind_eq_bind, Option.bind_eq_some_iff, Option.some.injEq] at hc
    obtain ⟨n, hs, y, hy, z, hz, rfl⟩ := hc
    have := store_does hs (hT _ _ hy) (hT _ _ hz) H h
    simpa [execOp, ho] using this
  | nilCheck x =>
    simp only [ho, cIns, Option.bind_eq_bind, Option.bind_eq_some_iff, Option.some.injEq] at hc
    obtain ⟨a, ha, rfl⟩ := hc
    exact nilCheck_does ho (hT _ _ ha) H h
  | binOp op t x y u =>
    simp only [ho, cIns] at hc
    split at hc <;> first
      | cases hc
      | (simp only [Option.bind_eq_bind, Option.bind_eq_some_iff, Option.some.injEq] at hc
         obtain ⟨a, ha, b, hb, rfl⟩ := hc
         exact bin_does ho (hT _ _ ha) (hT _ _ hb) H h)
      | skip
    · rename_i hu
      simp only [Option.bind_eq_bind, Option.bind_eq_some_iff, Option.some.injEq] at hc
      obtain ⟨a, ha, b, hb, rfl⟩ := hc
      exact binK_does ho (hT _ _ ha) (hT _ _ hb) H hu h
    · rename_i p hu
      simp only [Option.bind_eq_bind, Option.bind_eq_some_iff, Option.some.injEq] at hc
      obtain ⟨a, ha, b, hb, rfl⟩ := hc
      exact binK_does (k := .ptr) ho (hT _ _ ha) (hT _ _ hb) H ⟨p, hu⟩ h
    · rename_i p hu
      simp only [Option.bind_eq_bind, Option.bind_eq_some_iff, Option.some.injEq] at hc
      obtain ⟨a, ha, b, hb, rfl⟩ := hc
      exact binK_does (k := .slice) ho (hT _ _ ha) (hT _ _ hb) H ⟨p, hu⟩ h
    · rename_i p q hu
      simp only [Option.bind_eq_bind, Option.bind_eq_some_iff, Option.some.injEq] at hc
      obtain ⟨a, ha, b, hb, rfl⟩ := hc
      exact binK_does (k := .map) ho (hT _ _ ha) (hT _ _ hb) H ⟨p, q, hu⟩ h
    · simp only [Option.bind_eq_bind, Option.bind_eq_some_iff] at hc
      obtain ⟨ks, hk, hc⟩ := hc
      split at hc
      · simp only [Option.bind_eq_some_iff, Option.some.injEq] at hc
        obtain ⟨a, ha, b, hb, rfl⟩ := hc
        exact eqAgg_does ho rfl hk (hT _ _ ha) (hT _ _ hb) H h
      · simp only [Option.bind_eq_some_iff, Option.some.injEq] at hc
        obtain ⟨a, ha, b, hb, rfl⟩ := hc
        exact eqAgg_does ho rfl hk (hT _ _ ha) (hT _ _ hb) H h
      · cases hc
  | unOp op t x =>
    simp only [ho, cIns] at hc
    split at hc
    · simp only [Option.bind_eq_bind, Option.bind_eq_some_iff, Option.some.injEq] at hc
      obtain ⟨a, ha, rfl⟩ := hc
      exact not_does ho (hT _ _ ha) H h
    · cases hc
  | convert s d x =>
    simp only [ho, cIns] at hc
    split at hc
    · rename_i hs hd
      simp only [Option.bind_eq_bind, Option.bind_eq_some_iff, Option.some.injEq] at hc
      obtain ⟨a, ha, rfl⟩ := hc
      exact conv_does ho hs hd (hT _ _ ha) H h
    · rename_i hs hd
      simp only [Option.bind_eq_bind, Option.bind_eq_some_iff, Option.some.injEq] at hc
      obtain ⟨a, ha, rfl⟩ := hc
      exact strId_does ho hs hd (hT _ _ ha) H h
    · rename_i el hs hd
      split at hc
      · rename_i he
        simp only [Option.bind_eq_bind, Option.bind_eq_some_iff, Option.some.injEq] at hc
        obtain ⟨a, ha, rfl⟩ := hc
        exact toBytes_does ho hs hd he (hT _ _ ha) hn H h
      · cases hc
    · rename_i el hs hd
      split at hc
      · rename_i he
        simp only [Option.bind_eq_bind, Option.bind_eq_some_iff] at hc
        obtain ⟨q, hq, hc⟩ := hc
        split at hc
        · simp only [Option.bind_eq_some_iff, Option.some.injEq] at hc
          obtain ⟨a, ha, rfl⟩ := hc
          exact toStr_does ho hs hd he (hT _ _ ha) H h
        · cases hc
      · cases hc
    · cases hc
  | makeFunc f first caps =>
    cases f with
    | func f =>
      simp only [ho, cIns, Option.bind_eq_bind, Option.bind_eq_some_iff, Option.some.injEq] at hc
      obtain ⟨q, hq, cf, hcf, cc, hcc, rfl⟩ := hc
      exact makeFunc_does ho hq hT hcf hcc H h
    | _ => simp [ho, cIns] at hc
  | makeMap t r =>
    cases r with
    | some r => simp [ho, cIns] at hc
    | none =>
      simp only [ho, cIns] at hc
      split at hc
      · rename_i kt el hu
        split at hc
        · simp only [Option.some.injEq] at hc; subst hc
          exact makeMap_does (kt := kt) (el := el) ho hn H h
        · cases hc
      · cases hc
  | makeSlice t l c =>
    simp only [ho, cIns] at hc
    split at hc
    · rename_i el hu
      simp only [Option.bind_eq_bind, Option.bind_eq_some_iff] at hc
      obtain ⟨z, hz, sz, hs, hc⟩ := hc
      split at hc
      · rename_i hf
        simp only [Option.bind_eq_some_iff, Option.some.injEq] at hc
        obtain ⟨b, hb, x, hx, y, hy, rfl⟩ := hc
        exact makeSlice_does ho hu hz hs hb hf (hT _ _ hx) (hT _ _ hy) hn H h
      · cases hc
    · cases hc
  | slice t x lo hi mx =>
    cases mx with
    | some r => simp [ho, cIns] at hc
    | none =>
      simp only [ho, cIns] at hc
      split at hc
      · rename_i hu
        simp only [Option.bind_eq_bind, Option.bind_eq_some_iff, Option.some.injEq] at hc
        obtain ⟨a, ha, b, hb, c, hc', rfl⟩ := hc
        exact sliceStr_does ho hu (hT _ _ ha) (cOpt_rel hT hb) (cOpt_rel hT hc') H h
      · rename_i el hu
        simp only [Option.bind_eq_bind, Option.bind_eq_some_iff, Option.some.injEq] at hc
        obtain ⟨n, hs, a, ha, b, hb, c, hc', rfl⟩ := hc
        exact sliceRow_does ho hu hs (hT _ _ ha) (cOpt_rel hT hb) (cOpt_rel hT hc') H h
      · cases hc
  | fieldAddr t x f =>
    simp only [ho, cIns] at hc
    split at hc
    · rename_i fs hu
      split at hc
      · rename_i fd hf
        simp only [Option.bind_eq_bind, Option.bind_eq_some_iff] at hc
        obtain ⟨n, hs, hc⟩ := hc
        split at hc
        · cases hc
        · rename_i hn0
          simp only [Option.bind_eq_some_iff, Option.some.injEq] at hc
          obtain ⟨a, ha, rfl⟩ := hc
          exact fieldAddr_does ho hu hf hs hn0 (hT _ _ ha) H h
      · cases hc
    · cases hc
  | field t x f =>
    simp only [ho, cIns] at hc
    split at hc
    · rename_i fs hu
      split at hc
      · rename_i fd hf
        simp only [Option.bind_eq_bind, Option.bind_eq_some_iff, Option.some.injEq] at hc
        obtain ⟨g, hg, n, hs, a, ha, rfl⟩ := hc
        exact field_does ho hu hf hg hs (hT _ _ ha) H h
      · cases hc
    · cases hc
  | indexAddr t x i =>
    simp only [ho, cIns] at hc
    split at hc
    · rename_i el hu
      simp only [Option.bind_eq_bind, Option.bind_eq_some_iff, Option.some.injEq] at hc
      obtain ⟨n, hs, a, ha, b, hb, rfl⟩ := hc
      exact indexAddr_does ho hu hs (hT _ _ ha) (hT _ _ hb) H h
    · rename_i n el hu
      simp only [Option.bind_eq_bind, Option.bind_eq_some_iff, Option.some.injEq] at hc
      obtain ⟨n, hs, a, ha, b, hb, rfl⟩ := hc
      exact indexArr_does ho hu hs (hT _ _ ha) (hT _ _ hb) H h
    · cases hc
  | index t x i =>
    simp only [ho, cIns] at hc
    split at hc
    · rename_i hu
      simp only [Option.bind_eq_bind, Option.bind_eq_some_iff, Option.some.injEq] at hc
      obtain ⟨a, ha, b, hb, rfl⟩ := hc
      exact indexStr_does ho hu (hT _ _ ha) (hT _ _ hb) H h
    · rename_i n el hu
      simp only [Option.bind_eq_bind, Option.bind_eq_some_iff, Option.some.injEq] at hc
      obtain ⟨n, hs, g, hg, a, ha, b, hb, rfl⟩ := hc
      exact indexAgg_does ho hu hs hg (hT _ _ ha) (hT _ _ hb) H h
    · cases hc
  | lookup t m k ok =>
    simp only [ho, cIns] at hc
    split at hc
    · rename_i kt el hu
      simp only [Option.bind_eq_bind, Option.bind_eq_some_iff, Option.some.injEq] at hc
      obtain ⟨kk, hk, z, hz, a, ha, b, hb, rfl⟩ := hc
      exact lookup_does ho hu hk hz (hT _ _ ha) (hT _ _ hb) H h
    · cases hc
  | mapUpdate t m k x =>
    simp only [ho, cIns] at hc
    split at hc
    · rename_i kt el hu
      simp only [Option.bind_eq_bind, Option.bind_eq_some_iff, Option.some.injEq] at hc
      obtain ⟨kk, hk, a, ha, b, hb, c, hc', rfl⟩ := hc
      exact mapUpdate_does (.inl ho) hu hk (hT _ _ ha) (hT _ _ hb) (hT _ _ hc') H h
    · cases hc
  | insert t m k x =>
    simp only [ho, cIns] at hc
    split at hc
    · rename_i kt el hu
      simp only [Option.bind_eq_bind, Option.bind_eq_some_iff, Option.some.injEq] at hc
      obtain ⟨kk, hk, a, ha, b, hb, c, hc', rfl⟩ := hc
      exact mapUpdate_does (.inr ho) hu hk (hT _ _ ha) (hT _ _ hb) (hT _ _ hc') H h
    · cases hc
  | extract x i =>
    simp only [ho, cIns, Option.bind_eq_bind, Option.bind_eq_some_iff, Option.some.injEq] at hc
    obtain ⟨a, ha, rfl⟩ := hc
    exact extract_does ho (hT _ _ ha) H h
  | call c =>
    obtain ⟨cal, args, ats⟩ := c
    cases cal with
    | value f =>
      cases f <;> simp only [ho, cIns, Option.bind_eq_bind, Option.bind_eq_some_iff, Option.some.injEq] at hc <;>
        (obtain ⟨_, _, _, _, rfl⟩ := hc; simp [aop] at h)
    | invoke _ _ => simp [ho, cIns] at hc
    | builtin b =>
      have hats : ∀ (i : Nat) (q : TypeId), ats.toList[i]? = some q → ats[i]? = some q := fun i q h => by simpa using h
      have hargs : ∀ (l : List Operand), args.toList = l → args = l.toArray := fun l h => by rw [← h]
      simp only [ho, cIns] at hc
      · split at hc
        · rename_i t ts x e1 e2
          rw [hargs _ e2] at ho
          have ht0 := hats 0 t (by rw [e1]; rfl)
          split at hc
          · rename_i hu
            simp only [Option.bind_eq_bind, Option.bind_eq_some_iff, Option.some.injEq] at hc
            obtain ⟨a, ha, rfl⟩ := hc
            exact lenStr_does (ty := 0) ho ht0 hu (hT _ _ ha) H h
          · rename_i hu
            simp only [Option.bind_eq_bind, Option.bind_eq_some_iff, Option.some.injEq] at hc
            obtain ⟨a, ha, rfl⟩ := hc
            exact lenSlice_does ho ht0 hu (hT _ _ ha) H h
          · rename_i hu
            simp only [Option.bind_eq_bind, Option.bind_eq_some_iff, Option.some.injEq] at hc
            obtain ⟨a, ha, rfl⟩ := hc
            exact lenMap_does ho ht0 hu (hT _ _ ha) H h
          · cases hc
        · rename_i t u x y e1 e2
          rw [hargs _ e2] at ho
          have ht0 := hats 0 t (by rw [e1]; rfl)
          have ht1 := hats 1 u (by rw [e1]; rfl)
          split at hc
          · rename_i el d hu hd
            have go : ((∃ q, d = .slice q) ∨ d = .string) → (do
                let b ← bytesT N.P el
                let sz ← sizeT N.P el
                let z ← zeroT N.P el
                if b ≤ 65536 ∧ 0 < b ∧ zeroFits z sz = true then some (.append sz b (← cOpd N x) (← cOpd N y)) else none) = some i → Does N.env φ w (get Hp) nxt (execOp ρ o) v e := by
              intro hd' hc
              simp only [Option.bind_eq_bind, Option.bind_eq_some_iff] at hc
              obtain ⟨b, hb, sz, hs, z, hz, hc⟩ := hc
              split at hc
              · rename_i hf
                simp only [Option.bind_eq_some_iff, Option.some.injEq] at hc
                obtain ⟨p, hp, q, hq, rfl⟩ := hc
                exact append_does ho ht0 ht1 hu hd hd' hz hs hb hf.2.1 hf.2.2 (hT _ _ hp) (hT _ _ hq) hn H h
              · cases hc
            split at hc
            · exact go (.inl ⟨_, rfl⟩) hc
            · exact go (.inr rfl) hc
            · cases hc
          · cases hc
        · rename_i t u x y e1 e2
          rw [hargs _ e2] at ho
          have ht0 := hats 0 t (by rw [e1]; rfl)
          split at hc
          · rename_i el hu
            simp only [Option.bind_eq_bind, Option.bind_eq_some_iff, Option.some.injEq] at hc
            obtain ⟨n, hs, a, ha, b, hb, rfl⟩ := hc
            exact copy_does ho ht0 hu hs (hT _ _ ha) (hT _ _ hb) H h
          · cases hc
        · rename_i t u x y e1 e2
          rw [hargs _ e2] at ho
          have ht0 := hats 0 t (by rw [e1]; rfl)
          split at hc
          · rename_i kt el hu
            simp only [Option.bind_eq_bind, Option.bind_eq_some_iff, Option.some.injEq] at hc
            obtain ⟨kk, hk, a, ha, b, hb, rfl⟩ := hc
            exact delete_does ho ht0 hu hk (hT _ _ ha) (hT _ _ hb) H h
          · cases hc
        · rename_i x y e2
          rw [hargs _ e2] at ho
          simp only [Option.bind_eq_bind, Option.bind_eq_some_iff, Option.some.injEq] at hc
          obtain ⟨a, ha, b, hb, rfl⟩ := hc
          exact min_does ho (hT _ _ ha) (hT _ _ hb) H h
        · rename_i x y e2
          rw [hargs _ e2] at ho
          simp only [Option.bind_eq_bind, Option.bind_eq_some_iff, Option.some.injEq] at hc
          obtain ⟨a, ha, b, hb, rfl⟩ := hc
          exact max_does ho (hT _ _ ha) (hT _ _ hb) H h
        · cases hc
  | _ => simp [ho, cIns] at hc

end

end Go.Rv

namespace Go.Rv

structure Ar where
  wr : IntKind → Int → Int
  ile : Int → Int → Bool
  ilt : Int → Int → Bool
  ieq : Int → Int → Bool
  nat : Int → Option Nat
  nle : Nat → Nat → Bool
  nbe : Nat → Nat → Bool
  seq : List Nat → List Nat → Bool
  slt : List Nat → List Nat → Bool
  scat : List Nat → List Nat → List Nat
  slen : List Nat → Nat
  ssub : List Nat → Nat → Nat → List Nat
  sget : List Nat → Nat → Option Nat
  lget : List AVal → Nat → Option AVal
  lset : List AVal → Nat → AVal → List AVal
  llen : List AVal → Nat
  lapp : List AVal → List AVal → List AVal
  lsub : List AVal → Nat → Nat → List AVal
  find : KK → List (AVal × AVal) → AVal → Option (Option (Nat × AVal))
  mset : List (AVal × AVal) → Nat → AVal → List (AVal × AVal)
  madd : List (AVal × AVal) → AVal → AVal → List (AVal × AVal)
  mdel : List (AVal × AVal) → Nat → List (AVal × AVal)
  mlen : List (AVal × AVal) → Nat
  wr_eq : wr = IntKind.wrap
  ile_eq : ∀ a b, ile a b = decide (a ≤ b)
  ilt_eq : ∀ a b, ilt a b = decide (a < b)
  ieq_eq : ∀ a b, ieq a b = (a == b)
  nat_eq : ∀ a, nat a = if 0 ≤ a then some a.toNat else none
  nle_eq : ∀ a b, nle a b = decide (a ≤ b)
  nbe_eq : ∀ a b, nbe a b = decide (a = b)
  seq_eq : ∀ a b, seq a b = (a == b)
  slt_eq : ∀ a b, slt a b = lessB a b
  scat_eq : ∀ a b, scat a b = a ++ b
  slen_eq : ∀ a, slen a = a.length
  ssub_eq : ∀ s l h, ssub s l h = (s.drop l).take (h - l)
  sget_eq : ∀ s i, sget s i = s[i]?
  lget_eq : ∀ es i, lget es i = es[i]?
  lset_eq : ∀ es i v, lset es i v = es.set i v
  llen_eq : ∀ es, llen es = es.length
  lapp_eq : ∀ a b, lapp a b = a ++ b
  lsub_eq : ∀ es off n, lsub es off n = (es.drop off).take n
  find_eq : ∀ kk es k, find kk es k = mapFind kk es k 0
  mset_eq : ∀ es i v, mset es i v = es.modify i fun e => (e.1, v)
  madd_eq : ∀ es k v, madd es k v = es ++ [(k, v)]
  mdel_eq : ∀ es i, mdel es i = es.eraseIdx i
  mlen_eq : ∀ es, mlen es = es.length

def Ar.std : Ar where
  wr := IntKind.wrap
  ile a b := decide (a ≤ b)
  ilt a b := decide (a < b)
  ieq a b := a == b
  nat a := if 0 ≤ a then some a.toNat else none
  nle a b := decide (a ≤ b)
  nbe a b := decide (a = b)
  seq a b := a == b
  slt := lessB
  scat a b := a ++ b
  slen a := a.length
  ssub s l h := (s.drop l).take (h - l)
  sget s i := s[i]?
  lget es i := es[i]?
  lset es i v := es.set i v
  llen es := es.length
  lapp a b := a ++ b
  lsub es off n := (es.drop off).take n
  find kk es k := mapFind kk es k 0
  mset es i v := es.modify i fun e => (e.1, v)
  madd es k v := es ++ [(k, v)]
  mdel es i := es.eraseIdx i
  mlen es := es.length
  wr_eq := rfl
  ile_eq _ _ := rfl
  ilt_eq _ _ := rfl
  ieq_eq _ _ := rfl
  nat_eq _ := rfl
  nle_eq _ _ := rfl
  nbe_eq _ _ := rfl
  seq_eq _ _ := rfl
  slt_eq _ _ := rfl
  scat_eq _ _ := rfl
  slen_eq _ := rfl
  ssub_eq _ _ _ := rfl
  sget_eq _ _ := rfl
  lget_eq _ _ := rfl
  lset_eq _ _ _ := rfl
  llen_eq _ := rfl
  lapp_eq _ _ := rfl
  lsub_eq _ _ _ := rfl
  find_eq _ _ _ := rfl
  mset_eq _ _ _ := rfl
  madd_eq _ _ _ := rfl
  mdel_eq _ _ := rfl
  mlen_eq _ := rfl

def eqFS (ar : Ar) : FK → AVal → AVal → Option Bool
  | .int, .int k a, .int k' b => (match decide (k = k') with
    | true => some (ar.ieq a b)
    | false => none)
  | .str, .str a, .str b => some (ar.seq a b)
  | .bool, .bool a, .bool b => some (a == b)
  | _, _, _ => none

def eqFsS (ar : Ar) : List FK → List AVal → List AVal → Option Bool
  | [], [], [] => some true
  | f :: fs, a :: x, b :: y => match eqFS ar f a b with
    | some true => eqFsS ar fs x y
    | some false => some false
    | none => none
  | _, _, _ => none

theorem eqFS_eq (ar : Ar) (f : FK) (a b : AVal) : eqFS ar f a b = eqF f a b := by
  unfold eqFS eqF
  split
  · rename_i k x k' y
    by_cases h : k = k' <;> simp [h, ar.ieq_eq]
  · simp [ar.seq_eq]
  · rfl
  · split <;> first | rfl | grind

theorem eqFsS_eq (ar : Ar) : ∀ (fs : List FK) (x y : List AVal), eqFsS ar fs x y = eqFs fs x y
  | [], x, y => by cases x <;> cases y <;> rfl
  | f :: fs, [], y => rfl
  | f :: fs, a :: x, [] => rfl
  | f :: fs, a :: x, b :: y => by
    simp only [eqFsS, eqFs, eqFS_eq, eqFsS_eq ar fs x y]
    cases eqF f a b with
    | none => rfl
    | some r => cases r <;> rfl

def intOpS (ar : Ar) (op : BinOp) (k : IntKind) (a b : Int) : Option AVal :=
  match op with
  | .eql => some (.bool (ar.ieq a b))
  | .neq => some (.bool (!ar.ieq a b))
  | .lss => some (.bool (ar.ilt a b))
  | .leq => some (.bool (ar.ile a b))
  | .gtr => some (.bool (ar.ilt b a))
  | .geq => some (.bool (ar.ile b a))
  | op => intOp ar.wr op k a b

theorem intOpS_eq (ar : Ar) (op : BinOp) (k : IntKind) (a b : Int) : intOpS ar op k a b = intOp IntKind.wrap op k a b := by
  cases op <;> simp [intOpS, intOp, ar.ieq_eq, ar.ilt_eq, ar.ile_eq, ar.wr_eq, bne]

def strOpS (ar : Ar) (op : BinOp) (a b : List Nat) : Option AVal :=
  match op with
  | .add => (match ar.nle (ar.slen a + ar.slen b) 4611686018427387904 with
    | true => some (.str (ar.scat a b))
    | false => none)
  | .eql => some (.bool (ar.seq a b))
  | .neq => some (.bool (!ar.seq a b))
  | .lss => some (.bool (ar.slt a b))
  | .leq => some (.bool (ar.slt a b || ar.seq a b))
  | .gtr => some (.bool (!(ar.slt a b || ar.seq a b)))
  | .geq => some (.bool (!ar.slt a b))
  | _ => none

theorem strOpS_eq (ar : Ar) (op : BinOp) (a b : List Nat) : strOpS ar op a b = strOp op a b := by
  cases op <;> simp only [strOpS, strOp, ar.nle_eq, ar.slen_eq, ar.scat_eq, ar.seq_eq, ar.slt_eq] <;> first | rfl | skip
  by_cases h : a.length + b.length ≤ 4611686018427387904 <;> simp [h]

def binOpS (ar : Ar) (op : BinOp) (x y : AVal) : Option AVal :=
  match x, y with
  | .int k a, .int k' b =>
    match op with
    | .shl => binOp ar.wr .shl (.int k a) (.int k' b)
    | .shr => binOp ar.wr .shr (.int k a) (.int k' b)
    | op => match decide (k = k') with
      | true => intOpS ar op k a b
      | false => none
  | .str a, .str b => strOpS ar op a b
  | _, _ => none

theorem binOpS_eq (ar : Ar) (op : BinOp) (x y : AVal) : binOpS ar op x y = binOp IntKind.wrap op x y := by
  unfold binOpS
  split
  · rename_i k a k' b
    cases op <;> simp only [binOp, ar.wr_eq, intOpS_eq] <;> by_cases h : k = k' <;> simp [h]
  · simp only [strOpS_eq, binOp]
  · unfold binOp; split <;> first | rfl | grind

def natS (ar : Ar) : AVal → Option Nat
  | .int _ n => ar.nat n
  | _ => none

theorem natS_eq (ar : Ar) (v : AVal) : natS ar v = natOf v := by cases v <;> simp [natS, natOf, ar.nat_eq]

def boundS (ar : Ar) (T : List AVal) (d : Nat) : Option Opd → Option Nat
  | none => some d
  | some x => natS ar (ev T x)

theorem boundS_eq (ar : Ar) (T : List AVal) (d : Nat) (o : Option Opd) : boundS ar T d o = bound T d o := by cases o <;> simp [boundS, bound, natS_eq]

def elemsSS (ar : Ar) (sz : Nat) (H : AHeap) : AVal → Option (List AVal)
  | .nilSlice => some []
  | .islice s es => (match decide (s = sz) with
    | true => some es
    | false => none)
  | .slice id gen off len =>
    match H[id]? with
    | some (.row s g es) => (match decide (s = sz) && ar.nbe g gen && ar.nle (off + len) (ar.llen es) with
      | true => some (ar.lsub es off len)
      | false => none)
    | _ => none
  | _ => none

theorem elemsSS_eq (ar : Ar) (sz : Nat) (H : AHeap) (a : AVal) : elemsSS ar sz H a = elemsS sz H a := by
  cases a <;> simp only [elemsSS, elemsS] <;> first | rfl | skip
  · rename_i id gen off len
    cases H[id]? with
    | none => rfl
    | some o =>
      cases o <;> simp only [] <;> first | rfl | skip
      rename_i s g es
      simp only [ar.nbe_eq, ar.nle_eq, ar.llen_eq, ar.lsub_eq]
      by_cases h1 : s = sz <;> by_cases h2 : g = gen <;> by_cases h3 : off + len ≤ es.length <;> simp [h1, h2, h3]
  · rename_i s es
    by_cases h : s = sz <;> simp [h]

def elemsOfS (ar : Ar) (sz : Nat) (H : AHeap) (a : AVal) : Option (List AVal) :=
  match a with
  | .str s => elemsOf sz H (.str s)
  | a => elemsSS ar sz H a

theorem elemsOfS_eq (ar : Ar) (sz : Nat) (H : AHeap) (a : AVal) : elemsOfS ar sz H a = elemsOf sz H a := by
  cases a <;> simp only [elemsOfS, elemsOf, elemsSS_eq]

def sure' (n : Nat) (v : AVal) : Option (List AVal) := match v.sure with
  | some vs => (match decide (vs.length = n) with
    | true => some vs
    | false => none)
  | none => none

/-- 'aop', of which an evaluation stops at what is not decided. -/
def aopS (ar : Ar) (nxt : Nat) (i : Ins) (T : List AVal) (H : AHeap) : Option (AVal × Eff) :=
  match i with
  | .load agg n a => match ev T a with
    | .eptr id gen i off => (match H[id]? with
      | some (.row _ g es) => (match ar.nbe g gen with
        | true => (match ar.lget es i with
          | some e => (match readAt agg n off e.cells with
            | some v => some (v, .none)
            | none => none)
          | none => none)
        | false => none)
      | _ => none)
    | _ => aop ar.wr nxt (.load agg n a) T H
  | .bin op x y => match binOpS ar op (ev T x) (ev T y) with
    | some v => some (v, .none)
    | none => none
  | .eqAgg neg ks x y => match ev T x, ev T y with
    | .agg a, .agg b => (match eqFsS ar ks a b with
      | some r => some (.bool (bif neg then !r else r), .none)
      | none => none)
    | _, _ => none
  | .sliceStr x lo hi => match ev T x with
    | .str s => (match boundS ar T 0 lo, boundS ar T (ar.slen s) hi with
      | some l, some h => (match ar.nle l h && ar.nle h (ar.slen s) with
        | true => some (.str (ar.ssub s l h), .none)
        | false => none)
      | _, _ => none)
    | _ => none
  | .indexStr x i => match ev T x with
    | .str s => (match natS ar (ev T i) with
      | some k => (match ar.sget s k with
        | some b => some (.int .u8 (Int.ofNat b), .none)
        | none => none)
      | none => none)
    | _ => none
  | .lenStr x => match ev T x with
    | .str s => some (.int .i64 (Int.ofNat (ar.slen s)), .none)
    | _ => none
  | .lenSlice x => match ev T x with
    | .islice _ es => some (.int .i64 (Int.ofNat (ar.llen es)), .none)
    | .slice id gen off len => (match H[id]? with
      | some (.row _ g _) => (match ar.nbe g gen with
        | true => some (.int .i64 (Int.ofNat len), .none)
        | false => none)
      | _ => none)
    | _ => aop ar.wr nxt (.lenSlice x) T H
  | .lenMap x => match ev T x with
    | .map id => (match H[id]? with
      | some (.map es) => some (.int .i64 (Int.ofNat (ar.mlen es)), .none)
      | _ => none)
    | _ => aop ar.wr nxt (.lenMap x) T H
  | .indexAddr sz x i => match natS ar (ev T i) with
    | some k => (match ev T x with
      | .slice id gen off len => (match H[id]? with
        | some (.row s g _) => (match decide (s = sz) && ar.nbe g gen && ar.nle (k + 1) len with
          | true => some (.eptr id gen (off + k) 0, .none)
          | false => none)
        | _ => none)
      | .islice s es => (match decide (s = sz) with
        | true => (match ar.lget es k with
          | some e => some (.iptr e.cells, .none)
          | none => none)
        | false => none)
      | _ => none)
    | none => none
  | .lookup kk z m k ok => match ev T m with
    | .map id => (match H[id]? with
      | some (.map es) => (match ar.find kk es (ev T k) with
        | some (some (_, v)) => some (bif ok then .tuple [v, .bool true] else v, .none)
        | some none => some (bif ok then .tuple [z, .bool false] else z, .none)
        | none => none)
      | _ => none)
    | _ => none
  | .mapUpdate kk m k v => match ev T m with
    | .map id => (match H[id]? with
      | some (.map es) => (match ar.find kk es (ev T k) with
        | some (some (i, _)) => some (undefA, .set id (.map (ar.mset es i (ev T v))))
        | some none => some (undefA, .set id (.map (ar.madd es (ev T k) (ev T v))))
        | none => none)
      | _ => none)
    | _ => none
  | .delete kk m k => match ev T m with
    | .map id => (match H[id]? with
      | some (.map es) => (match ar.find kk es (ev T k) with
        | some (some (i, _)) => some (undefA, .set id (.map (ar.mdel es i)))
        | some none => some (undefA, .none)
        | none => none)
      | _ => none)
    | _ => none
  | .append sz bytes x y => match elemsOfS ar sz H (ev T y) with
    | some new => (match ev T x with
      | .slice id gen off len => (match H[id]? with
        | some (.row s g es) => (match decide (s = sz) && ar.nbe g gen && ar.nbe (off + len) (ar.llen es) && ar.nle ((len + ar.llen new) * bytes) 70368744177664 && ar.nle (len + ar.llen new) 70368744177664 with
          | true => some (.slice id (g + 1) 0 (len + ar.llen new), .set id (.row s (g + 1) (ar.lapp (es.drop off) new)))
          | false => none)
        | _ => none)
      | _ => aop ar.wr nxt (.append sz bytes x y) T H)
    | none => none
  | i => aop ar.wr nxt i T H

theorem aopS_eq (ar : Ar) (nxt : Nat) (i : Ins) (T : List AVal) (H : AHeap) : aopS ar nxt i T H = aop IntKind.wrap nxt i T H := by
  have hw := ar.wr_eq
  cases i <;> simp only [aopS, hw]
  case load g n a =>
    split
    · rename_i id gen i off he
      simp only [aop, he]
      cases H[id]? with
      | none => rfl
      | some o =>
        cases o <;> simp only [] <;> first | rfl | skip
        rename_i s g' es
        simp only [ar.nbe_eq, ar.lget_eq]
        by_cases hg : g' = gen <;> simp only [hg, decide_true, decide_false, if_true, if_false]
        cases es[i]? with
        | none => rfl
        | some e => cases readAt g n off e.cells <;> rfl
    · rfl
  case bin op x y => simp only [aop, binOpS_eq]; cases binOp IntKind.wrap op (ev T x) (ev T y) <;> rfl
  case eqAgg neg ks x y =>
    simp only [aop, eqFsS_eq]
    split
    · rename_i a b e1 e2; simp only [e1, e2]; cases eqFs ks a b <;> rfl
    · split <;> first | rfl | grind
  case sliceStr x lo hi =>
    simp only [aop, boundS_eq, ar.slen_eq, ar.nle_eq, ar.ssub_eq]
    split
    · rename_i s e1
      simp only [e1]
      cases bound T 0 lo <;> cases bound T s.length hi <;> simp only [] <;> first | rfl | skip
      rename_i l h
      by_cases h1 : l ≤ h <;> by_cases h2 : h ≤ s.length <;> simp [h1, h2]
    · split <;> first | rfl | grind
  case indexStr x i =>
    simp only [aop, natS_eq, ar.sget_eq]
    split
    · rename_i s e1
      simp only [e1]
      cases natOf (ev T i) with
      | none => rfl
      | some k => simp only []; cases s[k]? <;> rfl
    · split <;> first | rfl | grind
  case lenStr x =>
    simp only [aop, ar.slen_eq]
    split
    · rename_i s e1; simp only [e1]; rfl
    · split <;> first | rfl | grind
  case lenSlice x =>
    split
    · rename_i s es e1; simp only [aop, e1, ar.llen_eq]; rfl
    · rename_i id gen off len e1
      simp only [aop, e1, liveG]
      cases H[id]? with
      | none => rfl
      | some o =>
        cases o <;> simp only [] <;> first | rfl | skip
        rename_i s g es
        simp only [ar.nbe_eq]
        by_cases hg : g = gen <;> simp [hg]
    · rfl
  case lenMap x =>
    split
    · rename_i id e1
      simp only [aop, e1]
      cases H[id]? with
      | none => rfl
      | some o => cases o <;> simp only [ar.mlen_eq] <;> rfl
    · rfl
  case indexAddr sz x i =>
    simp only [aop, natS_eq]
    cases natOf (ev T i) with
    | none => rfl
    | some k =>
      simp only []
      split
      · rename_i id gen off len e1
        simp only [e1, liveR]
        cases H[id]? with
        | none => rfl
        | some o =>
          cases o <;> simp only [] <;> first | rfl | skip
          rename_i s g es
          simp only [ar.nbe_eq, ar.nle_eq]
          by_cases h1 : s = sz <;> by_cases h2 : g = gen <;> by_cases h3 : k < len <;> simp [h1, h2, h3, Nat.add_one_le_iff]
      · rename_i s es e1
        simp only [e1, ar.lget_eq]
        by_cases h : s = sz <;> simp only [h, decide_true, decide_false, if_true, if_false]
        cases es[k]? <;> rfl
      · split <;> first | rfl | grind
  case lookup kk z m k ok =>
    simp only [aop, ar.find_eq]
    split
    · rename_i id e1
      simp only [e1]
      cases H[id]? with
      | none => rfl
      | some o =>
        cases o <;> rfl
    · split <;> first | rfl | grind
  case mapUpdate kk m k v =>
    simp only [aop, ar.find_eq, ar.mset_eq, ar.madd_eq]
    split
    · rename_i id e1
      simp only [e1]
      cases H[id]? with
      | none => rfl
      | some o =>
        cases o <;> rfl
    · split <;> first | rfl | grind
  case delete kk m k =>
    simp only [aop, ar.find_eq, ar.mdel_eq]
    split
    · rename_i id e1
      simp only [e1]
      cases H[id]? with
      | none => rfl
      | some o =>
        cases o <;> rfl
    · split <;> first | rfl | grind
  case append sz bytes x y =>
    simp only [elemsOfS_eq]
    cases hne : elemsOf sz H (ev T y) with
    | none => simp only [aop, hne]
    | some new =>
      simp only []
      split
      · rename_i id gen off len e1
        simp only [aop, hne, e1]
        cases H[id]? with
        | none => rfl
        | some o =>
          cases o <;> simp only [] <;> first | rfl | skip
          rename_i s g es
          simp only [ar.nbe_eq, ar.nle_eq, ar.llen_eq, ar.lapp_eq]
          by_cases h1 : s = sz <;> by_cases h2 : g = gen <;> by_cases h3 : off + len = es.length <;> by_cases h4 : (len + new.length) * bytes ≤ 70368744177664 <;> by_cases h5 : len + new.length ≤ 70368744177664 <;> simp [h1, h2, h3, h4, h5]
      · rfl

end Go.Rv
