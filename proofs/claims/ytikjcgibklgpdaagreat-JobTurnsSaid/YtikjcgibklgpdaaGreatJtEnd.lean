/-
  JtEnd: JobTurns returns true, whatever it is handed.
-/
import Derived.Test.YtikjcgibklgpdaaGreatJtRun
set_option linter.unusedSimpArgs false
set_option linter.unusedVariables false
set_option linter.unusedSectionVars false

set_option maxRecDepth 100000
namespace Go.Rv.Jt
open Go.Proofs

theorem jobTurns_call (n : Nat) (hn : n < 256) (b : Bool) : ACallV NA (.func 5 [] []) [.int .u8 (Int.ofNat n), .bool b] [] fun v _ => v = .bool true := by
  have hc := evalF_sound mixed L2_ok 100 30
  have hr := regF_ok mixed hc
  have hf := (callF_sound L2_ok (fun call hc => regF_ok mixed hc) 30 (rounds := 100)).2
  have hX : NA.withX (fun _ => False) = NA := rfl
  rw [← hX]
  refine ACallV.body (has5.withX _) ?_
  have hfr := List.all_eq_true.1 front_run n (List.mem_range.2 hn)
  have hrest := List.all_eq_true.1 rest_run (n % 3) (List.mem_range.2 (Nat.mod_lt _ (by decide)))
  simp only [Bool.and_eq_true] at hfr hrest
  have hfr : reachF (front (Int.ofNat n) b) .normal (T2 (n % 3) b) [] = true := by
    cases b with
    | true => exact hfr.1
    | false => exact hfr.2
  have hrest : rest (n % 3) b = true := by
    cases b with
    | true => exact hrest.1
    | false => exact hrest.2
  have e : c5.body = seqs (cutSeq 3 c5.body) (restSeq 3 c5.body) := (cut_rest 3 c5.body).symm
  rw [e]
  refine pre_reach hc hr hf hfr (tmpsOf_rep (by simp)) heapNil _ (Nat.zero_le _) ?_
  refine reach_sound hc hr hf hrest (tmpsOf_rep (by simp [T2])) heapNil _ (Nat.le_refl _) ?_
  simp [Back, c5, resAll, resA, T3, resOne]

end Go.Rv.Jt
