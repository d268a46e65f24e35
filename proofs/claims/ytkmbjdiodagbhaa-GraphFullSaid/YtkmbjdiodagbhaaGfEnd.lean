/-
  GfEnd: GraphFull returns true, whatever the number.
-/
import Derived.Test.YtkmbjdiodagbhaaGfRa
import Derived.Test.YtkmbjdiodagbhaaGfRb
import Derived.Test.YtkmbjdiodagbhaaGfRc
import Derived.Test.YtkmbjdiodagbhaaGfRd
import Derived.Test.YtkmbjdiodagbhaaGfRe
import Derived.Test.YtkmbjdiodagbhaaGfRf
import Derived.Test.YtkmbjdiodagbhaaGfRg
import Derived.Test.YtkmbjdiodagbhaaGfRh
import Derived.Test.YtkmbjdiodagbhaaGfRi
set_option linter.unusedSimpArgs false
set_option linter.unusedVariables false
set_option linter.unusedSectionVars false

set_option maxRecDepth 100000
namespace Go.Rv.Gf
open Go.Proofs

theorem rest_all (k : Nat) (hk : k < 50) : rest k = true := by
  have : (0 ≤ k ∧ k < 12) ∨ (12 ≤ k ∧ k < 20) ∨ (20 ≤ k ∧ k < 26) ∨ (26 ≤ k ∧ k < 31) ∨ (31 ≤ k ∧ k < 36) ∨ (36 ≤ k ∧ k < 40) ∨ (40 ≤ k ∧ k < 44) ∨ (44 ≤ k ∧ k < 47) ∨ (47 ≤ k ∧ k < 50) := by omega
  rcases this with h | h | h | h | h | h | h | h | h
  · exact List.all_eq_true.1 rest_a k (List.mem_range'_1.2 (by omega))
  · exact List.all_eq_true.1 rest_b k (List.mem_range'_1.2 (by omega))
  · exact List.all_eq_true.1 rest_c k (List.mem_range'_1.2 (by omega))
  · exact List.all_eq_true.1 rest_d k (List.mem_range'_1.2 (by omega))
  · exact List.all_eq_true.1 rest_e k (List.mem_range'_1.2 (by omega))
  · exact List.all_eq_true.1 rest_f k (List.mem_range'_1.2 (by omega))
  · exact List.all_eq_true.1 rest_g k (List.mem_range'_1.2 (by omega))
  · exact List.all_eq_true.1 rest_h k (List.mem_range'_1.2 (by omega))
  · exact List.all_eq_true.1 rest_i k (List.mem_range'_1.2 (by omega))

theorem graphFull_call (n : Nat) (hn : n < 256) : ACallV NA (.func 3 [] []) [.int .u8 (Int.ofNat n)] [] fun v _ => v = .bool true := by
  have hc := evalF_sound mixed L2_ok 100 30
  have hr := regF_ok mixed hc
  have hf := (callF_sound L2_ok (fun call hc => regF_ok mixed hc) 30 (rounds := 100)).2
  have hX : NA.withX (fun _ => False) = NA := rfl
  rw [← hX]
  refine ACallV.body (has3.withX _) ?_
  have hfr := List.all_eq_true.1 front_run n (List.mem_range.2 hn)
  have hrest := rest_all (n % 50) (Nat.mod_lt _ (by decide))
  have e : c3.body = seqs (cutSeq 5 c3.body) (restSeq 5 c3.body) := (cut_rest 5 c3.body).symm
  rw [e]
  refine pre_reach hc hr hf hfr (tmpsOf_rep (by simp)) heapNil _ (Nat.zero_le _) ?_
  refine reach_sound hc hr hf hrest (tmpsOf_rep (by simp [T2])) (heapOf_rep (by simp [H2])) _ (Nat.le_refl _) ?_
  simp [Back, c3, resAll, resA, T3, resOne]

end Go.Rv.Gf
