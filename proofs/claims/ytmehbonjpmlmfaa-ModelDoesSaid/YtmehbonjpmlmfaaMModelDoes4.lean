/- 'ModelDoes' is true for every input, part 4 of its proof: words, contracts and plain laws. No condition. -/
import Derived.Test.YtmehbonjpmlmfaaMModelDoes3
import Derived.Laws.StructEq
namespace Go.Proofs.Ytmehbonjpmlmfaa
open Go.RowKit

def fewTo (S : List SentD) (k : Nat) : Bool := (List.range k).all fun i => match S[i]? with
  | some s => decide (s.out.length ≤ 30)
  | none => true
theorem fewTo_succ {S : List SentD} {k : Nat} {s : SentD} (hs : S[k]? = some s) : fewTo S (k + 1) = (fewTo S k && decide (s.out.length ≤ 30)) := by
  unfold fewTo
  rw [List.range_succ, List.all_append]
  simp [hs]
theorem fewTo_false {S : List SentD} {k n : Nat} (h : k ≤ n) (e : fewTo S k = false) : fewTo S n = false := by
  unfold fewTo at *
  rw [List.all_eq_false] at *
  obtain ⟨i, hi, h2⟩ := e
  exact ⟨i, List.mem_range.2 (by have := List.mem_range.1 hi; omega), h2⟩
/-- a model that is small enough to be played -/
def fewM (m : ModD) : Bool := fewTo m.sent m.sent.length && (decide (m.l.length ≤ 30) && decide (m.sent.length ≤ 30))
theorem fewM_sizes {m : ModD} (h : fewM m = true) : m.sent.length ≤ 30 ∧ m.l.length ≤ 30 ∧ ∀ s ∈ m.sent, s.out.length ≤ 30 := by
  unfold fewM fewTo at h
  simp only [Bool.and_eq_true, decide_eq_true_eq, List.all_eq_true] at h
  refine ⟨h.2.2, h.2.1, fun s hs => ?_⟩
  obtain ⟨i, hi, rfl⟩ := List.getElem_of_mem hs
  have := h.1 i (List.mem_range.2 hi)
  rw [List.getElem?_eq_getElem hi] at this
  simpa using this
theorem few_or (a b : Nat) : ((a ≤ 30) ∧ (b ≤ 30)) ∨ ((a ≤ 30) ∧ ¬ b ≤ 30) ∨ ¬ a ≤ 30 := by omega
set_option maxRecDepth 100000 in
set_option maxHeartbeats 4000000 in
theorem few_walk {m : ModD} {z : Bool} (hz : Hid (fewM m = z)) (hb : m.sent.length ≤ maxLen) (A : Option Addr) (c : Nat) (B : Option Addr) (d : Nat) (w : World) (hS : SentIn w B m.sent) :
    Calls Try.prog 31 #[.agg #[.int .i64 m.h, .int .i64 m.cap, .slice A m.l.length c, .int .i64 m.n, .int .i64 m.draws, .slice B m.sent.length d]] w fun e w' => e = .returned (.bool z) ∧ Below w.heap.size w w' := by
  have KB : Hid (Below w.heap.size w (w.alloc (.cells #[.int .i64 m.h, .int .i64 m.cap, .slice A m.l.length c, .int .i64 m.n, .int .i64 m.draws, .slice B m.sent.length d] 45))) := mkHid ((Below.refl _ _).alloc (Nat.le_refl _) _)
  have HS := mkHid (hS.below KB.out)
  have ZM : Hid (Blk (w.alloc (.cells #[.int .i64 m.h, .int .i64 m.cap, .slice A m.l.length c, .int .i64 m.n, .int .i64 m.draws, .slice B m.sent.length d] 45)) w.heap.size 45 #[.int .i64 m.h, .int .i64 m.cap, .slice A m.l.length c, .int .i64 m.n, .int .i64 m.draws, .slice B m.sent.length d]) := mkHid (Blk.new _ _ _)
  clear hS
  unfold maxLen at hb
  generalize hn : m.sent.length = n at *
  generalize hk : m.l.length = k at *
  have Hn := mkHid hn
  have Hk := mkHid hk
  clear hn hk
  have cM := ZM.out.six
  go_enter Try.func31, Try.ntmps31
  go_wp2_with fail
  clear cM
  generalize w.alloc (.cells #[.int .i64 m.h, .int .i64 m.cap, .slice A k c, .int .i64 m.n, .int .i64 m.draws, .slice B n d] 45) = w1 at *
  go_loopw [8] (fun j wr => ∃ i : Nat, i ≤ n ∧ j = .int .i64 (i : Int) ∧ Hid (fewTo m.sent i = true) ∧ Hid (Below w1.heap.size w1 wr)) (fun j _ => n - (intOf j).toNat)
  case atStart => exact ⟨0, Nat.zero_le _, rfl, mkHid rfl, mkHid (Below.refl _ _)⟩
  case round =>
    obtain ⟨i, hi, rfl, hok, HB⟩ := hrel
    by_cases hlt : i < n
    · have hiS : i < m.sent.length := by rw [Hn.out]; exact hlt
      have gS : m.sent[i]? = some m.sent[i] := List.getElem?_eq_getElem hiS
      have aS := (HS.out.below HB.out) i hiS
      generalize m.sent[i] = s at *
      obtain ⟨so, sd, sp1, sp2⟩ := s
      have hsk := mkHid (fewTo_succ gS)
      clear gS hiS
      obtain ⟨b1, off1, rfl, A1, c1, e0, _, _, _, _, e1, e2, e3⟩ := aS
      dsimp only at *
      by_cases hl : so.length ≤ 30
      · have t0 : decide ((30 : Int) < (so.length : Int)) = false := decide_eq_false (by omega)
        have hk2 : Hid (fewTo m.sent (i + 1) = true) := mkHid (by rw [hsk.out, hok.out, decide_eq_true hl]; rfl)
        have HB2 := mkHid (HB.out.alloc HB.out.size (.cells #[.slice A1 so.length c1, .int .i64 sd, .int .u64 (sp1.toNat : Int), .int .u64 (sp2.toNat : Int)] 66))
        clear hl
        go_wp2_with fail
        go_roundw
        case rel => exact ⟨i + 1, by omega, by go_num, hk2, HB2⟩
        case measure => simp [intOf]; omega
      · have t0 : decide ((30 : Int) < (so.length : Int)) = true := decide_eq_true (by omega)
        have HB2 := mkHid (KB.out.step (HB.out.alloc HB.out.size (.cells #[.slice A1 so.length c1, .int .i64 sd, .int .u64 (sp1.toNat : Int), .int .u64 (sp2.toNat : Int)] 66)))
        obtain rfl : z = false := by
          rw [← hz.out]
          unfold fewM
          rw [fewTo_false (k := i + 1) (by rw [Hn.out]; omega) (by rw [hsk.out, decide_eq_false hl, Bool.and_false]), Bool.false_and]
        clear hl
        go_wp2_with fail
        go_ret
        exact ⟨rfl, HB2.out⟩
    · obtain rfl : i = n := by omega
      have HB2 := mkHid (KB.out.step HB.out)
      have ZM2 := mkHid (ZM.out.keep HB.out)
      have cM := ZM2.out.six
      have e := hz.out
      unfold fewM at e
      rw [Hn.out, Hk.out, hok.out, Bool.true_and] at e
      rcases few_or k i with ⟨h1, h2⟩ | ⟨h1, h2⟩ | h1
      · rw [decide_eq_true h1, decide_eq_true h2] at e
        subst e
        have t1 : decide ((k : Int) ≤ 30) = true := decide_eq_true (by omega)
        have t2 : decide ((i : Int) ≤ 30) = true := decide_eq_true (by omega)
        clear h1 h2
        go_wp2_with fail
        go_ret
        exact ⟨rfl, HB2.out⟩
      · rw [decide_eq_true h1, decide_eq_false h2] at e
        subst e
        have t1 : decide ((k : Int) ≤ 30) = true := decide_eq_true (by omega)
        have t2 : decide ((i : Int) ≤ 30) = false := decide_eq_false (by omega)
        clear h1 h2
        go_wp2_with fail
        go_ret
        exact ⟨rfl, HB2.out⟩
      · rw [decide_eq_false h1, Bool.false_and] at e
        subst e
        have t1 : decide ((k : Int) ≤ 30) = false := decide_eq_false (by omega)
        clear h1
        go_wp2_with fail
        go_ret
        exact ⟨rfl, HB2.out⟩
theorem partP (a b c d e : Int) (w : World) : (part 51 #[.int .i64 a, .int .i64 b, .int .i64 c, .int .u64 d, .int .u64 e] 3).run Try.prog w = .ok (.agg #[.int .u64 d, .int .u64 e]) w := by kernel_rfl
theorem partE (a b c d e : Int) (w : World) : (part 26 #[.int .i64 a, .int .i64 b, .int .i64 c, .int .u64 d, .int .u64 e] 0).run Try.prog w = .ok (.int .i64 a) w := by kernel_rfl
theorem partN (a b c d e : Int) (w : World) : (part 2 #[.int .i64 a, .int .i64 b, .int .i64 c, .int .u64 d, .int .u64 e] 1).run Try.prog w = .ok (.int .i64 b) w := by kernel_rfl
theorem partD (a b c d e : Int) (w : World) : (part 3 #[.int .i64 a, .int .i64 b, .int .i64 c, .int .u64 d, .int .u64 e] 2).run Try.prog w = .ok (.int .i64 c) w := by kernel_rfl
theorem eq_blocks9 (a b c d : Int) (w : World) : (Op.equalIn 9999 51 (.agg #[.int .u64 a, .int .u64 b]) (.agg #[.int .u64 c, .int .u64 d])).run Try.prog w = .ok (a == c && b == d) w := by
  obtain ⟨i, hi⟩ := Option.isSome_iff_exists.1 infoU
  rw [run_equalIn_array w 9998 _ _ Try.underlying51 hi, cells_u64]
  have e1 := run_equalIn_int w 9997 30 .u64 .u64 a c Try.underlying30
  have e2 := run_equalIn_int w 9997 30 .u64 .u64 b d Try.underlying30
  rw [show List.range 2 = [0, 1] from rfl]
  simp only [Op.eqItems, Sem.run_bind, Nat.zero_mul, Nat.one_mul, part0_u64, Result.andThen_ok, e1]
  cases (a == c)
  · simp
  · simp only [Bool.not_true, Bool.false_eq_true, if_false, Sem.run_bind, part1_u64, Result.andThen_ok, e2]
    cases (b == d) <;> simp
theorem eqFields_step {P : Program} {d : Nat} {xs ys : Array Value} {f : Field} {fs : List Field} {w : World} {a b : Value} {r : Bool} (hn : f.name ≠ "_") (pa : (part f.type xs f.offset).run P w = .ok a w)
    (pb : (part f.type ys f.offset).run P w = .ok b w) (he : (Op.equalIn d f.type a b).run P w = .ok r w) : (Op.eqFields d xs ys (f :: fs)).run P w = if r = true then (Op.eqFields d xs ys fs).run P w else .ok false w := by
  rw [Op.eqFields, if_pos hn]
  simp only [Sem.run_bind, pa, pb, he, Result.andThen_ok]
  cases r <;> simp
theorem list_four {α β : Type} (g : α → β) (l : List α) (a b c d : β) (h : l.map g = [a, b, c, d]) : ∃ x y z u, l = [x, y, z, u] ∧ g x = a ∧ g y = b ∧ g z = c ∧ g u = d := by
  match l, h with
  | [x, y, z, u], h =>
    simp only [List.map_cons, List.map_nil, List.cons.injEq, and_true] at h
    exact ⟨x, y, z, u, rfl, h.1, h.2.1, h.2.2.1, h.2.2.2⟩
theorem stood_answer : Try.prog.stoodInHeld 55 = false := by kernel_rfl
/-- '==' on two answers -/
def ansEq (a b c d e a' b' c' d' e' : Int) : Bool := (a == a') && ((b == b') && ((c == c') && (d == d' && e == e')))
theorem ansEq_self (a b c d e : Int) : ansEq a b c d e a b c d e = true := by unfold ansEq; simp
theorem eq_answers (a b c d e a' b' c' d' e' : Int) (w : World) : (Op.equalIn 10000 55 (.agg #[.int .i64 a, .int .i64 b, .int .i64 c, .int .u64 d, .int .u64 e]) (.agg #[.int .i64 a', .int .i64 b', .int .i64 c', .int .u64 d', .int .u64 e'])).run Try.prog w = .ok (ansEq a b c d e a' b' c' d' e') w := by
  rw [run_equalIn_struct w 9999 _ _ _ (by kernel_rfl) stood_answer]
  have hf : (Try.prog.fieldsOf 55).toList.map (fun f => (f.name, f.type, f.offset)) = [("E", 26, 0), ("Epoch", 2, 1), ("Draw", 3, 2), ("Pay", 51, 3)] := by kernel_rfl
  obtain ⟨f0, f1, f2, f3, hl, h0, h1, h2, h3⟩ := list_four _ _ _ _ _ _ hf
  simp only [Prod.mk.injEq] at h0 h1 h2 h3
  obtain ⟨n0, t0, o0⟩ := h0
  obtain ⟨n1, t1, o1⟩ := h1
  obtain ⟨n2, t2, o2⟩ := h2
  obtain ⟨n3, t3, o3⟩ := h3
  rw [hl, eqFields_step (a := .int .i64 a) (b := .int .i64 a') (r := (a == a')) (by rw [n0]; decide) (by rw [t0, o0]; exact partE _ _ _ _ _ _) (by rw [t0, o0]; exact partE _ _ _ _ _ _) (by rw [t0]; exact run_equalIn_int w 9998 26 .i64 .i64 a a' Try.underlying26)]
  rw [eqFields_step (a := .int .i64 b) (b := .int .i64 b') (r := (b == b')) (by rw [n1]; decide) (by rw [t1, o1]; exact partN _ _ _ _ _ _) (by rw [t1, o1]; exact partN _ _ _ _ _ _) (by rw [t1]; exact run_equalIn_int w 9998 2 .i64 .i64 b b' Try.underlying2)]
  rw [eqFields_step (a := .int .i64 c) (b := .int .i64 c') (r := (c == c')) (by rw [n2]; decide) (by rw [t2, o2]; exact partD _ _ _ _ _ _) (by rw [t2, o2]; exact partD _ _ _ _ _ _) (by rw [t2]; exact run_equalIn_int w 9998 3 .i64 .i64 c c' Try.underlying3)]
  rw [eqFields_step (a := .agg #[.int .u64 d, .int .u64 e]) (b := .agg #[.int .u64 d', .int .u64 e']) (r := (d == d' && e == e')) (by rw [n3]; decide) (by rw [t3, o3]; exact partP _ _ _ _ _ _) (by rw [t3, o3]; exact partP _ _ _ _ _ _) (by rw [t3]; exact eq_blocks9 _ _ _ _ _)]
  unfold ansEq
  generalize (a == a') = p
  generalize (b == b') = q
  generalize (c == c') = r
  generalize (d == d' && e == e') = s
  cases p <;> cases q <;> cases r <;> cases s <;> simp [Op.eqFields]
end Go.Proofs.Ytmehbonjpmlmfaa

namespace Go.Proofs.Ytmehbonjpmlmfaa
open Go.RowKit

set_option maxRecDepth 100000 in
set_option maxHeartbeats 4000000 in
theorem rmchk_0 {h cap n dr : Int} {l : List Nat} {S : List SentD} (hh : h < 1 ∨ 32 < h)  (A : Option Addr) (c : Nat) (B : Option Addr) (d : Nat) (w : World) (hA : Reads w A l) (hS : SentIn w B S) :
    Calls Try.prog 38 #[.agg #[.int .i64 h, .int .i64 cap, .slice A l.length c, .int .i64 n, .int .i64 dr, .slice B S.length d]] w fun e w' => e = .returned (.int .i64 1) ∧ Below w.heap.size w w' := by
  skip
  have ZM : Hid (Blk (w.alloc (.cells #[.int .i64 h, .int .i64 cap, .slice A l.length c, .int .i64 n, .int .i64 dr, .slice B S.length d] 45)) w.heap.size 45 #[.int .i64 h, .int .i64 cap, .slice A l.length c, .int .i64 n, .int .i64 dr, .slice B S.length d]) := mkHid (Blk.new _ _ _)
  have KB : Hid (Below w.heap.size w (w.alloc (.cells #[.int .i64 h, .int .i64 cap, .slice A l.length c, .int .i64 n, .int .i64 dr, .slice B S.length d] 45))) := mkHid ((Below.refl _ _).alloc (Nat.le_refl _) _)
  have HA := mkHid (hA.below KB.out)
  have HS := mkHid (hS.below KB.out)
  clear hA hS
  have cZM := ZM.out.six
  have lZM := ZM.out.lt
  go_enter Try.func38, Try.ntmps38
  go_wp2_with fail
  refine (rcheck_root_no hh _).mono ?_
  rintro e w' ⟨rfl, hw'⟩
  obtain rfl := hw'.symm
  clear hw'
  go_wp2_with fail
  go_ret
  exact ⟨rfl, KB.out⟩

set_option maxRecDepth 100000 in
set_option maxHeartbeats 4000000 in
theorem rmchk_1 {h : Nat} {cap n dr : Int} {l : List Nat} {S : List SentD} (h1 : 1 ≤ h) (h2 : h ≤ 32) (t1 : (cap < 0))  (A : Option Addr) (c : Nat) (B : Option Addr) (d : Nat) (w : World) (hA : Reads w A l) (hS : SentIn w B S) :
    Calls Try.prog 38 #[.agg #[.int .i64 (h : Int), .int .i64 cap, .slice A l.length c, .int .i64 n, .int .i64 dr, .slice B S.length d]] w fun e w' => e = .returned (.int .i64 1) ∧ Below w.heap.size w w' := by
  have u1 : decide (cap < (0 : Int)) = true := decide_eq_true (by omega)
  have ZM : Hid (Blk (w.alloc (.cells #[.int .i64 (h : Int), .int .i64 cap, .slice A l.length c, .int .i64 n, .int .i64 dr, .slice B S.length d] 45)) w.heap.size 45 #[.int .i64 (h : Int), .int .i64 cap, .slice A l.length c, .int .i64 n, .int .i64 dr, .slice B S.length d]) := mkHid (Blk.new _ _ _)
  have KB : Hid (Below w.heap.size w (w.alloc (.cells #[.int .i64 (h : Int), .int .i64 cap, .slice A l.length c, .int .i64 n, .int .i64 dr, .slice B S.length d] 45))) := mkHid ((Below.refl _ _).alloc (Nat.le_refl _) _)
  have HA := mkHid (hA.below KB.out)
  have HS := mkHid (hS.below KB.out)
  clear hA hS
  have cZM := ZM.out.six
  have lZM := ZM.out.lt
  go_enter Try.func38, Try.ntmps38
  go_wp2_with fail
  refine (rcheck_root h1 h2 _).mono ?_
  rintro e w' ⟨rfl, hw'⟩
  obtain rfl := hw'.symm
  clear hw'
  go_wp2_with fail
  go_ret
  exact ⟨rfl, KB.out⟩

set_option maxRecDepth 100000 in
set_option maxHeartbeats 4000000 in
theorem rmchk_2 {h : Nat} {cap n dr : Int} {l : List Nat} {S : List SentD} (h1 : 1 ≤ h) (h2 : h ≤ 32) (t1 : ¬ (cap < 0)) (t2 : (1024 < cap))  (A : Option Addr) (c : Nat) (B : Option Addr) (d : Nat) (w : World) (hA : Reads w A l) (hS : SentIn w B S) :
    Calls Try.prog 38 #[.agg #[.int .i64 (h : Int), .int .i64 cap, .slice A l.length c, .int .i64 n, .int .i64 dr, .slice B S.length d]] w fun e w' => e = .returned (.int .i64 1) ∧ Below w.heap.size w w' := by
  have u1 : decide (cap < (0 : Int)) = false := decide_eq_false (by omega)
  have u2 : decide ((1024 : Int) < cap) = true := decide_eq_true (by omega)
  have ZM : Hid (Blk (w.alloc (.cells #[.int .i64 (h : Int), .int .i64 cap, .slice A l.length c, .int .i64 n, .int .i64 dr, .slice B S.length d] 45)) w.heap.size 45 #[.int .i64 (h : Int), .int .i64 cap, .slice A l.length c, .int .i64 n, .int .i64 dr, .slice B S.length d]) := mkHid (Blk.new _ _ _)
  have KB : Hid (Below w.heap.size w (w.alloc (.cells #[.int .i64 (h : Int), .int .i64 cap, .slice A l.length c, .int .i64 n, .int .i64 dr, .slice B S.length d] 45))) := mkHid ((Below.refl _ _).alloc (Nat.le_refl _) _)
  have HA := mkHid (hA.below KB.out)
  have HS := mkHid (hS.below KB.out)
  clear hA hS
  have cZM := ZM.out.six
  have lZM := ZM.out.lt
  go_enter Try.func38, Try.ntmps38
  go_wp2_with fail
  refine (rcheck_root h1 h2 _).mono ?_
  rintro e w' ⟨rfl, hw'⟩
  obtain rfl := hw'.symm
  clear hw'
  go_wp2_with fail
  go_ret
  exact ⟨rfl, KB.out⟩

set_option maxRecDepth 100000 in
set_option maxHeartbeats 4000000 in
theorem rmchk_3 {h : Nat} {cap n dr : Int} {l : List Nat} {S : List SentD} (h1 : 1 ≤ h) (h2 : h ≤ 32) (ec : Hid (checkAll (h : Int) l = 1)) (t1 : ¬ (cap < 0)) (t2 : ¬ (1024 < cap))  (A : Option Addr) (c : Nat) (B : Option Addr) (d : Nat) (w : World) (hA : Reads w A l) (hS : SentIn w B S) :
    Calls Try.prog 38 #[.agg #[.int .i64 (h : Int), .int .i64 cap, .slice A l.length c, .int .i64 n, .int .i64 dr, .slice B S.length d]] w fun e w' => e = .returned (.int .i64 1) ∧ Below w.heap.size w w' := by
  have u1 : decide (cap < (0 : Int)) = false := decide_eq_false (by omega)
  have u2 : decide ((1024 : Int) < cap) = false := decide_eq_false (by omega)
  have ZM : Hid (Blk (w.alloc (.cells #[.int .i64 (h : Int), .int .i64 cap, .slice A l.length c, .int .i64 n, .int .i64 dr, .slice B S.length d] 45)) w.heap.size 45 #[.int .i64 (h : Int), .int .i64 cap, .slice A l.length c, .int .i64 n, .int .i64 dr, .slice B S.length d]) := mkHid (Blk.new _ _ _)
  have KB : Hid (Below w.heap.size w (w.alloc (.cells #[.int .i64 (h : Int), .int .i64 cap, .slice A l.length c, .int .i64 n, .int .i64 dr, .slice B S.length d] 45))) := mkHid ((Below.refl _ _).alloc (Nat.le_refl _) _)
  have HA := mkHid (hA.below KB.out)
  have HS := mkHid (hS.below KB.out)
  clear hA hS
  have cZM := ZM.out.six
  have lZM := ZM.out.lt
  go_enter Try.func38, Try.ntmps38
  go_wp2_with fail
  refine (rcheck_root h1 h2 _).mono ?_
  rintro e w' ⟨rfl, hw'⟩
  obtain rfl := hw'.symm
  clear hw'
  go_wp2_with fail
  refine (scheck_all _ l ec _ _ _ HA.out).mono ?_
  rintro e w' ⟨rfl, hw'⟩
  obtain rfl := hw'.symm
  clear hw'
  go_wp2_with fail
  go_ret
  exact ⟨rfl, KB.out⟩

set_option maxRecDepth 100000 in
set_option maxHeartbeats 4000000 in
theorem rmchk_4 {h : Nat} {cap n dr : Int} {l : List Nat} {S : List SentD} (h1 : 1 ≤ h) (h2 : h ≤ 32) (ec : Hid (checkAll (h : Int) l = 0)) (t1 : ¬ (cap < 0)) (t2 : ¬ (1024 < cap)) (t4 : (cap < (l.length : Int)))  (A : Option Addr) (c : Nat) (B : Option Addr) (d : Nat) (w : World) (hA : Reads w A l) (hS : SentIn w B S) :
    Calls Try.prog 38 #[.agg #[.int .i64 (h : Int), .int .i64 cap, .slice A l.length c, .int .i64 n, .int .i64 dr, .slice B S.length d]] w fun e w' => e = .returned (.int .i64 1) ∧ Below w.heap.size w w' := by
  have u1 : decide (cap < (0 : Int)) = false := decide_eq_false (by omega)
  have u2 : decide ((1024 : Int) < cap) = false := decide_eq_false (by omega)
  have u4 : decide (cap < (l.length : Int)) = true := decide_eq_true (by omega)
  have ZM : Hid (Blk (w.alloc (.cells #[.int .i64 (h : Int), .int .i64 cap, .slice A l.length c, .int .i64 n, .int .i64 dr, .slice B S.length d] 45)) w.heap.size 45 #[.int .i64 (h : Int), .int .i64 cap, .slice A l.length c, .int .i64 n, .int .i64 dr, .slice B S.length d]) := mkHid (Blk.new _ _ _)
  have KB : Hid (Below w.heap.size w (w.alloc (.cells #[.int .i64 (h : Int), .int .i64 cap, .slice A l.length c, .int .i64 n, .int .i64 dr, .slice B S.length d] 45))) := mkHid ((Below.refl _ _).alloc (Nat.le_refl _) _)
  have HA := mkHid (hA.below KB.out)
  have HS := mkHid (hS.below KB.out)
  clear hA hS
  have cZM := ZM.out.six
  have lZM := ZM.out.lt
  go_enter Try.func38, Try.ntmps38
  go_wp2_with fail
  refine (rcheck_root h1 h2 _).mono ?_
  rintro e w' ⟨rfl, hw'⟩
  obtain rfl := hw'.symm
  clear hw'
  go_wp2_with fail
  refine (scheck_all _ l ec _ _ _ HA.out).mono ?_
  rintro e w' ⟨rfl, hw'⟩
  obtain rfl := hw'.symm
  clear hw'
  go_wp2_with fail
  go_ret
  exact ⟨rfl, KB.out⟩

set_option maxRecDepth 100000 in
set_option maxHeartbeats 4000000 in
theorem rmchk_5 {h : Nat} {cap n dr : Int} {l : List Nat} {S : List SentD} (h1 : 1 ≤ h) (h2 : h ≤ 32) (ec : Hid (checkAll (h : Int) l = 0)) (t1 : ¬ (cap < 0)) (t2 : ¬ (1024 < cap)) (t4 : ¬ (cap < (l.length : Int))) (t5 : (n < 0))  (A : Option Addr) (c : Nat) (B : Option Addr) (d : Nat) (w : World) (hA : Reads w A l) (hS : SentIn w B S) :
    Calls Try.prog 38 #[.agg #[.int .i64 (h : Int), .int .i64 cap, .slice A l.length c, .int .i64 n, .int .i64 dr, .slice B S.length d]] w fun e w' => e = .returned (.int .i64 1) ∧ Below w.heap.size w w' := by
  have u1 : decide (cap < (0 : Int)) = false := decide_eq_false (by omega)
  have u2 : decide ((1024 : Int) < cap) = false := decide_eq_false (by omega)
  have u4 : decide (cap < (l.length : Int)) = false := decide_eq_false (by omega)
  have u5 : decide (n < (0 : Int)) = true := decide_eq_true (by omega)
  have ZM : Hid (Blk (w.alloc (.cells #[.int .i64 (h : Int), .int .i64 cap, .slice A l.length c, .int .i64 n, .int .i64 dr, .slice B S.length d] 45)) w.heap.size 45 #[.int .i64 (h : Int), .int .i64 cap, .slice A l.length c, .int .i64 n, .int .i64 dr, .slice B S.length d]) := mkHid (Blk.new _ _ _)
  have KB : Hid (Below w.heap.size w (w.alloc (.cells #[.int .i64 (h : Int), .int .i64 cap, .slice A l.length c, .int .i64 n, .int .i64 dr, .slice B S.length d] 45))) := mkHid ((Below.refl _ _).alloc (Nat.le_refl _) _)
  have HA := mkHid (hA.below KB.out)
  have HS := mkHid (hS.below KB.out)
  clear hA hS
  have cZM := ZM.out.six
  have lZM := ZM.out.lt
  go_enter Try.func38, Try.ntmps38
  go_wp2_with fail
  refine (rcheck_root h1 h2 _).mono ?_
  rintro e w' ⟨rfl, hw'⟩
  obtain rfl := hw'.symm
  clear hw'
  go_wp2_with fail
  refine (scheck_all _ l ec _ _ _ HA.out).mono ?_
  rintro e w' ⟨rfl, hw'⟩
  obtain rfl := hw'.symm
  clear hw'
  go_wp2_with fail
  go_ret
  exact ⟨rfl, KB.out⟩

set_option maxRecDepth 100000 in
set_option maxHeartbeats 4000000 in
theorem rmchk_6 {h : Nat} {cap n dr : Int} {l : List Nat} {S : List SentD} (h1 : 1 ≤ h) (h2 : h ≤ 32) (ec : Hid (checkAll (h : Int) l = 0)) (t1 : ¬ (cap < 0)) (t2 : ¬ (1024 < cap)) (t4 : ¬ (cap < (l.length : Int))) (t5 : ¬ (n < 0)) (t6 : (1099511627776 < n))  (A : Option Addr) (c : Nat) (B : Option Addr) (d : Nat) (w : World) (hA : Reads w A l) (hS : SentIn w B S) :
    Calls Try.prog 38 #[.agg #[.int .i64 (h : Int), .int .i64 cap, .slice A l.length c, .int .i64 n, .int .i64 dr, .slice B S.length d]] w fun e w' => e = .returned (.int .i64 1) ∧ Below w.heap.size w w' := by
  have u1 : decide (cap < (0 : Int)) = false := decide_eq_false (by omega)
  have u2 : decide ((1024 : Int) < cap) = false := decide_eq_false (by omega)
  have u4 : decide (cap < (l.length : Int)) = false := decide_eq_false (by omega)
  have u5 : decide (n < (0 : Int)) = false := decide_eq_false (by omega)
  have u6 : decide ((1099511627776 : Int) < n) = true := decide_eq_true (by omega)
  have ZM : Hid (Blk (w.alloc (.cells #[.int .i64 (h : Int), .int .i64 cap, .slice A l.length c, .int .i64 n, .int .i64 dr, .slice B S.length d] 45)) w.heap.size 45 #[.int .i64 (h : Int), .int .i64 cap, .slice A l.length c, .int .i64 n, .int .i64 dr, .slice B S.length d]) := mkHid (Blk.new _ _ _)
  have KB : Hid (Below w.heap.size w (w.alloc (.cells #[.int .i64 (h : Int), .int .i64 cap, .slice A l.length c, .int .i64 n, .int .i64 dr, .slice B S.length d] 45))) := mkHid ((Below.refl _ _).alloc (Nat.le_refl _) _)
  have HA := mkHid (hA.below KB.out)
  have HS := mkHid (hS.below KB.out)
  clear hA hS
  have cZM := ZM.out.six
  have lZM := ZM.out.lt
  go_enter Try.func38, Try.ntmps38
  go_wp2_with fail
  refine (rcheck_root h1 h2 _).mono ?_
  rintro e w' ⟨rfl, hw'⟩
  obtain rfl := hw'.symm
  clear hw'
  go_wp2_with fail
  refine (scheck_all _ l ec _ _ _ HA.out).mono ?_
  rintro e w' ⟨rfl, hw'⟩
  obtain rfl := hw'.symm
  clear hw'
  go_wp2_with fail
  go_ret
  exact ⟨rfl, KB.out⟩

set_option maxRecDepth 100000 in
set_option maxHeartbeats 4000000 in
theorem rmchk_7 {h : Nat} {cap n dr : Int} {l : List Nat} {S : List SentD} (h1 : 1 ≤ h) (h2 : h ≤ 32) (ec : Hid (checkAll (h : Int) l = 0)) (t1 : ¬ (cap < 0)) (t2 : ¬ (1024 < cap)) (t4 : ¬ (cap < (l.length : Int))) (t5 : ¬ (n < 0)) (t6 : ¬ (1099511627776 < n)) (t7 : (dr < 1))  (A : Option Addr) (c : Nat) (B : Option Addr) (d : Nat) (w : World) (hA : Reads w A l) (hS : SentIn w B S) :
    Calls Try.prog 38 #[.agg #[.int .i64 (h : Int), .int .i64 cap, .slice A l.length c, .int .i64 n, .int .i64 dr, .slice B S.length d]] w fun e w' => e = .returned (.int .i64 1) ∧ Below w.heap.size w w' := by
  have u1 : decide (cap < (0 : Int)) = false := decide_eq_false (by omega)
  have u2 : decide ((1024 : Int) < cap) = false := decide_eq_false (by omega)
  have u4 : decide (cap < (l.length : Int)) = false := decide_eq_false (by omega)
  have u5 : decide (n < (0 : Int)) = false := decide_eq_false (by omega)
  have u6 : decide ((1099511627776 : Int) < n) = false := decide_eq_false (by omega)
  have u7 : decide (dr < (1 : Int)) = true := decide_eq_true (by omega)
  have ZM : Hid (Blk (w.alloc (.cells #[.int .i64 (h : Int), .int .i64 cap, .slice A l.length c, .int .i64 n, .int .i64 dr, .slice B S.length d] 45)) w.heap.size 45 #[.int .i64 (h : Int), .int .i64 cap, .slice A l.length c, .int .i64 n, .int .i64 dr, .slice B S.length d]) := mkHid (Blk.new _ _ _)
  have KB : Hid (Below w.heap.size w (w.alloc (.cells #[.int .i64 (h : Int), .int .i64 cap, .slice A l.length c, .int .i64 n, .int .i64 dr, .slice B S.length d] 45))) := mkHid ((Below.refl _ _).alloc (Nat.le_refl _) _)
  have HA := mkHid (hA.below KB.out)
  have HS := mkHid (hS.below KB.out)
  clear hA hS
  have cZM := ZM.out.six
  have lZM := ZM.out.lt
  go_enter Try.func38, Try.ntmps38
  go_wp2_with fail
  refine (rcheck_root h1 h2 _).mono ?_
  rintro e w' ⟨rfl, hw'⟩
  obtain rfl := hw'.symm
  clear hw'
  go_wp2_with fail
  refine (scheck_all _ l ec _ _ _ HA.out).mono ?_
  rintro e w' ⟨rfl, hw'⟩
  obtain rfl := hw'.symm
  clear hw'
  go_wp2_with fail
  go_ret
  exact ⟨rfl, KB.out⟩

set_option maxRecDepth 100000 in
set_option maxHeartbeats 4000000 in
theorem rmchk_8 {h : Nat} {cap n dr : Int} {l : List Nat} {S : List SentD} (h1 : 1 ≤ h) (h2 : h ≤ 32) (ec : Hid (checkAll (h : Int) l = 0)) (t1 : ¬ (cap < 0)) (t2 : ¬ (1024 < cap)) (t4 : ¬ (cap < (l.length : Int))) (t5 : ¬ (n < 0)) (t6 : ¬ (1099511627776 < n)) (t7 : ¬ (dr < 1)) (t8 : (4096 < dr))  (A : Option Addr) (c : Nat) (B : Option Addr) (d : Nat) (w : World) (hA : Reads w A l) (hS : SentIn w B S) :
    Calls Try.prog 38 #[.agg #[.int .i64 (h : Int), .int .i64 cap, .slice A l.length c, .int .i64 n, .int .i64 dr, .slice B S.length d]] w fun e w' => e = .returned (.int .i64 1) ∧ Below w.heap.size w w' := by
  have u1 : decide (cap < (0 : Int)) = false := decide_eq_false (by omega)
  have u2 : decide ((1024 : Int) < cap) = false := decide_eq_false (by omega)
  have u4 : decide (cap < (l.length : Int)) = false := decide_eq_false (by omega)
  have u5 : decide (n < (0 : Int)) = false := decide_eq_false (by omega)
  have u6 : decide ((1099511627776 : Int) < n) = false := decide_eq_false (by omega)
  have u7 : decide (dr < (1 : Int)) = false := decide_eq_false (by omega)
  have u8 : decide ((4096 : Int) < dr) = true := decide_eq_true (by omega)
  have ZM : Hid (Blk (w.alloc (.cells #[.int .i64 (h : Int), .int .i64 cap, .slice A l.length c, .int .i64 n, .int .i64 dr, .slice B S.length d] 45)) w.heap.size 45 #[.int .i64 (h : Int), .int .i64 cap, .slice A l.length c, .int .i64 n, .int .i64 dr, .slice B S.length d]) := mkHid (Blk.new _ _ _)
  have KB : Hid (Below w.heap.size w (w.alloc (.cells #[.int .i64 (h : Int), .int .i64 cap, .slice A l.length c, .int .i64 n, .int .i64 dr, .slice B S.length d] 45))) := mkHid ((Below.refl _ _).alloc (Nat.le_refl _) _)
  have HA := mkHid (hA.below KB.out)
  have HS := mkHid (hS.below KB.out)
  clear hA hS
  have cZM := ZM.out.six
  have lZM := ZM.out.lt
  go_enter Try.func38, Try.ntmps38
  go_wp2_with fail
  refine (rcheck_root h1 h2 _).mono ?_
  rintro e w' ⟨rfl, hw'⟩
  obtain rfl := hw'.symm
  clear hw'
  go_wp2_with fail
  refine (scheck_all _ l ec _ _ _ HA.out).mono ?_
  rintro e w' ⟨rfl, hw'⟩
  obtain rfl := hw'.symm
  clear hw'
  go_wp2_with fail
  go_ret
  exact ⟨rfl, KB.out⟩

set_option maxRecDepth 100000 in
set_option maxHeartbeats 4000000 in
theorem rmchk_9 {h : Nat} {cap n dr : Int} {l : List Nat} {S : List SentD} (h1 : 1 ≤ h) (h2 : h ≤ 32) (ec : Hid (checkAll (h : Int) l = 0)) (t1 : ¬ (cap < 0)) (t2 : ¬ (1024 < cap)) (t4 : ¬ (cap < (l.length : Int))) (t5 : ¬ (n < 0)) (t6 : ¬ (1099511627776 < n)) (t7 : ¬ (dr < 1)) (t8 : ¬ (4096 < dr)) (t9 : (dr ≤ (S.length : Int)))  (A : Option Addr) (c : Nat) (B : Option Addr) (d : Nat) (w : World) (hA : Reads w A l) (hS : SentIn w B S) :
    Calls Try.prog 38 #[.agg #[.int .i64 (h : Int), .int .i64 cap, .slice A l.length c, .int .i64 n, .int .i64 dr, .slice B S.length d]] w fun e w' => e = .returned (.int .i64 1) ∧ Below w.heap.size w w' := by
  have u1 : decide (cap < (0 : Int)) = false := decide_eq_false (by omega)
  have u2 : decide ((1024 : Int) < cap) = false := decide_eq_false (by omega)
  have u4 : decide (cap < (l.length : Int)) = false := decide_eq_false (by omega)
  have u5 : decide (n < (0 : Int)) = false := decide_eq_false (by omega)
  have u6 : decide ((1099511627776 : Int) < n) = false := decide_eq_false (by omega)
  have u7 : decide (dr < (1 : Int)) = false := decide_eq_false (by omega)
  have u8 : decide ((4096 : Int) < dr) = false := decide_eq_false (by omega)
  have u9 : decide (dr ≤ (S.length : Int)) = true := decide_eq_true (by omega)
  have ZM : Hid (Blk (w.alloc (.cells #[.int .i64 (h : Int), .int .i64 cap, .slice A l.length c, .int .i64 n, .int .i64 dr, .slice B S.length d] 45)) w.heap.size 45 #[.int .i64 (h : Int), .int .i64 cap, .slice A l.length c, .int .i64 n, .int .i64 dr, .slice B S.length d]) := mkHid (Blk.new _ _ _)
  have KB : Hid (Below w.heap.size w (w.alloc (.cells #[.int .i64 (h : Int), .int .i64 cap, .slice A l.length c, .int .i64 n, .int .i64 dr, .slice B S.length d] 45))) := mkHid ((Below.refl _ _).alloc (Nat.le_refl _) _)
  have HA := mkHid (hA.below KB.out)
  have HS := mkHid (hS.below KB.out)
  clear hA hS
  have cZM := ZM.out.six
  have lZM := ZM.out.lt
  go_enter Try.func38, Try.ntmps38
  go_wp2_with fail
  refine (rcheck_root h1 h2 _).mono ?_
  rintro e w' ⟨rfl, hw'⟩
  obtain rfl := hw'.symm
  clear hw'
  go_wp2_with fail
  refine (scheck_all _ l ec _ _ _ HA.out).mono ?_
  rintro e w' ⟨rfl, hw'⟩
  obtain rfl := hw'.symm
  clear hw'
  go_wp2_with fail
  go_ret
  exact ⟨rfl, KB.out⟩

theorem sentOk_false {h cap : Int} {S : List SentD} {k n : Nat} (h1 : k ≤ n) (e : sentOk h cap S k = false) : sentOk h cap S n = false := by
  unfold sentOk at *
  rw [List.all_eq_false] at *
  obtain ⟨i, hi, h2⟩ := e
  exact ⟨i, List.mem_range.2 (by have := List.mem_range.1 hi; omega), h2⟩

set_option maxRecDepth 100000 in
set_option maxHeartbeats 4000000 in
theorem rmchk_good {h : Nat} {cap n dr : Int} {l : List Nat} {S : List SentD} {r : Int} (hr : Hid ((if sentOk (h : Int) cap S S.length = true then (0 : Int) else 1) = r)) (h1 : 1 ≤ h) (h2 : h ≤ 32) (ec : Hid (checkAll (h : Int) l = 0)) (t1 : ¬ (cap < 0)) (t2 : ¬ (1024 < cap)) (t4 : ¬ (cap < (l.length : Int))) (t5 : ¬ (n < 0)) (t6 : ¬ (1099511627776 < n)) (t7 : ¬ (dr < 1)) (t8 : ¬ (4096 < dr)) (t9 : ¬ (dr ≤ (S.length : Int)))  (A : Option Addr) (c : Nat) (B : Option Addr) (d : Nat) (w : World) (hA : Reads w A l) (hS : SentIn w B S) :
    Calls Try.prog 38 #[.agg #[.int .i64 (h : Int), .int .i64 cap, .slice A l.length c, .int .i64 n, .int .i64 dr, .slice B S.length d]] w fun e w' => e = .returned (.int .i64 r) ∧ Below w.heap.size w w' := by
  have u1 : decide (cap < (0 : Int)) = false := decide_eq_false (by omega)
  have u2 : decide ((1024 : Int) < cap) = false := decide_eq_false (by omega)
  have u4 : decide (cap < (l.length : Int)) = false := decide_eq_false (by omega)
  have u5 : decide (n < (0 : Int)) = false := decide_eq_false (by omega)
  have u6 : decide ((1099511627776 : Int) < n) = false := decide_eq_false (by omega)
  have u7 : decide (dr < (1 : Int)) = false := decide_eq_false (by omega)
  have u8 : decide ((4096 : Int) < dr) = false := decide_eq_false (by omega)
  have u9 : decide (dr ≤ (S.length : Int)) = false := decide_eq_false (by omega)
  have ZM : Hid (Blk (w.alloc (.cells #[.int .i64 (h : Int), .int .i64 cap, .slice A l.length c, .int .i64 n, .int .i64 dr, .slice B S.length d] 45)) w.heap.size 45 #[.int .i64 (h : Int), .int .i64 cap, .slice A l.length c, .int .i64 n, .int .i64 dr, .slice B S.length d]) := mkHid (Blk.new _ _ _)
  have hS0' := mkHid hS
  have KB : Hid (Below w.heap.size w (w.alloc (.cells #[.int .i64 (h : Int), .int .i64 cap, .slice A l.length c, .int .i64 n, .int .i64 dr, .slice B S.length d] 45))) := mkHid ((Below.refl _ _).alloc (Nat.le_refl _) _)
  have HA := mkHid (hA.below KB.out)
  have HS := mkHid (hS.below KB.out)
  clear hA hS
  have cZM := ZM.out.six
  have lZM := ZM.out.lt
  go_enter Try.func38, Try.ntmps38
  go_wp2_with fail
  refine (rcheck_root h1 h2 _).mono ?_
  rintro e w' ⟨rfl, hw'⟩
  obtain rfl := hw'.symm
  clear hw'
  go_wp2_with fail
  refine (scheck_all _ l ec _ _ _ HA.out).mono ?_
  rintro e w' ⟨rfl, hw'⟩
  obtain rfl := hw'.symm
  clear hw'
  go_wp2_with fail
  clear cZM lZM
  generalize w.alloc (.cells #[.int .i64 (h : Int), .int .i64 cap, .slice A l.length c, .int .i64 n, .int .i64 dr, .slice B S.length d] 45) = w1 at *
  have hbs : S.length ≤ 4096 := by omega
  clear u1 u2 u4 u5 u6 u7 u8 u9
  go_loopw [66] (fun j wr => ∃ i : Nat, i ≤ S.length ∧ j = .int .i64 (i : Int) ∧ Hid (sentOk (h : Int) cap S i = true) ∧ Hid (Blk wr w.heap.size 45 #[.int .i64 (h : Int), .int .i64 cap, .slice A l.length c, .int .i64 n, .int .i64 dr, .slice B S.length d]) ∧ Hid (Below w.heap.size w wr)) (fun j _ => S.length - (intOf j).toNat)
  case atStart => exact ⟨0, Nat.zero_le _, rfl, mkHid rfl, ZM, KB⟩
  case round =>
    have hS0 := mkHid hS0'.out
    clear ZM KB HA HS
    obtain ⟨i, hi, rfl, hk, ZM, KB⟩ := hrel
    by_cases hlt : i < S.length
    · obtain ⟨b1, off1, rfl, aS⟩ := (hS0.out.below KB.out) i hlt
      have hsk := mkHid (sentOk_succ (h := (h : Int)) (cap := cap) hlt)
      generalize S[i] = s at *
      obtain ⟨so, sd, sp1, sp2⟩ := s
      obtain ⟨A1, c1, e0, _, _, hR, _, e1, e2, e3⟩ := aS
      dsimp only at *
      have HR := mkHid (hR.below ((Below.refl _ _).alloc (Nat.le_refl _) (.cells #[.slice A1 so.length c1, .int .i64 sd, .int .u64 (sp1.toNat : Int), .int .u64 (sp2.toNat : Int)] 66)))
      clear hR
      have cM := ZM.out.six
      have lM := ZM.out.lt
      have lb := World.block_lt_of_cell? _ _ e0
      dsimp only at lb
      have KB2 := mkHid (KB.out.alloc KB.out.size (.cells #[.slice A1 so.length c1, .int .i64 sd, .int .u64 (sp1.toNat : Int), .int .u64 (sp2.toNat : Int)] 66))
      have ZM2 := mkHid (ZM.out.alloc (.cells #[.slice A1 so.length c1, .int .i64 sd, .int .u64 (sp1.toNat : Int), .int .u64 (sp2.toNat : Int)] 66))
      have iR : inRoom (h : Int) cap so = (decide ((so.length : Int) ≤ cap) && checkAll (h : Int) so == 0) := rfl
      have IR := mkHid iR
      clear iR
      rcases checkAll_or (h : Int) so with e | e
      · have E := mkHid e
        clear e
        by_cases hl : (so.length : Int) ≤ cap
        · have v1 : decide (cap < (so.length : Int)) = false := decide_eq_false (by omega)
          by_cases hd : sd = (i : Int) + 1
          · have v2 : (sd != (i : Int) + 1) = false := bne_eq_false_iff_eq.2 hd
            have hk2 : Hid (sentOk (h : Int) cap S (i + 1) = true) := mkHid (by rw [hsk.out, hk.out, IR.out, E.out, decide_eq_true hl, decide_eq_true hd]; rfl)
            clear hl hd
            go_wp2_with fail
            refine (scheck_all _ so E _ _ _ HR.out).mono ?_
            rintro e w' ⟨rfl, hw'⟩
            obtain rfl := hw'.symm
            clear hw'
            go_wp2_with fail
            go_roundw
            case rel => exact ⟨i + 1, by omega, by go_num, hk2, ZM2, KB2⟩
            case measure => simp [intOf]; omega
          · have v2 : (sd != (i : Int) + 1) = true := bne_iff_ne.2 hd
            have hk2 : Hid (sentOk (h : Int) cap S (i + 1) = false) := mkHid (by rw [hsk.out, decide_eq_false hd, Bool.and_false, Bool.and_false])
            obtain rfl : r = 1 := by rw [← hr.out, sentOk_false (Nat.succ_le_of_lt hlt) hk2.out]; rfl
            clear hl hd
            go_wp2_with fail
            refine (scheck_all _ so E _ _ _ HR.out).mono ?_
            rintro e w' ⟨rfl, hw'⟩
            obtain rfl := hw'.symm
            clear hw'
            go_wp2_with fail
            go_ret
            exact ⟨rfl, KB2.out⟩
        · have v1 : decide (cap < (so.length : Int)) = true := decide_eq_true (by omega)
          have hk2 : Hid (sentOk (h : Int) cap S (i + 1) = false) := mkHid (by rw [hsk.out, IR.out, decide_eq_false hl, Bool.false_and, Bool.false_and, Bool.and_false])
          obtain rfl : r = 1 := by rw [← hr.out, sentOk_false (Nat.succ_le_of_lt hlt) hk2.out]; rfl
          clear hl
          go_wp2_with fail
          refine (scheck_all _ so E _ _ _ HR.out).mono ?_
          rintro e w' ⟨rfl, hw'⟩
          obtain rfl := hw'.symm
          clear hw'
          go_wp2_with fail
          go_ret
          exact ⟨rfl, KB2.out⟩
      · have E := mkHid e
        clear e
        have hk2 : Hid (sentOk (h : Int) cap S (i + 1) = false) := mkHid (by rw [hsk.out, IR.out, E.out]; simp)
        obtain rfl : r = 1 := by rw [← hr.out, sentOk_false (Nat.succ_le_of_lt hlt) hk2.out]; rfl
        go_wp2_with fail
        refine (scheck_all _ so E _ _ _ HR.out).mono ?_
        rintro e w' ⟨rfl, hw'⟩
        obtain rfl := hw'.symm
        clear hw'
        go_wp2_with fail
        go_ret
        exact ⟨rfl, KB2.out⟩
    · obtain rfl : i = S.length := by omega
      obtain rfl : r = 0 := by rw [← hr.out, hk.out]; rfl
      go_wp2_with fail
      go_ret
      exact ⟨rfl, KB.out⟩

theorem checkAll_h {h : Int} {l : List Nat} (e : checkAll h l = 0) : ∃ k : Nat, h = (k : Int) ∧ 1 ≤ k ∧ k ≤ 32 := by
  unfold checkAll at e
  split at e
  · rename_i c
    exact ⟨h.toNat, by omega, by omega, by omega⟩
  · cases e
theorem rmchk {m : ModD} {r : Int} (e : Hid ((if okM m then (0 : Int) else 1) = r)) (A : Option Addr) (c : Nat) (B : Option Addr) (d : Nat) (w : World) (hA : Reads w A m.l) (hS : SentIn w B m.sent) :
    Calls Try.prog 38 #[.agg #[.int .i64 m.h, .int .i64 m.cap, .slice A m.l.length c, .int .i64 m.n, .int .i64 m.draws, .slice B m.sent.length d]] w fun e w' => e = .returned (.int .i64 r) ∧ Below w.heap.size w w' := by
  obtain ⟨h, cap, l, n, dr, S⟩ := m
  have e' := e.out
  unfold okM inRoom at e'
  dsimp only at *
  have no : ∀ {q : Bool}, q = false → (if q = true then (0 : Int) else 1) = 1 := fun {q} k => by rw [k]; rfl
  by_cases hh : h < 1 ∨ 32 < h
  · obtain rfl : r = 1 := by
      rw [← e']
      refine no ?_
      rcases checkAll_or h l with q | q
      · obtain ⟨k, _, _, _⟩ := checkAll_h q; omega
      · simp [q]
    exact rmchk_0 hh A c B d w hA hS
  · obtain ⟨k, rfl⟩ : ∃ k : Nat, h = (k : Int) := ⟨h.toNat, by omega⟩
    have h1 : 1 ≤ k := by omega
    have h2 : k ≤ 32 := by omega
    clear hh
    by_cases t1 : cap < 0
    · obtain rfl : r = 1 := by rw [← e']; exact no (by rw [decide_eq_false (show ¬ (l.length : Int) ≤ cap by omega)]; simp)
      exact rmchk_1 h1 h2 t1 A c B d w hA hS
    · by_cases t2 : 1024 < cap
      · obtain rfl : r = 1 := by rw [← e']; exact no (by rw [decide_eq_false (show ¬ cap ≤ 1024 by omega)]; simp)
        exact rmchk_2 h1 h2 t1 t2 A c B d w hA hS
      · rcases checkAll_or (k : Int) l with q | q
        · by_cases t4 : cap < (l.length : Int)
          · obtain rfl : r = 1 := by rw [← e']; exact no (by rw [decide_eq_false (show ¬ (l.length : Int) ≤ cap by omega)]; simp)
            exact rmchk_4 h1 h2 (mkHid q) t1 t2 t4 A c B d w hA hS
          · by_cases t5 : n < 0
            · obtain rfl : r = 1 := by rw [← e']; exact no (by rw [decide_eq_false (show ¬ 0 ≤ n by omega)]; simp)
              exact rmchk_5 h1 h2 (mkHid q) t1 t2 t4 t5 A c B d w hA hS
            · by_cases t6 : 1099511627776 < n
              · obtain rfl : r = 1 := by rw [← e']; exact no (by rw [decide_eq_false (show ¬ n ≤ 1099511627776 by omega)]; simp)
                exact rmchk_6 h1 h2 (mkHid q) t1 t2 t4 t5 t6 A c B d w hA hS
              · by_cases t7 : dr < 1
                · obtain rfl : r = 1 := by rw [← e']; exact no (by rw [decide_eq_false (show ¬ (S.length : Int) < dr by omega)]; simp)
                  exact rmchk_7 h1 h2 (mkHid q) t1 t2 t4 t5 t6 t7 A c B d w hA hS
                · by_cases t8 : 4096 < dr
                  · obtain rfl : r = 1 := by rw [← e']; exact no (by rw [decide_eq_false (show ¬ dr ≤ 4096 by omega)]; simp)
                    exact rmchk_8 h1 h2 (mkHid q) t1 t2 t4 t5 t6 t7 t8 A c B d w hA hS
                  · by_cases t9 : dr ≤ (S.length : Int)
                    · obtain rfl : r = 1 := by rw [← e']; exact no (by rw [decide_eq_false (show ¬ (S.length : Int) < dr by omega)]; simp)
                      exact rmchk_9 h1 h2 (mkHid q) t1 t2 t4 t5 t6 t7 t8 t9 A c B d w hA hS
                    · refine rmchk_good (mkHid ?_) h1 h2 (mkHid q) t1 t2 t4 t5 t6 t7 t8 t9 A c B d w hA hS
                      rw [← e', q, decide_eq_true (show cap ≤ 1024 by omega), decide_eq_true (show (l.length : Int) ≤ cap by omega), decide_eq_true (show 0 ≤ n by omega), decide_eq_true (show n ≤ 1099511627776 by omega), decide_eq_true (show dr ≤ 4096 by omega), decide_eq_true (show (S.length : Int) < dr by omega)]
                      simp
        · obtain rfl : r = 1 := by rw [← e']; exact no (by rw [q]; simp)
          exact rmchk_3 h1 h2 (mkHid q) t1 t2 A c B d w hA hS
end Go.Proofs.Ytmehbonjpmlmfaa

namespace Go.Proofs.Ytmehbonjpmlmfaa
open Go.RowKit

set_option maxRecDepth 100000 in
set_option maxHeartbeats 4000000 in
theorem rmnew_zero {h room draws : Int} (h0 : draws = 0) (w : World) :
    Calls Try.prog 34 #[.int .i64 h, .int .i64 room, .int .i64 draws] w fun e w' => e = .returned (.tuple #[.agg #[.int .i64 0, .int .i64 0, .slice none 0 0, .int .i64 0, .int .i64 0, .slice none 0 0], .int .i64 10]) ∧ Below w.heap.size w w' := by
  have t0 : (draws == (0 : Int)) = true := beq_iff_eq.2 h0
  clear h0
  have ZZ : Hid (Blk (w.alloc (.cells #[.int .i64 0, .int .i64 0, .slice none 0 0, .int .i64 0, .int .i64 0, .slice none 0 0] 45)) w.heap.size 45 #[.int .i64 0, .int .i64 0, .slice none 0 0, .int .i64 0, .int .i64 0, .slice none 0 0]) := mkHid (Blk.new _ _ _)
  have KB : Hid (Below w.heap.size w (w.alloc (.cells #[.int .i64 0, .int .i64 0, .slice none 0 0, .int .i64 0, .int .i64 0, .slice none 0 0] 45))) := mkHid ((Below.refl _ _).alloc (Nat.le_refl _) _)
  have cZZ := ZZ.out.six
  have fZZ0 := ZZ.out.frozen 0
  have fZZ1 := ZZ.out.frozen 1
  have fZZ2 := ZZ.out.frozen 2
  have fZZ3 := ZZ.out.frozen 3
  have fZZ4 := ZZ.out.frozen 4
  have fZZ5 := ZZ.out.frozen 5
  have lZZ := ZZ.out.lt
  go_enter Try.func34, Try.ntmps34
  go_wp2_with fail
  have qR := ZZ.out.six
  refine bodyPost_ret (v := .tuple #[.agg #[.int .i64 0, .int .i64 0, .slice none 0 0, .int .i64 0, .int .i64 0, .slice none 0 0], .int .i64 10]) (by simp [results, Try.results34, go_sem, qR]) rfl ⟨rfl, ?_⟩
  exact KB.out

set_option maxRecDepth 100000 in
set_option maxHeartbeats 4000000 in
theorem rmnew_yes {h room draws : Int} (h0 : draws ≠ 0) (e : Hid ((if okM (freshM h room draws) then (0 : Int) else 1) = 0)) (w : World) :
    Calls Try.prog 34 #[.int .i64 h, .int .i64 room, .int .i64 draws] w fun e w' => e = .returned (.tuple #[.agg #[.int .i64 h, .int .i64 room, .slice none 0 0, .int .i64 0, .int .i64 draws, .slice none 0 0], .int .i64 0]) ∧ Below w.heap.size w w' := by
  have t0 : (draws == (0 : Int)) = false := beq_eq_false_iff_ne.2 h0
  have ZZ : Hid (Blk ((w.alloc (.cells #[.int .i64 0, .int .i64 0, .slice none 0 0, .int .i64 0, .int .i64 0, .slice none 0 0] 45)).alloc (.cells #[.int .i64 h, .int .i64 room, .slice none 0 0, .int .i64 0, .int .i64 draws, .slice none 0 0] 45)) w.heap.size 45 #[.int .i64 0, .int .i64 0, .slice none 0 0, .int .i64 0, .int .i64 0, .slice none 0 0]) := mkHid ((Blk.new _ _ _).alloc _)
  have ZX : Hid (Blk ((w.alloc (.cells #[.int .i64 0, .int .i64 0, .slice none 0 0, .int .i64 0, .int .i64 0, .slice none 0 0] 45)).alloc (.cells #[.int .i64 h, .int .i64 room, .slice none 0 0, .int .i64 0, .int .i64 draws, .slice none 0 0] 45)) (w.heap.size + 1) 45 #[.int .i64 h, .int .i64 room, .slice none 0 0, .int .i64 0, .int .i64 draws, .slice none 0 0]) := mkHid (Blk.at _ _ _ (by simp))
  have KB : Hid (Below w.heap.size w ((w.alloc (.cells #[.int .i64 0, .int .i64 0, .slice none 0 0, .int .i64 0, .int .i64 0, .slice none 0 0] 45)).alloc (.cells #[.int .i64 h, .int .i64 room, .slice none 0 0, .int .i64 0, .int .i64 draws, .slice none 0 0] 45))) := mkHid (((Below.refl _ _).alloc (Nat.le_refl _) _).alloc (by simp) _)
  have cZZ := ZZ.out.six
  have fZZ0 := ZZ.out.frozen 0
  have fZZ1 := ZZ.out.frozen 1
  have fZZ2 := ZZ.out.frozen 2
  have fZZ3 := ZZ.out.frozen 3
  have fZZ4 := ZZ.out.frozen 4
  have fZZ5 := ZZ.out.frozen 5
  have lZZ := ZZ.out.lt
  have cZX := ZX.out.six
  have lZX := ZX.out.lt
  go_enter Try.func34, Try.ntmps34
  go_wp2_with fail
  refine (rmchk e none 0 none 0 _ (Reads.nil _) (SentIn.nil _ _)).mono ?_
  rintro e w1 ⟨rfl, hb1⟩
  replace ZZ := mkHid (ZZ.out.keep hb1)
  replace ZX := mkHid (ZX.out.keep hb1)
  replace KB := mkHid (KB.out.step hb1)
  clear cZZ fZZ0 fZZ1 fZZ2 fZZ3 fZZ4 fZZ5 lZZ
  have cZZ := ZZ.out.six
  have fZZ0 := ZZ.out.frozen 0
  have fZZ1 := ZZ.out.frozen 1
  have fZZ2 := ZZ.out.frozen 2
  have fZZ3 := ZZ.out.frozen 3
  have fZZ4 := ZZ.out.frozen 4
  have fZZ5 := ZZ.out.frozen 5
  have lZZ := ZZ.out.lt
  clear cZX lZX
  have cZX := ZX.out.six
  have lZX := ZX.out.lt
  clear hb1
  go_wp2_with fail
  have qR := (ZZ.out.fill6 (b0 := .int .i64 h) (b1 := .int .i64 room) (b2 := .slice none 0 0) (b3 := .int .i64 0) (b4 := .int .i64 draws) (b5 := .slice none 0 0)).six
  refine bodyPost_ret (v := .tuple #[.agg #[.int .i64 h, .int .i64 room, .slice none 0 0, .int .i64 0, .int .i64 draws, .slice none 0 0], .int .i64 0]) (by simp [results, Try.results34, go_sem, qR]) rfl ⟨rfl, ?_⟩
  exact below_six KB.out (Nat.le_refl _) _ _ _ _ _ _

set_option maxRecDepth 100000 in
set_option maxHeartbeats 4000000 in
theorem rmnew_no {h room draws : Int} (h0 : draws ≠ 0) (e : Hid ((if okM (freshM h room draws) then (0 : Int) else 1) = 1)) (w : World) :
    Calls Try.prog 34 #[.int .i64 h, .int .i64 room, .int .i64 draws] w fun e w' => e = .returned (.tuple #[.agg #[.int .i64 0, .int .i64 0, .slice none 0 0, .int .i64 0, .int .i64 0, .slice none 0 0], .int .i64 1]) ∧ Below w.heap.size w w' := by
  have t0 : (draws == (0 : Int)) = false := beq_eq_false_iff_ne.2 h0
  have ZZ : Hid (Blk ((w.alloc (.cells #[.int .i64 0, .int .i64 0, .slice none 0 0, .int .i64 0, .int .i64 0, .slice none 0 0] 45)).alloc (.cells #[.int .i64 h, .int .i64 room, .slice none 0 0, .int .i64 0, .int .i64 draws, .slice none 0 0] 45)) w.heap.size 45 #[.int .i64 0, .int .i64 0, .slice none 0 0, .int .i64 0, .int .i64 0, .slice none 0 0]) := mkHid ((Blk.new _ _ _).alloc _)
  have ZX : Hid (Blk ((w.alloc (.cells #[.int .i64 0, .int .i64 0, .slice none 0 0, .int .i64 0, .int .i64 0, .slice none 0 0] 45)).alloc (.cells #[.int .i64 h, .int .i64 room, .slice none 0 0, .int .i64 0, .int .i64 draws, .slice none 0 0] 45)) (w.heap.size + 1) 45 #[.int .i64 h, .int .i64 room, .slice none 0 0, .int .i64 0, .int .i64 draws, .slice none 0 0]) := mkHid (Blk.at _ _ _ (by simp))
  have KB : Hid (Below w.heap.size w ((w.alloc (.cells #[.int .i64 0, .int .i64 0, .slice none 0 0, .int .i64 0, .int .i64 0, .slice none 0 0] 45)).alloc (.cells #[.int .i64 h, .int .i64 room, .slice none 0 0, .int .i64 0, .int .i64 draws, .slice none 0 0] 45))) := mkHid (((Below.refl _ _).alloc (Nat.le_refl _) _).alloc (by simp) _)
  have cZZ := ZZ.out.six
  have fZZ0 := ZZ.out.frozen 0
  have fZZ1 := ZZ.out.frozen 1
  have fZZ2 := ZZ.out.frozen 2
  have fZZ3 := ZZ.out.frozen 3
  have fZZ4 := ZZ.out.frozen 4
  have fZZ5 := ZZ.out.frozen 5
  have lZZ := ZZ.out.lt
  have cZX := ZX.out.six
  have lZX := ZX.out.lt
  go_enter Try.func34, Try.ntmps34
  go_wp2_with fail
  refine (rmchk e none 0 none 0 _ (Reads.nil _) (SentIn.nil _ _)).mono ?_
  rintro e w1 ⟨rfl, hb1⟩
  replace ZZ := mkHid (ZZ.out.keep hb1)
  replace ZX := mkHid (ZX.out.keep hb1)
  replace KB := mkHid (KB.out.step hb1)
  clear cZZ fZZ0 fZZ1 fZZ2 fZZ3 fZZ4 fZZ5 lZZ
  have cZZ := ZZ.out.six
  have fZZ0 := ZZ.out.frozen 0
  have fZZ1 := ZZ.out.frozen 1
  have fZZ2 := ZZ.out.frozen 2
  have fZZ3 := ZZ.out.frozen 3
  have fZZ4 := ZZ.out.frozen 4
  have fZZ5 := ZZ.out.frozen 5
  have lZZ := ZZ.out.lt
  clear cZX lZX
  have cZX := ZX.out.six
  have lZX := ZX.out.lt
  clear hb1
  go_wp2_with fail
  have qR := (ZZ.out.fill6 (b0 := .int .i64 0) (b1 := .int .i64 0) (b2 := .slice none 0 0) (b3 := .int .i64 0) (b4 := .int .i64 0) (b5 := .slice none 0 0)).six
  refine bodyPost_ret (v := .tuple #[.agg #[.int .i64 0, .int .i64 0, .slice none 0 0, .int .i64 0, .int .i64 0, .slice none 0 0], .int .i64 1]) (by simp [results, Try.results34, go_sem, qR]) rfl ⟨rfl, ?_⟩
  exact below_six KB.out (Nat.le_refl _) _ _ _ _ _ _

theorem rmnew {h room draws : Int} {m : ModD} {r : Int} (e : Hid (newM h room draws = (m, r))) (w : World) :
    Calls Try.prog 34 #[.int .i64 h, .int .i64 room, .int .i64 draws] w fun e w' => e = .returned (.tuple #[.agg #[.int .i64 m.h, .int .i64 m.cap, .slice none 0 0, .int .i64 m.n, .int .i64 m.draws, .slice none 0 0], .int .i64 r]) ∧ Below w.heap.size w w' := by
  have e' := e.out
  unfold newM at e'
  by_cases h0 : draws = 0
  · rw [if_pos h0] at e'; cases e'
    exact rmnew_zero h0 w
  · rw [if_neg h0] at e'
    cases hk : okM (freshM h room draws)
    · rw [hk] at e'; cases e'
      exact rmnew_no h0 (mkHid (by rw [hk]; rfl)) w
    · rw [hk, if_pos rfl] at e'; cases e'
      exact rmnew_yes h0 (mkHid (by rw [hk]; rfl)) w

set_option maxRecDepth 100000 in
set_option maxHeartbeats 4000000 in
theorem rmmay_bad {m : ModD} {i : Nat} {n : Int} (e : Hid ((if okM m then (0 : Int) else 1) = 1)) (A : Option Addr) (c : Nat) (B : Option Addr) (d : Nat) (w : World) (hM : MemM w A c B d m) :
    Calls Try.prog 35 #[.agg #[.int .i64 m.h, .int .i64 m.cap, .slice A m.l.length c, .int .i64 m.n, .int .i64 m.draws, .slice B m.sent.length d], .int .u64 (i : Int), .int .i64 n] w fun e w' => e = .returned (.tuple #[.bool false, .int .i64 1]) ∧ Below w.heap.size w w' := by
  skip
  have ZX : Hid (Blk (w.alloc (.cells #[.int .i64 m.h, .int .i64 m.cap, .slice A m.l.length c, .int .i64 m.n, .int .i64 m.draws, .slice B m.sent.length d] 45)) w.heap.size 45 #[.int .i64 m.h, .int .i64 m.cap, .slice A m.l.length c, .int .i64 m.n, .int .i64 m.draws, .slice B m.sent.length d]) := mkHid (Blk.new _ _ _)
  have KB : Hid (Below w.heap.size w (w.alloc (.cells #[.int .i64 m.h, .int .i64 m.cap, .slice A m.l.length c, .int .i64 m.n, .int .i64 m.draws, .slice B m.sent.length d] 45))) := mkHid ((Below.refl _ _).alloc (Nat.le_refl _) _)
  have HM := mkHid (hM.below KB.out)
  clear hM
  have cZX := ZX.out.six
  have lZX := ZX.out.lt
  go_enter Try.func35, Try.ntmps35
  go_wp2_with fail
  refine (rmchk e _ _ _ _ _ HM.out.reads HM.out.sents).mono ?_
  rintro e w1 ⟨rfl, hb1⟩
  replace ZX := mkHid (ZX.out.keep hb1)
  replace KB := mkHid (KB.out.step hb1)
  replace HM := mkHid (HM.out.below hb1)
  clear cZX lZX
  have cZX := ZX.out.six
  have lZX := ZX.out.lt
  clear hb1
  go_wp2_with fail
  go_ret2
  exact ⟨by simp, KB.out⟩

theorem is_h {x : Int} {k i : Nat} {z : Bool} (hk : Hid (x = (k : Int))) (h1 : 1 ≤ k) (h2 : k ≤ 32) (hz : Hid (decide (i < 2 ^ k) = z)) (w : World) :
    Calls Try.prog 48 #[.int .i64 x, .int .u64 (i : Int)] w fun e w' => e = .returned (.bool z) ∧ w' = w := by
  rw [hk.out]
  exact sis_any h1 h2 hz w

set_option maxRecDepth 100000 in
set_option maxHeartbeats 4000000 in
theorem rmmay_leaf {m : ModD} {i : Nat} {n : Int} {k : Nat} (hk : Hid (m.h = (k : Int))) (h1 : 1 ≤ k) (h2 : k ≤ 32) (e : Hid ((if okM m then (0 : Int) else 1) = 0)) (hi : Hid (decide (i < 2 ^ k) = false))  (A : Option Addr) (c : Nat) (B : Option Addr) (d : Nat) (w : World) (hM : MemM w A c B d m) :
    Calls Try.prog 35 #[.agg #[.int .i64 m.h, .int .i64 m.cap, .slice A m.l.length c, .int .i64 m.n, .int .i64 m.draws, .slice B m.sent.length d], .int .u64 (i : Int), .int .i64 n] w fun e w' => e = .returned (.tuple #[.bool false, .int .i64 1]) ∧ Below w.heap.size w w' := by
  skip
  have ZX : Hid (Blk (w.alloc (.cells #[.int .i64 m.h, .int .i64 m.cap, .slice A m.l.length c, .int .i64 m.n, .int .i64 m.draws, .slice B m.sent.length d] 45)) w.heap.size 45 #[.int .i64 m.h, .int .i64 m.cap, .slice A m.l.length c, .int .i64 m.n, .int .i64 m.draws, .slice B m.sent.length d]) := mkHid (Blk.new _ _ _)
  have KB : Hid (Below w.heap.size w (w.alloc (.cells #[.int .i64 m.h, .int .i64 m.cap, .slice A m.l.length c, .int .i64 m.n, .int .i64 m.draws, .slice B m.sent.length d] 45))) := mkHid ((Below.refl _ _).alloc (Nat.le_refl _) _)
  have HM := mkHid (hM.below KB.out)
  clear hM
  have cZX := ZX.out.six
  have lZX := ZX.out.lt
  go_enter Try.func35, Try.ntmps35
  go_wp2_with fail
  refine (rmchk e _ _ _ _ _ HM.out.reads HM.out.sents).mono ?_
  rintro e w1 ⟨rfl, hb1⟩
  replace ZX := mkHid (ZX.out.keep hb1)
  replace KB := mkHid (KB.out.step hb1)
  replace HM := mkHid (HM.out.below hb1)
  clear cZX lZX
  have cZX := ZX.out.six
  have lZX := ZX.out.lt
  clear hb1
  go_wp2_with fail
  refine (is_h hk h1 h2 hi _).mono ?_
  rintro e w' ⟨rfl, hw'⟩
  obtain rfl := hw'.symm
  clear hw'
  go_wp2_with fail
  go_ret2
  exact ⟨by simp, KB.out⟩

set_option maxRecDepth 100000 in
set_option maxHeartbeats 4000000 in
theorem rmmay_low {m : ModD} {i : Nat} {n : Int} {k : Nat} (hk : Hid (m.h = (k : Int))) (h1 : 1 ≤ k) (h2 : k ≤ 32) (e : Hid ((if okM m then (0 : Int) else 1) = 0)) (hi : Hid (decide (i < 2 ^ k) = true)) (h0 : n < 1) (A : Option Addr) (c : Nat) (B : Option Addr) (d : Nat) (w : World) (hM : MemM w A c B d m) :
    Calls Try.prog 35 #[.agg #[.int .i64 m.h, .int .i64 m.cap, .slice A m.l.length c, .int .i64 m.n, .int .i64 m.draws, .slice B m.sent.length d], .int .u64 (i : Int), .int .i64 n] w fun e w' => e = .returned (.tuple #[.bool false, .int .i64 1]) ∧ Below w.heap.size w w' := by
  have t0 : decide (n < (1 : Int)) = true := decide_eq_true h0
  have ZX : Hid (Blk (w.alloc (.cells #[.int .i64 m.h, .int .i64 m.cap, .slice A m.l.length c, .int .i64 m.n, .int .i64 m.draws, .slice B m.sent.length d] 45)) w.heap.size 45 #[.int .i64 m.h, .int .i64 m.cap, .slice A m.l.length c, .int .i64 m.n, .int .i64 m.draws, .slice B m.sent.length d]) := mkHid (Blk.new _ _ _)
  have KB : Hid (Below w.heap.size w (w.alloc (.cells #[.int .i64 m.h, .int .i64 m.cap, .slice A m.l.length c, .int .i64 m.n, .int .i64 m.draws, .slice B m.sent.length d] 45))) := mkHid ((Below.refl _ _).alloc (Nat.le_refl _) _)
  have HM := mkHid (hM.below KB.out)
  clear hM
  have cZX := ZX.out.six
  have lZX := ZX.out.lt
  go_enter Try.func35, Try.ntmps35
  go_wp2_with fail
  refine (rmchk e _ _ _ _ _ HM.out.reads HM.out.sents).mono ?_
  rintro e w1 ⟨rfl, hb1⟩
  replace ZX := mkHid (ZX.out.keep hb1)
  replace KB := mkHid (KB.out.step hb1)
  replace HM := mkHid (HM.out.below hb1)
  clear cZX lZX
  have cZX := ZX.out.six
  have lZX := ZX.out.lt
  clear hb1
  go_wp2_with fail
  refine (is_h hk h1 h2 hi _).mono ?_
  rintro e w' ⟨rfl, hw'⟩
  obtain rfl := hw'.symm
  clear hw'
  go_wp2_with fail
  go_ret2
  exact ⟨by simp, KB.out⟩

set_option maxRecDepth 100000 in
set_option maxHeartbeats 4000000 in
theorem rmmay_high {m : ModD} {i : Nat} {n : Int} {k : Nat} (hk : Hid (m.h = (k : Int))) (h1 : 1 ≤ k) (h2 : k ≤ 32) (e : Hid ((if okM m then (0 : Int) else 1) = 0)) (hi : Hid (decide (i < 2 ^ k) = true)) (h0 : ¬ n < 1) (h3 : (m.sent.length : Int) < n) (A : Option Addr) (c : Nat) (B : Option Addr) (d : Nat) (w : World) (hM : MemM w A c B d m) :
    Calls Try.prog 35 #[.agg #[.int .i64 m.h, .int .i64 m.cap, .slice A m.l.length c, .int .i64 m.n, .int .i64 m.draws, .slice B m.sent.length d], .int .u64 (i : Int), .int .i64 n] w fun e w' => e = .returned (.tuple #[.bool false, .int .i64 1]) ∧ Below w.heap.size w w' := by
  have t0 : decide (n < (1 : Int)) = false := decide_eq_false h0
  have t1 : decide ((m.sent.length : Int) < n) = true := decide_eq_true h3
  have ZX : Hid (Blk (w.alloc (.cells #[.int .i64 m.h, .int .i64 m.cap, .slice A m.l.length c, .int .i64 m.n, .int .i64 m.draws, .slice B m.sent.length d] 45)) w.heap.size 45 #[.int .i64 m.h, .int .i64 m.cap, .slice A m.l.length c, .int .i64 m.n, .int .i64 m.draws, .slice B m.sent.length d]) := mkHid (Blk.new _ _ _)
  have KB : Hid (Below w.heap.size w (w.alloc (.cells #[.int .i64 m.h, .int .i64 m.cap, .slice A m.l.length c, .int .i64 m.n, .int .i64 m.draws, .slice B m.sent.length d] 45))) := mkHid ((Below.refl _ _).alloc (Nat.le_refl _) _)
  have HM := mkHid (hM.below KB.out)
  clear hM
  have cZX := ZX.out.six
  have lZX := ZX.out.lt
  go_enter Try.func35, Try.ntmps35
  go_wp2_with fail
  refine (rmchk e _ _ _ _ _ HM.out.reads HM.out.sents).mono ?_
  rintro e w1 ⟨rfl, hb1⟩
  replace ZX := mkHid (ZX.out.keep hb1)
  replace KB := mkHid (KB.out.step hb1)
  replace HM := mkHid (HM.out.below hb1)
  clear cZX lZX
  have cZX := ZX.out.six
  have lZX := ZX.out.lt
  clear hb1
  go_wp2_with fail
  refine (is_h hk h1 h2 hi _).mono ?_
  rintro e w' ⟨rfl, hw'⟩
  obtain rfl := hw'.symm
  clear hw'
  go_wp2_with fail
  go_ret2
  exact ⟨by simp, KB.out⟩

set_option maxRecDepth 100000 in
set_option maxHeartbeats 4000000 in
theorem rmmay_yes {m : ModD} {i : Nat} {k : Nat} (hk : Hid (m.h = (k : Int))) (h1 : 1 ≤ k) (h2 : k ≤ 32) (e : Hid ((if okM m then (0 : Int) else 1) = 0)) (hi : Hid (decide (i < 2 ^ k) = true)) {j : Nat} {s : SentD} {z : Bool} (hj : j < m.sent.length) (hs : Hid (m.sent[j] = s)) (hlen : s.out.length ≤ 4611686018427387904) (hz : Hid (decide (i ∈ s.out) = z))  (A : Option Addr) (c : Nat) (B : Option Addr) (d : Nat) (w : World) (hM : MemM w A c B d m) :
    Calls Try.prog 35 #[.agg #[.int .i64 m.h, .int .i64 m.cap, .slice A m.l.length c, .int .i64 m.n, .int .i64 m.draws, .slice B m.sent.length d], .int .u64 (i : Int), .int .i64 ((j : Int) + 1)] w fun e w' => e = .returned (.tuple #[.bool (!z), .int .i64 0]) ∧ Below w.heap.size w w' := by
  have t0 : decide ((j : Int) + 1 < (1 : Int)) = false := decide_eq_false (by omega)
  have t1 : decide ((m.sent.length : Int) < (j : Int) + 1) = false := decide_eq_false (by omega)
  have ZX : Hid (Blk (w.alloc (.cells #[.int .i64 m.h, .int .i64 m.cap, .slice A m.l.length c, .int .i64 m.n, .int .i64 m.draws, .slice B m.sent.length d] 45)) w.heap.size 45 #[.int .i64 m.h, .int .i64 m.cap, .slice A m.l.length c, .int .i64 m.n, .int .i64 m.draws, .slice B m.sent.length d]) := mkHid (Blk.new _ _ _)
  have KB : Hid (Below w.heap.size w (w.alloc (.cells #[.int .i64 m.h, .int .i64 m.cap, .slice A m.l.length c, .int .i64 m.n, .int .i64 m.draws, .slice B m.sent.length d] 45))) := mkHid ((Below.refl _ _).alloc (Nat.le_refl _) _)
  have HM := mkHid (hM.below KB.out)
  clear hM
  have cZX := ZX.out.six
  have lZX := ZX.out.lt
  go_enter Try.func35, Try.ntmps35
  go_wp2_with fail
  refine (rmchk e _ _ _ _ _ HM.out.reads HM.out.sents).mono ?_
  rintro e w1 ⟨rfl, hb1⟩
  replace ZX := mkHid (ZX.out.keep hb1)
  replace KB := mkHid (KB.out.step hb1)
  replace HM := mkHid (HM.out.below hb1)
  clear cZX lZX
  have cZX := ZX.out.six
  have lZX := ZX.out.lt
  clear hb1
  go_wp2_with fail
  obtain ⟨b, off, eB, A2, c2, e0, _, _, hR, _⟩ := HM.out.sents j hj
  rw [hs.out] at e0 hR
  subst eB
  have HR := mkHid hR
  clear hR
  have hwj : IntKind.i64.wrap (j : Int) = (j : Int) := by rw [IntKind.wrap_i64]; have := HM.out.short.1; omega
  refine (is_h hk h1 h2 hi _).mono ?_
  rintro e w' ⟨rfl, hw'⟩
  obtain rfl := hw'.symm
  clear hw'
  go_wp2_with fail
  refine (sin_walk (s := s.out) hlen hz A2 c2 _ HR.out).mono ?_
  rintro e w' ⟨rfl, hw'⟩
  obtain rfl := hw'.symm
  clear hw'
  go_wp2_with fail
  go_ret2
  exact ⟨by simp, KB.out⟩

theorem hasAll_ok {k : Nat} {s : List Nat} {i : Nat} (h1 : 1 ≤ k) (h2 : k ≤ 32) (hs : SetOk k s) : hasAll (k : Int) s i = if i < 2 ^ k then (decide (i ∈ s), 0) else (false, 1) := by
  unfold hasAll
  by_cases hi : i < 2 ^ k
  · rw [if_pos hi, if_pos ⟨⟨by omega, by omega⟩, by rw [Int.toNat_natCast]; exact hs, by rw [Int.toNat_natCast]; exact hi⟩]
  · rw [if_neg hi, if_neg (fun c => hi (by have := c.2.2; rw [Int.toNat_natCast] at this; exact this))]
theorem checkAll_set {h : Int} {l : List Nat} (e : checkAll h l = 0) : ∃ k : Nat, h = (k : Int) ∧ 1 ≤ k ∧ k ≤ 32 ∧ SetOk k l := by
  unfold checkAll at e
  split at e
  · rename_i c
    exact ⟨h.toNat, by omega, by omega, by omega, c.2⟩
  · cases e
theorem rmmay {m : ModD} {i : Nat} {n : Int} {z : Bool} {r : Int} (e : Hid (mayM m i n = (z, r))) (A : Option Addr) (c : Nat) (B : Option Addr) (d : Nat) (w : World) (hM : MemM w A c B d m) :
    Calls Try.prog 35 #[.agg #[.int .i64 m.h, .int .i64 m.cap, .slice A m.l.length c, .int .i64 m.n, .int .i64 m.draws, .slice B m.sent.length d], .int .u64 (i : Int), .int .i64 n] w fun e w' => e = .returned (.tuple #[.bool z, .int .i64 r]) ∧ Below w.heap.size w w' := by
  have e' := e.out
  unfold mayM at e'
  cases hok : okM m
  · rw [hok, if_neg (by simp)] at e'
    cases e'
    exact rmmay_bad (mkHid (by rw [hok]; rfl)) A c B d w hM
  · rw [hok] at e'
    have hk' : Hid ((if okM m then (0 : Int) else 1) = 0) := mkHid (by rw [hok]; rfl)
    obtain ⟨k, hk, h1, h2, _⟩ := checkAll_set (okM_parts hok).2.2.1
    have HK : Hid (m.h = (k : Int)) := mkHid hk
    by_cases hi : i < 2 ^ k
    · have HI : Hid (decide (i < 2 ^ k) = true) := mkHid (decide_eq_true hi)
      by_cases h0 : n < 1
      · rw [if_neg (by omega)] at e'
        cases e'
        exact rmmay_low HK h1 h2 hk' HI h0 A c B d w hM
      · rw [if_pos ⟨rfl, by omega⟩] at e'
        by_cases h3 : (m.sent.length : Int) < n
        · rw [List.getElem?_eq_none (by omega)] at e'
          cases e'
          exact rmmay_high HK h1 h2 hk' HI h0 h3 A c B d w hM
        · obtain ⟨j, rfl⟩ : ∃ j : Nat, n = (j : Int) + 1 := ⟨(n - 1).toNat, by omega⟩
          have hj : j < m.sent.length := by omega
          rw [show ((j : Int) + 1 - 1).toNat = j by omega, List.getElem?_eq_getElem hj] at e'
          dsimp only at e'
          have hso := (sentOk_at (okM_parts hok).2.2.2.2.2.2.2 hj).2.1
          obtain ⟨k', hk'', _, _, hs⟩ := checkAll_set hso
          obtain rfl : k' = k := by omega
          have hl := (okM_sizes hok).2.2 m.sent[j] (List.getElem_mem hj)
          rw [hk, hasAll_ok h1 h2 hs, if_pos hi] at e'
          cases e'
          refine (rmmay_yes (z := decide (i ∈ m.sent[j].out)) HK h1 h2 hk' HI hj (mkHid rfl) (by omega) (mkHid rfl) A c B d w hM).mono ?_
          rintro e w' ⟨rfl, hb⟩
          exact ⟨by simp, hb⟩
    · have HI : Hid (decide (i < 2 ^ k) = false) := mkHid (decide_eq_false hi)
      have q : (z, r) = (false, (1 : Int)) := by
        by_cases h0 : 1 ≤ n
        · rw [if_pos ⟨rfl, h0⟩] at e'
          by_cases h3 : (n - 1).toNat < m.sent.length
          · rw [List.getElem?_eq_getElem h3] at e'
            dsimp only at e'
            have hso := (sentOk_at (okM_parts hok).2.2.2.2.2.2.2 h3).2.1
            obtain ⟨k', hk'', _, _, hs⟩ := checkAll_set hso
            obtain rfl : k' = k := by omega
            rw [hk, hasAll_ok h1 h2 hs, if_neg hi] at e'
            rw [← e']; rfl
          · rw [List.getElem?_eq_none (by omega)] at e'
            exact e'.symm
        · rw [if_neg (by omega)] at e'
          exact e'.symm
      cases q
      exact rmmay_leaf HK h1 h2 hk' HI A c B d w hM
end Go.Proofs.Ytmehbonjpmlmfaa

namespace Go.Proofs.Ytmehbonjpmlmfaa
open Go.RowKit

theorem cell_blk {w w1 : World} {n i : Nat} {v : Value} (h : w1.heap[n]? = w.heap[n]?) (hc : w.cell? ⟨n, i, none⟩ = some v) : w1.cell? ⟨n, i, none⟩ = some v := by
  unfold World.cell? at *
  rw [h]; exact hc
theorem wof_nil {w : World} (base : Nat) (v : Value) (s : List Nat) (h : w.ownsRow base 30 1 v ([] ++ s).length (natCells ([] ++ s))) : RowOf w base v s := by
  rw [List.nil_append] at h
  exact h
theorem sent_append2 {w : World} {base : Nat} {A B : Option Addr} {c d : Nat} {X : List SX} {m : ModD} (h : OwnM w base A c B d X m) (x : SX) (hx : RowOf w base (.slice x.a x.s.out.length x.c) x.s.out) (ad : Addr) (hc : RowAt w (some ad) (sxCells x)) (hb : base ≤ w.heap.size) (hl : m.sent.length ≤ 4096) (ty : TypeId) :
    ∃ w' B' d' N, (Builtin.append_ #[43, 43] ty #[.slice B m.sent.length d, .slice (some ad) 1 1]).run Try.prog w = .ok (.slice B' N d') w' ∧ N = (m.sent ++ [x.s]).length ∧ OwnM w' base A c B' d' (X ++ [x]) { m with sent := m.sent ++ [x.s] } ∧ Below base w w' ∧ w.grownBy w' (Value.slice B m.sent.length d).ownBlock := by
  obtain ⟨i0, hi, hz0, hz1, hz2⟩ := info_parts info_csent
  obtain ⟨v', w', hr, h2, h3, _⟩ := run_append_own (P := Try.prog) w base 43 ty 66 i0 (.agg #[.slice none 0 0, .int .i64 0, .int .u64 0, .int .u64 0]) 4 48 Try.underlying43 hi hz0 hz1 hz2 rfl (by decide) (.slice B m.sent.length d) m.sent.length (sentCells X) h.sents ad 1 1 (sxCells x) rfl hc.some (by
    intro u hu
    simp only [sxCells, List.mem_cons, List.not_mem_nil, or_false] at hu
    rcases hu with rfl | rfl | rfl | rfl <;> rfl) (by unfold maxLen; omega) (by omega) hb
  obtain ⟨B', d', rfl, _⟩ := RowAt.of_own h2
  have hg : ∀ {v : Value} {s : List Nat}, RowOf w base v s → RowOf w' base v s := fun {v s} q => World.ownsRow.kept q h3 (rows_apart q h.sents (by decide))
  refine ⟨w', B', d', _, hr, by simp, ⟨hg h.row, ?_, ?_, ?_⟩, (Below.refl base w).grown h3 hb fun k e => (World.ownsRow.lt h.sents k e).1, h3⟩
  · have e : sentCells (X ++ [x]) = sentCells X ++ sxCells x := by rw [sentCells_append]; simp [sentCells]
    rw [e]
    simpa using h2
  · rw [List.map_append, h.eq]; rfl
  · intro y hy
    rcases List.mem_append.1 hy with hy | hy
    · exact hg (h.each y hy)
    · rw [List.mem_singleton] at hy; subst hy; exact hg hx

set_option linter.unusedSimpArgs false in
set_option maxRecDepth 100000 in
set_option maxHeartbeats 4000000 in
theorem rmcopy {m : ModD} (sz : Hid (m.l.length ≤ 1024 ∧ m.sent.length ≤ 4096)) (szs : Hid (∀ s ∈ m.sent, s.out.length ≤ 1024)) (A : Option Addr) (c : Nat) (B : Option Addr) (d : Nat) (w : World) (hM : MemM w A c B d m) :
    Calls Try.prog 32 #[.agg #[.int .i64 m.h, .int .i64 m.cap, .slice A m.l.length c, .int .i64 m.n, .int .i64 m.draws, .slice B m.sent.length d]] w fun e w' => ∃ A c B d X, e = .returned (.agg #[.int .i64 m.h, .int .i64 m.cap, .slice A m.l.length c, .int .i64 m.n, .int .i64 m.draws, .slice B m.sent.length d]) ∧ OwnM w' w.heap.size A c B d X m ∧ Below w.heap.size w w' := by
  skip
  have KB : Hid (Below w.heap.size w (((w.alloc (.cells #[.int .i64 m.h, .int .i64 m.cap, .slice A m.l.length c, .int .i64 m.n, .int .i64 m.draws, .slice B m.sent.length d] 45)).alloc (.cells #[.int .i64 0, .int .i64 0, .slice none 0 0, .int .i64 0, .int .i64 0, .slice none 0 0] 45)).alloc (.cells #[.int .i64 m.h, .int .i64 m.cap, .slice A m.l.length c, .int .i64 m.n, .int .i64 m.draws, .slice B m.sent.length d] 45))) := mkHid ((((Below.refl _ _).alloc (Nat.le_refl _) (.cells #[.int .i64 m.h, .int .i64 m.cap, .slice A m.l.length c, .int .i64 m.n, .int .i64 m.draws, .slice B m.sent.length d] 45)).alloc (by simp) (.cells #[.int .i64 0, .int .i64 0, .slice none 0 0, .int .i64 0, .int .i64 0, .slice none 0 0] 45)).alloc (by simp; omega) (.cells #[.int .i64 m.h, .int .i64 m.cap, .slice A m.l.length c, .int .i64 m.n, .int .i64 m.draws, .slice B m.sent.length d] 45))
  have HM0 := mkHid hM
  have HM := mkHid (hM.below ((((Below.refl _ _).alloc (Nat.le_refl _) (.cells #[.int .i64 m.h, .int .i64 m.cap, .slice A m.l.length c, .int .i64 m.n, .int .i64 m.draws, .slice B m.sent.length d] 45)).alloc (by simp) (.cells #[.int .i64 0, .int .i64 0, .slice none 0 0, .int .i64 0, .int .i64 0, .slice none 0 0] 45)).alloc (by simp; omega) (.cells #[.int .i64 m.h, .int .i64 m.cap, .slice A m.l.length c, .int .i64 m.n, .int .i64 m.draws, .slice B m.sent.length d] 45)))
  have ZM : Hid (Blk (((w.alloc (.cells #[.int .i64 m.h, .int .i64 m.cap, .slice A m.l.length c, .int .i64 m.n, .int .i64 m.draws, .slice B m.sent.length d] 45)).alloc (.cells #[.int .i64 0, .int .i64 0, .slice none 0 0, .int .i64 0, .int .i64 0, .slice none 0 0] 45)).alloc (.cells #[.int .i64 m.h, .int .i64 m.cap, .slice A m.l.length c, .int .i64 m.n, .int .i64 m.draws, .slice B m.sent.length d] 45)) w.heap.size 45 #[.int .i64 m.h, .int .i64 m.cap, .slice A m.l.length c, .int .i64 m.n, .int .i64 m.draws, .slice B m.sent.length d]) := mkHid (((Blk.new _ _ _).alloc _).alloc _)
  have ZR : Hid (Blk (((w.alloc (.cells #[.int .i64 m.h, .int .i64 m.cap, .slice A m.l.length c, .int .i64 m.n, .int .i64 m.draws, .slice B m.sent.length d] 45)).alloc (.cells #[.int .i64 0, .int .i64 0, .slice none 0 0, .int .i64 0, .int .i64 0, .slice none 0 0] 45)).alloc (.cells #[.int .i64 m.h, .int .i64 m.cap, .slice A m.l.length c, .int .i64 m.n, .int .i64 m.draws, .slice B m.sent.length d] 45)) (w.heap.size + 1) 45 #[.int .i64 0, .int .i64 0, .slice none 0 0, .int .i64 0, .int .i64 0, .slice none 0 0]) := mkHid ((Blk.at _ _ _ (by simp)).alloc _)
  have ZO : Hid (Blk (((w.alloc (.cells #[.int .i64 m.h, .int .i64 m.cap, .slice A m.l.length c, .int .i64 m.n, .int .i64 m.draws, .slice B m.sent.length d] 45)).alloc (.cells #[.int .i64 0, .int .i64 0, .slice none 0 0, .int .i64 0, .int .i64 0, .slice none 0 0] 45)).alloc (.cells #[.int .i64 m.h, .int .i64 m.cap, .slice A m.l.length c, .int .i64 m.n, .int .i64 m.draws, .slice B m.sent.length d] 45)) (w.heap.size + 2) 45 #[.int .i64 m.h, .int .i64 m.cap, .slice A m.l.length c, .int .i64 m.n, .int .i64 m.draws, .slice B m.sent.length d]) := mkHid (Blk.at _ _ _ (by simp))
  have l3 : (((w.alloc (.cells #[.int .i64 m.h, .int .i64 m.cap, .slice A m.l.length c, .int .i64 m.n, .int .i64 m.draws, .slice B m.sent.length d] 45)).alloc (.cells #[.int .i64 0, .int .i64 0, .slice none 0 0, .int .i64 0, .int .i64 0, .slice none 0 0] 45)).alloc (.cells #[.int .i64 m.h, .int .i64 m.cap, .slice A m.l.length c, .int .i64 m.n, .int .i64 m.draws, .slice B m.sent.length d] 45)).heap.size = w.heap.size + 3 := by simp
  clear hM
  have cM := ZM.out.six
  have cO := ZO.out.six
  have fO := ZO.out.frozen 2
  have lO := ZO.out.lt
  have lM := ZM.out.lt
  go_enter Try.func32, Try.ntmps32
  go_upto_region 2 with fail
  generalize (((w.alloc (.cells #[.int .i64 m.h, .int .i64 m.cap, .slice A m.l.length c, .int .i64 m.n, .int .i64 m.draws, .slice B m.sent.length d] 45)).alloc (.cells #[.int .i64 0, .int .i64 0, .slice none 0 0, .int .i64 0, .int .i64 0, .slice none 0 0] 45)).alloc (.cells #[.int .i64 m.h, .int .i64 m.cap, .slice A m.l.length c, .int .i64 m.n, .int .i64 m.draws, .slice B m.sent.length d] 45)) = w3 at *

  have B3 : w.heap.size + 3 ≤ w3.heap.size := by omega
  clear l3
  go_wp2_with (at_builtin; refine wpList_append_u64 (by first | rfl | simp [Region.wanted, yielded]) _ _ rfl (w.heap.size + 3) _ [] rfl (World.ownsRow_nil _ _ _ _) A c m.l rfl HM.out.reads HM.out.lnil (by have := sz.out; simp; omega) B3 ?_; intro v4 w4 ho4 hb4; have hr4 := wof_nil _ _ _ ho4; clear ho4; obtain ⟨A4, c4, rfl⟩ := hr4.len; have qO := (ZO.out.below hb4 (by omega)).six; have qM := (ZM.out.below hb4 (by omega)).six; have gO := (ZO.out.below hb4 (by omega)).frozen 2; have gO5 := (ZO.out.below hb4 (by omega)).frozen 5; have pO := (ZO.out.below hb4 (by omega)).lt; have pM := (ZM.out.below hb4 (by omega)).lt)
  replace ZM := mkHid (ZM.out.below hb4 (by omega))
  replace ZR := mkHid (ZR.out.below hb4 (by omega))
  replace ZO := mkHid (ZO.out.below hb4 (by omega))
  have HO : Hid (OwnM w4 (w.heap.size + 3) A4 c4 none 0 [] ⟨m.h, m.cap, m.l, m.n, m.draws, []⟩) := mkHid ⟨hr4, World.ownsRow_nil _ _ _ _, rfl, fun x hx => by simp at hx⟩
  have KB2 : Hid (Below w.heap.size w w4) := mkHid (KB.out.trans (hb4.mono (by omega)))
  clear qO qM gO gO5 pO pM hr4 hb4 cM cO fO lO lM KB B3
  replace ZM := mkHid ((ZM.out.other (m := w.heap.size + 2) (i := 2) (.slice A4 m.l.length c4) (by omega)).other (m := w.heap.size + 2) (i := 5) (.slice none 0 0) (by omega))
  replace ZR := mkHid ((ZR.out.other (m := w.heap.size + 2) (i := 2) (.slice A4 m.l.length c4) (by omega)).other (m := w.heap.size + 2) (i := 5) (.slice none 0 0) (by omega))
  replace ZO : Hid (Blk ((w4.setCell ⟨w.heap.size + 2, 2, none⟩ (.slice A4 m.l.length c4)).setCell ⟨w.heap.size + 2, 5, none⟩ (.slice none 0 0)) (w.heap.size + 2) 45 #[.int .i64 m.h, .int .i64 m.cap, (.slice A4 m.l.length c4), .int .i64 m.n, .int .i64 m.draws, .slice none 0 0]) := mkHid ((ZO.out.set 2 (.slice A4 m.l.length c4)).set 5 (.slice none 0 0))
  replace HO := mkHid ((HO.out.past (g := w.heap.size + 2) (by omega) 2 (.slice A4 m.l.length c4)).past (g := w.heap.size + 2) (by omega) 5 (.slice none 0 0))
  have KB : Hid (Below w.heap.size w ((w4.setCell ⟨w.heap.size + 2, 2, none⟩ (.slice A4 m.l.length c4)).setCell ⟨w.heap.size + 2, 5, none⟩ (.slice none 0 0))) := mkHid ((KB2.out.setCell (p := ⟨w.heap.size + 2, 2, none⟩) (by show w.heap.size ≤ w.heap.size + 2; omega) _).setCell (p := ⟨w.heap.size + 2, 5, none⟩) (by show w.heap.size ≤ w.heap.size + 2; omega) _)
  clear KB2
  generalize (w4.setCell ⟨w.heap.size + 2, 2, none⟩ (.slice A4 m.l.length c4)).setCell ⟨w.heap.size + 2, 5, none⟩ (.slice none 0 0) = w5 at *
  generalize hn : m.sent.length = n at *
  have hN := mkHid hn
  have hn2 : n ≤ 4096 := by have := sz.out.2; omega
  clear hn
  go_loopw [15] (fun j wr => ∃ (i : Nat) (S : List SentD) (B1 : Option Addr) (d1 : Nat) (X : List SX), i ≤ n ∧ j = .int .i64 (i : Int) ∧ Hid (S = m.sent.take i) ∧ Hid (Blk wr w.heap.size 45 #[.int .i64 m.h, .int .i64 m.cap, .slice A m.l.length c, .int .i64 m.n, .int .i64 m.draws, .slice B n d]) ∧ Hid (Blk wr (w.heap.size + 1) 45 #[.int .i64 0, .int .i64 0, .slice none 0 0, .int .i64 0, .int .i64 0, .slice none 0 0]) ∧ Hid (Blk wr (w.heap.size + 2) 45 #[.int .i64 m.h, .int .i64 m.cap, (.slice A4 m.l.length c4), .int .i64 m.n, .int .i64 m.draws, .slice B1 S.length d1]) ∧ Hid (OwnM wr (w.heap.size + 3) A4 c4 B1 d1 X ⟨m.h, m.cap, m.l, m.n, m.draws, S⟩) ∧ Hid (Below w.heap.size w wr)) (fun j _ => n - (intOf j).toNat)
  case atStart => exact ⟨0, [], none, 0, [], Nat.zero_le _, rfl, mkHid rfl, ZM, ZR, ZO, HO, KB⟩
  case round =>
    clear ZM ZR ZO HO KB
    obtain ⟨i, S, B1, d1, X, hi, rfl, hS, ZM, ZR, ZO, HO, KB⟩ := hrel
    by_cases hlt : i < n
    · have hiS : i < m.sent.length := by rw [hN.out]; exact hlt
      have aS := (HM0.out.sents.below KB.out) i hiS
      have hso := szs.out m.sent[i] (List.getElem_mem hiS)
      have hst : Hid (m.sent.take (i + 1) = S ++ [m.sent[i]]) := mkHid (by rw [hS.out]; exact List.take_succ_eq_append_getElem hiS)
      have hSl : Hid (S.length ≤ 4096) := mkHid (by rw [hS.out, List.length_take]; omega)
      generalize m.sent[i] = s at *
      obtain ⟨so, sd, sp1, sp2⟩ := s
      clear hiS
      obtain ⟨b1, off1, rfl, As, cs, e0, _, _, hR, hz, e1, e2, e3⟩ := aS
      dsimp only at *
      have HZ := mkHid hz
      clear hz
      have HR := mkHid (hR.below ((Below.refl _ _).alloc (Nat.le_refl _) (.cells #[.slice As so.length cs, .int .i64 sd, .int .u64 (sp1.toNat : Int), .int .u64 (sp2.toNat : Int)] 66)))
      clear hR
      have ZS : Hid (Blk (wr.alloc (.cells #[.slice As so.length cs, .int .i64 sd, .int .u64 (sp1.toNat : Int), .int .u64 (sp2.toNat : Int)] 66)) wr.heap.size 66 #[.slice As so.length cs, .int .i64 sd, .int .u64 (sp1.toNat : Int), .int .u64 (sp2.toNat : Int)]) := mkHid (Blk.new _ _ _)
      have lO := ZO.out.lt
      have sq : (wr.alloc (.cells #[.slice As so.length cs, .int .i64 sd, .int .u64 (sp1.toNat : Int), .int .u64 (sp2.toNat : Int)] 66)).heap.size = wr.heap.size + 1 := by simp
      have HO0 := HO
      go_upto_region 7 with fail
      clear e0 e1 e2 e3
      replace ZM := mkHid (ZM.out.alloc (.cells #[.slice As so.length cs, .int .i64 sd, .int .u64 (sp1.toNat : Int), .int .u64 (sp2.toNat : Int)] 66))
      replace ZR := mkHid (ZR.out.alloc (.cells #[.slice As so.length cs, .int .i64 sd, .int .u64 (sp1.toNat : Int), .int .u64 (sp2.toNat : Int)] 66))
      replace ZO := mkHid (ZO.out.alloc (.cells #[.slice As so.length cs, .int .i64 sd, .int .u64 (sp1.toNat : Int), .int .u64 (sp2.toNat : Int)] 66))
      replace HO := mkHid (HO.out.below ((Below.refl _ _).alloc (Nat.le_refl _) (.cells #[.slice As so.length cs, .int .i64 sd, .int .u64 (sp1.toNat : Int), .int .u64 (sp2.toNat : Int)] 66)))
      replace KB := mkHid (KB.out.alloc KB.out.size (.cells #[.slice As so.length cs, .int .i64 sd, .int .u64 (sp1.toNat : Int), .int .u64 (sp2.toNat : Int)] 66))
      have hQ : Hid (∀ k, (Value.slice B1 S.length d1).ownBlock = some k → k < wr.heap.size) := mkHid fun k e => (World.ownsRow.lt HO0.out.sents k e).2
      clear HO0
      obtain ⟨q, hq⟩ : ∃ q, wr.heap.size = q := ⟨_, rfl⟩
      rw [hq] at ZS sq lO hQ
      rw [hq]
      clear hq
      generalize wr.alloc (.cells #[.slice As so.length cs, .int .i64 sd, .int .u64 (sp1.toNat : Int), .int .u64 (sp2.toNat : Int)] 66) = w6 at *
      replace ZM : Hid (Blk w6.drew _ _ _) := mkHid ZM.out.drew
      replace ZR : Hid (Blk w6.drew _ _ _) := mkHid ZR.out.drew
      replace ZO : Hid (Blk w6.drew _ _ _) := mkHid ZO.out.drew
      replace ZS : Hid (Blk w6.drew _ _ _) := mkHid ZS.out.drew
      replace KB : Hid (Below w.heap.size w w6.drew) := mkHid KB.out.drew
      replace HO := mkHid (HO.out.below (Below.drew (Below.refl _ w6)))
      replace HR := mkHid (HR.out.below (Below.drew (Below.refl _ w6)))
      have k5 : w6.drew.cell? ⟨w.heap.size + 2, 5, none⟩ = some (.slice B1 S.length d1) := ZO.out.cell 5
      have s0 : w6.drew.cell? ⟨q, 0, none⟩ = some (.slice As so.length cs) := ZS.out.cell 0
      have s1 : w6.drew.cell? ⟨q, 1, none⟩ = some (.int .i64 sd) := ZS.out.cell 1
      have s2 : w6.drew.cell? ⟨q, 2, none⟩ = some (.int .u64 (sp1.toNat : Int)) := ZS.out.cell 2
      have s3 : w6.drew.cell? ⟨q, 3, none⟩ = some (.int .u64 (sp2.toNat : Int)) := ZS.out.cell 3
      have lq : q < w6.drew.heap.size := ZS.out.lt
      clear sq
      refine wp_region_late (late := fun i => decide (13 ≤ i)) (S := fun w' => w'.cell? ⟨w.heap.size + 2, 5, none⟩ = some (.slice B1 S.length d1) ∧ w'.cell? ⟨q, 0, none⟩ = some (.slice As so.length cs) ∧ w'.cell? ⟨q, 1, none⟩ = some (.int .i64 sd) ∧ w'.cell? ⟨q, 2, none⟩ = some (.int .u64 (sp1.toNat : Int)) ∧ w'.cell? ⟨q, 3, none⟩ = some (.int .u64 (sp2.toNat : Int))) (by kernel_rfl) ?_ (fun hHeld => ?_)
      · ((try dsimp only); (try go_split_ands); refine ⟨?_, ?_, ?_, ?_, ?_⟩ <;> with_reducible assumption)
      refine Any.take (i := 0) (v := ?_) rfl (by kernel_rfl) (by kernel_rfl) (by kernel_rfl) (by kernel_rfl) (fun _ _ _ h => h) (Or.inl ⟨by rfl, ?_⟩) hHeld ?_
      rotate_left
      · intro w hSw
        (try dsimp only at hSw)
        go_simp
        all_goals with_reducible rfl
      try simp only [List.getElem_toArray, List.getElem_cons_succ, List.getElem_cons_zero, Act.put, List.setIfInBounds_toArray, List.set_cons_zero, List.set_cons_succ]
      refine Any.take (i := 1) (v := ?_) rfl (by kernel_rfl) (by kernel_rfl) (by kernel_rfl) (by kernel_rfl) (fun _ _ _ h => h) (Or.inl ⟨by rfl, ?_⟩) hHeld ?_
      rotate_left
      · intro w hSw
        (try dsimp only at hSw)
        go_simp
        all_goals with_reducible rfl
      try simp only [List.getElem_toArray, List.getElem_cons_succ, List.getElem_cons_zero, Act.put, List.setIfInBounds_toArray, List.set_cons_zero, List.set_cons_succ]
      refine Any.take (i := 2) (v := ?_) rfl (by kernel_rfl) (by kernel_rfl) (by kernel_rfl) (by kernel_rfl) (fun _ _ _ h => h) (Or.inl ⟨by rfl, ?_⟩) hHeld ?_
      rotate_left
      · intro w hSw
        (try dsimp only at hSw)
        go_simp
        all_goals with_reducible rfl
      try simp only [List.getElem_toArray, List.getElem_cons_succ, List.getElem_cons_zero, Act.put, List.setIfInBounds_toArray, List.set_cons_zero, List.set_cons_succ]
      refine Any.take (i := 3) (v := ?_) rfl (by kernel_rfl) (by kernel_rfl) (by kernel_rfl) (by kernel_rfl) (fun _ _ _ h => h) (Or.inl ⟨by rfl, ?_⟩) hHeld ?_
      rotate_left
      · intro w hSw
        (try dsimp only at hSw)
        go_simp
        all_goals with_reducible rfl
      try simp only [List.getElem_toArray, List.getElem_cons_succ, List.getElem_cons_zero, Act.put, List.setIfInBounds_toArray, List.set_cons_zero, List.set_cons_succ]
      refine Any.take (i := 5) (v := ?_) rfl (by kernel_rfl) (by kernel_rfl) (by kernel_rfl) (by kernel_rfl) (fun _ _ _ h => h) (Or.inl ⟨by rfl, ?_⟩) hHeld ?_
      rotate_left
      · intro w hSw
        (try dsimp only at hSw)
        go_simp
        all_goals with_reducible rfl
      try simp only [List.getElem_toArray, List.getElem_cons_succ, List.getElem_cons_zero, Act.put, List.setIfInBounds_toArray, List.set_cons_zero, List.set_cons_succ]
      refine Any.take (i := 6) (v := ?_) rfl (by kernel_rfl) (by kernel_rfl) (by kernel_rfl) (by kernel_rfl) (fun _ _ _ h => h) (Or.inl ⟨by rfl, ?_⟩) hHeld ?_
      rotate_left
      · intro w hSw
        (try dsimp only at hSw)
        go_simp
        all_goals with_reducible rfl
      try simp only [List.getElem_toArray, List.getElem_cons_succ, List.getElem_cons_zero, Act.put, List.setIfInBounds_toArray, List.set_cons_zero, List.set_cons_succ]
      refine Any.take (i := 7) (v := ?_) rfl (by kernel_rfl) (by kernel_rfl) (by kernel_rfl) (by kernel_rfl) (fun _ _ _ h => h) (Or.inl ⟨by rfl, ?_⟩) hHeld ?_
      rotate_left
      · intro w hSw
        (try dsimp only at hSw)
        go_simp
        all_goals with_reducible rfl
      try simp only [List.getElem_toArray, List.getElem_cons_succ, List.getElem_cons_zero, Act.put, List.setIfInBounds_toArray, List.set_cons_zero, List.set_cons_succ]
      refine Any.take (i := 8) (v := ?_) rfl (by kernel_rfl) (by kernel_rfl) (by kernel_rfl) (by kernel_rfl) (fun _ _ _ h => h) (Or.inl ⟨by rfl, ?_⟩) hHeld ?_
      rotate_left
      · intro w hSw
        (try dsimp only at hSw)
        go_simp
        all_goals with_reducible rfl
      try simp only [List.getElem_toArray, List.getElem_cons_succ, List.getElem_cons_zero, Act.put, List.setIfInBounds_toArray, List.set_cons_zero, List.set_cons_succ]
      refine Any.ready (rs := [4]) (by kernel_rfl) (by simp) ?_
      refine AllAny.cons rfl rfl (fun K hK => ?_) AllAny.nil
      obtain ⟨v1, wa, hr, ho1, hba⟩ := run_append_u64 (w := w6.drew) 22 w6.drew.heap.size (.slice none 0 0) [] (World.ownsRow_nil _ _ _ _) As cs so HR.out HZ.out (by simp; omega) (Nat.le_refl _)
      refine step_append (by rfl) _ _ _ rfl rfl rfl hr ?_
      clear hr
      have lb := hba.size
      have NV := mkHid (RowOf.rebase (a := w.heap.size + 3) (wof_nil _ _ _ ho1) (by omega))
      clear ho1
      obtain ⟨A5, c5, rfl⟩ := NV.out.len
      replace ZM := mkHid (ZM.out.keep hba)
      replace ZR := mkHid (ZR.out.keep hba)
      replace ZO := mkHid (ZO.out.keep hba)
      replace HO := mkHid (HO.out.below hba)
      replace KB := mkHid (KB.out.step hba)
      replace k5 := keeps hba k5
      replace s0 := keeps hba s0
      replace s1 := keeps hba s1
      replace s2 := keeps hba s2
      replace s3 := keeps hba s3
      clear hba
      refine hK.out _ _ ?_ (fun hHeld => ?_)
      · ((try dsimp only); (try go_split_ands); refine ⟨?_, ?_, ?_, ?_, ?_⟩ <;> with_reducible assumption)
      clear hK K
      try simp only [List.getElem_toArray, List.getElem_cons_succ, List.getElem_cons_zero, Act.put, List.setIfInBounds_toArray, List.set_cons_zero, List.set_cons_succ]
      refine Any.take (i := 9) (v := ?_) rfl (by kernel_rfl) (by kernel_rfl) (by kernel_rfl) (by kernel_rfl) (fun _ _ _ h => h) (Or.inl ⟨by rfl, ?_⟩) hHeld ?_
      rotate_left
      · intro w hSw
        (try dsimp only at hSw)
        go_simp
        all_goals with_reducible rfl
      try simp only [List.getElem_toArray, List.getElem_cons_succ, List.getElem_cons_zero, Act.put, List.setIfInBounds_toArray, List.set_cons_zero, List.set_cons_succ]
      refine Any.ready (rs := [10]) (by kernel_rfl) (by simp) ?_
      refine AllAny.cons rfl rfl (fun K hK => ?_) AllAny.nil
      go_simp
      have hb9 : Below wa.heap.size wa (wa.alloc (.cells #[.slice A5 so.length c5, .int .i64 sd, .int .u64 (sp1.toNat : Int), .int .u64 (sp2.toNat : Int)] 66)) := (Below.refl _ _).alloc (Nat.le_refl _) _
      have ZN : Hid (Blk (wa.alloc (.cells #[.slice A5 so.length c5, .int .i64 sd, .int .u64 (sp1.toNat : Int), .int .u64 (sp2.toNat : Int)] 66)) wa.heap.size 66 #[.slice A5 so.length c5, .int .i64 sd, .int .u64 (sp1.toNat : Int), .int .u64 (sp2.toNat : Int)]) := mkHid (Blk.new _ _ _)
      replace ZM := mkHid (ZM.out.keep hb9)
      replace ZR := mkHid (ZR.out.keep hb9)
      replace ZO := mkHid (ZO.out.keep hb9)
      replace HO := mkHid (HO.out.below hb9)
      replace NV := mkHid (NV.out.below hb9)
      replace KB := mkHid (KB.out.step hb9)
      replace k5 := keeps hb9 k5
      replace s0 := keeps hb9 s0
      replace s1 := keeps hb9 s1
      replace s2 := keeps hb9 s2
      replace s3 := keeps hb9 s3
      have lZ2 := hb9.size
      generalize wa.alloc (.cells #[.slice A5 so.length c5, .int .i64 sd, .int .u64 (sp1.toNat : Int), .int .u64 (sp2.toNat : Int)] 66) = wb at *
      clear hb9
      refine hK.out _ _ ?_ (fun hHeld => ?_)
      · ((try dsimp only); (try go_split_ands); refine ⟨?_, ?_, ?_, ?_, ?_⟩ <;> with_reducible assumption)
      clear hK K
      try simp only [List.getElem_toArray, List.getElem_cons_succ, List.getElem_cons_zero, Act.put, List.setIfInBounds_toArray, List.set_cons_zero, List.set_cons_succ]
      refine Any.ready (rs := [11]) (by kernel_rfl) (by simp) ?_
      refine AllAny.cons rfl rfl (fun K hK => ?_) AllAny.nil
      have HAP := sent_append2 HO.out ⟨A5, c5, ⟨so, sd, (sp1, sp2)⟩⟩ NV.out ⟨wa.heap.size, 0, none⟩ (rowAt_four ZN.out) (by omega) hSl.out 43
      obtain ⟨wc, B3, d3, NL, hr, hNL, ho2, hbc, hgr⟩ := HAP
      refine step_append (by rfl) _ _ _ rfl rfl rfl hr ?_
      have HNL := mkHid hNL
      clear hr hNL HO NV ZN
      have HO := mkHid ho2
      clear ho2
      replace ZM := mkHid (ZM.out.below hbc (by omega))
      replace ZR := mkHid (ZR.out.below hbc (by omega))
      replace ZO := mkHid (ZO.out.below hbc (by omega))
      replace KB := mkHid (KB.out.trans (hbc.mono (by omega)))
      have hqb : wc.heap[q]? = _ := hgr.block q (by omega) (fun e => Nat.lt_irrefl q (hQ.out q e.symm))
      replace s0 := cell_blk hqb s0
      replace s1 := cell_blk hqb s1
      replace s2 := cell_blk hqb s2
      replace s3 := cell_blk hqb s3
      clear hqb hgr
      replace k5 : wc.cell? _ = _ := (hbc.cell (p := ⟨w.heap.size + 2, 5, none⟩) (by show w.heap.size + 2 < _; omega)).trans k5
      have fz := ZO.out.frozen 5
      have lO2 : w.heap.size + 2 < wc.heap.size := ZO.out.lt
      clear hbc lb lq lZ2
      refine hK.out _ _ ?_ (fun hHeld => ?_)
      · ((try dsimp only); (try go_split_ands); refine ⟨?_, ?_, ?_, ?_, ?_⟩ <;> with_reducible assumption)
      clear hK K
      try simp only [List.getElem_toArray, List.getElem_cons_succ, List.getElem_cons_zero, Act.put, List.setIfInBounds_toArray, List.set_cons_zero, List.set_cons_succ]
      refine Any.take (i := 12) (v := ?_) rfl (by kernel_rfl) (by kernel_rfl) (by kernel_rfl) (by kernel_rfl) (fun _ _ _ h => h) (Or.inl ⟨by rfl, ?_⟩) hHeld ?_
      rotate_left
      · intro w hSw
        (try dsimp only at hSw)
        go_simp
        all_goals with_reducible rfl
      try simp only [List.getElem_toArray, List.getElem_cons_succ, List.getElem_cons_zero, Act.put, List.setIfInBounds_toArray, List.set_cons_zero, List.set_cons_succ]
      refine Any.ready (rs := [13]) (by kernel_rfl) (by simp) ?_
      refine AllAny.lateCons rfl rfl (fun K hK => ?_) AllAny.nil
      go_simp
      refine hK.out _ _ ?_
      clear hK K
      try simp only [List.getElem_toArray, List.getElem_cons_succ, List.getElem_cons_zero, Act.put, List.setIfInBounds_toArray, List.set_cons_zero, List.set_cons_succ]
      refine Any.done (by kernel_rfl) ?_ _
      replace ZM := mkHid (ZM.out.other (m := w.heap.size + 2) (i := 5) (.slice B3 NL d3) (by omega))
      replace ZR := mkHid (ZR.out.other (m := w.heap.size + 2) (i := 5) (.slice B3 NL d3) (by omega))
      replace ZO : Hid (Blk (wc.setCell ⟨w.heap.size + 2, 5, none⟩ (.slice B3 NL d3)) (w.heap.size + 2) 45 #[.int .i64 m.h, .int .i64 m.cap, (.slice A4 m.l.length c4), .int .i64 m.n, .int .i64 m.draws, .slice B3 NL d3]) := mkHid (ZO.out.set 5 _)
      replace KB : Hid (Below w.heap.size w (wc.setCell ⟨w.heap.size + 2, 5, none⟩ (.slice B3 NL d3))) := mkHid (KB.out.setCell (p := ⟨w.heap.size + 2, 5, none⟩) (by show w.heap.size ≤ w.heap.size + 2; omega) _)
      replace HO := mkHid (HO.out.past (g := w.heap.size + 2) (by omega) 5 (.slice B3 NL d3))
      clear k5 fz lO2 lO s0 s1 s2 s3
      have e2 := HNL.out
      generalize wc.setCell ⟨w.heap.size + 2, 5, none⟩ (.slice B3 NL d3) = w7 at *
      subst e2
      have hS2 : Hid (S ++ [⟨so, sd, (sp1, sp2)⟩] = m.sent.take (i + 1)) := mkHid hst.out.symm
      have hi2 : IntKind.i64.wrap ((i : Int) + 1) = ((i + 1 : Nat) : Int) := by rw [IntKind.wrap_i64]; omega
      go_wp2_with fail
      go_roundw
      case rel => exact ⟨i + 1, _, B3, d3, _, by omega, by go_num, hS2, ZM, ZR, ZO, HO, KB⟩
      case measure => simp [intOf]; omega
    · obtain rfl : i = n := by omega
      have eS : S = m.sent := by rw [hS.out, ← hN.out, List.take_length]
      subst eS
      rw [hN.out] at ZO
      have qO := ZO.out.six
      have cR := ZR.out.six
      have lR := ZR.out.lt
      have fR := ZR.out.frozen 0
      have fR1 := ZR.out.frozen 1
      have fR2 := ZR.out.frozen 2
      have fR3 := ZR.out.frozen 3
      have fR4 := ZR.out.frozen 4
      have fR5 := ZR.out.frozen 5
      go_wp2_with fail
      clear cR
      have qR := (ZR.out.fill6 (b0 := .int .i64 m.h) (b1 := .int .i64 m.cap) (b2 := (.slice A4 m.l.length c4)) (b3 := .int .i64 m.n) (b4 := .int .i64 m.draws) (b5 := .slice B1 i d1)).six
      refine bodyPost_ret (v := .agg #[.int .i64 m.h, .int .i64 m.cap, (.slice A4 m.l.length c4), .int .i64 m.n, .int .i64 m.draws, .slice B1 i d1]) (by simp [results, Try.results32, go_sem, qR]) rfl ?_
      refine ⟨A4, c4, B1, d1, X, by rw [hN.out], (HO.out.past6 (g := w.heap.size + 1) (by omega) _ _ _ _ _ _).base (by omega), ?_⟩
      exact below_six KB.out (by omega) _ _ _ _ _ _

end Go.Proofs.Ytmehbonjpmlmfaa

namespace Go.Proofs.Ytmehbonjpmlmfaa
open Go.RowKit

set_option maxRecDepth 100000 in
set_option maxHeartbeats 4000000 in
theorem rmch_leaf {m : ModD} {i : Nat} {n : Int} {p1 p2 : BitVec 64} {k : Nat} (hk : Hid (m.h = (k : Int))) (h1 : 1 ≤ k) (h2 : k ≤ 32) {kd : Int} (hi : Hid (decide (i < 2 ^ k) = false))  (A : Option Addr) (c : Nat) (B : Option Addr) (d : Nat) (w : World) (hA : Reads w A m.l) :
    Calls Try.prog 57 #[.agg #[.int .i64 m.h, .int .i64 m.cap, .slice A m.l.length c, .int .i64 m.n, .int .i64 m.draws, .slice B m.sent.length d], .agg #[.int .i64 kd, .int .u64 (i : Int), .int .i64 n, .int .u64 (p1.toNat : Int), .int .u64 (p2.toNat : Int)]] w (WPost [] 1 w) := by
  skip
  have KB : Hid (Below w.heap.size w ((w.alloc (.cells #[.int .i64 m.h, .int .i64 m.cap, .slice A m.l.length c, .int .i64 m.n, .int .i64 m.draws, .slice B m.sent.length d] 45)).alloc (.cells #[.int .i64 kd, .int .u64 (i : Int), .int .i64 n, .int .u64 (p1.toNat : Int), .int .u64 (p2.toNat : Int)] 53))) := mkHid (((Below.refl _ _).alloc (Nat.le_refl _) _).alloc (by simp) _)
  have ZX : Hid (Blk ((w.alloc (.cells #[.int .i64 m.h, .int .i64 m.cap, .slice A m.l.length c, .int .i64 m.n, .int .i64 m.draws, .slice B m.sent.length d] 45)).alloc (.cells #[.int .i64 kd, .int .u64 (i : Int), .int .i64 n, .int .u64 (p1.toNat : Int), .int .u64 (p2.toNat : Int)] 53)) w.heap.size 45 #[.int .i64 m.h, .int .i64 m.cap, .slice A m.l.length c, .int .i64 m.n, .int .i64 m.draws, .slice B m.sent.length d]) := mkHid ((Blk.new _ _ _).alloc _)
  have ZP : Hid (Blk ((w.alloc (.cells #[.int .i64 m.h, .int .i64 m.cap, .slice A m.l.length c, .int .i64 m.n, .int .i64 m.draws, .slice B m.sent.length d] 45)).alloc (.cells #[.int .i64 kd, .int .u64 (i : Int), .int .i64 n, .int .u64 (p1.toNat : Int), .int .u64 (p2.toNat : Int)] 53)) (w.heap.size + 1) 53 #[.int .i64 kd, .int .u64 (i : Int), .int .i64 n, .int .u64 (p1.toNat : Int), .int .u64 (p2.toNat : Int)]) := mkHid (Blk.at _ _ _ (by simp))
  have HA := mkHid (hA.below KB.out)
  clear hA
  have cZX := ZX.out.six
  have lZX := ZX.out.lt
  have cZP := ZP.out.five
  have lZP := ZP.out.lt
  go_enter Try.func57, Try.ntmps57
  go_wp2_with fail
  refine (is_h hk h1 h2 hi _).mono ?_
  rintro e w' ⟨rfl, hw'⟩
  obtain rfl := hw'.symm
  clear hw'
  go_wp2_with fail
  go_ret2
  exact ⟨_, rfl, World.ownsRow_nil _ _ _ _, KB.out⟩

set_option maxRecDepth 100000 in
set_option maxHeartbeats 4000000 in
theorem rmch_there {m : ModD} {i : Nat} {n : Int} {p1 p2 : BitVec 64} {k : Nat} (hk : Hid (m.h = (k : Int))) (h1 : 1 ≤ k) (h2 : k ≤ 32) (hi : Hid (decide (i < 2 ^ k) = true)) (hlen : m.l.length ≤ 4611686018427387904) (hx : Hid (decide (i ∈ m.l) = true))  (A : Option Addr) (c : Nat) (B : Option Addr) (d : Nat) (w : World) (hA : Reads w A m.l) :
    Calls Try.prog 57 #[.agg #[.int .i64 m.h, .int .i64 m.cap, .slice A m.l.length c, .int .i64 m.n, .int .i64 m.draws, .slice B m.sent.length d], .agg #[.int .i64 1, .int .u64 (i : Int), .int .i64 n, .int .u64 (p1.toNat : Int), .int .u64 (p2.toNat : Int)]] w (WPost [] 5 w) := by
  skip
  have KB : Hid (Below w.heap.size w ((w.alloc (.cells #[.int .i64 m.h, .int .i64 m.cap, .slice A m.l.length c, .int .i64 m.n, .int .i64 m.draws, .slice B m.sent.length d] 45)).alloc (.cells #[.int .i64 1, .int .u64 (i : Int), .int .i64 n, .int .u64 (p1.toNat : Int), .int .u64 (p2.toNat : Int)] 53))) := mkHid (((Below.refl _ _).alloc (Nat.le_refl _) _).alloc (by simp) _)
  have ZX : Hid (Blk ((w.alloc (.cells #[.int .i64 m.h, .int .i64 m.cap, .slice A m.l.length c, .int .i64 m.n, .int .i64 m.draws, .slice B m.sent.length d] 45)).alloc (.cells #[.int .i64 1, .int .u64 (i : Int), .int .i64 n, .int .u64 (p1.toNat : Int), .int .u64 (p2.toNat : Int)] 53)) w.heap.size 45 #[.int .i64 m.h, .int .i64 m.cap, .slice A m.l.length c, .int .i64 m.n, .int .i64 m.draws, .slice B m.sent.length d]) := mkHid ((Blk.new _ _ _).alloc _)
  have ZP : Hid (Blk ((w.alloc (.cells #[.int .i64 m.h, .int .i64 m.cap, .slice A m.l.length c, .int .i64 m.n, .int .i64 m.draws, .slice B m.sent.length d] 45)).alloc (.cells #[.int .i64 1, .int .u64 (i : Int), .int .i64 n, .int .u64 (p1.toNat : Int), .int .u64 (p2.toNat : Int)] 53)) (w.heap.size + 1) 53 #[.int .i64 1, .int .u64 (i : Int), .int .i64 n, .int .u64 (p1.toNat : Int), .int .u64 (p2.toNat : Int)]) := mkHid (Blk.at _ _ _ (by simp))
  have HA := mkHid (hA.below KB.out)
  clear hA
  have cZX := ZX.out.six
  have lZX := ZX.out.lt
  have cZP := ZP.out.five
  have lZP := ZP.out.lt
  go_enter Try.func57, Try.ntmps57
  go_wp2_with fail
  refine (is_h hk h1 h2 hi _).mono ?_
  rintro e w' ⟨rfl, hw'⟩
  obtain rfl := hw'.symm
  clear hw'
  go_wp2_with fail
  refine (sin_walk hlen hx _ _ _ HA.out).mono ?_
  rintro e w' ⟨rfl, hw'⟩
  obtain rfl := hw'.symm
  clear hw'
  go_wp2_with fail
  go_ret2
  exact ⟨_, rfl, World.ownsRow_nil _ _ _ _, KB.out⟩

set_option maxRecDepth 100000 in
set_option maxHeartbeats 4000000 in
theorem rmch_full {m : ModD} {i : Nat} {n : Int} {p1 p2 : BitVec 64} {k : Nat} (hk : Hid (m.h = (k : Int))) (h1 : 1 ≤ k) (h2 : k ≤ 32) (hi : Hid (decide (i < 2 ^ k) = true)) (hlen : m.l.length ≤ 4611686018427387904) (hx : Hid (decide (i ∈ m.l) = false)) (hl : (m.l.length : Int) = m.cap)  (A : Option Addr) (c : Nat) (B : Option Addr) (d : Nat) (w : World) (hA : Reads w A m.l) :
    Calls Try.prog 57 #[.agg #[.int .i64 m.h, .int .i64 m.cap, .slice A m.l.length c, .int .i64 m.n, .int .i64 m.draws, .slice B m.sent.length d], .agg #[.int .i64 1, .int .u64 (i : Int), .int .i64 n, .int .u64 (p1.toNat : Int), .int .u64 (p2.toNat : Int)]] w (WPost [] 6 w) := by
  have t1 : ((m.l.length : Int) == m.cap) = true := beq_iff_eq.2 hl
  clear hl
  have KB : Hid (Below w.heap.size w ((w.alloc (.cells #[.int .i64 m.h, .int .i64 m.cap, .slice A m.l.length c, .int .i64 m.n, .int .i64 m.draws, .slice B m.sent.length d] 45)).alloc (.cells #[.int .i64 1, .int .u64 (i : Int), .int .i64 n, .int .u64 (p1.toNat : Int), .int .u64 (p2.toNat : Int)] 53))) := mkHid (((Below.refl _ _).alloc (Nat.le_refl _) _).alloc (by simp) _)
  have ZX : Hid (Blk ((w.alloc (.cells #[.int .i64 m.h, .int .i64 m.cap, .slice A m.l.length c, .int .i64 m.n, .int .i64 m.draws, .slice B m.sent.length d] 45)).alloc (.cells #[.int .i64 1, .int .u64 (i : Int), .int .i64 n, .int .u64 (p1.toNat : Int), .int .u64 (p2.toNat : Int)] 53)) w.heap.size 45 #[.int .i64 m.h, .int .i64 m.cap, .slice A m.l.length c, .int .i64 m.n, .int .i64 m.draws, .slice B m.sent.length d]) := mkHid ((Blk.new _ _ _).alloc _)
  have ZP : Hid (Blk ((w.alloc (.cells #[.int .i64 m.h, .int .i64 m.cap, .slice A m.l.length c, .int .i64 m.n, .int .i64 m.draws, .slice B m.sent.length d] 45)).alloc (.cells #[.int .i64 1, .int .u64 (i : Int), .int .i64 n, .int .u64 (p1.toNat : Int), .int .u64 (p2.toNat : Int)] 53)) (w.heap.size + 1) 53 #[.int .i64 1, .int .u64 (i : Int), .int .i64 n, .int .u64 (p1.toNat : Int), .int .u64 (p2.toNat : Int)]) := mkHid (Blk.at _ _ _ (by simp))
  have HA := mkHid (hA.below KB.out)
  clear hA
  have cZX := ZX.out.six
  have lZX := ZX.out.lt
  have cZP := ZP.out.five
  have lZP := ZP.out.lt
  go_enter Try.func57, Try.ntmps57
  go_wp2_with fail
  refine (is_h hk h1 h2 hi _).mono ?_
  rintro e w' ⟨rfl, hw'⟩
  obtain rfl := hw'.symm
  clear hw'
  go_wp2_with fail
  refine (sin_walk hlen hx _ _ _ HA.out).mono ?_
  rintro e w' ⟨rfl, hw'⟩
  obtain rfl := hw'.symm
  clear hw'
  go_wp2_with fail
  go_ret2
  exact ⟨_, rfl, World.ownsRow_nil _ _ _ _, KB.out⟩

set_option maxRecDepth 100000 in
set_option maxHeartbeats 4000000 in
theorem rmch_over1 {m : ModD} {i : Nat} {n : Int} {p1 p2 : BitVec 64} {k : Nat} (hk : Hid (m.h = (k : Int))) (h1 : 1 ≤ k) (h2 : k ≤ 32) (hi : Hid (decide (i < 2 ^ k) = true)) (hlen : m.l.length ≤ 4611686018427387904) (hx : Hid (decide (i ∈ m.l) = false)) (hl : (m.l.length : Int) ≠ m.cap) (hn : m.n = 1099511627776)  (A : Option Addr) (c : Nat) (B : Option Addr) (d : Nat) (w : World) (hA : Reads w A m.l) :
    Calls Try.prog 57 #[.agg #[.int .i64 m.h, .int .i64 m.cap, .slice A m.l.length c, .int .i64 m.n, .int .i64 m.draws, .slice B m.sent.length d], .agg #[.int .i64 1, .int .u64 (i : Int), .int .i64 n, .int .u64 (p1.toNat : Int), .int .u64 (p2.toNat : Int)]] w (WPost [] 9 w) := by
  have t1 : ((m.l.length : Int) == m.cap) = false := beq_eq_false_iff_ne.2 hl
  clear hl
  have t2 : (m.n == (1099511627776 : Int)) = true := beq_iff_eq.2 hn
  clear hn
  have KB : Hid (Below w.heap.size w ((w.alloc (.cells #[.int .i64 m.h, .int .i64 m.cap, .slice A m.l.length c, .int .i64 m.n, .int .i64 m.draws, .slice B m.sent.length d] 45)).alloc (.cells #[.int .i64 1, .int .u64 (i : Int), .int .i64 n, .int .u64 (p1.toNat : Int), .int .u64 (p2.toNat : Int)] 53))) := mkHid (((Below.refl _ _).alloc (Nat.le_refl _) _).alloc (by simp) _)
  have ZX : Hid (Blk ((w.alloc (.cells #[.int .i64 m.h, .int .i64 m.cap, .slice A m.l.length c, .int .i64 m.n, .int .i64 m.draws, .slice B m.sent.length d] 45)).alloc (.cells #[.int .i64 1, .int .u64 (i : Int), .int .i64 n, .int .u64 (p1.toNat : Int), .int .u64 (p2.toNat : Int)] 53)) w.heap.size 45 #[.int .i64 m.h, .int .i64 m.cap, .slice A m.l.length c, .int .i64 m.n, .int .i64 m.draws, .slice B m.sent.length d]) := mkHid ((Blk.new _ _ _).alloc _)
  have ZP : Hid (Blk ((w.alloc (.cells #[.int .i64 m.h, .int .i64 m.cap, .slice A m.l.length c, .int .i64 m.n, .int .i64 m.draws, .slice B m.sent.length d] 45)).alloc (.cells #[.int .i64 1, .int .u64 (i : Int), .int .i64 n, .int .u64 (p1.toNat : Int), .int .u64 (p2.toNat : Int)] 53)) (w.heap.size + 1) 53 #[.int .i64 1, .int .u64 (i : Int), .int .i64 n, .int .u64 (p1.toNat : Int), .int .u64 (p2.toNat : Int)]) := mkHid (Blk.at _ _ _ (by simp))
  have HA := mkHid (hA.below KB.out)
  clear hA
  have cZX := ZX.out.six
  have lZX := ZX.out.lt
  have cZP := ZP.out.five
  have lZP := ZP.out.lt
  go_enter Try.func57, Try.ntmps57
  go_wp2_with fail
  refine (is_h hk h1 h2 hi _).mono ?_
  rintro e w' ⟨rfl, hw'⟩
  obtain rfl := hw'.symm
  clear hw'
  go_wp2_with fail
  refine (sin_walk hlen hx _ _ _ HA.out).mono ?_
  rintro e w' ⟨rfl, hw'⟩
  obtain rfl := hw'.symm
  clear hw'
  go_wp2_with fail
  go_ret2
  exact ⟨_, rfl, World.ownsRow_nil _ _ _ _, KB.out⟩

set_option maxRecDepth 100000 in
set_option maxHeartbeats 4000000 in
theorem rmch_with {m : ModD} {i : Nat} {n : Int} {p1 p2 : BitVec 64} {k : Nat} (hk : Hid (m.h = (k : Int))) (h1 : 1 ≤ k) (h2 : k ≤ 32) (hi : Hid (decide (i < 2 ^ k) = true)) (hlen : m.l.length ≤ 4611686018427387904) (hx : Hid (decide (i ∈ m.l) = false)) (hl : (m.l.length : Int) ≠ m.cap) (hn : m.n ≠ 1099511627776) {L : List Nat} {r : Int} (f : Hid (withAll m.h m.l i = (L, r)))  (A : Option Addr) (c : Nat) (B : Option Addr) (d : Nat) (w : World) (hA : Reads w A m.l) :
    Calls Try.prog 57 #[.agg #[.int .i64 m.h, .int .i64 m.cap, .slice A m.l.length c, .int .i64 m.n, .int .i64 m.draws, .slice B m.sent.length d], .agg #[.int .i64 1, .int .u64 (i : Int), .int .i64 n, .int .u64 (p1.toNat : Int), .int .u64 (p2.toNat : Int)]] w (WPost L r w) := by
  have t1 : ((m.l.length : Int) == m.cap) = false := beq_eq_false_iff_ne.2 hl
  clear hl
  have t2 : (m.n == (1099511627776 : Int)) = false := beq_eq_false_iff_ne.2 hn
  clear hn
  have KB : Hid (Below w.heap.size w ((w.alloc (.cells #[.int .i64 m.h, .int .i64 m.cap, .slice A m.l.length c, .int .i64 m.n, .int .i64 m.draws, .slice B m.sent.length d] 45)).alloc (.cells #[.int .i64 1, .int .u64 (i : Int), .int .i64 n, .int .u64 (p1.toNat : Int), .int .u64 (p2.toNat : Int)] 53))) := mkHid (((Below.refl _ _).alloc (Nat.le_refl _) _).alloc (by simp) _)
  have ZX : Hid (Blk ((w.alloc (.cells #[.int .i64 m.h, .int .i64 m.cap, .slice A m.l.length c, .int .i64 m.n, .int .i64 m.draws, .slice B m.sent.length d] 45)).alloc (.cells #[.int .i64 1, .int .u64 (i : Int), .int .i64 n, .int .u64 (p1.toNat : Int), .int .u64 (p2.toNat : Int)] 53)) w.heap.size 45 #[.int .i64 m.h, .int .i64 m.cap, .slice A m.l.length c, .int .i64 m.n, .int .i64 m.draws, .slice B m.sent.length d]) := mkHid ((Blk.new _ _ _).alloc _)
  have ZP : Hid (Blk ((w.alloc (.cells #[.int .i64 m.h, .int .i64 m.cap, .slice A m.l.length c, .int .i64 m.n, .int .i64 m.draws, .slice B m.sent.length d] 45)).alloc (.cells #[.int .i64 1, .int .u64 (i : Int), .int .i64 n, .int .u64 (p1.toNat : Int), .int .u64 (p2.toNat : Int)] 53)) (w.heap.size + 1) 53 #[.int .i64 1, .int .u64 (i : Int), .int .i64 n, .int .u64 (p1.toNat : Int), .int .u64 (p2.toNat : Int)]) := mkHid (Blk.at _ _ _ (by simp))
  have HA := mkHid (hA.below KB.out)
  clear hA
  have cZX := ZX.out.six
  have lZX := ZX.out.lt
  have cZP := ZP.out.five
  have lZP := ZP.out.lt
  go_enter Try.func57, Try.ntmps57
  go_wp2_with fail
  refine (is_h hk h1 h2 hi _).mono ?_
  rintro e w' ⟨rfl, hw'⟩
  obtain rfl := hw'.symm
  clear hw'
  go_wp2_with fail
  refine (sin_walk hlen hx _ _ _ HA.out).mono ?_
  rintro e w' ⟨rfl, hw'⟩
  obtain rfl := hw'.symm
  clear hw'
  go_wp2_with fail
  refine (swith_all m.h m.l i f _ _ _ HA.out).mono ?_
  rintro e w3 ⟨v, rfl, ho, hb3⟩
  have HO := mkHid (RowOf.rebase (a := w.heap.size) ho KB.out.size)
  clear ho
  obtain ⟨A3, c3, rfl⟩ := HO.out.len
  replace KB := mkHid (KB.out.step hb3)
  clear hb3
  go_wp2_with fail
  go_ret2
  exact ⟨_, rfl, HO.out, KB.out⟩

set_option maxRecDepth 100000 in
set_option maxHeartbeats 4000000 in
theorem rmch_none {m : ModD} {i : Nat} {n : Int} {p1 p2 : BitVec 64} {k : Nat} (hk : Hid (m.h = (k : Int))) (h1 : 1 ≤ k) (h2 : k ≤ 32) (hi : Hid (decide (i < 2 ^ k) = true)) (hlen : m.l.length ≤ 4611686018427387904) (hx : Hid (decide (i ∈ m.l) = false))  (A : Option Addr) (c : Nat) (B : Option Addr) (d : Nat) (w : World) (hA : Reads w A m.l) :
    Calls Try.prog 57 #[.agg #[.int .i64 m.h, .int .i64 m.cap, .slice A m.l.length c, .int .i64 m.n, .int .i64 m.draws, .slice B m.sent.length d], .agg #[.int .i64 2, .int .u64 (i : Int), .int .i64 n, .int .u64 (p1.toNat : Int), .int .u64 (p2.toNat : Int)]] w (WPost [] 4 w) := by
  skip
  have KB : Hid (Below w.heap.size w ((w.alloc (.cells #[.int .i64 m.h, .int .i64 m.cap, .slice A m.l.length c, .int .i64 m.n, .int .i64 m.draws, .slice B m.sent.length d] 45)).alloc (.cells #[.int .i64 2, .int .u64 (i : Int), .int .i64 n, .int .u64 (p1.toNat : Int), .int .u64 (p2.toNat : Int)] 53))) := mkHid (((Below.refl _ _).alloc (Nat.le_refl _) _).alloc (by simp) _)
  have ZX : Hid (Blk ((w.alloc (.cells #[.int .i64 m.h, .int .i64 m.cap, .slice A m.l.length c, .int .i64 m.n, .int .i64 m.draws, .slice B m.sent.length d] 45)).alloc (.cells #[.int .i64 2, .int .u64 (i : Int), .int .i64 n, .int .u64 (p1.toNat : Int), .int .u64 (p2.toNat : Int)] 53)) w.heap.size 45 #[.int .i64 m.h, .int .i64 m.cap, .slice A m.l.length c, .int .i64 m.n, .int .i64 m.draws, .slice B m.sent.length d]) := mkHid ((Blk.new _ _ _).alloc _)
  have ZP : Hid (Blk ((w.alloc (.cells #[.int .i64 m.h, .int .i64 m.cap, .slice A m.l.length c, .int .i64 m.n, .int .i64 m.draws, .slice B m.sent.length d] 45)).alloc (.cells #[.int .i64 2, .int .u64 (i : Int), .int .i64 n, .int .u64 (p1.toNat : Int), .int .u64 (p2.toNat : Int)] 53)) (w.heap.size + 1) 53 #[.int .i64 2, .int .u64 (i : Int), .int .i64 n, .int .u64 (p1.toNat : Int), .int .u64 (p2.toNat : Int)]) := mkHid (Blk.at _ _ _ (by simp))
  have HA := mkHid (hA.below KB.out)
  clear hA
  have cZX := ZX.out.six
  have lZX := ZX.out.lt
  have cZP := ZP.out.five
  have lZP := ZP.out.lt
  go_enter Try.func57, Try.ntmps57
  go_wp2_with fail
  refine (is_h hk h1 h2 hi _).mono ?_
  rintro e w' ⟨rfl, hw'⟩
  obtain rfl := hw'.symm
  clear hw'
  go_wp2_with fail
  refine (sin_walk hlen hx _ _ _ HA.out).mono ?_
  rintro e w' ⟨rfl, hw'⟩
  obtain rfl := hw'.symm
  clear hw'
  go_wp2_with fail
  go_ret2
  exact ⟨_, rfl, World.ownsRow_nil _ _ _ _, KB.out⟩

set_option maxRecDepth 100000 in
set_option maxHeartbeats 4000000 in
theorem rmch_over2 {m : ModD} {i : Nat} {n : Int} {p1 p2 : BitVec 64} {k : Nat} (hk : Hid (m.h = (k : Int))) (h1 : 1 ≤ k) (h2 : k ≤ 32) (hi : Hid (decide (i < 2 ^ k) = true)) (hlen : m.l.length ≤ 4611686018427387904) (hx : Hid (decide (i ∈ m.l) = true)) (hn : m.n = 1099511627776)  (A : Option Addr) (c : Nat) (B : Option Addr) (d : Nat) (w : World) (hA : Reads w A m.l) :
    Calls Try.prog 57 #[.agg #[.int .i64 m.h, .int .i64 m.cap, .slice A m.l.length c, .int .i64 m.n, .int .i64 m.draws, .slice B m.sent.length d], .agg #[.int .i64 2, .int .u64 (i : Int), .int .i64 n, .int .u64 (p1.toNat : Int), .int .u64 (p2.toNat : Int)]] w (WPost [] 9 w) := by
  have t2 : (m.n == (1099511627776 : Int)) = true := beq_iff_eq.2 hn
  clear hn
  have KB : Hid (Below w.heap.size w ((w.alloc (.cells #[.int .i64 m.h, .int .i64 m.cap, .slice A m.l.length c, .int .i64 m.n, .int .i64 m.draws, .slice B m.sent.length d] 45)).alloc (.cells #[.int .i64 2, .int .u64 (i : Int), .int .i64 n, .int .u64 (p1.toNat : Int), .int .u64 (p2.toNat : Int)] 53))) := mkHid (((Below.refl _ _).alloc (Nat.le_refl _) _).alloc (by simp) _)
  have ZX : Hid (Blk ((w.alloc (.cells #[.int .i64 m.h, .int .i64 m.cap, .slice A m.l.length c, .int .i64 m.n, .int .i64 m.draws, .slice B m.sent.length d] 45)).alloc (.cells #[.int .i64 2, .int .u64 (i : Int), .int .i64 n, .int .u64 (p1.toNat : Int), .int .u64 (p2.toNat : Int)] 53)) w.heap.size 45 #[.int .i64 m.h, .int .i64 m.cap, .slice A m.l.length c, .int .i64 m.n, .int .i64 m.draws, .slice B m.sent.length d]) := mkHid ((Blk.new _ _ _).alloc _)
  have ZP : Hid (Blk ((w.alloc (.cells #[.int .i64 m.h, .int .i64 m.cap, .slice A m.l.length c, .int .i64 m.n, .int .i64 m.draws, .slice B m.sent.length d] 45)).alloc (.cells #[.int .i64 2, .int .u64 (i : Int), .int .i64 n, .int .u64 (p1.toNat : Int), .int .u64 (p2.toNat : Int)] 53)) (w.heap.size + 1) 53 #[.int .i64 2, .int .u64 (i : Int), .int .i64 n, .int .u64 (p1.toNat : Int), .int .u64 (p2.toNat : Int)]) := mkHid (Blk.at _ _ _ (by simp))
  have HA := mkHid (hA.below KB.out)
  clear hA
  have cZX := ZX.out.six
  have lZX := ZX.out.lt
  have cZP := ZP.out.five
  have lZP := ZP.out.lt
  go_enter Try.func57, Try.ntmps57
  go_wp2_with fail
  refine (is_h hk h1 h2 hi _).mono ?_
  rintro e w' ⟨rfl, hw'⟩
  obtain rfl := hw'.symm
  clear hw'
  go_wp2_with fail
  refine (sin_walk hlen hx _ _ _ HA.out).mono ?_
  rintro e w' ⟨rfl, hw'⟩
  obtain rfl := hw'.symm
  clear hw'
  go_wp2_with fail
  go_ret2
  exact ⟨_, rfl, World.ownsRow_nil _ _ _ _, KB.out⟩

set_option maxRecDepth 100000 in
set_option maxHeartbeats 4000000 in
theorem rmch_without {m : ModD} {i : Nat} {n : Int} {p1 p2 : BitVec 64} {k : Nat} (hk : Hid (m.h = (k : Int))) (h1 : 1 ≤ k) (h2 : k ≤ 32) (hi : Hid (decide (i < 2 ^ k) = true)) (hlen : m.l.length ≤ 4611686018427387904) (hx : Hid (decide (i ∈ m.l) = true)) (hn : m.n ≠ 1099511627776) {L : List Nat} {r : Int} (f : Hid (withoutAll m.h m.l i = (L, r)))  (A : Option Addr) (c : Nat) (B : Option Addr) (d : Nat) (w : World) (hA : Reads w A m.l) :
    Calls Try.prog 57 #[.agg #[.int .i64 m.h, .int .i64 m.cap, .slice A m.l.length c, .int .i64 m.n, .int .i64 m.draws, .slice B m.sent.length d], .agg #[.int .i64 2, .int .u64 (i : Int), .int .i64 n, .int .u64 (p1.toNat : Int), .int .u64 (p2.toNat : Int)]] w (WPost L r w) := by
  have t2 : (m.n == (1099511627776 : Int)) = false := beq_eq_false_iff_ne.2 hn
  clear hn
  have KB : Hid (Below w.heap.size w ((w.alloc (.cells #[.int .i64 m.h, .int .i64 m.cap, .slice A m.l.length c, .int .i64 m.n, .int .i64 m.draws, .slice B m.sent.length d] 45)).alloc (.cells #[.int .i64 2, .int .u64 (i : Int), .int .i64 n, .int .u64 (p1.toNat : Int), .int .u64 (p2.toNat : Int)] 53))) := mkHid (((Below.refl _ _).alloc (Nat.le_refl _) _).alloc (by simp) _)
  have ZX : Hid (Blk ((w.alloc (.cells #[.int .i64 m.h, .int .i64 m.cap, .slice A m.l.length c, .int .i64 m.n, .int .i64 m.draws, .slice B m.sent.length d] 45)).alloc (.cells #[.int .i64 2, .int .u64 (i : Int), .int .i64 n, .int .u64 (p1.toNat : Int), .int .u64 (p2.toNat : Int)] 53)) w.heap.size 45 #[.int .i64 m.h, .int .i64 m.cap, .slice A m.l.length c, .int .i64 m.n, .int .i64 m.draws, .slice B m.sent.length d]) := mkHid ((Blk.new _ _ _).alloc _)
  have ZP : Hid (Blk ((w.alloc (.cells #[.int .i64 m.h, .int .i64 m.cap, .slice A m.l.length c, .int .i64 m.n, .int .i64 m.draws, .slice B m.sent.length d] 45)).alloc (.cells #[.int .i64 2, .int .u64 (i : Int), .int .i64 n, .int .u64 (p1.toNat : Int), .int .u64 (p2.toNat : Int)] 53)) (w.heap.size + 1) 53 #[.int .i64 2, .int .u64 (i : Int), .int .i64 n, .int .u64 (p1.toNat : Int), .int .u64 (p2.toNat : Int)]) := mkHid (Blk.at _ _ _ (by simp))
  have HA := mkHid (hA.below KB.out)
  clear hA
  have cZX := ZX.out.six
  have lZX := ZX.out.lt
  have cZP := ZP.out.five
  have lZP := ZP.out.lt
  go_enter Try.func57, Try.ntmps57
  go_wp2_with fail
  refine (is_h hk h1 h2 hi _).mono ?_
  rintro e w' ⟨rfl, hw'⟩
  obtain rfl := hw'.symm
  clear hw'
  go_wp2_with fail
  refine (sin_walk hlen hx _ _ _ HA.out).mono ?_
  rintro e w' ⟨rfl, hw'⟩
  obtain rfl := hw'.symm
  clear hw'
  go_wp2_with fail
  refine (swithout_all m.h m.l i f _ _ _ HA.out).mono ?_
  rintro e w3 ⟨v, rfl, ho, hb3⟩
  have HO := mkHid (RowOf.rebase (a := w.heap.size) ho KB.out.size)
  clear ho
  obtain ⟨A3, c3, rfl⟩ := HO.out.len
  replace KB := mkHid (KB.out.step hb3)
  clear hb3
  go_wp2_with fail
  go_ret2
  exact ⟨_, rfl, HO.out, KB.out⟩

/-- what becomes of a roll, as medlarref22.change tells it -/
def chOf (x : RollA × Int) : List Nat × Int := if x.2 = 0 then (x.1.s, 0) else ([], x.2)
theorem rmch1 {m : ModD} {i : Nat} {n : Int} {p1 p2 : BitVec 64} (hok : okM m = true) {L : List Nat} {r : Int} (e : Hid (chOf (rollAdd m.h m.cap m.l m.n i) = (L, r))) (A : Option Addr) (c : Nat) (B : Option Addr) (d : Nat) (w : World) (hA : Reads w A m.l) :
    Calls Try.prog 57 #[.agg #[.int .i64 m.h, .int .i64 m.cap, .slice A m.l.length c, .int .i64 m.n, .int .i64 m.draws, .slice B m.sent.length d], .agg #[.int .i64 1, .int .u64 (i : Int), .int .i64 n, .int .u64 (p1.toNat : Int), .int .u64 (p2.toNat : Int)]] w (WPost L r w) := by
  have e' := e.out
  obtain ⟨k, hk, h1, h2, hs⟩ := checkAll_set (okM_parts hok).2.2.1
  have hl : m.l.length ≤ 4611686018427387904 := by have := (okM_sizes hok).1; omega
  have HK : Hid (m.h = (k : Int)) := mkHid hk
  have hrc := okM_roll hok
  have hb := (okM_parts hok)
  by_cases hi : i < 2 ^ k
  · have HI : Hid (decide (i < 2 ^ k) = true) := mkHid (decide_eq_true hi)
    have ha : hasAll m.h m.l i = (decide (i ∈ m.l), 0) := by rw [hk, hasAll_ok h1 h2 hs, if_pos hi]
    unfold rollAdd at e'
    rw [if_pos ⟨hrc, by rw [ha]⟩] at e'
    by_cases hx : i ∈ m.l
    · rw [if_pos hx] at e'
      have e2 : (([] : List Nat), (5 : Int)) = (L, r) := e'
      cases e2
      exact rmch_there HK h1 h2 HI hl (mkHid (decide_eq_true hx)) A c B d w hA
    · rw [if_neg hx] at e'
      have HX : Hid (decide (i ∈ m.l) = false) := mkHid (decide_eq_false hx)
      by_cases hc : (m.l.length : Int) = m.cap
      · rw [if_pos hc] at e'
        have e2 : (([] : List Nat), (6 : Int)) = (L, r) := e'
        cases e2
        exact rmch_full HK h1 h2 HI hl HX hc A c B d w hA
      · rw [if_neg hc] at e'
        by_cases hn : m.n = 1099511627776
        · rw [if_pos hn] at e'
          have e2 : (([] : List Nat), (9 : Int)) = (L, r) := e'
          cases e2
          exact rmch_over1 HK h1 h2 HI hl HX hc hn A c B d w hA
        · rw [if_neg hn] at e'
          have e2 : (addL m.l i, (0 : Int)) = (L, r) := e'
          cases e2
          exact rmch_with HK h1 h2 HI hl HX hc hn (mkHid (by rw [hk]; exact withAll_mk h1 h2 hs hi hx (by omega))) A c B d w hA
  · have HI : Hid (decide (i < 2 ^ k) = false) := mkHid (decide_eq_false hi)
    have ha : hasAll m.h m.l i = (false, 1) := by rw [hk, hasAll_ok h1 h2 hs, if_neg hi]
    unfold rollAdd at e'
    rw [if_neg (by rw [ha]; simp)] at e'
    have e2 : (([] : List Nat), (1 : Int)) = (L, r) := e'
    cases e2
    exact rmch_leaf HK h1 h2 HI A c B d w hA
theorem rmch2 {m : ModD} {i : Nat} {n : Int} {p1 p2 : BitVec 64} (hok : okM m = true) {L : List Nat} {r : Int} (e : Hid (chOf (rollDel m.h m.cap m.l m.n i) = (L, r))) (A : Option Addr) (c : Nat) (B : Option Addr) (d : Nat) (w : World) (hA : Reads w A m.l) :
    Calls Try.prog 57 #[.agg #[.int .i64 m.h, .int .i64 m.cap, .slice A m.l.length c, .int .i64 m.n, .int .i64 m.draws, .slice B m.sent.length d], .agg #[.int .i64 2, .int .u64 (i : Int), .int .i64 n, .int .u64 (p1.toNat : Int), .int .u64 (p2.toNat : Int)]] w (WPost L r w) := by
  have e' := e.out
  obtain ⟨k, hk, h1, h2, hs⟩ := checkAll_set (okM_parts hok).2.2.1
  have hl : m.l.length ≤ 4611686018427387904 := by have := (okM_sizes hok).1; omega
  have HK : Hid (m.h = (k : Int)) := mkHid hk
  have hrc := okM_roll hok
  by_cases hi : i < 2 ^ k
  · have HI : Hid (decide (i < 2 ^ k) = true) := mkHid (decide_eq_true hi)
    have ha : hasAll m.h m.l i = (decide (i ∈ m.l), 0) := by rw [hk, hasAll_ok h1 h2 hs, if_pos hi]
    unfold rollDel at e'
    rw [if_pos ⟨hrc, by rw [ha]⟩] at e'
    by_cases hx : i ∈ m.l
    · rw [if_neg (by simpa using hx)] at e'
      have HX : Hid (decide (i ∈ m.l) = true) := mkHid (decide_eq_true hx)
      by_cases hn : m.n = 1099511627776
      · rw [if_pos hn] at e'
        have e2 : (([] : List Nat), (9 : Int)) = (L, r) := e'
        cases e2
        exact rmch_over2 HK h1 h2 HI hl HX hn A c B d w hA
      · rw [if_neg hn] at e'
        have e2 : (remL m.l i, (0 : Int)) = (L, r) := e'
        cases e2
        exact rmch_without HK h1 h2 HI hl HX hn (mkHid (by rw [hk]; exact withoutAll_mk h1 h2 hs hi hx)) A c B d w hA
    · rw [if_pos hx] at e'
      have HX : Hid (decide (i ∈ m.l) = false) := mkHid (decide_eq_false hx)
      have e2 : (([] : List Nat), (4 : Int)) = (L, r) := e'
      cases e2
      exact rmch_none HK h1 h2 HI hl HX A c B d w hA
  · have HI : Hid (decide (i < 2 ^ k) = false) := mkHid (decide_eq_false hi)
    have ha : hasAll m.h m.l i = (false, 1) := by rw [hk, hasAll_ok h1 h2 hs, if_neg hi]
    unfold rollDel at e'
    rw [if_neg (by rw [ha]; simp)] at e'
    have e2 : (([] : List Nat), (1 : Int)) = (L, r) := e'
    cases e2
    exact rmch_leaf HK h1 h2 HI A c B d w hA
end Go.Proofs.Ytmehbonjpmlmfaa

namespace Go.Proofs.Ytmehbonjpmlmfaa
open Go.RowKit

set_option linter.unusedSimpArgs false in
set_option maxRecDepth 100000 in
set_option maxHeartbeats 4000000 in
theorem rmd_bad {m : ModD} {i : Nat} {n : Int} {p1 p2 : BitVec 64} {kd : Int} (e : Hid ((if okM m then (0 : Int) else 1) = 1))  (A : Option Addr) (c : Nat) (B : Option Addr) (d : Nat) (w : World) (hM : MemM w A c B d m) :
    Calls Try.prog 33 #[.agg #[.int .i64 m.h, .int .i64 m.cap, .slice A m.l.length c, .int .i64 m.n, .int .i64 m.draws, .slice B m.sent.length d], .agg #[.int .i64 kd, .int .u64 (i : Int), .int .i64 n, .int .u64 (p1.toNat : Int), .int .u64 (p2.toNat : Int)]] w (DoPost zeroM (ansE 0) 1 w) := by
  skip
  have ZX : Hid (Blk ((((w.alloc (.cells #[.int .i64 m.h, .int .i64 m.cap, .slice A m.l.length c, .int .i64 m.n, .int .i64 m.draws, .slice B m.sent.length d] 45)).alloc (.cells #[.int .i64 kd, .int .u64 (i : Int), .int .i64 n, .int .u64 (p1.toNat : Int), .int .u64 (p2.toNat : Int)] 53)).alloc (.cells #[.int .i64 0, .int .i64 0, .slice none 0 0, .int .i64 0, .int .i64 0, .slice none 0 0] 45)).alloc (.cells #[.int .i64 0, .int .i64 0, .int .i64 0, .int .u64 0, .int .u64 0] 55)) w.heap.size 45 #[.int .i64 m.h, .int .i64 m.cap, .slice A m.l.length c, .int .i64 m.n, .int .i64 m.draws, .slice B m.sent.length d]) := mkHid ((((Blk.new _ _ _).alloc _).alloc _).alloc _)
  have ZP : Hid (Blk ((((w.alloc (.cells #[.int .i64 m.h, .int .i64 m.cap, .slice A m.l.length c, .int .i64 m.n, .int .i64 m.draws, .slice B m.sent.length d] 45)).alloc (.cells #[.int .i64 kd, .int .u64 (i : Int), .int .i64 n, .int .u64 (p1.toNat : Int), .int .u64 (p2.toNat : Int)] 53)).alloc (.cells #[.int .i64 0, .int .i64 0, .slice none 0 0, .int .i64 0, .int .i64 0, .slice none 0 0] 45)).alloc (.cells #[.int .i64 0, .int .i64 0, .int .i64 0, .int .u64 0, .int .u64 0] 55)) (w.heap.size + 1) 53 #[.int .i64 kd, .int .u64 (i : Int), .int .i64 n, .int .u64 (p1.toNat : Int), .int .u64 (p2.toNat : Int)]) := mkHid (((Blk.at _ _ _ (by simp)).alloc _).alloc _)
  have ZZ : Hid (Blk ((((w.alloc (.cells #[.int .i64 m.h, .int .i64 m.cap, .slice A m.l.length c, .int .i64 m.n, .int .i64 m.draws, .slice B m.sent.length d] 45)).alloc (.cells #[.int .i64 kd, .int .u64 (i : Int), .int .i64 n, .int .u64 (p1.toNat : Int), .int .u64 (p2.toNat : Int)] 53)).alloc (.cells #[.int .i64 0, .int .i64 0, .slice none 0 0, .int .i64 0, .int .i64 0, .slice none 0 0] 45)).alloc (.cells #[.int .i64 0, .int .i64 0, .int .i64 0, .int .u64 0, .int .u64 0] 55)) (w.heap.size + 1 + 1) 45 #[.int .i64 0, .int .i64 0, .slice none 0 0, .int .i64 0, .int .i64 0, .slice none 0 0]) := mkHid ((Blk.at _ _ _ (by simp)).alloc _)
  have ZA : Hid (Blk ((((w.alloc (.cells #[.int .i64 m.h, .int .i64 m.cap, .slice A m.l.length c, .int .i64 m.n, .int .i64 m.draws, .slice B m.sent.length d] 45)).alloc (.cells #[.int .i64 kd, .int .u64 (i : Int), .int .i64 n, .int .u64 (p1.toNat : Int), .int .u64 (p2.toNat : Int)] 53)).alloc (.cells #[.int .i64 0, .int .i64 0, .slice none 0 0, .int .i64 0, .int .i64 0, .slice none 0 0] 45)).alloc (.cells #[.int .i64 0, .int .i64 0, .int .i64 0, .int .u64 0, .int .u64 0] 55)) (w.heap.size + 1 + 1 + 1) 55 #[.int .i64 0, .int .i64 0, .int .i64 0, .int .u64 0, .int .u64 0]) := mkHid (Blk.at _ _ _ (by simp))
  have KB : Hid (Below w.heap.size w ((((w.alloc (.cells #[.int .i64 m.h, .int .i64 m.cap, .slice A m.l.length c, .int .i64 m.n, .int .i64 m.draws, .slice B m.sent.length d] 45)).alloc (.cells #[.int .i64 kd, .int .u64 (i : Int), .int .i64 n, .int .u64 (p1.toNat : Int), .int .u64 (p2.toNat : Int)] 53)).alloc (.cells #[.int .i64 0, .int .i64 0, .slice none 0 0, .int .i64 0, .int .i64 0, .slice none 0 0] 45)).alloc (.cells #[.int .i64 0, .int .i64 0, .int .i64 0, .int .u64 0, .int .u64 0] 55))) := mkHid (((((Below.refl _ _).alloc (Nat.le_refl _) (.cells #[.int .i64 m.h, .int .i64 m.cap, .slice A m.l.length c, .int .i64 m.n, .int .i64 m.draws, .slice B m.sent.length d] 45)).alloc (by simp) (.cells #[.int .i64 kd, .int .u64 (i : Int), .int .i64 n, .int .u64 (p1.toNat : Int), .int .u64 (p2.toNat : Int)] 53)).alloc (by simp; omega) (.cells #[.int .i64 0, .int .i64 0, .slice none 0 0, .int .i64 0, .int .i64 0, .slice none 0 0] 45)).alloc (by simp; omega) (.cells #[.int .i64 0, .int .i64 0, .int .i64 0, .int .u64 0, .int .u64 0] 55))
  have HM := mkHid (hM.below (((((Below.refl _ _).alloc (Nat.le_refl _) (.cells #[.int .i64 m.h, .int .i64 m.cap, .slice A m.l.length c, .int .i64 m.n, .int .i64 m.draws, .slice B m.sent.length d] 45)).alloc (by simp) (.cells #[.int .i64 kd, .int .u64 (i : Int), .int .i64 n, .int .u64 (p1.toNat : Int), .int .u64 (p2.toNat : Int)] 53)).alloc (by simp; omega) (.cells #[.int .i64 0, .int .i64 0, .slice none 0 0, .int .i64 0, .int .i64 0, .slice none 0 0] 45)).alloc (by simp; omega) (.cells #[.int .i64 0, .int .i64 0, .int .i64 0, .int .u64 0, .int .u64 0] 55)))
  clear hM
  go_enter Try.func33, Try.ntmps33
  go_upto_region 1 with fail
  generalize ((((w.alloc (.cells #[.int .i64 m.h, .int .i64 m.cap, .slice A m.l.length c, .int .i64 m.n, .int .i64 m.draws, .slice B m.sent.length d] 45)).alloc (.cells #[.int .i64 kd, .int .u64 (i : Int), .int .i64 n, .int .u64 (p1.toNat : Int), .int .u64 (p2.toNat : Int)] 53)).alloc (.cells #[.int .i64 0, .int .i64 0, .slice none 0 0, .int .i64 0, .int .i64 0, .slice none 0 0] 45)).alloc (.cells #[.int .i64 0, .int .i64 0, .int .i64 0, .int .u64 0, .int .u64 0] 55)) = w0 at *
  have lZA : w.heap.size + 1 + 1 + 1 < w0.heap.size := ZA.out.lt
  have cX := ZX.out.six
  have cP := ZP.out.five
  go_wp2_with fail
  refine (rmchk e _ _ _ _ _ HM.out.reads HM.out.sents).mono ?_
  rintro e w1 ⟨rfl, hb⟩
  replace ZX := mkHid (ZX.out.keep hb)
  replace ZP := mkHid (ZP.out.keep hb)
  replace ZZ := mkHid (ZZ.out.keep hb)
  replace ZA := mkHid (ZA.out.keep hb)
  replace KB := mkHid (KB.out.step hb)
  replace HM := mkHid (HM.out.below hb)
  clear hb
  clear lZA cX cP
  have lZA : w.heap.size + 1 + 1 + 1 < w1.heap.size := ZA.out.lt
  have cX := ZX.out.six
  have cP := ZP.out.five
  have HO : Hid (OwnM w1 (w.heap.size + 4) none 0 none 0 [] zeroM) := mkHid (OwnM.zero _ _)
  have cZ := ZZ.out.six
  have cA := ZA.out.five
  have gz0 := ZZ.out.frozen 0
  have gz1 := ZZ.out.frozen 1
  have gz2 := ZZ.out.frozen 2
  have gz3 := ZZ.out.frozen 3
  have gz4 := ZZ.out.frozen 4
  have gz5 := ZZ.out.frozen 5
  have ga0 := ZA.out.frozen 0
  have ga1 := ZA.out.frozen 1
  have ga2 := ZA.out.frozen 2
  have ga3 := ZA.out.frozen 3
  have ga4 := ZA.out.frozen 4
  go_wp2_with fail
  have qR := ((ZZ.out.fill6 (b0 := .int .i64 0) (b1 := .int .i64 0) (b2 := .slice none 0 0) (b3 := .int .i64 0) (b4 := .int .i64 0) (b5 := .slice none 0 0)).other5 (g := (w.heap.size + 1 + 1 + 1)) (x0 := .int .i64 0) (x1 := .int .i64 0) (x2 := .int .i64 0) (x3 := .int .u64 0) (x4 := .int .u64 0) (by omega)).six
  have qA := ((ZA.out.other6 (g := (w.heap.size + 1 + 1)) (x0 := .int .i64 0) (x1 := .int .i64 0) (x2 := .slice none 0 0) (x3 := .int .i64 0) (x4 := .int .i64 0) (x5 := .slice none 0 0) (by omega)).fill5 (b0 := .int .i64 0) (b1 := .int .i64 0) (b2 := .int .i64 0) (b3 := .int .u64 0) (b4 := .int .u64 0)).five
  refine bodyPost_ret (v := .tuple #[.agg #[.int .i64 0, .int .i64 0, .slice none 0 0, .int .i64 0, .int .i64 0, .slice none 0 0], .agg #[.int .i64 0, .int .i64 0, .int .i64 0, .int .u64 0, .int .u64 0], .int .i64 1]) (by simp [results, Try.results33, go_sem, qR, qA]) rfl ⟨_, _, _, _, [], rfl, OwnM.base (b' := w.heap.size + 4) ?_ (by omega), below_five (below_six KB.out (by omega) _ _ _ _ _ _) (by omega) _ _ _ _ _⟩
  exact (HO.out.past6 (by omega) _ _ _ _ _ _).past5 (by omega) _ _ _ _ _

set_option linter.unusedSimpArgs false in
set_option maxRecDepth 100000 in
set_option maxHeartbeats 4000000 in
theorem rmd_low {m : ModD} {i : Nat} {n : Int} {p1 p2 : BitVec 64} {kd : Int} (e : Hid ((if okM m then (0 : Int) else 1) = 0)) (k0 : kd < 1)  (A : Option Addr) (c : Nat) (B : Option Addr) (d : Nat) (w : World) (hM : MemM w A c B d m) :
    Calls Try.prog 33 #[.agg #[.int .i64 m.h, .int .i64 m.cap, .slice A m.l.length c, .int .i64 m.n, .int .i64 m.draws, .slice B m.sent.length d], .agg #[.int .i64 kd, .int .u64 (i : Int), .int .i64 n, .int .u64 (p1.toNat : Int), .int .u64 (p2.toNat : Int)]] w (DoPost zeroM (ansE 0) 1 w) := by
  have t0 : decide (kd < (1 : Int)) = true := decide_eq_true k0
  have ZX : Hid (Blk ((((w.alloc (.cells #[.int .i64 m.h, .int .i64 m.cap, .slice A m.l.length c, .int .i64 m.n, .int .i64 m.draws, .slice B m.sent.length d] 45)).alloc (.cells #[.int .i64 kd, .int .u64 (i : Int), .int .i64 n, .int .u64 (p1.toNat : Int), .int .u64 (p2.toNat : Int)] 53)).alloc (.cells #[.int .i64 0, .int .i64 0, .slice none 0 0, .int .i64 0, .int .i64 0, .slice none 0 0] 45)).alloc (.cells #[.int .i64 0, .int .i64 0, .int .i64 0, .int .u64 0, .int .u64 0] 55)) w.heap.size 45 #[.int .i64 m.h, .int .i64 m.cap, .slice A m.l.length c, .int .i64 m.n, .int .i64 m.draws, .slice B m.sent.length d]) := mkHid ((((Blk.new _ _ _).alloc _).alloc _).alloc _)
  have ZP : Hid (Blk ((((w.alloc (.cells #[.int .i64 m.h, .int .i64 m.cap, .slice A m.l.length c, .int .i64 m.n, .int .i64 m.draws, .slice B m.sent.length d] 45)).alloc (.cells #[.int .i64 kd, .int .u64 (i : Int), .int .i64 n, .int .u64 (p1.toNat : Int), .int .u64 (p2.toNat : Int)] 53)).alloc (.cells #[.int .i64 0, .int .i64 0, .slice none 0 0, .int .i64 0, .int .i64 0, .slice none 0 0] 45)).alloc (.cells #[.int .i64 0, .int .i64 0, .int .i64 0, .int .u64 0, .int .u64 0] 55)) (w.heap.size + 1) 53 #[.int .i64 kd, .int .u64 (i : Int), .int .i64 n, .int .u64 (p1.toNat : Int), .int .u64 (p2.toNat : Int)]) := mkHid (((Blk.at _ _ _ (by simp)).alloc _).alloc _)
  have ZZ : Hid (Blk ((((w.alloc (.cells #[.int .i64 m.h, .int .i64 m.cap, .slice A m.l.length c, .int .i64 m.n, .int .i64 m.draws, .slice B m.sent.length d] 45)).alloc (.cells #[.int .i64 kd, .int .u64 (i : Int), .int .i64 n, .int .u64 (p1.toNat : Int), .int .u64 (p2.toNat : Int)] 53)).alloc (.cells #[.int .i64 0, .int .i64 0, .slice none 0 0, .int .i64 0, .int .i64 0, .slice none 0 0] 45)).alloc (.cells #[.int .i64 0, .int .i64 0, .int .i64 0, .int .u64 0, .int .u64 0] 55)) (w.heap.size + 1 + 1) 45 #[.int .i64 0, .int .i64 0, .slice none 0 0, .int .i64 0, .int .i64 0, .slice none 0 0]) := mkHid ((Blk.at _ _ _ (by simp)).alloc _)
  have ZA : Hid (Blk ((((w.alloc (.cells #[.int .i64 m.h, .int .i64 m.cap, .slice A m.l.length c, .int .i64 m.n, .int .i64 m.draws, .slice B m.sent.length d] 45)).alloc (.cells #[.int .i64 kd, .int .u64 (i : Int), .int .i64 n, .int .u64 (p1.toNat : Int), .int .u64 (p2.toNat : Int)] 53)).alloc (.cells #[.int .i64 0, .int .i64 0, .slice none 0 0, .int .i64 0, .int .i64 0, .slice none 0 0] 45)).alloc (.cells #[.int .i64 0, .int .i64 0, .int .i64 0, .int .u64 0, .int .u64 0] 55)) (w.heap.size + 1 + 1 + 1) 55 #[.int .i64 0, .int .i64 0, .int .i64 0, .int .u64 0, .int .u64 0]) := mkHid (Blk.at _ _ _ (by simp))
  have KB : Hid (Below w.heap.size w ((((w.alloc (.cells #[.int .i64 m.h, .int .i64 m.cap, .slice A m.l.length c, .int .i64 m.n, .int .i64 m.draws, .slice B m.sent.length d] 45)).alloc (.cells #[.int .i64 kd, .int .u64 (i : Int), .int .i64 n, .int .u64 (p1.toNat : Int), .int .u64 (p2.toNat : Int)] 53)).alloc (.cells #[.int .i64 0, .int .i64 0, .slice none 0 0, .int .i64 0, .int .i64 0, .slice none 0 0] 45)).alloc (.cells #[.int .i64 0, .int .i64 0, .int .i64 0, .int .u64 0, .int .u64 0] 55))) := mkHid (((((Below.refl _ _).alloc (Nat.le_refl _) (.cells #[.int .i64 m.h, .int .i64 m.cap, .slice A m.l.length c, .int .i64 m.n, .int .i64 m.draws, .slice B m.sent.length d] 45)).alloc (by simp) (.cells #[.int .i64 kd, .int .u64 (i : Int), .int .i64 n, .int .u64 (p1.toNat : Int), .int .u64 (p2.toNat : Int)] 53)).alloc (by simp; omega) (.cells #[.int .i64 0, .int .i64 0, .slice none 0 0, .int .i64 0, .int .i64 0, .slice none 0 0] 45)).alloc (by simp; omega) (.cells #[.int .i64 0, .int .i64 0, .int .i64 0, .int .u64 0, .int .u64 0] 55))
  have HM := mkHid (hM.below (((((Below.refl _ _).alloc (Nat.le_refl _) (.cells #[.int .i64 m.h, .int .i64 m.cap, .slice A m.l.length c, .int .i64 m.n, .int .i64 m.draws, .slice B m.sent.length d] 45)).alloc (by simp) (.cells #[.int .i64 kd, .int .u64 (i : Int), .int .i64 n, .int .u64 (p1.toNat : Int), .int .u64 (p2.toNat : Int)] 53)).alloc (by simp; omega) (.cells #[.int .i64 0, .int .i64 0, .slice none 0 0, .int .i64 0, .int .i64 0, .slice none 0 0] 45)).alloc (by simp; omega) (.cells #[.int .i64 0, .int .i64 0, .int .i64 0, .int .u64 0, .int .u64 0] 55)))
  clear hM
  go_enter Try.func33, Try.ntmps33
  go_upto_region 1 with fail
  generalize ((((w.alloc (.cells #[.int .i64 m.h, .int .i64 m.cap, .slice A m.l.length c, .int .i64 m.n, .int .i64 m.draws, .slice B m.sent.length d] 45)).alloc (.cells #[.int .i64 kd, .int .u64 (i : Int), .int .i64 n, .int .u64 (p1.toNat : Int), .int .u64 (p2.toNat : Int)] 53)).alloc (.cells #[.int .i64 0, .int .i64 0, .slice none 0 0, .int .i64 0, .int .i64 0, .slice none 0 0] 45)).alloc (.cells #[.int .i64 0, .int .i64 0, .int .i64 0, .int .u64 0, .int .u64 0] 55)) = w0 at *
  have lZA : w.heap.size + 1 + 1 + 1 < w0.heap.size := ZA.out.lt
  have cX := ZX.out.six
  have cP := ZP.out.five
  go_wp2_with fail
  refine (rmchk e _ _ _ _ _ HM.out.reads HM.out.sents).mono ?_
  rintro e w1 ⟨rfl, hb⟩
  replace ZX := mkHid (ZX.out.keep hb)
  replace ZP := mkHid (ZP.out.keep hb)
  replace ZZ := mkHid (ZZ.out.keep hb)
  replace ZA := mkHid (ZA.out.keep hb)
  replace KB := mkHid (KB.out.step hb)
  replace HM := mkHid (HM.out.below hb)
  clear hb
  clear lZA cX cP
  have lZA : w.heap.size + 1 + 1 + 1 < w1.heap.size := ZA.out.lt
  have cX := ZX.out.six
  have cP := ZP.out.five
  have HO : Hid (OwnM w1 (w.heap.size + 4) none 0 none 0 [] zeroM) := mkHid (OwnM.zero _ _)
  have cZ := ZZ.out.six
  have cA := ZA.out.five
  have gz0 := ZZ.out.frozen 0
  have gz1 := ZZ.out.frozen 1
  have gz2 := ZZ.out.frozen 2
  have gz3 := ZZ.out.frozen 3
  have gz4 := ZZ.out.frozen 4
  have gz5 := ZZ.out.frozen 5
  have ga0 := ZA.out.frozen 0
  have ga1 := ZA.out.frozen 1
  have ga2 := ZA.out.frozen 2
  have ga3 := ZA.out.frozen 3
  have ga4 := ZA.out.frozen 4
  go_wp2_with fail
  have qR := ((ZZ.out.fill6 (b0 := .int .i64 0) (b1 := .int .i64 0) (b2 := .slice none 0 0) (b3 := .int .i64 0) (b4 := .int .i64 0) (b5 := .slice none 0 0)).other5 (g := (w.heap.size + 1 + 1 + 1)) (x0 := .int .i64 0) (x1 := .int .i64 0) (x2 := .int .i64 0) (x3 := .int .u64 0) (x4 := .int .u64 0) (by omega)).six
  have qA := ((ZA.out.other6 (g := (w.heap.size + 1 + 1)) (x0 := .int .i64 0) (x1 := .int .i64 0) (x2 := .slice none 0 0) (x3 := .int .i64 0) (x4 := .int .i64 0) (x5 := .slice none 0 0) (by omega)).fill5 (b0 := .int .i64 0) (b1 := .int .i64 0) (b2 := .int .i64 0) (b3 := .int .u64 0) (b4 := .int .u64 0)).five
  refine bodyPost_ret (v := .tuple #[.agg #[.int .i64 0, .int .i64 0, .slice none 0 0, .int .i64 0, .int .i64 0, .slice none 0 0], .agg #[.int .i64 0, .int .i64 0, .int .i64 0, .int .u64 0, .int .u64 0], .int .i64 1]) (by simp [results, Try.results33, go_sem, qR, qA]) rfl ⟨_, _, _, _, [], rfl, OwnM.base (b' := w.heap.size + 4) ?_ (by omega), below_five (below_six KB.out (by omega) _ _ _ _ _ _) (by omega) _ _ _ _ _⟩
  exact (HO.out.past6 (by omega) _ _ _ _ _ _).past5 (by omega) _ _ _ _ _

set_option linter.unusedSimpArgs false in
set_option maxRecDepth 100000 in
set_option maxHeartbeats 4000000 in
theorem rmd_high {m : ModD} {i : Nat} {n : Int} {p1 p2 : BitVec 64} {kd : Int} (e : Hid ((if okM m then (0 : Int) else 1) = 0)) (k0 : ¬ kd < 1) (k4 : 4 < kd)  (A : Option Addr) (c : Nat) (B : Option Addr) (d : Nat) (w : World) (hM : MemM w A c B d m) :
    Calls Try.prog 33 #[.agg #[.int .i64 m.h, .int .i64 m.cap, .slice A m.l.length c, .int .i64 m.n, .int .i64 m.draws, .slice B m.sent.length d], .agg #[.int .i64 kd, .int .u64 (i : Int), .int .i64 n, .int .u64 (p1.toNat : Int), .int .u64 (p2.toNat : Int)]] w (DoPost zeroM (ansE 0) 1 w) := by
  have t0 : decide (kd < (1 : Int)) = false := decide_eq_false k0
  have t1 : decide ((4 : Int) < kd) = true := decide_eq_true k4
  have ZX : Hid (Blk ((((w.alloc (.cells #[.int .i64 m.h, .int .i64 m.cap, .slice A m.l.length c, .int .i64 m.n, .int .i64 m.draws, .slice B m.sent.length d] 45)).alloc (.cells #[.int .i64 kd, .int .u64 (i : Int), .int .i64 n, .int .u64 (p1.toNat : Int), .int .u64 (p2.toNat : Int)] 53)).alloc (.cells #[.int .i64 0, .int .i64 0, .slice none 0 0, .int .i64 0, .int .i64 0, .slice none 0 0] 45)).alloc (.cells #[.int .i64 0, .int .i64 0, .int .i64 0, .int .u64 0, .int .u64 0] 55)) w.heap.size 45 #[.int .i64 m.h, .int .i64 m.cap, .slice A m.l.length c, .int .i64 m.n, .int .i64 m.draws, .slice B m.sent.length d]) := mkHid ((((Blk.new _ _ _).alloc _).alloc _).alloc _)
  have ZP : Hid (Blk ((((w.alloc (.cells #[.int .i64 m.h, .int .i64 m.cap, .slice A m.l.length c, .int .i64 m.n, .int .i64 m.draws, .slice B m.sent.length d] 45)).alloc (.cells #[.int .i64 kd, .int .u64 (i : Int), .int .i64 n, .int .u64 (p1.toNat : Int), .int .u64 (p2.toNat : Int)] 53)).alloc (.cells #[.int .i64 0, .int .i64 0, .slice none 0 0, .int .i64 0, .int .i64 0, .slice none 0 0] 45)).alloc (.cells #[.int .i64 0, .int .i64 0, .int .i64 0, .int .u64 0, .int .u64 0] 55)) (w.heap.size + 1) 53 #[.int .i64 kd, .int .u64 (i : Int), .int .i64 n, .int .u64 (p1.toNat : Int), .int .u64 (p2.toNat : Int)]) := mkHid (((Blk.at _ _ _ (by simp)).alloc _).alloc _)
  have ZZ : Hid (Blk ((((w.alloc (.cells #[.int .i64 m.h, .int .i64 m.cap, .slice A m.l.length c, .int .i64 m.n, .int .i64 m.draws, .slice B m.sent.length d] 45)).alloc (.cells #[.int .i64 kd, .int .u64 (i : Int), .int .i64 n, .int .u64 (p1.toNat : Int), .int .u64 (p2.toNat : Int)] 53)).alloc (.cells #[.int .i64 0, .int .i64 0, .slice none 0 0, .int .i64 0, .int .i64 0, .slice none 0 0] 45)).alloc (.cells #[.int .i64 0, .int .i64 0, .int .i64 0, .int .u64 0, .int .u64 0] 55)) (w.heap.size + 1 + 1) 45 #[.int .i64 0, .int .i64 0, .slice none 0 0, .int .i64 0, .int .i64 0, .slice none 0 0]) := mkHid ((Blk.at _ _ _ (by simp)).alloc _)
  have ZA : Hid (Blk ((((w.alloc (.cells #[.int .i64 m.h, .int .i64 m.cap, .slice A m.l.length c, .int .i64 m.n, .int .i64 m.draws, .slice B m.sent.length d] 45)).alloc (.cells #[.int .i64 kd, .int .u64 (i : Int), .int .i64 n, .int .u64 (p1.toNat : Int), .int .u64 (p2.toNat : Int)] 53)).alloc (.cells #[.int .i64 0, .int .i64 0, .slice none 0 0, .int .i64 0, .int .i64 0, .slice none 0 0] 45)).alloc (.cells #[.int .i64 0, .int .i64 0, .int .i64 0, .int .u64 0, .int .u64 0] 55)) (w.heap.size + 1 + 1 + 1) 55 #[.int .i64 0, .int .i64 0, .int .i64 0, .int .u64 0, .int .u64 0]) := mkHid (Blk.at _ _ _ (by simp))
  have KB : Hid (Below w.heap.size w ((((w.alloc (.cells #[.int .i64 m.h, .int .i64 m.cap, .slice A m.l.length c, .int .i64 m.n, .int .i64 m.draws, .slice B m.sent.length d] 45)).alloc (.cells #[.int .i64 kd, .int .u64 (i : Int), .int .i64 n, .int .u64 (p1.toNat : Int), .int .u64 (p2.toNat : Int)] 53)).alloc (.cells #[.int .i64 0, .int .i64 0, .slice none 0 0, .int .i64 0, .int .i64 0, .slice none 0 0] 45)).alloc (.cells #[.int .i64 0, .int .i64 0, .int .i64 0, .int .u64 0, .int .u64 0] 55))) := mkHid (((((Below.refl _ _).alloc (Nat.le_refl _) (.cells #[.int .i64 m.h, .int .i64 m.cap, .slice A m.l.length c, .int .i64 m.n, .int .i64 m.draws, .slice B m.sent.length d] 45)).alloc (by simp) (.cells #[.int .i64 kd, .int .u64 (i : Int), .int .i64 n, .int .u64 (p1.toNat : Int), .int .u64 (p2.toNat : Int)] 53)).alloc (by simp; omega) (.cells #[.int .i64 0, .int .i64 0, .slice none 0 0, .int .i64 0, .int .i64 0, .slice none 0 0] 45)).alloc (by simp; omega) (.cells #[.int .i64 0, .int .i64 0, .int .i64 0, .int .u64 0, .int .u64 0] 55))
  have HM := mkHid (hM.below (((((Below.refl _ _).alloc (Nat.le_refl _) (.cells #[.int .i64 m.h, .int .i64 m.cap, .slice A m.l.length c, .int .i64 m.n, .int .i64 m.draws, .slice B m.sent.length d] 45)).alloc (by simp) (.cells #[.int .i64 kd, .int .u64 (i : Int), .int .i64 n, .int .u64 (p1.toNat : Int), .int .u64 (p2.toNat : Int)] 53)).alloc (by simp; omega) (.cells #[.int .i64 0, .int .i64 0, .slice none 0 0, .int .i64 0, .int .i64 0, .slice none 0 0] 45)).alloc (by simp; omega) (.cells #[.int .i64 0, .int .i64 0, .int .i64 0, .int .u64 0, .int .u64 0] 55)))
  clear hM
  go_enter Try.func33, Try.ntmps33
  go_upto_region 1 with fail
  generalize ((((w.alloc (.cells #[.int .i64 m.h, .int .i64 m.cap, .slice A m.l.length c, .int .i64 m.n, .int .i64 m.draws, .slice B m.sent.length d] 45)).alloc (.cells #[.int .i64 kd, .int .u64 (i : Int), .int .i64 n, .int .u64 (p1.toNat : Int), .int .u64 (p2.toNat : Int)] 53)).alloc (.cells #[.int .i64 0, .int .i64 0, .slice none 0 0, .int .i64 0, .int .i64 0, .slice none 0 0] 45)).alloc (.cells #[.int .i64 0, .int .i64 0, .int .i64 0, .int .u64 0, .int .u64 0] 55)) = w0 at *
  have lZA : w.heap.size + 1 + 1 + 1 < w0.heap.size := ZA.out.lt
  have cX := ZX.out.six
  have cP := ZP.out.five
  go_wp2_with fail
  refine (rmchk e _ _ _ _ _ HM.out.reads HM.out.sents).mono ?_
  rintro e w1 ⟨rfl, hb⟩
  replace ZX := mkHid (ZX.out.keep hb)
  replace ZP := mkHid (ZP.out.keep hb)
  replace ZZ := mkHid (ZZ.out.keep hb)
  replace ZA := mkHid (ZA.out.keep hb)
  replace KB := mkHid (KB.out.step hb)
  replace HM := mkHid (HM.out.below hb)
  clear hb
  clear lZA cX cP
  have lZA : w.heap.size + 1 + 1 + 1 < w1.heap.size := ZA.out.lt
  have cX := ZX.out.six
  have cP := ZP.out.five
  have HO : Hid (OwnM w1 (w.heap.size + 4) none 0 none 0 [] zeroM) := mkHid (OwnM.zero _ _)
  have cZ := ZZ.out.six
  have cA := ZA.out.five
  have gz0 := ZZ.out.frozen 0
  have gz1 := ZZ.out.frozen 1
  have gz2 := ZZ.out.frozen 2
  have gz3 := ZZ.out.frozen 3
  have gz4 := ZZ.out.frozen 4
  have gz5 := ZZ.out.frozen 5
  have ga0 := ZA.out.frozen 0
  have ga1 := ZA.out.frozen 1
  have ga2 := ZA.out.frozen 2
  have ga3 := ZA.out.frozen 3
  have ga4 := ZA.out.frozen 4
  go_wp2_with fail
  have qR := ((ZZ.out.fill6 (b0 := .int .i64 0) (b1 := .int .i64 0) (b2 := .slice none 0 0) (b3 := .int .i64 0) (b4 := .int .i64 0) (b5 := .slice none 0 0)).other5 (g := (w.heap.size + 1 + 1 + 1)) (x0 := .int .i64 0) (x1 := .int .i64 0) (x2 := .int .i64 0) (x3 := .int .u64 0) (x4 := .int .u64 0) (by omega)).six
  have qA := ((ZA.out.other6 (g := (w.heap.size + 1 + 1)) (x0 := .int .i64 0) (x1 := .int .i64 0) (x2 := .slice none 0 0) (x3 := .int .i64 0) (x4 := .int .i64 0) (x5 := .slice none 0 0) (by omega)).fill5 (b0 := .int .i64 0) (b1 := .int .i64 0) (b2 := .int .i64 0) (b3 := .int .u64 0) (b4 := .int .u64 0)).five
  refine bodyPost_ret (v := .tuple #[.agg #[.int .i64 0, .int .i64 0, .slice none 0 0, .int .i64 0, .int .i64 0, .slice none 0 0], .agg #[.int .i64 0, .int .i64 0, .int .i64 0, .int .u64 0, .int .u64 0], .int .i64 1]) (by simp [results, Try.results33, go_sem, qR, qA]) rfl ⟨_, _, _, _, [], rfl, OwnM.base (b' := w.heap.size + 4) ?_ (by omega), below_five (below_six KB.out (by omega) _ _ _ _ _ _) (by omega) _ _ _ _ _⟩
  exact (HO.out.past6 (by omega) _ _ _ _ _ _).past5 (by omega) _ _ _ _ _

set_option linter.unusedSimpArgs false in
set_option maxRecDepth 100000 in
set_option maxHeartbeats 4000000 in
theorem rmd1_no {m : ModD} {i : Nat} {n : Int} {p1 p2 : BitVec 64} (e : Hid ((if okM m then (0 : Int) else 1) = 0)) (SZ : Hid (m.l.length ≤ 1024 ∧ m.sent.length ≤ 4096)) (SZS : Hid (∀ s ∈ m.sent, s.out.length ≤ 1024)) (hok : okM m = true) {L : List Nat} {r : Int} (r0 : r ≠ 0) (f : Hid (chOf (rollAdd m.h m.cap m.l m.n i) = (L, r)))  (A : Option Addr) (c : Nat) (B : Option Addr) (d : Nat) (w : World) (hM : MemM w A c B d m) :
    Calls Try.prog 33 #[.agg #[.int .i64 m.h, .int .i64 m.cap, .slice A m.l.length c, .int .i64 m.n, .int .i64 m.draws, .slice B m.sent.length d], .agg #[.int .i64 1, .int .u64 (i : Int), .int .i64 n, .int .u64 (p1.toNat : Int), .int .u64 (p2.toNat : Int)]] w (DoPost m (ansE r) 0 w) := by
  have t9 : (r != (0 : Int)) = true := bne_iff_ne.2 r0
  have ZX : Hid (Blk ((((w.alloc (.cells #[.int .i64 m.h, .int .i64 m.cap, .slice A m.l.length c, .int .i64 m.n, .int .i64 m.draws, .slice B m.sent.length d] 45)).alloc (.cells #[.int .i64 1, .int .u64 (i : Int), .int .i64 n, .int .u64 (p1.toNat : Int), .int .u64 (p2.toNat : Int)] 53)).alloc (.cells #[.int .i64 0, .int .i64 0, .slice none 0 0, .int .i64 0, .int .i64 0, .slice none 0 0] 45)).alloc (.cells #[.int .i64 0, .int .i64 0, .int .i64 0, .int .u64 0, .int .u64 0] 55)) w.heap.size 45 #[.int .i64 m.h, .int .i64 m.cap, .slice A m.l.length c, .int .i64 m.n, .int .i64 m.draws, .slice B m.sent.length d]) := mkHid ((((Blk.new _ _ _).alloc _).alloc _).alloc _)
  have ZP : Hid (Blk ((((w.alloc (.cells #[.int .i64 m.h, .int .i64 m.cap, .slice A m.l.length c, .int .i64 m.n, .int .i64 m.draws, .slice B m.sent.length d] 45)).alloc (.cells #[.int .i64 1, .int .u64 (i : Int), .int .i64 n, .int .u64 (p1.toNat : Int), .int .u64 (p2.toNat : Int)] 53)).alloc (.cells #[.int .i64 0, .int .i64 0, .slice none 0 0, .int .i64 0, .int .i64 0, .slice none 0 0] 45)).alloc (.cells #[.int .i64 0, .int .i64 0, .int .i64 0, .int .u64 0, .int .u64 0] 55)) (w.heap.size + 1) 53 #[.int .i64 1, .int .u64 (i : Int), .int .i64 n, .int .u64 (p1.toNat : Int), .int .u64 (p2.toNat : Int)]) := mkHid (((Blk.at _ _ _ (by simp)).alloc _).alloc _)
  have ZZ : Hid (Blk ((((w.alloc (.cells #[.int .i64 m.h, .int .i64 m.cap, .slice A m.l.length c, .int .i64 m.n, .int .i64 m.draws, .slice B m.sent.length d] 45)).alloc (.cells #[.int .i64 1, .int .u64 (i : Int), .int .i64 n, .int .u64 (p1.toNat : Int), .int .u64 (p2.toNat : Int)] 53)).alloc (.cells #[.int .i64 0, .int .i64 0, .slice none 0 0, .int .i64 0, .int .i64 0, .slice none 0 0] 45)).alloc (.cells #[.int .i64 0, .int .i64 0, .int .i64 0, .int .u64 0, .int .u64 0] 55)) (w.heap.size + 1 + 1) 45 #[.int .i64 0, .int .i64 0, .slice none 0 0, .int .i64 0, .int .i64 0, .slice none 0 0]) := mkHid ((Blk.at _ _ _ (by simp)).alloc _)
  have ZA : Hid (Blk ((((w.alloc (.cells #[.int .i64 m.h, .int .i64 m.cap, .slice A m.l.length c, .int .i64 m.n, .int .i64 m.draws, .slice B m.sent.length d] 45)).alloc (.cells #[.int .i64 1, .int .u64 (i : Int), .int .i64 n, .int .u64 (p1.toNat : Int), .int .u64 (p2.toNat : Int)] 53)).alloc (.cells #[.int .i64 0, .int .i64 0, .slice none 0 0, .int .i64 0, .int .i64 0, .slice none 0 0] 45)).alloc (.cells #[.int .i64 0, .int .i64 0, .int .i64 0, .int .u64 0, .int .u64 0] 55)) (w.heap.size + 1 + 1 + 1) 55 #[.int .i64 0, .int .i64 0, .int .i64 0, .int .u64 0, .int .u64 0]) := mkHid (Blk.at _ _ _ (by simp))
  have KB : Hid (Below w.heap.size w ((((w.alloc (.cells #[.int .i64 m.h, .int .i64 m.cap, .slice A m.l.length c, .int .i64 m.n, .int .i64 m.draws, .slice B m.sent.length d] 45)).alloc (.cells #[.int .i64 1, .int .u64 (i : Int), .int .i64 n, .int .u64 (p1.toNat : Int), .int .u64 (p2.toNat : Int)] 53)).alloc (.cells #[.int .i64 0, .int .i64 0, .slice none 0 0, .int .i64 0, .int .i64 0, .slice none 0 0] 45)).alloc (.cells #[.int .i64 0, .int .i64 0, .int .i64 0, .int .u64 0, .int .u64 0] 55))) := mkHid (((((Below.refl _ _).alloc (Nat.le_refl _) (.cells #[.int .i64 m.h, .int .i64 m.cap, .slice A m.l.length c, .int .i64 m.n, .int .i64 m.draws, .slice B m.sent.length d] 45)).alloc (by simp) (.cells #[.int .i64 1, .int .u64 (i : Int), .int .i64 n, .int .u64 (p1.toNat : Int), .int .u64 (p2.toNat : Int)] 53)).alloc (by simp; omega) (.cells #[.int .i64 0, .int .i64 0, .slice none 0 0, .int .i64 0, .int .i64 0, .slice none 0 0] 45)).alloc (by simp; omega) (.cells #[.int .i64 0, .int .i64 0, .int .i64 0, .int .u64 0, .int .u64 0] 55))
  have HM := mkHid (hM.below (((((Below.refl _ _).alloc (Nat.le_refl _) (.cells #[.int .i64 m.h, .int .i64 m.cap, .slice A m.l.length c, .int .i64 m.n, .int .i64 m.draws, .slice B m.sent.length d] 45)).alloc (by simp) (.cells #[.int .i64 1, .int .u64 (i : Int), .int .i64 n, .int .u64 (p1.toNat : Int), .int .u64 (p2.toNat : Int)] 53)).alloc (by simp; omega) (.cells #[.int .i64 0, .int .i64 0, .slice none 0 0, .int .i64 0, .int .i64 0, .slice none 0 0] 45)).alloc (by simp; omega) (.cells #[.int .i64 0, .int .i64 0, .int .i64 0, .int .u64 0, .int .u64 0] 55)))
  clear hM
  go_enter Try.func33, Try.ntmps33
  go_upto_region 1 with fail
  generalize ((((w.alloc (.cells #[.int .i64 m.h, .int .i64 m.cap, .slice A m.l.length c, .int .i64 m.n, .int .i64 m.draws, .slice B m.sent.length d] 45)).alloc (.cells #[.int .i64 1, .int .u64 (i : Int), .int .i64 n, .int .u64 (p1.toNat : Int), .int .u64 (p2.toNat : Int)] 53)).alloc (.cells #[.int .i64 0, .int .i64 0, .slice none 0 0, .int .i64 0, .int .i64 0, .slice none 0 0] 45)).alloc (.cells #[.int .i64 0, .int .i64 0, .int .i64 0, .int .u64 0, .int .u64 0] 55)) = w0 at *
  have lZA : w.heap.size + 1 + 1 + 1 < w0.heap.size := ZA.out.lt
  have cX := ZX.out.six
  have cP := ZP.out.five
  go_wp2_with fail
  refine (rmchk e _ _ _ _ _ HM.out.reads HM.out.sents).mono ?_
  rintro e w1 ⟨rfl, hb⟩
  replace ZX := mkHid (ZX.out.keep hb)
  replace ZP := mkHid (ZP.out.keep hb)
  replace ZZ := mkHid (ZZ.out.keep hb)
  replace ZA := mkHid (ZA.out.keep hb)
  replace KB := mkHid (KB.out.step hb)
  replace HM := mkHid (HM.out.below hb)
  clear hb
  clear lZA cX cP
  have lZA : w.heap.size + 1 + 1 + 1 < w1.heap.size := ZA.out.lt
  have cX := ZX.out.six
  have cP := ZP.out.five
  go_wp2_with fail
  refine (rmcopy SZ SZS _ _ _ _ _ HM.out).mono ?_
  rintro e w2 ⟨A1, c1, B1, d1, X1, rfl, ho, hb⟩
  have HO := mkHid (ho.base (b := w.heap.size + 4) (by omega))
  clear ho HM
  replace ZX := mkHid (ZX.out.keep hb)
  replace ZP := mkHid (ZP.out.keep hb)
  replace ZZ := mkHid (ZZ.out.keep hb)
  replace ZA := mkHid (ZA.out.keep hb)
  replace KB := mkHid (KB.out.step hb)
  clear hb
  clear lZA cX cP
  have lZA : w.heap.size + 1 + 1 + 1 < w2.heap.size := ZA.out.lt
  have cX := ZX.out.six
  have cP := ZP.out.five
  have fX0 := ZX.out.frozen 0
  have fX1 := ZX.out.frozen 1
  have fX2 := ZX.out.frozen 2
  have fX3 := ZX.out.frozen 3
  have fX4 := ZX.out.frozen 4
  have fX5 := ZX.out.frozen 5
  go_upto_region 4 with fail
  replace ZX := mkHid (ZX.out.fill6 (b0 := .int .i64 m.h) (b1 := .int .i64 m.cap) (b2 := .slice A1 m.l.length c1) (b3 := .int .i64 m.n) (b4 := .int .i64 m.draws) (b5 := .slice B1 m.sent.length d1))
  replace ZP := mkHid (ZP.out.other6 (g := w.heap.size) (x0 := .int .i64 m.h) (x1 := .int .i64 m.cap) (x2 := .slice A1 m.l.length c1) (x3 := .int .i64 m.n) (x4 := .int .i64 m.draws) (x5 := .slice B1 m.sent.length d1) (by omega))
  replace ZZ := mkHid (ZZ.out.other6 (g := w.heap.size) (x0 := .int .i64 m.h) (x1 := .int .i64 m.cap) (x2 := .slice A1 m.l.length c1) (x3 := .int .i64 m.n) (x4 := .int .i64 m.draws) (x5 := .slice B1 m.sent.length d1) (by omega))
  replace ZA := mkHid (ZA.out.other6 (g := w.heap.size) (x0 := .int .i64 m.h) (x1 := .int .i64 m.cap) (x2 := .slice A1 m.l.length c1) (x3 := .int .i64 m.n) (x4 := .int .i64 m.draws) (x5 := .slice B1 m.sent.length d1) (by omega))
  replace KB := mkHid (below_six KB.out (Nat.le_refl _) (.int .i64 m.h) (.int .i64 m.cap) (.slice A1 m.l.length c1) (.int .i64 m.n) (.int .i64 m.draws) (.slice B1 m.sent.length d1))
  replace HO := mkHid (HO.out.past6 (g := w.heap.size) (by omega) (.int .i64 m.h) (.int .i64 m.cap) (.slice A1 m.l.length c1) (.int .i64 m.n) (.int .i64 m.draws) (.slice B1 m.sent.length d1))
  clear lZA cX cP fX0 fX1 fX2 fX3 fX4 fX5
  generalize ((((((w2.setCell ⟨w.heap.size, 0, none⟩ (.int .i64 m.h)).setCell ⟨w.heap.size, 1, none⟩ (.int .i64 m.cap)).setCell ⟨w.heap.size, 2, none⟩ (.slice A1 m.l.length c1)).setCell ⟨w.heap.size, 3, none⟩ (.int .i64 m.n)).setCell ⟨w.heap.size, 4, none⟩ (.int .i64 m.draws)).setCell ⟨w.heap.size, 5, none⟩ (.slice B1 m.sent.length d1)) = w3 at *
  have lZA : w.heap.size + 1 + 1 + 1 < w3.heap.size := ZA.out.lt
  have cX := ZX.out.six
  have cP := ZP.out.five
  go_wp2_with fail
  refine (rmch1 hok f _ _ _ _ _ HO.out.reads).mono ?_
  rintro e w4 ⟨v, rfl, ho, hb⟩
  have HL := mkHid (RowOf.rebase (a := w.heap.size + 4) ho (by omega))
  clear ho
  obtain ⟨A3, c3, rfl⟩ := HL.out.len
  replace ZX := mkHid (ZX.out.keep hb)
  replace ZP := mkHid (ZP.out.keep hb)
  replace ZZ := mkHid (ZZ.out.keep hb)
  replace ZA := mkHid (ZA.out.keep hb)
  replace KB := mkHid (KB.out.step hb)
  replace HO := mkHid (HO.out.below hb)
  clear hb
  clear lZA cX cP
  have lZA : w.heap.size + 1 + 1 + 1 < w4.heap.size := ZA.out.lt
  have cX := ZX.out.six
  have cP := ZP.out.five
  clear HL
  have cZ := ZZ.out.six
  have cA := ZA.out.five
  have gz0 := ZZ.out.frozen 0
  have gz1 := ZZ.out.frozen 1
  have gz2 := ZZ.out.frozen 2
  have gz3 := ZZ.out.frozen 3
  have gz4 := ZZ.out.frozen 4
  have gz5 := ZZ.out.frozen 5
  have ga0 := ZA.out.frozen 0
  have ga1 := ZA.out.frozen 1
  have ga2 := ZA.out.frozen 2
  have ga3 := ZA.out.frozen 3
  have ga4 := ZA.out.frozen 4
  go_wp2_with fail
  have qR := ((ZZ.out.fill6 (b0 := .int .i64 m.h) (b1 := .int .i64 m.cap) (b2 := .slice A1 m.l.length c1) (b3 := .int .i64 m.n) (b4 := .int .i64 m.draws) (b5 := .slice B1 m.sent.length d1)).other5 (g := (w.heap.size + 1 + 1 + 1)) (x0 := .int .i64 r) (x1 := .int .i64 0) (x2 := .int .i64 0) (x3 := .int .u64 0) (x4 := .int .u64 0) (by omega)).six
  have qA := ((ZA.out.other6 (g := (w.heap.size + 1 + 1)) (x0 := .int .i64 m.h) (x1 := .int .i64 m.cap) (x2 := .slice A1 m.l.length c1) (x3 := .int .i64 m.n) (x4 := .int .i64 m.draws) (x5 := .slice B1 m.sent.length d1) (by omega)).fill5 (b0 := .int .i64 r) (b1 := .int .i64 0) (b2 := .int .i64 0) (b3 := .int .u64 0) (b4 := .int .u64 0)).five
  refine bodyPost_ret (v := .tuple #[.agg #[.int .i64 m.h, .int .i64 m.cap, .slice A1 m.l.length c1, .int .i64 m.n, .int .i64 m.draws, .slice B1 m.sent.length d1], .agg #[.int .i64 r, .int .i64 0, .int .i64 0, .int .u64 0, .int .u64 0], .int .i64 0]) (by simp [results, Try.results33, go_sem, qR, qA]) rfl ⟨_, _, _, _, X1, rfl, OwnM.base (b' := w.heap.size + 4) ?_ (by omega), below_five (below_six KB.out (by omega) _ _ _ _ _ _) (by omega) _ _ _ _ _⟩
  exact (HO.out.past6 (by omega) _ _ _ _ _ _).past5 (by omega) _ _ _ _ _

set_option linter.unusedSimpArgs false in
set_option maxRecDepth 100000 in
set_option maxHeartbeats 4000000 in
theorem rmd1_ok {m : ModD} {i : Nat} {n : Int} {p1 p2 : BitVec 64} (e : Hid ((if okM m then (0 : Int) else 1) = 0)) (SZ : Hid (m.l.length ≤ 1024 ∧ m.sent.length ≤ 4096)) (SZS : Hid (∀ s ∈ m.sent, s.out.length ≤ 1024)) (hok : okM m = true) {L : List Nat} (n0 : 0 ≤ m.n) (n1 : m.n ≤ 1099511627776) (f : Hid (chOf (rollAdd m.h m.cap m.l m.n i) = (L, 0)))  (A : Option Addr) (c : Nat) (B : Option Addr) (d : Nat) (w : World) (hM : MemM w A c B d m) :
    Calls Try.prog 33 #[.agg #[.int .i64 m.h, .int .i64 m.cap, .slice A m.l.length c, .int .i64 m.n, .int .i64 m.draws, .slice B m.sent.length d], .agg #[.int .i64 1, .int .u64 (i : Int), .int .i64 n, .int .u64 (p1.toNat : Int), .int .u64 (p2.toNat : Int)]] w (DoPost { m with l := L, n := m.n + 1 } (ansE 0) 0 w) := by
  skip
  have ZX : Hid (Blk ((((w.alloc (.cells #[.int .i64 m.h, .int .i64 m.cap, .slice A m.l.length c, .int .i64 m.n, .int .i64 m.draws, .slice B m.sent.length d] 45)).alloc (.cells #[.int .i64 1, .int .u64 (i : Int), .int .i64 n, .int .u64 (p1.toNat : Int), .int .u64 (p2.toNat : Int)] 53)).alloc (.cells #[.int .i64 0, .int .i64 0, .slice none 0 0, .int .i64 0, .int .i64 0, .slice none 0 0] 45)).alloc (.cells #[.int .i64 0, .int .i64 0, .int .i64 0, .int .u64 0, .int .u64 0] 55)) w.heap.size 45 #[.int .i64 m.h, .int .i64 m.cap, .slice A m.l.length c, .int .i64 m.n, .int .i64 m.draws, .slice B m.sent.length d]) := mkHid ((((Blk.new _ _ _).alloc _).alloc _).alloc _)
  have ZP : Hid (Blk ((((w.alloc (.cells #[.int .i64 m.h, .int .i64 m.cap, .slice A m.l.length c, .int .i64 m.n, .int .i64 m.draws, .slice B m.sent.length d] 45)).alloc (.cells #[.int .i64 1, .int .u64 (i : Int), .int .i64 n, .int .u64 (p1.toNat : Int), .int .u64 (p2.toNat : Int)] 53)).alloc (.cells #[.int .i64 0, .int .i64 0, .slice none 0 0, .int .i64 0, .int .i64 0, .slice none 0 0] 45)).alloc (.cells #[.int .i64 0, .int .i64 0, .int .i64 0, .int .u64 0, .int .u64 0] 55)) (w.heap.size + 1) 53 #[.int .i64 1, .int .u64 (i : Int), .int .i64 n, .int .u64 (p1.toNat : Int), .int .u64 (p2.toNat : Int)]) := mkHid (((Blk.at _ _ _ (by simp)).alloc _).alloc _)
  have ZZ : Hid (Blk ((((w.alloc (.cells #[.int .i64 m.h, .int .i64 m.cap, .slice A m.l.length c, .int .i64 m.n, .int .i64 m.draws, .slice B m.sent.length d] 45)).alloc (.cells #[.int .i64 1, .int .u64 (i : Int), .int .i64 n, .int .u64 (p1.toNat : Int), .int .u64 (p2.toNat : Int)] 53)).alloc (.cells #[.int .i64 0, .int .i64 0, .slice none 0 0, .int .i64 0, .int .i64 0, .slice none 0 0] 45)).alloc (.cells #[.int .i64 0, .int .i64 0, .int .i64 0, .int .u64 0, .int .u64 0] 55)) (w.heap.size + 1 + 1) 45 #[.int .i64 0, .int .i64 0, .slice none 0 0, .int .i64 0, .int .i64 0, .slice none 0 0]) := mkHid ((Blk.at _ _ _ (by simp)).alloc _)
  have ZA : Hid (Blk ((((w.alloc (.cells #[.int .i64 m.h, .int .i64 m.cap, .slice A m.l.length c, .int .i64 m.n, .int .i64 m.draws, .slice B m.sent.length d] 45)).alloc (.cells #[.int .i64 1, .int .u64 (i : Int), .int .i64 n, .int .u64 (p1.toNat : Int), .int .u64 (p2.toNat : Int)] 53)).alloc (.cells #[.int .i64 0, .int .i64 0, .slice none 0 0, .int .i64 0, .int .i64 0, .slice none 0 0] 45)).alloc (.cells #[.int .i64 0, .int .i64 0, .int .i64 0, .int .u64 0, .int .u64 0] 55)) (w.heap.size + 1 + 1 + 1) 55 #[.int .i64 0, .int .i64 0, .int .i64 0, .int .u64 0, .int .u64 0]) := mkHid (Blk.at _ _ _ (by simp))
  have KB : Hid (Below w.heap.size w ((((w.alloc (.cells #[.int .i64 m.h, .int .i64 m.cap, .slice A m.l.length c, .int .i64 m.n, .int .i64 m.draws, .slice B m.sent.length d] 45)).alloc (.cells #[.int .i64 1, .int .u64 (i : Int), .int .i64 n, .int .u64 (p1.toNat : Int), .int .u64 (p2.toNat : Int)] 53)).alloc (.cells #[.int .i64 0, .int .i64 0, .slice none 0 0, .int .i64 0, .int .i64 0, .slice none 0 0] 45)).alloc (.cells #[.int .i64 0, .int .i64 0, .int .i64 0, .int .u64 0, .int .u64 0] 55))) := mkHid (((((Below.refl _ _).alloc (Nat.le_refl _) (.cells #[.int .i64 m.h, .int .i64 m.cap, .slice A m.l.length c, .int .i64 m.n, .int .i64 m.draws, .slice B m.sent.length d] 45)).alloc (by simp) (.cells #[.int .i64 1, .int .u64 (i : Int), .int .i64 n, .int .u64 (p1.toNat : Int), .int .u64 (p2.toNat : Int)] 53)).alloc (by simp; omega) (.cells #[.int .i64 0, .int .i64 0, .slice none 0 0, .int .i64 0, .int .i64 0, .slice none 0 0] 45)).alloc (by simp; omega) (.cells #[.int .i64 0, .int .i64 0, .int .i64 0, .int .u64 0, .int .u64 0] 55))
  have HM := mkHid (hM.below (((((Below.refl _ _).alloc (Nat.le_refl _) (.cells #[.int .i64 m.h, .int .i64 m.cap, .slice A m.l.length c, .int .i64 m.n, .int .i64 m.draws, .slice B m.sent.length d] 45)).alloc (by simp) (.cells #[.int .i64 1, .int .u64 (i : Int), .int .i64 n, .int .u64 (p1.toNat : Int), .int .u64 (p2.toNat : Int)] 53)).alloc (by simp; omega) (.cells #[.int .i64 0, .int .i64 0, .slice none 0 0, .int .i64 0, .int .i64 0, .slice none 0 0] 45)).alloc (by simp; omega) (.cells #[.int .i64 0, .int .i64 0, .int .i64 0, .int .u64 0, .int .u64 0] 55)))
  clear hM
  go_enter Try.func33, Try.ntmps33
  go_upto_region 1 with fail
  generalize ((((w.alloc (.cells #[.int .i64 m.h, .int .i64 m.cap, .slice A m.l.length c, .int .i64 m.n, .int .i64 m.draws, .slice B m.sent.length d] 45)).alloc (.cells #[.int .i64 1, .int .u64 (i : Int), .int .i64 n, .int .u64 (p1.toNat : Int), .int .u64 (p2.toNat : Int)] 53)).alloc (.cells #[.int .i64 0, .int .i64 0, .slice none 0 0, .int .i64 0, .int .i64 0, .slice none 0 0] 45)).alloc (.cells #[.int .i64 0, .int .i64 0, .int .i64 0, .int .u64 0, .int .u64 0] 55)) = w0 at *
  have lZA : w.heap.size + 1 + 1 + 1 < w0.heap.size := ZA.out.lt
  have cX := ZX.out.six
  have cP := ZP.out.five
  go_wp2_with fail
  refine (rmchk e _ _ _ _ _ HM.out.reads HM.out.sents).mono ?_
  rintro e w1 ⟨rfl, hb⟩
  replace ZX := mkHid (ZX.out.keep hb)
  replace ZP := mkHid (ZP.out.keep hb)
  replace ZZ := mkHid (ZZ.out.keep hb)
  replace ZA := mkHid (ZA.out.keep hb)
  replace KB := mkHid (KB.out.step hb)
  replace HM := mkHid (HM.out.below hb)
  clear hb
  clear lZA cX cP
  have lZA : w.heap.size + 1 + 1 + 1 < w1.heap.size := ZA.out.lt
  have cX := ZX.out.six
  have cP := ZP.out.five
  go_wp2_with fail
  refine (rmcopy SZ SZS _ _ _ _ _ HM.out).mono ?_
  rintro e w2 ⟨A1, c1, B1, d1, X1, rfl, ho, hb⟩
  have HO := mkHid (ho.base (b := w.heap.size + 4) (by omega))
  clear ho HM
  replace ZX := mkHid (ZX.out.keep hb)
  replace ZP := mkHid (ZP.out.keep hb)
  replace ZZ := mkHid (ZZ.out.keep hb)
  replace ZA := mkHid (ZA.out.keep hb)
  replace KB := mkHid (KB.out.step hb)
  clear hb
  clear lZA cX cP
  have lZA : w.heap.size + 1 + 1 + 1 < w2.heap.size := ZA.out.lt
  have cX := ZX.out.six
  have cP := ZP.out.five
  have fX0 := ZX.out.frozen 0
  have fX1 := ZX.out.frozen 1
  have fX2 := ZX.out.frozen 2
  have fX3 := ZX.out.frozen 3
  have fX4 := ZX.out.frozen 4
  have fX5 := ZX.out.frozen 5
  go_upto_region 4 with fail
  replace ZX := mkHid (ZX.out.fill6 (b0 := .int .i64 m.h) (b1 := .int .i64 m.cap) (b2 := .slice A1 m.l.length c1) (b3 := .int .i64 m.n) (b4 := .int .i64 m.draws) (b5 := .slice B1 m.sent.length d1))
  replace ZP := mkHid (ZP.out.other6 (g := w.heap.size) (x0 := .int .i64 m.h) (x1 := .int .i64 m.cap) (x2 := .slice A1 m.l.length c1) (x3 := .int .i64 m.n) (x4 := .int .i64 m.draws) (x5 := .slice B1 m.sent.length d1) (by omega))
  replace ZZ := mkHid (ZZ.out.other6 (g := w.heap.size) (x0 := .int .i64 m.h) (x1 := .int .i64 m.cap) (x2 := .slice A1 m.l.length c1) (x3 := .int .i64 m.n) (x4 := .int .i64 m.draws) (x5 := .slice B1 m.sent.length d1) (by omega))
  replace ZA := mkHid (ZA.out.other6 (g := w.heap.size) (x0 := .int .i64 m.h) (x1 := .int .i64 m.cap) (x2 := .slice A1 m.l.length c1) (x3 := .int .i64 m.n) (x4 := .int .i64 m.draws) (x5 := .slice B1 m.sent.length d1) (by omega))
  replace KB := mkHid (below_six KB.out (Nat.le_refl _) (.int .i64 m.h) (.int .i64 m.cap) (.slice A1 m.l.length c1) (.int .i64 m.n) (.int .i64 m.draws) (.slice B1 m.sent.length d1))
  replace HO := mkHid (HO.out.past6 (g := w.heap.size) (by omega) (.int .i64 m.h) (.int .i64 m.cap) (.slice A1 m.l.length c1) (.int .i64 m.n) (.int .i64 m.draws) (.slice B1 m.sent.length d1))
  clear lZA cX cP fX0 fX1 fX2 fX3 fX4 fX5
  generalize ((((((w2.setCell ⟨w.heap.size, 0, none⟩ (.int .i64 m.h)).setCell ⟨w.heap.size, 1, none⟩ (.int .i64 m.cap)).setCell ⟨w.heap.size, 2, none⟩ (.slice A1 m.l.length c1)).setCell ⟨w.heap.size, 3, none⟩ (.int .i64 m.n)).setCell ⟨w.heap.size, 4, none⟩ (.int .i64 m.draws)).setCell ⟨w.heap.size, 5, none⟩ (.slice B1 m.sent.length d1)) = w3 at *
  have lZA : w.heap.size + 1 + 1 + 1 < w3.heap.size := ZA.out.lt
  have cX := ZX.out.six
  have cP := ZP.out.five
  go_wp2_with fail
  refine (rmch1 hok f _ _ _ _ _ HO.out.reads).mono ?_
  rintro e w4 ⟨v, rfl, ho, hb⟩
  have HL := mkHid (RowOf.rebase (a := w.heap.size + 4) ho (by omega))
  clear ho
  obtain ⟨A3, c3, rfl⟩ := HL.out.len
  replace ZX := mkHid (ZX.out.keep hb)
  replace ZP := mkHid (ZP.out.keep hb)
  replace ZZ := mkHid (ZZ.out.keep hb)
  replace ZA := mkHid (ZA.out.keep hb)
  replace KB := mkHid (KB.out.step hb)
  replace HO := mkHid (HO.out.below hb)
  clear hb
  clear lZA cX cP
  have lZA : w.heap.size + 1 + 1 + 1 < w4.heap.size := ZA.out.lt
  have cX := ZX.out.six
  have cP := ZP.out.five
  have fX2 := ZX.out.frozen 2
  have fX3 := ZX.out.frozen 3
  go_upto_region 23 with fail
  replace ZX := mkHid ((ZX.out.set 2 (.slice A3 L.length c3)).set 3 (.int .i64 (m.n + 1)))
  replace ZX : Hid (Blk ((w4.setCell ⟨w.heap.size, 2, none⟩ (.slice A3 L.length c3)).setCell ⟨w.heap.size, 3, none⟩ (.int .i64 (m.n + 1))) w.heap.size 45 #[.int .i64 m.h, .int .i64 m.cap, .slice A3 L.length c3, .int .i64 (m.n + 1), .int .i64 m.draws, .slice B1 m.sent.length d1]) := ZX
  replace ZZ := mkHid ((ZZ.out.other (m := w.heap.size) (i := 2) (.slice A3 L.length c3) (by omega)).other (m := w.heap.size) (i := 3) (.int .i64 (m.n + 1)) (by omega))
  replace ZA := mkHid ((ZA.out.other (m := w.heap.size) (i := 2) (.slice A3 L.length c3) (by omega)).other (m := w.heap.size) (i := 3) (.int .i64 (m.n + 1)) (by omega))
  replace ZP := mkHid ((ZP.out.other (m := w.heap.size) (i := 2) (.slice A3 L.length c3) (by omega)).other (m := w.heap.size) (i := 3) (.int .i64 (m.n + 1)) (by omega))
  replace KB : Hid (Below w.heap.size w ((w4.setCell ⟨w.heap.size, 2, none⟩ (.slice A3 L.length c3)).setCell ⟨w.heap.size, 3, none⟩ (.int .i64 (m.n + 1)))) := mkHid ((KB.out.setCell (p := ⟨w.heap.size, 2, none⟩) (Nat.le_refl _) _).setCell (p := ⟨w.heap.size, 3, none⟩) (Nat.le_refl _) _)
  replace HO := mkHid (((HO.out.newL (k := m.n + 1) HL.out).past (g := w.heap.size) (by omega) 2 (.slice A3 L.length c3)).past (g := w.heap.size) (by omega) 3 (.int .i64 (m.n + 1)))
  clear lZA cX cP fX2 fX3 HL
  generalize ((w4.setCell ⟨w.heap.size, 2, none⟩ (.slice A3 L.length c3)).setCell ⟨w.heap.size, 3, none⟩ (.int .i64 (m.n + 1))) = w5 at *
  have lZA : w.heap.size + 1 + 1 + 1 < w5.heap.size := ZA.out.lt
  have cX := ZX.out.six
  have cP := ZP.out.five
  have cZ := ZZ.out.six
  have cA := ZA.out.five
  have gz0 := ZZ.out.frozen 0
  have gz1 := ZZ.out.frozen 1
  have gz2 := ZZ.out.frozen 2
  have gz3 := ZZ.out.frozen 3
  have gz4 := ZZ.out.frozen 4
  have gz5 := ZZ.out.frozen 5
  have ga0 := ZA.out.frozen 0
  have ga1 := ZA.out.frozen 1
  have ga2 := ZA.out.frozen 2
  have ga3 := ZA.out.frozen 3
  have ga4 := ZA.out.frozen 4
  go_wp2_with fail
  have qR := ((ZZ.out.fill6 (b0 := .int .i64 m.h) (b1 := .int .i64 m.cap) (b2 := .slice A3 L.length c3) (b3 := .int .i64 (m.n + 1)) (b4 := .int .i64 m.draws) (b5 := .slice B1 m.sent.length d1)).other5 (g := (w.heap.size + 1 + 1 + 1)) (x0 := .int .i64 0) (x1 := .int .i64 0) (x2 := .int .i64 0) (x3 := .int .u64 0) (x4 := .int .u64 0) (by omega)).six
  have qA := ((ZA.out.other6 (g := (w.heap.size + 1 + 1)) (x0 := .int .i64 m.h) (x1 := .int .i64 m.cap) (x2 := .slice A3 L.length c3) (x3 := .int .i64 (m.n + 1)) (x4 := .int .i64 m.draws) (x5 := .slice B1 m.sent.length d1) (by omega)).fill5 (b0 := .int .i64 0) (b1 := .int .i64 0) (b2 := .int .i64 0) (b3 := .int .u64 0) (b4 := .int .u64 0)).five
  refine bodyPost_ret (v := .tuple #[.agg #[.int .i64 m.h, .int .i64 m.cap, .slice A3 L.length c3, .int .i64 (m.n + 1), .int .i64 m.draws, .slice B1 m.sent.length d1], .agg #[.int .i64 0, .int .i64 0, .int .i64 0, .int .u64 0, .int .u64 0], .int .i64 0]) (by simp [results, Try.results33, go_sem, qR, qA]) rfl ⟨_, _, _, _, X1, rfl, OwnM.base (b' := w.heap.size + 4) ?_ (by omega), below_five (below_six KB.out (by omega) _ _ _ _ _ _) (by omega) _ _ _ _ _⟩
  exact (HO.out.past6 (by omega) _ _ _ _ _ _).past5 (by omega) _ _ _ _ _

set_option linter.unusedSimpArgs false in
set_option maxRecDepth 100000 in
set_option maxHeartbeats 4000000 in
theorem rmd2_no {m : ModD} {i : Nat} {n : Int} {p1 p2 : BitVec 64} (e : Hid ((if okM m then (0 : Int) else 1) = 0)) (SZ : Hid (m.l.length ≤ 1024 ∧ m.sent.length ≤ 4096)) (SZS : Hid (∀ s ∈ m.sent, s.out.length ≤ 1024)) (hok : okM m = true) {L : List Nat} {r : Int} (r0 : r ≠ 0) (f : Hid (chOf (rollDel m.h m.cap m.l m.n i) = (L, r)))  (A : Option Addr) (c : Nat) (B : Option Addr) (d : Nat) (w : World) (hM : MemM w A c B d m) :
    Calls Try.prog 33 #[.agg #[.int .i64 m.h, .int .i64 m.cap, .slice A m.l.length c, .int .i64 m.n, .int .i64 m.draws, .slice B m.sent.length d], .agg #[.int .i64 2, .int .u64 (i : Int), .int .i64 n, .int .u64 (p1.toNat : Int), .int .u64 (p2.toNat : Int)]] w (DoPost m (ansE r) 0 w) := by
  have t9 : (r != (0 : Int)) = true := bne_iff_ne.2 r0
  have ZX : Hid (Blk ((((w.alloc (.cells #[.int .i64 m.h, .int .i64 m.cap, .slice A m.l.length c, .int .i64 m.n, .int .i64 m.draws, .slice B m.sent.length d] 45)).alloc (.cells #[.int .i64 2, .int .u64 (i : Int), .int .i64 n, .int .u64 (p1.toNat : Int), .int .u64 (p2.toNat : Int)] 53)).alloc (.cells #[.int .i64 0, .int .i64 0, .slice none 0 0, .int .i64 0, .int .i64 0, .slice none 0 0] 45)).alloc (.cells #[.int .i64 0, .int .i64 0, .int .i64 0, .int .u64 0, .int .u64 0] 55)) w.heap.size 45 #[.int .i64 m.h, .int .i64 m.cap, .slice A m.l.length c, .int .i64 m.n, .int .i64 m.draws, .slice B m.sent.length d]) := mkHid ((((Blk.new _ _ _).alloc _).alloc _).alloc _)
  have ZP : Hid (Blk ((((w.alloc (.cells #[.int .i64 m.h, .int .i64 m.cap, .slice A m.l.length c, .int .i64 m.n, .int .i64 m.draws, .slice B m.sent.length d] 45)).alloc (.cells #[.int .i64 2, .int .u64 (i : Int), .int .i64 n, .int .u64 (p1.toNat : Int), .int .u64 (p2.toNat : Int)] 53)).alloc (.cells #[.int .i64 0, .int .i64 0, .slice none 0 0, .int .i64 0, .int .i64 0, .slice none 0 0] 45)).alloc (.cells #[.int .i64 0, .int .i64 0, .int .i64 0, .int .u64 0, .int .u64 0] 55)) (w.heap.size + 1) 53 #[.int .i64 2, .int .u64 (i : Int), .int .i64 n, .int .u64 (p1.toNat : Int), .int .u64 (p2.toNat : Int)]) := mkHid (((Blk.at _ _ _ (by simp)).alloc _).alloc _)
  have ZZ : Hid (Blk ((((w.alloc (.cells #[.int .i64 m.h, .int .i64 m.cap, .slice A m.l.length c, .int .i64 m.n, .int .i64 m.draws, .slice B m.sent.length d] 45)).alloc (.cells #[.int .i64 2, .int .u64 (i : Int), .int .i64 n, .int .u64 (p1.toNat : Int), .int .u64 (p2.toNat : Int)] 53)).alloc (.cells #[.int .i64 0, .int .i64 0, .slice none 0 0, .int .i64 0, .int .i64 0, .slice none 0 0] 45)).alloc (.cells #[.int .i64 0, .int .i64 0, .int .i64 0, .int .u64 0, .int .u64 0] 55)) (w.heap.size + 1 + 1) 45 #[.int .i64 0, .int .i64 0, .slice none 0 0, .int .i64 0, .int .i64 0, .slice none 0 0]) := mkHid ((Blk.at _ _ _ (by simp)).alloc _)
  have ZA : Hid (Blk ((((w.alloc (.cells #[.int .i64 m.h, .int .i64 m.cap, .slice A m.l.length c, .int .i64 m.n, .int .i64 m.draws, .slice B m.sent.length d] 45)).alloc (.cells #[.int .i64 2, .int .u64 (i : Int), .int .i64 n, .int .u64 (p1.toNat : Int), .int .u64 (p2.toNat : Int)] 53)).alloc (.cells #[.int .i64 0, .int .i64 0, .slice none 0 0, .int .i64 0, .int .i64 0, .slice none 0 0] 45)).alloc (.cells #[.int .i64 0, .int .i64 0, .int .i64 0, .int .u64 0, .int .u64 0] 55)) (w.heap.size + 1 + 1 + 1) 55 #[.int .i64 0, .int .i64 0, .int .i64 0, .int .u64 0, .int .u64 0]) := mkHid (Blk.at _ _ _ (by simp))
  have KB : Hid (Below w.heap.size w ((((w.alloc (.cells #[.int .i64 m.h, .int .i64 m.cap, .slice A m.l.length c, .int .i64 m.n, .int .i64 m.draws, .slice B m.sent.length d] 45)).alloc (.cells #[.int .i64 2, .int .u64 (i : Int), .int .i64 n, .int .u64 (p1.toNat : Int), .int .u64 (p2.toNat : Int)] 53)).alloc (.cells #[.int .i64 0, .int .i64 0, .slice none 0 0, .int .i64 0, .int .i64 0, .slice none 0 0] 45)).alloc (.cells #[.int .i64 0, .int .i64 0, .int .i64 0, .int .u64 0, .int .u64 0] 55))) := mkHid (((((Below.refl _ _).alloc (Nat.le_refl _) (.cells #[.int .i64 m.h, .int .i64 m.cap, .slice A m.l.length c, .int .i64 m.n, .int .i64 m.draws, .slice B m.sent.length d] 45)).alloc (by simp) (.cells #[.int .i64 2, .int .u64 (i : Int), .int .i64 n, .int .u64 (p1.toNat : Int), .int .u64 (p2.toNat : Int)] 53)).alloc (by simp; omega) (.cells #[.int .i64 0, .int .i64 0, .slice none 0 0, .int .i64 0, .int .i64 0, .slice none 0 0] 45)).alloc (by simp; omega) (.cells #[.int .i64 0, .int .i64 0, .int .i64 0, .int .u64 0, .int .u64 0] 55))
  have HM := mkHid (hM.below (((((Below.refl _ _).alloc (Nat.le_refl _) (.cells #[.int .i64 m.h, .int .i64 m.cap, .slice A m.l.length c, .int .i64 m.n, .int .i64 m.draws, .slice B m.sent.length d] 45)).alloc (by simp) (.cells #[.int .i64 2, .int .u64 (i : Int), .int .i64 n, .int .u64 (p1.toNat : Int), .int .u64 (p2.toNat : Int)] 53)).alloc (by simp; omega) (.cells #[.int .i64 0, .int .i64 0, .slice none 0 0, .int .i64 0, .int .i64 0, .slice none 0 0] 45)).alloc (by simp; omega) (.cells #[.int .i64 0, .int .i64 0, .int .i64 0, .int .u64 0, .int .u64 0] 55)))
  clear hM
  go_enter Try.func33, Try.ntmps33
  go_upto_region 1 with fail
  generalize ((((w.alloc (.cells #[.int .i64 m.h, .int .i64 m.cap, .slice A m.l.length c, .int .i64 m.n, .int .i64 m.draws, .slice B m.sent.length d] 45)).alloc (.cells #[.int .i64 2, .int .u64 (i : Int), .int .i64 n, .int .u64 (p1.toNat : Int), .int .u64 (p2.toNat : Int)] 53)).alloc (.cells #[.int .i64 0, .int .i64 0, .slice none 0 0, .int .i64 0, .int .i64 0, .slice none 0 0] 45)).alloc (.cells #[.int .i64 0, .int .i64 0, .int .i64 0, .int .u64 0, .int .u64 0] 55)) = w0 at *
  have lZA : w.heap.size + 1 + 1 + 1 < w0.heap.size := ZA.out.lt
  have cX := ZX.out.six
  have cP := ZP.out.five
  go_wp2_with fail
  refine (rmchk e _ _ _ _ _ HM.out.reads HM.out.sents).mono ?_
  rintro e w1 ⟨rfl, hb⟩
  replace ZX := mkHid (ZX.out.keep hb)
  replace ZP := mkHid (ZP.out.keep hb)
  replace ZZ := mkHid (ZZ.out.keep hb)
  replace ZA := mkHid (ZA.out.keep hb)
  replace KB := mkHid (KB.out.step hb)
  replace HM := mkHid (HM.out.below hb)
  clear hb
  clear lZA cX cP
  have lZA : w.heap.size + 1 + 1 + 1 < w1.heap.size := ZA.out.lt
  have cX := ZX.out.six
  have cP := ZP.out.five
  go_wp2_with fail
  refine (rmcopy SZ SZS _ _ _ _ _ HM.out).mono ?_
  rintro e w2 ⟨A1, c1, B1, d1, X1, rfl, ho, hb⟩
  have HO := mkHid (ho.base (b := w.heap.size + 4) (by omega))
  clear ho HM
  replace ZX := mkHid (ZX.out.keep hb)
  replace ZP := mkHid (ZP.out.keep hb)
  replace ZZ := mkHid (ZZ.out.keep hb)
  replace ZA := mkHid (ZA.out.keep hb)
  replace KB := mkHid (KB.out.step hb)
  clear hb
  clear lZA cX cP
  have lZA : w.heap.size + 1 + 1 + 1 < w2.heap.size := ZA.out.lt
  have cX := ZX.out.six
  have cP := ZP.out.five
  have fX0 := ZX.out.frozen 0
  have fX1 := ZX.out.frozen 1
  have fX2 := ZX.out.frozen 2
  have fX3 := ZX.out.frozen 3
  have fX4 := ZX.out.frozen 4
  have fX5 := ZX.out.frozen 5
  go_upto_region 4 with fail
  replace ZX := mkHid (ZX.out.fill6 (b0 := .int .i64 m.h) (b1 := .int .i64 m.cap) (b2 := .slice A1 m.l.length c1) (b3 := .int .i64 m.n) (b4 := .int .i64 m.draws) (b5 := .slice B1 m.sent.length d1))
  replace ZP := mkHid (ZP.out.other6 (g := w.heap.size) (x0 := .int .i64 m.h) (x1 := .int .i64 m.cap) (x2 := .slice A1 m.l.length c1) (x3 := .int .i64 m.n) (x4 := .int .i64 m.draws) (x5 := .slice B1 m.sent.length d1) (by omega))
  replace ZZ := mkHid (ZZ.out.other6 (g := w.heap.size) (x0 := .int .i64 m.h) (x1 := .int .i64 m.cap) (x2 := .slice A1 m.l.length c1) (x3 := .int .i64 m.n) (x4 := .int .i64 m.draws) (x5 := .slice B1 m.sent.length d1) (by omega))
  replace ZA := mkHid (ZA.out.other6 (g := w.heap.size) (x0 := .int .i64 m.h) (x1 := .int .i64 m.cap) (x2 := .slice A1 m.l.length c1) (x3 := .int .i64 m.n) (x4 := .int .i64 m.draws) (x5 := .slice B1 m.sent.length d1) (by omega))
  replace KB := mkHid (below_six KB.out (Nat.le_refl _) (.int .i64 m.h) (.int .i64 m.cap) (.slice A1 m.l.length c1) (.int .i64 m.n) (.int .i64 m.draws) (.slice B1 m.sent.length d1))
  replace HO := mkHid (HO.out.past6 (g := w.heap.size) (by omega) (.int .i64 m.h) (.int .i64 m.cap) (.slice A1 m.l.length c1) (.int .i64 m.n) (.int .i64 m.draws) (.slice B1 m.sent.length d1))
  clear lZA cX cP fX0 fX1 fX2 fX3 fX4 fX5
  generalize ((((((w2.setCell ⟨w.heap.size, 0, none⟩ (.int .i64 m.h)).setCell ⟨w.heap.size, 1, none⟩ (.int .i64 m.cap)).setCell ⟨w.heap.size, 2, none⟩ (.slice A1 m.l.length c1)).setCell ⟨w.heap.size, 3, none⟩ (.int .i64 m.n)).setCell ⟨w.heap.size, 4, none⟩ (.int .i64 m.draws)).setCell ⟨w.heap.size, 5, none⟩ (.slice B1 m.sent.length d1)) = w3 at *
  have lZA : w.heap.size + 1 + 1 + 1 < w3.heap.size := ZA.out.lt
  have cX := ZX.out.six
  have cP := ZP.out.five
  go_wp2_with fail
  refine (rmch2 hok f _ _ _ _ _ HO.out.reads).mono ?_
  rintro e w4 ⟨v, rfl, ho, hb⟩
  have HL := mkHid (RowOf.rebase (a := w.heap.size + 4) ho (by omega))
  clear ho
  obtain ⟨A3, c3, rfl⟩ := HL.out.len
  replace ZX := mkHid (ZX.out.keep hb)
  replace ZP := mkHid (ZP.out.keep hb)
  replace ZZ := mkHid (ZZ.out.keep hb)
  replace ZA := mkHid (ZA.out.keep hb)
  replace KB := mkHid (KB.out.step hb)
  replace HO := mkHid (HO.out.below hb)
  clear hb
  clear lZA cX cP
  have lZA : w.heap.size + 1 + 1 + 1 < w4.heap.size := ZA.out.lt
  have cX := ZX.out.six
  have cP := ZP.out.five
  clear HL
  have cZ := ZZ.out.six
  have cA := ZA.out.five
  have gz0 := ZZ.out.frozen 0
  have gz1 := ZZ.out.frozen 1
  have gz2 := ZZ.out.frozen 2
  have gz3 := ZZ.out.frozen 3
  have gz4 := ZZ.out.frozen 4
  have gz5 := ZZ.out.frozen 5
  have ga0 := ZA.out.frozen 0
  have ga1 := ZA.out.frozen 1
  have ga2 := ZA.out.frozen 2
  have ga3 := ZA.out.frozen 3
  have ga4 := ZA.out.frozen 4
  go_wp2_with fail
  have qR := ((ZZ.out.fill6 (b0 := .int .i64 m.h) (b1 := .int .i64 m.cap) (b2 := .slice A1 m.l.length c1) (b3 := .int .i64 m.n) (b4 := .int .i64 m.draws) (b5 := .slice B1 m.sent.length d1)).other5 (g := (w.heap.size + 1 + 1 + 1)) (x0 := .int .i64 r) (x1 := .int .i64 0) (x2 := .int .i64 0) (x3 := .int .u64 0) (x4 := .int .u64 0) (by omega)).six
  have qA := ((ZA.out.other6 (g := (w.heap.size + 1 + 1)) (x0 := .int .i64 m.h) (x1 := .int .i64 m.cap) (x2 := .slice A1 m.l.length c1) (x3 := .int .i64 m.n) (x4 := .int .i64 m.draws) (x5 := .slice B1 m.sent.length d1) (by omega)).fill5 (b0 := .int .i64 r) (b1 := .int .i64 0) (b2 := .int .i64 0) (b3 := .int .u64 0) (b4 := .int .u64 0)).five
  refine bodyPost_ret (v := .tuple #[.agg #[.int .i64 m.h, .int .i64 m.cap, .slice A1 m.l.length c1, .int .i64 m.n, .int .i64 m.draws, .slice B1 m.sent.length d1], .agg #[.int .i64 r, .int .i64 0, .int .i64 0, .int .u64 0, .int .u64 0], .int .i64 0]) (by simp [results, Try.results33, go_sem, qR, qA]) rfl ⟨_, _, _, _, X1, rfl, OwnM.base (b' := w.heap.size + 4) ?_ (by omega), below_five (below_six KB.out (by omega) _ _ _ _ _ _) (by omega) _ _ _ _ _⟩
  exact (HO.out.past6 (by omega) _ _ _ _ _ _).past5 (by omega) _ _ _ _ _

set_option linter.unusedSimpArgs false in
set_option maxRecDepth 100000 in
set_option maxHeartbeats 4000000 in
theorem rmd2_ok {m : ModD} {i : Nat} {n : Int} {p1 p2 : BitVec 64} (e : Hid ((if okM m then (0 : Int) else 1) = 0)) (SZ : Hid (m.l.length ≤ 1024 ∧ m.sent.length ≤ 4096)) (SZS : Hid (∀ s ∈ m.sent, s.out.length ≤ 1024)) (hok : okM m = true) {L : List Nat} (n0 : 0 ≤ m.n) (n1 : m.n ≤ 1099511627776) (f : Hid (chOf (rollDel m.h m.cap m.l m.n i) = (L, 0)))  (A : Option Addr) (c : Nat) (B : Option Addr) (d : Nat) (w : World) (hM : MemM w A c B d m) :
    Calls Try.prog 33 #[.agg #[.int .i64 m.h, .int .i64 m.cap, .slice A m.l.length c, .int .i64 m.n, .int .i64 m.draws, .slice B m.sent.length d], .agg #[.int .i64 2, .int .u64 (i : Int), .int .i64 n, .int .u64 (p1.toNat : Int), .int .u64 (p2.toNat : Int)]] w (DoPost { m with l := L, n := m.n + 1 } (ansE 0) 0 w) := by
  skip
  have ZX : Hid (Blk ((((w.alloc (.cells #[.int .i64 m.h, .int .i64 m.cap, .slice A m.l.length c, .int .i64 m.n, .int .i64 m.draws, .slice B m.sent.length d] 45)).alloc (.cells #[.int .i64 2, .int .u64 (i : Int), .int .i64 n, .int .u64 (p1.toNat : Int), .int .u64 (p2.toNat : Int)] 53)).alloc (.cells #[.int .i64 0, .int .i64 0, .slice none 0 0, .int .i64 0, .int .i64 0, .slice none 0 0] 45)).alloc (.cells #[.int .i64 0, .int .i64 0, .int .i64 0, .int .u64 0, .int .u64 0] 55)) w.heap.size 45 #[.int .i64 m.h, .int .i64 m.cap, .slice A m.l.length c, .int .i64 m.n, .int .i64 m.draws, .slice B m.sent.length d]) := mkHid ((((Blk.new _ _ _).alloc _).alloc _).alloc _)
  have ZP : Hid (Blk ((((w.alloc (.cells #[.int .i64 m.h, .int .i64 m.cap, .slice A m.l.length c, .int .i64 m.n, .int .i64 m.draws, .slice B m.sent.length d] 45)).alloc (.cells #[.int .i64 2, .int .u64 (i : Int), .int .i64 n, .int .u64 (p1.toNat : Int), .int .u64 (p2.toNat : Int)] 53)).alloc (.cells #[.int .i64 0, .int .i64 0, .slice none 0 0, .int .i64 0, .int .i64 0, .slice none 0 0] 45)).alloc (.cells #[.int .i64 0, .int .i64 0, .int .i64 0, .int .u64 0, .int .u64 0] 55)) (w.heap.size + 1) 53 #[.int .i64 2, .int .u64 (i : Int), .int .i64 n, .int .u64 (p1.toNat : Int), .int .u64 (p2.toNat : Int)]) := mkHid (((Blk.at _ _ _ (by simp)).alloc _).alloc _)
  have ZZ : Hid (Blk ((((w.alloc (.cells #[.int .i64 m.h, .int .i64 m.cap, .slice A m.l.length c, .int .i64 m.n, .int .i64 m.draws, .slice B m.sent.length d] 45)).alloc (.cells #[.int .i64 2, .int .u64 (i : Int), .int .i64 n, .int .u64 (p1.toNat : Int), .int .u64 (p2.toNat : Int)] 53)).alloc (.cells #[.int .i64 0, .int .i64 0, .slice none 0 0, .int .i64 0, .int .i64 0, .slice none 0 0] 45)).alloc (.cells #[.int .i64 0, .int .i64 0, .int .i64 0, .int .u64 0, .int .u64 0] 55)) (w.heap.size + 1 + 1) 45 #[.int .i64 0, .int .i64 0, .slice none 0 0, .int .i64 0, .int .i64 0, .slice none 0 0]) := mkHid ((Blk.at _ _ _ (by simp)).alloc _)
  have ZA : Hid (Blk ((((w.alloc (.cells #[.int .i64 m.h, .int .i64 m.cap, .slice A m.l.length c, .int .i64 m.n, .int .i64 m.draws, .slice B m.sent.length d] 45)).alloc (.cells #[.int .i64 2, .int .u64 (i : Int), .int .i64 n, .int .u64 (p1.toNat : Int), .int .u64 (p2.toNat : Int)] 53)).alloc (.cells #[.int .i64 0, .int .i64 0, .slice none 0 0, .int .i64 0, .int .i64 0, .slice none 0 0] 45)).alloc (.cells #[.int .i64 0, .int .i64 0, .int .i64 0, .int .u64 0, .int .u64 0] 55)) (w.heap.size + 1 + 1 + 1) 55 #[.int .i64 0, .int .i64 0, .int .i64 0, .int .u64 0, .int .u64 0]) := mkHid (Blk.at _ _ _ (by simp))
  have KB : Hid (Below w.heap.size w ((((w.alloc (.cells #[.int .i64 m.h, .int .i64 m.cap, .slice A m.l.length c, .int .i64 m.n, .int .i64 m.draws, .slice B m.sent.length d] 45)).alloc (.cells #[.int .i64 2, .int .u64 (i : Int), .int .i64 n, .int .u64 (p1.toNat : Int), .int .u64 (p2.toNat : Int)] 53)).alloc (.cells #[.int .i64 0, .int .i64 0, .slice none 0 0, .int .i64 0, .int .i64 0, .slice none 0 0] 45)).alloc (.cells #[.int .i64 0, .int .i64 0, .int .i64 0, .int .u64 0, .int .u64 0] 55))) := mkHid (((((Below.refl _ _).alloc (Nat.le_refl _) (.cells #[.int .i64 m.h, .int .i64 m.cap, .slice A m.l.length c, .int .i64 m.n, .int .i64 m.draws, .slice B m.sent.length d] 45)).alloc (by simp) (.cells #[.int .i64 2, .int .u64 (i : Int), .int .i64 n, .int .u64 (p1.toNat : Int), .int .u64 (p2.toNat : Int)] 53)).alloc (by simp; omega) (.cells #[.int .i64 0, .int .i64 0, .slice none 0 0, .int .i64 0, .int .i64 0, .slice none 0 0] 45)).alloc (by simp; omega) (.cells #[.int .i64 0, .int .i64 0, .int .i64 0, .int .u64 0, .int .u64 0] 55))
  have HM := mkHid (hM.below (((((Below.refl _ _).alloc (Nat.le_refl _) (.cells #[.int .i64 m.h, .int .i64 m.cap, .slice A m.l.length c, .int .i64 m.n, .int .i64 m.draws, .slice B m.sent.length d] 45)).alloc (by simp) (.cells #[.int .i64 2, .int .u64 (i : Int), .int .i64 n, .int .u64 (p1.toNat : Int), .int .u64 (p2.toNat : Int)] 53)).alloc (by simp; omega) (.cells #[.int .i64 0, .int .i64 0, .slice none 0 0, .int .i64 0, .int .i64 0, .slice none 0 0] 45)).alloc (by simp; omega) (.cells #[.int .i64 0, .int .i64 0, .int .i64 0, .int .u64 0, .int .u64 0] 55)))
  clear hM
  go_enter Try.func33, Try.ntmps33
  go_upto_region 1 with fail
  generalize ((((w.alloc (.cells #[.int .i64 m.h, .int .i64 m.cap, .slice A m.l.length c, .int .i64 m.n, .int .i64 m.draws, .slice B m.sent.length d] 45)).alloc (.cells #[.int .i64 2, .int .u64 (i : Int), .int .i64 n, .int .u64 (p1.toNat : Int), .int .u64 (p2.toNat : Int)] 53)).alloc (.cells #[.int .i64 0, .int .i64 0, .slice none 0 0, .int .i64 0, .int .i64 0, .slice none 0 0] 45)).alloc (.cells #[.int .i64 0, .int .i64 0, .int .i64 0, .int .u64 0, .int .u64 0] 55)) = w0 at *
  have lZA : w.heap.size + 1 + 1 + 1 < w0.heap.size := ZA.out.lt
  have cX := ZX.out.six
  have cP := ZP.out.five
  go_wp2_with fail
  refine (rmchk e _ _ _ _ _ HM.out.reads HM.out.sents).mono ?_
  rintro e w1 ⟨rfl, hb⟩
  replace ZX := mkHid (ZX.out.keep hb)
  replace ZP := mkHid (ZP.out.keep hb)
  replace ZZ := mkHid (ZZ.out.keep hb)
  replace ZA := mkHid (ZA.out.keep hb)
  replace KB := mkHid (KB.out.step hb)
  replace HM := mkHid (HM.out.below hb)
  clear hb
  clear lZA cX cP
  have lZA : w.heap.size + 1 + 1 + 1 < w1.heap.size := ZA.out.lt
  have cX := ZX.out.six
  have cP := ZP.out.five
  go_wp2_with fail
  refine (rmcopy SZ SZS _ _ _ _ _ HM.out).mono ?_
  rintro e w2 ⟨A1, c1, B1, d1, X1, rfl, ho, hb⟩
  have HO := mkHid (ho.base (b := w.heap.size + 4) (by omega))
  clear ho HM
  replace ZX := mkHid (ZX.out.keep hb)
  replace ZP := mkHid (ZP.out.keep hb)
  replace ZZ := mkHid (ZZ.out.keep hb)
  replace ZA := mkHid (ZA.out.keep hb)
  replace KB := mkHid (KB.out.step hb)
  clear hb
  clear lZA cX cP
  have lZA : w.heap.size + 1 + 1 + 1 < w2.heap.size := ZA.out.lt
  have cX := ZX.out.six
  have cP := ZP.out.five
  have fX0 := ZX.out.frozen 0
  have fX1 := ZX.out.frozen 1
  have fX2 := ZX.out.frozen 2
  have fX3 := ZX.out.frozen 3
  have fX4 := ZX.out.frozen 4
  have fX5 := ZX.out.frozen 5
  go_upto_region 4 with fail
  replace ZX := mkHid (ZX.out.fill6 (b0 := .int .i64 m.h) (b1 := .int .i64 m.cap) (b2 := .slice A1 m.l.length c1) (b3 := .int .i64 m.n) (b4 := .int .i64 m.draws) (b5 := .slice B1 m.sent.length d1))
  replace ZP := mkHid (ZP.out.other6 (g := w.heap.size) (x0 := .int .i64 m.h) (x1 := .int .i64 m.cap) (x2 := .slice A1 m.l.length c1) (x3 := .int .i64 m.n) (x4 := .int .i64 m.draws) (x5 := .slice B1 m.sent.length d1) (by omega))
  replace ZZ := mkHid (ZZ.out.other6 (g := w.heap.size) (x0 := .int .i64 m.h) (x1 := .int .i64 m.cap) (x2 := .slice A1 m.l.length c1) (x3 := .int .i64 m.n) (x4 := .int .i64 m.draws) (x5 := .slice B1 m.sent.length d1) (by omega))
  replace ZA := mkHid (ZA.out.other6 (g := w.heap.size) (x0 := .int .i64 m.h) (x1 := .int .i64 m.cap) (x2 := .slice A1 m.l.length c1) (x3 := .int .i64 m.n) (x4 := .int .i64 m.draws) (x5 := .slice B1 m.sent.length d1) (by omega))
  replace KB := mkHid (below_six KB.out (Nat.le_refl _) (.int .i64 m.h) (.int .i64 m.cap) (.slice A1 m.l.length c1) (.int .i64 m.n) (.int .i64 m.draws) (.slice B1 m.sent.length d1))
  replace HO := mkHid (HO.out.past6 (g := w.heap.size) (by omega) (.int .i64 m.h) (.int .i64 m.cap) (.slice A1 m.l.length c1) (.int .i64 m.n) (.int .i64 m.draws) (.slice B1 m.sent.length d1))
  clear lZA cX cP fX0 fX1 fX2 fX3 fX4 fX5
  generalize ((((((w2.setCell ⟨w.heap.size, 0, none⟩ (.int .i64 m.h)).setCell ⟨w.heap.size, 1, none⟩ (.int .i64 m.cap)).setCell ⟨w.heap.size, 2, none⟩ (.slice A1 m.l.length c1)).setCell ⟨w.heap.size, 3, none⟩ (.int .i64 m.n)).setCell ⟨w.heap.size, 4, none⟩ (.int .i64 m.draws)).setCell ⟨w.heap.size, 5, none⟩ (.slice B1 m.sent.length d1)) = w3 at *
  have lZA : w.heap.size + 1 + 1 + 1 < w3.heap.size := ZA.out.lt
  have cX := ZX.out.six
  have cP := ZP.out.five
  go_wp2_with fail
  refine (rmch2 hok f _ _ _ _ _ HO.out.reads).mono ?_
  rintro e w4 ⟨v, rfl, ho, hb⟩
  have HL := mkHid (RowOf.rebase (a := w.heap.size + 4) ho (by omega))
  clear ho
  obtain ⟨A3, c3, rfl⟩ := HL.out.len
  replace ZX := mkHid (ZX.out.keep hb)
  replace ZP := mkHid (ZP.out.keep hb)
  replace ZZ := mkHid (ZZ.out.keep hb)
  replace ZA := mkHid (ZA.out.keep hb)
  replace KB := mkHid (KB.out.step hb)
  replace HO := mkHid (HO.out.below hb)
  clear hb
  clear lZA cX cP
  have lZA : w.heap.size + 1 + 1 + 1 < w4.heap.size := ZA.out.lt
  have cX := ZX.out.six
  have cP := ZP.out.five
  have fX2 := ZX.out.frozen 2
  have fX3 := ZX.out.frozen 3
  go_upto_region 23 with fail
  replace ZX := mkHid ((ZX.out.set 2 (.slice A3 L.length c3)).set 3 (.int .i64 (m.n + 1)))
  replace ZX : Hid (Blk ((w4.setCell ⟨w.heap.size, 2, none⟩ (.slice A3 L.length c3)).setCell ⟨w.heap.size, 3, none⟩ (.int .i64 (m.n + 1))) w.heap.size 45 #[.int .i64 m.h, .int .i64 m.cap, .slice A3 L.length c3, .int .i64 (m.n + 1), .int .i64 m.draws, .slice B1 m.sent.length d1]) := ZX
  replace ZZ := mkHid ((ZZ.out.other (m := w.heap.size) (i := 2) (.slice A3 L.length c3) (by omega)).other (m := w.heap.size) (i := 3) (.int .i64 (m.n + 1)) (by omega))
  replace ZA := mkHid ((ZA.out.other (m := w.heap.size) (i := 2) (.slice A3 L.length c3) (by omega)).other (m := w.heap.size) (i := 3) (.int .i64 (m.n + 1)) (by omega))
  replace ZP := mkHid ((ZP.out.other (m := w.heap.size) (i := 2) (.slice A3 L.length c3) (by omega)).other (m := w.heap.size) (i := 3) (.int .i64 (m.n + 1)) (by omega))
  replace KB : Hid (Below w.heap.size w ((w4.setCell ⟨w.heap.size, 2, none⟩ (.slice A3 L.length c3)).setCell ⟨w.heap.size, 3, none⟩ (.int .i64 (m.n + 1)))) := mkHid ((KB.out.setCell (p := ⟨w.heap.size, 2, none⟩) (Nat.le_refl _) _).setCell (p := ⟨w.heap.size, 3, none⟩) (Nat.le_refl _) _)
  replace HO := mkHid (((HO.out.newL (k := m.n + 1) HL.out).past (g := w.heap.size) (by omega) 2 (.slice A3 L.length c3)).past (g := w.heap.size) (by omega) 3 (.int .i64 (m.n + 1)))
  clear lZA cX cP fX2 fX3 HL
  generalize ((w4.setCell ⟨w.heap.size, 2, none⟩ (.slice A3 L.length c3)).setCell ⟨w.heap.size, 3, none⟩ (.int .i64 (m.n + 1))) = w5 at *
  have lZA : w.heap.size + 1 + 1 + 1 < w5.heap.size := ZA.out.lt
  have cX := ZX.out.six
  have cP := ZP.out.five
  have cZ := ZZ.out.six
  have cA := ZA.out.five
  have gz0 := ZZ.out.frozen 0
  have gz1 := ZZ.out.frozen 1
  have gz2 := ZZ.out.frozen 2
  have gz3 := ZZ.out.frozen 3
  have gz4 := ZZ.out.frozen 4
  have gz5 := ZZ.out.frozen 5
  have ga0 := ZA.out.frozen 0
  have ga1 := ZA.out.frozen 1
  have ga2 := ZA.out.frozen 2
  have ga3 := ZA.out.frozen 3
  have ga4 := ZA.out.frozen 4
  go_wp2_with fail
  have qR := ((ZZ.out.fill6 (b0 := .int .i64 m.h) (b1 := .int .i64 m.cap) (b2 := .slice A3 L.length c3) (b3 := .int .i64 (m.n + 1)) (b4 := .int .i64 m.draws) (b5 := .slice B1 m.sent.length d1)).other5 (g := (w.heap.size + 1 + 1 + 1)) (x0 := .int .i64 0) (x1 := .int .i64 0) (x2 := .int .i64 0) (x3 := .int .u64 0) (x4 := .int .u64 0) (by omega)).six
  have qA := ((ZA.out.other6 (g := (w.heap.size + 1 + 1)) (x0 := .int .i64 m.h) (x1 := .int .i64 m.cap) (x2 := .slice A3 L.length c3) (x3 := .int .i64 (m.n + 1)) (x4 := .int .i64 m.draws) (x5 := .slice B1 m.sent.length d1) (by omega)).fill5 (b0 := .int .i64 0) (b1 := .int .i64 0) (b2 := .int .i64 0) (b3 := .int .u64 0) (b4 := .int .u64 0)).five
  refine bodyPost_ret (v := .tuple #[.agg #[.int .i64 m.h, .int .i64 m.cap, .slice A3 L.length c3, .int .i64 (m.n + 1), .int .i64 m.draws, .slice B1 m.sent.length d1], .agg #[.int .i64 0, .int .i64 0, .int .i64 0, .int .u64 0, .int .u64 0], .int .i64 0]) (by simp [results, Try.results33, go_sem, qR, qA]) rfl ⟨_, _, _, _, X1, rfl, OwnM.base (b' := w.heap.size + 4) ?_ (by omega), below_five (below_six KB.out (by omega) _ _ _ _ _ _) (by omega) _ _ _ _ _⟩
  exact (HO.out.past6 (by omega) _ _ _ _ _ _).past5 (by omega) _ _ _ _ _

set_option linter.unusedSimpArgs false in
set_option maxRecDepth 100000 in
set_option maxHeartbeats 4000000 in
theorem rmd3_full {m : ModD} {i : Nat} {n : Int} {p1 p2 : BitVec 64} (e : Hid ((if okM m then (0 : Int) else 1) = 0)) (SZ : Hid (m.l.length ≤ 1024 ∧ m.sent.length ≤ 4096)) (SZS : Hid (∀ s ∈ m.sent, s.out.length ≤ 1024)) (hd : Hid ((m.sent.length : Int) + 1 = m.draws))  (A : Option Addr) (c : Nat) (B : Option Addr) (d : Nat) (w : World) (hM : MemM w A c B d m) :
    Calls Try.prog 33 #[.agg #[.int .i64 m.h, .int .i64 m.cap, .slice A m.l.length c, .int .i64 m.n, .int .i64 m.draws, .slice B m.sent.length d], .agg #[.int .i64 3, .int .u64 (i : Int), .int .i64 n, .int .u64 (p1.toNat : Int), .int .u64 (p2.toNat : Int)]] w (DoPost m (ansE 10) 0 w) := by
  have hwn : IntKind.i64.wrap ((m.sent.length : Int) + 1) = (m.sent.length : Int) + 1 := by rw [IntKind.wrap_i64]; have := SZ.out.2; omega
  have t1 : ((m.sent.length : Int) + 1 == m.draws) = true := beq_iff_eq.2 hd.out
  have ZX : Hid (Blk ((((w.alloc (.cells #[.int .i64 m.h, .int .i64 m.cap, .slice A m.l.length c, .int .i64 m.n, .int .i64 m.draws, .slice B m.sent.length d] 45)).alloc (.cells #[.int .i64 3, .int .u64 (i : Int), .int .i64 n, .int .u64 (p1.toNat : Int), .int .u64 (p2.toNat : Int)] 53)).alloc (.cells #[.int .i64 0, .int .i64 0, .slice none 0 0, .int .i64 0, .int .i64 0, .slice none 0 0] 45)).alloc (.cells #[.int .i64 0, .int .i64 0, .int .i64 0, .int .u64 0, .int .u64 0] 55)) w.heap.size 45 #[.int .i64 m.h, .int .i64 m.cap, .slice A m.l.length c, .int .i64 m.n, .int .i64 m.draws, .slice B m.sent.length d]) := mkHid ((((Blk.new _ _ _).alloc _).alloc _).alloc _)
  have ZP : Hid (Blk ((((w.alloc (.cells #[.int .i64 m.h, .int .i64 m.cap, .slice A m.l.length c, .int .i64 m.n, .int .i64 m.draws, .slice B m.sent.length d] 45)).alloc (.cells #[.int .i64 3, .int .u64 (i : Int), .int .i64 n, .int .u64 (p1.toNat : Int), .int .u64 (p2.toNat : Int)] 53)).alloc (.cells #[.int .i64 0, .int .i64 0, .slice none 0 0, .int .i64 0, .int .i64 0, .slice none 0 0] 45)).alloc (.cells #[.int .i64 0, .int .i64 0, .int .i64 0, .int .u64 0, .int .u64 0] 55)) (w.heap.size + 1) 53 #[.int .i64 3, .int .u64 (i : Int), .int .i64 n, .int .u64 (p1.toNat : Int), .int .u64 (p2.toNat : Int)]) := mkHid (((Blk.at _ _ _ (by simp)).alloc _).alloc _)
  have ZZ : Hid (Blk ((((w.alloc (.cells #[.int .i64 m.h, .int .i64 m.cap, .slice A m.l.length c, .int .i64 m.n, .int .i64 m.draws, .slice B m.sent.length d] 45)).alloc (.cells #[.int .i64 3, .int .u64 (i : Int), .int .i64 n, .int .u64 (p1.toNat : Int), .int .u64 (p2.toNat : Int)] 53)).alloc (.cells #[.int .i64 0, .int .i64 0, .slice none 0 0, .int .i64 0, .int .i64 0, .slice none 0 0] 45)).alloc (.cells #[.int .i64 0, .int .i64 0, .int .i64 0, .int .u64 0, .int .u64 0] 55)) (w.heap.size + 1 + 1) 45 #[.int .i64 0, .int .i64 0, .slice none 0 0, .int .i64 0, .int .i64 0, .slice none 0 0]) := mkHid ((Blk.at _ _ _ (by simp)).alloc _)
  have ZA : Hid (Blk ((((w.alloc (.cells #[.int .i64 m.h, .int .i64 m.cap, .slice A m.l.length c, .int .i64 m.n, .int .i64 m.draws, .slice B m.sent.length d] 45)).alloc (.cells #[.int .i64 3, .int .u64 (i : Int), .int .i64 n, .int .u64 (p1.toNat : Int), .int .u64 (p2.toNat : Int)] 53)).alloc (.cells #[.int .i64 0, .int .i64 0, .slice none 0 0, .int .i64 0, .int .i64 0, .slice none 0 0] 45)).alloc (.cells #[.int .i64 0, .int .i64 0, .int .i64 0, .int .u64 0, .int .u64 0] 55)) (w.heap.size + 1 + 1 + 1) 55 #[.int .i64 0, .int .i64 0, .int .i64 0, .int .u64 0, .int .u64 0]) := mkHid (Blk.at _ _ _ (by simp))
  have KB : Hid (Below w.heap.size w ((((w.alloc (.cells #[.int .i64 m.h, .int .i64 m.cap, .slice A m.l.length c, .int .i64 m.n, .int .i64 m.draws, .slice B m.sent.length d] 45)).alloc (.cells #[.int .i64 3, .int .u64 (i : Int), .int .i64 n, .int .u64 (p1.toNat : Int), .int .u64 (p2.toNat : Int)] 53)).alloc (.cells #[.int .i64 0, .int .i64 0, .slice none 0 0, .int .i64 0, .int .i64 0, .slice none 0 0] 45)).alloc (.cells #[.int .i64 0, .int .i64 0, .int .i64 0, .int .u64 0, .int .u64 0] 55))) := mkHid (((((Below.refl _ _).alloc (Nat.le_refl _) (.cells #[.int .i64 m.h, .int .i64 m.cap, .slice A m.l.length c, .int .i64 m.n, .int .i64 m.draws, .slice B m.sent.length d] 45)).alloc (by simp) (.cells #[.int .i64 3, .int .u64 (i : Int), .int .i64 n, .int .u64 (p1.toNat : Int), .int .u64 (p2.toNat : Int)] 53)).alloc (by simp; omega) (.cells #[.int .i64 0, .int .i64 0, .slice none 0 0, .int .i64 0, .int .i64 0, .slice none 0 0] 45)).alloc (by simp; omega) (.cells #[.int .i64 0, .int .i64 0, .int .i64 0, .int .u64 0, .int .u64 0] 55))
  have HM := mkHid (hM.below (((((Below.refl _ _).alloc (Nat.le_refl _) (.cells #[.int .i64 m.h, .int .i64 m.cap, .slice A m.l.length c, .int .i64 m.n, .int .i64 m.draws, .slice B m.sent.length d] 45)).alloc (by simp) (.cells #[.int .i64 3, .int .u64 (i : Int), .int .i64 n, .int .u64 (p1.toNat : Int), .int .u64 (p2.toNat : Int)] 53)).alloc (by simp; omega) (.cells #[.int .i64 0, .int .i64 0, .slice none 0 0, .int .i64 0, .int .i64 0, .slice none 0 0] 45)).alloc (by simp; omega) (.cells #[.int .i64 0, .int .i64 0, .int .i64 0, .int .u64 0, .int .u64 0] 55)))
  clear hM
  go_enter Try.func33, Try.ntmps33
  go_upto_region 1 with fail
  generalize ((((w.alloc (.cells #[.int .i64 m.h, .int .i64 m.cap, .slice A m.l.length c, .int .i64 m.n, .int .i64 m.draws, .slice B m.sent.length d] 45)).alloc (.cells #[.int .i64 3, .int .u64 (i : Int), .int .i64 n, .int .u64 (p1.toNat : Int), .int .u64 (p2.toNat : Int)] 53)).alloc (.cells #[.int .i64 0, .int .i64 0, .slice none 0 0, .int .i64 0, .int .i64 0, .slice none 0 0] 45)).alloc (.cells #[.int .i64 0, .int .i64 0, .int .i64 0, .int .u64 0, .int .u64 0] 55)) = w0 at *
  have lZA : w.heap.size + 1 + 1 + 1 < w0.heap.size := ZA.out.lt
  have cX := ZX.out.six
  have cP := ZP.out.five
  go_wp2_with fail
  refine (rmchk e _ _ _ _ _ HM.out.reads HM.out.sents).mono ?_
  rintro e w1 ⟨rfl, hb⟩
  replace ZX := mkHid (ZX.out.keep hb)
  replace ZP := mkHid (ZP.out.keep hb)
  replace ZZ := mkHid (ZZ.out.keep hb)
  replace ZA := mkHid (ZA.out.keep hb)
  replace KB := mkHid (KB.out.step hb)
  replace HM := mkHid (HM.out.below hb)
  clear hb
  clear lZA cX cP
  have lZA : w.heap.size + 1 + 1 + 1 < w1.heap.size := ZA.out.lt
  have cX := ZX.out.six
  have cP := ZP.out.five
  go_wp2_with fail
  refine (rmcopy SZ SZS _ _ _ _ _ HM.out).mono ?_
  rintro e w2 ⟨A1, c1, B1, d1, X1, rfl, ho, hb⟩
  have HO := mkHid (ho.base (b := w.heap.size + 4) (by omega))
  clear ho HM
  replace ZX := mkHid (ZX.out.keep hb)
  replace ZP := mkHid (ZP.out.keep hb)
  replace ZZ := mkHid (ZZ.out.keep hb)
  replace ZA := mkHid (ZA.out.keep hb)
  replace KB := mkHid (KB.out.step hb)
  clear hb
  clear lZA cX cP
  have lZA : w.heap.size + 1 + 1 + 1 < w2.heap.size := ZA.out.lt
  have cX := ZX.out.six
  have cP := ZP.out.five
  have fX0 := ZX.out.frozen 0
  have fX1 := ZX.out.frozen 1
  have fX2 := ZX.out.frozen 2
  have fX3 := ZX.out.frozen 3
  have fX4 := ZX.out.frozen 4
  have fX5 := ZX.out.frozen 5
  go_upto_region 4 with fail
  replace ZX := mkHid (ZX.out.fill6 (b0 := .int .i64 m.h) (b1 := .int .i64 m.cap) (b2 := .slice A1 m.l.length c1) (b3 := .int .i64 m.n) (b4 := .int .i64 m.draws) (b5 := .slice B1 m.sent.length d1))
  replace ZP := mkHid (ZP.out.other6 (g := w.heap.size) (x0 := .int .i64 m.h) (x1 := .int .i64 m.cap) (x2 := .slice A1 m.l.length c1) (x3 := .int .i64 m.n) (x4 := .int .i64 m.draws) (x5 := .slice B1 m.sent.length d1) (by omega))
  replace ZZ := mkHid (ZZ.out.other6 (g := w.heap.size) (x0 := .int .i64 m.h) (x1 := .int .i64 m.cap) (x2 := .slice A1 m.l.length c1) (x3 := .int .i64 m.n) (x4 := .int .i64 m.draws) (x5 := .slice B1 m.sent.length d1) (by omega))
  replace ZA := mkHid (ZA.out.other6 (g := w.heap.size) (x0 := .int .i64 m.h) (x1 := .int .i64 m.cap) (x2 := .slice A1 m.l.length c1) (x3 := .int .i64 m.n) (x4 := .int .i64 m.draws) (x5 := .slice B1 m.sent.length d1) (by omega))
  replace KB := mkHid (below_six KB.out (Nat.le_refl _) (.int .i64 m.h) (.int .i64 m.cap) (.slice A1 m.l.length c1) (.int .i64 m.n) (.int .i64 m.draws) (.slice B1 m.sent.length d1))
  replace HO := mkHid (HO.out.past6 (g := w.heap.size) (by omega) (.int .i64 m.h) (.int .i64 m.cap) (.slice A1 m.l.length c1) (.int .i64 m.n) (.int .i64 m.draws) (.slice B1 m.sent.length d1))
  clear lZA cX cP fX0 fX1 fX2 fX3 fX4 fX5
  generalize ((((((w2.setCell ⟨w.heap.size, 0, none⟩ (.int .i64 m.h)).setCell ⟨w.heap.size, 1, none⟩ (.int .i64 m.cap)).setCell ⟨w.heap.size, 2, none⟩ (.slice A1 m.l.length c1)).setCell ⟨w.heap.size, 3, none⟩ (.int .i64 m.n)).setCell ⟨w.heap.size, 4, none⟩ (.int .i64 m.draws)).setCell ⟨w.heap.size, 5, none⟩ (.slice B1 m.sent.length d1)) = w3 at *
  have lZA : w.heap.size + 1 + 1 + 1 < w3.heap.size := ZA.out.lt
  have cX := ZX.out.six
  have cP := ZP.out.five
  have cZ := ZZ.out.six
  have cA := ZA.out.five
  have gz0 := ZZ.out.frozen 0
  have gz1 := ZZ.out.frozen 1
  have gz2 := ZZ.out.frozen 2
  have gz3 := ZZ.out.frozen 3
  have gz4 := ZZ.out.frozen 4
  have gz5 := ZZ.out.frozen 5
  have ga0 := ZA.out.frozen 0
  have ga1 := ZA.out.frozen 1
  have ga2 := ZA.out.frozen 2
  have ga3 := ZA.out.frozen 3
  have ga4 := ZA.out.frozen 4
  go_wp2_with fail
  have qR := ((ZZ.out.fill6 (b0 := .int .i64 m.h) (b1 := .int .i64 m.cap) (b2 := .slice A1 m.l.length c1) (b3 := .int .i64 m.n) (b4 := .int .i64 m.draws) (b5 := .slice B1 m.sent.length d1)).other5 (g := (w.heap.size + 1 + 1 + 1)) (x0 := .int .i64 10) (x1 := .int .i64 0) (x2 := .int .i64 0) (x3 := .int .u64 0) (x4 := .int .u64 0) (by omega)).six
  have qA := ((ZA.out.other6 (g := (w.heap.size + 1 + 1)) (x0 := .int .i64 m.h) (x1 := .int .i64 m.cap) (x2 := .slice A1 m.l.length c1) (x3 := .int .i64 m.n) (x4 := .int .i64 m.draws) (x5 := .slice B1 m.sent.length d1) (by omega)).fill5 (b0 := .int .i64 10) (b1 := .int .i64 0) (b2 := .int .i64 0) (b3 := .int .u64 0) (b4 := .int .u64 0)).five
  refine bodyPost_ret (v := .tuple #[.agg #[.int .i64 m.h, .int .i64 m.cap, .slice A1 m.l.length c1, .int .i64 m.n, .int .i64 m.draws, .slice B1 m.sent.length d1], .agg #[.int .i64 10, .int .i64 0, .int .i64 0, .int .u64 0, .int .u64 0], .int .i64 0]) (by simp [results, Try.results33, go_sem, qR, qA]) rfl ⟨_, _, _, _, X1, rfl, OwnM.base (b' := w.heap.size + 4) ?_ (by omega), below_five (below_six KB.out (by omega) _ _ _ _ _ _) (by omega) _ _ _ _ _⟩
  exact (HO.out.past6 (by omega) _ _ _ _ _ _).past5 (by omega) _ _ _ _ _

theorem ownM_nil {w : World} {base : Nat} {A B : Option Addr} {c d : Nat} {X : List SX} {m : ModD} (h : OwnM w base A c B d X m) : A = none → c = 0 := by
  obtain ⟨A', c', e, h1, h2, h3, h4⟩ := Reads.of_row' h.row
  obtain ⟨e1, _, e2⟩ := Value.slice.inj e
  subst e1 e2
  exact h4

set_option linter.unusedSimpArgs false in
set_option maxRecDepth 100000 in
set_option maxHeartbeats 4000000 in
theorem rmd3_ok {m : ModD} {i : Nat} {n : Int} {p1 p2 : BitVec 64} (e : Hid ((if okM m then (0 : Int) else 1) = 0)) (SZ : Hid (m.l.length ≤ 1024 ∧ m.sent.length ≤ 4096)) (SZS : Hid (∀ s ∈ m.sent, s.out.length ≤ 1024)) (hd : Hid ((m.sent.length : Int) + 1 ≠ m.draws))  (A : Option Addr) (c : Nat) (B : Option Addr) (d : Nat) (w : World) (hM : MemM w A c B d m) :
    Calls Try.prog 33 #[.agg #[.int .i64 m.h, .int .i64 m.cap, .slice A m.l.length c, .int .i64 m.n, .int .i64 m.draws, .slice B m.sent.length d], .agg #[.int .i64 3, .int .u64 (i : Int), .int .i64 n, .int .u64 (p1.toNat : Int), .int .u64 (p2.toNat : Int)]] w (DoPost { m with sent := m.sent ++ [⟨m.l, (m.sent.length : Int) + 1, (p1, p2)⟩] } ⟨0, (m.sent.length : Int) + 1, (m.sent.length : Int) + 1, (0, 0)⟩ 0 w) := by
  have hwn : IntKind.i64.wrap ((m.sent.length : Int) + 1) = (m.sent.length : Int) + 1 := by rw [IntKind.wrap_i64]; have := SZ.out.2; omega
  have t1 : ((m.sent.length : Int) + 1 == m.draws) = false := beq_eq_false_iff_ne.2 hd.out
  have ZX : Hid (Blk ((((w.alloc (.cells #[.int .i64 m.h, .int .i64 m.cap, .slice A m.l.length c, .int .i64 m.n, .int .i64 m.draws, .slice B m.sent.length d] 45)).alloc (.cells #[.int .i64 3, .int .u64 (i : Int), .int .i64 n, .int .u64 (p1.toNat : Int), .int .u64 (p2.toNat : Int)] 53)).alloc (.cells #[.int .i64 0, .int .i64 0, .slice none 0 0, .int .i64 0, .int .i64 0, .slice none 0 0] 45)).alloc (.cells #[.int .i64 0, .int .i64 0, .int .i64 0, .int .u64 0, .int .u64 0] 55)) w.heap.size 45 #[.int .i64 m.h, .int .i64 m.cap, .slice A m.l.length c, .int .i64 m.n, .int .i64 m.draws, .slice B m.sent.length d]) := mkHid ((((Blk.new _ _ _).alloc _).alloc _).alloc _)
  have ZP : Hid (Blk ((((w.alloc (.cells #[.int .i64 m.h, .int .i64 m.cap, .slice A m.l.length c, .int .i64 m.n, .int .i64 m.draws, .slice B m.sent.length d] 45)).alloc (.cells #[.int .i64 3, .int .u64 (i : Int), .int .i64 n, .int .u64 (p1.toNat : Int), .int .u64 (p2.toNat : Int)] 53)).alloc (.cells #[.int .i64 0, .int .i64 0, .slice none 0 0, .int .i64 0, .int .i64 0, .slice none 0 0] 45)).alloc (.cells #[.int .i64 0, .int .i64 0, .int .i64 0, .int .u64 0, .int .u64 0] 55)) (w.heap.size + 1) 53 #[.int .i64 3, .int .u64 (i : Int), .int .i64 n, .int .u64 (p1.toNat : Int), .int .u64 (p2.toNat : Int)]) := mkHid (((Blk.at _ _ _ (by simp)).alloc _).alloc _)
  have ZZ : Hid (Blk ((((w.alloc (.cells #[.int .i64 m.h, .int .i64 m.cap, .slice A m.l.length c, .int .i64 m.n, .int .i64 m.draws, .slice B m.sent.length d] 45)).alloc (.cells #[.int .i64 3, .int .u64 (i : Int), .int .i64 n, .int .u64 (p1.toNat : Int), .int .u64 (p2.toNat : Int)] 53)).alloc (.cells #[.int .i64 0, .int .i64 0, .slice none 0 0, .int .i64 0, .int .i64 0, .slice none 0 0] 45)).alloc (.cells #[.int .i64 0, .int .i64 0, .int .i64 0, .int .u64 0, .int .u64 0] 55)) (w.heap.size + 1 + 1) 45 #[.int .i64 0, .int .i64 0, .slice none 0 0, .int .i64 0, .int .i64 0, .slice none 0 0]) := mkHid ((Blk.at _ _ _ (by simp)).alloc _)
  have ZA : Hid (Blk ((((w.alloc (.cells #[.int .i64 m.h, .int .i64 m.cap, .slice A m.l.length c, .int .i64 m.n, .int .i64 m.draws, .slice B m.sent.length d] 45)).alloc (.cells #[.int .i64 3, .int .u64 (i : Int), .int .i64 n, .int .u64 (p1.toNat : Int), .int .u64 (p2.toNat : Int)] 53)).alloc (.cells #[.int .i64 0, .int .i64 0, .slice none 0 0, .int .i64 0, .int .i64 0, .slice none 0 0] 45)).alloc (.cells #[.int .i64 0, .int .i64 0, .int .i64 0, .int .u64 0, .int .u64 0] 55)) (w.heap.size + 1 + 1 + 1) 55 #[.int .i64 0, .int .i64 0, .int .i64 0, .int .u64 0, .int .u64 0]) := mkHid (Blk.at _ _ _ (by simp))
  have KB : Hid (Below w.heap.size w ((((w.alloc (.cells #[.int .i64 m.h, .int .i64 m.cap, .slice A m.l.length c, .int .i64 m.n, .int .i64 m.draws, .slice B m.sent.length d] 45)).alloc (.cells #[.int .i64 3, .int .u64 (i : Int), .int .i64 n, .int .u64 (p1.toNat : Int), .int .u64 (p2.toNat : Int)] 53)).alloc (.cells #[.int .i64 0, .int .i64 0, .slice none 0 0, .int .i64 0, .int .i64 0, .slice none 0 0] 45)).alloc (.cells #[.int .i64 0, .int .i64 0, .int .i64 0, .int .u64 0, .int .u64 0] 55))) := mkHid (((((Below.refl _ _).alloc (Nat.le_refl _) (.cells #[.int .i64 m.h, .int .i64 m.cap, .slice A m.l.length c, .int .i64 m.n, .int .i64 m.draws, .slice B m.sent.length d] 45)).alloc (by simp) (.cells #[.int .i64 3, .int .u64 (i : Int), .int .i64 n, .int .u64 (p1.toNat : Int), .int .u64 (p2.toNat : Int)] 53)).alloc (by simp; omega) (.cells #[.int .i64 0, .int .i64 0, .slice none 0 0, .int .i64 0, .int .i64 0, .slice none 0 0] 45)).alloc (by simp; omega) (.cells #[.int .i64 0, .int .i64 0, .int .i64 0, .int .u64 0, .int .u64 0] 55))
  have HM := mkHid (hM.below (((((Below.refl _ _).alloc (Nat.le_refl _) (.cells #[.int .i64 m.h, .int .i64 m.cap, .slice A m.l.length c, .int .i64 m.n, .int .i64 m.draws, .slice B m.sent.length d] 45)).alloc (by simp) (.cells #[.int .i64 3, .int .u64 (i : Int), .int .i64 n, .int .u64 (p1.toNat : Int), .int .u64 (p2.toNat : Int)] 53)).alloc (by simp; omega) (.cells #[.int .i64 0, .int .i64 0, .slice none 0 0, .int .i64 0, .int .i64 0, .slice none 0 0] 45)).alloc (by simp; omega) (.cells #[.int .i64 0, .int .i64 0, .int .i64 0, .int .u64 0, .int .u64 0] 55)))
  clear hM
  go_enter Try.func33, Try.ntmps33
  go_upto_region 1 with fail
  generalize ((((w.alloc (.cells #[.int .i64 m.h, .int .i64 m.cap, .slice A m.l.length c, .int .i64 m.n, .int .i64 m.draws, .slice B m.sent.length d] 45)).alloc (.cells #[.int .i64 3, .int .u64 (i : Int), .int .i64 n, .int .u64 (p1.toNat : Int), .int .u64 (p2.toNat : Int)] 53)).alloc (.cells #[.int .i64 0, .int .i64 0, .slice none 0 0, .int .i64 0, .int .i64 0, .slice none 0 0] 45)).alloc (.cells #[.int .i64 0, .int .i64 0, .int .i64 0, .int .u64 0, .int .u64 0] 55)) = w0 at *
  have lZA : w.heap.size + 1 + 1 + 1 < w0.heap.size := ZA.out.lt
  have cX := ZX.out.six
  have cP := ZP.out.five
  go_wp2_with fail
  refine (rmchk e _ _ _ _ _ HM.out.reads HM.out.sents).mono ?_
  rintro e w1 ⟨rfl, hb⟩
  replace ZX := mkHid (ZX.out.keep hb)
  replace ZP := mkHid (ZP.out.keep hb)
  replace ZZ := mkHid (ZZ.out.keep hb)
  replace ZA := mkHid (ZA.out.keep hb)
  replace KB := mkHid (KB.out.step hb)
  replace HM := mkHid (HM.out.below hb)
  clear hb
  clear lZA cX cP
  have lZA : w.heap.size + 1 + 1 + 1 < w1.heap.size := ZA.out.lt
  have cX := ZX.out.six
  have cP := ZP.out.five
  go_wp2_with fail
  refine (rmcopy SZ SZS _ _ _ _ _ HM.out).mono ?_
  rintro e w2 ⟨A1, c1, B1, d1, X1, rfl, ho, hb⟩
  have HO := mkHid (ho.base (b := w.heap.size + 4) (by omega))
  clear ho HM
  replace ZX := mkHid (ZX.out.keep hb)
  replace ZP := mkHid (ZP.out.keep hb)
  replace ZZ := mkHid (ZZ.out.keep hb)
  replace ZA := mkHid (ZA.out.keep hb)
  replace KB := mkHid (KB.out.step hb)
  clear hb
  clear lZA cX cP
  have lZA : w.heap.size + 1 + 1 + 1 < w2.heap.size := ZA.out.lt
  have cX := ZX.out.six
  have cP := ZP.out.five
  have fX0 := ZX.out.frozen 0
  have fX1 := ZX.out.frozen 1
  have fX2 := ZX.out.frozen 2
  have fX3 := ZX.out.frozen 3
  have fX4 := ZX.out.frozen 4
  have fX5 := ZX.out.frozen 5
  go_upto_region 4 with fail
  replace ZX := mkHid (ZX.out.fill6 (b0 := .int .i64 m.h) (b1 := .int .i64 m.cap) (b2 := .slice A1 m.l.length c1) (b3 := .int .i64 m.n) (b4 := .int .i64 m.draws) (b5 := .slice B1 m.sent.length d1))
  replace ZP := mkHid (ZP.out.other6 (g := w.heap.size) (x0 := .int .i64 m.h) (x1 := .int .i64 m.cap) (x2 := .slice A1 m.l.length c1) (x3 := .int .i64 m.n) (x4 := .int .i64 m.draws) (x5 := .slice B1 m.sent.length d1) (by omega))
  replace ZZ := mkHid (ZZ.out.other6 (g := w.heap.size) (x0 := .int .i64 m.h) (x1 := .int .i64 m.cap) (x2 := .slice A1 m.l.length c1) (x3 := .int .i64 m.n) (x4 := .int .i64 m.draws) (x5 := .slice B1 m.sent.length d1) (by omega))
  replace ZA := mkHid (ZA.out.other6 (g := w.heap.size) (x0 := .int .i64 m.h) (x1 := .int .i64 m.cap) (x2 := .slice A1 m.l.length c1) (x3 := .int .i64 m.n) (x4 := .int .i64 m.draws) (x5 := .slice B1 m.sent.length d1) (by omega))
  replace KB := mkHid (below_six KB.out (Nat.le_refl _) (.int .i64 m.h) (.int .i64 m.cap) (.slice A1 m.l.length c1) (.int .i64 m.n) (.int .i64 m.draws) (.slice B1 m.sent.length d1))
  replace HO := mkHid (HO.out.past6 (g := w.heap.size) (by omega) (.int .i64 m.h) (.int .i64 m.cap) (.slice A1 m.l.length c1) (.int .i64 m.n) (.int .i64 m.draws) (.slice B1 m.sent.length d1))
  clear lZA cX cP fX0 fX1 fX2 fX3 fX4 fX5
  generalize ((((((w2.setCell ⟨w.heap.size, 0, none⟩ (.int .i64 m.h)).setCell ⟨w.heap.size, 1, none⟩ (.int .i64 m.cap)).setCell ⟨w.heap.size, 2, none⟩ (.slice A1 m.l.length c1)).setCell ⟨w.heap.size, 3, none⟩ (.int .i64 m.n)).setCell ⟨w.heap.size, 4, none⟩ (.int .i64 m.draws)).setCell ⟨w.heap.size, 5, none⟩ (.slice B1 m.sent.length d1)) = w3 at *
  have lZA : w.heap.size + 1 + 1 + 1 < w3.heap.size := ZA.out.lt
  have cX := ZX.out.six
  have cP := ZP.out.five
  go_upto_region 16 with fail
  replace ZX : Hid (Blk w3.drew _ _ _) := mkHid ZX.out.drew
  replace ZP : Hid (Blk w3.drew _ _ _) := mkHid ZP.out.drew
  replace ZA : Hid (Blk w3.drew _ _ _) := mkHid ZA.out.drew
  replace ZZ : Hid (Blk w3.drew _ _ _) := mkHid ZZ.out.drew
  replace KB : Hid (Below w.heap.size w w3.drew) := mkHid KB.out.drew
  replace HO := mkHid (HO.out.below (Below.drew (Below.refl _ w3)))
  clear cX cP
  have k2 : w3.drew.cell? ⟨w.heap.size, 2, none⟩ = some (.slice A1 m.l.length c1) := ZX.out.cell 2
  have k5 : w3.drew.cell? ⟨w.heap.size, 5, none⟩ = some (.slice B1 m.sent.length d1) := ZX.out.cell 5
  have o3 : w3.drew.cell? ⟨w.heap.size + 1, 3, none⟩ = some (.int .u64 (p1.toNat : Int)) := ZP.out.cell 3
  have o4 : w3.drew.cell? ⟨w.heap.size + 1, 4, none⟩ = some (.int .u64 (p2.toNat : Int)) := ZP.out.cell 4
  have lZ0 : w.heap.size + 1 + 1 + 1 < w3.drew.heap.size := lZA
  clear lZA
  refine wp_region_late (late := fun i => decide (12 ≤ i)) (S := fun w' => w'.cell? ⟨w.heap.size, 2, none⟩ = some (.slice A1 m.l.length c1) ∧ w'.cell? ⟨w.heap.size, 5, none⟩ = some (.slice B1 m.sent.length d1) ∧ w'.cell? ⟨w.heap.size + 1, 3, none⟩ = some (.int .u64 (p1.toNat : Int)) ∧ w'.cell? ⟨w.heap.size + 1, 4, none⟩ = some (.int .u64 (p2.toNat : Int))) (by kernel_rfl) ?_ (fun hHeld => ?_)
  · ((try dsimp only); (try go_split_ands); refine ⟨?_, ?_, ?_, ?_⟩ <;> with_reducible assumption)
  refine Any.take (i := 0) (v := ?_) rfl (by kernel_rfl) (by kernel_rfl) (by kernel_rfl) (by kernel_rfl) (fun _ _ _ h => h) (Or.inl ⟨by rfl, ?_⟩) hHeld ?_
  rotate_left
  · intro w hSw
    (try dsimp only at hSw)
    go_simp
    all_goals with_reducible rfl
  try simp only [List.getElem_toArray, List.getElem_cons_succ, List.getElem_cons_zero, Act.put, List.setIfInBounds_toArray, List.set_cons_zero, List.set_cons_succ]
  refine Any.take (i := 1) (v := ?_) rfl (by kernel_rfl) (by kernel_rfl) (by kernel_rfl) (by kernel_rfl) (fun _ _ _ h => h) (Or.inl ⟨by rfl, ?_⟩) hHeld ?_
  rotate_left
  · intro w hSw
    (try dsimp only at hSw)
    go_simp
    all_goals with_reducible rfl
  try simp only [List.getElem_toArray, List.getElem_cons_succ, List.getElem_cons_zero, Act.put, List.setIfInBounds_toArray, List.set_cons_zero, List.set_cons_succ]
  refine Any.take (i := 2) (v := ?_) rfl (by kernel_rfl) (by kernel_rfl) (by kernel_rfl) (by kernel_rfl) (fun _ _ _ h => h) (Or.inl ⟨by rfl, ?_⟩) hHeld ?_
  rotate_left
  · intro w hSw
    (try dsimp only at hSw)
    go_simp
    all_goals with_reducible rfl
  try simp only [List.getElem_toArray, List.getElem_cons_succ, List.getElem_cons_zero, Act.put, List.setIfInBounds_toArray, List.set_cons_zero, List.set_cons_succ]
  refine Any.take (i := 3) (v := ?_) rfl (by kernel_rfl) (by kernel_rfl) (by kernel_rfl) (by kernel_rfl) (fun _ _ _ h => h) (Or.inl ⟨by rfl, ?_⟩) hHeld ?_
  rotate_left
  · intro w hSw
    (try dsimp only at hSw)
    go_simp
    all_goals with_reducible rfl
  try simp only [List.getElem_toArray, List.getElem_cons_succ, List.getElem_cons_zero, Act.put, List.setIfInBounds_toArray, List.set_cons_zero, List.set_cons_succ]
  refine Any.take (i := 5) (v := ?_) rfl (by kernel_rfl) (by kernel_rfl) (by kernel_rfl) (by kernel_rfl) (fun _ _ _ h => h) (Or.inl ⟨by rfl, ?_⟩) hHeld ?_
  rotate_left
  · intro w hSw
    (try dsimp only at hSw)
    go_simp
    all_goals with_reducible rfl
  try simp only [List.getElem_toArray, List.getElem_cons_succ, List.getElem_cons_zero, Act.put, List.setIfInBounds_toArray, List.set_cons_zero, List.set_cons_succ]
  refine Any.take (i := 6) (v := ?_) rfl (by kernel_rfl) (by kernel_rfl) (by kernel_rfl) (by kernel_rfl) (fun _ _ _ h => h) (Or.inl ⟨by rfl, ?_⟩) hHeld ?_
  rotate_left
  · intro w hSw
    (try dsimp only at hSw)
    go_simp
    all_goals with_reducible rfl
  try simp only [List.getElem_toArray, List.getElem_cons_succ, List.getElem_cons_zero, Act.put, List.setIfInBounds_toArray, List.set_cons_zero, List.set_cons_succ]
  refine Any.take (i := 7) (v := ?_) rfl (by kernel_rfl) (by kernel_rfl) (by kernel_rfl) (by kernel_rfl) (fun _ _ _ h => h) (Or.inl ⟨by rfl, ?_⟩) hHeld ?_
  rotate_left
  · intro w hSw
    (try dsimp only at hSw)
    go_simp
    all_goals with_reducible rfl
  try simp only [List.getElem_toArray, List.getElem_cons_succ, List.getElem_cons_zero, Act.put, List.setIfInBounds_toArray, List.set_cons_zero, List.set_cons_succ]
  refine Any.ready (rs := [4]) (by kernel_rfl) (by simp) ?_
  refine AllAny.cons rfl rfl (fun K hK => ?_) AllAny.nil
  obtain ⟨v1, wa, hr, ho1, hba⟩ := run_append_u64 (w := w3.drew) 22 w3.drew.heap.size (.slice none 0 0) [] (World.ownsRow_nil _ _ _ _) A1 c1 m.l HO.out.reads (ownM_nil HO.out) (by have := SZ.out.1; simp; omega) (Nat.le_refl _)
  refine step_append (by rfl) _ _ _ rfl rfl rfl hr ?_
  clear hr
  have lZ1 := hba.size
  have NV := mkHid (RowOf.rebase (a := w.heap.size + 4) (wof_nil _ _ _ ho1) (by omega))
  clear ho1
  obtain ⟨A3, c3, rfl⟩ := NV.out.len
  replace ZX := mkHid (ZX.out.keep hba)
  replace ZZ := mkHid (ZZ.out.keep hba)
  replace ZA := mkHid (ZA.out.keep hba)
  replace ZP := mkHid (ZP.out.keep hba)
  replace HO := mkHid (HO.out.below hba)
  replace KB := mkHid (KB.out.step hba)
  replace k2 := keeps hba k2
  replace k5 := keeps hba k5
  replace o3 := keeps hba o3
  replace o4 := keeps hba o4
  clear hba
  refine hK.out _ _ ?_ (fun hHeld => ?_)
  · ((try dsimp only); (try go_split_ands); refine ⟨?_, ?_, ?_, ?_⟩ <;> with_reducible assumption)
  clear hK K
  try simp only [List.getElem_toArray, List.getElem_cons_succ, List.getElem_cons_zero, Act.put, List.setIfInBounds_toArray, List.set_cons_zero, List.set_cons_succ]
  refine Any.take (i := 8) (v := ?_) rfl (by kernel_rfl) (by kernel_rfl) (by kernel_rfl) (by kernel_rfl) (fun _ _ _ h => h) (Or.inl ⟨by rfl, ?_⟩) hHeld ?_
  rotate_left
  · intro w hSw
    (try dsimp only at hSw)
    go_simp
    all_goals with_reducible rfl
  try simp only [List.getElem_toArray, List.getElem_cons_succ, List.getElem_cons_zero, Act.put, List.setIfInBounds_toArray, List.set_cons_zero, List.set_cons_succ]
  refine Any.ready (rs := [9]) (by kernel_rfl) (by simp) ?_
  refine AllAny.cons rfl rfl (fun K hK => ?_) AllAny.nil
  go_simp
  have hb9 : Below wa.heap.size wa (wa.alloc (.cells #[.slice A3 m.l.length c3, .int .i64 ((m.sent.length : Int) + 1), .int .u64 (p1.toNat : Int), .int .u64 (p2.toNat : Int)] 66)) := (Below.refl _ _).alloc (Nat.le_refl _) _
  have ZN : Hid (Blk (wa.alloc (.cells #[.slice A3 m.l.length c3, .int .i64 ((m.sent.length : Int) + 1), .int .u64 (p1.toNat : Int), .int .u64 (p2.toNat : Int)] 66)) wa.heap.size 66 #[.slice A3 m.l.length c3, .int .i64 ((m.sent.length : Int) + 1), .int .u64 (p1.toNat : Int), .int .u64 (p2.toNat : Int)]) := mkHid (Blk.new _ _ _)
  replace ZX := mkHid (ZX.out.keep hb9)
  replace ZZ := mkHid (ZZ.out.keep hb9)
  replace ZA := mkHid (ZA.out.keep hb9)
  replace ZP := mkHid (ZP.out.keep hb9)
  replace HO := mkHid (HO.out.below hb9)
  replace NV := mkHid (NV.out.below hb9)
  replace KB := mkHid (KB.out.step hb9)
  replace k2 := keeps hb9 k2
  replace k5 := keeps hb9 k5
  replace o3 := keeps hb9 o3
  replace o4 := keeps hb9 o4
  have lZ2 := hb9.size
  generalize wa.alloc (.cells #[.slice A3 m.l.length c3, .int .i64 ((m.sent.length : Int) + 1), .int .u64 (p1.toNat : Int), .int .u64 (p2.toNat : Int)] 66) = wb at *
  clear hb9
  refine hK.out _ _ ?_ (fun hHeld => ?_)
  · ((try dsimp only); (try go_split_ands); refine ⟨?_, ?_, ?_, ?_⟩ <;> with_reducible assumption)
  clear hK K
  try simp only [List.getElem_toArray, List.getElem_cons_succ, List.getElem_cons_zero, Act.put, List.setIfInBounds_toArray, List.set_cons_zero, List.set_cons_succ]
  refine Any.ready (rs := [10]) (by kernel_rfl) (by simp) ?_
  refine AllAny.cons rfl rfl (fun K hK => ?_) AllAny.nil
  have HAP := sent_append HO.out ⟨A3, c3, ⟨m.l, (m.sent.length : Int) + 1, (p1, p2)⟩⟩ NV.out ⟨wa.heap.size, 0, none⟩ (rowAt_four ZN.out) (by omega) SZ.out.2 43
  obtain ⟨wc, B3, d3, NL, hr, hNL, ho2, hbc⟩ := HAP
  refine step_append (by rfl) _ _ _ rfl rfl rfl hr ?_
  have HNL := mkHid hNL
  clear hr hNL HO NV ZN
  have HO := mkHid ho2
  clear ho2
  replace ZX := mkHid (ZX.out.below hbc (by omega))
  replace ZZ := mkHid (ZZ.out.below hbc (by omega))
  replace ZA := mkHid (ZA.out.below hbc (by omega))
  replace ZP := mkHid (ZP.out.below hbc (by omega))
  replace KB := mkHid (KB.out.trans (hbc.mono (by omega)))
  replace k2 : wc.cell? _ = _ := (hbc.cell (p := ⟨w.heap.size, 2, none⟩) (by show w.heap.size < _; omega)).trans k2
  replace k5 : wc.cell? _ = _ := (hbc.cell (p := ⟨w.heap.size, 5, none⟩) (by show w.heap.size < _; omega)).trans k5
  replace o3 : wc.cell? _ = _ := (hbc.cell (p := ⟨w.heap.size + 1, 3, none⟩) (by show w.heap.size + 1 < _; omega)).trans o3
  replace o4 : wc.cell? _ = _ := (hbc.cell (p := ⟨w.heap.size + 1, 4, none⟩) (by show w.heap.size + 1 < _; omega)).trans o4
  have fz := ZX.out.frozen 5
  have lZA : w.heap.size + 1 + 1 + 1 < wc.heap.size := ZA.out.lt
  clear hbc lZ0 lZ1 lZ2
  refine hK.out _ _ ?_ (fun hHeld => ?_)
  · ((try dsimp only); (try go_split_ands); refine ⟨?_, ?_, ?_, ?_⟩ <;> with_reducible assumption)
  clear hK K
  try simp only [List.getElem_toArray, List.getElem_cons_succ, List.getElem_cons_zero, Act.put, List.setIfInBounds_toArray, List.set_cons_zero, List.set_cons_succ]
  refine Any.take (i := 11) (v := ?_) rfl (by kernel_rfl) (by kernel_rfl) (by kernel_rfl) (by kernel_rfl) (fun _ _ _ h => h) (Or.inl ⟨by rfl, ?_⟩) hHeld ?_
  rotate_left
  · intro w hSw
    (try dsimp only at hSw)
    go_simp
    all_goals with_reducible rfl
  try simp only [List.getElem_toArray, List.getElem_cons_succ, List.getElem_cons_zero, Act.put, List.setIfInBounds_toArray, List.set_cons_zero, List.set_cons_succ]
  refine Any.ready (rs := [12]) (by kernel_rfl) (by simp) ?_
  refine AllAny.lateCons rfl rfl (fun K hK => ?_) AllAny.nil
  go_simp
  refine hK.out _ _ ?_
  clear hK K
  try simp only [List.getElem_toArray, List.getElem_cons_succ, List.getElem_cons_zero, Act.put, List.setIfInBounds_toArray, List.set_cons_zero, List.set_cons_succ]
  refine Any.done (by kernel_rfl) ?_ _
  replace ZX : Hid (Blk (wc.setCell ⟨w.heap.size, 5, none⟩ (.slice B3 NL d3)) w.heap.size 45 #[.int .i64 m.h, .int .i64 m.cap, .slice A1 m.l.length c1, .int .i64 m.n, .int .i64 m.draws, .slice B3 NL d3]) := mkHid (ZX.out.set 5 _)
  replace ZZ := mkHid (ZZ.out.other (m := w.heap.size) (i := 5) (.slice B3 NL d3) (by omega))
  replace ZA := mkHid (ZA.out.other (m := w.heap.size) (i := 5) (.slice B3 NL d3) (by omega))
  replace ZP := mkHid (ZP.out.other (m := w.heap.size) (i := 5) (.slice B3 NL d3) (by omega))
  replace KB : Hid (Below w.heap.size w (wc.setCell ⟨w.heap.size, 5, none⟩ (.slice B3 NL d3))) := mkHid (KB.out.setCell (Nat.le_refl _) _)
  replace HO := mkHid (HO.out.past (g := w.heap.size) (by omega) 5 (.slice B3 NL d3))
  clear k2 k5 o3 o4 fz lZA
  generalize wc.setCell ⟨w.heap.size, 5, none⟩ (.slice B3 NL d3) = w4 at *
  have lZA : w.heap.size + 1 + 1 + 1 < w4.heap.size := ZA.out.lt
  have cX := ZX.out.six
  have cP := ZP.out.five
  have cZ := ZZ.out.six
  have cA := ZA.out.five
  have gz0 := ZZ.out.frozen 0
  have gz1 := ZZ.out.frozen 1
  have gz2 := ZZ.out.frozen 2
  have gz3 := ZZ.out.frozen 3
  have gz4 := ZZ.out.frozen 4
  have gz5 := ZZ.out.frozen 5
  have ga0 := ZA.out.frozen 0
  have ga1 := ZA.out.frozen 1
  have ga2 := ZA.out.frozen 2
  have ga3 := ZA.out.frozen 3
  have ga4 := ZA.out.frozen 4
  go_wp2_with fail
  have qR := ((ZZ.out.fill6 (b0 := .int .i64 m.h) (b1 := .int .i64 m.cap) (b2 := .slice A1 m.l.length c1) (b3 := .int .i64 m.n) (b4 := .int .i64 m.draws) (b5 := .slice B3 NL d3)).other5 (g := (w.heap.size + 1 + 1 + 1)) (x0 := .int .i64 0) (x1 := .int .i64 ((m.sent.length : Int) + 1)) (x2 := .int .i64 ((m.sent.length : Int) + 1)) (x3 := .int .u64 0) (x4 := .int .u64 0) (by omega)).six
  have qA := ((ZA.out.other6 (g := (w.heap.size + 1 + 1)) (x0 := .int .i64 m.h) (x1 := .int .i64 m.cap) (x2 := .slice A1 m.l.length c1) (x3 := .int .i64 m.n) (x4 := .int .i64 m.draws) (x5 := .slice B3 NL d3) (by omega)).fill5 (b0 := .int .i64 0) (b1 := .int .i64 ((m.sent.length : Int) + 1)) (b2 := .int .i64 ((m.sent.length : Int) + 1)) (b3 := .int .u64 0) (b4 := .int .u64 0)).five
  refine bodyPost_ret (v := .tuple #[.agg #[.int .i64 m.h, .int .i64 m.cap, .slice A1 m.l.length c1, .int .i64 m.n, .int .i64 m.draws, .slice B3 NL d3], .agg #[.int .i64 0, .int .i64 ((m.sent.length : Int) + 1), .int .i64 ((m.sent.length : Int) + 1), .int .u64 0, .int .u64 0], .int .i64 0]) (by simp [results, Try.results33, go_sem, qR, qA]) rfl ⟨_, _, _, _, (X1 ++ [⟨A3, c3, ⟨m.l, (m.sent.length : Int) + 1, (p1, p2)⟩⟩]), by rw [HNL.out]; rfl, OwnM.base (b' := w.heap.size + 4) ?_ (by omega), below_five (below_six KB.out (by omega) _ _ _ _ _ _) (by omega) _ _ _ _ _⟩
  exact (HO.out.past6 (by omega) _ _ _ _ _ _).past5 (by omega) _ _ _ _ _

set_option linter.unusedSimpArgs false in
set_option maxRecDepth 100000 in
set_option maxHeartbeats 4000000 in
theorem rmd4_err {m : ModD} {i : Nat} {n : Int} {p1 p2 : BitVec 64} (e : Hid ((if okM m then (0 : Int) else 1) = 0)) (SZ : Hid (m.l.length ≤ 1024 ∧ m.sent.length ≤ 4096)) (SZS : Hid (∀ s ∈ m.sent, s.out.length ≤ 1024)) {z : Bool} {r : Int} (r0 : r ≠ 0) (hm : Hid (mayM m i n = (z, r)))  (A : Option Addr) (c : Nat) (B : Option Addr) (d : Nat) (w : World) (hM : MemM w A c B d m) :
    Calls Try.prog 33 #[.agg #[.int .i64 m.h, .int .i64 m.cap, .slice A m.l.length c, .int .i64 m.n, .int .i64 m.draws, .slice B m.sent.length d], .agg #[.int .i64 4, .int .u64 (i : Int), .int .i64 n, .int .u64 (p1.toNat : Int), .int .u64 (p2.toNat : Int)]] w (DoPost m (ansE r) 0 w) := by
  have t9 : (r != (0 : Int)) = true := bne_iff_ne.2 r0
  have ZX : Hid (Blk ((((w.alloc (.cells #[.int .i64 m.h, .int .i64 m.cap, .slice A m.l.length c, .int .i64 m.n, .int .i64 m.draws, .slice B m.sent.length d] 45)).alloc (.cells #[.int .i64 4, .int .u64 (i : Int), .int .i64 n, .int .u64 (p1.toNat : Int), .int .u64 (p2.toNat : Int)] 53)).alloc (.cells #[.int .i64 0, .int .i64 0, .slice none 0 0, .int .i64 0, .int .i64 0, .slice none 0 0] 45)).alloc (.cells #[.int .i64 0, .int .i64 0, .int .i64 0, .int .u64 0, .int .u64 0] 55)) w.heap.size 45 #[.int .i64 m.h, .int .i64 m.cap, .slice A m.l.length c, .int .i64 m.n, .int .i64 m.draws, .slice B m.sent.length d]) := mkHid ((((Blk.new _ _ _).alloc _).alloc _).alloc _)
  have ZP : Hid (Blk ((((w.alloc (.cells #[.int .i64 m.h, .int .i64 m.cap, .slice A m.l.length c, .int .i64 m.n, .int .i64 m.draws, .slice B m.sent.length d] 45)).alloc (.cells #[.int .i64 4, .int .u64 (i : Int), .int .i64 n, .int .u64 (p1.toNat : Int), .int .u64 (p2.toNat : Int)] 53)).alloc (.cells #[.int .i64 0, .int .i64 0, .slice none 0 0, .int .i64 0, .int .i64 0, .slice none 0 0] 45)).alloc (.cells #[.int .i64 0, .int .i64 0, .int .i64 0, .int .u64 0, .int .u64 0] 55)) (w.heap.size + 1) 53 #[.int .i64 4, .int .u64 (i : Int), .int .i64 n, .int .u64 (p1.toNat : Int), .int .u64 (p2.toNat : Int)]) := mkHid (((Blk.at _ _ _ (by simp)).alloc _).alloc _)
  have ZZ : Hid (Blk ((((w.alloc (.cells #[.int .i64 m.h, .int .i64 m.cap, .slice A m.l.length c, .int .i64 m.n, .int .i64 m.draws, .slice B m.sent.length d] 45)).alloc (.cells #[.int .i64 4, .int .u64 (i : Int), .int .i64 n, .int .u64 (p1.toNat : Int), .int .u64 (p2.toNat : Int)] 53)).alloc (.cells #[.int .i64 0, .int .i64 0, .slice none 0 0, .int .i64 0, .int .i64 0, .slice none 0 0] 45)).alloc (.cells #[.int .i64 0, .int .i64 0, .int .i64 0, .int .u64 0, .int .u64 0] 55)) (w.heap.size + 1 + 1) 45 #[.int .i64 0, .int .i64 0, .slice none 0 0, .int .i64 0, .int .i64 0, .slice none 0 0]) := mkHid ((Blk.at _ _ _ (by simp)).alloc _)
  have ZA : Hid (Blk ((((w.alloc (.cells #[.int .i64 m.h, .int .i64 m.cap, .slice A m.l.length c, .int .i64 m.n, .int .i64 m.draws, .slice B m.sent.length d] 45)).alloc (.cells #[.int .i64 4, .int .u64 (i : Int), .int .i64 n, .int .u64 (p1.toNat : Int), .int .u64 (p2.toNat : Int)] 53)).alloc (.cells #[.int .i64 0, .int .i64 0, .slice none 0 0, .int .i64 0, .int .i64 0, .slice none 0 0] 45)).alloc (.cells #[.int .i64 0, .int .i64 0, .int .i64 0, .int .u64 0, .int .u64 0] 55)) (w.heap.size + 1 + 1 + 1) 55 #[.int .i64 0, .int .i64 0, .int .i64 0, .int .u64 0, .int .u64 0]) := mkHid (Blk.at _ _ _ (by simp))
  have KB : Hid (Below w.heap.size w ((((w.alloc (.cells #[.int .i64 m.h, .int .i64 m.cap, .slice A m.l.length c, .int .i64 m.n, .int .i64 m.draws, .slice B m.sent.length d] 45)).alloc (.cells #[.int .i64 4, .int .u64 (i : Int), .int .i64 n, .int .u64 (p1.toNat : Int), .int .u64 (p2.toNat : Int)] 53)).alloc (.cells #[.int .i64 0, .int .i64 0, .slice none 0 0, .int .i64 0, .int .i64 0, .slice none 0 0] 45)).alloc (.cells #[.int .i64 0, .int .i64 0, .int .i64 0, .int .u64 0, .int .u64 0] 55))) := mkHid (((((Below.refl _ _).alloc (Nat.le_refl _) (.cells #[.int .i64 m.h, .int .i64 m.cap, .slice A m.l.length c, .int .i64 m.n, .int .i64 m.draws, .slice B m.sent.length d] 45)).alloc (by simp) (.cells #[.int .i64 4, .int .u64 (i : Int), .int .i64 n, .int .u64 (p1.toNat : Int), .int .u64 (p2.toNat : Int)] 53)).alloc (by simp; omega) (.cells #[.int .i64 0, .int .i64 0, .slice none 0 0, .int .i64 0, .int .i64 0, .slice none 0 0] 45)).alloc (by simp; omega) (.cells #[.int .i64 0, .int .i64 0, .int .i64 0, .int .u64 0, .int .u64 0] 55))
  have HM := mkHid (hM.below (((((Below.refl _ _).alloc (Nat.le_refl _) (.cells #[.int .i64 m.h, .int .i64 m.cap, .slice A m.l.length c, .int .i64 m.n, .int .i64 m.draws, .slice B m.sent.length d] 45)).alloc (by simp) (.cells #[.int .i64 4, .int .u64 (i : Int), .int .i64 n, .int .u64 (p1.toNat : Int), .int .u64 (p2.toNat : Int)] 53)).alloc (by simp; omega) (.cells #[.int .i64 0, .int .i64 0, .slice none 0 0, .int .i64 0, .int .i64 0, .slice none 0 0] 45)).alloc (by simp; omega) (.cells #[.int .i64 0, .int .i64 0, .int .i64 0, .int .u64 0, .int .u64 0] 55)))
  clear hM
  go_enter Try.func33, Try.ntmps33
  go_upto_region 1 with fail
  generalize ((((w.alloc (.cells #[.int .i64 m.h, .int .i64 m.cap, .slice A m.l.length c, .int .i64 m.n, .int .i64 m.draws, .slice B m.sent.length d] 45)).alloc (.cells #[.int .i64 4, .int .u64 (i : Int), .int .i64 n, .int .u64 (p1.toNat : Int), .int .u64 (p2.toNat : Int)] 53)).alloc (.cells #[.int .i64 0, .int .i64 0, .slice none 0 0, .int .i64 0, .int .i64 0, .slice none 0 0] 45)).alloc (.cells #[.int .i64 0, .int .i64 0, .int .i64 0, .int .u64 0, .int .u64 0] 55)) = w0 at *
  have lZA : w.heap.size + 1 + 1 + 1 < w0.heap.size := ZA.out.lt
  have cX := ZX.out.six
  have cP := ZP.out.five
  go_wp2_with fail
  refine (rmchk e _ _ _ _ _ HM.out.reads HM.out.sents).mono ?_
  rintro e w1 ⟨rfl, hb⟩
  replace ZX := mkHid (ZX.out.keep hb)
  replace ZP := mkHid (ZP.out.keep hb)
  replace ZZ := mkHid (ZZ.out.keep hb)
  replace ZA := mkHid (ZA.out.keep hb)
  replace KB := mkHid (KB.out.step hb)
  replace HM := mkHid (HM.out.below hb)
  clear hb
  clear lZA cX cP
  have lZA : w.heap.size + 1 + 1 + 1 < w1.heap.size := ZA.out.lt
  have cX := ZX.out.six
  have cP := ZP.out.five
  go_wp2_with fail
  refine (rmcopy SZ SZS _ _ _ _ _ HM.out).mono ?_
  rintro e w2 ⟨A1, c1, B1, d1, X1, rfl, ho, hb⟩
  have HO := mkHid (ho.base (b := w.heap.size + 4) (by omega))
  clear ho HM
  replace ZX := mkHid (ZX.out.keep hb)
  replace ZP := mkHid (ZP.out.keep hb)
  replace ZZ := mkHid (ZZ.out.keep hb)
  replace ZA := mkHid (ZA.out.keep hb)
  replace KB := mkHid (KB.out.step hb)
  clear hb
  clear lZA cX cP
  have lZA : w.heap.size + 1 + 1 + 1 < w2.heap.size := ZA.out.lt
  have cX := ZX.out.six
  have cP := ZP.out.five
  have fX0 := ZX.out.frozen 0
  have fX1 := ZX.out.frozen 1
  have fX2 := ZX.out.frozen 2
  have fX3 := ZX.out.frozen 3
  have fX4 := ZX.out.frozen 4
  have fX5 := ZX.out.frozen 5
  go_upto_region 4 with fail
  replace ZX := mkHid (ZX.out.fill6 (b0 := .int .i64 m.h) (b1 := .int .i64 m.cap) (b2 := .slice A1 m.l.length c1) (b3 := .int .i64 m.n) (b4 := .int .i64 m.draws) (b5 := .slice B1 m.sent.length d1))
  replace ZP := mkHid (ZP.out.other6 (g := w.heap.size) (x0 := .int .i64 m.h) (x1 := .int .i64 m.cap) (x2 := .slice A1 m.l.length c1) (x3 := .int .i64 m.n) (x4 := .int .i64 m.draws) (x5 := .slice B1 m.sent.length d1) (by omega))
  replace ZZ := mkHid (ZZ.out.other6 (g := w.heap.size) (x0 := .int .i64 m.h) (x1 := .int .i64 m.cap) (x2 := .slice A1 m.l.length c1) (x3 := .int .i64 m.n) (x4 := .int .i64 m.draws) (x5 := .slice B1 m.sent.length d1) (by omega))
  replace ZA := mkHid (ZA.out.other6 (g := w.heap.size) (x0 := .int .i64 m.h) (x1 := .int .i64 m.cap) (x2 := .slice A1 m.l.length c1) (x3 := .int .i64 m.n) (x4 := .int .i64 m.draws) (x5 := .slice B1 m.sent.length d1) (by omega))
  replace KB := mkHid (below_six KB.out (Nat.le_refl _) (.int .i64 m.h) (.int .i64 m.cap) (.slice A1 m.l.length c1) (.int .i64 m.n) (.int .i64 m.draws) (.slice B1 m.sent.length d1))
  replace HO := mkHid (HO.out.past6 (g := w.heap.size) (by omega) (.int .i64 m.h) (.int .i64 m.cap) (.slice A1 m.l.length c1) (.int .i64 m.n) (.int .i64 m.draws) (.slice B1 m.sent.length d1))
  clear lZA cX cP fX0 fX1 fX2 fX3 fX4 fX5
  generalize ((((((w2.setCell ⟨w.heap.size, 0, none⟩ (.int .i64 m.h)).setCell ⟨w.heap.size, 1, none⟩ (.int .i64 m.cap)).setCell ⟨w.heap.size, 2, none⟩ (.slice A1 m.l.length c1)).setCell ⟨w.heap.size, 3, none⟩ (.int .i64 m.n)).setCell ⟨w.heap.size, 4, none⟩ (.int .i64 m.draws)).setCell ⟨w.heap.size, 5, none⟩ (.slice B1 m.sent.length d1)) = w3 at *
  have lZA : w.heap.size + 1 + 1 + 1 < w3.heap.size := ZA.out.lt
  have cX := ZX.out.six
  have cP := ZP.out.five
  go_wp2_with fail
  refine (rmmay hm _ _ _ _ _ (HO.out.mem (by have := SZ.out; omega))).mono ?_
  rintro e w4 ⟨rfl, hb⟩
  replace ZX := mkHid (ZX.out.keep hb)
  replace ZP := mkHid (ZP.out.keep hb)
  replace ZZ := mkHid (ZZ.out.keep hb)
  replace ZA := mkHid (ZA.out.keep hb)
  replace KB := mkHid (KB.out.step hb)
  replace HO := mkHid (HO.out.below hb)
  clear hb
  clear lZA cX cP
  have lZA : w.heap.size + 1 + 1 + 1 < w4.heap.size := ZA.out.lt
  have cX := ZX.out.six
  have cP := ZP.out.five
  have cZ := ZZ.out.six
  have cA := ZA.out.five
  have gz0 := ZZ.out.frozen 0
  have gz1 := ZZ.out.frozen 1
  have gz2 := ZZ.out.frozen 2
  have gz3 := ZZ.out.frozen 3
  have gz4 := ZZ.out.frozen 4
  have gz5 := ZZ.out.frozen 5
  have ga0 := ZA.out.frozen 0
  have ga1 := ZA.out.frozen 1
  have ga2 := ZA.out.frozen 2
  have ga3 := ZA.out.frozen 3
  have ga4 := ZA.out.frozen 4
  go_wp2_with fail
  have qR := ((ZZ.out.fill6 (b0 := .int .i64 m.h) (b1 := .int .i64 m.cap) (b2 := .slice A1 m.l.length c1) (b3 := .int .i64 m.n) (b4 := .int .i64 m.draws) (b5 := .slice B1 m.sent.length d1)).other5 (g := (w.heap.size + 1 + 1 + 1)) (x0 := .int .i64 r) (x1 := .int .i64 0) (x2 := .int .i64 0) (x3 := .int .u64 0) (x4 := .int .u64 0) (by omega)).six
  have qA := ((ZA.out.other6 (g := (w.heap.size + 1 + 1)) (x0 := .int .i64 m.h) (x1 := .int .i64 m.cap) (x2 := .slice A1 m.l.length c1) (x3 := .int .i64 m.n) (x4 := .int .i64 m.draws) (x5 := .slice B1 m.sent.length d1) (by omega)).fill5 (b0 := .int .i64 r) (b1 := .int .i64 0) (b2 := .int .i64 0) (b3 := .int .u64 0) (b4 := .int .u64 0)).five
  refine bodyPost_ret (v := .tuple #[.agg #[.int .i64 m.h, .int .i64 m.cap, .slice A1 m.l.length c1, .int .i64 m.n, .int .i64 m.draws, .slice B1 m.sent.length d1], .agg #[.int .i64 r, .int .i64 0, .int .i64 0, .int .u64 0, .int .u64 0], .int .i64 0]) (by simp [results, Try.results33, go_sem, qR, qA]) rfl ⟨_, _, _, _, X1, rfl, OwnM.base (b' := w.heap.size + 4) ?_ (by omega), below_five (below_six KB.out (by omega) _ _ _ _ _ _) (by omega) _ _ _ _ _⟩
  exact (HO.out.past6 (by omega) _ _ _ _ _ _).past5 (by omega) _ _ _ _ _

set_option linter.unusedSimpArgs false in
set_option maxRecDepth 100000 in
set_option maxHeartbeats 4000000 in
theorem rmd4_no {m : ModD} {i : Nat} {n : Int} {p1 p2 : BitVec 64} (e : Hid ((if okM m then (0 : Int) else 1) = 0)) (SZ : Hid (m.l.length ≤ 1024 ∧ m.sent.length ≤ 4096)) (SZS : Hid (∀ s ∈ m.sent, s.out.length ≤ 1024)) (hm : Hid (mayM m i n = (false, 0)))  (A : Option Addr) (c : Nat) (B : Option Addr) (d : Nat) (w : World) (hM : MemM w A c B d m) :
    Calls Try.prog 33 #[.agg #[.int .i64 m.h, .int .i64 m.cap, .slice A m.l.length c, .int .i64 m.n, .int .i64 m.draws, .slice B m.sent.length d], .agg #[.int .i64 4, .int .u64 (i : Int), .int .i64 n, .int .u64 (p1.toNat : Int), .int .u64 (p2.toNat : Int)]] w (DoPost m ⟨4, n, 0, (0, 0)⟩ 0 w) := by
  skip
  have ZX : Hid (Blk ((((w.alloc (.cells #[.int .i64 m.h, .int .i64 m.cap, .slice A m.l.length c, .int .i64 m.n, .int .i64 m.draws, .slice B m.sent.length d] 45)).alloc (.cells #[.int .i64 4, .int .u64 (i : Int), .int .i64 n, .int .u64 (p1.toNat : Int), .int .u64 (p2.toNat : Int)] 53)).alloc (.cells #[.int .i64 0, .int .i64 0, .slice none 0 0, .int .i64 0, .int .i64 0, .slice none 0 0] 45)).alloc (.cells #[.int .i64 0, .int .i64 0, .int .i64 0, .int .u64 0, .int .u64 0] 55)) w.heap.size 45 #[.int .i64 m.h, .int .i64 m.cap, .slice A m.l.length c, .int .i64 m.n, .int .i64 m.draws, .slice B m.sent.length d]) := mkHid ((((Blk.new _ _ _).alloc _).alloc _).alloc _)
  have ZP : Hid (Blk ((((w.alloc (.cells #[.int .i64 m.h, .int .i64 m.cap, .slice A m.l.length c, .int .i64 m.n, .int .i64 m.draws, .slice B m.sent.length d] 45)).alloc (.cells #[.int .i64 4, .int .u64 (i : Int), .int .i64 n, .int .u64 (p1.toNat : Int), .int .u64 (p2.toNat : Int)] 53)).alloc (.cells #[.int .i64 0, .int .i64 0, .slice none 0 0, .int .i64 0, .int .i64 0, .slice none 0 0] 45)).alloc (.cells #[.int .i64 0, .int .i64 0, .int .i64 0, .int .u64 0, .int .u64 0] 55)) (w.heap.size + 1) 53 #[.int .i64 4, .int .u64 (i : Int), .int .i64 n, .int .u64 (p1.toNat : Int), .int .u64 (p2.toNat : Int)]) := mkHid (((Blk.at _ _ _ (by simp)).alloc _).alloc _)
  have ZZ : Hid (Blk ((((w.alloc (.cells #[.int .i64 m.h, .int .i64 m.cap, .slice A m.l.length c, .int .i64 m.n, .int .i64 m.draws, .slice B m.sent.length d] 45)).alloc (.cells #[.int .i64 4, .int .u64 (i : Int), .int .i64 n, .int .u64 (p1.toNat : Int), .int .u64 (p2.toNat : Int)] 53)).alloc (.cells #[.int .i64 0, .int .i64 0, .slice none 0 0, .int .i64 0, .int .i64 0, .slice none 0 0] 45)).alloc (.cells #[.int .i64 0, .int .i64 0, .int .i64 0, .int .u64 0, .int .u64 0] 55)) (w.heap.size + 1 + 1) 45 #[.int .i64 0, .int .i64 0, .slice none 0 0, .int .i64 0, .int .i64 0, .slice none 0 0]) := mkHid ((Blk.at _ _ _ (by simp)).alloc _)
  have ZA : Hid (Blk ((((w.alloc (.cells #[.int .i64 m.h, .int .i64 m.cap, .slice A m.l.length c, .int .i64 m.n, .int .i64 m.draws, .slice B m.sent.length d] 45)).alloc (.cells #[.int .i64 4, .int .u64 (i : Int), .int .i64 n, .int .u64 (p1.toNat : Int), .int .u64 (p2.toNat : Int)] 53)).alloc (.cells #[.int .i64 0, .int .i64 0, .slice none 0 0, .int .i64 0, .int .i64 0, .slice none 0 0] 45)).alloc (.cells #[.int .i64 0, .int .i64 0, .int .i64 0, .int .u64 0, .int .u64 0] 55)) (w.heap.size + 1 + 1 + 1) 55 #[.int .i64 0, .int .i64 0, .int .i64 0, .int .u64 0, .int .u64 0]) := mkHid (Blk.at _ _ _ (by simp))
  have KB : Hid (Below w.heap.size w ((((w.alloc (.cells #[.int .i64 m.h, .int .i64 m.cap, .slice A m.l.length c, .int .i64 m.n, .int .i64 m.draws, .slice B m.sent.length d] 45)).alloc (.cells #[.int .i64 4, .int .u64 (i : Int), .int .i64 n, .int .u64 (p1.toNat : Int), .int .u64 (p2.toNat : Int)] 53)).alloc (.cells #[.int .i64 0, .int .i64 0, .slice none 0 0, .int .i64 0, .int .i64 0, .slice none 0 0] 45)).alloc (.cells #[.int .i64 0, .int .i64 0, .int .i64 0, .int .u64 0, .int .u64 0] 55))) := mkHid (((((Below.refl _ _).alloc (Nat.le_refl _) (.cells #[.int .i64 m.h, .int .i64 m.cap, .slice A m.l.length c, .int .i64 m.n, .int .i64 m.draws, .slice B m.sent.length d] 45)).alloc (by simp) (.cells #[.int .i64 4, .int .u64 (i : Int), .int .i64 n, .int .u64 (p1.toNat : Int), .int .u64 (p2.toNat : Int)] 53)).alloc (by simp; omega) (.cells #[.int .i64 0, .int .i64 0, .slice none 0 0, .int .i64 0, .int .i64 0, .slice none 0 0] 45)).alloc (by simp; omega) (.cells #[.int .i64 0, .int .i64 0, .int .i64 0, .int .u64 0, .int .u64 0] 55))
  have HM := mkHid (hM.below (((((Below.refl _ _).alloc (Nat.le_refl _) (.cells #[.int .i64 m.h, .int .i64 m.cap, .slice A m.l.length c, .int .i64 m.n, .int .i64 m.draws, .slice B m.sent.length d] 45)).alloc (by simp) (.cells #[.int .i64 4, .int .u64 (i : Int), .int .i64 n, .int .u64 (p1.toNat : Int), .int .u64 (p2.toNat : Int)] 53)).alloc (by simp; omega) (.cells #[.int .i64 0, .int .i64 0, .slice none 0 0, .int .i64 0, .int .i64 0, .slice none 0 0] 45)).alloc (by simp; omega) (.cells #[.int .i64 0, .int .i64 0, .int .i64 0, .int .u64 0, .int .u64 0] 55)))
  clear hM
  go_enter Try.func33, Try.ntmps33
  go_upto_region 1 with fail
  generalize ((((w.alloc (.cells #[.int .i64 m.h, .int .i64 m.cap, .slice A m.l.length c, .int .i64 m.n, .int .i64 m.draws, .slice B m.sent.length d] 45)).alloc (.cells #[.int .i64 4, .int .u64 (i : Int), .int .i64 n, .int .u64 (p1.toNat : Int), .int .u64 (p2.toNat : Int)] 53)).alloc (.cells #[.int .i64 0, .int .i64 0, .slice none 0 0, .int .i64 0, .int .i64 0, .slice none 0 0] 45)).alloc (.cells #[.int .i64 0, .int .i64 0, .int .i64 0, .int .u64 0, .int .u64 0] 55)) = w0 at *
  have lZA : w.heap.size + 1 + 1 + 1 < w0.heap.size := ZA.out.lt
  have cX := ZX.out.six
  have cP := ZP.out.five
  go_wp2_with fail
  refine (rmchk e _ _ _ _ _ HM.out.reads HM.out.sents).mono ?_
  rintro e w1 ⟨rfl, hb⟩
  replace ZX := mkHid (ZX.out.keep hb)
  replace ZP := mkHid (ZP.out.keep hb)
  replace ZZ := mkHid (ZZ.out.keep hb)
  replace ZA := mkHid (ZA.out.keep hb)
  replace KB := mkHid (KB.out.step hb)
  replace HM := mkHid (HM.out.below hb)
  clear hb
  clear lZA cX cP
  have lZA : w.heap.size + 1 + 1 + 1 < w1.heap.size := ZA.out.lt
  have cX := ZX.out.six
  have cP := ZP.out.five
  go_wp2_with fail
  refine (rmcopy SZ SZS _ _ _ _ _ HM.out).mono ?_
  rintro e w2 ⟨A1, c1, B1, d1, X1, rfl, ho, hb⟩
  have HO := mkHid (ho.base (b := w.heap.size + 4) (by omega))
  clear ho HM
  replace ZX := mkHid (ZX.out.keep hb)
  replace ZP := mkHid (ZP.out.keep hb)
  replace ZZ := mkHid (ZZ.out.keep hb)
  replace ZA := mkHid (ZA.out.keep hb)
  replace KB := mkHid (KB.out.step hb)
  clear hb
  clear lZA cX cP
  have lZA : w.heap.size + 1 + 1 + 1 < w2.heap.size := ZA.out.lt
  have cX := ZX.out.six
  have cP := ZP.out.five
  have fX0 := ZX.out.frozen 0
  have fX1 := ZX.out.frozen 1
  have fX2 := ZX.out.frozen 2
  have fX3 := ZX.out.frozen 3
  have fX4 := ZX.out.frozen 4
  have fX5 := ZX.out.frozen 5
  go_upto_region 4 with fail
  replace ZX := mkHid (ZX.out.fill6 (b0 := .int .i64 m.h) (b1 := .int .i64 m.cap) (b2 := .slice A1 m.l.length c1) (b3 := .int .i64 m.n) (b4 := .int .i64 m.draws) (b5 := .slice B1 m.sent.length d1))
  replace ZP := mkHid (ZP.out.other6 (g := w.heap.size) (x0 := .int .i64 m.h) (x1 := .int .i64 m.cap) (x2 := .slice A1 m.l.length c1) (x3 := .int .i64 m.n) (x4 := .int .i64 m.draws) (x5 := .slice B1 m.sent.length d1) (by omega))
  replace ZZ := mkHid (ZZ.out.other6 (g := w.heap.size) (x0 := .int .i64 m.h) (x1 := .int .i64 m.cap) (x2 := .slice A1 m.l.length c1) (x3 := .int .i64 m.n) (x4 := .int .i64 m.draws) (x5 := .slice B1 m.sent.length d1) (by omega))
  replace ZA := mkHid (ZA.out.other6 (g := w.heap.size) (x0 := .int .i64 m.h) (x1 := .int .i64 m.cap) (x2 := .slice A1 m.l.length c1) (x3 := .int .i64 m.n) (x4 := .int .i64 m.draws) (x5 := .slice B1 m.sent.length d1) (by omega))
  replace KB := mkHid (below_six KB.out (Nat.le_refl _) (.int .i64 m.h) (.int .i64 m.cap) (.slice A1 m.l.length c1) (.int .i64 m.n) (.int .i64 m.draws) (.slice B1 m.sent.length d1))
  replace HO := mkHid (HO.out.past6 (g := w.heap.size) (by omega) (.int .i64 m.h) (.int .i64 m.cap) (.slice A1 m.l.length c1) (.int .i64 m.n) (.int .i64 m.draws) (.slice B1 m.sent.length d1))
  clear lZA cX cP fX0 fX1 fX2 fX3 fX4 fX5
  generalize ((((((w2.setCell ⟨w.heap.size, 0, none⟩ (.int .i64 m.h)).setCell ⟨w.heap.size, 1, none⟩ (.int .i64 m.cap)).setCell ⟨w.heap.size, 2, none⟩ (.slice A1 m.l.length c1)).setCell ⟨w.heap.size, 3, none⟩ (.int .i64 m.n)).setCell ⟨w.heap.size, 4, none⟩ (.int .i64 m.draws)).setCell ⟨w.heap.size, 5, none⟩ (.slice B1 m.sent.length d1)) = w3 at *
  have lZA : w.heap.size + 1 + 1 + 1 < w3.heap.size := ZA.out.lt
  have cX := ZX.out.six
  have cP := ZP.out.five
  go_wp2_with fail
  refine (rmmay hm _ _ _ _ _ (HO.out.mem (by have := SZ.out; omega))).mono ?_
  rintro e w4 ⟨rfl, hb⟩
  replace ZX := mkHid (ZX.out.keep hb)
  replace ZP := mkHid (ZP.out.keep hb)
  replace ZZ := mkHid (ZZ.out.keep hb)
  replace ZA := mkHid (ZA.out.keep hb)
  replace KB := mkHid (KB.out.step hb)
  replace HO := mkHid (HO.out.below hb)
  clear hb
  clear lZA cX cP
  have lZA : w.heap.size + 1 + 1 + 1 < w4.heap.size := ZA.out.lt
  have cX := ZX.out.six
  have cP := ZP.out.five
  go_upto_region 9 with fail
  replace ZX : Hid (Blk w4.drew _ _ _) := mkHid ZX.out.drew
  replace ZA : Hid (Blk w4.drew _ _ _) := mkHid ZA.out.drew
  replace ZZ : Hid (Blk w4.drew _ _ _) := mkHid ZZ.out.drew
  replace ZP : Hid (Blk w4.drew _ _ _) := mkHid ZP.out.drew
  replace KB : Hid (Below w.heap.size w w4.drew) := mkHid KB.out.drew
  replace HO := mkHid (HO.out.below (Below.drew (Below.refl _ w4)))
  have lZD : w.heap.size + 1 + 1 + 1 < w4.drew.heap.size := lZA
  clear cX cP lZA

  have cZ := ZZ.out.six
  have cA := ZA.out.five
  have gz0 := ZZ.out.frozen 0
  have gz1 := ZZ.out.frozen 1
  have gz2 := ZZ.out.frozen 2
  have gz3 := ZZ.out.frozen 3
  have gz4 := ZZ.out.frozen 4
  have gz5 := ZZ.out.frozen 5
  have ga0 := ZA.out.frozen 0
  have ga1 := ZA.out.frozen 1
  have ga2 := ZA.out.frozen 2
  have ga3 := ZA.out.frozen 3
  have ga4 := ZA.out.frozen 4
  refine wp_region_late (late := fun i => decide (5 ≤ i)) (S := fun w' => Hid (Blk w' w.heap.size 45 #[.int .i64 m.h, .int .i64 m.cap, .slice A1 m.l.length c1, .int .i64 m.n, .int .i64 m.draws, .slice B1 m.sent.length d1]) ∧ Hid (Blk w' (w.heap.size + 1) 53 #[.int .i64 4, .int .u64 (i : Int), .int .i64 n, .int .u64 (p1.toNat : Int), .int .u64 (p2.toNat : Int)])) (by kernel_rfl) ?_ (fun hHeld => ?_)
  · ((try dsimp only); (try go_split_ands); refine ⟨?_, ?_⟩ <;> first | with_reducible assumption | (with_reducible refine mkHid (Blk.other6 (Hid.out ?_) ?_) <;> first | with_reducible assumption | omega))
  generalize w4.drew = u0 at *
  refine Any.take (i := 0) (v := ?_) rfl (by kernel_rfl) (by kernel_rfl) (by kernel_rfl) (by kernel_rfl) (fun _ _ _ h => h) (Or.inl ⟨by rfl, ?_⟩) hHeld ?_
  rotate_left
  · intro w hSw
    (try dsimp only at hSw)
    have q := hSw.1.out.six
    clear hSw
    go_simp
    all_goals with_reducible rfl
  try simp only [List.getElem_toArray, List.getElem_cons_succ, List.getElem_cons_zero, Act.put, List.setIfInBounds_toArray, List.set_cons_zero, List.set_cons_succ]
  refine Any.take (i := 1) (v := ?_) rfl (by kernel_rfl) (by kernel_rfl) (by kernel_rfl) (by kernel_rfl) (fun _ _ _ h => h) (Or.inl ⟨by rfl, ?_⟩) hHeld ?_
  rotate_left
  · intro w hSw
    (try dsimp only at hSw)
    go_simp
    all_goals with_reducible rfl
  try simp only [List.getElem_toArray, List.getElem_cons_succ, List.getElem_cons_zero, Act.put, List.setIfInBounds_toArray, List.set_cons_zero, List.set_cons_succ]
  refine Any.take (i := 2) (v := ?_) rfl (by kernel_rfl) (by kernel_rfl) (by kernel_rfl) (by kernel_rfl) (fun _ _ _ h => h) (Or.inl ⟨by rfl, ?_⟩) hHeld ?_
  rotate_left
  · intro w hSw
    (try dsimp only at hSw)
    have q := hSw.2.out.five
    clear hSw
    go_simp
    all_goals with_reducible rfl
  try simp only [List.getElem_toArray, List.getElem_cons_succ, List.getElem_cons_zero, Act.put, List.setIfInBounds_toArray, List.set_cons_zero, List.set_cons_succ]
  refine Any.take (i := 3) (v := ?_) rfl (by kernel_rfl) (by kernel_rfl) (by kernel_rfl) (by kernel_rfl) (fun _ _ _ h => h) (Or.inl ⟨by rfl, ?_⟩) hHeld ?_
  rotate_left
  · intro w hSw
    (try dsimp only at hSw)
    go_simp
    all_goals with_reducible rfl
  try simp only [List.getElem_toArray, List.getElem_cons_succ, List.getElem_cons_zero, Act.put, List.setIfInBounds_toArray, List.set_cons_zero, List.set_cons_succ]
  refine Any.ready (rs := [4]) (by kernel_rfl) (by simp) ?_
  refine AllAny.cons rfl rfl (fun K hK => ?_) AllAny.nil
  go_simp
  refine hK.out _ _ ?_ (fun hHeld => ?_)
  · ((try dsimp only); (try go_split_ands); refine ⟨?_, ?_⟩ <;> first | with_reducible assumption | (with_reducible refine mkHid (Blk.other6 (Hid.out ?_) ?_) <;> first | with_reducible assumption | omega))
  clear hK K
  try simp only [List.getElem_toArray, List.getElem_cons_succ, List.getElem_cons_zero, Act.put, List.setIfInBounds_toArray, List.set_cons_zero, List.set_cons_succ]
  refine Any.ready (rs := [5]) (by kernel_rfl) (by simp) ?_
  refine AllAny.lateCons rfl rfl (fun K hK => ?_) AllAny.nil
  go_simp
  refine hK.out _ _ ?_
  clear hK K
  try simp only [List.getElem_toArray, List.getElem_cons_succ, List.getElem_cons_zero, Act.put, List.setIfInBounds_toArray, List.set_cons_zero, List.set_cons_succ]
  refine Any.ready (rs := [6]) (by kernel_rfl) (by simp) ?_
  refine AllAny.lateCons rfl rfl (fun K hK => ?_) AllAny.nil
  go_simp
  refine hK.out _ _ ?_
  clear hK K
  try simp only [List.getElem_toArray, List.getElem_cons_succ, List.getElem_cons_zero, Act.put, List.setIfInBounds_toArray, List.set_cons_zero, List.set_cons_succ]
  refine Any.done (by kernel_rfl) ?_ _
  go_wp2_with fail
  have qR := ((ZZ.out.fill6 (b0 := .int .i64 m.h) (b1 := .int .i64 m.cap) (b2 := .slice A1 m.l.length c1) (b3 := .int .i64 m.n) (b4 := .int .i64 m.draws) (b5 := .slice B1 m.sent.length d1)).other5 (g := (w.heap.size + 1 + 1 + 1)) (x0 := .int .i64 4) (x1 := .int .i64 n) (x2 := .int .i64 0) (x3 := .int .u64 0) (x4 := .int .u64 0) (by omega)).six
  have qA := ((ZA.out.other6 (g := (w.heap.size + 1 + 1)) (x0 := .int .i64 m.h) (x1 := .int .i64 m.cap) (x2 := .slice A1 m.l.length c1) (x3 := .int .i64 m.n) (x4 := .int .i64 m.draws) (x5 := .slice B1 m.sent.length d1) (by omega)).fill5 (b0 := .int .i64 4) (b1 := .int .i64 n) (b2 := .int .i64 0) (b3 := .int .u64 0) (b4 := .int .u64 0)).five
  refine bodyPost_ret (v := .tuple #[.agg #[.int .i64 m.h, .int .i64 m.cap, .slice A1 m.l.length c1, .int .i64 m.n, .int .i64 m.draws, .slice B1 m.sent.length d1], .agg #[.int .i64 4, .int .i64 n, .int .i64 0, .int .u64 0, .int .u64 0], .int .i64 0]) (by simp [results, Try.results33, go_sem, qR, qA]) rfl ⟨_, _, _, _, X1, rfl, OwnM.base (b' := w.heap.size + 4) ?_ (by omega), below_five (below_six KB.out (by omega) _ _ _ _ _ _) (by omega) _ _ _ _ _⟩
  exact (HO.out.past6 (by omega) _ _ _ _ _ _).past5 (by omega) _ _ _ _ _

set_option linter.unusedSimpArgs false in
set_option maxRecDepth 100000 in
set_option maxHeartbeats 4000000 in
theorem rmd4_yes {m : ModD} {i : Nat} {p1 p2 : BitVec 64} (e : Hid ((if okM m then (0 : Int) else 1) = 0)) (SZ : Hid (m.l.length ≤ 1024 ∧ m.sent.length ≤ 4096)) (SZS : Hid (∀ s ∈ m.sent, s.out.length ≤ 1024)) {j : Nat} (hj : j < m.sent.length) {so : List Nat} {sd : Int} {s1 s2 : BitVec 64} (hs : Hid (m.sent[j] = ⟨so, sd, (s1, s2)⟩)) (hm : Hid (mayM m i ((j : Int) + 1) = (true, 0)))  (A : Option Addr) (c : Nat) (B : Option Addr) (d : Nat) (w : World) (hM : MemM w A c B d m) :
    Calls Try.prog 33 #[.agg #[.int .i64 m.h, .int .i64 m.cap, .slice A m.l.length c, .int .i64 m.n, .int .i64 m.draws, .slice B m.sent.length d], .agg #[.int .i64 4, .int .u64 (i : Int), .int .i64 ((j : Int) + 1), .int .u64 (p1.toNat : Int), .int .u64 (p2.toNat : Int)]] w (DoPost m ⟨0, (j : Int) + 1, sd, (s1, s2)⟩ 0 w) := by
  have hwj : IntKind.i64.wrap (j : Int) = (j : Int) := by rw [IntKind.wrap_i64]; have := SZ.out.2; omega
  have ZX : Hid (Blk ((((w.alloc (.cells #[.int .i64 m.h, .int .i64 m.cap, .slice A m.l.length c, .int .i64 m.n, .int .i64 m.draws, .slice B m.sent.length d] 45)).alloc (.cells #[.int .i64 4, .int .u64 (i : Int), .int .i64 ((j : Int) + 1), .int .u64 (p1.toNat : Int), .int .u64 (p2.toNat : Int)] 53)).alloc (.cells #[.int .i64 0, .int .i64 0, .slice none 0 0, .int .i64 0, .int .i64 0, .slice none 0 0] 45)).alloc (.cells #[.int .i64 0, .int .i64 0, .int .i64 0, .int .u64 0, .int .u64 0] 55)) w.heap.size 45 #[.int .i64 m.h, .int .i64 m.cap, .slice A m.l.length c, .int .i64 m.n, .int .i64 m.draws, .slice B m.sent.length d]) := mkHid ((((Blk.new _ _ _).alloc _).alloc _).alloc _)
  have ZP : Hid (Blk ((((w.alloc (.cells #[.int .i64 m.h, .int .i64 m.cap, .slice A m.l.length c, .int .i64 m.n, .int .i64 m.draws, .slice B m.sent.length d] 45)).alloc (.cells #[.int .i64 4, .int .u64 (i : Int), .int .i64 ((j : Int) + 1), .int .u64 (p1.toNat : Int), .int .u64 (p2.toNat : Int)] 53)).alloc (.cells #[.int .i64 0, .int .i64 0, .slice none 0 0, .int .i64 0, .int .i64 0, .slice none 0 0] 45)).alloc (.cells #[.int .i64 0, .int .i64 0, .int .i64 0, .int .u64 0, .int .u64 0] 55)) (w.heap.size + 1) 53 #[.int .i64 4, .int .u64 (i : Int), .int .i64 ((j : Int) + 1), .int .u64 (p1.toNat : Int), .int .u64 (p2.toNat : Int)]) := mkHid (((Blk.at _ _ _ (by simp)).alloc _).alloc _)
  have ZZ : Hid (Blk ((((w.alloc (.cells #[.int .i64 m.h, .int .i64 m.cap, .slice A m.l.length c, .int .i64 m.n, .int .i64 m.draws, .slice B m.sent.length d] 45)).alloc (.cells #[.int .i64 4, .int .u64 (i : Int), .int .i64 ((j : Int) + 1), .int .u64 (p1.toNat : Int), .int .u64 (p2.toNat : Int)] 53)).alloc (.cells #[.int .i64 0, .int .i64 0, .slice none 0 0, .int .i64 0, .int .i64 0, .slice none 0 0] 45)).alloc (.cells #[.int .i64 0, .int .i64 0, .int .i64 0, .int .u64 0, .int .u64 0] 55)) (w.heap.size + 1 + 1) 45 #[.int .i64 0, .int .i64 0, .slice none 0 0, .int .i64 0, .int .i64 0, .slice none 0 0]) := mkHid ((Blk.at _ _ _ (by simp)).alloc _)
  have ZA : Hid (Blk ((((w.alloc (.cells #[.int .i64 m.h, .int .i64 m.cap, .slice A m.l.length c, .int .i64 m.n, .int .i64 m.draws, .slice B m.sent.length d] 45)).alloc (.cells #[.int .i64 4, .int .u64 (i : Int), .int .i64 ((j : Int) + 1), .int .u64 (p1.toNat : Int), .int .u64 (p2.toNat : Int)] 53)).alloc (.cells #[.int .i64 0, .int .i64 0, .slice none 0 0, .int .i64 0, .int .i64 0, .slice none 0 0] 45)).alloc (.cells #[.int .i64 0, .int .i64 0, .int .i64 0, .int .u64 0, .int .u64 0] 55)) (w.heap.size + 1 + 1 + 1) 55 #[.int .i64 0, .int .i64 0, .int .i64 0, .int .u64 0, .int .u64 0]) := mkHid (Blk.at _ _ _ (by simp))
  have KB : Hid (Below w.heap.size w ((((w.alloc (.cells #[.int .i64 m.h, .int .i64 m.cap, .slice A m.l.length c, .int .i64 m.n, .int .i64 m.draws, .slice B m.sent.length d] 45)).alloc (.cells #[.int .i64 4, .int .u64 (i : Int), .int .i64 ((j : Int) + 1), .int .u64 (p1.toNat : Int), .int .u64 (p2.toNat : Int)] 53)).alloc (.cells #[.int .i64 0, .int .i64 0, .slice none 0 0, .int .i64 0, .int .i64 0, .slice none 0 0] 45)).alloc (.cells #[.int .i64 0, .int .i64 0, .int .i64 0, .int .u64 0, .int .u64 0] 55))) := mkHid (((((Below.refl _ _).alloc (Nat.le_refl _) (.cells #[.int .i64 m.h, .int .i64 m.cap, .slice A m.l.length c, .int .i64 m.n, .int .i64 m.draws, .slice B m.sent.length d] 45)).alloc (by simp) (.cells #[.int .i64 4, .int .u64 (i : Int), .int .i64 ((j : Int) + 1), .int .u64 (p1.toNat : Int), .int .u64 (p2.toNat : Int)] 53)).alloc (by simp; omega) (.cells #[.int .i64 0, .int .i64 0, .slice none 0 0, .int .i64 0, .int .i64 0, .slice none 0 0] 45)).alloc (by simp; omega) (.cells #[.int .i64 0, .int .i64 0, .int .i64 0, .int .u64 0, .int .u64 0] 55))
  have HM := mkHid (hM.below (((((Below.refl _ _).alloc (Nat.le_refl _) (.cells #[.int .i64 m.h, .int .i64 m.cap, .slice A m.l.length c, .int .i64 m.n, .int .i64 m.draws, .slice B m.sent.length d] 45)).alloc (by simp) (.cells #[.int .i64 4, .int .u64 (i : Int), .int .i64 ((j : Int) + 1), .int .u64 (p1.toNat : Int), .int .u64 (p2.toNat : Int)] 53)).alloc (by simp; omega) (.cells #[.int .i64 0, .int .i64 0, .slice none 0 0, .int .i64 0, .int .i64 0, .slice none 0 0] 45)).alloc (by simp; omega) (.cells #[.int .i64 0, .int .i64 0, .int .i64 0, .int .u64 0, .int .u64 0] 55)))
  clear hM
  go_enter Try.func33, Try.ntmps33
  go_upto_region 1 with fail
  generalize ((((w.alloc (.cells #[.int .i64 m.h, .int .i64 m.cap, .slice A m.l.length c, .int .i64 m.n, .int .i64 m.draws, .slice B m.sent.length d] 45)).alloc (.cells #[.int .i64 4, .int .u64 (i : Int), .int .i64 ((j : Int) + 1), .int .u64 (p1.toNat : Int), .int .u64 (p2.toNat : Int)] 53)).alloc (.cells #[.int .i64 0, .int .i64 0, .slice none 0 0, .int .i64 0, .int .i64 0, .slice none 0 0] 45)).alloc (.cells #[.int .i64 0, .int .i64 0, .int .i64 0, .int .u64 0, .int .u64 0] 55)) = w0 at *
  have lZA : w.heap.size + 1 + 1 + 1 < w0.heap.size := ZA.out.lt
  have cX := ZX.out.six
  have cP := ZP.out.five
  go_wp2_with fail
  refine (rmchk e _ _ _ _ _ HM.out.reads HM.out.sents).mono ?_
  rintro e w1 ⟨rfl, hb⟩
  replace ZX := mkHid (ZX.out.keep hb)
  replace ZP := mkHid (ZP.out.keep hb)
  replace ZZ := mkHid (ZZ.out.keep hb)
  replace ZA := mkHid (ZA.out.keep hb)
  replace KB := mkHid (KB.out.step hb)
  replace HM := mkHid (HM.out.below hb)
  clear hb
  clear lZA cX cP
  have lZA : w.heap.size + 1 + 1 + 1 < w1.heap.size := ZA.out.lt
  have cX := ZX.out.six
  have cP := ZP.out.five
  go_wp2_with fail
  refine (rmcopy SZ SZS _ _ _ _ _ HM.out).mono ?_
  rintro e w2 ⟨A1, c1, B1, d1, X1, rfl, ho, hb⟩
  have HO := mkHid (ho.base (b := w.heap.size + 4) (by omega))
  clear ho HM
  replace ZX := mkHid (ZX.out.keep hb)
  replace ZP := mkHid (ZP.out.keep hb)
  replace ZZ := mkHid (ZZ.out.keep hb)
  replace ZA := mkHid (ZA.out.keep hb)
  replace KB := mkHid (KB.out.step hb)
  clear hb
  clear lZA cX cP
  have lZA : w.heap.size + 1 + 1 + 1 < w2.heap.size := ZA.out.lt
  have cX := ZX.out.six
  have cP := ZP.out.five
  have fX0 := ZX.out.frozen 0
  have fX1 := ZX.out.frozen 1
  have fX2 := ZX.out.frozen 2
  have fX3 := ZX.out.frozen 3
  have fX4 := ZX.out.frozen 4
  have fX5 := ZX.out.frozen 5
  go_upto_region 4 with fail
  replace ZX := mkHid (ZX.out.fill6 (b0 := .int .i64 m.h) (b1 := .int .i64 m.cap) (b2 := .slice A1 m.l.length c1) (b3 := .int .i64 m.n) (b4 := .int .i64 m.draws) (b5 := .slice B1 m.sent.length d1))
  replace ZP := mkHid (ZP.out.other6 (g := w.heap.size) (x0 := .int .i64 m.h) (x1 := .int .i64 m.cap) (x2 := .slice A1 m.l.length c1) (x3 := .int .i64 m.n) (x4 := .int .i64 m.draws) (x5 := .slice B1 m.sent.length d1) (by omega))
  replace ZZ := mkHid (ZZ.out.other6 (g := w.heap.size) (x0 := .int .i64 m.h) (x1 := .int .i64 m.cap) (x2 := .slice A1 m.l.length c1) (x3 := .int .i64 m.n) (x4 := .int .i64 m.draws) (x5 := .slice B1 m.sent.length d1) (by omega))
  replace ZA := mkHid (ZA.out.other6 (g := w.heap.size) (x0 := .int .i64 m.h) (x1 := .int .i64 m.cap) (x2 := .slice A1 m.l.length c1) (x3 := .int .i64 m.n) (x4 := .int .i64 m.draws) (x5 := .slice B1 m.sent.length d1) (by omega))
  replace KB := mkHid (below_six KB.out (Nat.le_refl _) (.int .i64 m.h) (.int .i64 m.cap) (.slice A1 m.l.length c1) (.int .i64 m.n) (.int .i64 m.draws) (.slice B1 m.sent.length d1))
  replace HO := mkHid (HO.out.past6 (g := w.heap.size) (by omega) (.int .i64 m.h) (.int .i64 m.cap) (.slice A1 m.l.length c1) (.int .i64 m.n) (.int .i64 m.draws) (.slice B1 m.sent.length d1))
  clear lZA cX cP fX0 fX1 fX2 fX3 fX4 fX5
  generalize ((((((w2.setCell ⟨w.heap.size, 0, none⟩ (.int .i64 m.h)).setCell ⟨w.heap.size, 1, none⟩ (.int .i64 m.cap)).setCell ⟨w.heap.size, 2, none⟩ (.slice A1 m.l.length c1)).setCell ⟨w.heap.size, 3, none⟩ (.int .i64 m.n)).setCell ⟨w.heap.size, 4, none⟩ (.int .i64 m.draws)).setCell ⟨w.heap.size, 5, none⟩ (.slice B1 m.sent.length d1)) = w3 at *
  have lZA : w.heap.size + 1 + 1 + 1 < w3.heap.size := ZA.out.lt
  have cX := ZX.out.six
  have cP := ZP.out.five
  go_wp2_with fail
  refine (rmmay hm _ _ _ _ _ (HO.out.mem (by have := SZ.out; omega))).mono ?_
  rintro e w4 ⟨rfl, hb⟩
  replace ZX := mkHid (ZX.out.keep hb)
  replace ZP := mkHid (ZP.out.keep hb)
  replace ZZ := mkHid (ZZ.out.keep hb)
  replace ZA := mkHid (ZA.out.keep hb)
  replace KB := mkHid (KB.out.step hb)
  replace HO := mkHid (HO.out.below hb)
  clear hb
  clear lZA cX cP
  have lZA : w.heap.size + 1 + 1 + 1 < w4.heap.size := ZA.out.lt
  have cX := ZX.out.six
  have cP := ZP.out.five
  obtain ⟨b1, off1, eB, aS⟩ := (HO.out.mem (by have := SZ.out; omega)).sents j hj
  rw [hs.out] at aS
  obtain ⟨As, cs, e0, _, _, _, _, e1, e2, e3⟩ := aS
  dsimp only at *
  subst eB
  go_upto_region 11 with fail
  have hb9 : Below w4.heap.size w4 (w4.alloc (.cells #[.slice As so.length cs, .int .i64 sd, .int .u64 (s1.toNat : Int), .int .u64 (s2.toNat : Int)] 66)) := (Below.refl _ _).alloc (Nat.le_refl _) _
  have ZS : Hid (Blk (w4.alloc (.cells #[.slice As so.length cs, .int .i64 sd, .int .u64 (s1.toNat : Int), .int .u64 (s2.toNat : Int)] 66)) w4.heap.size 66 #[.slice As so.length cs, .int .i64 sd, .int .u64 (s1.toNat : Int), .int .u64 (s2.toNat : Int)]) := mkHid (Blk.new _ _ _)
  replace ZX := mkHid (ZX.out.keep hb9)
  replace ZP := mkHid (ZP.out.keep hb9)
  replace ZZ := mkHid (ZZ.out.keep hb9)
  replace ZA := mkHid (ZA.out.keep hb9)
  replace KB := mkHid (KB.out.step hb9)
  replace HO := mkHid (HO.out.below hb9)
  clear hb9
  clear e0 e1 e2 e3
  obtain ⟨q, hq⟩ : ∃ q, w4.heap.size = q := ⟨_, rfl⟩
  rw [hq] at ZS
  rw [hq]
  have lq : w.heap.size + 1 + 1 + 1 < q := by omega
  clear hq cX cP lZA
  generalize w4.alloc (.cells #[.slice As so.length cs, .int .i64 sd, .int .u64 (s1.toNat : Int), .int .u64 (s2.toNat : Int)] 66) = w5 at *
  have lZA : w.heap.size + 1 + 1 + 1 < w5.heap.size := ZA.out.lt
  have cX := ZX.out.six
  have cP := ZP.out.five
  replace ZX : Hid (Blk w5.drew _ _ _) := mkHid ZX.out.drew
  replace ZA : Hid (Blk w5.drew _ _ _) := mkHid ZA.out.drew
  replace ZZ : Hid (Blk w5.drew _ _ _) := mkHid ZZ.out.drew
  replace ZP : Hid (Blk w5.drew _ _ _) := mkHid ZP.out.drew
  replace KB : Hid (Below w.heap.size w w5.drew) := mkHid KB.out.drew
  replace HO := mkHid (HO.out.below (Below.drew (Below.refl _ w5)))
  have lZD : w.heap.size + 1 + 1 + 1 < w5.drew.heap.size := lZA
  clear cX cP lZA
  replace ZS : Hid (Blk w5.drew _ _ _) := mkHid ZS.out.drew

  have cZ := ZZ.out.six
  have cA := ZA.out.five
  have gz0 := ZZ.out.frozen 0
  have gz1 := ZZ.out.frozen 1
  have gz2 := ZZ.out.frozen 2
  have gz3 := ZZ.out.frozen 3
  have gz4 := ZZ.out.frozen 4
  have gz5 := ZZ.out.frozen 5
  have ga0 := ZA.out.frozen 0
  have ga1 := ZA.out.frozen 1
  have ga2 := ZA.out.frozen 2
  have ga3 := ZA.out.frozen 3
  have ga4 := ZA.out.frozen 4
  refine wp_region_late (late := fun i => decide (9 ≤ i)) (S := fun w' => Hid (Blk w' w.heap.size 45 #[.int .i64 m.h, .int .i64 m.cap, .slice A1 m.l.length c1, .int .i64 m.n, .int .i64 m.draws, .slice (some ⟨b1, off1, none⟩) m.sent.length d1]) ∧ Hid (Blk w' (w.heap.size + 1) 53 #[.int .i64 4, .int .u64 (i : Int), .int .i64 ((j : Int) + 1), .int .u64 (p1.toNat : Int), .int .u64 (p2.toNat : Int)]) ∧ Hid (Blk w' q 66 #[.slice As so.length cs, .int .i64 sd, .int .u64 (s1.toNat : Int), .int .u64 (s2.toNat : Int)])) (by kernel_rfl) ?_ (fun hHeld => ?_)
  · ((try dsimp only); (try go_split_ands); refine ⟨?_, ?_, ?_⟩ <;> first | with_reducible assumption | (with_reducible refine mkHid (Blk.other6 (Hid.out ?_) ?_) <;> first | with_reducible assumption | omega))
  generalize w5.drew = u0 at *
  refine Any.take (i := 0) (v := ?_) rfl (by kernel_rfl) (by kernel_rfl) (by kernel_rfl) (by kernel_rfl) (fun _ _ _ h => h) (Or.inl ⟨by rfl, ?_⟩) hHeld ?_
  rotate_left
  · intro w hSw
    (try dsimp only at hSw)
    have q := hSw.1.out.six
    clear hSw
    go_simp
    all_goals with_reducible rfl
  try simp only [List.getElem_toArray, List.getElem_cons_succ, List.getElem_cons_zero, Act.put, List.setIfInBounds_toArray, List.set_cons_zero, List.set_cons_succ]
  refine Any.take (i := 1) (v := ?_) rfl (by kernel_rfl) (by kernel_rfl) (by kernel_rfl) (by kernel_rfl) (fun _ _ _ h => h) (Or.inl ⟨by rfl, ?_⟩) hHeld ?_
  rotate_left
  · intro w hSw
    (try dsimp only at hSw)
    go_simp
    all_goals with_reducible rfl
  try simp only [List.getElem_toArray, List.getElem_cons_succ, List.getElem_cons_zero, Act.put, List.setIfInBounds_toArray, List.set_cons_zero, List.set_cons_succ]
  refine Any.take (i := 2) (v := ?_) rfl (by kernel_rfl) (by kernel_rfl) (by kernel_rfl) (by kernel_rfl) (fun _ _ _ h => h) (Or.inl ⟨by rfl, ?_⟩) hHeld ?_
  rotate_left
  · intro w hSw
    (try dsimp only at hSw)
    have q := hSw.2.1.out.five
    clear hSw
    go_simp
    all_goals with_reducible rfl
  try simp only [List.getElem_toArray, List.getElem_cons_succ, List.getElem_cons_zero, Act.put, List.setIfInBounds_toArray, List.set_cons_zero, List.set_cons_succ]
  refine Any.take (i := 3) (v := ?_) rfl (by kernel_rfl) (by kernel_rfl) (by kernel_rfl) (by kernel_rfl) (fun _ _ _ h => h) (Or.inl ⟨by rfl, ?_⟩) hHeld ?_
  rotate_left
  · intro w hSw
    (try dsimp only at hSw)
    go_simp
    all_goals with_reducible rfl
  try simp only [List.getElem_toArray, List.getElem_cons_succ, List.getElem_cons_zero, Act.put, List.setIfInBounds_toArray, List.set_cons_zero, List.set_cons_succ]
  refine Any.take (i := 4) (v := ?_) rfl (by kernel_rfl) (by kernel_rfl) (by kernel_rfl) (by kernel_rfl) (fun _ _ _ h => h) (Or.inl ⟨by rfl, ?_⟩) hHeld ?_
  rotate_left
  · intro w hSw
    (try dsimp only at hSw)
    have q := hSw.2.2.out.four
    clear hSw
    go_simp
    all_goals with_reducible rfl
  try simp only [List.getElem_toArray, List.getElem_cons_succ, List.getElem_cons_zero, Act.put, List.setIfInBounds_toArray, List.set_cons_zero, List.set_cons_succ]
  refine Any.take (i := 5) (v := ?_) rfl (by kernel_rfl) (by kernel_rfl) (by kernel_rfl) (by kernel_rfl) (fun _ _ _ h => h) (Or.inl ⟨by rfl, ?_⟩) hHeld ?_
  rotate_left
  · intro w hSw
    (try dsimp only at hSw)
    go_simp
    all_goals with_reducible rfl
  try simp only [List.getElem_toArray, List.getElem_cons_succ, List.getElem_cons_zero, Act.put, List.setIfInBounds_toArray, List.set_cons_zero, List.set_cons_succ]
  refine Any.take (i := 6) (v := ?_) rfl (by kernel_rfl) (by kernel_rfl) (by kernel_rfl) (by kernel_rfl) (fun _ _ _ h => h) (Or.inl ⟨by rfl, ?_⟩) hHeld ?_
  rotate_left
  · intro w hSw
    (try dsimp only at hSw)
    have q := hSw.2.2.out.four
    clear hSw
    go_simp
    all_goals with_reducible rfl
  try simp only [List.getElem_toArray, List.getElem_cons_succ, List.getElem_cons_zero, Act.put, List.setIfInBounds_toArray, List.set_cons_zero, List.set_cons_succ]
  refine Any.take (i := 7) (v := ?_) rfl (by kernel_rfl) (by kernel_rfl) (by kernel_rfl) (by kernel_rfl) (fun _ _ _ h => h) (Or.inl ⟨by rfl, ?_⟩) hHeld ?_
  rotate_left
  · intro w hSw
    (try dsimp only at hSw)
    go_simp
    all_goals with_reducible rfl
  try simp only [List.getElem_toArray, List.getElem_cons_succ, List.getElem_cons_zero, Act.put, List.setIfInBounds_toArray, List.set_cons_zero, List.set_cons_succ]
  refine Any.ready (rs := [8]) (by kernel_rfl) (by simp) ?_
  refine AllAny.cons rfl rfl (fun K hK => ?_) AllAny.nil
  go_simp
  refine hK.out _ _ ?_ (fun hHeld => ?_)
  · ((try dsimp only); (try go_split_ands); refine ⟨?_, ?_, ?_⟩ <;> first | with_reducible assumption | (with_reducible refine mkHid (Blk.other6 (Hid.out ?_) ?_) <;> first | with_reducible assumption | omega))
  clear hK K
  try simp only [List.getElem_toArray, List.getElem_cons_succ, List.getElem_cons_zero, Act.put, List.setIfInBounds_toArray, List.set_cons_zero, List.set_cons_succ]
  refine Any.ready (rs := [9]) (by kernel_rfl) (by simp) ?_
  refine AllAny.lateCons rfl rfl (fun K hK => ?_) AllAny.nil
  go_simp
  refine hK.out _ _ ?_
  clear hK K
  try simp only [List.getElem_toArray, List.getElem_cons_succ, List.getElem_cons_zero, Act.put, List.setIfInBounds_toArray, List.set_cons_zero, List.set_cons_succ]
  refine Any.ready (rs := [10]) (by kernel_rfl) (by simp) ?_
  refine AllAny.lateCons rfl rfl (fun K hK => ?_) AllAny.nil
  go_simp
  refine hK.out _ _ ?_
  clear hK K
  try simp only [List.getElem_toArray, List.getElem_cons_succ, List.getElem_cons_zero, Act.put, List.setIfInBounds_toArray, List.set_cons_zero, List.set_cons_succ]
  refine Any.done (by kernel_rfl) ?_ _
  go_wp2_with fail
  have qR := ((ZZ.out.fill6 (b0 := .int .i64 m.h) (b1 := .int .i64 m.cap) (b2 := .slice A1 m.l.length c1) (b3 := .int .i64 m.n) (b4 := .int .i64 m.draws) (b5 := .slice (some ⟨b1, off1, none⟩) m.sent.length d1)).other5 (g := (w.heap.size + 1 + 1 + 1)) (x0 := .int .i64 0) (x1 := .int .i64 ((j : Int) + 1)) (x2 := .int .i64 sd) (x3 := .int .u64 (s1.toNat : Int)) (x4 := .int .u64 (s2.toNat : Int)) (by omega)).six
  have qA := ((ZA.out.other6 (g := (w.heap.size + 1 + 1)) (x0 := .int .i64 m.h) (x1 := .int .i64 m.cap) (x2 := .slice A1 m.l.length c1) (x3 := .int .i64 m.n) (x4 := .int .i64 m.draws) (x5 := .slice (some ⟨b1, off1, none⟩) m.sent.length d1) (by omega)).fill5 (b0 := .int .i64 0) (b1 := .int .i64 ((j : Int) + 1)) (b2 := .int .i64 sd) (b3 := .int .u64 (s1.toNat : Int)) (b4 := .int .u64 (s2.toNat : Int))).five
  refine bodyPost_ret (v := .tuple #[.agg #[.int .i64 m.h, .int .i64 m.cap, .slice A1 m.l.length c1, .int .i64 m.n, .int .i64 m.draws, .slice (some ⟨b1, off1, none⟩) m.sent.length d1], .agg #[.int .i64 0, .int .i64 ((j : Int) + 1), .int .i64 sd, .int .u64 (s1.toNat : Int), .int .u64 (s2.toNat : Int)], .int .i64 0]) (by simp [results, Try.results33, go_sem, qR, qA]) rfl ⟨_, _, _, _, X1, rfl, OwnM.base (b' := w.heap.size + 4) ?_ (by omega), below_five (below_six KB.out (by omega) _ _ _ _ _ _) (by omega) _ _ _ _ _⟩
  exact (HO.out.past6 (by omega) _ _ _ _ _ _).past5 (by omega) _ _ _ _ _

theorem rmdo {m m' : ModD} {o : OpD} {a : AnsD} {r : Int} (e : Hid (doM m o = (m', a, r))) (A : Option Addr) (c : Nat) (B : Option Addr) (d : Nat) (w : World) (hM : MemM w A c B d m) :
    Calls Try.prog 33 #[.agg #[.int .i64 m.h, .int .i64 m.cap, .slice A m.l.length c, .int .i64 m.n, .int .i64 m.draws, .slice B m.sent.length d], .agg #[.int .i64 o.kind, .int .u64 (o.i : Int), .int .i64 o.n, .int .u64 (o.p.1.toNat : Int), .int .u64 (o.p.2.toNat : Int)]] w (DoPost m' a r w) := by
  have e' := e.out
  obtain ⟨k, i, n, p1, p2⟩ := o
  unfold doM at e'
  dsimp only at e'
  rcases okM_or m with hk | hk
  · have hok : okM m = true := by
      cases h : okM m with
      | true => rfl
      | false => rw [h] at hk; simp at hk
    have HK := mkHid hk
    have SZ : Hid (m.l.length ≤ 1024 ∧ m.sent.length ≤ 4096) := mkHid ⟨(okM_sizes hok).1, (okM_sizes hok).2.1⟩
    have SZS : Hid (∀ s ∈ m.sent, s.out.length ≤ 1024) := mkHid (okM_sizes hok).2.2
    obtain ⟨b1, b2, b3, b4, b5, b6, b7, b8⟩ := okM_parts hok
    by_cases k0 : k < 1
    · rw [if_neg (by omega)] at e'
      cases e'
      exact rmd_low HK k0 A c B d w hM
    · by_cases k4 : 4 < k
      · rw [if_neg (by omega)] at e'
        cases e'
        exact rmd_high HK k0 k4 A c B d w hM
      · rw [if_pos ⟨hok, by omega, by omega⟩] at e'
        by_cases k1 : k = 1
        · subst k1
          rw [if_pos rfl] at e'
          obtain ⟨R, q, hX⟩ : ∃ R q, rollAdd m.h m.cap m.l m.n i = (R, q) := ⟨_, _, rfl⟩
          rw [hX] at e'
          unfold chM at e'
          dsimp only at e'
          by_cases hq : q = 0
          · subst hq
            rw [if_pos rfl] at e'
            have hR := add_ok hX
            obtain ⟨kk, G, hi, hx, hl, hn, rfl⟩ := hR
            cases e'
            exact rmd1_ok HK SZ SZS hok b4 b5 (mkHid (by rw [hX]; rfl)) A c B d w hM
          · rw [if_neg hq] at e'
            cases e'
            exact rmd1_no HK SZ SZS hok hq (mkHid (by rw [hX]; unfold chOf; rw [if_neg hq])) A c B d w hM
        · rw [if_neg k1] at e'
          by_cases k2 : k = 2
          · subst k2
            rw [if_pos rfl] at e'
            obtain ⟨R, q, hX⟩ : ∃ R q, rollDel m.h m.cap m.l m.n i = (R, q) := ⟨_, _, rfl⟩
            rw [hX] at e'
            unfold chM at e'
            dsimp only at e'
            by_cases hq : q = 0
            · subst hq
              rw [if_pos rfl] at e'
              have hR := del_ok hX
              obtain ⟨kk, G, hi, hx, hn, rfl⟩ := hR
              cases e'
              exact rmd2_ok HK SZ SZS hok b4 b5 (mkHid (by rw [hX]; rfl)) A c B d w hM
            · rw [if_neg hq] at e'
              cases e'
              exact rmd2_no HK SZ SZS hok hq (mkHid (by rw [hX]; unfold chOf; rw [if_neg hq])) A c B d w hM
          · rw [if_neg k2] at e'
            by_cases k3 : k = 3
            · subst k3
              rw [if_pos rfl] at e'
              unfold sendM at e'
              by_cases hd : (m.sent.length : Int) + 1 = m.draws
              · rw [if_pos hd] at e'
                cases e'
                exact rmd3_full HK SZ SZS (mkHid hd) A c B d w hM
              · rw [if_neg hd] at e'
                cases e'
                exact rmd3_ok HK SZ SZS (mkHid hd) A c B d w hM
            · rw [if_neg k3] at e'
              obtain rfl : k = 4 := by omega
              unfold readM at e'
              obtain ⟨z, r0, hm⟩ : ∃ z r0, mayM m i n = (z, r0) := ⟨_, _, rfl⟩
              rw [hm] at e'
              dsimp only at e'
              by_cases hr : r0 = 0
              · subst hr
                rw [if_neg (by simp)] at e'
                cases z
                · rw [if_pos rfl] at e'
                  cases e'
                  exact rmd4_no HK SZ SZS (mkHid hm) A c B d w hM
                · rw [if_neg (by simp)] at e'
                  have hm' := hm
                  unfold mayM at hm'
                  split at hm'
                  · rename_i hc
                    obtain ⟨j, rfl⟩ : ∃ j : Nat, n = (j : Int) + 1 := ⟨(n - 1).toNat, by omega⟩
                    rw [show ((j : Int) + 1 - 1).toNat = j by omega] at hm' e'
                    by_cases hj : j < m.sent.length
                    · rw [List.getElem?_eq_getElem hj] at e'
                      obtain ⟨so, sd, s1, s2, hs⟩ : ∃ so sd s1 s2, m.sent[j] = ⟨so, sd, (s1, s2)⟩ := ⟨_, _, _, _, rfl⟩
                      rw [hs] at e'
                      cases e'
                      exact rmd4_yes HK SZ SZS hj (mkHid hs) (mkHid hm) A c B d w hM
                    · rw [List.getElem?_eq_none (by omega)] at hm'
                      cases hm'
                  · cases hm'
              · rw [if_pos hr] at e'
                cases e'
                exact rmd4_err HK SZ SZS hr (mkHid hm) A c B d w hM
  · have hok : okM m = false := by
      cases h : okM m with
      | false => rfl
      | true => rw [h] at hk; simp at hk
    rw [if_neg (by rw [hok]; simp)] at e'
    cases e'
    exact rmd_bad (mkHid hk) A c B d w hM
end Go.Proofs.Ytmehbonjpmlmfaa
