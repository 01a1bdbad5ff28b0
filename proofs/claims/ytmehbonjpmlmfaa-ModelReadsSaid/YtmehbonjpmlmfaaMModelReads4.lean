/- 'ModelReads' returns true for every input, and each argument reads behind the call as it did before it: no condition (the proof's last part). -/
import Derived.Test.YtmehbonjpmlmfaaMModelReads3
namespace Go.Proofs.Ytmehbonjpmlmfaa
open Go.RowKit

theorem doM_bad {m : ModD} {o : OpD} (h : okM m = false) : doM m o = (zeroM, ansE 0, 1) := by
  unfold doM
  rw [if_neg (by rw [h]; simp)]
/-- what Do does, by the law's cases -/
theorem do_reads {m m' : ModD} {o : OpD} {a : AnsD} {r : Int} (e : doM m o = (m', a, r)) :
    (r = 1 ∧ m' = zeroM ∧ a = ansE 0) ∨ (r = 0 ∧ okM m = true ∧ ((o.kind = 4 ∧ m' = m ∧ a = readM m o.i o.n) ∨ (o.kind ≠ 4 ∧ a.e ≠ 0 ∧ m' = m) ∨ (o.kind ≠ 4 ∧ a.e = 0))) := by
  cases hok : okM m
  · rw [doM_bad hok] at e
    cases e
    exact .inl ⟨rfl, rfl, rfl⟩
  · rcases doM_step hok e with ⟨h1, _, h3, h4⟩ | ⟨h0, k1, k4, hst, hok'⟩
    · exact .inl ⟨h1, h3, h4⟩
    · refine .inr ⟨h0, rfl, ?_⟩
      cases hst with
      | add hk hi em ha => subst ha; exact .inr (.inr ⟨by omega, rfl⟩)
      | del hk hi em ha => subst ha; exact .inr (.inr ⟨by omega, rfl⟩)
      | no hk em q hq ha => subst ha; exact .inr (.inl ⟨by omega, hq, em⟩)
      | sent hk hd em ha => subst ha; exact .inr (.inr ⟨by omega, rfl⟩)
      | full hk hd em ha => subst ha; exact .inr (.inl ⟨by omega, by decide, em⟩)
      | read hk em ha => exact .inl ⟨hk, em, ha⟩
theorem do_or {m m' : ModD} {o : OpD} {a : AnsD} {r : Int} (e : doM m o = (m', a, r)) : r = 0 ∨ r = 1 := by
  rcases do_reads e with ⟨h, _⟩ | ⟨h, _⟩
  · exact .inr h
  · exact .inl h
theorem do_read4 {m : ModD} (hok : okM m = true) (i : Nat) (n : Int) (p : BitVec 64 × BitVec 64) : doM m ⟨4, i, n, p⟩ = (m, readM m i n, 0) := by
  unfold doM
  rw [if_pos ⟨hok, by show (1 : Int) ≤ 4; decide, by show (4 : Int) ≤ 4; decide⟩, if_neg (by show ¬ (4 : Int) = 1; decide), if_neg (by show ¬ (4 : Int) = 2; decide), if_neg (by show ¬ (4 : Int) = 3; decide)]

theorem mdo_zero {m : ModD} {o : OpD} (e : Hid (doM m o = (zeroM, ansE 0, 1))) (A : Option Addr) (c : Nat) (B : Option Addr) (d : Nat) (w : World) (hM : MemM w A c B d m) :
    Calls Try.prog 29 #[.agg #[.int .i64 m.h, .int .i64 m.cap, .slice A m.l.length c, .int .i64 m.n, .int .i64 m.draws, .slice B m.sent.length d], .agg #[.int .i64 o.kind, .int .u64 (o.i : Int), .int .i64 o.n, .int .u64 (o.p.1.toNat : Int), .int .u64 (o.p.2.toNat : Int)]] w fun e w' => ∃ A c B d X, e = .returned (.tuple #[.agg #[.int .i64 0, .int .i64 0, .slice A 0 c, .int .i64 0, .int .i64 0, .slice B 0 d], .agg #[.int .i64 0, .int .i64 0, .int .i64 0, .int .u64 0, .int .u64 0], .int .i64 1]) ∧ OwnM w' w.heap.size A c B d X zeroM ∧ Below w.heap.size w w' :=
  mdo e A c B d w hM

set_option maxRecDepth 100000 in
set_option maxHeartbeats 8000000 in
theorem mreads_many {h cap n dr : Int} {l : List Nat} {S : List SentD} {ai bi : Nat} {an bn : Int} {ap aq bp bq : BitVec 64} {ka : Int} {kb : Int} (hf : Hid (fewM ⟨h, cap, l, n, dr, S⟩ = false))  (A : Option Addr) (c : Nat) (B : Option Addr) (d : Nat) (w : World) (hM : RawM w A c B d ⟨h, cap, l, n, dr, S⟩) :
    Calls Try.prog 10 #[.agg #[.int .i64 h, .int .i64 cap, .slice A l.length c, .int .i64 n, .int .i64 dr, .slice B S.length d], .agg #[.int .i64 ka, .int .u64 (ai : Int), .int .i64 an, .int .u64 (ap.toNat : Int), .int .u64 (aq.toNat : Int)], .agg #[.int .i64 kb, .int .u64 (bi : Int), .int .i64 bn, .int .u64 (bp.toNat : Int), .int .u64 (bq.toNat : Int)]] w fun e w' => e = .returned (.bool true) ∧ Below w.heap.size w w' := by
  skip
  have KB : Hid (Below w.heap.size w (((w.alloc (.cells #[.int .i64 h, .int .i64 cap, .slice A l.length c, .int .i64 n, .int .i64 dr, .slice B S.length d] 45)).alloc (.cells #[.int .i64 ka, .int .u64 (ai : Int), .int .i64 an, .int .u64 (ap.toNat : Int), .int .u64 (aq.toNat : Int)] 53)).alloc (.cells #[.int .i64 kb, .int .u64 (bi : Int), .int .i64 bn, .int .u64 (bp.toNat : Int), .int .u64 (bq.toNat : Int)] 53))) := mkHid ((((Below.refl _ _).alloc (Nat.le_refl _) (.cells #[.int .i64 h, .int .i64 cap, .slice A l.length c, .int .i64 n, .int .i64 dr, .slice B S.length d] 45)).alloc (by simp) (.cells #[.int .i64 ka, .int .u64 (ai : Int), .int .i64 an, .int .u64 (ap.toNat : Int), .int .u64 (aq.toNat : Int)] 53)).alloc (by simp; omega) (.cells #[.int .i64 kb, .int .u64 (bi : Int), .int .i64 bn, .int .u64 (bp.toNat : Int), .int .u64 (bq.toNat : Int)] 53))
  have HM := mkHid (hM.below ((((Below.refl _ _).alloc (Nat.le_refl _) (.cells #[.int .i64 h, .int .i64 cap, .slice A l.length c, .int .i64 n, .int .i64 dr, .slice B S.length d] 45)).alloc (by simp) (.cells #[.int .i64 ka, .int .u64 (ai : Int), .int .i64 an, .int .u64 (ap.toNat : Int), .int .u64 (aq.toNat : Int)] 53)).alloc (by simp; omega) (.cells #[.int .i64 kb, .int .u64 (bi : Int), .int .i64 bn, .int .u64 (bp.toNat : Int), .int .u64 (bq.toNat : Int)] 53)))
  have ZM : Hid (Blk (((w.alloc (.cells #[.int .i64 h, .int .i64 cap, .slice A l.length c, .int .i64 n, .int .i64 dr, .slice B S.length d] 45)).alloc (.cells #[.int .i64 ka, .int .u64 (ai : Int), .int .i64 an, .int .u64 (ap.toNat : Int), .int .u64 (aq.toNat : Int)] 53)).alloc (.cells #[.int .i64 kb, .int .u64 (bi : Int), .int .i64 bn, .int .u64 (bp.toNat : Int), .int .u64 (bq.toNat : Int)] 53)) w.heap.size 45 #[.int .i64 h, .int .i64 cap, .slice A l.length c, .int .i64 n, .int .i64 dr, .slice B S.length d]) := mkHid (((Blk.new _ _ _).alloc _).alloc _)
  have ZU : Hid (Blk (((w.alloc (.cells #[.int .i64 h, .int .i64 cap, .slice A l.length c, .int .i64 n, .int .i64 dr, .slice B S.length d] 45)).alloc (.cells #[.int .i64 ka, .int .u64 (ai : Int), .int .i64 an, .int .u64 (ap.toNat : Int), .int .u64 (aq.toNat : Int)] 53)).alloc (.cells #[.int .i64 kb, .int .u64 (bi : Int), .int .i64 bn, .int .u64 (bp.toNat : Int), .int .u64 (bq.toNat : Int)] 53)) (w.heap.size + 1) 53 #[.int .i64 ka, .int .u64 (ai : Int), .int .i64 an, .int .u64 (ap.toNat : Int), .int .u64 (aq.toNat : Int)]) := mkHid ((Blk.at _ _ _ (by simp)).alloc _)
  have ZV : Hid (Blk (((w.alloc (.cells #[.int .i64 h, .int .i64 cap, .slice A l.length c, .int .i64 n, .int .i64 dr, .slice B S.length d] 45)).alloc (.cells #[.int .i64 ka, .int .u64 (ai : Int), .int .i64 an, .int .u64 (ap.toNat : Int), .int .u64 (aq.toNat : Int)] 53)).alloc (.cells #[.int .i64 kb, .int .u64 (bi : Int), .int .i64 bn, .int .u64 (bp.toNat : Int), .int .u64 (bq.toNat : Int)] 53)) (w.heap.size + 2) 53 #[.int .i64 kb, .int .u64 (bi : Int), .int .i64 bn, .int .u64 (bp.toNat : Int), .int .u64 (bq.toNat : Int)]) := mkHid (Blk.at _ _ _ (by simp))
  clear hM
  have cZM := ZM.out.six
  have lZM := ZM.out.lt
  have cZU := ZU.out.five
  have lZU := ZU.out.lt
  have cZV := ZV.out.five
  have lZV := ZV.out.lt
  go_enter Try.func10, Try.ntmps10
  go_wp2_with fail
  refine (live22 _).mono ?_
  rintro e w1 ⟨rfl, hb1⟩
  replace ZM := mkHid (ZM.out.keep hb1)
  replace ZU := mkHid (ZU.out.keep hb1)
  replace ZV := mkHid (ZV.out.keep hb1)
  replace KB := mkHid (KB.out.step hb1)
  replace HM := mkHid (HM.out.below hb1)
  clear cZM lZM
  have cZM := ZM.out.six
  have lZM := ZM.out.lt
  clear cZU lZU
  have cZU := ZU.out.five
  have lZU := ZU.out.lt
  clear cZV lZV
  have cZV := ZV.out.five
  have lZV := ZV.out.lt
  clear hb1
  go_wp2_with fail
  refine (few_walk (m := ⟨h, cap, l, n, dr, S⟩) hf (Nat.le_trans HM.out.s1 HM.out.s2) _ _ _ _ _ HM.out.sents).mono ?_
  rintro e w2 ⟨rfl, hb2⟩
  replace ZM := mkHid (ZM.out.keep hb2)
  replace ZU := mkHid (ZU.out.keep hb2)
  replace ZV := mkHid (ZV.out.keep hb2)
  replace KB := mkHid (KB.out.step hb2)
  replace HM := mkHid (HM.out.below hb2)
  clear cZM lZM
  have cZM := ZM.out.six
  have lZM := ZM.out.lt
  clear cZU lZU
  have cZU := ZU.out.five
  have lZU := ZU.out.lt
  clear cZV lZV
  have cZV := ZV.out.five
  have lZV := ZV.out.lt
  clear hb2
  replace KB := KB
  go_wp2_with fail
  go_ret
  exact ⟨rfl, KB.out⟩

set_option maxRecDepth 100000 in
set_option maxHeartbeats 8000000 in
theorem mreads_bad {h cap n dr : Int} {l : List Nat} {S : List SentD} {ai bi : Nat} {an bn : Int} {ap aq bp bq : BitVec 64} {ka : Int} {kb : Int} (hf : Hid (fewM ⟨h, cap, l, n, dr, S⟩ = true)) (e1 : Hid (doM ⟨h, cap, l, n, dr, S⟩ ⟨ka, ai, an, (ap, aq)⟩ = (zeroM, ansE 0, 1)))  (A : Option Addr) (c : Nat) (B : Option Addr) (d : Nat) (w : World) (hM : RawM w A c B d ⟨h, cap, l, n, dr, S⟩) :
    Calls Try.prog 10 #[.agg #[.int .i64 h, .int .i64 cap, .slice A l.length c, .int .i64 n, .int .i64 dr, .slice B S.length d], .agg #[.int .i64 ka, .int .u64 (ai : Int), .int .i64 an, .int .u64 (ap.toNat : Int), .int .u64 (aq.toNat : Int)], .agg #[.int .i64 kb, .int .u64 (bi : Int), .int .i64 bn, .int .u64 (bp.toNat : Int), .int .u64 (bq.toNat : Int)]] w fun e w' => e = .returned (.bool true) ∧ Below w.heap.size w w' := by
  have hs := fewM_sizes hf.out
  have hq := eq_answers
  have hqs := ansEq_self
  have HS := mkHid (show S.length ≤ 30 ∧ l.length ≤ 30 from ⟨hs.1, hs.2.1⟩)
  clear hs
  have KB : Hid (Below w.heap.size w (((w.alloc (.cells #[.int .i64 h, .int .i64 cap, .slice A l.length c, .int .i64 n, .int .i64 dr, .slice B S.length d] 45)).alloc (.cells #[.int .i64 ka, .int .u64 (ai : Int), .int .i64 an, .int .u64 (ap.toNat : Int), .int .u64 (aq.toNat : Int)] 53)).alloc (.cells #[.int .i64 kb, .int .u64 (bi : Int), .int .i64 bn, .int .u64 (bp.toNat : Int), .int .u64 (bq.toNat : Int)] 53))) := mkHid ((((Below.refl _ _).alloc (Nat.le_refl _) (.cells #[.int .i64 h, .int .i64 cap, .slice A l.length c, .int .i64 n, .int .i64 dr, .slice B S.length d] 45)).alloc (by simp) (.cells #[.int .i64 ka, .int .u64 (ai : Int), .int .i64 an, .int .u64 (ap.toNat : Int), .int .u64 (aq.toNat : Int)] 53)).alloc (by simp; omega) (.cells #[.int .i64 kb, .int .u64 (bi : Int), .int .i64 bn, .int .u64 (bp.toNat : Int), .int .u64 (bq.toNat : Int)] 53))
  have HM := mkHid (hM.below ((((Below.refl _ _).alloc (Nat.le_refl _) (.cells #[.int .i64 h, .int .i64 cap, .slice A l.length c, .int .i64 n, .int .i64 dr, .slice B S.length d] 45)).alloc (by simp) (.cells #[.int .i64 ka, .int .u64 (ai : Int), .int .i64 an, .int .u64 (ap.toNat : Int), .int .u64 (aq.toNat : Int)] 53)).alloc (by simp; omega) (.cells #[.int .i64 kb, .int .u64 (bi : Int), .int .i64 bn, .int .u64 (bp.toNat : Int), .int .u64 (bq.toNat : Int)] 53)))
  have ZM : Hid (Blk (((w.alloc (.cells #[.int .i64 h, .int .i64 cap, .slice A l.length c, .int .i64 n, .int .i64 dr, .slice B S.length d] 45)).alloc (.cells #[.int .i64 ka, .int .u64 (ai : Int), .int .i64 an, .int .u64 (ap.toNat : Int), .int .u64 (aq.toNat : Int)] 53)).alloc (.cells #[.int .i64 kb, .int .u64 (bi : Int), .int .i64 bn, .int .u64 (bp.toNat : Int), .int .u64 (bq.toNat : Int)] 53)) w.heap.size 45 #[.int .i64 h, .int .i64 cap, .slice A l.length c, .int .i64 n, .int .i64 dr, .slice B S.length d]) := mkHid (((Blk.new _ _ _).alloc _).alloc _)
  have ZU : Hid (Blk (((w.alloc (.cells #[.int .i64 h, .int .i64 cap, .slice A l.length c, .int .i64 n, .int .i64 dr, .slice B S.length d] 45)).alloc (.cells #[.int .i64 ka, .int .u64 (ai : Int), .int .i64 an, .int .u64 (ap.toNat : Int), .int .u64 (aq.toNat : Int)] 53)).alloc (.cells #[.int .i64 kb, .int .u64 (bi : Int), .int .i64 bn, .int .u64 (bp.toNat : Int), .int .u64 (bq.toNat : Int)] 53)) (w.heap.size + 1) 53 #[.int .i64 ka, .int .u64 (ai : Int), .int .i64 an, .int .u64 (ap.toNat : Int), .int .u64 (aq.toNat : Int)]) := mkHid ((Blk.at _ _ _ (by simp)).alloc _)
  have ZV : Hid (Blk (((w.alloc (.cells #[.int .i64 h, .int .i64 cap, .slice A l.length c, .int .i64 n, .int .i64 dr, .slice B S.length d] 45)).alloc (.cells #[.int .i64 ka, .int .u64 (ai : Int), .int .i64 an, .int .u64 (ap.toNat : Int), .int .u64 (aq.toNat : Int)] 53)).alloc (.cells #[.int .i64 kb, .int .u64 (bi : Int), .int .i64 bn, .int .u64 (bp.toNat : Int), .int .u64 (bq.toNat : Int)] 53)) (w.heap.size + 2) 53 #[.int .i64 kb, .int .u64 (bi : Int), .int .i64 bn, .int .u64 (bp.toNat : Int), .int .u64 (bq.toNat : Int)]) := mkHid (Blk.at _ _ _ (by simp))
  clear hM
  have cZM := ZM.out.six
  have lZM := ZM.out.lt
  have cZU := ZU.out.five
  have lZU := ZU.out.lt
  have cZV := ZV.out.five
  have lZV := ZV.out.lt
  go_enter Try.func10, Try.ntmps10
  go_wp2_with fail
  refine (live22 _).mono ?_
  rintro e w1 ⟨rfl, hb1⟩
  replace ZM := mkHid (ZM.out.keep hb1)
  replace ZU := mkHid (ZU.out.keep hb1)
  replace ZV := mkHid (ZV.out.keep hb1)
  replace KB := mkHid (KB.out.step hb1)
  replace HM := mkHid (HM.out.below hb1)
  clear cZM lZM
  have cZM := ZM.out.six
  have lZM := ZM.out.lt
  clear cZU lZU
  have cZU := ZU.out.five
  have lZU := ZU.out.lt
  clear cZV lZV
  have cZV := ZV.out.five
  have lZV := ZV.out.lt
  clear hb1
  go_wp2_with fail
  refine (few_walk (m := ⟨h, cap, l, n, dr, S⟩) hf (Nat.le_trans HM.out.s1 HM.out.s2) _ _ _ _ _ HM.out.sents).mono ?_
  rintro e w2 ⟨rfl, hb2⟩
  replace ZM := mkHid (ZM.out.keep hb2)
  replace ZU := mkHid (ZU.out.keep hb2)
  replace ZV := mkHid (ZV.out.keep hb2)
  replace KB := mkHid (KB.out.step hb2)
  replace HM := mkHid (HM.out.below hb2)
  clear cZM lZM
  have cZM := ZM.out.six
  have lZM := ZM.out.lt
  clear cZU lZU
  have cZU := ZU.out.five
  have lZU := ZU.out.lt
  clear cZV lZV
  have cZV := ZV.out.five
  have lZV := ZV.out.lt
  clear hb2
  go_wp2_with fail
  refine (mdo_zero e1 _ _ _ _ _ (HM.out.mem HS.out)).mono ?_
  rintro e w3 ⟨AX, cX, BX, dX, XX, rfl, hoX, hb3⟩
  replace ZM := mkHid (ZM.out.keep hb3)
  replace ZU := mkHid (ZU.out.keep hb3)
  replace ZV := mkHid (ZV.out.keep hb3)
  replace KB := mkHid (KB.out.step hb3)
  replace HM := mkHid (HM.out.below hb3)
  clear cZM lZM
  have cZM := ZM.out.six
  have lZM := ZM.out.lt
  clear cZU lZU
  have cZU := ZU.out.five
  have lZU := ZU.out.lt
  clear cZV lZV
  have cZV := ZV.out.five
  have lZV := ZV.out.lt
  have HX := mkHid hoX
  clear hoX hb3
  go_upto_region 5 with fail
  have E3 : Below w3.heap.size w3 ((w3.alloc (.cells #[.int .i64 0, .int .i64 0, .slice AX 0 cX, .int .i64 0, .int .i64 0, .slice BX 0 dX] 45)).alloc (.cells #[.int .i64 0, .int .i64 0, .int .i64 0, .int .u64 0, .int .u64 0] 55)) := ((Below.refl _ _).alloc (Nat.le_refl _) _).alloc (by simp) _
  obtain ⟨GX, hGX⟩ : ∃ G, G = w3.heap.size := ⟨_, rfl⟩
  have ZXM : Hid (Blk ((w3.alloc (.cells #[.int .i64 0, .int .i64 0, .slice AX 0 cX, .int .i64 0, .int .i64 0, .slice BX 0 dX] 45)).alloc (.cells #[.int .i64 0, .int .i64 0, .int .i64 0, .int .u64 0, .int .u64 0] 55)) w3.heap.size 45 #[.int .i64 0, .int .i64 0, .slice AX 0 cX, .int .i64 0, .int .i64 0, .slice BX 0 dX]) := mkHid ((Blk.new _ _ _).alloc _)
  have ZXA : Hid (Blk ((w3.alloc (.cells #[.int .i64 0, .int .i64 0, .slice AX 0 cX, .int .i64 0, .int .i64 0, .slice BX 0 dX] 45)).alloc (.cells #[.int .i64 0, .int .i64 0, .int .i64 0, .int .u64 0, .int .u64 0] 55)) (w3.heap.size + 1) 55 #[.int .i64 0, .int .i64 0, .int .i64 0, .int .u64 0, .int .u64 0]) := mkHid (Blk.at _ _ _ (by simp))
  replace ZM := mkHid (ZM.out.keep E3)
  replace ZU := mkHid (ZU.out.keep E3)
  replace ZV := mkHid (ZV.out.keep E3)
  replace KB := mkHid (KB.out.step E3)
  replace HM := mkHid (HM.out.below E3)
  replace HX := mkHid (HX.out.below E3)
  clear cZM lZM
  have cZM := ZM.out.six
  have lZM := ZM.out.lt
  clear cZU lZU
  have cZU := ZU.out.five
  have lZU := ZU.out.lt
  clear cZV lZV
  have cZV := ZV.out.five
  have lZV := ZV.out.lt
  generalize ((w3.alloc (.cells #[.int .i64 0, .int .i64 0, .slice AX 0 cX, .int .i64 0, .int .i64 0, .slice BX 0 dX] 45)).alloc (.cells #[.int .i64 0, .int .i64 0, .int .i64 0, .int .u64 0, .int .u64 0] 55)) = u3 at *
  rw [← hGX] at ZXM ZXA
  rw [← hGX]
  clear hGX E3
  have cZXM := ZXM.out.six
  have lZXM := ZXM.out.lt
  have cZXA := ZXA.out.five
  have lZXA := ZXA.out.lt
  go_wp2_with fail
  go_ret
  exact ⟨rfl, KB.out⟩

set_option maxRecDepth 100000 in
set_option maxHeartbeats 8000000 in
theorem mreads_done0 {h cap n dr : Int} {l : List Nat} {S : List SentD} {ai bi : Nat} {an bn : Int} {ap aq bp bq : BitVec 64} {ka : Int} {kb : Int} {m' : ModD} {ra rb : AnsD} {mb : ModD} (hf : Hid (fewM ⟨h, cap, l, n, dr, S⟩ = true)) (hk : ka ≠ 4) (hre : ra.e = 0) (e1 : Hid (doM ⟨h, cap, l, n, dr, S⟩ ⟨ka, ai, an, (ap, aq)⟩ = (m', ra, 0))) (e2 : Hid (doM ⟨h, cap, l, n, dr, S⟩ ⟨kb, bi, bn, (bp, bq)⟩ = (mb, rb, 0)))  (A : Option Addr) (c : Nat) (B : Option Addr) (d : Nat) (w : World) (hM : RawM w A c B d ⟨h, cap, l, n, dr, S⟩) :
    Calls Try.prog 10 #[.agg #[.int .i64 h, .int .i64 cap, .slice A l.length c, .int .i64 n, .int .i64 dr, .slice B S.length d], .agg #[.int .i64 ka, .int .u64 (ai : Int), .int .i64 an, .int .u64 (ap.toNat : Int), .int .u64 (aq.toNat : Int)], .agg #[.int .i64 kb, .int .u64 (bi : Int), .int .i64 bn, .int .u64 (bp.toNat : Int), .int .u64 (bq.toNat : Int)]] w fun e w' => e = .returned (.bool true) ∧ Below w.heap.size w w' := by
  have hs := fewM_sizes hf.out
  have HS := mkHid (show S.length ≤ 30 ∧ l.length ≤ 30 from ⟨hs.1, hs.2.1⟩)
  have HS2 : Hid (l.length < 4611686018427387904) := mkHid (by have := hs.2.1; dsimp only at this; omega)
  have HS3 : Hid (S.length < 4611686018427387904 ∧ ∀ s ∈ S, s.out.length < 4611686018427387904) := mkHid ⟨by have := hs.1; dsimp only at this; omega, fun s q => by have := hs.2.2 s q; omega⟩
  clear hs
  have hq := eq_answers
  have hqs := ansEq_self
  have t1 : (ka == (4 : Int)) = false := beq_eq_false_iff_ne.2 hk
  have t2 : (ka != (4 : Int)) = true := bne_iff_ne.2 hk
  have t3 : (ra.e != (0 : Int)) = false := bne_eq_false_iff_eq.2 hre
  clear hk hre
  have KB : Hid (Below w.heap.size w (((w.alloc (.cells #[.int .i64 h, .int .i64 cap, .slice A l.length c, .int .i64 n, .int .i64 dr, .slice B S.length d] 45)).alloc (.cells #[.int .i64 ka, .int .u64 (ai : Int), .int .i64 an, .int .u64 (ap.toNat : Int), .int .u64 (aq.toNat : Int)] 53)).alloc (.cells #[.int .i64 kb, .int .u64 (bi : Int), .int .i64 bn, .int .u64 (bp.toNat : Int), .int .u64 (bq.toNat : Int)] 53))) := mkHid ((((Below.refl _ _).alloc (Nat.le_refl _) (.cells #[.int .i64 h, .int .i64 cap, .slice A l.length c, .int .i64 n, .int .i64 dr, .slice B S.length d] 45)).alloc (by simp) (.cells #[.int .i64 ka, .int .u64 (ai : Int), .int .i64 an, .int .u64 (ap.toNat : Int), .int .u64 (aq.toNat : Int)] 53)).alloc (by simp; omega) (.cells #[.int .i64 kb, .int .u64 (bi : Int), .int .i64 bn, .int .u64 (bp.toNat : Int), .int .u64 (bq.toNat : Int)] 53))
  have HM := mkHid (hM.below ((((Below.refl _ _).alloc (Nat.le_refl _) (.cells #[.int .i64 h, .int .i64 cap, .slice A l.length c, .int .i64 n, .int .i64 dr, .slice B S.length d] 45)).alloc (by simp) (.cells #[.int .i64 ka, .int .u64 (ai : Int), .int .i64 an, .int .u64 (ap.toNat : Int), .int .u64 (aq.toNat : Int)] 53)).alloc (by simp; omega) (.cells #[.int .i64 kb, .int .u64 (bi : Int), .int .i64 bn, .int .u64 (bp.toNat : Int), .int .u64 (bq.toNat : Int)] 53)))
  have ZM : Hid (Blk (((w.alloc (.cells #[.int .i64 h, .int .i64 cap, .slice A l.length c, .int .i64 n, .int .i64 dr, .slice B S.length d] 45)).alloc (.cells #[.int .i64 ka, .int .u64 (ai : Int), .int .i64 an, .int .u64 (ap.toNat : Int), .int .u64 (aq.toNat : Int)] 53)).alloc (.cells #[.int .i64 kb, .int .u64 (bi : Int), .int .i64 bn, .int .u64 (bp.toNat : Int), .int .u64 (bq.toNat : Int)] 53)) w.heap.size 45 #[.int .i64 h, .int .i64 cap, .slice A l.length c, .int .i64 n, .int .i64 dr, .slice B S.length d]) := mkHid (((Blk.new _ _ _).alloc _).alloc _)
  have ZU : Hid (Blk (((w.alloc (.cells #[.int .i64 h, .int .i64 cap, .slice A l.length c, .int .i64 n, .int .i64 dr, .slice B S.length d] 45)).alloc (.cells #[.int .i64 ka, .int .u64 (ai : Int), .int .i64 an, .int .u64 (ap.toNat : Int), .int .u64 (aq.toNat : Int)] 53)).alloc (.cells #[.int .i64 kb, .int .u64 (bi : Int), .int .i64 bn, .int .u64 (bp.toNat : Int), .int .u64 (bq.toNat : Int)] 53)) (w.heap.size + 1) 53 #[.int .i64 ka, .int .u64 (ai : Int), .int .i64 an, .int .u64 (ap.toNat : Int), .int .u64 (aq.toNat : Int)]) := mkHid ((Blk.at _ _ _ (by simp)).alloc _)
  have ZV : Hid (Blk (((w.alloc (.cells #[.int .i64 h, .int .i64 cap, .slice A l.length c, .int .i64 n, .int .i64 dr, .slice B S.length d] 45)).alloc (.cells #[.int .i64 ka, .int .u64 (ai : Int), .int .i64 an, .int .u64 (ap.toNat : Int), .int .u64 (aq.toNat : Int)] 53)).alloc (.cells #[.int .i64 kb, .int .u64 (bi : Int), .int .i64 bn, .int .u64 (bp.toNat : Int), .int .u64 (bq.toNat : Int)] 53)) (w.heap.size + 2) 53 #[.int .i64 kb, .int .u64 (bi : Int), .int .i64 bn, .int .u64 (bp.toNat : Int), .int .u64 (bq.toNat : Int)]) := mkHid (Blk.at _ _ _ (by simp))
  clear hM
  have cZM := ZM.out.six
  have lZM := ZM.out.lt
  have cZU := ZU.out.five
  have lZU := ZU.out.lt
  have cZV := ZV.out.five
  have lZV := ZV.out.lt
  go_enter Try.func10, Try.ntmps10
  go_wp2_with fail
  refine (live22 _).mono ?_
  rintro e w1 ⟨rfl, hb1⟩
  replace ZM := mkHid (ZM.out.keep hb1)
  replace ZU := mkHid (ZU.out.keep hb1)
  replace ZV := mkHid (ZV.out.keep hb1)
  replace KB := mkHid (KB.out.step hb1)
  replace HM := mkHid (HM.out.below hb1)
  clear cZM lZM
  have cZM := ZM.out.six
  have lZM := ZM.out.lt
  clear cZU lZU
  have cZU := ZU.out.five
  have lZU := ZU.out.lt
  clear cZV lZV
  have cZV := ZV.out.five
  have lZV := ZV.out.lt
  clear hb1
  go_wp2_with fail
  refine (few_walk (m := ⟨h, cap, l, n, dr, S⟩) hf (Nat.le_trans HM.out.s1 HM.out.s2) _ _ _ _ _ HM.out.sents).mono ?_
  rintro e w2 ⟨rfl, hb2⟩
  replace ZM := mkHid (ZM.out.keep hb2)
  replace ZU := mkHid (ZU.out.keep hb2)
  replace ZV := mkHid (ZV.out.keep hb2)
  replace KB := mkHid (KB.out.step hb2)
  replace HM := mkHid (HM.out.below hb2)
  clear cZM lZM
  have cZM := ZM.out.six
  have lZM := ZM.out.lt
  clear cZU lZU
  have cZU := ZU.out.five
  have lZU := ZU.out.lt
  clear cZV lZV
  have cZV := ZV.out.five
  have lZV := ZV.out.lt
  clear hb2
  go_wp2_with fail
  refine (mdo e1 _ _ _ _ _ (HM.out.mem HS.out)).mono ?_
  rintro e w3 ⟨AX, cX, BX, dX, XX, rfl, hoX, hb3⟩
  replace ZM := mkHid (ZM.out.keep hb3)
  replace ZU := mkHid (ZU.out.keep hb3)
  replace ZV := mkHid (ZV.out.keep hb3)
  replace KB := mkHid (KB.out.step hb3)
  replace HM := mkHid (HM.out.below hb3)
  clear cZM lZM
  have cZM := ZM.out.six
  have lZM := ZM.out.lt
  clear cZU lZU
  have cZU := ZU.out.five
  have lZU := ZU.out.lt
  clear cZV lZV
  have cZV := ZV.out.five
  have lZV := ZV.out.lt
  have HX := mkHid hoX
  clear hoX hb3
  go_upto_region 5 with fail
  have E3 : Below w3.heap.size w3 ((w3.alloc (.cells #[.int .i64 m'.h, .int .i64 m'.cap, .slice AX m'.l.length cX, .int .i64 m'.n, .int .i64 m'.draws, .slice BX m'.sent.length dX] 45)).alloc (.cells #[.int .i64 ra.e, .int .i64 ra.epoch, .int .i64 ra.draw, .int .u64 (ra.p.1.toNat : Int), .int .u64 (ra.p.2.toNat : Int)] 55)) := ((Below.refl _ _).alloc (Nat.le_refl _) _).alloc (by simp) _
  obtain ⟨GX, hGX⟩ : ∃ G, G = w3.heap.size := ⟨_, rfl⟩
  have ZXM : Hid (Blk ((w3.alloc (.cells #[.int .i64 m'.h, .int .i64 m'.cap, .slice AX m'.l.length cX, .int .i64 m'.n, .int .i64 m'.draws, .slice BX m'.sent.length dX] 45)).alloc (.cells #[.int .i64 ra.e, .int .i64 ra.epoch, .int .i64 ra.draw, .int .u64 (ra.p.1.toNat : Int), .int .u64 (ra.p.2.toNat : Int)] 55)) w3.heap.size 45 #[.int .i64 m'.h, .int .i64 m'.cap, .slice AX m'.l.length cX, .int .i64 m'.n, .int .i64 m'.draws, .slice BX m'.sent.length dX]) := mkHid ((Blk.new _ _ _).alloc _)
  have ZXA : Hid (Blk ((w3.alloc (.cells #[.int .i64 m'.h, .int .i64 m'.cap, .slice AX m'.l.length cX, .int .i64 m'.n, .int .i64 m'.draws, .slice BX m'.sent.length dX] 45)).alloc (.cells #[.int .i64 ra.e, .int .i64 ra.epoch, .int .i64 ra.draw, .int .u64 (ra.p.1.toNat : Int), .int .u64 (ra.p.2.toNat : Int)] 55)) (w3.heap.size + 1) 55 #[.int .i64 ra.e, .int .i64 ra.epoch, .int .i64 ra.draw, .int .u64 (ra.p.1.toNat : Int), .int .u64 (ra.p.2.toNat : Int)]) := mkHid (Blk.at _ _ _ (by simp))
  replace ZM := mkHid (ZM.out.keep E3)
  replace ZU := mkHid (ZU.out.keep E3)
  replace ZV := mkHid (ZV.out.keep E3)
  replace KB := mkHid (KB.out.step E3)
  replace HM := mkHid (HM.out.below E3)
  replace HX := mkHid (HX.out.below E3)
  clear cZM lZM
  have cZM := ZM.out.six
  have lZM := ZM.out.lt
  clear cZU lZU
  have cZU := ZU.out.five
  have lZU := ZU.out.lt
  clear cZV lZV
  have cZV := ZV.out.five
  have lZV := ZV.out.lt
  generalize ((w3.alloc (.cells #[.int .i64 m'.h, .int .i64 m'.cap, .slice AX m'.l.length cX, .int .i64 m'.n, .int .i64 m'.draws, .slice BX m'.sent.length dX] 45)).alloc (.cells #[.int .i64 ra.e, .int .i64 ra.epoch, .int .i64 ra.draw, .int .u64 (ra.p.1.toNat : Int), .int .u64 (ra.p.2.toNat : Int)] 55)) = u3 at *
  rw [← hGX] at ZXM ZXA
  rw [← hGX]
  clear hGX E3
  have cZXM := ZXM.out.six
  have lZXM := ZXM.out.lt
  have cZXA := ZXA.out.five
  have lZXA := ZXA.out.lt
  go_wp2_with fail
  refine (mdo e2 _ _ _ _ _ (HM.out.mem HS.out)).mono ?_
  rintro e w4 ⟨AY, cY, BY, dY, XY, rfl, hoY, hb4⟩
  replace ZM := mkHid (ZM.out.keep hb4)
  replace ZU := mkHid (ZU.out.keep hb4)
  replace ZV := mkHid (ZV.out.keep hb4)
  replace KB := mkHid (KB.out.step hb4)
  replace HM := mkHid (HM.out.below hb4)
  replace HX := mkHid (HX.out.below hb4)
  replace ZXM := mkHid (ZXM.out.keep hb4)
  replace ZXA := mkHid (ZXA.out.keep hb4)
  clear cZM lZM
  have cZM := ZM.out.six
  have lZM := ZM.out.lt
  clear cZU lZU
  have cZU := ZU.out.five
  have lZU := ZU.out.lt
  clear cZV lZV
  have cZV := ZV.out.five
  have lZV := ZV.out.lt
  clear cZXM lZXM
  have cZXM := ZXM.out.six
  have lZXM := ZXM.out.lt
  clear cZXA lZXA
  have cZXA := ZXA.out.five
  have lZXA := ZXA.out.lt
  have HY := mkHid hoY
  clear hoY hb4
  go_upto_region 10 with fail
  have E4 : Below w4.heap.size w4 ((w4.alloc (.cells #[.int .i64 mb.h, .int .i64 mb.cap, .slice AY mb.l.length cY, .int .i64 mb.n, .int .i64 mb.draws, .slice BY mb.sent.length dY] 45)).alloc (.cells #[.int .i64 rb.e, .int .i64 rb.epoch, .int .i64 rb.draw, .int .u64 (rb.p.1.toNat : Int), .int .u64 (rb.p.2.toNat : Int)] 55)) := ((Below.refl _ _).alloc (Nat.le_refl _) _).alloc (by simp) _
  obtain ⟨GY, hGY⟩ : ∃ G, G = w4.heap.size := ⟨_, rfl⟩
  have ZYM : Hid (Blk ((w4.alloc (.cells #[.int .i64 mb.h, .int .i64 mb.cap, .slice AY mb.l.length cY, .int .i64 mb.n, .int .i64 mb.draws, .slice BY mb.sent.length dY] 45)).alloc (.cells #[.int .i64 rb.e, .int .i64 rb.epoch, .int .i64 rb.draw, .int .u64 (rb.p.1.toNat : Int), .int .u64 (rb.p.2.toNat : Int)] 55)) w4.heap.size 45 #[.int .i64 mb.h, .int .i64 mb.cap, .slice AY mb.l.length cY, .int .i64 mb.n, .int .i64 mb.draws, .slice BY mb.sent.length dY]) := mkHid ((Blk.new _ _ _).alloc _)
  have ZYA : Hid (Blk ((w4.alloc (.cells #[.int .i64 mb.h, .int .i64 mb.cap, .slice AY mb.l.length cY, .int .i64 mb.n, .int .i64 mb.draws, .slice BY mb.sent.length dY] 45)).alloc (.cells #[.int .i64 rb.e, .int .i64 rb.epoch, .int .i64 rb.draw, .int .u64 (rb.p.1.toNat : Int), .int .u64 (rb.p.2.toNat : Int)] 55)) (w4.heap.size + 1) 55 #[.int .i64 rb.e, .int .i64 rb.epoch, .int .i64 rb.draw, .int .u64 (rb.p.1.toNat : Int), .int .u64 (rb.p.2.toNat : Int)]) := mkHid (Blk.at _ _ _ (by simp))
  replace ZM := mkHid (ZM.out.keep E4)
  replace ZU := mkHid (ZU.out.keep E4)
  replace ZV := mkHid (ZV.out.keep E4)
  replace KB := mkHid (KB.out.step E4)
  replace HM := mkHid (HM.out.below E4)
  replace HX := mkHid (HX.out.below E4)
  replace ZXM := mkHid (ZXM.out.keep E4)
  replace ZXA := mkHid (ZXA.out.keep E4)
  replace HY := mkHid (HY.out.below E4)
  clear cZM lZM
  have cZM := ZM.out.six
  have lZM := ZM.out.lt
  clear cZU lZU
  have cZU := ZU.out.five
  have lZU := ZU.out.lt
  clear cZV lZV
  have cZV := ZV.out.five
  have lZV := ZV.out.lt
  clear cZXM lZXM
  have cZXM := ZXM.out.six
  have lZXM := ZXM.out.lt
  clear cZXA lZXA
  have cZXA := ZXA.out.five
  have lZXA := ZXA.out.lt
  generalize ((w4.alloc (.cells #[.int .i64 mb.h, .int .i64 mb.cap, .slice AY mb.l.length cY, .int .i64 mb.n, .int .i64 mb.draws, .slice BY mb.sent.length dY] 45)).alloc (.cells #[.int .i64 rb.e, .int .i64 rb.epoch, .int .i64 rb.draw, .int .u64 (rb.p.1.toNat : Int), .int .u64 (rb.p.2.toNat : Int)] 55)) = u4 at *
  rw [← hGY] at ZYM ZYA
  rw [← hGY]
  clear hGY E4
  have cZYM := ZYM.out.six
  have lZYM := ZYM.out.lt
  have cZYA := ZYA.out.five
  have lZYA := ZYA.out.lt
  go_wp2_with fail
  go_ret
  exact ⟨rfl, KB.out⟩

set_option maxRecDepth 100000 in
set_option maxHeartbeats 8000000 in
theorem mreads_done1 {h cap n dr : Int} {l : List Nat} {S : List SentD} {ai bi : Nat} {an bn : Int} {ap aq bp bq : BitVec 64} {ka : Int} {kb : Int} {m' : ModD} {ra rb : AnsD} {mb : ModD} (hf : Hid (fewM ⟨h, cap, l, n, dr, S⟩ = true)) (hk : ka ≠ 4) (hre : ra.e = 0) (e1 : Hid (doM ⟨h, cap, l, n, dr, S⟩ ⟨ka, ai, an, (ap, aq)⟩ = (m', ra, 0))) (e2 : Hid (doM ⟨h, cap, l, n, dr, S⟩ ⟨kb, bi, bn, (bp, bq)⟩ = (mb, rb, 1)))  (A : Option Addr) (c : Nat) (B : Option Addr) (d : Nat) (w : World) (hM : RawM w A c B d ⟨h, cap, l, n, dr, S⟩) :
    Calls Try.prog 10 #[.agg #[.int .i64 h, .int .i64 cap, .slice A l.length c, .int .i64 n, .int .i64 dr, .slice B S.length d], .agg #[.int .i64 ka, .int .u64 (ai : Int), .int .i64 an, .int .u64 (ap.toNat : Int), .int .u64 (aq.toNat : Int)], .agg #[.int .i64 kb, .int .u64 (bi : Int), .int .i64 bn, .int .u64 (bp.toNat : Int), .int .u64 (bq.toNat : Int)]] w fun e w' => e = .returned (.bool true) ∧ Below w.heap.size w w' := by
  have hs := fewM_sizes hf.out
  have HS := mkHid (show S.length ≤ 30 ∧ l.length ≤ 30 from ⟨hs.1, hs.2.1⟩)
  have HS2 : Hid (l.length < 4611686018427387904) := mkHid (by have := hs.2.1; dsimp only at this; omega)
  have HS3 : Hid (S.length < 4611686018427387904 ∧ ∀ s ∈ S, s.out.length < 4611686018427387904) := mkHid ⟨by have := hs.1; dsimp only at this; omega, fun s q => by have := hs.2.2 s q; omega⟩
  clear hs
  have hq := eq_answers
  have hqs := ansEq_self
  have t1 : (ka == (4 : Int)) = false := beq_eq_false_iff_ne.2 hk
  have t2 : (ka != (4 : Int)) = true := bne_iff_ne.2 hk
  have t3 : (ra.e != (0 : Int)) = false := bne_eq_false_iff_eq.2 hre
  clear hk hre
  have KB : Hid (Below w.heap.size w (((w.alloc (.cells #[.int .i64 h, .int .i64 cap, .slice A l.length c, .int .i64 n, .int .i64 dr, .slice B S.length d] 45)).alloc (.cells #[.int .i64 ka, .int .u64 (ai : Int), .int .i64 an, .int .u64 (ap.toNat : Int), .int .u64 (aq.toNat : Int)] 53)).alloc (.cells #[.int .i64 kb, .int .u64 (bi : Int), .int .i64 bn, .int .u64 (bp.toNat : Int), .int .u64 (bq.toNat : Int)] 53))) := mkHid ((((Below.refl _ _).alloc (Nat.le_refl _) (.cells #[.int .i64 h, .int .i64 cap, .slice A l.length c, .int .i64 n, .int .i64 dr, .slice B S.length d] 45)).alloc (by simp) (.cells #[.int .i64 ka, .int .u64 (ai : Int), .int .i64 an, .int .u64 (ap.toNat : Int), .int .u64 (aq.toNat : Int)] 53)).alloc (by simp; omega) (.cells #[.int .i64 kb, .int .u64 (bi : Int), .int .i64 bn, .int .u64 (bp.toNat : Int), .int .u64 (bq.toNat : Int)] 53))
  have HM := mkHid (hM.below ((((Below.refl _ _).alloc (Nat.le_refl _) (.cells #[.int .i64 h, .int .i64 cap, .slice A l.length c, .int .i64 n, .int .i64 dr, .slice B S.length d] 45)).alloc (by simp) (.cells #[.int .i64 ka, .int .u64 (ai : Int), .int .i64 an, .int .u64 (ap.toNat : Int), .int .u64 (aq.toNat : Int)] 53)).alloc (by simp; omega) (.cells #[.int .i64 kb, .int .u64 (bi : Int), .int .i64 bn, .int .u64 (bp.toNat : Int), .int .u64 (bq.toNat : Int)] 53)))
  have ZM : Hid (Blk (((w.alloc (.cells #[.int .i64 h, .int .i64 cap, .slice A l.length c, .int .i64 n, .int .i64 dr, .slice B S.length d] 45)).alloc (.cells #[.int .i64 ka, .int .u64 (ai : Int), .int .i64 an, .int .u64 (ap.toNat : Int), .int .u64 (aq.toNat : Int)] 53)).alloc (.cells #[.int .i64 kb, .int .u64 (bi : Int), .int .i64 bn, .int .u64 (bp.toNat : Int), .int .u64 (bq.toNat : Int)] 53)) w.heap.size 45 #[.int .i64 h, .int .i64 cap, .slice A l.length c, .int .i64 n, .int .i64 dr, .slice B S.length d]) := mkHid (((Blk.new _ _ _).alloc _).alloc _)
  have ZU : Hid (Blk (((w.alloc (.cells #[.int .i64 h, .int .i64 cap, .slice A l.length c, .int .i64 n, .int .i64 dr, .slice B S.length d] 45)).alloc (.cells #[.int .i64 ka, .int .u64 (ai : Int), .int .i64 an, .int .u64 (ap.toNat : Int), .int .u64 (aq.toNat : Int)] 53)).alloc (.cells #[.int .i64 kb, .int .u64 (bi : Int), .int .i64 bn, .int .u64 (bp.toNat : Int), .int .u64 (bq.toNat : Int)] 53)) (w.heap.size + 1) 53 #[.int .i64 ka, .int .u64 (ai : Int), .int .i64 an, .int .u64 (ap.toNat : Int), .int .u64 (aq.toNat : Int)]) := mkHid ((Blk.at _ _ _ (by simp)).alloc _)
  have ZV : Hid (Blk (((w.alloc (.cells #[.int .i64 h, .int .i64 cap, .slice A l.length c, .int .i64 n, .int .i64 dr, .slice B S.length d] 45)).alloc (.cells #[.int .i64 ka, .int .u64 (ai : Int), .int .i64 an, .int .u64 (ap.toNat : Int), .int .u64 (aq.toNat : Int)] 53)).alloc (.cells #[.int .i64 kb, .int .u64 (bi : Int), .int .i64 bn, .int .u64 (bp.toNat : Int), .int .u64 (bq.toNat : Int)] 53)) (w.heap.size + 2) 53 #[.int .i64 kb, .int .u64 (bi : Int), .int .i64 bn, .int .u64 (bp.toNat : Int), .int .u64 (bq.toNat : Int)]) := mkHid (Blk.at _ _ _ (by simp))
  clear hM
  have cZM := ZM.out.six
  have lZM := ZM.out.lt
  have cZU := ZU.out.five
  have lZU := ZU.out.lt
  have cZV := ZV.out.five
  have lZV := ZV.out.lt
  go_enter Try.func10, Try.ntmps10
  go_wp2_with fail
  refine (live22 _).mono ?_
  rintro e w1 ⟨rfl, hb1⟩
  replace ZM := mkHid (ZM.out.keep hb1)
  replace ZU := mkHid (ZU.out.keep hb1)
  replace ZV := mkHid (ZV.out.keep hb1)
  replace KB := mkHid (KB.out.step hb1)
  replace HM := mkHid (HM.out.below hb1)
  clear cZM lZM
  have cZM := ZM.out.six
  have lZM := ZM.out.lt
  clear cZU lZU
  have cZU := ZU.out.five
  have lZU := ZU.out.lt
  clear cZV lZV
  have cZV := ZV.out.five
  have lZV := ZV.out.lt
  clear hb1
  go_wp2_with fail
  refine (few_walk (m := ⟨h, cap, l, n, dr, S⟩) hf (Nat.le_trans HM.out.s1 HM.out.s2) _ _ _ _ _ HM.out.sents).mono ?_
  rintro e w2 ⟨rfl, hb2⟩
  replace ZM := mkHid (ZM.out.keep hb2)
  replace ZU := mkHid (ZU.out.keep hb2)
  replace ZV := mkHid (ZV.out.keep hb2)
  replace KB := mkHid (KB.out.step hb2)
  replace HM := mkHid (HM.out.below hb2)
  clear cZM lZM
  have cZM := ZM.out.six
  have lZM := ZM.out.lt
  clear cZU lZU
  have cZU := ZU.out.five
  have lZU := ZU.out.lt
  clear cZV lZV
  have cZV := ZV.out.five
  have lZV := ZV.out.lt
  clear hb2
  go_wp2_with fail
  refine (mdo e1 _ _ _ _ _ (HM.out.mem HS.out)).mono ?_
  rintro e w3 ⟨AX, cX, BX, dX, XX, rfl, hoX, hb3⟩
  replace ZM := mkHid (ZM.out.keep hb3)
  replace ZU := mkHid (ZU.out.keep hb3)
  replace ZV := mkHid (ZV.out.keep hb3)
  replace KB := mkHid (KB.out.step hb3)
  replace HM := mkHid (HM.out.below hb3)
  clear cZM lZM
  have cZM := ZM.out.six
  have lZM := ZM.out.lt
  clear cZU lZU
  have cZU := ZU.out.five
  have lZU := ZU.out.lt
  clear cZV lZV
  have cZV := ZV.out.five
  have lZV := ZV.out.lt
  have HX := mkHid hoX
  clear hoX hb3
  go_upto_region 5 with fail
  have E3 : Below w3.heap.size w3 ((w3.alloc (.cells #[.int .i64 m'.h, .int .i64 m'.cap, .slice AX m'.l.length cX, .int .i64 m'.n, .int .i64 m'.draws, .slice BX m'.sent.length dX] 45)).alloc (.cells #[.int .i64 ra.e, .int .i64 ra.epoch, .int .i64 ra.draw, .int .u64 (ra.p.1.toNat : Int), .int .u64 (ra.p.2.toNat : Int)] 55)) := ((Below.refl _ _).alloc (Nat.le_refl _) _).alloc (by simp) _
  obtain ⟨GX, hGX⟩ : ∃ G, G = w3.heap.size := ⟨_, rfl⟩
  have ZXM : Hid (Blk ((w3.alloc (.cells #[.int .i64 m'.h, .int .i64 m'.cap, .slice AX m'.l.length cX, .int .i64 m'.n, .int .i64 m'.draws, .slice BX m'.sent.length dX] 45)).alloc (.cells #[.int .i64 ra.e, .int .i64 ra.epoch, .int .i64 ra.draw, .int .u64 (ra.p.1.toNat : Int), .int .u64 (ra.p.2.toNat : Int)] 55)) w3.heap.size 45 #[.int .i64 m'.h, .int .i64 m'.cap, .slice AX m'.l.length cX, .int .i64 m'.n, .int .i64 m'.draws, .slice BX m'.sent.length dX]) := mkHid ((Blk.new _ _ _).alloc _)
  have ZXA : Hid (Blk ((w3.alloc (.cells #[.int .i64 m'.h, .int .i64 m'.cap, .slice AX m'.l.length cX, .int .i64 m'.n, .int .i64 m'.draws, .slice BX m'.sent.length dX] 45)).alloc (.cells #[.int .i64 ra.e, .int .i64 ra.epoch, .int .i64 ra.draw, .int .u64 (ra.p.1.toNat : Int), .int .u64 (ra.p.2.toNat : Int)] 55)) (w3.heap.size + 1) 55 #[.int .i64 ra.e, .int .i64 ra.epoch, .int .i64 ra.draw, .int .u64 (ra.p.1.toNat : Int), .int .u64 (ra.p.2.toNat : Int)]) := mkHid (Blk.at _ _ _ (by simp))
  replace ZM := mkHid (ZM.out.keep E3)
  replace ZU := mkHid (ZU.out.keep E3)
  replace ZV := mkHid (ZV.out.keep E3)
  replace KB := mkHid (KB.out.step E3)
  replace HM := mkHid (HM.out.below E3)
  replace HX := mkHid (HX.out.below E3)
  clear cZM lZM
  have cZM := ZM.out.six
  have lZM := ZM.out.lt
  clear cZU lZU
  have cZU := ZU.out.five
  have lZU := ZU.out.lt
  clear cZV lZV
  have cZV := ZV.out.five
  have lZV := ZV.out.lt
  generalize ((w3.alloc (.cells #[.int .i64 m'.h, .int .i64 m'.cap, .slice AX m'.l.length cX, .int .i64 m'.n, .int .i64 m'.draws, .slice BX m'.sent.length dX] 45)).alloc (.cells #[.int .i64 ra.e, .int .i64 ra.epoch, .int .i64 ra.draw, .int .u64 (ra.p.1.toNat : Int), .int .u64 (ra.p.2.toNat : Int)] 55)) = u3 at *
  rw [← hGX] at ZXM ZXA
  rw [← hGX]
  clear hGX E3
  have cZXM := ZXM.out.six
  have lZXM := ZXM.out.lt
  have cZXA := ZXA.out.five
  have lZXA := ZXA.out.lt
  go_wp2_with fail
  refine (mdo e2 _ _ _ _ _ (HM.out.mem HS.out)).mono ?_
  rintro e w4 ⟨AY, cY, BY, dY, XY, rfl, hoY, hb4⟩
  replace ZM := mkHid (ZM.out.keep hb4)
  replace ZU := mkHid (ZU.out.keep hb4)
  replace ZV := mkHid (ZV.out.keep hb4)
  replace KB := mkHid (KB.out.step hb4)
  replace HM := mkHid (HM.out.below hb4)
  replace HX := mkHid (HX.out.below hb4)
  replace ZXM := mkHid (ZXM.out.keep hb4)
  replace ZXA := mkHid (ZXA.out.keep hb4)
  clear cZM lZM
  have cZM := ZM.out.six
  have lZM := ZM.out.lt
  clear cZU lZU
  have cZU := ZU.out.five
  have lZU := ZU.out.lt
  clear cZV lZV
  have cZV := ZV.out.five
  have lZV := ZV.out.lt
  clear cZXM lZXM
  have cZXM := ZXM.out.six
  have lZXM := ZXM.out.lt
  clear cZXA lZXA
  have cZXA := ZXA.out.five
  have lZXA := ZXA.out.lt
  have HY := mkHid hoY
  clear hoY hb4
  go_upto_region 10 with fail
  have E4 : Below w4.heap.size w4 ((w4.alloc (.cells #[.int .i64 mb.h, .int .i64 mb.cap, .slice AY mb.l.length cY, .int .i64 mb.n, .int .i64 mb.draws, .slice BY mb.sent.length dY] 45)).alloc (.cells #[.int .i64 rb.e, .int .i64 rb.epoch, .int .i64 rb.draw, .int .u64 (rb.p.1.toNat : Int), .int .u64 (rb.p.2.toNat : Int)] 55)) := ((Below.refl _ _).alloc (Nat.le_refl _) _).alloc (by simp) _
  obtain ⟨GY, hGY⟩ : ∃ G, G = w4.heap.size := ⟨_, rfl⟩
  have ZYM : Hid (Blk ((w4.alloc (.cells #[.int .i64 mb.h, .int .i64 mb.cap, .slice AY mb.l.length cY, .int .i64 mb.n, .int .i64 mb.draws, .slice BY mb.sent.length dY] 45)).alloc (.cells #[.int .i64 rb.e, .int .i64 rb.epoch, .int .i64 rb.draw, .int .u64 (rb.p.1.toNat : Int), .int .u64 (rb.p.2.toNat : Int)] 55)) w4.heap.size 45 #[.int .i64 mb.h, .int .i64 mb.cap, .slice AY mb.l.length cY, .int .i64 mb.n, .int .i64 mb.draws, .slice BY mb.sent.length dY]) := mkHid ((Blk.new _ _ _).alloc _)
  have ZYA : Hid (Blk ((w4.alloc (.cells #[.int .i64 mb.h, .int .i64 mb.cap, .slice AY mb.l.length cY, .int .i64 mb.n, .int .i64 mb.draws, .slice BY mb.sent.length dY] 45)).alloc (.cells #[.int .i64 rb.e, .int .i64 rb.epoch, .int .i64 rb.draw, .int .u64 (rb.p.1.toNat : Int), .int .u64 (rb.p.2.toNat : Int)] 55)) (w4.heap.size + 1) 55 #[.int .i64 rb.e, .int .i64 rb.epoch, .int .i64 rb.draw, .int .u64 (rb.p.1.toNat : Int), .int .u64 (rb.p.2.toNat : Int)]) := mkHid (Blk.at _ _ _ (by simp))
  replace ZM := mkHid (ZM.out.keep E4)
  replace ZU := mkHid (ZU.out.keep E4)
  replace ZV := mkHid (ZV.out.keep E4)
  replace KB := mkHid (KB.out.step E4)
  replace HM := mkHid (HM.out.below E4)
  replace HX := mkHid (HX.out.below E4)
  replace ZXM := mkHid (ZXM.out.keep E4)
  replace ZXA := mkHid (ZXA.out.keep E4)
  replace HY := mkHid (HY.out.below E4)
  clear cZM lZM
  have cZM := ZM.out.six
  have lZM := ZM.out.lt
  clear cZU lZU
  have cZU := ZU.out.five
  have lZU := ZU.out.lt
  clear cZV lZV
  have cZV := ZV.out.five
  have lZV := ZV.out.lt
  clear cZXM lZXM
  have cZXM := ZXM.out.six
  have lZXM := ZXM.out.lt
  clear cZXA lZXA
  have cZXA := ZXA.out.five
  have lZXA := ZXA.out.lt
  generalize ((w4.alloc (.cells #[.int .i64 mb.h, .int .i64 mb.cap, .slice AY mb.l.length cY, .int .i64 mb.n, .int .i64 mb.draws, .slice BY mb.sent.length dY] 45)).alloc (.cells #[.int .i64 rb.e, .int .i64 rb.epoch, .int .i64 rb.draw, .int .u64 (rb.p.1.toNat : Int), .int .u64 (rb.p.2.toNat : Int)] 55)) = u4 at *
  rw [← hGY] at ZYM ZYA
  rw [← hGY]
  clear hGY E4
  have cZYM := ZYM.out.six
  have lZYM := ZYM.out.lt
  have cZYA := ZYA.out.five
  have lZYA := ZYA.out.lt
  go_wp2_with fail
  go_ret
  exact ⟨rfl, KB.out⟩

set_option maxRecDepth 100000 in
set_option maxHeartbeats 8000000 in
theorem mreads_err0 {h cap n dr : Int} {l : List Nat} {S : List SentD} {ai bi : Nat} {an bn : Int} {ap aq bp bq : BitVec 64} {ka : Int} {kb : Int} {ra rb : AnsD} {mb : ModD} (hf : Hid (fewM ⟨h, cap, l, n, dr, S⟩ = true)) (hk : ka ≠ 4) (hre : ra.e ≠ 0) (e1 : Hid (doM ⟨h, cap, l, n, dr, S⟩ ⟨ka, ai, an, (ap, aq)⟩ = (⟨h, cap, l, n, dr, S⟩, ra, 0))) (e2 : Hid (doM ⟨h, cap, l, n, dr, S⟩ ⟨kb, bi, bn, (bp, bq)⟩ = (mb, rb, 0)))  (A : Option Addr) (c : Nat) (B : Option Addr) (d : Nat) (w : World) (hM : RawM w A c B d ⟨h, cap, l, n, dr, S⟩) :
    Calls Try.prog 10 #[.agg #[.int .i64 h, .int .i64 cap, .slice A l.length c, .int .i64 n, .int .i64 dr, .slice B S.length d], .agg #[.int .i64 ka, .int .u64 (ai : Int), .int .i64 an, .int .u64 (ap.toNat : Int), .int .u64 (aq.toNat : Int)], .agg #[.int .i64 kb, .int .u64 (bi : Int), .int .i64 bn, .int .u64 (bp.toNat : Int), .int .u64 (bq.toNat : Int)]] w fun e w' => e = .returned (.bool true) ∧ Below w.heap.size w w' := by
  have hs := fewM_sizes hf.out
  have HS := mkHid (show S.length ≤ 30 ∧ l.length ≤ 30 from ⟨hs.1, hs.2.1⟩)
  have HS2 : Hid (l.length < 4611686018427387904) := mkHid (by have := hs.2.1; dsimp only at this; omega)
  have HS3 : Hid (S.length < 4611686018427387904 ∧ ∀ s ∈ S, s.out.length < 4611686018427387904) := mkHid ⟨by have := hs.1; dsimp only at this; omega, fun s q => by have := hs.2.2 s q; omega⟩
  clear hs
  have hq := eq_answers
  have hqs := ansEq_self
  have t1 : (ka == (4 : Int)) = false := beq_eq_false_iff_ne.2 hk
  have t2 : (ka != (4 : Int)) = true := bne_iff_ne.2 hk
  have t3 : (ra.e != (0 : Int)) = true := bne_iff_ne.2 hre
  clear hk hre
  have KB : Hid (Below w.heap.size w (((w.alloc (.cells #[.int .i64 h, .int .i64 cap, .slice A l.length c, .int .i64 n, .int .i64 dr, .slice B S.length d] 45)).alloc (.cells #[.int .i64 ka, .int .u64 (ai : Int), .int .i64 an, .int .u64 (ap.toNat : Int), .int .u64 (aq.toNat : Int)] 53)).alloc (.cells #[.int .i64 kb, .int .u64 (bi : Int), .int .i64 bn, .int .u64 (bp.toNat : Int), .int .u64 (bq.toNat : Int)] 53))) := mkHid ((((Below.refl _ _).alloc (Nat.le_refl _) (.cells #[.int .i64 h, .int .i64 cap, .slice A l.length c, .int .i64 n, .int .i64 dr, .slice B S.length d] 45)).alloc (by simp) (.cells #[.int .i64 ka, .int .u64 (ai : Int), .int .i64 an, .int .u64 (ap.toNat : Int), .int .u64 (aq.toNat : Int)] 53)).alloc (by simp; omega) (.cells #[.int .i64 kb, .int .u64 (bi : Int), .int .i64 bn, .int .u64 (bp.toNat : Int), .int .u64 (bq.toNat : Int)] 53))
  have HM := mkHid (hM.below ((((Below.refl _ _).alloc (Nat.le_refl _) (.cells #[.int .i64 h, .int .i64 cap, .slice A l.length c, .int .i64 n, .int .i64 dr, .slice B S.length d] 45)).alloc (by simp) (.cells #[.int .i64 ka, .int .u64 (ai : Int), .int .i64 an, .int .u64 (ap.toNat : Int), .int .u64 (aq.toNat : Int)] 53)).alloc (by simp; omega) (.cells #[.int .i64 kb, .int .u64 (bi : Int), .int .i64 bn, .int .u64 (bp.toNat : Int), .int .u64 (bq.toNat : Int)] 53)))
  have ZM : Hid (Blk (((w.alloc (.cells #[.int .i64 h, .int .i64 cap, .slice A l.length c, .int .i64 n, .int .i64 dr, .slice B S.length d] 45)).alloc (.cells #[.int .i64 ka, .int .u64 (ai : Int), .int .i64 an, .int .u64 (ap.toNat : Int), .int .u64 (aq.toNat : Int)] 53)).alloc (.cells #[.int .i64 kb, .int .u64 (bi : Int), .int .i64 bn, .int .u64 (bp.toNat : Int), .int .u64 (bq.toNat : Int)] 53)) w.heap.size 45 #[.int .i64 h, .int .i64 cap, .slice A l.length c, .int .i64 n, .int .i64 dr, .slice B S.length d]) := mkHid (((Blk.new _ _ _).alloc _).alloc _)
  have ZU : Hid (Blk (((w.alloc (.cells #[.int .i64 h, .int .i64 cap, .slice A l.length c, .int .i64 n, .int .i64 dr, .slice B S.length d] 45)).alloc (.cells #[.int .i64 ka, .int .u64 (ai : Int), .int .i64 an, .int .u64 (ap.toNat : Int), .int .u64 (aq.toNat : Int)] 53)).alloc (.cells #[.int .i64 kb, .int .u64 (bi : Int), .int .i64 bn, .int .u64 (bp.toNat : Int), .int .u64 (bq.toNat : Int)] 53)) (w.heap.size + 1) 53 #[.int .i64 ka, .int .u64 (ai : Int), .int .i64 an, .int .u64 (ap.toNat : Int), .int .u64 (aq.toNat : Int)]) := mkHid ((Blk.at _ _ _ (by simp)).alloc _)
  have ZV : Hid (Blk (((w.alloc (.cells #[.int .i64 h, .int .i64 cap, .slice A l.length c, .int .i64 n, .int .i64 dr, .slice B S.length d] 45)).alloc (.cells #[.int .i64 ka, .int .u64 (ai : Int), .int .i64 an, .int .u64 (ap.toNat : Int), .int .u64 (aq.toNat : Int)] 53)).alloc (.cells #[.int .i64 kb, .int .u64 (bi : Int), .int .i64 bn, .int .u64 (bp.toNat : Int), .int .u64 (bq.toNat : Int)] 53)) (w.heap.size + 2) 53 #[.int .i64 kb, .int .u64 (bi : Int), .int .i64 bn, .int .u64 (bp.toNat : Int), .int .u64 (bq.toNat : Int)]) := mkHid (Blk.at _ _ _ (by simp))
  clear hM
  have cZM := ZM.out.six
  have lZM := ZM.out.lt
  have cZU := ZU.out.five
  have lZU := ZU.out.lt
  have cZV := ZV.out.five
  have lZV := ZV.out.lt
  go_enter Try.func10, Try.ntmps10
  go_wp2_with fail
  refine (live22 _).mono ?_
  rintro e w1 ⟨rfl, hb1⟩
  replace ZM := mkHid (ZM.out.keep hb1)
  replace ZU := mkHid (ZU.out.keep hb1)
  replace ZV := mkHid (ZV.out.keep hb1)
  replace KB := mkHid (KB.out.step hb1)
  replace HM := mkHid (HM.out.below hb1)
  clear cZM lZM
  have cZM := ZM.out.six
  have lZM := ZM.out.lt
  clear cZU lZU
  have cZU := ZU.out.five
  have lZU := ZU.out.lt
  clear cZV lZV
  have cZV := ZV.out.five
  have lZV := ZV.out.lt
  clear hb1
  go_wp2_with fail
  refine (few_walk (m := ⟨h, cap, l, n, dr, S⟩) hf (Nat.le_trans HM.out.s1 HM.out.s2) _ _ _ _ _ HM.out.sents).mono ?_
  rintro e w2 ⟨rfl, hb2⟩
  replace ZM := mkHid (ZM.out.keep hb2)
  replace ZU := mkHid (ZU.out.keep hb2)
  replace ZV := mkHid (ZV.out.keep hb2)
  replace KB := mkHid (KB.out.step hb2)
  replace HM := mkHid (HM.out.below hb2)
  clear cZM lZM
  have cZM := ZM.out.six
  have lZM := ZM.out.lt
  clear cZU lZU
  have cZU := ZU.out.five
  have lZU := ZU.out.lt
  clear cZV lZV
  have cZV := ZV.out.five
  have lZV := ZV.out.lt
  clear hb2
  go_wp2_with fail
  refine (mdo e1 _ _ _ _ _ (HM.out.mem HS.out)).mono ?_
  rintro e w3 ⟨AX, cX, BX, dX, XX, rfl, hoX, hb3⟩
  replace ZM := mkHid (ZM.out.keep hb3)
  replace ZU := mkHid (ZU.out.keep hb3)
  replace ZV := mkHid (ZV.out.keep hb3)
  replace KB := mkHid (KB.out.step hb3)
  replace HM := mkHid (HM.out.below hb3)
  clear cZM lZM
  have cZM := ZM.out.six
  have lZM := ZM.out.lt
  clear cZU lZU
  have cZU := ZU.out.five
  have lZU := ZU.out.lt
  clear cZV lZV
  have cZV := ZV.out.five
  have lZV := ZV.out.lt
  have HX := mkHid hoX
  clear hoX hb3
  go_upto_region 5 with fail
  have E3 : Below w3.heap.size w3 ((w3.alloc (.cells #[.int .i64 h, .int .i64 cap, .slice AX l.length cX, .int .i64 n, .int .i64 dr, .slice BX S.length dX] 45)).alloc (.cells #[.int .i64 ra.e, .int .i64 ra.epoch, .int .i64 ra.draw, .int .u64 (ra.p.1.toNat : Int), .int .u64 (ra.p.2.toNat : Int)] 55)) := ((Below.refl _ _).alloc (Nat.le_refl _) _).alloc (by simp) _
  obtain ⟨GX, hGX⟩ : ∃ G, G = w3.heap.size := ⟨_, rfl⟩
  have ZXM : Hid (Blk ((w3.alloc (.cells #[.int .i64 h, .int .i64 cap, .slice AX l.length cX, .int .i64 n, .int .i64 dr, .slice BX S.length dX] 45)).alloc (.cells #[.int .i64 ra.e, .int .i64 ra.epoch, .int .i64 ra.draw, .int .u64 (ra.p.1.toNat : Int), .int .u64 (ra.p.2.toNat : Int)] 55)) w3.heap.size 45 #[.int .i64 h, .int .i64 cap, .slice AX l.length cX, .int .i64 n, .int .i64 dr, .slice BX S.length dX]) := mkHid ((Blk.new _ _ _).alloc _)
  have ZXA : Hid (Blk ((w3.alloc (.cells #[.int .i64 h, .int .i64 cap, .slice AX l.length cX, .int .i64 n, .int .i64 dr, .slice BX S.length dX] 45)).alloc (.cells #[.int .i64 ra.e, .int .i64 ra.epoch, .int .i64 ra.draw, .int .u64 (ra.p.1.toNat : Int), .int .u64 (ra.p.2.toNat : Int)] 55)) (w3.heap.size + 1) 55 #[.int .i64 ra.e, .int .i64 ra.epoch, .int .i64 ra.draw, .int .u64 (ra.p.1.toNat : Int), .int .u64 (ra.p.2.toNat : Int)]) := mkHid (Blk.at _ _ _ (by simp))
  replace ZM := mkHid (ZM.out.keep E3)
  replace ZU := mkHid (ZU.out.keep E3)
  replace ZV := mkHid (ZV.out.keep E3)
  replace KB := mkHid (KB.out.step E3)
  replace HM := mkHid (HM.out.below E3)
  replace HX := mkHid (HX.out.below E3)
  clear cZM lZM
  have cZM := ZM.out.six
  have lZM := ZM.out.lt
  clear cZU lZU
  have cZU := ZU.out.five
  have lZU := ZU.out.lt
  clear cZV lZV
  have cZV := ZV.out.five
  have lZV := ZV.out.lt
  generalize ((w3.alloc (.cells #[.int .i64 h, .int .i64 cap, .slice AX l.length cX, .int .i64 n, .int .i64 dr, .slice BX S.length dX] 45)).alloc (.cells #[.int .i64 ra.e, .int .i64 ra.epoch, .int .i64 ra.draw, .int .u64 (ra.p.1.toNat : Int), .int .u64 (ra.p.2.toNat : Int)] 55)) = u3 at *
  rw [← hGX] at ZXM ZXA
  rw [← hGX]
  clear hGX E3
  have cZXM := ZXM.out.six
  have lZXM := ZXM.out.lt
  have cZXA := ZXA.out.five
  have lZXA := ZXA.out.lt
  go_wp2_with fail
  refine (msame (m := ⟨h, cap, l, n, dr, S⟩) (o := ⟨h, cap, l, n, dr, S⟩) (mkHid (sameM_self _)) HS2 HS3 _ _ _ _ _ _ _ _ _ HX.out.reads HM.out.reads (HX.out.mem (by have := HS.out; dsimp only; omega)).sents HM.out.sents).mono ?_
  rintro e w4 ⟨rfl, hb4⟩
  replace ZM := mkHid (ZM.out.keep hb4)
  replace ZU := mkHid (ZU.out.keep hb4)
  replace ZV := mkHid (ZV.out.keep hb4)
  replace KB := mkHid (KB.out.step hb4)
  replace HM := mkHid (HM.out.below hb4)
  replace HX := mkHid (HX.out.below hb4)
  replace ZXM := mkHid (ZXM.out.keep hb4)
  replace ZXA := mkHid (ZXA.out.keep hb4)
  clear cZM lZM
  have cZM := ZM.out.six
  have lZM := ZM.out.lt
  clear cZU lZU
  have cZU := ZU.out.five
  have lZU := ZU.out.lt
  clear cZV lZV
  have cZV := ZV.out.five
  have lZV := ZV.out.lt
  clear cZXM lZXM
  have cZXM := ZXM.out.six
  have lZXM := ZXM.out.lt
  clear cZXA lZXA
  have cZXA := ZXA.out.five
  have lZXA := ZXA.out.lt
  clear hb4
  go_wp2_with fail
  refine (mdo e2 _ _ _ _ _ (HM.out.mem HS.out)).mono ?_
  rintro e w5 ⟨AY, cY, BY, dY, XY, rfl, hoY, hb5⟩
  replace ZM := mkHid (ZM.out.keep hb5)
  replace ZU := mkHid (ZU.out.keep hb5)
  replace ZV := mkHid (ZV.out.keep hb5)
  replace KB := mkHid (KB.out.step hb5)
  replace HM := mkHid (HM.out.below hb5)
  replace HX := mkHid (HX.out.below hb5)
  replace ZXM := mkHid (ZXM.out.keep hb5)
  replace ZXA := mkHid (ZXA.out.keep hb5)
  clear cZM lZM
  have cZM := ZM.out.six
  have lZM := ZM.out.lt
  clear cZU lZU
  have cZU := ZU.out.five
  have lZU := ZU.out.lt
  clear cZV lZV
  have cZV := ZV.out.five
  have lZV := ZV.out.lt
  clear cZXM lZXM
  have cZXM := ZXM.out.six
  have lZXM := ZXM.out.lt
  clear cZXA lZXA
  have cZXA := ZXA.out.five
  have lZXA := ZXA.out.lt
  have HY := mkHid hoY
  clear hoY hb5
  go_upto_region 10 with fail
  have E5 : Below w5.heap.size w5 ((w5.alloc (.cells #[.int .i64 mb.h, .int .i64 mb.cap, .slice AY mb.l.length cY, .int .i64 mb.n, .int .i64 mb.draws, .slice BY mb.sent.length dY] 45)).alloc (.cells #[.int .i64 rb.e, .int .i64 rb.epoch, .int .i64 rb.draw, .int .u64 (rb.p.1.toNat : Int), .int .u64 (rb.p.2.toNat : Int)] 55)) := ((Below.refl _ _).alloc (Nat.le_refl _) _).alloc (by simp) _
  obtain ⟨GY, hGY⟩ : ∃ G, G = w5.heap.size := ⟨_, rfl⟩
  have ZYM : Hid (Blk ((w5.alloc (.cells #[.int .i64 mb.h, .int .i64 mb.cap, .slice AY mb.l.length cY, .int .i64 mb.n, .int .i64 mb.draws, .slice BY mb.sent.length dY] 45)).alloc (.cells #[.int .i64 rb.e, .int .i64 rb.epoch, .int .i64 rb.draw, .int .u64 (rb.p.1.toNat : Int), .int .u64 (rb.p.2.toNat : Int)] 55)) w5.heap.size 45 #[.int .i64 mb.h, .int .i64 mb.cap, .slice AY mb.l.length cY, .int .i64 mb.n, .int .i64 mb.draws, .slice BY mb.sent.length dY]) := mkHid ((Blk.new _ _ _).alloc _)
  have ZYA : Hid (Blk ((w5.alloc (.cells #[.int .i64 mb.h, .int .i64 mb.cap, .slice AY mb.l.length cY, .int .i64 mb.n, .int .i64 mb.draws, .slice BY mb.sent.length dY] 45)).alloc (.cells #[.int .i64 rb.e, .int .i64 rb.epoch, .int .i64 rb.draw, .int .u64 (rb.p.1.toNat : Int), .int .u64 (rb.p.2.toNat : Int)] 55)) (w5.heap.size + 1) 55 #[.int .i64 rb.e, .int .i64 rb.epoch, .int .i64 rb.draw, .int .u64 (rb.p.1.toNat : Int), .int .u64 (rb.p.2.toNat : Int)]) := mkHid (Blk.at _ _ _ (by simp))
  replace ZM := mkHid (ZM.out.keep E5)
  replace ZU := mkHid (ZU.out.keep E5)
  replace ZV := mkHid (ZV.out.keep E5)
  replace KB := mkHid (KB.out.step E5)
  replace HM := mkHid (HM.out.below E5)
  replace HX := mkHid (HX.out.below E5)
  replace ZXM := mkHid (ZXM.out.keep E5)
  replace ZXA := mkHid (ZXA.out.keep E5)
  replace HY := mkHid (HY.out.below E5)
  clear cZM lZM
  have cZM := ZM.out.six
  have lZM := ZM.out.lt
  clear cZU lZU
  have cZU := ZU.out.five
  have lZU := ZU.out.lt
  clear cZV lZV
  have cZV := ZV.out.five
  have lZV := ZV.out.lt
  clear cZXM lZXM
  have cZXM := ZXM.out.six
  have lZXM := ZXM.out.lt
  clear cZXA lZXA
  have cZXA := ZXA.out.five
  have lZXA := ZXA.out.lt
  generalize ((w5.alloc (.cells #[.int .i64 mb.h, .int .i64 mb.cap, .slice AY mb.l.length cY, .int .i64 mb.n, .int .i64 mb.draws, .slice BY mb.sent.length dY] 45)).alloc (.cells #[.int .i64 rb.e, .int .i64 rb.epoch, .int .i64 rb.draw, .int .u64 (rb.p.1.toNat : Int), .int .u64 (rb.p.2.toNat : Int)] 55)) = u5 at *
  rw [← hGY] at ZYM ZYA
  rw [← hGY]
  clear hGY E5
  have cZYM := ZYM.out.six
  have lZYM := ZYM.out.lt
  have cZYA := ZYA.out.five
  have lZYA := ZYA.out.lt
  go_wp2_with fail
  go_ret
  exact ⟨rfl, KB.out⟩

set_option maxRecDepth 100000 in
set_option maxHeartbeats 8000000 in
theorem mreads_err1 {h cap n dr : Int} {l : List Nat} {S : List SentD} {ai bi : Nat} {an bn : Int} {ap aq bp bq : BitVec 64} {ka : Int} {kb : Int} {ra rb : AnsD} {mb : ModD} (hf : Hid (fewM ⟨h, cap, l, n, dr, S⟩ = true)) (hk : ka ≠ 4) (hre : ra.e ≠ 0) (e1 : Hid (doM ⟨h, cap, l, n, dr, S⟩ ⟨ka, ai, an, (ap, aq)⟩ = (⟨h, cap, l, n, dr, S⟩, ra, 0))) (e2 : Hid (doM ⟨h, cap, l, n, dr, S⟩ ⟨kb, bi, bn, (bp, bq)⟩ = (mb, rb, 1)))  (A : Option Addr) (c : Nat) (B : Option Addr) (d : Nat) (w : World) (hM : RawM w A c B d ⟨h, cap, l, n, dr, S⟩) :
    Calls Try.prog 10 #[.agg #[.int .i64 h, .int .i64 cap, .slice A l.length c, .int .i64 n, .int .i64 dr, .slice B S.length d], .agg #[.int .i64 ka, .int .u64 (ai : Int), .int .i64 an, .int .u64 (ap.toNat : Int), .int .u64 (aq.toNat : Int)], .agg #[.int .i64 kb, .int .u64 (bi : Int), .int .i64 bn, .int .u64 (bp.toNat : Int), .int .u64 (bq.toNat : Int)]] w fun e w' => e = .returned (.bool true) ∧ Below w.heap.size w w' := by
  have hs := fewM_sizes hf.out
  have HS := mkHid (show S.length ≤ 30 ∧ l.length ≤ 30 from ⟨hs.1, hs.2.1⟩)
  have HS2 : Hid (l.length < 4611686018427387904) := mkHid (by have := hs.2.1; dsimp only at this; omega)
  have HS3 : Hid (S.length < 4611686018427387904 ∧ ∀ s ∈ S, s.out.length < 4611686018427387904) := mkHid ⟨by have := hs.1; dsimp only at this; omega, fun s q => by have := hs.2.2 s q; omega⟩
  clear hs
  have hq := eq_answers
  have hqs := ansEq_self
  have t1 : (ka == (4 : Int)) = false := beq_eq_false_iff_ne.2 hk
  have t2 : (ka != (4 : Int)) = true := bne_iff_ne.2 hk
  have t3 : (ra.e != (0 : Int)) = true := bne_iff_ne.2 hre
  clear hk hre
  have KB : Hid (Below w.heap.size w (((w.alloc (.cells #[.int .i64 h, .int .i64 cap, .slice A l.length c, .int .i64 n, .int .i64 dr, .slice B S.length d] 45)).alloc (.cells #[.int .i64 ka, .int .u64 (ai : Int), .int .i64 an, .int .u64 (ap.toNat : Int), .int .u64 (aq.toNat : Int)] 53)).alloc (.cells #[.int .i64 kb, .int .u64 (bi : Int), .int .i64 bn, .int .u64 (bp.toNat : Int), .int .u64 (bq.toNat : Int)] 53))) := mkHid ((((Below.refl _ _).alloc (Nat.le_refl _) (.cells #[.int .i64 h, .int .i64 cap, .slice A l.length c, .int .i64 n, .int .i64 dr, .slice B S.length d] 45)).alloc (by simp) (.cells #[.int .i64 ka, .int .u64 (ai : Int), .int .i64 an, .int .u64 (ap.toNat : Int), .int .u64 (aq.toNat : Int)] 53)).alloc (by simp; omega) (.cells #[.int .i64 kb, .int .u64 (bi : Int), .int .i64 bn, .int .u64 (bp.toNat : Int), .int .u64 (bq.toNat : Int)] 53))
  have HM := mkHid (hM.below ((((Below.refl _ _).alloc (Nat.le_refl _) (.cells #[.int .i64 h, .int .i64 cap, .slice A l.length c, .int .i64 n, .int .i64 dr, .slice B S.length d] 45)).alloc (by simp) (.cells #[.int .i64 ka, .int .u64 (ai : Int), .int .i64 an, .int .u64 (ap.toNat : Int), .int .u64 (aq.toNat : Int)] 53)).alloc (by simp; omega) (.cells #[.int .i64 kb, .int .u64 (bi : Int), .int .i64 bn, .int .u64 (bp.toNat : Int), .int .u64 (bq.toNat : Int)] 53)))
  have ZM : Hid (Blk (((w.alloc (.cells #[.int .i64 h, .int .i64 cap, .slice A l.length c, .int .i64 n, .int .i64 dr, .slice B S.length d] 45)).alloc (.cells #[.int .i64 ka, .int .u64 (ai : Int), .int .i64 an, .int .u64 (ap.toNat : Int), .int .u64 (aq.toNat : Int)] 53)).alloc (.cells #[.int .i64 kb, .int .u64 (bi : Int), .int .i64 bn, .int .u64 (bp.toNat : Int), .int .u64 (bq.toNat : Int)] 53)) w.heap.size 45 #[.int .i64 h, .int .i64 cap, .slice A l.length c, .int .i64 n, .int .i64 dr, .slice B S.length d]) := mkHid (((Blk.new _ _ _).alloc _).alloc _)
  have ZU : Hid (Blk (((w.alloc (.cells #[.int .i64 h, .int .i64 cap, .slice A l.length c, .int .i64 n, .int .i64 dr, .slice B S.length d] 45)).alloc (.cells #[.int .i64 ka, .int .u64 (ai : Int), .int .i64 an, .int .u64 (ap.toNat : Int), .int .u64 (aq.toNat : Int)] 53)).alloc (.cells #[.int .i64 kb, .int .u64 (bi : Int), .int .i64 bn, .int .u64 (bp.toNat : Int), .int .u64 (bq.toNat : Int)] 53)) (w.heap.size + 1) 53 #[.int .i64 ka, .int .u64 (ai : Int), .int .i64 an, .int .u64 (ap.toNat : Int), .int .u64 (aq.toNat : Int)]) := mkHid ((Blk.at _ _ _ (by simp)).alloc _)
  have ZV : Hid (Blk (((w.alloc (.cells #[.int .i64 h, .int .i64 cap, .slice A l.length c, .int .i64 n, .int .i64 dr, .slice B S.length d] 45)).alloc (.cells #[.int .i64 ka, .int .u64 (ai : Int), .int .i64 an, .int .u64 (ap.toNat : Int), .int .u64 (aq.toNat : Int)] 53)).alloc (.cells #[.int .i64 kb, .int .u64 (bi : Int), .int .i64 bn, .int .u64 (bp.toNat : Int), .int .u64 (bq.toNat : Int)] 53)) (w.heap.size + 2) 53 #[.int .i64 kb, .int .u64 (bi : Int), .int .i64 bn, .int .u64 (bp.toNat : Int), .int .u64 (bq.toNat : Int)]) := mkHid (Blk.at _ _ _ (by simp))
  clear hM
  have cZM := ZM.out.six
  have lZM := ZM.out.lt
  have cZU := ZU.out.five
  have lZU := ZU.out.lt
  have cZV := ZV.out.five
  have lZV := ZV.out.lt
  go_enter Try.func10, Try.ntmps10
  go_wp2_with fail
  refine (live22 _).mono ?_
  rintro e w1 ⟨rfl, hb1⟩
  replace ZM := mkHid (ZM.out.keep hb1)
  replace ZU := mkHid (ZU.out.keep hb1)
  replace ZV := mkHid (ZV.out.keep hb1)
  replace KB := mkHid (KB.out.step hb1)
  replace HM := mkHid (HM.out.below hb1)
  clear cZM lZM
  have cZM := ZM.out.six
  have lZM := ZM.out.lt
  clear cZU lZU
  have cZU := ZU.out.five
  have lZU := ZU.out.lt
  clear cZV lZV
  have cZV := ZV.out.five
  have lZV := ZV.out.lt
  clear hb1
  go_wp2_with fail
  refine (few_walk (m := ⟨h, cap, l, n, dr, S⟩) hf (Nat.le_trans HM.out.s1 HM.out.s2) _ _ _ _ _ HM.out.sents).mono ?_
  rintro e w2 ⟨rfl, hb2⟩
  replace ZM := mkHid (ZM.out.keep hb2)
  replace ZU := mkHid (ZU.out.keep hb2)
  replace ZV := mkHid (ZV.out.keep hb2)
  replace KB := mkHid (KB.out.step hb2)
  replace HM := mkHid (HM.out.below hb2)
  clear cZM lZM
  have cZM := ZM.out.six
  have lZM := ZM.out.lt
  clear cZU lZU
  have cZU := ZU.out.five
  have lZU := ZU.out.lt
  clear cZV lZV
  have cZV := ZV.out.five
  have lZV := ZV.out.lt
  clear hb2
  go_wp2_with fail
  refine (mdo e1 _ _ _ _ _ (HM.out.mem HS.out)).mono ?_
  rintro e w3 ⟨AX, cX, BX, dX, XX, rfl, hoX, hb3⟩
  replace ZM := mkHid (ZM.out.keep hb3)
  replace ZU := mkHid (ZU.out.keep hb3)
  replace ZV := mkHid (ZV.out.keep hb3)
  replace KB := mkHid (KB.out.step hb3)
  replace HM := mkHid (HM.out.below hb3)
  clear cZM lZM
  have cZM := ZM.out.six
  have lZM := ZM.out.lt
  clear cZU lZU
  have cZU := ZU.out.five
  have lZU := ZU.out.lt
  clear cZV lZV
  have cZV := ZV.out.five
  have lZV := ZV.out.lt
  have HX := mkHid hoX
  clear hoX hb3
  go_upto_region 5 with fail
  have E3 : Below w3.heap.size w3 ((w3.alloc (.cells #[.int .i64 h, .int .i64 cap, .slice AX l.length cX, .int .i64 n, .int .i64 dr, .slice BX S.length dX] 45)).alloc (.cells #[.int .i64 ra.e, .int .i64 ra.epoch, .int .i64 ra.draw, .int .u64 (ra.p.1.toNat : Int), .int .u64 (ra.p.2.toNat : Int)] 55)) := ((Below.refl _ _).alloc (Nat.le_refl _) _).alloc (by simp) _
  obtain ⟨GX, hGX⟩ : ∃ G, G = w3.heap.size := ⟨_, rfl⟩
  have ZXM : Hid (Blk ((w3.alloc (.cells #[.int .i64 h, .int .i64 cap, .slice AX l.length cX, .int .i64 n, .int .i64 dr, .slice BX S.length dX] 45)).alloc (.cells #[.int .i64 ra.e, .int .i64 ra.epoch, .int .i64 ra.draw, .int .u64 (ra.p.1.toNat : Int), .int .u64 (ra.p.2.toNat : Int)] 55)) w3.heap.size 45 #[.int .i64 h, .int .i64 cap, .slice AX l.length cX, .int .i64 n, .int .i64 dr, .slice BX S.length dX]) := mkHid ((Blk.new _ _ _).alloc _)
  have ZXA : Hid (Blk ((w3.alloc (.cells #[.int .i64 h, .int .i64 cap, .slice AX l.length cX, .int .i64 n, .int .i64 dr, .slice BX S.length dX] 45)).alloc (.cells #[.int .i64 ra.e, .int .i64 ra.epoch, .int .i64 ra.draw, .int .u64 (ra.p.1.toNat : Int), .int .u64 (ra.p.2.toNat : Int)] 55)) (w3.heap.size + 1) 55 #[.int .i64 ra.e, .int .i64 ra.epoch, .int .i64 ra.draw, .int .u64 (ra.p.1.toNat : Int), .int .u64 (ra.p.2.toNat : Int)]) := mkHid (Blk.at _ _ _ (by simp))
  replace ZM := mkHid (ZM.out.keep E3)
  replace ZU := mkHid (ZU.out.keep E3)
  replace ZV := mkHid (ZV.out.keep E3)
  replace KB := mkHid (KB.out.step E3)
  replace HM := mkHid (HM.out.below E3)
  replace HX := mkHid (HX.out.below E3)
  clear cZM lZM
  have cZM := ZM.out.six
  have lZM := ZM.out.lt
  clear cZU lZU
  have cZU := ZU.out.five
  have lZU := ZU.out.lt
  clear cZV lZV
  have cZV := ZV.out.five
  have lZV := ZV.out.lt
  generalize ((w3.alloc (.cells #[.int .i64 h, .int .i64 cap, .slice AX l.length cX, .int .i64 n, .int .i64 dr, .slice BX S.length dX] 45)).alloc (.cells #[.int .i64 ra.e, .int .i64 ra.epoch, .int .i64 ra.draw, .int .u64 (ra.p.1.toNat : Int), .int .u64 (ra.p.2.toNat : Int)] 55)) = u3 at *
  rw [← hGX] at ZXM ZXA
  rw [← hGX]
  clear hGX E3
  have cZXM := ZXM.out.six
  have lZXM := ZXM.out.lt
  have cZXA := ZXA.out.five
  have lZXA := ZXA.out.lt
  go_wp2_with fail
  refine (msame (m := ⟨h, cap, l, n, dr, S⟩) (o := ⟨h, cap, l, n, dr, S⟩) (mkHid (sameM_self _)) HS2 HS3 _ _ _ _ _ _ _ _ _ HX.out.reads HM.out.reads (HX.out.mem (by have := HS.out; dsimp only; omega)).sents HM.out.sents).mono ?_
  rintro e w4 ⟨rfl, hb4⟩
  replace ZM := mkHid (ZM.out.keep hb4)
  replace ZU := mkHid (ZU.out.keep hb4)
  replace ZV := mkHid (ZV.out.keep hb4)
  replace KB := mkHid (KB.out.step hb4)
  replace HM := mkHid (HM.out.below hb4)
  replace HX := mkHid (HX.out.below hb4)
  replace ZXM := mkHid (ZXM.out.keep hb4)
  replace ZXA := mkHid (ZXA.out.keep hb4)
  clear cZM lZM
  have cZM := ZM.out.six
  have lZM := ZM.out.lt
  clear cZU lZU
  have cZU := ZU.out.five
  have lZU := ZU.out.lt
  clear cZV lZV
  have cZV := ZV.out.five
  have lZV := ZV.out.lt
  clear cZXM lZXM
  have cZXM := ZXM.out.six
  have lZXM := ZXM.out.lt
  clear cZXA lZXA
  have cZXA := ZXA.out.five
  have lZXA := ZXA.out.lt
  clear hb4
  go_wp2_with fail
  refine (mdo e2 _ _ _ _ _ (HM.out.mem HS.out)).mono ?_
  rintro e w5 ⟨AY, cY, BY, dY, XY, rfl, hoY, hb5⟩
  replace ZM := mkHid (ZM.out.keep hb5)
  replace ZU := mkHid (ZU.out.keep hb5)
  replace ZV := mkHid (ZV.out.keep hb5)
  replace KB := mkHid (KB.out.step hb5)
  replace HM := mkHid (HM.out.below hb5)
  replace HX := mkHid (HX.out.below hb5)
  replace ZXM := mkHid (ZXM.out.keep hb5)
  replace ZXA := mkHid (ZXA.out.keep hb5)
  clear cZM lZM
  have cZM := ZM.out.six
  have lZM := ZM.out.lt
  clear cZU lZU
  have cZU := ZU.out.five
  have lZU := ZU.out.lt
  clear cZV lZV
  have cZV := ZV.out.five
  have lZV := ZV.out.lt
  clear cZXM lZXM
  have cZXM := ZXM.out.six
  have lZXM := ZXM.out.lt
  clear cZXA lZXA
  have cZXA := ZXA.out.five
  have lZXA := ZXA.out.lt
  have HY := mkHid hoY
  clear hoY hb5
  go_upto_region 10 with fail
  have E5 : Below w5.heap.size w5 ((w5.alloc (.cells #[.int .i64 mb.h, .int .i64 mb.cap, .slice AY mb.l.length cY, .int .i64 mb.n, .int .i64 mb.draws, .slice BY mb.sent.length dY] 45)).alloc (.cells #[.int .i64 rb.e, .int .i64 rb.epoch, .int .i64 rb.draw, .int .u64 (rb.p.1.toNat : Int), .int .u64 (rb.p.2.toNat : Int)] 55)) := ((Below.refl _ _).alloc (Nat.le_refl _) _).alloc (by simp) _
  obtain ⟨GY, hGY⟩ : ∃ G, G = w5.heap.size := ⟨_, rfl⟩
  have ZYM : Hid (Blk ((w5.alloc (.cells #[.int .i64 mb.h, .int .i64 mb.cap, .slice AY mb.l.length cY, .int .i64 mb.n, .int .i64 mb.draws, .slice BY mb.sent.length dY] 45)).alloc (.cells #[.int .i64 rb.e, .int .i64 rb.epoch, .int .i64 rb.draw, .int .u64 (rb.p.1.toNat : Int), .int .u64 (rb.p.2.toNat : Int)] 55)) w5.heap.size 45 #[.int .i64 mb.h, .int .i64 mb.cap, .slice AY mb.l.length cY, .int .i64 mb.n, .int .i64 mb.draws, .slice BY mb.sent.length dY]) := mkHid ((Blk.new _ _ _).alloc _)
  have ZYA : Hid (Blk ((w5.alloc (.cells #[.int .i64 mb.h, .int .i64 mb.cap, .slice AY mb.l.length cY, .int .i64 mb.n, .int .i64 mb.draws, .slice BY mb.sent.length dY] 45)).alloc (.cells #[.int .i64 rb.e, .int .i64 rb.epoch, .int .i64 rb.draw, .int .u64 (rb.p.1.toNat : Int), .int .u64 (rb.p.2.toNat : Int)] 55)) (w5.heap.size + 1) 55 #[.int .i64 rb.e, .int .i64 rb.epoch, .int .i64 rb.draw, .int .u64 (rb.p.1.toNat : Int), .int .u64 (rb.p.2.toNat : Int)]) := mkHid (Blk.at _ _ _ (by simp))
  replace ZM := mkHid (ZM.out.keep E5)
  replace ZU := mkHid (ZU.out.keep E5)
  replace ZV := mkHid (ZV.out.keep E5)
  replace KB := mkHid (KB.out.step E5)
  replace HM := mkHid (HM.out.below E5)
  replace HX := mkHid (HX.out.below E5)
  replace ZXM := mkHid (ZXM.out.keep E5)
  replace ZXA := mkHid (ZXA.out.keep E5)
  replace HY := mkHid (HY.out.below E5)
  clear cZM lZM
  have cZM := ZM.out.six
  have lZM := ZM.out.lt
  clear cZU lZU
  have cZU := ZU.out.five
  have lZU := ZU.out.lt
  clear cZV lZV
  have cZV := ZV.out.five
  have lZV := ZV.out.lt
  clear cZXM lZXM
  have cZXM := ZXM.out.six
  have lZXM := ZXM.out.lt
  clear cZXA lZXA
  have cZXA := ZXA.out.five
  have lZXA := ZXA.out.lt
  generalize ((w5.alloc (.cells #[.int .i64 mb.h, .int .i64 mb.cap, .slice AY mb.l.length cY, .int .i64 mb.n, .int .i64 mb.draws, .slice BY mb.sent.length dY] 45)).alloc (.cells #[.int .i64 rb.e, .int .i64 rb.epoch, .int .i64 rb.draw, .int .u64 (rb.p.1.toNat : Int), .int .u64 (rb.p.2.toNat : Int)] 55)) = u5 at *
  rw [← hGY] at ZYM ZYA
  rw [← hGY]
  clear hGY E5
  have cZYM := ZYM.out.six
  have lZYM := ZYM.out.lt
  have cZYA := ZYA.out.five
  have lZYA := ZYA.out.lt
  go_wp2_with fail
  go_ret
  exact ⟨rfl, KB.out⟩

set_option maxRecDepth 100000 in
set_option maxHeartbeats 8000000 in
theorem mreads_r1 {h cap n dr : Int} {l : List Nat} {S : List SentD} {ai bi : Nat} {an bn : Int} {ap aq bp bq : BitVec 64} {kb : Int} {ra rb : AnsD} {mb : ModD} (hf : Hid (fewM ⟨h, cap, l, n, dr, S⟩ = true)) (e1 : Hid (doM ⟨h, cap, l, n, dr, S⟩ ⟨4, ai, an, (ap, aq)⟩ = (⟨h, cap, l, n, dr, S⟩, ra, 0))) (e2 : Hid (doM ⟨h, cap, l, n, dr, S⟩ ⟨kb, bi, bn, (bp, bq)⟩ = (mb, rb, 1)))  (A : Option Addr) (c : Nat) (B : Option Addr) (d : Nat) (w : World) (hM : RawM w A c B d ⟨h, cap, l, n, dr, S⟩) :
    Calls Try.prog 10 #[.agg #[.int .i64 h, .int .i64 cap, .slice A l.length c, .int .i64 n, .int .i64 dr, .slice B S.length d], .agg #[.int .i64 4, .int .u64 (ai : Int), .int .i64 an, .int .u64 (ap.toNat : Int), .int .u64 (aq.toNat : Int)], .agg #[.int .i64 kb, .int .u64 (bi : Int), .int .i64 bn, .int .u64 (bp.toNat : Int), .int .u64 (bq.toNat : Int)]] w fun e w' => e = .returned (.bool true) ∧ Below w.heap.size w w' := by
  have hs := fewM_sizes hf.out
  have HS := mkHid (show S.length ≤ 30 ∧ l.length ≤ 30 from ⟨hs.1, hs.2.1⟩)
  have HS2 : Hid (l.length < 4611686018427387904) := mkHid (by have := hs.2.1; dsimp only at this; omega)
  have HS3 : Hid (S.length < 4611686018427387904 ∧ ∀ s ∈ S, s.out.length < 4611686018427387904) := mkHid ⟨by have := hs.1; dsimp only at this; omega, fun s q => by have := hs.2.2 s q; omega⟩
  clear hs
  have hq := eq_answers
  have hqs := ansEq_self
  have KB : Hid (Below w.heap.size w (((w.alloc (.cells #[.int .i64 h, .int .i64 cap, .slice A l.length c, .int .i64 n, .int .i64 dr, .slice B S.length d] 45)).alloc (.cells #[.int .i64 4, .int .u64 (ai : Int), .int .i64 an, .int .u64 (ap.toNat : Int), .int .u64 (aq.toNat : Int)] 53)).alloc (.cells #[.int .i64 kb, .int .u64 (bi : Int), .int .i64 bn, .int .u64 (bp.toNat : Int), .int .u64 (bq.toNat : Int)] 53))) := mkHid ((((Below.refl _ _).alloc (Nat.le_refl _) (.cells #[.int .i64 h, .int .i64 cap, .slice A l.length c, .int .i64 n, .int .i64 dr, .slice B S.length d] 45)).alloc (by simp) (.cells #[.int .i64 4, .int .u64 (ai : Int), .int .i64 an, .int .u64 (ap.toNat : Int), .int .u64 (aq.toNat : Int)] 53)).alloc (by simp; omega) (.cells #[.int .i64 kb, .int .u64 (bi : Int), .int .i64 bn, .int .u64 (bp.toNat : Int), .int .u64 (bq.toNat : Int)] 53))
  have HM := mkHid (hM.below ((((Below.refl _ _).alloc (Nat.le_refl _) (.cells #[.int .i64 h, .int .i64 cap, .slice A l.length c, .int .i64 n, .int .i64 dr, .slice B S.length d] 45)).alloc (by simp) (.cells #[.int .i64 4, .int .u64 (ai : Int), .int .i64 an, .int .u64 (ap.toNat : Int), .int .u64 (aq.toNat : Int)] 53)).alloc (by simp; omega) (.cells #[.int .i64 kb, .int .u64 (bi : Int), .int .i64 bn, .int .u64 (bp.toNat : Int), .int .u64 (bq.toNat : Int)] 53)))
  have ZM : Hid (Blk (((w.alloc (.cells #[.int .i64 h, .int .i64 cap, .slice A l.length c, .int .i64 n, .int .i64 dr, .slice B S.length d] 45)).alloc (.cells #[.int .i64 4, .int .u64 (ai : Int), .int .i64 an, .int .u64 (ap.toNat : Int), .int .u64 (aq.toNat : Int)] 53)).alloc (.cells #[.int .i64 kb, .int .u64 (bi : Int), .int .i64 bn, .int .u64 (bp.toNat : Int), .int .u64 (bq.toNat : Int)] 53)) w.heap.size 45 #[.int .i64 h, .int .i64 cap, .slice A l.length c, .int .i64 n, .int .i64 dr, .slice B S.length d]) := mkHid (((Blk.new _ _ _).alloc _).alloc _)
  have ZU : Hid (Blk (((w.alloc (.cells #[.int .i64 h, .int .i64 cap, .slice A l.length c, .int .i64 n, .int .i64 dr, .slice B S.length d] 45)).alloc (.cells #[.int .i64 4, .int .u64 (ai : Int), .int .i64 an, .int .u64 (ap.toNat : Int), .int .u64 (aq.toNat : Int)] 53)).alloc (.cells #[.int .i64 kb, .int .u64 (bi : Int), .int .i64 bn, .int .u64 (bp.toNat : Int), .int .u64 (bq.toNat : Int)] 53)) (w.heap.size + 1) 53 #[.int .i64 4, .int .u64 (ai : Int), .int .i64 an, .int .u64 (ap.toNat : Int), .int .u64 (aq.toNat : Int)]) := mkHid ((Blk.at _ _ _ (by simp)).alloc _)
  have ZV : Hid (Blk (((w.alloc (.cells #[.int .i64 h, .int .i64 cap, .slice A l.length c, .int .i64 n, .int .i64 dr, .slice B S.length d] 45)).alloc (.cells #[.int .i64 4, .int .u64 (ai : Int), .int .i64 an, .int .u64 (ap.toNat : Int), .int .u64 (aq.toNat : Int)] 53)).alloc (.cells #[.int .i64 kb, .int .u64 (bi : Int), .int .i64 bn, .int .u64 (bp.toNat : Int), .int .u64 (bq.toNat : Int)] 53)) (w.heap.size + 2) 53 #[.int .i64 kb, .int .u64 (bi : Int), .int .i64 bn, .int .u64 (bp.toNat : Int), .int .u64 (bq.toNat : Int)]) := mkHid (Blk.at _ _ _ (by simp))
  clear hM
  have cZM := ZM.out.six
  have lZM := ZM.out.lt
  have cZU := ZU.out.five
  have lZU := ZU.out.lt
  have cZV := ZV.out.five
  have lZV := ZV.out.lt
  go_enter Try.func10, Try.ntmps10
  go_wp2_with fail
  refine (live22 _).mono ?_
  rintro e w1 ⟨rfl, hb1⟩
  replace ZM := mkHid (ZM.out.keep hb1)
  replace ZU := mkHid (ZU.out.keep hb1)
  replace ZV := mkHid (ZV.out.keep hb1)
  replace KB := mkHid (KB.out.step hb1)
  replace HM := mkHid (HM.out.below hb1)
  clear cZM lZM
  have cZM := ZM.out.six
  have lZM := ZM.out.lt
  clear cZU lZU
  have cZU := ZU.out.five
  have lZU := ZU.out.lt
  clear cZV lZV
  have cZV := ZV.out.five
  have lZV := ZV.out.lt
  clear hb1
  go_wp2_with fail
  refine (few_walk (m := ⟨h, cap, l, n, dr, S⟩) hf (Nat.le_trans HM.out.s1 HM.out.s2) _ _ _ _ _ HM.out.sents).mono ?_
  rintro e w2 ⟨rfl, hb2⟩
  replace ZM := mkHid (ZM.out.keep hb2)
  replace ZU := mkHid (ZU.out.keep hb2)
  replace ZV := mkHid (ZV.out.keep hb2)
  replace KB := mkHid (KB.out.step hb2)
  replace HM := mkHid (HM.out.below hb2)
  clear cZM lZM
  have cZM := ZM.out.six
  have lZM := ZM.out.lt
  clear cZU lZU
  have cZU := ZU.out.five
  have lZU := ZU.out.lt
  clear cZV lZV
  have cZV := ZV.out.five
  have lZV := ZV.out.lt
  clear hb2
  go_wp2_with fail
  refine (mdo e1 _ _ _ _ _ (HM.out.mem HS.out)).mono ?_
  rintro e w3 ⟨AX, cX, BX, dX, XX, rfl, hoX, hb3⟩
  replace ZM := mkHid (ZM.out.keep hb3)
  replace ZU := mkHid (ZU.out.keep hb3)
  replace ZV := mkHid (ZV.out.keep hb3)
  replace KB := mkHid (KB.out.step hb3)
  replace HM := mkHid (HM.out.below hb3)
  clear cZM lZM
  have cZM := ZM.out.six
  have lZM := ZM.out.lt
  clear cZU lZU
  have cZU := ZU.out.five
  have lZU := ZU.out.lt
  clear cZV lZV
  have cZV := ZV.out.five
  have lZV := ZV.out.lt
  have HX := mkHid hoX
  clear hoX hb3
  go_upto_region 5 with fail
  have E3 : Below w3.heap.size w3 ((w3.alloc (.cells #[.int .i64 h, .int .i64 cap, .slice AX l.length cX, .int .i64 n, .int .i64 dr, .slice BX S.length dX] 45)).alloc (.cells #[.int .i64 ra.e, .int .i64 ra.epoch, .int .i64 ra.draw, .int .u64 (ra.p.1.toNat : Int), .int .u64 (ra.p.2.toNat : Int)] 55)) := ((Below.refl _ _).alloc (Nat.le_refl _) _).alloc (by simp) _
  obtain ⟨GX, hGX⟩ : ∃ G, G = w3.heap.size := ⟨_, rfl⟩
  have ZXM : Hid (Blk ((w3.alloc (.cells #[.int .i64 h, .int .i64 cap, .slice AX l.length cX, .int .i64 n, .int .i64 dr, .slice BX S.length dX] 45)).alloc (.cells #[.int .i64 ra.e, .int .i64 ra.epoch, .int .i64 ra.draw, .int .u64 (ra.p.1.toNat : Int), .int .u64 (ra.p.2.toNat : Int)] 55)) w3.heap.size 45 #[.int .i64 h, .int .i64 cap, .slice AX l.length cX, .int .i64 n, .int .i64 dr, .slice BX S.length dX]) := mkHid ((Blk.new _ _ _).alloc _)
  have ZXA : Hid (Blk ((w3.alloc (.cells #[.int .i64 h, .int .i64 cap, .slice AX l.length cX, .int .i64 n, .int .i64 dr, .slice BX S.length dX] 45)).alloc (.cells #[.int .i64 ra.e, .int .i64 ra.epoch, .int .i64 ra.draw, .int .u64 (ra.p.1.toNat : Int), .int .u64 (ra.p.2.toNat : Int)] 55)) (w3.heap.size + 1) 55 #[.int .i64 ra.e, .int .i64 ra.epoch, .int .i64 ra.draw, .int .u64 (ra.p.1.toNat : Int), .int .u64 (ra.p.2.toNat : Int)]) := mkHid (Blk.at _ _ _ (by simp))
  replace ZM := mkHid (ZM.out.keep E3)
  replace ZU := mkHid (ZU.out.keep E3)
  replace ZV := mkHid (ZV.out.keep E3)
  replace KB := mkHid (KB.out.step E3)
  replace HM := mkHid (HM.out.below E3)
  replace HX := mkHid (HX.out.below E3)
  clear cZM lZM
  have cZM := ZM.out.six
  have lZM := ZM.out.lt
  clear cZU lZU
  have cZU := ZU.out.five
  have lZU := ZU.out.lt
  clear cZV lZV
  have cZV := ZV.out.five
  have lZV := ZV.out.lt
  generalize ((w3.alloc (.cells #[.int .i64 h, .int .i64 cap, .slice AX l.length cX, .int .i64 n, .int .i64 dr, .slice BX S.length dX] 45)).alloc (.cells #[.int .i64 ra.e, .int .i64 ra.epoch, .int .i64 ra.draw, .int .u64 (ra.p.1.toNat : Int), .int .u64 (ra.p.2.toNat : Int)] 55)) = u3 at *
  rw [← hGX] at ZXM ZXA
  rw [← hGX]
  clear hGX E3
  have cZXM := ZXM.out.six
  have lZXM := ZXM.out.lt
  have cZXA := ZXA.out.five
  have lZXA := ZXA.out.lt
  go_wp2_with fail
  refine (msame (m := ⟨h, cap, l, n, dr, S⟩) (o := ⟨h, cap, l, n, dr, S⟩) (mkHid (sameM_self _)) HS2 HS3 _ _ _ _ _ _ _ _ _ HX.out.reads HM.out.reads (HX.out.mem (by have := HS.out; dsimp only; omega)).sents HM.out.sents).mono ?_
  rintro e w4 ⟨rfl, hb4⟩
  replace ZM := mkHid (ZM.out.keep hb4)
  replace ZU := mkHid (ZU.out.keep hb4)
  replace ZV := mkHid (ZV.out.keep hb4)
  replace KB := mkHid (KB.out.step hb4)
  replace HM := mkHid (HM.out.below hb4)
  replace HX := mkHid (HX.out.below hb4)
  replace ZXM := mkHid (ZXM.out.keep hb4)
  replace ZXA := mkHid (ZXA.out.keep hb4)
  clear cZM lZM
  have cZM := ZM.out.six
  have lZM := ZM.out.lt
  clear cZU lZU
  have cZU := ZU.out.five
  have lZU := ZU.out.lt
  clear cZV lZV
  have cZV := ZV.out.five
  have lZV := ZV.out.lt
  clear cZXM lZXM
  have cZXM := ZXM.out.six
  have lZXM := ZXM.out.lt
  clear cZXA lZXA
  have cZXA := ZXA.out.five
  have lZXA := ZXA.out.lt
  clear hb4
  go_wp2_with fail
  refine (mdo e2 _ _ _ _ _ (HM.out.mem HS.out)).mono ?_
  rintro e w5 ⟨AY, cY, BY, dY, XY, rfl, hoY, hb5⟩
  replace ZM := mkHid (ZM.out.keep hb5)
  replace ZU := mkHid (ZU.out.keep hb5)
  replace ZV := mkHid (ZV.out.keep hb5)
  replace KB := mkHid (KB.out.step hb5)
  replace HM := mkHid (HM.out.below hb5)
  replace HX := mkHid (HX.out.below hb5)
  replace ZXM := mkHid (ZXM.out.keep hb5)
  replace ZXA := mkHid (ZXA.out.keep hb5)
  clear cZM lZM
  have cZM := ZM.out.six
  have lZM := ZM.out.lt
  clear cZU lZU
  have cZU := ZU.out.five
  have lZU := ZU.out.lt
  clear cZV lZV
  have cZV := ZV.out.five
  have lZV := ZV.out.lt
  clear cZXM lZXM
  have cZXM := ZXM.out.six
  have lZXM := ZXM.out.lt
  clear cZXA lZXA
  have cZXA := ZXA.out.five
  have lZXA := ZXA.out.lt
  have HY := mkHid hoY
  clear hoY hb5
  go_upto_region 10 with fail
  have E5 : Below w5.heap.size w5 ((w5.alloc (.cells #[.int .i64 mb.h, .int .i64 mb.cap, .slice AY mb.l.length cY, .int .i64 mb.n, .int .i64 mb.draws, .slice BY mb.sent.length dY] 45)).alloc (.cells #[.int .i64 rb.e, .int .i64 rb.epoch, .int .i64 rb.draw, .int .u64 (rb.p.1.toNat : Int), .int .u64 (rb.p.2.toNat : Int)] 55)) := ((Below.refl _ _).alloc (Nat.le_refl _) _).alloc (by simp) _
  obtain ⟨GY, hGY⟩ : ∃ G, G = w5.heap.size := ⟨_, rfl⟩
  have ZYM : Hid (Blk ((w5.alloc (.cells #[.int .i64 mb.h, .int .i64 mb.cap, .slice AY mb.l.length cY, .int .i64 mb.n, .int .i64 mb.draws, .slice BY mb.sent.length dY] 45)).alloc (.cells #[.int .i64 rb.e, .int .i64 rb.epoch, .int .i64 rb.draw, .int .u64 (rb.p.1.toNat : Int), .int .u64 (rb.p.2.toNat : Int)] 55)) w5.heap.size 45 #[.int .i64 mb.h, .int .i64 mb.cap, .slice AY mb.l.length cY, .int .i64 mb.n, .int .i64 mb.draws, .slice BY mb.sent.length dY]) := mkHid ((Blk.new _ _ _).alloc _)
  have ZYA : Hid (Blk ((w5.alloc (.cells #[.int .i64 mb.h, .int .i64 mb.cap, .slice AY mb.l.length cY, .int .i64 mb.n, .int .i64 mb.draws, .slice BY mb.sent.length dY] 45)).alloc (.cells #[.int .i64 rb.e, .int .i64 rb.epoch, .int .i64 rb.draw, .int .u64 (rb.p.1.toNat : Int), .int .u64 (rb.p.2.toNat : Int)] 55)) (w5.heap.size + 1) 55 #[.int .i64 rb.e, .int .i64 rb.epoch, .int .i64 rb.draw, .int .u64 (rb.p.1.toNat : Int), .int .u64 (rb.p.2.toNat : Int)]) := mkHid (Blk.at _ _ _ (by simp))
  replace ZM := mkHid (ZM.out.keep E5)
  replace ZU := mkHid (ZU.out.keep E5)
  replace ZV := mkHid (ZV.out.keep E5)
  replace KB := mkHid (KB.out.step E5)
  replace HM := mkHid (HM.out.below E5)
  replace HX := mkHid (HX.out.below E5)
  replace ZXM := mkHid (ZXM.out.keep E5)
  replace ZXA := mkHid (ZXA.out.keep E5)
  replace HY := mkHid (HY.out.below E5)
  clear cZM lZM
  have cZM := ZM.out.six
  have lZM := ZM.out.lt
  clear cZU lZU
  have cZU := ZU.out.five
  have lZU := ZU.out.lt
  clear cZV lZV
  have cZV := ZV.out.five
  have lZV := ZV.out.lt
  clear cZXM lZXM
  have cZXM := ZXM.out.six
  have lZXM := ZXM.out.lt
  clear cZXA lZXA
  have cZXA := ZXA.out.five
  have lZXA := ZXA.out.lt
  generalize ((w5.alloc (.cells #[.int .i64 mb.h, .int .i64 mb.cap, .slice AY mb.l.length cY, .int .i64 mb.n, .int .i64 mb.draws, .slice BY mb.sent.length dY] 45)).alloc (.cells #[.int .i64 rb.e, .int .i64 rb.epoch, .int .i64 rb.draw, .int .u64 (rb.p.1.toNat : Int), .int .u64 (rb.p.2.toNat : Int)] 55)) = u5 at *
  rw [← hGY] at ZYM ZYA
  rw [← hGY]
  clear hGY E5
  have cZYM := ZYM.out.six
  have lZYM := ZYM.out.lt
  have cZYA := ZYA.out.five
  have lZYA := ZYA.out.lt
  go_wp2_with fail
  go_ret
  exact ⟨rfl, KB.out⟩

set_option maxRecDepth 100000 in
set_option maxHeartbeats 8000000 in
theorem mreads_r0 {h cap n dr : Int} {l : List Nat} {S : List SentD} {ai bi : Nat} {an bn : Int} {ap aq bp bq : BitVec 64} {kb : Int} {ra rb : AnsD} {mb : ModD} (hf : Hid (fewM ⟨h, cap, l, n, dr, S⟩ = true)) (hkb : kb ≠ 4) (e1 : Hid (doM ⟨h, cap, l, n, dr, S⟩ ⟨4, ai, an, (ap, aq)⟩ = (⟨h, cap, l, n, dr, S⟩, ra, 0))) (e2 : Hid (doM ⟨h, cap, l, n, dr, S⟩ ⟨kb, bi, bn, (bp, bq)⟩ = (mb, rb, 0)))  (A : Option Addr) (c : Nat) (B : Option Addr) (d : Nat) (w : World) (hM : RawM w A c B d ⟨h, cap, l, n, dr, S⟩) :
    Calls Try.prog 10 #[.agg #[.int .i64 h, .int .i64 cap, .slice A l.length c, .int .i64 n, .int .i64 dr, .slice B S.length d], .agg #[.int .i64 4, .int .u64 (ai : Int), .int .i64 an, .int .u64 (ap.toNat : Int), .int .u64 (aq.toNat : Int)], .agg #[.int .i64 kb, .int .u64 (bi : Int), .int .i64 bn, .int .u64 (bp.toNat : Int), .int .u64 (bq.toNat : Int)]] w fun e w' => e = .returned (.bool true) ∧ Below w.heap.size w w' := by
  have hs := fewM_sizes hf.out
  have HS := mkHid (show S.length ≤ 30 ∧ l.length ≤ 30 from ⟨hs.1, hs.2.1⟩)
  have HS2 : Hid (l.length < 4611686018427387904) := mkHid (by have := hs.2.1; dsimp only at this; omega)
  have HS3 : Hid (S.length < 4611686018427387904 ∧ ∀ s ∈ S, s.out.length < 4611686018427387904) := mkHid ⟨by have := hs.1; dsimp only at this; omega, fun s q => by have := hs.2.2 s q; omega⟩
  clear hs
  have hq := eq_answers
  have hqs := ansEq_self
  have t4 : (kb != (4 : Int)) = true := bne_iff_ne.2 hkb
  clear hkb
  have KB : Hid (Below w.heap.size w (((w.alloc (.cells #[.int .i64 h, .int .i64 cap, .slice A l.length c, .int .i64 n, .int .i64 dr, .slice B S.length d] 45)).alloc (.cells #[.int .i64 4, .int .u64 (ai : Int), .int .i64 an, .int .u64 (ap.toNat : Int), .int .u64 (aq.toNat : Int)] 53)).alloc (.cells #[.int .i64 kb, .int .u64 (bi : Int), .int .i64 bn, .int .u64 (bp.toNat : Int), .int .u64 (bq.toNat : Int)] 53))) := mkHid ((((Below.refl _ _).alloc (Nat.le_refl _) (.cells #[.int .i64 h, .int .i64 cap, .slice A l.length c, .int .i64 n, .int .i64 dr, .slice B S.length d] 45)).alloc (by simp) (.cells #[.int .i64 4, .int .u64 (ai : Int), .int .i64 an, .int .u64 (ap.toNat : Int), .int .u64 (aq.toNat : Int)] 53)).alloc (by simp; omega) (.cells #[.int .i64 kb, .int .u64 (bi : Int), .int .i64 bn, .int .u64 (bp.toNat : Int), .int .u64 (bq.toNat : Int)] 53))
  have HM := mkHid (hM.below ((((Below.refl _ _).alloc (Nat.le_refl _) (.cells #[.int .i64 h, .int .i64 cap, .slice A l.length c, .int .i64 n, .int .i64 dr, .slice B S.length d] 45)).alloc (by simp) (.cells #[.int .i64 4, .int .u64 (ai : Int), .int .i64 an, .int .u64 (ap.toNat : Int), .int .u64 (aq.toNat : Int)] 53)).alloc (by simp; omega) (.cells #[.int .i64 kb, .int .u64 (bi : Int), .int .i64 bn, .int .u64 (bp.toNat : Int), .int .u64 (bq.toNat : Int)] 53)))
  have ZM : Hid (Blk (((w.alloc (.cells #[.int .i64 h, .int .i64 cap, .slice A l.length c, .int .i64 n, .int .i64 dr, .slice B S.length d] 45)).alloc (.cells #[.int .i64 4, .int .u64 (ai : Int), .int .i64 an, .int .u64 (ap.toNat : Int), .int .u64 (aq.toNat : Int)] 53)).alloc (.cells #[.int .i64 kb, .int .u64 (bi : Int), .int .i64 bn, .int .u64 (bp.toNat : Int), .int .u64 (bq.toNat : Int)] 53)) w.heap.size 45 #[.int .i64 h, .int .i64 cap, .slice A l.length c, .int .i64 n, .int .i64 dr, .slice B S.length d]) := mkHid (((Blk.new _ _ _).alloc _).alloc _)
  have ZU : Hid (Blk (((w.alloc (.cells #[.int .i64 h, .int .i64 cap, .slice A l.length c, .int .i64 n, .int .i64 dr, .slice B S.length d] 45)).alloc (.cells #[.int .i64 4, .int .u64 (ai : Int), .int .i64 an, .int .u64 (ap.toNat : Int), .int .u64 (aq.toNat : Int)] 53)).alloc (.cells #[.int .i64 kb, .int .u64 (bi : Int), .int .i64 bn, .int .u64 (bp.toNat : Int), .int .u64 (bq.toNat : Int)] 53)) (w.heap.size + 1) 53 #[.int .i64 4, .int .u64 (ai : Int), .int .i64 an, .int .u64 (ap.toNat : Int), .int .u64 (aq.toNat : Int)]) := mkHid ((Blk.at _ _ _ (by simp)).alloc _)
  have ZV : Hid (Blk (((w.alloc (.cells #[.int .i64 h, .int .i64 cap, .slice A l.length c, .int .i64 n, .int .i64 dr, .slice B S.length d] 45)).alloc (.cells #[.int .i64 4, .int .u64 (ai : Int), .int .i64 an, .int .u64 (ap.toNat : Int), .int .u64 (aq.toNat : Int)] 53)).alloc (.cells #[.int .i64 kb, .int .u64 (bi : Int), .int .i64 bn, .int .u64 (bp.toNat : Int), .int .u64 (bq.toNat : Int)] 53)) (w.heap.size + 2) 53 #[.int .i64 kb, .int .u64 (bi : Int), .int .i64 bn, .int .u64 (bp.toNat : Int), .int .u64 (bq.toNat : Int)]) := mkHid (Blk.at _ _ _ (by simp))
  clear hM
  have cZM := ZM.out.six
  have lZM := ZM.out.lt
  have cZU := ZU.out.five
  have lZU := ZU.out.lt
  have cZV := ZV.out.five
  have lZV := ZV.out.lt
  go_enter Try.func10, Try.ntmps10
  go_wp2_with fail
  refine (live22 _).mono ?_
  rintro e w1 ⟨rfl, hb1⟩
  replace ZM := mkHid (ZM.out.keep hb1)
  replace ZU := mkHid (ZU.out.keep hb1)
  replace ZV := mkHid (ZV.out.keep hb1)
  replace KB := mkHid (KB.out.step hb1)
  replace HM := mkHid (HM.out.below hb1)
  clear cZM lZM
  have cZM := ZM.out.six
  have lZM := ZM.out.lt
  clear cZU lZU
  have cZU := ZU.out.five
  have lZU := ZU.out.lt
  clear cZV lZV
  have cZV := ZV.out.five
  have lZV := ZV.out.lt
  clear hb1
  go_wp2_with fail
  refine (few_walk (m := ⟨h, cap, l, n, dr, S⟩) hf (Nat.le_trans HM.out.s1 HM.out.s2) _ _ _ _ _ HM.out.sents).mono ?_
  rintro e w2 ⟨rfl, hb2⟩
  replace ZM := mkHid (ZM.out.keep hb2)
  replace ZU := mkHid (ZU.out.keep hb2)
  replace ZV := mkHid (ZV.out.keep hb2)
  replace KB := mkHid (KB.out.step hb2)
  replace HM := mkHid (HM.out.below hb2)
  clear cZM lZM
  have cZM := ZM.out.six
  have lZM := ZM.out.lt
  clear cZU lZU
  have cZU := ZU.out.five
  have lZU := ZU.out.lt
  clear cZV lZV
  have cZV := ZV.out.five
  have lZV := ZV.out.lt
  clear hb2
  go_wp2_with fail
  refine (mdo e1 _ _ _ _ _ (HM.out.mem HS.out)).mono ?_
  rintro e w3 ⟨AX, cX, BX, dX, XX, rfl, hoX, hb3⟩
  replace ZM := mkHid (ZM.out.keep hb3)
  replace ZU := mkHid (ZU.out.keep hb3)
  replace ZV := mkHid (ZV.out.keep hb3)
  replace KB := mkHid (KB.out.step hb3)
  replace HM := mkHid (HM.out.below hb3)
  clear cZM lZM
  have cZM := ZM.out.six
  have lZM := ZM.out.lt
  clear cZU lZU
  have cZU := ZU.out.five
  have lZU := ZU.out.lt
  clear cZV lZV
  have cZV := ZV.out.five
  have lZV := ZV.out.lt
  have HX := mkHid hoX
  clear hoX hb3
  go_upto_region 5 with fail
  have E3 : Below w3.heap.size w3 ((w3.alloc (.cells #[.int .i64 h, .int .i64 cap, .slice AX l.length cX, .int .i64 n, .int .i64 dr, .slice BX S.length dX] 45)).alloc (.cells #[.int .i64 ra.e, .int .i64 ra.epoch, .int .i64 ra.draw, .int .u64 (ra.p.1.toNat : Int), .int .u64 (ra.p.2.toNat : Int)] 55)) := ((Below.refl _ _).alloc (Nat.le_refl _) _).alloc (by simp) _
  obtain ⟨GX, hGX⟩ : ∃ G, G = w3.heap.size := ⟨_, rfl⟩
  have ZXM : Hid (Blk ((w3.alloc (.cells #[.int .i64 h, .int .i64 cap, .slice AX l.length cX, .int .i64 n, .int .i64 dr, .slice BX S.length dX] 45)).alloc (.cells #[.int .i64 ra.e, .int .i64 ra.epoch, .int .i64 ra.draw, .int .u64 (ra.p.1.toNat : Int), .int .u64 (ra.p.2.toNat : Int)] 55)) w3.heap.size 45 #[.int .i64 h, .int .i64 cap, .slice AX l.length cX, .int .i64 n, .int .i64 dr, .slice BX S.length dX]) := mkHid ((Blk.new _ _ _).alloc _)
  have ZXA : Hid (Blk ((w3.alloc (.cells #[.int .i64 h, .int .i64 cap, .slice AX l.length cX, .int .i64 n, .int .i64 dr, .slice BX S.length dX] 45)).alloc (.cells #[.int .i64 ra.e, .int .i64 ra.epoch, .int .i64 ra.draw, .int .u64 (ra.p.1.toNat : Int), .int .u64 (ra.p.2.toNat : Int)] 55)) (w3.heap.size + 1) 55 #[.int .i64 ra.e, .int .i64 ra.epoch, .int .i64 ra.draw, .int .u64 (ra.p.1.toNat : Int), .int .u64 (ra.p.2.toNat : Int)]) := mkHid (Blk.at _ _ _ (by simp))
  replace ZM := mkHid (ZM.out.keep E3)
  replace ZU := mkHid (ZU.out.keep E3)
  replace ZV := mkHid (ZV.out.keep E3)
  replace KB := mkHid (KB.out.step E3)
  replace HM := mkHid (HM.out.below E3)
  replace HX := mkHid (HX.out.below E3)
  clear cZM lZM
  have cZM := ZM.out.six
  have lZM := ZM.out.lt
  clear cZU lZU
  have cZU := ZU.out.five
  have lZU := ZU.out.lt
  clear cZV lZV
  have cZV := ZV.out.five
  have lZV := ZV.out.lt
  generalize ((w3.alloc (.cells #[.int .i64 h, .int .i64 cap, .slice AX l.length cX, .int .i64 n, .int .i64 dr, .slice BX S.length dX] 45)).alloc (.cells #[.int .i64 ra.e, .int .i64 ra.epoch, .int .i64 ra.draw, .int .u64 (ra.p.1.toNat : Int), .int .u64 (ra.p.2.toNat : Int)] 55)) = u3 at *
  rw [← hGX] at ZXM ZXA
  rw [← hGX]
  clear hGX E3
  have cZXM := ZXM.out.six
  have lZXM := ZXM.out.lt
  have cZXA := ZXA.out.five
  have lZXA := ZXA.out.lt
  go_wp2_with fail
  refine (msame (m := ⟨h, cap, l, n, dr, S⟩) (o := ⟨h, cap, l, n, dr, S⟩) (mkHid (sameM_self _)) HS2 HS3 _ _ _ _ _ _ _ _ _ HX.out.reads HM.out.reads (HX.out.mem (by have := HS.out; dsimp only; omega)).sents HM.out.sents).mono ?_
  rintro e w4 ⟨rfl, hb4⟩
  replace ZM := mkHid (ZM.out.keep hb4)
  replace ZU := mkHid (ZU.out.keep hb4)
  replace ZV := mkHid (ZV.out.keep hb4)
  replace KB := mkHid (KB.out.step hb4)
  replace HM := mkHid (HM.out.below hb4)
  replace HX := mkHid (HX.out.below hb4)
  replace ZXM := mkHid (ZXM.out.keep hb4)
  replace ZXA := mkHid (ZXA.out.keep hb4)
  clear cZM lZM
  have cZM := ZM.out.six
  have lZM := ZM.out.lt
  clear cZU lZU
  have cZU := ZU.out.five
  have lZU := ZU.out.lt
  clear cZV lZV
  have cZV := ZV.out.five
  have lZV := ZV.out.lt
  clear cZXM lZXM
  have cZXM := ZXM.out.six
  have lZXM := ZXM.out.lt
  clear cZXA lZXA
  have cZXA := ZXA.out.five
  have lZXA := ZXA.out.lt
  clear hb4
  go_wp2_with fail
  refine (mdo e2 _ _ _ _ _ (HM.out.mem HS.out)).mono ?_
  rintro e w5 ⟨AY, cY, BY, dY, XY, rfl, hoY, hb5⟩
  replace ZM := mkHid (ZM.out.keep hb5)
  replace ZU := mkHid (ZU.out.keep hb5)
  replace ZV := mkHid (ZV.out.keep hb5)
  replace KB := mkHid (KB.out.step hb5)
  replace HM := mkHid (HM.out.below hb5)
  replace HX := mkHid (HX.out.below hb5)
  replace ZXM := mkHid (ZXM.out.keep hb5)
  replace ZXA := mkHid (ZXA.out.keep hb5)
  clear cZM lZM
  have cZM := ZM.out.six
  have lZM := ZM.out.lt
  clear cZU lZU
  have cZU := ZU.out.five
  have lZU := ZU.out.lt
  clear cZV lZV
  have cZV := ZV.out.five
  have lZV := ZV.out.lt
  clear cZXM lZXM
  have cZXM := ZXM.out.six
  have lZXM := ZXM.out.lt
  clear cZXA lZXA
  have cZXA := ZXA.out.five
  have lZXA := ZXA.out.lt
  have HY := mkHid hoY
  clear hoY hb5
  go_upto_region 10 with fail
  have E5 : Below w5.heap.size w5 ((w5.alloc (.cells #[.int .i64 mb.h, .int .i64 mb.cap, .slice AY mb.l.length cY, .int .i64 mb.n, .int .i64 mb.draws, .slice BY mb.sent.length dY] 45)).alloc (.cells #[.int .i64 rb.e, .int .i64 rb.epoch, .int .i64 rb.draw, .int .u64 (rb.p.1.toNat : Int), .int .u64 (rb.p.2.toNat : Int)] 55)) := ((Below.refl _ _).alloc (Nat.le_refl _) _).alloc (by simp) _
  obtain ⟨GY, hGY⟩ : ∃ G, G = w5.heap.size := ⟨_, rfl⟩
  have ZYM : Hid (Blk ((w5.alloc (.cells #[.int .i64 mb.h, .int .i64 mb.cap, .slice AY mb.l.length cY, .int .i64 mb.n, .int .i64 mb.draws, .slice BY mb.sent.length dY] 45)).alloc (.cells #[.int .i64 rb.e, .int .i64 rb.epoch, .int .i64 rb.draw, .int .u64 (rb.p.1.toNat : Int), .int .u64 (rb.p.2.toNat : Int)] 55)) w5.heap.size 45 #[.int .i64 mb.h, .int .i64 mb.cap, .slice AY mb.l.length cY, .int .i64 mb.n, .int .i64 mb.draws, .slice BY mb.sent.length dY]) := mkHid ((Blk.new _ _ _).alloc _)
  have ZYA : Hid (Blk ((w5.alloc (.cells #[.int .i64 mb.h, .int .i64 mb.cap, .slice AY mb.l.length cY, .int .i64 mb.n, .int .i64 mb.draws, .slice BY mb.sent.length dY] 45)).alloc (.cells #[.int .i64 rb.e, .int .i64 rb.epoch, .int .i64 rb.draw, .int .u64 (rb.p.1.toNat : Int), .int .u64 (rb.p.2.toNat : Int)] 55)) (w5.heap.size + 1) 55 #[.int .i64 rb.e, .int .i64 rb.epoch, .int .i64 rb.draw, .int .u64 (rb.p.1.toNat : Int), .int .u64 (rb.p.2.toNat : Int)]) := mkHid (Blk.at _ _ _ (by simp))
  replace ZM := mkHid (ZM.out.keep E5)
  replace ZU := mkHid (ZU.out.keep E5)
  replace ZV := mkHid (ZV.out.keep E5)
  replace KB := mkHid (KB.out.step E5)
  replace HM := mkHid (HM.out.below E5)
  replace HX := mkHid (HX.out.below E5)
  replace ZXM := mkHid (ZXM.out.keep E5)
  replace ZXA := mkHid (ZXA.out.keep E5)
  replace HY := mkHid (HY.out.below E5)
  clear cZM lZM
  have cZM := ZM.out.six
  have lZM := ZM.out.lt
  clear cZU lZU
  have cZU := ZU.out.five
  have lZU := ZU.out.lt
  clear cZV lZV
  have cZV := ZV.out.five
  have lZV := ZV.out.lt
  clear cZXM lZXM
  have cZXM := ZXM.out.six
  have lZXM := ZXM.out.lt
  clear cZXA lZXA
  have cZXA := ZXA.out.five
  have lZXA := ZXA.out.lt
  generalize ((w5.alloc (.cells #[.int .i64 mb.h, .int .i64 mb.cap, .slice AY mb.l.length cY, .int .i64 mb.n, .int .i64 mb.draws, .slice BY mb.sent.length dY] 45)).alloc (.cells #[.int .i64 rb.e, .int .i64 rb.epoch, .int .i64 rb.draw, .int .u64 (rb.p.1.toNat : Int), .int .u64 (rb.p.2.toNat : Int)] 55)) = u5 at *
  rw [← hGY] at ZYM ZYA
  rw [← hGY]
  clear hGY E5
  have cZYM := ZYM.out.six
  have lZYM := ZYM.out.lt
  have cZYA := ZYA.out.five
  have lZYA := ZYA.out.lt
  go_wp2_with fail
  go_ret
  exact ⟨rfl, KB.out⟩

set_option maxRecDepth 100000 in
set_option maxHeartbeats 8000000 in
theorem mreads_rr {h cap n dr : Int} {l : List Nat} {S : List SentD} {ai bi : Nat} {an bn : Int} {ap aq bp bq : BitVec 64} {ra rb : AnsD} (hf : Hid (fewM ⟨h, cap, l, n, dr, S⟩ = true)) (e1 : Hid (doM ⟨h, cap, l, n, dr, S⟩ ⟨4, ai, an, (ap, aq)⟩ = (⟨h, cap, l, n, dr, S⟩, ra, 0))) (e2 : Hid (doM ⟨h, cap, l, n, dr, S⟩ ⟨4, bi, bn, (bp, bq)⟩ = (⟨h, cap, l, n, dr, S⟩, rb, 0)))  (A : Option Addr) (c : Nat) (B : Option Addr) (d : Nat) (w : World) (hM : RawM w A c B d ⟨h, cap, l, n, dr, S⟩) :
    Calls Try.prog 10 #[.agg #[.int .i64 h, .int .i64 cap, .slice A l.length c, .int .i64 n, .int .i64 dr, .slice B S.length d], .agg #[.int .i64 4, .int .u64 (ai : Int), .int .i64 an, .int .u64 (ap.toNat : Int), .int .u64 (aq.toNat : Int)], .agg #[.int .i64 4, .int .u64 (bi : Int), .int .i64 bn, .int .u64 (bp.toNat : Int), .int .u64 (bq.toNat : Int)]] w fun e w' => e = .returned (.bool true) ∧ Below w.heap.size w w' := by
  have hs := fewM_sizes hf.out
  have HS := mkHid (show S.length ≤ 30 ∧ l.length ≤ 30 from ⟨hs.1, hs.2.1⟩)
  have HS2 : Hid (l.length < 4611686018427387904) := mkHid (by have := hs.2.1; dsimp only at this; omega)
  have HS3 : Hid (S.length < 4611686018427387904 ∧ ∀ s ∈ S, s.out.length < 4611686018427387904) := mkHid ⟨by have := hs.1; dsimp only at this; omega, fun s q => by have := hs.2.2 s q; omega⟩
  clear hs
  have hq := eq_answers
  have hqs := ansEq_self
  have KB : Hid (Below w.heap.size w (((w.alloc (.cells #[.int .i64 h, .int .i64 cap, .slice A l.length c, .int .i64 n, .int .i64 dr, .slice B S.length d] 45)).alloc (.cells #[.int .i64 4, .int .u64 (ai : Int), .int .i64 an, .int .u64 (ap.toNat : Int), .int .u64 (aq.toNat : Int)] 53)).alloc (.cells #[.int .i64 4, .int .u64 (bi : Int), .int .i64 bn, .int .u64 (bp.toNat : Int), .int .u64 (bq.toNat : Int)] 53))) := mkHid ((((Below.refl _ _).alloc (Nat.le_refl _) (.cells #[.int .i64 h, .int .i64 cap, .slice A l.length c, .int .i64 n, .int .i64 dr, .slice B S.length d] 45)).alloc (by simp) (.cells #[.int .i64 4, .int .u64 (ai : Int), .int .i64 an, .int .u64 (ap.toNat : Int), .int .u64 (aq.toNat : Int)] 53)).alloc (by simp; omega) (.cells #[.int .i64 4, .int .u64 (bi : Int), .int .i64 bn, .int .u64 (bp.toNat : Int), .int .u64 (bq.toNat : Int)] 53))
  have HM := mkHid (hM.below ((((Below.refl _ _).alloc (Nat.le_refl _) (.cells #[.int .i64 h, .int .i64 cap, .slice A l.length c, .int .i64 n, .int .i64 dr, .slice B S.length d] 45)).alloc (by simp) (.cells #[.int .i64 4, .int .u64 (ai : Int), .int .i64 an, .int .u64 (ap.toNat : Int), .int .u64 (aq.toNat : Int)] 53)).alloc (by simp; omega) (.cells #[.int .i64 4, .int .u64 (bi : Int), .int .i64 bn, .int .u64 (bp.toNat : Int), .int .u64 (bq.toNat : Int)] 53)))
  have ZM : Hid (Blk (((w.alloc (.cells #[.int .i64 h, .int .i64 cap, .slice A l.length c, .int .i64 n, .int .i64 dr, .slice B S.length d] 45)).alloc (.cells #[.int .i64 4, .int .u64 (ai : Int), .int .i64 an, .int .u64 (ap.toNat : Int), .int .u64 (aq.toNat : Int)] 53)).alloc (.cells #[.int .i64 4, .int .u64 (bi : Int), .int .i64 bn, .int .u64 (bp.toNat : Int), .int .u64 (bq.toNat : Int)] 53)) w.heap.size 45 #[.int .i64 h, .int .i64 cap, .slice A l.length c, .int .i64 n, .int .i64 dr, .slice B S.length d]) := mkHid (((Blk.new _ _ _).alloc _).alloc _)
  have ZU : Hid (Blk (((w.alloc (.cells #[.int .i64 h, .int .i64 cap, .slice A l.length c, .int .i64 n, .int .i64 dr, .slice B S.length d] 45)).alloc (.cells #[.int .i64 4, .int .u64 (ai : Int), .int .i64 an, .int .u64 (ap.toNat : Int), .int .u64 (aq.toNat : Int)] 53)).alloc (.cells #[.int .i64 4, .int .u64 (bi : Int), .int .i64 bn, .int .u64 (bp.toNat : Int), .int .u64 (bq.toNat : Int)] 53)) (w.heap.size + 1) 53 #[.int .i64 4, .int .u64 (ai : Int), .int .i64 an, .int .u64 (ap.toNat : Int), .int .u64 (aq.toNat : Int)]) := mkHid ((Blk.at _ _ _ (by simp)).alloc _)
  have ZV : Hid (Blk (((w.alloc (.cells #[.int .i64 h, .int .i64 cap, .slice A l.length c, .int .i64 n, .int .i64 dr, .slice B S.length d] 45)).alloc (.cells #[.int .i64 4, .int .u64 (ai : Int), .int .i64 an, .int .u64 (ap.toNat : Int), .int .u64 (aq.toNat : Int)] 53)).alloc (.cells #[.int .i64 4, .int .u64 (bi : Int), .int .i64 bn, .int .u64 (bp.toNat : Int), .int .u64 (bq.toNat : Int)] 53)) (w.heap.size + 2) 53 #[.int .i64 4, .int .u64 (bi : Int), .int .i64 bn, .int .u64 (bp.toNat : Int), .int .u64 (bq.toNat : Int)]) := mkHid (Blk.at _ _ _ (by simp))
  clear hM
  have cZM := ZM.out.six
  have lZM := ZM.out.lt
  have cZU := ZU.out.five
  have lZU := ZU.out.lt
  have cZV := ZV.out.five
  have lZV := ZV.out.lt
  go_enter Try.func10, Try.ntmps10
  go_wp2_with fail
  refine (live22 _).mono ?_
  rintro e w1 ⟨rfl, hb1⟩
  replace ZM := mkHid (ZM.out.keep hb1)
  replace ZU := mkHid (ZU.out.keep hb1)
  replace ZV := mkHid (ZV.out.keep hb1)
  replace KB := mkHid (KB.out.step hb1)
  replace HM := mkHid (HM.out.below hb1)
  clear cZM lZM
  have cZM := ZM.out.six
  have lZM := ZM.out.lt
  clear cZU lZU
  have cZU := ZU.out.five
  have lZU := ZU.out.lt
  clear cZV lZV
  have cZV := ZV.out.five
  have lZV := ZV.out.lt
  clear hb1
  go_wp2_with fail
  refine (few_walk (m := ⟨h, cap, l, n, dr, S⟩) hf (Nat.le_trans HM.out.s1 HM.out.s2) _ _ _ _ _ HM.out.sents).mono ?_
  rintro e w2 ⟨rfl, hb2⟩
  replace ZM := mkHid (ZM.out.keep hb2)
  replace ZU := mkHid (ZU.out.keep hb2)
  replace ZV := mkHid (ZV.out.keep hb2)
  replace KB := mkHid (KB.out.step hb2)
  replace HM := mkHid (HM.out.below hb2)
  clear cZM lZM
  have cZM := ZM.out.six
  have lZM := ZM.out.lt
  clear cZU lZU
  have cZU := ZU.out.five
  have lZU := ZU.out.lt
  clear cZV lZV
  have cZV := ZV.out.five
  have lZV := ZV.out.lt
  clear hb2
  go_wp2_with fail
  refine (mdo e1 _ _ _ _ _ (HM.out.mem HS.out)).mono ?_
  rintro e w3 ⟨AX, cX, BX, dX, XX, rfl, hoX, hb3⟩
  replace ZM := mkHid (ZM.out.keep hb3)
  replace ZU := mkHid (ZU.out.keep hb3)
  replace ZV := mkHid (ZV.out.keep hb3)
  replace KB := mkHid (KB.out.step hb3)
  replace HM := mkHid (HM.out.below hb3)
  clear cZM lZM
  have cZM := ZM.out.six
  have lZM := ZM.out.lt
  clear cZU lZU
  have cZU := ZU.out.five
  have lZU := ZU.out.lt
  clear cZV lZV
  have cZV := ZV.out.five
  have lZV := ZV.out.lt
  have HX := mkHid hoX
  clear hoX hb3
  go_upto_region 5 with fail
  have E3 : Below w3.heap.size w3 ((w3.alloc (.cells #[.int .i64 h, .int .i64 cap, .slice AX l.length cX, .int .i64 n, .int .i64 dr, .slice BX S.length dX] 45)).alloc (.cells #[.int .i64 ra.e, .int .i64 ra.epoch, .int .i64 ra.draw, .int .u64 (ra.p.1.toNat : Int), .int .u64 (ra.p.2.toNat : Int)] 55)) := ((Below.refl _ _).alloc (Nat.le_refl _) _).alloc (by simp) _
  obtain ⟨GX, hGX⟩ : ∃ G, G = w3.heap.size := ⟨_, rfl⟩
  have ZXM : Hid (Blk ((w3.alloc (.cells #[.int .i64 h, .int .i64 cap, .slice AX l.length cX, .int .i64 n, .int .i64 dr, .slice BX S.length dX] 45)).alloc (.cells #[.int .i64 ra.e, .int .i64 ra.epoch, .int .i64 ra.draw, .int .u64 (ra.p.1.toNat : Int), .int .u64 (ra.p.2.toNat : Int)] 55)) w3.heap.size 45 #[.int .i64 h, .int .i64 cap, .slice AX l.length cX, .int .i64 n, .int .i64 dr, .slice BX S.length dX]) := mkHid ((Blk.new _ _ _).alloc _)
  have ZXA : Hid (Blk ((w3.alloc (.cells #[.int .i64 h, .int .i64 cap, .slice AX l.length cX, .int .i64 n, .int .i64 dr, .slice BX S.length dX] 45)).alloc (.cells #[.int .i64 ra.e, .int .i64 ra.epoch, .int .i64 ra.draw, .int .u64 (ra.p.1.toNat : Int), .int .u64 (ra.p.2.toNat : Int)] 55)) (w3.heap.size + 1) 55 #[.int .i64 ra.e, .int .i64 ra.epoch, .int .i64 ra.draw, .int .u64 (ra.p.1.toNat : Int), .int .u64 (ra.p.2.toNat : Int)]) := mkHid (Blk.at _ _ _ (by simp))
  replace ZM := mkHid (ZM.out.keep E3)
  replace ZU := mkHid (ZU.out.keep E3)
  replace ZV := mkHid (ZV.out.keep E3)
  replace KB := mkHid (KB.out.step E3)
  replace HM := mkHid (HM.out.below E3)
  replace HX := mkHid (HX.out.below E3)
  clear cZM lZM
  have cZM := ZM.out.six
  have lZM := ZM.out.lt
  clear cZU lZU
  have cZU := ZU.out.five
  have lZU := ZU.out.lt
  clear cZV lZV
  have cZV := ZV.out.five
  have lZV := ZV.out.lt
  generalize ((w3.alloc (.cells #[.int .i64 h, .int .i64 cap, .slice AX l.length cX, .int .i64 n, .int .i64 dr, .slice BX S.length dX] 45)).alloc (.cells #[.int .i64 ra.e, .int .i64 ra.epoch, .int .i64 ra.draw, .int .u64 (ra.p.1.toNat : Int), .int .u64 (ra.p.2.toNat : Int)] 55)) = u3 at *
  rw [← hGX] at ZXM ZXA
  rw [← hGX]
  clear hGX E3
  have cZXM := ZXM.out.six
  have lZXM := ZXM.out.lt
  have cZXA := ZXA.out.five
  have lZXA := ZXA.out.lt
  go_wp2_with fail
  refine (msame (m := ⟨h, cap, l, n, dr, S⟩) (o := ⟨h, cap, l, n, dr, S⟩) (mkHid (sameM_self _)) HS2 HS3 _ _ _ _ _ _ _ _ _ HX.out.reads HM.out.reads (HX.out.mem (by have := HS.out; dsimp only; omega)).sents HM.out.sents).mono ?_
  rintro e w4 ⟨rfl, hb4⟩
  replace ZM := mkHid (ZM.out.keep hb4)
  replace ZU := mkHid (ZU.out.keep hb4)
  replace ZV := mkHid (ZV.out.keep hb4)
  replace KB := mkHid (KB.out.step hb4)
  replace HM := mkHid (HM.out.below hb4)
  replace HX := mkHid (HX.out.below hb4)
  replace ZXM := mkHid (ZXM.out.keep hb4)
  replace ZXA := mkHid (ZXA.out.keep hb4)
  clear cZM lZM
  have cZM := ZM.out.six
  have lZM := ZM.out.lt
  clear cZU lZU
  have cZU := ZU.out.five
  have lZU := ZU.out.lt
  clear cZV lZV
  have cZV := ZV.out.five
  have lZV := ZV.out.lt
  clear cZXM lZXM
  have cZXM := ZXM.out.six
  have lZXM := ZXM.out.lt
  clear cZXA lZXA
  have cZXA := ZXA.out.five
  have lZXA := ZXA.out.lt
  clear hb4
  go_wp2_with fail
  refine (mdo e2 _ _ _ _ _ (HM.out.mem HS.out)).mono ?_
  rintro e w5 ⟨AY, cY, BY, dY, XY, rfl, hoY, hb5⟩
  replace ZM := mkHid (ZM.out.keep hb5)
  replace ZU := mkHid (ZU.out.keep hb5)
  replace ZV := mkHid (ZV.out.keep hb5)
  replace KB := mkHid (KB.out.step hb5)
  replace HM := mkHid (HM.out.below hb5)
  replace HX := mkHid (HX.out.below hb5)
  replace ZXM := mkHid (ZXM.out.keep hb5)
  replace ZXA := mkHid (ZXA.out.keep hb5)
  clear cZM lZM
  have cZM := ZM.out.six
  have lZM := ZM.out.lt
  clear cZU lZU
  have cZU := ZU.out.five
  have lZU := ZU.out.lt
  clear cZV lZV
  have cZV := ZV.out.five
  have lZV := ZV.out.lt
  clear cZXM lZXM
  have cZXM := ZXM.out.six
  have lZXM := ZXM.out.lt
  clear cZXA lZXA
  have cZXA := ZXA.out.five
  have lZXA := ZXA.out.lt
  have HY := mkHid hoY
  clear hoY hb5
  go_upto_region 10 with fail
  have E5 : Below w5.heap.size w5 ((w5.alloc (.cells #[.int .i64 h, .int .i64 cap, .slice AY l.length cY, .int .i64 n, .int .i64 dr, .slice BY S.length dY] 45)).alloc (.cells #[.int .i64 rb.e, .int .i64 rb.epoch, .int .i64 rb.draw, .int .u64 (rb.p.1.toNat : Int), .int .u64 (rb.p.2.toNat : Int)] 55)) := ((Below.refl _ _).alloc (Nat.le_refl _) _).alloc (by simp) _
  obtain ⟨GY, hGY⟩ : ∃ G, G = w5.heap.size := ⟨_, rfl⟩
  have ZYM : Hid (Blk ((w5.alloc (.cells #[.int .i64 h, .int .i64 cap, .slice AY l.length cY, .int .i64 n, .int .i64 dr, .slice BY S.length dY] 45)).alloc (.cells #[.int .i64 rb.e, .int .i64 rb.epoch, .int .i64 rb.draw, .int .u64 (rb.p.1.toNat : Int), .int .u64 (rb.p.2.toNat : Int)] 55)) w5.heap.size 45 #[.int .i64 h, .int .i64 cap, .slice AY l.length cY, .int .i64 n, .int .i64 dr, .slice BY S.length dY]) := mkHid ((Blk.new _ _ _).alloc _)
  have ZYA : Hid (Blk ((w5.alloc (.cells #[.int .i64 h, .int .i64 cap, .slice AY l.length cY, .int .i64 n, .int .i64 dr, .slice BY S.length dY] 45)).alloc (.cells #[.int .i64 rb.e, .int .i64 rb.epoch, .int .i64 rb.draw, .int .u64 (rb.p.1.toNat : Int), .int .u64 (rb.p.2.toNat : Int)] 55)) (w5.heap.size + 1) 55 #[.int .i64 rb.e, .int .i64 rb.epoch, .int .i64 rb.draw, .int .u64 (rb.p.1.toNat : Int), .int .u64 (rb.p.2.toNat : Int)]) := mkHid (Blk.at _ _ _ (by simp))
  replace ZM := mkHid (ZM.out.keep E5)
  replace ZU := mkHid (ZU.out.keep E5)
  replace ZV := mkHid (ZV.out.keep E5)
  replace KB := mkHid (KB.out.step E5)
  replace HM := mkHid (HM.out.below E5)
  replace HX := mkHid (HX.out.below E5)
  replace ZXM := mkHid (ZXM.out.keep E5)
  replace ZXA := mkHid (ZXA.out.keep E5)
  replace HY := mkHid (HY.out.below E5)
  clear cZM lZM
  have cZM := ZM.out.six
  have lZM := ZM.out.lt
  clear cZU lZU
  have cZU := ZU.out.five
  have lZU := ZU.out.lt
  clear cZV lZV
  have cZV := ZV.out.five
  have lZV := ZV.out.lt
  clear cZXM lZXM
  have cZXM := ZXM.out.six
  have lZXM := ZXM.out.lt
  clear cZXA lZXA
  have cZXA := ZXA.out.five
  have lZXA := ZXA.out.lt
  generalize ((w5.alloc (.cells #[.int .i64 h, .int .i64 cap, .slice AY l.length cY, .int .i64 n, .int .i64 dr, .slice BY S.length dY] 45)).alloc (.cells #[.int .i64 rb.e, .int .i64 rb.epoch, .int .i64 rb.draw, .int .u64 (rb.p.1.toNat : Int), .int .u64 (rb.p.2.toNat : Int)] 55)) = u5 at *
  rw [← hGY] at ZYM ZYA
  rw [← hGY]
  clear hGY E5
  have cZYM := ZYM.out.six
  have lZYM := ZYM.out.lt
  have cZYA := ZYA.out.five
  have lZYA := ZYA.out.lt
  go_wp2_with fail
  refine (mdo e2 _ _ _ _ _ (HX.out.mem (by have := HS.out; dsimp only; omega))).mono ?_
  rintro e w6 ⟨AP, cP, BP, dP, XP, rfl, hoP, hb6⟩
  replace ZM := mkHid (ZM.out.keep hb6)
  replace ZU := mkHid (ZU.out.keep hb6)
  replace ZV := mkHid (ZV.out.keep hb6)
  replace KB := mkHid (KB.out.step hb6)
  replace HM := mkHid (HM.out.below hb6)
  replace HX := mkHid (HX.out.below hb6)
  replace ZXM := mkHid (ZXM.out.keep hb6)
  replace ZXA := mkHid (ZXA.out.keep hb6)
  replace HY := mkHid (HY.out.below hb6)
  replace ZYM := mkHid (ZYM.out.keep hb6)
  replace ZYA := mkHid (ZYA.out.keep hb6)
  clear cZM lZM
  have cZM := ZM.out.six
  have lZM := ZM.out.lt
  clear cZU lZU
  have cZU := ZU.out.five
  have lZU := ZU.out.lt
  clear cZV lZV
  have cZV := ZV.out.five
  have lZV := ZV.out.lt
  clear cZXM lZXM
  have cZXM := ZXM.out.six
  have lZXM := ZXM.out.lt
  clear cZXA lZXA
  have cZXA := ZXA.out.five
  have lZXA := ZXA.out.lt
  clear cZYM lZYM
  have cZYM := ZYM.out.six
  have lZYM := ZYM.out.lt
  clear cZYA lZYA
  have cZYA := ZYA.out.five
  have lZYA := ZYA.out.lt
  have HP := mkHid hoP
  clear hoP hb6
  go_upto_region 13 with fail
  have E6 : Below w6.heap.size w6 ((w6.alloc (.cells #[.int .i64 h, .int .i64 cap, .slice AP l.length cP, .int .i64 n, .int .i64 dr, .slice BP S.length dP] 45)).alloc (.cells #[.int .i64 rb.e, .int .i64 rb.epoch, .int .i64 rb.draw, .int .u64 (rb.p.1.toNat : Int), .int .u64 (rb.p.2.toNat : Int)] 55)) := ((Below.refl _ _).alloc (Nat.le_refl _) _).alloc (by simp) _
  obtain ⟨GP, hGP⟩ : ∃ G, G = w6.heap.size := ⟨_, rfl⟩
  have ZPM : Hid (Blk ((w6.alloc (.cells #[.int .i64 h, .int .i64 cap, .slice AP l.length cP, .int .i64 n, .int .i64 dr, .slice BP S.length dP] 45)).alloc (.cells #[.int .i64 rb.e, .int .i64 rb.epoch, .int .i64 rb.draw, .int .u64 (rb.p.1.toNat : Int), .int .u64 (rb.p.2.toNat : Int)] 55)) w6.heap.size 45 #[.int .i64 h, .int .i64 cap, .slice AP l.length cP, .int .i64 n, .int .i64 dr, .slice BP S.length dP]) := mkHid ((Blk.new _ _ _).alloc _)
  have ZPA : Hid (Blk ((w6.alloc (.cells #[.int .i64 h, .int .i64 cap, .slice AP l.length cP, .int .i64 n, .int .i64 dr, .slice BP S.length dP] 45)).alloc (.cells #[.int .i64 rb.e, .int .i64 rb.epoch, .int .i64 rb.draw, .int .u64 (rb.p.1.toNat : Int), .int .u64 (rb.p.2.toNat : Int)] 55)) (w6.heap.size + 1) 55 #[.int .i64 rb.e, .int .i64 rb.epoch, .int .i64 rb.draw, .int .u64 (rb.p.1.toNat : Int), .int .u64 (rb.p.2.toNat : Int)]) := mkHid (Blk.at _ _ _ (by simp))
  replace ZM := mkHid (ZM.out.keep E6)
  replace ZU := mkHid (ZU.out.keep E6)
  replace ZV := mkHid (ZV.out.keep E6)
  replace KB := mkHid (KB.out.step E6)
  replace HM := mkHid (HM.out.below E6)
  replace HX := mkHid (HX.out.below E6)
  replace ZXM := mkHid (ZXM.out.keep E6)
  replace ZXA := mkHid (ZXA.out.keep E6)
  replace HY := mkHid (HY.out.below E6)
  replace ZYM := mkHid (ZYM.out.keep E6)
  replace ZYA := mkHid (ZYA.out.keep E6)
  replace HP := mkHid (HP.out.below E6)
  clear cZM lZM
  have cZM := ZM.out.six
  have lZM := ZM.out.lt
  clear cZU lZU
  have cZU := ZU.out.five
  have lZU := ZU.out.lt
  clear cZV lZV
  have cZV := ZV.out.five
  have lZV := ZV.out.lt
  clear cZXM lZXM
  have cZXM := ZXM.out.six
  have lZXM := ZXM.out.lt
  clear cZXA lZXA
  have cZXA := ZXA.out.five
  have lZXA := ZXA.out.lt
  clear cZYM lZYM
  have cZYM := ZYM.out.six
  have lZYM := ZYM.out.lt
  clear cZYA lZYA
  have cZYA := ZYA.out.five
  have lZYA := ZYA.out.lt
  generalize ((w6.alloc (.cells #[.int .i64 h, .int .i64 cap, .slice AP l.length cP, .int .i64 n, .int .i64 dr, .slice BP S.length dP] 45)).alloc (.cells #[.int .i64 rb.e, .int .i64 rb.epoch, .int .i64 rb.draw, .int .u64 (rb.p.1.toNat : Int), .int .u64 (rb.p.2.toNat : Int)] 55)) = u6 at *
  rw [← hGP] at ZPM ZPA
  rw [← hGP]
  clear hGP E6
  have cZPM := ZPM.out.six
  have lZPM := ZPM.out.lt
  have cZPA := ZPA.out.five
  have lZPA := ZPA.out.lt
  go_wp2_with fail
  refine (mdo e1 _ _ _ _ _ (HY.out.mem (by have := HS.out; dsimp only; omega))).mono ?_
  rintro e w7 ⟨AQ, cQ, BQ, dQ, XQ, rfl, hoQ, hb7⟩
  replace ZM := mkHid (ZM.out.keep hb7)
  replace ZU := mkHid (ZU.out.keep hb7)
  replace ZV := mkHid (ZV.out.keep hb7)
  replace KB := mkHid (KB.out.step hb7)
  replace HM := mkHid (HM.out.below hb7)
  replace HX := mkHid (HX.out.below hb7)
  replace ZXM := mkHid (ZXM.out.keep hb7)
  replace ZXA := mkHid (ZXA.out.keep hb7)
  replace HY := mkHid (HY.out.below hb7)
  replace ZYM := mkHid (ZYM.out.keep hb7)
  replace ZYA := mkHid (ZYA.out.keep hb7)
  replace HP := mkHid (HP.out.below hb7)
  replace ZPM := mkHid (ZPM.out.keep hb7)
  replace ZPA := mkHid (ZPA.out.keep hb7)
  clear cZM lZM
  have cZM := ZM.out.six
  have lZM := ZM.out.lt
  clear cZU lZU
  have cZU := ZU.out.five
  have lZU := ZU.out.lt
  clear cZV lZV
  have cZV := ZV.out.five
  have lZV := ZV.out.lt
  clear cZXM lZXM
  have cZXM := ZXM.out.six
  have lZXM := ZXM.out.lt
  clear cZXA lZXA
  have cZXA := ZXA.out.five
  have lZXA := ZXA.out.lt
  clear cZYM lZYM
  have cZYM := ZYM.out.six
  have lZYM := ZYM.out.lt
  clear cZYA lZYA
  have cZYA := ZYA.out.five
  have lZYA := ZYA.out.lt
  clear cZPM lZPM
  have cZPM := ZPM.out.six
  have lZPM := ZPM.out.lt
  clear cZPA lZPA
  have cZPA := ZPA.out.five
  have lZPA := ZPA.out.lt
  have HQ := mkHid hoQ
  clear hoQ hb7
  go_upto_region 14 with fail
  have E7 : Below w7.heap.size w7 ((w7.alloc (.cells #[.int .i64 h, .int .i64 cap, .slice AQ l.length cQ, .int .i64 n, .int .i64 dr, .slice BQ S.length dQ] 45)).alloc (.cells #[.int .i64 ra.e, .int .i64 ra.epoch, .int .i64 ra.draw, .int .u64 (ra.p.1.toNat : Int), .int .u64 (ra.p.2.toNat : Int)] 55)) := ((Below.refl _ _).alloc (Nat.le_refl _) _).alloc (by simp) _
  obtain ⟨GQ, hGQ⟩ : ∃ G, G = w7.heap.size := ⟨_, rfl⟩
  have ZQM : Hid (Blk ((w7.alloc (.cells #[.int .i64 h, .int .i64 cap, .slice AQ l.length cQ, .int .i64 n, .int .i64 dr, .slice BQ S.length dQ] 45)).alloc (.cells #[.int .i64 ra.e, .int .i64 ra.epoch, .int .i64 ra.draw, .int .u64 (ra.p.1.toNat : Int), .int .u64 (ra.p.2.toNat : Int)] 55)) w7.heap.size 45 #[.int .i64 h, .int .i64 cap, .slice AQ l.length cQ, .int .i64 n, .int .i64 dr, .slice BQ S.length dQ]) := mkHid ((Blk.new _ _ _).alloc _)
  have ZQA : Hid (Blk ((w7.alloc (.cells #[.int .i64 h, .int .i64 cap, .slice AQ l.length cQ, .int .i64 n, .int .i64 dr, .slice BQ S.length dQ] 45)).alloc (.cells #[.int .i64 ra.e, .int .i64 ra.epoch, .int .i64 ra.draw, .int .u64 (ra.p.1.toNat : Int), .int .u64 (ra.p.2.toNat : Int)] 55)) (w7.heap.size + 1) 55 #[.int .i64 ra.e, .int .i64 ra.epoch, .int .i64 ra.draw, .int .u64 (ra.p.1.toNat : Int), .int .u64 (ra.p.2.toNat : Int)]) := mkHid (Blk.at _ _ _ (by simp))
  replace ZM := mkHid (ZM.out.keep E7)
  replace ZU := mkHid (ZU.out.keep E7)
  replace ZV := mkHid (ZV.out.keep E7)
  replace KB := mkHid (KB.out.step E7)
  replace HM := mkHid (HM.out.below E7)
  replace HX := mkHid (HX.out.below E7)
  replace ZXM := mkHid (ZXM.out.keep E7)
  replace ZXA := mkHid (ZXA.out.keep E7)
  replace HY := mkHid (HY.out.below E7)
  replace ZYM := mkHid (ZYM.out.keep E7)
  replace ZYA := mkHid (ZYA.out.keep E7)
  replace HP := mkHid (HP.out.below E7)
  replace ZPM := mkHid (ZPM.out.keep E7)
  replace ZPA := mkHid (ZPA.out.keep E7)
  replace HQ := mkHid (HQ.out.below E7)
  clear cZM lZM
  have cZM := ZM.out.six
  have lZM := ZM.out.lt
  clear cZU lZU
  have cZU := ZU.out.five
  have lZU := ZU.out.lt
  clear cZV lZV
  have cZV := ZV.out.five
  have lZV := ZV.out.lt
  clear cZXM lZXM
  have cZXM := ZXM.out.six
  have lZXM := ZXM.out.lt
  clear cZXA lZXA
  have cZXA := ZXA.out.five
  have lZXA := ZXA.out.lt
  clear cZYM lZYM
  have cZYM := ZYM.out.six
  have lZYM := ZYM.out.lt
  clear cZYA lZYA
  have cZYA := ZYA.out.five
  have lZYA := ZYA.out.lt
  clear cZPM lZPM
  have cZPM := ZPM.out.six
  have lZPM := ZPM.out.lt
  clear cZPA lZPA
  have cZPA := ZPA.out.five
  have lZPA := ZPA.out.lt
  generalize ((w7.alloc (.cells #[.int .i64 h, .int .i64 cap, .slice AQ l.length cQ, .int .i64 n, .int .i64 dr, .slice BQ S.length dQ] 45)).alloc (.cells #[.int .i64 ra.e, .int .i64 ra.epoch, .int .i64 ra.draw, .int .u64 (ra.p.1.toNat : Int), .int .u64 (ra.p.2.toNat : Int)] 55)) = u7 at *
  rw [← hGQ] at ZQM ZQA
  rw [← hGQ]
  clear hGQ E7
  have cZQM := ZQM.out.six
  have lZQM := ZQM.out.lt
  have cZQA := ZQA.out.five
  have lZQA := ZQA.out.lt
  go_wp2_with fail
  go_ret
  exact ⟨rfl, KB.out⟩

theorem walk_ModelReads {w : World} (m : ModD) (A : Option Addr) (c : Nat) (B : Option Addr) (d : Nat) (hM : RawM w A c B d m) (a b : OpD) :
    Calls Try.prog 10 #[.agg #[.int .i64 m.h, .int .i64 m.cap, .slice A m.l.length c, .int .i64 m.n, .int .i64 m.draws, .slice B m.sent.length d], .agg #[.int .i64 a.kind, .int .u64 (a.i : Int), .int .i64 a.n, .int .u64 (a.p.1.toNat : Int), .int .u64 (a.p.2.toNat : Int)], .agg #[.int .i64 b.kind, .int .u64 (b.i : Int), .int .i64 b.n, .int .u64 (b.p.1.toNat : Int), .int .u64 (b.p.2.toNat : Int)]] w fun e w' => e = .returned (.bool true) ∧ Below w.heap.size w w' := by
  obtain ⟨h, cap, l, n, dr, S⟩ := m
  obtain ⟨ka, ai, an, ap, aq⟩ := a
  obtain ⟨kb, bi, bn, bp, bq⟩ := b
  cases hf : fewM ⟨h, cap, l, n, dr, S⟩
  · exact mreads_many (mkHid hf) A c B d w hM
  · obtain ⟨m', ra, r, e1⟩ : ∃ m' ra r, doM ⟨h, cap, l, n, dr, S⟩ ⟨ka, ai, an, (ap, aq)⟩ = (m', ra, r) := ⟨_, _, _, rfl⟩
    obtain ⟨mb, rb, f, e2⟩ : ∃ m' ra r, doM ⟨h, cap, l, n, dr, S⟩ ⟨kb, bi, bn, (bp, bq)⟩ = (m', ra, r) := ⟨_, _, _, rfl⟩
    rcases do_reads e1 with ⟨rfl, rfl, rfl⟩ | ⟨rfl, hok, hw⟩
    · exact mreads_bad (mkHid hf) (mkHid e1) A c B d w hM
    · rcases hw with ⟨k4, rfl, _⟩ | ⟨k, q, rfl⟩ | ⟨k, q⟩
      · dsimp only at k4
        subst k4
        rcases do_or e2 with rfl | rfl
        · by_cases kb4 : kb = 4
          · subst kb4
            have e3 := e2
            rw [do_read4 hok] at e3
            cases e3
            exact mreads_rr (mkHid hf) (mkHid e1) (mkHid e2) A c B d w hM
          · exact mreads_r0 (mkHid hf) kb4 (mkHid e1) (mkHid e2) A c B d w hM
        · exact mreads_r1 (mkHid hf) (mkHid e1) (mkHid e2) A c B d w hM
      · rcases do_or e2 with rfl | rfl
        · exact mreads_err0 (mkHid hf) k q (mkHid e1) (mkHid e2) A c B d w hM
        · exact mreads_err1 (mkHid hf) k q (mkHid e1) (mkHid e2) A c B d w hM
      · rcases do_or e2 with rfl | rfl
        · exact mreads_done0 (mkHid hf) k q (mkHid e1) (mkHid e2) A c B d w hM
        · exact mreads_done1 (mkHid hf) k q (mkHid e1) (mkHid e2) A c B d w hM
end Go.Proofs.Ytmehbonjpmlmfaa

namespace Go.Proofs.Ytmehbonjpmlmfaa
open Go.ChangeShapes Go.WideShapes Go.ChangeAt Go.RowKit

set_option maxRecDepth 100000 in
theorem ModelReads_lifted (os : Os) (started : os.Started) (H : Type) (enc : TypeId × Value → H) :
    ReturnsInHanded {} Try.checked os 10 .any (Rows.modelReadsSpec.pre6 enc Try.prog Try.f10 Rows.modelReadsRow.domain false) (Rows.modelReadsSpec.post enc Try.prog Try.f10 false true false false) := by
  refine returnsInHanded_of_change (C := Try.checked) own started (by kernel_rfl) Try.func10
    (ChangeSpec.witness6 (enc := enc) (C := Try.checked) false ⟨#[], #[.agg #[.int .i64 0, .int .i64 0, .slice none 0 0, .int .i64 0, .int .i64 0, .slice none 0 0], .agg #[.int .i64 0, .int .u64 0, .int .i64 0, .int .u64 0, .int .u64 0], .agg #[.int .i64 0, .int .u64 0, .int .i64 0, .int .u64 0, .int .u64 0]], []⟩ 8 (by kernel_rfl) (by kernel_rfl) (by kernel_rfl) (by kernel_rfl)) ?_
  intro W base args ds gs before hval0 hW hcnd _
  have hval : ∀ (j : Nat) t v, Try.f10.params[j]? = some t → args[j]? = some v → Value.okWide Try.prog W .any base t v := hval0
  have hW' := hW
  obtain ⟨p, q, hA0, hV, rfl, hfz, hnd⟩ := hW
  have hA : DataW.TrodAll enc Try.prog W 0 (fun _ => true) true Try.f10.params.toList args.toList ds p := hA0
  rw [Try.params10] at hA hval
  obtain ⟨v0, vs0, d0, ds0, p0, q0, hargs, rfl, rfl, h0, r0⟩ := trodAll_cons hA
  obtain ⟨v1, vs1, d1, ds1, p1, q1, rfl, rfl, rfl, h1, r1⟩ := trodAll_cons r0
  obtain ⟨v2, vs2, d2, ds2, p2, q2, rfl, rfl, rfl, h2, r2⟩ := trodAll_cons r1
  obtain ⟨rfl, rfl, rfl⟩ := trodAll_nil r2
  obtain rfl : args = #[v0, v1, v2] := by cases args; simp_all
  obtain ⟨rfl, rfl⟩ := trodVars_none hV
  have k0 := h0
  have lt0 : ∀ x ∈ p0, x.block < W.heap.size := by obtain ⟨m, hm⟩ := k0; exact DataW.trod_lt m _ _ _ hm
  have k1 := h1
  have lt1 : ∀ x ∈ p1, x.block < W.heap.size := by obtain ⟨m, hm⟩ := k1; exact DataW.trod_lt m _ _ _ hm
  have k2 := h2
  have lt2 : ∀ x ∈ p2, x.block < W.heap.size := by obtain ⟨m, hm⟩ := k2; exact DataW.trod_lt m _ _ _ hm
  obtain ⟨a0, c0, b0, e0, m0, rfl, M0⟩ := open_model (hval 0 45 v0 rfl rfl) h0
  obtain ⟨o1, rfl, W1⟩ := open_op (hval 1 53 v1 rfl rfl) h1
  obtain ⟨o2, rfl, W2⟩ := open_op (hval 2 53 v2 rfl rfl) h2
  clear hA0 hval0
  refine (walk_ModelReads (w := W) m0 a0 c0 b0 e0 M0 o1 o2).mono fun e W' ⟨he, bel⟩ => ?_
  subst he
  exact ⟨_, rfl, _, _, _, [], _, [], hW', trodAll_mk1 (shut_bool Try.underlying4 _), (trodAll_cons_mk (Below.trod laidOut (by kernel_rfl) (of_decide_eq_true (by kernel_rfl)) k0 bel lt0) (trodAll_cons_mk (Below.trod laidOut (by kernel_rfl) (of_decide_eq_true (by kernel_rfl)) k1 bel lt1) (trodAll_cons_mk (Below.trod laidOut (by kernel_rfl) (of_decide_eq_true (by kernel_rfl)) k2 bel lt2) trodAll_mk0))), rfl, bel.frame _, fun h => by cases h⟩

theorem ModelReads_over : Rows.modelReadsRow.holds Try.pinned (OpenSpec.ofChange Rows.modelReadsSpec) :=
  OpenClaim.holds_of_wide 10 Try.f10 rfl rfl rfl rfl rfl rfl rfl ⟨rfl, rfl, rfl, rfl, rfl⟩ rfl rfl rfl rfl rfl (by kernel_rfl) Try.func10 (by kernel_rfl)
    (of_decide_eq_true (by kernel_rfl)) (by unfold Func.isWrapper; first | (rw [if_pos (by decide +kernel)]; kernel_rfl) | (rw [if_neg (by decide +kernel)]; exact ⟨rfl, rfl⟩))
    (fun os started H enc _ => ModelReads_lifted os started H enc)

/-- the statement -/
theorem ModelReads_holds : Rows.ModelReadsSaid := ModelReads_over
#print axioms ModelReads_holds
end Go.Proofs.Ytmehbonjpmlmfaa
