/- Plain mathematics of mix over 64 bits: rotation, rounds, and what takes them back. No program in sight. -/
import Derived.WalkKit
import Derived.Deep.Draws
namespace Go.Proofs.Ytdaodopeodheeaa

/-- x turned by s places -/
def rotl (s : Nat) (x : BitVec 64) : BitVec 64 := x <<< s ||| x >>> (64 - s)

theorem rotl_bit (s : Nat) (hs : 0 < s) (h : s < 64) (x : BitVec 64) (i : Nat) (hi : i < 64) :
    (rotl s x).getLsbD i = x.getLsbD (if i < s then 64 - s + i else i - s) := by
  unfold rotl
  simp only [BitVec.getLsbD_or, BitVec.getLsbD_shiftLeft, BitVec.getLsbD_ushiftRight]
  by_cases c : i < s
  · simp [c, hi]
  · have : x.getLsbD (64 - s + i) = false := BitVec.getLsbD_of_ge _ _ (by omega)
    simp [c, hi, this]

theorem rotl_back (s t : Nat) (hs : 0 < s) (ht : 0 < t) (e : s + t = 64) (x : BitVec 64) : rotl t (rotl s x) = x := by
  apply BitVec.eq_of_getLsbD_eq
  intro i hi
  rw [rotl_bit t ht (by omega) _ i hi, rotl_bit s hs (by omega) _ _ (by split <;> omega)]
  congr 1
  split <;> split <;> omega

def goldC : BitVec 64 := 11400714819323198485#64
def rnd (k : Nat) (p : BitVec 64 × BitVec 64) : BitVec 64 × BitVec 64 :=
  (rotl 13 (p.1 + p.2 + BitVec.ofNat 64 k * goldC) ^^^ rotl 29 (p.2 ^^^ rotl 13 (p.1 + p.2 + BitVec.ofNat 64 k * goldC)), rotl 29 (p.2 ^^^ rotl 13 (p.1 + p.2 + BitVec.ofNat 64 k * goldC)))
def unrnd (k : Nat) (p : BitVec 64 × BitVec 64) : BitVec 64 × BitVec 64 :=
  (rotl 51 (p.1 ^^^ p.2) - (rotl 35 p.2 ^^^ (p.1 ^^^ p.2)) - BitVec.ofNat 64 k * goldC, rotl 35 p.2 ^^^ (p.1 ^^^ p.2))

theorem xor_xor_cancel (a b : BitVec 64) : (a ^^^ b) ^^^ b = a := by rw [BitVec.xor_assoc, BitVec.xor_self, BitVec.xor_zero]

theorem un_rnd (k : Nat) (p : BitVec 64 × BitVec 64) : unrnd k (rnd k p) = p := by
  obtain ⟨x, y⟩ := p
  unfold unrnd rnd
  simp only [xor_xor_cancel]
  rw [rotl_back 29 35 (by decide) (by decide) rfl, rotl_back 13 51 (by decide) (by decide) rfl, xor_xor_cancel]
  congr 1
  rw [BitVec.sub_eq_iff_eq_add, BitVec.sub_eq_iff_eq_add]
  rw [BitVec.add_assoc, BitVec.add_assoc, BitVec.add_comm y]
theorem rnd_un (k : Nat) (p : BitVec 64 × BitVec 64) : rnd k (unrnd k p) = p := by
  obtain ⟨x, y⟩ := p
  have e : rotl 51 (x ^^^ y) - (rotl 35 y ^^^ (x ^^^ y)) - BitVec.ofNat 64 k * goldC + (rotl 35 y ^^^ (x ^^^ y)) + BitVec.ofNat 64 k * goldC = rotl 51 (x ^^^ y) := by
    generalize rotl 51 (x ^^^ y) = a
    generalize rotl 35 y ^^^ (x ^^^ y) = b
    generalize BitVec.ofNat 64 k * goldC = c
    rw [BitVec.add_assoc, BitVec.add_comm b, ← BitVec.add_assoc, BitVec.sub_add_cancel, BitVec.sub_add_cancel]
  unfold unrnd rnd
  simp only [e]
  rw [rotl_back 51 13 (by decide) (by decide) rfl, xor_xor_cancel, rotl_back 35 29 (by decide) (by decide) rfl, xor_xor_cancel]

/-- the first n rounds -/
def mixTo (n : Nat) (p : BitVec 64 × BitVec 64) : BitVec 64 × BitVec 64 := (List.range n).foldl (fun p k => rnd k p) p
def unmixFrom (n : Nat) (p : BitVec 64 × BitVec 64) : BitVec 64 × BitVec 64 := (List.range n).foldr (fun k p => unrnd k p) p
theorem mixTo_zero (p : BitVec 64 × BitVec 64) : mixTo 0 p = p := by unfold mixTo; rw [List.range_zero, List.foldl_nil]
theorem mixTo_succ (n : Nat) (p : BitVec 64 × BitVec 64) : mixTo (n + 1) p = rnd n (mixTo n p) := by
  unfold mixTo; rw [List.range_succ, List.foldl_append, List.foldl_cons, List.foldl_nil]
theorem unmixFrom_zero (p : BitVec 64 × BitVec 64) : unmixFrom 0 p = p := by unfold unmixFrom; rw [List.range_zero, List.foldr_nil]
theorem unmixFrom_succ (n : Nat) (p : BitVec 64 × BitVec 64) : unmixFrom (n + 1) p = unmixFrom n (unrnd n p) := by
  unfold unmixFrom; rw [List.range_succ, List.foldr_append, List.foldr_cons, List.foldr_nil]
theorem unmix_mix (n : Nat) (p : BitVec 64 × BitVec 64) : unmixFrom n (mixTo n p) = p := by
  induction n with
  | zero => rw [mixTo_zero, unmixFrom_zero]
  | succ k ih => rw [mixTo_succ, unmixFrom_succ, un_rnd, ih]
theorem mix_unmix (n : Nat) : ∀ p : BitVec 64 × BitVec 64, mixTo n (unmixFrom n p) = p := by
  induction n with
  | zero => intro p; rw [unmixFrom_zero, mixTo_zero]
  | succ k ih => intro p; rw [mixTo_succ, unmixFrom_succ, ih, rnd_un]

/-! how the walk writes these: a number of 64 bits as the model's integer -/
def U (x : BitVec 64) : Int := (x.toNat : Int)
theorem U_lo (x : BitVec 64) : 0 ≤ U x := by unfold U; omega
theorem U_hi (x : BitVec 64) : U x < 18446744073709551616 := by unfold U; have := x.isLt; omega
theorem U_wf (x : BitVec 64) : (Lit.int .u64 (U x)).wf = true := by
  exact WalkArith.wf_u64 ⟨U_lo x, by have := U_hi x; omega⟩
theorem U_of (n : Int) (h : (Lit.int .u64 n).wf = true) : ∃ x : BitVec 64, n = U x := by
  refine ⟨BitVec.ofInt 64 n, ?_⟩
  have hmin : IntKind.u64.min = 0 := rfl
  have hmax : IntKind.u64.max = 18446744073709551615 := rfl
  simp only [Lit.wf, Bool.and_eq_true, decide_eq_true_eq, hmin, hmax] at h
  unfold U
  rw [BitVec.toNat_ofInt]
  omega
theorem U_inj {x y : BitVec 64} (h : U x = U y) : x = y := BitVec.eq_of_toNat_eq (by unfold U at h; omega)
theorem wrapU (n : Int) : IntKind.u64.wrap n = U (BitVec.ofInt 64 n) := by
  unfold U
  rw [IntKind.wrap_u64, BitVec.toNat_ofInt]
  omega
theorem ofInt_U (x : BitVec 64) : BitVec.ofInt 64 (U x) = x := by
  unfold U
  rw [BitVec.ofInt_natCast, BitVec.ofNat_toNat, BitVec.setWidth_eq]
theorem w_add (x y : BitVec 64) : IntKind.u64.wrap (U x + U y) = U (x + y) := by
  rw [wrapU, BitVec.ofInt_add, ofInt_U, ofInt_U]
theorem w_sub (x y : BitVec 64) : IntKind.u64.wrap (U x - U y) = U (x - y) := by
  rw [wrapU, BitVec.sub_eq_add_neg, Int.sub_eq_add_neg, BitVec.ofInt_add, BitVec.ofInt_neg, ofInt_U, ofInt_U]
theorem w_gold (k : Nat) : IntKind.u64.wrap ((k : Int) * 11400714819323198485) = U (BitVec.ofNat 64 k * goldC) := by
  rw [wrapU, BitVec.ofInt_mul, BitVec.ofInt_natCast]; rfl
theorem w_xor (x y : BitVec 64) : bits BinOp.xor IntKind.u64 (U x) (U y) = U (x ^^^ y) := by
  show IntKind.u64.wrap ((BitVec.ofInt 64 (U x) ^^^ BitVec.ofInt 64 (U y)).toNat : Int) = _
  rw [ofInt_U, ofInt_U]
  exact (wrapU _).trans (congrArg U (ofInt_U _))
theorem w_or (x y : BitVec 64) : bits BinOp.or IntKind.u64 (U x) (U y) = U (x ||| y) := by
  show IntKind.u64.wrap ((BitVec.ofInt 64 (U x) ||| BitVec.ofInt 64 (U y)).toNat : Int) = _
  rw [ofInt_U, ofInt_U]
  exact (wrapU _).trans (congrArg U (ofInt_U _))
theorem w_shl (x : BitVec 64) (s : Nat) : IntKind.u64.wrap (U x * ((2 ^ s : Nat) : Int)) = U (x <<< s) := by
  unfold U
  rw [IntKind.wrap_u64, BitVec.toNat_shiftLeft, Nat.shiftLeft_eq]
  omega
theorem w_shr (x : BitVec 64) (s : Nat) : U x / ((2 ^ s : Nat) : Int) = U (x >>> s) := by
  unfold U
  rw [BitVec.toNat_ushiftRight, Nat.shiftRight_eq_div_pow, Int.natCast_ediv]
theorem w_rot (x : BitVec 64) (s : Nat) (a b : Int) (ha : a = ((2 ^ s : Nat) : Int)) (hb : b = ((2 ^ (64 - s) : Nat) : Int)) :
    bits BinOp.or IntKind.u64 (IntKind.u64.wrap (U x * a)) (U x / b) = U (rotl s x) := by
  rw [ha, hb, w_shl, w_shr, w_or]; rfl

/-! octets -/
def B (x : BitVec 8) : Int := (x.toNat : Int)
theorem B_lo (x : BitVec 8) : 0 ≤ B x := by unfold B; omega
theorem B_hi (x : BitVec 8) : B x < 256 := by unfold B; have := x.isLt; omega
def orAt (p : BitVec 64 × BitVec 64) (i : Nat) (c : BitVec 8) : BitVec 64 × BitVec 64 :=
  if i < 8 then (p.1 ||| (c.setWidth 64) <<< (i * 8), p.2) else (p.1, p.2 ||| (c.setWidth 64) <<< ((i - 8) * 8))
def readTo (n : Nat) (l : List (BitVec 8)) : BitVec 64 × BitVec 64 := (List.range n).foldl (fun p i => orAt p i (l.getD i 0)) (0, 0)
theorem readTo_zero (l : List (BitVec 8)) : readTo 0 l = (0, 0) := by unfold readTo; rw [List.range_zero, List.foldl_nil]
theorem readTo_succ (n : Nat) (l : List (BitVec 8)) : readTo (n + 1) l = orAt (readTo n l) n (l.getD n 0) := by
  unfold readTo; rw [List.range_succ, List.foldl_append, List.foldl_cons, List.foldl_nil]
theorem w_B64 (c : BitVec 8) : IntKind.u64.wrap (B c) = U (c.setWidth 64) := by
  unfold B U
  rw [IntKind.wrap_u64, BitVec.toNat_setWidth]
  have := c.isLt
  omega
theorem w_shlv (x : BitVec 64) (s : Nat) : IntKind.u64.wrap (U x * 2 ^ s) = U (x <<< s) := by
  rw [← w_shl, Int.natCast_pow]; rfl

def xorB (p q : BitVec 64 × BitVec 64) : BitVec 64 × BitVec 64 := (p.1 ^^^ q.1, p.2 ^^^ q.2)
def partB (i : Nat) (p : BitVec 64 × BitVec 64) : BitVec 64 × BitVec 64 := xorB (mixTo 8 (p.1 ^^^ BitVec.ofNat 64 (i + 1), p.2)) p

/-- the block of at most sixteen octets -/
def blockOf (l : List (BitVec 8)) : BitVec 64 × BitVec 64 := readTo l.length l
def foldTo (n : Nat) (l : List (BitVec 8)) (p : BitVec 64 × BitVec 64) : BitVec 64 × BitVec 64 :=
  (List.range n).foldl (fun p j => mixTo 8 (xorB p (blockOf ((l.drop (16 * j)).take 16)))) p
theorem foldTo_zero (l : List (BitVec 8)) (p : BitVec 64 × BitVec 64) : foldTo 0 l p = p := by unfold foldTo; rw [List.range_zero, List.foldl_nil]
theorem foldTo_succ (n : Nat) (l : List (BitVec 8)) (p : BitVec 64 × BitVec 64) : foldTo (n + 1) l p = mixTo 8 (xorB (foldTo n l p) (blockOf ((l.drop (16 * n)).take 16))) := by
  unfold foldTo; rw [List.range_succ, List.foldl_append, List.foldl_cons, List.foldl_nil]
def foldB (l : List (BitVec 8)) (p : BitVec 64 × BitVec 64) : BitVec 64 × BitVec 64 := foldTo ((l.length + 15) / 16) l p

def octAt (p : BitVec 64 × BitVec 64) (i : Nat) : BitVec 8 := if i < 8 then (p.1 >>> (i * 8)).setWidth 8 else (p.2 >>> ((i - 8) * 8)).setWidth 8
def octs (p : BitVec 64 × BitVec 64) : List (BitVec 8) := (List.range 16).map (octAt p)
def octTo (k : Nat) (p : BitVec 64 × BitVec 64) : Array Value := ((List.range 16).map fun i => Value.int .u8 (if i < k then B (octAt p i) else 0)).toArray
theorem octTo_get (k : Nat) (p : BitVec 64 × BitVec 64) (i : Nat) : (octTo k p)[i]? = if i < 16 then some (Value.int .u8 (if i < k then B (octAt p i) else 0)) else none := by
  unfold octTo
  rw [List.getElem?_toArray, List.getElem?_map]
  by_cases h : i < 16
  · rw [List.getElem?_range h, if_pos h]; rfl
  · rw [List.getElem?_eq_none (by simp; omega), if_neg h]; rfl
theorem octTo_succ (k : Nat) (p : BitVec 64 × BitVec 64) : octTo (k + 1) p = (octTo k p).setIfInBounds k (.int .u8 (B (octAt p k))) := by
  apply Array.ext_getElem?
  intro i
  rw [Array.getElem?_setIfInBounds, octTo_get, octTo_get]
  have hz : (octTo k p).size = 16 := by simp [octTo]
  rw [hz]
  by_cases h : k = i
  · subst h
    rw [if_pos rfl]
    by_cases h2 : k < 16
    · rw [if_pos h2, if_pos h2, if_pos (by omega)]
    · rw [if_neg h2, if_neg h2]
  · rw [if_neg h]
    by_cases h2 : i < k
    · rw [if_pos h2, if_pos (by omega : i < k + 1)]
    · rw [if_neg h2, if_neg (by omega : ¬ i < k + 1)]
theorem octTo_cell (k : Nat) (p : BitVec 64 × BitVec 64) (h : k < 16) : (octTo k p)[k]? = some (.int .u8 0) := by
  simp [octTo, h]
theorem octs_length (p : BitVec 64 × BitVec 64) : (octs p).length = 16 := by simp [octs]
theorem octTo_all (p : BitVec 64 × BitVec 64) (i : Nat) (h : i < 16) : (octTo 16 p)[i]? = some (.int .u8 (B ((octs p).getD i 0))) := by
  simp [octTo, octs, h, List.getD]
theorem w_shrv (x : BitVec 64) (s : Nat) : U x / 2 ^ s = U (x >>> s) := by
  rw [← w_shr, Int.natCast_pow]; rfl
theorem w_u8 (x : BitVec 64) : IntKind.u8.wrap (U x) = B (x.setWidth 8) := by
  unfold U B
  have h : IntKind.u8.wrap (x.toNat : Int) = (x.toNat : Int) % 256 := by simp [IntKind.wrap, IntKind.bits, IntKind.signed]
  rw [h, BitVec.toNat_setWidth]
  omega

/-! a block of the heap known whole -/
def Blk (w : World) (n : Nat) (t : TypeId) (cs : Array Value) : Prop := w.heap[n]? = some (.cells cs t (0, 0))
theorem Blk.cell {w : World} {n : Nat} {t : TypeId} {cs : Array Value} (h : Blk w n t cs) (i : Nat) : w.cell? ⟨n, i, none⟩ = cs[i]? := by
  unfold Blk at h; simp [World.cell?, h]
theorem Blk.frozen {w : World} {n : Nat} {t : TypeId} {cs : Array Value} (h : Blk w n t cs) (i : Nat) : w.frozen? ⟨n, i, none⟩ = false := by
  unfold Blk at h; simp [World.frozen?, h]
theorem Blk.lt {w : World} {n : Nat} {t : TypeId} {cs : Array Value} (h : Blk w n t cs) : n < w.heap.size := (Array.getElem?_eq_some_iff.1 h).1
theorem Blk.new (w : World) (t : TypeId) (cs : Array Value) : Blk (w.alloc (.cells cs t)) w.heap.size t cs := by
  show (w.heap.push _)[w.heap.size]? = _
  simp
theorem Blk.set {w : World} {n : Nat} {t : TypeId} {cs : Array Value} (h : Blk w n t cs) (i : Nat) (u : Value) : Blk (w.setCell ⟨n, i, none⟩ u) n t (cs.setIfInBounds i u) := by
  unfold Blk at *
  simp [World.setCell, Array.getElem?_modify, h]
theorem Blk.drew {w : World} {n : Nat} {t : TypeId} {cs : Array Value} (h : Blk w n t cs) : Blk w.drew n t cs := h
theorem Blk.drewN {w : World} {n : Nat} {t : TypeId} {cs : Array Value} (h : Blk w n t cs) (q : Nat) : Blk (w.drewN q) n t cs := h
theorem Blk.below {w w' : World} {n m : Nat} {t : TypeId} {cs : Array Value} (h : Blk w n t cs) (hb : Go.RowKit.Below m w w') (hn : n < m) : Blk w' n t cs := (hb.block n hn).trans h
theorem Blk.alloc {w : World} {n : Nat} {t : TypeId} {cs : Array Value} (h : Blk w n t cs) (o : Obj) : Blk (w.alloc o) n t cs := (Go.RowKit.Below.heap_alloc w o n h.lt).trans h
theorem Blk.other {w : World} {n m i : Nat} {t : TypeId} {cs : Array Value} (h : Blk w n t cs) (u : Value) (hm : n ≠ m) : Blk (w.setCell ⟨m, i, none⟩ u) n t cs := (Go.RowKit.Below.heap_setCell w ⟨m, i, none⟩ u n hm).trans h
end Go.Proofs.Ytdaodopeodheeaa
