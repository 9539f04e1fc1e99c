/- Part 7 of what the claim leans on: QRanks, QRankR, QDiv, QRatio, QQuant. -/
import Derived.Test.YtfibkbmlgigemaaM6
import Derived.Calls
import Derived.KernelRfl
import Derived.Orders
import Derived.Laws.Sem
import Derived.Laws.CopyRow
import Derived.Laws.Cells
import Derived.Room.Entries
import Derived.Lib.Overlaps
import GoSem.Conv.BytesToString
import Derived.OrdersHeld
import Derived.ProofKit
import Derived.OpenShut
import Derived.Carry
import Derived.Shelf.SlSortCmp.InsertionK
import Derived.Test.YtfibkbmlgigemaaProg
import Derived.Shelf.SlSortCmp.WholeK
import Derived.Ground.SlsfProg
import Derived.Lib.Mul64
import Derived.Laws.Bits64b
set_option linter.unusedVariables false
set_option linter.unusedSimpArgs false
set_option maxRecDepth 100000
namespace Go.Q
open Go Go.T Go.Pl Go.Proofs Go.Proofs.Qd
def rnk (all : List Int) (v : Int) : Int := (all.map fun x => if x ≤ v then (1 : Int) else 0).sum
theorem rnk_add (all : List Int) (x v : Int) : rnk (all ++ [x]) v = rnk all v + if x ≤ v then 1 else 0 := by
  unfold rnk; simp
theorem wsum_le {g h : Int → Int} : ∀ {M : KV Int}, (∀ p ∈ M, 0 ≤ p.2 ∧ g p.1 ≤ h p.1) → wsum g M ≤ wsum h M
  | [], _ => Int.le_refl _
  | p :: M, H => by
    obtain ⟨a, b⟩ := H p (by simp)
    have := Int.mul_le_mul_of_nonneg_left b a
    have := wsum_le (g := g) (h := h) (M := M) fun q hq => H q (by simp [hq])
    rw [wsum_cons, wsum_cons]; omega
theorem wsum_plus (g h : Int → Int) : ∀ (M : KV Int), wsum (fun x => g x + h x) M = wsum g M + wsum h M
  | [] => rfl
  | p :: M => by rw [wsum_cons, wsum_cons, wsum_cons, wsum_plus g h M, Int.mul_add]; omega
theorem wsum_zero : ∀ (M : KV Int), wsum (fun _ => 0) M = 0
  | [] => rfl
  | p :: M => by rw [wsum_cons, wsum_zero M]; simp
theorem wsum_at (a : Int) : ∀ {M : KV Int}, (keys M).Nodup → wsum (fun x => if x = a then 1 else 0) M = cn M a
  | [], _ => rfl
  | (j, x) :: M, h => by
    rw [keys_cons, List.nodup_cons] at h
    rw [wsum_cons, wsum_at a h.2]
    unfold cn
    by_cases e : a = j
    · subst e
      rw [get_eq, if_pos rfl, get_out 0 h.1]; simp
    · rw [get_ne 0 e, if_neg (fun e' => e e'.symm)]; simp
def anc (w : Nat) (v : Int) (s : Nat) : Int := (((2 ^ w + v.toNat) / 2 ^ s : Nat) : Int)
def ancs (w : Nat) (v : Int) : Nat → Int → Int
  | 0, _ => 0
  | n + 1, id => ancs w v n id + if id = anc w v (n + 1) then 1 else 0
theorem ancs_nn (w : Nat) (v id : Int) : ∀ n, 0 ≤ ancs w v n id
  | 0 => Int.le_refl _
  | n + 1 => by have := ancs_nn w v id n; rw [ancs]; split <;> omega
theorem ancs_ge {w : Nat} {v id : Int} {s : Nat} (hs : 1 ≤ s) (h : id = anc w v s) : ∀ {n}, s ≤ n → 1 ≤ ancs w v n id
  | 0, h' => by omega
  | n + 1, h' => by
    rw [ancs]
    by_cases e : s = n + 1
    · subst e; rw [if_pos h]; have := ancs_nn w v id n; omega
    · have := ancs_ge hs h (n := n) (by omega)
      split <;> omega
theorem ind_anc {w x : Nat} {v : Int} (h : Nod w x) (hv : 0 ≤ v) : loInd w v x ≤ hiInd w v x + ancs w v w x := by
  have h0 := ancs_nn w v x w
  unfold loInd hiInd
  rw [Int.toNat_natCast]
  by_cases h1 : LO w x ≤ v
  · rw [if_pos h1]
    by_cases h2 : HI w x ≤ v
    · rw [if_pos h2]; omega
    · rw [if_neg h2]
      unfold LO HI at *
      obtain ⟨b1, b2, b3⟩ := h.bounds
      have hs : 1 ≤ sh w x := by
        rcases Nat.eq_zero_or_pos (sh w x) with e | e
        · rw [e] at h1 h2; simp at h1 h2; omega
        · exact e
      have : (x : Int) = anc w v (sh w x) := by
        unfold anc
        congr 1
        symm
        rw [Nat.div_eq_iff (Nat.two_pow_pos _)]
        have e : (x + 1) * 2 ^ sh w x = x * 2 ^ sh w x + 2 ^ sh w x := Nat.succ_mul _ _
        have e2 : x * 2 ^ sh w x = 2 ^ sh w x * x := Nat.mul_comm _ _
        omega
      have := ancs_ge hs this b3
      omega
  · rw [if_neg h1]
    split <;> omega
theorem Dig.width {w : Nat} {k count v : Int} {nodes : List Nd} (D : Dig w k count nodes) (hv : 0 ≤ v ∧ v < ((2 ^ w : Nat) : Int)) : wsum (loInd w v) nodes ≤ wsum (hiInd w v) nodes + w * thr count k := by
  have h1 : wsum (loInd w v) nodes ≤ wsum (fun x => hiInd w v x + ancs w v w x) nodes := wsum_le fun p hp => by
    obtain ⟨⟨x, hx, hX⟩, h1, _⟩ := D.node p hp
    rw [hx]
    exact ⟨by omega, ind_anc hX hv.1⟩
  rw [wsum_plus] at h1
  have th0 := (thr_le ⟨D.c0, D.c1⟩ D.k1).2.1
  have hcn : ∀ s, 1 ≤ s → cn nodes (anc w v s) ≤ thr count k := fun s hs => by
    by_cases hk : anc w v s ∈ keys nodes
    · refine D.inv.inner _ hk ?_
      have : (2 ^ w + v.toNat) / 2 ^ s < 2 ^ w := by
        rw [Nat.div_lt_iff_lt_mul (Nat.two_pow_pos _)]
        have : 2 ^ w * 2 ≤ 2 ^ w * 2 ^ s := Nat.mul_le_mul_left _ (by
          calc 2 = 2 ^ 1 := rfl
            _ ≤ 2 ^ s := Nat.pow_le_pow_right (by decide) hs)
        omega
      unfold anc; omega
    · rw [show cn nodes (anc w v s) = 0 from get_out 0 hk]; exact th0
  have h2 : ∀ n : Nat, wsum (ancs w v n) nodes ≤ n * thr count k := by
    intro n
    induction n with
    | zero => rw [show ancs w v 0 = fun _ => 0 from rfl, wsum_zero]; simp
    | succ n ih =>
      rw [show ancs w v (n + 1) = fun x => ancs w v n x + (if x = anc w v (n + 1) then 1 else 0) from rfl, wsum_plus, wsum_at _ D.inv.nod]
      have := hcn (n + 1) (by omega)
      have e : ((n + 1 : Nat) : Int) * thr count k = n * thr count k + thr count k := by push_cast; rw [Int.add_mul, Int.one_mul]
      omega
  have := h2 w
  omega
structure Tru (w : Nat) (k : Int) (nodes : List Nd) (all : List Int) : Prop where
  dig : Dig w k all.length nodes
  lo : ∀ v, wsum (hiInd w v) nodes ≤ rnk all v
  hi : ∀ v, rnk all v ≤ wsum (loInd w v) nodes
theorem leaf_ind {w : Nat} {v x : Int} (hw : 1 ≤ w ∧ w ≤ 20) (hx : 0 ≤ x ∧ x < ((2 ^ w : Nat) : Int)) : hiInd w v (((2 ^ w : Nat) : Int) + x) = (if x ≤ v then 1 else 0) ∧ loInd w v (((2 ^ w : Nat) : Int) + x) = (if x ≤ v then 1 else 0) := by
  have hp : 2 ^ (w + 1) = 2 * 2 ^ w := by rw [Nat.pow_succ]; omega
  have e : (((2 ^ w : Nat) : Int) + x).toNat = 2 ^ w + x.toNat := by omega
  have hb : blen (2 ^ w + x.toNat) = w + 1 := blen_of (by omega) (by omega)
  have hs : sh w (2 ^ w + x.toNat) = 0 := by unfold sh; omega
  unfold hiInd loInd HI LO
  rw [e, hs]
  simp only [Nat.pow_zero, Nat.mul_one]
  constructor
  · split <;> split <;> omega
  · split <;> split <;> omega
theorem Tru.add {w : Nat} {k x : Int} {nodes : List Nd} {all : List Int} (T : Tru w k nodes all) (hx : 0 ≤ x ∧ x < ((2 ^ w : Nat) : Int)) (hl : all.length < 1000) : Tru w k (ins nodes (((2 ^ w : Nat) : Int) + x) 1) (all ++ [x]) ∧ (ins nodes (((2 ^ w : Nat) : Int) + x) 1).length ≤ 2000 := by
  have D := T.dig
  have h1 : (nodes.length : Int) ≤ all.length := by
    have := D.inv.sum
    have h : wsum (fun _ => 1) nodes = all.length := this
    rw [← h]
    have : ∀ M : KV Int, (∀ p ∈ M, 1 ≤ p.2) → (M.length : Int) ≤ wsum (fun _ => 1) M := by
      intro M
      induction M with
      | nil => intro _; simp [wsum]
      | cons p M ih =>
        intro H
        have := ih fun q hq => H q (by simp [hq])
        have := H p (by simp)
        rw [wsum_cons, List.length_cons]; push_cast; omega
    exact this nodes fun p hp => (D.node p hp).2.1
  have h2 := len_ins (id := ((2 ^ w : Nat) : Int) + x) (n := 1) (l := nodes)
  have e : (((all ++ [x]).length : Nat) : Int) = all.length + 1 := by simp
  refine ⟨⟨?_, fun v => ?_, fun v => ?_⟩, by omega⟩
  · rw [e]; exact D.add hx (by omega) (by omega) (by omega)
  · rw [wsum_ins, rnk_add, (leaf_ind ⟨D.w1, D.w2⟩ hx).1]
    have := T.lo v; omega
  · rw [wsum_ins, rnk_add, (leaf_ind ⟨D.w1, D.w2⟩ hx).2]
    have := T.hi v; omega
theorem ind_01 (w : Nat) (v id : Int) : (0 ≤ hiInd w v id ∧ hiInd w v id ≤ 1) ∧ (0 ≤ loInd w v id ∧ loInd w v id ≤ 1) := by
  unfold hiInd loInd
  constructor
  · split <;> omega
  · split <;> omega
theorem Dig.rank {w : Nat} {k count : Int} {nodes : List Nd} (D : Dig w k count nodes) (v : Int) : (0 ≤ wsum (hiInd w v) nodes ∧ wsum (hiInd w v) nodes ≤ count) ∧ (0 ≤ wsum (loInd w v) nodes ∧ wsum (loInd w v) nodes ≤ count) := by
  have hs := D.inv.sum
  have hp : ∀ p ∈ nodes, 0 ≤ p.2 := fun p hp => by have := (D.node p hp).2.1; omega
  have z := wsum_zero nodes
  have a1 := wsum_le (g := fun _ => 0) (h := hiInd w v) (M := nodes) fun p h => ⟨hp p h, (ind_01 w v p.1).1.1⟩
  have a2 := wsum_le (g := hiInd w v) (h := fun _ => 1) (M := nodes) fun p h => ⟨hp p h, (ind_01 w v p.1).1.2⟩
  have a3 := wsum_le (g := fun _ => 0) (h := loInd w v) (M := nodes) fun p h => ⟨hp p h, (ind_01 w v p.1).2.1⟩
  have a4 := wsum_le (g := loInd w v) (h := fun _ => 1) (M := nodes) fun p h => ⟨hp p h, (ind_01 w v p.1).2.2⟩
  omega
theorem Dig.rankT {w : Nat} {k count v : Int} {nodes : List Nd} (D : Dig w k count nodes) (hv : 0 ≤ v ∧ v < ((2 ^ w : Nat) : Int)) : Q.rankT (w : Int) k count nodes v = (wsum (hiInd w v) nodes, wsum (loInd w v) nodes, 0) := by
  unfold Q.rankT
  rw [if_neg (by rw [D.check]; simp), ← ishl_shl, ishl_1 w D.w2, if_neg (by omega), Int.toNat_natCast, fold_rk]; simp
theorem imul2 {x : Nat} (h : x < 4611686018427387904) : imul .i64 2 (x : Int) = ((2 * x : Nat) : Int) := by
  have e : (2 : Int) * x = ((2 * x : Nat) : Int) := by simp
  unfold imul; rw [e]; exact wrap_id (by omega) (by omega)
theorem least_loop {w : Nat} : ∀ (n x : Nat), Nod w x → sh w x = n → iter (fun (s0 : Int) => need (ile 0 (w : Int)) <| sel (ilt s0 (ishl .i64 1 (w : Int))) (some (.inl (imul .i64 2 s0))) <| (some (.inr (.inl s0)) : Option (Int ⊕ (Int ⊕ Int)))) (x : Int) = some (.inl ((x * 2 ^ n : Nat) : Int))
  | 0, x, h, hn => by
    have h1 := h.top hn
    refine iter_r ?_
    rw [need_t (by rw [ile_d]; simp), ishl_1 w h.w2, ilt_d, sel_i, if_neg (by omega)]; simp
  | n + 1, x, h, hn => by
    obtain ⟨h1, _, h3, _, h5⟩ := h.dbl (by omega)
    have := pow21 h.w2
    refine iter_l ?_ ((least_loop n (2 * x) h1 (by omega)).trans ?_)
    · rw [need_t (by rw [ile_d]; simp), ishl_1 w h.w2, ilt_d, sel_i, if_pos (by omega), imul2 (by omega)]
    · rw [Nat.pow_succ, Nat.mul_comm 2 x, Nat.mul_assoc, Nat.mul_comm 2]
theorem great_loop {w : Nat} : ∀ (n x : Nat), Nod w x → sh w x = n → iter (fun (s0 : Int) => need (ile 0 (w : Int)) <| sel (ilt s0 (ishl .i64 1 (w : Int))) (some (.inl (iadd .i64 (imul .i64 2 s0) 1))) <| (some (.inr (.inl s0)) : Option (Int ⊕ (Int ⊕ Int)))) (x : Int) = some (.inl (((x + 1) * 2 ^ n : Nat) - 1 : Int))
  | 0, x, h, hn => by
    have h1 := h.top hn
    refine iter_r ?_
    rw [need_t (by rw [ile_d]; simp), ishl_1 w h.w2, ilt_d, sel_i, if_neg (by omega)]; simp
  | n + 1, x, h, hn => by
    obtain ⟨_, h1, _, h3, h5⟩ := h.dbl (by omega)
    have := pow21 h.w2
    refine iter_l ?_ ((great_loop n (2 * x + 1) h1 (by omega)).trans ?_)
    · rw [need_t (by rw [ile_d]; simp), ishl_1 w h.w2, ilt_d, sel_i, if_pos (by omega), imul2 (by omega), iadd_ok (by omega) (by omega)]; rfl
    · have e : (2 * x + 1 + 1) * 2 ^ n = (x + 1) * 2 ^ (n + 1) := by rw [Nat.pow_succ, Nat.mul_comm (2 ^ n) 2, ← Nat.mul_assoc]; congr 1; omega
      rw [e]
theorem F56_eq {w x : Nat} (h : Nod w x) : F56 ((w : Int), (x : Int)) = some (LO w x) := by
  unfold F56
  refine Eq.trans (join_l (least_loop _ x h rfl)) ?_
  obtain ⟨b1, b2, b3⟩ := h.bounds
  have p1 := pow21 h.w2
  have p2 : 2 ^ (w + 1) ≤ 2097152 := by rw [Nat.pow_succ]; omega
  have hm : x * 2 ^ sh w x ≤ (x + 1) * 2 ^ sh w x := Nat.mul_le_mul_right _ (by omega)
  unfold LO
  dsimp only
  generalize x * 2 ^ sh w x = A at *
  rw [need_t (by rw [ile_d]; simp), ishl_1 w h.w2, isub_s (by omega) (by omega)]
theorem F55_eq {w x : Nat} (h : Nod w x) : F55 ((w : Int), (x : Int)) = some (HI w x) := by
  unfold F55
  refine Eq.trans (join_l (great_loop _ x h rfl)) ?_
  obtain ⟨b1, b2, b3⟩ := h.bounds
  have p1 := pow21 h.w2
  have p2 : 2 ^ (w + 1) ≤ 2097152 := by rw [Nat.pow_succ]; omega
  have hm : x * 2 ^ sh w x ≤ (x + 1) * 2 ^ sh w x := Nat.mul_le_mul_right _ (by omega)
  unfold HI
  dsimp only
  generalize (x + 1) * 2 ^ sh w x = A at *
  rw [need_t (by rw [ile_d]; simp), ishl_1 w h.w2, isub_s (by omega) (by omega)]; congr 1; omega
theorem F23_eq (bits k count : Int) (nodes : List Nd) (v : Int) : F23 ((bits, k, count, nodes), v) = some (rankT bits k count nodes v) := by
  unfold F23 rankT
  rw [call_s (F21_eq bits k count nodes), ine_d, sel_i]
  by_cases h : qcheck bits k count nodes ≠ 0
  · rw [if_pos h, if_pos h]
  rw [if_neg h, if_neg h]
  obtain ⟨hb, D⟩ := dig_of (by omega : qcheck bits k count nodes = 0)
  dsimp only
  generalize bits.toNat = w at *
  subst hb
  rw [need_t (impl_t fun _ => by rw [ile_d]; simp)]
  simp only [pick_or, ilt_d, ile_d, ← Bool.decide_or, sel_i, ishl_shl]
  by_cases h2 : v < 0 ∨ shl 1 (w : Int) ≤ v
  · rw [if_pos h2, if_pos h2]
  rw [if_neg h2, if_neg h2]
  refine Eq.trans (join_of _ (iter_for nodes (fun st i => (st.1, st.2, i)) (fun s a => .inl (rkG w v s a)) (fun st => .inl st) (fun i st => (0 ≤ st.1 ∧ st.1 ≤ i * 1099511627776) ∧ (0 ≤ st.2 ∧ st.2 ≤ i * 1099511627776)) (0, 0) (by simp) ?_ ?_)) ?_
  · rintro i ⟨a, b⟩ hi hI
    have hlt : (i : Int) < nodes.length := by omega
    have hin : inL (i : Int) nodes.length = true := inL_t hi
    have hg : lget (0, 0) nodes i = nodes[i] := lget_t hi
    obtain ⟨⟨x, hx, hX⟩, hc⟩ := D.node nodes[i] (List.getElem_mem hi)
    have hlen := D.len; have hc1 := D.c1
    have hinv := rk_inv (w := w) (v := v) hI (n := nodes[i]) ⟨hc.1, by omega⟩
    dsimp only at hI hinv ⊢
    simp only [n2i_c, llen_c, i2n_c, hg, hin, need_t, hlt, if_true]
    refine ⟨?_, fun st' h => by have := Sum.inl.inj h; subst this; exact hinv⟩
    unfold rkG at hinv ⊢
    generalize nodes[i] = n at *
    dsimp only at hinv ⊢
    rw [hx] at hinv ⊢
    rw [Int.toNat_natCast] at hinv ⊢
    rw [call_s (F55_eq hX)]
    skip
    rw [iadd_ok (a := (i : Int)) (by omega) (by omega), iadd_ok (a := a) (by omega) (by omega), iadd_ok (a := b) (by omega) (by omega)]
    by_cases p : HI w x ≤ v
    · by_cases q : LO w x ≤ v
      · rw [if_pos p, join_bl, call_s (F56_eq hX), if_pos q, if_pos p, if_pos q]; rfl
      · rw [if_pos p, join_bl, call_s (F56_eq hX), if_neg q, if_pos p, if_neg q]; rfl
    · by_cases q : LO w x ≤ v
      · rw [if_neg p, join_bl, call_s (F56_eq hX), if_pos q, if_neg p, if_pos q]; rfl
      · rw [if_neg p, join_bl, call_s (F56_eq hX), if_neg q, if_neg p, if_neg q]; rfl
  · intro st hI
    simp only [n2i_c, llen_c]
    rw [if_neg (by omega)]
  · rw [fold_l]; rfl
theorem uwrap (a : Nat) : IntKind.u64.wrap (a : Int) = ((a % 18446744073709551616 : Nat) : Int) := by rw [IntKind.wrap_u64]; omega
theorem uadd (a b : Nat) : iadd .u64 (a : Int) (b : Int) = (((a + b) % 18446744073709551616 : Nat) : Int) := by
  unfold iadd; rw [← uwrap]; push_cast; rfl
theorem umul (a b : Nat) : imul .u64 (a : Int) (b : Int) = (((a * b) % 18446744073709551616 : Nat) : Int) := by
  unfold imul; rw [← uwrap]; push_cast; rfl
theorem usub {a b : Nat} (h : b ≤ a) (ha : a < 18446744073709551616) : isub .u64 (a : Int) (b : Int) = ((a - b : Nat) : Int) := by
  unfold isub; rw [IntKind.wrap_u64]; omega
theorem uquo {a : Nat} (b : Nat) (ha : a < 18446744073709551616) : iquo .u64 (a : Int) (b : Int) = ((a / b : Nat) : Int) := by
  have h : a / b ≤ a := Nat.div_le_self _ _
  have e : (a : Int).tdiv b = ((a / b : Nat) : Int) := rfl
  unfold iquo; rw [e, uwrap, Nat.mod_eq_of_lt (by omega)]
theorem urem (a b : Nat) : irem (a : Int) (b : Int) = ((a % b : Nat) : Int) := rfl
theorem uand {a : Nat} (ha : a < 18446744073709551616) : iand .u64 (a : Int) 4294967295 = ((a % 4294967296 : Nat) : Int) := by
  show IntKind.u64.wrap ((BitVec.ofInt 64 (a : Int) &&& BitVec.ofInt 64 ((4294967295 : Nat) : Int)).toNat : Int) = _
  rw [BitVec.ofInt_natCast, BitVec.ofInt_natCast, BitVec.toNat_and, BitVec.toNat_ofNat, BitVec.toNat_ofNat, Nat.mod_eq_of_lt (by omega), show 4294967295 % 2 ^ 64 = 2 ^ 32 - 1 from rfl, Nat.and_two_pow_sub_one_eq_mod, uwrap, Nat.mod_eq_of_lt (by omega)]
theorem uor {a b s : Nat} (hb : b < 2 ^ s) (h : a * 2 ^ s + b < 18446744073709551616) : ior .u64 ((a * 2 ^ s : Nat) : Int) (b : Int) = ((a * 2 ^ s + b : Nat) : Int) := by
  show IntKind.u64.wrap ((BitVec.ofInt 64 ((a * 2 ^ s : Nat) : Int) ||| BitVec.ofInt 64 (b : Int)).toNat : Int) = _
  rw [BitVec.ofInt_natCast, BitVec.ofInt_natCast, BitVec.toNat_or, BitVec.toNat_ofNat, BitVec.toNat_ofNat, Nat.mod_eq_of_lt (by omega), Nat.mod_eq_of_lt (by omega), Nat.mul_comm, ← Nat.two_pow_add_eq_or_of_lt hb, uwrap, Nat.mod_eq_of_lt (by rw [Nat.mul_comm]; exact h)]
theorem ushl {a s : Nat} (hs : s ≤ 64) : ishl .u64 (a : Int) (s : Int) = (((a * 2 ^ s) % 18446744073709551616 : Nat) : Int) := by
  unfold ishl
  rw [Int.toNat_natCast, show IntKind.u64.bits = 64 from rfl, Nat.min_eq_left hs, ← uwrap]; push_cast; rfl
theorem F83_eq {x y : Nat} (hx : x < 18446744073709551616) (hy : y < 18446744073709551616) : F83 ((x : Int), (y : Int)) = some (((x * y / 18446744073709551616 : Nat) : Int), ((x * y % 18446744073709551616 : Nat) : Int)) := by
  obtain ⟨h1, h2, h3, h4⟩ := Go.Lib.mul64_hi x y hx hy
  have s32 : ∀ a : Nat, ishr .u64 (a : Int) 32 = ((a / 4294967296 : Nat) : Int) := fun a => ishr_u a 32 (by omega)
  unfold F83
  have z : (ile 0 32) = true := rfl
  simp only [z, need_t, s32, uand hx, uand hy, umul]
  rw [Nat.mod_eq_of_lt h1]
  have m1 : x / 4294967296 * (y % 4294967296) < 18446744073709551616 := by omega
  simp only [Nat.mod_eq_of_lt m1, s32, uadd, Nat.mod_eq_of_lt h2, uand h2]
  have m2 : x % 4294967296 * (y / 4294967296) < 18446744073709551616 := by omega
  have m3 : x / 4294967296 * (y / 4294967296) < 18446744073709551616 := by
    have := Go.Lib.half_mul_le (a := x / 4294967296) (b := y / 4294967296) (by omega) (by omega); omega
  simp only [Nat.mod_eq_of_lt m2, Nat.mod_eq_of_lt h3, s32, Nat.mod_eq_of_lt m3]
  have hxy : x * y / 18446744073709551616 < 18446744073709551616 := by
    rw [Nat.div_lt_iff_lt_mul (by decide)]
    exact Nat.lt_of_le_of_lt (Nat.mul_le_mul (Nat.le_of_lt_succ (n := 18446744073709551615) (by omega)) (Nat.le_of_lt_succ (n := 18446744073709551615) (by omega))) (by decide)
  have m4 : x / 4294967296 * (y / 4294967296) + (x / 4294967296 * (y % 4294967296) + x % 4294967296 * (y % 4294967296) / 4294967296) / 4294967296 < 18446744073709551616 := by omega
  simp only [Nat.mod_eq_of_lt m4, h4, Nat.mod_eq_of_lt hxy]
theorem dv_loop {S R : Type} {body : S → Option (S ⊕ (Int ⊕ R))} (en : Nat → Nat → S) {U d y1 y0 Y T : Nat} (hYd : y1 * 4294967296 + y0 = Y) (hT : (U * 4294967296 + d) / Y = T) (h0 : y0 < 4294967296) (h1 : 0 < y1) (h1' : y1 < 4294967296) (hd : d < 4294967296) (hU : U < Y)
    (hb : ∀ q r, q < 18446744073709551616 → r < 4294967296 → body (en q r) = some (if 4294967296 ≤ q ∨ 4294967296 * r + d < q * y0 then (if 4294967296 ≤ r + y1 then .inr (.inl ((q - 1 : Nat) : Int)) else .inl (en (q - 1) (r + y1))) else .inr (.inl (q : Int)))) :
    ∀ q r, q < 18446744073709551616 → r < 4294967296 → q * y1 + r = U → T ≤ q → iter body (en q r) = some (.inl (T : Int)) := by
  have hY : 0 < Y := by omega
  have hT1 : T * Y ≤ U * 4294967296 + d := by rw [← hT]; exact Nat.div_mul_le_self _ _
  have hT2 : U * 4294967296 + d < (T + 1) * Y := by
    have a := Nat.div_add_mod' (U * 4294967296 + d) Y
    have b := Nat.mod_lt (U * 4294967296 + d) hY
    have c : (T + 1) * Y = T * Y + 1 * Y := Nat.add_mul _ _ _
    rw [hT] at a; omega
  have key : ∀ q r, q * y1 + r = U → q * Y + r * 4294967296 = U * 4294967296 + q * y0 := fun q r h => by
    have e1 : q * Y = q * y1 * 4294967296 + q * y0 := (congrArg (q * ·) hYd.symm).trans ((Nat.mul_add q _ y0).trans (congrArg (· + q * y0) (Nat.mul_assoc q y1 _).symm))
    have e2 : U * 4294967296 = q * y1 * 4294967296 + r * 4294967296 := (congrArg (· * 4294967296) h.symm).trans (Nat.add_mul _ _ _)
    omega
  have hTB : T < 4294967296 := by
    rw [← hT, Nat.div_lt_iff_lt_mul hY]
    have : U * 4294967296 + 4294967296 ≤ Y * 4294967296 := by omega
    have e : 4294967296 * Y = Y * 4294967296 := Nat.mul_comm _ _
    omega
  have mono : ∀ a b, a ≤ b → a * Y ≤ b * Y := fun a b h => Nat.mul_le_mul_right _ h
  intro q
  induction q with
  | zero =>
    intro r _ hr hU1 hTq
    have : T = 0 := by omega
    subst this
    refine iter_r ((hb 0 r (by decide) hr).trans ?_)
    rw [if_neg (by omega)]
  | succ q ih =>
    intro r hq hr hU1 hTq
    have k1 := key (q + 1) r hU1
    by_cases c : 4294967296 ≤ q + 1 ∨ 4294967296 * r + d < (q + 1) * y0
    · have hlt : T ≤ q := by
        rcases c with c | c
        · omega
        · rcases Nat.lt_or_ge q T with h | h
          · have := mono (q + 1) T (by omega); omega
          · exact h
      have e : q * y1 + (r + y1) = U := by rw [← hU1, Nat.add_mul]; omega
      by_cases g : 4294967296 ≤ r + y1
      · refine iter_r ((hb (q + 1) r hq hr).trans ?_)
        rw [if_pos c, if_pos g, Nat.add_sub_cancel]
        have k2 := key q (r + y1) e
        have hqB : q < 4294967296 := by
          rcases Nat.lt_or_ge q 4294967296 with h | h
          · exact h
          · have := Nat.mul_le_mul_right y1 h
            omega
        have hqy : q * y0 ≤ 4294967295 * 4294967295 := Nat.mul_le_mul (by omega) (by omega)
        have : q ≤ T := by
          rcases Nat.lt_or_ge T q with h | h
          · have := mono (T + 1) q h; omega
          · exact h
        have : q = T := by omega
        rw [this]
      · refine iter_l (s' := en q (r + y1)) ((hb (q + 1) r hq hr).trans ?_) (ih (r + y1) (by omega) (by omega) e hlt)
        rw [if_pos c, if_neg g, Nat.add_sub_cancel]
    · refine iter_r ((hb (q + 1) r hq hr).trans ?_)
      rw [if_neg c]
      have : q + 1 ≤ T := by
        rcases Nat.lt_or_ge T (q + 1) with h | h
        · have := mono (T + 1) (q + 1) h; omega
        · exact h
      have : q + 1 = T := by omega
      rw [this]
theorem F109_eq {x : Nat} (hx : x < 18446744073709551616) : F109 (x : Int) = some ((64 - blen x : Nat) : Int) := by
  have hb : blen x ≤ 64 := by
    rcases Nat.eq_zero_or_pos x with h | h
    · subst h; decide
    · obtain ⟨h1, h2, _⟩ := blen_pos h
      rcases Nat.lt_or_ge 64 (blen x) with g | g
      · have : 2 ^ 64 ≤ 2 ^ (blen x - 1) := Nat.pow_le_pow_right (by decide) (by omega)
        omega
      · exact g
  unfold F109
  rw [call_s (F105_eq x hx), isub_s (by omega) (by omega)]
  congr 1; omega
theorem dv_fin {U l1 l0 Y q V : Nat} (h : q * Y + V = U * 4294967296 + l1) (hY : 0 < Y) : (U * 18446744073709551616 + (l1 * 4294967296 + l0)) / Y = (V * 4294967296 + l0) / Y + q * 4294967296 ∧ (U * 18446744073709551616 + (l1 * 4294967296 + l0)) % Y = (V * 4294967296 + l0) % Y := by
  have hN : U * 18446744073709551616 + (l1 * 4294967296 + l0) = (V * 4294967296 + l0) + q * 4294967296 * Y := by
    have e : q * 4294967296 * Y = q * Y * 4294967296 := Nat.mul_right_comm _ _ _
    generalize q * Y = P at h e
    generalize q * 4294967296 * Y = R at e ⊢
    omega
  rw [hN]
  exact ⟨Nat.add_mul_div_right _ _ hY, Nat.add_mul_mod_self_right _ _ _⟩
theorem dv_digit {V d Y q r : Nat} (h : q * Y + r = V * 4294967296 + d) (hr : r < Y) (hY : Y < 18446744073709551616) : isub .u64 (iadd .u64 (imul .u64 (V : Int) 4294967296) (d : Int)) (imul .u64 (q : Int) (Y : Int)) = (r : Int) := by
  have e4 : imul .u64 (V : Int) 4294967296 = ((V * 4294967296 % 18446744073709551616 : Nat) : Int) := umul V 4294967296
  rw [e4, umul, uadd]
  generalize q * Y = P at h ⊢
  unfold isub; rw [IntKind.wrap_u64]
  omega
theorem dv_start {V d Y y1 y0 : Nat} (hYd : y1 * 4294967296 + y0 = Y) (h1 : 2147483648 ≤ y1) (h1' : y1 < 4294967296) (hV : V < Y) (hY : Y < 18446744073709551616) (hd : d < 4294967296) :
    V / y1 < 18446744073709551616 ∧ V - V / y1 * y1 < 4294967296 ∧ V / y1 * y1 + (V - V / y1 * y1) = V ∧ (V * 4294967296 + d) / Y ≤ V / y1 ∧ isub .u64 (V : Int) (imul .u64 ((V / y1 : Nat) : Int) (y1 : Int)) = ((V - V / y1 * y1 : Nat) : Int) := by
  have a := Nat.div_add_mod' V y1
  have b := Nat.mod_lt V (show 0 < y1 by omega)
  have c := Nat.div_le_self V y1
  have g : (V * 4294967296 + d) / Y < V / y1 + 1 := by
    rw [Nat.div_lt_iff_lt_mul (by omega)]
    generalize V / y1 = q at *
    have e1 : (q + 1) * Y = (q + 1) * y1 * 4294967296 + (q + 1) * y0 := (congrArg ((q + 1) * ·) hYd.symm).trans ((Nat.mul_add (q + 1) _ y0).trans (congrArg (· + (q + 1) * y0) (Nat.mul_assoc (q + 1) y1 _).symm))
    have e2 : (q + 1) * y1 = q * y1 + 1 * y1 := Nat.add_mul _ _ _
    generalize (q + 1) * Y = A at *
    generalize (q + 1) * y0 = B at *
    generalize (q + 1) * y1 = C at *
    generalize q * y1 = D at *
    omega
  have hlt : V / y1 * y1 ≤ V := by omega
  refine ⟨by omega, by omega, by omega, by omega, ?_⟩
  rw [umul, Nat.mod_eq_of_lt (by omega), usub hlt (by omega)]
theorem dv_cond {q r d y0 : Nat} (h0 : y0 < 4294967296) (hq : q < 18446744073709551616) (hr : r < 4294967296) (hd : d < 4294967296) : pickV (ile 4294967296 (q : Int)) true (ilt (iadd .u64 (imul .u64 4294967296 (r : Int)) (d : Int)) (imul .u64 (q : Int) (y0 : Int))) = decide (4294967296 ≤ q ∨ 4294967296 * r + d < q * y0) := by
  rw [pick_or, ile_d, ilt_d]
  by_cases c : 4294967296 ≤ q
  · have : (4294967296 : Int) ≤ (q : Int) := by omega
    simp [c, this]
  · have : ¬ (4294967296 : Int) ≤ (q : Int) := by omega
    have hqy : q * y0 ≤ 4294967295 * 4294967295 := Nat.mul_le_mul (by omega) (by omega)
    have e4 : imul .u64 4294967296 (r : Int) = ((4294967296 * r : Nat) : Int) := by
      have := umul 4294967296 r
      rw [Nat.mod_eq_of_lt (by omega)] at this; exact this
    rw [e4, uadd, umul, Nat.mod_eq_of_lt (by omega), Nat.mod_eq_of_lt (by omega)]
    simp only [this, decide_false, Bool.false_or, c, false_or]
    congr 1
    generalize q * y0 = P at *
    exact propext ⟨fun h => by omega, fun h => by omega⟩
theorem F84_eq {hi lo y : Nat} (hh : hi < y) (hl : lo < 18446744073709551616) (hy : y < 18446744073709551616) : F84 ((hi : Int), (lo : Int), (y : Int)) = some ((((hi * 18446744073709551616 + lo) / y : Nat) : Int), (((hi * 18446744073709551616 + lo) % y : Nat) : Int)) := by
  have hy0 : 0 < y := by omega
  unfold F84
  dsimp only
  rw [ieq_d, sel_f (by simp; omega), join_bl, ile_d, sel_f (by simp; omega), join_bl, ieq_d]
  have ny : ine (y : Int) 0 = true := by rw [ine_d]; simp; omega
  by_cases g : hi = 0
  · subst g
    rw [sel_t (by simp), need_t ny, need_t ny, uquo _ hl, urem]; simp
  rw [sel_f (by simp; omega), call_s (F109_eq hy)]
  obtain ⟨b1, b2, b3⟩ := blen_pos hy0
  have hb : blen y ≤ 64 := by
    rcases Nat.lt_or_ge 64 (blen y) with g | g
    · have : 2 ^ 64 ≤ 2 ^ (blen y - 1) := Nat.pow_le_pow_right (by decide) (by omega)
      omega
    · exact g
  generalize hs : 64 - blen y = s
  have hs64 : s ≤ 63 := by omega
  have ew : iwrap .u64 (s : Int) = (s : Int) := by unfold iwrap; rw [uwrap, Nat.mod_eq_of_lt (by omega)]
  rw [ew]
  have p64 : 2 ^ s * 2 ^ (64 - s) = 18446744073709551616 := by rw [← Nat.pow_add, show s + (64 - s) = 64 by omega]
  have hps := Nat.two_pow_pos s
  have hpt := Nat.two_pow_pos (64 - s)
  have hYlt : y * 2 ^ s < 18446744073709551616 := by
    have : y * 2 ^ s < 2 ^ blen y * 2 ^ s := Nat.mul_lt_mul_of_pos_right b3 hps
    rw [← Nat.pow_add, show blen y + s = 64 by omega] at this; exact this
  have hYge : 9223372036854775808 ≤ y * 2 ^ s := by
    have : 2 ^ (blen y - 1) * 2 ^ s ≤ y * 2 ^ s := Nat.mul_le_mul_right _ b2
    rw [← Nat.pow_add, show blen y - 1 + s = 63 by omega] at this; exact this
  have eY : ishl .u64 (y : Int) (s : Int) = ((y * 2 ^ s : Nat) : Int) := by rw [ushl (by omega), Nat.mod_eq_of_lt hYlt]
  have hlq : lo / 2 ^ (64 - s) < 2 ^ s := by rw [Nat.div_lt_iff_lt_mul hpt, p64]; exact hl
  have hdiv : lo * 2 ^ s / 18446744073709551616 = lo / 2 ^ (64 - s) := by
    rw [← p64, Nat.mul_comm (2 ^ s), Nat.mul_div_mul_right _ _ hps]
  have hsum : (hi * 2 ^ s + lo / 2 ^ (64 - s)) * 18446744073709551616 + lo * 2 ^ s % 18446744073709551616 = (hi * 18446744073709551616 + lo) * 2 ^ s := by
    have := Nat.div_add_mod (lo * 2 ^ s) 18446744073709551616
    rw [hdiv] at this
    rw [Nat.add_mul, Nat.add_mul, Nat.mul_right_comm]
    omega
  have hU : hi * 2 ^ s + lo / 2 ^ (64 - s) < y * 2 ^ s := by
    have : (hi + 1) * 2 ^ s ≤ y * 2 ^ s := Nat.mul_le_mul_right _ hh
    rw [Nat.add_mul] at this; omega
  have e64 : isub .u64 64 (s : Int) = ((64 - s : Nat) : Int) := usub (a := 64) (by omega) (by decide)
  have eU : ior .u64 (ishl .u64 (hi : Int) (s : Int)) (ishr .u64 (lo : Int) (isub .u64 64 (s : Int))) = ((hi * 2 ^ s + lo / 2 ^ (64 - s) : Nat) : Int) := by
    rw [e64, ishr_u _ _ (by omega), ushl (by omega), Nat.mod_eq_of_lt (by omega)]
    exact uor hlq (by omega)
  have eL : ishl .u64 (lo : Int) (s : Int) = ((lo * 2 ^ s % 18446744073709551616 : Nat) : Int) := ushl (by omega)
  have hL : lo * 2 ^ s % 18446744073709551616 < 18446744073709551616 := Nat.mod_lt _ (by decide)
  rw [eU, eY, eL]
  have hmul : (hi * 18446744073709551616 + lo) * 2 ^ s / (y * 2 ^ s) = (hi * 18446744073709551616 + lo) / y := Nat.mul_div_mul_right _ _ hps
  have hmod : (hi * 18446744073709551616 + lo) * 2 ^ s % (y * 2 ^ s) = (hi * 18446744073709551616 + lo) % y * 2 ^ s := Nat.mul_mod_mul_right _ _ _
  have hrem : (hi * 18446744073709551616 + lo) % y * 2 ^ s / 2 ^ s = (hi * 18446744073709551616 + lo) % y := Nat.mul_div_cancel _ hps
  have hqlt : (hi * 18446744073709551616 + lo) / y < 18446744073709551616 := by
    rw [Nat.div_lt_iff_lt_mul hy0]
    have : (hi + 1) * 18446744073709551616 ≤ y * 18446744073709551616 := Nat.mul_le_mul_right _ hh
    have e : 18446744073709551616 * y = y * 18446744073709551616 := Nat.mul_comm _ _
    omega
  rw [← hmul] at hqlt ⊢
  rw [← hrem, ← hmod, ← hsum] at ⊢
  rw [← hsum] at hqlt
  generalize y * 2 ^ s = Y at *
  generalize hi * 2 ^ s + lo / 2 ^ (64 - s) = U at *
  generalize lo * 2 ^ s % 18446744073709551616 = L at *
  clear hmul hmod hrem hsum hdiv hlq eU eL eY
  have s32 : ∀ a : Nat, ishr .u64 (a : Int) 32 = ((a / 4294967296 : Nat) : Int) := fun a => ishr_u a 32 (by omega)
  rw [s32, s32, uand hYlt, uand hL]
  have hYd : Y / 4294967296 * 4294967296 + Y % 4294967296 = Y := Nat.div_add_mod' _ _
  have hY0 : Y % 4294967296 < 4294967296 := Nat.mod_lt _ (by decide)
  have hY1 : 2147483648 ≤ Y / 4294967296 := by omega
  have hY1' : Y / 4294967296 < 4294967296 := by omega
  have hLd : L / 4294967296 * 4294967296 + L % 4294967296 = L := Nat.div_add_mod' _ _
  have hL0 : L % 4294967296 < 4294967296 := Nat.mod_lt _ (by decide)
  have hL1 : L / 4294967296 < 4294967296 := by omega
  generalize hy1 : Y / 4294967296 = y1 at *
  generalize hy0d : Y % 4294967296 = y0 at *
  generalize L / 4294967296 = l1 at *
  generalize L % 4294967296 = l0 at *
  have t64 : ile 0 (isub .u64 64 (s : Int)) = true := by rw [e64, ile_d]; simp
  have n1 : ine (y1 : Int) 0 = true := by rw [ine_d]; simp; omega
  have t32 : ile 0 32 = true := rfl
  have ts : ile 0 (s : Int) = true := by rw [ile_d]; simp
  rw [need_t ts, need_t t32, need_t ts, need_t t64, need_t ts, need_t t32, need_t n1]
  have step : ∀ q r : Nat, q < 18446744073709551616 → r < 4294967296 → 1 ≤ q → isub .u64 (q : Int) 1 = ((q - 1 : Nat) : Int) ∧ iadd .u64 (r : Int) (y1 : Int) = ((r + y1 : Nat) : Int) := fun q r hq hr h1 => ⟨usub (b := 1) h1 hq, by rw [uadd, Nat.mod_eq_of_lt (by omega)]⟩
  have qpos : ∀ q r d : Nat, 4294967296 ≤ q ∨ 4294967296 * r + d < q * y0 → 1 ≤ q := fun q r d c => by
    rcases Nat.eq_zero_or_pos q with h | h
    · subst h; omega
    · exact h
  have d1 := dv_start (d := l1) hYd hY1 hY1' hU hYlt hL1
  obtain ⟨q1, hq1⟩ : ∃ q, (U * 4294967296 + l1) / Y = q := ⟨_, rfl⟩
  obtain ⟨V, hV⟩ : ∃ v, (U * 4294967296 + l1) % Y = v := ⟨_, rfl⟩
  have hYp : 0 < Y := by omega
  have m1 := Nat.div_add_mod' (U * 4294967296 + l1) Y
  have m2 := Nat.mod_lt (U * 4294967296 + l1) hYp
  rw [hq1, hV] at m1
  rw [hV] at m2
  have d2 := dv_start (d := l0) hYd hY1 hY1' m2 hYlt hL0
  obtain ⟨f1, f2⟩ := dv_fin (l0 := l0) m1 hYp
  rw [hLd] at f1 f2
  rw [f1] at hqlt
  rw [f1, f2]
  obtain ⟨q0, hq0⟩ : ∃ q, (V * 4294967296 + l0) / Y = q := ⟨_, rfl⟩
  obtain ⟨W, hW⟩ : ∃ v, (V * 4294967296 + l0) % Y = v := ⟨_, rfl⟩
  have m3 := Nat.div_add_mod' (V * 4294967296 + l0) Y
  have m4 := Nat.mod_lt (V * 4294967296 + l0) hYp
  rw [hq0, hW] at m3
  rw [hW] at m4
  rw [hq0] at hqlt d2
  rw [hq0, hW]
  rw [hq1] at d1
  rw [uquo (a := U) y1 (by omega), d1.2.2.2.2]
  refine Eq.trans (join_l (dv_loop (fun q r => ((q : Int), (r : Int))) (U := U) (d := l1) (y1 := y1) (y0 := y0) hYd hq1 hY0 (by omega) hY1' hL1 hU (fun q r hq hr => ?_) _ _ d1.1 d1.2.1 d1.2.2.1 d1.2.2.2.1)) ?_
  · dsimp only
    rw [dv_cond hY0 hq hr hL1, sel_i]
    by_cases c : 4294967296 ≤ q ∨ 4294967296 * r + l1 < q * y0
    · obtain ⟨a1, a2⟩ := step q r hq hr (qpos q r l1 c)
      rw [if_pos c, if_pos c, a1, a2, ile_d, sel_i]
      by_cases g : 4294967296 ≤ r + y1
      · rw [if_pos (by omega), if_pos g]
      · rw [if_neg (by omega), if_neg g]
    · rw [if_neg c, if_neg c]
  rw [need_t n1, dv_digit m1 m2 hYlt, uquo (a := V) y1 (by omega), d2.2.2.2.2]
  refine Eq.trans (join_l (dv_loop (fun q r => ((r : Int), (q : Int))) (U := V) (d := l0) (y1 := y1) (y0 := y0) hYd hq0 hY0 (by omega) hY1' hL0 m2 (fun q r hq hr => ?_) _ _ d2.1 d2.2.1 d2.2.2.1 d2.2.2.2.1)) ?_
  · dsimp only
    rw [dv_cond hY0 hq hr hL0, sel_i]
    by_cases c : 4294967296 ≤ q ∨ 4294967296 * r + l0 < q * y0
    · obtain ⟨a1, a2⟩ := step q r hq hr (qpos q r l0 c)
      rw [if_pos c, if_pos c, a1, a2, ile_d, sel_i]
      by_cases g : 4294967296 ≤ r + y1
      · rw [if_pos (by omega), if_pos g]
      · rw [if_neg (by omega), if_neg g]
    · rw [if_neg c, if_neg c]
  have e4 : imul .u64 (q1 : Int) 4294967296 = ((q1 * 4294967296 : Nat) : Int) := by
    have := umul q1 4294967296
    rw [Nat.mod_eq_of_lt (by omega)] at this; exact this
  rw [need_t ts, dv_digit m3 m4 hYlt, ishr_u _ _ (by omega), e4, uadd, Nat.mod_eq_of_lt (by omega), Nat.add_comm]
theorem gcd_loop {R : Type} {body : Int × Int → Option ((Int × Int) ⊕ (Int ⊕ R))} (hb : ∀ a b : Nat, a < 18446744073709551616 → b < 18446744073709551616 → body ((a : Int), (b : Int)) = some (if b = 0 then .inr (.inl (a : Int)) else .inl ((b : Int), ((a % b : Nat) : Int)))) :
    ∀ b a : Nat, a < 18446744073709551616 → b < 18446744073709551616 → iter body ((a : Int), (b : Int)) = some (.inl ((Nat.gcd a b : Nat) : Int)) := by
  intro b
  induction b using Nat.strongRecOn with
  | _ b ih =>
  intro a ha hb'
  by_cases h : b = 0
  · subst h
    refine iter_r ((hb a 0 ha hb').trans ?_)
    rw [if_pos rfl, Nat.gcd_zero_right]
  · have hm := Nat.mod_lt a (Nat.pos_of_ne_zero h)
    refine iter_l (s' := ((b : Int), ((a % b : Nat) : Int))) ((hb a b ha hb').trans (by rw [if_neg h])) ?_
    rw [ih (a % b) hm b hb' (by omega), Nat.gcd_comm a b, Nat.gcd_rec b a, Nat.gcd_comm]
theorem F81_eq {a b : Nat} (ha : a < 18446744073709551616) (hb : b < 18446744073709551616) : F81 ((a : Int), (b : Int)) = some ((Nat.gcd a b : Nat) : Int) := by
  unfold F81
  refine Eq.trans (join_l (gcd_loop (fun a b ha hb => ?_) b a ha hb)) rfl
  dsimp only
  rw [ine_d]
  by_cases h : b = 0
  · subst h; rw [sel_f (by simp), if_pos rfl]
  · rw [sel_t (by simp; omega), need_t (by simp; omega), if_neg h, urem]
theorem F68_eq {a b : Nat} (ha : a < 18446744073709551616) (hb : b < 18446744073709551616) : F68 ((a : Int), (b : Int)) = some ((Nat.gcd a b : Nat) : Int) := by
  unfold F68
  refine Eq.trans (join_l (gcd_loop (fun a b ha hb => ?_) b a ha hb)) rfl
  dsimp only
  rw [ine_d, ilt_d]
  by_cases h : b = 0
  · subst h; rw [sel_f (by simp), if_pos rfl]
  · rw [sel_t (by simp; omega), need_t (by simp; omega), if_neg h, urem]
theorem F69_eq {x : Int} (h : -9223372036854775808 < x ∧ x < 9223372036854775808) : F69 x = some (x.natAbs : Int) := by
  unfold F69
  rw [ilt_d, sel_i]
  by_cases c : x < 0
  · rw [if_pos c]
    have : ineg .i64 x = (x.natAbs : Int) := (wrap_id (x := 0 - x) (by omega) (by omega)).trans (by omega)
    rw [this]
  · rw [if_neg c]; congr 1; omega
theorem F82_eq {x : Int} (h : -9223372036854775808 < x ∧ x < 9223372036854775808) : F82 x = some (x.natAbs : Int) := by
  unfold F82
  rw [ilt_d, sel_i]
  by_cases c : x < 0
  · rw [if_pos c]
    unfold ineg iwrap
    rw [IntKind.wrap_u64, IntKind.wrap_u64]
    congr 1; omega
  · rw [if_neg c]
    unfold iwrap
    rw [IntKind.wrap_u64]
    congr 1; omega
def rchk (n d : Int) : Int := if d < 1 ∨ 1152921504606846976 < d ∨ n < -1152921504606846976 ∨ 1152921504606846976 < n then 1 else if Nat.gcd n.natAbs d.toNat ≠ 1 then 1 else 0
theorem F57_eq (n d : Int) : F57 (n, d) = some (rchk n d) := by
  unfold F57 rchk
  simp only [pick_or, ilt_d, ← Bool.decide_or, sel_i]
  by_cases h1 : d < 1 ∨ 1152921504606846976 < d
  · rw [if_pos h1, if_pos (by omega)]
  rw [if_neg h1]
  by_cases h2 : n < -1152921504606846976 ∨ 1152921504606846976 < n
  · rw [if_pos h2, if_pos (by omega)]
  have ed : iwrap .u64 d = ((d.toNat : Nat) : Int) := by
    unfold iwrap
    rw [IntKind.wrap_u64]
    omega
  rw [if_neg h2, if_neg (by omega), call_s (F82_eq (by omega)), ed, call_s (F81_eq (by omega) (by omega)), ine_d, sel_i]
  by_cases g : Nat.gcd n.natAbs d.toNat = 1
  · rw [if_neg (by omega), if_neg (by omega)]
  · rw [if_pos (by omega), if_pos g]
theorem F35_eq (n d : Int) : F35 (n, d) = some (rchk n d) := by
  unfold F35 rchk
  simp only [pick_or, ilt_d, ← Bool.decide_or]
  have hc : (((d < 1 ∨ 1152921504606846976 < d) ∨ n < -1152921504606846976) ∨ 1152921504606846976 < n) ↔ (d < 1 ∨ 1152921504606846976 < d ∨ n < -1152921504606846976 ∨ 1152921504606846976 < n) := by simp only [or_assoc]
  simp only [hc]
  by_cases h1 : d < 1 ∨ 1152921504606846976 < d ∨ n < -1152921504606846976 ∨ 1152921504606846976 < n
  · rw [if_pos h1]
    simp only [decide_eq_true h1]
    rw [sel_f (show bnot true = false from rfl), call_b, sel_f (show bnot true = false from rfl), call_b, sel_t (by simp)]
  · rw [if_neg h1]
    simp only [decide_eq_false h1]
    have ed : d = ((d.toNat : Nat) : Int) := by omega
    rw [sel_t (show bnot false = true from rfl), call_s (F69_eq (by omega)), sel_t (show bnot false = true from rfl), ed, call_s (F68_eq (by omega) (by omega)), ← ed, ine_d, Bool.false_or, sel_i]
    by_cases g : Nat.gcd n.natAbs d.toNat = 1
    · rw [if_neg (by omega), if_neg (by omega)]
    · rw [if_pos (by omega), if_pos g]
theorem rchk_ok {n d : Int} (h : rchk n d = 0) : (1 ≤ d ∧ d ≤ 1152921504606846976) ∧ (-1152921504606846976 ≤ n ∧ n ≤ 1152921504606846976) ∧ Nat.gcd n.natAbs d.toNat = 1 := by
  unfold rchk at h
  split at h
  · cases h
  · split at h
    · cases h
    · omega
def wd (z : Int) : Int × (Int × Int) := (z.sign, ((z.natAbs / 1152921504606846976 : Nat) : Int), ((z.natAbs % 1152921504606846976 : Nat) : Int))
theorem split30 (x y : Nat) : ∀ a b c d P : Nat, x = a * P + b → y = c * P + d → x * y = a * c * (P * P) + (a * d + b * c) * P + b * d := by
  rintro a b c d P rfl rfl
  rw [Nat.add_mul, Nat.mul_add, Nat.mul_add, Nat.mul_mul_mul_comm, Nat.mul_right_comm a P d, ← Nat.mul_assoc b c P, Nat.add_mul]
  omega
theorem i64q {a b : Nat} (ha : a < 9223372036854775808) : iquo .i64 (a : Int) (b : Int) = ((a / b : Nat) : Int) := by
  have h : a / b ≤ a := Nat.div_le_self _ _
  have e : (a : Int).tdiv b = ((a / b : Nat) : Int) := rfl
  unfold iquo; rw [e]
  generalize a / b = q at h ⊢
  exact wrap_id (by omega) (by omega)
theorem i64m {a b : Nat} (h : a * b < 9223372036854775808) : imul .i64 (a : Int) (b : Int) = ((a * b : Nat) : Int) := by
  unfold imul
  rw [← Int.natCast_mul]
  exact wrap_id (by omega) (by omega)
theorem i64a {a b : Nat} (h : a + b < 9223372036854775808) : iadd .i64 (a : Int) (b : Int) = ((a + b : Nat) : Int) := by
  unfold iadd
  rw [← Int.natCast_add]
  exact wrap_id (by omega) (by omega)
theorem F74_eq {x y : Int} (hx : x.natAbs ≤ 1152921504606846976) (hy : y.natAbs ≤ 1152921504606846976) : F74 (x, y) = some (wd (x * y)) := by
  unfold F74
  rw [pick_or, ieq_d, ieq_d, ← Bool.decide_or, sel_i]
  by_cases h0 : x = 0 ∨ y = 0
  · rw [if_pos h0]
    have : x * y = 0 := by rcases h0 with rfl | rfl <;> simp
    rw [this]; rfl
  rw [if_neg h0]
  have hs : (sel (bnot (beq (ilt x 0) (ilt y 0))) (some (.inl (-1 : Int))) (some (.inl 1)) : Option (Int ⊕ (Int × (Int × Int)))) = some (.inl (x * y).sign) := by
    rw [Int.sign_mul]
    by_cases a : x < 0
    · by_cases b : y < 0
      · rw [sel_f (by simp [beq, bnot, ilt_d, a, b]), Int.sign_eq_neg_one_of_neg a, Int.sign_eq_neg_one_of_neg b]; rfl
      · rw [sel_t (by simp [beq, bnot, ilt_d, a, b]), Int.sign_eq_neg_one_of_neg a, Int.sign_eq_one_of_pos (by omega)]; rfl
    · by_cases b : y < 0
      · rw [sel_t (by simp [beq, bnot, ilt_d, a, b]), Int.sign_eq_one_of_pos (by omega), Int.sign_eq_neg_one_of_neg b]; rfl
      · rw [sel_f (by simp [beq, bnot, ilt_d, a, b]), Int.sign_eq_one_of_pos (by omega), Int.sign_eq_one_of_pos (by omega)]; rfl
  rw [hs, join_bl, call_s (F69_eq (by omega)), call_s (F69_eq (by omega))]
  have z1 : ine 1073741824 0 = true := rfl
  have z2 : ine 1152921504606846976 0 = true := rfl
  simp only [z1, z2, need_t]
  unfold wd
  rw [Int.natAbs_mul]
  generalize x.natAbs = X at *
  generalize y.natAbs = Y at *
  clear hs h0
  have q30 : ∀ a : Nat, a < 9223372036854775808 → iquo .i64 (a : Int) 1073741824 = ((a / 1073741824 : Nat) : Int) := fun a ha => i64q (b := 1073741824) ha
  have q60 : ∀ a : Nat, a < 9223372036854775808 → iquo .i64 (a : Int) 1152921504606846976 = ((a / 1152921504606846976 : Nat) : Int) := fun a ha => i64q (b := 1152921504606846976) ha
  have r30 : ∀ a : Nat, irem (a : Int) 1073741824 = ((a % 1073741824 : Nat) : Int) := fun a => rfl
  have r60 : ∀ a : Nat, irem (a : Int) 1152921504606846976 = ((a % 1152921504606846976 : Nat) : Int) := fun a => rfl
  rw [q30 X (by omega), q30 Y (by omega), r30, r30]
  have key := split30 X Y (X / 1073741824) (X % 1073741824) (Y / 1073741824) (Y % 1073741824) 1073741824 (by omega) (by omega)
  have ha : X / 1073741824 ≤ 1073741824 := by omega
  have hb : X % 1073741824 ≤ 1073741823 := by omega
  have hc : Y / 1073741824 ≤ 1073741824 := by omega
  have hd : Y % 1073741824 ≤ 1073741823 := by omega
  generalize X / 1073741824 = a at *
  generalize X % 1073741824 = b at *
  generalize Y / 1073741824 = c at *
  generalize Y % 1073741824 = d at *
  have mac : a * c ≤ 1073741824 * 1073741824 := Nat.mul_le_mul ha hc
  have mad : a * d ≤ 1073741824 * 1073741823 := Nat.mul_le_mul ha hd
  have mbc : b * c ≤ 1073741823 * 1073741824 := Nat.mul_le_mul hb hc
  have mbd : b * d ≤ 1073741823 * 1073741823 := Nat.mul_le_mul hb hd
  rw [i64m (a := a) (b := c) (by omega), i64m (a := a) (b := d) (by omega), i64m (a := b) (b := c) (by omega), i64m (a := b) (b := d) (by omega)]
  rw [key]
  generalize a * c = A at *
  generalize a * d = B at *
  generalize b * c = C at *
  generalize b * d = D at *
  rw [i64a (a := B) (b := C) (by omega), q30 _ (by omega), r30]
  have m30 : imul .i64 (((B + C) % 1073741824 : Nat) : Int) 1073741824 = (((B + C) % 1073741824 * 1073741824 : Nat) : Int) := i64m (b := 1073741824) (by omega)
  rw [m30, i64a (a := D) (by omega), q60 _ (by omega), r60, i64a (a := A) (by omega), i64a (by omega)]
  have e : 1073741824 * 1073741824 = 1152921504606846976 := rfl
  rw [e]
  have e1 : (A * 1152921504606846976 + (B + C) * 1073741824 + D) / 1152921504606846976 = A + (B + C) / 1073741824 + (D + (B + C) % 1073741824 * 1073741824) / 1152921504606846976 := by omega
  have e2 : (A * 1152921504606846976 + (B + C) * 1073741824 + D) % 1152921504606846976 = (D + (B + C) % 1073741824 * 1073741824) % 1152921504606846976 := by omega
  rw [e1, e2]
theorem F73_sign {a b : Int} (ha : a.natAbs ≤ 1329227995784915872903807060280344576) (hb : b.natAbs ≤ 1329227995784915872903807060280344576) : ∃ h, F73 (wd a, wd b) = some ((a + b).sign, h) := by
  unfold F73
  dsimp only
  have hsa : (wd a).1 = a.sign := rfl
  have hsb : (wd b).1 = b.sign := rfl
  rw [ieq_d, sel_i]
  by_cases a0 : a = 0
  · subst a0
    exact ⟨(wd b).2, by rw [if_pos (show (wd 0).1 = 0 from rfl), Int.zero_add]; rfl⟩
  rw [if_neg (by rw [hsa]; exact fun h => a0 (Int.sign_eq_zero_iff_zero.1 h)), ieq_d, sel_i]
  by_cases b0 : b = 0
  · subst b0
    exact ⟨(wd a).2, by rw [if_pos (show (wd 0).1 = 0 from rfl), Int.add_zero]; rfl⟩
  rw [if_neg (by rw [hsb]; exact fun h => b0 (Int.sign_eq_zero_iff_zero.1 h)), ieq_d, sel_i]
  by_cases hs : a.sign = b.sign
  · rw [if_pos (show (wd a).1 = (wd b).1 from hs), need_t (show ine 1152921504606846976 0 = true from rfl), need_t (show ine 1152921504606846976 0 = true from rfl)]
    have : (a + b).sign = a.sign := by
      by_cases h : 0 < a
      · rw [Int.sign_eq_one_of_pos h] at hs ⊢
        have := Int.sign_eq_one_iff_pos.1 hs.symm
        exact Int.sign_eq_one_of_pos (by omega)
      · have ha' : a < 0 := by omega
        rw [Int.sign_eq_neg_one_of_neg ha'] at hs ⊢
        have := Int.sign_eq_neg_one_iff_neg.1 hs.symm
        exact Int.sign_eq_neg_one_of_neg (by omega)
    rw [this]; exact ⟨_, rfl⟩
  rw [if_neg (show ¬ (wd a).1 = (wd b).1 from hs)]
  have hlt : F106 (wd a, wd b) = some (decide (a.natAbs < b.natAbs)) := by
    unfold F106 wd
    simp only [pick_or, pick_and, ilt_d, ieq_d]
    congr 1
    rw [← Bool.decide_and, ← Bool.decide_or]
    congr 1
    exact propext ⟨fun h => by omega, fun h => by omega⟩
  rw [call_s hlt]
  have fin : ∀ u v : Int, u.sign ≠ 0 → v.natAbs ≤ u.natAbs → u.natAbs ≤ 1329227995784915872903807060280344576 → u.sign ≠ v.sign → v.sign ≠ 0 → ∃ h, join (sel (ilt (isub .i64 (wd u).2.2 (wd v).2.2) 0) (some (.inl (isub .i64 (isub .i64 (wd u).2.1 (wd v).2.1) 1, iadd .i64 (isub .i64 (wd u).2.2 (wd v).2.2) 1152921504606846976))) (some (.inl (isub .i64 (wd u).2.1 (wd v).2.1, isub .i64 (wd u).2.2 (wd v).2.2)))) (fun (j2 : (Int × Int)) => sel (pickV (ieq j2.1 0) (ieq j2.2 0) false) (some ((0 : Int), (0 : Int), (0 : Int))) (some ((wd u).1, j2.1, j2.2))) = some ((u + v).sign, h) := by
    intro u v hu hv hub huv hv0
    have hsu : (u + v).sign = if v.natAbs = u.natAbs then 0 else u.sign := by
      by_cases p : 0 < u
      · have : v < 0 := by
          rcases Int.lt_trichotomy v 0 with h | h | h
          · exact h
          · subst h; simp at hv0
          · rw [Int.sign_eq_one_of_pos p, Int.sign_eq_one_of_pos h] at huv; exact absurd rfl huv
        split
        · rw [show u + v = 0 by omega]; rfl
        · rw [Int.sign_eq_one_of_pos p, Int.sign_eq_one_of_pos (by omega)]
      · have hun : u < 0 := by
          rcases Int.lt_trichotomy u 0 with h | h | h
          · exact h
          · subst h; simp at hu
          · omega
        have : 0 < v := by
          rcases Int.lt_trichotomy v 0 with h | h | h
          · rw [Int.sign_eq_neg_one_of_neg hun, Int.sign_eq_neg_one_of_neg h] at huv; exact absurd rfl huv
          · subst h; simp at hv0
          · exact h
        split
        · rw [show u + v = 0 by omega]; rfl
        · rw [Int.sign_eq_neg_one_of_neg hun, Int.sign_eq_neg_one_of_neg (by omega)]
    rw [hsu]
    unfold wd
    dsimp only
    generalize u.natAbs = U at *
    generalize v.natAbs = V at *
    rw [isub_s (a := ((U % 1152921504606846976 : Nat) : Int)) (by omega) (by omega), isub_s (a := ((U / 1152921504606846976 : Nat) : Int)) (by omega) (by omega), ilt_d, sel_i]
    split
    · rw [join_bl, isub_s (by omega) (by omega), iadd_ok (by omega) (by omega), pick_and, ieq_d, ieq_d, ← Bool.decide_and, sel_i]
      dsimp only
      split
      · exact ⟨_, by rw [if_pos (by omega)]⟩
      · exact ⟨_, by rw [if_neg (by omega)]⟩
    · rw [join_bl, pick_and, ieq_d, ieq_d, ← Bool.decide_and, sel_i]
      dsimp only
      split
      · exact ⟨_, by rw [if_pos (by omega)]⟩
      · exact ⟨_, by rw [if_neg (by omega)]⟩
  have sa : a.sign ≠ 0 := fun h => a0 (Int.sign_eq_zero_iff_zero.1 h)
  have sb : b.sign ≠ 0 := fun h => b0 (Int.sign_eq_zero_iff_zero.1 h)
  by_cases g : a.natAbs < b.natAbs
  · rw [decide_eq_true g, sel_t rfl, join_bl, Int.add_comm]
    exact fin b a sb (by omega) hb (fun h => hs h.symm) sa
  · rw [decide_eq_false g, sel_f rfl, join_bl]
    exact fin a b sa (by omega) ha hs sb
theorem F38_eq {xn xd yn yd : Int} (hx : rchk xn xd = 0) (hy : rchk yn yd = 0) : F38 ((xn, xd), (yn, yd)) = some (xn * yd - yn * xd).sign := by
  obtain ⟨x1, x2, _⟩ := rchk_ok hx
  obtain ⟨y1, y2, _⟩ := rchk_ok hy
  unfold F38
  rw [call_s (F35_eq xn xd), hx, sel_t (show bnot (ine 0 0) = true from rfl), call_s (F35_eq yn yd), hy, sel_f (show pickV (ine 0 0) true (ine 0 0) = false from rfl)]
  dsimp only
  have en : ineg .i64 yn = -yn := (wrap_id (x := 0 - yn) (by omega) (by omega)).trans (by omega)
  rw [call_s (F74_eq (by omega) (by omega)), en, call_s (F74_eq (by omega) (by omega))]
  have b1 : (xn * yd).natAbs ≤ 1329227995784915872903807060280344576 := by
    rw [Int.natAbs_mul]
    exact Nat.le_trans (Nat.mul_le_mul (show xn.natAbs ≤ 1152921504606846976 by omega) (show yd.natAbs ≤ 1152921504606846976 by omega)) (by decide)
  have b2 : (-yn * xd).natAbs ≤ 1329227995784915872903807060280344576 := by
    rw [Int.natAbs_mul]
    exact Nat.le_trans (Nat.mul_le_mul (show (-yn).natAbs ≤ 1152921504606846976 by omega) (show xd.natAbs ≤ 1152921504606846976 by omega)) (by decide)
  obtain ⟨h, e⟩ := F73_sign b1 b2
  rw [call_s e]
  rw [show xn * yd + -yn * xd = xn * yd - yn * xd by rw [Int.neg_mul]; omega]
theorem F37_eq {k n : Nat} (hn : 1 ≤ n) (hk : k ≤ 1152921504606846976) (hn2 : n ≤ 1152921504606846976) : F37 ((k : Int), (n : Int)) = some ((((k / Nat.gcd k n : Nat) : Int), ((n / Nat.gcd k n : Nat) : Int)), 0) := by
  have hg : 0 < Nat.gcd k n := Nat.gcd_pos_of_pos_right _ hn
  have hg2 : Nat.gcd k n ≤ n := Nat.gcd_le_right _ hn
  unfold F37
  have mag : ∀ a : Nat, a ≤ 1152921504606846976 → F72 (a : Int) = some (a : Int) := fun a ha => by
    unfold F72
    rw [ilt_d, sel_f (by simp)]
    unfold iwrap; rw [uwrap, Nat.mod_eq_of_lt (by omega)]
  dsimp only
  rw [ieq_d, sel_f (by simp; omega), call_s (mag k hk), call_s (mag n hn2)]
  refine Eq.trans (join_l (gcd_loop (fun a b ha hb => ?_) n k (by omega) (by omega))) ?_
  · dsimp only
    rw [ine_d, ilt_d]
    by_cases h : b = 0
    · subst h; rw [sel_f (by simp), if_pos rfl]
    · rw [sel_t (by simp; omega), need_t (by simp; omega), if_neg h, urem]
  · have n1 : ine ((Nat.gcd k n : Nat) : Int) 0 = true := by rw [ine_d]; simp; omega
    have h1 := Nat.div_le_self k (Nat.gcd k n)
    have h2 := Nat.div_le_self n (Nat.gcd k n)
    rw [need_t n1, need_t n1, uquo _ (by omega), uquo _ (by omega)]
    generalize k / Nat.gcd k n = A at *
    generalize n / Nat.gcd k n = B at *
    have w : ∀ a : Nat, a ≤ 1152921504606846976 → iwrap .i64 (a : Int) = (a : Int) := fun a ha => wrap_id (by omega) (by omega)
    rw [sel_f (by rw [pick_or, ilt_d, ilt_d]; simp; omega), sel_f (by simp [beq, bnot, ilt_d]; omega), w A (by omega), w B (by omega)]
def wantN (N d : Nat) : Nat := max 1 ((N + (d - 1)) / d)
theorem ceil_iff {N d k : Nat} (hd : 1 ≤ d) : (N + (d - 1)) / d ≤ k ↔ N ≤ k * d := by
  rw [Nat.div_le_iff_le_mul_add_pred (by omega)]
  have : d * k = k * d := Nat.mul_comm _ _
  omega
theorem imax_n (q : Nat) : imax 1 (q : Int) = ((max 1 q : Nat) : Int) := by
  unfold imax
  split
  · rename_i h; simp only [decide_eq_true_eq] at h; omega
  · rename_i h; simp only [decide_eq_true_eq] at h; omega
theorem F58_eq {num den n : Nat} (h : num ≤ den) (hd : 1 ≤ den) (hd2 : den ≤ 1152921504606846976) (hn : 1 ≤ n ∧ n ≤ 1099511627776) : F58 (((num : Int), (den : Int)), (n : Int)) = some ((wantN (num * n) den : Nat) : Int) := by
  unfold F58
  have wu : ∀ a : Nat, a ≤ 1152921504606846976 → iwrap .u64 (a : Int) = (a : Int) := fun a ha => by unfold iwrap; rw [uwrap, Nat.mod_eq_of_lt (by omega)]
  dsimp only
  rw [wu num (by omega), wu n (by omega), wu den (by omega), call_s (F83_eq (by omega) (by omega))]
  dsimp only
  have hle : num * n ≤ den * n := Nat.mul_le_mul_right _ h
  have hhi : num * n / 18446744073709551616 < den := by
    rw [Nat.div_lt_iff_lt_mul (by decide)]
    have : den * n < den * 18446744073709551616 := Nat.mul_lt_mul_of_pos_left (by omega) hd
    omega
  rw [call_s (F84_eq hhi (Nat.mod_lt _ (by decide)) (by omega)), Nat.div_add_mod']
  generalize num * n = N at *
  have hq : N / den ≤ n := by
    rw [Nat.div_le_iff_le_mul_add_pred (by omega)]; omega
  have hq2 : (N + (den - 1)) / den = if 0 < N % den then N / den + 1 else N / den := by
    have hm := Nat.div_add_mod' N den
    have hl := Nat.mod_lt N (show 0 < den by omega)
    have e1 : (N / den + 1) * den = N / den * den + 1 * den := Nat.add_mul _ _ _
    split
    · rw [Nat.div_eq_iff (by omega)]
      have e2 : den * (N / den + 1) = (N / den + 1) * den := Nat.mul_comm _ _
      generalize (N / den + 1) * den = A at *
      generalize N / den * den = B at *
      constructor <;> omega
    · rw [Nat.div_eq_iff (by omega)]
      have e2 : den * (N / den) = N / den * den := Nat.mul_comm _ _
      generalize N / den * den = B at *
      constructor <;> omega
  unfold wantN
  rw [hq2, ilt_d, sel_i]
  dsimp only
  generalize N / den = q at hq ⊢
  by_cases c : 0 < N % den
  · have ea : iadd .u64 (q : Int) 1 = ((q + 1 : Nat) : Int) := by
      have := uadd q 1
      rw [Nat.mod_eq_of_lt (by omega)] at this; exact this
    have ew : iwrap .i64 ((q + 1 : Nat) : Int) = ((q + 1 : Nat) : Int) := wrap_id (by omega) (by omega)
    rw [if_pos (by omega), if_pos c, ea, ew, imax_n]
  · have ew : iwrap .i64 (q : Int) = (q : Int) := wrap_id (by omega) (by omega)
    rw [if_neg (by omega), if_neg c, ew, imax_n]
theorem part_ok {k n : Nat} (hn : 1 ≤ n) (hk : k ≤ 1152921504606846976) (hn2 : n ≤ 1152921504606846976) : rchk ((k / Nat.gcd k n : Nat) : Int) ((n / Nat.gcd k n : Nat) : Int) = 0 := by
  have hg : 0 < Nat.gcd k n := Nat.gcd_pos_of_pos_right _ hn
  have h1 := Nat.div_le_self k (Nat.gcd k n)
  have h2 := Nat.div_le_self n (Nat.gcd k n)
  have h3 : 1 ≤ n / Nat.gcd k n := Nat.div_pos (Nat.gcd_le_right _ hn) hg
  have a0 := Int.natCast_nonneg (k / Nat.gcd k n)
  have b0 := Int.natCast_nonneg (n / Nat.gcd k n)
  unfold rchk
  rw [if_neg (by omega), if_neg]
  rw [Int.natAbs_natCast, Int.toNat_natCast]
  exact fun h => h (Nat.gcd_div_gcd_div_gcd_of_pos_right hn)
theorem part_le {k n num den : Nat} (hn : 1 ≤ n) : (0 ≤ ((((k / Nat.gcd k n : Nat) : Int)) * den - num * ((n / Nat.gcd k n : Nat) : Int)).sign) ↔ num * n ≤ k * den := by
  have hg : 0 < Nat.gcd k n := Nat.gcd_pos_of_pos_right _ hn
  have hk : k / Nat.gcd k n * Nat.gcd k n = k := Nat.div_mul_cancel (Nat.gcd_dvd_left _ _)
  have hm : n / Nat.gcd k n * Nat.gcd k n = n := Nat.div_mul_cancel (Nat.gcd_dvd_right _ _)
  generalize Nat.gcd k n = g at *
  generalize k / g = A at *
  generalize n / g = B at *
  subst hk; subst hm
  have e1 : num * (B * g) = num * B * g := (Nat.mul_assoc _ _ _).symm
  have e2 : A * g * den = A * den * g := Nat.mul_right_comm _ _ _
  rw [e1, e2, Nat.mul_le_mul_right_iff hg]
  have e3 : ((A : Int) * den - num * B) = ((A * den : Nat) : Int) - ((num * B : Nat) : Int) := by push_cast; rfl
  rw [e3]
  generalize A * den = X
  generalize num * B = Y
  constructor
  · intro h
    rcases Nat.lt_or_ge X Y with g' | g'
    · rw [Int.sign_eq_neg_one_of_neg (by omega)] at h; omega
    · exact g'
  · intro h
    exact Int.sign_nonneg_iff.2 (by omega)
theorem F62_eq {num den n : Nat} (h : num ≤ den) (hr : rchk num den = 0) (hn : 1 ≤ n ∧ n ≤ 1099511627776) : F62 (((num : Int), (den : Int)), (n : Int)) = some ((wantN (num * n) den : Nat) : Int) := by
  obtain ⟨⟨hd, hd2⟩, _⟩ := rchk_ok hr
  unfold F62
  have hle : num * n ≤ n * den := by rw [Nat.mul_comm n den]; exact Nat.mul_le_mul_right _ h
  obtain ⟨y, hy, rfl⟩ : ∃ y, join (iter (fun (s0 : (Int × Int)) =>
      sel (ilt s0.1 s0.2) (join (need (ine 2 0) <|
      call (F37 (iquo .i64 (iadd .i64 s0.1 s0.2) 2, (n : Int))) fun (r1 : ((Int × Int) × Int)) =>
      call (sel (ieq r1.2 0) (F38 (r1.1, ((num : Int), (den : Int)))) <|
      some 0) fun (r2 : Int) =>
      sel (pickV (ieq r1.2 0) (ile 0 r2) false) (some (.inl (s0.1, iquo .i64 (iadd .i64 s0.1 s0.2) 2))) <|
      some (.inl (iadd .i64 (iquo .i64 (iadd .i64 s0.1 s0.2) 2) 1, s0.2))) fun (j3 : (Int × Int)) =>
      some (.inl (j3.1, j3.2))) <|
      (some (.inr (.inl s0.1)) : Option ((Int × Int) ⊕ (Int ⊕ Int)))) (0, (n : Int))) (fun (j4 : Int) =>
      sel (ilt j4 1) (some 1) <|
      some j4) = some y ∧ y = ((wantN (num * n) den : Nat) : Int) := by
    refine join_wf (fun s => ∃ a b : Nat, s = ((a : Int), (b : Int)) ∧ a ≤ b ∧ b ≤ n ∧ (∀ k, k < a → ¬ num * n ≤ k * den) ∧ num * n ≤ b * den) (fun s => (s.2 - s.1).toNat) (fun e => e = .inl (((num * n + (den - 1)) / den : Nat) : Int)) ⟨0, n, rfl, by omega, by omega, fun k hk => by omega, hle⟩ ?_ ?_
    · rintro _ ⟨a, b, rfl, hab, hbn, hlow, hhigh⟩
      dsimp only
      rw [ilt_d, sel_i]
      by_cases c : a < b
      · left
        have e1 : iadd .i64 (a : Int) (b : Int) = ((a + b : Nat) : Int) := i64a (by omega)
        have e2 : iquo .i64 ((a + b : Nat) : Int) 2 = (((a + b) / 2 : Nat) : Int) := i64q (b := 2) (by omega)
        have hm1 : a ≤ (a + b) / 2 := by omega
        have hm2 : (a + b) / 2 < b := by omega
        rw [if_pos (by omega), need_t (show ine 2 0 = true from rfl), e1, e2]
        generalize (a + b) / 2 = m at hm1 hm2 ⊢
        rw [call_s (F37_eq hn.1 (by omega) (by omega))]
        dsimp only
        rw [sel_t (show ieq 0 0 = true from rfl), call_s (F38_eq (part_ok hn.1 (by omega) (by omega)) hr), pick_and, ile_d]
        by_cases g : num * n ≤ m * den
        · rw [sel_t (by rw [decide_eq_true ((part_le hn.1).2 g)]; rfl)]
          exact ⟨_, rfl, ⟨a, m, rfl, hm1, by omega, hlow, g⟩, by dsimp only; omega⟩
        · rw [sel_f (by rw [decide_eq_false (fun h => g ((part_le hn.1).1 h))]; rfl), iadd_ok (by omega) (by omega)]
          refine ⟨_, rfl, ⟨m + 1, b, rfl, by omega, hbn, fun k hk hk2 => g ?_, hhigh⟩, by dsimp only; omega⟩
          exact Nat.le_trans hk2 (Nat.mul_le_mul_right _ (by omega))
      · right
        rw [if_neg (by omega)]
        refine ⟨_, rfl, ?_⟩
        have : a = b := by omega
        subst this
        congr 2
        have h1 := (ceil_iff (N := num * n) (d := den) (k := a) (by omega)).2 hhigh
        rcases Nat.lt_or_ge ((num * n + (den - 1)) / den) a with g | g
        · exact absurd ((ceil_iff (by omega)).1 (Nat.le_refl _)) (hlow _ g)
        · omega
    · rintro _ rfl
      refine ⟨_, ?_, rfl⟩
      rw [Sum.elim_inl, ilt_d, sel_i]
      unfold wantN
      split
      · congr 1; omega
      · congr 1; omega
  exact hy
def ind (kk : Int → Int) (e id : Int) : Int := if kk id ≤ e then 1 else 0
structure Reach (kk : Int → Int) (nodes : List Nd) (rank e : Int) : Prop where
  one : ∃ n ∈ nodes, kk n.1 = e
  enough : rank ≤ wsum (ind kk e) nodes
  least : ∀ n ∈ nodes, rank ≤ wsum (ind kk (kk n.1)) nodes → e ≤ kk n.1
theorem Reach.same {kk : Int → Int} {nodes : List Nd} {rank e e' : Int} (h : Reach kk nodes rank e) (h' : Reach kk nodes rank e') : e = e' := by
  obtain ⟨n, hn, rfl⟩ := h.one
  obtain ⟨m, hm, rfl⟩ := h'.one
  have := h.least m hm h'.enough
  have := h'.least n hn h.enough
  omega
theorem wsum_append (g : Int → Int) (a b : List Nd) : wsum g (a ++ b) = wsum g a + wsum g b := by unfold wsum; simp
def gR (kk : Int → Int) (rank : Int) (st : Int × Int) (n : Nd) : (Int × Int) ⊕ (Int ⊕ Int) := if rank ≤ st.1 + n.2 then .inr (.inl (kk n.1)) else .inl (st.1 + n.2, kk n.1)
theorem walk_reach {kk : Int → Int} {rank : Int} : ∀ (suf pre : List Nd) (last : Int), (∀ n ∈ pre ++ suf, 0 ≤ n.2) → ((pre ++ suf).Pairwise fun a b => kk a.1 ≤ kk b.1) → wsum (fun _ => 1) pre < rank → rank ≤ wsum (fun _ => 1) (pre ++ suf) →
    ∃ e, foldE (gR kk rank) (fun st => (.inl st.2 : Int ⊕ Int)) suf (wsum (fun _ => 1) pre, last) = .inl e ∧ Reach kk (pre ++ suf) rank e
  | [], pre, last, h0, hs, h1, h2 => by rw [List.append_nil] at h2; omega
  | n :: suf, pre, last, h0, hs, h1, h2 => by
    have hs' := List.pairwise_append.1 hs
    have hs2 := List.pairwise_cons.1 hs'.2.1
    have hp0 : ∀ p ∈ pre, 0 ≤ p.2 := fun p hp => h0 p (by simp [hp])
    have hq0 : ∀ p ∈ suf, 0 ≤ p.2 := fun p hp => h0 p (by simp [hp])
    have hn0 := h0 n (by simp)
    have ind01 : ∀ e id, 0 ≤ ind kk e id ∧ ind kk e id ≤ 1 := fun e id => by unfold ind; split <;> omega
    rw [foldE]
    unfold gR
    by_cases c : rank ≤ wsum (fun _ => 1) pre + n.2
    · rw [if_pos c]
      refine ⟨kk n.1, rfl, ⟨n, by simp, rfl⟩, ?_, fun m hm hr => ?_⟩
      · rw [wsum_append, wsum_cons]
        have a1 : wsum (fun _ => 1) pre ≤ wsum (ind kk (kk n.1)) pre := wsum_le fun p hp => ⟨hp0 p hp, by
          have := hs'.2.2 p hp n (by simp)
          unfold ind; rw [if_pos this]; omega⟩
        have a2 : wsum (fun _ => 0) suf ≤ wsum (ind kk (kk n.1)) suf := wsum_le fun p hp => ⟨hq0 p hp, (ind01 _ _).1⟩
        rw [wsum_zero] at a2
        have a3 : ind kk (kk n.1) n.1 = 1 := by unfold ind; rw [if_pos (by omega)]
        rw [a3]; omega
      · rcases Int.lt_or_le (kk m.1) (kk n.1) with g | g
        · exfalso
          rw [wsum_append, wsum_cons] at hr
          have a1 : wsum (ind kk (kk m.1)) pre ≤ wsum (fun _ => 1) pre := wsum_le fun p hp => ⟨hp0 p hp, (ind01 _ _).2⟩
          have a2 : wsum (ind kk (kk m.1)) suf ≤ wsum (fun _ => 0) suf := wsum_le fun p hp => ⟨hq0 p hp, by
            have := hs2.1 p hp
            unfold ind; rw [if_neg (by omega)]; omega⟩
          rw [wsum_zero] at a2
          have a3 : ind kk (kk m.1) n.1 = 0 := by unfold ind; rw [if_neg (by omega)]
          rw [a3] at hr; omega
        · exact g
    · rw [if_neg c]
      have e : wsum (fun _ => 1) (pre ++ [n]) = wsum (fun _ => 1) pre + n.2 := by rw [wsum_append, wsum_cons, wsum_nil]; omega
      have e2 : pre ++ n :: suf = pre ++ [n] ++ suf := by simp
      rw [e2] at h0 hs h2 ⊢
      have := walk_reach suf (pre ++ [n]) (kk n.1) h0 hs (by omega) h2
      rw [e] at this
      exact this
theorem Reach.perm {kk : Int → Int} {l l' : List Nd} {rank e : Int} (h : Reach kk l rank e) (hp : l.Perm l') : Reach kk l' rank e := by
  obtain ⟨⟨n, hn, he⟩, h2, h3⟩ := h
  refine ⟨⟨n, hp.subset hn, he⟩, by rw [← wsum_perm hp]; exact h2, fun m hm hr => h3 m (hp.symm.subset hm) (by rw [wsum_perm hp]; exact hr)⟩
theorem sort_kk (kk : Int → Int) (l : List Nd) : ∃ r : List Nd, r.Perm l ∧ r.Pairwise fun a b => kk a.1 ≤ kk b.1 := by
  refine ⟨l.mergeSort (fun a b => decide (kk a.1 ≤ kk b.1)), List.mergeSort_perm _ _, ?_⟩
  have := List.pairwise_mergeSort (le := fun a b : Nd => decide (kk a.1 ≤ kk b.1)) (fun a b c h1 h2 => by simp at *; omega) (fun a b => by simp; omega) l
  exact this.imp fun {a b} h => by simpa using h
theorem reach_loop {kk : Int → Int} {Fk : Nd → Option Int} {nodes r : List Nd} {rank count : Int} (hl : nodes.length ≤ 2000) (hn : ∀ n ∈ nodes, Fk n = some (kk n.1) ∧ 1 ≤ n.2 ∧ n.2 ≤ 1099511627776) (hsum : wsum (fun _ => 1) nodes = count) (hr : 1 ≤ rank ∧ rank ≤ count) (hp : r.Perm nodes) (hs : r.Pairwise fun a b => kk a.1 ≤ kk b.1) :
    ∃ e, Reach kk nodes rank e ∧ join (iter (fun (s1 : (Int × (Int × Int))) =>
      sel (ilt s1.2.2 (n2i (llen r))) (need (inL s1.2.2 (llen r)) <|
      call (Fk (lget (0, 0) r (i2n s1.2.2))) fun (r2 : Int) =>
      sel (ile rank (iadd .i64 s1.1 ((lget (0, 0) r (i2n s1.2.2)).2))) (some (.inr (.inl r2))) <|
      some (.inl (iadd .i64 s1.1 ((lget (0, 0) r (i2n s1.2.2)).2), r2, iadd .i64 s1.2.2 1))) <|
      (some (.inr (.inl s1.2.1)) : Option ((Int × (Int × Int)) ⊕ (Int ⊕ Int)))) (0, 0, 0)) (fun (j3 : Int) => some j3) = some e := by
  have hrl := hp.length_eq
  obtain ⟨e, h1, h2⟩ := walk_reach (kk := kk) (rank := rank) r [] 0 (fun n hn' => by have := hn n (hp.subset (by simpa using hn')); omega) (by simpa using hs) (by rw [wsum_nil]; omega) (by
    rw [List.nil_append, wsum_perm hp, hsum]; omega)
  rw [List.nil_append] at h2
  refine ⟨e, h2.perm hp, ?_⟩
  refine Eq.trans (join_of _ (iter_for r (fun st i => (st.1, st.2, i)) (gR kk rank) (fun st => .inl st.2) (fun i st => 0 ≤ st.1 ∧ st.1 ≤ i * 1099511627776) (0, 0) (by simp) ?_ ?_)) ?_
  · rintro i ⟨a, b⟩ hi hI
    have hlt : (i : Int) < r.length := by omega
    have hin : inL (i : Int) r.length = true := inL_t hi
    have hg : lget (0, 0) r i = r[i] := lget_t hi
    obtain ⟨n1, n2⟩ := hn r[i] (hp.subset (List.getElem_mem hi))
    dsimp only at hI ⊢
    simp only [n2i_c, llen_c, i2n_c, hg, hin, need_t, ilt_d, ile_d, sel_i, hlt, if_true]
    rw [call_s n1]
    generalize r[i] = n at n2 ⊢
    unfold gR
    dsimp only
    rw [iadd_ok (a := a) (by omega) (by omega), iadd_ok (by omega) (by omega)]
    by_cases c : rank ≤ a + n.2
    · rw [if_pos c, if_pos c]
      exact ⟨rfl, fun st' h => by cases h⟩
    · rw [if_neg c, if_neg c]
      exact ⟨rfl, fun st' h => by have := Sum.inl.inj h; subst this; dsimp only; omega⟩
  · intro st hI
    simp only [n2i_c, llen_c, ilt_d, sel_i]
    rw [if_neg (by omega)]
  · rw [wsum_nil] at h1
    rw [h1]; rfl
def kLO (w : Nat) (id : Int) : Int := LO w id.toNat
def kHI (w : Nat) (id : Int) : Int := HI w id.toNat
section
variable {w : Nat} {k count : Int} {nodes : List Nd}
theorem Dig.ends (D : Dig w k count nodes) {n : Nd} (h : n ∈ nodes) (x : Dg) (hx : x.1 = w) : F59 (n, x) = some (kLO w n.1) ∧ F60 (n, x) = some (kHI w n.1) ∧ (0 ≤ kLO w n.1 ∧ kLO w n.1 < ((2 ^ w : Nat) : Int)) ∧ (0 ≤ kHI w n.1 ∧ kHI w n.1 < ((2 ^ w : Nat) : Int)) ∧ ∃ y : Nat, n.1 = y ∧ Nod w y := by
  obtain ⟨⟨y, hy, hY⟩, _⟩ := D.node n h
  have e := F54_eq hY
  obtain ⟨b1, b2, b3⟩ := hY.bounds
  have hp : 2 ^ (w + 1) = 2 * 2 ^ w := by rw [Nat.pow_succ]; omega
  have hps := Nat.two_pow_pos (sh w y)
  have e2 : (y + 1) * 2 ^ sh w y = y * 2 ^ sh w y + 1 * 2 ^ sh w y := Nat.add_mul _ _ _
  refine ⟨?_, ?_, ?_, ?_, y, hy, hY⟩
  · unfold F59 kLO
    dsimp only
    rw [hx, hy, call_s e, Int.toNat_natCast]
  · unfold F60 kHI
    dsimp only
    rw [hx, hy, call_s e, Int.toNat_natCast]
  · unfold kLO LO
    rw [hy, Int.toNat_natCast]; omega
  · unfold kHI HI
    rw [hy, Int.toNat_natCast]; omega
theorem Dig.nodes_ne (D : Dig w k count nodes) (h : 1 ≤ count) : nodes ≠ [] := by
  rintro rfl
  have := D.sum
  simp at this; omega
theorem F61_eq (D : Dig w k count nodes) {rank : Int} (hr : 1 ≤ rank ∧ rank ≤ count) : (∃ e, Reach (kLO w) nodes rank e ∧ F61a (nodes, rank, (), ((w : Int), k, count, nodes)) = some e) ∧ ∃ e, Reach (kHI w) nodes rank e ∧ F61b (nodes, rank, (), ((w : Int), k, count, nodes)) = some e := by
  have hlen := D.len
  have p20 := pow21 D.w2
  have hc1 := D.c1
  have hb : ∀ n ∈ nodes, 1 ≤ n.2 ∧ n.2 ≤ 1099511627776 := fun n hn => by have := (D.node n hn).2; omega
  have hsum := D.inv.sum
  have hne := D.nodes_ne (by omega)
  constructor
  · have hk := fun n (hn : n ∈ nodes) => D.ends hn ((w : Int), k, count, nodes) rfl
    obtain ⟨r, r1, r2⟩ := sort_kk (kLO w) nodes
    obtain ⟨e, e1, e2⟩ := reach_loop (kk := kLO w) (Fk := fun n => F59 (n, ((w : Int), k, count, nodes))) hlen (fun n hn => ⟨(hk n hn).1, hb n hn⟩) hsum hr r1 r2
    refine ⟨e, e1, ?_⟩
    unfold F61a
    refine callQ_of ⟨r, hne, by show nodes.length ≤ _; omega, fun n hn => ⟨_, (hk n hn).1, ?_⟩, r1, ?_⟩ fun r' hr' => ?_
    · have := (hk n hn).2.2.1
      exact ⟨by omega, by omega⟩
    · exact r2.imp_of_mem fun {a b} ha hb' h i j hi hj => by
        dsimp only at hi hj
        rw [(hk a (r1.subset ha)).1] at hi
        rw [(hk b (r1.subset hb')).1] at hj
        have := Option.some.inj hi; have := Option.some.inj hj; omega
    · obtain ⟨_, _, _, p1, p2⟩ := hr'
      have p1 : r'.Perm nodes := p1
      obtain ⟨e', e1', e2'⟩ := reach_loop (kk := kLO w) (Fk := fun n => F59 (n, ((w : Int), k, count, nodes))) hlen (fun n hn => ⟨(hk n hn).1, hb n hn⟩) hsum hr p1 (p2.imp_of_mem fun {a b} ha hb' h => h _ _ (hk a (p1.subset ha)).1 (hk b (p1.subset hb')).1)
      rw [e1.same e1']
      exact e2'
  · have hk := fun n (hn : n ∈ nodes) => D.ends hn ((w : Int), k, count, nodes) rfl
    obtain ⟨r, r1, r2⟩ := sort_kk (kHI w) nodes
    obtain ⟨e, e1, e2⟩ := reach_loop (kk := kHI w) (Fk := fun n => F60 (n, ((w : Int), k, count, nodes))) hlen (fun n hn => ⟨(hk n hn).2.1, hb n hn⟩) hsum hr r1 r2
    refine ⟨e, e1, ?_⟩
    unfold F61b
    refine callQ_of ⟨r, hne, by show nodes.length ≤ _; omega, fun n hn => ⟨_, (hk n hn).2.1, ?_⟩, r1, ?_⟩ fun r' hr' => ?_
    · have := (hk n hn).2.2.2.1
      exact ⟨by omega, by omega⟩
    · exact r2.imp_of_mem fun {a b} ha hb' h i j hi hj => by
        dsimp only at hi hj
        rw [(hk a (r1.subset ha)).2.1] at hi
        rw [(hk b (r1.subset hb')).2.1] at hj
        have := Option.some.inj hi; have := Option.some.inj hj; omega
    · obtain ⟨_, _, _, p1, p2⟩ := hr'
      have p1 : r'.Perm nodes := p1
      obtain ⟨e', e1', e2'⟩ := reach_loop (kk := kHI w) (Fk := fun n => F60 (n, ((w : Int), k, count, nodes))) hlen (fun n hn => ⟨(hk n hn).2.1, hb n hn⟩) hsum hr p1 (p2.imp_of_mem fun {a b} ha hb' h => h _ _ (hk a (p1.subset ha)).2.1 (hk b (p1.subset hb')).2.1)
      rw [e1.same e1']
      exact e2'
def gM (kk : Int → Int) (rank : Int) (nodes : List Nd) (st : Int) (n : Nd) : Int := if rank ≤ wsum (ind kk (kk n.1)) nodes ∧ kk n.1 < st then kk n.1 else st
theorem gM_reach {kk : Int → Int} {rank e : Int} (h : Reach kk nodes rank e) {z : Int} (hz : ∀ n ∈ nodes, kk n.1 < z) : nodes.foldl (gM kk rank nodes) z = e := by
  have key : ∀ (l : List Nd) (st : Int), (∀ n ∈ l, n ∈ nodes) → (st = z ∨ ∃ n ∈ nodes, kk n.1 = st ∧ rank ≤ wsum (ind kk (kk n.1)) nodes) → (l.foldl (gM kk rank nodes) st = z ∨ ∃ n ∈ nodes, kk n.1 = l.foldl (gM kk rank nodes) st ∧ rank ≤ wsum (ind kk (kk n.1)) nodes) ∧ l.foldl (gM kk rank nodes) st ≤ st ∧ ∀ n ∈ l, rank ≤ wsum (ind kk (kk n.1)) nodes → l.foldl (gM kk rank nodes) st ≤ kk n.1 := by
    intro l
    induction l with
    | nil => intro st _ h; exact ⟨h, Int.le_refl _, by simp⟩
    | cons a l ih =>
      intro st hl hst
      have ha := hl a (by simp)
      obtain ⟨i1, i2, i3⟩ := ih (gM kk rank nodes st a) (fun n hn => hl n (by simp [hn])) (by
        unfold gM
        split
        · rename_i g; exact .inr ⟨a, ha, rfl, g.1⟩
        · exact hst)
      have hle : gM kk rank nodes st a ≤ st ∧ (rank ≤ wsum (ind kk (kk a.1)) nodes → gM kk rank nodes st a ≤ kk a.1) := by
        unfold gM
        split
        · exact ⟨by omega, fun _ => Int.le_refl _⟩
        · rename_i g
          exact ⟨Int.le_refl _, fun h => by
            rcases Int.lt_or_le (kk a.1) st with g' | g'
            · exact absurd ⟨h, g'⟩ g
            · exact g'⟩
      refine ⟨i1, by show List.foldl _ (gM kk rank nodes st a) l ≤ st; omega, fun n hn hr => ?_⟩
      rcases List.mem_cons.1 hn with rfl | hn
      · have := hle.2 hr; show List.foldl _ (gM kk rank nodes st n) l ≤ _; omega
      · exact i3 n hn hr
  obtain ⟨k1, k2, k3⟩ := key nodes z (fun _ h => h) (.inl rfl)
  obtain ⟨n, hn, rfl⟩ := h.one
  have h1 := k3 n hn h.enough
  have h2 := hz n hn
  rcases k1 with g | ⟨m, hm, g1, g2⟩
  · omega
  · have := h.least m hm g2; omega
theorem F25_loop (D : Dig w k count nodes) {num den rank : Int} {a b : Int} (hc : 1 ≤ count) (hr : rchk num den = 0) (h01 : 0 ≤ num ∧ num ≤ den) (hw : F62 ((num, den), count) = some rank) (ha : Reach (kLO w) nodes rank a) (hb : Reach (kHI w) nodes rank b) : F25 (((w : Int), k, count, nodes), (num, den)) = some (a, b, 0) := by
  have hlen := D.len
  have p20 := pow21 D.w2
  have hq := F21_eq (w : Int) k count nodes
  rw [D.check] at hq
  unfold F25
  dsimp only
  rw [call_s hq, sel_t (show bnot (ine 0 0) = true from rfl), call_s (F35_eq num den), hr, sel_f (show pickV (ine 0 0) true (ine 0 0) = false from rfl), pick_or, ilt_d, ilt_d, sel_f (by simp; omega), ieq_d, sel_f (by simp; omega), call_s hw, need_t (by rw [ile_d]; simp), need_t (by rw [ile_d]; simp), ishl_1 w D.w2]
  refine Eq.trans (join_of _ (iter_for nodes (fun st i => (st.1, st.2, i)) (fun s n => .inl (gM (kLO w) rank nodes s.1 n, gM (kHI w) rank nodes s.2 n)) (fun st => .inl st) (fun _ _ => True) (((2 ^ w : Nat) : Int), ((2 ^ w : Nat) : Int)) trivial ?_ ?_)) ?_
  · rintro i ⟨lo, hi⟩ hi' _
    have hlt : (i : Int) < nodes.length := by omega
    have hin : inL (i : Int) nodes.length = true := inL_t hi'
    have hg : lget (0, 0) nodes i = nodes[i] := lget_t hi'
    obtain ⟨_, _, k1, k2, y, hy, hY⟩ := D.ends (List.getElem_mem hi') ((w : Int), k, count, nodes) rfl
    refine ⟨?_, fun _ _ => trivial⟩
    dsimp only
    simp only [n2i_c, llen_c, i2n_c, hg, hin, need_t, ilt_d, ile_d, sel_i, hlt, if_true]
    generalize nodes[i] = n at *
    have eL : LO w y = kLO w n.1 := by unfold kLO; rw [hy, Int.toNat_natCast]
    have eH : HI w y = kHI w n.1 := by unfold kHI; rw [hy, Int.toNat_natCast]
    have iL : wsum (loInd w (kLO w n.1)) nodes = wsum (ind (kLO w) (kLO w n.1)) nodes := rfl
    have iH : wsum (hiInd w (kHI w n.1)) nodes = wsum (ind (kHI w) (kHI w n.1)) nodes := rfl
    rw [hy, call_s (F56_eq hY), call_s (F55_eq hY), call_s (F23_eq _ _ _ _ _), eL, eH, D.rankT k1, iL]
    dsimp only
    rw [pick_and, ← Bool.decide_and, sel_i]
    have tail : ∀ lo' : Int, join (some (.inl lo') : Option (Int ⊕ ((Int × Int) ⊕ ((Int × (Int × Int)) ⊕ ((Int × Int) ⊕ (Int × (Int × Int))))))) (fun (j7 : Int) => call (F23 (((w : Int), k, count, nodes), kHI w n.1)) fun (r8 : (Int × (Int × Int))) => sel (pickV (decide (rank ≤ r8.1)) (decide (kHI w n.1 < hi)) false) (some (.inl (j7, kHI w n.1))) <| some (.inl (j7, hi))) = some (.inl (lo', gM (kHI w) rank nodes hi n)) := fun lo' => by
      rw [join_bl, call_s (F23_eq _ _ _ _ _), D.rankT k2, iH, pick_and, ← Bool.decide_and, sel_i]
      unfold gM
      split <;> rfl
    have e : (if rank ≤ wsum (ind (kLO w) (kLO w n.1)) nodes ∧ kLO w n.1 < lo then some (.inl (kLO w n.1)) else some (.inl lo) : Option (Int ⊕ ((Int × Int) ⊕ ((Int × (Int × Int)) ⊕ ((Int × Int) ⊕ (Int × (Int × Int))))))) = some (.inl (gM (kLO w) rank nodes lo n)) := by
      unfold gM; split <;> rfl
    refine Eq.trans (congrArg (fun o => join o _) ((congrArg (fun o => join o _) e).trans (tail _))) ?_
    rw [join_bl, iadd_ok (by omega) (by omega)]; rfl
  · intro st _
    simp only [n2i_c, llen_c, ilt_d, sel_i]
    rw [if_neg (by omega)]
  · rw [fold_l]
    have pair : ∀ (l : List Nd) (s : Int × Int), l.foldl (fun s n => (gM (kLO w) rank nodes s.1 n, gM (kHI w) rank nodes s.2 n)) s = (l.foldl (gM (kLO w) rank nodes) s.1, l.foldl (gM (kHI w) rank nodes) s.2) := by
      intro l
      induction l with
      | nil => intro s; rfl
      | cons n l ih => intro s; rw [List.foldl_cons, ih]; rfl
    rw [pair, gM_reach ha (fun n hn => (D.ends hn ((w : Int), k, count, nodes) rfl).2.2.1.2), gM_reach hb (fun n hn => (D.ends hn ((w : Int), k, count, nodes) rfl).2.2.2.1.2)]
    rfl
end
theorem F24_25 (bits k count : Int) (nodes : List Nd) (num den : Int) : ∃ r, F24 ((bits, k, count, nodes), num, den) = some r ∧ F25 ((bits, k, count, nodes), num, den) = some r := by
  by_cases h : qcheck bits k count nodes ≠ 0
  · refine ⟨(0, 0, 1), ?_, ?_⟩
    · unfold F24
      rw [call_s (F20_eq bits k count nodes), sel_f (by rw [ine_d]; simp [bnot, h]), call_b, sel_t (by rw [pick_or, ine_d]; simp [h])]
    · unfold F25
      rw [call_s (F21_eq bits k count nodes), sel_f (by rw [ine_d]; simp [bnot, h]), call_b, sel_t (by rw [pick_or, ine_d]; simp [h])]
  have h : qcheck bits k count nodes = 0 := by omega
  have h20 := F20_eq bits k count nodes
  have h21 := F21_eq bits k count nodes
  rw [h] at h20 h21
  by_cases hr : rchk num den ≠ 0
  · refine ⟨(0, 0, 1), ?_, ?_⟩
    · unfold F24
      rw [call_s h20, sel_t (show bnot (ine 0 0) = true from rfl), call_s (F57_eq num den), sel_t (by simp [pick_or, ine_d, hr])]
    · unfold F25
      rw [call_s h21, sel_t (show bnot (ine 0 0) = true from rfl), call_s (F35_eq num den), sel_t (by simp [pick_or, ine_d, hr])]
  have hr : rchk num den = 0 := by omega
  have h57 := F57_eq num den
  have h35 := F35_eq num den
  rw [hr] at h57 h35
  by_cases h1 : num < 0 ∨ den < num
  · refine ⟨(0, 0, 2), ?_, ?_⟩
    · unfold F24
      rw [call_s h20, sel_t (show bnot (ine 0 0) = true from rfl), call_s h57, sel_f (show pickV (ine 0 0) true (ine 0 0) = false from rfl), sel_t (by simp only [pick_or, ilt_d, ← Bool.decide_or]; exact decide_eq_true h1)]
    · unfold F25
      rw [call_s h21, sel_t (show bnot (ine 0 0) = true from rfl), call_s h35, sel_f (show pickV (ine 0 0) true (ine 0 0) = false from rfl), sel_t (by simp only [pick_or, ilt_d, ← Bool.decide_or]; exact decide_eq_true h1)]
  by_cases h2 : count = 0
  · refine ⟨(0, 0, 28), ?_, ?_⟩
    · unfold F24
      rw [call_s h20, sel_t (show bnot (ine 0 0) = true from rfl), call_s h57, sel_f (show pickV (ine 0 0) true (ine 0 0) = false from rfl), sel_f (by simp only [pick_or, ilt_d, ← Bool.decide_or]; exact decide_eq_false h1), sel_t (by rw [ieq_d]; exact decide_eq_true h2)]
    · unfold F25
      rw [call_s h21, sel_t (show bnot (ine 0 0) = true from rfl), call_s h35, sel_f (show pickV (ine 0 0) true (ine 0 0) = false from rfl), sel_f (by simp only [pick_or, ilt_d, ← Bool.decide_or]; exact decide_eq_false h1), sel_t (by rw [ieq_d]; exact decide_eq_true h2)]
  obtain ⟨hb, D⟩ := dig_of h
  have c0 := D.c0; have c1 := D.c1
  obtain ⟨⟨d1, d2⟩, _⟩ := rchk_ok hr
  generalize bits.toNat = w at *
  subst hb
  have en : num = (num.toNat : Int) := by omega
  have ed : den = (den.toNat : Int) := by omega
  have ec : count = (count.toNat : Int) := by omega
  have hle : num.toNat ≤ den.toNat := by omega
  have w58 := F58_eq (n := count.toNat) hle (by omega) (by omega) (by omega)
  have w62 := F62_eq (n := count.toNat) hle (by rw [← en, ← ed]; exact hr) (by omega)
  rw [← en, ← ed, ← ec] at w58 w62
  have hwant : 1 ≤ wantN (num.toNat * count.toNat) den.toNat ∧ wantN (num.toNat * count.toNat) den.toNat ≤ count.toNat := by
    have : (num.toNat * count.toNat + (den.toNat - 1)) / den.toNat ≤ count.toNat := (ceil_iff (by omega)).2 (by
      rw [Nat.mul_comm count.toNat]; exact Nat.mul_le_mul_right _ hle)
    unfold wantN; omega
  generalize wantN (num.toNat * count.toNat) den.toNat = W at *
  obtain ⟨⟨a, ha, fa⟩, b, hb, fb⟩ := F61_eq D (rank := (W : Int)) (by omega)
  refine ⟨(a, b, 0), ?_, F25_loop D (by omega) hr (by omega) w62 ha hb⟩
  unfold F24
  rw [call_s h20, sel_t (show bnot (ine 0 0) = true from rfl), call_s h57, sel_f (show pickV (ine 0 0) true (ine 0 0) = false from rfl), sel_f (by simp only [pick_or, ilt_d, ← Bool.decide_or]; exact decide_eq_false h1), sel_f (by rw [ieq_d]; exact decide_eq_false h2), call_s w58, call_s fa, call_s fb]
theorem law4 (bits k count : Int) (nodes : List Nd) (v num den : Int) : F4 ((bits, k, count, nodes), v, num, den) = some true := by
  unfold F4
  by_cases g : (24 : Int) < nodes.length
  · rw [call_s (show F11 (bits, k, count, nodes) = some true by unfold F11; rw [ilt_d, n2i_c, llen_c]; simp [g]), sel_t rfl, call_s awake]
  rw [call_s (show F11 (bits, k, count, nodes) = some false by unfold F11; rw [ilt_d, n2i_c, llen_c]; simp [g]), sel_f rfl]
  obtain ⟨r, r1, r2⟩ := F24_25 bits k count nodes num den
  rw [call_s (F22_eq _ _ _ _ _), call_s (F23_eq _ _ _ _ _), call_s r1, call_s r2, sel_t (by simp [pick_and, ieq_t]), call_s awake]
  simp [pick_and, ieq_t]
end Go.Q
