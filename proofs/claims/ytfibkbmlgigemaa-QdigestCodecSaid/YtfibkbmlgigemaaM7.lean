/- Part 7 of what the claim leans on: QRd, QRdS, QF2, QPlain, QRankP, QHeapP, QHeapO, QCmp, QCmp2, QCmp3, QCmp4, QAwk, QLaw6, QPut, QBuild, QVar, QVar2, QVar3, QVar4, QVar5, QVar6, QVar7, QVar8, QVar9, QVar10, QVar11, QVar12, QVar13. -/
import Derived.Test.YtfibkbmlgigemaaM6
import Derived.Calls
import Derived.KernelRfl
import Derived.Orders
import Derived.Laws.Sem
import Derived.Laws.CopyRow
import Derived.Laws.Cells
import Derived.Room.Entries
import Derived.Lib.Overlaps
import GoSem.Conv.BytesToString
import Derived.OrdersHeld
import Derived.ProofKit
import Derived.OpenShut
import Derived.Carry
import Derived.Shelf.SlSortCmp.InsertionK
import Derived.Shelf.Sort.Plain
import Derived.Test.YtfibkbmlgigemaaProg
import Derived.Shelf.SlSortCmp.WholeK
import Derived.Ground.SlsfProg
import Derived.RangeFuncNested
import Derived.RangeFuncBound
import Derived.RangeFuncCalls
import Derived.RangeFuncLeaves
import Derived.Shelf.Abstract
import Derived.Shelf.RegionOpen
import Derived.WalkKit
import Derived.OwnWalkIn
import Derived.TacticsInMore
import Derived.LoopNIn
import Derived.LoopIn
namespace Go.Proofs
open Go.RowKit Go.Shelf
attribute [local go_sem] Oper.semAt_some
set_option maxRecDepth 100000
def Rd.upto {α : Type} (f : Nat → α) (k : Nat) : List α := (List.range k).map f
theorem Rd.upto_succ {α : Type} (f : Nat → α) (k : Nat) : Rd.upto f (k + 1) = Rd.upto f k ++ [f k] := by simp [Rd.upto, List.range_succ]
theorem Rd.upto_length {α : Type} (f : Nat → α) (k : Nat) : (Rd.upto f k).length = k := by simp [Rd.upto]
abbrev Rd.B := {x : Nat × Nat // x.1 < 9 ∧ x.2 < 256}
def Rd.at (s : ByteArray) (k : Nat) : Rd.B := ⟨(min k 8, (s[k]!).toNat), by omega, UInt8.toNat_lt _⟩
def Rd.KB (B : Nat) (W W' : World) : Prop := W'.heap[B]? = W.heap[B]?
theorem Rd.KB.cell {B : Nat} {W W' : World} (h : Rd.KB B W W') : W'.cell? ⟨B, 0, none⟩ = W.cell? ⟨B, 0, none⟩ := World.cell?_of_block (a := ⟨B, 0, none⟩) h
set_option maxHeartbeats 2000000 in
theorem Rd.first_in (F : Fence) (n : Nat) (h : F.fn 128) (hro : F.round = none) (s : ByteArray) (w : World) :
   CallsIn F n Try.prog 128 #[.string s] w fun e w' => e = .returned (.func (.func 133) #[] #[.pointer (some ⟨w.heap.size, 0, none⟩)]) ∧ w' = w.alloc (.cells #[.string s] 9) := by
 refine callsIn_of_wp Try.func128 rfl h ?_ hro
 simp only [Try.ntmps128, List.size_toArray, List.length_cons, List.length_nil, Nat.reduceAdd, Nat.reduceSub, Array.replicate_succ, Array.replicate_zero, List.push_toArray, List.append_toArray, List.nil_append, List.cons_append]
 gi_wp2
 go_ret
 exact ⟨rfl, rfl⟩
set_option maxHeartbeats 4000000 in
theorem Rd.first1_in (F : Fence) (n : Nat) (h7 : F.fn 133) (hro : F.round = none) (hn : 1 ≤ n) (l Bs : Nat) (s : ByteArray) (hs : s.size ≤ 4611686018427387904) (J Jx : List Rd.B → World → Prop)
   (hY : ∀ pre x W, J pre W → pre.length < min s.size 9 → YieldAt F (n - 1) Try.prog l #[.int .i64 (x.1.1 : Int), .int .u8 (x.1.2 : Int)] W fun e W' =>
     (e = .returned (.bool true) ∧ J (pre ++ [x]) W' ∧ Rd.KB Bs W W') ∨ (e = .returned (.bool false) ∧ Jx (pre ++ [x]) W'))
   (W : World) (hBs : W.cell? ⟨Bs, 0, none⟩ = some (.string s)) (h0 : J [] W) :
   CallsIn F n Try.prog 133 #[.func (.yield l) #[] #[], .pointer (some ⟨Bs, 0, none⟩)] W fun e W' => (∃ v, e = .returned v) ∧
     ((∃ k, k ≤ min s.size 9 ∧ (k = min s.size 9 ∨ ∃ j, k = j + 1 ∧ (Rd.at s j).1.2 < 128) ∧ J (Rd.upto (Rd.at s) k) W') ∨ (∃ k, k ≤ min s.size 9 ∧ Jx (Rd.upto (Rd.at s) k) W')) := by
 refine callsIn_of_wp Try.func133 rfl h7 ?_ hro
 simp only [Try.ntmps133, List.size_toArray, List.length_cons, List.length_nil, Nat.reduceAdd, Nat.reduceSub, Array.replicate_succ, Array.replicate_zero, List.push_toArray, List.append_toArray, List.nil_append, List.cons_append]
 gi_wp2
 gi_loopw [3] (fun i wr => ∃ k : Nat, k ≤ min s.size 9 ∧ i = .int .i64 k ∧ J (Rd.upto (Rd.at s) k) wr ∧ Rd.KB Bs W wr)
   (fun i _ => 9 - (intOf i).toNat)
 case atStart => exact ⟨0, Nat.zero_le _, rfl, h0, rfl⟩
 case round =>
   obtain ⟨k, hk, rfl, hJs, hnx⟩ := hrel
   have hcs : wr.cell? ⟨Bs, 0, none⟩ = some (.string s) := hnx.cell.trans hBs
   by_cases hlt : k < min s.size 9
   · obtain ⟨fn, tmps, assign, body, hy, hR⟩ := hY _ (Rd.at s k) wr hJs (by rw [Rd.upto_length]; exact hlt)
     dsimp only [Rd.at] at hy
     have hk1 : k < s.size := by omega
     have hk2 : k < 9 := by omega
     have hk3 : (k : Int) < 9 := by omega
     have hk8 : min k 8 = k := by omega
     rw [getElem!_pos s k hk1, hk8] at hy
     gi_wp2
     refine hR.mono ?_
     rintro e W3 (⟨rfl, hJ3, hk3⟩ | ⟨rfl, hJx3⟩)
     · have hcs3 : W3.cell? ⟨Bs, 0, none⟩ = some (.string s) := hk3.cell.trans hcs
       have hb8 : (Rd.at s k).1.2 = s[k].toNat := by show (s[k]!).toNat = _; rw [getElem!_pos s k hk1]
       by_cases h128 : s[k].toNat < 128
       · gi_wp2
         refine bodyPost_ret (results_none rfl _ _ _) rfl ?_
         exact ⟨⟨_, rfl⟩, .inl ⟨k + 1, by omega, .inr ⟨k, rfl, by rw [hb8]; exact h128⟩, by rw [Rd.upto_succ]; exact hJ3⟩⟩
       · gi_wp2
         go_roundw
         case rel => exact ⟨k + 1, by omega, by simp, by rw [Rd.upto_succ]; exact hJ3, Eq.trans hk3 hnx⟩
         case measure => simp [intOf]; omega
     · gi_wp2
       refine bodyPost_ret (results_none rfl _ _ _) rfl ?_
       exact ⟨⟨_, rfl⟩, .inr ⟨k + 1, by omega, by rw [Rd.upto_succ]; exact hJx3⟩⟩
   · have hke : k = min s.size 9 := by omega
     gi_wp2
     all_goals go_end0
     all_goals exact ⟨⟨_, rfl⟩, .inl ⟨_, Nat.le_refl _, .inl rfl, by first | exact hJs | (rw [← hke]; exact hJs)⟩⟩
def Rd.enc (x : Rd.B) : Array Value := #[.int .i64 (x.1.1 : Int), .int .u8 (x.1.2 : Int)]
attribute [local go_sem] Rd.enc
theorem Rd.stops (F : Fence) (n : Nat) (h7 : F.fn 133) (hro : F.round = none) (hn : 1 ≤ n) (Bs : Nat) (s : ByteArray) (hs : s.size ≤ 4611686018427387904) (w : World) (hBs : Bs < w.heap.size) (hc : w.cell? ⟨Bs, 0, none⟩ = some (.string s)) :
   SeqStopsK F n Try.prog 133 #[.pointer (some ⟨Bs, 0, none⟩)] Rd.enc (Rd.KB Bs) (fun ys => ∃ k, k ≤ min s.size 9 ∧ (k = min s.size 9 ∨ ∃ j, k = j + 1 ∧ (Rd.at s j).1.2 < 128) ∧ ys = Rd.upto (Rd.at s) k)
     (fun pre => ∃ k, k ≤ min s.size 9 ∧ pre = Rd.upto (Rd.at s) k) (min s.size 9) w := fun l J Jx W hW _ _ hY h0 => by
 have hc' := (hW.cell (p := ⟨Bs, 0, none⟩) hBs).trans hc
 refine (Rd.first1_in F n h7 hro hn l Bs s hs J Jx hY W hc' h0).mono ?_
 rintro e W' ⟨he, ⟨k, h1, h2, h3⟩ | ⟨k, h1, h3⟩⟩
 · exact ⟨he, .inl ⟨_, ⟨k, h1, h2, rfl⟩, h3⟩⟩
 · exact ⟨he, .inr ⟨_, ⟨k, h1, rfl⟩, h3⟩⟩
abbrev Rd.new (v : Int) (i : Nat) (b : Int) : Int := bits .or .u64 v (IntKind.u64.wrap (IntKind.u64.wrap (bits .and .u8 b 127) * 2 ^ (7 * (i : Int)).toNat))
set_option maxHeartbeats 4000000 in
theorem Rd.reg7 (F : Fence) (l : Nat) (n : Nat) (B i : Nat) (b v : Int) (W : World) (hi : i < 9) (c : W.cell? ⟨B, 0, none⟩ = some (.int .u64 v)) (f : W.frozen? ⟨B, 0, none⟩ = false) (Q : Exit → Act → World → Prop) (x0 x1 x2 x3 x4 x8 x9 x10 x11 x12 x13 x14 x15 x16 x17 x18 x19 x20 x21 x22 x23 x24 x25 x26 x27 x28 x29 x30 x31 x32 x33 x34 x35 x36 x37 x38 : Value)
   (h : Q .normal { tmps := #[x0, x1, x2, x3, x4, .pointer (some ⟨B, 0, none⟩), .int .i64 (i : Int), .int .u8 b, x8, x9, x10, x11, x12, x13, x14, x15, x16, x17, x18, x19, x20, x21, x22, x23, x24, x25, .int .u64 v, .int .u8 b, .int .u8 (bits .and .u8 b 127), .int .u64 (IntKind.u64.wrap (bits .and .u8 b 127)), .int .i64 (i : Int), .int .i64 (7 * (i : Int)), .int .u64 (IntKind.u64.wrap (IntKind.u64.wrap (bits .and .u8 b 127) * 2 ^ (7 * (i : Int)).toNat)), .int .u64 (Rd.new v i b), x34, x35, x36, x37, x38], defers := [] } (W.setCell ⟨B, 0, none⟩ (.int .u64 (Rd.new v i b))).drew) :
   Code.wpIn (F.inRound l) n Try.prog (Code.region 7 #[{ dst := some 26, op := Op.load 103 (Operand.tmp 5), type := 103, pos := "varint.go:61", after := #[], guard := none },
     { dst := some 27, op := Op.move (Operand.tmp 7), type := 5, pos := "varint.go:61", after := #[], guard := none },
     { dst := some 28, op := Op.binOp BinOp.and 5 (Operand.tmp 27) (Operand.const (Value.int IntKind.u8 127)) 5, type := 5, pos := "varint.go:61", after := #[{ on := 1, ground := Ground.data }], guard := none },
     { dst := some 29, op := Op.convert 5 103 (Operand.tmp 28), type := 103, pos := "varint.go:61", after := #[{ on := 2, ground := Ground.data }], guard := none },
     { dst := some 30, op := Op.move (Operand.tmp 6), type := 3, pos := "varint.go:61", after := #[], guard := none },
     { dst := some 31, op := Op.binOp BinOp.mul 3 (Operand.const (Value.int IntKind.i64 7)) (Operand.tmp 30) 3, type := 3, pos := "varint.go:61", after := #[{ on := 4, ground := Ground.data }], guard := none },
     { dst := some 32, op := Op.binOp BinOp.shl 103 (Operand.tmp 29) (Operand.tmp 31) 3, type := 103, pos := "varint.go:61", after := #[{ on := 3, ground := Ground.data }, { on := 5, ground := Ground.data }], guard := none },
     { dst := some 33, op := Op.binOp BinOp.or 103 (Operand.tmp 26) (Operand.tmp 32) 103, type := 103, pos := "varint.go:61", after := #[{ on := 0, ground := Ground.data }, { on := 6, ground := Ground.data }], guard := none },
     { dst := none, op := Op.store 103 (Operand.tmp 5) (Operand.tmp 33), type := 0, pos := "varint.go:61", after := #[{ on := 7, ground := Ground.data }, { on := 0, ground := Ground.phase }, { on := 1, ground := Ground.phase }, { on := 2, ground := Ground.phase }, { on := 3, ground := Ground.phase }, { on := 4, ground := Ground.phase }, { on := 5, ground := Ground.phase }, { on := 6, ground := Ground.phase }, { on := 7, ground := Ground.phase }], guard := none }] true) Q { tmps := #[x0, x1, x2, x3, x4, .pointer (some ⟨B, 0, none⟩), .int .i64 (i : Int), .int .u8 b, x8, x9, x10, x11, x12, x13, x14, x15, x16, x17, x18, x19, x20, x21, x22, x23, x24, x25, x26, x27, x28, x29, x30, x31, x32, x33, x34, x35, x36, x37, x38], defers := [] } W := by
 have hmx : Try.prog.follows .mixedOrders = true := by kernel_rfl
 have hwr : IntKind.i64.wrap (7 * (i : Int)) = 7 * (i : Int) := by simp only [IntKind.wrap, IntKind.signed, IntKind.bits]; simp; omega
 have hw0 : 0 ≤ IntKind.i64.wrap (7 * (i : Int)) := by omega
 have hw1 : IntKind.i64.wrap (7 * (i : Int)) ≤ 64 := by omega
 gi_region_with_o (fail)
 all_goals exact h
def Rd.stp (n : Int) (x : Rd.B) : Int := Rd.new n x.1.1 x.1.2
def Rd.run : List Rd.B → Int → Int ⊕ (Int × (Int × Int))
 | [], n => .inl n
 | x :: l, n => if (128 ≤ x.1.2 ∧ x.1.1 = 8) ∨ (x.1.2 = 0 ∧ 0 < x.1.1) then .inr (0, 0, 12) else if x.1.2 < 128 then .inr (Rd.stp n x, (x.1.1 : Int) + 1, 0) else Rd.run l (Rd.stp n x)
theorem Rd.run_app : ∀ (l m : List Rd.B) (n : Int), Rd.run (l ++ m) n = match Rd.run l n with | .inl k => Rd.run m k | .inr r => .inr r
 | [], m, n => rfl
 | x :: l, m, n => by
   rw [List.cons_append, Rd.run, Rd.run]
   split
   · rfl
   split
   · rfl
   · exact Rd.run_app l m _
theorem Rd.set3 {w0 W : World} {B : Nat} {x y z u1 u2 u3 : Value} (g1 : Boxed W B 103 x) (g2 : Boxed W (B + 1) 3 y) (g3 : Boxed W (B + 1 + 1) 28 z) (h : Below B w0 W) :
   KeepsOthers W (((W.setCell ⟨B, 0, none⟩ u1).setCell ⟨B + 1, 0, none⟩ u2).setCell ⟨B + 1 + 1, 0, none⟩ u3) ∧ Boxed (((W.setCell ⟨B, 0, none⟩ u1).setCell ⟨B + 1, 0, none⟩ u2).setCell ⟨B + 1 + 1, 0, none⟩ u3) B 103 u1 ∧ Boxed (((W.setCell ⟨B, 0, none⟩ u1).setCell ⟨B + 1, 0, none⟩ u2).setCell ⟨B + 1 + 1, 0, none⟩ u3) (B + 1) 3 u2 ∧ Boxed (((W.setCell ⟨B, 0, none⟩ u1).setCell ⟨B + 1, 0, none⟩ u2).setCell ⟨B + 1 + 1, 0, none⟩ u3) (B + 1 + 1) 28 u3 ∧ Below B w0 (((W.setCell ⟨B, 0, none⟩ u1).setCell ⟨B + 1, 0, none⟩ u2).setCell ⟨B + 1 + 1, 0, none⟩ u3) :=
 ⟨((KeepsOthers.setCell _ _ _).trans (KeepsOthers.setCell _ _ _)).trans (KeepsOthers.setCell _ _ _), ((g1.set u1).other (by omega) u2).other (by omega) u3, ((g2.other (by omega) u1).set u2).other (by omega) u3, ((g3.other (by omega) u1).other (by omega) u2).set u3, ((h.setCell (Nat.le_refl _) _).setCell (Nat.le_succ _) _).setCell (by dsimp only; omega) _⟩
def Rd.val (s : ByteArray) : Int × (Int × Int) := match Rd.run (Rd.upto (Rd.at s) (min s.size 9)) 0 with | .inl _ => (0, 0, 11) | .inr r => r
theorem Rd.run1 {pre : List Rd.B} {v : Int} {x : Rd.B} (g : Rd.run pre 0 = .inl v) : Rd.run (pre ++ [x]) 0 = Rd.run [x] v := by rw [Rd.run_app, g]
theorem Rd.run_le {f : Nat → Rd.B} {k m : Nat} {r : Int × (Int × Int)} (hk : k ≤ m) (h : Rd.run (Rd.upto f k) 0 = .inr r) : Rd.run (Rd.upto f m) 0 = .inr r := by
 induction m with
 | zero =>
   have : k = 0 := by omega
   subst this; exact h
 | succ m ih =>
   by_cases e : k = m + 1
   · subst e; exact h
   · rw [Rd.upto_succ, Rd.run_app, ih (by omega)]
theorem Rd.run_end {f : Nat → Rd.B} {j : Nat} {v : Int} (h : Rd.run (Rd.upto f (j + 1)) 0 = .inl v) : ¬ (f j).1.2 < 128 := fun hl => by
 rw [Rd.upto_succ, Rd.run_app] at h
 split at h
 · rw [Rd.run] at h
   split at h
   · cases h
   · first
     | (cases h; done)
     | (split at h
        · cases h
        · omega)
 · cases h
theorem Rd.res {W : World} {B : Nat} {a b c : Int} (g1 : Boxed W B 103 (.int .u64 a)) (g2 : Boxed W (B + 1) 3 (.int .i64 b)) (g3 : Boxed W (B + 1 + 1) 28 (.int .i64 c)) (tmps : Array Value)
   (h2 : tmps[2]?.getD undef = .pointer (some ⟨B, 0, none⟩)) (h3 : tmps[3]?.getD undef = .pointer (some ⟨B + 1, 0, none⟩)) (h4 : tmps[4]?.getD undef = .pointer (some ⟨B + 1 + 1, 0, none⟩)) :
   (results Try.f110 tmps).run Try.prog W = .ok (.tuple #[.int .u64 a, .int .i64 b, .int .i64 c]) W := by
 have c1 := g1.cell; have c2 := g2.cell; have c3 := g3.cell
 have hr : Try.f110.results = #[.cell 2 103, .cell 3 3, .cell 4 28] := rfl
 simp only [results, hr]
 simp [h2, h3, h4]
 go_simp
set_option maxHeartbeats 4000000 in
theorem Rd.read_in (F : Fence) (n : Nat) (h1 : F.fn 110) (h2 : F.fn 128) (h3 : F.fn 133) (hro : F.round = none) (hn : 3 ≤ n) (s : ByteArray) (hs : s.size ≤ 4611686018427387904) (w : World) :
   CallsIn F n Try.prog 110 #[.string s] w fun e W' => (∃ r, e = .returned (.tuple #[.int .u64 r.1, .int .i64 r.2.1, .int .i64 r.2.2]) ∧ r = Rd.val s) ∧ Below w.heap.size w W' := by
 have h1' : 1 ≤ n := by omega
 refine callsIn_of_wp_marks Try.func110 rfl h1 ?_ hro
 simp only [Try.ntmps110, List.size_toArray, List.length_cons, List.length_nil, Nat.reduceAdd, Nat.reduceSub, Array.replicate_succ, Array.replicate_zero, List.push_toArray, List.append_toArray, List.nil_append, List.cons_append]
 gi_wp2_with (gi_at_call 128; refine (Rd.first_in F (n - 1) h2 hro _ _).mono ?_; rintro e w' ⟨rfl, rfl⟩)
 obtain ⟨w1, hw1⟩ : ∃ w1, ((((w.alloc (Obj.cells #[Value.int IntKind.u64 0] 103)).alloc (Obj.cells #[Value.int IntKind.i64 0] 3)).alloc (Obj.cells #[Value.int IntKind.i64 0] 28)).alloc (Obj.cells #[Value.int IntKind.u64 0] 103)).alloc (Obj.cells #[Value.string s] 9) = w1 := ⟨_, rfl⟩
 have hsz : w1.heap.size = w.heap.size + 5 := by rw [← hw1]; simp
 have b0 : Boxed w1 w.heap.size 103 (.int .u64 0) := by rw [← hw1]; exact ((((Boxed.new w 103 _).alloc _).alloc _).alloc _).alloc _
 have b1 : Boxed w1 (w.heap.size + 1) 3 (.int .i64 0) := by
   have := Boxed.new (w.alloc (Obj.cells #[Value.int IntKind.u64 0] 103)) 3 (.int .i64 0)
   rw [World.size_alloc] at this
   rw [← hw1]; exact ((this.alloc _).alloc _).alloc _
 have b2 : Boxed w1 (w.heap.size + 1 + 1) 28 (.int .i64 0) := by
   have := Boxed.new ((w.alloc (Obj.cells #[Value.int IntKind.u64 0] 103)).alloc (Obj.cells #[Value.int IntKind.i64 0] 3)) 28 (.int .i64 0)
   rw [World.size_alloc, World.size_alloc] at this
   rw [← hw1]; exact (this.alloc _).alloc _
 have b3 : Boxed w1 (w.heap.size + 1 + 1 + 1) 103 (.int .u64 0) := by
   have := Boxed.new (((w.alloc (Obj.cells #[Value.int IntKind.u64 0] 103)).alloc (Obj.cells #[Value.int IntKind.i64 0] 3)).alloc (Obj.cells #[Value.int IntKind.i64 0] 28)) 103 (.int .u64 0)
   rw [World.size_alloc, World.size_alloc, World.size_alloc] at this
   rw [← hw1]; exact this.alloc _
 have b4 : Boxed w1 (w.heap.size + 1 + 1 + 1 + 1) 9 (.string s) := by
   have := Boxed.new ((((w.alloc (Obj.cells #[Value.int IntKind.u64 0] 103)).alloc (Obj.cells #[Value.int IntKind.i64 0] 3)).alloc (Obj.cells #[Value.int IntKind.i64 0] 28)).alloc (Obj.cells #[Value.int IntKind.u64 0] 103)) 9 (.string s)
   rw [World.size_alloc, World.size_alloc, World.size_alloc, World.size_alloc] at this
   rw [← hw1]; exact this
 have hbel : Below w.heap.size w w1 := by
   rw [← hw1]
   exact (((((Below.refl _ w).alloc (Nat.le_refl _) _).alloc (by simp) _).alloc (by simp; omega) _).alloc (by simp; omega) _).alloc (by simp; omega) _
 rw [hw1]
 refine wpIn_rangeFunc_ownF hro h1' (gf := 133) (lb := #[.pointer (some ⟨w.heap.size + 1 + 1 + 1 + 1, 0, none⟩)]) rfl h3 (enters_of Try.func133 (by kernel_rfl) rfl)
   (Rd.stops F (n - 1) h3 hro (by omega) (w.heap.size + 1 + 1 + 1 + 1) s hs w1 (by omega) b4.cell) (fun h k => Eq.trans k h) (fun W l o o' hl _ _ _ => by
     show (W.putObj l o').heap[_]? = _
     exact World.putObj_heap_other (by omega)) (Below.refl _ _) (fun _ => rfl)
   (fun pre W => ∃ v, Rd.run pre 0 = .inl v ∧ Boxed W w.heap.size 103 (.int .u64 0) ∧ Boxed W (w.heap.size + 1) 3 (.int .i64 0) ∧ Boxed W (w.heap.size + 1 + 1) 28 (.int .i64 0) ∧ Boxed W (w.heap.size + 1 + 1 + 1) 103 (.int .u64 v) ∧ Below w.heap.size w W)
   (fun c pre W => c = .ret ∧ ∃ r : Int × (Int × Int), Rd.run pre 0 = .inr r ∧ Boxed W w.heap.size 103 (.int .u64 r.1) ∧ Boxed W (w.heap.size + 1) 3 (.int .i64 r.2.1) ∧ Boxed W (w.heap.size + 1 + 1) 28 (.int .i64 r.2.2) ∧ Below w.heap.size w W)
   (fun pre A B row hs hg hr => by
     have hne : ∀ b, b < w.heap.size + 5 → some b ≠ row := fun b hb e => by have := (hr b e.symm).1; omega
     obtain ⟨v, g0, g1, g2, g3, g4, g5⟩ := hs
     exact ⟨v, g0, g1.kept hg (hne _ (by omega)), g2.kept hg (hne _ (by omega)), g3.kept hg (hne _ (by omega)), g4.kept hg (hne _ (by omega)), g5.grown hg g5.size (fun k e => by have := (hr k e).1; omega)⟩)
   (fun c pre A B row hs hg hr => by
     have hne : ∀ b, b < w.heap.size + 5 → some b ≠ row := fun b hb e => by have := (hr b e.symm).1; omega
     obtain ⟨g, r, g0, g1, g2, g3, g5⟩ := hs
     exact ⟨g, r, g0, g1.kept hg (hne _ (by omega)), g2.kept hg (hne _ (by omega)), g3.kept hg (hne _ (by omega)), g5.grown hg g5.size (fun k e => by have := (hr k e).1; omega)⟩)
   ⟨0, rfl, b0, b1, b2, b3, hbel⟩
   (fun x => { tmps := #[.string s, undef, .pointer (some ⟨w.heap.size, 0, none⟩), .pointer (some ⟨w.heap.size + 1, 0, none⟩), .pointer (some ⟨w.heap.size + 1 + 1, 0, none⟩), .pointer (some ⟨w.heap.size + 1 + 1 + 1, 0, none⟩), .int .i64 (x.1.1 : Int), .int .u8 (x.1.2 : Int), .string s, .func (.func 133) #[] #[.pointer (some ⟨w.heap.size + 1 + 1 + 1 + 1, 0, none⟩)], .int .i64 (x.1.1 : Int), .int .u8 (x.1.2 : Int),
     undef, undef, undef, undef, undef, undef, undef, undef, undef, undef, undef, undef, undef, undef, undef, undef, undef, undef, undef, undef, undef, undef, undef, undef, undef, undef, undef], defers := [] }) ?assign ?body ?done ?stop
 case assign =>
   intro l x W K hK
   gi_wp2
   exact hK
 case body =>
   rintro l pre x W ⟨v, g0, g1, g2, g3, g4, g5⟩ _
   have hi := x.2.1
   have hb := x.2.2
   have c1 := g1.cell; have c2 := g2.cell; have c3 := g3.cell; have c4 := g4.cell
   have f1 := g1.frozen; have f2 := g2.frozen; have f3 := g3.frozen; have f4 := g4.frozen
   dsimp only at hi hb ⊢
   have closeA : (128 ≤ x.1.2 ∧ x.1.1 = 8) ∨ (x.1.2 = 0 ∧ 0 < x.1.1) → Rd.run (pre ++ [x]) 0 = .inr (0, 0, 12) := fun h => by rw [Rd.run1 g0, Rd.run, if_pos h]
   have closeB : ¬ ((128 ≤ x.1.2 ∧ x.1.1 = 8) ∨ (x.1.2 = 0 ∧ 0 < x.1.1)) → x.1.2 < 128 → Rd.run (pre ++ [x]) 0 = .inr (Rd.new v x.1.1 x.1.2, (x.1.1 : Int) + 1, 0) := fun h h' => by rw [Rd.run1 g0, Rd.run, if_neg h, if_pos h']; rfl
   have closeC : ¬ ((128 ≤ x.1.2 ∧ x.1.1 = 8) ∨ (x.1.2 = 0 ∧ 0 < x.1.1)) → ¬ x.1.2 < 128 → Rd.run (pre ++ [x]) 0 = .inl (Rd.new v x.1.1 x.1.2) := fun h h' => by rw [Rd.run1 g0, Rd.run, if_neg h, if_neg h']; rfl
   gi_wp2
   all_goals (first | (exfalso; omega) | skip)
   all_goals (try (refine Rd.reg7 _ _ _ _ x.1.1 _ v _ hi c4 f4 _ _ _ _ _ _ _ _ _ _ _ _ _ _ _ _ _ _ _ _ _ _ _ _ _ _ _ _ _ _ _ _ _ _ _ _ _ ?_))
   all_goals (try dsimp only)
   all_goals (try gi_wp2)
   all_goals (first | (exfalso; omega) | skip)
   · exact ⟨(Rd.set3 g1 g2 g3 g5).1, rfl, (0, 0, 12), closeA (by omega), (Rd.set3 g1 g2 g3 g5).2.1, (Rd.set3 g1 g2 g3 g5).2.2.1, (Rd.set3 g1 g2 g3 g5).2.2.2.1, (Rd.set3 g1 g2 g3 g5).2.2.2.2⟩
   · exact ⟨(KeepsOthers.setCell _ _ _).trans (KeepsOthers.drew _), Below.heap_setCell _ _ _ _ (by dsimp only; omega), (Rd.new v x.1.1 x.1.2), closeC (by omega) (by omega), g1.other (by omega) _, g2.other (by omega) _, g3.other (by omega) _, g4.set _, (g5.setCell (by dsimp only; omega) _).drew⟩
   · exact ⟨(Rd.set3 g1 g2 g3 g5).1, rfl, 0, 0, 12, closeA (by omega), (Rd.set3 g1 g2 g3 g5).2.1, (Rd.set3 g1 g2 g3 g5).2.2.1, (Rd.set3 g1 g2 g3 g5).2.2.2.1, (Rd.set3 g1 g2 g3 g5).2.2.2.2⟩
   · have q1 := g1.other (B' := w.heap.size + 1 + 1 + 1) (by omega) (.int .u64 (Rd.new v x.1.1 0))
     have q2 := g2.other (B' := w.heap.size + 1 + 1 + 1) (by omega) (.int .u64 (Rd.new v x.1.1 0))
     have q3 := g3.other (B' := w.heap.size + 1 + 1 + 1) (by omega) (.int .u64 (Rd.new v x.1.1 0))
     have q5 := g5.setCell (p := ⟨w.heap.size + 1 + 1 + 1, 0, none⟩) (by dsimp only; omega) (.int .u64 (Rd.new v x.1.1 0))
     have hS := Rd.set3 q1 q2 q3 q5 (u1 := .int .u64 (Rd.new v x.1.1 0)) (u2 := .int .i64 ((x.1.1 : Int) + 1)) (u3 := .int .i64 0)
     have e : ((x.1.2 : Nat) : Int) = 0 := by omega
     rw [e] at closeB
     exact ⟨((KeepsOthers.setCell _ _ _).trans hS.1).trans (KeepsOthers.drew _), rfl, ((Rd.new v x.1.1 0), (x.1.1 : Int) + 1, 0), closeB (by omega) (by omega), hS.2.1, hS.2.2.1, hS.2.2.2.1, hS.2.2.2.2.drew⟩
   · have q1 := g1.other (B' := w.heap.size + 1 + 1 + 1) (by omega) (.int .u64 (Rd.new v x.1.1 x.1.2))
     have q2 := g2.other (B' := w.heap.size + 1 + 1 + 1) (by omega) (.int .u64 (Rd.new v x.1.1 x.1.2))
     have q3 := g3.other (B' := w.heap.size + 1 + 1 + 1) (by omega) (.int .u64 (Rd.new v x.1.1 x.1.2))
     have q5 := g5.setCell (p := ⟨w.heap.size + 1 + 1 + 1, 0, none⟩) (by dsimp only; omega) (.int .u64 (Rd.new v x.1.1 x.1.2))
     have hS := Rd.set3 q1 q2 q3 q5 (u1 := .int .u64 (Rd.new v x.1.1 x.1.2)) (u2 := .int .i64 ((x.1.1 : Int) + 1)) (u3 := .int .i64 0)
     exact ⟨((KeepsOthers.setCell _ _ _).trans hS.1).trans (KeepsOthers.drew _), rfl, ((Rd.new v x.1.1 x.1.2), (x.1.1 : Int) + 1, 0), closeB (by omega) (by omega), hS.2.1, hS.2.2.1, hS.2.2.2.1, hS.2.2.2.2.drew⟩
 case done =>
   rintro D xs W hD ⟨k, hk1, hk2, rfl⟩ ⟨v, g0, g1, g2, g3, g4, g5⟩ hK
   have c1 := g1.cell; have c2 := g2.cell; have c3 := g3.cell
   have f1 := g1.frozen; have f2 := g2.frozen; have f3 := g3.frozen
   have hv : Rd.val s = (0, 0, 11) := by
     unfold Rd.val
     rcases hk2 with rfl | ⟨j, rfl, hj⟩
     · rw [g0]
     · exact absurd hj (Rd.run_end g0)
   gi_wp2
   obtain ⟨_, k1, k2, k3, k5⟩ := Rd.set3 g1 g2 g3 g5 (u1 := .int .u64 0) (u2 := .int .i64 0) (u3 := .int .i64 11)
   have hK' : (((W.setCell ⟨w.heap.size, 0, none⟩ (.int .u64 0)).setCell ⟨w.heap.size + 1, 0, none⟩ (.int .i64 0)).setCell ⟨w.heap.size + 1 + 1, 0, none⟩ (.int .i64 11)).heap[D]? = some (.deferred (some [])) := by
     rw [Below.heap_setCell _ _ _ _ (by dsimp only; omega), Below.heap_setCell _ _ _ _ (by dsimp only; omega), Below.heap_setCell _ _ _ _ (by dsimp only; omega)]; exact hK
   generalize (((W.setCell ⟨w.heap.size, 0, none⟩ (.int .u64 0)).setCell ⟨w.heap.size + 1, 0, none⟩ (.int .i64 0)).setCell ⟨w.heap.size + 1 + 1, 0, none⟩ (.int .i64 11)) = Z at k1 k2 k3 k5 hK' ⊢
   have hw' : ∀ {B t v}, B < w.heap.size + 5 → Boxed Z B t v → Boxed (Z.putObj D (.deferred none)) B t v := fun hB g => Eq.trans (World.putObj_heap_other (by omega)) g
   refine ⟨by simp, .inl ⟨_, _, rfl, run_takeDeferred hK', ?_⟩⟩
   exact ⟨_, Rd.res (hw' (by omega) k1) (hw' (by omega) k2) (hw' (by omega) k3) _ rfl rfl rfl, ⟨(0, 0, 11), rfl, hv.symm⟩, k5.grown (grownBy_putObj' Z D _ ) k5.size (fun k e => by cases e; omega)⟩
 case stop =>
   rintro D c pre W _ ⟨k, hk1, rfl⟩ ⟨rfl, r, h0, k1, k2, k3, k5⟩ hK
   have hv : r = Rd.val s := by unfold Rd.val; rw [Rd.run_le hk1 h0]
   gi_wp2
   have hw' : ∀ {B t v}, B < w.heap.size + 5 → Boxed W B t v → Boxed (W.putObj D (.deferred none)) B t v := fun hB g => Eq.trans (World.putObj_heap_other (by omega)) g
   refine ⟨by simp, .inl ⟨_, _, rfl, run_takeDeferred hK, ?_⟩⟩
   exact ⟨_, Rd.res (hw' (by omega) k1) (hw' (by omega) k2) (hw' (by omega) k3) _ rfl rfl rfl, ⟨r, rfl, hv⟩, k5.grown (grownBy_putObj' W D _ ) k5.size (fun k e => by cases e; omega)⟩
end Go.Proofs
set_option linter.unusedVariables false
namespace Go.Q
open Go Go.T Go.Ab Go.Proofs
noncomputable def F110 (s : ByteArray) : Option (Int × (Int × Int)) := if s.size ≤ 4611686018427387904 then some (Rd.val s) else none
noncomputable def c110 : Con := ⟨110, [.str], [], .tup (.pr (.int .u64) (.pr (.int .i64) (.int .i64))), [], F110, none⟩
theorem ok110 : @zAu ⟨False⟩ Try.prog c110 := by
 letI : Go.Ab.DM := ⟨False⟩
 refine con_pure rfl rfl (fun (x : ByteArray) v hv => ?_) (fun y => rfl) fun (x : ByteArray) hx => ?_
 · have hv : v ∈ [(⟨.str, x⟩ : TV)] := hv
   simp only [List.mem_cons, List.not_mem_nil, or_false] at hv
   subst hv; rfl
 · obtain ⟨y, hy⟩ := hx
   have hc : x.size ≤ 4611686018427387904 := by
     have hy : F110 x = some y := hy
     unfold F110 at hy
     split at hy
     · assumption
     · cases hy
   have hF : F110 x = some (Rd.val x) := if_pos hc
   refine ⟨⟨Try.f110, Try.func110, by kernel_rfl, by kernel_rfl⟩, fun own X w vs hs hv => ?_⟩
   have hv : zCG own [] X w [.v (.string x)] vs := hv
   simp only [zCG, VRels, VRel] at hv
   obtain ⟨_, _, rfl, rfl, rfl⟩ := hv
   refine Calls.mono (callsIn_wide.1 (Rd.read_in Fence.wide 3 trivial trivial trivial rfl (by omega) x hc w)) ?_
   rintro e w' ⟨⟨r, rfl, rfl⟩, hb⟩
   obtain ⟨h1, h2⟩ := Sim.outlives (own' := own) (X' := X) hs (fun b hb => hb) (fun b hb' => hb.block b hb') hb.size ⟨hb.os, hb.output, hb.tape, fun h => h.elim⟩
   exact ⟨own, .tup [.v (.int .u64 (Rd.val x).1), .v (.int .i64 (Rd.val x).2.1), .v (.int .i64 (Rd.val x).2.2)], [], _, rfl, h1, by simp [Rel, VRel, VRels], h2, rfl, Rd.val x, hF, rfl⟩
end Go.Q
set_option linter.unusedSectionVars false
namespace Go.Q
open Go Go.T Go.Ab Go.Proofs
instance : Go.Ab.DM := ⟨False⟩
noncomputable def F89 (x : ByteArray) : (Option (Int × (Int × Int))) :=
call (F110 x) fun (r0 : (Int × (Int × Int))) =>
sel (ine r0.2.2 0) (some (0, 0, r0.2.2)) <|
sel (ilt 1152921504606846976 r0.1) (some (0, 0, 12)) <|
some (zAV .i64 r0.1, r0.2.1, 0)
noncomputable def c89 : Con := ⟨89, [.str], [], .tup (.pr (.int .i64) (.pr (.int .i64) (.int .i64))), [], F89, none⟩
theorem ok89 : zAu Try.prog c89 := zCI hmix [c110] (zAY ok110 (zCD)) c89 Try.f89 (.o) Try.func89 (by kernel_rfl) (by kernel_rfl) (by kernel_rfl) rfl (fun x => by kernel_rfl) (fun x => ⟨by kernel_rfl, by kernel_rfl⟩)
noncomputable def F90 (x : ByteArray) : (Option (Int × (Int × Int))) :=
call (F110 x) fun (r0 : (Int × (Int × Int))) =>
sel (ine r0.2.2 0) (some (0, 0, r0.2.2)) <|
call (F111 r0.1) fun (r1 : Int) =>
call (F87 r1) fun (r2 : Bool) =>
sel (bnot r2) (some (0, 0, 12)) <|
some (r1, r0.2.1, 0)
noncomputable def c90 : Con := ⟨90, [.str], [], .tup (.pr (.int .i64) (.pr (.int .i64) (.int .i64))), [], F90, none⟩
theorem ok90 : zAu Try.prog c90 := zCI hmix [c110, c111, c87] (zAY ok110 (zAY ok111 (zAY ok87 (zCD)))) c90 Try.f90 (.o) Try.func90 (by kernel_rfl) (by kernel_rfl) (by kernel_rfl) rfl (fun x => by kernel_rfl) (fun x => ⟨by kernel_rfl, by kernel_rfl⟩)
noncomputable def F65 (x : ByteArray) : (Option ((List Int) × Int)) :=
call (F89 x) fun (r0 : (Int × (Int × Int))) =>
sel (ine r0.2.2 0) (some (([] : List Int), r0.2.2)) <|
sel (ilt 20000 r0.1) (some (([] : List Int), 4)) <|
need (mk 0 (imin r0.1 (n2i (zDS x))) 8) <|
join (iter (fun (s1 : (Int × (Int × (List Int)))) =>
sel (ilt s1.2.1 r0.1) (need (inS s1.1 (n2i (zDS x)) (zDS x)) <|
call (F90 (ssub x s1.1 (n2i (zDS x)))) fun (r2 : (Int × (Int × Int))) =>
sel (ine r2.2.2 0) (some (.inr (.inr (([] : List Int), r2.2.2)))) <|
need (room (nadd (zAr s1.2.2) (zAr (r2.1 :: ([] : List Int)))) 8) <|
some (.inl (zAw .i64 s1.1 r2.2.1, zAw .i64 s1.2.1 1, lcat s1.2.2 (r2.1 :: ([] : List Int))))) <|
some (.inr (.inl (s1.1, s1.2.2)))) (r0.2.1, 0, lrep 0 0)) fun (j3 : (Int × (List Int))) =>
sel (ine j3.1 (n2i (zDS x))) (some (([] : List Int), 12)) <|
some (j3.2, 0)
noncomputable def c65 : Con := ⟨65, [.str], [], .tup (.pr (.sl (.int .i64)) (.int .i64)), [], F65, none⟩
theorem ok65 : zAu Try.prog c65 := zCI hmix [c89, c90] (zAY ok89 (zAY ok90 (zCD))) c65 Try.f65 (.n .o (.n .o (.n .o (.n .o (.n .o (.n (.n .o (.jb ⟨[0], [(5, .int .i64), (7, .own 0)], [(0, .many (.int .i64))], 1, 0⟩ (.l ⟨[0, 27], [(5, .int .i64), (7, .own 0), (28, .int .i64)], [(0, .many (.int .i64))], 1, 1⟩ .o))) .o)))))) Try.func65 (by kernel_rfl) (by kernel_rfl) (by kernel_rfl) rfl (fun x => by kernel_rfl) (fun x => ⟨by kernel_rfl, by kernel_rfl⟩)
noncomputable def F31 (x : ByteArray) : (Option ((Int × (Int × (Int × (List (Int × Int))))) × Int)) :=
call (F65 x) fun (r0 : ((List Int) × Int)) =>
need (impl (bnot (zAK (ine r0.2 0) true (ilt (n2i (zAr r0.1)) 2))) (ine 2 0)) <|
sel (zAK (zAK (zAK (ine r0.2 0) true (ilt (n2i (zAr r0.1)) 2)) true (ine (irem (n2i (zAr r0.1)) 2) 0)) true (ilt 4002 (n2i (zAr r0.1)))) (some ((0, 0, 0, ([] : List (Int × Int))), 12)) <|
need (inL 0 (zAr r0.1)) <|
need (inL 1 (zAr r0.1)) <|
join (iter (fun (s1 : (Int × ((Int × (Int × (Int × PUnit))) × (List (Int × Int))))) =>
sel (ilt s1.1 (n2i (zAr r0.1))) (need (inL (zAw .i64 s1.1 1) (zAr r0.1)) <|
need (impl (bnot (ilt (zBB 0 r0.1 (i2n (zAw .i64 s1.1 1))) 1)) (inL (zAw .i64 s1.1 1) (zAr r0.1))) <|
sel (zAK (ilt (zBB 0 r0.1 (i2n (zAw .i64 s1.1 1))) 1) true (ilt 1099511627776 (zBB 0 r0.1 (i2n (zAw .i64 s1.1 1))))) (some (.inr (.inr ((0, 0, 0, ([] : List (Int × Int))), 12)))) <|
need (inL s1.1 (zAr r0.1)) <|
need (inL (zAw .i64 s1.1 1) (zAr r0.1)) <|
need (room (nadd (zAr s1.2.2) (zAr ((zBB 0 r0.1 (i2n s1.1), zBB 0 r0.1 (i2n (zAw .i64 s1.1 1))) :: ([] : List (Int × Int))))) 16) <|
need (inL (zAw .i64 s1.1 1) (zAr r0.1)) <|
some (.inl (zAw .i64 s1.1 2, (s1.2.1.1, s1.2.1.2.1, zAw .i64 s1.2.1.2.2.1 (zBB 0 r0.1 (i2n (zAw .i64 s1.1 1))), ()), lcat s1.2.2 ((zBB 0 r0.1 (i2n s1.1), zBB 0 r0.1 (i2n (zAw .i64 s1.1 1))) :: ([] : List (Int × Int)))))) <|
some (.inr (.inl ((s1.2.1.1, s1.2.1.2.1, s1.2.1.2.2.1, ()), s1.2.2)))) (2, (zBB 0 r0.1 (i2n 0), zBB 0 r0.1 (i2n 1), 0, ()), ([] : List (Int × Int)))) fun (j2 : ((Int × (Int × (Int × PUnit))) × (List (Int × Int)))) =>
call (F20 (j2.1.1, j2.1.2.1, j2.1.2.2.1, j2.2)) fun (r3 : Int) =>
sel (ine r3 0) (some ((0, 0, 0, ([] : List (Int × Int))), 12)) <|
some ((j2.1.1, j2.1.2.1, j2.1.2.2.1, j2.2), 0)
noncomputable def c31 : Con := ⟨31, [.str], [], .tup (.pr (.agg (.pr (.int .i64) (.pr (.int .i64) (.pr (.int .i64) (.sl (.agg (.pr (.int .i64) (.int .i64)))))))) (.int .i64)), [], F31, none⟩
theorem ok31 : zAu Try.prog c31 := zCI hmix [c65, c20] (zAY ok65 (zAY ok20 (zCD))) c31 Try.f31 (.n .o (.n .o (.n .o (.n (.r [0, 1, 2, 3, 4, 5, 6, 7, 8]) (.n (.n .o (.jb ⟨[2, 6], [], [(1, .one (.agg (.pr (.int .i64) (.pr (.int .i64) (.pr (.int .i64) (.own 2)))))), (2, .lst (.agg (.pr (.int .i64) (.int .i64))))], 3, 0⟩ (.l ⟨[2, 4, 6], [(7, .int .i64)], [(1, .one (.agg (.pr (.int .i64) (.pr (.int .i64) (.pr (.int .i64) (.own 2)))))), (2, .lst (.agg (.pr (.int .i64) (.int .i64))))], 3, 1⟩ (.n .o (.n (.b (.n .o (.n (.r [0, 1, 2, 3, 4, 5, 6, 7, 8, 9, 10, 11, 12, 13, 14, 15]) (.r [0, 1, 2, 3, 4, 5, 6, 7, 8, 9])))) .o))))) .o))))) Try.func31 (by kernel_rfl) (by kernel_rfl) (by kernel_rfl) rfl (fun x => by kernel_rfl) (fun x => ⟨by kernel_rfl, by kernel_rfl⟩)
noncomputable def F8 (x : ((Int × (Int × (Int × (List (Int × Int))))) × ByteArray)) : (Option Bool) :=
call (F11 x.1) fun (r0 : Bool) =>
sel (zAK r0 true (ilt 300 (n2i (zDS x.2)))) (call (F12 ()) fun (r1 : Bool) =>
some r1) <|
call (F30 x.1) fun (r2 : (ByteArray × Int)) =>
join (call (F21 x.1) fun (r3 : Int) =>
sel (ieq r3 0) (call (F31 r2.1) fun (r4 : ((Int × (Int × (Int × (List (Int × Int))))) × Int)) =>
call (sel (bnot (zAK (ine r2.2 0) true (ine r4.2 0))) (F15 (x.1, r4.1)) <|
some false) fun (r5 : Bool) =>
sel (zAK (zAK (ine r2.2 0) true (ine r4.2 0)) true (bnot r5)) (some (.inr false)) <|
some (.inl ())) <|
sel (zAK (ine r2.2 1) true (bnot (seq r2.1 (⟨#[]⟩ : ByteArray)))) (some (.inr false)) <|
some (.inl ())) fun (j6 : PUnit) =>
call (F31 x.2) fun (r7 : ((Int × (Int × (Int × (List (Int × Int))))) × Int)) =>
sel (ine r7.2 0) (call (sel (ieq r7.2 12) (F15 (r7.1, 0, 0, 0, ([] : List (Int × Int)))) <|
some false) fun (r8 : Bool) =>
call (sel (zAK (ieq r7.2 12) r8 false) (F12 ()) <|
some false) fun (r9 : Bool) =>
some (zAK (zAK (ieq r7.2 12) r8 false) r9 false)) <|
call (F30 r7.1) fun (r10 : (ByteArray × Int)) =>
call (sel (zAK (ieq r10.2 0) (seq r10.1 x.2) false) (F12 ()) <|
some false) fun (r11 : Bool) =>
some (zAK (zAK (ieq r10.2 0) (seq r10.1 x.2) false) r11 false)
noncomputable def c8 : Con := ⟨8, [.agg (.pr (.int .i64) (.pr (.int .i64) (.pr (.int .i64) (.sl (.agg (.pr (.int .i64) (.int .i64))))))), .str], [], .bool, [], F8, none⟩
theorem ok8 : zAu Try.prog c8 := zCI hmix [c11, c12, c30, c21, c31, c15] (zAY ok11 (zAY ok12 (zAY ok30 (zAY ok21 (zAY ok31 (zAY ok15 (zCD))))))) c8 Try.f8 (.n .o (.n .o (.n .o (.j ⟨[1], [], [], 0, 0⟩ .o .o)))) Try.func8 (by kernel_rfl) (by kernel_rfl) (by kernel_rfl) rfl (fun x => by kernel_rfl) (fun x => ⟨by kernel_rfl, by kernel_rfl⟩)
end Go.Q
set_option linter.unusedSimpArgs false
namespace Go.Q
open Go Go.T Go.Pl Go.Proofs Go.Proofs.Qd
variable [Go.Ab.DM]
theorem ishr_u (y k : Nat) (hk : k ≤ 64) : ishr .u64 (y : Int) (k : Int) = ((y / 2 ^ k : Nat) : Int) := by
 unfold ishr
 have e : min (k : Int).toNat IntKind.u64.bits = k := by simp [IntKind.bits]; omega
 have e2 : (2 : Int) ^ k = ((2 ^ k : Nat) : Int) := by simp
 rw [e, e2]
 generalize 2 ^ k = m
 rw [Int.fdiv_eq_ediv_of_nonneg _ (by omega)]; simp
theorem tab_fin {y : Nat} {n : Int} (hn : 0 ≤ n ∧ n ≤ 64) (h : y < 256) : need (inL (zAV .u8 (y : Int)) (zDS tab8)) (some (zAw .i64 n (zAV .i64 (sget tab8 (zAV .u8 (y : Int)))))) = some (n + blen y) := by
 have e : zAV .u8 (y : Int) = (y : Int) := u8w h
 rw [zBH]
 · exact congrArg some (fin8 hn h)
 · rw [e, show zDS tab8 = 256 by kernel_rfl]; exact inL_t h
theorem F105_eq (x : Nat) (hx : x < 18446744073709551616) : F105 (x : Int) = some (blen x : Int) := by
 unfold F105
 have step : ∀ (a y : Nat) (k : Nat) (hk : k ≤ 64) {R : Type} (K : Int × Int → Option R) (r : R), (2 ^ k ≤ y → K (((y / 2 ^ k : Nat) : Int), ((a + k : Nat) : Int)) = some r) → (y < 2 ^ k → K ((y : Int), (a : Int)) = some r) → a + k ≤ 64 →
     join (sel (ile ((2 ^ k : Nat) : Int) y) (need (ile 0 (k : Int)) (some (.inl (ishr .u64 y k, zAw .i64 a k)))) (some (.inl ((y : Int), (a : Int))))) K = some r := by
   intro a y k hk R K r h1 h2 h3
   rw [ile_d, sel_i, zBH (by rw [ile_d]; simp), ishr_u y k hk, zCK (by omega) (by omega)]
   split
   · rename_i h; rw [join_bl]; have := h1 (by exact_mod_cast h); simpa using this
   · rename_i h; rw [join_bl]; exact h2 (by have : ¬ (2 ^ k ≤ y) := fun h' => h (by exact_mod_cast h'); omega)
 have last : ∀ (a y : Nat), a ≤ 64 → y < 256 → blen y + a = blen x → need (inL (zAV .u8 (y : Int)) (zDS tab8)) (some (zAw .i64 (a : Int) (zAV .i64 (sget tab8 (zAV .u8 (y : Int)))))) = some ((blen x : Nat) : Int) := by
   intro a y ha hy he
   rw [tab_fin (by omega) hy]; congr 1; omega
 have two : ∀ (a y : Nat), a ≤ 48 → y < 65536 → blen y + a = blen x → join (sel (ile 256 (y : Int)) (need (ile 0 8) (some (.inl (ishr .u64 y 8, zAw .i64 a 8)))) (some (.inl ((y : Int), (a : Int))))) (fun j2 : Int × Int => need (inL (zAV .u8 j2.1) (zDS tab8)) (some (zAw .i64 j2.2 (zAV .i64 (sget tab8 (zAV .u8 j2.1)))))) = some ((blen x : Nat) : Int) := by
   intro a y ha hy he
   refine step a y 8 (by omega) _ _ (fun h => last (a + 8) _ (by omega) (by omega) ?_) (fun h => last a y (by omega) (by omega) he) (by omega)
   rw [← he, ← blen_shr 8 h]; omega
 have three : ∀ (a y : Nat), a ≤ 32 → y < 4294967296 → blen y + a = blen x → join (sel (ile 65536 (y : Int)) (need (ile 0 16) (some (.inl (ishr .u64 y 16, zAw .i64 a 16)))) (some (.inl ((y : Int), (a : Int))))) (fun j1 : Int × Int => join (sel (ile 256 j1.1) (need (ile 0 8) (some (.inl (ishr .u64 j1.1 8, zAw .i64 j1.2 8)))) (some (.inl (j1.1, j1.2)))) (fun j2 : Int × Int => need (inL (zAV .u8 j2.1) (zDS tab8)) (some (zAw .i64 j2.2 (zAV .i64 (sget tab8 (zAV .u8 j2.1))))))) = some ((blen x : Nat) : Int) := by
   intro a y ha hy he
   refine step a y 16 (by omega) _ _ (fun h => two (a + 16) _ (by omega) (by omega) ?_) (fun h => two a y (by omega) (by omega) he) (by omega)
   rw [← he, ← blen_shr 16 h]; omega
 refine step 0 x 32 (by omega) _ _ (fun h => three 32 _ (by omega) (by omega) ?_) (fun h => three 0 x (by omega) (by omega) rfl) (by omega)
 rw [← blen_shr 32 h]
theorem F71_eq (x : Nat) (hx : x < 18446744073709551616) : F71 (x : Int) = some (blen x : Int) := by
 unfold F71
 rw [sel_f rfl, F105_eq x hx]; rfl
def sh (w x : Nat) : Nat := w + 1 - blen x
def LO (w x : Nat) : Int := ((x * 2 ^ sh w x : Nat) : Int) - (2 ^ w : Nat)
def HI (w x : Nat) : Int := (((x + 1) * 2 ^ sh w x : Nat) : Int) - (2 ^ w : Nat) - 1
theorem blen_pos {x : Nat} (h : 1 ≤ x) : 1 ≤ blen x ∧ 2 ^ (blen x - 1) ≤ x ∧ x < 2 ^ blen x := by
 unfold blen
 rw [if_neg (by omega)]
 exact ⟨by omega, by simpa using Nat.log2_self_le (by omega), Nat.lt_log2_self⟩
theorem blen_of {x b : Nat} (h1 : 2 ^ b ≤ x) (h2 : x < 2 ^ (b + 1)) : blen x = b + 1 := by
 have h0 : x ≠ 0 := by have := Nat.two_pow_pos b; omega
 unfold blen
 rw [if_neg h0]
 congr 1
 exact (Nat.log2_eq_iff h0).2 ⟨h1, h2⟩
structure Nod (w x : Nat) : Prop where
 w1 : 1 ≤ w
 w2 : w ≤ 20
 x1 : 1 ≤ x
 x2 : x < 2 ^ (w + 1)
theorem pow21 {w : Nat} (h : w ≤ 20) : 2 ^ w ≤ 1048576 := Nat.le_trans (Nat.pow_le_pow_right (by decide) h) (by decide)
theorem Nod.le {w x : Nat} (h : Nod w x) : blen x ≤ w + 1 := by
 obtain ⟨h1, h2, h3⟩ := blen_pos h.x1
 rcases Nat.lt_or_ge (w + 1) (blen x) with h4 | h4
 · have : 2 ^ (w + 1) ≤ 2 ^ (blen x - 1) := Nat.pow_le_pow_right (by decide) (by omega)
   have := h.x2; omega
 · exact h4
theorem Nod.bounds {w x : Nat} (h : Nod w x) : 2 ^ w ≤ x * 2 ^ sh w x ∧ (x + 1) * 2 ^ sh w x ≤ 2 ^ (w + 1) ∧ sh w x ≤ w := by
 obtain ⟨h1, h2, h3⟩ := blen_pos h.x1
 have h4 := h.le
 have h5 : sh w x + (blen x - 1) = w := by unfold sh; omega
 have h6 : sh w x + blen x = w + 1 := by unfold sh; omega
 refine ⟨?_, ?_, by omega⟩
 · have e : 2 ^ w = 2 ^ (blen x - 1) * 2 ^ sh w x := by rw [← Nat.pow_add, Nat.add_comm, h5]
   rw [e]; exact Nat.mul_le_mul_right _ h2
 · have e : 2 ^ (w + 1) = 2 ^ blen x * 2 ^ sh w x := by rw [← Nat.pow_add]; congr 1; omega
   rw [e]; exact Nat.mul_le_mul_right _ h3
theorem ishl_n (a b : Nat) (hb : b ≤ 63) (h : a * 2 ^ b < 9223372036854775808) : zDJ .i64 (a : Int) (b : Int) = ((a * 2 ^ b : Nat) : Int) := by
 unfold zDJ
 have e : min (b : Int).toNat IntKind.i64.bits = b := by simp [IntKind.bits]; omega
 rw [e, show (a : Int) * 2 ^ b = ((a * 2 ^ b : Nat) : Int) by simp]
 exact zAp (by omega) (by omega)
theorem ishl_1 (w : Nat) (h : w ≤ 20) : zDJ .i64 1 (w : Int) = ((2 ^ w : Nat) : Int) := by
 have := pow21 h
 have := ishl_n 1 w (by omega) (by omega)
 simpa using this
theorem isub_s {a b : Int} (h1 : -9223372036854775808 ≤ a - b) (h2 : a - b < 9223372036854775808) : zDD .i64 a b = a - b := zAp h1 h2
theorem F54_eq {w x : Nat} (h : Nod w x) : F54 ((w : Int), (x : Int)) = some (LO w x, HI w x) := by
 obtain ⟨b1, b2, b3⟩ := h.bounds
 have p1 := pow21 h.w2
 have p2 : 2 ^ (w + 1) ≤ 2097152 := by rw [Nat.pow_succ]; omega
 have hw2 := h.w2
 have hx2 := h.x2
 have hle := h.le
 have hm : x * 2 ^ sh w x ≤ (x + 1) * 2 ^ sh w x := Nat.mul_le_mul_right _ (by omega)
 unfold F54
 have e1 : zAV .u64 (x : Int) = (x : Int) := by simp [zAV, IntKind.wrap, IntKind.signed, IntKind.bits]; omega
 dsimp only
 rw [e1, zBI (F71_eq x (by omega))]
 have e2 : zDD .i64 (zAw .i64 (w : Int) 1) (blen x : Int) = ((sh w x : Nat) : Int) := by
   rw [zCK (by omega) (by omega), isub_s (by omega) (by omega)]; unfold sh; omega
 have e3 : zAw .i64 (x : Int) 1 = ((x + 1 : Nat) : Int) := by rw [zCK (by omega) (by omega)]; omega
 rw [e2, e3, ishl_1 w hw2, ishl_n x _ (by omega) (by omega), ishl_n (x + 1) _ (by omega) (by omega)]
 rw [zBH (by rw [ile_d]; simp), zBH (by rw [ile_d]; simp), zBH (by rw [ile_d]; simp), zBH (by rw [ile_d]; simp)]
 unfold LO HI
 generalize x * 2 ^ sh w x = A at *
 generalize (x + 1) * 2 ^ sh w x = B at *
 rw [isub_s (by omega) (by omega), isub_s (a := (B : Int)) (by omega) (by omega), isub_s (by omega) (by omega)]
theorem Nod.dbl {w x : Nat} (h : Nod w x) (hn : 0 < sh w x) : Nod w (2 * x) ∧ Nod w (2 * x + 1) ∧ sh w (2 * x) + 1 = sh w x ∧ sh w (2 * x + 1) + 1 = sh w x ∧ x < 2 ^ w := by
 obtain ⟨h1, h2, h3⟩ := blen_pos h.x1
 have h4 : blen x ≤ w := by unfold sh at hn; omega
 have e : 2 ^ blen x = 2 * 2 ^ (blen x - 1) := by rw [← Nat.pow_succ']; congr 1; omega
 have b1 : blen (2 * x) = blen x + 1 := blen_of (by omega) (by rw [Nat.pow_succ]; omega)
 have b2 : blen (2 * x + 1) = blen x + 1 := blen_of (by omega) (by rw [Nat.pow_succ]; omega)
 have h5 : 2 ^ blen x ≤ 2 ^ w := Nat.pow_le_pow_right (by decide) h4
 have h6 : 2 ^ (w + 1) = 2 * 2 ^ w := by rw [Nat.pow_succ]; omega
 refine ⟨⟨h.w1, h.w2, by omega, by omega⟩, ⟨h.w1, h.w2, by omega, by omega⟩, ?_, ?_, by omega⟩
 · unfold sh; omega
 · unfold sh; omega
theorem Nod.top {w x : Nat} (h : Nod w x) (hn : sh w x = 0) : 2 ^ w ≤ x := by
 have := h.bounds.1; rw [hn] at this; simpa using this
theorem shl_two {bits : Int} (h : 1 ≤ bits ∧ bits ≤ 20) : shl 2 bits = ((2 ^ (bits.toNat + 1) : Nat) : Int) := by
 rw [shl_pow (by omega) (by omega), Nat.pow_succ]; simp; omega
theorem shl_one {bits : Int} (h : 1 ≤ bits ∧ bits ≤ 20) : shl 1 bits = ((2 ^ bits.toNat : Nat) : Int) := by
 rw [shl_pow (by omega) (by omega)]; simp
structure Dig (w : Nat) (k count : Int) (nodes : List Nd) : Prop where
 w1 : 1 ≤ w
 w2 : w ≤ 20
 k1 : 1 ≤ k
 k2 : k ≤ 10000
 c0 : 0 ≤ count
 c1 : count ≤ 1099511627776
 len : nodes.length ≤ 2000
 node : ∀ n ∈ nodes, (∃ x : Nat, n.1 = x ∧ Nod w x) ∧ 1 ≤ n.2 ∧ n.2 ≤ count
 inner : ∀ n ∈ nodes, n.1 < ((2 ^ w : Nat) : Int) → n.2 ≤ thr count k
 asc : nodes.Pairwise fun a b => a.1 < b.1
 sum : (nodes.map (·.2)).sum = count
theorem dig_of {bits k count : Int} {nodes : List Nd} (h : zBg bits k count nodes = 0) : bits = (bits.toNat : Int) ∧ Dig bits.toNat k count nodes := by
 obtain ⟨⟨b1, b2, b3, b4, b5, b6, b7⟩, hg, hs⟩ := qcheck_good h
 have hb : bits = (bits.toNat : Int) := by omega
 have s2 := shl_two ⟨b1, b2⟩
 have s1 := shl_one ⟨b1, b2⟩
 refine ⟨hb, ⟨by omega, by omega, b3, b4, b5, b6, by omega, fun n hn => ?_, fun n hn hlt => ?_, ?_, hs⟩⟩
 · obtain ⟨i, hi, rfl⟩ := List.getElem_of_mem hn
   have g1 := hg.low i hi
   have g2 := hg.high i hi
   refine ⟨⟨nodes[i].1.toNat, by omega, ⟨by omega, by omega, by omega, by omega⟩⟩, hg.one i hi⟩
 · obtain ⟨i, hi, rfl⟩ := List.getElem_of_mem hn
   exact hg.inner i hi (by omega)
 · rw [List.pairwise_iff_getElem]
   exact fun i j hi hj hij => hg.asc i j hij hj
def rkG (w : Nat) (v : Int) (st : Int × Int) (n : Nd) : Int × Int := (if HI w n.1.toNat ≤ v then st.1 + n.2 else st.1, if LO w n.1.toNat ≤ v then st.2 + n.2 else st.2)
def rankT (bits k count : Int) (nodes : List Nd) (v : Int) : Int × (Int × Int) :=
 if zBg bits k count nodes ≠ 0 then (0, 0, 1) else if v < 0 ∨ shl 1 bits ≤ v then (0, 0, 2) else
   ((nodes.foldl (rkG bits.toNat v) (0, 0)).1, (nodes.foldl (rkG bits.toNat v) (0, 0)).2, 0)
theorem fold_l {σ α E : Type} (g : σ → α → σ) (fin : σ → E) : ∀ (l : List α) (s : σ), foldE (fun s a => .inl (g s a)) fin l s = fin (l.foldl g s)
 | [], s => rfl
 | a :: l, s => fold_l g fin l (g s a)
theorem rk_inv {w : Nat} {v : Int} {i : Nat} {st : Int × Int} {n : Nd} (h : (0 ≤ st.1 ∧ st.1 ≤ i * 1099511627776) ∧ (0 ≤ st.2 ∧ st.2 ≤ i * 1099511627776)) (hn : 1 ≤ n.2 ∧ n.2 ≤ 1099511627776) :
   (0 ≤ (rkG w v st n).1 ∧ (rkG w v st n).1 ≤ (i + 1 : Nat) * 1099511627776) ∧ (0 ≤ (rkG w v st n).2 ∧ (rkG w v st n).2 ≤ (i + 1 : Nat) * 1099511627776) := by
 unfold rkG
 dsimp only
 constructor
 · split <;> omega
 · split <;> omega
theorem F22_eq (bits k count : Int) (nodes : List Nd) (v : Int) : F22 ((bits, k, count, nodes), v) = some (rankT bits k count nodes v) := by
 unfold F22 rankT
 rw [zBI (F20_eq bits k count nodes), ine_d, sel_i]
 by_cases h : zBg bits k count nodes ≠ 0
 · rw [if_pos h, if_pos h]
 rw [if_neg h, if_neg h]
 obtain ⟨hb, D⟩ := dig_of (by omega : zBg bits k count nodes = 0)
 dsimp only
 generalize bits.toNat = w at *
 subst hb
 rw [zBH (impl_t fun _ => by rw [ile_d]; simp)]
 simp only [pick_or, ilt_d, ile_d, ← Bool.decide_or, sel_i, ishl_shl]
 by_cases h2 : v < 0 ∨ shl 1 (w : Int) ≤ v
 · rw [if_pos h2, if_pos h2]
 rw [if_neg h2, if_neg h2]
 refine Eq.trans (join_of _ (iter_for nodes (fun st i => (st.1, st.2, i)) (fun s a => .inl (rkG w v s a)) (fun st => .inl st) (fun i st => (0 ≤ st.1 ∧ st.1 ≤ i * 1099511627776) ∧ (0 ≤ st.2 ∧ st.2 ≤ i * 1099511627776)) (0, 0) (by simp) ?_ ?_)) ?_
 · rintro i ⟨a, b⟩ hi hI
   have hlt : (i : Int) < nodes.length := by omega
   have hin : inL (i : Int) nodes.length = true := inL_t hi
   have hg : zBB (0, 0) nodes i = nodes[i] := lget_t hi
   obtain ⟨⟨x, hx, hX⟩, hc⟩ := D.node nodes[i] (List.getElem_mem hi)
   have hlen := D.len; have hc1 := D.c1
   have hinv := rk_inv (w := w) (v := v) hI (n := nodes[i]) ⟨hc.1, by omega⟩
   dsimp only at hI hinv ⊢
   simp only [n2i_c, llen_c, i2n_c, hg, hin, zBH, hlt, if_true]
   refine ⟨?_, fun st' h => by have := Sum.inl.inj h; subst this; exact hinv⟩
   unfold rkG at hinv ⊢
   generalize nodes[i] = n at *
   dsimp only at hinv ⊢
   rw [hx] at hinv ⊢
   rw [Int.toNat_natCast] at hinv ⊢
   rw [zBI (F54_eq hX)]
   dsimp only
   rw [zCK (a := (i : Int)) (by omega) (by omega), zCK (a := a) (by omega) (by omega), zCK (a := b) (by omega) (by omega)]
   by_cases p : HI w x ≤ v
   · by_cases q : LO w x ≤ v
     · rw [if_pos p, join_bl, if_pos q, if_pos p, if_pos q]; rfl
     · rw [if_pos p, join_bl, if_neg q, if_pos p, if_neg q]; rfl
   · by_cases q : LO w x ≤ v
     · rw [if_neg p, join_bl, if_pos q, if_neg p, if_pos q]; rfl
     · rw [if_neg p, join_bl, if_neg q, if_neg p, if_neg q]; rfl
 · intro st hI
   simp only [n2i_c, llen_c]
   rw [if_neg (by omega)]
 · rw [fold_l]; rfl
end Go.Q
namespace Go.Q
open Go Go.T Go.Pl Go.Proofs Go.Proofs.Qd
variable [Go.Ab.DM]
end Go.Q
namespace Go.Q
open Go Go.T Go.Pl Go.Proofs Go.Proofs.Qd
variable [Go.Ab.DM]
def Hf (n : Nat) (l : List Int) (k : Nat) : Prop := ∀ j, 0 < j → j < n → k ≤ (j - 1) / 2 → l.getD j 0 ≤ l.getD ((j - 1) / 2) 0
end Go.Q
namespace Go.Q
open Go Go.T Go.Pl Go.Proofs Go.Proofs.Qd
variable [Go.Ab.DM]
abbrev cn (M : KV Int) (j : Int) : Int := mget ieq 0 M j
abbrev chl (M : KV Int) (m : Int) : Int := cn M (2 * m) + cn M (2 * m + 1)
def can (th : Int) (M : KV Int) (m : Int) : Prop := chl M m ≠ 0 ∧ cn M m + chl M m ≤ th
def mrg (M : KV Int) (m : Int) : KV Int := mdel ieq (mdel ieq (mput ieq M m (cn M m + chl M m)) (2 * m)) (2 * m + 1)
def hiInd (w : Nat) (v id : Int) : Int := if HI w id.toNat ≤ v then 1 else 0
def loInd (w : Nat) (v id : Int) : Int := if LO w id.toNat ≤ v then 1 else 0
def dep (id : Int) : Nat := blen id.toNat
structure MInv (w : Nat) (th count : Int) (nodes M : KV Int) : Prop where
 nod : (zCu M).Nodup
 node : ∀ id ∈ zCu M, (∃ x : Nat, id = x ∧ Nod w x) ∧ 1 ≤ cn M id ∧ cn M id ≤ count
 inner : ∀ id ∈ zCu M, id < ((2 ^ w : Nat) : Int) → cn M id ≤ th
 sum : wsum (fun _ => 1) M = count
 lo : ∀ v, wsum (hiInd w v) M ≤ wsum (hiInd w v) nodes
 hi : ∀ v, wsum (loInd w v) nodes ≤ wsum (loInd w v) M
section
variable {w : Nat} {th count : Int} {nodes M : KV Int} {m : Int}
theorem MInv.cn0 (h : MInv w th count nodes M) (j : Int) : 0 ≤ cn M j ∧ (j ∈ zCu M → 1 ≤ cn M j) ∧ (j ∉ zCu M → cn M j = 0) ∧ cn M j ≤ max count 0 := by
 by_cases hj : j ∈ zCu M
 · have := (h.node j hj).2; exact ⟨by omega, fun _ => this.1, fun h' => absurd hj h', by omega⟩
 · have : cn M j = 0 := get_out 0 hj
   exact ⟨by omega, fun h' => absurd h' hj, fun _ => this, by omega⟩
theorem MInv.can_nod (h : MInv w th count nodes M) (hm : 1 ≤ m) (hc : can th M m) (hw : 1 ≤ w ∧ w ≤ 20) : ∃ x : Nat, m = x ∧ Nod w x ∧ 0 < sh w x ∧ x < 2 ^ w := by
 have key : 2 * m ∈ zCu M ∨ 2 * m + 1 ∈ zCu M := by
   by_cases h1 : 2 * m ∈ zCu M
   · exact .inl h1
   by_cases h2 : 2 * m + 1 ∈ zCu M
   · exact .inr h2
   exact absurd (show chl M m = 0 by show cn M (2 * m) + cn M (2 * m + 1) = 0; rw [(h.cn0 _).2.2.1 h1, (h.cn0 _).2.2.1 h2]; rfl) hc.1
 have hp : 2 ^ (w + 1) = 2 * 2 ^ w := by rw [Nat.pow_succ]; omega
 have hx : m.toNat < 2 ^ w := by
   rcases key with h1 | h1
   · obtain ⟨⟨y, hy, hY⟩, _⟩ := h.node _ h1; have := hY.x2; omega
   · obtain ⟨⟨y, hy, hY⟩, _⟩ := h.node _ h1; have := hY.x2; omega
 have hN : Nod w m.toNat := ⟨hw.1, hw.2, by omega, by omega⟩
 refine ⟨m.toNat, by omega, hN, ?_, hx⟩
 rcases Nat.eq_zero_or_pos (sh w m.toNat) with h0 | h0
 · have := hN.top h0; omega
 · exact h0
theorem hi_child {x : Nat} (h : Nod w x) (hs : 0 < sh w x) : HI w (2 * x) ≤ HI w x ∧ HI w (2 * x + 1) = HI w x ∧ LO w (2 * x) = LO w x ∧ LO w x ≤ LO w (2 * x + 1) := by
 obtain ⟨h1, h2, h3, h4, h5⟩ := h.dbl hs
 have e1 : sh w (2 * x) = sh w x - 1 := by omega
 have e2 : sh w (2 * x + 1) = sh w x - 1 := by omega
 obtain ⟨s, hsx⟩ : ∃ s, sh w x = s + 1 := ⟨sh w x - 1, by omega⟩
 have p : 2 ^ (s + 1) = 2 * 2 ^ s := by rw [Nat.pow_succ]; omega
 unfold HI LO
 rw [e1, e2, hsx, Nat.add_sub_cancel, p]
 have a1 : (x + 1) * (2 * 2 ^ s) = (2 * x + 1 + 1) * 2 ^ s := by rw [← Nat.mul_assoc]; congr 1; omega
 have a2 : x * (2 * 2 ^ s) = 2 * x * 2 ^ s := by rw [← Nat.mul_assoc]; congr 1; omega
 have a3 : (2 * x + 1) * 2 ^ s ≤ (2 * x + 1 + 1) * 2 ^ s := Nat.mul_le_mul_right _ (by omega)
 have a4 : 2 * x * 2 ^ s ≤ (2 * x + 1) * 2 ^ s := Nat.mul_le_mul_right _ (by omega)
 rw [a1, a2]
 refine ⟨by omega, rfl, rfl, by omega⟩
theorem get_mrg (hn : (zCu M).Nodup) (j : Int) : cn (mrg M m) j = if j = 2 * m + 1 then 0 else if j = 2 * m then 0 else if j = m then cn M m + chl M m else cn M j := by
 unfold cn mrg
 rw [get_del 0 (nodup_del (nodup_put hn _ _) _), get_del 0 (nodup_put hn _ _), get_put]
theorem keys_mrg (hn : (zCu M).Nodup) (j : Int) : j ∈ zCu (mrg M m) ↔ j ≠ 2 * m + 1 ∧ j ≠ 2 * m ∧ (j = m ∨ j ∈ zCu M) := by
 unfold mrg
 rw [mem_del (nodup_del (nodup_put hn _ _) _), mem_del (nodup_put hn _ _), mem_put]
theorem wsum_mrg (g : Int → Int) (hn : (zCu M).Nodup) (hm : 1 ≤ m) : wsum g (mrg M m) = wsum g M + chl M m * g m - cn M (2 * m) * g (2 * m) - cn M (2 * m + 1) * g (2 * m + 1) := by
 unfold mrg
 rw [wsum_del, wsum_del, wsum_put, get_del 0 (nodup_put hn _ _), if_neg (by omega), get_put, get_put, if_neg (by omega), if_neg (by omega)]
 show wsum g M + (cn M m + chl M m - cn M m) * g m - _ - _ = _
 rw [show cn M m + chl M m - cn M m = chl M m by omega]
theorem MInv.mrg (h : MInv w th count nodes M) (hm : 1 ≤ m) (hc : can th M m) (hw : 1 ≤ w ∧ w ≤ 20) (hth : th ≤ count) : MInv w th count nodes (mrg M m) := by
 obtain ⟨x, rfl, hX, hs, hlt⟩ := h.can_nod hm hc hw
 obtain ⟨c1, c2⟩ := hc
 have a0 := (h.cn0 (2 * x)).1
 have b0 := (h.cn0 (2 * x + 1)).1
 have m0 := (h.cn0 x).1
 have hch : 1 ≤ chl M x := by have : 0 ≤ chl M x := by show 0 ≤ cn M _ + cn M _; omega
                              omega
 have hi := hi_child hX hs
 have t1 : ((x : Int)).toNat = x := Int.toNat_natCast x
 have t2 : (2 * (x : Int)).toNat = 2 * x := by omega
 have t3 : (2 * (x : Int) + 1).toNat = 2 * x + 1 := by omega
 refine ⟨?_, fun j hj => ?_, fun j hj hlj => ?_, ?_, fun v => ?_, fun v => ?_⟩
 · exact nodup_del (nodup_del (nodup_put h.nod _ _) _) _
 · obtain ⟨g1, g2, g3⟩ := (keys_mrg h.nod j).1 hj
   rw [get_mrg h.nod, if_neg g1, if_neg g2]
   by_cases e : j = x
   · subst e; rw [if_pos rfl]; exact ⟨⟨x, rfl, hX⟩, by omega, by omega⟩
   · rw [if_neg e]; exact h.node j (g3.resolve_left e)
 · obtain ⟨g1, g2, g3⟩ := (keys_mrg h.nod j).1 hj
   rw [get_mrg h.nod, if_neg g1, if_neg g2]
   by_cases e : j = x
   · subst e; rw [if_pos rfl]; exact c2
   · rw [if_neg e]; exact h.inner j (g3.resolve_left e) hlj
 · rw [wsum_mrg _ h.nod hm, h.sum]
   show count + (cn M _ + cn M _) * 1 - _ * 1 - _ * 1 = count
   omega
 · rw [wsum_mrg _ h.nod hm]
   have h0 := h.lo v
   refine Int.le_trans ?_ h0
   have i1 : hiInd w v x ≤ hiInd w v (2 * x) := by
     unfold hiInd; rw [t1, t2]; split <;> split <;> omega
   have i2 : hiInd w v x ≤ hiInd w v (2 * x + 1) := by
     unfold hiInd; rw [t1, t3]; split <;> split <;> omega
   have j1 := Int.mul_le_mul_of_nonneg_left i1 a0
   have j2 := Int.mul_le_mul_of_nonneg_left i2 b0
   have e : chl M x * hiInd w v x = cn M (2 * x) * hiInd w v x + cn M (2 * x + 1) * hiInd w v x := Int.add_mul _ _ _
   omega
 · rw [wsum_mrg _ h.nod hm]
   have h0 := h.hi v
   refine Int.le_trans h0 ?_
   have i1 : loInd w v (2 * x) ≤ loInd w v x := by
     unfold loInd; rw [t1, t2]; split <;> split <;> omega
   have i2 : loInd w v (2 * x + 1) ≤ loInd w v x := by
     unfold loInd; rw [t1, t3]; split <;> split <;> omega
   have j1 := Int.mul_le_mul_of_nonneg_left i1 a0
   have j2 := Int.mul_le_mul_of_nonneg_left i2 b0
   have e : chl M x * loInd w v x = cn M (2 * x) * loInd w v x + cn M (2 * x + 1) * loInd w v x := Int.add_mul _ _ _
   omega
theorem MInv.dep (h : MInv w th count nodes M) (hm : 1 ≤ m) (hc : can th M m) (hw : 1 ≤ w ∧ w ≤ 20) : ksum dep (Q.mrg M m) + 1 ≤ ksum dep M := by
 obtain ⟨x, rfl, hX, hs, hlt⟩ := h.can_nod hm hc hw
 obtain ⟨d1, d2, d3, d4, _⟩ := hX.dbl hs
 have l0 := hX.le; have l1 := d1.le; have l2 := d2.le
 have e2 : Q.dep (2 * (x : Int)) = Q.dep x + 1 := by
   unfold Q.dep
   rw [show (2 * (x : Int)).toNat = 2 * x by omega, Int.toNat_natCast]
   unfold sh at d3 hs; omega
 have e3 : Q.dep (2 * (x : Int) + 1) = Q.dep x + 1 := by
   unfold Q.dep
   rw [show (2 * (x : Int) + 1).toNat = 2 * x + 1 by omega, Int.toNat_natCast]
   unfold sh at d4 hs; omega
 have hp := nodup_put h.nod (x : Int) (cn M x + chl M x)
 have s1 := ksum_put Q.dep M (x : Int) (cn M x + chl M x)
 have s2 := ksum_del Q.dep (mput ieq M (x : Int) (cn M x + chl M x)) (2 * x)
 have s3 := ksum_del Q.dep (mdel ieq (mput ieq M (x : Int) (cn M x + chl M x)) (2 * x)) (2 * x + 1)
 have k2 : 2 * (x : Int) ∈ zCu (mput ieq M (x : Int) (cn M x + chl M x)) ↔ 2 * (x : Int) ∈ zCu M := by rw [mem_put]; exact ⟨fun h' => h'.resolve_left (by omega), .inr⟩
 have k3 : 2 * (x : Int) + 1 ∈ zCu (mdel ieq (mput ieq M (x : Int) (cn M x + chl M x)) (2 * x)) ↔ 2 * (x : Int) + 1 ∈ zCu M := by
   rw [mem_del hp, mem_put]; exact ⟨fun h' => h'.2.resolve_left (by omega), fun h' => ⟨by omega, .inr h'⟩⟩
 have key : 2 * (x : Int) ∈ zCu M ∨ 2 * (x : Int) + 1 ∈ zCu M := by
   by_cases h1 : 2 * (x : Int) ∈ zCu M
   · exact .inl h1
   by_cases h2 : 2 * (x : Int) + 1 ∈ zCu M
   · exact .inr h2
   exact absurd (show chl M x = 0 by show cn M (2 * x) + cn M (2 * x + 1) = 0; rw [(h.cn0 _).2.2.1 h1, (h.cn0 _).2.2.1 h2]; rfl) hc.1
 rw [e2] at s2; rw [e3] at s3
 simp only [k2] at s2
 simp only [k3] at s3
 show ksum Q.dep (mdel ieq (mdel ieq (mput ieq M (x : Int) (cn M x + chl M x)) (2 * x)) (2 * x + 1)) + 1 ≤ _
 generalize ksum Q.dep (mdel ieq (mdel ieq (mput ieq M (x : Int) (cn M x + chl M x)) (2 * x)) (2 * x + 1)) = A at *
 generalize ksum Q.dep (mdel ieq (mput ieq M (x : Int) (cn M x + chl M x)) (2 * x)) = B at *
 generalize ksum Q.dep (mput ieq M (x : Int) (cn M x + chl M x)) = C at *
 have : C ≤ ksum Q.dep M + Q.dep x := by rw [s1]; split <;> omega
 rcases key with h1 | h1
 · rw [if_pos h1] at s2; omega
 · rw [if_pos h1] at s3; omega
end
end Go.Q
namespace Go.Q
open Go Go.T Go.Pl Go.Proofs Go.Proofs.Qd
variable [Go.Ab.DM]
noncomputable def body18 (x : Dg) (s5 : List Nd × List Int) : Option ((List Nd × List Int) ⊕ (List Nd ⊕ (Dg × Int))) :=
call (F47 s5.2) fun (r6 : Int) =>
sel (ilt 0 r6) (join (call (F48 s5.2) fun (r7 : (Int × (List Int))) =>
sel (zAK (ieq (zAw .i64 (mget ieq 0 s5.1 (zCa .i64 2 r7.1)) (mget ieq 0 s5.1 (zAw .i64 (zCa .i64 2 r7.1) 1))) 0) true (ilt (iquo .i64 x.2.2.1 x.2.1) (zAw .i64 (mget ieq 0 s5.1 r7.1) (zAw .i64 (mget ieq 0 s5.1 (zCa .i64 2 r7.1)) (mget ieq 0 s5.1 (zAw .i64 (zCa .i64 2 r7.1) 1)))))) (some (.inl (s5.1, r7.2))) <|
join (need (ile 0 x.1) <|
sel (ilt (zCa .i64 2 r7.1) (zDJ .i64 1 x.1)) (call (F49 (zCa .i64 2 r7.1, r7.2)) fun (r8 : (List Int)) =>
call (F49 (zAw .i64 (zCa .i64 2 r7.1) 1, r8)) fun (r9 : (List Int)) =>
some (.inl r9)) <|
some (.inl r7.2)) fun (j10 : (List Int)) =>
sel (ilt 1 r7.1) (need (ine 2 0) <|
call (F49 (iquo .i64 r7.1 2, j10)) fun (r11 : (List Int)) =>
some (.inl (mdel ieq (mdel ieq (mput ieq s5.1 r7.1 (zAw .i64 (mget ieq 0 s5.1 r7.1) (zAw .i64 (mget ieq 0 s5.1 (zCa .i64 2 r7.1)) (mget ieq 0 s5.1 (zAw .i64 (zCa .i64 2 r7.1) 1))))) (zCa .i64 2 r7.1)) (zAw .i64 (zCa .i64 2 r7.1) 1), r11))) <|
some (.inl (mdel ieq (mdel ieq (mput ieq s5.1 r7.1 (zAw .i64 (mget ieq 0 s5.1 r7.1) (zAw .i64 (mget ieq 0 s5.1 (zCa .i64 2 r7.1)) (mget ieq 0 s5.1 (zAw .i64 (zCa .i64 2 r7.1) 1))))) (zCa .i64 2 r7.1)) (zAw .i64 (zCa .i64 2 r7.1) 1), j10))) fun (j12 : ((List (Int × Int)) × (List Int))) =>
some (.inl (j12.1, j12.2))) <|
some (.inr (.inl s5.1))
section
variable {w : Nat} {k count : Int} {nodes nd0 : List Nd}
inductive Gr (th : Int) : List Nd → List Nd → Prop
 | done (M) : (∀ m, 1 ≤ m → ¬ can th M m) → Gr th M M
 | step (M m r) : 1 ≤ m → can th M m → (∀ y, 1 ≤ y → can th M y → y ≤ m) → Gr th (mrg M m) r → Gr th M r
end
end Go.Q
namespace Go.Q
open Go Go.T Go.Pl Go.Proofs Go.Proofs.Qd
variable [Go.Ab.DM]
def Asc (l : List Nd) : Prop := l.Pairwise fun a b => a.1 < b.1
theorem asc_unique : ∀ {l l' : List Nd}, Asc l → Asc l' → l.Perm l' → l = l'
 | [], l', _, _, h => (List.nil_perm.1 h).symm
 | a :: l, [], _, _, h => absurd h.length_eq (by simp)
 | a :: l, b :: l', ha, hb, h => by
   have ha' := List.pairwise_cons.1 ha
   have hb' := List.pairwise_cons.1 hb
   have e : a = b := by
     have h1 : a ∈ b :: l' := h.subset (by simp)
     have h2 : b ∈ a :: l := h.symm.subset (by simp)
     rcases List.mem_cons.1 h1 with h1 | h1
     · exact h1
     rcases List.mem_cons.1 h2 with h2 | h2
     · exact h2.symm
     have := ha'.1 b h2
     have := hb'.1 a h1
     omega
   subst e
   rw [asc_unique ha'.2 hb'.2 ((List.perm_cons a).1 h)]
theorem asc_nodup {l : List Nd} (h : Asc l) : (zCu l).Nodup := by
 unfold zCu
 rw [List.Nodup, List.pairwise_map]
 exact h.imp fun h e => by omega
theorem asc_of {l : List Nd} (h : (zCu l).Nodup) (hs : l.Pairwise fun a b => ∀ i j, key51 a = some i → key51 b = some j → i ≤ j) : Asc l := by
 unfold zCu at h
 rw [List.Nodup, List.pairwise_map] at h
 exact (List.Pairwise.and h hs).imp fun ⟨h1, h2⟩ => by have := h2 _ _ rfl rfl; omega
theorem callQ_of {A R : Type} {p : A → Prop} {k : A → Option R} {r : R} (h1 : ∃ a, p a) (h2 : ∀ a, p a → k a = some r) : callQ p k = some r := by
 have hx : (∃ a, p a) ∧ ∃ r, ∀ a, p a → k a = some r := ⟨h1, r, h2⟩
 unfold callQ
 rw [dif_pos hx]
 obtain ⟨a, ha⟩ := h1
 have := Classical.choose_spec hx.2 a ha
 rw [h2 a ha] at this
 exact this.symm
theorem mrange_of {A S E : Type} {l : List A} {B : A → S → Option (S ⊕ E)} {N : S → Option (S ⊕ E)} {s : S} {e : E} (h : ∀ l', l'.Perm l → foldM B N l' s = some e) : mrange l B N s = some e := by
 have hx : ∃ e, ∀ l', l'.Perm l → foldM B N l' s = some e := ⟨e, h⟩
 unfold mrange
 rw [dif_pos hx]
 have := Classical.choose_spec hx l (.refl _)
 rw [h l (.refl _)] at this
 exact this.symm
theorem foldM_app {E : Type} {N : List Nd → Option (List Nd ⊕ E)} {e : E} : ∀ (l s : List Nd), s.length + l.length ≤ 1000000 → N (s ++ l) = some (.inr e) →
   foldM (fun (p14 : (Int × Int)) (s15 : (List (Int × Int))) => need (room (nadd (zAr s15) (zAr ((p14.1, p14.2) :: ([] : List (Int × Int))))) 16) <| some (.inl (lcat s15 ((p14.1, p14.2) :: ([] : List (Int × Int)))))) N l s = some e
 | [], s, _, h => by
   rw [List.append_nil] at h
   rw [foldM, h]
 | a :: l, s, h, hN => by
   rw [List.length_cons] at h
   rw [foldM, zBH (by simp [room, nadd, zAr]; omega)]
   dsimp only
   exact foldM_app (N := N) l (s ++ [a]) (by simp; omega) (by simpa using hN)
def todo : List Nd → List Int
 | [] => []
 | n :: l => if 1 < n.1 then n.1 / 2 :: todo l else todo l
theorem thr_le {count k : Int} (hc : 0 ≤ count ∧ count ≤ 1099511627776) (hk : 1 ≤ k) : thr count k = count / k ∧ 0 ≤ thr count k ∧ thr count k ≤ count := by
 have e : count.tdiv k = count / k := Int.tdiv_eq_ediv_of_nonneg hc.1
 have h1 : count / k ≤ count := Int.ediv_le_self _ hc.1
 have h2 : 0 ≤ count / k := Int.ediv_nonneg hc.1 (by omega)
 have h3 : thr count k = count / k := by unfold thr; rw [e]; exact zAp (by omega) (by omega)
 omega
theorem cn_at {M : KV Int} (hn : (zCu M).Nodup) {n : Nd} (h : n ∈ M) : cn M n.1 = n.2 := ((mem_get 0 hn n.1 n.2).1 h).2
theorem Dig.inv {w : Nat} {k count : Int} {nodes : List Nd} (D : Dig w k count nodes) : MInv w (thr count k) count nodes nodes := by
 have hn : (zCu nodes).Nodup := asc_nodup D.asc
 have hk : ∀ id ∈ zCu nodes, ∃ n ∈ nodes, n.1 = id ∧ cn nodes id = n.2 := fun id hid => by
   obtain ⟨n, h1, rfl⟩ := List.mem_map.1 hid
   exact ⟨n, h1, rfl, cn_at hn h1⟩
 refine ⟨hn, fun id hid => ?_, fun id hid hlt => ?_, ?_, fun v => Int.le_refl _, fun v => Int.le_refl _⟩
 · obtain ⟨n, h1, rfl, h2⟩ := hk id hid
   rw [h2]; exact D.node n h1
 · obtain ⟨n, h1, rfl, h2⟩ := hk id hid
   rw [h2]; exact D.inner n h1 hlt
 · have : wsum (fun _ => 1) nodes = (nodes.map (·.2)).sum := by unfold wsum; simp
   rw [this]; exact D.sum
theorem Dig.ksum {w : Nat} {k count : Int} {nodes : List Nd} (D : Dig w k count nodes) : Pl.ksum dep nodes ≤ 42000 := by
 have : ∀ l : List Nd, (∀ n ∈ l, ∃ x : Nat, n.1 = x ∧ Nod w x) → Pl.ksum dep l ≤ 21 * l.length := by
   intro l
   induction l with
   | nil => intro _; exact Nat.le_refl _
   | cons n l ih =>
     intro h
     obtain ⟨x, hx, hX⟩ := h n (by simp)
     have h1 := ih fun m hm => h m (by simp [hm])
     have h2 : dep n.1 ≤ 21 := by unfold dep; rw [hx, Int.toNat_natCast]; have := hX.le; have := hX.w2; omega
     have e : Pl.ksum dep (n :: l) = dep n.1 + Pl.ksum dep l := by unfold Pl.ksum zCu; simp
     rw [e, List.length_cons]; omega
 have h := this nodes fun n hn => (D.node n hn).1
 have := D.len; omega
end Go.Q
namespace Go.Q
open Go Go.T Go.Pl Go.Proofs Go.Proofs.Qd
variable [Go.Ab.DM]
structure Cmpd (w : Nat) (k count : Int) (nodes r : List Nd) : Prop where
 inv : MInv w (thr count k) count nodes r
 asc : Asc r
 none : ∀ m, 1 ≤ m → ¬ can (thr count k) r m
 same : (∀ m, 1 ≤ m → ¬ can (thr count k) nodes m) → r = nodes
 len : r.length ≤ nodes.length
 gr : ∃ M, Gr (thr count k) nodes M ∧ r.Perm M
end Go.Q
namespace Go.Q
open Go Go.T Go.Pl Go.Proofs Go.Proofs.Qd
variable [Go.Ab.DM]
theorem join_it {S S' R : Type} {body : S → Option (S ⊕ (S' ⊕ R))} {s : S} {k : S' → Option R} (n : Nat) (s' : S') (h : iterN body n s = some (.inl s')) : join (iter body s) k = k s' := join_l (iter_of h)
theorem t39 : F39 (3, 2, [1, 1, 5, 6]) = some ((3, 2, 4, [(9, 2), (13, 1), (14, 1)]), true) := by
 unfold F39
 rw [zBI (show F13 (3, 2) = some ((3, 2, 0, []), 0) by kernel_rfl)]
 exact Eq.trans (join_it 6 (0, 3, 2, 4, [(9, 2), (13, 1), (14, 1)]) (by kernel_rfl)) rfl
theorem t18 : F18 (3, 2, 4, [(9, 2), (13, 1), (14, 1)]) = some ((3, 2, 4, [(2, 2), (3, 2)]), 0) := by
 unfold F18
 rw [zBI (F20_eq 3 2 4 [(9, 2), (13, 1), (14, 1)]), sel_f (by kernel_rfl), zBH (by kernel_rfl)]
 refine Eq.trans (join_it 5 ([(9, 2), (13, 1), (14, 1)], [4, 6, 7]) (by kernel_rfl)) ?_
 rw [zBI (show F46 [4, 6, 7] = some [7, 6, 4] by kernel_rfl), zBH (by kernel_rfl)]
 refine Eq.trans (join_it (body := body18 (3, 2, 4, [(9, 2), (13, 1), (14, 1)])) 40 [(3, 2), (2, 2)] (by kernel_rfl)) ?_
 rw [zBH (by kernel_rfl)]
 refine mrange_of fun l' hl' => ?_
 have hn := hl'.length_eq
 have hp : l'.Perm [(2, 2), (3, 2)] := hl'.trans (List.Perm.swap _ _ _)
 have hra : Asc [(2, 2), (3, 2)] := by unfold Asc; simp
 refine foldM_app l' _ (by rw [hn]; decide) ?_
 have hq : callQ (Q50 l') (fun (r17 : (List (Int × Int))) => some ((((3 : Int), (2 : Int), (4 : Int), r17), (0 : Int)) : Dg × Int)) = some ((3, 2, 4, [(2, 2), (3, 2)]), 0) := by
   refine callQ_of ⟨[(2, 2), (3, 2)], ⟨by rw [hn]; decide, fun n hm => ⟨n.1, rfl, ?_⟩, hp.symm, ?_⟩⟩ fun a ha => ?_
   · have := hp.subset hm
     simp at this
     rcases this with rfl | rfl <;> exact ⟨by decide, by decide⟩
   · exact hra.imp fun {a b} h i j hi hj => by
       have := Option.some.inj hi; have := Option.some.inj hj; omega
   · obtain ⟨_, _, a1, a2⟩ := ha
     have hna : (zCu a).Nodup := ((a1.trans hp).map _).symm.nodup_iff.1 (asc_nodup hra)
     rw [asc_unique (asc_of hna a2) hra (a1.trans hp)]
 show Go.T.up (callQ (Q50 l') _) = _
 rw [hq]; rfl
theorem key_unique {kf : Nd → Int} : ∀ {l r : List Nd}, (l.Pairwise fun a b => kf a < kf b) → (r.Pairwise fun a b => kf a ≤ kf b) → r.Perm l → r = l
 | [], r, _, _, h => List.perm_nil.1 h
 | a :: l, [], _, _, h => absurd h.length_eq (by simp)
 | a :: l, b :: r, ha, hb, h => by
   have ha' := List.pairwise_cons.1 ha
   have hb' := List.pairwise_cons.1 hb
   have e : b = a := by
     have h1 : b ∈ a :: l := h.subset (by simp)
     have h2 : a ∈ b :: r := h.symm.subset (by simp)
     rcases List.mem_cons.1 h1 with h1 | h1
     · exact h1
     rcases List.mem_cons.1 h2 with h2 | h2
     · exact h2.symm
     have := ha'.1 b h1
     have := hb'.1 a h2
     omega
   subst e
   rw [key_unique ha'.2 hb'.2 ((List.perm_cons b).1 h)]
theorem t22 : F22 ((3, 2, 4, [(2, 2), (3, 2)]), 5) = some (2, 4, 0) := (F22_eq _ _ _ _ _).trans (by kernel_rfl)
theorem t57 : F57 (1, 2) = some 0 := by
 unfold F57
 rw [sel_f (by kernel_rfl), sel_f (by kernel_rfl), zBI (show F82 1 = some 1 by kernel_rfl), zBI (a := 1) ?_]
 · rfl
 · unfold F81
   exact Eq.trans (join_it 5 1 (by kernel_rfl)) rfl
theorem t61a : F61a ([(2, 2), (3, 2)], 2, (), (3, 2, 4, [(2, 2), (3, 2)])) = some 0 := by
 unfold F61a
 have k1 : F59 ((2, 2), (3, 2, 4, [(2, 2), (3, 2)])) = some 0 := by kernel_rfl
 have k2 : F59 ((3, 2), (3, 2, 4, [(2, 2), (3, 2)])) = some 4 := by kernel_rfl
 have hpw : ([(2, 2), (3, 2)] : List Nd).Pairwise fun a b => (F59 (a, (3, 2, 4, [(2, 2), (3, 2)]))).getD 0 < (F59 (b, (3, 2, 4, [(2, 2), (3, 2)]))).getD 0 := by
   simp only [List.pairwise_cons, List.mem_singleton, forall_eq]
   rw [k1, k2]; simp
 have hdom : ∀ n ∈ ([(2, 2), (3, 2)] : List Nd), ∃ k, F59 (n, (3, 2, 4, [(2, 2), (3, 2)])) = some k ∧ keyOk k := fun n hn => by
   simp at hn
   rcases hn with rfl | rfl
   · exact ⟨_, k1, by decide, by decide⟩
   · exact ⟨_, k2, by decide, by decide⟩
 refine callQ_of ⟨[(2, 2), (3, 2)], by simp, by decide, hdom, .refl _, ?_⟩ fun r hr => ?_
 · exact hpw.imp fun {a b} h i j hi hj => by dsimp only at hi hj; rw [hi, hj] at h; simp at h; omega
 · obtain ⟨_, _, _, hp, hs⟩ := hr
   have hp : r.Perm [(2, 2), (3, 2)] := hp
   have : r = [(2, 2), (3, 2)] := key_unique hpw (hs.imp_of_mem fun {a b} ha hb h => by
     obtain ⟨i, hi, _⟩ := hdom a (hp.subset ha)
     obtain ⟨j, hj, _⟩ := hdom b (hp.subset hb)
     rw [hi, hj]; exact h i j hi hj) hp
   subst this
   exact Eq.trans (join_it 5 0 (by kernel_rfl)) rfl
theorem t61b : F61b ([(2, 2), (3, 2)], 2, (), (3, 2, 4, [(2, 2), (3, 2)])) = some 3 := by
 unfold F61b
 have k1 : F60 ((2, 2), (3, 2, 4, [(2, 2), (3, 2)])) = some 3 := by kernel_rfl
 have k2 : F60 ((3, 2), (3, 2, 4, [(2, 2), (3, 2)])) = some 7 := by kernel_rfl
 have hpw : ([(2, 2), (3, 2)] : List Nd).Pairwise fun a b => (F60 (a, (3, 2, 4, [(2, 2), (3, 2)]))).getD 0 < (F60 (b, (3, 2, 4, [(2, 2), (3, 2)]))).getD 0 := by
   simp only [List.pairwise_cons, List.mem_singleton, forall_eq]
   rw [k1, k2]; simp
 have hdom : ∀ n ∈ ([(2, 2), (3, 2)] : List Nd), ∃ k, F60 (n, (3, 2, 4, [(2, 2), (3, 2)])) = some k ∧ keyOk k := fun n hn => by
   simp at hn
   rcases hn with rfl | rfl
   · exact ⟨_, k1, by decide, by decide⟩
   · exact ⟨_, k2, by decide, by decide⟩
 refine callQ_of ⟨[(2, 2), (3, 2)], by simp, by decide, hdom, .refl _, ?_⟩ fun r hr => ?_
 · exact hpw.imp fun {a b} h i j hi hj => by dsimp only at hi hj; rw [hi, hj] at h; simp at h; omega
 · obtain ⟨_, _, _, hp, hs⟩ := hr
   have hp : r.Perm [(2, 2), (3, 2)] := hp
   have : r = [(2, 2), (3, 2)] := key_unique hpw (hs.imp_of_mem fun {a b} ha hb h => by
     obtain ⟨i, hi, _⟩ := hdom a (hp.subset ha)
     obtain ⟨j, hj, _⟩ := hdom b (hp.subset hb)
     rw [hi, hj]; exact h i j hi hj) hp
   subst this
   exact Eq.trans (join_it 5 3 (by kernel_rfl)) rfl
theorem t24 : F24 ((3, 2, 4, [(2, 2), (3, 2)]), 1, 2) = some (0, 3, 0) := by
 unfold F24
 rw [zBI (show F20 (3, 2, 4, [(2, 2), (3, 2)]) = some 0 from (F20_eq _ _ _ _).trans (by kernel_rfl))]
 rw [sel_t (show bnot (ine 0 0) = true by kernel_rfl), zBI t57, sel_f (by kernel_rfl), sel_f (by kernel_rfl), sel_f (by kernel_rfl), zBI (show F58 ((1, 2), 4) = some 2 by kernel_rfl)]
 exact Eq.trans (zBI t61a) (zBI t61b)
theorem t40 : F40 ([(2, 2), (3, 2)], [(2, 2), (3, 2)]) = some true := by
 unfold F40
 rw [sel_f (by kernel_rfl)]
 exact Eq.trans (join_it 5 () (by kernel_rfl)) rfl
theorem awake : F12 () = some true := by
 unfold F12
 rw [zBI t39, zBI t18, zBI t22, zBI t24, sel_t (by kernel_rfl), sel_t (by kernel_rfl), zBI t40]
 rfl
end Go.Q
namespace Go.Q
open Go Go.T Go.Pl Go.Proofs Go.Proofs.Qd
variable [Go.Ab.DM]
theorem chk_ok {bits count th : Int} : ∀ {l : List Nd} {before sum : Int}, (∀ n ∈ l, before < n.1 ∧ n.1 < shl 2 bits ∧ 1 ≤ n.2 ∧ n.2 ≤ count ∧ (n.1 < shl 1 bits → n.2 ≤ th)) → Asc l → chk bits count th l before sum = some (sum + (l.map (·.2)).sum)
 | [], before, sum, _, _ => by simp [chk]
 | n :: l, before, sum, h, ha => by
   obtain ⟨h1, h2, h3, h4, h5⟩ := h n (by simp)
   have ha' := List.pairwise_cons.1 ha
   rw [chk, if_neg (by omega), if_neg (by omega), chk_ok (fun m hm => ?_) ha'.2]
   · simp [Int.add_assoc]
   · obtain ⟨_, g⟩ := h m (by simp [hm])
     exact ⟨ha'.1 m hm, g⟩
theorem Cmpd.check {w : Nat} {k count : Int} {nodes r : List Nd} (D : Dig w k count nodes) (C : Cmpd w k count nodes r) : zBg (w : Int) k count r = 0 := by
 have hlen := C.len
 have := D.len; have := D.w1; have := D.w2; have := D.k1; have := D.k2; have := D.c0; have := D.c1
 have p2 := shl_two (bits := (w : Int)) ⟨by omega, by omega⟩
 have p1 := shl_one (bits := (w : Int)) ⟨by omega, by omega⟩
 rw [Int.toNat_natCast] at p1 p2
 unfold zBg
 rw [if_neg (by omega), if_neg (by omega), chk_ok (fun n hn => ?_) C.asc]
 · have hs : (r.map (·.2)).sum = count := by
     have := C.inv.sum
     unfold wsum at this
     simpa using this
   simp only [hs, Int.zero_add]
   rw [if_neg (by simp)]
 · have hk : n.1 ∈ zCu r := List.mem_map_of_mem hn
   have hc := cn_at C.inv.nod hn
   obtain ⟨⟨x, hx, hX⟩, h1, h2⟩ := C.inv.node n.1 hk
   have h3 := C.inv.inner n.1 hk
   rw [hc] at h1 h2 h3
   have hx1 := hX.x1; have hx2 := hX.x2
   refine ⟨by omega, by omega, h1, h2, fun h => h3 (by omega)⟩
theorem F15_same (d : Dg) (h : d.2.2.2.length ≤ 1000000) : F15 (d, d) = some true := by
 obtain ⟨bits, k, count, l⟩ := d
 have h : l.length ≤ 1000000 := h
 unfold F15
 simp only [ine_d, ne_eq, not_true_eq_false, decide_false, pick_or, Bool.or_false]
 rw [sel_f rfl]
 refine Eq.trans (join_of _ (iter_for l (fun (_ : Unit) i => i) (fun s a => .inl s) (fun _ => (.inl () : PUnit ⊕ Bool)) (fun _ _ => True) () trivial ?_ ?_)) ?_
 · intro i st hi _
   have hlt : (i : Int) < l.length := by omega
   have hin : inL (i : Int) l.length = true := inL_t hi
   refine ⟨?_, fun _ _ => trivial⟩
   simp only [n2i_c, llen_c, i2n_c, hin, zBH, ilt_d, sel_i, hlt, if_true, ieq_t, band_d, Bool.and_self, bnot_d, Bool.not_true]
   rw [sel_f rfl, zCK (by omega) (by omega)]; rfl
 · intro st _
   simp only [n2i_c, llen_c, ilt_d, sel_i]
   rw [if_neg (by omega)]
 · rw [fold_l]; rfl
end Go.Q
namespace Go.Q
open Go Go.T Go.Pl Go.Proofs Go.Proofs.Qd
variable [Go.Ab.DM]
def ins : List Nd → Int → Int → List Nd
 | [], id, n => [(id, n)]
 | p :: l, id, n => if p.1 < id then p :: ins l id n else if p.1 = id then (id, p.2 + n) :: l else (id, n) :: p :: l
theorem mem_ins {id n : Int} {m : Nd} : ∀ {l : List Nd}, m ∈ ins l id n → m.1 = id ∨ m ∈ l
 | [], h => by simp [ins] at h; subst h; exact .inl rfl
 | p :: l, h => by
   rw [ins] at h
   split at h
   · rcases List.mem_cons.1 h with h | h
     · subst h; exact .inr (by simp)
     · rcases mem_ins h with h | h
       · exact .inl h
       · exact .inr (by simp [h])
   · split at h
     · rcases List.mem_cons.1 h with h | h
       · subst h; exact .inl rfl
       · exact .inr (by simp [h])
     · rcases List.mem_cons.1 h with h | h
       · subst h; exact .inl rfl
       · exact .inr h
theorem ins_asc {id n : Int} : ∀ {l : List Nd}, Asc l → Asc (ins l id n)
 | [], _ => List.pairwise_singleton _ _
 | p :: l, h => by
   have h' := List.pairwise_cons.1 h
   rw [ins]
   split
   · rename_i g
     refine List.pairwise_cons.2 ⟨fun m hm => ?_, ins_asc h'.2⟩
     rcases mem_ins hm with e | e
     · omega
     · exact h'.1 m e
   · split
     · rename_i g1 g2
       exact List.pairwise_cons.2 ⟨fun m hm => by have := h'.1 m hm; dsimp only; omega, h'.2⟩
     · rename_i g1 g2
       refine List.pairwise_cons.2 ⟨fun m hm => ?_, h⟩
       rcases List.mem_cons.1 hm with rfl | e
       · dsimp only; omega
       · have := h'.1 m e; dsimp only; omega
theorem keys_ins {id n j : Int} : ∀ {l : List Nd}, j ∈ zCu (ins l id n) ↔ j = id ∨ j ∈ zCu l
 | [] => by simp [ins, zCu]
 | p :: l => by
   rw [ins]
   split
   · rw [zBx, List.mem_cons, keys_ins, zBx, List.mem_cons]
     exact ⟨fun h => by rcases h with h | h | h <;> simp [h], fun h => by rcases h with h | h | h <;> simp [h]⟩
   · split
     · rename_i g1 g2
       rw [zBx, List.mem_cons, zBx, List.mem_cons, g2]
       exact ⟨fun h => .inr h, fun h => h.elim .inl fun h => h⟩
     · rw [zBx, List.mem_cons]
theorem asc_lt {p : Nd} {l : List Nd} (h : Asc (p :: l)) {j : Int} (hj : j ≤ p.1) : j ∉ zCu l := fun hm => by
 obtain ⟨m, hm', rfl⟩ := List.mem_map.1 hm
 have := (List.pairwise_cons.1 h).1 m hm'
 omega
theorem cn_ins {id n : Int} (j : Int) : ∀ {l : List Nd}, Asc l → cn (ins l id n) j = cn l j + if j = id then n else 0
 | [], _ => by
   unfold cn
   rw [ins, get_nil]
   by_cases h : j = id
   · subst h; rw [get_eq, if_pos rfl]; omega
   · rw [zDY 0 h, get_nil, if_neg h]; rfl
 | p :: l, h => by
   have h' := List.pairwise_cons.1 h
   obtain ⟨a, c⟩ := p
   unfold cn at *
   rw [ins]
   dsimp only
   split
   · rename_i g
     by_cases e : j = a
     · subst e; rw [get_eq, get_eq, if_neg (by omega)]; omega
     · rw [zDY 0 e, zDY 0 e]; exact cn_ins j h'.2
   · split
     · rename_i g1 g2
       subst g2
       by_cases e : j = a
       · subst e; rw [get_eq, get_eq, if_pos rfl]
       · rw [zDY 0 e, zDY 0 e, if_neg e]; omega
     · rename_i g1 g2
       by_cases e : j = id
       · subst e
         rw [get_eq, zDY 0 (fun e => g2 e.symm), get_out 0 (asc_lt h (by dsimp only; omega)), if_pos rfl]; omega
       · rw [zDY 0 e, if_neg e]; omega
theorem wsum_ins (g : Int → Int) {id n : Int} : ∀ {l : List Nd}, wsum g (ins l id n) = wsum g l + n * g id
 | [] => by rw [ins, zBs, wsum_nil]; dsimp only; omega
 | p :: l => by
   rw [ins]
   split
   · rw [zBs, zBs, wsum_ins g]; omega
   · split
     · rename_i g1 g2
       rw [zBs, zBs, g2]; dsimp only; rw [Int.add_mul]; omega
     · rw [zBs]; dsimp only; omega
theorem wsum1 (l : List Nd) : wsum (fun _ => 1) l = (l.map (·.2)).sum := by unfold wsum; simp
theorem Dig.check {w : Nat} {k count : Int} {r : List Nd} (D : Dig w k count r) : zBg (w : Int) k count r = 0 := by
 have := D.len; have := D.w1; have := D.w2; have := D.k1; have := D.k2; have := D.c0; have := D.c1
 have p2 := shl_two (bits := (w : Int)) ⟨by omega, by omega⟩
 have p1 := shl_one (bits := (w : Int)) ⟨by omega, by omega⟩
 rw [Int.toNat_natCast] at p1 p2
 unfold zBg
 rw [if_neg (by omega), if_neg (by omega), chk_ok (fun n hn => ?_) D.asc]
 · simp only [D.sum, Int.zero_add]
   rw [if_neg (by simp)]
 · obtain ⟨⟨x, hx, hX⟩, h1, h2⟩ := D.node n hn
   have h3 := D.inner n hn
   have hx1 := hX.x1; have hx2 := hX.x2
   exact ⟨by omega, by omega, h1, h2, fun h => h3 (by omega)⟩
theorem Dig.of_cn {w : Nat} {k count : Int} {r : List Nd} (hw : 1 ≤ w ∧ w ≤ 20) (hk : 1 ≤ k ∧ k ≤ 10000) (hc : 0 ≤ count ∧ count ≤ 1099511627776) (hl : r.length ≤ 2000) (ha : Asc r)
   (hn : ∀ id ∈ zCu r, (∃ x : Nat, id = x ∧ Nod w x) ∧ 1 ≤ cn r id ∧ cn r id ≤ count) (hi : ∀ id ∈ zCu r, id < ((2 ^ w : Nat) : Int) → cn r id ≤ thr count k) (hs : wsum (fun _ => 1) r = count) : Dig w k count r := by
 refine ⟨hw.1, hw.2, hk.1, hk.2, hc.1, hc.2, hl, fun n h => ?_, fun n h => ?_, ha, ?_⟩
 · have := hn n.1 (List.mem_map_of_mem h)
   rw [cn_at (asc_nodup ha) h] at this; exact this
 · have := hi n.1 (List.mem_map_of_mem h)
   rw [cn_at (asc_nodup ha) h] at this; exact this
 · rw [← wsum1]; exact hs
theorem thr_mono {a b k : Int} (ha : 0 ≤ a) (hab : a ≤ b) (hb : b ≤ 1099511627776) (hk : 1 ≤ k) : thr a k ≤ thr b k := by
 rw [(thr_le ⟨ha, by omega⟩ hk).1, (thr_le ⟨by omega, hb⟩ hk).1]
 exact Int.ediv_le_ediv (by omega) hab
theorem Dig.add {w : Nat} {k count v n : Int} {nodes : List Nd} (D : Dig w k count nodes) (hv : 0 ≤ v ∧ v < ((2 ^ w : Nat) : Int)) (hn : 1 ≤ n) (hc : count + n ≤ 1099511627776) (hl : (ins nodes (((2 ^ w : Nat) : Int) + v) n).length ≤ 2000) : Dig w k (count + n) (ins nodes (((2 ^ w : Nat) : Int) + v) n) := by
 have c0 := D.c0
 refine .of_cn ⟨D.w1, D.w2⟩ ⟨D.k1, D.k2⟩ ⟨by omega, hc⟩ hl (ins_asc D.asc) (fun id h => ?_) (fun id h hlt => ?_) ?_
 · have hcn := D.inv.cn0 id
   rw [cn_ins id D.asc]
   rcases keys_ins.1 h with rfl | h
   · have hp : 2 ^ (w + 1) = 2 * 2 ^ w := by rw [Nat.pow_succ]; omega
     rw [if_pos rfl]
     exact ⟨⟨2 ^ w + v.toNat, by omega, ⟨D.w1, D.w2, by have := Nat.two_pow_pos w; omega, by omega⟩⟩, by omega, by omega⟩
   · obtain ⟨hN, _⟩ := D.inv.node id h
     have := hcn.2.1 h
     refine ⟨hN, ?_⟩
     split <;> omega
 · rcases keys_ins.1 h with rfl | h
   · omega
   · rw [cn_ins id D.asc, if_neg (by omega)]
     have := D.inv.inner id h hlt
     have := thr_mono c0 (show count ≤ count + n by omega) hc D.k1
     omega
 · rw [wsum_ins, D.inv.sum]; omega
end Go.Q
namespace Go.Q
open Go Go.T Go.Pl Go.Proofs Go.Proofs.Qd
variable [Go.Ab.DM]
section
variable {w : Nat} {k count : Int} {nodes nd0 l M : List Nd}
end
end Go.Q
namespace Go.Q
open Go Go.T Go.Pl Go.Proofs
theorem zDQ {x : Int} (h : 0 ≤ x ∧ x < 18446744073709551616) : IntKind.u64.wrap x = x := by
 simp only [IntKind.wrap, IntKind.signed, IntKind.bits]; simp; omega
theorem wrap_u8 {x : Int} (h : 0 ≤ x ∧ x < 256) : IntKind.u8.wrap x = x := by
 simp only [IntKind.wrap, IntKind.signed, IntKind.bits]; simp; omega
theorem iand_127 {x : Int} (h : 0 ≤ x ∧ x < 18446744073709551616) : iand .u64 x 127 = x % 128 := by
 obtain ⟨n, rfl⟩ : ∃ n : Nat, x = n := ⟨x.toNat, by omega⟩
 have e : (BitVec.ofInt 64 (n : Int) &&& BitVec.ofInt 64 127).toNat = n % 128 := by
   rw [BitVec.toNat_and]
   have h1 : (BitVec.ofInt 64 (n : Int)).toNat = n := by rw [BitVec.ofInt_natCast, BitVec.toNat_ofNat]; omega
   have h2 : (BitVec.ofInt 64 127).toNat = 127 := rfl
   rw [h1, h2]; exact Nat.and_two_pow_sub_one_eq_mod n 7
 show IntKind.u64.wrap ((BitVec.ofInt 64 (n : Int) &&& BitVec.ofInt 64 127).toNat : Int) = _
 rw [e, zDQ (by omega)]; omega
theorem ior_128 {m : Int} (h : 0 ≤ m ∧ m < 128) : ior .u8 m 128 = m + 128 := by
 obtain ⟨n, rfl⟩ : ∃ n : Nat, m = n := ⟨m.toNat, by omega⟩
 have e : (BitVec.ofInt 8 (n : Int) ||| BitVec.ofInt 8 128).toNat = n + 128 := by
   rw [BitVec.toNat_or]
   have h1 : (BitVec.ofInt 8 (n : Int)).toNat = n := by rw [BitVec.ofInt_natCast, BitVec.toNat_ofNat]; omega
   have h2 : (BitVec.ofInt 8 128).toNat = 128 := rfl
   rw [h1, h2]
   have h3 := Nat.two_pow_add_eq_or_of_lt (b := n) (i := 7) (by omega) 1
   have h3 : 128 + n = 128 ||| n := h3
   rw [Nat.or_comm, ← h3]; omega
 show IntKind.u8.wrap ((BitVec.ofInt 8 (n : Int) ||| BitVec.ofInt 8 128).toNat : Int) = _
 rw [e, wrap_u8 (by omega)]; omega
theorem ishr_7 {x : Int} (h : 0 ≤ x) : ishr .u64 x 7 = x / 128 := by
 show x.fdiv (2 ^ min 7 64) = _
 rw [Int.fdiv_eq_ediv_of_nonneg _ (by decide)]; rfl
def vb (n : Nat) : List Nat := if n < 128 then [n] else (n % 128 + 128) :: vb (n / 128)
termination_by n
decreasing_by omega
theorem vb_lt {n : Nat} (h : n < 128) : vb n = [n] := by rw [vb, if_pos h]
theorem vb_ge {n : Nat} (h : ¬ n < 128) : vb n = (n % 128 + 128) :: vb (n / 128) := by rw [vb, if_neg h]
theorem band_127 {b : Nat} (hb : b < 256) : bits .and .u8 (b : Int) 127 = ((b % 128 : Nat) : Int) := by
 have e : (BitVec.ofInt 8 (b : Int) &&& BitVec.ofInt 8 127).toNat = b % 128 := by
   rw [BitVec.toNat_and]
   have h1 : (BitVec.ofInt 8 (b : Int)).toNat = b := by rw [BitVec.ofInt_natCast, BitVec.toNat_ofNat]; omega
   have h2 : (BitVec.ofInt 8 127).toNat = 127 := rfl
   rw [h1, h2]; exact Nat.and_two_pow_sub_one_eq_mod b 7
 show IntKind.u8.wrap ((BitVec.ofInt 8 (b : Int) &&& BitVec.ofInt 8 127).toNat : Int) = _
 rw [e, wrap_u8 (by omega)]
theorem new_add {v i b : Nat} (hi : i < 9) (hv : v < 2 ^ (7 * i)) (hb : b < 256) : Rd.new (v : Int) i (b : Int) = ((v + b % 128 * 2 ^ (7 * i) : Nat) : Int) := by
 unfold Rd.new
 have hp : 2 ^ (7 * i) ≤ 2 ^ 56 := Nat.pow_le_pow_right (by decide) (by omega)
 have hm : b % 128 < 128 := Nat.mod_lt _ (by decide)
 have hx : b % 128 * 2 ^ (7 * i) < 2 ^ 63 := Nat.lt_of_lt_of_le (Nat.mul_lt_mul_of_lt_of_le hm hp (by decide)) (by decide)
 have e1 : (7 * (i : Int)).toNat = 7 * i := by omega
 have e2 : ((b % 128 : Nat) : Int) * 2 ^ (7 * i) = ((b % 128 * 2 ^ (7 * i) : Nat) : Int) := by push_cast; rfl
 rw [band_127 hb, zDQ (x := ((b % 128 : Nat) : Int)) (by omega), e1, e2, zDQ (by omega)]
 have e3 : (BitVec.ofInt 64 (v : Int) ||| BitVec.ofInt 64 ((b % 128 * 2 ^ (7 * i) : Nat) : Int)).toNat = v + b % 128 * 2 ^ (7 * i) := by
   rw [BitVec.toNat_or]
   have h1 : (BitVec.ofInt 64 (v : Int)).toNat = v := by rw [BitVec.ofInt_natCast, BitVec.toNat_ofNat]; exact Nat.mod_eq_of_lt (by omega)
   have h2 : (BitVec.ofInt 64 ((b % 128 * 2 ^ (7 * i) : Nat) : Int)).toNat = b % 128 * 2 ^ (7 * i) := by rw [BitVec.ofInt_natCast, BitVec.toNat_ofNat]; exact Nat.mod_eq_of_lt (by omega)
   rw [h1, h2, Nat.or_comm, Nat.mul_comm, ← Nat.two_pow_add_eq_or_of_lt hv]; omega
 show IntKind.u64.wrap ((BitVec.ofInt 64 (v : Int) ||| BitVec.ofInt 64 ((b % 128 * 2 ^ (7 * i) : Nat) : Int)).toNat : Int) = _
 rw [e3, zDQ (by omega)]
open Go Go.T Go.Pl Go.Proofs Go.Proofs.Qd
variable [Go.Ab.DM]
def vbI (n : Nat) : List Int := (vb n).map fun k : Nat => (k : Int)
theorem vbI_lt {n : Nat} (h : n < 128) : vbI n = [(n : Int)] := by unfold vbI; rw [vb_lt h]; rfl
theorem vbI_ge {n : Nat} (h : ¬ n < 128) : vbI n = ((n % 128 + 128 : Nat) : Int) :: vbI (n / 128) := by unfold vbI; rw [vb_ge h]; rfl
theorem put_loop {R : Type} {body : Int × List Int → Option ((Int × List Int) ⊕ ((Int × List Int) ⊕ R))} (h1 : ∀ n acc, ¬ n < 128 → n < 18446744073709551616 → acc.length ≤ 1000000 → body ((n : Nat), acc) = some (.inl (((n / 128 : Nat) : Int), acc ++ [((n % 128 + 128 : Nat) : Int)])))
   (h2 : ∀ n acc, n < 128 → body ((n : Nat), acc) = some (.inr (.inl ((n : Nat), acc)))) : ∀ (n : Nat) (acc : List Int), n < 18446744073709551616 → acc.length + (vbI n).length ≤ 1000000 →
     ∃ (m : Nat) (acc' : List Int), iter body ((n : Int), acc) = some (.inl ((m : Int), acc')) ∧ m < 128 ∧ acc' ++ [(m : Int)] = acc ++ vbI n := by
 intro n
 induction n using Nat.strongRecOn with
 | _ n ih =>
   intro acc hn hl
   by_cases h : n < 128
   · exact ⟨n, acc, iter_r (h2 n acc h), h, by rw [vbI_lt h]⟩
   · rw [vbI_ge h] at hl
     simp only [List.length_cons] at hl
     obtain ⟨m, acc', g1, g2, g3⟩ := ih (n / 128) (by omega) (acc ++ [((n % 128 + 128 : Nat) : Int)]) (by omega) (by simp; omega)
     exact ⟨m, acc', iter_l (h1 n acc h hn (by omega)) g1, g2, by rw [g3, vbI_ge h]; simp⟩
theorem F86_eq {n : Nat} {acc : List Int} (hn : n < 18446744073709551616) (hl : acc.length + (vbI n).length ≤ 1000000) : F86 ((n : Int), acc) = some (acc ++ vbI n) := by
 unfold F86
 dsimp only
 obtain ⟨m, acc', g1, g2, g3⟩ := put_loop (body := fun (s0 : (Int × (List Int))) => sel (ile 128 s0.1) (need (room (nadd (zAr s0.2) (zAr (ior .u8 (zAV .u8 (iand .u64 s0.1 127)) 128 :: ([] : List Int)))) 1) <|
   need (ile 0 7) <|
   some (.inl (ishr .u64 s0.1 7, lcat s0.2 (ior .u8 (zAV .u8 (iand .u64 s0.1 127)) 128 :: ([] : List Int))))) <|
   some (.inr (.inl (s0.1, s0.2)))) (fun n acc h hn ha => by
     dsimp only
     rw [iand_127 (by omega), show zAV .u8 ((n : Int) % 128) = (n : Int) % 128 from wrap_u8 (by omega), ior_128 (by omega), ishr_7 (by omega), sel_t (by rw [ile_d]; exact decide_eq_true (by omega)), zBH (by simp [room, nadd, zAr]; omega), zBH (show ile 0 7 = true from rfl)]
     rfl) (fun n acc h => by
     dsimp only
     rw [sel_f (by rw [ile_d]; exact decide_eq_false (by omega))]) n acc hn hl
 rw [join_l g1]
 dsimp only
 have hlen : acc'.length + 1 = acc.length + (vbI n).length := by have := congrArg List.length g3; simpa using this
 rw [zBH (by simp [room, nadd, zAr]; omega), show zAV .u8 (m : Int) = (m : Int) from wrap_u8 (by omega)]
 exact congrArg some g3
theorem F86n_eq {n : Nat} (hn : n < 18446744073709551616) (hl : (vbI n).length ≤ 1000000) : F86n (n : Int) = some (vbI n) := F86_eq (acc := []) hn (by simpa using hl)
end Go.Q
namespace Go.Q
open Go Go.T Go.Pl Go.Proofs Go.Proofs.Qd
def byt (s : ByteArray) : List Nat := s.data.toList.map fun b => b.toNat
theorem byt_len (s : ByteArray) : (byt s).length = s.size := by unfold byt; rw [List.length_map, Array.length_toList]; rfl
theorem byt_lt {s : ByteArray} {b : Nat} (h : b ∈ byt s) : b < 256 := by
 obtain ⟨c, _, rfl⟩ := List.mem_map.1 h
 exact UInt8.toNat_lt c
theorem byt_get {s : ByteArray} {k : Nat} (h : k < (byt s).length) : (byt s)[k] = (s[k]!).toNat := by
 have hk : k < s.size := by rw [← byt_len]; exact h
 rw [getElem!_pos s k hk]
 simp only [byt, List.getElem_map, Array.getElem_toList, ByteArray.getElem_eq_getElem_data]
def rd : Nat → Nat → List Nat → Int × (Int × Int)
 | _, _, [] => (0, 0, 11)
 | i, v, b :: l => if (128 ≤ b ∧ i = 8) ∨ (b = 0 ∧ 0 < i) then (0, 0, 12) else if b < 128 then (((v + b % 128 * 2 ^ (7 * i) : Nat) : Int), ((i + 1 : Nat) : Int), 0) else rd (i + 1) (v + b % 128 * 2 ^ (7 * i)) l
def Rd.out : Int ⊕ (Int × (Int × Int)) → Int × (Int × Int) | .inl _ => (0, 0, 11) | .inr r => r
theorem rd_run (s : ByteArray) : ∀ (d k v : Nat), k + d = min s.size 9 → v < 2 ^ (7 * k) → Rd.out (Rd.run ((List.range' k d).map (Rd.at s)) (v : Int)) = rd k v ((byt s).drop k) ∨ (d = 0 ∧ k = 9)
 | 0, k, v, hk, hv => by
   by_cases h9 : k = 9
   · exact .inr ⟨rfl, h9⟩
   · left
     have : s.size ≤ k := by omega
     rw [List.drop_eq_nil_of_le (by rw [byt_len]; exact this)]; rfl
 | d + 1, k, v, hk, hv => by
   left
   have hks : k < (byt s).length := by rw [byt_len]; omega
   rw [List.drop_eq_getElem_cons hks, List.range'_succ, List.map_cons, Rd.run, rd, byt_get hks]
   have e1 : (Rd.at s k).1.1 = k := by show min k 8 = k; omega
   have e2 : (Rd.at s k).1.2 = (s[k]!).toNat := rfl
   have hb : (s[k]!).toNat < 256 := UInt8.toNat_lt _
   rw [e1, e2]
   split
   · rfl
   rename_i hbad
   have hn : Rd.stp (v : Int) (Rd.at s k) = ((v + (s[k]!).toNat % 128 * 2 ^ (7 * k) : Nat) : Int) := by
     show Rd.new (v : Int) (Rd.at s k).1.1 ((Rd.at s k).1.2 : Int) = _
     rw [e1, e2]; exact new_add (by omega) hv hb
   split
   · show (_, _, _) = _
     rw [hn]; rfl
   · rename_i hge
     rw [hn]
     have hv' : v + (s[k]!).toNat % 128 * 2 ^ (7 * k) < 2 ^ (7 * (k + 1)) := by
       have : 2 ^ (7 * (k + 1)) = 128 * 2 ^ (7 * k) := by rw [show 7 * (k + 1) = 7 * k + 7 by omega, Nat.pow_add]; omega
       have : (s[k]!).toNat % 128 * 2 ^ (7 * k) ≤ 127 * 2 ^ (7 * k) := Nat.mul_le_mul_right _ (by omega)
       omega
     rcases rd_run s d (k + 1) _ (by omega) hv' with h | ⟨rfl, h9⟩
     · exact h
     · exact absurd (.inl ⟨by omega, by omega⟩) hbad
theorem val_rd (s : ByteArray) : Rd.val s = rd 0 0 (byt s) := by
 have e : Rd.val s = Rd.out (Rd.run ((List.range' 0 (min s.size 9)).map (Rd.at s)) ((0 : Nat) : Int)) := by
   unfold Rd.val Rd.out Rd.upto
   rw [List.range_eq_range']; rfl
 rw [e]
 rcases rd_run s (min s.size 9) 0 0 (by omega) (by decide) with h | ⟨_, h⟩
 · exact h
 · cases h
theorem rd_prop : ∀ (l : List Nat) (i v : Nat), i ≤ 8 → v < 2 ^ (7 * i) →
   ((rd i v l).2.2 = 0 ∧ 0 ≤ (rd i v l).1 ∧ (rd i v l).1 < 9223372036854775808 ∧ 1 ≤ (rd i v l).2.1 ∧ (rd i v l).2.1 ≤ i + l.length ∧ (rd i v l).2.1 ≤ 9) ∨ rd i v l = (0, 0, 11) ∨ rd i v l = (0, 0, 12)
 | [], i, v, hi, hv => .inr (.inl rfl)
 | b :: l, i, v, hi, hv => by
   have p56 : 2 ^ (7 * i) ≤ 2 ^ 56 := Nat.pow_le_pow_right (by decide) (by omega)
   have hm : b % 128 * 2 ^ (7 * i) ≤ 127 * 2 ^ (7 * i) := Nat.mul_le_mul_right _ (by omega)
   rw [rd]
   split
   · exact .inr (.inr rfl)
   split
   · refine .inl ⟨rfl, ?_, ?_, ?_, ?_, ?_⟩ <;> dsimp only <;> (try simp only [List.length_cons]) <;> omega
   · have : 2 ^ (7 * (i + 1)) = 128 * 2 ^ (7 * i) := by rw [show 7 * (i + 1) = 7 * i + 7 by omega, Nat.pow_add]; omega
     rcases rd_prop l (i + 1) (v + b % 128 * 2 ^ (7 * i)) (by omega) (by omega) with ⟨h1, h2, h3, h4, h5, h6⟩ | h | h
     · exact .inl ⟨h1, h2, h3, h4, by simp only [List.length_cons]; omega, h6⟩
     · exact .inr (.inl h)
     · exact .inr (.inr h)
theorem F110_eq {s : ByteArray} (hs : s.size ≤ 4611686018427387904) : F110 s = some (Rd.val s) := if_pos hs
theorem val_prop (s : ByteArray) : ((Rd.val s).2.2 = 0 ∧ 0 ≤ (Rd.val s).1 ∧ (Rd.val s).1 < 9223372036854775808 ∧ 1 ≤ (Rd.val s).2.1 ∧ (Rd.val s).2.1 ≤ s.size ∧ (Rd.val s).2.1 ≤ 9) ∨ Rd.val s = (0, 0, 11) ∨ Rd.val s = (0, 0, 12) := by
 rw [val_rd]
 rcases rd_prop (byt s) 0 0 (by omega) (by decide) with ⟨h1, h2, h3, h4, h5, h6⟩ | h | h
 · exact .inl ⟨h1, h2, h3, h4, by rw [byt_len] at h5; omega, h6⟩
 · exact .inr (.inl h)
 · exact .inr (.inr h)
def rdU (s : ByteArray) : Int × (Int × Int) := if (Rd.val s).2.2 ≠ 0 then (0, 0, (Rd.val s).2.2) else if 1152921504606846976 < (Rd.val s).1 then (0, 0, 12) else ((Rd.val s).1, (Rd.val s).2.1, 0)
theorem F89_eq {s : ByteArray} (hs : s.size ≤ 4611686018427387904) : F89 s = some (rdU s) := by
 unfold F89 rdU
 rw [zBI (F110_eq hs)]
 rcases val_prop s with ⟨h1, h2, h3, _⟩ | h | h
 · rw [ine_d, sel_i, if_neg (by omega), if_neg (by omega), ilt_d, sel_i, show zAV .i64 (Rd.val s).1 = (Rd.val s).1 from zAp (by omega) h3]
   split <;> rfl
 · rw [h]; rfl
 · rw [h]; rfl
def zz (x : Int) : Int := if x % 2 = 0 then x / 2 else -(x / 2) - 1
theorem ineg_ok {a : Int} (h1 : -9223372036854775807 ≤ a) (h2 : a < 9223372036854775808) : ineg .i64 a = -a := by
 have h : ineg .i64 a = IntKind.i64.wrap (-a) := by first | rfl | (unfold ineg; congr 1; omega)
 rw [h]; exact zAp (by omega) (by omega)
theorem isub_w {a b : Int} (h1 : -9223372036854775808 ≤ a - b) (h2 : a - b < 9223372036854775808) : zDD .i64 a b = a - b := zAp h1 h2
theorem F111_eq {x : Int} (h0 : 0 ≤ x) (h1 : x < 9223372036854775808) : F111 x = some (zz x) := by
 have e1 : irem x 2 = x % 2 := Int.tmod_eq_emod_of_nonneg h0
 have e2 : iquo .u64 x 2 = x / 2 := by
   have e : x.tdiv 2 = x / 2 := Int.tdiv_eq_ediv_of_nonneg h0
   unfold iquo; rw [e]; exact zDQ (by omega)
 have e3 : zAV .i64 (x / 2) = x / 2 := zAp (by omega) (by omega)
 unfold F111 zz
 have hA : ine 2 0 = true := rfl
 have hN : ∀ y : Option Int, need true y = y := fun _ => rfl
 rw [hA]
 simp only [hN]
 rw [e1, e2, e3, ineg_ok (by omega) (by omega), isub_w (by omega) (by omega), ieq_d, sel_i]
 split <;> rfl
def rdS (s : ByteArray) : Int × (Int × Int) := if (Rd.val s).2.2 ≠ 0 then (0, 0, (Rd.val s).2.2) else if zz (Rd.val s).1 < -1152921504606846976 ∨ 1152921504606846976 < zz (Rd.val s).1 then (0, 0, 12) else (zz (Rd.val s).1, (Rd.val s).2.1, 0)
theorem F90_eq {s : ByteArray} (hs : s.size ≤ 4611686018427387904) : F90 s = some (rdS s) := by
 unfold F90 rdS
 rw [zBI (F110_eq hs)]
 rcases val_prop s with ⟨h1, h2, h3, _⟩ | h | h
 · rw [ine_d, sel_i, if_neg (by omega), if_neg (by omega), zBI (F111_eq h2 h3)]
   unfold F87
   rw [call_b, pick_and, ile_d, ile_d, ← Bool.decide_and, bnot_d, ← decide_not, sel_i]
   by_cases g : zz (Rd.val s).1 < -1152921504606846976 ∨ 1152921504606846976 < zz (Rd.val s).1
   · rw [if_pos (by omega), if_pos g]
   · rw [if_neg (by omega), if_neg g]
 · rw [h]; rfl
 · rw [h]; rfl
def zg (x : Int) : Nat := if 0 ≤ x then (2 * x).toNat else (-2 * x - 1).toNat
def inV (x : Int) : Prop := -1152921504606846976 ≤ x ∧ x ≤ 1152921504606846976
instance (x : Int) : Decidable (inV x) := by unfold inV; infer_instance
theorem vb_length : ∀ {k n : Nat}, n < 128 ^ (k + 1) → (vb n).length ≤ k + 1
 | 0, n, h => by rw [vb_lt (by omega)]; simp
 | k + 1, n, h => by
   by_cases g : n < 128
   · rw [vb_lt g]; simp
   · rw [vb_ge g, List.length_cons]
     have := vb_length (k := k) (n := n / 128) (by rw [Nat.div_lt_iff_lt_mul (by decide)]; rw [Nat.pow_succ] at h; exact h)
     omega
theorem vbI_length {n : Nat} (h : n < 18446744073709551616) : (vbI n).length ≤ 10 := by
 unfold vbI; rw [List.length_map]; exact vb_length (k := 9) (by omega)
theorem F87_eq (x : Int) : F87 x = some (decide (inV x)) := by
 unfold F87 inV; rw [pick_and, ile_d, ile_d, ← Bool.decide_and]
theorem F88_eq {x : Int} (h : inV x) : F88 x = some ((zg x : Nat) : Int) := by
 obtain ⟨h1, h2⟩ := h
 unfold F88 zg
 rw [ile_d, sel_i]
 by_cases g : 0 ≤ x
 · rw [if_pos g, if_pos g]
   have e1 : zAV .u64 x = x := zDQ (by omega)
   have e2 : zCa .u64 2 x = 2 * x := zDQ (by omega)
   rw [e1, e2]; congr 1; omega
 · rw [if_neg g, if_neg g, ineg_ok (by omega) (by omega)]
   have e1 : zAV .u64 (-x) = -x := zDQ (by omega)
   have e2 : zCa .u64 2 (-x) = 2 * -x := zDQ (by omega)
   have e3 : zDD .u64 (2 * -x) 1 = 2 * -x - 1 := zDQ (by omega)
   rw [e1, e2, e3]; congr 1; omega
theorem zg_lt {x : Int} (h : inV x) : zg x < 4611686018427387904 := by
 obtain ⟨h1, h2⟩ := h
 unfold zg; split <;> omega
theorem zz_zg (x : Int) : zz (zg x : Nat) = x := by
 unfold zz zg; split <;> split <;> omega
theorem zg_zz {n : Nat} : zg (zz (n : Int)) = n := by
 unfold zz zg; split <;> split <;> omega
theorem sofb_size (a : List Int) : (sofb a).size = a.length := by
 show (List.toArray _).size = _
 simp
theorem ex_eq {α : Type} {o : Option α} {r : α} (h : ∃ y, o = some y ∧ y = r) : o = some r := by
 obtain ⟨y, h1, h2⟩ := h
 exact h2 ▸ h1
def wr (l : List Int) : List Int := l.flatMap fun x => vbI (zg x)
def AllV (l : List Int) : Prop := ∀ x ∈ l, inV x
instance (l : List Int) : Decidable (AllV l) := by unfold AllV; infer_instance
theorem wr_app (a b : List Int) : wr (a ++ b) = wr a ++ wr b := by unfold wr; rw [List.flatMap_append]
theorem wr_one (x : Int) : wr [x] = vbI (zg x) := by simp [wr]
theorem wr_len : ∀ {l : List Int}, AllV l → (wr l).length ≤ 10 * l.length
 | [], _ => by simp [wr]
 | x :: l, h => by
   have h1 := wr_len (l := l) fun y hy => h y (List.mem_cons_of_mem _ hy)
   have h2 := zg_lt (h x (List.mem_cons_self ..))
   have h3 := vbI_length (n := zg x) (by omega)
   show (wr ([x] ++ l)).length ≤ _
   rw [wr_app, wr_one, List.length_append, List.length_cons]; omega
theorem take_snoc {l : List Int} {i : Nat} (h : i < l.length) : l.take (i + 1) = l.take i ++ [l[i]] := (List.take_append_getElem h).symm
def wrs (l : List Int) : ByteArray × Int := if 20000 < l.length then (⟨#[]⟩, 4) else if AllV l then (sofb (vbI l.length ++ wr l), 0) else (⟨#[]⟩, 2)
theorem F64_eq (l : List Int) (hl : l.length ≤ 1000000) : F64 l = some (wrs l) := by
 unfold F64 wrs
 rw [n2i_c, llen_c, ilt_d, sel_i]
 by_cases g : 20000 < l.length
 · rw [if_pos (by omega), if_pos g]
 rw [if_neg (by omega), if_neg g, show zAV .u64 (l.length : Int) = l.length from zDQ (by omega)]
 have h0 := vbI_length (n := l.length) (by omega)
 rw [zBI (F86n_eq (by omega) (by omega))]
 refine ex_eq ?_
 refine join_wf (fun s => ∃ i : Nat, s = ((i : Int), vbI l.length ++ wr (l.take i)) ∧ i ≤ l.length ∧ AllV (l.take i)) (fun s => (l.length - s.1).toNat) (fun e => (AllV l ∧ e = .inl (vbI l.length ++ wr l)) ∨ (¬ AllV l ∧ e = .inr (⟨#[]⟩, 2))) ⟨0, by simp [wr], by omega, by simp [AllV]⟩ ?_ ?_
 · rintro _ ⟨i, rfl, hi, hv⟩
   dsimp only
   rw [ilt_d, sel_i]
   by_cases hlt : i < l.length
   · rw [if_pos (by omega), zBH (inL_t hlt), i2n_c, lget_t hlt, zBI (F87_eq _), bnot_d, ← decide_not, sel_i]
     by_cases hx : inV l[i]
     · left
       have hz := zg_lt hx
       have h3 := vbI_length (n := zg l[i]) (by omega)
       have hlen := wr_len hv
       have htl : (l.take i).length ≤ l.length := by rw [List.length_take]; omega
       rw [if_neg (by simpa using hx), zBI (F88_eq hx), zBI (F86_eq (by omega) (by rw [List.length_append]; omega)), zCK (by omega) (by omega)]
       refine ⟨_, rfl, ⟨i + 1, ?_, by omega, ?_⟩, by dsimp only; omega⟩
       · rw [take_snoc hlt, wr_app, wr_one, List.append_assoc]; rfl
       · rw [take_snoc hlt]; intro y hy
         rcases List.mem_append.1 hy with h | h
         · exact hv y h
         · simp at h; subst h; exact hx
     · right
       rw [if_pos hx]
       exact ⟨_, rfl, .inr ⟨fun h => hx (h _ (List.getElem_mem hlt)), rfl⟩⟩
   · right
     rw [if_neg (by omega)]
     have : i = l.length := by omega
     subst this
     rw [List.take_length] at hv ⊢
     exact ⟨_, rfl, .inl ⟨hv, rfl⟩⟩
 · rintro _ (⟨hv, rfl⟩ | ⟨hv, rfl⟩)
   · rw [if_pos hv]; exact ⟨_, rfl, rfl⟩
   · rw [if_neg hv]; exact ⟨_, rfl, rfl⟩
def flat (bits k : Int) (nodes : List Nd) : List Int := bits :: k :: nodes.flatMap fun p => [p.1, p.2]
theorem zDZ (bits k : Int) : ∀ (nodes : List Nd), (flat bits k nodes).length = 2 + 2 * nodes.length := by
 intro nodes
 show (nodes.flatMap fun p => [p.1, p.2]).length + 1 + 1 = _
 have : ∀ l : List Nd, (l.flatMap fun p => [p.1, p.2]).length = 2 * l.length := by
   intro l
   induction l with
   | nil => rfl
   | cons p l ih => rw [List.flatMap_cons, List.length_append, ih, List.length_cons]; simp; omega
 rw [this]; omega
theorem flat_snoc (bits k : Int) (l : List Nd) (p : Nd) : flat bits k (l ++ [p]) = flat bits k l ++ [p.1, p.2] := by
 unfold flat; rw [List.flatMap_append]; rfl
theorem flat_v {bits k count : Int} {nodes : List Nd} (h : zBg bits k count nodes = 0) : AllV (flat bits k nodes) ∧ nodes.length ≤ 2000 := by
 obtain ⟨hb, D⟩ := dig_of h
 have w2 := D.w2; have k1 := D.k1; have k2 := D.k2; have c1 := D.c1
 refine ⟨fun x hx => ?_, D.len⟩
 unfold flat at hx
 rcases List.mem_cons.1 hx with rfl | hx
 · unfold inV; omega
 rcases List.mem_cons.1 hx with rfl | hx
 · unfold inV; omega
 obtain ⟨p, hp, hx⟩ := List.mem_flatMap.1 hx
 obtain ⟨⟨y, hy, hY⟩, h1, h2⟩ := D.node p hp
 have hlt := hY.x2
 have hpw : 2 ^ (bits.toNat + 1) ≤ 2 ^ 21 := Nat.pow_le_pow_right (by decide) (by omega)
 simp only [List.mem_cons, List.not_mem_nil, or_false] at hx
 rcases hx with rfl | rfl
 · unfold inV; omega
 · unfold inV; omega
def encd (bits k count : Int) (nodes : List Nd) : ByteArray × Int := if zBg bits k count nodes ≠ 0 then (⟨#[]⟩, 1) else ((wrs (flat bits k nodes)).1, 0)
theorem wrs_ok {bits k count : Int} {nodes : List Nd} (h : zBg bits k count nodes = 0) : wrs (flat bits k nodes) = ((wrs (flat bits k nodes)).1, 0) := by
 obtain ⟨h1, h2⟩ := flat_v h
 have := zDZ bits k nodes
 unfold wrs
 rw [if_neg (by omega), if_pos h1]
theorem takeN_snoc {l : List Nd} {i : Nat} (h : i < l.length) : l.take (i + 1) = l.take i ++ [l[i]] := (List.take_append_getElem h).symm
theorem F30_eq (bits k count : Int) (nodes : List Nd) : F30 (bits, k, count, nodes) = some (encd bits k count nodes) := by
 unfold F30 encd
 rw [zBI (F20_eq bits k count nodes), ine_d, sel_i]
 by_cases h : zBg bits k count nodes = 0
 rotate_left
 · rw [if_pos h, if_pos h]
 obtain ⟨hv, hl⟩ := flat_v h
 have hfl := zDZ bits k nodes
 rw [if_neg (by simpa using h), if_neg (by simpa using h)]
 dsimp only
 have e1 : zCa .i64 2 (n2i (zAr nodes)) = 2 * (nodes.length : Int) := zAp (by simp only [n2i_c, llen_c]; omega) (by simp only [n2i_c, llen_c]; omega)
 rw [e1, zCK (by omega) (by omega), zBH (by simp [Go.T.mk]; omega), zBH (by simp [room, nadd, zAr, lrep])]
 refine ex_eq ?_
 refine join_to nodes.length (fun i s => s = ((i : Int), flat bits k (nodes.take i))) rfl ?_ ?_
 · rintro i _ hi rfl
   have hfi := zDZ bits k (nodes.take i)
   have htl : (nodes.take i).length ≤ 2000 := by rw [List.length_take]; omega
   dsimp only
   rw [ilt_d, n2i_c, llen_c, sel_i, if_pos (by omega), zBH (inL_t hi), i2n_c, lget_t hi, zBH (by simp [room, nadd, zAr]; omega), zCK (by omega) (by omega)]
   exact ⟨_, rfl, by rw [takeN_snoc hi, flat_snoc]; rfl⟩
 · rintro _ rfl
   dsimp only
   rw [ilt_d, n2i_c, llen_c, sel_i, if_neg (by omega)]
   refine ⟨_, rfl, ?_⟩
   rw [List.take_length, zBI (F64_eq _ (by omega)), wrs_ok h]
   exact ⟨_, rfl, rfl⟩
def dr (s : ByteArray) (i : Nat) : ByteArray := s.extract i s.size
theorem dr_byt (s : ByteArray) (i : Nat) : byt (dr s i) = (byt s).drop i := by
 unfold byt dr
 rw [ByteArray.data_extract, Array.toList_extract]
 simp
 refine List.take_of_length_le ?_
 rw [List.length_drop, List.length_map, Array.length_toList]; exact Nat.le_refl _
theorem dr_size {s : ByteArray} {i : Nat} (h : i ≤ s.size) : (dr s i).size = s.size - i := by
 rw [← byt_len, dr_byt, List.length_drop, byt_len]
def rds (s : ByteArray) : Nat → Nat → List Int → (List Int × Nat) ⊕ Int
 | 0, i, acc => .inl (acc, i)
 | n + 1, i, acc => if (rdS (dr s i)).2.2 ≠ 0 then .inr (rdS (dr s i)).2.2 else rds s n (i + (rdS (dr s i)).2.1.toNat) (acc ++ [(rdS (dr s i)).1])
theorem rdS_prop (s : ByteArray) : ((rdS s).2.2 = 0 ∧ 1 ≤ (rdS s).2.1 ∧ (rdS s).2.1 ≤ s.size ∧ (rdS s).2.1 ≤ 9) ∨ ((rdS s).2.2 = 11 ∨ (rdS s).2.2 = 12) := by
 unfold rdS
 rcases val_prop s with ⟨h1, h2, h3, h4, h5, h6⟩ | h | h
 · rw [if_neg (by omega)]
   split
   · exact .inr (.inr rfl)
   · exact .inl ⟨rfl, h4, h5, h6⟩
 · rw [h]; exact .inr (.inl rfl)
 · rw [h]; exact .inr (.inr rfl)
theorem rdU_prop (s : ByteArray) : ((rdU s).2.2 = 0 ∧ 0 ≤ (rdU s).1 ∧ 1 ≤ (rdU s).2.1 ∧ (rdU s).2.1 ≤ s.size) ∨ ((rdU s).2.2 = 11 ∨ (rdU s).2.2 = 12) := by
 unfold rdU
 rcases val_prop s with ⟨h1, h2, h3, h4, h5, h6⟩ | h | h
 · rw [if_neg (by omega)]
   split
   · exact .inr (.inr rfl)
   · exact .inl ⟨rfl, h2, h4, h5⟩
 · rw [h]; exact .inr (.inl rfl)
 · rw [h]; exact .inr (.inr rfl)
theorem byt_inj {a b : ByteArray} (h : byt a = byt b) : a = b := by
 have hm : ∀ l m : List UInt8, l.map (fun b => b.toNat) = m.map (fun b => b.toNat) → l = m := by
   intro l
   induction l with
   | nil => intro m h; cases m with | nil => rfl | cons _ _ => cases h
   | cons x l ih =>
     intro m h
     cases m with
     | nil => cases h
     | cons y m =>
       rw [List.map_cons, List.map_cons] at h
       have h' := List.cons.inj h
       rw [UInt8.toNat_inj.1 h'.1, ih m h'.2]
 cases a with
 | mk x =>
   cases b with
   | mk y =>
     have := hm _ _ h
     have e : x = y := Array.toList_inj.1 this
     rw [e]
theorem inS_t {a : Int} {s : ByteArray} (h0 : 0 ≤ a) (h : a ≤ s.size) : inS a (n2i (zDS s)) (zDS s) = true := by
 show (decide (0 ≤ a) && decide (a ≤ (s.size : Int)) && decide ((s.size : Int) ≤ s.size)) = true
 rw [decide_eq_true h0, decide_eq_true h, decide_eq_true (Int.le_refl _)]; rfl
def prs (s : ByteArray) : List Int × Int := if (rdU s).2.2 ≠ 0 then ([], (rdU s).2.2) else if 20000 < (rdU s).1 then ([], 4) else match rds s (rdU s).1.toNat (rdU s).2.1.toNat [] with | .inr e => ([], e) | .inl r => if r.2 ≠ s.size then ([], 12) else (r.1, 0)
theorem F65_eq {s : ByteArray} (hs : s.size ≤ 4611686018427387904) : F65 s = some (prs s) := by
 unfold F65 prs
 rw [zBI (F89_eq hs), ine_d, sel_i]
 rcases rdU_prop s with ⟨h0, h1, h2, h3⟩ | h
 rotate_left
 · rw [if_pos (by omega), if_pos (by omega)]
 rw [if_neg (by omega), if_neg (by omega), ilt_d, sel_i]
 by_cases g : 20000 < (rdU s).1
 · rw [if_pos g, if_pos g]
 rw [if_neg g, if_neg g]
 generalize (rdU s).1 = n' at h1 g ⊢
 generalize (rdU s).2.1 = i' at h2 h3 ⊢
 obtain ⟨n, rfl⟩ : ∃ n : Nat, n' = n := ⟨n'.toNat, by omega⟩
 obtain ⟨i0, rfl⟩ : ∃ n : Nat, i' = n := ⟨i'.toNat, by omega⟩
 simp only [Int.toNat_natCast]
 have hm : 0 ≤ imin (n : Int) (n2i (zDS s)) ∧ imin (n : Int) (n2i (zDS s)) ≤ 20000 := by
   show 0 ≤ (if decide ((s.size : Int) < (n : Int)) then (s.size : Int) else n) ∧ (if decide ((s.size : Int) < (n : Int)) then (s.size : Int) else n) ≤ 20000
   by_cases c : (s.size : Int) < n
   · rw [if_pos (by simpa using c)]; omega
   · rw [if_neg (by simpa using c)]; omega
 rw [zBH (by simp [Go.T.mk]; omega)]
 refine ex_eq ?_
 refine join_wf (fun st => ∃ (p j : Nat) (acc : List Int), st = ((p : Int), (j : Int), acc) ∧ p ≤ s.size ∧ j ≤ n ∧ acc.length = j ∧ rds s (n - j) p acc = rds s n i0 []) (fun st => n - st.2.1.toNat) (fun e => (∃ e', rds s n i0 [] = .inr e' ∧ e = .inr ([], e')) ∨ ∃ (l : List Int) (j : Nat), rds s n i0 [] = .inl (l, j) ∧ e = .inl ((j : Int), l)) ⟨i0, 0, [], rfl, by omega, by omega, rfl, rfl⟩ ?_ ?_
 · rintro _ ⟨p, j, acc, rfl, hp, hj, hl, hr⟩
   dsimp only
   rw [ilt_d, sel_i]
   by_cases hlt : j < n
   · rw [if_pos (by omega), zBH (inS_t (s := s) (by omega) (by omega)), show ssub s (p : Int) (n2i (zDS s)) = dr s p from rfl, zBI (F90_eq (by rw [dr_size hp]; omega)), ine_d, sel_i]
     rw [show n - j = (n - (j + 1)) + 1 by omega, rds] at hr
     have hds := dr_size hp
     rcases rdS_prop (dr s p) with ⟨g0, g1, g2, g3⟩ | g
     · left
       rw [if_neg (by omega)] at hr
       rw [if_neg (by omega), zBH (by simp [room, nadd, zAr]; omega), zCK (by omega) (by omega), zCK (by omega) (by omega)]
       refine ⟨_, rfl, ⟨p + (rdS (dr s p)).2.1.toNat, j + 1, acc ++ [(rdS (dr s p)).1], ?_, by omega, by omega, by simp; omega, hr⟩, by dsimp only; omega⟩
       show _ = (((p + (rdS (dr s p)).2.1.toNat : Nat) : Int), _)
       rw [show ((p + (rdS (dr s p)).2.1.toNat : Nat) : Int) = (p : Int) + (rdS (dr s p)).2.1 by omega]; rfl
     · right
       rw [if_pos (by omega)] at hr
       rw [if_pos (by omega)]
       exact ⟨_, rfl, .inl ⟨_, hr.symm, rfl⟩⟩
   · right
     rw [if_neg (by omega)]
     have : j = n := by omega
     subst this
     rw [Nat.sub_self, rds] at hr
     exact ⟨_, rfl, .inr ⟨_, _, hr.symm, rfl⟩⟩
 · rintro _ (⟨e, he, rfl⟩ | ⟨l, j, he, rfl⟩)
   · rw [he]; exact ⟨_, rfl, rfl⟩
   · rw [he, Sum.elim_inl, ine_d, sel_i]
     dsimp only
     by_cases c : j = s.size
     · rw [if_neg (by simp [n2i_c, zDS]; omega), if_neg (by omega)]; exact ⟨_, rfl, rfl⟩
     · rw [if_pos (by simp [n2i_c, zDS]; omega), if_pos c]; exact ⟨_, rfl, rfl⟩
def un : List Int → List Nd
 | a :: b :: l => (a, b) :: un l
 | _ => []
def cnt (l : List Nd) : Int := (l.map (·.2)).sum
theorem un_len : ∀ {n : Nat} {l : List Int}, l.length = 2 * n → (un l).length = n
 | 0, [], _ => rfl
 | n + 1, a :: b :: l, h => by
   simp only [List.length_cons] at h
   rw [un, List.length_cons, un_len (n := n) (by omega)]
 | 0, a :: l, h => by simp at h
 | n + 1, [], h => by simp at h
 | n + 1, [a], h => by simp at h; omega
theorem un_get : ∀ {n : Nat} {l : List Int}, l.length = 2 * n → ∀ m (h : m < (un l).length), l.getD (2 * m) 0 = ((un l)[m]).1 ∧ l.getD (2 * m + 1) 0 = ((un l)[m]).2
 | 0, [], _, m, h => by simp [un] at h
 | n + 1, a :: b :: l, h, m, hm => by
   simp only [List.length_cons] at h
   cases m with
   | zero => exact ⟨rfl, rfl⟩
   | succ m =>
     have hm' : m < (un l).length := by simp only [un, List.length_cons] at hm; omega
     have h2 := un_get (n := n) (l := l) (by omega) m hm'
     have e1 : 2 * (m + 1) = 2 * m + 1 + 1 := by omega
     simp only [un, List.getElem_cons_succ, e1, List.getD_cons_succ]
     exact h2
 | 0, a :: l, h, _, _ => by simp at h
 | n + 1, [], h, _, _ => by simp at h
 | n + 1, [a], h, _, _ => by simp at h; omega
theorem cnt_snoc {l : List Nd} {m : Nat} (h : m < l.length) : cnt (l.take (m + 1)) = cnt (l.take m) + l[m].2 := by
 unfold cnt
 rw [takeN_snoc h, List.map_append, List.sum_append]
 simp only [List.map_cons, List.map_nil, List.sum_cons, List.sum_nil, Int.add_zero]
def dcd (s : ByteArray) : Dg × Int := if (prs s).2 ≠ 0 then (zDg, 12) else match (prs s).1 with
 | b :: k :: l => if l.length % 2 = 0 ∧ zBg b k (cnt (un l)) (un l) = 0 then ((b, k, cnt (un l), un l), 0) else (zDg, 12)
 | _ => (zDg, 12)
abbrev Ac := (Int × (Int × (Int × PUnit))) × List Nd
theorem dec_loop {b k : Int} {l : List Int} {n : Nat} (hl : l.length = 2 * n) (hn : n ≤ 1000000) {body : Int × Ac → Option ((Int × Ac) ⊕ (Ac ⊕ (Dg × Int)))} (bad : Nat → Prop)
   (hbad : ∀ m (h : m < (un l).length), bad m → zBg b k (cnt (un l)) (un l) ≠ 0) (hok : ∀ m (h : m < (un l).length), ¬ bad m → 1 ≤ ((un l)[m]).2 ∧ ((un l)[m]).2 ≤ 1099511627776)
   (h1 : ∀ m (h : m < (un l).length), bad m → body (((2 + 2 * m : Nat) : Int), (b, k, cnt ((un l).take m), ()), (un l).take m) = some (.inr (.inr (zDg, 12))))
   (h2 : ∀ m (h : m < (un l).length), ¬ bad m → 0 ≤ cnt ((un l).take m) → cnt ((un l).take m) ≤ 1099511627776 * m → body (((2 + 2 * m : Nat) : Int), (b, k, cnt ((un l).take m), ()), (un l).take m) = some (.inl (((2 + 2 * (m + 1) : Nat) : Int), (b, k, cnt ((un l).take m) + ((un l)[m]).2, ()), (un l).take m ++ [(un l)[m]])))
   (h3 : body (((2 + 2 * (un l).length : Nat) : Int), (b, k, cnt (un l), ()), un l) = some (.inr (.inl ((b, k, cnt (un l), ()), un l))))
   {K : Ac → Option (Dg × Int)} (hK : K ((b, k, cnt (un l), ()), un l) = some (if zBg b k (cnt (un l)) (un l) = 0 then ((b, k, cnt (un l), un l), 0) else (zDg, 12))) :
   join (iter body (2, (b, k, 0, ()), [])) K = some (if zBg b k (cnt (un l)) (un l) = 0 then ((b, k, cnt (un l), un l), 0) else (zDg, 12)) := by
 refine ex_eq ?_
 refine join_wf (fun st => ∃ m : Nat, st = (((2 + 2 * m : Nat) : Int), (b, k, cnt ((un l).take m), ()), (un l).take m) ∧ m ≤ (un l).length ∧ 0 ≤ cnt ((un l).take m) ∧ cnt ((un l).take m) ≤ 1099511627776 * m) (fun st => 2 * (un l).length + 4 - st.1.toNat) (fun e => (zBg b k (cnt (un l)) (un l) ≠ 0 ∧ e = .inr (zDg, 12)) ∨ e = .inl ((b, k, cnt (un l), ()), un l)) ⟨0, by simp [cnt], by omega, by simp [cnt], by simp [cnt]⟩ ?_ ?_
 · rintro _ ⟨m, rfl, hm, c0, c1⟩
   by_cases hlt : m < (un l).length
   · by_cases hb : bad m
     · exact .inr ⟨_, h1 m hlt hb, .inl ⟨hbad m hlt hb, rfl⟩⟩
     · have := hok m hlt hb
       refine .inl ⟨_, h2 m hlt hb c0 c1, ⟨m + 1, ?_, by omega, ?_, ?_⟩, by dsimp only; omega⟩
       · rw [cnt_snoc hlt, takeN_snoc hlt]
       · rw [cnt_snoc hlt]; omega
       · rw [cnt_snoc hlt]; omega
   · have : m = (un l).length := by omega
     subst this
     rw [List.take_length]
     exact .inr ⟨_, h3, .inr rfl⟩
 · rintro _ (⟨hq, rfl⟩ | rfl)
   · rw [if_neg hq]; exact ⟨_, rfl, rfl⟩
   · exact ⟨_, hK, rfl⟩
theorem lget_pair {b k : Int} {l : List Int} {n : Nat} (hl : l.length = 2 * n) {m : Nat} (h : m < (un l).length) : zBB 0 (b :: k :: l) (i2n ((2 + 2 * m : Nat) : Int)) = ((un l)[m]).1 ∧ zBB 0 (b :: k :: l) (i2n ((2 + 2 * m + 1 : Nat) : Int)) = ((un l)[m]).2 := by
 have := un_get hl m h
 rw [i2n_c, i2n_c]
 unfold zBB
 rw [show 2 + 2 * m = 2 * m + 1 + 1 by omega, show 2 * m + 1 + 1 + 1 = (2 * m + 1) + 1 + 1 by omega]
 simp only [List.getD_cons_succ]
 exact this
theorem irem_2 (n : Nat) : irem (n : Int) 2 = ((n % 2 : Nat) : Int) := by
 show (n : Int).tmod 2 = _
 rw [Int.tmod_eq_emod_of_nonneg (by omega)]; omega
theorem F31_eq {s : ByteArray} (hs : s.size ≤ 4611686018427387904) : F31 s = some (dcd s) := by
 unfold F31 dcd
 rw [zBI (F65_eq hs)]
 generalize prs s = r
 obtain ⟨L, e⟩ := r
 dsimp only
 rw [zBH (impl_t (b := ine 2 0) fun _ => rfl)]
 simp only [pick_or, ine_d, ilt_d, n2i_c, llen_c, irem_2, ← Bool.decide_or, sel_i]
 by_cases he : e = 0
 rotate_left
 · rw [if_pos (.inl (.inl (.inl he))), if_pos he]; rfl
 subst he
 rw [if_neg (show ¬ (0 : Int) ≠ 0 by simp)]
 match L with
 | [] => rw [if_pos (by simp)]; rfl
 | [_] => rw [if_pos (by simp)]; rfl
 | b :: k :: l =>
   simp only [List.length_cons]
   by_cases hpar : l.length % 2 = 0
   rotate_left
   · rw [if_pos (by omega), if_neg (by omega)]; rfl
   obtain ⟨n, hl⟩ : ∃ n, l.length = 2 * n := ⟨l.length / 2, by omega⟩
   have hul := un_len hl
   by_cases hbig : 4002 < l.length + 2
   · rw [if_pos (by omega), if_neg (fun h => by have := (dig_of h.2).2.len; omega)]; rfl
   rw [if_neg (by omega), zBH (by simp [inL]; omega), zBH (by simp [inL]; omega)]
   simp only [hpar, true_and]
   have hb0 : zBB 0 (b :: k :: l) (i2n 0) = b := rfl
   have hk0 : zBB 0 (b :: k :: l) (i2n 1) = k := rfl
   rw [hb0, hk0]
   refine dec_loop hl (by omega) (fun m => ∃ h : m < (un l).length, ((un l)[m]).2 < 1 ∨ 1099511627776 < ((un l)[m]).2) ?_ ?_ ?_ ?_ ?_ ?_
   · rintro m h ⟨_, hb⟩ hq
     have D := (dig_of hq).2
     have := (D.node _ (List.getElem_mem h)).2
     have := D.c1
     omega
   · intro m h hb
     have : ¬ (((un l)[m]).2 < 1 ∨ 1099511627776 < ((un l)[m]).2) := fun h' => hb ⟨h, h'⟩
     omega
   · rintro m h ⟨_, hb⟩
     obtain ⟨g1, g2⟩ := lget_pair (b := b) (k := k) hl h
     dsimp only
     rw [if_pos (by omega), zCK (by omega) (by omega), show (((2 + 2 * m : Nat) : Int) + 1) = ((2 + 2 * m + 1 : Nat) : Int) by omega, g1, g2, zBH (inL_t (by omega)), zBH (impl_t fun _ => inL_t (by omega)), if_pos hb]; rfl
   · rintro m h hb c0 c1
     have hb : ¬ (((un l)[m]).2 < 1 ∨ 1099511627776 < ((un l)[m]).2) := fun h' => hb ⟨h, h'⟩
     obtain ⟨g1, g2⟩ := lget_pair (b := b) (k := k) hl h
     have htl : ((un l).take m).length = m := by rw [List.length_take]; omega
     dsimp only
     rw [if_pos (by omega), zCK (a := ((2 + 2 * m : Nat) : Int)) (b := 1) (by omega) (by omega), show (((2 + 2 * m : Nat) : Int) + 1) = ((2 + 2 * m + 1 : Nat) : Int) by omega, g1, g2, zBH (inL_t (by omega)), zBH (impl_t fun _ => inL_t (by omega)), if_neg hb, zBH (inL_t (by omega)), zBH (inL_t (by omega)), zBH (by simp [room, nadd, htl]; omega), zBH (inL_t (by omega)), zCK (by omega) (by omega), zCK (by omega) (by omega)]
     rfl
   · dsimp only
     rw [if_neg (by omega)]
   · dsimp only
     rw [zBI (F20_eq _ _ _ _)]
     by_cases hq : zBg b k (cnt (un l)) (un l) = 0
     · rw [if_neg (by simp [hq]), if_pos hq]
     · rw [if_pos hq, if_neg hq]; rfl
theorem vb_pos (n : Nat) : 1 ≤ (vb n).length := by
 by_cases h : n < 128
 · rw [vb_lt h]; simp
 · rw [vb_ge h]; simp
theorem rd_vb : ∀ (n i v : Nat) (rest : List Nat), (vb n).length + i ≤ 9 → (n = 0 → i = 0) → rd i v (vb n ++ rest) = (((v + n * 2 ^ (7 * i) : Nat) : Int), ((i + (vb n).length : Nat) : Int), 0) := by
 intro n
 induction n using Nat.strongRecOn with
 | _ n ih =>
   intro i v rest hl h0
   by_cases h : n < 128
   · rw [vb_lt h, List.singleton_append, rd, if_neg (by omega), if_pos h, Nat.mod_eq_of_lt h]; rfl
   · have hv := vb_pos (n / 128)
     rw [vb_ge h] at hl ⊢
     simp only [List.length_cons] at hl ⊢
     rw [List.cons_append, rd, if_neg (by omega), if_neg (by omega), ih (n / 128) (by omega) _ _ _ (by omega) (by omega)]
     have e : (n % 128 + 128) % 128 = n % 128 := by omega
     have e2 : 2 ^ (7 * (i + 1)) = 128 * 2 ^ (7 * i) := by rw [show 7 * (i + 1) = 7 * i + 7 by omega, Nat.pow_add]; omega
     rw [e, e2]
     have e3 : v + n % 128 * 2 ^ (7 * i) + n / 128 * (128 * 2 ^ (7 * i)) = v + n * 2 ^ (7 * i) := by
       have : n = n % 128 + 128 * (n / 128) := by omega
       have e4 : n * 2 ^ (7 * i) = n % 128 * 2 ^ (7 * i) + n / 128 * (128 * 2 ^ (7 * i)) := by
         rw [← Nat.mul_assoc, Nat.mul_comm (n / 128) 128, ← Nat.add_mul, ← this]
       omega
     rw [e3, show i + 1 + (vb (n / 128)).length = i + ((vb (n / 128)).length + 1) by omega]
theorem rd_can : ∀ (l : List Nat) (i v : Nat), (∀ b ∈ l, b < 256) → (rd i v l).2.2 = 0 → ∃ (n : Nat) (rest : List Nat), l = vb n ++ rest ∧ rd i v l = (((v + n * 2 ^ (7 * i) : Nat) : Int), ((i + (vb n).length : Nat) : Int), 0) ∧ (n = 0 → i = 0)
 | [], i, v, _, h => by cases h
 | b :: l, i, v, hb, h => by
   have b0 := hb b (List.mem_cons_self ..)
   rw [rd] at h
   split at h
   · cases h
   rename_i hbad
   split at h
   · rename_i hlt
     refine ⟨b, l, by rw [vb_lt hlt]; rfl, ?_, by omega⟩
     rw [rd, if_neg hbad, if_pos hlt, vb_lt hlt, Nat.mod_eq_of_lt hlt]; rfl
   · rename_i hge
     obtain ⟨n, rest, h1, h2, h3⟩ := rd_can l (i + 1) _ (fun c hc => hb c (List.mem_cons_of_mem _ hc)) h
     have hn : n ≠ 0 := fun e => by have := h3 e; omega
     have hx : ¬ (b - 128 + 128 * n) < 128 := by omega
     have ev : vb (b - 128 + 128 * n) = b :: vb n := by
       rw [vb_ge hx, show (b - 128 + 128 * n) % 128 + 128 = b by omega, show (b - 128 + 128 * n) / 128 = n by omega]
     refine ⟨b - 128 + 128 * n, rest, by rw [ev, h1]; rfl, ?_, by omega⟩
     rw [rd, if_neg hbad, if_neg hge, h2, ev]
     have e2 : 2 ^ (7 * (i + 1)) = 128 * 2 ^ (7 * i) := by rw [show 7 * (i + 1) = 7 * i + 7 by omega, Nat.pow_add]; omega
     have e3 : v + b % 128 * 2 ^ (7 * i) + n * 2 ^ (7 * (i + 1)) = v + (b - 128 + 128 * n) * 2 ^ (7 * i) := by
       rw [e2, Nat.add_mul, show b % 128 = b - 128 by omega, ← Nat.mul_assoc, Nat.mul_comm n 128]; omega
     rw [e3, List.length_cons, show i + 1 + (vb n).length = i + ((vb n).length + 1) by omega]
def wrN (l : List Int) : List Nat := l.flatMap fun x => vb (zg x)
theorem wrN_cons (x : Int) (l : List Int) : wrN (x :: l) = vb (zg x) ++ wrN l := List.flatMap_cons
theorem vb_len9 {n : Nat} (h : n < 9223372036854775808) : (vb n).length ≤ 9 := by
 have := vb_length (k := 8) (n := n) (by omega)
 omega
theorem rdS_vb {s : ByteArray} {x : Int} {rest : List Nat} (hx : inV x) (h : byt s = vb (zg x) ++ rest) : rdS s = (x, (((vb (zg x)).length : Nat) : Int), 0) := by
 have hz := zg_lt hx
 have e : Rd.val s = (((zg x : Nat) : Int), (((vb (zg x)).length : Nat) : Int), 0) := by
   rw [val_rd, h, rd_vb _ _ _ _ (by have := vb_len9 (n := zg x) (by omega); omega) (fun _ => rfl)]
   simp
 unfold rdS
 rw [e]
 dsimp only
 rw [if_neg (by simp), zz_zg]
 unfold inV at hx
 rw [if_neg (by omega)]
theorem rdU_vb {s : ByteArray} {n : Nat} {rest : List Nat} (hx : n ≤ 1152921504606846976) (h : byt s = vb n ++ rest) : rdU s = (((n : Nat) : Int), (((vb n).length : Nat) : Int), 0) := by
 have e : Rd.val s = (((n : Nat) : Int), (((vb n).length : Nat) : Int), 0) := by
   rw [val_rd, h, rd_vb _ _ _ _ (by have := vb_len9 (n := n) (by omega); omega) (fun _ => rfl)]
   simp
 unfold rdU
 rw [e]
 dsimp only
 rw [if_neg (by simp), if_neg (by omega)]
theorem rdS_can {s : ByteArray} (h : (rdS s).2.2 = 0) : inV (rdS s).1 ∧ ∃ rest, byt s = vb (zg (rdS s).1) ++ rest ∧ (rdS s).2.1 = ((vb (zg (rdS s).1)).length : Nat) := by
 unfold rdS at h ⊢
 split at h
 · rename_i g; exact absurd h g
 rename_i g
 rw [if_neg g]
 split at h
 · cases h
 rename_i g2
 rw [if_neg g2]
 have g' : (rd 0 0 (byt s)).2.2 = 0 := by rw [← val_rd]; simpa using g
 obtain ⟨n, rest, h1, h2, _⟩ := rd_can (byt s) 0 0 (fun b hb => byt_lt hb) g'
 rw [← val_rd] at h2
 rw [h2] at g2 ⊢
 dsimp only at g2 ⊢
 rw [show (0 + n * 2 ^ (7 * 0)) = n by simp] at g2 ⊢
 rw [zg_zz]
 exact ⟨by unfold inV; omega, rest, h1, by omega⟩
theorem rdU_can {s : ByteArray} (h : (rdU s).2.2 = 0) : ∃ (n : Nat) (rest : List Nat), (rdU s).1 = n ∧ byt s = vb n ++ rest ∧ (rdU s).2.1 = ((vb n).length : Nat) := by
 unfold rdU at h ⊢
 split at h
 · rename_i g; exact absurd h g
 rename_i g
 rw [if_neg g]
 split at h
 · cases h
 rename_i g2
 rw [if_neg g2]
 have g' : (rd 0 0 (byt s)).2.2 = 0 := by rw [← val_rd]; simpa using g
 obtain ⟨n, rest, h1, h2, _⟩ := rd_can (byt s) 0 0 (fun b hb => byt_lt hb) g'
 rw [← val_rd] at h2
 rw [h2]
 dsimp only
 exact ⟨n, rest, by simp, h1, by simp⟩
theorem drop_vb {l : List Nat} {i : Nat} {a rest : List Nat} (h : l.drop i = a ++ rest) : l.drop (i + a.length) = rest := by
 rw [← List.drop_drop, h, List.drop_left]
theorem rds_wr {s : ByteArray} : ∀ (l : List Int) (i : Nat) (acc : List Int) (rest : List Nat), AllV l → (byt s).drop i = wrN l ++ rest → rds s l.length i acc = .inl (acc ++ l, i + (wrN l).length)
 | [], i, acc, rest, _, _ => by simp [rds, wrN]
 | x :: l, i, acc, rest, hv, h => by
   rw [wrN_cons, List.append_assoc] at h
   have hx := rdS_vb (s := dr s i) (hv x (List.mem_cons_self ..)) (by rw [dr_byt, h])
   rw [List.length_cons, rds, hx]
   dsimp only
   rw [if_neg (by simp), Int.toNat_natCast, rds_wr l _ _ rest (fun y hy => hv y (List.mem_cons_of_mem _ hy)) (drop_vb h), wrN_cons, List.length_append]
   simp [Nat.add_assoc]
theorem rds_can {s : ByteArray} : ∀ (n i : Nat) (acc : List Int) {l : List Int} {j : Nat}, rds s n i acc = .inl (l, j) → ∃ l', l = acc ++ l' ∧ l'.length = n ∧ AllV l' ∧ (byt s).drop i = wrN l' ++ (byt s).drop j
 | 0, i, acc, l, j, h => by
   rw [rds] at h
   cases h
   exact ⟨[], by simp, rfl, by simp [AllV], by simp [wrN]⟩
 | n + 1, i, acc, l, j, h => by
   rw [rds] at h
   split at h
   · cases h
   rename_i g
   have g : (rdS (dr s i)).2.2 = 0 := by simpa using g
   obtain ⟨h1, rest, h2, h3⟩ := rdS_can g
   rw [dr_byt] at h2
   obtain ⟨l', e1, e2, e3, e4⟩ := rds_can n _ _ h
   rw [h3, Int.toNat_natCast, drop_vb h2] at e4
   refine ⟨(rdS (dr s i)).1 :: l', by rw [e1]; simp, by rw [List.length_cons, e2], fun y hy => ?_, ?_⟩
   · rcases List.mem_cons.1 hy with rfl | hy
     · exact h1
     · exact e3 y hy
   · rw [wrN_cons, List.append_assoc, ← e4, h2]
theorem rds_err {s : ByteArray} : ∀ (n i : Nat) (acc : List Int), rds s n i acc = .inr 0 → False
 | 0, i, acc, h => by rw [rds] at h; cases h
 | n + 1, i, acc, h => by
   rw [rds] at h
   split at h
   · rename_i g; exact g (Sum.inr.inj h)
   · exact rds_err n _ _ h
theorem vb_byte : ∀ (n : Nat), ∀ b ∈ vb n, b < 256 := by
 intro n
 induction n using Nat.strongRecOn with
 | _ n ih =>
   intro b hb
   by_cases h : n < 128
   · rw [vb_lt h] at hb; simp at hb; omega
   · rw [vb_ge h] at hb
     rcases List.mem_cons.1 hb with rfl | hb
     · omega
     · exact ih (n / 128) (by omega) b hb
theorem wrN_byte (l : List Int) : ∀ b ∈ wrN l, b < 256 := fun b hb => by
 obtain ⟨x, _, hx⟩ := List.mem_flatMap.1 hb
 exact vb_byte _ b hx
theorem wr_wrN (l : List Int) : wr l = (wrN l).map fun k : Nat => (k : Int) := by
 unfold wr wrN vbI
 rw [List.map_flatMap]
theorem byt_sofb {l : List Nat} (h : ∀ b ∈ l, b < 256) : byt (sofb (l.map fun k : Nat => (k : Int))) = l := by
 unfold byt sofb
 simp only [List.map_map]
 refine (List.map_congr_left (g := id) fun b hb => ?_).trans (List.map_id l)
 show (UInt8.ofNat ((b : Int).toNat)).toNat = b
 rw [Int.toNat_natCast, UInt8.toNat_ofNat']
 exact Nat.mod_eq_of_lt (h b hb)
theorem wrs_byt {l : List Int} (h : l.length ≤ 20000) (hv : AllV l) : (wrs l).2 = 0 ∧ byt (wrs l).1 = vb l.length ++ wrN l := by
 unfold wrs
 rw [if_neg (by omega), if_pos hv]
 refine ⟨rfl, ?_⟩
 show byt (sofb (vbI l.length ++ wr l)) = _
 rw [wr_wrN]; unfold vbI
 rw [← List.map_append]
 refine byt_sofb fun b hb => ?_
 rcases List.mem_append.1 hb with h | h
 · exact vb_byte _ b h
 · exact wrN_byte _ b h
theorem prs_wrs {l : List Int} (h : l.length ≤ 20000) (hv : AllV l) : prs (wrs l).1 = (l, 0) := by
 obtain ⟨_, hb⟩ := wrs_byt h hv
 generalize (wrs l).1 = s at hb
 have hU := rdU_vb (s := s) (n := l.length) (by omega) hb
 unfold prs
 rw [hU]
 dsimp only
 rw [if_neg (by simp), if_neg (by omega), Int.toNat_natCast, Int.toNat_natCast]
 have hd : (byt s).drop (vb l.length).length = wrN l ++ [] := by rw [hb, List.drop_left, List.append_nil]
 rw [rds_wr l _ [] [] hv hd]
 dsimp only
 have hs : s.size = (vb l.length).length + (wrN l).length := by rw [← byt_len, hb, List.length_append]
 rw [if_neg (by omega), List.nil_append]
theorem prs_can {s : ByteArray} {l : List Int} (h : prs s = (l, 0)) : l.length ≤ 20000 ∧ AllV l ∧ s = (wrs l).1 := by
 unfold prs at h
 split at h
 · rename_i g; exact absurd (congrArg Prod.snd h) g
 rename_i g
 split at h
 · exact absurd (congrArg Prod.snd h) (by simp)
 rename_i g2
 obtain ⟨n, rest, h1, h2, h3⟩ := rdU_can (s := s) (by simpa using g)
 rw [h1, h3, Int.toNat_natCast, Int.toNat_natCast] at h
 rw [h1] at g2
 have hd : (byt s).drop (vb n).length = rest := by rw [h2, List.drop_left]
 generalize hr : rds s n (vb n).length [] = r at h
 match r, h with
 | .inr e, h =>
   dsimp only at h
   exfalso
   obtain ⟨_, he⟩ := Prod.mk.inj h
   subst he
   exact rds_err n _ _ hr
 | .inl (l', j), h =>
   dsimp only at h
   split at h
   · exact absurd (congrArg Prod.snd h) (by simp)
   rename_i g3
   have g3 : j = s.size := by simpa using g3
   obtain ⟨rfl, _⟩ := Prod.mk.inj h
   obtain ⟨l2, e1, e2, e3, e4⟩ := rds_can n _ _ hr
   rw [List.nil_append] at e1
   subst e1
   rw [hd, g3, ← byt_len, List.drop_length, List.append_nil] at e4
   have hl : l'.length ≤ 20000 := by omega
   refine ⟨hl, e3, byt_inj ?_⟩
   rw [(wrs_byt hl e3).2, h2, e4, e2]
theorem un_flat : ∀ (nodes : List Nd), un (nodes.flatMap fun p => [p.1, p.2]) = nodes
 | [] => rfl
 | p :: l => by
   rw [List.flatMap_cons]
   show (p.1, p.2) :: un (l.flatMap fun p => [p.1, p.2]) = _
   rw [un_flat l]
theorem flat_un : ∀ {n : Nat} {l : List Int}, l.length = 2 * n → ((un l).flatMap fun p => [p.1, p.2]) = l
 | 0, [], _ => rfl
 | n + 1, a :: b :: l, h => by
   simp only [List.length_cons] at h
   rw [un, List.flatMap_cons, flat_un (n := n) (l := l) (by omega)]; rfl
 | 0, a :: l, h => by simp at h
 | n + 1, [], h => by simp at h
 | n + 1, [a], h => by simp at h; omega
theorem dcd_enc {bits k count : Int} {nodes : List Nd} (h : zBg bits k count nodes = 0) : dcd (wrs (flat bits k nodes)).1 = ((bits, k, count, nodes), 0) := by
 obtain ⟨hv, hl⟩ := flat_v h
 have hfl := zDZ bits k nodes
 have hp := prs_wrs (l := flat bits k nodes) (by omega) hv
 have hc : cnt nodes = count := (dig_of h).2.sum
 unfold dcd
 rw [hp]
 dsimp only
 rw [if_neg (by simp)]
 unfold flat
 dsimp only
 have hpar : (nodes.flatMap fun p => [p.1, p.2]).length % 2 = 0 := by
   unfold flat at hfl
   simp only [List.length_cons] at hfl
   omega
 rw [un_flat, hc, if_pos ⟨hpar, h⟩]
theorem dcd_can (s : ByteArray) : dcd s = (zDg, 12) ∨ ∃ bits k count nodes, dcd s = ((bits, k, count, nodes), 0) ∧ zBg bits k count nodes = 0 ∧ encd bits k count nodes = (s, 0) := by
 unfold dcd
 split
 · exact .inl rfl
 rename_i g
 have g : (prs s).2 = 0 := by simpa using g
 split
 · rename_i b k l hL
   split
   · rename_i hq
     refine .inr ⟨b, k, _, _, rfl, hq.2, ?_⟩
     obtain ⟨h1, h2, h3⟩ := prs_can (s := s) (l := b :: k :: l) (by rw [← hL, ← g])
     unfold encd
     rw [if_neg (by simp [hq.2])]
     have e : flat b k (un l) = b :: k :: l := by
       unfold flat
       rw [flat_un (n := l.length / 2) (by omega)]
     rw [e, ← h3]
   · exact .inl rfl
 · exact .inl rfl
theorem seq_self (s : ByteArray) : seq s s = true := by unfold seq; exact beq_self_eq_true _
theorem wrs_size {bits k count : Int} {nodes : List Nd} (h : zBg bits k count nodes = 0) : (wrs (flat bits k nodes)).1.size ≤ 4611686018427387904 := by
 obtain ⟨hv, hl⟩ := flat_v h
 have hfl := zDZ bits k nodes
 have h1 := wr_len hv
 have h2 := vbI_length (n := (flat bits k nodes).length) (by omega)
 unfold wrs
 rw [if_neg (by omega), if_pos hv]
 show (sofb _).size ≤ _
 rw [sofb_size, List.length_append]; omega
theorem F11_d (d : Dg) : F11 d = some (decide ((24 : Int) < d.2.2.2.length)) := rfl
theorem law8 (bits k count : Int) (nodes : List Nd) (s : ByteArray) : F8 ((bits, k, count, nodes), s) = some true := by
 unfold F8
 dsimp only
 rw [zBI (F11_d _), pick_or, ilt_d, ← Bool.decide_or, sel_i]
 by_cases g : (24 : Int) < nodes.length ∨ 300 < n2i (zDS s)
 · rw [if_pos g, zBI awake]
 rw [if_neg g]
 have hs : s.size ≤ 300 := by
   have : ¬ (300 : Int) < s.size := fun h => g (.inr h)
   omega
 rw [zBI (F30_eq bits k count nodes)]
 refine Eq.trans (join_l (s := PUnit.unit) ?_) ?_
 · rw [zBI (F21_eq bits k count nodes), ieq_d, sel_i]
   by_cases hq : zBg bits k count nodes = 0
   · have he : encd bits k count nodes = ((wrs (flat bits k nodes)).1, 0) := by unfold encd; rw [if_neg (by simpa using hq)]
     have hl : nodes.length ≤ 2000 := (flat_v hq).2
     rw [if_pos hq, he]
     dsimp only
     rw [zBI (F31_eq (wrs_size hq)), dcd_enc hq]
     dsimp only
     rw [sel_t (show bnot (zAK (ine 0 0) true (ine 0 0)) = true from rfl), zBI (F15_same (bits, k, count, nodes) (by show nodes.length ≤ _; omega))]
     rfl
   · have he : encd bits k count nodes = (⟨#[]⟩, 1) := by unfold encd; rw [if_pos hq]
     rw [if_neg hq, he]
     dsimp only
     rw [seq_self]
     rfl
 · rw [zBI (F31_eq (by omega))]
   rcases dcd_can s with h | ⟨b', k', c', n', h, hq, he⟩
   · rw [h]
     dsimp only
     rw [sel_t (show ine 12 0 = true from rfl), zBI (a := true) (by
       rw [sel_t (show ieq 12 12 = true from rfl)]
       exact F15_same zDg (by simp [zDg])), zBI (a := true) (by
       rw [sel_t (show zAK (ieq 12 12) true false = true from rfl)]
       exact awake)]
     rfl
   · rw [h]
     dsimp only
     rw [sel_f (show ine 0 0 = false from rfl), zBI (F30_eq b' k' c' n'), he]
     dsimp only
     rw [seq_self, zBI (a := true) (by
       rw [sel_t (show zAK (ieq 0 0) true false = true from rfl)]
       exact awake)]
     rfl
end Go.Q
