/- Part 6 of what the claim leans on: QF0, QChk, QHeap, QHeapS, QHeap2, QAddS, QAdd, QIns, QInsert, QAdd2S, QAdd2, QBlen, QClone, QSort, QHeapC, QLay, QLayS, QSpec, QF1. -/
import Derived.Test.YtfibkbmlgigemaaM5
import Derived.Calls
import Derived.KernelRfl
import Derived.Orders
import Derived.Laws.Sem
import Derived.Laws.CopyRow
import Derived.Laws.Cells
import Derived.Room.Entries
import Derived.Lib.Overlaps
import GoSem.Conv.BytesToString
import Derived.OrdersHeld
import Derived.ProofKit
import Derived.OpenShut
import Derived.Carry
import Derived.Shelf.SlSortCmp.InsertionK
import Derived.Shelf.Sort.Plain
import Derived.Test.YtfibkbmlgigemaaProg
import Derived.Shelf.SlSortCmp.WholeK
import Derived.Ground.SlsfProg
set_option linter.unusedVariables false
set_option linter.unusedSectionVars false
set_option maxRecDepth 100000
namespace Go.Q
open Go Go.T Go.Ab Go.Proofs
variable [Go.Ab.DM]
noncomputable def F11 (x : (Int × (Int × (Int × (List (Int × Int)))))) : (Option Bool) :=
some (ilt 24 (n2i (zAr x.2.2.2)))
noncomputable def c11 : Con := ⟨11, [.agg (.pr (.int .i64) (.pr (.int .i64) (.pr (.int .i64) (.sl (.agg (.pr (.int .i64) (.int .i64)))))))], [], .bool, [], F11, none⟩
theorem ok11 : zAu Try.prog c11 := zCI hmix [] (zCD) c11 Try.f11 (.o) Try.func11 (by kernel_rfl) (by kernel_rfl) (by kernel_rfl) rfl (fun x => by kernel_rfl) (fun x => ⟨by kernel_rfl, by kernel_rfl⟩)
noncomputable def F13 (x : (Int × Int)) : (Option ((Int × (Int × (Int × (List (Int × Int))))) × Int)) :=
sel (zAK (zAK (zAK (ilt x.1 1) true (ilt 20 x.1)) true (ilt x.2 1)) true (ilt 10000 x.2)) (some ((0, 0, 0, ([] : List (Int × Int))), 2)) <|
some ((x.1, x.2, 0, ([] : List (Int × Int))), 0)
noncomputable def c13 : Con := ⟨13, [.int .i64, .int .i64], [], .tup (.pr (.agg (.pr (.int .i64) (.pr (.int .i64) (.pr (.int .i64) (.sl (.agg (.pr (.int .i64) (.int .i64)))))))) (.int .i64)), [], F13, none⟩
theorem ok13 : zAu Try.prog c13 := zCI hmix [] (zCD) c13 Try.f13 (.o) Try.func13 (by kernel_rfl) (by kernel_rfl) (by kernel_rfl) rfl (fun x => by kernel_rfl) (fun x => ⟨by kernel_rfl, by kernel_rfl⟩)
noncomputable def F14 (x : (Int × Int)) : (Option ((Int × (Int × (Int × (List (Int × Int))))) × Int)) :=
sel (zAK (zAK (zAK (ilt x.1 1) true (ilt 20 x.1)) true (ilt x.2 1)) true (ilt 10000 x.2)) (some ((0, 0, 0, ([] : List (Int × Int))), 2)) <|
some ((x.1, x.2, 0, ([] : List (Int × Int))), 0)
noncomputable def F15 (x : ((Int × (Int × (Int × (List (Int × Int))))) × (Int × (Int × (Int × (List (Int × Int))))))) : (Option Bool) :=
sel (zAK (zAK (zAK (ine x.1.1 x.2.1) true (ine x.1.2.1 x.2.2.1)) true (ine x.1.2.2.1 x.2.2.2.1)) true (ine (n2i (zAr x.1.2.2.2)) (n2i (zAr x.2.2.2.2)))) (some false) <|
join (iter (fun (s0 : Int) =>
sel (ilt s0 (n2i (zAr x.1.2.2.2))) (need (inL s0 (zAr x.1.2.2.2)) <|
need (inL s0 (zAr x.2.2.2.2)) <|
sel (bnot (band (ieq ((zBB (0, 0) x.1.2.2.2 (i2n s0)).1) ((zBB (0, 0) x.2.2.2.2 (i2n s0)).1)) (band (ieq ((zBB (0, 0) x.1.2.2.2 (i2n s0)).2) ((zBB (0, 0) x.2.2.2.2 (i2n s0)).2)) true))) (some (.inr (.inr false))) <|
some (.inl (zAw .i64 s0 1))) <|
some (.inr (.inl ()))) 0) fun (j1 : PUnit) =>
some true
noncomputable def c15 : Con := ⟨15, [.agg (.pr (.int .i64) (.pr (.int .i64) (.pr (.int .i64) (.sl (.agg (.pr (.int .i64) (.int .i64))))))), .agg (.pr (.int .i64) (.pr (.int .i64) (.pr (.int .i64) (.sl (.agg (.pr (.int .i64) (.int .i64)))))))], [], .bool, [], F15, none⟩
theorem ok15 : zAu Try.prog c15 := zCI hmix [] (zCD) c15 Try.f15 (.n .o (.n .o (.n (.n .o (.jb ⟨[], [], [], 0, 0⟩ (.l ⟨[2, 3], [(5, .int .i64)], [], 2, 1⟩ (.n .o (.n (.b (.n (.r [0, 1, 2, 3, 4, 5, 6, 7, 8, 9, 10]) .o)) .o))))) .o))) Try.func15 (by kernel_rfl) (by kernel_rfl) (by kernel_rfl) rfl (fun x => by kernel_rfl) (fun x => ⟨by kernel_rfl, by kernel_rfl⟩)
noncomputable def F20 (x : (Int × (Int × (Int × (List (Int × Int)))))) : (Option Int) :=
sel (zAK (zAK (zAK (ilt x.1 1) true (ilt 20 x.1)) true (ilt x.2.1 1)) true (ilt 10000 x.2.1)) (some 1) <|
sel (zAK (zAK (ilt x.2.2.1 0) true (ilt 1099511627776 x.2.2.1)) true (ilt 2000 (n2i (zAr x.2.2.2)))) (some 1) <|
need (ine x.2.1 0) <|
join (iter (fun (s0 : (Int × (Int × Int))) =>
sel (ilt s0.2.2 (n2i (zAr x.2.2.2))) (need (inL s0.2.2 (zAr x.2.2.2)) <|
need (impl (bnot (ile ((zBB (0, 0) x.2.2.2 (i2n s0.2.2)).1) s0.2.1)) (ile 0 x.1)) <|
sel (zAK (zAK (zAK (ile ((zBB (0, 0) x.2.2.2 (i2n s0.2.2)).1) s0.2.1) true (ile (zDJ .i64 2 x.1) ((zBB (0, 0) x.2.2.2 (i2n s0.2.2)).1))) true (ilt ((zBB (0, 0) x.2.2.2 (i2n s0.2.2)).2) 1)) true (ilt x.2.2.1 ((zBB (0, 0) x.2.2.2 (i2n s0.2.2)).2))) (some (.inr (.inr 1))) <|
need (ile 0 x.1) <|
sel (zAK (ilt ((zBB (0, 0) x.2.2.2 (i2n s0.2.2)).1) (zDJ .i64 1 x.1)) (ilt (iquo .i64 x.2.2.1 x.2.1) ((zBB (0, 0) x.2.2.2 (i2n s0.2.2)).2)) false) (some (.inr (.inr 1))) <|
some (.inl (zAw .i64 s0.1 ((zBB (0, 0) x.2.2.2 (i2n s0.2.2)).2), (zBB (0, 0) x.2.2.2 (i2n s0.2.2)).1, zAw .i64 s0.2.2 1))) <|
some (.inr (.inl s0.1))) (0, 0, 0)) fun (j1 : Int) =>
sel (ine j1 x.2.2.1) (some 1) <|
some 0
noncomputable def c20 : Con := ⟨20, [.agg (.pr (.int .i64) (.pr (.int .i64) (.pr (.int .i64) (.sl (.agg (.pr (.int .i64) (.int .i64)))))))], [], .int .i64, [], F20, none⟩
theorem ok20 : zAu Try.prog c20 := zCI hmix [] (zCD) c20 Try.f20 (.n .o (.n .o (.n .o (.n .o (.n .o (.n (.n .o (.jb ⟨[1], [(4, .int .i64)], [], 1, 0⟩ (.l ⟨[1, 3, 46, 47], [(4, .int .i64), (5, .int .i64), (48, .int .i64)], [], 1, 1⟩ (.n .o (.n .o (.n (.b (.n .o (.n (.n (.r [0, 1, 2, 3, 4, 5, 6, 7, 8, 9, 10, 11, 12, 13, 14, 15, 16, 17, 18, 19, 20, 21, 22, 23]) .o) (.n (.n (.r [0, 1, 2, 3, 4, 5, 6, 7, 8, 9, 10, 11]) .o) .o)))) .o)))))) .o)))))) Try.func20 (by kernel_rfl) (by kernel_rfl) (by kernel_rfl) rfl (fun x => by kernel_rfl) (fun x => ⟨by kernel_rfl, by kernel_rfl⟩)
noncomputable def F21 (x : (Int × (Int × (Int × (List (Int × Int)))))) : (Option Int) :=
sel (zAK (zAK (zAK (zAK (zAK (zAK (ilt x.1 1) true (ilt 20 x.1)) true (ilt x.2.1 1)) true (ilt 10000 x.2.1)) true (ilt x.2.2.1 0)) true (ilt 1099511627776 x.2.2.1)) true (ilt 2000 (n2i (zAr x.2.2.2)))) (some 1) <|
join (iter (fun (s0 : (Int × Int)) =>
sel (ilt s0.2 (n2i (zAr x.2.2.2))) (need (inL s0.2 (zAr x.2.2.2)) <|
need (impl (bnot (ilt ((zBB (0, 0) x.2.2.2 (i2n s0.2)).1) 1)) (ile 0 x.1)) <|
need (impl (band (bnot (zAK (ilt ((zBB (0, 0) x.2.2.2 (i2n s0.2)).1) 1) true (ile (zDJ .i64 2 x.1) ((zBB (0, 0) x.2.2.2 (i2n s0.2)).1)))) (ilt 0 s0.2)) (inL (zDD .i64 s0.2 1) (zAr x.2.2.2))) <|
need (impl (bnot (zAK (zAK (zAK (zAK (ilt ((zBB (0, 0) x.2.2.2 (i2n s0.2)).1) 1) true (ile (zDJ .i64 2 x.1) ((zBB (0, 0) x.2.2.2 (i2n s0.2)).1))) true (zAK (ilt 0 s0.2) (ile ((zBB (0, 0) x.2.2.2 (i2n s0.2)).1) ((zBB (0, 0) x.2.2.2 (i2n (zDD .i64 s0.2 1))).1)) false)) true (ilt ((zBB (0, 0) x.2.2.2 (i2n s0.2)).2) 1)) true (ilt x.2.2.1 ((zBB (0, 0) x.2.2.2 (i2n s0.2)).2)))) (ile 0 x.1)) <|
need (impl (band (bnot (zAK (zAK (zAK (zAK (ilt ((zBB (0, 0) x.2.2.2 (i2n s0.2)).1) 1) true (ile (zDJ .i64 2 x.1) ((zBB (0, 0) x.2.2.2 (i2n s0.2)).1))) true (zAK (ilt 0 s0.2) (ile ((zBB (0, 0) x.2.2.2 (i2n s0.2)).1) ((zBB (0, 0) x.2.2.2 (i2n (zDD .i64 s0.2 1))).1)) false)) true (ilt ((zBB (0, 0) x.2.2.2 (i2n s0.2)).2) 1)) true (ilt x.2.2.1 ((zBB (0, 0) x.2.2.2 (i2n s0.2)).2)))) (ilt ((zBB (0, 0) x.2.2.2 (i2n s0.2)).1) (zDJ .i64 1 x.1))) (ine x.2.1 0)) <|
sel (zAK (zAK (zAK (zAK (zAK (ilt ((zBB (0, 0) x.2.2.2 (i2n s0.2)).1) 1) true (ile (zDJ .i64 2 x.1) ((zBB (0, 0) x.2.2.2 (i2n s0.2)).1))) true (zAK (ilt 0 s0.2) (ile ((zBB (0, 0) x.2.2.2 (i2n s0.2)).1) ((zBB (0, 0) x.2.2.2 (i2n (zDD .i64 s0.2 1))).1)) false)) true (ilt ((zBB (0, 0) x.2.2.2 (i2n s0.2)).2) 1)) true (ilt x.2.2.1 ((zBB (0, 0) x.2.2.2 (i2n s0.2)).2))) true (zAK (ilt ((zBB (0, 0) x.2.2.2 (i2n s0.2)).1) (zDJ .i64 1 x.1)) (ilt (iquo .i64 x.2.2.1 x.2.1) ((zBB (0, 0) x.2.2.2 (i2n s0.2)).2)) false)) (some (.inr (.inr 1))) <|
some (.inl (zAw .i64 s0.1 ((zBB (0, 0) x.2.2.2 (i2n s0.2)).2), zAw .i64 s0.2 1))) <|
some (.inr (.inl s0.1))) (0, 0)) fun (j1 : Int) =>
sel (ine j1 x.2.2.1) (some 1) <|
some 0
noncomputable def c21 : Con := ⟨21, [.agg (.pr (.int .i64) (.pr (.int .i64) (.pr (.int .i64) (.sl (.agg (.pr (.int .i64) (.int .i64)))))))], [], .int .i64, [], F21, none⟩
theorem ok21 : zAu Try.prog c21 := zCI hmix [] (zCD) c21 Try.f21 (.n .o (.n .o (.n .o (.n (.n .o (.jb ⟨[1], [(3, .int .i64)], [], 1, 0⟩ (.l ⟨[1], [(3, .int .i64), (4, .int .i64)], [], 1, 1⟩ (.n .o (.n (.b (.n .o (.n (.n (.r [0, 1, 2, 3, 4, 5, 6, 7, 8, 9, 10, 11, 12, 13, 14, 15, 16, 17, 18, 19, 20, 21, 22, 23, 24, 25, 26, 27, 28, 29, 30, 31, 32, 33, 34, 35, 36, 37, 38, 39, 40, 41, 42, 43, 44, 45, 46, 47, 48, 49, 50, 51, 52, 53, 54, 55, 56]) .o) .o))) .o))))) .o)))) Try.func21 (by kernel_rfl) (by kernel_rfl) (by kernel_rfl) rfl (fun x => by kernel_rfl) (fun x => ⟨by kernel_rfl, by kernel_rfl⟩)
noncomputable def F40 (x : ((List (Int × Int)) × (List (Int × Int)))) : (Option Bool) :=
sel (ine (n2i (zAr x.1)) (n2i (zAr x.2))) (some false) <|
join (iter (fun (s0 : Int) =>
sel (ilt s0 (n2i (zAr x.1))) (need (inL s0 (zAr x.1)) <|
need (inL s0 (zAr x.2)) <|
sel (bnot (band (ieq ((zBB (0, 0) x.1 (i2n s0)).1) ((zBB (0, 0) x.2 (i2n s0)).1)) (band (ieq ((zBB (0, 0) x.1 (i2n s0)).2) ((zBB (0, 0) x.2 (i2n s0)).2)) true))) (some (.inr (.inr false))) <|
some (.inl (zAw .i64 s0 1))) <|
some (.inr (.inl ()))) 0) fun (j1 : PUnit) =>
some true
noncomputable def c40 : Con := ⟨40, [.sl (.agg (.pr (.int .i64) (.int .i64))), .sl (.agg (.pr (.int .i64) (.int .i64)))], [], .bool, [], F40, none⟩
theorem ok40 : zAu Try.prog c40 := zCI hmix [] (zCD) c40 Try.f40 (.n .o (.n .o (.n (.n .o (.jb ⟨[], [], [], 0, 0⟩ (.l ⟨[0, 1, 12], [(13, .int .i64)], [], 0, 1⟩ (.n .o (.n .o (.n (.b (.n .o (.n (.r [0, 1, 2, 3, 4, 5, 6, 7, 8]) .o))) .o)))))) .o))) Try.func40 (by kernel_rfl) (by kernel_rfl) (by kernel_rfl) rfl (fun x => by kernel_rfl) (fun x => ⟨by kernel_rfl, by kernel_rfl⟩)
noncomputable def F44 (x : (Int × (Int × (Int × (List (Int × Int)))))) : (Option ((Int × (Int × (Int × (List (Int × Int))))) × Int)) :=
sel (zAK (ilt 1099511627776 x.2.2.1) true (ilt 2000 (n2i (zAr x.2.2.2)))) (some ((0, 0, 0, ([] : List (Int × Int))), 4)) <|
some (x, 0)
noncomputable def F45 (x : ((List (Int × Int)) × (Int × Int))) : (Option (List (Int × Int))) :=
join (iter (fun (s0 : Int) =>
need (impl (ilt s0 (n2i (zAr x.1))) (inL s0 (zAr x.1))) <|
sel (zAK (ilt s0 (n2i (zAr x.1))) (ilt ((zBB (0, 0) x.1 (i2n s0)).1) x.2.1) false) (some (.inl (zAw .i64 s0 1))) <|
some (.inr (.inl s0))) 0) fun (j1 : Int) =>
need (inS 0 j1 (zAr x.1)) <|
need (room (nadd (zAr ([] : List (Int × Int))) (zAr (lsub x.1 (i2n 0) (nsub (i2n j1) (i2n 0))))) 16) <|
need (impl (ilt j1 (n2i (zAr x.1))) (inL j1 (zAr x.1))) <|
sel (zAK (ilt j1 (n2i (zAr x.1))) (ieq ((zBB (0, 0) x.1 (i2n j1)).1) x.2.1) false) (need (inL j1 (zAr x.1)) <|
need (room (nadd (zAr (lcat ([] : List (Int × Int)) (lsub x.1 (i2n 0) (nsub (i2n j1) (i2n 0))))) (zAr ((x.2.1, zAw .i64 ((zBB (0, 0) x.1 (i2n j1)).2) x.2.2) :: ([] : List (Int × Int))))) 16) <|
need (inS (zAw .i64 j1 1) (n2i (zAr x.1)) (zAr x.1)) <|
need (room (nadd (zAr (lcat (lcat ([] : List (Int × Int)) (lsub x.1 (i2n 0) (nsub (i2n j1) (i2n 0)))) ((x.2.1, zAw .i64 ((zBB (0, 0) x.1 (i2n j1)).2) x.2.2) :: ([] : List (Int × Int))))) (zAr (lsub x.1 (i2n (zAw .i64 j1 1)) (nsub (i2n (n2i (zAr x.1))) (i2n (zAw .i64 j1 1)))))) 16) <|
some (lcat (lcat (lcat ([] : List (Int × Int)) (lsub x.1 (i2n 0) (nsub (i2n j1) (i2n 0)))) ((x.2.1, zAw .i64 ((zBB (0, 0) x.1 (i2n j1)).2) x.2.2) :: ([] : List (Int × Int)))) (lsub x.1 (i2n (zAw .i64 j1 1)) (nsub (i2n (n2i (zAr x.1))) (i2n (zAw .i64 j1 1)))))) <|
need (room (nadd (zAr (lcat ([] : List (Int × Int)) (lsub x.1 (i2n 0) (nsub (i2n j1) (i2n 0))))) (zAr ((x.2.1, x.2.2) :: ([] : List (Int × Int))))) 16) <|
need (inS j1 (n2i (zAr x.1)) (zAr x.1)) <|
need (room (nadd (zAr (lcat (lcat ([] : List (Int × Int)) (lsub x.1 (i2n 0) (nsub (i2n j1) (i2n 0)))) ((x.2.1, x.2.2) :: ([] : List (Int × Int))))) (zAr (lsub x.1 (i2n j1) (nsub (i2n (n2i (zAr x.1))) (i2n j1))))) 16) <|
some (lcat (lcat (lcat ([] : List (Int × Int)) (lsub x.1 (i2n 0) (nsub (i2n j1) (i2n 0)))) ((x.2.1, x.2.2) :: ([] : List (Int × Int)))) (lsub x.1 (i2n j1) (nsub (i2n (n2i (zAr x.1))) (i2n j1))))
noncomputable def F47 (x : (List Int)) : (Option Int) :=
some (n2i (zAr x))
noncomputable def c47 : Con := ⟨47, [.sl (.int .i64)], [], .int .i64, [], F47, none⟩
theorem ok47 : zAu Try.prog c47 := zCI hmix [] (zCD) c47 Try.f47 (.o) Try.func47 (by kernel_rfl) (by kernel_rfl) (by kernel_rfl) rfl (fun x => by kernel_rfl) (fun x => ⟨by kernel_rfl, by kernel_rfl⟩)
noncomputable def F51 (x : ((Int × Int) × (Int × Int))) : (Option Int) :=
some (zDD .i64 x.1.1 x.2.1)
noncomputable def c51 : Con := ⟨51, [.agg (.pr (.int .i64) (.int .i64)), .agg (.pr (.int .i64) (.int .i64))], [], .int .i64, [], F51, none⟩
theorem ok51 : zAu Try.prog c51 := zCI hmix [] (zCD) c51 Try.f51 (.o) Try.func51 (by kernel_rfl) (by kernel_rfl) (by kernel_rfl) rfl (fun x => by kernel_rfl) (fun x => ⟨by kernel_rfl, by kernel_rfl⟩)
noncomputable def F52 (x : ((List (Int × Int)) × Int)) : (Option Int) :=
join (iter (fun (s0 : Int) =>
sel (ilt s0 (n2i (zAr x.1))) (need (inL s0 (zAr x.1)) <|
sel (ieq ((zBB (0, 0) x.1 (i2n s0)).1) x.2) (need (inL s0 (zAr x.1)) <|
some (.inr (.inr ((zBB (0, 0) x.1 (i2n s0)).2)))) <|
some (.inl (zAw .i64 s0 1))) <|
some (.inr (.inl ()))) 0) fun (j1 : PUnit) =>
some 0
noncomputable def F53 (x : ((List (Int × Int)) × Int)) : (Option (List (Int × Int))) :=
join (iter (fun (s0 : (Int × (List (Int × Int)))) =>
sel (ilt s0.1 (n2i (zAr x.1))) (join (need (inL s0.1 (zAr x.1)) <|
need (ine 2 0) <|
sel (ine (iquo .i64 ((zBB (0, 0) x.1 (i2n s0.1)).1) 2) x.2) (need (inL s0.1 (zAr x.1)) <|
need (room (nadd (zAr s0.2) (zAr (zBB (0, 0) x.1 (i2n s0.1) :: ([] : List (Int × Int))))) 16) <|
some (.inl (lcat s0.2 (zBB (0, 0) x.1 (i2n s0.1) :: ([] : List (Int × Int)))))) <|
some (.inl s0.2)) fun (j1 : (List (Int × Int))) =>
some (.inl (zAw .i64 s0.1 1, j1))) <|
some (.inr (.inl s0.2))) (0, ([] : List (Int × Int)))) fun (j2 : (List (Int × Int))) =>
some j2
noncomputable def F55 (x : (Int × Int)) : (Option Int) :=
join (iter (fun (s0 : Int) =>
need (ile 0 x.1) <|
sel (ilt s0 (zDJ .i64 1 x.1)) (some (.inl (zAw .i64 (zCa .i64 2 s0) 1))) <|
some (.inr (.inl s0))) x.2) fun (j1 : Int) =>
need (ile 0 x.1) <|
some (zDD .i64 j1 (zDJ .i64 1 x.1))
noncomputable def F56 (x : (Int × Int)) : (Option Int) :=
join (iter (fun (s0 : Int) =>
need (ile 0 x.1) <|
sel (ilt s0 (zDJ .i64 1 x.1)) (some (.inl (zCa .i64 2 s0))) <|
some (.inr (.inl s0))) x.2) fun (j1 : Int) =>
need (ile 0 x.1) <|
some (zDD .i64 j1 (zDJ .i64 1 x.1))
noncomputable def F68 (x : (Int × Int)) : (Option Int) :=
join (iter (fun (s0 : (Int × Int)) =>
sel (ilt 0 s0.2) (need (ine s0.2 0) <|
some (.inl (s0.2, irem s0.1 s0.2))) <|
some (.inr (.inl s0.1))) (x.1, x.2)) fun (j1 : Int) =>
some j1
noncomputable def F69 (x : Int) : (Option Int) :=
sel (ilt x 0) (some (ineg .i64 x)) <|
some x
noncomputable def F72 (x : Int) : (Option Int) :=
sel (ilt x 0) (some (zAw .u64 (zAV .u64 (ineg .i64 (zAw .i64 x 1))) 1)) <|
some (zAV .u64 x)
noncomputable def F81 (x : (Int × Int)) : (Option Int) :=
join (iter (fun (s0 : (Int × Int)) =>
sel (ine s0.2 0) (need (ine s0.2 0) <|
some (.inl (s0.2, irem s0.1 s0.2))) <|
some (.inr (.inl s0.1))) (x.1, x.2)) fun (j1 : Int) =>
some j1
noncomputable def c81 : Con := ⟨81, [.int .u64, .int .u64], [], .int .u64, [], F81, none⟩
theorem ok81 : zAu Try.prog c81 := zCI hmix [] (zCD) c81 Try.f81 (.n .o (.n (.jb ⟨[], [(0, .int .u64)], [], 0, 0⟩ (.l ⟨[], [(0, .int .u64), (1, .int .u64)], [], 0, 1⟩ (.n .o (.b (.r [0, 1, 2, 3, 4, 5]))))) .o)) Try.func81 (by kernel_rfl) (by kernel_rfl) (by kernel_rfl) rfl (fun x => by kernel_rfl) (fun x => ⟨by kernel_rfl, by kernel_rfl⟩)
noncomputable def F82 (x : Int) : (Option Int) :=
sel (ilt x 0) (some (ineg .u64 (zAV .u64 x))) <|
some (zAV .u64 x)
noncomputable def c82 : Con := ⟨82, [.int .i64], [], .int .u64, [], F82, none⟩
theorem ok82 : zAu Try.prog c82 := zCI hmix [] (zCD) c82 Try.f82 (.o) Try.func82 (by kernel_rfl) (by kernel_rfl) (by kernel_rfl) rfl (fun x => by kernel_rfl) (fun x => ⟨by kernel_rfl, by kernel_rfl⟩)
noncomputable def F83 (x : (Int × Int)) : (Option (Int × Int)) :=
need (ile 0 32) <|
need (ile 0 32) <|
need (ile 0 32) <|
need (ile 0 32) <|
need (ile 0 32) <|
some (zAw .u64 (zAw .u64 (zCa .u64 (ishr .u64 x.1 32) (ishr .u64 x.2 32)) (ishr .u64 (zAw .u64 (zCa .u64 (ishr .u64 x.1 32) (iand .u64 x.2 4294967295)) (ishr .u64 (zCa .u64 (iand .u64 x.1 4294967295) (iand .u64 x.2 4294967295)) 32)) 32)) (ishr .u64 (zAw .u64 (iand .u64 (zAw .u64 (zCa .u64 (ishr .u64 x.1 32) (iand .u64 x.2 4294967295)) (ishr .u64 (zCa .u64 (iand .u64 x.1 4294967295) (iand .u64 x.2 4294967295)) 32)) 4294967295) (zCa .u64 (iand .u64 x.1 4294967295) (ishr .u64 x.2 32))) 32), zCa .u64 x.1 x.2)
noncomputable def c83 : Con := ⟨83, [.int .u64, .int .u64], [], .tup (.pr (.int .u64) (.int .u64)), [], F83, none⟩
theorem ok83 : zAu Try.prog c83 := zCI hmix [] (zCD) c83 Try.f83 (.o) Try.func83 (by kernel_rfl) (by kernel_rfl) (by kernel_rfl) rfl (fun x => by kernel_rfl) (fun x => ⟨by kernel_rfl, by kernel_rfl⟩)
noncomputable def F86n (x : Int) : (Option (List Int)) :=
join (iter (fun (s0 : (Int × (List Int))) =>
sel (ile 128 s0.1) (need (room (nadd (zAr s0.2) (zAr (ior .u8 (zAV .u8 (iand .u64 s0.1 127)) 128 :: ([] : List Int)))) 1) <|
need (ile 0 7) <|
some (.inl (ishr .u64 s0.1 7, lcat s0.2 (ior .u8 (zAV .u8 (iand .u64 s0.1 127)) 128 :: ([] : List Int))))) <|
some (.inr (.inl (s0.1, s0.2)))) (x, ([] : List Int))) fun (j1 : (Int × (List Int))) =>
need (room (nadd (zAr j1.2) (zAr (zAV .u8 j1.1 :: ([] : List Int)))) 1) <|
some (lcat j1.2 (zAV .u8 j1.1 :: ([] : List Int)))
noncomputable def c86n : Con := ⟨86, [.nul 0, .int .u64], [], .own 0, [.lst (.int .u8)], F86n, none⟩
theorem ok86n : zAu Try.prog c86n := zCI hmix [] (zCD) c86n Try.f86 (.n .o (.n (.jb ⟨[], [(0, .own 0), (1, .int .u64)], [(0, .lst (.int .u8))], 1, 0⟩ (.l ⟨[], [(0, .own 0), (1, .int .u64)], [(0, .lst (.int .u8))], 1, 1⟩ .o)) .o)) Try.func86 (by kernel_rfl) (by kernel_rfl) (by kernel_rfl) rfl (fun x => by kernel_rfl) (fun x => ⟨by kernel_rfl, by kernel_rfl⟩)
noncomputable def F86 (x : (Int × (List Int))) : (Option (List Int)) :=
join (iter (fun (s0 : (Int × (List Int))) =>
sel (ile 128 s0.1) (need (room (nadd (zAr s0.2) (zAr (ior .u8 (zAV .u8 (iand .u64 s0.1 127)) 128 :: ([] : List Int)))) 1) <|
need (ile 0 7) <|
some (.inl (ishr .u64 s0.1 7, lcat s0.2 (ior .u8 (zAV .u8 (iand .u64 s0.1 127)) 128 :: ([] : List Int))))) <|
some (.inr (.inl (s0.1, s0.2)))) (x.1, x.2)) fun (j1 : (Int × (List Int))) =>
need (room (nadd (zAr j1.2) (zAr (zAV .u8 j1.1 :: ([] : List Int)))) 1) <|
some (lcat j1.2 (zAV .u8 j1.1 :: ([] : List Int)))
noncomputable def c86 : Con := ⟨86, [.own 0, .int .u64], [.lst (.int .u8)], .own 1, [.gone, .lst (.int .u8)], F86, none⟩
theorem ok86 : zAu Try.prog c86 := okM_of hmix [] (zCD) c86 Try.f86 (.n .o (.n (.jb ⟨[], [(0, .own 0), (1, .int .u64)], [(0, .lst (.int .u8))], 1, 0⟩ (.l ⟨[], [(0, .own 0), (1, .int .u64)], [(0, .lst (.int .u8))], 1, 1⟩ .o)) .o)) Try.func86 (by kernel_rfl) (by kernel_rfl) (by kernel_rfl) rfl (fun y => by kernel_rfl) (fun x => by kernel_rfl) (fun x => ⟨by kernel_rfl, by kernel_rfl⟩)
noncomputable def F87 (x : Int) : (Option Bool) :=
some (zAK (ile (-1152921504606846976) x) (ile x 1152921504606846976) false)
noncomputable def c87 : Con := ⟨87, [.int .i64], [], .bool, [], F87, none⟩
theorem ok87 : zAu Try.prog c87 := zCI hmix [] (zCD) c87 Try.f87 (.o) Try.func87 (by kernel_rfl) (by kernel_rfl) (by kernel_rfl) rfl (fun x => by kernel_rfl) (fun x => ⟨by kernel_rfl, by kernel_rfl⟩)
noncomputable def F88 (x : Int) : (Option Int) :=
sel (ile 0 x) (some (zCa .u64 2 (zAV .u64 x))) <|
some (zDD .u64 (zCa .u64 2 (zAV .u64 (ineg .i64 x))) 1)
noncomputable def c88 : Con := ⟨88, [.int .i64], [], .int .u64, [], F88, none⟩
theorem ok88 : zAu Try.prog c88 := zCI hmix [] (zCD) c88 Try.f88 (.o) Try.func88 (by kernel_rfl) (by kernel_rfl) (by kernel_rfl) rfl (fun x => by kernel_rfl) (fun x => ⟨by kernel_rfl, by kernel_rfl⟩)
noncomputable def F104 (x : Int) : (Option Int) :=
join (sel (ile 65536 x) (need (ile 0 16) <|
some (.inl (ishr .u32 x 16, 16))) <|
some (.inl (x, 0))) fun (j0 : (Int × Int)) =>
join (sel (ile 256 j0.1) (need (ile 0 8) <|
some (.inl (ishr .u32 j0.1 8, zAw .i64 j0.2 8))) <|
some (.inl (j0.1, j0.2))) fun (j1 : (Int × Int)) =>
need (inL (zAV .u8 j1.1) (zDS (⟨#[0, 1, 2, 2, 3, 3, 3, 3, 4, 4, 4, 4, 4, 4, 4, 4, 5, 5, 5, 5, 5, 5, 5, 5, 5, 5, 5, 5, 5, 5, 5, 5, 6, 6, 6, 6, 6, 6, 6, 6, 6, 6, 6, 6, 6, 6, 6, 6, 6, 6, 6, 6, 6, 6, 6, 6, 6, 6, 6, 6, 6, 6, 6, 6, 7, 7, 7, 7, 7, 7, 7, 7, 7, 7, 7, 7, 7, 7, 7, 7, 7, 7, 7, 7, 7, 7, 7, 7, 7, 7, 7, 7, 7, 7, 7, 7, 7, 7, 7, 7, 7, 7, 7, 7, 7, 7, 7, 7, 7, 7, 7, 7, 7, 7, 7, 7, 7, 7, 7, 7, 7, 7, 7, 7, 7, 7, 7, 7, 8, 8, 8, 8, 8, 8, 8, 8, 8, 8, 8, 8, 8, 8, 8, 8, 8, 8, 8, 8, 8, 8, 8, 8, 8, 8, 8, 8, 8, 8, 8, 8, 8, 8, 8, 8, 8, 8, 8, 8, 8, 8, 8, 8, 8, 8, 8, 8, 8, 8, 8, 8, 8, 8, 8, 8, 8, 8, 8, 8, 8, 8, 8, 8, 8, 8, 8, 8, 8, 8, 8, 8, 8, 8, 8, 8, 8, 8, 8, 8, 8, 8, 8, 8, 8, 8, 8, 8, 8, 8, 8, 8, 8, 8, 8, 8, 8, 8, 8, 8, 8, 8, 8, 8, 8, 8, 8, 8, 8, 8, 8, 8, 8, 8, 8, 8, 8, 8, 8, 8, 8, 8, 8, 8, 8, 8, 8, 8]⟩ : ByteArray))) <|
some (zAw .i64 j1.2 (zAV .i64 (sget (⟨#[0, 1, 2, 2, 3, 3, 3, 3, 4, 4, 4, 4, 4, 4, 4, 4, 5, 5, 5, 5, 5, 5, 5, 5, 5, 5, 5, 5, 5, 5, 5, 5, 6, 6, 6, 6, 6, 6, 6, 6, 6, 6, 6, 6, 6, 6, 6, 6, 6, 6, 6, 6, 6, 6, 6, 6, 6, 6, 6, 6, 6, 6, 6, 6, 7, 7, 7, 7, 7, 7, 7, 7, 7, 7, 7, 7, 7, 7, 7, 7, 7, 7, 7, 7, 7, 7, 7, 7, 7, 7, 7, 7, 7, 7, 7, 7, 7, 7, 7, 7, 7, 7, 7, 7, 7, 7, 7, 7, 7, 7, 7, 7, 7, 7, 7, 7, 7, 7, 7, 7, 7, 7, 7, 7, 7, 7, 7, 7, 8, 8, 8, 8, 8, 8, 8, 8, 8, 8, 8, 8, 8, 8, 8, 8, 8, 8, 8, 8, 8, 8, 8, 8, 8, 8, 8, 8, 8, 8, 8, 8, 8, 8, 8, 8, 8, 8, 8, 8, 8, 8, 8, 8, 8, 8, 8, 8, 8, 8, 8, 8, 8, 8, 8, 8, 8, 8, 8, 8, 8, 8, 8, 8, 8, 8, 8, 8, 8, 8, 8, 8, 8, 8, 8, 8, 8, 8, 8, 8, 8, 8, 8, 8, 8, 8, 8, 8, 8, 8, 8, 8, 8, 8, 8, 8, 8, 8, 8, 8, 8, 8, 8, 8, 8, 8, 8, 8, 8, 8, 8, 8, 8, 8, 8, 8, 8, 8, 8, 8, 8, 8, 8, 8, 8, 8, 8, 8]⟩ : ByteArray) (zAV .u8 j1.1))))
noncomputable def c104 : Con := ⟨104, [.int .u32], [], .int .i64, [], F104, none⟩
theorem ok104 : zAu Try.prog c104 := zCI hmix [] (zCD) c104 Try.f104 (.n .o (.j ⟨[], [(0, .int .u32), (2, .int .i64)], [], 0, 0⟩ .o (.j ⟨[], [(0, .int .u32), (2, .int .i64)], [], 0, 1⟩ .o .o))) Try.func104 (by kernel_rfl) (by kernel_rfl) (by kernel_rfl) rfl (fun x => by kernel_rfl) (fun x => ⟨by kernel_rfl, by kernel_rfl⟩)
noncomputable def F105 (x : Int) : (Option Int) :=
join (sel (ile 4294967296 x) (need (ile 0 32) <|
some (.inl (ishr .u64 x 32, 32))) <|
some (.inl (x, 0))) fun (j0 : (Int × Int)) =>
join (sel (ile 65536 j0.1) (need (ile 0 16) <|
some (.inl (ishr .u64 j0.1 16, zAw .i64 j0.2 16))) <|
some (.inl (j0.1, j0.2))) fun (j1 : (Int × Int)) =>
join (sel (ile 256 j1.1) (need (ile 0 8) <|
some (.inl (ishr .u64 j1.1 8, zAw .i64 j1.2 8))) <|
some (.inl (j1.1, j1.2))) fun (j2 : (Int × Int)) =>
need (inL (zAV .u8 j2.1) (zDS (⟨#[0, 1, 2, 2, 3, 3, 3, 3, 4, 4, 4, 4, 4, 4, 4, 4, 5, 5, 5, 5, 5, 5, 5, 5, 5, 5, 5, 5, 5, 5, 5, 5, 6, 6, 6, 6, 6, 6, 6, 6, 6, 6, 6, 6, 6, 6, 6, 6, 6, 6, 6, 6, 6, 6, 6, 6, 6, 6, 6, 6, 6, 6, 6, 6, 7, 7, 7, 7, 7, 7, 7, 7, 7, 7, 7, 7, 7, 7, 7, 7, 7, 7, 7, 7, 7, 7, 7, 7, 7, 7, 7, 7, 7, 7, 7, 7, 7, 7, 7, 7, 7, 7, 7, 7, 7, 7, 7, 7, 7, 7, 7, 7, 7, 7, 7, 7, 7, 7, 7, 7, 7, 7, 7, 7, 7, 7, 7, 7, 8, 8, 8, 8, 8, 8, 8, 8, 8, 8, 8, 8, 8, 8, 8, 8, 8, 8, 8, 8, 8, 8, 8, 8, 8, 8, 8, 8, 8, 8, 8, 8, 8, 8, 8, 8, 8, 8, 8, 8, 8, 8, 8, 8, 8, 8, 8, 8, 8, 8, 8, 8, 8, 8, 8, 8, 8, 8, 8, 8, 8, 8, 8, 8, 8, 8, 8, 8, 8, 8, 8, 8, 8, 8, 8, 8, 8, 8, 8, 8, 8, 8, 8, 8, 8, 8, 8, 8, 8, 8, 8, 8, 8, 8, 8, 8, 8, 8, 8, 8, 8, 8, 8, 8, 8, 8, 8, 8, 8, 8, 8, 8, 8, 8, 8, 8, 8, 8, 8, 8, 8, 8, 8, 8, 8, 8, 8, 8]⟩ : ByteArray))) <|
some (zAw .i64 j2.2 (zAV .i64 (sget (⟨#[0, 1, 2, 2, 3, 3, 3, 3, 4, 4, 4, 4, 4, 4, 4, 4, 5, 5, 5, 5, 5, 5, 5, 5, 5, 5, 5, 5, 5, 5, 5, 5, 6, 6, 6, 6, 6, 6, 6, 6, 6, 6, 6, 6, 6, 6, 6, 6, 6, 6, 6, 6, 6, 6, 6, 6, 6, 6, 6, 6, 6, 6, 6, 6, 7, 7, 7, 7, 7, 7, 7, 7, 7, 7, 7, 7, 7, 7, 7, 7, 7, 7, 7, 7, 7, 7, 7, 7, 7, 7, 7, 7, 7, 7, 7, 7, 7, 7, 7, 7, 7, 7, 7, 7, 7, 7, 7, 7, 7, 7, 7, 7, 7, 7, 7, 7, 7, 7, 7, 7, 7, 7, 7, 7, 7, 7, 7, 7, 8, 8, 8, 8, 8, 8, 8, 8, 8, 8, 8, 8, 8, 8, 8, 8, 8, 8, 8, 8, 8, 8, 8, 8, 8, 8, 8, 8, 8, 8, 8, 8, 8, 8, 8, 8, 8, 8, 8, 8, 8, 8, 8, 8, 8, 8, 8, 8, 8, 8, 8, 8, 8, 8, 8, 8, 8, 8, 8, 8, 8, 8, 8, 8, 8, 8, 8, 8, 8, 8, 8, 8, 8, 8, 8, 8, 8, 8, 8, 8, 8, 8, 8, 8, 8, 8, 8, 8, 8, 8, 8, 8, 8, 8, 8, 8, 8, 8, 8, 8, 8, 8, 8, 8, 8, 8, 8, 8, 8, 8, 8, 8, 8, 8, 8, 8, 8, 8, 8, 8, 8, 8, 8, 8, 8, 8, 8, 8]⟩ : ByteArray) (zAV .u8 j2.1))))
noncomputable def c105 : Con := ⟨105, [.int .u64], [], .int .i64, [], F105, none⟩
theorem ok105 : zAu Try.prog c105 := zCI hmix [] (zCD) c105 Try.f105 (.n .o (.j ⟨[], [(0, .int .u64), (2, .int .i64)], [], 0, 0⟩ .o (.j ⟨[], [(0, .int .u64), (2, .int .i64)], [], 0, 1⟩ .o (.j ⟨[], [(0, .int .u64), (2, .int .i64)], [], 0, 2⟩ .o .o)))) Try.func105 (by kernel_rfl) (by kernel_rfl) (by kernel_rfl) rfl (fun x => by kernel_rfl) (fun x => ⟨by kernel_rfl, by kernel_rfl⟩)
noncomputable def F106 (x : ((Int × (Int × Int)) × (Int × (Int × Int)))) : (Option Bool) :=
some (zAK (ilt x.1.2.1 x.2.2.1) true (zAK (ieq x.1.2.1 x.2.2.1) (ilt x.1.2.2 x.2.2.2) false))
noncomputable def F111 (x : Int) : (Option Int) :=
need (ine 2 0) <|
sel (ieq (irem x 2) 0) (need (ine 2 0) <|
some (zAV .i64 (iquo .u64 x 2))) <|
need (ine 2 0) <|
some (zDD .i64 (ineg .i64 (zAV .i64 (iquo .u64 x 2))) 1)
noncomputable def c111 : Con := ⟨111, [.int .u64], [], .int .i64, [], F111, none⟩
theorem ok111 : zAu Try.prog c111 := zCI hmix [] (zCD) c111 Try.f111 (.o) Try.func111 (by kernel_rfl) (by kernel_rfl) (by kernel_rfl) rfl (fun x => by kernel_rfl) (fun x => ⟨by kernel_rfl, by kernel_rfl⟩)
noncomputable def F17 (x : ((Int × (Int × (Int × (List (Int × Int))))) × (Int × Int))) : (Option ((Int × (Int × (Int × (List (Int × Int))))) × Int)) :=
call (F21 x.1) fun (r0 : Int) =>
sel (ine r0 0) (some ((0, 0, 0, ([] : List (Int × Int))), 1)) <|
need (impl (bnot (ilt x.2.1 0)) (ile 0 x.1.1)) <|
sel (zAK (zAK (ilt x.2.1 0) true (ile (zDJ .i64 1 x.1.1) x.2.1)) true (ilt x.2.2 1)) (some ((0, 0, 0, ([] : List (Int × Int))), 2)) <|
sel (ilt 1099511627776 x.2.2) (some ((0, 0, 0, ([] : List (Int × Int))), 4)) <|
need (ile 0 x.1.1) <|
call (F45 (x.1.2.2.2, zAw .i64 (zDJ .i64 1 x.1.1) x.2.1, x.2.2)) fun (r1 : (List (Int × Int))) =>
call (F44 (x.1.1, x.1.2.1, zAw .i64 x.1.2.2.1 x.2.2, r1)) fun (r2 : ((Int × (Int × (Int × (List (Int × Int))))) × Int)) =>
some (r2.1, r2.2)
noncomputable def F19 (x : (Int × (Int × (Int × (List (Int × Int)))))) : (Option ((Int × (Int × (Int × (List (Int × Int))))) × Int)) :=
call (F21 x) fun (r0 : Int) =>
sel (ine r0 0) (some ((0, 0, 0, ([] : List (Int × Int))), 1)) <|
need (room (nadd (zAr ([] : List (Int × Int))) (zAr x.2.2.2)) 16) <|
join (iter (fun (s1 : ((List (Int × Int)) × Int)) =>
sel (ile 0 s1.2) (join (need (inL s1.2 (zAr s1.1)) <|
need (ine 2 0) <|
call (F52 (s1.1, zCa .i64 2 (iquo .i64 ((zBB (0, 0) s1.1 (i2n s1.2)).1) 2))) fun (r2 : Int) =>
call (F52 (s1.1, zAw .i64 (zCa .i64 2 (iquo .i64 ((zBB (0, 0) s1.1 (i2n s1.2)).1) 2)) 1)) fun (r3 : Int) =>
need (impl (bnot (ieq (iquo .i64 ((zBB (0, 0) s1.1 (i2n s1.2)).1) 2) 0)) (ine x.2.1 0)) <|
call (sel (bnot (ieq (iquo .i64 ((zBB (0, 0) s1.1 (i2n s1.2)).1) 2) 0)) (F52 (s1.1, iquo .i64 ((zBB (0, 0) s1.1 (i2n s1.2)).1) 2)) <|
some 0) fun (r4 : Int) =>
sel (zAK (ieq (iquo .i64 ((zBB (0, 0) s1.1 (i2n s1.2)).1) 2) 0) true (ilt (iquo .i64 x.2.2.1 x.2.1) (zAw .i64 (zAw .i64 r2 r3) r4))) (some (.inl (s1.1, zDD .i64 s1.2 1))) <|
call (F53 (s1.1, iquo .i64 ((zBB (0, 0) s1.1 (i2n s1.2)).1) 2)) fun (r5 : (List (Int × Int))) =>
call (F45 (r5, iquo .i64 ((zBB (0, 0) s1.1 (i2n s1.2)).1) 2, zAw .i64 r2 r3)) fun (r6 : (List (Int × Int))) =>
some (.inl (r6, zDD .i64 (n2i (zAr r6)) 1))) fun (j7 : ((List (Int × Int)) × Int)) =>
some (.inl (j7.1, j7.2))) <|
some (.inr (.inl s1.1))) (lcat ([] : List (Int × Int)) x.2.2.2, zDD .i64 (n2i (zAr (lcat ([] : List (Int × Int)) x.2.2.2))) 1)) fun (j8 : (List (Int × Int))) =>
some ((x.1, x.2.1, x.2.2.1, j8), 0)
noncomputable def F23 (x : ((Int × (Int × (Int × (List (Int × Int))))) × Int)) : (Option (Int × (Int × Int))) :=
call (F21 x.1) fun (r0 : Int) =>
sel (ine r0 0) (some (0, 0, 1)) <|
need (impl (bnot (ilt x.2 0)) (ile 0 x.1.1)) <|
sel (zAK (ilt x.2 0) true (ile (zDJ .i64 1 x.1.1) x.2)) (some (0, 0, 2)) <|
join (iter (fun (s1 : (Int × (Int × Int))) =>
sel (ilt s1.2.2 (n2i (zAr x.1.2.2.2))) (join (need (inL s1.2.2 (zAr x.1.2.2.2)) <|
join (call (F55 (x.1.1, (zBB (0, 0) x.1.2.2.2 (i2n s1.2.2)).1)) fun (r2 : Int) =>
sel (ile r2 x.2) (some (.inl (zAw .i64 s1.1 ((zBB (0, 0) x.1.2.2.2 (i2n s1.2.2)).2)))) <|
some (.inl s1.1)) fun (j3 : Int) =>
call (F56 (x.1.1, (zBB (0, 0) x.1.2.2.2 (i2n s1.2.2)).1)) fun (r4 : Int) =>
sel (ile r4 x.2) (some (.inl (j3, zAw .i64 s1.2.1 ((zBB (0, 0) x.1.2.2.2 (i2n s1.2.2)).2)))) <|
some (.inl (j3, s1.2.1))) fun (j5 : (Int × Int)) =>
some (.inl (j5.1, j5.2, zAw .i64 s1.2.2 1))) <|
some (.inr (.inl (s1.1, s1.2.1)))) (0, 0, 0)) fun (j6 : (Int × Int)) =>
some (j6.1, j6.2, 0)
noncomputable def F35 (x : (Int × Int)) : (Option Int) :=
call (sel (bnot (zAK (zAK (zAK (ilt x.2 1) true (ilt 1152921504606846976 x.2)) true (ilt x.1 (-1152921504606846976))) true (ilt 1152921504606846976 x.1))) (F69 x.1) <|
some 0) fun (r0 : Int) =>
call (sel (bnot (zAK (zAK (zAK (ilt x.2 1) true (ilt 1152921504606846976 x.2)) true (ilt x.1 (-1152921504606846976))) true (ilt 1152921504606846976 x.1))) (F68 (r0, x.2)) <|
some 0) fun (r1 : Int) =>
sel (zAK (zAK (zAK (zAK (ilt x.2 1) true (ilt 1152921504606846976 x.2)) true (ilt x.1 (-1152921504606846976))) true (ilt 1152921504606846976 x.1)) true (ine r1 1)) (some 1) <|
some 0
noncomputable def F37 (x : (Int × Int)) : (Option ((Int × Int) × Int)) :=
sel (ieq x.2 0) (some ((0, 0), 26)) <|
call (F72 x.1) fun (r0 : Int) =>
call (F72 x.2) fun (r1 : Int) =>
join (iter (fun (s2 : (Int × Int)) =>
sel (ilt 0 s2.2) (need (ine s2.2 0) <|
some (.inl (s2.2, irem s2.1 s2.2))) <|
some (.inr (.inl s2.1))) (r0, r1)) fun (j3 : Int) =>
need (ine j3 0) <|
need (ine j3 0) <|
sel (zAK (ilt 1152921504606846976 (iquo .u64 r0 j3)) true (ilt 1152921504606846976 (iquo .u64 r1 j3))) (some ((0, 0), 14)) <|
sel (bnot (beq (ilt x.1 0) (ilt x.2 0))) (some ((ineg .i64 (zAV .i64 (iquo .u64 r0 j3)), zAV .i64 (iquo .u64 r1 j3)), 0)) <|
some ((zAV .i64 (iquo .u64 r0 j3), zAV .i64 (iquo .u64 r1 j3)), 0)
noncomputable def F57 (x : (Int × Int)) : (Option Int) :=
sel (zAK (ilt x.2 1) true (ilt 1152921504606846976 x.2)) (some 1) <|
sel (zAK (ilt x.1 (-1152921504606846976)) true (ilt 1152921504606846976 x.1)) (some 1) <|
call (F82 x.1) fun (r0 : Int) =>
call (F81 (r0, zAV .u64 x.2)) fun (r1 : Int) =>
sel (ine r1 1) (some 1) <|
some 0
noncomputable def c57 : Con := ⟨57, [.agg (.pr (.int .i64) (.int .i64))], [], .int .i64, [], F57, none⟩
theorem ok57 : zAu Try.prog c57 := zCI hmix [c82, c81] (zAY ok82 (zAY ok81 (zCD))) c57 Try.f57 (.n .o (.n (.b (.n .o (.n .o (.n .o (.n .o (.n (.r [0, 1, 3, 4, 5, 2, 6, 7, 8]) .o)))))) .o)) Try.func57 (by kernel_rfl) (by kernel_rfl) (by kernel_rfl) rfl (fun x => by kernel_rfl) (fun x => ⟨by kernel_rfl, by kernel_rfl⟩)
noncomputable def F64 (x : (List Int)) : (Option (ByteArray × Int)) :=
sel (ilt 20000 (n2i (zAr x))) (some ((⟨#[]⟩ : ByteArray), 4)) <|
call (F86n (zAV .u64 (n2i (zAr x)))) fun (r0 : (List Int)) =>
join (iter (fun (s1 : (Int × (List Int))) =>
sel (ilt s1.1 (n2i (zAr x))) (need (inL s1.1 (zAr x)) <|
call (F87 (zBB 0 x (i2n s1.1))) fun (r2 : Bool) =>
sel (bnot r2) (some (.inr (.inr ((⟨#[]⟩ : ByteArray), 2)))) <|
call (F88 (zBB 0 x (i2n s1.1))) fun (r3 : Int) =>
call (F86 (r3, s1.2)) fun (r4 : (List Int)) =>
some (.inl (zAw .i64 s1.1 1, r4))) <|
some (.inr (.inl s1.2))) (0, r0)) fun (j5 : (List Int)) =>
some (sofb j5, 0)
noncomputable def c64 : Con := ⟨64, [.sl (.int .i64)], [], .tup (.pr .str (.int .i64)), [], F64, none⟩
theorem ok64 : zAu Try.prog c64 := zCI hmix [c86n, c86, c87, c88] (zAY ok86n (zAY ok86 (zAY ok87 (zAY ok88 (zCD))))) c64 Try.f64 (.n .o (.n .o (.n .o (.n (.n .o (.jb ⟨[], [(4, .own 0)], [(0, .lst (.int .u8))], 1, 0⟩ (.l ⟨[14, 15], [(4, .own 0), (16, .int .i64)], [(0, .lst (.int .u8))], 1, 1⟩ .o))) .o)))) Try.func64 (by kernel_rfl) (by kernel_rfl) (by kernel_rfl) rfl (fun x => by kernel_rfl) (fun x => ⟨by kernel_rfl, by kernel_rfl⟩)
noncomputable def F71 (x : Int) : (Option Int) :=
sel false (call (F104 (zAV .u32 x)) fun (r0 : Int) =>
some r0) <|
call (F105 x) fun (r1 : Int) =>
some r1
noncomputable def c71 : Con := ⟨71, [.int .u64], [], .int .i64, [], F71, none⟩
theorem ok71 : zAu Try.prog c71 := zCI hmix [c104, c105] (zAY ok104 (zAY ok105 (zCD))) c71 Try.f71 (.o) Try.func71 (by kernel_rfl) (by kernel_rfl) (by kernel_rfl) rfl (fun x => by kernel_rfl) (fun x => ⟨by kernel_rfl, by kernel_rfl⟩)
noncomputable def F73 (x : ((Int × (Int × Int)) × (Int × (Int × Int)))) : (Option (Int × (Int × Int))) :=
sel (ieq x.1.1 0) (some x.2) <|
sel (ieq x.2.1 0) (some x.1) <|
sel (ieq x.1.1 x.2.1) (need (ine 1152921504606846976 0) <|
need (ine 1152921504606846976 0) <|
some (x.1.1, zAw .i64 (zAw .i64 x.1.2.1 x.2.2.1) (iquo .i64 (zAw .i64 x.1.2.2 x.2.2.2) 1152921504606846976), irem (zAw .i64 x.1.2.2 x.2.2.2) 1152921504606846976)) <|
join (call (F106 (x.1, x.2)) fun (r0 : Bool) =>
sel r0 (some (.inl (x.2, x.1))) <|
some (.inl (x.1, x.2))) fun (j1 : ((Int × (Int × Int)) × (Int × (Int × Int)))) =>
join (sel (ilt (zDD .i64 j1.1.2.2 j1.2.2.2) 0) (some (.inl (zDD .i64 (zDD .i64 j1.1.2.1 j1.2.2.1) 1, zAw .i64 (zDD .i64 j1.1.2.2 j1.2.2.2) 1152921504606846976))) <|
some (.inl (zDD .i64 j1.1.2.1 j1.2.2.1, zDD .i64 j1.1.2.2 j1.2.2.2))) fun (j2 : (Int × Int)) =>
sel (zAK (ieq j2.1 0) (ieq j2.2 0) false) (some (0, 0, 0)) <|
some (j1.1.1, j2.1, j2.2)
noncomputable def F74 (x : (Int × Int)) : (Option (Int × (Int × Int))) :=
sel (zAK (ieq x.1 0) true (ieq x.2 0)) (some (0, 0, 0)) <|
join (sel (bnot (beq (ilt x.1 0) (ilt x.2 0))) (some (.inl (-1))) <|
some (.inl 1)) fun (j0 : Int) =>
call (F69 x.1) fun (r1 : Int) =>
call (F69 x.2) fun (r2 : Int) =>
need (ine 1073741824 0) <|
need (ine 1073741824 0) <|
need (ine 1073741824 0) <|
need (ine 1073741824 0) <|
need (ine 1073741824 0) <|
need (ine 1073741824 0) <|
need (ine 1152921504606846976 0) <|
need (ine 1152921504606846976 0) <|
some (j0, zAw .i64 (zAw .i64 (zCa .i64 (iquo .i64 r1 1073741824) (iquo .i64 r2 1073741824)) (iquo .i64 (zAw .i64 (zCa .i64 (iquo .i64 r1 1073741824) (irem r2 1073741824)) (zCa .i64 (irem r1 1073741824) (iquo .i64 r2 1073741824))) 1073741824)) (iquo .i64 (zAw .i64 (zCa .i64 (irem r1 1073741824) (irem r2 1073741824)) (zCa .i64 (irem (zAw .i64 (zCa .i64 (iquo .i64 r1 1073741824) (irem r2 1073741824)) (zCa .i64 (irem r1 1073741824) (iquo .i64 r2 1073741824))) 1073741824) 1073741824)) 1152921504606846976), irem (zAw .i64 (zCa .i64 (irem r1 1073741824) (irem r2 1073741824)) (zCa .i64 (irem (zAw .i64 (zCa .i64 (iquo .i64 r1 1073741824) (irem r2 1073741824)) (zCa .i64 (irem r1 1073741824) (iquo .i64 r2 1073741824))) 1073741824) 1073741824)) 1152921504606846976)
noncomputable def F109 (x : Int) : (Option Int) :=
call (F105 x) fun (r0 : Int) =>
some (zDD .i64 64 r0)
noncomputable def c109 : Con := ⟨109, [.int .u64], [], .int .i64, [], F109, none⟩
theorem ok109 : zAu Try.prog c109 := zCI hmix [c105] (zAY ok105 (zCD)) c109 Try.f109 (.o) Try.func109 (by kernel_rfl) (by kernel_rfl) (by kernel_rfl) rfl (fun x => by kernel_rfl) (fun x => ⟨by kernel_rfl, by kernel_rfl⟩)
noncomputable def F30 (x : (Int × (Int × (Int × (List (Int × Int)))))) : (Option (ByteArray × Int)) :=
call (F20 x) fun (r0 : Int) =>
sel (ine r0 0) (some ((⟨#[]⟩ : ByteArray), 1)) <|
need (mk 0 (zAw .i64 2 (zCa .i64 2 (n2i (zAr x.2.2.2)))) 8) <|
need (room (nadd (zAr (lrep 0 0)) (zAr (x.1 :: (x.2.1 :: ([] : List Int))))) 8) <|
join (iter (fun (s1 : (Int × (List Int))) =>
sel (ilt s1.1 (n2i (zAr x.2.2.2))) (need (inL s1.1 (zAr x.2.2.2)) <|
need (room (nadd (zAr s1.2) (zAr ((zBB (0, 0) x.2.2.2 (i2n s1.1)).1 :: ((zBB (0, 0) x.2.2.2 (i2n s1.1)).2 :: ([] : List Int))))) 8) <|
some (.inl (zAw .i64 s1.1 1, lcat s1.2 ((zBB (0, 0) x.2.2.2 (i2n s1.1)).1 :: ((zBB (0, 0) x.2.2.2 (i2n s1.1)).2 :: ([] : List Int)))))) <|
some (.inr (.inl s1.2))) (0, lcat (lrep 0 0) (x.1 :: (x.2.1 :: ([] : List Int))))) fun (j2 : (List Int)) =>
call (F64 j2) fun (r3 : (ByteArray × Int)) =>
sel (ine r3.2 0) (some ((⟨#[]⟩ : ByteArray), 1)) <|
some (r3.1, 0)
noncomputable def c30 : Con := ⟨30, [.agg (.pr (.int .i64) (.pr (.int .i64) (.pr (.int .i64) (.sl (.agg (.pr (.int .i64) (.int .i64)))))))], [], .tup (.pr .str (.int .i64)), [], F30, none⟩
theorem ok30 : zAu Try.prog c30 := zCI hmix [c20, c64] (zAY ok20 (zAY ok64 (zCD))) c30 Try.f30 (.n .o (.n .o (.n .o (.n .o (.n (.n .o (.jb ⟨[], [(4, .own 1)], [(1, .many (.int .i64))], 2, 0⟩ (.l ⟨[26, 27], [(4, .own 3), (28, .int .i64)], [(1, .gone), (3, .many (.int .i64))], 4, 1⟩ .o))) .o))))) Try.func30 (by kernel_rfl) (by kernel_rfl) (by kernel_rfl) rfl (fun x => by kernel_rfl) (fun x => ⟨by kernel_rfl, by kernel_rfl⟩)
noncomputable def F38 (x : ((Int × Int) × (Int × Int))) : (Option Int) :=
call (F35 x.1) fun (r0 : Int) =>
call (sel (bnot (ine r0 0)) (F35 x.2) <|
some 0) fun (r1 : Int) =>
sel (zAK (ine r0 0) true (ine r1 0)) (some 0) <|
call (F74 (x.1.1, x.2.2)) fun (r2 : (Int × (Int × Int))) =>
call (F74 (ineg .i64 x.2.1, x.1.2)) fun (r3 : (Int × (Int × Int))) =>
call (F73 (r2, r3)) fun (r4 : (Int × (Int × Int))) =>
some r4.1
noncomputable def F54 (x : (Int × Int)) : (Option (Int × Int)) :=
call (F71 (zAV .u64 x.2)) fun (r0 : Int) =>
need (ile 0 (zDD .i64 (zAw .i64 x.1 1) r0)) <|
need (ile 0 x.1) <|
need (ile 0 (zDD .i64 (zAw .i64 x.1 1) r0)) <|
need (ile 0 x.1) <|
some (zDD .i64 (zDJ .i64 x.2 (zDD .i64 (zAw .i64 x.1 1) r0)) (zDJ .i64 1 x.1), zDD .i64 (zDD .i64 (zDJ .i64 (zAw .i64 x.2 1) (zDD .i64 (zAw .i64 x.1 1) r0)) (zDJ .i64 1 x.1)) 1)
noncomputable def c54 : Con := ⟨54, [.int .i64, .int .i64], [], .tup (.pr (.int .i64) (.int .i64)), [], F54, none⟩
theorem ok54 : zAu Try.prog c54 := zCI hmix [c71] (zAY ok71 (zCD)) c54 Try.f54 (.n .o (.n .o (.n (.r [0, 1, 2, 3, 4, 5, 6, 7, 8, 9, 10, 11, 12, 13, 14, 15]) .o))) Try.func54 (by kernel_rfl) (by kernel_rfl) (by kernel_rfl) rfl (fun x => by kernel_rfl) (fun x => ⟨by kernel_rfl, by kernel_rfl⟩)
noncomputable def F84 (x : (Int × (Int × Int))) : (Option (Int × Int)) :=
join (sel (ieq x.2.2 0) (none) <|
some (.inl ())) fun (j0 : PUnit) =>
join (sel (ile x.2.2 x.1) (none) <|
some (.inl ())) fun (j1 : PUnit) =>
sel (ieq x.1 0) (need (ine x.2.2 0) <|
need (ine x.2.2 0) <|
some (iquo .u64 x.2.1 x.2.2, irem x.2.1 x.2.2)) <|
call (F109 x.2.2) fun (r2 : Int) =>
need (ile 0 (zAV .u64 r2)) <|
need (ile 0 32) <|
need (ile 0 (zAV .u64 r2)) <|
need (ile 0 (zDD .u64 64 (zAV .u64 r2))) <|
need (ile 0 (zAV .u64 r2)) <|
need (ile 0 32) <|
need (ine (ishr .u64 (zDJ .u64 x.2.2 (zAV .u64 r2)) 32) 0) <|
join (iter (fun (s3 : (Int × Int)) =>
sel (zAK (ile 4294967296 s3.1) true (ilt (zAw .u64 (zCa .u64 4294967296 s3.2) (ishr .u64 (zDJ .u64 x.2.1 (zAV .u64 r2)) 32)) (zCa .u64 s3.1 (iand .u64 (zDJ .u64 x.2.2 (zAV .u64 r2)) 4294967295)))) (sel (ile 4294967296 (zAw .u64 s3.2 (ishr .u64 (zDJ .u64 x.2.2 (zAV .u64 r2)) 32))) (some (.inr (.inl (zDD .u64 s3.1 1)))) <|
some (.inl (zDD .u64 s3.1 1, zAw .u64 s3.2 (ishr .u64 (zDJ .u64 x.2.2 (zAV .u64 r2)) 32)))) <|
some (.inr (.inl s3.1))) (iquo .u64 (ior .u64 (zDJ .u64 x.1 (zAV .u64 r2)) (ishr .u64 x.2.1 (zDD .u64 64 (zAV .u64 r2)))) (ishr .u64 (zDJ .u64 x.2.2 (zAV .u64 r2)) 32), zDD .u64 (ior .u64 (zDJ .u64 x.1 (zAV .u64 r2)) (ishr .u64 x.2.1 (zDD .u64 64 (zAV .u64 r2)))) (zCa .u64 (iquo .u64 (ior .u64 (zDJ .u64 x.1 (zAV .u64 r2)) (ishr .u64 x.2.1 (zDD .u64 64 (zAV .u64 r2)))) (ishr .u64 (zDJ .u64 x.2.2 (zAV .u64 r2)) 32)) (ishr .u64 (zDJ .u64 x.2.2 (zAV .u64 r2)) 32)))) fun (j4 : Int) =>
need (ine (ishr .u64 (zDJ .u64 x.2.2 (zAV .u64 r2)) 32) 0) <|
join (iter (fun (s5 : (Int × Int)) =>
sel (zAK (ile 4294967296 s5.2) true (ilt (zAw .u64 (zCa .u64 4294967296 s5.1) (iand .u64 (zDJ .u64 x.2.1 (zAV .u64 r2)) 4294967295)) (zCa .u64 s5.2 (iand .u64 (zDJ .u64 x.2.2 (zAV .u64 r2)) 4294967295)))) (sel (ile 4294967296 (zAw .u64 s5.1 (ishr .u64 (zDJ .u64 x.2.2 (zAV .u64 r2)) 32))) (some (.inr (.inl (zDD .u64 s5.2 1)))) <|
some (.inl (zAw .u64 s5.1 (ishr .u64 (zDJ .u64 x.2.2 (zAV .u64 r2)) 32), zDD .u64 s5.2 1))) <|
some (.inr (.inl s5.2))) (zDD .u64 (zDD .u64 (zAw .u64 (zCa .u64 (ior .u64 (zDJ .u64 x.1 (zAV .u64 r2)) (ishr .u64 x.2.1 (zDD .u64 64 (zAV .u64 r2)))) 4294967296) (ishr .u64 (zDJ .u64 x.2.1 (zAV .u64 r2)) 32)) (zCa .u64 j4 (zDJ .u64 x.2.2 (zAV .u64 r2)))) (zCa .u64 (iquo .u64 (zDD .u64 (zAw .u64 (zCa .u64 (ior .u64 (zDJ .u64 x.1 (zAV .u64 r2)) (ishr .u64 x.2.1 (zDD .u64 64 (zAV .u64 r2)))) 4294967296) (ishr .u64 (zDJ .u64 x.2.1 (zAV .u64 r2)) 32)) (zCa .u64 j4 (zDJ .u64 x.2.2 (zAV .u64 r2)))) (ishr .u64 (zDJ .u64 x.2.2 (zAV .u64 r2)) 32)) (ishr .u64 (zDJ .u64 x.2.2 (zAV .u64 r2)) 32)), iquo .u64 (zDD .u64 (zAw .u64 (zCa .u64 (ior .u64 (zDJ .u64 x.1 (zAV .u64 r2)) (ishr .u64 x.2.1 (zDD .u64 64 (zAV .u64 r2)))) 4294967296) (ishr .u64 (zDJ .u64 x.2.1 (zAV .u64 r2)) 32)) (zCa .u64 j4 (zDJ .u64 x.2.2 (zAV .u64 r2)))) (ishr .u64 (zDJ .u64 x.2.2 (zAV .u64 r2)) 32))) fun (j6 : Int) =>
need (ile 0 (zAV .u64 r2)) <|
some (zAw .u64 (zCa .u64 j4 4294967296) j6, ishr .u64 (zDD .u64 (zAw .u64 (zCa .u64 (zDD .u64 (zAw .u64 (zCa .u64 (ior .u64 (zDJ .u64 x.1 (zAV .u64 r2)) (ishr .u64 x.2.1 (zDD .u64 64 (zAV .u64 r2)))) 4294967296) (ishr .u64 (zDJ .u64 x.2.1 (zAV .u64 r2)) 32)) (zCa .u64 j4 (zDJ .u64 x.2.2 (zAV .u64 r2)))) 4294967296) (iand .u64 (zDJ .u64 x.2.1 (zAV .u64 r2)) 4294967295)) (zCa .u64 j6 (zDJ .u64 x.2.2 (zAV .u64 r2)))) (zAV .u64 r2))
noncomputable def c84 : Con := ⟨84, [.int .u64, .int .u64, .int .u64], [], .tup (.pr (.int .u64) (.int .u64)), [], F84, none⟩
theorem ok84 : zAu Try.prog c84 := zCI hmix [c109] (zAY ok109 (zCD)) c84 Try.f84 (.n .o (.j ⟨[0, 1, 2], [], [], 0, 0⟩ .o (.j ⟨[0, 1, 2], [], [], 0, 1⟩ .o (.n (.n .o (.n (.n (.r [0, 1, 2, 3, 4, 5, 6, 7]) .o) .o)) (.n .o (.n .o (.n .o (.n .o (.n .o (.n .o (.n .o (.n .o (.n .o (.n .o (.n (.jb ⟨[2, 8, 9, 10, 11, 13, 14], [(15, .int .u64)], [], 0, 2⟩ (.l ⟨[2, 8, 9, 10, 11, 13, 14], [(15, .int .u64), (16, .int .u64)], [], 0, 3⟩ .o)) (.n .o (.n .o (.n .o (.n (.jb ⟨[2, 8, 14, 15, 17], [(18, .int .u64)], [], 0, 4⟩ (.l ⟨[2, 8, 9, 10, 14, 15, 17], [(16, .int .u64), (18, .int .u64)], [], 0, 5⟩ .o)) .o))))))))))))))))))) Try.func84 (by kernel_rfl) (by kernel_rfl) (by kernel_rfl) rfl (fun x => by kernel_rfl) (fun x => ⟨by kernel_rfl, by kernel_rfl⟩)
noncomputable def F22 (x : ((Int × (Int × (Int × (List (Int × Int))))) × Int)) : (Option (Int × (Int × Int))) :=
call (F20 x.1) fun (r0 : Int) =>
sel (ine r0 0) (some (0, 0, 1)) <|
need (impl (bnot (ilt x.2 0)) (ile 0 x.1.1)) <|
sel (zAK (ilt x.2 0) true (ile (zDJ .i64 1 x.1.1) x.2)) (some (0, 0, 2)) <|
join (iter (fun (s1 : (Int × (Int × Int))) =>
sel (ilt s1.2.2 (n2i (zAr x.1.2.2.2))) (join (need (inL s1.2.2 (zAr x.1.2.2.2)) <|
call (F54 (x.1.1, (zBB (0, 0) x.1.2.2.2 (i2n s1.2.2)).1)) fun (r2 : (Int × Int)) =>
join (sel (ile r2.2 x.2) (some (.inl (zAw .i64 s1.1 ((zBB (0, 0) x.1.2.2.2 (i2n s1.2.2)).2)))) <|
some (.inl s1.1)) fun (j3 : Int) =>
sel (ile r2.1 x.2) (some (.inl (j3, zAw .i64 s1.2.1 ((zBB (0, 0) x.1.2.2.2 (i2n s1.2.2)).2)))) <|
some (.inl (j3, s1.2.1))) fun (j4 : (Int × Int)) =>
some (.inl (j4.1, j4.2, zAw .i64 s1.2.2 1))) <|
some (.inr (.inl (s1.1, s1.2.1)))) (0, 0, 0)) fun (j5 : (Int × Int)) =>
some (j5.1, j5.2, 0)
noncomputable def c22 : Con := ⟨22, [.agg (.pr (.int .i64) (.pr (.int .i64) (.pr (.int .i64) (.sl (.agg (.pr (.int .i64) (.int .i64))))))), .int .i64], [], .tup (.pr (.int .i64) (.pr (.int .i64) (.int .i64))), [], F22, none⟩
theorem ok22 : zAu Try.prog c22 := zCI hmix [c20, c54] (zAY ok20 (zAY ok54 (zCD))) c22 Try.f22 (.n .o (.n .o (.n .o (.n .o (.n (.n .o (.jb ⟨[], [(7, .int .i64), (8, .int .i64)], [], 0, 0⟩ (.l ⟨[1, 2, 26, 27], [(7, .int .i64), (8, .int .i64), (28, .int .i64)], [], 1, 1⟩ (.n .o (.n .o (.n (.jb ⟨[1, 2, 26, 27, 28], [(7, .int .i64), (8, .int .i64)], [], 1, 2⟩ (.n .o (.n .o (.j ⟨[1, 2, 8, 10, 11, 26, 27, 28], [(7, .int .i64)], [], 2, 3⟩ .o .o)))) .o)))))) .o))))) Try.func22 (by kernel_rfl) (by kernel_rfl) (by kernel_rfl) rfl (fun x => by kernel_rfl) (fun x => ⟨by kernel_rfl, by kernel_rfl⟩)
noncomputable def F58 (x : ((Int × Int) × Int)) : (Option Int) :=
call (F83 (zAV .u64 x.1.1, zAV .u64 x.2)) fun (r0 : (Int × Int)) =>
call (F84 (r0.1, r0.2, zAV .u64 x.1.2)) fun (r1 : (Int × Int)) =>
sel (ilt 0 r1.2) (some (imax 1 (zAV .i64 (zAw .u64 r1.1 1)))) <|
some (imax 1 (zAV .i64 r1.1))
noncomputable def c58 : Con := ⟨58, [.agg (.pr (.int .i64) (.int .i64)), .int .i64], [], .int .i64, [], F58, none⟩
theorem ok58 : zAu Try.prog c58 := zCI hmix [c83, c84] (zAY ok83 (zAY ok84 (zCD))) c58 Try.f58 (.o) Try.func58 (by kernel_rfl) (by kernel_rfl) (by kernel_rfl) rfl (fun x => by kernel_rfl) (fun x => ⟨by kernel_rfl, by kernel_rfl⟩)
noncomputable def F59 (x : ((Int × Int) × (Int × (Int × (Int × (List (Int × Int))))))) : (Option Int) :=
call (F54 (x.2.1, x.1.1)) fun (r0 : (Int × Int)) =>
some r0.1
noncomputable def c59 : Con := ⟨59, [.agg (.pr (.int .i64) (.int .i64)), .fp (.agg (.pr (.int .i64) (.pr (.int .i64) (.pr (.int .i64) (.sl (.agg (.pr (.int .i64) (.int .i64)))))))) 0], [], .int .i64, [], F59, none⟩
theorem ok59 : zAu Try.prog c59 := zCI hmix [c54] (zAY ok54 (zCD)) c59 Try.f59 (.o) Try.func59 (by kernel_rfl) (by kernel_rfl) (by kernel_rfl) rfl (fun x => by kernel_rfl) (fun x => ⟨by kernel_rfl, by kernel_rfl⟩)
noncomputable def F60 (x : ((Int × Int) × (Int × (Int × (Int × (List (Int × Int))))))) : (Option Int) :=
call (F54 (x.2.1, x.1.1)) fun (r0 : (Int × Int)) =>
some r0.2
noncomputable def c60 : Con := ⟨60, [.agg (.pr (.int .i64) (.int .i64)), .fp (.agg (.pr (.int .i64) (.pr (.int .i64) (.pr (.int .i64) (.sl (.agg (.pr (.int .i64) (.int .i64)))))))) 0], [], .int .i64, [], F60, none⟩
theorem ok60 : zAu Try.prog c60 := zCI hmix [c54] (zAY ok54 (zCD)) c60 Try.f60 (.o) Try.func60 (by kernel_rfl) (by kernel_rfl) (by kernel_rfl) rfl (fun x => by kernel_rfl) (fun x => ⟨by kernel_rfl, by kernel_rfl⟩)
noncomputable def F62 (x : ((Int × Int) × Int)) : (Option Int) :=
join (iter (fun (s0 : (Int × Int)) =>
sel (ilt s0.1 s0.2) (join (need (ine 2 0) <|
call (F37 (iquo .i64 (zAw .i64 s0.1 s0.2) 2, x.2)) fun (r1 : ((Int × Int) × Int)) =>
call (sel (ieq r1.2 0) (F38 (r1.1, x.1)) <|
some 0) fun (r2 : Int) =>
sel (zAK (ieq r1.2 0) (ile 0 r2) false) (some (.inl (s0.1, iquo .i64 (zAw .i64 s0.1 s0.2) 2))) <|
some (.inl (zAw .i64 (iquo .i64 (zAw .i64 s0.1 s0.2) 2) 1, s0.2))) fun (j3 : (Int × Int)) =>
some (.inl (j3.1, j3.2))) <|
some (.inr (.inl s0.1))) (0, x.2)) fun (j4 : Int) =>
sel (ilt j4 1) (some 1) <|
some j4
noncomputable def F25 (x : ((Int × (Int × (Int × (List (Int × Int))))) × (Int × Int))) : (Option (Int × (Int × Int))) :=
call (F21 x.1) fun (r0 : Int) =>
call (sel (bnot (ine r0 0)) (F35 x.2) <|
some 0) fun (r1 : Int) =>
sel (zAK (ine r0 0) true (ine r1 0)) (some (0, 0, 1)) <|
sel (zAK (ilt x.2.1 0) true (ilt x.2.2 x.2.1)) (some (0, 0, 2)) <|
sel (ieq x.1.2.2.1 0) (some (0, 0, 28)) <|
call (F62 (x.2, x.1.2.2.1)) fun (r2 : Int) =>
need (ile 0 x.1.1) <|
need (ile 0 x.1.1) <|
join (iter (fun (s3 : (Int × (Int × Int))) =>
sel (ilt s3.2.2 (n2i (zAr x.1.2.2.2))) (join (need (inL s3.2.2 (zAr x.1.2.2.2)) <|
need (inL s3.2.2 (zAr x.1.2.2.2)) <|
call (F56 (x.1.1, (zBB (0, 0) x.1.2.2.2 (i2n s3.2.2)).1)) fun (r4 : Int) =>
call (F55 (x.1.1, (zBB (0, 0) x.1.2.2.2 (i2n s3.2.2)).1)) fun (r5 : Int) =>
call (F23 (x.1, r4)) fun (r6 : (Int × (Int × Int))) =>
join (sel (zAK (ile r2 r6.2.1) (ilt r4 s3.1) false) (some (.inl r4)) <|
some (.inl s3.1)) fun (j7 : Int) =>
call (F23 (x.1, r5)) fun (r8 : (Int × (Int × Int))) =>
sel (zAK (ile r2 r8.1) (ilt r5 s3.2.1) false) (some (.inl (j7, r5))) <|
some (.inl (j7, s3.2.1))) fun (j9 : (Int × Int)) =>
some (.inl (j9.1, j9.2, zAw .i64 s3.2.2 1))) <|
some (.inr (.inl (s3.1, s3.2.1)))) (zDJ .i64 1 x.1.1, zDJ .i64 1 x.1.1, 0)) fun (j10 : (Int × Int)) =>
some (j10.1, j10.2, 0)
noncomputable def F85a (x : ((Int × Int) × ((Int × Int) × (PUnit × (Int × (Int × (Int × (List (Int × Int))))))))) : (Option Int) :=
call (F59 (x.1, x.2.2.2)) fun (r0 : Int) =>
call (F59 (x.2.1, x.2.2.2)) fun (r1 : Int) =>
some (zDD .i64 r0 r1)
noncomputable def c85a : Con := ⟨85, [.agg (.pr (.int .i64) (.int .i64)), .agg (.pr (.int .i64) (.int .i64)), .fp (.fn 59 .unit (.fp (.agg (.pr (.int .i64) (.pr (.int .i64) (.pr (.int .i64) (.sl (.agg (.pr (.int .i64) (.int .i64)))))))) 0)) 0], [], .int .i64, [], F85a, none⟩
theorem ok85a : zAu Try.prog c85a := zCI hmix [c59] (zAY ok59 (zCD)) c85a Try.f85 (.n .o (.n (.r [0, 1, 3, 4, 2, 5, 6, 7]) .o)) Try.func85 (by kernel_rfl) (by kernel_rfl) (by kernel_rfl) rfl (fun x => by kernel_rfl) (fun x => ⟨by kernel_rfl, by kernel_rfl⟩)
noncomputable def F85b (x : ((Int × Int) × ((Int × Int) × (PUnit × (Int × (Int × (Int × (List (Int × Int))))))))) : (Option Int) :=
call (F60 (x.1, x.2.2.2)) fun (r0 : Int) =>
call (F60 (x.2.1, x.2.2.2)) fun (r1 : Int) =>
some (zDD .i64 r0 r1)
noncomputable def c85b : Con := ⟨85, [.agg (.pr (.int .i64) (.int .i64)), .agg (.pr (.int .i64) (.int .i64)), .fp (.fn 60 .unit (.fp (.agg (.pr (.int .i64) (.pr (.int .i64) (.pr (.int .i64) (.sl (.agg (.pr (.int .i64) (.int .i64)))))))) 0)) 0], [], .int .i64, [], F85b, none⟩
theorem ok85b : zAu Try.prog c85b := zCI hmix [c60] (zAY ok60 (zCD)) c85b Try.f85 (.n .o (.n (.r [0, 1, 3, 4, 2, 5, 6, 7]) .o)) Try.func85 (by kernel_rfl) (by kernel_rfl) (by kernel_rfl) rfl (fun x => by kernel_rfl) (fun x => ⟨by kernel_rfl, by kernel_rfl⟩)
end Go.Q
set_option linter.unusedSimpArgs false
namespace Go.Q
variable [Go.Ab.DM]
abbrev Nd := Int × Int
open Go Go.T Go.Pl Go.Proofs Go.Proofs.Qd
theorem ishl_shl (a b : Int) : zDJ .i64 a b = shl a b := rfl
theorem iquo_thr (a b : Int) : iquo .i64 a b = thr a b := rfl
theorem zCK {a b : Int} (h1 : -9223372036854775808 ≤ a + b) (h2 : a + b < 9223372036854775808) : zAw .i64 a b = a + b := zAp h1 h2
def gChk (bits count th : Int) (st : Int × Int) (n : Nd) : (Int × Int) ⊕ (Int ⊕ Int) :=
 if n.1 ≤ st.2 ∨ shl 2 bits ≤ n.1 ∨ n.2 < 1 ∨ count < n.2 then .inr (.inr 1)
 else if n.1 < shl 1 bits ∧ th < n.2 then .inr (.inr 1)
 else .inl (st.1 + n.2, n.1)
theorem fold_chk (bits count th : Int) : ∀ (l : List Nd) (sum before : Int), foldE (gChk bits count th) (fun st => .inl st.1) l (sum, before) = match chk bits count th l before sum with | some s => .inl s | none => .inr 1
 | [], sum, before => rfl
 | n :: r, sum, before => by
   rw [foldE, chk, gChk]
   by_cases c1 : n.1 ≤ before ∨ shl 2 bits ≤ n.1 ∨ n.2 < 1 ∨ count < n.2
   · rw [if_pos c1, if_pos c1]
   rw [if_neg c1, if_neg c1]
   by_cases c2 : n.1 < shl 1 bits ∧ th < n.2
   · rw [if_pos c2, if_pos c2]
   rw [if_neg c2, if_neg c2]
   exact fold_chk bits count th r _ _
theorem isub_one {i : Nat} (h : i < 4611686018427387904) (h0 : 0 < i) : zDD .i64 (i : Int) 1 = ((i - 1 : Nat) : Int) := by
 rw [show ((i - 1 : Nat) : Int) = (i : Int) - 1 by omega]; exact zAp (by omega) (by omega)
theorem F20_eq (bits k count : Int) (nodes : List Nd) : F20 (bits, k, count, nodes) = some (zBg bits k count nodes) := by
 unfold F20 zBg
 simp only [pick_or, pick_and, ilt_d, ile_d, ieq_d, ine_d, n2i_c, llen_c, ← Bool.decide_or, ← Bool.decide_and, sel_i, need_i, ishl_shl, iquo_thr]
 have e1 : (((bits < 1 ∨ 20 < bits) ∨ k < 1) ∨ 10000 < k) ↔ (bits < 1 ∨ 20 < bits ∨ k < 1 ∨ 10000 < k) := by simp only [or_assoc]
 have e2 : ((count < 0 ∨ 1099511627776 < count) ∨ (2000 : Int) < nodes.length) ↔ (count < 0 ∨ 1099511627776 < count ∨ (2000 : Int) < nodes.length) := by simp only [or_assoc]
 simp only [e1, e2]
 split
 · rfl
 split
 · rfl
 rename_i h1 h2
 rw [if_pos (by omega)]
 refine Eq.trans (join_of _ (iter_for nodes (fun st i => (st.1, st.2, i)) (gChk bits count (thr count k)) (fun st => .inl st.1) (fun i st => 0 ≤ st.1 ∧ st.1 ≤ i * 1099511627776) (0, 0) (by simp) ?_ ?_)) ?_
 · rintro i ⟨a, b⟩ hi hI
   have hlt : (i : Int) < nodes.length := by omega
   have hin : inL (i : Int) nodes.length = true := inL_t hi
   have hg : zBB (0, 0) nodes i = nodes[i] := lget_t hi
   dsimp only at hI ⊢
   simp only [i2n_c, hg, hin, zBH, hlt, if_true]
   generalize nodes[i] = n
   unfold gChk
   dsimp only
   rw [zBH (impl_t fun _ => by simp; omega), if_pos (show 0 ≤ bits by omega)]
   by_cases c1 : n.1 ≤ b ∨ shl 2 bits ≤ n.1 ∨ n.2 < 1 ∨ count < n.2
   · rw [if_pos c1, if_pos (by simpa only [or_assoc] using c1)]
     exact ⟨rfl, fun st' h => by cases h⟩
   rw [if_neg c1, if_neg (fun h => c1 (by simpa only [or_assoc] using h))]
   by_cases c2 : n.1 < shl 1 bits ∧ thr count k < n.2
   · rw [if_pos c2, if_pos c2]
     exact ⟨rfl, fun st' h => by cases h⟩
   rw [if_neg c2, if_neg c2, zCK (by omega) (by omega), zCK (by omega) (by omega)]
   refine ⟨rfl, fun st' h => ?_⟩
   have := Sum.inl.inj h; subst this
   dsimp only; omega
 · intro st hI
   simp
 · rw [fold_chk]
   cases chk bits count (thr count k) nodes 0 0 with
   | none => rfl
   | some s => simp only [Sum.elim_inl]; split <;> rfl
theorem F21_eq (bits k count : Int) (nodes : List Nd) : F21 (bits, k, count, nodes) = some (zBg bits k count nodes) := by
 unfold F21 zBg
 simp only [pick_or, pick_and, ilt_d, ile_d, ieq_d, ine_d, n2i_c, llen_c, ← Bool.decide_or, ← Bool.decide_and, sel_i, need_i, ishl_shl, iquo_thr]
 by_cases h1 : bits < 1 ∨ 20 < bits ∨ k < 1 ∨ 10000 < k
 · rw [if_pos (by omega), if_pos h1]
 rw [if_neg h1]
 by_cases h2 : count < 0 ∨ 1099511627776 < count ∨ (2000 : Int) < nodes.length
 · rw [if_pos (by omega), if_pos h2]
 rw [if_neg h2, if_neg (by omega)]
 refine Eq.trans (join_of _ (iter_for nodes (fun st i => (st.1, i)) (gChk bits count (thr count k)) (fun st => .inl st.1) (fun i st => (0 ≤ st.1 ∧ st.1 ≤ i * 1099511627776) ∧ (i = 0 → st.2 = 0) ∧ (0 < i → 1 ≤ st.2 ∧ ∀ h : i - 1 < nodes.length, st.2 = (nodes[i - 1]'h).1)) (0, 0) (by simp) ?_ ?_)) ?_
 · rintro i ⟨a, b⟩ hi ⟨hI, hb0, hb1⟩
   have hlt : (i : Int) < nodes.length := by omega
   have hin : inL (i : Int) nodes.length = true := inL_t hi
   have hg : zBB (0, 0) nodes i = nodes[i] := lget_t hi
   dsimp only at hI hb0 hb1 ⊢
   have hprev : 0 < i → zDD .i64 (i : Int) 1 = ((i - 1 : Nat) : Int) ∧ zBB (0, 0) nodes (i2n (zDD .i64 (i : Int) 1)) = nodes[i - 1] ∧ b = (nodes[i - 1]).1 := fun h => by
     have e := isub_one (i := i) (by omega) h
     exact ⟨e, by rw [e, i2n_c]; exact lget_t _, (hb1 h).2 (by omega)⟩
   simp only [i2n_c, hg, hin, zBH, hlt, if_true]
   generalize hpr : zBB (0, 0) nodes (i2n (zDD .i64 (i : Int) 1)) = pr at *
   have hc : ∀ n : Nd, (n.1 < 1 ∨ (0 < (i : Int) ∧ n.1 ≤ pr.1)) ↔ n.1 ≤ b := fun n => by
     rcases Nat.eq_zero_or_pos i with h | h
     · rw [hb0 h]; constructor
       · rintro (h | h) <;> omega
       · intro h; omega
     · obtain ⟨_, h3, h4⟩ := hprev h
       have h5 := (hb1 h).1
       rw [h3, ← h4]; omega
   have hsb : zDD .i64 (i : Int) 1 = ((i - 1 : Nat) : Int) ∨ ¬ 0 < (i : Int) := by
     rcases Nat.eq_zero_or_pos i with h | h
     · exact .inr (by omega)
     · exact .inl (hprev h).1
   generalize hn : nodes[i] = n at *
   have hc := hc n
   rw [zBH (impl_t fun _ => by simp; omega), zBH (impl_t fun h => ?_), zBH (impl_t fun _ => by simp; omega), zBH (impl_t fun _ => by simp; omega)]
   · unfold gChk
     dsimp only
     by_cases c1 : n.1 ≤ b ∨ shl 2 bits ≤ n.1 ∨ n.2 < 1 ∨ count < n.2
     · rw [if_pos c1, if_pos (by omega)]
       exact ⟨rfl, fun st' h => by cases h⟩
     rw [if_neg c1]
     by_cases c2 : n.1 < shl 1 bits ∧ thr count k < n.2
     · rw [if_pos c2, if_pos (by omega)]
       exact ⟨rfl, fun st' h => by cases h⟩
     rw [if_neg c2, if_neg (by omega), zCK (by omega) (by omega), zCK (by omega) (by omega)]
     refine ⟨rfl, fun st' h => ?_⟩
     have := Sum.inl.inj h; subst this
     dsimp only
     refine ⟨by omega, by omega, fun _ => ⟨by omega, fun h => ?_⟩⟩
     simp only [Nat.add_sub_cancel, hn]
   · simp only [band_d, bnot_d, Bool.and_eq_true, decide_eq_true_eq] at h
     rcases hsb with e | e
     · rw [e]; exact inL_t (by omega)
     · exact absurd h.2 e
 · intro st hI
   simp
 · rw [fold_chk]
   cases chk bits count (thr count k) nodes 0 0 with
   | none => rfl
   | some s => simp only [Sum.elim_inl]; split <;> rfl
theorem q_check (bits k count : Int) (nodes : List Nd) (hn : nodes.length ≤ 100000000) : Go.Ab.Pure Try.prog 20 [.agg [iD bits, iD k, iD count, .fz 2 (nodes.map zBF)]] (fun d => d = iD (zBg bits k count nodes)) :=
 pure_of (c := c20) ok20 rfl rfl (x := (bits, k, count, nodes)) (y := zBg bits k count nodes) (fun v hv => by
   have hv : v ∈ [(⟨.agg (.pr (.int .i64) (.pr (.int .i64) (.pr (.int .i64) (.sl (.agg (.pr (.int .i64) (.int .i64))))))), (bits, k, count, nodes)⟩ : TV)] := hv
   simp only [List.mem_cons, List.not_mem_nil, or_false] at hv
   subst hv; rfl) rfl (F20_eq bits k count nodes)
theorem q_len0 : Go.Ab.Pure Try.prog 71 [.v (.int .u64 0)] (fun d => d = iD 0) :=
 pure_of (c := c71) ok71 rfl rfl (x := (0 : Int)) (y := (0 : Int)) (fun v hv => by
   have hv : v ∈ [(⟨.int .u64, (0 : Int)⟩ : TV)] := hv
   simp only [List.mem_cons, List.not_mem_nil, or_false] at hv
   subst hv; rfl) rfl (by kernel_rfl)
end Go.Q
namespace Go.Proofs.Qd
open Go Go.Ab Go.Proofs.Ytfibkbmlgigemaa.AbT
variable [Go.Ab.DM]
theorem mapI_get {l : List Int} {i : Nat} (h : i < l.length) : (l.map iD)[i]? = some (iD l[i]) := by simp [h]
theorem zBj {H : Heap} {b : Nat} (hb : b < H.length) (x : Option Row) : Heap.get (H.set b x) b = x := by rw [Heap.get_set H hb, if_pos rfl]
theorem zCL {H : Heap} {a b : Nat} (hb : b < H.length) (h : a ≠ b) (x : Option Row) : Heap.get (H.set b x) a = H.get a := by rw [Heap.get_set H hb, if_neg h]
theorem get_push_lt {H : Heap} {a : Nat} (h : a < H.length) (x : Option Row) : Heap.get (H ++ [x]) a = H.get a := by rw [Heap.get_push, if_neg (by omega)]
theorem get_push_self (H : Heap) (x : Option Row) : Heap.get (H ++ [x]) H.length = x := by rw [Heap.get_push, if_pos rfl]
def Hp (a : Nat) (l : List Int) (F : Nat → Prop) (H : Heap) : Prop := ∃ b, a ≠ b ∧ ¬ F a ∧ ¬ F b ∧ H.get a = some (.cells 1 [.sl b 0 l.length]) ∧ H.get b = some (.cells 1 (l.map iD))
def Fr (F : Nat → Prop) (H H' : Heap) : Prop := H.length ≤ H'.length ∧ ∀ r, F r → H'.get r = H.get r
set_option maxHeartbeats 1000000 in
theorem g_len (H : Heap) (b m : Nat) : Sound Try.prog 47 [.sl b 0 m] H (fun d H' => H' = H ∧ d = iD m) := by
 refine zAa Try.func47 rfl (by kernel_rfl) Try.ntmps47 (by simp) ?_
 refine zAF fun Y0 hY0 => ?_
 refine zAG ?_
 try simp only [↓zAH, EVq, TY, zAE, ↓reduceIte, Nat.reduceLT, Nat.reduceLeDiff, Nat.reduceEqDiff, Nat.reduceAdd, Nat.reduceMul, Int.reduceLE, eq_self]
 refine zAD [0] ?_
 simp only [KQ, ↓KP, ↓reduceIte, Nat.reduceEqDiff]
 subst hY0
 refine zAF fun Y1 hY1 => ?_
 refine zAG ?_
 try simp only [↓zAH, EVq, TY, zAE, ↓reduceIte, Nat.reduceLT, Nat.reduceLeDiff, Nat.reduceEqDiff, Nat.reduceAdd, Nat.reduceMul, Int.reduceLE, eq_self]
 refine zAD [2] ?_
 simp only [KQ, ↓KP, ↓reduceIte, Nat.reduceEqDiff]
 subst hY1
 refine zCh Try.func47 Try.results47 (by simp only [aRes, ↓zAR, ↓KP, KQ, ↓reduceIte, Nat.reduceEqDiff, zBb, TY] <;> rfl) (Weak.refl _ _ _) ?_
 exact ⟨rfl, rfl⟩
set_option maxHeartbeats 1000000 in
theorem g_less (H : Heap) (b i j : Nat) (l : List Int) (hg : H.get b = some (.cells 1 (l.map iD))) (hi : i < l.length) (hj : j < l.length) : Sound Try.prog 151 [.sl b 0 l.length, iD i, iD j] H (fun d H' => H' = H ∧ d = .v (.bool (decide (l[j] < l[i])))) := by
 refine zAa Try.func151 rfl (by kernel_rfl) Try.ntmps151 (by simp) ?_
 have e1 := mapI_get hi
 have e2 := mapI_get hj
 refine zAF fun Y0 hY0 => ?_
 refine zAG ?_
 try simp only [↓zAH, EVq, TY, zAE, ↓reduceIte, Nat.reduceLT, Nat.reduceLeDiff, Nat.reduceEqDiff, Nat.reduceAdd, Nat.reduceMul, Int.reduceLE, eq_self]
 refine zAD [0, 1, 2] ?_
 simp only [KQ, ↓KP, ↓reduceIte, Nat.reduceEqDiff]
 subst hY0
 refine zAF fun Y1 hY1 => ?_
 refine run_draw [(.pure, 0), (.pure, 1), (.pure, 2), (.load, 3), (.pure, 4), (.pure, 5), (.pure, 6), (.load, 7), (.pure, 8), (.pure, 9)] mixed (by kernel_rfl) ?_
 try simp only [hg, Int.toNat_natCast, Nat.zero_add, e1, e2, zBJ, zBY, zCo, ↓zAH, EVq, TY, zAE, ↓reduceIte, Nat.reduceLT, Nat.reduceLeDiff, Nat.reduceEqDiff, Nat.reduceAdd, Nat.reduceMul, Int.reduceLE, eq_self]
 refine zAk (by omega) ?_
 try simp only [hg, Int.toNat_natCast, Nat.zero_add, e1, e2, zBJ, zBY, zCo, ↓zAH, EVq, TY, zAE, ↓reduceIte, Nat.reduceLT, Nat.reduceLeDiff, Nat.reduceEqDiff, Nat.reduceAdd, Nat.reduceMul, Int.reduceLE, eq_self]
 refine zAk (by omega) ?_
 try simp only [hg, Int.toNat_natCast, Nat.zero_add, e1, e2, zBJ, zBY, zCo, ↓zAH, EVq, TY, zAE, ↓reduceIte, Nat.reduceLT, Nat.reduceLeDiff, Nat.reduceEqDiff, Nat.reduceAdd, Nat.reduceMul, Int.reduceLE, eq_self]
 refine zAD [6] ?_
 simp only [KQ, ↓KP, ↓reduceIte, Nat.reduceEqDiff]
 subst hY1
 refine zCh Try.func151 Try.results151 (by simp only [aRes, ↓zAR, ↓KP, KQ, ↓reduceIte, Nat.reduceEqDiff, zBb, TY] <;> rfl) (Weak.refl _ _ _) ?_
 exact ⟨rfl, rfl⟩
set_option maxHeartbeats 1000000 in
theorem g_swap (H : Heap) (b i j : Nat) (l : List Int) (hg : H.get b = some (.cells 1 (l.map iD))) (hi : i < l.length) (hj : j < l.length) : Sound Try.prog 152 [.sl b 0 l.length, iD i, iD j] H (fun d H' => H' = H.set b (some (.cells 1 (((l.set i l[j]).set j l[i]).map iD))) ∧ d = .tup []) := by
 refine zAa Try.func152 rfl (by kernel_rfl) Try.ntmps152 (by simp) ?_
 have e1 := mapI_get hi
 have e2 := mapI_get hj
 have hb := Heap.get_lt hg
 obtain ⟨y, e3⟩ : ∃ y, ((l.map iD).set i (iD l[j]))[j]? = some (iD y) := ⟨_, by rw [← List.map_set]; exact mapI_get (by simpa using hj)⟩
 refine run_draw [(.pure, 0), (.pure, 1), (.pure, 2), (.pure, 3), (.pure, 4), (.pure, 5), (.pure, 6), (.load, 7), (.pure, 8), (.pure, 9), (.pure, 10), (.load, 11), (.pure, 12), (.wr, 13), (.pure, 14), (.wr, 15)] mixed (by kernel_rfl) ?_
 try simp only [hg, Int.toNat_natCast, Nat.zero_add, e1, e2, e3, zBj hb, zBJ, zBY, zCo, ↓zAH, EVq, TY, zAE, ↓reduceIte, Nat.reduceLT, Nat.reduceLeDiff, Nat.reduceEqDiff, Nat.reduceAdd, Nat.reduceMul, Int.reduceLE, eq_self]
 refine zAk (by omega) ?_
 try simp only [hg, Int.toNat_natCast, Nat.zero_add, e1, e2, e3, zBj hb, zBJ, zBY, zCo, ↓zAH, EVq, TY, zAE, ↓reduceIte, Nat.reduceLT, Nat.reduceLeDiff, Nat.reduceEqDiff, Nat.reduceAdd, Nat.reduceMul, Int.reduceLE, eq_self]
 refine zAk (by omega) ?_
 try simp only [hg, Int.toNat_natCast, Nat.zero_add, e1, e2, e3, zBj hb, zBJ, zBY, zCo, ↓zAH, EVq, TY, zAE, ↓reduceIte, Nat.reduceLT, Nat.reduceLeDiff, Nat.reduceEqDiff, Nat.reduceAdd, Nat.reduceMul, Int.reduceLE, eq_self]
 refine zAk (by omega) ?_
 try simp only [hg, Int.toNat_natCast, Nat.zero_add, e1, e2, e3, zBj hb, zBJ, zBY, zCo, ↓zAH, EVq, TY, zAE, ↓reduceIte, Nat.reduceLT, Nat.reduceLeDiff, Nat.reduceEqDiff, Nat.reduceAdd, Nat.reduceMul, Int.reduceLE, eq_self]
 refine zAk (by omega) ?_
 try simp only [hg, Int.toNat_natCast, Nat.zero_add, e1, e2, e3, zBj hb, zBJ, zBY, zCo, ↓zAH, EVq, TY, zAE, ↓reduceIte, Nat.reduceLT, Nat.reduceLeDiff, Nat.reduceEqDiff, Nat.reduceAdd, Nat.reduceMul, Int.reduceLE, eq_self]
 refine zAD [] ?_
 simp only [KQ, ↓KP, ↓reduceIte, Nat.reduceEqDiff]
 refine run_end Try.func152 Try.results152 (by simp only [aRes, ↓zAR, ↓KP, KQ, ↓reduceIte, Nat.reduceEqDiff, zBb, TY] <;> rfl) (Weak.refl _ _ _) ?_
 exact ⟨by simp only [List.set_set, List.map_set], rfl⟩
set_option maxHeartbeats 1000000 in
theorem g_pop (H : Heap) (a : Nat) (l : List Int) (F : Nat → Prop) (hF : ∀ r, F r → r < H.length) (h : Hp a l F H) (hl : l ≠ []) (hN : l.length ≤ 1000000) : Sound Try.prog 153 [.pt a 0 0] H (fun d H' => Hp a l.dropLast F H' ∧ Fr F H H' ∧ d = .ifc 3 (iD (l.getLast hl))) := by
 refine zAa Try.func153 rfl (by kernel_rfl) Try.ntmps153 (by simp) ?_
 obtain ⟨b, hab, hFa, hFb, ha, hb⟩ := h
 have hal := Heap.get_lt ha
 have hbl := Heap.get_lt hb
 have hpos : 0 < l.length := List.length_pos_iff.2 hl
 have e1 : (l.map iD)[l.length - 1]? = some (iD (l.getLast hl)) := by rw [mapI_get (by omega), List.getLast_eq_getElem]
 have ew : IntKind.i64.wrap ((l.length : Int) - 1) = ((l.length - 1 : Nat) : Int) := by rw [zAp (by omega) (by omega)]; omega
 refine zAF fun Y0 hY0 => ?_
 refine zAG ?_
 try simp only [↓zAH, EVq, TY, zAE, ↓reduceIte, Nat.reduceLT, Nat.reduceLeDiff, Nat.reduceEqDiff, Nat.reduceAdd, Nat.reduceMul, Int.reduceLE, eq_self]
 refine zAD [0] ?_
 simp only [KQ, ↓KP, ↓reduceIte, Nat.reduceEqDiff]
 subst hY0
 refine zAF fun Y1 hY1 => ?_
 refine zAG ?_
 try simp only [ha, ↓zAH, EVq, TY, zAE, ↓reduceIte, Nat.reduceLT, Nat.reduceLeDiff, Nat.reduceEqDiff, Nat.reduceAdd, Nat.reduceMul, Int.reduceLE, eq_self]
 refine zAD [0, 3] ?_
 simp only [KQ, ↓KP, ↓reduceIte, Nat.reduceEqDiff]
 subst hY1
 refine zAF fun Y2 hY2 => ?_
 refine zAG ?_
 try simp only [hb, e1, ew, Int.toNat_natCast, Nat.zero_add, ↓zAH, EVq, TY, zAE, ↓reduceIte, Nat.reduceLT, Nat.reduceLeDiff, Nat.reduceEqDiff, Nat.reduceAdd, Nat.reduceMul, Int.reduceLE, eq_self]
 refine zAk (by omega) ?_
 try simp only [hb, e1, ew, Int.toNat_natCast, Nat.zero_add, ↓zAH, EVq, TY, zAE, ↓reduceIte, Nat.reduceLT, Nat.reduceLeDiff, Nat.reduceEqDiff, Nat.reduceAdd, Nat.reduceMul, Int.reduceLE, eq_self]
 refine zAD [0, 3, 4] ?_
 simp only [KQ, ↓KP, ↓reduceIte, Nat.reduceEqDiff]
 subst hY2
 refine zAF fun Y3 hY3 => ?_
 refine zAG ?_
 try simp only [ha, hb, ew, Int.toNat_natCast, Nat.zero_add, Int.toNat_zero, Nat.sub_zero, ↓zAH, EVq, TY, zAE, ↓reduceIte, Nat.reduceLT, Nat.reduceLeDiff, Nat.reduceEqDiff, Nat.reduceAdd, Nat.reduceMul, Int.reduceLE, eq_self]
 refine zAk (by omega) ?_
 try simp only [ha, hb, ew, Int.toNat_natCast, Nat.zero_add, Int.toNat_zero, Nat.sub_zero, ↓zAH, EVq, TY, zAE, ↓reduceIte, Nat.reduceLT, Nat.reduceLeDiff, Nat.reduceEqDiff, Nat.reduceAdd, Nat.reduceMul, Int.reduceLE, eq_self]
 refine zAD [4] ?_
 simp only [KQ, ↓KP, ↓reduceIte, Nat.reduceEqDiff]
 subst hY3
 refine zAF fun Y4 hY4 => ?_
 refine zAG ?_
 try simp only [↓zAH, EVq, TY, zAE, ↓reduceIte, Nat.reduceLT, Nat.reduceLeDiff, Nat.reduceEqDiff, Nat.reduceAdd, Nat.reduceMul, Int.reduceLE, eq_self]
 refine zAD [2] ?_
 simp only [KQ, ↓KP, ↓reduceIte, Nat.reduceEqDiff]
 subst hY4
 refine run_cut (r := b) (j := l.length - 1) ((zCL hal (Ne.symm hab) _).trans hb) (by simp) ?_
 refine zCh Try.func153 Try.results153 (by simp only [aRes, ↓zAR, ↓KP, KQ, ↓reduceIte, Nat.reduceEqDiff, zBb, TY] <;> rfl) (Weak.refl _ _ _) ?_
 have hbl' : b < (H.set a (some (Row.cells 1 [D.sl b 0 (l.length - 1)]))).length := by simpa using hbl
 refine ⟨⟨b, hab, hFa, hFb, ?_, ?_⟩, ⟨by simp, fun r hr => ?_⟩, rfl⟩
 · rw [zCL hbl' hab, zBj hal, List.length_dropLast]
 · rw [zBj hbl', ← List.map_take, List.dropLast_eq_take]
 · rw [zCL hbl' (fun h => hFb (h ▸ hr)), zCL hal (fun h => hFa (h ▸ hr))]
set_option maxHeartbeats 1000000 in
theorem g_push (H : Heap) (a : Nat) (x : Int) (l : List Int) (F : Nat → Prop) (hF : ∀ r, F r → r < H.length) (h : Hp a l F H) (hN : l.length ≤ 1000000) : Sound Try.prog 154 [.pt a 0 0, .ifc 3 (iD x)] H (fun d H' => Hp a (l ++ [x]) F H' ∧ Fr F H H' ∧ d = .tup []) := by
 refine zAa Try.func154 rfl (by kernel_rfl) Try.ntmps154 (by simp) ?_
 obtain ⟨b, hab, hFa, hFb, ha, hb⟩ := h
 have hal := Heap.get_lt ha
 have hbl := Heap.get_lt hb
 have hl0 : (l.map iD).length = l.length := List.length_map ..
 have q1 : ∀ X, Heap.get (H ++ [X]) H.length = X := fun X => get_push_self H X
 have q2 : ∀ X, Heap.get (H ++ [X]) b = some (.cells 1 (l.map iD)) := fun X => (get_push_lt hbl X).trans hb
 have q3 : ∀ X Y, Heap.get ((H ++ [X]).set b none ++ [Y]) a = some (.cells 1 [.sl b 0 l.length]) := fun X Y => by rw [get_push_lt (by simp; omega), zCL (by simp; omega) hab, get_push_lt hal]; exact ha
 refine zAF fun Y0 hY0 => ?_
 refine zAG ?_
 try simp only [↓zAH, EVq, TY, zAE, ↓reduceIte, Nat.reduceLT, Nat.reduceLeDiff, Nat.reduceEqDiff, Nat.reduceAdd, Nat.reduceMul, Int.reduceLE, eq_self]
 refine zAD [0, 4, 5] ?_
 simp only [KQ, ↓KP, ↓reduceIte, Nat.reduceEqDiff]
 subst hY0
 refine zAF fun Y1 hY1 => ?_
 refine zAG ?_
 try simp only [↓zAH, EVq, TY, zAE, ↓reduceIte, Nat.reduceLT, Nat.reduceLeDiff, Nat.reduceEqDiff, Nat.reduceAdd, Nat.reduceMul, Int.reduceLE, eq_self]
 refine zAD [0, 4, 11] ?_
 simp only [KQ, ↓KP, ↓reduceIte, Nat.reduceEqDiff]
 subst hY1
 refine run_if_t (by simp only [↓zAR, ↓zAU, ↓zAd, ↓zAN, ↓reduceIte, Nat.reduceEqDiff] <;> rfl) ?_
 refine zAG ?_
 try simp only [ha, q1, q2, q3, List.drop_zero, List.take_succ_cons, List.take_zero, Nat.zero_add, List.length_append, List.length_singleton, List.length_cons, List.length_nil, ↓zAH, EVq, TY, zAE, ↓reduceIte, Nat.reduceLT, Nat.reduceLeDiff, Nat.reduceEqDiff, Nat.reduceAdd, Nat.reduceMul, Int.reduceLE, eq_self]
 try refine zAk (by first | rfl | decide | exact ⟨rfl, by decide, rfl⟩) ?_
 try simp only [ha, q1, q2, q3, List.drop_zero, List.take_succ_cons, List.take_zero, Nat.zero_add, List.length_append, List.length_singleton, List.length_cons, List.length_nil, ↓zAH, EVq, TY, zAE, ↓reduceIte, Nat.reduceLT, Nat.reduceLeDiff, Nat.reduceEqDiff, Nat.reduceAdd, Nat.reduceMul, Int.reduceLE, eq_self]
 refine zAk ⟨by omega, by omega⟩ ?_
 try simp only [ha, q1, q2, q3, List.drop_zero, List.take_succ_cons, List.take_zero, Nat.zero_add, List.length_append, List.length_singleton, List.length_cons, List.length_nil, ↓zAH, EVq, TY, zAE, ↓reduceIte, Nat.reduceLT, Nat.reduceLeDiff, Nat.reduceEqDiff, Nat.reduceAdd, Nat.reduceMul, Int.reduceLE, eq_self]
 refine zAD [] ?_
 simp only [KQ, ↓KP, ↓reduceIte, Nat.reduceEqDiff]
 refine run_end Try.func154 Try.results154 (by simp only [aRes, ↓zAR, ↓KP, KQ, ↓reduceIte, Nat.reduceEqDiff, zBb, TY] <;> rfl) (Weak.refl _ _ _) ?_
 refine ⟨⟨H.length + 1, by omega, hFa, fun h => by have := hF _ h; omega, ?_, ?_⟩, ⟨by simp; omega, fun r hr => ?_⟩, rfl⟩
 · rw [zBj (by simp; omega)]; simp
 · rw [zCL (by simp; omega) (by omega)]; simp [Heap.get]
 · have hrl := hF _ hr
   have hra : r ≠ a := fun h => hFa (h ▸ hr)
   have hrb : r ≠ b := fun h => hFb (h ▸ hr)
   have n1 : ∀ X Y : Option Row, a < ((H ++ [X]).set b none ++ [Y]).length := fun X Y => by simp; omega
   have n2 : ∀ X : Option Row, r < ((H ++ [X]).set b none).length := fun X => by simp; omega
   have n3 : ∀ X : Option Row, b < (H ++ [X]).length := fun X => by simp; omega
   rw [zCL (n1 _ _) hra, get_push_lt (n2 _), zCL (n3 _) hrb, get_push_lt hrl]
end Go.Proofs.Qd
namespace Go.Proofs.Qd
open Go Go.Ab
variable [Go.Ab.DM]
def zDR (l : List Int) (i j : Nat) : List Int := (l.set i (l.getD j 0)).set j (l.getD i 0)
theorem zCH (l : List Int) (i j : Nat) : (zDR l i j).length = l.length := by simp [zDR]
def down (n : Nat) (l : List Int) (i : Nat) : List Int :=
 if h : 2 * i + 1 < n then
   let j := if 2 * i + 2 < n ∧ l.getD (2 * i + 1) 0 < l.getD (2 * i + 2) 0 then 2 * i + 2 else 2 * i + 1
   if l.getD i 0 < l.getD j 0 then down n (zDR l i j) j else l
 else l
termination_by n - i
decreasing_by all_goals (simp_wf; try simp only [j]); split <;> omega
def up (l : List Int) (j : Nat) : List Int :=
 if h : j = 0 then l else
   if l.getD ((j - 1) / 2) 0 < l.getD j 0 then up (zDR l ((j - 1) / 2) j) ((j - 1) / 2) else l
termination_by j
decreasing_by omega
theorem down_end {n i : Nat} {l : List Int} (h : ¬ 2 * i + 1 < n) : down n l i = l := by rw [down, dif_neg h]
theorem down_l {n i : Nat} {l : List Int} (h : 2 * i + 1 < n) (h1 : ¬ (2 * i + 2 < n ∧ l.getD (2 * i + 1) 0 < l.getD (2 * i + 2) 0)) : down n l i = if l.getD i 0 < l.getD (2 * i + 1) 0 then down n (zDR l i (2 * i + 1)) (2 * i + 1) else l := by rw [down, dif_pos h]; simp only [if_neg h1]
theorem down_r {n i : Nat} {l : List Int} (h : 2 * i + 1 < n) (h1 : 2 * i + 2 < n ∧ l.getD (2 * i + 1) 0 < l.getD (2 * i + 2) 0) : down n l i = if l.getD i 0 < l.getD (2 * i + 2) 0 then down n (zDR l i (2 * i + 2)) (2 * i + 2) else l := by rw [down, dif_pos h]; simp only [if_pos h1]
theorem up_end {l : List Int} : up l 0 = l := by rw [up, dif_pos rfl]
theorem up_go {l : List Int} {j : Nat} (h : j ≠ 0) : up l j = if l.getD ((j - 1) / 2) 0 < l.getD j 0 then up (zDR l ((j - 1) / 2) j) ((j - 1) / 2) else l := by rw [up, dif_neg h]
theorem zBV {l : List Int} {i : Nat} (h : i < l.length) : l.getD i 0 = l[i] := by simp [List.getD, h]
section
variable {n i : Nat} {l : List Int}
theorem down_step_l (hn : n ≤ l.length) (h : 2 * i + 1 < n) (h1 : ∀ h2 : 2 * i + 2 < n, ¬ l[2 * i + 1] < l[2 * i + 2]) (h3 : l[i] < l[2 * i + 1]) : down n (zDR l i (2 * i + 1)) (2 * i + 1) = down n l i := by
 rw [down_l h (fun ⟨a, b⟩ => h1 a (by rwa [zBV (by omega), zBV (by omega)] at b)), if_pos (by rwa [zBV (by omega), zBV (by omega)])]
theorem down_step_r (hn : n ≤ l.length) (h : 2 * i + 2 < n) (h1 : l[2 * i + 1] < l[2 * i + 2]) (h3 : l[i] < l[2 * i + 2]) : down n (zDR l i (2 * i + 2)) (2 * i + 2) = down n l i := by
 rw [down_r (by omega) ⟨h, by rwa [zBV (by omega), zBV (by omega)]⟩, if_pos (by rwa [zBV (by omega), zBV (by omega)])]
theorem zCA (hn : n ≤ l.length) (h : 2 * i + 1 < n) (h1 : ∀ h2 : 2 * i + 2 < n, ¬ l[2 * i + 1] < l[2 * i + 2]) (h3 : ¬ l[i] < l[2 * i + 1]) : down n l i = l := by
 rw [down_l h (fun ⟨a, b⟩ => h1 a (by rwa [zBV (by omega), zBV (by omega)] at b)), if_neg (by rwa [zBV (by omega), zBV (by omega)])]
theorem down_stop_r (hn : n ≤ l.length) (h : 2 * i + 2 < n) (h1 : l[2 * i + 1] < l[2 * i + 2]) (h3 : ¬ l[i] < l[2 * i + 2]) : down n l i = l := by
 rw [down_r (by omega) ⟨h, by rwa [zBV (by omega), zBV (by omega)]⟩, if_neg (by rwa [zBV (by omega), zBV (by omega)])]
end
def initGo (n : Nat) : List Int → Nat → List Int
 | l, 0 => l
 | l, i + 1 => initGo n (down n l i) i
theorem down_len (n : Nat) (l : List Int) (i : Nat) : (down n l i).length = l.length := by
 fun_induction down n l i with
 | case1 l i h j h1 ih => rw [ih, zCH]
 | case2 l i h j h1 => rfl
 | case3 l i h => rfl
theorem up_step {l : List Int} {j : Nat} (hj : j < l.length) (h : j ≠ 0) (h3 : l[(j - 1) / 2] < l[j]) : up (zDR l ((j - 1) / 2) j) ((j - 1) / 2) = up l j := by
 rw [up_go h, if_pos (by rwa [zBV (by omega), zBV (by omega)])]
theorem up_stop {l : List Int} {j : Nat} (hj : j < l.length) (h : j ≠ 0) (h3 : ¬ l[(j - 1) / 2] < l[j]) : up l j = l := by
 rw [up_go h, if_neg (by rwa [zBV (by omega), zBV (by omega)])]
theorem dec_f {p : Prop} [Decidable p] (h : (!decide p) = false) : p := by simpa using h
theorem dec_t {p : Prop} [Decidable p] (h : (!decide p) = true) : ¬ p := by simpa using h
theorem hp_swap {a b : Nat} {l : List Int} {F : Nat → Prop} {H : Heap} {i j : Nat} (hab : a ≠ b) (hFa : ¬ F a) (hFb : ¬ F b) (ha : H.get a = some (.cells 1 [.sl b 0 l.length])) (hb : H.get b = some (.cells 1 (l.map iD))) (hi : i < l.length) (hj : j < l.length) :
   Hp a (zDR l i j) F (H.set b (some (.cells 1 (((l.set i l[j]).set j l[i]).map iD)))) := by
 have hbl := Heap.get_lt hb
 refine ⟨b, hab, hFa, hFb, ?_, ?_⟩
 · rw [zCL hbl hab, ha, zCH]
 · rw [zBj hbl, zDR, zBV hi, zBV hj]
theorem fr_set {F : Nat → Prop} {H H1 : Heap} {b : Nat} {x : Option Row} (hb : b < H1.length) (hFb : ¬ F b) (h : Fr F H H1) : Fr F H (H1.set b x) := ⟨by simpa using h.1, fun r hr => by rw [zCL hb (fun e => hFb (e ▸ hr))]; exact h.2 r hr⟩
theorem fr_refl (F : Nat → Prop) (H : Heap) : Fr F H H := ⟨Nat.le_refl _, fun _ _ => rfl⟩
theorem fr_trans {F : Nat → Prop} {H H1 H2 : Heap} (h : Fr F H H1) (h' : Fr F H1 H2) : Fr F H H2 := ⟨Nat.le_trans h.1 h'.1, fun r hr => (h'.2 r hr).trans (h.2 r hr)⟩
end Go.Proofs.Qd
namespace Go.Proofs.Qd
open Go Go.Ab Go.Proofs.Ytfibkbmlgigemaa.AbT
variable [Go.Ab.DM]
set_option maxHeartbeats 2000000 in
theorem h_down (H : Heap) (a i n : Nat) (l : List Int) (F : Nat → Prop) (h : Hp a l F H) (hn : n ≤ l.length) (hi : i ≤ n) (hN : l.length ≤ 1000000) : Sound Try.prog 77 [.ifc 80 (.pt a 0 0), iD i, iD n] H (fun d H' => Hp a (down n l i) F H' ∧ Fr F H H' ∧ ∃ b, d = .v (.bool b)) := by
 refine zAa Try.func77 rfl (by kernel_rfl) Try.ntmps77 (by simp) ?_
 refine zAF fun Y0 hY0 => ?_
 refine zAG ?_
 try simp only [↓zAH, EVq, TY, zAE, ↓reduceIte, Nat.reduceLT, Nat.reduceLeDiff, Nat.reduceEqDiff, Nat.reduceAdd, Nat.reduceMul, Int.reduceLE, eq_self]
 refine zAD [0, 1, 2] ?_
 simp only [KQ, ↓KP, ↓reduceIte, Nat.reduceEqDiff]
 subst hY0
 refine zAF fun Y1 hY1 => ?_
 refine zAG ?_
 try simp only [↓zAH, EVq, TY, zAE, ↓reduceIte, Nat.reduceLT, Nat.reduceLeDiff, Nat.reduceEqDiff, Nat.reduceAdd, Nat.reduceMul, Int.reduceLE, eq_self]
 refine zAD [0, 1, 2, 7] ?_
 simp only [KQ, ↓KP, ↓reduceIte, Nat.reduceEqDiff]
 subst hY1
 refine zAF fun Y2 hY2 => ?_
 refine zCX ?_
 refine zAD [0, 1, 2, 7] ?_
 simp only [KQ, ↓KP, ↓reduceIte, Nat.reduceEqDiff]
 refine run_loop' (fun m e H1 => ∃ (i1 : Nat) (l1 : List Int), m = n - i1 ∧ i1 ≤ n ∧ l1.length = l.length ∧ Hp a l1 F H1 ∧ Fr F H H1 ∧ down n l1 i1 = down n l i ∧ e = envL [(0, .ifc 80 (.pt a 0 0)), (1, iD i), (2, iD n), (7, iD (i1 : Nat))]) (n - i)
   ⟨i, l, rfl, hi, rfl, h, fr_refl F H, rfl, rfl⟩ ?_
 intro C hC m e H1 ih hI
 obtain ⟨i1, l1, rfl, hi1, hl1, hHp, hFr, hdn, rfl⟩ := hI
 obtain ⟨b, hab, hFa, hFb, ha, hb⟩ := id hHp
 have ew1 : IntKind.i64.wrap (2 * (i1 : Int)) = ((2 * i1 : Nat) : Int) := by rw [zAp (by omega) (by omega)]; omega
 have ew2 : IntKind.i64.wrap (((2 * i1 : Nat) : Int) + 1) = ((2 * i1 + 1 : Nat) : Int) := by rw [zAp (by omega) (by omega)]; omega
 have ew3 : IntKind.i64.wrap (((2 * i1 + 1 : Nat) : Int) + 1) = ((2 * i1 + 2 : Nat) : Int) := by rw [zAp (by omega) (by omega)]; omega
 refine zCX ?_
 refine zAF fun Y3 hY3 => ?_
 refine zAG ?_
 try simp only [ew1, ew2, ↓zAH, EVq, TY, zAE, ↓reduceIte, Nat.reduceLT, Nat.reduceLeDiff, Nat.reduceEqDiff, Nat.reduceAdd, Nat.reduceMul, Int.reduceLE, eq_self]
 refine zAD [0, 1, 2, 7, 8] ?_
 simp only [KQ, ↓KP, ↓reduceIte, Nat.reduceEqDiff]
 subst hY3
 refine zAF fun Y4 hY4 => ?_
 refine zAF fun Y5 hY5 => ?_
 refine zAG ?_
 try simp only [↓zAH, EVq, TY, zAE, ↓reduceIte, Nat.reduceLT, Nat.reduceLeDiff, Nat.reduceEqDiff, Nat.reduceAdd, Nat.reduceMul, Int.reduceLE, eq_self]
 first | refine gK_n (fun h18 d18 => ?_) fun h18 d18 => ?_ | refine gK_b (fun h18 d18 => ?_) fun h18 d18 => ?_
 · try simp only [d18, ↓zAH, EVq, TY, zAE, ↓reduceIte, Nat.reduceLT, Nat.reduceLeDiff, Nat.reduceEqDiff, Nat.reduceAdd, Nat.reduceMul, Int.reduceLE, eq_self]
   refine zAD [0, 1, 2, 7, 8, 21] ?_
   simp only [KQ, ↓KP, ↓reduceIte, Nat.reduceEqDiff]
   subst hY5
   first | refine run_if (by simp only [↓zAR, ↓zAU, ↓zAd, ↓zAN, ↓reduceIte, Nat.reduceEqDiff] <;> rfl) (fun h21 => ?_) fun h21 => ?_ | refine zCF (by simp only [↓zAR, ↓zAU, ↓zAd, ↓zAN, ↓reduceIte, Nat.reduceEqDiff] <;> rfl) (fun h21 => ?_) fun h21 => ?_
   · refine zDV (by rfl) ?_
     subst hY2
     refine zAF fun Y6 hY6 => ?_
     refine zAG ?_
     try simp only [↓zAH, EVq, TY, zAE, ↓reduceIte, Nat.reduceLT, Nat.reduceLeDiff, Nat.reduceEqDiff, Nat.reduceAdd, Nat.reduceMul, Int.reduceLE, eq_self]
     refine zAD [6] ?_
     simp only [KQ, ↓KP, ↓reduceIte, Nat.reduceEqDiff]
     subst hY6
     refine zCh Try.func77 Try.results77 (by simp only [aRes, ↓zAR, ↓KP, KQ, ↓reduceIte, Nat.reduceEqDiff, zBb, TY] <;> rfl) (Weak.refl _ _ _) ?_
     refine ⟨?_, hFr, _, rfl⟩
     rw [← hdn]
     first
       | (rw [down_end (by omega)]; exact hHp)
       | (rw [zCA (by omega) (by omega) (fun h2 => absurd h2 (by omega)) (dec_t h39)]; exact hHp)
       | (rw [zCA (by omega) (by omega) (fun _ => h33) (dec_t h39)]; exact hHp)
       | (rw [down_stop_r (by omega) (by omega) h33 (dec_t h39)]; exact hHp)
   · refine zBm ?_
     subst hY4
     refine zAF fun Y7 hY7 => ?_
     refine zAG ?_
     try simp only [↓zAH, EVq, TY, zAE, ↓reduceIte, Nat.reduceLT, Nat.reduceLeDiff, Nat.reduceEqDiff, Nat.reduceAdd, Nat.reduceMul, Int.reduceLE, eq_self]
     refine zAD [0, 1, 2, 7, 8, 9] ?_
     simp only [KQ, ↓KP, ↓reduceIte, Nat.reduceEqDiff]
     subst hY7
     refine zAF fun Y8 hY8 => ?_
     refine zAF fun Y9 hY9 => ?_
     refine zAG ?_
     try simp only [ew3, ↓zAH, EVq, TY, zAE, ↓reduceIte, Nat.reduceLT, Nat.reduceLeDiff, Nat.reduceEqDiff, Nat.reduceAdd, Nat.reduceMul, Int.reduceLE, eq_self]
     refine zAD [0, 1, 2, 7, 8, 9, 10] ?_
     simp only [KQ, ↓KP, ↓reduceIte, Nat.reduceEqDiff]
     subst hY9
     refine zAF fun Y10 hY10 => ?_
     refine zAG ?_
     try simp only [ha, ↓zAH, EVq, TY, zAE, ↓reduceIte, Nat.reduceLT, Nat.reduceLeDiff, Nat.reduceEqDiff, Nat.reduceAdd, Nat.reduceMul, Int.reduceLE, eq_self]
     first | refine gK_p (fun h28 d28 => ?_) fun h28 d28 => ?_ | refine gK_b (fun h28 d28 => ?_) fun h28 d28 => ?_
     · try simp only [d28, ha, ↓zAH, EVq, TY, zAE, ↓reduceIte, Nat.reduceLT, Nat.reduceLeDiff, Nat.reduceEqDiff, Nat.reduceAdd, Nat.reduceMul, Int.reduceLE, eq_self]
       refine zDE (g_less _ b _ _ l1 hb (by omega) (by omega)) (fun d Hx hd => ?_)
       obtain ⟨hHx, rfl⟩ := hd
       subst Hx
       try simp only [d28, ha, ↓zAH, EVq, TY, zAE, ↓reduceIte, Nat.reduceLT, Nat.reduceLeDiff, Nat.reduceEqDiff, Nat.reduceAdd, Nat.reduceMul, Int.reduceLE, eq_self]
       refine zAD [0, 1, 2, 7, 9, 10, 33] ?_
       simp only [KQ, ↓KP, ↓reduceIte, Nat.reduceEqDiff]
       subst hY10
       first | refine run_if (by simp only [↓zAR, ↓zAU, ↓zAd, ↓zAN, ↓reduceIte, Nat.reduceEqDiff] <;> rfl) (fun h33 => ?_) fun h33 => ?_ | refine zCF (by simp only [↓zAR, ↓zAU, ↓zAd, ↓zAN, ↓reduceIte, Nat.reduceEqDiff] <;> rfl) (fun h33 => ?_) fun h33 => ?_
       · refine zAG ?_
         try simp only [↓zAH, EVq, TY, zAE, ↓reduceIte, Nat.reduceLT, Nat.reduceLeDiff, Nat.reduceEqDiff, Nat.reduceAdd, Nat.reduceMul, Int.reduceLE, eq_self]
         refine zAD [0, 1, 2, 7, 9] ?_
         simp only [KQ, ↓KP, ↓reduceIte, Nat.reduceEqDiff]
         subst hY8
         refine zAF fun Y11 hY11 => ?_
         refine zAF fun Y12 hY12 => ?_
         refine zAG ?_
         try simp only [ha, ↓zAH, EVq, TY, zAE, ↓reduceIte, Nat.reduceLT, Nat.reduceLeDiff, Nat.reduceEqDiff, Nat.reduceAdd, Nat.reduceMul, Int.reduceLE, eq_self]
         refine zDE (g_less _ b _ _ l1 hb (by omega) (by omega)) (fun d Hx hd => ?_)
         obtain ⟨hHx, rfl⟩ := hd
         subst Hx
         try simp only [ha, ↓zAH, EVq, TY, zAE, ↓reduceIte, Nat.reduceLT, Nat.reduceLeDiff, Nat.reduceEqDiff, Nat.reduceAdd, Nat.reduceMul, Int.reduceLE, eq_self]
         refine zAD [0, 1, 2, 7, 9, 39] ?_
         simp only [KQ, ↓KP, ↓reduceIte, Nat.reduceEqDiff]
         subst hY12
         first | refine run_if (by simp only [↓zAR, ↓zAU, ↓zAd, ↓zAN, ↓reduceIte, Nat.reduceEqDiff] <;> rfl) (fun h39 => ?_) fun h39 => ?_ | refine zCF (by simp only [↓zAR, ↓zAU, ↓zAd, ↓zAN, ↓reduceIte, Nat.reduceEqDiff] <;> rfl) (fun h39 => ?_) fun h39 => ?_
         · refine zDV (by rfl) ?_
           subst hY2
           refine zAF fun Y13 hY13 => ?_
           refine zAG ?_
           try simp only [↓zAH, EVq, TY, zAE, ↓reduceIte, Nat.reduceLT, Nat.reduceLeDiff, Nat.reduceEqDiff, Nat.reduceAdd, Nat.reduceMul, Int.reduceLE, eq_self]
           refine zAD [6] ?_
           simp only [KQ, ↓KP, ↓reduceIte, Nat.reduceEqDiff]
           subst hY13
           refine zCh Try.func77 Try.results77 (by simp only [aRes, ↓zAR, ↓KP, KQ, ↓reduceIte, Nat.reduceEqDiff, zBb, TY] <;> rfl) (Weak.refl _ _ _) ?_
           refine ⟨?_, hFr, _, rfl⟩
           rw [← hdn]
           first
             | (rw [down_end (by omega)]; exact hHp)
             | (rw [zCA (by omega) (by omega) (fun h2 => absurd h2 (by omega)) (dec_t h39)]; exact hHp)
             | (rw [zCA (by omega) (by omega) (fun _ => h33) (dec_t h39)]; exact hHp)
             | (rw [down_stop_r (by omega) (by omega) h33 (dec_t h39)]; exact hHp)
         · refine zBm ?_
           subst hY11
           refine zAF fun Y14 hY14 => ?_
           refine zAG ?_
           try simp only [ha, ↓zAH, EVq, TY, zAE, ↓reduceIte, Nat.reduceLT, Nat.reduceLeDiff, Nat.reduceEqDiff, Nat.reduceAdd, Nat.reduceMul, Int.reduceLE, eq_self]
           refine zDE (g_swap _ b _ _ l1 hb (by omega) (by omega)) (fun d Hx hd => ?_)
           obtain ⟨hHx, rfl⟩ := hd
           subst Hx
           try simp only [ha, ↓zAH, EVq, TY, zAE, ↓reduceIte, Nat.reduceLT, Nat.reduceLeDiff, Nat.reduceEqDiff, Nat.reduceAdd, Nat.reduceMul, Int.reduceLE, eq_self]
           refine zAD [0, 1, 2, 9] ?_
           simp only [KQ, ↓KP, ↓reduceIte, Nat.reduceEqDiff]
           subst hY14
           refine zAG ?_
           try simp only [↓zAH, EVq, TY, zAE, ↓reduceIte, Nat.reduceLT, Nat.reduceLeDiff, Nat.reduceEqDiff, Nat.reduceAdd, Nat.reduceMul, Int.reduceLE, eq_self]
           refine zAD [0, 1, 2, 7] ?_
           simp only [KQ, ↓KP, ↓reduceIte, Nat.reduceEqDiff]
           refine zCS ?_
           refine zAD [0, 1, 2, 7] ?_
           simp only [KQ, ↓KP, ↓reduceIte, Nat.reduceEqDiff]
           first
             | refine ih (n - (2 * i1 + 1)) _ _ (by omega) ⟨2 * i1 + 1, zDR l1 i1 (2 * i1 + 1), rfl, by omega, by rw [zCH]; exact hl1, hp_swap hab hFa hFb ha hb (by omega) (by omega), fr_set (Heap.get_lt hb) hFb hFr, ?_, rfl⟩
             | refine ih (n - (2 * i1 + 2)) _ _ (by omega) ⟨2 * i1 + 2, zDR l1 i1 (2 * i1 + 2), rfl, by omega, by rw [zCH]; exact hl1, hp_swap hab hFa hFb ha hb (by omega) (by omega), fr_set (Heap.get_lt hb) hFb hFr, ?_, rfl⟩
           first
             | exact (down_step_l (by omega) (by omega) (fun h2 => absurd h2 (by omega)) (dec_f h39)).trans hdn
             | exact (down_step_l (by omega) (by omega) (fun _ => h33) (dec_f h39)).trans hdn
             | exact (down_step_r (by omega) (by omega) h33 (dec_f h39)).trans hdn
       · refine zBm ?_
         subst hY8
         refine zAF fun Y15 hY15 => ?_
         refine zAF fun Y16 hY16 => ?_
         refine zAG ?_
         try simp only [ha, ↓zAH, EVq, TY, zAE, ↓reduceIte, Nat.reduceLT, Nat.reduceLeDiff, Nat.reduceEqDiff, Nat.reduceAdd, Nat.reduceMul, Int.reduceLE, eq_self]
         refine zDE (g_less _ b _ _ l1 hb (by omega) (by omega)) (fun d Hx hd => ?_)
         obtain ⟨hHx, rfl⟩ := hd
         subst Hx
         try simp only [ha, ↓zAH, EVq, TY, zAE, ↓reduceIte, Nat.reduceLT, Nat.reduceLeDiff, Nat.reduceEqDiff, Nat.reduceAdd, Nat.reduceMul, Int.reduceLE, eq_self]
         refine zAD [0, 1, 2, 7, 9, 39] ?_
         simp only [KQ, ↓KP, ↓reduceIte, Nat.reduceEqDiff]
         subst hY16
         first | refine run_if (by simp only [↓zAR, ↓zAU, ↓zAd, ↓zAN, ↓reduceIte, Nat.reduceEqDiff] <;> rfl) (fun h39 => ?_) fun h39 => ?_ | refine zCF (by simp only [↓zAR, ↓zAU, ↓zAd, ↓zAN, ↓reduceIte, Nat.reduceEqDiff] <;> rfl) (fun h39 => ?_) fun h39 => ?_
         · refine zDV (by rfl) ?_
           subst hY2
           refine zAF fun Y17 hY17 => ?_
           refine zAG ?_
           try simp only [↓zAH, EVq, TY, zAE, ↓reduceIte, Nat.reduceLT, Nat.reduceLeDiff, Nat.reduceEqDiff, Nat.reduceAdd, Nat.reduceMul, Int.reduceLE, eq_self]
           refine zAD [6] ?_
           simp only [KQ, ↓KP, ↓reduceIte, Nat.reduceEqDiff]
           subst hY17
           refine zCh Try.func77 Try.results77 (by simp only [aRes, ↓zAR, ↓KP, KQ, ↓reduceIte, Nat.reduceEqDiff, zBb, TY] <;> rfl) (Weak.refl _ _ _) ?_
           refine ⟨?_, hFr, _, rfl⟩
           rw [← hdn]
           first
             | (rw [down_end (by omega)]; exact hHp)
             | (rw [zCA (by omega) (by omega) (fun h2 => absurd h2 (by omega)) (dec_t h39)]; exact hHp)
             | (rw [zCA (by omega) (by omega) (fun _ => h33) (dec_t h39)]; exact hHp)
             | (rw [down_stop_r (by omega) (by omega) h33 (dec_t h39)]; exact hHp)
         · refine zBm ?_
           subst hY15
           refine zAF fun Y18 hY18 => ?_
           refine zAG ?_
           try simp only [ha, ↓zAH, EVq, TY, zAE, ↓reduceIte, Nat.reduceLT, Nat.reduceLeDiff, Nat.reduceEqDiff, Nat.reduceAdd, Nat.reduceMul, Int.reduceLE, eq_self]
           refine zDE (g_swap _ b _ _ l1 hb (by omega) (by omega)) (fun d Hx hd => ?_)
           obtain ⟨hHx, rfl⟩ := hd
           subst Hx
           try simp only [ha, ↓zAH, EVq, TY, zAE, ↓reduceIte, Nat.reduceLT, Nat.reduceLeDiff, Nat.reduceEqDiff, Nat.reduceAdd, Nat.reduceMul, Int.reduceLE, eq_self]
           refine zAD [0, 1, 2, 9] ?_
           simp only [KQ, ↓KP, ↓reduceIte, Nat.reduceEqDiff]
           subst hY18
           refine zAG ?_
           try simp only [↓zAH, EVq, TY, zAE, ↓reduceIte, Nat.reduceLT, Nat.reduceLeDiff, Nat.reduceEqDiff, Nat.reduceAdd, Nat.reduceMul, Int.reduceLE, eq_self]
           refine zAD [0, 1, 2, 7] ?_
           simp only [KQ, ↓KP, ↓reduceIte, Nat.reduceEqDiff]
           refine zCS ?_
           refine zAD [0, 1, 2, 7] ?_
           simp only [KQ, ↓KP, ↓reduceIte, Nat.reduceEqDiff]
           first
             | refine ih (n - (2 * i1 + 1)) _ _ (by omega) ⟨2 * i1 + 1, zDR l1 i1 (2 * i1 + 1), rfl, by omega, by rw [zCH]; exact hl1, hp_swap hab hFa hFb ha hb (by omega) (by omega), fr_set (Heap.get_lt hb) hFb hFr, ?_, rfl⟩
             | refine ih (n - (2 * i1 + 2)) _ _ (by omega) ⟨2 * i1 + 2, zDR l1 i1 (2 * i1 + 2), rfl, by omega, by rw [zCH]; exact hl1, hp_swap hab hFa hFb ha hb (by omega) (by omega), fr_set (Heap.get_lt hb) hFb hFr, ?_, rfl⟩
           first
             | exact (down_step_l (by omega) (by omega) (fun h2 => absurd h2 (by omega)) (dec_f h39)).trans hdn
             | exact (down_step_l (by omega) (by omega) (fun _ => h33) (dec_f h39)).trans hdn
             | exact (down_step_r (by omega) (by omega) h33 (dec_f h39)).trans hdn
     · try simp only [d28, ha, ↓zAH, EVq, TY, zAE, ↓reduceIte, Nat.reduceLT, Nat.reduceLeDiff, Nat.reduceEqDiff, Nat.reduceAdd, Nat.reduceMul, Int.reduceLE, eq_self]
       refine zAD [0, 1, 2, 7, 9, 10, 33] ?_
       simp only [KQ, ↓KP, ↓reduceIte, Nat.reduceEqDiff]
       subst hY10
       refine run_if_f (by simp only [↓zAR, ↓zAU, ↓zAd, ↓zAN, ↓reduceIte, Nat.reduceEqDiff] <;> rfl) ?_
       refine zBm ?_
       subst hY8
       refine zAF fun Y19 hY19 => ?_
       refine zAF fun Y20 hY20 => ?_
       refine zAG ?_
       try simp only [ha, ↓zAH, EVq, TY, zAE, ↓reduceIte, Nat.reduceLT, Nat.reduceLeDiff, Nat.reduceEqDiff, Nat.reduceAdd, Nat.reduceMul, Int.reduceLE, eq_self]
       refine zDE (g_less _ b _ _ l1 hb (by omega) (by omega)) (fun d Hx hd => ?_)
       obtain ⟨hHx, rfl⟩ := hd
       subst Hx
       try simp only [ha, ↓zAH, EVq, TY, zAE, ↓reduceIte, Nat.reduceLT, Nat.reduceLeDiff, Nat.reduceEqDiff, Nat.reduceAdd, Nat.reduceMul, Int.reduceLE, eq_self]
       refine zAD [0, 1, 2, 7, 9, 39] ?_
       simp only [KQ, ↓KP, ↓reduceIte, Nat.reduceEqDiff]
       subst hY20
       first | refine run_if (by simp only [↓zAR, ↓zAU, ↓zAd, ↓zAN, ↓reduceIte, Nat.reduceEqDiff] <;> rfl) (fun h39 => ?_) fun h39 => ?_ | refine zCF (by simp only [↓zAR, ↓zAU, ↓zAd, ↓zAN, ↓reduceIte, Nat.reduceEqDiff] <;> rfl) (fun h39 => ?_) fun h39 => ?_
       · refine zDV (by rfl) ?_
         subst hY2
         refine zAF fun Y21 hY21 => ?_
         refine zAG ?_
         try simp only [↓zAH, EVq, TY, zAE, ↓reduceIte, Nat.reduceLT, Nat.reduceLeDiff, Nat.reduceEqDiff, Nat.reduceAdd, Nat.reduceMul, Int.reduceLE, eq_self]
         refine zAD [6] ?_
         simp only [KQ, ↓KP, ↓reduceIte, Nat.reduceEqDiff]
         subst hY21
         refine zCh Try.func77 Try.results77 (by simp only [aRes, ↓zAR, ↓KP, KQ, ↓reduceIte, Nat.reduceEqDiff, zBb, TY] <;> rfl) (Weak.refl _ _ _) ?_
         refine ⟨?_, hFr, _, rfl⟩
         rw [← hdn]
         first
           | (rw [down_end (by omega)]; exact hHp)
           | (rw [zCA (by omega) (by omega) (fun h2 => absurd h2 (by omega)) (dec_t h39)]; exact hHp)
           | (rw [zCA (by omega) (by omega) (fun _ => h33) (dec_t h39)]; exact hHp)
           | (rw [down_stop_r (by omega) (by omega) h33 (dec_t h39)]; exact hHp)
       · refine zBm ?_
         subst hY19
         refine zAF fun Y22 hY22 => ?_
         refine zAG ?_
         try simp only [ha, ↓zAH, EVq, TY, zAE, ↓reduceIte, Nat.reduceLT, Nat.reduceLeDiff, Nat.reduceEqDiff, Nat.reduceAdd, Nat.reduceMul, Int.reduceLE, eq_self]
         refine zDE (g_swap _ b _ _ l1 hb (by omega) (by omega)) (fun d Hx hd => ?_)
         obtain ⟨hHx, rfl⟩ := hd
         subst Hx
         try simp only [ha, ↓zAH, EVq, TY, zAE, ↓reduceIte, Nat.reduceLT, Nat.reduceLeDiff, Nat.reduceEqDiff, Nat.reduceAdd, Nat.reduceMul, Int.reduceLE, eq_self]
         refine zAD [0, 1, 2, 9] ?_
         simp only [KQ, ↓KP, ↓reduceIte, Nat.reduceEqDiff]
         subst hY22
         refine zAG ?_
         try simp only [↓zAH, EVq, TY, zAE, ↓reduceIte, Nat.reduceLT, Nat.reduceLeDiff, Nat.reduceEqDiff, Nat.reduceAdd, Nat.reduceMul, Int.reduceLE, eq_self]
         refine zAD [0, 1, 2, 7] ?_
         simp only [KQ, ↓KP, ↓reduceIte, Nat.reduceEqDiff]
         refine zCS ?_
         refine zAD [0, 1, 2, 7] ?_
         simp only [KQ, ↓KP, ↓reduceIte, Nat.reduceEqDiff]
         first
           | refine ih (n - (2 * i1 + 1)) _ _ (by omega) ⟨2 * i1 + 1, zDR l1 i1 (2 * i1 + 1), rfl, by omega, by rw [zCH]; exact hl1, hp_swap hab hFa hFb ha hb (by omega) (by omega), fr_set (Heap.get_lt hb) hFb hFr, ?_, rfl⟩
           | refine ih (n - (2 * i1 + 2)) _ _ (by omega) ⟨2 * i1 + 2, zDR l1 i1 (2 * i1 + 2), rfl, by omega, by rw [zCH]; exact hl1, hp_swap hab hFa hFb ha hb (by omega) (by omega), fr_set (Heap.get_lt hb) hFb hFr, ?_, rfl⟩
         first
           | exact (down_step_l (by omega) (by omega) (fun h2 => absurd h2 (by omega)) (dec_f h39)).trans hdn
           | exact (down_step_l (by omega) (by omega) (fun _ => h33) (dec_f h39)).trans hdn
           | exact (down_step_r (by omega) (by omega) h33 (dec_f h39)).trans hdn
 · try simp only [d18, ↓zAH, EVq, TY, zAE, ↓reduceIte, Nat.reduceLT, Nat.reduceLeDiff, Nat.reduceEqDiff, Nat.reduceAdd, Nat.reduceMul, Int.reduceLE, eq_self]
   refine zAD [0, 1, 2, 7, 8, 21] ?_
   simp only [KQ, ↓KP, ↓reduceIte, Nat.reduceEqDiff]
   subst hY5
   refine run_if_t (by simp only [↓zAR, ↓zAU, ↓zAd, ↓zAN, ↓reduceIte, Nat.reduceEqDiff] <;> rfl) ?_
   refine zDV (by rfl) ?_
   subst hY2
   refine zAF fun Y23 hY23 => ?_
   refine zAG ?_
   try simp only [↓zAH, EVq, TY, zAE, ↓reduceIte, Nat.reduceLT, Nat.reduceLeDiff, Nat.reduceEqDiff, Nat.reduceAdd, Nat.reduceMul, Int.reduceLE, eq_self]
   refine zAD [6] ?_
   simp only [KQ, ↓KP, ↓reduceIte, Nat.reduceEqDiff]
   subst hY23
   refine zCh Try.func77 Try.results77 (by simp only [aRes, ↓zAR, ↓KP, KQ, ↓reduceIte, Nat.reduceEqDiff, zBb, TY] <;> rfl) (Weak.refl _ _ _) ?_
   refine ⟨?_, hFr, _, rfl⟩
   rw [← hdn]
   first
     | (rw [down_end (by omega)]; exact hHp)
     | (rw [zCA (by omega) (by omega) (fun h2 => absurd h2 (by omega)) (dec_t h39)]; exact hHp)
     | (rw [zCA (by omega) (by omega) (fun _ => h33) (dec_t h39)]; exact hHp)
     | (rw [down_stop_r (by omega) (by omega) h33 (dec_t h39)]; exact hHp)
set_option maxHeartbeats 2000000 in
theorem h_up (H : Heap) (a j : Nat) (l : List Int) (F : Nat → Prop) (h : Hp a l F H) (hj : j < l.length) (hN : l.length ≤ 1000000) : Sound Try.prog 78 [.ifc 80 (.pt a 0 0), iD j] H (fun d H' => Hp a (up l j) F H' ∧ Fr F H H' ∧ d = .tup []) := by
 refine zAa Try.func78 rfl (by kernel_rfl) Try.ntmps78 (by simp) ?_
 refine zCX ?_
 refine zAD [0, 1] ?_
 simp only [KQ, ↓KP, ↓reduceIte, Nat.reduceEqDiff]
 refine run_loop' (fun m e H1 => ∃ (j1 : Nat) (l1 : List Int), m = j1 ∧ j1 < l.length ∧ l1.length = l.length ∧ Hp a l1 F H1 ∧ Fr F H H1 ∧ up l1 j1 = up l j ∧ e = envL [(0, .ifc 80 (.pt a 0 0)), (1, iD (j1 : Nat))]) j
   ⟨j, l, rfl, hj, rfl, h, fr_refl F H, rfl, rfl⟩ ?_
 intro C hC m e H1 ih hI
 obtain ⟨j1, l1, rfl, hj1, hl1, hHp, hFr, hup, rfl⟩ := hI
 obtain ⟨b, hab, hFa, hFb, ha, hb⟩ := id hHp
 have ew1 : IntKind.i64.wrap ((m : Int) - 1) = (m : Int) - 1 := zAp (by omega) (by omega)
 have ew2 : IntKind.i64.wrap (((m : Int) - 1).tdiv 2) = (((m - 1) / 2 : Nat) : Int) := by
   rcases Nat.eq_zero_or_pos m with h0 | h0
   · subst h0; rfl
   · rw [Int.tdiv_eq_ediv_of_nonneg (by omega), zAp (by omega) (by omega)]; omega
 refine zCX ?_
 refine zAF fun Y0 hY0 => ?_
 refine zAG ?_
 try simp only [ew1, ew2, ↓zAH, EVq, TY, zAE, ↓reduceIte, Nat.reduceLT, Nat.reduceLeDiff, Nat.reduceEqDiff, Nat.reduceAdd, Nat.reduceMul, Int.reduceLE, eq_self]
 refine zAk (by omega) ?_
 try simp only [ew1, ew2, ↓zAH, EVq, TY, zAE, ↓reduceIte, Nat.reduceLT, Nat.reduceLeDiff, Nat.reduceEqDiff, Nat.reduceAdd, Nat.reduceMul, Int.reduceLE, eq_self]
 refine zAD [0, 1, 4] ?_
 simp only [KQ, ↓KP, ↓reduceIte, Nat.reduceEqDiff]
 subst hY0
 refine zAF fun Y1 hY1 => ?_
 refine zAF fun Y2 hY2 => ?_
 refine zAG ?_
 try simp only [ha, ↓zAH, EVq, TY, zAE, ↓reduceIte, Nat.reduceLT, Nat.reduceLeDiff, Nat.reduceEqDiff, Nat.reduceAdd, Nat.reduceMul, Int.reduceLE, eq_self]
 first | refine gK_n (fun h11 d11 => ?_) fun h11 d11 => ?_ | refine gK_b (fun h11 d11 => ?_) fun h11 d11 => ?_
 · try simp only [d11, ha, ↓zAH, EVq, TY, zAE, ↓reduceIte, Nat.reduceLT, Nat.reduceLeDiff, Nat.reduceEqDiff, Nat.reduceAdd, Nat.reduceMul, Int.reduceLE, eq_self]
   refine zDE (g_less _ b _ _ l1 hb (by omega) (by omega)) (fun d Hx hd => ?_)
   obtain ⟨hHx, rfl⟩ := hd
   subst Hx
   try simp only [d11, ha, ↓zAH, EVq, TY, zAE, ↓reduceIte, Nat.reduceLT, Nat.reduceLeDiff, Nat.reduceEqDiff, Nat.reduceAdd, Nat.reduceMul, Int.reduceLE, eq_self]
   refine zAD [0, 1, 4, 17] ?_
   simp only [KQ, ↓KP, ↓reduceIte, Nat.reduceEqDiff]
   subst hY2
   first | refine run_if (by simp only [↓zAR, ↓zAU, ↓zAd, ↓zAN, ↓reduceIte, Nat.reduceEqDiff] <;> rfl) (fun h17 => ?_) fun h17 => ?_ | refine zCF (by simp only [↓zAR, ↓zAU, ↓zAd, ↓zAN, ↓reduceIte, Nat.reduceEqDiff] <;> rfl) (fun h17 => ?_) fun h17 => ?_
   · refine zDV (by rfl) ?_
     refine run_end Try.func78 Try.results78 (by simp only [aRes, ↓zAR, ↓KP, KQ, ↓reduceIte, Nat.reduceEqDiff, zBb, TY] <;> rfl) (Weak.refl _ _ _) ?_
     refine ⟨?_, hFr, rfl⟩
     rw [← hup]
     first
       | (have h0 : m = 0 := by omega
          subst h0
          rw [up_end]; exact hHp)
       | (rw [up_stop (by omega) (by omega) (dec_t h17)]; exact hHp)
   · refine zBm ?_
     subst hY1
     refine zAF fun Y3 hY3 => ?_
     refine zAG ?_
     try simp only [ha, ↓zAH, EVq, TY, zAE, ↓reduceIte, Nat.reduceLT, Nat.reduceLeDiff, Nat.reduceEqDiff, Nat.reduceAdd, Nat.reduceMul, Int.reduceLE, eq_self]
     refine zDE (g_swap _ b _ _ l1 hb (by omega) (by omega)) (fun d Hx hd => ?_)
     obtain ⟨hHx, rfl⟩ := hd
     subst Hx
     try simp only [ha, ↓zAH, EVq, TY, zAE, ↓reduceIte, Nat.reduceLT, Nat.reduceLeDiff, Nat.reduceEqDiff, Nat.reduceAdd, Nat.reduceMul, Int.reduceLE, eq_self]
     refine zAD [0, 4] ?_
     simp only [KQ, ↓KP, ↓reduceIte, Nat.reduceEqDiff]
     subst hY3
     refine zAG ?_
     try simp only [↓zAH, EVq, TY, zAE, ↓reduceIte, Nat.reduceLT, Nat.reduceLeDiff, Nat.reduceEqDiff, Nat.reduceAdd, Nat.reduceMul, Int.reduceLE, eq_self]
     refine zAD [0, 1] ?_
     simp only [KQ, ↓KP, ↓reduceIte, Nat.reduceEqDiff]
     refine zCS ?_
     refine zAD [0, 1] ?_
     simp only [KQ, ↓KP, ↓reduceIte, Nat.reduceEqDiff]
     refine ih ((m - 1) / 2) _ _ (by omega) ⟨(m - 1) / 2, zDR l1 ((m - 1) / 2) m, rfl, by omega, by rw [zCH]; exact hl1, hp_swap hab hFa hFb ha hb (by omega) (by omega), fr_set (Heap.get_lt hb) hFb hFr, ?_, rfl⟩
     exact (up_step (by omega) (by omega) (dec_f h17)).trans hup
 · try simp only [d11, ha, ↓zAH, EVq, TY, zAE, ↓reduceIte, Nat.reduceLT, Nat.reduceLeDiff, Nat.reduceEqDiff, Nat.reduceAdd, Nat.reduceMul, Int.reduceLE, eq_self]
   refine zAD [0, 1, 4, 17] ?_
   simp only [KQ, ↓KP, ↓reduceIte, Nat.reduceEqDiff]
   subst hY2
   refine run_if_t (by simp only [↓zAR, ↓zAU, ↓zAd, ↓zAN, ↓reduceIte, Nat.reduceEqDiff] <;> rfl) ?_
   refine zDV (by rfl) ?_
   refine run_end Try.func78 Try.results78 (by simp only [aRes, ↓zAR, ↓KP, KQ, ↓reduceIte, Nat.reduceEqDiff, zBb, TY] <;> rfl) (Weak.refl _ _ _) ?_
   refine ⟨?_, hFr, rfl⟩
   rw [← hup]
   first
     | (have h0 : m = 0 := by omega
        subst h0
        rw [up_end]; exact hHp)
     | (rw [up_stop (by omega) (by omega) (dec_t h17)]; exact hHp)
set_option maxHeartbeats 2000000 in
theorem h_init (H : Heap) (a : Nat) (l : List Int) (F : Nat → Prop) (h : Hp a l F H) (hN : l.length ≤ 1000000) : Sound Try.prog 46 [.ifc 80 (.pt a 0 0)] H (fun d H' => Hp a (initGo l.length l (l.length / 2)) F H' ∧ Fr F H H' ∧ d = .tup []) := by
 refine zAa Try.func46 rfl (by kernel_rfl) Try.ntmps46 (by simp) ?_
 obtain ⟨b, hab, hFa, hFb, ha, hb⟩ := id h
 have ew0 : IntKind.i64.wrap ((l.length : Int).tdiv 2) = ((l.length / 2 : Nat) : Int) := by rw [Int.tdiv_eq_ediv_of_nonneg (by omega), zAp (by omega) (by omega)]; omega
 have ew1 : IntKind.i64.wrap (((l.length / 2 : Nat) : Int) - 1) = ((l.length / 2 : Nat) : Int) - 1 := zAp (by omega) (by omega)
 refine zAF fun Y0 hY0 => ?_
 refine zAG ?_
 try simp only [ha, ↓zAH, EVq, TY, zAE, ↓reduceIte, Nat.reduceLT, Nat.reduceLeDiff, Nat.reduceEqDiff, Nat.reduceAdd, Nat.reduceMul, Int.reduceLE, eq_self]
 refine zDE (g_len _ b _) (fun d Hx hd => ?_)
 obtain ⟨hHx, rfl⟩ := hd
 subst Hx
 try simp only [ha, ↓zAH, EVq, TY, zAE, ↓reduceIte, Nat.reduceLT, Nat.reduceLeDiff, Nat.reduceEqDiff, Nat.reduceAdd, Nat.reduceMul, Int.reduceLE, eq_self]
 refine zAD [0, 2] ?_
 simp only [KQ, ↓KP, ↓reduceIte, Nat.reduceEqDiff]
 subst hY0
 refine zAF fun Y1 hY1 => ?_
 refine zAG ?_
 try simp only [ew0, ew1, ↓zAH, EVq, TY, zAE, ↓reduceIte, Nat.reduceLT, Nat.reduceLeDiff, Nat.reduceEqDiff, Nat.reduceAdd, Nat.reduceMul, Int.reduceLE, eq_self]
 refine zAk (by omega) ?_
 try simp only [ew0, ew1, ↓zAH, EVq, TY, zAE, ↓reduceIte, Nat.reduceLT, Nat.reduceLeDiff, Nat.reduceEqDiff, Nat.reduceAdd, Nat.reduceMul, Int.reduceLE, eq_self]
 refine zAD [0, 2, 3] ?_
 simp only [KQ, ↓KP, ↓reduceIte, Nat.reduceEqDiff]
 subst hY1
 refine zCX ?_
 refine zAD [0, 2, 3] ?_
 simp only [KQ, ↓KP, ↓reduceIte, Nat.reduceEqDiff]
 refine run_loop' (fun m e H1 => ∃ (k : Nat) (l1 : List Int), m = k ∧ k ≤ l.length ∧ l1.length = l.length ∧ Hp a l1 F H1 ∧ Fr F H H1 ∧ initGo l.length l1 k = initGo l.length l (l.length / 2) ∧ e = envL [(0, .ifc 80 (.pt a 0 0)), (2, iD l.length), (3, iD ((k : Int) - 1))]) (l.length / 2)
   ⟨l.length / 2, l, rfl, by omega, rfl, h, fr_refl F H, rfl, rfl⟩ ?_
 intro C hC m e H1 ih hI
 obtain ⟨k, l1, rfl, hk, hl1, hHp, hFr, hini, rfl⟩ := hI
 refine zAF fun Y2 hY2 => ?_
 refine zAF fun Y3 hY3 => ?_
 refine zAG ?_
 try simp only [↓zAH, EVq, TY, zAE, ↓reduceIte, Nat.reduceLT, Nat.reduceLeDiff, Nat.reduceEqDiff, Nat.reduceAdd, Nat.reduceMul, Int.reduceLE, eq_self]
 refine zAD [0, 2, 3, 10] ?_
 simp only [KQ, ↓KP, ↓reduceIte, Nat.reduceEqDiff]
 subst hY3
 first | refine run_if (by simp only [↓zAR, ↓zAU, ↓zAd, ↓zAN, ↓reduceIte, Nat.reduceEqDiff] <;> rfl) (fun h10 => ?_) fun h10 => ?_ | refine zCF (by simp only [↓zAR, ↓zAU, ↓zAd, ↓zAN, ↓reduceIte, Nat.reduceEqDiff] <;> rfl) (fun h10 => ?_) fun h10 => ?_
 · refine zBm ?_
   subst hY2
   refine zAF fun Y4 hY4 => ?_
   refine zCX ?_
   have ek : ((m : Int) - 1) = ((m - 1 : Nat) : Int) := by omega
   refine zAG ?_
   try simp only [ek, ↓zAH, EVq, TY, zAE, ↓reduceIte, Nat.reduceLT, Nat.reduceLeDiff, Nat.reduceEqDiff, Nat.reduceAdd, Nat.reduceMul, Int.reduceLE, eq_self]
   refine zCp (h_down _ a (m - 1) l.length l1 F hHp (by omega) (by omega) (by omega)) (fun d H2 hd => ?_)
   obtain ⟨hHp2, hFr2, bb, rfl⟩ := hd
   try simp only [ek, ↓zAH, EVq, TY, zAE, ↓reduceIte, Nat.reduceLT, Nat.reduceLeDiff, Nat.reduceEqDiff, Nat.reduceAdd, Nat.reduceMul, Int.reduceLE, eq_self]
   refine zAD [0, 2, 3] ?_
   simp only [KQ, ↓KP, ↓reduceIte, Nat.reduceEqDiff]
   refine zCS ?_
   subst hY4
   refine zAG ?_
   try simp only [↓zAH, EVq, TY, zAE, ↓reduceIte, Nat.reduceLT, Nat.reduceLeDiff, Nat.reduceEqDiff, Nat.reduceAdd, Nat.reduceMul, Int.reduceLE, eq_self]
   refine zAD [0, 2, 3] ?_
   simp only [KQ, ↓KP, ↓reduceIte, Nat.reduceEqDiff]
   refine zAD [0, 2, 3] ?_
   simp only [KQ, ↓KP, ↓reduceIte, Nat.reduceEqDiff]
   obtain ⟨k, rfl⟩ : ∃ k, m = k + 1 := ⟨m - 1, by omega⟩
   refine ih k _ _ (by omega) ⟨k, down l.length l1 k, rfl, by omega, by rw [down_len]; exact hl1, hHp2, fr_trans hFr hFr2, hini, ?_⟩
   rw [zAp (by omega) (by omega)]
   simp only [Int.natCast_add, Int.cast_ofNat_Int, Int.add_sub_cancel, Nat.add_sub_cancel]
 · refine zDV (by rfl) ?_
   refine run_end Try.func46 Try.results46 (by simp only [aRes, ↓zAR, ↓KP, KQ, ↓reduceIte, Nat.reduceEqDiff, zBb, TY] <;> rfl) (Weak.refl _ _ _) ?_
   have h0 : m = 0 := by omega
   subst h0
   refine ⟨?_, hFr, rfl⟩
   rw [← hini]; exact hHp
set_option maxHeartbeats 2000000 in
theorem h_push (H : Heap) (a : Nat) (x : Int) (l : List Int) (F : Nat → Prop) (hF : ∀ r, F r → r < H.length) (h : Hp a l F H) (hN : l.length < 1000000) : Sound Try.prog 49 [.ifc 80 (.pt a 0 0), .ifc 3 (iD x)] H (fun d H' => Hp a (up (l ++ [x]) l.length) F H' ∧ Fr F H H' ∧ d = .tup []) := by
 refine zAa Try.func49 rfl (by kernel_rfl) Try.ntmps49 (by simp) ?_
 refine zAF fun Y0 hY0 => ?_
 refine zAG ?_
 try simp only [↓zAH, EVq, TY, zAE, ↓reduceIte, Nat.reduceLT, Nat.reduceLeDiff, Nat.reduceEqDiff, Nat.reduceAdd, Nat.reduceMul, Int.reduceLE, eq_self]
 refine zDE (g_push _ a x l F hF h (by omega)) (fun d H1 hd => ?_)
 obtain ⟨hHp, hFr, rfl⟩ := hd
 obtain ⟨b, hab, hFa, hFb, ha, hb⟩ := id hHp
 try simp only [↓zAH, EVq, TY, zAE, ↓reduceIte, Nat.reduceLT, Nat.reduceLeDiff, Nat.reduceEqDiff, Nat.reduceAdd, Nat.reduceMul, Int.reduceLE, eq_self]
 refine zAD [0] ?_
 simp only [KQ, ↓KP, ↓reduceIte, Nat.reduceEqDiff]
 subst hY0
 have hla : (l ++ [x]).length = l.length + 1 := by simp
 have ew : IntKind.i64.wrap (((l ++ [x]).length : Int) - 1) = ((l.length : Nat) : Int) := by rw [hla, zAp (by omega) (by omega)]; omega
 refine zAG ?_
 try simp only [ha, ew, ↓zAH, EVq, TY, zAE, ↓reduceIte, Nat.reduceLT, Nat.reduceLeDiff, Nat.reduceEqDiff, Nat.reduceAdd, Nat.reduceMul, Int.reduceLE, eq_self]
 refine zDE (g_len _ b _) (fun d Hx hd => ?_)
 obtain ⟨hHx, rfl⟩ := hd
 subst Hx
 try simp only [ha, ew, ↓zAH, EVq, TY, zAE, ↓reduceIte, Nat.reduceLT, Nat.reduceLeDiff, Nat.reduceEqDiff, Nat.reduceAdd, Nat.reduceMul, Int.reduceLE, eq_self]
 refine zCp (h_up _ a l.length (l ++ [x]) F hHp (by omega) (by omega)) (fun d H2 hd => ?_)
 obtain ⟨hHp2, hFr2, rfl⟩ := hd
 try simp only [ha, ew, ↓zAH, EVq, TY, zAE, ↓reduceIte, Nat.reduceLT, Nat.reduceLeDiff, Nat.reduceEqDiff, Nat.reduceAdd, Nat.reduceMul, Int.reduceLE, eq_self]
 refine zAD [] ?_
 simp only [KQ, ↓KP, ↓reduceIte, Nat.reduceEqDiff]
 refine run_end Try.func49 Try.results49 (by simp only [aRes, ↓zAR, ↓KP, KQ, ↓reduceIte, Nat.reduceEqDiff, zBb, TY] <;> rfl) (Weak.refl _ _ _) ?_
 exact ⟨hHp2, fr_trans hFr hFr2, rfl⟩
set_option maxHeartbeats 2000000 in
theorem h_pop (H : Heap) (a : Nat) (l l2 : List Int) (F : Nat → Prop) (hF : ∀ r, F r → r < H.length) (h : Hp a l F H) (hl : l ≠ []) (hl2 : l2 = down (l.length - 1) (zDR l 0 (l.length - 1)) 0) (hne : l2 ≠ []) (hN : l.length ≤ 1000000) : Sound Try.prog 48 [.ifc 80 (.pt a 0 0)] H (fun d H' => Hp a l2.dropLast F H' ∧ Fr F H H' ∧ d = .ifc 3 (iD (l2.getLast hne))) := by
 refine zAa Try.func48 rfl (by kernel_rfl) Try.ntmps48 (by simp) ?_
 obtain ⟨b, hab, hFa, hFb, ha, hb⟩ := id h
 have hpos : 0 < l.length := List.length_pos_iff.2 hl
 have ew : IntKind.i64.wrap ((l.length : Int) - 1) = ((l.length - 1 : Nat) : Int) := by rw [zAp (by omega) (by omega)]; omega
 have hlen2 : l2.length = l.length := by rw [hl2, down_len, zCH]
 have hz : iD 0 = iD ((0 : Nat) : Int) := rfl
 refine zAF fun Y0 hY0 => ?_
 refine zAG ?_
 try simp only [↓zAH, EVq, TY, zAE, ↓reduceIte, Nat.reduceLT, Nat.reduceLeDiff, Nat.reduceEqDiff, Nat.reduceAdd, Nat.reduceMul, Int.reduceLE, eq_self]
 refine zAD [0] ?_
 simp only [KQ, ↓KP, ↓reduceIte, Nat.reduceEqDiff]
 subst hY0
 refine zAF fun Y1 hY1 => ?_
 refine zAG ?_
 try simp only [ha, ew, ↓zAH, EVq, TY, zAE, ↓reduceIte, Nat.reduceLT, Nat.reduceLeDiff, Nat.reduceEqDiff, Nat.reduceAdd, Nat.reduceMul, Int.reduceLE, eq_self]
 refine zDE (g_len _ b _) (fun d Hx hd => ?_)
 obtain ⟨hHx, rfl⟩ := hd
 subst Hx
 try simp only [ha, ew, ↓zAH, EVq, TY, zAE, ↓reduceIte, Nat.reduceLT, Nat.reduceLeDiff, Nat.reduceEqDiff, Nat.reduceAdd, Nat.reduceMul, Int.reduceLE, eq_self]
 refine zAD [0, 3] ?_
 simp only [KQ, ↓KP, ↓reduceIte, Nat.reduceEqDiff]
 subst hY1
 refine zAF fun Y2 hY2 => ?_
 refine zAG ?_
 try simp only [ha, ↓zAH, EVq, TY, zAE, ↓reduceIte, Nat.reduceLT, Nat.reduceLeDiff, Nat.reduceEqDiff, Nat.reduceAdd, Nat.reduceMul, Int.reduceLE, eq_self]
 refine zDE (g_swap _ b 0 (l.length - 1) l hb (by omega) (by omega)) (fun d Hx hd => ?_)
 obtain ⟨hHx, rfl⟩ := hd
 subst Hx
 have hHp1 := hp_swap hab hFa hFb ha hb (show 0 < l.length by omega) (show l.length - 1 < l.length by omega)
 have hFr1 := fr_set (F := F) (H := H) (x := some (Row.cells 1 (List.map iD ((l.set 0 l[l.length - 1]).set (l.length - 1) l[0])))) (Heap.get_lt hb) hFb (fr_refl F H)
 try simp only [ha, ↓zAH, EVq, TY, zAE, ↓reduceIte, Nat.reduceLT, Nat.reduceLeDiff, Nat.reduceEqDiff, Nat.reduceAdd, Nat.reduceMul, Int.reduceLE, eq_self]
 refine zAD [0, 3] ?_
 simp only [KQ, ↓KP, ↓reduceIte, Nat.reduceEqDiff]
 subst hY2
 refine zAF fun Y3 hY3 => ?_
 refine zAG ?_
 try simp only [↓zAH, EVq, TY, zAE, ↓reduceIte, Nat.reduceLT, Nat.reduceLeDiff, Nat.reduceEqDiff, Nat.reduceAdd, Nat.reduceMul, Int.reduceLE, eq_self]
 refine zCp (h_down _ a 0 (l.length - 1) _ F hHp1 (by rw [zCH]; omega) (by omega) (by rw [zCH]; omega)) (fun d H2 hd => ?_)
 obtain ⟨hHp2, hFr2, bb, rfl⟩ := hd
 rw [← hl2] at hHp2
 have hFr3 := fr_trans hFr1 hFr2
 try simp only [↓zAH, EVq, TY, zAE, ↓reduceIte, Nat.reduceLT, Nat.reduceLeDiff, Nat.reduceEqDiff, Nat.reduceAdd, Nat.reduceMul, Int.reduceLE, eq_self]
 refine zAD [0] ?_
 simp only [KQ, ↓KP, ↓reduceIte, Nat.reduceEqDiff]
 subst hY3
 refine zAF fun Y4 hY4 => ?_
 refine zAG ?_
 try simp only [↓zAH, EVq, TY, zAE, ↓reduceIte, Nat.reduceLT, Nat.reduceLeDiff, Nat.reduceEqDiff, Nat.reduceAdd, Nat.reduceMul, Int.reduceLE, eq_self]
 refine zDE (g_pop _ a l2 F (fun r hr => Nat.lt_of_lt_of_le (hF r hr) hFr3.1) hHp2 hne (by omega)) (fun d H3 hd => ?_)
 obtain ⟨hHp4, hFr4, rfl⟩ := hd
 try simp only [↓zAH, EVq, TY, zAE, ↓reduceIte, Nat.reduceLT, Nat.reduceLeDiff, Nat.reduceEqDiff, Nat.reduceAdd, Nat.reduceMul, Int.reduceLE, eq_self]
 refine zAD [2] ?_
 simp only [KQ, ↓KP, ↓reduceIte, Nat.reduceEqDiff]
 subst hY4
 refine zCh Try.func48 Try.results48 (by simp only [aRes, ↓zAR, ↓KP, KQ, ↓reduceIte, Nat.reduceEqDiff, zBb, TY] <;> rfl) (Weak.refl _ _ _) ?_
 exact ⟨hHp4, fr_trans hFr3 hFr4, rfl⟩
end Go.Proofs.Qd
namespace Go.Proofs.Qd
open Go Go.Ab
variable [Go.Ab.DM]
def digD (bits k count : Int) (nodes : List (Int × Int)) : D := .agg [iD bits, iD k, iD count, .fz 2 (nodes.map zBF)]
theorem zBh {b k c : Int} {d : D} (h : d = digD b k c []) : leD (.agg [iD b, iD k, iD c, .v (.slice none 0 0)]) d := by
 subst h; simp only [leD, lesD, digD]; exact ⟨_, rfl, _, _, rfl, rfl, _, _, rfl, rfl, _, _, rfl, rfl, _, _, rfl, .inr ⟨2, rfl⟩, rfl⟩
theorem zAb {x y a b : D} (h : leD x a) (h' : leD y b) : leD (.tup [x, y]) (.tup [a, b]) := by simp only [leD, lesD]; exact ⟨_, rfl, _, _, rfl, h, _, _, rfl, h', rfl⟩
theorem zAv (k : IntKind) (n : Int) : leD (.v (.int k n)) (.v (.int k n)) := by simp [leD]
def lb (nodes : List (Int × Int)) (t : Int) : Nat := (nodes.takeWhile fun p => decide (p.1 < t)).length
def fnd (nodes : List (Int × Int)) (t : Int) : Bool := nodes.any fun p => p.1 == t
theorem lb_eq : ∀ {nodes : List (Int × Int)} {t : Int} {i : Nat}, i ≤ nodes.length → (∀ k (h : k < nodes.length), k < i → nodes[k].1 < t) → (∀ k (h : k < nodes.length), i ≤ k → t ≤ nodes[k].1) → lb nodes t = i
 | [], t, i, h, _, _ => by simp at h; subst h; rfl
 | p :: l, t, 0, _, _, h2 => by
   have := h2 0 (by simp) (by omega)
   rw [List.getElem_cons_zero] at this
   rw [lb, List.takeWhile_cons_of_neg (by simpa using this)]; rfl
 | p :: l, t, i + 1, h, h1, h2 => by
   have h0 := h1 0 (by simp) (by omega)
   rw [List.getElem_cons_zero] at h0
   have := lb_eq (nodes := l) (t := t) (i := i) (by simpa using h) (fun k hk hki => by have := h1 (k + 1) (by simpa using hk) (by omega); rwa [List.getElem_cons_succ] at this) (fun k hk hki => by have := h2 (k + 1) (by simpa using hk) (by omega); rwa [List.getElem_cons_succ] at this)
   simp [lb] at this ⊢
   rw [List.takeWhile_cons_of_pos (by simpa using h0)]
   simp [this]
theorem fnd_at {nodes : List (Int × Int)} {t : Int} {i : Nat} (hi : i < nodes.length) (hs : ∀ j k (hj : j < k) (hk : k < nodes.length), nodes[j].1 < nodes[k].1) (h1 : ∀ k (h : k < nodes.length), k < i → nodes[k].1 < t) (h2 : ∀ k (h : k < nodes.length), i ≤ k → t ≤ nodes[k].1) : fnd nodes t = decide (nodes[i].1 = t) := by
 rw [Bool.eq_iff_iff]
 simp only [fnd, List.any_eq_true, beq_iff_eq, decide_eq_true_eq]
 constructor
 · rintro ⟨p, hp, rfl⟩
   obtain ⟨k, hk, rfl⟩ := List.getElem_of_mem hp
   rcases Nat.lt_trichotomy k i with h | h | h
   · have := h1 k hk h; omega
   · subst h; rfl
   · have := hs i k h hk; have := h2 i hi (Nat.le_refl _); omega
 · intro h; exact ⟨_, List.getElem_mem hi, h⟩
theorem fnd_none {nodes : List (Int × Int)} {t : Int} (h1 : ∀ k (h : k < nodes.length), nodes[k].1 < t) : fnd nodes t = false := by
 rw [Bool.eq_false_iff]
 simp only [fnd, ne_eq, List.any_eq_true, beq_iff_eq]
 rintro ⟨p, hp, rfl⟩
 obtain ⟨k, hk, rfl⟩ := List.getElem_of_mem hp
 have := h1 k hk; omega
end Go.Proofs.Qd
namespace Go.Proofs.Qd
open Go Go.Ab Go.Proofs.Ytfibkbmlgigemaa.AbT
variable [Go.Ab.DM]
set_option maxHeartbeats 2000000 in
theorem q_cl42 (x y t : Int) : Pure Try.prog 42 [.agg [iD x, iD y], iD t] (fun d => d = iD (IntKind.i64.wrap (x - t))) := by
 refine zAa Try.func42 rfl (by kernel_rfl) Try.ntmps42 (by simp) ?_
 refine zAF fun Y0 hY0 => ?_
 refine zAG ?_
 try simp only [↓zAH, EVq, TY, zAE, ↓reduceIte, Nat.reduceLT, Nat.reduceLeDiff, Nat.reduceEqDiff, Nat.reduceAdd, Nat.reduceMul, Int.reduceLE, eq_self]
 refine zAD [1, 2] ?_
 simp only [KQ, ↓KP, ↓reduceIte, Nat.reduceEqDiff]
 subst hY0
 refine zAF fun Y1 hY1 => ?_
 refine zAG ?_
 try simp only [↓zAH, EVq, TY, zAE, ↓reduceIte, Nat.reduceLT, Nat.reduceLeDiff, Nat.reduceEqDiff, Nat.reduceAdd, Nat.reduceMul, Int.reduceLE, eq_self]
 refine zAD [4] ?_
 simp only [KQ, ↓KP, ↓reduceIte, Nat.reduceEqDiff]
 subst hY1
 refine run_ret0 3 Try.func42 Try.results42 (by simp only [aRes, ↓zAR, ↓KP, KQ, ↓reduceIte, Nat.reduceEqDiff, zBb, TY] <;> rfl) rfl ?_
 rfl
set_option maxHeartbeats 2000000 in
theorem q_bs (nodes : List (Int × Int)) (t : Int) (hn : nodes.length ≤ 100000000) (ht : 0 ≤ t ∧ t ≤ 1099511627776) (hb : ∀ k (h : k < nodes.length), 0 ≤ nodes[k].1 ∧ nodes[k].1 ≤ 1099511627776) (hs : ∀ j k (hj : j < k) (hk : k < nodes.length), nodes[j].1 < nodes[k].1) : Pure Try.prog 41 [.fz 2 (nodes.map zBF), iD t, .fn (.func 42) [] []] (fun d => d = .tup [iD (lb nodes t), .v (.bool (fnd nodes t))]) := by
 refine zAa Try.func41 rfl (by kernel_rfl) Try.ntmps41 (by simp) ?_
 have hl : (nodes.map zBF).length = nodes.length := List.length_map ..
 refine zAF fun Y0 hY0 => ?_
 refine zAG ?_
 try simp only [↓zAH, EVq, TY, zAE, ↓reduceIte, Nat.reduceLT, Nat.reduceLeDiff, Nat.reduceEqDiff, Nat.reduceAdd, Nat.reduceMul, Int.reduceLE, eq_self]
 refine zAD [0, 1, 2] ?_
 simp only [KQ, ↓KP, ↓reduceIte, Nat.reduceEqDiff]
 subst hY0
 refine zAF fun Y1 hY1 => ?_
 refine zAG ?_
 try simp only [↓zAH, EVq, TY, zAE, ↓reduceIte, Nat.reduceLT, Nat.reduceLeDiff, Nat.reduceEqDiff, Nat.reduceAdd, Nat.reduceMul, Int.reduceLE, eq_self]
 refine zAD [0, 1, 2, 8] ?_
 simp only [KQ, ↓KP, ↓reduceIte, Nat.reduceEqDiff]
 subst hY1
 refine zAF fun Y2 hY2 => ?_
 refine zAG ?_
 try simp only [↓zAH, EVq, TY, zAE, ↓reduceIte, Nat.reduceLT, Nat.reduceLeDiff, Nat.reduceEqDiff, Nat.reduceAdd, Nat.reduceMul, Int.reduceLE, eq_self]
 refine zAD [0, 1, 2, 8, 9, 10] ?_
 simp only [KQ, ↓KP, ↓reduceIte, Nat.reduceEqDiff]
 subst hY2
 refine zAF fun Y3 hY3 => ?_
 refine zCX ?_
 refine zAD [0, 1, 2, 8, 9, 10] ?_
 simp only [KQ, ↓KP, ↓reduceIte, Nat.reduceEqDiff]
 refine run_loop' (fun m e H => ∃ (i j : Nat), m = j - i ∧ i ≤ j ∧ j ≤ nodes.length ∧ (∀ k (h : k < nodes.length), k < i → nodes[k].1 < t) ∧ (∀ k (h : k < nodes.length), j ≤ k → t ≤ nodes[k].1) ∧ e = envL [(0, .fz 2 (nodes.map zBF)), (1, iD t), (2, .fn (.func 42) [] []), (8, iD (nodes.map zBF).length), (9, iD (i : Nat)), (10, iD (j : Nat))] ∧ H = []) nodes.length
   ⟨0, nodes.length, by simp, by omega, by omega, fun k _ hk => by omega, fun k h hk => by omega, by rw [hl]; rfl, rfl⟩ ?_
 intro C hC m e H ih hI
 obtain ⟨i, j, rfl, hij, hj, hlo, hhi, rfl, rfl⟩ := hI
 have eh1 : IntKind.i64.wrap ((i : Int) + (j : Int)) = ((i + j : Nat) : Int) := by rw [zAp (by omega) (by omega)]; omega
 have eh2 : IntKind.u64.wrap ((i + j : Nat) : Int) = ((i + j : Nat) : Int) := by simp [IntKind.wrap, IntKind.signed, IntKind.bits]; omega
 have eh3 : Int.fdiv ((i + j : Nat) : Int) (2 ^ min (Int.toNat 1) IntKind.u64.bits) = (((i + j) / 2 : Nat) : Int) := by
   rw [show (2 : Int) ^ min (Int.toNat 1) IntKind.u64.bits = 2 from rfl, Int.fdiv_eq_ediv_of_nonneg _ (by omega)]; omega
 have eh4 : IntKind.i64.wrap (((i + j) / 2 : Nat) : Int) = (((i + j) / 2 : Nat) : Int) := zAp (by omega) (by omega)
 refine zAF fun Y4 hY4 => ?_
 refine zAF fun Y5 hY5 => ?_
 refine zAG ?_
 try simp only [↓zAH, EVq, TY, zAE, ↓reduceIte, Nat.reduceLT, Nat.reduceLeDiff, Nat.reduceEqDiff, Nat.reduceAdd, Nat.reduceMul, Int.reduceLE, eq_self]
 refine zAD [0, 1, 2, 8, 9, 10, 17] ?_
 simp only [KQ, ↓KP, ↓reduceIte, Nat.reduceEqDiff]
 subst hY5
 first | refine run_if (by simp only [↓zAR, ↓zAU, ↓zAd, ↓zAN, ↓reduceIte, Nat.reduceEqDiff] <;> rfl) (fun h17 => ?_) fun h17 => ?_ | refine zCF (by simp only [↓zAR, ↓zAU, ↓zAd, ↓zAN, ↓reduceIte, Nat.reduceEqDiff] <;> rfl) (fun h17 => ?_) fun h17 => ?_
 · refine zBm ?_
   subst hY4
   refine zCX ?_
   refine zAF fun Y6 hY6 => ?_
   refine zAG ?_
   try simp only [eh1, eh2, eh3, eh4, ↓zAH, EVq, TY, zAE, ↓reduceIte, Nat.reduceLT, Nat.reduceLeDiff, Nat.reduceEqDiff, Nat.reduceAdd, Nat.reduceMul, Int.reduceLE, eq_self]
   refine zAD [0, 1, 2, 8, 9, 10, 11] ?_
   simp only [KQ, ↓KP, ↓reduceIte, Nat.reduceEqDiff]
   subst hY6
   refine zAF fun Y7 hY7 => ?_
   have hlt : (i + j) / 2 < nodes.length := by omega
   have hbb := hb _ hlt
   have ec : IntKind.i64.wrap (nodes[(i + j) / 2].1 - t) = nodes[(i + j) / 2].1 - t := zAp (by omega) (by omega)
   refine zAG ?_
   try simp only [map_get hlt, ec, ↓zAH, EVq, TY, zAE, ↓reduceIte, Nat.reduceLT, Nat.reduceLeDiff, Nat.reduceEqDiff, Nat.reduceAdd, Nat.reduceMul, Int.reduceLE, eq_self]
   refine zAk (by omega) ?_
   try simp only [map_get hlt, ec, ↓zAH, EVq, TY, zAE, ↓reduceIte, Nat.reduceLT, Nat.reduceLeDiff, Nat.reduceEqDiff, Nat.reduceAdd, Nat.reduceMul, Int.reduceLE, eq_self]
   refine zCp ((q_cl42 _ _ _).frame (by simp [zAZ, D.noref]) _).sound (fun d Hx hd => ?_)
   obtain ⟨rfl, rfl⟩ := hd
   try simp only [map_get hlt, ec, ↓zAH, EVq, TY, zAE, ↓reduceIte, Nat.reduceLT, Nat.reduceLeDiff, Nat.reduceEqDiff, Nat.reduceAdd, Nat.reduceMul, Int.reduceLE, eq_self]
   refine zAD [0, 1, 2, 8, 9, 10, 11, 31] ?_
   simp only [KQ, ↓KP, ↓reduceIte, Nat.reduceEqDiff]
   subst hY7
   first | refine run_if (by simp only [↓zAR, ↓zAU, ↓zAd, ↓zAN, ↓reduceIte, Nat.reduceEqDiff] <;> rfl) (fun h31 => ?_) fun h31 => ?_ | refine zCF (by simp only [↓zAR, ↓zAU, ↓zAd, ↓zAN, ↓reduceIte, Nat.reduceEqDiff] <;> rfl) (fun h31 => ?_) fun h31 => ?_
   · refine zAG ?_
     try simp only [↓zAH, EVq, TY, zAE, ↓reduceIte, Nat.reduceLT, Nat.reduceLeDiff, Nat.reduceEqDiff, Nat.reduceAdd, Nat.reduceMul, Int.reduceLE, eq_self]
     refine zAD [0, 1, 2, 8, 9, 10] ?_
     simp only [KQ, ↓KP, ↓reduceIte, Nat.reduceEqDiff]
     refine zCS ?_
     refine zAD [0, 1, 2, 8, 9, 10] ?_
     simp only [KQ, ↓KP, ↓reduceIte, Nat.reduceEqDiff]
     first
       | refine ih (j - ((i + j) / 2 + 1)) _ _ (by omega) ⟨(i + j) / 2 + 1, j, rfl, by omega, by omega, ?_, hhi, ?_, rfl⟩
         · intro k h hk
           rcases Nat.lt_or_ge k ((i + j) / 2) with h' | h'
           · have := hs k _ h' hlt; omega
           · have : k = (i + j) / 2 := by omega
             subst this; omega
         · rw [zAp (x := (((i + j) / 2 : Nat) : Int) + 1) (by omega) (by omega)]; rfl
       | refine ih ((i + j) / 2 - i) _ _ (by omega) ⟨i, (i + j) / 2, rfl, by omega, by omega, hlo, ?_, rfl, rfl⟩
         · intro k h hk
           rcases Nat.lt_or_ge ((i + j) / 2) k with h' | h'
           · have := hs _ k h' h; omega
           · have : k = (i + j) / 2 := by omega
             subst this; omega
   · refine zAG ?_
     try simp only [↓zAH, EVq, TY, zAE, ↓reduceIte, Nat.reduceLT, Nat.reduceLeDiff, Nat.reduceEqDiff, Nat.reduceAdd, Nat.reduceMul, Int.reduceLE, eq_self]
     refine zAD [0, 1, 2, 8, 9, 10] ?_
     simp only [KQ, ↓KP, ↓reduceIte, Nat.reduceEqDiff]
     refine zCS ?_
     refine zAD [0, 1, 2, 8, 9, 10] ?_
     simp only [KQ, ↓KP, ↓reduceIte, Nat.reduceEqDiff]
     first
       | refine ih (j - ((i + j) / 2 + 1)) _ _ (by omega) ⟨(i + j) / 2 + 1, j, rfl, by omega, by omega, ?_, hhi, ?_, rfl⟩
         · intro k h hk
           rcases Nat.lt_or_ge k ((i + j) / 2) with h' | h'
           · have := hs k _ h' hlt; omega
           · have : k = (i + j) / 2 := by omega
             subst this; omega
         · rw [zAp (x := (((i + j) / 2 : Nat) : Int) + 1) (by omega) (by omega)]; rfl
       | refine ih ((i + j) / 2 - i) _ _ (by omega) ⟨i, (i + j) / 2, rfl, by omega, by omega, hlo, ?_, rfl, rfl⟩
         · intro k h hk
           rcases Nat.lt_or_ge ((i + j) / 2) k with h' | h'
           · have := hs _ k h' h; omega
           · have : k = (i + j) / 2 := by omega
             subst this; omega
 · refine zDV (by rfl) ?_
   subst hY3
   refine zAF fun Y8 hY8 => ?_
   refine zAG ?_
   try simp only [↓zAH, EVq, TY, zAE, ↓reduceIte, Nat.reduceLT, Nat.reduceLeDiff, Nat.reduceEqDiff, Nat.reduceAdd, Nat.reduceMul, Int.reduceLE, eq_self]
   first | refine gK_p (fun h39 d39 => ?_) fun h39 d39 => ?_ | refine gK_b (fun h39 d39 => ?_) fun h39 d39 => ?_
   · try simp only [d39, ↓zAH, EVq, TY, zAE, ↓reduceIte, Nat.reduceLT, Nat.reduceLeDiff, Nat.reduceEqDiff, Nat.reduceAdd, Nat.reduceMul, Int.reduceLE, eq_self]
     have hlt : i < nodes.length := by omega
     have hbb := hb _ hlt
     have ec : IntKind.i64.wrap (nodes[i].1 - t) = nodes[i].1 - t := zAp (by omega) (by omega)
     refine zAk (by omega) ?_
     try simp only [map_get hlt, ec, d39, ↓zAH, EVq, TY, zAE, ↓reduceIte, Nat.reduceLT, Nat.reduceLeDiff, Nat.reduceEqDiff, Nat.reduceAdd, Nat.reduceMul, Int.reduceLE, eq_self]
     try simp only [d39, ↓zAH, EVq, TY, zAE, ↓reduceIte, Nat.reduceLT, Nat.reduceLeDiff, Nat.reduceEqDiff, Nat.reduceAdd, Nat.reduceMul, Int.reduceLE, eq_self]
     refine zCp ((q_cl42 _ _ _).frame (by simp [zAZ, D.noref]) _).sound (fun d Hx hd => ?_)
     obtain ⟨rfl, rfl⟩ := hd
     try simp only [ec, d39, ↓zAH, EVq, TY, zAE, ↓reduceIte, Nat.reduceLT, Nat.reduceLeDiff, Nat.reduceEqDiff, Nat.reduceAdd, Nat.reduceMul, Int.reduceLE, eq_self]
     try simp only [d39, ↓zAH, EVq, TY, zAE, ↓reduceIte, Nat.reduceLT, Nat.reduceLeDiff, Nat.reduceEqDiff, Nat.reduceAdd, Nat.reduceMul, Int.reduceLE, eq_self]
     refine zAD [6, 7] ?_
     simp only [KQ, ↓KP, ↓reduceIte, Nat.reduceEqDiff]
     subst hY8
     refine run_ret0 3 Try.func41 Try.results41 (by simp only [aRes, ↓zAR, ↓KP, KQ, ↓reduceIte, Nat.reduceEqDiff, zBb, TY] <;> rfl) rfl ?_
     have hij' : i = j := by omega
     subst hij'
     rw [lb_eq hj hlo hhi]
     first
       | (rw [fnd_at (by omega) hs hlo hhi]
          have : decide (nodes[i].1 - t = 0) = decide (nodes[i].1 = t) := by rw [decide_eq_decide]; omega
          rw [← this]; rfl)
       | (rw [fnd_none (fun k h => hlo k h (by omega))]; rfl)
   · try simp only [d39, ↓zAH, EVq, TY, zAE, ↓reduceIte, Nat.reduceLT, Nat.reduceLeDiff, Nat.reduceEqDiff, Nat.reduceAdd, Nat.reduceMul, Int.reduceLE, eq_self]
     refine zAD [6, 7] ?_
     simp only [KQ, ↓KP, ↓reduceIte, Nat.reduceEqDiff]
     subst hY8
     refine run_ret0 3 Try.func41 Try.results41 (by simp only [aRes, ↓zAR, ↓KP, KQ, ↓reduceIte, Nat.reduceEqDiff, zBb, TY] <;> rfl) rfl ?_
     have hij' : i = j := by omega
     subst hij'
     rw [lb_eq hj hlo hhi]
     first
       | (rw [fnd_at (by omega) hs hlo hhi]
          have : decide (nodes[i].1 - t = 0) = decide (nodes[i].1 = t) := by rw [decide_eq_decide]; omega
          rw [← this]; rfl)
       | (rw [fnd_none (fun k h => hlo k h (by omega))]; rfl)
end Go.Proofs.Qd
namespace Go.Proofs.Qd
open Go Go.Ab Go.Proofs.Ytfibkbmlgigemaa.AbT
variable [Go.Ab.DM]
theorem ov1 : Extern.findNext Try.f75 = none := by kernel_rfl
theorem ov2 : Extern.find Try.f75 = some (Extern.SlicesOverlaps.overlaps #[22, 22] #[4]) := by kernel_rfl
theorem ov0 : Try.prog.funcs[75]? = some Try.f75 := Try.func75
def insL (nodes : List (Int × Int)) (i : Nat) (p : Int × Int) : List (Int × Int) := nodes.take i ++ p :: nodes.drop i
theorem splice_end {L : List D} {z q : D} : zCC (L ++ [z]) L.length [q] = L ++ [q] := by simp [zCC]
theorem splice_ins {L : List D} {z q : D} {i : Nat} (hi : i ≤ L.length) : zCC (zCC (L ++ [z]) (i + 1) (L.drop i)) i [q] = L.take i ++ q :: L.drop i := by
 have h1 : zCC (L ++ [z]) (i + 1) (L.drop i) = (L ++ [z]).take (i + 1) ++ L.drop i := by
   simp only [zCC, List.length_drop]
   have e : (L ++ [z]).drop (i + 1 + (L.length - i)) = [] := List.drop_of_length_le (by simp; omega)
   rw [e, List.append_nil]
 have h2 : ((L ++ [z]).take (i + 1)).length = i + 1 := by simp; omega
 rw [h1]
 simp only [zCC, List.length_singleton]
 have e1 : ((L ++ [z]).take (i + 1) ++ L.drop i).take i = L.take i := by
   rw [List.take_append_of_le_length (by omega), List.take_take, Nat.min_eq_left (by omega), List.take_append_of_le_length hi]
 have e2 : ((L ++ [z]).take (i + 1) ++ L.drop i).drop (i + 1) = L.drop i := by
   exact List.drop_left' h2
 rw [e1, e2]; simp
theorem mid_ins {L : List D} {z : D} {i a b : Nat} (hi : i ≤ L.length) (ha : a = L.length + 1 - i) (hb : b = L.length - i) : (((L ++ [z]).drop i).take a).take b = L.drop i := by
 subst ha; subst hb
 rw [List.take_take, Nat.min_eq_left (by omega), List.drop_append_of_le_length hi, List.take_append_of_le_length (by simp), List.take_of_length_le (by simp)]
theorem map_ins (nodes : List (Int × Int)) (i : Nat) (p : Int × Int) : (insL nodes i p).map zBF = (nodes.map zBF).take i ++ zBF p :: (nodes.map zBF).drop i := by simp [insL, List.map_take, List.map_drop]
end Go.Proofs.Qd
namespace Go.Proofs.Qd
open Go Go.Ab Go.Proofs.Ytfibkbmlgigemaa.AbT
variable [Go.Ab.DM]
set_option maxHeartbeats 2000000 in
theorem q_insert (H : Heap) (r r2 i : Nat) (nodes : List (Int × Int)) (p : Int × Int) (z : D) (hg : H.get r = some (.cells 2 (nodes.map zBF ++ [z]))) (hg2 : H.get r2 = some (.cells 2 [zBF p])) (hne : r2 ≠ r) (hi : i ≤ nodes.length) (hn : nodes.length ≤ 1000000) : Sound Try.prog 43 [.slc r 0 nodes.length (nodes.length + 1), iD i, .sl r2 0 1] H (fun d H' => H' = H.set r (some (.cells 2 ((insL nodes i p).map zBF))) ∧ d = .slc r 0 (nodes.length + 1) (nodes.length + 1)) := by
 refine zAa Try.func43 rfl (by kernel_rfl) Try.ntmps43 (by simp) ?_
 have hl : (nodes.map zBF).length = nodes.length := List.length_map ..
 have hl1 : (nodes.map zBF ++ [z]).length = nodes.length + 1 := by simp
 have hrl := Heap.get_lt hg
 have q1 : ∀ X, Heap.get (H.set r X) r = X := fun X => zBj hrl X
 have q2 : ∀ X, Heap.get (H.set r X) r2 = some (.cells 2 [zBF p]) := fun X => (zCL hrl hne X).trans hg2
 have hz : (((1 : Nat) : Int) = 0) = False := by simp
 have ew : IntKind.i64.wrap ((nodes.length : Int) + ((1 : Nat) : Int)) = ((nodes.length + 1 : Nat) : Int) := by rw [zAp (by omega) (by omega)]; omega
 have ei : IntKind.i64.wrap ((i : Int) + ((1 : Nat) : Int)) = ((i + 1 : Nat) : Int) := by rw [zAp (by omega) (by omega)]; omega
 have hlt : (((nodes.length + 1 : Nat) : Int) < ((nodes.length + 1 : Nat) : Int)) = False := by simp
 refine zAF fun Y0 hY0 => ?_
 refine zAG ?_
 try simp only [↓zAH, EVq, TY, zAE, ↓reduceIte, Nat.reduceLT, Nat.reduceLeDiff, Nat.reduceEqDiff, Nat.reduceAdd, Nat.reduceMul, Int.reduceLE, eq_self]
 refine zAD [0, 1, 2] ?_
 simp only [KQ, ↓KP, ↓reduceIte, Nat.reduceEqDiff]
 subst hY0
 refine zAF fun Y1 hY1 => ?_
 refine zAG ?_
 try simp only [hg, ↓zAH, EVq, TY, zAE, ↓reduceIte, Nat.reduceLT, Nat.reduceLeDiff, Nat.reduceEqDiff, Nat.reduceAdd, Nat.reduceMul, Int.reduceLE, eq_self]
 refine zAk (by omega) ?_
 try simp only [hg, ↓zAH, EVq, TY, zAE, ↓reduceIte, Nat.reduceLT, Nat.reduceLeDiff, Nat.reduceEqDiff, Nat.reduceAdd, Nat.reduceMul, Int.reduceLE, eq_self]
 refine zAD [0, 1, 2] ?_
 simp only [KQ, ↓KP, ↓reduceIte, Nat.reduceEqDiff]
 subst hY1
 refine zAF fun Y2 hY2 => ?_
 refine zAG ?_
 try simp only [↓zAH, EVq, TY, zAE, ↓reduceIte, Nat.reduceLT, Nat.reduceLeDiff, Nat.reduceEqDiff, Nat.reduceAdd, Nat.reduceMul, Int.reduceLE, eq_self]
 refine zAD [0, 1, 2, 7] ?_
 simp only [KQ, ↓KP, ↓reduceIte, Nat.reduceEqDiff]
 subst hY2
 refine zAF fun Y3 hY3 => ?_
 refine zAF fun Y4 hY4 => ?_
 refine zAG ?_
 try simp only [hz, ↓zAH, EVq, TY, zAE, ↓reduceIte, Nat.reduceLT, Nat.reduceLeDiff, Nat.reduceEqDiff, Nat.reduceAdd, Nat.reduceMul, Int.reduceLE, eq_self]
 refine zAD [0, 1, 2, 7, 16] ?_
 simp only [KQ, ↓KP, ↓reduceIte, Nat.reduceEqDiff]
 subst hY4
 refine run_if_f (by simp only [↓zAR, ↓zAU, ↓zAd, ↓zAN, ↓reduceIte, Nat.reduceEqDiff] <;> rfl) ?_
 refine zBm ?_
 subst hY3
 refine zAF fun Y5 hY5 => ?_
 refine zAG ?_
 try simp only [↓zAH, EVq, TY, zAE, ↓reduceIte, Nat.reduceLT, Nat.reduceLeDiff, Nat.reduceEqDiff, Nat.reduceAdd, Nat.reduceMul, Int.reduceLE, eq_self]
 refine zAD [0, 1, 2, 7, 8] ?_
 simp only [KQ, ↓KP, ↓reduceIte, Nat.reduceEqDiff]
 subst hY5
 refine zAF fun Y6 hY6 => ?_
 refine zAF fun Y7 hY7 => ?_
 refine zAG ?_
 try simp only [↓zAH, EVq, TY, zAE, ↓reduceIte, Nat.reduceLT, Nat.reduceLeDiff, Nat.reduceEqDiff, Nat.reduceAdd, Nat.reduceMul, Int.reduceLE, eq_self]
 refine zAD [0, 1, 2, 7, 8, 22] ?_
 simp only [KQ, ↓KP, ↓reduceIte, Nat.reduceEqDiff]
 subst hY7
 first | refine run_if (by simp only [↓zAR, ↓zAU, ↓zAd, ↓zAN, ↓reduceIte, Nat.reduceEqDiff] <;> rfl) (fun h22 => ?_) fun h22 => ?_ | refine zCF (by simp only [↓zAR, ↓zAU, ↓zAd, ↓zAN, ↓reduceIte, Nat.reduceEqDiff] <;> rfl) (fun h22 => ?_) fun h22 => ?_
 · refine zAF fun Y8 hY8 => ?_
   refine zAG ?_
   try simp only [hg, hg2, Int.toNat_natCast, Int.toNat_zero, Nat.sub_zero, Nat.zero_add, ↓zAH, EVq, TY, zAE, ↓reduceIte, Nat.reduceLT, Nat.reduceLeDiff, Nat.reduceEqDiff, Nat.reduceAdd, Nat.reduceMul, Int.reduceLE, eq_self]
   refine zAk ⟨by omega, by omega⟩ ?_
   try simp only [hg, hg2, Int.toNat_natCast, Int.toNat_zero, Nat.sub_zero, Nat.zero_add, ↓zAH, EVq, TY, zAE, ↓reduceIte, Nat.reduceLT, Nat.reduceLeDiff, Nat.reduceEqDiff, Nat.reduceAdd, Nat.reduceMul, Int.reduceLE, eq_self]
   refine zAD [6] ?_
   simp only [KQ, ↓KP, ↓reduceIte, Nat.reduceEqDiff]
   subst hY8
   refine zCh Try.func43 Try.results43 (by simp only [aRes, ↓zAR, ↓KP, KQ, ↓reduceIte, Nat.reduceEqDiff, zBb, TY] <;> rfl) (Weak.refl _ _ _) ?_
   first
     | (have hin : i = nodes.length := by omega
        subst hin
        refine ⟨?_, rfl⟩
        have e := splice_end (L := nodes.map zBF) (z := z) (q := zBF p)
        rw [hl] at e
        rw [e, map_ins, List.take_of_length_le (by omega), List.drop_of_length_le (by omega)])
     | (refine ⟨?_, rfl⟩
        rw [List.set_set, mid_ins (by omega) (by omega) (by simp; omega), map_ins]
        have e := splice_ins (L := nodes.map zBF) (z := z) (q := zBF p) (i := i) (by omega)
        rw [← e, show min 1 (nodes.length + 1 - i) = 1 by omega]
        rfl)
 · refine zBm ?_
   subst hY6
   refine zAF fun Y9 hY9 => ?_
   refine zAF fun Y10 hY10 => ?_
   refine zAG ?_
   try simp only [ew, hlt, ↓zAH, EVq, TY, zAE, ↓reduceIte, Nat.reduceLT, Nat.reduceLeDiff, Nat.reduceEqDiff, Nat.reduceAdd, Nat.reduceMul, Int.reduceLE, eq_self]
   refine zAD [0, 1, 2, 7, 8, 31] ?_
   simp only [KQ, ↓KP, ↓reduceIte, Nat.reduceEqDiff]
   subst hY10
   refine run_if_f (by simp only [↓zAR, ↓zAU, ↓zAd, ↓zAN, ↓reduceIte, Nat.reduceEqDiff] <;> rfl) ?_
   refine zBm ?_
   subst hY9
   refine zAF fun Y11 hY11 => ?_
   refine zAG ?_
   try simp only [hg, ew, Int.toNat_natCast, Int.toNat_zero, Nat.sub_zero, Nat.zero_add, ↓zAH, EVq, TY, zAE, ↓reduceIte, Nat.reduceLT, Nat.reduceLeDiff, Nat.reduceEqDiff, Nat.reduceAdd, Nat.reduceMul, Int.reduceLE, eq_self]
   refine zAk (by omega) ?_
   try simp only [hg, ew, Int.toNat_natCast, Int.toNat_zero, Nat.sub_zero, Nat.zero_add, ↓zAH, EVq, TY, zAE, ↓reduceIte, Nat.reduceLT, Nat.reduceLeDiff, Nat.reduceEqDiff, Nat.reduceAdd, Nat.reduceMul, Int.reduceLE, eq_self]
   refine zAD [0, 1, 2, 7, 8] ?_
   simp only [KQ, ↓KP, ↓reduceIte, Nat.reduceEqDiff]
   subst hY11
   refine zAF fun Y12 hY12 => ?_
   refine zAF fun Y13 hY13 => ?_
   refine zAG ?_
   try simp only [hg, hg2, ei, Int.toNat_natCast, Int.toNat_zero, Nat.sub_zero, Nat.zero_add, ↓zAH, EVq, TY, zAE, ↓reduceIte, Nat.reduceLT, Nat.reduceLeDiff, Nat.reduceEqDiff, Nat.reduceAdd, Nat.reduceMul, Int.reduceLE, eq_self]
   refine zAk (by omega) ?_
   try simp only [hg, hg2, ei, Int.toNat_natCast, Int.toNat_zero, Nat.sub_zero, Nat.zero_add, ↓zAH, EVq, TY, zAE, ↓reduceIte, Nat.reduceLT, Nat.reduceLeDiff, Nat.reduceEqDiff, Nat.reduceAdd, Nat.reduceMul, Int.reduceLE, eq_self]
   refine callS_ext (overlaps_ext (tS := 22) (tR := 4) (e := 71) (k := 2) ov0 (by kernel_rfl) (by kernel_rfl) ov1 ov2 el22 sz71 rfl rfl hg2 hg hne (by omega) (by decide) ?_)
   try simp only [hg, hg2, ei, Int.toNat_natCast, Int.toNat_zero, Nat.sub_zero, Nat.zero_add, ↓zAH, EVq, TY, zAE, ↓reduceIte, Nat.reduceLT, Nat.reduceLeDiff, Nat.reduceEqDiff, Nat.reduceAdd, Nat.reduceMul, Int.reduceLE, eq_self]
   refine zAD [0, 1, 2, 7, 8, 68] ?_
   simp only [KQ, ↓KP, ↓reduceIte, Nat.reduceEqDiff]
   subst hY13
   refine run_if_t (by simp only [↓zAR, ↓zAU, ↓zAd, ↓zAN, ↓reduceIte, Nat.reduceEqDiff] <;> rfl) ?_
   refine zAF fun Y14 hY14 => ?_
   refine run_draw [(.pure, 0), (.pure, 1), (.pure, 2), (.pure, 3), (.pure, 4), (.pure, 5), (.pure, 6), (.pure, 7), (.wr, 8)] mixed (by kernel_rfl) ?_
   try simp only [hg, hg2, ei, Int.toNat_natCast, Int.toNat_zero, Nat.sub_zero, Nat.zero_add, zBJ, zBY, zCo, ↓zAH, EVq, TY, zAE, ↓reduceIte, Nat.reduceLT, Nat.reduceLeDiff, Nat.reduceEqDiff, Nat.reduceAdd, Nat.reduceMul, Int.reduceLE, eq_self]
   refine zAk (by omega) ?_
   try simp only [hg, hg2, ei, Int.toNat_natCast, Int.toNat_zero, Nat.sub_zero, Nat.zero_add, zBJ, zBY, zCo, ↓zAH, EVq, TY, zAE, ↓reduceIte, Nat.reduceLT, Nat.reduceLeDiff, Nat.reduceEqDiff, Nat.reduceAdd, Nat.reduceMul, Int.reduceLE, eq_self]
   refine zAk (by omega) ?_
   try simp only [hg, hg2, ei, Int.toNat_natCast, Int.toNat_zero, Nat.sub_zero, Nat.zero_add, zBJ, zBY, zCo, ↓zAH, EVq, TY, zAE, ↓reduceIte, Nat.reduceLT, Nat.reduceLeDiff, Nat.reduceEqDiff, Nat.reduceAdd, Nat.reduceMul, Int.reduceLE, eq_self]
   refine zAk (by omega) ?_
   try simp only [hg, hg2, ei, Int.toNat_natCast, Int.toNat_zero, Nat.sub_zero, Nat.zero_add, zBJ, zBY, zCo, ↓zAH, EVq, TY, zAE, ↓reduceIte, Nat.reduceLT, Nat.reduceLeDiff, Nat.reduceEqDiff, Nat.reduceAdd, Nat.reduceMul, Int.reduceLE, eq_self]
   refine zAk (by omega) ?_
   try simp only [hg, hg2, ei, Int.toNat_natCast, Int.toNat_zero, Nat.sub_zero, Nat.zero_add, zBJ, zBY, zCo, ↓zAH, EVq, TY, zAE, ↓reduceIte, Nat.reduceLT, Nat.reduceLeDiff, Nat.reduceEqDiff, Nat.reduceAdd, Nat.reduceMul, Int.reduceLE, eq_self]
   refine zAD [0, 1, 2] ?_
   simp only [KQ, ↓KP, ↓reduceIte, Nat.reduceEqDiff]
   subst hY14
   refine zAF fun Y15 hY15 => ?_
   refine zAG ?_
   try simp only [q1, q2, Int.toNat_natCast, Int.toNat_zero, Nat.sub_zero, Nat.zero_add, ↓zAH, EVq, TY, zAE, ↓reduceIte, Nat.reduceLT, Nat.reduceLeDiff, Nat.reduceEqDiff, Nat.reduceAdd, Nat.reduceMul, Int.reduceLE, eq_self]
   refine zAk (by omega) ?_
   try simp only [q1, q2, Int.toNat_natCast, Int.toNat_zero, Nat.sub_zero, Nat.zero_add, ↓zAH, EVq, TY, zAE, ↓reduceIte, Nat.reduceLT, Nat.reduceLeDiff, Nat.reduceEqDiff, Nat.reduceAdd, Nat.reduceMul, Int.reduceLE, eq_self]
   refine zAk (by rw [splice_len (by simp; omega)]; omega) ?_
   try simp only [q1, q2, Int.toNat_natCast, Int.toNat_zero, Nat.sub_zero, Nat.zero_add, ↓zAH, EVq, TY, zAE, ↓reduceIte, Nat.reduceLT, Nat.reduceLeDiff, Nat.reduceEqDiff, Nat.reduceAdd, Nat.reduceMul, Int.reduceLE, eq_self]
   refine zAD [0] ?_
   simp only [KQ, ↓KP, ↓reduceIte, Nat.reduceEqDiff]
   subst hY15
   refine zAF fun Y16 hY16 => ?_
   refine zAG ?_
   try simp only [↓zAH, EVq, TY, zAE, ↓reduceIte, Nat.reduceLT, Nat.reduceLeDiff, Nat.reduceEqDiff, Nat.reduceAdd, Nat.reduceMul, Int.reduceLE, eq_self]
   refine zAD [6] ?_
   simp only [KQ, ↓KP, ↓reduceIte, Nat.reduceEqDiff]
   subst hY16
   refine zCh Try.func43 Try.results43 (by simp only [aRes, ↓zAR, ↓KP, KQ, ↓reduceIte, Nat.reduceEqDiff, zBb, TY] <;> rfl) (Weak.refl _ _ _) ?_
   first
     | (have hin : i = nodes.length := by omega
        subst hin
        refine ⟨?_, rfl⟩
        have e := splice_end (L := nodes.map zBF) (z := z) (q := zBF p)
        rw [hl] at e
        rw [e, map_ins, List.take_of_length_le (by omega), List.drop_of_length_le (by omega)])
     | (refine ⟨?_, rfl⟩
        rw [List.set_set, mid_ins (by omega) (by omega) (by simp; omega), map_ins]
        have e := splice_ins (L := nodes.map zBF) (z := z) (q := zBF p) (i := i) (by omega)
        rw [← e, show min 1 (nodes.length + 1 - i) = 1 by omega]
        rfl)
end Go.Proofs.Qd
namespace Go.Proofs.Qd
open Go Go.Ab
variable [Go.Ab.DM]
theorem shl_pow {a bits : Int} (ha : 0 ≤ a ∧ a ≤ 2) (hb : 0 ≤ bits ∧ bits ≤ 20) : shl a bits = a * 2 ^ bits.toNat := by
 unfold shl
 have h1 : min bits.toNat IntKind.i64.bits = bits.toNat := by simp [IntKind.bits]; omega
 rw [h1]
 have key : ∀ n : Fin 21, (2 : Int) ^ n.val ≤ 2 ^ 20 := by decide
 have h2 : (2 : Int) ^ bits.toNat ≤ 2 ^ 20 := key ⟨bits.toNat, by omega⟩
 have h3 : (0 : Int) ≤ 2 ^ bits.toNat := Int.pow_nonneg (by decide)
 have h4 : a * 2 ^ bits.toNat ≤ 2 * 2 ^ bits.toNat := Int.mul_le_mul_of_nonneg_right ha.2 h3
 have h5 : 0 ≤ a * 2 ^ bits.toNat := Int.mul_nonneg ha.1 h3
 exact zAp (by omega) (by omega)
structure Good (bits count th : Int) (before : Int) (nodes : List (Int × Int)) : Prop where
 low : ∀ k (h : k < nodes.length), before < nodes[k].1
 high : ∀ k (h : k < nodes.length), nodes[k].1 < shl 2 bits
 one : ∀ k (h : k < nodes.length), 1 ≤ nodes[k].2 ∧ nodes[k].2 ≤ count
 inner : ∀ k (h : k < nodes.length), nodes[k].1 < shl 1 bits → nodes[k].2 ≤ th
 asc : ∀ j k (hj : j < k) (hk : k < nodes.length), nodes[j].1 < nodes[k].1
theorem chk_good {bits count th : Int} : ∀ {nodes : List (Int × Int)} {before sum s : Int}, chk bits count th nodes before sum = some s → Good bits count th before nodes ∧ s = sum + (nodes.map (·.2)).sum
 | [], before, sum, s, h => by
   simp [chk] at h
   exact ⟨⟨by simp, by simp, by simp, by simp, by simp⟩, by simp [h]⟩
 | n :: r, before, sum, s, h => by
   rw [chk] at h
   split at h
   · simp at h
   split at h
   · simp at h
   rename_i h1 h2
   obtain ⟨g, hs⟩ := chk_good h
   refine ⟨⟨?_, ?_, ?_, ?_, ?_⟩, ?_⟩
   · intro k hk
     cases k with
     | zero => simp only [List.getElem_cons_zero]; omega
     | succ k => simp only [List.getElem_cons_succ]; have := g.low k (by simpa using hk); omega
   · intro k hk
     cases k with
     | zero => simp only [List.getElem_cons_zero]; omega
     | succ k => simp only [List.getElem_cons_succ]; exact g.high k (by simpa using hk)
   · intro k hk
     cases k with
     | zero => simp only [List.getElem_cons_zero]; omega
     | succ k => simp only [List.getElem_cons_succ]; exact g.one k (by simpa using hk)
   · intro k hk
     cases k with
     | zero => simp only [List.getElem_cons_zero]; omega
     | succ k => simp only [List.getElem_cons_succ]; exact g.inner k (by simpa using hk)
   · intro j k hj hk
     cases k with
     | zero => omega
     | succ k =>
       cases j with
       | zero => simp only [List.getElem_cons_zero, List.getElem_cons_succ]; exact g.low k (by simpa using hk)
       | succ j => simp only [List.getElem_cons_succ]; exact g.asc j k (by omega) (by simpa using hk)
   · rw [hs]; simp [Int.add_assoc]
theorem qcheck_good {bits k count : Int} {nodes : List (Int × Int)} (h : zBg bits k count nodes = 0) :
   (1 ≤ bits ∧ bits ≤ 20 ∧ 1 ≤ k ∧ k ≤ 10000 ∧ 0 ≤ count ∧ count ≤ 1099511627776 ∧ nodes.length ≤ 2000) ∧ Good bits count (thr count k) 0 nodes ∧ (nodes.map (·.2)).sum = count := by
 unfold zBg at h
 split at h
 · simp at h
 split at h
 · simp at h
 rename_i h1 h2
 split at h
 · rename_i s hs
   split at h
   · simp at h
   · rename_i h3
     obtain ⟨g, hg⟩ := chk_good hs
     exact ⟨by omega, g, by omega⟩
 · simp at h
def zeroDig (e : Int) : D := .tup [digD 0 0 0 [], iD e]
def bump (nodes : List (Int × Int)) (i : Nat) (n : Int) : List (Int × Int) := nodes.modify i fun p => (p.1, p.2 + n)
def zDW (bits k count : Int) (nodes : List (Int × Int)) (value n : Int) : D :=
 if zBg bits k count nodes ≠ 0 then zeroDig 1
 else if value < 0 ∨ shl 1 bits ≤ value ∨ n < 1 then zeroDig 2
 else if 1099511627776 - count < n then zeroDig 4
 else if fnd nodes (shl 1 bits + value) = true then .tup [digD bits k (count + n) (bump nodes (lb nodes (shl 1 bits + value)) n), iD 0]
 else if 2000 ≤ nodes.length then zeroDig 4
 else .tup [digD bits k (count + n) (insL nodes (lb nodes (shl 1 bits + value)) (shl 1 bits + value, n)), iD 0]
theorem zCJ : ∀ l : List (Int × Int), zAZ (l.map zBF) = true
 | [] => by simp [zAZ]
 | p :: l => by simp [zAZ, D.noref, zBF, zCJ l]
theorem lb_le (nodes : List (Int × Int)) (t : Int) : lb nodes t ≤ nodes.length := by unfold lb; exact (List.takeWhile_prefix _).length_le
theorem lb_lt {nodes : List (Int × Int)} {t : Int} (h : fnd nodes t = true) : lb nodes t < nodes.length := by
 simp only [fnd, List.any_eq_true, beq_iff_eq] at h
 obtain ⟨p, hp, rfl⟩ := h
 unfold lb
 induction nodes with
 | nil => simp at hp
 | cons q l ih =>
   by_cases hq : q.1 < p.1
   · rw [List.takeWhile_cons_of_pos (by simpa using hq)]
     rcases List.mem_cons.1 hp with rfl | hp
     · omega
     · have := ih hp; simpa using this
   · rw [List.takeWhile_cons_of_neg (by simpa using hq)]; simp
theorem splice_make {L : List D} {z : D} : zCC (List.replicate (L.length + 1) z) 0 L = L ++ [z] := by
 simp only [zCC, List.take_zero, List.nil_append, Nat.zero_add, List.drop_replicate]
 rw [show L.length + 1 - L.length = 1 by omega]; rfl
theorem shl_b {bits : Int} (h : 1 ≤ bits ∧ bits ≤ 20) : 2 ≤ shl 1 bits ∧ shl 1 bits ≤ 1048576 ∧ shl 2 bits = 2 * shl 1 bits := by
 rw [shl_pow (by omega) (by omega), shl_pow (by omega) (by omega)]
 have key : ∀ n : Fin 21, n.val ≠ 0 → (2 : Int) ≤ 2 ^ n.val ∧ (2 : Int) ^ n.val ≤ 1048576 := by decide
 have := key ⟨bits.toNat, by omega⟩ (by simp; omega)
 simp only at this
 omega
theorem bump_map {nodes : List (Int × Int)} {i : Nat} {n : Int} (h : i < nodes.length) (z : D) : (((nodes.map zBF ++ [z]).set i (.agg [iD nodes[i].1, iD (nodes[i].2 + n)])).drop 0).take nodes.length = (bump nodes i n).map zBF := by
 apply List.ext_getElem?
 intro j
 simp only [List.drop_zero, List.getElem?_take, bump, List.getElem?_map, List.getElem?_modify, List.getElem?_set, List.length_append, List.length_map]
 by_cases hj : j < nodes.length
 · rw [if_pos hj]
   by_cases hij : i = j
   · subst hij; simp [h, zBF]; omega
   · simp [hij, hj, List.getElem?_append_left]
 · rw [if_neg hj]; simp [List.getElem?_eq_none (show nodes.length ≤ j by omega)]
theorem norefs_iff : ∀ l : List D, zAZ l = true ↔ ∀ d ∈ l, d.noref = true
 | [] => by simp [zAZ]
 | d :: l => by rw [zAZ, Bool.and_eq_true, norefs_iff l]; simp
theorem norefs_bump (nodes : List (Int × Int)) (i : Nat) (a b : Int) : zAZ ((nodes.map zBF ++ [D.agg [iD 0, iD 0]]).set i (.agg [iD a, iD b])) = true := by
 rw [norefs_iff]
 intro d hd
 have hn := (norefs_iff _).1 (zCJ nodes)
 rcases List.mem_or_eq_of_mem_set hd with h | rfl
 · rcases List.mem_append.1 h with h | h
   · exact hn d h
   · simp at h; subst h; simp [D.noref, zAZ]
 · simp [D.noref, zAZ]
theorem zCt (b k c : Int) (l : List (Int × Int)) : leD (digD b k c l) (digD b k c l) := by
 simp only [leD, lesD, digD]; exact ⟨_, rfl, _, _, rfl, rfl, _, _, rfl, rfl, _, _, rfl, rfl, _, _, rfl, rfl, rfl⟩
theorem norefs_insl (nodes : List (Int × Int)) (i : Nat) (p : Int × Int) : zAZ ((insL nodes i p).map zBF) = true := zCJ _
end Go.Proofs.Qd
namespace Go.Proofs.Qd
open Go Go.Ab Go.Proofs.Ytfibkbmlgigemaa.AbT
variable [Go.Ab.DM]
set_option maxHeartbeats 4000000 in
theorem q_add (bits k count : Int) (nodes : List (Int × Int)) (value n : Int) (hn : nodes.length ≤ 100000000) (hv : -9223372036854775808 ≤ value ∧ value < 9223372036854775808) (hnn : -9223372036854775808 ≤ n ∧ n < 9223372036854775808) : Pure Try.prog 16 [.agg [iD bits, iD k, iD count, .fz 2 (nodes.map zBF)], iD value, iD n] (fun d => d = zDW bits k count nodes value n) := by
 refine zAa Try.func16 rfl (by kernel_rfl) Try.ntmps16 (by simp) ?_
 have hl : (nodes.map zBF).length = nodes.length := List.length_map ..
 have eshl : IntKind.i64.wrap (1 * 2 ^ min bits.toNat IntKind.i64.bits) = shl 1 bits := rfl
 have es := splice_make (L := nodes.map zBF) (z := .agg [iD 0, iD 0])
 rw [hl] at es
 refine zAF fun Y0 hY0 => ?_
 refine zAG ?_
 try simp only [↓zAH, EVq, TY, zAE, ↓reduceIte, Nat.reduceLT, Nat.reduceLeDiff, Nat.reduceEqDiff, Nat.reduceAdd, Nat.reduceMul, Int.reduceLE, eq_self]
 refine zAD [1, 2, 3, 6] ?_
 simp only [KQ, ↓KP, ↓reduceIte, Nat.reduceEqDiff]
 subst hY0
 refine zAF fun Y1 hY1 => ?_
 refine zAF fun Y2 hY2 => ?_
 refine zAG ?_
 try simp only [↓zAH, EVq, TY, zAE, ↓reduceIte, Nat.reduceLT, Nat.reduceLeDiff, Nat.reduceEqDiff, Nat.reduceAdd, Nat.reduceMul, Int.reduceLE, eq_self]
 refine zCp ((Go.Q.q_check bits k count nodes hn).frame (by simp [zAZ, D.noref]) _).sound (fun d Hx hd => ?_)
 obtain ⟨rfl, rfl⟩ := hd
 try simp only [↓zAH, EVq, TY, zAE, ↓reduceIte, Nat.reduceLT, Nat.reduceLeDiff, Nat.reduceEqDiff, Nat.reduceAdd, Nat.reduceMul, Int.reduceLE, eq_self]
 refine zAD [1, 2, 3, 6, 14] ?_
 simp only [KQ, ↓KP, ↓reduceIte, Nat.reduceEqDiff]
 subst hY2
 first | refine run_if (by simp only [↓zAR, ↓zAU, ↓zAd, ↓zAN, ↓reduceIte, Nat.reduceEqDiff] <;> rfl) (fun h14 => ?_) fun h14 => ?_ | refine zCF (by simp only [↓zAR, ↓zAU, ↓zAd, ↓zAN, ↓reduceIte, Nat.reduceEqDiff] <;> rfl) (fun h14 => ?_) fun h14 => ?_
 · refine zAF fun Y3 hY3 => ?_
   refine zAG ?_
   try simp only [↓zAH, EVq, TY, zAE, ↓reduceIte, Nat.reduceLT, Nat.reduceLeDiff, Nat.reduceEqDiff, Nat.reduceAdd, Nat.reduceMul, Int.reduceLE, eq_self]
   refine zAD [6, 7] ?_
   simp only [KQ, ↓KP, ↓reduceIte, Nat.reduceEqDiff]
   subst hY3
   refine zDU 3 Try.func16 Try.results16 (by simp only [aRes, ↓zAR, ↓KP, KQ, ↓reduceIte, Nat.reduceEqDiff, zBb, TY] <;> rfl) rfl (d'' := zDW bits k count nodes value n) ?_ rfl
   first
     | (rw [zDW, if_pos (by omega)]; exact zAb (zBh rfl) (zAv _ _))
     | (rw [zDW, if_neg (by omega), if_pos (by omega)]; exact zAb (zBh rfl) (zAv _ _))
     | (rw [zDW, if_neg (by omega), if_neg (by omega), if_pos (by omega)]; exact zAb (zBh rfl) (zAv _ _))
     | (rw [zDW, if_neg (by omega), if_neg (by omega), if_neg (by omega), if_pos h57]; exact zAb (zCt _ _ _ _) (zAv _ _))
     | (rw [zDW, if_neg (by omega), if_neg (by omega), if_neg (by omega), if_neg (by simp [h57]), if_pos (by omega)]; exact zAb (zBh rfl) (zAv _ _))
     | (rw [zDW, if_neg (by omega), if_neg (by omega), if_neg (by omega), if_neg (by simp [h57]), if_neg (by omega)]; exact zAb (zCt _ _ _ _) (zAv _ _))
 · refine zBm ?_
   subst hY1
   refine zAF fun Y4 hY4 => ?_
   refine zAF fun Y5 hY5 => ?_
   have hq0 : zBg bits k count nodes = 0 := by omega
   obtain ⟨⟨b1, b2, b3, b4, b5, b6, b7⟩, hgood, hsum⟩ := qcheck_good hq0
   obtain ⟨c1, c2, c3⟩ := shl_b ⟨b1, b2⟩
   refine zAG ?_
   try simp only [eshl, ↓zAH, EVq, TY, zAE, ↓reduceIte, Nat.reduceLT, Nat.reduceLeDiff, Nat.reduceEqDiff, Nat.reduceAdd, Nat.reduceMul, Int.reduceLE, eq_self]
   first | refine gK_n (fun h18 d18 => ?_) fun h18 d18 => ?_ | refine gK_b (fun h18 d18 => ?_) fun h18 d18 => ?_
   · try simp only [d18, eshl, ↓zAH, EVq, TY, zAE, ↓reduceIte, Nat.reduceLT, Nat.reduceLeDiff, Nat.reduceEqDiff, Nat.reduceAdd, Nat.reduceMul, Int.reduceLE, eq_self]
     refine zAk (by omega) ?_
     try simp only [d18, eshl, ↓zAH, EVq, TY, zAE, ↓reduceIte, Nat.reduceLT, Nat.reduceLeDiff, Nat.reduceEqDiff, Nat.reduceAdd, Nat.reduceMul, Int.reduceLE, eq_self]
     first | refine gK_n (fun h25 d25 => ?_) fun h25 d25 => ?_ | refine gK_b (fun h25 d25 => ?_) fun h25 d25 => ?_
     · try simp only [d18, d25, eshl, ↓zAH, EVq, TY, zAE, ↓reduceIte, Nat.reduceLT, Nat.reduceLeDiff, Nat.reduceEqDiff, Nat.reduceAdd, Nat.reduceMul, Int.reduceLE, eq_self]
       refine zAD [1, 2, 3, 6, 28] ?_
       simp only [KQ, ↓KP, ↓reduceIte, Nat.reduceEqDiff]
       subst hY5
       first | refine run_if (by simp only [↓zAR, ↓zAU, ↓zAd, ↓zAN, ↓reduceIte, Nat.reduceEqDiff] <;> rfl) (fun h28 => ?_) fun h28 => ?_ | refine zCF (by simp only [↓zAR, ↓zAU, ↓zAd, ↓zAN, ↓reduceIte, Nat.reduceEqDiff] <;> rfl) (fun h28 => ?_) fun h28 => ?_
       · refine zAF fun Y6 hY6 => ?_
         refine zAG ?_
         try simp only [↓zAH, EVq, TY, zAE, ↓reduceIte, Nat.reduceLT, Nat.reduceLeDiff, Nat.reduceEqDiff, Nat.reduceAdd, Nat.reduceMul, Int.reduceLE, eq_self]
         refine zAD [6, 7] ?_
         simp only [KQ, ↓KP, ↓reduceIte, Nat.reduceEqDiff]
         subst hY6
         refine zDU 3 Try.func16 Try.results16 (by simp only [aRes, ↓zAR, ↓KP, KQ, ↓reduceIte, Nat.reduceEqDiff, zBb, TY] <;> rfl) rfl (d'' := zDW bits k count nodes value n) ?_ rfl
         first
           | (rw [zDW, if_pos (by omega)]; exact zAb (zBh rfl) (zAv _ _))
           | (rw [zDW, if_neg (by omega), if_pos (by omega)]; exact zAb (zBh rfl) (zAv _ _))
           | (rw [zDW, if_neg (by omega), if_neg (by omega), if_pos (by omega)]; exact zAb (zBh rfl) (zAv _ _))
           | (rw [zDW, if_neg (by omega), if_neg (by omega), if_neg (by omega), if_pos h57]; exact zAb (zCt _ _ _ _) (zAv _ _))
           | (rw [zDW, if_neg (by omega), if_neg (by omega), if_neg (by omega), if_neg (by simp [h57]), if_pos (by omega)]; exact zAb (zBh rfl) (zAv _ _))
           | (rw [zDW, if_neg (by omega), if_neg (by omega), if_neg (by omega), if_neg (by simp [h57]), if_neg (by omega)]; exact zAb (zCt _ _ _ _) (zAv _ _))
       · refine zBm ?_
         subst hY4
         refine zAF fun Y7 hY7 => ?_
         refine zAF fun Y8 hY8 => ?_
         have e5 : IntKind.i64.wrap (1099511627776 - count) = 1099511627776 - count := zAp (by omega) (by omega)
         refine zAG ?_
         try simp only [e5, ↓zAH, EVq, TY, zAE, ↓reduceIte, Nat.reduceLT, Nat.reduceLeDiff, Nat.reduceEqDiff, Nat.reduceAdd, Nat.reduceMul, Int.reduceLE, eq_self]
         refine zAD [1, 2, 3, 6, 34] ?_
         simp only [KQ, ↓KP, ↓reduceIte, Nat.reduceEqDiff]
         subst hY8
         first | refine run_if (by simp only [↓zAR, ↓zAU, ↓zAd, ↓zAN, ↓reduceIte, Nat.reduceEqDiff] <;> rfl) (fun h34 => ?_) fun h34 => ?_ | refine zCF (by simp only [↓zAR, ↓zAU, ↓zAd, ↓zAN, ↓reduceIte, Nat.reduceEqDiff] <;> rfl) (fun h34 => ?_) fun h34 => ?_
         · refine zAF fun Y9 hY9 => ?_
           refine zAG ?_
           try simp only [↓zAH, EVq, TY, zAE, ↓reduceIte, Nat.reduceLT, Nat.reduceLeDiff, Nat.reduceEqDiff, Nat.reduceAdd, Nat.reduceMul, Int.reduceLE, eq_self]
           refine zAD [6, 7] ?_
           simp only [KQ, ↓KP, ↓reduceIte, Nat.reduceEqDiff]
           subst hY9
           refine zDU 3 Try.func16 Try.results16 (by simp only [aRes, ↓zAR, ↓KP, KQ, ↓reduceIte, Nat.reduceEqDiff, zBb, TY] <;> rfl) rfl (d'' := zDW bits k count nodes value n) ?_ rfl
           first
             | (rw [zDW, if_pos (by omega)]; exact zAb (zBh rfl) (zAv _ _))
             | (rw [zDW, if_neg (by omega), if_pos (by omega)]; exact zAb (zBh rfl) (zAv _ _))
             | (rw [zDW, if_neg (by omega), if_neg (by omega), if_pos (by omega)]; exact zAb (zBh rfl) (zAv _ _))
             | (rw [zDW, if_neg (by omega), if_neg (by omega), if_neg (by omega), if_pos h57]; exact zAb (zCt _ _ _ _) (zAv _ _))
             | (rw [zDW, if_neg (by omega), if_neg (by omega), if_neg (by omega), if_neg (by simp [h57]), if_pos (by omega)]; exact zAb (zBh rfl) (zAv _ _))
             | (rw [zDW, if_neg (by omega), if_neg (by omega), if_neg (by omega), if_neg (by simp [h57]), if_neg (by omega)]; exact zAb (zCt _ _ _ _) (zAv _ _))
         · refine zBm ?_
           subst hY7
           refine zAF fun Y10 hY10 => ?_
           have e7 : IntKind.i64.wrap (shl 1 bits + value) = shl 1 bits + value := zAp (by omega) (by omega)
           refine zAG ?_
           try simp only [eshl, e7, ↓zAH, EVq, TY, zAE, ↓reduceIte, Nat.reduceLT, Nat.reduceLeDiff, Nat.reduceEqDiff, Nat.reduceAdd, Nat.reduceMul, Int.reduceLE, eq_self]
           refine zAk (by omega) ?_
           try simp only [eshl, e7, ↓zAH, EVq, TY, zAE, ↓reduceIte, Nat.reduceLT, Nat.reduceLeDiff, Nat.reduceEqDiff, Nat.reduceAdd, Nat.reduceMul, Int.reduceLE, eq_self]
           refine zAD [2, 3, 6, 8] ?_
           simp only [KQ, ↓KP, ↓reduceIte, Nat.reduceEqDiff]
           subst hY10
           refine zAF fun Y11 hY11 => ?_
           refine zAG ?_
           try simp only [↓zAH, EVq, TY, zAE, ↓reduceIte, Nat.reduceLT, Nat.reduceLeDiff, Nat.reduceEqDiff, Nat.reduceAdd, Nat.reduceMul, Int.reduceLE, eq_self]
           refine zCp ((q_bs nodes (shl 1 bits + value) hn (by omega) (fun k h => by have h1 := hgood.low k h; have h2 := hgood.high k h; omega) hgood.asc).frame (by simp [zAZ, D.noref]) _).sound (fun d Hx hd => ?_)
           obtain ⟨rfl, rfl⟩ := hd
           try simp only [↓zAH, EVq, TY, zAE, ↓reduceIte, Nat.reduceLT, Nat.reduceLeDiff, Nat.reduceEqDiff, Nat.reduceAdd, Nat.reduceMul, Int.reduceLE, eq_self]
           refine zAD [2, 3, 6, 8, 9, 10] ?_
           simp only [KQ, ↓KP, ↓reduceIte, Nat.reduceEqDiff]
           subst hY11
           refine zAF fun Y12 hY12 => ?_
           have e9 : IntKind.i64.wrap ((nodes.length : Int) + 1) = ((nodes.length + 1 : Nat) : Int) := by rw [zAp (by omega) (by omega)]; omega
           refine zAG ?_
           try simp only [hl, e9, ↓zAH, EVq, TY, zAE, ↓reduceIte, Nat.reduceLT, Nat.reduceLeDiff, Nat.reduceEqDiff, Nat.reduceAdd, Nat.reduceMul, Int.reduceLE, eq_self]
           refine zAk (by omega) ?_
           refine orK_l ?_
           try simp only [hl, e9, ↓zAH, EVq, TY, zAE, ↓reduceIte, Nat.reduceLT, Nat.reduceLeDiff, Nat.reduceEqDiff, Nat.reduceAdd, Nat.reduceMul, Int.reduceLE, eq_self]
           refine zAD [2, 3, 6, 8, 9, 10, 11] ?_
           simp only [KQ, ↓KP, ↓reduceIte, Nat.reduceEqDiff]
           subst hY12
           refine zAF fun Y13 hY13 => ?_
           refine zAG ?_
           try simp only [Int.toNat_natCast, Int.toNat_zero, Nat.sub_zero, Nat.zero_add, es, hl, ↓zAH, EVq, TY, zAE, ↓reduceIte, Nat.reduceLT, Nat.reduceLeDiff, Nat.reduceEqDiff, Nat.reduceAdd, Nat.reduceMul, Int.reduceLE, eq_self]
           refine zAk (by simp) ?_
           try simp only [Int.toNat_natCast, Int.toNat_zero, Nat.sub_zero, Nat.zero_add, es, hl, ↓zAH, EVq, TY, zAE, ↓reduceIte, Nat.reduceLT, Nat.reduceLeDiff, Nat.reduceEqDiff, Nat.reduceAdd, Nat.reduceMul, Int.reduceLE, eq_self]
           refine zAD [2, 3, 6, 8, 9, 10, 11] ?_
           simp only [KQ, ↓KP, ↓reduceIte, Nat.reduceEqDiff]
           subst hY13
           refine zAF fun Y14 hY14 => ?_
           refine zAF fun Y15 hY15 => ?_
           refine zAG ?_
           try simp only [↓zAH, EVq, TY, zAE, ↓reduceIte, Nat.reduceLT, Nat.reduceLeDiff, Nat.reduceEqDiff, Nat.reduceAdd, Nat.reduceMul, Int.reduceLE, eq_self]
           refine zAD [2, 3, 6, 8, 9, 11, 57] ?_
           simp only [KQ, ↓KP, ↓reduceIte, Nat.reduceEqDiff]
           subst hY15
           first | refine run_if (by simp only [↓zAR, ↓zAU, ↓zAd, ↓zAN, ↓reduceIte, Nat.reduceEqDiff] <;> rfl) (fun h57 => ?_) fun h57 => ?_ | refine zCF (by simp only [↓zAR, ↓zAU, ↓zAd, ↓zAN, ↓reduceIte, Nat.reduceEqDiff] <;> rfl) (fun h57 => ?_) fun h57 => ?_
           · have hlb := lb_lt h57
             have eg : (nodes.map zBF ++ [D.agg [iD 0, iD 0]])[lb nodes (shl 1 bits + value)]? = some (.agg [iD nodes[lb nodes (shl 1 bits + value)].1, iD nodes[lb nodes (shl 1 bits + value)].2]) := by
               rw [List.getElem?_append_left (by omega)]; simp [hlb, zBF]
             have hone := hgood.one _ hlb
             have e12 : IntKind.i64.wrap (nodes[lb nodes (shl 1 bits + value)].2 + n) = nodes[lb nodes (shl 1 bits + value)].2 + n := zAp (by omega) (by omega)
             refine zAG ?_
             try simp only [Int.toNat_natCast, Int.toNat_zero, Nat.sub_zero, Nat.zero_add, es, hl, eg, e12, ↓zAH, EVq, TY, zAE, ↓reduceIte, Nat.reduceLT, Nat.reduceLeDiff, Nat.reduceEqDiff, Nat.reduceAdd, Nat.reduceMul, Int.reduceLE, eq_self]
             refine zAk (by omega) ?_
             try simp only [Int.toNat_natCast, Int.toNat_zero, Nat.sub_zero, Nat.zero_add, es, hl, eg, e12, ↓zAH, EVq, TY, zAE, ↓reduceIte, Nat.reduceLT, Nat.reduceLeDiff, Nat.reduceEqDiff, Nat.reduceAdd, Nat.reduceMul, Int.reduceLE, eq_self]
             refine zAk (by omega) ?_
             try simp only [Int.toNat_natCast, Int.toNat_zero, Nat.sub_zero, Nat.zero_add, es, hl, eg, e12, ↓zAH, EVq, TY, zAE, ↓reduceIte, Nat.reduceLT, Nat.reduceLeDiff, Nat.reduceEqDiff, Nat.reduceAdd, Nat.reduceMul, Int.reduceLE, eq_self]
             refine zAD [2, 3, 6, 11] ?_
             simp only [KQ, ↓KP, ↓reduceIte, Nat.reduceEqDiff]
             subst hY14
             refine zAF fun Y16 hY16 => ?_
             have e16 : IntKind.i64.wrap (count + n) = count + n := zAp (by omega) (by omega)
             first
               | refine Go.Ab.run_freeze (s := 11) (r := 2) (i := 0) (m := nodes.length) (k := 2) (xs := (nodes.map zBF ++ [D.agg [iD 0, iD 0]]).set (lb nodes (shl 1 bits + value)) (.agg [iD nodes[lb nodes (shl 1 bits + value)].1, iD (nodes[lb nodes (shl 1 bits + value)].2 + n)])) (by simp only [↓zAN, ↓reduceIte, Nat.reduceEqDiff, wk_slc, Int.toNat_natCast, Int.toNat_zero, Nat.sub_zero, Nat.zero_add, es, hl]) (by simp only [get_cons_zero, get_cons_succ, Int.toNat_natCast, Int.toNat_zero, Nat.sub_zero, Nat.zero_add, es, hl, e12]) (by simp) (norefs_bump _ _ _ _) ?_
                 rw [bump_map hlb]
               | refine Go.Ab.run_freeze (s := 11) (r := 2) (i := 0) (m := nodes.length + 1) (k := 2) (xs := (insL nodes (lb nodes (shl 1 bits + value)) (shl 1 bits + value, n)).map zBF) rfl rfl (by simp [insL]; omega) (norefs_insl _ _ _) ?_
                 rw [show (List.drop 0 ((insL nodes (lb nodes (shl 1 bits + value)) (shl 1 bits + value, n)).map zBF)).take (nodes.length + 1) = (insL nodes (lb nodes (shl 1 bits + value)) (shl 1 bits + value, n)).map zBF by rw [List.drop_zero]; exact List.take_of_length_le (by simp [insL]; omega)]
             refine zAG ?_
             try simp only [e16, ↓zAH, EVq, TY, zAE, ↓reduceIte, Nat.reduceLT, Nat.reduceLeDiff, Nat.reduceEqDiff, Nat.reduceAdd, Nat.reduceMul, Int.reduceLE, eq_self]
             refine zAD [6, 7] ?_
             simp only [KQ, ↓KP, ↓reduceIte, Nat.reduceEqDiff]
             subst hY16
             refine zDU 3 Try.func16 Try.results16 (by simp only [aRes, ↓zAR, ↓KP, KQ, ↓reduceIte, Nat.reduceEqDiff, zBb, TY] <;> rfl) rfl (d'' := zDW bits k count nodes value n) ?_ rfl
             first
               | (rw [zDW, if_pos (by omega)]; exact zAb (zBh rfl) (zAv _ _))
               | (rw [zDW, if_neg (by omega), if_pos (by omega)]; exact zAb (zBh rfl) (zAv _ _))
               | (rw [zDW, if_neg (by omega), if_neg (by omega), if_pos (by omega)]; exact zAb (zBh rfl) (zAv _ _))
               | (rw [zDW, if_neg (by omega), if_neg (by omega), if_neg (by omega), if_pos h57]; exact zAb (zCt _ _ _ _) (zAv _ _))
               | (rw [zDW, if_neg (by omega), if_neg (by omega), if_neg (by omega), if_neg (by simp [h57]), if_pos (by omega)]; exact zAb (zBh rfl) (zAv _ _))
               | (rw [zDW, if_neg (by omega), if_neg (by omega), if_neg (by omega), if_neg (by simp [h57]), if_neg (by omega)]; exact zAb (zCt _ _ _ _) (zAv _ _))
           · refine zAF fun Y17 hY17 => ?_
             refine zAF fun Y18 hY18 => ?_
             refine zAG ?_
             try simp only [Int.toNat_natCast, Int.toNat_zero, Nat.sub_zero, Nat.zero_add, es, hl, ↓zAH, EVq, TY, zAE, ↓reduceIte, Nat.reduceLT, Nat.reduceLeDiff, Nat.reduceEqDiff, Nat.reduceAdd, Nat.reduceMul, Int.reduceLE, eq_self]
             refine zAD [2, 3, 6, 8, 9, 11, 69] ?_
             simp only [KQ, ↓KP, ↓reduceIte, Nat.reduceEqDiff]
             subst hY18
             first | refine run_if (by simp only [↓zAR, ↓zAU, ↓zAd, ↓zAN, ↓reduceIte, Nat.reduceEqDiff] <;> rfl) (fun h69 => ?_) fun h69 => ?_ | refine zCF (by simp only [↓zAR, ↓zAU, ↓zAd, ↓zAN, ↓reduceIte, Nat.reduceEqDiff] <;> rfl) (fun h69 => ?_) fun h69 => ?_
             · refine zAF fun Y19 hY19 => ?_
               refine zAG ?_
               try simp only [↓zAH, EVq, TY, zAE, ↓reduceIte, Nat.reduceLT, Nat.reduceLeDiff, Nat.reduceEqDiff, Nat.reduceAdd, Nat.reduceMul, Int.reduceLE, eq_self]
               refine zAD [6, 7] ?_
               simp only [KQ, ↓KP, ↓reduceIte, Nat.reduceEqDiff]
               subst hY19
               refine zDU 3 Try.func16 Try.results16 (by simp only [aRes, ↓zAR, ↓KP, KQ, ↓reduceIte, Nat.reduceEqDiff, zBb, TY] <;> rfl) rfl (d'' := zDW bits k count nodes value n) ?_ rfl
               first
                 | (rw [zDW, if_pos (by omega)]; exact zAb (zBh rfl) (zAv _ _))
                 | (rw [zDW, if_neg (by omega), if_pos (by omega)]; exact zAb (zBh rfl) (zAv _ _))
                 | (rw [zDW, if_neg (by omega), if_neg (by omega), if_pos (by omega)]; exact zAb (zBh rfl) (zAv _ _))
                 | (rw [zDW, if_neg (by omega), if_neg (by omega), if_neg (by omega), if_pos h57]; exact zAb (zCt _ _ _ _) (zAv _ _))
                 | (rw [zDW, if_neg (by omega), if_neg (by omega), if_neg (by omega), if_neg (by simp [h57]), if_pos (by omega)]; exact zAb (zBh rfl) (zAv _ _))
                 | (rw [zDW, if_neg (by omega), if_neg (by omega), if_neg (by omega), if_neg (by simp [h57]), if_neg (by omega)]; exact zAb (zCt _ _ _ _) (zAv _ _))
             · refine zBm ?_
               subst hY17
               refine zAG ?_
               try simp only [Int.toNat_natCast, Int.toNat_zero, Nat.sub_zero, Nat.zero_add, es, hl, ↓zAH, EVq, TY, zAE, ↓reduceIte, Nat.reduceLT, Nat.reduceLeDiff, Nat.reduceEqDiff, Nat.reduceAdd, Nat.reduceMul, Int.reduceLE, eq_self]
               try refine zAk (by first | rfl | decide | exact ⟨rfl, by decide, rfl⟩) ?_
               try simp only [Int.toNat_natCast, Int.toNat_zero, Nat.sub_zero, Nat.zero_add, es, hl, ↓zAH, EVq, TY, zAE, ↓reduceIte, Nat.reduceLT, Nat.reduceLeDiff, Nat.reduceEqDiff, Nat.reduceAdd, Nat.reduceMul, Int.reduceLE, eq_self]
               refine zCp (q_insert _ 2 3 (lb nodes (shl 1 bits + value)) nodes (shl 1 bits + value, n) (.agg [iD 0, iD 0]) rfl rfl (by decide) (lb_le _ _) (by omega)) (fun d Hx hd => ?_)
               obtain ⟨rfl, rfl⟩ := hd
               try simp only [Int.toNat_natCast, Int.toNat_zero, Nat.sub_zero, Nat.zero_add, es, hl, ↓zAH, EVq, TY, zAE, ↓reduceIte, Nat.reduceLT, Nat.reduceLeDiff, Nat.reduceEqDiff, Nat.reduceAdd, Nat.reduceMul, Int.reduceLE, eq_self]
               refine zAD [2, 3, 6, 11] ?_
               simp only [KQ, ↓KP, ↓reduceIte, Nat.reduceEqDiff]
               subst hY14
               refine zAF fun Y20 hY20 => ?_
               have e16 : IntKind.i64.wrap (count + n) = count + n := zAp (by omega) (by omega)
               first
                 | refine Go.Ab.run_freeze (s := 11) (r := 2) (i := 0) (m := nodes.length) (k := 2) (xs := (nodes.map zBF ++ [D.agg [iD 0, iD 0]]).set (lb nodes (shl 1 bits + value)) (.agg [iD nodes[lb nodes (shl 1 bits + value)].1, iD (nodes[lb nodes (shl 1 bits + value)].2 + n)])) (by simp only [↓zAN, ↓reduceIte, Nat.reduceEqDiff, wk_slc, Int.toNat_natCast, Int.toNat_zero, Nat.sub_zero, Nat.zero_add, es, hl]) (by simp only [get_cons_zero, get_cons_succ, Int.toNat_natCast, Int.toNat_zero, Nat.sub_zero, Nat.zero_add, es, hl, e12]) (by simp) (norefs_bump _ _ _ _) ?_
                   rw [bump_map hlb]
                 | refine Go.Ab.run_freeze (s := 11) (r := 2) (i := 0) (m := nodes.length + 1) (k := 2) (xs := (insL nodes (lb nodes (shl 1 bits + value)) (shl 1 bits + value, n)).map zBF) rfl rfl (by simp [insL]; omega) (norefs_insl _ _ _) ?_
                   rw [show (List.drop 0 ((insL nodes (lb nodes (shl 1 bits + value)) (shl 1 bits + value, n)).map zBF)).take (nodes.length + 1) = (insL nodes (lb nodes (shl 1 bits + value)) (shl 1 bits + value, n)).map zBF by rw [List.drop_zero]; exact List.take_of_length_le (by simp [insL]; omega)]
               refine zAG ?_
               try simp only [e16, ↓zAH, EVq, TY, zAE, ↓reduceIte, Nat.reduceLT, Nat.reduceLeDiff, Nat.reduceEqDiff, Nat.reduceAdd, Nat.reduceMul, Int.reduceLE, eq_self]
               refine zAD [6, 7] ?_
               simp only [KQ, ↓KP, ↓reduceIte, Nat.reduceEqDiff]
               subst hY20
               refine zDU 3 Try.func16 Try.results16 (by simp only [aRes, ↓zAR, ↓KP, KQ, ↓reduceIte, Nat.reduceEqDiff, zBb, TY] <;> rfl) rfl (d'' := zDW bits k count nodes value n) ?_ rfl
               first
                 | (rw [zDW, if_pos (by omega)]; exact zAb (zBh rfl) (zAv _ _))
                 | (rw [zDW, if_neg (by omega), if_pos (by omega)]; exact zAb (zBh rfl) (zAv _ _))
                 | (rw [zDW, if_neg (by omega), if_neg (by omega), if_pos (by omega)]; exact zAb (zBh rfl) (zAv _ _))
                 | (rw [zDW, if_neg (by omega), if_neg (by omega), if_neg (by omega), if_pos h57]; exact zAb (zCt _ _ _ _) (zAv _ _))
                 | (rw [zDW, if_neg (by omega), if_neg (by omega), if_neg (by omega), if_neg (by simp [h57]), if_pos (by omega)]; exact zAb (zBh rfl) (zAv _ _))
                 | (rw [zDW, if_neg (by omega), if_neg (by omega), if_neg (by omega), if_neg (by simp [h57]), if_neg (by omega)]; exact zAb (zCt _ _ _ _) (zAv _ _))
     · try simp only [d18, d25, eshl, ↓zAH, EVq, TY, zAE, ↓reduceIte, Nat.reduceLT, Nat.reduceLeDiff, Nat.reduceEqDiff, Nat.reduceAdd, Nat.reduceMul, Int.reduceLE, eq_self]
       refine zAD [1, 2, 3, 6, 28] ?_
       simp only [KQ, ↓KP, ↓reduceIte, Nat.reduceEqDiff]
       subst hY5
       refine run_if_t (by simp only [↓zAR, ↓zAU, ↓zAd, ↓zAN, ↓reduceIte, Nat.reduceEqDiff] <;> rfl) ?_
       refine zAF fun Y21 hY21 => ?_
       refine zAG ?_
       try simp only [↓zAH, EVq, TY, zAE, ↓reduceIte, Nat.reduceLT, Nat.reduceLeDiff, Nat.reduceEqDiff, Nat.reduceAdd, Nat.reduceMul, Int.reduceLE, eq_self]
       refine zAD [6, 7] ?_
       simp only [KQ, ↓KP, ↓reduceIte, Nat.reduceEqDiff]
       subst hY21
       refine zDU 3 Try.func16 Try.results16 (by simp only [aRes, ↓zAR, ↓KP, KQ, ↓reduceIte, Nat.reduceEqDiff, zBb, TY] <;> rfl) rfl (d'' := zDW bits k count nodes value n) ?_ rfl
       first
         | (rw [zDW, if_pos (by omega)]; exact zAb (zBh rfl) (zAv _ _))
         | (rw [zDW, if_neg (by omega), if_pos (by omega)]; exact zAb (zBh rfl) (zAv _ _))
         | (rw [zDW, if_neg (by omega), if_neg (by omega), if_pos (by omega)]; exact zAb (zBh rfl) (zAv _ _))
         | (rw [zDW, if_neg (by omega), if_neg (by omega), if_neg (by omega), if_pos h57]; exact zAb (zCt _ _ _ _) (zAv _ _))
         | (rw [zDW, if_neg (by omega), if_neg (by omega), if_neg (by omega), if_neg (by simp [h57]), if_pos (by omega)]; exact zAb (zBh rfl) (zAv _ _))
         | (rw [zDW, if_neg (by omega), if_neg (by omega), if_neg (by omega), if_neg (by simp [h57]), if_neg (by omega)]; exact zAb (zCt _ _ _ _) (zAv _ _))
   · try simp only [d18, eshl, ↓zAH, EVq, TY, zAE, ↓reduceIte, Nat.reduceLT, Nat.reduceLeDiff, Nat.reduceEqDiff, Nat.reduceAdd, Nat.reduceMul, Int.reduceLE, eq_self]
     refine zAD [1, 2, 3, 6, 28] ?_
     simp only [KQ, ↓KP, ↓reduceIte, Nat.reduceEqDiff]
     subst hY5
     refine run_if_t (by simp only [↓zAR, ↓zAU, ↓zAd, ↓zAN, ↓reduceIte, Nat.reduceEqDiff] <;> rfl) ?_
     refine zAF fun Y22 hY22 => ?_
     refine zAG ?_
     try simp only [↓zAH, EVq, TY, zAE, ↓reduceIte, Nat.reduceLT, Nat.reduceLeDiff, Nat.reduceEqDiff, Nat.reduceAdd, Nat.reduceMul, Int.reduceLE, eq_self]
     refine zAD [6, 7] ?_
     simp only [KQ, ↓KP, ↓reduceIte, Nat.reduceEqDiff]
     subst hY22
     refine zDU 3 Try.func16 Try.results16 (by simp only [aRes, ↓zAR, ↓KP, KQ, ↓reduceIte, Nat.reduceEqDiff, zBb, TY] <;> rfl) rfl (d'' := zDW bits k count nodes value n) ?_ rfl
     first
       | (rw [zDW, if_pos (by omega)]; exact zAb (zBh rfl) (zAv _ _))
       | (rw [zDW, if_neg (by omega), if_pos (by omega)]; exact zAb (zBh rfl) (zAv _ _))
       | (rw [zDW, if_neg (by omega), if_neg (by omega), if_pos (by omega)]; exact zAb (zBh rfl) (zAv _ _))
       | (rw [zDW, if_neg (by omega), if_neg (by omega), if_neg (by omega), if_pos h57]; exact zAb (zCt _ _ _ _) (zAv _ _))
       | (rw [zDW, if_neg (by omega), if_neg (by omega), if_neg (by omega), if_neg (by simp [h57]), if_pos (by omega)]; exact zAb (zBh rfl) (zAv _ _))
       | (rw [zDW, if_neg (by omega), if_neg (by omega), if_neg (by omega), if_neg (by simp [h57]), if_neg (by omega)]; exact zAb (zCt _ _ _ _) (zAv _ _))
end Go.Proofs.Qd
namespace Go.Proofs.Qd
open Go Go.Ab Go.Proofs.Ytfibkbmlgigemaa.AbT
variable [Go.Ab.DM]
def tab8 : ByteArray := ⟨#[0, 1, 2, 2, 3, 3, 3, 3, 4, 4, 4, 4, 4, 4, 4, 4, 5, 5, 5, 5, 5, 5, 5, 5, 5, 5, 5, 5, 5, 5, 5, 5, 6, 6, 6, 6, 6, 6, 6, 6, 6, 6, 6, 6, 6, 6, 6, 6, 6, 6, 6, 6, 6, 6, 6, 6, 6, 6, 6, 6, 6, 6, 6, 6, 7, 7, 7, 7, 7, 7, 7, 7, 7, 7, 7, 7, 7, 7, 7, 7, 7, 7, 7, 7, 7, 7, 7, 7, 7, 7, 7, 7, 7, 7, 7, 7, 7, 7, 7, 7, 7, 7, 7, 7, 7, 7, 7, 7, 7, 7, 7, 7, 7, 7, 7, 7, 7, 7, 7, 7, 7, 7, 7, 7, 7, 7, 7, 7, 8, 8, 8, 8, 8, 8, 8, 8, 8, 8, 8, 8, 8, 8, 8, 8, 8, 8, 8, 8, 8, 8, 8, 8, 8, 8, 8, 8, 8, 8, 8, 8, 8, 8, 8, 8, 8, 8, 8, 8, 8, 8, 8, 8, 8, 8, 8, 8, 8, 8, 8, 8, 8, 8, 8, 8, 8, 8, 8, 8, 8, 8, 8, 8, 8, 8, 8, 8, 8, 8, 8, 8, 8, 8, 8, 8, 8, 8, 8, 8, 8, 8, 8, 8, 8, 8, 8, 8, 8, 8, 8, 8, 8, 8, 8, 8, 8, 8, 8, 8, 8, 8, 8, 8, 8, 8, 8, 8, 8, 8, 8, 8, 8, 8, 8, 8, 8, 8, 8, 8, 8, 8, 8, 8, 8, 8, 8, 8]⟩
def blen (x : Nat) : Nat := if x = 0 then 0 else Nat.log2 x + 1
theorem tab8_at : ∀ j : Fin 256, (tab8.get! j.val).toNat = blen j.val := by decide +kernel
theorem blen_shr {x : Nat} (k : Nat) (h : 2 ^ k ≤ x) : blen (x / 2 ^ k) + k = blen x := by
 have h0 : x ≠ 0 := by have := Nat.two_pow_pos k; omega
 have h1 : x / 2 ^ k ≠ 0 := by have := Nat.div_pos h (Nat.two_pow_pos k); omega
 unfold blen
 rw [if_neg h0, if_neg h1]
 have : Nat.log2 (x / 2 ^ k) + k = Nat.log2 x := by
   have ha : 2 ^ (Nat.log2 (x / 2 ^ k)) ≤ x / 2 ^ k := Nat.log2_self_le h1
   have hb : x / 2 ^ k < 2 ^ (Nat.log2 (x / 2 ^ k) + 1) := Nat.lt_log2_self
   symm
   rw [Nat.log2_eq_iff h0]
   constructor
   · rw [Nat.pow_add]; exact (Nat.le_div_iff_mul_le (Nat.two_pow_pos k)).1 ha
   · have := (Nat.div_lt_iff_lt_mul (Nat.two_pow_pos k)).1 hb
     rw [← Nat.pow_add] at this
     rw [show Nat.log2 (x / 2 ^ k) + k + 1 = Nat.log2 (x / 2 ^ k) + 1 + k by omega]; exact this
 omega
theorem u8w {y : Nat} (h : y < 256) : IntKind.u8.wrap (y : Int) = (y : Int) := by simp [IntKind.wrap, IntKind.signed, IntKind.bits]; omega
theorem fin8 {a : Int} {y : Nat} (ha : 0 ≤ a ∧ a ≤ 64) (h : y < 256) : IntKind.i64.wrap (a + IntKind.i64.wrap ((tab8.get! (IntKind.u8.wrap (y : Int)).toNat).toNat : Int)) = a + blen y := by
 rw [u8w h, Int.toNat_natCast, tab8_at ⟨y, h⟩]
 have : blen y ≤ 64 := by
   unfold blen
   split
   · omega
   · have := Nat.log2_lt (k := 8) (by omega : y ≠ 0) |>.2 h; omega
 rw [zAp (x := (blen y : Int)) (by omega) (by omega), zAp (by omega) (by omega)]
theorem fd {k m : Nat} (hm : m = 2 ^ min k IntKind.u64.bits) (hp : 0 < m) (y : Nat) : Int.fdiv (y : Int) (2 ^ min k IntKind.u64.bits) = ((y / m : Nat) : Int) := by
 have : (2 : Int) ^ min k IntKind.u64.bits = (m : Int) := by rw [hm]; simp
 rw [this, Int.fdiv_eq_ediv_of_nonneg _ (by omega)]; simp
end Go.Proofs.Qd
namespace Go.Proofs.Qd
open Go Go.Ab Go.Proofs.Ytfibkbmlgigemaa.AbT
variable [Go.Ab.DM]
set_option maxHeartbeats 2000000 in
theorem q_clone (H : Heap) (xs : List D) (hn : xs.length ≤ 100000000) : Sound Try.prog 79 [.fz 2 xs] H (fun d H' => (d = .v (.slice none 0 0) ∧ xs = [] ∧ H' = H) ∨ (d = .sl (H.length + 1) 0 xs.length ∧ H' = H ++ [none, some (.cells 2 xs)])) := by
 refine zAa Try.func79 rfl (by kernel_rfl) Try.ntmps79 (by simp) ?_
 have q1 : ∀ X, Heap.get (H ++ [X]) H.length = X := fun X => get_push_self H X
 refine zAF fun Y0 hY0 => ?_
 refine zAG ?_
 try simp only [↓zAH, EVq, TY, zAE, ↓reduceIte, Nat.reduceLT, Nat.reduceLeDiff, Nat.reduceEqDiff, Nat.reduceAdd, Nat.reduceMul, Int.reduceLE, eq_self]
 refine zAD [0] ?_
 simp only [KQ, ↓KP, ↓reduceIte, Nat.reduceEqDiff]
 subst hY0
 refine zAF fun Y1 hY1 => ?_
 refine zAF fun Y2 hY2 => ?_
 refine zAG ?_
 try simp only [↓zAH, EVq, TY, zAE, ↓reduceIte, Nat.reduceLT, Nat.reduceLeDiff, Nat.reduceEqDiff, Nat.reduceAdd, Nat.reduceMul, Int.reduceLE, eq_self]
 refine allK_mk fun b4 hb4 => ?_
 try simp only [↓zAH, EVq, TY, zAE, ↓reduceIte, Nat.reduceLT, Nat.reduceLeDiff, Nat.reduceEqDiff, Nat.reduceAdd, Nat.reduceMul, Int.reduceLE, eq_self]
 refine zAD [0, 4] ?_
 simp only [KQ, ↓KP, ↓reduceIte, Nat.reduceEqDiff]
 subst hY2
 first | refine run_if (by simp only [↓zAR, ↓zAU, ↓zAd, ↓zAN, ↓reduceIte, Nat.reduceEqDiff] <;> rfl) (fun h4 => ?_) fun h4 => ?_ | refine zCF (by simp only [↓zAR, ↓zAU, ↓zAd, ↓zAN, ↓reduceIte, Nat.reduceEqDiff] <;> rfl) (fun h4 => ?_) fun h4 => ?_
 · refine zAF fun Y3 hY3 => ?_
   refine zAG ?_
   try simp only [↓zAH, EVq, TY, zAE, ↓reduceIte, Nat.reduceLT, Nat.reduceLeDiff, Nat.reduceEqDiff, Nat.reduceAdd, Nat.reduceMul, Int.reduceLE, eq_self]
   refine zAD [2] ?_
   simp only [KQ, ↓KP, ↓reduceIte, Nat.reduceEqDiff]
   subst hY3
   refine zCh Try.func79 Try.results79 (by simp only [aRes, ↓zAR, ↓KP, KQ, ↓reduceIte, Nat.reduceEqDiff, zBb, TY] <;> rfl) (Weak.refl _ _ _) ?_
   first
     | exact .inl ⟨rfl, hb4 (by assumption), rfl⟩
     | (refine .inr ⟨?_, ?_⟩
        · simp [retD]
        · rw [List.set_append_right _ _ (by simp)]; simp)
 · refine zBm ?_
   subst hY1
   refine zAF fun Y4 hY4 => ?_
   refine zAG ?_
   try simp only [q1, List.drop_zero, Nat.zero_add, List.nil_append, List.map_nil, ↓zAH, EVq, TY, zAE, ↓reduceIte, Nat.reduceLT, Nat.reduceLeDiff, Nat.reduceEqDiff, Nat.reduceAdd, Nat.reduceMul, Int.reduceLE, eq_self]
   try refine zAk (by first | rfl | decide | exact ⟨rfl, by decide, rfl⟩) ?_
   try simp only [q1, List.drop_zero, Nat.zero_add, List.nil_append, List.map_nil, ↓zAH, EVq, TY, zAE, ↓reduceIte, Nat.reduceLT, Nat.reduceLeDiff, Nat.reduceEqDiff, Nat.reduceAdd, Nat.reduceMul, Int.reduceLE, eq_self]
   refine zAk (by omega) ?_
   try simp only [q1, List.drop_zero, Nat.zero_add, List.nil_append, List.map_nil, ↓zAH, EVq, TY, zAE, ↓reduceIte, Nat.reduceLT, Nat.reduceLeDiff, Nat.reduceEqDiff, Nat.reduceAdd, Nat.reduceMul, Int.reduceLE, eq_self]
   refine zAD [2] ?_
   simp only [KQ, ↓KP, ↓reduceIte, Nat.reduceEqDiff]
   subst hY4
   refine zCh Try.func79 Try.results79 (by simp only [aRes, ↓zAR, ↓KP, KQ, ↓reduceIte, Nat.reduceEqDiff, zBb, TY] <;> rfl) (Weak.refl _ _ _) ?_
   first
     | exact .inl ⟨rfl, hb4 (by assumption), rfl⟩
     | (refine .inr ⟨?_, ?_⟩
        · simp [retD]
        · rw [List.set_append_right _ _ (by simp)]; simp)
end Go.Proofs.Qd
namespace Go.Proofs.Qd
open Go Go.Ab Go.Proofs.Ytfibkbmlgigemaa.AbT
variable [Go.Ab.DM]
set_option maxHeartbeats 2000000 in
theorem q_ins0 (dc : D) : Pure Try.prog 120 [.v (.slice none 0 0), iD 0, iD 0, dc] (fun d => d = .tup []) := by
 refine zAa Try.func120 rfl (by kernel_rfl) Try.ntmps120 (by simp) ?_
 refine zAF fun Y0 hY0 => ?_
 refine zAG ?_
 try simp only [↓zAH, EVq, TY, zAE, ↓reduceIte, Nat.reduceLT, Nat.reduceLeDiff, Nat.reduceEqDiff, Nat.reduceAdd, Nat.reduceMul, Int.reduceLE, eq_self]
 refine zAD [0, 1, 2, 3, 8] ?_
 simp only [KQ, ↓KP, ↓reduceIte, Nat.reduceEqDiff]
 subst hY0
 refine zCX ?_
 refine zAD [0, 1, 2, 3, 8] ?_
 simp only [KQ, ↓KP, ↓reduceIte, Nat.reduceEqDiff]
 refine run_loop' (fun m e H => e = envL [(0, .v (.slice none 0 0)), (1, iD 0), (2, iD 0), (3, dc), (8, iD 1)] ∧ H = []) 0
   ⟨rfl, rfl⟩ ?_
 intro C hC m e H ih hI
 obtain ⟨rfl, rfl⟩ := hI
 refine zAF fun Y1 hY1 => ?_
 refine zAF fun Y2 hY2 => ?_
 refine zAG ?_
 try simp only [↓zAH, EVq, TY, zAE, ↓reduceIte, Nat.reduceLT, Nat.reduceLeDiff, Nat.reduceEqDiff, Nat.reduceAdd, Nat.reduceMul, Int.reduceLE, eq_self]
 refine zAD [0, 1, 2, 3, 8, 14] ?_
 simp only [KQ, ↓KP, ↓reduceIte, Nat.reduceEqDiff]
 subst hY2
 refine run_if_f (by simp only [↓zAR, ↓zAU, ↓zAd, ↓zAN, ↓reduceIte, Nat.reduceEqDiff] <;> rfl) ?_
 refine zDV (by rfl) ?_
 refine run_end0 3 Try.func120 Try.results120 (by simp only [aRes, ↓zAR, ↓KP, KQ, ↓reduceIte, Nat.reduceEqDiff, zBb, TY] <;> rfl) rfl ?_
 rfl
set_option maxHeartbeats 2000000 in
theorem q_pdq0 (dc : D) (hdc : dc.noref = true) : Pure Try.prog 108 [.v (.slice none 0 0), iD 0, iD 0, iD 0, dc] (fun d => d = .tup []) := by
 refine zAa Try.func108 rfl (by kernel_rfl) Try.ntmps108 (by simp) ?_
 refine zAF fun Y0 hY0 => ?_
 refine zAG ?_
 try simp only [↓zAH, EVq, TY, zAE, ↓reduceIte, Nat.reduceLT, Nat.reduceLeDiff, Nat.reduceEqDiff, Nat.reduceAdd, Nat.reduceMul, Int.reduceLE, eq_self]
 refine zAD [0, 1, 2, 3, 4, 10] ?_
 simp only [KQ, ↓KP, ↓reduceIte, Nat.reduceEqDiff]
 subst hY0
 refine zAF fun Y1 hY1 => ?_
 refine zAG ?_
 try simp only [↓zAH, EVq, TY, zAE, ↓reduceIte, Nat.reduceLT, Nat.reduceLeDiff, Nat.reduceEqDiff, Nat.reduceAdd, Nat.reduceMul, Int.reduceLE, eq_self]
 refine zAD [0, 1, 2, 3, 4, 10, 11] ?_
 simp only [KQ, ↓KP, ↓reduceIte, Nat.reduceEqDiff]
 subst hY1
 refine zCX ?_
 refine zAD [0, 1, 2, 3, 4, 10, 11] ?_
 simp only [KQ, ↓KP, ↓reduceIte, Nat.reduceEqDiff]
 refine run_loop' (fun m e H => e = envL [(0, .v (.slice none 0 0)), (1, iD 0), (2, iD 0), (3, iD 0), (4, dc), (10, .v (.bool true)), (11, .v (.bool true))] ∧ H = []) 0
   ⟨rfl, rfl⟩ ?_
 intro C hC m e H ih hI
 obtain ⟨rfl, rfl⟩ := hI
 refine zCX ?_
 refine zAF fun Y2 hY2 => ?_
 refine zAG ?_
 try simp only [↓zAH, EVq, TY, zAE, ↓reduceIte, Nat.reduceLT, Nat.reduceLeDiff, Nat.reduceEqDiff, Nat.reduceAdd, Nat.reduceMul, Int.reduceLE, eq_self]
 refine zAD [0, 1, 2, 3, 4, 10, 11, 12] ?_
 simp only [KQ, ↓KP, ↓reduceIte, Nat.reduceEqDiff]
 subst hY2
 refine zAF fun Y3 hY3 => ?_
 refine zAF fun Y4 hY4 => ?_
 refine zAG ?_
 try simp only [↓zAH, EVq, TY, zAE, ↓reduceIte, Nat.reduceLT, Nat.reduceLeDiff, Nat.reduceEqDiff, Nat.reduceAdd, Nat.reduceMul, Int.reduceLE, eq_self]
 refine zAD [0, 1, 2, 3, 4, 10, 11, 12, 25] ?_
 simp only [KQ, ↓KP, ↓reduceIte, Nat.reduceEqDiff]
 subst hY4
 refine run_if_t (by simp only [↓zAR, ↓zAU, ↓zAd, ↓zAN, ↓reduceIte, Nat.reduceEqDiff] <;> rfl) ?_
 refine zAF fun Y5 hY5 => ?_
 refine zAG ?_
 try simp only [↓zAH, EVq, TY, zAE, ↓reduceIte, Nat.reduceLT, Nat.reduceLeDiff, Nat.reduceEqDiff, Nat.reduceAdd, Nat.reduceMul, Int.reduceLE, eq_self]
 refine zCp ((q_ins0 dc).frame (by simp [zAZ, D.noref, hdc]) _).sound (fun d Hx hd => ?_)
 obtain ⟨rfl, rfl⟩ := hd
 try simp only [↓zAH, EVq, TY, zAE, ↓reduceIte, Nat.reduceLT, Nat.reduceLeDiff, Nat.reduceEqDiff, Nat.reduceAdd, Nat.reduceMul, Int.reduceLE, eq_self]
 refine zAD [] ?_
 simp only [KQ, ↓KP, ↓reduceIte, Nat.reduceEqDiff]
 subst hY5
 refine run_ret0 3 Try.func108 Try.results108 (by simp only [aRes, ↓zAR, ↓KP, KQ, ↓reduceIte, Nat.reduceEqDiff, zBb, TY] <;> rfl) rfl ?_
 rfl
set_option maxHeartbeats 2000000 in
theorem q_sort0 (dc : D) (hdc : dc.noref = true) : Pure Try.prog 80 [.v (.slice none 0 0), dc] (fun d => d = .tup []) := by
 refine zAa Try.func80 rfl (by kernel_rfl) Try.ntmps80 (by simp) ?_
 refine zAF fun Y0 hY0 => ?_
 refine zAG ?_
 try simp only [↓zAH, EVq, TY, zAE, ↓reduceIte, Nat.reduceLT, Nat.reduceLeDiff, Nat.reduceEqDiff, Nat.reduceAdd, Nat.reduceMul, Int.reduceLE, eq_self]
 refine zAD [0, 1, 4] ?_
 simp only [KQ, ↓KP, ↓reduceIte, Nat.reduceEqDiff]
 subst hY0
 refine zAG ?_
 try simp only [↓zAH, EVq, TY, zAE, ↓reduceIte, Nat.reduceLT, Nat.reduceLeDiff, Nat.reduceEqDiff, Nat.reduceAdd, Nat.reduceMul, Int.reduceLE, eq_self]
 refine zCp (Go.Q.q_len0.frame (by simp [zAZ, D.noref]) _).sound (fun d Hx hd => ?_)
 obtain ⟨rfl, rfl⟩ := hd
 try simp only [↓zAH, EVq, TY, zAE, ↓reduceIte, Nat.reduceLT, Nat.reduceLeDiff, Nat.reduceEqDiff, Nat.reduceAdd, Nat.reduceMul, Int.reduceLE, eq_self]
 refine zCp ((q_pdq0 dc hdc).frame (by simp [zAZ, D.noref, hdc]) _).sound (fun d Hx hd => ?_)
 obtain ⟨rfl, rfl⟩ := hd
 try simp only [↓zAH, EVq, TY, zAE, ↓reduceIte, Nat.reduceLT, Nat.reduceLeDiff, Nat.reduceEqDiff, Nat.reduceAdd, Nat.reduceMul, Int.reduceLE, eq_self]
 refine zAD [] ?_
 simp only [KQ, ↓KP, ↓reduceIte, Nat.reduceEqDiff]
 refine run_end0 3 Try.func80 Try.results80 (by simp only [aRes, ↓zAR, ↓KP, KQ, ↓reduceIte, Nat.reduceEqDiff, zBb, TY] <;> rfl) rfl ?_
 rfl
theorem frz_nodes (H : Heap) (n : Nat) : ∀ l : List (Int × Int), (l.map zBF).mapM (frz H (n + 1)) = some (l.map zBF)
 | [] => rfl
 | x :: l => by
   rw [List.map_cons, List.mapM_cons, frz_nodes H n l]
   simp [frz, zBF]
theorem ord80 {Q : List (Int × Int) → List (Int × Int) → Prop} {l : List (Int × Int)} {dc : D} (hdc : dc.noref = true) (h0 : l = [] → Q l [])
   (hs : ∀ H r, H.get r = some (.cells 2 (l.map zBF)) → Sound Try.prog 80 [.sl r 0 l.length, dc] H (fun d H' => d = .tup [] ∧ ∃ l', Q l l' ∧ l'.length = l.length ∧ H' = H.set r (some (.cells 2 (l'.map zBF)))))
   (H : Heap) (d : D) (Hx : Heap) (hd : (d = .v (.slice none 0 0) ∧ l.map zBF = [] ∧ Hx = H) ∨ (d = .sl (H.length + 1) 0 (l.map zBF).length ∧ Hx = H ++ [none, some (.cells 2 (l.map zBF))])) :
   Sound Try.prog 80 [d, dc] Hx (fun d2 H' => d2 = .tup [] ∧ ∃ l', Q l l' ∧ ∃ d3, frz H' 3 d = some d3 ∧ leD d3 (.fz 2 (l'.map zBF))) := by
 rcases hd with ⟨rfl, hl, rfl⟩ | ⟨rfl, rfl⟩
 · refine ((q_sort0 dc hdc).frame (by simp [zAZ, D.noref, hdc]) _).sound.mono fun d2 H' h => ⟨h.2, [], h0 (by simpa using hl), _, rfl, ?_⟩
   rw [leD]; exact .inr ⟨2, rfl⟩
 · have hg : Heap.get (H ++ [none, some (.cells 2 (l.map zBF))]) (H.length + 1) = some (.cells 2 (l.map zBF)) := by simp [Heap.get]
   rw [List.length_map]
   refine (hs _ _ hg).mono fun d2 H' h => ?_
   obtain ⟨rfl, l', hQ, hl', rfl⟩ := h
   refine ⟨rfl, l', hQ, .fz 2 (l'.map zBF), ?_, by rw [leD.eq_def]⟩
   rw [frz, Heap.get_set _ (Heap.get_lt hg), if_pos rfl]
   simp only [List.length_map, Nat.zero_add, hl', Nat.le_refl, if_true, List.drop_zero]
   rw [← hl', List.take_of_length_le (by simp), frz_nodes]; rfl
set_option maxHeartbeats 2000000 in
theorem q_ordered {Q : List (Int × Int) → List (Int × Int) → Prop} (l : List (Int × Int)) (hn : l.length ≤ 100000000) (dc : D) (hdc : dc.noref = true) (h0 : l = [] → Q l []) (hs : ∀ H r, H.get r = some (.cells 2 (l.map zBF)) → Sound Try.prog 80 [.sl r 0 l.length, dc] H (fun d H' => d = .tup [] ∧ ∃ l', Q l l' ∧ l'.length = l.length ∧ H' = H.set r (some (.cells 2 (l'.map zBF))))) : Pure Try.prog 50 [.fz 2 (l.map zBF), dc] (fun d => ∃ l', Q l l' ∧ d = .fz 2 (l'.map zBF)) := by
 refine zAa Try.func50 rfl (by kernel_rfl) Try.ntmps50 (by simp) ?_
 refine zAF fun Y0 hY0 => ?_
 refine zAG ?_
 try simp only [↓zAH, EVq, TY, zAE, ↓reduceIte, Nat.reduceLT, Nat.reduceLeDiff, Nat.reduceEqDiff, Nat.reduceAdd, Nat.reduceMul, Int.reduceLE, eq_self]
 refine zAD [0, 1] ?_
 simp only [KQ, ↓KP, ↓reduceIte, Nat.reduceEqDiff]
 subst hY0
 refine zAF fun Y1 hY1 => ?_
 refine zAG ?_
 try simp only [↓zAH, EVq, TY, zAE, ↓reduceIte, Nat.reduceLT, Nat.reduceLeDiff, Nat.reduceEqDiff, Nat.reduceAdd, Nat.reduceMul, Int.reduceLE, eq_self]
 refine zCp (q_clone _ _ (by simpa using hn)) (fun dl Hx hd => ?_)
 try simp only [↓zAH, EVq, TY, zAE, ↓reduceIte, Nat.reduceLT, Nat.reduceLeDiff, Nat.reduceEqDiff, Nat.reduceAdd, Nat.reduceMul, Int.reduceLE, eq_self]
 refine zAD [1, 5] ?_
 simp only [KQ, ↓KP, ↓reduceIte, Nat.reduceEqDiff]
 subst hY1
 refine zAF fun Y2 hY2 => ?_
 refine zAG ?_
 try simp only [↓zAH, EVq, TY, zAE, ↓reduceIte, Nat.reduceLT, Nat.reduceLeDiff, Nat.reduceEqDiff, Nat.reduceAdd, Nat.reduceMul, Int.reduceLE, eq_self]
 refine zCp (ord80 hdc h0 hs _ dl Hx hd) (fun d2 H2 hd2 => ?_)
 obtain ⟨rfl, l2, hQ, d3, hz, hle⟩ := hd2
 try simp only [↓zAH, EVq, TY, zAE, ↓reduceIte, Nat.reduceLT, Nat.reduceLeDiff, Nat.reduceEqDiff, Nat.reduceAdd, Nat.reduceMul, Int.reduceLE, eq_self]
 refine zAD [5] ?_
 simp only [KQ, ↓KP, ↓reduceIte, Nat.reduceEqDiff]
 subst hY2
 refine zAF fun Y3 hY3 => ?_
 refine zAG ?_
 try simp only [↓zAH, EVq, TY, zAE, ↓reduceIte, Nat.reduceLT, Nat.reduceLeDiff, Nat.reduceEqDiff, Nat.reduceAdd, Nat.reduceMul, Int.reduceLE, eq_self]
 refine zAD [4] ?_
 simp only [KQ, ↓KP, ↓reduceIte, Nat.reduceEqDiff]
 subst hY3
 refine zDU 3 Try.func50 Try.results50 (by simp only [aRes, ↓zAR, ↓KP, KQ, ↓reduceIte, Nat.reduceEqDiff, zBb, TY] <;> rfl) (ds := [dl]) hz hle ⟨_, hQ, rfl⟩
end Go.Proofs.Qd
namespace Go.Q
open Go Go.T Go.Ab Go.Proofs Go.Proofs.Qd
variable [Go.Ab.DM]
def rin (l : List Int) : Go.T.Rows := [(0, .one (.own 1) ()), (0, .many (.int .i64) l)]
def rout (l : List Int) : Go.T.Rows := [(0, .one (.own 2) ()), (0, .gone), (0, .many (.int .i64) l)]
theorem hp_sound {P : Program} {f : FuncId} {ds : List D} {ζ : Nat → Row} {num : Nat → Nat} {H : Heap} {l : List Int} {G : D → List Int → Prop} (hH : HRel ζ num (rin l) H)
   (h : ∀ H0, H0.length = H.length → Hp (num 0) l (fun _ => False) H0 → Sound P f ds H0 fun d H' => ∃ l', Hp (num 0) l' (fun _ => False) H' ∧ G d l') :
   Sound P f ds H fun d H' => ∃ l', G d l' ∧ ∃ num', HRel ζ num' (rout l') H' ∧ num' 0 = num 0 ∧ H.length ≤ num' 2 := by
 obtain ⟨_, k, d, h1, h2, h3⟩ := hH.row 0
 obtain ⟨_, h4⟩ := hH.row 1
 have h5 : num 0 ≠ num 1 := hH.inj 0 1 rfl rfl (by decide)
 have ha := Heap.get_lt h1
 have hc : d.cells = [d] := zAy h2
 have h3' : Tls [d] [.sl (num 1) 0 l.length] := by rw [← hc]; exact h3
 have hte : Te d (.sl (num 1) 0 l.length) := ⟨by rw [hc]; rfl, fun _ => rfl, by rw [hc]; exact h3'⟩
 refine Sound.retell h1 hte ?_
 have hl : d.cells.length = 1 := by rw [hc]; rfl
 rw [hl]
 have hget := Heap.get_set H ha (some (Row.cells 1 [.sl (num 1) 0 l.length]))
 refine Sound.mv (h _ (by simp) ⟨num 1, h5, id, id, by rw [hget, if_pos rfl], by rw [hget, if_neg (fun e => h5 e.symm)]; exact h4⟩) fun dd H' hn hR => ?_
 obtain ⟨l', ⟨b, g1, _, _, g2, g3⟩, g4⟩ := hR
 have hn : H.length ≤ H'.length := by simpa using hn
 refine ⟨num 0, b, 1, l'.length, l'.map iD, g1, g2, g3, l', g4, fun r => if r = 0 then num 0 else H'.length, ?_, by simp, by simpa using hn⟩
 have ha' := Heap.get_lt g2
 have hb' := Heap.get_lt g3
 refine ⟨fun r => ?_, fun r q hr hq hne => ?_, fun r t x hr => ?_⟩
 · match r with
   | 0 =>
     refine ⟨rfl, 1, .sl H'.length 0 l'.length, ?_, rfl, Tls.refl _⟩
     show (mvH H' (num 0) b 1 l'.length (l'.map iD)).get (if (0 : Nat) = 0 then num 0 else H'.length) = _
     rw [if_pos rfl, mvH_get ha' hb', if_neg (Nat.ne_of_lt ha'), if_pos rfl]
   | 1 => trivial
   | 2 =>
     refine ⟨rfl, ?_⟩
     show (mvH H' (num 0) b 1 l'.length (l'.map iD)).get (if (2 : Nat) = 0 then num 0 else H'.length) = _
     rw [if_neg (by decide), mvH_get ha' hb', if_pos rfl]; rfl
   | r + 3 => trivial
 · match r, q with
   | 0, 0 => exact absurd rfl hne
   | 0, 2 => simpa using Nat.ne_of_lt ha'
   | 2, 0 => simpa using (Nat.ne_of_lt ha').symm
   | 2, 2 => exact absurd rfl hne
   | 1, _ => cases hr
   | _, 1 => cases hq
   | r + 3, _ => cases hr
   | _, q + 3 => cases hq
 · match r with
   | 0 => cases hr; show 2 < 3; decide
   | 1 => cases hr
   | 2 => cases hr
   | r + 3 => cases hr
noncomputable def F46 (l : List Int) : Option (List Int) := bif Nat.ble l.length 1000000 then some (initGo l.length l (l.length / 2)) else none
noncomputable def F48 (l : List Int) : Option (Int × List Int) := bif Nat.ble 1 l.length && Nat.ble l.length 1000000 then (let l2 := down (l.length - 1) (zDR l 0 (l.length - 1)) 0; some (l2.getLastD 0, l2.dropLast)) else none
noncomputable def F49 (x : Int × List Int) : Option (List Int) := bif Nat.ble (x.2.length + 1) 1000000 then some (up (x.2 ++ [x.1]) x.2.length) else none
noncomputable def c46 : Con := ⟨46, [.ifc 80 (.p0 0 0)], [.one (.own 1), .many (.int .i64)], .tup .unit, [.one (.own 2), .gone, .many (.int .i64)], F46, none⟩
noncomputable def c48 : Con := ⟨48, [.ifc 80 (.p0 0 0)], [.one (.own 1), .many (.int .i64)], .ifc 3 (.int .i64), [.one (.own 2), .gone, .many (.int .i64)], F48, none⟩
noncomputable def c49 : Con := ⟨49, [.ifc 80 (.p0 0 0), .ifc 3 (.int .i64)], [.one (.own 1), .many (.int .i64)], .tup .unit, [.one (.own 2), .gone, .many (.int .i64)], F49, none⟩
theorem conds {ζ : Nat → Row} {num num' : Nat → Nat} {l l' : List Int} {H H' : Heap} (h0 : num' 0 = num 0) (h2 : H.length ≤ num' 2) :
   (∀ r : Nat, zAQ (Go.T.zAA (rout l') r) = true → (r < 2 → num' r = num r) ∧ (2 ≤ r → H.length ≤ num' r)) ∧ ∀ r, r < 2 → zAO (Go.T.zAA (rout l') r) = true → zCT (Go.T.zAA (rout l') r) = zCT (Go.T.zAA (rin l) r) := by
 constructor
 · intro r hr
   match r with
   | 0 => exact ⟨fun _ => h0, fun h => absurd h (by decide)⟩
   | 1 => cases hr
   | 2 => exact ⟨fun h => absurd h (by decide), fun _ => h2⟩
   | r + 3 => cases hr
 · intro r hr hl
   match r with
   | 0 => cases hl
   | 1 => cases hl
   | r + 2 => omega
theorem ok46 : zAu Try.prog c46 := fun (l : List Int) hx ζ num H hH _ => by
 obtain ⟨y, hy⟩ := hx
 have hl : l.length ≤ 1000000 := by
   have hy : F46 l = some y := hy
   unfold F46 at hy
   cases h : Nat.ble l.length 1000000 with
   | true => exact Nat.le_of_ble_eq_true h
   | false => rw [h] at hy; cases hy
 have hF : F46 l = some (initGo l.length l (l.length / 2)) := by unfold F46; rw [Nat.ble_eq_true_of_le hl]; rfl
 refine Sound.mono (hp_sound (G := fun d l' => l' = initGo l.length l (l.length / 2) ∧ d = .tup []) (l := l) hH fun H0 hn hp => (h_init H0 (num 0) l _ hp hl).mono fun d H' h => ⟨_, h.1, rfl, h.2.2⟩) fun d H' h => ?_
 obtain ⟨l', ⟨rfl, rfl⟩, num', h1, h2, h3⟩ := h
 obtain ⟨h4, h5⟩ := conds (ζ := ζ) (l := l) (l' := initGo l.length l (l.length / 2)) (H' := H') h2 h3
 exact ⟨_, hF, ζ, num', h1, rfl, trivial, h4, h5⟩
theorem ok49 : zAu Try.prog c49 := fun (x : Int × List Int) hx ζ num H hH _ => by
 obtain ⟨a, l⟩ := x
 obtain ⟨y, hy⟩ := hx
 have hl : l.length < 1000000 := by
   have hy : F49 (a, l) = some y := hy
   unfold F49 at hy
   cases h : Nat.ble (l.length + 1) 1000000 with
   | true => exact Nat.le_of_ble_eq_true h
   | false => rw [h] at hy; cases hy
 have hF : F49 (a, l) = some (up (l ++ [a]) l.length) := by unfold F49; rw [Nat.ble_eq_true_of_le hl]; rfl
 refine Sound.mono (hp_sound (G := fun d l' => l' = up (l ++ [a]) l.length ∧ d = .tup []) (l := l) hH fun H0 hn hp => (h_push H0 (num 0) a l _ (fun _ h => h.elim) hp hl).mono fun d H' h => ⟨_, h.1, rfl, h.2.2⟩) fun d H' h => ?_
 obtain ⟨l', ⟨rfl, rfl⟩, num', h1, h2, h3⟩ := h
 obtain ⟨h4, h5⟩ := conds (ζ := ζ) (l := l) (l' := up (l ++ [a]) l.length) (H' := H') h2 h3
 exact ⟨_, hF, ζ, num', h1, rfl, trivial, h4, h5⟩
theorem ok48 : zAu Try.prog c48 := fun (l : List Int) hx ζ num H hH _ => by
 obtain ⟨y, hy⟩ := hx
 have hl : 1 ≤ l.length ∧ l.length ≤ 1000000 := by
   have hy : F48 l = some y := hy
   unfold F48 at hy
   cases h : Nat.ble 1 l.length && Nat.ble l.length 1000000 with
   | true => rw [Bool.and_eq_true] at h; exact ⟨Nat.le_of_ble_eq_true h.1, Nat.le_of_ble_eq_true h.2⟩
   | false => rw [h] at hy; cases hy
 have hne : l ≠ [] := fun h => by rw [h] at hl; simp at hl
 have hne2 : down (l.length - 1) (zDR l 0 (l.length - 1)) 0 ≠ [] := fun h => by
   have := congrArg List.length h
   rw [down_len, zCH] at this
   simp at this; exact hne (List.length_eq_zero_iff.1 (by simpa using this))
 have hg : (down (l.length - 1) (zDR l 0 (l.length - 1)) 0).getLastD 0 = (down (l.length - 1) (zDR l 0 (l.length - 1)) 0).getLast hne2 := by
   rw [List.getLastD_eq_getLast?, List.getLast?_eq_some_getLast hne2]; rfl
 have hF : F48 l = some ((down (l.length - 1) (zDR l 0 (l.length - 1)) 0).getLast hne2, (down (l.length - 1) (zDR l 0 (l.length - 1)) 0).dropLast) := by
   unfold F48; rw [Nat.ble_eq_true_of_le hl.1, Nat.ble_eq_true_of_le hl.2]; simp only [Bool.and_self, cond_true]; rw [hg]
 refine Sound.mono (hp_sound (G := fun d l' => l' = (down (l.length - 1) (zDR l 0 (l.length - 1)) 0).dropLast ∧ d = .ifc 3 (iD ((down (l.length - 1) (zDR l 0 (l.length - 1)) 0).getLast hne2))) (l := l) hH fun H0 hn hp => (h_pop H0 (num 0) l _ _ (fun _ h => h.elim) hp hne rfl hne2 hl.2).mono fun d H' h => ⟨_, h.1, rfl, h.2.2⟩) fun d H' h => ?_
 obtain ⟨l', ⟨rfl, rfl⟩, num', h1, h2, h3⟩ := h
 obtain ⟨h4, h5⟩ := conds (ζ := ζ) (l := l) (l' := (down (l.length - 1) (zDR l 0 (l.length - 1)) 0).dropLast) (H' := H') h2 h3
 exact ⟨_, hF, ζ, num', h1, rfl, trivial, h4, h5⟩
end Go.Q
namespace Go.Proofs
open Go.Shelf
def Try.sortNode_ren : Go.Shelf.Ren := ⟨fun | 6 => 80 | 15 => 71 | 14 => 108 | 28 => 104 | 29 => 105 | 20 => 120 | 21 => 121 | 22 => 122 | 23 => 123 | 24 => 124 | 25 => 125 | 26 => 126 | 27 => 127 | 46 => 130 | 47 => 114 | 48 => 115 | 49 => 131 | 50 => 132 | 57 => 134 | n => n, fun | 22 => 22 | 24 => 71 | 25 => 85 | 3 => 3 | 39 => 102 | 0 => 0 | 53 => 138 | 55 => 103 | 4 => 4 | 46 => 131 | 45 => 130 | 50 => 72 | 5 => 5 | 9 => 9 | 66 => 146 | 70 => 150 | 76 => 161 | 77 => 43 | n => n, fun | n => n⟩
theorem Try.sortNode : Go.Proofs.SlLaysF0.n6 Try.prog Try.sortNode_ren := {
 mixed := by kernel_rfl
 f6 := ⟨Try.f80.name, by decide, Try.func80.trans (congrArg some (by kernel_rfl))⟩
 f14 := ⟨Try.f108.name, by decide, Try.func108.trans (congrArg some (by kernel_rfl))⟩
 f15 := Try.func71.trans (congrArg some (by kernel_rfl))
 f20 := ⟨Try.f120.name, by decide, Try.func120.trans (congrArg some (by kernel_rfl))⟩
 f21 := ⟨Try.f121.name, by decide, Try.func121.trans (congrArg some (by kernel_rfl))⟩
 f22 := ⟨Try.f122.name, by decide, Try.func122.trans (congrArg some (by kernel_rfl))⟩
 f23 := ⟨Try.f123.name, by decide, Try.func123.trans (congrArg some (by kernel_rfl))⟩
 f24 := ⟨Try.f124.name, by decide, Try.func124.trans (congrArg some (by kernel_rfl))⟩
 f25 := ⟨Try.f125.name, by decide, Try.func125.trans (congrArg some (by kernel_rfl))⟩
 f26 := ⟨Try.f126.name, by decide, Try.func126.trans (congrArg some (by kernel_rfl))⟩
 f27 := ⟨Try.f127.name, by decide, Try.func127.trans (congrArg some (by kernel_rfl))⟩
 f28 := Try.func104.trans (congrArg some (by kernel_rfl))
 f29 := Try.func105.trans (congrArg some (by kernel_rfl))
 f46 := ⟨Try.f130.name, by decide, Try.func130.trans (congrArg some (by kernel_rfl))⟩
 f47 := Try.func114.trans (congrArg some (by kernel_rfl))
 f48 := Try.func115.trans (congrArg some (by kernel_rfl))
 f49 := ⟨Try.f131.name, by decide, Try.func131.trans (congrArg some (by kernel_rfl))⟩
 f50 := ⟨Try.f132.name, by decide, Try.func132.trans (congrArg some (by kernel_rfl))⟩
 f57 := ⟨Try.f134.name, by decide, Try.func134.trans (congrArg some (by kernel_rfl))⟩
 t0 := Try.underlying0
 a0 := Try.isAgg0
 z0 := Try.sizeOf0
 v0 := Try.zeroValue0
 t3 := Try.underlying3
 a3 := Try.isAgg3
 z3 := Try.sizeOf3
 v3 := Try.zeroValue3
 t4 := Try.underlying4
 a4 := Try.isAgg4
 z4 := Try.sizeOf4
 v4 := Try.zeroValue4
 t5 := Try.underlying5
 a5 := Try.isAgg5
 z5 := Try.sizeOf5
 v5 := Try.zeroValue5
 t9 := Try.underlying9
 a9 := Try.isAgg9
 z9 := Try.sizeOf9
 v9 := Try.zeroValue9
 t22 := Try.underlying22
 a22 := Try.isAgg22
 z22 := Try.sizeOf22
 v22 := Try.zeroValue22
 t25 := Try.underlying85
 a25 := Try.isAgg85
 z25 := Try.sizeOf85
 v25 := Try.zeroValue85
 t39 := Try.underlying102
 a39 := Try.isAgg102
 z39 := Try.sizeOf102
 v39 := Try.zeroValue102
 t45 := Try.underlying130
 a45 := Try.isAgg130
 z45 := Try.sizeOf130
 v45 := Try.zeroValue130
 t46 := Try.underlying131
 a46 := Try.isAgg131
 z46 := Try.sizeOf131
 v46 := Try.zeroValue131
 t50 := Try.underlying72
 a50 := Try.isAgg72
 z50 := Try.sizeOf72
 v50 := Try.zeroValue72
 t53 := Try.underlying138
 a53 := Try.isAgg138
 z53 := Try.sizeOf138
 v53 := Try.zeroValue138
 t55 := Try.underlying103
 a55 := Try.isAgg103
 z55 := Try.sizeOf103
 v55 := Try.zeroValue103
 t66 := Try.underlying146
 a66 := Try.isAgg146
 z66 := Try.sizeOf146
 v66 := Try.zeroValue146
 t70 := Try.underlying150
 a70 := Try.isAgg150
 z70 := Try.sizeOf150
 v70 := Try.zeroValue150
 t76 := Try.underlying161
 a76 := Try.isAgg161
 z76 := Try.sizeOf161
 v76 := Try.zeroValue161
 t77 := Try.underlying43
 a77 := Try.isAgg43
 z77 := Try.sizeOf43
 v77 := Try.zeroValue43 }
end Go.Proofs
namespace Go.Q
open Go Go.T Go.Proofs
theorem sorts80 : SortsAt Try.prog 80 2 := fun enc hk h1 cf hO g cb blk off cap d w eg hcmp hH hblk hsz =>
 AnyQ.slices_SortFunc Try.sortNode 2 Try.isAgg71 Try.sizeOf71 enc hk h1 cf hO g cb blk off cap d w eg hcmp hH hblk hsz
end Go.Q
namespace Go.Proofs
open Go.Shelf
variable [Go.Ab.DM]
def Try.sortInt_ren : Go.Shelf.Ren := ⟨fun | 189 => 36 | 125 => 71 | 257 => 70 | 128 => 104 | 129 => 105 | 294 => 95 | 295 => 96 | 296 => 97 | 297 => 98 | 298 => 99 | 299 => 100 | 216 => 101 | 300 => 102 | 301 => 103 | 328 => 113 | 329 => 114 | 330 => 115 | 331 => 116 | 332 => 117 | 215 => 118 | 343 => 129 | n => n, fun | 28 => 45 | 3 => 3 | 46 => 102 | 0 => 0 | 51 => 138 | 53 => 103 | 4 => 4 | 183 => 131 | 182 => 130 | 131 => 72 | 5 => 5 | 9 => 9 | 218 => 146 | 222 => 150 | 228 => 161 | 229 => 43 | n => n, fun | n => n⟩
theorem Try.sortInt : Go.Proofs.Lays.n189 Try.prog Try.sortInt_ren := {
 mixed := by kernel_rfl
 f125 := Try.func71.trans (congrArg some (by kernel_rfl))
 f128 := Try.func104.trans (congrArg some (by kernel_rfl))
 f129 := Try.func105.trans (congrArg some (by kernel_rfl))
 f189 := Try.func36.trans (congrArg some (by kernel_rfl))
 f215 := Try.func118.trans (congrArg some (by kernel_rfl))
 f216 := Try.func101.trans (congrArg some (by kernel_rfl))
 f257 := Try.func70.trans (congrArg some (by kernel_rfl))
 f294 := Try.func95.trans (congrArg some (by kernel_rfl))
 f295 := Try.func96.trans (congrArg some (by kernel_rfl))
 f296 := Try.func97.trans (congrArg some (by kernel_rfl))
 f297 := Try.func98.trans (congrArg some (by kernel_rfl))
 f298 := Try.func99.trans (congrArg some (by kernel_rfl))
 f299 := Try.func100.trans (congrArg some (by kernel_rfl))
 f300 := Try.func102.trans (congrArg some (by kernel_rfl))
 f301 := Try.func103.trans (congrArg some (by kernel_rfl))
 f328 := Try.func113.trans (congrArg some (by kernel_rfl))
 f329 := Try.func114.trans (congrArg some (by kernel_rfl))
 f330 := Try.func115.trans (congrArg some (by kernel_rfl))
 f331 := Try.func116.trans (congrArg some (by kernel_rfl))
 f332 := Try.func117.trans (congrArg some (by kernel_rfl))
 f343 := Try.func129.trans (congrArg some (by kernel_rfl))
 t0 := Try.underlying0
 a0 := Try.isAgg0
 z0 := Try.sizeOf0
 v0 := Try.zeroValue0
 t3 := Try.underlying3
 a3 := Try.isAgg3
 z3 := Try.sizeOf3
 v3 := Try.zeroValue3
 t4 := Try.underlying4
 a4 := Try.isAgg4
 z4 := Try.sizeOf4
 v4 := Try.zeroValue4
 t5 := Try.underlying5
 a5 := Try.isAgg5
 z5 := Try.sizeOf5
 v5 := Try.zeroValue5
 t9 := Try.underlying9
 a9 := Try.isAgg9
 z9 := Try.sizeOf9
 v9 := Try.zeroValue9
 t28 := Try.underlying45
 a28 := Try.isAgg45
 z28 := Try.sizeOf45
 v28 := Try.zeroValue45
 t46 := Try.underlying102
 a46 := Try.isAgg102
 z46 := Try.sizeOf102
 v46 := Try.zeroValue102
 t51 := Try.underlying138
 a51 := Try.isAgg138
 z51 := Try.sizeOf138
 v51 := Try.zeroValue138
 t53 := Try.underlying103
 a53 := Try.isAgg103
 z53 := Try.sizeOf103
 v53 := Try.zeroValue103
 t131 := Try.underlying72
 a131 := Try.isAgg72
 z131 := Try.sizeOf72
 v131 := Try.zeroValue72
 t182 := Try.underlying130
 a182 := Try.isAgg130
 z182 := Try.sizeOf130
 v182 := Try.zeroValue130
 t183 := Try.underlying131
 a183 := Try.isAgg131
 z183 := Try.sizeOf131
 v183 := Try.zeroValue131
 t218 := Try.underlying146
 a218 := Try.isAgg146
 z218 := Try.sizeOf146
 v218 := Try.zeroValue146
 t222 := Try.underlying150
 a222 := Try.isAgg150
 z222 := Try.sizeOf150
 v222 := Try.zeroValue150
 t228 := Try.underlying161
 a228 := Try.isAgg161
 z228 := Try.sizeOf161
 v228 := Try.zeroValue161
 t229 := Try.underlying43
 a229 := Try.isAgg43
 z229 := Try.sizeOf43
 v229 := Try.zeroValue43 }
end Go.Proofs
namespace Go.Q
open Go Go.T Go.Ab Go.Proofs
variable [Go.Ab.DM]
end Go.Q
namespace Go.Q
open Go Go.T Go.Ab Go.Proofs Go.Proofs.Qd
variable [Go.Ab.DM]
abbrev Dg := Int × (Int × (Int × List Nd))
abbrev tI : Ty := .int .i64
abbrev tN : Ty := .agg (.pr tI tI)
abbrev tD : Ty := .agg (.pr tI (.pr tI (.pr tI (.sl tN))))
abbrev tF (k : Nat) : Ty := .fn k .unit (.fp tD 0)
def zDg : Dg := (0, 0, 0, [])
def qaddT (bits k count : Int) (nodes : List Nd) (value n : Int) : Dg × Int :=
 if zBg bits k count nodes ≠ 0 then (zDg, 1)
 else if value < 0 ∨ shl 1 bits ≤ value ∨ n < 1 then (zDg, 2)
 else if 1099511627776 - count < n then (zDg, 4)
 else if fnd nodes (shl 1 bits + value) = true then ((bits, k, count + n, bump nodes (lb nodes (shl 1 bits + value)) n), 0)
 else if 2000 ≤ nodes.length then (zDg, 4)
 else ((bits, k, count + n, insL nodes (lb nodes (shl 1 bits + value)) (shl 1 bits + value, n)), 0)
def inI (x : Int) : Prop := -9223372036854775808 ≤ x ∧ x < 9223372036854775808
instance (x : Int) : Decidable (inI x) := by unfold inI; infer_instance
noncomputable def F16 (x : Dg × (Int × Int)) : Option (Dg × Int) := if x.1.2.2.2.length ≤ 100000000 ∧ inI x.2.1 ∧ inI x.2.2 then some (qaddT x.1.1 x.1.2.1 x.1.2.2.1 x.1.2.2.2 x.2.1 x.2.2) else none
noncomputable def c16 : Con := ⟨16, [tD, tI, tI], [], .tup (.pr tD tI), [], F16, none⟩
theorem qadd_T (bits k count : Int) (nodes : List Nd) (value n : Int) : zDW bits k count nodes value n = enc zCr ⟨.tup (.pr tD tI), qaddT bits k count nodes value n⟩ := by
 unfold zDW qaddT
 split
 · rfl
 split
 · rfl
 split
 · rfl
 split
 · rfl
 split
 · rfl
 · rfl
theorem ok16 : zAu Try.prog c16 := by
 refine con_pure rfl rfl (fun x v hv => ?_) (fun y => rfl) fun (x : Dg × (Int × Int)) hx => ?_
 · have hv : v ∈ [(⟨tD, x.1⟩ : TV), ⟨tI, x.2.1⟩, ⟨tI, x.2.2⟩] := hv
   simp only [List.mem_cons, List.not_mem_nil, or_false] at hv
   rcases hv with rfl | rfl | rfl <;> rfl
 · obtain ⟨⟨bits, k, count, nodes⟩, value, n⟩ := x
   obtain ⟨y, hy⟩ := hx
   have hc : nodes.length ≤ 100000000 ∧ inI value ∧ inI n := by
     have hy : F16 ((bits, k, count, nodes), value, n) = some y := hy
     unfold F16 at hy
     split at hy
     · assumption
     · cases hy
   have hF : F16 ((bits, k, count, nodes), value, n) = some (qaddT bits k count nodes value n) := by unfold F16; rw [if_pos hc]
   refine Pure.mono (q_add bits k count nodes value n hc.1 hc.2.1 hc.2.2) fun d hd => ⟨_, hF, ?_⟩
   rw [hd, qadd_T]; rfl
def keyOk (x : Int) : Prop := -4611686018427387904 ≤ x ∧ x < 4611686018427387904
theorem isub_ok {a b : Int} (ha : keyOk a) (hb : keyOk b) : zDD .i64 a b = a - b := by
 obtain ⟨h1, h2⟩ := ha; obtain ⟨h3, h4⟩ := hb
 exact zAp (by omega) (by omega)
def Ord (key : Nd → Option Int) (l r : List Nd) : Prop := l.length ≤ 100000000 ∧ (∀ n ∈ l, ∃ k, key n = some k ∧ keyOk k) ∧ r.Perm l ∧ r.Pairwise fun a b => ∀ i j, key a = some i → key b = some j → i ≤ j
def cfK (key : Nd → Option Int) (a b : Nd) : Int := zDD .i64 ((key a).getD 0) ((key b).getD 0)
theorem lt_key {key : Nd → Option Int} {a b : Nd} {i j : Int} (ha : key a = some i) (hb : key b = some j) (hi : keyOk i) (hj : keyOk j) : Go.Proofs.ltOf (cfK key) a b = decide (i < j) := by
 unfold Go.Proofs.ltOf cfK
 rw [ha, hb]
 show decide (zDD .i64 i j < 0) = _
 rw [isub_ok hi hj]
 congr 1
 exact propext ⟨fun h => by omega, fun h => by omega⟩
theorem cmp_ok {key : Nd → Option Int} {cc : Con} {cap : List TV} (ok : @zAu ⟨True⟩ Try.prog cc) (ins : cc.ins = []) (outs : cc.outs = []) (hp : ∀ v ∈ cap, v.t.pure = true) (he : ∀ args w, (callFunc cc.f args).run Try.prog w = .ok (.enter cc.f args) w)
   (hg : ∀ x y i j, key x = some i → key y = some j → ∃ z, zAc cc z = ⟨tN, x⟩ :: ⟨tN, y⟩ :: cap ∧ (∃ r, cc.Q z r) ∧ ∀ r, cc.Q z r → zAt cc r = ⟨tI, zDD .i64 i j⟩) :
   CmpOk Try.prog cc tN cap (fun n : Nd => ∃ k, key n = some k ∧ keyOk k) (cfK key) := by
 refine ⟨ok, ins, outs, hp, he, fun x y hx hy => ?_, fun x hx => ?_, fun x y z hx hy hz => ?_, fun x y z hx hy hz => ?_⟩
 · obtain ⟨i, hi, _⟩ := hx
   obtain ⟨j, hj, _⟩ := hy
   obtain ⟨z, h1, h2, h3⟩ := hg x y i j hi hj
   refine ⟨z, h1, h2, fun r hr => ?_⟩
   rw [h3 r hr]
   unfold cfK; rw [hi, hj]; rfl
 · obtain ⟨i, hi, hk⟩ := hx
   exact (lt_key hi hi hk hk).trans (by simp)
 · obtain ⟨i, hi, hki⟩ := hx
   obtain ⟨j, hj, hkj⟩ := hy
   obtain ⟨k, hk, hkk⟩ := hz
   intro h1 h2
   have h1 := (lt_key hi hj hki hkj).symm.trans h1
   have h2 := (lt_key hj hk hkj hkk).symm.trans h2
   refine (lt_key hi hk hki hkk).trans ?_
   simp only [decide_eq_true_eq] at h1 h2 ⊢; omega
 · obtain ⟨i, hi, hki⟩ := hx
   obtain ⟨j, hj, hkj⟩ := hy
   obtain ⟨k, hk, hkk⟩ := hz
   intro h1 h2
   have h1 := (lt_key hi hj hki hkj).symm.trans h1
   have h2 := (lt_key hj hk hkj hkk).symm.trans h2
   refine (lt_key hi hk hki hkk).trans ?_
   simp only [decide_eq_false_iff_not] at h1 h2 ⊢; omega
theorem ord_pure {key : Nd → Option Int} {cc : Con} {cap : List TV} (c : CmpOk Try.prog cc tN cap (fun n : Nd => ∃ k, key n = some k ∧ keyOk k) (cfK key)) (n0 : Nd) (h0 : ∃ k, key n0 = some k ∧ keyOk k) (l : List Nd) (hl : l.length ≤ 100000000) (hd : ∀ n ∈ l, ∃ k, key n = some k ∧ keyOk k) :
   Pure Try.prog 50 [.fz 2 (l.map zBF), .fn (.func cc.f) [] (cap.map (enc zCr))] fun d => ∃ r, Ord key l r ∧ d = .fz 2 (r.map zBF) := by
 have hnr : (D.fn (.func cc.f) [] (cap.map (enc zCr))).noref = true := by rw [D.noref, Bool.and_eq_true]; exact ⟨by rw [zAZ], norefs_enc c.pure⟩
 refine q_ordered (Q := Ord key) l hl _ hnr (fun h => ?_) fun H r hg => ?_
 · subst h; exact ⟨by simp, by simp, .nil, .nil⟩
 · refine (sort_sound (T := tN) sorts80 c rfl rfl ⟨Try.f80, Try.func80, by kernel_rfl, by kernel_rfl⟩ n0 h0 (fun own U w => ⟨[.int .i64 n0.1, .int .i64 n0.2], ?_⟩) (l := l) hg hd (Nat.lt_of_le_of_lt hl (by decide))).mono fun d H' h => ?_
   · show VRels own U w 0 [.v (.int .i64 n0.1), .v (.int .i64 n0.2)] _
     simp [VRels, VRel]
   · obtain ⟨rfl, l', hp, hs, rfl⟩ := h
     refine ⟨rfl, l', ⟨hl, hd, hp, hs.imp_of_mem fun {a b} ha hb hab i j hi hj => ?_⟩, hp.length_eq, rfl⟩
     obtain ⟨i', hi', hki⟩ := hd a (hp.subset ha)
     obtain ⟨j', hj', hkj⟩ := hd b (hp.subset hb)
     rw [hi'] at hi; rw [hj'] at hj
     have := Option.some.inj hi; subst this
     have := Option.some.inj hj; subst this
     have hab := (lt_key hj' hi' hkj hki).symm.trans hab
     simp only [decide_eq_false_iff_not] at hab
     omega
def key51 (n : Nd) : Option Int := some n.1
def Q50 (l r : List Nd) : Prop := Ord key51 l r
def Q50a (x : List Nd × (Unit × (Unit × Dg))) (r : List Nd) : Prop := x.1 ≠ [] ∧ Ord (fun n => F59 (n, x.2.2.2)) x.1 r
def Q50b (x : List Nd × (Unit × (Unit × Dg))) (r : List Nd) : Prop := x.1 ≠ [] ∧ Ord (fun n => F60 (n, x.2.2.2)) x.1 r
noncomputable def c50 : Con := ⟨50, [.sl tN, .fn 51 .unit .unit], [], .sl tN, [], fun _ => none, some Q50⟩
noncomputable def c50a : Con := ⟨50, [.sl tN, .fn 85 .unit (.fp (tF 59) 0)], [], .sl tN, [], fun _ => none, some Q50a⟩
noncomputable def c50b : Con := ⟨50, [.sl tN, .fn 85 .unit (.fp (tF 60) 0)], [], .sl tN, [], fun _ => none, some Q50b⟩
theorem ok50 : zAu Try.prog c50 := by
 refine con_pure rfl rfl (fun (x : List Nd) v hv => ?_) (fun y => rfl) fun (x : List Nd) hx => ?_
 · have hv : v ∈ [(⟨.sl tN, x⟩ : TV), ⟨.fn 51 .unit .unit, ((), ())⟩] := hv
   simp only [List.mem_cons, List.not_mem_nil, or_false] at hv
   rcases hv with rfl | rfl <;> rfl
 · obtain ⟨y, hy⟩ := hx
   have hy : Q50 x y := hy
   refine Pure.mono (ord_pure (key := key51) (cc := c51) (cap := []) (cmp_ok (@ok51 ⟨True⟩) rfl rfl (by simp) (enters_of Try.func51 (by kernel_rfl) rfl) fun a b i j hi hj => ?_) (0, 0) ⟨0, rfl, ⟨by decide, by decide⟩⟩ x hy.1 hy.2.1) fun d hd => ?_
   · refine ⟨(a, b), rfl, ⟨_, rfl⟩, fun r hr => ?_⟩
     have hr : F51 (a, b) = some r := hr
     have := Option.some.inj hr; subst this
     have := Option.some.inj hi; subst this
     have := Option.some.inj hj; subst this
     rfl
   · obtain ⟨r, h1, rfl⟩ := hd
     exact ⟨r, h1, rfl⟩
theorem ok50a : zAu Try.prog c50a := by
 refine con_pure rfl rfl (fun (x : List Nd × (Unit × (Unit × Dg))) v hv => ?_) (fun y => rfl) fun (x : List Nd × (Unit × (Unit × Dg))) hx => ?_
 · have hv : v ∈ [(⟨.sl tN, x.1⟩ : TV), ⟨.fn 85 .unit (.fp (tF 59) 0), x.2⟩] := hv
   simp only [List.mem_cons, List.not_mem_nil, or_false] at hv
   rcases hv with rfl | rfl <;> rfl
 · obtain ⟨y, hy⟩ := hx
   have hy : Q50a x y := hy
   obtain ⟨hne, h1, h2, _⟩ := hy
   obtain ⟨n0, hn0⟩ := List.exists_mem_of_ne_nil _ hne
   refine Pure.mono (ord_pure (key := fun n => F59 (n, x.2.2.2)) (cc := c85a) (cap := [⟨.fp (tF 59) 0, x.2.2⟩]) (cmp_ok (@ok85a ⟨True⟩) rfl rfl (fun v hv => ?_) (enters_of Try.func85 (by kernel_rfl) rfl) fun a b i j hi hj => ?_) n0 (h2 n0 hn0) x.1 h1 h2) fun d hd => ?_
   · simp only [List.mem_cons, List.not_mem_nil, or_false] at hv
     subst hv; rfl
   · have hF : F85a (a, b, x.2.2) = some (zDD .i64 i j) := by
       unfold F85a
       show call (F59 (a, x.2.2.2)) _ = _
       rw [hi]
       show call (F59 (b, x.2.2.2)) _ = _
       rw [hj]; rfl
     refine ⟨(a, b, x.2.2), rfl, ⟨_, hF⟩, fun r hr => ?_⟩
     have hr : F85a (a, b, x.2.2) = some r := hr
     rw [hF] at hr
     have := Option.some.inj hr; subst this
     rfl
   · obtain ⟨r, h3, rfl⟩ := hd
     exact ⟨r, ⟨hne, h3⟩, rfl⟩
theorem ok50b : zAu Try.prog c50b := by
 refine con_pure rfl rfl (fun (x : List Nd × (Unit × (Unit × Dg))) v hv => ?_) (fun y => rfl) fun (x : List Nd × (Unit × (Unit × Dg))) hx => ?_
 · have hv : v ∈ [(⟨.sl tN, x.1⟩ : TV), ⟨.fn 85 .unit (.fp (tF 60) 0), x.2⟩] := hv
   simp only [List.mem_cons, List.not_mem_nil, or_false] at hv
   rcases hv with rfl | rfl <;> rfl
 · obtain ⟨y, hy⟩ := hx
   have hy : Q50b x y := hy
   obtain ⟨hne, h1, h2, _⟩ := hy
   obtain ⟨n0, hn0⟩ := List.exists_mem_of_ne_nil _ hne
   refine Pure.mono (ord_pure (key := fun n => F60 (n, x.2.2.2)) (cc := c85b) (cap := [⟨.fp (tF 60) 0, x.2.2⟩]) (cmp_ok (@ok85b ⟨True⟩) rfl rfl (fun v hv => ?_) (enters_of Try.func85 (by kernel_rfl) rfl) fun a b i j hi hj => ?_) n0 (h2 n0 hn0) x.1 h1 h2) fun d hd => ?_
   · simp only [List.mem_cons, List.not_mem_nil, or_false] at hv
     subst hv; rfl
   · have hF : F85b (a, b, x.2.2) = some (zDD .i64 i j) := by
       unfold F85b
       show call (F60 (a, x.2.2.2)) _ = _
       rw [hi]
       show call (F60 (b, x.2.2.2)) _ = _
       rw [hj]; rfl
     refine ⟨(a, b, x.2.2), rfl, ⟨_, hF⟩, fun r hr => ?_⟩
     have hr : F85b (a, b, x.2.2) = some r := hr
     rw [hF] at hr
     have := Option.some.inj hr; subst this
     rfl
   · obtain ⟨r, h3, rfl⟩ := hd
     exact ⟨r, ⟨hne, h3⟩, rfl⟩
end Go.Q
namespace Go.Q
open Go Go.T Go.Ab Go.Proofs
variable [Go.Ab.DM]
noncomputable def F18 (x : (Int × (Int × (Int × (List (Int × Int)))))) : (Option ((Int × (Int × (Int × (List (Int × Int))))) × Int)) :=
call (F20 x) fun (r0 : Int) =>
sel (ine r0 0) (some ((0, 0, 0, ([] : List (Int × Int))), 1)) <|
need (mk 0 (n2i (zAr x.2.2.2)) 8) <|
join (iter (fun (s1 : (Int × ((List (Int × Int)) × (List Int)))) =>
sel (ilt s1.1 (n2i (zAr x.2.2.2))) (join (need (inL s1.1 (zAr x.2.2.2)) <|
sel (ilt 1 ((zBB (0, 0) x.2.2.2 (i2n s1.1)).1)) (need (ine 2 0) <|
need (room (nadd (zAr s1.2.2) (zAr (iquo .i64 ((zBB (0, 0) x.2.2.2 (i2n s1.1)).1) 2 :: ([] : List Int)))) 8) <|
some (.inl (mput ieq s1.2.1 ((zBB (0, 0) x.2.2.2 (i2n s1.1)).1) ((zBB (0, 0) x.2.2.2 (i2n s1.1)).2), lcat s1.2.2 (iquo .i64 ((zBB (0, 0) x.2.2.2 (i2n s1.1)).1) 2 :: ([] : List Int))))) <|
some (.inl (mput ieq s1.2.1 ((zBB (0, 0) x.2.2.2 (i2n s1.1)).1) ((zBB (0, 0) x.2.2.2 (i2n s1.1)).2), s1.2.2))) fun (j2 : ((List (Int × Int)) × (List Int))) =>
some (.inl (zAw .i64 s1.1 1, j2.1, j2.2))) <|
some (.inr (.inl (s1.2.1, s1.2.2)))) (0, ([] : List (Int × Int)), lrep 0 0)) fun (j3 : ((List (Int × Int)) × (List Int))) =>
call (F46 j3.2) fun (r4 : (List Int)) =>
need (ine x.2.1 0) <|
join (iter (fun (s5 : ((List (Int × Int)) × (List Int))) =>
call (F47 s5.2) fun (r6 : Int) =>
sel (ilt 0 r6) (join (call (F48 s5.2) fun (r7 : (Int × (List Int))) =>
sel (zAK (ieq (zAw .i64 (mget ieq 0 s5.1 (zCa .i64 2 r7.1)) (mget ieq 0 s5.1 (zAw .i64 (zCa .i64 2 r7.1) 1))) 0) true (ilt (iquo .i64 x.2.2.1 x.2.1) (zAw .i64 (mget ieq 0 s5.1 r7.1) (zAw .i64 (mget ieq 0 s5.1 (zCa .i64 2 r7.1)) (mget ieq 0 s5.1 (zAw .i64 (zCa .i64 2 r7.1) 1)))))) (some (.inl (s5.1, r7.2))) <|
join (need (ile 0 x.1) <|
sel (ilt (zCa .i64 2 r7.1) (zDJ .i64 1 x.1)) (call (F49 (zCa .i64 2 r7.1, r7.2)) fun (r8 : (List Int)) =>
call (F49 (zAw .i64 (zCa .i64 2 r7.1) 1, r8)) fun (r9 : (List Int)) =>
some (.inl r9)) <|
some (.inl r7.2)) fun (j10 : (List Int)) =>
sel (ilt 1 r7.1) (need (ine 2 0) <|
call (F49 (iquo .i64 r7.1 2, j10)) fun (r11 : (List Int)) =>
some (.inl (mdel ieq (mdel ieq (mput ieq s5.1 r7.1 (zAw .i64 (mget ieq 0 s5.1 r7.1) (zAw .i64 (mget ieq 0 s5.1 (zCa .i64 2 r7.1)) (mget ieq 0 s5.1 (zAw .i64 (zCa .i64 2 r7.1) 1))))) (zCa .i64 2 r7.1)) (zAw .i64 (zCa .i64 2 r7.1) 1), r11))) <|
some (.inl (mdel ieq (mdel ieq (mput ieq s5.1 r7.1 (zAw .i64 (mget ieq 0 s5.1 r7.1) (zAw .i64 (mget ieq 0 s5.1 (zCa .i64 2 r7.1)) (mget ieq 0 s5.1 (zAw .i64 (zCa .i64 2 r7.1) 1))))) (zCa .i64 2 r7.1)) (zAw .i64 (zCa .i64 2 r7.1) 1), j10))) fun (j12 : ((List (Int × Int)) × (List Int))) =>
some (.inl (j12.1, j12.2))) <|
some (.inr (.inl s5.1))) (j3.1, r4)) fun (j13 : (List (Int × Int))) =>
need (mk 0 (n2i (zAr j13)) 16) <|
mrange j13 (fun (p14 : (Int × Int)) (s15 : (List (Int × Int))) =>
need (room (nadd (zAr s15) (zAr ((p14.1, p14.2) :: ([] : List (Int × Int))))) 16) <|
some (.inl (lcat s15 ((p14.1, p14.2) :: ([] : List (Int × Int)))))) (fun (s16 : (List (Int × Int))) =>
up (callQ (Q50 s16) fun (r17 : (List (Int × Int))) =>
some ((x.1, x.2.1, x.2.2.1, r17), 0))) (lrep 0 (0, 0))
noncomputable def c18 : Con := ⟨18, [.agg (.pr (.int .i64) (.pr (.int .i64) (.pr (.int .i64) (.sl (.agg (.pr (.int .i64) (.int .i64)))))))], [], .tup (.pr (.agg (.pr (.int .i64) (.pr (.int .i64) (.pr (.int .i64) (.sl (.agg (.pr (.int .i64) (.int .i64)))))))) (.int .i64)), [], F18, none⟩
theorem ok18 : zAu Try.prog c18 := zCI hmix [c20, c46, c47, c48, c49, c50, c50a, c50b] (zAY ok20 (zAY ok46 (zAY ok47 (zAY ok48 (zAY ok49 (zAY ok50 (zAY ok50a (zAY ok50b (zCD))))))))) c18 Try.f18 (.n .o (.n .o (.n .o (.n .o (.n (.n .o (.jb ⟨[1, 2, 4, 5], [], [(2, .mp (.int .i64) (.int .i64)), (3, .many (.int .i64)), (4, .one (.own 3))], 5, 0⟩ (.l ⟨[1, 2, 4, 5, 28, 29], [(30, .int .i64)], [(2, .mp (.int .i64) (.int .i64)), (3, .many (.int .i64)), (4, .one (.own 3))], 5, 1⟩ (.n .o (.n .o (.n (.jb ⟨[1, 2, 4, 5, 28, 29, 30], [], [(2, .mp (.int .i64) (.int .i64)), (3, .many (.int .i64)), (4, .one (.own 3))], 5, 2⟩ .o) .o)))))) (.n .o (.n .o (.n (.jb ⟨[1, 2, 4], [], [(2, .mp (.int .i64) (.int .i64))], 3, 3⟩ (.l ⟨[1, 2, 4, 5, 8], [], [(2, .mp (.int .i64) (.int .i64)), (3, .gone), (4, .one (.own 5)), (5, .many (.int .i64))], 6, 4⟩ (.n .o (.jb ⟨[1, 2, 4, 5, 8], [], [(2, .mp (.int .i64) (.int .i64)), (3, .many (.int .i64)), (4, .one (.own 3))], 5, 5⟩ (.n .o (.n .o (.n .o (.n .o (.n .o (.n .o (.n .o (.j ⟨[1, 2, 4, 5, 8, 9], [], [(3, .many (.int .i64)), (4, .one (.own 3))], 5, 6⟩ .o .o)))))))))))) (.n .o (.n (.n .o (.b (.lm ⟨[1, 2, 128], [(12, .own 3)], [(3, .many (.agg (.pr (.int .i64) (.int .i64))))], 5, 7⟩ 4 .o))) (.n (.r [0, 1, 2, 3, 4, 5, 6, 7, 8, 9, 10]) .o))))))))))) Try.func18 (by kernel_rfl) (by kernel_rfl) (by kernel_rfl) rfl (fun x => by kernel_rfl) (fun x => ⟨by kernel_rfl, by kernel_rfl⟩)
noncomputable def F39 (x : (Int × (Int × (List Int)))) : (Option ((Int × (Int × (Int × (List (Int × Int))))) × Bool)) :=
call (F13 (x.1, x.2.1)) fun (r0 : ((Int × (Int × (Int × (List (Int × Int))))) × Int)) =>
join (iter (fun (s1 : (Int × (Int × (Int × (Int × (Int × (List (Int × Int)))))))) =>
sel (ilt s1.2.1 (n2i (zAr x.2.2))) (join (need (inL s1.2.1 (zAr x.2.2)) <|
sel (ieq s1.1 0) (call (F16 (s1.2.2, zBB 0 x.2.2 (i2n s1.2.1), 1)) fun (r2 : ((Int × (Int × (Int × (List (Int × Int))))) × Int)) =>
some (.inl (r2.2, r2.1))) <|
some (.inl (s1.1, s1.2.2))) fun (j3 : (Int × (Int × (Int × (Int × (List (Int × Int))))))) =>
some (.inl (j3.1, zAw .i64 s1.2.1 1, j3.2))) <|
some (.inr (.inl (s1.1, s1.2.2)))) (r0.2, 0, r0.1)) fun (j4 : (Int × (Int × (Int × (Int × (List (Int × Int))))))) =>
some (j4.2, ieq j4.1 0)
noncomputable def c39 : Con := ⟨39, [.int .i64, .int .i64, .sl (.int .i64)], [], .tup (.pr (.agg (.pr (.int .i64) (.pr (.int .i64) (.pr (.int .i64) (.sl (.agg (.pr (.int .i64) (.int .i64)))))))) .bool), [], F39, none⟩
theorem ok39 : zAu Try.prog c39 := zCI hmix [c13, c16] (zAY ok13 (zAY ok16 (zCD))) c39 Try.f39 (.n .o (.n .o (.n (.n .o (.jb ⟨[6, 8], [(9, .int .i64)], [(1, .one (.agg (.pr (.int .i64) (.pr (.int .i64) (.pr (.int .i64) (.sl (.agg (.pr (.int .i64) (.int .i64)))))))))], 2, 0⟩ (.l ⟨[6, 8, 18, 19], [(9, .int .i64), (20, .int .i64)], [(1, .one (.agg (.pr (.int .i64) (.pr (.int .i64) (.pr (.int .i64) (.sl (.agg (.pr (.int .i64) (.int .i64)))))))))], 2, 1⟩ (.n .o (.n .o (.n (.jb ⟨[6, 8, 18, 19, 20], [(9, .int .i64)], [(1, .one (.agg (.pr (.int .i64) (.pr (.int .i64) (.pr (.int .i64) (.sl (.agg (.pr (.int .i64) (.int .i64)))))))))], 2, 2⟩ .o) .o)))))) .o))) Try.func39 (by kernel_rfl) (by kernel_rfl) (by kernel_rfl) rfl (fun x => by kernel_rfl) (fun x => ⟨by kernel_rfl, by kernel_rfl⟩)
noncomputable def F61a (x : ((List (Int × Int)) × (Int × (PUnit × (Int × (Int × (Int × (List (Int × Int))))))))) : (Option Int) :=
callQ (Q50a (x.1, (), x.2.2)) fun (r0 : (List (Int × Int))) =>
join (iter (fun (s1 : (Int × (Int × Int))) =>
sel (ilt s1.2.2 (n2i (zAr r0))) (need (inL s1.2.2 (zAr r0)) <|
call (F59 (zBB (0, 0) r0 (i2n s1.2.2), x.2.2.2)) fun (r2 : Int) =>
sel (ile x.2.1 (zAw .i64 s1.1 ((zBB (0, 0) r0 (i2n s1.2.2)).2))) (some (.inr (.inl r2))) <|
some (.inl (zAw .i64 s1.1 ((zBB (0, 0) r0 (i2n s1.2.2)).2), r2, zAw .i64 s1.2.2 1))) <|
some (.inr (.inl s1.2.1))) (0, 0, 0)) fun (j3 : Int) =>
some j3
noncomputable def c61a : Con := ⟨61, [.sl (.agg (.pr (.int .i64) (.int .i64))), .int .i64, .fn 59 .unit (.fp (.agg (.pr (.int .i64) (.pr (.int .i64) (.pr (.int .i64) (.sl (.agg (.pr (.int .i64) (.int .i64)))))))) 0)], [], .int .i64, [], F61a, none⟩
theorem ok61a : zAu Try.prog c61a := zCI hmix [c85a, c85b, c50, c50a, c50b, c59] (zAY ok85a (zAY ok85b (zAY ok50 (zAY ok50a (zAY ok50b (zAY ok59 (zCD))))))) c61a Try.f61 (.n .o (.n .o (.n .o (.n (.n .o (.jb ⟨[], [(8, .int .i64)], [], 0, 0⟩ (.l ⟨[1, 5, 15, 16], [(7, .int .i64), (8, .int .i64), (17, .int .i64)], [], 1, 1⟩ .o))) .o)))) Try.func61 (by kernel_rfl) (by kernel_rfl) (by kernel_rfl) rfl (fun x => by kernel_rfl) (fun x => ⟨by kernel_rfl, by kernel_rfl⟩)
noncomputable def F61b (x : ((List (Int × Int)) × (Int × (PUnit × (Int × (Int × (Int × (List (Int × Int))))))))) : (Option Int) :=
callQ (Q50b (x.1, (), x.2.2)) fun (r0 : (List (Int × Int))) =>
join (iter (fun (s1 : (Int × (Int × Int))) =>
sel (ilt s1.2.2 (n2i (zAr r0))) (need (inL s1.2.2 (zAr r0)) <|
call (F60 (zBB (0, 0) r0 (i2n s1.2.2), x.2.2.2)) fun (r2 : Int) =>
sel (ile x.2.1 (zAw .i64 s1.1 ((zBB (0, 0) r0 (i2n s1.2.2)).2))) (some (.inr (.inl r2))) <|
some (.inl (zAw .i64 s1.1 ((zBB (0, 0) r0 (i2n s1.2.2)).2), r2, zAw .i64 s1.2.2 1))) <|
some (.inr (.inl s1.2.1))) (0, 0, 0)) fun (j3 : Int) =>
some j3
noncomputable def c61b : Con := ⟨61, [.sl (.agg (.pr (.int .i64) (.int .i64))), .int .i64, .fn 60 .unit (.fp (.agg (.pr (.int .i64) (.pr (.int .i64) (.pr (.int .i64) (.sl (.agg (.pr (.int .i64) (.int .i64)))))))) 0)], [], .int .i64, [], F61b, none⟩
theorem ok61b : zAu Try.prog c61b := zCI hmix [c85a, c85b, c50, c50a, c50b, c60] (zAY ok85a (zAY ok85b (zAY ok50 (zAY ok50a (zAY ok50b (zAY ok60 (zCD))))))) c61b Try.f61 (.n .o (.n .o (.n .o (.n (.n .o (.jb ⟨[], [(8, .int .i64)], [], 0, 0⟩ (.l ⟨[1, 5, 15, 16], [(7, .int .i64), (8, .int .i64), (17, .int .i64)], [], 1, 1⟩ .o))) .o)))) Try.func61 (by kernel_rfl) (by kernel_rfl) (by kernel_rfl) rfl (fun x => by kernel_rfl) (fun x => ⟨by kernel_rfl, by kernel_rfl⟩)
noncomputable def F24 (x : ((Int × (Int × (Int × (List (Int × Int))))) × (Int × Int))) : (Option (Int × (Int × Int))) :=
call (F20 x.1) fun (r0 : Int) =>
call (sel (bnot (ine r0 0)) (F57 x.2) <|
some 0) fun (r1 : Int) =>
sel (zAK (ine r0 0) true (ine r1 0)) (some (0, 0, 1)) <|
sel (zAK (ilt x.2.1 0) true (ilt x.2.2 x.2.1)) (some (0, 0, 2)) <|
sel (ieq x.1.2.2.1 0) (some (0, 0, 28)) <|
call (F58 (x.2, x.1.2.2.1)) fun (r2 : Int) =>
call (F61a (x.1.2.2.2, r2, (), x.1)) fun (r3 : Int) =>
call (F61b (x.1.2.2.2, r2, (), x.1)) fun (r4 : Int) =>
some (r3, r4, 0)
noncomputable def c24 : Con := ⟨24, [.agg (.pr (.int .i64) (.pr (.int .i64) (.pr (.int .i64) (.sl (.agg (.pr (.int .i64) (.int .i64))))))), .agg (.pr (.int .i64) (.int .i64))], [], .tup (.pr (.int .i64) (.pr (.int .i64) (.int .i64))), [], F24, none⟩
theorem ok24 : zAu Try.prog c24 := zCI hmix [c20, c57, c58, c59, c60, c61a, c61b] (zAY ok20 (zAY ok57 (zAY ok58 (zAY ok59 (zAY ok60 (zAY ok61a (zAY ok61b (zCD)))))))) c24 Try.f24 (.n .o (.n .o (.n .o (.n .o (.n .o (.n .o (.n .o (.n (.r [0, 1, 2, 3, 5, 6, 7, 8, 4, 9, 10, 11, 12]) .o)))))))) Try.func24 (by kernel_rfl) (by kernel_rfl) (by kernel_rfl) rfl (fun x => by kernel_rfl) (fun x => ⟨by kernel_rfl, by kernel_rfl⟩)
noncomputable def F12 (x : PUnit) : (Option Bool) :=
call (F39 (3, 2, (1 :: (1 :: (5 :: (6 :: ([] : List Int))))))) fun (r0 : ((Int × (Int × (Int × (List (Int × Int))))) × Bool)) =>
call (F18 r0.1) fun (r1 : ((Int × (Int × (Int × (List (Int × Int))))) × Int)) =>
call (F22 (r1.1, 5)) fun (r2 : (Int × (Int × Int))) =>
call (F24 (r1.1, 1, 2)) fun (r3 : (Int × (Int × Int))) =>
sel (zAK (zAK (zAK (zAK (zAK (zAK (zAK r0.2 (ieq r1.2 0) false) (ieq r2.2.2 0) false) (ieq r3.2.2 0) false) (ieq r2.1 2) false) (ieq r2.2.1 4) false) (ieq r3.1 0) false) (ieq r3.2.1 3) false) (call (sel (zAK (zAK (zAK (zAK (zAK (zAK (zAK r0.2 (ieq r1.2 0) false) (ieq r2.2.2 0) false) (ieq r3.2.2 0) false) (ieq r2.1 2) false) (ieq r2.2.1 4) false) (ieq r3.1 0) false) (ieq r3.2.1 3) false) (F40 (r1.1.2.2.2, (2, 2) :: ((3, 2) :: ([] : List (Int × Int))))) <|
some false) fun (r4 : Bool) =>
some (zAK (zAK (zAK (zAK (zAK (zAK (zAK (zAK r0.2 (ieq r1.2 0) false) (ieq r2.2.2 0) false) (ieq r3.2.2 0) false) (ieq r2.1 2) false) (ieq r2.2.1 4) false) (ieq r3.1 0) false) (ieq r3.2.1 3) false) r4 false)) <|
need (bnot (zAK (zAK (zAK (zAK (zAK (zAK (zAK r0.2 (ieq r1.2 0) false) (ieq r2.2.2 0) false) (ieq r3.2.2 0) false) (ieq r2.1 2) false) (ieq r2.2.1 4) false) (ieq r3.1 0) false) (ieq r3.2.1 3) false)) <|
some (zAK (zAK (zAK (zAK (zAK (zAK (zAK (zAK r0.2 (ieq r1.2 0) false) (ieq r2.2.2 0) false) (ieq r3.2.2 0) false) (ieq r2.1 2) false) (ieq r2.2.1 4) false) (ieq r3.1 0) false) (ieq r3.2.1 3) false) false false)
noncomputable def c12 : Con := ⟨12, [], [], .bool, [], F12, none⟩
theorem ok12 : zAu Try.prog c12 := zCI hmix [c39, c18, c22, c24, c40] (zAY ok39 (zAY ok18 (zAY ok22 (zAY ok24 (zAY ok40 (zCD)))))) c12 Try.f12 (.o) Try.func12 (by kernel_rfl) (by kernel_rfl) (by kernel_rfl) rfl (fun x => by kernel_rfl) (fun x => ⟨by kernel_rfl, by kernel_rfl⟩)
noncomputable def F3 (x : ((Int × (Int × (Int × (List (Int × Int))))) × ((Int × Int) × Int))) : (Option Bool) :=
call (F11 x.1) fun (r0 : Bool) =>
sel r0 (call (F12 ()) fun (r1 : Bool) =>
some r1) <|
call (F13 (x.2.1.1, x.2.1.2)) fun (r2 : ((Int × (Int × (Int × (List (Int × Int))))) × Int)) =>
call (F14 (x.2.1.1, x.2.1.2)) fun (r3 : ((Int × (Int × (Int × (List (Int × Int))))) × Int)) =>
call (F15 (r2.1, r3.1)) fun (r4 : Bool) =>
sel (zAK (bnot r4) true (ine r2.2 r3.2)) (some false) <|
call (F16 (x.1, x.2.1.1, x.2.2)) fun (r5 : ((Int × (Int × (Int × (List (Int × Int))))) × Int)) =>
call (F17 (x.1, x.2.1.1, x.2.2)) fun (r6 : ((Int × (Int × (Int × (List (Int × Int))))) × Int)) =>
call (F15 (r5.1, r6.1)) fun (r7 : Bool) =>
sel (zAK (bnot r7) true (ine r5.2 r6.2)) (some false) <|
call (F18 x.1) fun (r8 : ((Int × (Int × (Int × (List (Int × Int))))) × Int)) =>
call (F19 x.1) fun (r9 : ((Int × (Int × (Int × (List (Int × Int))))) × Int)) =>
call (F15 (r8.1, r9.1)) fun (r10 : Bool) =>
call (sel (zAK r10 (ieq r8.2 r9.2) false) (F20 x.1) <|
some 0) fun (r11 : Int) =>
call (sel (zAK r10 (ieq r8.2 r9.2) false) (F21 x.1) <|
some 0) fun (r12 : Int) =>
call (sel (zAK (zAK r10 (ieq r8.2 r9.2) false) (ieq r11 r12) false) (F12 ()) <|
some false) fun (r13 : Bool) =>
some (zAK (zAK (zAK r10 (ieq r8.2 r9.2) false) (ieq r11 r12) false) r13 false)
noncomputable def c3 : Con := ⟨3, [.agg (.pr (.int .i64) (.pr (.int .i64) (.pr (.int .i64) (.sl (.agg (.pr (.int .i64) (.int .i64))))))), .agg (.pr (.int .i64) (.int .i64)), .int .i64], [], .bool, [], F3, none⟩
noncomputable def F4 (x : ((Int × (Int × (Int × (List (Int × Int))))) × (Int × (Int × Int)))) : (Option Bool) :=
call (F11 x.1) fun (r0 : Bool) =>
sel r0 (call (F12 ()) fun (r1 : Bool) =>
some r1) <|
call (F22 (x.1, x.2.1)) fun (r2 : (Int × (Int × Int))) =>
call (F23 (x.1, x.2.1)) fun (r3 : (Int × (Int × Int))) =>
call (F24 (x.1, x.2.2)) fun (r4 : (Int × (Int × Int))) =>
call (F25 (x.1, x.2.2)) fun (r5 : (Int × (Int × Int))) =>
call (sel (zAK (zAK (zAK (zAK (zAK (ieq r2.1 r3.1) (ieq r2.2.1 r3.2.1) false) (ieq r2.2.2 r3.2.2) false) (ieq r4.1 r5.1) false) (ieq r4.2.1 r5.2.1) false) (ieq r4.2.2 r5.2.2) false) (F12 ()) <|
some false) fun (r6 : Bool) =>
some (zAK (zAK (zAK (zAK (zAK (zAK (ieq r2.1 r3.1) (ieq r2.2.1 r3.2.1) false) (ieq r2.2.2 r3.2.2) false) (ieq r4.1 r5.1) false) (ieq r4.2.1 r5.2.1) false) (ieq r4.2.2 r5.2.2) false) r6 false)
noncomputable def c4 : Con := ⟨4, [.agg (.pr (.int .i64) (.pr (.int .i64) (.pr (.int .i64) (.sl (.agg (.pr (.int .i64) (.int .i64))))))), .int .i64, .agg (.pr (.int .i64) (.int .i64))], [], .bool, [], F4, none⟩
end Go.Q
