/- Part 7 of what the claim leans on: QF1, QPlain, QRankP, QHeapP, QCmp, QCmp2, QCmp3, QCmp4, QAwk, QLaw6, QLaw6b. -/
import Derived.Test.YtfibkbmlgigemaaM6
import Derived.Calls
import Derived.KernelRfl
import Derived.Orders
import Derived.Laws.Sem
import Derived.Laws.CopyRow
import Derived.Laws.Cells
import Derived.Room.Entries
import Derived.Lib.Overlaps
import GoSem.Conv.BytesToString
import Derived.OrdersHeld
import Derived.ProofKit
import Derived.OpenShut
import Derived.Carry
import Derived.Shelf.SlSortCmp.InsertionK
import Derived.Test.YtfibkbmlgigemaaProg
import Derived.Shelf.SlSortCmp.WholeK
import Derived.Ground.SlsfProg
/- Printed functions and their contracts. -/
set_option linter.unusedVariables false
set_option maxRecDepth 100000
namespace Go.Q
open Go Go.T Go.Ab Go.Proofs
noncomputable def F18 (x : (Int × (Int × (Int × (List (Int × Int)))))) : (Option ((Int × (Int × (Int × (List (Int × Int))))) × Int)) :=
call (F20 x) fun (r0 : Int) =>
sel (ine r0 0) (some ((0, 0, 0, ([] : List (Int × Int))), 1)) <|
need (mk 0 (n2i (llen x.2.2.2)) 8) <|
join (iter (fun (s1 : (Int × ((List (Int × Int)) × (List Int)))) =>
sel (ilt s1.1 (n2i (llen x.2.2.2))) (join (need (inL s1.1 (llen x.2.2.2)) <|
sel (ilt 1 ((lget (0, 0) x.2.2.2 (i2n s1.1)).1)) (need (ine 2 0) <|
need (room (nadd (llen s1.2.2) (llen (iquo .i64 ((lget (0, 0) x.2.2.2 (i2n s1.1)).1) 2 :: ([] : List Int)))) 8) <|
some (.inl (mput ieq s1.2.1 ((lget (0, 0) x.2.2.2 (i2n s1.1)).1) ((lget (0, 0) x.2.2.2 (i2n s1.1)).2), lcat s1.2.2 (iquo .i64 ((lget (0, 0) x.2.2.2 (i2n s1.1)).1) 2 :: ([] : List Int))))) <|
some (.inl (mput ieq s1.2.1 ((lget (0, 0) x.2.2.2 (i2n s1.1)).1) ((lget (0, 0) x.2.2.2 (i2n s1.1)).2), s1.2.2))) fun (j2 : ((List (Int × Int)) × (List Int))) =>
some (.inl (iadd .i64 s1.1 1, j2.1, j2.2))) <|
some (.inr (.inl (s1.2.1, s1.2.2)))) (0, ([] : List (Int × Int)), lrep 0 0)) fun (j3 : ((List (Int × Int)) × (List Int))) =>
call (F46 j3.2) fun (r4 : (List Int)) =>
need (ine x.2.1 0) <|
join (iter (fun (s5 : ((List (Int × Int)) × (List Int))) =>
call (F47 s5.2) fun (r6 : Int) =>
sel (ilt 0 r6) (join (call (F48 s5.2) fun (r7 : (Int × (List Int))) =>
sel (pickV (ieq (iadd .i64 (mget ieq 0 s5.1 (imul .i64 2 r7.1)) (mget ieq 0 s5.1 (iadd .i64 (imul .i64 2 r7.1) 1))) 0) true (ilt (iquo .i64 x.2.2.1 x.2.1) (iadd .i64 (mget ieq 0 s5.1 r7.1) (iadd .i64 (mget ieq 0 s5.1 (imul .i64 2 r7.1)) (mget ieq 0 s5.1 (iadd .i64 (imul .i64 2 r7.1) 1)))))) (some (.inl (s5.1, r7.2))) <|
join (need (ile 0 x.1) <|
sel (ilt (imul .i64 2 r7.1) (ishl .i64 1 x.1)) (call (F49 (imul .i64 2 r7.1, r7.2)) fun (r8 : (List Int)) =>
call (F49 (iadd .i64 (imul .i64 2 r7.1) 1, r8)) fun (r9 : (List Int)) =>
some (.inl r9)) <|
some (.inl r7.2)) fun (j10 : (List Int)) =>
sel (ilt 1 r7.1) (need (ine 2 0) <|
call (F49 (iquo .i64 r7.1 2, j10)) fun (r11 : (List Int)) =>
some (.inl (mdel ieq (mdel ieq (mput ieq s5.1 r7.1 (iadd .i64 (mget ieq 0 s5.1 r7.1) (iadd .i64 (mget ieq 0 s5.1 (imul .i64 2 r7.1)) (mget ieq 0 s5.1 (iadd .i64 (imul .i64 2 r7.1) 1))))) (imul .i64 2 r7.1)) (iadd .i64 (imul .i64 2 r7.1) 1), r11))) <|
some (.inl (mdel ieq (mdel ieq (mput ieq s5.1 r7.1 (iadd .i64 (mget ieq 0 s5.1 r7.1) (iadd .i64 (mget ieq 0 s5.1 (imul .i64 2 r7.1)) (mget ieq 0 s5.1 (iadd .i64 (imul .i64 2 r7.1) 1))))) (imul .i64 2 r7.1)) (iadd .i64 (imul .i64 2 r7.1) 1), j10))) fun (j12 : ((List (Int × Int)) × (List Int))) =>
some (.inl (j12.1, j12.2))) <|
some (.inr (.inl s5.1))) (j3.1, r4)) fun (j13 : (List (Int × Int))) =>
need (mk 0 (n2i (llen j13)) 16) <|
mrange j13 (fun (p14 : (Int × Int)) (s15 : (List (Int × Int))) =>
need (room (nadd (llen s15) (llen ((p14.1, p14.2) :: ([] : List (Int × Int))))) 16) <|
some (.inl (lcat s15 ((p14.1, p14.2) :: ([] : List (Int × Int)))))) (fun (s16 : (List (Int × Int))) =>
up (callQ (Q50 s16) fun (r17 : (List (Int × Int))) =>
some ((x.1, x.2.1, x.2.2.1, r17), 0))) (lrep 0 (0, 0))
noncomputable def c18 : Con := ⟨18, [.agg (.pr (.int .i64) (.pr (.int .i64) (.pr (.int .i64) (.sl (.agg (.pr (.int .i64) (.int .i64)))))))], [], .tup (.pr (.agg (.pr (.int .i64) (.pr (.int .i64) (.pr (.int .i64) (.sl (.agg (.pr (.int .i64) (.int .i64)))))))) (.int .i64)), [], F18, none⟩
theorem ok18 : ConOk Try.prog c18 := ok_of hmix [c20, c46, c47, c48, c49, c50, c50a, c50b] (okCons ok20 (okCons ok46 (okCons ok47 (okCons ok48 (okCons ok49 (okCons ok50 (okCons ok50a (okCons ok50b (okNil))))))))) c18 Try.f18 (.n .o (.n .o (.n .o (.n .o (.n (.n .o (.jb ⟨[1, 2, 4, 5], [], [(2, .mp (.int .i64) (.int .i64)), (3, .many (.int .i64)), (4, .one (.own 3))], 5, 0⟩ (.l ⟨[1, 2, 4, 5, 28, 29], [(30, .int .i64)], [(2, .mp (.int .i64) (.int .i64)), (3, .many (.int .i64)), (4, .one (.own 3))], 5, 1⟩ (.n .o (.n .o (.n (.jb ⟨[1, 2, 4, 5, 28, 29, 30], [], [(2, .mp (.int .i64) (.int .i64)), (3, .many (.int .i64)), (4, .one (.own 3))], 5, 2⟩ .o) .o)))))) (.n .o (.n .o (.n (.jb ⟨[1, 2, 4], [], [(2, .mp (.int .i64) (.int .i64))], 3, 3⟩ (.l ⟨[1, 2, 4, 5, 8], [], [(2, .mp (.int .i64) (.int .i64)), (3, .gone), (4, .one (.own 5)), (5, .many (.int .i64))], 6, 4⟩ (.n .o (.jb ⟨[1, 2, 4, 5, 8], [], [(2, .mp (.int .i64) (.int .i64)), (3, .many (.int .i64)), (4, .one (.own 3))], 5, 5⟩ (.n .o (.n .o (.n .o (.n .o (.n .o (.n .o (.n .o (.j ⟨[1, 2, 4, 5, 8, 9], [], [(3, .many (.int .i64)), (4, .one (.own 3))], 5, 6⟩ .o .o)))))))))))) (.n .o (.n (.n .o (.b (.lm ⟨[1, 2, 128], [(12, .own 3)], [(3, .many (.agg (.pr (.int .i64) (.int .i64))))], 5, 7⟩ 4 .o))) (.n (.r [0, 1, 2, 3, 4, 5, 6, 7, 8, 9, 10]) .o))))))))))) Try.func18 (by kernel_rfl) (by kernel_rfl) (by kernel_rfl) rfl (fun x => by kernel_rfl) (fun x => ⟨by kernel_rfl, by kernel_rfl⟩)
noncomputable def F39 (x : (Int × (Int × (List Int)))) : (Option ((Int × (Int × (Int × (List (Int × Int))))) × Bool)) :=
call (F13 (x.1, x.2.1)) fun (r0 : ((Int × (Int × (Int × (List (Int × Int))))) × Int)) =>
join (iter (fun (s1 : (Int × (Int × (Int × (Int × (Int × (List (Int × Int)))))))) =>
sel (ilt s1.2.1 (n2i (llen x.2.2))) (join (need (inL s1.2.1 (llen x.2.2)) <|
sel (ieq s1.1 0) (call (F16 (s1.2.2, lget 0 x.2.2 (i2n s1.2.1), 1)) fun (r2 : ((Int × (Int × (Int × (List (Int × Int))))) × Int)) =>
some (.inl (r2.2, r2.1))) <|
some (.inl (s1.1, s1.2.2))) fun (j3 : (Int × (Int × (Int × (Int × (List (Int × Int))))))) =>
some (.inl (j3.1, iadd .i64 s1.2.1 1, j3.2))) <|
some (.inr (.inl (s1.1, s1.2.2)))) (r0.2, 0, r0.1)) fun (j4 : (Int × (Int × (Int × (Int × (List (Int × Int))))))) =>
some (j4.2, ieq j4.1 0)
noncomputable def c39 : Con := ⟨39, [.int .i64, .int .i64, .sl (.int .i64)], [], .tup (.pr (.agg (.pr (.int .i64) (.pr (.int .i64) (.pr (.int .i64) (.sl (.agg (.pr (.int .i64) (.int .i64)))))))) .bool), [], F39, none⟩
theorem ok39 : ConOk Try.prog c39 := ok_of hmix [c13, c16] (okCons ok13 (okCons ok16 (okNil))) c39 Try.f39 (.n .o (.n .o (.n (.n .o (.jb ⟨[6, 8], [(9, .int .i64)], [(1, .one (.agg (.pr (.int .i64) (.pr (.int .i64) (.pr (.int .i64) (.sl (.agg (.pr (.int .i64) (.int .i64)))))))))], 2, 0⟩ (.l ⟨[6, 8, 18, 19], [(9, .int .i64), (20, .int .i64)], [(1, .one (.agg (.pr (.int .i64) (.pr (.int .i64) (.pr (.int .i64) (.sl (.agg (.pr (.int .i64) (.int .i64)))))))))], 2, 1⟩ (.n .o (.n .o (.n (.jb ⟨[6, 8, 18, 19, 20], [(9, .int .i64)], [(1, .one (.agg (.pr (.int .i64) (.pr (.int .i64) (.pr (.int .i64) (.sl (.agg (.pr (.int .i64) (.int .i64)))))))))], 2, 2⟩ .o) .o)))))) .o))) Try.func39 (by kernel_rfl) (by kernel_rfl) (by kernel_rfl) rfl (fun x => by kernel_rfl) (fun x => ⟨by kernel_rfl, by kernel_rfl⟩)
noncomputable def F61a (x : ((List (Int × Int)) × (Int × (PUnit × (Int × (Int × (Int × (List (Int × Int))))))))) : (Option Int) :=
callQ (Q50a (x.1, (), x.2.2)) fun (r0 : (List (Int × Int))) =>
join (iter (fun (s1 : (Int × (Int × Int))) =>
sel (ilt s1.2.2 (n2i (llen r0))) (need (inL s1.2.2 (llen r0)) <|
call (F59 (lget (0, 0) r0 (i2n s1.2.2), x.2.2.2)) fun (r2 : Int) =>
sel (ile x.2.1 (iadd .i64 s1.1 ((lget (0, 0) r0 (i2n s1.2.2)).2))) (some (.inr (.inl r2))) <|
some (.inl (iadd .i64 s1.1 ((lget (0, 0) r0 (i2n s1.2.2)).2), r2, iadd .i64 s1.2.2 1))) <|
some (.inr (.inl s1.2.1))) (0, 0, 0)) fun (j3 : Int) =>
some j3
noncomputable def c61a : Con := ⟨61, [.sl (.agg (.pr (.int .i64) (.int .i64))), .int .i64, .fn 59 .unit (.fp (.agg (.pr (.int .i64) (.pr (.int .i64) (.pr (.int .i64) (.sl (.agg (.pr (.int .i64) (.int .i64)))))))) 0)], [], .int .i64, [], F61a, none⟩
theorem ok61a : ConOk Try.prog c61a := ok_of hmix [c85a, c85b, c50, c50a, c50b, c59] (okCons ok85a (okCons ok85b (okCons ok50 (okCons ok50a (okCons ok50b (okCons ok59 (okNil))))))) c61a Try.f61 (.n .o (.n .o (.n .o (.n (.n .o (.jb ⟨[], [(8, .int .i64)], [], 0, 0⟩ (.l ⟨[1, 5, 15, 16], [(7, .int .i64), (8, .int .i64), (17, .int .i64)], [], 1, 1⟩ .o))) .o)))) Try.func61 (by kernel_rfl) (by kernel_rfl) (by kernel_rfl) rfl (fun x => by kernel_rfl) (fun x => ⟨by kernel_rfl, by kernel_rfl⟩)
noncomputable def F61b (x : ((List (Int × Int)) × (Int × (PUnit × (Int × (Int × (Int × (List (Int × Int))))))))) : (Option Int) :=
callQ (Q50b (x.1, (), x.2.2)) fun (r0 : (List (Int × Int))) =>
join (iter (fun (s1 : (Int × (Int × Int))) =>
sel (ilt s1.2.2 (n2i (llen r0))) (need (inL s1.2.2 (llen r0)) <|
call (F60 (lget (0, 0) r0 (i2n s1.2.2), x.2.2.2)) fun (r2 : Int) =>
sel (ile x.2.1 (iadd .i64 s1.1 ((lget (0, 0) r0 (i2n s1.2.2)).2))) (some (.inr (.inl r2))) <|
some (.inl (iadd .i64 s1.1 ((lget (0, 0) r0 (i2n s1.2.2)).2), r2, iadd .i64 s1.2.2 1))) <|
some (.inr (.inl s1.2.1))) (0, 0, 0)) fun (j3 : Int) =>
some j3
noncomputable def c61b : Con := ⟨61, [.sl (.agg (.pr (.int .i64) (.int .i64))), .int .i64, .fn 60 .unit (.fp (.agg (.pr (.int .i64) (.pr (.int .i64) (.pr (.int .i64) (.sl (.agg (.pr (.int .i64) (.int .i64)))))))) 0)], [], .int .i64, [], F61b, none⟩
theorem ok61b : ConOk Try.prog c61b := ok_of hmix [c85a, c85b, c50, c50a, c50b, c60] (okCons ok85a (okCons ok85b (okCons ok50 (okCons ok50a (okCons ok50b (okCons ok60 (okNil))))))) c61b Try.f61 (.n .o (.n .o (.n .o (.n (.n .o (.jb ⟨[], [(8, .int .i64)], [], 0, 0⟩ (.l ⟨[1, 5, 15, 16], [(7, .int .i64), (8, .int .i64), (17, .int .i64)], [], 1, 1⟩ .o))) .o)))) Try.func61 (by kernel_rfl) (by kernel_rfl) (by kernel_rfl) rfl (fun x => by kernel_rfl) (fun x => ⟨by kernel_rfl, by kernel_rfl⟩)
noncomputable def F24 (x : ((Int × (Int × (Int × (List (Int × Int))))) × (Int × Int))) : (Option (Int × (Int × Int))) :=
call (F20 x.1) fun (r0 : Int) =>
call (sel (bnot (ine r0 0)) (F57 x.2) <|
some 0) fun (r1 : Int) =>
sel (pickV (ine r0 0) true (ine r1 0)) (some (0, 0, 1)) <|
sel (pickV (ilt x.2.1 0) true (ilt x.2.2 x.2.1)) (some (0, 0, 2)) <|
sel (ieq x.1.2.2.1 0) (some (0, 0, 28)) <|
call (F58 (x.2, x.1.2.2.1)) fun (r2 : Int) =>
call (F61a (x.1.2.2.2, r2, (), x.1)) fun (r3 : Int) =>
call (F61b (x.1.2.2.2, r2, (), x.1)) fun (r4 : Int) =>
some (r3, r4, 0)
noncomputable def c24 : Con := ⟨24, [.agg (.pr (.int .i64) (.pr (.int .i64) (.pr (.int .i64) (.sl (.agg (.pr (.int .i64) (.int .i64))))))), .agg (.pr (.int .i64) (.int .i64))], [], .tup (.pr (.int .i64) (.pr (.int .i64) (.int .i64))), [], F24, none⟩
theorem ok24 : ConOk Try.prog c24 := ok_of hmix [c20, c57, c58, c59, c60, c61a, c61b] (okCons ok20 (okCons ok57 (okCons ok58 (okCons ok59 (okCons ok60 (okCons ok61a (okCons ok61b (okNil)))))))) c24 Try.f24 (.n .o (.n .o (.n .o (.n .o (.n .o (.n .o (.n .o (.n (.r [0, 1, 2, 3, 5, 6, 7, 8, 4, 9, 10, 11, 12]) .o)))))))) Try.func24 (by kernel_rfl) (by kernel_rfl) (by kernel_rfl) rfl (fun x => by kernel_rfl) (fun x => ⟨by kernel_rfl, by kernel_rfl⟩)
noncomputable def F12 (x : PUnit) : (Option Bool) :=
call (F39 (3, 2, (1 :: (1 :: (5 :: (6 :: ([] : List Int))))))) fun (r0 : ((Int × (Int × (Int × (List (Int × Int))))) × Bool)) =>
call (F18 r0.1) fun (r1 : ((Int × (Int × (Int × (List (Int × Int))))) × Int)) =>
call (F22 (r1.1, 5)) fun (r2 : (Int × (Int × Int))) =>
call (F24 (r1.1, 1, 2)) fun (r3 : (Int × (Int × Int))) =>
sel (pickV (pickV (pickV (pickV (pickV (pickV (pickV r0.2 (ieq r1.2 0) false) (ieq r2.2.2 0) false) (ieq r3.2.2 0) false) (ieq r2.1 2) false) (ieq r2.2.1 4) false) (ieq r3.1 0) false) (ieq r3.2.1 3) false) (call (sel (pickV (pickV (pickV (pickV (pickV (pickV (pickV r0.2 (ieq r1.2 0) false) (ieq r2.2.2 0) false) (ieq r3.2.2 0) false) (ieq r2.1 2) false) (ieq r2.2.1 4) false) (ieq r3.1 0) false) (ieq r3.2.1 3) false) (F40 (r1.1.2.2.2, (2, 2) :: ((3, 2) :: ([] : List (Int × Int))))) <|
some false) fun (r4 : Bool) =>
some (pickV (pickV (pickV (pickV (pickV (pickV (pickV (pickV r0.2 (ieq r1.2 0) false) (ieq r2.2.2 0) false) (ieq r3.2.2 0) false) (ieq r2.1 2) false) (ieq r2.2.1 4) false) (ieq r3.1 0) false) (ieq r3.2.1 3) false) r4 false)) <|
need (bnot (pickV (pickV (pickV (pickV (pickV (pickV (pickV r0.2 (ieq r1.2 0) false) (ieq r2.2.2 0) false) (ieq r3.2.2 0) false) (ieq r2.1 2) false) (ieq r2.2.1 4) false) (ieq r3.1 0) false) (ieq r3.2.1 3) false)) <|
some (pickV (pickV (pickV (pickV (pickV (pickV (pickV (pickV r0.2 (ieq r1.2 0) false) (ieq r2.2.2 0) false) (ieq r3.2.2 0) false) (ieq r2.1 2) false) (ieq r2.2.1 4) false) (ieq r3.1 0) false) (ieq r3.2.1 3) false) false false)
noncomputable def c12 : Con := ⟨12, [], [], .bool, [], F12, none⟩
theorem ok12 : ConOk Try.prog c12 := ok_of hmix [c39, c18, c22, c24, c40] (okCons ok39 (okCons ok18 (okCons ok22 (okCons ok24 (okCons ok40 (okNil)))))) c12 Try.f12 (.o) Try.func12 (by kernel_rfl) (by kernel_rfl) (by kernel_rfl) rfl (fun x => by kernel_rfl) (fun x => ⟨by kernel_rfl, by kernel_rfl⟩)
noncomputable def F6 (x : ((Int × (Int × (Int × (List (Int × Int))))) × Int)) : (Option Bool) :=
call (F11 x.1) fun (r0 : Bool) =>
call (sel (bnot r0) (F21 x.1) <|
some 0) fun (r1 : Int) =>
sel (pickV r0 true (ine r1 0)) (call (F12 ()) fun (r2 : Bool) =>
some r2) <|
call (F18 x.1) fun (r3 : ((Int × (Int × (Int × (List (Int × Int))))) × Int)) =>
call (F18 r3.1) fun (r4 : ((Int × (Int × (Int × (List (Int × Int))))) × Int)) =>
need (ile 0 x.1.1) <|
need (ine (ishl .i64 1 x.1.1) 0) <|
call (F22 (x.1, irem (iwrap .i64 x.2) (ishl .i64 1 x.1.1))) fun (r5 : (Int × (Int × Int))) =>
call (F22 (r3.1, irem (iwrap .i64 x.2) (ishl .i64 1 x.1.1))) fun (r6 : (Int × (Int × Int))) =>
call (sel (pickV (pickV (pickV (ieq r3.2 0) (ieq r4.2 0) false) (ieq r5.2.2 0) false) (ieq r6.2.2 0) false) (F20 r3.1) <|
some 0) fun (r7 : Int) =>
call (sel (pickV (pickV (pickV (pickV (pickV (pickV (pickV (pickV (ieq r3.2 0) (ieq r4.2 0) false) (ieq r5.2.2 0) false) (ieq r6.2.2 0) false) (ieq r7 0) false) (ieq r3.1.2.2.1 x.1.2.2.1) false) (ieq r3.1.1 x.1.1) false) (ieq r3.1.2.1 x.1.2.1) false) (ilt (n2i (llen r3.1.2.2.2)) (imul .i64 4 x.1.2.1)) false) (F15 (r3.1, r4.1)) <|
some false) fun (r8 : Bool) =>
call (sel (pickV (pickV (pickV (pickV (pickV (pickV (pickV (pickV (pickV (pickV (pickV (ieq r3.2 0) (ieq r4.2 0) false) (ieq r5.2.2 0) false) (ieq r6.2.2 0) false) (ieq r7 0) false) (ieq r3.1.2.2.1 x.1.2.2.1) false) (ieq r3.1.1 x.1.1) false) (ieq r3.1.2.1 x.1.2.1) false) (ilt (n2i (llen r3.1.2.2.2)) (imul .i64 4 x.1.2.1)) false) r8 false) (ile r6.1 r5.1) false) (ile r5.2.1 r6.2.1) false) (F12 ()) <|
some false) fun (r9 : Bool) =>
some (pickV (pickV (pickV (pickV (pickV (pickV (pickV (pickV (pickV (pickV (pickV (pickV (ieq r3.2 0) (ieq r4.2 0) false) (ieq r5.2.2 0) false) (ieq r6.2.2 0) false) (ieq r7 0) false) (ieq r3.1.2.2.1 x.1.2.2.1) false) (ieq r3.1.1 x.1.1) false) (ieq r3.1.2.1 x.1.2.1) false) (ilt (n2i (llen r3.1.2.2.2)) (imul .i64 4 x.1.2.1)) false) r8 false) (ile r6.1 r5.1) false) (ile r5.2.1 r6.2.1) false) r9 false)
noncomputable def c6 : Con := ⟨6, [.agg (.pr (.int .i64) (.pr (.int .i64) (.pr (.int .i64) (.sl (.agg (.pr (.int .i64) (.int .i64))))))), .int .u8], [], .bool, [], F6, none⟩
theorem ok6 : ConOk Try.prog c6 := ok_of hmix [c11, c21, c12, c18, c22, c20, c15] (okCons ok11 (okCons ok21 (okCons ok12 (okCons ok18 (okCons ok22 (okCons ok20 (okCons ok15 (okNil)))))))) c6 Try.f6 (.o) Try.func6 (by kernel_rfl) (by kernel_rfl) (by kernel_rfl) rfl (fun x => by kernel_rfl) (fun x => ⟨by kernel_rfl, by kernel_rfl⟩)
end Go.Q
/- Plain laws, with all printed functions. -/
/- What Rank gives. -/
set_option linter.unusedVariables false
set_option linter.unusedSimpArgs false
set_option maxRecDepth 100000
namespace Go.Q
open Go Go.T Go.Pl Go.Proofs Go.Proofs.Qd
theorem ishr_u (y k : Nat) (hk : k ≤ 64) : ishr .u64 (y : Int) (k : Int) = ((y / 2 ^ k : Nat) : Int) := by
  unfold ishr
  have e : min (k : Int).toNat IntKind.u64.bits = k := by simp [IntKind.bits]; omega
  have e2 : (2 : Int) ^ k = ((2 ^ k : Nat) : Int) := by simp
  rw [e, e2]
  generalize 2 ^ k = m
  rw [Int.fdiv_eq_ediv_of_nonneg _ (by omega)]; simp
theorem tab_fin {y : Nat} {n : Int} (hn : 0 ≤ n ∧ n ≤ 64) (h : y < 256) : need (inL (iwrap .u8 (y : Int)) (ssize tab8)) (some (iadd .i64 n (iwrap .i64 (sget tab8 (iwrap .u8 (y : Int)))))) = some (n + blen y) := by
  have e : iwrap .u8 (y : Int) = (y : Int) := u8w h
  rw [need_t]
  · exact congrArg some (fin8 hn h)
  · rw [e]; exact inL_t (show y < 256 from h)
theorem F105_eq (x : Nat) (hx : x < 18446744073709551616) : F105 (x : Int) = some (blen x : Int) := by
  unfold F105
  have step : ∀ (a y : Nat) (k : Nat) (hk : k ≤ 64) {R : Type} (K : Int × Int → Option R) (r : R), (2 ^ k ≤ y → K (((y / 2 ^ k : Nat) : Int), ((a + k : Nat) : Int)) = some r) → (y < 2 ^ k → K ((y : Int), (a : Int)) = some r) → a + k ≤ 64 →
      join (sel (ile ((2 ^ k : Nat) : Int) y) (need (ile 0 (k : Int)) (some (.inl (ishr .u64 y k, iadd .i64 a k)))) (some (.inl ((y : Int), (a : Int))))) K = some r := by
    intro a y k hk R K r h1 h2 h3
    rw [ile_d, sel_i, need_t (by rw [ile_d]; simp), ishr_u y k hk, iadd_ok (by omega) (by omega)]
    split
    · rename_i h; rw [join_bl]; have := h1 (by exact_mod_cast h); simpa using this
    · rename_i h; rw [join_bl]; exact h2 (by have : ¬ (2 ^ k ≤ y) := fun h' => h (by exact_mod_cast h'); omega)
  have last : ∀ (a y : Nat), a ≤ 64 → y < 256 → blen y + a = blen x → need (inL (iwrap .u8 (y : Int)) (ssize tab8)) (some (iadd .i64 (a : Int) (iwrap .i64 (sget tab8 (iwrap .u8 (y : Int)))))) = some ((blen x : Nat) : Int) := by
    intro a y ha hy he
    rw [tab_fin (by omega) hy]; congr 1; omega
  have two : ∀ (a y : Nat), a ≤ 48 → y < 65536 → blen y + a = blen x → join (sel (ile 256 (y : Int)) (need (ile 0 8) (some (.inl (ishr .u64 y 8, iadd .i64 a 8)))) (some (.inl ((y : Int), (a : Int))))) (fun j2 : Int × Int => need (inL (iwrap .u8 j2.1) (ssize tab8)) (some (iadd .i64 j2.2 (iwrap .i64 (sget tab8 (iwrap .u8 j2.1)))))) = some ((blen x : Nat) : Int) := by
    intro a y ha hy he
    refine step a y 8 (by omega) _ _ (fun h => last (a + 8) _ (by omega) (by omega) ?_) (fun h => last a y (by omega) (by omega) he) (by omega)
    rw [← he, ← blen_shr 8 h]; omega
  have three : ∀ (a y : Nat), a ≤ 32 → y < 4294967296 → blen y + a = blen x → join (sel (ile 65536 (y : Int)) (need (ile 0 16) (some (.inl (ishr .u64 y 16, iadd .i64 a 16)))) (some (.inl ((y : Int), (a : Int))))) (fun j1 : Int × Int => join (sel (ile 256 j1.1) (need (ile 0 8) (some (.inl (ishr .u64 j1.1 8, iadd .i64 j1.2 8)))) (some (.inl (j1.1, j1.2)))) (fun j2 : Int × Int => need (inL (iwrap .u8 j2.1) (ssize tab8)) (some (iadd .i64 j2.2 (iwrap .i64 (sget tab8 (iwrap .u8 j2.1))))))) = some ((blen x : Nat) : Int) := by
    intro a y ha hy he
    refine step a y 16 (by omega) _ _ (fun h => two (a + 16) _ (by omega) (by omega) ?_) (fun h => two a y (by omega) (by omega) he) (by omega)
    rw [← he, ← blen_shr 16 h]; omega
  refine step 0 x 32 (by omega) _ _ (fun h => three 32 _ (by omega) (by omega) ?_) (fun h => three 0 x (by omega) (by omega) rfl) (by omega)
  rw [← blen_shr 32 h]
theorem F71_eq (x : Nat) (hx : x < 18446744073709551616) : F71 (x : Int) = some (blen x : Int) := by
  unfold F71
  rw [sel_f rfl, F105_eq x hx]; rfl
def sh (w x : Nat) : Nat := w + 1 - blen x
def LO (w x : Nat) : Int := ((x * 2 ^ sh w x : Nat) : Int) - (2 ^ w : Nat)
def HI (w x : Nat) : Int := (((x + 1) * 2 ^ sh w x : Nat) : Int) - (2 ^ w : Nat) - 1
theorem blen_pos {x : Nat} (h : 1 ≤ x) : 1 ≤ blen x ∧ 2 ^ (blen x - 1) ≤ x ∧ x < 2 ^ blen x := by
  unfold blen
  rw [if_neg (by omega)]
  exact ⟨by omega, by simpa using Nat.log2_self_le (by omega), Nat.lt_log2_self⟩
theorem blen_of {x b : Nat} (h1 : 2 ^ b ≤ x) (h2 : x < 2 ^ (b + 1)) : blen x = b + 1 := by
  have h0 : x ≠ 0 := by have := Nat.two_pow_pos b; omega
  unfold blen
  rw [if_neg h0]
  congr 1
  exact (Nat.log2_eq_iff h0).2 ⟨h1, h2⟩
structure Nod (w x : Nat) : Prop where
  w1 : 1 ≤ w
  w2 : w ≤ 20
  x1 : 1 ≤ x
  x2 : x < 2 ^ (w + 1)
theorem pow21 {w : Nat} (h : w ≤ 20) : 2 ^ w ≤ 1048576 := Nat.le_trans (Nat.pow_le_pow_right (by decide) h) (by decide)
theorem Nod.le {w x : Nat} (h : Nod w x) : blen x ≤ w + 1 := by
  obtain ⟨h1, h2, h3⟩ := blen_pos h.x1
  rcases Nat.lt_or_ge (w + 1) (blen x) with h4 | h4
  · have : 2 ^ (w + 1) ≤ 2 ^ (blen x - 1) := Nat.pow_le_pow_right (by decide) (by omega)
    have := h.x2; omega
  · exact h4
theorem Nod.bounds {w x : Nat} (h : Nod w x) : 2 ^ w ≤ x * 2 ^ sh w x ∧ (x + 1) * 2 ^ sh w x ≤ 2 ^ (w + 1) ∧ sh w x ≤ w := by
  obtain ⟨h1, h2, h3⟩ := blen_pos h.x1
  have h4 := h.le
  have h5 : sh w x + (blen x - 1) = w := by unfold sh; omega
  have h6 : sh w x + blen x = w + 1 := by unfold sh; omega
  refine ⟨?_, ?_, by omega⟩
  · have e : 2 ^ w = 2 ^ (blen x - 1) * 2 ^ sh w x := by rw [← Nat.pow_add, Nat.add_comm, h5]
    rw [e]; exact Nat.mul_le_mul_right _ h2
  · have e : 2 ^ (w + 1) = 2 ^ blen x * 2 ^ sh w x := by rw [← Nat.pow_add]; congr 1; omega
    rw [e]; exact Nat.mul_le_mul_right _ h3
theorem ishl_n (a b : Nat) (hb : b ≤ 63) (h : a * 2 ^ b < 9223372036854775808) : ishl .i64 (a : Int) (b : Int) = ((a * 2 ^ b : Nat) : Int) := by
  unfold ishl
  have e : min (b : Int).toNat IntKind.i64.bits = b := by simp [IntKind.bits]; omega
  rw [e, show (a : Int) * 2 ^ b = ((a * 2 ^ b : Nat) : Int) by simp]
  exact wrap_id (by omega) (by omega)
theorem ishl_1 (w : Nat) (h : w ≤ 20) : ishl .i64 1 (w : Int) = ((2 ^ w : Nat) : Int) := by
  have := pow21 h
  have := ishl_n 1 w (by omega) (by omega)
  simpa using this
theorem isub_s {a b : Int} (h1 : -9223372036854775808 ≤ a - b) (h2 : a - b < 9223372036854775808) : isub .i64 a b = a - b := wrap_id h1 h2
theorem F54_eq {w x : Nat} (h : Nod w x) : F54 ((w : Int), (x : Int)) = some (LO w x, HI w x) := by
  obtain ⟨b1, b2, b3⟩ := h.bounds
  have p1 := pow21 h.w2
  have p2 : 2 ^ (w + 1) ≤ 2097152 := by rw [Nat.pow_succ]; omega
  have hw2 := h.w2
  have hx2 := h.x2
  have hle := h.le
  have hm : x * 2 ^ sh w x ≤ (x + 1) * 2 ^ sh w x := Nat.mul_le_mul_right _ (by omega)
  unfold F54
  have e1 : iwrap .u64 (x : Int) = (x : Int) := by simp [iwrap, IntKind.wrap, IntKind.signed, IntKind.bits]; omega
  dsimp only
  rw [e1, call_s (F71_eq x (by omega))]
  have e2 : isub .i64 (iadd .i64 (w : Int) 1) (blen x : Int) = ((sh w x : Nat) : Int) := by
    rw [iadd_ok (by omega) (by omega), isub_s (by omega) (by omega)]; unfold sh; omega
  have e3 : iadd .i64 (x : Int) 1 = ((x + 1 : Nat) : Int) := by rw [iadd_ok (by omega) (by omega)]; omega
  rw [e2, e3, ishl_1 w hw2, ishl_n x _ (by omega) (by omega), ishl_n (x + 1) _ (by omega) (by omega)]
  rw [need_t (by rw [ile_d]; simp), need_t (by rw [ile_d]; simp), need_t (by rw [ile_d]; simp), need_t (by rw [ile_d]; simp)]
  unfold LO HI
  generalize x * 2 ^ sh w x = A at *
  generalize (x + 1) * 2 ^ sh w x = B at *
  rw [isub_s (by omega) (by omega), isub_s (a := (B : Int)) (by omega) (by omega), isub_s (by omega) (by omega)]
theorem Nod.dbl {w x : Nat} (h : Nod w x) (hn : 0 < sh w x) : Nod w (2 * x) ∧ Nod w (2 * x + 1) ∧ sh w (2 * x) + 1 = sh w x ∧ sh w (2 * x + 1) + 1 = sh w x ∧ x < 2 ^ w := by
  obtain ⟨h1, h2, h3⟩ := blen_pos h.x1
  have h4 : blen x ≤ w := by unfold sh at hn; omega
  have e : 2 ^ blen x = 2 * 2 ^ (blen x - 1) := by rw [← Nat.pow_succ']; congr 1; omega
  have b1 : blen (2 * x) = blen x + 1 := blen_of (by omega) (by rw [Nat.pow_succ]; omega)
  have b2 : blen (2 * x + 1) = blen x + 1 := blen_of (by omega) (by rw [Nat.pow_succ]; omega)
  have h5 : 2 ^ blen x ≤ 2 ^ w := Nat.pow_le_pow_right (by decide) h4
  have h6 : 2 ^ (w + 1) = 2 * 2 ^ w := by rw [Nat.pow_succ]; omega
  refine ⟨⟨h.w1, h.w2, by omega, by omega⟩, ⟨h.w1, h.w2, by omega, by omega⟩, ?_, ?_, by omega⟩
  · unfold sh; omega
  · unfold sh; omega
theorem Nod.top {w x : Nat} (h : Nod w x) (hn : sh w x = 0) : 2 ^ w ≤ x := by
  have := h.bounds.1; rw [hn] at this; simpa using this
theorem shl_two {bits : Int} (h : 1 ≤ bits ∧ bits ≤ 20) : shl 2 bits = ((2 ^ (bits.toNat + 1) : Nat) : Int) := by
  rw [shl_pow (by omega) (by omega), Nat.pow_succ]; simp; omega
theorem shl_one {bits : Int} (h : 1 ≤ bits ∧ bits ≤ 20) : shl 1 bits = ((2 ^ bits.toNat : Nat) : Int) := by
  rw [shl_pow (by omega) (by omega)]; simp
structure Dig (w : Nat) (k count : Int) (nodes : List Nd) : Prop where
  w1 : 1 ≤ w
  w2 : w ≤ 20
  k1 : 1 ≤ k
  k2 : k ≤ 10000
  c0 : 0 ≤ count
  c1 : count ≤ 1099511627776
  len : nodes.length ≤ 2000
  node : ∀ n ∈ nodes, (∃ x : Nat, n.1 = x ∧ Nod w x) ∧ 1 ≤ n.2 ∧ n.2 ≤ count
  inner : ∀ n ∈ nodes, n.1 < ((2 ^ w : Nat) : Int) → n.2 ≤ thr count k
  asc : nodes.Pairwise fun a b => a.1 < b.1
  sum : (nodes.map (·.2)).sum = count
theorem dig_of {bits k count : Int} {nodes : List Nd} (h : qcheck bits k count nodes = 0) : bits = (bits.toNat : Int) ∧ Dig bits.toNat k count nodes := by
  obtain ⟨⟨b1, b2, b3, b4, b5, b6, b7⟩, hg, hs⟩ := qcheck_good h
  have hb : bits = (bits.toNat : Int) := by omega
  have s2 := shl_two ⟨b1, b2⟩
  have s1 := shl_one ⟨b1, b2⟩
  refine ⟨hb, ⟨by omega, by omega, b3, b4, b5, b6, by omega, fun n hn => ?_, fun n hn hlt => ?_, ?_, hs⟩⟩
  · obtain ⟨i, hi, rfl⟩ := List.getElem_of_mem hn
    have g1 := hg.low i hi
    have g2 := hg.high i hi
    refine ⟨⟨nodes[i].1.toNat, by omega, ⟨by omega, by omega, by omega, by omega⟩⟩, hg.one i hi⟩
  · obtain ⟨i, hi, rfl⟩ := List.getElem_of_mem hn
    exact hg.inner i hi (by omega)
  · rw [List.pairwise_iff_getElem]
    exact fun i j hi hj hij => hg.asc i j hij hj
def rkG (w : Nat) (v : Int) (st : Int × Int) (n : Nd) : Int × Int := (if HI w n.1.toNat ≤ v then st.1 + n.2 else st.1, if LO w n.1.toNat ≤ v then st.2 + n.2 else st.2)
def rankT (bits k count : Int) (nodes : List Nd) (v : Int) : Int × (Int × Int) :=
  if qcheck bits k count nodes ≠ 0 then (0, 0, 1) else if v < 0 ∨ shl 1 bits ≤ v then (0, 0, 2) else
    ((nodes.foldl (rkG bits.toNat v) (0, 0)).1, (nodes.foldl (rkG bits.toNat v) (0, 0)).2, 0)
theorem fold_l {σ α E : Type} (g : σ → α → σ) (fin : σ → E) : ∀ (l : List α) (s : σ), foldE (fun s a => .inl (g s a)) fin l s = fin (l.foldl g s)
  | [], s => rfl
  | a :: l, s => fold_l g fin l (g s a)
theorem rk_inv {w : Nat} {v : Int} {i : Nat} {st : Int × Int} {n : Nd} (h : (0 ≤ st.1 ∧ st.1 ≤ i * 1099511627776) ∧ (0 ≤ st.2 ∧ st.2 ≤ i * 1099511627776)) (hn : 1 ≤ n.2 ∧ n.2 ≤ 1099511627776) :
    (0 ≤ (rkG w v st n).1 ∧ (rkG w v st n).1 ≤ (i + 1 : Nat) * 1099511627776) ∧ (0 ≤ (rkG w v st n).2 ∧ (rkG w v st n).2 ≤ (i + 1 : Nat) * 1099511627776) := by
  unfold rkG
  dsimp only
  constructor
  · split <;> omega
  · split <;> omega
theorem F22_eq (bits k count : Int) (nodes : List Nd) (v : Int) : F22 ((bits, k, count, nodes), v) = some (rankT bits k count nodes v) := by
  unfold F22 rankT
  rw [call_s (F20_eq bits k count nodes), ine_d, sel_i]
  by_cases h : qcheck bits k count nodes ≠ 0
  · rw [if_pos h, if_pos h]
  rw [if_neg h, if_neg h]
  obtain ⟨hb, D⟩ := dig_of (by omega : qcheck bits k count nodes = 0)
  dsimp only
  generalize bits.toNat = w at *
  subst hb
  rw [need_t (impl_t fun _ => by rw [ile_d]; simp)]
  simp only [pick_or, ilt_d, ile_d, ← Bool.decide_or, sel_i, ishl_shl]
  by_cases h2 : v < 0 ∨ shl 1 (w : Int) ≤ v
  · rw [if_pos h2, if_pos h2]
  rw [if_neg h2, if_neg h2]
  refine Eq.trans (join_of _ (iter_for nodes (fun st i => (st.1, st.2, i)) (fun s a => .inl (rkG w v s a)) (fun st => .inl st) (fun i st => (0 ≤ st.1 ∧ st.1 ≤ i * 1099511627776) ∧ (0 ≤ st.2 ∧ st.2 ≤ i * 1099511627776)) (0, 0) (by simp) ?_ ?_)) ?_
  · rintro i ⟨a, b⟩ hi hI
    have hlt : (i : Int) < nodes.length := by omega
    have hin : inL (i : Int) nodes.length = true := inL_t hi
    have hg : lget (0, 0) nodes i = nodes[i] := lget_t hi
    obtain ⟨⟨x, hx, hX⟩, hc⟩ := D.node nodes[i] (List.getElem_mem hi)
    have hlen := D.len; have hc1 := D.c1
    have hinv := rk_inv (w := w) (v := v) hI (n := nodes[i]) ⟨hc.1, by omega⟩
    dsimp only at hI hinv ⊢
    simp only [n2i_c, llen_c, i2n_c, hg, hin, need_t, hlt, if_true]
    refine ⟨?_, fun st' h => by have := Sum.inl.inj h; subst this; exact hinv⟩
    unfold rkG at hinv ⊢
    generalize nodes[i] = n at *
    dsimp only at hinv ⊢
    rw [hx] at hinv ⊢
    rw [Int.toNat_natCast] at hinv ⊢
    rw [call_s (F54_eq hX)]
    dsimp only
    rw [iadd_ok (a := (i : Int)) (by omega) (by omega), iadd_ok (a := a) (by omega) (by omega), iadd_ok (a := b) (by omega) (by omega)]
    by_cases p : HI w x ≤ v
    · by_cases q : LO w x ≤ v
      · rw [if_pos p, join_bl, if_pos q, if_pos p, if_pos q]; rfl
      · rw [if_pos p, join_bl, if_neg q, if_pos p, if_neg q]; rfl
    · by_cases q : LO w x ≤ v
      · rw [if_neg p, join_bl, if_pos q, if_neg p, if_pos q]; rfl
      · rw [if_neg p, join_bl, if_neg q, if_neg p, if_neg q]; rfl
  · intro st hI
    simp only [n2i_c, llen_c]
    rw [if_neg (by omega)]
  · rw [fold_l]; rfl
end Go.Q
/- The heap's functions permute. -/
set_option linter.unusedVariables false
set_option linter.unusedSimpArgs false
set_option maxRecDepth 100000
namespace Go.Q
open Go Go.T Go.Pl Go.Proofs Go.Proofs.Qd
theorem swap_perm {l : List Int} {i j : Nat} (hi : i < l.length) (hj : j < l.length) : (swapL l i j).Perm l := by
  unfold swapL
  rw [getD_get hi, getD_get hj]
  exact List.set_set_perm hi hj
theorem down_perm (n : Nat) (l : List Int) (i : Nat) : n ≤ l.length → (down n l i).Perm l := by
  fun_induction down n l i with
  | case1 l i h j h1 ih =>
    intro hn
    have hj : j < n := by simp only [j]; split <;> omega
    exact (ih (by rw [swapL_len]; exact hn)).trans (swap_perm (by omega) (by omega))
  | case2 l i h j h1 => exact fun _ => .refl _
  | case3 l i h => exact fun _ => .refl _
theorem up_perm (l : List Int) (j : Nat) : j < l.length → (Qd.up l j).Perm l := by
  fun_induction Qd.up l j with
  | case1 l => exact fun _ => .refl _
  | case2 l j h h1 ih =>
    intro hj
    exact (ih (by rw [swapL_len]; omega)).trans (swap_perm (by omega) hj)
  | case3 l j h h1 => exact fun _ => .refl _
theorem init_perm (n : Nat) : ∀ (i : Nat) (l : List Int), n ≤ l.length → (initGo n l i).Perm l
  | 0, l, _ => .refl _
  | i + 1, l, h => by
    rw [initGo]
    exact (init_perm n i _ (by rw [down_len]; exact h)).trans (down_perm n l i h)
theorem F46_eq {l : List Int} (h : l.length ≤ 1000000) : ∃ r, F46 l = some r ∧ r.Perm l :=
  ⟨_, by unfold F46; rw [Nat.ble_eq_true_of_le h]; rfl, init_perm _ _ _ (Nat.le_refl _)⟩
theorem F49_eq {x : Int} {l : List Int} (h : l.length < 1000000) : ∃ r, F49 (x, l) = some r ∧ r.Perm (x :: l) := by
  refine ⟨_, by unfold F49; rw [Nat.ble_eq_true_of_le (by exact h)]; rfl, ?_⟩
  exact (up_perm _ _ (by simp)).trans (List.perm_append_comm (l₁ := l) (l₂ := [x]))
theorem F48_eq {l : List Int} (h : l ≠ []) (h2 : l.length ≤ 1000000) : ∃ m r, F48 l = some (m, r) ∧ (m :: r).Perm l := by
  have h1 : 1 ≤ l.length := by cases l <;> simp_all
  refine ⟨_, _, by unfold F48; rw [Nat.ble_eq_true_of_le h1, Nat.ble_eq_true_of_le h2]; rfl, ?_⟩
  have hp := (down_perm (l.length - 1) (swapL l 0 (l.length - 1)) 0 (by rw [swapL_len]; omega)).trans (swap_perm (by omega) (by omega))
  generalize hL : down (l.length - 1) (swapL l 0 (l.length - 1)) 0 = L at *
  have hne : L ≠ [] := fun e => by rw [e] at hp; exact h (List.nil_perm.1 hp)
  have e : L.dropLast ++ [L.getLastD 0] = L := by
    rw [List.getLastD_eq_getLast?, List.getLast?_eq_some_getLast hne]
    exact List.dropLast_concat_getLast hne
  refine List.Perm.trans ?_ hp
  have p := List.perm_append_comm (l₁ := L.dropLast) (l₂ := [L.getLastD 0])
  rw [e] at p
  exact p.symm
theorem F47_eq (l : List Int) : F47 l = some (l.length : Int) := rfl
end Go.Q
/- Compress: what merging keeps. -/
set_option linter.unusedVariables false
set_option linter.unusedSimpArgs false
set_option maxRecDepth 100000
namespace Go.Q
open Go Go.T Go.Pl Go.Proofs Go.Proofs.Qd
abbrev cn (M : KV Int) (j : Int) : Int := mget ieq 0 M j
abbrev chl (M : KV Int) (m : Int) : Int := cn M (2 * m) + cn M (2 * m + 1)
def can (th : Int) (M : KV Int) (m : Int) : Prop := chl M m ≠ 0 ∧ cn M m + chl M m ≤ th
def mrg (M : KV Int) (m : Int) : KV Int := mdel ieq (mdel ieq (mput ieq M m (cn M m + chl M m)) (2 * m)) (2 * m + 1)
def hiInd (w : Nat) (v id : Int) : Int := if HI w id.toNat ≤ v then 1 else 0
def loInd (w : Nat) (v id : Int) : Int := if LO w id.toNat ≤ v then 1 else 0
def dep (id : Int) : Nat := blen id.toNat
structure MInv (w : Nat) (th count : Int) (nodes M : KV Int) : Prop where
  nod : (keys M).Nodup
  node : ∀ id ∈ keys M, (∃ x : Nat, id = x ∧ Nod w x) ∧ 1 ≤ cn M id ∧ cn M id ≤ count
  inner : ∀ id ∈ keys M, id < ((2 ^ w : Nat) : Int) → cn M id ≤ th
  sum : wsum (fun _ => 1) M = count
  lo : ∀ v, wsum (hiInd w v) M ≤ wsum (hiInd w v) nodes
  hi : ∀ v, wsum (loInd w v) nodes ≤ wsum (loInd w v) M
section
variable {w : Nat} {th count : Int} {nodes M : KV Int} {m : Int}
theorem MInv.cn0 (h : MInv w th count nodes M) (j : Int) : 0 ≤ cn M j ∧ (j ∈ keys M → 1 ≤ cn M j) ∧ (j ∉ keys M → cn M j = 0) ∧ cn M j ≤ max count 0 := by
  by_cases hj : j ∈ keys M
  · have := (h.node j hj).2; exact ⟨by omega, fun _ => this.1, fun h' => absurd hj h', by omega⟩
  · have : cn M j = 0 := get_out 0 hj
    exact ⟨by omega, fun h' => absurd h' hj, fun _ => this, by omega⟩
theorem MInv.can_nod (h : MInv w th count nodes M) (hm : 1 ≤ m) (hc : can th M m) (hw : 1 ≤ w ∧ w ≤ 20) : ∃ x : Nat, m = x ∧ Nod w x ∧ 0 < sh w x ∧ x < 2 ^ w := by
  have key : 2 * m ∈ keys M ∨ 2 * m + 1 ∈ keys M := by
    by_cases h1 : 2 * m ∈ keys M
    · exact .inl h1
    by_cases h2 : 2 * m + 1 ∈ keys M
    · exact .inr h2
    exact absurd (show chl M m = 0 by show cn M (2 * m) + cn M (2 * m + 1) = 0; rw [(h.cn0 _).2.2.1 h1, (h.cn0 _).2.2.1 h2]; rfl) hc.1
  have hp : 2 ^ (w + 1) = 2 * 2 ^ w := by rw [Nat.pow_succ]; omega
  have hx : m.toNat < 2 ^ w := by
    rcases key with h1 | h1
    · obtain ⟨⟨y, hy, hY⟩, _⟩ := h.node _ h1; have := hY.x2; omega
    · obtain ⟨⟨y, hy, hY⟩, _⟩ := h.node _ h1; have := hY.x2; omega
  have hN : Nod w m.toNat := ⟨hw.1, hw.2, by omega, by omega⟩
  refine ⟨m.toNat, by omega, hN, ?_, hx⟩
  rcases Nat.eq_zero_or_pos (sh w m.toNat) with h0 | h0
  · have := hN.top h0; omega
  · exact h0
theorem hi_child {x : Nat} (h : Nod w x) (hs : 0 < sh w x) : HI w (2 * x) ≤ HI w x ∧ HI w (2 * x + 1) = HI w x ∧ LO w (2 * x) = LO w x ∧ LO w x ≤ LO w (2 * x + 1) := by
  obtain ⟨h1, h2, h3, h4, h5⟩ := h.dbl hs
  have e1 : sh w (2 * x) = sh w x - 1 := by omega
  have e2 : sh w (2 * x + 1) = sh w x - 1 := by omega
  obtain ⟨s, hsx⟩ : ∃ s, sh w x = s + 1 := ⟨sh w x - 1, by omega⟩
  have p : 2 ^ (s + 1) = 2 * 2 ^ s := by rw [Nat.pow_succ]; omega
  unfold HI LO
  rw [e1, e2, hsx, Nat.add_sub_cancel, p]
  have a1 : (x + 1) * (2 * 2 ^ s) = (2 * x + 1 + 1) * 2 ^ s := by rw [← Nat.mul_assoc]; congr 1; omega
  have a2 : x * (2 * 2 ^ s) = 2 * x * 2 ^ s := by rw [← Nat.mul_assoc]; congr 1; omega
  have a3 : (2 * x + 1) * 2 ^ s ≤ (2 * x + 1 + 1) * 2 ^ s := Nat.mul_le_mul_right _ (by omega)
  have a4 : 2 * x * 2 ^ s ≤ (2 * x + 1) * 2 ^ s := Nat.mul_le_mul_right _ (by omega)
  rw [a1, a2]
  refine ⟨by omega, rfl, rfl, by omega⟩
theorem get_mrg (hn : (keys M).Nodup) (j : Int) : cn (mrg M m) j = if j = 2 * m + 1 then 0 else if j = 2 * m then 0 else if j = m then cn M m + chl M m else cn M j := by
  unfold cn mrg
  rw [get_del 0 (nodup_del (nodup_put hn _ _) _), get_del 0 (nodup_put hn _ _), get_put]
theorem keys_mrg (hn : (keys M).Nodup) (j : Int) : j ∈ keys (mrg M m) ↔ j ≠ 2 * m + 1 ∧ j ≠ 2 * m ∧ (j = m ∨ j ∈ keys M) := by
  unfold mrg
  rw [mem_del (nodup_del (nodup_put hn _ _) _), mem_del (nodup_put hn _ _), mem_put]
theorem wsum_mrg (g : Int → Int) (hn : (keys M).Nodup) (hm : 1 ≤ m) : wsum g (mrg M m) = wsum g M + chl M m * g m - cn M (2 * m) * g (2 * m) - cn M (2 * m + 1) * g (2 * m + 1) := by
  unfold mrg
  rw [wsum_del, wsum_del, wsum_put, get_del 0 (nodup_put hn _ _), if_neg (by omega), get_put, get_put, if_neg (by omega), if_neg (by omega)]
  show wsum g M + (cn M m + chl M m - cn M m) * g m - _ - _ = _
  rw [show cn M m + chl M m - cn M m = chl M m by omega]
theorem MInv.mrg (h : MInv w th count nodes M) (hm : 1 ≤ m) (hc : can th M m) (hw : 1 ≤ w ∧ w ≤ 20) (hth : th ≤ count) : MInv w th count nodes (mrg M m) := by
  obtain ⟨x, rfl, hX, hs, hlt⟩ := h.can_nod hm hc hw
  obtain ⟨c1, c2⟩ := hc
  have a0 := (h.cn0 (2 * x)).1
  have b0 := (h.cn0 (2 * x + 1)).1
  have m0 := (h.cn0 x).1
  have hch : 1 ≤ chl M x := by have : 0 ≤ chl M x := by show 0 ≤ cn M _ + cn M _; omega
                               omega
  have hi := hi_child hX hs
  have t1 : ((x : Int)).toNat = x := Int.toNat_natCast x
  have t2 : (2 * (x : Int)).toNat = 2 * x := by omega
  have t3 : (2 * (x : Int) + 1).toNat = 2 * x + 1 := by omega
  refine ⟨?_, fun j hj => ?_, fun j hj hlj => ?_, ?_, fun v => ?_, fun v => ?_⟩
  · exact nodup_del (nodup_del (nodup_put h.nod _ _) _) _
  · obtain ⟨g1, g2, g3⟩ := (keys_mrg h.nod j).1 hj
    rw [get_mrg h.nod, if_neg g1, if_neg g2]
    by_cases e : j = x
    · subst e; rw [if_pos rfl]; exact ⟨⟨x, rfl, hX⟩, by omega, by omega⟩
    · rw [if_neg e]; exact h.node j (g3.resolve_left e)
  · obtain ⟨g1, g2, g3⟩ := (keys_mrg h.nod j).1 hj
    rw [get_mrg h.nod, if_neg g1, if_neg g2]
    by_cases e : j = x
    · subst e; rw [if_pos rfl]; exact c2
    · rw [if_neg e]; exact h.inner j (g3.resolve_left e) hlj
  · rw [wsum_mrg _ h.nod hm, h.sum]
    show count + (cn M _ + cn M _) * 1 - _ * 1 - _ * 1 = count
    omega
  · rw [wsum_mrg _ h.nod hm]
    have h0 := h.lo v
    refine Int.le_trans ?_ h0
    have i1 : hiInd w v x ≤ hiInd w v (2 * x) := by
      unfold hiInd; rw [t1, t2]; split <;> split <;> omega
    have i2 : hiInd w v x ≤ hiInd w v (2 * x + 1) := by
      unfold hiInd; rw [t1, t3]; split <;> split <;> omega
    have j1 := Int.mul_le_mul_of_nonneg_left i1 a0
    have j2 := Int.mul_le_mul_of_nonneg_left i2 b0
    have e : chl M x * hiInd w v x = cn M (2 * x) * hiInd w v x + cn M (2 * x + 1) * hiInd w v x := Int.add_mul _ _ _
    omega
  · rw [wsum_mrg _ h.nod hm]
    have h0 := h.hi v
    refine Int.le_trans h0 ?_
    have i1 : loInd w v (2 * x) ≤ loInd w v x := by
      unfold loInd; rw [t1, t2]; split <;> split <;> omega
    have i2 : loInd w v (2 * x + 1) ≤ loInd w v x := by
      unfold loInd; rw [t1, t3]; split <;> split <;> omega
    have j1 := Int.mul_le_mul_of_nonneg_left i1 a0
    have j2 := Int.mul_le_mul_of_nonneg_left i2 b0
    have e : chl M x * loInd w v x = cn M (2 * x) * loInd w v x + cn M (2 * x + 1) * loInd w v x := Int.add_mul _ _ _
    omega
theorem MInv.dep (h : MInv w th count nodes M) (hm : 1 ≤ m) (hc : can th M m) (hw : 1 ≤ w ∧ w ≤ 20) : ksum dep (Q.mrg M m) + 1 ≤ ksum dep M := by
  obtain ⟨x, rfl, hX, hs, hlt⟩ := h.can_nod hm hc hw
  obtain ⟨d1, d2, d3, d4, _⟩ := hX.dbl hs
  have l0 := hX.le; have l1 := d1.le; have l2 := d2.le
  have e2 : Q.dep (2 * (x : Int)) = Q.dep x + 1 := by
    unfold Q.dep
    rw [show (2 * (x : Int)).toNat = 2 * x by omega, Int.toNat_natCast]
    unfold sh at d3 hs; omega
  have e3 : Q.dep (2 * (x : Int) + 1) = Q.dep x + 1 := by
    unfold Q.dep
    rw [show (2 * (x : Int) + 1).toNat = 2 * x + 1 by omega, Int.toNat_natCast]
    unfold sh at d4 hs; omega
  have hp := nodup_put h.nod (x : Int) (cn M x + chl M x)
  have s1 := ksum_put Q.dep M (x : Int) (cn M x + chl M x)
  have s2 := ksum_del Q.dep (mput ieq M (x : Int) (cn M x + chl M x)) (2 * x)
  have s3 := ksum_del Q.dep (mdel ieq (mput ieq M (x : Int) (cn M x + chl M x)) (2 * x)) (2 * x + 1)
  have k2 : 2 * (x : Int) ∈ keys (mput ieq M (x : Int) (cn M x + chl M x)) ↔ 2 * (x : Int) ∈ keys M := by rw [mem_put]; exact ⟨fun h' => h'.resolve_left (by omega), .inr⟩
  have k3 : 2 * (x : Int) + 1 ∈ keys (mdel ieq (mput ieq M (x : Int) (cn M x + chl M x)) (2 * x)) ↔ 2 * (x : Int) + 1 ∈ keys M := by
    rw [mem_del hp, mem_put]; exact ⟨fun h' => h'.2.resolve_left (by omega), fun h' => ⟨by omega, .inr h'⟩⟩
  have key : 2 * (x : Int) ∈ keys M ∨ 2 * (x : Int) + 1 ∈ keys M := by
    by_cases h1 : 2 * (x : Int) ∈ keys M
    · exact .inl h1
    by_cases h2 : 2 * (x : Int) + 1 ∈ keys M
    · exact .inr h2
    exact absurd (show chl M x = 0 by show cn M (2 * x) + cn M (2 * x + 1) = 0; rw [(h.cn0 _).2.2.1 h1, (h.cn0 _).2.2.1 h2]; rfl) hc.1
  rw [e2] at s2; rw [e3] at s3
  simp only [k2] at s2
  simp only [k3] at s3
  show ksum Q.dep (mdel ieq (mdel ieq (mput ieq M (x : Int) (cn M x + chl M x)) (2 * x)) (2 * x + 1)) + 1 ≤ _
  generalize ksum Q.dep (mdel ieq (mdel ieq (mput ieq M (x : Int) (cn M x + chl M x)) (2 * x)) (2 * x + 1)) = A at *
  generalize ksum Q.dep (mdel ieq (mput ieq M (x : Int) (cn M x + chl M x)) (2 * x)) = B at *
  generalize ksum Q.dep (mput ieq M (x : Int) (cn M x + chl M x)) = C at *
  have : C ≤ ksum Q.dep M + Q.dep x := by rw [s1]; split <;> omega
  rcases key with h1 | h1
  · rw [if_pos h1] at s2; omega
  · rw [if_pos h1] at s3; omega
theorem ksum_one (M : KV Int) : ksum (fun _ => 1) M = M.length := by
  unfold ksum keys
  induction M with
  | nil => rfl
  | cons p M ih => simp only [List.map_cons, List.sum_cons, ih, List.length_cons]; omega
theorem MInv.shrink (h : MInv w th count nodes M) (hm : 1 ≤ m) (hc : can th M m) : (Q.mrg M m).length ≤ M.length := by
  have hp := nodup_put h.nod m (cn M m + chl M m)
  have s1 := ksum_put (fun _ => 1) M m (cn M m + chl M m)
  have s2 := ksum_del (fun _ => 1) (mput ieq M m (cn M m + chl M m)) (2 * m)
  have s3 := ksum_del (fun _ => 1) (mdel ieq (mput ieq M m (cn M m + chl M m)) (2 * m)) (2 * m + 1)
  have k2 : 2 * m ∈ keys (mput ieq M m (cn M m + chl M m)) ↔ 2 * m ∈ keys M := by rw [mem_put]; exact ⟨fun h' => h'.resolve_left (by omega), .inr⟩
  have k3 : 2 * m + 1 ∈ keys (mdel ieq (mput ieq M m (cn M m + chl M m)) (2 * m)) ↔ 2 * m + 1 ∈ keys M := by
    rw [mem_del hp, mem_put]; exact ⟨fun h' => h'.2.resolve_left (by omega), fun h' => ⟨by omega, .inr h'⟩⟩
  have key : 2 * m ∈ keys M ∨ 2 * m + 1 ∈ keys M := by
    by_cases h1 : 2 * m ∈ keys M
    · exact .inl h1
    by_cases h2 : 2 * m + 1 ∈ keys M
    · exact .inr h2
    exact absurd (show chl M m = 0 by show cn M (2 * m) + cn M (2 * m + 1) = 0; rw [(h.cn0 _).2.2.1 h1, (h.cn0 _).2.2.1 h2]; rfl) hc.1
  simp only [k2] at s2
  simp only [k3] at s3
  simp only [ksum_one] at s1 s2 s3
  show (mdel ieq (mdel ieq (mput ieq M m (cn M m + chl M m)) (2 * m)) (2 * m + 1)).length ≤ _
  generalize (mdel ieq (mdel ieq (mput ieq M m (cn M m + chl M m)) (2 * m)) (2 * m + 1)).length = A at *
  generalize (mdel ieq (mput ieq M m (cn M m + chl M m)) (2 * m)).length = B at *
  generalize (mput ieq M m (cn M m + chl M m)).length = C at *
  have : C ≤ M.length + 1 := by rw [s1]; split <;> omega
  rcases key with h1 | h1
  · rw [if_pos h1] at s2; omega
  · rw [if_pos h1] at s3; omega
end
end Go.Q
/- Compress: the loop. -/
set_option linter.unusedVariables false
set_option linter.unusedSimpArgs false
set_option maxRecDepth 100000
namespace Go.Q
open Go Go.T Go.Pl Go.Proofs Go.Proofs.Qd
noncomputable def body18 (x : Dg) (s5 : List Nd × List Int) : Option ((List Nd × List Int) ⊕ (List Nd ⊕ (Dg × Int))) :=
call (F47 s5.2) fun (r6 : Int) =>
sel (ilt 0 r6) (join (call (F48 s5.2) fun (r7 : (Int × (List Int))) =>
sel (pickV (ieq (iadd .i64 (mget ieq 0 s5.1 (imul .i64 2 r7.1)) (mget ieq 0 s5.1 (iadd .i64 (imul .i64 2 r7.1) 1))) 0) true (ilt (iquo .i64 x.2.2.1 x.2.1) (iadd .i64 (mget ieq 0 s5.1 r7.1) (iadd .i64 (mget ieq 0 s5.1 (imul .i64 2 r7.1)) (mget ieq 0 s5.1 (iadd .i64 (imul .i64 2 r7.1) 1)))))) (some (.inl (s5.1, r7.2))) <|
join (need (ile 0 x.1) <|
sel (ilt (imul .i64 2 r7.1) (ishl .i64 1 x.1)) (call (F49 (imul .i64 2 r7.1, r7.2)) fun (r8 : (List Int)) =>
call (F49 (iadd .i64 (imul .i64 2 r7.1) 1, r8)) fun (r9 : (List Int)) =>
some (.inl r9)) <|
some (.inl r7.2)) fun (j10 : (List Int)) =>
sel (ilt 1 r7.1) (need (ine 2 0) <|
call (F49 (iquo .i64 r7.1 2, j10)) fun (r11 : (List Int)) =>
some (.inl (mdel ieq (mdel ieq (mput ieq s5.1 r7.1 (iadd .i64 (mget ieq 0 s5.1 r7.1) (iadd .i64 (mget ieq 0 s5.1 (imul .i64 2 r7.1)) (mget ieq 0 s5.1 (iadd .i64 (imul .i64 2 r7.1) 1))))) (imul .i64 2 r7.1)) (iadd .i64 (imul .i64 2 r7.1) 1), r11))) <|
some (.inl (mdel ieq (mdel ieq (mput ieq s5.1 r7.1 (iadd .i64 (mget ieq 0 s5.1 r7.1) (iadd .i64 (mget ieq 0 s5.1 (imul .i64 2 r7.1)) (mget ieq 0 s5.1 (iadd .i64 (imul .i64 2 r7.1) 1))))) (imul .i64 2 r7.1)) (iadd .i64 (imul .i64 2 r7.1) 1), j10))) fun (j12 : ((List (Int × Int)) × (List Int))) =>
some (.inl (j12.1, j12.2))) <|
some (.inr (.inl s5.1))
section
variable {w : Nat} {k count : Int} {nodes nd0 : List Nd}
theorem imul_2 {m : Int} (h : 0 ≤ m ∧ m < 4611686018427387904) : imul .i64 2 m = 2 * m := wrap_id (by omega) (by omega)
theorem iquo_2 {m : Int} (h : 0 ≤ m ∧ m < 4611686018427387904) : iquo .i64 m 2 = m / 2 := by
  have e : m.tdiv 2 = m / 2 := Int.tdiv_eq_ediv_of_nonneg h.1
  unfold iquo; rw [e]; exact wrap_id (by omega) (by omega)
theorem cmp_loop (hw : 1 ≤ w ∧ w ≤ 20) (hc : 0 ≤ count ∧ count ≤ 1099511627776) (hth : thr count k ≤ count) : ∀ (μ : Nat) (M : List Nd) (T : List Int), T.length + 3 * ksum dep M = μ → μ ≤ 900000 → MInv w (thr count k) count nodes M → (∀ m ∈ T, 1 ≤ m ∧ m < ((2 ^ w : Nat) : Int)) → (∀ m, 1 ≤ m → can (thr count k) M m → m ∈ T) →
    ∃ M', iter (body18 ((w : Int), k, count, nd0)) (M, T) = some (.inl M') ∧ MInv w (thr count k) count nodes M' ∧ (∀ m, 1 ≤ m → ¬ can (thr count k) M' m) ∧ ((∀ m, 1 ≤ m → ¬ can (thr count k) M m) → M' = M) ∧ ksum dep M' ≤ ksum dep M ∧ M'.length ≤ M.length := by
  intro μ
  induction μ using Nat.strongRecOn with
  | _ μ ih =>
  intro M T hμ hb hM hT hcov
  have p20 := pow21 hw.2
  cases hT0 : T with
  | nil =>
    subst hT0
    refine ⟨M, iter_r ?_, hM, fun m h1 h2 => (by cases hcov m h1 h2), fun _ => rfl, Nat.le_refl _, Nat.le_refl _⟩
    unfold body18
    rw [call_s (F47_eq _)]; rfl
  | cons t0 T0 =>
    rw [← hT0]
    have hne : T ≠ [] := by rw [hT0]; simp
    have hpos : 0 < T.length := by rw [hT0]; simp
    obtain ⟨m, r, h48, hperm⟩ := F48_eq hne (by omega)
    have hml := hperm.length_eq
    rw [List.length_cons] at hml
    have hm := hT m (hperm.subset (by simp))
    have hr : ∀ y ∈ r, 1 ≤ y ∧ y < ((2 ^ w : Nat) : Int) := fun y hy => hT y (hperm.subset (by simp [hy]))
    have e2 : imul .i64 2 m = 2 * m := imul_2 (by omega)
    have e3 : iadd .i64 (2 * m) 1 = 2 * m + 1 := iadd_ok (by omega) (by omega)
    have a0 := hM.cn0 (2 * m); have b0 := hM.cn0 (2 * m + 1); have m0 := hM.cn0 m
    have e4 : iadd .i64 (mget ieq 0 M (2 * m)) (mget ieq 0 M (2 * m + 1)) = chl M m := iadd_ok (by show _ ≤ cn M _ + cn M _; omega) (by show cn M _ + cn M _ < _; omega)
    have ech : chl M m = cn M (2 * m) + cn M (2 * m + 1) := rfl
    have e5 : iadd .i64 (mget ieq 0 M m) (chl M m) = cn M m + chl M m := iadd_ok (by show _ ≤ cn M m + chl M m; omega) (by show cn M m + chl M m < _; omega)
    have hstep : ∀ R, join (call (F48 T) fun (r7 : (Int × (List Int))) =>
        sel (pickV (ieq (iadd .i64 (mget ieq 0 M (imul .i64 2 r7.1)) (mget ieq 0 M (iadd .i64 (imul .i64 2 r7.1) 1))) 0) true (ilt (iquo .i64 count k) (iadd .i64 (mget ieq 0 M r7.1) (iadd .i64 (mget ieq 0 M (imul .i64 2 r7.1)) (mget ieq 0 M (iadd .i64 (imul .i64 2 r7.1) 1)))))) (some (.inl (M, r7.2))) <|
        join (need (ile 0 (w : Int)) <|
        sel (ilt (imul .i64 2 r7.1) (ishl .i64 1 (w : Int))) (call (F49 (imul .i64 2 r7.1, r7.2)) fun (r8 : (List Int)) =>
        call (F49 (iadd .i64 (imul .i64 2 r7.1) 1, r8)) fun (r9 : (List Int)) =>
        some (.inl r9)) <|
        some (.inl r7.2)) fun (j10 : (List Int)) =>
        sel (ilt 1 r7.1) (need (ine 2 0) <|
        call (F49 (iquo .i64 r7.1 2, j10)) fun (r11 : (List Int)) =>
        some (.inl (mdel ieq (mdel ieq (mput ieq M r7.1 (iadd .i64 (mget ieq 0 M r7.1) (iadd .i64 (mget ieq 0 M (imul .i64 2 r7.1)) (mget ieq 0 M (iadd .i64 (imul .i64 2 r7.1) 1))))) (imul .i64 2 r7.1)) (iadd .i64 (imul .i64 2 r7.1) 1), r11))) <|
        some (.inl (mdel ieq (mdel ieq (mput ieq M r7.1 (iadd .i64 (mget ieq 0 M r7.1) (iadd .i64 (mget ieq 0 M (imul .i64 2 r7.1)) (mget ieq 0 M (iadd .i64 (imul .i64 2 r7.1) 1))))) (imul .i64 2 r7.1)) (iadd .i64 (imul .i64 2 r7.1) 1), j10))) (fun (j12 : ((List (Int × Int)) × (List Int))) =>
        (some (.inl (j12.1, j12.2)) : Option ((List Nd × List Int) ⊕ (List Nd ⊕ (Dg × Int))))) = some (.inl R) → body18 ((w : Int), k, count, nd0) (M, T) = some (.inl R) := by
      intro R h
      unfold body18
      rw [call_s (F47_eq _), sel_t (by rw [ilt_d]; simp; omega)]
      exact h
    by_cases hcan : can (thr count k) M m
    · obtain ⟨x, hx, hX, hs, hlt⟩ := hM.can_nod hm.1 hcan hw
      have hM' := hM.mrg hm.1 hcan hw hth
      have hd := hM.dep hm.1 hcan hw
      -- the queue behind the merge
      have hq1 : ∃ r1, (need (ile 0 (w : Int)) <| sel (ilt (2 * m) (ishl .i64 1 (w : Int))) (call (F49 (2 * m, r)) fun (r8 : (List Int)) => call (F49 (2 * m + 1, r8)) fun (r9 : (List Int)) => (some (.inl r9) : Option (List Int ⊕ ((List Nd × List Int) ⊕ ((List Nd × List Int) ⊕ (List Nd ⊕ (Dg × Int))))))) <| some (.inl r)) = some (.inl r1) ∧ r1.length ≤ r.length + 2 ∧ (∀ y ∈ r, y ∈ r1) ∧ (∀ y ∈ r1, y ∈ r ∨ ((y = 2 * m ∨ y = 2 * m + 1) ∧ 2 * m < ((2 ^ w : Nat) : Int))) ∧ (2 * m < ((2 ^ w : Nat) : Int) → 2 * m ∈ r1 ∧ 2 * m + 1 ∈ r1) := by
        rw [need_t (by rw [ile_d]; simp), ishl_1 w hw.2, ilt_d, sel_i]
        by_cases h2 : 2 * m < ((2 ^ w : Nat) : Int)
        · rw [if_pos h2]
          obtain ⟨q1, g1, g2⟩ := F49_eq (x := 2 * m) (l := r) (by omega)
          obtain ⟨q2, g3, g4⟩ := F49_eq (x := 2 * m + 1) (l := q1) (by have := g2.length_eq; simp at this; omega)
          have l1 := g2.length_eq; have l2 := g4.length_eq
          simp only [List.length_cons] at l1 l2
          refine ⟨q2, by rw [call_s g1, call_s g3], by omega, fun y hy => g4.symm.subset (List.mem_cons_of_mem _ (g2.symm.subset (List.mem_cons_of_mem _ hy))), fun y hy => ?_, fun _ => ⟨g4.symm.subset (List.mem_cons_of_mem _ (g2.symm.subset (by simp))), g4.symm.subset (by simp)⟩⟩
          rcases List.mem_cons.1 (g4.subset hy) with h | h
          · exact .inr ⟨.inr h, h2⟩
          · rcases List.mem_cons.1 (g2.subset h) with h | h
            · exact .inr ⟨.inl h, h2⟩
            · exact .inl h
        · rw [if_neg h2]
          exact ⟨r, rfl, by omega, fun y hy => hy, fun y hy => .inl hy, fun h => absurd h h2⟩
      obtain ⟨r1, q1, ql, qs, qb, qc⟩ := hq1
      have hq2 : ∃ r2, (sel (ilt 1 m) (need (ine 2 0) <| call (F49 (m / 2, r1)) fun (r11 : (List Int)) => (some (.inl (mrg M m, r11)) : Option ((List Nd × List Int) ⊕ ((List Nd × List Int) ⊕ (List Nd ⊕ (Dg × Int)))))) <| some (.inl (mrg M m, r1))) = some (.inl (mrg M m, r2)) ∧ r2.length ≤ r1.length + 1 ∧ (∀ y ∈ r1, y ∈ r2) ∧ (∀ y ∈ r2, y ∈ r1 ∨ (y = m / 2 ∧ 1 < m)) ∧ (1 < m → m / 2 ∈ r2) := by
        rw [ilt_d, sel_i]
        by_cases h2 : 1 < m
        · rw [if_pos h2, need_t (show ine 2 0 = true from rfl)]
          obtain ⟨q3, g1, g2⟩ := F49_eq (x := m / 2) (l := r1) (by omega)
          have l1 := g2.length_eq
          simp only [List.length_cons] at l1
          refine ⟨q3, by rw [call_s g1], by omega, fun y hy => g2.symm.subset (List.mem_cons_of_mem _ hy), fun y hy => ?_, fun _ => g2.symm.subset (by simp)⟩
          rcases List.mem_cons.1 (g2.subset hy) with h | h
          · exact .inr ⟨h, h2⟩
          · exact .inl h
        · rw [if_neg h2]
          exact ⟨r1, rfl, by omega, fun y hy => hy, fun y hy => .inl hy, fun h => absurd h h2⟩
      obtain ⟨r2, q2, ql2, qs2, qb2, qc2⟩ := hq2
      have hlen : r2.length + 3 * ksum dep (mrg M m) < μ := by omega
      have hT2 : ∀ y ∈ r2, 1 ≤ y ∧ y < ((2 ^ w : Nat) : Int) := fun y hy => by
        rcases qb2 y hy with h | ⟨rfl, h⟩
        · rcases qb y h with h | ⟨h, h'⟩
          · exact hr y h
          · have hp : ((2 ^ w : Nat) : Int) = 2 * ((2 ^ (w - 1) : Nat) : Int) := by
              have : 2 ^ w = 2 * 2 ^ (w - 1) := by rw [← Nat.pow_succ']; congr 1; omega
              omega
            omega
        · omega
      have hC2 : ∀ y, 1 ≤ y → can (thr count k) (mrg M m) y → y ∈ r2 := fun y h1 h2 => by
        have hyd := hM'.can_nod h1 h2 hw
        obtain ⟨c1, c2⟩ := h2
        have g1 : cn (mrg M m) (2 * y) = cn M (2 * y) ∨ y = m ∨ 2 * y = m := by
          rw [get_mrg hM.nod]
          by_cases d1 : 2 * y = 2 * m + 1
          · omega
          by_cases d2 : 2 * y = 2 * m
          · exact .inr (.inl (by omega))
          by_cases d3 : 2 * y = m
          · exact .inr (.inr d3)
          rw [if_neg d1, if_neg d2, if_neg d3]; exact .inl rfl
        have g2 : cn (mrg M m) (2 * y + 1) = cn M (2 * y + 1) ∨ y = m ∨ 2 * y + 1 = m := by
          rw [get_mrg hM.nod]
          by_cases d1 : 2 * y + 1 = 2 * m + 1
          · exact .inr (.inl (by omega))
          by_cases d2 : 2 * y + 1 = 2 * m
          · omega
          by_cases d3 : 2 * y + 1 = m
          · exact .inr (.inr d3)
          rw [if_neg d1, if_neg d2, if_neg d3]; exact .inl rfl
        have g3 : cn (mrg M m) y = cn M y ∨ y = m ∨ y = 2 * m ∨ y = 2 * m + 1 := by
          rw [get_mrg hM.nod]
          by_cases d1 : y = 2 * m + 1
          · exact .inr (.inr (.inr d1))
          by_cases d2 : y = 2 * m
          · exact .inr (.inr (.inl d2))
          by_cases d3 : y = m
          · exact .inr (.inl d3)
          rw [if_neg d1, if_neg d2, if_neg d3]; exact .inl rfl
        have nm : y ≠ m := fun e => by
          subst e
          apply c1
          show cn (mrg M y) (2 * y) + cn (mrg M y) (2 * y + 1) = 0
          rw [get_mrg hM.nod, get_mrg hM.nod, if_neg (by omega), if_pos rfl, if_pos rfl]; rfl
        by_cases up1 : y = m / 2 ∧ 1 < m
        · rw [up1.1]; exact qc2 up1.2
        obtain ⟨yn, hyn, hY, _, hylt⟩ := hyd
        by_cases dn : y = 2 * m ∨ y = 2 * m + 1
        · have := qc (by omega)
          rcases dn with rfl | rfl
          · exact qs2 _ this.1
          · exact qs2 _ this.2
        have f1 := g1.resolve_right (by omega)
        have f2 := g2.resolve_right (by omega)
        have f3 := g3.resolve_right (by omega)
        have hcy : can (thr count k) M y := by
          unfold can chl at *
          rw [f1, f2] at c1 c2; rw [f3] at c2
          exact ⟨c1, c2⟩
        have := hcov y h1 hcy
        rcases List.mem_cons.1 (hperm.symm.subset this) with h | h
        · exact absurd h nm
        · exact qs2 _ (qs _ h)
      obtain ⟨M', i1, i2, i3, i4, i5⟩ := ih _ hlen (mrg M m) r2 rfl (by omega) hM' hT2 hC2
      refine ⟨M', iter_l (hstep _ ?_) i1, i2, i3, fun h => absurd hcan (h m hm.1), by omega, Nat.le_trans i5.2 (hM.shrink hm.1 hcan)⟩
      rw [call_s h48]
      dsimp only
      rw [e2, e3, e4, e5, iquo_2 (by omega), iquo_thr, pick_or, ieq_d, ilt_d, ← Bool.decide_or, sel_i, if_neg (fun h => by obtain ⟨c1, c2⟩ := hcan; omega)]
      refine Eq.trans (congrArg (fun o => join o _) (Eq.trans (join_l q1) q2)) rfl
    · obtain ⟨M', i1, i2, i3, i4, i5⟩ := ih (r.length + 3 * ksum dep M) (by omega) M r rfl (by omega) hM hr (fun y h1 h2 => by
        rcases List.mem_cons.1 (hperm.symm.subset (hcov y h1 h2)) with h | h
        · subst h; exact absurd h2 hcan
        · exact h)
      refine ⟨M', iter_l (hstep _ ?_) i1, i2, i3, i4, i5⟩
      rw [call_s h48]
      dsimp only
      rw [e2, e3, e4, e5, iquo_thr, pick_or, ieq_d, ilt_d, ← Bool.decide_or, sel_i, if_pos (by unfold can at hcan; omega)]; rfl
end
end Go.Q
/- What Compress gives. -/
set_option linter.unusedVariables false
set_option linter.unusedSimpArgs false
set_option maxRecDepth 100000
namespace Go.Q
open Go Go.T Go.Pl Go.Proofs Go.Proofs.Qd
def Asc (l : List Nd) : Prop := l.Pairwise fun a b => a.1 < b.1
theorem asc_unique : ∀ {l l' : List Nd}, Asc l → Asc l' → l.Perm l' → l = l'
  | [], l', _, _, h => (List.nil_perm.1 h).symm
  | a :: l, [], _, _, h => absurd h.length_eq (by simp)
  | a :: l, b :: l', ha, hb, h => by
    have ha' := List.pairwise_cons.1 ha
    have hb' := List.pairwise_cons.1 hb
    have e : a = b := by
      have h1 : a ∈ b :: l' := h.subset (by simp)
      have h2 : b ∈ a :: l := h.symm.subset (by simp)
      rcases List.mem_cons.1 h1 with h1 | h1
      · exact h1
      rcases List.mem_cons.1 h2 with h2 | h2
      · exact h2.symm
      have := ha'.1 b h2
      have := hb'.1 a h1
      omega
    subst e
    rw [asc_unique ha'.2 hb'.2 ((List.perm_cons a).1 h)]
theorem asc_nodup {l : List Nd} (h : Asc l) : (keys l).Nodup := by
  unfold keys
  rw [List.Nodup, List.pairwise_map]
  exact h.imp fun h e => by omega
theorem asc_of {l : List Nd} (h : (keys l).Nodup) (hs : l.Pairwise fun a b => ∀ i j, key51 a = some i → key51 b = some j → i ≤ j) : Asc l := by
  unfold keys at h
  rw [List.Nodup, List.pairwise_map] at h
  exact (List.Pairwise.and h hs).imp fun ⟨h1, h2⟩ => by have := h2 _ _ rfl rfl; omega
theorem sort_ex (l : List Nd) : ∃ r : List Nd, r.Perm l ∧ r.Pairwise fun a b => ∀ i j, key51 a = some i → key51 b = some j → i ≤ j := by
  refine ⟨l.mergeSort (fun a b => decide (a.1 ≤ b.1)), List.mergeSort_perm _ _, ?_⟩
  have := List.pairwise_mergeSort (le := fun a b : Nd => decide (a.1 ≤ b.1)) (fun a b c h1 h2 => by simp at *; omega) (fun a b => by simp; omega) l
  refine this.imp fun {a b} h i j hi hj => ?_
  have := Option.some.inj hi; have := Option.some.inj hj
  simp at h; omega
theorem callQ_of {A R : Type} {p : A → Prop} {k : A → Option R} {r : R} (h1 : ∃ a, p a) (h2 : ∀ a, p a → k a = some r) : callQ p k = some r := by
  have hx : (∃ a, p a) ∧ ∃ r, ∀ a, p a → k a = some r := ⟨h1, r, h2⟩
  unfold callQ
  rw [dif_pos hx]
  obtain ⟨a, ha⟩ := h1
  have := Classical.choose_spec hx.2 a ha
  rw [h2 a ha] at this
  exact this.symm
theorem mrange_of {A S E : Type} {l : List A} {B : A → S → Option (S ⊕ E)} {N : S → Option (S ⊕ E)} {s : S} {e : E} (h : ∀ l', l'.Perm l → foldM B N l' s = some e) : mrange l B N s = some e := by
  have hx : ∃ e, ∀ l', l'.Perm l → foldM B N l' s = some e := ⟨e, h⟩
  unfold mrange
  rw [dif_pos hx]
  have := Classical.choose_spec hx l (.refl _)
  rw [h l (.refl _)] at this
  exact this.symm
theorem foldM_app {E : Type} {N : List Nd → Option (List Nd ⊕ E)} {e : E} : ∀ (l s : List Nd), s.length + l.length ≤ 1000000 → N (s ++ l) = some (.inr e) →
    foldM (fun (p14 : (Int × Int)) (s15 : (List (Int × Int))) => need (room (nadd (llen s15) (llen ((p14.1, p14.2) :: ([] : List (Int × Int))))) 16) <| some (.inl (lcat s15 ((p14.1, p14.2) :: ([] : List (Int × Int)))))) N l s = some e
  | [], s, _, h => by
    rw [List.append_nil] at h
    rw [foldM, h]
  | a :: l, s, h, hN => by
    rw [List.length_cons] at h
    rw [foldM, need_t (by simp [room, nadd, llen]; omega)]
    dsimp only
    exact foldM_app (N := N) l (s ++ [a]) (by simp; omega) (by simpa using hN)
theorem mk8 {n : Nat} (h : n ≤ 1000000) : Go.T.mk 0 (n2i n) 8 = true := by
  unfold Go.T.mk n2i; simp; omega
theorem mk16 {n : Nat} (h : n ≤ 1000000) : Go.T.mk 0 (n2i n) 16 = true := by
  unfold Go.T.mk n2i; simp; omega
theorem get_perm {M M' : KV Int} (h : M.Perm M') (hn : (keys M).Nodup) (j : Int) : mget ieq 0 M j = mget ieq 0 M' j := by
  have hk : (keys M).Perm (keys M') := h.map _
  have hn' : (keys M').Nodup := hk.nodup_iff.1 hn
  by_cases hj : j ∈ keys M
  · have h1 := (mem_get 0 hn j _).2 ⟨hj, rfl⟩
    exact ((mem_get 0 hn' j _).1 (h.subset h1)).2.symm
  · rw [get_out 0 hj, get_out 0 (fun h' => hj (hk.symm.subset h'))]
theorem MInv.perm {w : Nat} {th count : Int} {nodes M M' : KV Int} (h : MInv w th count nodes M) (hp : M.Perm M') : MInv w th count nodes M' := by
  have hk : (keys M).Perm (keys M') := hp.map _
  have hg := fun j => get_perm hp h.nod j
  refine ⟨hk.nodup_iff.1 h.nod, fun id hid => ?_, fun id hid hlt => ?_, by rw [← wsum_perm hp]; exact h.sum, fun v => by rw [← wsum_perm hp]; exact h.lo v, fun v => by rw [← wsum_perm hp]; exact h.hi v⟩
  · have := h.node id (hk.symm.subset hid)
    unfold cn at this ⊢; rw [← hg]; exact this
  · have := h.inner id (hk.symm.subset hid) hlt
    unfold cn at this ⊢; rw [← hg]; exact this
theorem can_perm {th : Int} {M M' : KV Int} (hn : (keys M).Nodup) (hp : M.Perm M') (m : Int) : can th M m ↔ can th M' m := by
  have hg := fun j => get_perm hp hn j
  unfold can chl cn; rw [hg, hg, hg]
theorem len_ksum {w : Nat} {th count : Int} {nodes M : KV Int} (h : MInv w th count nodes M) : M.length ≤ ksum dep M := by
  have : ∀ l : List Int, (∀ id ∈ l, (∃ x : Nat, id = x ∧ Nod w x)) → l.length ≤ (l.map dep).sum := by
    intro l
    induction l with
    | nil => simp
    | cons a l ih =>
      intro hl
      obtain ⟨x, hx, hX⟩ := hl a (by simp)
      have := ih fun id hid => hl id (by simp [hid])
      have h1 : 1 ≤ dep a := by unfold dep; rw [hx, Int.toNat_natCast]; exact (blen_pos hX.x1).1
      rw [List.length_cons, List.map_cons, List.sum_cons]; omega
  have h2 := this (keys M) fun id hid => (h.node id hid).1
  simpa [keys, ksum] using h2
def todo : List Nd → List Int
  | [] => []
  | n :: l => if 1 < n.1 then n.1 / 2 :: todo l else todo l
theorem todo_len : ∀ l, (todo l).length ≤ l.length
  | [] => by simp [todo]
  | n :: l => by have := todo_len l; rw [todo]; split <;> simp <;> omega
theorem mem_todo : ∀ {l : List Nd} {m : Int}, m ∈ todo l ↔ ∃ n ∈ l, 1 < n.1 ∧ n.1 / 2 = m
  | [], m => by simp [todo]
  | n :: l, m => by
    rw [todo]
    split
    · rw [List.mem_cons, mem_todo]
      constructor
      · rintro (h | ⟨n', h1, h2⟩)
        · exact ⟨n, by simp, by assumption, h.symm⟩
        · exact ⟨n', by simp [h1], h2⟩
      · rintro ⟨n', h1, h2⟩
        rcases List.mem_cons.1 h1 with rfl | h1
        · exact .inl h2.2.symm
        · exact .inr ⟨n', h1, h2⟩
    · rw [mem_todo]
      constructor
      · rintro ⟨n', h1, h2⟩; exact ⟨n', by simp [h1], h2⟩
      · rintro ⟨n', h1, h2⟩
        rcases List.mem_cons.1 h1 with rfl | h1
        · exact absurd h2.1 (by assumption)
        · exact ⟨n', h1, h2⟩
def g18 (st : List Nd × List Int) (n : Nd) : List Nd × List Int := (mput ieq st.1 n.1 n.2, if 1 < n.1 then st.2 ++ [n.1 / 2] else st.2)
theorem put_new {M : KV Int} {k v : Int} (h : k ∉ keys M) : mput ieq M k v = M ++ [(k, v)] := by
  induction M with
  | nil => rfl
  | cons p M ih =>
    obtain ⟨j, x⟩ := p
    rw [keys_cons, List.mem_cons, not_or] at h
    rw [put_ne h.1, ih h.2]; rfl
theorem fold18 : ∀ (l acc : List Nd) (T : List Int), (keys (acc ++ l)).Nodup → l.foldl g18 (acc, T) = (acc ++ l, T ++ todo l)
  | [], acc, T, _ => by simp [todo]
  | n :: l, acc, T, h => by
    have h1 : n.1 ∉ keys acc := by
      intro h'
      unfold keys at h h'
      rw [List.map_append, List.map_cons, List.nodup_append] at h
      exact h.2.2 _ h' _ (by simp) rfl
    rw [List.foldl_cons]
    have e : g18 (acc, T) n = (acc ++ [n], if 1 < n.1 then T ++ [n.1 / 2] else T) := by unfold g18; rw [put_new h1]
    rw [e, fold18 l (acc ++ [n]) _ (by simpa using h), todo]
    split <;> simp
theorem thr_le {count k : Int} (hc : 0 ≤ count ∧ count ≤ 1099511627776) (hk : 1 ≤ k) : thr count k = count / k ∧ 0 ≤ thr count k ∧ thr count k ≤ count := by
  have e : count.tdiv k = count / k := Int.tdiv_eq_ediv_of_nonneg hc.1
  have h1 : count / k ≤ count := Int.ediv_le_self _ hc.1
  have h2 : 0 ≤ count / k := Int.ediv_nonneg hc.1 (by omega)
  have h3 : thr count k = count / k := by unfold thr; rw [e]; exact wrap_id (by omega) (by omega)
  omega
theorem cn_at {M : KV Int} (hn : (keys M).Nodup) {n : Nd} (h : n ∈ M) : cn M n.1 = n.2 := ((mem_get 0 hn n.1 n.2).1 h).2
theorem Dig.inv {w : Nat} {k count : Int} {nodes : List Nd} (D : Dig w k count nodes) : MInv w (thr count k) count nodes nodes := by
  have hn : (keys nodes).Nodup := asc_nodup D.asc
  have hk : ∀ id ∈ keys nodes, ∃ n ∈ nodes, n.1 = id ∧ cn nodes id = n.2 := fun id hid => by
    obtain ⟨n, h1, rfl⟩ := List.mem_map.1 hid
    exact ⟨n, h1, rfl, cn_at hn h1⟩
  refine ⟨hn, fun id hid => ?_, fun id hid hlt => ?_, ?_, fun v => Int.le_refl _, fun v => Int.le_refl _⟩
  · obtain ⟨n, h1, rfl, h2⟩ := hk id hid
    rw [h2]; exact D.node n h1
  · obtain ⟨n, h1, rfl, h2⟩ := hk id hid
    rw [h2]; exact D.inner n h1 hlt
  · have : wsum (fun _ => 1) nodes = (nodes.map (·.2)).sum := by unfold wsum; simp
    rw [this]; exact D.sum
theorem Dig.ksum {w : Nat} {k count : Int} {nodes : List Nd} (D : Dig w k count nodes) : Pl.ksum dep nodes ≤ 42000 := by
  have : ∀ l : List Nd, (∀ n ∈ l, ∃ x : Nat, n.1 = x ∧ Nod w x) → Pl.ksum dep l ≤ 21 * l.length := by
    intro l
    induction l with
    | nil => intro _; exact Nat.le_refl _
    | cons n l ih =>
      intro h
      obtain ⟨x, hx, hX⟩ := h n (by simp)
      have h1 := ih fun m hm => h m (by simp [hm])
      have h2 : dep n.1 ≤ 21 := by unfold dep; rw [hx, Int.toNat_natCast]; have := hX.le; have := hX.w2; omega
      have e : Pl.ksum dep (n :: l) = dep n.1 + Pl.ksum dep l := by unfold Pl.ksum keys; simp
      rw [e, List.length_cons]; omega
  have h := this nodes fun n hn => (D.node n hn).1
  have := D.len; omega
end Go.Q
/- What Compress gives: the whole. -/
set_option linter.unusedVariables false
set_option linter.unusedSimpArgs false
set_option maxRecDepth 100000
namespace Go.Q
open Go Go.T Go.Pl Go.Proofs Go.Proofs.Qd
theorem F18_bad {bits k count : Int} {nodes : List Nd} (h : qcheck bits k count nodes ≠ 0) : F18 (bits, k, count, nodes) = some ((0, 0, 0, []), 1) := by
  unfold F18
  rw [call_s (F20_eq bits k count nodes), ine_d, sel_i, if_pos h]
structure Cmpd (w : Nat) (k count : Int) (nodes r : List Nd) : Prop where
  inv : MInv w (thr count k) count nodes r
  asc : Asc r
  none : ∀ m, 1 ≤ m → ¬ can (thr count k) r m
  same : (∀ m, 1 ≤ m → ¬ can (thr count k) nodes m) → r = nodes
  len : r.length ≤ nodes.length
theorem F18_good {bits k count : Int} {nodes : List Nd} (h : qcheck bits k count nodes = 0) : ∃ r, F18 (bits, k, count, nodes) = some ((bits, k, count, r), 0) ∧ Cmpd bits.toNat k count nodes r := by
  obtain ⟨hb, D⟩ := dig_of h
  have hw : 1 ≤ bits.toNat ∧ bits.toNat ≤ 20 := ⟨D.w1, D.w2⟩
  have hq := F20_eq bits k count nodes
  rw [h] at hq
  generalize hW : bits.toNat = w at *
  subst hb
  have p20 := pow21 hw.2
  have hlen := D.len
  have hk := D.k1
  obtain ⟨_, t1, t2⟩ := thr_le ⟨D.c0, D.c1⟩ D.k1
  -- the first loop
  have hl1 : iter (fun (s1 : (Int × ((List (Int × Int)) × (List Int)))) =>
      sel (ilt s1.1 (n2i (llen nodes))) (join (need (inL s1.1 (llen nodes)) <|
      sel (ilt 1 ((lget (0, 0) nodes (i2n s1.1)).1)) (need (ine 2 0) <|
      need (room (nadd (llen s1.2.2) (llen (iquo .i64 ((lget (0, 0) nodes (i2n s1.1)).1) 2 :: ([] : List Int)))) 8) <|
      some (.inl (mput ieq s1.2.1 ((lget (0, 0) nodes (i2n s1.1)).1) ((lget (0, 0) nodes (i2n s1.1)).2), lcat s1.2.2 (iquo .i64 ((lget (0, 0) nodes (i2n s1.1)).1) 2 :: ([] : List Int))))) <|
      some (.inl (mput ieq s1.2.1 ((lget (0, 0) nodes (i2n s1.1)).1) ((lget (0, 0) nodes (i2n s1.1)).2), s1.2.2))) fun (j2 : ((List (Int × Int)) × (List Int))) =>
      some (.inl (iadd .i64 s1.1 1, j2.1, j2.2))) <|
      (some (.inr (.inl (s1.2.1, s1.2.2))) : Option ((Int × ((List (Int × Int)) × (List Int))) ⊕ (((List (Int × Int)) × (List Int)) ⊕ (Dg × Int))))) (0, ([] : List (Int × Int)), lrep 0 0) = some (.inl (nodes, todo nodes)) := by
    refine (iter_for nodes (fun st i => (i, st.1, st.2)) (fun s a => .inl (g18 s a)) (fun st => (.inl st : (List Nd × List Int) ⊕ (Dg × Int))) (fun i st => st.2.length ≤ i) (([] : List Nd), ([] : List Int)) (by simp) ?_ ?_).trans ?_
    · rintro i ⟨M, T⟩ hi hI
      have hlt : (i : Int) < nodes.length := by omega
      have hin : inL (i : Int) nodes.length = true := inL_t hi
      have hg : lget (0, 0) nodes i = nodes[i] := lget_t hi
      obtain ⟨⟨x, hx, hX⟩, hc⟩ := D.node nodes[i] (List.getElem_mem hi)
      have hx2 := hX.x2
      have hp : 2 ^ (w + 1) = 2 * 2 ^ w := by rw [Nat.pow_succ]; omega
      dsimp only at hI ⊢
      simp only [n2i_c, llen_c, i2n_c, hg, hin, need_t, ilt_d, sel_i, hlt, if_true]
      generalize nodes[i] = n at *
      rw [iadd_ok (by omega) (by omega), iquo_2 (by omega)]
      unfold g18
      dsimp only
      by_cases h1 : 1 < n.1
      · rw [if_pos h1, if_pos h1, need_t (show ine 2 0 = true from rfl), need_t (by simp [room, nadd]; omega)]
        refine ⟨rfl, fun st' h => ?_⟩
        have := Sum.inl.inj h; subst this
        simp; omega
      · rw [if_neg h1, if_neg h1]
        refine ⟨rfl, fun st' h => ?_⟩
        have := Sum.inl.inj h; subst this
        dsimp only; omega
    · intro st hI
      simp only [n2i_c, llen_c, ilt_d, sel_i]
      rw [if_neg (by omega)]
    · rw [fold_l, fold18 nodes [] [] (by simpa using asc_nodup D.asc)]; simp
  have hT : (todo nodes).length ≤ nodes.length := todo_len nodes
  obtain ⟨T, hT1, hT2⟩ := F46_eq (l := todo nodes) (by omega)
  have hTl := hT2.length_eq
  have hk0 := D.ksum
  have hinv := D.inv
  obtain ⟨M', l1, l2, l3, l4, l5, l6⟩ := cmp_loop (nd0 := nodes) (nodes := nodes) hw ⟨D.c0, D.c1⟩ t2 _ nodes T rfl (by omega) hinv (fun m hm => by
    obtain ⟨n, h1, h2, rfl⟩ := mem_todo.1 (hT2.subset hm)
    obtain ⟨⟨x, hx, hX⟩, _⟩ := D.node n h1
    have hx2 := hX.x2
    have hp : 2 ^ (w + 1) = 2 * 2 ^ w := by rw [Nat.pow_succ]; omega
    omega) (fun m h1 h2 => by
    have key : 2 * m ∈ keys nodes ∨ 2 * m + 1 ∈ keys nodes := by
      by_cases g1 : 2 * m ∈ keys nodes
      · exact .inl g1
      by_cases g2 : 2 * m + 1 ∈ keys nodes
      · exact .inr g2
      exact absurd (show chl nodes m = 0 by show cn nodes (2 * m) + cn nodes (2 * m + 1) = 0; rw [(hinv.cn0 _).2.2.1 g1, (hinv.cn0 _).2.2.1 g2]; rfl) h2.1
    refine hT2.symm.subset (mem_todo.2 ?_)
    rcases key with g | g
    · obtain ⟨n, g1, g2⟩ := List.mem_map.1 g
      exact ⟨n, g1, by omega, by omega⟩
    · obtain ⟨n, g1, g2⟩ := List.mem_map.1 g
      exact ⟨n, g1, by omega, by omega⟩)
  have hML := len_ksum l2
  -- the sorted list
  obtain ⟨r, r1, r2⟩ := sort_ex M'
  have hnr : (keys r).Nodup := (r1.map _).symm.nodup_iff.1 l2.nod
  have hra : Asc r := asc_of hnr r2
  refine ⟨r, ?_, l2.perm r1.symm, hra, fun m h1 h2 => l3 m h1 ((can_perm l2.nod r1.symm m).2 h2), fun hno => ?_, by have := r1.length_eq; omega⟩
  · unfold F18
    rw [call_s hq, sel_f (show ine 0 0 = false from rfl), need_t (mk8 (by show nodes.length ≤ _; omega))]
    refine Eq.trans (join_l hl1) ?_
    dsimp only
    rw [call_s hT1, need_t (by rw [ine_d]; simp; omega)]
    refine Eq.trans (join_l l1) ?_
    rw [need_t (mk16 (by show M'.length ≤ _; omega))]
    refine mrange_of fun l' hl' => ?_
    have hl'n := hl'.length_eq
    have hq : callQ (Q50 l') (fun (r17 : (List (Int × Int))) => some ((((w : Int), k, count, r17), (0 : Int)) : Dg × Int)) = some (((w : Int), k, count, r), 0) := by
      refine callQ_of ⟨r, ⟨by omega, fun n hn => ⟨n.1, rfl, ?_⟩, r1.trans hl'.symm, r2⟩⟩ fun a ha => ?_
      · obtain ⟨⟨x, hx, hX⟩, _⟩ := l2.node n.1 (List.mem_map_of_mem (hl'.subset hn))
        have hx2 := hX.x2
        have hp : 2 ^ (w + 1) = 2 * 2 ^ w := by rw [Nat.pow_succ]; omega
        exact ⟨by omega, by omega⟩
      · obtain ⟨_, _, a1, a2⟩ := ha
        have hna : (keys a).Nodup := ((a1.trans hl').map _).symm.nodup_iff.1 l2.nod
        have := asc_unique (asc_of hna a2) hra ((a1.trans hl').trans r1.symm)
        rw [this]
    refine foldM_app l' _ (by simp [lrep]; omega) ?_
    show Go.T.up (callQ (Q50 l') _) = _
    rw [hq]; rfl
  · have := l4 hno
    subst this
    exact asc_unique hra D.asc r1
end Go.Q
/- The example of the chapter. -/
set_option linter.unusedVariables false
set_option linter.unusedSimpArgs false
set_option maxRecDepth 100000
namespace Go.Q
open Go Go.T Go.Pl Go.Proofs Go.Proofs.Qd
theorem join_it {S S' R : Type} {body : S → Option (S ⊕ (S' ⊕ R))} {s : S} {k : S' → Option R} (n : Nat) (s' : S') (h : iterN body n s = some (.inl s')) : join (iter body s) k = k s' := join_l (iter_of h)
theorem t39 : F39 (3, 2, [1, 1, 5, 6]) = some ((3, 2, 4, [(9, 2), (13, 1), (14, 1)]), true) := by
  unfold F39
  rw [call_s (show F13 (3, 2) = some ((3, 2, 0, []), 0) by kernel_rfl)]
  exact Eq.trans (join_it 6 (0, 3, 2, 4, [(9, 2), (13, 1), (14, 1)]) (by kernel_rfl)) rfl
theorem t18 : F18 (3, 2, 4, [(9, 2), (13, 1), (14, 1)]) = some ((3, 2, 4, [(2, 2), (3, 2)]), 0) := by
  unfold F18
  rw [call_s (F20_eq 3 2 4 [(9, 2), (13, 1), (14, 1)]), sel_f (by kernel_rfl), need_t (by kernel_rfl)]
  refine Eq.trans (join_it 5 ([(9, 2), (13, 1), (14, 1)], [4, 6, 7]) (by kernel_rfl)) ?_
  rw [call_s (show F46 [4, 6, 7] = some [7, 6, 4] by kernel_rfl), need_t (by kernel_rfl)]
  refine Eq.trans (join_it (body := body18 (3, 2, 4, [(9, 2), (13, 1), (14, 1)])) 40 [(3, 2), (2, 2)] (by kernel_rfl)) ?_
  rw [need_t (by kernel_rfl)]
  refine mrange_of fun l' hl' => ?_
  have hn := hl'.length_eq
  have hp : l'.Perm [(2, 2), (3, 2)] := hl'.trans (List.Perm.swap _ _ _)
  have hra : Asc [(2, 2), (3, 2)] := by unfold Asc; simp
  refine foldM_app l' _ (by rw [hn]; decide) ?_
  have hq : callQ (Q50 l') (fun (r17 : (List (Int × Int))) => some ((((3 : Int), (2 : Int), (4 : Int), r17), (0 : Int)) : Dg × Int)) = some ((3, 2, 4, [(2, 2), (3, 2)]), 0) := by
    refine callQ_of ⟨[(2, 2), (3, 2)], ⟨by rw [hn]; decide, fun n hm => ⟨n.1, rfl, ?_⟩, hp.symm, ?_⟩⟩ fun a ha => ?_
    · have := hp.subset hm
      simp at this
      rcases this with rfl | rfl <;> exact ⟨by decide, by decide⟩
    · exact hra.imp fun {a b} h i j hi hj => by
        have := Option.some.inj hi; have := Option.some.inj hj; omega
    · obtain ⟨_, _, a1, a2⟩ := ha
      have hna : (keys a).Nodup := ((a1.trans hp).map _).symm.nodup_iff.1 (asc_nodup hra)
      rw [asc_unique (asc_of hna a2) hra (a1.trans hp)]
  show Go.T.up (callQ (Q50 l') _) = _
  rw [hq]; rfl
theorem key_unique {kf : Nd → Int} : ∀ {l r : List Nd}, (l.Pairwise fun a b => kf a < kf b) → (r.Pairwise fun a b => kf a ≤ kf b) → r.Perm l → r = l
  | [], r, _, _, h => List.perm_nil.1 h
  | a :: l, [], _, _, h => absurd h.length_eq (by simp)
  | a :: l, b :: r, ha, hb, h => by
    have ha' := List.pairwise_cons.1 ha
    have hb' := List.pairwise_cons.1 hb
    have e : b = a := by
      have h1 : b ∈ a :: l := h.subset (by simp)
      have h2 : a ∈ b :: r := h.symm.subset (by simp)
      rcases List.mem_cons.1 h1 with h1 | h1
      · exact h1
      rcases List.mem_cons.1 h2 with h2 | h2
      · exact h2.symm
      have := ha'.1 b h1
      have := hb'.1 a h2
      omega
    subst e
    rw [key_unique ha'.2 hb'.2 ((List.perm_cons b).1 h)]
theorem t22 : F22 ((3, 2, 4, [(2, 2), (3, 2)]), 5) = some (2, 4, 0) := (F22_eq _ _ _ _ _).trans (by kernel_rfl)
theorem t57 : F57 (1, 2) = some 0 := by
  unfold F57
  rw [sel_f (by kernel_rfl), sel_f (by kernel_rfl), call_s (show F82 1 = some 1 by kernel_rfl), call_s (a := 1) ?_]
  · rfl
  · unfold F81
    exact Eq.trans (join_it 5 1 (by kernel_rfl)) rfl
theorem t61a : F61a ([(2, 2), (3, 2)], 2, (), (3, 2, 4, [(2, 2), (3, 2)])) = some 0 := by
  unfold F61a
  have k1 : F59 ((2, 2), (3, 2, 4, [(2, 2), (3, 2)])) = some 0 := by kernel_rfl
  have k2 : F59 ((3, 2), (3, 2, 4, [(2, 2), (3, 2)])) = some 4 := by kernel_rfl
  have hpw : ([(2, 2), (3, 2)] : List Nd).Pairwise fun a b => (F59 (a, (3, 2, 4, [(2, 2), (3, 2)]))).getD 0 < (F59 (b, (3, 2, 4, [(2, 2), (3, 2)]))).getD 0 := by
    simp only [List.pairwise_cons, List.mem_singleton, forall_eq]
    rw [k1, k2]; simp
  have hdom : ∀ n ∈ ([(2, 2), (3, 2)] : List Nd), ∃ k, F59 (n, (3, 2, 4, [(2, 2), (3, 2)])) = some k ∧ keyOk k := fun n hn => by
    simp at hn
    rcases hn with rfl | rfl
    · exact ⟨_, k1, by decide, by decide⟩
    · exact ⟨_, k2, by decide, by decide⟩
  refine callQ_of ⟨[(2, 2), (3, 2)], by simp, by decide, hdom, .refl _, ?_⟩ fun r hr => ?_
  · exact hpw.imp fun {a b} h i j hi hj => by dsimp only at hi hj; rw [hi, hj] at h; simp at h; omega
  · obtain ⟨_, _, _, hp, hs⟩ := hr
    have hp : r.Perm [(2, 2), (3, 2)] := hp
    have : r = [(2, 2), (3, 2)] := key_unique hpw (hs.imp_of_mem fun {a b} ha hb h => by
      obtain ⟨i, hi, _⟩ := hdom a (hp.subset ha)
      obtain ⟨j, hj, _⟩ := hdom b (hp.subset hb)
      rw [hi, hj]; exact h i j hi hj) hp
    subst this
    exact Eq.trans (join_it 5 0 (by kernel_rfl)) rfl
theorem t61b : F61b ([(2, 2), (3, 2)], 2, (), (3, 2, 4, [(2, 2), (3, 2)])) = some 3 := by
  unfold F61b
  have k1 : F60 ((2, 2), (3, 2, 4, [(2, 2), (3, 2)])) = some 3 := by kernel_rfl
  have k2 : F60 ((3, 2), (3, 2, 4, [(2, 2), (3, 2)])) = some 7 := by kernel_rfl
  have hpw : ([(2, 2), (3, 2)] : List Nd).Pairwise fun a b => (F60 (a, (3, 2, 4, [(2, 2), (3, 2)]))).getD 0 < (F60 (b, (3, 2, 4, [(2, 2), (3, 2)]))).getD 0 := by
    simp only [List.pairwise_cons, List.mem_singleton, forall_eq]
    rw [k1, k2]; simp
  have hdom : ∀ n ∈ ([(2, 2), (3, 2)] : List Nd), ∃ k, F60 (n, (3, 2, 4, [(2, 2), (3, 2)])) = some k ∧ keyOk k := fun n hn => by
    simp at hn
    rcases hn with rfl | rfl
    · exact ⟨_, k1, by decide, by decide⟩
    · exact ⟨_, k2, by decide, by decide⟩
  refine callQ_of ⟨[(2, 2), (3, 2)], by simp, by decide, hdom, .refl _, ?_⟩ fun r hr => ?_
  · exact hpw.imp fun {a b} h i j hi hj => by dsimp only at hi hj; rw [hi, hj] at h; simp at h; omega
  · obtain ⟨_, _, _, hp, hs⟩ := hr
    have hp : r.Perm [(2, 2), (3, 2)] := hp
    have : r = [(2, 2), (3, 2)] := key_unique hpw (hs.imp_of_mem fun {a b} ha hb h => by
      obtain ⟨i, hi, _⟩ := hdom a (hp.subset ha)
      obtain ⟨j, hj, _⟩ := hdom b (hp.subset hb)
      rw [hi, hj]; exact h i j hi hj) hp
    subst this
    exact Eq.trans (join_it 5 3 (by kernel_rfl)) rfl
theorem t24 : F24 ((3, 2, 4, [(2, 2), (3, 2)]), 1, 2) = some (0, 3, 0) := by
  unfold F24
  rw [call_s (show F20 (3, 2, 4, [(2, 2), (3, 2)]) = some 0 from (F20_eq _ _ _ _).trans (by kernel_rfl))]
  rw [sel_t (show bnot (ine 0 0) = true by kernel_rfl), call_s t57, sel_f (by kernel_rfl), sel_f (by kernel_rfl), sel_f (by kernel_rfl), call_s (show F58 ((1, 2), 4) = some 2 by kernel_rfl)]
  exact Eq.trans (call_s t61a) (call_s t61b)
theorem t40 : F40 ([(2, 2), (3, 2)], [(2, 2), (3, 2)]) = some true := by
  unfold F40
  rw [sel_f (by kernel_rfl)]
  exact Eq.trans (join_it 5 () (by kernel_rfl)) rfl
theorem awake : F12 () = some true := by
  unfold F12
  rw [call_s t39, call_s t18, call_s t22, call_s t24, sel_t (by kernel_rfl), sel_t (by kernel_rfl), call_s t40]
  rfl
end Go.Q
/- QdigestCompress, in plain Lean. -/
set_option linter.unusedVariables false
set_option linter.unusedSimpArgs false
set_option maxRecDepth 100000
namespace Go.Q
open Go Go.T Go.Pl Go.Proofs Go.Proofs.Qd
theorem fold_rk (w : Nat) (v : Int) : ∀ (l : List Nd) (a b : Int), l.foldl (rkG w v) (a, b) = (a + wsum (hiInd w v) l, b + wsum (loInd w v) l)
  | [], a, b => by simp [wsum]
  | n :: l, a, b => by
    rw [List.foldl_cons, show rkG w v (a, b) n = (a + n.2 * hiInd w v n.1, b + n.2 * loInd w v n.1) by
      unfold rkG hiInd loInd
      dsimp only
      congr 1
      · split <;> simp
      · split <;> simp, fold_rk w v l, wsum_cons, wsum_cons, Int.add_assoc, Int.add_assoc]
theorem chk_ok {bits count th : Int} : ∀ {l : List Nd} {before sum : Int}, (∀ n ∈ l, before < n.1 ∧ n.1 < shl 2 bits ∧ 1 ≤ n.2 ∧ n.2 ≤ count ∧ (n.1 < shl 1 bits → n.2 ≤ th)) → Asc l → chk bits count th l before sum = some (sum + (l.map (·.2)).sum)
  | [], before, sum, _, _ => by simp [chk]
  | n :: l, before, sum, h, ha => by
    obtain ⟨h1, h2, h3, h4, h5⟩ := h n (by simp)
    have ha' := List.pairwise_cons.1 ha
    rw [chk, if_neg (by omega), if_neg (by omega), chk_ok (fun m hm => ?_) ha'.2]
    · simp [Int.add_assoc]
    · obtain ⟨_, g⟩ := h m (by simp [hm])
      exact ⟨ha'.1 m hm, g⟩
theorem Cmpd.check {w : Nat} {k count : Int} {nodes r : List Nd} (D : Dig w k count nodes) (C : Cmpd w k count nodes r) : qcheck (w : Int) k count r = 0 := by
  have hlen := C.len
  have := D.len; have := D.w1; have := D.w2; have := D.k1; have := D.k2; have := D.c0; have := D.c1
  have p2 := shl_two (bits := (w : Int)) ⟨by omega, by omega⟩
  have p1 := shl_one (bits := (w : Int)) ⟨by omega, by omega⟩
  rw [Int.toNat_natCast] at p1 p2
  unfold qcheck
  rw [if_neg (by omega), if_neg (by omega), chk_ok (fun n hn => ?_) C.asc]
  · have hs : (r.map (·.2)).sum = count := by
      have := C.inv.sum
      unfold wsum at this
      simpa using this
    simp only [hs, Int.zero_add]
    rw [if_neg (by simp)]
  · have hk : n.1 ∈ keys r := List.mem_map_of_mem hn
    have hc := cn_at C.inv.nod hn
    obtain ⟨⟨x, hx, hX⟩, h1, h2⟩ := C.inv.node n.1 hk
    have h3 := C.inv.inner n.1 hk
    rw [hc] at h1 h2 h3
    have hx1 := hX.x1; have hx2 := hX.x2
    refine ⟨by omega, by omega, h1, h2, fun h => h3 (by omega)⟩
theorem F15_same (d : Dg) (h : d.2.2.2.length ≤ 1000000) : F15 (d, d) = some true := by
  obtain ⟨bits, k, count, l⟩ := d
  have h : l.length ≤ 1000000 := h
  unfold F15
  simp only [ine_d, ne_eq, not_true_eq_false, decide_false, pick_or, Bool.or_false]
  rw [sel_f rfl]
  refine Eq.trans (join_of _ (iter_for l (fun (_ : Unit) i => i) (fun s a => .inl s) (fun _ => (.inl () : PUnit ⊕ Bool)) (fun _ _ => True) () trivial ?_ ?_)) ?_
  · intro i st hi _
    have hlt : (i : Int) < l.length := by omega
    have hin : inL (i : Int) l.length = true := inL_t hi
    refine ⟨?_, fun _ _ => trivial⟩
    simp only [n2i_c, llen_c, i2n_c, hin, need_t, ilt_d, sel_i, hlt, if_true, ieq_t, band_d, Bool.and_self, bnot_d, Bool.not_true]
    rw [sel_f rfl, iadd_ok (by omega) (by omega)]; rfl
  · intro st _
    simp only [n2i_c, llen_c, ilt_d, sel_i]
    rw [if_neg (by omega)]
  · rw [fold_l]; rfl
theorem sum_le : ∀ {M : KV Int} {L : List Int}, (∀ p ∈ M, 0 ≤ p.2) → (keys M).Nodup → L.Nodup → (L.map (cn M)).sum ≤ wsum (fun _ => 1) M
  | [], L, _, _, _ => by
    have : ∀ L : List Int, (L.map (cn [])).sum = 0 := by
      intro L; induction L with
      | nil => rfl
      | cons a L ih => rw [List.map_cons, List.sum_cons, ih]; rfl
    rw [this]; exact Int.le_refl _
  | (j, x) :: M, L, h0, hk, hL => by
    rw [keys_cons, List.nodup_cons] at hk
    have hx := h0 (j, x) (by simp)
    have ih := fun L' hL' => sum_le (M := M) (L := L') (fun p hp => h0 p (by simp [hp])) hk.2 hL'
    rw [wsum_cons]
    have same : ∀ L : List Int, j ∉ L → (L.map (cn ((j, x) :: M))).sum = (L.map (cn M)).sum := by
      intro L hj
      congr 1
      exact List.map_congr_left fun a ha => get_ne 0 (fun e => hj (by rw [← e]; exact ha)) x M
    by_cases hj : j ∈ L
    · have hp := List.perm_cons_erase hj
      have e1 : (L.map (cn ((j, x) :: M))).sum = x + ((L.erase j).map (cn ((j, x) :: M))).sum := by
        have : ∀ {a b : List Int}, a.Perm b → a.sum = b.sum := fun h => by
          induction h with
          | nil => rfl
          | cons x _ ih => simp [ih]
          | swap x y l => simp; omega
          | trans _ _ h1 h2 => exact h1.trans h2
        rw [this (hp.map _), List.map_cons, List.sum_cons]
        congr 1
        exact get_eq 0 j x M
      rw [e1, same _ (fun h => (hL.mem_erase_iff.1 h).1 rfl)]
      have := ih (L.erase j) (hL.erase j)
      dsimp only; omega
    · rw [same L hj]
      have := ih L hL
      dsimp only at hx ⊢; omega
theorem len_mul (L : List Int) (f : Int → Int) (c : Int) (h : ∀ x ∈ L, c ≤ f x) : L.length * c ≤ (L.map f).sum := by
  induction L with
  | nil => simp
  | cons a L ih =>
    have h1 := h a (by simp)
    have h2 := ih fun x hx => h x (by simp [hx])
    rw [List.map_cons, List.sum_cons, List.length_cons]
    have : ((L.length + 1 : Nat) : Int) * c = L.length * c + c := by push_cast; rw [Int.add_mul, Int.one_mul]
    omega
theorem nodup_mapI {L : List Int} {f : Int → Int} (h : L.Nodup) (hf : ∀ x ∈ L, ∀ y ∈ L, f x = f y → x = y) : (L.map f).Nodup := by
  rw [List.Nodup, List.pairwise_map]
  exact List.Pairwise.imp_of_mem (fun {a b} ha hb hab e => hab (hf a ha b hb e)) h
theorem sum_add (L : List Int) (f g : Int → Int) : (L.map fun x => f x + g x).sum = (L.map f).sum + (L.map g).sum := by
  induction L with
  | nil => rfl
  | cons a L ih => simp only [List.map_cons, List.sum_cons, ih]; omega
theorem half {w : Nat} {k count : Int} {nodes r : List Nd} (D : Dig w k count nodes) (C : Cmpd w k count nodes r) (L : List Int) (hL : L.Nodup) (hm : ∀ x ∈ L, x ∈ keys r ∧ 2 ≤ x) (p : Int) (hp : p = 0 ∨ p = 1) (hpar : ∀ x ∈ L, x % 2 = p) : (L.length : Int) < 2 * k := by
  obtain ⟨t1, t2, t3⟩ := thr_le ⟨D.c0, D.c1⟩ D.k1
  have hk := D.k1
  have hc := C.inv.sum
  have h0 : ∀ q ∈ r, 0 ≤ q.2 := fun q hq => by
    have := (C.inv.node q.1 (List.mem_map_of_mem hq)).2.1
    rw [cn_at C.inv.nod hq] at this; omega
  have a1 := sum_le (L := L.map (· / 2)) h0 C.inv.nod (nodup_mapI hL fun x hx y hy e => by have := hpar x hx; have := hpar y hy; omega)
  have a2 := sum_le (L := L ++ L.map (· + (1 - 2 * p))) h0 C.inv.nod (by
    rw [List.nodup_append]
    refine ⟨hL, nodup_mapI hL fun x hx y hy e => by omega, fun x hx y hy e => ?_⟩
    obtain ⟨z, hz, rfl⟩ := List.mem_map.1 hy
    have := hpar x hx; have := hpar z hz; omega)
  rw [hc] at a1 a2
  rw [List.map_append, List.sum_append, List.map_map] at a2
  rw [List.map_map] at a1
  have a3 := len_mul L (fun x => cn r (x / 2) + (cn r x + cn r (x + (1 - 2 * p)))) (thr count k + 1) fun x hx => by
    obtain ⟨hx1, hx2⟩ := hm x hx
    have hpx := hpar x hx
    have hn := C.none (x / 2) (by omega)
    have c1 := (C.inv.cn0 x).2.1 hx1
    have c2 := (C.inv.cn0 (x + (1 - 2 * p))).1
    have e : chl r (x / 2) = cn r x + cn r (x + (1 - 2 * p)) := by
      show cn r (2 * (x / 2)) + cn r (2 * (x / 2) + 1) = _
      rcases hp with rfl | rfl
      · rw [show 2 * (x / 2) = x by omega]; rfl
      · rw [show 2 * (x / 2) = x + (1 - 2 * 1) by omega, show x + (1 - 2 * 1) + 1 = x by omega, Int.add_comm]
    unfold can at hn
    rw [e] at hn
    omega
  rw [sum_add, sum_add] at a3
  have a4 : (L.length : Int) * (thr count k + 1) ≤ 2 * count := by
    have e1 : (L.map fun x => cn r (x / 2)).sum = (L.map (cn r ∘ fun x => x / 2)).sum := rfl
    have e2 : (L.map fun x => cn r (x + (1 - 2 * p))).sum = (L.map (cn r ∘ fun x => x + (1 - 2 * p))).sum := rfl
    rw [e1, e2] at a3
    have e3 : (L.map fun x => cn r x).sum = (L.map (cn r)).sum := rfl
    rw [e3] at a3
    omega
  have a5 : count < (thr count k + 1) * k := by
    rw [t1]; exact Int.lt_ediv_add_one_mul_self count (by omega)
  have a6 : (L.length : Int) * (thr count k + 1) < 2 * k * (thr count k + 1) := by
    have : 2 * k * (thr count k + 1) = 2 * ((thr count k + 1) * k) := by rw [Int.mul_assoc, Int.mul_comm k]
    omega
  exact Int.lt_of_mul_lt_mul_right a6 (by omega)
theorem Cmpd.few {w : Nat} {k count : Int} {nodes r : List Nd} (D : Dig w k count nodes) (C : Cmpd w k count nodes r) : (r.length : Int) < 4 * k := by
  have hn := C.inv.nod
  have hE := half D C ((keys r).filter fun x => decide (2 ≤ x ∧ x % 2 = 0)) (hn.filter _) (fun x hx => by simp at hx; exact ⟨hx.1, hx.2.1⟩) 0 (.inl rfl) (fun x hx => by simp at hx; exact hx.2.2)
  have hO := half D C ((keys r).filter fun x => decide (2 ≤ x ∧ x % 2 = 1)) (hn.filter _) (fun x hx => by simp at hx; exact ⟨hx.1, hx.2.1⟩) 1 (.inr rfl) (fun x hx => by simp at hx; exact hx.2.2)
  have cut : ∀ l : List Int, l.Nodup → (∀ x ∈ l, 1 ≤ x) → l.length ≤ (l.filter fun x => decide (2 ≤ x ∧ x % 2 = 0)).length + (l.filter fun x => decide (2 ≤ x ∧ x % 2 = 1)).length + (if 1 ∈ l then 1 else 0) := by
    intro l
    induction l with
    | nil => intro _ _; exact Nat.zero_le _
    | cons a l ih =>
      intro h1 h2
      rw [List.nodup_cons] at h1
      have := ih h1.2 fun x hx => h2 x (by simp [hx])
      have ha := h2 a (by simp)
      by_cases e1 : a = 1
      · subst e1
        rw [if_neg h1.1] at this
        rw [List.filter_cons_of_neg (by simp), List.filter_cons_of_neg (by simp), if_pos (by simp), List.length_cons]; omega
      · have e2 : (1 ∈ a :: l) ↔ 1 ∈ l := by simp [Ne.symm e1]
        simp only [e2]
        by_cases e3 : a % 2 = 0
        · rw [List.filter_cons_of_pos (by simp; omega), List.filter_cons_of_neg (by simp; omega), List.length_cons, List.length_cons]; omega
        · rw [List.filter_cons_of_neg (by simp; omega), List.filter_cons_of_pos (by simp; omega), List.length_cons, List.length_cons]; omega
  have := cut (keys r) hn fun x hx => by
    obtain ⟨⟨y, hy, hY⟩, _⟩ := C.inv.node x hx
    have := hY.x1; omega
  have hl : (keys r).length = r.length := by simp [keys]
  have : (if 1 ∈ keys r then 1 else 0) ≤ 1 := by split <;> omega
  omega
end Go.Q
/- QdigestCompress, in plain Lean: the law. -/
set_option linter.unusedVariables false
set_option linter.unusedSimpArgs false
set_option maxRecDepth 100000
namespace Go.Q
open Go Go.T Go.Pl Go.Proofs Go.Proofs.Qd
theorem ieq_of {a b : Int} (h : a = b) : ieq a b = true := by subst h; exact ieq_t a
theorem law6 (bits k count : Int) (nodes : List Nd) (n : Int) (hn : 0 ≤ n ∧ n < 256) : F6 ((bits, k, count, nodes), n) = some true := by
  unfold F6
  by_cases g : (24 : Int) < nodes.length
  · rw [call_s (show F11 (bits, k, count, nodes) = some true by unfold F11; rw [ilt_d, n2i_c, llen_c]; simp [g])]
    rw [sel_f (show bnot true = false from rfl), call_b, sel_t (show pickV true true (ine 0 0) = true from rfl)]
    exact call_s awake
  rw [call_s (show F11 (bits, k, count, nodes) = some false by unfold F11; rw [ilt_d, n2i_c, llen_c]; simp [g])]
  rw [sel_t (show bnot false = true from rfl), call_s (F21_eq bits k count nodes), pick_or, ine_d, Bool.false_or, sel_i]
  by_cases h : qcheck bits k count nodes = 0
  · rw [if_neg (by omega)]
    obtain ⟨hb, D⟩ := dig_of h
    obtain ⟨r, hr, C⟩ := F18_good h
    rw [call_s hr]
    dsimp only
    have p20 := pow21 D.w2
    generalize hW : bits.toNat = w at *
    subst hb
    have hc := C.check D
    obtain ⟨r', hr', C'⟩ := F18_good hc
    have hrr : r' = r := C'.same C.none
    subst hrr
    have hpw : 0 < 2 ^ w := Nat.two_pow_pos w
    rw [call_s hr', need_t (by rw [ile_d]; simp), ishl_1 w D.w2, need_t (by rw [ine_d]; exact decide_eq_true (by omega))]
    have e1 : iwrap .i64 n = n := wrap_id (by omega) (by omega)
    have e2 : irem n ((2 ^ w : Nat) : Int) = n % ((2 ^ w : Nat) : Int) := by unfold irem; exact Int.tmod_eq_emod_of_nonneg hn.1
    rw [e1, e2]
    have hv0 : 0 ≤ n % ((2 ^ w : Nat) : Int) := Int.emod_nonneg _ (by omega)
    have hv1 : n % ((2 ^ w : Nat) : Int) < ((2 ^ w : Nat) : Int) := Int.emod_lt_of_pos _ (by omega)
    generalize n % ((2 ^ w : Nat) : Int) = v at *
    have s1 : shl 1 (w : Int) = ((2 ^ w : Nat) : Int) := ishl_1 w D.w2
    have k1 : rankT (w : Int) k count nodes v = (wsum (hiInd w v) nodes, wsum (loInd w v) nodes, 0) := by
      unfold rankT
      rw [if_neg (by omega), if_neg (by omega), Int.toNat_natCast, fold_rk]; simp
    have k2 : rankT (w : Int) k count r' v = (wsum (hiInd w v) r', wsum (loInd w v) r', 0) := by
      unfold rankT
      rw [if_neg (by omega), if_neg (by omega), Int.toNat_natCast, fold_rk]; simp
    rw [call_s (F22_eq (w : Int) k count nodes v), call_s (F22_eq (w : Int) k count r' v), k1, k2]
    have b1 := C.inv.lo v
    have b2 := C.inv.hi v
    have few := C.few D
    have hk1 := D.k1; have hk2 := D.k2
    have e3 : imul .i64 4 k = 4 * k := wrap_id (by omega) (by omega)
    have hlen := C.len; have hlen2 := D.len
    dsimp only
    rw [sel_t (by simp [pick_and, ieq_t]), call_s (F20_eq (w : Int) k count r'), hc, e3]
    have hlt : ilt (n2i (llen r')) (4 * k) = true := by rw [ilt_d, n2i_c, llen_c]; simpa using few
    rw [hlt, sel_t (by simp [pick_and, ieq_t]), call_s (F15_same ((w : Int), k, count, r') (by show r'.length ≤ _; omega))]
    have o1 : ile (wsum (hiInd w v) r') (wsum (hiInd w v) nodes) = true := by rw [ile_d]; simpa using b1
    have o2 : ile (wsum (loInd w v) nodes) (wsum (loInd w v) r') = true := by rw [ile_d]; simpa using b2
    rw [o1, o2, sel_t (by simp [pick_and, ieq_t]), call_s awake]
    simp [pick_and, ieq_t]
  · rw [if_pos (by omega)]
    exact call_s awake
end Go.Q
