/-
  Texts of the proof, part 5 of 6: what is used to prove the statement. No condition.
-/
import Derived.Test.YtjjplipoacljoaaDoorHBAnyQ3
import Derived.Test.YtjjplipoacljoaaDoorProg
import Derived.KernelRfl
import Derived.Recover
namespace Go.Proofs.YtjjplipoacljoaaDoor.AI
set_option maxRecDepth 100000
def tt (n : Nat) : Operand := .tmp n
def kk (n : Int) : Operand := .const (.int .i64 n)
def oo (d : Nat) (s : SOp) : SOper := ⟨some d, .op s, none⟩
def og (d : Nat) (s : SOp) (g : Nat) (b : Bool) : SOper := ⟨some d, .op s, some (g, b)⟩
/-- interleave/hb.Start -/
def s6 : SF := ⟨ .seq (.reg [oo 1 (.box 28 (tt 0)), oo 2 (.alloc 33 [(.slice none 0 0), (.slice none 0 0), (.slice none 0 0), (.slice none 0 0), (.slice none 0 0), (.slice none 0 0), (.slice none 0 0), (.slice none 0 0), (.slice none 0 0)])] [(0, 1)]) (.seq (.reg [oo 5 (.fad 4 (tt 1)), oo 6 (.load 1 false (tt 5)), oo 7 (.len (tt 6)), oo 8 (.mksl 31 1 24 [(.slice none 0 0)] (tt 7) (tt 7)), oo 9 (.fad 4 (tt 1)), oo 10 (.load 1 false (tt 9)), oo 11 (.len (tt 10)), oo 12 (.mksl 31 1 24 [(.slice none 0 0)] (tt 11) (tt 11)), oo 13 (.fad 1 (tt 1)), oo 14 (.load 1 false (tt 13)), oo 15 (.len (tt 14)), oo 16 (.mksl 31 1 24 [(.slice none 0 0)] (tt 15) (tt 15)), oo 17 (.fad 1 (tt 1)), oo 18 (.load 1 false (tt 17)), oo 19 (.len (tt 18)), oo 20 (.mksl 31 1 24 [(.slice none 0 0)] (tt 19) (tt 19)), oo 21 (.fad 0 (tt 1)), oo 22 (.load 1 false (tt 21)), oo 23 (.len (tt 22)), oo 24 (.mksl 31 1 24 [(.slice none 0 0)] (tt 23) (tt 23)), oo 25 (.fad 3 (tt 1)), oo 26 (.load 1 false (tt 25)), oo 27 (.len (tt 26)), oo 28 (.mksl 31 1 24 [(.slice none 0 0)] (tt 27) (tt 27)), oo 29 (.fad 4 (tt 1)), oo 30 (.load 1 false (tt 29)), oo 31 (.len (tt 30)), oo 32 (.mksl 31 1 24 [(.slice none 0 0)] (tt 31) (tt 31)), oo 33 (.fad 4 (tt 1)), oo 34 (.load 1 false (tt 33)), oo 35 (.len (tt 34)), oo 36 (.mksl 3 1 8 [(.int .i64 0)] (tt 35) (tt 35)), oo 37 (.build [(.slice none 0 0), (.slice none 0 0), (.slice none 0 0), (.slice none 0 0), (.slice none 0 0), (.slice none 0 0), (.slice none 0 0), (.slice none 0 0), (.slice none 0 0)] [(0, 1, (tt 8)), (1, 1, (tt 12)), (2, 1, (tt 16)), (3, 1, (tt 20)), (4, 1, (tt 24)), (5, 1, (tt 28)), (7, 1, (tt 32)), (8, 1, (tt 36))]), oo 3 (.alloc 33 [(.slice none 0 0), (.slice none 0 0), (.slice none 0 0), (.slice none 0 0), (.slice none 0 0), (.slice none 0 0), (.slice none 0 0), (.slice none 0 0), (.slice none 0 0)]), ⟨none, (.op (.store 9 (tt 3) (tt 37))), none⟩] [(1, 5), (2, 5), (3, 5), (1, 6), (2, 6), (3, 6), (1, 7), (2, 7), (3, 7), (1, 9), (2, 9), (3, 9), (5, 9), (6, 9), (7, 9), (1, 10), (2, 10), (3, 10), (5, 10), (6, 10), (7, 10), (1, 11), (2, 11), (3, 11), (5, 11), (6, 11), (7, 11), (1, 13), (2, 13), (3, 13), (5, 13), (6, 13), (7, 13), (9, 13), (10, 13), (11, 13), (1, 14), (2, 14), (3, 14), (5, 14), (6, 14), (7, 14), (9, 14), (10, 14), (11, 14), (1, 15), (2, 15), (3, 15), (5, 15), (6, 15), (7, 15), (9, 15), (10, 15), (11, 15), (1, 17), (2, 17), (3, 17), (5, 17), (6, 17), (7, 17), (9, 17), (10, 17), (11, 17), (13, 17), (14, 17), (15, 17), (1, 18), (2, 18), (3, 18), (5, 18), (6, 18), (7, 18), (9, 18), (10, 18), (11, 18), (13, 18), (14, 18), (15, 18), (1, 19), (2, 19), (3, 19), (5, 19), (6, 19), (7, 19), (9, 19), (10, 19), (11, 19), (13, 19), (14, 19), (15, 19), (1, 21), (2, 21), (3, 21), (5, 21), (6, 21), (7, 21), (9, 21), (10, 21), (11, 21), (13, 21), (14, 21), (15, 21), (17, 21), (18, 21), (19, 21), (1, 22), (2, 22), (3, 22), (5, 22), (6, 22), (7, 22), (9, 22), (10, 22), (11, 22), (13, 22), (14, 22), (15, 22), (17, 22), (18, 22), (19, 22), (1, 23), (2, 23), (3, 23), (5, 23), (6, 23), (7, 23), (9, 23), (10, 23), (11, 23), (13, 23), (14, 23), (15, 23), (17, 23), (18, 23), (19, 23), (1, 25), (2, 25), (3, 25), (5, 25), (6, 25), (7, 25), (9, 25), (10, 25), (11, 25), (13, 25), (14, 25), (15, 25), (17, 25), (18, 25), (19, 25), (21, 25), (22, 25), (23, 25), (1, 26), (2, 26), (3, 26), (5, 26), (6, 26), (7, 26), (9, 26), (10, 26), (11, 26), (13, 26), (14, 26), (15, 26), (17, 26), (18, 26), (19, 26), (21, 26), (22, 26), (23, 26), (1, 27), (2, 27), (3, 27), (5, 27), (6, 27), (7, 27), (9, 27), (10, 27), (11, 27), (13, 27), (14, 27), (15, 27), (17, 27), (18, 27), (19, 27), (21, 27), (22, 27), (23, 27), (1, 29), (2, 29), (3, 29), (5, 29), (6, 29), (7, 29), (9, 29), (10, 29), (11, 29), (13, 29), (14, 29), (15, 29), (17, 29), (18, 29), (19, 29), (21, 29), (22, 29), (23, 29), (25, 29), (26, 29), (27, 29), (1, 30), (2, 30), (3, 30), (5, 30), (6, 30), (7, 30), (9, 30), (10, 30), (11, 30), (13, 30), (14, 30), (15, 30), (17, 30), (18, 30), (19, 30), (21, 30), (22, 30), (23, 30), (25, 30), (26, 30), (27, 30), (1, 31), (2, 31), (3, 31), (5, 31), (6, 31), (7, 31), (9, 31), (10, 31), (11, 31), (13, 31), (14, 31), (15, 31), (17, 31), (18, 31), (19, 31), (21, 31), (22, 31), (23, 31), (25, 31), (26, 31), (27, 31), (1, 33), (2, 33), (3, 33), (5, 33), (6, 33), (7, 33), (9, 33), (10, 33), (11, 33), (13, 33), (14, 33), (15, 33), (17, 33), (18, 33), (19, 33), (21, 33), (22, 33), (23, 33), (25, 33), (26, 33), (27, 33), (29, 33), (30, 33), (31, 33)]) (.seq (.seq (.reg [oo 38 (.fad 8 (tt 3)), oo 39 (.load 1 false (tt 38)), oo 40 (.len (tt 39)), oo 41 (.mv (kk 0))] []) (.block 0 (.loop (.seq (.reg [oo 42 (.bin .lss (tt 41) (tt 40))] []) (.seq (.cond 42 (.skip) (.exit 0)) (.seq (.block 1 (.seq (.reg [oo 43 (.mv (tt 41)), oo 4 (.mv (tt 43))] []) (.reg [oo 44 (.fad 8 (tt 3)), oo 45 (.load 1 false (tt 44)), oo 46 (.mv (tt 4)), oo 47 (.iad 1 (tt 45) (tt 46)), ⟨none, (.op (.store 1 (tt 47) (kk (-1)))), none⟩] []))) (.reg [oo 48 (.bin .add (tt 41) (kk 1)), oo 41 (.mv (tt 48))] []))))))) (.seq (.reg [oo 49 (.load 9 true (tt 3)), ⟨none, (.op (.store 9 (tt 2) (tt 49))), none⟩] []) (.ret)))), [.cell 2 9 true], 50⟩
/-- interleave/interleavelaw23.awake -/
def s8 : SF := ⟨ .seq (.reg [oo 0 (.mv (.const (.bool false)))] []) (.seq (.reg [⟨(some 6), (.call 16 [(.const (.bool false))]), none⟩, ⟨(some 7), (.call 15 [(tt 6)]), none⟩, oo 5 (.mv (tt 7)), oo 8 (.ext (tt 5) 0), oo 9 (.ext (tt 5) 1), oo 1 (.mv (tt 8)), oo 2 (.mv (tt 9))] []) (.seq (.reg [⟨(some 11), (.call 16 [(.const (.bool true))]), none⟩, ⟨(some 12), (.call 15 [(tt 11)]), none⟩, oo 10 (.mv (tt 12)), oo 13 (.ext (tt 10) 0), oo 14 (.ext (tt 10) 1), oo 3 (.mv (tt 13)), oo 4 (.mv (tt 14))] []) (.seq (.reg [oo 15 (.mv (tt 2)), oo 16 (.bin .eql (tt 15) (kk 0)), oo 17 (.mv (tt 16)), og 18 (.mv (tt 4)) 17 true, og 19 (.bin .eql (tt 18) (kk 0)) 17 true, oo 20 (.pick (tt 17) (tt 19) (.const (.bool false))), oo 21 (.mv (tt 20)), og 22 (.mv (tt 1)) 21 true, og 23 (.len (tt 22)) 21 true, og 24 (.bin .eql (tt 23) (kk 0)) 21 true, oo 25 (.pick (tt 21) (tt 24) (.const (.bool false))), oo 26 (.mv (tt 25)), og 27 (.mv (tt 3)) 26 true, og 28 (.len (tt 27)) 26 true, og 29 (.bin .eql (tt 28) (kk 1)) 26 true, oo 30 (.pick (tt 26) (tt 29) (.const (.bool false))), oo 31 (.mv (tt 30)), og 32 (.mv (tt 3)) 31 true, og 33 (.iad 2 (tt 32) (kk 0)) 31 true, og 34 (.load 2 true (tt 33)) 31 true, og 35 (.build [(.int .i64 0), (.int .i64 0)] [(0, 1, (kk 4)), (1, 1, (kk 5))]) 31 true, og 36 (.eqs false [(.int .i64), (.int .i64)] (tt 34) (tt 35)) 31 true, oo 37 (.pick (tt 31) (tt 36) (.const (.bool false))), oo 0 (.mv (tt 37))] []) (.ret)))), [.tmp 0], 38⟩
/-- interleave/interleavescene.World -/
def s9 : SF := ⟨ .seq (.reg [oo 0 (.alloc 28 [(.slice none 0 0), (.slice none 0 0), (.slice none 0 0), (.slice none 0 0), (.slice none 0 0), (.slice none 0 0)])] []) (.seq (.reg [oo 4 (.build [(.string ⟨#[]⟩), (.int .i64 0), (.int .i64 0), (.bool false), (.int .i64 0)] [(0, 1, (.const (.string ⟨#[120]⟩)))]), oo 5 (.build [(.string ⟨#[]⟩), (.int .i64 0), (.int .i64 0), (.bool false), (.int .i64 0)] [(0, 1, (.const (.string ⟨#[121]⟩))), (4, 1, (kk 1))]), oo 6 (.build [(.string ⟨#[]⟩), (.int .i64 0), (.int .i64 0), (.bool false), (.int .i64 0)] [(0, 1, (.const (.string ⟨#[118]⟩))), (3, 1, (.const (.bool true)))]), oo 7 (.build [(.string ⟨#[]⟩), (.int .i64 0), (.int .i64 0), (.bool false), (.int .i64 0)] [(0, 1, (.const (.string ⟨#[113]⟩))), (2, 1, (kk 2))]), oo 8 (.build [(.string ⟨#[]⟩), (.int .i64 0), (.int .i64 0), (.bool false), (.int .i64 0)] [(0, 1, (.const (.string ⟨#[113]⟩))), (1, 1, (kk 1)), (2, 1, (kk 2))]), oo 9 (.bsl 58 5 5 [(.string ⟨#[]⟩), (.int .i64 0), (.int .i64 0), (.bool false), (.int .i64 0)] [(0, 5, (tt 4)), (5, 5, (tt 5)), (10, 5, (tt 6)), (15, 5, (tt 7)), (20, 5, (tt 8))]), oo 10 (.build [(.string ⟨#[]⟩), (.bool false)] [(0, 1, (.const (.string ⟨#[109]⟩)))]), oo 11 (.build [(.string ⟨#[]⟩), (.bool false)] [(0, 1, (.const (.string ⟨#[110]⟩)))]), oo 12 (.build [(.string ⟨#[]⟩), (.bool false)] [(0, 1, (.const (.string ⟨#[114]⟩))), (1, 1, (.const (.bool true)))]), oo 13 (.bsl 60 2 3 [(.string ⟨#[]⟩), (.bool false)] [(0, 2, (tt 10)), (2, 2, (tt 11)), (4, 2, (tt 12))]), oo 14 (.build [(.string ⟨#[]⟩), (.int .i64 0)] [(0, 1, (.const (.string ⟨#[99]⟩)))]), oo 15 (.bsl 62 2 1 [(.string ⟨#[]⟩), (.int .i64 0)] [(0, 2, (tt 14))]), oo 16 (.bsl 9 1 1 [(.string ⟨#[]⟩)] [(0, 1, (.const (.string ⟨#[102]⟩)))]), oo 17 (.bsl 9 1 4 [(.string ⟨#[]⟩)] [(0, 1, (.const (.string ⟨#[109, 97, 105, 110]⟩))), (1, 1, (.const (.string ⟨#[116, 49]⟩))), (2, 1, (.const (.string ⟨#[116, 50]⟩))), (3, 1, (.const (.string ⟨#[116, 51]⟩)))]), oo 18 (.build [(.slice none 0 0), (.slice none 0 0), (.slice none 0 0), (.slice none 0 0), (.slice none 0 0), (.slice none 0 0)] [(0, 1, (tt 9)), (1, 1, (tt 13)), (2, 1, (tt 15)), (3, 1, (tt 16)), (4, 1, (tt 17))]), oo 1 (.alloc 28 [(.slice none 0 0), (.slice none 0 0), (.slice none 0 0), (.slice none 0 0), (.slice none 0 0), (.slice none 0 0)]), ⟨none, (.op (.store 6 (tt 1) (tt 18))), none⟩] [(5, 9), (5, 11), (9, 11), (5, 12), (9, 12), (11, 12), (5, 13), (9, 13), (11, 13), (12, 13), (5, 15), (9, 15), (11, 15), (12, 15), (13, 15)]) (.seq (.seq (.reg [oo 19 (.fad 4 (tt 1)), oo 20 (.load 1 false (tt 19)), oo 21 (.len (tt 20)), oo 22 (.mv (kk 0))] []) (.block 0 (.loop (.seq (.reg [oo 23 (.bin .lss (tt 22) (tt 21))] []) (.seq (.cond 23 (.skip) (.exit 0)) (.seq (.block 1 (.seq (.reg [oo 24 (.mv (tt 22)), oo 2 (.mv (tt 24))] []) (.seq (.reg [oo 3 (.mv (kk 0))] []) (.block 2 (.loop (.seq (.seq (.reg [oo 25 (.mv (tt 3)), oo 26 (.bin .lss (tt 25) (kk 6))] []) (.cond 26 (.skip) (.exit 2))) (.seq (.block 3 (.reg [oo 29 (.fad 5 (tt 1)), oo 30 (.load 1 false (tt 29)), oo 31 (.mv (tt 2)), oo 32 (.mv (tt 3)), oo 33 (.mv (tt 2)), oo 34 (.bin .mul (kk 10) (tt 33)), oo 35 (.mv (tt 3)), oo 36 (.bin .add (tt 34) (tt 35)), oo 37 (.bin .add (tt 36) (kk 1)), oo 38 (.build [(.int .i64 0), (.int .i64 0), (.int .i64 0)] [(0, 1, (tt 31)), (1, 1, (tt 32)), (2, 1, (tt 37))]), oo 39 (.bsl 64 3 1 [(.int .i64 0), (.int .i64 0), (.int .i64 0)] [(0, 3, (tt 38))]), oo 40 (.app 64 3 24 (tt 30) (tt 39)), oo 41 (.fad 5 (tt 1)), ⟨none, (.op (.store 1 (tt 41) (tt 40))), none⟩] [(1, 10)])) (.reg [oo 27 (.mv (tt 3)), oo 28 (.bin .add (tt 27) (kk 1)), oo 3 (.mv (tt 28))] [])))))))) (.reg [oo 42 (.bin .add (tt 22) (kk 1)), oo 22 (.mv (tt 42))] []))))))) (.seq (.reg [oo 43 (.load 6 true (tt 1)), ⟨none, (.op (.store 6 (tt 0) (tt 43))), none⟩] []) (.ret)))), [.cell 0 6 true], 44⟩
/-- interleave/hb.Step -/
def s10 : SF := ⟨ .seq (.reg [oo 3 (.box 28 (tt 0)), oo 4 (.box 33 (tt 1)), oo 5 (.box 41 (tt 2)), oo 6 (.alloc 33 [(.slice none 0 0), (.slice none 0 0), (.slice none 0 0), (.slice none 0 0), (.slice none 0 0), (.slice none 0 0), (.slice none 0 0), (.slice none 0 0), (.slice none 0 0)]), oo 7 (.alloc 31 [(.slice none 0 0)])] [(0, 1), (0, 2), (1, 2), (0, 3), (1, 3), (2, 3), (0, 4), (1, 4), (2, 4), (3, 4)]) (.seq (.defer 17 [(tt 6), (tt 7)] 11) (.seq (.reg [oo 12 (.load 9 true (tt 4)), ⟨(some 13), (.call 18 [(tt 12)]), none⟩, ⟨none, (.op (.store 9 (tt 6) (tt 13))), none⟩] []) (.seq (.reg [oo 14 (.mkf 19 [(tt 5), (tt 6), (tt 3)]), oo 8 (.mv (tt 14))] []) (.seq (.reg [oo 15 (.fad 0 (tt 6)), oo 16 (.load 1 false (tt 15)), oo 17 (.fad 0 (tt 5)), oo 18 (.load 1 false (tt 17)), oo 19 (.iad 1 (tt 16) (tt 18)), oo 20 (.load 1 false (tt 19)), ⟨none, (.op (.store 1 (tt 7) (tt 20))), none⟩] [(1, 3)]) (.seq (.seq (.reg [oo 21 (.mv (tt 8)), ⟨(some 22), (.callv (tt 21) []), none⟩, oo 23 (.len (tt 22)), oo 24 (.mv (kk 0))] []) (.block 0 (.loop (.seq (.reg [oo 25 (.bin .lss (tt 24) (tt 23))] []) (.seq (.cond 25 (.skip) (.exit 0)) (.seq (.block 1 (.seq (.reg [oo 26 (.iad 1 (tt 22) (tt 24)), oo 27 (.load 1 false (tt 26)), oo 10 (.mv (tt 27))] []) (.reg [oo 28 (.load 1 false (tt 7)), oo 29 (.mv (tt 10)), ⟨(some 30), (.call 21 [(tt 28), (tt 29)]), none⟩, ⟨none, (.op (.store 1 (tt 7) (tt 30))), none⟩] []))) (.reg [oo 31 (.bin .add (tt 24) (kk 1)), oo 24 (.mv (tt 31))] []))))))) (.seq (.reg [oo 32 (.load 1 false (tt 7)), oo 33 (.fad 0 (tt 5)), oo 34 (.load 1 false (tt 33)), ⟨(some 35), (.call 22 [(tt 32), (tt 34)]), none⟩, ⟨none, (.op (.store 1 (tt 7) (tt 35))), none⟩] [(0, 2)]) (.seq (.reg [oo 36 (.load 6 true (tt 3)), oo 37 (.load 7 true (tt 5)), oo 38 (.load 1 false (tt 7)), ⟨(some 39), (.call 23 [(tt 36), (tt 6), (tt 37), (tt 38)]), none⟩] [(0, 1), (0, 2), (1, 2)]) (.seq (.reg [oo 40 (.load 9 true (tt 6)), oo 41 (.load 1 false (tt 7)), ⟨none, (.op (.store 9 (tt 6) (tt 40))), none⟩, ⟨none, (.op (.store 1 (tt 7) (tt 41))), none⟩] [(0, 1), (1, 2)]) (.ret))))))))), [.cell 6 9 true, .cell 7 1 false], 42⟩
/-- interleave/hb.Races -/
def s15 : SF := ⟨ .seq (.reg [oo 1 (.box 53 (tt 0)), oo 2 (.mv (.const (.slice none 0 0))), oo 3 (.mv (kk 0))] []) (.seq (.reg [oo 11 (.load 7 true (tt 1)), ⟨(some 12), (.call 31 [(tt 11)]), none⟩, oo 10 (.mv (tt 12)), oo 13 (.ext (tt 10) 0), oo 14 (.ext (tt 10) 1), oo 4 (.mv (tt 13)), oo 5 (.mv (tt 14))] []) (.seq (.seq (.reg [oo 15 (.mv (tt 5)), oo 16 (.bin .neq (tt 15) (kk 0))] []) (.cond 16 (.seq (.reg [oo 17 (.mv (tt 5)), oo 2 (.mv (.const (.slice none 0 0))), oo 3 (.mv (tt 17))] []) (.ret)) (.skip))) (.seq (.reg [oo 18 (.fad 6 (tt 1)), oo 19 (.load 1 false (tt 18)), ⟨(some 20), (.call 32 [(tt 19)]), none⟩, oo 6 (.mv (tt 20))] []) (.seq (.reg [oo 7 (.mv (.const (.slice none 0 0)))] []) (.seq (.seq (.reg [oo 21 (.fad 6 (tt 1)), oo 22 (.load 1 false (tt 21)), oo 23 (.len (tt 22)), oo 24 (.mv (kk 0))] []) (.block 0 (.loop (.seq (.reg [oo 25 (.bin .lss (tt 24) (tt 23))] []) (.seq (.cond 25 (.skip) (.exit 0)) (.seq (.block 1 (.seq (.reg [oo 26 (.mv (tt 24)), oo 8 (.mv (tt 26))] []) (.seq (.reg [oo 27 (.mv (tt 8)), oo 28 (.mv (kk 0))] []) (.block 2 (.loop (.seq (.reg [oo 29 (.bin .lss (tt 28) (tt 27))] []) (.seq (.cond 29 (.skip) (.exit 2)) (.seq (.block 3 (.seq (.reg [oo 30 (.mv (tt 28)), oo 9 (.mv (tt 30))] []) (.seq (.reg [oo 31 (.load 7 true (tt 1)), oo 32 (.mv (tt 9)), oo 33 (.mv (tt 8)), ⟨(some 34), (.call 33 [(tt 31), (tt 32), (tt 33)]), none⟩, oo 35 (.mv (tt 34)), og 36 (.mv (tt 4)) 35 true, og 37 (.mv (tt 8)) 35 true, og 38 (.iad 1 (tt 36) (tt 37)) 35 true, og 39 (.load 1 false (tt 38)) 35 true, og 40 (.mv (tt 6)) 35 true, og 41 (.mv (tt 9)) 35 true, og 42 (.iad 2 (tt 40) (tt 41)) 35 true, og 43 (.load 2 true (tt 42)) 35 true, ⟨(some 44), (.call 34 [(tt 39), (tt 43)]), (some (35, true))⟩, og 45 (.not (tt 44)) 35 true, oo 46 (.pick (tt 35) (tt 45) (.const (.bool false)))] [(8, 12)]) (.cond 46 (.reg [oo 47 (.mv (tt 7)), oo 48 (.mv (tt 9)), oo 49 (.mv (tt 8)), oo 50 (.build [(.int .i64 0), (.int .i64 0)] [(0, 1, (tt 48)), (1, 1, (tt 49))]), oo 51 (.bsl 56 2 1 [(.int .i64 0), (.int .i64 0)] [(0, 2, (tt 50))]), oo 52 (.app 56 2 16 (tt 47) (tt 51)), oo 7 (.mv (tt 52))] []) (.skip))))) (.reg [oo 53 (.bin .add (tt 28) (kk 1)), oo 28 (.mv (tt 53))] []))))))))) (.reg [oo 54 (.bin .add (tt 24) (kk 1)), oo 24 (.mv (tt 54))] []))))))) (.seq (.reg [oo 55 (.mv (tt 7)), oo 2 (.mv (tt 55)), oo 3 (.mv (kk 0))] []) (.ret))))))), [.tmp 2, .tmp 3], 56⟩
/-- interleave/interleavelaw23.two -/
def s16 : SF := ⟨ .seq (.reg [oo 2 (.alloc 53 [(.slice none 0 0), (.slice none 0 0), (.slice none 0 0), (.slice none 0 0), (.slice none 0 0), (.slice none 0 0), (.slice none 0 0)])] []) (.seq (.reg [⟨(some 5), (.call 9 []), none⟩, oo 6 (.build [(.slice none 0 0), (.slice none 0 0), (.slice none 0 0), (.slice none 0 0), (.slice none 0 0), (.slice none 0 0), (.slice none 0 0)] [(0, 6, (tt 5))]), oo 3 (.alloc 53 [(.slice none 0 0), (.slice none 0 0), (.slice none 0 0), (.slice none 0 0), (.slice none 0 0), (.slice none 0 0), (.slice none 0 0)]), ⟨none, (.op (.store 7 (tt 3) (tt 6))), none⟩] [(0, 2)]) (.seq (.reg [oo 7 (.build [(.int .i64 0), (.int .i64 0), (.int .i64 0), (.int .i64 0), (.int .i64 0), (.slice none 0 0), (.slice none 0 0)] [(1, 1, (kk 1)), (2, 1, (kk (-1))), (4, 1, (kk (-1)))]), oo 8 (.build [(.int .i64 0), (.int .i64 0), (.int .i64 0), (.int .i64 0), (.int .i64 0), (.slice none 0 0), (.slice none 0 0)] [(1, 1, (kk 20)), (2, 1, (kk 1))]), oo 9 (.build [(.int .i64 0), (.int .i64 0), (.int .i64 0), (.int .i64 0), (.int .i64 0), (.slice none 0 0), (.slice none 0 0)] [(0, 1, (kk 1)), (1, 1, (kk 1)), (2, 1, (kk (-1))), (4, 1, (kk (-1)))]), oo 10 (.build [(.int .i64 0), (.int .i64 0), (.int .i64 0), (.int .i64 0), (.int .i64 0), (.slice none 0 0), (.slice none 0 0)] [(1, 1, (kk 6))]), oo 11 (.build [(.int .i64 0), (.int .i64 0), (.int .i64 0), (.int .i64 0), (.int .i64 0), (.slice none 0 0), (.slice none 0 0)] [(1, 1, (kk 4)), (3, 1, (kk 1))]), oo 12 (.build [(.int .i64 0), (.int .i64 0), (.int .i64 0), (.int .i64 0), (.int .i64 0), (.slice none 0 0), (.slice none 0 0)] [(1, 1, (kk 7))]), oo 13 (.build [(.int .i64 0), (.int .i64 0), (.int .i64 0), (.int .i64 0), (.int .i64 0), (.slice none 0 0), (.slice none 0 0)] [(0, 1, (kk 1)), (1, 1, (kk 6)), (4, 1, (kk 6))]), oo 14 (.build [(.int .i64 0), (.int .i64 0), (.int .i64 0), (.int .i64 0), (.int .i64 0), (.slice none 0 0), (.slice none 0 0)] [(0, 1, (kk 1)), (1, 1, (kk 4)), (3, 1, (kk 2)), (4, 1, (kk 6))]), oo 15 (.bsl 41 7 8 [(.int .i64 0), (.int .i64 0), (.int .i64 0), (.int .i64 0), (.int .i64 0), (.slice none 0 0), (.slice none 0 0)] [(0, 7, (tt 7)), (7, 7, (tt 8)), (14, 7, (tt 9)), (21, 7, (tt 10)), (28, 7, (tt 11)), (35, 7, (tt 12)), (42, 7, (tt 13)), (49, 7, (tt 14))]), oo 16 (.fad 6 (tt 3)), ⟨none, (.op (.store 1 (tt 16) (tt 15))), none⟩] []) (.seq (.seq (.reg [oo 17 (.mv (tt 0))] []) (.cond 17 (.seq (.reg [oo 18 (.fad 6 (tt 3)), oo 19 (.load 1 false (tt 18)), oo 4 (.mv (tt 19))] []) (.reg [oo 20 (.mv (tt 4)), oo 21 (.iad 7 (tt 20) (kk 0)), oo 22 (.load 7 true (tt 21)), oo 23 (.mv (tt 4)), oo 24 (.iad 7 (tt 23) (kk 1)), oo 25 (.load 7 true (tt 24)), oo 26 (.mv (tt 4)), oo 27 (.iad 7 (tt 26) (kk 2)), oo 28 (.load 7 true (tt 27)), oo 29 (.mv (tt 4)), oo 30 (.iad 7 (tt 29) (kk 6)), oo 31 (.load 7 true (tt 30)), oo 32 (.mv (tt 4)), oo 33 (.iad 7 (tt 32) (kk 4)), oo 34 (.load 7 true (tt 33)), oo 35 (.mv (tt 4)), oo 36 (.iad 7 (tt 35) (kk 7)), oo 37 (.load 7 true (tt 36)), oo 38 (.bsl 41 7 6 [(.int .i64 0), (.int .i64 0), (.int .i64 0), (.int .i64 0), (.int .i64 0), (.slice none 0 0), (.slice none 0 0)] [(0, 7, (tt 22)), (7, 7, (tt 25)), (14, 7, (tt 28)), (21, 7, (tt 31)), (28, 7, (tt 34)), (35, 7, (tt 37))]), oo 39 (.fad 6 (tt 3)), ⟨none, (.op (.store 1 (tt 39) (tt 38))), none⟩] [(2, 5), (2, 8), (5, 8), (2, 11), (5, 11), (8, 11), (2, 14), (5, 14), (8, 14), (11, 14), (2, 17), (5, 17), (8, 17), (11, 17), (14, 17)])) (.skip))) (.seq (.reg [oo 40 (.load 7 true (tt 3)), ⟨none, (.op (.store 7 (tt 2) (tt 40))), none⟩] []) (.ret))))), [.cell 2 7 true], 41⟩
/-- interleave/hb.copied -/
def s18 : SF := ⟨ .seq (.reg [oo 1 (.box 33 (tt 0)), oo 2 (.alloc 33 [(.slice none 0 0), (.slice none 0 0), (.slice none 0 0), (.slice none 0 0), (.slice none 0 0), (.slice none 0 0), (.slice none 0 0), (.slice none 0 0), (.slice none 0 0)])] [(0, 1)]) (.seq (.reg [oo 3 (.fad 0 (tt 1)), oo 4 (.load 1 false (tt 3)), ⟨(some 5), (.call 35 [(tt 4)]), none⟩, oo 6 (.fad 1 (tt 1)), oo 7 (.load 1 false (tt 6)), ⟨(some 8), (.call 35 [(tt 7)]), none⟩, oo 9 (.fad 2 (tt 1)), oo 10 (.load 1 false (tt 9)), ⟨(some 11), (.call 35 [(tt 10)]), none⟩, oo 12 (.fad 3 (tt 1)), oo 13 (.load 1 false (tt 12)), ⟨(some 14), (.call 35 [(tt 13)]), none⟩, oo 15 (.fad 4 (tt 1)), oo 16 (.load 1 false (tt 15)), ⟨(some 17), (.call 35 [(tt 16)]), none⟩, oo 18 (.fad 5 (tt 1)), oo 19 (.load 1 false (tt 18)), ⟨(some 20), (.call 35 [(tt 19)]), none⟩, oo 21 (.fad 6 (tt 1)), oo 22 (.load 1 false (tt 21)), ⟨(some 23), (.call 36 [(tt 22)]), none⟩, oo 24 (.fad 7 (tt 1)), oo 25 (.load 1 false (tt 24)), ⟨(some 26), (.call 35 [(tt 25)]), none⟩, oo 27 (.fad 8 (tt 1)), oo 28 (.load 1 false (tt 27)), ⟨(some 29), (.call 36 [(tt 28)]), none⟩, oo 30 (.build [(.slice none 0 0), (.slice none 0 0), (.slice none 0 0), (.slice none 0 0), (.slice none 0 0), (.slice none 0 0), (.slice none 0 0), (.slice none 0 0), (.slice none 0 0)] [(0, 1, (tt 5)), (1, 1, (tt 8)), (2, 1, (tt 11)), (3, 1, (tt 14)), (4, 1, (tt 17)), (5, 1, (tt 20)), (6, 1, (tt 23)), (7, 1, (tt 26)), (8, 1, (tt 29))]), ⟨none, (.op (.store 9 (tt 2) (tt 30))), none⟩] [(1, 4), (2, 4), (1, 7), (2, 7), (4, 7), (5, 7), (1, 10), (2, 10), (4, 10), (5, 10), (7, 10), (8, 10), (1, 13), (2, 13), (4, 13), (5, 13), (7, 13), (8, 13), (10, 13), (11, 13), (1, 16), (2, 16), (4, 16), (5, 16), (7, 16), (8, 16), (10, 16), (11, 16), (13, 16), (14, 16), (1, 19), (2, 19), (4, 19), (5, 19), (7, 19), (8, 19), (10, 19), (11, 19), (13, 19), (14, 19), (16, 19), (17, 19), (1, 22), (2, 22), (4, 22), (5, 22), (7, 22), (8, 22), (10, 22), (11, 22), (13, 22), (14, 22), (16, 22), (17, 22), (19, 22), (20, 22), (1, 25), (2, 25), (4, 25), (5, 25), (7, 25), (8, 25), (10, 25), (11, 25), (13, 25), (14, 25), (16, 25), (17, 25), (19, 25), (20, 25), (22, 25), (23, 25)]) (.ret)), [.cell 2 9 true], 31⟩
/-- interleave/hb.Step$2 -/
def s19 : SF := ⟨ .seq (.reg [oo 3 (.mv (.const (.slice none 0 0)))] []) (.seq (.seq (.reg [oo 5 (.fad 1 (tt 0)), oo 6 (.load 1 false (tt 5))] []) (.block 0 (.seq (.reg [oo 8 (.bin .eql (tt 6) (kk 1)), oo 7 (.mv (tt 8))] []) (.cond 7 (.seq (.reg [oo 9 (.fad 1 (tt 1)), oo 10 (.load 1 false (tt 9)), oo 11 (.fad 0 (tt 0)), oo 12 (.load 1 false (tt 11)), oo 13 (.iad 1 (tt 10) (tt 12)), oo 14 (.load 1 false (tt 13)), oo 15 (.bsl 31 1 1 [(.slice none 0 0)] [(0, 1, (tt 14))]), oo 3 (.mv (tt 15))] [(1, 3)]) (.ret)) (.seq (.reg [oo 17 (.bin .eql (tt 6) (kk 21)), oo 16 (.mv (tt 17))] []) (.cond 16 (.seq (.reg [oo 18 (.fad 0 (tt 1)), oo 19 (.load 1 false (tt 18)), oo 20 (.fad 2 (tt 0)), oo 21 (.load 1 false (tt 20)), oo 22 (.iad 1 (tt 19) (tt 21)), oo 23 (.load 1 false (tt 22)), oo 24 (.bsl 31 1 1 [(.slice none 0 0)] [(0, 1, (tt 23))]), oo 3 (.mv (tt 24))] [(1, 3)]) (.ret)) (.seq (.seq (.reg [oo 26 (.bin .eql (tt 6) (kk 6)), oo 25 (.mv (tt 26))] []) (.cond 25 (.skip) (.reg [oo 27 (.bin .eql (tt 6) (kk 10)), oo 25 (.mv (tt 27))] []))) (.cond 25 (.seq (.reg [oo 28 (.fad 2 (tt 1)), oo 29 (.load 1 false (tt 28)), oo 30 (.fad 2 (tt 0)), oo 31 (.load 1 false (tt 30)), oo 32 (.iad 1 (tt 29) (tt 31)), oo 33 (.load 1 false (tt 32)), oo 34 (.fad 3 (tt 1)), oo 35 (.load 1 false (tt 34)), oo 36 (.fad 2 (tt 0)), oo 37 (.load 1 false (tt 36)), oo 38 (.iad 1 (tt 35) (tt 37)), oo 39 (.load 1 false (tt 38)), oo 40 (.bsl 31 1 2 [(.slice none 0 0)] [(0, 1, (tt 33)), (1, 1, (tt 39))]), oo 3 (.mv (tt 40))] [(1, 3), (1, 7), (3, 7), (5, 7), (1, 9), (3, 9), (5, 9), (7, 9), (1, 11), (3, 11), (5, 11)]) (.ret)) (.seq (.reg [oo 42 (.bin .eql (tt 6) (kk 8)), oo 41 (.mv (tt 42))] []) (.cond 41 (.seq (.reg [oo 43 (.fad 2 (tt 1)), oo 44 (.load 1 false (tt 43)), oo 45 (.fad 2 (tt 0)), oo 46 (.load 1 false (tt 45)), oo 47 (.iad 1 (tt 44) (tt 46)), oo 48 (.load 1 false (tt 47)), oo 49 (.bsl 31 1 1 [(.slice none 0 0)] [(0, 1, (tt 48))]), oo 3 (.mv (tt 49))] [(1, 3)]) (.ret)) (.seq (.reg [oo 51 (.bin .eql (tt 6) (kk 17)), oo 50 (.mv (tt 51))] []) (.cond 50 (.seq (.reg [oo 52 (.fad 2 (tt 2)), oo 53 (.load 1 false (tt 52)), oo 54 (.fad 2 (tt 0)), oo 55 (.load 1 false (tt 54)), oo 56 (.iad 2 (tt 53) (tt 55)), oo 57 (.fad 1 (tt 56)), oo 58 (.load 1 false (tt 57)), oo 4 (.mv (tt 58))] [(1, 3)]) (.seq (.reg [oo 59 (.fad 2 (tt 1)), oo 60 (.load 1 false (tt 59)), oo 61 (.mv (tt 4)), ⟨(some 62), (.call 20 [(tt 60), (tt 61)]), none⟩, oo 63 (.fad 3 (tt 1)), oo 64 (.load 1 false (tt 63)), oo 65 (.mv (tt 4)), ⟨(some 66), (.call 20 [(tt 64), (tt 65)]), none⟩, oo 67 (.fad 7 (tt 1)), oo 68 (.load 1 false (tt 67)), oo 69 (.fad 0 (tt 0)), oo 70 (.load 1 false (tt 69)), oo 71 (.iad 1 (tt 68) (tt 70)), oo 72 (.load 1 false (tt 71)), oo 73 (.bsl 31 1 3 [(.slice none 0 0)] [(0, 1, (tt 62)), (1, 1, (tt 66)), (2, 1, (tt 72))]), oo 3 (.mv (tt 73))] [(1, 5), (3, 5), (1, 9), (3, 9), (5, 9), (7, 9), (1, 11), (3, 11), (5, 11), (7, 11), (9, 11), (1, 13), (3, 13), (5, 13), (7, 13)]) (.ret))) (.seq (.reg [oo 75 (.bin .eql (tt 6) (kk 3)), oo 74 (.mv (tt 75))] []) (.cond 74 (.seq (.reg [oo 76 (.fad 4 (tt 1)), oo 77 (.load 1 false (tt 76)), oo 78 (.fad 2 (tt 0)), oo 79 (.load 1 false (tt 78)), oo 80 (.iad 1 (tt 77) (tt 79)), oo 81 (.load 1 false (tt 80)), oo 82 (.bsl 31 1 1 [(.slice none 0 0)] [(0, 1, (tt 81))]), oo 3 (.mv (tt 82))] [(1, 3)]) (.ret)) (.seq (.reg [oo 84 (.bin .eql (tt 6) (kk 23)), oo 83 (.mv (tt 84))] []) (.cond 83 (.seq (.reg [oo 85 (.fad 5 (tt 1)), oo 86 (.load 1 false (tt 85)), oo 87 (.fad 2 (tt 0)), oo 88 (.load 1 false (tt 87)), oo 89 (.iad 1 (tt 86) (tt 88)), oo 90 (.load 1 false (tt 89)), oo 91 (.bsl 31 1 1 [(.slice none 0 0)] [(0, 1, (tt 90))]), oo 3 (.mv (tt 91))] [(1, 3)]) (.ret)) (.seq (.reg [oo 93 (.bin .eql (tt 6) (kk 12)), oo 92 (.mv (tt 93))] []) (.cond 92 (.seq (.reg [oo 94 (.fad 6 (tt 1)), oo 95 (.load 1 false (tt 94)), oo 96 (.bsl 31 1 1 [(.slice none 0 0)] [(0, 1, (tt 95))]), oo 3 (.mv (tt 96))] []) (.ret)) (.skip))))))))))))))))))) (.seq (.reg [oo 3 (.mv (.const (.slice none 0 0)))] []) (.ret))), [.tmp 3], 97⟩
/-- interleave/hb.entry -/
def s20 : SF := ⟨ .seq (.reg [oo 4 (.mv (.const (.slice none 0 0)))] []) (.seq (.seq (.reg [oo 5 (.mv (tt 1)), oo 6 (.bin .lss (tt 5) (kk 0)), oo 7 (.mv (tt 6)), og 8 (.mv (tt 1)) 7 false, og 9 (.mv (tt 0)) 7 false, og 10 (.len (tt 9)) 7 false, og 11 (.bin .geq (tt 8) (tt 10)) 7 false, oo 12 (.pick (tt 7) (.const (.bool true)) (tt 11))] []) (.cond 12 (.seq (.reg [oo 4 (.mv (.const (.slice none 0 0)))] []) (.ret)) (.skip))) (.seq (.reg [oo 13 (.mv (tt 0)), oo 14 (.mv (tt 1)), oo 15 (.iad 1 (tt 13) (tt 14)), oo 16 (.load 1 false (tt 15)), oo 4 (.mv (tt 16))] []) (.ret))), [.tmp 4], 17⟩
/-- interleave/clock.Join -/
def s21 : SF := ⟨ .seq (.reg [oo 4 (.mv (.const (.slice none 0 0)))] []) (.seq (.reg [oo 7 (.mv (tt 0)), oo 8 (.len (tt 7)), oo 9 (.mv (tt 1)), oo 10 (.len (tt 9)), oo 11 (.max (tt 8) (tt 10)), oo 12 (.mksl 3 1 8 [(.int .i64 0)] (tt 11) (tt 11)), oo 5 (.mv (tt 12))] [(1, 3)]) (.seq (.seq (.reg [oo 13 (.mv (tt 5)), oo 14 (.len (tt 13)), oo 15 (.mv (kk 0))] []) (.block 0 (.loop (.seq (.reg [oo 16 (.bin .lss (tt 15) (tt 14))] []) (.seq (.cond 16 (.skip) (.exit 0)) (.seq (.block 1 (.seq (.reg [oo 17 (.mv (tt 15)), oo 6 (.mv (tt 17))] []) (.reg [oo 18 (.mv (tt 5)), oo 19 (.mv (tt 6)), oo 20 (.mv (tt 0)), oo 21 (.mv (tt 6)), ⟨(some 22), (.call 37 [(tt 20), (tt 21)]), none⟩, oo 23 (.mv (tt 1)), oo 24 (.mv (tt 6)), ⟨(some 25), (.call 37 [(tt 23), (tt 24)]), none⟩, oo 26 (.max (tt 22) (tt 25)), oo 27 (.iad 1 (tt 18) (tt 19)), ⟨none, (.op (.store 1 (tt 27) (tt 26))), none⟩] []))) (.reg [oo 28 (.bin .add (tt 15) (kk 1)), oo 15 (.mv (tt 28))] []))))))) (.seq (.reg [oo 29 (.mv (tt 5)), oo 4 (.mv (tt 29))] []) (.ret)))), [.tmp 4], 30⟩
/-- interleave/clock.Tick -/
def s22 : SF := ⟨ .seq (.reg [oo 4 (.mv (.const (.slice none 0 0)))] []) (.seq (.reg [oo 8 (.mv (tt 0)), oo 9 (.len (tt 8)), oo 5 (.mv (tt 9))] []) (.seq (.reg [oo 10 (.mv (tt 1)), oo 11 (.bin .geq (tt 10) (kk 0)), oo 12 (.mv (tt 11)), og 13 (.mv (tt 1)) 12 true, og 14 (.bin .lss (tt 13) (kk 4)) 12 true, oo 15 (.pick (tt 12) (tt 14) (.const (.bool false))), oo 6 (.mv (tt 15))] []) (.seq (.seq (.reg [oo 16 (.mv (tt 6))] []) (.cond 16 (.reg [oo 17 (.mv (tt 5)), oo 18 (.mv (tt 1)), oo 19 (.bin .add (tt 18) (kk 1)), oo 20 (.max (tt 17) (tt 19)), oo 5 (.mv (tt 20))] []) (.skip))) (.seq (.reg [oo 21 (.mv (tt 5)), oo 22 (.mksl 3 1 8 [(.int .i64 0)] (tt 21) (tt 21)), oo 7 (.mv (tt 22))] []) (.seq (.reg [oo 23 (.mv (tt 7)), oo 24 (.mv (tt 0)), oo 25 (.copy 1 (tt 23) (tt 24))] []) (.seq (.seq (.reg [oo 26 (.mv (tt 6)), oo 27 (.mv (tt 26)), og 28 (.mv (tt 7)) 27 true, og 29 (.mv (tt 1)) 27 true, og 30 (.iad 1 (tt 28) (tt 29)) 27 true, og 31 (.load 1 false (tt 30)) 27 true, og 32 (.bin .lss (tt 31) (kk 9223372036854775807)) 27 true, oo 33 (.pick (tt 27) (tt 32) (.const (.bool false)))] []) (.cond 33 (.reg [oo 34 (.mv (tt 7)), oo 35 (.mv (tt 1)), oo 36 (.iad 1 (tt 34) (tt 35)), oo 37 (.load 1 false (tt 36)), oo 38 (.bin .add (tt 37) (kk 1)), oo 39 (.iad 1 (tt 34) (tt 35)), ⟨none, (.op (.store 1 (tt 39) (tt 38))), none⟩] []) (.skip))) (.seq (.reg [oo 40 (.mv (tt 7)), oo 4 (.mv (tt 40))] []) (.ret)))))))), [.tmp 4], 41⟩
/-- interleave/hb.enter -/
def s23 : SF := ⟨ .seq (.reg [oo 4 (.box 28 (tt 0)), oo 6 (.box 41 (tt 2))] [(0, 1)]) (.seq (.reg [oo 10 (.mv (tt 1)), oo 11 (.nilc (tt 10)), oo 12 (.fad 0 (tt 11)), oo 13 (.load 1 false (tt 12)), oo 14 (.fad 0 (tt 6)), oo 15 (.load 1 false (tt 14)), oo 16 (.mv (tt 3)), ⟨(some 17), (.call 36 [(tt 16)]), none⟩, oo 18 (.iad 1 (tt 13) (tt 15)), ⟨none, (.op (.store 1 (tt 18) (tt 17))), none⟩] [(3, 5), (3, 7), (5, 7)]) (.seq (.reg [oo 19 (.fad 1 (tt 6)), oo 20 (.load 1 false (tt 19))] []) (.block 0 (.seq (.reg [oo 22 (.bin .eql (tt 20) (kk 20)), oo 21 (.mv (tt 22))] []) (.cond 21 (.reg [oo 23 (.mv (tt 1)), oo 24 (.nilc (tt 23)), oo 25 (.fad 1 (tt 24)), oo 26 (.load 1 false (tt 25)), oo 27 (.fad 2 (tt 6)), oo 28 (.load 1 false (tt 27)), oo 29 (.mv (tt 3)), ⟨(some 30), (.call 36 [(tt 29)]), none⟩, oo 31 (.iad 1 (tt 26) (tt 28)), ⟨none, (.op (.store 1 (tt 31) (tt 30))), none⟩] [(3, 5), (3, 7), (5, 7)]) (.seq (.seq (.reg [oo 33 (.bin .eql (tt 20) (kk 7)), oo 32 (.mv (tt 33))] []) (.cond 32 (.skip) (.reg [oo 34 (.bin .eql (tt 20) (kk 11)), oo 32 (.mv (tt 34))] []))) (.cond 32 (.reg [oo 35 (.mv (tt 1)), oo 36 (.nilc (tt 35)), oo 37 (.fad 2 (tt 36)), oo 38 (.load 1 false (tt 37)), oo 39 (.fad 2 (tt 6)), oo 40 (.load 1 false (tt 39)), oo 41 (.mv (tt 3)), ⟨(some 42), (.call 38 [(tt 38), (tt 40), (tt 41)]), none⟩] [(3, 5)]) (.seq (.reg [oo 44 (.bin .eql (tt 20) (kk 9)), oo 43 (.mv (tt 44))] []) (.cond 43 (.reg [oo 45 (.mv (tt 1)), oo 46 (.nilc (tt 45)), oo 47 (.fad 3 (tt 46)), oo 48 (.load 1 false (tt 47)), oo 49 (.fad 2 (tt 6)), oo 50 (.load 1 false (tt 49)), oo 51 (.mv (tt 3)), ⟨(some 52), (.call 38 [(tt 48), (tt 50), (tt 51)]), none⟩] [(3, 5)]) (.seq (.reg [oo 54 (.bin .eql (tt 20) (kk 16)), oo 53 (.mv (tt 54))] []) (.cond 53 (.seq (.reg [oo 55 (.mv (tt 1)), oo 56 (.nilc (tt 55)), oo 57 (.fad 8 (tt 56)), oo 58 (.load 1 false (tt 57)), oo 59 (.fad 0 (tt 6)), oo 60 (.load 1 false (tt 59)), oo 61 (.fad 2 (tt 6)), oo 62 (.load 1 false (tt 61)), oo 63 (.iad 1 (tt 58) (tt 60)), ⟨none, (.op (.store 1 (tt 63) (tt 62))), none⟩] [(3, 5), (3, 7), (5, 7)]) (.reg [oo 64 (.mv (tt 1)), oo 65 (.nilc (tt 64)), oo 66 (.fad 2 (tt 65)), oo 67 (.load 1 false (tt 66)), oo 68 (.fad 2 (tt 4)), oo 69 (.load 1 false (tt 68)), oo 70 (.fad 2 (tt 6)), oo 71 (.load 1 false (tt 70)), oo 72 (.iad 2 (tt 69) (tt 71)), oo 73 (.fad 1 (tt 72)), oo 74 (.load 1 false (tt 73)), oo 75 (.mv (tt 3)), ⟨(some 76), (.call 38 [(tt 67), (tt 74), (tt 75)]), none⟩] [(3, 5), (3, 7), (5, 7), (3, 10)])) (.seq (.reg [oo 78 (.bin .eql (tt 20) (kk 4)), oo 77 (.mv (tt 78))] []) (.cond 77 (.seq (.reg [oo 79 (.fad 0 (tt 4)), oo 80 (.load 1 false (tt 79)), oo 81 (.fad 2 (tt 6)), oo 82 (.load 1 false (tt 81)), oo 83 (.iad 5 (tt 80) (tt 82)), oo 84 (.fad 3 (tt 83)), oo 85 (.load 1 false (tt 84))] [(1, 3)]) (.cond 85 (.reg [oo 86 (.mv (tt 1)), oo 87 (.nilc (tt 86)), oo 88 (.fad 4 (tt 87)), oo 89 (.load 1 false (tt 88)), oo 90 (.fad 2 (tt 6)), oo 91 (.load 1 false (tt 90)), oo 92 (.mv (tt 3)), ⟨(some 93), (.call 38 [(tt 89), (tt 91), (tt 92)]), none⟩] [(3, 5)]) (.skip))) (.seq (.reg [oo 95 (.bin .eql (tt 20) (kk 22)), oo 94 (.mv (tt 95))] []) (.cond 94 (.reg [oo 96 (.mv (tt 1)), oo 97 (.nilc (tt 96)), oo 98 (.fad 5 (tt 97)), oo 99 (.load 1 false (tt 98)), oo 100 (.fad 2 (tt 6)), oo 101 (.load 1 false (tt 100)), oo 102 (.mv (tt 3)), ⟨(some 103), (.call 38 [(tt 99), (tt 101), (tt 102)]), none⟩] [(3, 5)]) (.seq (.reg [oo 105 (.bin .eql (tt 20) (kk 13)), oo 104 (.mv (tt 105))] []) (.cond 104 (.reg [oo 106 (.mv (tt 1)), oo 107 (.mv (tt 1)), oo 108 (.nilc (tt 107)), oo 109 (.fad 6 (tt 108)), oo 110 (.load 1 false (tt 109)), oo 111 (.mv (tt 3)), ⟨(some 112), (.call 21 [(tt 110), (tt 111)]), none⟩, oo 113 (.nilc (tt 106)), oo 114 (.fad 6 (tt 113)), ⟨none, (.op (.store 1 (tt 114) (tt 112))), none⟩] []) (.seq (.reg [oo 116 (.bin .eql (tt 20) (kk 18)), oo 115 (.mv (tt 116))] []) (.cond 115 (.seq (.reg [oo 117 (.fad 3 (tt 6)), oo 118 (.load 1 false (tt 117)), oo 119 (.bin .geq (tt 118) (kk 0)), oo 120 (.mv (tt 119)), og 121 (.fad 3 (tt 6)) 120 true, og 122 (.load 1 false (tt 121)) 120 true, og 123 (.mv (tt 1)) 120 true, og 124 (.nilc (tt 123)) 120 true, og 125 (.fad 7 (tt 124)) 120 true, og 126 (.load 1 false (tt 125)) 120 true, og 127 (.len (tt 126)) 120 true, og 128 (.bin .lss (tt 122) (tt 127)) 120 true, oo 129 (.pick (tt 120) (tt 128) (.const (.bool false)))] [(5, 9), (5, 10)]) (.cond 129 (.reg [oo 130 (.mv (tt 1)), oo 131 (.fad 3 (tt 6)), oo 132 (.load 1 false (tt 131)), oo 133 (.mv (tt 3)), ⟨(some 134), (.call 39 [(tt 130), (tt 132), (tt 133)]), none⟩] []) (.skip))) (.seq (.reg [oo 136 (.bin .eql (tt 20) (kk 19)), oo 135 (.mv (tt 136))] []) (.cond 135 (.seq (.reg [oo 137 (.mv (tt 1)), oo 138 (.nilc (tt 137)), oo 139 (.fad 8 (tt 138)), oo 140 (.load 1 false (tt 139)), oo 141 (.len (tt 140)), oo 142 (.mv (kk 0))] []) (.block 1 (.loop (.seq (.reg [oo 143 (.bin .lss (tt 142) (tt 141))] []) (.seq (.cond 143 (.skip) (.exit 1)) (.seq (.block 2 (.seq (.reg [oo 144 (.mv (tt 142)), oo 145 (.iad 1 (tt 140) (tt 142)), oo 146 (.load 1 false (tt 145)), oo 8 (.mv (tt 144)), oo 9 (.mv (tt 146))] []) (.seq (.reg [oo 147 (.mv (tt 9)), oo 148 (.fad 2 (tt 6)), oo 149 (.load 1 false (tt 148)), oo 150 (.bin .eql (tt 147) (tt 149))] []) (.cond 150 (.reg [oo 151 (.mv (tt 1)), oo 152 (.mv (tt 8)), oo 153 (.mv (tt 3)), ⟨(some 154), (.call 39 [(tt 151), (tt 152), (tt 153)]), none⟩] []) (.skip))))) (.reg [oo 155 (.bin .add (tt 142) (kk 1)), oo 142 (.mv (tt 155))] []))))))) (.skip)))))))))))))))))))))), [], 156⟩
/-- interleave/hb.Clocks -/
def s31 : SF := ⟨ .seq (.reg [oo 1 (.box 53 (tt 0)), oo 2 (.mv (.const (.slice none 0 0))), oo 3 (.mv (kk 0))] []) (.seq (.seq (.reg [oo 11 (.load 7 true (tt 1)), ⟨(some 12), (.call 44 [(tt 11)]), none⟩, oo 10 (.mv (tt 12)), oo 13 (.ext (tt 10) 0), oo 14 (.ext (tt 10) 1), oo 4 (.mv (tt 13)), oo 5 (.mv (tt 14))] []) (.seq (.reg [oo 15 (.mv (tt 5)), oo 16 (.bin .neq (tt 15) (kk 0))] []) (.cond 16 (.seq (.reg [oo 2 (.mv (.const (.slice none 0 0))), oo 3 (.mv (kk 12))] []) (.ret)) (.skip)))) (.seq (.reg [oo 17 (.fad 0 (tt 1)), oo 18 (.load 6 true (tt 17)), ⟨(some 19), (.call 6 [(tt 18)]), none⟩, oo 6 (.alloc 33 [(.slice none 0 0), (.slice none 0 0), (.slice none 0 0), (.slice none 0 0), (.slice none 0 0), (.slice none 0 0), (.slice none 0 0), (.slice none 0 0), (.slice none 0 0)]), ⟨none, (.op (.store 9 (tt 6) (tt 19))), none⟩] [(1, 3), (2, 3)]) (.seq (.reg [oo 20 (.fad 6 (tt 1)), oo 21 (.load 1 false (tt 20)), oo 22 (.len (tt 21)), oo 23 (.mksl 31 1 24 [(.slice none 0 0)] (tt 22) (tt 22)), oo 7 (.mv (tt 23))] []) (.seq (.seq (.reg [oo 24 (.fad 6 (tt 1)), oo 25 (.load 1 false (tt 24)), oo 26 (.len (tt 25)), oo 27 (.mv (kk 0))] []) (.block 0 (.loop (.seq (.reg [oo 28 (.bin .lss (tt 27) (tt 26))] []) (.seq (.cond 28 (.skip) (.exit 0)) (.seq (.block 1 (.seq (.reg [oo 29 (.mv (tt 27)), oo 30 (.iad 7 (tt 25) (tt 27)), oo 31 (.load 7 true (tt 30)), oo 9 (.alloc 41 [(.int .i64 0), (.int .i64 0), (.int .i64 0), (.int .i64 0), (.int .i64 0), (.slice none 0 0), (.slice none 0 0)]), oo 8 (.mv (tt 29)), ⟨none, (.op (.store 7 (tt 9) (tt 31))), none⟩] [(2, 3)]) (.reg [oo 33 (.mv (tt 7)), oo 34 (.mv (tt 8)), oo 35 (.fad 0 (tt 1)), oo 36 (.load 6 true (tt 35)), oo 37 (.load 9 true (tt 6)), oo 38 (.load 7 true (tt 9)), ⟨(some 39), (.call 10 [(tt 36), (tt 37), (tt 38)]), none⟩, oo 32 (.mv (tt 39)), oo 40 (.ext (tt 32) 0), oo 41 (.ext (tt 32) 1), ⟨none, (.op (.store 9 (tt 6) (tt 40))), none⟩, oo 42 (.iad 1 (tt 33) (tt 34)), ⟨none, (.op (.store 1 (tt 42) (tt 41))), none⟩] [(3, 4), (3, 5), (4, 5)]))) (.reg [oo 43 (.bin .add (tt 27) (kk 1)), oo 27 (.mv (tt 43))] []))))))) (.seq (.reg [oo 44 (.mv (tt 7)), oo 2 (.mv (tt 44)), oo 3 (.mv (kk 0))] []) (.ret)))))), [.tmp 2, .tmp 3], 45⟩
/-- interleave/hb.epochs -/
def s32 : SF := ⟨ .seq (.reg [oo 2 (.mv (.const (.slice none 0 0)))] []) (.seq (.reg [oo 7 (.mkm), oo 3 (.mv (tt 7))] []) (.seq (.reg [oo 8 (.mv (tt 0)), oo 9 (.len (tt 8)), oo 10 (.mksl 83 2 16 [(.int .i64 0), (.int .i64 0)] (tt 9) (tt 9)), oo 4 (.mv (tt 10))] []) (.seq (.seq (.reg [oo 11 (.mv (tt 0)), oo 12 (.len (tt 11)), oo 13 (.mv (kk 0))] []) (.block 0 (.loop (.seq (.reg [oo 14 (.bin .lss (tt 13) (tt 12))] []) (.seq (.cond 14 (.skip) (.exit 0)) (.seq (.block 1 (.seq (.reg [oo 15 (.mv (tt 13)), oo 16 (.iad 7 (tt 11) (tt 13)), oo 17 (.load 7 true (tt 16)), oo 6 (.alloc 41 [(.int .i64 0), (.int .i64 0), (.int .i64 0), (.int .i64 0), (.int .i64 0), (.slice none 0 0), (.slice none 0 0)]), oo 5 (.mv (tt 15)), ⟨none, (.op (.store 7 (tt 6) (tt 17))), none⟩] [(2, 3)]) (.seq (.reg [oo 18 (.mv (tt 3)), oo 19 (.fad 0 (tt 6)), oo 20 (.load 1 false (tt 19)), oo 21 (.lku false (.int .i64 0) (tt 18) (tt 20)), oo 22 (.bin .add (tt 21) (kk 1)), ⟨none, (.op (.mup false (tt 18) (tt 20) (tt 22))), none⟩] []) (.reg [oo 23 (.mv (tt 4)), oo 24 (.mv (tt 5)), oo 25 (.mv (tt 3)), oo 26 (.fad 0 (tt 6)), oo 27 (.load 1 false (tt 26)), oo 28 (.lku false (.int .i64 0) (tt 25) (tt 27)), oo 29 (.fad 0 (tt 6)), oo 30 (.load 1 false (tt 29)), oo 31 (.build [(.int .i64 0), (.int .i64 0)] [(0, 1, (tt 28)), (1, 1, (tt 30))]), oo 32 (.iad 2 (tt 23) (tt 24)), ⟨none, (.op (.store 2 (tt 32) (tt 31))), none⟩] [(4, 7), (5, 7)])))) (.reg [oo 33 (.bin .add (tt 13) (kk 1)), oo 13 (.mv (tt 33))] []))))))) (.seq (.reg [oo 34 (.mv (tt 4)), oo 2 (.mv (tt 34))] []) (.ret))))), [.tmp 2], 35⟩
/-- interleave/hb.conflict -/
def s33 : SF := ⟨ .seq (.reg [oo 3 (.box 53 (tt 0)), oo 6 (.mv (.const (.bool false)))] []) (.seq (.reg [oo 9 (.fad 6 (tt 3)), oo 10 (.load 1 false (tt 9)), oo 11 (.mv (tt 1)), oo 12 (.iad 7 (tt 10) (tt 11)), oo 13 (.load 7 true (tt 12)), oo 14 (.fad 6 (tt 3)), oo 15 (.load 1 false (tt 14)), oo 16 (.mv (tt 2)), oo 17 (.iad 7 (tt 15) (tt 16)), oo 18 (.load 7 true (tt 17)), oo 7 (.alloc 41 [(.int .i64 0), (.int .i64 0), (.int .i64 0), (.int .i64 0), (.int .i64 0), (.slice none 0 0), (.slice none 0 0)]), oo 8 (.alloc 41 [(.int .i64 0), (.int .i64 0), (.int .i64 0), (.int .i64 0), (.int .i64 0), (.slice none 0 0), (.slice none 0 0)]), ⟨none, (.op (.store 7 (tt 7) (tt 13))), none⟩, ⟨none, (.op (.store 7 (tt 8) (tt 18))), none⟩] [(1, 6), (4, 6), (1, 9), (4, 9), (1, 10), (4, 10), (6, 10), (9, 10), (1, 11), (4, 11), (6, 11), (9, 11), (10, 11), (6, 12), (9, 12)]) (.seq (.seq (.reg [oo 19 (.fad 0 (tt 7)), oo 20 (.load 1 false (tt 19)), oo 21 (.fad 0 (tt 8)), oo 22 (.load 1 false (tt 21)), oo 23 (.bin .eql (tt 20) (tt 22)), oo 24 (.mv (tt 23)), og 25 (.fad 2 (tt 7)) 24 false, og 26 (.load 1 false (tt 25)) 24 false, og 27 (.fad 2 (tt 8)) 24 false, og 28 (.load 1 false (tt 27)) 24 false, og 29 (.bin .neq (tt 26) (tt 28)) 24 false, oo 30 (.pick (tt 24) (.const (.bool true)) (tt 29))] [(1, 3), (7, 9)]) (.cond 30 (.seq (.reg [oo 6 (.mv (.const (.bool false)))] []) (.ret)) (.skip))) (.seq (.seq (.reg [oo 31 (.load 7 true (tt 7)), ⟨(some 32), (.call 45 [(tt 31)]), none⟩, oo 33 (.not (tt 32)), oo 34 (.mv (tt 33)), og 35 (.load 7 true (tt 8)) 34 false, ⟨(some 36), (.call 45 [(tt 35)]), (some (34, false))⟩, og 37 (.not (tt 36)) 34 false, oo 38 (.pick (tt 34) (.const (.bool true)) (tt 37)), oo 39 (.mv (tt 38)), og 40 (.fad 0 (tt 3)) 39 false, og 41 (.fad 0 (tt 40)) 39 false, og 42 (.load 1 false (tt 41)) 39 false, og 43 (.fad 2 (tt 7)) 39 false, og 44 (.load 1 false (tt 43)) 39 false, og 45 (.iad 5 (tt 42) (tt 44)) 39 false, og 46 (.fad 3 (tt 45)) 39 false, og 47 (.load 1 false (tt 46)) 39 false, oo 48 (.pick (tt 39) (.const (.bool true)) (tt 47))] [(11, 13)]) (.cond 48 (.seq (.reg [oo 6 (.mv (.const (.bool false)))] []) (.ret)) (.skip))) (.seq (.reg [oo 49 (.fad 1 (tt 7)), oo 50 (.load 1 false (tt 49)), oo 51 (.bin .eql (tt 50) (kk 4)), oo 52 (.mv (tt 51)), og 53 (.fad 1 (tt 8)) 52 false, og 54 (.load 1 false (tt 53)) 52 false, og 55 (.bin .eql (tt 54) (kk 4)) 52 false, oo 56 (.pick (tt 52) (.const (.bool true)) (tt 55)), oo 6 (.mv (tt 56))] []) (.ret))))), [.tmp 6], 57⟩
/-- interleave/clock.Covers -/
def s34 : SF := ⟨ .seq (.reg [oo 3 (.box 83 (tt 1)), oo 4 (.mv (.const (.bool false)))] []) (.seq (.reg [oo 5 (.fad 0 (tt 3)), oo 6 (.load 1 false (tt 5)), oo 7 (.mv (tt 0)), oo 8 (.fad 1 (tt 3)), oo 9 (.load 1 false (tt 8)), ⟨(some 10), (.call 37 [(tt 7), (tt 9)]), none⟩, oo 11 (.bin .leq (tt 6) (tt 10)), oo 4 (.mv (tt 11))] [(1, 4), (1, 5)]) (.ret)), [.tmp 4], 12⟩
/-- interleave/hb.copies -/
def s35 : SF := ⟨ .seq (.reg [oo 2 (.mv (.const (.slice none 0 0)))] []) (.seq (.reg [oo 6 (.mv (tt 0)), oo 7 (.len (tt 6)), oo 8 (.mksl 31 1 24 [(.slice none 0 0)] (tt 7) (tt 7)), oo 3 (.mv (tt 8))] []) (.seq (.seq (.reg [oo 9 (.mv (tt 0)), oo 10 (.len (tt 9)), oo 11 (.mv (kk 0))] []) (.block 0 (.loop (.seq (.reg [oo 12 (.bin .lss (tt 11) (tt 10))] []) (.seq (.cond 12 (.skip) (.exit 0)) (.seq (.block 1 (.seq (.reg [oo 13 (.mv (tt 11)), oo 14 (.iad 1 (tt 9) (tt 11)), oo 15 (.load 1 false (tt 14)), oo 4 (.mv (tt 13)), oo 5 (.mv (tt 15))] []) (.reg [oo 16 (.mv (tt 3)), oo 17 (.mv (tt 4)), oo 18 (.mv (tt 5)), ⟨(some 19), (.call 36 [(tt 18)]), none⟩, oo 20 (.iad 1 (tt 16) (tt 17)), ⟨none, (.op (.store 1 (tt 20) (tt 19))), none⟩] []))) (.reg [oo 21 (.bin .add (tt 11) (kk 1)), oo 11 (.mv (tt 21))] []))))))) (.seq (.reg [oo 22 (.mv (tt 3)), oo 2 (.mv (tt 22))] []) (.ret)))), [.tmp 2], 23⟩
/-- slices.Clone[[]int,int] -/
def s36 : SF := ⟨ .seq (.reg [oo 2 (.mv (.const (.slice none 0 0)))] []) (.seq (.seq (.reg [oo 3 (.mv (tt 0)), oo 4 (.isnil false (tt 3))] []) (.cond 4 (.seq (.reg [oo 2 (.mv (.const (.slice none 0 0)))] []) (.ret)) (.skip))) (.seq (.reg [oo 5 (.bsl 3 1 0 [(.int .i64 0)] []), oo 6 (.mv (tt 0)), oo 7 (.app 3 1 8 (tt 5) (tt 6)), oo 2 (.mv (tt 7))] []) (.ret))), [.tmp 2], 8⟩
/-- interleave/clock.At -/
def s37 : SF := ⟨ .seq (.reg [oo 4 (.mv (kk 0))] []) (.seq (.seq (.reg [oo 5 (.mv (tt 1)), oo 6 (.bin .lss (tt 5) (kk 0)), oo 7 (.mv (tt 6)), og 8 (.mv (tt 1)) 7 false, og 9 (.mv (tt 0)) 7 false, og 10 (.len (tt 9)) 7 false, og 11 (.bin .geq (tt 8) (tt 10)) 7 false, oo 12 (.pick (tt 7) (.const (.bool true)) (tt 11))] []) (.cond 12 (.seq (.reg [oo 4 (.mv (kk 0))] []) (.ret)) (.skip))) (.seq (.reg [oo 13 (.mv (tt 0)), oo 14 (.mv (tt 1)), oo 15 (.iad 1 (tt 13) (tt 14)), oo 16 (.load 1 false (tt 15)), oo 4 (.mv (tt 16))] []) (.ret))), [.tmp 4], 17⟩
/-- interleave/hb.joinAt -/
def s38 : SF := ⟨ .seq (.reg [oo 6 (.mv (tt 1)), oo 7 (.bin .geq (tt 6) (kk 0)), oo 8 (.mv (tt 7)), og 9 (.mv (tt 1)) 8 true, og 10 (.mv (tt 0)) 8 true, og 11 (.len (tt 10)) 8 true, og 12 (.bin .lss (tt 9) (tt 11)) 8 true, oo 13 (.pick (tt 8) (tt 12) (.const (.bool false)))] []) (.cond 13 (.reg [oo 14 (.mv (tt 0)), oo 15 (.mv (tt 1)), oo 16 (.mv (tt 0)), oo 17 (.mv (tt 1)), oo 18 (.iad 1 (tt 16) (tt 17)), oo 19 (.load 1 false (tt 18)), oo 20 (.mv (tt 2)), ⟨(some 21), (.call 21 [(tt 19), (tt 20)]), none⟩, oo 22 (.iad 1 (tt 14) (tt 15)), ⟨none, (.op (.store 1 (tt 22) (tt 21))), none⟩] []) (.skip)), [], 23⟩
/-- interleave/hb.wake -/
def s39 : SF := ⟨ .seq (.reg [oo 6 (.mv (tt 0)), oo 7 (.nilc (tt 6)), oo 8 (.fad 7 (tt 7)), oo 9 (.load 1 false (tt 8)), oo 10 (.mv (tt 1)), oo 11 (.mv (tt 2)), ⟨(some 12), (.call 36 [(tt 11)]), none⟩, oo 13 (.iad 1 (tt 9) (tt 10)), ⟨none, (.op (.store 1 (tt 13) (tt 12))), none⟩] [(3, 6)]) (.reg [oo 14 (.mv (tt 0)), oo 15 (.nilc (tt 14)), oo 16 (.fad 8 (tt 15)), oo 17 (.load 1 false (tt 16)), oo 18 (.mv (tt 1)), oo 19 (.iad 1 (tt 17) (tt 18)), ⟨none, (.op (.store 1 (tt 19) (kk (-1)))), none⟩] []), [], 20⟩
/-- interleave/wellformed.Check -/
def s44 : SF := ⟨ .seq (.reg [oo 1 (.box 53 (tt 0)), oo 2 (.mv (kk 0)), oo 3 (.mv (kk 0))] []) (.seq (.seq (.reg [oo 10 (.fad 6 (tt 1)), oo 11 (.load 1 false (tt 10)), oo 12 (.len (tt 11)), oo 13 (.bin .gtr (tt 12) (kk 400))] []) (.cond 13 (.seq (.reg [oo 2 (.mv (kk 0)), oo 3 (.mv (kk 2))] []) (.ret)) (.skip))) (.seq (.seq (.reg [oo 14 (.fad 0 (tt 1)), oo 15 (.load 6 true (tt 14)), ⟨(some 16), (.call 46 [(tt 15)]), none⟩, oo 17 (.not (tt 16))] []) (.cond 17 (.seq (.reg [oo 2 (.mv (kk 0)), oo 3 (.mv (kk 1))] []) (.ret)) (.skip))) (.seq (.reg [oo 18 (.fad 0 (tt 1)), oo 19 (.load 6 true (tt 18)), ⟨(some 20), (.call 47 [(tt 19)]), none⟩, oo 4 (.alloc 101 [(.slice none 0 0), (.int .i64 0), (.slice none 0 0), (.slice none 0 0), (.slice none 0 0), (.slice none 0 0), (.slice none 0 0)]), ⟨none, (.op (.store 7 (tt 4) (tt 20))), none⟩] [(1, 3), (2, 3)]) (.seq (.reg [oo 21 (.fad 0 (tt 1)), oo 22 (.fad 4 (tt 21)), oo 23 (.load 1 false (tt 22)), oo 24 (.len (tt 23)), oo 25 (.mksl 95 1 24 [(.slice none 0 0)] (tt 24) (tt 24)), oo 5 (.mv (tt 25))] []) (.seq (.seq (.reg [oo 26 (.fad 6 (tt 1)), oo 27 (.load 1 false (tt 26)), oo 28 (.len (tt 27)), oo 29 (.mv (kk 0))] []) (.block 0 (.loop (.seq (.reg [oo 30 (.bin .lss (tt 29) (tt 28))] []) (.seq (.cond 30 (.skip) (.exit 0)) (.seq (.block 1 (.seq (.reg [oo 31 (.mv (tt 29)), oo 32 (.iad 7 (tt 27) (tt 29)), oo 33 (.load 7 true (tt 32)), oo 7 (.alloc 41 [(.int .i64 0), (.int .i64 0), (.int .i64 0), (.int .i64 0), (.int .i64 0), (.slice none 0 0), (.slice none 0 0)]), oo 6 (.mv (tt 31)), ⟨none, (.op (.store 7 (tt 7) (tt 33))), none⟩] [(2, 3)]) (.seq (.reg [oo 35 (.fad 0 (tt 1)), oo 36 (.load 6 true (tt 35)), oo 37 (.load 7 true (tt 4)), oo 38 (.load 7 true (tt 7)), ⟨(some 39), (.call 48 [(tt 36), (tt 37), (tt 38)]), none⟩, oo 34 (.mv (tt 39)), oo 40 (.ext (tt 34) 0), oo 41 (.ext (tt 34) 1), oo 8 (.alloc 101 [(.slice none 0 0), (.int .i64 0), (.slice none 0 0), (.slice none 0 0), (.slice none 0 0), (.slice none 0 0), (.slice none 0 0)]), ⟨none, (.op (.store 7 (tt 8) (tt 40))), none⟩, oo 9 (.mv (tt 41))] [(1, 2), (1, 3), (2, 3), (1, 8), (2, 8), (3, 8), (4, 8)]) (.seq (.seq (.reg [oo 42 (.mv (tt 9)), oo 43 (.not (tt 42)), oo 44 (.mv (tt 43)), og 45 (.mv (tt 5)) 44 false, og 46 (.fad 0 (tt 7)) 44 false, og 47 (.load 1 false (tt 46)) 44 false, og 48 (.iad 1 (tt 45) (tt 47)) 44 false, og 49 (.load 1 false (tt 48)) 44 false, og 50 (.load 7 true (tt 7)) 44 false, ⟨(some 51), (.call 49 [(tt 49), (tt 50)]), (some (44, false))⟩, og 52 (.not (tt 51)) 44 false, oo 53 (.pick (tt 44) (.const (.bool true)) (tt 52))] [(5, 8), (7, 8)]) (.cond 53 (.seq (.reg [oo 54 (.mv (tt 6)), oo 2 (.mv (tt 54)), oo 3 (.mv (kk 12))] []) (.ret)) (.skip))) (.seq (.reg [oo 55 (.mv (tt 5)), oo 56 (.fad 0 (tt 7)), oo 57 (.load 1 false (tt 56)), oo 58 (.mv (tt 5)), oo 59 (.fad 0 (tt 7)), oo 60 (.load 1 false (tt 59)), oo 61 (.iad 1 (tt 58) (tt 60)), oo 62 (.load 1 false (tt 61)), oo 63 (.fad 1 (tt 7)), oo 64 (.load 1 false (tt 63)), oo 65 (.bin .eql (tt 64) (kk 3)), oo 66 (.mv (tt 65)), og 67 (.fad 1 (tt 7)) 66 false, og 68 (.load 1 false (tt 67)) 66 false, og 69 (.bin .eql (tt 68) (kk 23)) 66 false, oo 70 (.pick (tt 66) (.const (.bool true)) (tt 69)), oo 71 (.bsl 4 1 1 [(.bool false)] [(0, 1, (tt 70))]), oo 72 (.app 4 1 1 (tt 62) (tt 71)), oo 73 (.iad 1 (tt 55) (tt 57)), ⟨none, (.op (.store 1 (tt 73) (tt 72))), none⟩] [(2, 5), (2, 7), (2, 9), (5, 9), (7, 9), (2, 13), (5, 13), (7, 13), (2, 16), (5, 16), (7, 16), (2, 17)]) (.reg [oo 74 (.load 7 true (tt 8)), ⟨none, (.op (.store 7 (tt 4) (tt 74))), none⟩] [])))))) (.reg [oo 75 (.bin .add (tt 29) (kk 1)), oo 29 (.mv (tt 75))] []))))))) (.seq (.reg [oo 2 (.mv (kk 0)), oo 3 (.mv (kk 0))] []) (.ret))))))), [.tmp 2, .tmp 3], 76⟩
/-- interleave/hb.access -/
def s45 : SF := ⟨ .seq (.reg [oo 1 (.box 41 (tt 0)), oo 2 (.mv (.const (.bool false)))] []) (.seq (.reg [oo 3 (.fad 1 (tt 1)), oo 4 (.load 1 false (tt 3)), oo 5 (.bin .eql (tt 4) (kk 3)), oo 6 (.mv (tt 5)), og 7 (.fad 1 (tt 1)) 6 false, og 8 (.load 1 false (tt 7)) 6 false, og 9 (.bin .eql (tt 8) (kk 4)) 6 false, oo 10 (.pick (tt 6) (.const (.bool true)) (tt 9)), oo 2 (.mv (tt 10))] []) (.ret)), [.tmp 2], 11⟩
/-- interleave/compile.ValidWorld -/
def s46 : SF := ⟨ .seq (.reg [oo 1 (.box 28 (tt 0)), oo 2 (.mv (.const (.bool false)))] []) (.seq (.seq (.reg [oo 7 (.fad 0 (tt 1)), oo 8 (.load 1 false (tt 7)), oo 9 (.len (tt 8)), oo 10 (.bin .gtr (tt 9) (kk 12)), oo 11 (.mv (tt 10)), og 12 (.fad 1 (tt 1)) 11 false, og 13 (.load 1 false (tt 12)) 11 false, og 14 (.len (tt 13)) 11 false, og 15 (.bin .gtr (tt 14) (kk 4)) 11 false, oo 16 (.pick (tt 11) (.const (.bool true)) (tt 15)), oo 17 (.mv (tt 16)), og 18 (.fad 2 (tt 1)) 17 false, og 19 (.load 1 false (tt 18)) 17 false, og 20 (.len (tt 19)) 17 false, og 21 (.bin .gtr (tt 20) (kk 2)) 17 false, oo 22 (.pick (tt 17) (.const (.bool true)) (tt 21)), oo 23 (.mv (tt 22)), og 24 (.fad 3 (tt 1)) 23 false, og 25 (.load 1 false (tt 24)) 23 false, og 26 (.len (tt 25)) 23 false, og 27 (.bin .gtr (tt 26) (kk 2)) 23 false, oo 28 (.pick (tt 23) (.const (.bool true)) (tt 27)), oo 29 (.mv (tt 28)), og 30 (.fad 5 (tt 1)) 29 false, og 31 (.load 1 false (tt 30)) 29 false, og 32 (.len (tt 31)) 29 false, og 33 (.bin .gtr (tt 32) (kk 60)) 29 false, oo 34 (.pick (tt 29) (.const (.bool true)) (tt 33))] []) (.cond 34 (.seq (.reg [oo 2 (.mv (.const (.bool false)))] []) (.ret)) (.skip))) (.seq (.seq (.reg [oo 35 (.fad 4 (tt 1)), oo 36 (.load 1 false (tt 35)), oo 37 (.len (tt 36)), oo 38 (.bin .lss (tt 37) (kk 1)), oo 39 (.mv (tt 38)), og 40 (.fad 4 (tt 1)) 39 false, og 41 (.load 1 false (tt 40)) 39 false, og 42 (.len (tt 41)) 39 false, og 43 (.bin .gtr (tt 42) (kk 4)) 39 false, oo 44 (.pick (tt 39) (.const (.bool true)) (tt 43))] []) (.cond 44 (.seq (.reg [oo 2 (.mv (.const (.bool false)))] []) (.ret)) (.skip))) (.seq (.reg [oo 46 (.fad 0 (tt 1)), oo 47 (.load 1 false (tt 46)), ⟨(some 48), (.call 50 [(tt 47)]), none⟩, oo 45 (.mv (tt 48)), oo 49 (.ext (tt 45) 0), oo 50 (.ext (tt 45) 1), oo 3 (.mv (tt 49)), oo 4 (.mv (tt 50))] []) (.seq (.seq (.reg [oo 51 (.mv (tt 4)), oo 52 (.not (tt 51)), oo 53 (.mv (tt 52)), og 54 (.load 6 true (tt 1)) 53 false, og 55 (.mv (tt 3)) 53 false, ⟨(some 56), (.call 51 [(tt 54), (tt 55)]), (some (53, false))⟩, og 57 (.not (tt 56)) 53 false, oo 58 (.pick (tt 53) (.const (.bool true)) (tt 57))] []) (.cond 58 (.seq (.reg [oo 2 (.mv (.const (.bool false)))] []) (.ret)) (.skip))) (.seq (.seq (.reg [oo 59 (.fad 2 (tt 1)), oo 60 (.load 1 false (tt 59)), oo 61 (.len (tt 60)), oo 62 (.mv (kk 0))] []) (.block 0 (.loop (.seq (.reg [oo 63 (.bin .lss (tt 62) (tt 61))] []) (.seq (.cond 63 (.skip) (.exit 0)) (.seq (.block 1 (.seq (.reg [oo 64 (.iad 2 (tt 60) (tt 62)), oo 65 (.load 2 true (tt 64)), oo 6 (.alloc 62 [(.string ⟨#[]⟩), (.int .i64 0)]), ⟨none, (.op (.store 2 (tt 6) (tt 65))), none⟩] [(1, 2)]) (.seq (.reg [oo 66 (.load 6 true (tt 1)), oo 67 (.fad 1 (tt 6)), oo 68 (.load 1 false (tt 67)), ⟨(some 69), (.call 52 [(tt 66), (tt 68), (.const (.bool false))]), none⟩, oo 70 (.not (tt 69))] [(0, 2)]) (.cond 70 (.seq (.reg [oo 2 (.mv (.const (.bool false)))] []) (.ret)) (.skip))))) (.reg [oo 71 (.bin .add (tt 62) (kk 1)), oo 62 (.mv (tt 71))] []))))))) (.seq (.reg [oo 72 (.load 6 true (tt 1)), ⟨(some 73), (.call 53 [(tt 72)]), none⟩, oo 2 (.mv (tt 73))] []) (.ret))))))), [.tmp 2], 74⟩
/-- interleave/wellformed.Start -/
def s47 : SF := ⟨ .seq (.reg [oo 1 (.box 28 (tt 0)), oo 2 (.alloc 101 [(.slice none 0 0), (.int .i64 0), (.slice none 0 0), (.slice none 0 0), (.slice none 0 0), (.slice none 0 0), (.slice none 0 0)])] [(0, 1)]) (.seq (.reg [oo 6 (.load 6 true (tt 1)), ⟨(some 7), (.call 54 [(tt 6)]), none⟩, oo 8 (.fad 0 (tt 1)), oo 9 (.load 1 false (tt 8)), oo 10 (.len (tt 9)), oo 11 (.mksl 2 1 8 [(.int .i64 0)] (kk 0) (tt 10)), oo 12 (.fad 3 (tt 1)), oo 13 (.load 1 false (tt 12)), oo 14 (.len (tt 13)), oo 15 (.mksl 2 1 8 [(.int .i64 0)] (tt 14) (tt 14)), oo 16 (.fad 4 (tt 1)), oo 17 (.load 1 false (tt 16)), oo 18 (.len (tt 17)), oo 19 (.mksl 3 1 8 [(.int .i64 0)] (tt 18) (tt 18)), oo 20 (.build [(.slice none 0 0), (.int .i64 0), (.slice none 0 0), (.slice none 0 0), (.slice none 0 0), (.slice none 0 0), (.slice none 0 0)] [(0, 4, (tt 7)), (4, 1, (tt 11)), (5, 1, (tt 15)), (6, 1, (tt 19))]), oo 3 (.alloc 101 [(.slice none 0 0), (.int .i64 0), (.slice none 0 0), (.slice none 0 0), (.slice none 0 0), (.slice none 0 0), (.slice none 0 0)]), ⟨none, (.op (.store 7 (tt 3) (tt 20))), none⟩] [(0, 3), (1, 3), (0, 4), (1, 4), (0, 5), (1, 5), (0, 7), (1, 7), (3, 7), (4, 7), (5, 7), (0, 8), (1, 8), (3, 8), (4, 8), (5, 8), (0, 9), (1, 9), (3, 9), (4, 9), (5, 9), (0, 11), (1, 11), (3, 11), (4, 11), (5, 11), (7, 11), (8, 11), (9, 11), (0, 12), (1, 12), (3, 12), (4, 12), (5, 12), (7, 12), (8, 12), (9, 12), (0, 13), (1, 13), (3, 13), (4, 13), (5, 13), (7, 13), (8, 13), (9, 13), (0, 15), (1, 15), (3, 15), (4, 15), (5, 15), (7, 15), (8, 15), (9, 15), (11, 15), (12, 15), (13, 15)]) (.seq (.seq (.reg [oo 21 (.fad 0 (tt 1)), oo 22 (.load 1 false (tt 21)), oo 23 (.len (tt 22)), oo 24 (.mv (kk 0))] []) (.block 0 (.loop (.seq (.reg [oo 25 (.bin .lss (tt 24) (tt 23))] []) (.seq (.cond 25 (.skip) (.exit 0)) (.seq (.block 1 (.seq (.reg [oo 26 (.iad 5 (tt 22) (tt 24)), oo 27 (.load 5 true (tt 26)), oo 5 (.alloc 58 [(.string ⟨#[]⟩), (.int .i64 0), (.int .i64 0), (.bool false), (.int .i64 0)]), ⟨none, (.op (.store 5 (tt 5) (tt 27))), none⟩] [(1, 2)]) (.reg [oo 28 (.fad 4 (tt 3)), oo 29 (.load 1 false (tt 28)), oo 30 (.fad 4 (tt 5)), oo 31 (.load 1 false (tt 30)), oo 32 (.bsl 2 1 1 [(.int .i64 0)] [(0, 1, (tt 31))]), oo 33 (.app 2 1 8 (tt 29) (tt 32)), oo 34 (.fad 4 (tt 3)), ⟨none, (.op (.store 1 (tt 34) (tt 33))), none⟩] [(1, 3), (1, 4)]))) (.reg [oo 35 (.bin .add (tt 24) (kk 1)), oo 24 (.mv (tt 35))] []))))))) (.seq (.reg [oo 36 (.load 7 true (tt 3)), ⟨none, (.op (.store 7 (tt 2) (tt 36))), none⟩] []) (.ret)))), [.cell 2 7 true], 37⟩
/-- interleave/wellformed.Step -/
def s48 : SF := ⟨ .seq (.reg [oo 3 (.box 28 (tt 0)), oo 4 (.box 101 (tt 1)), oo 5 (.box 41 (tt 2)), oo 6 (.alloc 101 [(.slice none 0 0), (.int .i64 0), (.slice none 0 0), (.slice none 0 0), (.slice none 0 0), (.slice none 0 0), (.slice none 0 0)]), oo 7 (.mv (.const (.bool false)))] [(0, 1), (0, 2), (1, 2), (0, 3), (1, 3), (2, 3)]) (.seq (.seq (.reg [oo 13 (.load 6 true (tt 3)), oo 14 (.load 7 true (tt 4)), ⟨(some 15), (.call 55 [(tt 13), (tt 14)]), none⟩, oo 16 (.not (tt 15)), oo 17 (.mv (tt 16)), og 18 (.fad 0 (tt 5)) 17 false, og 19 (.load 1 false (tt 18)) 17 false, og 20 (.bin .lss (tt 19) (kk 0)) 17 false, oo 21 (.pick (tt 17) (.const (.bool true)) (tt 20)), oo 22 (.mv (tt 21)), og 23 (.fad 0 (tt 5)) 22 false, og 24 (.load 1 false (tt 23)) 22 false, og 25 (.fad 4 (tt 3)) 22 false, og 26 (.load 1 false (tt 25)) 22 false, og 27 (.len (tt 26)) 22 false, og 28 (.bin .geq (tt 24) (tt 27)) 22 false, oo 29 (.pick (tt 22) (.const (.bool true)) (tt 28)), oo 30 (.mv (tt 29)), og 31 (.fad 1 (tt 5)) 30 false, og 32 (.load 1 false (tt 31)) 30 false, og 33 (.bin .lss (tt 32) (kk 1)) 30 false, oo 34 (.pick (tt 30) (.const (.bool true)) (tt 33)), oo 35 (.mv (tt 34)), og 36 (.fad 1 (tt 5)) 35 false, og 37 (.load 1 false (tt 36)) 35 false, og 38 (.bin .gtr (tt 37) (kk 23)) 35 false, oo 39 (.pick (tt 35) (.const (.bool true)) (tt 38))] [(0, 1), (11, 13), (11, 14)]) (.cond 39 (.seq (.reg [oo 40 (.build [(.slice none 0 0), (.int .i64 0), (.slice none 0 0), (.slice none 0 0), (.slice none 0 0), (.slice none 0 0), (.slice none 0 0)] []), ⟨none, (.op (.store 7 (tt 6) (tt 40))), none⟩, oo 7 (.mv (.const (.bool false)))] []) (.ret)) (.skip))) (.seq (.seq (.reg [oo 41 (.load 6 true (tt 3)), oo 42 (.fad 0 (tt 4)), oo 43 (.load 4 true (tt 42)), oo 44 (.fad 0 (tt 5)), oo 45 (.load 1 false (tt 44)), oo 46 (.fad 1 (tt 5)), oo 47 (.load 1 false (tt 46)), oo 48 (.fad 2 (tt 5)), oo 49 (.load 1 false (tt 48)), ⟨(some 50), (.call 56 [(tt 41), (tt 43), (tt 45), (tt 47), (tt 49)]), none⟩, oo 51 (.not (tt 50)), oo 52 (.mv (tt 51)), og 53 (.load 6 true (tt 3)) 52 false, og 54 (.load 7 true (tt 5)) 52 false, ⟨(some 55), (.call 57 [(tt 53), (tt 54)]), (some (52, false))⟩, og 56 (.not (tt 55)) 52 false, oo 57 (.pick (tt 52) (.const (.bool true)) (tt 56)), oo 58 (.mv (tt 57)), og 59 (.load 6 true (tt 3)) 58 false, og 60 (.load 7 true (tt 4)) 58 false, og 61 (.load 7 true (tt 5)) 58 false, ⟨(some 62), (.call 58 [(tt 59), (tt 60), (tt 61)]), (some (58, false))⟩, og 63 (.not (tt 62)) 58 false, oo 64 (.pick (tt 58) (.const (.bool true)) (tt 63)), oo 65 (.mv (tt 64)), og 66 (.load 7 true (tt 4)) 65 false, og 67 (.load 7 true (tt 5)) 65 false, ⟨(some 68), (.call 59 [(tt 66), (tt 67)]), (some (65, false))⟩, og 69 (.not (tt 68)) 65 false, oo 70 (.pick (tt 65) (.const (.bool true)) (tt 69))] [(0, 2), (0, 4), (2, 4), (0, 6), (2, 6), (4, 6), (0, 8), (2, 8), (4, 8), (6, 8), (12, 13), (18, 19), (18, 20), (19, 20), (25, 26)]) (.cond 70 (.seq (.reg [oo 71 (.build [(.slice none 0 0), (.int .i64 0), (.slice none 0 0), (.slice none 0 0), (.slice none 0 0), (.slice none 0 0), (.slice none 0 0)] []), ⟨none, (.op (.store 7 (tt 6) (tt 71))), none⟩, oo 7 (.mv (.const (.bool false)))] []) (.ret)) (.skip))) (.seq (.reg [oo 8 (.mv (kk (-1)))] []) (.seq (.seq (.reg [oo 72 (.fad 1 (tt 5)), oo 73 (.load 1 false (tt 72)), oo 74 (.bin .eql (tt 73) (kk 18))] []) (.cond 74 (.reg [oo 75 (.fad 3 (tt 5)), oo 76 (.load 1 false (tt 75)), oo 8 (.mv (tt 76))] []) (.skip))) (.seq (.reg [oo 78 (.load 6 true (tt 3)), oo 79 (.fad 0 (tt 4)), oo 80 (.load 4 true (tt 79)), oo 81 (.fad 0 (tt 5)), oo 82 (.load 1 false (tt 81)), oo 83 (.fad 1 (tt 5)), oo 84 (.load 1 false (tt 83)), oo 85 (.fad 2 (tt 5)), oo 86 (.load 1 false (tt 85)), oo 87 (.mv (tt 8)), ⟨(some 88), (.call 60 [(tt 78), (tt 80), (tt 82), (tt 84), (tt 86), (tt 87)]), none⟩, oo 77 (.mv (tt 88)), oo 89 (.ext (tt 77) 0), oo 90 (.ext (tt 77) 1), oo 91 (.ext (tt 77) 2), oo 9 (.alloc 98 [(.slice none 0 0), (.int .i64 0), (.slice none 0 0), (.slice none 0 0)]), ⟨none, (.op (.store 4 (tt 9) (tt 89))), none⟩, oo 10 (.mv (tt 90)), oo 11 (.mv (tt 91))] [(0, 2), (0, 4), (2, 4), (0, 6), (2, 6), (4, 6), (0, 8), (2, 8), (4, 8), (6, 8), (0, 15), (2, 15), (4, 15), (6, 15), (8, 15), (10, 15)]) (.seq (.seq (.reg [oo 92 (.mv (tt 11)), oo 93 (.not (tt 92))] []) (.cond 93 (.seq (.reg [oo 94 (.build [(.slice none 0 0), (.int .i64 0), (.slice none 0 0), (.slice none 0 0), (.slice none 0 0), (.slice none 0 0), (.slice none 0 0)] []), ⟨none, (.op (.store 7 (tt 6) (tt 94))), none⟩, oo 7 (.mv (.const (.bool false)))] []) (.ret)) (.skip))) (.seq (.reg [oo 95 (.load 4 true (tt 9)), oo 96 (.fad 4 (tt 4)), oo 97 (.load 1 false (tt 96)), ⟨(some 98), (.call 61 [(tt 97)]), none⟩, oo 99 (.fad 5 (tt 4)), oo 100 (.load 1 false (tt 99)), ⟨(some 101), (.call 61 [(tt 100)]), none⟩, oo 102 (.fad 6 (tt 4)), oo 103 (.load 1 false (tt 102)), ⟨(some 104), (.call 36 [(tt 103)]), none⟩, oo 105 (.build [(.slice none 0 0), (.int .i64 0), (.slice none 0 0), (.slice none 0 0), (.slice none 0 0), (.slice none 0 0), (.slice none 0 0)] [(0, 4, (tt 95)), (4, 1, (tt 98)), (5, 1, (tt 101)), (6, 1, (tt 104))]), oo 12 (.alloc 101 [(.slice none 0 0), (.int .i64 0), (.slice none 0 0), (.slice none 0 0), (.slice none 0 0), (.slice none 0 0), (.slice none 0 0)]), ⟨none, (.op (.store 7 (tt 12) (tt 105))), none⟩] [(0, 2), (0, 3), (0, 5), (2, 5), (3, 5), (0, 6), (0, 8), (2, 8), (3, 8), (5, 8), (6, 8), (0, 9), (0, 11), (2, 11), (3, 11), (5, 11), (6, 11), (8, 11), (9, 11)]) (.seq (.seq (.reg [oo 106 (.fad 1 (tt 5)), oo 107 (.load 1 false (tt 106))] []) (.block 0 (.seq (.reg [oo 109 (.bin .eql (tt 107) (kk 4)), oo 108 (.mv (tt 109))] []) (.cond 108 (.reg [oo 110 (.fad 4 (tt 12)), oo 111 (.load 1 false (tt 110)), oo 112 (.fad 2 (tt 5)), oo 113 (.load 1 false (tt 112)), oo 114 (.fad 3 (tt 5)), oo 115 (.load 1 false (tt 114)), oo 116 (.iad 1 (tt 111) (tt 113)), ⟨none, (.op (.store 1 (tt 116) (tt 115))), none⟩] [(1, 3), (1, 5), (3, 5)]) (.seq (.reg [oo 118 (.bin .eql (tt 107) (kk 22)), oo 117 (.mv (tt 118))] []) (.cond 117 (.reg [oo 119 (.fad 5 (tt 12)), oo 120 (.load 1 false (tt 119)), oo 121 (.fad 2 (tt 5)), oo 122 (.load 1 false (tt 121)), oo 123 (.fad 3 (tt 5)), oo 124 (.load 1 false (tt 123)), oo 125 (.iad 1 (tt 120) (tt 122)), ⟨none, (.op (.store 1 (tt 125) (tt 124))), none⟩] [(1, 3), (1, 5), (3, 5)]) (.skip))))))) (.seq (.reg [oo 126 (.fad 6 (tt 12)), oo 127 (.load 1 false (tt 126)), oo 128 (.fad 0 (tt 5)), oo 129 (.load 1 false (tt 128)), oo 130 (.iad 1 (tt 127) (tt 129)), oo 131 (.load 1 false (tt 130)), oo 132 (.bin .add (tt 131) (kk 1)), oo 133 (.iad 1 (tt 127) (tt 129)), ⟨none, (.op (.store 1 (tt 133) (tt 132))), none⟩] [(1, 3)]) (.seq (.reg [oo 134 (.load 7 true (tt 12)), ⟨none, (.op (.store 7 (tt 6) (tt 134))), none⟩, oo 7 (.mv (.const (.bool true)))] []) (.ret))))))))))), [.cell 6 7 true, .tmp 7], 135⟩
/-- interleave/wellformed.allReads -/
def s49 : SF := ⟨ .seq (.reg [oo 3 (.box 41 (tt 1)), oo 4 (.mv (.const (.bool false)))] []) (.seq (.seq (.reg [oo 9 (.fad 5 (tt 3)), oo 10 (.load 1 false (tt 9)), oo 11 (.fad 6 (tt 3)), oo 12 (.load 1 false (tt 11)), oo 13 (.build [(.slice none 0 0), (.slice none 0 0)] [(0, 1, (tt 10)), (1, 1, (tt 12))]), oo 14 (.mv (kk 0))] [(1, 3)]) (.block 0 (.loop (.seq (.reg [oo 15 (.bin .lss (tt 14) (kk 2))] []) (.seq (.cond 15 (.skip) (.exit 0)) (.seq (.block 1 (.seq (.reg [oo 16 (.idx 2 1 false (tt 13) (tt 14)), oo 6 (.mv (tt 16))] []) (.seq (.reg [oo 17 (.mv (tt 6)), oo 18 (.len (tt 17)), oo 19 (.mv (kk 0))] []) (.block 2 (.loop (.seq (.reg [oo 20 (.bin .lss (tt 19) (tt 18))] []) (.seq (.cond 20 (.skip) (.exit 2)) (.seq (.block 3 (.seq (.reg [oo 21 (.iad 1 (tt 17) (tt 19)), oo 22 (.load 1 false (tt 21)), oo 8 (.mv (tt 22))] []) (.seq (.reg [oo 23 (.mv (tt 8)), oo 24 (.bin .lss (tt 23) (kk 0)), oo 25 (.mv (tt 24)), og 26 (.mv (tt 8)) 25 false, og 27 (.mv (tt 0)) 25 false, og 28 (.len (tt 27)) 25 false, og 29 (.bin .geq (tt 26) (tt 28)) 25 false, oo 30 (.pick (tt 25) (.const (.bool true)) (tt 29)), oo 31 (.mv (tt 30)), og 32 (.mv (tt 0)) 31 false, og 33 (.mv (tt 8)) 31 false, og 34 (.iad 1 (tt 32) (tt 33)) 31 false, og 35 (.load 1 false (tt 34)) 31 false, og 36 (.not (tt 35)) 31 false, oo 37 (.pick (tt 31) (.const (.bool true)) (tt 36))] []) (.cond 37 (.seq (.reg [oo 4 (.mv (.const (.bool false)))] []) (.ret)) (.skip))))) (.reg [oo 38 (.bin .add (tt 19) (kk 1)), oo 19 (.mv (tt 38))] []))))))))) (.reg [oo 39 (.bin .add (tt 14) (kk 1)), oo 14 (.mv (tt 39))] []))))))) (.seq (.reg [oo 4 (.mv (.const (.bool true)))] []) (.ret))), [.tmp 4], 40⟩
/-- interleave/compile.validCells -/
def s50 : SF := ⟨ .seq (.reg [oo 2 (.mv (.const (.slice none 0 0))), oo 3 (.mv (.const (.bool false)))] []) (.seq (.reg [oo 4 (.mv (.const (.slice none 0 0)))] []) (.seq (.seq (.reg [oo 5 (.mv (kk 0))] []) (.block 0 (.loop (.seq (.seq (.reg [oo 8 (.mv (tt 5)), oo 9 (.mv (tt 0)), oo 10 (.len (tt 9)), oo 11 (.bin .lss (tt 8) (tt 10))] []) (.cond 11 (.skip) (.exit 0))) (.block 1 (.seq (.reg [oo 12 (.mv (tt 0)), oo 13 (.mv (tt 5)), oo 14 (.iad 5 (tt 12) (tt 13)), oo 15 (.load 5 true (tt 14)), oo 6 (.alloc 58 [(.string ⟨#[]⟩), (.int .i64 0), (.int .i64 0), (.bool false), (.int .i64 0)]), ⟨none, (.op (.store 5 (tt 6) (tt 15))), none⟩] [(3, 4)]) (.seq (.reg [oo 16 (.mv (tt 4)), oo 17 (.fad 0 (tt 6)), oo 18 (.load 1 false (tt 17)), oo 19 (.bsl 9 1 1 [(.string ⟨#[]⟩)] [(0, 1, (tt 18))]), oo 20 (.app 9 1 16 (tt 16) (tt 19)), oo 4 (.mv (tt 20))] []) (.seq (.seq (.reg [oo 21 (.fad 2 (tt 6)), oo 22 (.load 1 false (tt 21)), oo 23 (.bin .eql (tt 22) (kk 0))] []) (.cond 23 (.seq (.seq (.reg [oo 24 (.fad 1 (tt 6)), oo 25 (.load 1 false (tt 24)), oo 26 (.bin .neq (tt 25) (kk 0))] []) (.cond 26 (.seq (.reg [oo 2 (.mv (.const (.slice none 0 0))), oo 3 (.mv (.const (.bool false)))] []) (.ret)) (.skip))) (.seq (.reg [oo 27 (.mv (tt 5)), oo 28 (.bin .add (tt 27) (kk 1)), oo 5 (.mv (tt 28))] []) (.exit 1))) (.skip))) (.seq (.seq (.reg [oo 29 (.fad 2 (tt 6)), oo 30 (.load 1 false (tt 29)), oo 31 (.bin .lss (tt 30) (kk 1)), oo 32 (.mv (tt 31)), og 33 (.fad 2 (tt 6)) 32 false, og 34 (.load 1 false (tt 33)) 32 false, og 35 (.bin .gtr (tt 34) (kk 4)) 32 false, oo 36 (.pick (tt 32) (.const (.bool true)) (tt 35)), oo 37 (.mv (tt 36)), og 38 (.fad 3 (tt 6)) 37 false, og 39 (.load 1 false (tt 38)) 37 false, oo 40 (.pick (tt 37) (.const (.bool true)) (tt 39)), oo 41 (.mv (tt 40)), og 42 (.fad 2 (tt 6)) 41 false, og 43 (.load 1 false (tt 42)) 41 false, og 44 (.mv (tt 0)) 41 false, og 45 (.len (tt 44)) 41 false, og 46 (.mv (tt 5)) 41 false, og 47 (.bin .sub (tt 45) (tt 46)) 41 false, og 48 (.bin .gtr (tt 43) (tt 47)) 41 false, oo 49 (.pick (tt 41) (.const (.bool true)) (tt 48))] [(14, 16)]) (.cond 49 (.seq (.reg [oo 2 (.mv (.const (.slice none 0 0))), oo 3 (.mv (.const (.bool false)))] []) (.ret)) (.skip))) (.seq (.seq (.reg [oo 50 (.fad 2 (tt 6)), oo 51 (.load 1 false (tt 50)), oo 52 (.mv (kk 0))] []) (.block 2 (.loop (.seq (.reg [oo 53 (.bin .lss (tt 52) (tt 51))] []) (.seq (.cond 53 (.skip) (.exit 2)) (.seq (.block 3 (.seq (.reg [oo 54 (.mv (tt 52)), oo 7 (.mv (tt 54))] []) (.seq (.reg [oo 55 (.mv (tt 7)), oo 56 (.fad 1 (tt 6)), ⟨none, (.op (.store 1 (tt 56) (tt 55))), none⟩] []) (.seq (.reg [oo 57 (.mv (tt 0)), oo 58 (.mv (tt 5)), oo 59 (.mv (tt 7)), oo 60 (.bin .add (tt 58) (tt 59)), oo 61 (.iad 5 (tt 57) (tt 60)), oo 62 (.load 5 true (tt 61)), oo 63 (.load 5 true (tt 6)), oo 64 (.eqs true [.string, (.int .i64), (.int .i64), .bool, (.int .i64)] (tt 62) (tt 63))] [(5, 6)]) (.cond 64 (.seq (.reg [oo 2 (.mv (.const (.slice none 0 0))), oo 3 (.mv (.const (.bool false)))] []) (.ret)) (.skip)))))) (.reg [oo 65 (.bin .add (tt 52) (kk 1)), oo 52 (.mv (tt 65))] []))))))) (.reg [oo 66 (.mv (tt 5)), oo 67 (.fad 2 (tt 6)), oo 68 (.load 1 false (tt 67)), oo 69 (.bin .add (tt 66) (tt 68)), oo 5 (.mv (tt 69))] []))))))))))) (.seq (.reg [oo 70 (.mv (tt 4)), oo 2 (.mv (tt 70)), oo 3 (.mv (.const (.bool true)))] []) (.ret)))), [.tmp 2, .tmp 3], 71⟩
/-- interleave/compile.validNames -/
def s51 : SF := ⟨ .seq (.reg [oo 2 (.box 28 (tt 0)), oo 4 (.mv (.const (.bool false)))] []) (.seq (.reg [oo 5 (.mv (.const (.slice none 0 0)))] []) (.seq (.reg [oo 13 (.mv (tt 5)), oo 14 (.mv (tt 1)), oo 15 (.app 9 1 16 (tt 13) (tt 14)), oo 5 (.mv (tt 15))] []) (.seq (.seq (.reg [oo 16 (.fad 1 (tt 2)), oo 17 (.load 1 false (tt 16)), oo 18 (.len (tt 17)), oo 19 (.mv (kk 0))] []) (.block 0 (.loop (.seq (.reg [oo 20 (.bin .lss (tt 19) (tt 18))] []) (.seq (.cond 20 (.skip) (.exit 0)) (.seq (.block 1 (.seq (.reg [oo 21 (.iad 2 (tt 17) (tt 19)), oo 22 (.load 2 true (tt 21)), oo 7 (.alloc 60 [(.string ⟨#[]⟩), (.bool false)]), ⟨none, (.op (.store 2 (tt 7) (tt 22))), none⟩] [(1, 2)]) (.reg [oo 23 (.mv (tt 5)), oo 24 (.fad 0 (tt 7)), oo 25 (.load 1 false (tt 24)), oo 26 (.bsl 9 1 1 [(.string ⟨#[]⟩)] [(0, 1, (tt 25))]), oo 27 (.app 9 1 16 (tt 23) (tt 26)), oo 5 (.mv (tt 27))] []))) (.reg [oo 28 (.bin .add (tt 19) (kk 1)), oo 19 (.mv (tt 28))] []))))))) (.seq (.seq (.reg [oo 29 (.fad 2 (tt 2)), oo 30 (.load 1 false (tt 29)), oo 31 (.len (tt 30)), oo 32 (.mv (kk 0))] []) (.block 2 (.loop (.seq (.reg [oo 33 (.bin .lss (tt 32) (tt 31))] []) (.seq (.cond 33 (.skip) (.exit 2)) (.seq (.block 3 (.seq (.reg [oo 34 (.iad 2 (tt 30) (tt 32)), oo 35 (.load 2 true (tt 34)), oo 9 (.alloc 62 [(.string ⟨#[]⟩), (.int .i64 0)]), ⟨none, (.op (.store 2 (tt 9) (tt 35))), none⟩] [(1, 2)]) (.reg [oo 36 (.mv (tt 5)), oo 37 (.fad 0 (tt 9)), oo 38 (.load 1 false (tt 37)), oo 39 (.bsl 9 1 1 [(.string ⟨#[]⟩)] [(0, 1, (tt 38))]), oo 40 (.app 9 1 16 (tt 36) (tt 39)), oo 5 (.mv (tt 40))] []))) (.reg [oo 41 (.bin .add (tt 32) (kk 1)), oo 32 (.mv (tt 41))] []))))))) (.seq (.reg [oo 42 (.mv (tt 5)), oo 43 (.fad 3 (tt 2)), oo 44 (.load 1 false (tt 43)), oo 45 (.app 9 1 16 (tt 42) (tt 44)), oo 5 (.mv (tt 45))] []) (.seq (.reg [oo 46 (.mv (tt 5)), oo 47 (.fad 4 (tt 2)), oo 48 (.load 1 false (tt 47)), oo 49 (.app 9 1 16 (tt 46) (tt 48)), oo 5 (.mv (tt 49))] []) (.seq (.reg [oo 50 (.mkm), oo 10 (.mv (tt 50))] []) (.seq (.seq (.reg [oo 51 (.mv (tt 5)), oo 52 (.len (tt 51)), oo 53 (.mv (kk 0))] []) (.block 4 (.loop (.seq (.reg [oo 54 (.bin .lss (tt 53) (tt 52))] []) (.seq (.cond 54 (.skip) (.exit 4)) (.seq (.block 5 (.seq (.reg [oo 55 (.iad 1 (tt 51) (tt 53)), oo 56 (.load 1 false (tt 55)), oo 12 (.mv (tt 56))] []) (.seq (.seq (.reg [oo 57 (.mv (tt 12)), ⟨(some 58), (.call 62 [(tt 57)]), none⟩, oo 59 (.not (tt 58)), oo 60 (.mv (tt 59)), og 61 (.mv (tt 10)) 60 false, og 62 (.mv (tt 12)) 60 false, og 63 (.lku true (.bool false) (tt 61) (tt 62)) 60 false, oo 64 (.pick (tt 60) (.const (.bool true)) (tt 63))] []) (.cond 64 (.seq (.reg [oo 4 (.mv (.const (.bool false)))] []) (.ret)) (.skip))) (.reg [oo 65 (.mv (tt 10)), oo 66 (.mv (tt 12)), ⟨none, (.op (.mup true (tt 65) (tt 66) (.const (.bool true)))), none⟩] [])))) (.reg [oo 67 (.bin .add (tt 53) (kk 1)), oo 53 (.mv (tt 67))] []))))))) (.seq (.reg [oo 4 (.mv (.const (.bool true)))] []) (.ret)))))))))), [.tmp 4], 68⟩
/-- interleave/compile.isLock -/
def s52 : SF := ⟨ .seq (.reg [oo 3 (.box 28 (tt 0)), oo 6 (.mv (.const (.bool false)))] []) (.seq (.reg [oo 7 (.mv (tt 1)), oo 8 (.fad 1 (tt 3)), oo 9 (.load 1 false (tt 8)), oo 10 (.len (tt 9)), ⟨(some 11), (.call 63 [(tt 7), (tt 10)]), none⟩, oo 12 (.mv (tt 11)), og 13 (.fad 1 (tt 3)) 12 true, og 14 (.load 1 false (tt 13)) 12 true, og 15 (.mv (tt 1)) 12 true, og 16 (.iad 2 (tt 14) (tt 15)) 12 true, og 17 (.fad 1 (tt 16)) 12 true, og 18 (.load 1 false (tt 17)) 12 true, og 19 (.mv (tt 2)) 12 true, og 20 (.eqb false (tt 18) (tt 19)) 12 true, oo 21 (.pick (tt 12) (tt 20) (.const (.bool false))), oo 6 (.mv (tt 21))] []) (.ret)), [.tmp 6], 22⟩
/-- interleave/compile.validSites -/
def s53 : SF := ⟨ .seq (.reg [oo 1 (.box 28 (tt 0)), oo 2 (.mv (.const (.bool false)))] []) (.seq (.reg [oo 3 (.mv (kk 0)), oo 4 (.mv (kk 0))] []) (.seq (.seq (.reg [oo 7 (.fad 5 (tt 1)), oo 8 (.load 1 false (tt 7)), oo 9 (.len (tt 8)), oo 10 (.mv (kk 0))] []) (.block 0 (.loop (.seq (.reg [oo 11 (.bin .lss (tt 10) (tt 9))] []) (.seq (.cond 11 (.skip) (.exit 0)) (.seq (.block 1 (.seq (.reg [oo 12 (.iad 3 (tt 8) (tt 10)), oo 13 (.load 3 true (tt 12)), oo 6 (.alloc 64 [(.int .i64 0), (.int .i64 0), (.int .i64 0)]), ⟨none, (.op (.store 3 (tt 6) (tt 13))), none⟩] [(1, 2)]) (.seq (.seq (.reg [oo 14 (.fad 0 (tt 6)), oo 15 (.load 1 false (tt 14)), oo 16 (.mv (tt 3)), oo 17 (.bin .lss (tt 15) (tt 16)), oo 18 (.mv (tt 17)), og 19 (.fad 0 (tt 6)) 18 false, og 20 (.load 1 false (tt 19)) 18 false, og 21 (.fad 4 (tt 1)) 18 false, og 22 (.load 1 false (tt 21)) 18 false, og 23 (.len (tt 22)) 18 false, og 24 (.bin .geq (tt 20) (tt 23)) 18 false, oo 25 (.pick (tt 18) (.const (.bool true)) (tt 24))] [(6, 8), (6, 9)]) (.cond 25 (.seq (.reg [oo 2 (.mv (.const (.bool false)))] []) (.ret)) (.skip))) (.seq (.seq (.reg [oo 26 (.fad 0 (tt 6)), oo 27 (.load 1 false (tt 26)), oo 28 (.mv (tt 3)), oo 29 (.bin .gtr (tt 27) (tt 28))] []) (.cond 29 (.reg [oo 30 (.fad 0 (tt 6)), oo 31 (.load 1 false (tt 30)), oo 3 (.mv (tt 31)), oo 4 (.mv (kk 0))] []) (.skip))) (.seq (.seq (.reg [oo 32 (.fad 1 (tt 6)), oo 33 (.load 1 false (tt 32)), oo 34 (.mv (tt 4)), oo 35 (.bin .neq (tt 33) (tt 34))] []) (.cond 35 (.seq (.reg [oo 2 (.mv (.const (.bool false)))] []) (.ret)) (.skip))) (.reg [oo 36 (.mv (tt 4)), oo 37 (.bin .add (tt 36) (kk 1)), oo 4 (.mv (tt 37))] [])))))) (.reg [oo 38 (.bin .add (tt 10) (kk 1)), oo 10 (.mv (tt 38))] []))))))) (.seq (.reg [oo 2 (.mv (.const (.bool true)))] []) (.ret)))), [.tmp 2], 39⟩
/-- interleave/object.Start -/
def s54 : SF := ⟨ .seq (.reg [oo 1 (.box 28 (tt 0)), oo 2 (.alloc 98 [(.slice none 0 0), (.int .i64 0), (.slice none 0 0), (.slice none 0 0)])] [(0, 1)]) (.seq (.reg [oo 5 (.fad 1 (tt 1)), oo 6 (.load 1 false (tt 5)), oo 7 (.len (tt 6)), oo 8 (.mksl 125 2 32 [(.int .i64 0), (.slice none 0 0)] (tt 7) (tt 7)), oo 9 (.fad 3 (tt 1)), oo 10 (.load 1 false (tt 9)), oo 11 (.len (tt 10)), oo 12 (.mksl 4 1 1 [(.bool false)] (tt 11) (tt 11)), oo 13 (.fad 4 (tt 1)), oo 14 (.load 1 false (tt 13)), oo 15 (.len (tt 14)), oo 16 (.mksl 127 3 24 [(.int .i64 0), (.int .i64 0), (.bool false)] (tt 15) (tt 15)), oo 17 (.build [(.slice none 0 0), (.int .i64 0), (.slice none 0 0), (.slice none 0 0)] [(0, 1, (tt 8)), (1, 1, (kk (-1))), (2, 1, (tt 12)), (3, 1, (tt 16))]), oo 3 (.alloc 98 [(.slice none 0 0), (.int .i64 0), (.slice none 0 0), (.slice none 0 0)]), ⟨none, (.op (.store 4 (tt 3) (tt 17))), none⟩] [(1, 5), (2, 5), (3, 5), (1, 6), (2, 6), (3, 6), (1, 7), (2, 7), (3, 7), (1, 9), (2, 9), (3, 9), (5, 9), (6, 9), (7, 9), (1, 10), (2, 10), (3, 10), (5, 10), (6, 10), (7, 10), (1, 11), (2, 11), (3, 11), (5, 11), (6, 11), (7, 11), (1, 13), (2, 13), (3, 13), (5, 13), (6, 13), (7, 13), (9, 13), (10, 13), (11, 13)]) (.seq (.seq (.reg [oo 18 (.fad 0 (tt 3)), oo 19 (.load 1 false (tt 18)), oo 20 (.len (tt 19)), oo 21 (.mv (kk 0))] []) (.block 0 (.loop (.seq (.reg [oo 22 (.bin .lss (tt 21) (tt 20))] []) (.seq (.cond 22 (.skip) (.exit 0)) (.seq (.block 1 (.seq (.reg [oo 23 (.mv (tt 21)), oo 4 (.mv (tt 23))] []) (.reg [oo 24 (.fad 0 (tt 3)), oo 25 (.load 1 false (tt 24)), oo 26 (.mv (tt 4)), oo 27 (.iad 2 (tt 25) (tt 26)), oo 28 (.fad 0 (tt 27)), ⟨none, (.op (.store 1 (tt 28) (kk (-1)))), none⟩] []))) (.reg [oo 29 (.bin .add (tt 21) (kk 1)), oo 21 (.mv (tt 29))] []))))))) (.seq (.seq (.reg [oo 30 (.fad 3 (tt 3)), oo 31 (.load 1 false (tt 30)), oo 32 (.len (tt 31)), oo 33 (.bin .gtr (tt 32) (kk 0))] []) (.cond 33 (.reg [oo 34 (.fad 3 (tt 3)), oo 35 (.load 1 false (tt 34)), oo 36 (.iad 3 (tt 35) (kk 0)), oo 37 (.fad 0 (tt 36)), ⟨none, (.op (.store 1 (tt 37) (kk 1))), none⟩] []) (.skip))) (.seq (.reg [oo 38 (.load 4 true (tt 3)), ⟨none, (.op (.store 4 (tt 2) (tt 38))), none⟩] []) (.ret))))), [.cell 2 4 true], 39⟩
/-- interleave/wellformed.fits -/
def s55 : SF := ⟨ .seq (.reg [oo 2 (.box 28 (tt 0)), oo 3 (.box 101 (tt 1)), oo 4 (.mv (.const (.bool false)))] [(0, 1)]) (.seq (.reg [oo 5 (.load 6 true (tt 2)), oo 6 (.fad 0 (tt 3)), oo 7 (.load 4 true (tt 6)), ⟨(some 8), (.call 64 [(tt 5), (tt 7)]), none⟩, oo 9 (.mv (tt 8)), og 10 (.fad 4 (tt 3)) 9 true, og 11 (.load 1 false (tt 10)) 9 true, og 12 (.len (tt 11)) 9 true, og 13 (.fad 0 (tt 2)) 9 true, og 14 (.load 1 false (tt 13)) 9 true, og 15 (.len (tt 14)) 9 true, og 16 (.bin .eql (tt 12) (tt 15)) 9 true, oo 17 (.pick (tt 9) (tt 16) (.const (.bool false))), oo 18 (.mv (tt 17)), og 19 (.fad 5 (tt 3)) 18 true, og 20 (.load 1 false (tt 19)) 18 true, og 21 (.len (tt 20)) 18 true, og 22 (.fad 3 (tt 2)) 18 true, og 23 (.load 1 false (tt 22)) 18 true, og 24 (.len (tt 23)) 18 true, og 25 (.bin .eql (tt 21) (tt 24)) 18 true, oo 26 (.pick (tt 18) (tt 25) (.const (.bool false))), oo 27 (.mv (tt 26)), og 28 (.fad 6 (tt 3)) 27 true, og 29 (.load 1 false (tt 28)) 27 true, og 30 (.len (tt 29)) 27 true, og 31 (.fad 4 (tt 2)) 27 true, og 32 (.load 1 false (tt 31)) 27 true, og 33 (.len (tt 32)) 27 true, og 34 (.bin .eql (tt 30) (tt 33)) 27 true, oo 35 (.pick (tt 27) (tt 34) (.const (.bool false))), oo 4 (.mv (tt 35))] [(0, 2), (6, 9), (7, 9), (6, 10), (7, 10), (15, 18), (16, 18), (15, 19), (16, 19), (24, 27), (25, 27), (24, 28), (25, 28)]) (.ret)), [.tmp 4], 36⟩
/-- interleave/object.Enabled -/
def s56 : SF := ⟨ .seq (.reg [oo 5 (.box 28 (tt 0)), oo 6 (.box 98 (tt 1)), oo 10 (.mv (.const (.bool false)))] [(0, 1)]) (.seq (.seq (.reg [oo 12 (.load 6 true (tt 5)), oo 13 (.load 4 true (tt 6)), ⟨(some 14), (.call 64 [(tt 12), (tt 13)]), none⟩, oo 15 (.not (tt 14)), oo 16 (.mv (tt 15)), og 17 (.mv (tt 2)) 16 false, og 18 (.fad 4 (tt 5)) 16 false, og 19 (.load 1 false (tt 18)) 16 false, og 20 (.len (tt 19)) 16 false, ⟨(some 21), (.call 65 [(tt 17), (tt 20)]), (some (16, false))⟩, og 22 (.not (tt 21)) 16 false, oo 23 (.pick (tt 16) (.const (.bool true)) (tt 22)), oo 24 (.mv (tt 23)), og 25 (.load 6 true (tt 5)) 24 false, og 26 (.mv (tt 3)) 24 false, og 27 (.mv (tt 4)) 24 false, ⟨(some 28), (.call 66 [(tt 25), (tt 26), (tt 27)]), (some (24, false))⟩, og 29 (.not (tt 28)) 24 false, oo 30 (.pick (tt 24) (.const (.bool true)) (tt 29))] [(0, 1)]) (.cond 30 (.seq (.reg [oo 10 (.mv (.const (.bool false)))] []) (.ret)) (.skip))) (.seq (.reg [oo 31 (.fad 3 (tt 6)), oo 32 (.load 1 false (tt 31)), oo 33 (.mv (tt 2)), oo 34 (.iad 3 (tt 32) (tt 33)), oo 35 (.load 3 true (tt 34)), oo 11 (.alloc 127 [(.int .i64 0), (.int .i64 0), (.bool false)]), ⟨none, (.op (.store 3 (tt 11) (tt 35))), none⟩] [(1, 5), (4, 5)]) (.seq (.seq (.reg [oo 36 (.mv (tt 3))] []) (.block 0 (.seq (.reg [oo 38 (.bin .eql (tt 36) (kk 1)), oo 37 (.mv (tt 38))] []) (.cond 37 (.seq (.reg [oo 39 (.fad 0 (tt 11)), oo 40 (.load 1 false (tt 39)), oo 41 (.bin .eql (tt 40) (kk 1)), oo 10 (.mv (tt 41))] []) (.ret)) (.seq (.reg [oo 43 (.bin .eql (tt 36) (kk 17)), oo 42 (.mv (tt 43))] []) (.cond 42 (.seq (.reg [oo 44 (.fad 0 (tt 11)), oo 45 (.load 1 false (tt 44)), oo 46 (.bin .eql (tt 45) (kk 4)), oo 47 (.mv (tt 46)), og 48 (.fad 1 (tt 11)) 47 true, og 49 (.load 1 false (tt 48)) 47 true, og 50 (.mv (tt 4)) 47 true, og 51 (.bin .eql (tt 49) (tt 50)) 47 true, oo 52 (.pick (tt 47) (tt 51) (.const (.bool false))), oo 53 (.mv (tt 52)), og 54 (.fad 0 (tt 6)) 53 true, og 55 (.load 1 false (tt 54)) 53 true, og 56 (.fad 2 (tt 5)) 53 true, og 57 (.load 1 false (tt 56)) 53 true, og 58 (.mv (tt 4)) 53 true, og 59 (.iad 2 (tt 57) (tt 58)) 53 true, og 60 (.fad 1 (tt 59)) 53 true, og 61 (.load 1 false (tt 60)) 53 true, og 62 (.iad 2 (tt 55) (tt 61)) 53 true, og 63 (.fad 0 (tt 62)) 53 true, og 64 (.load 1 false (tt 63)) 53 true, og 65 (.bin .eql (tt 64) (kk (-1))) 53 true, oo 66 (.pick (tt 53) (tt 65) (.const (.bool false))), oo 10 (.mv (tt 66))] [(11, 13), (11, 17)]) (.ret)) (.skip))))))) (.seq (.reg [oo 67 (.fad 0 (tt 11)), oo 68 (.load 1 false (tt 67)), oo 69 (.bin .eql (tt 68) (kk 2)), oo 70 (.mv (tt 69)), og 71 (.load 6 true (tt 5)) 70 true, og 72 (.load 4 true (tt 6)) 70 true, og 73 (.mv (tt 2)) 70 true, og 74 (.mv (tt 3)) 70 true, og 75 (.mv (tt 4)) 70 true, ⟨(some 76), (.call 67 [(tt 71), (tt 72), (tt 73), (tt 74), (tt 75)]), (some (70, true))⟩, oo 77 (.pick (tt 70) (tt 76) (.const (.bool false))), oo 10 (.mv (tt 77))] [(4, 5)]) (.ret))))), [.tmp 10], 78⟩
/-- interleave/wellformed.placed -/
def s57 : SF := ⟨ .seq (.reg [oo 2 (.box 28 (tt 0)), oo 3 (.box 41 (tt 1)), oo 4 (.mv (.const (.bool false)))] [(0, 1)]) (.seq (.seq (.reg [oo 5 (.fad 1 (tt 3)), oo 6 (.load 1 false (tt 5)), oo 7 (.bin .eql (tt 6) (kk 1)), oo 8 (.mv (tt 7)), og 9 (.fad 1 (tt 3)) 8 false, og 10 (.load 1 false (tt 9)) 8 false, og 11 (.bin .eql (tt 10) (kk 2)) 8 false, oo 12 (.pick (tt 8) (.const (.bool true)) (tt 11))] []) (.cond 12 (.seq (.reg [oo 13 (.fad 4 (tt 3)), oo 14 (.load 1 false (tt 13)), oo 15 (.bin .eql (tt 14) (kk (-1))), oo 4 (.mv (tt 15))] []) (.ret)) (.skip))) (.seq (.reg [oo 16 (.fad 4 (tt 3)), oo 17 (.load 1 false (tt 16)), oo 18 (.bin .geq (tt 17) (kk 0)), oo 19 (.mv (tt 18)), og 20 (.fad 4 (tt 3)) 19 true, og 21 (.load 1 false (tt 20)) 19 true, og 22 (.fad 5 (tt 2)) 19 true, og 23 (.load 1 false (tt 22)) 19 true, og 24 (.len (tt 23)) 19 true, og 25 (.bin .lss (tt 21) (tt 24)) 19 true, oo 26 (.pick (tt 19) (tt 25) (.const (.bool false))), oo 27 (.mv (tt 26)), og 28 (.fad 5 (tt 2)) 27 true, og 29 (.load 1 false (tt 28)) 27 true, og 30 (.fad 4 (tt 3)) 27 true, og 31 (.load 1 false (tt 30)) 27 true, og 32 (.iad 3 (tt 29) (tt 31)) 27 true, og 33 (.fad 0 (tt 32)) 27 true, og 34 (.load 1 false (tt 33)) 27 true, og 35 (.fad 0 (tt 3)) 27 true, og 36 (.load 1 false (tt 35)) 27 true, og 37 (.bin .eql (tt 34) (tt 36)) 27 true, oo 38 (.pick (tt 27) (tt 37) (.const (.bool false))), oo 4 (.mv (tt 38))] [(5, 7), (5, 8), (13, 15), (13, 20), (15, 20), (18, 20)]) (.ret))), [.tmp 4], 39⟩
/-- interleave/wellformed.determined -/
def s58 : SF := ⟨ .seq (.reg [oo 3 (.box 28 (tt 0)), oo 4 (.box 101 (tt 1)), oo 5 (.box 41 (tt 2)), oo 6 (.mv (.const (.bool false)))] [(0, 1), (0, 2), (1, 2)]) (.seq (.reg [oo 14 (.fad 1 (tt 5)), oo 15 (.load 1 false (tt 14)), oo 16 (.bin .eql (tt 15) (kk 3)), oo 17 (.mv (tt 16)), og 18 (.fad 1 (tt 5)) 17 false, og 19 (.load 1 false (tt 18)) 17 false, og 20 (.bin .eql (tt 19) (kk 4)) 17 false, oo 21 (.pick (tt 17) (.const (.bool true)) (tt 20)), oo 22 (.mv (tt 21)), og 23 (.fad 0 (tt 3)) 22 true, og 24 (.load 1 false (tt 23)) 22 true, og 25 (.fad 2 (tt 5)) 22 true, og 26 (.load 1 false (tt 25)) 22 true, og 27 (.iad 5 (tt 24) (tt 26)) 22 true, og 28 (.fad 2 (tt 27)) 22 true, og 29 (.load 1 false (tt 28)) 22 true, og 30 (.bin .neq (tt 29) (kk 0)) 22 true, oo 31 (.pick (tt 22) (tt 30) (.const (.bool false))), oo 7 (.mv (tt 31))] [(10, 12)]) (.seq (.reg [oo 32 (.fad 1 (tt 5)), oo 33 (.load 1 false (tt 32)), oo 34 (.bin .eql (tt 33) (kk 5)), oo 35 (.mv (tt 34)), og 36 (.mv (tt 7)) 35 false, oo 37 (.pick (tt 35) (.const (.bool true)) (tt 36)), oo 38 (.fad 1 (tt 5)), oo 39 (.load 1 false (tt 38)), oo 40 (.bin .eql (tt 39) (kk 4)), oo 41 (.mv (tt 40)), og 42 (.fad 1 (tt 5)) 41 false, og 43 (.load 1 false (tt 42)) 41 false, og 44 (.bin .eql (tt 43) (kk 22)) 41 false, oo 45 (.pick (tt 41) (.const (.bool true)) (tt 44)), oo 46 (.build [(.bool false), (.bool false)] [(0, 1, (tt 37)), (1, 1, (tt 45))]), oo 8 (.alloc 130 [(.bool false), (.bool false)]), ⟨none, (.op (.store 2 (tt 8) (tt 46))), none⟩] [(1, 7), (1, 15), (7, 15), (11, 15)]) (.seq (.seq (.reg [oo 47 (.fad 5 (tt 5)), oo 48 (.load 1 false (tt 47)), oo 49 (.fad 6 (tt 5)), oo 50 (.load 1 false (tt 49)), oo 51 (.build [(.slice none 0 0), (.slice none 0 0)] [(0, 1, (tt 48)), (1, 1, (tt 50))]), oo 52 (.mv (kk 0))] [(1, 3)]) (.block 0 (.loop (.seq (.reg [oo 53 (.bin .lss (tt 52) (kk 2))] []) (.seq (.cond 53 (.skip) (.exit 0)) (.seq (.block 1 (.seq (.reg [oo 54 (.mv (tt 52)), oo 55 (.idx 2 1 false (tt 51) (tt 52)), oo 9 (.mv (tt 54)), oo 10 (.mv (tt 55))] []) (.seq (.seq (.reg [oo 56 (.mv (tt 10)), oo 57 (.len (tt 56)), oo 58 (.bin .gtr (tt 57) (kk 0)), oo 59 (.mv (tt 58)), og 60 (.mv (tt 9)) 59 true, og 61 (.iada 2 1 (tt 8) (tt 60)) 59 true, og 62 (.load 1 false (tt 61)) 59 true, og 63 (.not (tt 62)) 59 true, oo 64 (.pick (tt 59) (tt 63) (.const (.bool false)))] []) (.cond 64 (.seq (.reg [oo 6 (.mv (.const (.bool false)))] []) (.ret)) (.skip))) (.seq (.reg [oo 11 (.mv (kk 0))] []) (.seq (.reg [oo 65 (.mv (tt 10)), oo 66 (.len (tt 65)), oo 67 (.mv (kk 0))] []) (.block 2 (.loop (.seq (.reg [oo 68 (.bin .lss (tt 67) (tt 66))] []) (.seq (.cond 68 (.skip) (.exit 2)) (.seq (.block 3 (.seq (.reg [oo 69 (.iad 1 (tt 65) (tt 67)), oo 70 (.load 1 false (tt 69)), oo 13 (.mv (tt 70))] []) (.seq (.seq (.reg [oo 71 (.mv (tt 13)), oo 72 (.mv (tt 11)), oo 73 (.bin .leq (tt 71) (tt 72)), oo 74 (.mv (tt 73)), og 75 (.mv (tt 13)) 74 false, og 76 (.fad 6 (tt 4)) 74 false, og 77 (.load 1 false (tt 76)) 74 false, og 78 (.fad 0 (tt 5)) 74 false, og 79 (.load 1 false (tt 78)) 74 false, og 80 (.iad 1 (tt 77) (tt 79)) 74 false, og 81 (.load 1 false (tt 80)) 74 false, og 82 (.bin .geq (tt 75) (tt 81)) 74 false, oo 83 (.pick (tt 74) (.const (.bool true)) (tt 82))] [(6, 8)]) (.cond 83 (.seq (.reg [oo 6 (.mv (.const (.bool false)))] []) (.ret)) (.skip))) (.reg [oo 84 (.mv (tt 13)), oo 11 (.mv (tt 84))] [])))) (.reg [oo 85 (.bin .add (tt 67) (kk 1)), oo 67 (.mv (tt 85))] []))))))))))) (.reg [oo 86 (.bin .add (tt 52) (kk 1)), oo 52 (.mv (tt 86))] []))))))) (.seq (.reg [oo 6 (.mv (.const (.bool true)))] []) (.ret))))), [.tmp 6], 87⟩
/-- interleave/wellformed.valued -/
def s59 : SF := ⟨ .seq (.reg [oo 2 (.box 101 (tt 0)), oo 3 (.box 41 (tt 1)), oo 4 (.mv (.const (.bool false)))] [(0, 1)]) (.seq (.seq (.reg [oo 12 (.fad 1 (tt 3)), oo 13 (.load 1 false (tt 12))] []) (.block 0 (.seq (.reg [oo 15 (.bin .eql (tt 13) (kk 3)), oo 14 (.mv (tt 15))] []) (.cond 14 (.seq (.reg [oo 16 (.fad 3 (tt 3)), oo 17 (.load 1 false (tt 16)), oo 18 (.fad 4 (tt 2)), oo 19 (.load 1 false (tt 18)), oo 20 (.fad 2 (tt 3)), oo 21 (.load 1 false (tt 20)), oo 22 (.iad 1 (tt 19) (tt 21)), oo 23 (.load 1 false (tt 22)), oo 24 (.bin .eql (tt 17) (tt 23)), oo 4 (.mv (tt 24))] [(1, 3), (1, 5), (3, 5), (1, 7)]) (.ret)) (.seq (.reg [oo 26 (.bin .eql (tt 13) (kk 23)), oo 25 (.mv (tt 26))] []) (.cond 25 (.seq (.reg [oo 27 (.fad 3 (tt 3)), oo 28 (.load 1 false (tt 27)), oo 29 (.fad 5 (tt 2)), oo 30 (.load 1 false (tt 29)), oo 31 (.fad 2 (tt 3)), oo 32 (.load 1 false (tt 31)), oo 33 (.iad 1 (tt 30) (tt 32)), oo 34 (.load 1 false (tt 33)), oo 35 (.bin .eql (tt 28) (tt 34)), oo 4 (.mv (tt 35))] [(1, 3), (1, 5), (3, 5), (1, 7)]) (.ret)) (.seq (.reg [oo 37 (.bin .eql (tt 13) (kk 5)), oo 36 (.mv (tt 37))] []) (.cond 36 (.seq (.reg [oo 38 (.fad 3 (tt 3)), oo 39 (.load 1 false (tt 38)), oo 40 (.bin .eql (tt 39) (kk 0)), oo 41 (.mv (tt 40)), og 42 (.fad 3 (tt 3)) 41 false, og 43 (.load 1 false (tt 42)) 41 false, og 44 (.bin .eql (tt 43) (kk 1)) 41 false, oo 45 (.pick (tt 41) (.const (.bool true)) (tt 44)), oo 4 (.mv (tt 45))] []) (.ret)) (.seq (.seq (.reg [oo 47 (.bin .eql (tt 13) (kk 4)), oo 46 (.mv (tt 47))] []) (.cond 46 (.skip) (.reg [oo 48 (.bin .eql (tt 13) (kk 22)), oo 46 (.mv (tt 48))] []))) (.cond 46 (.seq (.reg [oo 4 (.mv (.const (.bool true)))] []) (.ret)) (.seq (.reg [oo 50 (.bin .eql (tt 13) (kk 18)), oo 49 (.mv (tt 50))] []) (.cond 49 (.seq (.reg [oo 5 (.mv (kk 0)), oo 6 (.mv (.const (.bool false)))] []) (.seq (.seq (.reg [oo 51 (.fad 0 (tt 2)), oo 52 (.fad 3 (tt 51)), oo 53 (.load 1 false (tt 52)), oo 54 (.len (tt 53)), oo 55 (.mv (kk 0))] []) (.block 1 (.loop (.seq (.reg [oo 56 (.bin .lss (tt 55) (tt 54))] []) (.seq (.cond 56 (.skip) (.exit 1)) (.seq (.block 2 (.seq (.reg [oo 57 (.mv (tt 55)), oo 58 (.iad 3 (tt 53) (tt 55)), oo 59 (.load 3 true (tt 58)), oo 8 (.alloc 127 [(.int .i64 0), (.int .i64 0), (.bool false)]), oo 7 (.mv (tt 57)), ⟨none, (.op (.store 3 (tt 8) (tt 59))), none⟩] [(2, 3)]) (.seq (.reg [oo 60 (.fad 0 (tt 8)), oo 61 (.load 1 false (tt 60)), oo 62 (.bin .eql (tt 61) (kk 3)), oo 63 (.mv (tt 62)), og 64 (.fad 1 (tt 8)) 63 true, og 65 (.load 1 false (tt 64)) 63 true, og 66 (.fad 2 (tt 3)) 63 true, og 67 (.load 1 false (tt 66)) 63 true, og 68 (.bin .eql (tt 65) (tt 67)) 63 true, oo 69 (.pick (tt 63) (tt 68) (.const (.bool false)))] [(5, 7)]) (.cond 69 (.seq (.reg [oo 70 (.mv (tt 5)), oo 71 (.bin .add (tt 70) (kk 1)), oo 5 (.mv (tt 71))] []) (.reg [oo 72 (.mv (tt 6)), oo 73 (.mv (tt 72)), og 74 (.fad 3 (tt 3)) 73 false, og 75 (.load 1 false (tt 74)) 73 false, og 76 (.mv (tt 7)) 73 false, og 77 (.bin .eql (tt 75) (tt 76)) 73 false, oo 78 (.pick (tt 73) (.const (.bool true)) (tt 77)), oo 6 (.mv (tt 78))] [])) (.skip))))) (.reg [oo 79 (.bin .add (tt 55) (kk 1)), oo 55 (.mv (tt 79))] []))))))) (.seq (.reg [oo 80 (.mv (tt 6)), oo 81 (.mv (tt 80)), og 82 (.mv (tt 5)) 81 false, og 83 (.bin .eql (tt 82) (kk 0)) 81 false, og 84 (.mv (tt 83)) 81 false, og 85 (.fad 3 (tt 3)) 84 true, og 86 (.load 1 false (tt 85)) 84 true, og 87 (.bin .eql (tt 86) (kk (-1))) 84 true, og 88 (.pick (tt 84) (tt 87) (.const (.bool false))) 81 false, oo 89 (.pick (tt 81) (.const (.bool true)) (tt 88)), oo 4 (.mv (tt 89))] []) (.ret)))) (.seq (.reg [oo 91 (.bin .eql (tt 13) (kk 19)), oo 90 (.mv (tt 91))] []) (.cond 90 (.seq (.reg [oo 9 (.mv (kk 0))] []) (.seq (.seq (.reg [oo 92 (.fad 0 (tt 2)), oo 93 (.fad 3 (tt 92)), oo 94 (.load 1 false (tt 93)), oo 95 (.len (tt 94)), oo 96 (.mv (kk 0))] []) (.block 3 (.loop (.seq (.reg [oo 97 (.bin .lss (tt 96) (tt 95))] []) (.seq (.cond 97 (.skip) (.exit 3)) (.seq (.block 4 (.seq (.reg [oo 98 (.iad 3 (tt 94) (tt 96)), oo 99 (.load 3 true (tt 98)), oo 11 (.alloc 127 [(.int .i64 0), (.int .i64 0), (.bool false)]), ⟨none, (.op (.store 3 (tt 11) (tt 99))), none⟩] [(1, 2)]) (.seq (.reg [oo 100 (.fad 0 (tt 11)), oo 101 (.load 1 false (tt 100)), oo 102 (.bin .eql (tt 101) (kk 3)), oo 103 (.mv (tt 102)), og 104 (.fad 1 (tt 11)) 103 true, og 105 (.load 1 false (tt 104)) 103 true, og 106 (.fad 2 (tt 3)) 103 true, og 107 (.load 1 false (tt 106)) 103 true, og 108 (.bin .eql (tt 105) (tt 107)) 103 true, oo 109 (.pick (tt 103) (tt 108) (.const (.bool false)))] [(5, 7)]) (.cond 109 (.reg [oo 110 (.mv (tt 9)), oo 111 (.bin .add (tt 110) (kk 1)), oo 9 (.mv (tt 111))] []) (.skip))))) (.reg [oo 112 (.bin .add (tt 96) (kk 1)), oo 96 (.mv (tt 112))] []))))))) (.seq (.reg [oo 113 (.fad 3 (tt 3)), oo 114 (.load 1 false (tt 113)), oo 115 (.mv (tt 9)), oo 116 (.bin .eql (tt 114) (tt 115)), oo 4 (.mv (tt 116))] []) (.ret)))) (.skip))))))))))))))) (.seq (.reg [oo 117 (.fad 3 (tt 3)), oo 118 (.load 1 false (tt 117)), oo 119 (.bin .eql (tt 118) (kk 0)), oo 4 (.mv (tt 119))] []) (.ret))), [.tmp 4], 120⟩
/-- interleave/object.Apply -/
def s60 : SF := ⟨ .seq (.reg [oo 6 (.box 28 (tt 0)), oo 7 (.box 98 (tt 1)), oo 8 (.box 3 (tt 2)), oo 12 (.alloc 98 [(.slice none 0 0), (.int .i64 0), (.slice none 0 0), (.slice none 0 0)]), oo 13 (.mv (kk 0)), oo 14 (.mv (.const (.bool false)))] [(0, 1), (0, 2), (1, 2), (0, 3), (1, 3), (2, 3)]) (.seq (.seq (.reg [oo 17 (.load 6 true (tt 6)), oo 18 (.load 4 true (tt 7)), oo 19 (.load 1 false (tt 8)), oo 20 (.mv (tt 3)), oo 21 (.mv (tt 4)), ⟨(some 22), (.call 56 [(tt 17), (tt 18), (tt 19), (tt 20), (tt 21)]), none⟩, oo 23 (.not (tt 22))] [(0, 1), (0, 2), (1, 2)]) (.cond 23 (.seq (.reg [oo 24 (.build [(.slice none 0 0), (.int .i64 0), (.slice none 0 0), (.slice none 0 0)] []), ⟨none, (.op (.store 4 (tt 12) (tt 24))), none⟩, oo 13 (.mv (kk 0)), oo 14 (.mv (.const (.bool false)))] []) (.ret)) (.skip))) (.seq (.reg [oo 25 (.load 4 true (tt 7)), ⟨(some 26), (.call 68 [(tt 25)]), none⟩, ⟨none, (.op (.store 4 (tt 7) (tt 26))), none⟩] []) (.seq (.reg [oo 15 (.mv (kk 0))] []) (.seq (.seq (.reg [oo 27 (.mv (tt 3))] []) (.block 0 (.seq (.reg [oo 29 (.bin .eql (tt 27) (kk 1)), oo 28 (.mv (tt 29))] []) (.cond 28 (.reg [oo 30 (.fad 3 (tt 7)), oo 31 (.load 1 false (tt 30)), oo 32 (.load 1 false (tt 8)), oo 33 (.iad 3 (tt 31) (tt 32)), oo 34 (.fad 0 (tt 33)), ⟨none, (.op (.store 1 (tt 34) (kk 2))), none⟩] [(1, 2)]) (.seq (.reg [oo 36 (.bin .eql (tt 27) (kk 2)), oo 35 (.mv (tt 36))] []) (.cond 35 (.reg [oo 37 (.fad 3 (tt 7)), oo 38 (.load 1 false (tt 37)), oo 39 (.load 1 false (tt 8)), oo 40 (.iad 3 (tt 38) (tt 39)), oo 41 (.fad 0 (tt 40)), ⟨none, (.op (.store 1 (tt 41) (kk 5))), none⟩] [(1, 2)]) (.seq (.seq (.reg [oo 43 (.bin .eql (tt 27) (kk 6)), oo 42 (.mv (tt 43))] []) (.cond 42 (.skip) (.reg [oo 44 (.bin .eql (tt 27) (kk 10)), oo 42 (.mv (tt 44))] []))) (.cond 42 (.reg [oo 45 (.fad 0 (tt 7)), oo 46 (.load 1 false (tt 45)), oo 47 (.mv (tt 4)), oo 48 (.load 1 false (tt 8)), oo 49 (.iad 2 (tt 46) (tt 47)), oo 50 (.fad 0 (tt 49)), ⟨none, (.op (.store 1 (tt 50) (tt 48))), none⟩] [(1, 3)]) (.seq (.seq (.reg [oo 52 (.bin .eql (tt 27) (kk 7)), oo 51 (.mv (tt 52))] []) (.cond 51 (.skip) (.reg [oo 53 (.bin .eql (tt 27) (kk 11)), oo 51 (.mv (tt 53))] []))) (.cond 51 (.reg [oo 54 (.fad 0 (tt 7)), oo 55 (.load 1 false (tt 54)), oo 56 (.mv (tt 4)), oo 57 (.iad 2 (tt 55) (tt 56)), oo 58 (.fad 0 (tt 57)), ⟨none, (.op (.store 1 (tt 58) (kk (-1)))), none⟩] []) (.seq (.reg [oo 60 (.bin .eql (tt 27) (kk 8)), oo 59 (.mv (tt 60))] []) (.cond 59 (.seq (.reg [oo 61 (.fad 0 (tt 7)), oo 62 (.load 1 false (tt 61)), oo 63 (.mv (tt 4)), oo 64 (.iad 2 (tt 62) (tt 63)), oo 65 (.fad 1 (tt 64)), oo 66 (.load 1 false (tt 65)), oo 67 (.load 1 false (tt 8)), oo 68 (.bsl 3 1 1 [(.int .i64 0)] [(0, 1, (tt 67))]), oo 69 (.app 3 1 8 (tt 66) (tt 68)), oo 16 (.mv (tt 69))] [(1, 6), (5, 6), (1, 7), (5, 7)]) (.seq (.reg [oo 70 (.mv (tt 16)), ⟨(some 71), (.call 69 [(tt 70)]), none⟩] []) (.reg [oo 72 (.fad 0 (tt 7)), oo 73 (.load 1 false (tt 72)), oo 74 (.mv (tt 4)), oo 75 (.mv (tt 16)), ⟨(some 76), (.call 70 [(tt 75)]), none⟩, oo 77 (.iad 2 (tt 73) (tt 74)), oo 78 (.fad 1 (tt 77)), ⟨none, (.op (.store 1 (tt 78) (tt 76))), none⟩] [(1, 4)]))) (.seq (.reg [oo 80 (.bin .eql (tt 27) (kk 9)), oo 79 (.mv (tt 80))] []) (.cond 79 (.reg [oo 81 (.fad 0 (tt 7)), oo 82 (.load 1 false (tt 81)), oo 83 (.mv (tt 4)), oo 84 (.fad 0 (tt 7)), oo 85 (.load 1 false (tt 84)), oo 86 (.mv (tt 4)), oo 87 (.iad 2 (tt 85) (tt 86)), oo 88 (.fad 1 (tt 87)), oo 89 (.load 1 false (tt 88)), oo 90 (.mkf 72 [(tt 8)]), ⟨(some 91), (.call 71 [(tt 89), (tt 90)]), none⟩, oo 92 (.iad 2 (tt 82) (tt 83)), oo 93 (.fad 1 (tt 92)), ⟨none, (.op (.store 1 (tt 93) (tt 91))), none⟩] [(1, 4), (1, 8), (1, 10)]) (.seq (.reg [oo 95 (.bin .eql (tt 27) (kk 12)), oo 94 (.mv (tt 95))] []) (.cond 94 (.reg [oo 96 (.load 1 false (tt 8)), oo 97 (.fad 1 (tt 7)), ⟨none, (.op (.store 1 (tt 97) (tt 96))), none⟩] []) (.seq (.reg [oo 99 (.bin .eql (tt 27) (kk 13)), oo 98 (.mv (tt 99))] []) (.cond 98 (.reg [oo 100 (.fad 1 (tt 7)), ⟨none, (.op (.store 1 (tt 100) (kk (-1)))), none⟩] []) (.seq (.reg [oo 102 (.bin .eql (tt 27) (kk 14)), oo 101 (.mv (tt 102))] []) (.cond 101 (.reg [oo 103 (.fad 3 (tt 7)), oo 104 (.load 1 false (tt 103)), oo 105 (.load 1 false (tt 8)), oo 106 (.iad 3 (tt 104) (tt 105)), oo 107 (.fad 2 (tt 106)), ⟨none, (.op (.store 1 (tt 107) (.const (.bool true)))), none⟩] [(1, 2)]) (.seq (.reg [oo 109 (.bin .eql (tt 27) (kk 15)), oo 108 (.mv (tt 109))] []) (.cond 108 (.reg [oo 110 (.fad 3 (tt 7)), oo 111 (.load 1 false (tt 110)), oo 112 (.load 1 false (tt 8)), oo 113 (.iad 3 (tt 111) (tt 112)), oo 114 (.fad 2 (tt 113)), ⟨none, (.op (.store 1 (tt 114) (.const (.bool false)))), none⟩] [(1, 2)]) (.seq (.reg [oo 116 (.bin .eql (tt 27) (kk 16)), oo 115 (.mv (tt 116))] []) (.cond 115 (.seq (.reg [oo 117 (.fad 0 (tt 7)), oo 118 (.load 1 false (tt 117)), oo 119 (.fad 2 (tt 6)), oo 120 (.load 1 false (tt 119)), oo 121 (.mv (tt 4)), oo 122 (.iad 2 (tt 120) (tt 121)), oo 123 (.fad 1 (tt 122)), oo 124 (.load 1 false (tt 123)), oo 125 (.iad 2 (tt 118) (tt 124)), oo 126 (.fad 0 (tt 125)), ⟨none, (.op (.store 1 (tt 126) (kk (-1)))), none⟩] [(1, 3), (1, 7)]) (.reg [oo 127 (.fad 3 (tt 7)), oo 128 (.load 1 false (tt 127)), oo 129 (.load 1 false (tt 8)), oo 130 (.fad 3 (tt 7)), oo 131 (.load 1 false (tt 130)), oo 132 (.load 1 false (tt 8)), oo 133 (.mv (tt 4)), oo 134 (.iad 3 (tt 128) (tt 129)), oo 135 (.fad 0 (tt 134)), ⟨none, (.op (.store 1 (tt 135) (kk 3))), none⟩, oo 136 (.iad 3 (tt 131) (tt 132)), oo 137 (.fad 1 (tt 136)), ⟨none, (.op (.store 1 (tt 137) (tt 133))), none⟩] [(1, 2), (1, 4), (2, 4), (1, 5), (2, 5), (4, 5), (4, 9), (5, 9)])) (.seq (.reg [oo 139 (.bin .eql (tt 27) (kk 17)), oo 138 (.mv (tt 139))] []) (.cond 138 (.seq (.reg [oo 140 (.fad 0 (tt 7)), oo 141 (.load 1 false (tt 140)), oo 142 (.fad 2 (tt 6)), oo 143 (.load 1 false (tt 142)), oo 144 (.mv (tt 4)), oo 145 (.iad 2 (tt 143) (tt 144)), oo 146 (.fad 1 (tt 145)), oo 147 (.load 1 false (tt 146)), oo 148 (.load 1 false (tt 8)), oo 149 (.iad 2 (tt 141) (tt 147)), oo 150 (.fad 0 (tt 149)), ⟨none, (.op (.store 1 (tt 150) (tt 148))), none⟩] [(1, 3), (1, 7), (1, 8), (3, 8), (7, 8)]) (.reg [oo 151 (.fad 3 (tt 7)), oo 152 (.load 1 false (tt 151)), oo 153 (.load 1 false (tt 8)), oo 154 (.fad 3 (tt 7)), oo 155 (.load 1 false (tt 154)), oo 156 (.load 1 false (tt 8)), oo 157 (.iad 3 (tt 152) (tt 153)), oo 158 (.fad 0 (tt 157)), ⟨none, (.op (.store 1 (tt 158) (kk 2))), none⟩, oo 159 (.iad 3 (tt 155) (tt 156)), oo 160 (.fad 1 (tt 159)), ⟨none, (.op (.store 1 (tt 160) (kk 0))), none⟩] [(1, 2), (1, 4), (2, 4), (1, 5), (2, 5), (4, 5), (4, 8), (5, 8)])) (.seq (.reg [oo 162 (.bin .eql (tt 27) (kk 18)), oo 161 (.mv (tt 162))] []) (.cond 161 (.reg [oo 163 (.load 4 true (tt 7)), oo 164 (.mv (tt 4)), oo 165 (.mv (tt 5)), ⟨(some 166), (.call 73 [(tt 163), (tt 164), (tt 165)]), none⟩, oo 15 (.mv (tt 166))] []) (.seq (.reg [oo 168 (.bin .eql (tt 27) (kk 19)), oo 167 (.mv (tt 168))] []) (.cond 167 (.reg [oo 169 (.load 4 true (tt 7)), oo 170 (.mv (tt 4)), ⟨(some 171), (.call 74 [(tt 169), (tt 170)]), none⟩, oo 15 (.mv (tt 171))] []) (.seq (.reg [oo 173 (.bin .eql (tt 27) (kk 20)), oo 172 (.mv (tt 173))] []) (.cond 172 (.reg [oo 174 (.fad 3 (tt 7)), oo 175 (.load 1 false (tt 174)), oo 176 (.mv (tt 4)), oo 177 (.iad 3 (tt 175) (tt 176)), oo 178 (.fad 0 (tt 177)), ⟨none, (.op (.store 1 (tt 178) (kk 1))), none⟩] []) (.seq (.reg [oo 180 (.bin .eql (tt 27) (kk 22)), oo 179 (.mv (tt 180))] []) (.cond 179 (.reg [oo 181 (.fad 2 (tt 7)), oo 182 (.load 1 false (tt 181)), oo 183 (.mv (tt 4)), oo 184 (.iad 1 (tt 182) (tt 183)), ⟨none, (.op (.store 1 (tt 184) (.const (.bool true)))), none⟩] []) (.skip))))))))))))))))))))))))))))))))))) (.seq (.reg [oo 185 (.load 4 true (tt 7)), oo 186 (.mv (tt 15)), ⟨none, (.op (.store 4 (tt 12) (tt 185))), none⟩, oo 13 (.mv (tt 186)), oo 14 (.mv (.const (.bool true)))] []) (.ret)))))), [.cell 12 4 true, .tmp 13, .tmp 14], 187⟩
/-- slices.Clone[[]int64,int64] -/
def s61 : SF := ⟨ .seq (.reg [oo 2 (.mv (.const (.slice none 0 0)))] []) (.seq (.seq (.reg [oo 3 (.mv (tt 0)), oo 4 (.isnil false (tt 3))] []) (.cond 4 (.seq (.reg [oo 2 (.mv (.const (.slice none 0 0)))] []) (.ret)) (.skip))) (.seq (.reg [oo 5 (.bsl 2 1 0 [(.int .i64 0)] []), oo 6 (.mv (tt 0)), oo 7 (.app 2 1 8 (tt 5) (tt 6)), oo 2 (.mv (tt 7))] []) (.ret))), [.tmp 2], 8⟩
/-- interleave/token.IsName -/
def s62 : SF := ⟨ .seq (.reg [oo 2 (.mv (.const (.bool false)))] []) (.seq (.seq (.reg [oo 5 (.mv (tt 0)), oo 6 (.lens (tt 5)), oo 7 (.bin .lss (tt 6) (kk 1)), oo 8 (.mv (tt 7)), og 9 (.mv (tt 0)) 8 false, og 10 (.lens (tt 9)) 8 false, og 11 (.bin .gtr (tt 10) (kk 12)) 8 false, oo 12 (.pick (tt 8) (.const (.bool true)) (tt 11)), oo 13 (.mv (tt 12)), og 14 (.mv (tt 0)) 13 false, ⟨(some 15), (.call 75 [(tt 14)]), (some (13, false))⟩, oo 16 (.pick (tt 13) (.const (.bool true)) (tt 15))] []) (.cond 16 (.seq (.reg [oo 2 (.mv (.const (.bool false)))] []) (.ret)) (.skip))) (.seq (.seq (.reg [oo 17 (.mv (tt 0)), oo 18 (.rng (tt 17))] []) (.block 0 (.loop (.seq (.reg [oo 19 (.nxt (tt 18)), oo 20 (.ext (tt 19) 0)] []) (.seq (.cond 20 (.skip) (.exit 0)) (.block 1 (.seq (.reg [oo 21 (.ext (tt 19) 1), oo 22 (.ext (tt 19) 2), oo 3 (.mv (tt 21)), oo 4 (.mv (tt 22))] []) (.block 2 (.seq (.reg [oo 24 (.mv (tt 4)), oo 25 (.bin .leq (.const (.int .i32 97)) (tt 24)), oo 26 (.mv (tt 25)), og 27 (.mv (tt 4)) 26 true, og 28 (.bin .leq (tt 27) (.const (.int .i32 122))) 26 true, oo 29 (.pick (tt 26) (tt 28) (.const (.bool false))), oo 30 (.mv (tt 29)), og 31 (.mv (tt 4)) 30 false, og 32 (.bin .leq (.const (.int .i32 65)) (tt 31)) 30 false, og 33 (.mv (tt 32)) 30 false, og 34 (.mv (tt 4)) 33 true, og 35 (.bin .leq (tt 34) (.const (.int .i32 90))) 33 true, og 36 (.pick (tt 33) (tt 35) (.const (.bool false))) 30 false, oo 37 (.pick (tt 30) (.const (.bool true)) (tt 36)), oo 23 (.mv (tt 37))] []) (.cond 23 (.skip) (.seq (.reg [oo 39 (.mv (tt 3)), oo 40 (.bin .gtr (tt 39) (kk 0)), oo 41 (.mv (tt 40)), og 42 (.mv (tt 4)) 41 true, og 43 (.bin .eql (tt 42) (.const (.int .i32 95))) 41 true, og 44 (.mv (tt 43)) 41 true, og 45 (.mv (tt 4)) 44 false, og 46 (.bin .leq (.const (.int .i32 48)) (tt 45)) 44 false, og 47 (.mv (tt 46)) 44 false, og 48 (.mv (tt 4)) 47 true, og 49 (.bin .leq (tt 48) (.const (.int .i32 57))) 47 true, og 50 (.pick (tt 47) (tt 49) (.const (.bool false))) 44 false, og 51 (.pick (tt 44) (.const (.bool true)) (tt 50)) 41 true, oo 52 (.pick (tt 41) (tt 51) (.const (.bool false))), oo 38 (.mv (tt 52))] []) (.cond 38 (.skip) (.seq (.reg [oo 2 (.mv (.const (.bool false)))] []) (.ret)))))))))))))) (.seq (.reg [oo 2 (.mv (.const (.bool true)))] []) (.ret)))), [.tmp 2], 53⟩
/-- interleave/compile.within -/
def s63 : SF := ⟨ .seq (.reg [oo 4 (.mv (.const (.bool false)))] []) (.seq (.reg [oo 5 (.mv (tt 0)), oo 6 (.bin .geq (tt 5) (kk 0)), oo 7 (.mv (tt 6)), og 8 (.mv (tt 0)) 7 true, og 9 (.mv (tt 1)) 7 true, og 10 (.bin .lss (tt 8) (tt 9)) 7 true, oo 11 (.pick (tt 7) (tt 10) (.const (.bool false))), oo 4 (.mv (tt 11))] []) (.ret)), [.tmp 4], 12⟩
/-- interleave/object.Fits -/
def s64 : SF := ⟨ .seq (.reg [oo 2 (.box 28 (tt 0)), oo 3 (.box 98 (tt 1)), oo 4 (.mv (.const (.bool false)))] [(0, 1)]) (.seq (.seq (.reg [oo 7 (.fad 0 (tt 3)), oo 8 (.load 1 false (tt 7)), oo 9 (.len (tt 8)), oo 10 (.fad 1 (tt 2)), oo 11 (.load 1 false (tt 10)), oo 12 (.len (tt 11)), oo 13 (.bin .neq (tt 9) (tt 12)), oo 14 (.mv (tt 13)), og 15 (.fad 2 (tt 3)) 14 false, og 16 (.load 1 false (tt 15)) 14 false, og 17 (.len (tt 16)) 14 false, og 18 (.fad 3 (tt 2)) 14 false, og 19 (.load 1 false (tt 18)) 14 false, og 20 (.len (tt 19)) 14 false, og 21 (.bin .neq (tt 17) (tt 20)) 14 false, oo 22 (.pick (tt 14) (.const (.bool true)) (tt 21)), oo 23 (.mv (tt 22)), og 24 (.fad 3 (tt 3)) 23 false, og 25 (.load 1 false (tt 24)) 23 false, og 26 (.len (tt 25)) 23 false, og 27 (.fad 4 (tt 2)) 23 false, og 28 (.load 1 false (tt 27)) 23 false, og 29 (.len (tt 28)) 23 false, og 30 (.bin .neq (tt 26) (tt 29)) 23 false, oo 31 (.pick (tt 23) (.const (.bool true)) (tt 30))] [(1, 4), (2, 4), (1, 5), (2, 5), (9, 12), (10, 12), (9, 13), (10, 13), (18, 21), (19, 21), (18, 22), (19, 22)]) (.cond 31 (.seq (.reg [oo 4 (.mv (.const (.bool false)))] []) (.ret)) (.skip))) (.seq (.seq (.reg [oo 32 (.fad 2 (tt 2)), oo 33 (.load 1 false (tt 32)), oo 34 (.len (tt 33)), oo 35 (.mv (kk 0))] []) (.block 0 (.loop (.seq (.reg [oo 36 (.bin .lss (tt 35) (tt 34))] []) (.seq (.cond 36 (.skip) (.exit 0)) (.seq (.block 1 (.seq (.reg [oo 37 (.iad 2 (tt 33) (tt 35)), oo 38 (.load 2 true (tt 37)), oo 6 (.alloc 62 [(.string ⟨#[]⟩), (.int .i64 0)]), ⟨none, (.op (.store 2 (tt 6) (tt 38))), none⟩] [(1, 2)]) (.seq (.reg [oo 39 (.fad 1 (tt 6)), oo 40 (.load 1 false (tt 39)), oo 41 (.fad 1 (tt 2)), oo 42 (.load 1 false (tt 41)), oo 43 (.len (tt 42)), ⟨(some 44), (.call 65 [(tt 40), (tt 43)]), none⟩, oo 45 (.not (tt 44))] [(1, 3), (1, 4)]) (.cond 45 (.seq (.reg [oo 4 (.mv (.const (.bool false)))] []) (.ret)) (.skip))))) (.reg [oo 46 (.bin .add (tt 35) (kk 1)), oo 35 (.mv (tt 46))] []))))))) (.seq (.reg [oo 4 (.mv (.const (.bool true)))] []) (.ret)))), [.tmp 4], 47⟩
/-- interleave/object.within -/
def s65 : SF := ⟨ .seq (.reg [oo 4 (.mv (.const (.bool false)))] []) (.seq (.reg [oo 5 (.mv (tt 0)), oo 6 (.bin .geq (tt 5) (kk 0)), oo 7 (.mv (tt 6)), og 8 (.mv (tt 0)) 7 true, og 9 (.mv (tt 1)) 7 true, og 10 (.bin .lss (tt 8) (tt 9)) 7 true, oo 11 (.pick (tt 7) (tt 10) (.const (.bool false))), oo 4 (.mv (tt 11))] []) (.ret)), [.tmp 4], 12⟩
/-- interleave/object.allowed -/
def s66 : SF := ⟨ .seq (.reg [oo 3 (.box 28 (tt 0)), oo 6 (.mv (.const (.bool false)))] []) (.seq (.seq (.reg [oo 7 (.mv (tt 1))] []) (.block 0 (.seq (.seq (.reg [oo 9 (.bin .eql (tt 7) (kk 1)), oo 8 (.mv (tt 9))] []) (.cond 8 (.skip) (.seq (.reg [oo 10 (.bin .eql (tt 7) (kk 2)), oo 8 (.mv (tt 10))] []) (.cond 8 (.skip) (.seq (.reg [oo 11 (.bin .eql (tt 7) (kk 5)), oo 8 (.mv (tt 11))] []) (.cond 8 (.skip) (.seq (.reg [oo 12 (.bin .eql (tt 7) (kk 12)), oo 8 (.mv (tt 12))] []) (.cond 8 (.skip) (.seq (.reg [oo 13 (.bin .eql (tt 7) (kk 13)), oo 8 (.mv (tt 13))] []) (.cond 8 (.skip) (.seq (.reg [oo 14 (.bin .eql (tt 7) (kk 14)), oo 8 (.mv (tt 14))] []) (.cond 8 (.skip) (.reg [oo 15 (.bin .eql (tt 7) (kk 15)), oo 8 (.mv (tt 15))] []))))))))))))) (.cond 8 (.seq (.reg [oo 16 (.mv (tt 2)), oo 17 (.bin .eql (tt 16) (kk (-1))), oo 6 (.mv (tt 17))] []) (.ret)) (.seq (.seq (.reg [oo 19 (.bin .eql (tt 7) (kk 3)), oo 18 (.mv (tt 19))] []) (.cond 18 (.skip) (.reg [oo 20 (.bin .eql (tt 7) (kk 4)), oo 18 (.mv (tt 20))] []))) (.cond 18 (.seq (.reg [oo 21 (.mv (tt 2)), oo 22 (.fad 0 (tt 3)), oo 23 (.load 1 false (tt 22)), oo 24 (.len (tt 23)), ⟨(some 25), (.call 65 [(tt 21), (tt 24)]), none⟩, oo 6 (.mv (tt 25))] []) (.ret)) (.seq (.seq (.reg [oo 27 (.bin .eql (tt 7) (kk 6)), oo 26 (.mv (tt 27))] []) (.cond 26 (.skip) (.reg [oo 28 (.bin .eql (tt 7) (kk 7)), oo 26 (.mv (tt 28))] []))) (.cond 26 (.seq (.reg [oo 29 (.mv (tt 2)), oo 30 (.fad 1 (tt 3)), oo 31 (.load 1 false (tt 30)), oo 32 (.len (tt 31)), ⟨(some 33), (.call 65 [(tt 29), (tt 32)]), none⟩, oo 34 (.mv (tt 33)), og 35 (.fad 1 (tt 3)) 34 true, og 36 (.load 1 false (tt 35)) 34 true, og 37 (.mv (tt 2)) 34 true, og 38 (.iad 2 (tt 36) (tt 37)) 34 true, og 39 (.fad 1 (tt 38)) 34 true, og 40 (.load 1 false (tt 39)) 34 true, og 41 (.not (tt 40)) 34 true, oo 42 (.pick (tt 34) (tt 41) (.const (.bool false))), oo 6 (.mv (tt 42))] []) (.ret)) (.seq (.seq (.reg [oo 44 (.bin .eql (tt 7) (kk 8)), oo 43 (.mv (tt 44))] []) (.cond 43 (.skip) (.seq (.reg [oo 45 (.bin .eql (tt 7) (kk 9)), oo 43 (.mv (tt 45))] []) (.cond 43 (.skip) (.seq (.reg [oo 46 (.bin .eql (tt 7) (kk 10)), oo 43 (.mv (tt 46))] []) (.cond 43 (.skip) (.reg [oo 47 (.bin .eql (tt 7) (kk 11)), oo 43 (.mv (tt 47))] []))))))) (.cond 43 (.seq (.reg [oo 48 (.mv (tt 2)), oo 49 (.fad 1 (tt 3)), oo 50 (.load 1 false (tt 49)), oo 51 (.len (tt 50)), ⟨(some 52), (.call 65 [(tt 48), (tt 51)]), none⟩, oo 53 (.mv (tt 52)), og 54 (.fad 1 (tt 3)) 53 true, og 55 (.load 1 false (tt 54)) 53 true, og 56 (.mv (tt 2)) 53 true, og 57 (.iad 2 (tt 55) (tt 56)) 53 true, og 58 (.fad 1 (tt 57)) 53 true, og 59 (.load 1 false (tt 58)) 53 true, oo 60 (.pick (tt 53) (tt 59) (.const (.bool false))), oo 6 (.mv (tt 60))] []) (.ret)) (.seq (.seq (.reg [oo 62 (.bin .eql (tt 7) (kk 16)), oo 61 (.mv (tt 62))] []) (.cond 61 (.skip) (.seq (.reg [oo 63 (.bin .eql (tt 7) (kk 17)), oo 61 (.mv (tt 63))] []) (.cond 61 (.skip) (.seq (.reg [oo 64 (.bin .eql (tt 7) (kk 18)), oo 61 (.mv (tt 64))] []) (.cond 61 (.skip) (.reg [oo 65 (.bin .eql (tt 7) (kk 19)), oo 61 (.mv (tt 65))] []))))))) (.cond 61 (.seq (.reg [oo 66 (.mv (tt 2)), oo 67 (.fad 2 (tt 3)), oo 68 (.load 1 false (tt 67)), oo 69 (.len (tt 68)), ⟨(some 70), (.call 65 [(tt 66), (tt 69)]), none⟩, oo 6 (.mv (tt 70))] []) (.ret)) (.seq (.seq (.reg [oo 72 (.bin .eql (tt 7) (kk 20)), oo 71 (.mv (tt 72))] []) (.cond 71 (.skip) (.reg [oo 73 (.bin .eql (tt 7) (kk 21)), oo 71 (.mv (tt 73))] []))) (.cond 71 (.seq (.reg [oo 74 (.mv (tt 2)), oo 75 (.fad 4 (tt 3)), oo 76 (.load 1 false (tt 75)), oo 77 (.len (tt 76)), ⟨(some 78), (.call 65 [(tt 74), (tt 77)]), none⟩, oo 6 (.mv (tt 78))] []) (.ret)) (.seq (.seq (.reg [oo 80 (.bin .eql (tt 7) (kk 22)), oo 79 (.mv (tt 80))] []) (.cond 79 (.skip) (.reg [oo 81 (.bin .eql (tt 7) (kk 23)), oo 79 (.mv (tt 81))] []))) (.cond 79 (.seq (.reg [oo 82 (.mv (tt 2)), oo 83 (.fad 3 (tt 3)), oo 84 (.load 1 false (tt 83)), oo 85 (.len (tt 84)), ⟨(some 86), (.call 65 [(tt 82), (tt 85)]), none⟩, oo 6 (.mv (tt 86))] []) (.ret)) (.skip))))))))))))))))) (.seq (.reg [oo 6 (.mv (.const (.bool false)))] []) (.ret))), [.tmp 6], 87⟩
/-- interleave/object.ready -/
def s67 : SF := ⟨ .seq (.reg [oo 5 (.box 28 (tt 0)), oo 6 (.box 98 (tt 1)), oo 10 (.mv (.const (.bool false)))] [(0, 1)]) (.seq (.seq (.reg [oo 11 (.mv (tt 3))] []) (.block 0 (.seq (.reg [oo 13 (.bin .eql (tt 11) (kk 6)), oo 12 (.mv (tt 13))] []) (.cond 12 (.seq (.reg [oo 14 (.fad 0 (tt 6)), oo 15 (.load 1 false (tt 14)), oo 16 (.mv (tt 4)), oo 17 (.iad 2 (tt 15) (tt 16)), oo 18 (.fad 0 (tt 17)), oo 19 (.load 1 false (tt 18)), oo 20 (.bin .eql (tt 19) (kk (-1))), oo 10 (.mv (tt 20))] []) (.ret)) (.seq (.reg [oo 22 (.bin .eql (tt 11) (kk 10)), oo 21 (.mv (tt 22))] []) (.cond 21 (.seq (.reg [oo 23 (.fad 0 (tt 6)), oo 24 (.load 1 false (tt 23)), oo 25 (.mv (tt 4)), oo 26 (.iad 2 (tt 24) (tt 25)), oo 27 (.fad 0 (tt 26)), oo 28 (.load 1 false (tt 27)), oo 29 (.bin .eql (tt 28) (kk (-1))), oo 30 (.mv (tt 29)), og 31 (.fad 0 (tt 6)) 30 true, og 32 (.load 1 false (tt 31)) 30 true, og 33 (.mv (tt 4)) 30 true, og 34 (.iad 2 (tt 32) (tt 33)) 30 true, og 35 (.fad 1 (tt 34)) 30 true, og 36 (.load 1 false (tt 35)) 30 true, og 37 (.len (tt 36)) 30 true, og 38 (.bin .eql (tt 37) (kk 0)) 30 true, oo 39 (.pick (tt 30) (tt 38) (.const (.bool false))), oo 10 (.mv (tt 39))] []) (.ret)) (.seq (.reg [oo 41 (.bin .eql (tt 11) (kk 8)), oo 40 (.mv (tt 41))] []) (.cond 40 (.seq (.reg [oo 42 (.fad 0 (tt 6)), oo 43 (.load 1 false (tt 42)), oo 44 (.mv (tt 4)), oo 45 (.iad 2 (tt 43) (tt 44)), oo 46 (.fad 0 (tt 45)), oo 47 (.load 1 false (tt 46)), oo 48 (.bin .eql (tt 47) (kk (-1))), oo 49 (.mv (tt 48)), og 50 (.fad 0 (tt 6)) 49 true, og 51 (.load 1 false (tt 50)) 49 true, og 52 (.mv (tt 4)) 49 true, og 53 (.iad 2 (tt 51) (tt 52)) 49 true, og 54 (.fad 1 (tt 53)) 49 true, og 55 (.load 1 false (tt 54)) 49 true, og 56 (.mv (tt 2)) 49 true, ⟨(some 57), (.call 76 [(tt 55), (tt 56)]), (some (49, true))⟩, og 58 (.not (tt 57)) 49 true, oo 59 (.pick (tt 49) (tt 58) (.const (.bool false))), oo 10 (.mv (tt 59))] []) (.ret)) (.seq (.seq (.reg [oo 61 (.bin .eql (tt 11) (kk 7)), oo 60 (.mv (tt 61))] []) (.cond 60 (.skip) (.reg [oo 62 (.bin .eql (tt 11) (kk 11)), oo 60 (.mv (tt 62))] []))) (.cond 60 (.seq (.reg [oo 63 (.fad 0 (tt 6)), oo 64 (.load 1 false (tt 63)), oo 65 (.mv (tt 4)), oo 66 (.iad 2 (tt 64) (tt 65)), oo 67 (.fad 0 (tt 66)), oo 68 (.load 1 false (tt 67)), oo 69 (.mv (tt 2)), oo 70 (.bin .eql (tt 68) (tt 69)), oo 10 (.mv (tt 70))] []) (.ret)) (.seq (.reg [oo 72 (.bin .eql (tt 11) (kk 9)), oo 71 (.mv (tt 72))] []) (.cond 71 (.seq (.reg [oo 73 (.fad 0 (tt 6)), oo 74 (.load 1 false (tt 73)), oo 75 (.mv (tt 4)), oo 76 (.iad 2 (tt 74) (tt 75)), oo 77 (.fad 1 (tt 76)), oo 78 (.load 1 false (tt 77)), oo 79 (.mv (tt 2)), ⟨(some 80), (.call 76 [(tt 78), (tt 79)]), none⟩, oo 10 (.mv (tt 80))] []) (.ret)) (.seq (.reg [oo 82 (.bin .eql (tt 11) (kk 12)), oo 81 (.mv (tt 82))] []) (.cond 81 (.seq (.reg [oo 83 (.fad 1 (tt 6)), oo 84 (.load 1 false (tt 83)), oo 85 (.bin .eql (tt 84) (kk (-1))), oo 10 (.mv (tt 85))] []) (.ret)) (.seq (.reg [oo 87 (.bin .eql (tt 11) (kk 13)), oo 86 (.mv (tt 87))] []) (.cond 86 (.seq (.reg [oo 88 (.fad 1 (tt 6)), oo 89 (.load 1 false (tt 88)), oo 90 (.mv (tt 2)), oo 91 (.bin .eql (tt 89) (tt 90)), oo 10 (.mv (tt 91))] []) (.ret)) (.seq (.reg [oo 93 (.bin .eql (tt 11) (kk 14)), oo 92 (.mv (tt 93))] []) (.cond 92 (.seq (.reg [oo 94 (.fad 3 (tt 6)), oo 95 (.load 1 false (tt 94)), oo 96 (.mv (tt 2)), oo 97 (.iad 3 (tt 95) (tt 96)), oo 98 (.fad 2 (tt 97)), oo 99 (.load 1 false (tt 98)), oo 100 (.not (tt 99)), oo 10 (.mv (tt 100))] []) (.ret)) (.seq (.reg [oo 102 (.bin .eql (tt 11) (kk 15)), oo 101 (.mv (tt 102))] []) (.cond 101 (.seq (.reg [oo 103 (.fad 3 (tt 6)), oo 104 (.load 1 false (tt 103)), oo 105 (.mv (tt 2)), oo 106 (.iad 3 (tt 104) (tt 105)), oo 107 (.fad 2 (tt 106)), oo 108 (.load 1 false (tt 107)), oo 10 (.mv (tt 108))] []) (.ret)) (.seq (.seq (.reg [oo 110 (.bin .eql (tt 11) (kk 16)), oo 109 (.mv (tt 110))] []) (.cond 109 (.skip) (.seq (.reg [oo 111 (.bin .eql (tt 11) (kk 18)), oo 109 (.mv (tt 111))] []) (.cond 109 (.skip) (.reg [oo 112 (.bin .eql (tt 11) (kk 19)), oo 109 (.mv (tt 112))] []))))) (.cond 109 (.seq (.reg [oo 113 (.fad 0 (tt 6)), oo 114 (.load 1 false (tt 113)), oo 115 (.fad 2 (tt 5)), oo 116 (.load 1 false (tt 115)), oo 117 (.mv (tt 4)), oo 118 (.iad 2 (tt 116) (tt 117)), oo 119 (.fad 1 (tt 118)), oo 120 (.load 1 false (tt 119)), oo 121 (.iad 2 (tt 114) (tt 120)), oo 122 (.fad 0 (tt 121)), oo 123 (.load 1 false (tt 122)), oo 124 (.mv (tt 2)), oo 125 (.bin .eql (tt 123) (tt 124)), oo 10 (.mv (tt 125))] [(1, 3), (1, 7)]) (.ret)) (.seq (.reg [oo 127 (.bin .eql (tt 11) (kk 20)), oo 126 (.mv (tt 127))] []) (.cond 126 (.seq (.reg [oo 128 (.mv (tt 4)), oo 129 (.mv (tt 2)), oo 130 (.bin .neq (tt 128) (tt 129)), oo 131 (.mv (tt 130)), og 132 (.fad 3 (tt 6)) 131 true, og 133 (.load 1 false (tt 132)) 131 true, og 134 (.mv (tt 4)) 131 true, og 135 (.iad 3 (tt 133) (tt 134)) 131 true, og 136 (.fad 0 (tt 135)) 131 true, og 137 (.load 1 false (tt 136)) 131 true, og 138 (.bin .eql (tt 137) (kk 0)) 131 true, oo 139 (.pick (tt 131) (tt 138) (.const (.bool false))), oo 10 (.mv (tt 139))] []) (.ret)) (.seq (.reg [oo 141 (.bin .eql (tt 11) (kk 21)), oo 140 (.mv (tt 141))] []) (.cond 140 (.seq (.reg [oo 142 (.mv (tt 4)), oo 143 (.mv (tt 2)), oo 144 (.bin .neq (tt 142) (tt 143)), oo 145 (.mv (tt 144)), og 146 (.fad 3 (tt 6)) 145 true, og 147 (.load 1 false (tt 146)) 145 true, og 148 (.mv (tt 4)) 145 true, og 149 (.iad 3 (tt 147) (tt 148)) 145 true, og 150 (.fad 0 (tt 149)) 145 true, og 151 (.load 1 false (tt 150)) 145 true, og 152 (.bin .eql (tt 151) (kk 5)) 145 true, oo 153 (.pick (tt 145) (tt 152) (.const (.bool false))), oo 10 (.mv (tt 153))] []) (.ret)) (.seq (.reg [oo 155 (.bin .eql (tt 11) (kk 22)), oo 154 (.mv (tt 155))] []) (.cond 154 (.seq (.reg [oo 156 (.fad 2 (tt 6)), oo 157 (.load 1 false (tt 156)), oo 158 (.mv (tt 4)), oo 159 (.iad 1 (tt 157) (tt 158)), oo 160 (.load 1 false (tt 159)), oo 161 (.not (tt 160)), oo 10 (.mv (tt 161))] []) (.ret)) (.seq (.reg [oo 163 (.bin .eql (tt 11) (kk 23)), oo 162 (.mv (tt 163))] []) (.cond 162 (.seq (.reg [oo 164 (.fad 2 (tt 6)), oo 165 (.load 1 false (tt 164)), oo 166 (.mv (tt 4)), oo 167 (.iad 1 (tt 165) (tt 166)), oo 168 (.load 1 false (tt 167)), oo 10 (.mv (tt 168))] []) (.ret)) (.skip))))))))))))))))))))))))))))))) (.seq (.reg [oo 10 (.mv (.const (.bool true)))] []) (.ret))), [.tmp 10], 169⟩
/-- interleave/object.clone -/
def s68 : SF := ⟨ .seq (.reg [oo 1 (.box 98 (tt 0)), oo 2 (.alloc 98 [(.slice none 0 0), (.int .i64 0), (.slice none 0 0), (.slice none 0 0)])] [(0, 1)]) (.seq (.reg [oo 6 (.fad 0 (tt 1)), oo 7 (.load 1 false (tt 6)), oo 8 (.len (tt 7)), oo 9 (.mksl 125 2 32 [(.int .i64 0), (.slice none 0 0)] (tt 8) (tt 8)), oo 3 (.mv (tt 9))] []) (.seq (.seq (.reg [oo 10 (.fad 0 (tt 1)), oo 11 (.load 1 false (tt 10)), oo 12 (.len (tt 11)), oo 13 (.mv (kk 0))] []) (.block 0 (.loop (.seq (.reg [oo 14 (.bin .lss (tt 13) (tt 12))] []) (.seq (.cond 14 (.skip) (.exit 0)) (.seq (.block 1 (.seq (.reg [oo 15 (.mv (tt 13)), oo 16 (.iad 2 (tt 11) (tt 13)), oo 17 (.load 2 true (tt 16)), oo 5 (.alloc 125 [(.int .i64 0), (.slice none 0 0)]), oo 4 (.mv (tt 15)), ⟨none, (.op (.store 2 (tt 5) (tt 17))), none⟩] [(2, 3)]) (.reg [oo 18 (.mv (tt 3)), oo 19 (.mv (tt 4)), oo 20 (.fad 0 (tt 5)), oo 21 (.load 1 false (tt 20)), oo 22 (.fad 1 (tt 5)), oo 23 (.load 1 false (tt 22)), ⟨(some 24), (.call 36 [(tt 23)]), none⟩, oo 25 (.build [(.int .i64 0), (.slice none 0 0)] [(0, 1, (tt 21)), (1, 1, (tt 24))]), oo 26 (.iad 2 (tt 18) (tt 19)), ⟨none, (.op (.store 2 (tt 26) (tt 25))), none⟩] [(3, 5), (3, 6)]))) (.reg [oo 27 (.bin .add (tt 13) (kk 1)), oo 13 (.mv (tt 27))] []))))))) (.seq (.reg [oo 28 (.mv (tt 3)), oo 29 (.fad 0 (tt 1)), ⟨none, (.op (.store 1 (tt 29) (tt 28))), none⟩] []) (.seq (.reg [oo 30 (.fad 2 (tt 1)), oo 31 (.load 1 false (tt 30)), ⟨(some 32), (.call 77 [(tt 31)]), none⟩, oo 33 (.fad 2 (tt 1)), ⟨none, (.op (.store 1 (tt 33) (tt 32))), none⟩] []) (.seq (.reg [oo 34 (.fad 3 (tt 1)), oo 35 (.load 1 false (tt 34)), ⟨(some 36), (.call 78 [(tt 35)]), none⟩, oo 37 (.fad 3 (tt 1)), ⟨none, (.op (.store 1 (tt 37) (tt 36))), none⟩] []) (.seq (.reg [oo 38 (.load 4 true (tt 1)), ⟨none, (.op (.store 4 (tt 2) (tt 38))), none⟩] []) (.ret))))))), [.cell 2 4 true], 39⟩
/-- interleave/object.Apply$1 -/
def s72 : SF := ⟨ .seq (.reg [oo 3 (.mv (.const (.bool false)))] []) (.seq (.reg [oo 4 (.mv (tt 0)), oo 5 (.load 1 false (tt 1)), oo 6 (.bin .eql (tt 4) (tt 5)), oo 3 (.mv (tt 6))] []) (.ret)), [.tmp 3], 7⟩
/-- interleave/object.notify -/
def s73 : SF := ⟨ .seq (.reg [oo 3 (.box 98 (tt 0)), oo 6 (.mv (kk 0))] []) (.seq (.reg [oo 7 (.mv (kk (-1)))] []) (.seq (.seq (.reg [oo 10 (.fad 3 (tt 3)), oo 11 (.load 1 false (tt 10)), oo 12 (.len (tt 11)), oo 13 (.mv (kk 0))] []) (.block 0 (.loop (.seq (.reg [oo 14 (.bin .lss (tt 13) (tt 12))] []) (.seq (.cond 14 (.skip) (.exit 0)) (.seq (.block 1 (.seq (.reg [oo 15 (.mv (tt 13)), oo 16 (.iad 3 (tt 11) (tt 13)), oo 17 (.load 3 true (tt 16)), oo 9 (.alloc 127 [(.int .i64 0), (.int .i64 0), (.bool false)]), oo 8 (.mv (tt 15)), ⟨none, (.op (.store 3 (tt 9) (tt 17))), none⟩] [(2, 3)]) (.seq (.reg [oo 18 (.load 3 true (tt 9)), oo 19 (.mv (tt 1)), ⟨(some 20), (.call 82 [(tt 18), (tt 19)]), none⟩, oo 21 (.mv (tt 20)), og 22 (.mv (tt 7)) 21 true, og 23 (.bin .lss (tt 22) (kk 0)) 21 true, og 24 (.mv (tt 23)) 21 true, og 25 (.mv (tt 8)) 24 false, og 26 (.mv (tt 2)) 24 false, og 27 (.bin .eql (tt 25) (tt 26)) 24 false, og 28 (.pick (tt 24) (.const (.bool true)) (tt 27)) 21 true, oo 29 (.pick (tt 21) (tt 28) (.const (.bool false)))] []) (.cond 29 (.reg [oo 30 (.mv (tt 8)), oo 7 (.mv (tt 30))] []) (.skip))))) (.reg [oo 31 (.bin .add (tt 13) (kk 1)), oo 13 (.mv (tt 31))] []))))))) (.seq (.seq (.reg [oo 32 (.mv (tt 7)), oo 33 (.bin .geq (tt 32) (kk 0))] []) (.cond 33 (.reg [oo 34 (.fad 3 (tt 3)), oo 35 (.load 1 false (tt 34)), oo 36 (.mv (tt 7)), oo 37 (.iad 3 (tt 35) (tt 36)), oo 38 (.fad 0 (tt 37)), ⟨none, (.op (.store 1 (tt 38) (kk 4))), none⟩] []) (.skip))) (.seq (.reg [oo 39 (.mv (tt 7)), oo 6 (.mv (tt 39))] []) (.ret))))), [.tmp 6], 40⟩
/-- interleave/object.notifyAll -/
def s74 : SF := ⟨ .seq (.reg [oo 2 (.box 98 (tt 0)), oo 4 (.mv (kk 0))] []) (.seq (.reg [oo 5 (.mv (kk 0))] []) (.seq (.seq (.reg [oo 8 (.fad 3 (tt 2)), oo 9 (.load 1 false (tt 8)), oo 10 (.len (tt 9)), oo 11 (.mv (kk 0))] []) (.block 0 (.loop (.seq (.reg [oo 12 (.bin .lss (tt 11) (tt 10))] []) (.seq (.cond 12 (.skip) (.exit 0)) (.seq (.block 1 (.seq (.reg [oo 13 (.mv (tt 11)), oo 14 (.iad 3 (tt 9) (tt 11)), oo 15 (.load 3 true (tt 14)), oo 7 (.alloc 127 [(.int .i64 0), (.int .i64 0), (.bool false)]), oo 6 (.mv (tt 13)), ⟨none, (.op (.store 3 (tt 7) (tt 15))), none⟩] [(2, 3)]) (.seq (.reg [oo 16 (.load 3 true (tt 7)), oo 17 (.mv (tt 1)), ⟨(some 18), (.call 82 [(tt 16), (tt 17)]), none⟩] []) (.cond 18 (.seq (.reg [oo 19 (.fad 3 (tt 2)), oo 20 (.load 1 false (tt 19)), oo 21 (.mv (tt 6)), oo 22 (.iad 3 (tt 20) (tt 21)), oo 23 (.fad 0 (tt 22)), ⟨none, (.op (.store 1 (tt 23) (kk 4))), none⟩] []) (.reg [oo 24 (.mv (tt 5)), oo 25 (.bin .add (tt 24) (kk 1)), oo 5 (.mv (tt 25))] [])) (.skip))))) (.reg [oo 26 (.bin .add (tt 11) (kk 1)), oo 11 (.mv (tt 26))] []))))))) (.seq (.reg [oo 27 (.mv (tt 5)), oo 4 (.mv (tt 27))] []) (.ret)))), [.tmp 4], 28⟩
/-- interleave/token.IsKeyword -/
def s75 : SF := ⟨ .seq (.reg [oo 2 (.mv (.const (.bool false)))] []) (.seq (.seq (.reg [oo 5 (.load 22 true (.global 0)), oo 6 (.mv (kk 0))] []) (.block 0 (.loop (.seq (.reg [oo 7 (.bin .lss (tt 6) (kk 22))] []) (.seq (.cond 7 (.skip) (.exit 0)) (.seq (.block 1 (.seq (.reg [oo 8 (.idx 22 1 false (tt 5) (tt 6)), oo 4 (.mv (tt 8))] []) (.seq (.reg [oo 9 (.mv (tt 0)), oo 10 (.mv (tt 4)), oo 11 (.bin .eql (tt 9) (tt 10))] []) (.cond 11 (.seq (.reg [oo 2 (.mv (.const (.bool true)))] []) (.ret)) (.skip))))) (.reg [oo 12 (.bin .add (tt 6) (kk 1)), oo 6 (.mv (tt 12))] []))))))) (.seq (.reg [oo 2 (.mv (.const (.bool false)))] []) (.ret))), [.tmp 2], 13⟩
/-- slices.Contains[[]int,int] -/
def s76 : SF := ⟨ .seq (.reg [oo 4 (.mv (.const (.bool false)))] []) (.seq (.reg [oo 5 (.mv (tt 0)), oo 6 (.mv (tt 1)), ⟨(some 7), (.call 83 [(tt 5), (tt 6)]), none⟩, oo 8 (.bin .geq (tt 7) (kk 0)), oo 4 (.mv (tt 8))] []) (.ret)), [.tmp 4], 9⟩
/-- slices.Clone[[]bool,bool] -/
def s77 : SF := ⟨ .seq (.reg [oo 2 (.mv (.const (.slice none 0 0)))] []) (.seq (.seq (.reg [oo 3 (.mv (tt 0)), oo 4 (.isnil false (tt 3))] []) (.cond 4 (.seq (.reg [oo 2 (.mv (.const (.slice none 0 0)))] []) (.ret)) (.skip))) (.seq (.reg [oo 5 (.bsl 4 1 0 [(.bool false)] []), oo 6 (.mv (tt 0)), oo 7 (.app 4 1 1 (tt 5) (tt 6)), oo 2 (.mv (tt 7))] []) (.ret))), [.tmp 2], 8⟩
/-- slices.Clone[[]interleave/api.ThreadSync,interleave/api.ThreadSync] -/
def s78 : SF := ⟨ .seq (.reg [oo 2 (.mv (.const (.slice none 0 0)))] []) (.seq (.seq (.reg [oo 3 (.mv (tt 0)), oo 4 (.isnil false (tt 3))] []) (.cond 4 (.seq (.reg [oo 2 (.mv (.const (.slice none 0 0)))] []) (.ret)) (.skip))) (.seq (.reg [oo 5 (.bsl 127 3 0 [(.int .i64 0), (.int .i64 0), (.bool false)] []), oo 6 (.mv (tt 0)), oo 7 (.app 127 3 24 (tt 5) (tt 6)), oo 2 (.mv (tt 7))] []) (.ret))), [.tmp 2], 8⟩
/-- interleave/object.waits -/
def s82 : SF := ⟨ .seq (.reg [oo 2 (.box 127 (tt 0)), oo 4 (.mv (.const (.bool false)))] []) (.seq (.reg [oo 5 (.fad 0 (tt 2)), oo 6 (.load 1 false (tt 5)), oo 7 (.bin .eql (tt 6) (kk 3)), oo 8 (.mv (tt 7)), og 9 (.fad 1 (tt 2)) 8 true, og 10 (.load 1 false (tt 9)) 8 true, og 11 (.mv (tt 1)) 8 true, og 12 (.bin .eql (tt 10) (tt 11)) 8 true, oo 13 (.pick (tt 8) (tt 12) (.const (.bool false))), oo 4 (.mv (tt 13))] []) (.ret)), [.tmp 4], 14⟩
/-- slices.Index[[]int,int] -/
def s83 : SF := ⟨ .seq (.reg [oo 4 (.mv (kk 0))] []) (.seq (.seq (.reg [oo 6 (.mv (tt 0)), oo 7 (.len (tt 6)), oo 8 (.mv (kk 0))] []) (.block 0 (.loop (.seq (.reg [oo 9 (.bin .lss (tt 8) (tt 7))] []) (.seq (.cond 9 (.skip) (.exit 0)) (.seq (.block 1 (.seq (.reg [oo 10 (.mv (tt 8)), oo 5 (.mv (tt 10))] []) (.seq (.reg [oo 11 (.mv (tt 1)), oo 12 (.mv (tt 0)), oo 13 (.mv (tt 5)), oo 14 (.iad 1 (tt 12) (tt 13)), oo 15 (.load 1 false (tt 14)), oo 16 (.bin .eql (tt 11) (tt 15))] []) (.cond 16 (.seq (.reg [oo 17 (.mv (tt 5)), oo 4 (.mv (tt 17))] []) (.ret)) (.skip))))) (.reg [oo 18 (.bin .add (tt 8) (kk 1)), oo 8 (.mv (tt 18))] []))))))) (.seq (.reg [oo 4 (.mv (kk (-1)))] []) (.ret))), [.tmp 4], 19⟩
end Go.Proofs.YtjjplipoacljoaaDoor.AI
namespace Go.Proofs.YtjjplipoacljoaaDoor.AI
def slims : List (Nat × SF) := [(6, s6), (8, s8), (9, s9), (10, s10), (15, s15), (16, s16), (18, s18), (19, s19), (20, s20), (21, s21), (22, s22), (23, s23), (31, s31), (32, s32), (33, s33), (34, s34), (35, s35), (36, s36), (37, s37), (38, s38), (39, s39), (44, s44), (45, s45), (46, s46), (47, s47), (48, s48), (49, s49), (50, s50), (51, s51), (52, s52), (53, s53), (54, s54), (55, s55), (56, s56), (57, s57), (58, s58), (59, s59), (60, s60), (61, s61), (62, s62), (63, s63), (64, s64), (65, s65), (66, s66), (67, s67), (68, s68), (72, s72), (73, s73), (74, s74), (75, s75), (76, s76), (77, s77), (78, s78), (82, s82), (83, s83)]
def slimAt (f : Nat) : List (Nat × SF) → Option SF
  | [] => none
  | (k, s) :: r => if Nat.beq k f then some s else slimAt f r
def tbl (f : FuncId) : Option SF := slimAt f slims
end Go.Proofs.YtjjplipoacljoaaDoor.AI
namespace Go.Proofs.YtjjplipoacljoaaDoor.AI
set_option maxRecDepth 100000
theorem t6 : compF Go.Proofs.Tryd.prog 6 = some s6 := by kernel_rfl
theorem t8 : compF Go.Proofs.Tryd.prog 8 = some s8 := by kernel_rfl
theorem t9 : compF Go.Proofs.Tryd.prog 9 = some s9 := by kernel_rfl
theorem t10 : compF Go.Proofs.Tryd.prog 10 = some s10 := by kernel_rfl
theorem t15 : compF Go.Proofs.Tryd.prog 15 = some s15 := by kernel_rfl
theorem t16 : compF Go.Proofs.Tryd.prog 16 = some s16 := by kernel_rfl
theorem t18 : compF Go.Proofs.Tryd.prog 18 = some s18 := by kernel_rfl
theorem t19 : compF Go.Proofs.Tryd.prog 19 = some s19 := by kernel_rfl
theorem t20 : compF Go.Proofs.Tryd.prog 20 = some s20 := by kernel_rfl
theorem t21 : compF Go.Proofs.Tryd.prog 21 = some s21 := by kernel_rfl
theorem t22 : compF Go.Proofs.Tryd.prog 22 = some s22 := by kernel_rfl
theorem t23 : compF Go.Proofs.Tryd.prog 23 = some s23 := by kernel_rfl
theorem t31 : compF Go.Proofs.Tryd.prog 31 = some s31 := by kernel_rfl
theorem t32 : compF Go.Proofs.Tryd.prog 32 = some s32 := by kernel_rfl
theorem t33 : compF Go.Proofs.Tryd.prog 33 = some s33 := by kernel_rfl
theorem t34 : compF Go.Proofs.Tryd.prog 34 = some s34 := by kernel_rfl
theorem t35 : compF Go.Proofs.Tryd.prog 35 = some s35 := by kernel_rfl
theorem t36 : compF Go.Proofs.Tryd.prog 36 = some s36 := by kernel_rfl
theorem t37 : compF Go.Proofs.Tryd.prog 37 = some s37 := by kernel_rfl
theorem t38 : compF Go.Proofs.Tryd.prog 38 = some s38 := by kernel_rfl
theorem t39 : compF Go.Proofs.Tryd.prog 39 = some s39 := by kernel_rfl
theorem t44 : compF Go.Proofs.Tryd.prog 44 = some s44 := by kernel_rfl
theorem t45 : compF Go.Proofs.Tryd.prog 45 = some s45 := by kernel_rfl
theorem t46 : compF Go.Proofs.Tryd.prog 46 = some s46 := by kernel_rfl
theorem t47 : compF Go.Proofs.Tryd.prog 47 = some s47 := by kernel_rfl
theorem t48 : compF Go.Proofs.Tryd.prog 48 = some s48 := by kernel_rfl
theorem t49 : compF Go.Proofs.Tryd.prog 49 = some s49 := by kernel_rfl
theorem t50 : compF Go.Proofs.Tryd.prog 50 = some s50 := by kernel_rfl
theorem t51 : compF Go.Proofs.Tryd.prog 51 = some s51 := by kernel_rfl
theorem t52 : compF Go.Proofs.Tryd.prog 52 = some s52 := by kernel_rfl
theorem t53 : compF Go.Proofs.Tryd.prog 53 = some s53 := by kernel_rfl
theorem t54 : compF Go.Proofs.Tryd.prog 54 = some s54 := by kernel_rfl
theorem t55 : compF Go.Proofs.Tryd.prog 55 = some s55 := by kernel_rfl
theorem t56 : compF Go.Proofs.Tryd.prog 56 = some s56 := by kernel_rfl
theorem t57 : compF Go.Proofs.Tryd.prog 57 = some s57 := by kernel_rfl
theorem t58 : compF Go.Proofs.Tryd.prog 58 = some s58 := by kernel_rfl
theorem t59 : compF Go.Proofs.Tryd.prog 59 = some s59 := by kernel_rfl
theorem t60 : compF Go.Proofs.Tryd.prog 60 = some s60 := by kernel_rfl
theorem t61 : compF Go.Proofs.Tryd.prog 61 = some s61 := by kernel_rfl
theorem t62 : compF Go.Proofs.Tryd.prog 62 = some s62 := by kernel_rfl
theorem t63 : compF Go.Proofs.Tryd.prog 63 = some s63 := by kernel_rfl
theorem t64 : compF Go.Proofs.Tryd.prog 64 = some s64 := by kernel_rfl
theorem t65 : compF Go.Proofs.Tryd.prog 65 = some s65 := by kernel_rfl
theorem t66 : compF Go.Proofs.Tryd.prog 66 = some s66 := by kernel_rfl
theorem t67 : compF Go.Proofs.Tryd.prog 67 = some s67 := by kernel_rfl
theorem t68 : compF Go.Proofs.Tryd.prog 68 = some s68 := by kernel_rfl
theorem t72 : compF Go.Proofs.Tryd.prog 72 = some s72 := by kernel_rfl
theorem t73 : compF Go.Proofs.Tryd.prog 73 = some s73 := by kernel_rfl
theorem t74 : compF Go.Proofs.Tryd.prog 74 = some s74 := by kernel_rfl
theorem t75 : compF Go.Proofs.Tryd.prog 75 = some s75 := by kernel_rfl
theorem t76 : compF Go.Proofs.Tryd.prog 76 = some s76 := by kernel_rfl
theorem t77 : compF Go.Proofs.Tryd.prog 77 = some s77 := by kernel_rfl
theorem t78 : compF Go.Proofs.Tryd.prog 78 = some s78 := by kernel_rfl
theorem t82 : compF Go.Proofs.Tryd.prog 82 = some s82 := by kernel_rfl
theorem t83 : compF Go.Proofs.Tryd.prog 83 = some s83 := by kernel_rfl
end Go.Proofs.YtjjplipoacljoaaDoor.AI
namespace Go.Proofs.YtjjplipoacljoaaDoor.AI
set_option maxRecDepth 100000
def AllC (P : Program) : List (Nat × SF) → Prop
  | [] => True
  | p :: r => compF P p.1 = some p.2 ∧ AllC P r
theorem slimAt_ok {P : Program} : ∀ {l : List (Nat × SF)}, AllC P l → ∀ f sf, slimAt f l = some sf → compF P f = some sf
  | [], _, f, sf, h => by simp [slimAt] at h
  | (k, s) :: r, ha, f, sf, h => by
    simp only [slimAt] at h
    split at h
    · rename_i hk
      have hk := Nat.eq_of_beq_eq_true hk
      subst hk
      simp only [Option.some.injEq] at h; subst h; exact ha.1
    · exact slimAt_ok ha.2 f sf h
theorem slims_ok : AllC Go.Proofs.Tryd.prog slims := ⟨t6, t8, t9, t10, t15, t16, t18, t19, t20, t21, t22, t23, t31, t32, t33, t34, t35, t36, t37, t38, t39, t44, t45, t46, t47, t48, t49, t50, t51, t52, t53, t54, t55, t56, t57, t58, t59, t60, t61, t62, t63, t64, t65, t66, t67, t68, t72, t73, t74, t75, t76, t77, t78, t82, t83, trivial⟩
theorem tblOK : TblOK Go.Proofs.Tryd.prog tbl := fun f sf h => compF_ok (slimAt_ok slims_ok f sf h)
end Go.Proofs.YtjjplipoacljoaaDoor.AI
namespace Go.Proofs.YtjjplipoacljoaaDoor.AI
open Go.RowKit

def inert (f : FuncId) : Bool := Nat.beq f 17

theorem inert_iface : ∃ ms, Tryd.prog.underlying 20 = some (.interface ms) := ⟨#[], by kernel_rfl⟩
theorem inert_eq (w : World) : (Op.equal 20 .nilIface .nilIface).run Tryd.prog w = .ok true w := by
  obtain ⟨ms, hu⟩ := inert_iface
  have key : ∀ d, (Op.equalIn (d + 1) 20 .nilIface .nilIface).run Tryd.prog w = .ok true w := fun d => by simp [Op.equalIn, run_underlying hu]
  exact key 9999

theorem opsS_rec {P : Program} {ops : Array Oper} {Q : Exit → Act → List Frame → World → Prop} {i : Nat} {rest : List Nat} {a : Act} {cs : List Frame} {w w' : World} {o : Oper} (ho : ops[i]? = some o) (hw : o.guard = none) (hr : (execOp a.eval o).run P w = .ok .recover w') (hn : recoverD cs = none) (h : wpOpsS P ops Q rest (a.put o.dst .nilIface) cs w') : wpOpsS P ops Q (i :: rest) a cs w := by
  have hw : Region.wanted o (yielded ops a.tmps) = true := by unfold Region.wanted; rw [hw]
  simp only [wpOpsS, ho, hw, if_true, hr, hn]; exact h
theorem opsS_val {P : Program} {ops : Array Oper} {Q : Exit → Act → List Frame → World → Prop} {i : Nat} {rest : List Nat} {a : Act} {cs : List Frame} {w w' : World} {o : Oper} {v : Value} (ho : ops[i]? = some o) (hw : o.guard = none) (hr : (execOp a.eval o).run P w = .ok (.value v) w') (h : wpOpsS P ops Q rest (a.put o.dst v) cs w') : wpOpsS P ops Q (i :: rest) a cs w := by
  have hw : Region.wanted o (yielded ops a.tmps) = true := by unfold Region.wanted; rw [hw]
  simp only [wpOpsS, ho, hw, if_true, hr]; exact h

theorem inert_ok : InertF Tryd.prog inert := by
  intro f hf
  have hf : f = 17 := Nat.eq_of_beq_eq_true hf
  subst hf
  refine ⟨⟨Tryd.f17, Tryd.func17, by kernel_rfl, by kernel_rfl⟩, fun args w => ?_⟩
  refine callsD_of_wpS Tryd.func17 rfl fun c₀ cs hu => ?_
  refine wpS_seq (wpS_region ?_)
  generalize ht : (args ++ Array.replicate (Tryd.f17.ntmps - args.size) undef) = T
  have hs : 5 ≤ T.size := by
    rw [← ht]; simp only [Array.size_append, Array.size_replicate]
    have : Tryd.f17.ntmps = 5 := rfl
    omega
  have hr : recoverD (c₀ :: cs) = none := by simp [recoverD, hu]
  refine opsS_rec (i := 0) (rest := [1]) rfl rfl (w' := w) ?_ hr ?_
  · simp [execOp, resolve, invoke, builtin]
  refine opsS_val (v := .bool false) rfl rfl (w' := w) ?_ ?_
  · have hv : Act.eval (Act.put { tmps := T, defers := [] } (some 2) .nilIface) (.tmp 2) = .nilIface := by
      simp [Act.eval, Act.put, show 2 < T.size by omega]
    have h2 := inert_eq w
    have hcst : Act.eval (Act.put { tmps := T, defers := [] } (some 2) .nilIface) (.const .nilIface) = .nilIface := rfl
    show (execOp (Act.eval (Act.put { tmps := T, defers := [] } (some 2) .nilIface)) _).run _ w = _
    simp [execOp, hv, hcst, eqGuard, binOp, h2]
  show Exit.thenS _ _ .normal _ _ _
  refine wpS_cond (t := false) ?_ ?_
  · simp [Act.eval, Act.put, show 3 < T.size by omega]
  refine wpS_of_wp (wp_skip ?_)
  have hres : Tryd.f17.results = #[] := rfl
  exact ⟨rfl, c₀.mode, rfl, .tuple #[], by simp [results, hres], ⟨_, rfl⟩, hu, rfl⟩
end Go.Proofs.YtjjplipoacljoaaDoor.AI
namespace Go.Proofs.YtjjplipoacljoaaDoor.AI.M8
set_option maxRecDepth 100000
def ri (n : Int) : FV := .raw (.int .i64 n)
def v0 : FV := (.raw (.bool false))
def v1 : FV := (.raw (.string ⟨#[109]⟩))
def v2 : FV := (.raw (.string ⟨#[110]⟩))
def v3 : FV := (.raw (.string ⟨#[114]⟩))
def v4 : FV := (.raw (.bool true))
def v5 : FV := (.raw (.string ⟨#[102]⟩))
def v6 : FV := (.raw (.slice none 0 0))
def v7 : FV := (.raw (.string ⟨#[120]⟩))
def v8 : FV := (.raw (.string ⟨#[121]⟩))
def v9 : FV := (.raw (.string ⟨#[118]⟩))
def v10 : FV := (.raw (.string ⟨#[113]⟩))
def v11 : FV := (.raw (.string ⟨#[99]⟩))
def v12 : FV := (.raw (.string ⟨#[109, 97, 105, 110]⟩))
def v13 : FV := (.raw (.string ⟨#[116, 49]⟩))
def v14 : FV := (.raw (.string ⟨#[116, 50]⟩))
def v15 : FV := (.raw (.string ⟨#[116, 51]⟩))
def v16 : FV := (.agg [(ri 0), (ri 1), (ri (-1)), (ri 0), (ri (-1)), v6, v6])
def v17 : FV := (.agg [(ri 0), (ri 20), (ri 1), (ri 0), (ri 0), v6, v6])
def v18 : FV := (.agg [(ri 1), (ri 1), (ri (-1)), (ri 0), (ri (-1)), v6, v6])
def v19 : FV := (.agg [(ri 0), (ri 6), (ri 0), (ri 0), (ri 0), v6, v6])
def v20 : FV := (.agg [(ri 0), (ri 4), (ri 0), (ri 1), (ri 0), v6, v6])
def v21 : FV := (.agg [(ri 0), (ri 7), (ri 0), (ri 0), (ri 0), v6, v6])
def v22 : FV := (.agg [(ri 1), (ri 6), (ri 0), (ri 0), (ri 6), v6, v6])
def v23 : FV := (.agg [(ri 1), (ri 4), (ri 0), (ri 2), (ri 6), v6, v6])
def b0 : Blk := ⟨60, .fz [v1, v0, v2, v0, v3, v4]⟩
def b1 : Blk := ⟨64, .fz [(ri 0), (ri 0), (ri 1), (ri 0), (ri 1), (ri 2), (ri 0), (ri 2), (ri 3), (ri 0), (ri 3), (ri 4), (ri 0), (ri 4), (ri 5), (ri 0), (ri 5), (ri 6), (ri 1), (ri 0), (ri 11), (ri 1), (ri 1), (ri 12), (ri 1), (ri 2), (ri 13), (ri 1), (ri 3), (ri 14), (ri 1), (ri 4), (ri 15), (ri 1), (ri 5), (ri 16), (ri 2), (ri 0), (ri 21), (ri 2), (ri 1), (ri 22), (ri 2), (ri 2), (ri 23), (ri 2), (ri 3), (ri 24), (ri 2), (ri 4), (ri 25), (ri 2), (ri 5), (ri 26), (ri 3), (ri 0), (ri 31), (ri 3), (ri 1), (ri 32), (ri 3), (ri 2), (ri 33), (ri 3), (ri 3), (ri 34), (ri 3), (ri 4), (ri 35), (ri 3), (ri 5), (ri 36)]⟩
def p0 : Heap := (.node none .leaf (.node (some b1) .leaf .leaf))
def p1 : Heap := (.node (some b0) (.node none .leaf p0) .leaf)
def b2 : Blk := ⟨9, .fz [v5]⟩
def p2 : Heap := (.node none .leaf (.node (some ⟨41, .fz [(ri 0), (ri 1), (ri (-1)), (ri 0), (ri (-1)), v6, v6, (ri 0), (ri 20), (ri 1), (ri 0), (ri 0), v6, v6, (ri 1), (ri 1), (ri (-1)), (ri 0), (ri (-1)), v6, v6, (ri 0), (ri 6), (ri 0), (ri 0), (ri 0), v6, v6, (ri 0), (ri 4), (ri 0), (ri 1), (ri 0), v6, v6, (ri 0), (ri 7), (ri 0), (ri 0), (ri 0), v6, v6, (ri 1), (ri 6), (ri 0), (ri 0), (ri 6), v6, v6, (ri 1), (ri 4), (ri 0), (ri 2), (ri 6), v6, v6]⟩) .leaf .leaf))
def b3 : Blk := ⟨58, .fz [v7, (ri 0), (ri 0), v0, (ri 0), v8, (ri 0), (ri 0), v0, (ri 1), v9, (ri 0), (ri 0), v4, (ri 0), v10, (ri 0), (ri 2), v0, (ri 0), v10, (ri 1), (ri 2), v0, (ri 0)]⟩
def b4 : Blk := ⟨62, .fz [v11, (ri 0)]⟩
def b5 : Blk := ⟨9, .fz [v12, v13, v14, v15]⟩
def p3 : Heap := (.node (some b3) (.node (some b4) .leaf .leaf) (.node (some b5) .leaf .leaf))
def p4 : Heap := (.node none (.node none p1 (.node (some b2) (.node none .leaf p2) .leaf)) p3)
def p5 : Heap := (.node none (.node (some b2) .leaf .leaf) .leaf)
def p6 : Heap := (.node none (.node none (.node none p5 .leaf) .leaf) .leaf)
def p7 : Heap := (.node none .leaf (.node (some b0) .leaf .leaf))
def p8 : Heap := (.node none (.node none (.node none .leaf p0) .leaf) (.node none .leaf p7))
def p9 : Heap := (.node none (.node (some b5) .leaf .leaf) .leaf)
def p10 : Heap := (.node none .leaf (.node none .leaf (.node (some ⟨41, .fz [(ri 0), (ri 1), (ri (-1)), (ri 0), (ri (-1)), v6, v6, (ri 0), (ri 20), (ri 1), (ri 0), (ri 0), v6, v6, (ri 1), (ri 1), (ri (-1)), (ri 0), (ri (-1)), v6, v6, (ri 1), (ri 6), (ri 0), (ri 0), (ri 6), v6, v6, (ri 0), (ri 4), (ri 0), (ri 1), (ri 0), v6, v6, (ri 1), (ri 4), (ri 0), (ri 2), (ri 6), v6, v6]⟩) .leaf .leaf)))
def p11 : Heap := (.node none .leaf (.node (some b3) .leaf .leaf))
def p12 : Heap := (.node none .leaf (.node (some b4) .leaf .leaf))
def p13 : Heap := (.node none .leaf (.node none .leaf p12))
def p14 : Heap := (.node none (.node none (.node none (.node none p9 .leaf) .leaf) (.node none p10 p11)) p13)
def p15 : Heap := (.node none (.node none p1 (.node (some b2) .leaf .leaf)) p3)
def p16 : Heap := (.node none (.node none p6 p8) (.node none (.node none (.node none (.node none p9 .leaf) .leaf) (.node none .leaf p11)) p13))
def p17 : Heap := (.node (some ⟨127, .fz [(ri 1), (ri 0), v0, (ri 0), (ri 0), v0, (ri 0), (ri 0), v0, (ri 0), (ri 0), v0]⟩) .leaf .leaf)
def p18 : Heap := (.node none (.node none p17 .leaf) .leaf)
def p19 : Heap := (.node (some ⟨125, .fz [(ri (-1)), v6, (ri (-1)), v6, (ri (-1)), v6]⟩) .leaf .leaf)
def p20 : Heap := (.node none (.node none p19 .leaf) .leaf)
def p21 : Heap := (.node (some ⟨2, .fz [(ri 0)]⟩) .leaf .leaf)
def p22 : Heap := (.node none (.node none p21 .leaf) .leaf)
def p23 : Heap := (.node none (.node (some ⟨4, .fz [v0]⟩) .leaf .leaf) .leaf)
def p24 : Heap := (.node none (.node none p23 .leaf) .leaf)
def p25 : Heap := (.node none (.node (some ⟨3, .fz [(ri 0), (ri 0), (ri 0), (ri 0)]⟩) .leaf .leaf) .leaf)
def p26 : Heap := (.node (some ⟨2, .fz [(ri 0), (ri 1), (ri 0), (ri 0), (ri 0)]⟩) .leaf .leaf)
def p27 : Heap := (.node (some ⟨127, .fz [(ri 2), (ri 0), v0, (ri 0), (ri 0), v0, (ri 0), (ri 0), v0, (ri 0), (ri 0), v0]⟩) .leaf .leaf)
def p28 : Heap := (.node none (.node none .leaf p27) .leaf)
def p29 : Heap := (.node none .leaf (.node (some ⟨4, .fz [v0]⟩) .leaf .leaf))
def p30 : Heap := (.node none .leaf (.node none .leaf p21))
def p31 : Heap := (.node none (.node none .leaf p19) .leaf)
def p32 : Heap := (.node (some b4) (.node none p30 .leaf) (.node none p31 .leaf))
def p33 : Heap := (.node (some ⟨3, .fz [(ri 1), (ri 0), (ri 0), (ri 0)]⟩) .leaf .leaf)
def p34 : Heap := (.node none (.node none .leaf p26) .leaf)
def p35 : Heap := (.node none .leaf (.node none p29 .leaf))
def p36 : Heap := (.node none (.node none .leaf (.node none .leaf p33)) .leaf)
def p37 : Heap := (.node (some ⟨3, .fz [(ri 2), (ri 0), (ri 0), (ri 0)]⟩) .leaf .leaf)
def p38 : Heap := (.node none (.node none .leaf (.node none (.node none p37 .leaf) .leaf)) p0)
def p39 : Heap := (.node none .leaf (.node none p22 .leaf))
def p40 : Heap := (.node (some ⟨127, .fz [(ri 2), (ri 0), v0, (ri 1), (ri 0), v0, (ri 0), (ri 0), v0, (ri 0), (ri 0), v0]⟩) .leaf .leaf)
def p41 : Heap := (.node none (.node none (.node none p40 .leaf) .leaf) .leaf)
def p42 : Heap := (.node none (.node none (.node none p26 .leaf) .leaf) .leaf)
def p43 : Heap := (.node none (.node none p20 .leaf) .leaf)
def p44 : Heap := (.node none (.node none .leaf p23) .leaf)
def p45 : Heap := (.node (some ⟨127, .fz [(ri 2), (ri 0), v0, (ri 2), (ri 0), v0, (ri 0), (ri 0), v0, (ri 0), (ri 0), v0]⟩) .leaf .leaf)
def p46 : Heap := (.node none (.node none .leaf (.node none p45 .leaf)) .leaf)
def p47 : Heap := (.node (some ⟨3, .fz [(ri 2), (ri 1), (ri 0), (ri 0)]⟩) .leaf .leaf)
def p48 : Heap := (.node none .leaf (.node none (.node none .leaf (.node none p47 .leaf)) .leaf))
def p49 : Heap := (.node none (.node none .leaf (.node none p21 .leaf)) .leaf)
def p50 : Heap := (.node none (.node none .leaf (.node none p26 .leaf)) .leaf)
def p51 : Heap := (.node none .leaf (.node none .leaf p20))
def p52 : Heap := (.node none (.node none .leaf p21) .leaf)
def p53 : Heap := (.node none p52 (.node (some b1) .leaf .leaf))
def p54 : Heap := (.node (some ⟨125, .fz [(ri 0), v6, (ri (-1)), v6, (ri (-1)), v6]⟩) .leaf .leaf)
def p55 : Heap := (.node none .leaf (.node none .leaf (.node none p54 .leaf)))
def p56 : Heap := (.node none .leaf (.node none (.node none (.node none .leaf (.node (some ⟨3, .fz [(ri 3), (ri 1), (ri 0), (ri 0)]⟩) .leaf .leaf)) .leaf) .leaf))
def p57 : Heap := (.node none (.node none p29 .leaf) .leaf)
def p58 : Heap := (.node none (.node none (.node none .leaf p45) .leaf) .leaf)
def p59 : Heap := (.node none .leaf (.node none .leaf p45))
def p60 : Heap := (.node none .leaf (.node none (.node none .leaf p54) .leaf))
def p61 : Heap := (.node none (.node none p30 .leaf) .leaf)
def p62 : Heap := (.node (some ⟨2, .fz [(ri 1), (ri 1), (ri 0), (ri 0), (ri 0)]⟩) .leaf .leaf)
def p63 : Heap := (.node none (.node none (.node none .leaf (.node none .leaf (.node (some ⟨3, .fz [(ri 4), (ri 1), (ri 0), (ri 0)]⟩) .leaf .leaf))) .leaf) .leaf)
def p64 : Heap := (.node none (.node none .leaf (.node none .leaf p62)) .leaf)
def p65 : Heap := (.node none (.node none p62 .leaf) .leaf)
def p66 : Heap := (.node none (.node none (.node none (.node none (.node none (.node (some ⟨3, .fz [(ri 5), (ri 1), (ri 0), (ri 0)]⟩) .leaf .leaf) .leaf) .leaf) .leaf) .leaf) .leaf)
def p67 : Heap := (.node none (.node none p22 .leaf) .leaf)
def p68 : Heap := (.node none .leaf (.node none .leaf (.node none .leaf p19)))
def p69 : Heap := (.node none .leaf (.node none .leaf p29))
def p70 : Heap := (.node none (.node none p65 .leaf) .leaf)
def p71 : Heap := (.node none .leaf (.node (some b1) (.node none p23 .leaf) .leaf))
def p72 : Heap := (.node none (.node none p45 .leaf) .leaf)
def p73 : Heap := (.node none .leaf (.node none p72 .leaf))
def p74 : Heap := (.node none (.node none (.node none .leaf (.node none (.node none (.node (some ⟨3, .fz [(ri 5), (ri 2), (ri 0), (ri 0)]⟩) .leaf .leaf) .leaf) .leaf)) .leaf) .leaf)
def p75 : Heap := (.node (some ⟨125, .fz [(ri 1), v6, (ri (-1)), v6, (ri (-1)), v6]⟩) .leaf .leaf)
def p76 : Heap := (.node none (.node none p75 .leaf) .leaf)
def p77 : Heap := (.node none .leaf (.node none p76 .leaf))
def p78 : Heap := (.node none .leaf (.node none p65 .leaf))
def p79 : Heap := (.node none .leaf (.node none .leaf (.node none p72 (.node none (.node none (.node (some ⟨2, .fz [(ri 2), (ri 1), (ri 0), (ri 0), (ri 0)]⟩) .leaf .leaf) .leaf) .leaf))))
def p80 : Heap := (.node none .leaf (.node none .leaf (.node none p23 .leaf)))
def p81 : Heap := (.node none .leaf (.node none .leaf p72))
def p82 : Heap := (.node none (.node none p25 .leaf) (.node none (.node none p26 .leaf) (.node (some b1) .leaf .leaf)))
def p83 : Heap := (.node (some b0) .leaf (.node (some ⟨4, .fz [v0]⟩) .leaf .leaf))
def p84 : Heap := (.node none (.node none (.node none (.node (some b5) p21 .leaf) .leaf) .leaf) .leaf)
def p85 : Heap := (.node none .leaf (.node (some b3) .leaf p19))
def p86 : Heap := (.node none .leaf (.node (some b4) .leaf p17))
def p87 : Heap := (.node none (.node none (.node none (.node (some b2) .leaf .leaf) (.node none p19 .leaf)) .leaf) .leaf)
def p88 : Heap := (.node none .leaf (.node none p33 .leaf))
def p89 : Heap := (.node none (.node none .leaf (.node none p27 .leaf)) .leaf)
def p90 : Heap := (.node none .leaf (.node none p88 (.node (some b0) .leaf .leaf)))
def p91 : Heap := (.node none (.node none (.node none .leaf p40) .leaf) .leaf)
def p92 : Heap := (.node none (.node none p9 .leaf) (.node none p52 .leaf))
def p93 : Heap := (.node none .leaf (.node (some b3) .leaf (.node none p19 .leaf)))
def p94 : Heap := (.node none .leaf (.node none (.node none (.node none .leaf p37) .leaf) .leaf))
def p95 : Heap := (.node none (.node none p5 .leaf) (.node none (.node none .leaf (.node none .leaf p47)) .leaf))
def p96 : Heap := (.node none (.node none (.node (some b5) .leaf .leaf) (.node none .leaf p45)) .leaf)
def p97 : Heap := (.node none .leaf (.node (some b4) p29 .leaf))
def p98 : Heap := (.node none (.node none .leaf (.node none .leaf p26)) .leaf)
def p99 : Heap := (.node none (.node none .leaf p0) (.node none .leaf p31))
def p100 : Heap := (.node none .leaf (.node (some b0) .leaf (.node none .leaf p45)))
def p101 : Heap := (.node (some b5) (.node none p26 .leaf) .leaf)
def p102 : Heap := (.node none (.node none (.node none (.node none (.node none (.node (some ⟨3, .fz [(ri 2), (ri 2), (ri 0), (ri 0)]⟩) .leaf .leaf) .leaf) .leaf) .leaf) .leaf) p11)
def p103 : Heap := (.node none .leaf (.node none .leaf (.node none .leaf p75)))
def p104 : Heap := (.node none (.node none p101 .leaf) .leaf)
def p105 : Heap := (.node none (.node none (.node (some b2) .leaf .leaf) p22) .leaf)
def p106 : Heap := (.node none (.node none (.node none .leaf (.node none (.node none (.node (some ⟨3, .fz [(ri 3), (ri 2), (ri 0), (ri 0)]⟩) .leaf .leaf) .leaf) .leaf)) p0) .leaf)
def p107 : Heap := (.node none .leaf (.node (some b0) p65 .leaf))
def p108 : Heap := (.node (some ⟨31, .fz [v6, v6, v6, v6]⟩) .leaf .leaf)
def p109 : Heap := (.node none (.node none p108 .leaf) .leaf)
def p110 : Heap := (.node (some ⟨31, .fz [v6]⟩) .leaf .leaf)
def p111 : Heap := (.node none (.node none p110 .leaf) .leaf)
def p112 : Heap := (.node (some ⟨31, .fz [v6, v6, v6]⟩) .leaf .leaf)
def p113 : Heap := (.node none (.node none p112 .leaf) .leaf)
def p114 : Heap := (.node (some ⟨3, .fz [(ri (-1)), (ri (-1)), (ri (-1)), (ri (-1))]⟩) .leaf .leaf)
def p115 : Heap := (.node none (.node none p114 .leaf) .leaf)
def p116 : Heap := (.node (some ⟨31, .fz [v6, v6, v6, v6, v6]⟩) .leaf .leaf)
def p117 : Heap := (.node none (.node none p116 .leaf) .leaf)
def p118 : Heap := (.node none .leaf (.node none .leaf p108))
def p119 : Heap := (.node (some ⟨3, .fz [(ri 1)]⟩) .leaf .leaf)
def p120 : Heap := (.node none .leaf (.node none p119 .leaf))
def p121 : Heap := (.node (some ⟨31, .mx [(.row 95 1 1), (.f v6), (.f v6), (.f v6)]⟩) .leaf .leaf)
def p122 : Heap := (.node none .leaf (.node none p114 .leaf))
def p123 : Heap := (.node none .leaf (.node none p108 .leaf))
def p124 : Heap := (.node none .leaf (.node none p112 .leaf))
def p125 : Heap := (.node none .leaf (.node none p110 .leaf))
def p126 : Heap := (.node none .leaf (.node none p116 .leaf))
def p127 : Heap := (.node (some ⟨3, .fz [(ri 2)]⟩) .leaf .leaf)
def p128 : Heap := (.node none .leaf (.node (some b1) .leaf p127))
def p129 : Heap := (.node (some ⟨31, .mx [(.f v6), (.row 121 1 1), (.f v6), (.f v6)]⟩) .leaf .leaf)
def p130 : Heap := (.node none (.node none .leaf p129) .leaf)
def p131 : Heap := (.node none .leaf (.node none .leaf p127))
def p132 : Heap := (.node none (.node none .leaf p112) .leaf)
def p133 : Heap := (.node (some ⟨31, .mx [(.row 119 1 1), (.f v6), (.f v6), (.f v6)]⟩) .leaf .leaf)
def p134 : Heap := (.node none (.node none .leaf p116) .leaf)
def p135 : Heap := (.node none .leaf (.node none .leaf p110))
def p136 : Heap := (.node none .leaf (.node none .leaf p114))
def p137 : Heap := (.node none (.node none p127 .leaf) .leaf)
def p138 : Heap := (.node (some ⟨3, .fz [(ri 2), (ri 1)]⟩) .leaf .leaf)
def p139 : Heap := (.node none (.node none p138 .leaf) .leaf)
def p140 : Heap := (.node none (.node (some ⟨31, .mx [(.f v6), (.row 135 1 1), (.f v6), (.f v6)]⟩) .leaf .leaf) .leaf)
def p141 : Heap := (.node none (.node none p140 .leaf) p139)
def p142 : Heap := (.node none (.node (some ⟨31, .mx [(.row 132 1 1), (.row 149 1 2), (.f v6), (.f v6)]⟩) .leaf .leaf) .leaf)
def p143 : Heap := (.node none .leaf (.node none p113 .leaf))
def p144 : Heap := (.node none (.node none .leaf (.node none (.node (some ⟨31, .mx [(.f v6), (.row 165 1 1), (.f v6), (.f v6)]⟩) .leaf .leaf) .leaf)) .leaf)
def p145 : Heap := (.node none (.node (some ⟨3, .fz [(ri 3)]⟩) .leaf .leaf) .leaf)
def p146 : Heap := (.node none .leaf (.node none .leaf p145))
def p147 : Heap := (.node none (.node none (.node (some ⟨31, .mx [(.row 180 1 1), (.row 162 1 2), (.f v6), (.f v6)]⟩) .leaf .leaf) .leaf) .leaf)
def p148 : Heap := (.node none .leaf (.node none p127 .leaf))
def p149 : Heap := (.node none (.node none .leaf p114) .leaf)
def p150 : Heap := (.node none (.node none .leaf p138) .leaf)
def p151 : Heap := (.node none (.node (some ⟨31, .mx [(.row 208 1 1), (.row 193 1 2), (.f v6), (.f v6)]⟩) .leaf .leaf) .leaf)
def p152 : Heap := (.node none .leaf (.node none .leaf p151))
def p153 : Heap := (.node none .leaf (.node (some ⟨3, .fz [(ri 4)]⟩) .leaf .leaf))
def p154 : Heap := (.node none .leaf (.node none p153 .leaf))
def p155 : Heap := (.node none (.node none .leaf p127) .leaf)
def p156 : Heap := (.node none .leaf (.node (some ⟨31, .mx [(.f v6), (.row 196 1 1), (.f v6), (.f v6)]⟩) .leaf .leaf))
def p157 : Heap := (.node none (.node none .leaf p108) .leaf)
def p158 : Heap := (.node none (.node none (.node none .leaf p110) .leaf) .leaf)
def p159 : Heap := (.node none (.node none p155 .leaf) .leaf)
def p160 : Heap := (.node none (.node none p132 .leaf) .leaf)
def p161 : Heap := (.node none (.node none .leaf (.node none .leaf p116)) .leaf)
def p162 : Heap := (.node none .leaf (.node (some ⟨31, .mx [(.row 237 1 1), (.f v6), (.f v6)]⟩) .leaf .leaf))
def p163 : Heap := (.node none (.node none .leaf (.node (some ⟨31, .mx [(.row 236 1 1), (.row 221 1 2), (.f v6), (.f v6)]⟩) .leaf .leaf)) .leaf)
def p164 : Heap := (.node (some ⟨3, .fz [(ri 5)]⟩) .leaf .leaf)
def p165 : Heap := (.node none .leaf (.node none .leaf p164))
def p166 : Heap := (.node none .leaf (.node (some ⟨31, .mx [(.f v6), (.row 224 1 1), (.f v6), (.f v6)]⟩) .leaf .leaf))
def p167 : Heap := (.node none .leaf (.node none p166 .leaf))
def p168 : Heap := (.node none .leaf (.node none p136 (.node (some b1) .leaf .leaf)))
def p169 : Heap := (.node none .leaf (.node none .leaf p112))
def p170 : Heap := (.node none (.node none p169 .leaf) .leaf)
def p171 : Heap := (.node none (.node none p111 (.node none .leaf p116)) .leaf)
def p172 : Heap := (.node none .leaf (.node none .leaf (.node none .leaf (.node (some ⟨31, .mx [(.f v6), (.row 253 1 1), (.f v6), (.f v6)]⟩) .leaf .leaf))))
def p173 : Heap := (.node none (.node none p164 .leaf) .leaf)
def p174 : Heap := (.node none (.node none p109 (.node none .leaf p110)) .leaf)
def p175 : Heap := (.node none (.node none p117 (.node none .leaf p112)) .leaf)
def p176 : Heap := (.node none (.node none (.node none (.node (some ⟨3, .fz [(ri 5), (ri 2)]⟩) .leaf .leaf) .leaf) .leaf) .leaf)
def p177 : Heap := (.node none (.node none p115 .leaf) (.node none .leaf (.node none .leaf (.node (some ⟨31, .mx [(.row 248 1 1), (.row 270 1 2), (.f v6), (.f v6)]⟩) .leaf .leaf))))
def p178 : Heap := (.node none .leaf (.node (some ⟨31, .mx [(.row 256 1 1), (.f v6), (.f v6)]⟩) .leaf .leaf))
def p179 : Heap := (.node none (.node none p111 .leaf) .leaf)
def p180 : Heap := (.node none (.node none p173 .leaf) .leaf)
def p181 : Heap := (.node none (.node none p109 .leaf) .leaf)
def p182 : Heap := (.node none (.node none (.node none p117 .leaf) .leaf) .leaf)
def p183 : Heap := (.node none (.node (some ⟨3, .fz [(ri 5), (ri 3)]⟩) .leaf .leaf) .leaf)
def p184 : Heap := (.node none .leaf (.node none p183 .leaf))
def p185 : Heap := (.node none (.node (some b2) p108 .leaf) .leaf)
def p186 : Heap := (.node none (.node (some b5) p114 .leaf) .leaf)
def p187 : Heap := (.node none (.node (some ⟨31, .mx [(.row 154 1 1), (.f v6), (.f v6), (.f v6)]⟩) .leaf .leaf) .leaf)
def p188 : Heap := (.node none .leaf (.node none (.node none p108 .leaf) (.node (some b1) .leaf .leaf)))
def p189 : Heap := (.node none (.node none p119 .leaf) .leaf)
def p190 : Heap := (.node none p109 (.node (some b3) .leaf .leaf))
def p191 : Heap := (.node none (.node (some ⟨31, .mx [(.row 178 1 1), (.f v6), (.f v6), (.f v6)]⟩) .leaf .leaf) .leaf)
def p192 : Heap := (.node none (.node (some ⟨31, .mx [(.f v6), (.row 180 1 1), (.f v6), (.f v6)]⟩) .leaf .leaf) .leaf)
def p193 : Heap := (.node none (.node none .leaf p192) .leaf)
def p194 : Heap := (.node none (.node (some b2) .leaf p127) .leaf)
def p195 : Heap := (.node (some b0) .leaf (.node none (.node (some ⟨31, .mx [(.row 191 1 1), (.row 208 1 2), (.f v6), (.f v6)]⟩) .leaf .leaf) .leaf))
def p196 : Heap := (.node (some b5) .leaf (.node (some ⟨31, .mx [(.f v6), (.row 194 1 1), (.f v6), (.f v6)]⟩) .leaf .leaf))
def p197 : Heap := (.node none (.node none p196 .leaf) p150)
def p198 : Heap := (.node none p150 (.node (some b3) .leaf .leaf))
def p199 : Heap := (.node none .leaf (.node (some ⟨3, .fz [(ri 2), (ri 2)]⟩) .leaf .leaf))
def p200 : Heap := (.node none (.node none .leaf (.node (some ⟨31, .mx [(.row 219 1 1), (.row 239 1 2), (.f v6), (.f v6)]⟩) .leaf .leaf)) .leaf)
def p201 : Heap := (.node none .leaf (.node (some b4) p166 .leaf))
def p202 : Heap := (.node (some b2) (.node none p127 .leaf) .leaf)
def p203 : Heap := (.node none (.node none p145 .leaf) .leaf)
def p204 : Heap := (.node none .leaf (.node (some ⟨31, .mx [(.f v6), (.row 255 1 1), (.f v6), (.f v6)]⟩) .leaf .leaf))
def p205 : Heap := (.node none .leaf (.node (some b0) .leaf p204))
def p206 : Heap := (.node (some b5) (.node none p112 .leaf) .leaf)
def p207 : Heap := (.node none .leaf (.node none .leaf (.node none .leaf (.node (some ⟨31, .mx [(.row 267 1 1), (.row 252 1 2), (.f v6), (.f v6)]⟩) .leaf .leaf))))
def p208 : Heap := (.node none .leaf (.node (some b3) .leaf p199))
def p209 : Heap := (.node none (.node none p115 .leaf) .leaf)
def p210 : Heap := (.node none (.node none (.node (some ⟨3, .fz [(ri 2), (ri 3)]⟩) .leaf .leaf) .leaf) .leaf)
def p211 : Heap := (.node none (.node none .leaf p210) .leaf)
def a0 : List AV := [(.f v0)]
def h0 : Heap := .leaf
def r0 : CallR := ⟨(.agg [(.row 2 5 5), (.row 3 2 3), (.row 4 2 1), (.row 5 1 1), (.row 6 1 4), (.row 55 3 24), (.row 57 7 8)]), p4, 58, 180143985094819964⟩
def m0 : Memo := ⟨16, a0, h0, 0, r0⟩
def a21 : List AV := [(.f v4)]
def h21 : Heap := .leaf
def r21 : CallR := ⟨(.agg [(.row 60 5 5), (.row 61 2 3), (.row 62 2 1), (.row 63 1 1), (.row 64 1 4), (.row 113 3 24), (.row 116 7 6)]), (.node none (.node none p6 p8) p14), 117, 93461343453626933054115576738217984⟩
def m21 : Memo := ⟨16, a21, h21, 58, r21⟩
def a4 : List AV := [(.agg [(.row 2 5 5), (.row 3 2 3), (.row 4 2 1), (.row 5 1 1), (.row 6 1 4), (.row 55 3 24)])]
def h4 : Heap := p15
def r4 : CallR := ⟨(.f v4), p15, 61, 0⟩
def m4 : Memo := ⟨46, a4, h4, 61, r4⟩
def a25 : List AV := [(.agg [(.row 60 5 5), (.row 61 2 3), (.row 62 2 1), (.row 63 1 1), (.row 64 1 4), (.row 113 3 24)])]
def h25 : Heap := p16
def r25 : CallR := ⟨(.f v4), p16, 120, 0⟩
def m25 : Memo := ⟨46, a25, h25, 120, r25⟩
def a5 : List AV := [(.agg [(.row 2 5 5), (.row 3 2 3), (.row 4 2 1), (.row 5 1 1), (.row 6 1 4), (.row 55 3 24)]), (.agg [(.row 65 2 3), (.f (ri (-1))), (.row 66 1 1), (.row 67 3 4), (.row 86 1 5), (.row 69 1 1), (.row 70 1 4)]), (.f v16)]
def h5 : Heap := (.node none (.node none (.node (some b0) (.node none .leaf p0) (.node none p18 .leaf)) (.node (some b2) (.node none p20 .leaf) (.node none p22 .leaf))) (.node (some b3) (.node (some b4) .leaf .leaf) (.node (some b5) p24 (.node none (.node none p25 (.node none p26 .leaf)) .leaf))))
def r5 : CallR := ⟨(.tup [(.agg [(.row 100 2 3), (.f (ri (-1))), (.row 105 1 1), (.row 107 3 4), (.row 110 1 5), (.row 112 1 1), (.row 114 1 4)]), (.f v4)]), (.node none (.node none (.node (some b0) (.node none .leaf p0) (.node none p18 p28)) (.node (some b2) (.node none p20 (.node none p29 .leaf)) (.node none p22 .leaf))) (.node (some b3) p32 (.node (some b5) (.node none (.node none p23 (.node none .leaf p33)) .leaf) (.node none (.node none p25 (.node none p26 .leaf)) p34)))), 115, 27463650253944589983426074944471040⟩
def m5 : Memo := ⟨48, a5, h5, 90, r5⟩
def a6 : List AV := [(.agg [(.row 2 5 5), (.row 3 2 3), (.row 4 2 1), (.row 5 1 1), (.row 6 1 4), (.row 55 3 24)]), (.agg [(.row 100 2 3), (.f (ri (-1))), (.row 105 1 1), (.row 107 3 4), (.row 110 1 5), (.row 112 1 1), (.row 114 1 4)]), (.f v17)]
def h6 : Heap := (.node none (.node none (.node (some b0) (.node none .leaf p0) (.node none .leaf p28)) (.node (some b2) p35 .leaf)) (.node (some b3) p32 (.node (some b5) p36 (.node none .leaf p34))))
def r6 : CallR := ⟨(.tup [(.agg [(.row 129 2 3), (.f (ri (-1))), (.row 134 1 1), (.row 136 3 4), (.row 139 1 5), (.row 141 1 1), (.row 143 1 4)]), (.f v4)]), (.node none (.node none (.node (some b0) p38 (.node none .leaf (.node none (.node none (.node none p26 .leaf) p27) .leaf))) (.node (some b2) (.node none (.node none p20 .leaf) (.node none p29 .leaf)) p39)) (.node (some b3) (.node (some b4) (.node none p30 p41) (.node none p31 .leaf)) (.node (some b5) p36 (.node none p24 p34)))), 144, 14744434958684263621868021740018516602388480⟩
def m6 : Memo := ⟨48, a6, h6, 119, r6⟩
def a7 : List AV := [(.agg [(.row 2 5 5), (.row 3 2 3), (.row 4 2 1), (.row 5 1 1), (.row 6 1 4), (.row 55 3 24)]), (.agg [(.row 129 2 3), (.f (ri (-1))), (.row 134 1 1), (.row 136 3 4), (.row 139 1 5), (.row 141 1 1), (.row 143 1 4)]), (.f v18)]
def h7 : Heap := (.node none (.node none (.node (some b0) p38 (.node none .leaf p42)) (.node (some b2) p43 p39)) (.node (some b3) (.node (some b4) (.node none .leaf p41) .leaf) (.node (some b5) .leaf (.node none p24 .leaf))))
def r7 : CallR := ⟨(.tup [(.agg [(.row 158 2 3), (.f (ri (-1))), (.row 163 1 1), (.row 165 3 4), (.row 168 1 5), (.row 170 1 1), (.row 172 1 4)]), (.f v4)]), (.node none (.node none (.node (some b0) p38 (.node none p44 p42)) (.node (some b2) p43 (.node none p46 (.node none p22 .leaf)))) (.node (some b3) (.node (some b4) (.node none .leaf (.node none (.node none (.node none p40 .leaf) (.node none p26 .leaf)) .leaf)) p48) (.node (some b5) (.node none .leaf p49) (.node none p24 (.node none .leaf p20))))), 173, 7915858243193502930720707975199567905211444635893760⟩
def m7 : Memo := ⟨48, a7, h7, 148, r7⟩
def a8 : List AV := [(.agg [(.row 2 5 5), (.row 3 2 3), (.row 4 2 1), (.row 5 1 1), (.row 6 1 4), (.row 55 3 24)]), (.agg [(.row 158 2 3), (.f (ri (-1))), (.row 163 1 1), (.row 165 3 4), (.row 168 1 5), (.row 170 1 1), (.row 172 1 4)]), (.f v19)]
def h8 : Heap := (.node none (.node none (.node (some b0) (.node none .leaf p0) (.node none p44 .leaf)) (.node (some b2) .leaf (.node none p46 .leaf))) (.node (some b3) (.node (some b4) (.node none .leaf p50) p48) (.node (some b5) (.node none .leaf p49) p51)))
def r8 : CallR := ⟨(.tup [(.agg [(.row 187 2 3), (.f (ri (-1))), (.row 192 1 1), (.row 194 3 4), (.row 197 1 5), (.row 199 1 1), (.row 201 1 4)]), (.f v4)]), (.node none (.node none (.node (some b0) (.node none .leaf p53) (.node none p44 p55)) (.node (some b2) p56 (.node none (.node none (.node none (.node none .leaf p26) (.node none p45 .leaf)) .leaf) .leaf))) (.node (some b3) (.node (some b4) (.node none p57 p50) p48) (.node (some b5) (.node none p58 p49) p51))), 202, 4249794034286013710890699307931065403276797834509790866309120⟩
def m8 : Memo := ⟨48, a8, h8, 177, r8⟩
def a9 : List AV := [(.agg [(.row 2 5 5), (.row 3 2 3), (.row 4 2 1), (.row 5 1 1), (.row 6 1 4), (.row 55 3 24)]), (.agg [(.row 187 2 3), (.f (ri (-1))), (.row 192 1 1), (.row 194 3 4), (.row 197 1 5), (.row 199 1 1), (.row 201 1 4)]), (.f v20)]
def h9 : Heap := (.node none (.node none (.node (some b0) (.node none .leaf p53) (.node none .leaf p55)) (.node (some b2) p56 (.node none (.node none p34 .leaf) .leaf))) (.node (some b3) (.node (some b4) (.node none p57 .leaf) .leaf) (.node (some b5) (.node none p58 .leaf) .leaf)))
def r9 : CallR := ⟨(.tup [(.agg [(.row 216 2 3), (.f (ri (-1))), (.row 221 1 1), (.row 223 3 4), (.row 226 1 5), (.row 228 1 1), (.row 230 1 4)]), (.f v4)]), (.node none (.node none (.node (some b0) (.node none (.node none p59 .leaf) p53) (.node none .leaf p55)) (.node (some b2) p56 (.node none (.node none p34 .leaf) p35))) (.node (some b3) (.node (some b4) (.node none p57 p60) p61) (.node (some b5) (.node none (.node none (.node none (.node none .leaf p45) (.node none .leaf p62)) .leaf) .leaf) p63))), 231, 2281590798999291449810394069766719916188862241852896495324647328317440⟩
def m9 : Memo := ⟨48, a9, h9, 206, r9⟩
def a10 : List AV := [(.agg [(.row 2 5 5), (.row 3 2 3), (.row 4 2 1), (.row 5 1 1), (.row 6 1 4), (.row 55 3 24)]), (.agg [(.row 216 2 3), (.f (ri (-1))), (.row 221 1 1), (.row 223 3 4), (.row 226 1 5), (.row 228 1 1), (.row 230 1 4)]), (.f v21)]
def h10 : Heap := (.node none (.node none (.node (some b0) (.node none (.node none p59 .leaf) p0) .leaf) (.node (some b2) .leaf (.node none .leaf p35))) (.node (some b3) (.node (some b4) (.node none .leaf p60) p61) (.node (some b5) (.node none p64 .leaf) p63)))
def r10 : CallR := ⟨(.tup [(.agg [(.row 245 2 3), (.f (ri (-1))), (.row 250 1 1), (.row 252 3 4), (.row 255 1 5), (.row 257 1 1), (.row 259 1 4)]), (.f v4)]), (.node none (.node none (.node (some b0) (.node none (.node none (.node none p65 (.node none .leaf p45)) .leaf) p0) p66) (.node (some b2) (.node none p67 .leaf) (.node none p68 p35))) (.node (some b3) (.node (some b4) (.node none .leaf p60) (.node none (.node none p30 .leaf) (.node none .leaf p59))) (.node (some b5) (.node none p64 p69) p63))), 260, 1224919733069558288013508491315050548652878036025929111286547147232147438305280⟩
def m10 : Memo := ⟨48, a10, h10, 235, r10⟩
def a11 : List AV := [(.agg [(.row 2 5 5), (.row 3 2 3), (.row 4 2 1), (.row 5 1 1), (.row 6 1 4), (.row 55 3 24)]), (.agg [(.row 245 2 3), (.f (ri (-1))), (.row 250 1 1), (.row 252 3 4), (.row 255 1 5), (.row 257 1 1), (.row 259 1 4)]), (.f v22)]
def h11 : Heap := (.node none (.node none (.node (some b0) (.node none p70 p0) p66) (.node (some b2) (.node none p67 .leaf) (.node none p68 .leaf))) (.node (some b3) (.node (some b4) .leaf (.node none .leaf (.node none .leaf p59))) (.node (some b5) (.node none .leaf p69) .leaf)))
def r11 : CallR := ⟨(.tup [(.agg [(.row 274 2 3), (.f (ri (-1))), (.row 279 1 1), (.row 281 3 4), (.row 284 1 5), (.row 286 1 1), (.row 288 1 4)]), (.f v4)]), (.node none (.node none (.node (some b0) (.node none p70 p71) p66) (.node (some b2) (.node none p67 p73) (.node none p68 .leaf))) (.node (some b3) (.node (some b4) p74 (.node none .leaf (.node none .leaf (.node none p65 (.node none .leaf p45))))) (.node (some b5) (.node none p77 p69) (.node none .leaf p39)))), 289, 657623774219850317522970972052055267381371002626009417623758060265521270921419408015360⟩
def m11 : Memo := ⟨48, a11, h11, 264, r11⟩
def a12 : List AV := [(.agg [(.row 2 5 5), (.row 3 2 3), (.row 4 2 1), (.row 5 1 1), (.row 6 1 4), (.row 55 3 24)]), (.agg [(.row 274 2 3), (.f (ri (-1))), (.row 279 1 1), (.row 281 3 4), (.row 284 1 5), (.row 286 1 1), (.row 288 1 4)]), (.f v23)]
def h12 : Heap := (.node none (.node none (.node (some b0) (.node none .leaf p71) .leaf) (.node (some b2) (.node none .leaf p73) .leaf)) (.node (some b3) (.node (some b4) p74 (.node none .leaf p78)) (.node (some b5) (.node none p77 .leaf) (.node none .leaf p39))))
def r12 : CallR := ⟨(.tup [(.agg [(.row 303 2 3), (.f (ri (-1))), (.row 308 1 1), (.row 310 3 4), (.row 313 1 5), (.row 315 1 1), (.row 317 1 4)]), (.f v4)]), (.node none (.node none (.node (some b0) (.node none (.node none .leaf (.node none .leaf p76)) p71) (.node none .leaf (.node none .leaf (.node none .leaf p22)))) (.node (some b2) p79 (.node none .leaf (.node none .leaf (.node none .leaf (.node none (.node none (.node (some ⟨3, .fz [(ri 5), (ri 3), (ri 0), (ri 0)]⟩) .leaf .leaf) .leaf) .leaf)))))) (.node (some b3) (.node (some b4) p74 (.node none p80 p78)) (.node (some b5) (.node none p77 .leaf) (.node none p81 p39)))), 318, 353059075418293128472047006715113422873440501990180070960255862682101366874981517915706433208320⟩
def m12 : Memo := ⟨48, a12, h12, 293, r12⟩
def a26 : List AV := [(.agg [(.row 60 5 5), (.row 61 2 3), (.row 62 2 1), (.row 63 1 1), (.row 64 1 4), (.row 113 3 24)]), (.agg [(.row 124 2 3), (.f (ri (-1))), (.row 125 1 1), (.row 126 3 4), (.row 145 1 5), (.row 128 1 1), (.row 129 1 4)]), (.f v16)]
def h26 : Heap := (.node none (.node none p6 (.node none (.node none p82 .leaf) (.node none .leaf (.node none .leaf p83)))) (.node none (.node none p84 (.node none .leaf p85)) (.node none .leaf (.node none .leaf p86))))
def r26 : CallR := ⟨(.tup [(.agg [(.row 159 2 3), (.f (ri (-1))), (.row 164 1 1), (.row 166 3 4), (.row 169 1 5), (.row 171 1 1), (.row 173 1 4)]), (.f v4)]), (.node none (.node none (.node none p87 (.node none .leaf p49)) (.node none (.node none p82 p50) (.node none .leaf (.node none p88 p83)))) (.node none (.node none p84 (.node none p44 p85)) (.node none .leaf (.node none p89 p86)))), 174, 15831716486387005861441415950399135810422889271787520⟩
def m26 : Memo := ⟨48, a26, h26, 149, r26⟩
def a27 : List AV := [(.agg [(.row 60 5 5), (.row 61 2 3), (.row 62 2 1), (.row 63 1 1), (.row 64 1 4), (.row 113 3 24)]), (.agg [(.row 159 2 3), (.f (ri (-1))), (.row 164 1 1), (.row 166 3 4), (.row 169 1 5), (.row 171 1 1), (.row 173 1 4)]), (.f v17)]
def h27 : Heap := (.node none (.node none (.node none p87 (.node none .leaf p49)) (.node none (.node none (.node none .leaf p0) p50) p90)) (.node none (.node none (.node none (.node none p9 .leaf) .leaf) (.node none p44 p11)) (.node none .leaf (.node none p89 p12))))
def r27 : CallR := ⟨(.tup [(.agg [(.row 188 2 3), (.f (ri (-1))), (.row 193 1 1), (.row 195 3 4), (.row 198 1 5), (.row 200 1 1), (.row 202 1 4)]), (.f v4)]), (.node none (.node none (.node none p87 (.node none p91 p49)) (.node none (.node none (.node none (.node none p29 .leaf) p0) p50) p90)) (.node none (.node none p92 (.node none p44 p93)) (.node none p94 (.node none (.node none (.node none (.node none .leaf p26) (.node none p27 .leaf)) .leaf) p12)))), 203, 8499588068572027421781398615862130806553595669019581732618240⟩
def m27 : Memo := ⟨48, a27, h27, 178, r27⟩
def a28 : List AV := [(.agg [(.row 60 5 5), (.row 61 2 3), (.row 62 2 1), (.row 63 1 1), (.row 64 1 4), (.row 113 3 24)]), (.agg [(.row 188 2 3), (.f (ri (-1))), (.row 193 1 1), (.row 195 3 4), (.row 198 1 5), (.row 200 1 1), (.row 202 1 4)]), (.f v18)]
def h28 : Heap := (.node none (.node none (.node none (.node none (.node none p5 .leaf) .leaf) (.node none p91 .leaf)) (.node none (.node none (.node none (.node none p29 .leaf) p0) .leaf) (.node none .leaf p7))) (.node none (.node none p92 (.node none .leaf p93)) (.node none p94 (.node none (.node none p34 .leaf) p12))))
def r28 : CallR := ⟨(.tup [(.agg [(.row 217 2 3), (.f (ri (-1))), (.row 222 1 1), (.row 224 3 4), (.row 227 1 5), (.row 229 1 1), (.row 231 1 4)]), (.f v4)]), (.node none (.node none (.node none p95 (.node none (.node none (.node none (.node none .leaf p40) (.node none .leaf p26)) .leaf) .leaf)) (.node none (.node none (.node none (.node none p29 .leaf) p0) (.node none .leaf p31)) (.node none (.node none p30 .leaf) p7))) (.node none (.node none (.node none p96 (.node none p52 .leaf)) (.node none .leaf p93)) (.node none p94 (.node none (.node none p34 .leaf) p97)))), 232, 4563181597998582899620788139533439832377724483705792990649294656634880⟩
def m28 : Memo := ⟨48, a28, h28, 207, r28⟩
def a29 : List AV := [(.agg [(.row 60 5 5), (.row 61 2 3), (.row 62 2 1), (.row 63 1 1), (.row 64 1 4), (.row 113 3 24)]), (.agg [(.row 217 2 3), (.f (ri (-1))), (.row 222 1 1), (.row 224 3 4), (.row 227 1 5), (.row 229 1 1), (.row 231 1 4)]), (.f v22)]
def h29 : Heap := (.node none (.node none (.node none p95 (.node none p98 .leaf)) (.node none p99 (.node none (.node none p30 .leaf) p7))) (.node none (.node none (.node none p96 .leaf) (.node none .leaf p11)) (.node none .leaf (.node none .leaf p97))))
def r29 : CallR := ⟨(.tup [(.agg [(.row 246 2 3), (.f (ri (-1))), (.row 251 1 1), (.row 253 3 4), (.row 256 1 5), (.row 258 1 1), (.row 260 1 4)]), (.f v4)]), (.node none (.node none (.node none p95 (.node none p98 p69)) (.node none p99 (.node none (.node none p30 .leaf) p100))) (.node none (.node none (.node none (.node none (.node none p101 (.node none .leaf p45)) .leaf) .leaf) p102) (.node none (.node none p67 .leaf) (.node none p103 p97)))), 261, 2449839466139116576027016982630101097305756072051858222573094294464294876610560⟩
def m29 : Memo := ⟨48, a29, h29, 236, r29⟩
def a30 : List AV := [(.agg [(.row 60 5 5), (.row 61 2 3), (.row 62 2 1), (.row 63 1 1), (.row 64 1 4), (.row 113 3 24)]), (.agg [(.row 246 2 3), (.f (ri (-1))), (.row 251 1 1), (.row 253 3 4), (.row 256 1 5), (.row 258 1 1), (.row 260 1 4)]), (.f v20)]
def h30 : Heap := (.node none (.node none (.node none (.node none (.node none p5 .leaf) .leaf) (.node none .leaf p69)) (.node none (.node none (.node none .leaf p0) .leaf) (.node none .leaf p100))) (.node none (.node none (.node none p104 .leaf) p102) (.node none (.node none p67 .leaf) (.node none p103 p12))))
def r30 : CallR := ⟨(.tup [(.agg [(.row 275 2 3), (.f (ri (-1))), (.row 280 1 1), (.row 282 3 4), (.row 285 1 5), (.row 287 1 1), (.row 289 1 4)]), (.f v4)]), (.node none (.node none (.node none (.node none p105 .leaf) (.node none p77 p69)) (.node none p106 (.node none .leaf (.node none .leaf (.node (some b0) p65 (.node none .leaf p45)))))) (.node none (.node none (.node none p104 (.node none .leaf p24)) p102) (.node none (.node none p67 p73) (.node none p103 p12)))), 290, 1315247548439700635045941944104110534762742005252018835247516120531042541842838816030720⟩
def m30 : Memo := ⟨48, a30, h30, 265, r30⟩
def a31 : List AV := [(.agg [(.row 60 5 5), (.row 61 2 3), (.row 62 2 1), (.row 63 1 1), (.row 64 1 4), (.row 113 3 24)]), (.agg [(.row 275 2 3), (.f (ri (-1))), (.row 280 1 1), (.row 282 3 4), (.row 285 1 5), (.row 287 1 1), (.row 289 1 4)]), (.f v23)]
def h31 : Heap := (.node none (.node none (.node none (.node none p105 .leaf) (.node none p77 .leaf)) (.node none p106 (.node none .leaf p107))) (.node none (.node none (.node none (.node none p9 .leaf) (.node none .leaf p24)) (.node none .leaf p11)) (.node none (.node none .leaf p73) (.node none .leaf p12))))
def r31 : CallR := ⟨(.tup [(.agg [(.row 304 2 3), (.f (ri (-1))), (.row 309 1 1), (.row 311 3 4), (.row 314 1 5), (.row 316 1 1), (.row 318 1 4)]), (.f v4)]), (.node none (.node none (.node none (.node none p105 p81) (.node none p77 .leaf)) (.node none p106 (.node none p80 p107))) (.node none (.node none (.node none (.node none p9 (.node none .leaf p76)) (.node none .leaf p24)) (.node none .leaf (.node none .leaf (.node (some b3) .leaf p22)))) (.node none p79 (.node none .leaf (.node none .leaf (.node (some b4) .leaf (.node none (.node none (.node (some ⟨3, .fz [(ri 3), (ri 3), (ri 0), (ri 0)]⟩) .leaf .leaf) .leaf) .leaf))))))), 319, 706118150836586256944094013430226845746881003980360141920511725364202733749963035831412866416640⟩
def m31 : Memo := ⟨48, a31, h31, 294, r31⟩
def a3 : List AV := [(.agg [(.row 2 5 5), (.row 3 2 3), (.row 4 2 1), (.row 5 1 1), (.row 6 1 4), (.row 55 3 24), (.row 57 7 8)])]
def h3 : Heap := p4
def r3 : CallR := ⟨(.tup [(.f (ri 0)), (.f (ri 0))]), p4, 60, 0⟩
def m3 : Memo := ⟨44, a3, h3, 60, r3⟩
def a24 : List AV := [(.agg [(.row 60 5 5), (.row 61 2 3), (.row 62 2 1), (.row 63 1 1), (.row 64 1 4), (.row 113 3 24), (.row 116 7 6)])]
def h24 : Heap := (.node none (.node none p6 p8) p14)
def r24 : CallR := ⟨(.tup [(.f (ri 0)), (.f (ri 0))]), (.node none (.node none p6 p8) p14), 119, 0⟩
def m24 : Memo := ⟨44, a24, h24, 119, r24⟩
def a13 : List AV := [(.agg [(.row 2 5 5), (.row 3 2 3), (.row 4 2 1), (.row 5 1 1), (.row 6 1 4), (.row 55 3 24)]), (.agg [(.row 62 1 4), (.row 63 1 4), (.row 64 1 3), (.row 65 1 3), (.row 66 1 5), (.row 67 1 1), (.f v6), (.row 68 1 4), (.row 69 1 4)]), (.f v16)]
def h13 : Heap := (.node none (.node none (.node (some b0) (.node none p109 p0) (.node none p111 .leaf)) (.node (some b2) (.node none p113 .leaf) (.node none p115 .leaf))) (.node (some b3) (.node (some b4) (.node none p113 .leaf) (.node none p109 .leaf)) (.node (some b5) (.node none p117 .leaf) p118)))
def r13 : CallR := ⟨(.tup [(.agg [(.row 80 1 4), (.row 81 1 4), (.row 82 1 3), (.row 83 1 3), (.row 84 1 5), (.row 85 1 1), (.f v6), (.row 86 1 4), (.row 88 1 4)]), (.row 91 1 1)]), (.node none (.node none (.node (some b0) (.node none (.node none (.node none p108 p119) .leaf) p0) (.node none (.node none (.node none p110 .leaf) (.node none p112 .leaf)) p120)) (.node (some b2) (.node none (.node none (.node none p112 .leaf) (.node none p108 .leaf)) .leaf) (.node none (.node none (.node none p114 .leaf) (.node none p110 .leaf)) .leaf))) (.node (some b3) (.node (some b4) (.node none (.node none (.node none p112 .leaf) (.node none p121 .leaf)) p122) (.node none (.node none (.node none p108 .leaf) (.node none p116 .leaf)) .leaf)) (.node (some b5) (.node none (.node none (.node none p116 .leaf) (.node none p112 .leaf)) .leaf) (.node none p123 (.node none .leaf p108))))), 96, 42552979924615332320482689024⟩
def m13 : Memo := ⟨10, a13, h13, 73, r13⟩
def a14 : List AV := [(.agg [(.row 2 5 5), (.row 3 2 3), (.row 4 2 1), (.row 5 1 1), (.row 6 1 4), (.row 55 3 24)]), (.agg [(.row 80 1 4), (.row 81 1 4), (.row 82 1 3), (.row 83 1 3), (.row 84 1 5), (.row 85 1 1), (.f v6), (.row 86 1 4), (.row 88 1 4)]), (.f v17)]
def h14 : Heap := (.node none (.node none (.node (some b0) (.node none (.node none (.node none .leaf p119) .leaf) p0) (.node none p124 .leaf)) (.node (some b2) (.node none p123 .leaf) (.node none p125 .leaf))) (.node (some b3) (.node (some b4) (.node none (.node none .leaf (.node none p121 .leaf)) p122) (.node none p126 .leaf)) (.node (some b5) (.node none p124 .leaf) (.node none p123 .leaf))))
def r14 : CallR := ⟨(.tup [(.agg [(.row 104 1 4), (.row 107 1 4), (.row 108 1 3), (.row 109 1 3), (.row 110 1 5), (.row 111 1 1), (.f v6), (.row 112 1 4), (.row 114 1 4)]), (.row 115 1 1)]), (.node none (.node none (.node (some b0) (.node none (.node none (.node none .leaf p119) (.node none .leaf p110)) p128) (.node none (.node none .leaf (.node none p112 p127)) p130)) (.node (some b2) (.node none p123 p131) (.node none p125 p132))) (.node (some b3) (.node (some b4) (.node none (.node none .leaf (.node none p121 p108)) (.node none (.node none .leaf p133) (.node none p114 .leaf))) (.node none p126 p132)) (.node (some b5) (.node none (.node none .leaf (.node none p112 p114)) .leaf) (.node none p123 p134)))), 122, 3395620168614551707365976968550940672⟩
def m14 : Memo := ⟨10, a14, h14, 97, r14⟩
def a15 : List AV := [(.agg [(.row 2 5 5), (.row 3 2 3), (.row 4 2 1), (.row 5 1 1), (.row 6 1 4), (.row 55 3 24)]), (.agg [(.row 104 1 4), (.row 107 1 4), (.row 108 1 3), (.row 109 1 3), (.row 110 1 5), (.row 111 1 1), (.f v6), (.row 112 1 4), (.row 114 1 4)]), (.f v18)]
def h15 : Heap := (.node none (.node none (.node (some b0) (.node none p135 p128) (.node none .leaf p130)) (.node (some b2) (.node none .leaf p131) (.node none .leaf p132))) (.node (some b3) (.node (some b4) (.node none p118 (.node none (.node none .leaf p133) .leaf)) (.node none .leaf p132)) (.node (some b5) (.node none p136 .leaf) (.node none .leaf p134))))
def r15 : CallR := ⟨(.tup [(.agg [(.row 130 1 4), (.row 133 1 4), (.row 136 1 3), (.row 137 1 3), (.row 138 1 5), (.row 139 1 1), (.f v6), (.row 140 1 4), (.row 142 1 4)]), (.row 145 1 2)]), (.node none (.node none (.node (some b0) (.node none p135 (.node none p137 (.node (some b1) .leaf p127))) (.node none .leaf (.node none (.node none (.node none p110 .leaf) p129) .leaf))) (.node (some b2) (.node none (.node none .leaf p139) (.node none p113 (.node none .leaf p127))) (.node none p141 p132))) (.node (some b3) (.node (some b4) (.node none p118 (.node none (.node none (.node none p112 .leaf) p133) .leaf)) (.node none (.node none p137 .leaf) (.node none (.node none (.node none p108 .leaf) p112) .leaf))) (.node (some b5) (.node none (.node none (.node none p142 .leaf) (.node none .leaf p114)) (.node none p117 .leaf)) (.node none .leaf (.node none (.node none (.node none p114 .leaf) p116) .leaf))))), 150, 766562254739604179167067099152122612384006144⟩
def m15 : Memo := ⟨10, a15, h15, 123, r15⟩
def a16 : List AV := [(.agg [(.row 2 5 5), (.row 3 2 3), (.row 4 2 1), (.row 5 1 1), (.row 6 1 4), (.row 55 3 24)]), (.agg [(.row 130 1 4), (.row 133 1 4), (.row 136 1 3), (.row 137 1 3), (.row 138 1 5), (.row 139 1 1), (.f v6), (.row 140 1 4), (.row 142 1 4)]), (.f v19)]
def h16 : Heap := (.node none (.node none (.node (some b0) (.node none .leaf (.node none p137 (.node (some b1) .leaf .leaf))) (.node none .leaf (.node none p111 .leaf))) (.node (some b2) p143 (.node none p141 .leaf))) (.node (some b3) (.node (some b4) p143 (.node none (.node none p137 .leaf) (.node none p109 .leaf))) (.node (some b5) (.node none (.node none (.node none p142 .leaf) .leaf) (.node none p117 .leaf)) (.node none .leaf (.node none p115 .leaf)))))
def r16 : CallR := ⟨(.tup [(.agg [(.row 158 1 4), (.row 163 1 4), (.row 166 1 3), (.row 167 1 3), (.row 168 1 5), (.row 169 1 1), (.f v6), (.row 170 1 4), (.row 172 1 4)]), (.row 176 1 1)]), (.node none (.node none (.node (some b0) (.node none .leaf (.node none (.node none (.node none p127 .leaf) (.node none p112 .leaf)) (.node (some b1) .leaf .leaf))) (.node none p144 (.node none p111 .leaf))) (.node (some b2) (.node none .leaf (.node none (.node none (.node none p112 .leaf) (.node none p110 .leaf)) .leaf)) (.node none (.node none (.node none p140 (.node none p127 .leaf)) p139) .leaf))) (.node (some b3) (.node (some b4) (.node none p146 (.node none (.node none (.node none p112 .leaf) (.node none p116 .leaf)) .leaf)) (.node none (.node none p137 (.node none .leaf p145)) (.node none (.node none (.node none p108 .leaf) (.node none p114 .leaf)) .leaf))) (.node (some b5) (.node none (.node none (.node none p142 (.node none p138 .leaf)) .leaf) (.node none (.node none (.node none p116 .leaf) (.node none p108 .leaf)) .leaf)) (.node none (.node none p124 .leaf) (.node none p115 p147))))), 181, 1637227113572430694202552633183966203878038162196398080⟩
def m16 : Memo := ⟨10, a16, h16, 151, r16⟩
def a17 : List AV := [(.agg [(.row 2 5 5), (.row 3 2 3), (.row 4 2 1), (.row 5 1 1), (.row 6 1 4), (.row 55 3 24)]), (.agg [(.row 158 1 4), (.row 163 1 4), (.row 166 1 3), (.row 167 1 3), (.row 168 1 5), (.row 169 1 1), (.f v6), (.row 170 1 4), (.row 172 1 4)]), (.f v20)]
def h17 : Heap := (.node none (.node none (.node (some b0) (.node none .leaf (.node none p124 (.node (some b1) .leaf .leaf))) (.node none p144 .leaf)) (.node (some b2) (.node none .leaf (.node none p125 .leaf)) (.node none (.node none p148 .leaf) .leaf))) (.node (some b3) (.node (some b4) (.node none .leaf (.node none p126 .leaf)) (.node none p146 (.node none p122 .leaf))) (.node (some b5) (.node none (.node none (.node none .leaf (.node none p138 .leaf)) .leaf) (.node none p123 .leaf)) (.node none (.node none p124 .leaf) (.node none .leaf p147)))))
def r17 : CallR := ⟨(.tup [(.agg [(.row 189 1 4), (.row 194 1 4), (.row 197 1 3), (.row 198 1 3), (.row 199 1 5), (.row 200 1 1), (.f v6), (.row 201 1 4), (.row 203 1 4)]), (.row 204 1 1)]), (.node none (.node none (.node (some b0) (.node none .leaf (.node none (.node none (.node none .leaf p116) (.node none p112 .leaf)) (.node (some b1) .leaf .leaf))) (.node none p144 (.node none p149 .leaf))) (.node (some b2) (.node none (.node none p150 .leaf) (.node none (.node none (.node none .leaf p108) (.node none p110 .leaf)) .leaf)) (.node none (.node none (.node none (.node none .leaf p112) (.node none p127 .leaf)) .leaf) p152))) (.node (some b3) (.node (some b4) (.node none p154 (.node none (.node none (.node none .leaf p110) (.node none p116 .leaf)) .leaf)) (.node none (.node none p155 (.node none .leaf p145)) (.node none (.node none p153 (.node none p114 .leaf)) .leaf))) (.node (some b5) (.node none (.node none (.node none p156 (.node none p138 .leaf)) .leaf) (.node none p123 .leaf)) (.node none (.node none (.node none (.node none .leaf p112) (.node none p112 .leaf)) .leaf) (.node none .leaf p147))))), 209, 456308418189916294781374355804336003410446639474299082884775936⟩
def m17 : Memo := ⟨10, a17, h17, 182, r17⟩
def a18 : List AV := [(.agg [(.row 2 5 5), (.row 3 2 3), (.row 4 2 1), (.row 5 1 1), (.row 6 1 4), (.row 55 3 24)]), (.agg [(.row 189 1 4), (.row 194 1 4), (.row 197 1 3), (.row 198 1 3), (.row 199 1 5), (.row 200 1 1), (.f v6), (.row 201 1 4), (.row 203 1 4)]), (.f v21)]
def h18 : Heap := (.node none (.node none (.node (some b0) (.node none .leaf (.node none p134 (.node (some b1) .leaf .leaf))) (.node none .leaf (.node none p149 .leaf))) (.node (some b2) (.node none (.node none p150 .leaf) (.node none p157 .leaf)) (.node none (.node none p132 .leaf) p152))) (.node (some b3) (.node (some b4) (.node none p154 p158) p159) (.node (some b5) (.node none (.node none (.node none p156 .leaf) .leaf) .leaf) p160)))
def r18 : CallR := ⟨(.tup [(.agg [(.row 217 1 4), (.row 222 1 4), (.row 225 1 3), (.row 226 1 3), (.row 227 1 5), (.row 228 1 1), (.f v6), (.row 229 1 4), (.row 231 1 4)]), (.row 232 1 1)]), (.node none (.node none (.node (some b0) (.node none .leaf (.node none (.node none (.node none .leaf p116) (.node none .leaf p114)) (.node (some b1) .leaf .leaf))) (.node none p161 (.node none p149 .leaf))) (.node (some b2) (.node none (.node none (.node none (.node none .leaf p138) p162) .leaf) (.node none p157 p163)) (.node none (.node none (.node none (.node none .leaf p112) (.node none .leaf p108)) .leaf) (.node none p165 (.node none (.node none .leaf p138) p151))))) (.node (some b3) (.node (some b4) (.node none (.node none p131 (.node none p153 .leaf)) (.node none (.node none (.node none .leaf p110) (.node none .leaf p164)) .leaf)) (.node none (.node none (.node none (.node none .leaf p127) (.node none .leaf p110)) .leaf) (.node none p165 .leaf))) (.node (some b5) (.node none (.node none (.node none p156 (.node none .leaf p112)) .leaf) .leaf) (.node none (.node none p132 .leaf) p167)))), 238, 343345241410746916389380833099907996331136285940403444359757398999564288⟩
def m18 : Memo := ⟨10, a18, h18, 210, r18⟩
def a19 : List AV := [(.agg [(.row 2 5 5), (.row 3 2 3), (.row 4 2 1), (.row 5 1 1), (.row 6 1 4), (.row 55 3 24)]), (.agg [(.row 217 1 4), (.row 222 1 4), (.row 225 1 3), (.row 226 1 3), (.row 227 1 5), (.row 228 1 1), (.f v6), (.row 229 1 4), (.row 231 1 4)]), (.f v22)]
def h19 : Heap := (.node none (.node none (.node (some b0) p168 (.node none p161 .leaf)) (.node (some b2) (.node none (.node none (.node none .leaf p162) .leaf) (.node none .leaf p163)) (.node none (.node none p118 .leaf) (.node none p165 p150)))) (.node (some b3) (.node (some b4) (.node none (.node none p131 .leaf) .leaf) (.node none (.node none p135 .leaf) (.node none p165 .leaf))) (.node (some b5) p170 (.node none .leaf p167))))
def r19 : CallR := ⟨(.tup [(.agg [(.row 246 1 4), (.row 251 1 4), (.row 254 1 3), (.row 257 1 3), (.row 258 1 5), (.row 259 1 1), (.f v6), (.row 260 1 4), (.row 262 1 4)]), (.row 266 1 2)]), (.node none (.node none (.node (some b0) p168 (.node none p171 p172)) (.node (some b2) (.node none (.node none (.node none p113 p162) .leaf) (.node none .leaf p163)) (.node none (.node none p118 .leaf) (.node none p165 (.node none (.node none .leaf p138) (.node none .leaf p127)))))) (.node (some b3) (.node (some b4) (.node none (.node none (.node none p173 (.node none .leaf p127)) .leaf) (.node none .leaf p165)) (.node none p174 (.node none p165 .leaf))) (.node (some b5) (.node none p175 (.node none p176 .leaf)) (.node none p177 (.node none p176 (.node none p166 p178)))))), 271, 2026756543848058757286139242974924468352274997328824209059833721447991136435044352⟩
def m19 : Memo := ⟨10, a19, h19, 239, r19⟩
def a20 : List AV := [(.agg [(.row 2 5 5), (.row 3 2 3), (.row 4 2 1), (.row 5 1 1), (.row 6 1 4), (.row 55 3 24)]), (.agg [(.row 246 1 4), (.row 251 1 4), (.row 254 1 3), (.row 257 1 3), (.row 258 1 5), (.row 259 1 1), (.f v6), (.row 260 1 4), (.row 262 1 4)]), (.f v23)]
def h20 : Heap := (.node none (.node none (.node (some b0) (.node none .leaf p0) (.node none p179 p172)) (.node (some b2) (.node none (.node none (.node none p113 .leaf) .leaf) .leaf) (.node none .leaf (.node none .leaf p131)))) (.node (some b3) (.node (some b4) (.node none p180 (.node none .leaf p165)) (.node none p181 .leaf)) (.node (some b5) p182 (.node none p177 (.node none p176 (.node none .leaf p178))))))
def r20 : CallR := ⟨(.tup [(.agg [(.row 279 1 4), (.row 284 1 4), (.row 287 1 3), (.row 290 1 3), (.row 291 1 5), (.row 292 1 1), (.f v6), (.row 293 1 4), (.row 295 1 4)]), (.row 296 1 2)]), (.node none (.node none (.node (some b0) (.node none (.node none (.node none .leaf (.node none (.node none (.node (some ⟨31, .mx [(.row 289 1 1), (.f v6), (.f v6)]⟩) .leaf .leaf) .leaf) .leaf)) .leaf) (.node none (.node none .leaf p115) (.node (some b1) (.node none (.node none (.node (some ⟨31, .mx [(.row 281 1 1), (.row 300 1 2), (.f v6), (.f v6)]⟩) .leaf .leaf) .leaf) .leaf) .leaf))) (.node none (.node none (.node none p111 p117) .leaf) p172)) (.node (some b2) (.node none (.node none (.node none p113 p173) .leaf) (.node none .leaf (.node none p173 .leaf))) (.node none (.node none (.node none .leaf p109) .leaf) (.node none .leaf p131)))) (.node (some b3) (.node (some b4) (.node none p180 (.node none p184 p165)) (.node none (.node none (.node none p109 p111) .leaf) (.node none p184 (.node none (.node none (.node none (.node (some ⟨31, .mx [(.f v6), (.row 286 1 1), (.f v6), (.f v6)]⟩) .leaf .leaf) .leaf) .leaf) .leaf)))) (.node (some b5) (.node none (.node none (.node none p117 p113) .leaf) .leaf) (.node none p177 (.node none p176 (.node none p137 p178)))))), 301, 2259251071575064444639174717814246606466120063561173807983810889560980474782962288060006400⟩
def m20 : Memo := ⟨10, a20, h20, 272, r20⟩
def a32 : List AV := [(.agg [(.row 60 5 5), (.row 61 2 3), (.row 62 2 1), (.row 63 1 1), (.row 64 1 4), (.row 113 3 24)]), (.agg [(.row 121 1 4), (.row 122 1 4), (.row 123 1 3), (.row 124 1 3), (.row 125 1 5), (.row 126 1 1), (.f v6), (.row 127 1 4), (.row 128 1 4)]), (.f v16)]
def h32 : Heap := (.node none (.node none (.node none (.node none (.node none p185 .leaf) .leaf) (.node none .leaf p169)) (.node none (.node none (.node none .leaf p0) p118) (.node none .leaf (.node none .leaf (.node (some b0) .leaf p116))))) (.node none (.node none (.node none (.node none p186 .leaf) .leaf) (.node none .leaf (.node none .leaf (.node (some b3) .leaf p112)))) (.node none (.node none .leaf p118) (.node none .leaf (.node none .leaf (.node (some b4) .leaf p110))))))
def r32 : CallR := ⟨(.tup [(.agg [(.row 139 1 4), (.row 140 1 4), (.row 141 1 3), (.row 142 1 3), (.row 143 1 5), (.row 144 1 1), (.f v6), (.row 145 1 4), (.row 147 1 4)]), (.row 150 1 1)]), (.node none (.node none (.node none (.node none (.node none p185 p117) .leaf) (.node none (.node none .leaf p115) (.node none (.node none p187 .leaf) (.node none .leaf p112)))) (.node none (.node none p188 p118) (.node none .leaf (.node none p113 (.node (some b0) .leaf p116))))) (.node none (.node none (.node none (.node none p186 p111) .leaf) (.node none .leaf (.node none p109 (.node (some b3) .leaf p112)))) (.node none (.node none .leaf (.node none .leaf (.node none (.node none p119 .leaf) p108))) (.node none (.node none .leaf p189) (.node none p113 (.node (some b4) .leaf p110)))))), 155, 24530122820096231373716117108717177395281395712⟩
def m32 : Memo := ⟨10, a32, h32, 132, r32⟩
def a33 : List AV := [(.agg [(.row 60 5 5), (.row 61 2 3), (.row 62 2 1), (.row 63 1 1), (.row 64 1 4), (.row 113 3 24)]), (.agg [(.row 139 1 4), (.row 140 1 4), (.row 141 1 3), (.row 142 1 3), (.row 143 1 5), (.row 144 1 1), (.f v6), (.row 145 1 4), (.row 147 1 4)]), (.f v17)]
def h33 : Heap := (.node none (.node none (.node none (.node none (.node none p5 p117) .leaf) (.node none (.node none .leaf p115) (.node none (.node none p187 .leaf) .leaf))) (.node none (.node none p188 .leaf) (.node none .leaf (.node none p113 (.node (some b0) .leaf .leaf))))) (.node none (.node none (.node none (.node none p9 p111) .leaf) (.node none .leaf p190)) (.node none (.node none .leaf (.node none .leaf p189)) (.node none .leaf (.node none p113 (.node (some b4) .leaf .leaf))))))
def r33 : CallR := ⟨(.tup [(.agg [(.row 163 1 4), (.row 166 1 4), (.row 167 1 3), (.row 168 1 3), (.row 169 1 5), (.row 170 1 1), (.f v6), (.row 171 1 4), (.row 173 1 4)]), (.row 174 1 1)]), (.node none (.node none (.node none (.node none (.node none p5 p117) (.node none p124 .leaf)) (.node none (.node none (.node none .leaf p191) p115) (.node none (.node none p187 (.node none p108 .leaf)) .leaf))) (.node none (.node none p188 (.node none p126 .leaf)) (.node none .leaf (.node none (.node none (.node none p112 .leaf) (.node none p114 .leaf)) (.node (some b0) .leaf .leaf))))) (.node none (.node none (.node none (.node none p9 p111) (.node none p124 .leaf)) (.node none (.node none .leaf p148) p190)) (.node none (.node none (.node none .leaf p148) (.node none p125 p189)) (.node none p193 (.node none (.node none (.node none p112 .leaf) (.node none p127 .leaf)) (.node (some b4) .leaf .leaf)))))), 181, 1957441756936222190855250429110895634413898068379303936⟩
def m33 : Memo := ⟨10, a33, h33, 156, r33⟩
def a34 : List AV := [(.agg [(.row 60 5 5), (.row 61 2 3), (.row 62 2 1), (.row 63 1 1), (.row 64 1 4), (.row 113 3 24)]), (.agg [(.row 163 1 4), (.row 166 1 4), (.row 167 1 3), (.row 168 1 3), (.row 169 1 5), (.row 170 1 1), (.f v6), (.row 171 1 4), (.row 173 1 4)]), (.f v18)]
def h34 : Heap := (.node none (.node none (.node none (.node none (.node none p5 .leaf) (.node none p124 .leaf)) (.node none (.node none (.node none .leaf p191) .leaf) (.node none p123 .leaf))) (.node none (.node none (.node none .leaf p0) (.node none p126 .leaf)) (.node none .leaf (.node none p122 (.node (some b0) .leaf .leaf))))) (.node none (.node none (.node none (.node none p9 .leaf) (.node none p124 .leaf)) (.node none (.node none .leaf p148) p11)) (.node none (.node none (.node none .leaf p148) (.node none p125 .leaf)) (.node none p193 p12))))
def r34 : CallR := ⟨(.tup [(.agg [(.row 189 1 4), (.row 192 1 4), (.row 195 1 3), (.row 196 1 3), (.row 197 1 5), (.row 198 1 1), (.f v6), (.row 199 1 4), (.row 201 1 4)]), (.row 204 1 2)]), (.node none (.node none (.node none (.node none (.node none p194 .leaf) (.node none (.node none (.node none .leaf p108) (.node none p112 .leaf)) .leaf)) (.node none (.node none (.node none (.node none .leaf p112) p191) .leaf) (.node none p123 .leaf))) (.node none (.node none (.node none .leaf p0) (.node none (.node none (.node none .leaf p114) (.node none p116 .leaf)) .leaf)) (.node none (.node none p134 .leaf) (.node none p122 p195)))) (.node none (.node none (.node none p197 (.node none p124 .leaf)) (.node none (.node none p132 p148) p198)) (.node none (.node none (.node none p155 p148) (.node none p125 .leaf)) (.node none (.node none (.node none (.node none .leaf p110) p192) .leaf) p12)))), 209, 441893054054600782407225465393939597485867580196087427625910272⟩
def m34 : Memo := ⟨10, a34, h34, 182, r34⟩
def a35 : List AV := [(.agg [(.row 60 5 5), (.row 61 2 3), (.row 62 2 1), (.row 63 1 1), (.row 64 1 4), (.row 113 3 24)]), (.agg [(.row 189 1 4), (.row 192 1 4), (.row 195 1 3), (.row 196 1 3), (.row 197 1 5), (.row 198 1 1), (.f v6), (.row 199 1 4), (.row 201 1 4)]), (.f v22)]
def h35 : Heap := (.node none (.node none (.node none (.node none (.node none p194 .leaf) (.node none p157 .leaf)) p160) (.node none (.node none (.node none .leaf p0) (.node none p149 .leaf)) (.node none (.node none p134 .leaf) (.node none .leaf p195)))) (.node none (.node none (.node none p197 .leaf) (.node none (.node none p132 .leaf) p11)) (.node none p159 (.node none p158 p12))))
def r35 : CallR := ⟨(.tup [(.agg [(.row 217 1 4), (.row 222 1 4), (.row 225 1 3), (.row 226 1 3), (.row 227 1 5), (.row 228 1 1), (.f v6), (.row 229 1 4), (.row 231 1 4)]), (.row 235 1 2)]), (.node none (.node none (.node none (.node none (.node none p194 (.node none .leaf p199)) (.node none (.node none (.node none .leaf p108) (.node none .leaf p114)) .leaf)) (.node none (.node none (.node none (.node none .leaf p112) (.node none .leaf p116)) .leaf) (.node none (.node none .leaf p199) p155))) (.node none (.node none (.node none p169 p0) (.node none p149 p200)) (.node none (.node none (.node none (.node none .leaf p116) (.node none .leaf p108)) .leaf) (.node none .leaf p195)))) (.node none (.node none (.node none (.node none (.node none p196 (.node none .leaf p127)) p150) .leaf) (.node none (.node none (.node none (.node none .leaf p112) (.node none .leaf p110)) .leaf) p11)) (.node none (.node none (.node none (.node none (.node none .leaf p127) (.node none .leaf p112)) .leaf) .leaf) (.node none p158 p201)))), 240, 943794646086525920523723843085344802604007113036937461480226903006642176⟩
def m35 : Memo := ⟨10, a35, h35, 210, r35⟩
def a36 : List AV := [(.agg [(.row 60 5 5), (.row 61 2 3), (.row 62 2 1), (.row 63 1 1), (.row 64 1 4), (.row 113 3 24)]), (.agg [(.row 217 1 4), (.row 222 1 4), (.row 225 1 3), (.row 226 1 3), (.row 227 1 5), (.row 228 1 1), (.f v6), (.row 229 1 4), (.row 231 1 4)]), (.f v20)]
def h36 : Heap := (.node none (.node none (.node none (.node none (.node none p5 (.node none .leaf p199)) (.node none p136 .leaf)) (.node none p161 (.node none .leaf p155))) (.node none (.node none (.node none p169 p0) (.node none .leaf p200)) (.node none (.node none p118 .leaf) p7))) (.node none (.node none (.node none (.node none (.node none (.node (some b5) .leaf .leaf) (.node none .leaf p127)) .leaf) .leaf) (.node none (.node none p135 .leaf) p11)) (.node none p170 (.node none .leaf p201))))
def r36 : CallR := ⟨(.tup [(.agg [(.row 248 1 4), (.row 253 1 4), (.row 256 1 3), (.row 257 1 3), (.row 258 1 5), (.row 259 1 1), (.f v6), (.row 260 1 4), (.row 262 1 4)]), (.row 263 1 1)]), (.node none (.node none (.node none (.node none (.node none (.node none p202 .leaf) (.node none .leaf p199)) (.node none (.node none (.node none p145 .leaf) (.node none .leaf p114)) .leaf)) (.node none p171 (.node none p203 p155))) (.node none (.node none (.node none (.node none p113 (.node none .leaf p112)) p0) (.node none .leaf p200)) (.node none (.node none p118 .leaf) p205))) (.node none (.node none (.node none (.node none (.node none p206 (.node none .leaf p127)) .leaf) p207) (.node none p174 p208)) (.node none (.node none p175 .leaf) (.node none p209 p201)))), 268, 263043894032144317957671785331083901858565310126004948979838579502163688599584768⟩
def m36 : Memo := ⟨10, a36, h36, 241, r36⟩
def a37 : List AV := [(.agg [(.row 60 5 5), (.row 61 2 3), (.row 62 2 1), (.row 63 1 1), (.row 64 1 4), (.row 113 3 24)]), (.agg [(.row 248 1 4), (.row 253 1 4), (.row 256 1 3), (.row 257 1 3), (.row 258 1 5), (.row 259 1 1), (.f v6), (.row 260 1 4), (.row 262 1 4)]), (.f v23)]
def h37 : Heap := (.node none (.node none (.node none (.node none (.node none (.node none p202 .leaf) .leaf) .leaf) (.node none p179 (.node none p203 .leaf))) (.node none (.node none (.node none (.node none p113 .leaf) p0) .leaf) (.node none .leaf p205))) (.node none (.node none (.node none (.node none (.node none p206 .leaf) .leaf) p207) (.node none p181 p208)) (.node none p182 (.node none p209 p12))))
def r37 : CallR := ⟨(.tup [(.agg [(.row 276 1 4), (.row 281 1 4), (.row 284 1 3), (.row 285 1 3), (.row 286 1 5), (.row 287 1 1), (.f v6), (.row 288 1 4), (.row 290 1 4)]), (.row 291 1 2)]), (.node none (.node none (.node none (.node none (.node none (.node none p202 p111) .leaf) p211) (.node none (.node none (.node none p111 p210) .leaf) (.node none p203 (.node none p137 .leaf)))) (.node none (.node none (.node none (.node none p113 .leaf) p0) (.node none .leaf (.node none (.node none (.node none (.node (some ⟨31, .mx [(.f v6), (.row 283 1 1), (.f v6), (.f v6)]⟩) .leaf .leaf) .leaf) .leaf) .leaf))) (.node none .leaf (.node none .leaf (.node (some b0) p113 p204))))) (.node none (.node none (.node none (.node none (.node none p206 p109) .leaf) p207) (.node none (.node none (.node none p109 .leaf) (.node none (.node none (.node none (.node (some ⟨31, .mx [(.row 278 1 1), (.row 295 1 2), (.f v6), (.f v6)]⟩) .leaf .leaf) .leaf) .leaf) .leaf)) (.node none .leaf (.node (some b3) p113 p199)))) (.node none (.node none (.node none (.node none p117 p115) .leaf) .leaf) (.node none (.node none (.node none p115 .leaf) p203) (.node none .leaf (.node (some b4) p117 .leaf)))))), 296, 70608850640865169351973424797253500530483244724326266833018765035748258557657634702360576⟩
def m37 : Memo := ⟨10, a37, h37, 269, r37⟩
def a2 : List AV := [(.agg [(.row 2 5 5), (.row 3 2 3), (.row 4 2 1), (.row 5 1 1), (.row 6 1 4), (.row 55 3 24), (.row 57 7 8)])]
def h2 : Heap := p4
def r2 : CallR := ⟨(.tup [(.row 71 1 8), (.f (ri 0))]), (.node none (.node none (.node (some b0) (.node none .leaf (.node none (.node none (.node (some ⟨31, .mx [(.row 91 1 1), (.row 115 1 1), (.row 145 1 2), (.row 176 1 1), (.row 204 1 1), (.row 232 1 1), (.row 266 1 2), (.row 296 1 2)]⟩) .leaf .leaf) .leaf) (.node (some b1) .leaf .leaf))) (.node none p131 p120)) (.node (some b2) (.node none (.node none .leaf p139) p2) .leaf)) (.node (some b3) (.node (some b4) (.node none p146 (.node none (.node none .leaf (.node none p183 p164)) .leaf)) (.node none .leaf (.node none (.node none p153 .leaf) .leaf))) (.node (some b5) (.node none .leaf (.node none p176 .leaf)) .leaf))), 297, 127314748639476479777691386011824396305972763865537442978280739097705853018712671879430144⟩
def m2 : Memo := ⟨31, a2, h2, 59, r2⟩
def a23 : List AV := [(.agg [(.row 60 5 5), (.row 61 2 3), (.row 62 2 1), (.row 63 1 1), (.row 64 1 4), (.row 113 3 24), (.row 116 7 6)])]
def h23 : Heap := (.node none (.node none p6 p8) p14)
def r23 : CallR := ⟨(.tup [(.row 130 1 6), (.f (ri 0))]), (.node none (.node none (.node none (.node none (.node none p5 .leaf) (.node none p203 .leaf)) (.node none p211 (.node none (.node none .leaf p199) .leaf))) p8) (.node none (.node none (.node none (.node none p9 .leaf) .leaf) (.node none p10 p198)) (.node none (.node none (.node none (.node none (.node none (.node (some ⟨31, .mx [(.row 150 1 1), (.row 174 1 1), (.row 204 1 2), (.row 235 1 2), (.row 263 1 1), (.row 291 1 2)]⟩) .leaf .leaf) .leaf) .leaf) .leaf) .leaf) (.node none (.node none .leaf p189) (.node none p148 (.node (some b4) .leaf .leaf)))))), 292, 3978585906099680614833501799427171833482836971763504121069914541277591012905688993103872⟩
def m23 : Memo := ⟨31, a23, h23, 118, r23⟩
def a1 : List AV := [(.agg [(.row 2 5 5), (.row 3 2 3), (.row 4 2 1), (.row 5 1 1), (.row 6 1 4), (.row 55 3 24), (.row 57 7 8)])]
def h1 : Heap := p4
def r1 : CallR := ⟨(.tup [(.f v6), (.f (ri 0))]), p4, 58, 0⟩
def m1 : Memo := ⟨15, a1, h1, 58, r1⟩
def a22 : List AV := [(.agg [(.row 60 5 5), (.row 61 2 3), (.row 62 2 1), (.row 63 1 1), (.row 64 1 4), (.row 113 3 24), (.row 116 7 6)])]
def h22 : Heap := (.node none (.node none p6 p8) p14)
def r22 : CallR := ⟨(.tup [(.row 295 2 1), (.f (ri 0))]), (.node none (.node none (.node none (.node none (.node none p5 .leaf) (.node none (.node none .leaf (.node none (.node none (.node (some ⟨56, .fz [(ri 4), (ri 5)]⟩) .leaf .leaf) .leaf) .leaf)) .leaf)) .leaf) p8) p14), 296, 63657374260452690195888927762793067532858387302060507832379389042324415617604272068231168⟩
def m22 : Memo := ⟨15, a22, h22, 117, r22⟩
def rr : CallR := ⟨(.f v4), .leaf, 0, 0⟩
end Go.Proofs.YtjjplipoacljoaaDoor.AI.M8
namespace Go.Proofs.YtjjplipoacljoaaDoor.AI.M8
set_option maxRecDepth 100000
theorem k0 : runF tbl (memoF []) inert 1000 50 16 a0 h0 0 = some r0 := by kernel_rfl
theorem s0 : Spec Go.Proofs.Tryd.prog m0.f m0.args m0.h m0.nx m0.r := runF_sound (by kernel_rfl) tblOK (memo_ok (fun m hm => by cases hm)) inert_ok _ _ _ _ _ _ k0
theorem k21 : runF tbl (memoF []) inert 1000 50 16 a21 h21 58 = some r21 := by kernel_rfl
theorem s21 : Spec Go.Proofs.Tryd.prog m21.f m21.args m21.h m21.nx m21.r := runF_sound (by kernel_rfl) tblOK (memo_ok (fun m hm => by cases hm)) inert_ok _ _ _ _ _ _ k21
theorem k4 : runF tbl (memoF [m0, m21]) inert 1000 50 46 a4 h4 61 = some r4 := by kernel_rfl
theorem s4 : Spec Go.Proofs.Tryd.prog m4.f m4.args m4.h m4.nx m4.r := runF_sound (by kernel_rfl) tblOK (memo_ok (fun m hm => by
  simp only [List.mem_cons, List.not_mem_nil, or_false] at hm
  rcases hm with rfl | rfl
  · exact s0
  · exact s21
)) inert_ok _ _ _ _ _ _ k4
theorem k25 : runF tbl (memoF [m0, m21]) inert 1000 50 46 a25 h25 120 = some r25 := by kernel_rfl
theorem s25 : Spec Go.Proofs.Tryd.prog m25.f m25.args m25.h m25.nx m25.r := runF_sound (by kernel_rfl) tblOK (memo_ok (fun m hm => by
  simp only [List.mem_cons, List.not_mem_nil, or_false] at hm
  rcases hm with rfl | rfl
  · exact s0
  · exact s21
)) inert_ok _ _ _ _ _ _ k25
theorem k5 : runF tbl (memoF [m0, m21, m4, m25]) inert 1000 50 48 a5 h5 90 = some r5 := by kernel_rfl
theorem s5 : Spec Go.Proofs.Tryd.prog m5.f m5.args m5.h m5.nx m5.r := runF_sound (by kernel_rfl) tblOK (memo_ok (fun m hm => by
  simp only [List.mem_cons, List.not_mem_nil, or_false] at hm
  rcases hm with rfl | rfl | rfl | rfl
  · exact s0
  · exact s21
  · exact s4
  · exact s25
)) inert_ok _ _ _ _ _ _ k5
theorem k6 : runF tbl (memoF [m0, m21, m4, m25]) inert 1000 50 48 a6 h6 119 = some r6 := by kernel_rfl
theorem s6 : Spec Go.Proofs.Tryd.prog m6.f m6.args m6.h m6.nx m6.r := runF_sound (by kernel_rfl) tblOK (memo_ok (fun m hm => by
  simp only [List.mem_cons, List.not_mem_nil, or_false] at hm
  rcases hm with rfl | rfl | rfl | rfl
  · exact s0
  · exact s21
  · exact s4
  · exact s25
)) inert_ok _ _ _ _ _ _ k6
theorem k7 : runF tbl (memoF [m0, m21, m4, m25]) inert 1000 50 48 a7 h7 148 = some r7 := by kernel_rfl
theorem s7 : Spec Go.Proofs.Tryd.prog m7.f m7.args m7.h m7.nx m7.r := runF_sound (by kernel_rfl) tblOK (memo_ok (fun m hm => by
  simp only [List.mem_cons, List.not_mem_nil, or_false] at hm
  rcases hm with rfl | rfl | rfl | rfl
  · exact s0
  · exact s21
  · exact s4
  · exact s25
)) inert_ok _ _ _ _ _ _ k7
end Go.Proofs.YtjjplipoacljoaaDoor.AI.M8
namespace Go.Proofs.YtjjplipoacljoaaDoor.AI.M8
set_option maxRecDepth 100000
theorem k8 : runF tbl (memoF [m0, m21, m4, m25]) inert 1000 50 48 a8 h8 177 = some r8 := by kernel_rfl
theorem s8 : Spec Go.Proofs.Tryd.prog m8.f m8.args m8.h m8.nx m8.r := runF_sound (by kernel_rfl) tblOK (memo_ok (fun m hm => by
  simp only [List.mem_cons, List.not_mem_nil, or_false] at hm
  rcases hm with rfl | rfl | rfl | rfl
  · exact s0
  · exact s21
  · exact s4
  · exact s25
)) inert_ok _ _ _ _ _ _ k8
theorem k9 : runF tbl (memoF [m0, m21, m4, m25]) inert 1000 50 48 a9 h9 206 = some r9 := by kernel_rfl
theorem s9 : Spec Go.Proofs.Tryd.prog m9.f m9.args m9.h m9.nx m9.r := runF_sound (by kernel_rfl) tblOK (memo_ok (fun m hm => by
  simp only [List.mem_cons, List.not_mem_nil, or_false] at hm
  rcases hm with rfl | rfl | rfl | rfl
  · exact s0
  · exact s21
  · exact s4
  · exact s25
)) inert_ok _ _ _ _ _ _ k9
theorem k10 : runF tbl (memoF [m0, m21, m4, m25]) inert 1000 50 48 a10 h10 235 = some r10 := by kernel_rfl
theorem s10 : Spec Go.Proofs.Tryd.prog m10.f m10.args m10.h m10.nx m10.r := runF_sound (by kernel_rfl) tblOK (memo_ok (fun m hm => by
  simp only [List.mem_cons, List.not_mem_nil, or_false] at hm
  rcases hm with rfl | rfl | rfl | rfl
  · exact s0
  · exact s21
  · exact s4
  · exact s25
)) inert_ok _ _ _ _ _ _ k10
theorem k11 : runF tbl (memoF [m0, m21, m4, m25]) inert 1000 50 48 a11 h11 264 = some r11 := by kernel_rfl
theorem s11 : Spec Go.Proofs.Tryd.prog m11.f m11.args m11.h m11.nx m11.r := runF_sound (by kernel_rfl) tblOK (memo_ok (fun m hm => by
  simp only [List.mem_cons, List.not_mem_nil, or_false] at hm
  rcases hm with rfl | rfl | rfl | rfl
  · exact s0
  · exact s21
  · exact s4
  · exact s25
)) inert_ok _ _ _ _ _ _ k11
theorem k12 : runF tbl (memoF [m0, m21, m4, m25]) inert 1000 50 48 a12 h12 293 = some r12 := by kernel_rfl
theorem s12 : Spec Go.Proofs.Tryd.prog m12.f m12.args m12.h m12.nx m12.r := runF_sound (by kernel_rfl) tblOK (memo_ok (fun m hm => by
  simp only [List.mem_cons, List.not_mem_nil, or_false] at hm
  rcases hm with rfl | rfl | rfl | rfl
  · exact s0
  · exact s21
  · exact s4
  · exact s25
)) inert_ok _ _ _ _ _ _ k12
theorem k26 : runF tbl (memoF [m0, m21, m4, m25]) inert 1000 50 48 a26 h26 149 = some r26 := by kernel_rfl
theorem s26 : Spec Go.Proofs.Tryd.prog m26.f m26.args m26.h m26.nx m26.r := runF_sound (by kernel_rfl) tblOK (memo_ok (fun m hm => by
  simp only [List.mem_cons, List.not_mem_nil, or_false] at hm
  rcases hm with rfl | rfl | rfl | rfl
  · exact s0
  · exact s21
  · exact s4
  · exact s25
)) inert_ok _ _ _ _ _ _ k26
theorem k27 : runF tbl (memoF [m0, m21, m4, m25]) inert 1000 50 48 a27 h27 178 = some r27 := by kernel_rfl
theorem s27 : Spec Go.Proofs.Tryd.prog m27.f m27.args m27.h m27.nx m27.r := runF_sound (by kernel_rfl) tblOK (memo_ok (fun m hm => by
  simp only [List.mem_cons, List.not_mem_nil, or_false] at hm
  rcases hm with rfl | rfl | rfl | rfl
  · exact s0
  · exact s21
  · exact s4
  · exact s25
)) inert_ok _ _ _ _ _ _ k27
end Go.Proofs.YtjjplipoacljoaaDoor.AI.M8
namespace Go.Proofs.YtjjplipoacljoaaDoor.AI.M8
set_option maxRecDepth 100000
theorem k28 : runF tbl (memoF [m0, m21, m4, m25]) inert 1000 50 48 a28 h28 207 = some r28 := by kernel_rfl
theorem s28 : Spec Go.Proofs.Tryd.prog m28.f m28.args m28.h m28.nx m28.r := runF_sound (by kernel_rfl) tblOK (memo_ok (fun m hm => by
  simp only [List.mem_cons, List.not_mem_nil, or_false] at hm
  rcases hm with rfl | rfl | rfl | rfl
  · exact s0
  · exact s21
  · exact s4
  · exact s25
)) inert_ok _ _ _ _ _ _ k28
theorem k29 : runF tbl (memoF [m0, m21, m4, m25]) inert 1000 50 48 a29 h29 236 = some r29 := by kernel_rfl
theorem s29 : Spec Go.Proofs.Tryd.prog m29.f m29.args m29.h m29.nx m29.r := runF_sound (by kernel_rfl) tblOK (memo_ok (fun m hm => by
  simp only [List.mem_cons, List.not_mem_nil, or_false] at hm
  rcases hm with rfl | rfl | rfl | rfl
  · exact s0
  · exact s21
  · exact s4
  · exact s25
)) inert_ok _ _ _ _ _ _ k29
theorem k30 : runF tbl (memoF [m0, m21, m4, m25]) inert 1000 50 48 a30 h30 265 = some r30 := by kernel_rfl
theorem s30 : Spec Go.Proofs.Tryd.prog m30.f m30.args m30.h m30.nx m30.r := runF_sound (by kernel_rfl) tblOK (memo_ok (fun m hm => by
  simp only [List.mem_cons, List.not_mem_nil, or_false] at hm
  rcases hm with rfl | rfl | rfl | rfl
  · exact s0
  · exact s21
  · exact s4
  · exact s25
)) inert_ok _ _ _ _ _ _ k30
theorem k31 : runF tbl (memoF [m0, m21, m4, m25]) inert 1000 50 48 a31 h31 294 = some r31 := by kernel_rfl
theorem s31 : Spec Go.Proofs.Tryd.prog m31.f m31.args m31.h m31.nx m31.r := runF_sound (by kernel_rfl) tblOK (memo_ok (fun m hm => by
  simp only [List.mem_cons, List.not_mem_nil, or_false] at hm
  rcases hm with rfl | rfl | rfl | rfl
  · exact s0
  · exact s21
  · exact s4
  · exact s25
)) inert_ok _ _ _ _ _ _ k31
theorem k3 : runF tbl (memoF [m0, m21, m4, m25, m5, m6, m7, m8, m9, m10, m11, m12, m26, m27, m28, m29, m30, m31]) inert 1000 50 44 a3 h3 60 = some r3 := by kernel_rfl
theorem s3 : Spec Go.Proofs.Tryd.prog m3.f m3.args m3.h m3.nx m3.r := runF_sound (by kernel_rfl) tblOK (memo_ok (fun m hm => by
  simp only [List.mem_cons, List.not_mem_nil, or_false] at hm
  rcases hm with rfl | rfl | rfl | rfl | rfl | rfl | rfl | rfl | rfl | rfl | rfl | rfl | rfl | rfl | rfl | rfl | rfl | rfl
  · exact s0
  · exact s21
  · exact s4
  · exact s25
  · exact s5
  · exact s6
  · exact s7
  · exact s8
  · exact s9
  · exact s10
  · exact s11
  · exact s12
  · exact s26
  · exact s27
  · exact s28
  · exact s29
  · exact s30
  · exact s31
)) inert_ok _ _ _ _ _ _ k3
theorem k24 : runF tbl (memoF [m0, m21, m4, m25, m5, m6, m7, m8, m9, m10, m11, m12, m26, m27, m28, m29, m30, m31]) inert 1000 50 44 a24 h24 119 = some r24 := by kernel_rfl
theorem s24 : Spec Go.Proofs.Tryd.prog m24.f m24.args m24.h m24.nx m24.r := runF_sound (by kernel_rfl) tblOK (memo_ok (fun m hm => by
  simp only [List.mem_cons, List.not_mem_nil, or_false] at hm
  rcases hm with rfl | rfl | rfl | rfl | rfl | rfl | rfl | rfl | rfl | rfl | rfl | rfl | rfl | rfl | rfl | rfl | rfl | rfl
  · exact s0
  · exact s21
  · exact s4
  · exact s25
  · exact s5
  · exact s6
  · exact s7
  · exact s8
  · exact s9
  · exact s10
  · exact s11
  · exact s12
  · exact s26
  · exact s27
  · exact s28
  · exact s29
  · exact s30
  · exact s31
)) inert_ok _ _ _ _ _ _ k24
theorem k13 : runF tbl (memoF [m0, m21, m4, m25, m5, m6, m7, m8, m9, m10, m11, m12, m26, m27, m28, m29, m30, m31, m3, m24]) inert 1000 50 10 a13 h13 73 = some r13 := by kernel_rfl
theorem s13 : Spec Go.Proofs.Tryd.prog m13.f m13.args m13.h m13.nx m13.r := runF_sound (by kernel_rfl) tblOK (memo_ok (fun m hm => by
  simp only [List.mem_cons, List.not_mem_nil, or_false] at hm
  rcases hm with rfl | rfl | rfl | rfl | rfl | rfl | rfl | rfl | rfl | rfl | rfl | rfl | rfl | rfl | rfl | rfl | rfl | rfl | rfl | rfl
  · exact s0
  · exact s21
  · exact s4
  · exact s25
  · exact s5
  · exact s6
  · exact s7
  · exact s8
  · exact s9
  · exact s10
  · exact s11
  · exact s12
  · exact s26
  · exact s27
  · exact s28
  · exact s29
  · exact s30
  · exact s31
  · exact s3
  · exact s24
)) inert_ok _ _ _ _ _ _ k13
end Go.Proofs.YtjjplipoacljoaaDoor.AI.M8
namespace Go.Proofs.YtjjplipoacljoaaDoor.AI.M8
set_option maxRecDepth 100000
theorem k14 : runF tbl (memoF [m0, m21, m4, m25, m5, m6, m7, m8, m9, m10, m11, m12, m26, m27, m28, m29, m30, m31, m3, m24]) inert 1000 50 10 a14 h14 97 = some r14 := by kernel_rfl
theorem s14 : Spec Go.Proofs.Tryd.prog m14.f m14.args m14.h m14.nx m14.r := runF_sound (by kernel_rfl) tblOK (memo_ok (fun m hm => by
  simp only [List.mem_cons, List.not_mem_nil, or_false] at hm
  rcases hm with rfl | rfl | rfl | rfl | rfl | rfl | rfl | rfl | rfl | rfl | rfl | rfl | rfl | rfl | rfl | rfl | rfl | rfl | rfl | rfl
  · exact s0
  · exact s21
  · exact s4
  · exact s25
  · exact s5
  · exact s6
  · exact s7
  · exact s8
  · exact s9
  · exact s10
  · exact s11
  · exact s12
  · exact s26
  · exact s27
  · exact s28
  · exact s29
  · exact s30
  · exact s31
  · exact s3
  · exact s24
)) inert_ok _ _ _ _ _ _ k14
theorem k15 : runF tbl (memoF [m0, m21, m4, m25, m5, m6, m7, m8, m9, m10, m11, m12, m26, m27, m28, m29, m30, m31, m3, m24]) inert 1000 50 10 a15 h15 123 = some r15 := by kernel_rfl
theorem s15 : Spec Go.Proofs.Tryd.prog m15.f m15.args m15.h m15.nx m15.r := runF_sound (by kernel_rfl) tblOK (memo_ok (fun m hm => by
  simp only [List.mem_cons, List.not_mem_nil, or_false] at hm
  rcases hm with rfl | rfl | rfl | rfl | rfl | rfl | rfl | rfl | rfl | rfl | rfl | rfl | rfl | rfl | rfl | rfl | rfl | rfl | rfl | rfl
  · exact s0
  · exact s21
  · exact s4
  · exact s25
  · exact s5
  · exact s6
  · exact s7
  · exact s8
  · exact s9
  · exact s10
  · exact s11
  · exact s12
  · exact s26
  · exact s27
  · exact s28
  · exact s29
  · exact s30
  · exact s31
  · exact s3
  · exact s24
)) inert_ok _ _ _ _ _ _ k15
theorem k16 : runF tbl (memoF [m0, m21, m4, m25, m5, m6, m7, m8, m9, m10, m11, m12, m26, m27, m28, m29, m30, m31, m3, m24]) inert 1000 50 10 a16 h16 151 = some r16 := by kernel_rfl
theorem s16 : Spec Go.Proofs.Tryd.prog m16.f m16.args m16.h m16.nx m16.r := runF_sound (by kernel_rfl) tblOK (memo_ok (fun m hm => by
  simp only [List.mem_cons, List.not_mem_nil, or_false] at hm
  rcases hm with rfl | rfl | rfl | rfl | rfl | rfl | rfl | rfl | rfl | rfl | rfl | rfl | rfl | rfl | rfl | rfl | rfl | rfl | rfl | rfl
  · exact s0
  · exact s21
  · exact s4
  · exact s25
  · exact s5
  · exact s6
  · exact s7
  · exact s8
  · exact s9
  · exact s10
  · exact s11
  · exact s12
  · exact s26
  · exact s27
  · exact s28
  · exact s29
  · exact s30
  · exact s31
  · exact s3
  · exact s24
)) inert_ok _ _ _ _ _ _ k16
theorem k17 : runF tbl (memoF [m0, m21, m4, m25, m5, m6, m7, m8, m9, m10, m11, m12, m26, m27, m28, m29, m30, m31, m3, m24]) inert 1000 50 10 a17 h17 182 = some r17 := by kernel_rfl
theorem s17 : Spec Go.Proofs.Tryd.prog m17.f m17.args m17.h m17.nx m17.r := runF_sound (by kernel_rfl) tblOK (memo_ok (fun m hm => by
  simp only [List.mem_cons, List.not_mem_nil, or_false] at hm
  rcases hm with rfl | rfl | rfl | rfl | rfl | rfl | rfl | rfl | rfl | rfl | rfl | rfl | rfl | rfl | rfl | rfl | rfl | rfl | rfl | rfl
  · exact s0
  · exact s21
  · exact s4
  · exact s25
  · exact s5
  · exact s6
  · exact s7
  · exact s8
  · exact s9
  · exact s10
  · exact s11
  · exact s12
  · exact s26
  · exact s27
  · exact s28
  · exact s29
  · exact s30
  · exact s31
  · exact s3
  · exact s24
)) inert_ok _ _ _ _ _ _ k17
theorem k18 : runF tbl (memoF [m0, m21, m4, m25, m5, m6, m7, m8, m9, m10, m11, m12, m26, m27, m28, m29, m30, m31, m3, m24]) inert 1000 50 10 a18 h18 210 = some r18 := by kernel_rfl
theorem s18 : Spec Go.Proofs.Tryd.prog m18.f m18.args m18.h m18.nx m18.r := runF_sound (by kernel_rfl) tblOK (memo_ok (fun m hm => by
  simp only [List.mem_cons, List.not_mem_nil, or_false] at hm
  rcases hm with rfl | rfl | rfl | rfl | rfl | rfl | rfl | rfl | rfl | rfl | rfl | rfl | rfl | rfl | rfl | rfl | rfl | rfl | rfl | rfl
  · exact s0
  · exact s21
  · exact s4
  · exact s25
  · exact s5
  · exact s6
  · exact s7
  · exact s8
  · exact s9
  · exact s10
  · exact s11
  · exact s12
  · exact s26
  · exact s27
  · exact s28
  · exact s29
  · exact s30
  · exact s31
  · exact s3
  · exact s24
)) inert_ok _ _ _ _ _ _ k18
theorem k19 : runF tbl (memoF [m0, m21, m4, m25, m5, m6, m7, m8, m9, m10, m11, m12, m26, m27, m28, m29, m30, m31, m3, m24]) inert 1000 50 10 a19 h19 239 = some r19 := by kernel_rfl
theorem s19 : Spec Go.Proofs.Tryd.prog m19.f m19.args m19.h m19.nx m19.r := runF_sound (by kernel_rfl) tblOK (memo_ok (fun m hm => by
  simp only [List.mem_cons, List.not_mem_nil, or_false] at hm
  rcases hm with rfl | rfl | rfl | rfl | rfl | rfl | rfl | rfl | rfl | rfl | rfl | rfl | rfl | rfl | rfl | rfl | rfl | rfl | rfl | rfl
  · exact s0
  · exact s21
  · exact s4
  · exact s25
  · exact s5
  · exact s6
  · exact s7
  · exact s8
  · exact s9
  · exact s10
  · exact s11
  · exact s12
  · exact s26
  · exact s27
  · exact s28
  · exact s29
  · exact s30
  · exact s31
  · exact s3
  · exact s24
)) inert_ok _ _ _ _ _ _ k19
theorem k20 : runF tbl (memoF [m0, m21, m4, m25, m5, m6, m7, m8, m9, m10, m11, m12, m26, m27, m28, m29, m30, m31, m3, m24]) inert 1000 50 10 a20 h20 272 = some r20 := by kernel_rfl
theorem s20 : Spec Go.Proofs.Tryd.prog m20.f m20.args m20.h m20.nx m20.r := runF_sound (by kernel_rfl) tblOK (memo_ok (fun m hm => by
  simp only [List.mem_cons, List.not_mem_nil, or_false] at hm
  rcases hm with rfl | rfl | rfl | rfl | rfl | rfl | rfl | rfl | rfl | rfl | rfl | rfl | rfl | rfl | rfl | rfl | rfl | rfl | rfl | rfl
  · exact s0
  · exact s21
  · exact s4
  · exact s25
  · exact s5
  · exact s6
  · exact s7
  · exact s8
  · exact s9
  · exact s10
  · exact s11
  · exact s12
  · exact s26
  · exact s27
  · exact s28
  · exact s29
  · exact s30
  · exact s31
  · exact s3
  · exact s24
)) inert_ok _ _ _ _ _ _ k20
end Go.Proofs.YtjjplipoacljoaaDoor.AI.M8
namespace Go.Proofs.YtjjplipoacljoaaDoor.AI.M8
set_option maxRecDepth 100000
theorem k32 : runF tbl (memoF [m0, m21, m4, m25, m5, m6, m7, m8, m9, m10, m11, m12, m26, m27, m28, m29, m30, m31, m3, m24]) inert 1000 50 10 a32 h32 132 = some r32 := by kernel_rfl
theorem s32 : Spec Go.Proofs.Tryd.prog m32.f m32.args m32.h m32.nx m32.r := runF_sound (by kernel_rfl) tblOK (memo_ok (fun m hm => by
  simp only [List.mem_cons, List.not_mem_nil, or_false] at hm
  rcases hm with rfl | rfl | rfl | rfl | rfl | rfl | rfl | rfl | rfl | rfl | rfl | rfl | rfl | rfl | rfl | rfl | rfl | rfl | rfl | rfl
  · exact s0
  · exact s21
  · exact s4
  · exact s25
  · exact s5
  · exact s6
  · exact s7
  · exact s8
  · exact s9
  · exact s10
  · exact s11
  · exact s12
  · exact s26
  · exact s27
  · exact s28
  · exact s29
  · exact s30
  · exact s31
  · exact s3
  · exact s24
)) inert_ok _ _ _ _ _ _ k32
theorem k33 : runF tbl (memoF [m0, m21, m4, m25, m5, m6, m7, m8, m9, m10, m11, m12, m26, m27, m28, m29, m30, m31, m3, m24]) inert 1000 50 10 a33 h33 156 = some r33 := by kernel_rfl
theorem s33 : Spec Go.Proofs.Tryd.prog m33.f m33.args m33.h m33.nx m33.r := runF_sound (by kernel_rfl) tblOK (memo_ok (fun m hm => by
  simp only [List.mem_cons, List.not_mem_nil, or_false] at hm
  rcases hm with rfl | rfl | rfl | rfl | rfl | rfl | rfl | rfl | rfl | rfl | rfl | rfl | rfl | rfl | rfl | rfl | rfl | rfl | rfl | rfl
  · exact s0
  · exact s21
  · exact s4
  · exact s25
  · exact s5
  · exact s6
  · exact s7
  · exact s8
  · exact s9
  · exact s10
  · exact s11
  · exact s12
  · exact s26
  · exact s27
  · exact s28
  · exact s29
  · exact s30
  · exact s31
  · exact s3
  · exact s24
)) inert_ok _ _ _ _ _ _ k33
theorem k34 : runF tbl (memoF [m0, m21, m4, m25, m5, m6, m7, m8, m9, m10, m11, m12, m26, m27, m28, m29, m30, m31, m3, m24]) inert 1000 50 10 a34 h34 182 = some r34 := by kernel_rfl
theorem s34 : Spec Go.Proofs.Tryd.prog m34.f m34.args m34.h m34.nx m34.r := runF_sound (by kernel_rfl) tblOK (memo_ok (fun m hm => by
  simp only [List.mem_cons, List.not_mem_nil, or_false] at hm
  rcases hm with rfl | rfl | rfl | rfl | rfl | rfl | rfl | rfl | rfl | rfl | rfl | rfl | rfl | rfl | rfl | rfl | rfl | rfl | rfl | rfl
  · exact s0
  · exact s21
  · exact s4
  · exact s25
  · exact s5
  · exact s6
  · exact s7
  · exact s8
  · exact s9
  · exact s10
  · exact s11
  · exact s12
  · exact s26
  · exact s27
  · exact s28
  · exact s29
  · exact s30
  · exact s31
  · exact s3
  · exact s24
)) inert_ok _ _ _ _ _ _ k34
theorem k35 : runF tbl (memoF [m0, m21, m4, m25, m5, m6, m7, m8, m9, m10, m11, m12, m26, m27, m28, m29, m30, m31, m3, m24]) inert 1000 50 10 a35 h35 210 = some r35 := by kernel_rfl
theorem s35 : Spec Go.Proofs.Tryd.prog m35.f m35.args m35.h m35.nx m35.r := runF_sound (by kernel_rfl) tblOK (memo_ok (fun m hm => by
  simp only [List.mem_cons, List.not_mem_nil, or_false] at hm
  rcases hm with rfl | rfl | rfl | rfl | rfl | rfl | rfl | rfl | rfl | rfl | rfl | rfl | rfl | rfl | rfl | rfl | rfl | rfl | rfl | rfl
  · exact s0
  · exact s21
  · exact s4
  · exact s25
  · exact s5
  · exact s6
  · exact s7
  · exact s8
  · exact s9
  · exact s10
  · exact s11
  · exact s12
  · exact s26
  · exact s27
  · exact s28
  · exact s29
  · exact s30
  · exact s31
  · exact s3
  · exact s24
)) inert_ok _ _ _ _ _ _ k35
theorem k36 : runF tbl (memoF [m0, m21, m4, m25, m5, m6, m7, m8, m9, m10, m11, m12, m26, m27, m28, m29, m30, m31, m3, m24]) inert 1000 50 10 a36 h36 241 = some r36 := by kernel_rfl
theorem s36 : Spec Go.Proofs.Tryd.prog m36.f m36.args m36.h m36.nx m36.r := runF_sound (by kernel_rfl) tblOK (memo_ok (fun m hm => by
  simp only [List.mem_cons, List.not_mem_nil, or_false] at hm
  rcases hm with rfl | rfl | rfl | rfl | rfl | rfl | rfl | rfl | rfl | rfl | rfl | rfl | rfl | rfl | rfl | rfl | rfl | rfl | rfl | rfl
  · exact s0
  · exact s21
  · exact s4
  · exact s25
  · exact s5
  · exact s6
  · exact s7
  · exact s8
  · exact s9
  · exact s10
  · exact s11
  · exact s12
  · exact s26
  · exact s27
  · exact s28
  · exact s29
  · exact s30
  · exact s31
  · exact s3
  · exact s24
)) inert_ok _ _ _ _ _ _ k36
theorem k37 : runF tbl (memoF [m0, m21, m4, m25, m5, m6, m7, m8, m9, m10, m11, m12, m26, m27, m28, m29, m30, m31, m3, m24]) inert 1000 50 10 a37 h37 269 = some r37 := by kernel_rfl
theorem s37 : Spec Go.Proofs.Tryd.prog m37.f m37.args m37.h m37.nx m37.r := runF_sound (by kernel_rfl) tblOK (memo_ok (fun m hm => by
  simp only [List.mem_cons, List.not_mem_nil, or_false] at hm
  rcases hm with rfl | rfl | rfl | rfl | rfl | rfl | rfl | rfl | rfl | rfl | rfl | rfl | rfl | rfl | rfl | rfl | rfl | rfl | rfl | rfl
  · exact s0
  · exact s21
  · exact s4
  · exact s25
  · exact s5
  · exact s6
  · exact s7
  · exact s8
  · exact s9
  · exact s10
  · exact s11
  · exact s12
  · exact s26
  · exact s27
  · exact s28
  · exact s29
  · exact s30
  · exact s31
  · exact s3
  · exact s24
)) inert_ok _ _ _ _ _ _ k37
theorem k2 : runF tbl (memoF [m0, m21, m4, m25, m5, m6, m7, m8, m9, m10, m11, m12, m26, m27, m28, m29, m30, m31, m3, m24, m13, m14, m15, m16, m17, m18, m19, m20, m32, m33, m34, m35, m36, m37]) inert 1000 50 31 a2 h2 59 = some r2 := by kernel_rfl
theorem s2 : Spec Go.Proofs.Tryd.prog m2.f m2.args m2.h m2.nx m2.r := runF_sound (by kernel_rfl) tblOK (memo_ok (fun m hm => by
  simp only [List.mem_cons, List.not_mem_nil, or_false] at hm
  rcases hm with rfl | rfl | rfl | rfl | rfl | rfl | rfl | rfl | rfl | rfl | rfl | rfl | rfl | rfl | rfl | rfl | rfl | rfl | rfl | rfl | rfl | rfl | rfl | rfl | rfl | rfl | rfl | rfl | rfl | rfl | rfl | rfl | rfl | rfl
  · exact s0
  · exact s21
  · exact s4
  · exact s25
  · exact s5
  · exact s6
  · exact s7
  · exact s8
  · exact s9
  · exact s10
  · exact s11
  · exact s12
  · exact s26
  · exact s27
  · exact s28
  · exact s29
  · exact s30
  · exact s31
  · exact s3
  · exact s24
  · exact s13
  · exact s14
  · exact s15
  · exact s16
  · exact s17
  · exact s18
  · exact s19
  · exact s20
  · exact s32
  · exact s33
  · exact s34
  · exact s35
  · exact s36
  · exact s37
)) inert_ok _ _ _ _ _ _ k2
end Go.Proofs.YtjjplipoacljoaaDoor.AI.M8
namespace Go.Proofs.YtjjplipoacljoaaDoor.AI.M8
set_option maxRecDepth 100000
theorem k23 : runF tbl (memoF [m0, m21, m4, m25, m5, m6, m7, m8, m9, m10, m11, m12, m26, m27, m28, m29, m30, m31, m3, m24, m13, m14, m15, m16, m17, m18, m19, m20, m32, m33, m34, m35, m36, m37]) inert 1000 50 31 a23 h23 118 = some r23 := by kernel_rfl
theorem s23 : Spec Go.Proofs.Tryd.prog m23.f m23.args m23.h m23.nx m23.r := runF_sound (by kernel_rfl) tblOK (memo_ok (fun m hm => by
  simp only [List.mem_cons, List.not_mem_nil, or_false] at hm
  rcases hm with rfl | rfl | rfl | rfl | rfl | rfl | rfl | rfl | rfl | rfl | rfl | rfl | rfl | rfl | rfl | rfl | rfl | rfl | rfl | rfl | rfl | rfl | rfl | rfl | rfl | rfl | rfl | rfl | rfl | rfl | rfl | rfl | rfl | rfl
  · exact s0
  · exact s21
  · exact s4
  · exact s25
  · exact s5
  · exact s6
  · exact s7
  · exact s8
  · exact s9
  · exact s10
  · exact s11
  · exact s12
  · exact s26
  · exact s27
  · exact s28
  · exact s29
  · exact s30
  · exact s31
  · exact s3
  · exact s24
  · exact s13
  · exact s14
  · exact s15
  · exact s16
  · exact s17
  · exact s18
  · exact s19
  · exact s20
  · exact s32
  · exact s33
  · exact s34
  · exact s35
  · exact s36
  · exact s37
)) inert_ok _ _ _ _ _ _ k23
theorem k1 : runF tbl (memoF [m0, m21, m4, m25, m5, m6, m7, m8, m9, m10, m11, m12, m26, m27, m28, m29, m30, m31, m3, m24, m13, m14, m15, m16, m17, m18, m19, m20, m32, m33, m34, m35, m36, m37, m2, m23]) inert 1000 50 15 a1 h1 58 = some r1 := by kernel_rfl
theorem s1 : Spec Go.Proofs.Tryd.prog m1.f m1.args m1.h m1.nx m1.r := runF_sound (by kernel_rfl) tblOK (memo_ok (fun m hm => by
  simp only [List.mem_cons, List.not_mem_nil, or_false] at hm
  rcases hm with rfl | rfl | rfl | rfl | rfl | rfl | rfl | rfl | rfl | rfl | rfl | rfl | rfl | rfl | rfl | rfl | rfl | rfl | rfl | rfl | rfl | rfl | rfl | rfl | rfl | rfl | rfl | rfl | rfl | rfl | rfl | rfl | rfl | rfl | rfl | rfl
  · exact s0
  · exact s21
  · exact s4
  · exact s25
  · exact s5
  · exact s6
  · exact s7
  · exact s8
  · exact s9
  · exact s10
  · exact s11
  · exact s12
  · exact s26
  · exact s27
  · exact s28
  · exact s29
  · exact s30
  · exact s31
  · exact s3
  · exact s24
  · exact s13
  · exact s14
  · exact s15
  · exact s16
  · exact s17
  · exact s18
  · exact s19
  · exact s20
  · exact s32
  · exact s33
  · exact s34
  · exact s35
  · exact s36
  · exact s37
  · exact s2
  · exact s23
)) inert_ok _ _ _ _ _ _ k1
theorem k22 : runF tbl (memoF [m0, m21, m4, m25, m5, m6, m7, m8, m9, m10, m11, m12, m26, m27, m28, m29, m30, m31, m3, m24, m13, m14, m15, m16, m17, m18, m19, m20, m32, m33, m34, m35, m36, m37, m2, m23]) inert 1000 50 15 a22 h22 117 = some r22 := by kernel_rfl
theorem s22 : Spec Go.Proofs.Tryd.prog m22.f m22.args m22.h m22.nx m22.r := runF_sound (by kernel_rfl) tblOK (memo_ok (fun m hm => by
  simp only [List.mem_cons, List.not_mem_nil, or_false] at hm
  rcases hm with rfl | rfl | rfl | rfl | rfl | rfl | rfl | rfl | rfl | rfl | rfl | rfl | rfl | rfl | rfl | rfl | rfl | rfl | rfl | rfl | rfl | rfl | rfl | rfl | rfl | rfl | rfl | rfl | rfl | rfl | rfl | rfl | rfl | rfl | rfl | rfl
  · exact s0
  · exact s21
  · exact s4
  · exact s25
  · exact s5
  · exact s6
  · exact s7
  · exact s8
  · exact s9
  · exact s10
  · exact s11
  · exact s12
  · exact s26
  · exact s27
  · exact s28
  · exact s29
  · exact s30
  · exact s31
  · exact s3
  · exact s24
  · exact s13
  · exact s14
  · exact s15
  · exact s16
  · exact s17
  · exact s18
  · exact s19
  · exact s20
  · exact s32
  · exact s33
  · exact s34
  · exact s35
  · exact s36
  · exact s37
  · exact s2
  · exact s23
)) inert_ok _ _ _ _ _ _ k22
theorem kr : runF tbl (memoF [m0, m21, m4, m25, m5, m6, m7, m8, m9, m10, m11, m12, m26, m27, m28, m29, m30, m31, m3, m24, m13, m14, m15, m16, m17, m18, m19, m20, m32, m33, m34, m35, m36, m37, m2, m23, m1, m22]) inert 1000 50 8 [] PT.leaf 0 = some rr := by kernel_rfl
theorem sr : Spec Go.Proofs.Tryd.prog 8 [] PT.leaf 0 rr := runF_sound (by kernel_rfl) tblOK (memo_ok (fun m hm => by
  simp only [List.mem_cons, List.not_mem_nil, or_false] at hm
  rcases hm with rfl | rfl | rfl | rfl | rfl | rfl | rfl | rfl | rfl | rfl | rfl | rfl | rfl | rfl | rfl | rfl | rfl | rfl | rfl | rfl | rfl | rfl | rfl | rfl | rfl | rfl | rfl | rfl | rfl | rfl | rfl | rfl | rfl | rfl | rfl | rfl | rfl | rfl
  · exact s0
  · exact s21
  · exact s4
  · exact s25
  · exact s5
  · exact s6
  · exact s7
  · exact s8
  · exact s9
  · exact s10
  · exact s11
  · exact s12
  · exact s26
  · exact s27
  · exact s28
  · exact s29
  · exact s30
  · exact s31
  · exact s3
  · exact s24
  · exact s13
  · exact s14
  · exact s15
  · exact s16
  · exact s17
  · exact s18
  · exact s19
  · exact s20
  · exact s32
  · exact s33
  · exact s34
  · exact s35
  · exact s36
  · exact s37
  · exact s2
  · exact s23
  · exact s1
  · exact s22
)) inert_ok _ _ _ _ _ _ kr
end Go.Proofs.YtjjplipoacljoaaDoor.AI.M8
namespace Go.Proofs.YtjjplipoacljoaaDoor.AI
theorem hawake : HoldsC Go.Proofs.Tryd.prog 8 cawake := (holds_closed (T := .bool) (v := true) M8.sr mawake (fun _ y h => by cases h; rfl)).toC rfl
end Go.Proofs.YtjjplipoacljoaaDoor.AI
namespace Go.Proofs.YtjjplipoacljoaaDoor.AI
set_option maxRecDepth 100000
theorem hmix : Go.Proofs.Tryd.prog.follows .mixedOrders = true := by kernel_rfl
theorem eclock_At (x : (List Int) × Int) : tfun (conL []) tyv inert (compF Go.Proofs.Tryd.prog 37) dclock_At x = mclock_At x := by kernel_rfl
theorem hclock_At : HoldsC Go.Proofs.Tryd.prog 37 cclock_At := (holds_of (D := dclock_At) (f := 37) hmix inert_ok (l := []) trivial (by kernel_rfl) eclock_At : Holds Go.Proofs.Tryd.prog 37 ⟨dclock_At.pre, dclock_At.post, mclock_At⟩).toC rfl
theorem eclock_Join (x : (List Int) × List Int) : tfun (conL [(37, cclock_At)]) tyv inert (compF Go.Proofs.Tryd.prog 21) dclock_Join x = nclock_Join x := by kernel_rfl
theorem oclock_Join (x : (List Int) × List Int) : Ole (mclock_Join x) (nclock_Join x) := by
  unfold mclock_Join nclock_Join gclock_Join
  repeat' (first | with_reducible exact Ole.rfl | (refine Ole.iter fun _ => ?_) | (refine Ole.chk ?_) | (refine Ole.bcase ?_ ?_) | (refine Ole.jn ?_ fun _ => ?_) | (refine Ole.obind ?_ fun _ => ?_))
theorem hclock_Join : HoldsC Go.Proofs.Tryd.prog 21 cclock_Join := (Holds.sub (holds_of (D := dclock_Join) (f := 21) hmix inert_ok (l := [(37, cclock_At)]) ⟨hclock_At, trivial⟩ (by kernel_rfl) eclock_Join : Holds Go.Proofs.Tryd.prog 21 ⟨dclock_Join.pre, dclock_Join.post, nclock_Join⟩) oclock_Join).toC rfl
theorem eclock_Tick (x : (List Int) × Int) : tfun (conL []) tyv inert (compF Go.Proofs.Tryd.prog 22) dclock_Tick x = mclock_Tick x := by kernel_rfl
theorem hclock_Tick : HoldsC Go.Proofs.Tryd.prog 22 cclock_Tick := (holds_of (D := dclock_Tick) (f := 22) hmix inert_ok (l := []) trivial (by kernel_rfl) eclock_Tick : Holds Go.Proofs.Tryd.prog 22 ⟨dclock_Tick.pre, dclock_Tick.post, mclock_Tick⟩).toC rfl
theorem er22_At (x : (List Int) × Int) : tfun (conL []) tyv inert (compF Go.Proofs.Tryd.prog 41) dr22_At x = mr22_At x := by kernel_rfl
theorem hr22_At : HoldsC Go.Proofs.Tryd.prog 41 cr22_At := (holds_of (D := dr22_At) (f := 41) hmix inert_ok (l := []) trivial (by kernel_rfl) er22_At : Holds Go.Proofs.Tryd.prog 41 ⟨dr22_At.pre, dr22_At.post, mr22_At⟩).toC rfl
theorem er22_Join (x : (List Int) × List Int) : tfun (conL [(41, cr22_At)]) tyv inert (compF Go.Proofs.Tryd.prog 26) dr22_Join x = nr22_Join x := by kernel_rfl
theorem or22_Join (x : (List Int) × List Int) : Ole (mr22_Join x) (nr22_Join x) := by
  unfold mr22_Join nr22_Join gr22_Join
  repeat' (first | with_reducible exact Ole.rfl | (refine Ole.iter fun _ => ?_) | (refine Ole.chk ?_) | (refine Ole.bcase ?_ ?_) | (refine Ole.jn ?_ fun _ => ?_) | (refine Ole.obind ?_ fun _ => ?_))
theorem hr22_Join : HoldsC Go.Proofs.Tryd.prog 26 cr22_Join := (Holds.sub (holds_of (D := dr22_Join) (f := 26) hmix inert_ok (l := [(41, cr22_At)]) ⟨hr22_At, trivial⟩ (by kernel_rfl) er22_Join : Holds Go.Proofs.Tryd.prog 26 ⟨dr22_Join.pre, dr22_Join.post, nr22_Join⟩) or22_Join).toC rfl
theorem eClone0 (x : List Int) : tfun (conL []) tyv inert (compF Go.Proofs.Tryd.prog 36) dClone0 x = mClone0 x := by kernel_rfl
theorem hClone0 : HoldsC Go.Proofs.Tryd.prog 36 cClone0 := (holds_of (D := dClone0) (f := 36) hmix inert_ok (l := []) trivial (by kernel_rfl) eClone0 : Holds Go.Proofs.Tryd.prog 36 ⟨dClone0.pre, dClone0.post, mClone0⟩).toC rfl
theorem hClone : HoldsC Go.Proofs.Tryd.prog 36 cClone := @HoldsC.sub Go.Proofs.Tryd.prog 36 cClone0.pre cClone0.post mClone0 mClone hClone0 rfl (fun x y h => clone_sub (b := 8) x y h)
theorem ehb_copies (x : List (List Int)) : tfun (conL [(36, cClone)]) tyv inert (compF Go.Proofs.Tryd.prog 35) dhb_copies x = nhb_copies x := by kernel_rfl
theorem ohb_copies (x : List (List Int)) : Ole (mhb_copies x) (nhb_copies x) := by
  unfold mhb_copies nhb_copies ghb_copies
  repeat' (first | with_reducible exact Ole.rfl | (refine Ole.iter fun _ => ?_) | (refine Ole.chk ?_) | (refine Ole.bcase ?_ ?_) | (refine Ole.jn ?_ fun _ => ?_) | (refine Ole.obind ?_ fun _ => ?_))
theorem hhb_copies : HoldsC Go.Proofs.Tryd.prog 35 chb_copies := (Holds.sub (holds_of (D := dhb_copies) (f := 35) hmix inert_ok (l := [(36, cClone)]) ⟨hClone, trivial⟩ (by kernel_rfl) ehb_copies : Holds Go.Proofs.Tryd.prog 35 ⟨dhb_copies.pre, dhb_copies.post, nhb_copies⟩) ohb_copies).toC rfl
theorem eCloneO0 (x : List Int) : tfun (conL []) tyv inert (compF Go.Proofs.Tryd.prog 36) dCloneO0 x = mCloneO0 x := by kernel_rfl
theorem hCloneO0 : HoldsC Go.Proofs.Tryd.prog 36 cCloneO0 := (holds_of (D := dCloneO0) (f := 36) hmix inert_ok (l := []) trivial (by kernel_rfl) eCloneO0 : Holds Go.Proofs.Tryd.prog 36 ⟨dCloneO0.pre, dCloneO0.post, mCloneO0⟩).toC rfl
theorem hCloneO : HoldsC Go.Proofs.Tryd.prog 36 cCloneO := @HoldsC.sub Go.Proofs.Tryd.prog 36 cCloneO0.pre cCloneO0.post mCloneO0 mCloneO hCloneO0 rfl (fun x y h => clone_sub (b := 8) x y h)
theorem ehb_copied (x : (List (List Int)) × (List (List Int)) × (List (List Int)) × (List (List Int)) × (List (List Int)) × (List (List Int)) × (List Int) × (List (List Int)) × List Int) : tfun (conL [(35, chb_copies), (36, cCloneO)]) tyv inert (compF Go.Proofs.Tryd.prog 18) dhb_copied x = mhb_copied x := by kernel_rfl
theorem hhb_copied : HoldsC Go.Proofs.Tryd.prog 18 chb_copied := (holds_of (D := dhb_copied) (f := 18) hmix inert_ok (l := [(35, chb_copies), (36, cCloneO)]) ⟨hhb_copies, hCloneO, trivial⟩ (by kernel_rfl) ehb_copied : Holds Go.Proofs.Tryd.prog 18 ⟨dhb_copied.pre, dhb_copied.post, mhb_copied⟩).toC rfl
theorem ehb_entry (x : Int × List (List Int)) : tfun (conL []) tyv inert (compF Go.Proofs.Tryd.prog 20) dhb_entry x = mhb_entry x := by kernel_rfl
theorem hhb_entry : HoldsC Go.Proofs.Tryd.prog 20 chb_entry := (holds_of (D := dhb_entry) (f := 20) hmix inert_ok (l := []) trivial (by kernel_rfl) ehb_entry : Holds Go.Proofs.Tryd.prog 20 ⟨dhb_entry.pre, dhb_entry.post, mhb_entry⟩).toC rfl
theorem ehb_joinAt (x : (Int × List Int) × List (List Int)) : tfun (conL [(21, cclock_Join)]) tyv inert (compF Go.Proofs.Tryd.prog 38) dhb_joinAt x = mhb_joinAt x := by kernel_rfl
theorem hhb_joinAt : HoldsC Go.Proofs.Tryd.prog 38 chb_joinAt := (holds_of (D := dhb_joinAt) (f := 38) hmix inert_ok (l := [(21, cclock_Join)]) ⟨hclock_Join, trivial⟩ (by kernel_rfl) ehb_joinAt : Holds Go.Proofs.Tryd.prog 38 ⟨dhb_joinAt.pre, dhb_joinAt.post, mhb_joinAt⟩).toC rfl
theorem ehb_wake (x : (Int × List Int) × (List Int) × (List (List Int)) × (List (List Int)) × (List (List Int)) × (List (List Int)) × (List (List Int)) × (List (List Int)) × (List (List Int)) × List Int) : tfun (conL [(36, cClone)]) tyv inert (compF Go.Proofs.Tryd.prog 39) dhb_wake x = mhb_wake x := by kernel_rfl
theorem hhb_wake : HoldsC Go.Proofs.Tryd.prog 39 chb_wake := (holds_of (D := dhb_wake) (f := 39) hmix inert_ok (l := [(36, cClone)]) ⟨hClone, trivial⟩ (by kernel_rfl) ehb_wake : Holds Go.Proofs.Tryd.prog 39 ⟨dhb_wake.pre, dhb_wake.post, mhb_wake⟩).toC rfl
theorem ehb_enter (x : (((List ((List UInt8) × Int × Int × Bool × Int)) × (List ((List UInt8) × Bool)) × (List ((List UInt8) × Int)) × (List (List UInt8)) × (List (List UInt8)) × List (Int × Int × Int)) × (Int × Int × Int × Int × Int × (List Int) × List Int) × List Int) × (List Int) × (List (List Int)) × (List (List Int)) × (List (List Int)) × (List (List Int)) × (List (List Int)) × (List (List Int)) × (List (List Int)) × List Int) : tfun (conL [(21, cclock_Join), (36, cClone), (38, chb_joinAt), (39, chb_wake)]) tyv inert (compF Go.Proofs.Tryd.prog 23) dhb_enter x = nhb_enter x := by kernel_rfl
theorem ohb_enter (x : (((List ((List UInt8) × Int × Int × Bool × Int)) × (List ((List UInt8) × Bool)) × (List ((List UInt8) × Int)) × (List (List UInt8)) × (List (List UInt8)) × List (Int × Int × Int)) × (Int × Int × Int × Int × Int × (List Int) × List Int) × List Int) × (List Int) × (List (List Int)) × (List (List Int)) × (List (List Int)) × (List (List Int)) × (List (List Int)) × (List (List Int)) × (List (List Int)) × List Int) : Ole (mhb_enter x) (nhb_enter x) := by
  unfold mhb_enter nhb_enter ghb_enter
  repeat' (first | with_reducible exact Ole.rfl | (refine Ole.iter fun _ => ?_) | (refine Ole.chk ?_) | (refine Ole.bcase ?_ ?_) | (refine Ole.jn ?_ fun _ => ?_) | (refine Ole.obind ?_ fun _ => ?_))
theorem hhb_enter : HoldsC Go.Proofs.Tryd.prog 23 chb_enter := (Holds.sub (holds_of (D := dhb_enter) (f := 23) hmix inert_ok (l := [(21, cclock_Join), (36, cClone), (38, chb_joinAt), (39, chb_wake)]) ⟨hclock_Join, hClone, hhb_joinAt, hhb_wake, trivial⟩ (by kernel_rfl) ehb_enter : Holds Go.Proofs.Tryd.prog 23 ⟨dhb_enter.pre, dhb_enter.post, nhb_enter⟩) ohb_enter).toC rfl
end Go.Proofs.YtjjplipoacljoaaDoor.AI
namespace Go.Proofs.YtjjplipoacljoaaDoor.AI
set_option maxRecDepth 100000
theorem ehb_Step_2 (x : (Int × Int × Int × Int × Int × (List Int) × List Int) × (List Int) × ((List ((List UInt8) × Int × Int × Bool × Int)) × (List ((List UInt8) × Bool)) × (List ((List UInt8) × Int)) × (List (List UInt8)) × (List (List UInt8)) × List (Int × Int × Int)) × (List (List Int)) × (List (List Int)) × (List (List Int)) × (List (List Int)) × (List (List Int)) × (List (List Int)) × (List (List Int)) × List Int) : tfun (conL [(20, chb_entry)]) tyv inert (compF Go.Proofs.Tryd.prog 19) dhb_Step_2 x = mhb_Step_2 x := by kernel_rfl
theorem hhb_Step_2 : HoldsC Go.Proofs.Tryd.prog 19 chb_Step_2 := (holds_of (D := dhb_Step_2) (f := 19) hmix inert_ok (l := [(20, chb_entry)]) ⟨hhb_entry, trivial⟩ (by kernel_rfl) ehb_Step_2 : Holds Go.Proofs.Tryd.prog 19 ⟨dhb_Step_2.pre, dhb_Step_2.post, mhb_Step_2⟩).toC rfl
theorem ehb_Step (x : ((List ((List UInt8) × Int × Int × Bool × Int)) × (List ((List UInt8) × Bool)) × (List ((List UInt8) × Int)) × (List (List UInt8)) × (List (List UInt8)) × List (Int × Int × Int)) × ((List (List Int)) × (List (List Int)) × (List (List Int)) × (List (List Int)) × (List (List Int)) × (List (List Int)) × (List Int) × (List (List Int)) × List Int) × Int × Int × Int × Int × Int × (List Int) × List Int) : tfun (conL [(18, chb_copied), (19, chb_Step_2), (21, cclock_Join), (22, cclock_Tick), (23, chb_enter)]) tyv inert (compF Go.Proofs.Tryd.prog 10) dhb_Step x = nhb_Step x := by kernel_rfl
theorem ohb_Step (x : ((List ((List UInt8) × Int × Int × Bool × Int)) × (List ((List UInt8) × Bool)) × (List ((List UInt8) × Int)) × (List (List UInt8)) × (List (List UInt8)) × List (Int × Int × Int)) × ((List (List Int)) × (List (List Int)) × (List (List Int)) × (List (List Int)) × (List (List Int)) × (List (List Int)) × (List Int) × (List (List Int)) × List Int) × Int × Int × Int × Int × Int × (List Int) × List Int) : Ole (mhb_Step x) (nhb_Step x) := by
  unfold mhb_Step nhb_Step ghb_Step
  repeat' (first | with_reducible exact Ole.rfl | (refine Ole.iter fun _ => ?_) | (refine Ole.chk ?_) | (refine Ole.bcase ?_ ?_) | (refine Ole.jn ?_ fun _ => ?_) | (refine Ole.obind ?_ fun _ => ?_))
theorem hhb_Step : HoldsC Go.Proofs.Tryd.prog 10 chb_Step := (Holds.sub (holds_of (D := dhb_Step) (f := 10) hmix inert_ok (l := [(18, chb_copied), (19, chb_Step_2), (21, cclock_Join), (22, cclock_Tick), (23, chb_enter)]) ⟨hhb_copied, hhb_Step_2, hclock_Join, hclock_Tick, hhb_enter, trivial⟩ (by kernel_rfl) ehb_Step : Holds Go.Proofs.Tryd.prog 10 ⟨dhb_Step.pre, dhb_Step.post, nhb_Step⟩) ohb_Step).toC rfl
theorem ehb_Start (x : (List ((List UInt8) × Int × Int × Bool × Int)) × (List ((List UInt8) × Bool)) × (List ((List UInt8) × Int)) × (List (List UInt8)) × (List (List UInt8)) × List (Int × Int × Int)) : tfun (conL []) tyv inert (compF Go.Proofs.Tryd.prog 6) dhb_Start x = nhb_Start x := by kernel_rfl
theorem ohb_Start (x : (List ((List UInt8) × Int × Int × Bool × Int)) × (List ((List UInt8) × Bool)) × (List ((List UInt8) × Int)) × (List (List UInt8)) × (List (List UInt8)) × List (Int × Int × Int)) : Ole (mhb_Start x) (nhb_Start x) := by
  unfold mhb_Start nhb_Start ghb_Start
  repeat' (first | with_reducible exact Ole.rfl | (refine Ole.iter fun _ => ?_) | (refine Ole.chk ?_) | (refine Ole.bcase ?_ ?_) | (refine Ole.jn ?_ fun _ => ?_) | (refine Ole.obind ?_ fun _ => ?_))
theorem hhb_Start : HoldsC Go.Proofs.Tryd.prog 6 chb_Start := (Holds.sub (holds_of (D := dhb_Start) (f := 6) hmix inert_ok (l := []) trivial (by kernel_rfl) ehb_Start : Holds Go.Proofs.Tryd.prog 6 ⟨dhb_Start.pre, dhb_Start.post, nhb_Start⟩) ohb_Start).toC rfl
end Go.Proofs.YtjjplipoacljoaaDoor.AI
namespace Go.Proofs.YtjjplipoacljoaaDoor.AI
set_option maxRecDepth 100000
theorem er22_Copy (x : List Int) : tfun (conL []) tyv inert (compF Go.Proofs.Tryd.prog 28) dr22_Copy x = mr22_Copy x := by kernel_rfl
theorem hr22_Copy : HoldsC Go.Proofs.Tryd.prog 28 cr22_Copy := (holds_of (D := dr22_Copy) (f := 28) hmix inert_ok (l := []) trivial (by kernel_rfl) er22_Copy : Holds Go.Proofs.Tryd.prog 28 ⟨dr22_Copy.pre, dr22_Copy.post, mr22_Copy⟩).toC rfl
theorem er22_CopyAll (x : List (List Int)) : tfun (conL [(28, cr22_Copy)]) tyv inert (compF Go.Proofs.Tryd.prog 40) dr22_CopyAll x = nr22_CopyAll x := by kernel_rfl
theorem or22_CopyAll (x : List (List Int)) : Ole (mr22_CopyAll x) (nr22_CopyAll x) := by
  unfold mr22_CopyAll nr22_CopyAll gr22_CopyAll
  repeat' (first | with_reducible exact Ole.rfl | (refine Ole.iter fun _ => ?_) | (refine Ole.chk ?_) | (refine Ole.bcase ?_ ?_) | (refine Ole.jn ?_ fun _ => ?_) | (refine Ole.obind ?_ fun _ => ?_))
theorem hr22_CopyAll : HoldsC Go.Proofs.Tryd.prog 40 cr22_CopyAll := (Holds.sub (holds_of (D := dr22_CopyAll) (f := 40) hmix inert_ok (l := [(28, cr22_Copy)]) ⟨hr22_Copy, trivial⟩ (by kernel_rfl) er22_CopyAll : Holds Go.Proofs.Tryd.prog 40 ⟨dr22_CopyAll.pre, dr22_CopyAll.post, nr22_CopyAll⟩) or22_CopyAll).toC rfl
theorem er22_CopyO (x : List Int) : tfun (conL []) tyv inert (compF Go.Proofs.Tryd.prog 28) dr22_CopyO x = mr22_CopyO x := by kernel_rfl
theorem hr22_CopyO : HoldsC Go.Proofs.Tryd.prog 28 cr22_CopyO := (holds_of (D := dr22_CopyO) (f := 28) hmix inert_ok (l := []) trivial (by kernel_rfl) er22_CopyO : Holds Go.Proofs.Tryd.prog 28 ⟨dr22_CopyO.pre, dr22_CopyO.post, mr22_CopyO⟩).toC rfl
theorem er22_copied (x : (List (List Int)) × (List (List Int)) × (List (List Int)) × (List (List Int)) × (List (List Int)) × (List (List Int)) × (List Int) × (List (List Int)) × List Int) : tfun (conL [(28, cr22_CopyO), (40, cr22_CopyAll)]) tyv inert (compF Go.Proofs.Tryd.prog 24) dr22_copied x = mr22_copied x := by kernel_rfl
theorem hr22_copied : HoldsC Go.Proofs.Tryd.prog 24 cr22_copied := (holds_of (D := dr22_copied) (f := 24) hmix inert_ok (l := [(28, cr22_CopyO), (40, cr22_CopyAll)]) ⟨hr22_CopyO, hr22_CopyAll, trivial⟩ (by kernel_rfl) er22_copied : Holds Go.Proofs.Tryd.prog 24 ⟨dr22_copied.pre, dr22_copied.post, mr22_copied⟩).toC rfl
theorem er22_Tick (x : (List Int) × Int) : tfun (conL [(28, cr22_CopyO)]) tyv inert (compF Go.Proofs.Tryd.prog 25) dr22_Tick x = nr22_Tick x := by kernel_rfl
theorem or22_Tick (x : (List Int) × Int) : Ole (mr22_Tick x) (nr22_Tick x) := by
  unfold mr22_Tick nr22_Tick gr22_Tick
  repeat' (first | with_reducible exact Ole.rfl | (refine Ole.iter fun _ => ?_) | (refine Ole.chk ?_) | (refine Ole.bcase ?_ ?_) | (refine Ole.jn ?_ fun _ => ?_) | (refine Ole.obind ?_ fun _ => ?_))
theorem hr22_Tick : HoldsC Go.Proofs.Tryd.prog 25 cr22_Tick := (Holds.sub (holds_of (D := dr22_Tick) (f := 25) hmix inert_ok (l := [(28, cr22_CopyO)]) ⟨hr22_CopyO, trivial⟩ (by kernel_rfl) er22_Tick : Holds Go.Proofs.Tryd.prog 25 ⟨dr22_Tick.pre, dr22_Tick.post, nr22_Tick⟩) or22_Tick).toC rfl
theorem er22_Equal (x : (List Int) × List Int) : tfun (conL []) tyv inert (compF Go.Proofs.Tryd.prog 14) dr22_Equal x = nr22_Equal x := by kernel_rfl
theorem or22_Equal (x : (List Int) × List Int) : Ole (mr22_Equal x) (nr22_Equal x) := by
  unfold mr22_Equal nr22_Equal gr22_Equal
  repeat' (first | with_reducible exact Ole.rfl | (refine Ole.iter fun _ => ?_) | (refine Ole.chk ?_) | (refine Ole.bcase ?_ ?_) | (refine Ole.jn ?_ fun _ => ?_) | (refine Ole.obind ?_ fun _ => ?_))
theorem hr22_Equal : HoldsC Go.Proofs.Tryd.prog 14 cr22_Equal := (Holds.sub (holds_of (D := dr22_Equal) (f := 14) hmix inert_ok (l := []) trivial (by kernel_rfl) er22_Equal : Holds Go.Proofs.Tryd.prog 14 ⟨dr22_Equal.pre, dr22_Equal.post, nr22_Equal⟩) or22_Equal).toC rfl
theorem er22_Leq (x : (List Int) × List Int) : tfun (conL [(41, cr22_At)]) tyv inert (compF Go.Proofs.Tryd.prog 30) dr22_Leq x = nr22_Leq x := by kernel_rfl
theorem or22_Leq (x : (List Int) × List Int) : Ole (mr22_Leq x) (nr22_Leq x) := by
  unfold mr22_Leq nr22_Leq gr22_Leq
  repeat' (first | with_reducible exact Ole.rfl | (refine Ole.iter fun _ => ?_) | (refine Ole.chk ?_) | (refine Ole.bcase ?_ ?_) | (refine Ole.jn ?_ fun _ => ?_) | (refine Ole.obind ?_ fun _ => ?_))
theorem hr22_Leq : HoldsC Go.Proofs.Tryd.prog 30 cr22_Leq := (Holds.sub (holds_of (D := dr22_Leq) (f := 30) hmix inert_ok (l := [(41, cr22_At)]) ⟨hr22_At, trivial⟩ (by kernel_rfl) er22_Leq : Holds Go.Proofs.Tryd.prog 30 ⟨dr22_Leq.pre, dr22_Leq.post, nr22_Leq⟩) or22_Leq).toC rfl
theorem er22_Same (x : (List Int) × List Int) : tfun (conL [(30, cr22_Leq)]) tyv inert (compF Go.Proofs.Tryd.prog 12) dr22_Same x = mr22_Same x := by kernel_rfl
theorem hr22_Same : HoldsC Go.Proofs.Tryd.prog 12 cr22_Same := (holds_of (D := dr22_Same) (f := 12) hmix inert_ok (l := [(30, cr22_Leq)]) ⟨hr22_Leq, trivial⟩ (by kernel_rfl) er22_Same : Holds Go.Proofs.Tryd.prog 12 ⟨dr22_Same.pre, dr22_Same.post, mr22_Same⟩).toC rfl
theorem er22_SameAll (x : (List (List Int)) × List (List Int)) : tfun (conL [(12, cr22_Same)]) tyv inert (compF Go.Proofs.Tryd.prog 13) dr22_SameAll x = nr22_SameAll x := by kernel_rfl
theorem or22_SameAll (x : (List (List Int)) × List (List Int)) : Ole (mr22_SameAll x) (nr22_SameAll x) := by
  unfold mr22_SameAll nr22_SameAll gr22_SameAll
  repeat' (first | with_reducible exact Ole.rfl | (refine Ole.iter fun _ => ?_) | (refine Ole.chk ?_) | (refine Ole.bcase ?_ ?_) | (refine Ole.jn ?_ fun _ => ?_) | (refine Ole.obind ?_ fun _ => ?_))
theorem hr22_SameAll : HoldsC Go.Proofs.Tryd.prog 13 cr22_SameAll := (Holds.sub (holds_of (D := dr22_SameAll) (f := 13) hmix inert_ok (l := [(12, cr22_Same)]) ⟨hr22_Same, trivial⟩ (by kernel_rfl) er22_SameAll : Holds Go.Proofs.Tryd.prog 13 ⟨dr22_SameAll.pre, dr22_SameAll.post, nr22_SameAll⟩) or22_SameAll).toC rfl
theorem er22_SameHB (x : ((List (List Int)) × (List (List Int)) × (List (List Int)) × (List (List Int)) × (List (List Int)) × (List (List Int)) × (List Int) × (List (List Int)) × List Int) × (List (List Int)) × (List (List Int)) × (List (List Int)) × (List (List Int)) × (List (List Int)) × (List (List Int)) × (List Int) × (List (List Int)) × List Int) : tfun (conL [(12, cr22_Same), (13, cr22_SameAll), (14, cr22_Equal)]) tyv inert (compF Go.Proofs.Tryd.prog 5) dr22_SameHB x = mr22_SameHB x := by kernel_rfl
theorem hr22_SameHB : HoldsC Go.Proofs.Tryd.prog 5 cr22_SameHB := (holds_of (D := dr22_SameHB) (f := 5) hmix inert_ok (l := [(12, cr22_Same), (13, cr22_SameAll), (14, cr22_Equal)]) ⟨hr22_Same, hr22_SameAll, hr22_Equal, trivial⟩ (by kernel_rfl) er22_SameHB : Holds Go.Proofs.Tryd.prog 5 ⟨dr22_SameHB.pre, dr22_SameHB.post, mr22_SameHB⟩).toC rfl
theorem er22_Mutex (x : ((List ((List UInt8) × Int × Int × Bool × Int)) × (List ((List UInt8) × Bool)) × (List ((List UInt8) × Int)) × (List (List UInt8)) × (List (List UInt8)) × List (Int × Int × Int)) × Int) : tfun (conL []) tyv inert (compF Go.Proofs.Tryd.prog 43) dr22_Mutex x = mr22_Mutex x := by kernel_rfl
theorem hr22_Mutex : HoldsC Go.Proofs.Tryd.prog 43 cr22_Mutex := (holds_of (D := dr22_Mutex) (f := 43) hmix inert_ok (l := []) trivial (by kernel_rfl) er22_Mutex : Holds Go.Proofs.Tryd.prog 43 ⟨dr22_Mutex.pre, dr22_Mutex.post, mr22_Mutex⟩).toC rfl
theorem er22_Acquires (x : ((List ((List UInt8) × Int × Int × Bool × Int)) × (List ((List UInt8) × Bool)) × (List ((List UInt8) × Int)) × (List (List UInt8)) × (List (List UInt8)) × List (Int × Int × Int)) × Int × Int × Int × Int × Int × (List Int) × List Int) : tfun (conL [(43, cr22_Mutex)]) tyv inert (compF Go.Proofs.Tryd.prog 42) dr22_Acquires x = mr22_Acquires x := by kernel_rfl
theorem hr22_Acquires : HoldsC Go.Proofs.Tryd.prog 42 cr22_Acquires := (holds_of (D := dr22_Acquires) (f := 42) hmix inert_ok (l := [(43, cr22_Mutex)]) ⟨hr22_Mutex, trivial⟩ (by kernel_rfl) er22_Acquires : Holds Go.Proofs.Tryd.prog 42 ⟨dr22_Acquires.pre, dr22_Acquires.post, mr22_Acquires⟩).toC rfl
theorem er22_Releases (x : ((List ((List UInt8) × Int × Int × Bool × Int)) × (List ((List UInt8) × Bool)) × (List ((List UInt8) × Int)) × (List (List UInt8)) × (List (List UInt8)) × List (Int × Int × Int)) × Int × Int × Int × Int × Int × (List Int) × List Int) : tfun (conL [(43, cr22_Mutex)]) tyv inert (compF Go.Proofs.Tryd.prog 29) dr22_Releases x = mr22_Releases x := by kernel_rfl
theorem hr22_Releases : HoldsC Go.Proofs.Tryd.prog 29 cr22_Releases := (holds_of (D := dr22_Releases) (f := 29) hmix inert_ok (l := [(43, cr22_Mutex)]) ⟨hr22_Mutex, trivial⟩ (by kernel_rfl) er22_Releases : Holds Go.Proofs.Tryd.prog 29 ⟨dr22_Releases.pre, dr22_Releases.post, mr22_Releases⟩).toC rfl
theorem er22_arriving (x : (((List ((List UInt8) × Int × Int × Bool × Int)) × (List ((List UInt8) × Bool)) × (List ((List UInt8) × Int)) × (List (List UInt8)) × (List (List UInt8)) × List (Int × Int × Int)) × (List Int) × Int × Int × Int × Int × Int × (List Int) × List Int) × (List (List Int)) × (List (List Int)) × (List (List Int)) × (List (List Int)) × (List (List Int)) × (List (List Int)) × (List (List Int)) × List Int) : tfun (conL [(26, cr22_Join), (42, cr22_Acquires)]) tyv inert (compF Go.Proofs.Tryd.prog 27) dr22_arriving x = mr22_arriving x := by kernel_rfl
theorem hr22_arriving : HoldsC Go.Proofs.Tryd.prog 27 cr22_arriving := (holds_of (D := dr22_arriving) (f := 27) hmix inert_ok (l := [(26, cr22_Join), (42, cr22_Acquires)]) ⟨hr22_Join, hr22_Acquires, trivial⟩ (by kernel_rfl) er22_arriving : Holds Go.Proofs.Tryd.prog 27 ⟨dr22_arriving.pre, dr22_arriving.post, mr22_arriving⟩).toC rfl
end Go.Proofs.YtjjplipoacljoaaDoor.AI
namespace Go.Proofs.YtjjplipoacljoaaDoor.AI
set_option maxRecDepth 100000
theorem hr22_arrivingR : HoldsC Go.Proofs.Tryd.prog 27 cr22_arrivingR := @HoldsC.ro Go.Proofs.Tryd.prog 27 dr22_arriving.pre dr22_arriving.post.vs mr22_arriving mr22_arrivingR (hr22_arriving.holds rfl) rfl (fun _ _ h => h)
theorem er22_Step (x : ((List ((List UInt8) × Int × Int × Bool × Int)) × (List ((List UInt8) × Bool)) × (List ((List UInt8) × Int)) × (List (List UInt8)) × (List (List UInt8)) × List (Int × Int × Int)) × ((List (List Int)) × (List (List Int)) × (List (List Int)) × (List (List Int)) × (List (List Int)) × (List (List Int)) × (List Int) × (List (List Int)) × List Int) × Int × Int × Int × Int × Int × (List Int) × List Int) : tfun (conL [(24, cr22_copied), (25, cr22_Tick), (26, cr22_Join), (27, cr22_arrivingR), (28, cr22_Copy), (29, cr22_Releases)]) tyv inert (compF Go.Proofs.Tryd.prog 11) dr22_Step x = nr22_Step x := by kernel_rfl
theorem or22_Step (x : ((List ((List UInt8) × Int × Int × Bool × Int)) × (List ((List UInt8) × Bool)) × (List ((List UInt8) × Int)) × (List (List UInt8)) × (List (List UInt8)) × List (Int × Int × Int)) × ((List (List Int)) × (List (List Int)) × (List (List Int)) × (List (List Int)) × (List (List Int)) × (List (List Int)) × (List Int) × (List (List Int)) × List Int) × Int × Int × Int × Int × Int × (List Int) × List Int) : Ole (mr22_Step x) (nr22_Step x) := by
  unfold mr22_Step nr22_Step gr22_Step
  repeat' (first | with_reducible exact Ole.rfl | (refine Ole.iter fun _ => ?_) | (refine Ole.chk ?_) | (refine Ole.bcase ?_ ?_) | (refine Ole.jn ?_ fun _ => ?_) | (refine Ole.obind ?_ fun _ => ?_))
theorem hr22_Step : HoldsC Go.Proofs.Tryd.prog 11 cr22_Step := (Holds.sub (holds_of (D := dr22_Step) (f := 11) hmix inert_ok (l := [(24, cr22_copied), (25, cr22_Tick), (26, cr22_Join), (27, cr22_arrivingR), (28, cr22_Copy), (29, cr22_Releases)]) ⟨hr22_copied, hr22_Tick, hr22_Join, hr22_arrivingR, hr22_Copy, hr22_Releases, trivial⟩ (by kernel_rfl) er22_Step : Holds Go.Proofs.Tryd.prog 11 ⟨dr22_Step.pre, dr22_Step.post, nr22_Step⟩) or22_Step).toC rfl
theorem er22_Start (x : (List ((List UInt8) × Int × Int × Bool × Int)) × (List ((List UInt8) × Bool)) × (List ((List UInt8) × Int)) × (List (List UInt8)) × (List (List UInt8)) × List (Int × Int × Int)) : tfun (conL []) tyv inert (compF Go.Proofs.Tryd.prog 7) dr22_Start x = nr22_Start x := by kernel_rfl
theorem or22_Start (x : (List ((List UInt8) × Int × Int × Bool × Int)) × (List ((List UInt8) × Bool)) × (List ((List UInt8) × Int)) × (List (List UInt8)) × (List (List UInt8)) × List (Int × Int × Int)) : Ole (mr22_Start x) (nr22_Start x) := by
  unfold mr22_Start nr22_Start gr22_Start
  repeat' (first | with_reducible exact Ole.rfl | (refine Ole.iter fun _ => ?_) | (refine Ole.chk ?_) | (refine Ole.bcase ?_ ?_) | (refine Ole.jn ?_ fun _ => ?_) | (refine Ole.obind ?_ fun _ => ?_))
theorem hr22_Start : HoldsC Go.Proofs.Tryd.prog 7 cr22_Start := (Holds.sub (holds_of (D := dr22_Start) (f := 7) hmix inert_ok (l := []) trivial (by kernel_rfl) er22_Start : Holds Go.Proofs.Tryd.prog 7 ⟨dr22_Start.pre, dr22_Start.post, nr22_Start⟩) or22_Start).toC rfl
end Go.Proofs.YtjjplipoacljoaaDoor.AI
namespace Go.Proofs.YtjjplipoacljoaaDoor.AI
set_option maxRecDepth 100000
theorem escene_World (x : Unit) : tfun (conL []) tyv inert (compF Go.Proofs.Tryd.prog 9) dscene_World x = nscene_World x := by kernel_rfl
theorem oscene_World (x : Unit) : Ole (mscene_World x) (nscene_World x) := by
  unfold mscene_World nscene_World gscene_World
  repeat' (first | with_reducible exact Ole.rfl | (refine Ole.iter fun _ => ?_) | (refine Ole.chk ?_) | (refine Ole.bcase ?_ ?_) | (refine Ole.jn ?_ fun _ => ?_) | (refine Ole.obind ?_ fun _ => ?_))
theorem hscene_World : HoldsC Go.Proofs.Tryd.prog 9 cscene_World := (Holds.sub (holds_of (D := dscene_World) (f := 9) hmix inert_ok (l := []) trivial (by kernel_rfl) escene_World : Holds Go.Proofs.Tryd.prog 9 ⟨dscene_World.pre, dscene_World.post, nscene_World⟩) oscene_World).toC rfl
theorem elaw23_HBStarts (x : Int × Int × Int × Int) : tfun (conL [(5, cr22_SameHB), (6, chb_Start), (7, cr22_Start), (8, cawake)]) tyv inert (compF Go.Proofs.Tryd.prog 3) dlaw23_HBStarts x = mlaw23_HBStarts x := by kernel_rfl
theorem hlaw23_HBStarts : HoldsC Go.Proofs.Tryd.prog 3 claw23_HBStarts := (holds_of (D := dlaw23_HBStarts) (f := 3) hmix inert_ok (l := [(5, cr22_SameHB), (6, chb_Start), (7, cr22_Start), (8, cawake)]) ⟨hr22_SameHB, hhb_Start, hr22_Start, hawake, trivial⟩ (by kernel_rfl) elaw23_HBStarts : Holds Go.Proofs.Tryd.prog 3 ⟨dlaw23_HBStarts.pre, dlaw23_HBStarts.post, mlaw23_HBStarts⟩).toC rfl
theorem elaw23_HBAny (x : List (Int × Int × Int × Int)) : tfun (conL [(5, cr22_SameHB), (6, chb_Start), (7, cr22_Start), (8, cawake), (9, cscene_World), (10, chb_Step), (11, cr22_Step), (12, cr22_Same)]) tyv inert (compF Go.Proofs.Tryd.prog 4) dlaw23_HBAny x = nlaw23_HBAny x := by kernel_rfl
theorem olaw23_HBAny (x : List (Int × Int × Int × Int)) : Ole (mlaw23_HBAny x) (nlaw23_HBAny x) := by
  unfold mlaw23_HBAny nlaw23_HBAny glaw23_HBAny
  repeat' (first | with_reducible exact Ole.rfl | (refine Ole.iter fun _ => ?_) | (refine Ole.chk ?_) | (refine Ole.bcase ?_ ?_) | (refine Ole.jn ?_ fun _ => ?_) | (refine Ole.obind ?_ fun _ => ?_))
theorem hlaw23_HBAny : HoldsC Go.Proofs.Tryd.prog 4 claw23_HBAny := (Holds.sub (holds_of (D := dlaw23_HBAny) (f := 4) hmix inert_ok (l := [(5, cr22_SameHB), (6, chb_Start), (7, cr22_Start), (8, cawake), (9, cscene_World), (10, chb_Step), (11, cr22_Step), (12, cr22_Same)]) ⟨hr22_SameHB, hhb_Start, hr22_Start, hawake, hscene_World, hhb_Step, hr22_Step, hr22_Same, trivial⟩ (by kernel_rfl) elaw23_HBAny : Holds Go.Proofs.Tryd.prog 4 ⟨dlaw23_HBAny.pre, dlaw23_HBAny.post, nlaw23_HBAny⟩) olaw23_HBAny).toC rfl
end Go.Proofs.YtjjplipoacljoaaDoor.AI
namespace Go.Proofs.YtjjplipoacljoaaDoor.AI

theorem bcase_eq {R : Type} (b : Bool) (t f : Option R) : bcase b t f = if b = true then t else f := by cases b <;> rfl
@[simp] theorem bcase_t {R : Type} (t f : Option R) : bcase true t f = t := Eq.trans rfl rfl
@[simp] theorem bcase_f {R : Type} (t f : Option R) : bcase false t f = f := Eq.trans rfl rfl
@[simp] theorem chk_t {R : Type} (k : true = true → Option R) : chk true k = k rfl := Eq.trans rfl rfl
theorem chk_of {R : Type} {b : Bool} (h : b = true) (k : Option R) : chk b (fun _ => k) = k := by cases b with | true => rfl | false => cases h
@[simp] theorem obind_s {α R : Type} (x : α) (k : α → Option R) : obind (some x) k = k x := Eq.trans rfl rfl
@[simp] theorem jn_r {α R : Type} (x : α) (k : α → Option R) : jn (some (.inr x)) k = k x := Eq.trans rfl rfl
@[simp] theorem jn_l {α R : Type} (r : R) (k : α → Option R) : jn (some (.inl r)) k = some r := Eq.trans rfl rfl
theorem both_of {R : Type} {a b : Option R} (h : a = b) : both a b = b := by subst h; unfold both; rw [if_pos rfl]
theorem same_of {α R : Type} {a b : α} (h : a = b) (r : Option R) : same a b r = r := by unfold same; rw [if_pos h]

theorem iter_of {σ R : Type} {f : σ → Option (σ ⊕ R)} {n : Nat} {x : σ} {r : R} (h : iterN f n x = some r) (hn : n ≤ 18446744073709551616) : iterC f x = some r := iterN_le h hn
/-- a loop that counts -/
theorem iter_for {σ R : Type} {f : σ → Option (σ ⊕ R)} (n : Nat) (hn : n < 18446744073709551616) (st : Nat → σ) {r : R} (h0 : ∀ i, i < n → f (st i) = some (.inl (st (i + 1)))) (h1 : f (st n) = some (.inr r)) : iterC f (st 0) = some r := by
  have key : ∀ k i, i + k = n → iterN f (k + 1) (st i) = some r := by
    intro k
    induction k with
    | zero => intro i hi; have : i = n := by omega
              subst this; simp only [iterN, h1]
    | succ k ih => intro i hi; rw [iterN, h0 i (by omega)]; exact ih (i + 1) (by omega)
  exact iter_of (key n 0 (by omega)) (by omega)
/-- a loop with an invariant -/
theorem iter_inv {σ R : Type} {f : σ → Option (σ ⊕ R)} (μ : σ → Nat) (I : σ → Prop) (Q : R → Prop) (h : ∀ x, I x → (∃ y, f x = some (.inl y) ∧ I y ∧ μ y < μ x) ∨ (∃ r, f x = some (.inr r) ∧ Q r)) (x : σ) (hm : μ x < 18446744073709551616) (hx : I x) : ∃ r, iterC f x = some r ∧ Q r := by
  have key : ∀ n x, μ x < n → I x → ∃ r, iterN f n x = some r ∧ Q r := by
    intro n
    induction n with
    | zero => intro x hx; omega
    | succ n ih =>
      intro x hx hi
      rcases h x hi with ⟨y, h1, h2, h3⟩ | ⟨r, h1, h2⟩
      · obtain ⟨r, h4, h5⟩ := ih y (by omega) h2
        exact ⟨r, by rw [iterN, h1]; exact h4, h5⟩
      · exact ⟨r, by rw [iterN, h1], h2⟩
  obtain ⟨r, h4, h5⟩ := key _ x (Nat.lt_succ_self _) hx
  exact ⟨r, iter_of h4 (by omega), h5⟩

@[simp] theorem ile_iff {a b : Int} : ile a b = true ↔ a ≤ b := by unfold ile; simp
@[simp] theorem ilt_iff {a b : Int} : ilt a b = true ↔ a < b := by unfold ilt; simp
theorem ile_t {a b : Int} (h : a ≤ b) : ile a b = true := ile_iff.2 h
theorem ilt_t {a b : Int} (h : a < b) : ilt a b = true := ilt_iff.2 h
theorem ile_f {a b : Int} (h : b < a) : ile a b = false := by unfold ile; simp; omega
theorem ilt_f {a b : Int} (h : b ≤ a) : ilt a b = false := by unfold ilt; simp; omega
theorem inB_t {j : Int} {n : Nat} (h0 : 0 ≤ j) (h1 : j < n) : inB j n = true := by unfold inB; rw [ile_t h0, ilt_t h1]; rfl
theorem inB_nat {j n : Nat} (h1 : j < n) : inB (j : Int) n = true := inB_t (by omega) (by omega)
theorem roomy_t {n b : Nat} (h0 : n ≤ 1099511627776) (h1 : n * b ≤ 1099511627776) : roomy n b = true := by
  unfold roomy; rw [Nat.ble_eq_true_of_le h0, Nat.ble_eq_true_of_le h1]; rfl
theorem wr64 {n : Int} (h0 : -9223372036854775808 ≤ n) (h1 : n ≤ 9223372036854775807) : wrapK .i64 n = n := by
  unfold wrapK; simp only []; rw [ile_t h0, ile_t h1]; rfl
theorem wrap_succ {i n : Nat} (h : i < n) (hn : n ≤ 1099511627776) : wrapK .i64 ((i : Int) + 1) = ((i + 1 : Nat) : Int) := by
  rw [wr64 (by omega) (by omega)]; omega
theorem imax_nat (a b : Nat) : imax (Int.ofNat a) (Int.ofNat b) = ((max a b : Nat) : Int) := by
  unfold imax
  by_cases h : a < b
  · rw [ilt_t (by simp; omega), if_pos rfl]; simp; omega
  · rw [ilt_f (by simp; omega)]; simp; omega
theorem geti_nat {T : Ty} (xs : List T.den) (i : Nat) : geti xs (i : Int) = xs.getD i T.zero := by unfold geti; simp
theorem geti_l (xs : List (List Int)) (i : Nat) : geti (T := .sl (.int .i64)) xs (i : Int) = xs.getD i [] := geti_nat (T := .sl (.int .i64)) xs i
theorem geti_i (xs : List Int) (i : Nat) : geti (T := .int .i64) xs (i : Int) = xs.getD i 0 := geti_nat (T := .int .i64) xs i
theorem seti_nat {α : Type} (xs : List α) (i : Nat) (x : α) : seti xs (i : Int) x = xs.set i x := by unfold seti; simp
end Go.Proofs.YtjjplipoacljoaaDoor.AI
namespace Go.Proofs.YtjjplipoacljoaaDoor.AI

def big : Nat := 1000000000
/-- the entry-wise maximum -/
def jl (a b : List Int) : List Int := (List.range (max a.length b.length)).map fun i => imax (a.getD i 0) (b.getD i 0)
theorem jl_length (a b : List Int) : (jl a b).length = max a.length b.length := by simp [jl]
theorem jl_get (a b : List Int) (i : Nat) : (jl a b).getD i 0 = imax (a.getD i 0) (b.getD i 0) := by
  unfold jl
  simp only [List.getD_eq_getElem?_getD, List.getElem?_map]
  by_cases h : i < max a.length b.length
  · rw [List.getElem?_range h]; rfl
  · rw [List.getElem?_eq_none (by simp only [List.length_range]; omega), List.getElem?_eq_none (l := a) (by omega), List.getElem?_eq_none (l := b) (by omega)]; rfl

theorem At_nat (c : List Int) (i : Nat) : mclock_At (c, (i : Int)) = some (c.getD i 0) := by
  unfold mclock_At
  simp only []
  rw [ilt_f (by omega)]
  simp only [bcase_f, jn_r]
  by_cases h : i < c.length
  · rw [ile_f (by simp; omega)]
    simp only [bcase_f]
    rw [chk_of (inB_nat h), geti_nat]; rfl
  · rw [ile_t (by simp; omega)]
    simp only [bcase_t]
    rw [List.getD_eq_getElem?_getD, List.getElem?_eq_none (by omega)]; rfl
theorem r22At : mr22_At = mclock_At := rfl
theorem r22Join : mr22_Join = mclock_Join := rfl
theorem Join_eq (a b : List Int) (ha : a.length ≤ big) (hb : b.length ≤ big) : mclock_Join (a, b) = some (jl a b) := by
  unfold big at ha hb
  unfold mclock_Join gclock_Join
  have hm : max a.length b.length ≤ 1000000000 := by omega
  rw [chk_of (by simp only [imax_nat]; rw [ile_t (by omega), ile_t (by omega), roomy_t (by simp; omega) (by simp; omega)]; rfl)]
  simp only [imax_nat, Int.toNat_natCast, List.length_replicate]
  have := iter_for (σ := Int × List Int) (R := List Int) (max a.length b.length) (by omega) (fun i => ((i : Int), (List.range (max a.length b.length)).map fun k => if k < i then imax (a.getD k 0) (b.getD k 0) else 0)) (f := (fun x1 => (bcase (ilt x1.1 (Int.ofNat (max a.length b.length))) (obind (mclock_At (a, x1.1)) fun y2 => (obind (mclock_At (b, x1.1)) fun y3 => (chk (inB x1.1 (List.length x1.2)) fun _ => (chk (inB x1.1 (List.length x1.2)) fun _ => (some (Sum.inl ((wrapK .i64 (x1.1 + 1)), (seti x1.2 x1.1 (imax y2 y3))))))))) (some (Sum.inr x1.2))))) (r := jl a b) ?_ ?_
  · refine Eq.trans ?_ this
    congr 1
    simp only [Int.natCast_zero, Nat.not_lt_zero, if_false, Prod.mk.injEq, true_and]
    apply List.ext_getElem <;> simp
  · intro i hi
    simp only []
    rw [ilt_t (by simp; omega), bcase_t, At_nat, At_nat, obind_s, obind_s, chk_of (inB_nat (by simpa using hi)), chk_of (inB_nat (by simpa using hi)), wrap_succ hi (by omega), seti_nat]
    congr 3
    apply List.ext_getElem
    · simp
    · intro k h1 h2
      simp only [List.length_map, List.length_range] at h2
      simp only [List.getElem_set, List.getElem_map, List.getElem_range]
      by_cases e : i = k
      · subst e; simp
      · by_cases h : k < i
        · rw [if_neg e, if_pos h, if_pos (by omega)]
        · rw [if_neg e, if_neg h, if_neg (by omega)]
  · simp only []
    rw [ilt_f (by simp), bcase_f]
    congr 2
    unfold jl
    apply List.map_congr_left
    intro k hk
    rw [if_pos (List.mem_range.1 hk)]
end Go.Proofs.YtjjplipoacljoaaDoor.AI
namespace Go.Proofs.YtjjplipoacljoaaDoor.AI

/-- one more at t -/
def tk (c : List Int) (t : Nat) : List Int := (c ++ List.replicate (t + 1 - c.length) 0).set t (c.getD t 0 + 1)
theorem tk_length (c : List Int) (t : Nat) : (tk c t).length = max c.length (t + 1) := by simp [tk]; omega
theorem padD (c : List Int) (n i : Nat) : (c ++ List.replicate n 0).getD i 0 = c.getD i 0 := by
  simp only [List.getD_eq_getElem?_getD]
  by_cases h : i < c.length
  · rw [List.getElem?_append_left h]
  · rw [List.getElem?_append_right (by omega), List.getElem?_eq_none (l := c) (by omega), List.getElem?_replicate]
    split <;> rfl
theorem tk_get (c : List Int) (t i : Nat) : (tk c t).getD i 0 = if i = t then c.getD t 0 + 1 else c.getD i 0 := by
  unfold tk
  rw [List.getD_eq_getElem?_getD, List.getElem?_set]
  by_cases h : t = i
  · subst h
    rw [if_pos rfl, if_pos (by simp; omega), if_pos rfl]; rfl
  · rw [if_neg h, if_neg (fun e => h e.symm), ← List.getD_eq_getElem?_getD, padD]
theorem cpy_repl (c : List Int) (n : Nat) (h : c.length ≤ n) : cpy (List.replicate n 0) c = c ++ List.replicate (n - c.length) 0 := by
  unfold cpy
  rw [List.length_replicate, List.take_of_length_le h, List.drop_replicate]
theorem Tick_eq (c : List Int) (t : Nat) (hc : c.length ≤ big) (ht : t < 4) (h0 : 0 ≤ c.getD t 0) (h1 : c.getD t 0 < 9223372036854775807) : mclock_Tick (c, (t : Int)) = some (tk c t) := by
  unfold big at hc
  unfold mclock_Tick
  simp only []
  rw [ile_t (by omega), bcase_t, jn_r, ilt_t (by omega)]
  simp only [bcase_t, jn_r]
  have e1 : imax (Int.ofNat c.length) (wrapK .i64 ((t : Int) + 1)) = ((max c.length (t + 1) : Nat) : Int) := by
    rw [wrap_succ ht (by omega)]; exact imax_nat _ _
  rw [e1]
  rw [chk_of (by rw [ile_t (by omega), ile_t (by omega), roomy_t (by simp; omega) (by simp; omega)]; rfl)]
  rw [Int.toNat_natCast]
  have e2 : cpy (List.replicate (max c.length (t + 1)) (0 : Int)) c = c ++ List.replicate (t + 1 - c.length) 0 := by
    rw [cpy_repl c _ (by omega)]
    rw [show max c.length (t + 1) - c.length = t + 1 - c.length from by omega]
  rw [e2]
  have hl : t < (c ++ List.replicate (t + 1 - c.length) (0 : Int)).length := by simp; omega
  rw [chk_of (inB_nat hl), chk_of (inB_nat hl), jn_r]
  have e3 : geti (T := .int .i64) (c ++ List.replicate (t + 1 - c.length) (0 : Int)) (t : Int) = c.getD t 0 := by
    rw [geti_nat]; exact padD c _ t
  simp only []
  rw [e3, ilt_t h1, bcase_t, chk_of (inB_nat hl), chk_of (inB_nat hl), chk_of (inB_nat hl), chk_of (inB_nat hl), jn_r, wr64 (by omega) (by omega), seti_nat]
  rfl
theorem CopyO_eq (c : List Int) (hc : c.length ≤ big) : mr22_CopyO c = some c := by
  unfold big at hc
  unfold mr22_CopyO
  rw [chk_of (roomy_t (by omega) (by omega))]
theorem Copy_eq (c : List Int) (hc : c.length ≤ big) : mr22_Copy c = some c := CopyO_eq c hc
theorem Clone_eq (c : List Int) (hc : c.length ≤ big) : mClone c = some c := by
  unfold big at hc
  unfold mClone
  rw [chk_of (roomy_t (by omega) (by omega))]
theorem CloneO_eq (c : List Int) (hc : c.length ≤ big) : mCloneO c = some c := Clone_eq c hc
theorem r22Tick_eq (c : List Int) (t : Nat) (hc : c.length ≤ big) (ht : t < 4) (h0 : 0 ≤ c.getD t 0) (h1 : c.getD t 0 < 9223372036854775807) : mr22_Tick (c, (t : Int)) = some (tk c t) := by
  unfold big at hc
  unfold mr22_Tick gr22_Tick
  simp only []
  rw [CopyO_eq c (by unfold big; omega), obind_s, ilt_f (by omega), bcase_f, jn_r, ile_f (by omega)]
  simp only [bcase_f]
  have := iter_for (σ := List Int) (R := List Int) (t + 1 - c.length) (by omega) (fun i => c ++ List.replicate i 0) (f := (fun x3 => (bcase (ile (Int.ofNat (List.length x3)) (t : Int)) (chk (roomy (List.length x3 + List.length ([(0 : Int)])) 8) fun _ => (some (Sum.inl (x3 ++ ([0]))))) (obind (jn (α := List Int) (chk (inB (t : Int) (List.length x3)) fun _ => (chk (inB (t : Int) (List.length x3)) fun _ => (bcase (ilt (geti (T := (.int .i64)) x3 (t : Int)) 9223372036854775807) (chk (inB (t : Int) (List.length x3)) fun _ => (chk (inB (t : Int) (List.length x3)) fun _ => (chk (inB (t : Int) (List.length x3)) fun _ => (chk (inB (t : Int) (List.length x3)) fun _ => (some (Sum.inr (seti x3 (t : Int) (wrapK .i64 ((geti (T := (.int .i64)) x3 (t : Int)) + 1))))))))) (some (Sum.inr x3))))) fun x4 => (some x4)) fun r => some (Sum.inr r))))) (r := tk c t) ?_ ?_
  · simpa using this
  · intro i hi
    rw [ile_t (by simp; omega), bcase_t, chk_of (roomy_t (by simp; omega) (by simp; omega)), List.append_assoc, ← List.replicate_succ']
  · have hl : t < (c ++ List.replicate (t + 1 - c.length) (0 : Int)).length := by simp; omega
    have e3 : geti (T := .int .i64) (c ++ List.replicate (t + 1 - c.length) (0 : Int)) (t : Int) = c.getD t 0 := by
      rw [geti_nat]; exact padD c _ t
    rw [ile_f (by simp; omega), bcase_f, chk_of (inB_nat hl), chk_of (inB_nat hl), e3, ilt_t h1, bcase_t, chk_of (inB_nat hl), chk_of (inB_nat hl), chk_of (inB_nat hl), chk_of (inB_nat hl), jn_r, obind_s, wr64 (by omega) (by omega), seti_nat]
    rfl
end Go.Proofs.YtjjplipoacljoaaDoor.AI
namespace Go.Proofs.YtjjplipoacljoaaDoor.AI

def GL (l : List (List Int)) : Prop := l.length ≤ big ∧ ∀ c ∈ l, c.length ≤ big
abbrev HT : Type := List (List Int) × List (List Int) × List (List Int) × List (List Int) × List (List Int) × List (List Int) × List Int × List (List Int) × List Int
def GH (h : HT) : Prop := GL h.1 ∧ GL h.2.1 ∧ GL h.2.2.1 ∧ GL h.2.2.2.1 ∧ GL h.2.2.2.2.1 ∧ GL h.2.2.2.2.2.1 ∧ h.2.2.2.2.2.2.1.length ≤ big ∧ GL h.2.2.2.2.2.2.2.1 ∧ h.2.2.2.2.2.2.2.2.length ≤ big
theorem getD_mem {l : List (List Int)} {i : Nat} (h : i < l.length) : l.getD i [] ∈ l := by
  rw [List.getD_eq_getElem?_getD, List.getElem?_eq_getElem h]; exact List.getElem_mem h
theorem GL.at {l : List (List Int)} (h : GL l) (i : Nat) : (l.getD i []).length ≤ big := by
  by_cases hi : i < l.length
  · exact h.2 _ (getD_mem hi)
  · rw [List.getD_eq_getElem?_getD, List.getElem?_eq_none (by omega)]; simp

theorem copy_loop (g : List Int → Option (List Int)) (l : List (List Int)) (hl : l.length ≤ big) (hg : ∀ c ∈ l, g c = some c) :
    iterC (σ := Int × List (List Int)) (fun x1 => (bcase (ilt x1.1 (Int.ofNat (List.length l))) (chk (inB x1.1 (List.length l)) fun _ => (obind (g (geti (T := (.sl (.int .i64))) l x1.1)) fun y2 => (chk (inB x1.1 (List.length x1.2)) fun _ => (chk (inB x1.1 (List.length x1.2)) fun _ => (some (Sum.inl ((wrapK .i64 (x1.1 + 1)), (seti x1.2 x1.1 y2)))))))) (some (Sum.inr x1.2)))) (0, (List.replicate (Int.toNat (Int.ofNat (List.length l))) ([] : List Int))) = some l := by
  unfold big at hl
  have := iter_for (σ := Int × List (List Int)) (R := List (List Int)) l.length (by omega) (fun i => ((i : Int), (List.range l.length).map fun k => if k < i then l.getD k [] else [])) (f := (fun x1 => (bcase (ilt x1.1 (Int.ofNat (List.length l))) (chk (inB x1.1 (List.length l)) fun _ => (obind (g (geti (T := (.sl (.int .i64))) l x1.1)) fun y2 => (chk (inB x1.1 (List.length x1.2)) fun _ => (chk (inB x1.1 (List.length x1.2)) fun _ => (some (Sum.inl ((wrapK .i64 (x1.1 + 1)), (seti x1.2 x1.1 y2)))))))) (some (Sum.inr x1.2))))) (r := l) ?_ ?_
  · refine Eq.trans ?_ this
    congr 1
    simp only [Int.natCast_zero, Nat.not_lt_zero, if_false, Prod.mk.injEq, true_and, Int.ofNat_eq_natCast, Int.toNat_natCast]
    apply List.ext_getElem <;> simp
  · intro i hi
    simp only []
    rw [ilt_t (by simp; omega), bcase_t, chk_of (inB_nat hi), geti_nat, show (l.getD i (Ty.zero (.sl (.int .i64)))) = l.getD i [] from rfl, hg _ (getD_mem hi), obind_s, chk_of (inB_nat (by simpa using hi)), chk_of (inB_nat (by simpa using hi)), wrap_succ hi (by omega), seti_nat]
    congr 3
    apply List.ext_getElem
    · simp
    · intro k h1 h2
      simp only [List.length_map, List.length_range] at h2
      simp only [List.getElem_set, List.getElem_map, List.getElem_range]
      by_cases e : i = k
      · subst e; simp
      · by_cases h : k < i
        · rw [if_neg e, if_pos h, if_pos (by omega)]
        · rw [if_neg e, if_neg h, if_neg (by omega)]
  · simp only []
    rw [ilt_f (by simp), bcase_f]
    congr 2
    apply List.ext_getElem
    · simp
    · intro k h1 h2
      simp only [List.getElem_map, List.getElem_range]
      rw [if_pos h2, List.getD_eq_getElem?_getD, List.getElem?_eq_getElem h2]; rfl
theorem copies_eq (l : List (List Int)) (h : GL l) : mhb_copies l = some l := by
  have hl := h.1
  unfold big at hl
  unfold mhb_copies ghb_copies
  rw [chk_of (by rw [ile_t (by simp), ile_t (by omega), roomy_t (by simp; omega) (by simp; omega)]; rfl)]
  exact copy_loop mClone l h.1 fun c hc => Clone_eq c (h.2 c hc)
theorem CopyAll_eq (l : List (List Int)) (h : GL l) : mr22_CopyAll l = some l := by
  have hl := h.1
  unfold big at hl
  unfold mr22_CopyAll gr22_CopyAll
  rw [chk_of (by rw [ile_t (by simp), ile_t (by omega), roomy_t (by simp; omega) (by simp; omega)]; rfl)]
  exact copy_loop mr22_Copy l h.1 fun c hc => Copy_eq c (h.2 c hc)
theorem copied_eq (h : HT) (g : GH h) : mhb_copied h = some (h.2.2.2.2.2.2.1, h.1, h.2.1, h.2.2.1, h.2.2.2.1, h.2.2.2.2.1, h.2.2.2.2.2.1, h.2.2.2.2.2.2.2.1, h.2.2.2.2.2.2.2.2) := by
  obtain ⟨g1, g2, g3, g4, g5, g6, g7, g8, g9⟩ := g
  unfold mhb_copied
  rw [copies_eq _ g1, obind_s, copies_eq _ g2, obind_s, copies_eq _ g3, obind_s, copies_eq _ g4, obind_s, copies_eq _ g5, obind_s, copies_eq _ g6, obind_s, CloneO_eq _ g7, obind_s, copies_eq _ g8, obind_s, CloneO_eq _ g9, obind_s]
theorem r22copied_eq (h : HT) (g : GH h) : mr22_copied h = some (h.2.2.2.2.2.2.1, h.1, h.2.1, h.2.2.1, h.2.2.2.1, h.2.2.2.2.1, h.2.2.2.2.2.1, h.2.2.2.2.2.2.2.1, h.2.2.2.2.2.2.2.2) := by
  obtain ⟨g1, g2, g3, g4, g5, g6, g7, g8, g9⟩ := g
  unfold mr22_copied
  rw [CopyAll_eq _ g1, obind_s, CopyAll_eq _ g2, obind_s, CopyAll_eq _ g3, obind_s, CopyAll_eq _ g4, obind_s, CopyAll_eq _ g5, obind_s, CopyAll_eq _ g6, obind_s, CopyO_eq _ g7, obind_s, CopyAll_eq _ g8, obind_s, CopyO_eq _ g9, obind_s]

theorem imax_self (n : Nat) : imax (Int.ofNat n) (Int.ofNat n) = (n : Int) := by rw [imax_nat, Nat.max_self]
theorem Leq_refl (a : List Int) (h : a.length ≤ big) : mr22_Leq (a, a) = some true := by
  unfold big at h
  unfold mr22_Leq gr22_Leq
  refine iter_for (σ := Int) a.length (by omega) (fun i => (i : Int)) (fun i hi => ?_) ?_
  · simp only [imax_self]
    rw [ilt_t (by omega), bcase_t, r22At, At_nat, obind_s, obind_s, ilt_f (by omega), bcase_f, wrap_succ hi (by omega)]
  · simp only [imax_self]
    rw [ilt_f (by omega), bcase_f]
theorem Same_refl (a : List Int) (h : a.length ≤ big) : mr22_Same (a, a) = some true := by
  unfold mr22_Same
  rw [Leq_refl a h, obind_s, bcase_t, obind_s, jn_r]
theorem SameAll_refl (l : List (List Int)) (h : GL l) : mr22_SameAll (l, l) = some true := by
  have hl := h.1
  unfold big at hl
  unfold mr22_SameAll gr22_SameAll
  simp only [decide_true, Bool.not_true, bcase_f]
  refine iter_for (σ := Int) l.length (by omega) (fun i => (i : Int)) (fun i hi => ?_) ?_
  · rw [ilt_t (by simp; omega), bcase_t, chk_of (inB_nat hi), chk_of (inB_nat hi), geti_l, Same_refl _ (h.at i), obind_s]
    simp only [Bool.not_true, bcase_f]
    rw [wrap_succ hi (by omega)]
  · rw [ilt_f (by simp), bcase_f]
theorem Equal_refl (l : List Int) (h : l.length ≤ big) : mr22_Equal (l, l) = some true := by
  unfold big at h
  unfold mr22_Equal gr22_Equal
  simp only [decide_true, Bool.not_true, bcase_f]
  refine iter_for (σ := Int) l.length (by omega) (fun i => (i : Int)) (fun i hi => ?_) ?_
  · rw [ilt_t (by simp; omega), bcase_t, chk_of (inB_nat hi), chk_of (inB_nat hi)]
    rw [wrap_succ hi (by omega)]
  · rw [ilt_f (by simp), bcase_f]
theorem SameHB_refl (h : HT) (g : GH h) : mr22_SameHB (h, h) = some true := by
  obtain ⟨g1, g2, g3, g4, g5, g6, g7, g8, g9⟩ := g
  unfold mr22_SameHB
  simp only []
  rw [SameAll_refl _ g1, obind_s, bcase_t, SameAll_refl _ g2, obind_s, bcase_t, SameAll_refl _ g3, obind_s, bcase_t, SameAll_refl _ g4, obind_s, bcase_t, SameAll_refl _ g5, obind_s, bcase_t, SameAll_refl _ g6, obind_s, bcase_t, Same_refl _ g7, obind_s, bcase_t, SameAll_refl _ g8, obind_s, bcase_t, Equal_refl _ g9, obind_s, jn_r]
theorem r22Start : mr22_Start = mhb_Start := rfl
abbrev WT : Type := List (List UInt8 × Int × Int × Bool × Int) × List (List UInt8 × Bool) × List (List UInt8 × Int) × List (List UInt8) × List (List UInt8) × List (Int × Int × Int)
/-- the state at the beginning -/
def h0 (w : WT) : HT := (List.replicate w.2.2.2.2.1.length [], List.replicate w.2.2.2.2.1.length [], List.replicate w.2.1.length [], List.replicate w.2.1.length [], List.replicate w.1.length [], List.replicate w.2.2.2.1.length [], [], List.replicate w.2.2.2.2.1.length [], List.replicate w.2.2.2.2.1.length (-1))
theorem Start_eq (w : WT) (h1 : w.1.length ≤ big) (h2 : w.2.1.length ≤ big) (h3 : w.2.2.2.1.length ≤ big) (h4 : w.2.2.2.2.1.length ≤ big) : mhb_Start w = some (h0 w) := by
  unfold big at h1 h2 h3 h4
  have c : ∀ n b : Nat, n ≤ 1000000000 → b ≤ 24 → (ile 0 (Int.ofNat n) && ile (Int.ofNat n) (Int.ofNat n) && roomy (Int.toNat (Int.ofNat n)) b) = true := fun n b hn hb => by
    have : n * b ≤ n * 24 := Nat.mul_le_mul_left n hb
    rw [ile_t (by simp), ile_t (by omega), roomy_t (by simp; omega) (by simp; omega)]; rfl
  unfold mhb_Start ghb_Start
  rw [chk_of (c _ 24 h4 (by omega)), chk_of (c _ 24 h4 (by omega)), chk_of (c _ 24 h2 (by omega)), chk_of (c _ 24 h2 (by omega)), chk_of (c _ 24 h1 (by omega)), chk_of (c _ 24 h3 (by omega)), chk_of (c _ 24 h4 (by omega)), chk_of (c _ 8 h4 (by omega))]
  simp only [Int.ofNat_eq_natCast, Int.toNat_natCast, List.length_replicate]
  have := iter_for (σ := Int × (List (List Int)) × (List (List Int)) × (List (List Int)) × (List (List Int)) × (List (List Int)) × (List (List Int)) × (List (List Int)) × List Int) (R := HT) w.2.2.2.2.1.length (by omega) (fun i => ((i : Int), List.replicate w.2.2.2.2.1.length [], List.replicate w.2.2.2.2.1.length [], List.replicate w.2.1.length [], List.replicate w.2.1.length [], List.replicate w.1.length [], List.replicate w.2.2.2.1.length [], List.replicate w.2.2.2.2.1.length [], (List.range w.2.2.2.2.1.length).map fun k => if k < i then -1 else 0)) (f := (fun x1 => (bcase (ilt x1.1 (w.2.2.2.2.1.length : Int)) (chk (inB x1.1 (List.length x1.2.2.2.2.2.2.2.2)) fun _ => (chk (inB x1.1 (List.length x1.2.2.2.2.2.2.2.2)) fun _ => (some (Sum.inl ((wrapK .i64 (x1.1 + 1)), x1.2.1, x1.2.2.1, x1.2.2.2.1, x1.2.2.2.2.1, x1.2.2.2.2.2.1, x1.2.2.2.2.2.2.1, x1.2.2.2.2.2.2.2.1, (seti x1.2.2.2.2.2.2.2.2 x1.1 (-1))))))) (some (Sum.inr (x1.2.1, x1.2.2.1, x1.2.2.2.1, x1.2.2.2.2.1, x1.2.2.2.2.2.1, x1.2.2.2.2.2.2.1, ([] : List Int), x1.2.2.2.2.2.2.2.1, x1.2.2.2.2.2.2.2.2)))))) (r := h0 w) ?_ ?_
  · refine Eq.trans ?_ this
    congr 1
    simp only [Int.natCast_zero, Nat.not_lt_zero, if_false, Prod.mk.injEq, true_and]
    apply List.ext_getElem <;> simp
  · intro i hi
    simp only []
    rw [ilt_t (by omega), bcase_t, chk_of (inB_nat (by simpa using hi)), chk_of (inB_nat (by simpa using hi)), wrap_succ hi (by omega), seti_nat]
    congr 3
    simp only [Prod.mk.injEq, true_and]
    apply List.ext_getElem
    · simp
    · intro k h1 h2
      simp only [List.length_map, List.length_range] at h2
      simp only [List.getElem_set, List.getElem_map, List.getElem_range]
      by_cases e : i = k
      · subst e; simp
      · by_cases h : k < i
        · rw [if_neg e, if_pos h, if_pos (by omega)]
        · rw [if_neg e, if_neg h, if_neg (by omega)]
  · simp only []
    rw [ilt_f (by omega), bcase_f]
    unfold h0
    congr 3
    simp only [Prod.mk.injEq, true_and]
    apply List.ext_getElem
    · simp
    · intro k h1 h2
      simp only [List.length_replicate] at h2
      simp only [List.getElem_map, List.getElem_range, List.getElem_replicate]
      rw [if_pos h2]
theorem GL_repl {n : Nat} (h : n ≤ big) : GL (List.replicate n []) := ⟨by simpa using h, fun c hc => by rw [(List.mem_replicate.1 hc).2]; simp⟩
theorem GH_h0 (w : WT) (h1 : w.1.length ≤ big) (h2 : w.2.1.length ≤ big) (h3 : w.2.2.2.1.length ≤ big) (h4 : w.2.2.2.2.1.length ≤ big) : GH (h0 w) :=
  ⟨GL_repl h4, GL_repl h4, GL_repl h2, GL_repl h2, GL_repl h1, GL_repl h3, by simp [h0], GL_repl h4, by simpa [h0] using h4⟩
/-- HBStarts -/
theorem HBStarts_plain (a b c d : Int) (ha : 0 ≤ a) (hb : 0 ≤ b) (hc : 0 ≤ c) (hd : 0 ≤ d) : mlaw23_HBStarts (a, b, c, d) = some true := by
  have k : ∀ (x : Int) (m : Int) (n : Nat), 0 ≤ x → 0 < m → m ≤ 20 → n ≤ 48 → (ile 0 (Int.tmod x m) && ile (Int.tmod x m) (Int.tmod x m) && roomy (Int.toNat (Int.tmod x m)) n) = true ∧ (Int.tmod x m).toNat ≤ big := fun x m n hx h0 hm hn => by
    have e : Int.tmod x m = x % m := Int.tmod_eq_emod_of_nonneg hx
    have h1 := Int.emod_nonneg x (show m ≠ 0 by omega)
    have h2 := Int.emod_lt_of_pos x h0
    have h3 : (x % m).toNat ≤ 20 := by omega
    have h4 : (x % m).toNat * n ≤ 20 * 48 := Nat.mul_le_mul h3 hn
    rw [e]
    exact ⟨by rw [ile_t h1, ile_t (by omega), roomy_t (by omega) (by omega)]; rfl, by unfold big; omega⟩
  obtain ⟨k1, k1'⟩ := k a 20 48 ha (by omega) (by omega) (by omega)
  obtain ⟨k2, k2'⟩ := k b 10 24 hb (by omega) (by omega) (by omega)
  obtain ⟨k3, k3'⟩ := k c 5 16 hc (by omega) (by omega) (by omega)
  obtain ⟨k4, k4'⟩ := k d 6 16 hd (by omega) (by omega) (by omega)
  unfold mlaw23_HBStarts
  simp only []
  rw [chk_of k1, chk_of k2, chk_of k3, chk_of k4, jn_r]
  simp only []
  have hs := Start_eq (List.replicate (Int.toNat (Int.tmod a 20)) ([], 0, 0, false, 0), List.replicate (Int.toNat (Int.tmod b 10)) ([], false), [], List.replicate (Int.toNat (Int.tmod c 5)) [], List.replicate (Int.toNat (Int.tmod d 6)) [], []) (by simpa using k1') (by simpa using k2') (by simpa using k3') (by simpa using k4')
  have hg := GH_h0 (List.replicate (Int.toNat (Int.tmod a 20)) ([], 0, 0, false, 0), List.replicate (Int.toNat (Int.tmod b 10)) ([], false), [], List.replicate (Int.toNat (Int.tmod c 5)) [], List.replicate (Int.toNat (Int.tmod d 6)) [], []) (by simpa using k1') (by simpa using k2') (by simpa using k3') (by simpa using k4')
  rw [r22Start, hs, obind_s, obind_s, SameHB_refl _ hg, obind_s, bcase_t]
  rfl
end Go.Proofs.YtjjplipoacljoaaDoor.AI
