/- Pruned: Kf. -/
import Derived.Test.YtfbkefgoblcmpaaGreatQKe
import Derived.Test.YtfbkefgoblcmpaaGreatQIa
import Derived.Test.YtfbkefgoblcmpaaGreatQKb
import Derived.Test.YtfbkefgoblcmpaaGreatQKd
import Derived.Test.YtfbkefgoblcmpaaGreatQKc
set_option linter.unusedSimpArgs false
set_option linter.unusedVariables false
namespace Go.Proofs.YtfbkefgoblcmpaaGreat
open Go.Ev Go.RowKit
open Tryz
abbrev qs (n : Nat) : Prop := true = true /\ n = n
abbrev qD (t : Nat) (l : List Ch) : Prop := t = t /\ flat l = flat l
abbrev qI (v : Value) : Prop := v = v
def Eh (L1 L2 n : Nat) (KA LA : List Value) (qu qv : F2) (qc : Bool) (i : Nat) (x y : Fin Pp) (b : Bool) (u v : F2) (c : Bool) : Nat -> LState
 | 0 => { n := 116, sl := [(0, .sz 0 L1), (1, .sz 1 L2), (7, .v (.int .i64 ((n : Nat) : Int))), (10, .p 18 0), (11, .v (.int .i64 0)), (34, .v (.int .i64 ((n : Nat) : Int))), (35, .v (.int .i64 ((i : Nat) : Int))), (8, .v (.slice none 0 0)), (13, .p 35 0), (9, .v (.slice none 0 0)), (15, .p 47 0)], hp := [(0, .rz [.l KA]), (1, .rz [.l LA]), (18, .own [.q qu.1, .q qu.2, .q qv.1, .q qv.2, .c (.bool qc)] 33), (35, .own [.q x, .q y, .c (.bool b)] 39), (47, .own [.q u.1, .q u.2, .q v.1, .q v.2, .c (.bool c)] 33)] }
 | 1 => { n := 116, sl := [(0, .sz 0 L1), (1, .sz 1 L2), (7, .v (.int .i64 ((n : Nat) : Int))), (10, .p 18 0), (11, .v (.int .i64 0)), (34, .v (.int .i64 ((n : Nat) : Int))), (35, .v (.int .i64 ((i : Nat) : Int))), (62, .v (.slice none 0 0)), (13, .p 35 0), (9, .v (.slice none 0 0)), (15, .p 47 0)], hp := [(0, .rz [.l KA]), (1, .rz [.l LA]), (18, .own [.q qu.1, .q qu.2, .q qv.1, .q qv.2, .c (.bool qc)] 33), (35, .own [.q x, .q y, .c (.bool b)] 39), (47, .own [.q u.1, .q u.2, .q v.1, .q v.2, .c (.bool c)] 33)] }
 | 2 => { n := 116, sl := [(0, .sz 0 L1), (1, .sz 1 L2), (7, .v (.int .i64 ((n : Nat) : Int))), (10, .p 18 0), (11, .v (.int .i64 0)), (34, .v (.int .i64 ((n : Nat) : Int))), (35, .v (.int .i64 ((i : Nat) : Int))), (8, .v (.slice none 0 0)), (63, .ag [.q x, .q y, .c (.bool b)]), (9, .v (.slice none 0 0)), (15, .p 47 0)], hp := [(0, .rz [.l KA]), (1, .rz [.l LA]), (18, .own [.q qu.1, .q qu.2, .q qv.1, .q qv.2, .c (.bool qc)] 33), (47, .own [.q u.1, .q u.2, .q v.1, .q v.2, .c (.bool c)] 33)] }
 | 3 => { n := 116, sl := [(0, .sz 0 L1), (1, .sz 1 L2), (7, .v (.int .i64 ((n : Nat) : Int))), (10, .p 18 0), (11, .v (.int .i64 0)), (34, .v (.int .i64 ((n : Nat) : Int))), (35, .v (.int .i64 ((i : Nat) : Int))), (62, .v (.slice none 0 0)), (63, .ag [.q x, .q y, .c (.bool b)]), (9, .v (.slice none 0 0)), (15, .p 47 0)], hp := [(0, .rz [.l KA]), (1, .rz [.l LA]), (18, .own [.q qu.1, .q qu.2, .q qv.1, .q qv.2, .c (.bool qc)] 33), (47, .own [.q u.1, .q u.2, .q v.1, .q v.2, .c (.bool c)] 33)] }
 | 6 => { n := 116, sl := [(0, .sz 0 L1), (1, .sz 1 L2), (7, .v (.int .i64 ((n : Nat) : Int))), (10, .p 18 0), (11, .v (.int .i64 0)), (34, .v (.int .i64 ((n : Nat) : Int))), (35, .v (.int .i64 ((i : Nat) : Int))), (8, .v (.slice none 0 0)), (64, .sl 1100 0 1 1), (9, .v (.slice none 0 0)), (15, .p 47 0)], hp := [(0, .rz [.l KA]), (1, .rz [.l LA]), (18, .own [.q qu.1, .q qu.2, .q qv.1, .q qv.2, .c (.bool qc)] 33), (1100, .own [.q x, .q y, .c (.bool b)] 39), (47, .own [.q u.1, .q u.2, .q v.1, .q v.2, .c (.bool c)] 33)] }
 | 7 => { n := 116, sl := [(0, .sz 0 L1), (1, .sz 1 L2), (7, .v (.int .i64 ((n : Nat) : Int))), (10, .p 18 0), (11, .v (.int .i64 0)), (34, .v (.int .i64 ((n : Nat) : Int))), (35, .v (.int .i64 ((i : Nat) : Int))), (62, .v (.slice none 0 0)), (64, .sl 1100 0 1 1), (9, .v (.slice none 0 0)), (15, .p 47 0)], hp := [(0, .rz [.l KA]), (1, .rz [.l LA]), (18, .own [.q qu.1, .q qu.2, .q qv.1, .q qv.2, .c (.bool qc)] 33), (1100, .own [.q x, .q y, .c (.bool b)] 39), (47, .own [.q u.1, .q u.2, .q v.1, .q v.2, .c (.bool c)] 33)] }
 | 15 => { n := 116, sl := [(0, .sz 0 L1), (1, .sz 1 L2), (7, .v (.int .i64 ((n : Nat) : Int))), (10, .p 18 0), (11, .v (.int .i64 0)), (34, .v (.int .i64 ((n : Nat) : Int))), (35, .v (.int .i64 ((i : Nat) : Int))), (65, .sx 1200 1), (9, .v (.slice none 0 0)), (15, .p 47 0)], hp := [(0, .rz [.l KA]), (1, .rz [.l LA]), (18, .own [.q qu.1, .q qu.2, .q qv.1, .q qv.2, .c (.bool qc)] 33), (1200, .gr [.q x, .q y, .c (.bool b)] 39 13), (47, .own [.q u.1, .q u.2, .q v.1, .q v.2, .c (.bool c)] 33)] }
 | 16 => { n := 116, sl := [(0, .sz 0 L1), (1, .sz 1 L2), (7, .v (.int .i64 ((n : Nat) : Int))), (10, .p 18 0), (11, .v (.int .i64 0)), (34, .v (.int .i64 ((n : Nat) : Int))), (35, .v (.int .i64 ((i : Nat) : Int))), (8, .v (.slice none 0 0)), (13, .p 35 0), (66, .v (.slice none 0 0)), (15, .p 47 0)], hp := [(0, .rz [.l KA]), (1, .rz [.l LA]), (18, .own [.q qu.1, .q qu.2, .q qv.1, .q qv.2, .c (.bool qc)] 33), (35, .own [.q x, .q y, .c (.bool b)] 39), (47, .own [.q u.1, .q u.2, .q v.1, .q v.2, .c (.bool c)] 33)] }
 | 17 => { n := 116, sl := [(0, .sz 0 L1), (1, .sz 1 L2), (7, .v (.int .i64 ((n : Nat) : Int))), (10, .p 18 0), (11, .v (.int .i64 0)), (34, .v (.int .i64 ((n : Nat) : Int))), (35, .v (.int .i64 ((i : Nat) : Int))), (62, .v (.slice none 0 0)), (13, .p 35 0), (66, .v (.slice none 0 0)), (15, .p 47 0)], hp := [(0, .rz [.l KA]), (1, .rz [.l LA]), (18, .own [.q qu.1, .q qu.2, .q qv.1, .q qv.2, .c (.bool qc)] 33), (35, .own [.q x, .q y, .c (.bool b)] 39), (47, .own [.q u.1, .q u.2, .q v.1, .q v.2, .c (.bool c)] 33)] }
 | 18 => { n := 116, sl := [(0, .sz 0 L1), (1, .sz 1 L2), (7, .v (.int .i64 ((n : Nat) : Int))), (10, .p 18 0), (11, .v (.int .i64 0)), (34, .v (.int .i64 ((n : Nat) : Int))), (35, .v (.int .i64 ((i : Nat) : Int))), (8, .v (.slice none 0 0)), (63, .ag [.q x, .q y, .c (.bool b)]), (66, .v (.slice none 0 0)), (15, .p 47 0)], hp := [(0, .rz [.l KA]), (1, .rz [.l LA]), (18, .own [.q qu.1, .q qu.2, .q qv.1, .q qv.2, .c (.bool qc)] 33), (47, .own [.q u.1, .q u.2, .q v.1, .q v.2, .c (.bool c)] 33)] }
 | 19 => { n := 116, sl := [(0, .sz 0 L1), (1, .sz 1 L2), (7, .v (.int .i64 ((n : Nat) : Int))), (10, .p 18 0), (11, .v (.int .i64 0)), (34, .v (.int .i64 ((n : Nat) : Int))), (35, .v (.int .i64 ((i : Nat) : Int))), (62, .v (.slice none 0 0)), (63, .ag [.q x, .q y, .c (.bool b)]), (66, .v (.slice none 0 0)), (15, .p 47 0)], hp := [(0, .rz [.l KA]), (1, .rz [.l LA]), (18, .own [.q qu.1, .q qu.2, .q qv.1, .q qv.2, .c (.bool qc)] 33), (47, .own [.q u.1, .q u.2, .q v.1, .q v.2, .c (.bool c)] 33)] }
 | 22 => { n := 116, sl := [(0, .sz 0 L1), (1, .sz 1 L2), (7, .v (.int .i64 ((n : Nat) : Int))), (10, .p 18 0), (11, .v (.int .i64 0)), (34, .v (.int .i64 ((n : Nat) : Int))), (35, .v (.int .i64 ((i : Nat) : Int))), (8, .v (.slice none 0 0)), (64, .sl 1100 0 1 1), (66, .v (.slice none 0 0)), (15, .p 47 0)], hp := [(0, .rz [.l KA]), (1, .rz [.l LA]), (18, .own [.q qu.1, .q qu.2, .q qv.1, .q qv.2, .c (.bool qc)] 33), (1100, .own [.q x, .q y, .c (.bool b)] 39), (47, .own [.q u.1, .q u.2, .q v.1, .q v.2, .c (.bool c)] 33)] }
 | 23 => { n := 116, sl := [(0, .sz 0 L1), (1, .sz 1 L2), (7, .v (.int .i64 ((n : Nat) : Int))), (10, .p 18 0), (11, .v (.int .i64 0)), (34, .v (.int .i64 ((n : Nat) : Int))), (35, .v (.int .i64 ((i : Nat) : Int))), (62, .v (.slice none 0 0)), (64, .sl 1100 0 1 1), (66, .v (.slice none 0 0)), (15, .p 47 0)], hp := [(0, .rz [.l KA]), (1, .rz [.l LA]), (18, .own [.q qu.1, .q qu.2, .q qv.1, .q qv.2, .c (.bool qc)] 33), (1100, .own [.q x, .q y, .c (.bool b)] 39), (47, .own [.q u.1, .q u.2, .q v.1, .q v.2, .c (.bool c)] 33)] }
 | 31 => { n := 116, sl := [(0, .sz 0 L1), (1, .sz 1 L2), (7, .v (.int .i64 ((n : Nat) : Int))), (10, .p 18 0), (11, .v (.int .i64 0)), (34, .v (.int .i64 ((n : Nat) : Int))), (35, .v (.int .i64 ((i : Nat) : Int))), (65, .sx 1200 1), (66, .v (.slice none 0 0)), (15, .p 47 0)], hp := [(0, .rz [.l KA]), (1, .rz [.l LA]), (18, .own [.q qu.1, .q qu.2, .q qv.1, .q qv.2, .c (.bool qc)] 33), (1200, .gr [.q x, .q y, .c (.bool b)] 39 13), (47, .own [.q u.1, .q u.2, .q v.1, .q v.2, .c (.bool c)] 33)] }
 | 32 => { n := 116, sl := [(0, .sz 0 L1), (1, .sz 1 L2), (7, .v (.int .i64 ((n : Nat) : Int))), (10, .p 18 0), (11, .v (.int .i64 0)), (34, .v (.int .i64 ((n : Nat) : Int))), (35, .v (.int .i64 ((i : Nat) : Int))), (8, .v (.slice none 0 0)), (13, .p 35 0), (9, .v (.slice none 0 0)), (67, .ag [.q u.1, .q u.2, .q v.1, .q v.2, .c (.bool c)])], hp := [(0, .rz [.l KA]), (1, .rz [.l LA]), (18, .own [.q qu.1, .q qu.2, .q qv.1, .q qv.2, .c (.bool qc)] 33), (35, .own [.q x, .q y, .c (.bool b)] 39)] }
 | 33 => { n := 116, sl := [(0, .sz 0 L1), (1, .sz 1 L2), (7, .v (.int .i64 ((n : Nat) : Int))), (10, .p 18 0), (11, .v (.int .i64 0)), (34, .v (.int .i64 ((n : Nat) : Int))), (35, .v (.int .i64 ((i : Nat) : Int))), (62, .v (.slice none 0 0)), (13, .p 35 0), (9, .v (.slice none 0 0)), (67, .ag [.q u.1, .q u.2, .q v.1, .q v.2, .c (.bool c)])], hp := [(0, .rz [.l KA]), (1, .rz [.l LA]), (18, .own [.q qu.1, .q qu.2, .q qv.1, .q qv.2, .c (.bool qc)] 33), (35, .own [.q x, .q y, .c (.bool b)] 39)] }
 | 34 => { n := 116, sl := [(0, .sz 0 L1), (1, .sz 1 L2), (7, .v (.int .i64 ((n : Nat) : Int))), (10, .p 18 0), (11, .v (.int .i64 0)), (34, .v (.int .i64 ((n : Nat) : Int))), (35, .v (.int .i64 ((i : Nat) : Int))), (8, .v (.slice none 0 0)), (63, .ag [.q x, .q y, .c (.bool b)]), (9, .v (.slice none 0 0)), (67, .ag [.q u.1, .q u.2, .q v.1, .q v.2, .c (.bool c)])], hp := [(0, .rz [.l KA]), (1, .rz [.l LA]), (18, .own [.q qu.1, .q qu.2, .q qv.1, .q qv.2, .c (.bool qc)] 33)] }
 | 35 => { n := 116, sl := [(0, .sz 0 L1), (1, .sz 1 L2), (7, .v (.int .i64 ((n : Nat) : Int))), (10, .p 18 0), (11, .v (.int .i64 0)), (34, .v (.int .i64 ((n : Nat) : Int))), (35, .v (.int .i64 ((i : Nat) : Int))), (62, .v (.slice none 0 0)), (63, .ag [.q x, .q y, .c (.bool b)]), (9, .v (.slice none 0 0)), (67, .ag [.q u.1, .q u.2, .q v.1, .q v.2, .c (.bool c)])], hp := [(0, .rz [.l KA]), (1, .rz [.l LA]), (18, .own [.q qu.1, .q qu.2, .q qv.1, .q qv.2, .c (.bool qc)] 33)] }
 | 38 => { n := 116, sl := [(0, .sz 0 L1), (1, .sz 1 L2), (7, .v (.int .i64 ((n : Nat) : Int))), (10, .p 18 0), (11, .v (.int .i64 0)), (34, .v (.int .i64 ((n : Nat) : Int))), (35, .v (.int .i64 ((i : Nat) : Int))), (8, .v (.slice none 0 0)), (64, .sl 1100 0 1 1), (9, .v (.slice none 0 0)), (67, .ag [.q u.1, .q u.2, .q v.1, .q v.2, .c (.bool c)])], hp := [(0, .rz [.l KA]), (1, .rz [.l LA]), (18, .own [.q qu.1, .q qu.2, .q qv.1, .q qv.2, .c (.bool qc)] 33), (1100, .own [.q x, .q y, .c (.bool b)] 39)] }
 | 39 => { n := 116, sl := [(0, .sz 0 L1), (1, .sz 1 L2), (7, .v (.int .i64 ((n : Nat) : Int))), (10, .p 18 0), (11, .v (.int .i64 0)), (34, .v (.int .i64 ((n : Nat) : Int))), (35, .v (.int .i64 ((i : Nat) : Int))), (62, .v (.slice none 0 0)), (64, .sl 1100 0 1 1), (9, .v (.slice none 0 0)), (67, .ag [.q u.1, .q u.2, .q v.1, .q v.2, .c (.bool c)])], hp := [(0, .rz [.l KA]), (1, .rz [.l LA]), (18, .own [.q qu.1, .q qu.2, .q qv.1, .q qv.2, .c (.bool qc)] 33), (1100, .own [.q x, .q y, .c (.bool b)] 39)] }
 | 47 => { n := 116, sl := [(0, .sz 0 L1), (1, .sz 1 L2), (7, .v (.int .i64 ((n : Nat) : Int))), (10, .p 18 0), (11, .v (.int .i64 0)), (34, .v (.int .i64 ((n : Nat) : Int))), (35, .v (.int .i64 ((i : Nat) : Int))), (65, .sx 1200 1), (9, .v (.slice none 0 0)), (67, .ag [.q u.1, .q u.2, .q v.1, .q v.2, .c (.bool c)])], hp := [(0, .rz [.l KA]), (1, .rz [.l LA]), (18, .own [.q qu.1, .q qu.2, .q qv.1, .q qv.2, .c (.bool qc)] 33), (1200, .gr [.q x, .q y, .c (.bool b)] 39 13)] }
 | 48 => { n := 116, sl := [(0, .sz 0 L1), (1, .sz 1 L2), (7, .v (.int .i64 ((n : Nat) : Int))), (10, .p 18 0), (11, .v (.int .i64 0)), (34, .v (.int .i64 ((n : Nat) : Int))), (35, .v (.int .i64 ((i : Nat) : Int))), (8, .v (.slice none 0 0)), (13, .p 35 0), (66, .v (.slice none 0 0)), (67, .ag [.q u.1, .q u.2, .q v.1, .q v.2, .c (.bool c)])], hp := [(0, .rz [.l KA]), (1, .rz [.l LA]), (18, .own [.q qu.1, .q qu.2, .q qv.1, .q qv.2, .c (.bool qc)] 33), (35, .own [.q x, .q y, .c (.bool b)] 39)] }
 | 49 => { n := 116, sl := [(0, .sz 0 L1), (1, .sz 1 L2), (7, .v (.int .i64 ((n : Nat) : Int))), (10, .p 18 0), (11, .v (.int .i64 0)), (34, .v (.int .i64 ((n : Nat) : Int))), (35, .v (.int .i64 ((i : Nat) : Int))), (62, .v (.slice none 0 0)), (13, .p 35 0), (66, .v (.slice none 0 0)), (67, .ag [.q u.1, .q u.2, .q v.1, .q v.2, .c (.bool c)])], hp := [(0, .rz [.l KA]), (1, .rz [.l LA]), (18, .own [.q qu.1, .q qu.2, .q qv.1, .q qv.2, .c (.bool qc)] 33), (35, .own [.q x, .q y, .c (.bool b)] 39)] }
 | 50 => { n := 116, sl := [(0, .sz 0 L1), (1, .sz 1 L2), (7, .v (.int .i64 ((n : Nat) : Int))), (10, .p 18 0), (11, .v (.int .i64 0)), (34, .v (.int .i64 ((n : Nat) : Int))), (35, .v (.int .i64 ((i : Nat) : Int))), (8, .v (.slice none 0 0)), (63, .ag [.q x, .q y, .c (.bool b)]), (66, .v (.slice none 0 0)), (67, .ag [.q u.1, .q u.2, .q v.1, .q v.2, .c (.bool c)])], hp := [(0, .rz [.l KA]), (1, .rz [.l LA]), (18, .own [.q qu.1, .q qu.2, .q qv.1, .q qv.2, .c (.bool qc)] 33)] }
 | 51 => { n := 116, sl := [(0, .sz 0 L1), (1, .sz 1 L2), (7, .v (.int .i64 ((n : Nat) : Int))), (10, .p 18 0), (11, .v (.int .i64 0)), (34, .v (.int .i64 ((n : Nat) : Int))), (35, .v (.int .i64 ((i : Nat) : Int))), (62, .v (.slice none 0 0)), (63, .ag [.q x, .q y, .c (.bool b)]), (66, .v (.slice none 0 0)), (67, .ag [.q u.1, .q u.2, .q v.1, .q v.2, .c (.bool c)])], hp := [(0, .rz [.l KA]), (1, .rz [.l LA]), (18, .own [.q qu.1, .q qu.2, .q qv.1, .q qv.2, .c (.bool qc)] 33)] }
 | 54 => { n := 116, sl := [(0, .sz 0 L1), (1, .sz 1 L2), (7, .v (.int .i64 ((n : Nat) : Int))), (10, .p 18 0), (11, .v (.int .i64 0)), (34, .v (.int .i64 ((n : Nat) : Int))), (35, .v (.int .i64 ((i : Nat) : Int))), (8, .v (.slice none 0 0)), (64, .sl 1100 0 1 1), (66, .v (.slice none 0 0)), (67, .ag [.q u.1, .q u.2, .q v.1, .q v.2, .c (.bool c)])], hp := [(0, .rz [.l KA]), (1, .rz [.l LA]), (18, .own [.q qu.1, .q qu.2, .q qv.1, .q qv.2, .c (.bool qc)] 33), (1100, .own [.q x, .q y, .c (.bool b)] 39)] }
 | 55 => { n := 116, sl := [(0, .sz 0 L1), (1, .sz 1 L2), (7, .v (.int .i64 ((n : Nat) : Int))), (10, .p 18 0), (11, .v (.int .i64 0)), (34, .v (.int .i64 ((n : Nat) : Int))), (35, .v (.int .i64 ((i : Nat) : Int))), (62, .v (.slice none 0 0)), (64, .sl 1100 0 1 1), (66, .v (.slice none 0 0)), (67, .ag [.q u.1, .q u.2, .q v.1, .q v.2, .c (.bool c)])], hp := [(0, .rz [.l KA]), (1, .rz [.l LA]), (18, .own [.q qu.1, .q qu.2, .q qv.1, .q qv.2, .c (.bool qc)] 33), (1100, .own [.q x, .q y, .c (.bool b)] 39)] }
 | 63 => { n := 116, sl := [(0, .sz 0 L1), (1, .sz 1 L2), (7, .v (.int .i64 ((n : Nat) : Int))), (10, .p 18 0), (11, .v (.int .i64 0)), (34, .v (.int .i64 ((n : Nat) : Int))), (35, .v (.int .i64 ((i : Nat) : Int))), (65, .sx 1200 1), (66, .v (.slice none 0 0)), (67, .ag [.q u.1, .q u.2, .q v.1, .q v.2, .c (.bool c)])], hp := [(0, .rz [.l KA]), (1, .rz [.l LA]), (18, .own [.q qu.1, .q qu.2, .q qv.1, .q qv.2, .c (.bool qc)] 33), (1200, .gr [.q x, .q y, .c (.bool b)] 39 13)] }
 | 96 => { n := 116, sl := [(0, .sz 0 L1), (1, .sz 1 L2), (7, .v (.int .i64 ((n : Nat) : Int))), (10, .p 18 0), (11, .v (.int .i64 0)), (34, .v (.int .i64 ((n : Nat) : Int))), (35, .v (.int .i64 ((i : Nat) : Int))), (8, .v (.slice none 0 0)), (13, .p 35 0), (9, .v (.slice none 0 0)), (68, .sl 1000 0 1 1)], hp := [(0, .rz [.l KA]), (1, .rz [.l LA]), (18, .own [.q qu.1, .q qu.2, .q qv.1, .q qv.2, .c (.bool qc)] 33), (35, .own [.q x, .q y, .c (.bool b)] 39), (1000, .own [.q u.1, .q u.2, .q v.1, .q v.2, .c (.bool c)] 33)] }
 | 97 => { n := 116, sl := [(0, .sz 0 L1), (1, .sz 1 L2), (7, .v (.int .i64 ((n : Nat) : Int))), (10, .p 18 0), (11, .v (.int .i64 0)), (34, .v (.int .i64 ((n : Nat) : Int))), (35, .v (.int .i64 ((i : Nat) : Int))), (62, .v (.slice none 0 0)), (13, .p 35 0), (9, .v (.slice none 0 0)), (68, .sl 1000 0 1 1)], hp := [(0, .rz [.l KA]), (1, .rz [.l LA]), (18, .own [.q qu.1, .q qu.2, .q qv.1, .q qv.2, .c (.bool qc)] 33), (35, .own [.q x, .q y, .c (.bool b)] 39), (1000, .own [.q u.1, .q u.2, .q v.1, .q v.2, .c (.bool c)] 33)] }
 | 98 => { n := 116, sl := [(0, .sz 0 L1), (1, .sz 1 L2), (7, .v (.int .i64 ((n : Nat) : Int))), (10, .p 18 0), (11, .v (.int .i64 0)), (34, .v (.int .i64 ((n : Nat) : Int))), (35, .v (.int .i64 ((i : Nat) : Int))), (8, .v (.slice none 0 0)), (63, .ag [.q x, .q y, .c (.bool b)]), (9, .v (.slice none 0 0)), (68, .sl 1000 0 1 1)], hp := [(0, .rz [.l KA]), (1, .rz [.l LA]), (18, .own [.q qu.1, .q qu.2, .q qv.1, .q qv.2, .c (.bool qc)] 33), (1000, .own [.q u.1, .q u.2, .q v.1, .q v.2, .c (.bool c)] 33)] }
 | 99 => { n := 116, sl := [(0, .sz 0 L1), (1, .sz 1 L2), (7, .v (.int .i64 ((n : Nat) : Int))), (10, .p 18 0), (11, .v (.int .i64 0)), (34, .v (.int .i64 ((n : Nat) : Int))), (35, .v (.int .i64 ((i : Nat) : Int))), (62, .v (.slice none 0 0)), (63, .ag [.q x, .q y, .c (.bool b)]), (9, .v (.slice none 0 0)), (68, .sl 1000 0 1 1)], hp := [(0, .rz [.l KA]), (1, .rz [.l LA]), (18, .own [.q qu.1, .q qu.2, .q qv.1, .q qv.2, .c (.bool qc)] 33), (1000, .own [.q u.1, .q u.2, .q v.1, .q v.2, .c (.bool c)] 33)] }
 | 102 => { n := 116, sl := [(0, .sz 0 L1), (1, .sz 1 L2), (7, .v (.int .i64 ((n : Nat) : Int))), (10, .p 18 0), (11, .v (.int .i64 0)), (34, .v (.int .i64 ((n : Nat) : Int))), (35, .v (.int .i64 ((i : Nat) : Int))), (8, .v (.slice none 0 0)), (64, .sl 1100 0 1 1), (9, .v (.slice none 0 0)), (68, .sl 1000 0 1 1)], hp := [(0, .rz [.l KA]), (1, .rz [.l LA]), (18, .own [.q qu.1, .q qu.2, .q qv.1, .q qv.2, .c (.bool qc)] 33), (1100, .own [.q x, .q y, .c (.bool b)] 39), (1000, .own [.q u.1, .q u.2, .q v.1, .q v.2, .c (.bool c)] 33)] }
 | 103 => { n := 116, sl := [(0, .sz 0 L1), (1, .sz 1 L2), (7, .v (.int .i64 ((n : Nat) : Int))), (10, .p 18 0), (11, .v (.int .i64 0)), (34, .v (.int .i64 ((n : Nat) : Int))), (35, .v (.int .i64 ((i : Nat) : Int))), (62, .v (.slice none 0 0)), (64, .sl 1100 0 1 1), (9, .v (.slice none 0 0)), (68, .sl 1000 0 1 1)], hp := [(0, .rz [.l KA]), (1, .rz [.l LA]), (18, .own [.q qu.1, .q qu.2, .q qv.1, .q qv.2, .c (.bool qc)] 33), (1100, .own [.q x, .q y, .c (.bool b)] 39), (1000, .own [.q u.1, .q u.2, .q v.1, .q v.2, .c (.bool c)] 33)] }
 | 111 => { n := 116, sl := [(0, .sz 0 L1), (1, .sz 1 L2), (7, .v (.int .i64 ((n : Nat) : Int))), (10, .p 18 0), (11, .v (.int .i64 0)), (34, .v (.int .i64 ((n : Nat) : Int))), (35, .v (.int .i64 ((i : Nat) : Int))), (65, .sx 1200 1), (9, .v (.slice none 0 0)), (68, .sl 1000 0 1 1)], hp := [(0, .rz [.l KA]), (1, .rz [.l LA]), (18, .own [.q qu.1, .q qu.2, .q qv.1, .q qv.2, .c (.bool qc)] 33), (1200, .gr [.q x, .q y, .c (.bool b)] 39 13), (1000, .own [.q u.1, .q u.2, .q v.1, .q v.2, .c (.bool c)] 33)] }
 | 112 => { n := 116, sl := [(0, .sz 0 L1), (1, .sz 1 L2), (7, .v (.int .i64 ((n : Nat) : Int))), (10, .p 18 0), (11, .v (.int .i64 0)), (34, .v (.int .i64 ((n : Nat) : Int))), (35, .v (.int .i64 ((i : Nat) : Int))), (8, .v (.slice none 0 0)), (13, .p 35 0), (66, .v (.slice none 0 0)), (68, .sl 1000 0 1 1)], hp := [(0, .rz [.l KA]), (1, .rz [.l LA]), (18, .own [.q qu.1, .q qu.2, .q qv.1, .q qv.2, .c (.bool qc)] 33), (35, .own [.q x, .q y, .c (.bool b)] 39), (1000, .own [.q u.1, .q u.2, .q v.1, .q v.2, .c (.bool c)] 33)] }
 | 113 => { n := 116, sl := [(0, .sz 0 L1), (1, .sz 1 L2), (7, .v (.int .i64 ((n : Nat) : Int))), (10, .p 18 0), (11, .v (.int .i64 0)), (34, .v (.int .i64 ((n : Nat) : Int))), (35, .v (.int .i64 ((i : Nat) : Int))), (62, .v (.slice none 0 0)), (13, .p 35 0), (66, .v (.slice none 0 0)), (68, .sl 1000 0 1 1)], hp := [(0, .rz [.l KA]), (1, .rz [.l LA]), (18, .own [.q qu.1, .q qu.2, .q qv.1, .q qv.2, .c (.bool qc)] 33), (35, .own [.q x, .q y, .c (.bool b)] 39), (1000, .own [.q u.1, .q u.2, .q v.1, .q v.2, .c (.bool c)] 33)] }
 | 114 => { n := 116, sl := [(0, .sz 0 L1), (1, .sz 1 L2), (7, .v (.int .i64 ((n : Nat) : Int))), (10, .p 18 0), (11, .v (.int .i64 0)), (34, .v (.int .i64 ((n : Nat) : Int))), (35, .v (.int .i64 ((i : Nat) : Int))), (8, .v (.slice none 0 0)), (63, .ag [.q x, .q y, .c (.bool b)]), (66, .v (.slice none 0 0)), (68, .sl 1000 0 1 1)], hp := [(0, .rz [.l KA]), (1, .rz [.l LA]), (18, .own [.q qu.1, .q qu.2, .q qv.1, .q qv.2, .c (.bool qc)] 33), (1000, .own [.q u.1, .q u.2, .q v.1, .q v.2, .c (.bool c)] 33)] }
 | 115 => { n := 116, sl := [(0, .sz 0 L1), (1, .sz 1 L2), (7, .v (.int .i64 ((n : Nat) : Int))), (10, .p 18 0), (11, .v (.int .i64 0)), (34, .v (.int .i64 ((n : Nat) : Int))), (35, .v (.int .i64 ((i : Nat) : Int))), (62, .v (.slice none 0 0)), (63, .ag [.q x, .q y, .c (.bool b)]), (66, .v (.slice none 0 0)), (68, .sl 1000 0 1 1)], hp := [(0, .rz [.l KA]), (1, .rz [.l LA]), (18, .own [.q qu.1, .q qu.2, .q qv.1, .q qv.2, .c (.bool qc)] 33), (1000, .own [.q u.1, .q u.2, .q v.1, .q v.2, .c (.bool c)] 33)] }
 | 118 => { n := 116, sl := [(0, .sz 0 L1), (1, .sz 1 L2), (7, .v (.int .i64 ((n : Nat) : Int))), (10, .p 18 0), (11, .v (.int .i64 0)), (34, .v (.int .i64 ((n : Nat) : Int))), (35, .v (.int .i64 ((i : Nat) : Int))), (8, .v (.slice none 0 0)), (64, .sl 1100 0 1 1), (66, .v (.slice none 0 0)), (68, .sl 1000 0 1 1)], hp := [(0, .rz [.l KA]), (1, .rz [.l LA]), (18, .own [.q qu.1, .q qu.2, .q qv.1, .q qv.2, .c (.bool qc)] 33), (1100, .own [.q x, .q y, .c (.bool b)] 39), (1000, .own [.q u.1, .q u.2, .q v.1, .q v.2, .c (.bool c)] 33)] }
 | 119 => { n := 116, sl := [(0, .sz 0 L1), (1, .sz 1 L2), (7, .v (.int .i64 ((n : Nat) : Int))), (10, .p 18 0), (11, .v (.int .i64 0)), (34, .v (.int .i64 ((n : Nat) : Int))), (35, .v (.int .i64 ((i : Nat) : Int))), (62, .v (.slice none 0 0)), (64, .sl 1100 0 1 1), (66, .v (.slice none 0 0)), (68, .sl 1000 0 1 1)], hp := [(0, .rz [.l KA]), (1, .rz [.l LA]), (18, .own [.q qu.1, .q qu.2, .q qv.1, .q qv.2, .c (.bool qc)] 33), (1100, .own [.q x, .q y, .c (.bool b)] 39), (1000, .own [.q u.1, .q u.2, .q v.1, .q v.2, .c (.bool c)] 33)] }
 | 127 => { n := 116, sl := [(0, .sz 0 L1), (1, .sz 1 L2), (7, .v (.int .i64 ((n : Nat) : Int))), (10, .p 18 0), (11, .v (.int .i64 0)), (34, .v (.int .i64 ((n : Nat) : Int))), (35, .v (.int .i64 ((i : Nat) : Int))), (65, .sx 1200 1), (66, .v (.slice none 0 0)), (68, .sl 1000 0 1 1)], hp := [(0, .rz [.l KA]), (1, .rz [.l LA]), (18, .own [.q qu.1, .q qu.2, .q qv.1, .q qv.2, .c (.bool qc)] 33), (1200, .gr [.q x, .q y, .c (.bool b)] 39 13), (1000, .own [.q u.1, .q u.2, .q v.1, .q v.2, .c (.bool c)] 33)] }
 | 255 => { n := 116, sl := [(0, .sz 0 L1), (1, .sz 1 L2), (7, .v (.int .i64 ((n : Nat) : Int))), (10, .p 18 0), (11, .v (.int .i64 0)), (34, .v (.int .i64 ((n : Nat) : Int))), (35, .v (.int .i64 ((i : Nat) : Int))), (65, .sx 1200 1), (69, .sx 1300 1)], hp := [(0, .rz [.l KA]), (1, .rz [.l LA]), (18, .own [.q qu.1, .q qu.2, .q qv.1, .q qv.2, .c (.bool qc)] 33), (1200, .gr [.q x, .q y, .c (.bool b)] 39 13), (1300, .gr [.q u.1, .q u.2, .q v.1, .q v.2, .c (.bool c)] 33 25)] }
 | 511 => { n := 116, sl := [(0, .sz 0 L1), (1, .sz 1 L2), (7, .v (.int .i64 ((n : Nat) : Int))), (10, .p 18 0), (11, .v (.int .i64 0)), (34, .v (.int .i64 ((n : Nat) : Int))), (35, .v (.int .i64 ((i : Nat) : Int))), (8, .sx 1200 1), (69, .sx 1300 1)], hp := [(0, .rz [.l KA]), (1, .rz [.l LA]), (18, .own [.q qu.1, .q qu.2, .q qv.1, .q qv.2, .c (.bool qc)] 33), (1200, .gr [.q x, .q y, .c (.bool b)] 39 13), (1300, .gr [.q u.1, .q u.2, .q v.1, .q v.2, .c (.bool c)] 33 25)] }
 | _ => { n := 116, sl := [(0, .sz 0 L1), (1, .sz 1 L2), (7, .v (.int .i64 ((n : Nat) : Int))), (10, .p 18 0), (11, .v (.int .i64 0)), (34, .v (.int .i64 ((n : Nat) : Int))), (35, .v (.int .i64 ((i : Nat) : Int))), (8, .sx 1200 1), (9, .sx 1300 1)], hp := [(0, .rz [.l KA]), (1, .rz [.l LA]), (18, .own [.q qu.1, .q qu.2, .q qv.1, .q qv.2, .c (.bool qc)] 33), (1200, .gr [.q x, .q y, .c (.bool b)] 39 13), (1300, .gr [.q u.1, .q u.2, .q v.1, .q v.2, .c (.bool c)] 33 25)] }
def aaw (m i : Nat) : Nat := match i with | 2 => 1100 | 3 => 1200 | 6 => (match m with | 32 => 1000 | 33 => 1000 | 34 => 1000 | 35 => 1000 | 48 => 1000 | 49 => 1000 | 50 => 1000 | 51 => 1000 | _ => 1400) | 7 => 1300 | _ => 1400
def aau (m i : Nat) : List (Nat × Nat) := match i with | 6 => (match m with | 38 => [(1000, 1400)] | 39 => [(1000, 1400)] | 47 => [(1000, 1400)] | 54 => [(1000, 1400)] | 55 => [(1000, 1400)] | 63 => [(1000, 1400)] | _ => []) | _ => []
def XZ : List (Nat × Nat) := [(10, 0), (9, 1), (9, 2), (9, 16), (9, 32), (8, 3), (8, 6), (8, 17), (8, 18), (8, 33), (8, 34), (8, 48), (8, 96), (7, 7), (7, 19), (7, 22), (7, 35), (7, 38), (7, 49), (7, 50), (7, 97), (7, 98), (7, 112), (6, 15), (6, 23), (6, 39), (6, 51), (6, 54), (6, 99), (6, 102), (6, 113), (6, 114), (5, 31), (5, 47), (5, 55), (5, 103), (5, 115), (5, 118), (4, 63), (4, 111), (4, 119), (3, 127), (2, 255), (1, 511), (0, 1023)]
theorem HJ (L1 L2 n : Nat) (KA LA : List Value) (qu qv : F2) (qc : Bool) (i : Nat) (x y : Fin Pp) (b : Bool) (u v : F2) (c : Bool) : Sound prog 0 false (Cp f3 3) (Eh L1 L2 n KA LA qu qv qc i x y b u v c 0).aa .normal (Eh L1 L2 n KA LA qu qv qc i x y b u v c 1023).aa :=
 r8 (P := prog) (X := qK _) (env := []) trivial (tD (P := prog) (X := qK _) (env := []) (os := oL []) trivial 0) (os := oL []) (fb := 0) (k := 900) (S := Eh L1 L2 n KA LA qu qv qc i x y b u v c ) (kk := aaw) (tau := aau) (Ms := XZ) (full := 1023) (by kernel_rfl)
  (have hR : ∀ m, some (Eh L1 L2 n KA LA qu qv qc i x y b u v c m) = some (Eh L1 L2 n KA LA qu qv qc i x y b u v c m) := fun _ => rfl; (ai (ai (ai trivial (hR 1)) (ai (ai trivial (hR 2)) (ai (ai trivial (hR 16)) (ai (ai trivial (hR 32)) tt0)))) (ai (ai (ai trivial (hR 3)) (ai (ai trivial (hR 17)) (ai (ai trivial (hR 33)) tt0))) (ai (ai (ai trivial (hR 3)) (ai (ai trivial (hR 6)) (ai (ai trivial (hR 18)) (ai (ai trivial (hR 34)) tt0)))) (ai (ai (ai trivial (hR 17)) (ai (ai trivial (hR 18)) (ai (ai trivial (hR 48)) tt0))) (ai (ai (ai trivial (hR 33)) (ai (ai trivial (hR 34)) (ai (ai trivial (hR 48)) (ai (ai trivial (hR 96)) tt0)))) (ai (ai (ai trivial (hR 7)) (ai (ai trivial (hR 19)) (ai (ai trivial (hR 35)) tt0))) (ai (ai (ai trivial (hR 7)) (ai (ai trivial (hR 22)) (ai (ai trivial (hR 38)) tt0))) (ai (ai (ai trivial (hR 19)) (ai (ai trivial (hR 49)) tt0)) (ai (ai (ai trivial (hR 19)) (ai (ai trivial (hR 22)) (ai (ai trivial (hR 50)) tt0))) (ai (ai (ai trivial (hR 35)) (ai (ai trivial (hR 49)) (ai (ai trivial (hR 97)) tt0))) (ai (ai (ai trivial (hR 35)) (ai (ai trivial (hR 38)) (ai (ai trivial (hR 50)) (ai (ai trivial (hR 98)) tt0)))) (ai (ai (ai trivial (hR 49)) (ai (ai trivial (hR 50)) (ai (ai trivial (hR 112)) tt0))) (ai (ai (ai trivial (hR 97)) (ai (ai trivial (hR 98)) (ai (ai trivial (hR 112)) tt0))) (ai (ai (ai trivial (hR 15)) (ai (ai trivial (hR 23)) (ai (ai trivial (hR 39)) tt0))) (ai (ai (ai trivial (hR 23)) (ai (ai trivial (hR 51)) tt0)) (ai (ai (ai trivial (hR 23)) (ai (ai trivial (hR 54)) tt0)) (ai (ai (ai trivial (hR 39)) (ai (ai trivial (hR 51)) (ai (ai trivial (hR 99)) tt0))) (ai (ai (ai trivial (hR 39)) (ai (ai trivial (hR 54)) (ai (ai trivial (show ((qs L1) /\ (qs L2) /\ ((Value.int .i64 (((n : Nat) : Int))) = (Value.int .i64 (((n : Nat) : Int)))) /\ (qs 0) /\ ((qI (.int .i64 (0)))) /\ ((Value.int .i64 (((n : Nat) : Int))) = (Value.int .i64 (((n : Nat) : Int)))) /\ ((Value.int .i64 (((i : Nat) : Int))) = (Value.int .i64 (((i : Nat) : Int)))) /\ ((Value.slice none 0 0) = (Value.slice none 0 0)) /\ (true = true /\ 0 = 0 /\ 1 = 1 /\ 1 = 1) /\ ((Value.slice none 0 0) = (Value.slice none 0 0)) /\ (true = true /\ 0 = 0 /\ 1 = 1 /\ 1 = 1) /\ True) /\ ((flat [.l KA] = flat [.l KA]) /\ (flat [.l LA] = flat [.l LA]) /\ (qD 33 [.q qu.1, .q qu.2, .q qv.1, .q qv.2, .c (.bool qc)]) /\ (qD 39 [.q x, .q y, .c (.bool b)]) /\ (qD 33 [.q u.1, .q u.2, .q v.1, .q v.2, .c (.bool c)]) /\ True) from ⟨⟨rr0, rr0, rfl, rr0, rfl, rfl, rfl, rfl, ⟨rfl, rfl, rfl, rfl⟩, rfl, ⟨rfl, rfl, rfl, rfl⟩, tt0⟩, ⟨rfl, rfl, rr0, rr0, rr0, tt0⟩⟩)) tt0))) (ai (ai (ai trivial (hR 51)) (ai (ai trivial (hR 113)) tt0)) (ai (ai (ai trivial (hR 51)) (ai (ai trivial (hR 54)) (ai (ai trivial (hR 114)) tt0))) (ai (ai (ai trivial (hR 99)) (ai (ai trivial (hR 113)) tt0)) (ai (ai (ai trivial (hR 99)) (ai (ai trivial (hR 102)) (ai (ai trivial (hR 114)) tt0))) (ai (ai (ai trivial (hR 113)) (ai (ai trivial (hR 114)) tt0)) (ai (ai (ai trivial (hR 31)) (ai (ai trivial (hR 47)) tt0)) (ai (ai (ai trivial (hR 31)) (ai (ai trivial (hR 55)) tt0)) (ai (ai (ai trivial (hR 47)) (ai (ai trivial (hR 55)) (ai (ai trivial (show ((qs L1) /\ (qs L2) /\ ((Value.int .i64 (((n : Nat) : Int))) = (Value.int .i64 (((n : Nat) : Int)))) /\ (qs 0) /\ ((qI (.int .i64 (0)))) /\ ((Value.int .i64 (((n : Nat) : Int))) = (Value.int .i64 (((n : Nat) : Int)))) /\ ((Value.int .i64 (((i : Nat) : Int))) = (Value.int .i64 (((i : Nat) : Int)))) /\ ((Value.slice none 0 0) = (Value.slice none 0 0)) /\ (true = true /\ 0 = 0 /\ 1 = 1 /\ 1 = 1) /\ ((Value.slice none 0 0) = (Value.slice none 0 0)) /\ (true = true /\ 0 = 0 /\ 1 = 1 /\ 1 = 1) /\ True) /\ ((flat [.l KA] = flat [.l KA]) /\ (flat [.l LA] = flat [.l LA]) /\ (qD 33 [.q qu.1, .q qu.2, .q qv.1, .q qv.2, .c (.bool qc)]) /\ (qD 39 [.q x, .q y, .c (.bool b)]) /\ (qD 33 [.q u.1, .q u.2, .q v.1, .q v.2, .c (.bool c)]) /\ True) from ⟨⟨rr0, rr0, rfl, rr0, rfl, rfl, rfl, rfl, ⟨rfl, rfl, rfl, rfl⟩, rfl, ⟨rfl, rfl, rfl, rfl⟩, tt0⟩, ⟨rfl, rfl, rr0, rr0, rr0, tt0⟩⟩)) tt0))) (ai (ai (ai trivial (hR 55)) (ai (ai trivial (hR 115)) tt0)) (ai (ai (ai trivial (hR 55)) (ai (ai trivial (show ((qs L1) /\ (qs L2) /\ ((Value.int .i64 (((n : Nat) : Int))) = (Value.int .i64 (((n : Nat) : Int)))) /\ (qs 0) /\ ((qI (.int .i64 (0)))) /\ ((Value.int .i64 (((n : Nat) : Int))) = (Value.int .i64 (((n : Nat) : Int)))) /\ ((Value.int .i64 (((i : Nat) : Int))) = (Value.int .i64 (((i : Nat) : Int)))) /\ ((Value.slice none 0 0) = (Value.slice none 0 0)) /\ (true = true /\ 0 = 0 /\ 1 = 1 /\ 1 = 1) /\ ((Value.slice none 0 0) = (Value.slice none 0 0)) /\ (true = true /\ 0 = 0 /\ 1 = 1 /\ 1 = 1) /\ True) /\ ((flat [.l KA] = flat [.l KA]) /\ (flat [.l LA] = flat [.l LA]) /\ (qD 33 [.q qu.1, .q qu.2, .q qv.1, .q qv.2, .c (.bool qc)]) /\ (qD 39 [.q x, .q y, .c (.bool b)]) /\ (qD 33 [.q u.1, .q u.2, .q v.1, .q v.2, .c (.bool c)]) /\ True) from ⟨⟨rr0, rr0, rfl, rr0, rfl, rfl, rfl, rfl, ⟨rfl, rfl, rfl, rfl⟩, rfl, ⟨rfl, rfl, rfl, rfl⟩, tt0⟩, ⟨rfl, rfl, rr0, rr0, rr0, tt0⟩⟩)) tt0)) (ai (ai (ai trivial (hR 103)) (ai (ai trivial (hR 115)) tt0)) (ai (ai (ai trivial (hR 103)) (ai (ai trivial (hR 118)) tt0)) (ai (ai (ai trivial (hR 115)) tt0) (ai (ai (ai trivial (hR 115)) (ai (ai trivial (hR 118)) tt0)) (ai (ai (ai trivial (hR 63)) tt0) (ai (ai (ai trivial (hR 63)) (ai (ai trivial (show ((qs L1) /\ (qs L2) /\ ((Value.int .i64 (((n : Nat) : Int))) = (Value.int .i64 (((n : Nat) : Int)))) /\ (qs 0) /\ ((qI (.int .i64 (0)))) /\ ((Value.int .i64 (((n : Nat) : Int))) = (Value.int .i64 (((n : Nat) : Int)))) /\ ((Value.int .i64 (((i : Nat) : Int))) = (Value.int .i64 (((i : Nat) : Int)))) /\ (qs 1) /\ ((Value.slice none 0 0) = (Value.slice none 0 0)) /\ (true = true /\ 0 = 0 /\ 1 = 1 /\ 1 = 1) /\ True) /\ ((flat [.l KA] = flat [.l KA]) /\ (flat [.l LA] = flat [.l LA]) /\ (qD 33 [.q qu.1, .q qu.2, .q qv.1, .q qv.2, .c (.bool qc)]) /\ ((39 = 39 /\ 13 = 13) /\ flat [.q x, .q y, .c (.bool b)] = flat [.q x, .q y, .c (.bool b)]) /\ (qD 33 [.q u.1, .q u.2, .q v.1, .q v.2, .c (.bool c)]) /\ True) from ⟨⟨rr0, rr0, rfl, rr0, rfl, rfl, rfl, rr0, rfl, ⟨rfl, rfl, rfl, rfl⟩, tt0⟩, ⟨rfl, rfl, rr0, ⟨rr0, rfl⟩, rr0, tt0⟩⟩)) tt0)) (ai (ai (ai trivial (hR 63)) (ai (ai trivial (show ((qs L1) /\ (qs L2) /\ ((Value.int .i64 (((n : Nat) : Int))) = (Value.int .i64 (((n : Nat) : Int)))) /\ (qs 0) /\ ((qI (.int .i64 (0)))) /\ ((Value.int .i64 (((n : Nat) : Int))) = (Value.int .i64 (((n : Nat) : Int)))) /\ ((Value.int .i64 (((i : Nat) : Int))) = (Value.int .i64 (((i : Nat) : Int)))) /\ ((Value.slice none 0 0) = (Value.slice none 0 0)) /\ (true = true /\ 0 = 0 /\ 1 = 1 /\ 1 = 1) /\ ((Value.slice none 0 0) = (Value.slice none 0 0)) /\ (true = true /\ 0 = 0 /\ 1 = 1 /\ 1 = 1) /\ True) /\ ((flat [.l KA] = flat [.l KA]) /\ (flat [.l LA] = flat [.l LA]) /\ (qD 33 [.q qu.1, .q qu.2, .q qv.1, .q qv.2, .c (.bool qc)]) /\ (qD 39 [.q x, .q y, .c (.bool b)]) /\ (qD 33 [.q u.1, .q u.2, .q v.1, .q v.2, .c (.bool c)]) /\ True) from ⟨⟨rr0, rr0, rfl, rr0, rfl, rfl, rfl, rfl, ⟨rfl, rfl, rfl, rfl⟩, rfl, ⟨rfl, rfl, rfl, rfl⟩, tt0⟩, ⟨rfl, rfl, rr0, rr0, rr0, tt0⟩⟩)) tt0)) (ai (ai (ai trivial (hR 111)) (ai (ai trivial (hR 119)) tt0)) (ai (ai (ai trivial (hR 119)) tt0) (ai (ai (ai trivial (hR 119)) tt0) (ai (ai (ai trivial (show ((qs L1) /\ (qs L2) /\ ((Value.int .i64 (((n : Nat) : Int))) = (Value.int .i64 (((n : Nat) : Int)))) /\ (qs 0) /\ ((qI (.int .i64 (0)))) /\ ((Value.int .i64 (((n : Nat) : Int))) = (Value.int .i64 (((n : Nat) : Int)))) /\ ((Value.int .i64 (((i : Nat) : Int))) = (Value.int .i64 (((i : Nat) : Int)))) /\ (qs 1) /\ ((Value.slice none 0 0) = (Value.slice none 0 0)) /\ (true = true /\ 0 = 0 /\ 1 = 1 /\ 1 = 1) /\ True) /\ ((flat [.l KA] = flat [.l KA]) /\ (flat [.l LA] = flat [.l LA]) /\ (qD 33 [.q qu.1, .q qu.2, .q qv.1, .q qv.2, .c (.bool qc)]) /\ ((39 = 39 /\ 13 = 13) /\ flat [.q x, .q y, .c (.bool b)] = flat [.q x, .q y, .c (.bool b)]) /\ (qD 33 [.q u.1, .q u.2, .q v.1, .q v.2, .c (.bool c)]) /\ True) from ⟨⟨rr0, rr0, rfl, rr0, rfl, rfl, rfl, rr0, rfl, ⟨rfl, rfl, rfl, rfl⟩, tt0⟩, ⟨rfl, rfl, rr0, ⟨rr0, rfl⟩, rr0, tt0⟩⟩)) tt0) (ai (ai (ai trivial (hR 127)) tt0) (ai (ai (ai trivial (hR 127)) tt0) (ai (ai (ai trivial (hR 255)) tt0) (ai (ai (ai trivial (hR 511)) tt0) (ai (ai (ai trivial (hR 1023)) tt0) (ai trivial
  tt0))))))))))))))))))))))))))))))))))))))))))))))
def Fh (L1 L2 n : Nat) (KA LA : List Value) (qu qv : F2) (qc : Bool) (i : Nat) (C D : List Value) (x y : Fin Pp) (b : Bool) (u v : F2) (c : Bool) : Nat -> LState
 | 0 => { n := 116, sl := [(0, .sz 0 L1), (1, .sz 1 L2), (7, .v (.int .i64 ((n : Nat) : Int))), (10, .p 18 0), (11, .v (.int .i64 0)), (34, .v (.int .i64 ((n : Nat) : Int))), (35, .v (.int .i64 ((i : Nat) : Int))), (8, .sx 3 i), (13, .p 35 0), (9, .sx 4 i), (15, .p 47 0)], hp := [(0, .rz [.l KA]), (1, .rz [.l LA]), (18, .own [.q qu.1, .q qu.2, .q qv.1, .q qv.2, .c (.bool qc)] 33), (3, .gr [.l C] 39 13), (35, .own [.q x, .q y, .c (.bool b)] 39), (4, .gr [.l D] 33 25), (47, .own [.q u.1, .q u.2, .q v.1, .q v.2, .c (.bool c)] 33)] }
 | 1 => { n := 116, sl := [(0, .sz 0 L1), (1, .sz 1 L2), (7, .v (.int .i64 ((n : Nat) : Int))), (10, .p 18 0), (11, .v (.int .i64 0)), (34, .v (.int .i64 ((n : Nat) : Int))), (35, .v (.int .i64 ((i : Nat) : Int))), (62, .sx 3 i), (13, .p 35 0), (9, .sx 4 i), (15, .p 47 0)], hp := [(0, .rz [.l KA]), (1, .rz [.l LA]), (18, .own [.q qu.1, .q qu.2, .q qv.1, .q qv.2, .c (.bool qc)] 33), (3, .gr [.l C] 39 13), (35, .own [.q x, .q y, .c (.bool b)] 39), (4, .gr [.l D] 33 25), (47, .own [.q u.1, .q u.2, .q v.1, .q v.2, .c (.bool c)] 33)] }
 | 2 => { n := 116, sl := [(0, .sz 0 L1), (1, .sz 1 L2), (7, .v (.int .i64 ((n : Nat) : Int))), (10, .p 18 0), (11, .v (.int .i64 0)), (34, .v (.int .i64 ((n : Nat) : Int))), (35, .v (.int .i64 ((i : Nat) : Int))), (8, .sx 3 i), (63, .ag [.q x, .q y, .c (.bool b)]), (9, .sx 4 i), (15, .p 47 0)], hp := [(0, .rz [.l KA]), (1, .rz [.l LA]), (18, .own [.q qu.1, .q qu.2, .q qv.1, .q qv.2, .c (.bool qc)] 33), (3, .gr [.l C] 39 13), (4, .gr [.l D] 33 25), (47, .own [.q u.1, .q u.2, .q v.1, .q v.2, .c (.bool c)] 33)] }
 | 3 => { n := 116, sl := [(0, .sz 0 L1), (1, .sz 1 L2), (7, .v (.int .i64 ((n : Nat) : Int))), (10, .p 18 0), (11, .v (.int .i64 0)), (34, .v (.int .i64 ((n : Nat) : Int))), (35, .v (.int .i64 ((i : Nat) : Int))), (62, .sx 3 i), (63, .ag [.q x, .q y, .c (.bool b)]), (9, .sx 4 i), (15, .p 47 0)], hp := [(0, .rz [.l KA]), (1, .rz [.l LA]), (18, .own [.q qu.1, .q qu.2, .q qv.1, .q qv.2, .c (.bool qc)] 33), (3, .gr [.l C] 39 13), (4, .gr [.l D] 33 25), (47, .own [.q u.1, .q u.2, .q v.1, .q v.2, .c (.bool c)] 33)] }
 | 6 => { n := 116, sl := [(0, .sz 0 L1), (1, .sz 1 L2), (7, .v (.int .i64 ((n : Nat) : Int))), (10, .p 18 0), (11, .v (.int .i64 0)), (34, .v (.int .i64 ((n : Nat) : Int))), (35, .v (.int .i64 ((i : Nat) : Int))), (8, .sx 3 i), (64, .sl 1100 0 1 1), (9, .sx 4 i), (15, .p 47 0)], hp := [(0, .rz [.l KA]), (1, .rz [.l LA]), (18, .own [.q qu.1, .q qu.2, .q qv.1, .q qv.2, .c (.bool qc)] 33), (3, .gr [.l C] 39 13), (1100, .own [.q x, .q y, .c (.bool b)] 39), (4, .gr [.l D] 33 25), (47, .own [.q u.1, .q u.2, .q v.1, .q v.2, .c (.bool c)] 33)] }
 | 7 => { n := 116, sl := [(0, .sz 0 L1), (1, .sz 1 L2), (7, .v (.int .i64 ((n : Nat) : Int))), (10, .p 18 0), (11, .v (.int .i64 0)), (34, .v (.int .i64 ((n : Nat) : Int))), (35, .v (.int .i64 ((i : Nat) : Int))), (62, .sx 3 i), (64, .sl 1100 0 1 1), (9, .sx 4 i), (15, .p 47 0)], hp := [(0, .rz [.l KA]), (1, .rz [.l LA]), (18, .own [.q qu.1, .q qu.2, .q qv.1, .q qv.2, .c (.bool qc)] 33), (3, .gr [.l C] 39 13), (1100, .own [.q x, .q y, .c (.bool b)] 39), (4, .gr [.l D] 33 25), (47, .own [.q u.1, .q u.2, .q v.1, .q v.2, .c (.bool c)] 33)] }
 | 15 => { n := 116, sl := [(0, .sz 0 L1), (1, .sz 1 L2), (7, .v (.int .i64 ((n : Nat) : Int))), (10, .p 18 0), (11, .v (.int .i64 0)), (34, .v (.int .i64 ((n : Nat) : Int))), (35, .v (.int .i64 ((i : Nat) : Int))), (65, .sx 1200 (i + 1)), (9, .sx 4 i), (15, .p 47 0)], hp := [(0, .rz [.l KA]), (1, .rz [.l LA]), (18, .own [.q qu.1, .q qu.2, .q qv.1, .q qv.2, .c (.bool qc)] 33), (1200, .gr [.l C, .q x, .q y, .c (.bool b)] 39 13), (4, .gr [.l D] 33 25), (47, .own [.q u.1, .q u.2, .q v.1, .q v.2, .c (.bool c)] 33)] }
 | 16 => { n := 116, sl := [(0, .sz 0 L1), (1, .sz 1 L2), (7, .v (.int .i64 ((n : Nat) : Int))), (10, .p 18 0), (11, .v (.int .i64 0)), (34, .v (.int .i64 ((n : Nat) : Int))), (35, .v (.int .i64 ((i : Nat) : Int))), (8, .sx 3 i), (13, .p 35 0), (66, .sx 4 i), (15, .p 47 0)], hp := [(0, .rz [.l KA]), (1, .rz [.l LA]), (18, .own [.q qu.1, .q qu.2, .q qv.1, .q qv.2, .c (.bool qc)] 33), (3, .gr [.l C] 39 13), (35, .own [.q x, .q y, .c (.bool b)] 39), (4, .gr [.l D] 33 25), (47, .own [.q u.1, .q u.2, .q v.1, .q v.2, .c (.bool c)] 33)] }
 | 17 => { n := 116, sl := [(0, .sz 0 L1), (1, .sz 1 L2), (7, .v (.int .i64 ((n : Nat) : Int))), (10, .p 18 0), (11, .v (.int .i64 0)), (34, .v (.int .i64 ((n : Nat) : Int))), (35, .v (.int .i64 ((i : Nat) : Int))), (62, .sx 3 i), (13, .p 35 0), (66, .sx 4 i), (15, .p 47 0)], hp := [(0, .rz [.l KA]), (1, .rz [.l LA]), (18, .own [.q qu.1, .q qu.2, .q qv.1, .q qv.2, .c (.bool qc)] 33), (3, .gr [.l C] 39 13), (35, .own [.q x, .q y, .c (.bool b)] 39), (4, .gr [.l D] 33 25), (47, .own [.q u.1, .q u.2, .q v.1, .q v.2, .c (.bool c)] 33)] }
 | 18 => { n := 116, sl := [(0, .sz 0 L1), (1, .sz 1 L2), (7, .v (.int .i64 ((n : Nat) : Int))), (10, .p 18 0), (11, .v (.int .i64 0)), (34, .v (.int .i64 ((n : Nat) : Int))), (35, .v (.int .i64 ((i : Nat) : Int))), (8, .sx 3 i), (63, .ag [.q x, .q y, .c (.bool b)]), (66, .sx 4 i), (15, .p 47 0)], hp := [(0, .rz [.l KA]), (1, .rz [.l LA]), (18, .own [.q qu.1, .q qu.2, .q qv.1, .q qv.2, .c (.bool qc)] 33), (3, .gr [.l C] 39 13), (4, .gr [.l D] 33 25), (47, .own [.q u.1, .q u.2, .q v.1, .q v.2, .c (.bool c)] 33)] }
 | 19 => { n := 116, sl := [(0, .sz 0 L1), (1, .sz 1 L2), (7, .v (.int .i64 ((n : Nat) : Int))), (10, .p 18 0), (11, .v (.int .i64 0)), (34, .v (.int .i64 ((n : Nat) : Int))), (35, .v (.int .i64 ((i : Nat) : Int))), (62, .sx 3 i), (63, .ag [.q x, .q y, .c (.bool b)]), (66, .sx 4 i), (15, .p 47 0)], hp := [(0, .rz [.l KA]), (1, .rz [.l LA]), (18, .own [.q qu.1, .q qu.2, .q qv.1, .q qv.2, .c (.bool qc)] 33), (3, .gr [.l C] 39 13), (4, .gr [.l D] 33 25), (47, .own [.q u.1, .q u.2, .q v.1, .q v.2, .c (.bool c)] 33)] }
 | 22 => { n := 116, sl := [(0, .sz 0 L1), (1, .sz 1 L2), (7, .v (.int .i64 ((n : Nat) : Int))), (10, .p 18 0), (11, .v (.int .i64 0)), (34, .v (.int .i64 ((n : Nat) : Int))), (35, .v (.int .i64 ((i : Nat) : Int))), (8, .sx 3 i), (64, .sl 1100 0 1 1), (66, .sx 4 i), (15, .p 47 0)], hp := [(0, .rz [.l KA]), (1, .rz [.l LA]), (18, .own [.q qu.1, .q qu.2, .q qv.1, .q qv.2, .c (.bool qc)] 33), (3, .gr [.l C] 39 13), (1100, .own [.q x, .q y, .c (.bool b)] 39), (4, .gr [.l D] 33 25), (47, .own [.q u.1, .q u.2, .q v.1, .q v.2, .c (.bool c)] 33)] }
 | 23 => { n := 116, sl := [(0, .sz 0 L1), (1, .sz 1 L2), (7, .v (.int .i64 ((n : Nat) : Int))), (10, .p 18 0), (11, .v (.int .i64 0)), (34, .v (.int .i64 ((n : Nat) : Int))), (35, .v (.int .i64 ((i : Nat) : Int))), (62, .sx 3 i), (64, .sl 1100 0 1 1), (66, .sx 4 i), (15, .p 47 0)], hp := [(0, .rz [.l KA]), (1, .rz [.l LA]), (18, .own [.q qu.1, .q qu.2, .q qv.1, .q qv.2, .c (.bool qc)] 33), (3, .gr [.l C] 39 13), (1100, .own [.q x, .q y, .c (.bool b)] 39), (4, .gr [.l D] 33 25), (47, .own [.q u.1, .q u.2, .q v.1, .q v.2, .c (.bool c)] 33)] }
 | 31 => { n := 116, sl := [(0, .sz 0 L1), (1, .sz 1 L2), (7, .v (.int .i64 ((n : Nat) : Int))), (10, .p 18 0), (11, .v (.int .i64 0)), (34, .v (.int .i64 ((n : Nat) : Int))), (35, .v (.int .i64 ((i : Nat) : Int))), (65, .sx 1200 (i + 1)), (66, .sx 4 i), (15, .p 47 0)], hp := [(0, .rz [.l KA]), (1, .rz [.l LA]), (18, .own [.q qu.1, .q qu.2, .q qv.1, .q qv.2, .c (.bool qc)] 33), (1200, .gr [.l C, .q x, .q y, .c (.bool b)] 39 13), (4, .gr [.l D] 33 25), (47, .own [.q u.1, .q u.2, .q v.1, .q v.2, .c (.bool c)] 33)] }
 | 32 => { n := 116, sl := [(0, .sz 0 L1), (1, .sz 1 L2), (7, .v (.int .i64 ((n : Nat) : Int))), (10, .p 18 0), (11, .v (.int .i64 0)), (34, .v (.int .i64 ((n : Nat) : Int))), (35, .v (.int .i64 ((i : Nat) : Int))), (8, .sx 3 i), (13, .p 35 0), (9, .sx 4 i), (67, .ag [.q u.1, .q u.2, .q v.1, .q v.2, .c (.bool c)])], hp := [(0, .rz [.l KA]), (1, .rz [.l LA]), (18, .own [.q qu.1, .q qu.2, .q qv.1, .q qv.2, .c (.bool qc)] 33), (3, .gr [.l C] 39 13), (35, .own [.q x, .q y, .c (.bool b)] 39), (4, .gr [.l D] 33 25)] }
 | 33 => { n := 116, sl := [(0, .sz 0 L1), (1, .sz 1 L2), (7, .v (.int .i64 ((n : Nat) : Int))), (10, .p 18 0), (11, .v (.int .i64 0)), (34, .v (.int .i64 ((n : Nat) : Int))), (35, .v (.int .i64 ((i : Nat) : Int))), (62, .sx 3 i), (13, .p 35 0), (9, .sx 4 i), (67, .ag [.q u.1, .q u.2, .q v.1, .q v.2, .c (.bool c)])], hp := [(0, .rz [.l KA]), (1, .rz [.l LA]), (18, .own [.q qu.1, .q qu.2, .q qv.1, .q qv.2, .c (.bool qc)] 33), (3, .gr [.l C] 39 13), (35, .own [.q x, .q y, .c (.bool b)] 39), (4, .gr [.l D] 33 25)] }
 | 34 => { n := 116, sl := [(0, .sz 0 L1), (1, .sz 1 L2), (7, .v (.int .i64 ((n : Nat) : Int))), (10, .p 18 0), (11, .v (.int .i64 0)), (34, .v (.int .i64 ((n : Nat) : Int))), (35, .v (.int .i64 ((i : Nat) : Int))), (8, .sx 3 i), (63, .ag [.q x, .q y, .c (.bool b)]), (9, .sx 4 i), (67, .ag [.q u.1, .q u.2, .q v.1, .q v.2, .c (.bool c)])], hp := [(0, .rz [.l KA]), (1, .rz [.l LA]), (18, .own [.q qu.1, .q qu.2, .q qv.1, .q qv.2, .c (.bool qc)] 33), (3, .gr [.l C] 39 13), (4, .gr [.l D] 33 25)] }
 | 35 => { n := 116, sl := [(0, .sz 0 L1), (1, .sz 1 L2), (7, .v (.int .i64 ((n : Nat) : Int))), (10, .p 18 0), (11, .v (.int .i64 0)), (34, .v (.int .i64 ((n : Nat) : Int))), (35, .v (.int .i64 ((i : Nat) : Int))), (62, .sx 3 i), (63, .ag [.q x, .q y, .c (.bool b)]), (9, .sx 4 i), (67, .ag [.q u.1, .q u.2, .q v.1, .q v.2, .c (.bool c)])], hp := [(0, .rz [.l KA]), (1, .rz [.l LA]), (18, .own [.q qu.1, .q qu.2, .q qv.1, .q qv.2, .c (.bool qc)] 33), (3, .gr [.l C] 39 13), (4, .gr [.l D] 33 25)] }
 | 38 => { n := 116, sl := [(0, .sz 0 L1), (1, .sz 1 L2), (7, .v (.int .i64 ((n : Nat) : Int))), (10, .p 18 0), (11, .v (.int .i64 0)), (34, .v (.int .i64 ((n : Nat) : Int))), (35, .v (.int .i64 ((i : Nat) : Int))), (8, .sx 3 i), (64, .sl 1100 0 1 1), (9, .sx 4 i), (67, .ag [.q u.1, .q u.2, .q v.1, .q v.2, .c (.bool c)])], hp := [(0, .rz [.l KA]), (1, .rz [.l LA]), (18, .own [.q qu.1, .q qu.2, .q qv.1, .q qv.2, .c (.bool qc)] 33), (3, .gr [.l C] 39 13), (1100, .own [.q x, .q y, .c (.bool b)] 39), (4, .gr [.l D] 33 25)] }
 | 39 => { n := 116, sl := [(0, .sz 0 L1), (1, .sz 1 L2), (7, .v (.int .i64 ((n : Nat) : Int))), (10, .p 18 0), (11, .v (.int .i64 0)), (34, .v (.int .i64 ((n : Nat) : Int))), (35, .v (.int .i64 ((i : Nat) : Int))), (62, .sx 3 i), (64, .sl 1100 0 1 1), (9, .sx 4 i), (67, .ag [.q u.1, .q u.2, .q v.1, .q v.2, .c (.bool c)])], hp := [(0, .rz [.l KA]), (1, .rz [.l LA]), (18, .own [.q qu.1, .q qu.2, .q qv.1, .q qv.2, .c (.bool qc)] 33), (3, .gr [.l C] 39 13), (1100, .own [.q x, .q y, .c (.bool b)] 39), (4, .gr [.l D] 33 25)] }
 | 47 => { n := 116, sl := [(0, .sz 0 L1), (1, .sz 1 L2), (7, .v (.int .i64 ((n : Nat) : Int))), (10, .p 18 0), (11, .v (.int .i64 0)), (34, .v (.int .i64 ((n : Nat) : Int))), (35, .v (.int .i64 ((i : Nat) : Int))), (65, .sx 1200 (i + 1)), (9, .sx 4 i), (67, .ag [.q u.1, .q u.2, .q v.1, .q v.2, .c (.bool c)])], hp := [(0, .rz [.l KA]), (1, .rz [.l LA]), (18, .own [.q qu.1, .q qu.2, .q qv.1, .q qv.2, .c (.bool qc)] 33), (1200, .gr [.l C, .q x, .q y, .c (.bool b)] 39 13), (4, .gr [.l D] 33 25)] }
 | 48 => { n := 116, sl := [(0, .sz 0 L1), (1, .sz 1 L2), (7, .v (.int .i64 ((n : Nat) : Int))), (10, .p 18 0), (11, .v (.int .i64 0)), (34, .v (.int .i64 ((n : Nat) : Int))), (35, .v (.int .i64 ((i : Nat) : Int))), (8, .sx 3 i), (13, .p 35 0), (66, .sx 4 i), (67, .ag [.q u.1, .q u.2, .q v.1, .q v.2, .c (.bool c)])], hp := [(0, .rz [.l KA]), (1, .rz [.l LA]), (18, .own [.q qu.1, .q qu.2, .q qv.1, .q qv.2, .c (.bool qc)] 33), (3, .gr [.l C] 39 13), (35, .own [.q x, .q y, .c (.bool b)] 39), (4, .gr [.l D] 33 25)] }
 | 49 => { n := 116, sl := [(0, .sz 0 L1), (1, .sz 1 L2), (7, .v (.int .i64 ((n : Nat) : Int))), (10, .p 18 0), (11, .v (.int .i64 0)), (34, .v (.int .i64 ((n : Nat) : Int))), (35, .v (.int .i64 ((i : Nat) : Int))), (62, .sx 3 i), (13, .p 35 0), (66, .sx 4 i), (67, .ag [.q u.1, .q u.2, .q v.1, .q v.2, .c (.bool c)])], hp := [(0, .rz [.l KA]), (1, .rz [.l LA]), (18, .own [.q qu.1, .q qu.2, .q qv.1, .q qv.2, .c (.bool qc)] 33), (3, .gr [.l C] 39 13), (35, .own [.q x, .q y, .c (.bool b)] 39), (4, .gr [.l D] 33 25)] }
 | 50 => { n := 116, sl := [(0, .sz 0 L1), (1, .sz 1 L2), (7, .v (.int .i64 ((n : Nat) : Int))), (10, .p 18 0), (11, .v (.int .i64 0)), (34, .v (.int .i64 ((n : Nat) : Int))), (35, .v (.int .i64 ((i : Nat) : Int))), (8, .sx 3 i), (63, .ag [.q x, .q y, .c (.bool b)]), (66, .sx 4 i), (67, .ag [.q u.1, .q u.2, .q v.1, .q v.2, .c (.bool c)])], hp := [(0, .rz [.l KA]), (1, .rz [.l LA]), (18, .own [.q qu.1, .q qu.2, .q qv.1, .q qv.2, .c (.bool qc)] 33), (3, .gr [.l C] 39 13), (4, .gr [.l D] 33 25)] }
 | 51 => { n := 116, sl := [(0, .sz 0 L1), (1, .sz 1 L2), (7, .v (.int .i64 ((n : Nat) : Int))), (10, .p 18 0), (11, .v (.int .i64 0)), (34, .v (.int .i64 ((n : Nat) : Int))), (35, .v (.int .i64 ((i : Nat) : Int))), (62, .sx 3 i), (63, .ag [.q x, .q y, .c (.bool b)]), (66, .sx 4 i), (67, .ag [.q u.1, .q u.2, .q v.1, .q v.2, .c (.bool c)])], hp := [(0, .rz [.l KA]), (1, .rz [.l LA]), (18, .own [.q qu.1, .q qu.2, .q qv.1, .q qv.2, .c (.bool qc)] 33), (3, .gr [.l C] 39 13), (4, .gr [.l D] 33 25)] }
 | 54 => { n := 116, sl := [(0, .sz 0 L1), (1, .sz 1 L2), (7, .v (.int .i64 ((n : Nat) : Int))), (10, .p 18 0), (11, .v (.int .i64 0)), (34, .v (.int .i64 ((n : Nat) : Int))), (35, .v (.int .i64 ((i : Nat) : Int))), (8, .sx 3 i), (64, .sl 1100 0 1 1), (66, .sx 4 i), (67, .ag [.q u.1, .q u.2, .q v.1, .q v.2, .c (.bool c)])], hp := [(0, .rz [.l KA]), (1, .rz [.l LA]), (18, .own [.q qu.1, .q qu.2, .q qv.1, .q qv.2, .c (.bool qc)] 33), (3, .gr [.l C] 39 13), (1100, .own [.q x, .q y, .c (.bool b)] 39), (4, .gr [.l D] 33 25)] }
 | 55 => { n := 116, sl := [(0, .sz 0 L1), (1, .sz 1 L2), (7, .v (.int .i64 ((n : Nat) : Int))), (10, .p 18 0), (11, .v (.int .i64 0)), (34, .v (.int .i64 ((n : Nat) : Int))), (35, .v (.int .i64 ((i : Nat) : Int))), (62, .sx 3 i), (64, .sl 1100 0 1 1), (66, .sx 4 i), (67, .ag [.q u.1, .q u.2, .q v.1, .q v.2, .c (.bool c)])], hp := [(0, .rz [.l KA]), (1, .rz [.l LA]), (18, .own [.q qu.1, .q qu.2, .q qv.1, .q qv.2, .c (.bool qc)] 33), (3, .gr [.l C] 39 13), (1100, .own [.q x, .q y, .c (.bool b)] 39), (4, .gr [.l D] 33 25)] }
 | 63 => { n := 116, sl := [(0, .sz 0 L1), (1, .sz 1 L2), (7, .v (.int .i64 ((n : Nat) : Int))), (10, .p 18 0), (11, .v (.int .i64 0)), (34, .v (.int .i64 ((n : Nat) : Int))), (35, .v (.int .i64 ((i : Nat) : Int))), (65, .sx 1200 (i + 1)), (66, .sx 4 i), (67, .ag [.q u.1, .q u.2, .q v.1, .q v.2, .c (.bool c)])], hp := [(0, .rz [.l KA]), (1, .rz [.l LA]), (18, .own [.q qu.1, .q qu.2, .q qv.1, .q qv.2, .c (.bool qc)] 33), (1200, .gr [.l C, .q x, .q y, .c (.bool b)] 39 13), (4, .gr [.l D] 33 25)] }
 | 96 => { n := 116, sl := [(0, .sz 0 L1), (1, .sz 1 L2), (7, .v (.int .i64 ((n : Nat) : Int))), (10, .p 18 0), (11, .v (.int .i64 0)), (34, .v (.int .i64 ((n : Nat) : Int))), (35, .v (.int .i64 ((i : Nat) : Int))), (8, .sx 3 i), (13, .p 35 0), (9, .sx 4 i), (68, .sl 1000 0 1 1)], hp := [(0, .rz [.l KA]), (1, .rz [.l LA]), (18, .own [.q qu.1, .q qu.2, .q qv.1, .q qv.2, .c (.bool qc)] 33), (3, .gr [.l C] 39 13), (35, .own [.q x, .q y, .c (.bool b)] 39), (4, .gr [.l D] 33 25), (1000, .own [.q u.1, .q u.2, .q v.1, .q v.2, .c (.bool c)] 33)] }
 | 97 => { n := 116, sl := [(0, .sz 0 L1), (1, .sz 1 L2), (7, .v (.int .i64 ((n : Nat) : Int))), (10, .p 18 0), (11, .v (.int .i64 0)), (34, .v (.int .i64 ((n : Nat) : Int))), (35, .v (.int .i64 ((i : Nat) : Int))), (62, .sx 3 i), (13, .p 35 0), (9, .sx 4 i), (68, .sl 1000 0 1 1)], hp := [(0, .rz [.l KA]), (1, .rz [.l LA]), (18, .own [.q qu.1, .q qu.2, .q qv.1, .q qv.2, .c (.bool qc)] 33), (3, .gr [.l C] 39 13), (35, .own [.q x, .q y, .c (.bool b)] 39), (4, .gr [.l D] 33 25), (1000, .own [.q u.1, .q u.2, .q v.1, .q v.2, .c (.bool c)] 33)] }
 | 98 => { n := 116, sl := [(0, .sz 0 L1), (1, .sz 1 L2), (7, .v (.int .i64 ((n : Nat) : Int))), (10, .p 18 0), (11, .v (.int .i64 0)), (34, .v (.int .i64 ((n : Nat) : Int))), (35, .v (.int .i64 ((i : Nat) : Int))), (8, .sx 3 i), (63, .ag [.q x, .q y, .c (.bool b)]), (9, .sx 4 i), (68, .sl 1000 0 1 1)], hp := [(0, .rz [.l KA]), (1, .rz [.l LA]), (18, .own [.q qu.1, .q qu.2, .q qv.1, .q qv.2, .c (.bool qc)] 33), (3, .gr [.l C] 39 13), (4, .gr [.l D] 33 25), (1000, .own [.q u.1, .q u.2, .q v.1, .q v.2, .c (.bool c)] 33)] }
 | 99 => { n := 116, sl := [(0, .sz 0 L1), (1, .sz 1 L2), (7, .v (.int .i64 ((n : Nat) : Int))), (10, .p 18 0), (11, .v (.int .i64 0)), (34, .v (.int .i64 ((n : Nat) : Int))), (35, .v (.int .i64 ((i : Nat) : Int))), (62, .sx 3 i), (63, .ag [.q x, .q y, .c (.bool b)]), (9, .sx 4 i), (68, .sl 1000 0 1 1)], hp := [(0, .rz [.l KA]), (1, .rz [.l LA]), (18, .own [.q qu.1, .q qu.2, .q qv.1, .q qv.2, .c (.bool qc)] 33), (3, .gr [.l C] 39 13), (4, .gr [.l D] 33 25), (1000, .own [.q u.1, .q u.2, .q v.1, .q v.2, .c (.bool c)] 33)] }
 | 102 => { n := 116, sl := [(0, .sz 0 L1), (1, .sz 1 L2), (7, .v (.int .i64 ((n : Nat) : Int))), (10, .p 18 0), (11, .v (.int .i64 0)), (34, .v (.int .i64 ((n : Nat) : Int))), (35, .v (.int .i64 ((i : Nat) : Int))), (8, .sx 3 i), (64, .sl 1100 0 1 1), (9, .sx 4 i), (68, .sl 1000 0 1 1)], hp := [(0, .rz [.l KA]), (1, .rz [.l LA]), (18, .own [.q qu.1, .q qu.2, .q qv.1, .q qv.2, .c (.bool qc)] 33), (3, .gr [.l C] 39 13), (1100, .own [.q x, .q y, .c (.bool b)] 39), (4, .gr [.l D] 33 25), (1000, .own [.q u.1, .q u.2, .q v.1, .q v.2, .c (.bool c)] 33)] }
 | 103 => { n := 116, sl := [(0, .sz 0 L1), (1, .sz 1 L2), (7, .v (.int .i64 ((n : Nat) : Int))), (10, .p 18 0), (11, .v (.int .i64 0)), (34, .v (.int .i64 ((n : Nat) : Int))), (35, .v (.int .i64 ((i : Nat) : Int))), (62, .sx 3 i), (64, .sl 1100 0 1 1), (9, .sx 4 i), (68, .sl 1000 0 1 1)], hp := [(0, .rz [.l KA]), (1, .rz [.l LA]), (18, .own [.q qu.1, .q qu.2, .q qv.1, .q qv.2, .c (.bool qc)] 33), (3, .gr [.l C] 39 13), (1100, .own [.q x, .q y, .c (.bool b)] 39), (4, .gr [.l D] 33 25), (1000, .own [.q u.1, .q u.2, .q v.1, .q v.2, .c (.bool c)] 33)] }
 | 111 => { n := 116, sl := [(0, .sz 0 L1), (1, .sz 1 L2), (7, .v (.int .i64 ((n : Nat) : Int))), (10, .p 18 0), (11, .v (.int .i64 0)), (34, .v (.int .i64 ((n : Nat) : Int))), (35, .v (.int .i64 ((i : Nat) : Int))), (65, .sx 1200 (i + 1)), (9, .sx 4 i), (68, .sl 1000 0 1 1)], hp := [(0, .rz [.l KA]), (1, .rz [.l LA]), (18, .own [.q qu.1, .q qu.2, .q qv.1, .q qv.2, .c (.bool qc)] 33), (1200, .gr [.l C, .q x, .q y, .c (.bool b)] 39 13), (4, .gr [.l D] 33 25), (1000, .own [.q u.1, .q u.2, .q v.1, .q v.2, .c (.bool c)] 33)] }
 | 112 => { n := 116, sl := [(0, .sz 0 L1), (1, .sz 1 L2), (7, .v (.int .i64 ((n : Nat) : Int))), (10, .p 18 0), (11, .v (.int .i64 0)), (34, .v (.int .i64 ((n : Nat) : Int))), (35, .v (.int .i64 ((i : Nat) : Int))), (8, .sx 3 i), (13, .p 35 0), (66, .sx 4 i), (68, .sl 1000 0 1 1)], hp := [(0, .rz [.l KA]), (1, .rz [.l LA]), (18, .own [.q qu.1, .q qu.2, .q qv.1, .q qv.2, .c (.bool qc)] 33), (3, .gr [.l C] 39 13), (35, .own [.q x, .q y, .c (.bool b)] 39), (4, .gr [.l D] 33 25), (1000, .own [.q u.1, .q u.2, .q v.1, .q v.2, .c (.bool c)] 33)] }
 | 113 => { n := 116, sl := [(0, .sz 0 L1), (1, .sz 1 L2), (7, .v (.int .i64 ((n : Nat) : Int))), (10, .p 18 0), (11, .v (.int .i64 0)), (34, .v (.int .i64 ((n : Nat) : Int))), (35, .v (.int .i64 ((i : Nat) : Int))), (62, .sx 3 i), (13, .p 35 0), (66, .sx 4 i), (68, .sl 1000 0 1 1)], hp := [(0, .rz [.l KA]), (1, .rz [.l LA]), (18, .own [.q qu.1, .q qu.2, .q qv.1, .q qv.2, .c (.bool qc)] 33), (3, .gr [.l C] 39 13), (35, .own [.q x, .q y, .c (.bool b)] 39), (4, .gr [.l D] 33 25), (1000, .own [.q u.1, .q u.2, .q v.1, .q v.2, .c (.bool c)] 33)] }
 | 114 => { n := 116, sl := [(0, .sz 0 L1), (1, .sz 1 L2), (7, .v (.int .i64 ((n : Nat) : Int))), (10, .p 18 0), (11, .v (.int .i64 0)), (34, .v (.int .i64 ((n : Nat) : Int))), (35, .v (.int .i64 ((i : Nat) : Int))), (8, .sx 3 i), (63, .ag [.q x, .q y, .c (.bool b)]), (66, .sx 4 i), (68, .sl 1000 0 1 1)], hp := [(0, .rz [.l KA]), (1, .rz [.l LA]), (18, .own [.q qu.1, .q qu.2, .q qv.1, .q qv.2, .c (.bool qc)] 33), (3, .gr [.l C] 39 13), (4, .gr [.l D] 33 25), (1000, .own [.q u.1, .q u.2, .q v.1, .q v.2, .c (.bool c)] 33)] }
 | 115 => { n := 116, sl := [(0, .sz 0 L1), (1, .sz 1 L2), (7, .v (.int .i64 ((n : Nat) : Int))), (10, .p 18 0), (11, .v (.int .i64 0)), (34, .v (.int .i64 ((n : Nat) : Int))), (35, .v (.int .i64 ((i : Nat) : Int))), (62, .sx 3 i), (63, .ag [.q x, .q y, .c (.bool b)]), (66, .sx 4 i), (68, .sl 1000 0 1 1)], hp := [(0, .rz [.l KA]), (1, .rz [.l LA]), (18, .own [.q qu.1, .q qu.2, .q qv.1, .q qv.2, .c (.bool qc)] 33), (3, .gr [.l C] 39 13), (4, .gr [.l D] 33 25), (1000, .own [.q u.1, .q u.2, .q v.1, .q v.2, .c (.bool c)] 33)] }
 | 118 => { n := 116, sl := [(0, .sz 0 L1), (1, .sz 1 L2), (7, .v (.int .i64 ((n : Nat) : Int))), (10, .p 18 0), (11, .v (.int .i64 0)), (34, .v (.int .i64 ((n : Nat) : Int))), (35, .v (.int .i64 ((i : Nat) : Int))), (8, .sx 3 i), (64, .sl 1100 0 1 1), (66, .sx 4 i), (68, .sl 1000 0 1 1)], hp := [(0, .rz [.l KA]), (1, .rz [.l LA]), (18, .own [.q qu.1, .q qu.2, .q qv.1, .q qv.2, .c (.bool qc)] 33), (3, .gr [.l C] 39 13), (1100, .own [.q x, .q y, .c (.bool b)] 39), (4, .gr [.l D] 33 25), (1000, .own [.q u.1, .q u.2, .q v.1, .q v.2, .c (.bool c)] 33)] }
 | 119 => { n := 116, sl := [(0, .sz 0 L1), (1, .sz 1 L2), (7, .v (.int .i64 ((n : Nat) : Int))), (10, .p 18 0), (11, .v (.int .i64 0)), (34, .v (.int .i64 ((n : Nat) : Int))), (35, .v (.int .i64 ((i : Nat) : Int))), (62, .sx 3 i), (64, .sl 1100 0 1 1), (66, .sx 4 i), (68, .sl 1000 0 1 1)], hp := [(0, .rz [.l KA]), (1, .rz [.l LA]), (18, .own [.q qu.1, .q qu.2, .q qv.1, .q qv.2, .c (.bool qc)] 33), (3, .gr [.l C] 39 13), (1100, .own [.q x, .q y, .c (.bool b)] 39), (4, .gr [.l D] 33 25), (1000, .own [.q u.1, .q u.2, .q v.1, .q v.2, .c (.bool c)] 33)] }
 | 127 => { n := 116, sl := [(0, .sz 0 L1), (1, .sz 1 L2), (7, .v (.int .i64 ((n : Nat) : Int))), (10, .p 18 0), (11, .v (.int .i64 0)), (34, .v (.int .i64 ((n : Nat) : Int))), (35, .v (.int .i64 ((i : Nat) : Int))), (65, .sx 1200 (i + 1)), (66, .sx 4 i), (68, .sl 1000 0 1 1)], hp := [(0, .rz [.l KA]), (1, .rz [.l LA]), (18, .own [.q qu.1, .q qu.2, .q qv.1, .q qv.2, .c (.bool qc)] 33), (1200, .gr [.l C, .q x, .q y, .c (.bool b)] 39 13), (4, .gr [.l D] 33 25), (1000, .own [.q u.1, .q u.2, .q v.1, .q v.2, .c (.bool c)] 33)] }
 | 255 => { n := 116, sl := [(0, .sz 0 L1), (1, .sz 1 L2), (7, .v (.int .i64 ((n : Nat) : Int))), (10, .p 18 0), (11, .v (.int .i64 0)), (34, .v (.int .i64 ((n : Nat) : Int))), (35, .v (.int .i64 ((i : Nat) : Int))), (65, .sx 1200 (i + 1)), (69, .sx 1300 (i + 1))], hp := [(0, .rz [.l KA]), (1, .rz [.l LA]), (18, .own [.q qu.1, .q qu.2, .q qv.1, .q qv.2, .c (.bool qc)] 33), (1200, .gr [.l C, .q x, .q y, .c (.bool b)] 39 13), (1300, .gr [.l D, .q u.1, .q u.2, .q v.1, .q v.2, .c (.bool c)] 33 25)] }
 | 511 => { n := 116, sl := [(0, .sz 0 L1), (1, .sz 1 L2), (7, .v (.int .i64 ((n : Nat) : Int))), (10, .p 18 0), (11, .v (.int .i64 0)), (34, .v (.int .i64 ((n : Nat) : Int))), (35, .v (.int .i64 ((i : Nat) : Int))), (8, .sx 1200 (i + 1)), (69, .sx 1300 (i + 1))], hp := [(0, .rz [.l KA]), (1, .rz [.l LA]), (18, .own [.q qu.1, .q qu.2, .q qv.1, .q qv.2, .c (.bool qc)] 33), (1200, .gr [.l C, .q x, .q y, .c (.bool b)] 39 13), (1300, .gr [.l D, .q u.1, .q u.2, .q v.1, .q v.2, .c (.bool c)] 33 25)] }
 | _ => { n := 116, sl := [(0, .sz 0 L1), (1, .sz 1 L2), (7, .v (.int .i64 ((n : Nat) : Int))), (10, .p 18 0), (11, .v (.int .i64 0)), (34, .v (.int .i64 ((n : Nat) : Int))), (35, .v (.int .i64 ((i : Nat) : Int))), (8, .sx 1200 (i + 1)), (9, .sx 1300 (i + 1))], hp := [(0, .rz [.l KA]), (1, .rz [.l LA]), (18, .own [.q qu.1, .q qu.2, .q qv.1, .q qv.2, .c (.bool qc)] 33), (1200, .gr [.l C, .q x, .q y, .c (.bool b)] 39 13), (1300, .gr [.l D, .q u.1, .q u.2, .q v.1, .q v.2, .c (.bool c)] 33 25)] }
def Zu (m i : Nat) : Nat := match i with | 2 => 1100 | 3 => 1200 | 6 => (match m with | 32 => 1000 | 33 => 1000 | 34 => 1000 | 35 => 1000 | 48 => 1000 | 49 => 1000 | 50 => 1000 | 51 => 1000 | _ => 1400) | 7 => 1300 | _ => 1400
def aaj (m i : Nat) : List (Nat × Nat) := match i with | 6 => (match m with | 38 => [(1000, 1400)] | 39 => [(1000, 1400)] | 47 => [(1000, 1400)] | 54 => [(1000, 1400)] | 55 => [(1000, 1400)] | 63 => [(1000, 1400)] | _ => []) | _ => []
def Xu : List (Nat × Nat) := [(10, 0), (9, 1), (9, 2), (9, 16), (9, 32), (8, 3), (8, 6), (8, 17), (8, 18), (8, 33), (8, 34), (8, 48), (8, 96), (7, 7), (7, 19), (7, 22), (7, 35), (7, 38), (7, 49), (7, 50), (7, 97), (7, 98), (7, 112), (6, 15), (6, 23), (6, 39), (6, 51), (6, 54), (6, 99), (6, 102), (6, 113), (6, 114), (5, 31), (5, 47), (5, 55), (5, 103), (5, 115), (5, 118), (4, 63), (4, 111), (4, 119), (3, 127), (2, 255), (1, 511), (0, 1023)]
theorem H5 (L1 L2 n : Nat) (KA LA : List Value) (qu qv : F2) (qc : Bool) (i : Nat) (C D : List Value) (x y : Fin Pp) (b : Bool) (u v : F2) (c : Bool) (hi : i < 1000) (hC : C.length = i * 13) (hD : D.length = i * 25) : Sound prog 0 false (Cp f3 3) (Fh L1 L2 n KA LA qu qv qc i C D x y b u v c 0).aa .normal (Fh L1 L2 n KA LA qu qv qc i C D x y b u v c 1023).aa :=
 r8 (P := prog) (X := qK _) (env := []) trivial (tD (P := prog) (X := qK _) (env := []) (os := oL [(903, { ch := 0, hi := fun _ => 0, ex := 1 }), (907, { ch := 0, hi := fun _ => 0, ex := 1 })]) trivial 0) (os := oL [(903, { ch := 0, hi := fun _ => 0, ex := 1 }), (907, { ch := 0, hi := fun _ => 0, ex := 1 })]) (fb := 0) (k := 900) (S := Fh L1 L2 n KA LA qu qv qc i C D x y b u v c ) (kk := Zu) (tau := aaj) (Ms := Xu) (full := 1023) (by kernel_rfl)
  (have hR : ∀ m, some (Fh L1 L2 n KA LA qu qv qc i C D x y b u v c m) = some (Fh L1 L2 n KA LA qu qv qc i C D x y b u v c m) := fun _ => rfl; (ai (ai (ai trivial (hR 1)) (ai (ai trivial (hR 2)) (ai (ai trivial (hR 16)) (ai (ai trivial (hR 32)) tt0)))) (ai (ai (ai trivial (hR 3)) (ai (ai trivial (hR 17)) (ai (ai trivial (hR 33)) tt0))) (ai (ai (ai trivial (hR 3)) (ai (ai trivial (hR 6)) (ai (ai trivial (hR 18)) (ai (ai trivial (hR 34)) tt0)))) (ai (ai (ai trivial (hR 17)) (ai (ai trivial (hR 18)) (ai (ai trivial (hR 48)) tt0))) (ai (ai (ai trivial (hR 33)) (ai (ai trivial (hR 34)) (ai (ai trivial (hR 48)) (ai (ai trivial (hR 96)) tt0)))) (ai (ai (ai trivial (hR 7)) (ai (ai trivial (hR 19)) (ai (ai trivial (hR 35)) tt0))) (ai (ai (ai trivial (hR 7)) (ai (ai trivial (hR 22)) (ai (ai trivial (hR 38)) tt0))) (ai (ai (ai trivial (hR 19)) (ai (ai trivial (hR 49)) tt0)) (ai (ai (ai trivial (hR 19)) (ai (ai trivial (hR 22)) (ai (ai trivial (hR 50)) tt0))) (ai (ai (ai trivial (hR 35)) (ai (ai trivial (hR 49)) (ai (ai trivial (hR 97)) tt0))) (ai (ai (ai trivial (hR 35)) (ai (ai trivial (hR 38)) (ai (ai trivial (hR 50)) (ai (ai trivial (hR 98)) tt0)))) (ai (ai (ai trivial (hR 49)) (ai (ai trivial (hR 50)) (ai (ai trivial (hR 112)) tt0))) (ai (ai (ai trivial (hR 97)) (ai (ai trivial (hR 98)) (ai (ai trivial (hR 112)) tt0))) (ai (ai (ai (ai (show sizes [.l C] = i * 13 /\ i + 1 <= 9223372036854775807 /\ (i + 1) * 104 <= 140737488355328 /\ True from ⟨by show C.length + 0 = i * 13; omega, by omega, by omega, tt0⟩) tt0) (hR 15)) (ai (ai trivial (hR 23)) (ai (ai trivial (hR 39)) tt0))) (ai (ai (ai trivial (hR 23)) (ai (ai trivial (hR 51)) tt0)) (ai (ai (ai trivial (hR 23)) (ai (ai trivial (hR 54)) tt0)) (ai (ai (ai trivial (hR 39)) (ai (ai trivial (hR 51)) (ai (ai trivial (hR 99)) tt0))) (ai (ai (ai trivial (hR 39)) (ai (ai trivial (hR 54)) (ai (ai trivial (show ((qs L1) /\ (qs L2) /\ ((Value.int .i64 (((n : Nat) : Int))) = (Value.int .i64 (((n : Nat) : Int)))) /\ (qs 0) /\ ((qI (.int .i64 (0)))) /\ ((Value.int .i64 (((n : Nat) : Int))) = (Value.int .i64 (((n : Nat) : Int)))) /\ ((Value.int .i64 (((i : Nat) : Int))) = (Value.int .i64 (((i : Nat) : Int)))) /\ (qs i) /\ (true = true /\ 0 = 0 /\ 1 = 1 /\ 1 = 1) /\ (qs i) /\ (true = true /\ 0 = 0 /\ 1 = 1 /\ 1 = 1) /\ True) /\ ((flat [.l KA] = flat [.l KA]) /\ (flat [.l LA] = flat [.l LA]) /\ (qD 33 [.q qu.1, .q qu.2, .q qv.1, .q qv.2, .c (.bool qc)]) /\ ((39 = 39 /\ 13 = 13) /\ flat [.l C] = flat [.l C]) /\ (qD 39 [.q x, .q y, .c (.bool b)]) /\ ((33 = 33 /\ 25 = 25) /\ flat [.l D] = flat [.l D]) /\ (qD 33 [.q u.1, .q u.2, .q v.1, .q v.2, .c (.bool c)]) /\ True) from ⟨⟨rr0, rr0, rfl, rr0, rfl, rfl, rfl, rr0, ⟨rfl, rfl, rfl, rfl⟩, rr0, ⟨rfl, rfl, rfl, rfl⟩, tt0⟩, ⟨rfl, rfl, rr0, ⟨rr0, rfl⟩, rr0, ⟨rr0, rfl⟩, rr0, tt0⟩⟩)) tt0))) (ai (ai (ai trivial (hR 51)) (ai (ai trivial (hR 113)) tt0)) (ai (ai (ai trivial (hR 51)) (ai (ai trivial (hR 54)) (ai (ai trivial (hR 114)) tt0))) (ai (ai (ai trivial (hR 99)) (ai (ai trivial (hR 113)) tt0)) (ai (ai (ai trivial (hR 99)) (ai (ai trivial (hR 102)) (ai (ai trivial (hR 114)) tt0))) (ai (ai (ai trivial (hR 113)) (ai (ai trivial (hR 114)) tt0)) (ai (ai (ai trivial (hR 31)) (ai (ai trivial (hR 47)) tt0)) (ai (ai (ai (ai (show sizes [.l C] = i * 13 /\ i + 1 <= 9223372036854775807 /\ (i + 1) * 104 <= 140737488355328 /\ True from ⟨by show C.length + 0 = i * 13; omega, by omega, by omega, tt0⟩) tt0) (hR 31)) (ai (ai trivial (hR 55)) tt0)) (ai (ai (ai (ai (show sizes [.l C] = i * 13 /\ i + 1 <= 9223372036854775807 /\ (i + 1) * 104 <= 140737488355328 /\ True from ⟨by show C.length + 0 = i * 13; omega, by omega, by omega, tt0⟩) tt0) (hR 47)) (ai (ai trivial (hR 55)) (ai (ai trivial (show ((qs L1) /\ (qs L2) /\ ((Value.int .i64 (((n : Nat) : Int))) = (Value.int .i64 (((n : Nat) : Int)))) /\ (qs 0) /\ ((qI (.int .i64 (0)))) /\ ((Value.int .i64 (((n : Nat) : Int))) = (Value.int .i64 (((n : Nat) : Int)))) /\ ((Value.int .i64 (((i : Nat) : Int))) = (Value.int .i64 (((i : Nat) : Int)))) /\ (qs i) /\ (true = true /\ 0 = 0 /\ 1 = 1 /\ 1 = 1) /\ (qs i) /\ (true = true /\ 0 = 0 /\ 1 = 1 /\ 1 = 1) /\ True) /\ ((flat [.l KA] = flat [.l KA]) /\ (flat [.l LA] = flat [.l LA]) /\ (qD 33 [.q qu.1, .q qu.2, .q qv.1, .q qv.2, .c (.bool qc)]) /\ ((39 = 39 /\ 13 = 13) /\ flat [.l C] = flat [.l C]) /\ (qD 39 [.q x, .q y, .c (.bool b)]) /\ ((33 = 33 /\ 25 = 25) /\ flat [.l D] = flat [.l D]) /\ (qD 33 [.q u.1, .q u.2, .q v.1, .q v.2, .c (.bool c)]) /\ True) from ⟨⟨rr0, rr0, rfl, rr0, rfl, rfl, rfl, rr0, ⟨rfl, rfl, rfl, rfl⟩, rr0, ⟨rfl, rfl, rfl, rfl⟩, tt0⟩, ⟨rfl, rfl, rr0, ⟨rr0, rfl⟩, rr0, ⟨rr0, rfl⟩, rr0, tt0⟩⟩)) tt0))) (ai (ai (ai trivial (hR 55)) (ai (ai trivial (hR 115)) tt0)) (ai (ai (ai trivial (hR 55)) (ai (ai trivial (show ((qs L1) /\ (qs L2) /\ ((Value.int .i64 (((n : Nat) : Int))) = (Value.int .i64 (((n : Nat) : Int)))) /\ (qs 0) /\ ((qI (.int .i64 (0)))) /\ ((Value.int .i64 (((n : Nat) : Int))) = (Value.int .i64 (((n : Nat) : Int)))) /\ ((Value.int .i64 (((i : Nat) : Int))) = (Value.int .i64 (((i : Nat) : Int)))) /\ (qs i) /\ (true = true /\ 0 = 0 /\ 1 = 1 /\ 1 = 1) /\ (qs i) /\ (true = true /\ 0 = 0 /\ 1 = 1 /\ 1 = 1) /\ True) /\ ((flat [.l KA] = flat [.l KA]) /\ (flat [.l LA] = flat [.l LA]) /\ (qD 33 [.q qu.1, .q qu.2, .q qv.1, .q qv.2, .c (.bool qc)]) /\ ((39 = 39 /\ 13 = 13) /\ flat [.l C] = flat [.l C]) /\ (qD 39 [.q x, .q y, .c (.bool b)]) /\ ((33 = 33 /\ 25 = 25) /\ flat [.l D] = flat [.l D]) /\ (qD 33 [.q u.1, .q u.2, .q v.1, .q v.2, .c (.bool c)]) /\ True) from ⟨⟨rr0, rr0, rfl, rr0, rfl, rfl, rfl, rr0, ⟨rfl, rfl, rfl, rfl⟩, rr0, ⟨rfl, rfl, rfl, rfl⟩, tt0⟩, ⟨rfl, rfl, rr0, ⟨rr0, rfl⟩, rr0, ⟨rr0, rfl⟩, rr0, tt0⟩⟩)) tt0)) (ai (ai (ai trivial (hR 103)) (ai (ai trivial (hR 115)) tt0)) (ai (ai (ai trivial (hR 103)) (ai (ai trivial (hR 118)) tt0)) (ai (ai (ai trivial (hR 115)) tt0) (ai (ai (ai trivial (hR 115)) (ai (ai trivial (hR 118)) tt0)) (ai (ai (ai trivial (hR 63)) tt0) (ai (ai (ai trivial (hR 63)) (ai (ai trivial (show ((qs L1) /\ (qs L2) /\ ((Value.int .i64 (((n : Nat) : Int))) = (Value.int .i64 (((n : Nat) : Int)))) /\ (qs 0) /\ ((qI (.int .i64 (0)))) /\ ((Value.int .i64 (((n : Nat) : Int))) = (Value.int .i64 (((n : Nat) : Int)))) /\ ((Value.int .i64 (((i : Nat) : Int))) = (Value.int .i64 (((i : Nat) : Int)))) /\ (qs (i + 1)) /\ (qs i) /\ (true = true /\ 0 = 0 /\ 1 = 1 /\ 1 = 1) /\ True) /\ ((flat [.l KA] = flat [.l KA]) /\ (flat [.l LA] = flat [.l LA]) /\ (qD 33 [.q qu.1, .q qu.2, .q qv.1, .q qv.2, .c (.bool qc)]) /\ ((39 = 39 /\ 13 = 13) /\ flat [.l C, .q x, .q y, .c (.bool b)] = flat [.l C, .q x, .q y, .c (.bool b)]) /\ ((33 = 33 /\ 25 = 25) /\ flat [.l D] = flat [.l D]) /\ (qD 33 [.q u.1, .q u.2, .q v.1, .q v.2, .c (.bool c)]) /\ True) from ⟨⟨rr0, rr0, rfl, rr0, rfl, rfl, rfl, rr0, rr0, ⟨rfl, rfl, rfl, rfl⟩, tt0⟩, ⟨rfl, rfl, rr0, ⟨rr0, rfl⟩, ⟨rr0, rfl⟩, rr0, tt0⟩⟩)) tt0)) (ai (ai (ai (ai (show sizes [.l C] = i * 13 /\ i + 1 <= 9223372036854775807 /\ (i + 1) * 104 <= 140737488355328 /\ True from ⟨by show C.length + 0 = i * 13; omega, by omega, by omega, tt0⟩) tt0) (hR 63)) (ai (ai trivial (show ((qs L1) /\ (qs L2) /\ ((Value.int .i64 (((n : Nat) : Int))) = (Value.int .i64 (((n : Nat) : Int)))) /\ (qs 0) /\ ((qI (.int .i64 (0)))) /\ ((Value.int .i64 (((n : Nat) : Int))) = (Value.int .i64 (((n : Nat) : Int)))) /\ ((Value.int .i64 (((i : Nat) : Int))) = (Value.int .i64 (((i : Nat) : Int)))) /\ (qs i) /\ (true = true /\ 0 = 0 /\ 1 = 1 /\ 1 = 1) /\ (qs i) /\ (true = true /\ 0 = 0 /\ 1 = 1 /\ 1 = 1) /\ True) /\ ((flat [.l KA] = flat [.l KA]) /\ (flat [.l LA] = flat [.l LA]) /\ (qD 33 [.q qu.1, .q qu.2, .q qv.1, .q qv.2, .c (.bool qc)]) /\ ((39 = 39 /\ 13 = 13) /\ flat [.l C] = flat [.l C]) /\ (qD 39 [.q x, .q y, .c (.bool b)]) /\ ((33 = 33 /\ 25 = 25) /\ flat [.l D] = flat [.l D]) /\ (qD 33 [.q u.1, .q u.2, .q v.1, .q v.2, .c (.bool c)]) /\ True) from ⟨⟨rr0, rr0, rfl, rr0, rfl, rfl, rfl, rr0, ⟨rfl, rfl, rfl, rfl⟩, rr0, ⟨rfl, rfl, rfl, rfl⟩, tt0⟩, ⟨rfl, rfl, rr0, ⟨rr0, rfl⟩, rr0, ⟨rr0, rfl⟩, rr0, tt0⟩⟩)) tt0)) (ai (ai (ai (ai (show sizes [.l C] = i * 13 /\ i + 1 <= 9223372036854775807 /\ (i + 1) * 104 <= 140737488355328 /\ True from ⟨by show C.length + 0 = i * 13; omega, by omega, by omega, tt0⟩) tt0) (hR 111)) (ai (ai trivial (hR 119)) tt0)) (ai (ai (ai trivial (hR 119)) tt0) (ai (ai (ai trivial (hR 119)) tt0) (ai (ai (ai trivial (show ((qs L1) /\ (qs L2) /\ ((Value.int .i64 (((n : Nat) : Int))) = (Value.int .i64 (((n : Nat) : Int)))) /\ (qs 0) /\ ((qI (.int .i64 (0)))) /\ ((Value.int .i64 (((n : Nat) : Int))) = (Value.int .i64 (((n : Nat) : Int)))) /\ ((Value.int .i64 (((i : Nat) : Int))) = (Value.int .i64 (((i : Nat) : Int)))) /\ (qs (i + 1)) /\ (qs i) /\ (true = true /\ 0 = 0 /\ 1 = 1 /\ 1 = 1) /\ True) /\ ((flat [.l KA] = flat [.l KA]) /\ (flat [.l LA] = flat [.l LA]) /\ (qD 33 [.q qu.1, .q qu.2, .q qv.1, .q qv.2, .c (.bool qc)]) /\ ((39 = 39 /\ 13 = 13) /\ flat [.l C, .q x, .q y, .c (.bool b)] = flat [.l C, .q x, .q y, .c (.bool b)]) /\ ((33 = 33 /\ 25 = 25) /\ flat [.l D] = flat [.l D]) /\ (qD 33 [.q u.1, .q u.2, .q v.1, .q v.2, .c (.bool c)]) /\ True) from ⟨⟨rr0, rr0, rfl, rr0, rfl, rfl, rfl, rr0, rr0, ⟨rfl, rfl, rfl, rfl⟩, tt0⟩, ⟨rfl, rfl, rr0, ⟨rr0, rfl⟩, ⟨rr0, rfl⟩, rr0, tt0⟩⟩)) tt0) (ai (ai (ai trivial (hR 127)) tt0) (ai (ai (ai (ai (show sizes [.l C] = i * 13 /\ i + 1 <= 9223372036854775807 /\ (i + 1) * 104 <= 140737488355328 /\ True from ⟨by show C.length + 0 = i * 13; omega, by omega, by omega, tt0⟩) tt0) (hR 127)) tt0) (ai (ai (ai (ai (show sizes [.l D] = i * 25 /\ i + 1 <= 9223372036854775807 /\ (i + 1) * 200 <= 140737488355328 /\ True from ⟨by show D.length + 0 = i * 25; omega, by omega, by omega, tt0⟩) tt0) (hR 255)) tt0) (ai (ai (ai trivial (hR 511)) tt0) (ai (ai (ai trivial (hR 1023)) tt0) (ai trivial
  tt0))))))))))))))))))))))))))))))))))))))))))))))
end Go.Proofs.YtfbkefgoblcmpaaGreat
set_option linter.unusedSimpArgs false
set_option linter.unusedVariables false
namespace Go.Proofs.YtfbkefgoblcmpaaGreat
open Go.Ev Go.RowKit
open Tryz
def tsZ (L1 L2 n : Nat) (KA LA : List Value) (qu qv : F2) (qc : Bool) : LState := { n := 116, sl := [(0, .sz 0 L1), (1, .sz 1 L2), (7, vi0 ((n : Nat) : Int)), (10, .p 18 0), (11, vi0 0), (34, vi0 ((n : Nat) : Int)), (35, vi0 0), (8, .v (.slice none 0 0)), (9, .v (.slice none 0 0))], hp := [(0, .rz [.l KA]), (1, .rz [.l LA]), (18, .own [.q qu.1, .q qu.2, .q qv.1, .q qv.2, .c (.bool qc)] 33)] }
def tsI (L1 L2 n : Nat) (KA LA : List Value) (qu qv : F2) (qc : Bool) (i : Nat) (C D : List Value) : LState := { n := 116, sl := [(0, .sz 0 L1), (1, .sz 1 L2), (7, vi0 ((n : Nat) : Int)), (10, .p 18 0), (11, vi0 0), (34, vi0 ((n : Nat) : Int)), (35, vi0 ((i : Nat) : Int)), (8, .sx 3 i), (9, .sx 4 i)], hp := [(0, .rz [.l KA]), (1, .rz [.l LA]), (18, .own [.q qu.1, .q qu.2, .q qv.1, .q qv.2, .c (.bool qc)] 33), (3, .gr [.l C] 39 13), (4, .gr [.l D] 33 25)] }
def tsF (L1 L2 n : Nat) (KA LA : List Value) (qu qv : F2) (qc : Bool) : LState := { n := 116, sl := [(1, .sz 1 L2), (7, vi0 ((n : Nat) : Int)), (10, .p 18 0), (11, vi0 0), (8, .v (.slice none 0 0)), (9, .v (.slice none 0 0))], hp := [(1, .rz [.l LA]), (18, .own [.q qu.1, .q qu.2, .q qv.1, .q qv.2, .c (.bool qc)] 33)] }
def tsE (L1 L2 n : Nat) (KA LA : List Value) (qu qv : F2) (qc : Bool) (C D : List Value) : LState := { n := 116, sl := [(1, .sz 1 L2), (7, vi0 ((n : Nat) : Int)), (10, .p 18 0), (11, vi0 0), (8, .sx 3 n), (9, .sx 4 n)], hp := [(1, .rz [.l LA]), (18, .own [.q qu.1, .q qu.2, .q qv.1, .q qv.2, .c (.bool qc)] 33), (3, .gr [.l C] 39 13), (4, .gr [.l D] 33 25)] }
abbrev C9 (qu : F2) (qv : F2) (qc : Bool) : List Ch := [.q qu.1, .q qu.2, .q qv.1, .q qv.2, .c (.bool qc)]
abbrev AC (gx : Fin Pp) (gy : Fin Pp) (k : Nat) : List XV := [.t (.ag [.q gx, .q gy, .c (.bool false)]), .t (.ag [.n 4 k])]
abbrev AY (x : Fin Pp) (y : Fin Pp) (b : Bool) : List AV := [.ag [.q x, .q y, .c (.bool b)], vi0 0]
abbrev AK (qu : F2) (qv : F2) (qc : Bool) (l : Nat) : List XV := [.t (.ag (C9 qu qv qc)), .t (.ag [.n 4 l])]
abbrev Dq (u : F2) (v : F2) (c : Bool) : List Ch := [.q u.1, .q u.2, .q v.1, .q v.2, .c (.bool c)]
def DV := PLift.up (show ([] : List XV) = [] from rfl)
abbrev Eb (a : AA) (e : Ex) (b : AA) : Prop := Sound prog 0 false (ql f3 0) a e b
theorem ZG (L1 L2 n : Nat) (KA LA : List Value) (qu qv : F2) (qc : Bool) (hn : n <= 4) (hi : 0 < n) (h1 : n <= L1) (h2 : n <= L2) (gx gy x y : Fin Pp) (b : Bool) (u v : F2) (c : Bool) (k l : Nat) (hk : sizes [.n 4 k] = 4 /\ ((flat [.l KA]).drop (0 * 4)).take 4 = flat [.n 4 k]) (hl : sizes [.n 4 l] = 4 /\ ((flat [.l LA]).drop (0 * 4)).take 4 = flat [.n 4 l]) (hG : Tells prog 7 [] (.ag [.q gx, .q gy, .c (.bool false)])) (hA : Tells prog 6 (AC gx gy k) (.tp (AY x y b))) (hB : Tells prog 4 (AK qu qv qc l) (.tp [.ag (Dq u v c), vi0 0])) : Eb (tsZ L1 L2 n KA LA qu qv qc ).aa .normal (tsI L1 L2 n KA LA qu qv qc 1 (flat [.q x, .q y, .c (.bool b)]) (flat [.q u.1, .q u.2, .q v.1, .q v.2, .c (.bool c)])).aa :=
 su (P := prog) (X := qK _) (env := [eTo 7 [([], .ag [.q gx, .q gy, .c (.bool false)])], eTo 6 [((AC gx gy k), .tp (AY x y b))], eTo 4 [((AK qu qv qc l), .tp [.ag (Dq u v c), vi0 0])]]) ⟨qf (qe hG qw), qf (qe hA qw), qf (qe hB qw), tt0⟩ (n := 0) (os := (oL [(23, wT), (29, rO 14 0), (30, { ch := 0, hi := fun _ => 0, ru := 8, cs := fun _ => [.n 4 k] }), (41, rO 14 0), (42, { ch := 0, hi := fun _ => 0, ru := 8, cs := fun _ => [.n 4 l] }), (56, lpO { kd := 5, I := Eh L1 L2 n KA LA qu qv qc 0 x y b u v c 0, ex := .normal, E := Eh L1 L2 n KA LA qu qv qc 0 x y b u v c 1023, fr := 1500 })])) (fb := 0) (rd := false) (c := (ql f3 0)) (k := 23) (I := tsZ L1 L2 n KA LA qu qv qc ) (J := tsI L1 L2 n KA LA qu qv qc 1 (flat [.q x, .q y, .c (.bool b)]) (flat (Dq u v c))) (τ := [(3, 1200), (4, 1300)]) (ex := .normal) (by kernel_rfl) (ai (show ((qs L1) /\ (qs L2) /\ ((Value.int .i64 (((n : Nat) : Int))) = (Value.int .i64 (((n : Nat) : Int)))) /\ (qs 0) /\ ((qI (.int .i64 (0)))) /\ ((Value.int .i64 (((n : Nat) : Int))) = (Value.int .i64 (((n : Nat) : Int)))) /\ ((Value.int .i64 (IntKind.i64.wrap ((0 : Int) + 1))) = (Value.int .i64 ((1 : Nat) : Int))) /\ (qs 1) /\ (qs 1) /\ True) /\ ((flat [.l KA] = flat [.l KA]) /\ (flat [.l LA] = flat [.l LA]) /\ (qD 33 [.q qu.1, .q qu.2, .q qv.1, .q qv.2, .c (.bool qc)]) /\ ((39 = 39 /\ 13 = 13) /\ flat [.q x, .q y, .c (.bool b)] = flat [.l (flat [.q x, .q y, .c (.bool b)])]) /\ ((33 = 33 /\ 25 = 25) /\ flat [.q u.1, .q u.2, .q v.1, .q v.2, .c (.bool c)] = flat [.l (flat [.q u.1, .q u.2, .q v.1, .q v.2, .c (.bool c)])]) /\ True) from ⟨⟨rr0, rr0, rfl, rr0, rfl, rfl, congrArg (Value.int .i64) (by rw [qm]; rfl), rr0, rr0, tt0⟩, ⟨rfl, rfl, rr0, ⟨rr0, by rw [ry]⟩, ⟨rr0, by rw [ry]⟩, tt0⟩⟩) (ai (show some (Eh L1 L2 n KA LA qu qv qc 0 x y b u v c 0) = some (Eh L1 L2 n KA LA qu qv qc 0 x y b u v c 0) from rfl) (ai (HJ L1 L2 n KA LA qu qv qc 0 x y b u v c ) (ai (show ((AK qu qv qc l) : List XV) = (AK qu qv qc l) from rfl) (ai (hl) (ai (show (0 : Int) = ((0 : Nat) : Int) /\ 0 < L2 from ⟨by omega, by omega⟩) (ai (show ((AC gx gy k) : List XV) = (AC gx gy k) from rfl) (ai (hk) (ai (show (0 : Int) = ((0 : Nat) : Int) /\ 0 < L1 from ⟨by omega, by omega⟩) (ai DV.down (ai (show decide ((0 : Int) < ((n : Nat) : Int)) = true from decide_eq_true (by omega)) tt0)))))))))))
theorem aav (L1 L2 n : Nat) (KA LA : List Value) (qu qv : F2) (qc : Bool) (i : Nat) (C D : List Value) (hC : C.length = i * 13) (hD : D.length = i * 25) (hn : n <= 4) (hi : i < n) (h1 : n <= L1) (h2 : n <= L2) (gx gy x y : Fin Pp) (b : Bool) (u v : F2) (c : Bool) (k l : Nat) (hk : sizes [.n 4 k] = 4 /\ ((flat [.l KA]).drop (i * 4)).take 4 = flat [.n 4 k]) (hl : sizes [.n 4 l] = 4 /\ ((flat [.l LA]).drop (i * 4)).take 4 = flat [.n 4 l]) (hG : Tells prog 7 [] (.ag [.q gx, .q gy, .c (.bool false)])) (hA : Tells prog 6 (AC gx gy k) (.tp (AY x y b))) (hB : Tells prog 4 (AK qu qv qc l) (.tp [.ag (Dq u v c), vi0 0])) : Eb (tsI L1 L2 n KA LA qu qv qc i C D).aa .normal (tsI L1 L2 n KA LA qu qv qc (i + 1) (C ++ flat [.q x, .q y, .c (.bool b)]) (D ++ flat [.q u.1, .q u.2, .q v.1, .q v.2, .c (.bool c)])).aa :=
 su (P := prog) (X := qK _) (env := [eTo 7 [([], .ag [.q gx, .q gy, .c (.bool false)])], eTo 6 [((AC gx gy k), .tp (AY x y b))], eTo 4 [((AK qu qv qc l), .tp [.ag (Dq u v c), vi0 0])]]) ⟨qf (qe hG qw), qf (qe hA qw), qf (qe hB qw), tt0⟩ (n := 0) (os := (oL [(23, wT), (29, rO 14 i), (30, { ch := 0, hi := fun _ => 0, ru := 8, cs := fun _ => [.n 4 k] }), (41, rO 14 i), (42, { ch := 0, hi := fun _ => 0, ru := 8, cs := fun _ => [.n 4 l] }), (56, lpO { kd := 5, I := Fh L1 L2 n KA LA qu qv qc i C D x y b u v c 0, ex := .normal, E := Fh L1 L2 n KA LA qu qv qc i C D x y b u v c 1023, fr := 1500 })])) (fb := 0) (rd := false) (c := (ql f3 0)) (k := 23) (I := tsI L1 L2 n KA LA qu qv qc i C D) (J := tsI L1 L2 n KA LA qu qv qc (i + 1) (C ++ flat [.q x, .q y, .c (.bool b)]) (D ++ flat (Dq u v c))) (τ := [(3, 1200), (4, 1300)]) (ex := .normal) (by kernel_rfl) (ai (show ((qs L1) /\ (qs L2) /\ ((Value.int .i64 (((n : Nat) : Int))) = (Value.int .i64 (((n : Nat) : Int)))) /\ (qs 0) /\ ((qI (.int .i64 (0)))) /\ ((Value.int .i64 (((n : Nat) : Int))) = (Value.int .i64 (((n : Nat) : Int)))) /\ ((Value.int .i64 (IntKind.i64.wrap (((i : Nat) : Int) + 1))) = (Value.int .i64 (((i + 1) : Nat) : Int))) /\ (qs (i + 1)) /\ (qs (i + 1)) /\ True) /\ ((flat [.l KA] = flat [.l KA]) /\ (flat [.l LA] = flat [.l LA]) /\ (qD 33 [.q qu.1, .q qu.2, .q qv.1, .q qv.2, .c (.bool qc)]) /\ ((39 = 39 /\ 13 = 13) /\ flat [.l C, .q x, .q y, .c (.bool b)] = flat [.l (C ++ flat [.q x, .q y, .c (.bool b)])]) /\ ((33 = 33 /\ 25 = 25) /\ flat [.l D, .q u.1, .q u.2, .q v.1, .q v.2, .c (.bool c)] = flat [.l (D ++ flat [.q u.1, .q u.2, .q v.1, .q v.2, .c (.bool c)])]) /\ True) from ⟨⟨rr0, rr0, rfl, rr0, rfl, rfl, congrArg (Value.int .i64) (Bk (by omega)), rr0, rr0, tt0⟩, ⟨rfl, rfl, rr0, ⟨rr0, by rw [ry]; rfl⟩, ⟨rr0, by rw [ry]; rfl⟩, tt0⟩⟩) (ai (show some (Fh L1 L2 n KA LA qu qv qc i C D x y b u v c 0) = some (Fh L1 L2 n KA LA qu qv qc i C D x y b u v c 0) from rfl) (ai (H5 L1 L2 n KA LA qu qv qc i C D x y b u v c (by omega) hC hD) (ai (show ((AK qu qv qc l) : List XV) = (AK qu qv qc l) from rfl) (ai (hl) (ai (show ((i : Nat) : Int) = ((i : Nat) : Int) /\ i < L2 from ⟨by omega, by omega⟩) (ai (show ((AC gx gy k) : List XV) = (AC gx gy k) from rfl) (ai (hk) (ai (show ((i : Nat) : Int) = ((i : Nat) : Int) /\ i < L1 from ⟨by omega, by omega⟩) (ai DV.down (ai (show decide (((i : Nat) : Int) < ((n : Nat) : Int)) = true from decide_eq_true (by omega)) tt0)))))))))))
theorem VA (L1 L2 n : Nat) (KA LA : List Value) (qu qv : F2) (qc : Bool) (C D : List Value) : Eb (tsI L1 L2 n KA LA qu qv qc n C D).aa (.exit 0) (tsE L1 L2 n KA LA qu qv qc C D).aa := by
 have hh := qh (P := prog) (X := qK _) (env := []) trivial (n := 0) (os := (oL [(23, wF)])) (fb := 0) (rd := false) (c := (ql f3 0)) (k := 23) (I := tsI L1 L2 n KA LA qu qv qc n C D) (sk := [1, 7, 10, 11, 8, 9]) (hk := [1, 18, 3, 4]) (lk := []) (ex := (.exit 0))
  (L := tsE L1 L2 n KA LA qu qv qc C D) (by kernel_rfl) (ai (show decide (((n : Nat) : Int) < ((n : Nat) : Int)) = false from decide_eq_false (by omega)) tt0)
 exact hh
end Go.Proofs.YtfbkefgoblcmpaaGreat
set_option linter.unusedSimpArgs false
set_option linter.unusedVariables false
namespace Go.Proofs.YtfbkefgoblcmpaaGreat
open Go.Ev Go.RowKit
open Tryz
def EN (x y : Fin Pp) (b : Bool) (qu qv : F2) (qc : Bool) : Nat -> LState
 | 0 => { n := 116, sl := [(11, .v (.int .i64 0)), (18, .v (.int .i64 0)), (20, .v (.int .i64 0)), (8, .v (.slice none 0 0)), (19, .p 116 0), (9, .v (.slice none 0 0)), (10, .p 18 0)], hp := [(116, .own [.q x, .q y, .c (.bool b)] 39), (18, .own [.q qu.1, .q qu.2, .q qv.1, .q qv.2, .c (.bool qc)] 33)] }
 | 1 => { n := 116, sl := [(11, .v (.int .i64 0)), (18, .v (.int .i64 0)), (20, .v (.int .i64 0)), (85, .v (.slice none 0 0)), (19, .p 116 0), (9, .v (.slice none 0 0)), (10, .p 18 0)], hp := [(116, .own [.q x, .q y, .c (.bool b)] 39), (18, .own [.q qu.1, .q qu.2, .q qv.1, .q qv.2, .c (.bool qc)] 33)] }
 | 2 => { n := 116, sl := [(11, .v (.int .i64 0)), (18, .v (.int .i64 0)), (20, .v (.int .i64 0)), (8, .v (.slice none 0 0)), (86, .ag [.q x, .q y, .c (.bool b)]), (9, .v (.slice none 0 0)), (10, .p 18 0)], hp := [(18, .own [.q qu.1, .q qu.2, .q qv.1, .q qv.2, .c (.bool qc)] 33)] }
 | 3 => { n := 116, sl := [(11, .v (.int .i64 0)), (18, .v (.int .i64 0)), (20, .v (.int .i64 0)), (85, .v (.slice none 0 0)), (86, .ag [.q x, .q y, .c (.bool b)]), (9, .v (.slice none 0 0)), (10, .p 18 0)], hp := [(18, .own [.q qu.1, .q qu.2, .q qv.1, .q qv.2, .c (.bool qc)] 33)] }
 | 6 => { n := 116, sl := [(11, .v (.int .i64 0)), (18, .v (.int .i64 0)), (20, .v (.int .i64 0)), (8, .v (.slice none 0 0)), (87, .sl 1100 0 1 1), (9, .v (.slice none 0 0)), (10, .p 18 0)], hp := [(1100, .own [.q x, .q y, .c (.bool b)] 39), (18, .own [.q qu.1, .q qu.2, .q qv.1, .q qv.2, .c (.bool qc)] 33)] }
 | 7 => { n := 116, sl := [(11, .v (.int .i64 0)), (18, .v (.int .i64 0)), (20, .v (.int .i64 0)), (85, .v (.slice none 0 0)), (87, .sl 1100 0 1 1), (9, .v (.slice none 0 0)), (10, .p 18 0)], hp := [(1100, .own [.q x, .q y, .c (.bool b)] 39), (18, .own [.q qu.1, .q qu.2, .q qv.1, .q qv.2, .c (.bool qc)] 33)] }
 | 15 => { n := 116, sl := [(11, .v (.int .i64 0)), (18, .v (.int .i64 0)), (20, .v (.int .i64 0)), (88, .sx 1200 1), (9, .v (.slice none 0 0)), (10, .p 18 0)], hp := [(1200, .gr [.q x, .q y, .c (.bool b)] 39 13), (18, .own [.q qu.1, .q qu.2, .q qv.1, .q qv.2, .c (.bool qc)] 33)] }
 | 16 => { n := 116, sl := [(11, .v (.int .i64 0)), (18, .v (.int .i64 0)), (20, .v (.int .i64 0)), (8, .v (.slice none 0 0)), (19, .p 116 0), (89, .v (.slice none 0 0)), (10, .p 18 0)], hp := [(116, .own [.q x, .q y, .c (.bool b)] 39), (18, .own [.q qu.1, .q qu.2, .q qv.1, .q qv.2, .c (.bool qc)] 33)] }
 | 17 => { n := 116, sl := [(11, .v (.int .i64 0)), (18, .v (.int .i64 0)), (20, .v (.int .i64 0)), (85, .v (.slice none 0 0)), (19, .p 116 0), (89, .v (.slice none 0 0)), (10, .p 18 0)], hp := [(116, .own [.q x, .q y, .c (.bool b)] 39), (18, .own [.q qu.1, .q qu.2, .q qv.1, .q qv.2, .c (.bool qc)] 33)] }
 | 18 => { n := 116, sl := [(11, .v (.int .i64 0)), (18, .v (.int .i64 0)), (20, .v (.int .i64 0)), (8, .v (.slice none 0 0)), (86, .ag [.q x, .q y, .c (.bool b)]), (89, .v (.slice none 0 0)), (10, .p 18 0)], hp := [(18, .own [.q qu.1, .q qu.2, .q qv.1, .q qv.2, .c (.bool qc)] 33)] }
 | 19 => { n := 116, sl := [(11, .v (.int .i64 0)), (18, .v (.int .i64 0)), (20, .v (.int .i64 0)), (85, .v (.slice none 0 0)), (86, .ag [.q x, .q y, .c (.bool b)]), (89, .v (.slice none 0 0)), (10, .p 18 0)], hp := [(18, .own [.q qu.1, .q qu.2, .q qv.1, .q qv.2, .c (.bool qc)] 33)] }
 | 22 => { n := 116, sl := [(11, .v (.int .i64 0)), (18, .v (.int .i64 0)), (20, .v (.int .i64 0)), (8, .v (.slice none 0 0)), (87, .sl 1100 0 1 1), (89, .v (.slice none 0 0)), (10, .p 18 0)], hp := [(1100, .own [.q x, .q y, .c (.bool b)] 39), (18, .own [.q qu.1, .q qu.2, .q qv.1, .q qv.2, .c (.bool qc)] 33)] }
 | 23 => { n := 116, sl := [(11, .v (.int .i64 0)), (18, .v (.int .i64 0)), (20, .v (.int .i64 0)), (85, .v (.slice none 0 0)), (87, .sl 1100 0 1 1), (89, .v (.slice none 0 0)), (10, .p 18 0)], hp := [(1100, .own [.q x, .q y, .c (.bool b)] 39), (18, .own [.q qu.1, .q qu.2, .q qv.1, .q qv.2, .c (.bool qc)] 33)] }
 | 31 => { n := 116, sl := [(11, .v (.int .i64 0)), (18, .v (.int .i64 0)), (20, .v (.int .i64 0)), (88, .sx 1200 1), (89, .v (.slice none 0 0)), (10, .p 18 0)], hp := [(1200, .gr [.q x, .q y, .c (.bool b)] 39 13), (18, .own [.q qu.1, .q qu.2, .q qv.1, .q qv.2, .c (.bool qc)] 33)] }
 | 32 => { n := 116, sl := [(11, .v (.int .i64 0)), (18, .v (.int .i64 0)), (20, .v (.int .i64 0)), (8, .v (.slice none 0 0)), (19, .p 116 0), (9, .v (.slice none 0 0)), (90, .ag [.q qu.1, .q qu.2, .q qv.1, .q qv.2, .c (.bool qc)])], hp := [(116, .own [.q x, .q y, .c (.bool b)] 39)] }
 | 33 => { n := 116, sl := [(11, .v (.int .i64 0)), (18, .v (.int .i64 0)), (20, .v (.int .i64 0)), (85, .v (.slice none 0 0)), (19, .p 116 0), (9, .v (.slice none 0 0)), (90, .ag [.q qu.1, .q qu.2, .q qv.1, .q qv.2, .c (.bool qc)])], hp := [(116, .own [.q x, .q y, .c (.bool b)] 39)] }
 | 34 => { n := 116, sl := [(11, .v (.int .i64 0)), (18, .v (.int .i64 0)), (20, .v (.int .i64 0)), (8, .v (.slice none 0 0)), (86, .ag [.q x, .q y, .c (.bool b)]), (9, .v (.slice none 0 0)), (90, .ag [.q qu.1, .q qu.2, .q qv.1, .q qv.2, .c (.bool qc)])], hp := [] }
 | 35 => { n := 116, sl := [(11, .v (.int .i64 0)), (18, .v (.int .i64 0)), (20, .v (.int .i64 0)), (85, .v (.slice none 0 0)), (86, .ag [.q x, .q y, .c (.bool b)]), (9, .v (.slice none 0 0)), (90, .ag [.q qu.1, .q qu.2, .q qv.1, .q qv.2, .c (.bool qc)])], hp := [] }
 | 38 => { n := 116, sl := [(11, .v (.int .i64 0)), (18, .v (.int .i64 0)), (20, .v (.int .i64 0)), (8, .v (.slice none 0 0)), (87, .sl 1100 0 1 1), (9, .v (.slice none 0 0)), (90, .ag [.q qu.1, .q qu.2, .q qv.1, .q qv.2, .c (.bool qc)])], hp := [(1100, .own [.q x, .q y, .c (.bool b)] 39)] }
 | 39 => { n := 116, sl := [(11, .v (.int .i64 0)), (18, .v (.int .i64 0)), (20, .v (.int .i64 0)), (85, .v (.slice none 0 0)), (87, .sl 1100 0 1 1), (9, .v (.slice none 0 0)), (90, .ag [.q qu.1, .q qu.2, .q qv.1, .q qv.2, .c (.bool qc)])], hp := [(1100, .own [.q x, .q y, .c (.bool b)] 39)] }
 | 47 => { n := 116, sl := [(11, .v (.int .i64 0)), (18, .v (.int .i64 0)), (20, .v (.int .i64 0)), (88, .sx 1200 1), (9, .v (.slice none 0 0)), (90, .ag [.q qu.1, .q qu.2, .q qv.1, .q qv.2, .c (.bool qc)])], hp := [(1200, .gr [.q x, .q y, .c (.bool b)] 39 13)] }
 | 48 => { n := 116, sl := [(11, .v (.int .i64 0)), (18, .v (.int .i64 0)), (20, .v (.int .i64 0)), (8, .v (.slice none 0 0)), (19, .p 116 0), (89, .v (.slice none 0 0)), (90, .ag [.q qu.1, .q qu.2, .q qv.1, .q qv.2, .c (.bool qc)])], hp := [(116, .own [.q x, .q y, .c (.bool b)] 39)] }
 | 49 => { n := 116, sl := [(11, .v (.int .i64 0)), (18, .v (.int .i64 0)), (20, .v (.int .i64 0)), (85, .v (.slice none 0 0)), (19, .p 116 0), (89, .v (.slice none 0 0)), (90, .ag [.q qu.1, .q qu.2, .q qv.1, .q qv.2, .c (.bool qc)])], hp := [(116, .own [.q x, .q y, .c (.bool b)] 39)] }
 | 50 => { n := 116, sl := [(11, .v (.int .i64 0)), (18, .v (.int .i64 0)), (20, .v (.int .i64 0)), (8, .v (.slice none 0 0)), (86, .ag [.q x, .q y, .c (.bool b)]), (89, .v (.slice none 0 0)), (90, .ag [.q qu.1, .q qu.2, .q qv.1, .q qv.2, .c (.bool qc)])], hp := [] }
 | 51 => { n := 116, sl := [(11, .v (.int .i64 0)), (18, .v (.int .i64 0)), (20, .v (.int .i64 0)), (85, .v (.slice none 0 0)), (86, .ag [.q x, .q y, .c (.bool b)]), (89, .v (.slice none 0 0)), (90, .ag [.q qu.1, .q qu.2, .q qv.1, .q qv.2, .c (.bool qc)])], hp := [] }
 | 54 => { n := 116, sl := [(11, .v (.int .i64 0)), (18, .v (.int .i64 0)), (20, .v (.int .i64 0)), (8, .v (.slice none 0 0)), (87, .sl 1100 0 1 1), (89, .v (.slice none 0 0)), (90, .ag [.q qu.1, .q qu.2, .q qv.1, .q qv.2, .c (.bool qc)])], hp := [(1100, .own [.q x, .q y, .c (.bool b)] 39)] }
 | 55 => { n := 116, sl := [(11, .v (.int .i64 0)), (18, .v (.int .i64 0)), (20, .v (.int .i64 0)), (85, .v (.slice none 0 0)), (87, .sl 1100 0 1 1), (89, .v (.slice none 0 0)), (90, .ag [.q qu.1, .q qu.2, .q qv.1, .q qv.2, .c (.bool qc)])], hp := [(1100, .own [.q x, .q y, .c (.bool b)] 39)] }
 | 63 => { n := 116, sl := [(11, .v (.int .i64 0)), (18, .v (.int .i64 0)), (20, .v (.int .i64 0)), (88, .sx 1200 1), (89, .v (.slice none 0 0)), (90, .ag [.q qu.1, .q qu.2, .q qv.1, .q qv.2, .c (.bool qc)])], hp := [(1200, .gr [.q x, .q y, .c (.bool b)] 39 13)] }
 | 96 => { n := 116, sl := [(11, .v (.int .i64 0)), (18, .v (.int .i64 0)), (20, .v (.int .i64 0)), (8, .v (.slice none 0 0)), (19, .p 116 0), (9, .v (.slice none 0 0)), (91, .sl 1000 0 1 1)], hp := [(116, .own [.q x, .q y, .c (.bool b)] 39), (1000, .own [.q qu.1, .q qu.2, .q qv.1, .q qv.2, .c (.bool qc)] 33)] }
 | 97 => { n := 116, sl := [(11, .v (.int .i64 0)), (18, .v (.int .i64 0)), (20, .v (.int .i64 0)), (85, .v (.slice none 0 0)), (19, .p 116 0), (9, .v (.slice none 0 0)), (91, .sl 1000 0 1 1)], hp := [(116, .own [.q x, .q y, .c (.bool b)] 39), (1000, .own [.q qu.1, .q qu.2, .q qv.1, .q qv.2, .c (.bool qc)] 33)] }
 | 98 => { n := 116, sl := [(11, .v (.int .i64 0)), (18, .v (.int .i64 0)), (20, .v (.int .i64 0)), (8, .v (.slice none 0 0)), (86, .ag [.q x, .q y, .c (.bool b)]), (9, .v (.slice none 0 0)), (91, .sl 1000 0 1 1)], hp := [(1000, .own [.q qu.1, .q qu.2, .q qv.1, .q qv.2, .c (.bool qc)] 33)] }
 | 99 => { n := 116, sl := [(11, .v (.int .i64 0)), (18, .v (.int .i64 0)), (20, .v (.int .i64 0)), (85, .v (.slice none 0 0)), (86, .ag [.q x, .q y, .c (.bool b)]), (9, .v (.slice none 0 0)), (91, .sl 1000 0 1 1)], hp := [(1000, .own [.q qu.1, .q qu.2, .q qv.1, .q qv.2, .c (.bool qc)] 33)] }
 | 102 => { n := 116, sl := [(11, .v (.int .i64 0)), (18, .v (.int .i64 0)), (20, .v (.int .i64 0)), (8, .v (.slice none 0 0)), (87, .sl 1100 0 1 1), (9, .v (.slice none 0 0)), (91, .sl 1000 0 1 1)], hp := [(1100, .own [.q x, .q y, .c (.bool b)] 39), (1000, .own [.q qu.1, .q qu.2, .q qv.1, .q qv.2, .c (.bool qc)] 33)] }
 | 103 => { n := 116, sl := [(11, .v (.int .i64 0)), (18, .v (.int .i64 0)), (20, .v (.int .i64 0)), (85, .v (.slice none 0 0)), (87, .sl 1100 0 1 1), (9, .v (.slice none 0 0)), (91, .sl 1000 0 1 1)], hp := [(1100, .own [.q x, .q y, .c (.bool b)] 39), (1000, .own [.q qu.1, .q qu.2, .q qv.1, .q qv.2, .c (.bool qc)] 33)] }
 | 111 => { n := 116, sl := [(11, .v (.int .i64 0)), (18, .v (.int .i64 0)), (20, .v (.int .i64 0)), (88, .sx 1200 1), (9, .v (.slice none 0 0)), (91, .sl 1000 0 1 1)], hp := [(1200, .gr [.q x, .q y, .c (.bool b)] 39 13), (1000, .own [.q qu.1, .q qu.2, .q qv.1, .q qv.2, .c (.bool qc)] 33)] }
 | 112 => { n := 116, sl := [(11, .v (.int .i64 0)), (18, .v (.int .i64 0)), (20, .v (.int .i64 0)), (8, .v (.slice none 0 0)), (19, .p 116 0), (89, .v (.slice none 0 0)), (91, .sl 1000 0 1 1)], hp := [(116, .own [.q x, .q y, .c (.bool b)] 39), (1000, .own [.q qu.1, .q qu.2, .q qv.1, .q qv.2, .c (.bool qc)] 33)] }
 | 113 => { n := 116, sl := [(11, .v (.int .i64 0)), (18, .v (.int .i64 0)), (20, .v (.int .i64 0)), (85, .v (.slice none 0 0)), (19, .p 116 0), (89, .v (.slice none 0 0)), (91, .sl 1000 0 1 1)], hp := [(116, .own [.q x, .q y, .c (.bool b)] 39), (1000, .own [.q qu.1, .q qu.2, .q qv.1, .q qv.2, .c (.bool qc)] 33)] }
 | 114 => { n := 116, sl := [(11, .v (.int .i64 0)), (18, .v (.int .i64 0)), (20, .v (.int .i64 0)), (8, .v (.slice none 0 0)), (86, .ag [.q x, .q y, .c (.bool b)]), (89, .v (.slice none 0 0)), (91, .sl 1000 0 1 1)], hp := [(1000, .own [.q qu.1, .q qu.2, .q qv.1, .q qv.2, .c (.bool qc)] 33)] }
 | 115 => { n := 116, sl := [(11, .v (.int .i64 0)), (18, .v (.int .i64 0)), (20, .v (.int .i64 0)), (85, .v (.slice none 0 0)), (86, .ag [.q x, .q y, .c (.bool b)]), (89, .v (.slice none 0 0)), (91, .sl 1000 0 1 1)], hp := [(1000, .own [.q qu.1, .q qu.2, .q qv.1, .q qv.2, .c (.bool qc)] 33)] }
 | 118 => { n := 116, sl := [(11, .v (.int .i64 0)), (18, .v (.int .i64 0)), (20, .v (.int .i64 0)), (8, .v (.slice none 0 0)), (87, .sl 1100 0 1 1), (89, .v (.slice none 0 0)), (91, .sl 1000 0 1 1)], hp := [(1100, .own [.q x, .q y, .c (.bool b)] 39), (1000, .own [.q qu.1, .q qu.2, .q qv.1, .q qv.2, .c (.bool qc)] 33)] }
 | 119 => { n := 116, sl := [(11, .v (.int .i64 0)), (18, .v (.int .i64 0)), (20, .v (.int .i64 0)), (85, .v (.slice none 0 0)), (87, .sl 1100 0 1 1), (89, .v (.slice none 0 0)), (91, .sl 1000 0 1 1)], hp := [(1100, .own [.q x, .q y, .c (.bool b)] 39), (1000, .own [.q qu.1, .q qu.2, .q qv.1, .q qv.2, .c (.bool qc)] 33)] }
 | 127 => { n := 116, sl := [(11, .v (.int .i64 0)), (18, .v (.int .i64 0)), (20, .v (.int .i64 0)), (88, .sx 1200 1), (89, .v (.slice none 0 0)), (91, .sl 1000 0 1 1)], hp := [(1200, .gr [.q x, .q y, .c (.bool b)] 39 13), (1000, .own [.q qu.1, .q qu.2, .q qv.1, .q qv.2, .c (.bool qc)] 33)] }
 | 255 => { n := 116, sl := [(11, .v (.int .i64 0)), (18, .v (.int .i64 0)), (20, .v (.int .i64 0)), (88, .sx 1200 1), (92, .sx 1300 1)], hp := [(1200, .gr [.q x, .q y, .c (.bool b)] 39 13), (1300, .gr [.q qu.1, .q qu.2, .q qv.1, .q qv.2, .c (.bool qc)] 33 25)] }
 | 511 => { n := 116, sl := [(11, .v (.int .i64 0)), (18, .v (.int .i64 0)), (20, .v (.int .i64 0)), (93, .tp [.v (.bool true), .v (.int .i64 0)])], hp := [] }
 | 1023 => { n := 116, sl := [(11, .v (.int .i64 0)), (18, .v (.int .i64 0)), (20, .v (.int .i64 0)), (84, .tp [.v (.bool true), .v (.int .i64 0)])], hp := [] }
 | 2047 => { n := 116, sl := [(11, .v (.int .i64 0)), (18, .v (.int .i64 0)), (20, .v (.int .i64 0)), (84, .tp [.v (.bool true), .v (.int .i64 0)]), (94, .v (.bool true))], hp := [] }
 | 3071 => { n := 116, sl := [(11, .v (.int .i64 0)), (18, .v (.int .i64 0)), (20, .v (.int .i64 0)), (84, .tp [.v (.bool true), .v (.int .i64 0)]), (95, .v (.int .i64 0))], hp := [] }
 | 4095 => { n := 116, sl := [(11, .v (.int .i64 0)), (18, .v (.int .i64 0)), (20, .v (.int .i64 0)), (94, .v (.bool true)), (95, .v (.int .i64 0))], hp := [] }
 | 6143 => { n := 116, sl := [(11, .v (.int .i64 0)), (18, .v (.int .i64 0)), (20, .v (.int .i64 0)), (84, .tp [.v (.bool true), .v (.int .i64 0)]), (21, .v (.bool true))], hp := [] }
 | 8191 => { n := 116, sl := [(11, .v (.int .i64 0)), (18, .v (.int .i64 0)), (20, .v (.int .i64 0)), (95, .v (.int .i64 0)), (21, .v (.bool true))], hp := [] }
 | _ => { n := 116, sl := [(11, .v (.int .i64 0)), (18, .v (.int .i64 0)), (20, .v (.int .i64 0)), (21, .v (.bool true)), (22, .v (.int .i64 0))], hp := [] }
def Zr (m i : Nat) : Nat := match i with | 2 => 1100 | 3 => 1200 | 6 => (match m with | 32 => 1000 | 33 => 1000 | 34 => 1000 | 35 => 1000 | 48 => 1000 | 49 => 1000 | 50 => 1000 | 51 => 1000 | _ => 1400) | 7 => 1300 | _ => 1400
def Z6 (m i : Nat) : List (Nat × Nat) := match i with | 6 => (match m with | 38 => [(1000, 1400)] | 39 => [(1000, 1400)] | 47 => [(1000, 1400)] | 54 => [(1000, 1400)] | 55 => [(1000, 1400)] | 63 => [(1000, 1400)] | _ => []) | _ => []
def YF : List (Nat × Nat) := [(14, 0), (13, 1), (13, 2), (13, 16), (13, 32), (12, 3), (12, 6), (12, 17), (12, 18), (12, 33), (12, 34), (12, 48), (12, 96), (11, 7), (11, 19), (11, 22), (11, 35), (11, 38), (11, 49), (11, 50), (11, 97), (11, 98), (11, 112), (10, 15), (10, 23), (10, 39), (10, 51), (10, 54), (10, 99), (10, 102), (10, 113), (10, 114), (9, 31), (9, 47), (9, 55), (9, 103), (9, 115), (9, 118), (8, 63), (8, 111), (8, 119), (7, 127), (6, 255), (5, 511), (4, 1023), (3, 2047), (3, 3071), (2, 4095), (2, 6143), (1, 8191), (0, 16383)]
theorem HN (x y : Fin Pp) (b : Bool) (qu qv : F2) (qc : Bool) (hK : Tells prog 10 [.rx [.q x, .q y, .c (.bool b)] 1, .rx [.q qu.1, .q qu.2, .q qv.1, .q qv.2, .c (.bool qc)] 1] (.tp [.v (.bool true), vi0 0])) : Sound prog 0 false (Cp f3 4) (EN x y b qu qv qc 0).aa .normal (EN x y b qu qv qc 16383).aa :=
 r8 (P := prog) (X := qK _) (env := [eTo 10 [([.rx [.q x, .q y, .c (.bool b)] 1, .rx [.q qu.1, .q qu.2, .q qv.1, .q qv.2, .c (.bool qc)] 1], .tp [.v (.bool true), vi0 0])]]) ⟨qf (qe hK qw), tt0⟩ (tD (P := prog) (X := qK _) (env := [eTo 10 [([.rx [.q x, .q y, .c (.bool b)] 1, .rx [.q qu.1, .q qu.2, .q qv.1, .q qv.2, .c (.bool qc)] 1], .tp [.v (.bool true), vi0 0])]]) (os := oL [(908, wO 0)]) ⟨qf (qe hK qw), tt0⟩ 0) (os := oL [(908, wO 0)]) (fb := 0) (k := 900) (S := EN x y b qu qv qc ) (kk := Zr) (tau := Z6) (Ms := YF) (full := 16383) (by kernel_rfl)
  (have hR : ∀ m, some (EN x y b qu qv qc m) = some (EN x y b qu qv qc m) := fun _ => rfl; (ai (ai (ai trivial (hR 1)) (ai (ai trivial (hR 2)) (ai (ai trivial (hR 16)) (ai (ai trivial (hR 32)) tt0)))) (ai (ai (ai trivial (hR 3)) (ai (ai trivial (hR 17)) (ai (ai trivial (hR 33)) tt0))) (ai (ai (ai trivial (hR 3)) (ai (ai trivial (hR 6)) (ai (ai trivial (hR 18)) (ai (ai trivial (hR 34)) tt0)))) (ai (ai (ai trivial (hR 17)) (ai (ai trivial (hR 18)) (ai (ai trivial (hR 48)) tt0))) (ai (ai (ai trivial (hR 33)) (ai (ai trivial (hR 34)) (ai (ai trivial (hR 48)) (ai (ai trivial (hR 96)) tt0)))) (ai (ai (ai trivial (hR 7)) (ai (ai trivial (hR 19)) (ai (ai trivial (hR 35)) tt0))) (ai (ai (ai trivial (hR 7)) (ai (ai trivial (hR 22)) (ai (ai trivial (hR 38)) tt0))) (ai (ai (ai trivial (hR 19)) (ai (ai trivial (hR 49)) tt0)) (ai (ai (ai trivial (hR 19)) (ai (ai trivial (hR 22)) (ai (ai trivial (hR 50)) tt0))) (ai (ai (ai trivial (hR 35)) (ai (ai trivial (hR 49)) (ai (ai trivial (hR 97)) tt0))) (ai (ai (ai trivial (hR 35)) (ai (ai trivial (hR 38)) (ai (ai trivial (hR 50)) (ai (ai trivial (hR 98)) tt0)))) (ai (ai (ai trivial (hR 49)) (ai (ai trivial (hR 50)) (ai (ai trivial (hR 112)) tt0))) (ai (ai (ai trivial (hR 97)) (ai (ai trivial (hR 98)) (ai (ai trivial (hR 112)) tt0))) (ai (ai (ai trivial (hR 15)) (ai (ai trivial (hR 23)) (ai (ai trivial (hR 39)) tt0))) (ai (ai (ai trivial (hR 23)) (ai (ai trivial (hR 51)) tt0)) (ai (ai (ai trivial (hR 23)) (ai (ai trivial (hR 54)) tt0)) (ai (ai (ai trivial (hR 39)) (ai (ai trivial (hR 51)) (ai (ai trivial (hR 99)) tt0))) (ai (ai (ai trivial (hR 39)) (ai (ai trivial (hR 54)) (ai (ai trivial (show (((qI (.int .i64 (0)))) /\ ((qI (.int .i64 (0)))) /\ ((qI (.int .i64 (0)))) /\ ((Value.slice none 0 0) = (Value.slice none 0 0)) /\ (true = true /\ 0 = 0 /\ 1 = 1 /\ 1 = 1) /\ ((Value.slice none 0 0) = (Value.slice none 0 0)) /\ (true = true /\ 0 = 0 /\ 1 = 1 /\ 1 = 1) /\ True) /\ ((qD 39 [.q x, .q y, .c (.bool b)]) /\ (qD 33 [.q qu.1, .q qu.2, .q qv.1, .q qv.2, .c (.bool qc)]) /\ True) from ⟨⟨rfl, rfl, rfl, rfl, ⟨rfl, rfl, rfl, rfl⟩, rfl, ⟨rfl, rfl, rfl, rfl⟩, tt0⟩, ⟨rr0, rr0, tt0⟩⟩)) tt0))) (ai (ai (ai trivial (hR 51)) (ai (ai trivial (hR 113)) tt0)) (ai (ai (ai trivial (hR 51)) (ai (ai trivial (hR 54)) (ai (ai trivial (hR 114)) tt0))) (ai (ai (ai trivial (hR 99)) (ai (ai trivial (hR 113)) tt0)) (ai (ai (ai trivial (hR 99)) (ai (ai trivial (hR 102)) (ai (ai trivial (hR 114)) tt0))) (ai (ai (ai trivial (hR 113)) (ai (ai trivial (hR 114)) tt0)) (ai (ai (ai trivial (hR 31)) (ai (ai trivial (hR 47)) tt0)) (ai (ai (ai trivial (hR 31)) (ai (ai trivial (hR 55)) tt0)) (ai (ai (ai trivial (hR 47)) (ai (ai trivial (hR 55)) (ai (ai trivial (show (((qI (.int .i64 (0)))) /\ ((qI (.int .i64 (0)))) /\ ((qI (.int .i64 (0)))) /\ ((Value.slice none 0 0) = (Value.slice none 0 0)) /\ (true = true /\ 0 = 0 /\ 1 = 1 /\ 1 = 1) /\ ((Value.slice none 0 0) = (Value.slice none 0 0)) /\ (true = true /\ 0 = 0 /\ 1 = 1 /\ 1 = 1) /\ True) /\ ((qD 39 [.q x, .q y, .c (.bool b)]) /\ (qD 33 [.q qu.1, .q qu.2, .q qv.1, .q qv.2, .c (.bool qc)]) /\ True) from ⟨⟨rfl, rfl, rfl, rfl, ⟨rfl, rfl, rfl, rfl⟩, rfl, ⟨rfl, rfl, rfl, rfl⟩, tt0⟩, ⟨rr0, rr0, tt0⟩⟩)) tt0))) (ai (ai (ai trivial (hR 55)) (ai (ai trivial (hR 115)) tt0)) (ai (ai (ai trivial (hR 55)) (ai (ai trivial (show (((qI (.int .i64 (0)))) /\ ((qI (.int .i64 (0)))) /\ ((qI (.int .i64 (0)))) /\ ((Value.slice none 0 0) = (Value.slice none 0 0)) /\ (true = true /\ 0 = 0 /\ 1 = 1 /\ 1 = 1) /\ ((Value.slice none 0 0) = (Value.slice none 0 0)) /\ (true = true /\ 0 = 0 /\ 1 = 1 /\ 1 = 1) /\ True) /\ ((qD 39 [.q x, .q y, .c (.bool b)]) /\ (qD 33 [.q qu.1, .q qu.2, .q qv.1, .q qv.2, .c (.bool qc)]) /\ True) from ⟨⟨rfl, rfl, rfl, rfl, ⟨rfl, rfl, rfl, rfl⟩, rfl, ⟨rfl, rfl, rfl, rfl⟩, tt0⟩, ⟨rr0, rr0, tt0⟩⟩)) tt0)) (ai (ai (ai trivial (hR 103)) (ai (ai trivial (hR 115)) tt0)) (ai (ai (ai trivial (hR 103)) (ai (ai trivial (hR 118)) tt0)) (ai (ai (ai trivial (hR 115)) tt0) (ai (ai (ai trivial (hR 115)) (ai (ai trivial (hR 118)) tt0)) (ai (ai (ai trivial (hR 63)) tt0) (ai (ai (ai trivial (hR 63)) (ai (ai trivial (show (((qI (.int .i64 (0)))) /\ ((qI (.int .i64 (0)))) /\ ((qI (.int .i64 (0)))) /\ (qs 1) /\ ((Value.slice none 0 0) = (Value.slice none 0 0)) /\ (true = true /\ 0 = 0 /\ 1 = 1 /\ 1 = 1) /\ True) /\ (((39 = 39 /\ 13 = 13) /\ flat [.q x, .q y, .c (.bool b)] = flat [.q x, .q y, .c (.bool b)]) /\ (qD 33 [.q qu.1, .q qu.2, .q qv.1, .q qv.2, .c (.bool qc)]) /\ True) from ⟨⟨rfl, rfl, rfl, rr0, rfl, ⟨rfl, rfl, rfl, rfl⟩, tt0⟩, ⟨⟨rr0, rfl⟩, rr0, tt0⟩⟩)) tt0)) (ai (ai (ai trivial (hR 63)) (ai (ai trivial (show (((qI (.int .i64 (0)))) /\ ((qI (.int .i64 (0)))) /\ ((qI (.int .i64 (0)))) /\ ((Value.slice none 0 0) = (Value.slice none 0 0)) /\ (true = true /\ 0 = 0 /\ 1 = 1 /\ 1 = 1) /\ ((Value.slice none 0 0) = (Value.slice none 0 0)) /\ (true = true /\ 0 = 0 /\ 1 = 1 /\ 1 = 1) /\ True) /\ ((qD 39 [.q x, .q y, .c (.bool b)]) /\ (qD 33 [.q qu.1, .q qu.2, .q qv.1, .q qv.2, .c (.bool qc)]) /\ True) from ⟨⟨rfl, rfl, rfl, rfl, ⟨rfl, rfl, rfl, rfl⟩, rfl, ⟨rfl, rfl, rfl, rfl⟩, tt0⟩, ⟨rr0, rr0, tt0⟩⟩)) tt0)) (ai (ai (ai trivial (hR 111)) (ai (ai trivial (hR 119)) tt0)) (ai (ai (ai trivial (hR 119)) tt0) (ai (ai (ai trivial (hR 119)) tt0) (ai (ai (ai trivial (show (((qI (.int .i64 (0)))) /\ ((qI (.int .i64 (0)))) /\ ((qI (.int .i64 (0)))) /\ (qs 1) /\ ((Value.slice none 0 0) = (Value.slice none 0 0)) /\ (true = true /\ 0 = 0 /\ 1 = 1 /\ 1 = 1) /\ True) /\ (((39 = 39 /\ 13 = 13) /\ flat [.q x, .q y, .c (.bool b)] = flat [.q x, .q y, .c (.bool b)]) /\ (qD 33 [.q qu.1, .q qu.2, .q qv.1, .q qv.2, .c (.bool qc)]) /\ True) from ⟨⟨rfl, rfl, rfl, rr0, rfl, ⟨rfl, rfl, rfl, rfl⟩, tt0⟩, ⟨⟨rr0, rfl⟩, rr0, tt0⟩⟩)) tt0) (ai (ai (ai trivial (hR 127)) tt0) (ai (ai (ai trivial (hR 127)) tt0) (ai (ai (ai trivial (hR 255)) tt0) (ai (ai (ai (ai (show ([.rx [.q x, .q y, .c (.bool b)] 1, .rx [.q qu.1, .q qu.2, .q qv.1, .q qv.2, .c (.bool qc)] 1] : List XV) = [.rx [.q x, .q y, .c (.bool b)] 1, .rx [.q qu.1, .q qu.2, .q qv.1, .q qv.2, .c (.bool qc)] 1] from rfl) tt0) (hR 511)) tt0) (ai (ai (ai trivial (hR 1023)) tt0) (ai (ai (ai trivial (hR 2047)) (ai (ai trivial (hR 3071)) tt0)) (ai (ai (ai trivial (hR 4095)) (ai (ai trivial (hR 6143)) tt0)) (ai (ai (ai trivial (hR 4095)) tt0) (ai (ai (ai trivial (hR 8191)) tt0) (ai (ai (ai trivial (hR 8191)) tt0) (ai (ai (ai trivial (hR 16383)) tt0) (ai trivial
  tt0))))))))))))))))))))))))))))))))))))))))))))))))))))
def Eg (n : Nat) (C D : List Value) (x y : Fin Pp) (b : Bool) (qu qv : F2) (qc : Bool) : Nat -> LState
 | 0 => { n := 116, sl := [(11, .v (.int .i64 0)), (18, .v (.int .i64 0)), (20, .v (.int .i64 0)), (8, .sx 3 n), (19, .p 116 0), (9, .sx 4 n), (10, .p 18 0)], hp := [(3, .gr [.l C] 39 13), (116, .own [.q x, .q y, .c (.bool b)] 39), (4, .gr [.l D] 33 25), (18, .own [.q qu.1, .q qu.2, .q qv.1, .q qv.2, .c (.bool qc)] 33)] }
 | 1 => { n := 116, sl := [(11, .v (.int .i64 0)), (18, .v (.int .i64 0)), (20, .v (.int .i64 0)), (85, .sx 3 n), (19, .p 116 0), (9, .sx 4 n), (10, .p 18 0)], hp := [(3, .gr [.l C] 39 13), (116, .own [.q x, .q y, .c (.bool b)] 39), (4, .gr [.l D] 33 25), (18, .own [.q qu.1, .q qu.2, .q qv.1, .q qv.2, .c (.bool qc)] 33)] }
 | 2 => { n := 116, sl := [(11, .v (.int .i64 0)), (18, .v (.int .i64 0)), (20, .v (.int .i64 0)), (8, .sx 3 n), (86, .ag [.q x, .q y, .c (.bool b)]), (9, .sx 4 n), (10, .p 18 0)], hp := [(3, .gr [.l C] 39 13), (4, .gr [.l D] 33 25), (18, .own [.q qu.1, .q qu.2, .q qv.1, .q qv.2, .c (.bool qc)] 33)] }
 | 3 => { n := 116, sl := [(11, .v (.int .i64 0)), (18, .v (.int .i64 0)), (20, .v (.int .i64 0)), (85, .sx 3 n), (86, .ag [.q x, .q y, .c (.bool b)]), (9, .sx 4 n), (10, .p 18 0)], hp := [(3, .gr [.l C] 39 13), (4, .gr [.l D] 33 25), (18, .own [.q qu.1, .q qu.2, .q qv.1, .q qv.2, .c (.bool qc)] 33)] }
 | 6 => { n := 116, sl := [(11, .v (.int .i64 0)), (18, .v (.int .i64 0)), (20, .v (.int .i64 0)), (8, .sx 3 n), (87, .sl 1100 0 1 1), (9, .sx 4 n), (10, .p 18 0)], hp := [(3, .gr [.l C] 39 13), (1100, .own [.q x, .q y, .c (.bool b)] 39), (4, .gr [.l D] 33 25), (18, .own [.q qu.1, .q qu.2, .q qv.1, .q qv.2, .c (.bool qc)] 33)] }
 | 7 => { n := 116, sl := [(11, .v (.int .i64 0)), (18, .v (.int .i64 0)), (20, .v (.int .i64 0)), (85, .sx 3 n), (87, .sl 1100 0 1 1), (9, .sx 4 n), (10, .p 18 0)], hp := [(3, .gr [.l C] 39 13), (1100, .own [.q x, .q y, .c (.bool b)] 39), (4, .gr [.l D] 33 25), (18, .own [.q qu.1, .q qu.2, .q qv.1, .q qv.2, .c (.bool qc)] 33)] }
 | 15 => { n := 116, sl := [(11, .v (.int .i64 0)), (18, .v (.int .i64 0)), (20, .v (.int .i64 0)), (88, .sx 1200 (n + 1)), (9, .sx 4 n), (10, .p 18 0)], hp := [(1200, .gr [.l C, .q x, .q y, .c (.bool b)] 39 13), (4, .gr [.l D] 33 25), (18, .own [.q qu.1, .q qu.2, .q qv.1, .q qv.2, .c (.bool qc)] 33)] }
 | 16 => { n := 116, sl := [(11, .v (.int .i64 0)), (18, .v (.int .i64 0)), (20, .v (.int .i64 0)), (8, .sx 3 n), (19, .p 116 0), (89, .sx 4 n), (10, .p 18 0)], hp := [(3, .gr [.l C] 39 13), (116, .own [.q x, .q y, .c (.bool b)] 39), (4, .gr [.l D] 33 25), (18, .own [.q qu.1, .q qu.2, .q qv.1, .q qv.2, .c (.bool qc)] 33)] }
 | 17 => { n := 116, sl := [(11, .v (.int .i64 0)), (18, .v (.int .i64 0)), (20, .v (.int .i64 0)), (85, .sx 3 n), (19, .p 116 0), (89, .sx 4 n), (10, .p 18 0)], hp := [(3, .gr [.l C] 39 13), (116, .own [.q x, .q y, .c (.bool b)] 39), (4, .gr [.l D] 33 25), (18, .own [.q qu.1, .q qu.2, .q qv.1, .q qv.2, .c (.bool qc)] 33)] }
 | 18 => { n := 116, sl := [(11, .v (.int .i64 0)), (18, .v (.int .i64 0)), (20, .v (.int .i64 0)), (8, .sx 3 n), (86, .ag [.q x, .q y, .c (.bool b)]), (89, .sx 4 n), (10, .p 18 0)], hp := [(3, .gr [.l C] 39 13), (4, .gr [.l D] 33 25), (18, .own [.q qu.1, .q qu.2, .q qv.1, .q qv.2, .c (.bool qc)] 33)] }
 | 19 => { n := 116, sl := [(11, .v (.int .i64 0)), (18, .v (.int .i64 0)), (20, .v (.int .i64 0)), (85, .sx 3 n), (86, .ag [.q x, .q y, .c (.bool b)]), (89, .sx 4 n), (10, .p 18 0)], hp := [(3, .gr [.l C] 39 13), (4, .gr [.l D] 33 25), (18, .own [.q qu.1, .q qu.2, .q qv.1, .q qv.2, .c (.bool qc)] 33)] }
 | 22 => { n := 116, sl := [(11, .v (.int .i64 0)), (18, .v (.int .i64 0)), (20, .v (.int .i64 0)), (8, .sx 3 n), (87, .sl 1100 0 1 1), (89, .sx 4 n), (10, .p 18 0)], hp := [(3, .gr [.l C] 39 13), (1100, .own [.q x, .q y, .c (.bool b)] 39), (4, .gr [.l D] 33 25), (18, .own [.q qu.1, .q qu.2, .q qv.1, .q qv.2, .c (.bool qc)] 33)] }
 | 23 => { n := 116, sl := [(11, .v (.int .i64 0)), (18, .v (.int .i64 0)), (20, .v (.int .i64 0)), (85, .sx 3 n), (87, .sl 1100 0 1 1), (89, .sx 4 n), (10, .p 18 0)], hp := [(3, .gr [.l C] 39 13), (1100, .own [.q x, .q y, .c (.bool b)] 39), (4, .gr [.l D] 33 25), (18, .own [.q qu.1, .q qu.2, .q qv.1, .q qv.2, .c (.bool qc)] 33)] }
 | 31 => { n := 116, sl := [(11, .v (.int .i64 0)), (18, .v (.int .i64 0)), (20, .v (.int .i64 0)), (88, .sx 1200 (n + 1)), (89, .sx 4 n), (10, .p 18 0)], hp := [(1200, .gr [.l C, .q x, .q y, .c (.bool b)] 39 13), (4, .gr [.l D] 33 25), (18, .own [.q qu.1, .q qu.2, .q qv.1, .q qv.2, .c (.bool qc)] 33)] }
 | 32 => { n := 116, sl := [(11, .v (.int .i64 0)), (18, .v (.int .i64 0)), (20, .v (.int .i64 0)), (8, .sx 3 n), (19, .p 116 0), (9, .sx 4 n), (90, .ag [.q qu.1, .q qu.2, .q qv.1, .q qv.2, .c (.bool qc)])], hp := [(3, .gr [.l C] 39 13), (116, .own [.q x, .q y, .c (.bool b)] 39), (4, .gr [.l D] 33 25)] }
 | 33 => { n := 116, sl := [(11, .v (.int .i64 0)), (18, .v (.int .i64 0)), (20, .v (.int .i64 0)), (85, .sx 3 n), (19, .p 116 0), (9, .sx 4 n), (90, .ag [.q qu.1, .q qu.2, .q qv.1, .q qv.2, .c (.bool qc)])], hp := [(3, .gr [.l C] 39 13), (116, .own [.q x, .q y, .c (.bool b)] 39), (4, .gr [.l D] 33 25)] }
 | 34 => { n := 116, sl := [(11, .v (.int .i64 0)), (18, .v (.int .i64 0)), (20, .v (.int .i64 0)), (8, .sx 3 n), (86, .ag [.q x, .q y, .c (.bool b)]), (9, .sx 4 n), (90, .ag [.q qu.1, .q qu.2, .q qv.1, .q qv.2, .c (.bool qc)])], hp := [(3, .gr [.l C] 39 13), (4, .gr [.l D] 33 25)] }
 | 35 => { n := 116, sl := [(11, .v (.int .i64 0)), (18, .v (.int .i64 0)), (20, .v (.int .i64 0)), (85, .sx 3 n), (86, .ag [.q x, .q y, .c (.bool b)]), (9, .sx 4 n), (90, .ag [.q qu.1, .q qu.2, .q qv.1, .q qv.2, .c (.bool qc)])], hp := [(3, .gr [.l C] 39 13), (4, .gr [.l D] 33 25)] }
 | 38 => { n := 116, sl := [(11, .v (.int .i64 0)), (18, .v (.int .i64 0)), (20, .v (.int .i64 0)), (8, .sx 3 n), (87, .sl 1100 0 1 1), (9, .sx 4 n), (90, .ag [.q qu.1, .q qu.2, .q qv.1, .q qv.2, .c (.bool qc)])], hp := [(3, .gr [.l C] 39 13), (1100, .own [.q x, .q y, .c (.bool b)] 39), (4, .gr [.l D] 33 25)] }
 | 39 => { n := 116, sl := [(11, .v (.int .i64 0)), (18, .v (.int .i64 0)), (20, .v (.int .i64 0)), (85, .sx 3 n), (87, .sl 1100 0 1 1), (9, .sx 4 n), (90, .ag [.q qu.1, .q qu.2, .q qv.1, .q qv.2, .c (.bool qc)])], hp := [(3, .gr [.l C] 39 13), (1100, .own [.q x, .q y, .c (.bool b)] 39), (4, .gr [.l D] 33 25)] }
 | 47 => { n := 116, sl := [(11, .v (.int .i64 0)), (18, .v (.int .i64 0)), (20, .v (.int .i64 0)), (88, .sx 1200 (n + 1)), (9, .sx 4 n), (90, .ag [.q qu.1, .q qu.2, .q qv.1, .q qv.2, .c (.bool qc)])], hp := [(1200, .gr [.l C, .q x, .q y, .c (.bool b)] 39 13), (4, .gr [.l D] 33 25)] }
 | 48 => { n := 116, sl := [(11, .v (.int .i64 0)), (18, .v (.int .i64 0)), (20, .v (.int .i64 0)), (8, .sx 3 n), (19, .p 116 0), (89, .sx 4 n), (90, .ag [.q qu.1, .q qu.2, .q qv.1, .q qv.2, .c (.bool qc)])], hp := [(3, .gr [.l C] 39 13), (116, .own [.q x, .q y, .c (.bool b)] 39), (4, .gr [.l D] 33 25)] }
 | 49 => { n := 116, sl := [(11, .v (.int .i64 0)), (18, .v (.int .i64 0)), (20, .v (.int .i64 0)), (85, .sx 3 n), (19, .p 116 0), (89, .sx 4 n), (90, .ag [.q qu.1, .q qu.2, .q qv.1, .q qv.2, .c (.bool qc)])], hp := [(3, .gr [.l C] 39 13), (116, .own [.q x, .q y, .c (.bool b)] 39), (4, .gr [.l D] 33 25)] }
 | 50 => { n := 116, sl := [(11, .v (.int .i64 0)), (18, .v (.int .i64 0)), (20, .v (.int .i64 0)), (8, .sx 3 n), (86, .ag [.q x, .q y, .c (.bool b)]), (89, .sx 4 n), (90, .ag [.q qu.1, .q qu.2, .q qv.1, .q qv.2, .c (.bool qc)])], hp := [(3, .gr [.l C] 39 13), (4, .gr [.l D] 33 25)] }
 | 51 => { n := 116, sl := [(11, .v (.int .i64 0)), (18, .v (.int .i64 0)), (20, .v (.int .i64 0)), (85, .sx 3 n), (86, .ag [.q x, .q y, .c (.bool b)]), (89, .sx 4 n), (90, .ag [.q qu.1, .q qu.2, .q qv.1, .q qv.2, .c (.bool qc)])], hp := [(3, .gr [.l C] 39 13), (4, .gr [.l D] 33 25)] }
 | 54 => { n := 116, sl := [(11, .v (.int .i64 0)), (18, .v (.int .i64 0)), (20, .v (.int .i64 0)), (8, .sx 3 n), (87, .sl 1100 0 1 1), (89, .sx 4 n), (90, .ag [.q qu.1, .q qu.2, .q qv.1, .q qv.2, .c (.bool qc)])], hp := [(3, .gr [.l C] 39 13), (1100, .own [.q x, .q y, .c (.bool b)] 39), (4, .gr [.l D] 33 25)] }
 | 55 => { n := 116, sl := [(11, .v (.int .i64 0)), (18, .v (.int .i64 0)), (20, .v (.int .i64 0)), (85, .sx 3 n), (87, .sl 1100 0 1 1), (89, .sx 4 n), (90, .ag [.q qu.1, .q qu.2, .q qv.1, .q qv.2, .c (.bool qc)])], hp := [(3, .gr [.l C] 39 13), (1100, .own [.q x, .q y, .c (.bool b)] 39), (4, .gr [.l D] 33 25)] }
 | 63 => { n := 116, sl := [(11, .v (.int .i64 0)), (18, .v (.int .i64 0)), (20, .v (.int .i64 0)), (88, .sx 1200 (n + 1)), (89, .sx 4 n), (90, .ag [.q qu.1, .q qu.2, .q qv.1, .q qv.2, .c (.bool qc)])], hp := [(1200, .gr [.l C, .q x, .q y, .c (.bool b)] 39 13), (4, .gr [.l D] 33 25)] }
 | 96 => { n := 116, sl := [(11, .v (.int .i64 0)), (18, .v (.int .i64 0)), (20, .v (.int .i64 0)), (8, .sx 3 n), (19, .p 116 0), (9, .sx 4 n), (91, .sl 1000 0 1 1)], hp := [(3, .gr [.l C] 39 13), (116, .own [.q x, .q y, .c (.bool b)] 39), (4, .gr [.l D] 33 25), (1000, .own [.q qu.1, .q qu.2, .q qv.1, .q qv.2, .c (.bool qc)] 33)] }
 | 97 => { n := 116, sl := [(11, .v (.int .i64 0)), (18, .v (.int .i64 0)), (20, .v (.int .i64 0)), (85, .sx 3 n), (19, .p 116 0), (9, .sx 4 n), (91, .sl 1000 0 1 1)], hp := [(3, .gr [.l C] 39 13), (116, .own [.q x, .q y, .c (.bool b)] 39), (4, .gr [.l D] 33 25), (1000, .own [.q qu.1, .q qu.2, .q qv.1, .q qv.2, .c (.bool qc)] 33)] }
 | 98 => { n := 116, sl := [(11, .v (.int .i64 0)), (18, .v (.int .i64 0)), (20, .v (.int .i64 0)), (8, .sx 3 n), (86, .ag [.q x, .q y, .c (.bool b)]), (9, .sx 4 n), (91, .sl 1000 0 1 1)], hp := [(3, .gr [.l C] 39 13), (4, .gr [.l D] 33 25), (1000, .own [.q qu.1, .q qu.2, .q qv.1, .q qv.2, .c (.bool qc)] 33)] }
 | 99 => { n := 116, sl := [(11, .v (.int .i64 0)), (18, .v (.int .i64 0)), (20, .v (.int .i64 0)), (85, .sx 3 n), (86, .ag [.q x, .q y, .c (.bool b)]), (9, .sx 4 n), (91, .sl 1000 0 1 1)], hp := [(3, .gr [.l C] 39 13), (4, .gr [.l D] 33 25), (1000, .own [.q qu.1, .q qu.2, .q qv.1, .q qv.2, .c (.bool qc)] 33)] }
 | 102 => { n := 116, sl := [(11, .v (.int .i64 0)), (18, .v (.int .i64 0)), (20, .v (.int .i64 0)), (8, .sx 3 n), (87, .sl 1100 0 1 1), (9, .sx 4 n), (91, .sl 1000 0 1 1)], hp := [(3, .gr [.l C] 39 13), (1100, .own [.q x, .q y, .c (.bool b)] 39), (4, .gr [.l D] 33 25), (1000, .own [.q qu.1, .q qu.2, .q qv.1, .q qv.2, .c (.bool qc)] 33)] }
 | 103 => { n := 116, sl := [(11, .v (.int .i64 0)), (18, .v (.int .i64 0)), (20, .v (.int .i64 0)), (85, .sx 3 n), (87, .sl 1100 0 1 1), (9, .sx 4 n), (91, .sl 1000 0 1 1)], hp := [(3, .gr [.l C] 39 13), (1100, .own [.q x, .q y, .c (.bool b)] 39), (4, .gr [.l D] 33 25), (1000, .own [.q qu.1, .q qu.2, .q qv.1, .q qv.2, .c (.bool qc)] 33)] }
 | 111 => { n := 116, sl := [(11, .v (.int .i64 0)), (18, .v (.int .i64 0)), (20, .v (.int .i64 0)), (88, .sx 1200 (n + 1)), (9, .sx 4 n), (91, .sl 1000 0 1 1)], hp := [(1200, .gr [.l C, .q x, .q y, .c (.bool b)] 39 13), (4, .gr [.l D] 33 25), (1000, .own [.q qu.1, .q qu.2, .q qv.1, .q qv.2, .c (.bool qc)] 33)] }
 | 112 => { n := 116, sl := [(11, .v (.int .i64 0)), (18, .v (.int .i64 0)), (20, .v (.int .i64 0)), (8, .sx 3 n), (19, .p 116 0), (89, .sx 4 n), (91, .sl 1000 0 1 1)], hp := [(3, .gr [.l C] 39 13), (116, .own [.q x, .q y, .c (.bool b)] 39), (4, .gr [.l D] 33 25), (1000, .own [.q qu.1, .q qu.2, .q qv.1, .q qv.2, .c (.bool qc)] 33)] }
 | 113 => { n := 116, sl := [(11, .v (.int .i64 0)), (18, .v (.int .i64 0)), (20, .v (.int .i64 0)), (85, .sx 3 n), (19, .p 116 0), (89, .sx 4 n), (91, .sl 1000 0 1 1)], hp := [(3, .gr [.l C] 39 13), (116, .own [.q x, .q y, .c (.bool b)] 39), (4, .gr [.l D] 33 25), (1000, .own [.q qu.1, .q qu.2, .q qv.1, .q qv.2, .c (.bool qc)] 33)] }
 | 114 => { n := 116, sl := [(11, .v (.int .i64 0)), (18, .v (.int .i64 0)), (20, .v (.int .i64 0)), (8, .sx 3 n), (86, .ag [.q x, .q y, .c (.bool b)]), (89, .sx 4 n), (91, .sl 1000 0 1 1)], hp := [(3, .gr [.l C] 39 13), (4, .gr [.l D] 33 25), (1000, .own [.q qu.1, .q qu.2, .q qv.1, .q qv.2, .c (.bool qc)] 33)] }
 | 115 => { n := 116, sl := [(11, .v (.int .i64 0)), (18, .v (.int .i64 0)), (20, .v (.int .i64 0)), (85, .sx 3 n), (86, .ag [.q x, .q y, .c (.bool b)]), (89, .sx 4 n), (91, .sl 1000 0 1 1)], hp := [(3, .gr [.l C] 39 13), (4, .gr [.l D] 33 25), (1000, .own [.q qu.1, .q qu.2, .q qv.1, .q qv.2, .c (.bool qc)] 33)] }
 | 118 => { n := 116, sl := [(11, .v (.int .i64 0)), (18, .v (.int .i64 0)), (20, .v (.int .i64 0)), (8, .sx 3 n), (87, .sl 1100 0 1 1), (89, .sx 4 n), (91, .sl 1000 0 1 1)], hp := [(3, .gr [.l C] 39 13), (1100, .own [.q x, .q y, .c (.bool b)] 39), (4, .gr [.l D] 33 25), (1000, .own [.q qu.1, .q qu.2, .q qv.1, .q qv.2, .c (.bool qc)] 33)] }
 | 119 => { n := 116, sl := [(11, .v (.int .i64 0)), (18, .v (.int .i64 0)), (20, .v (.int .i64 0)), (85, .sx 3 n), (87, .sl 1100 0 1 1), (89, .sx 4 n), (91, .sl 1000 0 1 1)], hp := [(3, .gr [.l C] 39 13), (1100, .own [.q x, .q y, .c (.bool b)] 39), (4, .gr [.l D] 33 25), (1000, .own [.q qu.1, .q qu.2, .q qv.1, .q qv.2, .c (.bool qc)] 33)] }
 | 127 => { n := 116, sl := [(11, .v (.int .i64 0)), (18, .v (.int .i64 0)), (20, .v (.int .i64 0)), (88, .sx 1200 (n + 1)), (89, .sx 4 n), (91, .sl 1000 0 1 1)], hp := [(1200, .gr [.l C, .q x, .q y, .c (.bool b)] 39 13), (4, .gr [.l D] 33 25), (1000, .own [.q qu.1, .q qu.2, .q qv.1, .q qv.2, .c (.bool qc)] 33)] }
 | 255 => { n := 116, sl := [(11, .v (.int .i64 0)), (18, .v (.int .i64 0)), (20, .v (.int .i64 0)), (88, .sx 1200 (n + 1)), (92, .sx 1300 (n + 1))], hp := [(1200, .gr [.l C, .q x, .q y, .c (.bool b)] 39 13), (1300, .gr [.l D, .q qu.1, .q qu.2, .q qv.1, .q qv.2, .c (.bool qc)] 33 25)] }
 | 511 => { n := 116, sl := [(11, .v (.int .i64 0)), (18, .v (.int .i64 0)), (20, .v (.int .i64 0)), (93, .tp [.v (.bool true), .v (.int .i64 0)])], hp := [] }
 | 1023 => { n := 116, sl := [(11, .v (.int .i64 0)), (18, .v (.int .i64 0)), (20, .v (.int .i64 0)), (84, .tp [.v (.bool true), .v (.int .i64 0)])], hp := [] }
 | 2047 => { n := 116, sl := [(11, .v (.int .i64 0)), (18, .v (.int .i64 0)), (20, .v (.int .i64 0)), (84, .tp [.v (.bool true), .v (.int .i64 0)]), (94, .v (.bool true))], hp := [] }
 | 3071 => { n := 116, sl := [(11, .v (.int .i64 0)), (18, .v (.int .i64 0)), (20, .v (.int .i64 0)), (84, .tp [.v (.bool true), .v (.int .i64 0)]), (95, .v (.int .i64 0))], hp := [] }
 | 4095 => { n := 116, sl := [(11, .v (.int .i64 0)), (18, .v (.int .i64 0)), (20, .v (.int .i64 0)), (94, .v (.bool true)), (95, .v (.int .i64 0))], hp := [] }
 | 6143 => { n := 116, sl := [(11, .v (.int .i64 0)), (18, .v (.int .i64 0)), (20, .v (.int .i64 0)), (84, .tp [.v (.bool true), .v (.int .i64 0)]), (21, .v (.bool true))], hp := [] }
 | 8191 => { n := 116, sl := [(11, .v (.int .i64 0)), (18, .v (.int .i64 0)), (20, .v (.int .i64 0)), (95, .v (.int .i64 0)), (21, .v (.bool true))], hp := [] }
 | _ => { n := 116, sl := [(11, .v (.int .i64 0)), (18, .v (.int .i64 0)), (20, .v (.int .i64 0)), (21, .v (.bool true)), (22, .v (.int .i64 0))], hp := [] }
def aab (m i : Nat) : Nat := match i with | 2 => 1100 | 3 => 1200 | 6 => (match m with | 32 => 1000 | 33 => 1000 | 34 => 1000 | 35 => 1000 | 48 => 1000 | 49 => 1000 | 50 => 1000 | 51 => 1000 | _ => 1400) | 7 => 1300 | _ => 1400
def ZN (m i : Nat) : List (Nat × Nat) := match i with | 6 => (match m with | 38 => [(1000, 1400)] | 39 => [(1000, 1400)] | 47 => [(1000, 1400)] | 54 => [(1000, 1400)] | 55 => [(1000, 1400)] | 63 => [(1000, 1400)] | _ => []) | _ => []
def WU : List (Nat × Nat) := [(14, 0), (13, 1), (13, 2), (13, 16), (13, 32), (12, 3), (12, 6), (12, 17), (12, 18), (12, 33), (12, 34), (12, 48), (12, 96), (11, 7), (11, 19), (11, 22), (11, 35), (11, 38), (11, 49), (11, 50), (11, 97), (11, 98), (11, 112), (10, 15), (10, 23), (10, 39), (10, 51), (10, 54), (10, 99), (10, 102), (10, 113), (10, 114), (9, 31), (9, 47), (9, 55), (9, 103), (9, 115), (9, 118), (8, 63), (8, 111), (8, 119), (7, 127), (6, 255), (5, 511), (4, 1023), (3, 2047), (3, 3071), (2, 4095), (2, 6143), (1, 8191), (0, 16383)]
theorem HW (n : Nat) (C D : List Value) (x y : Fin Pp) (b : Bool) (qu qv : F2) (qc : Bool) (hi : n < 1000) (hC : C.length = n * 13) (hD : D.length = n * 25) (hK : Tells prog 10 [.rx [.l C, .q x, .q y, .c (.bool b)] (n + 1), .rx [.l D, .q qu.1, .q qu.2, .q qv.1, .q qv.2, .c (.bool qc)] (n + 1)] (.tp [.v (.bool true), vi0 0])) : Sound prog 0 false (Cp f3 4) (Eg n C D x y b qu qv qc 0).aa .normal (Eg n C D x y b qu qv qc 16383).aa :=
 r8 (P := prog) (X := qK _) (env := [eTo 10 [([.rx [.l C, .q x, .q y, .c (.bool b)] (n + 1), .rx [.l D, .q qu.1, .q qu.2, .q qv.1, .q qv.2, .c (.bool qc)] (n + 1)], .tp [.v (.bool true), vi0 0])]]) ⟨qf (qe hK qw), tt0⟩ (tD (P := prog) (X := qK _) (env := [eTo 10 [([.rx [.l C, .q x, .q y, .c (.bool b)] (n + 1), .rx [.l D, .q qu.1, .q qu.2, .q qv.1, .q qv.2, .c (.bool qc)] (n + 1)], .tp [.v (.bool true), vi0 0])]]) (os := oL [(903, { ch := 0, hi := fun _ => 0, ex := 1 }), (907, { ch := 0, hi := fun _ => 0, ex := 1 }), (908, wO 0)]) ⟨qf (qe hK qw), tt0⟩ 0) (os := oL [(903, { ch := 0, hi := fun _ => 0, ex := 1 }), (907, { ch := 0, hi := fun _ => 0, ex := 1 }), (908, wO 0)]) (fb := 0) (k := 900) (S := Eg n C D x y b qu qv qc ) (kk := aab) (tau := ZN) (Ms := WU) (full := 16383) (by kernel_rfl)
  (have hR : ∀ m, some (Eg n C D x y b qu qv qc m) = some (Eg n C D x y b qu qv qc m) := fun _ => rfl; (ai (ai (ai trivial (hR 1)) (ai (ai trivial (hR 2)) (ai (ai trivial (hR 16)) (ai (ai trivial (hR 32)) tt0)))) (ai (ai (ai trivial (hR 3)) (ai (ai trivial (hR 17)) (ai (ai trivial (hR 33)) tt0))) (ai (ai (ai trivial (hR 3)) (ai (ai trivial (hR 6)) (ai (ai trivial (hR 18)) (ai (ai trivial (hR 34)) tt0)))) (ai (ai (ai trivial (hR 17)) (ai (ai trivial (hR 18)) (ai (ai trivial (hR 48)) tt0))) (ai (ai (ai trivial (hR 33)) (ai (ai trivial (hR 34)) (ai (ai trivial (hR 48)) (ai (ai trivial (hR 96)) tt0)))) (ai (ai (ai trivial (hR 7)) (ai (ai trivial (hR 19)) (ai (ai trivial (hR 35)) tt0))) (ai (ai (ai trivial (hR 7)) (ai (ai trivial (hR 22)) (ai (ai trivial (hR 38)) tt0))) (ai (ai (ai trivial (hR 19)) (ai (ai trivial (hR 49)) tt0)) (ai (ai (ai trivial (hR 19)) (ai (ai trivial (hR 22)) (ai (ai trivial (hR 50)) tt0))) (ai (ai (ai trivial (hR 35)) (ai (ai trivial (hR 49)) (ai (ai trivial (hR 97)) tt0))) (ai (ai (ai trivial (hR 35)) (ai (ai trivial (hR 38)) (ai (ai trivial (hR 50)) (ai (ai trivial (hR 98)) tt0)))) (ai (ai (ai trivial (hR 49)) (ai (ai trivial (hR 50)) (ai (ai trivial (hR 112)) tt0))) (ai (ai (ai trivial (hR 97)) (ai (ai trivial (hR 98)) (ai (ai trivial (hR 112)) tt0))) (ai (ai (ai (ai (show sizes [.l C] = n * 13 /\ n + 1 <= 9223372036854775807 /\ (n + 1) * 104 <= 140737488355328 /\ True from ⟨by show C.length + 0 = n * 13; omega, by omega, by omega, tt0⟩) tt0) (hR 15)) (ai (ai trivial (hR 23)) (ai (ai trivial (hR 39)) tt0))) (ai (ai (ai trivial (hR 23)) (ai (ai trivial (hR 51)) tt0)) (ai (ai (ai trivial (hR 23)) (ai (ai trivial (hR 54)) tt0)) (ai (ai (ai trivial (hR 39)) (ai (ai trivial (hR 51)) (ai (ai trivial (hR 99)) tt0))) (ai (ai (ai trivial (hR 39)) (ai (ai trivial (hR 54)) (ai (ai trivial (show (((qI (.int .i64 (0)))) /\ ((qI (.int .i64 (0)))) /\ ((qI (.int .i64 (0)))) /\ (qs n) /\ (true = true /\ 0 = 0 /\ 1 = 1 /\ 1 = 1) /\ (qs n) /\ (true = true /\ 0 = 0 /\ 1 = 1 /\ 1 = 1) /\ True) /\ (((39 = 39 /\ 13 = 13) /\ flat [.l C] = flat [.l C]) /\ (qD 39 [.q x, .q y, .c (.bool b)]) /\ ((33 = 33 /\ 25 = 25) /\ flat [.l D] = flat [.l D]) /\ (qD 33 [.q qu.1, .q qu.2, .q qv.1, .q qv.2, .c (.bool qc)]) /\ True) from ⟨⟨rfl, rfl, rfl, rr0, ⟨rfl, rfl, rfl, rfl⟩, rr0, ⟨rfl, rfl, rfl, rfl⟩, tt0⟩, ⟨⟨rr0, rfl⟩, rr0, ⟨rr0, rfl⟩, rr0, tt0⟩⟩)) tt0))) (ai (ai (ai trivial (hR 51)) (ai (ai trivial (hR 113)) tt0)) (ai (ai (ai trivial (hR 51)) (ai (ai trivial (hR 54)) (ai (ai trivial (hR 114)) tt0))) (ai (ai (ai trivial (hR 99)) (ai (ai trivial (hR 113)) tt0)) (ai (ai (ai trivial (hR 99)) (ai (ai trivial (hR 102)) (ai (ai trivial (hR 114)) tt0))) (ai (ai (ai trivial (hR 113)) (ai (ai trivial (hR 114)) tt0)) (ai (ai (ai trivial (hR 31)) (ai (ai trivial (hR 47)) tt0)) (ai (ai (ai (ai (show sizes [.l C] = n * 13 /\ n + 1 <= 9223372036854775807 /\ (n + 1) * 104 <= 140737488355328 /\ True from ⟨by show C.length + 0 = n * 13; omega, by omega, by omega, tt0⟩) tt0) (hR 31)) (ai (ai trivial (hR 55)) tt0)) (ai (ai (ai (ai (show sizes [.l C] = n * 13 /\ n + 1 <= 9223372036854775807 /\ (n + 1) * 104 <= 140737488355328 /\ True from ⟨by show C.length + 0 = n * 13; omega, by omega, by omega, tt0⟩) tt0) (hR 47)) (ai (ai trivial (hR 55)) (ai (ai trivial (show (((qI (.int .i64 (0)))) /\ ((qI (.int .i64 (0)))) /\ ((qI (.int .i64 (0)))) /\ (qs n) /\ (true = true /\ 0 = 0 /\ 1 = 1 /\ 1 = 1) /\ (qs n) /\ (true = true /\ 0 = 0 /\ 1 = 1 /\ 1 = 1) /\ True) /\ (((39 = 39 /\ 13 = 13) /\ flat [.l C] = flat [.l C]) /\ (qD 39 [.q x, .q y, .c (.bool b)]) /\ ((33 = 33 /\ 25 = 25) /\ flat [.l D] = flat [.l D]) /\ (qD 33 [.q qu.1, .q qu.2, .q qv.1, .q qv.2, .c (.bool qc)]) /\ True) from ⟨⟨rfl, rfl, rfl, rr0, ⟨rfl, rfl, rfl, rfl⟩, rr0, ⟨rfl, rfl, rfl, rfl⟩, tt0⟩, ⟨⟨rr0, rfl⟩, rr0, ⟨rr0, rfl⟩, rr0, tt0⟩⟩)) tt0))) (ai (ai (ai trivial (hR 55)) (ai (ai trivial (hR 115)) tt0)) (ai (ai (ai trivial (hR 55)) (ai (ai trivial (show (((qI (.int .i64 (0)))) /\ ((qI (.int .i64 (0)))) /\ ((qI (.int .i64 (0)))) /\ (qs n) /\ (true = true /\ 0 = 0 /\ 1 = 1 /\ 1 = 1) /\ (qs n) /\ (true = true /\ 0 = 0 /\ 1 = 1 /\ 1 = 1) /\ True) /\ (((39 = 39 /\ 13 = 13) /\ flat [.l C] = flat [.l C]) /\ (qD 39 [.q x, .q y, .c (.bool b)]) /\ ((33 = 33 /\ 25 = 25) /\ flat [.l D] = flat [.l D]) /\ (qD 33 [.q qu.1, .q qu.2, .q qv.1, .q qv.2, .c (.bool qc)]) /\ True) from ⟨⟨rfl, rfl, rfl, rr0, ⟨rfl, rfl, rfl, rfl⟩, rr0, ⟨rfl, rfl, rfl, rfl⟩, tt0⟩, ⟨⟨rr0, rfl⟩, rr0, ⟨rr0, rfl⟩, rr0, tt0⟩⟩)) tt0)) (ai (ai (ai trivial (hR 103)) (ai (ai trivial (hR 115)) tt0)) (ai (ai (ai trivial (hR 103)) (ai (ai trivial (hR 118)) tt0)) (ai (ai (ai trivial (hR 115)) tt0) (ai (ai (ai trivial (hR 115)) (ai (ai trivial (hR 118)) tt0)) (ai (ai (ai trivial (hR 63)) tt0) (ai (ai (ai trivial (hR 63)) (ai (ai trivial (show (((qI (.int .i64 (0)))) /\ ((qI (.int .i64 (0)))) /\ ((qI (.int .i64 (0)))) /\ (true = true /\ (n + 1) = (n + 1)) /\ (qs n) /\ (true = true /\ 0 = 0 /\ 1 = 1 /\ 1 = 1) /\ True) /\ (((39 = 39 /\ 13 = 13) /\ flat [.l C, .q x, .q y, .c (.bool b)] = flat [.l C, .q x, .q y, .c (.bool b)]) /\ ((33 = 33 /\ 25 = 25) /\ flat [.l D] = flat [.l D]) /\ (qD 33 [.q qu.1, .q qu.2, .q qv.1, .q qv.2, .c (.bool qc)]) /\ True) from ⟨⟨rfl, rfl, rfl, rr0, rr0, ⟨rfl, rfl, rfl, rfl⟩, tt0⟩, ⟨⟨rr0, rfl⟩, ⟨rr0, rfl⟩, rr0, tt0⟩⟩)) tt0)) (ai (ai (ai (ai (show sizes [.l C] = n * 13 /\ n + 1 <= 9223372036854775807 /\ (n + 1) * 104 <= 140737488355328 /\ True from ⟨by show C.length + 0 = n * 13; omega, by omega, by omega, tt0⟩) tt0) (hR 63)) (ai (ai trivial (show (((qI (.int .i64 (0)))) /\ ((qI (.int .i64 (0)))) /\ ((qI (.int .i64 (0)))) /\ (qs n) /\ (true = true /\ 0 = 0 /\ 1 = 1 /\ 1 = 1) /\ (qs n) /\ (true = true /\ 0 = 0 /\ 1 = 1 /\ 1 = 1) /\ True) /\ (((39 = 39 /\ 13 = 13) /\ flat [.l C] = flat [.l C]) /\ (qD 39 [.q x, .q y, .c (.bool b)]) /\ ((33 = 33 /\ 25 = 25) /\ flat [.l D] = flat [.l D]) /\ (qD 33 [.q qu.1, .q qu.2, .q qv.1, .q qv.2, .c (.bool qc)]) /\ True) from ⟨⟨rfl, rfl, rfl, rr0, ⟨rfl, rfl, rfl, rfl⟩, rr0, ⟨rfl, rfl, rfl, rfl⟩, tt0⟩, ⟨⟨rr0, rfl⟩, rr0, ⟨rr0, rfl⟩, rr0, tt0⟩⟩)) tt0)) (ai (ai (ai (ai (show sizes [.l C] = n * 13 /\ n + 1 <= 9223372036854775807 /\ (n + 1) * 104 <= 140737488355328 /\ True from ⟨by show C.length + 0 = n * 13; omega, by omega, by omega, tt0⟩) tt0) (hR 111)) (ai (ai trivial (hR 119)) tt0)) (ai (ai (ai trivial (hR 119)) tt0) (ai (ai (ai trivial (hR 119)) tt0) (ai (ai (ai trivial (show (((qI (.int .i64 (0)))) /\ ((qI (.int .i64 (0)))) /\ ((qI (.int .i64 (0)))) /\ (true = true /\ (n + 1) = (n + 1)) /\ (qs n) /\ (true = true /\ 0 = 0 /\ 1 = 1 /\ 1 = 1) /\ True) /\ (((39 = 39 /\ 13 = 13) /\ flat [.l C, .q x, .q y, .c (.bool b)] = flat [.l C, .q x, .q y, .c (.bool b)]) /\ ((33 = 33 /\ 25 = 25) /\ flat [.l D] = flat [.l D]) /\ (qD 33 [.q qu.1, .q qu.2, .q qv.1, .q qv.2, .c (.bool qc)]) /\ True) from ⟨⟨rfl, rfl, rfl, rr0, rr0, ⟨rfl, rfl, rfl, rfl⟩, tt0⟩, ⟨⟨rr0, rfl⟩, ⟨rr0, rfl⟩, rr0, tt0⟩⟩)) tt0) (ai (ai (ai trivial (hR 127)) tt0) (ai (ai (ai (ai (show sizes [.l C] = n * 13 /\ n + 1 <= 9223372036854775807 /\ (n + 1) * 104 <= 140737488355328 /\ True from ⟨by show C.length + 0 = n * 13; omega, by omega, by omega, tt0⟩) tt0) (hR 127)) tt0) (ai (ai (ai (ai (show sizes [.l D] = n * 25 /\ n + 1 <= 9223372036854775807 /\ (n + 1) * 200 <= 140737488355328 /\ True from ⟨by show D.length + 0 = n * 25; omega, by omega, by omega, tt0⟩) tt0) (hR 255)) tt0) (ai (ai (ai (ai (show ([.rx [.l C, .q x, .q y, .c (.bool b)] (n + 1), .rx [.l D, .q qu.1, .q qu.2, .q qv.1, .q qv.2, .c (.bool qc)] (n + 1)] : List XV) = [.rx [.l C, .q x, .q y, .c (.bool b)] (n + 1), .rx [.l D, .q qu.1, .q qu.2, .q qv.1, .q qv.2, .c (.bool qc)] (n + 1)] from rfl) tt0) (hR 511)) tt0) (ai (ai (ai trivial (hR 1023)) tt0) (ai (ai (ai trivial (hR 2047)) (ai (ai trivial (hR 3071)) tt0)) (ai (ai (ai trivial (hR 4095)) (ai (ai trivial (hR 6143)) tt0)) (ai (ai (ai trivial (hR 4095)) tt0) (ai (ai (ai trivial (hR 8191)) tt0) (ai (ai (ai trivial (hR 8191)) tt0) (ai (ai (ai trivial (hR 16383)) tt0) (ai trivial
  tt0))))))))))))))))))))))))))))))))))))))))))))))))))))
end Go.Proofs.YtfbkefgoblcmpaaGreat
set_option linter.unusedSimpArgs false
set_option linter.unusedVariables false
namespace Go.Proofs.YtfbkefgoblcmpaaGreat
open Go.Ev Go.RowKit
open Tryz
theorem QZ (L1 L2 : Nat) (KA LA : List Value) (qu qv : F2) (qc : Bool) : Eb (tsZ L1 L2 0 KA LA qu qv qc).aa (.exit 0) (tsF L1 L2 0 KA LA qu qv qc).aa := by
 have hh := qh (P := prog) (X := qK _) (env := []) trivial (n := 0) (os := (oL [])) (fb := 0) (rd := false) (c := (ql f3 0)) (k := 23) (I := tsZ L1 L2 0 KA LA qu qv qc) (sk := [1, 7, 10, 11, 8, 9]) (hk := [1, 18]) (lk := []) (ex := (.exit 0))
  (L := tsF L1 L2 0 KA LA qu qv qc) (by kernel_rfl)
  trivial
 exact hh
abbrev F5 (g1 : F2) (g2 : F2) : List Ch := [.q g1.1, .q g1.2, .q g2.1, .q g2.2, .c (.bool false)]
abbrev R3 (L1 : Nat) (L2 : Nat) := if ((L2 : Nat) : Int) < ((L1 : Nat) : Int) then ((L2 : Nat) : Int) else ((L1 : Nat) : Int)
abbrev xe (sx : Fin Pp) (sy : Fin Pp) (sb : Bool) : List Ch := [.q sx, .q sy, .c (.bool sb)]
abbrev AJ (g1 : F2) (g2 : F2) (m : Nat) : List XV := [.t (.ag (F5 g1 g2)), .t (.ag [.n 4 m])]
abbrev ET (LS : List Value) : List XV := [.t (.v (.slice none 0 0)), .rz [.l LS] 0]
abbrev H8 (L1 : Nat) (L2 : Nat) := if (4 : Int) < (R3 L1 L2) then 4 else (R3 L1 L2)
abbrev EO (a : AA) (e : Ex) (b : AA) : Prop := Sound prog 0 false (.loop (ql f3 0)) a e b
theorem Xp (L1 L2 : Nat) (KA LA LS : List Value) (qu qv : F2) (qc : Bool) (x y : Fin Pp) (b : Bool) (sx sy : Fin Pp) (sb : Bool) (g1 g2 : F2) (m : Nat) (hmin : (H8 L1 L2) = ((0 : Nat) : Int)) (h2 : 0 <= L2) (hLS : flat [.l LS] = (flat [.l LA]).take (0 * 4)) (hL : EO (tsZ L1 L2 0 KA LA qu qv qc ).aa (.exit 0) (tsF L1 L2 0 KA LA qu qv qc ).aa) (hG : Tells prog 5 [] (.ag (F5 g1 g2))) (hM : Tells prog 4 (AJ g1 g2 m) (.tp [.ag (C9 qu qv qc), vi0 0])) (hS : Tells prog 8 (ET LS) (.tp [.ag (xe sx sy sb), vi0 0])) (hN : Tells prog 9 [.t (.ag (xe sx sy sb))] (.tp (AY x y b))) (hK : Tells prog 10 [.rx [.q x, .q y, .c (.bool b)] 1, .rx (C9 qu qv qc) 1] (.tp [.v (.bool true), vi0 0])) : Gives prog 3 [.rz [.l KA] L1, .rz [.l LA] L2, .t (.ag [.n 4 m])] (.v (.bool true)) :=
 qb (P := prog) (X := qK _) (env := [eTo 5 [([], .ag (F5 g1 g2))], eTo 4 [((AJ g1 g2 m), .tp [.ag (C9 qu qv qc), vi0 0])], eTo 8 [((ET LS), .tp [.ag (xe sx sy sb), vi0 0])], eTo 9 [([.t (.ag (xe sx sy sb))], .tp (AY x y b))], eTo 11 [([], .v (.bool true))]]) ⟨qf (qe hG qw), qf (qe hM qw), qf (qe hS qw), qf (qe hN qw), qf (qe IA qw), tt0⟩ func3 0 (oL [(8, rO 22 0), (23, lpO { I := tsZ L1 L2 0 KA LA qu qv qc , ex := .exit 0, E := tsF L1 L2 0 KA LA qu qv qc , fr := 100 }), (103, { ch := 0, hi := fun _ => 0, ex := 6, cs := fun _ => [.l LS] }), (119, lpO { kd := 5, I := EN x y b qu qv qc 0, ex := .normal, E := EN x y b qu qv qc 16383, fr := 1500 })]) (by kernel_rfl) ⟨_, rfl⟩ (ai DV.down (ai (show some (EN x y b qu qv qc 0) = some (EN x y b qu qv qc 0) from rfl) (ai (HN x y b qu qv qc hK) (ai (show ([.t (.ag (xe sx sy sb))] : List XV) = [.t (.ag (xe sx sy sb))] from rfl) (ai (show ((ET LS) : List XV) = (ET LS) from rfl) (ai (show ((0 : Nat) : Int) = ((0 : Nat) : Int) /\ 0 <= L2 /\ flat [.l LS] = (flat [.l LA]).take (0 * 4) from ⟨rfl, h2, hLS⟩) (ai (show some (tsZ L1 L2 0 KA LA qu qv qc ) = some (tsZ L1 L2 0 KA LA qu qv qc ) from rfl) (ai (hL) (ai (show ((AJ g1 g2 m) : List XV) = (AJ g1 g2 m) from rfl) (ai DV.down (ai (show (H8 L1 L2) = ((0 : Nat) : Int) from hmin) tt0)))))))))))
theorem IM (L1 L2 n : Nat) (KA LA LS : List Value) (qu qv : F2) (qc : Bool) (C D : List Value) (hn : n <= 4) (hC : C.length = n * 13) (hD : D.length = n * 25) (x y : Fin Pp) (b : Bool) (sx sy : Fin Pp) (sb : Bool) (g1 g2 : F2) (m : Nat) (hmin : (if (4 : Int) < (if ((L2 : Nat) : Int) < ((L1 : Nat) : Int) then ((L2 : Nat) : Int) else ((L1 : Nat) : Int)) then 4 else (if ((L2 : Nat) : Int) < ((L1 : Nat) : Int) then ((L2 : Nat) : Int) else ((L1 : Nat) : Int))) = ((n : Nat) : Int)) (h2 : n <= L2) (hLS : flat [.l LS] = (flat [.l LA]).take (n * 4)) (hL : EO (tsZ L1 L2 n KA LA qu qv qc ).aa (.exit 0) (tsE L1 L2 n KA LA qu qv qc C D).aa) (hG : Tells prog 5 [] (.ag (F5 g1 g2))) (hM : Tells prog 4 (AJ g1 g2 m) (.tp [.ag (C9 qu qv qc), vi0 0])) (hS : Tells prog 8 [.rx [.l C] n, .rz [.l LS] n] (.tp [.ag (xe sx sy sb), vi0 0])) (hN : Tells prog 9 [.t (.ag (xe sx sy sb))] (.tp (AY x y b))) (hK : Tells prog 10 [.rx [.l C, .q x, .q y, .c (.bool b)] (n + 1), .rx [.l D, .q qu.1, .q qu.2, .q qv.1, .q qv.2, .c (.bool qc)] (n + 1)] (.tp [.v (.bool true), vi0 0])) : Gives prog 3 [.rz [.l KA] L1, .rz [.l LA] L2, .t (.ag [.n 4 m])] (.v (.bool true)) :=
 qb (P := prog) (X := qK _) (env := [eTo 5 [([], .ag (F5 g1 g2))], eTo 4 [((AJ g1 g2 m), .tp [.ag (C9 qu qv qc), vi0 0])], eTo 8 [([.rx [.l C] n, .rz [.l LS] n], .tp [.ag (xe sx sy sb), vi0 0])], eTo 9 [([.t (.ag (xe sx sy sb))], .tp (AY x y b))], eTo 11 [([], .v (.bool true))]]) ⟨qf (qe hG qw), qf (qe hM qw), qf (qe hS qw), qf (qe hN qw), qf (qe IA qw), tt0⟩ func3 0 (oL [(8, rO 22 n), (23, lpO { I := tsZ L1 L2 n KA LA qu qv qc , ex := .exit 0, E := tsE L1 L2 n KA LA qu qv qc C D, fr := 100 }), (103, { ch := 0, hi := fun _ => n, ex := 6, cs := fun _ => [.l LS] }), (119, lpO { kd := 5, I := Eg n C D x y b qu qv qc 0, ex := .normal, E := Eg n C D x y b qu qv qc 16383, fr := 1500 })]) (by kernel_rfl) ⟨_, rfl⟩ (ai DV.down (ai (show some (Eg n C D x y b qu qv qc 0) = some (Eg n C D x y b qu qv qc 0) from rfl) (ai (HW n C D x y b qu qv qc (by omega) hC hD hK) (ai (show ([.t (.ag (xe sx sy sb))] : List XV) = [.t (.ag (xe sx sy sb))] from rfl) (ai (show ([.rx [.l C] n, .rz [.l LS] n] : List XV) = [.rx [.l C] n, .rz [.l LS] n] from rfl) (ai (show ((n : Nat) : Int) = ((n : Nat) : Int) /\ n <= L2 /\ flat [.l LS] = (flat [.l LA]).take (n * 4) from ⟨rfl, h2, hLS⟩) (ai (show some (tsZ L1 L2 n KA LA qu qv qc ) = some (tsZ L1 L2 n KA LA qu qv qc ) from rfl) (ai (hL) (ai (show ((AJ g1 g2 m) : List XV) = (AJ g1 g2 m) from rfl) (ai DV.down (ai (show (H8 L1 L2) = ((n : Nat) : Int) from hmin) tt0)))))))))))
end Go.Proofs.YtfbkefgoblcmpaaGreat
set_option linter.unusedVariables false
set_option linter.unusedSimpArgs false
set_option linter.unusedSectionVars false
namespace Go.Ev
def gE : PtE := afJ DB
theorem qN : onE1 gE := MG
theorem IQ : Rr < 16 ^ 64 := by decide
theorem Au : nsE gE Rr = none := by
 have h := Cq DB MG Rr IQ
 rw [sP SV] at h
 exact h.symm
theorem Ly {r : Nat} (h : nsE gE r = none) (n : Nat) : nsE gE n = nsE gE (n % r) := by
 conv => lhs; rw [← Nat.div_add_mod n r, wW qN, ← qW qN, h, rY]
 rfl
def phI (r : Nat) (z : Int) : PtE := nsE gE (z % (r : Int)).toNat
def phE (z : Int) : PtE := phI Rr z
section
variable {r : Nat} (h : nsE gE r = none) (h0 : 0 < r)
include h h0
theorem RB (n : Nat) : phI r (n : Int) = nsE gE n := by
 unfold phI
 rw [Ly h n]
 congr 1
theorem Ps (a b : Int) : phI r (a + b) = adE1 (phI r a) (phI r b) := by
 unfold phI
 rw [← wW qN, Ly h ((a % (r : Int)).toNat + (b % (r : Int)).toNat)]
 have h1 := Int.emod_nonneg a (show (r : Int) ≠ 0 by omega)
 have h2 := Int.emod_nonneg b (show (r : Int) ≠ 0 by omega)
 congr 1
 have e : ((((a % (r : Int)).toNat + (b % (r : Int)).toNat) % r : Nat) : Int) = (a + b) % (r : Int) := by
  rw [Int.natCast_emod, Int.natCast_add, Int.toNat_of_nonneg h1, Int.toNat_of_nonneg h2, ← Int.add_emod]
 rw [← e, Int.toNat_natCast]
end
theorem L9 : 0 < Rr := by decide
theorem uD (n : Nat) : phE (n : Int) = nsE gE n := RB Au L9 n
theorem EX (a b : Int) : phE (a + b) = adE1 (phE a) (phE b) := Ps Au L9 a b
theorem RH : phE 0 = none := uD 0
theorem Cc (a : Int) : onE1 (phE a) := re qN _
theorem U1 {P Q : PtE} (hP : onE1 P) (hQ : onE1 Q) (h : adE1 Q P = none) : Q = ngE1 P := by
 have hb := BG hQ hP
 rw [h] at hb
 exact hb.symm
theorem Pe (a : Int) : phE (-a) = ngE1 (phE a) := by
 refine U1 (Cc a) (Cc (-a)) ?_
 rw [← EX, Int.add_left_neg, RH]
theorem F4 {p q : Pt1} {a b : Int} (hp : afJ p = phE a) (hq : afJ q = phE b) : afJ (tI p q) = phE (a + b) := by
 rw [E0 p q (by rw [hp]; exact Cc a) (by rw [hq]; exact Cc b), hp, hq, EX]
theorem GM {p : Pt1} {a : Int} (hp : afJ p = phE a) : afJ (rl p) = phE (a + a) := by
 rw [EH p (by rw [hp]; exact Cc a), hp, EX]
theorem WC (y i : Fin Pp) : -y * (i * i * i) = -(y * (i * i * i)) := by grobner
theorem Mm (p : Pt1) : afJ (C1 p) = ngE1 (afJ p) := by
 obtain ⟨x, y, z⟩ := p
 unfold C1 afJ
 by_cases hz : z = 0
 ·rw [if_pos hz, if_pos hz]; rfl
 ·rw [if_neg hz, if_neg hz, WC]; rfl
theorem W9 {p : Pt1} {a : Int} (hp : afJ p = phE a) : afJ (C1 p) = phE (-a) := by rw [Mm, hp, Pe]
theorem Ei : afJ zerP1 = phE 0 := by rw [RH]; exact sP rfl
def setI (w : Nat -> Int) (i : Nat) (v : Int) : Nat -> Int := fun j => if j = i then v else w j
def wS (w : Nat -> Int) (a d : Int) : Nat -> Int := if d > 0 then setI w d.toNat (w d.toNat + a) else if d < 0 then setI w (-d).toNat (w (-d).toNat + -a) else w
def Am (w : Nat -> Int) : Nat -> Int × Int
 | 0 => (0, 0)
 | r + 1 => ((Am w r).1 + w (16 - r), (Am w r).2 + ((Am w r).1 + w (16 - r)))
theorem HP (w : Nat -> Int) : (Am w 16).2 = w 1 + 2 * w 2 + 3 * w 3 + 4 * w 4 + 5 * w 5 + 6 * w 6 + 7 * w 7 + 8 * w 8 + 9 * w 9 + 10 * w 10 + 11 * w 11 + 12 * w 12 + 13 * w 13 + 14 * w 14 + 15 * w 15 + 16 * w 16 := by
 simp only [Am]
 generalize w 1 = w1; generalize w 2 = w2; generalize w 3 = w3; generalize w 4 = w4; generalize w 5 = w5; generalize w 6 = w6; generalize w 7 = w7; generalize w 8 = w8
 simp only [Nat.reduceSub, Nat.sub_zero]
 omega
theorem I6 (w : Nat -> Int) (j : Nat) (h1 : 1 <= j) (h2 : j <= 16) (v : Int) : (Am (setI w j (w j + v)) 16).2 = (Am w 16).2 + (j : Int) * v := by
 rw [HP, HP]
 have hj : j = 1 ∨ j = 2 ∨ j = 3 ∨ j = 4 ∨ j = 5 ∨ j = 6 ∨ j = 7 ∨ j = 8 ∨ j = 9 ∨ j = 10 ∨ j = 11 ∨ j = 12 ∨ j = 13 ∨ j = 14 ∨ j = 15 ∨ j = 16 := by omega
 rcases hj with rfl | rfl | rfl | rfl | rfl | rfl | rfl | rfl | rfl | rfl | rfl | rfl | rfl | rfl | rfl | rfl <;> simp [setI] <;> omega
theorem Uf (w : Nat -> Int) (a d : Int) (h1 : -16 <= d) (h2 : d <= 16) : (Am (wS w a d) 16).2 = (Am w 16).2 + d * a := by
 unfold wS
 by_cases h : d > 0
 ·rw [if_pos h, I6 w d.toNat (by omega) (by omega), Int.toNat_of_nonneg (by omega)]
 ·rw [if_neg h]
  by_cases h' : d < 0
  ·rw [if_pos h', I6 w (-d).toNat (by omega) (by omega), Int.toNat_of_nonneg (by omega), Int.neg_mul_neg]
  ·rw [if_neg h']
   have : d = 0 := by omega
   subst this
   simp
def sumI (f : Nat -> Int) : Nat -> Int
 | 0 => 0
 | n + 1 => sumI f n + f n
def wrG (a d : Nat -> Int) : Nat -> (Nat -> Int)
 | 0 => fun _ => 0
 | i + 1 => wS (wrG a d i) (a i) (d i)
theorem Jj (a d : Nat -> Int) (hd : ∀ i, -16 <= d i /\ d i <= 16) : ∀ n, (Am (wrG a d n) 16).2 = sumI (fun i => d i * a i) n
 | 0 => by rw [HP]; rfl
 | n + 1 => by
  show (Am (wS (wrG a d n) (a n) (d n)) 16).2 = sumI (fun i => d i * a i) n + d n * a n
  rw [Uf _ _ _ (hd n).1 (hd n).2, Jj a d hd n]
section
variable {f : Nat -> Pt1} {a : Nat -> Int} (hf : ∀ i, afJ (f i) = phE (a i))
include hf
theorem RR (d : Nat -> Int) : ∀ i j, afJ (bkG f d i j) = phE (wrG a d i j)
 | 0, j => Ei
 | i + 1, j => by
  have ih := RR d i
  show afJ (bkS (bkG f d i) (f i) (d i) j) = phE (wS (wrG a d i) (a i) (d i) j)
  generalize bkG f d i = g at *
  generalize wrG a d i = w at *
  unfold bkS wS
  by_cases h : d i > 0
  ·rw [if_pos h, if_pos h]
   unfold y9 setI
   by_cases e : j = (d i).toNat
   ·rw [if_pos e, if_pos e]; exact F4 (ih _) (hf i)
   ·rw [if_neg e, if_neg e]; exact ih j
  ·rw [if_neg h, if_neg h]
   by_cases h' : d i < 0
   ·rw [if_pos h', if_pos h']
    unfold y9 setI
    by_cases e : j = (-(d i)).toNat
    ·rw [if_pos e, if_pos e]; exact F4 (ih _) (W9 (hf i))
    ·rw [if_neg e, if_neg e]; exact ih j
   ·rw [if_neg h', if_neg h']; exact ih j
theorem R0 {g : Nat -> Pt1} {w : Nat -> Int} (hg : ∀ j, afJ (g j) = phE (w j)) : ∀ r, afJ (totR g r).1 = phE (Am w r).1 /\ afJ (totR g r).2 = phE (Am w r).2
 | 0 => ⟨Ei, Ei⟩
 | r + 1 => by
  obtain ⟨h1, h2⟩ := R0 hg r
  have h3 := F4 h1 (hg (16 - r))
  exact ⟨h3, F4 h2 h3⟩
theorem Xg (n : Nat) (d : Nat -> Int) (hd : ∀ i, -16 <= d i /\ d i <= 16) : afJ (bkR n f d) = phE (sumI (fun i => d i * a i) n) := by
 have h := (R0 hf (RR hf d n) 16).2
 rw [Jj a d hd n] at h
 exact h
end
def hor (x : Nat) : Nat -> Int
 | 0 => 0
 | m + 1 => 32 * hor x m + sdg x (51 - m)
theorem RO (x : Nat) : ∀ m, m <= 52 -> hor x m = sdF x (52 - m) m
 | 0, _ => rfl
 | m + 1, h => by
  have ih := RO x m (by omega)
  show 32 * hor x m + sdg x (51 - m) = sdg x (52 - (m + 1)) + 32 * sdF x (52 - (m + 1) + 1) m
  rw [ih, show 52 - (m + 1) = 51 - m by omega, show 51 - m + 1 = 52 - m by omega]
  omega
theorem G7 (f g : Nat -> Int) (a : Nat -> Int) : ∀ n, sumI (fun i => (32 * f i + g i) * a i) n = 32 * sumI (fun i => f i * a i) n + sumI (fun i => g i * a i) n
 | 0 => rfl
 | n + 1 => by
  show sumI _ n + (32 * f n + g n) * a n = 32 * (sumI _ n + f n * a n) + (sumI _ n + g n * a n)
  rw [G7 f g a n, Int.add_mul, Int.mul_assoc, Int.mul_add]
  omega
theorem Dc (a : Nat -> Int) : ∀ n, sumI (fun i => 0 * a i) n = 0
 | 0 => rfl
 | n + 1 => by
  show sumI _ n + 0 * a n = 0
  rw [Dc a n]; simp
theorem Zy {o : Pt1} {z : Int} (h : afJ o = phE z) : afJ (rl (rl (rl (rl (rl o))))) = phE (32 * z) := by
 have := GM (GM (GM (GM (GM h))))
 rw [this]
 congr 1
 omega
theorem Rz (x : Nat) (hx : x < 115792089237316195423570985008687907853269984665640564039457584007913129639936) : hor x 52 = (x : Int) := (RO x 52 (Nat.le_refl _)).trans (P9 x hx)
theorem Si {f : Nat -> Pt1} {a : Nat -> Int} (hf : ∀ i, afJ (f i) = phE (a i)) (n : Nat) (l : Nat -> Nat) : ∀ m, afJ (alF n f l m) = phE (sumI (fun i => hor (l i) m * a i) n)
 | 0 => by
  show afJ zerP1 = phE (sumI (fun i => 0 * a i) n)
  rw [Dc]; exact Ei
 | m + 1 => by
  have h := F4 (Zy (Si hf n l m)) (Xg hf n (fun i => sdg (l i) (51 - m)) (fun i => v9 _ _))
  rw [← G7 (fun i => hor (l i) m) (fun i => sdg (l i) (51 - m))] at h
  exact h
theorem I5 {f : Nat -> Pt1} {a : Nat -> Int} (hf : ∀ i, afJ (f i) = phE (a i)) (n : Nat) (l : Nat -> Nat) (hl : ∀ i, l i < 115792089237316195423570985008687907853269984665640564039457584007913129639936) : afJ (alF n f l 52) = phE (sumI (fun i => (l i : Int) * a i) n) := by
 have e : (fun i => hor (l i) 52 * a i) = fun i => (l i : Int) * a i := funext fun i => by rw [Rz _ (hl i)]
 rw [← e]
 exact Si hf n l 52
end Go.Ev
set_option linter.unusedSimpArgs false
set_option linter.unusedVariables false
set_option linter.unusedSectionVars false
namespace Go.Proofs.YtfbkefgoblcmpaaGreat
open Go.Ev Go.RowKit
open Tryz
def a1 (P : PtE) : A1 := ((pX1 P).val, (pY1 P).val, pI1 P)
def a2 (Q : qn) : A2 := (((pX2 Q).1.val, (pX2 Q).2.val), ((pY2 Q).1.val, (pY2 Q).2.val), pI2 Q)
theorem zM (P : PtE) : afJ (in1 (a1 P)) = P := by
 match P with
 | none => exact sP rfl
 | some (x, y) =>
  show afJ (in1 (x.val, y.val, false)) = _
  rw [WN, Fg]
theorem JR (Q : qn) : afJq (in2 (a2 Q)) = Q := by
 match Q with
 | none => exact si rfl
 | some (x, y) =>
  show afJq (in2 ((x.1.val, x.2.val), (y.1.val, y.2.val), false)) = _
  rw [Sz, xG]
theorem ub {P : PtE} (h : onE1 P) : may1 (a1 P) := by
 match P, h with
 | none, _ => exact rr0
 | some (x, y), h => exact Wm h
theorem Mu (x : F2) : of2 (x.1.val, x.2.val) = x := by
 have h : ∀ z : Fin Pp, ofP z.val = z := fun z => by unfold ofP; exact Fin.ofNat_val_eq_self z
 unfold of2
 rw [h, h]
theorem Uw (x : F2) : Ef x = qR (mul2 (mul2 x x) x) bQ := by
 unfold Ef
 have e : ∀ z : F2, z = bQ -> qR (mul2 (mul2 x x) x) z = qR (mul2 (mul2 x x) x) bQ := fun z h => by rw [h]
 exact e _ (by decide +kernel)
theorem Ig {Q : qn} (h : onE1q Q) : may2 (a2 Q) := by
 match Q, h with
 | none, _ => exact rr0
 | some (x, y), h =>
  have h : (y : G2) * y = x * x * x + bQ := h
  show is2 (x.1.val, x.2.val) /\ is2 (y.1.val, y.2.val) /\ mul2 (of2 (y.1.val, y.2.val)) (of2 (y.1.val, y.2.val)) = Ef (of2 (x.1.val, x.2.val))
  rw [Mu, Mu, Uw]
  exact ⟨⟨x.1.isLt, x.2.isLt⟩, ⟨y.1.isLt, y.2.isLt⟩, h⟩
theorem TG {P : PtE} (h : onE1 P) (hr : nsE P Rr = none) : AZ (a1 P) := by
 unfold AZ
 refine GW ?_
 rw [Cq _ (by rw [zM]; exact h) Rr IQ, zM]
 exact hr
theorem Uh {Q : qn} (h : onE1q Q) (hr : nsEq Q Rr = none) : C6 (a2 Q) := by
 unfold C6
 refine Db ?_
 rw [yG _ (by rw [JR]; exact h) Rr IQ, JR]
 exact hr
theorem Te {P : PtE} (h : onE1 P) (k : Nat) (hk : k < 16 ^ 64) : afJ (man1 (in1 (a1 P)) k 64) = nsE P k := by
 rw [Cq _ (by rw [zM]; exact h) k hk, zM]
theorem Ol {Q : qn} (h : onE1q Q) (k : Nat) (hk : k < 16 ^ 64) : afJq (man2 (in2 (a2 Q)) k 64) = nsEq Q k := by
 rw [yG _ (by rw [JR]; exact h) k hk, JR]
theorem SI (P : PtE) : afJ (C1 (in1 (a1 P))) = ngE1 P := by rw [Mm, zM]
def gQ : qn := afJq sG
theorem OJ : onE1q gQ := Ff
theorem VM : (man2 sG Rr 64).2.2 = ((0, 0) : F2) := by
 unfold Rr
 exact Ox
theorem Zz : nsEq gQ Rr = none := by
 have h := yG sG Ff Rr IQ
 have hz : (man2 sG Rr 64).2.2 = (0 : G2) := VM
 rw [si hz] at h
 exact h.symm
structure Good2 (Q : qn) : Prop where
 on : onE1q Q
 R : nsEq Q Rr = none
 T : nsEq Q xT = psP Q
theorem Good2.ns {Q : qn} (h : Good2 Q) (n : Nat) : Good2 (nsEq Q n) :=
 ⟨rh h.on n, by rw [vg h.on, Nat.mul_comm, ← vg h.on, h.R, wh], RD h.on h.T n⟩
theorem yp : Good2 gQ := ⟨OJ, Zz, Vx⟩
def lopP (P : PtE) (Q : qn) (e : Nat) : F12 := KR (pX1 P) (pY1 P) (pI1 P) (pX2 Q) (pY2 Q) (pI2 Q) e
theorem Dw : ((one12 : F12) : K12) ≠ 0 /\ finK (one12 : F12) = 1 := by
 rw [← xu]
 exact ⟨by decide +kernel, wM (by decide +kernel) q9⟩
theorem Qz (Q : qn) (e : Nat) : lopP none Q e = one12 := by
 have h : pI1 none = true ∨ pI2 Q = true := Or.inl rfl
 unfold lopP KR
 rw [if_pos h]
theorem PI (P : PtE) (e : Nat) : lopP P none e = one12 := by
 have h : pI1 P = true ∨ pI2 none = true := Or.inr rfl
 unfold lopP KR
 rw [if_pos h]
theorem TA (p q : Fin Pp) (x y : F2) (e : Nat) : lopP (some (p, q)) (some (x, y)) e = conj12 (milN e (x, y, one2) p q 63).2 := by
 unfold lopP KR
 rw [if_neg (by simp [pI1, pI2])]
 rfl
theorem JO {P : PtE} (hP : onE1 P) {Q : qn} (hQ : Good2 Q) : (lopP P Q xT : K12) ≠ 0 /\ finK (lopP P Q xT) = conj12 (epE P Q) := by
 match P, hP, Q, hQ with
 | none, _, Q, _ =>
  rw [Qz, SP, q9]; exact Dw
 | some P, _, none, _ =>
  rw [PI, NJ, q9]; exact Dw
 | some (p, q), hP, some (x, y), hQ =>
  rw [TA]
  exact PK (p := p) (s6 _ _ hP) hQ.on hQ.R
def prF (L : Nat -> F12) : Nat -> F12
 | 0 => one12
 | i + 1 => mul12 (prF L i) (L i)
theorem Io {L : Nat -> F12} : ∀ n, (∀ i, i < n -> (L i : K12) ≠ 0) -> (prF L n : K12) ≠ 0
 | 0, _ => Dw.1
 | n + 1, h => neK (Io n fun i hi => h i (by omega)) (h n (by omega))
def sumN (e : Nat -> Nat) : Nat -> Nat
 | 0 => 0
 | n + 1 => sumN e n + e n
theorem JX {L : Nat -> F12} {W : K12} {e : Nat -> Nat} : ∀ n, (∀ i, i < n -> (L i : K12) ≠ 0 /\ finK (L i) = conj12 (pwK W (e i))) -> finK (prF L n) = conj12 (pwK W (sumN e n))
 | 0, _ => by
  show finK (one12 : F12) = conj12 (pwK W 0)
  rw [Dw.2, uB, q9]
 | n + 1, h => by
  have h1 := Io n fun i hi => (h i (by omega)).1
  have h2 := h n (by omega)
  have h3 : finK ((prF L n : K12) * L n) = finK (prF L n) * finK (L n) := sF h1 h2.1
  rw [JX n fun i hi => h i (by omega), h2.2, ← qq, ← zi] at h3
  exact h3
def lstL (n m : Nat) (k l : Nat -> Nat) (e : Nat) (i : Nat) : F12 :=
 if i < n then lopP (nsE gE (k i)) (nsEq (nsEq gQ m) (l i)) e else lopP (ngE1 (nsE gE (sumN (fun j => k j * l j) n))) (nsEq gQ m) e
theorem MX (n m : Nat) (k l : Nat -> Nat) : finK (prF (lstL n m k l xT) (n + 1)) = 1 := by
 have hQ := yp.ns m
 have hz : ∀ P : PtE, onE1 P -> nsE P Rr = none -> Nz P := fun P => YV
 have hW := Vl qN (nsEq gQ m)
 generalize hWW : epE gE (nsEq gQ m) = W at hW
 have hi : ∀ i, i < n -> (lstL n m k l xT i : K12) ≠ 0 /\ finK (lstL n m k l xT i) = conj12 (pwK W (k i * l i)) := fun i hi => by
  have hA := re qN (k i)
  have hAR : nsE (nsE gE (k i)) Rr = none := by rw [qW qN, Nat.mul_comm, ← qW qN, Au, rY]
  have h := JO hA (hQ.ns (l i))
  rw [IW hA (hz _ hA hAR) hQ.on hQ.T, H7 qN hQ.on hQ.T, hWW, ← Ey] at h
  have e : lstL n m k l xT i = lopP (nsE gE (k i)) (nsEq (nsEq gQ m) (l i)) xT := by unfold lstL; rw [if_pos hi]
  rw [e]
  exact h
 have h1 := JX n hi
 have h2 := Io n fun i h => (hi i h).1
 have hS := re qN (sumN (fun j => k j * l j) n)
 have hl := JO (ye hS) hQ
 rw [TL hS, v7, H7 qN hQ.on hQ.T, hWW] at hl
 have e : lstL n m k l xT n = lopP (ngE1 (nsE gE (sumN (fun j => k j * l j) n))) (nsEq gQ m) xT := by unfold lstL; rw [if_neg (Nat.lt_irrefl n)]
 rw [← e] at hl
 have h3 : finK ((prF (lstL n m k l xT) n : K12) * lstL n m k l xT n) = finK (prF (lstL n m k l xT) n) * finK (lstL n m k l xT n) := sF h2 hl.1
 rw [h1, hl.2] at h3
 have hu : Unk (pwK W (sumN (fun j => k j * l j) n)) := hW.pw _
 have hu : pwK W (sumN (fun j => k j * l j) n) * (conj12 (pwK W (sumN (fun j => k j * l j) n)) : K12) = 1 := hu
 refine h3.trans ?_
 rw [← hu]
 generalize pwK W (sumN (fun j => k j * l j) n) = a
 generalize (conj12 a : K12) = b
 clear h3 hu hl h1 hi
 grobner
theorem x9 (n m : Nat) (k l : Nat -> Nat) (e : Nat) (he : e = xT) : A6 (prF (lstL n m k l e) (n + 1)) = one12 := by
 subst he
 rw [Vq, MX, xu]
end Go.Proofs.YtfbkefgoblcmpaaGreat
set_option linter.unusedSimpArgs false
set_option linter.unusedVariables false
namespace Go.Proofs.YtfbkefgoblcmpaaGreat
open Go.Ev Go.RowKit
open Tryz
theorem sH {w : World} {a b : List Ch} {l : Nat} {v : Value} (hb : pureC b = true) (h : flat a = flat b) (hx : XRep w (.rx a l) v) : XRep w (.rx b l) v := by
 obtain ⟨hp, b', off, room, e1, e2, e3⟩ := hx
 exact ⟨hb, b', off, room, e1, e2, by rw [← h]; exact e3⟩
theorem zB {w : World} {a b : List Ch} {l : Nat} {v : Value} (hb : pureC b = true) (h : flat a = flat b) (hx : XRep w (.rz a l) v) : XRep w (.rz b l) v := by
 obtain ⟨hp, h0, h1⟩ := hx
 refine ⟨hb, h0, ?_⟩
 rw [← h]
 exact h1
theorem uS : ∀ (ls : List Nat) (n : Nat), n <= ls.length -> (qY 4 ls).take (n * 4) = (List.range n).flatMap fun j => limbs 4 (ls.getD j 0)
 | _, 0, _ => by simp
 | [], n + 1, h => by simp at h
 | a :: r, n + 1, h => by
  have ih := uS r n (by simpa using h)
  have hl : (limbs 4 a).length = 4 := tz 4 a
  have e : qY 4 (a :: r) = limbs 4 a ++ qY 4 r := rfl
  rw [e, show (n + 1) * 4 = (limbs 4 a).length + n * 4 by rw [hl]; omega, List.take_length_add_append, ih, List.range_succ_eq_map, List.flatMap_cons, List.flatMap_map]
  rfl
theorem Jc : ∀ (ls : List Nat) (i : Nat), i < ls.length -> ((qY 4 ls).drop (i * 4)).take 4 = limbs 4 (ls.getD i 0)
 | [], i, h => by simp at h
 | a :: r, 0, h => by
  have hl : (limbs 4 a).length = 4 := tz 4 a
  have e : qY 4 (a :: r) = limbs 4 a ++ qY 4 r := rfl
  have h5 : (limbs 4 a ++ qY 4 r).take (limbs 4 a).length = limbs 4 a := List.take_left
  rw [hl] at h5
  rw [e, Nat.zero_mul, List.drop_zero, h5]; rfl
 | a :: r, i + 1, h => by
  have ih := Jc r i (by simpa using h)
  have hl : (limbs 4 a).length = 4 := tz 4 a
  have e : qY 4 (a :: r) = limbs 4 a ++ qY 4 r := rfl
  rw [e, show (i + 1) * 4 = (limbs 4 a).length + i * 4 by rw [hl]; omega, List.drop_length_add_append, ih]
  rfl
theorem vR (ls : List Nat) (i : Nat) (h : i < ls.length) : sizes [.n 4 (ls.getD i 0)] = 4 /\ ((flat [.l (qY 4 ls)]).drop (i * 4)).take 4 = flat [.n 4 (ls.getD i 0)] := by
 refine ⟨rfl, ?_⟩
 rw [ry, Jc ls i h]
 simp [flat, Ch.cells]
def cR (x y : Nat -> Fin Pp) (b : Nat -> Bool) (n : Nat) : List Value := (List.range n).flatMap fun j => flat [.q (x j), .q (y j), .c (.bool (b j))]
def dR (u v : Nat -> F2) (c : Nat -> Bool) (n : Nat) : List Value := (List.range n).flatMap fun j => flat [.q (u j).1, .q (u j).2, .q (v j).1, .q (v j).2, .c (.bool (c j))]
theorem Ek (x y : Nat -> Fin Pp) (b : Nat -> Bool) (n : Nat) : cR x y b (n + 1) = cR x y b n ++ flat [.q (x n), .q (y n), .c (.bool (b n))] := by unfold cR; rw [List.range_succ, List.flatMap_append]; simp
theorem D5 (u v : Nat -> F2) (c : Nat -> Bool) (n : Nat) : dR u v c (n + 1) = dR u v c n ++ flat [.q (u n).1, .q (u n).2, .q (v n).1, .q (v n).2, .c (.bool (c n))] := by unfold dR; rw [List.range_succ, List.flatMap_append]; simp
theorem At (x y : Nat -> Fin Pp) (b : Nat -> Bool) : ∀ n, (cR x y b n).length = n * 13
 | 0 => rfl
 | n + 1 => by rw [Ek, List.length_append, At x y b n, so]; show n * 13 + 13 = _; omega
theorem Ag (u v : Nat -> F2) (c : Nat -> Bool) : ∀ n, (dR u v c n).length = n * 25
 | 0 => rfl
 | n + 1 => by rw [D5, List.length_append, Ag u v c n, so]; show n * 25 + 25 = _; omega
theorem EW (L1 L2 n : Nat) (KA LA : List Value) (qu qv : F2) (qc : Bool) (hn : n <= 4) (h0 : 0 < n) (h1 : n <= L1) (h2 : n <= L2) (x y : Nat -> Fin Pp) (b : Nat -> Bool) (u v : Nat -> F2) (c : Nat -> Bool) (k l : Nat -> Nat)
  (hk : ∀ i, i < n -> sizes [.n 4 (k i)] = 4 /\ ((flat [.l KA]).drop (i * 4)).take 4 = flat [.n 4 (k i)]) (hl : ∀ i, i < n -> sizes [.n 4 (l i)] = 4 /\ ((flat [.l LA]).drop (i * 4)).take 4 = flat [.n 4 (l i)])
  (hA : ∀ i, Tells prog 6 [.t (.ag [.q (ofP g1x), .q (ofP g1y), .c (.bool false)]), .t (.ag [.n 4 (k i)])] (.tp [.ag [.q (x i), .q (y i), .c (.bool (b i))], vi0 0])) (hB : ∀ i, Tells prog 4 [.t (.ag [.q qu.1, .q qu.2, .q qv.1, .q qv.2, .c (.bool qc)]), .t (.ag [.n 4 (l i)])] (.tp [.ag [.q (u i).1, .q (u i).2, .q (v i).1, .q (v i).2, .c (.bool (c i))], vi0 0])) :
  EO (tsZ L1 L2 n KA LA qu qv qc ).aa (.exit 0) (tsE L1 L2 n KA LA qu qv qc (cR x y b n) (dR u v c n)).aa := by
 have hh := sT (P := prog) (fb := 0) (rd := false) (body := (ql f3 0)) (ex := .exit 0) (E := tsE L1 L2 n KA LA qu qv qc (cR x y b n) (dR u v c n)) (m := fun y0 : { i : Nat // i <= n } => n - y0.val) (fun y0 => match y0.val with | 0 => tsZ L1 L2 n KA LA qu qv qc | i + 1 => tsI L1 L2 n KA LA qu qv qc (i + 1) (cR x y b (i + 1)) (dR u v c (i + 1))) (by simp) (fun y0 => ?_) ⟨0, by omega⟩
 ·exact hh
 obtain ⟨i, hi⟩ := y0
 match i, hi with
 | 0, hi =>
  refine .inl ⟨⟨1, by omega⟩, by show n - 1 < n - 0; omega, ?_⟩
  have h := ZG L1 L2 n KA LA qu qv qc hn h0 h1 h2 (ofP g1x) (ofP g1y) (x 0) (y 0) (b 0) (u 0) (v 0) (c 0) (k 0) (l 0) (hk 0 h0) (hl 0 h0) NH (hA 0) (hB 0)
  have e1 : cR x y b 1 = flat [.q (x 0), .q (y 0), .c (.bool (b 0))] := by rw [Ek]; rfl
  have e2 : dR u v c 1 = flat [.q (u 0).1, .q (u 0).2, .q (v 0).1, .q (v 0).2, .c (.bool (c 0))] := by rw [D5]; rfl
  rw [← e1, ← e2] at h
  exact h
 | i + 1, hi =>
  by_cases e : i + 1 < n
  ·refine .inl ⟨⟨i + 1 + 1, e⟩, by show n - (i + 1 + 1) < n - (i + 1); omega, ?_⟩
   have h := aav L1 L2 n KA LA qu qv qc (i + 1) (cR x y b (i + 1)) (dR u v c (i + 1)) (At x y b _) (Ag u v c _) hn e h1 h2 (ofP g1x) (ofP g1y) (x (i + 1)) (y (i + 1)) (b (i + 1)) (u (i + 1)) (v (i + 1)) (c (i + 1)) (k (i + 1)) (l (i + 1)) (hk _ e) (hl _ e) NH (hA _) (hB _)
   rw [← Ek, ← D5] at h
   exact h
  ·have e : i + 1 = n := by omega
   refine .inr ?_
   show Sound _ _ _ _ (tsI L1 L2 n KA LA qu qv qc (i + 1) (cR x y b (i + 1)) (dR u v c (i + 1))).aa _ _
   rw [e]
   exact VA L1 L2 n KA LA qu qv qc _ _
theorem Rc (L1 L2 : Nat) (KA LA : List Value) (qu qv : F2) (qc : Bool) : EO (tsZ L1 L2 0 KA LA qu qv qc).aa (.exit 0) (tsF L1 L2 0 KA LA qu qv qc).aa := by
 have hh := sT (P := prog) (fb := 0) (rd := false) (body := (ql f3 0)) (ex := .exit 0) (E := tsF L1 L2 0 KA LA qu qv qc) (m := fun y0 : Unit => 0) (fun y0 => tsZ L1 L2 0 KA LA qu qv qc) (by simp) (fun y0 => .inr (QZ L1 L2 KA LA qu qv qc)) ()
 exact hh
end Go.Proofs.YtfbkefgoblcmpaaGreat
set_option linter.unusedSimpArgs false
set_option linter.unusedVariables false
namespace Go.Proofs.YtfbkefgoblcmpaaGreat
open Go.Ev Go.RowKit
open Tryz
theorem Sy : gE = some (ofP g1x, ofP g1y) := Fg _ _
theorem Sv : gQ = some ((ofP xh, ofP xg), (ofP wV, ofP wA)) := El
theorem one_mul (k : Nat) (hk : k < 115792089237316195423570985008687907853269984665640564039457584007913129639936) : Tells prog 6 [.t (.ag [.q (ofP g1x), .q (ofP g1y), .c (.bool false)]), .t (.ag [.n 4 k])] (.tp [.ag [.q (pX1 (nsE gE k)), .q (pY1 (nsE gE k)), .c (.bool (pI1 (nsE gE k)))], vi0 0]) := by
 have h := Ty (pX1 gE) (pY1 gE) (pI1 gE) (ub qN) k hk _ (Te qN k (Nat.lt_of_lt_of_eq hk (by decide)))
 rw [Sy] at h
 rw [Sy]
 exact h
theorem xL (k : Nat) (hk : k < 115792089237316195423570985008687907853269984665640564039457584007913129639936) : Tells prog 4 [.t (.ag [.q (ofP xh), .q (ofP xg), .q (ofP wV), .q (ofP wA), .c (.bool false)]), .t (.ag [.n 4 k])] (.tp [.ag [.q (pX2 (nsEq gQ k)).1, .q (pX2 (nsEq gQ k)).2, .q (pY2 (nsEq gQ k)).1, .q (pY2 (nsEq gQ k)).2, .c (.bool (pI2 (nsEq gQ k)))], vi0 0]) := by
 have h := Mg (pX2 gQ) (pY2 gQ) (pI2 gQ) (Ig OJ) k hk _ (Ol OJ k (Nat.lt_of_lt_of_eq hk (by decide)))
 rw [Sv] at h
 rw [Sv]
 exact h
theorem two_mul {Q : qn} (hQ : onE1q Q) (k : Nat) (hk : k < 115792089237316195423570985008687907853269984665640564039457584007913129639936) : Tells prog 4 [.t (.ag [.q (pX2 (Q)).1, .q (pX2 (Q)).2, .q (pY2 (Q)).1, .q (pY2 (Q)).2, .c (.bool (pI2 (Q)))]), .t (.ag [.n 4 k])] (.tp [.ag [.q (pX2 (nsEq Q k)).1, .q (pX2 (nsEq Q k)).2, .q (pY2 (nsEq Q k)).1, .q (pY2 (nsEq Q k)).2, .c (.bool (pI2 (nsEq Q k)))], vi0 0]) :=
 Mg (pX2 Q) (pY2 Q) (pI2 Q) (Ig hQ) k hk _ (Ol hQ k (Nat.lt_of_lt_of_eq hk (by decide)))
theorem zw {P : PtE} (hP : onE1 P) : Tells prog 9 [.t (.ag [.q (pX1 (P)), .q (pY1 (P)), .c (.bool (pI1 (P)))])] (.tp [.ag [.q (pX1 (ngE1 P)), .q (pY1 (ngE1 P)), .c (.bool (pI1 (ngE1 P)))], vi0 0]) :=
 UY (pX1 P) (pY1 P) (pI1 P) (ub hP) _ (SI P)
theorem tm {P : PtE} (hP : onE1 P) (hR : nsE P Rr = none) {Q : qn} (hQ : Good2 Q) : Tells prog 27 [.t (.ag [.q (pX1 (P)), .q (pY1 (P)), .c (.bool (pI1 (P)))]), .t (.ag [.q (pX2 (Q)).1, .q (pX2 (Q)).2, .q (pY2 (Q)).1, .q (pY2 (Q)).2, .c (.bool (pI2 (Q)))])] (vi0 0) :=
 W7 _ _ _ _ _ _ (ub hP) (TG hP hR) (Ig hQ.on) (Uh hQ.on hQ.R)
theorem Cg (P : PtE) (Q : qn) (e : Nat) (he : e = 15132376222941642752) : Tells prog 30 [.t (.ag [.q (pX1 (P)), .q (pY1 (P)), .c (.bool (pI1 (P)))]), .t (.ag [.q (pX2 (Q)).1, .q (pX2 (Q)).2, .q (pY2 (Q)).1, .q (pY2 (Q)).2, .c (.bool (pI2 (Q)))])] (.ag (m12 (lopP P Q e))) := X6 _ _ _ _ _ _ e he
def pF (n : Nat) (A : Nat -> PtE) (T : PtE) (i : Nat) : PtE := if i < n then A i else T
def qF (n : Nat) (B : Nat -> qn) (Q : qn) (i : Nat) : qn := if i < n then B i else Q
theorem yN (n : Nat) (A : Nat -> PtE) (T : PtE) (i : Nat) (h : i < n) : pF n A T i = A i := if_pos h
theorem OI (n : Nat) (A : Nat -> PtE) (T : PtE) : pF n A T n = T := if_neg (Nat.lt_irrefl n)
theorem yM (n : Nat) (B : Nat -> qn) (Q : qn) (i : Nat) (h : i < n) : qF n B Q i = B i := if_pos h
theorem Oa (n : Nat) (B : Nat -> qn) (Q : qn) : qF n B Q n = Q := if_neg (Nat.lt_irrefl n)
theorem G4 (n m : Nat) (k l : Nat -> Nat) (e i : Nat) : lstL n m k l e i = lopP (pF n (fun i => nsE gE (k i)) (ngE1 (nsE gE (sumN (fun j => k j * l j) n))) i) (qF n (fun i => nsEq (nsEq gQ m) (l i)) (nsEq gQ m) i) e := by
 unfold lstL pF qF
 by_cases h : i < n
 ·rw [if_pos h, if_pos h, if_pos h]
 ·rw [if_neg h, if_neg h, if_neg h]
theorem zx (k l : Nat -> Nat) : ∀ n, sumI (fun i => (l i : Int) * (k i : Int)) n = ((sumN (fun j => k j * l j) n : Nat) : Int)
 | 0 => rfl
 | n + 1 => by
  show sumI _ n + (l n : Int) * (k n : Int) = ((sumN (fun j => k j * l j) n + k n * l n : Nat) : Int)
  rw [zx k l n, Nat.mul_comm (k n)]
  simp
theorem Wl (A : Nat -> PtE) (T : PtE) (B : Nat -> qn) (Q : qn) (L F : Nat -> F12) (Z : F12) (hP : ∀ i, onE1 (pF 0 A T i)) (hR : ∀ i, nsE (pF 0 A T i) Rr = none) (hQ : ∀ i, Good2 (qF 0 B Q i)) (e : Nat) (he : e = 15132376222941642752) (hLL : ∀ i, L i = lopP (pF 0 A T i) (qF 0 B Q i) e) (h0 : F 0 = one12) (hF : ∀ i, F (i + 1) = mul12 (F i) (L i)) (hZ : A6 (F 1) = Z) (hE : Z = one12) : Tells prog 10 [.rx [.q (pX1 (T)), .q (pY1 (T)), .c (.bool (pI1 (T)))] 1, .rx [.q (pX2 (Q)).1, .q (pX2 (Q)).2, .q (pY2 (Q)).1, .q (pY2 (Q)).2, .c (.bool (pI2 (Q)))] 1] (.tp [.v (.bool true), vi0 0]) := by
 have hL : ∀ i, Tells prog 30 [.t (.ag [.q (pX1 (pF 0 A T i)), .q (pY1 (pF 0 A T i)), .c (.bool (pI1 (pF 0 A T i)))]), .t (.ag [.q (pX2 (qF 0 B Q i)).1, .q (pX2 (qF 0 B Q i)).2, .q (pY2 (qF 0 B Q i)).1, .q (pY2 (qF 0 B Q i)).2, .c (.bool (pI2 (qF 0 B Q i)))])] (.ag (m12 (L i))) := fun i => by rw [hLL]; exact Cg _ _ e he
 have hM : ∀ i, Tells prog 29 [.t (.ag (m12 (F i))), .t (.ag (m12 (L i)))] (.ag (m12 (F (i + 1)))) := fun i => by rw [hF]; exact uf _ _
 have hO : Tells prog 28 [] (.ag (m12 (F 0))) := by rw [h0]; exact qT sD (by kernel_rfl)
 have hFi : Tells prog 31 [.t (.ag (m12 (F 1)))] (.ag (m12 Z)) := by rw [← hZ]; exact qi (fun vs w => Go.Proofs.enters_of (P := prog) func31 (by kernel_rfl) rfl vs w) (xO _)
 have h := PT (fun i => pX1 (pF 0 A T i)) (fun i => pY1 (pF 0 A T i)) (fun i => pI1 (pF 0 A T i)) (fun i => pX2 (qF 0 B Q i)) (fun i => pY2 (qF 0 B Q i)) (fun i => pI2 (qF 0 B Q i)) L F Z (qe (tm (hP 0) (hR 0) (hQ 0)) (qw)) (qe (hL 0) (qw)) (qe (hM 0) (qw)) hO hFi (hE.trans h0.symm)
 refine qZ h (fun w vs hx => ?_)
 match vs, hx with
 | [a1, a2], hx =>
  refine ⟨sH rfl ?_ hx.1, sH rfl ?_ hx.2.1, tt0⟩
  ·show _ = flat [.q (pX1 (pF 0 A T 0)), .q (pY1 (pF 0 A T 0)), .c (.bool (pI1 (pF 0 A T 0)))]
   rw [OI 0 A T]
  ·show _ = flat [.q (pX2 (qF 0 B Q 0)).1, .q (pX2 (qF 0 B Q 0)).2, .q (pY2 (qF 0 B Q 0)).1, .q (pY2 (qF 0 B Q 0)).2, .c (.bool (pI2 (qF 0 B Q 0)))]
   rw [Oa 0 B Q]
theorem Zl (A : Nat -> PtE) (T : PtE) (B : Nat -> qn) (Q : qn) (L F : Nat -> F12) (Z : F12) (hP : ∀ i, onE1 (pF 1 A T i)) (hR : ∀ i, nsE (pF 1 A T i) Rr = none) (hQ : ∀ i, Good2 (qF 1 B Q i)) (e : Nat) (he : e = 15132376222941642752) (hLL : ∀ i, L i = lopP (pF 1 A T i) (qF 1 B Q i) e) (h0 : F 0 = one12) (hF : ∀ i, F (i + 1) = mul12 (F i) (L i)) (hZ : A6 (F 2) = Z) (hE : Z = one12) : Tells prog 10 [.rx [.l (cR (fun i => pX1 (A i)) (fun i => pY1 (A i)) (fun i => pI1 (A i)) 1), .q (pX1 (T)), .q (pY1 (T)), .c (.bool (pI1 (T)))] 2, .rx [.l (dR (fun i => pX2 (B i)) (fun i => pY2 (B i)) (fun i => pI2 (B i)) 1), .q (pX2 (Q)).1, .q (pX2 (Q)).2, .q (pY2 (Q)).1, .q (pY2 (Q)).2, .c (.bool (pI2 (Q)))] 2] (.tp [.v (.bool true), vi0 0]) := by
 have hL : ∀ i, Tells prog 30 [.t (.ag [.q (pX1 (pF 1 A T i)), .q (pY1 (pF 1 A T i)), .c (.bool (pI1 (pF 1 A T i)))]), .t (.ag [.q (pX2 (qF 1 B Q i)).1, .q (pX2 (qF 1 B Q i)).2, .q (pY2 (qF 1 B Q i)).1, .q (pY2 (qF 1 B Q i)).2, .c (.bool (pI2 (qF 1 B Q i)))])] (.ag (m12 (L i))) := fun i => by rw [hLL]; exact Cg _ _ e he
 have hM : ∀ i, Tells prog 29 [.t (.ag (m12 (F i))), .t (.ag (m12 (L i)))] (.ag (m12 (F (i + 1)))) := fun i => by rw [hF]; exact uf _ _
 have hO : Tells prog 28 [] (.ag (m12 (F 0))) := by rw [h0]; exact qT sD (by kernel_rfl)
 have hFi : Tells prog 31 [.t (.ag (m12 (F 2)))] (.ag (m12 Z)) := by rw [← hZ]; exact qi (fun vs w => Go.Proofs.enters_of (P := prog) func31 (by kernel_rfl) rfl vs w) (xO _)
 have h := PB (fun i => pX1 (pF 1 A T i)) (fun i => pY1 (pF 1 A T i)) (fun i => pI1 (pF 1 A T i)) (fun i => pX2 (qF 1 B Q i)) (fun i => pY2 (qF 1 B Q i)) (fun i => pI2 (qF 1 B Q i)) L F Z (qe (tm (hP 0) (hR 0) (hQ 0)) (qe (tm (hP 1) (hR 1) (hQ 1)) (qw))) (qe (hL 0) (qe (hL 1) (qw))) (qe (hM 0) (qe (hM 1) (qw))) hO hFi (hE.trans h0.symm)
 refine qZ h (fun w vs hx => ?_)
 match vs, hx with
 | [a1, a2], hx =>
  refine ⟨sH rfl ?_ hx.1, sH rfl ?_ hx.2.1, tt0⟩
  ·show _ = flat [.q (pX1 (pF 1 A T 0)), .q (pY1 (pF 1 A T 0)), .c (.bool (pI1 (pF 1 A T 0))), .q (pX1 (pF 1 A T 1)), .q (pY1 (pF 1 A T 1)), .c (.bool (pI1 (pF 1 A T 1)))]
   rw [yN 1 A T 0 (by decide), OI 1 A T]
   simp [cR, List.range_succ, flat, Ch.cells]
  ·show _ = flat [.q (pX2 (qF 1 B Q 0)).1, .q (pX2 (qF 1 B Q 0)).2, .q (pY2 (qF 1 B Q 0)).1, .q (pY2 (qF 1 B Q 0)).2, .c (.bool (pI2 (qF 1 B Q 0))), .q (pX2 (qF 1 B Q 1)).1, .q (pX2 (qF 1 B Q 1)).2, .q (pY2 (qF 1 B Q 1)).1, .q (pY2 (qF 1 B Q 1)).2, .c (.bool (pI2 (qF 1 B Q 1)))]
   rw [yM 1 B Q 0 (by decide), Oa 1 B Q]
   simp [dR, List.range_succ, flat, Ch.cells]
theorem Wy (A : Nat -> PtE) (T : PtE) (B : Nat -> qn) (Q : qn) (L F : Nat -> F12) (Z : F12) (hP : ∀ i, onE1 (pF 2 A T i)) (hR : ∀ i, nsE (pF 2 A T i) Rr = none) (hQ : ∀ i, Good2 (qF 2 B Q i)) (e : Nat) (he : e = 15132376222941642752) (hLL : ∀ i, L i = lopP (pF 2 A T i) (qF 2 B Q i) e) (h0 : F 0 = one12) (hF : ∀ i, F (i + 1) = mul12 (F i) (L i)) (hZ : A6 (F 3) = Z) (hE : Z = one12) : Tells prog 10 [.rx [.l (cR (fun i => pX1 (A i)) (fun i => pY1 (A i)) (fun i => pI1 (A i)) 2), .q (pX1 (T)), .q (pY1 (T)), .c (.bool (pI1 (T)))] 3, .rx [.l (dR (fun i => pX2 (B i)) (fun i => pY2 (B i)) (fun i => pI2 (B i)) 2), .q (pX2 (Q)).1, .q (pX2 (Q)).2, .q (pY2 (Q)).1, .q (pY2 (Q)).2, .c (.bool (pI2 (Q)))] 3] (.tp [.v (.bool true), vi0 0]) := by
 have hL : ∀ i, Tells prog 30 [.t (.ag [.q (pX1 (pF 2 A T i)), .q (pY1 (pF 2 A T i)), .c (.bool (pI1 (pF 2 A T i)))]), .t (.ag [.q (pX2 (qF 2 B Q i)).1, .q (pX2 (qF 2 B Q i)).2, .q (pY2 (qF 2 B Q i)).1, .q (pY2 (qF 2 B Q i)).2, .c (.bool (pI2 (qF 2 B Q i)))])] (.ag (m12 (L i))) := fun i => by rw [hLL]; exact Cg _ _ e he
 have hM : ∀ i, Tells prog 29 [.t (.ag (m12 (F i))), .t (.ag (m12 (L i)))] (.ag (m12 (F (i + 1)))) := fun i => by rw [hF]; exact uf _ _
 have hO : Tells prog 28 [] (.ag (m12 (F 0))) := by rw [h0]; exact qT sD (by kernel_rfl)
 have hFi : Tells prog 31 [.t (.ag (m12 (F 3)))] (.ag (m12 Z)) := by rw [← hZ]; exact qi (fun vs w => Go.Proofs.enters_of (P := prog) func31 (by kernel_rfl) rfl vs w) (xO _)
 have h := QI (fun i => pX1 (pF 2 A T i)) (fun i => pY1 (pF 2 A T i)) (fun i => pI1 (pF 2 A T i)) (fun i => pX2 (qF 2 B Q i)) (fun i => pY2 (qF 2 B Q i)) (fun i => pI2 (qF 2 B Q i)) L F Z (qe (tm (hP 0) (hR 0) (hQ 0)) (qe (tm (hP 1) (hR 1) (hQ 1)) (qe (tm (hP 2) (hR 2) (hQ 2)) (qw)))) (qe (hL 0) (qe (hL 1) (qe (hL 2) (qw)))) (qe (hM 0) (qe (hM 1) (qe (hM 2) (qw)))) hO hFi (hE.trans h0.symm)
 refine qZ h (fun w vs hx => ?_)
 match vs, hx with
 | [a1, a2], hx =>
  refine ⟨sH rfl ?_ hx.1, sH rfl ?_ hx.2.1, tt0⟩
  ·show _ = flat [.q (pX1 (pF 2 A T 0)), .q (pY1 (pF 2 A T 0)), .c (.bool (pI1 (pF 2 A T 0))), .q (pX1 (pF 2 A T 1)), .q (pY1 (pF 2 A T 1)), .c (.bool (pI1 (pF 2 A T 1))), .q (pX1 (pF 2 A T 2)), .q (pY1 (pF 2 A T 2)), .c (.bool (pI1 (pF 2 A T 2)))]
   rw [yN 2 A T 0 (by decide), yN 2 A T 1 (by decide), OI 2 A T]
   simp [cR, List.range_succ, flat, Ch.cells]
  ·show _ = flat [.q (pX2 (qF 2 B Q 0)).1, .q (pX2 (qF 2 B Q 0)).2, .q (pY2 (qF 2 B Q 0)).1, .q (pY2 (qF 2 B Q 0)).2, .c (.bool (pI2 (qF 2 B Q 0))), .q (pX2 (qF 2 B Q 1)).1, .q (pX2 (qF 2 B Q 1)).2, .q (pY2 (qF 2 B Q 1)).1, .q (pY2 (qF 2 B Q 1)).2, .c (.bool (pI2 (qF 2 B Q 1))), .q (pX2 (qF 2 B Q 2)).1, .q (pX2 (qF 2 B Q 2)).2, .q (pY2 (qF 2 B Q 2)).1, .q (pY2 (qF 2 B Q 2)).2, .c (.bool (pI2 (qF 2 B Q 2)))]
   rw [yM 2 B Q 0 (by decide), yM 2 B Q 1 (by decide), Oa 2 B Q]
   simp [dR, List.range_succ, flat, Ch.cells]
theorem Yw (A : Nat -> PtE) (T : PtE) (B : Nat -> qn) (Q : qn) (L F : Nat -> F12) (Z : F12) (hP : ∀ i, onE1 (pF 3 A T i)) (hR : ∀ i, nsE (pF 3 A T i) Rr = none) (hQ : ∀ i, Good2 (qF 3 B Q i)) (e : Nat) (he : e = 15132376222941642752) (hLL : ∀ i, L i = lopP (pF 3 A T i) (qF 3 B Q i) e) (h0 : F 0 = one12) (hF : ∀ i, F (i + 1) = mul12 (F i) (L i)) (hZ : A6 (F 4) = Z) (hE : Z = one12) : Tells prog 10 [.rx [.l (cR (fun i => pX1 (A i)) (fun i => pY1 (A i)) (fun i => pI1 (A i)) 3), .q (pX1 (T)), .q (pY1 (T)), .c (.bool (pI1 (T)))] 4, .rx [.l (dR (fun i => pX2 (B i)) (fun i => pY2 (B i)) (fun i => pI2 (B i)) 3), .q (pX2 (Q)).1, .q (pX2 (Q)).2, .q (pY2 (Q)).1, .q (pY2 (Q)).2, .c (.bool (pI2 (Q)))] 4] (.tp [.v (.bool true), vi0 0]) := by
 have hL : ∀ i, Tells prog 30 [.t (.ag [.q (pX1 (pF 3 A T i)), .q (pY1 (pF 3 A T i)), .c (.bool (pI1 (pF 3 A T i)))]), .t (.ag [.q (pX2 (qF 3 B Q i)).1, .q (pX2 (qF 3 B Q i)).2, .q (pY2 (qF 3 B Q i)).1, .q (pY2 (qF 3 B Q i)).2, .c (.bool (pI2 (qF 3 B Q i)))])] (.ag (m12 (L i))) := fun i => by rw [hLL]; exact Cg _ _ e he
 have hM : ∀ i, Tells prog 29 [.t (.ag (m12 (F i))), .t (.ag (m12 (L i)))] (.ag (m12 (F (i + 1)))) := fun i => by rw [hF]; exact uf _ _
 have hO : Tells prog 28 [] (.ag (m12 (F 0))) := by rw [h0]; exact qT sD (by kernel_rfl)
 have hFi : Tells prog 31 [.t (.ag (m12 (F 4)))] (.ag (m12 Z)) := by rw [← hZ]; exact qi (fun vs w => Go.Proofs.enters_of (P := prog) func31 (by kernel_rfl) rfl vs w) (xO _)
 have h := Rd (fun i => pX1 (pF 3 A T i)) (fun i => pY1 (pF 3 A T i)) (fun i => pI1 (pF 3 A T i)) (fun i => pX2 (qF 3 B Q i)) (fun i => pY2 (qF 3 B Q i)) (fun i => pI2 (qF 3 B Q i)) L F Z (qe (tm (hP 0) (hR 0) (hQ 0)) (qe (tm (hP 1) (hR 1) (hQ 1)) (qe (tm (hP 2) (hR 2) (hQ 2)) (qe (tm (hP 3) (hR 3) (hQ 3)) (qw))))) (qe (hL 0) (qe (hL 1) (qe (hL 2) (qe (hL 3) (qw))))) (qe (hM 0) (qe (hM 1) (qe (hM 2) (qe (hM 3) (qw))))) hO hFi (hE.trans h0.symm)
 refine qZ h (fun w vs hx => ?_)
 match vs, hx with
 | [a1, a2], hx =>
  refine ⟨sH rfl ?_ hx.1, sH rfl ?_ hx.2.1, tt0⟩
  ·show _ = flat [.q (pX1 (pF 3 A T 0)), .q (pY1 (pF 3 A T 0)), .c (.bool (pI1 (pF 3 A T 0))), .q (pX1 (pF 3 A T 1)), .q (pY1 (pF 3 A T 1)), .c (.bool (pI1 (pF 3 A T 1))), .q (pX1 (pF 3 A T 2)), .q (pY1 (pF 3 A T 2)), .c (.bool (pI1 (pF 3 A T 2))), .q (pX1 (pF 3 A T 3)), .q (pY1 (pF 3 A T 3)), .c (.bool (pI1 (pF 3 A T 3)))]
   rw [yN 3 A T 0 (by decide), yN 3 A T 1 (by decide), yN 3 A T 2 (by decide), OI 3 A T]
   simp [cR, List.range_succ, flat, Ch.cells]
  ·show _ = flat [.q (pX2 (qF 3 B Q 0)).1, .q (pX2 (qF 3 B Q 0)).2, .q (pY2 (qF 3 B Q 0)).1, .q (pY2 (qF 3 B Q 0)).2, .c (.bool (pI2 (qF 3 B Q 0))), .q (pX2 (qF 3 B Q 1)).1, .q (pX2 (qF 3 B Q 1)).2, .q (pY2 (qF 3 B Q 1)).1, .q (pY2 (qF 3 B Q 1)).2, .c (.bool (pI2 (qF 3 B Q 1))), .q (pX2 (qF 3 B Q 2)).1, .q (pX2 (qF 3 B Q 2)).2, .q (pY2 (qF 3 B Q 2)).1, .q (pY2 (qF 3 B Q 2)).2, .c (.bool (pI2 (qF 3 B Q 2))), .q (pX2 (qF 3 B Q 3)).1, .q (pX2 (qF 3 B Q 3)).2, .q (pY2 (qF 3 B Q 3)).1, .q (pY2 (qF 3 B Q 3)).2, .c (.bool (pI2 (qF 3 B Q 3)))]
   rw [yM 3 B Q 0 (by decide), yM 3 B Q 1 (by decide), yM 3 B Q 2 (by decide), Oa 3 B Q]
   simp [dR, List.range_succ, flat, Ch.cells]
theorem Yn (A : Nat -> PtE) (T : PtE) (B : Nat -> qn) (Q : qn) (L F : Nat -> F12) (Z : F12) (hP : ∀ i, onE1 (pF 4 A T i)) (hR : ∀ i, nsE (pF 4 A T i) Rr = none) (hQ : ∀ i, Good2 (qF 4 B Q i)) (e : Nat) (he : e = 15132376222941642752) (hLL : ∀ i, L i = lopP (pF 4 A T i) (qF 4 B Q i) e) (h0 : F 0 = one12) (hF : ∀ i, F (i + 1) = mul12 (F i) (L i)) (hZ : A6 (F 5) = Z) (hE : Z = one12) : Tells prog 10 [.rx [.l (cR (fun i => pX1 (A i)) (fun i => pY1 (A i)) (fun i => pI1 (A i)) 4), .q (pX1 (T)), .q (pY1 (T)), .c (.bool (pI1 (T)))] 5, .rx [.l (dR (fun i => pX2 (B i)) (fun i => pY2 (B i)) (fun i => pI2 (B i)) 4), .q (pX2 (Q)).1, .q (pX2 (Q)).2, .q (pY2 (Q)).1, .q (pY2 (Q)).2, .c (.bool (pI2 (Q)))] 5] (.tp [.v (.bool true), vi0 0]) := by
 have hL : ∀ i, Tells prog 30 [.t (.ag [.q (pX1 (pF 4 A T i)), .q (pY1 (pF 4 A T i)), .c (.bool (pI1 (pF 4 A T i)))]), .t (.ag [.q (pX2 (qF 4 B Q i)).1, .q (pX2 (qF 4 B Q i)).2, .q (pY2 (qF 4 B Q i)).1, .q (pY2 (qF 4 B Q i)).2, .c (.bool (pI2 (qF 4 B Q i)))])] (.ag (m12 (L i))) := fun i => by rw [hLL]; exact Cg _ _ e he
 have hM : ∀ i, Tells prog 29 [.t (.ag (m12 (F i))), .t (.ag (m12 (L i)))] (.ag (m12 (F (i + 1)))) := fun i => by rw [hF]; exact uf _ _
 have hO : Tells prog 28 [] (.ag (m12 (F 0))) := by rw [h0]; exact qT sD (by kernel_rfl)
 have hFi : Tells prog 31 [.t (.ag (m12 (F 5)))] (.ag (m12 Z)) := by rw [← hZ]; exact qi (fun vs w => Go.Proofs.enters_of (P := prog) func31 (by kernel_rfl) rfl vs w) (xO _)
 have h := PC (fun i => pX1 (pF 4 A T i)) (fun i => pY1 (pF 4 A T i)) (fun i => pI1 (pF 4 A T i)) (fun i => pX2 (qF 4 B Q i)) (fun i => pY2 (qF 4 B Q i)) (fun i => pI2 (qF 4 B Q i)) L F Z (qe (tm (hP 0) (hR 0) (hQ 0)) (qe (tm (hP 1) (hR 1) (hQ 1)) (qe (tm (hP 2) (hR 2) (hQ 2)) (qe (tm (hP 3) (hR 3) (hQ 3)) (qe (tm (hP 4) (hR 4) (hQ 4)) (qw)))))) (qe (hL 0) (qe (hL 1) (qe (hL 2) (qe (hL 3) (qe (hL 4) (qw)))))) (qe (hM 0) (qe (hM 1) (qe (hM 2) (qe (hM 3) (qe (hM 4) (qw)))))) hO hFi (hE.trans h0.symm)
 refine qZ h (fun w vs hx => ?_)
 match vs, hx with
 | [a1, a2], hx =>
  refine ⟨sH rfl ?_ hx.1, sH rfl ?_ hx.2.1, tt0⟩
  ·show _ = flat [.q (pX1 (pF 4 A T 0)), .q (pY1 (pF 4 A T 0)), .c (.bool (pI1 (pF 4 A T 0))), .q (pX1 (pF 4 A T 1)), .q (pY1 (pF 4 A T 1)), .c (.bool (pI1 (pF 4 A T 1))), .q (pX1 (pF 4 A T 2)), .q (pY1 (pF 4 A T 2)), .c (.bool (pI1 (pF 4 A T 2))), .q (pX1 (pF 4 A T 3)), .q (pY1 (pF 4 A T 3)), .c (.bool (pI1 (pF 4 A T 3))), .q (pX1 (pF 4 A T 4)), .q (pY1 (pF 4 A T 4)), .c (.bool (pI1 (pF 4 A T 4)))]
   rw [yN 4 A T 0 (by decide), yN 4 A T 1 (by decide), yN 4 A T 2 (by decide), yN 4 A T 3 (by decide), OI 4 A T]
   simp [cR, List.range_succ, flat, Ch.cells]
  ·show _ = flat [.q (pX2 (qF 4 B Q 0)).1, .q (pX2 (qF 4 B Q 0)).2, .q (pY2 (qF 4 B Q 0)).1, .q (pY2 (qF 4 B Q 0)).2, .c (.bool (pI2 (qF 4 B Q 0))), .q (pX2 (qF 4 B Q 1)).1, .q (pX2 (qF 4 B Q 1)).2, .q (pY2 (qF 4 B Q 1)).1, .q (pY2 (qF 4 B Q 1)).2, .c (.bool (pI2 (qF 4 B Q 1))), .q (pX2 (qF 4 B Q 2)).1, .q (pX2 (qF 4 B Q 2)).2, .q (pY2 (qF 4 B Q 2)).1, .q (pY2 (qF 4 B Q 2)).2, .c (.bool (pI2 (qF 4 B Q 2))), .q (pX2 (qF 4 B Q 3)).1, .q (pX2 (qF 4 B Q 3)).2, .q (pY2 (qF 4 B Q 3)).1, .q (pY2 (qF 4 B Q 3)).2, .c (.bool (pI2 (qF 4 B Q 3))), .q (pX2 (qF 4 B Q 4)).1, .q (pX2 (qF 4 B Q 4)).2, .q (pY2 (qF 4 B Q 4)).1, .q (pY2 (qF 4 B Q 4)).2, .c (.bool (pI2 (qF 4 B Q 4)))]
   rw [yM 4 B Q 0 (by decide), yM 4 B Q 1 (by decide), yM 4 B Q 2 (by decide), yM 4 B Q 3 (by decide), Oa 4 B Q]
   simp [dR, List.range_succ, flat, Ch.cells]
theorem WQ (A : Nat -> PtE) (hA : ∀ i, onE1 (A i)) (l : Nat -> Nat) (hl : ∀ i, l i < 115792089237316195423570985008687907853269984665640564039457584007913129639936) (f : Nat -> Pt1) (hf : f = fun i => in1 (a1 (A i))) (S : PtE) (hS : afJ (zerP1) = S) : Tells prog 8 [.t (.v (.slice none 0 0)), .rz [.l ((List.range 0).flatMap fun j => limbs 4 (l j))] 0] (.tp [.ag [.q (pX1 (S)), .q (pY1 (S)), .c (.bool (pI1 (S)))], vi0 0]) := by
 subst hf
 generalize hf : (fun i => in1 (a1 (A i))) = f at hS
 have hi : ∀ i, in1 (a1 (A i)) = f i := fun i => by rw [← hf]
 have hI : ∀ i, Tells prog 18 [.t (.ag [.q (pX1 (A i)), .q (pY1 (A i)), .c (.bool (pI1 (A i)))])] (.ag (pc1 (f i))) := fun i => by rw [← hi]; exact CM _ _ _
 have hAl : Tells prog 23 _ (.ag (pc1 (zerP1))) := WK
 have hO := yZ (zerP1) S hS
 generalize zerP1 = R at hAl hO
 have h := S3 (fun i => pX1 (A i)) (fun i => pY1 (A i)) (fun i => pI1 (A i)) l f R (pX1 S) (pY1 S) (pI1 S) (qw) (qw) hAl hO
 refine qZ h (fun w vs hx => ?_)
 match vs, hx with
 | [v1, v2], hx => exact ⟨hx.1, zB rfl (by simp [flat, Ch.cells]) hx.2.1, tt0⟩
theorem Yq (A : Nat -> PtE) (hA : ∀ i, onE1 (A i)) (l : Nat -> Nat) (hl : ∀ i, l i < 115792089237316195423570985008687907853269984665640564039457584007913129639936) (f : Nat -> Pt1) (hf : f = fun i => in1 (a1 (A i))) (S : PtE) (hS : afJ (alF 1 f l 52) = S) : Tells prog 8 [.rx [.l (cR (fun i => pX1 (A i)) (fun i => pY1 (A i)) (fun i => pI1 (A i)) 1)] 1, .rz [.l ((List.range 1).flatMap fun j => limbs 4 (l j))] 1] (.tp [.ag [.q (pX1 (S)), .q (pY1 (S)), .c (.bool (pI1 (S)))], vi0 0]) := by
 subst hf
 generalize hf : (fun i => in1 (a1 (A i))) = f at hS
 have hi : ∀ i, in1 (a1 (A i)) = f i := fun i => by rw [← hf]
 have hI : ∀ i, Tells prog 18 [.t (.ag [.q (pX1 (A i)), .q (pY1 (A i)), .c (.bool (pI1 (A i)))])] (.ag (pc1 (f i))) := fun i => by rw [← hi]; exact CM _ _ _
 have hAl : Tells prog 23 _ (.ag (pc1 (alF 1 f l 52))) := V1 f l hl
 have hO := yZ (alF 1 f l 52) S hS
 generalize alF 1 f l 52 = R at hAl hO
 have h := UF (fun i => pX1 (A i)) (fun i => pY1 (A i)) (fun i => pI1 (A i)) l f R (pX1 S) (pY1 S) (pI1 S) (qe (s8 _ _ _ (ub (hA 0))) (qw)) (qe (hI 0) (qw)) hAl hO
 refine qZ h (fun w vs hx => ?_)
 match vs, hx with
 | [v1, v2], hx => exact ⟨sH rfl (by simp [cR, List.range_succ, flat, Ch.cells]) hx.1, zB rfl (by simp [List.range_succ, flat, Ch.cells]) hx.2.1, tt0⟩
theorem Zg (A : Nat -> PtE) (hA : ∀ i, onE1 (A i)) (l : Nat -> Nat) (hl : ∀ i, l i < 115792089237316195423570985008687907853269984665640564039457584007913129639936) (f : Nat -> Pt1) (hf : f = fun i => in1 (a1 (A i))) (S : PtE) (hS : afJ (alF 2 f l 52) = S) : Tells prog 8 [.rx [.l (cR (fun i => pX1 (A i)) (fun i => pY1 (A i)) (fun i => pI1 (A i)) 2)] 2, .rz [.l ((List.range 2).flatMap fun j => limbs 4 (l j))] 2] (.tp [.ag [.q (pX1 (S)), .q (pY1 (S)), .c (.bool (pI1 (S)))], vi0 0]) := by
 subst hf
 generalize hf : (fun i => in1 (a1 (A i))) = f at hS
 have hi : ∀ i, in1 (a1 (A i)) = f i := fun i => by rw [← hf]
 have hI : ∀ i, Tells prog 18 [.t (.ag [.q (pX1 (A i)), .q (pY1 (A i)), .c (.bool (pI1 (A i)))])] (.ag (pc1 (f i))) := fun i => by rw [← hi]; exact CM _ _ _
 have hAl : Tells prog 23 _ (.ag (pc1 (alF 2 f l 52))) := Wr f l hl
 have hO := yZ (alF 2 f l 52) S hS
 generalize alF 2 f l 52 = R at hAl hO
 have h := SZ (fun i => pX1 (A i)) (fun i => pY1 (A i)) (fun i => pI1 (A i)) l f R (pX1 S) (pY1 S) (pI1 S) (qe (s8 _ _ _ (ub (hA 0))) (qe (s8 _ _ _ (ub (hA 1))) (qw))) (qe (hI 0) (qe (hI 1) (qw))) hAl hO
 refine qZ h (fun w vs hx => ?_)
 match vs, hx with
 | [v1, v2], hx => exact ⟨sH rfl (by simp [cR, List.range_succ, flat, Ch.cells]) hx.1, zB rfl (by simp [List.range_succ, flat, Ch.cells]) hx.2.1, tt0⟩
theorem XM (A : Nat -> PtE) (hA : ∀ i, onE1 (A i)) (l : Nat -> Nat) (hl : ∀ i, l i < 115792089237316195423570985008687907853269984665640564039457584007913129639936) (f : Nat -> Pt1) (hf : f = fun i => in1 (a1 (A i))) (S : PtE) (hS : afJ (alF 3 f l 52) = S) : Tells prog 8 [.rx [.l (cR (fun i => pX1 (A i)) (fun i => pY1 (A i)) (fun i => pI1 (A i)) 3)] 3, .rz [.l ((List.range 3).flatMap fun j => limbs 4 (l j))] 3] (.tp [.ag [.q (pX1 (S)), .q (pY1 (S)), .c (.bool (pI1 (S)))], vi0 0]) := by
 subst hf
 generalize hf : (fun i => in1 (a1 (A i))) = f at hS
 have hi : ∀ i, in1 (a1 (A i)) = f i := fun i => by rw [← hf]
 have hI : ∀ i, Tells prog 18 [.t (.ag [.q (pX1 (A i)), .q (pY1 (A i)), .c (.bool (pI1 (A i)))])] (.ag (pc1 (f i))) := fun i => by rw [← hi]; exact CM _ _ _
 have hAl : Tells prog 23 _ (.ag (pc1 (alF 3 f l 52))) := Ze f l hl
 have hO := yZ (alF 3 f l 52) S hS
 generalize alF 3 f l 52 = R at hAl hO
 have h := Up (fun i => pX1 (A i)) (fun i => pY1 (A i)) (fun i => pI1 (A i)) l f R (pX1 S) (pY1 S) (pI1 S) (qe (s8 _ _ _ (ub (hA 0))) (qe (s8 _ _ _ (ub (hA 1))) (qe (s8 _ _ _ (ub (hA 2))) (qw)))) (qe (hI 0) (qe (hI 1) (qe (hI 2) (qw)))) hAl hO
 refine qZ h (fun w vs hx => ?_)
 match vs, hx with
 | [v1, v2], hx => exact ⟨sH rfl (by simp [cR, List.range_succ, flat, Ch.cells]) hx.1, zB rfl (by simp [List.range_succ, flat, Ch.cells]) hx.2.1, tt0⟩
theorem Zk (A : Nat -> PtE) (hA : ∀ i, onE1 (A i)) (l : Nat -> Nat) (hl : ∀ i, l i < 115792089237316195423570985008687907853269984665640564039457584007913129639936) (f : Nat -> Pt1) (hf : f = fun i => in1 (a1 (A i))) (S : PtE) (hS : afJ (alF 4 f l 52) = S) : Tells prog 8 [.rx [.l (cR (fun i => pX1 (A i)) (fun i => pY1 (A i)) (fun i => pI1 (A i)) 4)] 4, .rz [.l ((List.range 4).flatMap fun j => limbs 4 (l j))] 4] (.tp [.ag [.q (pX1 (S)), .q (pY1 (S)), .c (.bool (pI1 (S)))], vi0 0]) := by
 subst hf
 generalize hf : (fun i => in1 (a1 (A i))) = f at hS
 have hi : ∀ i, in1 (a1 (A i)) = f i := fun i => by rw [← hf]
 have hI : ∀ i, Tells prog 18 [.t (.ag [.q (pX1 (A i)), .q (pY1 (A i)), .c (.bool (pI1 (A i)))])] (.ag (pc1 (f i))) := fun i => by rw [← hi]; exact CM _ _ _
 have hAl : Tells prog 23 _ (.ag (pc1 (alF 4 f l 52))) := Xf f l hl
 have hO := yZ (alF 4 f l 52) S hS
 generalize alF 4 f l 52 = R at hAl hO
 have h := SR (fun i => pX1 (A i)) (fun i => pY1 (A i)) (fun i => pI1 (A i)) l f R (pX1 S) (pY1 S) (pI1 S) (qe (s8 _ _ _ (ub (hA 0))) (qe (s8 _ _ _ (ub (hA 1))) (qe (s8 _ _ _ (ub (hA 2))) (qe (s8 _ _ _ (ub (hA 3))) (qw))))) (qe (hI 0) (qe (hI 1) (qe (hI 2) (qe (hI 3) (qw))))) hAl hO
 refine qZ h (fun w vs hx => ?_)
 match vs, hx with
 | [v1, v2], hx => exact ⟨sH rfl (by simp [cR, List.range_succ, flat, Ch.cells]) hx.1, zB rfl (by simp [List.range_succ, flat, Ch.cells]) hx.2.1, tt0⟩
theorem UG (ks ls : List Nat) (m : Nat) (hm : m < 115792089237316195423570985008687907853269984665640564039457584007913129639936) (hk : ∀ i, ks.getD i 0 < 115792089237316195423570985008687907853269984665640564039457584007913129639936) (hl : ∀ i, ls.getD i 0 < 115792089237316195423570985008687907853269984665640564039457584007913129639936) (h1 : 0 <= ks.length) (h2 : 0 <= ls.length)
  (hmin : (if (4 : Int) < (if ((ls.length : Nat) : Int) < ((ks.length : Nat) : Int) then ((ls.length : Nat) : Int) else ((ks.length : Nat) : Int)) then 4 else (if ((ls.length : Nat) : Int) < ((ks.length : Nat) : Int) then ((ls.length : Nat) : Int) else ((ks.length : Nat) : Int))) = ((0 : Nat) : Int)) :
  Gives prog 3 [.rz [.l (qY 4 ks)] ks.length, .rz [.l (qY 4 ls)] ls.length, .t (.ag [.n 4 m])] (.v (.bool true)) := by
 generalize hkk : (fun i => ks.getD i 0) = k
 generalize hll : (fun i => ls.getD i 0) = l
 have hk1 : ∀ i, k i < 115792089237316195423570985008687907853269984665640564039457584007913129639936 := fun i => by rw [← hkk]; exact hk i
 have hl1 : ∀ i, l i < 115792089237316195423570985008687907853269984665640564039457584007913129639936 := fun i => by rw [← hll]; exact hl i
 have hk2 : ∀ i, i < 0 -> sizes [.n 4 (k i)] = 4 /\ ((flat [.l (qY 4 ks)]).drop (i * 4)).take 4 = flat [.n 4 (k i)] := fun i hi => by rw [← hkk]; exact vR ks i (by omega)
 have hl2 : ∀ i, i < 0 -> sizes [.n 4 (l i)] = 4 /\ ((flat [.l (qY 4 ls)]).drop (i * 4)).take 4 = flat [.n 4 (l i)] := fun i hi => by rw [← hll]; exact vR ls i (by omega)
 have hLS : flat [.l ((List.range 0).flatMap fun j => limbs 4 (l j))] = (flat [.l (qY 4 ls)]).take (0 * 4) := by
  rw [ry, ry, uS ls 0 h2, ← hll]
 have hQ := yp.ns m
 have hM := xL m hm
 have hsum : afJ zerP1 = nsE gE (sumN (fun j => k j * l j) 0) := sP rfl
 have hS := WQ (fun i => nsE gE (k i)) (fun i => re qN _) l hl1 _ rfl _ hsum
 have hSo := re qN (sumN (fun j => k j * l j) 0)
 have hSr : nsE (nsE gE (sumN (fun j => k j * l j) 0)) Rr = none := by rw [qW qN, Nat.mul_comm, ← qW qN, Au, rY]
 obtain ⟨e, he⟩ : ∃ e : Nat, e = xT := ⟨_, rfl⟩
 have hpair := x9 0 m k l e he
 have he2 : e = 15132376222941642752 := he.trans Le
 have hlst := G4 0 m k l e
 generalize hT : ngE1 (nsE gE (sumN (fun j => k j * l j) 0)) = T at hlst
 have hTo : onE1 T := by rw [← hT]; exact ye hSo
 have hTr : nsE T Rr = none := by rw [← hT]; exact zN hSo hSr
 have hN := zw hSo
 rw [hT] at hN
 generalize nsE gE (sumN (fun j => k j * l j) 0) = S at hS hN
 generalize nsEq gQ m = Q at hQ hM hlst
 have hP : ∀ i, onE1 (pF 0 (fun i => nsE gE (k i)) T i) := fun i => by
  unfold pF; split
  ·exact re qN _
  ·exact hTo
 have hR : ∀ i, nsE (pF 0 (fun i => nsE gE (k i)) T i) Rr = none := fun i => by
  unfold pF; split
  ·rw [qW qN, Nat.mul_comm, ← qW qN, Au, rY]
  ·exact hTr
 have hG : ∀ i, Good2 (qF 0 (fun i => nsEq Q (l i)) Q i) := fun i => by
  unfold qF; split
  ·exact hQ.ns _
  ·exact hQ
 have hK := Wl (fun i => nsE gE (k i)) T (fun i => nsEq Q (l i)) Q (lstL 0 m k l e) (prF (lstL 0 m k l e)) _ hP hR hG e he2 hlst rfl (fun _ => rfl) rfl hpair
 have hL := Rc ks.length ls.length (qY 4 ks) (qY 4 ls) (pX2 Q) (pY2 Q) (pI2 Q)
 exact Xp ks.length ls.length (qY 4 ks) (qY 4 ls) _ (pX2 Q) (pY2 Q) (pI2 Q) (pX1 T) (pY1 T) (pI1 T) (pX1 S) (pY1 S) (pI1 S) (ofP xh, ofP xg) (ofP wV, ofP wA) m hmin h2 hLS hL CL hM hS hN hK
theorem UT (ks ls : List Nat) (m : Nat) (hm : m < 115792089237316195423570985008687907853269984665640564039457584007913129639936) (hk : ∀ i, ks.getD i 0 < 115792089237316195423570985008687907853269984665640564039457584007913129639936) (hl : ∀ i, ls.getD i 0 < 115792089237316195423570985008687907853269984665640564039457584007913129639936) (h1 : 1 <= ks.length) (h2 : 1 <= ls.length)
  (hmin : (if (4 : Int) < (if ((ls.length : Nat) : Int) < ((ks.length : Nat) : Int) then ((ls.length : Nat) : Int) else ((ks.length : Nat) : Int)) then 4 else (if ((ls.length : Nat) : Int) < ((ks.length : Nat) : Int) then ((ls.length : Nat) : Int) else ((ks.length : Nat) : Int))) = ((1 : Nat) : Int)) :
  Gives prog 3 [.rz [.l (qY 4 ks)] ks.length, .rz [.l (qY 4 ls)] ls.length, .t (.ag [.n 4 m])] (.v (.bool true)) := by
 generalize hkk : (fun i => ks.getD i 0) = k
 generalize hll : (fun i => ls.getD i 0) = l
 have hk1 : ∀ i, k i < 115792089237316195423570985008687907853269984665640564039457584007913129639936 := fun i => by rw [← hkk]; exact hk i
 have hl1 : ∀ i, l i < 115792089237316195423570985008687907853269984665640564039457584007913129639936 := fun i => by rw [← hll]; exact hl i
 have hk2 : ∀ i, i < 1 -> sizes [.n 4 (k i)] = 4 /\ ((flat [.l (qY 4 ks)]).drop (i * 4)).take 4 = flat [.n 4 (k i)] := fun i hi => by rw [← hkk]; exact vR ks i (by omega)
 have hl2 : ∀ i, i < 1 -> sizes [.n 4 (l i)] = 4 /\ ((flat [.l (qY 4 ls)]).drop (i * 4)).take 4 = flat [.n 4 (l i)] := fun i hi => by rw [← hll]; exact vR ls i (by omega)
 have hLS : flat [.l ((List.range 1).flatMap fun j => limbs 4 (l j))] = (flat [.l (qY 4 ls)]).take (1 * 4) := by
  rw [ry, ry, uS ls 1 h2, ← hll]
 have hQ := yp.ns m
 have hM := xL m hm
 have hsum := I5 (f := fun i => in1 (a1 (nsE gE (k i)))) (a := fun i => ((k i : Nat) : Int)) (fun i => by rw [zM, uD]) 1 l hl1
 rw [zx k l 1, uD] at hsum
 have hS := Yq (fun i => nsE gE (k i)) (fun i => re qN _) l hl1 _ rfl _ hsum
 have hSo := re qN (sumN (fun j => k j * l j) 1)
 have hSr : nsE (nsE gE (sumN (fun j => k j * l j) 1)) Rr = none := by rw [qW qN, Nat.mul_comm, ← qW qN, Au, rY]
 obtain ⟨e, he⟩ : ∃ e : Nat, e = xT := ⟨_, rfl⟩
 have hpair := x9 1 m k l e he
 have he2 : e = 15132376222941642752 := he.trans Le
 have hlst := G4 1 m k l e
 generalize hT : ngE1 (nsE gE (sumN (fun j => k j * l j) 1)) = T at hlst
 have hTo : onE1 T := by rw [← hT]; exact ye hSo
 have hTr : nsE T Rr = none := by rw [← hT]; exact zN hSo hSr
 have hN := zw hSo
 rw [hT] at hN
 generalize nsE gE (sumN (fun j => k j * l j) 1) = S at hS hN
 generalize nsEq gQ m = Q at hQ hM hlst
 have hP : ∀ i, onE1 (pF 1 (fun i => nsE gE (k i)) T i) := fun i => by
  unfold pF; split
  ·exact re qN _
  ·exact hTo
 have hR : ∀ i, nsE (pF 1 (fun i => nsE gE (k i)) T i) Rr = none := fun i => by
  unfold pF; split
  ·rw [qW qN, Nat.mul_comm, ← qW qN, Au, rY]
  ·exact hTr
 have hG : ∀ i, Good2 (qF 1 (fun i => nsEq Q (l i)) Q i) := fun i => by
  unfold qF; split
  ·exact hQ.ns _
  ·exact hQ
 have hK := Zl (fun i => nsE gE (k i)) T (fun i => nsEq Q (l i)) Q (lstL 1 m k l e) (prF (lstL 1 m k l e)) _ hP hR hG e he2 hlst rfl (fun _ => rfl) rfl hpair
 have hA := fun i => one_mul (k i) (hk1 i)
 have hB := fun i => two_mul hQ.on (l i) (hl1 i)
 have hL := EW ks.length ls.length 1 (qY 4 ks) (qY 4 ls) (pX2 Q) (pY2 Q) (pI2 Q) (by decide) (by decide) h1 h2 (fun i => pX1 (nsE gE (k i))) (fun i => pY1 (nsE gE (k i))) (fun i => pI1 (nsE gE (k i))) (fun i => pX2 (nsEq Q (l i))) (fun i => pY2 (nsEq Q (l i))) (fun i => pI2 (nsEq Q (l i))) k l hk2 hl2 hA hB
 exact IM ks.length ls.length 1 (qY 4 ks) (qY 4 ls) _ (pX2 Q) (pY2 Q) (pI2 Q) _ _ (by decide) (At _ _ _ _) (Ag _ _ _ _) (pX1 T) (pY1 T) (pI1 T) (pX1 S) (pY1 S) (pI1 S) (ofP xh, ofP xg) (ofP wV, ofP wA) m hmin h2 hLS hL CL hM hS hN hK
theorem Vt (ks ls : List Nat) (m : Nat) (hm : m < 115792089237316195423570985008687907853269984665640564039457584007913129639936) (hk : ∀ i, ks.getD i 0 < 115792089237316195423570985008687907853269984665640564039457584007913129639936) (hl : ∀ i, ls.getD i 0 < 115792089237316195423570985008687907853269984665640564039457584007913129639936) (h1 : 2 <= ks.length) (h2 : 2 <= ls.length)
  (hmin : (if (4 : Int) < (if ((ls.length : Nat) : Int) < ((ks.length : Nat) : Int) then ((ls.length : Nat) : Int) else ((ks.length : Nat) : Int)) then 4 else (if ((ls.length : Nat) : Int) < ((ks.length : Nat) : Int) then ((ls.length : Nat) : Int) else ((ks.length : Nat) : Int))) = ((2 : Nat) : Int)) :
  Gives prog 3 [.rz [.l (qY 4 ks)] ks.length, .rz [.l (qY 4 ls)] ls.length, .t (.ag [.n 4 m])] (.v (.bool true)) := by
 generalize hkk : (fun i => ks.getD i 0) = k
 generalize hll : (fun i => ls.getD i 0) = l
 have hk1 : ∀ i, k i < 115792089237316195423570985008687907853269984665640564039457584007913129639936 := fun i => by rw [← hkk]; exact hk i
 have hl1 : ∀ i, l i < 115792089237316195423570985008687907853269984665640564039457584007913129639936 := fun i => by rw [← hll]; exact hl i
 have hk2 : ∀ i, i < 2 -> sizes [.n 4 (k i)] = 4 /\ ((flat [.l (qY 4 ks)]).drop (i * 4)).take 4 = flat [.n 4 (k i)] := fun i hi => by rw [← hkk]; exact vR ks i (by omega)
 have hl2 : ∀ i, i < 2 -> sizes [.n 4 (l i)] = 4 /\ ((flat [.l (qY 4 ls)]).drop (i * 4)).take 4 = flat [.n 4 (l i)] := fun i hi => by rw [← hll]; exact vR ls i (by omega)
 have hLS : flat [.l ((List.range 2).flatMap fun j => limbs 4 (l j))] = (flat [.l (qY 4 ls)]).take (2 * 4) := by
  rw [ry, ry, uS ls 2 h2, ← hll]
 have hQ := yp.ns m
 have hM := xL m hm
 have hsum := I5 (f := fun i => in1 (a1 (nsE gE (k i)))) (a := fun i => ((k i : Nat) : Int)) (fun i => by rw [zM, uD]) 2 l hl1
 rw [zx k l 2, uD] at hsum
 have hS := Zg (fun i => nsE gE (k i)) (fun i => re qN _) l hl1 _ rfl _ hsum
 have hSo := re qN (sumN (fun j => k j * l j) 2)
 have hSr : nsE (nsE gE (sumN (fun j => k j * l j) 2)) Rr = none := by rw [qW qN, Nat.mul_comm, ← qW qN, Au, rY]
 obtain ⟨e, he⟩ : ∃ e : Nat, e = xT := ⟨_, rfl⟩
 have hpair := x9 2 m k l e he
 have he2 : e = 15132376222941642752 := he.trans Le
 have hlst := G4 2 m k l e
 generalize hT : ngE1 (nsE gE (sumN (fun j => k j * l j) 2)) = T at hlst
 have hTo : onE1 T := by rw [← hT]; exact ye hSo
 have hTr : nsE T Rr = none := by rw [← hT]; exact zN hSo hSr
 have hN := zw hSo
 rw [hT] at hN
 generalize nsE gE (sumN (fun j => k j * l j) 2) = S at hS hN
 generalize nsEq gQ m = Q at hQ hM hlst
 have hP : ∀ i, onE1 (pF 2 (fun i => nsE gE (k i)) T i) := fun i => by
  unfold pF; split
  ·exact re qN _
  ·exact hTo
 have hR : ∀ i, nsE (pF 2 (fun i => nsE gE (k i)) T i) Rr = none := fun i => by
  unfold pF; split
  ·rw [qW qN, Nat.mul_comm, ← qW qN, Au, rY]
  ·exact hTr
 have hG : ∀ i, Good2 (qF 2 (fun i => nsEq Q (l i)) Q i) := fun i => by
  unfold qF; split
  ·exact hQ.ns _
  ·exact hQ
 have hK := Wy (fun i => nsE gE (k i)) T (fun i => nsEq Q (l i)) Q (lstL 2 m k l e) (prF (lstL 2 m k l e)) _ hP hR hG e he2 hlst rfl (fun _ => rfl) rfl hpair
 have hA := fun i => one_mul (k i) (hk1 i)
 have hB := fun i => two_mul hQ.on (l i) (hl1 i)
 have hL := EW ks.length ls.length 2 (qY 4 ks) (qY 4 ls) (pX2 Q) (pY2 Q) (pI2 Q) (by decide) (by decide) h1 h2 (fun i => pX1 (nsE gE (k i))) (fun i => pY1 (nsE gE (k i))) (fun i => pI1 (nsE gE (k i))) (fun i => pX2 (nsEq Q (l i))) (fun i => pY2 (nsEq Q (l i))) (fun i => pI2 (nsEq Q (l i))) k l hk2 hl2 hA hB
 exact IM ks.length ls.length 2 (qY 4 ks) (qY 4 ls) _ (pX2 Q) (pY2 Q) (pI2 Q) _ _ (by decide) (At _ _ _ _) (Ag _ _ _ _) (pX1 T) (pY1 T) (pI1 T) (pX1 S) (pY1 S) (pI1 S) (ofP xh, ofP xg) (ofP wV, ofP wA) m hmin h2 hLS hL CL hM hS hN hK
theorem ST (ks ls : List Nat) (m : Nat) (hm : m < 115792089237316195423570985008687907853269984665640564039457584007913129639936) (hk : ∀ i, ks.getD i 0 < 115792089237316195423570985008687907853269984665640564039457584007913129639936) (hl : ∀ i, ls.getD i 0 < 115792089237316195423570985008687907853269984665640564039457584007913129639936) (h1 : 3 <= ks.length) (h2 : 3 <= ls.length)
  (hmin : (if (4 : Int) < (if ((ls.length : Nat) : Int) < ((ks.length : Nat) : Int) then ((ls.length : Nat) : Int) else ((ks.length : Nat) : Int)) then 4 else (if ((ls.length : Nat) : Int) < ((ks.length : Nat) : Int) then ((ls.length : Nat) : Int) else ((ks.length : Nat) : Int))) = ((3 : Nat) : Int)) :
  Gives prog 3 [.rz [.l (qY 4 ks)] ks.length, .rz [.l (qY 4 ls)] ls.length, .t (.ag [.n 4 m])] (.v (.bool true)) := by
 generalize hkk : (fun i => ks.getD i 0) = k
 generalize hll : (fun i => ls.getD i 0) = l
 have hk1 : ∀ i, k i < 115792089237316195423570985008687907853269984665640564039457584007913129639936 := fun i => by rw [← hkk]; exact hk i
 have hl1 : ∀ i, l i < 115792089237316195423570985008687907853269984665640564039457584007913129639936 := fun i => by rw [← hll]; exact hl i
 have hk2 : ∀ i, i < 3 -> sizes [.n 4 (k i)] = 4 /\ ((flat [.l (qY 4 ks)]).drop (i * 4)).take 4 = flat [.n 4 (k i)] := fun i hi => by rw [← hkk]; exact vR ks i (by omega)
 have hl2 : ∀ i, i < 3 -> sizes [.n 4 (l i)] = 4 /\ ((flat [.l (qY 4 ls)]).drop (i * 4)).take 4 = flat [.n 4 (l i)] := fun i hi => by rw [← hll]; exact vR ls i (by omega)
 have hLS : flat [.l ((List.range 3).flatMap fun j => limbs 4 (l j))] = (flat [.l (qY 4 ls)]).take (3 * 4) := by
  rw [ry, ry, uS ls 3 h2, ← hll]
 have hQ := yp.ns m
 have hM := xL m hm
 have hsum := I5 (f := fun i => in1 (a1 (nsE gE (k i)))) (a := fun i => ((k i : Nat) : Int)) (fun i => by rw [zM, uD]) 3 l hl1
 rw [zx k l 3, uD] at hsum
 have hS := XM (fun i => nsE gE (k i)) (fun i => re qN _) l hl1 _ rfl _ hsum
 have hSo := re qN (sumN (fun j => k j * l j) 3)
 have hSr : nsE (nsE gE (sumN (fun j => k j * l j) 3)) Rr = none := by rw [qW qN, Nat.mul_comm, ← qW qN, Au, rY]
 obtain ⟨e, he⟩ : ∃ e : Nat, e = xT := ⟨_, rfl⟩
 have hpair := x9 3 m k l e he
 have he2 : e = 15132376222941642752 := he.trans Le
 have hlst := G4 3 m k l e
 generalize hT : ngE1 (nsE gE (sumN (fun j => k j * l j) 3)) = T at hlst
 have hTo : onE1 T := by rw [← hT]; exact ye hSo
 have hTr : nsE T Rr = none := by rw [← hT]; exact zN hSo hSr
 have hN := zw hSo
 rw [hT] at hN
 generalize nsE gE (sumN (fun j => k j * l j) 3) = S at hS hN
 generalize nsEq gQ m = Q at hQ hM hlst
 have hP : ∀ i, onE1 (pF 3 (fun i => nsE gE (k i)) T i) := fun i => by
  unfold pF; split
  ·exact re qN _
  ·exact hTo
 have hR : ∀ i, nsE (pF 3 (fun i => nsE gE (k i)) T i) Rr = none := fun i => by
  unfold pF; split
  ·rw [qW qN, Nat.mul_comm, ← qW qN, Au, rY]
  ·exact hTr
 have hG : ∀ i, Good2 (qF 3 (fun i => nsEq Q (l i)) Q i) := fun i => by
  unfold qF; split
  ·exact hQ.ns _
  ·exact hQ
 have hK := Yw (fun i => nsE gE (k i)) T (fun i => nsEq Q (l i)) Q (lstL 3 m k l e) (prF (lstL 3 m k l e)) _ hP hR hG e he2 hlst rfl (fun _ => rfl) rfl hpair
 have hA := fun i => one_mul (k i) (hk1 i)
 have hB := fun i => two_mul hQ.on (l i) (hl1 i)
 have hL := EW ks.length ls.length 3 (qY 4 ks) (qY 4 ls) (pX2 Q) (pY2 Q) (pI2 Q) (by decide) (by decide) h1 h2 (fun i => pX1 (nsE gE (k i))) (fun i => pY1 (nsE gE (k i))) (fun i => pI1 (nsE gE (k i))) (fun i => pX2 (nsEq Q (l i))) (fun i => pY2 (nsEq Q (l i))) (fun i => pI2 (nsEq Q (l i))) k l hk2 hl2 hA hB
 exact IM ks.length ls.length 3 (qY 4 ks) (qY 4 ls) _ (pX2 Q) (pY2 Q) (pI2 Q) _ _ (by decide) (At _ _ _ _) (Ag _ _ _ _) (pX1 T) (pY1 T) (pI1 T) (pX1 S) (pY1 S) (pI1 S) (ofP xh, ofP xg) (ofP wV, ofP wA) m hmin h2 hLS hL CL hM hS hN hK
theorem Vd (ks ls : List Nat) (m : Nat) (hm : m < 115792089237316195423570985008687907853269984665640564039457584007913129639936) (hk : ∀ i, ks.getD i 0 < 115792089237316195423570985008687907853269984665640564039457584007913129639936) (hl : ∀ i, ls.getD i 0 < 115792089237316195423570985008687907853269984665640564039457584007913129639936) (h1 : 4 <= ks.length) (h2 : 4 <= ls.length)
  (hmin : (if (4 : Int) < (if ((ls.length : Nat) : Int) < ((ks.length : Nat) : Int) then ((ls.length : Nat) : Int) else ((ks.length : Nat) : Int)) then 4 else (if ((ls.length : Nat) : Int) < ((ks.length : Nat) : Int) then ((ls.length : Nat) : Int) else ((ks.length : Nat) : Int))) = ((4 : Nat) : Int)) :
  Gives prog 3 [.rz [.l (qY 4 ks)] ks.length, .rz [.l (qY 4 ls)] ls.length, .t (.ag [.n 4 m])] (.v (.bool true)) := by
 generalize hkk : (fun i => ks.getD i 0) = k
 generalize hll : (fun i => ls.getD i 0) = l
 have hk1 : ∀ i, k i < 115792089237316195423570985008687907853269984665640564039457584007913129639936 := fun i => by rw [← hkk]; exact hk i
 have hl1 : ∀ i, l i < 115792089237316195423570985008687907853269984665640564039457584007913129639936 := fun i => by rw [← hll]; exact hl i
 have hk2 : ∀ i, i < 4 -> sizes [.n 4 (k i)] = 4 /\ ((flat [.l (qY 4 ks)]).drop (i * 4)).take 4 = flat [.n 4 (k i)] := fun i hi => by rw [← hkk]; exact vR ks i (by omega)
 have hl2 : ∀ i, i < 4 -> sizes [.n 4 (l i)] = 4 /\ ((flat [.l (qY 4 ls)]).drop (i * 4)).take 4 = flat [.n 4 (l i)] := fun i hi => by rw [← hll]; exact vR ls i (by omega)
 have hLS : flat [.l ((List.range 4).flatMap fun j => limbs 4 (l j))] = (flat [.l (qY 4 ls)]).take (4 * 4) := by
  rw [ry, ry, uS ls 4 h2, ← hll]
 have hQ := yp.ns m
 have hM := xL m hm
 have hsum := I5 (f := fun i => in1 (a1 (nsE gE (k i)))) (a := fun i => ((k i : Nat) : Int)) (fun i => by rw [zM, uD]) 4 l hl1
 rw [zx k l 4, uD] at hsum
 have hS := Zk (fun i => nsE gE (k i)) (fun i => re qN _) l hl1 _ rfl _ hsum
 have hSo := re qN (sumN (fun j => k j * l j) 4)
 have hSr : nsE (nsE gE (sumN (fun j => k j * l j) 4)) Rr = none := by rw [qW qN, Nat.mul_comm, ← qW qN, Au, rY]
 obtain ⟨e, he⟩ : ∃ e : Nat, e = xT := ⟨_, rfl⟩
 have hpair := x9 4 m k l e he
 have he2 : e = 15132376222941642752 := he.trans Le
 have hlst := G4 4 m k l e
 generalize hT : ngE1 (nsE gE (sumN (fun j => k j * l j) 4)) = T at hlst
 have hTo : onE1 T := by rw [← hT]; exact ye hSo
 have hTr : nsE T Rr = none := by rw [← hT]; exact zN hSo hSr
 have hN := zw hSo
 rw [hT] at hN
 generalize nsE gE (sumN (fun j => k j * l j) 4) = S at hS hN
 generalize nsEq gQ m = Q at hQ hM hlst
 have hP : ∀ i, onE1 (pF 4 (fun i => nsE gE (k i)) T i) := fun i => by
  unfold pF; split
  ·exact re qN _
  ·exact hTo
 have hR : ∀ i, nsE (pF 4 (fun i => nsE gE (k i)) T i) Rr = none := fun i => by
  unfold pF; split
  ·rw [qW qN, Nat.mul_comm, ← qW qN, Au, rY]
  ·exact hTr
 have hG : ∀ i, Good2 (qF 4 (fun i => nsEq Q (l i)) Q i) := fun i => by
  unfold qF; split
  ·exact hQ.ns _
  ·exact hQ
 have hK := Yn (fun i => nsE gE (k i)) T (fun i => nsEq Q (l i)) Q (lstL 4 m k l e) (prF (lstL 4 m k l e)) _ hP hR hG e he2 hlst rfl (fun _ => rfl) rfl hpair
 have hA := fun i => one_mul (k i) (hk1 i)
 have hB := fun i => two_mul hQ.on (l i) (hl1 i)
 have hL := EW ks.length ls.length 4 (qY 4 ks) (qY 4 ls) (pX2 Q) (pY2 Q) (pI2 Q) (by decide) (by decide) h1 h2 (fun i => pX1 (nsE gE (k i))) (fun i => pY1 (nsE gE (k i))) (fun i => pI1 (nsE gE (k i))) (fun i => pX2 (nsEq Q (l i))) (fun i => pY2 (nsEq Q (l i))) (fun i => pI2 (nsEq Q (l i))) k l hk2 hl2 hA hB
 exact IM ks.length ls.length 4 (qY 4 ks) (qY 4 ls) _ (pX2 Q) (pY2 Q) (pI2 Q) _ _ (by decide) (At _ _ _ _) (Ag _ _ _ _) (pX1 T) (pY1 T) (pI1 T) (pX1 S) (pY1 S) (pI1 S) (ofP xh, ofP xg) (ofP wV, ofP wA) m hmin h2 hLS hL CL hM hS hN hK
end Go.Proofs.YtfbkefgoblcmpaaGreat
