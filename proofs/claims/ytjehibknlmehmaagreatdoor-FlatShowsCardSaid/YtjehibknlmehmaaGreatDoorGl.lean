/- Bodies of the gates and slices functions; printed by a program of these sessions. No condition. -/
import Derived.Test.YtjehibknlmehmaaGreatDoorProg
import Derived.Test.YtjehibknlmehmaaGreatDoorAb2
set_option maxRecDepth 100000
namespace Go.Proofs.YtjehibknlmehmaaGreatDoor
open Go.Ab
noncomputable abbrev Pg:Program:=Tryz.prog
theorem Tryz.mixed:Tryz.prog.follows .mixedOrders=true:=by kernel_rfl
namespace VF
abbrev rs:List Nat:=[4]
def n1:N2:=fun _ R _ _ _ x2 x3 h=>
R [(.fn (.func 117) [] [x2,x3])] h
def n2:N2:=fun W R N E P x0 x1 h=>
dF 1 3 x0 h fun t1 h2=>
dF 1 35 x1 h2 fun t3 h4=>
n1 W R N E P t1 t3 h4
theorem aI{x0 x1:AV}{h:AH}{M:WK}{R:RK}(hp:n2 (fun id=>M id\/h.next<=id) (aH Pg [.tmp 4] R) (aH Pg [.tmp 4] R) (fun _ _ _=>False) (fun v h=>R (.bV v) h) x0 x1 h):ay Pg 97 [x0,x1] h M R:=
 fin (n:=6) (pl:=[]) (rs:=[.tmp 4]) (L:=rs) (fun c=>(a2 n2 0 1 c)) Tryz.mixed Tryz.func97 (fun c=>
(sq (a2 n2 0 1 c)
(sl (a2 n1 2 3 c)))) hp
attribute [simp] n1 n2
end VF
namespace VE
abbrev rs:List Nat:=[4]
def n1:N2:=fun _ R _ _ _ x2 x3 h=>
R [(.fn (.func 118) [] [x2,x3])] h
def n2:N2:=fun W R N E P x0 x1 h=>
dF 1 3 x0 h fun t1 h2=>
dF 1 3 x1 h2 fun t3 h4=>
n1 W R N E P t1 t3 h4
theorem aI{x0 x1:AV}{h:AH}{M:WK}{R:RK}(hp:n2 (fun id=>M id\/h.next<=id) (aH Pg [.tmp 4] R) (aH Pg [.tmp 4] R) (fun _ _ _=>False) (fun v h=>R (.bV v) h) x0 x1 h):ay Pg 98 [x0,x1] h M R:=
 fin (n:=6) (pl:=[]) (rs:=[.tmp 4]) (L:=rs) (fun c=>(a2 n2 0 1 c)) Tryz.mixed Tryz.func98 (fun c=>
(sq (a2 n2 0 1 c)
(sl (a2 n1 2 3 c)))) hp
attribute [simp] n1 n2
end VE
namespace VD
abbrev rs:List Nat:=[6]
def n1:N3:=fun _ R _ _ _ x3 x4 x5 h=>
R [(.fn (.func 119) [] [x3,x4,x5])] h
def n2:N3:=fun W R N E P x0 x1 x2 h=>
dF 1 3 x0 h fun t1 h2=>
dF 1 3 x1 h2 fun t3 h4=>
dF 1 3 x2 h4 fun t5 h6=>
n1 W R N E P t1 t3 t5 h6
theorem aI{x0 x1 x2:AV}{h:AH}{M:WK}{R:RK}(hp:n2 (fun id=>M id\/h.next<=id) (aH Pg [.tmp 6] R) (aH Pg [.tmp 6] R) (fun _ _ _=>False) (fun v h=>R (.bV v) h) x0 x1 x2 h):ay Pg 99 [x0,x1,x2] h M R:=
 fin (n:=8) (pl:=[]) (rs:=[.tmp 6]) (L:=rs) (fun c=>(a3 n2 0 1 2 c)) Tryz.mixed Tryz.func99 (fun c=>
(sq (a3 n2 0 1 2 c)
(sl (a3 n1 3 4 5 c)))) hp
attribute [simp] n1 n2
end VD
namespace OT
abbrev rs:List Nat:=[6]
def n1:N3:=fun _ R _ _ _ x3 x4 x5 h=>
R [(.fn (.func 120) [] [x3,x4,x5])] h
def n2:N3:=fun W R N E P x0 x1 x2 h=>
dF 1 3 x0 h fun t1 h2=>
dF 1 3 x1 h2 fun t3 h4=>
dF 1 3 x2 h4 fun t5 h6=>
n1 W R N E P t1 t3 t5 h6
theorem aI{x0 x1 x2:AV}{h:AH}{M:WK}{R:RK}(hp:n2 (fun id=>M id\/h.next<=id) (aH Pg [.tmp 6] R) (aH Pg [.tmp 6] R) (fun _ _ _=>False) (fun v h=>R (.bV v) h) x0 x1 x2 h):ay Pg 100 [x0,x1,x2] h M R:=
 fin (n:=8) (pl:=[]) (rs:=[.tmp 6]) (L:=rs) (fun c=>(a3 n2 0 1 2 c)) Tryz.mixed Tryz.func100 (fun c=>
(sq (a3 n2 0 1 2 c)
(sl (a3 n1 3 4 5 c)))) hp
attribute [simp] n1 n2
end OT
namespace Qy
abbrev rs:List Nat:=[0]
def n1:N0:=fun W R _ _ P h=>
qD 139 h fun t1 h2=>
db (some (1,3,[.int .i64 0])) 1 [(0,(.sc (.int .i64 0)))] h2 fun t3 h4=>
aC Pg W 97 [(.sc (.int .i64 0)),t3] h4 (fun t5 h6=>
ck (some ([.int .i64 0,.int .i64 0,.bool false,.bool false,.string ⟨#[]⟩,.nilFunc],.inl [(0,1),(1,1),(2,1),(3,1),(4,1),(5,1)])) [(0,(.sc (.int .i64 1))),(1,(.sc (.int .i64 0))),(2,(.sc (.bool true))),(3,(.sc (.bool true))),(4,(.sc (.string ⟨#[105]⟩))),(5,t5)] fun t7=>
dP Pg (some (9,138)) t1 (.sc (.string ⟨#[105]⟩)) t7 h6 W fun h8=>
db (some (1,3,[.int .i64 0])) 1 [(0,(.sc (.int .i64 0)))] h8 fun t9 kV=>
aC Pg W 97 [(.sc (.int .i64 1)),t9] kV (fun t11 pb=>
ck (some ([.int .i64 0,.int .i64 0,.bool false,.bool false,.string ⟨#[]⟩,.nilFunc],.inl [(0,1),(1,1),(2,1),(3,1),(4,1),(5,1)])) [(0,(.sc (.int .i64 1))),(1,(.sc (.int .i64 0))),(2,(.sc (.bool true))),(3,(.sc (.bool false))),(4,(.sc (.string ⟨#[120]⟩))),(5,t11)] fun t13=>
dP Pg (some (9,138)) t1 (.sc (.string ⟨#[120]⟩)) t13 pb W fun sU=>
db (some (1,3,[.int .i64 0,.int .i64 0])) 2 [(0,(.sc (.int .i64 2))),(1,(.sc (.int .i64 6)))] sU fun t15 kU=>
aC Pg W 97 [(.sc (.int .i64 1)),t15] kU (fun t17 sS=>
ck (some ([.int .i64 0,.int .i64 0,.bool false,.bool false,.string ⟨#[]⟩,.nilFunc],.inl [(0,1),(1,1),(2,1),(3,1),(4,1),(5,1)])) [(0,(.sc (.int .i64 1))),(1,(.sc (.int .i64 0))),(2,(.sc (.bool true))),(3,(.sc (.bool false))),(4,(.sc (.string ⟨#[121]⟩))),(5,t17)] fun t19=>
dP Pg (some (9,138)) t1 (.sc (.string ⟨#[121]⟩)) t19 sS W fun qM=>
aC Pg W 98 [(.sc (.int .i64 1)),(.sc (.int .i64 4))] qM (fun t21 qj=>
ck (some ([.int .i64 0,.int .i64 0,.bool false,.bool false,.string ⟨#[]⟩,.nilFunc],.inl [(0,1),(1,1),(2,1),(3,1),(4,1),(5,1)])) [(0,(.sc (.int .i64 1))),(1,(.sc (.int .i64 0))),(2,(.sc (.bool true))),(3,(.sc (.bool true))),(4,(.sc (.string ⟨#[122]⟩))),(5,t21)] fun t23=>
dP Pg (some (9,138)) t1 (.sc (.string ⟨#[122]⟩)) t23 qj W fun vB=>
aC Pg W 99 [(.sc (.int .i64 0)),(.sc (.int .i64 0)),(.sc (.int .i64 4))] vB (fun t25 mV=>
ck (some ([.int .i64 0,.int .i64 0,.bool false,.bool false,.string ⟨#[]⟩,.nilFunc],.inl [(0,1),(1,1),(2,1),(3,1),(4,1),(5,1)])) [(0,(.sc (.int .i64 1))),(1,(.sc (.int .i64 1))),(2,(.sc (.bool true))),(3,(.sc (.bool false))),(4,(.sc (.string ⟨#[104]⟩))),(5,t25)] fun t27=>
dP Pg (some (9,138)) t1 (.sc (.string ⟨#[104]⟩)) t27 mV W fun vy=>
aC Pg W 98 [(.sc (.int .i64 1)),(.sc (.int .i64 2))] vy (fun t29 Qb=>
ck (some ([.int .i64 0,.int .i64 0,.bool false,.bool false,.string ⟨#[]⟩,.nilFunc],.inl [(0,1),(1,1),(2,1),(3,1),(4,1),(5,1)])) [(0,(.sc (.int .i64 1))),(1,(.sc (.int .i64 0))),(2,(.sc (.bool true))),(3,(.sc (.bool true))),(4,(.sc (.string ⟨#[115,100,103]⟩))),(5,t29)] fun t31=>
dP Pg (some (9,138)) t1 (.sc (.string ⟨#[115]⟩)) t31 Qb W fun qi=>
aC Pg W 98 [(.sc (.int .i64 1)),(.sc (.int .i64 6))] qi (fun t33 yD=>
ck (some ([.int .i64 0,.int .i64 0,.bool false,.bool false,.string ⟨#[]⟩,.nilFunc],.inl [(0,1),(1,1),(2,1),(3,1),(4,1),(5,1)])) [(0,(.sc (.int .i64 1))),(1,(.sc (.int .i64 0))),(2,(.sc (.bool true))),(3,(.sc (.bool true))),(4,(.sc (.string ⟨#[115]⟩))),(5,t33)] fun t35=>
dP Pg (some (9,138)) t1 (.sc (.string ⟨#[115,100,103]⟩)) t35 yD W fun yz=>
aC Pg W 98 [(.sc (.int .i64 1)),(.sc (.int .i64 1))] yz (fun t37 Hu=>
ck (some ([.int .i64 0,.int .i64 0,.bool false,.bool false,.string ⟨#[]⟩,.nilFunc],.inl [(0,1),(1,1),(2,1),(3,1),(4,1),(5,1)])) [(0,(.sc (.int .i64 1))),(1,(.sc (.int .i64 0))),(2,(.sc (.bool false))),(3,(.sc (.bool true))),(4,(.sc (.string ⟨#[116,100,103]⟩))),(5,t37)] fun t39=>
dP Pg (some (9,138)) t1 (.sc (.string ⟨#[116]⟩)) t39 Hu W fun P_=>
aC Pg W 98 [(.sc (.int .i64 1)),(.sc (.int .i64 7))] P_ (fun t41 YG=>
ck (some ([.int .i64 0,.int .i64 0,.bool false,.bool false,.string ⟨#[]⟩,.nilFunc],.inl [(0,1),(1,1),(2,1),(3,1),(4,1),(5,1)])) [(0,(.sc (.int .i64 1))),(1,(.sc (.int .i64 0))),(2,(.sc (.bool false))),(3,(.sc (.bool true))),(4,(.sc (.string ⟨#[116]⟩))),(5,t41)] fun t43=>
dP Pg (some (9,138)) t1 (.sc (.string ⟨#[116,100,103]⟩)) t43 YG W fun qL=>
aC Pg W 99 [(.sc (.int .i64 1)),(.sc (.int .i64 7)),(.sc (.int .i64 1))] qL (fun t45 Hs=>
ck (some ([.int .i64 0,.int .i64 0,.bool false,.bool false,.string ⟨#[]⟩,.nilFunc],.inl [(0,1),(1,1),(2,1),(3,1),(4,1),(5,1)])) [(0,(.sc (.int .i64 1))),(1,(.sc (.int .i64 1))),(2,(.sc (.bool true))),(3,(.sc (.bool false))),(4,(.sc (.string ⟨#[118,100,103]⟩))),(5,t45)] fun t47=>
dP Pg (some (9,138)) t1 (.sc (.string ⟨#[118]⟩)) t47 Hs W fun vt=>
aC Pg W 99 [(.sc (.int .i64 7)),(.sc (.int .i64 1)),(.sc (.int .i64 7))] vt (fun t49 sP=>
ck (some ([.int .i64 0,.int .i64 0,.bool false,.bool false,.string ⟨#[]⟩,.nilFunc],.inl [(0,1),(1,1),(2,1),(3,1),(4,1),(5,1)])) [(0,(.sc (.int .i64 1))),(1,(.sc (.int .i64 1))),(2,(.sc (.bool true))),(3,(.sc (.bool false))),(4,(.sc (.string ⟨#[118]⟩))),(5,t49)] fun t51=>
dP Pg (some (9,138)) t1 (.sc (.string ⟨#[118,100,103]⟩)) t51 sP W fun yv=>
db (some (1,3,[.int .i64 0])) 1 [(0,(.sc (.int .i64 1)))] yv fun t53 Dh=>
aC Pg W 97 [(.sc (.int .i64 0)),t53] Dh (fun t55 Fq=>
ck (some ([.int .i64 0,.int .i64 0,.bool false,.bool false,.string ⟨#[]⟩,.nilFunc],.inl [(0,1),(1,1),(2,1),(3,1),(4,1),(5,1)])) [(0,(.sc (.int .i64 1))),(1,(.sc (.int .i64 0))),(2,(.sc (.bool true))),(3,(.sc (.bool true))),(4,(.sc (.string ⟨#[119,100,103]⟩))),(5,t55)] fun t57=>
dP Pg (some (9,138)) t1 (.sc (.string ⟨#[119]⟩)) t57 Fq W fun tV=>
db (some (1,3,[.int .i64 0])) 1 [(0,(.sc (.int .i64 7)))] tV fun t59 UZ=>
aC Pg W 97 [(.sc (.int .i64 0)),t59] UZ (fun t61 wM=>
ck (some ([.int .i64 0,.int .i64 0,.bool false,.bool false,.string ⟨#[]⟩,.nilFunc],.inl [(0,1),(1,1),(2,1),(3,1),(4,1),(5,1)])) [(0,(.sc (.int .i64 1))),(1,(.sc (.int .i64 0))),(2,(.sc (.bool true))),(3,(.sc (.bool true))),(4,(.sc (.string ⟨#[119]⟩))),(5,t61)] fun t63=>
dP Pg (some (9,138)) t1 (.sc (.string ⟨#[119,100,103]⟩)) t63 wM W fun Fl=>
aC Pg W 100 [(.sc (.int .i64 1)),(.sc (.int .i64 3)),(.sc (.int .i64 0))] Fl (fun t65 Fk=>
ck (some ([.int .i64 0,.int .i64 0,.bool false,.bool false,.string ⟨#[]⟩,.nilFunc],.inl [(0,1),(1,1),(2,1),(3,1),(4,1),(5,1)])) [(0,(.sc (.int .i64 2))),(1,(.sc (.int .i64 0))),(2,(.sc (.bool true))),(3,(.sc (.bool false))),(4,(.sc (.string ⟨#[99,120]⟩))),(5,t65)] fun t67=>
dP Pg (some (9,138)) t1 (.sc (.string ⟨#[99,120]⟩)) t67 Fk W fun Fj=>
ck (some ([.int .i64 0,.int .i64 0,.bool false,.bool false,.string ⟨#[]⟩,.nilFunc],.inl [(0,1),(1,1),(2,1),(3,1),(4,1),(5,1)])) [(0,(.sc (.int .i64 2))),(1,(.sc (.int .i64 0))),(2,(.sc (.bool true))),(3,(.sc (.bool false))),(4,(.sc (.string ⟨#[99,121]⟩))),(5,(.fn (.func 101) [] []))] fun t69=>
dP Pg (some (9,138)) t1 (.sc (.string ⟨#[99,121]⟩)) t69 Fj W fun wL=>
aC Pg W 98 [(.sc (.int .i64 3)),(.sc (.int .i64 4))] wL (fun t71 Fi=>
ck (some ([.int .i64 0,.int .i64 0,.bool false,.bool false,.string ⟨#[]⟩,.nilFunc],.inl [(0,1),(1,1),(2,1),(3,1),(4,1),(5,1)])) [(0,(.sc (.int .i64 2))),(1,(.sc (.int .i64 0))),(2,(.sc (.bool true))),(3,(.sc (.bool true))),(4,(.sc (.string ⟨#[99,122]⟩))),(5,t71)] fun t73=>
dP Pg (some (9,138)) t1 (.sc (.string ⟨#[99,122]⟩)) t73 Fi W fun Lj=>
ck (some ([.int .i64 0,.int .i64 0,.bool false,.bool false,.string ⟨#[]⟩,.nilFunc],.inl [(0,1),(1,1),(2,1),(3,1),(4,1),(5,1)])) [(0,(.sc (.int .i64 2))),(1,(.sc (.int .i64 1))),(2,(.sc (.bool false))),(3,(.sc (.bool false))),(4,(.sc (.string ⟨#[99,104]⟩))),(5,(.fn (.func 102) [] []))] fun t75=>
dP Pg (some (9,138)) t1 (.sc (.string ⟨#[99,104]⟩)) t75 Lj W fun Li=>
aC Pg W 98 [(.sc (.int .i64 3)),(.sc (.int .i64 2))] Li (fun t77 Fh=>
ck (some ([.int .i64 0,.int .i64 0,.bool false,.bool false,.string ⟨#[]⟩,.nilFunc],.inl [(0,1),(1,1),(2,1),(3,1),(4,1),(5,1)])) [(0,(.sc (.int .i64 2))),(1,(.sc (.int .i64 0))),(2,(.sc (.bool false))),(3,(.sc (.bool true))),(4,(.sc (.string ⟨#[99,115,100,103]⟩))),(5,t77)] fun t79=>
dP Pg (some (9,138)) t1 (.sc (.string ⟨#[99,115]⟩)) t79 Fh W fun Lh=>
aC Pg W 98 [(.sc (.int .i64 3)),(.sc (.int .i64 6))] Lh (fun t81 Lg=>
ck (some ([.int .i64 0,.int .i64 0,.bool false,.bool false,.string ⟨#[]⟩,.nilFunc],.inl [(0,1),(1,1),(2,1),(3,1),(4,1),(5,1)])) [(0,(.sc (.int .i64 2))),(1,(.sc (.int .i64 0))),(2,(.sc (.bool false))),(3,(.sc (.bool true))),(4,(.sc (.string ⟨#[99,115]⟩))),(5,t81)] fun t83=>
dP Pg (some (9,138)) t1 (.sc (.string ⟨#[99,115,100,103]⟩)) t83 Lg W fun Bg=>
aC Pg W 100 [(.sc (.int .i64 1)),(.sc (.int .i64 2)),(.sc (.int .i64 0))] Bg (fun t85 Fg=>
ck (some ([.int .i64 0,.int .i64 0,.bool false,.bool false,.string ⟨#[]⟩,.nilFunc],.inl [(0,1),(1,1),(2,1),(3,1),(4,1),(5,1)])) [(0,(.sc (.int .i64 2))),(1,(.sc (.int .i64 0))),(2,(.sc (.bool true))),(3,(.sc (.bool false))),(4,(.sc (.string ⟨#[115,119,97,112]⟩))),(5,t85)] fun t87=>
dP Pg (some (9,138)) t1 (.sc (.string ⟨#[115,119,97,112]⟩)) t87 Fg W fun US=>
aC Pg W 100 [(.sc (.int .i64 1)),(.sc (.int .i64 2)),(.sc (.int .i64 2))] US (fun t89 h90=>
ck (some ([.int .i64 0,.int .i64 0,.bool false,.bool false,.string ⟨#[]⟩,.nilFunc],.inl [(0,1),(1,1),(2,1),(3,1),(4,1),(5,1)])) [(0,(.sc (.int .i64 2))),(1,(.sc (.int .i64 0))),(2,(.sc (.bool true))),(3,(.sc (.bool false))),(4,(.sc (.string ⟨#[105,115,119,97,112,100,103]⟩))),(5,t89)] fun t91=>
dP Pg (some (9,138)) t1 (.sc (.string ⟨#[105,115,119,97,112]⟩)) t91 h90 W fun Lf=>
aC Pg W 100 [(.sc (.int .i64 1)),(.sc (.int .i64 2)),(.sc (.int .i64 6))] Lf (fun t93 UQ=>
ck (some ([.int .i64 0,.int .i64 0,.bool false,.bool false,.string ⟨#[]⟩,.nilFunc],.inl [(0,1),(1,1),(2,1),(3,1),(4,1),(5,1)])) [(0,(.sc (.int .i64 2))),(1,(.sc (.int .i64 0))),(2,(.sc (.bool true))),(3,(.sc (.bool false))),(4,(.sc (.string ⟨#[105,115,119,97,112]⟩))),(5,t93)] fun t95=>
dP Pg (some (9,138)) t1 (.sc (.string ⟨#[105,115,119,97,112,100,103]⟩)) t95 UQ W fun h96=>
aC Pg W 100 [(.sc (.int .i64 3)),(.sc (.int .i64 7)),(.sc (.int .i64 0))] h96 (fun t97 Le=>
ck (some ([.int .i64 0,.int .i64 0,.bool false,.bool false,.string ⟨#[]⟩,.nilFunc],.inl [(0,1),(1,1),(2,1),(3,1),(4,1),(5,1)])) [(0,(.sc (.int .i64 3))),(1,(.sc (.int .i64 0))),(2,(.sc (.bool false))),(3,(.sc (.bool false))),(4,(.sc (.string ⟨#[99,99,120]⟩))),(5,t97)] fun t99=>
dP Pg (some (9,138)) t1 (.sc (.string ⟨#[99,99,120]⟩)) t99 Le W fun Nu=>
aC Pg W 98 [(.sc (.int .i64 7)),(.sc (.int .i64 4))] Nu (fun t101 Fu=>
ck (some ([.int .i64 0,.int .i64 0,.bool false,.bool false,.string ⟨#[]⟩,.nilFunc],.inl [(0,1),(1,1),(2,1),(3,1),(4,1),(5,1)])) [(0,(.sc (.int .i64 3))),(1,(.sc (.int .i64 0))),(2,(.sc (.bool false))),(3,(.sc (.bool true))),(4,(.sc (.string ⟨#[99,99,122]⟩))),(5,t101)] fun t103=>
dP Pg (some (9,138)) t1 (.sc (.string ⟨#[99,99,122]⟩)) t103 Fu W fun Ft=>
aC Pg W 100 [(.sc (.int .i64 3)),(.sc (.int .i64 5)),(.sc (.int .i64 0))] Ft (fun t105 Fs=>
ck (some ([.int .i64 0,.int .i64 0,.bool false,.bool false,.string ⟨#[]⟩,.nilFunc],.inl [(0,1),(1,1),(2,1),(3,1),(4,1),(5,1)])) [(0,(.sc (.int .i64 3))),(1,(.sc (.int .i64 0))),(2,(.sc (.bool false))),(3,(.sc (.bool false))),(4,(.sc (.string ⟨#[99,115,119,97,112]⟩))),(5,t105)] fun t107=>
dP Pg (some (9,138)) t1 (.sc (.string ⟨#[99,115,119,97,112]⟩)) t107 Fs W fun Nt=>
R [t1] Nt) P) P) P) P) P) P) P) P) P) P) P) P) P) P) P) P) P) P) P) P) P) P) P
def n2:N0:=fun W R N E P h=>
n1 W R N E P h
theorem aI{h:AH}{M:WK}{R:RK}(hp:n2 (fun id=>M id\/h.next<=id) (aH Pg [.tmp 0] R) (aH Pg [.tmp 0] R) (fun _ _ _=>False) (fun v h=>R (.bV v) h) h):ay Pg 77 [] h M R:=
 fin (n:=56) (pl:=[]) (rs:=[.tmp 0]) (L:=rs) (fun c=>(a0 n2 c)) Tryz.mixed Tryz.func77 (fun c=>
(sq (a0 n2 c)
(sl (a0 n1 c)))) hp
attribute [simp] n1 n2
end Qy
namespace QC
abbrev rs:List Nat:=[2]
def n1:N1:=fun W R _ _ P x0 h=>
aC Pg W 77 [] h (fun t1 h2=>
fX Pg (some (9,138)) t1 x0 false h2 fun t3 _=>
l7 (some (0,1,false)) t3 fun t5=>
R [t5] h2) P
def n2:N1:=fun W R N E P x0 h=>
n1 W R N E P x0 h
theorem aI{x0:AV}{h:AH}{M:WK}{R:RK}(hp:n2 (fun id=>M id\/h.next<=id) (aH Pg [.tmp 2] R) (aH Pg [.tmp 2] R) (fun _ _ _=>False) (fun v h=>R (.bV v) h) x0 h):ay Pg 44 [x0] h M R:=
 fin (n:=7) (pl:=[]) (rs:=[.tmp 2]) (L:=rs) (fun c=>(a1 n2 0 c)) Tryz.mixed Tryz.func44 (fun c=>
(sq (a1 n2 0 c)
(sl (a1 n1 0 c)))) hp
attribute [simp] n1 n2
end QC
namespace QA
abbrev rs:List Nat:=[2]
def n1:N1:=fun W R _ _ P x0 h=>
aC Pg W 77 [] h (fun t1 h2=>
fX Pg (some (9,138)) t1 x0 false h2 fun t3 _=>
l7 (some (1,1,false)) t3 fun t5=>
R [t5] h2) P
def n2:N1:=fun W R N E P x0 h=>
n1 W R N E P x0 h
theorem aI{x0:AV}{h:AH}{M:WK}{R:RK}(hp:n2 (fun id=>M id\/h.next<=id) (aH Pg [.tmp 2] R) (aH Pg [.tmp 2] R) (fun _ _ _=>False) (fun v h=>R (.bV v) h) x0 h):ay Pg 46 [x0] h M R:=
 fin (n:=7) (pl:=[]) (rs:=[.tmp 2]) (L:=rs) (fun c=>(a1 n2 0 c)) Tryz.mixed Tryz.func46 (fun c=>
(sq (a1 n2 0 c)
(sl (a1 n1 0 c)))) hp
attribute [simp] n1 n2
end QA
namespace QB
abbrev rs:List Nat:=[4]
def n1:N2:=fun W R _ _ P x0 x1 h=>
aC Pg W 78 [x0,x1] h (fun t1 h2=>
aa Pg .geq 3 true t1 (.sc (.int .i64 0)) fun t3=>
R [t3] h2) P
def n2:N2:=fun W R N E P x0 x1 h=>
n1 W R N E P x0 x1 h
theorem aI{x0 x1:AV}{h:AH}{M:WK}{R:RK}(hp:n2 (fun id=>M id\/h.next<=id) (aH Pg [.tmp 4] R) (aH Pg [.tmp 4] R) (fun _ _ _=>False) (fun v h=>R (.bV v) h) x0 x1 h):ay Pg 45 [x0,x1] h M R:=
 fin (n:=9) (pl:=[]) (rs:=[.tmp 4]) (L:=rs) (fun c=>(a2 n2 0 1 c)) Tryz.mixed Tryz.func45 (fun c=>
(sq (a2 n2 0 1 c)
(sl (a2 n1 0 1 c)))) hp
attribute [simp] n1 n2
end QB
namespace qp
abbrev rs:List Nat:=[4]
def n1:N0:=fun _ R _ _ _ h=>
R [(.sc (.int .i64 (-1)))] h
def n2:N4:=fun _ _ N _ _ x0 x1 x7 x8 h=>
aa Pg .add 3 true x8 (.sc (.int .i64 1)) fun t1=>
N [x0,x1,x7,t1] h
def n3:N1:=fun _ R _ _ _ x5 h=>
R [x5] h
def n4:N6:=fun W R N E P x0 x1 x5 x7 x8 cR h=>
aE cR (
n3 W R N E P x5 h) (
n2 W R N E P x0 x1 x7 x8 h)
def n5:N5:=fun W R N E P x0 x1 x5 x7 x8 h=>
bM (some (1,none)) x0 x5 fun t2=>
ai (some false) (some 1) t2 h fun t3 _=>
aa Pg .eql 3 false x1 t3 fun t5=>
n4 W R N E P x0 x1 x5 x7 x8 t5 h
def n6:N4:=fun W R N E P x0 x1 x7 x8 h=>
n5 W R N E P x0 x1 x8 x7 x8 h
def n7:N5:=fun W R N E P x0 x1 x7 x8 x9 h=>
aE x9 (
n6 W R N E P x0 x1 x7 x8 h) (
E 0 [] h)
def n8:N4:=fun W R N E P x0 x1 x7 x8 h=>
aa Pg .lss 3 false x8 x7 fun t6=>
n7 W R N E P x0 x1 x7 x8 t6 h
def cn:GK:=fun W R N E P N' vs h=>n8 W R N' (fun(i:Nat) (vs:List AV) (h:AH)=>if i=0 then n1 W R N E P h else E i vs h) P (vs.getD 0 ab) (vs.getD 1 ab) (vs.getD 2 ab) (vs.getD 3 ab) h
def n9:N4:=fun W R N E P x0 x1 x7 x8 h=>
da (cn W R N E P) [x0,x1,x7,x8] h
def aP:N2:=fun W R N E P x0 x1 h=>
(aW x0=false)/\bL x0 fun t7=>
n9 W R N E P x0 x1 t7 (.sc (.int .i64 0)) h
def aU:N2:=fun W R N E P x0 x1 h=>
aP W R N E P x0 x1 h
theorem aI{x0 x1:AV}{h:AH}{M:WK}{R:RK}(hp:aU (fun id=>M id\/h.next<=id) (aH Pg [.tmp 4] R) (aH Pg [.tmp 4] R) (fun _ _ _=>False) (fun v h=>R (.bV v) h) x0 x1 h):ay Pg 78 [x0,x1] h M R:=
 fin (n:=19) (pl:=[]) (rs:=[.tmp 4]) (L:=rs) (fun c=>(a2 aU 0 1 c)) Tryz.mixed Tryz.func78 (fun c=>
(sq (a2 aU 0 1 c)
(sn
(sl (a0 n1 c))
(sq (a2 aP 0 1 c)
(bk 0 (lp [0,1,7,8] rs [(0,[])] (a4 n9 0 1 7 8 c) cn (fun i vs h=>if i=0 then n1 c.W c.R c.N c.E c.P h else c.E i vs h) (.b (.t .o)) fun c=>
(sq (a4 n8 0 1 7 8 c)
(sn
(sn
(sm (a4 n2 0 1 7 8 c))
(bk 1 (sq (a4 n6 0 1 7 8 c)
(sq (a5 n5 0 1 5 7 8 c)
(cd (a6 n4 0 1 5 7 8 16 c) (sl (a1 n3 5 c)) tr)))))
(cd (a5 n7 0 1 7 8 9 c) tr tr))))))))) hp
attribute [simp] n1 n2 n3 n4 n5 n6 n7 n8 aP aU
end qp
namespace Jt
abbrev rs:List Nat:=[4]
def n1:N2:=fun W R _ _ P x0 x1 h=>
aC Pg W 131 [x0,x1] h (fun t1 h2=>
aa Pg .geq 3 true t1 (.sc (.int .i64 0)) fun t3=>
R [t3] h2) P
def n2:N2:=fun W R N E P x0 x1 h=>
n1 W R N E P x0 x1 h
theorem aI{x0 x1:AV}{h:AH}{M:WK}{R:RK}(hp:n2 (fun id=>M id\/h.next<=id) (aH Pg [.tmp 4] R) (aH Pg [.tmp 4] R) (fun _ _ _=>False) (fun v h=>R (.bV v) h) x0 x1 h):ay Pg 114 [x0,x1] h M R:=
 fin (n:=9) (pl:=[]) (rs:=[.tmp 4]) (L:=rs) (fun c=>(a2 n2 0 1 c)) Tryz.mixed Tryz.func114 (fun c=>
(sq (a2 n2 0 1 c)
(sl (a2 n1 0 1 c)))) hp
attribute [simp] n1 n2
end Jt
namespace mB
abbrev rs:List Nat:=[4]
def n1:N0:=fun _ R _ _ _ h=>
R [(.sc (.int .i64 (-1)))] h
def n2:N4:=fun _ _ N _ _ x0 x1 x7 x8 h=>
aa Pg .add 3 true x8 (.sc (.int .i64 1)) fun t1=>
N [x0,x1,x7,t1] h
def n3:N1:=fun _ R _ _ _ x5 h=>
R [x5] h
def n4:N6:=fun W R N E P x0 x1 x5 x7 x8 cR h=>
aE cR (
n3 W R N E P x5 h) (
n2 W R N E P x0 x1 x7 x8 h)
def n5:N5:=fun W R N E P x0 x1 x5 x7 x8 h=>
bM (some (1,none)) x0 x5 fun t2=>
ai (some false) (some 1) t2 h fun t3 _=>
aa Pg .eql 9 false x1 t3 fun t5=>
n4 W R N E P x0 x1 x5 x7 x8 t5 h
def n6:N4:=fun W R N E P x0 x1 x7 x8 h=>
n5 W R N E P x0 x1 x8 x7 x8 h
def n7:N5:=fun W R N E P x0 x1 x7 x8 x9 h=>
aE x9 (
n6 W R N E P x0 x1 x7 x8 h) (
E 0 [] h)
def n8:N4:=fun W R N E P x0 x1 x7 x8 h=>
aa Pg .lss 3 false x8 x7 fun t6=>
n7 W R N E P x0 x1 x7 x8 t6 h
def cn:GK:=fun W R N E P N' vs h=>n8 W R N' (fun(i:Nat) (vs:List AV) (h:AH)=>if i=0 then n1 W R N E P h else E i vs h) P (vs.getD 0 ab) (vs.getD 1 ab) (vs.getD 2 ab) (vs.getD 3 ab) h
def n9:N4:=fun W R N E P x0 x1 x7 x8 h=>
da (cn W R N E P) [x0,x1,x7,x8] h
def aP:N2:=fun W R N E P x0 x1 h=>
(aW x0=false)/\bL x0 fun t7=>
n9 W R N E P x0 x1 t7 (.sc (.int .i64 0)) h
def aU:N2:=fun W R N E P x0 x1 h=>
aP W R N E P x0 x1 h
theorem aI{x0 x1:AV}{h:AH}{M:WK}{R:RK}(hp:aU (fun id=>M id\/h.next<=id) (aH Pg [.tmp 4] R) (aH Pg [.tmp 4] R) (fun _ _ _=>False) (fun v h=>R (.bV v) h) x0 x1 h):ay Pg 131 [x0,x1] h M R:=
 fin (n:=19) (pl:=[]) (rs:=[.tmp 4]) (L:=rs) (fun c=>(a2 aU 0 1 c)) Tryz.mixed Tryz.func131 (fun c=>
(sq (a2 aU 0 1 c)
(sn
(sl (a0 n1 c))
(sq (a2 aP 0 1 c)
(bk 0 (lp [0,1,7,8] rs [(0,[])] (a4 n9 0 1 7 8 c) cn (fun i vs h=>if i=0 then n1 c.W c.R c.N c.E c.P h else c.E i vs h) (.b (.t .o)) fun c=>
(sq (a4 n8 0 1 7 8 c)
(sn
(sn
(sm (a4 n2 0 1 7 8 c))
(bk 1 (sq (a4 n6 0 1 7 8 c)
(sq (a5 n5 0 1 5 7 8 c)
(cd (a6 n4 0 1 5 7 8 16 c) (sl (a1 n3 5 c)) tr)))))
(cd (a5 n7 0 1 7 8 9 c) tr tr))))))))) hp
attribute [simp] n1 n2 n3 n4 n5 n6 n7 n8 aP aU
end mB
end Go.Proofs.YtjehibknlmehmaaGreatDoor
