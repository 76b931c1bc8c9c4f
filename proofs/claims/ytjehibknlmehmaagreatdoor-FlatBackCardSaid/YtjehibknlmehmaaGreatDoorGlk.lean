/- Bodies of the gates and slices functions; printed by a program of these sessions. No condition. -/
import Derived.Test.YtjehibknlmehmaaGreatDoorProg
import Derived.Test.YtjehibknlmehmaaGreatDoorAb2k
set_option maxRecDepth 100000
namespace Go.Proofs.YtjehibknlmehmaaGreatDoor
open Go.Ab
noncomputable abbrev Pg:Program:=Tryz.prog
theorem Tryz.mixed:Tryz.prog.follows .mixedOrders=true:=by kernel_rfl
namespace W0
abbrev rs:List Nat:=[4]
def n1:N2:=fun _ R _ _ _ x2 x3 h=>
R [(.fn (.func 117) [] [x2,x3])] h
def n2:N2:=fun W R N E P x0 x1 h=>
dS 1 3 x0 h fun t1 h2=>
dS 1 35 x1 h2 fun t3 h4=>
n1 W R N E P t1 t3 h4
theorem aO{x0 x1:AV}{h:AH}{M:WK}{R:RK}(hp:n2 (fun id=>M id\/h.next<=id) (aK Pg [.tmp 4] R) (aK Pg [.tmp 4] R) (fun _ _ _=>False) (fun v h=>R (.b6 v) h) x0 x1 h):aB Pg 97 [x0,x1] h M R:=
 fin (n:=6) (pl:=[]) (rs:=[.tmp 4]) (L:=rs) (fun c=>(a2 n2 0 1 c)) Tryz.mixed Tryz.func97 (fun c=>
(sq (a2 n2 0 1 c)
(sl (a2 n1 2 3 c)))) hp
attribute [simp] n1 n2
end W0
namespace WZ
abbrev rs:List Nat:=[4]
def n1:N2:=fun _ R _ _ _ x2 x3 h=>
R [(.fn (.func 118) [] [x2,x3])] h
def n2:N2:=fun W R N E P x0 x1 h=>
dS 1 3 x0 h fun t1 h2=>
dS 1 3 x1 h2 fun t3 h4=>
n1 W R N E P t1 t3 h4
theorem aO{x0 x1:AV}{h:AH}{M:WK}{R:RK}(hp:n2 (fun id=>M id\/h.next<=id) (aK Pg [.tmp 4] R) (aK Pg [.tmp 4] R) (fun _ _ _=>False) (fun v h=>R (.b6 v) h) x0 x1 h):aB Pg 98 [x0,x1] h M R:=
 fin (n:=6) (pl:=[]) (rs:=[.tmp 4]) (L:=rs) (fun c=>(a2 n2 0 1 c)) Tryz.mixed Tryz.func98 (fun c=>
(sq (a2 n2 0 1 c)
(sl (a2 n1 2 3 c)))) hp
attribute [simp] n1 n2
end WZ
namespace WY
abbrev rs:List Nat:=[6]
def n1:N3:=fun _ R _ _ _ x3 x4 x5 h=>
R [(.fn (.func 119) [] [x3,x4,x5])] h
def n2:N3:=fun W R N E P x0 x1 x2 h=>
dS 1 3 x0 h fun t1 h2=>
dS 1 3 x1 h2 fun t3 h4=>
dS 1 3 x2 h4 fun t5 h6=>
n1 W R N E P t1 t3 t5 h6
theorem aO{x0 x1 x2:AV}{h:AH}{M:WK}{R:RK}(hp:n2 (fun id=>M id\/h.next<=id) (aK Pg [.tmp 6] R) (aK Pg [.tmp 6] R) (fun _ _ _=>False) (fun v h=>R (.b6 v) h) x0 x1 x2 h):aB Pg 99 [x0,x1,x2] h M R:=
 fin (n:=8) (pl:=[]) (rs:=[.tmp 6]) (L:=rs) (fun c=>(a3 n2 0 1 2 c)) Tryz.mixed Tryz.func99 (fun c=>
(sq (a3 n2 0 1 2 c)
(sl (a3 n1 3 4 5 c)))) hp
attribute [simp] n1 n2
end WY
namespace Pz
abbrev rs:List Nat:=[6]
def n1:N3:=fun _ R _ _ _ x3 x4 x5 h=>
R [(.fn (.func 120) [] [x3,x4,x5])] h
def n2:N3:=fun W R N E P x0 x1 x2 h=>
dS 1 3 x0 h fun t1 h2=>
dS 1 3 x1 h2 fun t3 h4=>
dS 1 3 x2 h4 fun t5 h6=>
n1 W R N E P t1 t3 t5 h6
theorem aO{x0 x1 x2:AV}{h:AH}{M:WK}{R:RK}(hp:n2 (fun id=>M id\/h.next<=id) (aK Pg [.tmp 6] R) (aK Pg [.tmp 6] R) (fun _ _ _=>False) (fun v h=>R (.b6 v) h) x0 x1 x2 h):aB Pg 100 [x0,x1,x2] h M R:=
 fin (n:=8) (pl:=[]) (rs:=[.tmp 6]) (L:=rs) (fun c=>(a3 n2 0 1 2 c)) Tryz.mixed Tryz.func100 (fun c=>
(sq (a3 n2 0 1 2 c)
(sl (a3 n1 3 4 5 c)))) hp
attribute [simp] n1 n2
end Pz
namespace Rf
abbrev rs:List Nat:=[0]
def n1:N0:=fun W R _ _ P h=>
qq 139 h fun t1 h2=>
dK (some (1,3,[.int .i64 0])) 1 [(0,(.sc (.int .i64 0)))] h2 fun t3 h4=>
aC Pg W 97 [(.sc (.int .i64 0)),t3] h4 (fun t5 h6=>
bZ (some ([.int .i64 0,.int .i64 0,.bool false,.bool false,.string ⟨#[]⟩,.nilFunc],.inl [(0,1),(1,1),(2,1),(3,1),(4,1),(5,1)])) [(0,(.sc (.int .i64 1))),(1,(.sc (.int .i64 0))),(2,(.sc (.bool true))),(3,(.sc (.bool true))),(4,(.sc (.string ⟨#[105]⟩))),(5,t5)] fun t7=>
dI Pg (some (9,138)) t1 (.sc (.string ⟨#[105]⟩)) t7 h6 W fun h8=>
dK (some (1,3,[.int .i64 0])) 1 [(0,(.sc (.int .i64 0)))] h8 fun t9 lq=>
aC Pg W 97 [(.sc (.int .i64 1)),t9] lq (fun t11 qy=>
bZ (some ([.int .i64 0,.int .i64 0,.bool false,.bool false,.string ⟨#[]⟩,.nilFunc],.inl [(0,1),(1,1),(2,1),(3,1),(4,1),(5,1)])) [(0,(.sc (.int .i64 1))),(1,(.sc (.int .i64 0))),(2,(.sc (.bool true))),(3,(.sc (.bool false))),(4,(.sc (.string ⟨#[120]⟩))),(5,t11)] fun t13=>
dI Pg (some (9,138)) t1 (.sc (.string ⟨#[120]⟩)) t13 qy W fun vP=>
dK (some (1,3,[.int .i64 0,.int .i64 0])) 2 [(0,(.sc (.int .i64 2))),(1,(.sc (.int .i64 6)))] vP fun t15 mz=>
aC Pg W 97 [(.sc (.int .i64 1)),t15] mz (fun t17 vN=>
bZ (some ([.int .i64 0,.int .i64 0,.bool false,.bool false,.string ⟨#[]⟩,.nilFunc],.inl [(0,1),(1,1),(2,1),(3,1),(4,1),(5,1)])) [(0,(.sc (.int .i64 1))),(1,(.sc (.int .i64 0))),(2,(.sc (.bool true))),(3,(.sc (.bool false))),(4,(.sc (.string ⟨#[121]⟩))),(5,t17)] fun t19=>
dI Pg (some (9,138)) t1 (.sc (.string ⟨#[121]⟩)) t19 vN W fun vJ=>
aC Pg W 98 [(.sc (.int .i64 1)),(.sc (.int .i64 4))] vJ (fun t21 yS=>
bZ (some ([.int .i64 0,.int .i64 0,.bool false,.bool false,.string ⟨#[]⟩,.nilFunc],.inl [(0,1),(1,1),(2,1),(3,1),(4,1),(5,1)])) [(0,(.sc (.int .i64 1))),(1,(.sc (.int .i64 0))),(2,(.sc (.bool true))),(3,(.sc (.bool true))),(4,(.sc (.string ⟨#[122]⟩))),(5,t21)] fun t23=>
dI Pg (some (9,138)) t1 (.sc (.string ⟨#[122]⟩)) t23 yS W fun vH=>
aC Pg W 99 [(.sc (.int .i64 0)),(.sc (.int .i64 0)),(.sc (.int .i64 4))] vH (fun t25 nH=>
bZ (some ([.int .i64 0,.int .i64 0,.bool false,.bool false,.string ⟨#[]⟩,.nilFunc],.inl [(0,1),(1,1),(2,1),(3,1),(4,1),(5,1)])) [(0,(.sc (.int .i64 1))),(1,(.sc (.int .i64 1))),(2,(.sc (.bool true))),(3,(.sc (.bool false))),(4,(.sc (.string ⟨#[104]⟩))),(5,t25)] fun t27=>
dI Pg (some (9,138)) t1 (.sc (.string ⟨#[104]⟩)) t27 nH W fun sF=>
aC Pg W 98 [(.sc (.int .i64 1)),(.sc (.int .i64 2))] sF (fun t29 QT=>
bZ (some ([.int .i64 0,.int .i64 0,.bool false,.bool false,.string ⟨#[]⟩,.nilFunc],.inl [(0,1),(1,1),(2,1),(3,1),(4,1),(5,1)])) [(0,(.sc (.int .i64 1))),(1,(.sc (.int .i64 0))),(2,(.sc (.bool true))),(3,(.sc (.bool true))),(4,(.sc (.string ⟨#[115,100,103]⟩))),(5,t29)] fun t31=>
dI Pg (some (9,138)) t1 (.sc (.string ⟨#[115]⟩)) t31 QT W fun tL=>
aC Pg W 98 [(.sc (.int .i64 1)),(.sc (.int .i64 6))] tL (fun t33 yQ=>
bZ (some ([.int .i64 0,.int .i64 0,.bool false,.bool false,.string ⟨#[]⟩,.nilFunc],.inl [(0,1),(1,1),(2,1),(3,1),(4,1),(5,1)])) [(0,(.sc (.int .i64 1))),(1,(.sc (.int .i64 0))),(2,(.sc (.bool true))),(3,(.sc (.bool true))),(4,(.sc (.string ⟨#[115]⟩))),(5,t33)] fun t35=>
dI Pg (some (9,138)) t1 (.sc (.string ⟨#[115,100,103]⟩)) t35 yQ W fun yP=>
aC Pg W 98 [(.sc (.int .i64 1)),(.sc (.int .i64 1))] yP (fun t37 QQ=>
bZ (some ([.int .i64 0,.int .i64 0,.bool false,.bool false,.string ⟨#[]⟩,.nilFunc],.inl [(0,1),(1,1),(2,1),(3,1),(4,1),(5,1)])) [(0,(.sc (.int .i64 1))),(1,(.sc (.int .i64 0))),(2,(.sc (.bool false))),(3,(.sc (.bool true))),(4,(.sc (.string ⟨#[116,100,103]⟩))),(5,t37)] fun t39=>
dI Pg (some (9,138)) t1 (.sc (.string ⟨#[116]⟩)) t39 QQ W fun QO=>
aC Pg W 98 [(.sc (.int .i64 1)),(.sc (.int .i64 7))] QO (fun t41 QM=>
bZ (some ([.int .i64 0,.int .i64 0,.bool false,.bool false,.string ⟨#[]⟩,.nilFunc],.inl [(0,1),(1,1),(2,1),(3,1),(4,1),(5,1)])) [(0,(.sc (.int .i64 1))),(1,(.sc (.int .i64 0))),(2,(.sc (.bool false))),(3,(.sc (.bool true))),(4,(.sc (.string ⟨#[116]⟩))),(5,t41)] fun t43=>
dI Pg (some (9,138)) t1 (.sc (.string ⟨#[116,100,103]⟩)) t43 QM W fun yN=>
aC Pg W 99 [(.sc (.int .i64 1)),(.sc (.int .i64 7)),(.sc (.int .i64 1))] yN (fun t45 H0=>
bZ (some ([.int .i64 0,.int .i64 0,.bool false,.bool false,.string ⟨#[]⟩,.nilFunc],.inl [(0,1),(1,1),(2,1),(3,1),(4,1),(5,1)])) [(0,(.sc (.int .i64 1))),(1,(.sc (.int .i64 1))),(2,(.sc (.bool true))),(3,(.sc (.bool false))),(4,(.sc (.string ⟨#[118,100,103]⟩))),(5,t45)] fun t47=>
dI Pg (some (9,138)) t1 (.sc (.string ⟨#[118]⟩)) t47 H0 W fun vC=>
aC Pg W 99 [(.sc (.int .i64 7)),(.sc (.int .i64 1)),(.sc (.int .i64 7))] vC (fun t49 vA=>
bZ (some ([.int .i64 0,.int .i64 0,.bool false,.bool false,.string ⟨#[]⟩,.nilFunc],.inl [(0,1),(1,1),(2,1),(3,1),(4,1),(5,1)])) [(0,(.sc (.int .i64 1))),(1,(.sc (.int .i64 1))),(2,(.sc (.bool true))),(3,(.sc (.bool false))),(4,(.sc (.string ⟨#[118]⟩))),(5,t49)] fun t51=>
dI Pg (some (9,138)) t1 (.sc (.string ⟨#[118,100,103]⟩)) t51 vA W fun yM=>
dK (some (1,3,[.int .i64 0])) 1 [(0,(.sc (.int .i64 1)))] yM fun t53 Dy=>
aC Pg W 97 [(.sc (.int .i64 0)),t53] Dy (fun t55 FQ=>
bZ (some ([.int .i64 0,.int .i64 0,.bool false,.bool false,.string ⟨#[]⟩,.nilFunc],.inl [(0,1),(1,1),(2,1),(3,1),(4,1),(5,1)])) [(0,(.sc (.int .i64 1))),(1,(.sc (.int .i64 0))),(2,(.sc (.bool true))),(3,(.sc (.bool true))),(4,(.sc (.string ⟨#[119,100,103]⟩))),(5,t55)] fun t57=>
dI Pg (some (9,138)) t1 (.sc (.string ⟨#[119]⟩)) t57 FQ W fun tJ=>
dK (some (1,3,[.int .i64 0])) 1 [(0,(.sc (.int .i64 7)))] tJ fun t59 V2=>
aC Pg W 97 [(.sc (.int .i64 0)),t59] V2 (fun t61 BA=>
bZ (some ([.int .i64 0,.int .i64 0,.bool false,.bool false,.string ⟨#[]⟩,.nilFunc],.inl [(0,1),(1,1),(2,1),(3,1),(4,1),(5,1)])) [(0,(.sc (.int .i64 1))),(1,(.sc (.int .i64 0))),(2,(.sc (.bool true))),(3,(.sc (.bool true))),(4,(.sc (.string ⟨#[119]⟩))),(5,t61)] fun t63=>
dI Pg (some (9,138)) t1 (.sc (.string ⟨#[119,100,103]⟩)) t63 BA W fun FP=>
aC Pg W 100 [(.sc (.int .i64 1)),(.sc (.int .i64 3)),(.sc (.int .i64 0))] FP (fun t65 L2=>
bZ (some ([.int .i64 0,.int .i64 0,.bool false,.bool false,.string ⟨#[]⟩,.nilFunc],.inl [(0,1),(1,1),(2,1),(3,1),(4,1),(5,1)])) [(0,(.sc (.int .i64 2))),(1,(.sc (.int .i64 0))),(2,(.sc (.bool true))),(3,(.sc (.bool false))),(4,(.sc (.string ⟨#[99,120]⟩))),(5,t65)] fun t67=>
dI Pg (some (9,138)) t1 (.sc (.string ⟨#[99,120]⟩)) t67 L2 W fun L1=>
bZ (some ([.int .i64 0,.int .i64 0,.bool false,.bool false,.string ⟨#[]⟩,.nilFunc],.inl [(0,1),(1,1),(2,1),(3,1),(4,1),(5,1)])) [(0,(.sc (.int .i64 2))),(1,(.sc (.int .i64 0))),(2,(.sc (.bool true))),(3,(.sc (.bool false))),(4,(.sc (.string ⟨#[99,121]⟩))),(5,(.fn (.func 101) [] []))] fun t69=>
dI Pg (some (9,138)) t1 (.sc (.string ⟨#[99,121]⟩)) t69 L1 W fun FO=>
aC Pg W 98 [(.sc (.int .i64 3)),(.sc (.int .i64 4))] FO (fun t71 Bz=>
bZ (some ([.int .i64 0,.int .i64 0,.bool false,.bool false,.string ⟨#[]⟩,.nilFunc],.inl [(0,1),(1,1),(2,1),(3,1),(4,1),(5,1)])) [(0,(.sc (.int .i64 2))),(1,(.sc (.int .i64 0))),(2,(.sc (.bool true))),(3,(.sc (.bool true))),(4,(.sc (.string ⟨#[99,122]⟩))),(5,t71)] fun t73=>
dI Pg (some (9,138)) t1 (.sc (.string ⟨#[99,122]⟩)) t73 Bz W fun FN=>
bZ (some ([.int .i64 0,.int .i64 0,.bool false,.bool false,.string ⟨#[]⟩,.nilFunc],.inl [(0,1),(1,1),(2,1),(3,1),(4,1),(5,1)])) [(0,(.sc (.int .i64 2))),(1,(.sc (.int .i64 1))),(2,(.sc (.bool false))),(3,(.sc (.bool false))),(4,(.sc (.string ⟨#[99,104]⟩))),(5,(.fn (.func 102) [] []))] fun t75=>
dI Pg (some (9,138)) t1 (.sc (.string ⟨#[99,104]⟩)) t75 FN W fun FM=>
aC Pg W 98 [(.sc (.int .i64 3)),(.sc (.int .i64 2))] FM (fun t77 By=>
bZ (some ([.int .i64 0,.int .i64 0,.bool false,.bool false,.string ⟨#[]⟩,.nilFunc],.inl [(0,1),(1,1),(2,1),(3,1),(4,1),(5,1)])) [(0,(.sc (.int .i64 2))),(1,(.sc (.int .i64 0))),(2,(.sc (.bool false))),(3,(.sc (.bool true))),(4,(.sc (.string ⟨#[99,115,100,103]⟩))),(5,t77)] fun t79=>
dI Pg (some (9,138)) t1 (.sc (.string ⟨#[99,115]⟩)) t79 By W fun FL=>
aC Pg W 98 [(.sc (.int .i64 3)),(.sc (.int .i64 6))] FL (fun t81 LW=>
bZ (some ([.int .i64 0,.int .i64 0,.bool false,.bool false,.string ⟨#[]⟩,.nilFunc],.inl [(0,1),(1,1),(2,1),(3,1),(4,1),(5,1)])) [(0,(.sc (.int .i64 2))),(1,(.sc (.int .i64 0))),(2,(.sc (.bool false))),(3,(.sc (.bool true))),(4,(.sc (.string ⟨#[99,115]⟩))),(5,t81)] fun t83=>
dI Pg (some (9,138)) t1 (.sc (.string ⟨#[99,115,100,103]⟩)) t83 LW W fun FK=>
aC Pg W 100 [(.sc (.int .i64 1)),(.sc (.int .i64 2)),(.sc (.int .i64 0))] FK (fun t85 FJ=>
bZ (some ([.int .i64 0,.int .i64 0,.bool false,.bool false,.string ⟨#[]⟩,.nilFunc],.inl [(0,1),(1,1),(2,1),(3,1),(4,1),(5,1)])) [(0,(.sc (.int .i64 2))),(1,(.sc (.int .i64 0))),(2,(.sc (.bool true))),(3,(.sc (.bool false))),(4,(.sc (.string ⟨#[115,119,97,112]⟩))),(5,t85)] fun t87=>
dI Pg (some (9,138)) t1 (.sc (.string ⟨#[115,119,97,112]⟩)) t87 FJ W fun VX=>
aC Pg W 100 [(.sc (.int .i64 1)),(.sc (.int .i64 2)),(.sc (.int .i64 2))] VX (fun t89 h90=>
bZ (some ([.int .i64 0,.int .i64 0,.bool false,.bool false,.string ⟨#[]⟩,.nilFunc],.inl [(0,1),(1,1),(2,1),(3,1),(4,1),(5,1)])) [(0,(.sc (.int .i64 2))),(1,(.sc (.int .i64 0))),(2,(.sc (.bool true))),(3,(.sc (.bool false))),(4,(.sc (.string ⟨#[105,115,119,97,112,100,103]⟩))),(5,t89)] fun t91=>
dI Pg (some (9,138)) t1 (.sc (.string ⟨#[105,115,119,97,112]⟩)) t91 h90 W fun LV=>
aC Pg W 100 [(.sc (.int .i64 1)),(.sc (.int .i64 2)),(.sc (.int .i64 6))] LV (fun t93 VV=>
bZ (some ([.int .i64 0,.int .i64 0,.bool false,.bool false,.string ⟨#[]⟩,.nilFunc],.inl [(0,1),(1,1),(2,1),(3,1),(4,1),(5,1)])) [(0,(.sc (.int .i64 2))),(1,(.sc (.int .i64 0))),(2,(.sc (.bool true))),(3,(.sc (.bool false))),(4,(.sc (.string ⟨#[105,115,119,97,112]⟩))),(5,t93)] fun t95=>
dI Pg (some (9,138)) t1 (.sc (.string ⟨#[105,115,119,97,112,100,103]⟩)) t95 VV W fun h96=>
aC Pg W 100 [(.sc (.int .i64 3)),(.sc (.int .i64 7)),(.sc (.int .i64 0))] h96 (fun t97 LU=>
bZ (some ([.int .i64 0,.int .i64 0,.bool false,.bool false,.string ⟨#[]⟩,.nilFunc],.inl [(0,1),(1,1),(2,1),(3,1),(4,1),(5,1)])) [(0,(.sc (.int .i64 3))),(1,(.sc (.int .i64 0))),(2,(.sc (.bool false))),(3,(.sc (.bool false))),(4,(.sc (.string ⟨#[99,99,120]⟩))),(5,t97)] fun t99=>
dI Pg (some (9,138)) t1 (.sc (.string ⟨#[99,99,120]⟩)) t99 LU W fun Oq=>
aC Pg W 98 [(.sc (.int .i64 7)),(.sc (.int .i64 4))] Oq (fun t101 FV=>
bZ (some ([.int .i64 0,.int .i64 0,.bool false,.bool false,.string ⟨#[]⟩,.nilFunc],.inl [(0,1),(1,1),(2,1),(3,1),(4,1),(5,1)])) [(0,(.sc (.int .i64 3))),(1,(.sc (.int .i64 0))),(2,(.sc (.bool false))),(3,(.sc (.bool true))),(4,(.sc (.string ⟨#[99,99,122]⟩))),(5,t101)] fun t103=>
dI Pg (some (9,138)) t1 (.sc (.string ⟨#[99,99,122]⟩)) t103 FV W fun FU=>
aC Pg W 100 [(.sc (.int .i64 3)),(.sc (.int .i64 5)),(.sc (.int .i64 0))] FU (fun t105 FT=>
bZ (some ([.int .i64 0,.int .i64 0,.bool false,.bool false,.string ⟨#[]⟩,.nilFunc],.inl [(0,1),(1,1),(2,1),(3,1),(4,1),(5,1)])) [(0,(.sc (.int .i64 3))),(1,(.sc (.int .i64 0))),(2,(.sc (.bool false))),(3,(.sc (.bool false))),(4,(.sc (.string ⟨#[99,115,119,97,112]⟩))),(5,t105)] fun t107=>
dI Pg (some (9,138)) t1 (.sc (.string ⟨#[99,115,119,97,112]⟩)) t107 FT W fun Oo=>
R [t1] Oo) P) P) P) P) P) P) P) P) P) P) P) P) P) P) P) P) P) P) P) P) P) P) P
def n2:N0:=fun W R N E P h=>
n1 W R N E P h
theorem aO{h:AH}{M:WK}{R:RK}(hp:n2 (fun id=>M id\/h.next<=id) (aK Pg [.tmp 0] R) (aK Pg [.tmp 0] R) (fun _ _ _=>False) (fun v h=>R (.b6 v) h) h):aB Pg 77 [] h M R:=
 fin (n:=56) (pl:=[]) (rs:=[.tmp 0]) (L:=rs) (fun c=>(a0 n2 c)) Tryz.mixed Tryz.func77 (fun c=>
(sq (a0 n2 c)
(sl (a0 n1 c)))) hp
attribute [simp] n1 n2
end Rf
namespace Ri
abbrev rs:List Nat:=[2]
def n1:N1:=fun W R _ _ P x0 h=>
aC Pg W 77 [] h (fun t1 h2=>
fC Pg (some (9,138)) t1 x0 false h2 fun t3 _=>
lL (some (0,1,false)) t3 fun t5=>
R [t5] h2) P
def n2:N1:=fun W R N E P x0 h=>
n1 W R N E P x0 h
theorem aO{x0:AV}{h:AH}{M:WK}{R:RK}(hp:n2 (fun id=>M id\/h.next<=id) (aK Pg [.tmp 2] R) (aK Pg [.tmp 2] R) (fun _ _ _=>False) (fun v h=>R (.b6 v) h) x0 h):aB Pg 44 [x0] h M R:=
 fin (n:=7) (pl:=[]) (rs:=[.tmp 2]) (L:=rs) (fun c=>(a1 n2 0 c)) Tryz.mixed Tryz.func44 (fun c=>
(sq (a1 n2 0 c)
(sl (a1 n1 0 c)))) hp
attribute [simp] n1 n2
end Ri
namespace Rg
abbrev rs:List Nat:=[2]
def n1:N1:=fun W R _ _ P x0 h=>
aC Pg W 77 [] h (fun t1 h2=>
fC Pg (some (9,138)) t1 x0 false h2 fun t3 _=>
lL (some (1,1,false)) t3 fun t5=>
R [t5] h2) P
def n2:N1:=fun W R N E P x0 h=>
n1 W R N E P x0 h
theorem aO{x0:AV}{h:AH}{M:WK}{R:RK}(hp:n2 (fun id=>M id\/h.next<=id) (aK Pg [.tmp 2] R) (aK Pg [.tmp 2] R) (fun _ _ _=>False) (fun v h=>R (.b6 v) h) x0 h):aB Pg 46 [x0] h M R:=
 fin (n:=7) (pl:=[]) (rs:=[.tmp 2]) (L:=rs) (fun c=>(a1 n2 0 c)) Tryz.mixed Tryz.func46 (fun c=>
(sq (a1 n2 0 c)
(sl (a1 n1 0 c)))) hp
attribute [simp] n1 n2
end Rg
namespace Rh
abbrev rs:List Nat:=[4]
def n1:N2:=fun W R _ _ P x0 x1 h=>
aC Pg W 78 [x0,x1] h (fun t1 h2=>
ag Pg .geq 3 true t1 (.sc (.int .i64 0)) fun t3=>
R [t3] h2) P
def n2:N2:=fun W R N E P x0 x1 h=>
n1 W R N E P x0 x1 h
theorem aO{x0 x1:AV}{h:AH}{M:WK}{R:RK}(hp:n2 (fun id=>M id\/h.next<=id) (aK Pg [.tmp 4] R) (aK Pg [.tmp 4] R) (fun _ _ _=>False) (fun v h=>R (.b6 v) h) x0 x1 h):aB Pg 45 [x0,x1] h M R:=
 fin (n:=9) (pl:=[]) (rs:=[.tmp 4]) (L:=rs) (fun c=>(a2 n2 0 1 c)) Tryz.mixed Tryz.func45 (fun c=>
(sq (a2 n2 0 1 c)
(sl (a2 n1 0 1 c)))) hp
attribute [simp] n1 n2
end Rh
namespace qd
abbrev rs:List Nat:=[4]
def n1:N0:=fun _ R _ _ _ h=>
R [(.sc (.int .i64 (-1)))] h
def n2:N4:=fun _ _ N _ _ x0 x1 x7 x8 h=>
ag Pg .add 3 true x8 (.sc (.int .i64 1)) fun t1=>
N [x0,x1,x7,t1] h
def n3:N1:=fun _ R _ _ _ x5 h=>
R [x5] h
def n4:N6:=fun W R N E P x0 x1 x5 x7 x8 dM h=>
aM dM (
n3 W R N E P x5 h) (
n2 W R N E P x0 x1 x7 x8 h)
def n5:N5:=fun W R N E P x0 x1 x5 x7 x8 h=>
cj (some (1,none)) x0 x5 fun t2=>
al (some false) (some 1) t2 h fun t3 _=>
ag Pg .eql 3 false x1 t3 fun t5=>
n4 W R N E P x0 x1 x5 x7 x8 t5 h
def n6:N4:=fun W R N E P x0 x1 x7 x8 h=>
n5 W R N E P x0 x1 x8 x7 x8 h
def n7:N5:=fun W R N E P x0 x1 x7 x8 x9 h=>
aM x9 (
n6 W R N E P x0 x1 x7 x8 h) (
E 0 [] h)
def n8:N4:=fun W R N E P x0 x1 x7 x8 h=>
ag Pg .lss 3 false x8 x7 fun t6=>
n7 W R N E P x0 x1 x7 x8 t6 h
def cT:GK:=fun W R N E P N' vs h=>n8 W R N' (fun(i:Nat) (vs:List AV) (h:AH)=>if i=0 then n1 W R N E P h else E i vs h) P (vs.getD 0 aa) (vs.getD 1 aa) (vs.getD 2 aa) (vs.getD 3 aa) h
def n9:N4:=fun W R N E P x0 x1 x7 x8 h=>
dT (cT W R N E P) [x0,x1,x7,x8] h
def aZ:N2:=fun W R N E P x0 x1 h=>
(a_ x0=false)/\bO x0 fun t7=>
n9 W R N E P x0 x1 t7 (.sc (.int .i64 0)) h
def bc:N2:=fun W R N E P x0 x1 h=>
aZ W R N E P x0 x1 h
theorem aO{x0 x1:AV}{h:AH}{M:WK}{R:RK}(hp:bc (fun id=>M id\/h.next<=id) (aK Pg [.tmp 4] R) (aK Pg [.tmp 4] R) (fun _ _ _=>False) (fun v h=>R (.b6 v) h) x0 x1 h):aB Pg 78 [x0,x1] h M R:=
 fin (n:=19) (pl:=[]) (rs:=[.tmp 4]) (L:=rs) (fun c=>(a2 bc 0 1 c)) Tryz.mixed Tryz.func78 (fun c=>
(sq (a2 bc 0 1 c)
(sn
(sl (a0 n1 c))
(sq (a2 aZ 0 1 c)
(bk 0 (lp [0,1,7,8] rs [(0,[])] (a4 n9 0 1 7 8 c) cT (fun i vs h=>if i=0 then n1 c.W c.R c.N c.E c.P h else c.E i vs h) (.b (.t .o)) fun c=>
(sq (a4 n8 0 1 7 8 c)
(sn
(sn
(sm (a4 n2 0 1 7 8 c))
(bk 1 (sq (a4 n6 0 1 7 8 c)
(sq (a5 n5 0 1 5 7 8 c)
(cd (a6 n4 0 1 5 7 8 16 c) (sl (a1 n3 5 c)) tr)))))
(cd (a5 n7 0 1 7 8 9 c) tr tr))))))))) hp
attribute [simp] n1 n2 n3 n4 n5 n6 n7 n8 aZ bc
end qd
namespace JU
abbrev rs:List Nat:=[4]
def n1:N2:=fun W R _ _ P x0 x1 h=>
aC Pg W 131 [x0,x1] h (fun t1 h2=>
ag Pg .geq 3 true t1 (.sc (.int .i64 0)) fun t3=>
R [t3] h2) P
def n2:N2:=fun W R N E P x0 x1 h=>
n1 W R N E P x0 x1 h
theorem aO{x0 x1:AV}{h:AH}{M:WK}{R:RK}(hp:n2 (fun id=>M id\/h.next<=id) (aK Pg [.tmp 4] R) (aK Pg [.tmp 4] R) (fun _ _ _=>False) (fun v h=>R (.b6 v) h) x0 x1 h):aB Pg 114 [x0,x1] h M R:=
 fin (n:=9) (pl:=[]) (rs:=[.tmp 4]) (L:=rs) (fun c=>(a2 n2 0 1 c)) Tryz.mixed Tryz.func114 (fun c=>
(sq (a2 n2 0 1 c)
(sl (a2 n1 0 1 c)))) hp
attribute [simp] n1 n2
end JU
namespace l0
abbrev rs:List Nat:=[4]
def n1:N0:=fun _ R _ _ _ h=>
R [(.sc (.int .i64 (-1)))] h
def n2:N4:=fun _ _ N _ _ x0 x1 x7 x8 h=>
ag Pg .add 3 true x8 (.sc (.int .i64 1)) fun t1=>
N [x0,x1,x7,t1] h
def n3:N1:=fun _ R _ _ _ x5 h=>
R [x5] h
def n4:N6:=fun W R N E P x0 x1 x5 x7 x8 dM h=>
aM dM (
n3 W R N E P x5 h) (
n2 W R N E P x0 x1 x7 x8 h)
def n5:N5:=fun W R N E P x0 x1 x5 x7 x8 h=>
cj (some (1,none)) x0 x5 fun t2=>
al (some false) (some 1) t2 h fun t3 _=>
ag Pg .eql 9 false x1 t3 fun t5=>
n4 W R N E P x0 x1 x5 x7 x8 t5 h
def n6:N4:=fun W R N E P x0 x1 x7 x8 h=>
n5 W R N E P x0 x1 x8 x7 x8 h
def n7:N5:=fun W R N E P x0 x1 x7 x8 x9 h=>
aM x9 (
n6 W R N E P x0 x1 x7 x8 h) (
E 0 [] h)
def n8:N4:=fun W R N E P x0 x1 x7 x8 h=>
ag Pg .lss 3 false x8 x7 fun t6=>
n7 W R N E P x0 x1 x7 x8 t6 h
def cT:GK:=fun W R N E P N' vs h=>n8 W R N' (fun(i:Nat) (vs:List AV) (h:AH)=>if i=0 then n1 W R N E P h else E i vs h) P (vs.getD 0 aa) (vs.getD 1 aa) (vs.getD 2 aa) (vs.getD 3 aa) h
def n9:N4:=fun W R N E P x0 x1 x7 x8 h=>
dT (cT W R N E P) [x0,x1,x7,x8] h
def aZ:N2:=fun W R N E P x0 x1 h=>
(a_ x0=false)/\bO x0 fun t7=>
n9 W R N E P x0 x1 t7 (.sc (.int .i64 0)) h
def bc:N2:=fun W R N E P x0 x1 h=>
aZ W R N E P x0 x1 h
theorem aO{x0 x1:AV}{h:AH}{M:WK}{R:RK}(hp:bc (fun id=>M id\/h.next<=id) (aK Pg [.tmp 4] R) (aK Pg [.tmp 4] R) (fun _ _ _=>False) (fun v h=>R (.b6 v) h) x0 x1 h):aB Pg 131 [x0,x1] h M R:=
 fin (n:=19) (pl:=[]) (rs:=[.tmp 4]) (L:=rs) (fun c=>(a2 bc 0 1 c)) Tryz.mixed Tryz.func131 (fun c=>
(sq (a2 bc 0 1 c)
(sn
(sl (a0 n1 c))
(sq (a2 aZ 0 1 c)
(bk 0 (lp [0,1,7,8] rs [(0,[])] (a4 n9 0 1 7 8 c) cT (fun i vs h=>if i=0 then n1 c.W c.R c.N c.E c.P h else c.E i vs h) (.b (.t .o)) fun c=>
(sq (a4 n8 0 1 7 8 c)
(sn
(sn
(sm (a4 n2 0 1 7 8 c))
(bk 1 (sq (a4 n6 0 1 7 8 c)
(sq (a5 n5 0 1 5 7 8 c)
(cd (a6 n4 0 1 5 7 8 16 c) (sl (a1 n3 5 c)) tr)))))
(cd (a5 n7 0 1 7 8 9 c) tr tr))))))))) hp
attribute [simp] n1 n2 n3 n4 n5 n6 n7 n8 aZ bc
end l0
end Go.Proofs.YtjehibknlmehmaaGreatDoor
