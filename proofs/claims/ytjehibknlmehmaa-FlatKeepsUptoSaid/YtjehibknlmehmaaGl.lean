/- Bodies of the gates and slices functions; printed by a program of these sessions. No condition. -/
import Derived.Test.YtjehibknlmehmaaProg
import Derived.Test.YtjehibknlmehmaaAb2
set_option maxRecDepth 100000
namespace Go.Proofs.Ytjehibknlmehmaa
open Go.Ab
noncomputable abbrev Pg:Program:=Try.prog
theorem Try.mixed:Try.prog.follows .mixedOrders=true:=by kernel_rfl
namespace Wb
abbrev rs:List Nat:=[4]
def n1:N2:=fun _ R _ _ _ x2 x3 h=>
R [(.fn (.func 97) [] [x2,x3])] h
def n2:N2:=fun W R N E P x0 x1 h=>
eI 1 3 x0 h fun t1 h2=>
eI 1 46 x1 h2 fun t3 h4=>
n1 W R N E P t1 t3 h4
theorem aM{x0 x1:AV}{h:AH}{M:WK}{R:RK}(hp:n2 (fun id=>M id\/h.next<=id) (aJ Pg [.tmp 4] R) (aJ Pg [.tmp 4] R) (fun _ _ _=>False) (fun v h=>R (.cg v) h) x0 x1 h):aE Pg 89 [x0,x1] h M R:=
 fin (n:=6) (pl:=[]) (rs:=[.tmp 4]) (L:=rs) (fun c=>(a2 n2 0 1 c)) Try.mixed Try.func89 (fun c=>
(sq (a2 n2 0 1 c)
(sl (a2 n1 2 3 c)))) hp
attribute [simp] n1 n2
end Wb
namespace Wa
abbrev rs:List Nat:=[4]
def n1:N2:=fun _ R _ _ _ x2 x3 h=>
R [(.fn (.func 98) [] [x2,x3])] h
def n2:N2:=fun W R N E P x0 x1 h=>
eI 1 3 x0 h fun t1 h2=>
eI 1 3 x1 h2 fun t3 h4=>
n1 W R N E P t1 t3 h4
theorem aM{x0 x1:AV}{h:AH}{M:WK}{R:RK}(hp:n2 (fun id=>M id\/h.next<=id) (aJ Pg [.tmp 4] R) (aJ Pg [.tmp 4] R) (fun _ _ _=>False) (fun v h=>R (.cg v) h) x0 x1 h):aE Pg 90 [x0,x1] h M R:=
 fin (n:=6) (pl:=[]) (rs:=[.tmp 4]) (L:=rs) (fun c=>(a2 n2 0 1 c)) Try.mixed Try.func90 (fun c=>
(sq (a2 n2 0 1 c)
(sl (a2 n1 2 3 c)))) hp
attribute [simp] n1 n2
end Wa
namespace V_
abbrev rs:List Nat:=[6]
def n1:N3:=fun _ R _ _ _ x3 x4 x5 h=>
R [(.fn (.func 99) [] [x3,x4,x5])] h
def n2:N3:=fun W R N E P x0 x1 x2 h=>
eI 1 3 x0 h fun t1 h2=>
eI 1 3 x1 h2 fun t3 h4=>
eI 1 3 x2 h4 fun t5 h6=>
n1 W R N E P t1 t3 t5 h6
theorem aM{x0 x1 x2:AV}{h:AH}{M:WK}{R:RK}(hp:n2 (fun id=>M id\/h.next<=id) (aJ Pg [.tmp 6] R) (aJ Pg [.tmp 6] R) (fun _ _ _=>False) (fun v h=>R (.cg v) h) x0 x1 x2 h):aE Pg 91 [x0,x1,x2] h M R:=
 fin (n:=8) (pl:=[]) (rs:=[.tmp 6]) (L:=rs) (fun c=>(a3 n2 0 1 2 c)) Try.mixed Try.func91 (fun c=>
(sq (a3 n2 0 1 2 c)
(sl (a3 n1 3 4 5 c)))) hp
attribute [simp] n1 n2
end V_
namespace V9
abbrev rs:List Nat:=[6]
def n1:N3:=fun _ R _ _ _ x3 x4 x5 h=>
R [(.fn (.func 100) [] [x3,x4,x5])] h
def n2:N3:=fun W R N E P x0 x1 x2 h=>
eI 1 3 x0 h fun t1 h2=>
eI 1 3 x1 h2 fun t3 h4=>
eI 1 3 x2 h4 fun t5 h6=>
n1 W R N E P t1 t3 t5 h6
theorem aM{x0 x1 x2:AV}{h:AH}{M:WK}{R:RK}(hp:n2 (fun id=>M id\/h.next<=id) (aJ Pg [.tmp 6] R) (aJ Pg [.tmp 6] R) (fun _ _ _=>False) (fun v h=>R (.cg v) h) x0 x1 x2 h):aE Pg 92 [x0,x1,x2] h M R:=
 fin (n:=8) (pl:=[]) (rs:=[.tmp 6]) (L:=rs) (fun c=>(a3 n2 0 1 2 c)) Try.mixed Try.func92 (fun c=>
(sq (a3 n2 0 1 2 c)
(sl (a3 n1 3 4 5 c)))) hp
attribute [simp] n1 n2
end V9
namespace QU
abbrev rs:List Nat:=[0]
def n1:N0:=fun W R _ _ P h=>
qw 136 h fun t1 h2=>
dX (some (1,3,[.int .i64 0])) 1 [(0,(.sc (.int .i64 0)))] h2 fun t3 h4=>
aC Pg W 89 [(.sc (.int .i64 0)),t3] h4 (fun t5 h6=>
cR (some ([.int .i64 0,.int .i64 0,.bool false,.bool false,.string ⟨#[]⟩,.nilFunc],.inl [(0,1),(1,1),(2,1),(3,1),(4,1),(5,1)])) [(0,(.sc (.int .i64 1))),(1,(.sc (.int .i64 0))),(2,(.sc (.bool true))),(3,(.sc (.bool true))),(4,(.sc (.string ⟨#[105]⟩))),(5,t5)] fun t7=>
eH Pg (some (9,135)) t1 (.sc (.string ⟨#[105]⟩)) t7 h6 W fun h8=>
dX (some (1,3,[.int .i64 0])) 1 [(0,(.sc (.int .i64 0)))] h8 fun t9 pf=>
aC Pg W 89 [(.sc (.int .i64 1)),t9] pf (fun t11 vS=>
cR (some ([.int .i64 0,.int .i64 0,.bool false,.bool false,.string ⟨#[]⟩,.nilFunc],.inl [(0,1),(1,1),(2,1),(3,1),(4,1),(5,1)])) [(0,(.sc (.int .i64 1))),(1,(.sc (.int .i64 0))),(2,(.sc (.bool true))),(3,(.sc (.bool false))),(4,(.sc (.string ⟨#[120]⟩))),(5,t11)] fun t13=>
eH Pg (some (9,135)) t1 (.sc (.string ⟨#[120]⟩)) t13 vS W fun yZ=>
dX (some (1,3,[.int .i64 0,.int .i64 0])) 2 [(0,(.sc (.int .i64 2))),(1,(.sc (.int .i64 6)))] yZ fun t15 sX=>
aC Pg W 89 [(.sc (.int .i64 1)),t15] sX (fun t17 vQ=>
cR (some ([.int .i64 0,.int .i64 0,.bool false,.bool false,.string ⟨#[]⟩,.nilFunc],.inl [(0,1),(1,1),(2,1),(3,1),(4,1),(5,1)])) [(0,(.sc (.int .i64 1))),(1,(.sc (.int .i64 0))),(2,(.sc (.bool true))),(3,(.sc (.bool false))),(4,(.sc (.string ⟨#[121]⟩))),(5,t17)] fun t19=>
eH Pg (some (9,135)) t1 (.sc (.string ⟨#[121]⟩)) t19 vQ W fun sW=>
aC Pg W 90 [(.sc (.int .i64 1)),(.sc (.int .i64 4))] sW (fun t21 uf=>
cR (some ([.int .i64 0,.int .i64 0,.bool false,.bool false,.string ⟨#[]⟩,.nilFunc],.inl [(0,1),(1,1),(2,1),(3,1),(4,1),(5,1)])) [(0,(.sc (.int .i64 1))),(1,(.sc (.int .i64 0))),(2,(.sc (.bool true))),(3,(.sc (.bool true))),(4,(.sc (.string ⟨#[122]⟩))),(5,t21)] fun t23=>
eH Pg (some (9,135)) t1 (.sc (.string ⟨#[122]⟩)) t23 uf W fun sV=>
aC Pg W 91 [(.sc (.int .i64 0)),(.sc (.int .i64 0)),(.sc (.int .i64 4))] sV (fun t25 mS=>
cR (some ([.int .i64 0,.int .i64 0,.bool false,.bool false,.string ⟨#[]⟩,.nilFunc],.inl [(0,1),(1,1),(2,1),(3,1),(4,1),(5,1)])) [(0,(.sc (.int .i64 1))),(1,(.sc (.int .i64 1))),(2,(.sc (.bool true))),(3,(.sc (.bool false))),(4,(.sc (.string ⟨#[104]⟩))),(5,t25)] fun t27=>
eH Pg (some (9,135)) t1 (.sc (.string ⟨#[104]⟩)) t27 mS W fun qI=>
aC Pg W 90 [(.sc (.int .i64 1)),(.sc (.int .i64 2))] qI (fun t29 Dx=>
cR (some ([.int .i64 0,.int .i64 0,.bool false,.bool false,.string ⟨#[]⟩,.nilFunc],.inl [(0,1),(1,1),(2,1),(3,1),(4,1),(5,1)])) [(0,(.sc (.int .i64 1))),(1,(.sc (.int .i64 0))),(2,(.sc (.bool true))),(3,(.sc (.bool true))),(4,(.sc (.string ⟨#[115,100,103]⟩))),(5,t29)] fun t31=>
eH Pg (some (9,135)) t1 (.sc (.string ⟨#[115]⟩)) t31 Dx W fun vN=>
aC Pg W 90 [(.sc (.int .i64 1)),(.sc (.int .i64 6))] vN (fun t33 Hz=>
cR (some ([.int .i64 0,.int .i64 0,.bool false,.bool false,.string ⟨#[]⟩,.nilFunc],.inl [(0,1),(1,1),(2,1),(3,1),(4,1),(5,1)])) [(0,(.sc (.int .i64 1))),(1,(.sc (.int .i64 0))),(2,(.sc (.bool true))),(3,(.sc (.bool true))),(4,(.sc (.string ⟨#[115]⟩))),(5,t33)] fun t35=>
eH Pg (some (9,135)) t1 (.sc (.string ⟨#[115,100,103]⟩)) t35 Hz W fun vM=>
aC Pg W 90 [(.sc (.int .i64 1)),(.sc (.int .i64 1))] vM (fun t37 Hy=>
cR (some ([.int .i64 0,.int .i64 0,.bool false,.bool false,.string ⟨#[]⟩,.nilFunc],.inl [(0,1),(1,1),(2,1),(3,1),(4,1),(5,1)])) [(0,(.sc (.int .i64 1))),(1,(.sc (.int .i64 0))),(2,(.sc (.bool false))),(3,(.sc (.bool true))),(4,(.sc (.string ⟨#[116,100,103]⟩))),(5,t37)] fun t39=>
eH Pg (some (9,135)) t1 (.sc (.string ⟨#[116]⟩)) t39 Hy W fun Dv=>
aC Pg W 90 [(.sc (.int .i64 1)),(.sc (.int .i64 7))] Dv (fun t41 Hx=>
cR (some ([.int .i64 0,.int .i64 0,.bool false,.bool false,.string ⟨#[]⟩,.nilFunc],.inl [(0,1),(1,1),(2,1),(3,1),(4,1),(5,1)])) [(0,(.sc (.int .i64 1))),(1,(.sc (.int .i64 0))),(2,(.sc (.bool false))),(3,(.sc (.bool true))),(4,(.sc (.string ⟨#[116]⟩))),(5,t41)] fun t43=>
eH Pg (some (9,135)) t1 (.sc (.string ⟨#[116,100,103]⟩)) t43 Hx W fun yW=>
aC Pg W 91 [(.sc (.int .i64 1)),(.sc (.int .i64 7)),(.sc (.int .i64 1))] yW (fun t45 Du=>
cR (some ([.int .i64 0,.int .i64 0,.bool false,.bool false,.string ⟨#[]⟩,.nilFunc],.inl [(0,1),(1,1),(2,1),(3,1),(4,1),(5,1)])) [(0,(.sc (.int .i64 1))),(1,(.sc (.int .i64 1))),(2,(.sc (.bool true))),(3,(.sc (.bool false))),(4,(.sc (.string ⟨#[118,100,103]⟩))),(5,t45)] fun t47=>
eH Pg (some (9,135)) t1 (.sc (.string ⟨#[118]⟩)) t47 Du W fun qG=>
aC Pg W 91 [(.sc (.int .i64 7)),(.sc (.int .i64 1)),(.sc (.int .i64 7))] qG (fun t49 sT=>
cR (some ([.int .i64 0,.int .i64 0,.bool false,.bool false,.string ⟨#[]⟩,.nilFunc],.inl [(0,1),(1,1),(2,1),(3,1),(4,1),(5,1)])) [(0,(.sc (.int .i64 1))),(1,(.sc (.int .i64 1))),(2,(.sc (.bool true))),(3,(.sc (.bool false))),(4,(.sc (.string ⟨#[118]⟩))),(5,t49)] fun t51=>
eH Pg (some (9,135)) t1 (.sc (.string ⟨#[118,100,103]⟩)) t51 sT W fun pe=>
dX (some (1,3,[.int .i64 0])) 1 [(0,(.sc (.int .i64 1)))] pe fun t53 Hw=>
aC Pg W 89 [(.sc (.int .i64 0)),t53] Hw (fun t55 Lc=>
cR (some ([.int .i64 0,.int .i64 0,.bool false,.bool false,.string ⟨#[]⟩,.nilFunc],.inl [(0,1),(1,1),(2,1),(3,1),(4,1),(5,1)])) [(0,(.sc (.int .i64 1))),(1,(.sc (.int .i64 0))),(2,(.sc (.bool true))),(3,(.sc (.bool true))),(4,(.sc (.string ⟨#[119,100,103]⟩))),(5,t55)] fun t57=>
eH Pg (some (9,135)) t1 (.sc (.string ⟨#[119]⟩)) t57 Lc W fun BC=>
dX (some (1,3,[.int .i64 0])) 1 [(0,(.sc (.int .i64 7)))] BC fun t59 h60=>
aC Pg W 89 [(.sc (.int .i64 0)),t59] h60 (fun t61 FI=>
cR (some ([.int .i64 0,.int .i64 0,.bool false,.bool false,.string ⟨#[]⟩,.nilFunc],.inl [(0,1),(1,1),(2,1),(3,1),(4,1),(5,1)])) [(0,(.sc (.int .i64 1))),(1,(.sc (.int .i64 0))),(2,(.sc (.bool true))),(3,(.sc (.bool true))),(4,(.sc (.string ⟨#[119]⟩))),(5,t61)] fun t63=>
eH Pg (some (9,135)) t1 (.sc (.string ⟨#[119,100,103]⟩)) t63 FI W fun yS=>
aC Pg W 92 [(.sc (.int .i64 1)),(.sc (.int .i64 3)),(.sc (.int .i64 0))] yS (fun t65 Lb=>
cR (some ([.int .i64 0,.int .i64 0,.bool false,.bool false,.string ⟨#[]⟩,.nilFunc],.inl [(0,1),(1,1),(2,1),(3,1),(4,1),(5,1)])) [(0,(.sc (.int .i64 2))),(1,(.sc (.int .i64 0))),(2,(.sc (.bool true))),(3,(.sc (.bool false))),(4,(.sc (.string ⟨#[99,120]⟩))),(5,t65)] fun t67=>
eH Pg (some (9,135)) t1 (.sc (.string ⟨#[99,120]⟩)) t67 Lb W fun K_=>
cR (some ([.int .i64 0,.int .i64 0,.bool false,.bool false,.string ⟨#[]⟩,.nilFunc],.inl [(0,1),(1,1),(2,1),(3,1),(4,1),(5,1)])) [(0,(.sc (.int .i64 2))),(1,(.sc (.int .i64 0))),(2,(.sc (.bool true))),(3,(.sc (.bool false))),(4,(.sc (.string ⟨#[99,121]⟩))),(5,(.fn (.func 93) [] []))] fun t69=>
eH Pg (some (9,135)) t1 (.sc (.string ⟨#[99,121]⟩)) t69 K_ W fun xc=>
aC Pg W 90 [(.sc (.int .i64 3)),(.sc (.int .i64 4))] xc (fun t71 FE=>
cR (some ([.int .i64 0,.int .i64 0,.bool false,.bool false,.string ⟨#[]⟩,.nilFunc],.inl [(0,1),(1,1),(2,1),(3,1),(4,1),(5,1)])) [(0,(.sc (.int .i64 2))),(1,(.sc (.int .i64 0))),(2,(.sc (.bool true))),(3,(.sc (.bool true))),(4,(.sc (.string ⟨#[99,122]⟩))),(5,t71)] fun t73=>
eH Pg (some (9,135)) t1 (.sc (.string ⟨#[99,122]⟩)) t73 FE W fun FD=>
cR (some ([.int .i64 0,.int .i64 0,.bool false,.bool false,.string ⟨#[]⟩,.nilFunc],.inl [(0,1),(1,1),(2,1),(3,1),(4,1),(5,1)])) [(0,(.sc (.int .i64 2))),(1,(.sc (.int .i64 1))),(2,(.sc (.bool false))),(3,(.sc (.bool false))),(4,(.sc (.string ⟨#[99,104]⟩))),(5,(.fn (.func 94) [] []))] fun t75=>
eH Pg (some (9,135)) t1 (.sc (.string ⟨#[99,104]⟩)) t75 FD W fun K7=>
aC Pg W 90 [(.sc (.int .i64 3)),(.sc (.int .i64 2))] K7 (fun t77 FB=>
cR (some ([.int .i64 0,.int .i64 0,.bool false,.bool false,.string ⟨#[]⟩,.nilFunc],.inl [(0,1),(1,1),(2,1),(3,1),(4,1),(5,1)])) [(0,(.sc (.int .i64 2))),(1,(.sc (.int .i64 0))),(2,(.sc (.bool false))),(3,(.sc (.bool true))),(4,(.sc (.string ⟨#[99,115,100,103]⟩))),(5,t77)] fun t79=>
eH Pg (some (9,135)) t1 (.sc (.string ⟨#[99,115]⟩)) t79 FB W fun w_=>
aC Pg W 90 [(.sc (.int .i64 3)),(.sc (.int .i64 6))] w_ (fun t81 w9=>
cR (some ([.int .i64 0,.int .i64 0,.bool false,.bool false,.string ⟨#[]⟩,.nilFunc],.inl [(0,1),(1,1),(2,1),(3,1),(4,1),(5,1)])) [(0,(.sc (.int .i64 2))),(1,(.sc (.int .i64 0))),(2,(.sc (.bool false))),(3,(.sc (.bool true))),(4,(.sc (.string ⟨#[99,115]⟩))),(5,t81)] fun t83=>
eH Pg (some (9,135)) t1 (.sc (.string ⟨#[99,115,100,103]⟩)) t83 w9 W fun FA=>
aC Pg W 92 [(.sc (.int .i64 1)),(.sc (.int .i64 2)),(.sc (.int .i64 0))] FA (fun t85 Ve=>
cR (some ([.int .i64 0,.int .i64 0,.bool false,.bool false,.string ⟨#[]⟩,.nilFunc],.inl [(0,1),(1,1),(2,1),(3,1),(4,1),(5,1)])) [(0,(.sc (.int .i64 2))),(1,(.sc (.int .i64 0))),(2,(.sc (.bool true))),(3,(.sc (.bool false))),(4,(.sc (.string ⟨#[115,119,97,112]⟩))),(5,t85)] fun t87=>
eH Pg (some (9,135)) t1 (.sc (.string ⟨#[115,119,97,112]⟩)) t87 Ve W fun Vd=>
aC Pg W 92 [(.sc (.int .i64 1)),(.sc (.int .i64 2)),(.sc (.int .i64 2))] Vd (fun t89 h90=>
cR (some ([.int .i64 0,.int .i64 0,.bool false,.bool false,.string ⟨#[]⟩,.nilFunc],.inl [(0,1),(1,1),(2,1),(3,1),(4,1),(5,1)])) [(0,(.sc (.int .i64 2))),(1,(.sc (.int .i64 0))),(2,(.sc (.bool true))),(3,(.sc (.bool false))),(4,(.sc (.string ⟨#[105,115,119,97,112,100,103]⟩))),(5,t89)] fun t91=>
eH Pg (some (9,135)) t1 (.sc (.string ⟨#[105,115,119,97,112]⟩)) t91 h90 W fun Vc=>
aC Pg W 92 [(.sc (.int .i64 1)),(.sc (.int .i64 2)),(.sc (.int .i64 6))] Vc (fun t93 Fz=>
cR (some ([.int .i64 0,.int .i64 0,.bool false,.bool false,.string ⟨#[]⟩,.nilFunc],.inl [(0,1),(1,1),(2,1),(3,1),(4,1),(5,1)])) [(0,(.sc (.int .i64 2))),(1,(.sc (.int .i64 0))),(2,(.sc (.bool true))),(3,(.sc (.bool false))),(4,(.sc (.string ⟨#[105,115,119,97,112]⟩))),(5,t93)] fun t95=>
eH Pg (some (9,135)) t1 (.sc (.string ⟨#[105,115,119,97,112,100,103]⟩)) t95 Fz W fun Fy=>
aC Pg W 92 [(.sc (.int .i64 3)),(.sc (.int .i64 7)),(.sc (.int .i64 0))] Fy (fun t97 Fx=>
cR (some ([.int .i64 0,.int .i64 0,.bool false,.bool false,.string ⟨#[]⟩,.nilFunc],.inl [(0,1),(1,1),(2,1),(3,1),(4,1),(5,1)])) [(0,(.sc (.int .i64 3))),(1,(.sc (.int .i64 0))),(2,(.sc (.bool false))),(3,(.sc (.bool false))),(4,(.sc (.string ⟨#[99,99,120]⟩))),(5,t97)] fun t99=>
eH Pg (some (9,135)) t1 (.sc (.string ⟨#[99,99,120]⟩)) t99 Fx W fun FR=>
aC Pg W 90 [(.sc (.int .i64 7)),(.sc (.int .i64 4))] FR (fun t101 NN=>
cR (some ([.int .i64 0,.int .i64 0,.bool false,.bool false,.string ⟨#[]⟩,.nilFunc],.inl [(0,1),(1,1),(2,1),(3,1),(4,1),(5,1)])) [(0,(.sc (.int .i64 3))),(1,(.sc (.int .i64 0))),(2,(.sc (.bool false))),(3,(.sc (.bool true))),(4,(.sc (.string ⟨#[99,99,122]⟩))),(5,t101)] fun t103=>
eH Pg (some (9,135)) t1 (.sc (.string ⟨#[99,99,122]⟩)) t103 NN W fun NM=>
aC Pg W 92 [(.sc (.int .i64 3)),(.sc (.int .i64 5)),(.sc (.int .i64 0))] NM (fun t105 FQ=>
cR (some ([.int .i64 0,.int .i64 0,.bool false,.bool false,.string ⟨#[]⟩,.nilFunc],.inl [(0,1),(1,1),(2,1),(3,1),(4,1),(5,1)])) [(0,(.sc (.int .i64 3))),(1,(.sc (.int .i64 0))),(2,(.sc (.bool false))),(3,(.sc (.bool false))),(4,(.sc (.string ⟨#[99,115,119,97,112]⟩))),(5,t105)] fun t107=>
eH Pg (some (9,135)) t1 (.sc (.string ⟨#[99,115,119,97,112]⟩)) t107 FQ W fun uR=>
R [t1] uR) P) P) P) P) P) P) P) P) P) P) P) P) P) P) P) P) P) P) P) P) P) P) P
def n2:N0:=fun W R N E P h=>
n1 W R N E P h
theorem aM{h:AH}{M:WK}{R:RK}(hp:n2 (fun id=>M id\/h.next<=id) (aJ Pg [.tmp 0] R) (aJ Pg [.tmp 0] R) (fun _ _ _=>False) (fun v h=>R (.cg v) h) h):aE Pg 78 [] h M R:=
 fin (n:=56) (pl:=[]) (rs:=[.tmp 0]) (L:=rs) (fun c=>(a0 n2 c)) Try.mixed Try.func78 (fun c=>
(sq (a0 n2 c)
(sl (a0 n1 c)))) hp
attribute [simp] n1 n2
end QU
namespace QY
abbrev rs:List Nat:=[2]
def n1:N1:=fun W R _ _ P x0 h=>
aC Pg W 78 [] h (fun t1 h2=>
gH Pg (some (9,135)) t1 x0 false h2 fun t3 _=>
ml (some (0,1,false)) t3 fun t5=>
R [t5] h2) P
def n2:N1:=fun W R N E P x0 h=>
n1 W R N E P x0 h
theorem aM{x0:AV}{h:AH}{M:WK}{R:RK}(hp:n2 (fun id=>M id\/h.next<=id) (aJ Pg [.tmp 2] R) (aJ Pg [.tmp 2] R) (fun _ _ _=>False) (fun v h=>R (.cg v) h) x0 h):aE Pg 47 [x0] h M R:=
 fin (n:=7) (pl:=[]) (rs:=[.tmp 2]) (L:=rs) (fun c=>(a1 n2 0 c)) Try.mixed Try.func47 (fun c=>
(sq (a1 n2 0 c)
(sl (a1 n1 0 c)))) hp
attribute [simp] n1 n2
end QY
namespace QW
abbrev rs:List Nat:=[2]
def n1:N1:=fun W R _ _ P x0 h=>
aC Pg W 78 [] h (fun t1 h2=>
gH Pg (some (9,135)) t1 x0 false h2 fun t3 _=>
ml (some (1,1,false)) t3 fun t5=>
R [t5] h2) P
def n2:N1:=fun W R N E P x0 h=>
n1 W R N E P x0 h
theorem aM{x0:AV}{h:AH}{M:WK}{R:RK}(hp:n2 (fun id=>M id\/h.next<=id) (aJ Pg [.tmp 2] R) (aJ Pg [.tmp 2] R) (fun _ _ _=>False) (fun v h=>R (.cg v) h) x0 h):aE Pg 49 [x0] h M R:=
 fin (n:=7) (pl:=[]) (rs:=[.tmp 2]) (L:=rs) (fun c=>(a1 n2 0 c)) Try.mixed Try.func49 (fun c=>
(sq (a1 n2 0 c)
(sl (a1 n1 0 c)))) hp
attribute [simp] n1 n2
end QW
namespace QX
abbrev rs:List Nat:=[4]
def n1:N2:=fun W R _ _ P x0 x1 h=>
aC Pg W 79 [x0,x1] h (fun t1 h2=>
ah Pg .geq 3 true t1 (.sc (.int .i64 0)) fun t3=>
R [t3] h2) P
def n2:N2:=fun W R N E P x0 x1 h=>
n1 W R N E P x0 x1 h
theorem aM{x0 x1:AV}{h:AH}{M:WK}{R:RK}(hp:n2 (fun id=>M id\/h.next<=id) (aJ Pg [.tmp 4] R) (aJ Pg [.tmp 4] R) (fun _ _ _=>False) (fun v h=>R (.cg v) h) x0 x1 h):aE Pg 48 [x0,x1] h M R:=
 fin (n:=9) (pl:=[]) (rs:=[.tmp 4]) (L:=rs) (fun c=>(a2 n2 0 1 c)) Try.mixed Try.func48 (fun c=>
(sq (a2 n2 0 1 c)
(sl (a2 n1 0 1 c)))) hp
attribute [simp] n1 n2
end QX
namespace qi
abbrev rs:List Nat:=[4]
def n1:N0:=fun _ R _ _ _ h=>
R [(.sc (.int .i64 (-1)))] h
def n2:N4:=fun _ _ N _ _ x0 x1 x7 x8 h=>
ah Pg .add 3 true x8 (.sc (.int .i64 1)) fun t1=>
N [x0,x1,x7,t1] h
def n3:N1:=fun _ R _ _ _ x5 h=>
R [x5] h
def n4:N6:=fun W R N E P x0 x1 x5 x7 x8 cW h=>
aH cW (
n3 W R N E P x5 h) (
n2 W R N E P x0 x1 x7 x8 h)
def n5:N5:=fun W R N E P x0 x1 x5 x7 x8 h=>
br (some (1,none)) x0 x5 fun t2=>
al (some false) (some 1) t2 h fun t3 _=>
ah Pg .eql 3 false x1 t3 fun t5=>
n4 W R N E P x0 x1 x5 x7 x8 t5 h
def n6:N4:=fun W R N E P x0 x1 x7 x8 h=>
n5 W R N E P x0 x1 x8 x7 x8 h
def n7:N5:=fun W R N E P x0 x1 x7 x8 x9 h=>
aH x9 (
n6 W R N E P x0 x1 x7 x8 h) (
E 0 [] h)
def n8:N4:=fun W R N E P x0 x1 x7 x8 h=>
ah Pg .lss 3 false x8 x7 fun t6=>
n7 W R N E P x0 x1 x7 x8 t6 h
def cB:GK:=fun W R N E P N' vs h=>n8 W R N' (fun(i:Nat) (vs:List AV) (h:AH)=>if i=0 then n1 W R N E P h else E i vs h) P (vs.getD 0 aa) (vs.getD 1 aa) (vs.getD 2 aa) (vs.getD 3 aa) h
def n9:N4:=fun W R N E P x0 x1 x7 x8 h=>
cY (cB W R N E P) [x0,x1,x7,x8] h
def aQ:N2:=fun W R N E P x0 x1 h=>
(ba x0=false)/\bK x0 fun t7=>
n9 W R N E P x0 x1 t7 (.sc (.int .i64 0)) h
def a_:N2:=fun W R N E P x0 x1 h=>
aQ W R N E P x0 x1 h
theorem aM{x0 x1:AV}{h:AH}{M:WK}{R:RK}(hp:a_ (fun id=>M id\/h.next<=id) (aJ Pg [.tmp 4] R) (aJ Pg [.tmp 4] R) (fun _ _ _=>False) (fun v h=>R (.cg v) h) x0 x1 h):aE Pg 79 [x0,x1] h M R:=
 fin (n:=19) (pl:=[]) (rs:=[.tmp 4]) (L:=rs) (fun c=>(a2 a_ 0 1 c)) Try.mixed Try.func79 (fun c=>
(sq (a2 a_ 0 1 c)
(sn
(sl (a0 n1 c))
(sq (a2 aQ 0 1 c)
(bk 0 (lp [0,1,7,8] rs [(0,[])] (a4 n9 0 1 7 8 c) cB (fun i vs h=>if i=0 then n1 c.W c.R c.N c.E c.P h else c.E i vs h) (.b (.t .o)) fun c=>
(sq (a4 n8 0 1 7 8 c)
(sn
(sn
(sm (a4 n2 0 1 7 8 c))
(bk 1 (sq (a4 n6 0 1 7 8 c)
(sq (a5 n5 0 1 5 7 8 c)
(cd (a6 n4 0 1 5 7 8 16 c) (sl (a1 n3 5 c)) tr)))))
(cd (a5 n7 0 1 7 8 9 c) tr tr))))))))) hp
attribute [simp] n1 n2 n3 n4 n5 n6 n7 n8 aQ a_
end qi
namespace QT
abbrev rs:List Nat:=[4]
def n1:N2:=fun W R _ _ P x0 x1 h=>
aC Pg W 95 [x0,x1] h (fun t1 h2=>
ah Pg .geq 3 true t1 (.sc (.int .i64 0)) fun t3=>
R [t3] h2) P
def n2:N2:=fun W R N E P x0 x1 h=>
n1 W R N E P x0 x1 h
theorem aM{x0 x1:AV}{h:AH}{M:WK}{R:RK}(hp:n2 (fun id=>M id\/h.next<=id) (aJ Pg [.tmp 4] R) (aJ Pg [.tmp 4] R) (fun _ _ _=>False) (fun v h=>R (.cg v) h) x0 x1 h):aE Pg 85 [x0,x1] h M R:=
 fin (n:=9) (pl:=[]) (rs:=[.tmp 4]) (L:=rs) (fun c=>(a2 n2 0 1 c)) Try.mixed Try.func85 (fun c=>
(sq (a2 n2 0 1 c)
(sl (a2 n1 0 1 c)))) hp
attribute [simp] n1 n2
end QT
namespace qh
abbrev rs:List Nat:=[4]
def n1:N0:=fun _ R _ _ _ h=>
R [(.sc (.int .i64 (-1)))] h
def n2:N4:=fun _ _ N _ _ x0 x1 x7 x8 h=>
ah Pg .add 3 true x8 (.sc (.int .i64 1)) fun t1=>
N [x0,x1,x7,t1] h
def n3:N1:=fun _ R _ _ _ x5 h=>
R [x5] h
def n4:N6:=fun W R N E P x0 x1 x5 x7 x8 cW h=>
aH cW (
n3 W R N E P x5 h) (
n2 W R N E P x0 x1 x7 x8 h)
def n5:N5:=fun W R N E P x0 x1 x5 x7 x8 h=>
br (some (1,none)) x0 x5 fun t2=>
al (some false) (some 1) t2 h fun t3 _=>
ah Pg .eql 9 false x1 t3 fun t5=>
n4 W R N E P x0 x1 x5 x7 x8 t5 h
def n6:N4:=fun W R N E P x0 x1 x7 x8 h=>
n5 W R N E P x0 x1 x8 x7 x8 h
def n7:N5:=fun W R N E P x0 x1 x7 x8 x9 h=>
aH x9 (
n6 W R N E P x0 x1 x7 x8 h) (
E 0 [] h)
def n8:N4:=fun W R N E P x0 x1 x7 x8 h=>
ah Pg .lss 3 false x8 x7 fun t6=>
n7 W R N E P x0 x1 x7 x8 t6 h
def cB:GK:=fun W R N E P N' vs h=>n8 W R N' (fun(i:Nat) (vs:List AV) (h:AH)=>if i=0 then n1 W R N E P h else E i vs h) P (vs.getD 0 aa) (vs.getD 1 aa) (vs.getD 2 aa) (vs.getD 3 aa) h
def n9:N4:=fun W R N E P x0 x1 x7 x8 h=>
cY (cB W R N E P) [x0,x1,x7,x8] h
def aQ:N2:=fun W R N E P x0 x1 h=>
(ba x0=false)/\bK x0 fun t7=>
n9 W R N E P x0 x1 t7 (.sc (.int .i64 0)) h
def a_:N2:=fun W R N E P x0 x1 h=>
aQ W R N E P x0 x1 h
theorem aM{x0 x1:AV}{h:AH}{M:WK}{R:RK}(hp:a_ (fun id=>M id\/h.next<=id) (aJ Pg [.tmp 4] R) (aJ Pg [.tmp 4] R) (fun _ _ _=>False) (fun v h=>R (.cg v) h) x0 x1 h):aE Pg 95 [x0,x1] h M R:=
 fin (n:=19) (pl:=[]) (rs:=[.tmp 4]) (L:=rs) (fun c=>(a2 a_ 0 1 c)) Try.mixed Try.func95 (fun c=>
(sq (a2 a_ 0 1 c)
(sn
(sl (a0 n1 c))
(sq (a2 aQ 0 1 c)
(bk 0 (lp [0,1,7,8] rs [(0,[])] (a4 n9 0 1 7 8 c) cB (fun i vs h=>if i=0 then n1 c.W c.R c.N c.E c.P h else c.E i vs h) (.b (.t .o)) fun c=>
(sq (a4 n8 0 1 7 8 c)
(sn
(sn
(sm (a4 n2 0 1 7 8 c))
(bk 1 (sq (a4 n6 0 1 7 8 c)
(sq (a5 n5 0 1 5 7 8 c)
(cd (a6 n4 0 1 5 7 8 16 c) (sl (a1 n3 5 c)) tr)))))
(cd (a5 n7 0 1 7 8 9 c) tr tr))))))))) hp
attribute [simp] n1 n2 n3 n4 n5 n6 n7 n8 aQ a_
end qh
end Go.Proofs.Ytjehibknlmehmaa
