/- Bodies of the gates and slices functions; printed by a program of these sessions. No condition. -/
import Derived.Test.YtjehibknlmehmaaGreatProg
import Derived.Test.YtjehibknlmehmaaGreatAb2
set_option maxRecDepth 100000
namespace Go.Proofs.YtjehibknlmehmaaGreat
open Go.Ab
noncomputable abbrev Pg:Program:=Tryz.prog
theorem Tryz.mixed:Tryz.prog.follows .mixedOrders=true:=by kernel_rfl
namespace PG
abbrev rs:List Nat:=[4]
def n2:N2:=fun _ R _ _ _ x0 x1 h=>
eR 1 3 x0 h fun t1 h2=>
eR 1 33 x1 h2 fun t3 h4=>
R [(.fn (.func 109) [] [t1,t3])] h4
theorem aM{x0 x1:AV}{h:AH}{M:WK}{R:RK}(hp:n2 (fun id=>M id\/h.next<=id) (aJ Pg [.tmp 4] R) (aJ Pg [.tmp 4] R) (fun _ _ _=>False) (fun v h=>R (.bW v) h) x0 x1 h):aA Pg 103 [x0,x1] h M R:=
 fin (n:=6) (pl:=[]) (rs:=[.tmp 4]) (L:=rs) (fun c=>(a2 n2 0 1 c)) Tryz.mixed Tryz.func103 (fun c=>
(sq (a2 n2 0 1 c)
tr)) hp
attribute [simp] n2
end PG
namespace PF
abbrev rs:List Nat:=[4]
def n2:N2:=fun _ R _ _ _ x0 x1 h=>
eR 1 3 x0 h fun t1 h2=>
eR 1 3 x1 h2 fun t3 h4=>
R [(.fn (.func 110) [] [t1,t3])] h4
theorem aM{x0 x1:AV}{h:AH}{M:WK}{R:RK}(hp:n2 (fun id=>M id\/h.next<=id) (aJ Pg [.tmp 4] R) (aJ Pg [.tmp 4] R) (fun _ _ _=>False) (fun v h=>R (.bW v) h) x0 x1 h):aA Pg 104 [x0,x1] h M R:=
 fin (n:=6) (pl:=[]) (rs:=[.tmp 4]) (L:=rs) (fun c=>(a2 n2 0 1 c)) Tryz.mixed Tryz.func104 (fun c=>
(sq (a2 n2 0 1 c)
tr)) hp
attribute [simp] n2
end PF
namespace PD
abbrev rs:List Nat:=[6]
def n2:N3:=fun _ R _ _ _ x0 x1 x2 h=>
eR 1 3 x0 h fun t1 h2=>
eR 1 3 x1 h2 fun t3 h4=>
eR 1 3 x2 h4 fun t5 h6=>
R [(.fn (.func 111) [] [t1,t3,t5])] h6
theorem aM{x0 x1 x2:AV}{h:AH}{M:WK}{R:RK}(hp:n2 (fun id=>M id\/h.next<=id) (aJ Pg [.tmp 6] R) (aJ Pg [.tmp 6] R) (fun _ _ _=>False) (fun v h=>R (.bW v) h) x0 x1 x2 h):aA Pg 105 [x0,x1,x2] h M R:=
 fin (n:=8) (pl:=[]) (rs:=[.tmp 6]) (L:=rs) (fun c=>(a3 n2 0 1 2 c)) Tryz.mixed Tryz.func105 (fun c=>
(sq (a3 n2 0 1 2 c)
tr)) hp
attribute [simp] n2
end PD
namespace PC
abbrev rs:List Nat:=[6]
def n2:N3:=fun _ R _ _ _ x0 x1 x2 h=>
eR 1 3 x0 h fun t1 h2=>
eR 1 3 x1 h2 fun t3 h4=>
eR 1 3 x2 h4 fun t5 h6=>
R [(.fn (.func 112) [] [t1,t3,t5])] h6
theorem aM{x0 x1 x2:AV}{h:AH}{M:WK}{R:RK}(hp:n2 (fun id=>M id\/h.next<=id) (aJ Pg [.tmp 6] R) (aJ Pg [.tmp 6] R) (fun _ _ _=>False) (fun v h=>R (.bW v) h) x0 x1 x2 h):aA Pg 106 [x0,x1,x2] h M R:=
 fin (n:=8) (pl:=[]) (rs:=[.tmp 6]) (L:=rs) (fun c=>(a3 n2 0 1 2 c)) Tryz.mixed Tryz.func106 (fun c=>
(sq (a3 n2 0 1 2 c)
tr)) hp
attribute [simp] n2
end PC
namespace JL
abbrev rs:List Nat:=[0]
def n1:N0:=fun W R _ _ P h=>
rH 147 h fun t1 h2=>
dG (some (1,3,[.int .i64 0])) 1 [(0,(.sc (.int .i64 0)))] h2 fun t3 h4=>
aq Pg W 103 [(.sc (.int .i64 0)),t3] h4 (fun t5 h6=>
cN (some ([.int .i64 0,.int .i64 0,.bool false,.bool false,.string ⟨#[]⟩,.nilFunc],.inl [(0,1),(1,1),(2,1),(3,1),(4,1),(5,1)])) [(0,(.sc (.int .i64 1))),(1,(.sc (.int .i64 0))),(2,(.sc (.bool true))),(3,(.sc (.bool true))),(4,(.sc (.string ⟨#[105]⟩))),(5,t5)] fun t7=>
eH Pg (some (9,146)) t1 (.sc (.string ⟨#[105]⟩)) t7 h6 W fun h8=>
dG (some (1,3,[.int .i64 0])) 1 [(0,(.sc (.int .i64 0)))] h8 fun t9 mP=>
aq Pg W 103 [(.sc (.int .i64 1)),t9] mP (fun t11 rX=>
cN (some ([.int .i64 0,.int .i64 0,.bool false,.bool false,.string ⟨#[]⟩,.nilFunc],.inl [(0,1),(1,1),(2,1),(3,1),(4,1),(5,1)])) [(0,(.sc (.int .i64 1))),(1,(.sc (.int .i64 0))),(2,(.sc (.bool true))),(3,(.sc (.bool false))),(4,(.sc (.string ⟨#[120]⟩))),(5,t11)] fun t13=>
eH Pg (some (9,146)) t1 (.sc (.string ⟨#[120]⟩)) t13 rX W fun z6=>
dG (some (1,3,[.int .i64 0,.int .i64 0])) 2 [(0,(.sc (.int .i64 2))),(1,(.sc (.int .i64 6)))] z6 fun t15 rW=>
aq Pg W 103 [(.sc (.int .i64 1)),t15] rW (fun t17 rV=>
cN (some ([.int .i64 0,.int .i64 0,.bool false,.bool false,.string ⟨#[]⟩,.nilFunc],.inl [(0,1),(1,1),(2,1),(3,1),(4,1),(5,1)])) [(0,(.sc (.int .i64 1))),(1,(.sc (.int .i64 0))),(2,(.sc (.bool true))),(3,(.sc (.bool false))),(4,(.sc (.string ⟨#[121]⟩))),(5,t17)] fun t19=>
eH Pg (some (9,146)) t1 (.sc (.string ⟨#[121]⟩)) t19 rV W fun rU=>
aq Pg W 104 [(.sc (.int .i64 1)),(.sc (.int .i64 4))] rU (fun t21 sT=>
cN (some ([.int .i64 0,.int .i64 0,.bool false,.bool false,.string ⟨#[]⟩,.nilFunc],.inl [(0,1),(1,1),(2,1),(3,1),(4,1),(5,1)])) [(0,(.sc (.int .i64 1))),(1,(.sc (.int .i64 0))),(2,(.sc (.bool true))),(3,(.sc (.bool true))),(4,(.sc (.string ⟨#[122]⟩))),(5,t21)] fun t23=>
eH Pg (some (9,146)) t1 (.sc (.string ⟨#[122]⟩)) t23 sT W fun tY=>
aq Pg W 105 [(.sc (.int .i64 0)),(.sc (.int .i64 0)),(.sc (.int .i64 4))] tY (fun t25 nP=>
cN (some ([.int .i64 0,.int .i64 0,.bool false,.bool false,.string ⟨#[]⟩,.nilFunc],.inl [(0,1),(1,1),(2,1),(3,1),(4,1),(5,1)])) [(0,(.sc (.int .i64 1))),(1,(.sc (.int .i64 1))),(2,(.sc (.bool true))),(3,(.sc (.bool false))),(4,(.sc (.string ⟨#[104]⟩))),(5,t25)] fun t27=>
eH Pg (some (9,146)) t1 (.sc (.string ⟨#[104]⟩)) t27 nP W fun qc=>
aq Pg W 104 [(.sc (.int .i64 1)),(.sc (.int .i64 2))] qc (fun t29 wP=>
cN (some ([.int .i64 0,.int .i64 0,.bool false,.bool false,.string ⟨#[]⟩,.nilFunc],.inl [(0,1),(1,1),(2,1),(3,1),(4,1),(5,1)])) [(0,(.sc (.int .i64 1))),(1,(.sc (.int .i64 0))),(2,(.sc (.bool true))),(3,(.sc (.bool true))),(4,(.sc (.string ⟨#[115,100,103]⟩))),(5,t29)] fun t31=>
eH Pg (some (9,146)) t1 (.sc (.string ⟨#[115]⟩)) t31 wP W fun wO=>
aq Pg W 104 [(.sc (.int .i64 1)),(.sc (.int .i64 6))] wO (fun t33 D6=>
cN (some ([.int .i64 0,.int .i64 0,.bool false,.bool false,.string ⟨#[]⟩,.nilFunc],.inl [(0,1),(1,1),(2,1),(3,1),(4,1),(5,1)])) [(0,(.sc (.int .i64 1))),(1,(.sc (.int .i64 0))),(2,(.sc (.bool true))),(3,(.sc (.bool true))),(4,(.sc (.string ⟨#[115]⟩))),(5,t33)] fun t35=>
eH Pg (some (9,146)) t1 (.sc (.string ⟨#[115,100,103]⟩)) t35 D6 W fun wN=>
aq Pg W 104 [(.sc (.int .i64 1)),(.sc (.int .i64 1))] wN (fun t37 zy=>
cN (some ([.int .i64 0,.int .i64 0,.bool false,.bool false,.string ⟨#[]⟩,.nilFunc],.inl [(0,1),(1,1),(2,1),(3,1),(4,1),(5,1)])) [(0,(.sc (.int .i64 1))),(1,(.sc (.int .i64 0))),(2,(.sc (.bool false))),(3,(.sc (.bool true))),(4,(.sc (.string ⟨#[116,100,103]⟩))),(5,t37)] fun t39=>
eH Pg (some (9,146)) t1 (.sc (.string ⟨#[116]⟩)) t39 zy W fun zx=>
aq Pg W 104 [(.sc (.int .i64 1)),(.sc (.int .i64 7))] zx (fun t41 zw=>
cN (some ([.int .i64 0,.int .i64 0,.bool false,.bool false,.string ⟨#[]⟩,.nilFunc],.inl [(0,1),(1,1),(2,1),(3,1),(4,1),(5,1)])) [(0,(.sc (.int .i64 1))),(1,(.sc (.int .i64 0))),(2,(.sc (.bool false))),(3,(.sc (.bool true))),(4,(.sc (.string ⟨#[116]⟩))),(5,t41)] fun t43=>
eH Pg (some (9,146)) t1 (.sc (.string ⟨#[116,100,103]⟩)) t43 zw W fun wL=>
aq Pg W 105 [(.sc (.int .i64 1)),(.sc (.int .i64 7)),(.sc (.int .i64 1))] wL (fun t45 zu=>
cN (some ([.int .i64 0,.int .i64 0,.bool false,.bool false,.string ⟨#[]⟩,.nilFunc],.inl [(0,1),(1,1),(2,1),(3,1),(4,1),(5,1)])) [(0,(.sc (.int .i64 1))),(1,(.sc (.int .i64 1))),(2,(.sc (.bool true))),(3,(.sc (.bool false))),(4,(.sc (.string ⟨#[118,100,103]⟩))),(5,t45)] fun t47=>
eH Pg (some (9,146)) t1 (.sc (.string ⟨#[118]⟩)) t47 zu W fun qa=>
aq Pg W 105 [(.sc (.int .i64 7)),(.sc (.int .i64 1)),(.sc (.int .i64 7))] qa (fun t49 tV=>
cN (some ([.int .i64 0,.int .i64 0,.bool false,.bool false,.string ⟨#[]⟩,.nilFunc],.inl [(0,1),(1,1),(2,1),(3,1),(4,1),(5,1)])) [(0,(.sc (.int .i64 1))),(1,(.sc (.int .i64 1))),(2,(.sc (.bool true))),(3,(.sc (.bool false))),(4,(.sc (.string ⟨#[118]⟩))),(5,t49)] fun t51=>
eH Pg (some (9,146)) t1 (.sc (.string ⟨#[118,100,103]⟩)) t51 tV W fun pb=>
dG (some (1,3,[.int .i64 0])) 1 [(0,(.sc (.int .i64 1)))] pb fun t53 D5=>
aq Pg W 103 [(.sc (.int .i64 0)),t53] D5 (fun t55 Gl=>
cN (some ([.int .i64 0,.int .i64 0,.bool false,.bool false,.string ⟨#[]⟩,.nilFunc],.inl [(0,1),(1,1),(2,1),(3,1),(4,1),(5,1)])) [(0,(.sc (.int .i64 1))),(1,(.sc (.int .i64 0))),(2,(.sc (.bool true))),(3,(.sc (.bool true))),(4,(.sc (.string ⟨#[119,100,103]⟩))),(5,t55)] fun t57=>
eH Pg (some (9,146)) t1 (.sc (.string ⟨#[119]⟩)) t57 Gl W fun xZ=>
dG (some (1,3,[.int .i64 0])) 1 [(0,(.sc (.int .i64 7)))] xZ fun t59 Vk=>
aq Pg W 103 [(.sc (.int .i64 0)),t59] Vk (fun t61 Cd=>
cN (some ([.int .i64 0,.int .i64 0,.bool false,.bool false,.string ⟨#[]⟩,.nilFunc],.inl [(0,1),(1,1),(2,1),(3,1),(4,1),(5,1)])) [(0,(.sc (.int .i64 1))),(1,(.sc (.int .i64 0))),(2,(.sc (.bool true))),(3,(.sc (.bool true))),(4,(.sc (.string ⟨#[119]⟩))),(5,t61)] fun t63=>
eH Pg (some (9,146)) t1 (.sc (.string ⟨#[119,100,103]⟩)) t63 Cd W fun wI=>
aq Pg W 106 [(.sc (.int .i64 1)),(.sc (.int .i64 3)),(.sc (.int .i64 0))] wI (fun t65 Gi=>
cN (some ([.int .i64 0,.int .i64 0,.bool false,.bool false,.string ⟨#[]⟩,.nilFunc],.inl [(0,1),(1,1),(2,1),(3,1),(4,1),(5,1)])) [(0,(.sc (.int .i64 2))),(1,(.sc (.int .i64 0))),(2,(.sc (.bool true))),(3,(.sc (.bool false))),(4,(.sc (.string ⟨#[99,120]⟩))),(5,t65)] fun t67=>
eH Pg (some (9,146)) t1 (.sc (.string ⟨#[99,120]⟩)) t67 Gi W fun Gh=>
cN (some ([.int .i64 0,.int .i64 0,.bool false,.bool false,.string ⟨#[]⟩,.nilFunc],.inl [(0,1),(1,1),(2,1),(3,1),(4,1),(5,1)])) [(0,(.sc (.int .i64 2))),(1,(.sc (.int .i64 0))),(2,(.sc (.bool true))),(3,(.sc (.bool false))),(4,(.sc (.string ⟨#[99,121]⟩))),(5,(.fn (.func 107) [] []))] fun t69=>
eH Pg (some (9,146)) t1 (.sc (.string ⟨#[99,121]⟩)) t69 Gh W fun xX=>
aq Pg W 104 [(.sc (.int .i64 3)),(.sc (.int .i64 4))] xX (fun t71 Gf=>
cN (some ([.int .i64 0,.int .i64 0,.bool false,.bool false,.string ⟨#[]⟩,.nilFunc],.inl [(0,1),(1,1),(2,1),(3,1),(4,1),(5,1)])) [(0,(.sc (.int .i64 2))),(1,(.sc (.int .i64 0))),(2,(.sc (.bool true))),(3,(.sc (.bool true))),(4,(.sc (.string ⟨#[99,122]⟩))),(5,t71)] fun t73=>
eH Pg (some (9,146)) t1 (.sc (.string ⟨#[99,122]⟩)) t73 Gf W fun Cc=>
cN (some ([.int .i64 0,.int .i64 0,.bool false,.bool false,.string ⟨#[]⟩,.nilFunc],.inl [(0,1),(1,1),(2,1),(3,1),(4,1),(5,1)])) [(0,(.sc (.int .i64 2))),(1,(.sc (.int .i64 1))),(2,(.sc (.bool false))),(3,(.sc (.bool false))),(4,(.sc (.string ⟨#[99,104]⟩))),(5,(.fn (.func 108) [] []))] fun t75=>
eH Pg (some (9,146)) t1 (.sc (.string ⟨#[99,104]⟩)) t75 Cc W fun Ge=>
aq Pg W 104 [(.sc (.int .i64 3)),(.sc (.int .i64 2))] Ge (fun t77 Cb=>
cN (some ([.int .i64 0,.int .i64 0,.bool false,.bool false,.string ⟨#[]⟩,.nilFunc],.inl [(0,1),(1,1),(2,1),(3,1),(4,1),(5,1)])) [(0,(.sc (.int .i64 2))),(1,(.sc (.int .i64 0))),(2,(.sc (.bool false))),(3,(.sc (.bool true))),(4,(.sc (.string ⟨#[99,115,100,103]⟩))),(5,t77)] fun t79=>
eH Pg (some (9,146)) t1 (.sc (.string ⟨#[99,115]⟩)) t79 Cb W fun xW=>
aq Pg W 104 [(.sc (.int .i64 3)),(.sc (.int .i64 6))] xW (fun t81 xV=>
cN (some ([.int .i64 0,.int .i64 0,.bool false,.bool false,.string ⟨#[]⟩,.nilFunc],.inl [(0,1),(1,1),(2,1),(3,1),(4,1),(5,1)])) [(0,(.sc (.int .i64 2))),(1,(.sc (.int .i64 0))),(2,(.sc (.bool false))),(3,(.sc (.bool true))),(4,(.sc (.string ⟨#[99,115]⟩))),(5,t81)] fun t83=>
eH Pg (some (9,146)) t1 (.sc (.string ⟨#[99,115,100,103]⟩)) t83 xV W fun Gc=>
aq Pg W 106 [(.sc (.int .i64 1)),(.sc (.int .i64 2)),(.sc (.int .i64 0))] Gc (fun t85 LD=>
cN (some ([.int .i64 0,.int .i64 0,.bool false,.bool false,.string ⟨#[]⟩,.nilFunc],.inl [(0,1),(1,1),(2,1),(3,1),(4,1),(5,1)])) [(0,(.sc (.int .i64 2))),(1,(.sc (.int .i64 0))),(2,(.sc (.bool true))),(3,(.sc (.bool false))),(4,(.sc (.string ⟨#[115,119,97,112]⟩))),(5,t85)] fun t87=>
eH Pg (some (9,146)) t1 (.sc (.string ⟨#[115,119,97,112]⟩)) t87 LD W fun LC=>
aq Pg W 106 [(.sc (.int .i64 1)),(.sc (.int .i64 2)),(.sc (.int .i64 2))] LC (fun t89 h90=>
cN (some ([.int .i64 0,.int .i64 0,.bool false,.bool false,.string ⟨#[]⟩,.nilFunc],.inl [(0,1),(1,1),(2,1),(3,1),(4,1),(5,1)])) [(0,(.sc (.int .i64 2))),(1,(.sc (.int .i64 0))),(2,(.sc (.bool true))),(3,(.sc (.bool false))),(4,(.sc (.string ⟨#[105,115,119,97,112,100,103]⟩))),(5,t89)] fun t91=>
eH Pg (some (9,146)) t1 (.sc (.string ⟨#[105,115,119,97,112]⟩)) t91 h90 W fun LA=>
aq Pg W 106 [(.sc (.int .i64 1)),(.sc (.int .i64 2)),(.sc (.int .i64 6))] LA (fun t93 B_=>
cN (some ([.int .i64 0,.int .i64 0,.bool false,.bool false,.string ⟨#[]⟩,.nilFunc],.inl [(0,1),(1,1),(2,1),(3,1),(4,1),(5,1)])) [(0,(.sc (.int .i64 2))),(1,(.sc (.int .i64 0))),(2,(.sc (.bool true))),(3,(.sc (.bool false))),(4,(.sc (.string ⟨#[105,115,119,97,112]⟩))),(5,t93)] fun t95=>
eH Pg (some (9,146)) t1 (.sc (.string ⟨#[105,115,119,97,112,100,103]⟩)) t95 B_ W fun Gb=>
aq Pg W 106 [(.sc (.int .i64 3)),(.sc (.int .i64 7)),(.sc (.int .i64 0))] Gb (fun t97 Ga=>
cN (some ([.int .i64 0,.int .i64 0,.bool false,.bool false,.string ⟨#[]⟩,.nilFunc],.inl [(0,1),(1,1),(2,1),(3,1),(4,1),(5,1)])) [(0,(.sc (.int .i64 3))),(1,(.sc (.int .i64 0))),(2,(.sc (.bool false))),(3,(.sc (.bool false))),(4,(.sc (.string ⟨#[99,99,120]⟩))),(5,t97)] fun t99=>
eH Pg (some (9,146)) t1 (.sc (.string ⟨#[99,99,120]⟩)) t99 Ga W fun Oj=>
aq Pg W 104 [(.sc (.int .i64 7)),(.sc (.int .i64 4))] Oj (fun t101 Oi=>
cN (some ([.int .i64 0,.int .i64 0,.bool false,.bool false,.string ⟨#[]⟩,.nilFunc],.inl [(0,1),(1,1),(2,1),(3,1),(4,1),(5,1)])) [(0,(.sc (.int .i64 3))),(1,(.sc (.int .i64 0))),(2,(.sc (.bool false))),(3,(.sc (.bool true))),(4,(.sc (.string ⟨#[99,99,122]⟩))),(5,t101)] fun t103=>
eH Pg (some (9,146)) t1 (.sc (.string ⟨#[99,99,122]⟩)) t103 Oi W fun Oh=>
aq Pg W 106 [(.sc (.int .i64 3)),(.sc (.int .i64 5)),(.sc (.int .i64 0))] Oh (fun t105 Gu=>
cN (some ([.int .i64 0,.int .i64 0,.bool false,.bool false,.string ⟨#[]⟩,.nilFunc],.inl [(0,1),(1,1),(2,1),(3,1),(4,1),(5,1)])) [(0,(.sc (.int .i64 3))),(1,(.sc (.int .i64 0))),(2,(.sc (.bool false))),(3,(.sc (.bool false))),(4,(.sc (.string ⟨#[99,115,119,97,112]⟩))),(5,t105)] fun t107=>
eH Pg (some (9,146)) t1 (.sc (.string ⟨#[99,115,119,97,112]⟩)) t107 Gu W fun vQ=>
R [t1] vQ) P) P) P) P) P) P) P) P) P) P) P) P) P) P) P) P) P) P) P) P) P) P) P
def n2:N0:=fun W R N E P h=>
n1 W R N E P h
theorem aM{h:AH}{M:WK}{R:RK}(hp:n2 (fun id=>M id\/h.next<=id) (aJ Pg [.tmp 0] R) (aJ Pg [.tmp 0] R) (fun _ _ _=>False) (fun v h=>R (.bW v) h) h):aA Pg 100 [] h M R:=
 fin (n:=56) (pl:=[]) (rs:=[.tmp 0]) (L:=rs) (fun c=>(a0 n2 c)) Tryz.mixed Tryz.func100 (fun c=>
(sq (a0 n2 c)
(sl (a0 n1 c)))) hp
attribute [simp] n1 n2
end JL
namespace Re
abbrev rs:List Nat:=[2]
def n1:N1:=fun W R _ _ P x0 h=>
aq Pg W 100 [] h (fun t1 h2=>
hG Pg (some (9,146)) t1 x0 false h2 fun t3 _=>
m9 (some (0,1,false)) t3 fun t5=>
R [t5] h2) P
def n2:N1:=fun W R N E P x0 h=>
n1 W R N E P x0 h
theorem aM{x0:AV}{h:AH}{M:WK}{R:RK}(hp:n2 (fun id=>M id\/h.next<=id) (aJ Pg [.tmp 2] R) (aJ Pg [.tmp 2] R) (fun _ _ _=>False) (fun v h=>R (.bW v) h) x0 h):aA Pg 90 [x0] h M R:=
 fin (n:=7) (pl:=[]) (rs:=[.tmp 2]) (L:=rs) (fun c=>(a1 n2 0 c)) Tryz.mixed Tryz.func90 (fun c=>
(sq (a1 n2 0 c)
(sl (a1 n1 0 c)))) hp
attribute [simp] n1 n2
end Re
namespace Rc
abbrev rs:List Nat:=[2]
def n1:N1:=fun W R _ _ P x0 h=>
aq Pg W 100 [] h (fun t1 h2=>
hG Pg (some (9,146)) t1 x0 false h2 fun t3 _=>
m9 (some (1,1,false)) t3 fun t5=>
R [t5] h2) P
def n2:N1:=fun W R N E P x0 h=>
n1 W R N E P x0 h
theorem aM{x0:AV}{h:AH}{M:WK}{R:RK}(hp:n2 (fun id=>M id\/h.next<=id) (aJ Pg [.tmp 2] R) (aJ Pg [.tmp 2] R) (fun _ _ _=>False) (fun v h=>R (.bW v) h) x0 h):aA Pg 92 [x0] h M R:=
 fin (n:=7) (pl:=[]) (rs:=[.tmp 2]) (L:=rs) (fun c=>(a1 n2 0 c)) Tryz.mixed Tryz.func92 (fun c=>
(sq (a1 n2 0 c)
(sl (a1 n1 0 c)))) hp
attribute [simp] n1 n2
end Rc
namespace Rd
abbrev rs:List Nat:=[4]
def n1:N2:=fun W R _ _ P x0 x1 h=>
aq Pg W 101 [x0,x1] h (fun t1 h2=>
ai Pg .geq 3 true t1 (.sc (.int .i64 0)) fun t3=>
R [t3] h2) P
def n2:N2:=fun W R N E P x0 x1 h=>
n1 W R N E P x0 x1 h
theorem aM{x0 x1:AV}{h:AH}{M:WK}{R:RK}(hp:n2 (fun id=>M id\/h.next<=id) (aJ Pg [.tmp 4] R) (aJ Pg [.tmp 4] R) (fun _ _ _=>False) (fun v h=>R (.bW v) h) x0 x1 h):aA Pg 91 [x0,x1] h M R:=
 fin (n:=9) (pl:=[]) (rs:=[.tmp 4]) (L:=rs) (fun c=>(a2 n2 0 1 c)) Tryz.mixed Tryz.func91 (fun c=>
(sq (a2 n2 0 1 c)
(sl (a2 n1 0 1 c)))) hp
attribute [simp] n1 n2
end Rd
namespace nA
abbrev rs:List Nat:=[4]
def n1:N0:=fun _ R _ _ _ h=>
R [(.sc (.int .i64 (-1)))] h
def n2:N4:=fun _ _ N _ _ x0 x1 x7 x8 h=>
ai Pg .add 3 true x8 (.sc (.int .i64 1)) fun t1=>
N [x0,x1,x7,t1] h
def n3:N1:=fun _ R _ _ _ x5 h=>
R [x5] h
def n4:N6:=fun W R N E P x0 x1 x5 x7 x8 du h=>
aF du (
n3 W R N E P x5 h) (
n2 W R N E P x0 x1 x7 x8 h)
def n5:N5:=fun W R N E P x0 x1 x5 x7 x8 h=>
bB (some (1,none)) x0 x5 fun t2=>
ao (some false) (some 1) t2 h fun t3 _=>
ai Pg .eql 3 false x1 t3 fun t5=>
n4 W R N E P x0 x1 x5 x7 x8 t5 h
def n6:N4:=fun W R N E P x0 x1 x7 x8 h=>
n5 W R N E P x0 x1 x8 x7 x8 h
def n7:N5:=fun W R N E P x0 x1 x7 x8 x9 h=>
aF x9 (
n6 W R N E P x0 x1 x7 x8 h) (
E 0 [] h)
def n8:N4:=fun W R N E P x0 x1 x7 x8 h=>
ai Pg .lss 3 false x8 x7 fun t6=>
n7 W R N E P x0 x1 x7 x8 t6 h
def cG:GK:=fun W R N E P N' vs h=>n8 W R N' (fun(i:Nat) (vs:List AV) (h:AH)=>if i=0 then n1 W R N E P h else E i vs h) P (vs.getD 0 ab) (vs.getD 1 ab) (vs.getD 2 ab) (vs.getD 3 ab) h
def n9:N4:=fun W R N E P x0 x1 x7 x8 h=>
dK (cG W R N E P) [x0,x1,x7,x8] h
def aS:N2:=fun W R N E P x0 x1 h=>
(aY x0=false)/\bL x0 fun t7=>
n9 W R N E P x0 x1 t7 (.sc (.int .i64 0)) h
def bj:N2:=fun W R N E P x0 x1 h=>
aS W R N E P x0 x1 h
theorem aM{x0 x1:AV}{h:AH}{M:WK}{R:RK}(hp:bj (fun id=>M id\/h.next<=id) (aJ Pg [.tmp 4] R) (aJ Pg [.tmp 4] R) (fun _ _ _=>False) (fun v h=>R (.bW v) h) x0 x1 h):aA Pg 101 [x0,x1] h M R:=
 fin (n:=19) (pl:=[]) (rs:=[.tmp 4]) (L:=rs) (fun c=>(a2 bj 0 1 c)) Tryz.mixed Tryz.func101 (fun c=>
(sq (a2 bj 0 1 c)
(sn
(sl (a0 n1 c))
(sq (a2 aS 0 1 c)
(bk 0 (lp [0,1,7,8] rs [(0,[])] (a4 n9 0 1 7 8 c) cG (fun i vs h=>if i=0 then n1 c.W c.R c.N c.E c.P h else c.E i vs h) (.b (.t .o)) fun c=>
(sq (a4 n8 0 1 7 8 c)
(sn
(sn
(sm (a4 n2 0 1 7 8 c))
(bk 1 (sq (a4 n6 0 1 7 8 c)
(sq (a5 n5 0 1 5 7 8 c)
(cd (a6 n4 0 1 5 7 8 16 c) (sl (a1 n3 5 c)) tr)))))
(cd (a5 n7 0 1 7 8 9 c) tr tr))))))))) hp
attribute [simp] n1 n2 n3 n4 n5 n6 n7 n8 aS bj
end nA
namespace Rb
abbrev rs:List Nat:=[4]
def n1:N2:=fun W R _ _ P x0 x1 h=>
aq Pg W 102 [x0,x1] h (fun t1 h2=>
ai Pg .geq 3 true t1 (.sc (.int .i64 0)) fun t3=>
R [t3] h2) P
def n2:N2:=fun W R N E P x0 x1 h=>
n1 W R N E P x0 x1 h
theorem aM{x0 x1:AV}{h:AH}{M:WK}{R:RK}(hp:n2 (fun id=>M id\/h.next<=id) (aJ Pg [.tmp 4] R) (aJ Pg [.tmp 4] R) (fun _ _ _=>False) (fun v h=>R (.bW v) h) x0 x1 h):aA Pg 99 [x0,x1] h M R:=
 fin (n:=9) (pl:=[]) (rs:=[.tmp 4]) (L:=rs) (fun c=>(a2 n2 0 1 c)) Tryz.mixed Tryz.func99 (fun c=>
(sq (a2 n2 0 1 c)
(sl (a2 n1 0 1 c)))) hp
attribute [simp] n1 n2
end Rb
namespace nz
abbrev rs:List Nat:=[4]
def n1:N0:=fun _ R _ _ _ h=>
R [(.sc (.int .i64 (-1)))] h
def n2:N4:=fun _ _ N _ _ x0 x1 x7 x8 h=>
ai Pg .add 3 true x8 (.sc (.int .i64 1)) fun t1=>
N [x0,x1,x7,t1] h
def n3:N1:=fun _ R _ _ _ x5 h=>
R [x5] h
def n4:N6:=fun W R N E P x0 x1 x5 x7 x8 du h=>
aF du (
n3 W R N E P x5 h) (
n2 W R N E P x0 x1 x7 x8 h)
def n5:N5:=fun W R N E P x0 x1 x5 x7 x8 h=>
bB (some (1,none)) x0 x5 fun t2=>
ao (some false) (some 1) t2 h fun t3 _=>
ai Pg .eql 9 false x1 t3 fun t5=>
n4 W R N E P x0 x1 x5 x7 x8 t5 h
def n6:N4:=fun W R N E P x0 x1 x7 x8 h=>
n5 W R N E P x0 x1 x8 x7 x8 h
def n7:N5:=fun W R N E P x0 x1 x7 x8 x9 h=>
aF x9 (
n6 W R N E P x0 x1 x7 x8 h) (
E 0 [] h)
def n8:N4:=fun W R N E P x0 x1 x7 x8 h=>
ai Pg .lss 3 false x8 x7 fun t6=>
n7 W R N E P x0 x1 x7 x8 t6 h
def cG:GK:=fun W R N E P N' vs h=>n8 W R N' (fun(i:Nat) (vs:List AV) (h:AH)=>if i=0 then n1 W R N E P h else E i vs h) P (vs.getD 0 ab) (vs.getD 1 ab) (vs.getD 2 ab) (vs.getD 3 ab) h
def n9:N4:=fun W R N E P x0 x1 x7 x8 h=>
dK (cG W R N E P) [x0,x1,x7,x8] h
def aS:N2:=fun W R N E P x0 x1 h=>
(aY x0=false)/\bL x0 fun t7=>
n9 W R N E P x0 x1 t7 (.sc (.int .i64 0)) h
def bj:N2:=fun W R N E P x0 x1 h=>
aS W R N E P x0 x1 h
theorem aM{x0 x1:AV}{h:AH}{M:WK}{R:RK}(hp:bj (fun id=>M id\/h.next<=id) (aJ Pg [.tmp 4] R) (aJ Pg [.tmp 4] R) (fun _ _ _=>False) (fun v h=>R (.bW v) h) x0 x1 h):aA Pg 102 [x0,x1] h M R:=
 fin (n:=19) (pl:=[]) (rs:=[.tmp 4]) (L:=rs) (fun c=>(a2 bj 0 1 c)) Tryz.mixed Tryz.func102 (fun c=>
(sq (a2 bj 0 1 c)
(sn
(sl (a0 n1 c))
(sq (a2 aS 0 1 c)
(bk 0 (lp [0,1,7,8] rs [(0,[])] (a4 n9 0 1 7 8 c) cG (fun i vs h=>if i=0 then n1 c.W c.R c.N c.E c.P h else c.E i vs h) (.b (.t .o)) fun c=>
(sq (a4 n8 0 1 7 8 c)
(sn
(sn
(sm (a4 n2 0 1 7 8 c))
(bk 1 (sq (a4 n6 0 1 7 8 c)
(sq (a5 n5 0 1 5 7 8 c)
(cd (a6 n4 0 1 5 7 8 16 c) (sl (a1 n3 5 c)) tr)))))
(cd (a5 n7 0 1 7 8 9 c) tr tr))))))))) hp
attribute [simp] n1 n2 n3 n4 n5 n6 n7 n8 aS bj
end nz
end Go.Proofs.YtjehibknlmehmaaGreat
