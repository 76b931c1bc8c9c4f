/- Bodies of the gates and slices functions; printed by a program of these sessions. No condition. -/
import Derived.Test.YtbdibjgoeeokoaaProg
import Derived.Test.YtbdibjgoeeokoaaAb2
set_option maxRecDepth 100000
namespace Go.Proofs.Ytbdibjgoeeokoaa
section
open Go.Ab
theorem Try.mixed:Try.prog.follows .mixedOrders=true:=by kernel_rfl
namespace F65
abbrev rs:List Nat:=[4]
def n1:N2:=fun _ R _ _ _ x2 x3 h=>
R [(.fn (.func 80) [] [x2,x3])] h
def n2:N2:=fun W R N E P x0 x1 h=>
eBox 1 3 x0 h fun t1 h2=>
eBox 1 42 x1 h2 fun t3 h4=>
n1 W R N E P t1 t3 h4
theorem callsN{x0 x1:AV}{h:AH}{M:WK}{R:RK}(hp:n2 (fun id=>M id\/h.next<=id) (retV Try.prog [.tmp 4] R) (retV Try.prog [.tmp 4] R) (fun _ _ _=>False) (fun v h=>R (.pan v) h) x0 x1 h):ACalls Try.prog 65 [x0,x1] h M R:=
 fin (n:=6) (pl:=[]) (rs:=[.tmp 4]) (L:=rs) (fun c=>(a2 n2 0 1 c)) Try.mixed Try.func65 (fun c=>
(sq (a2 n2 0 1 c)
(sl (a2 n1 2 3 c)))) hp
attribute [simp] n1 n2
end F65
namespace F66
abbrev rs:List Nat:=[4]
def n1:N2:=fun _ R _ _ _ x2 x3 h=>
R [(.fn (.func 81) [] [x2,x3])] h
def n2:N2:=fun W R N E P x0 x1 h=>
eBox 1 3 x0 h fun t1 h2=>
eBox 1 3 x1 h2 fun t3 h4=>
n1 W R N E P t1 t3 h4
theorem callsN{x0 x1:AV}{h:AH}{M:WK}{R:RK}(hp:n2 (fun id=>M id\/h.next<=id) (retV Try.prog [.tmp 4] R) (retV Try.prog [.tmp 4] R) (fun _ _ _=>False) (fun v h=>R (.pan v) h) x0 x1 h):ACalls Try.prog 66 [x0,x1] h M R:=
 fin (n:=6) (pl:=[]) (rs:=[.tmp 4]) (L:=rs) (fun c=>(a2 n2 0 1 c)) Try.mixed Try.func66 (fun c=>
(sq (a2 n2 0 1 c)
(sl (a2 n1 2 3 c)))) hp
attribute [simp] n1 n2
end F66
namespace F67
abbrev rs:List Nat:=[6]
def n1:N3:=fun _ R _ _ _ x3 x4 x5 h=>
R [(.fn (.func 82) [] [x3,x4,x5])] h
def n2:N3:=fun W R N E P x0 x1 x2 h=>
eBox 1 3 x0 h fun t1 h2=>
eBox 1 3 x1 h2 fun t3 h4=>
eBox 1 3 x2 h4 fun t5 h6=>
n1 W R N E P t1 t3 t5 h6
theorem callsN{x0 x1 x2:AV}{h:AH}{M:WK}{R:RK}(hp:n2 (fun id=>M id\/h.next<=id) (retV Try.prog [.tmp 6] R) (retV Try.prog [.tmp 6] R) (fun _ _ _=>False) (fun v h=>R (.pan v) h) x0 x1 x2 h):ACalls Try.prog 67 [x0,x1,x2] h M R:=
 fin (n:=8) (pl:=[]) (rs:=[.tmp 6]) (L:=rs) (fun c=>(a3 n2 0 1 2 c)) Try.mixed Try.func67 (fun c=>
(sq (a3 n2 0 1 2 c)
(sl (a3 n1 3 4 5 c)))) hp
attribute [simp] n1 n2
end F67
namespace F68
abbrev rs:List Nat:=[6]
def n1:N3:=fun _ R _ _ _ x3 x4 x5 h=>
R [(.fn (.func 83) [] [x3,x4,x5])] h
def n2:N3:=fun W R N E P x0 x1 x2 h=>
eBox 1 3 x0 h fun t1 h2=>
eBox 1 3 x1 h2 fun t3 h4=>
eBox 1 3 x2 h4 fun t5 h6=>
n1 W R N E P t1 t3 t5 h6
theorem callsN{x0 x1 x2:AV}{h:AH}{M:WK}{R:RK}(hp:n2 (fun id=>M id\/h.next<=id) (retV Try.prog [.tmp 6] R) (retV Try.prog [.tmp 6] R) (fun _ _ _=>False) (fun v h=>R (.pan v) h) x0 x1 x2 h):ACalls Try.prog 68 [x0,x1,x2] h M R:=
 fin (n:=8) (pl:=[]) (rs:=[.tmp 6]) (L:=rs) (fun c=>(a3 n2 0 1 2 c)) Try.mixed Try.func68 (fun c=>
(sq (a3 n2 0 1 2 c)
(sl (a3 n1 3 4 5 c)))) hp
attribute [simp] n1 n2
end F68
namespace F48
abbrev rs:List Nat:=[0]
def n1:N0:=fun W R _ _ P h=>
eMkM 89 h fun t1 h2=>
eBSl (some (1,3,[.int .i64 0])) 1 [(0,(.sc (.int .i64 0)))] h2 fun t3 h4=>
aCall Try.prog W 65 [(.sc (.int .i64 0)),t3] h4 (fun t5 h6=>
pBld (some ([.int .i64 0,.int .i64 0,.bool false,.bool false,.string ⟨#[]⟩,.nilFunc],.inl [(0,1),(1,1),(2,1),(3,1),(4,1),(5,1)])) [(0,(.sc (.int .i64 1))),(1,(.sc (.int .i64 0))),(2,(.sc (.bool true))),(3,(.sc (.bool true))),(4,(.sc (.string ⟨#[105]⟩))),(5,t5)] fun t7=>
eMSet Try.prog (some (9,87)) t1 (.sc (.string ⟨#[105]⟩)) t7 h6 W fun h8=>
eBSl (some (1,3,[.int .i64 0])) 1 [(0,(.sc (.int .i64 0)))] h8 fun t9 h10=>
aCall Try.prog W 65 [(.sc (.int .i64 1)),t9] h10 (fun t11 h12=>
pBld (some ([.int .i64 0,.int .i64 0,.bool false,.bool false,.string ⟨#[]⟩,.nilFunc],.inl [(0,1),(1,1),(2,1),(3,1),(4,1),(5,1)])) [(0,(.sc (.int .i64 1))),(1,(.sc (.int .i64 0))),(2,(.sc (.bool true))),(3,(.sc (.bool false))),(4,(.sc (.string ⟨#[120]⟩))),(5,t11)] fun t13=>
eMSet Try.prog (some (9,87)) t1 (.sc (.string ⟨#[120]⟩)) t13 h12 W fun h14=>
eBSl (some (1,3,[.int .i64 0,.int .i64 0])) 2 [(0,(.sc (.int .i64 2))),(1,(.sc (.int .i64 6)))] h14 fun t15 h16=>
aCall Try.prog W 65 [(.sc (.int .i64 1)),t15] h16 (fun t17 h18=>
pBld (some ([.int .i64 0,.int .i64 0,.bool false,.bool false,.string ⟨#[]⟩,.nilFunc],.inl [(0,1),(1,1),(2,1),(3,1),(4,1),(5,1)])) [(0,(.sc (.int .i64 1))),(1,(.sc (.int .i64 0))),(2,(.sc (.bool true))),(3,(.sc (.bool false))),(4,(.sc (.string ⟨#[121]⟩))),(5,t17)] fun t19=>
eMSet Try.prog (some (9,87)) t1 (.sc (.string ⟨#[121]⟩)) t19 h18 W fun h20=>
aCall Try.prog W 66 [(.sc (.int .i64 1)),(.sc (.int .i64 4))] h20 (fun t21 h22=>
pBld (some ([.int .i64 0,.int .i64 0,.bool false,.bool false,.string ⟨#[]⟩,.nilFunc],.inl [(0,1),(1,1),(2,1),(3,1),(4,1),(5,1)])) [(0,(.sc (.int .i64 1))),(1,(.sc (.int .i64 0))),(2,(.sc (.bool true))),(3,(.sc (.bool true))),(4,(.sc (.string ⟨#[122]⟩))),(5,t21)] fun t23=>
eMSet Try.prog (some (9,87)) t1 (.sc (.string ⟨#[122]⟩)) t23 h22 W fun h24=>
aCall Try.prog W 67 [(.sc (.int .i64 0)),(.sc (.int .i64 0)),(.sc (.int .i64 4))] h24 (fun t25 h26=>
pBld (some ([.int .i64 0,.int .i64 0,.bool false,.bool false,.string ⟨#[]⟩,.nilFunc],.inl [(0,1),(1,1),(2,1),(3,1),(4,1),(5,1)])) [(0,(.sc (.int .i64 1))),(1,(.sc (.int .i64 1))),(2,(.sc (.bool true))),(3,(.sc (.bool false))),(4,(.sc (.string ⟨#[104]⟩))),(5,t25)] fun t27=>
eMSet Try.prog (some (9,87)) t1 (.sc (.string ⟨#[104]⟩)) t27 h26 W fun h28=>
aCall Try.prog W 66 [(.sc (.int .i64 1)),(.sc (.int .i64 2))] h28 (fun t29 h30=>
pBld (some ([.int .i64 0,.int .i64 0,.bool false,.bool false,.string ⟨#[]⟩,.nilFunc],.inl [(0,1),(1,1),(2,1),(3,1),(4,1),(5,1)])) [(0,(.sc (.int .i64 1))),(1,(.sc (.int .i64 0))),(2,(.sc (.bool true))),(3,(.sc (.bool true))),(4,(.sc (.string ⟨#[115,100,103]⟩))),(5,t29)] fun t31=>
eMSet Try.prog (some (9,87)) t1 (.sc (.string ⟨#[115]⟩)) t31 h30 W fun h32=>
aCall Try.prog W 66 [(.sc (.int .i64 1)),(.sc (.int .i64 6))] h32 (fun t33 h34=>
pBld (some ([.int .i64 0,.int .i64 0,.bool false,.bool false,.string ⟨#[]⟩,.nilFunc],.inl [(0,1),(1,1),(2,1),(3,1),(4,1),(5,1)])) [(0,(.sc (.int .i64 1))),(1,(.sc (.int .i64 0))),(2,(.sc (.bool true))),(3,(.sc (.bool true))),(4,(.sc (.string ⟨#[115]⟩))),(5,t33)] fun t35=>
eMSet Try.prog (some (9,87)) t1 (.sc (.string ⟨#[115,100,103]⟩)) t35 h34 W fun h36=>
aCall Try.prog W 66 [(.sc (.int .i64 1)),(.sc (.int .i64 1))] h36 (fun t37 h38=>
pBld (some ([.int .i64 0,.int .i64 0,.bool false,.bool false,.string ⟨#[]⟩,.nilFunc],.inl [(0,1),(1,1),(2,1),(3,1),(4,1),(5,1)])) [(0,(.sc (.int .i64 1))),(1,(.sc (.int .i64 0))),(2,(.sc (.bool false))),(3,(.sc (.bool true))),(4,(.sc (.string ⟨#[116,100,103]⟩))),(5,t37)] fun t39=>
eMSet Try.prog (some (9,87)) t1 (.sc (.string ⟨#[116]⟩)) t39 h38 W fun h40=>
aCall Try.prog W 66 [(.sc (.int .i64 1)),(.sc (.int .i64 7))] h40 (fun t41 h42=>
pBld (some ([.int .i64 0,.int .i64 0,.bool false,.bool false,.string ⟨#[]⟩,.nilFunc],.inl [(0,1),(1,1),(2,1),(3,1),(4,1),(5,1)])) [(0,(.sc (.int .i64 1))),(1,(.sc (.int .i64 0))),(2,(.sc (.bool false))),(3,(.sc (.bool true))),(4,(.sc (.string ⟨#[116]⟩))),(5,t41)] fun t43=>
eMSet Try.prog (some (9,87)) t1 (.sc (.string ⟨#[116,100,103]⟩)) t43 h42 W fun h44=>
aCall Try.prog W 67 [(.sc (.int .i64 1)),(.sc (.int .i64 7)),(.sc (.int .i64 1))] h44 (fun t45 h46=>
pBld (some ([.int .i64 0,.int .i64 0,.bool false,.bool false,.string ⟨#[]⟩,.nilFunc],.inl [(0,1),(1,1),(2,1),(3,1),(4,1),(5,1)])) [(0,(.sc (.int .i64 1))),(1,(.sc (.int .i64 1))),(2,(.sc (.bool true))),(3,(.sc (.bool false))),(4,(.sc (.string ⟨#[118,100,103]⟩))),(5,t45)] fun t47=>
eMSet Try.prog (some (9,87)) t1 (.sc (.string ⟨#[118]⟩)) t47 h46 W fun h48=>
aCall Try.prog W 67 [(.sc (.int .i64 7)),(.sc (.int .i64 1)),(.sc (.int .i64 7))] h48 (fun t49 h50=>
pBld (some ([.int .i64 0,.int .i64 0,.bool false,.bool false,.string ⟨#[]⟩,.nilFunc],.inl [(0,1),(1,1),(2,1),(3,1),(4,1),(5,1)])) [(0,(.sc (.int .i64 1))),(1,(.sc (.int .i64 1))),(2,(.sc (.bool true))),(3,(.sc (.bool false))),(4,(.sc (.string ⟨#[118]⟩))),(5,t49)] fun t51=>
eMSet Try.prog (some (9,87)) t1 (.sc (.string ⟨#[118,100,103]⟩)) t51 h50 W fun h52=>
eBSl (some (1,3,[.int .i64 0])) 1 [(0,(.sc (.int .i64 1)))] h52 fun t53 h54=>
aCall Try.prog W 65 [(.sc (.int .i64 0)),t53] h54 (fun t55 h56=>
pBld (some ([.int .i64 0,.int .i64 0,.bool false,.bool false,.string ⟨#[]⟩,.nilFunc],.inl [(0,1),(1,1),(2,1),(3,1),(4,1),(5,1)])) [(0,(.sc (.int .i64 1))),(1,(.sc (.int .i64 0))),(2,(.sc (.bool true))),(3,(.sc (.bool true))),(4,(.sc (.string ⟨#[119,100,103]⟩))),(5,t55)] fun t57=>
eMSet Try.prog (some (9,87)) t1 (.sc (.string ⟨#[119]⟩)) t57 h56 W fun h58=>
eBSl (some (1,3,[.int .i64 0])) 1 [(0,(.sc (.int .i64 7)))] h58 fun t59 h60=>
aCall Try.prog W 65 [(.sc (.int .i64 0)),t59] h60 (fun t61 h62=>
pBld (some ([.int .i64 0,.int .i64 0,.bool false,.bool false,.string ⟨#[]⟩,.nilFunc],.inl [(0,1),(1,1),(2,1),(3,1),(4,1),(5,1)])) [(0,(.sc (.int .i64 1))),(1,(.sc (.int .i64 0))),(2,(.sc (.bool true))),(3,(.sc (.bool true))),(4,(.sc (.string ⟨#[119]⟩))),(5,t61)] fun t63=>
eMSet Try.prog (some (9,87)) t1 (.sc (.string ⟨#[119,100,103]⟩)) t63 h62 W fun h64=>
aCall Try.prog W 68 [(.sc (.int .i64 1)),(.sc (.int .i64 3)),(.sc (.int .i64 0))] h64 (fun t65 h66=>
pBld (some ([.int .i64 0,.int .i64 0,.bool false,.bool false,.string ⟨#[]⟩,.nilFunc],.inl [(0,1),(1,1),(2,1),(3,1),(4,1),(5,1)])) [(0,(.sc (.int .i64 2))),(1,(.sc (.int .i64 0))),(2,(.sc (.bool true))),(3,(.sc (.bool false))),(4,(.sc (.string ⟨#[99,120]⟩))),(5,t65)] fun t67=>
eMSet Try.prog (some (9,87)) t1 (.sc (.string ⟨#[99,120]⟩)) t67 h66 W fun h68=>
pBld (some ([.int .i64 0,.int .i64 0,.bool false,.bool false,.string ⟨#[]⟩,.nilFunc],.inl [(0,1),(1,1),(2,1),(3,1),(4,1),(5,1)])) [(0,(.sc (.int .i64 2))),(1,(.sc (.int .i64 0))),(2,(.sc (.bool true))),(3,(.sc (.bool false))),(4,(.sc (.string ⟨#[99,121]⟩))),(5,(.fn (.func 69) [] []))] fun t69=>
eMSet Try.prog (some (9,87)) t1 (.sc (.string ⟨#[99,121]⟩)) t69 h68 W fun h70=>
aCall Try.prog W 66 [(.sc (.int .i64 3)),(.sc (.int .i64 4))] h70 (fun t71 h72=>
pBld (some ([.int .i64 0,.int .i64 0,.bool false,.bool false,.string ⟨#[]⟩,.nilFunc],.inl [(0,1),(1,1),(2,1),(3,1),(4,1),(5,1)])) [(0,(.sc (.int .i64 2))),(1,(.sc (.int .i64 0))),(2,(.sc (.bool true))),(3,(.sc (.bool true))),(4,(.sc (.string ⟨#[99,122]⟩))),(5,t71)] fun t73=>
eMSet Try.prog (some (9,87)) t1 (.sc (.string ⟨#[99,122]⟩)) t73 h72 W fun h74=>
pBld (some ([.int .i64 0,.int .i64 0,.bool false,.bool false,.string ⟨#[]⟩,.nilFunc],.inl [(0,1),(1,1),(2,1),(3,1),(4,1),(5,1)])) [(0,(.sc (.int .i64 2))),(1,(.sc (.int .i64 1))),(2,(.sc (.bool false))),(3,(.sc (.bool false))),(4,(.sc (.string ⟨#[99,104]⟩))),(5,(.fn (.func 70) [] []))] fun t75=>
eMSet Try.prog (some (9,87)) t1 (.sc (.string ⟨#[99,104]⟩)) t75 h74 W fun h76=>
aCall Try.prog W 66 [(.sc (.int .i64 3)),(.sc (.int .i64 2))] h76 (fun t77 h78=>
pBld (some ([.int .i64 0,.int .i64 0,.bool false,.bool false,.string ⟨#[]⟩,.nilFunc],.inl [(0,1),(1,1),(2,1),(3,1),(4,1),(5,1)])) [(0,(.sc (.int .i64 2))),(1,(.sc (.int .i64 0))),(2,(.sc (.bool false))),(3,(.sc (.bool true))),(4,(.sc (.string ⟨#[99,115,100,103]⟩))),(5,t77)] fun t79=>
eMSet Try.prog (some (9,87)) t1 (.sc (.string ⟨#[99,115]⟩)) t79 h78 W fun h80=>
aCall Try.prog W 66 [(.sc (.int .i64 3)),(.sc (.int .i64 6))] h80 (fun t81 h82=>
pBld (some ([.int .i64 0,.int .i64 0,.bool false,.bool false,.string ⟨#[]⟩,.nilFunc],.inl [(0,1),(1,1),(2,1),(3,1),(4,1),(5,1)])) [(0,(.sc (.int .i64 2))),(1,(.sc (.int .i64 0))),(2,(.sc (.bool false))),(3,(.sc (.bool true))),(4,(.sc (.string ⟨#[99,115]⟩))),(5,t81)] fun t83=>
eMSet Try.prog (some (9,87)) t1 (.sc (.string ⟨#[99,115,100,103]⟩)) t83 h82 W fun h84=>
aCall Try.prog W 68 [(.sc (.int .i64 1)),(.sc (.int .i64 2)),(.sc (.int .i64 0))] h84 (fun t85 h86=>
pBld (some ([.int .i64 0,.int .i64 0,.bool false,.bool false,.string ⟨#[]⟩,.nilFunc],.inl [(0,1),(1,1),(2,1),(3,1),(4,1),(5,1)])) [(0,(.sc (.int .i64 2))),(1,(.sc (.int .i64 0))),(2,(.sc (.bool true))),(3,(.sc (.bool false))),(4,(.sc (.string ⟨#[115,119,97,112]⟩))),(5,t85)] fun t87=>
eMSet Try.prog (some (9,87)) t1 (.sc (.string ⟨#[115,119,97,112]⟩)) t87 h86 W fun h88=>
aCall Try.prog W 68 [(.sc (.int .i64 1)),(.sc (.int .i64 2)),(.sc (.int .i64 2))] h88 (fun t89 h90=>
pBld (some ([.int .i64 0,.int .i64 0,.bool false,.bool false,.string ⟨#[]⟩,.nilFunc],.inl [(0,1),(1,1),(2,1),(3,1),(4,1),(5,1)])) [(0,(.sc (.int .i64 2))),(1,(.sc (.int .i64 0))),(2,(.sc (.bool true))),(3,(.sc (.bool false))),(4,(.sc (.string ⟨#[105,115,119,97,112,100,103]⟩))),(5,t89)] fun t91=>
eMSet Try.prog (some (9,87)) t1 (.sc (.string ⟨#[105,115,119,97,112]⟩)) t91 h90 W fun h92=>
aCall Try.prog W 68 [(.sc (.int .i64 1)),(.sc (.int .i64 2)),(.sc (.int .i64 6))] h92 (fun t93 h94=>
pBld (some ([.int .i64 0,.int .i64 0,.bool false,.bool false,.string ⟨#[]⟩,.nilFunc],.inl [(0,1),(1,1),(2,1),(3,1),(4,1),(5,1)])) [(0,(.sc (.int .i64 2))),(1,(.sc (.int .i64 0))),(2,(.sc (.bool true))),(3,(.sc (.bool false))),(4,(.sc (.string ⟨#[105,115,119,97,112]⟩))),(5,t93)] fun t95=>
eMSet Try.prog (some (9,87)) t1 (.sc (.string ⟨#[105,115,119,97,112,100,103]⟩)) t95 h94 W fun h96=>
aCall Try.prog W 68 [(.sc (.int .i64 3)),(.sc (.int .i64 7)),(.sc (.int .i64 0))] h96 (fun t97 h98=>
pBld (some ([.int .i64 0,.int .i64 0,.bool false,.bool false,.string ⟨#[]⟩,.nilFunc],.inl [(0,1),(1,1),(2,1),(3,1),(4,1),(5,1)])) [(0,(.sc (.int .i64 3))),(1,(.sc (.int .i64 0))),(2,(.sc (.bool false))),(3,(.sc (.bool false))),(4,(.sc (.string ⟨#[99,99,120]⟩))),(5,t97)] fun t99=>
eMSet Try.prog (some (9,87)) t1 (.sc (.string ⟨#[99,99,120]⟩)) t99 h98 W fun h100=>
aCall Try.prog W 66 [(.sc (.int .i64 7)),(.sc (.int .i64 4))] h100 (fun t101 h102=>
pBld (some ([.int .i64 0,.int .i64 0,.bool false,.bool false,.string ⟨#[]⟩,.nilFunc],.inl [(0,1),(1,1),(2,1),(3,1),(4,1),(5,1)])) [(0,(.sc (.int .i64 3))),(1,(.sc (.int .i64 0))),(2,(.sc (.bool false))),(3,(.sc (.bool true))),(4,(.sc (.string ⟨#[99,99,122]⟩))),(5,t101)] fun t103=>
eMSet Try.prog (some (9,87)) t1 (.sc (.string ⟨#[99,99,122]⟩)) t103 h102 W fun h104=>
aCall Try.prog W 68 [(.sc (.int .i64 3)),(.sc (.int .i64 5)),(.sc (.int .i64 0))] h104 (fun t105 h106=>
pBld (some ([.int .i64 0,.int .i64 0,.bool false,.bool false,.string ⟨#[]⟩,.nilFunc],.inl [(0,1),(1,1),(2,1),(3,1),(4,1),(5,1)])) [(0,(.sc (.int .i64 3))),(1,(.sc (.int .i64 0))),(2,(.sc (.bool false))),(3,(.sc (.bool false))),(4,(.sc (.string ⟨#[99,115,119,97,112]⟩))),(5,t105)] fun t107=>
eMSet Try.prog (some (9,87)) t1 (.sc (.string ⟨#[99,115,119,97,112]⟩)) t107 h106 W fun h108=>
R [t1] h108) P) P) P) P) P) P) P) P) P) P) P) P) P) P) P) P) P) P) P) P) P) P) P
def n2:N0:=fun W R N E P h=>
n1 W R N E P h
theorem callsN{h:AH}{M:WK}{R:RK}(hp:n2 (fun id=>M id\/h.next<=id) (retV Try.prog [.tmp 0] R) (retV Try.prog [.tmp 0] R) (fun _ _ _=>False) (fun v h=>R (.pan v) h) h):ACalls Try.prog 48 [] h M R:=
 fin (n:=56) (pl:=[]) (rs:=[.tmp 0]) (L:=rs) (fun c=>(a0 n2 c)) Try.mixed Try.func48 (fun c=>
(sq (a0 n2 c)
(sl (a0 n1 c)))) hp
attribute [simp] n1 n2
end F48
namespace F57
abbrev rs:List Nat:=[2]
def n1:N1:=fun W R _ _ P x0 h=>
aCall Try.prog W 48 [] h (fun t1 h2=>
lLook Try.prog (some (9,87)) t1 x0 false h2 fun t3 _=>
pFdV (some (0,1,false)) t3 fun t5=>
R [t5] h2) P
def n2:N1:=fun W R N E P x0 h=>
n1 W R N E P x0 h
theorem callsN{x0:AV}{h:AH}{M:WK}{R:RK}(hp:n2 (fun id=>M id\/h.next<=id) (retV Try.prog [.tmp 2] R) (retV Try.prog [.tmp 2] R) (fun _ _ _=>False) (fun v h=>R (.pan v) h) x0 h):ACalls Try.prog 57 [x0] h M R:=
 fin (n:=7) (pl:=[]) (rs:=[.tmp 2]) (L:=rs) (fun c=>(a1 n2 0 c)) Try.mixed Try.func57 (fun c=>
(sq (a1 n2 0 c)
(sl (a1 n1 0 c)))) hp
attribute [simp] n1 n2
end F57
namespace F59
abbrev rs:List Nat:=[2]
def n1:N1:=fun W R _ _ P x0 h=>
aCall Try.prog W 48 [] h (fun t1 h2=>
lLook Try.prog (some (9,87)) t1 x0 false h2 fun t3 _=>
pFdV (some (1,1,false)) t3 fun t5=>
R [t5] h2) P
def n2:N1:=fun W R N E P x0 h=>
n1 W R N E P x0 h
theorem callsN{x0:AV}{h:AH}{M:WK}{R:RK}(hp:n2 (fun id=>M id\/h.next<=id) (retV Try.prog [.tmp 2] R) (retV Try.prog [.tmp 2] R) (fun _ _ _=>False) (fun v h=>R (.pan v) h) x0 h):ACalls Try.prog 59 [x0] h M R:=
 fin (n:=7) (pl:=[]) (rs:=[.tmp 2]) (L:=rs) (fun c=>(a1 n2 0 c)) Try.mixed Try.func59 (fun c=>
(sq (a1 n2 0 c)
(sl (a1 n1 0 c)))) hp
attribute [simp] n1 n2
end F59
namespace F58
abbrev rs:List Nat:=[4]
def n1:N2:=fun W R _ _ P x0 x1 h=>
aCall Try.prog W 74 [x0,x1] h (fun t1 h2=>
pBin Try.prog .geq 3 true t1 (.sc (.int .i64 0)) fun t3=>
R [t3] h2) P
def n2:N2:=fun W R N E P x0 x1 h=>
n1 W R N E P x0 x1 h
theorem callsN{x0 x1:AV}{h:AH}{M:WK}{R:RK}(hp:n2 (fun id=>M id\/h.next<=id) (retV Try.prog [.tmp 4] R) (retV Try.prog [.tmp 4] R) (fun _ _ _=>False) (fun v h=>R (.pan v) h) x0 x1 h):ACalls Try.prog 58 [x0,x1] h M R:=
 fin (n:=9) (pl:=[]) (rs:=[.tmp 4]) (L:=rs) (fun c=>(a2 n2 0 1 c)) Try.mixed Try.func58 (fun c=>
(sq (a2 n2 0 1 c)
(sl (a2 n1 0 1 c)))) hp
attribute [simp] n1 n2
end F58
namespace F74
abbrev rs:List Nat:=[4]
def n1:N0:=fun _ R _ _ _ h=>
R [(.sc (.int .i64 (-1)))] h
def n2:N4:=fun _ _ N _ _ x0 x1 x7 x8 h=>
pBin Try.prog .add 3 true x8 (.sc (.int .i64 1)) fun t1=>
N [x0,x1,x7,t1] h
def n3:N1:=fun _ R _ _ _ x5 h=>
R [x5] h
def n4:N6:=fun W R N E P x0 x1 x5 x7 x8 x16 h=>
aIf x16 (
n3 W R N E P x5 h) (
n2 W R N E P x0 x1 x7 x8 h)
def n5:N5:=fun W R N E P x0 x1 x5 x7 x8 h=>
pIxA (some (1,none)) x0 x5 fun t2=>
lLd (some false) (some 1) t2 h fun t3 _=>
pBin Try.prog .eql 3 false x1 t3 fun t5=>
n4 W R N E P x0 x1 x5 x7 x8 t5 h
def n6:N4:=fun W R N E P x0 x1 x7 x8 h=>
n5 W R N E P x0 x1 x8 x7 x8 h
def n7:N5:=fun W R N E P x0 x1 x7 x8 x9 h=>
aIf x9 (
n6 W R N E P x0 x1 x7 x8 h) (
E 0 [] h)
def n8:N4:=fun W R N E P x0 x1 x7 x8 h=>
pBin Try.prog .lss 3 false x8 x7 fun t6=>
n7 W R N E P x0 x1 x7 x8 t6 h
def g1_:GK:=fun W R N E P N' vs h=>n8 W R N' (fun(i:Nat) (vs:List AV) (h:AH)=>if i=0 then n1 W R N E P h else E i vs h) P (vs.getD 0 noA) (vs.getD 1 noA) (vs.getD 2 noA) (vs.getD 3 noA) h
def n9:N4:=fun W R N E P x0 x1 x7 x8 h=>
vLoop (g1_ W R N E P) [x0,x1,x7,x8] h
def n10:N2:=fun W R N E P x0 x1 h=>
(strArg x0=false)/\pLen x0 fun t7=>
n9 W R N E P x0 x1 t7 (.sc (.int .i64 0)) h
def n11:N2:=fun W R N E P x0 x1 h=>
n10 W R N E P x0 x1 h
theorem callsN{x0 x1:AV}{h:AH}{M:WK}{R:RK}(hp:n11 (fun id=>M id\/h.next<=id) (retV Try.prog [.tmp 4] R) (retV Try.prog [.tmp 4] R) (fun _ _ _=>False) (fun v h=>R (.pan v) h) x0 x1 h):ACalls Try.prog 74 [x0,x1] h M R:=
 fin (n:=19) (pl:=[]) (rs:=[.tmp 4]) (L:=rs) (fun c=>(a2 n11 0 1 c)) Try.mixed Try.func74 (fun c=>
(sq (a2 n11 0 1 c)
(sn
(sl (a0 n1 c))
(sq (a2 n10 0 1 c)
(bk 0 (lp [0,1,7,8] rs [(0,[])] (a4 n9 0 1 7 8 c) g1_ (fun i vs h=>if i=0 then n1 c.W c.R c.N c.E c.P h else c.E i vs h) (.b (.t .o)) fun c=>
(sq (a4 n8 0 1 7 8 c)
(sn
(sn
(sm (a4 n2 0 1 7 8 c))
(bk 1 (sq (a4 n6 0 1 7 8 c)
(sq (a5 n5 0 1 5 7 8 c)
(cd (a6 n4 0 1 5 7 8 16 c) (sl (a1 n3 5 c)) tr)))))
(cd (a5 n7 0 1 7 8 9 c) tr tr))))))))) hp
attribute [simp] n1 n2 n3 n4 n5 n6 n7 n8 n10 n11
end F74
namespace F30
abbrev rs:List Nat:=[2,3]
def n1:N1:=fun _ R _ _ _ x4 h=>
pFld (some 4) x4 fun t1=>
lLd (some false) (some 1) t1 h fun t2 _=>
R [t2,(.sc (.int .i64 0))] h
def n2:N0:=fun _ R _ _ _ h=>
R [(.sc (.string ⟨#[]⟩)),(.sc (.int .i64 80))] h
def n3:N2:=fun W R N E P x4 x13 h=>
aIf x13 (
n2 W R N E P h) (
n1 W R N E P x4 h)
def n4:N2:=fun W R N E P x4 x5 h=>
pUn .not x5 fun t4=>
n3 W R N E P x4 t4 h
def n5:N1:=fun W R N E P x0 h=>
aCall Try.prog W 48 [] h (fun t5 h6=>
lLook Try.prog (some (9,87)) t5 x0 true h6 fun t7 _=>
pExt t7 0 fun t9=>
pExt t7 1 fun t10=>
eAlloc (some [.int .i64 0,.int .i64 0,.bool false,.bool false,.string ⟨#[]⟩,.nilFunc]) 6 87 h6 fun t11 h12=>
eStore (some 6) t11 t9 h12 W fun h13=>
n4 W R N E P t11 t10 h13) P
def n6:N1:=fun W R N E P x0 h=>
n5 W R N E P x0 h
theorem callsN{x0:AV}{h:AH}{M:WK}{R:RK}(hp:n6 (fun id=>M id\/h.next<=id) (retV Try.prog [.tmp 2,.tmp 3] R) (retV Try.prog [.tmp 2,.tmp 3] R) (fun _ _ _=>False) (fun v h=>R (.pan v) h) x0 h):ACalls Try.prog 30 [x0] h M R:=
 fin (n:=16) (pl:=[]) (rs:=[.tmp 2,.tmp 3]) (L:=rs) (fun c=>(a1 n6 0 c)) Try.mixed Try.func30 (fun c=>
(sq (a1 n6 0 c)
(sq (a1 n5 0 c)
(sn
(sl (a1 n1 4 c))
(sq (a2 n4 4 5 c)
(cd (a2 n3 4 13 c) (sl (a0 n2 c)) tr)))))) hp
attribute [simp] n1 n2 n3 n4 n5 n6
end F30
end
section
open Go.Ab
namespace F87
abbrev rs:List Nat:=[2]
def n1:N1:=fun W R _ _ P x0 h=>
aCall Try.prog W 90 [x0] h (fun t1 h2=>
aCall Try.prog W 89 [t1] h2 (fun t3 h4=>
R [t3] h4) P) P
def n2:N1:=fun W R N E P x0 h=>
n1 W R N E P x0 h
theorem callsN{x0:AV}{h:AH}{M:WK}{R:RK}(hp:n2 (fun id=>M id\/h.next<=id) (retV Try.prog [.tmp 2] R) (retV Try.prog [.tmp 2] R) (fun _ _ _=>False) (fun v h=>R (.pan v) h) x0 h):ACalls Try.prog 87 [x0] h M R:=
 fin (n:=6) (pl:=[]) (rs:=[.tmp 2]) (L:=rs) (fun c=>(a1 n2 0 c)) Try.mixed Try.func87 (fun c=>
(sq (a1 n2 0 c)
(sl (a1 n1 0 c)))) hp
attribute [simp] n1 n2
end F87
namespace F89
abbrev rs:List Nat:=[2]
def n1:N1:=fun _ R _ _ _ x3 h=>
R [x3] h
def n2:N1:=fun W R N E P x3 h=>
aCall Try.prog W 92 [x3] h (fun t1 h2=>
n1 W R N E P x3 h2) P
def n3:N1:=fun W R N E P x0 h=>
aCall Try.prog W 91 [x0] h (fun t3 h4=>
n2 W R N E P t3 h4) P
def n4:N1:=fun W R N E P x0 h=>
n3 W R N E P x0 h
theorem callsN{x0:AV}{h:AH}{M:WK}{R:RK}(hp:n4 (fun id=>M id\/h.next<=id) (retV Try.prog [.tmp 2] R) (retV Try.prog [.tmp 2] R) (fun _ _ _=>False) (fun v h=>R (.pan v) h) x0 h):ACalls Try.prog 89 [x0] h M R:=
 fin (n:=9) (pl:=[]) (rs:=[.tmp 2]) (L:=rs) (fun c=>(a1 n4 0 c)) Try.mixed Try.func89 (fun c=>
(sq (a1 n4 0 c)
(sq (a1 n3 0 c)
(sq (a1 n2 3 c)
(sl (a1 n1 3 c)))))) hp
attribute [simp] n1 n2 n3 n4
end F89
namespace F90
abbrev rs:List Nat:=[2]
def n1:N1:=fun _ R _ _ _ x1 h=>
R [(.fn (.func 93) [] [x1])] h
def n2:N1:=fun W R N E P x0 h=>
eBox 1 42 x0 h fun t1 h2=>
n1 W R N E P t1 h2
theorem callsN{x0:AV}{h:AH}{M:WK}{R:RK}(hp:n2 (fun id=>M id\/h.next<=id) (retV Try.prog [.tmp 2] R) (retV Try.prog [.tmp 2] R) (fun _ _ _=>False) (fun v h=>R (.pan v) h) x0 h):ACalls Try.prog 90 [x0] h M R:=
 fin (n:=4) (pl:=[]) (rs:=[.tmp 2]) (L:=rs) (fun c=>(a1 n2 0 c)) Try.mixed Try.func90 (fun c=>
(sq (a1 n2 0 c)
(sl (a1 n1 1 c)))) hp
attribute [simp] n1 n2
end F90
namespace F91
abbrev rs:List Nat:=[2]
def n1:N1:=fun W R _ _ P x0 h=>
aCall Try.prog W 94 [(.sc (.slice none 0 0)),x0] h (fun t1 h2=>
R [t1] h2) P
def n2:N1:=fun W R N E P x0 h=>
n1 W R N E P x0 h
theorem callsN{x0:AV}{h:AH}{M:WK}{R:RK}(hp:n2 (fun id=>M id\/h.next<=id) (retV Try.prog [.tmp 2] R) (retV Try.prog [.tmp 2] R) (fun _ _ _=>False) (fun v h=>R (.pan v) h) x0 h):ACalls Try.prog 91 [x0] h M R:=
 fin (n:=5) (pl:=[]) (rs:=[.tmp 2]) (L:=rs) (fun c=>(a1 n2 0 c)) Try.mixed Try.func91 (fun c=>
(sq (a1 n2 0 c)
(sl (a1 n1 0 c)))) hp
attribute [simp] n1 n2
end F91
end
end Go.Proofs.Ytbdibjgoeeokoaa
