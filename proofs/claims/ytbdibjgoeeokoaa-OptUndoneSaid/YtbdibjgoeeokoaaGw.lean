/- Bodies of the law; printed. No condition. -/
import Derived.Test.YtbdibjgoeeokoaaGl
set_option maxRecDepth 100000
namespace Go.Proofs.Ytbdibjgoeeokoaa
open Go.Ab
namespace F6
abbrev rs:List Nat:=[0]
def n1:N1:=fun _ R _ _ _ x0 h=>
R [x0] h
def n2:N2:=fun W R N E P x46 x50 h=>
pPick x46 x50 (.sc (.bool false)) fun t1=>
n1 W R N E P t1 h
def n3:N2:=fun W R N E P x4 x46 h=>
aIg true x46 (
pFld (some 2) x4 fun t2=>
lLd (some false) (some 1) t2 h fun t3 _=>
(strArg t3=false)/\pLen t3 fun t5=>
pBin Try.prog .eql 3 true t5 (.sc (.int .i64 1)) fun t6=>
n2 W R N E P x46 t6 h) (
n2 W R N E P x46 noA h)
def n4:N3:=fun W R N E P x4 x41 x44 h=>
pPick x41 x44 (.sc (.bool false)) fun t7=>
n3 W R N E P x4 t7 h
def n5:N3:=fun W R N E P x2 x4 x41 h=>
aIg true x41 (
pFld (some 0) x2 fun t8=>
lLd (some false) (some 1) t8 h fun t9 _=>
pBin Try.prog .eql 3 true t9 (.sc (.int .i64 1)) fun t11=>
n4 W R N E P x4 x41 t11 h) (
n4 W R N E P x4 x41 noA h)
def n6:N4:=fun W R N E P x2 x4 x35 x39 h=>
pPick x35 x39 (.sc (.bool false)) fun t12=>
n5 W R N E P x2 x4 t12 h
def n7:N3:=fun W R N E P x2 x4 x35 h=>
aIg true x35 (
pFld (some 2) x2 fun t13=>
lLd (some false) (some 1) t13 h fun t14 _=>
(strArg t14=false)/\pLen t14 fun t16=>
pBin Try.prog .eql 3 true t16 (.sc (.int .i64 0)) fun t17=>
n6 W R N E P x2 x4 x35 t17 h) (
n6 W R N E P x2 x4 x35 noA h)
def n8:N4:=fun W R N E P x2 x4 x31 x33 h=>
pPick x31 x33 (.sc (.bool false)) fun t18=>
n7 W R N E P x2 x4 t18 h
def n9:N4:=fun W R N E P x2 x4 x5 x31 h=>
aIg true x31 (
pUn .not x5 fun t19=>
n8 W R N E P x2 x4 x31 t19 h) (
n8 W R N E P x2 x4 x31 noA h)
def n10:N5:=fun W R N E P x2 x4 x5 x27 x29 h=>
pPick x27 x29 (.sc (.bool false)) fun t20=>
n9 W R N E P x2 x4 x5 t20 h
def n11:N5:=fun W R N E P x2 x4 x5 x6 x27 h=>
aIg true x27 (
pBin Try.prog .eql 30 true x6 (.sc (.int .i64 0)) fun t21=>
n10 W R N E P x2 x4 x5 x27 t21 h) (
n10 W R N E P x2 x4 x5 x27 noA h)
def n12:N5:=fun W R N E P x2 x3 x4 x5 x6 h=>
pBin Try.prog .eql 30 true x3 (.sc (.int .i64 0)) fun t22=>
n11 W R N E P x2 x4 x5 x6 t22 h
def n13:N3:=fun W R N E P x1 x2 x3 h=>
lLd (some true) (some 7) x1 h fun t23 _=>
eBSl (some (7,45,[.int .i64 0,.string ⟨#[]⟩,.slice none 0 0,.int .i64 0,.bool false,.int .u64 0,.int .u64 0])) 1 [(0,t23)] h fun t25 h26=>
pBld (some ([.int .i64 0,.int .i64 0,.slice none 0 0],.inl [(0,1),(1,1),(2,1)])) [(0,(.sc (.int .i64 1))),(2,t25)] fun t27=>
aCall Try.prog W 10 [t27] h26 (fun t28 h29=>
pExt t28 0 fun t30=>
pExt t28 1 fun t31=>
pExt t28 2 fun t32=>
eAlloc (some [.int .i64 0,.int .i64 0,.slice none 0 0]) 3 24 h29 fun t33 h34=>
eStore (some 3) t33 t30 h34 W fun h35=>
n12 W R N E P x2 x3 t33 t31 t32 h35) P
def n14:N1:=fun W R N E P x1 h=>
lLd (some true) (some 7) x1 h fun t36 _=>
lLd (some true) (some 7) x1 h fun t38 _=>
eBSl (some (7,45,[.int .i64 0,.string ⟨#[]⟩,.slice none 0 0,.int .i64 0,.bool false,.int .u64 0,.int .u64 0,.int .i64 0,.string ⟨#[]⟩,.slice none 0 0,.int .i64 0,.bool false,.int .u64 0,.int .u64 0])) 2 [(0,t36),(1,t38)] h fun t40 h41=>
pBld (some ([.int .i64 0,.int .i64 0,.slice none 0 0],.inl [(0,1),(1,1),(2,1)])) [(0,(.sc (.int .i64 1))),(2,t40)] fun t42=>
aCall Try.prog W 15 [t42] h41 (fun t43 h44=>
pExt t43 0 fun t45=>
pExt t43 1 fun t46=>
eAlloc (some [.int .i64 0,.int .i64 0,.slice none 0 0]) 3 24 h44 fun t47 h48=>
eStore (some 3) t47 t45 h48 W fun h49=>
n13 W R N E P x1 t47 t46 h49) P
def n15:N0:=fun W R N E P h=>
eBSl (some (1,3,[.int .i64 0])) 1 [(0,(.sc (.int .i64 0)))] h fun t50 h51=>
pBld (some ([.int .i64 0,.string ⟨#[]⟩,.slice none 0 0,.int .i64 0,.bool false,.int .u64 0,.int .u64 0],.inl [(0,1),(1,1),(2,1),(3,1),(4,1),(5,1),(6,1)])) [(0,(.sc (.int .i64 1))),(1,(.sc (.string ⟨#[104]⟩))),(2,t50)] fun t52=>
eAlloc (some [.int .i64 0,.string ⟨#[]⟩,.slice none 0 0,.int .i64 0,.bool false,.int .u64 0,.int .u64 0]) 7 45 h51 fun t53 h54=>
eStore (some 7) t53 t52 h54 W fun h55=>
n14 W R N E P t53 h55
def n16:N0:=fun W R N E P h=>
n15 W R N E P h
theorem callsN{h:AH}{M:WK}{R:RK}(hp:n16 (fun id=>M id\/h.next<=id) (retV Try.prog [.tmp 0] R) (retV Try.prog [.tmp 0] R) (fun _ _ _=>False) (fun v h=>R (.pan v) h) h):ACalls Try.prog 6 [] h M R:=
 fin (n:=52) (pl:=[(4,⟨[(none,(fr 0 3)),(some (2,true),(fr 3 2)),(none,(fr 5 2)),(some (6,true),(fr 7 2)),(none,(fr 9 2)),(some (10,true),(fr 11 4)),(none,(fr 15 2)),(some (16,true),(fr 17 3)),(none,(fr 20 2)),(some (21,true),(fr 22 4)),(none,(fr 26 2))],false,[],[]⟩)]) (rs:=[.tmp 0]) (L:=rs) (fun c=>(a0 n16 c)) Try.mixed Try.func6 (fun c=>
(sq (a0 n16 c)
(sq (a0 n15 c)
(sq (a1 n14 1 c)
(sq (a3 n13 1 2 3 c)
(sn
(sm (a1 n1 0 c))
(gr (gn (a5 n12 2 3 4 5 6 c) (gx (a5 n11 2 4 5 6 27 c) (gn (a5 n10 2 4 5 27 29 c) (gx (a4 n9 2 4 5 31 c) (gn (a4 n8 2 4 31 33 c) (gx (a3 n7 2 4 35 c) (gn (a4 n6 2 4 35 39 c) (gx (a3 n5 2 4 41 c) (gn (a3 n4 4 41 44 c) (gx (a2 n3 4 46 c) (gl (a2 n2 46 50 c))))))))))))))))))) hp
attribute [simp] n1 n2 n3 n4 n5 n6 n7 n8 n9 n10 n11 n12 n13 n14 n15 n16
end F6
namespace F7
abbrev rs:List Nat:=[2]
def n1:N0:=fun _ R _ _ _ h=>
R [(.sc (.bool false))] h
def n2:N3:=fun _ _ N _ _ x10 x11 x12 h=>
pBin Try.prog .add 3 true x12 (.sc (.int .i64 1)) fun t1=>
N [x10,x11,t1] h
def n3:N0:=fun _ R _ _ _ h=>
R [(.sc (.bool true))] h
def n4:N4:=fun W R N E P x10 x11 x12 x19 h=>
aIf x19 (
n3 W R N E P h) (
n2 W R N E P x10 x11 x12 h)
def n5:N4:=fun W R N E P x4 x10 x11 x12 h=>
pFld (some 2) x4 fun t2=>
lLd (some false) (some 1) t2 h fun t3 _=>
(strArg t3=false)/\pLen t3 fun t5=>
pBin Try.prog .gtr 3 true t5 (.sc (.int .i64 80)) fun t6=>
n4 W R N E P x10 x11 x12 t6 h
def n6:N3:=fun W R N E P x10 x11 x12 h=>
pIxA (some (7,none)) x10 x12 fun t7=>
lLd (some true) (some 7) t7 h fun t8 _=>
eAlloc (some [.int .i64 0,.string ⟨#[]⟩,.slice none 0 0,.int .i64 0,.bool false,.int .u64 0,.int .u64 0]) 7 45 h fun t10 h11=>
eStore (some 7) t10 t8 h11 W fun h12=>
n5 W R N E P t10 x10 x11 x12 h12
def n7:N4:=fun W R N E P x10 x11 x12 x13 h=>
aIf x13 (
n6 W R N E P x10 x11 x12 h) (
E 0 [] h)
def n8:N3:=fun W R N E P x10 x11 x12 h=>
pBin Try.prog .lss 3 false x12 x11 fun t13=>
n7 W R N E P x10 x11 x12 t13 h
def g1_:GK:=fun W R N E P N' vs h=>n8 W R N' (fun(i:Nat) (vs:List AV) (h:AH)=>if i=0 then n1 W R N E P h else E i vs h) P (vs.getD 0 noA) (vs.getD 1 noA) (vs.getD 2 noA) h
def n9:N3:=fun W R N E P x10 x11 x12 h=>
vLoop (g1_ W R N E P) [x10,x11,x12] h
def n10:N1:=fun W R N E P x1 h=>
pFld (some 2) x1 fun t14=>
lLd (some false) (some 1) t14 h fun t15 _=>
(strArg t15=false)/\pLen t15 fun t17=>
n9 W R N E P t15 t17 (.sc (.int .i64 0)) h
def n11:N0:=fun _ R _ _ _ h=>
R [(.sc (.bool true))] h
def n12:N2:=fun W R N E P x1 x8 h=>
aIf x8 (
n11 W R N E P h) (
n10 W R N E P x1 h)
def n13:N1:=fun W R N E P x1 h=>
pFld (some 2) x1 fun t18=>
lLd (some false) (some 1) t18 h fun t19 _=>
(strArg t19=false)/\pLen t19 fun t21=>
pBin Try.prog .gtr 3 true t21 (.sc (.int .i64 80)) fun t22=>
n12 W R N E P x1 t22 h
def n14:N1:=fun W R N E P x0 h=>
eBox 3 24 x0 h fun t23 h24=>
n13 W R N E P t23 h24
theorem callsN{x0:AV}{h:AH}{M:WK}{R:RK}(hp:n14 (fun id=>M id\/h.next<=id) (retV Try.prog [.tmp 2] R) (retV Try.prog [.tmp 2] R) (fun _ _ _=>False) (fun v h=>R (.pan v) h) x0 h):ACalls Try.prog 7 [x0] h M R:=
 fin (n:=21) (pl:=[]) (rs:=[.tmp 2]) (L:=rs) (fun c=>(a1 n14 0 c)) Try.mixed Try.func7 (fun c=>
(sq (a1 n14 0 c)
(sn
(sn
(sl (a0 n1 c))
(sq (a1 n10 1 c)
(bk 0 (lp [10,11,12] rs [(0,[])] (a3 n9 10 11 12 c) g1_ (fun i vs h=>if i=0 then n1 c.W c.R c.N c.E c.P h else c.E i vs h) (.b (.t .o)) fun c=>
(sq (a3 n8 10 11 12 c)
(sn
(sn
(sm (a3 n2 10 11 12 c))
(bk 1 (sq (a3 n6 10 11 12 c)
(sq (a4 n5 4 10 11 12 c)
(cd (a4 n4 10 11 12 19 c) (sl (a0 n3 c)) tr)))))
(cd (a4 n7 10 11 12 13 c) tr tr)))))))
(sq (a1 n13 1 c)
(cd (a2 n12 1 8 c) (sl (a0 n11 c)) tr))))) hp
attribute [simp] n1 n2 n3 n4 n5 n6 n7 n8 n10 n11 n12 n13 n14
end F7
end Go.Proofs.Ytbdibjgoeeokoaa
