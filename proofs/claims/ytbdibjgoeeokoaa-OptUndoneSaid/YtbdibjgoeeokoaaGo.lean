/- Bodies of package opt; printed. No condition. -/
import Derived.Test.YtbdibjgoeeokoaaGl
set_option maxRecDepth 100000
namespace Go.Proofs.Ytbdibjgoeeokoaa
open Go.Ab
namespace F10
abbrev rs:List Nat:=[2,3,4]
def n1:N4:=fun W R _ _ P x1 x2 x7 x8 h=>
lLd (some true) (some 3) x1 h fun t1 _=>
aCall Try.prog W 24 [t1,x7] h (fun t3 h4=>
eStore (some 3) x2 t3 h4 W fun h5=>
R [x2,x8,(.sc (.int .i64 0))] h5) P
def n2:N2:=fun W R N E P x1 x2 h=>
pFld (some 2) x1 fun t6=>
lLd (some false) (some 1) t6 h fun t7 _=>
pBld (some ([.slice none 0 0],.inl [(0,1)])) [(0,t7)] fun t9=>
aCall Try.prog W 23 [t9] h (fun t10 h11=>
pExt t10 0 fun t12=>
pExt t10 1 fun t13=>
n1 W R N E P x1 x2 t12 t13 h11) P
def n3:N2:=fun W R _ _ _ x2 x6 h=>
pBld (some ([.int .i64 0,.int .i64 0,.slice none 0 0],.inl [(0,1),(1,1),(2,1)])) [] fun t14=>
eStore (some 3) x2 t14 h W fun h15=>
R [x2,(.sc (.bool false)),x6] h15
def n4:N4:=fun W R N E P x1 x2 x6 x15 h=>
aIf x15 (
n3 W R N E P x2 x6 h) (
n2 W R N E P x1 x2 h)
def n5:N3:=fun W R N E P x1 x2 x6 h=>
pBin Try.prog .neq 30 true x6 (.sc (.int .i64 0)) fun t16=>
n4 W R N E P x1 x2 x6 t16 h
def n6:N2:=fun W R N E P x1 x2 h=>
lLd (some true) (some 3) x1 h fun t17 _=>
aCall Try.prog W 22 [t17] h (fun t19 h20=>
pExt t19 0 fun t21=>
pExt t19 1 fun t22=>
n5 W R N E P x1 x2 t22 h20) P
def n7:N1:=fun W R N E P x0 h=>
eBox 3 24 x0 h fun t23 h24=>
eAlloc (some [.int .i64 0,.int .i64 0,.slice none 0 0]) 3 24 h24 fun t25 h26=>
n6 W R N E P t23 t25 h26
theorem callsN{x0:AV}{h:AH}{M:WK}{R:RK}(hp:n7 (fun id=>M id\/h.next<=id) (retV Try.prog [.cell 2 24,.tmp 3,.tmp 4] R) (retV Try.prog [.cell 2 24,.tmp 3,.tmp 4] R) (fun _ _ _=>False) (fun v h=>R (.pan v) h) x0 h):ACalls Try.prog 10 [x0] h M R:=
 fin (n:=29) (pl:=[]) (rs:=[.cell 2 24,.tmp 3,.tmp 4]) (L:=rs) (fun c=>(a1 n7 0 c)) Try.mixed Try.func10 (fun c=>
(sq (a1 n7 0 c)
(sn
(sq (a2 n2 1 2 c)
(sl (a4 n1 1 2 7 8 c)))
(sq (a2 n6 1 2 c)
(sq (a3 n5 1 2 6 c)
(cd (a4 n4 1 2 6 15 c) (sl (a2 n3 2 6 c)) tr)))))) hp
attribute [simp] n1 n2 n3 n4 n5 n6 n7
end F10
namespace F15
abbrev rs:List Nat:=[2,3]
def n1:N3:=fun W R _ _ P x1 x2 x6 h=>
lLd (some true) (some 3) x1 h fun t1 _=>
aCall Try.prog W 24 [t1,x6] h (fun t3 h4=>
eStore (some 3) x2 t3 h4 W fun h5=>
R [x2,(.sc (.int .i64 0))] h5) P
def n2:N3:=fun W _ N _ P x1 x2 x6 h=>
pBld (some ([.slice none 0 0],.inl [(0,1)])) [(0,x6)] fun t6=>
aCall Try.prog W 23 [t6] h (fun t7 h8=>
pExt t7 0 fun t9=>
pExt t7 1 fun t10=>
N [x1,x2,t9,t10] h8) P
def n3:N4:=fun W R N E P x1 x2 x6 x24 h=>
aIf x24 (
n2 W R N E P x1 x2 x6 h) (
E 0 [x1,x2,x6] h)
def n4:N4:=fun W R N E P x1 x2 x6 x7 h=>
n3 W R N E P x1 x2 x6 x7 h
def g1_:GK:=fun W R N E P N' vs h=>n4 W R N' (fun(i:Nat) (vs:List AV) (h:AH)=>if i=0 then n1 W R N E P (vs.getD 0 noA) (vs.getD 1 noA) (vs.getD 2 noA) h else E i vs h) P (vs.getD 0 noA) (vs.getD 1 noA) (vs.getD 2 noA) (vs.getD 3 noA) h
def n5:N4:=fun W R N E P x1 x2 x6 x7 h=>
vLoop (g1_ W R N E P) [x1,x2,x6,x7] h
def n6:N2:=fun W R N E P x1 x2 h=>
pFld (some 2) x1 fun t11=>
lLd (some false) (some 1) t11 h fun t12 _=>
pBld (some ([.slice none 0 0],.inl [(0,1)])) [(0,t12)] fun t14=>
aCall Try.prog W 23 [t14] h (fun t15 h16=>
pExt t15 0 fun t17=>
pExt t15 1 fun t18=>
n5 W R N E P x1 x2 t17 t18 h16) P
def n7:N2:=fun W R _ _ _ x2 x5 h=>
pBld (some ([.int .i64 0,.int .i64 0,.slice none 0 0],.inl [(0,1),(1,1),(2,1)])) [] fun t19=>
eStore (some 3) x2 t19 h W fun h20=>
R [x2,x5] h20
def n8:N4:=fun W R N E P x1 x2 x5 x14 h=>
aIf x14 (
n7 W R N E P x2 x5 h) (
n6 W R N E P x1 x2 h)
def n9:N3:=fun W R N E P x1 x2 x5 h=>
pBin Try.prog .neq 30 true x5 (.sc (.int .i64 0)) fun t21=>
n8 W R N E P x1 x2 x5 t21 h
def n10:N2:=fun W R N E P x1 x2 h=>
lLd (some true) (some 3) x1 h fun t22 _=>
aCall Try.prog W 22 [t22] h (fun t24 h25=>
pExt t24 0 fun t26=>
pExt t24 1 fun t27=>
n9 W R N E P x1 x2 t27 h25) P
def n11:N1:=fun W R N E P x0 h=>
eBox 3 24 x0 h fun t28 h29=>
eAlloc (some [.int .i64 0,.int .i64 0,.slice none 0 0]) 3 24 h29 fun t30 h31=>
n10 W R N E P t28 t30 h31
theorem callsN{x0:AV}{h:AH}{M:WK}{R:RK}(hp:n11 (fun id=>M id\/h.next<=id) (retV Try.prog [.cell 2 24,.tmp 3] R) (retV Try.prog [.cell 2 24,.tmp 3] R) (fun _ _ _=>False) (fun v h=>R (.pan v) h) x0 h):ACalls Try.prog 15 [x0] h M R:=
 fin (n:=34) (pl:=[]) (rs:=[.cell 2 24,.tmp 3]) (L:=rs) (fun c=>(a1 n11 0 c)) Try.mixed Try.func15 (fun c=>
(sq (a1 n11 0 c)
(sn
(sq (a2 n6 1 2 c)
(sn
(sl (a3 n1 1 2 6 c))
(bk 0 (lp [1,2,6,7] rs [(0,[1,2,6])] (a4 n5 1 2 6 7 c) g1_ (fun i vs h=>if i=0 then n1 c.W c.R c.N c.E c.P (vs.getD 0 noA) (vs.getD 1 noA) (vs.getD 2 noA) h else c.E i vs h) (.b (.t .o)) fun c=>
(sn
(bk 1 (sm (a3 n2 1 2 6 c)))
(sq (a4 n4 1 2 6 7 c)
(cd (a4 n3 1 2 6 24 c) tr tr)))))))
(sq (a2 n10 1 2 c)
(sq (a3 n9 1 2 5 c)
(cd (a4 n8 1 2 5 14 c) (sl (a2 n7 2 5 c)) tr)))))) hp
attribute [simp] n1 n2 n3 n4 n6 n7 n8 n9 n10 n11
end F15
namespace F23
abbrev rs:List Nat:=[2,3]
def n1:N1:=fun _ R _ _ _ x1 h=>
pFld (some 0) x1 fun t1=>
lLd (some false) (some 1) t1 h fun t2 _=>
R [t2,(.sc (.bool false))] h
def n2:N4:=fun _ _ N _ _ x1 x10 x11 x12 h=>
pBin Try.prog .add 3 true x12 (.sc (.int .i64 1)) fun t4=>
N [x1,x10,x11,t4] h
def n3:N7:=fun _ _ N _ _ x1 x5 x10 x11 x12 x18 x19 h=>
pBin Try.prog .add 3 true x19 (.sc (.int .i64 1)) fun t5=>
N [x1,x5,x10,x11,x12,x18,t5] h
def n4:N1:=fun _ R _ _ _ x7 h=>
R [x7,(.sc (.bool true))] h
def n5:N9:=fun W R N E P x1 x5 x7 x10 x11 x12 x18 x19 x28 h=>
aIf x28 (
n4 W R N E P x7 h) (
n3 W R N E P x1 x5 x10 x11 x12 x18 x19 h)
def n6:N9:=fun W R N E P x1 x5 x7 x8 x10 x11 x12 x18 x19 h=>
n5 W R N E P x1 x5 x7 x10 x11 x12 x18 x19 x8 h
def n7:N8:=fun W R N E P x1 x5 x6 x10 x11 x12 x18 x19 h=>
aGo Try.prog W x5 [x6] h (fun t6 h7=>
pExt t6 0 fun t8=>
pExt t6 1 fun t9=>
n6 W R N E P x1 x5 t8 t9 x10 x11 x12 x18 x19 h7) P
def n8:N7:=fun W R N E P x1 x5 x10 x11 x12 x18 x19 h=>
n7 W R N E P x1 x5 x19 x10 x11 x12 x18 x19 h
def n9:N8:=fun W R N E P x1 x5 x10 x11 x12 x18 x19 x20 h=>
aIf x20 (
n8 W R N E P x1 x5 x10 x11 x12 x18 x19 h) (
E 2 [x1,x10,x11,x12] h)
def n10:N7:=fun W R N E P x1 x5 x10 x11 x12 x18 x19 h=>
pBin Try.prog .lss 3 false x19 x18 fun t10=>
n9 W R N E P x1 x5 x10 x11 x12 x18 x19 t10 h
def g2_:GK:=fun W R N E P N' vs h=>n10 W R N' (fun(i:Nat) (vs:List AV) (h:AH)=>if i=2 then n2 W R N E P (vs.getD 0 noA) (vs.getD 1 noA) (vs.getD 2 noA) (vs.getD 3 noA) h else if i=1 then n2 W R N E P (vs.getD 0 noA) (vs.getD 1 noA) (vs.getD 2 noA) (vs.getD 3 noA) h else E i vs h) P (vs.getD 0 noA) (vs.getD 1 noA) (vs.getD 2 noA) (vs.getD 3 noA) (vs.getD 4 noA) (vs.getD 5 noA) (vs.getD 6 noA) h
def n11:N7:=fun W R N E P x1 x5 x10 x11 x12 x18 x19 h=>
vLoop (g2_ W R N E P) [x1,x5,x10,x11,x12,x18,x19] h
def n12:N5:=fun W R N E P x1 x5 x10 x11 x12 h=>
pFld (some 0) x1 fun t11=>
lLd (some false) (some 1) t11 h fun t12 _=>
(strArg t12=false)/\pLen t12 fun t14=>
n11 W R N E P x1 x5 x10 x11 x12 t14 (.sc (.int .i64 0)) h
def n13:N4:=fun W R N E P x1 x10 x11 x12 h=>
pIxA (some (1,none)) x10 x12 fun t15=>
lLd (some false) (some 1) t15 h fun t16 _=>
n12 W R N E P x1 t16 x10 x11 x12 h
def n14:N5:=fun W R N E P x1 x10 x11 x12 x13 h=>
aIf x13 (
n13 W R N E P x1 x10 x11 x12 h) (
E 0 [x1] h)
def n15:N4:=fun W R N E P x1 x10 x11 x12 h=>
pBin Try.prog .lss 3 false x12 x11 fun t18=>
n14 W R N E P x1 x10 x11 x12 t18 h
def g1_:GK:=fun W R N E P N' vs h=>n15 W R N' (fun(i:Nat) (vs:List AV) (h:AH)=>if i=0 then n1 W R N E P (vs.getD 0 noA) h else E i vs h) P (vs.getD 0 noA) (vs.getD 1 noA) (vs.getD 2 noA) (vs.getD 3 noA) h
def n16:N4:=fun W R N E P x1 x10 x11 x12 h=>
vLoop (g1_ W R N E P) [x1,x10,x11,x12] h
def n17:N1:=fun W R N E P x1 h=>
lLd (some true) (some 1) x1 h fun t19 _=>
aCall Try.prog W 42 [t19] h (fun t21 h22=>
(strArg t21=false)/\pLen t21 fun t23=>
n16 W R N E P x1 t21 t23 (.sc (.int .i64 0)) h22) P
def n18:N1:=fun W R N E P x0 h=>
eBox 1 55 x0 h fun t24 h25=>
n17 W R N E P t24 h25
theorem callsN{x0:AV}{h:AH}{M:WK}{R:RK}(hp:n18 (fun id=>M id\/h.next<=id) (retV Try.prog [.tmp 2,.tmp 3] R) (retV Try.prog [.tmp 2,.tmp 3] R) (fun _ _ _=>False) (fun v h=>R (.pan v) h) x0 h):ACalls Try.prog 23 [x0] h M R:=
 fin (n:=34) (pl:=[]) (rs:=[.tmp 2,.tmp 3]) (L:=rs) (fun c=>(a1 n18 0 c)) Try.mixed Try.func23 (fun c=>
(sq (a1 n18 0 c)
(sn
(sl (a1 n1 1 c))
(sq (a1 n17 1 c)
(bk 0 (lp [1,10,11,12] rs [(0,[1])] (a4 n16 1 10 11 12 c) g1_ (fun i vs h=>if i=0 then n1 c.W c.R c.N c.E c.P (vs.getD 0 noA) h else c.E i vs h) (.b (.t .o)) fun c=>
(sq (a4 n15 1 10 11 12 c)
(sn
(sn
(sm (a4 n2 1 10 11 12 c))
(bk 1 (sq (a4 n13 1 10 11 12 c)
(sq (a5 n12 1 5 10 11 12 c)
(bk 2 (lp [1,5,10,11,12,18,19] rs [(2,[1,10,11,12]),(1,[1,10,11,12]),(0,[1])] (a7 n11 1 5 10 11 12 18 19 c) g2_ (fun i vs h=>if i=2 then n2 c.W c.R c.N c.E c.P (vs.getD 0 noA) (vs.getD 1 noA) (vs.getD 2 noA) (vs.getD 3 noA) h else if i=1 then n2 c.W c.R c.N c.E c.P (vs.getD 0 noA) (vs.getD 1 noA) (vs.getD 2 noA) (vs.getD 3 noA) h else c.E i vs h) (.b (.b (.t .o))) fun c=>
(sq (a7 n10 1 5 10 11 12 18 19 c)
(sn
(sn
(sm (a7 n3 1 5 10 11 12 18 19 c))
(bk 3 (sq (a7 n8 1 5 10 11 12 18 19 c)
(sq (a8 n7 1 5 6 10 11 12 18 19 c)
(sq (a9 n6 1 5 7 8 10 11 12 18 19 c)
(cd (a9 n5 1 5 7 10 11 12 18 19 28 c) (sl (a1 n4 7 c)) tr))))))
(cd (a8 n9 1 5 10 11 12 18 19 20 c) tr tr)))))))))
(cd (a5 n14 1 10 11 12 13 c) tr tr))))))))) hp
attribute [simp] n1 n2 n3 n4 n5 n6 n7 n8 n9 n10 n12 n13 n14 n15 n17 n18
end F23
namespace F24
abbrev rs:List Nat:=[4]
def n1:N2:=fun W R _ _ _ x2 x4 h=>
lLd (some true) (some 3) x2 h fun t1 _=>
eStore (some 3) x4 t1 h W fun h3=>
R [x4] h3
def n2:N5:=fun _ _ N _ _ x2 x4 x11 x12 x13 h=>
pBin Try.prog .add 3 true x13 (.sc (.int .i64 1)) fun t4=>
N [x2,x4,x11,x12,t4] h
def n3:N7:=fun W R N E P x2 x4 x5 x6 x11 x12 x13 h=>
∃Hd:Nat->Nat,(∀i∈[1],h.obj (Hd i)≠none)/\(
pFld (some 2) x2 fun t5=>
lLd (some false) (some 1) t5 h fun t6 i7=>
(i7=Hd 1)/\(
pFld (some 2) x6 fun t8=>
lLd (some false) (some 1) t8 h fun t9 _=>
aCall Try.prog (banL W Hd [1]) 44 [t9] h (fun t11 h12=>
pIxA (some (7,none)) t6 x5 fun t13=>
pFld (some 2) t13 fun t14=>
eStore (some 1) t14 t11 h12 W fun h15=>
n2 W R N E P x2 x4 x11 x12 x13 h15) P))
def n4:N5:=fun W R N E P x2 x4 x11 x12 x13 h=>
pIxA (some (7,none)) x11 x13 fun t16=>
lLd (some true) (some 7) t16 h fun t17 _=>
eAlloc (some [.int .i64 0,.string ⟨#[]⟩,.slice none 0 0,.int .i64 0,.bool false,.int .u64 0,.int .u64 0]) 7 45 h fun t19 h20=>
eStore (some 7) t19 t17 h20 W fun h21=>
n3 W R N E P x2 x4 x13 t19 x11 x12 x13 h21
def n5:N6:=fun W R N E P x2 x4 x11 x12 x13 x14 h=>
aIf x14 (
n4 W R N E P x2 x4 x11 x12 x13 h) (
E 0 [x2,x4] h)
def n6:N5:=fun W R N E P x2 x4 x11 x12 x13 h=>
pBin Try.prog .lss 3 false x13 x12 fun t22=>
n5 W R N E P x2 x4 x11 x12 x13 t22 h
def g1_:GK:=fun W R N E P N' vs h=>n6 W R N' (fun(i:Nat) (vs:List AV) (h:AH)=>if i=0 then n1 W R N E P (vs.getD 0 noA) (vs.getD 1 noA) h else E i vs h) P (vs.getD 0 noA) (vs.getD 1 noA) (vs.getD 2 noA) (vs.getD 3 noA) (vs.getD 4 noA) h
def n7:N5:=fun W R N E P x2 x4 x11 x12 x13 h=>
vLoop (g1_ W R N E P) [x2,x4,x11,x12,x13] h
def n8:N2:=fun W R N E P x2 x4 h=>
pFld (some 2) x2 fun t23=>
lLd (some false) (some 1) t23 h fun t24 _=>
(strArg t24=false)/\pLen t24 fun t26=>
n7 W R N E P x2 x4 t24 t26 (.sc (.int .i64 0)) h
def n9:N3:=fun W R N E P x1 x2 x4 h=>
aCall Try.prog W 43 [x1] h (fun t27 h28=>
pFld (some 2) x2 fun t29=>
eStore (some 1) t29 t27 h28 W fun h30=>
n8 W R N E P x2 x4 h30) P
def n10:N2:=fun W R N E P x0 x1 h=>
eBox 3 24 x0 h fun t31 h32=>
eAlloc (some [.int .i64 0,.int .i64 0,.slice none 0 0]) 3 24 h32 fun t33 h34=>
n9 W R N E P x1 t31 t33 h34
theorem callsN{x0 x1:AV}{h:AH}{M:WK}{R:RK}(hp:n10 (fun id=>M id\/h.next<=id) (retV Try.prog [.cell 4 24] R) (retV Try.prog [.cell 4 24] R) (fun _ _ _=>False) (fun v h=>R (.pan v) h) x0 x1 h):ACalls Try.prog 24 [x0,x1] h M R:=
 fin (n:=28) (pl:=[(5,⟨[(none,[(0,false),(1,true),(2,false),(3,false),(4,false),(5,false),(6,false),(7,false),(8,false)])],true,[],[]⟩)]) (rs:=[.cell 4 24]) (L:=rs) (fun c=>(a2 n10 0 1 c)) Try.mixed Try.func24 (fun c=>
(sq (a2 n10 0 1 c)
(sq (a3 n9 1 2 4 c)
(sn
(sl (a2 n1 2 4 c))
(sq (a2 n8 2 4 c)
(bk 0 (lp [2,4,11,12,13] rs [(0,[2,4])] (a5 n7 2 4 11 12 13 c) g1_ (fun i vs h=>if i=0 then n1 c.W c.R c.N c.E c.P (vs.getD 0 noA) (vs.getD 1 noA) h else c.E i vs h) (.b (.t .o)) fun c=>
(sq (a5 n6 2 4 11 12 13 c)
(sn
(sn
(sm (a5 n2 2 4 11 12 13 c))
(bk 1 (sq (a5 n4 2 4 11 12 13 c)
(sm (a7 n3 2 4 5 6 11 12 13 c)))))
(cd (a6 n5 2 4 11 12 13 14 c) tr tr)))))))))) hp
attribute [simp] n1 n2 n3 n4 n5 n6 n8 n9 n10
end F24
namespace F42
abbrev rs:List Nat:=[2]
def n1:N1:=fun _ R _ _ _ x1 h=>
lLd (some true) (some 1) x1 h fun t1 _=>
lLd (some true) (some 1) x1 h fun t3 _=>
lLd (some true) (some 1) x1 h fun t5 _=>
lLd (some true) (some 1) x1 h fun t7 _=>
eBSl (some (1,80,[.nilFunc,.nilFunc,.nilFunc,.nilFunc])) 4 [(0,(.fn (.func 60) [t1] [])),(1,(.fn (.func 61) [t3] [])),(2,(.fn (.func 62) [t5] [])),(3,(.fn (.func 63) [t7] []))] h fun t9 h10=>
R [t9] h10
def n2:N1:=fun W R N E P x0 h=>
eBox 1 55 x0 h fun t11 h12=>
n1 W R N E P t11 h12
theorem callsN{x0:AV}{h:AH}{M:WK}{R:RK}(hp:n2 (fun id=>M id\/h.next<=id) (retV Try.prog [.tmp 2] R) (retV Try.prog [.tmp 2] R) (fun _ _ _=>False) (fun v h=>R (.pan v) h) x0 h):ACalls Try.prog 42 [x0] h M R:=
 fin (n:=12) (pl:=[]) (rs:=[.tmp 2]) (L:=rs) (fun c=>(a1 n2 0 c)) Try.mixed Try.func42 (fun c=>
(sq (a1 n2 0 c)
(sl (a1 n1 1 c)))) hp
attribute [simp] n1 n2
end F42
namespace F60
abbrev rs:List Nat:=[4,5]
def n1:N2:=fun W R _ _ P x1 x2 h=>
lLd (some true) (some 1) x2 h fun t1 _=>
eBSl (some (1,3,[.int .i64 0])) 1 [(0,x1)] h fun t3 h4=>
aCall Try.prog W 75 [t1,(.sc (.string ⟨#[]⟩)),t3] h4 (fun t5 h6=>
R [t5,(.sc (.bool true))] h6) P
def n2:N0:=fun _ R _ _ _ h=>
R [(.sc (.slice none 0 0)),(.sc (.bool false))] h
def n3:N3:=fun W R N E P x1 x2 x21 h=>
aIf x21 (
n2 W R N E P h) (
n1 W R N E P x1 x2 h)
def n4:N4:=fun W R N E P x1 x2 x13 x20 h=>
pPick x13 (.sc (.bool true)) x20 fun t7=>
n3 W R N E P x1 x2 t7 h
def n5:N3:=fun W R N E P x1 x2 x13 h=>
aIg false x13 (
pFld (some 0) x2 fun t8=>
lLd (some false) (some 1) t8 h fun t9 _=>
pIxA (some (7,none)) t9 x1 fun t11=>
pFld (some 1) t11 fun t12=>
lLd (some false) (some 1) t12 h fun t13 _=>
pBin Try.prog .neq 9 true t13 (.sc (.string ⟨#[105]⟩)) fun t15=>
n4 W R N E P x1 x2 x13 t15 h) (
n4 W R N E P x1 x2 x13 noA h)
def n6:N2:=fun W R N E P x1 x2 h=>
pFld (some 0) x2 fun t16=>
lLd (some false) (some 1) t16 h fun t17 _=>
pIxA (some (7,none)) t17 x1 fun t19=>
pFld (some 0) t19 fun t20=>
lLd (some false) (some 1) t20 h fun t21 _=>
pBin Try.prog .neq 3 true t21 (.sc (.int .i64 1)) fun t23=>
n5 W R N E P x1 x2 t23 h
def n7:N2:=fun W R N E P x0 x1 h=>
eBox 1 55 x0 h fun t24 h25=>
n6 W R N E P x1 t24 h25
theorem callsN{x0 x1:AV}{h:AH}{M:WK}{R:RK}(hp:n7 (fun id=>M id\/h.next<=id) (retV Try.prog [.tmp 4,.tmp 5] R) (retV Try.prog [.tmp 4,.tmp 5] R) (fun _ _ _=>False) (fun v h=>R (.pan v) h) x0 x1 h):ACalls Try.prog 60 [x0,x1] h M R:=
 fin (n:=26) (pl:=[(1,⟨[(none,(fr 0 8)),(some (7,false),(fr 8 7)),(none,(fr 15 1))],false,[],[]⟩)]) (rs:=[.tmp 4,.tmp 5]) (L:=rs) (fun c=>(a2 n7 0 1 c)) Try.mixed Try.func60 (fun c=>
(sq (a2 n7 0 1 c)
(sn
(sl (a2 n1 1 2 c))
(sn
(cd (a3 n3 1 2 21 c) (sl (a0 n2 c)) tr)
(gr (gn (a2 n6 1 2 c) (gx (a3 n5 1 2 13 c) (gl (a4 n4 1 2 13 20 c))))))))) hp
attribute [simp] n1 n2 n3 n4 n5 n6 n7
end F60
namespace F61
abbrev rs:List Nat:=[4,5]
def n1:N3:=fun W R _ _ P x1 x2 x6 h=>
lLd (some true) (some 1) x2 h fun t1 _=>
eBSl (some (1,3,[.int .i64 0,.int .i64 0])) 2 [(0,x1),(1,x6)] h fun t3 h4=>
aCall Try.prog W 75 [t1,(.sc (.string ⟨#[]⟩)),t3] h4 (fun t5 h6=>
R [t5,(.sc (.bool true))] h6) P
def n2:N0:=fun _ R _ _ _ h=>
R [(.sc (.slice none 0 0)),(.sc (.bool false))] h
def n3:N4:=fun W R N E P x1 x2 x6 x45 h=>
aIf x45 (
n2 W R N E P h) (
n1 W R N E P x1 x2 x6 h)
def n4:N5:=fun W R N E P x1 x2 x6 x36 x44 h=>
pPick x36 (.sc (.bool true)) x44 fun t7=>
n3 W R N E P x1 x2 x6 t7 h
def n5:N6:=fun W R N E P x1 x2 x6 x7 x8 x36 h=>
aIg false x36 (
pFld (some 1) x7 fun t8=>
lLd (some false) (some 1) t8 h fun t9 _=>
pFld (some 2) x7 fun t11=>
lLd (some false) (some 1) t11 h fun t12 _=>
pFld (some 2) x8 fun t14=>
lLd (some false) (some 1) t14 h fun t15 _=>
aCall Try.prog W 77 [t9,t12,t15] h (fun t17 h18=>
pUn .not t17 fun t19=>
n4 W R N E P x1 x2 x6 x36 t19 h18) P) (
n4 W R N E P x1 x2 x6 x36 noA h)
def n6:N6:=fun W R N E P x1 x2 x6 x7 x8 x9 h=>
pFld (some 1) x8 fun t20=>
lLd (some false) (some 1) t20 h fun t21 _=>
pBin Try.prog .neq 9 false x9 t21 fun t23=>
n5 W R N E P x1 x2 x6 x7 x8 t23 h
def n7:N5:=fun W R N E P x1 x2 x6 x7 x8 h=>
pFld (some 1) x7 fun t24=>
lLd (some false) (some 1) t24 h fun t25 _=>
aCall Try.prog W 30 [t25] h (fun t27 h28=>
pExt t27 0 fun t29=>
pExt t27 1 fun t30=>
n6 W R N E P x1 x2 x6 x7 x8 t29 h28) P
def n8:N3:=fun W R N E P x1 x2 x6 h=>
∃Hd:Nat->Nat,(∀i∈[6,9],h.obj (Hd i)≠none)/\(
pFld (some 0) x2 fun t31=>
lLd (some false) (some 1) t31 h fun t32 _=>
pIxA (some (7,none)) t32 x1 fun t34=>
lLd (some true) (some 7) t34 h fun t35 _=>
pFld (some 0) x2 fun t37=>
lLd (some false) (some 1) t37 h fun t38 i39=>
(i39=Hd 6)/\(
pIxA (some (7,none)) t38 x6 fun t40=>
lLd (some true) (some 7) t40 h fun t41 i42=>
(i42=Hd 9)/\(
(
eAlloc (some [.int .i64 0,.string ⟨#[]⟩,.slice none 0 0,.int .i64 0,.bool false,.int .u64 0,.int .u64 0]) 7 45 h fun t43 h44=>
eAlloc (some [.int .i64 0,.string ⟨#[]⟩,.slice none 0 0,.int .i64 0,.bool false,.int .u64 0,.int .u64 0]) 7 45 h44 fun t45 h46=>
eStore (some 7) t43 t35 h46 (banL W Hd [6,9]) fun h47=>
eStore (some 7) t45 t41 h47 W fun h48=>
n7 W R N E P x1 x2 x6 t43 t45 h48)/\(
eAlloc (some [.int .i64 0,.string ⟨#[]⟩,.slice none 0 0,.int .i64 0,.bool false,.int .u64 0,.int .u64 0]) 7 45 h fun t49 h50=>
eAlloc (some [.int .i64 0,.string ⟨#[]⟩,.slice none 0 0,.int .i64 0,.bool false,.int .u64 0,.int .u64 0]) 7 45 h50 fun t51 h52=>
eStore (some 7) t51 t35 h52 (banL W Hd [6,9]) fun h53=>
eStore (some 7) t49 t41 h53 W fun h54=>
n7 W R N E P x1 x2 x6 t51 t49 h54)/\True)))
def n9:N0:=fun _ R _ _ _ h=>
R [(.sc (.slice none 0 0)),(.sc (.bool false))] h
def n10:N4:=fun W R N E P x1 x2 x6 x15 h=>
aIf x15 (
n9 W R N E P h) (
n8 W R N E P x1 x2 x6 h)
def n11:N3:=fun W R N E P x1 x2 x6 h=>
pBin Try.prog .lss 3 true x6 (.sc (.int .i64 0)) fun t55=>
n10 W R N E P x1 x2 x6 t55 h
def n12:N2:=fun W R N E P x1 x2 h=>
lLd (some true) (some 1) x2 h fun t56 _=>
aCall Try.prog W 76 [t56,x1] h (fun t58 h59=>
n11 W R N E P x1 x2 t58 h59) P
def n13:N2:=fun W R N E P x0 x1 h=>
eBox 1 55 x0 h fun t60 h61=>
n12 W R N E P x1 t60 h61
theorem callsN{x0 x1:AV}{h:AH}{M:WK}{R:RK}(hp:n13 (fun id=>M id\/h.next<=id) (retV Try.prog [.tmp 4,.tmp 5] R) (retV Try.prog [.tmp 4,.tmp 5] R) (fun _ _ _=>False) (fun v h=>R (.pan v) h) x0 x1 h):ACalls Try.prog 61 [x0,x1] h M R:=
 fin (n:=51) (pl:=[(4,⟨[(none,[(0,false),(1,false),(2,false),(3,false),(4,false),(5,false),(6,true),(7,false),(8,false),(9,true)])],true,[.mk (fr 10 4) [],.mk [(11,false),(10,false),(12,false),(13,false)] []],[]⟩),(6,⟨[(none,(fr 0 5)),(some (4,false),(fr 5 8)),(none,(fr 13 1))],false,[],[]⟩)]) (rs:=[.tmp 4,.tmp 5]) (L:=rs) (fun c=>(a2 n13 0 1 c)) Try.mixed Try.func61 (fun c=>
(sq (a2 n13 0 1 c)
(sq (a2 n12 1 2 c)
(sn
(sn
(sn
(sl (a3 n1 1 2 6 c))
(sq (a5 n7 1 2 6 7 8 c)
(sn
(cd (a4 n3 1 2 6 45 c) (sl (a0 n2 c)) tr)
(gr (gn (a6 n6 1 2 6 7 8 9 c) (gx (a6 n5 1 2 6 7 8 36 c) (gl (a5 n4 1 2 6 36 44 c))))))))
(sm (a3 n8 1 2 6 c)))
(sq (a3 n11 1 2 6 c)
(cd (a4 n10 1 2 6 15 c) (sl (a0 n9 c)) tr)))))) hp
attribute [simp] n1 n2 n3 n4 n5 n6 n7 n8 n9 n10 n11 n12 n13
end F61
namespace F62
abbrev rs:List Nat:=[4,5]
def n1:N4:=fun W R _ _ P x1 x2 x6 x9 h=>
lLd (some true) (some 1) x2 h fun t1 _=>
eBSl (some (1,3,[.int .i64 0,.int .i64 0])) 2 [(0,x1),(1,x6)] h fun t3 h4=>
aCall Try.prog W 75 [t1,x9,t3] h4 (fun t5 h6=>
R [t5,(.sc (.bool true))] h6) P
def n2:N0:=fun _ R _ _ _ h=>
R [(.sc (.slice none 0 0)),(.sc (.bool false))] h
def n3:N5:=fun W R N E P x1 x2 x6 x9 x48 h=>
aIf x48 (
n2 W R N E P h) (
n1 W R N E P x1 x2 x6 x9 h)
def n4:N6:=fun W R N E P x1 x2 x6 x9 x42 x47 h=>
pPick x42 x47 (.sc (.bool false)) fun t7=>
n3 W R N E P x1 x2 x6 x9 t7 h
def n5:N7:=fun W R N E P x1 x2 x6 x7 x8 x9 x42 h=>
aIg true x42 (
pBin Try.prog .add 3 false x7 x8 fun t8=>
pBin Try.prog .rem 3 true t8 (.sc (.int .i64 8)) fun t9=>
pBin Try.prog .neq 3 true t9 (.sc (.int .i64 0)) fun t10=>
n4 W R N E P x1 x2 x6 x9 x42 t10 h) (
n4 W R N E P x1 x2 x6 x9 x42 noA h)
def n6:N6:=fun W R N E P x1 x2 x6 x7 x8 x9 h=>
pBin Try.prog .eql 9 true x9 (.sc (.string ⟨#[]⟩)) fun t11=>
n5 W R N E P x1 x2 x6 x7 x8 x9 t11 h
def n7:N5:=fun W R N E P x1 x2 x6 x7 x8 h=>
pBin Try.prog .add 3 false x7 x8 fun t12=>
pBin Try.prog .rem 3 true t12 (.sc (.int .i64 8)) fun t13=>
aCall Try.prog W 79 [t13] h (fun t14 h15=>
n6 W R N E P x1 x2 x6 x7 x8 t14 h15) P
def n8:N0:=fun _ R _ _ _ h=>
R [(.sc (.slice none 0 0)),(.sc (.bool false))] h
def n9:N6:=fun W R N E P x1 x2 x6 x7 x8 x34 h=>
aIf x34 (
n8 W R N E P h) (
n7 W R N E P x1 x2 x6 x7 x8 h)
def n10:N7:=fun W R N E P x1 x2 x6 x7 x8 x31 x33 h=>
pPick x31 (.sc (.bool true)) x33 fun t16=>
n9 W R N E P x1 x2 x6 x7 x8 t16 h
def n11:N6:=fun W R N E P x1 x2 x6 x7 x8 x31 h=>
aIg false x31 (
pBin Try.prog .eql 3 true x8 (.sc (.int .i64 0)) fun t17=>
n10 W R N E P x1 x2 x6 x7 x8 x31 t17 h) (
n10 W R N E P x1 x2 x6 x7 x8 x31 noA h)
def n12:N5:=fun W R N E P x1 x2 x6 x7 x8 h=>
pBin Try.prog .eql 3 true x7 (.sc (.int .i64 0)) fun t18=>
n11 W R N E P x1 x2 x6 x7 x8 t18 h
def n13:N3:=fun W R N E P x1 x2 x6 h=>
∃Hd:Nat->Nat,(∀i∈[8,12],h.obj (Hd i)≠none)/\(
pFld (some 0) x2 fun t19=>
lLd (some false) (some 1) t19 h fun t20 _=>
pIxA (some (7,none)) t20 x1 fun t22=>
pFld (some 1) t22 fun t23=>
lLd (some false) (some 1) t23 h fun t24 _=>
pFld (some 0) x2 fun t26=>
lLd (some false) (some 1) t26 h fun t27 i28=>
(i28=Hd 8)/\(
pIxA (some (7,none)) t27 x6 fun t29=>
pFld (some 1) t29 fun t30=>
lLd (some false) (some 1) t30 h fun t31 i32=>
(i32=Hd 12)/\(
aCall Try.prog (banL W Hd [8,12]) 78 [t24] h (fun t33 h34=>
aCall Try.prog W 78 [t31] h34 (fun t35 h36=>
n12 W R N E P x1 x2 x6 t33 t35 h36) P) P)))
def n14:N0:=fun _ R _ _ _ h=>
R [(.sc (.slice none 0 0)),(.sc (.bool false))] h
def n15:N4:=fun W R N E P x1 x2 x6 x14 h=>
aIf x14 (
n14 W R N E P h) (
n13 W R N E P x1 x2 x6 h)
def n16:N3:=fun W R N E P x1 x2 x6 h=>
pBin Try.prog .lss 3 true x6 (.sc (.int .i64 0)) fun t37=>
n15 W R N E P x1 x2 x6 t37 h
def n17:N2:=fun W R N E P x1 x2 h=>
lLd (some true) (some 1) x2 h fun t38 _=>
aCall Try.prog W 76 [t38,x1] h (fun t40 h41=>
n16 W R N E P x1 x2 t40 h41) P
def n18:N2:=fun W R N E P x0 x1 h=>
eBox 1 55 x0 h fun t42 h43=>
n17 W R N E P x1 t42 h43
theorem callsN{x0 x1:AV}{h:AH}{M:WK}{R:RK}(hp:n18 (fun id=>M id\/h.next<=id) (retV Try.prog [.tmp 4,.tmp 5] R) (retV Try.prog [.tmp 4,.tmp 5] R) (fun _ _ _=>False) (fun v h=>R (.pan v) h) x0 x1 h):ACalls Try.prog 62 [x0,x1] h M R:=
 fin (n:=55) (pl:=[(4,⟨[(none,[(0,false),(1,false),(2,false),(3,false),(4,false),(5,false),(7,false),(8,true),(9,false),(10,false),(11,false),(12,true),(6,false),(13,false),(14,false),(15,false)])],true,[],[]⟩),(5,⟨[(none,(fr 0 3)),(some (2,false),(fr 3 2)),(none,(fr 5 1))],false,[],[]⟩),(8,⟨[(none,(fr 0 3)),(some (2,true),(fr 3 5)),(none,(fr 8 1))],false,[],[]⟩)]) (rs:=[.tmp 4,.tmp 5]) (L:=rs) (fun c=>(a2 n18 0 1 c)) Try.mixed Try.func62 (fun c=>
(sq (a2 n18 0 1 c)
(sq (a2 n17 1 2 c)
(sn
(sn
(sn
(sq (a5 n7 1 2 6 7 8 c)
(sn
(sl (a4 n1 1 2 6 9 c))
(sn
(cd (a5 n3 1 2 6 9 48 c) (sl (a0 n2 c)) tr)
(gr (gn (a6 n6 1 2 6 7 8 9 c) (gx (a7 n5 1 2 6 7 8 9 42 c) (gl (a6 n4 1 2 6 9 42 47 c))))))))
(sn
(cd (a6 n9 1 2 6 7 8 34 c) (sl (a0 n8 c)) tr)
(gr (gn (a5 n12 1 2 6 7 8 c) (gx (a6 n11 1 2 6 7 8 31 c) (gl (a7 n10 1 2 6 7 8 31 33 c)))))))
(sm (a3 n13 1 2 6 c)))
(sq (a3 n16 1 2 6 c)
(cd (a4 n15 1 2 6 14 c) (sl (a0 n14 c)) tr)))))) hp
attribute [simp] n1 n2 n3 n4 n5 n6 n7 n8 n9 n10 n11 n12 n13 n14 n15 n16 n17 n18
end F62
namespace F63
abbrev rs:List Nat:=[4,5]
def n1:N0:=fun _ R _ _ _ h=>
R [(.sc (.slice none 0 0)),(.sc (.bool false))] h
def n2:N4:=fun W R _ _ P x1 x2 x6 x7 h=>
lLd (some true) (some 1) x2 h fun t1 _=>
eBSl (some (1,3,[.int .i64 0,.int .i64 0,.int .i64 0])) 3 [(0,x1),(1,x6),(2,x7)] h fun t3 h4=>
aCall Try.prog W 75 [t1,(.sc (.string ⟨#[122]⟩)),t3] h4 (fun t5 h6=>
R [t5,(.sc (.bool true))] h6) P
def n3:N4:=fun W R _ _ P x1 x2 x6 x7 h=>
lLd (some true) (some 1) x2 h fun t7 _=>
eBSl (some (1,3,[.int .i64 0,.int .i64 0,.int .i64 0])) 3 [(0,x1),(1,x6),(2,x7)] h fun t9 h10=>
aCall Try.prog W 75 [t7,(.sc (.string ⟨#[120]⟩)),t9] h10 (fun t11 h12=>
R [t11,(.sc (.bool true))] h12) P
def n4:N5:=fun W R N E P x1 x2 x6 x7 x57 h=>
aIf x57 (
n3 W R N E P x1 x2 x6 x7 h) (
n1 W R N E P h)
def n5:N5:=fun W R N E P x1 x2 x6 x7 x48 h=>
pBin Try.prog .eql 9 true x48 (.sc (.string ⟨#[122]⟩)) fun t13=>
n4 W R N E P x1 x2 x6 x7 t13 h
def n6:N6:=fun W R N E P x1 x2 x6 x7 x48 x49 h=>
aIf x49 (
n2 W R N E P x1 x2 x6 x7 h) (
n5 W R N E P x1 x2 x6 x7 x48 h)
def n7:N5:=fun W R N E P x1 x2 x6 x7 x48 h=>
pBin Try.prog .eql 9 true x48 (.sc (.string ⟨#[120]⟩)) fun t14=>
n6 W R N E P x1 x2 x6 x7 x48 t14 h
def n8:N4:=fun W R N E P x1 x2 x6 x7 h=>
pFld (some 0) x2 fun t15=>
lLd (some false) (some 1) t15 h fun t16 _=>
pIxA (some (7,none)) t16 x6 fun t18=>
pFld (some 1) t18 fun t19=>
lLd (some false) (some 1) t19 h fun t20 _=>
n7 W R N E P x1 x2 x6 x7 t20 h
def n9:N0:=fun _ R _ _ _ h=>
R [(.sc (.slice none 0 0)),(.sc (.bool false))] h
def n10:N5:=fun W R N E P x1 x2 x6 x7 x42 h=>
aIf x42 (
n9 W R N E P h) (
n8 W R N E P x1 x2 x6 x7 h)
def n11:N6:=fun W R N E P x1 x2 x6 x7 x34 x41 h=>
pPick x34 (.sc (.bool true)) x41 fun t22=>
n10 W R N E P x1 x2 x6 x7 t22 h
def n12:N5:=fun W R N E P x1 x2 x6 x7 x34 h=>
aIg false x34 (
pFld (some 0) x2 fun t23=>
lLd (some false) (some 1) t23 h fun t24 _=>
pIxA (some (7,none)) t24 x7 fun t26=>
pFld (some 1) t26 fun t27=>
lLd (some false) (some 1) t27 h fun t28 _=>
pBin Try.prog .neq 9 true t28 (.sc (.string ⟨#[104]⟩)) fun t30=>
n11 W R N E P x1 x2 x6 x7 x34 t30 h) (
n11 W R N E P x1 x2 x6 x7 x34 noA h)
def n13:N4:=fun W R N E P x1 x2 x6 x7 h=>
pBin Try.prog .lss 3 true x7 (.sc (.int .i64 0)) fun t31=>
n12 W R N E P x1 x2 x6 x7 t31 h
def n14:N3:=fun W R N E P x1 x2 x6 h=>
lLd (some true) (some 1) x2 h fun t32 _=>
aCall Try.prog W 76 [t32,x6] h (fun t34 h35=>
n13 W R N E P x1 x2 x6 t34 h35) P
def n15:N0:=fun _ R _ _ _ h=>
R [(.sc (.slice none 0 0)),(.sc (.bool false))] h
def n16:N4:=fun W R N E P x1 x2 x6 x28 h=>
aIf x28 (
n15 W R N E P h) (
n14 W R N E P x1 x2 x6 h)
def n17:N3:=fun W R N E P x1 x2 x6 h=>
pBin Try.prog .lss 3 true x6 (.sc (.int .i64 0)) fun t36=>
n16 W R N E P x1 x2 x6 t36 h
def n18:N2:=fun W R N E P x1 x2 h=>
lLd (some true) (some 1) x2 h fun t37 _=>
aCall Try.prog W 76 [t37,x1] h (fun t39 h40=>
n17 W R N E P x1 x2 t39 h40) P
def n19:N0:=fun _ R _ _ _ h=>
R [(.sc (.slice none 0 0)),(.sc (.bool false))] h
def n20:N3:=fun W R N E P x1 x2 x23 h=>
aIf x23 (
n19 W R N E P h) (
n18 W R N E P x1 x2 h)
def n21:N4:=fun W R N E P x1 x2 x15 x22 h=>
pPick x15 (.sc (.bool true)) x22 fun t41=>
n20 W R N E P x1 x2 t41 h
def n22:N3:=fun W R N E P x1 x2 x15 h=>
aIg false x15 (
pFld (some 0) x2 fun t42=>
lLd (some false) (some 1) t42 h fun t43 _=>
pIxA (some (7,none)) t43 x1 fun t45=>
pFld (some 1) t45 fun t46=>
lLd (some false) (some 1) t46 h fun t47 _=>
pBin Try.prog .neq 9 true t47 (.sc (.string ⟨#[104]⟩)) fun t49=>
n21 W R N E P x1 x2 x15 t49 h) (
n21 W R N E P x1 x2 x15 noA h)
def n23:N2:=fun W R N E P x1 x2 h=>
pFld (some 0) x2 fun t50=>
lLd (some false) (some 1) t50 h fun t51 _=>
pIxA (some (7,none)) t51 x1 fun t53=>
pFld (some 0) t53 fun t54=>
lLd (some false) (some 1) t54 h fun t55 _=>
pBin Try.prog .neq 3 true t55 (.sc (.int .i64 1)) fun t57=>
n22 W R N E P x1 x2 t57 h
def n24:N2:=fun W R N E P x0 x1 h=>
eBox 1 55 x0 h fun t58 h59=>
n23 W R N E P x1 t58 h59
theorem callsN{x0 x1:AV}{h:AH}{M:WK}{R:RK}(hp:n24 (fun id=>M id\/h.next<=id) (retV Try.prog [.tmp 4,.tmp 5] R) (retV Try.prog [.tmp 4,.tmp 5] R) (fun _ _ _=>False) (fun v h=>R (.pan v) h) x0 x1 h):ACalls Try.prog 63 [x0,x1] h M R:=
 fin (n:=65) (pl:=[(1,⟨[(none,(fr 0 8)),(some (7,false),(fr 8 7)),(none,(fr 15 1))],false,[],[]⟩),(7,⟨[(none,(fr 0 3)),(some (2,false),(fr 3 7)),(none,(fr 10 1))],false,[],[]⟩)]) (rs:=[.tmp 4,.tmp 5]) (L:=rs) (fun c=>(a2 n24 0 1 c)) Try.mixed Try.func63 (fun c=>
(sq (a2 n24 0 1 c)
(sn
(sq (a2 n18 1 2 c)
(sn
(sq (a3 n14 1 2 6 c)
(sn
(sn
(sl (a0 n1 c))
(sq (a4 n8 1 2 6 7 c)
(bk 0 (sq (a5 n7 1 2 6 7 48 c)
(cd (a6 n6 1 2 6 7 48 49 c) (sl (a4 n2 1 2 6 7 c)) (sq (a5 n5 1 2 6 7 48 c)
(cd (a5 n4 1 2 6 7 57 c) (sl (a4 n3 1 2 6 7 c)) tr)))))))
(sn
(cd (a5 n10 1 2 6 7 42 c) (sl (a0 n9 c)) tr)
(gr (gn (a4 n13 1 2 6 7 c) (gx (a5 n12 1 2 6 7 34 c) (gl (a6 n11 1 2 6 7 34 41 c))))))))
(sq (a3 n17 1 2 6 c)
(cd (a4 n16 1 2 6 28 c) (sl (a0 n15 c)) tr))))
(sn
(cd (a3 n20 1 2 23 c) (sl (a0 n19 c)) tr)
(gr (gn (a2 n23 1 2 c) (gx (a3 n22 1 2 15 c) (gl (a4 n21 1 2 15 22 c))))))))) hp
attribute [simp] n1 n2 n3 n4 n5 n6 n7 n8 n9 n10 n11 n12 n13 n14 n15 n16 n17 n18 n19 n20 n21 n22 n23 n24
end F63
namespace F75
abbrev rs:List Nat:=[6]
def n1:N1:=fun _ R _ _ _ x7 h=>
R [x7] h
def n2:N6:=fun _ _ N _ _ x1 x2 x7 x11 x12 x13 h=>
pBin Try.prog .add 3 true x13 (.sc (.int .i64 1)) fun t1=>
N [x1,x2,x7,x11,x12,t1] h
def n3:N7:=fun W R N E P x1 x2 x7 x9 x11 x12 x13 h=>
lLd (some true) (some 7) x9 h fun t2 _=>
eBSl (some (7,45,[.int .i64 0,.string ⟨#[]⟩,.slice none 0 0,.int .i64 0,.bool false,.int .u64 0,.int .u64 0])) 1 [(0,t2)] h fun t4 h5=>
eApp (some (7,80,45)) x7 t4 h5 W fun t6 h7=>
n2 W R N E P x1 x2 t6 x11 x12 x13 h7
def n4:N8:=fun W R N E P x1 x2 x7 x9 x11 x12 x13 x30 h=>
aIf x30 (
n2 W R N E P x1 x2 x7 x11 x12 x13 h) (
n3 W R N E P x1 x2 x7 x9 x11 x12 x13 h)
def n5:N8:=fun W R N E P x1 x2 x7 x8 x9 x11 x12 x13 h=>
aCall Try.prog W 58 [x2,x8] h (fun t10 h11=>
n4 W R N E P x1 x2 x7 x9 x11 x12 x13 t10 h11) P
def n6:N9:=fun W R N E P x1 x2 x7 x8 x9 x11 x12 x13 x18 h=>
aIf x18 (
pFld (some 1) x9 fun t8=>
eStore (some 1) t8 x1 h W fun h9=>
n3 W R N E P x1 x2 x7 x9 x11 x12 x13 h9) (
n5 W R N E P x1 x2 x7 x8 x9 x11 x12 x13 h)
def n7:N10:=fun W R N E P x1 x2 x7 x8 x9 x11 x12 x13 x24 x26 h=>
pPick x24 x26 (.sc (.bool false)) fun t12=>
n6 W R N E P x1 x2 x7 x8 x9 x11 x12 x13 t12 h
def n8:N9:=fun W R N E P x1 x2 x7 x8 x9 x11 x12 x13 x24 h=>
aIg true x24 (
pBin Try.prog .neq 9 true x1 (.sc (.string ⟨#[]⟩)) fun t13=>
n7 W R N E P x1 x2 x7 x8 x9 x11 x12 x13 x24 t13 h) (
n7 W R N E P x1 x2 x7 x8 x9 x11 x12 x13 x24 noA h)
def n9:N8:=fun W R N E P x1 x2 x7 x8 x9 x11 x12 x13 h=>
pIxA (some (1,none)) x2 (.sc (.int .i64 0)) fun t14=>
lLd (some false) (some 1) t14 h fun t15 _=>
pBin Try.prog .eql 3 false x8 t15 fun t17=>
n8 W R N E P x1 x2 x7 x8 x9 x11 x12 x13 t17 h
def n10:N6:=fun W R N E P x1 x2 x7 x11 x12 x13 h=>
pIxA (some (7,none)) x11 x13 fun t18=>
lLd (some true) (some 7) t18 h fun t19 _=>
eAlloc (some [.int .i64 0,.string ⟨#[]⟩,.slice none 0 0,.int .i64 0,.bool false,.int .u64 0,.int .u64 0]) 7 45 h fun t21 h22=>
eStore (some 7) t21 t19 h22 W fun h23=>
n9 W R N E P x1 x2 x7 x13 t21 x11 x12 x13 h23
def n11:N7:=fun W R N E P x1 x2 x7 x11 x12 x13 x14 h=>
aIf x14 (
n10 W R N E P x1 x2 x7 x11 x12 x13 h) (
E 0 [x7] h)
def n12:N6:=fun W R N E P x1 x2 x7 x11 x12 x13 h=>
pBin Try.prog .lss 3 false x13 x12 fun t24=>
n11 W R N E P x1 x2 x7 x11 x12 x13 t24 h
def g1_:GK:=fun W R N E P N' vs h=>n12 W R N' (fun(i:Nat) (vs:List AV) (h:AH)=>if i=0 then n1 W R N E P (vs.getD 0 noA) h else E i vs h) P (vs.getD 0 noA) (vs.getD 1 noA) (vs.getD 2 noA) (vs.getD 3 noA) (vs.getD 4 noA) (vs.getD 5 noA) h
def n13:N6:=fun W R N E P x1 x2 x7 x11 x12 x13 h=>
vLoop (g1_ W R N E P) [x1,x2,x7,x11,x12,x13] h
def n14:N4:=fun W R N E P x1 x2 x3 x7 h=>
pFld (some 0) x3 fun t25=>
lLd (some false) (some 1) t25 h fun t26 _=>
(strArg t26=false)/\pLen t26 fun t28=>
n13 W R N E P x1 x2 x7 t26 t28 (.sc (.int .i64 0)) h
def n15:N3:=fun W R N E P x1 x2 x3 h=>
n14 W R N E P x1 x2 x3 (.sc (.slice none 0 0)) h
def n16:N3:=fun W R N E P x0 x1 x2 h=>
eBox 1 55 x0 h fun t29 h30=>
n15 W R N E P x1 x2 t29 h30
theorem callsN{x0 x1 x2:AV}{h:AH}{M:WK}{R:RK}(hp:n16 (fun id=>M id\/h.next<=id) (retV Try.prog [.tmp 6] R) (retV Try.prog [.tmp 6] R) (fun _ _ _=>False) (fun v h=>R (.pan v) h) x0 x1 x2 h):ACalls Try.prog 75 [x0,x1,x2] h M R:=
 fin (n:=40) (pl:=[(5,⟨[(none,(fr 0 6)),(some (5,true),(fr 6 2)),(none,(fr 8 2))],false,[],[]⟩)]) (rs:=[.tmp 6]) (L:=rs) (fun c=>(a3 n16 0 1 2 c)) Try.mixed Try.func75 (fun c=>
(sq (a3 n16 0 1 2 c)
(sq (a3 n15 1 2 3 c)
(sn
(sl (a1 n1 7 c))
(sq (a4 n14 1 2 3 7 c)
(bk 0 (lp [1,2,7,11,12,13] rs [(0,[7])] (a6 n13 1 2 7 11 12 13 c) g1_ (fun i vs h=>if i=0 then n1 c.W c.R c.N c.E c.P (vs.getD 0 noA) h else c.E i vs h) (.b (.t .o)) fun c=>
(sq (a6 n12 1 2 7 11 12 13 c)
(sn
(sn
(sm (a6 n2 1 2 7 11 12 13 c))
(bk 1 (sq (a6 n10 1 2 7 11 12 13 c)
(sn
(sm (a7 n3 1 2 7 9 11 12 13 c))
(bk 2 (sn
(cd (a9 n6 1 2 7 8 9 11 12 13 18 c) tr (sq (a8 n5 1 2 7 8 9 11 12 13 c)
(cd (a8 n4 1 2 7 9 11 12 13 30 c) tr tr)))
(gr (gn (a8 n9 1 2 7 8 9 11 12 13 c) (gx (a9 n8 1 2 7 8 9 11 12 13 24 c) (gl (a10 n7 1 2 7 8 9 11 12 13 24 26 c)))))))))))
(cd (a7 n11 1 2 7 11 12 13 14 c) tr tr)))))))))) hp
attribute [simp] n1 n2 n3 n4 n5 n6 n7 n8 n9 n10 n11 n12 n14 n15 n16
end F75
namespace F76
abbrev rs:List Nat:=[4]
def n1:N0:=fun _ R _ _ _ h=>
R [(.sc (.int .i64 (-1)))] h
def n2:N3:=fun _ _ N _ _ x2 x5 x6 h=>
pBin Try.prog .add 3 true x6 (.sc (.int .i64 1)) fun t1=>
N [x2,x5,t1] h
def n3:N0:=fun _ R _ _ _ h=>
R [(.sc (.int .i64 (-1)))] h
def n4:N1:=fun _ R _ _ _ x6 h=>
R [x6] h
def n5:N2:=fun W R N E P x6 x81 h=>
aIf x81 (
n4 W R N E P x6 h) (
n3 W R N E P h)
def n6:N3:=fun W R N E P x5 x6 x7 h=>
∃Hd:Nat->Nat,(∀i∈[29],h.obj (Hd i)≠none)/\(
pFld (some 0) x7 fun t2=>
lLd (some false) (some 1) t2 h fun t3 _=>
pBin Try.prog .eql 3 true t3 (.sc (.int .i64 1)) fun t5=>
aIg true t5 (
pFld (some 4) x5 fun t6=>
lLd (some false) (some 1) t6 h fun t7 _=>
pFld (some 4) x7 fun t9=>
lLd (some false) (some 1) t9 h fun t10 _=>
pBin Try.prog .eql 4 false t7 t10 fun t12=>
pPick t5 t12 (.sc (.bool false)) fun t13=>
aIg true t13 (
pFld (some 5) x5 fun t14=>
lLd (some false) (some 1) t14 h fun t15 _=>
pFld (some 5) x7 fun t17=>
lLd (some false) (some 1) t17 h fun t18 _=>
pBin Try.prog .eql 43 false t15 t18 fun t20=>
pPick t13 t20 (.sc (.bool false)) fun t21=>
aIg true t21 (
pFld (some 6) x5 fun t22=>
lLd (some false) (some 1) t22 h fun t23 _=>
pFld (some 6) x7 fun t25=>
lLd (some false) (some 1) t25 h fun t26 _=>
pBin Try.prog .eql 43 false t23 t26 fun t28=>
pPick t21 t28 (.sc (.bool false)) fun t29=>
aIg true t29 (
pFld (some 2) x5 fun t30=>
lLd (some false) (some 1) t30 h fun t31 _=>
pFld (some 2) x7 fun t33=>
lLd (some false) (some 1) t33 h fun t34 i35=>
(i35=Hd 29)/\(
aCall Try.prog (banL W Hd [29]) 87 [t31] h (fun t36 h37=>
aCall Try.prog W 87 [t34] h37 (fun t38 h39=>
aCall Try.prog W 86 [t36,t38] h39 (fun t40 h41=>
pPick t29 t40 (.sc (.bool false)) fun t42=>
n5 W R N E P x6 t42 h41) P) P) P)) (
pPick t29 noA (.sc (.bool false)) fun t43=>
n5 W R N E P x6 t43 h)) (
pPick t21 noA (.sc (.bool false)) fun t44=>
aIg true t44 (
pFld (some 2) x5 fun t45=>
lLd (some false) (some 1) t45 h fun t46 _=>
pFld (some 2) x7 fun t48=>
lLd (some false) (some 1) t48 h fun t49 i50=>
(i50=Hd 29)/\(
aCall Try.prog (banL W Hd [29]) 87 [t46] h (fun t51 h52=>
aCall Try.prog W 87 [t49] h52 (fun t53 h54=>
aCall Try.prog W 86 [t51,t53] h54 (fun t55 h56=>
pPick t44 t55 (.sc (.bool false)) fun t57=>
n5 W R N E P x6 t57 h56) P) P) P)) (
pPick t44 noA (.sc (.bool false)) fun t58=>
n5 W R N E P x6 t58 h))) (
pPick t13 noA (.sc (.bool false)) fun t59=>
aIg true t59 (
pFld (some 6) x5 fun t60=>
lLd (some false) (some 1) t60 h fun t61 _=>
pFld (some 6) x7 fun t63=>
lLd (some false) (some 1) t63 h fun t64 _=>
pBin Try.prog .eql 43 false t61 t64 fun t66=>
pPick t59 t66 (.sc (.bool false)) fun t67=>
aIg true t67 (
pFld (some 2) x5 fun t68=>
lLd (some false) (some 1) t68 h fun t69 _=>
pFld (some 2) x7 fun t71=>
lLd (some false) (some 1) t71 h fun t72 i73=>
(i73=Hd 29)/\(
aCall Try.prog (banL W Hd [29]) 87 [t69] h (fun t74 h75=>
aCall Try.prog W 87 [t72] h75 (fun t76 h77=>
aCall Try.prog W 86 [t74,t76] h77 (fun t78 h79=>
pPick t67 t78 (.sc (.bool false)) fun t80=>
n5 W R N E P x6 t80 h79) P) P) P)) (
pPick t67 noA (.sc (.bool false)) fun t81=>
n5 W R N E P x6 t81 h)) (
pPick t59 noA (.sc (.bool false)) fun t82=>
aIg true t82 (
pFld (some 2) x5 fun t83=>
lLd (some false) (some 1) t83 h fun t84 _=>
pFld (some 2) x7 fun t86=>
lLd (some false) (some 1) t86 h fun t87 i88=>
(i88=Hd 29)/\(
aCall Try.prog (banL W Hd [29]) 87 [t84] h (fun t89 h90=>
aCall Try.prog W 87 [t87] h90 (fun t91 h92=>
aCall Try.prog W 86 [t89,t91] h92 (fun t93 h94=>
pPick t82 t93 (.sc (.bool false)) fun t95=>
n5 W R N E P x6 t95 h94) P) P) P)) (
pPick t82 noA (.sc (.bool false)) fun t96=>
n5 W R N E P x6 t96 h)))) (
pPick t5 noA (.sc (.bool false)) fun t97=>
aIg true t97 (
pFld (some 5) x5 fun t98=>
lLd (some false) (some 1) t98 h fun t99 _=>
pFld (some 5) x7 fun t101=>
lLd (some false) (some 1) t101 h fun t102 _=>
pBin Try.prog .eql 43 false t99 t102 fun t104=>
pPick t97 t104 (.sc (.bool false)) fun t105=>
aIg true t105 (
pFld (some 6) x5 fun t106=>
lLd (some false) (some 1) t106 h fun t107 _=>
pFld (some 6) x7 fun t109=>
lLd (some false) (some 1) t109 h fun t110 _=>
pBin Try.prog .eql 43 false t107 t110 fun t112=>
pPick t105 t112 (.sc (.bool false)) fun t113=>
aIg true t113 (
pFld (some 2) x5 fun t114=>
lLd (some false) (some 1) t114 h fun t115 _=>
pFld (some 2) x7 fun t117=>
lLd (some false) (some 1) t117 h fun t118 i119=>
(i119=Hd 29)/\(
aCall Try.prog (banL W Hd [29]) 87 [t115] h (fun t120 h121=>
aCall Try.prog W 87 [t118] h121 (fun t122 h123=>
aCall Try.prog W 86 [t120,t122] h123 (fun t124 h125=>
pPick t113 t124 (.sc (.bool false)) fun t126=>
n5 W R N E P x6 t126 h125) P) P) P)) (
pPick t113 noA (.sc (.bool false)) fun t127=>
n5 W R N E P x6 t127 h)) (
pPick t105 noA (.sc (.bool false)) fun t128=>
aIg true t128 (
pFld (some 2) x5 fun t129=>
lLd (some false) (some 1) t129 h fun t130 _=>
pFld (some 2) x7 fun t132=>
lLd (some false) (some 1) t132 h fun t133 i134=>
(i134=Hd 29)/\(
aCall Try.prog (banL W Hd [29]) 87 [t130] h (fun t135 h136=>
aCall Try.prog W 87 [t133] h136 (fun t137 h138=>
aCall Try.prog W 86 [t135,t137] h138 (fun t139 h140=>
pPick t128 t139 (.sc (.bool false)) fun t141=>
n5 W R N E P x6 t141 h140) P) P) P)) (
pPick t128 noA (.sc (.bool false)) fun t142=>
n5 W R N E P x6 t142 h))) (
pPick t97 noA (.sc (.bool false)) fun t143=>
aIg true t143 (
pFld (some 6) x5 fun t144=>
lLd (some false) (some 1) t144 h fun t145 _=>
pFld (some 6) x7 fun t147=>
lLd (some false) (some 1) t147 h fun t148 _=>
pBin Try.prog .eql 43 false t145 t148 fun t150=>
pPick t143 t150 (.sc (.bool false)) fun t151=>
aIg true t151 (
pFld (some 2) x5 fun t152=>
lLd (some false) (some 1) t152 h fun t153 _=>
pFld (some 2) x7 fun t155=>
lLd (some false) (some 1) t155 h fun t156 i157=>
(i157=Hd 29)/\(
aCall Try.prog (banL W Hd [29]) 87 [t153] h (fun t158 h159=>
aCall Try.prog W 87 [t156] h159 (fun t160 h161=>
aCall Try.prog W 86 [t158,t160] h161 (fun t162 h163=>
pPick t151 t162 (.sc (.bool false)) fun t164=>
n5 W R N E P x6 t164 h163) P) P) P)) (
pPick t151 noA (.sc (.bool false)) fun t165=>
n5 W R N E P x6 t165 h)) (
pPick t143 noA (.sc (.bool false)) fun t166=>
aIg true t166 (
pFld (some 2) x5 fun t167=>
lLd (some false) (some 1) t167 h fun t168 _=>
pFld (some 2) x7 fun t170=>
lLd (some false) (some 1) t170 h fun t171 i172=>
(i172=Hd 29)/\(
aCall Try.prog (banL W Hd [29]) 87 [t168] h (fun t173 h174=>
aCall Try.prog W 87 [t171] h174 (fun t175 h176=>
aCall Try.prog W 86 [t173,t175] h176 (fun t177 h178=>
pPick t166 t177 (.sc (.bool false)) fun t179=>
n5 W R N E P x6 t179 h178) P) P) P)) (
pPick t166 noA (.sc (.bool false)) fun t180=>
n5 W R N E P x6 t180 h)))))
def n7:N3:=fun W R N E P x2 x5 x6 h=>
n2 W R N E P x2 x5 x6 h
def n8:N0:=fun _ R _ _ _ h=>
R [(.sc (.int .i64 (-1)))] h
def n9:N4:=fun W R N E P x2 x5 x6 x48 h=>
aIf x48 (
n8 W R N E P h) (
n7 W R N E P x2 x5 x6 h)
def n10:N5:=fun W R N E P x2 x5 x6 x40 x47 h=>
pPick x40 x47 (.sc (.bool false)) fun t181=>
n9 W R N E P x2 x5 x6 t181 h
def n11:N5:=fun W R N E P x2 x5 x6 x7 x40 h=>
aIg true x40 (
pFld (some 5) x5 fun t182=>
lLd (some false) (some 1) t182 h fun t183 _=>
pFld (some 3) x7 fun t185=>
lLd (some false) (some 1) t185 h fun t186 _=>
pBin Try.prog .shr 43 false t183 t186 fun t188=>
pBin Try.prog .and 43 true t188 (.sc (.int .u64 1)) fun t189=>
pBin Try.prog .eql 43 true t189 (.sc (.int .u64 1)) fun t190=>
n10 W R N E P x2 x5 x6 x40 t190 h) (
n10 W R N E P x2 x5 x6 x40 noA h)
def n12:N4:=fun W R N E P x2 x5 x6 x7 h=>
pFld (some 0) x7 fun t191=>
lLd (some false) (some 1) t191 h fun t192 _=>
pBin Try.prog .eql 3 true t192 (.sc (.int .i64 2)) fun t194=>
n11 W R N E P x2 x5 x6 x7 t194 h
def n13:N5:=fun W R N E P x2 x5 x6 x7 x36 h=>
aIf x36 (
n12 W R N E P x2 x5 x6 x7 h) (
n6 W R N E P x5 x6 x7 h)
def n14:N5:=fun W R N E P x2 x5 x6 x7 x8 h=>
pUn .not x8 fun t195=>
n13 W R N E P x2 x5 x6 x7 t195 h
def n15:N4:=fun W R N E P x2 x5 x6 x7 h=>
pFld (some 2) x7 fun t196=>
lLd (some false) (some 1) t196 h fun t197 _=>
aCall Try.prog W 84 [t197,(.fn (.func 85) [] [x5])] h (fun t199 h200=>
n14 W R N E P x2 x5 x6 x7 t199 h200) P
def n16:N3:=fun W R N E P x2 x5 x6 h=>
pFld (some 0) x2 fun t201=>
lLd (some false) (some 1) t201 h fun t202 _=>
pIxA (some (7,none)) t202 x6 fun t204=>
lLd (some true) (some 7) t204 h fun t205 _=>
eAlloc (some [.int .i64 0,.string ⟨#[]⟩,.slice none 0 0,.int .i64 0,.bool false,.int .u64 0,.int .u64 0]) 7 45 h fun t207 h208=>
eStore (some 7) t207 t205 h208 W fun h209=>
n15 W R N E P x2 x5 x6 t207 h209
def n17:N4:=fun W R N E P x2 x5 x6 x23 h=>
aIf x23 (
n16 W R N E P x2 x5 x6 h) (
E 0 [] h)
def n18:N3:=fun W R N E P x2 x5 x6 h=>
pFld (some 0) x2 fun t210=>
lLd (some false) (some 1) t210 h fun t211 _=>
(strArg t211=false)/\pLen t211 fun t213=>
pBin Try.prog .lss 3 false x6 t213 fun t214=>
n17 W R N E P x2 x5 x6 t214 h
def g1_:GK:=fun W R N E P N' vs h=>n18 W R N' (fun(i:Nat) (vs:List AV) (h:AH)=>if i=0 then n1 W R N E P h else E i vs h) P (vs.getD 0 noA) (vs.getD 1 noA) (vs.getD 2 noA) h
def n19:N3:=fun W R N E P x2 x5 x6 h=>
vLoop (g1_ W R N E P) [x2,x5,x6] h
def n20:N3:=fun W R N E P x1 x2 x5 h=>
pBin Try.prog .add 3 true x1 (.sc (.int .i64 1)) fun t215=>
n19 W R N E P x2 x5 t215 h
def n21:N0:=fun _ R _ _ _ h=>
R [(.sc (.int .i64 (-1)))] h
def n22:N4:=fun W R N E P x1 x2 x5 x16 h=>
aIf x16 (
n21 W R N E P h) (
n20 W R N E P x1 x2 x5 h)
def n23:N3:=fun W R N E P x1 x2 x5 h=>
pFld (some 0) x5 fun t216=>
lLd (some false) (some 1) t216 h fun t217 _=>
pBin Try.prog .neq 3 true t217 (.sc (.int .i64 1)) fun t219=>
n22 W R N E P x1 x2 x5 t219 h
def n24:N2:=fun W R N E P x1 x2 h=>
pFld (some 0) x2 fun t220=>
lLd (some false) (some 1) t220 h fun t221 _=>
pIxA (some (7,none)) t221 x1 fun t223=>
lLd (some true) (some 7) t223 h fun t224 _=>
eAlloc (some [.int .i64 0,.string ⟨#[]⟩,.slice none 0 0,.int .i64 0,.bool false,.int .u64 0,.int .u64 0]) 7 45 h fun t226 h227=>
eStore (some 7) t226 t224 h227 W fun h228=>
n23 W R N E P x1 x2 t226 h228
def n25:N2:=fun W R N E P x0 x1 h=>
eBox 1 55 x0 h fun t229 h230=>
n24 W R N E P x1 t229 h230
theorem callsN{x0 x1:AV}{h:AH}{M:WK}{R:RK}(hp:n25 (fun id=>M id\/h.next<=id) (retV Try.prog [.tmp 4] R) (retV Try.prog [.tmp 4] R) (fun _ _ _=>False) (fun v h=>R (.pan v) h) x0 x1 h):ACalls Try.prog 76 [x0,x1] h M R:=
 fin (n:=83) (pl:=[(10,⟨[(none,(fr 0 4)),(some (3,true),(fr 4 7)),(none,(fr 11 1))],false,[],[]⟩),(12,⟨[(none,(fr 0 4)),(some (3,true),(fr 4 5)),(none,(fr 9 2)),(some (10,true),(fr 11 5)),(none,(fr 16 2)),(some (17,true),(fr 18 5)),(none,(fr 23 2)),(some (24,true),[(25,false),(26,false),(28,false),(29,true),(27,false),(30,false),(31,false)]),(none,(fr 32 1))],true,[],[]⟩)]) (rs:=[.tmp 4]) (L:=rs) (fun c=>(a2 n25 0 1 c)) Try.mixed Try.func76 (fun c=>
(sq (a2 n25 0 1 c)
(sq (a2 n24 1 2 c)
(sn
(sn
(sl (a0 n1 c))
(sq (a3 n20 1 2 5 c)
(bk 0 (lp [2,5,6] rs [(0,[])] (a3 n19 2 5 6 c) g1_ (fun i vs h=>if i=0 then n1 c.W c.R c.N c.E c.P h else c.E i vs h) (.b (.t .o)) fun c=>
(sn
(sn
(sm (a3 n2 2 5 6 c))
(bk 1 (sq (a3 n16 2 5 6 c)
(sq (a4 n15 2 5 6 7 c)
(sn
(sn
(sl (a0 n3 c))
(sn
(cd (a2 n5 6 81 c) (sl (a1 n4 6 c)) tr)
(sm (a3 n6 5 6 7 c))))
(sq (a5 n14 2 5 6 7 8 c)
(cd (a5 n13 2 5 6 7 36 c) (sn
(sm (a3 n7 2 5 6 c))
(sn
(cd (a4 n9 2 5 6 48 c) (sl (a0 n8 c)) tr)
(gr (gn (a4 n12 2 5 6 7 c) (gx (a5 n11 2 5 6 7 40 c) (gl (a5 n10 2 5 6 40 47 c))))))) tr)))))))
(sq (a3 n18 2 5 6 c)
(cd (a4 n17 2 5 6 23 c) tr tr)))))))
(sq (a3 n23 1 2 5 c)
(cd (a4 n22 1 2 5 16 c) (sl (a0 n21 c)) tr)))))) hp
attribute [simp] n1 n2 n3 n4 n5 n6 n7 n8 n9 n10 n11 n12 n13 n14 n15 n16 n17 n18 n20 n21 n22 n23 n24 n25
end F76
namespace F85
abbrev rs:List Nat:=[3]
def n1:N2:=fun W R _ _ P x0 x1 h=>
pFld (some 2) x1 fun t1=>
lLd (some false) (some 1) t1 h fun t2 _=>
aCall Try.prog W 58 [t2,x0] h (fun t4 h5=>
R [t4] h5) P
def n2:N2:=fun W R N E P x0 x1 h=>
n1 W R N E P x0 x1 h
theorem callsN{x0 x1:AV}{h:AH}{M:WK}{R:RK}(hp:n2 (fun id=>M id\/h.next<=id) (retV Try.prog [.tmp 3] R) (retV Try.prog [.tmp 3] R) (fun _ _ _=>False) (fun v h=>R (.pan v) h) x0 x1 h):ACalls Try.prog 85 [x0,x1] h M R:=
 fin (n:=8) (pl:=[]) (rs:=[.tmp 3]) (L:=rs) (fun c=>(a2 n2 0 1 c)) Try.mixed Try.func85 (fun c=>
(sq (a2 n2 0 1 c)
(sl (a2 n1 0 1 c)))) hp
attribute [simp] n1 n2
end F85
namespace F77
abbrev rs:List Nat:=[6]
def n1:N2:=fun W R _ _ P x1 x2 h=>
aCall Try.prog W 86 [x1,x2] h (fun t1 h2=>
R [t1] h2) P
def n2:N0:=fun _ R _ _ _ h=>
R [(.sc (.bool true))] h
def n3:N2:=fun _ R _ _ _ x1 x2 h=>
pIxA (some (1,none)) x1 (.sc (.int .i64 2)) fun t3=>
lLd (some false) (some 1) t3 h fun t4 _=>
pIxA (some (1,none)) x2 (.sc (.int .i64 2)) fun t6=>
lLd (some false) (some 1) t6 h fun t7 _=>
pBin Try.prog .eql 3 false t4 t7 fun t9=>
R [t9] h
def n4:N2:=fun _ R _ _ _ x1 x2 h=>
pIxA (some (1,none)) x1 (.sc (.int .i64 0)) fun t10=>
lLd (some false) (some 1) t10 h fun t11 _=>
pIxA (some (1,none)) x2 (.sc (.int .i64 0)) fun t13=>
lLd (some false) (some 1) t13 h fun t14 _=>
pBin Try.prog .eql 3 false t11 t14 fun t16=>
R [t16] h
def n5:N3:=fun W R N E P x1 x2 x25 h=>
aIf x25 (
n4 W R N E P x1 x2 h) (
n1 W R N E P x1 x2 h)
def n6:N3:=fun W R N E P x1 x2 x7 h=>
pBin Try.prog .eql 9 true x7 (.sc (.string ⟨#[99,115,119,97,112]⟩)) fun t17=>
n5 W R N E P x1 x2 t17 h
def n7:N4:=fun W R N E P x1 x2 x7 x16 h=>
aIf x16 (
n3 W R N E P x1 x2 h) (
n6 W R N E P x1 x2 x7 h)
def n8:N3:=fun W R N E P x1 x2 x7 h=>
pBin Try.prog .eql 9 true x7 (.sc (.string ⟨#[99,99,120]⟩)) fun t18=>
n7 W R N E P x1 x2 x7 t18 h
def n9:N4:=fun W R N E P x1 x2 x7 x8 h=>
aIf x8 (
n2 W R N E P h) (
n8 W R N E P x1 x2 x7 h)
def n10:N4:=fun W R N E P x1 x2 x7 x8 h=>
aIf x8 (
n9 W R N E P x1 x2 x7 x8 h) (
pBin Try.prog .eql 9 true x7 (.sc (.string ⟨#[99,99,122]⟩)) fun t19=>
n9 W R N E P x1 x2 x7 t19 h)
def n11:N3:=fun W R N E P x1 x2 x7 h=>
pBin Try.prog .eql 9 true x7 (.sc (.string ⟨#[105,115,119,97,112,100,103]⟩)) fun t20=>
n10 W R N E P x1 x2 x7 t20 h
def n12:N4:=fun W R N E P x1 x2 x7 x8 h=>
aIf x8 (
n9 W R N E P x1 x2 x7 x8 h) (
n11 W R N E P x1 x2 x7 h)
def n13:N3:=fun W R N E P x1 x2 x7 h=>
pBin Try.prog .eql 9 true x7 (.sc (.string ⟨#[105,115,119,97,112]⟩)) fun t21=>
n12 W R N E P x1 x2 x7 t21 h
def n14:N4:=fun W R N E P x1 x2 x7 x8 h=>
aIf x8 (
n9 W R N E P x1 x2 x7 x8 h) (
n13 W R N E P x1 x2 x7 h)
def n15:N3:=fun W R N E P x1 x2 x7 h=>
pBin Try.prog .eql 9 true x7 (.sc (.string ⟨#[115,119,97,112]⟩)) fun t22=>
n14 W R N E P x1 x2 x7 t22 h
def n16:N4:=fun W R N E P x1 x2 x7 x8 h=>
aIf x8 (
n9 W R N E P x1 x2 x7 x8 h) (
n15 W R N E P x1 x2 x7 h)
def n17:N3:=fun W R N E P x1 x2 x7 h=>
pBin Try.prog .eql 9 true x7 (.sc (.string ⟨#[99,115,100,103]⟩)) fun t23=>
n16 W R N E P x1 x2 x7 t23 h
def n18:N4:=fun W R N E P x1 x2 x7 x8 h=>
aIf x8 (
n9 W R N E P x1 x2 x7 x8 h) (
n17 W R N E P x1 x2 x7 h)
def n19:N3:=fun W R N E P x1 x2 x7 h=>
pBin Try.prog .eql 9 true x7 (.sc (.string ⟨#[99,115]⟩)) fun t24=>
n18 W R N E P x1 x2 x7 t24 h
def n20:N4:=fun W R N E P x1 x2 x7 x8 h=>
aIf x8 (
n9 W R N E P x1 x2 x7 x8 h) (
n19 W R N E P x1 x2 x7 h)
def n21:N3:=fun W R N E P x1 x2 x7 h=>
pBin Try.prog .eql 9 true x7 (.sc (.string ⟨#[99,122]⟩)) fun t25=>
n20 W R N E P x1 x2 x7 t25 h
def n22:N3:=fun W R N E P x0 x1 x2 h=>
n21 W R N E P x1 x2 x0 h
def n23:N3:=fun W R N E P x0 x1 x2 h=>
n22 W R N E P x0 x1 x2 h
theorem callsN{x0 x1 x2:AV}{h:AH}{M:WK}{R:RK}(hp:n23 (fun id=>M id\/h.next<=id) (retV Try.prog [.tmp 6] R) (retV Try.prog [.tmp 6] R) (fun _ _ _=>False) (fun v h=>R (.pan v) h) x0 x1 x2 h):ACalls Try.prog 77 [x0,x1,x2] h M R:=
 fin (n:=37) (pl:=[(11,⟨[(none,(fr 0 8))],false,[],[]⟩),(13,⟨[(none,(fr 0 8))],false,[],[]⟩)]) (rs:=[.tmp 6]) (L:=rs) (fun c=>(a3 n23 0 1 2 c)) Try.mixed Try.func77 (fun c=>
(sq (a3 n23 0 1 2 c)
(sn
(sl (a2 n1 1 2 c))
(sq (a3 n22 0 1 2 c)
(bk 0 (sn
(cd (a4 n9 1 2 7 8 c) (sl (a0 n2 c)) (sq (a3 n8 1 2 7 c)
(cd (a4 n7 1 2 7 16 c) (sl (a2 n3 1 2 c)) (sq (a3 n6 1 2 7 c)
(cd (a3 n5 1 2 25 c) (sl (a2 n4 1 2 c)) tr)))))
(sq (a3 n21 1 2 7 c)
(cd (a4 n20 1 2 7 8 c) tr (sq (a3 n19 1 2 7 c)
(cd (a4 n18 1 2 7 8 c) tr (sq (a3 n17 1 2 7 c)
(cd (a4 n16 1 2 7 8 c) tr (sq (a3 n15 1 2 7 c)
(cd (a4 n14 1 2 7 8 c) tr (sq (a3 n13 1 2 7 c)
(cd (a4 n12 1 2 7 8 c) tr (sq (a3 n11 1 2 7 c)
(cd (a4 n10 1 2 7 8 c) tr tr)))))))))))))))))) hp
attribute [simp] n1 n2 n3 n4 n5 n6 n7 n8 n9 n10 n11 n12 n13 n14 n15 n16 n17 n18 n19 n20 n21 n22 n23
end F77
namespace F78
abbrev rs:List Nat:=[2]
def n1:N0:=fun _ R _ _ _ h=>
R [(.sc (.int .i64 0))] h
def n2:N0:=fun _ R _ _ _ h=>
R [(.sc (.int .i64 1))] h
def n3:N0:=fun _ R _ _ _ h=>
R [(.sc (.int .i64 2))] h
def n4:N0:=fun _ R _ _ _ h=>
R [(.sc (.int .i64 4))] h
def n5:N0:=fun _ R _ _ _ h=>
R [(.sc (.int .i64 6))] h
def n6:N0:=fun _ R _ _ _ h=>
R [(.sc (.int .i64 7))] h
def n7:N1:=fun W R N E P x12 h=>
aIf x12 (
n6 W R N E P h) (
n1 W R N E P h)
def n8:N1:=fun W R N E P x3 h=>
pBin Try.prog .eql 9 true x3 (.sc (.string ⟨#[116,100,103]⟩)) fun t1=>
n7 W R N E P t1 h
def n9:N2:=fun W R N E P x3 x10 h=>
aIf x10 (
n5 W R N E P h) (
n8 W R N E P x3 h)
def n10:N1:=fun W R N E P x3 h=>
pBin Try.prog .eql 9 true x3 (.sc (.string ⟨#[115,100,103]⟩)) fun t2=>
n9 W R N E P x3 t2 h
def n11:N2:=fun W R N E P x3 x8 h=>
aIf x8 (
n4 W R N E P h) (
n10 W R N E P x3 h)
def n12:N1:=fun W R N E P x3 h=>
pBin Try.prog .eql 9 true x3 (.sc (.string ⟨#[122]⟩)) fun t3=>
n11 W R N E P x3 t3 h
def n13:N2:=fun W R N E P x3 x6 h=>
aIf x6 (
n3 W R N E P h) (
n12 W R N E P x3 h)
def n14:N1:=fun W R N E P x3 h=>
pBin Try.prog .eql 9 true x3 (.sc (.string ⟨#[115]⟩)) fun t4=>
n13 W R N E P x3 t4 h
def n15:N2:=fun W R N E P x3 x4 h=>
aIf x4 (
n2 W R N E P h) (
n14 W R N E P x3 h)
def n16:N1:=fun W R N E P x3 h=>
pBin Try.prog .eql 9 true x3 (.sc (.string ⟨#[116]⟩)) fun t5=>
n15 W R N E P x3 t5 h
def n17:N1:=fun W R N E P x0 h=>
n16 W R N E P x0 h
def n18:N1:=fun W R N E P x0 h=>
n17 W R N E P x0 h
theorem callsN{x0:AV}{h:AH}{M:WK}{R:RK}(hp:n18 (fun id=>M id\/h.next<=id) (retV Try.prog [.tmp 2] R) (retV Try.prog [.tmp 2] R) (fun _ _ _=>False) (fun v h=>R (.pan v) h) x0 h):ACalls Try.prog 78 [x0] h M R:=
 fin (n:=14) (pl:=[]) (rs:=[.tmp 2]) (L:=rs) (fun c=>(a1 n18 0 c)) Try.mixed Try.func78 (fun c=>
(sq (a1 n18 0 c)
(sn
(sl (a0 n1 c))
(sq (a1 n17 0 c)
(bk 0 (sq (a1 n16 3 c)
(cd (a2 n15 3 4 c) (sl (a0 n2 c)) (sq (a1 n14 3 c)
(cd (a2 n13 3 6 c) (sl (a0 n3 c)) (sq (a1 n12 3 c)
(cd (a2 n11 3 8 c) (sl (a0 n4 c)) (sq (a1 n10 3 c)
(cd (a2 n9 3 10 c) (sl (a0 n5 c)) (sq (a1 n8 3 c)
(cd (a1 n7 12 c) (sl (a0 n6 c)) tr))))))))))))))) hp
attribute [simp] n1 n2 n3 n4 n5 n6 n7 n8 n9 n10 n11 n12 n13 n14 n15 n16 n17 n18
end F78
namespace F43
abbrev rs:List Nat:=[2]
def n1:N1:=fun W R _ _ _ x0 h=>
eBSl (some (7,45,[])) 0 [] h fun t1 h2=>
eApp (some (7,80,45)) t1 x0 h2 W fun t3 h4=>
R [t3] h4
def n2:N0:=fun _ R _ _ _ h=>
R [(.sc (.slice none 0 0))] h
def n3:N2:=fun W R N E P x0 x4 h=>
aIf x4 (
n2 W R N E P h) (
n1 W R N E P x0 h)
def n4:N1:=fun W R N E P x0 h=>
pBin Try.prog .eql 22 true x0 (.sc (.slice none 0 0)) fun t5=>
n3 W R N E P x0 t5 h
def n5:N1:=fun W R N E P x0 h=>
n4 W R N E P x0 h
theorem callsN{x0:AV}{h:AH}{M:WK}{R:RK}(hp:n5 (fun id=>M id\/h.next<=id) (retV Try.prog [.tmp 2] R) (retV Try.prog [.tmp 2] R) (fun _ _ _=>False) (fun v h=>R (.pan v) h) x0 h):ACalls Try.prog 43 [x0] h M R:=
 fin (n:=8) (pl:=[]) (rs:=[.tmp 2]) (L:=rs) (fun c=>(a1 n5 0 c)) Try.mixed Try.func43 (fun c=>
(sq (a1 n5 0 c)
(sn
(sl (a1 n1 0 c))
(sq (a1 n4 0 c)
(cd (a2 n3 0 4 c) (sl (a0 n2 c)) tr))))) hp
attribute [simp] n1 n2 n3 n4 n5
end F43
namespace F44
abbrev rs:List Nat:=[2]
def n1:N1:=fun W R _ _ _ x0 h=>
eBSl (some (1,3,[])) 0 [] h fun t1 h2=>
eApp (some (1,8,3)) t1 x0 h2 W fun t3 h4=>
R [t3] h4
def n2:N0:=fun _ R _ _ _ h=>
R [(.sc (.slice none 0 0))] h
def n3:N2:=fun W R N E P x0 x4 h=>
aIf x4 (
n2 W R N E P h) (
n1 W R N E P x0 h)
def n4:N1:=fun W R N E P x0 h=>
pBin Try.prog .eql 42 true x0 (.sc (.slice none 0 0)) fun t5=>
n3 W R N E P x0 t5 h
def n5:N1:=fun W R N E P x0 h=>
n4 W R N E P x0 h
theorem callsN{x0:AV}{h:AH}{M:WK}{R:RK}(hp:n5 (fun id=>M id\/h.next<=id) (retV Try.prog [.tmp 2] R) (retV Try.prog [.tmp 2] R) (fun _ _ _=>False) (fun v h=>R (.pan v) h) x0 h):ACalls Try.prog 44 [x0] h M R:=
 fin (n:=8) (pl:=[]) (rs:=[.tmp 2]) (L:=rs) (fun c=>(a1 n5 0 c)) Try.mixed Try.func44 (fun c=>
(sq (a1 n5 0 c)
(sn
(sl (a1 n1 0 c))
(sq (a1 n4 0 c)
(cd (a2 n3 0 4 c) (sl (a0 n2 c)) tr))))) hp
attribute [simp] n1 n2 n3 n4 n5
end F44
namespace F84
abbrev rs:List Nat:=[4]
def n1:N2:=fun W R _ _ P x0 x1 h=>
aCall Try.prog W 88 [x0,x1] h (fun t1 h2=>
pBin Try.prog .geq 3 true t1 (.sc (.int .i64 0)) fun t3=>
R [t3] h2) P
def n2:N2:=fun W R N E P x0 x1 h=>
n1 W R N E P x0 x1 h
theorem callsN{x0 x1:AV}{h:AH}{M:WK}{R:RK}(hp:n2 (fun id=>M id\/h.next<=id) (retV Try.prog [.tmp 4] R) (retV Try.prog [.tmp 4] R) (fun _ _ _=>False) (fun v h=>R (.pan v) h) x0 x1 h):ACalls Try.prog 84 [x0,x1] h M R:=
 fin (n:=9) (pl:=[]) (rs:=[.tmp 4]) (L:=rs) (fun c=>(a2 n2 0 1 c)) Try.mixed Try.func84 (fun c=>
(sq (a2 n2 0 1 c)
(sl (a2 n1 0 1 c)))) hp
attribute [simp] n1 n2
end F84
namespace F88
abbrev rs:List Nat:=[4]
def n1:N0:=fun _ R _ _ _ h=>
R [(.sc (.int .i64 (-1)))] h
def n2:N4:=fun _ _ N _ _ x0 x1 x7 x8 h=>
pBin Try.prog .add 3 true x8 (.sc (.int .i64 1)) fun t1=>
N [x0,x1,x7,t1] h
def n3:N1:=fun _ R _ _ _ x5 h=>
R [x5] h
def n4:N6:=fun W R N E P x0 x1 x5 x7 x8 x16 h=>
aIf x16 (
n3 W R N E P x5 h) (
n2 W R N E P x0 x1 x7 x8 h)
def n5:N5:=fun W R N E P x0 x1 x5 x7 x8 h=>
pIxA (some (1,none)) x0 x5 fun t2=>
lLd (some false) (some 1) t2 h fun t3 _=>
aGo Try.prog W x1 [t3] h (fun t5 h6=>
n4 W R N E P x0 x1 x5 x7 x8 t5 h6) P
def n6:N4:=fun W R N E P x0 x1 x7 x8 h=>
n5 W R N E P x0 x1 x8 x7 x8 h
def n7:N5:=fun W R N E P x0 x1 x7 x8 x9 h=>
aIf x9 (
n6 W R N E P x0 x1 x7 x8 h) (
E 0 [] h)
def n8:N4:=fun W R N E P x0 x1 x7 x8 h=>
pBin Try.prog .lss 3 false x8 x7 fun t7=>
n7 W R N E P x0 x1 x7 x8 t7 h
def g1_:GK:=fun W R N E P N' vs h=>n8 W R N' (fun(i:Nat) (vs:List AV) (h:AH)=>if i=0 then n1 W R N E P h else E i vs h) P (vs.getD 0 noA) (vs.getD 1 noA) (vs.getD 2 noA) (vs.getD 3 noA) h
def n9:N4:=fun W R N E P x0 x1 x7 x8 h=>
vLoop (g1_ W R N E P) [x0,x1,x7,x8] h
def n10:N2:=fun W R N E P x0 x1 h=>
(strArg x0=false)/\pLen x0 fun t8=>
n9 W R N E P x0 x1 t8 (.sc (.int .i64 0)) h
def n11:N2:=fun W R N E P x0 x1 h=>
n10 W R N E P x0 x1 h
theorem callsN{x0 x1:AV}{h:AH}{M:WK}{R:RK}(hp:n11 (fun id=>M id\/h.next<=id) (retV Try.prog [.tmp 4] R) (retV Try.prog [.tmp 4] R) (fun _ _ _=>False) (fun v h=>R (.pan v) h) x0 x1 h):ACalls Try.prog 88 [x0,x1] h M R:=
 fin (n:=19) (pl:=[]) (rs:=[.tmp 4]) (L:=rs) (fun c=>(a2 n11 0 1 c)) Try.mixed Try.func88 (fun c=>
(sq (a2 n11 0 1 c)
(sn
(sl (a0 n1 c))
(sq (a2 n10 0 1 c)
(bk 0 (lp [0,1,7,8] rs [(0,[])] (a4 n9 0 1 7 8 c) g1_ (fun i vs h=>if i=0 then n1 c.W c.R c.N c.E c.P h else c.E i vs h) (.b (.t .o)) fun c=>
(sq (a4 n8 0 1 7 8 c)
(sn
(sn
(sm (a4 n2 0 1 7 8 c))
(bk 1 (sq (a4 n6 0 1 7 8 c)
(sq (a5 n5 0 1 5 7 8 c)
(cd (a6 n4 0 1 5 7 8 16 c) (sl (a1 n3 5 c)) tr)))))
(cd (a5 n7 0 1 7 8 9 c) tr tr))))))))) hp
attribute [simp] n1 n2 n3 n4 n5 n6 n7 n8 n10 n11
end F88
namespace F86
abbrev rs:List Nat:=[4]
def n1:N0:=fun _ R _ _ _ h=>
R [(.sc (.bool true))] h
def n2:N4:=fun _ _ N _ _ x0 x1 x12 x13 h=>
pBin Try.prog .add 3 true x13 (.sc (.int .i64 1)) fun t1=>
N [x0,x1,x12,t1] h
def n3:N0:=fun _ R _ _ _ h=>
R [(.sc (.bool false))] h
def n4:N5:=fun W R N E P x0 x1 x12 x13 x24 h=>
aIf x24 (
n3 W R N E P h) (
n2 W R N E P x0 x1 x12 x13 h)
def n5:N5:=fun W R N E P x0 x1 x5 x12 x13 h=>
pIxA (some (1,none)) x0 x5 fun t2=>
lLd (some false) (some 1) t2 h fun t3 _=>
pIxA (some (1,none)) x1 x5 fun t5=>
lLd (some false) (some 1) t5 h fun t6 _=>
pBin Try.prog .neq 3 false t3 t6 fun t8=>
n4 W R N E P x0 x1 x12 x13 t8 h
def n6:N4:=fun W R N E P x0 x1 x12 x13 h=>
n5 W R N E P x0 x1 x13 x12 x13 h
def n7:N5:=fun W R N E P x0 x1 x12 x13 x14 h=>
aIf x14 (
n6 W R N E P x0 x1 x12 x13 h) (
E 0 [] h)
def n8:N4:=fun W R N E P x0 x1 x12 x13 h=>
pBin Try.prog .lss 3 false x13 x12 fun t9=>
n7 W R N E P x0 x1 x12 x13 t9 h
def g1_:GK:=fun W R N E P N' vs h=>n8 W R N' (fun(i:Nat) (vs:List AV) (h:AH)=>if i=0 then n1 W R N E P h else E i vs h) P (vs.getD 0 noA) (vs.getD 1 noA) (vs.getD 2 noA) (vs.getD 3 noA) h
def n9:N4:=fun W R N E P x0 x1 x12 x13 h=>
vLoop (g1_ W R N E P) [x0,x1,x12,x13] h
def n10:N2:=fun W R N E P x0 x1 h=>
(strArg x0=false)/\pLen x0 fun t10=>
n9 W R N E P x0 x1 t10 (.sc (.int .i64 0)) h
def n11:N0:=fun _ R _ _ _ h=>
R [(.sc (.bool false))] h
def n12:N3:=fun W R N E P x0 x1 x10 h=>
aIf x10 (
n11 W R N E P h) (
n10 W R N E P x0 x1 h)
def n13:N2:=fun W R N E P x0 x1 h=>
(strArg x0=false)/\pLen x0 fun t11=>
(strArg x1=false)/\pLen x1 fun t12=>
pBin Try.prog .neq 3 false t11 t12 fun t13=>
n12 W R N E P x0 x1 t13 h
def n14:N2:=fun W R N E P x0 x1 h=>
n13 W R N E P x0 x1 h
theorem callsN{x0 x1:AV}{h:AH}{M:WK}{R:RK}(hp:n14 (fun id=>M id\/h.next<=id) (retV Try.prog [.tmp 4] R) (retV Try.prog [.tmp 4] R) (fun _ _ _=>False) (fun v h=>R (.pan v) h) x0 x1 h):ACalls Try.prog 86 [x0,x1] h M R:=
 fin (n:=26) (pl:=[(6,⟨[(none,(fr 0 9))],false,[],[]⟩)]) (rs:=[.tmp 4]) (L:=rs) (fun c=>(a2 n14 0 1 c)) Try.mixed Try.func86 (fun c=>
(sq (a2 n14 0 1 c)
(sn
(sn
(sl (a0 n1 c))
(sq (a2 n10 0 1 c)
(bk 0 (lp [0,1,12,13] rs [(0,[])] (a4 n9 0 1 12 13 c) g1_ (fun i vs h=>if i=0 then n1 c.W c.R c.N c.E c.P h else c.E i vs h) (.b (.t .o)) fun c=>
(sq (a4 n8 0 1 12 13 c)
(sn
(sn
(sm (a4 n2 0 1 12 13 c))
(bk 1 (sq (a4 n6 0 1 12 13 c)
(sq (a5 n5 0 1 5 12 13 c)
(cd (a5 n4 0 1 12 13 24 c) (sl (a0 n3 c)) tr)))))
(cd (a5 n7 0 1 12 13 14 c) tr tr)))))))
(sq (a2 n13 0 1 c)
(cd (a3 n12 0 1 10 c) (sl (a0 n11 c)) tr))))) hp
attribute [simp] n1 n2 n3 n4 n5 n6 n7 n8 n10 n11 n12 n13 n14
end F86
end Go.Proofs.Ytbdibjgoeeokoaa
