/- Bodies of the scanner; printed. No condition. -/
import Derived.Test.YtjehibknlmehmaaGl
set_option maxRecDepth 100000
namespace Go.Proofs.Ytjehibknlmehmaa
section
open Go.Ab
namespace F65
section
variable (W:WK) (Q:Post) (QP:PPost) (s:St) (h:AH)
noncomputable def code:Code:=Try.f65.body.getD .skip
def pl:Plans:=[(1,⟨[(none,(fr 0 5)),(some (4,true),(fr 5 5)),(none,(fr 10 1))],false,[],[]⟩)]
def t1(Q:Post)(s:St)(h:AH):Prop:=
Q .ret ⟨puts s.tm [(20,(s.tm 1)),(6,(s.tm 1))],s.ds⟩ h
def k1:OK:=fun _ Q _ s h=>t1 Q s h
def t2(Q:Post)(s:St)(h:AH):Prop:=
pBin Try.prog .add 3 true (s.tm 1) (.sc (.int .i64 1)) fun t1=>
Q .normal ⟨puts s.tm [(18,(s.tm 1)),(19,t1),(1,t1)],s.ds⟩ h
def k2:OK:=fun _ Q _ s h=>t2 Q s h
def t3(Q:Post)(s:St)(h:AH)(C0:KT):Prop:=
aIf (s.tm 17) (
C0 s h) (
Q (.exit 0) s h)
def k3:OK:=fun W Q QP s h=>t3 Q s h (k2 W Q QP)
def t4(s:St)(h:AH)(C0:KT):Prop:=
pPick (s.tm 11) (s.tm 16) (.sc (.bool false)) fun t2=>
C0 ⟨puts s.tm [(17,t2)],s.ds⟩ h
def k4:OK:=fun W Q QP s h=>t4 s h (k3 W Q QP)
def t5(W:WK)(QP:PPost)(s:St)(h:AH)(C0:KT):Prop:=
aIg true (s.tm 11) (
pIxS true (s.tm 0) (s.tm 1) fun t3=>
aGo Try.prog W (s.tm 2) [t3] h (fun t4 h5=>
C0 ⟨puts s.tm [(12,(s.tm 2)),(13,(s.tm 0)),(14,(s.tm 1)),(15,t3),(16,t4)],s.ds⟩ h5) (QP s.ds)) (
C0 ⟨puts s.tm [(12,noA),(13,noA),(14,noA),(15,noA),(16,noA)],s.ds⟩ h)
def k5:OK:=fun W Q QP s h=>t5 W QP s h (k4 W Q QP)
def t6(s:St)(h:AH)(C0:KT):Prop:=
(strArg (s.tm 0)=true)/\pLen (s.tm 0) fun t6=>
pBin Try.prog .lss 3 false (s.tm 1) t6 fun t7=>
C0 ⟨puts s.tm [(7,(s.tm 1)),(8,(s.tm 0)),(9,t6),(10,t7),(11,t7)],s.ds⟩ h
def k6:OK:=fun W Q QP s h=>t6 s h (k5 W Q QP)
noncomputable def c1:Code:=Code.at code [1,0,0,0]
theorem l1:aw Try.prog 21 W pl c1 Q QP s h=k6 W Q QP s h:=congrFun (congrFun (show TB ⟨Try.prog,21,pl⟩ W QP c1 Q (k6 W Q QP) from
(sn
(bk 1 (sm (k2 W Q QP)))
(sn
(cd (k3 W Q QP) tr tr)
(gr (gn (k6 W Q QP) (gx (k5 W Q QP) (gl (k4 W Q QP)))))))) s) h
def k7:OK:=fun W Q QP s h=>aLoop (aw Try.prog 21 W pl c1) (blockQ 0 (thenQ (k1 W Q QP) (Q))) QP s h
def t8(s:St)(h:AH)(C0:KT):Prop:=
C0 ⟨puts s.tm [(6,(.sc (.int .i64 0)))],s.ds⟩ h
def k8:OK:=fun W Q QP s h=>t8 s h (k7 W Q QP)
end
theorem calls{x0 x1 x2:AV}{h:AH}{M:WK}{R:RK}(hp:k8 (fun id=>M id\/h.next<=id) (bodyQ Try.prog [.tmp 6] R) (bodyP R) (s0 [x0,x1,x2]) h):ACalls Try.prog 65 [x0,x1,x2] h M R:=
 fio (n:=21) (pl:=pl) k8 Try.mixed Try.func65 (fun W Q QP=>
(sq (k8 W Q QP)
(sn
(sl (k1 W Q QP))
(bk 0 (lo (k7 W Q QP)))))) hp
attribute [simp] k1 t1 k2 t2 k3 t3 k4 t4 k5 t5 k6 t6 k7 k8 t8
end F65
namespace F66
def pl:Plans:=[]
def t1(Q:Post)(s:St)(h:AH):Prop:=
pBin Try.prog .neq 5 true (s.tm 0) (.sc (.int .u8 10)) fun t1=>
Q .ret ⟨puts s.tm [(3,(s.tm 0)),(4,t1),(2,t1)],s.ds⟩ h
def k1:OK:=fun _ Q _ s h=>t1 Q s h
def t2(s:St)(h:AH)(C0:KT):Prop:=
C0 ⟨puts s.tm [(2,(.sc (.bool false)))],s.ds⟩ h
def k2:OK:=fun W Q QP s h=>t2 s h (k1 W Q QP)
theorem calls{x0:AV}{h:AH}{M:WK}{R:RK}(hp:k2 (fun id=>M id\/h.next<=id) (bodyQ Try.prog [.tmp 2] R) (bodyP R) (s0 [x0]) h):ACalls Try.prog 66 [x0] h M R:=
 fio (n:=5) (pl:=pl) k2 Try.mixed Try.func66 (fun W Q QP=>
(sq (k2 W Q QP)
(sl (k1 W Q QP)))) hp
attribute [simp] k1 t1 k2 t2
end F66
namespace F67
def pl:Plans:=[(1,⟨[(none,(fr 0 3)),(some (2,true),(fr 3 2)),(none,(fr 5 2)),(some (6,false),(fr 7 3)),(some (9,true),(fr 10 2)),(some (6,false),(fr 12 1)),(none,(fr 13 2)),(some (14,false),(fr 15 2)),(none,(fr 17 2))],false,[],[]⟩)]
def t1(Q:Post)(s:St)(h:AH):Prop:=
Q .ret s h
def k1:OK:=fun _ Q _ s h=>t1 Q s h
def t2(s:St)(h:AH)(C0:KT):Prop:=
pPick (s.tm 17) (.sc (.bool true)) (s.tm 19) fun t1=>
C0 ⟨puts s.tm [(20,t1),(2,t1)],s.ds⟩ h
def k2:OK:=fun W Q QP s h=>t2 s h (k1 W Q QP)
def t3(s:St)(h:AH)(C0:KT):Prop:=
aIg false (s.tm 17) (
pBin Try.prog .eql 5 true (s.tm 0) (.sc (.int .u8 95)) fun t2=>
C0 ⟨puts s.tm [(18,(s.tm 0)),(19,t2)],s.ds⟩ h) (
C0 ⟨puts s.tm [(18,noA),(19,noA)],s.ds⟩ h)
def k3:OK:=fun W Q QP s h=>t3 s h (k2 W Q QP)
def t4(s:St)(h:AH)(C0:KT):Prop:=
pPick (s.tm 9) (.sc (.bool true)) (s.tm 15) fun t3=>
C0 ⟨puts s.tm [(16,t3),(17,t3)],s.ds⟩ h
def k4:OK:=fun W Q QP s h=>t4 s h (k3 W Q QP)
def t5(s:St)(h:AH)(C0:KT):Prop:=
aIg false (s.tm 9) (
pPick (s.tm 12) (s.tm 14) (.sc (.bool false)) fun t4=>
C0 ⟨puts s.tm [(15,t4)],s.ds⟩ h) (
C0 ⟨puts s.tm [(15,noA)],s.ds⟩ h)
def k5:OK:=fun W Q QP s h=>t5 s h (k4 W Q QP)
def t6(s:St)(h:AH)(C0:KT):Prop:=
aIg true (s.tm 12) (
pBin Try.prog .leq 5 true (s.tm 0) (.sc (.int .u8 90)) fun t5=>
C0 ⟨puts s.tm [(13,(s.tm 0)),(14,t5)],s.ds⟩ h) (
C0 ⟨puts s.tm [(13,noA),(14,noA)],s.ds⟩ h)
def k6:OK:=fun W Q QP s h=>t6 s h (k5 W Q QP)
def t7(s:St)(h:AH)(C0:KT):Prop:=
aIg false (s.tm 9) (
pBin Try.prog .geq 5 true (s.tm 0) (.sc (.int .u8 65)) fun t6=>
C0 ⟨puts s.tm [(10,(s.tm 0)),(11,t6),(12,t6)],s.ds⟩ h) (
C0 ⟨puts s.tm [(10,noA),(11,noA),(12,noA)],s.ds⟩ h)
def k7:OK:=fun W Q QP s h=>t7 s h (k6 W Q QP)
def t8(s:St)(h:AH)(C0:KT):Prop:=
pPick (s.tm 5) (s.tm 7) (.sc (.bool false)) fun t7=>
C0 ⟨puts s.tm [(8,t7),(9,t7)],s.ds⟩ h
def k8:OK:=fun W Q QP s h=>t8 s h (k7 W Q QP)
def t9(s:St)(h:AH)(C0:KT):Prop:=
aIg true (s.tm 5) (
pBin Try.prog .leq 5 true (s.tm 0) (.sc (.int .u8 122)) fun t8=>
C0 ⟨puts s.tm [(6,(s.tm 0)),(7,t8)],s.ds⟩ h) (
C0 ⟨puts s.tm [(6,noA),(7,noA)],s.ds⟩ h)
def k9:OK:=fun W Q QP s h=>t9 s h (k8 W Q QP)
def t10(s:St)(h:AH)(C0:KT):Prop:=
pBin Try.prog .geq 5 true (s.tm 0) (.sc (.int .u8 97)) fun t9=>
C0 ⟨puts s.tm [(3,(s.tm 0)),(4,t9),(5,t9)],s.ds⟩ h
def k10:OK:=fun W Q QP s h=>t10 s h (k9 W Q QP)
def t11(s:St)(h:AH)(C0:KT):Prop:=
C0 ⟨puts s.tm [(2,(.sc (.bool false)))],s.ds⟩ h
def k11:OK:=fun W Q QP s h=>t11 s h (k10 W Q QP)
theorem calls{x0:AV}{h:AH}{M:WK}{R:RK}(hp:k11 (fun id=>M id\/h.next<=id) (bodyQ Try.prog [.tmp 2] R) (bodyP R) (s0 [x0]) h):ACalls Try.prog 67 [x0] h M R:=
 fio (n:=21) (pl:=pl) k11 Try.mixed Try.func67 (fun W Q QP=>
(sq (k11 W Q QP)
(sn
(sm (k1 W Q QP))
(gr (gn (k10 W Q QP) (gx (k9 W Q QP) (gn (k8 W Q QP) (gx (k7 W Q QP) (gx (k6 W Q QP) (gx (k5 W Q QP) (gn (k4 W Q QP) (gx (k3 W Q QP) (gl (k2 W Q QP)))))))))))))) hp
attribute [simp] k1 t1 k2 t2 k3 t3 k4 t4 k5 t5 k6 t6 k7 t7 k8 t8 k9 t9 k10 t10 k11 t11
end F67
namespace F68
def pl:Plans:=[(1,⟨[(none,(fr 0 3)),(some (2,false),(fr 3 2)),(none,(fr 5 2))],false,[],[]⟩)]
def t1(Q:Post)(s:St)(h:AH):Prop:=
Q .ret s h
def k1:OK:=fun _ Q _ s h=>t1 Q s h
def t2(s:St)(h:AH)(C0:KT):Prop:=
pPick (s.tm 5) (.sc (.bool true)) (s.tm 7) fun t1=>
C0 ⟨puts s.tm [(8,t1),(2,t1)],s.ds⟩ h
def k2:OK:=fun W Q QP s h=>t2 s h (k1 W Q QP)
def t3(W:WK)(QP:PPost)(s:St)(h:AH)(C0:KT):Prop:=
aIg false (s.tm 5) (
aCall Try.prog W 69 [(s.tm 0)] h (fun t2 h3=>
C0 ⟨puts s.tm [(6,(s.tm 0)),(7,t2)],s.ds⟩ h3) (QP s.ds)) (
C0 ⟨puts s.tm [(6,noA),(7,noA)],s.ds⟩ h)
def k3:OK:=fun W Q QP s h=>t3 W QP s h (k2 W Q QP)
def t4(W:WK)(QP:PPost)(s:St)(h:AH)(C0:KT):Prop:=
aCall Try.prog W 67 [(s.tm 0)] h (fun t4 h5=>
C0 ⟨puts s.tm [(3,(s.tm 0)),(4,t4),(5,t4)],s.ds⟩ h5) (QP s.ds)
def k4:OK:=fun W Q QP s h=>t4 W QP s h (k3 W Q QP)
def t5(s:St)(h:AH)(C0:KT):Prop:=
C0 ⟨puts s.tm [(2,(.sc (.bool false)))],s.ds⟩ h
def k5:OK:=fun W Q QP s h=>t5 s h (k4 W Q QP)
theorem calls{x0:AV}{h:AH}{M:WK}{R:RK}(hp:k5 (fun id=>M id\/h.next<=id) (bodyQ Try.prog [.tmp 2] R) (bodyP R) (s0 [x0]) h):ACalls Try.prog 68 [x0] h M R:=
 fio (n:=9) (pl:=pl) k5 Try.mixed Try.func68 (fun W Q QP=>
(sq (k5 W Q QP)
(sn
(sm (k1 W Q QP))
(gr (gn (k4 W Q QP) (gx (k3 W Q QP) (gl (k2 W Q QP)))))))) hp
attribute [simp] k1 t1 k2 t2 k3 t3 k4 t4 k5 t5
end F68
namespace F69
def pl:Plans:=[(1,⟨[(none,(fr 0 3)),(some (2,true),(fr 3 2)),(none,(fr 5 2))],false,[],[]⟩)]
def t1(Q:Post)(s:St)(h:AH):Prop:=
Q .ret s h
def k1:OK:=fun _ Q _ s h=>t1 Q s h
def t2(s:St)(h:AH)(C0:KT):Prop:=
pPick (s.tm 5) (s.tm 7) (.sc (.bool false)) fun t1=>
C0 ⟨puts s.tm [(8,t1),(2,t1)],s.ds⟩ h
def k2:OK:=fun W Q QP s h=>t2 s h (k1 W Q QP)
def t3(s:St)(h:AH)(C0:KT):Prop:=
aIg true (s.tm 5) (
pBin Try.prog .leq 5 true (s.tm 0) (.sc (.int .u8 57)) fun t2=>
C0 ⟨puts s.tm [(6,(s.tm 0)),(7,t2)],s.ds⟩ h) (
C0 ⟨puts s.tm [(6,noA),(7,noA)],s.ds⟩ h)
def k3:OK:=fun W Q QP s h=>t3 s h (k2 W Q QP)
def t4(s:St)(h:AH)(C0:KT):Prop:=
pBin Try.prog .geq 5 true (s.tm 0) (.sc (.int .u8 48)) fun t3=>
C0 ⟨puts s.tm [(3,(s.tm 0)),(4,t3),(5,t3)],s.ds⟩ h
def k4:OK:=fun W Q QP s h=>t4 s h (k3 W Q QP)
def t5(s:St)(h:AH)(C0:KT):Prop:=
C0 ⟨puts s.tm [(2,(.sc (.bool false)))],s.ds⟩ h
def k5:OK:=fun W Q QP s h=>t5 s h (k4 W Q QP)
theorem calls{x0:AV}{h:AH}{M:WK}{R:RK}(hp:k5 (fun id=>M id\/h.next<=id) (bodyQ Try.prog [.tmp 2] R) (bodyP R) (s0 [x0]) h):ACalls Try.prog 69 [x0] h M R:=
 fio (n:=9) (pl:=pl) k5 Try.mixed Try.func69 (fun W Q QP=>
(sq (k5 W Q QP)
(sn
(sm (k1 W Q QP))
(gr (gn (k4 W Q QP) (gx (k3 W Q QP) (gl (k2 W Q QP)))))))) hp
attribute [simp] k1 t1 k2 t2 k3 t3 k4 t4 k5 t5
end F69
end
section
open Go.Ab
namespace F44
section
variable (W:WK) (Q:Post) (QP:PPost) (s:St) (h:AH)
noncomputable def code:Code:=Try.f44.body.getD .skip
def pl:Plans:=[(8,⟨[(none,(fr 0 3)),(some (2,false),(fr 3 2)),(none,(fr 5 2)),(some (6,false),(fr 7 2)),(none,(fr 9 2)),(some (10,false),(fr 11 2)),(none,(fr 13 2))],false,[],[]⟩),(16,⟨[(none,(fr 0 5)),(some (4,true),(fr 5 4)),(none,(fr 9 1))],false,[],[]⟩)]
def t1(Q:Post)(s:St)(h:AH):Prop:=
Q .ret ⟨puts s.tm [(84,(s.tm 5)),(2,(s.tm 5)),(3,(.sc (.int .i64 0))),(4,(.sc (.int .i64 0)))],s.ds⟩ h
def k1:OK:=fun _ Q _ s h=>t1 Q s h
def t2(Q:Post)(s:St)(h:AH):Prop:=
Q .normal ⟨puts s.tm [(83,(s.tm 8)),(6,(s.tm 8))],s.ds⟩ h
def k2:OK:=fun _ Q _ s h=>t2 Q s h
def t3(W:WK)(s:St)(h:AH)(C0:KT):Prop:=
pSlS (s.tm 0) (some (s.tm 6)) (some (s.tm 8)) fun t1=>
pBld (some ([.int .i64 0,.string ⟨#[]⟩,.int .i64 0],.inl [(0,1),(1,1),(2,1)])) [(0,(s.tm 9)),(1,t1),(2,(s.tm 6))] fun t2=>
eBSl (some (3,126,[.int .i64 0,.string ⟨#[]⟩,.int .i64 0])) 1 [(0,t2)] h fun t3 h4=>
eApp (some (3,32,126)) (s.tm 5) t3 h4 W fun t5 h6=>
C0 ⟨puts s.tm [(73,(s.tm 5)),(74,(s.tm 9)),(75,(s.tm 0)),(76,(s.tm 6)),(77,(s.tm 8)),(78,t1),(79,(s.tm 6)),(80,t2),(81,t3),(82,t5),(5,t5)],s.ds⟩ h6
def k3:OK:=fun W Q QP s h=>t3 W s h (k2 W Q QP)
def t4(Q:Post)(s:St)(h:AH):Prop:=
pBin Try.prog .add 3 true (s.tm 6) (.sc (.int .i64 1)) fun t7=>
Q .normal ⟨puts s.tm [(37,(s.tm 6)),(38,t7),(6,t7)],s.ds⟩ h
def k4:OK:=fun _ Q _ s h=>t4 Q s h
def t5(W:WK)(Q:Post)(QP:PPost)(s:St)(h:AH):Prop:=
aCall Try.prog W 65 [(s.tm 0),(s.tm 6),(.fn (.func 66) [] [])] h (fun t8 h9=>
Q .normal ⟨puts s.tm [(42,(s.tm 0)),(43,(s.tm 6)),(44,t8),(6,t8)],s.ds⟩ h9) (QP s.ds)
def k5:OK:=fun W Q QP s h=>t5 W Q QP s h
def t6(Q:Post)(s:St)(h:AH):Prop:=
Q .ret ⟨puts s.tm [(67,(s.tm 8)),(2,(.sc (.slice none 0 0))),(3,(s.tm 8)),(4,(.sc (.int .i64 90)))],s.ds⟩ h
def k6:OK:=fun _ Q _ s h=>t6 Q s h
def t7(s:St)(h:AH)(C0 C1:KT):Prop:=
aIf (s.tm 66) (
C1 s h) (
C0 s h)
def k7:OK:=fun W Q QP s h=>t7 s h (k3 W Q QP) (k6 W Q QP)
def t8(s:St)(h:AH)(C0:KT):Prop:=
pPick (s.tm 61) (s.tm 65) (.sc (.bool false)) fun t12=>
C0 ⟨puts s.tm [(66,t12)],s.ds⟩ h
def k8:OK:=fun W Q QP s h=>t8 s h (k7 W Q QP)
def t9(W:WK)(QP:PPost)(s:St)(h:AH)(C0:KT):Prop:=
aIg true (s.tm 61) (
pIxS true (s.tm 0) (s.tm 8) fun t13=>
aCall Try.prog W 67 [t13] h (fun t14 h15=>
C0 ⟨puts s.tm [(62,(s.tm 0)),(63,(s.tm 8)),(64,t13),(65,t14)],s.ds⟩ h15) (QP s.ds)) (
C0 ⟨puts s.tm [(62,noA),(63,noA),(64,noA),(65,noA)],s.ds⟩ h)
def k9:OK:=fun W Q QP s h=>t9 W QP s h (k8 W Q QP)
def t10(s:St)(h:AH)(C0:KT):Prop:=
(strArg (s.tm 0)=true)/\pLen (s.tm 0) fun t16=>
pBin Try.prog .lss 3 false (s.tm 8) t16 fun t17=>
C0 ⟨puts s.tm [(57,(s.tm 8)),(58,(s.tm 0)),(59,t16),(60,t17),(61,t17)],s.ds⟩ h
def k10:OK:=fun W Q QP s h=>t10 s h (k9 W Q QP)
def t11(W:WK)(QP:PPost)(s:St)(h:AH)(C0:KT):Prop:=
aCall Try.prog W 65 [(s.tm 0),(s.tm 6),(.fn (.func 69) [] [])] h (fun t18 h19=>
C0 ⟨puts s.tm [(54,(s.tm 0)),(55,(s.tm 6)),(56,t18),(8,t18),(9,(.sc (.int .i64 2)))],s.ds⟩ h19) (QP s.ds)
def k11:OK:=fun W Q QP s h=>t11 W QP s h (k10 W Q QP)
def t12(Q:Post)(s:St)(h:AH):Prop:=
Q .ret ⟨puts s.tm [(72,(s.tm 6)),(2,(.sc (.slice none 0 0))),(3,(s.tm 6)),(4,(.sc (.int .i64 90)))],s.ds⟩ h
def k12:OK:=fun _ Q _ s h=>t12 Q s h
def t13(s:St)(h:AH)(C0 C1:KT):Prop:=
aIf (s.tm 68) (
C0 s h) (
C1 s h)
def k13:OK:=fun W Q QP s h=>t13 s h (k12 W Q QP) (k3 W Q QP)
def t14(W:WK)(QP:PPost)(s:St)(h:AH)(C0:KT):Prop:=
aCall Try.prog W 70 [(.sc (.string ⟨#[123,125,91,93,59,44]⟩)),(s.tm 7)] h (fun t20 h21=>
pBin Try.prog .lss 3 true t20 (.sc (.int .i64 0)) fun t22=>
C0 ⟨puts s.tm [(69,(s.tm 7)),(70,t20),(71,t22),(68,t22)],s.ds⟩ h21) (QP s.ds)
def k14:OK:=fun W Q QP s h=>t14 W QP s h (k13 W Q QP)
def t15(s:St)(h:AH)(C0 C1:KT):Prop:=
aIf (s.tm 51) (
C0 s h) (
C1 s h)
def k15:OK:=fun W Q QP s h=>t15 s h (k11 W Q QP) (k14 W Q QP)
def t16(W:WK)(QP:PPost)(s:St)(h:AH)(C0:KT):Prop:=
aCall Try.prog W 69 [(s.tm 7)] h (fun t23 h24=>
C0 ⟨puts s.tm [(52,(s.tm 7)),(53,t23),(51,t23)],s.ds⟩ h24) (QP s.ds)
def k16:OK:=fun W Q QP s h=>t16 W QP s h (k15 W Q QP)
def t17(W:WK)(QP:PPost)(s:St)(h:AH)(C0 C1:KT):Prop:=
aIf (s.tm 45) (
aCall Try.prog W 65 [(s.tm 0),(s.tm 6),(.fn (.func 68) [] [])] h (fun t10 h11=>
C1 ⟨puts s.tm [(48,(s.tm 0)),(49,(s.tm 6)),(50,t10),(8,t10),(9,(.sc (.int .i64 1)))],s.ds⟩ h11) (QP s.ds)) (
C0 s h)
def k17:OK:=fun W Q QP s h=>t17 W QP s h (k16 W Q QP) (k3 W Q QP)
def t18(W:WK)(QP:PPost)(s:St)(h:AH)(C0:KT):Prop:=
aCall Try.prog W 67 [(s.tm 7)] h (fun t25 h26=>
C0 ⟨puts s.tm [(46,(s.tm 7)),(47,t25),(45,t25)],s.ds⟩ h26) (QP s.ds)
def k18:OK:=fun W Q QP s h=>t18 W QP s h (k17 W Q QP)
def t19(s:St)(h:AH)(C0 C1:KT):Prop:=
aIf (s.tm 39) (
C1 s h) (
C0 s h)
def k19:OK:=fun W Q QP s h=>t19 s h (k18 W Q QP) (k5 W Q QP)
def t20(s:St)(h:AH)(C0:KT):Prop:=
pBin Try.prog .eql 5 true (s.tm 7) (.sc (.int .u8 35)) fun t27=>
C0 ⟨puts s.tm [(40,(s.tm 7)),(41,t27),(39,t27)],s.ds⟩ h
def k20:OK:=fun W Q QP s h=>t20 s h (k19 W Q QP)
def t21(s:St)(h:AH)(C0 C1:KT):Prop:=
aIf (s.tm 22) (
C1 s h) (
C0 s h)
def k21:OK:=fun W Q QP s h=>t21 s h (k20 W Q QP) (k4 W Q QP)
def t22(s:St)(h:AH)(C0:KT):Prop:=
pPick (s.tm 33) (.sc (.bool true)) (s.tm 35) fun t28=>
C0 ⟨puts s.tm [(36,t28),(22,t28)],s.ds⟩ h
def k22:OK:=fun W Q QP s h=>t22 s h (k21 W Q QP)
def t23(s:St)(h:AH)(C0:KT):Prop:=
aIg false (s.tm 33) (
pBin Try.prog .eql 5 true (s.tm 7) (.sc (.int .u8 32)) fun t29=>
C0 ⟨puts s.tm [(34,(s.tm 7)),(35,t29)],s.ds⟩ h) (
C0 ⟨puts s.tm [(34,noA),(35,noA)],s.ds⟩ h)
def k23:OK:=fun W Q QP s h=>t23 s h (k22 W Q QP)
def t24(s:St)(h:AH)(C0:KT):Prop:=
pPick (s.tm 29) (.sc (.bool true)) (s.tm 31) fun t30=>
C0 ⟨puts s.tm [(32,t30),(33,t30)],s.ds⟩ h
def k24:OK:=fun W Q QP s h=>t24 s h (k23 W Q QP)
def t25(s:St)(h:AH)(C0:KT):Prop:=
aIg false (s.tm 29) (
pBin Try.prog .eql 5 true (s.tm 7) (.sc (.int .u8 13)) fun t31=>
C0 ⟨puts s.tm [(30,(s.tm 7)),(31,t31)],s.ds⟩ h) (
C0 ⟨puts s.tm [(30,noA),(31,noA)],s.ds⟩ h)
def k25:OK:=fun W Q QP s h=>t25 s h (k24 W Q QP)
def t26(s:St)(h:AH)(C0:KT):Prop:=
pPick (s.tm 25) (.sc (.bool true)) (s.tm 27) fun t32=>
C0 ⟨puts s.tm [(28,t32),(29,t32)],s.ds⟩ h
def k26:OK:=fun W Q QP s h=>t26 s h (k25 W Q QP)
def t27(s:St)(h:AH)(C0:KT):Prop:=
aIg false (s.tm 25) (
pBin Try.prog .eql 5 true (s.tm 7) (.sc (.int .u8 10)) fun t33=>
C0 ⟨puts s.tm [(26,(s.tm 7)),(27,t33)],s.ds⟩ h) (
C0 ⟨puts s.tm [(26,noA),(27,noA)],s.ds⟩ h)
def k27:OK:=fun W Q QP s h=>t27 s h (k26 W Q QP)
def t28(s:St)(h:AH)(C0:KT):Prop:=
pBin Try.prog .eql 5 true (s.tm 7) (.sc (.int .u8 9)) fun t34=>
C0 ⟨puts s.tm [(23,(s.tm 7)),(24,t34),(25,t34)],s.ds⟩ h
def k28:OK:=fun W Q QP s h=>t28 s h (k27 W Q QP)
def t29(s:St)(h:AH)(C0:KT):Prop:=
pBin Try.prog .add 3 true (s.tm 6) (.sc (.int .i64 1)) fun t35=>
C0 ⟨puts s.tm [(20,(s.tm 6)),(21,t35),(8,t35),(9,(.sc (.int .i64 3)))],s.ds⟩ h
def k29:OK:=fun W Q QP s h=>t29 s h (k28 W Q QP)
def t30(s:St)(h:AH)(C0:KT):Prop:=
pIxS true (s.tm 0) (s.tm 6) fun t36=>
C0 ⟨puts s.tm [(17,(s.tm 0)),(18,(s.tm 6)),(19,t36),(7,t36)],s.ds⟩ h
def k30:OK:=fun W Q QP s h=>t30 s h (k29 W Q QP)
def t31(Q:Post)(s:St)(h:AH)(C0:KT):Prop:=
aIf (s.tm 16) (
C0 s h) (
Q (.exit 0) s h)
def k31:OK:=fun W Q QP s h=>t31 Q s h (k30 W Q QP)
def t32(s:St)(h:AH)(C0:KT):Prop:=
(strArg (s.tm 0)=true)/\pLen (s.tm 0) fun t37=>
pBin Try.prog .lss 3 false (s.tm 6) t37 fun t38=>
C0 ⟨puts s.tm [(13,(s.tm 6)),(14,(s.tm 0)),(15,t37),(16,t38)],s.ds⟩ h
def k32:OK:=fun W Q QP s h=>t32 s h (k31 W Q QP)
noncomputable def c1:Code:=Code.at code [1,0,1,1,1,1,0,0,0]
theorem l1:aw Try.prog 85 W pl c1 Q QP s h=k32 W Q QP s h:=congrFun (congrFun (show TB ⟨Try.prog,85,pl⟩ W QP c1 Q (k32 W Q QP) from
(sn
(bk 1 (sq (k30 W Q QP)
(sq (k29 W Q QP)
(sn
(sq (k3 W Q QP)
(sm (k2 W Q QP)))
(bk 2 (sn
(cd (k21 W Q QP) (sl (k4 W Q QP)) (sq (k20 W Q QP)
(cd (k19 W Q QP) (sl (k5 W Q QP)) (sq (k18 W Q QP)
(cd (k17 W Q QP) tr (sq (k16 W Q QP)
(cd (k15 W Q QP) (sq (k11 W Q QP)
(sn
(cd (k7 W Q QP) (sl (k6 W Q QP)) tr)
(gr (gn (k10 W Q QP) (gx (k9 W Q QP) (gl (k8 W Q QP))))))) (sq (k14 W Q QP)
(cd (k13 W Q QP) (sl (k12 W Q QP)) tr)))))))))
(gr (gn (k28 W Q QP) (gx (k27 W Q QP) (gn (k26 W Q QP) (gx (k25 W Q QP) (gn (k24 W Q QP) (gx (k23 W Q QP) (gl (k22 W Q QP)))))))))))))))
(sq (k32 W Q QP)
(cd (k31 W Q QP) tr tr)))) s) h
def k33:OK:=fun W Q QP s h=>aLoop (aw Try.prog 85 W pl c1) (blockQ 0 (thenQ (k1 W Q QP) (noGotoQ (Q)))) QP s h
def t34(s:St)(h:AH)(C0:KT):Prop:=
C0 s h
def k34:OK:=fun W Q QP s h=>t34 s h (k33 W Q QP)
def t35(s:St)(h:AH)(C0:KT):Prop:=
C0 ⟨puts s.tm [(6,(.sc (.int .i64 0)))],s.ds⟩ h
def k35:OK:=fun W Q QP s h=>t35 s h (k34 W Q QP)
def t36(s:St)(h:AH)(C0:KT):Prop:=
C0 ⟨puts s.tm [(5,(.sc (.slice none 0 0)))],s.ds⟩ h
def k36:OK:=fun W Q QP s h=>t36 s h (k35 W Q QP)
def t37(Q:Post)(s:St)(h:AH):Prop:=
Q .ret ⟨puts s.tm [(2,(.sc (.slice none 0 0))),(3,(.sc (.int .i64 0))),(4,(.sc (.int .i64 1)))],s.ds⟩ h
def k37:OK:=fun _ Q _ s h=>t37 Q s h
def t38(s:St)(h:AH)(C0 C1:KT):Prop:=
aIf (s.tm 12) (
C1 s h) (
C0 s h)
def k38:OK:=fun W Q QP s h=>t38 s h (k36 W Q QP) (k37 W Q QP)
def t39(s:St)(h:AH)(C0:KT):Prop:=
(strArg (s.tm 0)=true)/\pLen (s.tm 0) fun t39=>
pBin Try.prog .gtr 3 true t39 (.sc (.int .i64 65536)) fun t40=>
C0 ⟨puts s.tm [(10,(s.tm 0)),(11,t39),(12,t40)],s.ds⟩ h
def k39:OK:=fun W Q QP s h=>t39 s h (k38 W Q QP)
def t40(s:St)(h:AH)(C0:KT):Prop:=
C0 ⟨puts s.tm [(2,(.sc (.slice none 0 0))),(3,(.sc (.int .i64 0))),(4,(.sc (.int .i64 0)))],s.ds⟩ h
def k40:OK:=fun W Q QP s h=>t40 s h (k39 W Q QP)
end
theorem calls{x0:AV}{h:AH}{M:WK}{R:RK}(hp:k40 (fun id=>M id\/h.next<=id) (bodyQ Try.prog [.tmp 2,.tmp 3,.tmp 4] R) (bodyP R) (s0 [x0]) h):ACalls Try.prog 44 [x0] h M R:=
 fio (n:=85) (pl:=pl) k40 Try.mixed Try.func44 (fun W Q QP=>
(sq (k40 W Q QP)
(sp (sn
(sq (k36 W Q QP)
(sq (k35 W Q QP)
(sq (k34 W Q QP)
(sn
(sl (k1 W Q QP))
(bk 0 (lo (k33 W Q QP)))))))
(sq (k39 W Q QP)
(cd (k38 W Q QP) (sl (k37 W Q QP)) tr)))))) hp
attribute [simp] k1 t1 k2 t2 k3 t3 k4 t4 k5 t5 k6 t6 k7 t7 k8 t8 k9 t9 k10 t10 k11 t11 k12 t12 k13 t13 k14 t14 k15 t15 k16 t16 k17 t17 k18 t18 k19 t19 k20 t20 k21 t21 k22 t22 k23 t23 k24 t24 k25 t25 k26 t26 k27 t27 k28 t28 k29 t29 k30 t30 k31 t31 k32 t32 k33 k34 t34 k35 t35 k36 t36 k37 t37 k38 t38 k39 t39 k40 t40
end F44
end
section
open Go.Ab
section
variable (W:Nat->Prop) (Q:Post) (QP:PPost) (s:St) (h:AH)
noncomputable def F45.code:Code:=Try.f45.body.getD .skip
def F45.pl:Plans:=[(5,⟨[(none,[(0,false),(1,true),(2,false),(3,true),(4,false),(5,false),(6,false)])],true,[],[]⟩)]
theorem F45.ok:okCode Try.prog F45.pl (Code.at F45.code [1])=true:=by kernel_rfl
def F45.t1(W:Nat->Prop)(Q:Post)(s:St)(h:AH):Prop:=
 ∃Hd:Nat->Nat,(∀i∈[1,3],h.obj (Hd i)≠none)/\(
 pFld (some 0) (s.tm 4) fun t1=>
 lLd (some false) (some 1) t1 h fun t2 i3=>
 (i3=Hd 1)/\(
 pFld (some 1) (s.tm 4) fun t4=>
 lLd (some false) (some 1) t4 h fun t5 i6=>
 (i6=Hd 3)/\(
 eStore (some 1) (s.tm 0) (.sc (.slice none 0 0)) h (banL W Hd [1,3]) fun h7=>
 eStore (some 1) (s.tm 1) t2 h7 (banL W Hd [3]) fun h8=>
 eStore (some 1) (s.tm 2) t5 h8 W fun h9=>
 Q .normal ⟨puts s.tm [(17,t1),(18,t2),(19,t4),(20,t5)],s.ds⟩ h9)))
def F45.k1(W:Nat->Prop)(Q:Post)(QP:PPost)(s:St)(h:AH):Prop:=F45.t1 W Q s h
theorem F45.k1_a:aw Try.prog 21 W F45.pl (Code.at F45.code [1,1,0,1,1]) (Q) QP s h=F45.t1 W Q s h:=by kernel_rfl
theorem F45.k1_ok:aw Try.prog 21 W F45.pl (Code.at F45.code [1,1,0,1,1]) (Q) QP s h=F45.k1 W Q QP s h:=(F45.k1_a W Q QP s h)
def F45.t2(QP:PPost)(s:St)(h:AH)(C0:KT):Prop:=
 aIf (s.tm 15) (
 aPan (s.tm 3) h (QP s.ds)) (
 C0 s h)
def F45.k2(W:Nat->Prop)(Q:Post)(QP:PPost)(s:St)(h:AH):Prop:=F45.t2 QP s h (F45.k1 W Q QP)
theorem F45.k2_a(C0:KT):aIf (aev s (.tmp 15)) (aw Try.prog 21 W F45.pl (Code.at F45.code [1,1,0,1,0,1,0]) (thenQ (C0) (Q)) QP s h) (aw Try.prog 21 W F45.pl (Code.at F45.code [1,1,0,1,0,1,1]) (thenQ (C0) (Q)) QP s h)=F45.t2 QP s h C0:=by kernel_rfl
theorem F45.k2_ok:aw Try.prog 21 W F45.pl (Code.at F45.code [1,1,0,1,0,1]) (thenQ (F45.k1 W Q QP) (Q)) QP s h=F45.k2 W Q QP s h:=nd_cond (a:=(Code.at F45.code [1,1,0,1,0,1,0])) (b:=(Code.at F45.code [1,1,0,1,0,1,1])) (by kernel_rfl) rfl rfl (F45.k2_a W Q QP s h (F45.k1 W Q QP))
def F45.t3(s:St)(h:AH)(C0 C1:KT):Prop:=
 pUn .not (s.tm 5) fun t10=>
 C1 ⟨puts s.tm [(14,(s.tm 5)),(15,t10)],s.ds⟩ h
def F45.k3(W:Nat->Prop)(Q:Post)(QP:PPost)(s:St)(h:AH):Prop:=F45.t3 s h (F45.k1 W Q QP) (F45.k2 W Q QP)
theorem F45.k3_a(C0 C1:KT):aw Try.prog 21 W F45.pl (Code.at F45.code [1,1,0,1,0,0]) (thenQ (C1) (thenQ (C0) (Q))) QP s h=F45.t3 s h C0 C1:=by kernel_rfl
theorem F45.k3_ok:aw Try.prog 21 W F45.pl (Code.at F45.code [1,1,0,1,0]) (thenQ (F45.k1 W Q QP) (Q)) QP s h=F45.k3 W Q QP s h:=nd_seq (a:=(Code.at F45.code [1,1,0,1,0,0])) (b:=(Code.at F45.code [1,1,0,1,0,1])) (by kernel_rfl) (F45.k2_ok W Q QP) (F45.k3_a W Q QP s h (F45.k1 W Q QP) (F45.k2 W Q QP))
theorem F45.o1:aw Try.prog 21 W F45.pl (Code.at F45.code [1,1,0,1]) (Q) QP s h=F45.k3 W Q QP s h:=nd_seq (a:=(Code.at F45.code [1,1,0,1,0])) (b:=(Code.at F45.code [1,1,0,1,1])) (by kernel_rfl) (F45.k1_ok W Q QP) (F45.k3_ok W Q QP s h)
def F45.t4(W:Nat->Prop)(s:St)(h:AH)(C0:KT):Prop:=
 pTA (some false) 101 true (s.tm 3) fun t11=>
 pExt t11 0 fun t12=>
 pExt t11 1 fun t13=>
 eAlloc (some [.int .i64 0,.int .i64 0]) 2 101 h fun t14 h15=>
 eStore (some 2) t14 t12 h15 W fun h16=>
 C0 ⟨puts s.tm [(10,(s.tm 3)),(11,t11),(9,t11),(12,t12),(13,t13),(4,t14),(5,t13)],s.ds⟩ h16
def F45.k4(W:Nat->Prop)(Q:Post)(QP:PPost)(s:St)(h:AH):Prop:=F45.t4 W s h (F45.k3 W Q QP)
theorem F45.k4_a(C0:KT):aw Try.prog 21 W F45.pl (Code.at F45.code [1,1,0,0]) (thenQ (C0) (Q)) QP s h=F45.t4 W s h C0:=by kernel_rfl
theorem F45.k4_ok:aw Try.prog 21 W F45.pl (Code.at F45.code [1,1,0]) (Q) QP s h=F45.k4 W Q QP s h:=nd_seq (a:=(Code.at F45.code [1,1,0,0])) (b:=(Code.at F45.code [1,1,0,1])) (by kernel_rfl) (F45.o1 W Q QP) (F45.k4_a W Q QP s h (F45.k3 W Q QP))
def F45.t5(Q:Post)(s:St)(h:AH)(C0:KT):Prop:=
 aIf (s.tm 8) (
 C0 s h) (
 Q .normal s h)
def F45.k5(W:Nat->Prop)(Q:Post)(QP:PPost)(s:St)(h:AH):Prop:=F45.t5 Q s h (F45.k4 W Q QP)
theorem F45.k5_a(C0:KT):aIf (aev s (.tmp 8)) (C0 s h) (aw Try.prog 21 W F45.pl (Code.at F45.code [1,1,1]) (Q) QP s h)=F45.t5 Q s h C0:=by kernel_rfl
theorem F45.k5_ok:aw Try.prog 21 W F45.pl (Code.at F45.code [1,1]) (Q) QP s h=F45.k5 W Q QP s h:=nd_cond (a:=(Code.at F45.code [1,1,0])) (b:=(Code.at F45.code [1,1,1])) (by kernel_rfl) (F45.k4_ok W Q QP s h) rfl (F45.k5_a W Q QP s h (F45.k4 W Q QP))
def F45.t6(s:St)(h:AH)(C0:KT):Prop:=
 pBin Try.prog .neq 20 true (s.tm 3) (.sc (.nilIface)) fun t17=>
 C0 ⟨puts s.tm [(7,(s.tm 3)),(8,t17)],s.ds⟩ h
def F45.k6(W:Nat->Prop)(Q:Post)(QP:PPost)(s:St)(h:AH):Prop:=F45.t6 s h (F45.k5 W Q QP)
theorem F45.k6_a(C0:KT):aw Try.prog 21 W F45.pl (Code.at F45.code [1,0]) (thenQ (C0) (Q)) QP s h=F45.t6 s h C0:=by kernel_rfl
theorem F45.k6_ok:aw Try.prog 21 W F45.pl (Code.at F45.code [1]) (Q) QP s h=F45.k6 W Q QP s h:=nd_seq (a:=(Code.at F45.code [1,0])) (b:=(Code.at F45.code [1,1])) (by kernel_rfl) (F45.k5_ok W Q QP) (F45.k6_a W Q QP s h (F45.k5 W Q QP))
end
attribute [simp] F45.k1 F45.t1 F45.k2 F45.t2 F45.k3 F45.t3 F45.k4 F45.t4 F45.k5 F45.t5 F45.k6 F45.t6
end
end Go.Proofs.Ytjehibknlmehmaa
