/- Bodies of the scanner; printed. No condition. -/
import Derived.Test.YtjehibknlmehmaaGreatDoorGl
set_option maxRecDepth 100000
namespace Go.Proofs.YtjehibknlmehmaaGreatDoor
section
open Go.Ab
namespace L1
section
variable (W:WK) (Q:cG) (QP:cm) (s:St) (h:AH)
noncomputable def code:Code:=Tryz.f53.body.getD .skip
def pl:dm:=[(1,⟨[(none,(fr 0 5)),(some (4,true),(fr 5 5)),(none,(fr 10 1))],false,[],[]⟩)]
def k1:OK:=fun _ Q _ s h=>
Q .ret ⟨aj s.tm [(20,(s.tm 1)),(6,(s.tm 1))],s.ds⟩ h
def k2:OK:=fun _ Q _ s h=>
aa Pg .add 3 true (s.tm 1) (.sc (.int .i64 1)) fun t1=>
Q .normal ⟨aj s.tm [(18,(s.tm 1)),(19,t1),(1,t1)],s.ds⟩ h
def k3:OK:=fun W Q QP s h=>
aE (s.tm 17) (
k2 W Q QP s h) (
Q (.exit 0) s h)
def k4:OK:=fun W Q QP s h=>
aJ (s.tm 11) (s.tm 16) (.sc (.bool false)) fun t2=>
k3 W Q QP ⟨aj s.tm [(17,t2)],s.ds⟩ h
def k5:OK:=fun W Q QP s h=>
bd true (s.tm 11) (
oC true (s.tm 0) (s.tm 1) fun t3=>
Gb Pg W (s.tm 2) [t3] h (fun t4 h5=>
k4 W Q QP ⟨aj s.tm [(12,(s.tm 2)),(13,(s.tm 0)),(14,(s.tm 1)),(15,t3),(16,t4)],s.ds⟩ h5) (QP s.ds)) (
k4 W Q QP ⟨aj s.tm [(12,ab),(13,ab),(14,ab),(15,ab),(16,ab)],s.ds⟩ h)
def k6:OK:=fun W Q QP s h=>
(aW (s.tm 0)=true)/\bL (s.tm 0) fun t6=>
aa Pg .lss 3 false (s.tm 1) t6 fun t7=>
k5 W Q QP ⟨aj s.tm [(7,(s.tm 1)),(8,(s.tm 0)),(9,t6),(10,t7),(11,t7)],s.ds⟩ h
noncomputable def c1:Code:=Code.at code [1,0,0,0]
theorem l1:aw Pg 21 W pl c1 Q QP s h=k6 W Q QP s h:=congrFun (congrFun (show TB ⟨Pg,21,pl⟩ W QP c1 Q (k6 W Q QP) from
(sn
(bk 1 (sm (k2 W Q QP)))
(sn
(cd (k3 W Q QP) tr tr)
(gr (gn (k6 W Q QP) (gx (k5 W Q QP) (gl (k4 W Q QP)))))))) s) h
def k7:OK:=fun W Q QP s h=>lb (aw Pg 21 W pl c1) (eG 0 (b_ (k1 W Q QP) (Q))) QP s h
def k8:OK:=fun W Q QP s h=>
k7 W Q QP ⟨aj s.tm [(6,(.sc (.int .i64 0)))],s.ds⟩ h
end
theorem calls{x0 x1 x2:AV}{h:AH}{M:WK}{R:RK}(hp:k8 (fun id=>M id\/h.next<=id) (cQ Pg [.tmp 6] R) (bF R) (s0 [x0,x1,x2]) h):ay Pg 53 [x0,x1,x2] h M R:=
 kI (n:=21) (pl:=pl) k8 Tryz.mixed Tryz.func53 (fun W Q QP=>
(sq (k8 W Q QP)
(sn
(sl (k1 W Q QP))
(bk 0 (lo (k7 W Q QP)))))) hp
attribute [simp] k1 k2 k3 k4 k5 k6 k7 k8
end L1
namespace Za
def pl:dm:=[]
def k1:OK:=fun _ Q _ s h=>
aa Pg .neq 5 true (s.tm 0) (.sc (.int .u8 10)) fun t1=>
Q .ret ⟨aj s.tm [(3,(s.tm 0)),(4,t1),(2,t1)],s.ds⟩ h
def k2:OK:=fun W Q QP s h=>
k1 W Q QP ⟨aj s.tm [(2,(.sc (.bool false)))],s.ds⟩ h
theorem calls{x0:AV}{h:AH}{M:WK}{R:RK}(hp:k2 (fun id=>M id\/h.next<=id) (cQ Pg [.tmp 2] R) (bF R) (s0 [x0]) h):ay Pg 54 [x0] h M R:=
 kI (n:=5) (pl:=pl) k2 Tryz.mixed Tryz.func54 (fun W Q QP=>
(sq (k2 W Q QP)
(sl (k1 W Q QP)))) hp
attribute [simp] k1 k2
end Za
namespace Y_
def pl:dm:=[(1,⟨[(none,(fr 0 3)),(some (2,true),(fr 3 2)),(none,(fr 5 2)),(some (6,false),(fr 7 3)),(some (9,true),(fr 10 2)),(some (6,false),(fr 12 1)),(none,(fr 13 2)),(some (14,false),(fr 15 2)),(none,(fr 17 2))],false,[],[]⟩)]
def k1:OK:=fun _ Q _ s h=>
Q .ret s h
def k2:OK:=fun W Q QP s h=>
aJ (s.tm 17) (.sc (.bool true)) (s.tm 19) fun t1=>
k1 W Q QP ⟨aj s.tm [(20,t1),(2,t1)],s.ds⟩ h
def k3:OK:=fun W Q QP s h=>
bd false (s.tm 17) (
aa Pg .eql 5 true (s.tm 0) (.sc (.int .u8 95)) fun t2=>
k2 W Q QP ⟨aj s.tm [(18,(s.tm 0)),(19,t2)],s.ds⟩ h) (
k2 W Q QP ⟨aj s.tm [(18,ab),(19,ab)],s.ds⟩ h)
def k4:OK:=fun W Q QP s h=>
aJ (s.tm 9) (.sc (.bool true)) (s.tm 15) fun t3=>
k3 W Q QP ⟨aj s.tm [(16,t3),(17,t3)],s.ds⟩ h
def k5:OK:=fun W Q QP s h=>
bd false (s.tm 9) (
aJ (s.tm 12) (s.tm 14) (.sc (.bool false)) fun t4=>
k4 W Q QP ⟨aj s.tm [(15,t4)],s.ds⟩ h) (
k4 W Q QP ⟨aj s.tm [(15,ab)],s.ds⟩ h)
def k6:OK:=fun W Q QP s h=>
bd true (s.tm 12) (
aa Pg .leq 5 true (s.tm 0) (.sc (.int .u8 90)) fun t5=>
k5 W Q QP ⟨aj s.tm [(13,(s.tm 0)),(14,t5)],s.ds⟩ h) (
k5 W Q QP ⟨aj s.tm [(13,ab),(14,ab)],s.ds⟩ h)
def k7:OK:=fun W Q QP s h=>
bd false (s.tm 9) (
aa Pg .geq 5 true (s.tm 0) (.sc (.int .u8 65)) fun t6=>
k6 W Q QP ⟨aj s.tm [(10,(s.tm 0)),(11,t6),(12,t6)],s.ds⟩ h) (
k6 W Q QP ⟨aj s.tm [(10,ab),(11,ab),(12,ab)],s.ds⟩ h)
def k8:OK:=fun W Q QP s h=>
aJ (s.tm 5) (s.tm 7) (.sc (.bool false)) fun t7=>
k7 W Q QP ⟨aj s.tm [(8,t7),(9,t7)],s.ds⟩ h
def k9:OK:=fun W Q QP s h=>
bd true (s.tm 5) (
aa Pg .leq 5 true (s.tm 0) (.sc (.int .u8 122)) fun t8=>
k8 W Q QP ⟨aj s.tm [(6,(s.tm 0)),(7,t8)],s.ds⟩ h) (
k8 W Q QP ⟨aj s.tm [(6,ab),(7,ab)],s.ds⟩ h)
def dI:OK:=fun W Q QP s h=>
aa Pg .geq 5 true (s.tm 0) (.sc (.int .u8 97)) fun t9=>
k9 W Q QP ⟨aj s.tm [(3,(s.tm 0)),(4,t9),(5,t9)],s.ds⟩ h
def ep:OK:=fun W Q QP s h=>
dI W Q QP ⟨aj s.tm [(2,(.sc (.bool false)))],s.ds⟩ h
theorem calls{x0:AV}{h:AH}{M:WK}{R:RK}(hp:ep (fun id=>M id\/h.next<=id) (cQ Pg [.tmp 2] R) (bF R) (s0 [x0]) h):ay Pg 55 [x0] h M R:=
 kI (n:=21) (pl:=pl) ep Tryz.mixed Tryz.func55 (fun W Q QP=>
(sq (ep W Q QP)
(sn
(sm (k1 W Q QP))
(gr (gn (dI W Q QP) (gx (k9 W Q QP) (gn (k8 W Q QP) (gx (k7 W Q QP) (gx (k6 W Q QP) (gx (k5 W Q QP) (gn (k4 W Q QP) (gx (k3 W Q QP) (gl (k2 W Q QP)))))))))))))) hp
attribute [simp] k1 k2 k3 k4 k5 k6 k7 k8 k9 dI ep
end Y_
namespace HR
def pl:dm:=[(1,⟨[(none,(fr 0 3)),(some (2,false),(fr 3 2)),(none,(fr 5 2))],false,[],[]⟩)]
def k1:OK:=fun _ Q _ s h=>
Q .ret s h
def k2:OK:=fun W Q QP s h=>
aJ (s.tm 5) (.sc (.bool true)) (s.tm 7) fun t1=>
k1 W Q QP ⟨aj s.tm [(8,t1),(2,t1)],s.ds⟩ h
def k3:OK:=fun W Q QP s h=>
bd false (s.tm 5) (
aC Pg W 57 [(s.tm 0)] h (fun t2 h3=>
k2 W Q QP ⟨aj s.tm [(6,(s.tm 0)),(7,t2)],s.ds⟩ h3) (QP s.ds)) (
k2 W Q QP ⟨aj s.tm [(6,ab),(7,ab)],s.ds⟩ h)
def k4:OK:=fun W Q QP s h=>
aC Pg W 55 [(s.tm 0)] h (fun t4 h5=>
k3 W Q QP ⟨aj s.tm [(3,(s.tm 0)),(4,t4),(5,t4)],s.ds⟩ h5) (QP s.ds)
def k5:OK:=fun W Q QP s h=>
k4 W Q QP ⟨aj s.tm [(2,(.sc (.bool false)))],s.ds⟩ h
theorem calls{x0:AV}{h:AH}{M:WK}{R:RK}(hp:k5 (fun id=>M id\/h.next<=id) (cQ Pg [.tmp 2] R) (bF R) (s0 [x0]) h):ay Pg 56 [x0] h M R:=
 kI (n:=9) (pl:=pl) k5 Tryz.mixed Tryz.func56 (fun W Q QP=>
(sq (k5 W Q QP)
(sn
(sm (k1 W Q QP))
(gr (gn (k4 W Q QP) (gx (k3 W Q QP) (gl (k2 W Q QP)))))))) hp
attribute [simp] k1 k2 k3 k4 k5
end HR
namespace Y9
def pl:dm:=[(1,⟨[(none,(fr 0 3)),(some (2,true),(fr 3 2)),(none,(fr 5 2))],false,[],[]⟩)]
def k1:OK:=fun _ Q _ s h=>
Q .ret s h
def k2:OK:=fun W Q QP s h=>
aJ (s.tm 5) (s.tm 7) (.sc (.bool false)) fun t1=>
k1 W Q QP ⟨aj s.tm [(8,t1),(2,t1)],s.ds⟩ h
def k3:OK:=fun W Q QP s h=>
bd true (s.tm 5) (
aa Pg .leq 5 true (s.tm 0) (.sc (.int .u8 57)) fun t2=>
k2 W Q QP ⟨aj s.tm [(6,(s.tm 0)),(7,t2)],s.ds⟩ h) (
k2 W Q QP ⟨aj s.tm [(6,ab),(7,ab)],s.ds⟩ h)
def k4:OK:=fun W Q QP s h=>
aa Pg .geq 5 true (s.tm 0) (.sc (.int .u8 48)) fun t3=>
k3 W Q QP ⟨aj s.tm [(3,(s.tm 0)),(4,t3),(5,t3)],s.ds⟩ h
def k5:OK:=fun W Q QP s h=>
k4 W Q QP ⟨aj s.tm [(2,(.sc (.bool false)))],s.ds⟩ h
theorem calls{x0:AV}{h:AH}{M:WK}{R:RK}(hp:k5 (fun id=>M id\/h.next<=id) (cQ Pg [.tmp 2] R) (bF R) (s0 [x0]) h):ay Pg 57 [x0] h M R:=
 kI (n:=9) (pl:=pl) k5 Tryz.mixed Tryz.func57 (fun W Q QP=>
(sq (k5 W Q QP)
(sn
(sm (k1 W Q QP))
(gr (gn (k4 W Q QP) (gx (k3 W Q QP) (gl (k2 W Q QP)))))))) hp
attribute [simp] k1 k2 k3 k4 k5
end Y9
namespace V4
def pl:dm:=[(1,⟨[(none,(fr 0 3)),(some (2,true),(fr 3 2)),(none,(fr 5 2))],false,[],[]⟩)]
def k1:OK:=fun _ Q _ s h=>
Q .ret s h
def k2:OK:=fun W Q QP s h=>
aJ (s.tm 5) (s.tm 7) (.sc (.bool false)) fun t1=>
k1 W Q QP ⟨aj s.tm [(8,t1),(2,t1)],s.ds⟩ h
def k3:OK:=fun W Q QP s h=>
bd true (s.tm 5) (
aa Pg .leq 5 true (s.tm 0) (.sc (.int .u8 57)) fun t2=>
k2 W Q QP ⟨aj s.tm [(6,(s.tm 0)),(7,t2)],s.ds⟩ h) (
k2 W Q QP ⟨aj s.tm [(6,ab),(7,ab)],s.ds⟩ h)
def k4:OK:=fun W Q QP s h=>
aa Pg .geq 5 true (s.tm 0) (.sc (.int .u8 48)) fun t3=>
k3 W Q QP ⟨aj s.tm [(3,(s.tm 0)),(4,t3),(5,t3)],s.ds⟩ h
def k5:OK:=fun W Q QP s h=>
k4 W Q QP ⟨aj s.tm [(2,(.sc (.bool false)))],s.ds⟩ h
theorem calls{x0:AV}{h:AH}{M:WK}{R:RK}(hp:k5 (fun id=>M id\/h.next<=id) (cQ Pg [.tmp 2] R) (bF R) (s0 [x0]) h):ay Pg 115 [x0] h M R:=
 kI (n:=9) (pl:=pl) k5 Tryz.mixed Tryz.func115 (fun W Q QP=>
(sq (k5 W Q QP)
(sn
(sm (k1 W Q QP))
(gr (gn (k4 W Q QP) (gx (k3 W Q QP) (gl (k2 W Q QP)))))))) hp
attribute [simp] k1 k2 k3 k4 k5
end V4
namespace V3
def pl:dm:=[(1,⟨[(none,(fr 0 3)),(some (2,true),(fr 3 2)),(none,(fr 5 2)),(some (6,false),(fr 7 3)),(some (9,true),(fr 10 2)),(some (6,false),(fr 12 1)),(none,(fr 13 2)),(some (14,false),(fr 15 2)),(none,(fr 17 2))],false,[],[]⟩)]
def k1:OK:=fun _ Q _ s h=>
Q .ret s h
def k2:OK:=fun W Q QP s h=>
aJ (s.tm 17) (.sc (.bool true)) (s.tm 19) fun t1=>
k1 W Q QP ⟨aj s.tm [(20,t1),(2,t1)],s.ds⟩ h
def k3:OK:=fun W Q QP s h=>
bd false (s.tm 17) (
aa Pg .eql 5 true (s.tm 0) (.sc (.int .u8 95)) fun t2=>
k2 W Q QP ⟨aj s.tm [(18,(s.tm 0)),(19,t2)],s.ds⟩ h) (
k2 W Q QP ⟨aj s.tm [(18,ab),(19,ab)],s.ds⟩ h)
def k4:OK:=fun W Q QP s h=>
aJ (s.tm 9) (.sc (.bool true)) (s.tm 15) fun t3=>
k3 W Q QP ⟨aj s.tm [(16,t3),(17,t3)],s.ds⟩ h
def k5:OK:=fun W Q QP s h=>
bd false (s.tm 9) (
aJ (s.tm 12) (s.tm 14) (.sc (.bool false)) fun t4=>
k4 W Q QP ⟨aj s.tm [(15,t4)],s.ds⟩ h) (
k4 W Q QP ⟨aj s.tm [(15,ab)],s.ds⟩ h)
def k6:OK:=fun W Q QP s h=>
bd true (s.tm 12) (
aa Pg .leq 5 true (s.tm 0) (.sc (.int .u8 90)) fun t5=>
k5 W Q QP ⟨aj s.tm [(13,(s.tm 0)),(14,t5)],s.ds⟩ h) (
k5 W Q QP ⟨aj s.tm [(13,ab),(14,ab)],s.ds⟩ h)
def k7:OK:=fun W Q QP s h=>
bd false (s.tm 9) (
aa Pg .geq 5 true (s.tm 0) (.sc (.int .u8 65)) fun t6=>
k6 W Q QP ⟨aj s.tm [(10,(s.tm 0)),(11,t6),(12,t6)],s.ds⟩ h) (
k6 W Q QP ⟨aj s.tm [(10,ab),(11,ab),(12,ab)],s.ds⟩ h)
def k8:OK:=fun W Q QP s h=>
aJ (s.tm 5) (s.tm 7) (.sc (.bool false)) fun t7=>
k7 W Q QP ⟨aj s.tm [(8,t7),(9,t7)],s.ds⟩ h
def k9:OK:=fun W Q QP s h=>
bd true (s.tm 5) (
aa Pg .leq 5 true (s.tm 0) (.sc (.int .u8 122)) fun t8=>
k8 W Q QP ⟨aj s.tm [(6,(s.tm 0)),(7,t8)],s.ds⟩ h) (
k8 W Q QP ⟨aj s.tm [(6,ab),(7,ab)],s.ds⟩ h)
def dI:OK:=fun W Q QP s h=>
aa Pg .geq 5 true (s.tm 0) (.sc (.int .u8 97)) fun t9=>
k9 W Q QP ⟨aj s.tm [(3,(s.tm 0)),(4,t9),(5,t9)],s.ds⟩ h
def ep:OK:=fun W Q QP s h=>
dI W Q QP ⟨aj s.tm [(2,(.sc (.bool false)))],s.ds⟩ h
theorem calls{x0:AV}{h:AH}{M:WK}{R:RK}(hp:ep (fun id=>M id\/h.next<=id) (cQ Pg [.tmp 2] R) (bF R) (s0 [x0]) h):ay Pg 116 [x0] h M R:=
 kI (n:=21) (pl:=pl) ep Tryz.mixed Tryz.func116 (fun W Q QP=>
(sq (ep W Q QP)
(sn
(sm (k1 W Q QP))
(gr (gn (dI W Q QP) (gx (k9 W Q QP) (gn (k8 W Q QP) (gx (k7 W Q QP) (gx (k6 W Q QP) (gx (k5 W Q QP) (gn (k4 W Q QP) (gx (k3 W Q QP) (gl (k2 W Q QP)))))))))))))) hp
attribute [simp] k1 k2 k3 k4 k5 k6 k7 k8 k9 dI ep
end V3
end
section
open Go.Ab
namespace gz
section
variable (W:WK) (Q:cG) (QP:cm) (s:St) (h:AH)
noncomputable def code:Code:=Tryz.f33.body.getD .skip
def pl:dm:=[(8,⟨[(none,(fr 0 3)),(some (2,false),(fr 3 2)),(none,(fr 5 2)),(some (6,false),(fr 7 2)),(none,(fr 9 2)),(some (10,false),(fr 11 2)),(none,(fr 13 2))],false,[],[]⟩),(16,⟨[(none,(fr 0 5)),(some (4,true),(fr 5 4)),(none,(fr 9 1))],false,[],[]⟩)]
def k1:OK:=fun _ Q _ s h=>
Q .ret ⟨aj s.tm [(84,(s.tm 5)),(2,(s.tm 5)),(3,(.sc (.int .i64 0))),(4,(.sc (.int .i64 0)))],s.ds⟩ h
def k2:OK:=fun _ Q _ s h=>
Q .normal ⟨aj s.tm [(83,(s.tm 8)),(6,(s.tm 8))],s.ds⟩ h
def k3:OK:=fun W Q QP s h=>
vU (s.tm 0) (some (s.tm 6)) (some (s.tm 8)) fun t1=>
ck (some ([.int .i64 0,.string ⟨#[]⟩,.int .i64 0],.inl [(0,1),(1,1),(2,1)])) [(0,(s.tm 9)),(1,t1),(2,(s.tm 6))] fun t2=>
db (some (3,117,[.int .i64 0,.string ⟨#[]⟩,.int .i64 0])) 1 [(0,t2)] h fun t3 h4=>
dV (some (3,32,117)) (s.tm 5) t3 h4 W fun t5 h6=>
k2 W Q QP ⟨aj s.tm [(73,(s.tm 5)),(74,(s.tm 9)),(75,(s.tm 0)),(76,(s.tm 6)),(77,(s.tm 8)),(78,t1),(79,(s.tm 6)),(80,t2),(81,t3),(82,t5),(5,t5)],s.ds⟩ h6
def k4:OK:=fun _ Q _ s h=>
aa Pg .add 3 true (s.tm 6) (.sc (.int .i64 1)) fun t7=>
Q .normal ⟨aj s.tm [(37,(s.tm 6)),(38,t7),(6,t7)],s.ds⟩ h
def k5:OK:=fun W Q QP s h=>
aC Pg W 53 [(s.tm 0),(s.tm 6),(.fn (.func 54) [] [])] h (fun t8 h9=>
Q .normal ⟨aj s.tm [(42,(s.tm 0)),(43,(s.tm 6)),(44,t8),(6,t8)],s.ds⟩ h9) (QP s.ds)
def k6:OK:=fun _ Q _ s h=>
Q .ret ⟨aj s.tm [(67,(s.tm 8)),(2,(.sc (.slice none 0 0))),(3,(s.tm 8)),(4,(.sc (.int .i64 90)))],s.ds⟩ h
def k7:OK:=fun W Q QP s h=>
aE (s.tm 66) (
k6 W Q QP s h) (
k3 W Q QP s h)
def k8:OK:=fun W Q QP s h=>
aJ (s.tm 61) (s.tm 65) (.sc (.bool false)) fun t12=>
k7 W Q QP ⟨aj s.tm [(66,t12)],s.ds⟩ h
def k9:OK:=fun W Q QP s h=>
bd true (s.tm 61) (
oC true (s.tm 0) (s.tm 8) fun t13=>
aC Pg W 55 [t13] h (fun t14 vD=>
k8 W Q QP ⟨aj s.tm [(62,(s.tm 0)),(63,(s.tm 8)),(64,t13),(65,t14)],s.ds⟩ vD) (QP s.ds)) (
k8 W Q QP ⟨aj s.tm [(62,ab),(63,ab),(64,ab),(65,ab)],s.ds⟩ h)
def dI:OK:=fun W Q QP s h=>
(aW (s.tm 0)=true)/\bL (s.tm 0) fun t16=>
aa Pg .lss 3 false (s.tm 8) t16 fun t17=>
k9 W Q QP ⟨aj s.tm [(57,(s.tm 8)),(58,(s.tm 0)),(59,t16),(60,t17),(61,t17)],s.ds⟩ h
def ep:OK:=fun W Q QP s h=>
aC Pg W 53 [(s.tm 0),(s.tm 6),(.fn (.func 57) [] [])] h (fun t18 vC=>
dI W Q QP ⟨aj s.tm [(54,(s.tm 0)),(55,(s.tm 6)),(56,t18),(8,t18),(9,(.sc (.int .i64 2)))],s.ds⟩ vC) (QP s.ds)
def gY:OK:=fun _ Q _ s h=>
Q .ret ⟨aj s.tm [(72,(s.tm 6)),(2,(.sc (.slice none 0 0))),(3,(s.tm 6)),(4,(.sc (.int .i64 90)))],s.ds⟩ h
def jh:OK:=fun W Q QP s h=>
aE (s.tm 68) (
gY W Q QP s h) (
k3 W Q QP s h)
def jc:OK:=fun W Q QP s h=>
aC Pg W 58 [(.sc (.string ⟨#[123,125,91,93,59,44]⟩)),(s.tm 7)] h (fun t20 sR=>
aa Pg .lss 3 true t20 (.sc (.int .i64 0)) fun t22=>
jh W Q QP ⟨aj s.tm [(69,(s.tm 7)),(70,t20),(71,t22),(68,t22)],s.ds⟩ sR) (QP s.ds)
def iR:OK:=fun W Q QP s h=>
aE (s.tm 51) (
ep W Q QP s h) (
jc W Q QP s h)
def jR:OK:=fun W Q QP s h=>
aC Pg W 57 [(s.tm 7)] h (fun t23 vB=>
iR W Q QP ⟨aj s.tm [(52,(s.tm 7)),(53,t23),(51,t23)],s.ds⟩ vB) (QP s.ds)
def jb:OK:=fun W Q QP s h=>
aE (s.tm 45) (
aC Pg W 53 [(s.tm 0),(s.tm 6),(.fn (.func 56) [] [])] h (fun t10 mq=>
k3 W Q QP ⟨aj s.tm [(48,(s.tm 0)),(49,(s.tm 6)),(50,t10),(8,t10),(9,(.sc (.int .i64 1)))],s.ds⟩ mq) (QP s.ds)) (
jR W Q QP s h)
def oV:OK:=fun W Q QP s h=>
aC Pg W 55 [(s.tm 7)] h (fun t25 mV=>
jb W Q QP ⟨aj s.tm [(46,(s.tm 7)),(47,t25),(45,t25)],s.ds⟩ mV) (QP s.ds)
def oU:OK:=fun W Q QP s h=>
aE (s.tm 39) (
k5 W Q QP s h) (
oV W Q QP s h)
def oE:OK:=fun W Q QP s h=>
aa Pg .eql 5 true (s.tm 7) (.sc (.int .u8 35)) fun t27=>
oU W Q QP ⟨aj s.tm [(40,(s.tm 7)),(41,t27),(39,t27)],s.ds⟩ h
def qa:OK:=fun W Q QP s h=>
aE (s.tm 22) (
k4 W Q QP s h) (
oE W Q QP s h)
def mQ:OK:=fun W Q QP s h=>
aJ (s.tm 33) (.sc (.bool true)) (s.tm 35) fun t28=>
qa W Q QP ⟨aj s.tm [(36,t28),(22,t28)],s.ds⟩ h
def p_:OK:=fun W Q QP s h=>
bd false (s.tm 33) (
aa Pg .eql 5 true (s.tm 7) (.sc (.int .u8 32)) fun t29=>
mQ W Q QP ⟨aj s.tm [(34,(s.tm 7)),(35,t29)],s.ds⟩ h) (
mQ W Q QP ⟨aj s.tm [(34,ab),(35,ab)],s.ds⟩ h)
def oT:OK:=fun W Q QP s h=>
aJ (s.tm 29) (.sc (.bool true)) (s.tm 31) fun t30=>
p_ W Q QP ⟨aj s.tm [(32,t30),(33,t30)],s.ds⟩ h
def sH:OK:=fun W Q QP s h=>
bd false (s.tm 29) (
aa Pg .eql 5 true (s.tm 7) (.sc (.int .u8 13)) fun t31=>
oT W Q QP ⟨aj s.tm [(30,(s.tm 7)),(31,t31)],s.ds⟩ h) (
oT W Q QP ⟨aj s.tm [(30,ab),(31,ab)],s.ds⟩ h)
def AQ:OK:=fun W Q QP s h=>
aJ (s.tm 25) (.sc (.bool true)) (s.tm 27) fun t32=>
sH W Q QP ⟨aj s.tm [(28,t32),(29,t32)],s.ds⟩ h
def CV:OK:=fun W Q QP s h=>
bd false (s.tm 25) (
aa Pg .eql 5 true (s.tm 7) (.sc (.int .u8 10)) fun t33=>
AQ W Q QP ⟨aj s.tm [(26,(s.tm 7)),(27,t33)],s.ds⟩ h) (
AQ W Q QP ⟨aj s.tm [(26,ab),(27,ab)],s.ds⟩ h)
def yj:OK:=fun W Q QP s h=>
aa Pg .eql 5 true (s.tm 7) (.sc (.int .u8 9)) fun t34=>
CV W Q QP ⟨aj s.tm [(23,(s.tm 7)),(24,t34),(25,t34)],s.ds⟩ h
def AP:OK:=fun W Q QP s h=>
aa Pg .add 3 true (s.tm 6) (.sc (.int .i64 1)) fun t35=>
yj W Q QP ⟨aj s.tm [(20,(s.tm 6)),(21,t35),(8,t35),(9,(.sc (.int .i64 3)))],s.ds⟩ h
def yi:OK:=fun W Q QP s h=>
oC true (s.tm 0) (s.tm 6) fun t36=>
AP W Q QP ⟨aj s.tm [(17,(s.tm 0)),(18,(s.tm 6)),(19,t36),(7,t36)],s.ds⟩ h
def yh:OK:=fun W Q QP s h=>
aE (s.tm 16) (
yi W Q QP s h) (
Q (.exit 0) s h)
def wm:OK:=fun W Q QP s h=>
(aW (s.tm 0)=true)/\bL (s.tm 0) fun t37=>
aa Pg .lss 3 false (s.tm 6) t37 fun t38=>
yh W Q QP ⟨aj s.tm [(13,(s.tm 6)),(14,(s.tm 0)),(15,t37),(16,t38)],s.ds⟩ h
noncomputable def c1:Code:=Code.at code [1,0,1,1,1,1,0,0,0]
theorem l1:aw Pg 85 W pl c1 Q QP s h=wm W Q QP s h:=congrFun (congrFun (show TB ⟨Pg,85,pl⟩ W QP c1 Q (wm W Q QP) from
(sn
(bk 1 (sq (yi W Q QP)
(sq (AP W Q QP)
(sn
(sq (k3 W Q QP)
(sm (k2 W Q QP)))
(bk 2 (sn
(cd (qa W Q QP) (sl (k4 W Q QP)) (sq (oE W Q QP)
(cd (oU W Q QP) (sl (k5 W Q QP)) (sq (oV W Q QP)
(cd (jb W Q QP) tr (sq (jR W Q QP)
(cd (iR W Q QP) (sq (ep W Q QP)
(sn
(cd (k7 W Q QP) (sl (k6 W Q QP)) tr)
(gr (gn (dI W Q QP) (gx (k9 W Q QP) (gl (k8 W Q QP))))))) (sq (jc W Q QP)
(cd (jh W Q QP) (sl (gY W Q QP)) tr)))))))))
(gr (gn (yj W Q QP) (gx (CV W Q QP) (gn (AQ W Q QP) (gx (sH W Q QP) (gn (oT W Q QP) (gx (p_ W Q QP) (gl (mQ W Q QP)))))))))))))))
(sq (wm W Q QP)
(cd (yh W Q QP) tr tr)))) s) h
def yg:OK:=fun W Q QP s h=>lb (aw Pg 85 W pl c1) (eG 0 (b_ (k1 W Q QP) (pi (Q)))) QP s h
def CU:OK:=fun W Q QP s h=>
yg W Q QP s h
def yf:OK:=fun W Q QP s h=>
CU W Q QP ⟨aj s.tm [(6,(.sc (.int .i64 0)))],s.ds⟩ h
def tK:OK:=fun W Q QP s h=>
yf W Q QP ⟨aj s.tm [(5,(.sc (.slice none 0 0)))],s.ds⟩ h
def CT:OK:=fun _ Q _ s h=>
Q .ret ⟨aj s.tm [(2,(.sc (.slice none 0 0))),(3,(.sc (.int .i64 0))),(4,(.sc (.int .i64 1)))],s.ds⟩ h
def ye:OK:=fun W Q QP s h=>
aE (s.tm 12) (
CT W Q QP s h) (
tK W Q QP s h)
def AN:OK:=fun W Q QP s h=>
(aW (s.tm 0)=true)/\bL (s.tm 0) fun t39=>
aa Pg .gtr 3 true t39 (.sc (.int .i64 65536)) fun t40=>
ye W Q QP ⟨aj s.tm [(10,(s.tm 0)),(11,t39),(12,t40)],s.ds⟩ h
def yd:OK:=fun W Q QP s h=>
AN W Q QP ⟨aj s.tm [(2,(.sc (.slice none 0 0))),(3,(.sc (.int .i64 0))),(4,(.sc (.int .i64 0)))],s.ds⟩ h
end
theorem calls{x0:AV}{h:AH}{M:WK}{R:RK}(hp:yd (fun id=>M id\/h.next<=id) (cQ Pg [.tmp 2,.tmp 3,.tmp 4] R) (bF R) (s0 [x0]) h):ay Pg 33 [x0] h M R:=
 kI (n:=85) (pl:=pl) yd Tryz.mixed Tryz.func33 (fun W Q QP=>
(sq (yd W Q QP)
(sp (sn
(sq (tK W Q QP)
(sq (yf W Q QP)
(sq (CU W Q QP)
(sn
(sl (k1 W Q QP))
(bk 0 (lo (yg W Q QP)))))))
(sq (AN W Q QP)
(cd (ye W Q QP) (sl (CT W Q QP)) tr)))))) hp
attribute [simp] k1 k2 k3 k4 k5 k6 k7 k8 k9 dI ep gY jh jc iR jR jb oV oU oE qa mQ p_ oT sH AQ CV yj AP yi yh wm yg CU yf tK CT ye AN yd
end gz
end
section
open Go.Ab
section
variable (W:Nat->Prop) (Q:cG) (QP:cm) (s:St) (h:AH)
noncomputable def bx.code:Code:=Tryz.f34.body.getD .skip
def bx.pl:dm:=[(5,⟨[(none,[(0,false),(1,true),(2,false),(3,true),(4,false),(5,false),(6,false)])],true,[],[]⟩)]
theorem bx.ok:kA Pg bx.pl (Code.at bx.code [1])=true:=by kernel_rfl
def bx.t1(W:Nat->Prop)(Q:cG)(s:St)(h:AH):Prop:=
 ∃Hd:Nat->Nat,(∀i∈[1,3],h.obj (Hd i)≠none)/\(
 ag (some 0) (s.tm 4) fun t1=>
 ai (some false) (some 1) t1 h fun t2 i3=>
 (i3=Hd 1)/\(
 ag (some 1) (s.tm 4) fun t4=>
 ai (some false) (some 1) t4 h fun t5 i6=>
 (i6=Hd 3)/\(
 aG (some 1) (s.tm 0) (.sc (.slice none 0 0)) h (kL W Hd [1,3]) fun h7=>
 aG (some 1) (s.tm 1) t2 h7 (kL W Hd [3]) fun h8=>
 aG (some 1) (s.tm 2) t5 h8 W fun h9=>
 Q .normal ⟨aj s.tm [(17,t1),(18,t2),(19,t4),(20,t5)],s.ds⟩ h9)))
def bx.k1(W:Nat->Prop)(Q:cG)(QP:cm)(s:St)(h:AH):Prop:=bx.t1 W Q s h
theorem bx.M4:aw Pg 21 W bx.pl (Code.at bx.code [1,1,0,1,1]) (Q) QP s h=bx.t1 W Q s h:=by kernel_rfl
theorem bx.DN:aw Pg 21 W bx.pl (Code.at bx.code [1,1,0,1,1]) (Q) QP s h=bx.k1 W Q QP s h:=(bx.M4 W Q QP s h)
def bx.t2(QP:cm)(s:St)(h:AH)(C0:KT):Prop:=
 aE (s.tm 15) (
 tB (s.tm 3) h (QP s.ds)) (
 C0 s h)
def bx.k2(W:Nat->Prop)(Q:cG)(QP:cm)(s:St)(h:AH):Prop:=bx.t2 QP s h (bx.k1 W Q QP)
theorem bx.M3(C0:KT):aE (lR s (.tmp 15)) (aw Pg 21 W bx.pl (Code.at bx.code [1,1,0,1,0,1,0]) (b_ (C0) (Q)) QP s h) (aw Pg 21 W bx.pl (Code.at bx.code [1,1,0,1,0,1,1]) (b_ (C0) (Q)) QP s h)=bx.t2 QP s h C0:=by kernel_rfl
theorem bx.II:aw Pg 21 W bx.pl (Code.at bx.code [1,1,0,1,0,1]) (b_ (bx.k1 W Q QP) (Q)) QP s h=bx.k2 W Q QP s h:=rm (a:=(Code.at bx.code [1,1,0,1,0,1,0])) (b:=(Code.at bx.code [1,1,0,1,0,1,1])) (by kernel_rfl) rfl rfl (bx.M3 W Q QP s h (bx.k1 W Q QP))
def bx.t3(s:St)(h:AH)(C0 C1:KT):Prop:=
 e_ .not (s.tm 5) fun t10=>
 C1 ⟨aj s.tm [(14,(s.tm 5)),(15,t10)],s.ds⟩ h
def bx.k3(W:Nat->Prop)(Q:cG)(QP:cm)(s:St)(h:AH):Prop:=bx.t3 s h (bx.k1 W Q QP) (bx.k2 W Q QP)
theorem bx.IH(C0 C1:KT):aw Pg 21 W bx.pl (Code.at bx.code [1,1,0,1,0,0]) (b_ (C1) (b_ (C0) (Q))) QP s h=bx.t3 s h C0 C1:=by kernel_rfl
theorem bx.IG:aw Pg 21 W bx.pl (Code.at bx.code [1,1,0,1,0]) (b_ (bx.k1 W Q QP) (Q)) QP s h=bx.k3 W Q QP s h:=iq (a:=(Code.at bx.code [1,1,0,1,0,0])) (b:=(Code.at bx.code [1,1,0,1,0,1])) (by kernel_rfl) (bx.II W Q QP) (bx.IH W Q QP s h (bx.k1 W Q QP) (bx.k2 W Q QP))
theorem bx.o1:aw Pg 21 W bx.pl (Code.at bx.code [1,1,0,1]) (Q) QP s h=bx.k3 W Q QP s h:=iq (a:=(Code.at bx.code [1,1,0,1,0])) (b:=(Code.at bx.code [1,1,0,1,1])) (by kernel_rfl) (bx.DN W Q QP) (bx.IG W Q QP s h)
def bx.t4(W:Nat->Prop)(s:St)(h:AH)(C0:KT):Prop:=
 CD (some false) 85 true (s.tm 3) fun t11=>
 cl t11 0 fun t12=>
 cl t11 1 fun t13=>
 bH (some [.int .i64 0,.int .i64 0]) 2 85 h fun t14 vD=>
 aG (some 2) t14 t12 vD W fun kU=>
 C0 ⟨aj s.tm [(10,(s.tm 3)),(11,t11),(9,t11),(12,t12),(13,t13),(4,t14),(5,t13)],s.ds⟩ kU
def bx.k4(W:Nat->Prop)(Q:cG)(QP:cm)(s:St)(h:AH):Prop:=bx.t4 W s h (bx.k3 W Q QP)
theorem bx.IF(C0:KT):aw Pg 21 W bx.pl (Code.at bx.code [1,1,0,0]) (b_ (C0) (Q)) QP s h=bx.t4 W s h C0:=by kernel_rfl
theorem bx.IE:aw Pg 21 W bx.pl (Code.at bx.code [1,1,0]) (Q) QP s h=bx.k4 W Q QP s h:=iq (a:=(Code.at bx.code [1,1,0,0])) (b:=(Code.at bx.code [1,1,0,1])) (by kernel_rfl) (bx.o1 W Q QP) (bx.IF W Q QP s h (bx.k3 W Q QP))
def bx.t5(Q:cG)(s:St)(h:AH)(C0:KT):Prop:=
 aE (s.tm 8) (
 C0 s h) (
 Q .normal s h)
def bx.k5(W:Nat->Prop)(Q:cG)(QP:cm)(s:St)(h:AH):Prop:=bx.t5 Q s h (bx.k4 W Q QP)
theorem bx.ZG(C0:KT):aE (lR s (.tmp 8)) (C0 s h) (aw Pg 21 W bx.pl (Code.at bx.code [1,1,1]) (Q) QP s h)=bx.t5 Q s h C0:=by kernel_rfl
theorem bx.ID:aw Pg 21 W bx.pl (Code.at bx.code [1,1]) (Q) QP s h=bx.k5 W Q QP s h:=rm (a:=(Code.at bx.code [1,1,0])) (b:=(Code.at bx.code [1,1,1])) (by kernel_rfl) (bx.IE W Q QP s h) rfl (bx.ZG W Q QP s h (bx.k4 W Q QP))
def bx.t6(s:St)(h:AH)(C0:KT):Prop:=
 aa Pg .neq 20 true (s.tm 3) (.sc (.nilIface)) fun t17=>
 C0 ⟨aj s.tm [(7,(s.tm 3)),(8,t17)],s.ds⟩ h
def bx.k6(W:Nat->Prop)(Q:cG)(QP:cm)(s:St)(h:AH):Prop:=bx.t6 s h (bx.k5 W Q QP)
theorem bx.IC(C0:KT):aw Pg 21 W bx.pl (Code.at bx.code [1,0]) (b_ (C0) (Q)) QP s h=bx.t6 s h C0:=by kernel_rfl
theorem bx.IB:aw Pg 21 W bx.pl (Code.at bx.code [1]) (Q) QP s h=bx.k6 W Q QP s h:=iq (a:=(Code.at bx.code [1,0])) (b:=(Code.at bx.code [1,1])) (by kernel_rfl) (bx.ID W Q QP) (bx.IC W Q QP s h (bx.k5 W Q QP))
end
attribute [simp] bx.k1 bx.t1 bx.k2 bx.t2 bx.k3 bx.t3 bx.k4 bx.t4 bx.k5 bx.t5 bx.k6 bx.t6
end
end Go.Proofs.YtjehibknlmehmaaGreatDoor
