/- Bodies of the scanner; printed. No condition. -/
import Derived.Test.YtjehibknlmehmaaGl
set_option maxRecDepth 100000
namespace Go.Proofs.Ytjehibknlmehmaa
section
open Go.Ab
namespace LP
section
variable (W:WK) (Q:c7) (QP:cL) (s:St) (h:AH)
noncomputable def code:Code:=Try.f65.body.getD .skip
def pl:eS:=[(1,⟨[(none,(fr 0 5)),(some (4,true),(fr 5 5)),(none,(fr 10 1))],false,[],[]⟩)]
def k1:OK:=fun _ Q _ s h=>
Q .ret ⟨aA s.tm [(20,(s.tm 1)),(6,(s.tm 1))],s.ds⟩ h
def k2:OK:=fun _ Q _ s h=>
ah Pg .add 3 true (s.tm 1) (.sc (.int .i64 1)) fun t1=>
Q .normal ⟨aA s.tm [(18,(s.tm 1)),(19,t1),(1,t1)],s.ds⟩ h
def k3:OK:=fun W Q QP s h=>
aH (s.tm 17) (
k2 W Q QP s h) (
Q (.exit 0) s h)
def k4:OK:=fun W Q QP s h=>
aV (s.tm 11) (s.tm 16) (.sc (.bool false)) fun t2=>
k3 W Q QP ⟨aA s.tm [(17,t2)],s.ds⟩ h
def k5:OK:=fun W Q QP s h=>
bF true (s.tm 11) (
tn true (s.tm 0) (s.tm 1) fun t3=>
Gu Pg W (s.tm 2) [t3] h (fun t4 h5=>
k4 W Q QP ⟨aA s.tm [(12,(s.tm 2)),(13,(s.tm 0)),(14,(s.tm 1)),(15,t3),(16,t4)],s.ds⟩ h5) (QP s.ds)) (
k4 W Q QP ⟨aA s.tm [(12,aa),(13,aa),(14,aa),(15,aa),(16,aa)],s.ds⟩ h)
def k6:OK:=fun W Q QP s h=>
(ba (s.tm 0)=true)/\bK (s.tm 0) fun t6=>
ah Pg .lss 3 false (s.tm 1) t6 fun t7=>
k5 W Q QP ⟨aA s.tm [(7,(s.tm 1)),(8,(s.tm 0)),(9,t6),(10,t7),(11,t7)],s.ds⟩ h
noncomputable def c1:Code:=Code.at code [1,0,0,0]
theorem l1:aw Pg 21 W pl c1 Q QP s h=k6 W Q QP s h:=congrFun (congrFun (show TB ⟨Pg,21,pl⟩ W QP c1 Q (k6 W Q QP) from
(sn
(bk 1 (sm (k2 W Q QP)))
(sn
(cd (k3 W Q QP) tr tr)
(gr (gn (k6 W Q QP) (gx (k5 W Q QP) (gl (k4 W Q QP)))))))) s) h
def k7:OK:=fun W Q QP s h=>l_ (aw Pg 21 W pl c1) (fI 0 (cC (k1 W Q QP) (Q))) QP s h
def k8:OK:=fun W Q QP s h=>
k7 W Q QP ⟨aA s.tm [(6,(.sc (.int .i64 0)))],s.ds⟩ h
end
theorem calls{x0 x1 x2:AV}{h:AH}{M:WK}{R:RK}(hp:k8 (fun id=>M id\/h.next<=id) (dP Pg [.tmp 6] R) (bT R) (s0 [x0,x1,x2]) h):aE Pg 65 [x0,x1,x2] h M R:=
 qL (n:=21) (pl:=pl) k8 Try.mixed Try.func65 (fun W Q QP=>
(sq (k8 W Q QP)
(sn
(sl (k1 W Q QP))
(bk 0 (lo (k7 W Q QP)))))) hp
attribute [simp] k1 k2 k3 k4 k5 k6 k7 k8
end LP
namespace YT
def pl:eS:=[]
def k1:OK:=fun _ Q _ s h=>
ah Pg .neq 5 true (s.tm 0) (.sc (.int .u8 10)) fun t1=>
Q .ret ⟨aA s.tm [(3,(s.tm 0)),(4,t1),(2,t1)],s.ds⟩ h
def k2:OK:=fun W Q QP s h=>
k1 W Q QP ⟨aA s.tm [(2,(.sc (.bool false)))],s.ds⟩ h
theorem calls{x0:AV}{h:AH}{M:WK}{R:RK}(hp:k2 (fun id=>M id\/h.next<=id) (dP Pg [.tmp 2] R) (bT R) (s0 [x0]) h):aE Pg 66 [x0] h M R:=
 qL (n:=5) (pl:=pl) k2 Try.mixed Try.func66 (fun W Q QP=>
(sq (k2 W Q QP)
(sl (k1 W Q QP)))) hp
attribute [simp] k1 k2
end YT
namespace YS
def pl:eS:=[(1,⟨[(none,(fr 0 3)),(some (2,true),(fr 3 2)),(none,(fr 5 2)),(some (6,false),(fr 7 3)),(some (9,true),(fr 10 2)),(some (6,false),(fr 12 1)),(none,(fr 13 2)),(some (14,false),(fr 15 2)),(none,(fr 17 2))],false,[],[]⟩)]
def k1:OK:=fun _ Q _ s h=>
Q .ret s h
def k2:OK:=fun W Q QP s h=>
aV (s.tm 17) (.sc (.bool true)) (s.tm 19) fun t1=>
k1 W Q QP ⟨aA s.tm [(20,t1),(2,t1)],s.ds⟩ h
def k3:OK:=fun W Q QP s h=>
bF false (s.tm 17) (
ah Pg .eql 5 true (s.tm 0) (.sc (.int .u8 95)) fun t2=>
k2 W Q QP ⟨aA s.tm [(18,(s.tm 0)),(19,t2)],s.ds⟩ h) (
k2 W Q QP ⟨aA s.tm [(18,aa),(19,aa)],s.ds⟩ h)
def k4:OK:=fun W Q QP s h=>
aV (s.tm 9) (.sc (.bool true)) (s.tm 15) fun t3=>
k3 W Q QP ⟨aA s.tm [(16,t3),(17,t3)],s.ds⟩ h
def k5:OK:=fun W Q QP s h=>
bF false (s.tm 9) (
aV (s.tm 12) (s.tm 14) (.sc (.bool false)) fun t4=>
k4 W Q QP ⟨aA s.tm [(15,t4)],s.ds⟩ h) (
k4 W Q QP ⟨aA s.tm [(15,aa)],s.ds⟩ h)
def k6:OK:=fun W Q QP s h=>
bF true (s.tm 12) (
ah Pg .leq 5 true (s.tm 0) (.sc (.int .u8 90)) fun t5=>
k5 W Q QP ⟨aA s.tm [(13,(s.tm 0)),(14,t5)],s.ds⟩ h) (
k5 W Q QP ⟨aA s.tm [(13,aa),(14,aa)],s.ds⟩ h)
def k7:OK:=fun W Q QP s h=>
bF false (s.tm 9) (
ah Pg .geq 5 true (s.tm 0) (.sc (.int .u8 65)) fun t6=>
k6 W Q QP ⟨aA s.tm [(10,(s.tm 0)),(11,t6),(12,t6)],s.ds⟩ h) (
k6 W Q QP ⟨aA s.tm [(10,aa),(11,aa),(12,aa)],s.ds⟩ h)
def k8:OK:=fun W Q QP s h=>
aV (s.tm 5) (s.tm 7) (.sc (.bool false)) fun t7=>
k7 W Q QP ⟨aA s.tm [(8,t7),(9,t7)],s.ds⟩ h
def k9:OK:=fun W Q QP s h=>
bF true (s.tm 5) (
ah Pg .leq 5 true (s.tm 0) (.sc (.int .u8 122)) fun t8=>
k8 W Q QP ⟨aA s.tm [(6,(s.tm 0)),(7,t8)],s.ds⟩ h) (
k8 W Q QP ⟨aA s.tm [(6,aa),(7,aa)],s.ds⟩ h)
def fF:OK:=fun W Q QP s h=>
ah Pg .geq 5 true (s.tm 0) (.sc (.int .u8 97)) fun t9=>
k9 W Q QP ⟨aA s.tm [(3,(s.tm 0)),(4,t9),(5,t9)],s.ds⟩ h
def iR:OK:=fun W Q QP s h=>
fF W Q QP ⟨aA s.tm [(2,(.sc (.bool false)))],s.ds⟩ h
theorem calls{x0:AV}{h:AH}{M:WK}{R:RK}(hp:iR (fun id=>M id\/h.next<=id) (dP Pg [.tmp 2] R) (bT R) (s0 [x0]) h):aE Pg 67 [x0] h M R:=
 qL (n:=21) (pl:=pl) iR Try.mixed Try.func67 (fun W Q QP=>
(sq (iR W Q QP)
(sn
(sm (k1 W Q QP))
(gr (gn (fF W Q QP) (gx (k9 W Q QP) (gn (k8 W Q QP) (gx (k7 W Q QP) (gx (k6 W Q QP) (gx (k5 W Q QP) (gn (k4 W Q QP) (gx (k3 W Q QP) (gl (k2 W Q QP)))))))))))))) hp
attribute [simp] k1 k2 k3 k4 k5 k6 k7 k8 k9 fF iR
end YS
namespace HY
def pl:eS:=[(1,⟨[(none,(fr 0 3)),(some (2,false),(fr 3 2)),(none,(fr 5 2))],false,[],[]⟩)]
def k1:OK:=fun _ Q _ s h=>
Q .ret s h
def k2:OK:=fun W Q QP s h=>
aV (s.tm 5) (.sc (.bool true)) (s.tm 7) fun t1=>
k1 W Q QP ⟨aA s.tm [(8,t1),(2,t1)],s.ds⟩ h
def k3:OK:=fun W Q QP s h=>
bF false (s.tm 5) (
aC Pg W 69 [(s.tm 0)] h (fun t2 h3=>
k2 W Q QP ⟨aA s.tm [(6,(s.tm 0)),(7,t2)],s.ds⟩ h3) (QP s.ds)) (
k2 W Q QP ⟨aA s.tm [(6,aa),(7,aa)],s.ds⟩ h)
def k4:OK:=fun W Q QP s h=>
aC Pg W 67 [(s.tm 0)] h (fun t4 h5=>
k3 W Q QP ⟨aA s.tm [(3,(s.tm 0)),(4,t4),(5,t4)],s.ds⟩ h5) (QP s.ds)
def k5:OK:=fun W Q QP s h=>
k4 W Q QP ⟨aA s.tm [(2,(.sc (.bool false)))],s.ds⟩ h
theorem calls{x0:AV}{h:AH}{M:WK}{R:RK}(hp:k5 (fun id=>M id\/h.next<=id) (dP Pg [.tmp 2] R) (bT R) (s0 [x0]) h):aE Pg 68 [x0] h M R:=
 qL (n:=9) (pl:=pl) k5 Try.mixed Try.func68 (fun W Q QP=>
(sq (k5 W Q QP)
(sn
(sm (k1 W Q QP))
(gr (gn (k4 W Q QP) (gx (k3 W Q QP) (gl (k2 W Q QP)))))))) hp
attribute [simp] k1 k2 k3 k4 k5
end HY
namespace YR
def pl:eS:=[(1,⟨[(none,(fr 0 3)),(some (2,true),(fr 3 2)),(none,(fr 5 2))],false,[],[]⟩)]
def k1:OK:=fun _ Q _ s h=>
Q .ret s h
def k2:OK:=fun W Q QP s h=>
aV (s.tm 5) (s.tm 7) (.sc (.bool false)) fun t1=>
k1 W Q QP ⟨aA s.tm [(8,t1),(2,t1)],s.ds⟩ h
def k3:OK:=fun W Q QP s h=>
bF true (s.tm 5) (
ah Pg .leq 5 true (s.tm 0) (.sc (.int .u8 57)) fun t2=>
k2 W Q QP ⟨aA s.tm [(6,(s.tm 0)),(7,t2)],s.ds⟩ h) (
k2 W Q QP ⟨aA s.tm [(6,aa),(7,aa)],s.ds⟩ h)
def k4:OK:=fun W Q QP s h=>
ah Pg .geq 5 true (s.tm 0) (.sc (.int .u8 48)) fun t3=>
k3 W Q QP ⟨aA s.tm [(3,(s.tm 0)),(4,t3),(5,t3)],s.ds⟩ h
def k5:OK:=fun W Q QP s h=>
k4 W Q QP ⟨aA s.tm [(2,(.sc (.bool false)))],s.ds⟩ h
theorem calls{x0:AV}{h:AH}{M:WK}{R:RK}(hp:k5 (fun id=>M id\/h.next<=id) (dP Pg [.tmp 2] R) (bT R) (s0 [x0]) h):aE Pg 69 [x0] h M R:=
 qL (n:=9) (pl:=pl) k5 Try.mixed Try.func69 (fun W Q QP=>
(sq (k5 W Q QP)
(sn
(sm (k1 W Q QP))
(gr (gn (k4 W Q QP) (gx (k3 W Q QP) (gl (k2 W Q QP)))))))) hp
attribute [simp] k1 k2 k3 k4 k5
end YR
end
section
open Go.Ab
namespace gV
section
variable (W:WK) (Q:c7) (QP:cL) (s:St) (h:AH)
noncomputable def code:Code:=Try.f44.body.getD .skip
def pl:eS:=[(8,⟨[(none,(fr 0 3)),(some (2,false),(fr 3 2)),(none,(fr 5 2)),(some (6,false),(fr 7 2)),(none,(fr 9 2)),(some (10,false),(fr 11 2)),(none,(fr 13 2))],false,[],[]⟩),(16,⟨[(none,(fr 0 5)),(some (4,true),(fr 5 4)),(none,(fr 9 1))],false,[],[]⟩)]
def k1:OK:=fun _ Q _ s h=>
Q .ret ⟨aA s.tm [(84,(s.tm 5)),(2,(s.tm 5)),(3,(.sc (.int .i64 0))),(4,(.sc (.int .i64 0)))],s.ds⟩ h
def k2:OK:=fun _ Q _ s h=>
Q .normal ⟨aA s.tm [(83,(s.tm 8)),(6,(s.tm 8))],s.ds⟩ h
def k3:OK:=fun W Q QP s h=>
wC (s.tm 0) (some (s.tm 6)) (some (s.tm 8)) fun t1=>
cR (some ([.int .i64 0,.string ⟨#[]⟩,.int .i64 0],.inl [(0,1),(1,1),(2,1)])) [(0,(s.tm 9)),(1,t1),(2,(s.tm 6))] fun t2=>
dX (some (3,126,[.int .i64 0,.string ⟨#[]⟩,.int .i64 0])) 1 [(0,t2)] h fun t3 h4=>
fu (some (3,32,126)) (s.tm 5) t3 h4 W fun t5 h6=>
k2 W Q QP ⟨aA s.tm [(73,(s.tm 5)),(74,(s.tm 9)),(75,(s.tm 0)),(76,(s.tm 6)),(77,(s.tm 8)),(78,t1),(79,(s.tm 6)),(80,t2),(81,t3),(82,t5),(5,t5)],s.ds⟩ h6
def k4:OK:=fun _ Q _ s h=>
ah Pg .add 3 true (s.tm 6) (.sc (.int .i64 1)) fun t7=>
Q .normal ⟨aA s.tm [(37,(s.tm 6)),(38,t7),(6,t7)],s.ds⟩ h
def k5:OK:=fun W Q QP s h=>
aC Pg W 65 [(s.tm 0),(s.tm 6),(.fn (.func 66) [] [])] h (fun t8 h9=>
Q .normal ⟨aA s.tm [(42,(s.tm 0)),(43,(s.tm 6)),(44,t8),(6,t8)],s.ds⟩ h9) (QP s.ds)
def k6:OK:=fun _ Q _ s h=>
Q .ret ⟨aA s.tm [(67,(s.tm 8)),(2,(.sc (.slice none 0 0))),(3,(s.tm 8)),(4,(.sc (.int .i64 90)))],s.ds⟩ h
def k7:OK:=fun W Q QP s h=>
aH (s.tm 66) (
k6 W Q QP s h) (
k3 W Q QP s h)
def k8:OK:=fun W Q QP s h=>
aV (s.tm 61) (s.tm 65) (.sc (.bool false)) fun t12=>
k7 W Q QP ⟨aA s.tm [(66,t12)],s.ds⟩ h
def k9:OK:=fun W Q QP s h=>
bF true (s.tm 61) (
tn true (s.tm 0) (s.tm 8) fun t13=>
aC Pg W 67 [t13] h (fun t14 vR=>
k8 W Q QP ⟨aA s.tm [(62,(s.tm 0)),(63,(s.tm 8)),(64,t13),(65,t14)],s.ds⟩ vR) (QP s.ds)) (
k8 W Q QP ⟨aA s.tm [(62,aa),(63,aa),(64,aa),(65,aa)],s.ds⟩ h)
def fF:OK:=fun W Q QP s h=>
(ba (s.tm 0)=true)/\bK (s.tm 0) fun t16=>
ah Pg .lss 3 false (s.tm 8) t16 fun t17=>
k9 W Q QP ⟨aA s.tm [(57,(s.tm 8)),(58,(s.tm 0)),(59,t16),(60,t17),(61,t17)],s.ds⟩ h
def iR:OK:=fun W Q QP s h=>
aC Pg W 65 [(s.tm 0),(s.tm 6),(.fn (.func 69) [] [])] h (fun t18 qJ=>
fF W Q QP ⟨aA s.tm [(54,(s.tm 0)),(55,(s.tm 6)),(56,t18),(8,t18),(9,(.sc (.int .i64 2)))],s.ds⟩ qJ) (QP s.ds)
def kQ:OK:=fun _ Q _ s h=>
Q .ret ⟨aA s.tm [(72,(s.tm 6)),(2,(.sc (.slice none 0 0))),(3,(s.tm 6)),(4,(.sc (.int .i64 90)))],s.ds⟩ h
def nj:OK:=fun W Q QP s h=>
aH (s.tm 68) (
kQ W Q QP s h) (
k3 W Q QP s h)
def nP:OK:=fun W Q QP s h=>
aC Pg W 70 [(.sc (.string ⟨#[123,125,91,93,59,44]⟩)),(s.tm 7)] h (fun t20 yY=>
ah Pg .lss 3 true t20 (.sc (.int .i64 0)) fun t22=>
nj W Q QP ⟨aA s.tm [(69,(s.tm 7)),(70,t20),(71,t22),(68,t22)],s.ds⟩ yY) (QP s.ds)
def oG:OK:=fun W Q QP s h=>
aH (s.tm 51) (
iR W Q QP s h) (
nP W Q QP s h)
def oZ:OK:=fun W Q QP s h=>
aC Pg W 69 [(s.tm 7)] h (fun t23 sV=>
oG W Q QP ⟨aA s.tm [(52,(s.tm 7)),(53,t23),(51,t23)],s.ds⟩ sV) (QP s.ds)
def nO:OK:=fun W Q QP s h=>
aH (s.tm 45) (
aC Pg W 65 [(s.tm 0),(s.tm 6),(.fn (.func 68) [] [])] h (fun t10 nU=>
k3 W Q QP ⟨aA s.tm [(48,(s.tm 0)),(49,(s.tm 6)),(50,t10),(8,t10),(9,(.sc (.int .i64 1)))],s.ds⟩ nU) (QP s.ds)) (
oZ W Q QP s h)
def sK:OK:=fun W Q QP s h=>
aC Pg W 67 [(s.tm 7)] h (fun t25 mS=>
nO W Q QP ⟨aA s.tm [(46,(s.tm 7)),(47,t25),(45,t25)],s.ds⟩ mS) (QP s.ds)
def sJ:OK:=fun W Q QP s h=>
aH (s.tm 39) (
k5 W Q QP s h) (
sK W Q QP s h)
def rJ:OK:=fun W Q QP s h=>
ah Pg .eql 5 true (s.tm 7) (.sc (.int .u8 35)) fun t27=>
sJ W Q QP ⟨aA s.tm [(40,(s.tm 7)),(41,t27),(39,t27)],s.ds⟩ h
def vC:OK:=fun W Q QP s h=>
aH (s.tm 22) (
k4 W Q QP s h) (
rJ W Q QP s h)
def qB:OK:=fun W Q QP s h=>
aV (s.tm 33) (.sc (.bool true)) (s.tm 35) fun t28=>
vC W Q QP ⟨aA s.tm [(36,t28),(22,t28)],s.ds⟩ h
def tR:OK:=fun W Q QP s h=>
bF false (s.tm 33) (
ah Pg .eql 5 true (s.tm 7) (.sc (.int .u8 32)) fun t29=>
qB W Q QP ⟨aA s.tm [(34,(s.tm 7)),(35,t29)],s.ds⟩ h) (
qB W Q QP ⟨aA s.tm [(34,aa),(35,aa)],s.ds⟩ h)
def sI:OK:=fun W Q QP s h=>
aV (s.tm 29) (.sc (.bool true)) (s.tm 31) fun t30=>
tR W Q QP ⟨aA s.tm [(32,t30),(33,t30)],s.ds⟩ h
def A9:OK:=fun W Q QP s h=>
bF false (s.tm 29) (
ah Pg .eql 5 true (s.tm 7) (.sc (.int .u8 13)) fun t31=>
sI W Q QP ⟨aA s.tm [(30,(s.tm 7)),(31,t31)],s.ds⟩ h) (
sI W Q QP ⟨aA s.tm [(30,aa),(31,aa)],s.ds⟩ h)
def A8:OK:=fun W Q QP s h=>
aV (s.tm 25) (.sc (.bool true)) (s.tm 27) fun t32=>
A9 W Q QP ⟨aA s.tm [(28,t32),(29,t32)],s.ds⟩ h
def Df:OK:=fun W Q QP s h=>
bF false (s.tm 25) (
ah Pg .eql 5 true (s.tm 7) (.sc (.int .u8 10)) fun t33=>
A8 W Q QP ⟨aA s.tm [(26,(s.tm 7)),(27,t33)],s.ds⟩ h) (
A8 W Q QP ⟨aA s.tm [(26,aa),(27,aa)],s.ds⟩ h)
def yF:OK:=fun W Q QP s h=>
ah Pg .eql 5 true (s.tm 7) (.sc (.int .u8 9)) fun t34=>
Df W Q QP ⟨aA s.tm [(23,(s.tm 7)),(24,t34),(25,t34)],s.ds⟩ h
def A7:OK:=fun W Q QP s h=>
ah Pg .add 3 true (s.tm 6) (.sc (.int .i64 1)) fun t35=>
yF W Q QP ⟨aA s.tm [(20,(s.tm 6)),(21,t35),(8,t35),(9,(.sc (.int .i64 3)))],s.ds⟩ h
def yE:OK:=fun W Q QP s h=>
tn true (s.tm 0) (s.tm 6) fun t36=>
A7 W Q QP ⟨aA s.tm [(17,(s.tm 0)),(18,(s.tm 6)),(19,t36),(7,t36)],s.ds⟩ h
def yD:OK:=fun W Q QP s h=>
aH (s.tm 16) (
yE W Q QP s h) (
Q (.exit 0) s h)
def wR:OK:=fun W Q QP s h=>
(ba (s.tm 0)=true)/\bK (s.tm 0) fun t37=>
ah Pg .lss 3 false (s.tm 6) t37 fun t38=>
yD W Q QP ⟨aA s.tm [(13,(s.tm 6)),(14,(s.tm 0)),(15,t37),(16,t38)],s.ds⟩ h
noncomputable def c1:Code:=Code.at code [1,0,1,1,1,1,0,0,0]
theorem l1:aw Pg 85 W pl c1 Q QP s h=wR W Q QP s h:=congrFun (congrFun (show TB ⟨Pg,85,pl⟩ W QP c1 Q (wR W Q QP) from
(sn
(bk 1 (sq (yE W Q QP)
(sq (A7 W Q QP)
(sn
(sq (k3 W Q QP)
(sm (k2 W Q QP)))
(bk 2 (sn
(cd (vC W Q QP) (sl (k4 W Q QP)) (sq (rJ W Q QP)
(cd (sJ W Q QP) (sl (k5 W Q QP)) (sq (sK W Q QP)
(cd (nO W Q QP) tr (sq (oZ W Q QP)
(cd (oG W Q QP) (sq (iR W Q QP)
(sn
(cd (k7 W Q QP) (sl (k6 W Q QP)) tr)
(gr (gn (fF W Q QP) (gx (k9 W Q QP) (gl (k8 W Q QP))))))) (sq (nP W Q QP)
(cd (nj W Q QP) (sl (kQ W Q QP)) tr)))))))))
(gr (gn (yF W Q QP) (gx (Df W Q QP) (gn (A8 W Q QP) (gx (A9 W Q QP) (gn (sI W Q QP) (gx (tR W Q QP) (gl (qB W Q QP)))))))))))))))
(sq (wR W Q QP)
(cd (yD W Q QP) tr tr)))) s) h
def yz:OK:=fun W Q QP s h=>l_ (aw Pg 85 W pl c1) (fI 0 (cC (k1 W Q QP) (pn (Q)))) QP s h
def De:OK:=fun W Q QP s h=>
yz W Q QP s h
def Dd:OK:=fun W Q QP s h=>
De W Q QP ⟨aA s.tm [(6,(.sc (.int .i64 0)))],s.ds⟩ h
def wQ:OK:=fun W Q QP s h=>
Dd W Q QP ⟨aA s.tm [(5,(.sc (.slice none 0 0)))],s.ds⟩ h
def Dc:OK:=fun _ Q _ s h=>
Q .ret ⟨aA s.tm [(2,(.sc (.slice none 0 0))),(3,(.sc (.int .i64 0))),(4,(.sc (.int .i64 1)))],s.ds⟩ h
def yy:OK:=fun W Q QP s h=>
aH (s.tm 12) (
Dc W Q QP s h) (
wQ W Q QP s h)
def A6:OK:=fun W Q QP s h=>
(ba (s.tm 0)=true)/\bK (s.tm 0) fun t39=>
ah Pg .gtr 3 true t39 (.sc (.int .i64 65536)) fun t40=>
yy W Q QP ⟨aA s.tm [(10,(s.tm 0)),(11,t39),(12,t40)],s.ds⟩ h
def vB:OK:=fun W Q QP s h=>
A6 W Q QP ⟨aA s.tm [(2,(.sc (.slice none 0 0))),(3,(.sc (.int .i64 0))),(4,(.sc (.int .i64 0)))],s.ds⟩ h
end
theorem calls{x0:AV}{h:AH}{M:WK}{R:RK}(hp:vB (fun id=>M id\/h.next<=id) (dP Pg [.tmp 2,.tmp 3,.tmp 4] R) (bT R) (s0 [x0]) h):aE Pg 44 [x0] h M R:=
 qL (n:=85) (pl:=pl) vB Try.mixed Try.func44 (fun W Q QP=>
(sq (vB W Q QP)
(sp (sn
(sq (wQ W Q QP)
(sq (Dd W Q QP)
(sq (De W Q QP)
(sn
(sl (k1 W Q QP))
(bk 0 (lo (yz W Q QP)))))))
(sq (A6 W Q QP)
(cd (yy W Q QP) (sl (Dc W Q QP)) tr)))))) hp
attribute [simp] k1 k2 k3 k4 k5 k6 k7 k8 k9 fF iR kQ nj nP oG oZ nO sK sJ rJ vC qB tR sI A9 A8 Df yF A7 yE yD wR yz De Dd wQ Dc yy A6 vB
end gV
end
section
open Go.Ab
section
variable (W:Nat->Prop) (Q:c7) (QP:cL) (s:St) (h:AH)
noncomputable def bE.code:Code:=Try.f45.body.getD .skip
def bE.pl:eS:=[(5,⟨[(none,[(0,false),(1,true),(2,false),(3,true),(4,false),(5,false),(6,false)])],true,[],[]⟩)]
theorem bE.ok:kM Pg bE.pl (Code.at bE.code [1])=true:=by kernel_rfl
def bE.t1(W:Nat->Prop)(Q:c7)(s:St)(h:AH):Prop:=
 ∃Hd:Nat->Nat,(∀i∈[1,3],h.obj (Hd i)≠none)/\(
 ai (some 0) (s.tm 4) fun t1=>
 al (some false) (some 1) t1 h fun t2 i3=>
 (i3=Hd 1)/\(
 ai (some 1) (s.tm 4) fun t4=>
 al (some false) (some 1) t4 h fun t5 i6=>
 (i6=Hd 3)/\(
 aG (some 1) (s.tm 0) (.sc (.slice none 0 0)) h (h_ W Hd [1,3]) fun h7=>
 aG (some 1) (s.tm 1) t2 h7 (h_ W Hd [3]) fun h8=>
 aG (some 1) (s.tm 2) t5 h8 W fun h9=>
 Q .normal ⟨aA s.tm [(17,t1),(18,t2),(19,t4),(20,t5)],s.ds⟩ h9)))
def bE.k1(W:Nat->Prop)(Q:c7)(QP:cL)(s:St)(h:AH):Prop:=bE.t1 W Q s h
theorem bE.Nb:aw Pg 21 W bE.pl (Code.at bE.code [1,1,0,1,1]) (Q) QP s h=bE.t1 W Q s h:=by kernel_rfl
theorem bE.DQ:aw Pg 21 W bE.pl (Code.at bE.code [1,1,0,1,1]) (Q) QP s h=bE.k1 W Q QP s h:=(bE.Nb W Q QP s h)
def bE.t2(QP:cL)(s:St)(h:AH)(C0:KT):Prop:=
 aH (s.tm 15) (
 tD (s.tm 3) h (QP s.ds)) (
 C0 s h)
def bE.k2(W:Nat->Prop)(Q:c7)(QP:cL)(s:St)(h:AH):Prop:=bE.t2 QP s h (bE.k1 W Q QP)
theorem bE.Na(C0:KT):aH (l8 s (.tmp 15)) (aw Pg 21 W bE.pl (Code.at bE.code [1,1,0,1,0,1,0]) (cC (C0) (Q)) QP s h) (aw Pg 21 W bE.pl (Code.at bE.code [1,1,0,1,0,1,1]) (cC (C0) (Q)) QP s h)=bE.t2 QP s h C0:=by kernel_rfl
theorem bE.IG:aw Pg 21 W bE.pl (Code.at bE.code [1,1,0,1,0,1]) (cC (bE.k1 W Q QP) (Q)) QP s h=bE.k2 W Q QP s h:=rh (a:=(Code.at bE.code [1,1,0,1,0,1,0])) (b:=(Code.at bE.code [1,1,0,1,0,1,1])) (by kernel_rfl) rfl rfl (bE.Na W Q QP s h (bE.k1 W Q QP))
def bE.t3(s:St)(h:AH)(C0 C1:KT):Prop:=
 im .not (s.tm 5) fun t10=>
 C1 ⟨aA s.tm [(14,(s.tm 5)),(15,t10)],s.ds⟩ h
def bE.k3(W:Nat->Prop)(Q:c7)(QP:cL)(s:St)(h:AH):Prop:=bE.t3 s h (bE.k1 W Q QP) (bE.k2 W Q QP)
theorem bE.IF(C0 C1:KT):aw Pg 21 W bE.pl (Code.at bE.code [1,1,0,1,0,0]) (cC (C1) (cC (C0) (Q))) QP s h=bE.t3 s h C0 C1:=by kernel_rfl
theorem bE.IE:aw Pg 21 W bE.pl (Code.at bE.code [1,1,0,1,0]) (cC (bE.k1 W Q QP) (Q)) QP s h=bE.k3 W Q QP s h:=iP (a:=(Code.at bE.code [1,1,0,1,0,0])) (b:=(Code.at bE.code [1,1,0,1,0,1])) (by kernel_rfl) (bE.IG W Q QP) (bE.IF W Q QP s h (bE.k1 W Q QP) (bE.k2 W Q QP))
theorem bE.o1:aw Pg 21 W bE.pl (Code.at bE.code [1,1,0,1]) (Q) QP s h=bE.k3 W Q QP s h:=iP (a:=(Code.at bE.code [1,1,0,1,0])) (b:=(Code.at bE.code [1,1,0,1,1])) (by kernel_rfl) (bE.DQ W Q QP) (bE.IE W Q QP s h)
def bE.t4(W:Nat->Prop)(s:St)(h:AH)(C0:KT):Prop:=
 CZ (some false) 101 true (s.tm 3) fun t11=>
 dm t11 0 fun t12=>
 dm t11 1 fun t13=>
 bw (some [.int .i64 0,.int .i64 0]) 2 101 h fun t14 vR=>
 aG (some 2) t14 t12 vR W fun sX=>
 C0 ⟨aA s.tm [(10,(s.tm 3)),(11,t11),(9,t11),(12,t12),(13,t13),(4,t14),(5,t13)],s.ds⟩ sX
def bE.k4(W:Nat->Prop)(Q:c7)(QP:cL)(s:St)(h:AH):Prop:=bE.t4 W s h (bE.k3 W Q QP)
theorem bE.ID(C0:KT):aw Pg 21 W bE.pl (Code.at bE.code [1,1,0,0]) (cC (C0) (Q)) QP s h=bE.t4 W s h C0:=by kernel_rfl
theorem bE.IC:aw Pg 21 W bE.pl (Code.at bE.code [1,1,0]) (Q) QP s h=bE.k4 W Q QP s h:=iP (a:=(Code.at bE.code [1,1,0,0])) (b:=(Code.at bE.code [1,1,0,1])) (by kernel_rfl) (bE.o1 W Q QP) (bE.ID W Q QP s h (bE.k3 W Q QP))
def bE.t5(Q:c7)(s:St)(h:AH)(C0:KT):Prop:=
 aH (s.tm 8) (
 C0 s h) (
 Q .normal s h)
def bE.k5(W:Nat->Prop)(Q:c7)(QP:cL)(s:St)(h:AH):Prop:=bE.t5 Q s h (bE.k4 W Q QP)
theorem bE.ZI(C0:KT):aH (l8 s (.tmp 8)) (C0 s h) (aw Pg 21 W bE.pl (Code.at bE.code [1,1,1]) (Q) QP s h)=bE.t5 Q s h C0:=by kernel_rfl
theorem bE.IB:aw Pg 21 W bE.pl (Code.at bE.code [1,1]) (Q) QP s h=bE.k5 W Q QP s h:=rh (a:=(Code.at bE.code [1,1,0])) (b:=(Code.at bE.code [1,1,1])) (by kernel_rfl) (bE.IC W Q QP s h) rfl (bE.ZI W Q QP s h (bE.k4 W Q QP))
def bE.t6(s:St)(h:AH)(C0:KT):Prop:=
 ah Pg .neq 20 true (s.tm 3) (.sc (.nilIface)) fun t17=>
 C0 ⟨aA s.tm [(7,(s.tm 3)),(8,t17)],s.ds⟩ h
def bE.k6(W:Nat->Prop)(Q:c7)(QP:cL)(s:St)(h:AH):Prop:=bE.t6 s h (bE.k5 W Q QP)
theorem bE.IA(C0:KT):aw Pg 21 W bE.pl (Code.at bE.code [1,0]) (cC (C0) (Q)) QP s h=bE.t6 s h C0:=by kernel_rfl
theorem bE.Iz:aw Pg 21 W bE.pl (Code.at bE.code [1]) (Q) QP s h=bE.k6 W Q QP s h:=iP (a:=(Code.at bE.code [1,0])) (b:=(Code.at bE.code [1,1])) (by kernel_rfl) (bE.IB W Q QP) (bE.IA W Q QP s h (bE.k5 W Q QP))
end
attribute [simp] bE.k1 bE.t1 bE.k2 bE.t2 bE.k3 bE.t3 bE.k4 bE.t4 bE.k5 bE.t5 bE.k6 bE.t6
end
end Go.Proofs.Ytjehibknlmehmaa
