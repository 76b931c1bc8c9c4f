/- Bodies of the scanner; printed. No condition. -/
import Derived.Test.YtjehibknlmehmaaGreatDoorGlk
set_option maxRecDepth 100000
namespace Go.Proofs.YtjehibknlmehmaaGreatDoor
section
open Go.Ab
namespace MH
section
variable (W:WK) (Q:ck) (QP:bU) (s:St) (h:AH)
noncomputable def code:Code:=Tryz.f53.body.getD .skip
def pl:dz:=[(1,⟨[(none,(fr 0 5)),(some (4,true),(fr 5 5)),(none,(fr 10 1))],false,[],[]⟩)]
def k1:OK:=fun _ Q _ s h=>
Q .ret ⟨ai s.tm [(20,(s.tm 1)),(6,(s.tm 1))],s.ds⟩ h
def k2:OK:=fun _ Q _ s h=>
ag Pg .add 3 true (s.tm 1) (.sc (.int .i64 1)) fun t1=>
Q .normal ⟨ai s.tm [(18,(s.tm 1)),(19,t1),(1,t1)],s.ds⟩ h
def k3:OK:=fun W Q QP s h=>
aM (s.tm 17) (
k2 W Q QP s h) (
Q (.exit 0) s h)
def k4:OK:=fun W Q QP s h=>
aT (s.tm 11) (s.tm 16) (.sc (.bool false)) fun t2=>
k3 W Q QP ⟨ai s.tm [(17,t2)],s.ds⟩ h
def k5:OK:=fun W Q QP s h=>
bE true (s.tm 11) (
rm true (s.tm 0) (s.tm 1) fun t3=>
GJ Pg W (s.tm 2) [t3] h (fun t4 h5=>
k4 W Q QP ⟨ai s.tm [(12,(s.tm 2)),(13,(s.tm 0)),(14,(s.tm 1)),(15,t3),(16,t4)],s.ds⟩ h5) (QP s.ds)) (
k4 W Q QP ⟨ai s.tm [(12,aa),(13,aa),(14,aa),(15,aa),(16,aa)],s.ds⟩ h)
def k6:OK:=fun W Q QP s h=>
(a_ (s.tm 0)=true)/\bO (s.tm 0) fun t6=>
ag Pg .lss 3 false (s.tm 1) t6 fun t7=>
k5 W Q QP ⟨ai s.tm [(7,(s.tm 1)),(8,(s.tm 0)),(9,t6),(10,t7),(11,t7)],s.ds⟩ h
noncomputable def c1:Code:=Code.at code [1,0,0,0]
theorem l1:aw Pg 21 W pl c1 Q QP s h=k6 W Q QP s h:=congrFun (congrFun (show TB ⟨Pg,21,pl⟩ W QP c1 Q (k6 W Q QP) from
(sn
(bk 1 (sm (k2 W Q QP)))
(sn
(cd (k3 W Q QP) tr tr)
(gr (gn (k6 W Q QP) (gx (k5 W Q QP) (gl (k4 W Q QP)))))))) s) h
def k7:OK:=fun W Q QP s h=>lz (aw Pg 21 W pl c1) (eI 0 (bL (k1 W Q QP) (Q))) QP s h
def k8:OK:=fun W Q QP s h=>
k7 W Q QP ⟨ai s.tm [(6,(.sc (.int .i64 0)))],s.ds⟩ h
end
theorem calls{x0 x1 x2:AV}{h:AH}{M:WK}{R:RK}(hp:k8 (fun id=>M id\/h.next<=id) (cM Pg [.tmp 6] R) (bx R) (s0 [x0,x1,x2]) h):aB Pg 53 [x0,x1,x2] h M R:=
 mA (n:=21) (pl:=pl) k8 Tryz.mixed Tryz.func53 (fun W Q QP=>
(sq (k8 W Q QP)
(sn
(sl (k1 W Q QP))
(bk 0 (lo (k7 W Q QP)))))) hp
attribute [simp] k1 k2 k3 k4 k5 k6 k7 k8
end MH
namespace F54
def pl:dz:=[]
def k1:OK:=fun _ Q _ s h=>
ag Pg .neq 5 true (s.tm 0) (.sc (.int .u8 10)) fun t1=>
Q .ret ⟨ai s.tm [(3,(s.tm 0)),(4,t1),(2,t1)],s.ds⟩ h
def k2:OK:=fun W Q QP s h=>
k1 W Q QP ⟨ai s.tm [(2,(.sc (.bool false)))],s.ds⟩ h
theorem calls{x0:AV}{h:AH}{M:WK}{R:RK}(hp:k2 (fun id=>M id\/h.next<=id) (cM Pg [.tmp 2] R) (bx R) (s0 [x0]) h):aB Pg 54 [x0] h M R:=
 mA (n:=5) (pl:=pl) k2 Tryz.mixed Tryz.func54 (fun W Q QP=>
(sq (k2 W Q QP)
(sl (k1 W Q QP)))) hp
attribute [simp] k1 k2
end F54
namespace F55
def pl:dz:=[(1,⟨[(none,(fr 0 3)),(some (2,true),(fr 3 2)),(none,(fr 5 2)),(some (6,false),(fr 7 3)),(some (9,true),(fr 10 2)),(some (6,false),(fr 12 1)),(none,(fr 13 2)),(some (14,false),(fr 15 2)),(none,(fr 17 2))],false,[],[]⟩)]
def k1:OK:=fun _ Q _ s h=>
Q .ret s h
def k2:OK:=fun W Q QP s h=>
aT (s.tm 17) (.sc (.bool true)) (s.tm 19) fun t1=>
k1 W Q QP ⟨ai s.tm [(20,t1),(2,t1)],s.ds⟩ h
def k3:OK:=fun W Q QP s h=>
bE false (s.tm 17) (
ag Pg .eql 5 true (s.tm 0) (.sc (.int .u8 95)) fun t2=>
k2 W Q QP ⟨ai s.tm [(18,(s.tm 0)),(19,t2)],s.ds⟩ h) (
k2 W Q QP ⟨ai s.tm [(18,aa),(19,aa)],s.ds⟩ h)
def k4:OK:=fun W Q QP s h=>
aT (s.tm 9) (.sc (.bool true)) (s.tm 15) fun t3=>
k3 W Q QP ⟨ai s.tm [(16,t3),(17,t3)],s.ds⟩ h
def k5:OK:=fun W Q QP s h=>
bE false (s.tm 9) (
aT (s.tm 12) (s.tm 14) (.sc (.bool false)) fun t4=>
k4 W Q QP ⟨ai s.tm [(15,t4)],s.ds⟩ h) (
k4 W Q QP ⟨ai s.tm [(15,aa)],s.ds⟩ h)
def k6:OK:=fun W Q QP s h=>
bE true (s.tm 12) (
ag Pg .leq 5 true (s.tm 0) (.sc (.int .u8 90)) fun t5=>
k5 W Q QP ⟨ai s.tm [(13,(s.tm 0)),(14,t5)],s.ds⟩ h) (
k5 W Q QP ⟨ai s.tm [(13,aa),(14,aa)],s.ds⟩ h)
def k7:OK:=fun W Q QP s h=>
bE false (s.tm 9) (
ag Pg .geq 5 true (s.tm 0) (.sc (.int .u8 65)) fun t6=>
k6 W Q QP ⟨ai s.tm [(10,(s.tm 0)),(11,t6),(12,t6)],s.ds⟩ h) (
k6 W Q QP ⟨ai s.tm [(10,aa),(11,aa),(12,aa)],s.ds⟩ h)
def k8:OK:=fun W Q QP s h=>
aT (s.tm 5) (s.tm 7) (.sc (.bool false)) fun t7=>
k7 W Q QP ⟨ai s.tm [(8,t7),(9,t7)],s.ds⟩ h
def k9:OK:=fun W Q QP s h=>
bE true (s.tm 5) (
ag Pg .leq 5 true (s.tm 0) (.sc (.int .u8 122)) fun t8=>
k8 W Q QP ⟨ai s.tm [(6,(s.tm 0)),(7,t8)],s.ds⟩ h) (
k8 W Q QP ⟨ai s.tm [(6,aa),(7,aa)],s.ds⟩ h)
def eF:OK:=fun W Q QP s h=>
ag Pg .geq 5 true (s.tm 0) (.sc (.int .u8 97)) fun t9=>
k9 W Q QP ⟨ai s.tm [(3,(s.tm 0)),(4,t9),(5,t9)],s.ds⟩ h
def gZ:OK:=fun W Q QP s h=>
eF W Q QP ⟨ai s.tm [(2,(.sc (.bool false)))],s.ds⟩ h
theorem calls{x0:AV}{h:AH}{M:WK}{R:RK}(hp:gZ (fun id=>M id\/h.next<=id) (cM Pg [.tmp 2] R) (bx R) (s0 [x0]) h):aB Pg 55 [x0] h M R:=
 mA (n:=21) (pl:=pl) gZ Tryz.mixed Tryz.func55 (fun W Q QP=>
(sq (gZ W Q QP)
(sn
(sm (k1 W Q QP))
(gr (gn (eF W Q QP) (gx (k9 W Q QP) (gn (k8 W Q QP) (gx (k7 W Q QP) (gx (k6 W Q QP) (gx (k5 W Q QP) (gn (k4 W Q QP) (gx (k3 W Q QP) (gl (k2 W Q QP)))))))))))))) hp
attribute [simp] k1 k2 k3 k4 k5 k6 k7 k8 k9 eF gZ
end F55
namespace Iu
def pl:dz:=[(1,⟨[(none,(fr 0 3)),(some (2,false),(fr 3 2)),(none,(fr 5 2))],false,[],[]⟩)]
def k1:OK:=fun _ Q _ s h=>
Q .ret s h
def k2:OK:=fun W Q QP s h=>
aT (s.tm 5) (.sc (.bool true)) (s.tm 7) fun t1=>
k1 W Q QP ⟨ai s.tm [(8,t1),(2,t1)],s.ds⟩ h
def k3:OK:=fun W Q QP s h=>
bE false (s.tm 5) (
aC Pg W 57 [(s.tm 0)] h (fun t2 h3=>
k2 W Q QP ⟨ai s.tm [(6,(s.tm 0)),(7,t2)],s.ds⟩ h3) (QP s.ds)) (
k2 W Q QP ⟨ai s.tm [(6,aa),(7,aa)],s.ds⟩ h)
def k4:OK:=fun W Q QP s h=>
aC Pg W 55 [(s.tm 0)] h (fun t4 h5=>
k3 W Q QP ⟨ai s.tm [(3,(s.tm 0)),(4,t4),(5,t4)],s.ds⟩ h5) (QP s.ds)
def k5:OK:=fun W Q QP s h=>
k4 W Q QP ⟨ai s.tm [(2,(.sc (.bool false)))],s.ds⟩ h
theorem calls{x0:AV}{h:AH}{M:WK}{R:RK}(hp:k5 (fun id=>M id\/h.next<=id) (cM Pg [.tmp 2] R) (bx R) (s0 [x0]) h):aB Pg 56 [x0] h M R:=
 mA (n:=9) (pl:=pl) k5 Tryz.mixed Tryz.func56 (fun W Q QP=>
(sq (k5 W Q QP)
(sn
(sm (k1 W Q QP))
(gr (gn (k4 W Q QP) (gx (k3 W Q QP) (gl (k2 W Q QP)))))))) hp
attribute [simp] k1 k2 k3 k4 k5
end Iu
namespace F57
def pl:dz:=[(1,⟨[(none,(fr 0 3)),(some (2,true),(fr 3 2)),(none,(fr 5 2))],false,[],[]⟩)]
def k1:OK:=fun _ Q _ s h=>
Q .ret s h
def k2:OK:=fun W Q QP s h=>
aT (s.tm 5) (s.tm 7) (.sc (.bool false)) fun t1=>
k1 W Q QP ⟨ai s.tm [(8,t1),(2,t1)],s.ds⟩ h
def k3:OK:=fun W Q QP s h=>
bE true (s.tm 5) (
ag Pg .leq 5 true (s.tm 0) (.sc (.int .u8 57)) fun t2=>
k2 W Q QP ⟨ai s.tm [(6,(s.tm 0)),(7,t2)],s.ds⟩ h) (
k2 W Q QP ⟨ai s.tm [(6,aa),(7,aa)],s.ds⟩ h)
def k4:OK:=fun W Q QP s h=>
ag Pg .geq 5 true (s.tm 0) (.sc (.int .u8 48)) fun t3=>
k3 W Q QP ⟨ai s.tm [(3,(s.tm 0)),(4,t3),(5,t3)],s.ds⟩ h
def k5:OK:=fun W Q QP s h=>
k4 W Q QP ⟨ai s.tm [(2,(.sc (.bool false)))],s.ds⟩ h
theorem calls{x0:AV}{h:AH}{M:WK}{R:RK}(hp:k5 (fun id=>M id\/h.next<=id) (cM Pg [.tmp 2] R) (bx R) (s0 [x0]) h):aB Pg 57 [x0] h M R:=
 mA (n:=9) (pl:=pl) k5 Tryz.mixed Tryz.func57 (fun W Q QP=>
(sq (k5 W Q QP)
(sn
(sm (k1 W Q QP))
(gr (gn (k4 W Q QP) (gx (k3 W Q QP) (gl (k2 W Q QP)))))))) hp
attribute [simp] k1 k2 k3 k4 k5
end F57
end
section
open Go.Ab
namespace fO
section
variable (W:WK) (Q:ck) (QP:bU) (s:St) (h:AH)
noncomputable def code:Code:=Tryz.f33.body.getD .skip
def pl:dz:=[(8,⟨[(none,(fr 0 3)),(some (2,false),(fr 3 2)),(none,(fr 5 2)),(some (6,false),(fr 7 2)),(none,(fr 9 2)),(some (10,false),(fr 11 2)),(none,(fr 13 2))],false,[],[]⟩),(16,⟨[(none,(fr 0 5)),(some (4,true),(fr 5 4)),(none,(fr 9 1))],false,[],[]⟩)]
def k1:OK:=fun _ Q _ s h=>
Q .ret ⟨ai s.tm [(84,(s.tm 5)),(2,(s.tm 5)),(3,(.sc (.int .i64 0))),(4,(.sc (.int .i64 0)))],s.ds⟩ h
def k2:OK:=fun _ Q _ s h=>
Q .normal ⟨ai s.tm [(83,(s.tm 8)),(6,(s.tm 8))],s.ds⟩ h
def k3:OK:=fun W Q QP s h=>
wj (s.tm 0) (some (s.tm 6)) (some (s.tm 8)) fun t1=>
bZ (some ([.int .i64 0,.string ⟨#[]⟩,.int .i64 0],.inl [(0,1),(1,1),(2,1)])) [(0,(s.tm 9)),(1,t1),(2,(s.tm 6))] fun t2=>
dK (some (3,117,[.int .i64 0,.string ⟨#[]⟩,.int .i64 0])) 1 [(0,t2)] h fun t3 h4=>
eh (some (3,32,117)) (s.tm 5) t3 h4 W fun t5 h6=>
k2 W Q QP ⟨ai s.tm [(73,(s.tm 5)),(74,(s.tm 9)),(75,(s.tm 0)),(76,(s.tm 6)),(77,(s.tm 8)),(78,t1),(79,(s.tm 6)),(80,t2),(81,t3),(82,t5),(5,t5)],s.ds⟩ h6
def k4:OK:=fun _ Q _ s h=>
ag Pg .add 3 true (s.tm 6) (.sc (.int .i64 1)) fun t7=>
Q .normal ⟨ai s.tm [(37,(s.tm 6)),(38,t7),(6,t7)],s.ds⟩ h
def k5:OK:=fun W Q QP s h=>
aC Pg W 53 [(s.tm 0),(s.tm 6),(.fn (.func 54) [] [])] h (fun t8 h9=>
Q .normal ⟨ai s.tm [(42,(s.tm 0)),(43,(s.tm 6)),(44,t8),(6,t8)],s.ds⟩ h9) (QP s.ds)
def k6:OK:=fun _ Q _ s h=>
Q .ret ⟨ai s.tm [(67,(s.tm 8)),(2,(.sc (.slice none 0 0))),(3,(s.tm 8)),(4,(.sc (.int .i64 90)))],s.ds⟩ h
def k7:OK:=fun W Q QP s h=>
aM (s.tm 66) (
k6 W Q QP s h) (
k3 W Q QP s h)
def k8:OK:=fun W Q QP s h=>
aT (s.tm 61) (s.tm 65) (.sc (.bool false)) fun t12=>
k7 W Q QP ⟨ai s.tm [(66,t12)],s.ds⟩ h
def k9:OK:=fun W Q QP s h=>
bE true (s.tm 61) (
rm true (s.tm 0) (s.tm 8) fun t13=>
aC Pg W 55 [t13] h (fun t14 yT=>
k8 W Q QP ⟨ai s.tm [(62,(s.tm 0)),(63,(s.tm 8)),(64,t13),(65,t14)],s.ds⟩ yT) (QP s.ds)) (
k8 W Q QP ⟨ai s.tm [(62,aa),(63,aa),(64,aa),(65,aa)],s.ds⟩ h)
def eF:OK:=fun W Q QP s h=>
(a_ (s.tm 0)=true)/\bO (s.tm 0) fun t16=>
ag Pg .lss 3 false (s.tm 8) t16 fun t17=>
k9 W Q QP ⟨ai s.tm [(57,(s.tm 8)),(58,(s.tm 0)),(59,t16),(60,t17),(61,t17)],s.ds⟩ h
def gZ:OK:=fun W Q QP s h=>
aC Pg W 53 [(s.tm 0),(s.tm 6),(.fn (.func 57) [] [])] h (fun t18 vK=>
eF W Q QP ⟨ai s.tm [(54,(s.tm 0)),(55,(s.tm 6)),(56,t18),(8,t18),(9,(.sc (.int .i64 2)))],s.ds⟩ vK) (QP s.ds)
def kq:OK:=fun _ Q _ s h=>
Q .ret ⟨ai s.tm [(72,(s.tm 6)),(2,(.sc (.slice none 0 0))),(3,(s.tm 6)),(4,(.sc (.int .i64 90)))],s.ds⟩ h
def mR:OK:=fun W Q QP s h=>
aM (s.tm 68) (
kq W Q QP s h) (
k3 W Q QP s h)
def nD:OK:=fun W Q QP s h=>
aC Pg W 58 [(.sc (.string ⟨#[123,125,91,93,59,44]⟩)),(s.tm 7)] h (fun t20 vI=>
ag Pg .lss 3 true t20 (.sc (.int .i64 0)) fun t22=>
mR W Q QP ⟨ai s.tm [(69,(s.tm 7)),(70,t20),(71,t22),(68,t22)],s.ds⟩ vI) (QP s.ds)
def nY:OK:=fun W Q QP s h=>
aM (s.tm 51) (
gZ W Q QP s h) (
nD W Q QP s h)
def oJ:OK:=fun W Q QP s h=>
aC Pg W 57 [(s.tm 7)] h (fun t23 vH=>
nY W Q QP ⟨ai s.tm [(52,(s.tm 7)),(53,t23),(51,t23)],s.ds⟩ vH) (QP s.ds)
def nC:OK:=fun W Q QP s h=>
aM (s.tm 45) (
aC Pg W 53 [(s.tm 0),(s.tm 6),(.fn (.func 56) [] [])] h (fun t10 qz=>
k3 W Q QP ⟨ai s.tm [(48,(s.tm 0)),(49,(s.tm 6)),(50,t10),(8,t10),(9,(.sc (.int .i64 1)))],s.ds⟩ qz) (QP s.ds)) (
oJ W Q QP s h)
def ss:OK:=fun W Q QP s h=>
aC Pg W 55 [(s.tm 7)] h (fun t25 nH=>
nC W Q QP ⟨ai s.tm [(46,(s.tm 7)),(47,t25),(45,t25)],s.ds⟩ nH) (QP s.ds)
def sr:OK:=fun W Q QP s h=>
aM (s.tm 39) (
k5 W Q QP s h) (
ss W Q QP s h)
def ry:OK:=fun W Q QP s h=>
ag Pg .eql 5 true (s.tm 7) (.sc (.int .u8 35)) fun t27=>
sr W Q QP ⟨ai s.tm [(40,(s.tm 7)),(41,t27),(39,t27)],s.ds⟩ h
def tC:OK:=fun W Q QP s h=>
aM (s.tm 22) (
k4 W Q QP s h) (
ry W Q QP s h)
def oI:OK:=fun W Q QP s h=>
aT (s.tm 33) (.sc (.bool true)) (s.tm 35) fun t28=>
tC W Q QP ⟨ai s.tm [(36,t28),(22,t28)],s.ds⟩ h
def tB:OK:=fun W Q QP s h=>
bE false (s.tm 33) (
ag Pg .eql 5 true (s.tm 7) (.sc (.int .u8 32)) fun t29=>
oI W Q QP ⟨ai s.tm [(34,(s.tm 7)),(35,t29)],s.ds⟩ h) (
oI W Q QP ⟨ai s.tm [(34,aa),(35,aa)],s.ds⟩ h)
def so:OK:=fun W Q QP s h=>
aT (s.tm 29) (.sc (.bool true)) (s.tm 31) fun t30=>
tB W Q QP ⟨ai s.tm [(32,t30),(33,t30)],s.ds⟩ h
def sk:OK:=fun W Q QP s h=>
bE false (s.tm 29) (
ag Pg .eql 5 true (s.tm 7) (.sc (.int .u8 13)) fun t31=>
so W Q QP ⟨ai s.tm [(30,(s.tm 7)),(31,t31)],s.ds⟩ h) (
so W Q QP ⟨ai s.tm [(30,aa),(31,aa)],s.ds⟩ h)
def Bf:OK:=fun W Q QP s h=>
aT (s.tm 25) (.sc (.bool true)) (s.tm 27) fun t32=>
sk W Q QP ⟨ai s.tm [(28,t32),(29,t32)],s.ds⟩ h
def C_:OK:=fun W Q QP s h=>
bE false (s.tm 25) (
ag Pg .eql 5 true (s.tm 7) (.sc (.int .u8 10)) fun t33=>
Bf W Q QP ⟨ai s.tm [(26,(s.tm 7)),(27,t33)],s.ds⟩ h) (
Bf W Q QP ⟨ai s.tm [(26,aa),(27,aa)],s.ds⟩ h)
def yF:OK:=fun W Q QP s h=>
ag Pg .eql 5 true (s.tm 7) (.sc (.int .u8 9)) fun t34=>
C_ W Q QP ⟨ai s.tm [(23,(s.tm 7)),(24,t34),(25,t34)],s.ds⟩ h
def Be:OK:=fun W Q QP s h=>
ag Pg .add 3 true (s.tm 6) (.sc (.int .i64 1)) fun t35=>
yF W Q QP ⟨ai s.tm [(20,(s.tm 6)),(21,t35),(8,t35),(9,(.sc (.int .i64 3)))],s.ds⟩ h
def yE:OK:=fun W Q QP s h=>
rm true (s.tm 0) (s.tm 6) fun t36=>
Be W Q QP ⟨ai s.tm [(17,(s.tm 0)),(18,(s.tm 6)),(19,t36),(7,t36)],s.ds⟩ h
def yD:OK:=fun W Q QP s h=>
aM (s.tm 16) (
yE W Q QP s h) (
Q (.exit 0) s h)
def wG:OK:=fun W Q QP s h=>
(a_ (s.tm 0)=true)/\bO (s.tm 0) fun t37=>
ag Pg .lss 3 false (s.tm 6) t37 fun t38=>
yD W Q QP ⟨ai s.tm [(13,(s.tm 6)),(14,(s.tm 0)),(15,t37),(16,t38)],s.ds⟩ h
noncomputable def c1:Code:=Code.at code [1,0,1,1,1,1,0,0,0]
theorem l1:aw Pg 85 W pl c1 Q QP s h=wG W Q QP s h:=congrFun (congrFun (show TB ⟨Pg,85,pl⟩ W QP c1 Q (wG W Q QP) from
(sn
(bk 1 (sq (yE W Q QP)
(sq (Be W Q QP)
(sn
(sq (k3 W Q QP)
(sm (k2 W Q QP)))
(bk 2 (sn
(cd (tC W Q QP) (sl (k4 W Q QP)) (sq (ry W Q QP)
(cd (sr W Q QP) (sl (k5 W Q QP)) (sq (ss W Q QP)
(cd (nC W Q QP) tr (sq (oJ W Q QP)
(cd (nY W Q QP) (sq (gZ W Q QP)
(sn
(cd (k7 W Q QP) (sl (k6 W Q QP)) tr)
(gr (gn (eF W Q QP) (gx (k9 W Q QP) (gl (k8 W Q QP))))))) (sq (nD W Q QP)
(cd (mR W Q QP) (sl (kq W Q QP)) tr)))))))))
(gr (gn (yF W Q QP) (gx (C_ W Q QP) (gn (Bf W Q QP) (gx (sk W Q QP) (gn (so W Q QP) (gx (tB W Q QP) (gl (oI W Q QP)))))))))))))))
(sq (wG W Q QP)
(cd (yD W Q QP) tr tr)))) s) h
def yz:OK:=fun W Q QP s h=>lz (aw Pg 85 W pl c1) (eI 0 (bL (k1 W Q QP) (pe (Q)))) QP s h
def C9:OK:=fun W Q QP s h=>
yz W Q QP s h
def yy:OK:=fun W Q QP s h=>
C9 W Q QP ⟨ai s.tm [(6,(.sc (.int .i64 0)))],s.ds⟩ h
def tA:OK:=fun W Q QP s h=>
yy W Q QP ⟨ai s.tm [(5,(.sc (.slice none 0 0)))],s.ds⟩ h
def C8:OK:=fun _ Q _ s h=>
Q .ret ⟨ai s.tm [(2,(.sc (.slice none 0 0))),(3,(.sc (.int .i64 0))),(4,(.sc (.int .i64 1)))],s.ds⟩ h
def yx:OK:=fun W Q QP s h=>
aM (s.tm 12) (
C8 W Q QP s h) (
tA W Q QP s h)
def Bc:OK:=fun W Q QP s h=>
(a_ (s.tm 0)=true)/\bO (s.tm 0) fun t39=>
ag Pg .gtr 3 true t39 (.sc (.int .i64 65536)) fun t40=>
yx W Q QP ⟨ai s.tm [(10,(s.tm 0)),(11,t39),(12,t40)],s.ds⟩ h
def yw:OK:=fun W Q QP s h=>
Bc W Q QP ⟨ai s.tm [(2,(.sc (.slice none 0 0))),(3,(.sc (.int .i64 0))),(4,(.sc (.int .i64 0)))],s.ds⟩ h
end
theorem calls{x0:AV}{h:AH}{M:WK}{R:RK}(hp:yw (fun id=>M id\/h.next<=id) (cM Pg [.tmp 2,.tmp 3,.tmp 4] R) (bx R) (s0 [x0]) h):aB Pg 33 [x0] h M R:=
 mA (n:=85) (pl:=pl) yw Tryz.mixed Tryz.func33 (fun W Q QP=>
(sq (yw W Q QP)
(sp (sn
(sq (tA W Q QP)
(sq (yy W Q QP)
(sq (C9 W Q QP)
(sn
(sl (k1 W Q QP))
(bk 0 (lo (yz W Q QP)))))))
(sq (Bc W Q QP)
(cd (yx W Q QP) (sl (C8 W Q QP)) tr)))))) hp
attribute [simp] k1 k2 k3 k4 k5 k6 k7 k8 k9 eF gZ kq mR nD nY oJ nC ss sr ry tC oI tB so sk Bf C_ yF Be yE yD wG yz C9 yy tA C8 yx Bc yw
end fO
end
section
open Go.Ab
section
variable (W:Nat->Prop) (Q:ck) (QP:bU) (s:St) (h:AH)
noncomputable def bd.code:Code:=Tryz.f34.body.getD .skip
def bd.pl:dz:=[(5,⟨[(none,[(0,false),(1,true),(2,false),(3,true),(4,false),(5,false),(6,false)])],true,[],[]⟩)]
theorem bd.ok:kl Pg bd.pl (Code.at bd.code [1])=true:=by kernel_rfl
def bd.t1(W:Nat->Prop)(Q:ck)(s:St)(h:AH):Prop:=
 ∃Hd:Nat->Nat,(∀i∈[1,3],h.obj (Hd i)≠none)/\(
 ah (some 0) (s.tm 4) fun t1=>
 al (some false) (some 1) t1 h fun t2 i3=>
 (i3=Hd 1)/\(
 ah (some 1) (s.tm 4) fun t4=>
 al (some false) (some 1) t4 h fun t5 i6=>
 (i6=Hd 3)/\(
 aE (some 1) (s.tm 0) (.sc (.slice none 0 0)) h (jG W Hd [1,3]) fun h7=>
 aE (some 1) (s.tm 1) t2 h7 (jG W Hd [3]) fun h8=>
 aE (some 1) (s.tm 2) t5 h8 W fun h9=>
 Q .normal ⟨ai s.tm [(17,t1),(18,t2),(19,t4),(20,t5)],s.ds⟩ h9)))
def bd.k1(W:Nat->Prop)(Q:ck)(QP:bU)(s:St)(h:AH):Prop:=bd.t1 W Q s h
theorem bd.NS:aw Pg 21 W bd.pl (Code.at bd.code [1,1,0,1,1]) (Q) QP s h=bd.t1 W Q s h:=by kernel_rfl
theorem bd.D_:aw Pg 21 W bd.pl (Code.at bd.code [1,1,0,1,1]) (Q) QP s h=bd.k1 W Q QP s h:=(bd.NS W Q QP s h)
def bd.t2(QP:bU)(s:St)(h:AH)(C0:KT):Prop:=
 aM (s.tm 15) (
 tg (s.tm 3) h (QP s.ds)) (
 C0 s h)
def bd.k2(W:Nat->Prop)(Q:ck)(QP:bU)(s:St)(h:AH):Prop:=bd.t2 QP s h (bd.k1 W Q QP)
theorem bd.NR(C0:KT):aM (lx s (.tmp 15)) (aw Pg 21 W bd.pl (Code.at bd.code [1,1,0,1,0,1,0]) (bL (C0) (Q)) QP s h) (aw Pg 21 W bd.pl (Code.at bd.code [1,1,0,1,0,1,1]) (bL (C0) (Q)) QP s h)=bd.t2 QP s h C0:=by kernel_rfl
theorem bd.Ja:aw Pg 21 W bd.pl (Code.at bd.code [1,1,0,1,0,1]) (bL (bd.k1 W Q QP) (Q)) QP s h=bd.k2 W Q QP s h:=qV (a:=(Code.at bd.code [1,1,0,1,0,1,0])) (b:=(Code.at bd.code [1,1,0,1,0,1,1])) (by kernel_rfl) rfl rfl (bd.NR W Q QP s h (bd.k1 W Q QP))
def bd.t3(s:St)(h:AH)(C0 C1:KT):Prop:=
 gM .not (s.tm 5) fun t10=>
 C1 ⟨ai s.tm [(14,(s.tm 5)),(15,t10)],s.ds⟩ h
def bd.k3(W:Nat->Prop)(Q:ck)(QP:bU)(s:St)(h:AH):Prop:=bd.t3 s h (bd.k1 W Q QP) (bd.k2 W Q QP)
theorem bd.I_(C0 C1:KT):aw Pg 21 W bd.pl (Code.at bd.code [1,1,0,1,0,0]) (bL (C1) (bL (C0) (Q))) QP s h=bd.t3 s h C0 C1:=by kernel_rfl
theorem bd.I9:aw Pg 21 W bd.pl (Code.at bd.code [1,1,0,1,0]) (bL (bd.k1 W Q QP) (Q)) QP s h=bd.k3 W Q QP s h:=gX (a:=(Code.at bd.code [1,1,0,1,0,0])) (b:=(Code.at bd.code [1,1,0,1,0,1])) (by kernel_rfl) (bd.Ja W Q QP) (bd.I_ W Q QP s h (bd.k1 W Q QP) (bd.k2 W Q QP))
theorem bd.o1:aw Pg 21 W bd.pl (Code.at bd.code [1,1,0,1]) (Q) QP s h=bd.k3 W Q QP s h:=gX (a:=(Code.at bd.code [1,1,0,1,0])) (b:=(Code.at bd.code [1,1,0,1,1])) (by kernel_rfl) (bd.D_ W Q QP) (bd.I9 W Q QP s h)
def bd.t4(W:Nat->Prop)(s:St)(h:AH)(C0:KT):Prop:=
 CT (some false) 85 true (s.tm 3) fun t11=>
 cf t11 0 fun t12=>
 cf t11 1 fun t13=>
 bn (some [.int .i64 0,.int .i64 0]) 2 85 h fun t14 yT=>
 aE (some 2) t14 t12 yT W fun mz=>
 C0 ⟨ai s.tm [(10,(s.tm 3)),(11,t11),(9,t11),(12,t12),(13,t13),(4,t14),(5,t13)],s.ds⟩ mz
def bd.k4(W:Nat->Prop)(Q:ck)(QP:bU)(s:St)(h:AH):Prop:=bd.t4 W s h (bd.k3 W Q QP)
theorem bd.I8(C0:KT):aw Pg 21 W bd.pl (Code.at bd.code [1,1,0,0]) (bL (C0) (Q)) QP s h=bd.t4 W s h C0:=by kernel_rfl
theorem bd.I7:aw Pg 21 W bd.pl (Code.at bd.code [1,1,0]) (Q) QP s h=bd.k4 W Q QP s h:=gX (a:=(Code.at bd.code [1,1,0,0])) (b:=(Code.at bd.code [1,1,0,1])) (by kernel_rfl) (bd.o1 W Q QP) (bd.I8 W Q QP s h (bd.k3 W Q QP))
def bd.t5(Q:ck)(s:St)(h:AH)(C0:KT):Prop:=
 aM (s.tm 8) (
 C0 s h) (
 Q .normal s h)
def bd.k5(W:Nat->Prop)(Q:ck)(QP:bU)(s:St)(h:AH):Prop:=bd.t5 Q s h (bd.k4 W Q QP)
theorem bd.aaE(C0:KT):aM (lx s (.tmp 8)) (C0 s h) (aw Pg 21 W bd.pl (Code.at bd.code [1,1,1]) (Q) QP s h)=bd.t5 Q s h C0:=by kernel_rfl
theorem bd.I6:aw Pg 21 W bd.pl (Code.at bd.code [1,1]) (Q) QP s h=bd.k5 W Q QP s h:=qV (a:=(Code.at bd.code [1,1,0])) (b:=(Code.at bd.code [1,1,1])) (by kernel_rfl) (bd.I7 W Q QP s h) rfl (bd.aaE W Q QP s h (bd.k4 W Q QP))
def bd.t6(s:St)(h:AH)(C0:KT):Prop:=
 ag Pg .neq 20 true (s.tm 3) (.sc (.nilIface)) fun t17=>
 C0 ⟨ai s.tm [(7,(s.tm 3)),(8,t17)],s.ds⟩ h
def bd.k6(W:Nat->Prop)(Q:ck)(QP:bU)(s:St)(h:AH):Prop:=bd.t6 s h (bd.k5 W Q QP)
theorem bd.I5(C0:KT):aw Pg 21 W bd.pl (Code.at bd.code [1,0]) (bL (C0) (Q)) QP s h=bd.t6 s h C0:=by kernel_rfl
theorem bd.I4:aw Pg 21 W bd.pl (Code.at bd.code [1]) (Q) QP s h=bd.k6 W Q QP s h:=gX (a:=(Code.at bd.code [1,0])) (b:=(Code.at bd.code [1,1])) (by kernel_rfl) (bd.I6 W Q QP) (bd.I5 W Q QP s h (bd.k5 W Q QP))
end
attribute [simp] bd.k1 bd.t1 bd.k2 bd.t2 bd.k3 bd.t3 bd.k4 bd.t4 bd.k5 bd.t5 bd.k6 bd.t6
end
end Go.Proofs.YtjehibknlmehmaaGreatDoor
