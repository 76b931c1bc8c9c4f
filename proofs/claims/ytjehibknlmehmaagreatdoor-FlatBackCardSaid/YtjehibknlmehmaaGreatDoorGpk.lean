/- Bodies of the reader; printed. No condition. -/
import Derived.Test.YtjehibknlmehmaaGreatDoorGsk
set_option maxRecDepth 100000
namespace Go.Proofs.YtjehibknlmehmaaGreatDoor
section
open Go.Ab
namespace Z9
def pl:dz:=[]
def k1:OK:=fun _ Q _ s h=>
Q .ret ⟨ai s.tm [(2,(.sc (.bool false)))],s.ds⟩ h
def k2:OK:=fun _ Q _ s h=>
Q .ret ⟨ai s.tm [(2,(.sc (.bool true)))],s.ds⟩ h
def k3:OK:=fun W Q QP s h=>
aM (s.tm 4) (
k2 W Q QP s h) (
k1 W Q QP s h)
def k4:OK:=fun W Q QP s h=>
aM (s.tm 4) (
k3 W Q QP s h) (
ag Pg .eql 9 true (s.tm 3) (.sc (.string ⟨#[114,101,115,101,116]⟩)) fun t1=>
k3 W Q QP ⟨ai s.tm [(11,t1),(4,t1)],s.ds⟩ h)
def k5:OK:=fun W Q QP s h=>
ag Pg .eql 9 true (s.tm 3) (.sc (.string ⟨#[109,101,97,115,117,114,101]⟩)) fun t2=>
k4 W Q QP ⟨ai s.tm [(10,t2),(4,t2)],s.ds⟩ h
def k6:OK:=fun W Q QP s h=>
aM (s.tm 4) (
k3 W Q QP s h) (
k5 W Q QP s h)
def k7:OK:=fun W Q QP s h=>
ag Pg .eql 9 true (s.tm 3) (.sc (.string ⟨#[105,102]⟩)) fun t3=>
k6 W Q QP ⟨ai s.tm [(9,t3),(4,t3)],s.ds⟩ h
def k8:OK:=fun W Q QP s h=>
aM (s.tm 4) (
k3 W Q QP s h) (
k7 W Q QP s h)
def k9:OK:=fun W Q QP s h=>
ag Pg .eql 9 true (s.tm 3) (.sc (.string ⟨#[114,101,112,101,97,116]⟩)) fun t4=>
k8 W Q QP ⟨ai s.tm [(8,t4),(4,t4)],s.ds⟩ h
def eF:OK:=fun W Q QP s h=>
aM (s.tm 4) (
k3 W Q QP s h) (
k9 W Q QP s h)
def gZ:OK:=fun W Q QP s h=>
ag Pg .eql 9 true (s.tm 3) (.sc (.string ⟨#[103,97,116,101]⟩)) fun t5=>
eF W Q QP ⟨ai s.tm [(7,t5),(4,t5)],s.ds⟩ h
def kq:OK:=fun W Q QP s h=>
aM (s.tm 4) (
k3 W Q QP s h) (
gZ W Q QP s h)
def mR:OK:=fun W Q QP s h=>
ag Pg .eql 9 true (s.tm 3) (.sc (.string ⟨#[98,105,116,115]⟩)) fun t6=>
kq W Q QP ⟨ai s.tm [(6,t6),(4,t6)],s.ds⟩ h
def nD:OK:=fun W Q QP s h=>
aM (s.tm 4) (
k3 W Q QP s h) (
mR W Q QP s h)
def nY:OK:=fun W Q QP s h=>
ag Pg .eql 9 true (s.tm 3) (.sc (.string ⟨#[113,117,98,105,116,115]⟩)) fun t7=>
nD W Q QP ⟨ai s.tm [(5,t7),(4,t7)],s.ds⟩ h
def oJ:OK:=fun W Q QP s h=>
nY W Q QP ⟨ai s.tm [(3,(s.tm 0))],s.ds⟩ h
def nC:OK:=fun W Q QP s h=>
oJ W Q QP ⟨ai s.tm [(2,(.sc (.bool false)))],s.ds⟩ h
theorem calls{x0:AV}{h:AH}{M:WK}{R:RK}(hp:nC (fun id=>M id\/h.next<=id) (cM Pg [.tmp 2] R) (bx R) (s0 [x0]) h):aB Pg 87 [x0] h M R:=
 mA (n:=12) (pl:=pl) nC Tryz.mixed Tryz.func87 (fun W Q QP=>
(sq (nC W Q QP)
(sn
(sl (k1 W Q QP))
(sq (oJ W Q QP)
(bk 0 (sn
(cd (k3 W Q QP) (sl (k2 W Q QP)) tr)
(sq (nY W Q QP)
(cd (nD W Q QP) tr (sq (mR W Q QP)
(cd (kq W Q QP) tr (sq (gZ W Q QP)
(cd (eF W Q QP) tr (sq (k9 W Q QP)
(cd (k8 W Q QP) tr (sq (k7 W Q QP)
(cd (k6 W Q QP) tr (sq (k5 W Q QP)
(cd (k4 W Q QP) tr tr)))))))))))))))))) hp
attribute [simp] k1 k2 k3 k4 k5 k6 k7 k8 k9 eF gZ kq mR nD nY oJ nC
end Z9
namespace Z_
def pl:dz:=[(1,⟨[(none,(fr 0 11)),(some (10,true),(fr 11 12)),(none,(fr 23 2)),(some (24,true),(fr 25 13)),(none,(fr 38 2))],false,[],[]⟩)]
def k1:OK:=fun _ Q _ s h=>
Q .ret s h
def k2:OK:=fun W Q QP s h=>
aT (s.tm 29) (s.tm 42) (.sc (.bool false)) fun t1=>
k1 W Q QP ⟨ai s.tm [(43,t1),(4,t1)],s.ds⟩ h
def k3:OK:=fun W Q QP s h=>
bE true (s.tm 29) (
aY (s.tm 0) fun t2=>
ah (some 0) t2 fun t3=>
al (some false) (some 1) t3 h fun t4 _=>
aY (s.tm 0) fun t6=>
ah (some 1) t6 fun t7=>
al (some false) (some 1) t7 h fun t8 _=>
cj (some (3,none)) t4 t8 fun t10=>
ah (some 1) t10 fun t11=>
al (some false) (some 1) t11 h fun t12 _=>
ag Pg .eql 9 false t12 (s.tm 1) fun t14=>
k2 W Q QP ⟨ai s.tm [(30,(s.tm 0)),(31,t2),(32,t3),(33,t4),(34,(s.tm 0)),(35,t6),(36,t7),(37,t8),(38,t10),(39,t11),(40,t12),(41,(s.tm 1)),(42,t14)],s.ds⟩ h) (
k2 W Q QP ⟨ai s.tm [(30,aa),(31,aa),(32,aa),(33,aa),(34,aa),(35,aa),(36,aa),(37,aa),(38,aa),(39,aa),(40,aa),(41,aa),(42,aa)],s.ds⟩ h)
def k4:OK:=fun W Q QP s h=>
aT (s.tm 15) (s.tm 27) (.sc (.bool false)) fun t15=>
k3 W Q QP ⟨ai s.tm [(28,t15),(29,t15)],s.ds⟩ h
def k5:OK:=fun W Q QP s h=>
bE true (s.tm 15) (
aY (s.tm 0) fun t16=>
ah (some 0) t16 fun t17=>
al (some false) (some 1) t17 h fun t18 _=>
aY (s.tm 0) fun t20=>
ah (some 1) t20 fun t21=>
al (some false) (some 1) t21 h fun t22 _=>
cj (some (3,none)) t18 t22 fun t24=>
ah (some 0) t24 fun t25=>
al (some false) (some 1) t25 h fun t26 _=>
ag Pg .eql 3 true t26 (.sc (.int .i64 3)) fun t28=>
k4 W Q QP ⟨ai s.tm [(16,(s.tm 0)),(17,t16),(18,t17),(19,t18),(20,(s.tm 0)),(21,t20),(22,t21),(23,t22),(24,t24),(25,t25),(26,t26),(27,t28)],s.ds⟩ h) (
k4 W Q QP ⟨ai s.tm [(16,aa),(17,aa),(18,aa),(19,aa),(20,aa),(21,aa),(22,aa),(23,aa),(24,aa),(25,aa),(26,aa),(27,aa)],s.ds⟩ h)
def k6:OK:=fun W Q QP s h=>
aY (s.tm 0) fun t29=>
ah (some 1) t29 fun t30=>
al (some false) (some 1) t30 h fun t31 _=>
aY (s.tm 0) fun t33=>
ah (some 0) t33 fun t34=>
al (some false) (some 1) t34 h fun t35 _=>
(a_ t35=false)/\bO t35 fun t37=>
ag Pg .lss 3 false t31 t37 fun t38=>
k5 W Q QP ⟨ai s.tm [(5,(s.tm 0)),(6,t29),(7,t30),(8,t31),(9,(s.tm 0)),(10,t33),(11,t34),(12,t35),(13,t37),(14,t38),(15,t38)],s.ds⟩ h
def k7:OK:=fun W Q QP s h=>
k6 W Q QP ⟨ai s.tm [(4,(.sc (.bool false)))],s.ds⟩ h
theorem calls{x0 x1:AV}{h:AH}{M:WK}{R:RK}(hp:k7 (fun id=>M id\/h.next<=id) (cM Pg [.tmp 4] R) (bx R) (s0 [x0,x1]) h):aB Pg 86 [x0,x1] h M R:=
 mA (n:=44) (pl:=pl) k7 Tryz.mixed Tryz.func86 (fun W Q QP=>
(sq (k7 W Q QP)
(sn
(sm (k1 W Q QP))
(gr (gn (k6 W Q QP) (gx (k5 W Q QP) (gn (k4 W Q QP) (gx (k3 W Q QP) (gl (k2 W Q QP)))))))))) hp
attribute [simp] k1 k2 k3 k4 k5 k6 k7
end Z_
namespace F60
def pl:dz:=[]
def k1:OK:=fun W Q QP s h=>
aC Pg W 63 [(s.tm 0)] h (fun t1 h2=>
aC Pg W 59 [(s.tm 0),t1] h2 (fun t3 h4=>
lL (some (1,1,false)) t3 fun t5=>
Q .ret ⟨ai s.tm [(3,(s.tm 0)),(4,(s.tm 0)),(5,t1),(6,t3),(7,t5),(2,t5)],s.ds⟩ h4) (QP s.ds)) (QP s.ds)
def k2:OK:=fun W Q QP s h=>
k1 W Q QP ⟨ai s.tm [(2,(.sc (.string ⟨#[]⟩)))],s.ds⟩ h
theorem calls{x0:AV}{h:AH}{M:WK}{R:RK}(hp:k2 (fun id=>M id\/h.next<=id) (cM Pg [.tmp 2] R) (bx R) (s0 [x0]) h):aB Pg 60 [x0] h M R:=
 mA (n:=8) (pl:=pl) k2 Tryz.mixed Tryz.func60 (fun W Q QP=>
(sq (k2 W Q QP)
(sl (k1 W Q QP)))) hp
attribute [simp] k1 k2
end F60
namespace F63
def pl:dz:=[(1,⟨[(none,(fr 0 11)),(some (10,true),(fr 11 12)),(none,(fr 23 2)),(some (24,true),(fr 25 13)),(none,(fr 38 2))],false,[],[]⟩)]
def k1:OK:=fun _ Q _ s h=>
Q .ret s h
def k2:OK:=fun W Q QP s h=>
aT (s.tm 27) (s.tm 40) (.sc (.bool false)) fun t1=>
k1 W Q QP ⟨ai s.tm [(41,t1),(2,t1)],s.ds⟩ h
def k3:OK:=fun W Q QP s h=>
bE true (s.tm 27) (
aY (s.tm 0) fun t2=>
ah (some 0) t2 fun t3=>
al (some false) (some 1) t3 h fun t4 _=>
aY (s.tm 0) fun t6=>
ah (some 1) t6 fun t7=>
al (some false) (some 1) t7 h fun t8 _=>
cj (some (3,none)) t4 t8 fun t10=>
ah (some 1) t10 fun t11=>
al (some false) (some 1) t11 h fun t12 _=>
aC Pg W 87 [t12] h (fun t14 yT=>
gM .not t14 fun t16=>
k2 W Q QP ⟨ai s.tm [(28,(s.tm 0)),(29,t2),(30,t3),(31,t4),(32,(s.tm 0)),(33,t6),(34,t7),(35,t8),(36,t10),(37,t11),(38,t12),(39,t14),(40,t16)],s.ds⟩ yT) (QP s.ds)) (
k2 W Q QP ⟨ai s.tm [(28,aa),(29,aa),(30,aa),(31,aa),(32,aa),(33,aa),(34,aa),(35,aa),(36,aa),(37,aa),(38,aa),(39,aa),(40,aa)],s.ds⟩ h)
def k4:OK:=fun W Q QP s h=>
aT (s.tm 13) (s.tm 25) (.sc (.bool false)) fun t17=>
k3 W Q QP ⟨ai s.tm [(26,t17),(27,t17)],s.ds⟩ h
def k5:OK:=fun W Q QP s h=>
bE true (s.tm 13) (
aY (s.tm 0) fun t18=>
ah (some 0) t18 fun t19=>
al (some false) (some 1) t19 h fun t20 _=>
aY (s.tm 0) fun t22=>
ah (some 1) t22 fun t23=>
al (some false) (some 1) t23 h fun t24 _=>
cj (some (3,none)) t20 t24 fun t26=>
ah (some 0) t26 fun t27=>
al (some false) (some 1) t27 h fun t28 _=>
ag Pg .eql 3 true t28 (.sc (.int .i64 1)) fun t30=>
k4 W Q QP ⟨ai s.tm [(14,(s.tm 0)),(15,t18),(16,t19),(17,t20),(18,(s.tm 0)),(19,t22),(20,t23),(21,t24),(22,t26),(23,t27),(24,t28),(25,t30)],s.ds⟩ h) (
k4 W Q QP ⟨ai s.tm [(14,aa),(15,aa),(16,aa),(17,aa),(18,aa),(19,aa),(20,aa),(21,aa),(22,aa),(23,aa),(24,aa),(25,aa)],s.ds⟩ h)
def k6:OK:=fun W Q QP s h=>
aY (s.tm 0) fun t31=>
ah (some 1) t31 fun t32=>
al (some false) (some 1) t32 h fun t33 _=>
aY (s.tm 0) fun t35=>
ah (some 0) t35 fun t36=>
al (some false) (some 1) t36 h fun t37 _=>
(a_ t37=false)/\bO t37 fun t39=>
ag Pg .lss 3 false t33 t39 fun t40=>
k5 W Q QP ⟨ai s.tm [(3,(s.tm 0)),(4,t31),(5,t32),(6,t33),(7,(s.tm 0)),(8,t35),(9,t36),(10,t37),(11,t39),(12,t40),(13,t40)],s.ds⟩ h
def k7:OK:=fun W Q QP s h=>
k6 W Q QP ⟨ai s.tm [(2,(.sc (.bool false)))],s.ds⟩ h
theorem calls{x0:AV}{h:AH}{M:WK}{R:RK}(hp:k7 (fun id=>M id\/h.next<=id) (cM Pg [.tmp 2] R) (bx R) (s0 [x0]) h):aB Pg 63 [x0] h M R:=
 mA (n:=42) (pl:=pl) k7 Tryz.mixed Tryz.func63 (fun W Q QP=>
(sq (k7 W Q QP)
(sn
(sm (k1 W Q QP))
(gr (gn (k6 W Q QP) (gx (k5 W Q QP) (gn (k4 W Q QP) (gx (k3 W Q QP) (gl (k2 W Q QP)))))))))) hp
attribute [simp] k1 k2 k3 k4 k5 k6 k7
end F63
namespace rT
section
variable (W:WK) (Q:ck) (QP:bU) (s:St) (h:AH)
noncomputable def code:Code:=Tryz.f61.body.getD .skip
def pl:dz:=[(1,⟨[(none,(fr 0 12)),(some (11,true),(fr 12 12)),(none,(fr 24 1))],false,[.mk (fr 25 3) [],.mk [(26,false),(25,false),(27,false)] []],[]⟩)]
def k1:OK:=fun _ Q _ s h=>
Q .ret ⟨ai s.tm [(51,(s.tm 4)),(2,(s.tm 4))],s.ds⟩ h
def k2:OK:=fun _ Q QP s h=>
aM (s.tm 46) (
ah (some 2) (s.tm 3) fun t1=>
al (some false) (some 1) t1 h fun t2 _=>
bZ (some ([.int .i64 0,.int .i64 0],.inl [(0,1),(1,1)])) [(0,t2),(1,(.sc (.int .i64 1)))] fun t4=>
rl (some false) 85 t4 fun t5=>
tg t5 h (QP s.ds)) (
Q .normal s h)
def k3:OK:=fun W Q QP s h=>
ag Pg .gtr 3 true (s.tm 4) (.sc (.int .i64 9007199254740991)) fun t6=>
k2 W Q QP ⟨ai s.tm [(45,(s.tm 4)),(46,t6)],s.ds⟩ h
def k4:OK:=fun W Q QP s h=>
ag Pg .mul 3 true (s.tm 4) (.sc (.int .i64 10)) fun t7=>
ag Pg .sub 21 true (s.tm 6) (.sc (.int .i32 48)) fun t8=>
qi (some .i64) t8 fun t9=>
ag Pg .add 3 false t7 t9 fun t10=>
k3 W Q QP ⟨ai s.tm [(39,(s.tm 4)),(40,t7),(41,(s.tm 6)),(42,t8),(43,t9),(44,t10),(4,t10)],s.ds⟩ h
def k5:OK:=fun W Q QP s h=>
cf (s.tm 36) 2 fun t11=>
k4 W Q QP ⟨ai s.tm [(38,t11),(6,t11)],s.ds⟩ h
def k6:OK:=fun W Q QP s h=>
aM (s.tm 37) (
k5 W Q QP s h) (
Q (.exit 0) s h)
def k7:OK:=fun W Q QP s h=>
sI (s.tm 35) h W fun t12 QV=>
cf t12 0 fun t14=>
k6 W Q QP ⟨ai s.tm [(36,t12),(37,t14)],s.ds⟩ QV
noncomputable def c1:Code:=Code.at code [1,1,1,0,1,0,0]
theorem l1:aw Pg 52 W pl c1 Q QP s h=k7 W Q QP s h:=congrFun (congrFun (show TB ⟨Pg,52,pl⟩ W QP c1 Q (k7 W Q QP) from
(sq (k7 W Q QP)
(sn
(bk 1 (sq (k5 W Q QP)
(sq (k4 W Q QP)
(sq (k3 W Q QP)
(cd (k2 W Q QP) tr tr)))))
(cd (k6 W Q QP) tr tr)))) s) h
def k8:OK:=fun W Q QP s h=>lz (aw Pg 52 W pl c1) (eI 0 (bL (k1 W Q QP) (Q))) QP s h
def k9:OK:=fun W Q QP s h=>
ah (some 1) (s.tm 3) fun t15=>
al (some false) (some 1) t15 h fun t16 _=>
qa true t16 h fun t18 vK=>
k8 W Q QP ⟨ai s.tm [(33,t15),(34,t16),(35,t18)],s.ds⟩ vK
def eF:OK:=fun W Q QP s h=>
k9 W Q QP ⟨ai s.tm [(4,(.sc (.int .i64 0)))],s.ds⟩ h
def gZ:OK:=fun W Q QP s h=>
aY (s.tm 0) fun t20=>
ah (some 1) t20 fun t21=>
al (some false) (some 1) t21 h fun t22 _=>
aY (s.tm 0) fun t24=>
ah (some 0) t24 fun t25=>
al (some false) (some 1) t25 h fun t26 _=>
(a_ t26=false)/\bO t26 fun t28=>
ag Pg .lss 3 false t22 t28 fun t29=>
bE true t29 (
aY (s.tm 0) fun t30=>
ah (some 0) t30 fun t31=>
al (some false) (some 1) t31 h fun t32 _=>
aY (s.tm 0) fun t34=>
ah (some 1) t34 fun t35=>
al (some false) (some 1) t35 h fun t36 _=>
cj (some (3,none)) t32 t36 fun t38=>
ah (some 0) t38 fun t39=>
al (some false) (some 1) t39 h fun t40 _=>
ag Pg .eql 3 true t40 (.sc (.int .i64 2)) fun t42=>
aT t29 t42 (.sc (.bool false)) fun t43=>
(
aC Pg W 59 [(s.tm 0),t43] h (fun t44 Dz=>
bn (some [.int .i64 0,.string ⟨#[]⟩,.int .i64 0]) 3 117 Dz fun t46 vD=>
aE (some 3) t46 t44 vD W fun vC=>
eF W Q QP ⟨ai s.tm [(7,(s.tm 0)),(8,(s.tm 0)),(9,t20),(10,t21),(11,t22),(12,(s.tm 0)),(13,t24),(14,t25),(15,t26),(16,t28),(17,t29),(18,t29),(19,(s.tm 0)),(20,t30),(21,t31),(22,t32),(23,(s.tm 0)),(24,t34),(25,t35),(26,t36),(27,t38),(28,t39),(29,t40),(30,t42),(31,t43),(32,t44),(3,t46)],s.ds⟩ vC) (QP s.ds))/\(
bn (some [.int .i64 0,.string ⟨#[]⟩,.int .i64 0]) 3 117 h fun t49 vA=>
aC Pg W 59 [(s.tm 0),t43] vA (fun t51 yM=>
aE (some 3) t49 t51 yM W fun vz=>
eF W Q QP ⟨ai s.tm [(7,(s.tm 0)),(8,(s.tm 0)),(9,t20),(10,t21),(11,t22),(12,(s.tm 0)),(13,t24),(14,t25),(15,t26),(16,t28),(17,t29),(18,t29),(19,(s.tm 0)),(20,t30),(21,t31),(22,t32),(23,(s.tm 0)),(24,t34),(25,t35),(26,t36),(27,t38),(28,t39),(29,t40),(30,t42),(31,t43),(3,t49),(32,t51)],s.ds⟩ vz) (QP s.ds))/\True) (
aT t29 aa (.sc (.bool false)) fun t54=>
(
aC Pg W 59 [(s.tm 0),t54] h (fun t55 FQ=>
bn (some [.int .i64 0,.string ⟨#[]⟩,.int .i64 0]) 3 117 FQ fun t57 tJ=>
aE (some 3) t57 t55 tJ W fun L5=>
eF W Q QP ⟨ai s.tm [(7,(s.tm 0)),(8,(s.tm 0)),(9,t20),(10,t21),(11,t22),(12,(s.tm 0)),(13,t24),(14,t25),(15,t26),(16,t28),(17,t29),(18,t29),(19,aa),(20,aa),(21,aa),(22,aa),(23,aa),(24,aa),(25,aa),(26,aa),(27,aa),(28,aa),(29,aa),(30,aa),(31,t54),(32,t55),(3,t57)],s.ds⟩ L5) (QP s.ds))/\(
bn (some [.int .i64 0,.string ⟨#[]⟩,.int .i64 0]) 3 117 h fun t60 L4=>
aC Pg W 59 [(s.tm 0),t54] L4 (fun t62 L3=>
aE (some 3) t60 t62 L3 W fun FP=>
eF W Q QP ⟨ai s.tm [(7,(s.tm 0)),(8,(s.tm 0)),(9,t20),(10,t21),(11,t22),(12,(s.tm 0)),(13,t24),(14,t25),(15,t26),(16,t28),(17,t29),(18,t29),(19,aa),(20,aa),(21,aa),(22,aa),(23,aa),(24,aa),(25,aa),(26,aa),(27,aa),(28,aa),(29,aa),(30,aa),(31,t54),(3,t60),(32,t62)],s.ds⟩ FP) (QP s.ds))/\True)
def kq:OK:=fun W Q QP s h=>
gZ W Q QP ⟨ai s.tm [(2,(.sc (.int .i64 0)))],s.ds⟩ h
end
theorem calls{x0:AV}{h:AH}{M:WK}{R:RK}(hp:kq (fun id=>M id\/h.next<=id) (cM Pg [.tmp 2] R) (bx R) (s0 [x0]) h):aB Pg 61 [x0] h M R:=
 mA (n:=52) (pl:=pl) kq Tryz.mixed Tryz.func61 (fun W Q QP=>
(sq (kq W Q QP)
(sn
(sq (eF W Q QP)
(sn
(sl (k1 W Q QP))
(sq (k9 W Q QP)
(bk 0 (lo (k8 W Q QP))))))
(sm (gZ W Q QP))))) hp
attribute [simp] k1 k2 k3 k4 k5 k6 k7 k8 k9 eF gZ kq
end rT
namespace F59
def pl:dz:=[(1,⟨[(none,(fr 0 10))],false,[],[]⟩),(3,⟨[(none,(fr 0 12))],false,[],[]⟩)]
def k1:OK:=fun W Q _ s h=>
al (some true) (some 3) (s.tm 5) h fun t1 _=>
aE (some 3) (s.tm 4) t1 h W fun h3=>
Q .ret ⟨ai s.tm [(45,t1)],s.ds⟩ h3
def k2:OK:=fun W Q QP s h=>
aY (s.tm 0) fun t4=>
ah (some 1) t4 fun t5=>
al (some false) (some 1) t5 h fun t6 _=>
ag Pg .add 3 true t6 (.sc (.int .i64 1)) fun t8=>
aY (s.tm 0) fun t9=>
ah (some 1) t9 fun t10=>
aE (some 1) t10 t8 h W fun qz=>
k1 W Q QP ⟨ai s.tm [(38,(s.tm 0)),(39,t4),(40,t5),(41,t6),(42,t8),(43,t9),(44,t10)],s.ds⟩ qz
def k3:OK:=fun W Q QP s h=>
aM (s.tm 33) (
ah (some 2) (s.tm 5) fun t12=>
al (some false) (some 1) t12 h fun t13 _=>
bZ (some ([.int .i64 0,.int .i64 0],.inl [(0,1),(1,1)])) [(0,t13),(1,(.sc (.int .i64 100)))] fun t15=>
rl (some false) 85 t15 fun t16=>
tg t16 h (QP s.ds)) (
k2 W Q QP s h)
def k4:OK:=fun W Q QP s h=>
gM .not (s.tm 1) fun t17=>
k3 W Q QP ⟨ai s.tm [(32,(s.tm 1)),(33,t17)],s.ds⟩ h
def k5:OK:=fun W Q QP s h=>
aY (s.tm 0) fun t18=>
ah (some 0) t18 fun t19=>
al (some false) (some 1) t19 h fun t20 _=>
aY (s.tm 0) fun t22=>
ah (some 1) t22 fun t23=>
al (some false) (some 1) t23 h fun t24 _=>
cj (some (3,none)) t20 t24 fun t26=>
al (some true) (some 3) t26 h fun t27 _=>
bn (some [.int .i64 0,.string ⟨#[]⟩,.int .i64 0]) 3 117 h fun t29 QT=>
aE (some 3) t29 t27 QT W fun H3=>
k4 W Q QP ⟨ai s.tm [(22,(s.tm 0)),(23,t18),(24,t19),(25,t20),(26,(s.tm 0)),(27,t22),(28,t23),(29,t24),(30,t26),(31,t27),(5,t29)],s.ds⟩ H3
def k6:OK:=fun W Q QP s h=>
aM (s.tm 15) (
aY (s.tm 0) fun t32=>
ah (some 2) t32 fun t33=>
al (some false) (some 1) t33 h fun t34 _=>
bZ (some ([.int .i64 0,.int .i64 0],.inl [(0,1),(1,1)])) [(0,t34),(1,(.sc (.int .i64 101)))] fun t36=>
rl (some false) 85 t36 fun t37=>
tg t37 h (QP s.ds)) (
k5 W Q QP s h)
def k7:OK:=fun W Q QP s h=>
aY (s.tm 0) fun t38=>
ah (some 1) t38 fun t39=>
al (some false) (some 1) t39 h fun t40 _=>
aY (s.tm 0) fun t42=>
ah (some 0) t42 fun t43=>
al (some false) (some 1) t43 h fun t44 _=>
(a_ t44=false)/\bO t44 fun t46=>
ag Pg .geq 3 false t40 t46 fun t47=>
k6 W Q QP ⟨ai s.tm [(6,(s.tm 0)),(7,t38),(8,t39),(9,t40),(10,(s.tm 0)),(11,t42),(12,t43),(13,t44),(14,t46),(15,t47)],s.ds⟩ h
def k8:OK:=fun W Q QP s h=>
bn (some [.int .i64 0,.string ⟨#[]⟩,.int .i64 0]) 3 117 h fun t48 HZ=>
k7 W Q QP ⟨ai s.tm [(4,t48)],s.ds⟩ HZ
theorem calls{x0 x1:AV}{h:AH}{M:WK}{R:RK}(hp:k8 (fun id=>M id\/h.next<=id) (cM Pg [.cell 4 117] R) (bx R) (s0 [x0,x1]) h):aB Pg 59 [x0,x1] h M R:=
 mA (n:=46) (pl:=pl) k8 Tryz.mixed Tryz.func59 (fun W Q QP=>
(sq (k8 W Q QP)
(sn
(sq (k5 W Q QP)
(sn
(sq (k2 W Q QP)
(sl (k1 W Q QP)))
(sq (k4 W Q QP)
(cd (k3 W Q QP) tr tr))))
(sq (k7 W Q QP)
(cd (k6 W Q QP) tr tr))))) hp
attribute [simp] k1 k2 k3 k4 k5 k6 k7 k8
end F59
namespace F62
def pl:dz:=[]
def k1:OK:=fun W Q QP s h=>
aC Pg W 86 [(s.tm 0),(s.tm 1)] h (fun t1 h2=>
aC Pg W 59 [(s.tm 0),t1] h2 (fun t3 h4=>
aE (some 3) (s.tm 4) t3 h4 W fun h5=>
Q .ret ⟨ai s.tm [(5,(s.tm 0)),(6,(s.tm 0)),(7,(s.tm 1)),(8,t1),(9,t3)],s.ds⟩ h5) (QP s.ds)) (QP s.ds)
def k2:OK:=fun W Q QP s h=>
bn (some [.int .i64 0,.string ⟨#[]⟩,.int .i64 0]) 3 117 h fun t6 h7=>
k1 W Q QP ⟨ai s.tm [(4,t6)],s.ds⟩ h7
theorem calls{x0 x1:AV}{h:AH}{M:WK}{R:RK}(hp:k2 (fun id=>M id\/h.next<=id) (cM Pg [.cell 4 117] R) (bx R) (s0 [x0,x1]) h):aB Pg 62 [x0,x1] h M R:=
 mA (n:=10) (pl:=pl) k2 Tryz.mixed Tryz.func62 (fun W Q QP=>
(sq (k2 W Q QP)
(sl (k1 W Q QP)))) hp
attribute [simp] k1 k2
end F62
namespace qe
def pl:dz:=[]
def k1:OK:=fun W Q _ s h=>
al (some true) (some 2) (s.tm 3) h fun t1 _=>
aE (some 2) (s.tm 2) t1 h W fun h3=>
Q .ret ⟨ai s.tm [(21,t1)],s.ds⟩ h3
def k2:OK:=fun W Q QP s h=>
aC Pg W 62 [(s.tm 0),(.sc (.string ⟨#[93]⟩))] h (fun t4 h5=>
k1 W Q QP ⟨ai s.tm [(19,(s.tm 0)),(20,t4)],s.ds⟩ h5) (QP s.ds)
def k3:OK:=fun W Q QP s h=>
aC Pg W 61 [(s.tm 0)] h (fun t6 h7=>
ah (some 1) (s.tm 3) fun t8=>
aE (some 1) t8 t6 h7 W fun h9=>
k2 W Q QP ⟨ai s.tm [(16,(s.tm 0)),(17,t6),(18,t8)],s.ds⟩ h9) (QP s.ds)
def k4:OK:=fun W Q QP s h=>
aY (s.tm 0) fun t10=>
ah (some 1) t10 fun t11=>
al (some false) (some 1) t11 h fun t12 _=>
ag Pg .add 3 true t12 (.sc (.int .i64 1)) fun t14=>
aY (s.tm 0) fun t15=>
ah (some 1) t15 fun t16=>
aE (some 1) t16 t14 h W fun vO=>
k3 W Q QP ⟨ai s.tm [(9,(s.tm 0)),(10,t10),(11,t11),(12,t12),(13,t14),(14,t15),(15,t16)],s.ds⟩ vO
def k5:OK:=fun W Q QP s h=>
aM (s.tm 8) (
k4 W Q QP s h) (
k1 W Q QP s h)
def k6:OK:=fun W Q QP s h=>
aC Pg W 86 [(s.tm 0),(.sc (.string ⟨#[91]⟩))] h (fun t18 vK=>
k5 W Q QP ⟨ai s.tm [(7,(s.tm 0)),(8,t18)],s.ds⟩ vK) (QP s.ds)
def k7:OK:=fun W Q QP s h=>
aC Pg W 60 [(s.tm 0)] h (fun t20 vI=>
bZ (some ([.string ⟨#[]⟩,.int .i64 0],.inl [(0,1),(1,1)])) [(0,t20),(1,(.sc (.int .i64 (-1))))] fun t22=>
bn (some [.string ⟨#[]⟩,.int .i64 0]) 2 67 vI fun t23 vH=>
aE (some 2) t23 t22 vH W fun vG=>
k6 W Q QP ⟨ai s.tm [(4,(s.tm 0)),(5,t20),(6,t22),(3,t23)],s.ds⟩ vG) (QP s.ds)
def k8:OK:=fun W Q QP s h=>
bn (some [.string ⟨#[]⟩,.int .i64 0]) 2 67 h fun t26 yR=>
k7 W Q QP ⟨ai s.tm [(2,t26)],s.ds⟩ yR
theorem calls{x0:AV}{h:AH}{M:WK}{R:RK}(hp:k8 (fun id=>M id\/h.next<=id) (cM Pg [.cell 2 67] R) (bx R) (s0 [x0]) h):aB Pg 65 [x0] h M R:=
 mA (n:=22) (pl:=pl) k8 Tryz.mixed Tryz.func65 (fun W Q QP=>
(sq (k8 W Q QP)
(sq (k7 W Q QP)
(sn
(sl (k1 W Q QP))
(sq (k6 W Q QP)
(cd (k5 W Q QP) (sq (k4 W Q QP)
(sq (k3 W Q QP)
(sm (k2 W Q QP)))) tr)))))) hp
attribute [simp] k1 k2 k3 k4 k5 k6 k7 k8
end qe
namespace rS
section
variable (W:WK) (Q:ck) (QP:bU) (s:St) (h:AH)
noncomputable def code:Code:=Tryz.f64.body.getD .skip
def pl:dz:=[]
def k1:OK:=fun _ Q _ s h=>
aY (s.tm 0) fun t1=>
ah (some 3) t1 fun t2=>
al (some false) (some 1) t2 h fun t3 _=>
(a_ t3=false)/\bO t3 fun t5=>
ag Pg .sub 3 false t5 (s.tm 6) fun t6=>
Q .ret ⟨ai s.tm [(33,(s.tm 0)),(34,t1),(35,t2),(36,t3),(37,t5),(38,(s.tm 6)),(39,t6),(4,t6)],s.ds⟩ h
def k2:OK:=fun W Q QP s h=>
aY (s.tm 0) fun t7=>
ah (some 1) t7 fun t8=>
al (some false) (some 1) t8 h fun t9 _=>
ag Pg .add 3 true t9 (.sc (.int .i64 1)) fun t11=>
aY (s.tm 0) fun t12=>
ah (some 1) t12 fun t13=>
aE (some 1) t13 t11 h W fun vP=>
k1 W Q QP ⟨ai s.tm [(26,(s.tm 0)),(27,t7),(28,t8),(29,t9),(30,t11),(31,t12),(32,t13)],s.ds⟩ vP
def k3:OK:=fun W Q QP s h=>
aC Pg W 35 [(s.tm 0),(s.tm 1)] h (fun t15 mz=>
Q .normal ⟨ai s.tm [(23,(s.tm 0)),(24,(s.tm 1)),(25,t15)],s.ds⟩ mz) (QP s.ds)
def k4:OK:=fun W Q QP s h=>
aM (s.tm 22) (
k3 W Q QP s h) (
Q (.exit 0) s h)
def k5:OK:=fun W Q QP s h=>
aC Pg W 86 [(s.tm 0),(.sc (.string ⟨#[125]⟩))] h (fun t17 vN=>
gM .not t17 fun t19=>
k4 W Q QP ⟨ai s.tm [(20,(s.tm 0)),(21,t17),(22,t19)],s.ds⟩ vN) (QP s.ds)
noncomputable def c1:Code:=Code.at code [1,1,1,1,0,0,0]
theorem l1:aw Pg 40 W pl c1 Q QP s h=k5 W Q QP s h:=congrFun (congrFun (show TB ⟨Pg,40,pl⟩ W QP c1 Q (k5 W Q QP) from
(sn
(bk 1 (sm (k3 W Q QP)))
(sq (k5 W Q QP)
(cd (k4 W Q QP) tr tr)))) s) h
def k6:OK:=fun W Q QP s h=>lz (aw Pg 40 W pl c1) (eI 0 (bL (k2 W Q QP) (Q))) QP s h
def k7:OK:=fun W Q QP s h=>
aY (s.tm 0) fun t20=>
ah (some 3) t20 fun t21=>
al (some false) (some 1) t21 h fun t22 _=>
(a_ t22=false)/\bO t22 fun t24=>
k6 W Q QP ⟨ai s.tm [(15,(s.tm 0)),(16,t20),(17,t21),(18,t22),(19,t24),(6,t24)],s.ds⟩ h
def k8:OK:=fun W Q QP s h=>
aM (s.tm 10) (
ah (some 2) (s.tm 5) fun t25=>
al (some false) (some 1) t25 h fun t26 _=>
bZ (some ([.int .i64 0,.int .i64 0],.inl [(0,1),(1,1)])) [(0,t26),(1,(.sc (.int .i64 102)))] fun t28=>
rl (some false) 85 t28 fun t29=>
tg t29 h (QP s.ds)) (
k7 W Q QP s h)
def k9:OK:=fun W Q QP s h=>
ag Pg .gtr 3 true (s.tm 1) (.sc (.int .i64 32)) fun t30=>
k8 W Q QP ⟨ai s.tm [(9,(s.tm 1)),(10,t30)],s.ds⟩ h
def eF:OK:=fun W Q QP s h=>
aC Pg W 62 [(s.tm 0),(.sc (.string ⟨#[123]⟩))] h (fun t31 tL=>
bn (some [.int .i64 0,.string ⟨#[]⟩,.int .i64 0]) 3 117 tL fun t33 yQ=>
aE (some 3) t33 t31 yQ W fun tK=>
k9 W Q QP ⟨ai s.tm [(7,(s.tm 0)),(8,t31),(5,t33)],s.ds⟩ tK) (QP s.ds)
def gZ:OK:=fun W Q QP s h=>
eF W Q QP ⟨ai s.tm [(4,(.sc (.int .i64 0)))],s.ds⟩ h
end
theorem calls{x0 x1:AV}{h:AH}{M:WK}{R:RK}(hp:gZ (fun id=>M id\/h.next<=id) (cM Pg [.tmp 4] R) (bx R) (s0 [x0,x1]) h):aB Pg 64 [x0,x1] h M R:=
 mA (n:=40) (pl:=pl) gZ Tryz.mixed Tryz.func64 (fun W Q QP=>
(sq (gZ W Q QP)
(sq (eF W Q QP)
(sn
(sq (k7 W Q QP)
(sn
(sq (k2 W Q QP)
(sl (k1 W Q QP)))
(bk 0 (lo (k6 W Q QP)))))
(sq (k9 W Q QP)
(cd (k8 W Q QP) tr tr)))))) hp
attribute [simp] k1 k2 k3 k4 k5 k6 k7 k8 k9 eF gZ
end rS
namespace cZ
section
variable (W:WK) (Q:ck) (QP:bU) (s:St) (h:AH)
noncomputable def code:Code:=Tryz.f35.body.getD .skip
def pl:dz:=[(0,⟨[(none,(fr 0 12)),(some (11,true),(fr 12 12)),(none,(fr 24 1))],false,[.mk (fr 25 3) [],.mk [(26,false),(25,false),(27,false)] []],[]⟩),(3,⟨[(none,(fr 0 11))],false,[],[]⟩),(5,⟨[(none,[(0,false),(1,true),(2,false),(3,false),(4,false),(5,false)])],true,[],[]⟩),(7,⟨[(none,[(0,false),(1,true),(2,false),(3,false),(4,false),(5,false),(6,false),(7,false)])],true,[],[]⟩),(17,⟨[(none,[(0,false),(1,true),(2,false),(3,false),(4,false),(5,false),(6,false),(7,false),(8,false)])],true,[],[]⟩),(27,⟨[(none,[(0,false),(1,true),(2,false),(4,false),(3,false),(5,false),(6,false),(7,false),(8,false),(9,false)])],true,[],[]⟩),(30,⟨[(none,[(0,false),(1,true),(2,false),(3,false),(4,false),(5,false),(6,false),(7,false)])],true,[],[]⟩),(32,⟨[(none,(fr 0 8))],false,[],[]⟩)]
def k1:OK:=fun W Q _ s h=>
aY (s.tm 0) fun t1=>
ah (some 3) t1 fun t2=>
al (some false) (some 1) t2 h fun t3 _=>
al (some true) (some 6) (s.tm 5) h fun t5 _=>
cj (some (6,none)) t3 (s.tm 6) fun t7=>
aE (some 6) t7 t5 h W fun h8=>
Q .normal ⟨ai s.tm [(148,(s.tm 0)),(149,t1),(150,t2),(151,t3),(152,(s.tm 6)),(153,t5),(154,t7)],s.ds⟩ h8
def k2:OK:=fun W Q QP s h=>
aC Pg W 62 [(s.tm 0),(.sc (.string ⟨#[59]⟩))] h (fun t9 lq=>
k1 W Q QP ⟨ai s.tm [(79,(s.tm 0)),(80,t9)],s.ds⟩ lq) (QP s.ds)
def k3:OK:=fun W Q QP s h=>
aC Pg W 61 [(s.tm 0)] h (fun t11 qy=>
ah (some 3) (s.tm 5) fun t13=>
aE (some 1) t13 t11 qy W fun vP=>
k2 W Q QP ⟨ai s.tm [(76,(s.tm 0)),(77,t11),(78,t13)],s.ds⟩ vP) (QP s.ds)
def k4:OK:=fun W Q QP s h=>
aC Pg W 60 [(s.tm 0)] h (fun t15 mz=>
ah (some 1) (s.tm 5) fun t17=>
aE (some 1) t17 t15 mz W fun vN=>
k3 W Q QP ⟨ai s.tm [(73,(s.tm 0)),(74,t15),(75,t17)],s.ds⟩ vN) (QP s.ds)
def k5:OK:=fun W Q QP s h=>
ag Pg .add 3 true (s.tm 1) (.sc (.int .i64 1)) fun t19=>
aC Pg W 64 [(s.tm 0),t19] h (fun t20 vI=>
ah (some 4) (s.tm 5) fun t22=>
aE (some 1) t22 t20 vI W fun DB=>
k1 W Q QP ⟨ai s.tm [(96,(s.tm 0)),(97,(s.tm 1)),(98,t19),(99,t20),(100,t22)],s.ds⟩ DB) (QP s.ds)
def k6:OK:=fun W Q QP s h=>
∃Hd:Nat->Nat,(∀i∈[1],h.obj (Hd i)≠none)/\(
ah (some 2) (s.tm 5) fun t24=>
al (some false) (some 1) t24 h fun t25 i26=>
(i26=Hd 1)/\(
aC Pg (jG W Hd [1]) 60 [(s.tm 0)] h (fun t27 sF=>
bZ (some ([.string ⟨#[]⟩,.int .i64 0],.inl [(0,1),(1,1)])) [(0,t27),(1,(.sc (.int .i64 (-1))))] fun t29=>
dK (some (2,67,[.string ⟨#[]⟩,.int .i64 0])) 1 [(0,t29)] sF fun t30 H3=>
eh (some (2,24,67)) t25 t30 H3 W fun t32 H2=>
ah (some 2) (s.tm 5) fun t34=>
aE (some 1) t34 t32 H2 W fun tK=>
Q .normal ⟨ai s.tm [(88,t24),(89,t25),(90,(s.tm 0)),(91,t27),(92,t29),(93,t30),(94,t32),(95,t34)],s.ds⟩ tK) (QP s.ds)))
def k7:OK:=fun W Q QP s h=>
aM (s.tm 87) (
k6 W Q QP s h) (
Q (.exit 3) s h)
def k8:OK:=fun W Q QP s h=>
aC Pg W 63 [(s.tm 0)] h (fun t36 vF=>
k7 W Q QP ⟨ai s.tm [(86,(s.tm 0)),(87,t36)],s.ds⟩ vF) (QP s.ds)
noncomputable def c1:Code:=Code.at code [1,1,1,1,0,1,0,1,1,1,0,1,0,0,0]
theorem l1:aw Pg 155 W pl c1 Q QP s h=k8 W Q QP s h:=congrFun (congrFun (show TB ⟨Pg,155,pl⟩ W QP c1 Q (k8 W Q QP) from
(sn
(bk 4 (sm (k6 W Q QP)))
(sq (k8 W Q QP)
(cd (k7 W Q QP) tr tr)))) s) h
def k9:OK:=fun W Q QP s h=>lz (aw Pg 155 W pl c1) (eI 3 (bL (k5 W Q QP) (eI 0 (bL (k1 W Q QP) (Q))))) QP s h
def eF:OK:=fun W Q QP s h=>
aC Pg W 60 [(s.tm 0)] h (fun t38 yO=>
ah (some 1) (s.tm 5) fun t40=>
aE (some 1) t40 t38 yO W fun DA=>
k9 W Q QP ⟨ai s.tm [(83,(s.tm 0)),(84,t38),(85,t40)],s.ds⟩ DA) (QP s.ds)
def gZ:OK:=fun W Q QP s h=>
ag Pg .add 3 true (s.tm 1) (.sc (.int .i64 1)) fun t42=>
aC Pg W 64 [(s.tm 0),t42] h (fun t43 yN=>
ah (some 4) (s.tm 5) fun t45=>
aE (some 1) t45 t43 yN W fun H0=>
k1 W Q QP ⟨ai s.tm [(106,(s.tm 0)),(107,(s.tm 1)),(108,t42),(109,t43),(110,t45)],s.ds⟩ H0) (QP s.ds)
def kq:OK:=fun W Q QP s h=>
aC Pg W 61 [(s.tm 0)] h (fun t47 vC=>
ah (some 3) (s.tm 5) fun t49=>
aE (some 1) t49 t47 vC W fun vA=>
gZ W Q QP ⟨ai s.tm [(103,(s.tm 0)),(104,t47),(105,t49)],s.ds⟩ vA) (QP s.ds)
def mR:OK:=fun W Q QP s h=>
ag Pg .add 3 true (s.tm 1) (.sc (.int .i64 1)) fun t51=>
aC Pg W 64 [(s.tm 0),t51] h (fun t52 vz=>
ah (some 4) (s.tm 5) fun t54=>
aE (some 1) t54 t52 vz W fun FR=>
k1 W Q QP ⟨ai s.tm [(119,(s.tm 0)),(120,(s.tm 1)),(121,t51),(122,t52),(123,t54)],s.ds⟩ FR) (QP s.ds)
def nD:OK:=fun W Q QP s h=>
aC Pg W 61 [(s.tm 0)] h (fun t56 BB=>
ah (some 3) (s.tm 5) fun t58=>
aE (some 1) t58 t56 BB W fun L5=>
mR W Q QP ⟨ai s.tm [(116,(s.tm 0)),(117,t56),(118,t58)],s.ds⟩ L5) (QP s.ds)
def nY:OK:=fun W Q QP s h=>
aC Pg W 60 [(s.tm 0)] h (fun t60 L4=>
ah (some 1) (s.tm 5) fun t62=>
aE (some 1) t62 t60 L4 W fun L3=>
nD W Q QP ⟨ai s.tm [(113,(s.tm 0)),(114,t60),(115,t62)],s.ds⟩ L3) (QP s.ds)
def oJ:OK:=fun W Q QP s h=>
aC Pg W 62 [(s.tm 0),(.sc (.string ⟨#[59]⟩))] h (fun t64 V1=>
k1 W Q QP ⟨ai s.tm [(135,(s.tm 0)),(136,t64)],s.ds⟩ V1) (QP s.ds)
def nC:OK:=fun W Q QP s h=>
∃Hd:Nat->Nat,(∀i∈[1],h.obj (Hd i)≠none)/\(
ah (some 2) (s.tm 5) fun t66=>
al (some false) (some 1) t66 h fun t67 i68=>
(i68=Hd 1)/\(
aC Pg (jG W Hd [1]) 65 [(s.tm 0)] h (fun t69 FO=>
aC Pg (jG W Hd [1]) 65 [(s.tm 0)] FO (fun t71 Bz=>
dK (some (2,67,[.string ⟨#[]⟩,.int .i64 0,.string ⟨#[]⟩,.int .i64 0])) 2 [(0,t69),(1,t71)] Bz fun t73 FN=>
eh (some (2,24,67)) t67 t73 FN W fun t75 FM=>
ah (some 2) (s.tm 5) fun t77=>
aE (some 1) t77 t75 FM W fun By=>
oJ W Q QP ⟨ai s.tm [(126,t66),(127,t67),(128,(s.tm 0)),(130,(s.tm 0)),(129,t69),(131,t71),(132,t73),(133,t75),(134,t77)],s.ds⟩ By) (QP s.ds)) (QP s.ds)))
def ss:OK:=fun W Q QP s h=>
aC Pg W 62 [(s.tm 0),(.sc (.string ⟨#[59]⟩))] h (fun t79 FL=>
k1 W Q QP ⟨ai s.tm [(146,(s.tm 0)),(147,t79)],s.ds⟩ FL) (QP s.ds)
def sr:OK:=fun W Q QP s h=>
∃Hd:Nat->Nat,(∀i∈[1],h.obj (Hd i)≠none)/\(
ah (some 2) (s.tm 5) fun t81=>
al (some false) (some 1) t81 h fun t82 i83=>
(i83=Hd 1)/\(
aC Pg (jG W Hd [1]) 65 [(s.tm 0)] h (fun t84 Bx=>
dK (some (2,67,[.string ⟨#[]⟩,.int .i64 0])) 1 [(0,t84)] Bx fun t86 VY=>
eh (some (2,24,67)) t82 t86 VY W fun t88 h89=>
ah (some 2) (s.tm 5) fun t90=>
aE (some 1) t90 t88 h89 W fun VW=>
ss W Q QP ⟨ai s.tm [(139,t81),(140,t82),(141,(s.tm 0)),(142,t84),(143,t86),(144,t88),(145,t90)],s.ds⟩ VW) (QP s.ds)))
def ry:OK:=fun W Q QP s h=>
aC Pg W 62 [(s.tm 0),(.sc (.string ⟨#[59]⟩))] h (fun t92 h93=>
k1 W Q QP ⟨ai s.tm [(68,(s.tm 0)),(69,t92)],s.ds⟩ h93) (QP s.ds)
def tC:OK:=fun W Q QP s h=>
∃Hd:Nat->Nat,(∀i∈[1],h.obj (Hd i)≠none)/\(
ah (some 2) (s.tm 5) fun t94=>
al (some false) (some 1) t94 h fun t95 i96=>
(i96=Hd 1)/\(
aC Pg (jG W Hd [1]) 65 [(s.tm 0)] h (fun t97 LU=>
dK (some (2,67,[.string ⟨#[]⟩,.int .i64 0])) 1 [(0,t97)] LU fun t99 Oq=>
eh (some (2,24,67)) t95 t99 Oq W fun t101 FV=>
ah (some 2) (s.tm 5) fun t103=>
aE (some 1) t103 t101 FV W fun FU=>
Q .normal ⟨ai s.tm [(61,t94),(62,t95),(63,(s.tm 0)),(64,t97),(65,t99),(66,t101),(67,t103)],s.ds⟩ FU) (QP s.ds)))
def oI:OK:=fun W Q QP s h=>
aM (s.tm 60) (
tC W Q QP s h) (
Q (.exit 1) s h)
def tB:OK:=fun W Q QP s h=>
aC Pg W 63 [(s.tm 0)] h (fun t105 FT=>
oI W Q QP ⟨ai s.tm [(59,(s.tm 0)),(60,t105)],s.ds⟩ FT) (QP s.ds)
noncomputable def c2:Code:=Code.at code [1,1,1,1,0,1,0,1,1,1,1,1,1,1,1,1,1,1,1,1,0,0,0]
theorem l2:aw Pg 155 W pl c2 Q QP s h=tB W Q QP s h:=congrFun (congrFun (show TB ⟨Pg,155,pl⟩ W QP c2 Q (tB W Q QP) from
(sn
(bk 2 (sm (tC W Q QP)))
(sq (tB W Q QP)
(cd (oI W Q QP) tr tr)))) s) h
def so:OK:=fun W Q QP s h=>lz (aw Pg 155 W pl c2) (eI 1 (bL (ry W Q QP) (eI 0 (bL (k1 W Q QP) (Q))))) QP s h
def sk:OK:=fun W Q QP s h=>
∃Hd:Nat->Nat,(∀i∈[1],h.obj (Hd i)≠none)/\(
ah (some 1) (s.tm 4) fun t107=>
al (some false) (some 1) t107 h fun t108 i109=>
(i109=Hd 1)/\(
ah (some 0) (s.tm 5) fun t110=>
aE (some 1) t110 (.sc (.string ⟨#[117,115,101]⟩)) h (jG W Hd [1]) fun aco=>
ah (some 1) (s.tm 5) fun t112=>
aE (some 1) t112 t108 aco W fun Om=>
so W Q QP ⟨ai s.tm [(55,t107),(56,t108),(57,t110),(58,t112)],s.ds⟩ Om))
def Bf:OK:=fun W Q QP s h=>
aM (s.tm 137) (
sr W Q QP s h) (
sk W Q QP s h)
def C_:OK:=fun W Q QP s h=>
ag Pg .eql 9 true (s.tm 54) (.sc (.string ⟨#[114,101,115,101,116]⟩)) fun t114=>
Bf W Q QP ⟨ai s.tm [(138,t114),(137,t114)],s.ds⟩ h
def yF:OK:=fun W Q QP s h=>
aM (s.tm 124) (
nC W Q QP s h) (
C_ W Q QP s h)
def Be:OK:=fun W Q QP s h=>
ag Pg .eql 9 true (s.tm 54) (.sc (.string ⟨#[109,101,97,115,117,114,101]⟩)) fun t115=>
yF W Q QP ⟨ai s.tm [(125,t115),(124,t115)],s.ds⟩ h
def yE:OK:=fun W Q QP s h=>
aM (s.tm 111) (
nY W Q QP s h) (
Be W Q QP s h)
def yD:OK:=fun W Q QP s h=>
ag Pg .eql 9 true (s.tm 54) (.sc (.string ⟨#[105,102]⟩)) fun t116=>
yE W Q QP ⟨ai s.tm [(112,t116),(111,t116)],s.ds⟩ h
def wG:OK:=fun W Q QP s h=>
aM (s.tm 101) (
kq W Q QP s h) (
yD W Q QP s h)
def yz:OK:=fun W Q QP s h=>
ag Pg .eql 9 true (s.tm 54) (.sc (.string ⟨#[114,101,112,101,97,116]⟩)) fun t117=>
wG W Q QP ⟨ai s.tm [(102,t117),(101,t117)],s.ds⟩ h
def C9:OK:=fun W Q QP s h=>
aM (s.tm 81) (
eF W Q QP s h) (
yz W Q QP s h)
def yy:OK:=fun W Q QP s h=>
ag Pg .eql 9 true (s.tm 54) (.sc (.string ⟨#[103,97,116,101]⟩)) fun t118=>
C9 W Q QP ⟨ai s.tm [(82,t118),(81,t118)],s.ds⟩ h
def tA:OK:=fun W Q QP s h=>
aM (s.tm 70) (
k4 W Q QP s h) (
yy W Q QP s h)
def C8:OK:=fun W Q QP s h=>
aM (s.tm 70) (
tA W Q QP s h) (
ag Pg .eql 9 true (s.tm 54) (.sc (.string ⟨#[98,105,116,115]⟩)) fun t119=>
tA W Q QP ⟨ai s.tm [(72,t119),(70,t119)],s.ds⟩ h)
def yx:OK:=fun W Q QP s h=>
ag Pg .eql 9 true (s.tm 54) (.sc (.string ⟨#[113,117,98,105,116,115]⟩)) fun t120=>
C8 W Q QP ⟨ai s.tm [(71,t120),(70,t120)],s.ds⟩ h
def Bc:OK:=fun W Q QP s h=>
ah (some 1) (s.tm 4) fun t121=>
al (some false) (some 1) t121 h fun t122 _=>
yx W Q QP ⟨ai s.tm [(53,t121),(54,t122)],s.ds⟩ h
def yw:OK:=fun W Q QP s h=>
aY (s.tm 0) fun t124=>
ah (some 3) t124 fun t125=>
al (some false) (some 1) t125 h fun t126 _=>
al (some true) (some 6) (s.tm 5) h fun t128 _=>
dK (some (6,46,[.string ⟨#[]⟩,.string ⟨#[]⟩,.slice none 0 0,.int .i64 0,.int .i64 0,.int .i64 0])) 1 [(0,t128)] h fun t130 aci=>
eh (some (6,80,46)) t126 t130 aci W fun t132 ach=>
aY (s.tm 0) fun t134=>
ah (some 3) t134 fun t135=>
aE (some 1) t135 t132 ach W fun acg=>
Bc W Q QP ⟨ai s.tm [(43,(s.tm 0)),(44,(s.tm 0)),(45,t124),(46,t125),(47,t126),(48,t128),(49,t130),(50,t132),(51,t134),(52,t135)],s.ds⟩ acg
def P8:OK:=fun W Q QP s h=>
aY (s.tm 0) fun t137=>
ah (some 3) t137 fun t138=>
al (some false) (some 1) t138 h fun t139 _=>
(a_ t139=false)/\bO t139 fun t141=>
yw W Q QP ⟨ai s.tm [(38,(s.tm 0)),(39,t137),(40,t138),(41,t139),(42,t141),(6,t141)],s.ds⟩ h
def qw:OK:=fun W Q QP s h=>
ah (some 1) (s.tm 4) fun t142=>
al (some false) (some 1) t142 h fun t143 _=>
ah (some 2) (s.tm 4) fun t145=>
al (some false) (some 1) t145 h fun t146 _=>
bZ (some ([.string ⟨#[]⟩,.string ⟨#[]⟩,.slice none 0 0,.int .i64 0,.int .i64 0,.int .i64 0],.inl [(0,1),(1,1),(2,1),(3,1),(4,1),(5,1)])) [(0,t143),(5,t146)] fun t148=>
bn (some [.string ⟨#[]⟩,.string ⟨#[]⟩,.slice none 0 0,.int .i64 0,.int .i64 0,.int .i64 0]) 6 46 h fun t149 acd=>
aE (some 6) t149 t148 acd W fun acb=>
P8 W Q QP ⟨ai s.tm [(33,t142),(34,t143),(35,t145),(36,t146),(37,t148),(5,t149)],s.ds⟩ acb
def P7:OK:=fun W Q QP s h=>
aY (s.tm 0) fun t152=>
ah (some 1) t152 fun t153=>
al (some false) (some 1) t153 h fun t154 _=>
aY (s.tm 0) fun t156=>
ah (some 0) t156 fun t157=>
al (some false) (some 1) t157 h fun t158 _=>
(a_ t158=false)/\bO t158 fun t160=>
ag Pg .lss 3 false t154 t160 fun t161=>
bE true t161 (
aY (s.tm 0) fun t162=>
ah (some 0) t162 fun t163=>
al (some false) (some 1) t163 h fun t164 _=>
aY (s.tm 0) fun t166=>
ah (some 1) t166 fun t167=>
al (some false) (some 1) t167 h fun t168 _=>
cj (some (3,none)) t164 t168 fun t170=>
ah (some 0) t170 fun t171=>
al (some false) (some 1) t171 h fun t172 _=>
ag Pg .eql 3 true t172 (.sc (.int .i64 1)) fun t174=>
aT t161 t174 (.sc (.bool false)) fun t175=>
(
aC Pg W 59 [(s.tm 0),t175] h (fun t176 Oi=>
bn (some [.int .i64 0,.string ⟨#[]⟩,.int .i64 0]) 3 117 Oi fun t178 ab8=>
aE (some 3) t178 t176 ab8 W fun Oh=>
qw W Q QP ⟨ai s.tm [(7,(s.tm 0)),(8,(s.tm 0)),(9,t152),(10,t153),(11,t154),(12,(s.tm 0)),(13,t156),(14,t157),(15,t158),(16,t160),(17,t161),(18,t161),(19,(s.tm 0)),(20,t162),(21,t163),(22,t164),(23,(s.tm 0)),(24,t166),(25,t167),(26,t168),(27,t170),(28,t171),(29,t172),(30,t174),(31,t175),(32,t176),(4,t178)],s.ds⟩ Oh) (QP s.ds))/\(
bn (some [.int .i64 0,.string ⟨#[]⟩,.int .i64 0]) 3 117 h fun t181 ab7=>
aC Pg W 59 [(s.tm 0),t175] ab7 (fun t183 ab6=>
aE (some 3) t181 t183 ab6 W fun ab5=>
qw W Q QP ⟨ai s.tm [(7,(s.tm 0)),(8,(s.tm 0)),(9,t152),(10,t153),(11,t154),(12,(s.tm 0)),(13,t156),(14,t157),(15,t158),(16,t160),(17,t161),(18,t161),(19,(s.tm 0)),(20,t162),(21,t163),(22,t164),(23,(s.tm 0)),(24,t166),(25,t167),(26,t168),(27,t170),(28,t171),(29,t172),(30,t174),(31,t175),(4,t181),(32,t183)],s.ds⟩ ab5) (QP s.ds))/\True) (
aT t161 aa (.sc (.bool false)) fun t186=>
(
aC Pg W 59 [(s.tm 0),t186] h (fun t187 ab4=>
bn (some [.int .i64 0,.string ⟨#[]⟩,.int .i64 0]) 3 117 ab4 fun t189 ab3=>
aE (some 3) t189 t187 ab3 W fun ab2=>
qw W Q QP ⟨ai s.tm [(7,(s.tm 0)),(8,(s.tm 0)),(9,t152),(10,t153),(11,t154),(12,(s.tm 0)),(13,t156),(14,t157),(15,t158),(16,t160),(17,t161),(18,t161),(19,aa),(20,aa),(21,aa),(22,aa),(23,aa),(24,aa),(25,aa),(26,aa),(27,aa),(28,aa),(29,aa),(30,aa),(31,t186),(32,t187),(4,t189)],s.ds⟩ ab2) (QP s.ds))/\(
bn (some [.int .i64 0,.string ⟨#[]⟩,.int .i64 0]) 3 117 h fun t192 ab1=>
aC Pg W 59 [(s.tm 0),t186] ab1 (fun t194 ab0=>
aE (some 3) t192 t194 ab0 W fun abZ=>
qw W Q QP ⟨ai s.tm [(7,(s.tm 0)),(8,(s.tm 0)),(9,t152),(10,t153),(11,t154),(12,(s.tm 0)),(13,t156),(14,t157),(15,t158),(16,t160),(17,t161),(18,t161),(19,aa),(20,aa),(21,aa),(22,aa),(23,aa),(24,aa),(25,aa),(26,aa),(27,aa),(28,aa),(29,aa),(30,aa),(31,t186),(4,t192),(32,t194)],s.ds⟩ abZ) (QP s.ds))/\True)
end
theorem calls{x0 x1:AV}{h:AH}{M:WK}{R:RK}(hp:P7 (fun id=>M id\/h.next<=id) (cM Pg [] R) (bx R) (s0 [x0,x1]) h):aB Pg 35 [x0,x1] h M R:=
 mA (n:=155) (pl:=pl) P7 Tryz.mixed Tryz.func35 (fun W Q QP=>
(sn
(sq (qw W Q QP)
(sq (P8 W Q QP)
(sq (yw W Q QP)
(sn
(sm (k1 W Q QP))
(sq (Bc W Q QP)
(bk 0 (sn
(cd (tA W Q QP) (sq (k4 W Q QP)
(sq (k3 W Q QP)
(sm (k2 W Q QP)))) (sq (yy W Q QP)
(cd (C9 W Q QP) (sq (eF W Q QP)
(sn
(sm (k5 W Q QP))
(bk 3 (lo (k9 W Q QP))))) (sq (yz W Q QP)
(cd (wG W Q QP) (sq (kq W Q QP)
(sm (gZ W Q QP))) (sq (yD W Q QP)
(cd (yE W Q QP) (sq (nY W Q QP)
(sq (nD W Q QP)
(sm (mR W Q QP)))) (sq (Be W Q QP)
(cd (yF W Q QP) (sn
(sm (oJ W Q QP))
(sm (nC W Q QP))) (sq (C_ W Q QP)
(cd (Bf W Q QP) (sn
(sm (ss W Q QP))
(sm (sr W Q QP))) (sn
(sn
(sm (ry W Q QP))
(bk 1 (lo (so W Q QP))))
(sm (sk W Q QP))))))))))))))
(sq (yx W Q QP)
(cd (C8 W Q QP) tr tr)))))))))
(sm (P7 W Q QP)))) hp
attribute [simp] k1 k2 k3 k4 k5 k6 k7 k8 k9 eF gZ kq mR nD nY oJ nC ss sr ry tC oI tB so sk Bf C_ yF Be yE yD wG yz C9 yy tA C8 yx Bc yw P8 qw P7
end cZ
end
section
open Go.Ab
section
variable (W:Nat->Prop) (Q:ck) (QP:bU) (s:St) (h:AH)
noncomputable def aq.code:Code:=Tryz.f19.body.getD .skip
def aq.pl:dz:=[(3,⟨[(none,[(0,true),(1,true),(2,false),(3,false),(4,false)])],true,[],[]⟩)]
theorem aq.ok:kl Pg aq.pl aq.code=true:=by kernel_rfl
def aq.t1(W:Nat->Prop)(Q:ck)(s:St)(h:AH):Prop:=
 aY (s.tm 6) fun t1=>
 ah (some 3) t1 fun t2=>
 al (some false) (some 1) t2 h fun t3 _=>
 aE (some 1) (s.tm 2) t3 h W fun h5=>
 aE (some 1) (s.tm 3) (.sc (.int .i64 0)) h5 W fun h6=>
 aE (some 1) (s.tm 4) (.sc (.int .i64 0)) h6 W fun h7=>
 Q .ret ⟨ai s.tm [(32,(s.tm 6)),(33,t1),(34,t2),(35,t3)],s.ds⟩ h7
def aq.k1(W:Nat->Prop)(Q:ck)(QP:bU)(s:St)(h:AH):Prop:=aq.t1 W Q s h
theorem aq.NS:aw Pg 36 W aq.pl (Code.at aq.code [1,1,1,1,1,1,0]) (bL (aw Pg 36 W aq.pl (Code.at aq.code [1,1,1,1,1,1,1]) (Q) QP) (Q)) QP s h=aq.t1 W Q s h:=by kernel_rfl
theorem aq.D_:aw Pg 36 W aq.pl (Code.at aq.code [1,1,1,1,1,1]) (Q) QP s h=aq.k1 W Q QP s h:=gX (a:=(Code.at aq.code [1,1,1,1,1,1,0])) (b:=(Code.at aq.code [1,1,1,1,1,1,1])) (by kernel_rfl) (fun _ _=>rfl) (aq.NS W Q QP s h)
def aq.t2(W:Nat->Prop)(Q:ck)(QP:bU)(s:St)(h:AH):Prop:=
 aC Pg W 35 [(s.tm 6),(.sc (.int .i64 0))] h (fun t8 h9=>
 Q .normal ⟨ai s.tm [(30,(s.tm 6)),(31,t8)],s.ds⟩ h9) (QP s.ds)
def aq.k2(W:Nat->Prop)(Q:ck)(QP:bU)(s:St)(h:AH):Prop:=aq.t2 W Q QP s h
theorem aq.NR:aw Pg 36 W aq.pl (Code.at aq.code [1,1,1,1,1,0,0,0,1,0]) (eI 1 (Q)) QP s h=aq.t2 W Q QP s h:=by kernel_rfl
theorem aq.Ja:aw Pg 36 W aq.pl (Code.at aq.code [1,1,1,1,1,0,0,0,1,0]) (eI 1 (Q)) QP s h=aq.k2 W Q QP s h:=(aq.NR W Q QP s h)
theorem aq.o1:aw Pg 36 W aq.pl (Code.at aq.code [1,1,1,1,1,0,0,0,1]) (Q) QP s h=aq.k2 W Q QP s h:=E7 (a:=(Code.at aq.code [1,1,1,1,1,0,0,0,1,0])) (by kernel_rfl) (aq.Ja W Q QP s h)
def aq.t3(Q:ck)(s:St)(h:AH)(C0:KT):Prop:=
 aM (s.tm 29) (
 C0 s h) (
 Q (.exit 0) s h)
def aq.k3(W:Nat->Prop)(Q:ck)(QP:bU)(s:St)(h:AH):Prop:=aq.t3 Q s h (aq.k2 W Q QP)
theorem aq.I_(C0:KT):aM (lx s (.tmp 29)) (aw Pg 36 W aq.pl (Code.at aq.code [1,1,1,1,1,0,0,0,0,1,0]) (bL (C0) (Q)) QP s h) (aw Pg 36 W aq.pl (Code.at aq.code [1,1,1,1,1,0,0,0,0,1,1]) (bL (C0) (Q)) QP s h)=aq.t3 Q s h C0:=by kernel_rfl
theorem aq.I9:aw Pg 36 W aq.pl (Code.at aq.code [1,1,1,1,1,0,0,0,0,1]) (bL (aq.k2 W Q QP) (Q)) QP s h=aq.k3 W Q QP s h:=qV (a:=(Code.at aq.code [1,1,1,1,1,0,0,0,0,1,0])) (b:=(Code.at aq.code [1,1,1,1,1,0,0,0,0,1,1])) (by kernel_rfl) rfl rfl (aq.I_ W Q QP s h (aq.k2 W Q QP))
def aq.t4(s:St)(h:AH)(C0 C1:KT):Prop:=
 aY (s.tm 6) fun t10=>
 ah (some 1) t10 fun t11=>
 al (some false) (some 1) t11 h fun t12 _=>
 (a_ (s.tm 5)=false)/\bO (s.tm 5) fun t14=>
 ag Pg .lss 3 false t12 t14 fun t15=>
 C1 ⟨ai s.tm [(23,(s.tm 6)),(24,t10),(25,t11),(26,t12),(27,(s.tm 5)),(28,t14),(29,t15)],s.ds⟩ h
def aq.k4(W:Nat->Prop)(Q:ck)(QP:bU)(s:St)(h:AH):Prop:=aq.t4 s h (aq.k2 W Q QP) (aq.k3 W Q QP)
theorem aq.I8(C0 C1:KT):aw Pg 36 W aq.pl (Code.at aq.code [1,1,1,1,1,0,0,0,0,0]) (bL (C1) (bL (C0) (Q))) QP s h=aq.t4 s h C0 C1:=by kernel_rfl
theorem aq.I7:aw Pg 36 W aq.pl (Code.at aq.code [1,1,1,1,1,0,0,0,0]) (bL (aq.k2 W Q QP) (Q)) QP s h=aq.k4 W Q QP s h:=gX (a:=(Code.at aq.code [1,1,1,1,1,0,0,0,0,0])) (b:=(Code.at aq.code [1,1,1,1,1,0,0,0,0,1])) (by kernel_rfl) (aq.I9 W Q QP) (aq.I8 W Q QP s h (aq.k2 W Q QP) (aq.k3 W Q QP))
theorem aq.o2:aw Pg 36 W aq.pl (Code.at aq.code [1,1,1,1,1,0,0,0]) (Q) QP s h=aq.k4 W Q QP s h:=gX (a:=(Code.at aq.code [1,1,1,1,1,0,0,0,0])) (b:=(Code.at aq.code [1,1,1,1,1,0,0,0,1])) (by kernel_rfl) (aq.o1 W Q QP) (aq.I7 W Q QP s h)
noncomputable def aq.c1:Code:=(Code.at aq.code [1,1,1,1,1,0,0,0])
theorem aq.l1:aw Pg 36 W aq.pl aq.c1 Q QP s h=aq.k4 W Q QP s h:=aq.o2 W Q QP s h
def aq.k5(W:Nat->Prop)(Q:ck)(QP:bU)(s:St)(h:AH):Prop:=lz (aw Pg 36 W aq.pl aq.c1) (eI 0 (bL (aq.k1 W Q QP) (Q))) QP s h
theorem aq.I6:aw Pg 36 W aq.pl (Code.at aq.code [1,1,1,1,1,0,0]) (eI 0 (bL (aq.k1 W Q QP) (Q))) QP s h=aq.k5 W Q QP s h:=Sc (a:=aq.c1) (by kernel_rfl)
theorem aq.o3:aw Pg 36 W aq.pl (Code.at aq.code [1,1,1,1,1,0]) (bL (aq.k1 W Q QP) (Q)) QP s h=aq.k5 W Q QP s h:=E7 (a:=(Code.at aq.code [1,1,1,1,1,0,0])) (by kernel_rfl) (aq.I6 W Q QP s h)
theorem aq.o4:aw Pg 36 W aq.pl (Code.at aq.code [1,1,1,1,1]) (Q) QP s h=aq.k5 W Q QP s h:=gX (a:=(Code.at aq.code [1,1,1,1,1,0])) (b:=(Code.at aq.code [1,1,1,1,1,1])) (by kernel_rfl) (aq.D_ W Q QP) (aq.o3 W Q QP s h)
def aq.t6(s:St)(h:AH)(C0:KT):Prop:=
 (a_ (s.tm 0)=true)/\bO (s.tm 0) fun t16=>
 bZ (some ([.slice none 0 0,.int .i64 0,.int .i64 0,.slice none 0 0],.inl [(0,1),(1,1),(2,1),(3,1)])) [(0,(s.tm 5)),(2,t16)] fun t17=>
 dS 4 89 t17 h fun t18 vK=>
 C0 ⟨ai s.tm [(18,(s.tm 5)),(19,(s.tm 0)),(20,t16),(21,t17),(22,t18),(6,t18)],s.ds⟩ vK
def aq.k6(W:Nat->Prop)(Q:ck)(QP:bU)(s:St)(h:AH):Prop:=aq.t6 s h (aq.k5 W Q QP)
theorem aq.I5(C0:KT):aw Pg 36 W aq.pl (Code.at aq.code [1,1,1,1,0]) (bL (C0) (Q)) QP s h=aq.t6 s h C0:=by kernel_rfl
theorem aq.I4:aw Pg 36 W aq.pl (Code.at aq.code [1,1,1,1]) (Q) QP s h=aq.k6 W Q QP s h:=gX (a:=(Code.at aq.code [1,1,1,1,0])) (b:=(Code.at aq.code [1,1,1,1,1])) (by kernel_rfl) (aq.o4 W Q QP) (aq.I5 W Q QP s h (aq.k5 W Q QP))
def aq.t7(s:St)(h:AH)(C0:KT):Prop:=
 JL (.fn (.func 34) [] [(s.tm 2),(s.tm 3),(s.tm 4)]) [] s.ds fun d20=>
 C0 ⟨ai s.tm [(17,(.fn (.func 34) [] [(s.tm 2),(s.tm 3),(s.tm 4)]))],d20⟩ h
def aq.k7(W:Nat->Prop)(Q:ck)(QP:bU)(s:St)(h:AH):Prop:=aq.t7 s h (aq.k6 W Q QP)
theorem aq.UC(C0:KT):aw Pg 36 W aq.pl (Code.at aq.code [1,1,1,0]) (bL (C0) (Q)) QP s h=aq.t7 s h C0:=by kernel_rfl
theorem aq.Xy:aw Pg 36 W aq.pl (Code.at aq.code [1,1,1]) (Q) QP s h=aq.k7 W Q QP s h:=gX (a:=(Code.at aq.code [1,1,1,0])) (b:=(Code.at aq.code [1,1,1,1])) (by kernel_rfl) (aq.I4 W Q QP) (aq.UC W Q QP s h (aq.k6 W Q QP))
def aq.t8(Q:ck)(s:St)(h:AH)(C0:KT):Prop:=
 Q .ret s h
def aq.k8(W:Nat->Prop)(Q:ck)(QP:bU)(s:St)(h:AH):Prop:=aq.t8 Q s h (aq.k7 W Q QP)
theorem aq.UB(C0:KT):aw Pg 36 W aq.pl (Code.at aq.code [1,1,0,1,0,1]) (bL (C0) (Q)) QP s h=aq.t8 Q s h C0:=by kernel_rfl
theorem aq.Xx:aw Pg 36 W aq.pl (Code.at aq.code [1,1,0,1,0,1]) (bL (aq.k7 W Q QP) (Q)) QP s h=aq.k8 W Q QP s h:=(aq.UB W Q QP s h (aq.k7 W Q QP))
def aq.t9(W:Nat->Prop)(s:St)(h:AH)(C0 C1:KT):Prop:=
 ∃Hd:Nat->Nat,(∀i∈[0,1],h.obj (Hd i)≠none)/\(
 al (some false) (some 1) (s.tm 3) h fun t21 i22=>
 (i22=Hd 0)/\(
 al (some false) (some 1) (s.tm 4) h fun t23 i24=>
 (i24=Hd 1)/\(
 aE (some 1) (s.tm 2) (.sc (.slice none 0 0)) h (jG W Hd [0,1]) fun vG=>
 aE (some 1) (s.tm 3) t21 vG (jG W Hd [1]) fun nH=>
 aE (some 1) (s.tm 4) t23 nH W fun yR=>
 C1 ⟨ai s.tm [(15,t21),(16,t23)],s.ds⟩ yR)))
def aq.k9(W:Nat->Prop)(Q:ck)(QP:bU)(s:St)(h:AH):Prop:=aq.t9 W s h (aq.k7 W Q QP) (aq.k8 W Q QP)
theorem aq.UA(C0 C1:KT):aw Pg 36 W aq.pl (Code.at aq.code [1,1,0,1,0,0]) (bL (C1) (bL (C0) (Q))) QP s h=aq.t9 W s h C0 C1:=by kernel_rfl
theorem aq.Xw:aw Pg 36 W aq.pl (Code.at aq.code [1,1,0,1,0,0]) (bL (aq.k8 W Q QP) (bL (aq.k7 W Q QP) (Q))) QP s h=aq.k9 W Q QP s h:=(aq.UA W Q QP s h (aq.k7 W Q QP) (aq.k8 W Q QP))
theorem aq.o5:aw Pg 36 W aq.pl (Code.at aq.code [1,1,0,1,0]) (bL (aq.k7 W Q QP) (Q)) QP s h=aq.k9 W Q QP s h:=gX (a:=(Code.at aq.code [1,1,0,1,0,0])) (b:=(Code.at aq.code [1,1,0,1,0,1])) (by kernel_rfl) (aq.Xx W Q QP) (aq.Xw W Q QP s h)
def aq.t10(s:St)(h:AH)(C0 C1:KT):Prop:=
 aM (s.tm 14) (
 C1 s h) (
 C0 s h)
def aq.eF(W:Nat->Prop)(Q:ck)(QP:bU)(s:St)(h:AH):Prop:=aq.t10 s h (aq.k7 W Q QP) (aq.k9 W Q QP)
theorem aq.Qb(C0 C1:KT):aM (lx s (.tmp 14)) (C1 s h) (aw Pg 36 W aq.pl (Code.at aq.code [1,1,0,1,1]) (bL (C0) (Q)) QP s h)=aq.t10 s h C0 C1:=by kernel_rfl
theorem aq.UH:aw Pg 36 W aq.pl (Code.at aq.code [1,1,0,1]) (bL (aq.k7 W Q QP) (Q)) QP s h=aq.eF W Q QP s h:=qV (a:=(Code.at aq.code [1,1,0,1,0])) (b:=(Code.at aq.code [1,1,0,1,1])) (by kernel_rfl) (aq.o5 W Q QP s h) rfl (aq.Qb W Q QP s h (aq.k7 W Q QP) (aq.k9 W Q QP))
def aq.t11(s:St)(h:AH)(C0 C1:KT):Prop:=
 al (some false) (some 1) (s.tm 4) h fun t28 _=>
 ag Pg .neq 28 true t28 (.sc (.int .i64 0)) fun t30=>
 C0 ⟨ai s.tm [(13,t28),(14,t30)],s.ds⟩ h
def aq.gZ(W:Nat->Prop)(Q:ck)(QP:bU)(s:St)(h:AH):Prop:=aq.t11 s h (aq.eF W Q QP) (aq.k7 W Q QP)
theorem aq.Qa(C0 C1:KT):aw Pg 36 W aq.pl (Code.at aq.code [1,1,0,0]) (bL (C0) (bL (C1) (Q))) QP s h=aq.t11 s h C0 C1:=by kernel_rfl
theorem aq.UG:aw Pg 36 W aq.pl (Code.at aq.code [1,1,0]) (bL (aq.k7 W Q QP) (Q)) QP s h=aq.gZ W Q QP s h:=gX (a:=(Code.at aq.code [1,1,0,0])) (b:=(Code.at aq.code [1,1,0,1])) (by kernel_rfl) (aq.UH W Q QP) (aq.Qa W Q QP s h (aq.eF W Q QP) (aq.k7 W Q QP))
theorem aq.o6:aw Pg 36 W aq.pl (Code.at aq.code [1,1]) (Q) QP s h=aq.gZ W Q QP s h:=gX (a:=(Code.at aq.code [1,1,0])) (b:=(Code.at aq.code [1,1,1])) (by kernel_rfl) (aq.Xy W Q QP) (aq.UG W Q QP s h)
def aq.t12(W:Nat->Prop)(QP:bU)(s:St)(h:AH)(C0:KT):Prop:=
 aC Pg W 33 [(s.tm 0)] h (fun t31 tL=>
 cf t31 0 fun t33=>
 cf t31 1 fun t34=>
 cf t31 2 fun t35=>
 aE (some 1) (s.tm 3) t34 tL W fun yP=>
 aE (some 1) (s.tm 4) t35 yP W fun vF=>
 C0 ⟨ai s.tm [(8,(s.tm 0)),(9,t31),(7,t31),(10,t33),(11,t34),(12,t35),(5,t33)],s.ds⟩ vF) (QP s.ds)
def aq.kq(W:Nat->Prop)(Q:ck)(QP:bU)(s:St)(h:AH):Prop:=aq.t12 W QP s h (aq.gZ W Q QP)
theorem aq.P_(C0:KT):aw Pg 36 W aq.pl (Code.at aq.code [1,0]) (bL (C0) (Q)) QP s h=aq.t12 W QP s h C0:=by kernel_rfl
theorem aq.UF:aw Pg 36 W aq.pl (Code.at aq.code [1]) (Q) QP s h=aq.kq W Q QP s h:=gX (a:=(Code.at aq.code [1,0])) (b:=(Code.at aq.code [1,1])) (by kernel_rfl) (aq.o6 W Q QP) (aq.P_ W Q QP s h (aq.gZ W Q QP))
def aq.t13(s:St)(h:AH)(C0:KT):Prop:=
 bn (some [.slice none 0 0]) 1 43 h fun t38 yO=>
 bn (some [.int .i64 0]) 1 3 yO fun t40 DA=>
 bn (some [.int .i64 0]) 1 28 DA fun t42 QL=>
 C0 ⟨ai s.tm [(2,t38),(3,t40),(4,t42)],s.ds⟩ QL
def aq.mR(W:Nat->Prop)(Q:ck)(QP:bU)(s:St)(h:AH):Prop:=aq.t13 s h (aq.kq W Q QP)
theorem aq.P9(C0:KT):aw Pg 36 W aq.pl (Code.at aq.code [0]) (bL (C0) (Q)) QP s h=aq.t13 s h C0:=by kernel_rfl
theorem aq.UE:aw Pg 36 W aq.pl (Code.at aq.code []) (Q) QP s h=aq.mR W Q QP s h:=gX (a:=(Code.at aq.code [0])) (b:=(Code.at aq.code [1])) (by kernel_rfl) (aq.UF W Q QP) (aq.P9 W Q QP s h (aq.kq W Q QP))
end
theorem aq.calls{x0:AV}{h:AH}{M:Nat->Prop}{R:AE->AH->Prop}(hp:aq.mR (fun id=>M id\/h.next<=id) (cM Pg [.cell 2 43,.cell 3 3,.cell 4 28] R) (bx R) (s0 [x0]) h):aB Pg 19 [x0] h M R:=
 xw (c:=aq.code) Tryz.mixed Tryz.func19 (by kernel_rfl) (Nat.le_of_ble_eq_true rfl) aq.ok (by rw[show Tryz.f19.ntmps=36 from rfl,show Tryz.f19.results.toList=[.cell 2 43,.cell 3 3,.cell 4 28] from rfl];exact Eq.mpr (aq.UE _ _ _ _ _) hp)
attribute [simp] aq.k1 aq.t1 aq.k2 aq.t2 aq.k3 aq.t3 aq.k4 aq.t4 aq.k5 aq.k6 aq.t6 aq.k7 aq.t7 aq.k8 aq.t8 aq.k9 aq.t9 aq.eF aq.t10 aq.gZ aq.t11 aq.kq aq.t12 aq.mR aq.t13
end
end Go.Proofs.YtjehibknlmehmaaGreatDoor
