/- Bodies of the reader; printed. No condition. -/
import Derived.Test.YtjehibknlmehmaaGreatDoorGs
set_option maxRecDepth 100000
namespace Go.Proofs.YtjehibknlmehmaaGreatDoor
section
open Go.Ab
namespace Y0
def pl:dm:=[]
def k1:OK:=fun _ Q _ s h=>
Q .ret ⟨aj s.tm [(2,(.sc (.bool false)))],s.ds⟩ h
def k2:OK:=fun _ Q _ s h=>
Q .ret ⟨aj s.tm [(2,(.sc (.bool true)))],s.ds⟩ h
def k3:OK:=fun W Q QP s h=>
aE (s.tm 4) (
k2 W Q QP s h) (
k1 W Q QP s h)
def k4:OK:=fun W Q QP s h=>
aE (s.tm 4) (
k3 W Q QP s h) (
aa Pg .eql 9 true (s.tm 3) (.sc (.string ⟨#[114,101,115,101,116]⟩)) fun t1=>
k3 W Q QP ⟨aj s.tm [(11,t1),(4,t1)],s.ds⟩ h)
def k5:OK:=fun W Q QP s h=>
aa Pg .eql 9 true (s.tm 3) (.sc (.string ⟨#[109,101,97,115,117,114,101]⟩)) fun t2=>
k4 W Q QP ⟨aj s.tm [(10,t2),(4,t2)],s.ds⟩ h
def k6:OK:=fun W Q QP s h=>
aE (s.tm 4) (
k3 W Q QP s h) (
k5 W Q QP s h)
def k7:OK:=fun W Q QP s h=>
aa Pg .eql 9 true (s.tm 3) (.sc (.string ⟨#[105,102]⟩)) fun t3=>
k6 W Q QP ⟨aj s.tm [(9,t3),(4,t3)],s.ds⟩ h
def k8:OK:=fun W Q QP s h=>
aE (s.tm 4) (
k3 W Q QP s h) (
k7 W Q QP s h)
def k9:OK:=fun W Q QP s h=>
aa Pg .eql 9 true (s.tm 3) (.sc (.string ⟨#[114,101,112,101,97,116]⟩)) fun t4=>
k8 W Q QP ⟨aj s.tm [(8,t4),(4,t4)],s.ds⟩ h
def dI:OK:=fun W Q QP s h=>
aE (s.tm 4) (
k3 W Q QP s h) (
k9 W Q QP s h)
def ep:OK:=fun W Q QP s h=>
aa Pg .eql 9 true (s.tm 3) (.sc (.string ⟨#[103,97,116,101]⟩)) fun t5=>
dI W Q QP ⟨aj s.tm [(7,t5),(4,t5)],s.ds⟩ h
def gY:OK:=fun W Q QP s h=>
aE (s.tm 4) (
k3 W Q QP s h) (
ep W Q QP s h)
def jh:OK:=fun W Q QP s h=>
aa Pg .eql 9 true (s.tm 3) (.sc (.string ⟨#[98,105,116,115]⟩)) fun t6=>
gY W Q QP ⟨aj s.tm [(6,t6),(4,t6)],s.ds⟩ h
def jc:OK:=fun W Q QP s h=>
aE (s.tm 4) (
k3 W Q QP s h) (
jh W Q QP s h)
def iR:OK:=fun W Q QP s h=>
aa Pg .eql 9 true (s.tm 3) (.sc (.string ⟨#[113,117,98,105,116,115]⟩)) fun t7=>
jc W Q QP ⟨aj s.tm [(5,t7),(4,t7)],s.ds⟩ h
def jR:OK:=fun W Q QP s h=>
iR W Q QP ⟨aj s.tm [(3,(s.tm 0))],s.ds⟩ h
def jb:OK:=fun W Q QP s h=>
jR W Q QP ⟨aj s.tm [(2,(.sc (.bool false)))],s.ds⟩ h
theorem calls{x0:AV}{h:AH}{M:WK}{R:RK}(hp:jb (fun id=>M id\/h.next<=id) (cQ Pg [.tmp 2] R) (bF R) (s0 [x0]) h):ay Pg 87 [x0] h M R:=
 kI (n:=12) (pl:=pl) jb Tryz.mixed Tryz.func87 (fun W Q QP=>
(sq (jb W Q QP)
(sn
(sl (k1 W Q QP))
(sq (jR W Q QP)
(bk 0 (sn
(cd (k3 W Q QP) (sl (k2 W Q QP)) tr)
(sq (iR W Q QP)
(cd (jc W Q QP) tr (sq (jh W Q QP)
(cd (gY W Q QP) tr (sq (ep W Q QP)
(cd (dI W Q QP) tr (sq (k9 W Q QP)
(cd (k8 W Q QP) tr (sq (k7 W Q QP)
(cd (k6 W Q QP) tr (sq (k5 W Q QP)
(cd (k4 W Q QP) tr tr)))))))))))))))))) hp
attribute [simp] k1 k2 k3 k4 k5 k6 k7 k8 k9 dI ep gY jh jc iR jR jb
end Y0
namespace Y1
def pl:dm:=[(1,⟨[(none,(fr 0 11)),(some (10,true),(fr 11 12)),(none,(fr 23 2)),(some (24,true),(fr 25 13)),(none,(fr 38 2))],false,[],[]⟩)]
def k1:OK:=fun _ Q _ s h=>
Q .ret s h
def k2:OK:=fun W Q QP s h=>
aJ (s.tm 29) (s.tm 42) (.sc (.bool false)) fun t1=>
k1 W Q QP ⟨aj s.tm [(43,t1),(4,t1)],s.ds⟩ h
def k3:OK:=fun W Q QP s h=>
bd true (s.tm 29) (
bt (s.tm 0) fun t2=>
ag (some 0) t2 fun t3=>
ai (some false) (some 1) t3 h fun t4 _=>
bt (s.tm 0) fun t6=>
ag (some 1) t6 fun t7=>
ai (some false) (some 1) t7 h fun t8 _=>
bM (some (3,none)) t4 t8 fun t10=>
ag (some 1) t10 fun t11=>
ai (some false) (some 1) t11 h fun t12 _=>
aa Pg .eql 9 false t12 (s.tm 1) fun t14=>
k2 W Q QP ⟨aj s.tm [(30,(s.tm 0)),(31,t2),(32,t3),(33,t4),(34,(s.tm 0)),(35,t6),(36,t7),(37,t8),(38,t10),(39,t11),(40,t12),(41,(s.tm 1)),(42,t14)],s.ds⟩ h) (
k2 W Q QP ⟨aj s.tm [(30,ab),(31,ab),(32,ab),(33,ab),(34,ab),(35,ab),(36,ab),(37,ab),(38,ab),(39,ab),(40,ab),(41,ab),(42,ab)],s.ds⟩ h)
def k4:OK:=fun W Q QP s h=>
aJ (s.tm 15) (s.tm 27) (.sc (.bool false)) fun t15=>
k3 W Q QP ⟨aj s.tm [(28,t15),(29,t15)],s.ds⟩ h
def k5:OK:=fun W Q QP s h=>
bd true (s.tm 15) (
bt (s.tm 0) fun t16=>
ag (some 0) t16 fun t17=>
ai (some false) (some 1) t17 h fun t18 _=>
bt (s.tm 0) fun t20=>
ag (some 1) t20 fun t21=>
ai (some false) (some 1) t21 h fun t22 _=>
bM (some (3,none)) t18 t22 fun t24=>
ag (some 0) t24 fun t25=>
ai (some false) (some 1) t25 h fun t26 _=>
aa Pg .eql 3 true t26 (.sc (.int .i64 3)) fun t28=>
k4 W Q QP ⟨aj s.tm [(16,(s.tm 0)),(17,t16),(18,t17),(19,t18),(20,(s.tm 0)),(21,t20),(22,t21),(23,t22),(24,t24),(25,t25),(26,t26),(27,t28)],s.ds⟩ h) (
k4 W Q QP ⟨aj s.tm [(16,ab),(17,ab),(18,ab),(19,ab),(20,ab),(21,ab),(22,ab),(23,ab),(24,ab),(25,ab),(26,ab),(27,ab)],s.ds⟩ h)
def k6:OK:=fun W Q QP s h=>
bt (s.tm 0) fun t29=>
ag (some 1) t29 fun t30=>
ai (some false) (some 1) t30 h fun t31 _=>
bt (s.tm 0) fun t33=>
ag (some 0) t33 fun t34=>
ai (some false) (some 1) t34 h fun t35 _=>
(aW t35=false)/\bL t35 fun t37=>
aa Pg .lss 3 false t31 t37 fun t38=>
k5 W Q QP ⟨aj s.tm [(5,(s.tm 0)),(6,t29),(7,t30),(8,t31),(9,(s.tm 0)),(10,t33),(11,t34),(12,t35),(13,t37),(14,t38),(15,t38)],s.ds⟩ h
def k7:OK:=fun W Q QP s h=>
k6 W Q QP ⟨aj s.tm [(4,(.sc (.bool false)))],s.ds⟩ h
theorem calls{x0 x1:AV}{h:AH}{M:WK}{R:RK}(hp:k7 (fun id=>M id\/h.next<=id) (cQ Pg [.tmp 4] R) (bF R) (s0 [x0,x1]) h):ay Pg 86 [x0,x1] h M R:=
 kI (n:=44) (pl:=pl) k7 Tryz.mixed Tryz.func86 (fun W Q QP=>
(sq (k7 W Q QP)
(sn
(sm (k1 W Q QP))
(gr (gn (k6 W Q QP) (gx (k5 W Q QP) (gn (k4 W Q QP) (gx (k3 W Q QP) (gl (k2 W Q QP)))))))))) hp
attribute [simp] k1 k2 k3 k4 k5 k6 k7
end Y1
namespace Y6
def pl:dm:=[]
def k1:OK:=fun W Q QP s h=>
aC Pg W 63 [(s.tm 0)] h (fun t1 h2=>
aC Pg W 59 [(s.tm 0),t1] h2 (fun t3 h4=>
l7 (some (1,1,false)) t3 fun t5=>
Q .ret ⟨aj s.tm [(3,(s.tm 0)),(4,(s.tm 0)),(5,t1),(6,t3),(7,t5),(2,t5)],s.ds⟩ h4) (QP s.ds)) (QP s.ds)
def k2:OK:=fun W Q QP s h=>
k1 W Q QP ⟨aj s.tm [(2,(.sc (.string ⟨#[]⟩)))],s.ds⟩ h
theorem calls{x0:AV}{h:AH}{M:WK}{R:RK}(hp:k2 (fun id=>M id\/h.next<=id) (cQ Pg [.tmp 2] R) (bF R) (s0 [x0]) h):ay Pg 60 [x0] h M R:=
 kI (n:=8) (pl:=pl) k2 Tryz.mixed Tryz.func60 (fun W Q QP=>
(sq (k2 W Q QP)
(sl (k1 W Q QP)))) hp
attribute [simp] k1 k2
end Y6
namespace Y4
def pl:dm:=[(1,⟨[(none,(fr 0 11)),(some (10,true),(fr 11 12)),(none,(fr 23 2)),(some (24,true),(fr 25 13)),(none,(fr 38 2))],false,[],[]⟩)]
def k1:OK:=fun _ Q _ s h=>
Q .ret s h
def k2:OK:=fun W Q QP s h=>
aJ (s.tm 27) (s.tm 40) (.sc (.bool false)) fun t1=>
k1 W Q QP ⟨aj s.tm [(41,t1),(2,t1)],s.ds⟩ h
def k3:OK:=fun W Q QP s h=>
bd true (s.tm 27) (
bt (s.tm 0) fun t2=>
ag (some 0) t2 fun t3=>
ai (some false) (some 1) t3 h fun t4 _=>
bt (s.tm 0) fun t6=>
ag (some 1) t6 fun t7=>
ai (some false) (some 1) t7 h fun t8 _=>
bM (some (3,none)) t4 t8 fun t10=>
ag (some 1) t10 fun t11=>
ai (some false) (some 1) t11 h fun t12 _=>
aC Pg W 87 [t12] h (fun t14 vD=>
e_ .not t14 fun t16=>
k2 W Q QP ⟨aj s.tm [(28,(s.tm 0)),(29,t2),(30,t3),(31,t4),(32,(s.tm 0)),(33,t6),(34,t7),(35,t8),(36,t10),(37,t11),(38,t12),(39,t14),(40,t16)],s.ds⟩ vD) (QP s.ds)) (
k2 W Q QP ⟨aj s.tm [(28,ab),(29,ab),(30,ab),(31,ab),(32,ab),(33,ab),(34,ab),(35,ab),(36,ab),(37,ab),(38,ab),(39,ab),(40,ab)],s.ds⟩ h)
def k4:OK:=fun W Q QP s h=>
aJ (s.tm 13) (s.tm 25) (.sc (.bool false)) fun t17=>
k3 W Q QP ⟨aj s.tm [(26,t17),(27,t17)],s.ds⟩ h
def k5:OK:=fun W Q QP s h=>
bd true (s.tm 13) (
bt (s.tm 0) fun t18=>
ag (some 0) t18 fun t19=>
ai (some false) (some 1) t19 h fun t20 _=>
bt (s.tm 0) fun t22=>
ag (some 1) t22 fun t23=>
ai (some false) (some 1) t23 h fun t24 _=>
bM (some (3,none)) t20 t24 fun t26=>
ag (some 0) t26 fun t27=>
ai (some false) (some 1) t27 h fun t28 _=>
aa Pg .eql 3 true t28 (.sc (.int .i64 1)) fun t30=>
k4 W Q QP ⟨aj s.tm [(14,(s.tm 0)),(15,t18),(16,t19),(17,t20),(18,(s.tm 0)),(19,t22),(20,t23),(21,t24),(22,t26),(23,t27),(24,t28),(25,t30)],s.ds⟩ h) (
k4 W Q QP ⟨aj s.tm [(14,ab),(15,ab),(16,ab),(17,ab),(18,ab),(19,ab),(20,ab),(21,ab),(22,ab),(23,ab),(24,ab),(25,ab)],s.ds⟩ h)
def k6:OK:=fun W Q QP s h=>
bt (s.tm 0) fun t31=>
ag (some 1) t31 fun t32=>
ai (some false) (some 1) t32 h fun t33 _=>
bt (s.tm 0) fun t35=>
ag (some 0) t35 fun t36=>
ai (some false) (some 1) t36 h fun t37 _=>
(aW t37=false)/\bL t37 fun t39=>
aa Pg .lss 3 false t33 t39 fun t40=>
k5 W Q QP ⟨aj s.tm [(3,(s.tm 0)),(4,t31),(5,t32),(6,t33),(7,(s.tm 0)),(8,t35),(9,t36),(10,t37),(11,t39),(12,t40),(13,t40)],s.ds⟩ h
def k7:OK:=fun W Q QP s h=>
k6 W Q QP ⟨aj s.tm [(2,(.sc (.bool false)))],s.ds⟩ h
theorem calls{x0:AV}{h:AH}{M:WK}{R:RK}(hp:k7 (fun id=>M id\/h.next<=id) (cQ Pg [.tmp 2] R) (bF R) (s0 [x0]) h):ay Pg 63 [x0] h M R:=
 kI (n:=42) (pl:=pl) k7 Tryz.mixed Tryz.func63 (fun W Q QP=>
(sq (k7 W Q QP)
(sn
(sm (k1 W Q QP))
(gr (gn (k6 W Q QP) (gx (k5 W Q QP) (gn (k4 W Q QP) (gx (k3 W Q QP) (gl (k2 W Q QP)))))))))) hp
attribute [simp] k1 k2 k3 k4 k5 k6 k7
end Y4
namespace sk
section
variable (W:WK) (Q:cG) (QP:cm) (s:St) (h:AH)
noncomputable def code:Code:=Tryz.f61.body.getD .skip
def pl:dm:=[(1,⟨[(none,(fr 0 12)),(some (11,true),(fr 12 12)),(none,(fr 24 1))],false,[.mk (fr 25 3) [],.mk [(26,false),(25,false),(27,false)] []],[]⟩)]
def k1:OK:=fun _ Q _ s h=>
Q .ret ⟨aj s.tm [(51,(s.tm 4)),(2,(s.tm 4))],s.ds⟩ h
def k2:OK:=fun _ Q QP s h=>
aE (s.tm 46) (
ag (some 2) (s.tm 3) fun t1=>
ai (some false) (some 1) t1 h fun t2 _=>
ck (some ([.int .i64 0,.int .i64 0],.inl [(0,1),(1,1)])) [(0,t2),(1,(.sc (.int .i64 1)))] fun t4=>
rF (some false) 85 t4 fun t5=>
tB t5 h (QP s.ds)) (
Q .normal s h)
def k3:OK:=fun W Q QP s h=>
aa Pg .gtr 3 true (s.tm 4) (.sc (.int .i64 9007199254740991)) fun t6=>
k2 W Q QP ⟨aj s.tm [(45,(s.tm 4)),(46,t6)],s.ds⟩ h
def k4:OK:=fun W Q QP s h=>
aa Pg .mul 3 true (s.tm 4) (.sc (.int .i64 10)) fun t7=>
aa Pg .sub 21 true (s.tm 6) (.sc (.int .i32 48)) fun t8=>
l8 (some .i64) t8 fun t9=>
aa Pg .add 3 false t7 t9 fun t10=>
k3 W Q QP ⟨aj s.tm [(39,(s.tm 4)),(40,t7),(41,(s.tm 6)),(42,t8),(43,t9),(44,t10),(4,t10)],s.ds⟩ h
def k5:OK:=fun W Q QP s h=>
cl (s.tm 36) 2 fun t11=>
k4 W Q QP ⟨aj s.tm [(38,t11),(6,t11)],s.ds⟩ h
def k6:OK:=fun W Q QP s h=>
aE (s.tm 37) (
k5 W Q QP s h) (
Q (.exit 0) s h)
def k7:OK:=fun W Q QP s h=>
sX (s.tm 35) h W fun t12 wO=>
cl t12 0 fun t14=>
k6 W Q QP ⟨aj s.tm [(36,t12),(37,t14)],s.ds⟩ wO
noncomputable def c1:Code:=Code.at code [1,1,1,0,1,0,0]
theorem l1:aw Pg 52 W pl c1 Q QP s h=k7 W Q QP s h:=congrFun (congrFun (show TB ⟨Pg,52,pl⟩ W QP c1 Q (k7 W Q QP) from
(sq (k7 W Q QP)
(sn
(bk 1 (sq (k5 W Q QP)
(sq (k4 W Q QP)
(sq (k3 W Q QP)
(cd (k2 W Q QP) tr tr)))))
(cd (k6 W Q QP) tr tr)))) s) h
def k8:OK:=fun W Q QP s h=>lb (aw Pg 52 W pl c1) (eG 0 (b_ (k1 W Q QP) (Q))) QP s h
def k9:OK:=fun W Q QP s h=>
ag (some 1) (s.tm 3) fun t15=>
ai (some false) (some 1) t15 h fun t16 _=>
qn true t16 h fun t18 vC=>
k8 W Q QP ⟨aj s.tm [(33,t15),(34,t16),(35,t18)],s.ds⟩ vC
def dI:OK:=fun W Q QP s h=>
k9 W Q QP ⟨aj s.tm [(4,(.sc (.int .i64 0)))],s.ds⟩ h
def ep:OK:=fun W Q QP s h=>
bt (s.tm 0) fun t20=>
ag (some 1) t20 fun t21=>
ai (some false) (some 1) t21 h fun t22 _=>
bt (s.tm 0) fun t24=>
ag (some 0) t24 fun t25=>
ai (some false) (some 1) t25 h fun t26 _=>
(aW t26=false)/\bL t26 fun t28=>
aa Pg .lss 3 false t22 t28 fun t29=>
bd true t29 (
bt (s.tm 0) fun t30=>
ag (some 0) t30 fun t31=>
ai (some false) (some 1) t31 h fun t32 _=>
bt (s.tm 0) fun t34=>
ag (some 1) t34 fun t35=>
ai (some false) (some 1) t35 h fun t36 _=>
bM (some (3,none)) t32 t36 fun t38=>
ag (some 0) t38 fun t39=>
ai (some false) (some 1) t39 h fun t40 _=>
aa Pg .eql 3 true t40 (.sc (.int .i64 2)) fun t42=>
aJ t29 t42 (.sc (.bool false)) fun t43=>
(
aC Pg W 59 [(s.tm 0),t43] h (fun t44 vu=>
bH (some [.int .i64 0,.string ⟨#[]⟩,.int .i64 0]) 3 117 vu fun t46 sQ=>
aG (some 3) t46 t44 sQ W fun vt=>
dI W Q QP ⟨aj s.tm [(7,(s.tm 0)),(8,(s.tm 0)),(9,t20),(10,t21),(11,t22),(12,(s.tm 0)),(13,t24),(14,t25),(15,t26),(16,t28),(17,t29),(18,t29),(19,(s.tm 0)),(20,t30),(21,t31),(22,t32),(23,(s.tm 0)),(24,t34),(25,t35),(26,t36),(27,t38),(28,t39),(29,t40),(30,t42),(31,t43),(32,t44),(3,t46)],s.ds⟩ vt) (QP s.ds))/\(
bH (some [.int .i64 0,.string ⟨#[]⟩,.int .i64 0]) 3 117 h fun t49 sP=>
aC Pg W 59 [(s.tm 0),t43] sP (fun t51 yv=>
aG (some 3) t49 t51 yv W fun sO=>
dI W Q QP ⟨aj s.tm [(7,(s.tm 0)),(8,(s.tm 0)),(9,t20),(10,t21),(11,t22),(12,(s.tm 0)),(13,t24),(14,t25),(15,t26),(16,t28),(17,t29),(18,t29),(19,(s.tm 0)),(20,t30),(21,t31),(22,t32),(23,(s.tm 0)),(24,t34),(25,t35),(26,t36),(27,t38),(28,t39),(29,t40),(30,t42),(31,t43),(3,t49),(32,t51)],s.ds⟩ sO) (QP s.ds))/\True) (
aJ t29 ab (.sc (.bool false)) fun t54=>
(
aC Pg W 59 [(s.tm 0),t54] h (fun t55 Fq=>
bH (some [.int .i64 0,.string ⟨#[]⟩,.int .i64 0]) 3 117 Fq fun t57 tV=>
aG (some 3) t57 t55 tV W fun Fp=>
dI W Q QP ⟨aj s.tm [(7,(s.tm 0)),(8,(s.tm 0)),(9,t20),(10,t21),(11,t22),(12,(s.tm 0)),(13,t24),(14,t25),(15,t26),(16,t28),(17,t29),(18,t29),(19,ab),(20,ab),(21,ab),(22,ab),(23,ab),(24,ab),(25,ab),(26,ab),(27,ab),(28,ab),(29,ab),(30,ab),(31,t54),(32,t55),(3,t57)],s.ds⟩ Fp) (QP s.ds))/\(
bH (some [.int .i64 0,.string ⟨#[]⟩,.int .i64 0]) 3 117 h fun t60 Fo=>
aC Pg W 59 [(s.tm 0),t54] Fo (fun t62 Fm=>
aG (some 3) t60 t62 Fm W fun Fl=>
dI W Q QP ⟨aj s.tm [(7,(s.tm 0)),(8,(s.tm 0)),(9,t20),(10,t21),(11,t22),(12,(s.tm 0)),(13,t24),(14,t25),(15,t26),(16,t28),(17,t29),(18,t29),(19,ab),(20,ab),(21,ab),(22,ab),(23,ab),(24,ab),(25,ab),(26,ab),(27,ab),(28,ab),(29,ab),(30,ab),(31,t54),(3,t60),(32,t62)],s.ds⟩ Fl) (QP s.ds))/\True)
def gY:OK:=fun W Q QP s h=>
ep W Q QP ⟨aj s.tm [(2,(.sc (.int .i64 0)))],s.ds⟩ h
end
theorem calls{x0:AV}{h:AH}{M:WK}{R:RK}(hp:gY (fun id=>M id\/h.next<=id) (cQ Pg [.tmp 2] R) (bF R) (s0 [x0]) h):ay Pg 61 [x0] h M R:=
 kI (n:=52) (pl:=pl) gY Tryz.mixed Tryz.func61 (fun W Q QP=>
(sq (gY W Q QP)
(sn
(sq (dI W Q QP)
(sn
(sl (k1 W Q QP))
(sq (k9 W Q QP)
(bk 0 (lo (k8 W Q QP))))))
(sm (ep W Q QP))))) hp
attribute [simp] k1 k2 k3 k4 k5 k6 k7 k8 k9 dI ep gY
end sk
namespace Y7
def pl:dm:=[(1,⟨[(none,(fr 0 10))],false,[],[]⟩),(3,⟨[(none,(fr 0 12))],false,[],[]⟩)]
def k1:OK:=fun W Q _ s h=>
ai (some true) (some 3) (s.tm 5) h fun t1 _=>
aG (some 3) (s.tm 4) t1 h W fun h3=>
Q .ret ⟨aj s.tm [(45,t1)],s.ds⟩ h3
def k2:OK:=fun W Q QP s h=>
bt (s.tm 0) fun t4=>
ag (some 1) t4 fun t5=>
ai (some false) (some 1) t5 h fun t6 _=>
aa Pg .add 3 true t6 (.sc (.int .i64 1)) fun t8=>
bt (s.tm 0) fun t9=>
ag (some 1) t9 fun t10=>
aG (some 1) t10 t8 h W fun mq=>
k1 W Q QP ⟨aj s.tm [(38,(s.tm 0)),(39,t4),(40,t5),(41,t6),(42,t8),(43,t9),(44,t10)],s.ds⟩ mq
def k3:OK:=fun W Q QP s h=>
aE (s.tm 33) (
ag (some 2) (s.tm 5) fun t12=>
ai (some false) (some 1) t12 h fun t13 _=>
ck (some ([.int .i64 0,.int .i64 0],.inl [(0,1),(1,1)])) [(0,t13),(1,(.sc (.int .i64 100)))] fun t15=>
rF (some false) 85 t15 fun t16=>
tB t16 h (QP s.ds)) (
k2 W Q QP s h)
def k4:OK:=fun W Q QP s h=>
e_ .not (s.tm 1) fun t17=>
k3 W Q QP ⟨aj s.tm [(32,(s.tm 1)),(33,t17)],s.ds⟩ h
def k5:OK:=fun W Q QP s h=>
bt (s.tm 0) fun t18=>
ag (some 0) t18 fun t19=>
ai (some false) (some 1) t19 h fun t20 _=>
bt (s.tm 0) fun t22=>
ag (some 1) t22 fun t23=>
ai (some false) (some 1) t23 h fun t24 _=>
bM (some (3,none)) t20 t24 fun t26=>
ai (some true) (some 3) t26 h fun t27 _=>
bH (some [.int .i64 0,.string ⟨#[]⟩,.int .i64 0]) 3 117 h fun t29 Qb=>
aG (some 3) t29 t27 Qb W fun Qa=>
k4 W Q QP ⟨aj s.tm [(22,(s.tm 0)),(23,t18),(24,t19),(25,t20),(26,(s.tm 0)),(27,t22),(28,t23),(29,t24),(30,t26),(31,t27),(5,t29)],s.ds⟩ Qa
def k6:OK:=fun W Q QP s h=>
aE (s.tm 15) (
bt (s.tm 0) fun t32=>
ag (some 2) t32 fun t33=>
ai (some false) (some 1) t33 h fun t34 _=>
ck (some ([.int .i64 0,.int .i64 0],.inl [(0,1),(1,1)])) [(0,t34),(1,(.sc (.int .i64 101)))] fun t36=>
rF (some false) 85 t36 fun t37=>
tB t37 h (QP s.ds)) (
k5 W Q QP s h)
def k7:OK:=fun W Q QP s h=>
bt (s.tm 0) fun t38=>
ag (some 1) t38 fun t39=>
ai (some false) (some 1) t39 h fun t40 _=>
bt (s.tm 0) fun t42=>
ag (some 0) t42 fun t43=>
ai (some false) (some 1) t43 h fun t44 _=>
(aW t44=false)/\bL t44 fun t46=>
aa Pg .geq 3 false t40 t46 fun t47=>
k6 W Q QP ⟨aj s.tm [(6,(s.tm 0)),(7,t38),(8,t39),(9,t40),(10,(s.tm 0)),(11,t42),(12,t43),(13,t44),(14,t46),(15,t47)],s.ds⟩ h
def k8:OK:=fun W Q QP s h=>
bH (some [.int .i64 0,.string ⟨#[]⟩,.int .i64 0]) 3 117 h fun t48 Hr=>
k7 W Q QP ⟨aj s.tm [(4,t48)],s.ds⟩ Hr
theorem calls{x0 x1:AV}{h:AH}{M:WK}{R:RK}(hp:k8 (fun id=>M id\/h.next<=id) (cQ Pg [.cell 4 117] R) (bF R) (s0 [x0,x1]) h):ay Pg 59 [x0,x1] h M R:=
 kI (n:=46) (pl:=pl) k8 Tryz.mixed Tryz.func59 (fun W Q QP=>
(sq (k8 W Q QP)
(sn
(sq (k5 W Q QP)
(sn
(sq (k2 W Q QP)
(sl (k1 W Q QP)))
(sq (k4 W Q QP)
(cd (k3 W Q QP) tr tr))))
(sq (k7 W Q QP)
(cd (k6 W Q QP) tr tr))))) hp
attribute [simp] k1 k2 k3 k4 k5 k6 k7 k8
end Y7
namespace Y5
def pl:dm:=[]
def k1:OK:=fun W Q QP s h=>
aC Pg W 86 [(s.tm 0),(s.tm 1)] h (fun t1 h2=>
aC Pg W 59 [(s.tm 0),t1] h2 (fun t3 h4=>
aG (some 3) (s.tm 4) t3 h4 W fun h5=>
Q .ret ⟨aj s.tm [(5,(s.tm 0)),(6,(s.tm 0)),(7,(s.tm 1)),(8,t1),(9,t3)],s.ds⟩ h5) (QP s.ds)) (QP s.ds)
def k2:OK:=fun W Q QP s h=>
bH (some [.int .i64 0,.string ⟨#[]⟩,.int .i64 0]) 3 117 h fun t6 h7=>
k1 W Q QP ⟨aj s.tm [(4,t6)],s.ds⟩ h7
theorem calls{x0 x1:AV}{h:AH}{M:WK}{R:RK}(hp:k2 (fun id=>M id\/h.next<=id) (cQ Pg [.cell 4 117] R) (bF R) (s0 [x0,x1]) h):ay Pg 62 [x0,x1] h M R:=
 kI (n:=10) (pl:=pl) k2 Tryz.mixed Tryz.func62 (fun W Q QP=>
(sq (k2 W Q QP)
(sl (k1 W Q QP)))) hp
attribute [simp] k1 k2
end Y5
namespace qq
def pl:dm:=[]
def k1:OK:=fun W Q _ s h=>
ai (some true) (some 2) (s.tm 3) h fun t1 _=>
aG (some 2) (s.tm 2) t1 h W fun h3=>
Q .ret ⟨aj s.tm [(21,t1)],s.ds⟩ h3
def k2:OK:=fun W Q QP s h=>
aC Pg W 62 [(s.tm 0),(.sc (.string ⟨#[93]⟩))] h (fun t4 h5=>
k1 W Q QP ⟨aj s.tm [(19,(s.tm 0)),(20,t4)],s.ds⟩ h5) (QP s.ds)
def k3:OK:=fun W Q QP s h=>
aC Pg W 61 [(s.tm 0)] h (fun t6 h7=>
ag (some 1) (s.tm 3) fun t8=>
aG (some 1) t8 t6 h7 W fun h9=>
k2 W Q QP ⟨aj s.tm [(16,(s.tm 0)),(17,t6),(18,t8)],s.ds⟩ h9) (QP s.ds)
def k4:OK:=fun W Q QP s h=>
bt (s.tm 0) fun t10=>
ag (some 1) t10 fun t11=>
ai (some false) (some 1) t11 h fun t12 _=>
aa Pg .add 3 true t12 (.sc (.int .i64 1)) fun t14=>
bt (s.tm 0) fun t15=>
ag (some 1) t15 fun t16=>
aG (some 1) t16 t14 h W fun sT=>
k3 W Q QP ⟨aj s.tm [(9,(s.tm 0)),(10,t10),(11,t11),(12,t12),(13,t14),(14,t15),(15,t16)],s.ds⟩ sT
def k5:OK:=fun W Q QP s h=>
aE (s.tm 8) (
k4 W Q QP s h) (
k1 W Q QP s h)
def k6:OK:=fun W Q QP s h=>
aC Pg W 86 [(s.tm 0),(.sc (.string ⟨#[91]⟩))] h (fun t18 vC=>
k5 W Q QP ⟨aj s.tm [(7,(s.tm 0)),(8,t18)],s.ds⟩ vC) (QP s.ds)
def k7:OK:=fun W Q QP s h=>
aC Pg W 60 [(s.tm 0)] h (fun t20 sR=>
ck (some ([.string ⟨#[]⟩,.int .i64 0],.inl [(0,1),(1,1)])) [(0,t20),(1,(.sc (.int .i64 (-1))))] fun t22=>
bH (some [.string ⟨#[]⟩,.int .i64 0]) 2 67 sR fun t23 vB=>
aG (some 2) t23 t22 vB W fun vA=>
k6 W Q QP ⟨aj s.tm [(4,(s.tm 0)),(5,t20),(6,t22),(3,t23)],s.ds⟩ vA) (QP s.ds)
def k8:OK:=fun W Q QP s h=>
bH (some [.string ⟨#[]⟩,.int .i64 0]) 2 67 h fun t26 vz=>
k7 W Q QP ⟨aj s.tm [(2,t26)],s.ds⟩ vz
theorem calls{x0:AV}{h:AH}{M:WK}{R:RK}(hp:k8 (fun id=>M id\/h.next<=id) (cQ Pg [.cell 2 67] R) (bF R) (s0 [x0]) h):ay Pg 65 [x0] h M R:=
 kI (n:=22) (pl:=pl) k8 Tryz.mixed Tryz.func65 (fun W Q QP=>
(sq (k8 W Q QP)
(sq (k7 W Q QP)
(sn
(sl (k1 W Q QP))
(sq (k6 W Q QP)
(cd (k5 W Q QP) (sq (k4 W Q QP)
(sq (k3 W Q QP)
(sm (k2 W Q QP)))) tr)))))) hp
attribute [simp] k1 k2 k3 k4 k5 k6 k7 k8
end qq
namespace sj
section
variable (W:WK) (Q:cG) (QP:cm) (s:St) (h:AH)
noncomputable def code:Code:=Tryz.f64.body.getD .skip
def pl:dm:=[]
def k1:OK:=fun _ Q _ s h=>
bt (s.tm 0) fun t1=>
ag (some 3) t1 fun t2=>
ai (some false) (some 1) t2 h fun t3 _=>
(aW t3=false)/\bL t3 fun t5=>
aa Pg .sub 3 false t5 (s.tm 6) fun t6=>
Q .ret ⟨aj s.tm [(33,(s.tm 0)),(34,t1),(35,t2),(36,t3),(37,t5),(38,(s.tm 6)),(39,t6),(4,t6)],s.ds⟩ h
def k2:OK:=fun W Q QP s h=>
bt (s.tm 0) fun t7=>
ag (some 1) t7 fun t8=>
ai (some false) (some 1) t8 h fun t9 _=>
aa Pg .add 3 true t9 (.sc (.int .i64 1)) fun t11=>
bt (s.tm 0) fun t12=>
ag (some 1) t12 fun t13=>
aG (some 1) t13 t11 h W fun sU=>
k1 W Q QP ⟨aj s.tm [(26,(s.tm 0)),(27,t7),(28,t8),(29,t9),(30,t11),(31,t12),(32,t13)],s.ds⟩ sU
def k3:OK:=fun W Q QP s h=>
aC Pg W 35 [(s.tm 0),(s.tm 1)] h (fun t15 kU=>
Q .normal ⟨aj s.tm [(23,(s.tm 0)),(24,(s.tm 1)),(25,t15)],s.ds⟩ kU) (QP s.ds)
def k4:OK:=fun W Q QP s h=>
aE (s.tm 22) (
k3 W Q QP s h) (
Q (.exit 0) s h)
def k5:OK:=fun W Q QP s h=>
aC Pg W 86 [(s.tm 0),(.sc (.string ⟨#[125]⟩))] h (fun t17 sS=>
e_ .not t17 fun t19=>
k4 W Q QP ⟨aj s.tm [(20,(s.tm 0)),(21,t17),(22,t19)],s.ds⟩ sS) (QP s.ds)
noncomputable def c1:Code:=Code.at code [1,1,1,1,0,0,0]
theorem l1:aw Pg 40 W pl c1 Q QP s h=k5 W Q QP s h:=congrFun (congrFun (show TB ⟨Pg,40,pl⟩ W QP c1 Q (k5 W Q QP) from
(sn
(bk 1 (sm (k3 W Q QP)))
(sq (k5 W Q QP)
(cd (k4 W Q QP) tr tr)))) s) h
def k6:OK:=fun W Q QP s h=>lb (aw Pg 40 W pl c1) (eG 0 (b_ (k2 W Q QP) (Q))) QP s h
def k7:OK:=fun W Q QP s h=>
bt (s.tm 0) fun t20=>
ag (some 3) t20 fun t21=>
ai (some false) (some 1) t21 h fun t22 _=>
(aW t22=false)/\bL t22 fun t24=>
k6 W Q QP ⟨aj s.tm [(15,(s.tm 0)),(16,t20),(17,t21),(18,t22),(19,t24),(6,t24)],s.ds⟩ h
def k8:OK:=fun W Q QP s h=>
aE (s.tm 10) (
ag (some 2) (s.tm 5) fun t25=>
ai (some false) (some 1) t25 h fun t26 _=>
ck (some ([.int .i64 0,.int .i64 0],.inl [(0,1),(1,1)])) [(0,t26),(1,(.sc (.int .i64 102)))] fun t28=>
rF (some false) 85 t28 fun t29=>
tB t29 h (QP s.ds)) (
k7 W Q QP s h)
def k9:OK:=fun W Q QP s h=>
aa Pg .gtr 3 true (s.tm 1) (.sc (.int .i64 32)) fun t30=>
k8 W Q QP ⟨aj s.tm [(9,(s.tm 1)),(10,t30)],s.ds⟩ h
def dI:OK:=fun W Q QP s h=>
aC Pg W 62 [(s.tm 0),(.sc (.string ⟨#[123]⟩))] h (fun t31 qi=>
bH (some [.int .i64 0,.string ⟨#[]⟩,.int .i64 0]) 3 117 qi fun t33 yD=>
aG (some 3) t33 t31 yD W fun rW=>
k9 W Q QP ⟨aj s.tm [(7,(s.tm 0)),(8,t31),(5,t33)],s.ds⟩ rW) (QP s.ds)
def ep:OK:=fun W Q QP s h=>
dI W Q QP ⟨aj s.tm [(4,(.sc (.int .i64 0)))],s.ds⟩ h
end
theorem calls{x0 x1:AV}{h:AH}{M:WK}{R:RK}(hp:ep (fun id=>M id\/h.next<=id) (cQ Pg [.tmp 4] R) (bF R) (s0 [x0,x1]) h):ay Pg 64 [x0,x1] h M R:=
 kI (n:=40) (pl:=pl) ep Tryz.mixed Tryz.func64 (fun W Q QP=>
(sq (ep W Q QP)
(sq (dI W Q QP)
(sn
(sq (k7 W Q QP)
(sn
(sq (k2 W Q QP)
(sl (k1 W Q QP)))
(bk 0 (lo (k6 W Q QP)))))
(sq (k9 W Q QP)
(cd (k8 W Q QP) tr tr)))))) hp
attribute [simp] k1 k2 k3 k4 k5 k6 k7 k8 k9 dI ep
end sj
namespace dt
section
variable (W:WK) (Q:cG) (QP:cm) (s:St) (h:AH)
noncomputable def code:Code:=Tryz.f35.body.getD .skip
def pl:dm:=[(0,⟨[(none,(fr 0 12)),(some (11,true),(fr 12 12)),(none,(fr 24 1))],false,[.mk (fr 25 3) [],.mk [(26,false),(25,false),(27,false)] []],[]⟩),(3,⟨[(none,(fr 0 11))],false,[],[]⟩),(5,⟨[(none,[(0,false),(1,true),(2,false),(3,false),(4,false),(5,false)])],true,[],[]⟩),(7,⟨[(none,[(0,false),(1,true),(2,false),(3,false),(4,false),(5,false),(6,false),(7,false)])],true,[],[]⟩),(17,⟨[(none,[(0,false),(1,true),(2,false),(3,false),(4,false),(5,false),(6,false),(7,false),(8,false)])],true,[],[]⟩),(27,⟨[(none,[(0,false),(1,true),(2,false),(4,false),(3,false),(5,false),(6,false),(7,false),(8,false),(9,false)])],true,[],[]⟩),(30,⟨[(none,[(0,false),(1,true),(2,false),(3,false),(4,false),(5,false),(6,false),(7,false)])],true,[],[]⟩),(32,⟨[(none,(fr 0 8))],false,[],[]⟩)]
def k1:OK:=fun W Q _ s h=>
bt (s.tm 0) fun t1=>
ag (some 3) t1 fun t2=>
ai (some false) (some 1) t2 h fun t3 _=>
ai (some true) (some 6) (s.tm 5) h fun t5 _=>
bM (some (6,none)) t3 (s.tm 6) fun t7=>
aG (some 6) t7 t5 h W fun h8=>
Q .normal ⟨aj s.tm [(148,(s.tm 0)),(149,t1),(150,t2),(151,t3),(152,(s.tm 6)),(153,t5),(154,t7)],s.ds⟩ h8
def k2:OK:=fun W Q QP s h=>
aC Pg W 62 [(s.tm 0),(.sc (.string ⟨#[59]⟩))] h (fun t9 kV=>
k1 W Q QP ⟨aj s.tm [(79,(s.tm 0)),(80,t9)],s.ds⟩ kV) (QP s.ds)
def k3:OK:=fun W Q QP s h=>
aC Pg W 61 [(s.tm 0)] h (fun t11 pb=>
ag (some 3) (s.tm 5) fun t13=>
aG (some 1) t13 t11 pb W fun sU=>
k2 W Q QP ⟨aj s.tm [(76,(s.tm 0)),(77,t11),(78,t13)],s.ds⟩ sU) (QP s.ds)
def k4:OK:=fun W Q QP s h=>
aC Pg W 60 [(s.tm 0)] h (fun t15 kU=>
ag (some 1) (s.tm 5) fun t17=>
aG (some 1) t17 t15 kU W fun sS=>
k3 W Q QP ⟨aj s.tm [(73,(s.tm 0)),(74,t15),(75,t17)],s.ds⟩ sS) (QP s.ds)
def k5:OK:=fun W Q QP s h=>
aa Pg .add 3 true (s.tm 1) (.sc (.int .i64 1)) fun t19=>
aC Pg W 64 [(s.tm 0),t19] h (fun t20 sR=>
ag (some 4) (s.tm 5) fun t22=>
aG (some 1) t22 t20 sR W fun Di=>
k1 W Q QP ⟨aj s.tm [(96,(s.tm 0)),(97,(s.tm 1)),(98,t19),(99,t20),(100,t22)],s.ds⟩ Di) (QP s.ds)
def k6:OK:=fun W Q QP s h=>
∃Hd:Nat->Nat,(∀i∈[1],h.obj (Hd i)≠none)/\(
ag (some 2) (s.tm 5) fun t24=>
ai (some false) (some 1) t24 h fun t25 i26=>
(i26=Hd 1)/\(
aC Pg (kL W Hd [1]) 60 [(s.tm 0)] h (fun t27 vy=>
ck (some ([.string ⟨#[]⟩,.int .i64 0],.inl [(0,1),(1,1)])) [(0,t27),(1,(.sc (.int .i64 (-1))))] fun t29=>
db (some (2,67,[.string ⟨#[]⟩,.int .i64 0])) 1 [(0,t29)] vy fun t30 Qa=>
dV (some (2,24,67)) t25 t30 Qa W fun t32 Hv=>
ag (some 2) (s.tm 5) fun t34=>
aG (some 1) t34 t32 Hv W fun rW=>
Q .normal ⟨aj s.tm [(88,t24),(89,t25),(90,(s.tm 0)),(91,t27),(92,t29),(93,t30),(94,t32),(95,t34)],s.ds⟩ rW) (QP s.ds)))
def k7:OK:=fun W Q QP s h=>
aE (s.tm 87) (
k6 W Q QP s h) (
Q (.exit 3) s h)
def k8:OK:=fun W Q QP s h=>
aC Pg W 63 [(s.tm 0)] h (fun t36 vv=>
k7 W Q QP ⟨aj s.tm [(86,(s.tm 0)),(87,t36)],s.ds⟩ vv) (QP s.ds)
noncomputable def c1:Code:=Code.at code [1,1,1,1,0,1,0,1,1,1,0,1,0,0,0]
theorem l1:aw Pg 155 W pl c1 Q QP s h=k8 W Q QP s h:=congrFun (congrFun (show TB ⟨Pg,155,pl⟩ W QP c1 Q (k8 W Q QP) from
(sn
(bk 4 (sm (k6 W Q QP)))
(sq (k8 W Q QP)
(cd (k7 W Q QP) tr tr)))) s) h
def k9:OK:=fun W Q QP s h=>lb (aw Pg 155 W pl c1) (eG 3 (b_ (k5 W Q QP) (eG 0 (b_ (k1 W Q QP) (Q))))) QP s h
def dI:OK:=fun W Q QP s h=>
aC Pg W 60 [(s.tm 0)] h (fun t38 yy=>
ag (some 1) (s.tm 5) fun t40=>
aG (some 1) t40 t38 yy W fun yx=>
k9 W Q QP ⟨aj s.tm [(83,(s.tm 0)),(84,t38),(85,t40)],s.ds⟩ yx) (QP s.ds)
def ep:OK:=fun W Q QP s h=>
aa Pg .add 3 true (s.tm 1) (.sc (.int .i64 1)) fun t42=>
aC Pg W 64 [(s.tm 0),t42] h (fun t43 qL=>
ag (some 4) (s.tm 5) fun t45=>
aG (some 1) t45 t43 qL W fun Hs=>
k1 W Q QP ⟨aj s.tm [(106,(s.tm 0)),(107,(s.tm 1)),(108,t42),(109,t43),(110,t45)],s.ds⟩ Hs) (QP s.ds)
def gY:OK:=fun W Q QP s h=>
aC Pg W 61 [(s.tm 0)] h (fun t47 vt=>
ag (some 3) (s.tm 5) fun t49=>
aG (some 1) t49 t47 vt W fun sP=>
ep W Q QP ⟨aj s.tm [(103,(s.tm 0)),(104,t47),(105,t49)],s.ds⟩ sP) (QP s.ds)
def jh:OK:=fun W Q QP s h=>
aa Pg .add 3 true (s.tm 1) (.sc (.int .i64 1)) fun t51=>
aC Pg W 64 [(s.tm 0),t51] h (fun t52 sO=>
ag (some 4) (s.tm 5) fun t54=>
aG (some 1) t54 t52 sO W fun Bh=>
k1 W Q QP ⟨aj s.tm [(119,(s.tm 0)),(120,(s.tm 1)),(121,t51),(122,t52),(123,t54)],s.ds⟩ Bh) (QP s.ds)
def jc:OK:=fun W Q QP s h=>
aC Pg W 61 [(s.tm 0)] h (fun t56 wN=>
ag (some 3) (s.tm 5) fun t58=>
aG (some 1) t58 t56 wN W fun Fp=>
jh W Q QP ⟨aj s.tm [(116,(s.tm 0)),(117,t56),(118,t58)],s.ds⟩ Fp) (QP s.ds)
def iR:OK:=fun W Q QP s h=>
aC Pg W 60 [(s.tm 0)] h (fun t60 Fo=>
ag (some 1) (s.tm 5) fun t62=>
aG (some 1) t62 t60 Fo W fun Fm=>
jc W Q QP ⟨aj s.tm [(113,(s.tm 0)),(114,t60),(115,t62)],s.ds⟩ Fm) (QP s.ds)
def jR:OK:=fun W Q QP s h=>
aC Pg W 62 [(s.tm 0),(.sc (.string ⟨#[59]⟩))] h (fun t64 UY=>
k1 W Q QP ⟨aj s.tm [(135,(s.tm 0)),(136,t64)],s.ds⟩ UY) (QP s.ds)
def jb:OK:=fun W Q QP s h=>
∃Hd:Nat->Nat,(∀i∈[1],h.obj (Hd i)≠none)/\(
ag (some 2) (s.tm 5) fun t66=>
ai (some false) (some 1) t66 h fun t67 i68=>
(i68=Hd 1)/\(
aC Pg (kL W Hd [1]) 65 [(s.tm 0)] h (fun t69 wL=>
aC Pg (kL W Hd [1]) 65 [(s.tm 0)] wL (fun t71 Fi=>
db (some (2,67,[.string ⟨#[]⟩,.int .i64 0,.string ⟨#[]⟩,.int .i64 0])) 2 [(0,t69),(1,t71)] Fi fun t73 Lj=>
dV (some (2,24,67)) t67 t73 Lj W fun t75 Li=>
ag (some 2) (s.tm 5) fun t77=>
aG (some 1) t77 t75 Li W fun Fh=>
jR W Q QP ⟨aj s.tm [(126,t66),(127,t67),(128,(s.tm 0)),(130,(s.tm 0)),(129,t69),(131,t71),(132,t73),(133,t75),(134,t77)],s.ds⟩ Fh) (QP s.ds)) (QP s.ds)))
def oV:OK:=fun W Q QP s h=>
aC Pg W 62 [(s.tm 0),(.sc (.string ⟨#[59]⟩))] h (fun t79 Lh=>
k1 W Q QP ⟨aj s.tm [(146,(s.tm 0)),(147,t79)],s.ds⟩ Lh) (QP s.ds)
def oU:OK:=fun W Q QP s h=>
∃Hd:Nat->Nat,(∀i∈[1],h.obj (Hd i)≠none)/\(
ag (some 2) (s.tm 5) fun t81=>
ai (some false) (some 1) t81 h fun t82 i83=>
(i83=Hd 1)/\(
aC Pg (kL W Hd [1]) 65 [(s.tm 0)] h (fun t84 Bf=>
db (some (2,67,[.string ⟨#[]⟩,.int .i64 0])) 1 [(0,t84)] Bf fun t86 UT=>
dV (some (2,24,67)) t82 t86 UT W fun t88 h89=>
ag (some 2) (s.tm 5) fun t90=>
aG (some 1) t90 t88 h89 W fun UR=>
oV W Q QP ⟨aj s.tm [(139,t81),(140,t82),(141,(s.tm 0)),(142,t84),(143,t86),(144,t88),(145,t90)],s.ds⟩ UR) (QP s.ds)))
def oE:OK:=fun W Q QP s h=>
aC Pg W 62 [(s.tm 0),(.sc (.string ⟨#[59]⟩))] h (fun t92 h93=>
k1 W Q QP ⟨aj s.tm [(68,(s.tm 0)),(69,t92)],s.ds⟩ h93) (QP s.ds)
def qa:OK:=fun W Q QP s h=>
∃Hd:Nat->Nat,(∀i∈[1],h.obj (Hd i)≠none)/\(
ag (some 2) (s.tm 5) fun t94=>
ai (some false) (some 1) t94 h fun t95 i96=>
(i96=Hd 1)/\(
aC Pg (kL W Hd [1]) 65 [(s.tm 0)] h (fun t97 Le=>
db (some (2,67,[.string ⟨#[]⟩,.int .i64 0])) 1 [(0,t97)] Le fun t99 Nu=>
dV (some (2,24,67)) t95 t99 Nu W fun t101 Fu=>
ag (some 2) (s.tm 5) fun t103=>
aG (some 1) t103 t101 Fu W fun Ft=>
Q .normal ⟨aj s.tm [(61,t94),(62,t95),(63,(s.tm 0)),(64,t97),(65,t99),(66,t101),(67,t103)],s.ds⟩ Ft) (QP s.ds)))
def mQ:OK:=fun W Q QP s h=>
aE (s.tm 60) (
qa W Q QP s h) (
Q (.exit 1) s h)
def p_:OK:=fun W Q QP s h=>
aC Pg W 63 [(s.tm 0)] h (fun t105 Fs=>
mQ W Q QP ⟨aj s.tm [(59,(s.tm 0)),(60,t105)],s.ds⟩ Fs) (QP s.ds)
noncomputable def c2:Code:=Code.at code [1,1,1,1,0,1,0,1,1,1,1,1,1,1,1,1,1,1,1,1,0,0,0]
theorem l2:aw Pg 155 W pl c2 Q QP s h=p_ W Q QP s h:=congrFun (congrFun (show TB ⟨Pg,155,pl⟩ W QP c2 Q (p_ W Q QP) from
(sn
(bk 2 (sm (qa W Q QP)))
(sq (p_ W Q QP)
(cd (mQ W Q QP) tr tr)))) s) h
def oT:OK:=fun W Q QP s h=>lb (aw Pg 155 W pl c2) (eG 1 (b_ (oE W Q QP) (eG 0 (b_ (k1 W Q QP) (Q))))) QP s h
def sH:OK:=fun W Q QP s h=>
∃Hd:Nat->Nat,(∀i∈[1],h.obj (Hd i)≠none)/\(
ag (some 1) (s.tm 4) fun t107=>
ai (some false) (some 1) t107 h fun t108 i109=>
(i109=Hd 1)/\(
ag (some 0) (s.tm 5) fun t110=>
aG (some 1) t110 (.sc (.string ⟨#[117,115,101]⟩)) h (kL W Hd [1]) fun abq=>
ag (some 1) (s.tm 5) fun t112=>
aG (some 1) t112 t108 abq W fun Nr=>
oT W Q QP ⟨aj s.tm [(55,t107),(56,t108),(57,t110),(58,t112)],s.ds⟩ Nr))
def AQ:OK:=fun W Q QP s h=>
aE (s.tm 137) (
oU W Q QP s h) (
sH W Q QP s h)
def CV:OK:=fun W Q QP s h=>
aa Pg .eql 9 true (s.tm 54) (.sc (.string ⟨#[114,101,115,101,116]⟩)) fun t114=>
AQ W Q QP ⟨aj s.tm [(138,t114),(137,t114)],s.ds⟩ h
def yj:OK:=fun W Q QP s h=>
aE (s.tm 124) (
jb W Q QP s h) (
CV W Q QP s h)
def AP:OK:=fun W Q QP s h=>
aa Pg .eql 9 true (s.tm 54) (.sc (.string ⟨#[109,101,97,115,117,114,101]⟩)) fun t115=>
yj W Q QP ⟨aj s.tm [(125,t115),(124,t115)],s.ds⟩ h
def yi:OK:=fun W Q QP s h=>
aE (s.tm 111) (
iR W Q QP s h) (
AP W Q QP s h)
def yh:OK:=fun W Q QP s h=>
aa Pg .eql 9 true (s.tm 54) (.sc (.string ⟨#[105,102]⟩)) fun t116=>
yi W Q QP ⟨aj s.tm [(112,t116),(111,t116)],s.ds⟩ h
def wm:OK:=fun W Q QP s h=>
aE (s.tm 101) (
gY W Q QP s h) (
yh W Q QP s h)
def yg:OK:=fun W Q QP s h=>
aa Pg .eql 9 true (s.tm 54) (.sc (.string ⟨#[114,101,112,101,97,116]⟩)) fun t117=>
wm W Q QP ⟨aj s.tm [(102,t117),(101,t117)],s.ds⟩ h
def CU:OK:=fun W Q QP s h=>
aE (s.tm 81) (
dI W Q QP s h) (
yg W Q QP s h)
def yf:OK:=fun W Q QP s h=>
aa Pg .eql 9 true (s.tm 54) (.sc (.string ⟨#[103,97,116,101]⟩)) fun t118=>
CU W Q QP ⟨aj s.tm [(82,t118),(81,t118)],s.ds⟩ h
def tK:OK:=fun W Q QP s h=>
aE (s.tm 70) (
k4 W Q QP s h) (
yf W Q QP s h)
def CT:OK:=fun W Q QP s h=>
aE (s.tm 70) (
tK W Q QP s h) (
aa Pg .eql 9 true (s.tm 54) (.sc (.string ⟨#[98,105,116,115]⟩)) fun t119=>
tK W Q QP ⟨aj s.tm [(72,t119),(70,t119)],s.ds⟩ h)
def ye:OK:=fun W Q QP s h=>
aa Pg .eql 9 true (s.tm 54) (.sc (.string ⟨#[113,117,98,105,116,115]⟩)) fun t120=>
CT W Q QP ⟨aj s.tm [(71,t120),(70,t120)],s.ds⟩ h
def AN:OK:=fun W Q QP s h=>
ag (some 1) (s.tm 4) fun t121=>
ai (some false) (some 1) t121 h fun t122 _=>
ye W Q QP ⟨aj s.tm [(53,t121),(54,t122)],s.ds⟩ h
def yd:OK:=fun W Q QP s h=>
bt (s.tm 0) fun t124=>
ag (some 3) t124 fun t125=>
ai (some false) (some 1) t125 h fun t126 _=>
ai (some true) (some 6) (s.tm 5) h fun t128 _=>
db (some (6,46,[.string ⟨#[]⟩,.string ⟨#[]⟩,.slice none 0 0,.int .i64 0,.int .i64 0,.int .i64 0])) 1 [(0,t128)] h fun t130 abg=>
dV (some (6,80,46)) t126 t130 abg W fun t132 abf=>
bt (s.tm 0) fun t134=>
ag (some 3) t134 fun t135=>
aG (some 1) t135 t132 abf W fun abe=>
AN W Q QP ⟨aj s.tm [(43,(s.tm 0)),(44,(s.tm 0)),(45,t124),(46,t125),(47,t126),(48,t128),(49,t130),(50,t132),(51,t134),(52,t135)],s.ds⟩ abe
def Pn:OK:=fun W Q QP s h=>
bt (s.tm 0) fun t137=>
ag (some 3) t137 fun t138=>
ai (some false) (some 1) t138 h fun t139 _=>
(aW t139=false)/\bL t139 fun t141=>
yd W Q QP ⟨aj s.tm [(38,(s.tm 0)),(39,t137),(40,t138),(41,t139),(42,t141),(6,t141)],s.ds⟩ h
def qI:OK:=fun W Q QP s h=>
ag (some 1) (s.tm 4) fun t142=>
ai (some false) (some 1) t142 h fun t143 _=>
ag (some 2) (s.tm 4) fun t145=>
ai (some false) (some 1) t145 h fun t146 _=>
ck (some ([.string ⟨#[]⟩,.string ⟨#[]⟩,.slice none 0 0,.int .i64 0,.int .i64 0,.int .i64 0],.inl [(0,1),(1,1),(2,1),(3,1),(4,1),(5,1)])) [(0,t143),(5,t146)] fun t148=>
bH (some [.string ⟨#[]⟩,.string ⟨#[]⟩,.slice none 0 0,.int .i64 0,.int .i64 0,.int .i64 0]) 6 46 h fun t149 aba=>
aG (some 6) t149 t148 aba W fun aa_=>
Pn W Q QP ⟨aj s.tm [(33,t142),(34,t143),(35,t145),(36,t146),(37,t148),(5,t149)],s.ds⟩ aa_
def Pm:OK:=fun W Q QP s h=>
bt (s.tm 0) fun t152=>
ag (some 1) t152 fun t153=>
ai (some false) (some 1) t153 h fun t154 _=>
bt (s.tm 0) fun t156=>
ag (some 0) t156 fun t157=>
ai (some false) (some 1) t157 h fun t158 _=>
(aW t158=false)/\bL t158 fun t160=>
aa Pg .lss 3 false t154 t160 fun t161=>
bd true t161 (
bt (s.tm 0) fun t162=>
ag (some 0) t162 fun t163=>
ai (some false) (some 1) t163 h fun t164 _=>
bt (s.tm 0) fun t166=>
ag (some 1) t166 fun t167=>
ai (some false) (some 1) t167 h fun t168 _=>
bM (some (3,none)) t164 t168 fun t170=>
ag (some 0) t170 fun t171=>
ai (some false) (some 1) t171 h fun t172 _=>
aa Pg .eql 3 true t172 (.sc (.int .i64 1)) fun t174=>
aJ t161 t174 (.sc (.bool false)) fun t175=>
(
aC Pg W 59 [(s.tm 0),t175] h (fun t176 No=>
bH (some [.int .i64 0,.string ⟨#[]⟩,.int .i64 0]) 3 117 No fun t178 aa6=>
aG (some 3) t178 t176 aa6 W fun Nn=>
qI W Q QP ⟨aj s.tm [(7,(s.tm 0)),(8,(s.tm 0)),(9,t152),(10,t153),(11,t154),(12,(s.tm 0)),(13,t156),(14,t157),(15,t158),(16,t160),(17,t161),(18,t161),(19,(s.tm 0)),(20,t162),(21,t163),(22,t164),(23,(s.tm 0)),(24,t166),(25,t167),(26,t168),(27,t170),(28,t171),(29,t172),(30,t174),(31,t175),(32,t176),(4,t178)],s.ds⟩ Nn) (QP s.ds))/\(
bH (some [.int .i64 0,.string ⟨#[]⟩,.int .i64 0]) 3 117 h fun t181 aa5=>
aC Pg W 59 [(s.tm 0),t175] aa5 (fun t183 aa4=>
aG (some 3) t181 t183 aa4 W fun aa3=>
qI W Q QP ⟨aj s.tm [(7,(s.tm 0)),(8,(s.tm 0)),(9,t152),(10,t153),(11,t154),(12,(s.tm 0)),(13,t156),(14,t157),(15,t158),(16,t160),(17,t161),(18,t161),(19,(s.tm 0)),(20,t162),(21,t163),(22,t164),(23,(s.tm 0)),(24,t166),(25,t167),(26,t168),(27,t170),(28,t171),(29,t172),(30,t174),(31,t175),(4,t181),(32,t183)],s.ds⟩ aa3) (QP s.ds))/\True) (
aJ t161 ab (.sc (.bool false)) fun t186=>
(
aC Pg W 59 [(s.tm 0),t186] h (fun t187 aa2=>
bH (some [.int .i64 0,.string ⟨#[]⟩,.int .i64 0]) 3 117 aa2 fun t189 aa1=>
aG (some 3) t189 t187 aa1 W fun aa0=>
qI W Q QP ⟨aj s.tm [(7,(s.tm 0)),(8,(s.tm 0)),(9,t152),(10,t153),(11,t154),(12,(s.tm 0)),(13,t156),(14,t157),(15,t158),(16,t160),(17,t161),(18,t161),(19,ab),(20,ab),(21,ab),(22,ab),(23,ab),(24,ab),(25,ab),(26,ab),(27,ab),(28,ab),(29,ab),(30,ab),(31,t186),(32,t187),(4,t189)],s.ds⟩ aa0) (QP s.ds))/\(
bH (some [.int .i64 0,.string ⟨#[]⟩,.int .i64 0]) 3 117 h fun t192 aaZ=>
aC Pg W 59 [(s.tm 0),t186] aaZ (fun t194 aaY=>
aG (some 3) t192 t194 aaY W fun aaX=>
qI W Q QP ⟨aj s.tm [(7,(s.tm 0)),(8,(s.tm 0)),(9,t152),(10,t153),(11,t154),(12,(s.tm 0)),(13,t156),(14,t157),(15,t158),(16,t160),(17,t161),(18,t161),(19,ab),(20,ab),(21,ab),(22,ab),(23,ab),(24,ab),(25,ab),(26,ab),(27,ab),(28,ab),(29,ab),(30,ab),(31,t186),(4,t192),(32,t194)],s.ds⟩ aaX) (QP s.ds))/\True)
end
theorem calls{x0 x1:AV}{h:AH}{M:WK}{R:RK}(hp:Pm (fun id=>M id\/h.next<=id) (cQ Pg [] R) (bF R) (s0 [x0,x1]) h):ay Pg 35 [x0,x1] h M R:=
 kI (n:=155) (pl:=pl) Pm Tryz.mixed Tryz.func35 (fun W Q QP=>
(sn
(sq (qI W Q QP)
(sq (Pn W Q QP)
(sq (yd W Q QP)
(sn
(sm (k1 W Q QP))
(sq (AN W Q QP)
(bk 0 (sn
(cd (tK W Q QP) (sq (k4 W Q QP)
(sq (k3 W Q QP)
(sm (k2 W Q QP)))) (sq (yf W Q QP)
(cd (CU W Q QP) (sq (dI W Q QP)
(sn
(sm (k5 W Q QP))
(bk 3 (lo (k9 W Q QP))))) (sq (yg W Q QP)
(cd (wm W Q QP) (sq (gY W Q QP)
(sm (ep W Q QP))) (sq (yh W Q QP)
(cd (yi W Q QP) (sq (iR W Q QP)
(sq (jc W Q QP)
(sm (jh W Q QP)))) (sq (AP W Q QP)
(cd (yj W Q QP) (sn
(sm (jR W Q QP))
(sm (jb W Q QP))) (sq (CV W Q QP)
(cd (AQ W Q QP) (sn
(sm (oV W Q QP))
(sm (oU W Q QP))) (sn
(sn
(sm (oE W Q QP))
(bk 1 (lo (oT W Q QP))))
(sm (sH W Q QP))))))))))))))
(sq (ye W Q QP)
(cd (CT W Q QP) tr tr)))))))))
(sm (Pm W Q QP)))) hp
attribute [simp] k1 k2 k3 k4 k5 k6 k7 k8 k9 dI ep gY jh jc iR jR jb oV oU oE qa mQ p_ oT sH AQ CV yj AP yi yh wm yg CU yf tK CT ye AN yd Pn qI Pm
end dt
end
section
open Go.Ab
section
variable (W:Nat->Prop) (Q:cG) (QP:cm) (s:St) (h:AH)
noncomputable def ax.code:Code:=Tryz.f19.body.getD .skip
def ax.pl:dm:=[(3,⟨[(none,[(0,true),(1,true),(2,false),(3,false),(4,false)])],true,[],[]⟩)]
theorem ax.ok:kA Pg ax.pl ax.code=true:=by kernel_rfl
def ax.t1(W:Nat->Prop)(Q:cG)(s:St)(h:AH):Prop:=
 bt (s.tm 6) fun t1=>
 ag (some 3) t1 fun t2=>
 ai (some false) (some 1) t2 h fun t3 _=>
 aG (some 1) (s.tm 2) t3 h W fun h5=>
 aG (some 1) (s.tm 3) (.sc (.int .i64 0)) h5 W fun h6=>
 aG (some 1) (s.tm 4) (.sc (.int .i64 0)) h6 W fun h7=>
 Q .ret ⟨aj s.tm [(32,(s.tm 6)),(33,t1),(34,t2),(35,t3)],s.ds⟩ h7
def ax.k1(W:Nat->Prop)(Q:cG)(QP:cm)(s:St)(h:AH):Prop:=ax.t1 W Q s h
theorem ax.M4:aw Pg 36 W ax.pl (Code.at ax.code [1,1,1,1,1,1,0]) (b_ (aw Pg 36 W ax.pl (Code.at ax.code [1,1,1,1,1,1,1]) (Q) QP) (Q)) QP s h=ax.t1 W Q s h:=by kernel_rfl
theorem ax.DN:aw Pg 36 W ax.pl (Code.at ax.code [1,1,1,1,1,1]) (Q) QP s h=ax.k1 W Q QP s h:=iq (a:=(Code.at ax.code [1,1,1,1,1,1,0])) (b:=(Code.at ax.code [1,1,1,1,1,1,1])) (by kernel_rfl) (fun _ _=>rfl) (ax.M4 W Q QP s h)
def ax.t2(W:Nat->Prop)(Q:cG)(QP:cm)(s:St)(h:AH):Prop:=
 aC Pg W 35 [(s.tm 6),(.sc (.int .i64 0))] h (fun t8 h9=>
 Q .normal ⟨aj s.tm [(30,(s.tm 6)),(31,t8)],s.ds⟩ h9) (QP s.ds)
def ax.k2(W:Nat->Prop)(Q:cG)(QP:cm)(s:St)(h:AH):Prop:=ax.t2 W Q QP s h
theorem ax.M3:aw Pg 36 W ax.pl (Code.at ax.code [1,1,1,1,1,0,0,0,1,0]) (eG 1 (Q)) QP s h=ax.t2 W Q QP s h:=by kernel_rfl
theorem ax.II:aw Pg 36 W ax.pl (Code.at ax.code [1,1,1,1,1,0,0,0,1,0]) (eG 1 (Q)) QP s h=ax.k2 W Q QP s h:=(ax.M3 W Q QP s h)
theorem ax.o1:aw Pg 36 W ax.pl (Code.at ax.code [1,1,1,1,1,0,0,0,1]) (Q) QP s h=ax.k2 W Q QP s h:=EB (a:=(Code.at ax.code [1,1,1,1,1,0,0,0,1,0])) (by kernel_rfl) (ax.II W Q QP s h)
def ax.t3(Q:cG)(s:St)(h:AH)(C0:KT):Prop:=
 aE (s.tm 29) (
 C0 s h) (
 Q (.exit 0) s h)
def ax.k3(W:Nat->Prop)(Q:cG)(QP:cm)(s:St)(h:AH):Prop:=ax.t3 Q s h (ax.k2 W Q QP)
theorem ax.IH(C0:KT):aE (lR s (.tmp 29)) (aw Pg 36 W ax.pl (Code.at ax.code [1,1,1,1,1,0,0,0,0,1,0]) (b_ (C0) (Q)) QP s h) (aw Pg 36 W ax.pl (Code.at ax.code [1,1,1,1,1,0,0,0,0,1,1]) (b_ (C0) (Q)) QP s h)=ax.t3 Q s h C0:=by kernel_rfl
theorem ax.IG:aw Pg 36 W ax.pl (Code.at ax.code [1,1,1,1,1,0,0,0,0,1]) (b_ (ax.k2 W Q QP) (Q)) QP s h=ax.k3 W Q QP s h:=rm (a:=(Code.at ax.code [1,1,1,1,1,0,0,0,0,1,0])) (b:=(Code.at ax.code [1,1,1,1,1,0,0,0,0,1,1])) (by kernel_rfl) rfl rfl (ax.IH W Q QP s h (ax.k2 W Q QP))
def ax.t4(s:St)(h:AH)(C0 C1:KT):Prop:=
 bt (s.tm 6) fun t10=>
 ag (some 1) t10 fun t11=>
 ai (some false) (some 1) t11 h fun t12 _=>
 (aW (s.tm 5)=false)/\bL (s.tm 5) fun t14=>
 aa Pg .lss 3 false t12 t14 fun t15=>
 C1 ⟨aj s.tm [(23,(s.tm 6)),(24,t10),(25,t11),(26,t12),(27,(s.tm 5)),(28,t14),(29,t15)],s.ds⟩ h
def ax.k4(W:Nat->Prop)(Q:cG)(QP:cm)(s:St)(h:AH):Prop:=ax.t4 s h (ax.k2 W Q QP) (ax.k3 W Q QP)
theorem ax.IF(C0 C1:KT):aw Pg 36 W ax.pl (Code.at ax.code [1,1,1,1,1,0,0,0,0,0]) (b_ (C1) (b_ (C0) (Q))) QP s h=ax.t4 s h C0 C1:=by kernel_rfl
theorem ax.IE:aw Pg 36 W ax.pl (Code.at ax.code [1,1,1,1,1,0,0,0,0]) (b_ (ax.k2 W Q QP) (Q)) QP s h=ax.k4 W Q QP s h:=iq (a:=(Code.at ax.code [1,1,1,1,1,0,0,0,0,0])) (b:=(Code.at ax.code [1,1,1,1,1,0,0,0,0,1])) (by kernel_rfl) (ax.IG W Q QP) (ax.IF W Q QP s h (ax.k2 W Q QP) (ax.k3 W Q QP))
theorem ax.o2:aw Pg 36 W ax.pl (Code.at ax.code [1,1,1,1,1,0,0,0]) (Q) QP s h=ax.k4 W Q QP s h:=iq (a:=(Code.at ax.code [1,1,1,1,1,0,0,0,0])) (b:=(Code.at ax.code [1,1,1,1,1,0,0,0,1])) (by kernel_rfl) (ax.o1 W Q QP) (ax.IE W Q QP s h)
noncomputable def ax.c1:Code:=(Code.at ax.code [1,1,1,1,1,0,0,0])
theorem ax.l1:aw Pg 36 W ax.pl ax.c1 Q QP s h=ax.k4 W Q QP s h:=ax.o2 W Q QP s h
def ax.k5(W:Nat->Prop)(Q:cG)(QP:cm)(s:St)(h:AH):Prop:=lb (aw Pg 36 W ax.pl ax.c1) (eG 0 (b_ (ax.k1 W Q QP) (Q))) QP s h
theorem ax.ID:aw Pg 36 W ax.pl (Code.at ax.code [1,1,1,1,1,0,0]) (eG 0 (b_ (ax.k1 W Q QP) (Q))) QP s h=ax.k5 W Q QP s h:=Rq (a:=ax.c1) (by kernel_rfl)
theorem ax.o3:aw Pg 36 W ax.pl (Code.at ax.code [1,1,1,1,1,0]) (b_ (ax.k1 W Q QP) (Q)) QP s h=ax.k5 W Q QP s h:=EB (a:=(Code.at ax.code [1,1,1,1,1,0,0])) (by kernel_rfl) (ax.ID W Q QP s h)
theorem ax.o4:aw Pg 36 W ax.pl (Code.at ax.code [1,1,1,1,1]) (Q) QP s h=ax.k5 W Q QP s h:=iq (a:=(Code.at ax.code [1,1,1,1,1,0])) (b:=(Code.at ax.code [1,1,1,1,1,1])) (by kernel_rfl) (ax.DN W Q QP) (ax.o3 W Q QP s h)
def ax.t6(s:St)(h:AH)(C0:KT):Prop:=
 (aW (s.tm 0)=true)/\bL (s.tm 0) fun t16=>
 ck (some ([.slice none 0 0,.int .i64 0,.int .i64 0,.slice none 0 0],.inl [(0,1),(1,1),(2,1),(3,1)])) [(0,(s.tm 5)),(2,t16)] fun t17=>
 dF 4 89 t17 h fun t18 vC=>
 C0 ⟨aj s.tm [(18,(s.tm 5)),(19,(s.tm 0)),(20,t16),(21,t17),(22,t18),(6,t18)],s.ds⟩ vC
def ax.k6(W:Nat->Prop)(Q:cG)(QP:cm)(s:St)(h:AH):Prop:=ax.t6 s h (ax.k5 W Q QP)
theorem ax.IC(C0:KT):aw Pg 36 W ax.pl (Code.at ax.code [1,1,1,1,0]) (b_ (C0) (Q)) QP s h=ax.t6 s h C0:=by kernel_rfl
theorem ax.IB:aw Pg 36 W ax.pl (Code.at ax.code [1,1,1,1]) (Q) QP s h=ax.k6 W Q QP s h:=iq (a:=(Code.at ax.code [1,1,1,1,0])) (b:=(Code.at ax.code [1,1,1,1,1])) (by kernel_rfl) (ax.o4 W Q QP) (ax.IC W Q QP s h (ax.k5 W Q QP))
def ax.t7(s:St)(h:AH)(C0:KT):Prop:=
 Jk (.fn (.func 34) [] [(s.tm 2),(s.tm 3),(s.tm 4)]) [] s.ds fun d20=>
 C0 ⟨aj s.tm [(17,(.fn (.func 34) [] [(s.tm 2),(s.tm 3),(s.tm 4)]))],d20⟩ h
def ax.k7(W:Nat->Prop)(Q:cG)(QP:cm)(s:St)(h:AH):Prop:=ax.t7 s h (ax.k6 W Q QP)
theorem ax.TF(C0:KT):aw Pg 36 W ax.pl (Code.at ax.code [1,1,1,0]) (b_ (C0) (Q)) QP s h=ax.t7 s h C0:=by kernel_rfl
theorem ax.Wk:aw Pg 36 W ax.pl (Code.at ax.code [1,1,1]) (Q) QP s h=ax.k7 W Q QP s h:=iq (a:=(Code.at ax.code [1,1,1,0])) (b:=(Code.at ax.code [1,1,1,1])) (by kernel_rfl) (ax.IB W Q QP) (ax.TF W Q QP s h (ax.k6 W Q QP))
def ax.t8(Q:cG)(s:St)(h:AH)(C0:KT):Prop:=
 Q .ret s h
def ax.k8(W:Nat->Prop)(Q:cG)(QP:cm)(s:St)(h:AH):Prop:=ax.t8 Q s h (ax.k7 W Q QP)
theorem ax.TE(C0:KT):aw Pg 36 W ax.pl (Code.at ax.code [1,1,0,1,0,1]) (b_ (C0) (Q)) QP s h=ax.t8 Q s h C0:=by kernel_rfl
theorem ax.Wj:aw Pg 36 W ax.pl (Code.at ax.code [1,1,0,1,0,1]) (b_ (ax.k7 W Q QP) (Q)) QP s h=ax.k8 W Q QP s h:=(ax.TE W Q QP s h (ax.k7 W Q QP))
def ax.t9(W:Nat->Prop)(s:St)(h:AH)(C0 C1:KT):Prop:=
 ∃Hd:Nat->Nat,(∀i∈[0,1],h.obj (Hd i)≠none)/\(
 ai (some false) (some 1) (s.tm 3) h fun t21 i22=>
 (i22=Hd 0)/\(
 ai (some false) (some 1) (s.tm 4) h fun t23 i24=>
 (i24=Hd 1)/\(
 aG (some 1) (s.tm 2) (.sc (.slice none 0 0)) h (kL W Hd [0,1]) fun vA=>
 aG (some 1) (s.tm 3) t21 vA (kL W Hd [1]) fun mV=>
 aG (some 1) (s.tm 4) t23 mV W fun vz=>
 C1 ⟨aj s.tm [(15,t21),(16,t23)],s.ds⟩ vz)))
def ax.k9(W:Nat->Prop)(Q:cG)(QP:cm)(s:St)(h:AH):Prop:=ax.t9 W s h (ax.k7 W Q QP) (ax.k8 W Q QP)
theorem ax.TD(C0 C1:KT):aw Pg 36 W ax.pl (Code.at ax.code [1,1,0,1,0,0]) (b_ (C1) (b_ (C0) (Q))) QP s h=ax.t9 W s h C0 C1:=by kernel_rfl
theorem ax.Wi:aw Pg 36 W ax.pl (Code.at ax.code [1,1,0,1,0,0]) (b_ (ax.k8 W Q QP) (b_ (ax.k7 W Q QP) (Q))) QP s h=ax.k9 W Q QP s h:=(ax.TD W Q QP s h (ax.k7 W Q QP) (ax.k8 W Q QP))
theorem ax.o5:aw Pg 36 W ax.pl (Code.at ax.code [1,1,0,1,0]) (b_ (ax.k7 W Q QP) (Q)) QP s h=ax.k9 W Q QP s h:=iq (a:=(Code.at ax.code [1,1,0,1,0,0])) (b:=(Code.at ax.code [1,1,0,1,0,1])) (by kernel_rfl) (ax.Wj W Q QP) (ax.Wi W Q QP s h)
def ax.t10(s:St)(h:AH)(C0 C1:KT):Prop:=
 aE (s.tm 14) (
 C1 s h) (
 C0 s h)
def ax.dI(W:Nat->Prop)(Q:cG)(QP:cm)(s:St)(h:AH):Prop:=ax.t10 s h (ax.k7 W Q QP) (ax.k9 W Q QP)
theorem ax.Pr(C0 C1:KT):aE (lR s (.tmp 14)) (C1 s h) (aw Pg 36 W ax.pl (Code.at ax.code [1,1,0,1,1]) (b_ (C0) (Q)) QP s h)=ax.t10 s h C0 C1:=by kernel_rfl
theorem ax.TN:aw Pg 36 W ax.pl (Code.at ax.code [1,1,0,1]) (b_ (ax.k7 W Q QP) (Q)) QP s h=ax.dI W Q QP s h:=rm (a:=(Code.at ax.code [1,1,0,1,0])) (b:=(Code.at ax.code [1,1,0,1,1])) (by kernel_rfl) (ax.o5 W Q QP s h) rfl (ax.Pr W Q QP s h (ax.k7 W Q QP) (ax.k9 W Q QP))
def ax.t11(s:St)(h:AH)(C0 C1:KT):Prop:=
 ai (some false) (some 1) (s.tm 4) h fun t28 _=>
 aa Pg .neq 28 true t28 (.sc (.int .i64 0)) fun t30=>
 C0 ⟨aj s.tm [(13,t28),(14,t30)],s.ds⟩ h
def ax.ep(W:Nat->Prop)(Q:cG)(QP:cm)(s:St)(h:AH):Prop:=ax.t11 s h (ax.dI W Q QP) (ax.k7 W Q QP)
theorem ax.Pq(C0 C1:KT):aw Pg 36 W ax.pl (Code.at ax.code [1,1,0,0]) (b_ (C0) (b_ (C1) (Q))) QP s h=ax.t11 s h C0 C1:=by kernel_rfl
theorem ax.TK:aw Pg 36 W ax.pl (Code.at ax.code [1,1,0]) (b_ (ax.k7 W Q QP) (Q)) QP s h=ax.ep W Q QP s h:=iq (a:=(Code.at ax.code [1,1,0,0])) (b:=(Code.at ax.code [1,1,0,1])) (by kernel_rfl) (ax.TN W Q QP) (ax.Pq W Q QP s h (ax.dI W Q QP) (ax.k7 W Q QP))
theorem ax.o6:aw Pg 36 W ax.pl (Code.at ax.code [1,1]) (Q) QP s h=ax.ep W Q QP s h:=iq (a:=(Code.at ax.code [1,1,0])) (b:=(Code.at ax.code [1,1,1])) (by kernel_rfl) (ax.Wk W Q QP) (ax.TK W Q QP s h)
def ax.t12(W:Nat->Prop)(QP:cm)(s:St)(h:AH)(C0:KT):Prop:=
 aC Pg W 33 [(s.tm 0)] h (fun t31 qi=>
 cl t31 0 fun t33=>
 cl t31 1 fun t34=>
 cl t31 2 fun t35=>
 aG (some 1) (s.tm 3) t34 qi W fun yz=>
 aG (some 1) (s.tm 4) t35 yz W fun vv=>
 C0 ⟨aj s.tm [(8,(s.tm 0)),(9,t31),(7,t31),(10,t33),(11,t34),(12,t35),(5,t33)],s.ds⟩ vv) (QP s.ds)
def ax.gY(W:Nat->Prop)(Q:cG)(QP:cm)(s:St)(h:AH):Prop:=ax.t12 W QP s h (ax.ep W Q QP)
theorem ax.Pp(C0:KT):aw Pg 36 W ax.pl (Code.at ax.code [1,0]) (b_ (C0) (Q)) QP s h=ax.t12 W QP s h C0:=by kernel_rfl
theorem ax.TJ:aw Pg 36 W ax.pl (Code.at ax.code [1]) (Q) QP s h=ax.gY W Q QP s h:=iq (a:=(Code.at ax.code [1,0])) (b:=(Code.at ax.code [1,1])) (by kernel_rfl) (ax.o6 W Q QP) (ax.Pp W Q QP s h (ax.ep W Q QP))
def ax.t13(s:St)(h:AH)(C0:KT):Prop:=
 bH (some [.slice none 0 0]) 1 43 h fun t38 yy=>
 bH (some [.int .i64 0]) 1 3 yy fun t40 yx=>
 bH (some [.int .i64 0]) 1 28 yx fun t42 Ht=>
 C0 ⟨aj s.tm [(2,t38),(3,t40),(4,t42)],s.ds⟩ Ht
def ax.jh(W:Nat->Prop)(Q:cG)(QP:cm)(s:St)(h:AH):Prop:=ax.t13 s h (ax.gY W Q QP)
theorem ax.Po(C0:KT):aw Pg 36 W ax.pl (Code.at ax.code [0]) (b_ (C0) (Q)) QP s h=ax.t13 s h C0:=by kernel_rfl
theorem ax.TI:aw Pg 36 W ax.pl (Code.at ax.code []) (Q) QP s h=ax.jh W Q QP s h:=iq (a:=(Code.at ax.code [0])) (b:=(Code.at ax.code [1])) (by kernel_rfl) (ax.TJ W Q QP) (ax.Po W Q QP s h (ax.gY W Q QP))
end
theorem ax.calls{x0:AV}{h:AH}{M:Nat->Prop}{R:AE->AH->Prop}(hp:ax.jh (fun id=>M id\/h.next<=id) (cQ Pg [.cell 2 43,.cell 3 3,.cell 4 28] R) (bF R) (s0 [x0]) h):ay Pg 19 [x0] h M R:=
 xe (c:=ax.code) Tryz.mixed Tryz.func19 (by kernel_rfl) (Nat.le_of_ble_eq_true rfl) ax.ok (by rw[show Tryz.f19.ntmps=36 from rfl,show Tryz.f19.results.toList=[.cell 2 43,.cell 3 3,.cell 4 28] from rfl];exact Eq.mpr (ax.TI _ _ _ _ _) hp)
attribute [simp] ax.k1 ax.t1 ax.k2 ax.t2 ax.k3 ax.t3 ax.k4 ax.t4 ax.k5 ax.k6 ax.t6 ax.k7 ax.t7 ax.k8 ax.t8 ax.k9 ax.t9 ax.dI ax.t10 ax.ep ax.t11 ax.gY ax.t12 ax.jh ax.t13
end
end Go.Proofs.YtjehibknlmehmaaGreatDoor
