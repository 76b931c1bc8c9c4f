/- Bodies of the reader; printed. No condition. -/
import Derived.Test.YtjehibknlmehmaaGl
set_option maxRecDepth 100000
namespace Go.Proofs.Ytjehibknlmehmaa
section
open Go.Ab
namespace YK
def pl:eS:=[]
def k1:OK:=fun _ Q _ s h=>
Q .ret ⟨aA s.tm [(2,(.sc (.bool false)))],s.ds⟩ h
def k2:OK:=fun _ Q _ s h=>
Q .ret ⟨aA s.tm [(2,(.sc (.bool true)))],s.ds⟩ h
def k3:OK:=fun W Q QP s h=>
aH (s.tm 4) (
k2 W Q QP s h) (
k1 W Q QP s h)
def k4:OK:=fun W Q QP s h=>
aH (s.tm 4) (
k3 W Q QP s h) (
ah Pg .eql 9 true (s.tm 3) (.sc (.string ⟨#[114,101,115,101,116]⟩)) fun t1=>
k3 W Q QP ⟨aA s.tm [(11,t1),(4,t1)],s.ds⟩ h)
def k5:OK:=fun W Q QP s h=>
ah Pg .eql 9 true (s.tm 3) (.sc (.string ⟨#[109,101,97,115,117,114,101]⟩)) fun t2=>
k4 W Q QP ⟨aA s.tm [(10,t2),(4,t2)],s.ds⟩ h
def k6:OK:=fun W Q QP s h=>
aH (s.tm 4) (
k3 W Q QP s h) (
k5 W Q QP s h)
def k7:OK:=fun W Q QP s h=>
ah Pg .eql 9 true (s.tm 3) (.sc (.string ⟨#[105,102]⟩)) fun t3=>
k6 W Q QP ⟨aA s.tm [(9,t3),(4,t3)],s.ds⟩ h
def k8:OK:=fun W Q QP s h=>
aH (s.tm 4) (
k3 W Q QP s h) (
k7 W Q QP s h)
def k9:OK:=fun W Q QP s h=>
ah Pg .eql 9 true (s.tm 3) (.sc (.string ⟨#[114,101,112,101,97,116]⟩)) fun t4=>
k8 W Q QP ⟨aA s.tm [(8,t4),(4,t4)],s.ds⟩ h
def fF:OK:=fun W Q QP s h=>
aH (s.tm 4) (
k3 W Q QP s h) (
k9 W Q QP s h)
def iR:OK:=fun W Q QP s h=>
ah Pg .eql 9 true (s.tm 3) (.sc (.string ⟨#[103,97,116,101]⟩)) fun t5=>
fF W Q QP ⟨aA s.tm [(7,t5),(4,t5)],s.ds⟩ h
def kQ:OK:=fun W Q QP s h=>
aH (s.tm 4) (
k3 W Q QP s h) (
iR W Q QP s h)
def nj:OK:=fun W Q QP s h=>
ah Pg .eql 9 true (s.tm 3) (.sc (.string ⟨#[98,105,116,115]⟩)) fun t6=>
kQ W Q QP ⟨aA s.tm [(6,t6),(4,t6)],s.ds⟩ h
def nP:OK:=fun W Q QP s h=>
aH (s.tm 4) (
k3 W Q QP s h) (
nj W Q QP s h)
def oG:OK:=fun W Q QP s h=>
ah Pg .eql 9 true (s.tm 3) (.sc (.string ⟨#[113,117,98,105,116,115]⟩)) fun t7=>
nP W Q QP ⟨aA s.tm [(5,t7),(4,t7)],s.ds⟩ h
def oZ:OK:=fun W Q QP s h=>
oG W Q QP ⟨aA s.tm [(3,(s.tm 0))],s.ds⟩ h
def nO:OK:=fun W Q QP s h=>
oZ W Q QP ⟨aA s.tm [(2,(.sc (.bool false)))],s.ds⟩ h
theorem calls{x0:AV}{h:AH}{M:WK}{R:RK}(hp:nO (fun id=>M id\/h.next<=id) (dP Pg [.tmp 2] R) (bT R) (s0 [x0]) h):aE Pg 88 [x0] h M R:=
 qL (n:=12) (pl:=pl) nO Try.mixed Try.func88 (fun W Q QP=>
(sq (nO W Q QP)
(sn
(sl (k1 W Q QP))
(sq (oZ W Q QP)
(bk 0 (sn
(cd (k3 W Q QP) (sl (k2 W Q QP)) tr)
(sq (oG W Q QP)
(cd (nP W Q QP) tr (sq (nj W Q QP)
(cd (kQ W Q QP) tr (sq (iR W Q QP)
(cd (fF W Q QP) tr (sq (k9 W Q QP)
(cd (k8 W Q QP) tr (sq (k7 W Q QP)
(cd (k6 W Q QP) tr (sq (k5 W Q QP)
(cd (k4 W Q QP) tr tr)))))))))))))))))) hp
attribute [simp] k1 k2 k3 k4 k5 k6 k7 k8 k9 fF iR kQ nj nP oG oZ nO
end YK
namespace YL
def pl:eS:=[(1,⟨[(none,(fr 0 11)),(some (10,true),(fr 11 12)),(none,(fr 23 2)),(some (24,true),(fr 25 13)),(none,(fr 38 2))],false,[],[]⟩)]
def k1:OK:=fun _ Q _ s h=>
Q .ret s h
def k2:OK:=fun W Q QP s h=>
aV (s.tm 29) (s.tm 42) (.sc (.bool false)) fun t1=>
k1 W Q QP ⟨aA s.tm [(43,t1),(4,t1)],s.ds⟩ h
def k3:OK:=fun W Q QP s h=>
bF true (s.tm 29) (
aP (s.tm 0) fun t2=>
ai (some 0) t2 fun t3=>
al (some false) (some 1) t3 h fun t4 _=>
aP (s.tm 0) fun t6=>
ai (some 1) t6 fun t7=>
al (some false) (some 1) t7 h fun t8 _=>
br (some (3,none)) t4 t8 fun t10=>
ai (some 1) t10 fun t11=>
al (some false) (some 1) t11 h fun t12 _=>
ah Pg .eql 9 false t12 (s.tm 1) fun t14=>
k2 W Q QP ⟨aA s.tm [(30,(s.tm 0)),(31,t2),(32,t3),(33,t4),(34,(s.tm 0)),(35,t6),(36,t7),(37,t8),(38,t10),(39,t11),(40,t12),(41,(s.tm 1)),(42,t14)],s.ds⟩ h) (
k2 W Q QP ⟨aA s.tm [(30,aa),(31,aa),(32,aa),(33,aa),(34,aa),(35,aa),(36,aa),(37,aa),(38,aa),(39,aa),(40,aa),(41,aa),(42,aa)],s.ds⟩ h)
def k4:OK:=fun W Q QP s h=>
aV (s.tm 15) (s.tm 27) (.sc (.bool false)) fun t15=>
k3 W Q QP ⟨aA s.tm [(28,t15),(29,t15)],s.ds⟩ h
def k5:OK:=fun W Q QP s h=>
bF true (s.tm 15) (
aP (s.tm 0) fun t16=>
ai (some 0) t16 fun t17=>
al (some false) (some 1) t17 h fun t18 _=>
aP (s.tm 0) fun t20=>
ai (some 1) t20 fun t21=>
al (some false) (some 1) t21 h fun t22 _=>
br (some (3,none)) t18 t22 fun t24=>
ai (some 0) t24 fun t25=>
al (some false) (some 1) t25 h fun t26 _=>
ah Pg .eql 3 true t26 (.sc (.int .i64 3)) fun t28=>
k4 W Q QP ⟨aA s.tm [(16,(s.tm 0)),(17,t16),(18,t17),(19,t18),(20,(s.tm 0)),(21,t20),(22,t21),(23,t22),(24,t24),(25,t25),(26,t26),(27,t28)],s.ds⟩ h) (
k4 W Q QP ⟨aA s.tm [(16,aa),(17,aa),(18,aa),(19,aa),(20,aa),(21,aa),(22,aa),(23,aa),(24,aa),(25,aa),(26,aa),(27,aa)],s.ds⟩ h)
def k6:OK:=fun W Q QP s h=>
aP (s.tm 0) fun t29=>
ai (some 1) t29 fun t30=>
al (some false) (some 1) t30 h fun t31 _=>
aP (s.tm 0) fun t33=>
ai (some 0) t33 fun t34=>
al (some false) (some 1) t34 h fun t35 _=>
(ba t35=false)/\bK t35 fun t37=>
ah Pg .lss 3 false t31 t37 fun t38=>
k5 W Q QP ⟨aA s.tm [(5,(s.tm 0)),(6,t29),(7,t30),(8,t31),(9,(s.tm 0)),(10,t33),(11,t34),(12,t35),(13,t37),(14,t38),(15,t38)],s.ds⟩ h
def k7:OK:=fun W Q QP s h=>
k6 W Q QP ⟨aA s.tm [(4,(.sc (.bool false)))],s.ds⟩ h
theorem calls{x0 x1:AV}{h:AH}{M:WK}{R:RK}(hp:k7 (fun id=>M id\/h.next<=id) (dP Pg [.tmp 4] R) (bT R) (s0 [x0,x1]) h):aE Pg 87 [x0,x1] h M R:=
 qL (n:=44) (pl:=pl) k7 Try.mixed Try.func87 (fun W Q QP=>
(sq (k7 W Q QP)
(sn
(sm (k1 W Q QP))
(gr (gn (k6 W Q QP) (gx (k5 W Q QP) (gn (k4 W Q QP) (gx (k3 W Q QP) (gl (k2 W Q QP)))))))))) hp
attribute [simp] k1 k2 k3 k4 k5 k6 k7
end YL
namespace YP
def pl:eS:=[]
def k1:OK:=fun W Q QP s h=>
aC Pg W 75 [(s.tm 0)] h (fun t1 h2=>
aC Pg W 71 [(s.tm 0),t1] h2 (fun t3 h4=>
ml (some (1,1,false)) t3 fun t5=>
Q .ret ⟨aA s.tm [(3,(s.tm 0)),(4,(s.tm 0)),(5,t1),(6,t3),(7,t5),(2,t5)],s.ds⟩ h4) (QP s.ds)) (QP s.ds)
def k2:OK:=fun W Q QP s h=>
k1 W Q QP ⟨aA s.tm [(2,(.sc (.string ⟨#[]⟩)))],s.ds⟩ h
theorem calls{x0:AV}{h:AH}{M:WK}{R:RK}(hp:k2 (fun id=>M id\/h.next<=id) (dP Pg [.tmp 2] R) (bT R) (s0 [x0]) h):aE Pg 72 [x0] h M R:=
 qL (n:=8) (pl:=pl) k2 Try.mixed Try.func72 (fun W Q QP=>
(sq (k2 W Q QP)
(sl (k1 W Q QP)))) hp
attribute [simp] k1 k2
end YP
namespace YN
def pl:eS:=[(1,⟨[(none,(fr 0 11)),(some (10,true),(fr 11 12)),(none,(fr 23 2)),(some (24,true),(fr 25 13)),(none,(fr 38 2))],false,[],[]⟩)]
def k1:OK:=fun _ Q _ s h=>
Q .ret s h
def k2:OK:=fun W Q QP s h=>
aV (s.tm 27) (s.tm 40) (.sc (.bool false)) fun t1=>
k1 W Q QP ⟨aA s.tm [(41,t1),(2,t1)],s.ds⟩ h
def k3:OK:=fun W Q QP s h=>
bF true (s.tm 27) (
aP (s.tm 0) fun t2=>
ai (some 0) t2 fun t3=>
al (some false) (some 1) t3 h fun t4 _=>
aP (s.tm 0) fun t6=>
ai (some 1) t6 fun t7=>
al (some false) (some 1) t7 h fun t8 _=>
br (some (3,none)) t4 t8 fun t10=>
ai (some 1) t10 fun t11=>
al (some false) (some 1) t11 h fun t12 _=>
aC Pg W 88 [t12] h (fun t14 vR=>
im .not t14 fun t16=>
k2 W Q QP ⟨aA s.tm [(28,(s.tm 0)),(29,t2),(30,t3),(31,t4),(32,(s.tm 0)),(33,t6),(34,t7),(35,t8),(36,t10),(37,t11),(38,t12),(39,t14),(40,t16)],s.ds⟩ vR) (QP s.ds)) (
k2 W Q QP ⟨aA s.tm [(28,aa),(29,aa),(30,aa),(31,aa),(32,aa),(33,aa),(34,aa),(35,aa),(36,aa),(37,aa),(38,aa),(39,aa),(40,aa)],s.ds⟩ h)
def k4:OK:=fun W Q QP s h=>
aV (s.tm 13) (s.tm 25) (.sc (.bool false)) fun t17=>
k3 W Q QP ⟨aA s.tm [(26,t17),(27,t17)],s.ds⟩ h
def k5:OK:=fun W Q QP s h=>
bF true (s.tm 13) (
aP (s.tm 0) fun t18=>
ai (some 0) t18 fun t19=>
al (some false) (some 1) t19 h fun t20 _=>
aP (s.tm 0) fun t22=>
ai (some 1) t22 fun t23=>
al (some false) (some 1) t23 h fun t24 _=>
br (some (3,none)) t20 t24 fun t26=>
ai (some 0) t26 fun t27=>
al (some false) (some 1) t27 h fun t28 _=>
ah Pg .eql 3 true t28 (.sc (.int .i64 1)) fun t30=>
k4 W Q QP ⟨aA s.tm [(14,(s.tm 0)),(15,t18),(16,t19),(17,t20),(18,(s.tm 0)),(19,t22),(20,t23),(21,t24),(22,t26),(23,t27),(24,t28),(25,t30)],s.ds⟩ h) (
k4 W Q QP ⟨aA s.tm [(14,aa),(15,aa),(16,aa),(17,aa),(18,aa),(19,aa),(20,aa),(21,aa),(22,aa),(23,aa),(24,aa),(25,aa)],s.ds⟩ h)
def k6:OK:=fun W Q QP s h=>
aP (s.tm 0) fun t31=>
ai (some 1) t31 fun t32=>
al (some false) (some 1) t32 h fun t33 _=>
aP (s.tm 0) fun t35=>
ai (some 0) t35 fun t36=>
al (some false) (some 1) t36 h fun t37 _=>
(ba t37=false)/\bK t37 fun t39=>
ah Pg .lss 3 false t33 t39 fun t40=>
k5 W Q QP ⟨aA s.tm [(3,(s.tm 0)),(4,t31),(5,t32),(6,t33),(7,(s.tm 0)),(8,t35),(9,t36),(10,t37),(11,t39),(12,t40),(13,t40)],s.ds⟩ h
def k7:OK:=fun W Q QP s h=>
k6 W Q QP ⟨aA s.tm [(2,(.sc (.bool false)))],s.ds⟩ h
theorem calls{x0:AV}{h:AH}{M:WK}{R:RK}(hp:k7 (fun id=>M id\/h.next<=id) (dP Pg [.tmp 2] R) (bT R) (s0 [x0]) h):aE Pg 75 [x0] h M R:=
 qL (n:=42) (pl:=pl) k7 Try.mixed Try.func75 (fun W Q QP=>
(sq (k7 W Q QP)
(sn
(sm (k1 W Q QP))
(gr (gn (k6 W Q QP) (gx (k5 W Q QP) (gn (k4 W Q QP) (gx (k3 W Q QP) (gl (k2 W Q QP)))))))))) hp
attribute [simp] k1 k2 k3 k4 k5 k6 k7
end YN
namespace sd
section
variable (W:WK) (Q:c7) (QP:cL) (s:St) (h:AH)
noncomputable def code:Code:=Try.f73.body.getD .skip
def pl:eS:=[(1,⟨[(none,(fr 0 12)),(some (11,true),(fr 12 12)),(none,(fr 24 1))],false,[.mk (fr 25 3) [],.mk [(26,false),(25,false),(27,false)] []],[]⟩)]
def k1:OK:=fun _ Q _ s h=>
Q .ret ⟨aA s.tm [(51,(s.tm 4)),(2,(s.tm 4))],s.ds⟩ h
def k2:OK:=fun _ Q QP s h=>
aH (s.tm 46) (
ai (some 2) (s.tm 3) fun t1=>
al (some false) (some 1) t1 h fun t2 _=>
cR (some ([.int .i64 0,.int .i64 0],.inl [(0,1),(1,1)])) [(0,t2),(1,(.sc (.int .i64 1)))] fun t4=>
rE (some false) 101 t4 fun t5=>
tD t5 h (QP s.ds)) (
Q .normal s h)
def k3:OK:=fun W Q QP s h=>
ah Pg .gtr 3 true (s.tm 4) (.sc (.int .i64 9007199254740991)) fun t6=>
k2 W Q QP ⟨aA s.tm [(45,(s.tm 4)),(46,t6)],s.ds⟩ h
def k4:OK:=fun W Q QP s h=>
ah Pg .mul 3 true (s.tm 4) (.sc (.int .i64 10)) fun t7=>
ah Pg .sub 21 true (s.tm 6) (.sc (.int .i32 48)) fun t8=>
qp (some .i64) t8 fun t9=>
ah Pg .add 3 false t7 t9 fun t10=>
k3 W Q QP ⟨aA s.tm [(39,(s.tm 4)),(40,t7),(41,(s.tm 6)),(42,t8),(43,t9),(44,t10),(4,t10)],s.ds⟩ h
def k5:OK:=fun W Q QP s h=>
dm (s.tm 36) 2 fun t11=>
k4 W Q QP ⟨aA s.tm [(38,t11),(6,t11)],s.ds⟩ h
def k6:OK:=fun W Q QP s h=>
aH (s.tm 37) (
k5 W Q QP s h) (
Q (.exit 0) s h)
def k7:OK:=fun W Q QP s h=>
s_ (s.tm 35) h W fun t12 HB=>
dm t12 0 fun t14=>
k6 W Q QP ⟨aA s.tm [(36,t12),(37,t14)],s.ds⟩ HB
noncomputable def c1:Code:=Code.at code [1,1,1,0,1,0,0]
theorem l1:aw Pg 52 W pl c1 Q QP s h=k7 W Q QP s h:=congrFun (congrFun (show TB ⟨Pg,52,pl⟩ W QP c1 Q (k7 W Q QP) from
(sq (k7 W Q QP)
(sn
(bk 1 (sq (k5 W Q QP)
(sq (k4 W Q QP)
(sq (k3 W Q QP)
(cd (k2 W Q QP) tr tr)))))
(cd (k6 W Q QP) tr tr)))) s) h
def k8:OK:=fun W Q QP s h=>l_ (aw Pg 52 W pl c1) (fI 0 (cC (k1 W Q QP) (Q))) QP s h
def k9:OK:=fun W Q QP s h=>
ai (some 1) (s.tm 3) fun t15=>
al (some false) (some 1) t15 h fun t16 _=>
qe true t16 h fun t18 qJ=>
k8 W Q QP ⟨aA s.tm [(33,t15),(34,t16),(35,t18)],s.ds⟩ qJ
def fF:OK:=fun W Q QP s h=>
k9 W Q QP ⟨aA s.tm [(4,(.sc (.int .i64 0)))],s.ds⟩ h
def iR:OK:=fun W Q QP s h=>
aP (s.tm 0) fun t20=>
ai (some 1) t20 fun t21=>
al (some false) (some 1) t21 h fun t22 _=>
aP (s.tm 0) fun t24=>
ai (some 0) t24 fun t25=>
al (some false) (some 1) t25 h fun t26 _=>
(ba t26=false)/\bK t26 fun t28=>
ah Pg .lss 3 false t22 t28 fun t29=>
bF true t29 (
aP (s.tm 0) fun t30=>
ai (some 0) t30 fun t31=>
al (some false) (some 1) t31 h fun t32 _=>
aP (s.tm 0) fun t34=>
ai (some 1) t34 fun t35=>
al (some false) (some 1) t35 h fun t36 _=>
br (some (3,none)) t32 t36 fun t38=>
ai (some 0) t38 fun t39=>
al (some false) (some 1) t39 h fun t40 _=>
ah Pg .eql 3 true t40 (.sc (.int .i64 2)) fun t42=>
aV t29 t42 (.sc (.bool false)) fun t43=>
(
aC Pg W 71 [(s.tm 0),t43] h (fun t44 qH=>
bw (some [.int .i64 0,.string ⟨#[]⟩,.int .i64 0]) 3 126 qH fun t46 yV=>
aG (some 3) t46 t44 yV W fun qG=>
fF W Q QP ⟨aA s.tm [(7,(s.tm 0)),(8,(s.tm 0)),(9,t20),(10,t21),(11,t22),(12,(s.tm 0)),(13,t24),(14,t25),(15,t26),(16,t28),(17,t29),(18,t29),(19,(s.tm 0)),(20,t30),(21,t31),(22,t32),(23,(s.tm 0)),(24,t34),(25,t35),(26,t36),(27,t38),(28,t39),(29,t40),(30,t42),(31,t43),(32,t44),(3,t46)],s.ds⟩ qG) (QP s.ds))/\(
bw (some [.int .i64 0,.string ⟨#[]⟩,.int .i64 0]) 3 126 h fun t49 sT=>
aC Pg W 71 [(s.tm 0),t43] sT (fun t51 pe=>
aG (some 3) t49 t51 pe W fun vK=>
fF W Q QP ⟨aA s.tm [(7,(s.tm 0)),(8,(s.tm 0)),(9,t20),(10,t21),(11,t22),(12,(s.tm 0)),(13,t24),(14,t25),(15,t26),(16,t28),(17,t29),(18,t29),(19,(s.tm 0)),(20,t30),(21,t31),(22,t32),(23,(s.tm 0)),(24,t34),(25,t35),(26,t36),(27,t38),(28,t39),(29,t40),(30,t42),(31,t43),(3,t49),(32,t51)],s.ds⟩ vK) (QP s.ds))/\True) (
aV t29 aa (.sc (.bool false)) fun t54=>
(
aC Pg W 71 [(s.tm 0),t54] h (fun t55 Lc=>
bw (some [.int .i64 0,.string ⟨#[]⟩,.int .i64 0]) 3 126 Lc fun t57 BC=>
aG (some 3) t57 t55 BC W fun BB=>
fF W Q QP ⟨aA s.tm [(7,(s.tm 0)),(8,(s.tm 0)),(9,t20),(10,t21),(11,t22),(12,(s.tm 0)),(13,t24),(14,t25),(15,t26),(16,t28),(17,t29),(18,t29),(19,aa),(20,aa),(21,aa),(22,aa),(23,aa),(24,aa),(25,aa),(26,aa),(27,aa),(28,aa),(29,aa),(30,aa),(31,t54),(32,t55),(3,t57)],s.ds⟩ BB) (QP s.ds))/\(
bw (some [.int .i64 0,.string ⟨#[]⟩,.int .i64 0]) 3 126 h fun t60 Vi=>
aC Pg W 71 [(s.tm 0),t54] Vi (fun t62 FH=>
aG (some 3) t60 t62 FH W fun yS=>
fF W Q QP ⟨aA s.tm [(7,(s.tm 0)),(8,(s.tm 0)),(9,t20),(10,t21),(11,t22),(12,(s.tm 0)),(13,t24),(14,t25),(15,t26),(16,t28),(17,t29),(18,t29),(19,aa),(20,aa),(21,aa),(22,aa),(23,aa),(24,aa),(25,aa),(26,aa),(27,aa),(28,aa),(29,aa),(30,aa),(31,t54),(3,t60),(32,t62)],s.ds⟩ yS) (QP s.ds))/\True)
def kQ:OK:=fun W Q QP s h=>
iR W Q QP ⟨aA s.tm [(2,(.sc (.int .i64 0)))],s.ds⟩ h
end
theorem calls{x0:AV}{h:AH}{M:WK}{R:RK}(hp:kQ (fun id=>M id\/h.next<=id) (dP Pg [.tmp 2] R) (bT R) (s0 [x0]) h):aE Pg 73 [x0] h M R:=
 qL (n:=52) (pl:=pl) kQ Try.mixed Try.func73 (fun W Q QP=>
(sq (kQ W Q QP)
(sn
(sq (fF W Q QP)
(sn
(sl (k1 W Q QP))
(sq (k9 W Q QP)
(bk 0 (lo (k8 W Q QP))))))
(sm (iR W Q QP))))) hp
attribute [simp] k1 k2 k3 k4 k5 k6 k7 k8 k9 fF iR kQ
end sd
namespace YQ
def pl:eS:=[(1,⟨[(none,(fr 0 10))],false,[],[]⟩),(3,⟨[(none,(fr 0 12))],false,[],[]⟩)]
def k1:OK:=fun W Q _ s h=>
al (some true) (some 3) (s.tm 5) h fun t1 _=>
aG (some 3) (s.tm 4) t1 h W fun h3=>
Q .ret ⟨aA s.tm [(45,t1)],s.ds⟩ h3
def k2:OK:=fun W Q QP s h=>
aP (s.tm 0) fun t4=>
ai (some 1) t4 fun t5=>
al (some false) (some 1) t5 h fun t6 _=>
ah Pg .add 3 true t6 (.sc (.int .i64 1)) fun t8=>
aP (s.tm 0) fun t9=>
ai (some 1) t9 fun t10=>
aG (some 1) t10 t8 h W fun nU=>
k1 W Q QP ⟨aA s.tm [(38,(s.tm 0)),(39,t4),(40,t5),(41,t6),(42,t8),(43,t9),(44,t10)],s.ds⟩ nU
def k3:OK:=fun W Q QP s h=>
aH (s.tm 33) (
ai (some 2) (s.tm 5) fun t12=>
al (some false) (some 1) t12 h fun t13 _=>
cR (some ([.int .i64 0,.int .i64 0],.inl [(0,1),(1,1)])) [(0,t13),(1,(.sc (.int .i64 100)))] fun t15=>
rE (some false) 101 t15 fun t16=>
tD t16 h (QP s.ds)) (
k2 W Q QP s h)
def k4:OK:=fun W Q QP s h=>
im .not (s.tm 1) fun t17=>
k3 W Q QP ⟨aA s.tm [(32,(s.tm 1)),(33,t17)],s.ds⟩ h
def k5:OK:=fun W Q QP s h=>
aP (s.tm 0) fun t18=>
ai (some 0) t18 fun t19=>
al (some false) (some 1) t19 h fun t20 _=>
aP (s.tm 0) fun t22=>
ai (some 1) t22 fun t23=>
al (some false) (some 1) t23 h fun t24 _=>
br (some (3,none)) t20 t24 fun t26=>
al (some true) (some 3) t26 h fun t27 _=>
bw (some [.int .i64 0,.string ⟨#[]⟩,.int .i64 0]) 3 126 h fun t29 Dx=>
aG (some 3) t29 t27 Dx W fun Dw=>
k4 W Q QP ⟨aA s.tm [(22,(s.tm 0)),(23,t18),(24,t19),(25,t20),(26,(s.tm 0)),(27,t22),(28,t23),(29,t24),(30,t26),(31,t27),(5,t29)],s.ds⟩ Dw
def k6:OK:=fun W Q QP s h=>
aH (s.tm 15) (
aP (s.tm 0) fun t32=>
ai (some 2) t32 fun t33=>
al (some false) (some 1) t33 h fun t34 _=>
cR (some ([.int .i64 0,.int .i64 0],.inl [(0,1),(1,1)])) [(0,t34),(1,(.sc (.int .i64 101)))] fun t36=>
rE (some false) 101 t36 fun t37=>
tD t37 h (QP s.ds)) (
k5 W Q QP s h)
def k7:OK:=fun W Q QP s h=>
aP (s.tm 0) fun t38=>
ai (some 1) t38 fun t39=>
al (some false) (some 1) t39 h fun t40 _=>
aP (s.tm 0) fun t42=>
ai (some 0) t42 fun t43=>
al (some false) (some 1) t43 h fun t44 _=>
(ba t44=false)/\bK t44 fun t46=>
ah Pg .geq 3 false t40 t46 fun t47=>
k6 W Q QP ⟨aA s.tm [(6,(s.tm 0)),(7,t38),(8,t39),(9,t40),(10,(s.tm 0)),(11,t42),(12,t43),(13,t44),(14,t46),(15,t47)],s.ds⟩ h
def k8:OK:=fun W Q QP s h=>
bw (some [.int .i64 0,.string ⟨#[]⟩,.int .i64 0]) 3 126 h fun t48 yU=>
k7 W Q QP ⟨aA s.tm [(4,t48)],s.ds⟩ yU
theorem calls{x0 x1:AV}{h:AH}{M:WK}{R:RK}(hp:k8 (fun id=>M id\/h.next<=id) (dP Pg [.cell 4 126] R) (bT R) (s0 [x0,x1]) h):aE Pg 71 [x0,x1] h M R:=
 qL (n:=46) (pl:=pl) k8 Try.mixed Try.func71 (fun W Q QP=>
(sq (k8 W Q QP)
(sn
(sq (k5 W Q QP)
(sn
(sq (k2 W Q QP)
(sl (k1 W Q QP)))
(sq (k4 W Q QP)
(cd (k3 W Q QP) tr tr))))
(sq (k7 W Q QP)
(cd (k6 W Q QP) tr tr))))) hp
attribute [simp] k1 k2 k3 k4 k5 k6 k7 k8
end YQ
namespace YO
def pl:eS:=[]
def k1:OK:=fun W Q QP s h=>
aC Pg W 87 [(s.tm 0),(s.tm 1)] h (fun t1 h2=>
aC Pg W 71 [(s.tm 0),t1] h2 (fun t3 h4=>
aG (some 3) (s.tm 4) t3 h4 W fun h5=>
Q .ret ⟨aA s.tm [(5,(s.tm 0)),(6,(s.tm 0)),(7,(s.tm 1)),(8,t1),(9,t3)],s.ds⟩ h5) (QP s.ds)) (QP s.ds)
def k2:OK:=fun W Q QP s h=>
bw (some [.int .i64 0,.string ⟨#[]⟩,.int .i64 0]) 3 126 h fun t6 h7=>
k1 W Q QP ⟨aA s.tm [(4,t6)],s.ds⟩ h7
theorem calls{x0 x1:AV}{h:AH}{M:WK}{R:RK}(hp:k2 (fun id=>M id\/h.next<=id) (dP Pg [.cell 4 126] R) (bT R) (s0 [x0,x1]) h):aE Pg 74 [x0,x1] h M R:=
 qL (n:=10) (pl:=pl) k2 Try.mixed Try.func74 (fun W Q QP=>
(sq (k2 W Q QP)
(sl (k1 W Q QP)))) hp
attribute [simp] k1 k2
end YO
namespace qj
def pl:eS:=[]
def k1:OK:=fun W Q _ s h=>
al (some true) (some 2) (s.tm 3) h fun t1 _=>
aG (some 2) (s.tm 2) t1 h W fun h3=>
Q .ret ⟨aA s.tm [(21,t1)],s.ds⟩ h3
def k2:OK:=fun W Q QP s h=>
aC Pg W 74 [(s.tm 0),(.sc (.string ⟨#[93]⟩))] h (fun t4 h5=>
k1 W Q QP ⟨aA s.tm [(19,(s.tm 0)),(20,t4)],s.ds⟩ h5) (QP s.ds)
def k3:OK:=fun W Q QP s h=>
aC Pg W 73 [(s.tm 0)] h (fun t6 h7=>
ai (some 1) (s.tm 3) fun t8=>
aG (some 1) t8 t6 h7 W fun h9=>
k2 W Q QP ⟨aA s.tm [(16,(s.tm 0)),(17,t6),(18,t8)],s.ds⟩ h9) (QP s.ds)
def k4:OK:=fun W Q QP s h=>
aP (s.tm 0) fun t10=>
ai (some 1) t10 fun t11=>
al (some false) (some 1) t11 h fun t12 _=>
ah Pg .add 3 true t12 (.sc (.int .i64 1)) fun t14=>
aP (s.tm 0) fun t15=>
ai (some 1) t15 fun t16=>
aG (some 1) t16 t14 h W fun qK=>
k3 W Q QP ⟨aA s.tm [(9,(s.tm 0)),(10,t10),(11,t11),(12,t12),(13,t14),(14,t15),(15,t16)],s.ds⟩ qK
def k5:OK:=fun W Q QP s h=>
aH (s.tm 8) (
k4 W Q QP s h) (
k1 W Q QP s h)
def k6:OK:=fun W Q QP s h=>
aC Pg W 87 [(s.tm 0),(.sc (.string ⟨#[91]⟩))] h (fun t18 qJ=>
k5 W Q QP ⟨aA s.tm [(7,(s.tm 0)),(8,t18)],s.ds⟩ qJ) (QP s.ds)
def k7:OK:=fun W Q QP s h=>
aC Pg W 72 [(s.tm 0)] h (fun t20 yY=>
cR (some ([.string ⟨#[]⟩,.int .i64 0],.inl [(0,1),(1,1)])) [(0,t20),(1,(.sc (.int .i64 (-1))))] fun t22=>
bw (some [.string ⟨#[]⟩,.int .i64 0]) 2 44 yY fun t23 sV=>
aG (some 2) t23 t22 sV W fun vP=>
k6 W Q QP ⟨aA s.tm [(4,(s.tm 0)),(5,t20),(6,t22),(3,t23)],s.ds⟩ vP) (QP s.ds)
def k8:OK:=fun W Q QP s h=>
bw (some [.string ⟨#[]⟩,.int .i64 0]) 2 44 h fun t26 vO=>
k7 W Q QP ⟨aA s.tm [(2,t26)],s.ds⟩ vO
theorem calls{x0:AV}{h:AH}{M:WK}{R:RK}(hp:k8 (fun id=>M id\/h.next<=id) (dP Pg [.cell 2 44] R) (bT R) (s0 [x0]) h):aE Pg 77 [x0] h M R:=
 qL (n:=22) (pl:=pl) k8 Try.mixed Try.func77 (fun W Q QP=>
(sq (k8 W Q QP)
(sq (k7 W Q QP)
(sn
(sl (k1 W Q QP))
(sq (k6 W Q QP)
(cd (k5 W Q QP) (sq (k4 W Q QP)
(sq (k3 W Q QP)
(sm (k2 W Q QP)))) tr)))))) hp
attribute [simp] k1 k2 k3 k4 k5 k6 k7 k8
end qj
namespace r_
section
variable (W:WK) (Q:c7) (QP:cL) (s:St) (h:AH)
noncomputable def code:Code:=Try.f76.body.getD .skip
def pl:eS:=[]
def k1:OK:=fun _ Q _ s h=>
aP (s.tm 0) fun t1=>
ai (some 3) t1 fun t2=>
al (some false) (some 1) t2 h fun t3 _=>
(ba t3=false)/\bK t3 fun t5=>
ah Pg .sub 3 false t5 (s.tm 6) fun t6=>
Q .ret ⟨aA s.tm [(33,(s.tm 0)),(34,t1),(35,t2),(36,t3),(37,t5),(38,(s.tm 6)),(39,t6),(4,t6)],s.ds⟩ h
def k2:OK:=fun W Q QP s h=>
aP (s.tm 0) fun t7=>
ai (some 1) t7 fun t8=>
al (some false) (some 1) t8 h fun t9 _=>
ah Pg .add 3 true t9 (.sc (.int .i64 1)) fun t11=>
aP (s.tm 0) fun t12=>
ai (some 1) t12 fun t13=>
aG (some 1) t13 t11 h W fun yZ=>
k1 W Q QP ⟨aA s.tm [(26,(s.tm 0)),(27,t7),(28,t8),(29,t9),(30,t11),(31,t12),(32,t13)],s.ds⟩ yZ
def k3:OK:=fun W Q QP s h=>
aC Pg W 46 [(s.tm 0),(s.tm 1)] h (fun t15 sX=>
Q .normal ⟨aA s.tm [(23,(s.tm 0)),(24,(s.tm 1)),(25,t15)],s.ds⟩ sX) (QP s.ds)
def k4:OK:=fun W Q QP s h=>
aH (s.tm 22) (
k3 W Q QP s h) (
Q (.exit 0) s h)
def k5:OK:=fun W Q QP s h=>
aC Pg W 87 [(s.tm 0),(.sc (.string ⟨#[125]⟩))] h (fun t17 vQ=>
im .not t17 fun t19=>
k4 W Q QP ⟨aA s.tm [(20,(s.tm 0)),(21,t17),(22,t19)],s.ds⟩ vQ) (QP s.ds)
noncomputable def c1:Code:=Code.at code [1,1,1,1,0,0,0]
theorem l1:aw Pg 40 W pl c1 Q QP s h=k5 W Q QP s h:=congrFun (congrFun (show TB ⟨Pg,40,pl⟩ W QP c1 Q (k5 W Q QP) from
(sn
(bk 1 (sm (k3 W Q QP)))
(sq (k5 W Q QP)
(cd (k4 W Q QP) tr tr)))) s) h
def k6:OK:=fun W Q QP s h=>l_ (aw Pg 40 W pl c1) (fI 0 (cC (k2 W Q QP) (Q))) QP s h
def k7:OK:=fun W Q QP s h=>
aP (s.tm 0) fun t20=>
ai (some 3) t20 fun t21=>
al (some false) (some 1) t21 h fun t22 _=>
(ba t22=false)/\bK t22 fun t24=>
k6 W Q QP ⟨aA s.tm [(15,(s.tm 0)),(16,t20),(17,t21),(18,t22),(19,t24),(6,t24)],s.ds⟩ h
def k8:OK:=fun W Q QP s h=>
aH (s.tm 10) (
ai (some 2) (s.tm 5) fun t25=>
al (some false) (some 1) t25 h fun t26 _=>
cR (some ([.int .i64 0,.int .i64 0],.inl [(0,1),(1,1)])) [(0,t26),(1,(.sc (.int .i64 102)))] fun t28=>
rE (some false) 101 t28 fun t29=>
tD t29 h (QP s.ds)) (
k7 W Q QP s h)
def k9:OK:=fun W Q QP s h=>
ah Pg .gtr 3 true (s.tm 1) (.sc (.int .i64 32)) fun t30=>
k8 W Q QP ⟨aA s.tm [(9,(s.tm 1)),(10,t30)],s.ds⟩ h
def fF:OK:=fun W Q QP s h=>
aC Pg W 74 [(s.tm 0),(.sc (.string ⟨#[123]⟩))] h (fun t31 vN=>
bw (some [.int .i64 0,.string ⟨#[]⟩,.int .i64 0]) 3 126 vN fun t33 Hz=>
aG (some 3) t33 t31 Hz W fun oM=>
k9 W Q QP ⟨aA s.tm [(7,(s.tm 0)),(8,t31),(5,t33)],s.ds⟩ oM) (QP s.ds)
def iR:OK:=fun W Q QP s h=>
fF W Q QP ⟨aA s.tm [(4,(.sc (.int .i64 0)))],s.ds⟩ h
end
theorem calls{x0 x1:AV}{h:AH}{M:WK}{R:RK}(hp:iR (fun id=>M id\/h.next<=id) (dP Pg [.tmp 4] R) (bT R) (s0 [x0,x1]) h):aE Pg 76 [x0,x1] h M R:=
 qL (n:=40) (pl:=pl) iR Try.mixed Try.func76 (fun W Q QP=>
(sq (iR W Q QP)
(sq (fF W Q QP)
(sn
(sq (k7 W Q QP)
(sn
(sq (k2 W Q QP)
(sl (k1 W Q QP)))
(bk 0 (lo (k6 W Q QP)))))
(sq (k9 W Q QP)
(cd (k8 W Q QP) tr tr)))))) hp
attribute [simp] k1 k2 k3 k4 k5 k6 k7 k8 k9 fF iR
end r_
namespace dE
section
variable (W:WK) (Q:c7) (QP:cL) (s:St) (h:AH)
noncomputable def code:Code:=Try.f46.body.getD .skip
def pl:eS:=[(0,⟨[(none,(fr 0 12)),(some (11,true),(fr 12 12)),(none,(fr 24 1))],false,[.mk (fr 25 3) [],.mk [(26,false),(25,false),(27,false)] []],[]⟩),(3,⟨[(none,(fr 0 11))],false,[],[]⟩),(5,⟨[(none,[(0,false),(1,true),(2,false),(3,false),(4,false),(5,false)])],true,[],[]⟩),(7,⟨[(none,[(0,false),(1,true),(2,false),(3,false),(4,false),(5,false),(6,false),(7,false)])],true,[],[]⟩),(17,⟨[(none,[(0,false),(1,true),(2,false),(3,false),(4,false),(5,false),(6,false),(7,false),(8,false)])],true,[],[]⟩),(27,⟨[(none,[(0,false),(1,true),(2,false),(4,false),(3,false),(5,false),(6,false),(7,false),(8,false),(9,false)])],true,[],[]⟩),(30,⟨[(none,[(0,false),(1,true),(2,false),(3,false),(4,false),(5,false),(6,false),(7,false)])],true,[],[]⟩),(32,⟨[(none,(fr 0 8))],false,[],[]⟩)]
def k1:OK:=fun W Q _ s h=>
aP (s.tm 0) fun t1=>
ai (some 3) t1 fun t2=>
al (some false) (some 1) t2 h fun t3 _=>
al (some true) (some 6) (s.tm 5) h fun t5 _=>
br (some (6,none)) t3 (s.tm 6) fun t7=>
aG (some 6) t7 t5 h W fun h8=>
Q .normal ⟨aA s.tm [(148,(s.tm 0)),(149,t1),(150,t2),(151,t3),(152,(s.tm 6)),(153,t5),(154,t7)],s.ds⟩ h8
def k2:OK:=fun W Q QP s h=>
aC Pg W 74 [(s.tm 0),(.sc (.string ⟨#[59]⟩))] h (fun t9 pf=>
k1 W Q QP ⟨aA s.tm [(79,(s.tm 0)),(80,t9)],s.ds⟩ pf) (QP s.ds)
def k3:OK:=fun W Q QP s h=>
aC Pg W 73 [(s.tm 0)] h (fun t11 vS=>
ai (some 3) (s.tm 5) fun t13=>
aG (some 1) t13 t11 vS W fun yZ=>
k2 W Q QP ⟨aA s.tm [(76,(s.tm 0)),(77,t11),(78,t13)],s.ds⟩ yZ) (QP s.ds)
def k4:OK:=fun W Q QP s h=>
aC Pg W 72 [(s.tm 0)] h (fun t15 sX=>
ai (some 1) (s.tm 5) fun t17=>
aG (some 1) t17 t15 sX W fun vQ=>
k3 W Q QP ⟨aA s.tm [(73,(s.tm 0)),(74,t15),(75,t17)],s.ds⟩ vQ) (QP s.ds)
def k5:OK:=fun W Q QP s h=>
ah Pg .add 3 true (s.tm 1) (.sc (.int .i64 1)) fun t19=>
aC Pg W 76 [(s.tm 0),t19] h (fun t20 yY=>
ai (some 4) (s.tm 5) fun t22=>
aG (some 1) t22 t20 yY W fun Dy=>
k1 W Q QP ⟨aA s.tm [(96,(s.tm 0)),(97,(s.tm 1)),(98,t19),(99,t20),(100,t22)],s.ds⟩ Dy) (QP s.ds)
def k6:OK:=fun W Q QP s h=>
∃Hd:Nat->Nat,(∀i∈[1],h.obj (Hd i)≠none)/\(
ai (some 2) (s.tm 5) fun t24=>
al (some false) (some 1) t24 h fun t25 i26=>
(i26=Hd 1)/\(
aC Pg (h_ W Hd [1]) 72 [(s.tm 0)] h (fun t27 qI=>
cR (some ([.string ⟨#[]⟩,.int .i64 0],.inl [(0,1),(1,1)])) [(0,t27),(1,(.sc (.int .i64 (-1))))] fun t29=>
dX (some (2,44,[.string ⟨#[]⟩,.int .i64 0])) 1 [(0,t29)] qI fun t30 Dw=>
fu (some (2,24,44)) t25 t30 Dw W fun t32 ub=>
ai (some 2) (s.tm 5) fun t34=>
aG (some 1) t34 t32 ub W fun oM=>
Q .normal ⟨aA s.tm [(88,t24),(89,t25),(90,(s.tm 0)),(91,t27),(92,t29),(93,t30),(94,t32),(95,t34)],s.ds⟩ oM) (QP s.ds)))
def k7:OK:=fun W Q QP s h=>
aH (s.tm 87) (
k6 W Q QP s h) (
Q (.exit 3) s h)
def k8:OK:=fun W Q QP s h=>
aC Pg W 75 [(s.tm 0)] h (fun t36 sU=>
k7 W Q QP ⟨aA s.tm [(86,(s.tm 0)),(87,t36)],s.ds⟩ sU) (QP s.ds)
noncomputable def c1:Code:=Code.at code [1,1,1,1,0,1,0,1,1,1,0,1,0,0,0]
theorem l1:aw Pg 155 W pl c1 Q QP s h=k8 W Q QP s h:=congrFun (congrFun (show TB ⟨Pg,155,pl⟩ W QP c1 Q (k8 W Q QP) from
(sn
(bk 4 (sm (k6 W Q QP)))
(sq (k8 W Q QP)
(cd (k7 W Q QP) tr tr)))) s) h
def k9:OK:=fun W Q QP s h=>l_ (aw Pg 155 W pl c1) (fI 3 (cC (k5 W Q QP) (fI 0 (cC (k1 W Q QP) (Q))))) QP s h
def fF:OK:=fun W Q QP s h=>
aC Pg W 72 [(s.tm 0)] h (fun t38 vL=>
ai (some 1) (s.tm 5) fun t40=>
aG (some 1) t40 t38 vL W fun yX=>
k9 W Q QP ⟨aA s.tm [(83,(s.tm 0)),(84,t38),(85,t40)],s.ds⟩ yX) (QP s.ds)
def iR:OK:=fun W Q QP s h=>
ah Pg .add 3 true (s.tm 1) (.sc (.int .i64 1)) fun t42=>
aC Pg W 76 [(s.tm 0),t42] h (fun t43 yW=>
ai (some 4) (s.tm 5) fun t45=>
aG (some 1) t45 t43 yW W fun Du=>
k1 W Q QP ⟨aA s.tm [(106,(s.tm 0)),(107,(s.tm 1)),(108,t42),(109,t43),(110,t45)],s.ds⟩ Du) (QP s.ds)
def kQ:OK:=fun W Q QP s h=>
aC Pg W 73 [(s.tm 0)] h (fun t47 qG=>
ai (some 3) (s.tm 5) fun t49=>
aG (some 1) t49 t47 qG W fun sT=>
iR W Q QP ⟨aA s.tm [(103,(s.tm 0)),(104,t47),(105,t49)],s.ds⟩ sT) (QP s.ds)
def nj:OK:=fun W Q QP s h=>
ah Pg .add 3 true (s.tm 1) (.sc (.int .i64 1)) fun t51=>
aC Pg W 76 [(s.tm 0),t51] h (fun t52 vK=>
ai (some 4) (s.tm 5) fun t54=>
aG (some 1) t54 t52 vK W fun ua=>
k1 W Q QP ⟨aA s.tm [(119,(s.tm 0)),(120,(s.tm 1)),(121,t51),(122,t52),(123,t54)],s.ds⟩ ua) (QP s.ds)
def nP:OK:=fun W Q QP s h=>
aC Pg W 73 [(s.tm 0)] h (fun t56 xg=>
ai (some 3) (s.tm 5) fun t58=>
aG (some 1) t58 t56 xg W fun BB=>
nj W Q QP ⟨aA s.tm [(116,(s.tm 0)),(117,t56),(118,t58)],s.ds⟩ BB) (QP s.ds)
def oG:OK:=fun W Q QP s h=>
aC Pg W 72 [(s.tm 0)] h (fun t60 Vi=>
ai (some 1) (s.tm 5) fun t62=>
aG (some 1) t62 t60 Vi W fun FH=>
nP W Q QP ⟨aA s.tm [(113,(s.tm 0)),(114,t60),(115,t62)],s.ds⟩ FH) (QP s.ds)
def oZ:OK:=fun W Q QP s h=>
aC Pg W 74 [(s.tm 0),(.sc (.string ⟨#[59]⟩))] h (fun t64 FG=>
k1 W Q QP ⟨aA s.tm [(135,(s.tm 0)),(136,t64)],s.ds⟩ FG) (QP s.ds)
def nO:OK:=fun W Q QP s h=>
∃Hd:Nat->Nat,(∀i∈[1],h.obj (Hd i)≠none)/\(
ai (some 2) (s.tm 5) fun t66=>
al (some false) (some 1) t66 h fun t67 i68=>
(i68=Hd 1)/\(
aC Pg (h_ W Hd [1]) 77 [(s.tm 0)] h (fun t69 xc=>
aC Pg (h_ W Hd [1]) 77 [(s.tm 0)] xc (fun t71 FE=>
dX (some (2,44,[.string ⟨#[]⟩,.int .i64 0,.string ⟨#[]⟩,.int .i64 0])) 2 [(0,t69),(1,t71)] FE fun t73 FD=>
fu (some (2,24,44)) t67 t73 FD W fun t75 K7=>
ai (some 2) (s.tm 5) fun t77=>
aG (some 1) t77 t75 K7 W fun FB=>
oZ W Q QP ⟨aA s.tm [(126,t66),(127,t67),(128,(s.tm 0)),(130,(s.tm 0)),(129,t69),(131,t71),(132,t73),(133,t75),(134,t77)],s.ds⟩ FB) (QP s.ds)) (QP s.ds)))
def sK:OK:=fun W Q QP s h=>
aC Pg W 74 [(s.tm 0),(.sc (.string ⟨#[59]⟩))] h (fun t79 w_=>
k1 W Q QP ⟨aA s.tm [(146,(s.tm 0)),(147,t79)],s.ds⟩ w_) (QP s.ds)
def sJ:OK:=fun W Q QP s h=>
∃Hd:Nat->Nat,(∀i∈[1],h.obj (Hd i)≠none)/\(
ai (some 2) (s.tm 5) fun t81=>
al (some false) (some 1) t81 h fun t82 i83=>
(i83=Hd 1)/\(
aC Pg (h_ W Hd [1]) 77 [(s.tm 0)] h (fun t84 rP=>
dX (some (2,44,[.string ⟨#[]⟩,.int .i64 0])) 1 [(0,t84)] rP fun t86 BA=>
fu (some (2,24,44)) t82 t86 BA W fun t88 K5=>
ai (some 2) (s.tm 5) fun t90=>
aG (some 1) t90 t88 K5 W fun h91=>
sK W Q QP ⟨aA s.tm [(139,t81),(140,t82),(141,(s.tm 0)),(142,t84),(143,t86),(144,t88),(145,t90)],s.ds⟩ h91) (QP s.ds)))
def rJ:OK:=fun W Q QP s h=>
aC Pg W 74 [(s.tm 0),(.sc (.string ⟨#[59]⟩))] h (fun t92 h93=>
k1 W Q QP ⟨aA s.tm [(68,(s.tm 0)),(69,t92)],s.ds⟩ h93) (QP s.ds)
def vC:OK:=fun W Q QP s h=>
∃Hd:Nat->Nat,(∀i∈[1],h.obj (Hd i)≠none)/\(
ai (some 2) (s.tm 5) fun t94=>
al (some false) (some 1) t94 h fun t95 i96=>
(i96=Hd 1)/\(
aC Pg (h_ W Hd [1]) 77 [(s.tm 0)] h (fun t97 Fx=>
dX (some (2,44,[.string ⟨#[]⟩,.int .i64 0])) 1 [(0,t97)] Fx fun t99 FR=>
fu (some (2,24,44)) t95 t99 FR W fun t101 NN=>
ai (some 2) (s.tm 5) fun t103=>
aG (some 1) t103 t101 NN W fun NM=>
Q .normal ⟨aA s.tm [(61,t94),(62,t95),(63,(s.tm 0)),(64,t97),(65,t99),(66,t101),(67,t103)],s.ds⟩ NM) (QP s.ds)))
def qB:OK:=fun W Q QP s h=>
aH (s.tm 60) (
vC W Q QP s h) (
Q (.exit 1) s h)
def tR:OK:=fun W Q QP s h=>
aC Pg W 75 [(s.tm 0)] h (fun t105 FQ=>
qB W Q QP ⟨aA s.tm [(59,(s.tm 0)),(60,t105)],s.ds⟩ FQ) (QP s.ds)
noncomputable def c2:Code:=Code.at code [1,1,1,1,0,1,0,1,1,1,1,1,1,1,1,1,1,1,1,1,0,0,0]
theorem l2:aw Pg 155 W pl c2 Q QP s h=tR W Q QP s h:=congrFun (congrFun (show TB ⟨Pg,155,pl⟩ W QP c2 Q (tR W Q QP) from
(sn
(bk 2 (sm (vC W Q QP)))
(sq (tR W Q QP)
(cd (qB W Q QP) tr tr)))) s) h
def sI:OK:=fun W Q QP s h=>l_ (aw Pg 155 W pl c2) (fI 1 (cC (rJ W Q QP) (fI 0 (cC (k1 W Q QP) (Q))))) QP s h
def A9:OK:=fun W Q QP s h=>
∃Hd:Nat->Nat,(∀i∈[1],h.obj (Hd i)≠none)/\(
ai (some 1) (s.tm 4) fun t107=>
al (some false) (some 1) t107 h fun t108 i109=>
(i109=Hd 1)/\(
ai (some 0) (s.tm 5) fun t110=>
aG (some 1) t110 (.sc (.string ⟨#[117,115,101]⟩)) h (h_ W Hd [1]) fun FN=>
ai (some 1) (s.tm 5) fun t112=>
aG (some 1) t112 t108 FN W fun NK=>
sI W Q QP ⟨aA s.tm [(55,t107),(56,t108),(57,t110),(58,t112)],s.ds⟩ NK))
def A8:OK:=fun W Q QP s h=>
aH (s.tm 137) (
sJ W Q QP s h) (
A9 W Q QP s h)
def Df:OK:=fun W Q QP s h=>
ah Pg .eql 9 true (s.tm 54) (.sc (.string ⟨#[114,101,115,101,116]⟩)) fun t114=>
A8 W Q QP ⟨aA s.tm [(138,t114),(137,t114)],s.ds⟩ h
def yF:OK:=fun W Q QP s h=>
aH (s.tm 124) (
nO W Q QP s h) (
Df W Q QP s h)
def A7:OK:=fun W Q QP s h=>
ah Pg .eql 9 true (s.tm 54) (.sc (.string ⟨#[109,101,97,115,117,114,101]⟩)) fun t115=>
yF W Q QP ⟨aA s.tm [(125,t115),(124,t115)],s.ds⟩ h
def yE:OK:=fun W Q QP s h=>
aH (s.tm 111) (
oG W Q QP s h) (
A7 W Q QP s h)
def yD:OK:=fun W Q QP s h=>
ah Pg .eql 9 true (s.tm 54) (.sc (.string ⟨#[105,102]⟩)) fun t116=>
yE W Q QP ⟨aA s.tm [(112,t116),(111,t116)],s.ds⟩ h
def wR:OK:=fun W Q QP s h=>
aH (s.tm 101) (
kQ W Q QP s h) (
yD W Q QP s h)
def yz:OK:=fun W Q QP s h=>
ah Pg .eql 9 true (s.tm 54) (.sc (.string ⟨#[114,101,112,101,97,116]⟩)) fun t117=>
wR W Q QP ⟨aA s.tm [(102,t117),(101,t117)],s.ds⟩ h
def De:OK:=fun W Q QP s h=>
aH (s.tm 81) (
fF W Q QP s h) (
yz W Q QP s h)
def Dd:OK:=fun W Q QP s h=>
ah Pg .eql 9 true (s.tm 54) (.sc (.string ⟨#[103,97,116,101]⟩)) fun t118=>
De W Q QP ⟨aA s.tm [(82,t118),(81,t118)],s.ds⟩ h
def wQ:OK:=fun W Q QP s h=>
aH (s.tm 70) (
k4 W Q QP s h) (
Dd W Q QP s h)
def Dc:OK:=fun W Q QP s h=>
aH (s.tm 70) (
wQ W Q QP s h) (
ah Pg .eql 9 true (s.tm 54) (.sc (.string ⟨#[98,105,116,115]⟩)) fun t119=>
wQ W Q QP ⟨aA s.tm [(72,t119),(70,t119)],s.ds⟩ h)
def yy:OK:=fun W Q QP s h=>
ah Pg .eql 9 true (s.tm 54) (.sc (.string ⟨#[113,117,98,105,116,115]⟩)) fun t120=>
Dc W Q QP ⟨aA s.tm [(71,t120),(70,t120)],s.ds⟩ h
def A6:OK:=fun W Q QP s h=>
ai (some 1) (s.tm 4) fun t121=>
al (some false) (some 1) t121 h fun t122 _=>
yy W Q QP ⟨aA s.tm [(53,t121),(54,t122)],s.ds⟩ h
def vB:OK:=fun W Q QP s h=>
aP (s.tm 0) fun t124=>
ai (some 3) t124 fun t125=>
al (some false) (some 1) t125 h fun t126 _=>
al (some true) (some 6) (s.tm 5) h fun t128 _=>
dX (some (6,42,[.string ⟨#[]⟩,.string ⟨#[]⟩,.slice none 0 0,.int .i64 0,.int .i64 0,.int .i64 0])) 1 [(0,t128)] h fun t130 abF=>
fu (some (6,80,42)) t126 t130 abF W fun t132 NH=>
aP (s.tm 0) fun t134=>
ai (some 3) t134 fun t135=>
aG (some 1) t135 t132 NH W fun abD=>
A6 W Q QP ⟨aA s.tm [(43,(s.tm 0)),(44,(s.tm 0)),(45,t124),(46,t125),(47,t126),(48,t128),(49,t130),(50,t132),(51,t134),(52,t135)],s.ds⟩ abD
def PH:OK:=fun W Q QP s h=>
aP (s.tm 0) fun t137=>
ai (some 3) t137 fun t138=>
al (some false) (some 1) t138 h fun t139 _=>
(ba t139=false)/\bK t139 fun t141=>
vB W Q QP ⟨aA s.tm [(38,(s.tm 0)),(39,t137),(40,t138),(41,t139),(42,t141),(6,t141)],s.ds⟩ h
def qA:OK:=fun W Q QP s h=>
ai (some 1) (s.tm 4) fun t142=>
al (some false) (some 1) t142 h fun t143 _=>
ai (some 2) (s.tm 4) fun t145=>
al (some false) (some 1) t145 h fun t146 _=>
cR (some ([.string ⟨#[]⟩,.string ⟨#[]⟩,.slice none 0 0,.int .i64 0,.int .i64 0,.int .i64 0],.inl [(0,1),(1,1),(2,1),(3,1),(4,1),(5,1)])) [(0,t143),(5,t146)] fun t148=>
bw (some [.string ⟨#[]⟩,.string ⟨#[]⟩,.slice none 0 0,.int .i64 0,.int .i64 0,.int .i64 0]) 6 42 h fun t149 NF=>
aG (some 6) t149 t148 NF W fun aby=>
PH W Q QP ⟨aA s.tm [(33,t142),(34,t143),(35,t145),(36,t146),(37,t148),(5,t149)],s.ds⟩ aby
def PG:OK:=fun W Q QP s h=>
aP (s.tm 0) fun t152=>
ai (some 1) t152 fun t153=>
al (some false) (some 1) t153 h fun t154 _=>
aP (s.tm 0) fun t156=>
ai (some 0) t156 fun t157=>
al (some false) (some 1) t157 h fun t158 _=>
(ba t158=false)/\bK t158 fun t160=>
ah Pg .lss 3 false t154 t160 fun t161=>
bF true t161 (
aP (s.tm 0) fun t162=>
ai (some 0) t162 fun t163=>
al (some false) (some 1) t163 h fun t164 _=>
aP (s.tm 0) fun t166=>
ai (some 1) t166 fun t167=>
al (some false) (some 1) t167 h fun t168 _=>
br (some (3,none)) t164 t168 fun t170=>
ai (some 0) t170 fun t171=>
al (some false) (some 1) t171 h fun t172 _=>
ah Pg .eql 3 true t172 (.sc (.int .i64 1)) fun t174=>
aV t161 t174 (.sc (.bool false)) fun t175=>
(
aC Pg W 71 [(s.tm 0),t175] h (fun t176 FJ=>
bw (some [.int .i64 0,.string ⟨#[]⟩,.int .i64 0]) 3 126 FJ fun t178 abk=>
aG (some 3) t178 t176 abk W fun NB=>
qA W Q QP ⟨aA s.tm [(7,(s.tm 0)),(8,(s.tm 0)),(9,t152),(10,t153),(11,t154),(12,(s.tm 0)),(13,t156),(14,t157),(15,t158),(16,t160),(17,t161),(18,t161),(19,(s.tm 0)),(20,t162),(21,t163),(22,t164),(23,(s.tm 0)),(24,t166),(25,t167),(26,t168),(27,t170),(28,t171),(29,t172),(30,t174),(31,t175),(32,t176),(4,t178)],s.ds⟩ NB) (QP s.ds))/\(
bw (some [.int .i64 0,.string ⟨#[]⟩,.int .i64 0]) 3 126 h fun t181 abj=>
aC Pg W 71 [(s.tm 0),t175] abj (fun t183 NA=>
aG (some 3) t181 t183 NA W fun abi=>
qA W Q QP ⟨aA s.tm [(7,(s.tm 0)),(8,(s.tm 0)),(9,t152),(10,t153),(11,t154),(12,(s.tm 0)),(13,t156),(14,t157),(15,t158),(16,t160),(17,t161),(18,t161),(19,(s.tm 0)),(20,t162),(21,t163),(22,t164),(23,(s.tm 0)),(24,t166),(25,t167),(26,t168),(27,t170),(28,t171),(29,t172),(30,t174),(31,t175),(4,t181),(32,t183)],s.ds⟩ abi) (QP s.ds))/\True) (
aV t161 aa (.sc (.bool false)) fun t186=>
(
aC Pg W 71 [(s.tm 0),t186] h (fun t187 abg=>
bw (some [.int .i64 0,.string ⟨#[]⟩,.int .i64 0]) 3 126 abg fun t189 abf=>
aG (some 3) t189 t187 abf W fun Nz=>
qA W Q QP ⟨aA s.tm [(7,(s.tm 0)),(8,(s.tm 0)),(9,t152),(10,t153),(11,t154),(12,(s.tm 0)),(13,t156),(14,t157),(15,t158),(16,t160),(17,t161),(18,t161),(19,aa),(20,aa),(21,aa),(22,aa),(23,aa),(24,aa),(25,aa),(26,aa),(27,aa),(28,aa),(29,aa),(30,aa),(31,t186),(32,t187),(4,t189)],s.ds⟩ Nz) (QP s.ds))/\(
bw (some [.int .i64 0,.string ⟨#[]⟩,.int .i64 0]) 3 126 h fun t192 Ny=>
aC Pg W 71 [(s.tm 0),t186] Ny (fun t194 abe=>
aG (some 3) t192 t194 abe W fun abd=>
qA W Q QP ⟨aA s.tm [(7,(s.tm 0)),(8,(s.tm 0)),(9,t152),(10,t153),(11,t154),(12,(s.tm 0)),(13,t156),(14,t157),(15,t158),(16,t160),(17,t161),(18,t161),(19,aa),(20,aa),(21,aa),(22,aa),(23,aa),(24,aa),(25,aa),(26,aa),(27,aa),(28,aa),(29,aa),(30,aa),(31,t186),(4,t192),(32,t194)],s.ds⟩ abd) (QP s.ds))/\True)
end
theorem calls{x0 x1:AV}{h:AH}{M:WK}{R:RK}(hp:PG (fun id=>M id\/h.next<=id) (dP Pg [] R) (bT R) (s0 [x0,x1]) h):aE Pg 46 [x0,x1] h M R:=
 qL (n:=155) (pl:=pl) PG Try.mixed Try.func46 (fun W Q QP=>
(sn
(sq (qA W Q QP)
(sq (PH W Q QP)
(sq (vB W Q QP)
(sn
(sm (k1 W Q QP))
(sq (A6 W Q QP)
(bk 0 (sn
(cd (wQ W Q QP) (sq (k4 W Q QP)
(sq (k3 W Q QP)
(sm (k2 W Q QP)))) (sq (Dd W Q QP)
(cd (De W Q QP) (sq (fF W Q QP)
(sn
(sm (k5 W Q QP))
(bk 3 (lo (k9 W Q QP))))) (sq (yz W Q QP)
(cd (wR W Q QP) (sq (kQ W Q QP)
(sm (iR W Q QP))) (sq (yD W Q QP)
(cd (yE W Q QP) (sq (oG W Q QP)
(sq (nP W Q QP)
(sm (nj W Q QP)))) (sq (A7 W Q QP)
(cd (yF W Q QP) (sn
(sm (oZ W Q QP))
(sm (nO W Q QP))) (sq (Df W Q QP)
(cd (A8 W Q QP) (sn
(sm (sK W Q QP))
(sm (sJ W Q QP))) (sn
(sn
(sm (rJ W Q QP))
(bk 1 (lo (sI W Q QP))))
(sm (A9 W Q QP))))))))))))))
(sq (yy W Q QP)
(cd (Dc W Q QP) tr tr)))))))))
(sm (PG W Q QP)))) hp
attribute [simp] k1 k2 k3 k4 k5 k6 k7 k8 k9 fF iR kQ nj nP oG oZ nO sK sJ rJ vC qB tR sI A9 A8 Df yF A7 yE yD wR yz De Dd wQ Dc yy A6 vB PH qA PG
end dE
end
section
open Go.Ab
section
variable (W:Nat->Prop) (Q:c7) (QP:cL) (s:St) (h:AH)
noncomputable def aB.code:Code:=Try.f24.body.getD .skip
def aB.pl:eS:=[(3,⟨[(none,[(0,true),(1,true),(2,false),(3,false),(4,false)])],true,[],[]⟩)]
theorem aB.ok:kM Pg aB.pl aB.code=true:=by kernel_rfl
def aB.t1(W:Nat->Prop)(Q:c7)(s:St)(h:AH):Prop:=
 aP (s.tm 6) fun t1=>
 ai (some 3) t1 fun t2=>
 al (some false) (some 1) t2 h fun t3 _=>
 aG (some 1) (s.tm 2) t3 h W fun h5=>
 aG (some 1) (s.tm 3) (.sc (.int .i64 0)) h5 W fun h6=>
 aG (some 1) (s.tm 4) (.sc (.int .i64 0)) h6 W fun h7=>
 Q .ret ⟨aA s.tm [(32,(s.tm 6)),(33,t1),(34,t2),(35,t3)],s.ds⟩ h7
def aB.k1(W:Nat->Prop)(Q:c7)(QP:cL)(s:St)(h:AH):Prop:=aB.t1 W Q s h
theorem aB.Nb:aw Pg 36 W aB.pl (Code.at aB.code [1,1,1,1,1,1,0]) (cC (aw Pg 36 W aB.pl (Code.at aB.code [1,1,1,1,1,1,1]) (Q) QP) (Q)) QP s h=aB.t1 W Q s h:=by kernel_rfl
theorem aB.DQ:aw Pg 36 W aB.pl (Code.at aB.code [1,1,1,1,1,1]) (Q) QP s h=aB.k1 W Q QP s h:=iP (a:=(Code.at aB.code [1,1,1,1,1,1,0])) (b:=(Code.at aB.code [1,1,1,1,1,1,1])) (by kernel_rfl) (fun _ _=>rfl) (aB.Nb W Q QP s h)
def aB.t2(W:Nat->Prop)(Q:c7)(QP:cL)(s:St)(h:AH):Prop:=
 aC Pg W 46 [(s.tm 6),(.sc (.int .i64 0))] h (fun t8 h9=>
 Q .normal ⟨aA s.tm [(30,(s.tm 6)),(31,t8)],s.ds⟩ h9) (QP s.ds)
def aB.k2(W:Nat->Prop)(Q:c7)(QP:cL)(s:St)(h:AH):Prop:=aB.t2 W Q QP s h
theorem aB.Na:aw Pg 36 W aB.pl (Code.at aB.code [1,1,1,1,1,0,0,0,1,0]) (fI 1 (Q)) QP s h=aB.t2 W Q QP s h:=by kernel_rfl
theorem aB.IG:aw Pg 36 W aB.pl (Code.at aB.code [1,1,1,1,1,0,0,0,1,0]) (fI 1 (Q)) QP s h=aB.k2 W Q QP s h:=(aB.Na W Q QP s h)
theorem aB.o1:aw Pg 36 W aB.pl (Code.at aB.code [1,1,1,1,1,0,0,0,1]) (Q) QP s h=aB.k2 W Q QP s h:=EU (a:=(Code.at aB.code [1,1,1,1,1,0,0,0,1,0])) (by kernel_rfl) (aB.IG W Q QP s h)
def aB.t3(Q:c7)(s:St)(h:AH)(C0:KT):Prop:=
 aH (s.tm 29) (
 C0 s h) (
 Q (.exit 0) s h)
def aB.k3(W:Nat->Prop)(Q:c7)(QP:cL)(s:St)(h:AH):Prop:=aB.t3 Q s h (aB.k2 W Q QP)
theorem aB.IF(C0:KT):aH (l8 s (.tmp 29)) (aw Pg 36 W aB.pl (Code.at aB.code [1,1,1,1,1,0,0,0,0,1,0]) (cC (C0) (Q)) QP s h) (aw Pg 36 W aB.pl (Code.at aB.code [1,1,1,1,1,0,0,0,0,1,1]) (cC (C0) (Q)) QP s h)=aB.t3 Q s h C0:=by kernel_rfl
theorem aB.IE:aw Pg 36 W aB.pl (Code.at aB.code [1,1,1,1,1,0,0,0,0,1]) (cC (aB.k2 W Q QP) (Q)) QP s h=aB.k3 W Q QP s h:=rh (a:=(Code.at aB.code [1,1,1,1,1,0,0,0,0,1,0])) (b:=(Code.at aB.code [1,1,1,1,1,0,0,0,0,1,1])) (by kernel_rfl) rfl rfl (aB.IF W Q QP s h (aB.k2 W Q QP))
def aB.t4(s:St)(h:AH)(C0 C1:KT):Prop:=
 aP (s.tm 6) fun t10=>
 ai (some 1) t10 fun t11=>
 al (some false) (some 1) t11 h fun t12 _=>
 (ba (s.tm 5)=false)/\bK (s.tm 5) fun t14=>
 ah Pg .lss 3 false t12 t14 fun t15=>
 C1 ⟨aA s.tm [(23,(s.tm 6)),(24,t10),(25,t11),(26,t12),(27,(s.tm 5)),(28,t14),(29,t15)],s.ds⟩ h
def aB.k4(W:Nat->Prop)(Q:c7)(QP:cL)(s:St)(h:AH):Prop:=aB.t4 s h (aB.k2 W Q QP) (aB.k3 W Q QP)
theorem aB.ID(C0 C1:KT):aw Pg 36 W aB.pl (Code.at aB.code [1,1,1,1,1,0,0,0,0,0]) (cC (C1) (cC (C0) (Q))) QP s h=aB.t4 s h C0 C1:=by kernel_rfl
theorem aB.IC:aw Pg 36 W aB.pl (Code.at aB.code [1,1,1,1,1,0,0,0,0]) (cC (aB.k2 W Q QP) (Q)) QP s h=aB.k4 W Q QP s h:=iP (a:=(Code.at aB.code [1,1,1,1,1,0,0,0,0,0])) (b:=(Code.at aB.code [1,1,1,1,1,0,0,0,0,1])) (by kernel_rfl) (aB.IE W Q QP) (aB.ID W Q QP s h (aB.k2 W Q QP) (aB.k3 W Q QP))
theorem aB.o2:aw Pg 36 W aB.pl (Code.at aB.code [1,1,1,1,1,0,0,0]) (Q) QP s h=aB.k4 W Q QP s h:=iP (a:=(Code.at aB.code [1,1,1,1,1,0,0,0,0])) (b:=(Code.at aB.code [1,1,1,1,1,0,0,0,1])) (by kernel_rfl) (aB.o1 W Q QP) (aB.IC W Q QP s h)
noncomputable def aB.c1:Code:=(Code.at aB.code [1,1,1,1,1,0,0,0])
theorem aB.l1:aw Pg 36 W aB.pl aB.c1 Q QP s h=aB.k4 W Q QP s h:=aB.o2 W Q QP s h
def aB.k5(W:Nat->Prop)(Q:c7)(QP:cL)(s:St)(h:AH):Prop:=l_ (aw Pg 36 W aB.pl aB.c1) (fI 0 (cC (aB.k1 W Q QP) (Q))) QP s h
theorem aB.IB:aw Pg 36 W aB.pl (Code.at aB.code [1,1,1,1,1,0,0]) (fI 0 (cC (aB.k1 W Q QP) (Q))) QP s h=aB.k5 W Q QP s h:=Rx (a:=aB.c1) (by kernel_rfl)
theorem aB.o3:aw Pg 36 W aB.pl (Code.at aB.code [1,1,1,1,1,0]) (cC (aB.k1 W Q QP) (Q)) QP s h=aB.k5 W Q QP s h:=EU (a:=(Code.at aB.code [1,1,1,1,1,0,0])) (by kernel_rfl) (aB.IB W Q QP s h)
theorem aB.o4:aw Pg 36 W aB.pl (Code.at aB.code [1,1,1,1,1]) (Q) QP s h=aB.k5 W Q QP s h:=iP (a:=(Code.at aB.code [1,1,1,1,1,0])) (b:=(Code.at aB.code [1,1,1,1,1,1])) (by kernel_rfl) (aB.DQ W Q QP) (aB.o3 W Q QP s h)
def aB.t6(s:St)(h:AH)(C0:KT):Prop:=
 (ba (s.tm 0)=true)/\bK (s.tm 0) fun t16=>
 cR (some ([.slice none 0 0,.int .i64 0,.int .i64 0,.slice none 0 0],.inl [(0,1),(1,1),(2,1),(3,1)])) [(0,(s.tm 5)),(2,t16)] fun t17=>
 eI 4 105 t17 h fun t18 qJ=>
 C0 ⟨aA s.tm [(18,(s.tm 5)),(19,(s.tm 0)),(20,t16),(21,t17),(22,t18),(6,t18)],s.ds⟩ qJ
def aB.k6(W:Nat->Prop)(Q:c7)(QP:cL)(s:St)(h:AH):Prop:=aB.t6 s h (aB.k5 W Q QP)
theorem aB.IA(C0:KT):aw Pg 36 W aB.pl (Code.at aB.code [1,1,1,1,0]) (cC (C0) (Q)) QP s h=aB.t6 s h C0:=by kernel_rfl
theorem aB.Iz:aw Pg 36 W aB.pl (Code.at aB.code [1,1,1,1]) (Q) QP s h=aB.k6 W Q QP s h:=iP (a:=(Code.at aB.code [1,1,1,1,0])) (b:=(Code.at aB.code [1,1,1,1,1])) (by kernel_rfl) (aB.o4 W Q QP) (aB.IA W Q QP s h (aB.k5 W Q QP))
def aB.t7(s:St)(h:AH)(C0:KT):Prop:=
 Jd (.fn (.func 45) [] [(s.tm 2),(s.tm 3),(s.tm 4)]) [] s.ds fun d20=>
 C0 ⟨aA s.tm [(17,(.fn (.func 45) [] [(s.tm 2),(s.tm 3),(s.tm 4)]))],d20⟩ h
def aB.k7(W:Nat->Prop)(Q:c7)(QP:cL)(s:St)(h:AH):Prop:=aB.t7 s h (aB.k6 W Q QP)
theorem aB.T3(C0:KT):aw Pg 36 W aB.pl (Code.at aB.code [1,1,1,0]) (cC (C0) (Q)) QP s h=aB.t7 s h C0:=by kernel_rfl
theorem aB.WH:aw Pg 36 W aB.pl (Code.at aB.code [1,1,1]) (Q) QP s h=aB.k7 W Q QP s h:=iP (a:=(Code.at aB.code [1,1,1,0])) (b:=(Code.at aB.code [1,1,1,1])) (by kernel_rfl) (aB.Iz W Q QP) (aB.T3 W Q QP s h (aB.k6 W Q QP))
def aB.t8(Q:c7)(s:St)(h:AH)(C0:KT):Prop:=
 Q .ret s h
def aB.k8(W:Nat->Prop)(Q:c7)(QP:cL)(s:St)(h:AH):Prop:=aB.t8 Q s h (aB.k7 W Q QP)
theorem aB.T2(C0:KT):aw Pg 36 W aB.pl (Code.at aB.code [1,1,0,1,0,1]) (cC (C0) (Q)) QP s h=aB.t8 Q s h C0:=by kernel_rfl
theorem aB.WE:aw Pg 36 W aB.pl (Code.at aB.code [1,1,0,1,0,1]) (cC (aB.k7 W Q QP) (Q)) QP s h=aB.k8 W Q QP s h:=(aB.T2 W Q QP s h (aB.k7 W Q QP))
def aB.t9(W:Nat->Prop)(s:St)(h:AH)(C0 C1:KT):Prop:=
 ∃Hd:Nat->Nat,(∀i∈[0,1],h.obj (Hd i)≠none)/\(
 al (some false) (some 1) (s.tm 3) h fun t21 i22=>
 (i22=Hd 0)/\(
 al (some false) (some 1) (s.tm 4) h fun t23 i24=>
 (i24=Hd 1)/\(
 aG (some 1) (s.tm 2) (.sc (.slice none 0 0)) h (h_ W Hd [0,1]) fun vP=>
 aG (some 1) (s.tm 3) t21 vP (h_ W Hd [1]) fun mS=>
 aG (some 1) (s.tm 4) t23 mS W fun vO=>
 C1 ⟨aA s.tm [(15,t21),(16,t23)],s.ds⟩ vO)))
def aB.k9(W:Nat->Prop)(Q:c7)(QP:cL)(s:St)(h:AH):Prop:=aB.t9 W s h (aB.k7 W Q QP) (aB.k8 W Q QP)
theorem aB.T1(C0 C1:KT):aw Pg 36 W aB.pl (Code.at aB.code [1,1,0,1,0,0]) (cC (C1) (cC (C0) (Q))) QP s h=aB.t9 W s h C0 C1:=by kernel_rfl
theorem aB.WD:aw Pg 36 W aB.pl (Code.at aB.code [1,1,0,1,0,0]) (cC (aB.k8 W Q QP) (cC (aB.k7 W Q QP) (Q))) QP s h=aB.k9 W Q QP s h:=(aB.T1 W Q QP s h (aB.k7 W Q QP) (aB.k8 W Q QP))
theorem aB.o5:aw Pg 36 W aB.pl (Code.at aB.code [1,1,0,1,0]) (cC (aB.k7 W Q QP) (Q)) QP s h=aB.k9 W Q QP s h:=iP (a:=(Code.at aB.code [1,1,0,1,0,0])) (b:=(Code.at aB.code [1,1,0,1,0,1])) (by kernel_rfl) (aB.WE W Q QP) (aB.WD W Q QP s h)
def aB.t10(s:St)(h:AH)(C0 C1:KT):Prop:=
 aH (s.tm 14) (
 C1 s h) (
 C0 s h)
def aB.fF(W:Nat->Prop)(Q:c7)(QP:cL)(s:St)(h:AH):Prop:=aB.t10 s h (aB.k7 W Q QP) (aB.k9 W Q QP)
theorem aB.PN(C0 C1:KT):aH (l8 s (.tmp 14)) (C1 s h) (aw Pg 36 W aB.pl (Code.at aB.code [1,1,0,1,1]) (cC (C0) (Q)) QP s h)=aB.t10 s h C0 C1:=by kernel_rfl
theorem aB.T9:aw Pg 36 W aB.pl (Code.at aB.code [1,1,0,1]) (cC (aB.k7 W Q QP) (Q)) QP s h=aB.fF W Q QP s h:=rh (a:=(Code.at aB.code [1,1,0,1,0])) (b:=(Code.at aB.code [1,1,0,1,1])) (by kernel_rfl) (aB.o5 W Q QP s h) rfl (aB.PN W Q QP s h (aB.k7 W Q QP) (aB.k9 W Q QP))
def aB.t11(s:St)(h:AH)(C0 C1:KT):Prop:=
 al (some false) (some 1) (s.tm 4) h fun t28 _=>
 ah Pg .neq 30 true t28 (.sc (.int .i64 0)) fun t30=>
 C0 ⟨aA s.tm [(13,t28),(14,t30)],s.ds⟩ h
def aB.iR(W:Nat->Prop)(Q:c7)(QP:cL)(s:St)(h:AH):Prop:=aB.t11 s h (aB.fF W Q QP) (aB.k7 W Q QP)
theorem aB.PL(C0 C1:KT):aw Pg 36 W aB.pl (Code.at aB.code [1,1,0,0]) (cC (C0) (cC (C1) (Q))) QP s h=aB.t11 s h C0 C1:=by kernel_rfl
theorem aB.T7:aw Pg 36 W aB.pl (Code.at aB.code [1,1,0]) (cC (aB.k7 W Q QP) (Q)) QP s h=aB.iR W Q QP s h:=iP (a:=(Code.at aB.code [1,1,0,0])) (b:=(Code.at aB.code [1,1,0,1])) (by kernel_rfl) (aB.T9 W Q QP) (aB.PL W Q QP s h (aB.fF W Q QP) (aB.k7 W Q QP))
theorem aB.o6:aw Pg 36 W aB.pl (Code.at aB.code [1,1]) (Q) QP s h=aB.iR W Q QP s h:=iP (a:=(Code.at aB.code [1,1,0])) (b:=(Code.at aB.code [1,1,1])) (by kernel_rfl) (aB.WH W Q QP) (aB.T7 W Q QP s h)
def aB.t12(W:Nat->Prop)(QP:cL)(s:St)(h:AH)(C0:KT):Prop:=
 aC Pg W 44 [(s.tm 0)] h (fun t31 vN=>
 dm t31 0 fun t33=>
 dm t31 1 fun t34=>
 dm t31 2 fun t35=>
 aG (some 1) (s.tm 3) t34 vN W fun vM=>
 aG (some 1) (s.tm 4) t35 vM W fun sU=>
 C0 ⟨aA s.tm [(8,(s.tm 0)),(9,t31),(7,t31),(10,t33),(11,t34),(12,t35),(5,t33)],s.ds⟩ sU) (QP s.ds)
def aB.kQ(W:Nat->Prop)(Q:c7)(QP:cL)(s:St)(h:AH):Prop:=aB.t12 W QP s h (aB.iR W Q QP)
theorem aB.PJ(C0:KT):aw Pg 36 W aB.pl (Code.at aB.code [1,0]) (cC (C0) (Q)) QP s h=aB.t12 W QP s h C0:=by kernel_rfl
theorem aB.T6:aw Pg 36 W aB.pl (Code.at aB.code [1]) (Q) QP s h=aB.kQ W Q QP s h:=iP (a:=(Code.at aB.code [1,0])) (b:=(Code.at aB.code [1,1])) (by kernel_rfl) (aB.o6 W Q QP) (aB.PJ W Q QP s h (aB.iR W Q QP))
def aB.t13(s:St)(h:AH)(C0:KT):Prop:=
 bw (some [.slice none 0 0]) 1 22 h fun t38 vL=>
 bw (some [.int .i64 0]) 1 3 vL fun t40 yX=>
 bw (some [.int .i64 0]) 1 30 yX fun t42 Qu=>
 C0 ⟨aA s.tm [(2,t38),(3,t40),(4,t42)],s.ds⟩ Qu
def aB.nj(W:Nat->Prop)(Q:c7)(QP:cL)(s:St)(h:AH):Prop:=aB.t13 s h (aB.kQ W Q QP)
theorem aB.PI(C0:KT):aw Pg 36 W aB.pl (Code.at aB.code [0]) (cC (C0) (Q)) QP s h=aB.t13 s h C0:=by kernel_rfl
theorem aB.T5:aw Pg 36 W aB.pl (Code.at aB.code []) (Q) QP s h=aB.nj W Q QP s h:=iP (a:=(Code.at aB.code [0])) (b:=(Code.at aB.code [1])) (by kernel_rfl) (aB.T6 W Q QP) (aB.PI W Q QP s h (aB.kQ W Q QP))
end
theorem aB.calls{x0:AV}{h:AH}{M:Nat->Prop}{R:AE->AH->Prop}(hp:aB.nj (fun id=>M id\/h.next<=id) (dP Pg [.cell 2 22,.cell 3 3,.cell 4 30] R) (bT R) (s0 [x0]) h):aE Pg 24 [x0] h M R:=
 xF (c:=aB.code) Try.mixed Try.func24 (by kernel_rfl) (Nat.le_of_ble_eq_true rfl) aB.ok (by rw[show Try.f24.ntmps=36 from rfl,show Try.f24.results.toList=[.cell 2 22,.cell 3 3,.cell 4 30] from rfl];exact Eq.mpr (aB.T5 _ _ _ _ _) hp)
attribute [simp] aB.k1 aB.t1 aB.k2 aB.t2 aB.k3 aB.t3 aB.k4 aB.t4 aB.k5 aB.k6 aB.t6 aB.k7 aB.t7 aB.k8 aB.t8 aB.k9 aB.t9 aB.fF aB.t10 aB.iR aB.t11 aB.kQ aB.t12 aB.nj aB.t13
end
end Go.Proofs.Ytjehibknlmehmaa
