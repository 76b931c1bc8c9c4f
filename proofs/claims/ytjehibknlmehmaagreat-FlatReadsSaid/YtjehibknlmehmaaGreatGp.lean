/- Bodies of the reader; printed. No condition. -/
import Derived.Test.YtjehibknlmehmaaGreatGs
set_option maxRecDepth 100000
namespace Go.Proofs.YtjehibknlmehmaaGreat
section
open Go.Ab
namespace YB
def pl:dj:=[]
def k1:OK:=fun _ Q _ s h=>
Q .ret ⟨ag s.tm [(2,(.sc (.bool false)))],s.ds⟩ h
def k2:OK:=fun _ Q _ s h=>
Q .ret ⟨ag s.tm [(2,(.sc (.bool true)))],s.ds⟩ h
def k3:OK:=fun W Q QP s h=>
aF (s.tm 4) (
k2 W Q QP s h) (
k1 W Q QP s h)
def k4:OK:=fun W Q QP s h=>
aF (s.tm 4) (
k3 W Q QP s h) (
ai Pg .eql 9 true (s.tm 3) (.sc (.string ⟨#[114,101,115,101,116]⟩)) fun t1=>
k3 W Q QP ⟨ag s.tm [(11,t1),(4,t1)],s.ds⟩ h)
def k5:OK:=fun W Q QP s h=>
ai Pg .eql 9 true (s.tm 3) (.sc (.string ⟨#[109,101,97,115,117,114,101]⟩)) fun t2=>
k4 W Q QP ⟨ag s.tm [(10,t2),(4,t2)],s.ds⟩ h
def k6:OK:=fun W Q QP s h=>
aF (s.tm 4) (
k3 W Q QP s h) (
k5 W Q QP s h)
def k7:OK:=fun W Q QP s h=>
ai Pg .eql 9 true (s.tm 3) (.sc (.string ⟨#[105,102]⟩)) fun t3=>
k6 W Q QP ⟨ag s.tm [(9,t3),(4,t3)],s.ds⟩ h
def k8:OK:=fun W Q QP s h=>
aF (s.tm 4) (
k3 W Q QP s h) (
k7 W Q QP s h)
def k9:OK:=fun W Q QP s h=>
ai Pg .eql 9 true (s.tm 3) (.sc (.string ⟨#[114,101,112,101,97,116]⟩)) fun t4=>
k8 W Q QP ⟨ag s.tm [(8,t4),(4,t4)],s.ds⟩ h
def cZ:OK:=fun W Q QP s h=>
aF (s.tm 4) (
k3 W Q QP s h) (
k9 W Q QP s h)
def dB:OK:=fun W Q QP s h=>
ai Pg .eql 9 true (s.tm 3) (.sc (.string ⟨#[103,97,116,101]⟩)) fun t5=>
cZ W Q QP ⟨ag s.tm [(7,t5),(4,t5)],s.ds⟩ h
def eU:OK:=fun W Q QP s h=>
aF (s.tm 4) (
k3 W Q QP s h) (
dB W Q QP s h)
def fi:OK:=fun W Q QP s h=>
ai Pg .eql 9 true (s.tm 3) (.sc (.string ⟨#[98,105,116,115]⟩)) fun t6=>
eU W Q QP ⟨ag s.tm [(6,t6),(4,t6)],s.ds⟩ h
def ir:OK:=fun W Q QP s h=>
aF (s.tm 4) (
k3 W Q QP s h) (
fi W Q QP s h)
def iq:OK:=fun W Q QP s h=>
ai Pg .eql 9 true (s.tm 3) (.sc (.string ⟨#[113,117,98,105,116,115]⟩)) fun t7=>
ir W Q QP ⟨ag s.tm [(5,t7),(4,t7)],s.ds⟩ h
def hH:OK:=fun W Q QP s h=>
iq W Q QP ⟨ag s.tm [(3,(s.tm 0))],s.ds⟩ h
def jA:OK:=fun W Q QP s h=>
hH W Q QP ⟨ag s.tm [(2,(.sc (.bool false)))],s.ds⟩ h
theorem calls{x0:AV}{h:AH}{M:WK}{R:RK}(hp:jA (fun id=>M id\/h.next<=id) (bQ Pg [.tmp 2] R) (aW R) (s0 [x0]) h):aA Pg 82 [x0] h M R:=
 kb (n:=12) (pl:=pl) jA Tryz.mixed Tryz.func82 (fun W Q QP=>
(sq (jA W Q QP)
(sn
(sl (k1 W Q QP))
(sq (hH W Q QP)
(bk 0 (sn
(cd (k3 W Q QP) (sl (k2 W Q QP)) tr)
(sq (iq W Q QP)
(cd (ir W Q QP) tr (sq (fi W Q QP)
(cd (eU W Q QP) tr (sq (dB W Q QP)
(cd (cZ W Q QP) tr (sq (k9 W Q QP)
(cd (k8 W Q QP) tr (sq (k7 W Q QP)
(cd (k6 W Q QP) tr (sq (k5 W Q QP)
(cd (k4 W Q QP) tr tr)))))))))))))))))) hp
attribute [simp] k1 k2 k3 k4 k5 k6 k7 k8 k9 cZ dB eU fi ir iq hH jA
end YB
namespace YC
def pl:dj:=[(1,⟨[(none,(fr 0 11)),(some (10,true),(fr 11 12)),(none,(fr 23 2)),(some (24,true),(fr 25 13)),(none,(fr 38 2))],false,[],[]⟩)]
def k1:OK:=fun _ Q _ s h=>
Q .ret s h
def k2:OK:=fun W Q QP s h=>
aO (s.tm 29) (s.tm 42) (.sc (.bool false)) fun t1=>
k1 W Q QP ⟨ag s.tm [(43,t1),(4,t1)],s.ds⟩ h
def k3:OK:=fun W Q QP s h=>
bw true (s.tm 29) (
aH (s.tm 0) fun t2=>
ah (some 0) t2 fun t3=>
ao (some false) (some 1) t3 h fun t4 _=>
aH (s.tm 0) fun t6=>
ah (some 1) t6 fun t7=>
ao (some false) (some 1) t7 h fun t8 _=>
bB (some (3,none)) t4 t8 fun t10=>
ah (some 1) t10 fun t11=>
ao (some false) (some 1) t11 h fun t12 _=>
ai Pg .eql 9 false t12 (s.tm 1) fun t14=>
k2 W Q QP ⟨ag s.tm [(30,(s.tm 0)),(31,t2),(32,t3),(33,t4),(34,(s.tm 0)),(35,t6),(36,t7),(37,t8),(38,t10),(39,t11),(40,t12),(41,(s.tm 1)),(42,t14)],s.ds⟩ h) (
k2 W Q QP ⟨ag s.tm [(30,ab),(31,ab),(32,ab),(33,ab),(34,ab),(35,ab),(36,ab),(37,ab),(38,ab),(39,ab),(40,ab),(41,ab),(42,ab)],s.ds⟩ h)
def k4:OK:=fun W Q QP s h=>
aO (s.tm 15) (s.tm 27) (.sc (.bool false)) fun t15=>
k3 W Q QP ⟨ag s.tm [(28,t15),(29,t15)],s.ds⟩ h
def k5:OK:=fun W Q QP s h=>
bw true (s.tm 15) (
aH (s.tm 0) fun t16=>
ah (some 0) t16 fun t17=>
ao (some false) (some 1) t17 h fun t18 _=>
aH (s.tm 0) fun t20=>
ah (some 1) t20 fun t21=>
ao (some false) (some 1) t21 h fun t22 _=>
bB (some (3,none)) t18 t22 fun t24=>
ah (some 0) t24 fun t25=>
ao (some false) (some 1) t25 h fun t26 _=>
ai Pg .eql 3 true t26 (.sc (.int .i64 3)) fun t28=>
k4 W Q QP ⟨ag s.tm [(16,(s.tm 0)),(17,t16),(18,t17),(19,t18),(20,(s.tm 0)),(21,t20),(22,t21),(23,t22),(24,t24),(25,t25),(26,t26),(27,t28)],s.ds⟩ h) (
k4 W Q QP ⟨ag s.tm [(16,ab),(17,ab),(18,ab),(19,ab),(20,ab),(21,ab),(22,ab),(23,ab),(24,ab),(25,ab),(26,ab),(27,ab)],s.ds⟩ h)
def k6:OK:=fun W Q QP s h=>
aH (s.tm 0) fun t29=>
ah (some 1) t29 fun t30=>
ao (some false) (some 1) t30 h fun t31 _=>
aH (s.tm 0) fun t33=>
ah (some 0) t33 fun t34=>
ao (some false) (some 1) t34 h fun t35 _=>
(aY t35=false)/\bL t35 fun t37=>
ai Pg .lss 3 false t31 t37 fun t38=>
k5 W Q QP ⟨ag s.tm [(5,(s.tm 0)),(6,t29),(7,t30),(8,t31),(9,(s.tm 0)),(10,t33),(11,t34),(12,t35),(13,t37),(14,t38),(15,t38)],s.ds⟩ h
def k7:OK:=fun W Q QP s h=>
k6 W Q QP ⟨ag s.tm [(4,(.sc (.bool false)))],s.ds⟩ h
theorem calls{x0 x1:AV}{h:AH}{M:WK}{R:RK}(hp:k7 (fun id=>M id\/h.next<=id) (bQ Pg [.tmp 4] R) (aW R) (s0 [x0,x1]) h):aA Pg 81 [x0,x1] h M R:=
 kb (n:=44) (pl:=pl) k7 Tryz.mixed Tryz.func81 (fun W Q QP=>
(sq (k7 W Q QP)
(sn
(sm (k1 W Q QP))
(gr (gn (k6 W Q QP) (gx (k5 W Q QP) (gn (k4 W Q QP) (gx (k3 W Q QP) (gl (k2 W Q QP)))))))))) hp
attribute [simp] k1 k2 k3 k4 k5 k6 k7
end YC
namespace YG
def pl:dj:=[(1,⟨[(none,(fr 0 11)),(some (10,true),(fr 11 12)),(none,(fr 23 2)),(some (24,true),(fr 25 13)),(none,(fr 38 2))],false,[],[]⟩)]
def k1:OK:=fun _ Q _ s h=>
Q .ret s h
def k2:OK:=fun W Q QP s h=>
aO (s.tm 27) (s.tm 40) (.sc (.bool false)) fun t1=>
k1 W Q QP ⟨ag s.tm [(41,t1),(2,t1)],s.ds⟩ h
def k3:OK:=fun W Q QP s h=>
bw true (s.tm 27) (
aH (s.tm 0) fun t2=>
ah (some 0) t2 fun t3=>
ao (some false) (some 1) t3 h fun t4 _=>
aH (s.tm 0) fun t6=>
ah (some 1) t6 fun t7=>
ao (some false) (some 1) t7 h fun t8 _=>
bB (some (3,none)) t4 t8 fun t10=>
ah (some 1) t10 fun t11=>
ao (some false) (some 1) t11 h fun t12 _=>
aq Pg W 82 [t12] h (fun t14 qf=>
iH .not t14 fun t16=>
k2 W Q QP ⟨ag s.tm [(28,(s.tm 0)),(29,t2),(30,t3),(31,t4),(32,(s.tm 0)),(33,t6),(34,t7),(35,t8),(36,t10),(37,t11),(38,t12),(39,t14),(40,t16)],s.ds⟩ qf) (QP s.ds)) (
k2 W Q QP ⟨ag s.tm [(28,ab),(29,ab),(30,ab),(31,ab),(32,ab),(33,ab),(34,ab),(35,ab),(36,ab),(37,ab),(38,ab),(39,ab),(40,ab)],s.ds⟩ h)
def k4:OK:=fun W Q QP s h=>
aO (s.tm 13) (s.tm 25) (.sc (.bool false)) fun t17=>
k3 W Q QP ⟨ag s.tm [(26,t17),(27,t17)],s.ds⟩ h
def k5:OK:=fun W Q QP s h=>
bw true (s.tm 13) (
aH (s.tm 0) fun t18=>
ah (some 0) t18 fun t19=>
ao (some false) (some 1) t19 h fun t20 _=>
aH (s.tm 0) fun t22=>
ah (some 1) t22 fun t23=>
ao (some false) (some 1) t23 h fun t24 _=>
bB (some (3,none)) t20 t24 fun t26=>
ah (some 0) t26 fun t27=>
ao (some false) (some 1) t27 h fun t28 _=>
ai Pg .eql 3 true t28 (.sc (.int .i64 1)) fun t30=>
k4 W Q QP ⟨ag s.tm [(14,(s.tm 0)),(15,t18),(16,t19),(17,t20),(18,(s.tm 0)),(19,t22),(20,t23),(21,t24),(22,t26),(23,t27),(24,t28),(25,t30)],s.ds⟩ h) (
k4 W Q QP ⟨ag s.tm [(14,ab),(15,ab),(16,ab),(17,ab),(18,ab),(19,ab),(20,ab),(21,ab),(22,ab),(23,ab),(24,ab),(25,ab)],s.ds⟩ h)
def k6:OK:=fun W Q QP s h=>
aH (s.tm 0) fun t31=>
ah (some 1) t31 fun t32=>
ao (some false) (some 1) t32 h fun t33 _=>
aH (s.tm 0) fun t35=>
ah (some 0) t35 fun t36=>
ao (some false) (some 1) t36 h fun t37 _=>
(aY t37=false)/\bL t37 fun t39=>
ai Pg .lss 3 false t33 t39 fun t40=>
k5 W Q QP ⟨ag s.tm [(3,(s.tm 0)),(4,t31),(5,t32),(6,t33),(7,(s.tm 0)),(8,t35),(9,t36),(10,t37),(11,t39),(12,t40),(13,t40)],s.ds⟩ h
def k7:OK:=fun W Q QP s h=>
k6 W Q QP ⟨ag s.tm [(2,(.sc (.bool false)))],s.ds⟩ h
theorem calls{x0:AV}{h:AH}{M:WK}{R:RK}(hp:k7 (fun id=>M id\/h.next<=id) (bQ Pg [.tmp 2] R) (aW R) (s0 [x0]) h):aA Pg 59 [x0] h M R:=
 kb (n:=42) (pl:=pl) k7 Tryz.mixed Tryz.func59 (fun W Q QP=>
(sq (k7 W Q QP)
(sn
(sm (k1 W Q QP))
(gr (gn (k6 W Q QP) (gx (k5 W Q QP) (gn (k4 W Q QP) (gx (k3 W Q QP) (gl (k2 W Q QP)))))))))) hp
attribute [simp] k1 k2 k3 k4 k5 k6 k7
end YG
namespace YJ
def pl:dj:=[(1,⟨[(none,(fr 0 10))],false,[],[]⟩),(3,⟨[(none,(fr 0 12))],false,[],[]⟩)]
def k1:OK:=fun W Q _ s h=>
ao (some true) (some 3) (s.tm 5) h fun t1 _=>
aD (some 3) (s.tm 4) t1 h W fun h3=>
Q .ret ⟨ag s.tm [(45,t1)],s.ds⟩ h3
def k2:OK:=fun W Q QP s h=>
aH (s.tm 0) fun t4=>
ah (some 1) t4 fun t5=>
ao (some false) (some 1) t5 h fun t6 _=>
ai Pg .add 3 true t6 (.sc (.int .i64 1)) fun t8=>
aH (s.tm 0) fun t9=>
ah (some 1) t9 fun t10=>
aD (some 1) t10 t8 h W fun mO=>
k1 W Q QP ⟨ag s.tm [(38,(s.tm 0)),(39,t4),(40,t5),(41,t6),(42,t8),(43,t9),(44,t10)],s.ds⟩ mO
def k3:OK:=fun W Q QP s h=>
aF (s.tm 33) (
ah (some 2) (s.tm 5) fun t12=>
ao (some false) (some 1) t12 h fun t13 _=>
cN (some ([.int .i64 0,.int .i64 0],.inl [(0,1),(1,1)])) [(0,t13),(1,(.sc (.int .i64 100)))] fun t15=>
sI (some false) 65 t15 fun t16=>
uB t16 h (QP s.ds)) (
k2 W Q QP s h)
def k4:OK:=fun W Q QP s h=>
iH .not (s.tm 1) fun t17=>
k3 W Q QP ⟨ag s.tm [(32,(s.tm 1)),(33,t17)],s.ds⟩ h
def k5:OK:=fun W Q QP s h=>
aH (s.tm 0) fun t18=>
ah (some 0) t18 fun t19=>
ao (some false) (some 1) t19 h fun t20 _=>
aH (s.tm 0) fun t22=>
ah (some 1) t22 fun t23=>
ao (some false) (some 1) t23 h fun t24 _=>
bB (some (3,none)) t20 t24 fun t26=>
ao (some true) (some 3) t26 h fun t27 _=>
bx (some [.int .i64 0,.string ⟨#[]⟩,.int .i64 0]) 3 84 h fun t29 wP=>
aD (some 3) t29 t27 wP W fun D7=>
k4 W Q QP ⟨ag s.tm [(22,(s.tm 0)),(23,t18),(24,t19),(25,t20),(26,(s.tm 0)),(27,t22),(28,t23),(29,t24),(30,t26),(31,t27),(5,t29)],s.ds⟩ D7
def k6:OK:=fun W Q QP s h=>
aF (s.tm 15) (
aH (s.tm 0) fun t32=>
ah (some 2) t32 fun t33=>
ao (some false) (some 1) t33 h fun t34 _=>
cN (some ([.int .i64 0,.int .i64 0],.inl [(0,1),(1,1)])) [(0,t34),(1,(.sc (.int .i64 101)))] fun t36=>
sI (some false) 65 t36 fun t37=>
uB t37 h (QP s.ds)) (
k5 W Q QP s h)
def k7:OK:=fun W Q QP s h=>
aH (s.tm 0) fun t38=>
ah (some 1) t38 fun t39=>
ao (some false) (some 1) t39 h fun t40 _=>
aH (s.tm 0) fun t42=>
ah (some 0) t42 fun t43=>
ao (some false) (some 1) t43 h fun t44 _=>
(aY t44=false)/\bL t44 fun t46=>
ai Pg .geq 3 false t40 t46 fun t47=>
k6 W Q QP ⟨ag s.tm [(6,(s.tm 0)),(7,t38),(8,t39),(9,t40),(10,(s.tm 0)),(11,t42),(12,t43),(13,t44),(14,t46),(15,t47)],s.ds⟩ h
def k8:OK:=fun W Q QP s h=>
bx (some [.int .i64 0,.string ⟨#[]⟩,.int .i64 0]) 3 84 h fun t48 wJ=>
k7 W Q QP ⟨ag s.tm [(4,t48)],s.ds⟩ wJ
theorem calls{x0 x1:AV}{h:AH}{M:WK}{R:RK}(hp:k8 (fun id=>M id\/h.next<=id) (bQ Pg [.cell 4 84] R) (aW R) (s0 [x0,x1]) h):aA Pg 55 [x0,x1] h M R:=
 kb (n:=46) (pl:=pl) k8 Tryz.mixed Tryz.func55 (fun W Q QP=>
(sq (k8 W Q QP)
(sn
(sq (k5 W Q QP)
(sn
(sq (k2 W Q QP)
(sl (k1 W Q QP)))
(sq (k4 W Q QP)
(cd (k3 W Q QP) tr tr))))
(sq (k7 W Q QP)
(cd (k6 W Q QP) tr tr))))) hp
attribute [simp] k1 k2 k3 k4 k5 k6 k7 k8
end YJ
namespace YH
def pl:dj:=[]
def k1:OK:=fun W Q QP s h=>
aq Pg W 81 [(s.tm 0),(s.tm 1)] h (fun t1 h2=>
aq Pg W 55 [(s.tm 0),t1] h2 (fun t3 h4=>
aD (some 3) (s.tm 4) t3 h4 W fun h5=>
Q .ret ⟨ag s.tm [(5,(s.tm 0)),(6,(s.tm 0)),(7,(s.tm 1)),(8,t1),(9,t3)],s.ds⟩ h5) (QP s.ds)) (QP s.ds)
def k2:OK:=fun W Q QP s h=>
bx (some [.int .i64 0,.string ⟨#[]⟩,.int .i64 0]) 3 84 h fun t6 h7=>
k1 W Q QP ⟨ag s.tm [(4,t6)],s.ds⟩ h7
theorem calls{x0 x1:AV}{h:AH}{M:WK}{R:RK}(hp:k2 (fun id=>M id\/h.next<=id) (bQ Pg [.cell 4 84] R) (aW R) (s0 [x0,x1]) h):aA Pg 58 [x0,x1] h M R:=
 kb (n:=10) (pl:=pl) k2 Tryz.mixed Tryz.func58 (fun W Q QP=>
(sq (k2 W Q QP)
(sl (k1 W Q QP)))) hp
attribute [simp] k1 k2
end YH
namespace YI
def pl:dj:=[]
def k1:OK:=fun W Q QP s h=>
aq Pg W 59 [(s.tm 0)] h (fun t1 h2=>
aq Pg W 55 [(s.tm 0),t1] h2 (fun t3 h4=>
m9 (some (1,1,false)) t3 fun t5=>
Q .ret ⟨ag s.tm [(3,(s.tm 0)),(4,(s.tm 0)),(5,t1),(6,t3),(7,t5),(2,t5)],s.ds⟩ h4) (QP s.ds)) (QP s.ds)
def k2:OK:=fun W Q QP s h=>
k1 W Q QP ⟨ag s.tm [(2,(.sc (.string ⟨#[]⟩)))],s.ds⟩ h
theorem calls{x0:AV}{h:AH}{M:WK}{R:RK}(hp:k2 (fun id=>M id\/h.next<=id) (bQ Pg [.tmp 2] R) (aW R) (s0 [x0]) h):aA Pg 56 [x0] h M R:=
 kb (n:=8) (pl:=pl) k2 Tryz.mixed Tryz.func56 (fun W Q QP=>
(sq (k2 W Q QP)
(sl (k1 W Q QP)))) hp
attribute [simp] k1 k2
end YI
namespace tp
section
variable (W:WK) (Q:cH) (QP:cb) (s:St) (h:AH)
noncomputable def code:Code:=Tryz.f57.body.getD .skip
def pl:dj:=[(1,⟨[(none,(fr 0 12)),(some (11,true),(fr 12 12)),(none,(fr 24 1))],false,[.mk (fr 25 3) [],.mk [(26,false),(25,false),(27,false)] []],[]⟩)]
def k1:OK:=fun _ Q _ s h=>
Q .ret ⟨ag s.tm [(51,(s.tm 4)),(2,(s.tm 4))],s.ds⟩ h
def k2:OK:=fun _ Q QP s h=>
aF (s.tm 46) (
ah (some 2) (s.tm 3) fun t1=>
ao (some false) (some 1) t1 h fun t2 _=>
cN (some ([.int .i64 0,.int .i64 0],.inl [(0,1),(1,1)])) [(0,t2),(1,(.sc (.int .i64 1)))] fun t4=>
sI (some false) 65 t4 fun t5=>
uB t5 h (QP s.ds)) (
Q .normal s h)
def k3:OK:=fun W Q QP s h=>
ai Pg .gtr 3 true (s.tm 4) (.sc (.int .i64 9007199254740991)) fun t6=>
k2 W Q QP ⟨ag s.tm [(45,(s.tm 4)),(46,t6)],s.ds⟩ h
def k4:OK:=fun W Q QP s h=>
ai Pg .mul 3 true (s.tm 4) (.sc (.int .i64 10)) fun t7=>
ai Pg .sub 21 true (s.tm 6) (.sc (.int .i32 48)) fun t8=>
ql (some .i64) t8 fun t9=>
ai Pg .add 3 false t7 t9 fun t10=>
k3 W Q QP ⟨ag s.tm [(39,(s.tm 4)),(40,t7),(41,(s.tm 6)),(42,t8),(43,t9),(44,t10),(4,t10)],s.ds⟩ h
def k5:OK:=fun W Q QP s h=>
cW (s.tm 36) 2 fun t11=>
k4 W Q QP ⟨ag s.tm [(38,t11),(6,t11)],s.ds⟩ h
def k6:OK:=fun W Q QP s h=>
aF (s.tm 37) (
k5 W Q QP s h) (
Q (.exit 0) s h)
def k7:OK:=fun W Q QP s h=>
t_ (s.tm 35) h W fun t12 Ic=>
cW t12 0 fun t14=>
k6 W Q QP ⟨ag s.tm [(36,t12),(37,t14)],s.ds⟩ Ic
noncomputable def c1:Code:=Code.at code [1,1,1,0,1,0,0]
theorem l1:aw Pg 52 W pl c1 Q QP s h=k7 W Q QP s h:=congrFun (congrFun (show TB ⟨Pg,52,pl⟩ W QP c1 Q (k7 W Q QP) from
(sq (k7 W Q QP)
(sn
(bk 1 (sq (k5 W Q QP)
(sq (k4 W Q QP)
(sq (k3 W Q QP)
(cd (k2 W Q QP) tr tr)))))
(cd (k6 W Q QP) tr tr)))) s) h
def k8:OK:=fun W Q QP s h=>hJ (aw Pg 52 W pl c1) (df 0 (bJ (k1 W Q QP) (Q))) QP s h
def k9:OK:=fun W Q QP s h=>
ah (some 1) (s.tm 3) fun t15=>
ao (some false) (some 1) t15 h fun t16 _=>
rk true t16 h fun t18 mM=>
k8 W Q QP ⟨ag s.tm [(33,t15),(34,t16),(35,t18)],s.ds⟩ mM
def cZ:OK:=fun W Q QP s h=>
k9 W Q QP ⟨ag s.tm [(4,(.sc (.int .i64 0)))],s.ds⟩ h
def dB:OK:=fun W Q QP s h=>
aH (s.tm 0) fun t20=>
ah (some 1) t20 fun t21=>
ao (some false) (some 1) t21 h fun t22 _=>
aH (s.tm 0) fun t24=>
ah (some 0) t24 fun t25=>
ao (some false) (some 1) t25 h fun t26 _=>
(aY t26=false)/\bL t26 fun t28=>
ai Pg .lss 3 false t22 t28 fun t29=>
bw true t29 (
aH (s.tm 0) fun t30=>
ah (some 0) t30 fun t31=>
ao (some false) (some 1) t31 h fun t32 _=>
aH (s.tm 0) fun t34=>
ah (some 1) t34 fun t35=>
ao (some false) (some 1) t35 h fun t36 _=>
bB (some (3,none)) t32 t36 fun t38=>
ah (some 0) t38 fun t39=>
ao (some false) (some 1) t39 h fun t40 _=>
ai Pg .eql 3 true t40 (.sc (.int .i64 2)) fun t42=>
aO t29 t42 (.sc (.bool false)) fun t43=>
(
aq Pg W 55 [(s.tm 0),t43] h (fun t44 rS=>
bx (some [.int .i64 0,.string ⟨#[]⟩,.int .i64 0]) 3 84 rS fun t46 wK=>
aD (some 3) t46 t44 wK W fun qa=>
cZ W Q QP ⟨ag s.tm [(7,(s.tm 0)),(8,(s.tm 0)),(9,t20),(10,t21),(11,t22),(12,(s.tm 0)),(13,t24),(14,t25),(15,t26),(16,t28),(17,t29),(18,t29),(19,(s.tm 0)),(20,t30),(21,t31),(22,t32),(23,(s.tm 0)),(24,t34),(25,t35),(26,t36),(27,t38),(28,t39),(29,t40),(30,t42),(31,t43),(32,t44),(3,t46)],s.ds⟩ qa) (QP s.ds))/\(
bx (some [.int .i64 0,.string ⟨#[]⟩,.int .i64 0]) 3 84 h fun t49 tV=>
aq Pg W 55 [(s.tm 0),t43] tV (fun t51 pb=>
aD (some 3) t49 t51 pb W fun tU=>
cZ W Q QP ⟨ag s.tm [(7,(s.tm 0)),(8,(s.tm 0)),(9,t20),(10,t21),(11,t22),(12,(s.tm 0)),(13,t24),(14,t25),(15,t26),(16,t28),(17,t29),(18,t29),(19,(s.tm 0)),(20,t30),(21,t31),(22,t32),(23,(s.tm 0)),(24,t34),(25,t35),(26,t36),(27,t38),(28,t39),(29,t40),(30,t42),(31,t43),(3,t49),(32,t51)],s.ds⟩ tU) (QP s.ds))/\True) (
aO t29 ab (.sc (.bool false)) fun t54=>
(
aq Pg W 55 [(s.tm 0),t54] h (fun t55 Gl=>
bx (some [.int .i64 0,.string ⟨#[]⟩,.int .i64 0]) 3 84 Gl fun t57 xZ=>
aD (some 3) t57 t55 xZ W fun xY=>
cZ W Q QP ⟨ag s.tm [(7,(s.tm 0)),(8,(s.tm 0)),(9,t20),(10,t21),(11,t22),(12,(s.tm 0)),(13,t24),(14,t25),(15,t26),(16,t28),(17,t29),(18,t29),(19,ab),(20,ab),(21,ab),(22,ab),(23,ab),(24,ab),(25,ab),(26,ab),(27,ab),(28,ab),(29,ab),(30,ab),(31,t54),(32,t55),(3,t57)],s.ds⟩ xY) (QP s.ds))/\(
bx (some [.int .i64 0,.string ⟨#[]⟩,.int .i64 0]) 3 84 h fun t60 Vj=>
aq Pg W 55 [(s.tm 0),t54] Vj (fun t62 Gk=>
aD (some 3) t60 t62 Gk W fun wI=>
cZ W Q QP ⟨ag s.tm [(7,(s.tm 0)),(8,(s.tm 0)),(9,t20),(10,t21),(11,t22),(12,(s.tm 0)),(13,t24),(14,t25),(15,t26),(16,t28),(17,t29),(18,t29),(19,ab),(20,ab),(21,ab),(22,ab),(23,ab),(24,ab),(25,ab),(26,ab),(27,ab),(28,ab),(29,ab),(30,ab),(31,t54),(3,t60),(32,t62)],s.ds⟩ wI) (QP s.ds))/\True)
def eU:OK:=fun W Q QP s h=>
dB W Q QP ⟨ag s.tm [(2,(.sc (.int .i64 0)))],s.ds⟩ h
end
theorem calls{x0:AV}{h:AH}{M:WK}{R:RK}(hp:eU (fun id=>M id\/h.next<=id) (bQ Pg [.tmp 2] R) (aW R) (s0 [x0]) h):aA Pg 57 [x0] h M R:=
 kb (n:=52) (pl:=pl) eU Tryz.mixed Tryz.func57 (fun W Q QP=>
(sq (eU W Q QP)
(sn
(sq (cZ W Q QP)
(sn
(sl (k1 W Q QP))
(sq (k9 W Q QP)
(bk 0 (lo (k8 W Q QP))))))
(sm (dB W Q QP))))) hp
attribute [simp] k1 k2 k3 k4 k5 k6 k7 k8 k9 cZ dB eU
end tp
namespace ry
def pl:dj:=[]
def k1:OK:=fun W Q _ s h=>
ao (some true) (some 2) (s.tm 3) h fun t1 _=>
aD (some 2) (s.tm 2) t1 h W fun h3=>
Q .ret ⟨ag s.tm [(21,t1)],s.ds⟩ h3
def k2:OK:=fun W Q QP s h=>
aq Pg W 58 [(s.tm 0),(.sc (.string ⟨#[93]⟩))] h (fun t4 h5=>
k1 W Q QP ⟨ag s.tm [(19,(s.tm 0)),(20,t4)],s.ds⟩ h5) (QP s.ds)
def k3:OK:=fun W Q QP s h=>
aq Pg W 57 [(s.tm 0)] h (fun t6 h7=>
ah (some 1) (s.tm 3) fun t8=>
aD (some 1) t8 t6 h7 W fun h9=>
k2 W Q QP ⟨ag s.tm [(16,(s.tm 0)),(17,t6),(18,t8)],s.ds⟩ h9) (QP s.ds)
def k4:OK:=fun W Q QP s h=>
aH (s.tm 0) fun t10=>
ah (some 1) t10 fun t11=>
ao (some false) (some 1) t11 h fun t12 _=>
ai Pg .add 3 true t12 (.sc (.int .i64 1)) fun t14=>
aH (s.tm 0) fun t15=>
ah (some 1) t15 fun t16=>
aD (some 1) t16 t14 h W fun nR=>
k3 W Q QP ⟨ag s.tm [(9,(s.tm 0)),(10,t10),(11,t11),(12,t12),(13,t14),(14,t15),(15,t16)],s.ds⟩ nR
def k5:OK:=fun W Q QP s h=>
aF (s.tm 8) (
k4 W Q QP s h) (
k1 W Q QP s h)
def k6:OK:=fun W Q QP s h=>
aq Pg W 81 [(s.tm 0),(.sc (.string ⟨#[91]⟩))] h (fun t18 mM=>
k5 W Q QP ⟨ag s.tm [(7,(s.tm 0)),(8,t18)],s.ds⟩ mM) (QP s.ds)
def k7:OK:=fun W Q QP s h=>
aq Pg W 56 [(s.tm 0)] h (fun t20 qe=>
cN (some ([.string ⟨#[]⟩,.int .i64 0],.inl [(0,1),(1,1)])) [(0,t20),(1,(.sc (.int .i64 (-1))))] fun t22=>
bx (some [.string ⟨#[]⟩,.int .i64 0]) 2 92 qe fun t23 tY=>
aD (some 2) t23 t22 tY W fun nQ=>
k6 W Q QP ⟨ag s.tm [(4,(s.tm 0)),(5,t20),(6,t22),(3,t23)],s.ds⟩ nQ) (QP s.ds)
def k8:OK:=fun W Q QP s h=>
bx (some [.string ⟨#[]⟩,.int .i64 0]) 2 92 h fun t26 qd=>
k7 W Q QP ⟨ag s.tm [(2,t26)],s.ds⟩ qd
theorem calls{x0:AV}{h:AH}{M:WK}{R:RK}(hp:k8 (fun id=>M id\/h.next<=id) (bQ Pg [.cell 2 92] R) (aW R) (s0 [x0]) h):aA Pg 61 [x0] h M R:=
 kb (n:=22) (pl:=pl) k8 Tryz.mixed Tryz.func61 (fun W Q QP=>
(sq (k8 W Q QP)
(sq (k7 W Q QP)
(sn
(sl (k1 W Q QP))
(sq (k6 W Q QP)
(cd (k5 W Q QP) (sq (k4 W Q QP)
(sq (k3 W Q QP)
(sm (k2 W Q QP)))) tr)))))) hp
attribute [simp] k1 k2 k3 k4 k5 k6 k7 k8
end ry
namespace tn
section
variable (W:WK) (Q:cH) (QP:cb) (s:St) (h:AH)
noncomputable def code:Code:=Tryz.f60.body.getD .skip
def pl:dj:=[]
def k1:OK:=fun _ Q _ s h=>
aH (s.tm 0) fun t1=>
ah (some 3) t1 fun t2=>
ao (some false) (some 1) t2 h fun t3 _=>
(aY t3=false)/\bL t3 fun t5=>
ai Pg .sub 3 false t5 (s.tm 6) fun t6=>
Q .ret ⟨ag s.tm [(33,(s.tm 0)),(34,t1),(35,t2),(36,t3),(37,t5),(38,(s.tm 6)),(39,t6),(4,t6)],s.ds⟩ h
def k2:OK:=fun W Q QP s h=>
aH (s.tm 0) fun t7=>
ah (some 1) t7 fun t8=>
ao (some false) (some 1) t8 h fun t9 _=>
ai Pg .add 3 true t9 (.sc (.int .i64 1)) fun t11=>
aH (s.tm 0) fun t12=>
ah (some 1) t12 fun t13=>
aD (some 1) t13 t11 h W fun z6=>
k1 W Q QP ⟨ag s.tm [(26,(s.tm 0)),(27,t7),(28,t8),(29,t9),(30,t11),(31,t12),(32,t13)],s.ds⟩ z6
def k3:OK:=fun W Q QP s h=>
aq Pg W 21 [(s.tm 0),(s.tm 1)] h (fun t15 rW=>
Q .normal ⟨ag s.tm [(23,(s.tm 0)),(24,(s.tm 1)),(25,t15)],s.ds⟩ rW) (QP s.ds)
def k4:OK:=fun W Q QP s h=>
aF (s.tm 22) (
k3 W Q QP s h) (
Q (.exit 0) s h)
def k5:OK:=fun W Q QP s h=>
aq Pg W 81 [(s.tm 0),(.sc (.string ⟨#[125]⟩))] h (fun t17 rV=>
iH .not t17 fun t19=>
k4 W Q QP ⟨ag s.tm [(20,(s.tm 0)),(21,t17),(22,t19)],s.ds⟩ rV) (QP s.ds)
noncomputable def c1:Code:=Code.at code [1,1,1,1,0,0,0]
theorem l1:aw Pg 40 W pl c1 Q QP s h=k5 W Q QP s h:=congrFun (congrFun (show TB ⟨Pg,40,pl⟩ W QP c1 Q (k5 W Q QP) from
(sn
(bk 1 (sm (k3 W Q QP)))
(sq (k5 W Q QP)
(cd (k4 W Q QP) tr tr)))) s) h
def k6:OK:=fun W Q QP s h=>hJ (aw Pg 40 W pl c1) (df 0 (bJ (k2 W Q QP) (Q))) QP s h
def k7:OK:=fun W Q QP s h=>
aH (s.tm 0) fun t20=>
ah (some 3) t20 fun t21=>
ao (some false) (some 1) t21 h fun t22 _=>
(aY t22=false)/\bL t22 fun t24=>
k6 W Q QP ⟨ag s.tm [(15,(s.tm 0)),(16,t20),(17,t21),(18,t22),(19,t24),(6,t24)],s.ds⟩ h
def k8:OK:=fun W Q QP s h=>
aF (s.tm 10) (
ah (some 2) (s.tm 5) fun t25=>
ao (some false) (some 1) t25 h fun t26 _=>
cN (some ([.int .i64 0,.int .i64 0],.inl [(0,1),(1,1)])) [(0,t26),(1,(.sc (.int .i64 102)))] fun t28=>
sI (some false) 65 t28 fun t29=>
uB t29 h (QP s.ds)) (
k7 W Q QP s h)
def k9:OK:=fun W Q QP s h=>
ai Pg .gtr 3 true (s.tm 1) (.sc (.int .i64 32)) fun t30=>
k8 W Q QP ⟨ag s.tm [(9,(s.tm 1)),(10,t30)],s.ds⟩ h
def cZ:OK:=fun W Q QP s h=>
aq Pg W 58 [(s.tm 0),(.sc (.string ⟨#[123]⟩))] h (fun t31 wO=>
bx (some [.int .i64 0,.string ⟨#[]⟩,.int .i64 0]) 3 84 wO fun t33 D6=>
aD (some 3) t33 t31 D6 W fun kK=>
k9 W Q QP ⟨ag s.tm [(7,(s.tm 0)),(8,t31),(5,t33)],s.ds⟩ kK) (QP s.ds)
def dB:OK:=fun W Q QP s h=>
cZ W Q QP ⟨ag s.tm [(4,(.sc (.int .i64 0)))],s.ds⟩ h
end
theorem calls{x0 x1:AV}{h:AH}{M:WK}{R:RK}(hp:dB (fun id=>M id\/h.next<=id) (bQ Pg [.tmp 4] R) (aW R) (s0 [x0,x1]) h):aA Pg 60 [x0,x1] h M R:=
 kb (n:=40) (pl:=pl) dB Tryz.mixed Tryz.func60 (fun W Q QP=>
(sq (dB W Q QP)
(sq (cZ W Q QP)
(sn
(sq (k7 W Q QP)
(sn
(sq (k2 W Q QP)
(sl (k1 W Q QP)))
(bk 0 (lo (k6 W Q QP)))))
(sq (k9 W Q QP)
(cd (k8 W Q QP) tr tr)))))) hp
attribute [simp] k1 k2 k3 k4 k5 k6 k7 k8 k9 cZ dB
end tn
namespace dN
section
variable (W:WK) (Q:cH) (QP:cb) (s:St) (h:AH)
noncomputable def code:Code:=Tryz.f21.body.getD .skip
def pl:dj:=[(0,⟨[(none,(fr 0 12)),(some (11,true),(fr 12 12)),(none,(fr 24 1))],false,[.mk (fr 25 3) [],.mk [(26,false),(25,false),(27,false)] []],[]⟩),(3,⟨[(none,(fr 0 11))],false,[],[]⟩),(5,⟨[(none,[(0,false),(1,true),(2,false),(3,false),(4,false),(5,false)])],true,[],[]⟩),(7,⟨[(none,[(0,false),(1,true),(2,false),(3,false),(4,false),(5,false),(6,false),(7,false)])],true,[],[]⟩),(17,⟨[(none,[(0,false),(1,true),(2,false),(3,false),(4,false),(5,false),(6,false),(7,false),(8,false)])],true,[],[]⟩),(27,⟨[(none,[(0,false),(1,true),(2,false),(4,false),(3,false),(5,false),(6,false),(7,false),(8,false),(9,false)])],true,[],[]⟩),(30,⟨[(none,[(0,false),(1,true),(2,false),(3,false),(4,false),(5,false),(6,false),(7,false)])],true,[],[]⟩),(32,⟨[(none,(fr 0 8))],false,[],[]⟩)]
def k1:OK:=fun W Q _ s h=>
aH (s.tm 0) fun t1=>
ah (some 3) t1 fun t2=>
ao (some false) (some 1) t2 h fun t3 _=>
ao (some true) (some 6) (s.tm 5) h fun t5 _=>
bB (some (6,none)) t3 (s.tm 6) fun t7=>
aD (some 6) t7 t5 h W fun h8=>
Q .normal ⟨ag s.tm [(148,(s.tm 0)),(149,t1),(150,t2),(151,t3),(152,(s.tm 6)),(153,t5),(154,t7)],s.ds⟩ h8
def k2:OK:=fun W Q QP s h=>
aq Pg W 58 [(s.tm 0),(.sc (.string ⟨#[59]⟩))] h (fun t9 mP=>
k1 W Q QP ⟨ag s.tm [(79,(s.tm 0)),(80,t9)],s.ds⟩ mP) (QP s.ds)
def k3:OK:=fun W Q QP s h=>
aq Pg W 57 [(s.tm 0)] h (fun t11 rX=>
ah (some 3) (s.tm 5) fun t13=>
aD (some 1) t13 t11 rX W fun z6=>
k2 W Q QP ⟨ag s.tm [(76,(s.tm 0)),(77,t11),(78,t13)],s.ds⟩ z6) (QP s.ds)
def k4:OK:=fun W Q QP s h=>
aq Pg W 56 [(s.tm 0)] h (fun t15 rW=>
ah (some 1) (s.tm 5) fun t17=>
aD (some 1) t17 t15 rW W fun rV=>
k3 W Q QP ⟨ag s.tm [(73,(s.tm 0)),(74,t15),(75,t17)],s.ds⟩ rV) (QP s.ds)
def k5:OK:=fun W Q QP s h=>
ai Pg .add 3 true (s.tm 1) (.sc (.int .i64 1)) fun t19=>
aq Pg W 60 [(s.tm 0),t19] h (fun t20 qe=>
ah (some 4) (s.tm 5) fun t22=>
aD (some 1) t22 t20 qe W fun wQ=>
k1 W Q QP ⟨ag s.tm [(96,(s.tm 0)),(97,(s.tm 1)),(98,t19),(99,t20),(100,t22)],s.ds⟩ wQ) (QP s.ds)
def k6:OK:=fun W Q QP s h=>
∃Hd:Nat->Nat,(∀i∈[1],h.obj (Hd i)≠none)/\(
ah (some 2) (s.tm 5) fun t24=>
ao (some false) (some 1) t24 h fun t25 i26=>
(i26=Hd 1)/\(
aq Pg (iZ W Hd [1]) 56 [(s.tm 0)] h (fun t27 qc=>
cN (some ([.string ⟨#[]⟩,.int .i64 0],.inl [(0,1),(1,1)])) [(0,t27),(1,(.sc (.int .i64 (-1))))] fun t29=>
dG (some (2,92,[.string ⟨#[]⟩,.int .i64 0])) 1 [(0,t29)] qc fun t30 D7=>
fE (some (2,24,92)) t25 t30 D7 W fun t32 uZ=>
ah (some 2) (s.tm 5) fun t34=>
aD (some 1) t34 t32 uZ W fun kK=>
Q .normal ⟨ag s.tm [(88,t24),(89,t25),(90,(s.tm 0)),(91,t27),(92,t29),(93,t30),(94,t32),(95,t34)],s.ds⟩ kK) (QP s.ds)))
def k7:OK:=fun W Q QP s h=>
aF (s.tm 87) (
k6 W Q QP s h) (
Q (.exit 3) s h)
def k8:OK:=fun W Q QP s h=>
aq Pg W 59 [(s.tm 0)] h (fun t36 tX=>
k7 W Q QP ⟨ag s.tm [(86,(s.tm 0)),(87,t36)],s.ds⟩ tX) (QP s.ds)
noncomputable def c1:Code:=Code.at code [1,1,1,1,0,1,0,1,1,1,0,1,0,0,0]
theorem l1:aw Pg 155 W pl c1 Q QP s h=k8 W Q QP s h:=congrFun (congrFun (show TB ⟨Pg,155,pl⟩ W QP c1 Q (k8 W Q QP) from
(sn
(bk 4 (sm (k6 W Q QP)))
(sq (k8 W Q QP)
(cd (k7 W Q QP) tr tr)))) s) h
def k9:OK:=fun W Q QP s h=>hJ (aw Pg 155 W pl c1) (df 3 (bJ (k5 W Q QP) (df 0 (bJ (k1 W Q QP) (Q))))) QP s h
def cZ:OK:=fun W Q QP s h=>
aq Pg W 56 [(s.tm 0)] h (fun t38 tW=>
ah (some 1) (s.tm 5) fun t40=>
aD (some 1) t40 t38 tW W fun wM=>
k9 W Q QP ⟨ag s.tm [(83,(s.tm 0)),(84,t38),(85,t40)],s.ds⟩ wM) (QP s.ds)
def dB:OK:=fun W Q QP s h=>
ai Pg .add 3 true (s.tm 1) (.sc (.int .i64 1)) fun t42=>
aq Pg W 60 [(s.tm 0),t42] h (fun t43 wL=>
ah (some 4) (s.tm 5) fun t45=>
aD (some 1) t45 t43 wL W fun zu=>
k1 W Q QP ⟨ag s.tm [(106,(s.tm 0)),(107,(s.tm 1)),(108,t42),(109,t43),(110,t45)],s.ds⟩ zu) (QP s.ds)
def eU:OK:=fun W Q QP s h=>
aq Pg W 57 [(s.tm 0)] h (fun t47 qa=>
ah (some 3) (s.tm 5) fun t49=>
aD (some 1) t49 t47 qa W fun tV=>
dB W Q QP ⟨ag s.tm [(103,(s.tm 0)),(104,t47),(105,t49)],s.ds⟩ tV) (QP s.ds)
def fi:OK:=fun W Q QP s h=>
ai Pg .add 3 true (s.tm 1) (.sc (.int .i64 1)) fun t51=>
aq Pg W 60 [(s.tm 0),t51] h (fun t52 tU=>
ah (some 4) (s.tm 5) fun t54=>
aD (some 1) t54 t52 tU W fun sR=>
k1 W Q QP ⟨ag s.tm [(119,(s.tm 0)),(120,(s.tm 1)),(121,t51),(122,t52),(123,t54)],s.ds⟩ sR) (QP s.ds)
def ir:OK:=fun W Q QP s h=>
aq Pg W 57 [(s.tm 0)] h (fun t56 tT=>
ah (some 3) (s.tm 5) fun t58=>
aD (some 1) t58 t56 tT W fun xY=>
fi W Q QP ⟨ag s.tm [(116,(s.tm 0)),(117,t56),(118,t58)],s.ds⟩ xY) (QP s.ds)
def iq:OK:=fun W Q QP s h=>
aq Pg W 56 [(s.tm 0)] h (fun t60 Vj=>
ah (some 1) (s.tm 5) fun t62=>
aD (some 1) t62 t60 Vj W fun Gk=>
ir W Q QP ⟨ag s.tm [(113,(s.tm 0)),(114,t60),(115,t62)],s.ds⟩ Gk) (QP s.ds)
def hH:OK:=fun W Q QP s h=>
aq Pg W 58 [(s.tm 0),(.sc (.string ⟨#[59]⟩))] h (fun t64 Gj=>
k1 W Q QP ⟨ag s.tm [(135,(s.tm 0)),(136,t64)],s.ds⟩ Gj) (QP s.ds)
def jA:OK:=fun W Q QP s h=>
∃Hd:Nat->Nat,(∀i∈[1],h.obj (Hd i)≠none)/\(
ah (some 2) (s.tm 5) fun t66=>
ao (some false) (some 1) t66 h fun t67 i68=>
(i68=Hd 1)/\(
aq Pg (iZ W Hd [1]) 61 [(s.tm 0)] h (fun t69 xX=>
aq Pg (iZ W Hd [1]) 61 [(s.tm 0)] xX (fun t71 Gf=>
dG (some (2,92,[.string ⟨#[]⟩,.int .i64 0,.string ⟨#[]⟩,.int .i64 0])) 2 [(0,t69),(1,t71)] Gf fun t73 Cc=>
fE (some (2,24,92)) t67 t73 Cc W fun t75 Ge=>
ah (some 2) (s.tm 5) fun t77=>
aD (some 1) t77 t75 Ge W fun Cb=>
hH W Q QP ⟨ag s.tm [(126,t66),(127,t67),(128,(s.tm 0)),(130,(s.tm 0)),(129,t69),(131,t71),(132,t73),(133,t75),(134,t77)],s.ds⟩ Cb) (QP s.ds)) (QP s.ds)))
def lx:OK:=fun W Q QP s h=>
aq Pg W 58 [(s.tm 0),(.sc (.string ⟨#[59]⟩))] h (fun t79 xW=>
k1 W Q QP ⟨ag s.tm [(146,(s.tm 0)),(147,t79)],s.ds⟩ xW) (QP s.ds)
def ml:OK:=fun W Q QP s h=>
∃Hd:Nat->Nat,(∀i∈[1],h.obj (Hd i)≠none)/\(
ah (some 2) (s.tm 5) fun t81=>
ao (some false) (some 1) t81 h fun t82 i83=>
(i83=Hd 1)/\(
aq Pg (iZ W Hd [1]) 61 [(s.tm 0)] h (fun t84 ri=>
dG (some (2,92,[.string ⟨#[]⟩,.int .i64 0])) 1 [(0,t84)] ri fun t86 Ca=>
fE (some (2,24,92)) t82 t86 Ca W fun t88 LB=>
ah (some 2) (s.tm 5) fun t90=>
aD (some 1) t90 t88 LB W fun h91=>
lx W Q QP ⟨ag s.tm [(139,t81),(140,t82),(141,(s.tm 0)),(142,t84),(143,t86),(144,t88),(145,t90)],s.ds⟩ h91) (QP s.ds)))
def lP:OK:=fun W Q QP s h=>
aq Pg W 58 [(s.tm 0),(.sc (.string ⟨#[59]⟩))] h (fun t92 h93=>
k1 W Q QP ⟨ag s.tm [(68,(s.tm 0)),(69,t92)],s.ds⟩ h93) (QP s.ds)
def nf:OK:=fun W Q QP s h=>
∃Hd:Nat->Nat,(∀i∈[1],h.obj (Hd i)≠none)/\(
ah (some 2) (s.tm 5) fun t94=>
ao (some false) (some 1) t94 h fun t95 i96=>
(i96=Hd 1)/\(
aq Pg (iZ W Hd [1]) 61 [(s.tm 0)] h (fun t97 Ga=>
dG (some (2,92,[.string ⟨#[]⟩,.int .i64 0])) 1 [(0,t97)] Ga fun t99 Oj=>
fE (some (2,24,92)) t95 t99 Oj W fun t101 Oi=>
ah (some 2) (s.tm 5) fun t103=>
aD (some 1) t103 t101 Oi W fun Oh=>
Q .normal ⟨ag s.tm [(61,t94),(62,t95),(63,(s.tm 0)),(64,t97),(65,t99),(66,t101),(67,t103)],s.ds⟩ Oh) (QP s.ds)))
def kV:OK:=fun W Q QP s h=>
aF (s.tm 60) (
nf W Q QP s h) (
Q (.exit 1) s h)
def mj:OK:=fun W Q QP s h=>
aq Pg W 59 [(s.tm 0)] h (fun t105 Gu=>
kV W Q QP ⟨ag s.tm [(59,(s.tm 0)),(60,t105)],s.ds⟩ Gu) (QP s.ds)
noncomputable def c2:Code:=Code.at code [1,1,1,1,0,1,0,1,1,1,1,1,1,1,1,1,1,1,1,1,0,0,0]
theorem l2:aw Pg 155 W pl c2 Q QP s h=mj W Q QP s h:=congrFun (congrFun (show TB ⟨Pg,155,pl⟩ W QP c2 Q (mj W Q QP) from
(sn
(bk 2 (sm (nf W Q QP)))
(sq (mj W Q QP)
(cd (kV W Q QP) tr tr)))) s) h
def mI:OK:=fun W Q QP s h=>hJ (aw Pg 155 W pl c2) (df 1 (bJ (lP W Q QP) (df 0 (bJ (k1 W Q QP) (Q))))) QP s h
def pB:OK:=fun W Q QP s h=>
∃Hd:Nat->Nat,(∀i∈[1],h.obj (Hd i)≠none)/\(
ah (some 1) (s.tm 4) fun t107=>
ao (some false) (some 1) t107 h fun t108 i109=>
(i109=Hd 1)/\(
ah (some 0) (s.tm 5) fun t110=>
aD (some 1) t110 (.sc (.string ⟨#[117,115,101]⟩)) h (iZ W Hd [1]) fun Of=>
ah (some 1) (s.tm 5) fun t112=>
aD (some 1) t112 t108 Of W fun Oe=>
mI W Q QP ⟨ag s.tm [(55,t107),(56,t108),(57,t110),(58,t112)],s.ds⟩ Oe))
def pV:OK:=fun W Q QP s h=>
aF (s.tm 137) (
ml W Q QP s h) (
pB W Q QP s h)
def oB:OK:=fun W Q QP s h=>
ai Pg .eql 9 true (s.tm 54) (.sc (.string ⟨#[114,101,115,101,116]⟩)) fun t114=>
pV W Q QP ⟨ag s.tm [(138,t114),(137,t114)],s.ds⟩ h
def oY:OK:=fun W Q QP s h=>
aF (s.tm 124) (
jA W Q QP s h) (
oB W Q QP s h)
def pA:OK:=fun W Q QP s h=>
ai Pg .eql 9 true (s.tm 54) (.sc (.string ⟨#[109,101,97,115,117,114,101]⟩)) fun t115=>
oY W Q QP ⟨ag s.tm [(125,t115),(124,t115)],s.ds⟩ h
def mH:OK:=fun W Q QP s h=>
aF (s.tm 111) (
iq W Q QP s h) (
pA W Q QP s h)
def oX:OK:=fun W Q QP s h=>
ai Pg .eql 9 true (s.tm 54) (.sc (.string ⟨#[105,102]⟩)) fun t116=>
mH W Q QP ⟨ag s.tm [(112,t116),(111,t116)],s.ds⟩ h
def nN:OK:=fun W Q QP s h=>
aF (s.tm 101) (
eU W Q QP s h) (
oX W Q QP s h)
def pz:OK:=fun W Q QP s h=>
ai Pg .eql 9 true (s.tm 54) (.sc (.string ⟨#[114,101,112,101,97,116]⟩)) fun t117=>
nN W Q QP ⟨ag s.tm [(102,t117),(101,t117)],s.ds⟩ h
def py:OK:=fun W Q QP s h=>
aF (s.tm 81) (
cZ W Q QP s h) (
pz W Q QP s h)
def re:OK:=fun W Q QP s h=>
ai Pg .eql 9 true (s.tm 54) (.sc (.string ⟨#[103,97,116,101]⟩)) fun t118=>
py W Q QP ⟨ag s.tm [(82,t118),(81,t118)],s.ds⟩ h
def nM:OK:=fun W Q QP s h=>
aF (s.tm 70) (
k4 W Q QP s h) (
re W Q QP s h)
def q_:OK:=fun W Q QP s h=>
aF (s.tm 70) (
nM W Q QP s h) (
ai Pg .eql 9 true (s.tm 54) (.sc (.string ⟨#[98,105,116,115]⟩)) fun t119=>
nM W Q QP ⟨ag s.tm [(72,t119),(70,t119)],s.ds⟩ h)
def oA:OK:=fun W Q QP s h=>
ai Pg .eql 9 true (s.tm 54) (.sc (.string ⟨#[113,117,98,105,116,115]⟩)) fun t120=>
q_ W Q QP ⟨ag s.tm [(71,t120),(70,t120)],s.ds⟩ h
def pt:OK:=fun W Q QP s h=>
ah (some 1) (s.tm 4) fun t121=>
ao (some false) (some 1) t121 h fun t122 _=>
oA W Q QP ⟨ag s.tm [(53,t121),(54,t122)],s.ds⟩ h
def oW:OK:=fun W Q QP s h=>
aH (s.tm 0) fun t124=>
ah (some 3) t124 fun t125=>
ao (some false) (some 1) t125 h fun t126 _=>
ao (some true) (some 6) (s.tm 5) h fun t128 _=>
dG (some (6,87,[.string ⟨#[]⟩,.string ⟨#[]⟩,.slice none 0 0,.int .i64 0,.int .i64 0,.int .i64 0])) 1 [(0,t128)] h fun t130 abl=>
fE (some (6,80,87)) t126 t130 abl W fun t132 NZ=>
aH (s.tm 0) fun t134=>
ah (some 3) t134 fun t135=>
aD (some 1) t135 t132 NZ W fun abj=>
pt W Q QP ⟨ag s.tm [(43,(s.tm 0)),(44,(s.tm 0)),(45,t124),(46,t125),(47,t126),(48,t128),(49,t130),(50,t132),(51,t134),(52,t135)],s.ds⟩ abj
def pU:OK:=fun W Q QP s h=>
aH (s.tm 0) fun t137=>
ah (some 3) t137 fun t138=>
ao (some false) (some 1) t138 h fun t139 _=>
(aY t139=false)/\bL t139 fun t141=>
oW W Q QP ⟨ag s.tm [(38,(s.tm 0)),(39,t137),(40,t138),(41,t139),(42,t141),(6,t141)],s.ds⟩ h
def lu:OK:=fun W Q QP s h=>
ah (some 1) (s.tm 4) fun t142=>
ao (some false) (some 1) t142 h fun t143 _=>
ah (some 2) (s.tm 4) fun t145=>
ao (some false) (some 1) t145 h fun t146 _=>
cN (some ([.string ⟨#[]⟩,.string ⟨#[]⟩,.slice none 0 0,.int .i64 0,.int .i64 0,.int .i64 0],.inl [(0,1),(1,1),(2,1),(3,1),(4,1),(5,1)])) [(0,t143),(5,t146)] fun t148=>
bx (some [.string ⟨#[]⟩,.string ⟨#[]⟩,.slice none 0 0,.int .i64 0,.int .i64 0,.int .i64 0]) 6 87 h fun t149 abf=>
aD (some 6) t149 t148 abf W fun abe=>
pU W Q QP ⟨ag s.tm [(33,t142),(34,t143),(35,t145),(36,t146),(37,t148),(5,t149)],s.ds⟩ abe
def rN:OK:=fun W Q QP s h=>
aH (s.tm 0) fun t152=>
ah (some 1) t152 fun t153=>
ao (some false) (some 1) t153 h fun t154 _=>
aH (s.tm 0) fun t156=>
ah (some 0) t156 fun t157=>
ao (some false) (some 1) t157 h fun t158 _=>
(aY t158=false)/\bL t158 fun t160=>
ai Pg .lss 3 false t154 t160 fun t161=>
bw true t161 (
aH (s.tm 0) fun t162=>
ah (some 0) t162 fun t163=>
ao (some false) (some 1) t163 h fun t164 _=>
aH (s.tm 0) fun t166=>
ah (some 1) t166 fun t167=>
ao (some false) (some 1) t167 h fun t168 _=>
bB (some (3,none)) t164 t168 fun t170=>
ah (some 0) t170 fun t171=>
ao (some false) (some 1) t171 h fun t172 _=>
ai Pg .eql 3 true t172 (.sc (.int .i64 1)) fun t174=>
aO t161 t174 (.sc (.bool false)) fun t175=>
(
aq Pg W 55 [(s.tm 0),t175] h (fun t176 NW=>
bx (some [.int .i64 0,.string ⟨#[]⟩,.int .i64 0]) 3 84 NW fun t178 aa4=>
aD (some 3) t178 t176 aa4 W fun NV=>
lu W Q QP ⟨ag s.tm [(7,(s.tm 0)),(8,(s.tm 0)),(9,t152),(10,t153),(11,t154),(12,(s.tm 0)),(13,t156),(14,t157),(15,t158),(16,t160),(17,t161),(18,t161),(19,(s.tm 0)),(20,t162),(21,t163),(22,t164),(23,(s.tm 0)),(24,t166),(25,t167),(26,t168),(27,t170),(28,t171),(29,t172),(30,t174),(31,t175),(32,t176),(4,t178)],s.ds⟩ NV) (QP s.ds))/\(
bx (some [.int .i64 0,.string ⟨#[]⟩,.int .i64 0]) 3 84 h fun t181 aa3=>
aq Pg W 55 [(s.tm 0),t175] aa3 (fun t183 aa2=>
aD (some 3) t181 t183 aa2 W fun aa1=>
lu W Q QP ⟨ag s.tm [(7,(s.tm 0)),(8,(s.tm 0)),(9,t152),(10,t153),(11,t154),(12,(s.tm 0)),(13,t156),(14,t157),(15,t158),(16,t160),(17,t161),(18,t161),(19,(s.tm 0)),(20,t162),(21,t163),(22,t164),(23,(s.tm 0)),(24,t166),(25,t167),(26,t168),(27,t170),(28,t171),(29,t172),(30,t174),(31,t175),(4,t181),(32,t183)],s.ds⟩ aa1) (QP s.ds))/\True) (
aO t161 ab (.sc (.bool false)) fun t186=>
(
aq Pg W 55 [(s.tm 0),t186] h (fun t187 aa0=>
bx (some [.int .i64 0,.string ⟨#[]⟩,.int .i64 0]) 3 84 aa0 fun t189 NU=>
aD (some 3) t189 t187 NU W fun aaY=>
lu W Q QP ⟨ag s.tm [(7,(s.tm 0)),(8,(s.tm 0)),(9,t152),(10,t153),(11,t154),(12,(s.tm 0)),(13,t156),(14,t157),(15,t158),(16,t160),(17,t161),(18,t161),(19,ab),(20,ab),(21,ab),(22,ab),(23,ab),(24,ab),(25,ab),(26,ab),(27,ab),(28,ab),(29,ab),(30,ab),(31,t186),(32,t187),(4,t189)],s.ds⟩ aaY) (QP s.ds))/\(
bx (some [.int .i64 0,.string ⟨#[]⟩,.int .i64 0]) 3 84 h fun t192 aaW=>
aq Pg W 55 [(s.tm 0),t186] aaW (fun t194 aaV=>
aD (some 3) t192 t194 aaV W fun aaU=>
lu W Q QP ⟨ag s.tm [(7,(s.tm 0)),(8,(s.tm 0)),(9,t152),(10,t153),(11,t154),(12,(s.tm 0)),(13,t156),(14,t157),(15,t158),(16,t160),(17,t161),(18,t161),(19,ab),(20,ab),(21,ab),(22,ab),(23,ab),(24,ab),(25,ab),(26,ab),(27,ab),(28,ab),(29,ab),(30,ab),(31,t186),(4,t192),(32,t194)],s.ds⟩ aaU) (QP s.ds))/\True)
end
theorem calls{x0 x1:AV}{h:AH}{M:WK}{R:RK}(hp:rN (fun id=>M id\/h.next<=id) (bQ Pg [] R) (aW R) (s0 [x0,x1]) h):aA Pg 21 [x0,x1] h M R:=
 kb (n:=155) (pl:=pl) rN Tryz.mixed Tryz.func21 (fun W Q QP=>
(sn
(sq (lu W Q QP)
(sq (pU W Q QP)
(sq (oW W Q QP)
(sn
(sm (k1 W Q QP))
(sq (pt W Q QP)
(bk 0 (sn
(cd (nM W Q QP) (sq (k4 W Q QP)
(sq (k3 W Q QP)
(sm (k2 W Q QP)))) (sq (re W Q QP)
(cd (py W Q QP) (sq (cZ W Q QP)
(sn
(sm (k5 W Q QP))
(bk 3 (lo (k9 W Q QP))))) (sq (pz W Q QP)
(cd (nN W Q QP) (sq (eU W Q QP)
(sm (dB W Q QP))) (sq (oX W Q QP)
(cd (mH W Q QP) (sq (iq W Q QP)
(sq (ir W Q QP)
(sm (fi W Q QP)))) (sq (pA W Q QP)
(cd (oY W Q QP) (sn
(sm (hH W Q QP))
(sm (jA W Q QP))) (sq (oB W Q QP)
(cd (pV W Q QP) (sn
(sm (lx W Q QP))
(sm (ml W Q QP))) (sn
(sn
(sm (lP W Q QP))
(bk 1 (lo (mI W Q QP))))
(sm (pB W Q QP))))))))))))))
(sq (oA W Q QP)
(cd (q_ W Q QP) tr tr)))))))))
(sm (rN W Q QP)))) hp
attribute [simp] k1 k2 k3 k4 k5 k6 k7 k8 k9 cZ dB eU fi ir iq hH jA lx ml lP nf kV mj mI pB pV oB oY pA mH oX nN pz py re nM q_ oA pt oW pU lu rN
end dN
end
section
open Go.Ab
section
variable (W:Nat->Prop) (Q:cH) (QP:cb) (s:St) (h:AH)
noncomputable def aB.code:Code:=Tryz.f10.body.getD .skip
def aB.pl:dj:=[(3,⟨[(none,[(0,true),(1,true),(2,false),(3,false),(4,false)])],true,[],[]⟩)]
theorem aB.ok:ls Pg aB.pl aB.code=true:=by kernel_rfl
def aB.t1(W:Nat->Prop)(Q:cH)(s:St)(h:AH):Prop:=
 aH (s.tm 6) fun t1=>
 ah (some 3) t1 fun t2=>
 ao (some false) (some 1) t2 h fun t3 _=>
 aD (some 1) (s.tm 2) t3 h W fun h5=>
 aD (some 1) (s.tm 3) (.sc (.int .i64 0)) h5 W fun h6=>
 aD (some 1) (s.tm 4) (.sc (.int .i64 0)) h6 W fun h7=>
 Q .ret ⟨ag s.tm [(32,(s.tm 6)),(33,t1),(34,t2),(35,t3)],s.ds⟩ h7
def aB.k1(W:Nat->Prop)(Q:cH)(QP:cb)(s:St)(h:AH):Prop:=aB.t1 W Q s h
theorem aB.Nx:aw Pg 36 W aB.pl (Code.at aB.code [1,1,1,1,1,1,0]) (bJ (aw Pg 36 W aB.pl (Code.at aB.code [1,1,1,1,1,1,1]) (Q) QP) (Q)) QP s h=aB.t1 W Q s h:=by kernel_rfl
theorem aB.Et:aw Pg 36 W aB.pl (Code.at aB.code [1,1,1,1,1,1]) (Q) QP s h=aB.k1 W Q QP s h:=jn (a:=(Code.at aB.code [1,1,1,1,1,1,0])) (b:=(Code.at aB.code [1,1,1,1,1,1,1])) (by kernel_rfl) (fun _ _=>rfl) (aB.Nx W Q QP s h)
def aB.t2(W:Nat->Prop)(Q:cH)(QP:cb)(s:St)(h:AH):Prop:=
 aq Pg W 21 [(s.tm 6),(.sc (.int .i64 0))] h (fun t8 h9=>
 Q .normal ⟨ag s.tm [(30,(s.tm 6)),(31,t8)],s.ds⟩ h9) (QP s.ds)
def aB.k2(W:Nat->Prop)(Q:cH)(QP:cb)(s:St)(h:AH):Prop:=aB.t2 W Q QP s h
theorem aB.Nw:aw Pg 36 W aB.pl (Code.at aB.code [1,1,1,1,1,0,0,0,1,0]) (df 1 (Q)) QP s h=aB.t2 W Q QP s h:=by kernel_rfl
theorem aB.Jb:aw Pg 36 W aB.pl (Code.at aB.code [1,1,1,1,1,0,0,0,1,0]) (df 1 (Q)) QP s h=aB.k2 W Q QP s h:=(aB.Nw W Q QP s h)
theorem aB.o1:aw Pg 36 W aB.pl (Code.at aB.code [1,1,1,1,1,0,0,0,1]) (Q) QP s h=aB.k2 W Q QP s h:=Fu (a:=(Code.at aB.code [1,1,1,1,1,0,0,0,1,0])) (by kernel_rfl) (aB.Jb W Q QP s h)
def aB.t3(Q:cH)(s:St)(h:AH)(C0:KT):Prop:=
 aF (s.tm 29) (
 C0 s h) (
 Q (.exit 0) s h)
def aB.k3(W:Nat->Prop)(Q:cH)(QP:cb)(s:St)(h:AH):Prop:=aB.t3 Q s h (aB.k2 W Q QP)
theorem aB.Ja(C0:KT):aF (lU s (.tmp 29)) (aw Pg 36 W aB.pl (Code.at aB.code [1,1,1,1,1,0,0,0,0,1,0]) (bJ (C0) (Q)) QP s h) (aw Pg 36 W aB.pl (Code.at aB.code [1,1,1,1,1,0,0,0,0,1,1]) (bJ (C0) (Q)) QP s h)=aB.t3 Q s h C0:=by kernel_rfl
theorem aB.I_:aw Pg 36 W aB.pl (Code.at aB.code [1,1,1,1,1,0,0,0,0,1]) (bJ (aB.k2 W Q QP) (Q)) QP s h=aB.k3 W Q QP s h:=su (a:=(Code.at aB.code [1,1,1,1,1,0,0,0,0,1,0])) (b:=(Code.at aB.code [1,1,1,1,1,0,0,0,0,1,1])) (by kernel_rfl) rfl rfl (aB.Ja W Q QP s h (aB.k2 W Q QP))
def aB.t4(s:St)(h:AH)(C0 C1:KT):Prop:=
 aH (s.tm 6) fun t10=>
 ah (some 1) t10 fun t11=>
 ao (some false) (some 1) t11 h fun t12 _=>
 (aY (s.tm 5)=false)/\bL (s.tm 5) fun t14=>
 ai Pg .lss 3 false t12 t14 fun t15=>
 C1 ⟨ag s.tm [(23,(s.tm 6)),(24,t10),(25,t11),(26,t12),(27,(s.tm 5)),(28,t14),(29,t15)],s.ds⟩ h
def aB.k4(W:Nat->Prop)(Q:cH)(QP:cb)(s:St)(h:AH):Prop:=aB.t4 s h (aB.k2 W Q QP) (aB.k3 W Q QP)
theorem aB.I9(C0 C1:KT):aw Pg 36 W aB.pl (Code.at aB.code [1,1,1,1,1,0,0,0,0,0]) (bJ (C1) (bJ (C0) (Q))) QP s h=aB.t4 s h C0 C1:=by kernel_rfl
theorem aB.I8:aw Pg 36 W aB.pl (Code.at aB.code [1,1,1,1,1,0,0,0,0]) (bJ (aB.k2 W Q QP) (Q)) QP s h=aB.k4 W Q QP s h:=jn (a:=(Code.at aB.code [1,1,1,1,1,0,0,0,0,0])) (b:=(Code.at aB.code [1,1,1,1,1,0,0,0,0,1])) (by kernel_rfl) (aB.I_ W Q QP) (aB.I9 W Q QP s h (aB.k2 W Q QP) (aB.k3 W Q QP))
theorem aB.o2:aw Pg 36 W aB.pl (Code.at aB.code [1,1,1,1,1,0,0,0]) (Q) QP s h=aB.k4 W Q QP s h:=jn (a:=(Code.at aB.code [1,1,1,1,1,0,0,0,0])) (b:=(Code.at aB.code [1,1,1,1,1,0,0,0,1])) (by kernel_rfl) (aB.o1 W Q QP) (aB.I8 W Q QP s h)
noncomputable def aB.c1:Code:=(Code.at aB.code [1,1,1,1,1,0,0,0])
theorem aB.l1:aw Pg 36 W aB.pl aB.c1 Q QP s h=aB.k4 W Q QP s h:=aB.o2 W Q QP s h
def aB.k5(W:Nat->Prop)(Q:cH)(QP:cb)(s:St)(h:AH):Prop:=hJ (aw Pg 36 W aB.pl aB.c1) (df 0 (bJ (aB.k1 W Q QP) (Q))) QP s h
theorem aB.I7:aw Pg 36 W aB.pl (Code.at aB.code [1,1,1,1,1,0,0]) (df 0 (bJ (aB.k1 W Q QP) (Q))) QP s h=aB.k5 W Q QP s h:=RZ (a:=aB.c1) (by kernel_rfl)
theorem aB.o3:aw Pg 36 W aB.pl (Code.at aB.code [1,1,1,1,1,0]) (bJ (aB.k1 W Q QP) (Q)) QP s h=aB.k5 W Q QP s h:=Fu (a:=(Code.at aB.code [1,1,1,1,1,0,0])) (by kernel_rfl) (aB.I7 W Q QP s h)
theorem aB.o4:aw Pg 36 W aB.pl (Code.at aB.code [1,1,1,1,1]) (Q) QP s h=aB.k5 W Q QP s h:=jn (a:=(Code.at aB.code [1,1,1,1,1,0])) (b:=(Code.at aB.code [1,1,1,1,1,1])) (by kernel_rfl) (aB.Et W Q QP) (aB.o3 W Q QP s h)
def aB.t6(s:St)(h:AH)(C0:KT):Prop:=
 (aY (s.tm 0)=true)/\bL (s.tm 0) fun t16=>
 cN (some ([.slice none 0 0,.int .i64 0,.int .i64 0,.slice none 0 0],.inl [(0,1),(1,1),(2,1),(3,1)])) [(0,(s.tm 5)),(2,t16)] fun t17=>
 eR 4 69 t17 h fun t18 mM=>
 C0 ⟨ag s.tm [(18,(s.tm 5)),(19,(s.tm 0)),(20,t16),(21,t17),(22,t18),(6,t18)],s.ds⟩ mM
def aB.k6(W:Nat->Prop)(Q:cH)(QP:cb)(s:St)(h:AH):Prop:=aB.t6 s h (aB.k5 W Q QP)
theorem aB.I6(C0:KT):aw Pg 36 W aB.pl (Code.at aB.code [1,1,1,1,0]) (bJ (C0) (Q)) QP s h=aB.t6 s h C0:=by kernel_rfl
theorem aB.I5:aw Pg 36 W aB.pl (Code.at aB.code [1,1,1,1]) (Q) QP s h=aB.k6 W Q QP s h:=jn (a:=(Code.at aB.code [1,1,1,1,0])) (b:=(Code.at aB.code [1,1,1,1,1])) (by kernel_rfl) (aB.o4 W Q QP) (aB.I6 W Q QP s h (aB.k5 W Q QP))
def aB.t7(s:St)(h:AH)(C0:KT):Prop:=
 JE (.fn (.func 20) [] [(s.tm 2),(s.tm 3),(s.tm 4)]) [] s.ds fun d20=>
 C0 ⟨ag s.tm [(17,(.fn (.func 20) [] [(s.tm 2),(s.tm 3),(s.tm 4)]))],d20⟩ h
def aB.k7(W:Nat->Prop)(Q:cH)(QP:cb)(s:St)(h:AH):Prop:=aB.t7 s h (aB.k6 W Q QP)
theorem aB.Uf(C0:KT):aw Pg 36 W aB.pl (Code.at aB.code [1,1,1,0]) (bJ (C0) (Q)) QP s h=aB.t7 s h C0:=by kernel_rfl
theorem aB.WB:aw Pg 36 W aB.pl (Code.at aB.code [1,1,1]) (Q) QP s h=aB.k7 W Q QP s h:=jn (a:=(Code.at aB.code [1,1,1,0])) (b:=(Code.at aB.code [1,1,1,1])) (by kernel_rfl) (aB.I5 W Q QP) (aB.Uf W Q QP s h (aB.k6 W Q QP))
def aB.t8(Q:cH)(s:St)(h:AH)(C0:KT):Prop:=
 Q .ret s h
def aB.k8(W:Nat->Prop)(Q:cH)(QP:cb)(s:St)(h:AH):Prop:=aB.t8 Q s h (aB.k7 W Q QP)
theorem aB.Ue(C0:KT):aw Pg 36 W aB.pl (Code.at aB.code [1,1,0,1,0,1]) (bJ (C0) (Q)) QP s h=aB.t8 Q s h C0:=by kernel_rfl
theorem aB.WA:aw Pg 36 W aB.pl (Code.at aB.code [1,1,0,1,0,1]) (bJ (aB.k7 W Q QP) (Q)) QP s h=aB.k8 W Q QP s h:=(aB.Ue W Q QP s h (aB.k7 W Q QP))
def aB.t9(W:Nat->Prop)(s:St)(h:AH)(C0 C1:KT):Prop:=
 ∃Hd:Nat->Nat,(∀i∈[0,1],h.obj (Hd i)≠none)/\(
 ao (some false) (some 1) (s.tm 3) h fun t21 i22=>
 (i22=Hd 0)/\(
 ao (some false) (some 1) (s.tm 4) h fun t23 i24=>
 (i24=Hd 1)/\(
 aD (some 1) (s.tm 2) (.sc (.slice none 0 0)) h (iZ W Hd [0,1]) fun nQ=>
 aD (some 1) (s.tm 3) t21 nQ (iZ W Hd [1]) fun nP=>
 aD (some 1) (s.tm 4) t23 nP W fun qd=>
 C1 ⟨ag s.tm [(15,t21),(16,t23)],s.ds⟩ qd)))
def aB.k9(W:Nat->Prop)(Q:cH)(QP:cb)(s:St)(h:AH):Prop:=aB.t9 W s h (aB.k7 W Q QP) (aB.k8 W Q QP)
theorem aB.Ud(C0 C1:KT):aw Pg 36 W aB.pl (Code.at aB.code [1,1,0,1,0,0]) (bJ (C1) (bJ (C0) (Q))) QP s h=aB.t9 W s h C0 C1:=by kernel_rfl
theorem aB.Wz:aw Pg 36 W aB.pl (Code.at aB.code [1,1,0,1,0,0]) (bJ (aB.k8 W Q QP) (bJ (aB.k7 W Q QP) (Q))) QP s h=aB.k9 W Q QP s h:=(aB.Ud W Q QP s h (aB.k7 W Q QP) (aB.k8 W Q QP))
theorem aB.o5:aw Pg 36 W aB.pl (Code.at aB.code [1,1,0,1,0]) (bJ (aB.k7 W Q QP) (Q)) QP s h=aB.k9 W Q QP s h:=jn (a:=(Code.at aB.code [1,1,0,1,0,0])) (b:=(Code.at aB.code [1,1,0,1,0,1])) (by kernel_rfl) (aB.WA W Q QP) (aB.Wz W Q QP s h)
def aB.t10(s:St)(h:AH)(C0 C1:KT):Prop:=
 aF (s.tm 14) (
 C1 s h) (
 C0 s h)
def aB.cZ(W:Nat->Prop)(Q:cH)(QP:cb)(s:St)(h:AH):Prop:=aB.t10 s h (aB.k7 W Q QP) (aB.k9 W Q QP)
theorem aB.Qi(C0 C1:KT):aF (lU s (.tmp 14)) (C1 s h) (aw Pg 36 W aB.pl (Code.at aB.code [1,1,0,1,1]) (bJ (C0) (Q)) QP s h)=aB.t10 s h C0 C1:=by kernel_rfl
theorem aB.Ul:aw Pg 36 W aB.pl (Code.at aB.code [1,1,0,1]) (bJ (aB.k7 W Q QP) (Q)) QP s h=aB.cZ W Q QP s h:=su (a:=(Code.at aB.code [1,1,0,1,0])) (b:=(Code.at aB.code [1,1,0,1,1])) (by kernel_rfl) (aB.o5 W Q QP s h) rfl (aB.Qi W Q QP s h (aB.k7 W Q QP) (aB.k9 W Q QP))
def aB.t11(s:St)(h:AH)(C0 C1:KT):Prop:=
 ao (some false) (some 1) (s.tm 4) h fun t28 _=>
 ai Pg .neq 28 true t28 (.sc (.int .i64 0)) fun t30=>
 C0 ⟨ag s.tm [(13,t28),(14,t30)],s.ds⟩ h
def aB.dB(W:Nat->Prop)(Q:cH)(QP:cb)(s:St)(h:AH):Prop:=aB.t11 s h (aB.cZ W Q QP) (aB.k7 W Q QP)
theorem aB.Qh(C0 C1:KT):aw Pg 36 W aB.pl (Code.at aB.code [1,1,0,0]) (bJ (C0) (bJ (C1) (Q))) QP s h=aB.t11 s h C0 C1:=by kernel_rfl
theorem aB.Uk:aw Pg 36 W aB.pl (Code.at aB.code [1,1,0]) (bJ (aB.k7 W Q QP) (Q)) QP s h=aB.dB W Q QP s h:=jn (a:=(Code.at aB.code [1,1,0,0])) (b:=(Code.at aB.code [1,1,0,1])) (by kernel_rfl) (aB.Ul W Q QP) (aB.Qh W Q QP s h (aB.cZ W Q QP) (aB.k7 W Q QP))
theorem aB.o6:aw Pg 36 W aB.pl (Code.at aB.code [1,1]) (Q) QP s h=aB.dB W Q QP s h:=jn (a:=(Code.at aB.code [1,1,0])) (b:=(Code.at aB.code [1,1,1])) (by kernel_rfl) (aB.WB W Q QP) (aB.Uk W Q QP s h)
def aB.t12(W:Nat->Prop)(QP:cb)(s:St)(h:AH)(C0:KT):Prop:=
 aq Pg W 19 [(s.tm 0)] h (fun t31 wO=>
 cW t31 0 fun t33=>
 cW t31 1 fun t34=>
 cW t31 2 fun t35=>
 aD (some 1) (s.tm 3) t34 wO W fun wN=>
 aD (some 1) (s.tm 4) t35 wN W fun tX=>
 C0 ⟨ag s.tm [(8,(s.tm 0)),(9,t31),(7,t31),(10,t33),(11,t34),(12,t35),(5,t33)],s.ds⟩ tX) (QP s.ds)
def aB.eU(W:Nat->Prop)(Q:cH)(QP:cb)(s:St)(h:AH):Prop:=aB.t12 W QP s h (aB.dB W Q QP)
theorem aB.Qg(C0:KT):aw Pg 36 W aB.pl (Code.at aB.code [1,0]) (bJ (C0) (Q)) QP s h=aB.t12 W QP s h C0:=by kernel_rfl
theorem aB.Uj:aw Pg 36 W aB.pl (Code.at aB.code [1]) (Q) QP s h=aB.eU W Q QP s h:=jn (a:=(Code.at aB.code [1,0])) (b:=(Code.at aB.code [1,1])) (by kernel_rfl) (aB.o6 W Q QP) (aB.Qg W Q QP s h (aB.dB W Q QP))
def aB.t13(s:St)(h:AH)(C0:KT):Prop:=
 bx (some [.slice none 0 0]) 1 37 h fun t38 tW=>
 bx (some [.int .i64 0]) 1 3 tW fun t40 wM=>
 bx (some [.int .i64 0]) 1 28 wM fun t42 QQ=>
 C0 ⟨ag s.tm [(2,t38),(3,t40),(4,t42)],s.ds⟩ QQ
def aB.fi(W:Nat->Prop)(Q:cH)(QP:cb)(s:St)(h:AH):Prop:=aB.t13 s h (aB.eU W Q QP)
theorem aB.Qf(C0:KT):aw Pg 36 W aB.pl (Code.at aB.code [0]) (bJ (C0) (Q)) QP s h=aB.t13 s h C0:=by kernel_rfl
theorem aB.Ui:aw Pg 36 W aB.pl (Code.at aB.code []) (Q) QP s h=aB.fi W Q QP s h:=jn (a:=(Code.at aB.code [0])) (b:=(Code.at aB.code [1])) (by kernel_rfl) (aB.Uj W Q QP) (aB.Qf W Q QP s h (aB.eU W Q QP))
end
theorem aB.calls{x0:AV}{h:AH}{M:Nat->Prop}{R:AE->AH->Prop}(hp:aB.fi (fun id=>M id\/h.next<=id) (bQ Pg [.cell 2 37,.cell 3 3,.cell 4 28] R) (aW R) (s0 [x0]) h):aA Pg 10 [x0] h M R:=
 yw (c:=aB.code) Tryz.mixed Tryz.func10 (by kernel_rfl) (Nat.le_of_ble_eq_true rfl) aB.ok (by rw[show Tryz.f10.ntmps=36 from rfl,show Tryz.f10.results.toList=[.cell 2 37,.cell 3 3,.cell 4 28] from rfl];exact Eq.mpr (aB.Ui _ _ _ _ _) hp)
attribute [simp] aB.k1 aB.t1 aB.k2 aB.t2 aB.k3 aB.t3 aB.k4 aB.t4 aB.k5 aB.k6 aB.t6 aB.k7 aB.t7 aB.k8 aB.t8 aB.k9 aB.t9 aB.cZ aB.t10 aB.dB aB.t11 aB.eU aB.t12 aB.fi aB.t13
end
end Go.Proofs.YtjehibknlmehmaaGreat
