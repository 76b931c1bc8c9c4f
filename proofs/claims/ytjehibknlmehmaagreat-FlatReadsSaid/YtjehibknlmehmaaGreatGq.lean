/- Bodies of the document's reader; printed. No condition. -/
import Derived.Test.YtjehibknlmehmaaGreatGs
set_option maxRecDepth 100000
namespace Go.Proofs.YtjehibknlmehmaaGreat
section
open Go.Ab
namespace YF
def pl:dj:=[(1,⟨[(none,(fr 0 6)),(some (5,true),(fr 6 10)),(none,(fr 16 2)),(some (17,true),(fr 18 12)),(none,(fr 30 2)),(some (31,true),(fr 32 13)),(none,(fr 45 2))],false,[],[]⟩)]
def k1:OK:=fun _ Q _ s h=>
Q .ret s h
def k2:OK:=fun W Q QP s h=>
aO (s.tm 36) (s.tm 49) (.sc (.bool false)) fun t1=>
k1 W Q QP ⟨ag s.tm [(50,t1),(4,t1)],s.ds⟩ h
def k3:OK:=fun W Q QP s h=>
bw true (s.tm 36) (
aH (s.tm 0) fun t2=>
ah (some 0) t2 fun t3=>
ao (some false) (some 1) t3 h fun t4 _=>
aH (s.tm 0) fun t6=>
ah (some 1) t6 fun t7=>
ao (some false) (some 1) t7 h fun t8 _=>
bB (some (3,none)) t4 t8 fun t10=>
ah (some 1) t10 fun t11=>
ao (some false) (some 1) t11 h fun t12 _=>
ai Pg .eql 9 false t12 (s.tm 1) fun t14=>
k2 W Q QP ⟨ag s.tm [(37,(s.tm 0)),(38,t2),(39,t3),(40,t4),(41,(s.tm 0)),(42,t6),(43,t7),(44,t8),(45,t10),(46,t11),(47,t12),(48,(s.tm 1)),(49,t14)],s.ds⟩ h) (
k2 W Q QP ⟨ag s.tm [(37,ab),(38,ab),(39,ab),(40,ab),(41,ab),(42,ab),(43,ab),(44,ab),(45,ab),(46,ab),(47,ab),(48,ab),(49,ab)],s.ds⟩ h)
def k4:OK:=fun W Q QP s h=>
aO (s.tm 22) (s.tm 34) (.sc (.bool false)) fun t15=>
k3 W Q QP ⟨ag s.tm [(35,t15),(36,t15)],s.ds⟩ h
def k5:OK:=fun W Q QP s h=>
bw true (s.tm 22) (
aH (s.tm 0) fun t16=>
ah (some 0) t16 fun t17=>
ao (some false) (some 1) t17 h fun t18 _=>
aH (s.tm 0) fun t20=>
ah (some 1) t20 fun t21=>
ao (some false) (some 1) t21 h fun t22 _=>
bB (some (3,none)) t18 t22 fun t24=>
ah (some 0) t24 fun t25=>
ao (some false) (some 1) t25 h fun t26 _=>
ai Pg .eql 3 true t26 (.sc (.int .i64 3)) fun t28=>
k4 W Q QP ⟨ag s.tm [(23,(s.tm 0)),(24,t16),(25,t17),(26,t18),(27,(s.tm 0)),(28,t20),(29,t21),(30,t22),(31,t24),(32,t25),(33,t26),(34,t28)],s.ds⟩ h) (
k4 W Q QP ⟨ag s.tm [(23,ab),(24,ab),(25,ab),(26,ab),(27,ab),(28,ab),(29,ab),(30,ab),(31,ab),(32,ab),(33,ab),(34,ab)],s.ds⟩ h)
def k6:OK:=fun W Q QP s h=>
aO (s.tm 10) (s.tm 20) (.sc (.bool false)) fun t29=>
k5 W Q QP ⟨ag s.tm [(21,t29),(22,t29)],s.ds⟩ h
def k7:OK:=fun W Q QP s h=>
bw true (s.tm 10) (
aH (s.tm 0) fun t30=>
ah (some 1) t30 fun t31=>
ao (some false) (some 1) t31 h fun t32 _=>
aH (s.tm 0) fun t34=>
ah (some 0) t34 fun t35=>
ao (some false) (some 1) t35 h fun t36 _=>
(aY t36=false)/\bL t36 fun t38=>
ai Pg .lss 3 false t32 t38 fun t39=>
k6 W Q QP ⟨ag s.tm [(11,(s.tm 0)),(12,t30),(13,t31),(14,t32),(15,(s.tm 0)),(16,t34),(17,t35),(18,t36),(19,t38),(20,t39)],s.ds⟩ h) (
k6 W Q QP ⟨ag s.tm [(11,ab),(12,ab),(13,ab),(14,ab),(15,ab),(16,ab),(17,ab),(18,ab),(19,ab),(20,ab)],s.ds⟩ h)
def k8:OK:=fun W Q QP s h=>
aH (s.tm 0) fun t40=>
ah (some 3) t40 fun t41=>
ao (some false) (some 1) t41 h fun t42 _=>
ai Pg .eql 3 true t42 (.sc (.int .i64 0)) fun t44=>
k7 W Q QP ⟨ag s.tm [(5,(s.tm 0)),(6,t40),(7,t41),(8,t42),(9,t44),(10,t44)],s.ds⟩ h
def k9:OK:=fun W Q QP s h=>
k8 W Q QP ⟨ag s.tm [(4,(.sc (.bool false)))],s.ds⟩ h
theorem calls{x0 x1:AV}{h:AH}{M:WK}{R:RK}(hp:k9 (fun id=>M id\/h.next<=id) (bQ Pg [.tmp 4] R) (aW R) (s0 [x0,x1]) h):aA Pg 71 [x0,x1] h M R:=
 kb (n:=51) (pl:=pl) k9 Tryz.mixed Tryz.func71 (fun W Q QP=>
(sq (k9 W Q QP)
(sn
(sm (k1 W Q QP))
(gr (gn (k8 W Q QP) (gx (k7 W Q QP) (gn (k6 W Q QP) (gx (k5 W Q QP) (gn (k4 W Q QP) (gx (k3 W Q QP) (gl (k2 W Q QP)))))))))))) hp
attribute [simp] k1 k2 k3 k4 k5 k6 k7 k8 k9
end YF
namespace YP
def pl:dj:=[(1,⟨[(none,(fr 0 6)),(some (5,true),(fr 6 10)),(none,(fr 16 2)),(some (17,true),(fr 18 12)),(none,(fr 30 2)),(some (31,true),(fr 32 13)),(none,(fr 45 2))],false,[],[]⟩)]
def k1:OK:=fun _ Q _ s h=>
Q .ret s h
def k2:OK:=fun W Q QP s h=>
aO (s.tm 34) (s.tm 47) (.sc (.bool false)) fun t1=>
k1 W Q QP ⟨ag s.tm [(48,t1),(2,t1)],s.ds⟩ h
def k3:OK:=fun W Q QP s h=>
bw true (s.tm 34) (
aH (s.tm 0) fun t2=>
ah (some 0) t2 fun t3=>
ao (some false) (some 1) t3 h fun t4 _=>
aH (s.tm 0) fun t6=>
ah (some 1) t6 fun t7=>
ao (some false) (some 1) t7 h fun t8 _=>
bB (some (3,none)) t4 t8 fun t10=>
ah (some 1) t10 fun t11=>
ao (some false) (some 1) t11 h fun t12 _=>
aq Pg W 31 [t12] h (fun t14 qf=>
iH .not t14 fun t16=>
k2 W Q QP ⟨ag s.tm [(35,(s.tm 0)),(36,t2),(37,t3),(38,t4),(39,(s.tm 0)),(40,t6),(41,t7),(42,t8),(43,t10),(44,t11),(45,t12),(46,t14),(47,t16)],s.ds⟩ qf) (QP s.ds)) (
k2 W Q QP ⟨ag s.tm [(35,ab),(36,ab),(37,ab),(38,ab),(39,ab),(40,ab),(41,ab),(42,ab),(43,ab),(44,ab),(45,ab),(46,ab),(47,ab)],s.ds⟩ h)
def k4:OK:=fun W Q QP s h=>
aO (s.tm 20) (s.tm 32) (.sc (.bool false)) fun t17=>
k3 W Q QP ⟨ag s.tm [(33,t17),(34,t17)],s.ds⟩ h
def k5:OK:=fun W Q QP s h=>
bw true (s.tm 20) (
aH (s.tm 0) fun t18=>
ah (some 0) t18 fun t19=>
ao (some false) (some 1) t19 h fun t20 _=>
aH (s.tm 0) fun t22=>
ah (some 1) t22 fun t23=>
ao (some false) (some 1) t23 h fun t24 _=>
bB (some (3,none)) t20 t24 fun t26=>
ah (some 0) t26 fun t27=>
ao (some false) (some 1) t27 h fun t28 _=>
ai Pg .eql 3 true t28 (.sc (.int .i64 1)) fun t30=>
k4 W Q QP ⟨ag s.tm [(21,(s.tm 0)),(22,t18),(23,t19),(24,t20),(25,(s.tm 0)),(26,t22),(27,t23),(28,t24),(29,t26),(30,t27),(31,t28),(32,t30)],s.ds⟩ h) (
k4 W Q QP ⟨ag s.tm [(21,ab),(22,ab),(23,ab),(24,ab),(25,ab),(26,ab),(27,ab),(28,ab),(29,ab),(30,ab),(31,ab),(32,ab)],s.ds⟩ h)
def k6:OK:=fun W Q QP s h=>
aO (s.tm 8) (s.tm 18) (.sc (.bool false)) fun t31=>
k5 W Q QP ⟨ag s.tm [(19,t31),(20,t31)],s.ds⟩ h
def k7:OK:=fun W Q QP s h=>
bw true (s.tm 8) (
aH (s.tm 0) fun t32=>
ah (some 1) t32 fun t33=>
ao (some false) (some 1) t33 h fun t34 _=>
aH (s.tm 0) fun t36=>
ah (some 0) t36 fun t37=>
ao (some false) (some 1) t37 h fun t38 _=>
(aY t38=false)/\bL t38 fun t40=>
ai Pg .lss 3 false t34 t40 fun t41=>
k6 W Q QP ⟨ag s.tm [(9,(s.tm 0)),(10,t32),(11,t33),(12,t34),(13,(s.tm 0)),(14,t36),(15,t37),(16,t38),(17,t40),(18,t41)],s.ds⟩ h) (
k6 W Q QP ⟨ag s.tm [(9,ab),(10,ab),(11,ab),(12,ab),(13,ab),(14,ab),(15,ab),(16,ab),(17,ab),(18,ab)],s.ds⟩ h)
def k8:OK:=fun W Q QP s h=>
aH (s.tm 0) fun t42=>
ah (some 3) t42 fun t43=>
ao (some false) (some 1) t43 h fun t44 _=>
ai Pg .eql 3 true t44 (.sc (.int .i64 0)) fun t46=>
k7 W Q QP ⟨ag s.tm [(3,(s.tm 0)),(4,t42),(5,t43),(6,t44),(7,t46),(8,t46)],s.ds⟩ h
def k9:OK:=fun W Q QP s h=>
k8 W Q QP ⟨ag s.tm [(2,(.sc (.bool false)))],s.ds⟩ h
theorem calls{x0:AV}{h:AH}{M:WK}{R:RK}(hp:k9 (fun id=>M id\/h.next<=id) (bQ Pg [.tmp 2] R) (aW R) (s0 [x0]) h):aA Pg 35 [x0] h M R:=
 kb (n:=49) (pl:=pl) k9 Tryz.mixed Tryz.func35 (fun W Q QP=>
(sq (k9 W Q QP)
(sn
(sm (k1 W Q QP))
(gr (gn (k8 W Q QP) (gx (k7 W Q QP) (gn (k6 W Q QP) (gx (k5 W Q QP) (gn (k4 W Q QP) (gx (k3 W Q QP) (gl (k2 W Q QP)))))))))))) hp
attribute [simp] k1 k2 k3 k4 k5 k6 k7 k8 k9
end YP
namespace YR
def pl:dj:=[(2,⟨[(none,(fr 0 10))],false,[],[]⟩),(3,⟨[(none,(fr 0 15))],false,[],[]⟩)]
def k1:OK:=fun W Q _ s h=>
aF (s.tm 29) (
aH (s.tm 0) fun t1=>
ah (some 0) t1 fun t2=>
ao (some false) (some 1) t2 h fun t3 _=>
aH (s.tm 0) fun t5=>
ah (some 1) t5 fun t6=>
ao (some false) (some 1) t6 h fun t7 _=>
bB (some (3,none)) t3 t7 fun t9=>
ah (some 2) t9 fun t10=>
ao (some false) (some 1) t10 h fun t11 _=>
aH (s.tm 0) fun t13=>
ah (some 4) t13 fun t14=>
aD (some 1) t14 t11 h W fun qf=>
Q .normal ⟨ag s.tm [(30,(s.tm 0)),(31,(s.tm 0)),(32,t1),(33,t2),(34,t3),(35,(s.tm 0)),(36,t5),(37,t6),(38,t7),(39,t9),(40,t10),(41,t11),(42,t13),(43,t14)],s.ds⟩ qf) (
aH (s.tm 0) fun t16=>
ah (some 3) t16 fun t17=>
aD (some 1) t17 (.sc (.int .i64 101)) h W fun rV=>
Q .normal ⟨ag s.tm [(44,(s.tm 0)),(45,t16),(46,t17)],s.ds⟩ rV)
def k2:OK:=fun W Q QP s h=>
aH (s.tm 0) fun t19=>
ah (some 1) t19 fun t20=>
ao (some false) (some 1) t20 h fun t21 _=>
aH (s.tm 0) fun t23=>
ah (some 0) t23 fun t24=>
ao (some false) (some 1) t24 h fun t25 _=>
(aY t25=false)/\bL t25 fun t27=>
ai Pg .lss 3 false t21 t27 fun t28=>
k1 W Q QP ⟨ag s.tm [(20,(s.tm 0)),(21,t19),(22,t20),(23,t21),(24,(s.tm 0)),(25,t23),(26,t24),(27,t25),(28,t27),(29,t28)],s.ds⟩ h
def k3:OK:=fun W Q QP s h=>
aH (s.tm 0) fun t29=>
ah (some 2) t29 fun t30=>
ao (some false) (some 1) t30 h fun t31 _=>
aH (s.tm 0) fun t33=>
ah (some 3) t33 fun t34=>
aD (some 1) t34 (s.tm 1) h W fun kK=>
aH (s.tm 0) fun t36=>
ah (some 4) t36 fun t37=>
aD (some 1) t37 t31 kK W fun zy=>
k2 W Q QP ⟨ag s.tm [(9,(s.tm 0)),(10,(s.tm 0)),(11,(s.tm 1)),(12,(s.tm 0)),(13,t29),(14,t30),(15,t31),(16,t33),(17,t34),(18,t36),(19,t37)],s.ds⟩ zy
def k4:OK:=fun W Q QP s h=>
aF (s.tm 8) (
Q .ret s h) (
k3 W Q QP s h)
def k5:OK:=fun W Q QP s h=>
aH (s.tm 0) fun t39=>
ah (some 3) t39 fun t40=>
ao (some false) (some 1) t40 h fun t41 _=>
ai Pg .neq 3 true t41 (.sc (.int .i64 0)) fun t43=>
k4 W Q QP ⟨ag s.tm [(4,(s.tm 0)),(5,t39),(6,t40),(7,t41),(8,t43)],s.ds⟩ h
theorem calls{x0 x1:AV}{h:AH}{M:WK}{R:RK}(hp:k5 (fun id=>M id\/h.next<=id) (bQ Pg [] R) (aW R) (s0 [x0,x1]) h):aA Pg 30 [x0,x1] h M R:=
 kb (n:=47) (pl:=pl) k5 Tryz.mixed Tryz.func30 (fun W Q QP=>
(sn
(sq (k3 W Q QP)
(sq (k2 W Q QP)
(cd (k1 W Q QP) tr tr)))
(sq (k5 W Q QP)
(cd (k4 W Q QP) tr tr)))) hp
attribute [simp] k1 k2 k3 k4 k5
end YR
namespace YQ
def pl:dj:=[]
def k1:OK:=fun _ Q _ s h=>
Q .ret ⟨ag s.tm [(2,(.sc (.bool false)))],s.ds⟩ h
def k2:OK:=fun _ Q _ s h=>
Q .ret ⟨ag s.tm [(2,(.sc (.bool true)))],s.ds⟩ h
def k3:OK:=fun W Q QP s h=>
aF (s.tm 4) (
k2 W Q QP s h) (
k1 W Q QP s h)
def k4:OK:=fun W Q QP s h=>
aF (s.tm 4) (
k3 W Q QP s h) (
ai Pg .eql 9 true (s.tm 3) (.sc (.string ⟨#[114,101,115,101,116]⟩)) fun t1=>
k3 W Q QP ⟨ag s.tm [(11,t1),(4,t1)],s.ds⟩ h)
def k5:OK:=fun W Q QP s h=>
ai Pg .eql 9 true (s.tm 3) (.sc (.string ⟨#[109,101,97,115,117,114,101]⟩)) fun t2=>
k4 W Q QP ⟨ag s.tm [(10,t2),(4,t2)],s.ds⟩ h
def k6:OK:=fun W Q QP s h=>
aF (s.tm 4) (
k3 W Q QP s h) (
k5 W Q QP s h)
def k7:OK:=fun W Q QP s h=>
ai Pg .eql 9 true (s.tm 3) (.sc (.string ⟨#[105,102]⟩)) fun t3=>
k6 W Q QP ⟨ag s.tm [(9,t3),(4,t3)],s.ds⟩ h
def k8:OK:=fun W Q QP s h=>
aF (s.tm 4) (
k3 W Q QP s h) (
k7 W Q QP s h)
def k9:OK:=fun W Q QP s h=>
ai Pg .eql 9 true (s.tm 3) (.sc (.string ⟨#[114,101,112,101,97,116]⟩)) fun t4=>
k8 W Q QP ⟨ag s.tm [(8,t4),(4,t4)],s.ds⟩ h
def cZ:OK:=fun W Q QP s h=>
aF (s.tm 4) (
k3 W Q QP s h) (
k9 W Q QP s h)
def dB:OK:=fun W Q QP s h=>
ai Pg .eql 9 true (s.tm 3) (.sc (.string ⟨#[103,97,116,101]⟩)) fun t5=>
cZ W Q QP ⟨ag s.tm [(7,t5),(4,t5)],s.ds⟩ h
def eU:OK:=fun W Q QP s h=>
aF (s.tm 4) (
k3 W Q QP s h) (
dB W Q QP s h)
def fi:OK:=fun W Q QP s h=>
ai Pg .eql 9 true (s.tm 3) (.sc (.string ⟨#[98,105,116,115]⟩)) fun t6=>
eU W Q QP ⟨ag s.tm [(6,t6),(4,t6)],s.ds⟩ h
def ir:OK:=fun W Q QP s h=>
aF (s.tm 4) (
k3 W Q QP s h) (
fi W Q QP s h)
def iq:OK:=fun W Q QP s h=>
ai Pg .eql 9 true (s.tm 3) (.sc (.string ⟨#[113,117,98,105,116,115]⟩)) fun t7=>
ir W Q QP ⟨ag s.tm [(5,t7),(4,t7)],s.ds⟩ h
def hH:OK:=fun W Q QP s h=>
iq W Q QP ⟨ag s.tm [(3,(s.tm 0))],s.ds⟩ h
def jA:OK:=fun W Q QP s h=>
hH W Q QP ⟨ag s.tm [(2,(.sc (.bool false)))],s.ds⟩ h
theorem calls{x0:AV}{h:AH}{M:WK}{R:RK}(hp:jA (fun id=>M id\/h.next<=id) (bQ Pg [.tmp 2] R) (aW R) (s0 [x0]) h):aA Pg 31 [x0] h M R:=
 kb (n:=12) (pl:=pl) jA Tryz.mixed Tryz.func31 (fun W Q QP=>
(sq (jA W Q QP)
(sn
(sl (k1 W Q QP))
(sq (hH W Q QP)
(bk 0 (sn
(cd (k3 W Q QP) (sl (k2 W Q QP)) tr)
(sq (iq W Q QP)
(cd (ir W Q QP) tr (sq (fi W Q QP)
(cd (eU W Q QP) tr (sq (dB W Q QP)
(cd (cZ W Q QP) tr (sq (k9 W Q QP)
(cd (k8 W Q QP) tr (sq (k7 W Q QP)
(cd (k6 W Q QP) tr (sq (k5 W Q QP)
(cd (k4 W Q QP) tr tr)))))))))))))))))) hp
attribute [simp] k1 k2 k3 k4 k5 k6 k7 k8 k9 cZ dB eU fi ir iq hH jA
end YQ
namespace Mo
def pl:dj:=[(5,⟨[(none,(fr 0 13))],false,[],[]⟩)]
def k1:OK:=fun _ Q _ s h=>
aH (s.tm 0) fun t1=>
ah (some 0) t1 fun t2=>
ao (some false) (some 1) t2 h fun t3 _=>
aH (s.tm 0) fun t5=>
ah (some 1) t5 fun t6=>
ao (some false) (some 1) t6 h fun t7 _=>
ai Pg .sub 3 true t7 (.sc (.int .i64 1)) fun t9=>
bB (some (3,none)) t3 t9 fun t10=>
ah (some 1) t10 fun t11=>
ao (some false) (some 1) t11 h fun t12 _=>
Q .ret ⟨ag s.tm [(15,(s.tm 0)),(16,t1),(17,t2),(18,t3),(19,(s.tm 0)),(20,t5),(21,t6),(22,t7),(23,t9),(24,t10),(25,t11),(26,t12),(2,t12)],s.ds⟩ h
def k2:OK:=fun W Q QP s h=>
aH (s.tm 0) fun t14=>
ah (some 1) t14 fun t15=>
ao (some false) (some 1) t15 h fun t16 _=>
ai Pg .add 3 true t16 (.sc (.int .i64 1)) fun t18=>
aH (s.tm 0) fun t19=>
ah (some 1) t19 fun t20=>
aD (some 1) t20 t18 h W fun qe=>
k1 W Q QP ⟨ag s.tm [(8,(s.tm 0)),(9,t14),(10,t15),(11,t16),(12,t18),(13,t19),(14,t20)],s.ds⟩ qe
def k3:OK:=fun _ Q _ s h=>
Q .ret ⟨ag s.tm [(2,(.sc (.string ⟨#[]⟩)))],s.ds⟩ h
def k4:OK:=fun W Q QP s h=>
aq Pg W 30 [(s.tm 0),(.sc (.int .i64 100))] h (fun t22 wQ=>
k3 W Q QP ⟨ag s.tm [(6,(s.tm 0)),(7,t22)],s.ds⟩ wQ) (QP s.ds)
def k5:OK:=fun W Q QP s h=>
aF (s.tm 5) (
k4 W Q QP s h) (
k2 W Q QP s h)
def k6:OK:=fun W Q QP s h=>
aq Pg W 35 [(s.tm 0)] h (fun t24 nQ=>
iH .not t24 fun t26=>
k5 W Q QP ⟨ag s.tm [(3,(s.tm 0)),(4,t24),(5,t26)],s.ds⟩ nQ) (QP s.ds)
def k7:OK:=fun W Q QP s h=>
k6 W Q QP ⟨ag s.tm [(2,(.sc (.string ⟨#[]⟩)))],s.ds⟩ h
theorem calls{x0:AV}{h:AH}{M:WK}{R:RK}(hp:k7 (fun id=>M id\/h.next<=id) (bQ Pg [.tmp 2] R) (aW R) (s0 [x0]) h):aA Pg 32 [x0] h M R:=
 kb (n:=27) (pl:=pl) k7 Tryz.mixed Tryz.func32 (fun W Q QP=>
(sq (k7 W Q QP)
(sn
(sq (k2 W Q QP)
(sl (k1 W Q QP)))
(sq (k6 W Q QP)
(cd (k5 W Q QP) (sq (k4 W Q QP)
(sl (k3 W Q QP))) tr))))) hp
attribute [simp] k1 k2 k3 k4 k5 k6 k7
end Mo
namespace Ak
def pl:dj:=[(1,⟨[(none,(fr 0 6)),(some (5,false),(fr 6 10)),(none,(fr 16 2)),(some (17,false),(fr 18 12)),(none,(fr 30 1))],false,[],[]⟩),(4,⟨[(none,(fr 0 13))],false,[],[]⟩)]
def k1:OK:=fun _ Q _ s h=>
Q .ret ⟨ag s.tm [(60,(s.tm 3)),(2,(s.tm 3))],s.ds⟩ h
def k2:OK:=fun W Q QP s h=>
aH (s.tm 0) fun t1=>
ah (some 1) t1 fun t2=>
ao (some false) (some 1) t2 h fun t3 _=>
ai Pg .add 3 true t3 (.sc (.int .i64 1)) fun t5=>
aH (s.tm 0) fun t6=>
ah (some 1) t6 fun t7=>
aD (some 1) t7 t5 h W fun h8=>
k1 W Q QP ⟨ag s.tm [(53,(s.tm 0)),(54,t1),(55,t2),(56,t3),(57,t5),(58,t6),(59,t7)],s.ds⟩ h8
def k3:OK:=fun _ Q _ s h=>
Q .ret ⟨ag s.tm [(2,(.sc (.int .i64 0)))],s.ds⟩ h
def k4:OK:=fun W Q QP s h=>
aq Pg W 30 [(s.tm 0),(.sc (.int .i64 1))] h (fun t9 mP=>
k3 W Q QP ⟨ag s.tm [(51,(s.tm 0)),(52,t9)],s.ds⟩ mP) (QP s.ds)
def k5:OK:=fun W Q QP s h=>
aF (s.tm 50) (
k4 W Q QP s h) (
k2 W Q QP s h)
def k6:OK:=fun W Q QP s h=>
ai Pg .lss 3 true (s.tm 3) (.sc (.int .i64 0)) fun t11=>
k5 W Q QP ⟨ag s.tm [(49,(s.tm 3)),(50,t11)],s.ds⟩ h
def k7:OK:=fun W Q QP s h=>
aH (s.tm 0) fun t12=>
ah (some 0) t12 fun t13=>
ao (some false) (some 1) t13 h fun t14 _=>
aH (s.tm 0) fun t16=>
ah (some 1) t16 fun t17=>
ao (some false) (some 1) t17 h fun t18 _=>
bB (some (3,none)) t14 t18 fun t20=>
ah (some 1) t20 fun t21=>
ao (some false) (some 1) t21 h fun t22 _=>
aq Pg W 70 [t22] h (fun t24 nQ=>
k6 W Q QP ⟨ag s.tm [(37,(s.tm 0)),(38,t12),(39,t13),(40,t14),(41,(s.tm 0)),(42,t16),(43,t17),(44,t18),(45,t20),(46,t21),(47,t22),(48,t24),(3,t24)],s.ds⟩ nQ) (QP s.ds)
def k8:OK:=fun _ Q _ s h=>
Q .ret ⟨ag s.tm [(2,(.sc (.int .i64 0)))],s.ds⟩ h
def k9:OK:=fun W Q QP s h=>
aq Pg W 30 [(s.tm 0),(.sc (.int .i64 100))] h (fun t26 qd=>
k8 W Q QP ⟨ag s.tm [(35,(s.tm 0)),(36,t26)],s.ds⟩ qd) (QP s.ds)
def cZ:OK:=fun W Q QP s h=>
aF (s.tm 34) (
k9 W Q QP s h) (
k7 W Q QP s h)
def dB:OK:=fun W Q QP s h=>
aO (s.tm 21) (.sc (.bool true)) (s.tm 33) fun t28=>
cZ W Q QP ⟨ag s.tm [(34,t28)],s.ds⟩ h
def eU:OK:=fun W Q QP s h=>
bw false (s.tm 21) (
aH (s.tm 0) fun t29=>
ah (some 0) t29 fun t30=>
ao (some false) (some 1) t30 h fun t31 _=>
aH (s.tm 0) fun t33=>
ah (some 1) t33 fun t34=>
ao (some false) (some 1) t34 h fun t35 _=>
bB (some (3,none)) t31 t35 fun t37=>
ah (some 0) t37 fun t38=>
ao (some false) (some 1) t38 h fun t39 _=>
ai Pg .neq 3 true t39 (.sc (.int .i64 2)) fun t41=>
dB W Q QP ⟨ag s.tm [(22,(s.tm 0)),(23,t29),(24,t30),(25,t31),(26,(s.tm 0)),(27,t33),(28,t34),(29,t35),(30,t37),(31,t38),(32,t39),(33,t41)],s.ds⟩ h) (
dB W Q QP ⟨ag s.tm [(22,ab),(23,ab),(24,ab),(25,ab),(26,ab),(27,ab),(28,ab),(29,ab),(30,ab),(31,ab),(32,ab),(33,ab)],s.ds⟩ h)
def fi:OK:=fun W Q QP s h=>
aO (s.tm 9) (.sc (.bool true)) (s.tm 19) fun t42=>
eU W Q QP ⟨ag s.tm [(20,t42),(21,t42)],s.ds⟩ h
def ir:OK:=fun W Q QP s h=>
bw false (s.tm 9) (
aH (s.tm 0) fun t43=>
ah (some 1) t43 fun t44=>
ao (some false) (some 1) t44 h fun t45 _=>
aH (s.tm 0) fun t47=>
ah (some 0) t47 fun t48=>
ao (some false) (some 1) t48 h fun t49 _=>
(aY t49=false)/\bL t49 fun t51=>
ai Pg .geq 3 false t45 t51 fun t52=>
fi W Q QP ⟨ag s.tm [(10,(s.tm 0)),(11,t43),(12,t44),(13,t45),(14,(s.tm 0)),(15,t47),(16,t48),(17,t49),(18,t51),(19,t52)],s.ds⟩ h) (
fi W Q QP ⟨ag s.tm [(10,ab),(11,ab),(12,ab),(13,ab),(14,ab),(15,ab),(16,ab),(17,ab),(18,ab),(19,ab)],s.ds⟩ h)
def iq:OK:=fun W Q QP s h=>
aH (s.tm 0) fun t53=>
ah (some 3) t53 fun t54=>
ao (some false) (some 1) t54 h fun t55 _=>
ai Pg .neq 3 true t55 (.sc (.int .i64 0)) fun t57=>
ir W Q QP ⟨ag s.tm [(4,(s.tm 0)),(5,t53),(6,t54),(7,t55),(8,t57),(9,t57)],s.ds⟩ h
def hH:OK:=fun W Q QP s h=>
iq W Q QP ⟨ag s.tm [(2,(.sc (.int .i64 0)))],s.ds⟩ h
theorem calls{x0:AV}{h:AH}{M:WK}{R:RK}(hp:hH (fun id=>M id\/h.next<=id) (bQ Pg [.tmp 2] R) (aW R) (s0 [x0]) h):aA Pg 33 [x0] h M R:=
 kb (n:=61) (pl:=pl) hH Tryz.mixed Tryz.func33 (fun W Q QP=>
(sq (hH W Q QP)
(sn
(sq (k7 W Q QP)
(sn
(sq (k2 W Q QP)
(sl (k1 W Q QP)))
(sq (k6 W Q QP)
(cd (k5 W Q QP) (sq (k4 W Q QP)
(sl (k3 W Q QP))) tr))))
(sn
(cd (cZ W Q QP) (sq (k9 W Q QP)
(sl (k8 W Q QP))) tr)
(gr (gn (iq W Q QP) (gx (ir W Q QP) (gn (fi W Q QP) (gx (eU W Q QP) (gl (dB W Q QP))))))))))) hp
attribute [simp] k1 k2 k3 k4 k5 k6 k7 k8 k9 cZ dB eU fi ir iq hH
end Ak
namespace Rh
def pl:dj:=[]
def k1:OK:=fun W Q _ s h=>
aH (s.tm 0) fun t1=>
ah (some 1) t1 fun t2=>
ao (some false) (some 1) t2 h fun t3 _=>
ai Pg .add 3 true t3 (.sc (.int .i64 1)) fun t5=>
aH (s.tm 0) fun t6=>
ah (some 1) t6 fun t7=>
aD (some 1) t7 t5 h W fun h8=>
Q .normal ⟨ag s.tm [(10,(s.tm 0)),(11,t1),(12,t2),(13,t3),(14,t5),(15,t6),(16,t7)],s.ds⟩ h8
def k2:OK:=fun W Q QP s h=>
aq Pg W 30 [(s.tm 0),(.sc (.int .i64 100))] h (fun t9 mP=>
Q .ret ⟨ag s.tm [(8,(s.tm 0)),(9,t9)],s.ds⟩ mP) (QP s.ds)
def k3:OK:=fun W Q QP s h=>
aF (s.tm 7) (
k2 W Q QP s h) (
k1 W Q QP s h)
def k4:OK:=fun W Q QP s h=>
aq Pg W 71 [(s.tm 0),(s.tm 1)] h (fun t11 rX=>
iH .not t11 fun t13=>
k3 W Q QP ⟨ag s.tm [(4,(s.tm 0)),(5,(s.tm 1)),(6,t11),(7,t13)],s.ds⟩ rX) (QP s.ds)
theorem calls{x0 x1:AV}{h:AH}{M:WK}{R:RK}(hp:k4 (fun id=>M id\/h.next<=id) (bQ Pg [] R) (aW R) (s0 [x0,x1]) h):aA Pg 34 [x0,x1] h M R:=
 kb (n:=17) (pl:=pl) k4 Tryz.mixed Tryz.func34 (fun W Q QP=>
(sn
(sm (k1 W Q QP))
(sq (k4 W Q QP)
(cd (k3 W Q QP) (sl (k2 W Q QP)) tr)))) hp
attribute [simp] k1 k2 k3 k4
end Rh
namespace Mi
section
variable (W:WK) (Q:cH) (QP:cb) (s:St) (h:AH)
noncomputable def code:Code:=Tryz.f70.body.getD .skip
def pl:dj:=[]
def k1:OK:=fun _ Q _ s h=>
Q .ret ⟨ag s.tm [(21,(s.tm 3)),(2,(s.tm 3))],s.ds⟩ h
def k2:OK:=fun _ Q _ s h=>
ai Pg .add 3 true (s.tm 4) (.sc (.int .i64 1)) fun t1=>
Q .normal ⟨ag s.tm [(9,(s.tm 4)),(10,t1),(4,t1)],s.ds⟩ h
def k3:OK:=fun _ Q _ s h=>
Q .ret ⟨ag s.tm [(2,(.sc (.int .i64 (-1))))],s.ds⟩ h
def k4:OK:=fun W Q QP s h=>
aF (s.tm 20) (
k3 W Q QP s h) (
k2 W Q QP s h)
def k5:OK:=fun W Q QP s h=>
ai Pg .gtr 3 true (s.tm 3) (.sc (.int .i64 9007199254740991)) fun t2=>
k4 W Q QP ⟨ag s.tm [(19,(s.tm 3)),(20,t2)],s.ds⟩ h
def k6:OK:=fun W Q QP s h=>
ai Pg .mul 3 true (s.tm 3) (.sc (.int .i64 10)) fun t3=>
m8 true (s.tm 0) (s.tm 4) fun t4=>
ai Pg .sub 5 true t4 (.sc (.int .u8 48)) fun t5=>
ql (some .i64) t5 fun t6=>
ai Pg .add 3 false t3 t6 fun t7=>
k5 W Q QP ⟨ag s.tm [(11,(s.tm 3)),(12,t3),(13,(s.tm 0)),(14,(s.tm 4)),(15,t4),(16,t5),(17,t6),(18,t7),(3,t7)],s.ds⟩ h
def k7:OK:=fun W Q QP s h=>
aF (s.tm 8) (
k6 W Q QP s h) (
Q (.exit 0) s h)
def k8:OK:=fun W Q QP s h=>
(aY (s.tm 0)=true)/\bL (s.tm 0) fun t8=>
ai Pg .lss 3 false (s.tm 4) t8 fun t9=>
k7 W Q QP ⟨ag s.tm [(5,(s.tm 4)),(6,(s.tm 0)),(7,t8),(8,t9)],s.ds⟩ h
noncomputable def c1:Code:=Code.at code [1,1,0,1,0,0]
theorem l1:aw Pg 22 W pl c1 Q QP s h=k8 W Q QP s h:=congrFun (congrFun (show TB ⟨Pg,22,pl⟩ W QP c1 Q (k8 W Q QP) from
(sn
(sn
(sm (k2 W Q QP))
(bk 1 (sq (k6 W Q QP)
(sq (k5 W Q QP)
(cd (k4 W Q QP) (sl (k3 W Q QP)) tr)))))
(sq (k8 W Q QP)
(cd (k7 W Q QP) tr tr)))) s) h
def k9:OK:=fun W Q QP s h=>hJ (aw Pg 22 W pl c1) (df 0 (bJ (k1 W Q QP) (Q))) QP s h
def cZ:OK:=fun W Q QP s h=>
k9 W Q QP ⟨ag s.tm [(4,(.sc (.int .i64 0)))],s.ds⟩ h
def dB:OK:=fun W Q QP s h=>
cZ W Q QP ⟨ag s.tm [(3,(.sc (.int .i64 0)))],s.ds⟩ h
def eU:OK:=fun W Q QP s h=>
dB W Q QP ⟨ag s.tm [(2,(.sc (.int .i64 0)))],s.ds⟩ h
end
theorem calls{x0:AV}{h:AH}{M:WK}{R:RK}(hp:eU (fun id=>M id\/h.next<=id) (bQ Pg [.tmp 2] R) (aW R) (s0 [x0]) h):aA Pg 70 [x0] h M R:=
 kb (n:=22) (pl:=pl) eU Tryz.mixed Tryz.func70 (fun W Q QP=>
(sq (eU W Q QP)
(sq (dB W Q QP)
(sn
(sl (k1 W Q QP))
(sq (cZ W Q QP)
(bk 0 (lo (k9 W Q QP)))))))) hp
attribute [simp] k1 k2 k3 k4 k5 k6 k7 k8 k9 cZ dB eU
end Mi
namespace rz
def pl:dj:=[]
def k1:OK:=fun W Q _ s h=>
ao (some true) (some 2) (s.tm 3) h fun t1 _=>
aD (some 2) (s.tm 2) t1 h W fun h3=>
Q .ret ⟨ag s.tm [(21,t1)],s.ds⟩ h3
def k2:OK:=fun W Q QP s h=>
aq Pg W 34 [(s.tm 0),(.sc (.string ⟨#[93]⟩))] h (fun t4 h5=>
k1 W Q QP ⟨ag s.tm [(19,(s.tm 0)),(20,t4)],s.ds⟩ h5) (QP s.ds)
def k3:OK:=fun W Q QP s h=>
aq Pg W 33 [(s.tm 0)] h (fun t6 h7=>
ah (some 1) (s.tm 3) fun t8=>
aD (some 1) t8 t6 h7 W fun h9=>
k2 W Q QP ⟨ag s.tm [(16,(s.tm 0)),(17,t6),(18,t8)],s.ds⟩ h9) (QP s.ds)
def k4:OK:=fun W Q QP s h=>
aH (s.tm 0) fun t10=>
ah (some 1) t10 fun t11=>
ao (some false) (some 1) t11 h fun t12 _=>
ai Pg .add 3 true t12 (.sc (.int .i64 1)) fun t14=>
aH (s.tm 0) fun t15=>
ah (some 1) t15 fun t16=>
aD (some 1) t16 t14 h W fun nR=>
k3 W Q QP ⟨ag s.tm [(9,(s.tm 0)),(10,t10),(11,t11),(12,t12),(13,t14),(14,t15),(15,t16)],s.ds⟩ nR
def k5:OK:=fun W Q QP s h=>
aF (s.tm 8) (
k4 W Q QP s h) (
k1 W Q QP s h)
def k6:OK:=fun W Q QP s h=>
aq Pg W 71 [(s.tm 0),(.sc (.string ⟨#[91]⟩))] h (fun t18 mM=>
k5 W Q QP ⟨ag s.tm [(7,(s.tm 0)),(8,t18)],s.ds⟩ mM) (QP s.ds)
def k7:OK:=fun W Q QP s h=>
aq Pg W 32 [(s.tm 0)] h (fun t20 qe=>
cN (some ([.string ⟨#[]⟩,.int .i64 0],.inl [(0,1),(1,1)])) [(0,t20),(1,(.sc (.int .i64 (-1))))] fun t22=>
bx (some [.string ⟨#[]⟩,.int .i64 0]) 2 92 qe fun t23 tY=>
aD (some 2) t23 t22 tY W fun nQ=>
k6 W Q QP ⟨ag s.tm [(4,(s.tm 0)),(5,t20),(6,t22),(3,t23)],s.ds⟩ nQ) (QP s.ds)
def k8:OK:=fun W Q QP s h=>
bx (some [.string ⟨#[]⟩,.int .i64 0]) 2 92 h fun t26 qd=>
k7 W Q QP ⟨ag s.tm [(2,t26)],s.ds⟩ qd
theorem calls{x0:AV}{h:AH}{M:WK}{R:RK}(hp:k8 (fun id=>M id\/h.next<=id) (bQ Pg [.cell 2 92] R) (aW R) (s0 [x0]) h):aA Pg 37 [x0] h M R:=
 kb (n:=22) (pl:=pl) k8 Tryz.mixed Tryz.func37 (fun W Q QP=>
(sq (k8 W Q QP)
(sq (k7 W Q QP)
(sn
(sl (k1 W Q QP))
(sq (k6 W Q QP)
(cd (k5 W Q QP) (sq (k4 W Q QP)
(sq (k3 W Q QP)
(sm (k2 W Q QP)))) tr)))))) hp
attribute [simp] k1 k2 k3 k4 k5 k6 k7 k8
end rz
namespace oI
section
variable (W:WK) (Q:cH) (QP:cb) (s:St) (h:AH)
noncomputable def code:Code:=Tryz.f36.body.getD .skip
def pl:dj:=[(0,⟨[(none,(fr 0 3)),(some (2,true),(fr 3 2)),(none,(fr 5 1))],false,[],[]⟩),(3,⟨[(none,(fr 0 6)),(some (5,true),(fr 6 3)),(none,(fr 9 1))],false,[],[]⟩)]
def k1:OK:=fun W Q QP s h=>
aq Pg W 34 [(s.tm 0),(.sc (.string ⟨#[125]⟩))] h (fun t1 h2=>
Q .normal ⟨ag s.tm [(27,(s.tm 0)),(28,t1)],s.ds⟩ h2) (QP s.ds)
def k2:OK:=fun W Q QP s h=>
aq Pg W 14 [(s.tm 0),(s.tm 1)] h (fun t3 h4=>
Q .normal ⟨ag s.tm [(24,(s.tm 0)),(25,(s.tm 1)),(26,t3)],s.ds⟩ h4) (QP s.ds)
def k3:OK:=fun W Q QP s h=>
aF (s.tm 23) (
k2 W Q QP s h) (
Q (.exit 0) s h)
def k4:OK:=fun W Q QP s h=>
aO (s.tm 19) (s.tm 22) (.sc (.bool false)) fun t5=>
k3 W Q QP ⟨ag s.tm [(23,t5)],s.ds⟩ h
def k5:OK:=fun W Q QP s h=>
bw true (s.tm 19) (
aq Pg W 71 [(s.tm 0),(.sc (.string ⟨#[125]⟩))] h (fun t6 h7=>
iH .not t6 fun t8=>
k4 W Q QP ⟨ag s.tm [(20,(s.tm 0)),(21,t6),(22,t8)],s.ds⟩ h7) (QP s.ds)) (
k4 W Q QP ⟨ag s.tm [(20,ab),(21,ab),(22,ab)],s.ds⟩ h)
def k6:OK:=fun W Q QP s h=>
aH (s.tm 0) fun t9=>
ah (some 3) t9 fun t10=>
ao (some false) (some 1) t10 h fun t11 _=>
ai Pg .eql 3 true t11 (.sc (.int .i64 0)) fun t13=>
k5 W Q QP ⟨ag s.tm [(14,(s.tm 0)),(15,t9),(16,t10),(17,t11),(18,t13),(19,t13)],s.ds⟩ h
noncomputable def c1:Code:=Code.at code [1,1,0,0,0]
theorem l1:aw Pg 29 W pl c1 Q QP s h=k6 W Q QP s h:=congrFun (congrFun (show TB ⟨Pg,29,pl⟩ W QP c1 Q (k6 W Q QP) from
(sn
(bk 1 (sm (k2 W Q QP)))
(sn
(cd (k3 W Q QP) tr tr)
(gr (gn (k6 W Q QP) (gx (k5 W Q QP) (gl (k4 W Q QP)))))))) s) h
def k7:OK:=fun W Q QP s h=>hJ (aw Pg 29 W pl c1) (df 0 (bJ (k1 W Q QP) (Q))) QP s h
def k8:OK:=fun W Q QP s h=>
aq Pg W 34 [(s.tm 0),(.sc (.string ⟨#[123]⟩))] h (fun t14 qf=>
k7 W Q QP ⟨ag s.tm [(12,(s.tm 0)),(13,t14)],s.ds⟩ qf) (QP s.ds)
def k9:OK:=fun W Q QP s h=>
aq Pg W 30 [(s.tm 0),(.sc (.int .i64 102))] h (fun t16 nR=>
Q .ret ⟨ag s.tm [(10,(s.tm 0)),(11,t16)],s.ds⟩ nR) (QP s.ds)
def cZ:OK:=fun W Q QP s h=>
aF (s.tm 9) (
k9 W Q QP s h) (
k8 W Q QP s h)
def dB:OK:=fun W Q QP s h=>
aO (s.tm 6) (s.tm 8) (.sc (.bool false)) fun t18=>
cZ W Q QP ⟨ag s.tm [(9,t18)],s.ds⟩ h
def eU:OK:=fun W Q QP s h=>
bw true (s.tm 6) (
ai Pg .gtr 3 true (s.tm 1) (.sc (.int .i64 32)) fun t19=>
dB W Q QP ⟨ag s.tm [(7,(s.tm 1)),(8,t19)],s.ds⟩ h) (
dB W Q QP ⟨ag s.tm [(7,ab),(8,ab)],s.ds⟩ h)
def fi:OK:=fun W Q QP s h=>
aq Pg W 71 [(s.tm 0),(.sc (.string ⟨#[123]⟩))] h (fun t20 qe=>
eU W Q QP ⟨ag s.tm [(4,(s.tm 0)),(5,t20),(6,t20)],s.ds⟩ qe) (QP s.ds)
end
theorem calls{x0 x1:AV}{h:AH}{M:WK}{R:RK}(hp:fi (fun id=>M id\/h.next<=id) (bQ Pg [] R) (aW R) (s0 [x0,x1]) h):aA Pg 36 [x0,x1] h M R:=
 kb (n:=29) (pl:=pl) fi Tryz.mixed Tryz.func36 (fun W Q QP=>
(sn
(sq (k8 W Q QP)
(sn
(sm (k1 W Q QP))
(bk 0 (lo (k7 W Q QP)))))
(sn
(cd (cZ W Q QP) (sl (k9 W Q QP)) tr)
(gr (gn (fi W Q QP) (gx (eU W Q QP) (gl (dB W Q QP)))))))) hp
attribute [simp] k1 k2 k3 k4 k5 k6 k7 k8 k9 cZ dB eU fi
end oI
namespace cM
section
variable (W:WK) (Q:cH) (QP:cb) (s:St) (h:AH)
noncomputable def code:Code:=Tryz.f14.body.getD .skip
def pl:dj:=[(0,⟨[(none,(fr 0 11)),(some (10,false),(fr 11 12)),(none,(fr 23 1))],false,[],[]⟩),(2,⟨[(none,(fr 0 12))],false,[],[]⟩),(8,⟨[(none,(fr 0 11))],false,[],[]⟩),(23,⟨[(none,[(0,false),(1,true),(2,false),(3,false),(4,false),(5,false),(6,false),(7,false),(8,false)])],true,[],[]⟩),(42,⟨[(none,(fr 0 8))],false,[],[]⟩)]
def k1:OK:=fun W Q _ s h=>
aH (s.tm 0) fun t1=>
ah (some 5) t1 fun t2=>
ao (some false) (some 1) t2 h fun t3 _=>
ao (some true) (some 6) (s.tm 6) h fun t5 _=>
bB (some (6,none)) t3 (s.tm 5) fun t7=>
aD (some 6) t7 t5 h W fun h8=>
Q .normal ⟨ag s.tm [(176,(s.tm 0)),(177,t1),(178,t2),(179,t3),(180,(s.tm 5)),(181,t5),(182,t7)],s.ds⟩ h8
def k2:OK:=fun W Q QP s h=>
aH (s.tm 0) fun t9=>
ah (some 5) t9 fun t10=>
ao (some false) (some 1) t10 h fun t11 _=>
(aY t11=false)/\bL t11 fun t13=>
ai Pg .sub 3 false t13 (s.tm 5) fun t14=>
ai Pg .sub 3 true t14 (.sc (.int .i64 1)) fun t15=>
ah (some 4) (s.tm 6) fun t16=>
aD (some 1) t16 t15 h W fun nR=>
k1 W Q QP ⟨ag s.tm [(167,(s.tm 0)),(168,t9),(169,t10),(170,t11),(171,t13),(172,(s.tm 5)),(173,t14),(174,t15),(175,t16)],s.ds⟩ nR
def k3:OK:=fun W Q QP s h=>
aq Pg W 34 [(s.tm 0),(.sc (.string ⟨#[59]⟩))] h (fun t18 mM=>
k2 W Q QP ⟨ag s.tm [(104,(s.tm 0)),(105,t18)],s.ds⟩ mM) (QP s.ds)
def k4:OK:=fun W Q QP s h=>
aq Pg W 33 [(s.tm 0)] h (fun t20 qe=>
ah (some 3) (s.tm 6) fun t22=>
aD (some 1) t22 t20 qe W fun wQ=>
k3 W Q QP ⟨ag s.tm [(101,(s.tm 0)),(102,t20),(103,t22)],s.ds⟩ wQ) (QP s.ds)
def k5:OK:=fun W Q QP s h=>
aq Pg W 32 [(s.tm 0)] h (fun t24 nQ=>
ah (some 1) (s.tm 6) fun t26=>
aD (some 1) t26 t24 nQ W fun qd=>
k4 W Q QP ⟨ag s.tm [(98,(s.tm 0)),(99,t24),(100,t26)],s.ds⟩ qd) (QP s.ds)
def k6:OK:=fun W Q QP s h=>
ai Pg .add 3 true (s.tm 1) (.sc (.int .i64 1)) fun t28=>
aq Pg W 36 [(s.tm 0),t28] h (fun t29 wP=>
k2 W Q QP ⟨ag s.tm [(121,(s.tm 0)),(122,(s.tm 1)),(123,t28),(124,t29)],s.ds⟩ wP) (QP s.ds)
def k7:OK:=fun W Q QP s h=>
∃Hd:Nat->Nat,(∀i∈[1],h.obj (Hd i)≠none)/\(
ah (some 2) (s.tm 6) fun t31=>
ao (some false) (some 1) t31 h fun t32 i33=>
(i33=Hd 1)/\(
aq Pg (iZ W Hd [1]) 32 [(s.tm 0)] h (fun t34 kK=>
cN (some ([.string ⟨#[]⟩,.int .i64 0],.inl [(0,1),(1,1)])) [(0,t34),(1,(.sc (.int .i64 (-1))))] fun t36=>
dG (some (2,92,[.string ⟨#[]⟩,.int .i64 0])) 1 [(0,t36)] kK fun t37 zy=>
fE (some (2,24,92)) t32 t37 zy W fun t39 zx=>
ah (some 2) (s.tm 6) fun t41=>
aD (some 1) t41 t39 zx W fun zw=>
Q .normal ⟨ag s.tm [(113,t31),(114,t32),(115,(s.tm 0)),(116,t34),(117,t36),(118,t37),(119,t39),(120,t41)],s.ds⟩ zw) (QP s.ds)))
def k8:OK:=fun W Q QP s h=>
aF (s.tm 112) (
k7 W Q QP s h) (
Q (.exit 3) s h)
def k9:OK:=fun W Q QP s h=>
aq Pg W 35 [(s.tm 0)] h (fun t43 wL=>
k8 W Q QP ⟨ag s.tm [(111,(s.tm 0)),(112,t43)],s.ds⟩ wL) (QP s.ds)
noncomputable def c1:Code:=Code.at code [1,1,1,1,1,1,0,1,0,1,1,1,0,1,0,0,0]
theorem l1:aw Pg 183 W pl c1 Q QP s h=k9 W Q QP s h:=congrFun (congrFun (show TB ⟨Pg,183,pl⟩ W QP c1 Q (k9 W Q QP) from
(sn
(bk 4 (sm (k7 W Q QP)))
(sq (k9 W Q QP)
(cd (k8 W Q QP) tr tr)))) s) h
def cZ:OK:=fun W Q QP s h=>hJ (aw Pg 183 W pl c1) (df 3 (bJ (k6 W Q QP) (df 0 (bJ (k2 W Q QP) (Q))))) QP s h
def dB:OK:=fun W Q QP s h=>
aq Pg W 32 [(s.tm 0)] h (fun t45 zu=>
ah (some 1) (s.tm 6) fun t47=>
aD (some 1) t47 t45 zu W fun qa=>
cZ W Q QP ⟨ag s.tm [(108,(s.tm 0)),(109,t45),(110,t47)],s.ds⟩ qa) (QP s.ds)
def eU:OK:=fun W Q QP s h=>
ai Pg .add 3 true (s.tm 1) (.sc (.int .i64 1)) fun t49=>
aq Pg W 36 [(s.tm 0),t49] h (fun t50 sS=>
k2 W Q QP ⟨ag s.tm [(130,(s.tm 0)),(131,(s.tm 1)),(132,t49),(133,t50)],s.ds⟩ sS) (QP s.ds)
def fi:OK:=fun W Q QP s h=>
aq Pg W 33 [(s.tm 0)] h (fun t52 tU=>
ah (some 3) (s.tm 6) fun t54=>
aD (some 1) t54 t52 tU W fun sR=>
eU W Q QP ⟨ag s.tm [(127,(s.tm 0)),(128,t52),(129,t54)],s.ds⟩ sR) (QP s.ds)
def ir:OK:=fun W Q QP s h=>
ai Pg .add 3 true (s.tm 1) (.sc (.int .i64 1)) fun t56=>
aq Pg W 36 [(s.tm 0),t56] h (fun t57 xZ=>
k2 W Q QP ⟨ag s.tm [(142,(s.tm 0)),(143,(s.tm 1)),(144,t56),(145,t57)],s.ds⟩ xZ) (QP s.ds)
def iq:OK:=fun W Q QP s h=>
aq Pg W 33 [(s.tm 0)] h (fun t59 Vk=>
ah (some 3) (s.tm 6) fun t61=>
aD (some 1) t61 t59 Vk W fun Cd=>
ir W Q QP ⟨ag s.tm [(139,(s.tm 0)),(140,t59),(141,t61)],s.ds⟩ Cd) (QP s.ds)
def hH:OK:=fun W Q QP s h=>
aq Pg W 32 [(s.tm 0)] h (fun t63 wI=>
ah (some 1) (s.tm 6) fun t65=>
aD (some 1) t65 t63 wI W fun Gi=>
iq W Q QP ⟨ag s.tm [(136,(s.tm 0)),(137,t63),(138,t65)],s.ds⟩ Gi) (QP s.ds)
def jA:OK:=fun W Q QP s h=>
aq Pg W 34 [(s.tm 0),(.sc (.string ⟨#[59]⟩))] h (fun t67 Gh=>
k2 W Q QP ⟨ag s.tm [(156,(s.tm 0)),(157,t67)],s.ds⟩ Gh) (QP s.ds)
def lx:OK:=fun W Q QP s h=>
ao (some true) (some 2) (s.tm 7) h fun t69 _=>
ao (some true) (some 2) (s.tm 8) h fun t71 _=>
dG (some (2,92,[.string ⟨#[]⟩,.int .i64 0,.string ⟨#[]⟩,.int .i64 0])) 2 [(0,t69),(1,t71)] h fun t73 Cc=>
ah (some 2) (s.tm 6) fun t75=>
aD (some 1) t75 t73 Cc W fun Ge=>
jA W Q QP ⟨ag s.tm [(152,t69),(153,t71),(154,t73),(155,t75)],s.ds⟩ Ge
def ml:OK:=fun W Q QP s h=>
aq Pg W 37 [(s.tm 0)] h (fun t77 Cb=>
bx (some [.string ⟨#[]⟩,.int .i64 0]) 2 92 Cb fun t79 xW=>
aD (some 2) t79 t77 xW W fun Gd=>
lx W Q QP ⟨ag s.tm [(150,(s.tm 0)),(151,t77),(8,t79)],s.ds⟩ Gd) (QP s.ds)
def lP:OK:=fun W Q QP s h=>
aq Pg W 37 [(s.tm 0)] h (fun t82 LF=>
bx (some [.string ⟨#[]⟩,.int .i64 0]) 2 92 LF fun t84 ri=>
aD (some 2) t84 t82 ri W fun LD=>
ml W Q QP ⟨ag s.tm [(148,(s.tm 0)),(149,t82),(7,t84)],s.ds⟩ LD) (QP s.ds)
def nf:OK:=fun W Q QP s h=>
aq Pg W 34 [(s.tm 0),(.sc (.string ⟨#[59]⟩))] h (fun t87 LC=>
k2 W Q QP ⟨ag s.tm [(165,(s.tm 0)),(166,t87)],s.ds⟩ LC) (QP s.ds)
def kV:OK:=fun W Q QP s h=>
ao (some true) (some 2) (s.tm 9) h fun t89 _=>
dG (some (2,92,[.string ⟨#[]⟩,.int .i64 0])) 1 [(0,t89)] h fun t91 LA=>
ah (some 2) (s.tm 6) fun t93=>
aD (some 1) t93 t91 LA W fun B_=>
nf W Q QP ⟨ag s.tm [(162,t89),(163,t91),(164,t93)],s.ds⟩ B_
def mj:OK:=fun W Q QP s h=>
aq Pg W 37 [(s.tm 0)] h (fun t95 Gb=>
bx (some [.string ⟨#[]⟩,.int .i64 0]) 2 92 Gb fun t97 Ga=>
aD (some 2) t97 t95 Ga W fun h99=>
kV W Q QP ⟨ag s.tm [(160,(s.tm 0)),(161,t95),(9,t97)],s.ds⟩ h99) (QP s.ds)
def mI:OK:=fun W Q QP s h=>
aq Pg W 34 [(s.tm 0),(.sc (.string ⟨#[59]⟩))] h (fun t100 abq=>
k2 W Q QP ⟨ag s.tm [(93,(s.tm 0)),(94,t100)],s.ds⟩ abq) (QP s.ds)
def pB:OK:=fun W Q _ s h=>
ah (some 2) (s.tm 6) fun t102=>
ao (some false) (some 1) t102 h fun t103 _=>
ao (some true) (some 2) (s.tm 10) h fun t105 _=>
dG (some (2,92,[.string ⟨#[]⟩,.int .i64 0])) 1 [(0,t105)] h fun t107 vQ=>
fE (some (2,24,92)) t103 t107 vQ W fun t109 Gs=>
ah (some 2) (s.tm 6) fun t111=>
aD (some 1) t111 t109 Gs W fun Gr=>
Q .normal ⟨ag s.tm [(87,t102),(88,t103),(89,t105),(90,t107),(91,t109),(92,t111)],s.ds⟩ Gr
def pV:OK:=fun W Q QP s h=>
aq Pg W 37 [(s.tm 0)] h (fun t113 Gq=>
bx (some [.string ⟨#[]⟩,.int .i64 0]) 2 92 Gq fun t115 Od=>
aD (some 2) t115 t113 Od W fun abo=>
pB W Q QP ⟨ag s.tm [(85,(s.tm 0)),(86,t113),(10,t115)],s.ds⟩ abo) (QP s.ds)
def oB:OK:=fun W Q QP s h=>
aF (s.tm 84) (
pV W Q QP s h) (
Q (.exit 1) s h)
def oY:OK:=fun W Q QP s h=>
aq Pg W 35 [(s.tm 0)] h (fun t118 Oc=>
oB W Q QP ⟨ag s.tm [(83,(s.tm 0)),(84,t118)],s.ds⟩ Oc) (QP s.ds)
noncomputable def c2:Code:=Code.at code [1,1,1,1,1,1,0,1,0,1,1,1,1,1,1,1,1,1,1,1,1,1,0,0,0]
theorem l2:aw Pg 183 W pl c2 Q QP s h=oY W Q QP s h:=congrFun (congrFun (show TB ⟨Pg,183,pl⟩ W QP c2 Q (oY W Q QP) from
(sn
(bk 2 (sq (pV W Q QP)
(sm (pB W Q QP))))
(sq (oY W Q QP)
(cd (oB W Q QP) tr tr)))) s) h
def pA:OK:=fun W Q QP s h=>hJ (aw Pg 183 W pl c2) (df 1 (bJ (mI W Q QP) (df 0 (bJ (k2 W Q QP) (Q))))) QP s h
def mH:OK:=fun W Q QP s h=>
aq Pg W 32 [(s.tm 0)] h (fun t120 Ob=>
ah (some 1) (s.tm 6) fun t122=>
aD (some 1) t122 t120 Ob W fun Oa=>
pA W Q QP ⟨ag s.tm [(80,(s.tm 0)),(81,t120),(82,t122)],s.ds⟩ Oa) (QP s.ds)
def oX:OK:=fun W Q QP s h=>
aF (s.tm 158) (
mj W Q QP s h) (
mH W Q QP s h)
def nN:OK:=fun W Q QP s h=>
ai Pg .eql 9 true (s.tm 79) (.sc (.string ⟨#[114,101,115,101,116]⟩)) fun t124=>
oX W Q QP ⟨ag s.tm [(159,t124),(158,t124)],s.ds⟩ h
def pz:OK:=fun W Q QP s h=>
aF (s.tm 146) (
lP W Q QP s h) (
nN W Q QP s h)
def py:OK:=fun W Q QP s h=>
ai Pg .eql 9 true (s.tm 79) (.sc (.string ⟨#[109,101,97,115,117,114,101]⟩)) fun t125=>
pz W Q QP ⟨ag s.tm [(147,t125),(146,t125)],s.ds⟩ h
def re:OK:=fun W Q QP s h=>
aF (s.tm 134) (
hH W Q QP s h) (
py W Q QP s h)
def nM:OK:=fun W Q QP s h=>
ai Pg .eql 9 true (s.tm 79) (.sc (.string ⟨#[105,102]⟩)) fun t126=>
re W Q QP ⟨ag s.tm [(135,t126),(134,t126)],s.ds⟩ h
def q_:OK:=fun W Q QP s h=>
aF (s.tm 125) (
fi W Q QP s h) (
nM W Q QP s h)
def oA:OK:=fun W Q QP s h=>
ai Pg .eql 9 true (s.tm 79) (.sc (.string ⟨#[114,101,112,101,97,116]⟩)) fun t127=>
q_ W Q QP ⟨ag s.tm [(126,t127),(125,t127)],s.ds⟩ h
def pt:OK:=fun W Q QP s h=>
aF (s.tm 106) (
dB W Q QP s h) (
oA W Q QP s h)
def oW:OK:=fun W Q QP s h=>
ai Pg .eql 9 true (s.tm 79) (.sc (.string ⟨#[103,97,116,101]⟩)) fun t128=>
pt W Q QP ⟨ag s.tm [(107,t128),(106,t128)],s.ds⟩ h
def pU:OK:=fun W Q QP s h=>
aF (s.tm 95) (
k5 W Q QP s h) (
oW W Q QP s h)
def lu:OK:=fun W Q QP s h=>
aF (s.tm 95) (
pU W Q QP s h) (
ai Pg .eql 9 true (s.tm 79) (.sc (.string ⟨#[98,105,116,115]⟩)) fun t129=>
pU W Q QP ⟨ag s.tm [(97,t129),(95,t129)],s.ds⟩ h)
def rN:OK:=fun W Q QP s h=>
ai Pg .eql 9 true (s.tm 79) (.sc (.string ⟨#[113,117,98,105,116,115]⟩)) fun t130=>
lu W Q QP ⟨ag s.tm [(96,t130),(95,t130)],s.ds⟩ h
def xK:OK:=fun W Q QP s h=>
ah (some 0) (s.tm 6) fun t131=>
ao (some false) (some 1) t131 h fun t132 _=>
rN W Q QP ⟨ag s.tm [(78,t131),(79,t132)],s.ds⟩ h
def wA:OK:=fun W Q QP s h=>
aH (s.tm 0) fun t134=>
ah (some 5) t134 fun t135=>
ao (some false) (some 1) t135 h fun t136 _=>
ao (some true) (some 6) (s.tm 6) h fun t138 _=>
dG (some (6,87,[.string ⟨#[]⟩,.string ⟨#[]⟩,.slice none 0 0,.int .i64 0,.int .i64 0,.int .i64 0])) 1 [(0,t138)] h fun t140 Gn=>
fE (some (6,80,87)) t136 t140 Gn W fun t142 NY=>
aH (s.tm 0) fun t144=>
ah (some 5) t144 fun t145=>
aD (some 1) t145 t142 NY W fun abg=>
xK W Q QP ⟨ag s.tm [(68,(s.tm 0)),(69,(s.tm 0)),(70,t134),(71,t135),(72,t136),(73,t138),(74,t140),(75,t142),(76,t144),(77,t145)],s.ds⟩ abg
def zg:OK:=fun W Q QP s h=>
aH (s.tm 0) fun t147=>
ah (some 1) t147 fun t148=>
ao (some false) (some 1) t148 h fun t149 _=>
ai Pg .add 3 true t149 (.sc (.int .i64 1)) fun t151=>
aH (s.tm 0) fun t152=>
ah (some 1) t152 fun t153=>
aD (some 1) t153 t151 h W fun abb=>
wA W Q QP ⟨ag s.tm [(61,(s.tm 0)),(62,t147),(63,t148),(64,t149),(65,t151),(66,t152),(67,t153)],s.ds⟩ abb
def zf:OK:=fun W Q QP s h=>
ah (some 1) (s.tm 4) fun t155=>
ao (some false) (some 1) t155 h fun t156 _=>
ah (some 0) (s.tm 6) fun t158=>
aD (some 1) t158 t156 h W fun Gm=>
zg W Q QP ⟨ag s.tm [(58,t155),(59,t156),(60,t158)],s.ds⟩ Gm
def uO:OK:=fun W Q QP s h=>
aF (s.tm 57) (
zf W Q QP s h) (
wA W Q QP s h)
def DP:OK:=fun W Q QP s h=>
ah (some 1) (s.tm 4) fun t160=>
ao (some false) (some 1) t160 h fun t161 _=>
aq Pg W 31 [t161] h (fun t163 aa_=>
uO W Q QP ⟨ag s.tm [(55,t160),(56,t161),(57,t163)],s.ds⟩ aa_) (QP s.ds)
def BH:OK:=fun W Q QP s h=>
ah (some 2) (s.tm 4) fun t165=>
ao (some false) (some 1) t165 h fun t166 _=>
cN (some ([.string ⟨#[]⟩,.string ⟨#[]⟩,.slice none 0 0,.int .i64 0,.int .i64 0,.int .i64 0],.inl [(0,1),(1,1),(2,1),(3,1),(4,1),(5,1)])) [(0,(.sc (.string ⟨#[117,115,101]⟩))),(5,t166)] fun t168=>
bx (some [.string ⟨#[]⟩,.string ⟨#[]⟩,.slice none 0 0,.int .i64 0,.int .i64 0,.int .i64 0]) 6 87 h fun t169 aa7=>
aD (some 6) t169 t168 aa7 W fun aa6=>
DP W Q QP ⟨ag s.tm [(52,t165),(53,t166),(54,t168),(6,t169)],s.ds⟩ aa6
def ze:OK:=fun W Q QP s h=>
aH (s.tm 0) fun t172=>
ah (some 5) t172 fun t173=>
ao (some false) (some 1) t173 h fun t174 _=>
(aY t174=false)/\bL t174 fun t176=>
BH W Q QP ⟨ag s.tm [(47,(s.tm 0)),(48,t172),(49,t173),(50,t174),(51,t176),(5,t176)],s.ds⟩ h
def xJ:OK:=fun W Q QP s h=>
aH (s.tm 0) fun t177=>
ah (some 0) t177 fun t178=>
ao (some false) (some 1) t178 h fun t179 _=>
aH (s.tm 0) fun t181=>
ah (some 1) t181 fun t182=>
ao (some false) (some 1) t182 h fun t183 _=>
bB (some (3,none)) t179 t183 fun t185=>
ao (some true) (some 3) t185 h fun t186 _=>
bx (some [.int .i64 0,.string ⟨#[]⟩,.int .i64 0]) 3 84 h fun t188 aaZ=>
aD (some 3) t188 t186 aaZ W fun NU=>
ze W Q QP ⟨ag s.tm [(37,(s.tm 0)),(38,t177),(39,t178),(40,t179),(41,(s.tm 0)),(42,t181),(43,t182),(44,t183),(45,t185),(46,t186),(4,t188)],s.ds⟩ NU
def uN:OK:=fun W Q QP s h=>
aq Pg W 30 [(s.tm 0),(.sc (.int .i64 100))] h (fun t191 aaX=>
Q .ret ⟨ag s.tm [(35,(s.tm 0)),(36,t191)],s.ds⟩ aaX) (QP s.ds)
def BG:OK:=fun W Q QP s h=>
aF (s.tm 34) (
uN W Q QP s h) (
xJ W Q QP s h)
def Qe:OK:=fun W Q QP s h=>
aO (s.tm 21) (.sc (.bool true)) (s.tm 33) fun t193=>
BG W Q QP ⟨ag s.tm [(34,t193)],s.ds⟩ h
def Ug:OK:=fun W Q QP s h=>
bw false (s.tm 21) (
aH (s.tm 0) fun t194=>
ah (some 0) t194 fun t195=>
ao (some false) (some 1) t195 h fun t196 _=>
aH (s.tm 0) fun t198=>
ah (some 1) t198 fun t199=>
ao (some false) (some 1) t199 h fun t200 _=>
bB (some (3,none)) t196 t200 fun t202=>
ah (some 0) t202 fun t203=>
ao (some false) (some 1) t203 h fun t204 _=>
ai Pg .neq 3 true t204 (.sc (.int .i64 1)) fun t206=>
Qe W Q QP ⟨ag s.tm [(22,(s.tm 0)),(23,t194),(24,t195),(25,t196),(26,(s.tm 0)),(27,t198),(28,t199),(29,t200),(30,t202),(31,t203),(32,t204),(33,t206)],s.ds⟩ h) (
Qe W Q QP ⟨ag s.tm [(22,ab),(23,ab),(24,ab),(25,ab),(26,ab),(27,ab),(28,ab),(29,ab),(30,ab),(31,ab),(32,ab),(33,ab)],s.ds⟩ h)
def Qd:OK:=fun W Q QP s h=>
aH (s.tm 0) fun t207=>
ah (some 1) t207 fun t208=>
ao (some false) (some 1) t208 h fun t209 _=>
aH (s.tm 0) fun t211=>
ah (some 0) t211 fun t212=>
ao (some false) (some 1) t212 h fun t213 _=>
(aY t213=false)/\bL t213 fun t215=>
ai Pg .geq 3 false t209 t215 fun t216=>
Ug W Q QP ⟨ag s.tm [(11,(s.tm 0)),(12,t207),(13,t208),(14,t209),(15,(s.tm 0)),(16,t211),(17,t212),(18,t213),(19,t215),(20,t216),(21,t216)],s.ds⟩ h
end
theorem calls{x0 x1:AV}{h:AH}{M:WK}{R:RK}(hp:Qd (fun id=>M id\/h.next<=id) (bQ Pg [] R) (aW R) (s0 [x0,x1]) h):aA Pg 14 [x0,x1] h M R:=
 kb (n:=183) (pl:=pl) Qd Tryz.mixed Tryz.func14 (fun W Q QP=>
(sn
(sq (xJ W Q QP)
(sq (ze W Q QP)
(sq (BH W Q QP)
(sn
(sq (wA W Q QP)
(sn
(sq (k2 W Q QP)
(sm (k1 W Q QP)))
(sq (xK W Q QP)
(bk 0 (sn
(cd (pU W Q QP) (sq (k5 W Q QP)
(sq (k4 W Q QP)
(sm (k3 W Q QP)))) (sq (oW W Q QP)
(cd (pt W Q QP) (sq (dB W Q QP)
(sn
(sm (k6 W Q QP))
(bk 3 (lo (cZ W Q QP))))) (sq (oA W Q QP)
(cd (q_ W Q QP) (sq (fi W Q QP)
(sm (eU W Q QP))) (sq (nM W Q QP)
(cd (re W Q QP) (sq (hH W Q QP)
(sq (iq W Q QP)
(sm (ir W Q QP)))) (sq (py W Q QP)
(cd (pz W Q QP) (sq (lP W Q QP)
(sq (ml W Q QP)
(sq (lx W Q QP)
(sm (jA W Q QP))))) (sq (nN W Q QP)
(cd (oX W Q QP) (sq (mj W Q QP)
(sq (kV W Q QP)
(sm (nf W Q QP)))) (sq (mH W Q QP)
(sn
(sm (mI W Q QP))
(bk 1 (lo (pA W Q QP))))))))))))))))
(sq (rN W Q QP)
(cd (lu W Q QP) tr tr)))))))
(sq (DP W Q QP)
(cd (uO W Q QP) (sq (zf W Q QP)
(sm (zg W Q QP))) tr))))))
(sn
(cd (BG W Q QP) (sl (uN W Q QP)) tr)
(gr (gn (Qd W Q QP) (gx (Ug W Q QP) (gl (Qe W Q QP)))))))) hp
attribute [simp] k1 k2 k3 k4 k5 k6 k7 k8 k9 cZ dB eU fi ir iq hH jA lx ml lP nf kV mj mI pB pV oB oY pA mH oX nN pz py re nM q_ oA pt oW pU lu rN xK wA zg zf uO DP BH ze xJ uN BG Qe Ug Qd
end cM
end
section
open Go.Ab
namespace F8
section
variable (W:WK) (Q:cH) (QP:cb) (s:St) (h:AH)
noncomputable def code:Code:=Tryz.f8.body.getD .skip
def pl:dj:=[(5,⟨[(none,(fr 0 6)),(some (5,true),(fr 6 10)),(none,(fr 16 1))],false,[],[]⟩),(8,⟨[(none,(fr 0 11))],false,[],[]⟩)]
def k1:OK:=fun _ Q _ s h=>
aH (s.tm 8) fun t1=>
ah (some 5) t1 fun t2=>
ao (some false) (some 1) t2 h fun t3 _=>
Q .ret ⟨ag s.tm [(56,(s.tm 8)),(57,t1),(58,t2),(59,t3),(2,t3),(3,(.sc (.int .i64 0))),(4,(.sc (.int .i64 0)))],s.ds⟩ h
def k2:OK:=fun _ Q _ s h=>
aH (s.tm 8) fun t5=>
ah (some 4) t5 fun t6=>
ao (some false) (some 1) t6 h fun t7 _=>
aH (s.tm 8) fun t9=>
ah (some 3) t9 fun t10=>
ao (some false) (some 1) t10 h fun t11 _=>
Q .ret ⟨ag s.tm [(48,(s.tm 8)),(49,t5),(50,t6),(51,t7),(52,(s.tm 8)),(53,t9),(54,t10),(55,t11),(2,(.sc (.slice none 0 0))),(3,t7),(4,t11)],s.ds⟩ h
def k3:OK:=fun W Q QP s h=>
aF (s.tm 47) (
k2 W Q QP s h) (
k1 W Q QP s h)
def k4:OK:=fun W Q QP s h=>
aH (s.tm 8) fun t13=>
ah (some 3) t13 fun t14=>
ao (some false) (some 1) t14 h fun t15 _=>
ai Pg .neq 3 true t15 (.sc (.int .i64 0)) fun t17=>
k3 W Q QP ⟨ag s.tm [(43,(s.tm 8)),(44,t13),(45,t14),(46,t15),(47,t17)],s.ds⟩ h
def k5:OK:=fun W Q QP s h=>
aq Pg W 14 [(s.tm 8),(.sc (.int .i64 0))] h (fun t18 mM=>
Q .normal ⟨ag s.tm [(41,(s.tm 8)),(42,t18)],s.ds⟩ mM) (QP s.ds)
def k6:OK:=fun W Q QP s h=>
aF (s.tm 40) (
k5 W Q QP s h) (
Q (.exit 0) s h)
def k7:OK:=fun W Q QP s h=>
aO (s.tm 29) (s.tm 39) (.sc (.bool false)) fun t20=>
k6 W Q QP ⟨ag s.tm [(40,t20)],s.ds⟩ h
def k8:OK:=fun W Q QP s h=>
bw true (s.tm 29) (
aH (s.tm 8) fun t21=>
ah (some 1) t21 fun t22=>
ao (some false) (some 1) t22 h fun t23 _=>
aH (s.tm 8) fun t25=>
ah (some 0) t25 fun t26=>
ao (some false) (some 1) t26 h fun t27 _=>
(aY t27=false)/\bL t27 fun t29=>
ai Pg .lss 3 false t23 t29 fun t30=>
k7 W Q QP ⟨ag s.tm [(30,(s.tm 8)),(31,t21),(32,t22),(33,t23),(34,(s.tm 8)),(35,t25),(36,t26),(37,t27),(38,t29),(39,t30)],s.ds⟩ h) (
k7 W Q QP ⟨ag s.tm [(30,ab),(31,ab),(32,ab),(33,ab),(34,ab),(35,ab),(36,ab),(37,ab),(38,ab),(39,ab)],s.ds⟩ h)
def k9:OK:=fun W Q QP s h=>
aH (s.tm 8) fun t31=>
ah (some 3) t31 fun t32=>
ao (some false) (some 1) t32 h fun t33 _=>
ai Pg .eql 3 true t33 (.sc (.int .i64 0)) fun t35=>
k8 W Q QP ⟨ag s.tm [(24,(s.tm 8)),(25,t31),(26,t32),(27,t33),(28,t35),(29,t35)],s.ds⟩ h
noncomputable def c1:Code:=Code.at code [1,1,1,1,0,0,0]
theorem l1:aw Pg 60 W pl c1 Q QP s h=k9 W Q QP s h:=congrFun (congrFun (show TB ⟨Pg,60,pl⟩ W QP c1 Q (k9 W Q QP) from
(sn
(bk 1 (sm (k5 W Q QP)))
(sn
(cd (k6 W Q QP) tr tr)
(gr (gn (k9 W Q QP) (gx (k8 W Q QP) (gl (k7 W Q QP)))))))) s) h
def cZ:OK:=fun W Q QP s h=>hJ (aw Pg 60 W pl c1) (df 0 (bJ (k4 W Q QP) (Q))) QP s h
def dB:OK:=fun W Q QP s h=>
(aY (s.tm 0)=true)/\bL (s.tm 0) fun t36=>
cN (some ([.slice none 0 0,.int .i64 0,.int .i64 0,.int .i64 0,.int .i64 0,.slice none 0 0],.inl [(0,1),(1,1),(2,1),(3,1),(4,1),(5,1)])) [(0,(s.tm 5)),(2,t36)] fun t37=>
eR 6 50 t37 h fun t38 tW=>
cZ W Q QP ⟨ag s.tm [(19,(s.tm 5)),(20,(s.tm 0)),(21,t36),(22,t37),(23,t38),(8,t38)],s.ds⟩ tW
def eU:OK:=fun _ Q _ s h=>
Q .ret ⟨ag s.tm [(17,(s.tm 6)),(18,(s.tm 7)),(2,(.sc (.slice none 0 0))),(3,(s.tm 6)),(4,(s.tm 7))],s.ds⟩ h
def fi:OK:=fun W Q QP s h=>
aF (s.tm 16) (
eU W Q QP s h) (
dB W Q QP s h)
def ir:OK:=fun W Q QP s h=>
ai Pg .neq 3 true (s.tm 7) (.sc (.int .i64 0)) fun t40=>
fi W Q QP ⟨ag s.tm [(15,(s.tm 7)),(16,t40)],s.ds⟩ h
def iq:OK:=fun W Q QP s h=>
aq Pg W 13 [(s.tm 0)] h (fun t41 zw=>
cW t41 0 fun t43=>
cW t41 1 fun t44=>
cW t41 2 fun t45=>
ir W Q QP ⟨ag s.tm [(10,(s.tm 0)),(11,t41),(9,t41),(12,t43),(13,t44),(14,t45),(5,t43),(6,t44),(7,t45)],s.ds⟩ zw) (QP s.ds)
def hH:OK:=fun W Q QP s h=>
iq W Q QP ⟨ag s.tm [(2,(.sc (.slice none 0 0))),(3,(.sc (.int .i64 0))),(4,(.sc (.int .i64 0)))],s.ds⟩ h
end
theorem calls{x0:AV}{h:AH}{M:WK}{R:RK}(hp:hH (fun id=>M id\/h.next<=id) (bQ Pg [.tmp 2,.tmp 3,.tmp 4] R) (aW R) (s0 [x0]) h):aA Pg 8 [x0] h M R:=
 kb (n:=60) (pl:=pl) hH Tryz.mixed Tryz.func8 (fun W Q QP=>
(sq (hH W Q QP)
(sq (iq W Q QP)
(sn
(sq (dB W Q QP)
(sn
(sn
(sl (k1 W Q QP))
(sq (k4 W Q QP)
(cd (k3 W Q QP) (sl (k2 W Q QP)) tr)))
(bk 0 (lo (cZ W Q QP)))))
(sq (ir W Q QP)
(cd (fi W Q QP) (sl (eU W Q QP)) tr)))))) hp
attribute [simp] k1 k2 k3 k4 k5 k6 k7 k8 k9 cZ dB eU fi ir iq hH
end F8
end
end Go.Proofs.YtjehibknlmehmaaGreat
