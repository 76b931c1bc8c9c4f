/- Bodies of the scanners; printed. No condition. -/
import Derived.Test.YtjehibknlmehmaaGreatGl
set_option maxRecDepth 100000
namespace Go.Proofs.YtjehibknlmehmaaGreat
section
open Go.Ab
namespace Mk
section
variable (W:WK) (Q:cH) (QP:cb) (s:St) (h:AH)
noncomputable def code:Code:=Tryz.f49.body.getD .skip
def pl:dj:=[(1,⟨[(none,(fr 0 5)),(some (4,true),(fr 5 5)),(none,(fr 10 1))],false,[],[]⟩)]
def k1:OK:=fun _ Q _ s h=>
Q .ret ⟨ag s.tm [(20,(s.tm 1)),(6,(s.tm 1))],s.ds⟩ h
def k2:OK:=fun _ Q _ s h=>
ai Pg .add 3 true (s.tm 1) (.sc (.int .i64 1)) fun t1=>
Q .normal ⟨ag s.tm [(18,(s.tm 1)),(19,t1),(1,t1)],s.ds⟩ h
def k3:OK:=fun W Q QP s h=>
aF (s.tm 17) (
k2 W Q QP s h) (
Q (.exit 0) s h)
def k4:OK:=fun W Q QP s h=>
aO (s.tm 11) (s.tm 16) (.sc (.bool false)) fun t2=>
k3 W Q QP ⟨ag s.tm [(17,t2)],s.ds⟩ h
def k5:OK:=fun W Q QP s h=>
bw true (s.tm 11) (
m8 true (s.tm 0) (s.tm 1) fun t3=>
G3 Pg W (s.tm 2) [t3] h (fun t4 h5=>
k4 W Q QP ⟨ag s.tm [(12,(s.tm 2)),(13,(s.tm 0)),(14,(s.tm 1)),(15,t3),(16,t4)],s.ds⟩ h5) (QP s.ds)) (
k4 W Q QP ⟨ag s.tm [(12,ab),(13,ab),(14,ab),(15,ab),(16,ab)],s.ds⟩ h)
def k6:OK:=fun W Q QP s h=>
(aY (s.tm 0)=true)/\bL (s.tm 0) fun t6=>
ai Pg .lss 3 false (s.tm 1) t6 fun t7=>
k5 W Q QP ⟨ag s.tm [(7,(s.tm 1)),(8,(s.tm 0)),(9,t6),(10,t7),(11,t7)],s.ds⟩ h
noncomputable def c1:Code:=Code.at code [1,0,0,0]
theorem l1:aw Pg 21 W pl c1 Q QP s h=k6 W Q QP s h:=congrFun (congrFun (show TB ⟨Pg,21,pl⟩ W QP c1 Q (k6 W Q QP) from
(sn
(bk 1 (sm (k2 W Q QP)))
(sn
(cd (k3 W Q QP) tr tr)
(gr (gn (k6 W Q QP) (gx (k5 W Q QP) (gl (k4 W Q QP)))))))) s) h
def k7:OK:=fun W Q QP s h=>hJ (aw Pg 21 W pl c1) (df 0 (bJ (k1 W Q QP) (Q))) QP s h
def k8:OK:=fun W Q QP s h=>
k7 W Q QP ⟨ag s.tm [(6,(.sc (.int .i64 0)))],s.ds⟩ h
end
theorem calls{x0 x1 x2:AV}{h:AH}{M:WK}{R:RK}(hp:k8 (fun id=>M id\/h.next<=id) (bQ Pg [.tmp 6] R) (aW R) (s0 [x0,x1,x2]) h):aA Pg 49 [x0,x1,x2] h M R:=
 kb (n:=21) (pl:=pl) k8 Tryz.mixed Tryz.func49 (fun W Q QP=>
(sq (k8 W Q QP)
(sn
(sl (k1 W Q QP))
(bk 0 (lo (k7 W Q QP)))))) hp
attribute [simp] k1 k2 k3 k4 k5 k6 k7 k8
end Mk
namespace YM
def pl:dj:=[]
def k1:OK:=fun _ Q _ s h=>
ai Pg .neq 5 true (s.tm 0) (.sc (.int .u8 10)) fun t1=>
Q .ret ⟨ag s.tm [(3,(s.tm 0)),(4,t1),(2,t1)],s.ds⟩ h
def k2:OK:=fun W Q QP s h=>
k1 W Q QP ⟨ag s.tm [(2,(.sc (.bool false)))],s.ds⟩ h
theorem calls{x0:AV}{h:AH}{M:WK}{R:RK}(hp:k2 (fun id=>M id\/h.next<=id) (bQ Pg [.tmp 2] R) (aW R) (s0 [x0]) h):aA Pg 50 [x0] h M R:=
 kb (n:=5) (pl:=pl) k2 Tryz.mixed Tryz.func50 (fun W Q QP=>
(sq (k2 W Q QP)
(sl (k1 W Q QP)))) hp
attribute [simp] k1 k2
end YM
namespace YL
def pl:dj:=[(1,⟨[(none,(fr 0 3)),(some (2,true),(fr 3 2)),(none,(fr 5 2)),(some (6,false),(fr 7 3)),(some (9,true),(fr 10 2)),(some (6,false),(fr 12 1)),(none,(fr 13 2)),(some (14,false),(fr 15 2)),(none,(fr 17 2))],false,[],[]⟩)]
def k1:OK:=fun _ Q _ s h=>
Q .ret s h
def k2:OK:=fun W Q QP s h=>
aO (s.tm 17) (.sc (.bool true)) (s.tm 19) fun t1=>
k1 W Q QP ⟨ag s.tm [(20,t1),(2,t1)],s.ds⟩ h
def k3:OK:=fun W Q QP s h=>
bw false (s.tm 17) (
ai Pg .eql 5 true (s.tm 0) (.sc (.int .u8 95)) fun t2=>
k2 W Q QP ⟨ag s.tm [(18,(s.tm 0)),(19,t2)],s.ds⟩ h) (
k2 W Q QP ⟨ag s.tm [(18,ab),(19,ab)],s.ds⟩ h)
def k4:OK:=fun W Q QP s h=>
aO (s.tm 9) (.sc (.bool true)) (s.tm 15) fun t3=>
k3 W Q QP ⟨ag s.tm [(16,t3),(17,t3)],s.ds⟩ h
def k5:OK:=fun W Q QP s h=>
bw false (s.tm 9) (
aO (s.tm 12) (s.tm 14) (.sc (.bool false)) fun t4=>
k4 W Q QP ⟨ag s.tm [(15,t4)],s.ds⟩ h) (
k4 W Q QP ⟨ag s.tm [(15,ab)],s.ds⟩ h)
def k6:OK:=fun W Q QP s h=>
bw true (s.tm 12) (
ai Pg .leq 5 true (s.tm 0) (.sc (.int .u8 90)) fun t5=>
k5 W Q QP ⟨ag s.tm [(13,(s.tm 0)),(14,t5)],s.ds⟩ h) (
k5 W Q QP ⟨ag s.tm [(13,ab),(14,ab)],s.ds⟩ h)
def k7:OK:=fun W Q QP s h=>
bw false (s.tm 9) (
ai Pg .geq 5 true (s.tm 0) (.sc (.int .u8 65)) fun t6=>
k6 W Q QP ⟨ag s.tm [(10,(s.tm 0)),(11,t6),(12,t6)],s.ds⟩ h) (
k6 W Q QP ⟨ag s.tm [(10,ab),(11,ab),(12,ab)],s.ds⟩ h)
def k8:OK:=fun W Q QP s h=>
aO (s.tm 5) (s.tm 7) (.sc (.bool false)) fun t7=>
k7 W Q QP ⟨ag s.tm [(8,t7),(9,t7)],s.ds⟩ h
def k9:OK:=fun W Q QP s h=>
bw true (s.tm 5) (
ai Pg .leq 5 true (s.tm 0) (.sc (.int .u8 122)) fun t8=>
k8 W Q QP ⟨ag s.tm [(6,(s.tm 0)),(7,t8)],s.ds⟩ h) (
k8 W Q QP ⟨ag s.tm [(6,ab),(7,ab)],s.ds⟩ h)
def cZ:OK:=fun W Q QP s h=>
ai Pg .geq 5 true (s.tm 0) (.sc (.int .u8 97)) fun t9=>
k9 W Q QP ⟨ag s.tm [(3,(s.tm 0)),(4,t9),(5,t9)],s.ds⟩ h
def dB:OK:=fun W Q QP s h=>
cZ W Q QP ⟨ag s.tm [(2,(.sc (.bool false)))],s.ds⟩ h
theorem calls{x0:AV}{h:AH}{M:WK}{R:RK}(hp:dB (fun id=>M id\/h.next<=id) (bQ Pg [.tmp 2] R) (aW R) (s0 [x0]) h):aA Pg 51 [x0] h M R:=
 kb (n:=21) (pl:=pl) dB Tryz.mixed Tryz.func51 (fun W Q QP=>
(sq (dB W Q QP)
(sn
(sm (k1 W Q QP))
(gr (gn (cZ W Q QP) (gx (k9 W Q QP) (gn (k8 W Q QP) (gx (k7 W Q QP) (gx (k6 W Q QP) (gx (k5 W Q QP) (gn (k4 W Q QP) (gx (k3 W Q QP) (gl (k2 W Q QP)))))))))))))) hp
attribute [simp] k1 k2 k3 k4 k5 k6 k7 k8 k9 cZ dB
end YL
namespace IB
def pl:dj:=[(1,⟨[(none,(fr 0 3)),(some (2,false),(fr 3 2)),(none,(fr 5 2))],false,[],[]⟩)]
def k1:OK:=fun _ Q _ s h=>
Q .ret s h
def k2:OK:=fun W Q QP s h=>
aO (s.tm 5) (.sc (.bool true)) (s.tm 7) fun t1=>
k1 W Q QP ⟨ag s.tm [(8,t1),(2,t1)],s.ds⟩ h
def k3:OK:=fun W Q QP s h=>
bw false (s.tm 5) (
aq Pg W 53 [(s.tm 0)] h (fun t2 h3=>
k2 W Q QP ⟨ag s.tm [(6,(s.tm 0)),(7,t2)],s.ds⟩ h3) (QP s.ds)) (
k2 W Q QP ⟨ag s.tm [(6,ab),(7,ab)],s.ds⟩ h)
def k4:OK:=fun W Q QP s h=>
aq Pg W 51 [(s.tm 0)] h (fun t4 h5=>
k3 W Q QP ⟨ag s.tm [(3,(s.tm 0)),(4,t4),(5,t4)],s.ds⟩ h5) (QP s.ds)
def k5:OK:=fun W Q QP s h=>
k4 W Q QP ⟨ag s.tm [(2,(.sc (.bool false)))],s.ds⟩ h
theorem calls{x0:AV}{h:AH}{M:WK}{R:RK}(hp:k5 (fun id=>M id\/h.next<=id) (bQ Pg [.tmp 2] R) (aW R) (s0 [x0]) h):aA Pg 52 [x0] h M R:=
 kb (n:=9) (pl:=pl) k5 Tryz.mixed Tryz.func52 (fun W Q QP=>
(sq (k5 W Q QP)
(sn
(sm (k1 W Q QP))
(gr (gn (k4 W Q QP) (gx (k3 W Q QP) (gl (k2 W Q QP)))))))) hp
attribute [simp] k1 k2 k3 k4 k5
end IB
namespace YK
def pl:dj:=[(1,⟨[(none,(fr 0 3)),(some (2,true),(fr 3 2)),(none,(fr 5 2))],false,[],[]⟩)]
def k1:OK:=fun _ Q _ s h=>
Q .ret s h
def k2:OK:=fun W Q QP s h=>
aO (s.tm 5) (s.tm 7) (.sc (.bool false)) fun t1=>
k1 W Q QP ⟨ag s.tm [(8,t1),(2,t1)],s.ds⟩ h
def k3:OK:=fun W Q QP s h=>
bw true (s.tm 5) (
ai Pg .leq 5 true (s.tm 0) (.sc (.int .u8 57)) fun t2=>
k2 W Q QP ⟨ag s.tm [(6,(s.tm 0)),(7,t2)],s.ds⟩ h) (
k2 W Q QP ⟨ag s.tm [(6,ab),(7,ab)],s.ds⟩ h)
def k4:OK:=fun W Q QP s h=>
ai Pg .geq 5 true (s.tm 0) (.sc (.int .u8 48)) fun t3=>
k3 W Q QP ⟨ag s.tm [(3,(s.tm 0)),(4,t3),(5,t3)],s.ds⟩ h
def k5:OK:=fun W Q QP s h=>
k4 W Q QP ⟨ag s.tm [(2,(.sc (.bool false)))],s.ds⟩ h
theorem calls{x0:AV}{h:AH}{M:WK}{R:RK}(hp:k5 (fun id=>M id\/h.next<=id) (bQ Pg [.tmp 2] R) (aW R) (s0 [x0]) h):aA Pg 53 [x0] h M R:=
 kb (n:=9) (pl:=pl) k5 Tryz.mixed Tryz.func53 (fun W Q QP=>
(sq (k5 W Q QP)
(sn
(sm (k1 W Q QP))
(gr (gn (k4 W Q QP) (gx (k3 W Q QP) (gl (k2 W Q QP)))))))) hp
attribute [simp] k1 k2 k3 k4 k5
end YK
namespace YV
def pl:dj:=[(1,⟨[(none,(fr 0 3)),(some (2,false),(fr 3 2)),(none,(fr 5 2)),(some (6,false),(fr 7 2)),(none,(fr 9 2)),(some (10,false),(fr 11 2)),(none,(fr 13 2))],false,[],[]⟩)]
def k1:OK:=fun _ Q _ s h=>
Q .ret s h
def k2:OK:=fun W Q QP s h=>
aO (s.tm 13) (.sc (.bool true)) (s.tm 15) fun t1=>
k1 W Q QP ⟨ag s.tm [(16,t1),(2,t1)],s.ds⟩ h
def k3:OK:=fun W Q QP s h=>
bw false (s.tm 13) (
ai Pg .eql 5 true (s.tm 0) (.sc (.int .u8 32)) fun t2=>
k2 W Q QP ⟨ag s.tm [(14,(s.tm 0)),(15,t2)],s.ds⟩ h) (
k2 W Q QP ⟨ag s.tm [(14,ab),(15,ab)],s.ds⟩ h)
def k4:OK:=fun W Q QP s h=>
aO (s.tm 9) (.sc (.bool true)) (s.tm 11) fun t3=>
k3 W Q QP ⟨ag s.tm [(12,t3),(13,t3)],s.ds⟩ h
def k5:OK:=fun W Q QP s h=>
bw false (s.tm 9) (
ai Pg .eql 5 true (s.tm 0) (.sc (.int .u8 13)) fun t4=>
k4 W Q QP ⟨ag s.tm [(10,(s.tm 0)),(11,t4)],s.ds⟩ h) (
k4 W Q QP ⟨ag s.tm [(10,ab),(11,ab)],s.ds⟩ h)
def k6:OK:=fun W Q QP s h=>
aO (s.tm 5) (.sc (.bool true)) (s.tm 7) fun t5=>
k5 W Q QP ⟨ag s.tm [(8,t5),(9,t5)],s.ds⟩ h
def k7:OK:=fun W Q QP s h=>
bw false (s.tm 5) (
ai Pg .eql 5 true (s.tm 0) (.sc (.int .u8 10)) fun t6=>
k6 W Q QP ⟨ag s.tm [(6,(s.tm 0)),(7,t6)],s.ds⟩ h) (
k6 W Q QP ⟨ag s.tm [(6,ab),(7,ab)],s.ds⟩ h)
def k8:OK:=fun W Q QP s h=>
ai Pg .eql 5 true (s.tm 0) (.sc (.int .u8 9)) fun t7=>
k7 W Q QP ⟨ag s.tm [(3,(s.tm 0)),(4,t7),(5,t7)],s.ds⟩ h
def k9:OK:=fun W Q QP s h=>
k8 W Q QP ⟨ag s.tm [(2,(.sc (.bool false)))],s.ds⟩ h
theorem calls{x0:AV}{h:AH}{M:WK}{R:RK}(hp:k9 (fun id=>M id\/h.next<=id) (bQ Pg [.tmp 2] R) (aW R) (s0 [x0]) h):aA Pg 26 [x0] h M R:=
 kb (n:=17) (pl:=pl) k9 Tryz.mixed Tryz.func26 (fun W Q QP=>
(sq (k9 W Q QP)
(sn
(sm (k1 W Q QP))
(gr (gn (k8 W Q QP) (gx (k7 W Q QP) (gn (k6 W Q QP) (gx (k5 W Q QP) (gn (k4 W Q QP) (gx (k3 W Q QP) (gl (k2 W Q QP)))))))))))) hp
attribute [simp] k1 k2 k3 k4 k5 k6 k7 k8 k9
end YV
namespace YU
def pl:dj:=[(1,⟨[(none,(fr 0 3)),(some (2,true),(fr 3 2)),(none,(fr 5 2)),(some (6,false),(fr 7 3)),(some (9,true),(fr 10 2)),(some (6,false),(fr 12 1)),(none,(fr 13 2)),(some (14,false),(fr 15 2)),(none,(fr 17 2))],false,[],[]⟩)]
def k1:OK:=fun _ Q _ s h=>
Q .ret s h
def k2:OK:=fun W Q QP s h=>
aO (s.tm 17) (.sc (.bool true)) (s.tm 19) fun t1=>
k1 W Q QP ⟨ag s.tm [(20,t1),(2,t1)],s.ds⟩ h
def k3:OK:=fun W Q QP s h=>
bw false (s.tm 17) (
ai Pg .eql 5 true (s.tm 0) (.sc (.int .u8 95)) fun t2=>
k2 W Q QP ⟨ag s.tm [(18,(s.tm 0)),(19,t2)],s.ds⟩ h) (
k2 W Q QP ⟨ag s.tm [(18,ab),(19,ab)],s.ds⟩ h)
def k4:OK:=fun W Q QP s h=>
aO (s.tm 9) (.sc (.bool true)) (s.tm 15) fun t3=>
k3 W Q QP ⟨ag s.tm [(16,t3),(17,t3)],s.ds⟩ h
def k5:OK:=fun W Q QP s h=>
bw false (s.tm 9) (
aO (s.tm 12) (s.tm 14) (.sc (.bool false)) fun t4=>
k4 W Q QP ⟨ag s.tm [(15,t4)],s.ds⟩ h) (
k4 W Q QP ⟨ag s.tm [(15,ab)],s.ds⟩ h)
def k6:OK:=fun W Q QP s h=>
bw true (s.tm 12) (
ai Pg .leq 5 true (s.tm 0) (.sc (.int .u8 90)) fun t5=>
k5 W Q QP ⟨ag s.tm [(13,(s.tm 0)),(14,t5)],s.ds⟩ h) (
k5 W Q QP ⟨ag s.tm [(13,ab),(14,ab)],s.ds⟩ h)
def k7:OK:=fun W Q QP s h=>
bw false (s.tm 9) (
ai Pg .geq 5 true (s.tm 0) (.sc (.int .u8 65)) fun t6=>
k6 W Q QP ⟨ag s.tm [(10,(s.tm 0)),(11,t6),(12,t6)],s.ds⟩ h) (
k6 W Q QP ⟨ag s.tm [(10,ab),(11,ab),(12,ab)],s.ds⟩ h)
def k8:OK:=fun W Q QP s h=>
aO (s.tm 5) (s.tm 7) (.sc (.bool false)) fun t7=>
k7 W Q QP ⟨ag s.tm [(8,t7),(9,t7)],s.ds⟩ h
def k9:OK:=fun W Q QP s h=>
bw true (s.tm 5) (
ai Pg .leq 5 true (s.tm 0) (.sc (.int .u8 122)) fun t8=>
k8 W Q QP ⟨ag s.tm [(6,(s.tm 0)),(7,t8)],s.ds⟩ h) (
k8 W Q QP ⟨ag s.tm [(6,ab),(7,ab)],s.ds⟩ h)
def cZ:OK:=fun W Q QP s h=>
ai Pg .geq 5 true (s.tm 0) (.sc (.int .u8 97)) fun t9=>
k9 W Q QP ⟨ag s.tm [(3,(s.tm 0)),(4,t9),(5,t9)],s.ds⟩ h
def dB:OK:=fun W Q QP s h=>
cZ W Q QP ⟨ag s.tm [(2,(.sc (.bool false)))],s.ds⟩ h
theorem calls{x0:AV}{h:AH}{M:WK}{R:RK}(hp:dB (fun id=>M id\/h.next<=id) (bQ Pg [.tmp 2] R) (aW R) (s0 [x0]) h):aA Pg 27 [x0] h M R:=
 kb (n:=21) (pl:=pl) dB Tryz.mixed Tryz.func27 (fun W Q QP=>
(sq (dB W Q QP)
(sn
(sm (k1 W Q QP))
(gr (gn (cZ W Q QP) (gx (k9 W Q QP) (gn (k8 W Q QP) (gx (k7 W Q QP) (gx (k6 W Q QP) (gx (k5 W Q QP) (gn (k4 W Q QP) (gx (k3 W Q QP) (gl (k2 W Q QP)))))))))))))) hp
attribute [simp] k1 k2 k3 k4 k5 k6 k7 k8 k9 cZ dB
end YU
namespace YT
def pl:dj:=[(1,⟨[(none,(fr 0 3)),(some (2,true),(fr 3 2)),(none,(fr 5 2))],false,[],[]⟩)]
def k1:OK:=fun _ Q _ s h=>
Q .ret s h
def k2:OK:=fun W Q QP s h=>
aO (s.tm 5) (s.tm 7) (.sc (.bool false)) fun t1=>
k1 W Q QP ⟨ag s.tm [(8,t1),(2,t1)],s.ds⟩ h
def k3:OK:=fun W Q QP s h=>
bw true (s.tm 5) (
ai Pg .leq 5 true (s.tm 0) (.sc (.int .u8 57)) fun t2=>
k2 W Q QP ⟨ag s.tm [(6,(s.tm 0)),(7,t2)],s.ds⟩ h) (
k2 W Q QP ⟨ag s.tm [(6,ab),(7,ab)],s.ds⟩ h)
def k4:OK:=fun W Q QP s h=>
ai Pg .geq 5 true (s.tm 0) (.sc (.int .u8 48)) fun t3=>
k3 W Q QP ⟨ag s.tm [(3,(s.tm 0)),(4,t3),(5,t3)],s.ds⟩ h
def k5:OK:=fun W Q QP s h=>
k4 W Q QP ⟨ag s.tm [(2,(.sc (.bool false)))],s.ds⟩ h
theorem calls{x0:AV}{h:AH}{M:WK}{R:RK}(hp:k5 (fun id=>M id\/h.next<=id) (bQ Pg [.tmp 2] R) (aW R) (s0 [x0]) h):aA Pg 28 [x0] h M R:=
 kb (n:=9) (pl:=pl) k5 Tryz.mixed Tryz.func28 (fun W Q QP=>
(sq (k5 W Q QP)
(sn
(sm (k1 W Q QP))
(gr (gn (k4 W Q QP) (gx (k3 W Q QP) (gl (k2 W Q QP)))))))) hp
attribute [simp] k1 k2 k3 k4 k5
end YT
namespace YS
def pl:dj:=[(1,⟨[(none,(fr 0 3)),(some (2,false),(fr 3 2)),(none,(fr 5 2)),(some (6,false),(fr 7 2)),(none,(fr 9 2)),(some (10,false),(fr 11 2)),(none,(fr 13 2)),(some (14,false),(fr 15 2)),(none,(fr 17 2)),(some (18,false),(fr 19 2)),(none,(fr 21 2))],false,[],[]⟩)]
def k1:OK:=fun _ Q _ s h=>
Q .ret s h
def k2:OK:=fun W Q QP s h=>
aO (s.tm 21) (.sc (.bool true)) (s.tm 23) fun t1=>
k1 W Q QP ⟨ag s.tm [(24,t1),(2,t1)],s.ds⟩ h
def k3:OK:=fun W Q QP s h=>
bw false (s.tm 21) (
ai Pg .eql 5 true (s.tm 0) (.sc (.int .u8 44)) fun t2=>
k2 W Q QP ⟨ag s.tm [(22,(s.tm 0)),(23,t2)],s.ds⟩ h) (
k2 W Q QP ⟨ag s.tm [(22,ab),(23,ab)],s.ds⟩ h)
def k4:OK:=fun W Q QP s h=>
aO (s.tm 17) (.sc (.bool true)) (s.tm 19) fun t3=>
k3 W Q QP ⟨ag s.tm [(20,t3),(21,t3)],s.ds⟩ h
def k5:OK:=fun W Q QP s h=>
bw false (s.tm 17) (
ai Pg .eql 5 true (s.tm 0) (.sc (.int .u8 59)) fun t4=>
k4 W Q QP ⟨ag s.tm [(18,(s.tm 0)),(19,t4)],s.ds⟩ h) (
k4 W Q QP ⟨ag s.tm [(18,ab),(19,ab)],s.ds⟩ h)
def k6:OK:=fun W Q QP s h=>
aO (s.tm 13) (.sc (.bool true)) (s.tm 15) fun t5=>
k5 W Q QP ⟨ag s.tm [(16,t5),(17,t5)],s.ds⟩ h
def k7:OK:=fun W Q QP s h=>
bw false (s.tm 13) (
ai Pg .eql 5 true (s.tm 0) (.sc (.int .u8 93)) fun t6=>
k6 W Q QP ⟨ag s.tm [(14,(s.tm 0)),(15,t6)],s.ds⟩ h) (
k6 W Q QP ⟨ag s.tm [(14,ab),(15,ab)],s.ds⟩ h)
def k8:OK:=fun W Q QP s h=>
aO (s.tm 9) (.sc (.bool true)) (s.tm 11) fun t7=>
k7 W Q QP ⟨ag s.tm [(12,t7),(13,t7)],s.ds⟩ h
def k9:OK:=fun W Q QP s h=>
bw false (s.tm 9) (
ai Pg .eql 5 true (s.tm 0) (.sc (.int .u8 91)) fun t8=>
k8 W Q QP ⟨ag s.tm [(10,(s.tm 0)),(11,t8)],s.ds⟩ h) (
k8 W Q QP ⟨ag s.tm [(10,ab),(11,ab)],s.ds⟩ h)
def cZ:OK:=fun W Q QP s h=>
aO (s.tm 5) (.sc (.bool true)) (s.tm 7) fun t9=>
k9 W Q QP ⟨ag s.tm [(8,t9),(9,t9)],s.ds⟩ h
def dB:OK:=fun W Q QP s h=>
bw false (s.tm 5) (
ai Pg .eql 5 true (s.tm 0) (.sc (.int .u8 125)) fun t10=>
cZ W Q QP ⟨ag s.tm [(6,(s.tm 0)),(7,t10)],s.ds⟩ h) (
cZ W Q QP ⟨ag s.tm [(6,ab),(7,ab)],s.ds⟩ h)
def eU:OK:=fun W Q QP s h=>
ai Pg .eql 5 true (s.tm 0) (.sc (.int .u8 123)) fun t11=>
dB W Q QP ⟨ag s.tm [(3,(s.tm 0)),(4,t11),(5,t11)],s.ds⟩ h
def fi:OK:=fun W Q QP s h=>
eU W Q QP ⟨ag s.tm [(2,(.sc (.bool false)))],s.ds⟩ h
theorem calls{x0:AV}{h:AH}{M:WK}{R:RK}(hp:fi (fun id=>M id\/h.next<=id) (bQ Pg [.tmp 2] R) (aW R) (s0 [x0]) h):aA Pg 29 [x0] h M R:=
 kb (n:=25) (pl:=pl) fi Tryz.mixed Tryz.func29 (fun W Q QP=>
(sq (fi W Q QP)
(sn
(sm (k1 W Q QP))
(gr (gn (eU W Q QP) (gx (dB W Q QP) (gn (cZ W Q QP) (gx (k9 W Q QP) (gn (k8 W Q QP) (gx (k7 W Q QP) (gn (k6 W Q QP) (gx (k5 W Q QP) (gn (k4 W Q QP) (gx (k3 W Q QP) (gl (k2 W Q QP)))))))))))))))) hp
attribute [simp] k1 k2 k3 k4 k5 k6 k7 k8 k9 cZ dB eU fi
end YS
end
section
open Go.Ab
namespace iC
section
variable (W:WK) (Q:cH) (QP:cb) (s:St) (h:AH)
noncomputable def code:Code:=Tryz.f19.body.getD .skip
def pl:dj:=[(8,⟨[(none,(fr 0 3)),(some (2,false),(fr 3 2)),(none,(fr 5 2)),(some (6,false),(fr 7 2)),(none,(fr 9 2)),(some (10,false),(fr 11 2)),(none,(fr 13 2))],false,[],[]⟩),(16,⟨[(none,(fr 0 5)),(some (4,true),(fr 5 4)),(none,(fr 9 1))],false,[],[]⟩)]
def k1:OK:=fun _ Q _ s h=>
Q .ret ⟨ag s.tm [(84,(s.tm 5)),(2,(s.tm 5)),(3,(.sc (.int .i64 0))),(4,(.sc (.int .i64 0)))],s.ds⟩ h
def k2:OK:=fun _ Q _ s h=>
Q .normal ⟨ag s.tm [(83,(s.tm 8)),(6,(s.tm 8))],s.ds⟩ h
def k3:OK:=fun W Q QP s h=>
qk (s.tm 0) (some (s.tm 6)) (some (s.tm 8)) fun t1=>
cN (some ([.int .i64 0,.string ⟨#[]⟩,.int .i64 0],.inl [(0,1),(1,1),(2,1)])) [(0,(s.tm 9)),(1,t1),(2,(s.tm 6))] fun t2=>
dG (some (3,84,[.int .i64 0,.string ⟨#[]⟩,.int .i64 0])) 1 [(0,t2)] h fun t3 h4=>
fE (some (3,32,84)) (s.tm 5) t3 h4 W fun t5 h6=>
k2 W Q QP ⟨ag s.tm [(73,(s.tm 5)),(74,(s.tm 9)),(75,(s.tm 0)),(76,(s.tm 6)),(77,(s.tm 8)),(78,t1),(79,(s.tm 6)),(80,t2),(81,t3),(82,t5),(5,t5)],s.ds⟩ h6
def k4:OK:=fun _ Q _ s h=>
ai Pg .add 3 true (s.tm 6) (.sc (.int .i64 1)) fun t7=>
Q .normal ⟨ag s.tm [(37,(s.tm 6)),(38,t7),(6,t7)],s.ds⟩ h
def k5:OK:=fun W Q QP s h=>
aq Pg W 49 [(s.tm 0),(s.tm 6),(.fn (.func 50) [] [])] h (fun t8 h9=>
Q .normal ⟨ag s.tm [(42,(s.tm 0)),(43,(s.tm 6)),(44,t8),(6,t8)],s.ds⟩ h9) (QP s.ds)
def k6:OK:=fun _ Q _ s h=>
Q .ret ⟨ag s.tm [(67,(s.tm 8)),(2,(.sc (.slice none 0 0))),(3,(s.tm 8)),(4,(.sc (.int .i64 90)))],s.ds⟩ h
def k7:OK:=fun W Q QP s h=>
aF (s.tm 66) (
k6 W Q QP s h) (
k3 W Q QP s h)
def k8:OK:=fun W Q QP s h=>
aO (s.tm 61) (s.tm 65) (.sc (.bool false)) fun t12=>
k7 W Q QP ⟨ag s.tm [(66,t12)],s.ds⟩ h
def k9:OK:=fun W Q QP s h=>
bw true (s.tm 61) (
m8 true (s.tm 0) (s.tm 8) fun t13=>
aq Pg W 51 [t13] h (fun t14 qf=>
k8 W Q QP ⟨ag s.tm [(62,(s.tm 0)),(63,(s.tm 8)),(64,t13),(65,t14)],s.ds⟩ qf) (QP s.ds)) (
k8 W Q QP ⟨ag s.tm [(62,ab),(63,ab),(64,ab),(65,ab)],s.ds⟩ h)
def cZ:OK:=fun W Q QP s h=>
(aY (s.tm 0)=true)/\bL (s.tm 0) fun t16=>
ai Pg .lss 3 false (s.tm 8) t16 fun t17=>
k9 W Q QP ⟨ag s.tm [(57,(s.tm 8)),(58,(s.tm 0)),(59,t16),(60,t17),(61,t17)],s.ds⟩ h
def dB:OK:=fun W Q QP s h=>
aq Pg W 49 [(s.tm 0),(s.tm 6),(.fn (.func 53) [] [])] h (fun t18 mM=>
cZ W Q QP ⟨ag s.tm [(54,(s.tm 0)),(55,(s.tm 6)),(56,t18),(8,t18),(9,(.sc (.int .i64 2)))],s.ds⟩ mM) (QP s.ds)
def eU:OK:=fun _ Q _ s h=>
Q .ret ⟨ag s.tm [(72,(s.tm 6)),(2,(.sc (.slice none 0 0))),(3,(s.tm 6)),(4,(.sc (.int .i64 90)))],s.ds⟩ h
def fi:OK:=fun W Q QP s h=>
aF (s.tm 68) (
eU W Q QP s h) (
k3 W Q QP s h)
def ir:OK:=fun W Q QP s h=>
aq Pg W 54 [(.sc (.string ⟨#[123,125,91,93,59,44]⟩)),(s.tm 7)] h (fun t20 qe=>
ai Pg .lss 3 true t20 (.sc (.int .i64 0)) fun t22=>
fi W Q QP ⟨ag s.tm [(69,(s.tm 7)),(70,t20),(71,t22),(68,t22)],s.ds⟩ qe) (QP s.ds)
def iq:OK:=fun W Q QP s h=>
aF (s.tm 51) (
dB W Q QP s h) (
ir W Q QP s h)
def hH:OK:=fun W Q QP s h=>
aq Pg W 53 [(s.tm 7)] h (fun t23 tY=>
iq W Q QP ⟨ag s.tm [(52,(s.tm 7)),(53,t23),(51,t23)],s.ds⟩ tY) (QP s.ds)
def jA:OK:=fun W Q QP s h=>
aF (s.tm 45) (
aq Pg W 49 [(s.tm 0),(s.tm 6),(.fn (.func 52) [] [])] h (fun t10 mO=>
k3 W Q QP ⟨ag s.tm [(48,(s.tm 0)),(49,(s.tm 6)),(50,t10),(8,t10),(9,(.sc (.int .i64 1)))],s.ds⟩ mO) (QP s.ds)) (
hH W Q QP s h)
def lx:OK:=fun W Q QP s h=>
aq Pg W 51 [(s.tm 7)] h (fun t25 nP=>
jA W Q QP ⟨ag s.tm [(46,(s.tm 7)),(47,t25),(45,t25)],s.ds⟩ nP) (QP s.ds)
def ml:OK:=fun W Q QP s h=>
aF (s.tm 39) (
k5 W Q QP s h) (
lx W Q QP s h)
def lP:OK:=fun W Q QP s h=>
ai Pg .eql 5 true (s.tm 7) (.sc (.int .u8 35)) fun t27=>
ml W Q QP ⟨ag s.tm [(40,(s.tm 7)),(41,t27),(39,t27)],s.ds⟩ h
def nf:OK:=fun W Q QP s h=>
aF (s.tm 22) (
k4 W Q QP s h) (
lP W Q QP s h)
def kV:OK:=fun W Q QP s h=>
aO (s.tm 33) (.sc (.bool true)) (s.tm 35) fun t28=>
nf W Q QP ⟨ag s.tm [(36,t28),(22,t28)],s.ds⟩ h
def mj:OK:=fun W Q QP s h=>
bw false (s.tm 33) (
ai Pg .eql 5 true (s.tm 7) (.sc (.int .u8 32)) fun t29=>
kV W Q QP ⟨ag s.tm [(34,(s.tm 7)),(35,t29)],s.ds⟩ h) (
kV W Q QP ⟨ag s.tm [(34,ab),(35,ab)],s.ds⟩ h)
def mI:OK:=fun W Q QP s h=>
aO (s.tm 29) (.sc (.bool true)) (s.tm 31) fun t30=>
mj W Q QP ⟨ag s.tm [(32,t30),(33,t30)],s.ds⟩ h
def pB:OK:=fun W Q QP s h=>
bw false (s.tm 29) (
ai Pg .eql 5 true (s.tm 7) (.sc (.int .u8 13)) fun t31=>
mI W Q QP ⟨ag s.tm [(30,(s.tm 7)),(31,t31)],s.ds⟩ h) (
mI W Q QP ⟨ag s.tm [(30,ab),(31,ab)],s.ds⟩ h)
def pV:OK:=fun W Q QP s h=>
aO (s.tm 25) (.sc (.bool true)) (s.tm 27) fun t32=>
pB W Q QP ⟨ag s.tm [(28,t32),(29,t32)],s.ds⟩ h
def oB:OK:=fun W Q QP s h=>
bw false (s.tm 25) (
ai Pg .eql 5 true (s.tm 7) (.sc (.int .u8 10)) fun t33=>
pV W Q QP ⟨ag s.tm [(26,(s.tm 7)),(27,t33)],s.ds⟩ h) (
pV W Q QP ⟨ag s.tm [(26,ab),(27,ab)],s.ds⟩ h)
def oY:OK:=fun W Q QP s h=>
ai Pg .eql 5 true (s.tm 7) (.sc (.int .u8 9)) fun t34=>
oB W Q QP ⟨ag s.tm [(23,(s.tm 7)),(24,t34),(25,t34)],s.ds⟩ h
def pA:OK:=fun W Q QP s h=>
ai Pg .add 3 true (s.tm 6) (.sc (.int .i64 1)) fun t35=>
oY W Q QP ⟨ag s.tm [(20,(s.tm 6)),(21,t35),(8,t35),(9,(.sc (.int .i64 3)))],s.ds⟩ h
def mH:OK:=fun W Q QP s h=>
m8 true (s.tm 0) (s.tm 6) fun t36=>
pA W Q QP ⟨ag s.tm [(17,(s.tm 0)),(18,(s.tm 6)),(19,t36),(7,t36)],s.ds⟩ h
def oX:OK:=fun W Q QP s h=>
aF (s.tm 16) (
mH W Q QP s h) (
Q (.exit 0) s h)
def nN:OK:=fun W Q QP s h=>
(aY (s.tm 0)=true)/\bL (s.tm 0) fun t37=>
ai Pg .lss 3 false (s.tm 6) t37 fun t38=>
oX W Q QP ⟨ag s.tm [(13,(s.tm 6)),(14,(s.tm 0)),(15,t37),(16,t38)],s.ds⟩ h
noncomputable def c1:Code:=Code.at code [1,0,1,1,1,1,0,0,0]
theorem l1:aw Pg 85 W pl c1 Q QP s h=nN W Q QP s h:=congrFun (congrFun (show TB ⟨Pg,85,pl⟩ W QP c1 Q (nN W Q QP) from
(sn
(bk 1 (sq (mH W Q QP)
(sq (pA W Q QP)
(sn
(sq (k3 W Q QP)
(sm (k2 W Q QP)))
(bk 2 (sn
(cd (nf W Q QP) (sl (k4 W Q QP)) (sq (lP W Q QP)
(cd (ml W Q QP) (sl (k5 W Q QP)) (sq (lx W Q QP)
(cd (jA W Q QP) tr (sq (hH W Q QP)
(cd (iq W Q QP) (sq (dB W Q QP)
(sn
(cd (k7 W Q QP) (sl (k6 W Q QP)) tr)
(gr (gn (cZ W Q QP) (gx (k9 W Q QP) (gl (k8 W Q QP))))))) (sq (ir W Q QP)
(cd (fi W Q QP) (sl (eU W Q QP)) tr)))))))))
(gr (gn (oY W Q QP) (gx (oB W Q QP) (gn (pV W Q QP) (gx (pB W Q QP) (gn (mI W Q QP) (gx (mj W Q QP) (gl (kV W Q QP)))))))))))))))
(sq (nN W Q QP)
(cd (oX W Q QP) tr tr)))) s) h
def pz:OK:=fun W Q QP s h=>hJ (aw Pg 85 W pl c1) (df 0 (bJ (k1 W Q QP) (qo (Q)))) QP s h
def py:OK:=fun W Q QP s h=>
pz W Q QP s h
def re:OK:=fun W Q QP s h=>
py W Q QP ⟨ag s.tm [(6,(.sc (.int .i64 0)))],s.ds⟩ h
def nM:OK:=fun W Q QP s h=>
re W Q QP ⟨ag s.tm [(5,(.sc (.slice none 0 0)))],s.ds⟩ h
def q_:OK:=fun _ Q _ s h=>
Q .ret ⟨ag s.tm [(2,(.sc (.slice none 0 0))),(3,(.sc (.int .i64 0))),(4,(.sc (.int .i64 1)))],s.ds⟩ h
def oA:OK:=fun W Q QP s h=>
aF (s.tm 12) (
q_ W Q QP s h) (
nM W Q QP s h)
def pt:OK:=fun W Q QP s h=>
(aY (s.tm 0)=true)/\bL (s.tm 0) fun t39=>
ai Pg .gtr 3 true t39 (.sc (.int .i64 65536)) fun t40=>
oA W Q QP ⟨ag s.tm [(10,(s.tm 0)),(11,t39),(12,t40)],s.ds⟩ h
def oW:OK:=fun W Q QP s h=>
pt W Q QP ⟨ag s.tm [(2,(.sc (.slice none 0 0))),(3,(.sc (.int .i64 0))),(4,(.sc (.int .i64 0)))],s.ds⟩ h
end
theorem calls{x0:AV}{h:AH}{M:WK}{R:RK}(hp:oW (fun id=>M id\/h.next<=id) (bQ Pg [.tmp 2,.tmp 3,.tmp 4] R) (aW R) (s0 [x0]) h):aA Pg 19 [x0] h M R:=
 kb (n:=85) (pl:=pl) oW Tryz.mixed Tryz.func19 (fun W Q QP=>
(sq (oW W Q QP)
(sp (sn
(sq (nM W Q QP)
(sq (re W Q QP)
(sq (py W Q QP)
(sn
(sl (k1 W Q QP))
(bk 0 (lo (pz W Q QP)))))))
(sq (pt W Q QP)
(cd (oA W Q QP) (sl (q_ W Q QP)) tr)))))) hp
attribute [simp] k1 k2 k3 k4 k5 k6 k7 k8 k9 cZ dB eU fi ir iq hH jA lx ml lP nf kV mj mI pB pV oB oY pA mH oX nN pz py re nM q_ oA pt oW
end iC
end
section
open Go.Ab
section
variable (W:Nat->Prop) (Q:cH) (QP:cb) (s:St) (h:AH)
noncomputable def bE.code:Code:=Tryz.f20.body.getD .skip
def bE.pl:dj:=[(5,⟨[(none,[(0,false),(1,true),(2,false),(3,true),(4,false),(5,false),(6,false)])],true,[],[]⟩)]
theorem bE.ok:ls Pg bE.pl (Code.at bE.code [1])=true:=by kernel_rfl
def bE.t1(W:Nat->Prop)(Q:cH)(s:St)(h:AH):Prop:=
 ∃Hd:Nat->Nat,(∀i∈[1,3],h.obj (Hd i)≠none)/\(
 ah (some 0) (s.tm 4) fun t1=>
 ao (some false) (some 1) t1 h fun t2 i3=>
 (i3=Hd 1)/\(
 ah (some 1) (s.tm 4) fun t4=>
 ao (some false) (some 1) t4 h fun t5 i6=>
 (i6=Hd 3)/\(
 aD (some 1) (s.tm 0) (.sc (.slice none 0 0)) h (iZ W Hd [1,3]) fun h7=>
 aD (some 1) (s.tm 1) t2 h7 (iZ W Hd [3]) fun h8=>
 aD (some 1) (s.tm 2) t5 h8 W fun h9=>
 Q .normal ⟨ag s.tm [(17,t1),(18,t2),(19,t4),(20,t5)],s.ds⟩ h9)))
def bE.k1(W:Nat->Prop)(Q:cH)(QP:cb)(s:St)(h:AH):Prop:=bE.t1 W Q s h
theorem bE.Nx:aw Pg 21 W bE.pl (Code.at bE.code [1,1,0,1,1]) (Q) QP s h=bE.t1 W Q s h:=by kernel_rfl
theorem bE.Et:aw Pg 21 W bE.pl (Code.at bE.code [1,1,0,1,1]) (Q) QP s h=bE.k1 W Q QP s h:=(bE.Nx W Q QP s h)
def bE.t2(QP:cb)(s:St)(h:AH)(C0:KT):Prop:=
 aF (s.tm 15) (
 uB (s.tm 3) h (QP s.ds)) (
 C0 s h)
def bE.k2(W:Nat->Prop)(Q:cH)(QP:cb)(s:St)(h:AH):Prop:=bE.t2 QP s h (bE.k1 W Q QP)
theorem bE.Nw(C0:KT):aF (lU s (.tmp 15)) (aw Pg 21 W bE.pl (Code.at bE.code [1,1,0,1,0,1,0]) (bJ (C0) (Q)) QP s h) (aw Pg 21 W bE.pl (Code.at bE.code [1,1,0,1,0,1,1]) (bJ (C0) (Q)) QP s h)=bE.t2 QP s h C0:=by kernel_rfl
theorem bE.Jb:aw Pg 21 W bE.pl (Code.at bE.code [1,1,0,1,0,1]) (bJ (bE.k1 W Q QP) (Q)) QP s h=bE.k2 W Q QP s h:=su (a:=(Code.at bE.code [1,1,0,1,0,1,0])) (b:=(Code.at bE.code [1,1,0,1,0,1,1])) (by kernel_rfl) rfl rfl (bE.Nw W Q QP s h (bE.k1 W Q QP))
def bE.t3(s:St)(h:AH)(C0 C1:KT):Prop:=
 iH .not (s.tm 5) fun t10=>
 C1 ⟨ag s.tm [(14,(s.tm 5)),(15,t10)],s.ds⟩ h
def bE.k3(W:Nat->Prop)(Q:cH)(QP:cb)(s:St)(h:AH):Prop:=bE.t3 s h (bE.k1 W Q QP) (bE.k2 W Q QP)
theorem bE.Ja(C0 C1:KT):aw Pg 21 W bE.pl (Code.at bE.code [1,1,0,1,0,0]) (bJ (C1) (bJ (C0) (Q))) QP s h=bE.t3 s h C0 C1:=by kernel_rfl
theorem bE.I_:aw Pg 21 W bE.pl (Code.at bE.code [1,1,0,1,0]) (bJ (bE.k1 W Q QP) (Q)) QP s h=bE.k3 W Q QP s h:=jn (a:=(Code.at bE.code [1,1,0,1,0,0])) (b:=(Code.at bE.code [1,1,0,1,0,1])) (by kernel_rfl) (bE.Jb W Q QP) (bE.Ja W Q QP s h (bE.k1 W Q QP) (bE.k2 W Q QP))
theorem bE.o1:aw Pg 21 W bE.pl (Code.at bE.code [1,1,0,1]) (Q) QP s h=bE.k3 W Q QP s h:=jn (a:=(Code.at bE.code [1,1,0,1,0])) (b:=(Code.at bE.code [1,1,0,1,1])) (by kernel_rfl) (bE.Et W Q QP) (bE.I_ W Q QP s h)
def bE.t4(W:Nat->Prop)(s:St)(h:AH)(C0:KT):Prop:=
 DD (some false) 65 true (s.tm 3) fun t11=>
 cW t11 0 fun t12=>
 cW t11 1 fun t13=>
 bx (some [.int .i64 0,.int .i64 0]) 2 65 h fun t14 qf=>
 aD (some 2) t14 t12 qf W fun rW=>
 C0 ⟨ag s.tm [(10,(s.tm 3)),(11,t11),(9,t11),(12,t12),(13,t13),(4,t14),(5,t13)],s.ds⟩ rW
def bE.k4(W:Nat->Prop)(Q:cH)(QP:cb)(s:St)(h:AH):Prop:=bE.t4 W s h (bE.k3 W Q QP)
theorem bE.I9(C0:KT):aw Pg 21 W bE.pl (Code.at bE.code [1,1,0,0]) (bJ (C0) (Q)) QP s h=bE.t4 W s h C0:=by kernel_rfl
theorem bE.I8:aw Pg 21 W bE.pl (Code.at bE.code [1,1,0]) (Q) QP s h=bE.k4 W Q QP s h:=jn (a:=(Code.at bE.code [1,1,0,0])) (b:=(Code.at bE.code [1,1,0,1])) (by kernel_rfl) (bE.o1 W Q QP) (bE.I9 W Q QP s h (bE.k3 W Q QP))
def bE.t5(Q:cH)(s:St)(h:AH)(C0:KT):Prop:=
 aF (s.tm 8) (
 C0 s h) (
 Q .normal s h)
def bE.k5(W:Nat->Prop)(Q:cH)(QP:cb)(s:St)(h:AH):Prop:=bE.t5 Q s h (bE.k4 W Q QP)
theorem bE.ZA(C0:KT):aF (lU s (.tmp 8)) (C0 s h) (aw Pg 21 W bE.pl (Code.at bE.code [1,1,1]) (Q) QP s h)=bE.t5 Q s h C0:=by kernel_rfl
theorem bE.I7:aw Pg 21 W bE.pl (Code.at bE.code [1,1]) (Q) QP s h=bE.k5 W Q QP s h:=su (a:=(Code.at bE.code [1,1,0])) (b:=(Code.at bE.code [1,1,1])) (by kernel_rfl) (bE.I8 W Q QP s h) rfl (bE.ZA W Q QP s h (bE.k4 W Q QP))
def bE.t6(s:St)(h:AH)(C0:KT):Prop:=
 ai Pg .neq 20 true (s.tm 3) (.sc (.nilIface)) fun t17=>
 C0 ⟨ag s.tm [(7,(s.tm 3)),(8,t17)],s.ds⟩ h
def bE.k6(W:Nat->Prop)(Q:cH)(QP:cb)(s:St)(h:AH):Prop:=bE.t6 s h (bE.k5 W Q QP)
theorem bE.I6(C0:KT):aw Pg 21 W bE.pl (Code.at bE.code [1,0]) (bJ (C0) (Q)) QP s h=bE.t6 s h C0:=by kernel_rfl
theorem bE.I5:aw Pg 21 W bE.pl (Code.at bE.code [1]) (Q) QP s h=bE.k6 W Q QP s h:=jn (a:=(Code.at bE.code [1,0])) (b:=(Code.at bE.code [1,1])) (by kernel_rfl) (bE.I7 W Q QP) (bE.I6 W Q QP s h (bE.k5 W Q QP))
end
attribute [simp] bE.k1 bE.t1 bE.k2 bE.t2 bE.k3 bE.t3 bE.k4 bE.t4 bE.k5 bE.t5 bE.k6 bE.t6
end
section
open Go.Ab
namespace fy
section
variable (W:WK) (Q:cH) (QP:cb) (s:St) (h:AH)
noncomputable def code:Code:=Tryz.f13.body.getD .skip
def pl:dj:=[(12,⟨[(none,(fr 0 5)),(some (4,true),(fr 5 4)),(none,(fr 9 1))],false,[],[]⟩),(15,⟨[(none,(fr 0 5)),(some (4,true),(fr 5 5)),(some (9,false),(fr 10 4)),(some (4,true),(fr 14 1)),(none,(fr 15 1))],false,[],[]⟩),(19,⟨[(none,(fr 0 5)),(some (4,true),(fr 5 4)),(none,(fr 9 1))],false,[],[]⟩),(21,⟨[(none,(fr 0 5)),(some (4,true),(fr 5 4)),(none,(fr 9 1))],false,[],[]⟩)]
def k1:OK:=fun _ Q _ s h=>
Q .ret ⟨ag s.tm [(120,(s.tm 5)),(2,(s.tm 5)),(3,(.sc (.int .i64 0))),(4,(.sc (.int .i64 0)))],s.ds⟩ h
def k2:OK:=fun _ Q _ s h=>
ai Pg .add 3 true (s.tm 6) (.sc (.int .i64 1)) fun t1=>
Q .normal ⟨ag s.tm [(24,(s.tm 6)),(25,t1),(6,t1)],s.ds⟩ h
def k3:OK:=fun _ Q _ s h=>
Q .normal s h
def k4:OK:=fun _ Q _ s h=>
ai Pg .add 3 true (s.tm 6) (.sc (.int .i64 1)) fun t2=>
Q .normal ⟨ag s.tm [(39,(s.tm 6)),(40,t2),(6,t2)],s.ds⟩ h
def k5:OK:=fun W Q QP s h=>
aF (s.tm 38) (
k4 W Q QP s h) (
Q (.exit 3) s h)
def k6:OK:=fun W Q QP s h=>
aO (s.tm 33) (s.tm 37) (.sc (.bool false)) fun t3=>
k5 W Q QP ⟨ag s.tm [(38,t3)],s.ds⟩ h
def k7:OK:=fun W Q QP s h=>
bw true (s.tm 33) (
m8 true (s.tm 0) (s.tm 6) fun t4=>
ai Pg .neq 5 true t4 (.sc (.int .u8 10)) fun t5=>
k6 W Q QP ⟨ag s.tm [(34,(s.tm 0)),(35,(s.tm 6)),(36,t4),(37,t5)],s.ds⟩ h) (
k6 W Q QP ⟨ag s.tm [(34,ab),(35,ab),(36,ab),(37,ab)],s.ds⟩ h)
def k8:OK:=fun W Q QP s h=>
(aY (s.tm 0)=true)/\bL (s.tm 0) fun t6=>
ai Pg .lss 3 false (s.tm 6) t6 fun t7=>
k7 W Q QP ⟨ag s.tm [(29,(s.tm 6)),(30,(s.tm 0)),(31,t6),(32,t7),(33,t7)],s.ds⟩ h
noncomputable def c2:Code:=Code.at code [1,1,1,1,0,0,0,1,0,1,1,0,1,1,1,0,0,0,0]
theorem l2:aw Pg 121 W pl c2 Q QP s h=k8 W Q QP s h:=congrFun (congrFun (show TB ⟨Pg,121,pl⟩ W QP c2 Q (k8 W Q QP) from
(sn
(bk 4 (sm (k4 W Q QP)))
(sn
(cd (k5 W Q QP) tr tr)
(gr (gn (k8 W Q QP) (gx (k7 W Q QP) (gl (k6 W Q QP)))))))) s) h
def k9:OK:=fun W Q QP s h=>hJ (aw Pg 121 W pl c2) (df 3 (bJ (k3 W Q QP) (df 2 (df 1 (Q))))) QP s h
def cZ:OK:=fun W Q _ s h=>
qk (s.tm 0) (some (s.tm 8)) (some (s.tm 6)) fun t8=>
cN (some ([.int .i64 0,.string ⟨#[]⟩,.int .i64 0],.inl [(0,1),(1,1),(2,1)])) [(0,(.sc (.int .i64 1))),(1,t8),(2,(s.tm 8))] fun t9=>
dG (some (3,84,[.int .i64 0,.string ⟨#[]⟩,.int .i64 0])) 1 [(0,t9)] h fun t10 mO=>
fE (some (3,32,84)) (s.tm 5) t10 mO W fun t12 Ic=>
Q .normal ⟨ag s.tm [(62,(s.tm 5)),(63,(s.tm 0)),(64,(s.tm 8)),(65,(s.tm 6)),(66,t8),(67,(s.tm 8)),(68,t9),(69,t10),(70,t12),(5,t12)],s.ds⟩ Ic
def dB:OK:=fun _ Q _ s h=>
ai Pg .add 3 true (s.tm 6) (.sc (.int .i64 1)) fun t14=>
Q .normal ⟨ag s.tm [(60,(s.tm 6)),(61,t14),(6,t14)],s.ds⟩ h
def eU:OK:=fun W Q QP s h=>
aF (s.tm 59) (
dB W Q QP s h) (
Q (.exit 5) s h)
def fi:OK:=fun W Q QP s h=>
aO (s.tm 48) (s.tm 58) (.sc (.bool false)) fun t15=>
eU W Q QP ⟨ag s.tm [(59,t15)],s.ds⟩ h
def ir:OK:=fun W Q QP s h=>
bw true (s.tm 48) (
aO (s.tm 53) (.sc (.bool true)) (s.tm 57) fun t16=>
fi W Q QP ⟨ag s.tm [(58,t16)],s.ds⟩ h) (
fi W Q QP ⟨ag s.tm [(58,ab)],s.ds⟩ h)
def iq:OK:=fun W Q QP s h=>
bw false (s.tm 53) (
m8 true (s.tm 0) (s.tm 6) fun t17=>
aq Pg W 28 [t17] h (fun t18 mM=>
ir W Q QP ⟨ag s.tm [(54,(s.tm 0)),(55,(s.tm 6)),(56,t17),(57,t18)],s.ds⟩ mM) (QP s.ds)) (
ir W Q QP ⟨ag s.tm [(54,ab),(55,ab),(56,ab),(57,ab)],s.ds⟩ h)
def hH:OK:=fun W Q QP s h=>
bw true (s.tm 48) (
m8 true (s.tm 0) (s.tm 6) fun t20=>
aq Pg W 27 [t20] h (fun t21 sT=>
iq W Q QP ⟨ag s.tm [(49,(s.tm 0)),(50,(s.tm 6)),(51,t20),(52,t21),(53,t21)],s.ds⟩ sT) (QP s.ds)) (
iq W Q QP ⟨ag s.tm [(49,ab),(50,ab),(51,ab),(52,ab),(53,ab)],s.ds⟩ h)
def jA:OK:=fun W Q QP s h=>
(aY (s.tm 0)=true)/\bL (s.tm 0) fun t23=>
ai Pg .lss 3 false (s.tm 6) t23 fun t24=>
hH W Q QP ⟨ag s.tm [(44,(s.tm 6)),(45,(s.tm 0)),(46,t23),(47,t24),(48,t24)],s.ds⟩ h
noncomputable def c3:Code:=Code.at code [1,1,1,1,0,0,0,1,0,1,1,0,1,1,1,1,1,0,0,0,0]
theorem l3:aw Pg 121 W pl c3 Q QP s h=jA W Q QP s h:=congrFun (congrFun (show TB ⟨Pg,121,pl⟩ W QP c3 Q (jA W Q QP) from
(sn
(bk 6 (sm (dB W Q QP)))
(sn
(cd (eU W Q QP) tr tr)
(gr (gn (jA W Q QP) (gx (hH W Q QP) (gx (iq W Q QP) (gx (ir W Q QP) (gl (fi W Q QP)))))))))) s) h
def lx:OK:=fun W Q QP s h=>hJ (aw Pg 121 W pl c3) (df 5 (bJ (cZ W Q QP) (df 2 (df 1 (Q))))) QP s h
def ml:OK:=fun W Q _ s h=>
qk (s.tm 0) (some (s.tm 8)) (some (s.tm 6)) fun t25=>
cN (some ([.int .i64 0,.string ⟨#[]⟩,.int .i64 0],.inl [(0,1),(1,1),(2,1)])) [(0,(.sc (.int .i64 2))),(1,t25),(2,(s.tm 8))] fun t26=>
dG (some (3,84,[.int .i64 0,.string ⟨#[]⟩,.int .i64 0])) 1 [(0,t26)] h fun t27 qc=>
fE (some (3,32,84)) (s.tm 5) t27 qc W fun t29 wP=>
Q .normal ⟨ag s.tm [(97,(s.tm 5)),(98,(s.tm 0)),(99,(s.tm 8)),(100,(s.tm 6)),(101,t25),(102,(s.tm 8)),(103,t26),(104,t27),(105,t29),(5,t29)],s.ds⟩ wP
def lP:OK:=fun _ Q _ s h=>
Q .ret ⟨ag s.tm [(96,(s.tm 6)),(2,(.sc (.slice none 0 0))),(3,(s.tm 6)),(4,(.sc (.int .i64 90)))],s.ds⟩ h
def nf:OK:=fun W Q QP s h=>
aF (s.tm 95) (
lP W Q QP s h) (
ml W Q QP s h)
def kV:OK:=fun W Q QP s h=>
aO (s.tm 90) (s.tm 94) (.sc (.bool false)) fun t31=>
nf W Q QP ⟨ag s.tm [(95,t31)],s.ds⟩ h
def mj:OK:=fun W Q QP s h=>
bw true (s.tm 90) (
m8 true (s.tm 0) (s.tm 6) fun t32=>
aq Pg W 27 [t32] h (fun t33 D6=>
kV W Q QP ⟨ag s.tm [(91,(s.tm 0)),(92,(s.tm 6)),(93,t32),(94,t33)],s.ds⟩ D6) (QP s.ds)) (
kV W Q QP ⟨ag s.tm [(91,ab),(92,ab),(93,ab),(94,ab)],s.ds⟩ h)
def mI:OK:=fun W Q QP s h=>
(aY (s.tm 0)=true)/\bL (s.tm 0) fun t35=>
ai Pg .lss 3 false (s.tm 6) t35 fun t36=>
mj W Q QP ⟨ag s.tm [(86,(s.tm 6)),(87,(s.tm 0)),(88,t35),(89,t36),(90,t36)],s.ds⟩ h
def pB:OK:=fun _ Q _ s h=>
ai Pg .add 3 true (s.tm 6) (.sc (.int .i64 1)) fun t37=>
Q .normal ⟨ag s.tm [(84,(s.tm 6)),(85,t37),(6,t37)],s.ds⟩ h
def pV:OK:=fun W Q QP s h=>
aF (s.tm 83) (
pB W Q QP s h) (
Q (.exit 7) s h)
def oB:OK:=fun W Q QP s h=>
aO (s.tm 78) (s.tm 82) (.sc (.bool false)) fun t38=>
pV W Q QP ⟨ag s.tm [(83,t38)],s.ds⟩ h
def oY:OK:=fun W Q QP s h=>
bw true (s.tm 78) (
m8 true (s.tm 0) (s.tm 6) fun t39=>
aq Pg W 28 [t39] h (fun t40 wM=>
oB W Q QP ⟨ag s.tm [(79,(s.tm 0)),(80,(s.tm 6)),(81,t39),(82,t40)],s.ds⟩ wM) (QP s.ds)) (
oB W Q QP ⟨ag s.tm [(79,ab),(80,ab),(81,ab),(82,ab)],s.ds⟩ h)
def pA:OK:=fun W Q QP s h=>
(aY (s.tm 0)=true)/\bL (s.tm 0) fun t42=>
ai Pg .lss 3 false (s.tm 6) t42 fun t43=>
oY W Q QP ⟨ag s.tm [(74,(s.tm 6)),(75,(s.tm 0)),(76,t42),(77,t43),(78,t43)],s.ds⟩ h
noncomputable def c4:Code:=Code.at code [1,1,1,1,0,0,0,1,0,1,1,0,1,1,1,1,1,1,1,0,0,0,0]
theorem l4:aw Pg 121 W pl c4 Q QP s h=pA W Q QP s h:=congrFun (congrFun (show TB ⟨Pg,121,pl⟩ W QP c4 Q (pA W Q QP) from
(sn
(bk 8 (sm (pB W Q QP)))
(sn
(cd (pV W Q QP) tr tr)
(gr (gn (pA W Q QP) (gx (oY W Q QP) (gl (oB W Q QP)))))))) s) h
def mH:OK:=fun W Q QP s h=>hJ (aw Pg 121 W pl c4) (df 7 (bJ (mI W Q QP) (df 2 (df 1 (Q))))) QP s h
def oX:OK:=fun W Q _ s h=>
qk (s.tm 0) (some (s.tm 8)) (some (s.tm 6)) fun t44=>
cN (some ([.int .i64 0,.string ⟨#[]⟩,.int .i64 0],.inl [(0,1),(1,1),(2,1)])) [(0,(.sc (.int .i64 3))),(1,t44),(2,(s.tm 8))] fun t45=>
dG (some (3,84,[.int .i64 0,.string ⟨#[]⟩,.int .i64 0])) 1 [(0,t45)] h fun t46 wK=>
fE (some (3,32,84)) (s.tm 5) t46 wK W fun t48 wJ=>
Q .normal ⟨ag s.tm [(111,(s.tm 5)),(112,(s.tm 0)),(113,(s.tm 8)),(114,(s.tm 6)),(115,t44),(116,(s.tm 8)),(117,t45),(118,t46),(119,t48),(5,t48)],s.ds⟩ wJ
def nN:OK:=fun W Q QP s h=>
ai Pg .add 3 true (s.tm 6) (.sc (.int .i64 1)) fun t50=>
oX W Q QP ⟨ag s.tm [(109,(s.tm 6)),(110,t50),(6,t50)],s.ds⟩ h
def pz:OK:=fun _ Q _ s h=>
Q .ret ⟨ag s.tm [(20,(s.tm 6)),(2,(.sc (.slice none 0 0))),(3,(s.tm 6)),(4,(.sc (.int .i64 90)))],s.ds⟩ h
def py:OK:=fun W Q QP s h=>
aF (s.tm 106) (
nN W Q QP s h) (
pz W Q QP s h)
def re:OK:=fun W Q QP s h=>
aq Pg W 29 [(s.tm 7)] h (fun t51 pb=>
py W Q QP ⟨ag s.tm [(107,(s.tm 7)),(108,t51),(106,t51)],s.ds⟩ pb) (QP s.ds)
def nM:OK:=fun W Q QP s h=>
aF (s.tm 71) (
mH W Q QP s h) (
re W Q QP s h)
def q_:OK:=fun W Q QP s h=>
aq Pg W 28 [(s.tm 7)] h (fun t53 D5=>
nM W Q QP ⟨ag s.tm [(72,(s.tm 7)),(73,t53),(71,t53)],s.ds⟩ D5) (QP s.ds)
def oA:OK:=fun W Q QP s h=>
aF (s.tm 41) (
lx W Q QP s h) (
q_ W Q QP s h)
def pt:OK:=fun W Q QP s h=>
aq Pg W 27 [(s.tm 7)] h (fun t55 Gl=>
oA W Q QP ⟨ag s.tm [(42,(s.tm 7)),(43,t55),(41,t55)],s.ds⟩ Gl) (QP s.ds)
def oW:OK:=fun W Q QP s h=>
aF (s.tm 26) (
k9 W Q QP s h) (
pt W Q QP s h)
def pU:OK:=fun W Q QP s h=>
ai Pg .eql 5 true (s.tm 7) (.sc (.int .u8 35)) fun t57=>
oW W Q QP ⟨ag s.tm [(27,(s.tm 7)),(28,t57),(26,t57)],s.ds⟩ h
def lu:OK:=fun W Q QP s h=>
aF (s.tm 21) (
k2 W Q QP s h) (
pU W Q QP s h)
def rN:OK:=fun W Q QP s h=>
aq Pg W 26 [(s.tm 7)] h (fun t58 xY=>
lu W Q QP ⟨ag s.tm [(22,(s.tm 7)),(23,t58),(21,t58)],s.ds⟩ xY) (QP s.ds)
def xK:OK:=fun W Q QP s h=>
rN W Q QP ⟨ag s.tm [(19,(s.tm 6)),(8,(s.tm 6))],s.ds⟩ h
def wA:OK:=fun W Q QP s h=>
m8 true (s.tm 0) (s.tm 6) fun t60=>
xK W Q QP ⟨ag s.tm [(16,(s.tm 0)),(17,(s.tm 6)),(18,t60),(7,t60)],s.ds⟩ h
def zg:OK:=fun W Q QP s h=>
aF (s.tm 15) (
wA W Q QP s h) (
Q (.exit 0) s h)
def zf:OK:=fun W Q QP s h=>
(aY (s.tm 0)=true)/\bL (s.tm 0) fun t61=>
ai Pg .lss 3 false (s.tm 6) t61 fun t62=>
zg W Q QP ⟨ag s.tm [(12,(s.tm 6)),(13,(s.tm 0)),(14,t61),(15,t62)],s.ds⟩ h
noncomputable def c1:Code:=Code.at code [1,1,1,1,0,0,0]
theorem l1:aw Pg 121 W pl c1 Q QP s h=zf W Q QP s h:=congrFun (congrFun (show TB ⟨Pg,121,pl⟩ W QP c1 Q (zf W Q QP) from
(sn
(bk 1 (sq (wA W Q QP)
(sq (xK W Q QP)
(bk 2 (sq (rN W Q QP)
(cd (lu W Q QP) (sl (k2 W Q QP)) (sq (pU W Q QP)
(cd (oW W Q QP) (sn
(sm (k3 W Q QP))
(bk 3 (lo (k9 W Q QP)))) (sq (pt W Q QP)
(cd (oA W Q QP) (sn
(sm (cZ W Q QP))
(bk 5 (lo (lx W Q QP)))) (sq (q_ W Q QP)
(cd (nM W Q QP) (sn
(sn
(sm (ml W Q QP))
(sn
(cd (nf W Q QP) (sl (lP W Q QP)) tr)
(gr (gn (mI W Q QP) (gx (mj W Q QP) (gl (kV W Q QP)))))))
(bk 7 (lo (mH W Q QP)))) (sq (re W Q QP)
(cd (py W Q QP) (sq (nN W Q QP)
(sm (oX W Q QP))) (sl (pz W Q QP))))))))))))))))
(sq (zf W Q QP)
(cd (zg W Q QP) tr tr)))) s) h
def uO:OK:=fun W Q QP s h=>hJ (aw Pg 121 W pl c1) (df 0 (bJ (k1 W Q QP) (Q))) QP s h
def DP:OK:=fun W Q QP s h=>
uO W Q QP ⟨ag s.tm [(6,(.sc (.int .i64 0)))],s.ds⟩ h
def BH:OK:=fun W Q QP s h=>
DP W Q QP ⟨ag s.tm [(5,(.sc (.slice none 0 0)))],s.ds⟩ h
def ze:OK:=fun _ Q _ s h=>
Q .ret ⟨ag s.tm [(2,(.sc (.slice none 0 0))),(3,(.sc (.int .i64 0))),(4,(.sc (.int .i64 1)))],s.ds⟩ h
def xJ:OK:=fun W Q QP s h=>
aF (s.tm 11) (
ze W Q QP s h) (
BH W Q QP s h)
def uN:OK:=fun W Q QP s h=>
(aY (s.tm 0)=true)/\bL (s.tm 0) fun t63=>
ai Pg .gtr 3 true t63 (.sc (.int .i64 65536)) fun t64=>
xJ W Q QP ⟨ag s.tm [(9,(s.tm 0)),(10,t63),(11,t64)],s.ds⟩ h
def BG:OK:=fun W Q QP s h=>
uN W Q QP ⟨ag s.tm [(2,(.sc (.slice none 0 0))),(3,(.sc (.int .i64 0))),(4,(.sc (.int .i64 0)))],s.ds⟩ h
end
theorem calls{x0:AV}{h:AH}{M:WK}{R:RK}(hp:BG (fun id=>M id\/h.next<=id) (bQ Pg [.tmp 2,.tmp 3,.tmp 4] R) (aW R) (s0 [x0]) h):aA Pg 13 [x0] h M R:=
 kb (n:=121) (pl:=pl) BG Tryz.mixed Tryz.func13 (fun W Q QP=>
(sq (BG W Q QP)
(sn
(sq (BH W Q QP)
(sq (DP W Q QP)
(sn
(sl (k1 W Q QP))
(bk 0 (lo (uO W Q QP))))))
(sq (uN W Q QP)
(cd (xJ W Q QP) (sl (ze W Q QP)) tr))))) hp
attribute [simp] k1 k2 k3 k4 k5 k6 k7 k8 k9 cZ dB eU fi ir iq hH jA lx ml lP nf kV mj mI pB pV oB oY pA mH oX nN pz py re nM q_ oA pt oW pU lu rN xK wA zg zf uO DP BH ze xJ uN BG
end fy
end
end Go.Proofs.YtjehibknlmehmaaGreat
