/- Bodies of the reader; printed. No condition. -/
import Derived.Test.YtjehibknlmehmaaGl
set_option maxRecDepth 100000
namespace Go.Proofs.Ytjehibknlmehmaa
section
open Go.Ab
namespace F88
def pl:Plans:=[]
def t1(Q:Post)(s:St)(h:AH):Prop:=
Q .ret ⟨puts s.tm [(2,(.sc (.bool false)))],s.ds⟩ h
def k1:OK:=fun _ Q _ s h=>t1 Q s h
def t2(Q:Post)(s:St)(h:AH):Prop:=
Q .ret ⟨puts s.tm [(2,(.sc (.bool true)))],s.ds⟩ h
def k2:OK:=fun _ Q _ s h=>t2 Q s h
def t3(s:St)(h:AH)(C0 C1:KT):Prop:=
aIf (s.tm 4) (
C1 s h) (
C0 s h)
def k3:OK:=fun W Q QP s h=>t3 s h (k1 W Q QP) (k2 W Q QP)
def t4(s:St)(h:AH)(C0:KT):Prop:=
aIf (s.tm 4) (
C0 s h) (
pBin Try.prog .eql 9 true (s.tm 3) (.sc (.string ⟨#[114,101,115,101,116]⟩)) fun t1=>
C0 ⟨puts s.tm [(11,t1),(4,t1)],s.ds⟩ h)
def k4:OK:=fun W Q QP s h=>t4 s h (k3 W Q QP)
def t5(s:St)(h:AH)(C0:KT):Prop:=
pBin Try.prog .eql 9 true (s.tm 3) (.sc (.string ⟨#[109,101,97,115,117,114,101]⟩)) fun t2=>
C0 ⟨puts s.tm [(10,t2),(4,t2)],s.ds⟩ h
def k5:OK:=fun W Q QP s h=>t5 s h (k4 W Q QP)
def t6(s:St)(h:AH)(C0 C1:KT):Prop:=
aIf (s.tm 4) (
C0 s h) (
C1 s h)
def k6:OK:=fun W Q QP s h=>t6 s h (k3 W Q QP) (k5 W Q QP)
def t7(s:St)(h:AH)(C0:KT):Prop:=
pBin Try.prog .eql 9 true (s.tm 3) (.sc (.string ⟨#[105,102]⟩)) fun t3=>
C0 ⟨puts s.tm [(9,t3),(4,t3)],s.ds⟩ h
def k7:OK:=fun W Q QP s h=>t7 s h (k6 W Q QP)
def t8(s:St)(h:AH)(C0 C1:KT):Prop:=
aIf (s.tm 4) (
C0 s h) (
C1 s h)
def k8:OK:=fun W Q QP s h=>t8 s h (k3 W Q QP) (k7 W Q QP)
def t9(s:St)(h:AH)(C0:KT):Prop:=
pBin Try.prog .eql 9 true (s.tm 3) (.sc (.string ⟨#[114,101,112,101,97,116]⟩)) fun t4=>
C0 ⟨puts s.tm [(8,t4),(4,t4)],s.ds⟩ h
def k9:OK:=fun W Q QP s h=>t9 s h (k8 W Q QP)
def t10(s:St)(h:AH)(C0 C1:KT):Prop:=
aIf (s.tm 4) (
C0 s h) (
C1 s h)
def k10:OK:=fun W Q QP s h=>t10 s h (k3 W Q QP) (k9 W Q QP)
def t11(s:St)(h:AH)(C0:KT):Prop:=
pBin Try.prog .eql 9 true (s.tm 3) (.sc (.string ⟨#[103,97,116,101]⟩)) fun t5=>
C0 ⟨puts s.tm [(7,t5),(4,t5)],s.ds⟩ h
def k11:OK:=fun W Q QP s h=>t11 s h (k10 W Q QP)
def t12(s:St)(h:AH)(C0 C1:KT):Prop:=
aIf (s.tm 4) (
C1 s h) (
C0 s h)
def k12:OK:=fun W Q QP s h=>t12 s h (k11 W Q QP) (k3 W Q QP)
def t13(s:St)(h:AH)(C0:KT):Prop:=
pBin Try.prog .eql 9 true (s.tm 3) (.sc (.string ⟨#[98,105,116,115]⟩)) fun t6=>
C0 ⟨puts s.tm [(6,t6),(4,t6)],s.ds⟩ h
def k13:OK:=fun W Q QP s h=>t13 s h (k12 W Q QP)
def t14(s:St)(h:AH)(C0 C1:KT):Prop:=
aIf (s.tm 4) (
C1 s h) (
C0 s h)
def k14:OK:=fun W Q QP s h=>t14 s h (k13 W Q QP) (k3 W Q QP)
def t15(s:St)(h:AH)(C0:KT):Prop:=
pBin Try.prog .eql 9 true (s.tm 3) (.sc (.string ⟨#[113,117,98,105,116,115]⟩)) fun t7=>
C0 ⟨puts s.tm [(5,t7),(4,t7)],s.ds⟩ h
def k15:OK:=fun W Q QP s h=>t15 s h (k14 W Q QP)
def t16(s:St)(h:AH)(C0:KT):Prop:=
C0 ⟨puts s.tm [(3,(s.tm 0))],s.ds⟩ h
def k16:OK:=fun W Q QP s h=>t16 s h (k15 W Q QP)
def t17(s:St)(h:AH)(C0:KT):Prop:=
C0 ⟨puts s.tm [(2,(.sc (.bool false)))],s.ds⟩ h
def k17:OK:=fun W Q QP s h=>t17 s h (k16 W Q QP)
theorem calls{x0:AV}{h:AH}{M:WK}{R:RK}(hp:k17 (fun id=>M id\/h.next<=id) (bodyQ Try.prog [.tmp 2] R) (bodyP R) (s0 [x0]) h):ACalls Try.prog 88 [x0] h M R:=
 fio (n:=12) (pl:=pl) k17 Try.mixed Try.func88 (fun W Q QP=>
(sq (k17 W Q QP)
(sn
(sl (k1 W Q QP))
(sq (k16 W Q QP)
(bk 0 (sn
(cd (k3 W Q QP) (sl (k2 W Q QP)) tr)
(sq (k15 W Q QP)
(cd (k14 W Q QP) tr (sq (k13 W Q QP)
(cd (k12 W Q QP) tr (sq (k11 W Q QP)
(cd (k10 W Q QP) tr (sq (k9 W Q QP)
(cd (k8 W Q QP) tr (sq (k7 W Q QP)
(cd (k6 W Q QP) tr (sq (k5 W Q QP)
(cd (k4 W Q QP) tr tr)))))))))))))))))) hp
attribute [simp] k1 t1 k2 t2 k3 t3 k4 t4 k5 t5 k6 t6 k7 t7 k8 t8 k9 t9 k10 t10 k11 t11 k12 t12 k13 t13 k14 t14 k15 t15 k16 t16 k17 t17
end F88
namespace F87
def pl:Plans:=[(1,⟨[(none,(fr 0 11)),(some (10,true),(fr 11 12)),(none,(fr 23 2)),(some (24,true),(fr 25 13)),(none,(fr 38 2))],false,[],[]⟩)]
def t1(Q:Post)(s:St)(h:AH):Prop:=
Q .ret s h
def k1:OK:=fun _ Q _ s h=>t1 Q s h
def t2(s:St)(h:AH)(C0:KT):Prop:=
pPick (s.tm 29) (s.tm 42) (.sc (.bool false)) fun t1=>
C0 ⟨puts s.tm [(43,t1),(4,t1)],s.ds⟩ h
def k2:OK:=fun W Q QP s h=>t2 s h (k1 W Q QP)
def t3(s:St)(h:AH)(C0:KT):Prop:=
aIg true (s.tm 29) (
pNil (s.tm 0) fun t2=>
pFld (some 0) t2 fun t3=>
lLd (some false) (some 1) t3 h fun t4 _=>
pNil (s.tm 0) fun t6=>
pFld (some 1) t6 fun t7=>
lLd (some false) (some 1) t7 h fun t8 _=>
pIxA (some (3,none)) t4 t8 fun t10=>
pFld (some 1) t10 fun t11=>
lLd (some false) (some 1) t11 h fun t12 _=>
pBin Try.prog .eql 9 false t12 (s.tm 1) fun t14=>
C0 ⟨puts s.tm [(30,(s.tm 0)),(31,t2),(32,t3),(33,t4),(34,(s.tm 0)),(35,t6),(36,t7),(37,t8),(38,t10),(39,t11),(40,t12),(41,(s.tm 1)),(42,t14)],s.ds⟩ h) (
C0 ⟨puts s.tm [(30,noA),(31,noA),(32,noA),(33,noA),(34,noA),(35,noA),(36,noA),(37,noA),(38,noA),(39,noA),(40,noA),(41,noA),(42,noA)],s.ds⟩ h)
def k3:OK:=fun W Q QP s h=>t3 s h (k2 W Q QP)
def t4(s:St)(h:AH)(C0:KT):Prop:=
pPick (s.tm 15) (s.tm 27) (.sc (.bool false)) fun t15=>
C0 ⟨puts s.tm [(28,t15),(29,t15)],s.ds⟩ h
def k4:OK:=fun W Q QP s h=>t4 s h (k3 W Q QP)
def t5(s:St)(h:AH)(C0:KT):Prop:=
aIg true (s.tm 15) (
pNil (s.tm 0) fun t16=>
pFld (some 0) t16 fun t17=>
lLd (some false) (some 1) t17 h fun t18 _=>
pNil (s.tm 0) fun t20=>
pFld (some 1) t20 fun t21=>
lLd (some false) (some 1) t21 h fun t22 _=>
pIxA (some (3,none)) t18 t22 fun t24=>
pFld (some 0) t24 fun t25=>
lLd (some false) (some 1) t25 h fun t26 _=>
pBin Try.prog .eql 3 true t26 (.sc (.int .i64 3)) fun t28=>
C0 ⟨puts s.tm [(16,(s.tm 0)),(17,t16),(18,t17),(19,t18),(20,(s.tm 0)),(21,t20),(22,t21),(23,t22),(24,t24),(25,t25),(26,t26),(27,t28)],s.ds⟩ h) (
C0 ⟨puts s.tm [(16,noA),(17,noA),(18,noA),(19,noA),(20,noA),(21,noA),(22,noA),(23,noA),(24,noA),(25,noA),(26,noA),(27,noA)],s.ds⟩ h)
def k5:OK:=fun W Q QP s h=>t5 s h (k4 W Q QP)
def t6(s:St)(h:AH)(C0:KT):Prop:=
pNil (s.tm 0) fun t29=>
pFld (some 1) t29 fun t30=>
lLd (some false) (some 1) t30 h fun t31 _=>
pNil (s.tm 0) fun t33=>
pFld (some 0) t33 fun t34=>
lLd (some false) (some 1) t34 h fun t35 _=>
(strArg t35=false)/\pLen t35 fun t37=>
pBin Try.prog .lss 3 false t31 t37 fun t38=>
C0 ⟨puts s.tm [(5,(s.tm 0)),(6,t29),(7,t30),(8,t31),(9,(s.tm 0)),(10,t33),(11,t34),(12,t35),(13,t37),(14,t38),(15,t38)],s.ds⟩ h
def k6:OK:=fun W Q QP s h=>t6 s h (k5 W Q QP)
def t7(s:St)(h:AH)(C0:KT):Prop:=
C0 ⟨puts s.tm [(4,(.sc (.bool false)))],s.ds⟩ h
def k7:OK:=fun W Q QP s h=>t7 s h (k6 W Q QP)
theorem calls{x0 x1:AV}{h:AH}{M:WK}{R:RK}(hp:k7 (fun id=>M id\/h.next<=id) (bodyQ Try.prog [.tmp 4] R) (bodyP R) (s0 [x0,x1]) h):ACalls Try.prog 87 [x0,x1] h M R:=
 fio (n:=44) (pl:=pl) k7 Try.mixed Try.func87 (fun W Q QP=>
(sq (k7 W Q QP)
(sn
(sm (k1 W Q QP))
(gr (gn (k6 W Q QP) (gx (k5 W Q QP) (gn (k4 W Q QP) (gx (k3 W Q QP) (gl (k2 W Q QP)))))))))) hp
attribute [simp] k1 t1 k2 t2 k3 t3 k4 t4 k5 t5 k6 t6 k7 t7
end F87
namespace F72
def pl:Plans:=[]
def t1(W:WK)(Q:Post)(QP:PPost)(s:St)(h:AH):Prop:=
aCall Try.prog W 75 [(s.tm 0)] h (fun t1 h2=>
aCall Try.prog W 71 [(s.tm 0),t1] h2 (fun t3 h4=>
pFdV (some (1,1,false)) t3 fun t5=>
Q .ret ⟨puts s.tm [(3,(s.tm 0)),(4,(s.tm 0)),(5,t1),(6,t3),(7,t5),(2,t5)],s.ds⟩ h4) (QP s.ds)) (QP s.ds)
def k1:OK:=fun W Q QP s h=>t1 W Q QP s h
def t2(s:St)(h:AH)(C0:KT):Prop:=
C0 ⟨puts s.tm [(2,(.sc (.string ⟨#[]⟩)))],s.ds⟩ h
def k2:OK:=fun W Q QP s h=>t2 s h (k1 W Q QP)
theorem calls{x0:AV}{h:AH}{M:WK}{R:RK}(hp:k2 (fun id=>M id\/h.next<=id) (bodyQ Try.prog [.tmp 2] R) (bodyP R) (s0 [x0]) h):ACalls Try.prog 72 [x0] h M R:=
 fio (n:=8) (pl:=pl) k2 Try.mixed Try.func72 (fun W Q QP=>
(sq (k2 W Q QP)
(sl (k1 W Q QP)))) hp
attribute [simp] k1 t1 k2 t2
end F72
namespace F75
def pl:Plans:=[(1,⟨[(none,(fr 0 11)),(some (10,true),(fr 11 12)),(none,(fr 23 2)),(some (24,true),(fr 25 13)),(none,(fr 38 2))],false,[],[]⟩)]
def t1(Q:Post)(s:St)(h:AH):Prop:=
Q .ret s h
def k1:OK:=fun _ Q _ s h=>t1 Q s h
def t2(s:St)(h:AH)(C0:KT):Prop:=
pPick (s.tm 27) (s.tm 40) (.sc (.bool false)) fun t1=>
C0 ⟨puts s.tm [(41,t1),(2,t1)],s.ds⟩ h
def k2:OK:=fun W Q QP s h=>t2 s h (k1 W Q QP)
def t3(W:WK)(QP:PPost)(s:St)(h:AH)(C0:KT):Prop:=
aIg true (s.tm 27) (
pNil (s.tm 0) fun t2=>
pFld (some 0) t2 fun t3=>
lLd (some false) (some 1) t3 h fun t4 _=>
pNil (s.tm 0) fun t6=>
pFld (some 1) t6 fun t7=>
lLd (some false) (some 1) t7 h fun t8 _=>
pIxA (some (3,none)) t4 t8 fun t10=>
pFld (some 1) t10 fun t11=>
lLd (some false) (some 1) t11 h fun t12 _=>
aCall Try.prog W 88 [t12] h (fun t14 h15=>
pUn .not t14 fun t16=>
C0 ⟨puts s.tm [(28,(s.tm 0)),(29,t2),(30,t3),(31,t4),(32,(s.tm 0)),(33,t6),(34,t7),(35,t8),(36,t10),(37,t11),(38,t12),(39,t14),(40,t16)],s.ds⟩ h15) (QP s.ds)) (
C0 ⟨puts s.tm [(28,noA),(29,noA),(30,noA),(31,noA),(32,noA),(33,noA),(34,noA),(35,noA),(36,noA),(37,noA),(38,noA),(39,noA),(40,noA)],s.ds⟩ h)
def k3:OK:=fun W Q QP s h=>t3 W QP s h (k2 W Q QP)
def t4(s:St)(h:AH)(C0:KT):Prop:=
pPick (s.tm 13) (s.tm 25) (.sc (.bool false)) fun t17=>
C0 ⟨puts s.tm [(26,t17),(27,t17)],s.ds⟩ h
def k4:OK:=fun W Q QP s h=>t4 s h (k3 W Q QP)
def t5(s:St)(h:AH)(C0:KT):Prop:=
aIg true (s.tm 13) (
pNil (s.tm 0) fun t18=>
pFld (some 0) t18 fun t19=>
lLd (some false) (some 1) t19 h fun t20 _=>
pNil (s.tm 0) fun t22=>
pFld (some 1) t22 fun t23=>
lLd (some false) (some 1) t23 h fun t24 _=>
pIxA (some (3,none)) t20 t24 fun t26=>
pFld (some 0) t26 fun t27=>
lLd (some false) (some 1) t27 h fun t28 _=>
pBin Try.prog .eql 3 true t28 (.sc (.int .i64 1)) fun t30=>
C0 ⟨puts s.tm [(14,(s.tm 0)),(15,t18),(16,t19),(17,t20),(18,(s.tm 0)),(19,t22),(20,t23),(21,t24),(22,t26),(23,t27),(24,t28),(25,t30)],s.ds⟩ h) (
C0 ⟨puts s.tm [(14,noA),(15,noA),(16,noA),(17,noA),(18,noA),(19,noA),(20,noA),(21,noA),(22,noA),(23,noA),(24,noA),(25,noA)],s.ds⟩ h)
def k5:OK:=fun W Q QP s h=>t5 s h (k4 W Q QP)
def t6(s:St)(h:AH)(C0:KT):Prop:=
pNil (s.tm 0) fun t31=>
pFld (some 1) t31 fun t32=>
lLd (some false) (some 1) t32 h fun t33 _=>
pNil (s.tm 0) fun t35=>
pFld (some 0) t35 fun t36=>
lLd (some false) (some 1) t36 h fun t37 _=>
(strArg t37=false)/\pLen t37 fun t39=>
pBin Try.prog .lss 3 false t33 t39 fun t40=>
C0 ⟨puts s.tm [(3,(s.tm 0)),(4,t31),(5,t32),(6,t33),(7,(s.tm 0)),(8,t35),(9,t36),(10,t37),(11,t39),(12,t40),(13,t40)],s.ds⟩ h
def k6:OK:=fun W Q QP s h=>t6 s h (k5 W Q QP)
def t7(s:St)(h:AH)(C0:KT):Prop:=
C0 ⟨puts s.tm [(2,(.sc (.bool false)))],s.ds⟩ h
def k7:OK:=fun W Q QP s h=>t7 s h (k6 W Q QP)
theorem calls{x0:AV}{h:AH}{M:WK}{R:RK}(hp:k7 (fun id=>M id\/h.next<=id) (bodyQ Try.prog [.tmp 2] R) (bodyP R) (s0 [x0]) h):ACalls Try.prog 75 [x0] h M R:=
 fio (n:=42) (pl:=pl) k7 Try.mixed Try.func75 (fun W Q QP=>
(sq (k7 W Q QP)
(sn
(sm (k1 W Q QP))
(gr (gn (k6 W Q QP) (gx (k5 W Q QP) (gn (k4 W Q QP) (gx (k3 W Q QP) (gl (k2 W Q QP)))))))))) hp
attribute [simp] k1 t1 k2 t2 k3 t3 k4 t4 k5 t5 k6 t6 k7 t7
end F75
namespace F73
section
variable (W:WK) (Q:Post) (QP:PPost) (s:St) (h:AH)
noncomputable def code:Code:=Try.f73.body.getD .skip
def pl:Plans:=[(1,⟨[(none,(fr 0 12)),(some (11,true),(fr 12 12)),(none,(fr 24 1))],false,[.mk (fr 25 3) [],.mk [(26,false),(25,false),(27,false)] []],[]⟩)]
def t1(Q:Post)(s:St)(h:AH):Prop:=
Q .ret ⟨puts s.tm [(51,(s.tm 4)),(2,(s.tm 4))],s.ds⟩ h
def k1:OK:=fun _ Q _ s h=>t1 Q s h
def t2(Q:Post)(QP:PPost)(s:St)(h:AH):Prop:=
aIf (s.tm 46) (
pFld (some 2) (s.tm 3) fun t1=>
lLd (some false) (some 1) t1 h fun t2 _=>
pBld (some ([.int .i64 0,.int .i64 0],.inl [(0,1),(1,1)])) [(0,t2),(1,(.sc (.int .i64 1)))] fun t4=>
pMkI (some false) 101 t4 fun t5=>
aPan t5 h (QP s.ds)) (
Q .normal s h)
def k2:OK:=fun _ Q QP s h=>t2 Q QP s h
def t3(s:St)(h:AH)(C0:KT):Prop:=
pBin Try.prog .gtr 3 true (s.tm 4) (.sc (.int .i64 9007199254740991)) fun t6=>
C0 ⟨puts s.tm [(45,(s.tm 4)),(46,t6)],s.ds⟩ h
def k3:OK:=fun W Q QP s h=>t3 s h (k2 W Q QP)
def t4(s:St)(h:AH)(C0:KT):Prop:=
pBin Try.prog .mul 3 true (s.tm 4) (.sc (.int .i64 10)) fun t7=>
pBin Try.prog .sub 21 true (s.tm 6) (.sc (.int .i32 48)) fun t8=>
pCnv (some .i64) t8 fun t9=>
pBin Try.prog .add 3 false t7 t9 fun t10=>
C0 ⟨puts s.tm [(39,(s.tm 4)),(40,t7),(41,(s.tm 6)),(42,t8),(43,t9),(44,t10),(4,t10)],s.ds⟩ h
def k4:OK:=fun W Q QP s h=>t4 s h (k3 W Q QP)
def t5(s:St)(h:AH)(C0:KT):Prop:=
pExt (s.tm 36) 2 fun t11=>
C0 ⟨puts s.tm [(38,t11),(6,t11)],s.ds⟩ h
def k5:OK:=fun W Q QP s h=>t5 s h (k4 W Q QP)
def t6(Q:Post)(s:St)(h:AH)(C0:KT):Prop:=
aIf (s.tm 37) (
C0 s h) (
Q (.exit 0) s h)
def k6:OK:=fun W Q QP s h=>t6 Q s h (k5 W Q QP)
def t7(W:WK)(s:St)(h:AH)(C0:KT):Prop:=
eNext (s.tm 35) h W fun t12 h13=>
pExt t12 0 fun t14=>
C0 ⟨puts s.tm [(36,t12),(37,t14)],s.ds⟩ h13
def k7:OK:=fun W Q QP s h=>t7 W s h (k6 W Q QP)
noncomputable def c1:Code:=Code.at code [1,1,1,0,1,0,0]
theorem l1:aw Try.prog 52 W pl c1 Q QP s h=k7 W Q QP s h:=congrFun (congrFun (show TB ⟨Try.prog,52,pl⟩ W QP c1 Q (k7 W Q QP) from
(sq (k7 W Q QP)
(sn
(bk 1 (sq (k5 W Q QP)
(sq (k4 W Q QP)
(sq (k3 W Q QP)
(cd (k2 W Q QP) tr tr)))))
(cd (k6 W Q QP) tr tr)))) s) h
def k8:OK:=fun W Q QP s h=>aLoop (aw Try.prog 52 W pl c1) (blockQ 0 (thenQ (k1 W Q QP) (Q))) QP s h
def t9(s:St)(h:AH)(C0:KT):Prop:=
pFld (some 1) (s.tm 3) fun t15=>
lLd (some false) (some 1) t15 h fun t16 _=>
eRange true t16 h fun t18 h19=>
C0 ⟨puts s.tm [(33,t15),(34,t16),(35,t18)],s.ds⟩ h19
def k9:OK:=fun W Q QP s h=>t9 s h (k8 W Q QP)
def t10(s:St)(h:AH)(C0:KT):Prop:=
C0 ⟨puts s.tm [(4,(.sc (.int .i64 0)))],s.ds⟩ h
def k10:OK:=fun W Q QP s h=>t10 s h (k9 W Q QP)
def t11(W:WK)(QP:PPost)(s:St)(h:AH)(C0:KT):Prop:=
pNil (s.tm 0) fun t20=>
pFld (some 1) t20 fun t21=>
lLd (some false) (some 1) t21 h fun t22 _=>
pNil (s.tm 0) fun t24=>
pFld (some 0) t24 fun t25=>
lLd (some false) (some 1) t25 h fun t26 _=>
(strArg t26=false)/\pLen t26 fun t28=>
pBin Try.prog .lss 3 false t22 t28 fun t29=>
aIg true t29 (
pNil (s.tm 0) fun t30=>
pFld (some 0) t30 fun t31=>
lLd (some false) (some 1) t31 h fun t32 _=>
pNil (s.tm 0) fun t34=>
pFld (some 1) t34 fun t35=>
lLd (some false) (some 1) t35 h fun t36 _=>
pIxA (some (3,none)) t32 t36 fun t38=>
pFld (some 0) t38 fun t39=>
lLd (some false) (some 1) t39 h fun t40 _=>
pBin Try.prog .eql 3 true t40 (.sc (.int .i64 2)) fun t42=>
pPick t29 t42 (.sc (.bool false)) fun t43=>
(
aCall Try.prog W 71 [(s.tm 0),t43] h (fun t44 h45=>
eAlloc (some [.int .i64 0,.string ⟨#[]⟩,.int .i64 0]) 3 126 h45 fun t46 h47=>
eStore (some 3) t46 t44 h47 W fun h48=>
C0 ⟨puts s.tm [(7,(s.tm 0)),(8,(s.tm 0)),(9,t20),(10,t21),(11,t22),(12,(s.tm 0)),(13,t24),(14,t25),(15,t26),(16,t28),(17,t29),(18,t29),(19,(s.tm 0)),(20,t30),(21,t31),(22,t32),(23,(s.tm 0)),(24,t34),(25,t35),(26,t36),(27,t38),(28,t39),(29,t40),(30,t42),(31,t43),(32,t44),(3,t46)],s.ds⟩ h48) (QP s.ds))/\(
eAlloc (some [.int .i64 0,.string ⟨#[]⟩,.int .i64 0]) 3 126 h fun t49 h50=>
aCall Try.prog W 71 [(s.tm 0),t43] h50 (fun t51 h52=>
eStore (some 3) t49 t51 h52 W fun h53=>
C0 ⟨puts s.tm [(7,(s.tm 0)),(8,(s.tm 0)),(9,t20),(10,t21),(11,t22),(12,(s.tm 0)),(13,t24),(14,t25),(15,t26),(16,t28),(17,t29),(18,t29),(19,(s.tm 0)),(20,t30),(21,t31),(22,t32),(23,(s.tm 0)),(24,t34),(25,t35),(26,t36),(27,t38),(28,t39),(29,t40),(30,t42),(31,t43),(3,t49),(32,t51)],s.ds⟩ h53) (QP s.ds))/\True) (
pPick t29 noA (.sc (.bool false)) fun t54=>
(
aCall Try.prog W 71 [(s.tm 0),t54] h (fun t55 h56=>
eAlloc (some [.int .i64 0,.string ⟨#[]⟩,.int .i64 0]) 3 126 h56 fun t57 h58=>
eStore (some 3) t57 t55 h58 W fun h59=>
C0 ⟨puts s.tm [(7,(s.tm 0)),(8,(s.tm 0)),(9,t20),(10,t21),(11,t22),(12,(s.tm 0)),(13,t24),(14,t25),(15,t26),(16,t28),(17,t29),(18,t29),(19,noA),(20,noA),(21,noA),(22,noA),(23,noA),(24,noA),(25,noA),(26,noA),(27,noA),(28,noA),(29,noA),(30,noA),(31,t54),(32,t55),(3,t57)],s.ds⟩ h59) (QP s.ds))/\(
eAlloc (some [.int .i64 0,.string ⟨#[]⟩,.int .i64 0]) 3 126 h fun t60 h61=>
aCall Try.prog W 71 [(s.tm 0),t54] h61 (fun t62 h63=>
eStore (some 3) t60 t62 h63 W fun h64=>
C0 ⟨puts s.tm [(7,(s.tm 0)),(8,(s.tm 0)),(9,t20),(10,t21),(11,t22),(12,(s.tm 0)),(13,t24),(14,t25),(15,t26),(16,t28),(17,t29),(18,t29),(19,noA),(20,noA),(21,noA),(22,noA),(23,noA),(24,noA),(25,noA),(26,noA),(27,noA),(28,noA),(29,noA),(30,noA),(31,t54),(3,t60),(32,t62)],s.ds⟩ h64) (QP s.ds))/\True)
def k11:OK:=fun W Q QP s h=>t11 W QP s h (k10 W Q QP)
def t12(s:St)(h:AH)(C0:KT):Prop:=
C0 ⟨puts s.tm [(2,(.sc (.int .i64 0)))],s.ds⟩ h
def k12:OK:=fun W Q QP s h=>t12 s h (k11 W Q QP)
end
theorem calls{x0:AV}{h:AH}{M:WK}{R:RK}(hp:k12 (fun id=>M id\/h.next<=id) (bodyQ Try.prog [.tmp 2] R) (bodyP R) (s0 [x0]) h):ACalls Try.prog 73 [x0] h M R:=
 fio (n:=52) (pl:=pl) k12 Try.mixed Try.func73 (fun W Q QP=>
(sq (k12 W Q QP)
(sn
(sq (k10 W Q QP)
(sn
(sl (k1 W Q QP))
(sq (k9 W Q QP)
(bk 0 (lo (k8 W Q QP))))))
(sm (k11 W Q QP))))) hp
attribute [simp] k1 t1 k2 t2 k3 t3 k4 t4 k5 t5 k6 t6 k7 t7 k8 k9 t9 k10 t10 k11 t11 k12 t12
end F73
namespace F71
def pl:Plans:=[(1,⟨[(none,(fr 0 10))],false,[],[]⟩),(3,⟨[(none,(fr 0 12))],false,[],[]⟩)]
def t1(W:WK)(Q:Post)(s:St)(h:AH):Prop:=
lLd (some true) (some 3) (s.tm 5) h fun t1 _=>
eStore (some 3) (s.tm 4) t1 h W fun h3=>
Q .ret ⟨puts s.tm [(45,t1)],s.ds⟩ h3
def k1:OK:=fun W Q _ s h=>t1 W Q s h
def t2(W:WK)(s:St)(h:AH)(C0:KT):Prop:=
pNil (s.tm 0) fun t4=>
pFld (some 1) t4 fun t5=>
lLd (some false) (some 1) t5 h fun t6 _=>
pBin Try.prog .add 3 true t6 (.sc (.int .i64 1)) fun t8=>
pNil (s.tm 0) fun t9=>
pFld (some 1) t9 fun t10=>
eStore (some 1) t10 t8 h W fun h11=>
C0 ⟨puts s.tm [(38,(s.tm 0)),(39,t4),(40,t5),(41,t6),(42,t8),(43,t9),(44,t10)],s.ds⟩ h11
def k2:OK:=fun W Q QP s h=>t2 W s h (k1 W Q QP)
def t3(QP:PPost)(s:St)(h:AH)(C0:KT):Prop:=
aIf (s.tm 33) (
pFld (some 2) (s.tm 5) fun t12=>
lLd (some false) (some 1) t12 h fun t13 _=>
pBld (some ([.int .i64 0,.int .i64 0],.inl [(0,1),(1,1)])) [(0,t13),(1,(.sc (.int .i64 100)))] fun t15=>
pMkI (some false) 101 t15 fun t16=>
aPan t16 h (QP s.ds)) (
C0 s h)
def k3:OK:=fun W Q QP s h=>t3 QP s h (k2 W Q QP)
def t4(s:St)(h:AH)(C0:KT):Prop:=
pUn .not (s.tm 1) fun t17=>
C0 ⟨puts s.tm [(32,(s.tm 1)),(33,t17)],s.ds⟩ h
def k4:OK:=fun W Q QP s h=>t4 s h (k3 W Q QP)
def t5(W:WK)(s:St)(h:AH)(C0:KT):Prop:=
pNil (s.tm 0) fun t18=>
pFld (some 0) t18 fun t19=>
lLd (some false) (some 1) t19 h fun t20 _=>
pNil (s.tm 0) fun t22=>
pFld (some 1) t22 fun t23=>
lLd (some false) (some 1) t23 h fun t24 _=>
pIxA (some (3,none)) t20 t24 fun t26=>
lLd (some true) (some 3) t26 h fun t27 _=>
eAlloc (some [.int .i64 0,.string ⟨#[]⟩,.int .i64 0]) 3 126 h fun t29 h30=>
eStore (some 3) t29 t27 h30 W fun h31=>
C0 ⟨puts s.tm [(22,(s.tm 0)),(23,t18),(24,t19),(25,t20),(26,(s.tm 0)),(27,t22),(28,t23),(29,t24),(30,t26),(31,t27),(5,t29)],s.ds⟩ h31
def k5:OK:=fun W Q QP s h=>t5 W s h (k4 W Q QP)
def t6(QP:PPost)(s:St)(h:AH)(C0:KT):Prop:=
aIf (s.tm 15) (
pNil (s.tm 0) fun t32=>
pFld (some 2) t32 fun t33=>
lLd (some false) (some 1) t33 h fun t34 _=>
pBld (some ([.int .i64 0,.int .i64 0],.inl [(0,1),(1,1)])) [(0,t34),(1,(.sc (.int .i64 101)))] fun t36=>
pMkI (some false) 101 t36 fun t37=>
aPan t37 h (QP s.ds)) (
C0 s h)
def k6:OK:=fun W Q QP s h=>t6 QP s h (k5 W Q QP)
def t7(s:St)(h:AH)(C0:KT):Prop:=
pNil (s.tm 0) fun t38=>
pFld (some 1) t38 fun t39=>
lLd (some false) (some 1) t39 h fun t40 _=>
pNil (s.tm 0) fun t42=>
pFld (some 0) t42 fun t43=>
lLd (some false) (some 1) t43 h fun t44 _=>
(strArg t44=false)/\pLen t44 fun t46=>
pBin Try.prog .geq 3 false t40 t46 fun t47=>
C0 ⟨puts s.tm [(6,(s.tm 0)),(7,t38),(8,t39),(9,t40),(10,(s.tm 0)),(11,t42),(12,t43),(13,t44),(14,t46),(15,t47)],s.ds⟩ h
def k7:OK:=fun W Q QP s h=>t7 s h (k6 W Q QP)
def t8(s:St)(h:AH)(C0:KT):Prop:=
eAlloc (some [.int .i64 0,.string ⟨#[]⟩,.int .i64 0]) 3 126 h fun t48 h49=>
C0 ⟨puts s.tm [(4,t48)],s.ds⟩ h49
def k8:OK:=fun W Q QP s h=>t8 s h (k7 W Q QP)
theorem calls{x0 x1:AV}{h:AH}{M:WK}{R:RK}(hp:k8 (fun id=>M id\/h.next<=id) (bodyQ Try.prog [.cell 4 126] R) (bodyP R) (s0 [x0,x1]) h):ACalls Try.prog 71 [x0,x1] h M R:=
 fio (n:=46) (pl:=pl) k8 Try.mixed Try.func71 (fun W Q QP=>
(sq (k8 W Q QP)
(sn
(sq (k5 W Q QP)
(sn
(sq (k2 W Q QP)
(sl (k1 W Q QP)))
(sq (k4 W Q QP)
(cd (k3 W Q QP) tr tr))))
(sq (k7 W Q QP)
(cd (k6 W Q QP) tr tr))))) hp
attribute [simp] k1 t1 k2 t2 k3 t3 k4 t4 k5 t5 k6 t6 k7 t7 k8 t8
end F71
namespace F74
def pl:Plans:=[]
def t1(W:WK)(Q:Post)(QP:PPost)(s:St)(h:AH):Prop:=
aCall Try.prog W 87 [(s.tm 0),(s.tm 1)] h (fun t1 h2=>
aCall Try.prog W 71 [(s.tm 0),t1] h2 (fun t3 h4=>
eStore (some 3) (s.tm 4) t3 h4 W fun h5=>
Q .ret ⟨puts s.tm [(5,(s.tm 0)),(6,(s.tm 0)),(7,(s.tm 1)),(8,t1),(9,t3)],s.ds⟩ h5) (QP s.ds)) (QP s.ds)
def k1:OK:=fun W Q QP s h=>t1 W Q QP s h
def t2(s:St)(h:AH)(C0:KT):Prop:=
eAlloc (some [.int .i64 0,.string ⟨#[]⟩,.int .i64 0]) 3 126 h fun t6 h7=>
C0 ⟨puts s.tm [(4,t6)],s.ds⟩ h7
def k2:OK:=fun W Q QP s h=>t2 s h (k1 W Q QP)
theorem calls{x0 x1:AV}{h:AH}{M:WK}{R:RK}(hp:k2 (fun id=>M id\/h.next<=id) (bodyQ Try.prog [.cell 4 126] R) (bodyP R) (s0 [x0,x1]) h):ACalls Try.prog 74 [x0,x1] h M R:=
 fio (n:=10) (pl:=pl) k2 Try.mixed Try.func74 (fun W Q QP=>
(sq (k2 W Q QP)
(sl (k1 W Q QP)))) hp
attribute [simp] k1 t1 k2 t2
end F74
namespace F77
def pl:Plans:=[]
def t1(W:WK)(Q:Post)(s:St)(h:AH):Prop:=
lLd (some true) (some 2) (s.tm 3) h fun t1 _=>
eStore (some 2) (s.tm 2) t1 h W fun h3=>
Q .ret ⟨puts s.tm [(21,t1)],s.ds⟩ h3
def k1:OK:=fun W Q _ s h=>t1 W Q s h
def t2(W:WK)(QP:PPost)(s:St)(h:AH)(C0:KT):Prop:=
aCall Try.prog W 74 [(s.tm 0),(.sc (.string ⟨#[93]⟩))] h (fun t4 h5=>
C0 ⟨puts s.tm [(19,(s.tm 0)),(20,t4)],s.ds⟩ h5) (QP s.ds)
def k2:OK:=fun W Q QP s h=>t2 W QP s h (k1 W Q QP)
def t3(W:WK)(QP:PPost)(s:St)(h:AH)(C0:KT):Prop:=
aCall Try.prog W 73 [(s.tm 0)] h (fun t6 h7=>
pFld (some 1) (s.tm 3) fun t8=>
eStore (some 1) t8 t6 h7 W fun h9=>
C0 ⟨puts s.tm [(16,(s.tm 0)),(17,t6),(18,t8)],s.ds⟩ h9) (QP s.ds)
def k3:OK:=fun W Q QP s h=>t3 W QP s h (k2 W Q QP)
def t4(W:WK)(s:St)(h:AH)(C0:KT):Prop:=
pNil (s.tm 0) fun t10=>
pFld (some 1) t10 fun t11=>
lLd (some false) (some 1) t11 h fun t12 _=>
pBin Try.prog .add 3 true t12 (.sc (.int .i64 1)) fun t14=>
pNil (s.tm 0) fun t15=>
pFld (some 1) t15 fun t16=>
eStore (some 1) t16 t14 h W fun h17=>
C0 ⟨puts s.tm [(9,(s.tm 0)),(10,t10),(11,t11),(12,t12),(13,t14),(14,t15),(15,t16)],s.ds⟩ h17
def k4:OK:=fun W Q QP s h=>t4 W s h (k3 W Q QP)
def t5(s:St)(h:AH)(C0 C1:KT):Prop:=
aIf (s.tm 8) (
C1 s h) (
C0 s h)
def k5:OK:=fun W Q QP s h=>t5 s h (k1 W Q QP) (k4 W Q QP)
def t6(W:WK)(QP:PPost)(s:St)(h:AH)(C0:KT):Prop:=
aCall Try.prog W 87 [(s.tm 0),(.sc (.string ⟨#[91]⟩))] h (fun t18 h19=>
C0 ⟨puts s.tm [(7,(s.tm 0)),(8,t18)],s.ds⟩ h19) (QP s.ds)
def k6:OK:=fun W Q QP s h=>t6 W QP s h (k5 W Q QP)
def t7(W:WK)(QP:PPost)(s:St)(h:AH)(C0:KT):Prop:=
aCall Try.prog W 72 [(s.tm 0)] h (fun t20 h21=>
pBld (some ([.string ⟨#[]⟩,.int .i64 0],.inl [(0,1),(1,1)])) [(0,t20),(1,(.sc (.int .i64 (-1))))] fun t22=>
eAlloc (some [.string ⟨#[]⟩,.int .i64 0]) 2 44 h21 fun t23 h24=>
eStore (some 2) t23 t22 h24 W fun h25=>
C0 ⟨puts s.tm [(4,(s.tm 0)),(5,t20),(6,t22),(3,t23)],s.ds⟩ h25) (QP s.ds)
def k7:OK:=fun W Q QP s h=>t7 W QP s h (k6 W Q QP)
def t8(s:St)(h:AH)(C0:KT):Prop:=
eAlloc (some [.string ⟨#[]⟩,.int .i64 0]) 2 44 h fun t26 h27=>
C0 ⟨puts s.tm [(2,t26)],s.ds⟩ h27
def k8:OK:=fun W Q QP s h=>t8 s h (k7 W Q QP)
theorem calls{x0:AV}{h:AH}{M:WK}{R:RK}(hp:k8 (fun id=>M id\/h.next<=id) (bodyQ Try.prog [.cell 2 44] R) (bodyP R) (s0 [x0]) h):ACalls Try.prog 77 [x0] h M R:=
 fio (n:=22) (pl:=pl) k8 Try.mixed Try.func77 (fun W Q QP=>
(sq (k8 W Q QP)
(sq (k7 W Q QP)
(sn
(sl (k1 W Q QP))
(sq (k6 W Q QP)
(cd (k5 W Q QP) (sq (k4 W Q QP)
(sq (k3 W Q QP)
(sm (k2 W Q QP)))) tr)))))) hp
attribute [simp] k1 t1 k2 t2 k3 t3 k4 t4 k5 t5 k6 t6 k7 t7 k8 t8
end F77
namespace F76
section
variable (W:WK) (Q:Post) (QP:PPost) (s:St) (h:AH)
noncomputable def code:Code:=Try.f76.body.getD .skip
def pl:Plans:=[]
def t1(Q:Post)(s:St)(h:AH):Prop:=
pNil (s.tm 0) fun t1=>
pFld (some 3) t1 fun t2=>
lLd (some false) (some 1) t2 h fun t3 _=>
(strArg t3=false)/\pLen t3 fun t5=>
pBin Try.prog .sub 3 false t5 (s.tm 6) fun t6=>
Q .ret ⟨puts s.tm [(33,(s.tm 0)),(34,t1),(35,t2),(36,t3),(37,t5),(38,(s.tm 6)),(39,t6),(4,t6)],s.ds⟩ h
def k1:OK:=fun _ Q _ s h=>t1 Q s h
def t2(W:WK)(s:St)(h:AH)(C0:KT):Prop:=
pNil (s.tm 0) fun t7=>
pFld (some 1) t7 fun t8=>
lLd (some false) (some 1) t8 h fun t9 _=>
pBin Try.prog .add 3 true t9 (.sc (.int .i64 1)) fun t11=>
pNil (s.tm 0) fun t12=>
pFld (some 1) t12 fun t13=>
eStore (some 1) t13 t11 h W fun h14=>
C0 ⟨puts s.tm [(26,(s.tm 0)),(27,t7),(28,t8),(29,t9),(30,t11),(31,t12),(32,t13)],s.ds⟩ h14
def k2:OK:=fun W Q QP s h=>t2 W s h (k1 W Q QP)
def t3(W:WK)(Q:Post)(QP:PPost)(s:St)(h:AH):Prop:=
aCall Try.prog W 46 [(s.tm 0),(s.tm 1)] h (fun t15 h16=>
Q .normal ⟨puts s.tm [(23,(s.tm 0)),(24,(s.tm 1)),(25,t15)],s.ds⟩ h16) (QP s.ds)
def k3:OK:=fun W Q QP s h=>t3 W Q QP s h
def t4(Q:Post)(s:St)(h:AH)(C0:KT):Prop:=
aIf (s.tm 22) (
C0 s h) (
Q (.exit 0) s h)
def k4:OK:=fun W Q QP s h=>t4 Q s h (k3 W Q QP)
def t5(W:WK)(QP:PPost)(s:St)(h:AH)(C0:KT):Prop:=
aCall Try.prog W 87 [(s.tm 0),(.sc (.string ⟨#[125]⟩))] h (fun t17 h18=>
pUn .not t17 fun t19=>
C0 ⟨puts s.tm [(20,(s.tm 0)),(21,t17),(22,t19)],s.ds⟩ h18) (QP s.ds)
def k5:OK:=fun W Q QP s h=>t5 W QP s h (k4 W Q QP)
noncomputable def c1:Code:=Code.at code [1,1,1,1,0,0,0]
theorem l1:aw Try.prog 40 W pl c1 Q QP s h=k5 W Q QP s h:=congrFun (congrFun (show TB ⟨Try.prog,40,pl⟩ W QP c1 Q (k5 W Q QP) from
(sn
(bk 1 (sm (k3 W Q QP)))
(sq (k5 W Q QP)
(cd (k4 W Q QP) tr tr)))) s) h
def k6:OK:=fun W Q QP s h=>aLoop (aw Try.prog 40 W pl c1) (blockQ 0 (thenQ (k2 W Q QP) (Q))) QP s h
def t7(s:St)(h:AH)(C0:KT):Prop:=
pNil (s.tm 0) fun t20=>
pFld (some 3) t20 fun t21=>
lLd (some false) (some 1) t21 h fun t22 _=>
(strArg t22=false)/\pLen t22 fun t24=>
C0 ⟨puts s.tm [(15,(s.tm 0)),(16,t20),(17,t21),(18,t22),(19,t24),(6,t24)],s.ds⟩ h
def k7:OK:=fun W Q QP s h=>t7 s h (k6 W Q QP)
def t8(QP:PPost)(s:St)(h:AH)(C0:KT):Prop:=
aIf (s.tm 10) (
pFld (some 2) (s.tm 5) fun t25=>
lLd (some false) (some 1) t25 h fun t26 _=>
pBld (some ([.int .i64 0,.int .i64 0],.inl [(0,1),(1,1)])) [(0,t26),(1,(.sc (.int .i64 102)))] fun t28=>
pMkI (some false) 101 t28 fun t29=>
aPan t29 h (QP s.ds)) (
C0 s h)
def k8:OK:=fun W Q QP s h=>t8 QP s h (k7 W Q QP)
def t9(s:St)(h:AH)(C0:KT):Prop:=
pBin Try.prog .gtr 3 true (s.tm 1) (.sc (.int .i64 32)) fun t30=>
C0 ⟨puts s.tm [(9,(s.tm 1)),(10,t30)],s.ds⟩ h
def k9:OK:=fun W Q QP s h=>t9 s h (k8 W Q QP)
def t10(W:WK)(QP:PPost)(s:St)(h:AH)(C0:KT):Prop:=
aCall Try.prog W 74 [(s.tm 0),(.sc (.string ⟨#[123]⟩))] h (fun t31 h32=>
eAlloc (some [.int .i64 0,.string ⟨#[]⟩,.int .i64 0]) 3 126 h32 fun t33 h34=>
eStore (some 3) t33 t31 h34 W fun h35=>
C0 ⟨puts s.tm [(7,(s.tm 0)),(8,t31),(5,t33)],s.ds⟩ h35) (QP s.ds)
def k10:OK:=fun W Q QP s h=>t10 W QP s h (k9 W Q QP)
def t11(s:St)(h:AH)(C0:KT):Prop:=
C0 ⟨puts s.tm [(4,(.sc (.int .i64 0)))],s.ds⟩ h
def k11:OK:=fun W Q QP s h=>t11 s h (k10 W Q QP)
end
theorem calls{x0 x1:AV}{h:AH}{M:WK}{R:RK}(hp:k11 (fun id=>M id\/h.next<=id) (bodyQ Try.prog [.tmp 4] R) (bodyP R) (s0 [x0,x1]) h):ACalls Try.prog 76 [x0,x1] h M R:=
 fio (n:=40) (pl:=pl) k11 Try.mixed Try.func76 (fun W Q QP=>
(sq (k11 W Q QP)
(sq (k10 W Q QP)
(sn
(sq (k7 W Q QP)
(sn
(sq (k2 W Q QP)
(sl (k1 W Q QP)))
(bk 0 (lo (k6 W Q QP)))))
(sq (k9 W Q QP)
(cd (k8 W Q QP) tr tr)))))) hp
attribute [simp] k1 t1 k2 t2 k3 t3 k4 t4 k5 t5 k6 k7 t7 k8 t8 k9 t9 k10 t10 k11 t11
end F76
namespace F46
section
variable (W:WK) (Q:Post) (QP:PPost) (s:St) (h:AH)
noncomputable def code:Code:=Try.f46.body.getD .skip
def pl:Plans:=[(0,⟨[(none,(fr 0 12)),(some (11,true),(fr 12 12)),(none,(fr 24 1))],false,[.mk (fr 25 3) [],.mk [(26,false),(25,false),(27,false)] []],[]⟩),(3,⟨[(none,(fr 0 11))],false,[],[]⟩),(5,⟨[(none,[(0,false),(1,true),(2,false),(3,false),(4,false),(5,false)])],true,[],[]⟩),(7,⟨[(none,[(0,false),(1,true),(2,false),(3,false),(4,false),(5,false),(6,false),(7,false)])],true,[],[]⟩),(17,⟨[(none,[(0,false),(1,true),(2,false),(3,false),(4,false),(5,false),(6,false),(7,false),(8,false)])],true,[],[]⟩),(27,⟨[(none,[(0,false),(1,true),(2,false),(4,false),(3,false),(5,false),(6,false),(7,false),(8,false),(9,false)])],true,[],[]⟩),(30,⟨[(none,[(0,false),(1,true),(2,false),(3,false),(4,false),(5,false),(6,false),(7,false)])],true,[],[]⟩),(32,⟨[(none,(fr 0 8))],false,[],[]⟩)]
def t1(W:WK)(Q:Post)(s:St)(h:AH):Prop:=
pNil (s.tm 0) fun t1=>
pFld (some 3) t1 fun t2=>
lLd (some false) (some 1) t2 h fun t3 _=>
lLd (some true) (some 6) (s.tm 5) h fun t5 _=>
pIxA (some (6,none)) t3 (s.tm 6) fun t7=>
eStore (some 6) t7 t5 h W fun h8=>
Q .normal ⟨puts s.tm [(148,(s.tm 0)),(149,t1),(150,t2),(151,t3),(152,(s.tm 6)),(153,t5),(154,t7)],s.ds⟩ h8
def k1:OK:=fun W Q _ s h=>t1 W Q s h
def t2(W:WK)(QP:PPost)(s:St)(h:AH)(C0:KT):Prop:=
aCall Try.prog W 74 [(s.tm 0),(.sc (.string ⟨#[59]⟩))] h (fun t9 h10=>
C0 ⟨puts s.tm [(79,(s.tm 0)),(80,t9)],s.ds⟩ h10) (QP s.ds)
def k2:OK:=fun W Q QP s h=>t2 W QP s h (k1 W Q QP)
def t3(W:WK)(QP:PPost)(s:St)(h:AH)(C0:KT):Prop:=
aCall Try.prog W 73 [(s.tm 0)] h (fun t11 h12=>
pFld (some 3) (s.tm 5) fun t13=>
eStore (some 1) t13 t11 h12 W fun h14=>
C0 ⟨puts s.tm [(76,(s.tm 0)),(77,t11),(78,t13)],s.ds⟩ h14) (QP s.ds)
def k3:OK:=fun W Q QP s h=>t3 W QP s h (k2 W Q QP)
def t4(W:WK)(QP:PPost)(s:St)(h:AH)(C0:KT):Prop:=
aCall Try.prog W 72 [(s.tm 0)] h (fun t15 h16=>
pFld (some 1) (s.tm 5) fun t17=>
eStore (some 1) t17 t15 h16 W fun h18=>
C0 ⟨puts s.tm [(73,(s.tm 0)),(74,t15),(75,t17)],s.ds⟩ h18) (QP s.ds)
def k4:OK:=fun W Q QP s h=>t4 W QP s h (k3 W Q QP)
def t5(W:WK)(QP:PPost)(s:St)(h:AH)(C0:KT):Prop:=
pBin Try.prog .add 3 true (s.tm 1) (.sc (.int .i64 1)) fun t19=>
aCall Try.prog W 76 [(s.tm 0),t19] h (fun t20 h21=>
pFld (some 4) (s.tm 5) fun t22=>
eStore (some 1) t22 t20 h21 W fun h23=>
C0 ⟨puts s.tm [(96,(s.tm 0)),(97,(s.tm 1)),(98,t19),(99,t20),(100,t22)],s.ds⟩ h23) (QP s.ds)
def k5:OK:=fun W Q QP s h=>t5 W QP s h (k1 W Q QP)
def t6(W:WK)(Q:Post)(QP:PPost)(s:St)(h:AH):Prop:=
∃Hd:Nat->Nat,(∀i∈[1],h.obj (Hd i)≠none)/\(
pFld (some 2) (s.tm 5) fun t24=>
lLd (some false) (some 1) t24 h fun t25 i26=>
(i26=Hd 1)/\(
aCall Try.prog (banL W Hd [1]) 72 [(s.tm 0)] h (fun t27 h28=>
pBld (some ([.string ⟨#[]⟩,.int .i64 0],.inl [(0,1),(1,1)])) [(0,t27),(1,(.sc (.int .i64 (-1))))] fun t29=>
eBSl (some (2,44,[.string ⟨#[]⟩,.int .i64 0])) 1 [(0,t29)] h28 fun t30 h31=>
eApp (some (2,24,44)) t25 t30 h31 W fun t32 h33=>
pFld (some 2) (s.tm 5) fun t34=>
eStore (some 1) t34 t32 h33 W fun h35=>
Q .normal ⟨puts s.tm [(88,t24),(89,t25),(90,(s.tm 0)),(91,t27),(92,t29),(93,t30),(94,t32),(95,t34)],s.ds⟩ h35) (QP s.ds)))
def k6:OK:=fun W Q QP s h=>t6 W Q QP s h
def t7(Q:Post)(s:St)(h:AH)(C0:KT):Prop:=
aIf (s.tm 87) (
C0 s h) (
Q (.exit 3) s h)
def k7:OK:=fun W Q QP s h=>t7 Q s h (k6 W Q QP)
def t8(W:WK)(QP:PPost)(s:St)(h:AH)(C0:KT):Prop:=
aCall Try.prog W 75 [(s.tm 0)] h (fun t36 h37=>
C0 ⟨puts s.tm [(86,(s.tm 0)),(87,t36)],s.ds⟩ h37) (QP s.ds)
def k8:OK:=fun W Q QP s h=>t8 W QP s h (k7 W Q QP)
noncomputable def c1:Code:=Code.at code [1,1,1,1,0,1,0,1,1,1,0,1,0,0,0]
theorem l1:aw Try.prog 155 W pl c1 Q QP s h=k8 W Q QP s h:=congrFun (congrFun (show TB ⟨Try.prog,155,pl⟩ W QP c1 Q (k8 W Q QP) from
(sn
(bk 4 (sm (k6 W Q QP)))
(sq (k8 W Q QP)
(cd (k7 W Q QP) tr tr)))) s) h
def k9:OK:=fun W Q QP s h=>aLoop (aw Try.prog 155 W pl c1) (blockQ 3 (thenQ (k5 W Q QP) (blockQ 0 (thenQ (k1 W Q QP) (Q))))) QP s h
def t10(W:WK)(QP:PPost)(s:St)(h:AH)(C0:KT):Prop:=
aCall Try.prog W 72 [(s.tm 0)] h (fun t38 h39=>
pFld (some 1) (s.tm 5) fun t40=>
eStore (some 1) t40 t38 h39 W fun h41=>
C0 ⟨puts s.tm [(83,(s.tm 0)),(84,t38),(85,t40)],s.ds⟩ h41) (QP s.ds)
def k10:OK:=fun W Q QP s h=>t10 W QP s h (k9 W Q QP)
def t11(W:WK)(QP:PPost)(s:St)(h:AH)(C0:KT):Prop:=
pBin Try.prog .add 3 true (s.tm 1) (.sc (.int .i64 1)) fun t42=>
aCall Try.prog W 76 [(s.tm 0),t42] h (fun t43 h44=>
pFld (some 4) (s.tm 5) fun t45=>
eStore (some 1) t45 t43 h44 W fun h46=>
C0 ⟨puts s.tm [(106,(s.tm 0)),(107,(s.tm 1)),(108,t42),(109,t43),(110,t45)],s.ds⟩ h46) (QP s.ds)
def k11:OK:=fun W Q QP s h=>t11 W QP s h (k1 W Q QP)
def t12(W:WK)(QP:PPost)(s:St)(h:AH)(C0:KT):Prop:=
aCall Try.prog W 73 [(s.tm 0)] h (fun t47 h48=>
pFld (some 3) (s.tm 5) fun t49=>
eStore (some 1) t49 t47 h48 W fun h50=>
C0 ⟨puts s.tm [(103,(s.tm 0)),(104,t47),(105,t49)],s.ds⟩ h50) (QP s.ds)
def k12:OK:=fun W Q QP s h=>t12 W QP s h (k11 W Q QP)
def t13(W:WK)(QP:PPost)(s:St)(h:AH)(C0:KT):Prop:=
pBin Try.prog .add 3 true (s.tm 1) (.sc (.int .i64 1)) fun t51=>
aCall Try.prog W 76 [(s.tm 0),t51] h (fun t52 h53=>
pFld (some 4) (s.tm 5) fun t54=>
eStore (some 1) t54 t52 h53 W fun h55=>
C0 ⟨puts s.tm [(119,(s.tm 0)),(120,(s.tm 1)),(121,t51),(122,t52),(123,t54)],s.ds⟩ h55) (QP s.ds)
def k13:OK:=fun W Q QP s h=>t13 W QP s h (k1 W Q QP)
def t14(W:WK)(QP:PPost)(s:St)(h:AH)(C0:KT):Prop:=
aCall Try.prog W 73 [(s.tm 0)] h (fun t56 h57=>
pFld (some 3) (s.tm 5) fun t58=>
eStore (some 1) t58 t56 h57 W fun h59=>
C0 ⟨puts s.tm [(116,(s.tm 0)),(117,t56),(118,t58)],s.ds⟩ h59) (QP s.ds)
def k14:OK:=fun W Q QP s h=>t14 W QP s h (k13 W Q QP)
def t15(W:WK)(QP:PPost)(s:St)(h:AH)(C0:KT):Prop:=
aCall Try.prog W 72 [(s.tm 0)] h (fun t60 h61=>
pFld (some 1) (s.tm 5) fun t62=>
eStore (some 1) t62 t60 h61 W fun h63=>
C0 ⟨puts s.tm [(113,(s.tm 0)),(114,t60),(115,t62)],s.ds⟩ h63) (QP s.ds)
def k15:OK:=fun W Q QP s h=>t15 W QP s h (k14 W Q QP)
def t16(W:WK)(QP:PPost)(s:St)(h:AH)(C0:KT):Prop:=
aCall Try.prog W 74 [(s.tm 0),(.sc (.string ⟨#[59]⟩))] h (fun t64 h65=>
C0 ⟨puts s.tm [(135,(s.tm 0)),(136,t64)],s.ds⟩ h65) (QP s.ds)
def k16:OK:=fun W Q QP s h=>t16 W QP s h (k1 W Q QP)
def t17(W:WK)(QP:PPost)(s:St)(h:AH)(C0:KT):Prop:=
∃Hd:Nat->Nat,(∀i∈[1],h.obj (Hd i)≠none)/\(
pFld (some 2) (s.tm 5) fun t66=>
lLd (some false) (some 1) t66 h fun t67 i68=>
(i68=Hd 1)/\(
aCall Try.prog (banL W Hd [1]) 77 [(s.tm 0)] h (fun t69 h70=>
aCall Try.prog (banL W Hd [1]) 77 [(s.tm 0)] h70 (fun t71 h72=>
eBSl (some (2,44,[.string ⟨#[]⟩,.int .i64 0,.string ⟨#[]⟩,.int .i64 0])) 2 [(0,t69),(1,t71)] h72 fun t73 h74=>
eApp (some (2,24,44)) t67 t73 h74 W fun t75 h76=>
pFld (some 2) (s.tm 5) fun t77=>
eStore (some 1) t77 t75 h76 W fun h78=>
C0 ⟨puts s.tm [(126,t66),(127,t67),(128,(s.tm 0)),(130,(s.tm 0)),(129,t69),(131,t71),(132,t73),(133,t75),(134,t77)],s.ds⟩ h78) (QP s.ds)) (QP s.ds)))
def k17:OK:=fun W Q QP s h=>t17 W QP s h (k16 W Q QP)
def t18(W:WK)(QP:PPost)(s:St)(h:AH)(C0:KT):Prop:=
aCall Try.prog W 74 [(s.tm 0),(.sc (.string ⟨#[59]⟩))] h (fun t79 h80=>
C0 ⟨puts s.tm [(146,(s.tm 0)),(147,t79)],s.ds⟩ h80) (QP s.ds)
def k18:OK:=fun W Q QP s h=>t18 W QP s h (k1 W Q QP)
def t19(W:WK)(QP:PPost)(s:St)(h:AH)(C0:KT):Prop:=
∃Hd:Nat->Nat,(∀i∈[1],h.obj (Hd i)≠none)/\(
pFld (some 2) (s.tm 5) fun t81=>
lLd (some false) (some 1) t81 h fun t82 i83=>
(i83=Hd 1)/\(
aCall Try.prog (banL W Hd [1]) 77 [(s.tm 0)] h (fun t84 h85=>
eBSl (some (2,44,[.string ⟨#[]⟩,.int .i64 0])) 1 [(0,t84)] h85 fun t86 h87=>
eApp (some (2,24,44)) t82 t86 h87 W fun t88 h89=>
pFld (some 2) (s.tm 5) fun t90=>
eStore (some 1) t90 t88 h89 W fun h91=>
C0 ⟨puts s.tm [(139,t81),(140,t82),(141,(s.tm 0)),(142,t84),(143,t86),(144,t88),(145,t90)],s.ds⟩ h91) (QP s.ds)))
def k19:OK:=fun W Q QP s h=>t19 W QP s h (k18 W Q QP)
def t20(W:WK)(QP:PPost)(s:St)(h:AH)(C0:KT):Prop:=
aCall Try.prog W 74 [(s.tm 0),(.sc (.string ⟨#[59]⟩))] h (fun t92 h93=>
C0 ⟨puts s.tm [(68,(s.tm 0)),(69,t92)],s.ds⟩ h93) (QP s.ds)
def k20:OK:=fun W Q QP s h=>t20 W QP s h (k1 W Q QP)
def t21(W:WK)(Q:Post)(QP:PPost)(s:St)(h:AH):Prop:=
∃Hd:Nat->Nat,(∀i∈[1],h.obj (Hd i)≠none)/\(
pFld (some 2) (s.tm 5) fun t94=>
lLd (some false) (some 1) t94 h fun t95 i96=>
(i96=Hd 1)/\(
aCall Try.prog (banL W Hd [1]) 77 [(s.tm 0)] h (fun t97 h98=>
eBSl (some (2,44,[.string ⟨#[]⟩,.int .i64 0])) 1 [(0,t97)] h98 fun t99 h100=>
eApp (some (2,24,44)) t95 t99 h100 W fun t101 h102=>
pFld (some 2) (s.tm 5) fun t103=>
eStore (some 1) t103 t101 h102 W fun h104=>
Q .normal ⟨puts s.tm [(61,t94),(62,t95),(63,(s.tm 0)),(64,t97),(65,t99),(66,t101),(67,t103)],s.ds⟩ h104) (QP s.ds)))
def k21:OK:=fun W Q QP s h=>t21 W Q QP s h
def t22(Q:Post)(s:St)(h:AH)(C0:KT):Prop:=
aIf (s.tm 60) (
C0 s h) (
Q (.exit 1) s h)
def k22:OK:=fun W Q QP s h=>t22 Q s h (k21 W Q QP)
def t23(W:WK)(QP:PPost)(s:St)(h:AH)(C0:KT):Prop:=
aCall Try.prog W 75 [(s.tm 0)] h (fun t105 h106=>
C0 ⟨puts s.tm [(59,(s.tm 0)),(60,t105)],s.ds⟩ h106) (QP s.ds)
def k23:OK:=fun W Q QP s h=>t23 W QP s h (k22 W Q QP)
noncomputable def c2:Code:=Code.at code [1,1,1,1,0,1,0,1,1,1,1,1,1,1,1,1,1,1,1,1,0,0,0]
theorem l2:aw Try.prog 155 W pl c2 Q QP s h=k23 W Q QP s h:=congrFun (congrFun (show TB ⟨Try.prog,155,pl⟩ W QP c2 Q (k23 W Q QP) from
(sn
(bk 2 (sm (k21 W Q QP)))
(sq (k23 W Q QP)
(cd (k22 W Q QP) tr tr)))) s) h
def k24:OK:=fun W Q QP s h=>aLoop (aw Try.prog 155 W pl c2) (blockQ 1 (thenQ (k20 W Q QP) (blockQ 0 (thenQ (k1 W Q QP) (Q))))) QP s h
def t25(W:WK)(s:St)(h:AH)(C0:KT):Prop:=
∃Hd:Nat->Nat,(∀i∈[1],h.obj (Hd i)≠none)/\(
pFld (some 1) (s.tm 4) fun t107=>
lLd (some false) (some 1) t107 h fun t108 i109=>
(i109=Hd 1)/\(
pFld (some 0) (s.tm 5) fun t110=>
eStore (some 1) t110 (.sc (.string ⟨#[117,115,101]⟩)) h (banL W Hd [1]) fun h111=>
pFld (some 1) (s.tm 5) fun t112=>
eStore (some 1) t112 t108 h111 W fun h113=>
C0 ⟨puts s.tm [(55,t107),(56,t108),(57,t110),(58,t112)],s.ds⟩ h113))
def k25:OK:=fun W Q QP s h=>t25 W s h (k24 W Q QP)
def t26(s:St)(h:AH)(C0 C1:KT):Prop:=
aIf (s.tm 137) (
C0 s h) (
C1 s h)
def k26:OK:=fun W Q QP s h=>t26 s h (k19 W Q QP) (k25 W Q QP)
def t27(s:St)(h:AH)(C0:KT):Prop:=
pBin Try.prog .eql 9 true (s.tm 54) (.sc (.string ⟨#[114,101,115,101,116]⟩)) fun t114=>
C0 ⟨puts s.tm [(138,t114),(137,t114)],s.ds⟩ h
def k27:OK:=fun W Q QP s h=>t27 s h (k26 W Q QP)
def t28(s:St)(h:AH)(C0 C1:KT):Prop:=
aIf (s.tm 124) (
C0 s h) (
C1 s h)
def k28:OK:=fun W Q QP s h=>t28 s h (k17 W Q QP) (k27 W Q QP)
def t29(s:St)(h:AH)(C0:KT):Prop:=
pBin Try.prog .eql 9 true (s.tm 54) (.sc (.string ⟨#[109,101,97,115,117,114,101]⟩)) fun t115=>
C0 ⟨puts s.tm [(125,t115),(124,t115)],s.ds⟩ h
def k29:OK:=fun W Q QP s h=>t29 s h (k28 W Q QP)
def t30(s:St)(h:AH)(C0 C1:KT):Prop:=
aIf (s.tm 111) (
C0 s h) (
C1 s h)
def k30:OK:=fun W Q QP s h=>t30 s h (k15 W Q QP) (k29 W Q QP)
def t31(s:St)(h:AH)(C0:KT):Prop:=
pBin Try.prog .eql 9 true (s.tm 54) (.sc (.string ⟨#[105,102]⟩)) fun t116=>
C0 ⟨puts s.tm [(112,t116),(111,t116)],s.ds⟩ h
def k31:OK:=fun W Q QP s h=>t31 s h (k30 W Q QP)
def t32(s:St)(h:AH)(C0 C1:KT):Prop:=
aIf (s.tm 101) (
C0 s h) (
C1 s h)
def k32:OK:=fun W Q QP s h=>t32 s h (k12 W Q QP) (k31 W Q QP)
def t33(s:St)(h:AH)(C0:KT):Prop:=
pBin Try.prog .eql 9 true (s.tm 54) (.sc (.string ⟨#[114,101,112,101,97,116]⟩)) fun t117=>
C0 ⟨puts s.tm [(102,t117),(101,t117)],s.ds⟩ h
def k33:OK:=fun W Q QP s h=>t33 s h (k32 W Q QP)
def t34(s:St)(h:AH)(C0 C1:KT):Prop:=
aIf (s.tm 81) (
C0 s h) (
C1 s h)
def k34:OK:=fun W Q QP s h=>t34 s h (k10 W Q QP) (k33 W Q QP)
def t35(s:St)(h:AH)(C0:KT):Prop:=
pBin Try.prog .eql 9 true (s.tm 54) (.sc (.string ⟨#[103,97,116,101]⟩)) fun t118=>
C0 ⟨puts s.tm [(82,t118),(81,t118)],s.ds⟩ h
def k35:OK:=fun W Q QP s h=>t35 s h (k34 W Q QP)
def t36(s:St)(h:AH)(C0 C1:KT):Prop:=
aIf (s.tm 70) (
C1 s h) (
C0 s h)
def k36:OK:=fun W Q QP s h=>t36 s h (k35 W Q QP) (k4 W Q QP)
def t37(s:St)(h:AH)(C0:KT):Prop:=
aIf (s.tm 70) (
C0 s h) (
pBin Try.prog .eql 9 true (s.tm 54) (.sc (.string ⟨#[98,105,116,115]⟩)) fun t119=>
C0 ⟨puts s.tm [(72,t119),(70,t119)],s.ds⟩ h)
def k37:OK:=fun W Q QP s h=>t37 s h (k36 W Q QP)
def t38(s:St)(h:AH)(C0:KT):Prop:=
pBin Try.prog .eql 9 true (s.tm 54) (.sc (.string ⟨#[113,117,98,105,116,115]⟩)) fun t120=>
C0 ⟨puts s.tm [(71,t120),(70,t120)],s.ds⟩ h
def k38:OK:=fun W Q QP s h=>t38 s h (k37 W Q QP)
def t39(s:St)(h:AH)(C0:KT):Prop:=
pFld (some 1) (s.tm 4) fun t121=>
lLd (some false) (some 1) t121 h fun t122 _=>
C0 ⟨puts s.tm [(53,t121),(54,t122)],s.ds⟩ h
def k39:OK:=fun W Q QP s h=>t39 s h (k38 W Q QP)
def t40(W:WK)(s:St)(h:AH)(C0:KT):Prop:=
pNil (s.tm 0) fun t124=>
pFld (some 3) t124 fun t125=>
lLd (some false) (some 1) t125 h fun t126 _=>
lLd (some true) (some 6) (s.tm 5) h fun t128 _=>
eBSl (some (6,42,[.string ⟨#[]⟩,.string ⟨#[]⟩,.slice none 0 0,.int .i64 0,.int .i64 0,.int .i64 0])) 1 [(0,t128)] h fun t130 h131=>
eApp (some (6,80,42)) t126 t130 h131 W fun t132 h133=>
pNil (s.tm 0) fun t134=>
pFld (some 3) t134 fun t135=>
eStore (some 1) t135 t132 h133 W fun h136=>
C0 ⟨puts s.tm [(43,(s.tm 0)),(44,(s.tm 0)),(45,t124),(46,t125),(47,t126),(48,t128),(49,t130),(50,t132),(51,t134),(52,t135)],s.ds⟩ h136
def k40:OK:=fun W Q QP s h=>t40 W s h (k39 W Q QP)
def t41(s:St)(h:AH)(C0:KT):Prop:=
pNil (s.tm 0) fun t137=>
pFld (some 3) t137 fun t138=>
lLd (some false) (some 1) t138 h fun t139 _=>
(strArg t139=false)/\pLen t139 fun t141=>
C0 ⟨puts s.tm [(38,(s.tm 0)),(39,t137),(40,t138),(41,t139),(42,t141),(6,t141)],s.ds⟩ h
def k41:OK:=fun W Q QP s h=>t41 s h (k40 W Q QP)
def t42(W:WK)(s:St)(h:AH)(C0:KT):Prop:=
pFld (some 1) (s.tm 4) fun t142=>
lLd (some false) (some 1) t142 h fun t143 _=>
pFld (some 2) (s.tm 4) fun t145=>
lLd (some false) (some 1) t145 h fun t146 _=>
pBld (some ([.string ⟨#[]⟩,.string ⟨#[]⟩,.slice none 0 0,.int .i64 0,.int .i64 0,.int .i64 0],.inl [(0,1),(1,1),(2,1),(3,1),(4,1),(5,1)])) [(0,t143),(5,t146)] fun t148=>
eAlloc (some [.string ⟨#[]⟩,.string ⟨#[]⟩,.slice none 0 0,.int .i64 0,.int .i64 0,.int .i64 0]) 6 42 h fun t149 h150=>
eStore (some 6) t149 t148 h150 W fun h151=>
C0 ⟨puts s.tm [(33,t142),(34,t143),(35,t145),(36,t146),(37,t148),(5,t149)],s.ds⟩ h151
def k42:OK:=fun W Q QP s h=>t42 W s h (k41 W Q QP)
def t43(W:WK)(QP:PPost)(s:St)(h:AH)(C0:KT):Prop:=
pNil (s.tm 0) fun t152=>
pFld (some 1) t152 fun t153=>
lLd (some false) (some 1) t153 h fun t154 _=>
pNil (s.tm 0) fun t156=>
pFld (some 0) t156 fun t157=>
lLd (some false) (some 1) t157 h fun t158 _=>
(strArg t158=false)/\pLen t158 fun t160=>
pBin Try.prog .lss 3 false t154 t160 fun t161=>
aIg true t161 (
pNil (s.tm 0) fun t162=>
pFld (some 0) t162 fun t163=>
lLd (some false) (some 1) t163 h fun t164 _=>
pNil (s.tm 0) fun t166=>
pFld (some 1) t166 fun t167=>
lLd (some false) (some 1) t167 h fun t168 _=>
pIxA (some (3,none)) t164 t168 fun t170=>
pFld (some 0) t170 fun t171=>
lLd (some false) (some 1) t171 h fun t172 _=>
pBin Try.prog .eql 3 true t172 (.sc (.int .i64 1)) fun t174=>
pPick t161 t174 (.sc (.bool false)) fun t175=>
(
aCall Try.prog W 71 [(s.tm 0),t175] h (fun t176 h177=>
eAlloc (some [.int .i64 0,.string ⟨#[]⟩,.int .i64 0]) 3 126 h177 fun t178 h179=>
eStore (some 3) t178 t176 h179 W fun h180=>
C0 ⟨puts s.tm [(7,(s.tm 0)),(8,(s.tm 0)),(9,t152),(10,t153),(11,t154),(12,(s.tm 0)),(13,t156),(14,t157),(15,t158),(16,t160),(17,t161),(18,t161),(19,(s.tm 0)),(20,t162),(21,t163),(22,t164),(23,(s.tm 0)),(24,t166),(25,t167),(26,t168),(27,t170),(28,t171),(29,t172),(30,t174),(31,t175),(32,t176),(4,t178)],s.ds⟩ h180) (QP s.ds))/\(
eAlloc (some [.int .i64 0,.string ⟨#[]⟩,.int .i64 0]) 3 126 h fun t181 h182=>
aCall Try.prog W 71 [(s.tm 0),t175] h182 (fun t183 h184=>
eStore (some 3) t181 t183 h184 W fun h185=>
C0 ⟨puts s.tm [(7,(s.tm 0)),(8,(s.tm 0)),(9,t152),(10,t153),(11,t154),(12,(s.tm 0)),(13,t156),(14,t157),(15,t158),(16,t160),(17,t161),(18,t161),(19,(s.tm 0)),(20,t162),(21,t163),(22,t164),(23,(s.tm 0)),(24,t166),(25,t167),(26,t168),(27,t170),(28,t171),(29,t172),(30,t174),(31,t175),(4,t181),(32,t183)],s.ds⟩ h185) (QP s.ds))/\True) (
pPick t161 noA (.sc (.bool false)) fun t186=>
(
aCall Try.prog W 71 [(s.tm 0),t186] h (fun t187 h188=>
eAlloc (some [.int .i64 0,.string ⟨#[]⟩,.int .i64 0]) 3 126 h188 fun t189 h190=>
eStore (some 3) t189 t187 h190 W fun h191=>
C0 ⟨puts s.tm [(7,(s.tm 0)),(8,(s.tm 0)),(9,t152),(10,t153),(11,t154),(12,(s.tm 0)),(13,t156),(14,t157),(15,t158),(16,t160),(17,t161),(18,t161),(19,noA),(20,noA),(21,noA),(22,noA),(23,noA),(24,noA),(25,noA),(26,noA),(27,noA),(28,noA),(29,noA),(30,noA),(31,t186),(32,t187),(4,t189)],s.ds⟩ h191) (QP s.ds))/\(
eAlloc (some [.int .i64 0,.string ⟨#[]⟩,.int .i64 0]) 3 126 h fun t192 h193=>
aCall Try.prog W 71 [(s.tm 0),t186] h193 (fun t194 h195=>
eStore (some 3) t192 t194 h195 W fun h196=>
C0 ⟨puts s.tm [(7,(s.tm 0)),(8,(s.tm 0)),(9,t152),(10,t153),(11,t154),(12,(s.tm 0)),(13,t156),(14,t157),(15,t158),(16,t160),(17,t161),(18,t161),(19,noA),(20,noA),(21,noA),(22,noA),(23,noA),(24,noA),(25,noA),(26,noA),(27,noA),(28,noA),(29,noA),(30,noA),(31,t186),(4,t192),(32,t194)],s.ds⟩ h196) (QP s.ds))/\True)
def k43:OK:=fun W Q QP s h=>t43 W QP s h (k42 W Q QP)
end
theorem calls{x0 x1:AV}{h:AH}{M:WK}{R:RK}(hp:k43 (fun id=>M id\/h.next<=id) (bodyQ Try.prog [] R) (bodyP R) (s0 [x0,x1]) h):ACalls Try.prog 46 [x0,x1] h M R:=
 fio (n:=155) (pl:=pl) k43 Try.mixed Try.func46 (fun W Q QP=>
(sn
(sq (k42 W Q QP)
(sq (k41 W Q QP)
(sq (k40 W Q QP)
(sn
(sm (k1 W Q QP))
(sq (k39 W Q QP)
(bk 0 (sn
(cd (k36 W Q QP) (sq (k4 W Q QP)
(sq (k3 W Q QP)
(sm (k2 W Q QP)))) (sq (k35 W Q QP)
(cd (k34 W Q QP) (sq (k10 W Q QP)
(sn
(sm (k5 W Q QP))
(bk 3 (lo (k9 W Q QP))))) (sq (k33 W Q QP)
(cd (k32 W Q QP) (sq (k12 W Q QP)
(sm (k11 W Q QP))) (sq (k31 W Q QP)
(cd (k30 W Q QP) (sq (k15 W Q QP)
(sq (k14 W Q QP)
(sm (k13 W Q QP)))) (sq (k29 W Q QP)
(cd (k28 W Q QP) (sn
(sm (k16 W Q QP))
(sm (k17 W Q QP))) (sq (k27 W Q QP)
(cd (k26 W Q QP) (sn
(sm (k18 W Q QP))
(sm (k19 W Q QP))) (sn
(sn
(sm (k20 W Q QP))
(bk 1 (lo (k24 W Q QP))))
(sm (k25 W Q QP))))))))))))))
(sq (k38 W Q QP)
(cd (k37 W Q QP) tr tr)))))))))
(sm (k43 W Q QP)))) hp
attribute [simp] k1 t1 k2 t2 k3 t3 k4 t4 k5 t5 k6 t6 k7 t7 k8 t8 k9 k10 t10 k11 t11 k12 t12 k13 t13 k14 t14 k15 t15 k16 t16 k17 t17 k18 t18 k19 t19 k20 t20 k21 t21 k22 t22 k23 t23 k24 k25 t25 k26 t26 k27 t27 k28 t28 k29 t29 k30 t30 k31 t31 k32 t32 k33 t33 k34 t34 k35 t35 k36 t36 k37 t37 k38 t38 k39 t39 k40 t40 k41 t41 k42 t42 k43 t43
end F46
end
section
open Go.Ab
section
variable (W:Nat->Prop) (Q:Post) (QP:PPost) (s:St) (h:AH)
noncomputable def F24.code:Code:=Try.f24.body.getD .skip
def F24.pl:Plans:=[(3,⟨[(none,[(0,true),(1,true),(2,false),(3,false),(4,false)])],true,[],[]⟩)]
theorem F24.ok:okCode Try.prog F24.pl F24.code=true:=by kernel_rfl
def F24.t1(W:Nat->Prop)(Q:Post)(s:St)(h:AH):Prop:=
 pNil (s.tm 6) fun t1=>
 pFld (some 3) t1 fun t2=>
 lLd (some false) (some 1) t2 h fun t3 _=>
 eStore (some 1) (s.tm 2) t3 h W fun h5=>
 eStore (some 1) (s.tm 3) (.sc (.int .i64 0)) h5 W fun h6=>
 eStore (some 1) (s.tm 4) (.sc (.int .i64 0)) h6 W fun h7=>
 Q .ret ⟨puts s.tm [(32,(s.tm 6)),(33,t1),(34,t2),(35,t3)],s.ds⟩ h7
def F24.k1(W:Nat->Prop)(Q:Post)(QP:PPost)(s:St)(h:AH):Prop:=F24.t1 W Q s h
theorem F24.k1_a:aw Try.prog 36 W F24.pl (Code.at F24.code [1,1,1,1,1,1,0]) (thenQ (aw Try.prog 36 W F24.pl (Code.at F24.code [1,1,1,1,1,1,1]) (Q) QP) (Q)) QP s h=F24.t1 W Q s h:=by kernel_rfl
theorem F24.k1_ok:aw Try.prog 36 W F24.pl (Code.at F24.code [1,1,1,1,1,1]) (Q) QP s h=F24.k1 W Q QP s h:=nd_seq (a:=(Code.at F24.code [1,1,1,1,1,1,0])) (b:=(Code.at F24.code [1,1,1,1,1,1,1])) (by kernel_rfl) (fun _ _=>rfl) (F24.k1_a W Q QP s h)
def F24.t2(W:Nat->Prop)(Q:Post)(QP:PPost)(s:St)(h:AH):Prop:=
 aCall Try.prog W 46 [(s.tm 6),(.sc (.int .i64 0))] h (fun t8 h9=>
 Q .normal ⟨puts s.tm [(30,(s.tm 6)),(31,t8)],s.ds⟩ h9) (QP s.ds)
def F24.k2(W:Nat->Prop)(Q:Post)(QP:PPost)(s:St)(h:AH):Prop:=F24.t2 W Q QP s h
theorem F24.k2_a:aw Try.prog 36 W F24.pl (Code.at F24.code [1,1,1,1,1,0,0,0,1,0]) (blockQ 1 (Q)) QP s h=F24.t2 W Q QP s h:=by kernel_rfl
theorem F24.k2_ok:aw Try.prog 36 W F24.pl (Code.at F24.code [1,1,1,1,1,0,0,0,1,0]) (blockQ 1 (Q)) QP s h=F24.k2 W Q QP s h:=(F24.k2_a W Q QP s h)
theorem F24.o1:aw Try.prog 36 W F24.pl (Code.at F24.code [1,1,1,1,1,0,0,0,1]) (Q) QP s h=F24.k2 W Q QP s h:=nd_block (a:=(Code.at F24.code [1,1,1,1,1,0,0,0,1,0])) (by kernel_rfl) (F24.k2_ok W Q QP s h)
def F24.t3(Q:Post)(s:St)(h:AH)(C0:KT):Prop:=
 aIf (s.tm 29) (
 C0 s h) (
 Q (.exit 0) s h)
def F24.k3(W:Nat->Prop)(Q:Post)(QP:PPost)(s:St)(h:AH):Prop:=F24.t3 Q s h (F24.k2 W Q QP)
theorem F24.k3_a(C0:KT):aIf (aev s (.tmp 29)) (aw Try.prog 36 W F24.pl (Code.at F24.code [1,1,1,1,1,0,0,0,0,1,0]) (thenQ (C0) (Q)) QP s h) (aw Try.prog 36 W F24.pl (Code.at F24.code [1,1,1,1,1,0,0,0,0,1,1]) (thenQ (C0) (Q)) QP s h)=F24.t3 Q s h C0:=by kernel_rfl
theorem F24.k3_ok:aw Try.prog 36 W F24.pl (Code.at F24.code [1,1,1,1,1,0,0,0,0,1]) (thenQ (F24.k2 W Q QP) (Q)) QP s h=F24.k3 W Q QP s h:=nd_cond (a:=(Code.at F24.code [1,1,1,1,1,0,0,0,0,1,0])) (b:=(Code.at F24.code [1,1,1,1,1,0,0,0,0,1,1])) (by kernel_rfl) rfl rfl (F24.k3_a W Q QP s h (F24.k2 W Q QP))
def F24.t4(s:St)(h:AH)(C0 C1:KT):Prop:=
 pNil (s.tm 6) fun t10=>
 pFld (some 1) t10 fun t11=>
 lLd (some false) (some 1) t11 h fun t12 _=>
 (strArg (s.tm 5)=false)/\pLen (s.tm 5) fun t14=>
 pBin Try.prog .lss 3 false t12 t14 fun t15=>
 C1 ⟨puts s.tm [(23,(s.tm 6)),(24,t10),(25,t11),(26,t12),(27,(s.tm 5)),(28,t14),(29,t15)],s.ds⟩ h
def F24.k4(W:Nat->Prop)(Q:Post)(QP:PPost)(s:St)(h:AH):Prop:=F24.t4 s h (F24.k2 W Q QP) (F24.k3 W Q QP)
theorem F24.k4_a(C0 C1:KT):aw Try.prog 36 W F24.pl (Code.at F24.code [1,1,1,1,1,0,0,0,0,0]) (thenQ (C1) (thenQ (C0) (Q))) QP s h=F24.t4 s h C0 C1:=by kernel_rfl
theorem F24.k4_ok:aw Try.prog 36 W F24.pl (Code.at F24.code [1,1,1,1,1,0,0,0,0]) (thenQ (F24.k2 W Q QP) (Q)) QP s h=F24.k4 W Q QP s h:=nd_seq (a:=(Code.at F24.code [1,1,1,1,1,0,0,0,0,0])) (b:=(Code.at F24.code [1,1,1,1,1,0,0,0,0,1])) (by kernel_rfl) (F24.k3_ok W Q QP) (F24.k4_a W Q QP s h (F24.k2 W Q QP) (F24.k3 W Q QP))
theorem F24.o2:aw Try.prog 36 W F24.pl (Code.at F24.code [1,1,1,1,1,0,0,0]) (Q) QP s h=F24.k4 W Q QP s h:=nd_seq (a:=(Code.at F24.code [1,1,1,1,1,0,0,0,0])) (b:=(Code.at F24.code [1,1,1,1,1,0,0,0,1])) (by kernel_rfl) (F24.o1 W Q QP) (F24.k4_ok W Q QP s h)
noncomputable def F24.c1:Code:=(Code.at F24.code [1,1,1,1,1,0,0,0])
theorem F24.l1:aw Try.prog 36 W F24.pl F24.c1 Q QP s h=F24.k4 W Q QP s h:=F24.o2 W Q QP s h
def F24.k5(W:Nat->Prop)(Q:Post)(QP:PPost)(s:St)(h:AH):Prop:=aLoop (aw Try.prog 36 W F24.pl F24.c1) (blockQ 0 (thenQ (F24.k1 W Q QP) (Q))) QP s h
theorem F24.k5_ok:aw Try.prog 36 W F24.pl (Code.at F24.code [1,1,1,1,1,0,0]) (blockQ 0 (thenQ (F24.k1 W Q QP) (Q))) QP s h=F24.k5 W Q QP s h:=nd_loop (a:=F24.c1) (by kernel_rfl)
theorem F24.o3:aw Try.prog 36 W F24.pl (Code.at F24.code [1,1,1,1,1,0]) (thenQ (F24.k1 W Q QP) (Q)) QP s h=F24.k5 W Q QP s h:=nd_block (a:=(Code.at F24.code [1,1,1,1,1,0,0])) (by kernel_rfl) (F24.k5_ok W Q QP s h)
theorem F24.o4:aw Try.prog 36 W F24.pl (Code.at F24.code [1,1,1,1,1]) (Q) QP s h=F24.k5 W Q QP s h:=nd_seq (a:=(Code.at F24.code [1,1,1,1,1,0])) (b:=(Code.at F24.code [1,1,1,1,1,1])) (by kernel_rfl) (F24.k1_ok W Q QP) (F24.o3 W Q QP s h)
def F24.t6(s:St)(h:AH)(C0:KT):Prop:=
 (strArg (s.tm 0)=true)/\pLen (s.tm 0) fun t16=>
 pBld (some ([.slice none 0 0,.int .i64 0,.int .i64 0,.slice none 0 0],.inl [(0,1),(1,1),(2,1),(3,1)])) [(0,(s.tm 5)),(2,t16)] fun t17=>
 eBox 4 105 t17 h fun t18 h19=>
 C0 ⟨puts s.tm [(18,(s.tm 5)),(19,(s.tm 0)),(20,t16),(21,t17),(22,t18),(6,t18)],s.ds⟩ h19
def F24.k6(W:Nat->Prop)(Q:Post)(QP:PPost)(s:St)(h:AH):Prop:=F24.t6 s h (F24.k5 W Q QP)
theorem F24.k6_a(C0:KT):aw Try.prog 36 W F24.pl (Code.at F24.code [1,1,1,1,0]) (thenQ (C0) (Q)) QP s h=F24.t6 s h C0:=by kernel_rfl
theorem F24.k6_ok:aw Try.prog 36 W F24.pl (Code.at F24.code [1,1,1,1]) (Q) QP s h=F24.k6 W Q QP s h:=nd_seq (a:=(Code.at F24.code [1,1,1,1,0])) (b:=(Code.at F24.code [1,1,1,1,1])) (by kernel_rfl) (F24.o4 W Q QP) (F24.k6_a W Q QP s h (F24.k5 W Q QP))
def F24.t7(s:St)(h:AH)(C0:KT):Prop:=
 aDef (.fn (.func 45) [] [(s.tm 2),(s.tm 3),(s.tm 4)]) [] s.ds fun d20=>
 C0 ⟨puts s.tm [(17,(.fn (.func 45) [] [(s.tm 2),(s.tm 3),(s.tm 4)]))],d20⟩ h
def F24.k7(W:Nat->Prop)(Q:Post)(QP:PPost)(s:St)(h:AH):Prop:=F24.t7 s h (F24.k6 W Q QP)
theorem F24.k7_a(C0:KT):aw Try.prog 36 W F24.pl (Code.at F24.code [1,1,1,0]) (thenQ (C0) (Q)) QP s h=F24.t7 s h C0:=by kernel_rfl
theorem F24.k7_ok:aw Try.prog 36 W F24.pl (Code.at F24.code [1,1,1]) (Q) QP s h=F24.k7 W Q QP s h:=nd_seq (a:=(Code.at F24.code [1,1,1,0])) (b:=(Code.at F24.code [1,1,1,1])) (by kernel_rfl) (F24.k6_ok W Q QP) (F24.k7_a W Q QP s h (F24.k6 W Q QP))
def F24.t8(Q:Post)(s:St)(h:AH)(C0:KT):Prop:=
 Q .ret s h
def F24.k8(W:Nat->Prop)(Q:Post)(QP:PPost)(s:St)(h:AH):Prop:=F24.t8 Q s h (F24.k7 W Q QP)
theorem F24.k8_a(C0:KT):aw Try.prog 36 W F24.pl (Code.at F24.code [1,1,0,1,0,1]) (thenQ (C0) (Q)) QP s h=F24.t8 Q s h C0:=by kernel_rfl
theorem F24.k8_ok:aw Try.prog 36 W F24.pl (Code.at F24.code [1,1,0,1,0,1]) (thenQ (F24.k7 W Q QP) (Q)) QP s h=F24.k8 W Q QP s h:=(F24.k8_a W Q QP s h (F24.k7 W Q QP))
def F24.t9(W:Nat->Prop)(s:St)(h:AH)(C0 C1:KT):Prop:=
 ∃Hd:Nat->Nat,(∀i∈[0,1],h.obj (Hd i)≠none)/\(
 lLd (some false) (some 1) (s.tm 3) h fun t21 i22=>
 (i22=Hd 0)/\(
 lLd (some false) (some 1) (s.tm 4) h fun t23 i24=>
 (i24=Hd 1)/\(
 eStore (some 1) (s.tm 2) (.sc (.slice none 0 0)) h (banL W Hd [0,1]) fun h25=>
 eStore (some 1) (s.tm 3) t21 h25 (banL W Hd [1]) fun h26=>
 eStore (some 1) (s.tm 4) t23 h26 W fun h27=>
 C1 ⟨puts s.tm [(15,t21),(16,t23)],s.ds⟩ h27)))
def F24.k9(W:Nat->Prop)(Q:Post)(QP:PPost)(s:St)(h:AH):Prop:=F24.t9 W s h (F24.k7 W Q QP) (F24.k8 W Q QP)
theorem F24.k9_a(C0 C1:KT):aw Try.prog 36 W F24.pl (Code.at F24.code [1,1,0,1,0,0]) (thenQ (C1) (thenQ (C0) (Q))) QP s h=F24.t9 W s h C0 C1:=by kernel_rfl
theorem F24.k9_ok:aw Try.prog 36 W F24.pl (Code.at F24.code [1,1,0,1,0,0]) (thenQ (F24.k8 W Q QP) (thenQ (F24.k7 W Q QP) (Q))) QP s h=F24.k9 W Q QP s h:=(F24.k9_a W Q QP s h (F24.k7 W Q QP) (F24.k8 W Q QP))
theorem F24.o5:aw Try.prog 36 W F24.pl (Code.at F24.code [1,1,0,1,0]) (thenQ (F24.k7 W Q QP) (Q)) QP s h=F24.k9 W Q QP s h:=nd_seq (a:=(Code.at F24.code [1,1,0,1,0,0])) (b:=(Code.at F24.code [1,1,0,1,0,1])) (by kernel_rfl) (F24.k8_ok W Q QP) (F24.k9_ok W Q QP s h)
def F24.t10(s:St)(h:AH)(C0 C1:KT):Prop:=
 aIf (s.tm 14) (
 C1 s h) (
 C0 s h)
def F24.k10(W:Nat->Prop)(Q:Post)(QP:PPost)(s:St)(h:AH):Prop:=F24.t10 s h (F24.k7 W Q QP) (F24.k9 W Q QP)
theorem F24.k10_a(C0 C1:KT):aIf (aev s (.tmp 14)) (C1 s h) (aw Try.prog 36 W F24.pl (Code.at F24.code [1,1,0,1,1]) (thenQ (C0) (Q)) QP s h)=F24.t10 s h C0 C1:=by kernel_rfl
theorem F24.k10_ok:aw Try.prog 36 W F24.pl (Code.at F24.code [1,1,0,1]) (thenQ (F24.k7 W Q QP) (Q)) QP s h=F24.k10 W Q QP s h:=nd_cond (a:=(Code.at F24.code [1,1,0,1,0])) (b:=(Code.at F24.code [1,1,0,1,1])) (by kernel_rfl) (F24.o5 W Q QP s h) rfl (F24.k10_a W Q QP s h (F24.k7 W Q QP) (F24.k9 W Q QP))
def F24.t11(s:St)(h:AH)(C0 C1:KT):Prop:=
 lLd (some false) (some 1) (s.tm 4) h fun t28 _=>
 pBin Try.prog .neq 30 true t28 (.sc (.int .i64 0)) fun t30=>
 C0 ⟨puts s.tm [(13,t28),(14,t30)],s.ds⟩ h
def F24.k11(W:Nat->Prop)(Q:Post)(QP:PPost)(s:St)(h:AH):Prop:=F24.t11 s h (F24.k10 W Q QP) (F24.k7 W Q QP)
theorem F24.k11_a(C0 C1:KT):aw Try.prog 36 W F24.pl (Code.at F24.code [1,1,0,0]) (thenQ (C0) (thenQ (C1) (Q))) QP s h=F24.t11 s h C0 C1:=by kernel_rfl
theorem F24.k11_ok:aw Try.prog 36 W F24.pl (Code.at F24.code [1,1,0]) (thenQ (F24.k7 W Q QP) (Q)) QP s h=F24.k11 W Q QP s h:=nd_seq (a:=(Code.at F24.code [1,1,0,0])) (b:=(Code.at F24.code [1,1,0,1])) (by kernel_rfl) (F24.k10_ok W Q QP) (F24.k11_a W Q QP s h (F24.k10 W Q QP) (F24.k7 W Q QP))
theorem F24.o6:aw Try.prog 36 W F24.pl (Code.at F24.code [1,1]) (Q) QP s h=F24.k11 W Q QP s h:=nd_seq (a:=(Code.at F24.code [1,1,0])) (b:=(Code.at F24.code [1,1,1])) (by kernel_rfl) (F24.k7_ok W Q QP) (F24.k11_ok W Q QP s h)
def F24.t12(W:Nat->Prop)(QP:PPost)(s:St)(h:AH)(C0:KT):Prop:=
 aCall Try.prog W 44 [(s.tm 0)] h (fun t31 h32=>
 pExt t31 0 fun t33=>
 pExt t31 1 fun t34=>
 pExt t31 2 fun t35=>
 eStore (some 1) (s.tm 3) t34 h32 W fun h36=>
 eStore (some 1) (s.tm 4) t35 h36 W fun h37=>
 C0 ⟨puts s.tm [(8,(s.tm 0)),(9,t31),(7,t31),(10,t33),(11,t34),(12,t35),(5,t33)],s.ds⟩ h37) (QP s.ds)
def F24.k12(W:Nat->Prop)(Q:Post)(QP:PPost)(s:St)(h:AH):Prop:=F24.t12 W QP s h (F24.k11 W Q QP)
theorem F24.k12_a(C0:KT):aw Try.prog 36 W F24.pl (Code.at F24.code [1,0]) (thenQ (C0) (Q)) QP s h=F24.t12 W QP s h C0:=by kernel_rfl
theorem F24.k12_ok:aw Try.prog 36 W F24.pl (Code.at F24.code [1]) (Q) QP s h=F24.k12 W Q QP s h:=nd_seq (a:=(Code.at F24.code [1,0])) (b:=(Code.at F24.code [1,1])) (by kernel_rfl) (F24.o6 W Q QP) (F24.k12_a W Q QP s h (F24.k11 W Q QP))
def F24.t13(s:St)(h:AH)(C0:KT):Prop:=
 eAlloc (some [.slice none 0 0]) 1 22 h fun t38 h39=>
 eAlloc (some [.int .i64 0]) 1 3 h39 fun t40 h41=>
 eAlloc (some [.int .i64 0]) 1 30 h41 fun t42 h43=>
 C0 ⟨puts s.tm [(2,t38),(3,t40),(4,t42)],s.ds⟩ h43
def F24.k13(W:Nat->Prop)(Q:Post)(QP:PPost)(s:St)(h:AH):Prop:=F24.t13 s h (F24.k12 W Q QP)
theorem F24.k13_a(C0:KT):aw Try.prog 36 W F24.pl (Code.at F24.code [0]) (thenQ (C0) (Q)) QP s h=F24.t13 s h C0:=by kernel_rfl
theorem F24.k13_ok:aw Try.prog 36 W F24.pl (Code.at F24.code []) (Q) QP s h=F24.k13 W Q QP s h:=nd_seq (a:=(Code.at F24.code [0])) (b:=(Code.at F24.code [1])) (by kernel_rfl) (F24.k12_ok W Q QP) (F24.k13_a W Q QP s h (F24.k12 W Q QP))
end
theorem F24.calls{x0:AV}{h:AH}{M:Nat->Prop}{R:AE->AH->Prop}(hp:F24.k13 (fun id=>M id\/h.next<=id) (bodyQ Try.prog [.cell 2 22,.cell 3 3,.cell 4 30] R) (bodyP R) (s0 [x0]) h):ACalls Try.prog 24 [x0] h M R:=
 acalls_of (c:=F24.code) Try.mixed Try.func24 (by kernel_rfl) (Nat.le_of_ble_eq_true rfl) F24.ok (by rw[show Try.f24.ntmps=36 from rfl,show Try.f24.results.toList=[.cell 2 22,.cell 3 3,.cell 4 30] from rfl];exact Eq.mpr (F24.k13_ok _ _ _ _ _) hp)
attribute [simp] F24.k1 F24.t1 F24.k2 F24.t2 F24.k3 F24.t3 F24.k4 F24.t4 F24.k5 F24.k6 F24.t6 F24.k7 F24.t7 F24.k8 F24.t8 F24.k9 F24.t9 F24.k10 F24.t10 F24.k11 F24.t11 F24.k12 F24.t12 F24.k13 F24.t13
end
end Go.Proofs.Ytjehibknlmehmaa
