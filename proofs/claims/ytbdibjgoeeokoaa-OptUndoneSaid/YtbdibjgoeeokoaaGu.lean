/- Bodies of the circuit package that the law of undoing reaches; printed. No condition. -/
import Derived.Test.YtbdibjgoeeokoaaGl
set_option maxRecDepth 100000
namespace Go.Proofs.Ytbdibjgoeeokoaa
open Go.Ab
section
variable (W:Nat->Prop) (QR QN:VK) (QE:Nat->VK) (QP:AV->AH->Prop) (s:St) (h:AH)
noncomputable def F5.code:Code:=Try.f5.body.getD .skip
def F5.g1:Grps:=[(none,[(0,false),(1,false),(2,false)]),(some (2,true),[(3,false),(4,false),(5,false),(6,false)]),(none,[(7,false),(8,false)])]
def F5.g2:Grps:=[(none,[(0,false),(1,false),(2,false)]),(some (2,false),[(3,false),(4,false)]),(none,[(5,false)])]
def F5.g3:Grps:=[(none,[(0,false),(1,false),(2,false)]),(some (2,false),[(3,false),(4,false)]),(none,[(5,false),(6,false)]),(some (6,false),[(7,false),(8,false)]),(none,[(9,false)])]
def F5.pl:Plans:=[(4,⟨F5.g3,false,[],[]⟩),(8,⟨F5.g2,false,[],[]⟩),(14,⟨F5.g1,false,[],[]⟩)]
theorem F5.ok:okCode Try.prog F5.pl F5.code=true:=by kernel_rfl
noncomputable abbrev F5.d(p:List Nat):Code:=Code.at F5.code p
abbrev F5.cw(W:Nat->Prop)(c:Code)(q:Post)(QP:AV->AH->Prop):KT:=Go.Ab.aw Try.prog 63 W F5.pl c q (kP QP)
def F5.el0(_:Nat)(_:Nat->AV):List AV:=[]
def F5.q0(QR QN:VK)(QE:Nat->VK):Post:=fun x s h=>match x with |.normal=>QN [s.tm 2] h |.ret=>QR [s.tm 2] h |.exit j=>QE j (F5.el0 j s.tm) h |.goto _=>False
def F5.n1(_:WK)(QR _:VK)(_:EK)(_:PK)(x2:AV)(h:AH):Prop:=
QR [x2] h
def F5.f1:KT:=fun s h=>F5.n1 W QR QN QE QP (s.tm 2) h
theorem F5.e1:F5.cw W (F5.d [1,1,1,1,1,1,1,1,1,1,1]) (F5.q0 QR QN QE) QP s h=F5.f1 W QR QN QE QP s h:=by kernel_rfl
def F5.n2(W:WK)(QR QN:VK)(QE:EK)(QP:PK)(x57 x61:AV)(h:AH):Prop:=
pPick x57 x61 (.sc (.bool false)) fun t1=>
F5.n1 W QR QN QE QP t1 h
def F5.f2:KT:=fun s h=>F5.n2 W QR QN QE QP (s.tm 57) (s.tm 61) h
theorem F5.e2:evG Try.prog 63 (fun _=>W) nobody (kP QP) (regOps (F5.d [1,1,1,1,1,1,1,1,1,1,0])) (F5.g1.drop 2) ((thenQ (F5.f1 W QR QN QE QP) (F5.q0 QR QN QE)) .normal) s h=F5.f2 W QR QN QE QP s h:=nd_g (is:=isAt F5.g1 2) (rest:=F5.g1.drop 3) (by kernel_rfl) (fun _ _=>rfl) (by kernel_rfl)
def F5.n3(W:WK)(QR QN:VK)(QE:EK)(QP:PK)(x8 x57:AV)(h:AH):Prop:=
aIg true x57 (
pFld (some 2) x8 fun t2=>
lLd (some false) (some 1) t2 h fun t3 _=>
(strArg t3=false)/\pLen t3 fun t5=>
pBin Try.prog .eql 3 true t5 (.sc (.int .i64 0)) fun t6=>
F5.n2 W QR QN QE QP x57 t6 h) (
F5.n2 W QR QN QE QP x57 noA h)
def F5.f3:KT:=fun s h=>F5.n3 W QR QN QE QP (s.tm 8) (s.tm 57) h
theorem F5.e3:evG Try.prog 63 (fun _=>W) nobody (kP QP) (regOps (F5.d [1,1,1,1,1,1,1,1,1,1,0])) (F5.g1.drop 1) ((thenQ (F5.f1 W QR QN QE QP) (F5.q0 QR QN QE)) .normal) s h=F5.f3 W QR QN QE QP s h:=nd_gw (want:=true) (j:=2) (is:=isAt F5.g1 1) (rest:=F5.g1.drop 2) (by kernel_rfl) (d:=57) (by kernel_rfl) (F5.e2 W QR QN QE QP) (by kernel_rfl)
def F5.n4(W:WK)(QR QN:VK)(QE:EK)(QP:PK)(x4 x8:AV)(h:AH):Prop:=
pBin Try.prog .eql 30 true x4 (.sc (.int .i64 0)) fun t7=>
F5.n3 W QR QN QE QP x8 t7 h
def F5.f4:KT:=fun s h=>F5.n4 W QR QN QE QP (s.tm 4) (s.tm 8) h
theorem F5.e4:evG Try.prog 63 (fun _=>W) nobody (kP QP) (regOps (F5.d [1,1,1,1,1,1,1,1,1,1,0])) (F5.g1.drop 0) ((thenQ (F5.f1 W QR QN QE QP) (F5.q0 QR QN QE)) .normal) s h=F5.f4 W QR QN QE QP s h:=nd_g (is:=isAt F5.g1 0) (rest:=F5.g1.drop 1) (by kernel_rfl) (F5.e3 W QR QN QE QP) (by kernel_rfl)
theorem F5.o1:F5.cw W (F5.d [1,1,1,1,1,1,1,1,1,1,0]) (thenQ (F5.f1 W QR QN QE QP) (F5.q0 QR QN QE)) QP s h=F5.f4 W QR QN QE QP s h:=nd_groups (id:=14) (draw:=false) (ops:=(regOps (F5.d [1,1,1,1,1,1,1,1,1,1,0]))) (gs:=F5.g1.drop 0) (by kernel_rfl) (by kernel_rfl) (F5.e4 W QR QN QE QP s h)
theorem F5.o2:F5.cw W (F5.d [1,1,1,1,1,1,1,1,1,1]) (F5.q0 QR QN QE) QP s h=F5.f4 W QR QN QE QP s h:=nd_seq (a:=(F5.d [1,1,1,1,1,1,1,1,1,1,0])) (b:=(F5.d [1,1,1,1,1,1,1,1,1,1,1])) (by kernel_rfl) (F5.e1 W QR QN QE QP) (F5.o1 W QR QN QE QP s h)
def F5.n5(W:WK)(QR QN:VK)(QE:EK)(QP:PK)(x7:AV)(h:AH):Prop:=
lLd (some true) (some 3) x7 h fun t8 _=>
aCall Try.prog W 15 [t8] h (fun t10 h11=>
pExt t10 0 fun t12=>
pExt t10 1 fun t13=>
eAlloc (some [.int .i64 0,.int .i64 0,.slice none 0 0]) 3 24 h11 fun t14 h15=>
eStore (some 3) t14 t12 h15 W fun h16=>
F5.n4 W QR QN QE QP t13 t14 h16) QP
def F5.f5:KT:=fun s h=>F5.n5 W QR QN QE QP (s.tm 7) h
theorem F5.e5:F5.cw W (F5.d [1,1,1,1,1,1,1,1,1]) (F5.q0 QR QN QE) QP s h=F5.f5 W QR QN QE QP s h:=nd_seq (a:=(F5.d [1,1,1,1,1,1,1,1,1,0])) (b:=(F5.d [1,1,1,1,1,1,1,1,1,1])) (by kernel_rfl) (F5.o2 W QR QN QE QP) (by kernel_rfl)
def F5.n6(_:WK)(QR _:VK)(_:EK)(_:PK)(h:AH):Prop:=
QR [(.sc (.bool true))] h
def F5.f6:KT:=fun _ h=>F5.n6 W QR QN QE QP h
theorem F5.e6:F5.cw W (F5.d [1,1,1,1,1,1,1,1,0,1,0]) (thenQ (F5.f5 W QR QN QE QP) (F5.q0 QR QN QE)) QP s h=F5.f6 W QR QN QE QP s h:=nd_seq (a:=(F5.d [1,1,1,1,1,1,1,1,0,1,0,0])) (b:=(F5.d [1,1,1,1,1,1,1,1,0,1,0,1])) (by kernel_rfl) (fun _ _=>rfl) (by kernel_rfl)
def F5.n7(W:WK)(QR QN:VK)(QE:EK)(QP:PK)(x7 x49:AV)(h:AH):Prop:=
aIf x49 (
F5.n6 W QR QN QE QP h) (
F5.n5 W QR QN QE QP x7 h)
def F5.f7:KT:=fun s h=>F5.n7 W QR QN QE QP (s.tm 7) (s.tm 49) h
theorem F5.e7:F5.cw W (F5.d [1,1,1,1,1,1,1,1,0,1]) (thenQ (F5.f5 W QR QN QE QP) (F5.q0 QR QN QE)) QP s h=F5.f7 W QR QN QE QP s h:=nd_cond (o:=(.tmp 49)) (a:=(F5.d [1,1,1,1,1,1,1,1,0,1,0])) (b:=(F5.d [1,1,1,1,1,1,1,1,0,1,1])) (by kernel_rfl) (F5.e6 W QR QN QE QP s h) rfl (by kernel_rfl)
def F5.n8(W:WK)(QR QN:VK)(QE:EK)(QP:PK)(x4 x7:AV)(h:AH):Prop:=
pBin Try.prog .neq 30 true x4 (.sc (.int .i64 0)) fun t17=>
F5.n7 W QR QN QE QP x7 t17 h
def F5.f8:KT:=fun s h=>F5.n8 W QR QN QE QP (s.tm 4) (s.tm 7) h
theorem F5.e8:F5.cw W (F5.d [1,1,1,1,1,1,1,1,0]) (thenQ (F5.f5 W QR QN QE QP) (F5.q0 QR QN QE)) QP s h=F5.f8 W QR QN QE QP s h:=nd_seq (a:=(F5.d [1,1,1,1,1,1,1,1,0,0])) (b:=(F5.d [1,1,1,1,1,1,1,1,0,1])) (by kernel_rfl) (F5.e7 W QR QN QE QP) (by kernel_rfl)
theorem F5.o3:F5.cw W (F5.d [1,1,1,1,1,1,1,1]) (F5.q0 QR QN QE) QP s h=F5.f8 W QR QN QE QP s h:=nd_seq (a:=(F5.d [1,1,1,1,1,1,1,1,0])) (b:=(F5.d [1,1,1,1,1,1,1,1,1])) (by kernel_rfl) (F5.e5 W QR QN QE QP) (F5.e8 W QR QN QE QP s h)
def F5.n9(W:WK)(QR QN:VK)(QE:EK)(QP:PK)(x1 x5:AV)(h:AH):Prop:=
lLd (some true) (some 3) x1 h fun t18 _=>
lLd (some true) (some 3) x5 h fun t20 _=>
aCall Try.prog W 18 [t18,t20] h (fun t22 h23=>
pExt t22 0 fun t24=>
pExt t22 1 fun t25=>
eAlloc (some [.int .i64 0,.int .i64 0,.slice none 0 0]) 3 24 h23 fun t26 h27=>
eStore (some 3) t26 t24 h27 W fun h28=>
F5.n8 W QR QN QE QP t25 t26 h28) QP
def F5.f9:KT:=fun s h=>F5.n9 W QR QN QE QP (s.tm 1) (s.tm 5) h
theorem F5.e9:F5.cw W (F5.d [1,1,1,1,1,1,1]) (F5.q0 QR QN QE) QP s h=F5.f9 W QR QN QE QP s h:=nd_seq (a:=(F5.d [1,1,1,1,1,1,1,0])) (b:=(F5.d [1,1,1,1,1,1,1,1])) (by kernel_rfl) (F5.o3 W QR QN QE QP) (by kernel_rfl)
def F5.n10(_:WK)(QR _:VK)(_:EK)(_:PK)(h:AH):Prop:=
QR [(.sc (.bool false))] h
def F5.f10:KT:=fun _ h=>F5.n10 W QR QN QE QP h
theorem F5.e10:F5.cw W (F5.d [1,1,1,1,1,1,0,1,0]) (thenQ (F5.f9 W QR QN QE QP) (F5.q0 QR QN QE)) QP s h=F5.f10 W QR QN QE QP s h:=nd_seq (a:=(F5.d [1,1,1,1,1,1,0,1,0,0])) (b:=(F5.d [1,1,1,1,1,1,0,1,0,1])) (by kernel_rfl) (fun _ _=>rfl) (by kernel_rfl)
def F5.n11(W:WK)(QR QN:VK)(QE:EK)(QP:PK)(x1 x5 x41:AV)(h:AH):Prop:=
aIf x41 (
F5.n10 W QR QN QE QP h) (
F5.n9 W QR QN QE QP x1 x5 h)
def F5.f11:KT:=fun s h=>F5.n11 W QR QN QE QP (s.tm 1) (s.tm 5) (s.tm 41) h
theorem F5.e11:F5.cw W (F5.d [1,1,1,1,1,1,0,1]) (thenQ (F5.f9 W QR QN QE QP) (F5.q0 QR QN QE)) QP s h=F5.f11 W QR QN QE QP s h:=nd_cond (o:=(.tmp 41)) (a:=(F5.d [1,1,1,1,1,1,0,1,0])) (b:=(F5.d [1,1,1,1,1,1,0,1,1])) (by kernel_rfl) (F5.e10 W QR QN QE QP s h) rfl (by kernel_rfl)
def F5.n12(W:WK)(QR QN:VK)(QE:EK)(QP:PK)(x1 x5 x38 x40:AV)(h:AH):Prop:=
pPick x38 (.sc (.bool true)) x40 fun t29=>
F5.n11 W QR QN QE QP x1 x5 t29 h
def F5.f12:KT:=fun s h=>F5.n12 W QR QN QE QP (s.tm 1) (s.tm 5) (s.tm 38) (s.tm 40) h
theorem F5.e12:evG Try.prog 63 (fun _=>W) nobody (kP QP) (regOps (F5.d [1,1,1,1,1,1,0,0])) (F5.g2.drop 2) ((thenQ (F5.f11 W QR QN QE QP) (thenQ (F5.f9 W QR QN QE QP) (F5.q0 QR QN QE))) .normal) s h=F5.f12 W QR QN QE QP s h:=nd_g (is:=isAt F5.g2 2) (rest:=F5.g2.drop 3) (by kernel_rfl) (fun _ _=>rfl) (by kernel_rfl)
def F5.n13(W:WK)(QR QN:VK)(QE:EK)(QP:PK)(x1 x5 x6 x38:AV)(h:AH):Prop:=
aIg false x38 (
pBin Try.prog .neq 30 true x6 (.sc (.int .i64 0)) fun t30=>
F5.n12 W QR QN QE QP x1 x5 x38 t30 h) (
F5.n12 W QR QN QE QP x1 x5 x38 noA h)
def F5.f13:KT:=fun s h=>F5.n13 W QR QN QE QP (s.tm 1) (s.tm 5) (s.tm 6) (s.tm 38) h
theorem F5.e13:evG Try.prog 63 (fun _=>W) nobody (kP QP) (regOps (F5.d [1,1,1,1,1,1,0,0])) (F5.g2.drop 1) ((thenQ (F5.f11 W QR QN QE QP) (thenQ (F5.f9 W QR QN QE QP) (F5.q0 QR QN QE))) .normal) s h=F5.f13 W QR QN QE QP s h:=nd_gw (want:=false) (j:=2) (is:=isAt F5.g2 1) (rest:=F5.g2.drop 2) (by kernel_rfl) (d:=38) (by kernel_rfl) (F5.e12 W QR QN QE QP) (by kernel_rfl)
def F5.n14(W:WK)(QR QN:VK)(QE:EK)(QP:PK)(x1 x4 x5 x6:AV)(h:AH):Prop:=
pBin Try.prog .neq 30 true x4 (.sc (.int .i64 0)) fun t31=>
F5.n13 W QR QN QE QP x1 x5 x6 t31 h
def F5.f14:KT:=fun s h=>F5.n14 W QR QN QE QP (s.tm 1) (s.tm 4) (s.tm 5) (s.tm 6) h
theorem F5.e14:evG Try.prog 63 (fun _=>W) nobody (kP QP) (regOps (F5.d [1,1,1,1,1,1,0,0])) (F5.g2.drop 0) ((thenQ (F5.f11 W QR QN QE QP) (thenQ (F5.f9 W QR QN QE QP) (F5.q0 QR QN QE))) .normal) s h=F5.f14 W QR QN QE QP s h:=nd_g (is:=isAt F5.g2 0) (rest:=F5.g2.drop 1) (by kernel_rfl) (F5.e13 W QR QN QE QP) (by kernel_rfl)
theorem F5.o4:F5.cw W (F5.d [1,1,1,1,1,1,0,0]) (thenQ (F5.f11 W QR QN QE QP) (thenQ (F5.f9 W QR QN QE QP) (F5.q0 QR QN QE))) QP s h=F5.f14 W QR QN QE QP s h:=nd_groups (id:=8) (draw:=false) (ops:=(regOps (F5.d [1,1,1,1,1,1,0,0]))) (gs:=F5.g2.drop 0) (by kernel_rfl) (by kernel_rfl) (F5.e14 W QR QN QE QP s h)
theorem F5.o5:F5.cw W (F5.d [1,1,1,1,1,1,0]) (thenQ (F5.f9 W QR QN QE QP) (F5.q0 QR QN QE)) QP s h=F5.f14 W QR QN QE QP s h:=nd_seq (a:=(F5.d [1,1,1,1,1,1,0,0])) (b:=(F5.d [1,1,1,1,1,1,0,1])) (by kernel_rfl) (F5.e11 W QR QN QE QP) (F5.o4 W QR QN QE QP s h)
theorem F5.o6:F5.cw W (F5.d [1,1,1,1,1,1]) (F5.q0 QR QN QE) QP s h=F5.f14 W QR QN QE QP s h:=nd_seq (a:=(F5.d [1,1,1,1,1,1,0])) (b:=(F5.d [1,1,1,1,1,1,1])) (by kernel_rfl) (F5.e9 W QR QN QE QP) (F5.o5 W QR QN QE QP s h)
def F5.n15(W:WK)(QR QN:VK)(QE:EK)(QP:PK)(x1 x4:AV)(h:AH):Prop:=
lLd (some true) (some 3) x1 h fun t32 _=>
aCall Try.prog W 17 [t32] h (fun t34 h35=>
pExt t34 0 fun t36=>
pExt t34 1 fun t37=>
eAlloc (some [.int .i64 0,.int .i64 0,.slice none 0 0]) 3 24 h35 fun t38 h39=>
eStore (some 3) t38 t36 h39 W fun h40=>
F5.n14 W QR QN QE QP x1 x4 t38 t37 h40) QP
def F5.f15:KT:=fun s h=>F5.n15 W QR QN QE QP (s.tm 1) (s.tm 4) h
theorem F5.e15:F5.cw W (F5.d [1,1,1,1,1]) (F5.q0 QR QN QE) QP s h=F5.f15 W QR QN QE QP s h:=nd_seq (a:=(F5.d [1,1,1,1,1,0])) (b:=(F5.d [1,1,1,1,1,1])) (by kernel_rfl) (F5.o6 W QR QN QE QP) (by kernel_rfl)
def F5.n16(W:WK)(QR QN:VK)(QE:EK)(QP:PK)(x1:AV)(h:AH):Prop:=
lLd (some true) (some 3) x1 h fun t41 _=>
aCall Try.prog W 15 [t41] h (fun t43 h44=>
pExt t43 0 fun t45=>
pExt t43 1 fun t46=>
eStore (some 3) x1 t45 h44 W fun h47=>
F5.n15 W QR QN QE QP x1 t46 h47) QP
def F5.f16:KT:=fun s h=>F5.n16 W QR QN QE QP (s.tm 1) h
theorem F5.e16:F5.cw W (F5.d [1,1,1,1]) (F5.q0 QR QN QE) QP s h=F5.f16 W QR QN QE QP s h:=nd_seq (a:=(F5.d [1,1,1,1,0])) (b:=(F5.d [1,1,1,1,1])) (by kernel_rfl) (F5.e15 W QR QN QE QP) (by kernel_rfl)
def F5.n17(_:WK)(QR _:VK)(_:EK)(_:PK)(h:AH):Prop:=
QR [(.sc (.bool true))] h
def F5.f17:KT:=fun _ h=>F5.n17 W QR QN QE QP h
theorem F5.e17:F5.cw W (F5.d [1,1,1,0,1,0]) (thenQ (F5.f16 W QR QN QE QP) (F5.q0 QR QN QE)) QP s h=F5.f17 W QR QN QE QP s h:=nd_seq (a:=(F5.d [1,1,1,0,1,0,0])) (b:=(F5.d [1,1,1,0,1,0,1])) (by kernel_rfl) (fun _ _=>rfl) (by kernel_rfl)
def F5.n18(W:WK)(QR QN:VK)(QE:EK)(QP:PK)(x1 x25:AV)(h:AH):Prop:=
aIf x25 (
F5.n17 W QR QN QE QP h) (
F5.n16 W QR QN QE QP x1 h)
def F5.f18:KT:=fun s h=>F5.n18 W QR QN QE QP (s.tm 1) (s.tm 25) h
theorem F5.e18:F5.cw W (F5.d [1,1,1,0,1]) (thenQ (F5.f16 W QR QN QE QP) (F5.q0 QR QN QE)) QP s h=F5.f18 W QR QN QE QP s h:=nd_cond (o:=(.tmp 25)) (a:=(F5.d [1,1,1,0,1,0])) (b:=(F5.d [1,1,1,0,1,1])) (by kernel_rfl) (F5.e17 W QR QN QE QP s h) rfl (by kernel_rfl)
def F5.n19(W:WK)(QR QN:VK)(QE:EK)(QP:PK)(x1 x22 x24:AV)(h:AH):Prop:=
pPick x22 (.sc (.bool true)) x24 fun t48=>
F5.n18 W QR QN QE QP x1 t48 h
def F5.f19:KT:=fun s h=>F5.n19 W QR QN QE QP (s.tm 1) (s.tm 22) (s.tm 24) h
theorem F5.e19:evG Try.prog 63 (fun _=>W) nobody (kP QP) (regOps (F5.d [1,1,1,0,0])) (F5.g3.drop 4) ((thenQ (F5.f18 W QR QN QE QP) (thenQ (F5.f16 W QR QN QE QP) (F5.q0 QR QN QE))) .normal) s h=F5.f19 W QR QN QE QP s h:=nd_g (is:=isAt F5.g3 4) (rest:=F5.g3.drop 5) (by kernel_rfl) (fun _ _=>rfl) (by kernel_rfl)
def F5.n20(W:WK)(QR QN:VK)(QE:EK)(QP:PK)(x1 x3 x22:AV)(h:AH):Prop:=
aIg false x22 (
pUn .not x3 fun t49=>
F5.n19 W QR QN QE QP x1 x22 t49 h) (
F5.n19 W QR QN QE QP x1 x22 noA h)
def F5.f20:KT:=fun s h=>F5.n20 W QR QN QE QP (s.tm 1) (s.tm 3) (s.tm 22) h
theorem F5.e20:evG Try.prog 63 (fun _=>W) nobody (kP QP) (regOps (F5.d [1,1,1,0,0])) (F5.g3.drop 3) ((thenQ (F5.f18 W QR QN QE QP) (thenQ (F5.f16 W QR QN QE QP) (F5.q0 QR QN QE))) .normal) s h=F5.f20 W QR QN QE QP s h:=nd_gw (want:=false) (j:=6) (is:=isAt F5.g3 3) (rest:=F5.g3.drop 4) (by kernel_rfl) (d:=22) (by kernel_rfl) (F5.e19 W QR QN QE QP) (by kernel_rfl)
def F5.n21(W:WK)(QR QN:VK)(QE:EK)(QP:PK)(x1 x3 x18 x20:AV)(h:AH):Prop:=
pPick x18 (.sc (.bool true)) x20 fun t50=>
F5.n20 W QR QN QE QP x1 x3 t50 h
def F5.f21:KT:=fun s h=>F5.n21 W QR QN QE QP (s.tm 1) (s.tm 3) (s.tm 18) (s.tm 20) h
theorem F5.e21:evG Try.prog 63 (fun _=>W) nobody (kP QP) (regOps (F5.d [1,1,1,0,0])) (F5.g3.drop 2) ((thenQ (F5.f18 W QR QN QE QP) (thenQ (F5.f16 W QR QN QE QP) (F5.q0 QR QN QE))) .normal) s h=F5.f21 W QR QN QE QP s h:=nd_g (is:=isAt F5.g3 2) (rest:=F5.g3.drop 3) (by kernel_rfl) (F5.e20 W QR QN QE QP) (by kernel_rfl)
def F5.n22(W:WK)(QR QN:VK)(QE:EK)(QP:PK)(x1 x3 x4 x18:AV)(h:AH):Prop:=
aIg false x18 (
pBin Try.prog .neq 30 true x4 (.sc (.int .i64 0)) fun t51=>
F5.n21 W QR QN QE QP x1 x3 x18 t51 h) (
F5.n21 W QR QN QE QP x1 x3 x18 noA h)
def F5.f22:KT:=fun s h=>F5.n22 W QR QN QE QP (s.tm 1) (s.tm 3) (s.tm 4) (s.tm 18) h
theorem F5.e22:evG Try.prog 63 (fun _=>W) nobody (kP QP) (regOps (F5.d [1,1,1,0,0])) (F5.g3.drop 1) ((thenQ (F5.f18 W QR QN QE QP) (thenQ (F5.f16 W QR QN QE QP) (F5.q0 QR QN QE))) .normal) s h=F5.f22 W QR QN QE QP s h:=nd_gw (want:=false) (j:=2) (is:=isAt F5.g3 1) (rest:=F5.g3.drop 2) (by kernel_rfl) (d:=18) (by kernel_rfl) (F5.e21 W QR QN QE QP) (by kernel_rfl)
def F5.n23(W:WK)(QR QN:VK)(QE:EK)(QP:PK)(x1 x3 x4:AV)(h:AH):Prop:=
lLd (some true) (some 3) x1 h fun t52 _=>
aCall Try.prog W 7 [t52] h (fun t54 h55=>
F5.n22 W QR QN QE QP x1 x3 x4 t54 h55) QP
def F5.f23:KT:=fun s h=>F5.n23 W QR QN QE QP (s.tm 1) (s.tm 3) (s.tm 4) h
theorem F5.e23:evG Try.prog 63 (fun _=>W) nobody (kP QP) (regOps (F5.d [1,1,1,0,0])) (F5.g3.drop 0) ((thenQ (F5.f18 W QR QN QE QP) (thenQ (F5.f16 W QR QN QE QP) (F5.q0 QR QN QE))) .normal) s h=F5.f23 W QR QN QE QP s h:=nd_g (is:=isAt F5.g3 0) (rest:=F5.g3.drop 1) (by kernel_rfl) (F5.e22 W QR QN QE QP) (by kernel_rfl)
theorem F5.o7:F5.cw W (F5.d [1,1,1,0,0]) (thenQ (F5.f18 W QR QN QE QP) (thenQ (F5.f16 W QR QN QE QP) (F5.q0 QR QN QE))) QP s h=F5.f23 W QR QN QE QP s h:=nd_groups (id:=4) (draw:=false) (ops:=(regOps (F5.d [1,1,1,0,0]))) (gs:=F5.g3.drop 0) (by kernel_rfl) (by kernel_rfl) (F5.e23 W QR QN QE QP s h)
theorem F5.o8:F5.cw W (F5.d [1,1,1,0]) (thenQ (F5.f16 W QR QN QE QP) (F5.q0 QR QN QE)) QP s h=F5.f23 W QR QN QE QP s h:=nd_seq (a:=(F5.d [1,1,1,0,0])) (b:=(F5.d [1,1,1,0,1])) (by kernel_rfl) (F5.e18 W QR QN QE QP) (F5.o7 W QR QN QE QP s h)
theorem F5.o9:F5.cw W (F5.d [1,1,1]) (F5.q0 QR QN QE) QP s h=F5.f23 W QR QN QE QP s h:=nd_seq (a:=(F5.d [1,1,1,0])) (b:=(F5.d [1,1,1,1])) (by kernel_rfl) (F5.e16 W QR QN QE QP) (F5.o8 W QR QN QE QP s h)
def F5.n24(W:WK)(QR QN:VK)(QE:EK)(QP:PK)(x1:AV)(h:AH):Prop:=
lLd (some true) (some 3) x1 h fun t56 _=>
aCall Try.prog W 16 [t56] h (fun t58 h59=>
pExt t58 0 fun t60=>
pExt t58 1 fun t61=>
F5.n23 W QR QN QE QP x1 t60 t61 h59) QP
def F5.f24:KT:=fun s h=>F5.n24 W QR QN QE QP (s.tm 1) h
theorem F5.e24:F5.cw W (F5.d [1,1]) (F5.q0 QR QN QE) QP s h=F5.f24 W QR QN QE QP s h:=nd_seq (a:=(F5.d [1,1,0])) (b:=(F5.d [1,1,1])) (by kernel_rfl) (F5.o9 W QR QN QE QP) (by kernel_rfl)
def F5.n25(_:WK)(QR _:VK)(_:EK)(_:PK)(h:AH):Prop:=
QR [(.sc (.bool false))] h
def F5.f25:KT:=fun _ h=>F5.n25 W QR QN QE QP h
theorem F5.e25:F5.cw W (F5.d [1,0,1,0]) (thenQ (F5.f24 W QR QN QE QP) (F5.q0 QR QN QE)) QP s h=F5.f25 W QR QN QE QP s h:=nd_seq (a:=(F5.d [1,0,1,0,0])) (b:=(F5.d [1,0,1,0,1])) (by kernel_rfl) (fun _ _=>rfl) (by kernel_rfl)
def F5.n26(W:WK)(QR QN:VK)(QE:EK)(QP:PK)(x1 x10:AV)(h:AH):Prop:=
aIf x10 (
F5.n25 W QR QN QE QP h) (
F5.n24 W QR QN QE QP x1 h)
def F5.f26:KT:=fun s h=>F5.n26 W QR QN QE QP (s.tm 1) (s.tm 10) h
theorem F5.e26:F5.cw W (F5.d [1,0,1]) (thenQ (F5.f24 W QR QN QE QP) (F5.q0 QR QN QE)) QP s h=F5.f26 W QR QN QE QP s h:=nd_cond (o:=(.tmp 10)) (a:=(F5.d [1,0,1,0])) (b:=(F5.d [1,0,1,1])) (by kernel_rfl) (F5.e25 W QR QN QE QP s h) rfl (by kernel_rfl)
def F5.n27(W:WK)(QR QN:VK)(QE:EK)(QP:PK)(x1:AV)(h:AH):Prop:=
aCall Try.prog W 6 [] h (fun t62 h63=>
pUn .not t62 fun t64=>
F5.n26 W QR QN QE QP x1 t64 h63) QP
def F5.f27:KT:=fun s h=>F5.n27 W QR QN QE QP (s.tm 1) h
theorem F5.e27:F5.cw W (F5.d [1,0]) (thenQ (F5.f24 W QR QN QE QP) (F5.q0 QR QN QE)) QP s h=F5.f27 W QR QN QE QP s h:=nd_seq (a:=(F5.d [1,0,0])) (b:=(F5.d [1,0,1])) (by kernel_rfl) (F5.e26 W QR QN QE QP) (by kernel_rfl)
theorem F5.o10:F5.cw W (F5.d [1]) (F5.q0 QR QN QE) QP s h=F5.f27 W QR QN QE QP s h:=nd_seq (a:=(F5.d [1,0])) (b:=(F5.d [1,1])) (by kernel_rfl) (F5.e24 W QR QN QE QP) (F5.e27 W QR QN QE QP s h)
def F5.n28(W:WK)(QR QN:VK)(QE:EK)(QP:PK)(x0:AV)(h:AH):Prop:=
eBox 3 24 x0 h fun t65 h66=>
F5.n27 W QR QN QE QP t65 h66
def F5.f28:KT:=fun s h=>F5.n28 W QR QN QE QP (s.tm 0) h
theorem F5.e28:F5.cw W (F5.d []) (F5.q0 QR QN QE) QP s h=F5.f28 W QR QN QE QP s h:=nd_seq (a:=(F5.d [0])) (b:=(F5.d [1])) (by kernel_rfl) (F5.o10 W QR QN QE QP) (by kernel_rfl)
end
theorem F5.callsN{x0:AV}{h:AH}{M:Nat->Prop}{R:AE->AH->Prop}(hp:F5.n28 (fun id=>M id\/h.next<=id) (retV Try.prog [.tmp 2] R) (retV Try.prog [.tmp 2] R) (fun _ _ _=>False) (fun v h=>R (.pan v) h) x0 h):ACalls Try.prog 5 [x0] h M R:=
 acalls_of (c:=F5.code) Try.mixed Try.func5 (by kernel_rfl) (Nat.le_of_ble_eq_true rfl) F5.ok (by rw[show Try.f5.ntmps=63 from rfl,show Try.f5.results.toList=[.tmp 2] from rfl];exact body_D (q:=F5.q0 (retV Try.prog [.tmp 2] R) (retV Try.prog [.tmp 2] R) (fun _ _ _=>False)) (by kernel_rfl) (fun _ _=>rfl) (fun _ _=>rfl) (fun _ _ _ h=>h) (fun _ _ _ h=>h) rfl (Eq.mpr (F5.e28 (fun id=>M id\/h.next<=id) (retV Try.prog [.tmp 2] R) (retV Try.prog [.tmp 2] R) (fun _ _ _=>False) (fun v h=>R (.pan v) h) (s0 [x0]) h) hp))
attribute [simp] F5.n1 F5.n2 F5.n3 F5.n4 F5.n5 F5.n6 F5.n7 F5.n8 F5.n9 F5.n10 F5.n11 F5.n12 F5.n13 F5.n14 F5.n15 F5.n16 F5.n17 F5.n18 F5.n19 F5.n20 F5.n21 F5.n22 F5.n23 F5.n24 F5.n25 F5.n26 F5.n27 F5.n28
section
variable (W:Nat->Prop) (QR QN:VK) (QE:Nat->VK) (QP:AV->AH->Prop) (s:St) (h:AH)
noncomputable def F16.code:Code:=Try.f16.body.getD .skip
def F16.pl:Plans:=[]
theorem F16.ok:okCode Try.prog F16.pl F16.code=true:=by kernel_rfl
noncomputable abbrev F16.d(p:List Nat):Code:=Code.at F16.code p
abbrev F16.cw(W:Nat->Prop)(c:Code)(q:Post)(QP:AV->AH->Prop):KT:=Go.Ab.aw Try.prog 8 W F16.pl c q (kP QP)
def F16.el0(_:Nat)(_:Nat->AV):List AV:=[]
def F16.q0(QR QN:VK)(QE:Nat->VK):Post:=fun x s h=>match x with |.normal=>QN [s.tm 2,s.tm 3] h |.ret=>QR [s.tm 2,s.tm 3] h |.exit j=>QE j (F16.el0 j s.tm) h |.goto _=>False
def F16.n1(W:WK)(QR _:VK)(_:EK)(QP:PK)(x1:AV)(h:AH):Prop:=
lLd (some true) (some 3) x1 h fun t1 _=>
aCall Try.prog W 25 [t1,(.fn (.func 26) [] [])] h (fun t3 h4=>
pExt t3 0 fun t5=>
pExt t3 1 fun t6=>
QR [t5,t6] h4) QP
def F16.f1:KT:=fun s h=>F16.n1 W QR QN QE QP (s.tm 1) h
theorem F16.e1:F16.cw W (F16.d [1]) (F16.q0 QR QN QE) QP s h=F16.f1 W QR QN QE QP s h:=nd_seq (a:=(F16.d [1,0])) (b:=(F16.d [1,1])) (by kernel_rfl) (fun _ _=>rfl) (by kernel_rfl)
def F16.n2(W:WK)(QR QN:VK)(QE:EK)(QP:PK)(x0:AV)(h:AH):Prop:=
eBox 3 24 x0 h fun t7 h8=>
F16.n1 W QR QN QE QP t7 h8
def F16.f2:KT:=fun s h=>F16.n2 W QR QN QE QP (s.tm 0) h
theorem F16.e2:F16.cw W (F16.d []) (F16.q0 QR QN QE) QP s h=F16.f2 W QR QN QE QP s h:=nd_seq (a:=(F16.d [0])) (b:=(F16.d [1])) (by kernel_rfl) (F16.e1 W QR QN QE QP) (by kernel_rfl)
end
theorem F16.callsN{x0:AV}{h:AH}{M:Nat->Prop}{R:AE->AH->Prop}(hp:F16.n2 (fun id=>M id\/h.next<=id) (retV Try.prog [.tmp 2,.tmp 3] R) (retV Try.prog [.tmp 2,.tmp 3] R) (fun _ _ _=>False) (fun v h=>R (.pan v) h) x0 h):ACalls Try.prog 16 [x0] h M R:=
 acalls_of (c:=F16.code) Try.mixed Try.func16 (by kernel_rfl) (Nat.le_of_ble_eq_true rfl) F16.ok (by rw[show Try.f16.ntmps=8 from rfl,show Try.f16.results.toList=[.tmp 2,.tmp 3] from rfl];exact body_D (q:=F16.q0 (retV Try.prog [.tmp 2,.tmp 3] R) (retV Try.prog [.tmp 2,.tmp 3] R) (fun _ _ _=>False)) (by kernel_rfl) (fun _ _=>rfl) (fun _ _=>rfl) (fun _ _ _ h=>h) (fun _ _ _ h=>h) rfl (Eq.mpr (F16.e2 (fun id=>M id\/h.next<=id) (retV Try.prog [.tmp 2,.tmp 3] R) (retV Try.prog [.tmp 2,.tmp 3] R) (fun _ _ _=>False) (fun v h=>R (.pan v) h) (s0 [x0]) h) hp))
attribute [simp] F16.n1 F16.n2
section
variable (W:Nat->Prop) (QR QN:VK) (QE:Nat->VK) (QP:AV->AH->Prop) (s:St) (h:AH)
noncomputable def F18.code:Code:=Try.f18.body.getD .skip
def F18.g1:Grps:=[(none,[(0,false),(1,false),(2,false),(3,false),(4,false),(5,false)]),(some (5,false),[(6,false),(7,false),(8,false),(9,false),(10,false)]),(none,[(11,false)])]
def F18.pl:Plans:=[(8,⟨F18.g1,false,[],[]⟩),(14,⟨[(none,[(0,false),(1,true),(2,false),(3,false),(4,false),(5,false),(6,false),(7,false)])],true,[],[]⟩)]
theorem F18.ok:okCode Try.prog F18.pl F18.code=true:=by kernel_rfl
noncomputable abbrev F18.d(p:List Nat):Code:=Code.at F18.code p
abbrev F18.cw(W:Nat->Prop)(c:Code)(q:Post)(QP:AV->AH->Prop):KT:=Go.Ab.aw Try.prog 80 W F18.pl c q (kP QP)
def F18.el0(_:Nat)(_:Nat->AV):List AV:=[]
def F18.q0(QR QN:VK)(QE:Nat->VK):Post:=fun x s h=>match x with |.normal=>QN [s.tm 4,s.tm 5] h |.ret=>QR [s.tm 4,s.tm 5] h |.exit j=>QE j (F18.el0 j s.tm) h |.goto _=>False
def F18.n1(W:WK)(QR _:VK)(_:EK)(_:PK)(x4 x10:AV)(h:AH):Prop:=
lLd (some true) (some 3) x10 h fun t1 _=>
eStore (some 3) x4 t1 h W fun h3=>
QR [x4,(.sc (.int .i64 0))] h3
def F18.f1:KT:=fun s h=>F18.n1 W QR QN QE QP (s.tm 4) (s.tm 10) h
theorem F18.e1:F18.cw W (F18.d [1,1,1,1,1,1]) (F18.q0 QR QN QE) QP s h=F18.f1 W QR QN QE QP s h:=nd_seq (a:=(F18.d [1,1,1,1,1,1,0])) (b:=(F18.d [1,1,1,1,1,1,1])) (by kernel_rfl) (fun _ _=>rfl) (by kernel_rfl)
def F18.n2(W:WK)(QR _:VK)(_:EK)(_:PK)(x4 x14:AV)(h:AH):Prop:=
pBld (some ([.int .i64 0,.int .i64 0,.slice none 0 0],.inl [(0,1),(1,1),(2,1)])) [] fun t4=>
eStore (some 3) x4 t4 h W fun h5=>
QR [x4,x14] h5
def F18.f2:KT:=fun s h=>F18.n2 W QR QN QE QP (s.tm 4) (s.tm 14) h
theorem F18.e2:F18.cw W (F18.d [1,1,1,1,1,0,1,1,0]) (thenQ (F18.f1 W QR QN QE QP) (F18.q0 QR QN QE)) QP s h=F18.f2 W QR QN QE QP s h:=nd_seq (a:=(F18.d [1,1,1,1,1,0,1,1,0,0])) (b:=(F18.d [1,1,1,1,1,0,1,1,0,1])) (by kernel_rfl) (fun _ _=>rfl) (by kernel_rfl)
def F18.n3(W:WK)(QR QN:VK)(QE:EK)(QP:PK)(x4 x10 x14 x76:AV)(h:AH):Prop:=
aIf x76 (
F18.n2 W QR QN QE QP x4 x14 h) (
F18.n1 W QR QN QE QP x4 x10 h)
def F18.f3:KT:=fun s h=>F18.n3 W QR QN QE QP (s.tm 4) (s.tm 10) (s.tm 14) (s.tm 76) h
theorem F18.e3:F18.cw W (F18.d [1,1,1,1,1,0,1,1]) (thenQ (F18.f1 W QR QN QE QP) (F18.q0 QR QN QE)) QP s h=F18.f3 W QR QN QE QP s h:=nd_cond (o:=(.tmp 76)) (a:=(F18.d [1,1,1,1,1,0,1,1,0])) (b:=(F18.d [1,1,1,1,1,0,1,1,1])) (by kernel_rfl) (F18.e2 W QR QN QE QP s h) rfl (by kernel_rfl)
def F18.n4(W:WK)(QR QN:VK)(QE:EK)(QP:PK)(x4 x10 x14:AV)(h:AH):Prop:=
pBin Try.prog .neq 30 true x14 (.sc (.int .i64 0)) fun t6=>
F18.n3 W QR QN QE QP x4 x10 x14 t6 h
def F18.f4:KT:=fun s h=>F18.n4 W QR QN QE QP (s.tm 4) (s.tm 10) (s.tm 14) h
theorem F18.e4:F18.cw W (F18.d [1,1,1,1,1,0,1]) (thenQ (F18.f1 W QR QN QE QP) (F18.q0 QR QN QE)) QP s h=F18.f4 W QR QN QE QP s h:=nd_seq (a:=(F18.d [1,1,1,1,1,0,1,0])) (b:=(F18.d [1,1,1,1,1,0,1,1])) (by kernel_rfl) (F18.e3 W QR QN QE QP) (by kernel_rfl)
def F18.n5(W:WK)(QR QN:VK)(QE:EK)(QP:PK)(x4 x10:AV)(h:AH):Prop:=
lLd (some true) (some 3) x10 h fun t7 _=>
aCall Try.prog W 22 [t7] h (fun t9 h10=>
pExt t9 0 fun t11=>
pExt t9 1 fun t12=>
F18.n4 W QR QN QE QP x4 x10 t12 h10) QP
def F18.f5:KT:=fun s h=>F18.n5 W QR QN QE QP (s.tm 4) (s.tm 10) h
theorem F18.e5:F18.cw W (F18.d [1,1,1,1,1,0]) (thenQ (F18.f1 W QR QN QE QP) (F18.q0 QR QN QE)) QP s h=F18.f5 W QR QN QE QP s h:=nd_seq (a:=(F18.d [1,1,1,1,1,0,0])) (b:=(F18.d [1,1,1,1,1,0,1])) (by kernel_rfl) (F18.e4 W QR QN QE QP) (by kernel_rfl)
theorem F18.o1:F18.cw W (F18.d [1,1,1,1,1]) (F18.q0 QR QN QE) QP s h=F18.f5 W QR QN QE QP s h:=nd_seq (a:=(F18.d [1,1,1,1,1,0])) (b:=(F18.d [1,1,1,1,1,1])) (by kernel_rfl) (F18.e1 W QR QN QE QP) (F18.e5 W QR QN QE QP s h)
def F18.el1(j:Nat)(tm:Nat->AV):List AV:=if j=2 then[tm 4,tm 10] else[]
def F18.q1(QR QN:VK)(QE:Nat->VK):Post:=fun x s h=>match x with |.normal=>QN [s.tm 4,s.tm 10,s.tm 56,s.tm 57,s.tm 58] h |.ret=>QR [s.tm 4,s.tm 5] h |.exit j=>QE j (F18.el1 j s.tm) h |.goto _=>False
def F18.n6(_:WK)(_ QN:VK)(_:EK)(_:PK)(x4 x10 x56 x57 x58:AV)(h:AH):Prop:=
pBin Try.prog .add 3 true x58 (.sc (.int .i64 1)) fun t13=>
QN [x4,x10,x56,x57,t13] h
def F18.f6:KT:=fun s h=>F18.n6 W QR QN QE QP (s.tm 4) (s.tm 10) (s.tm 56) (s.tm 57) (s.tm 58) h
theorem F18.e6:F18.cw W (F18.d [1,1,1,1,0,1,0,0,1,1,1]) (F18.q1 QR QN QE) QP s h=F18.f6 W QR QN QE QP s h:=by kernel_rfl
def F18.n7(W:WK)(QR QN:VK)(QE:EK)(QP:PK)(x4 x10 x12 x56 x57 x58:AV)(h:AH):Prop:=
∃Hd:Nat->Nat,(∀i∈[1],h.obj (Hd i)≠none)/\(
pFld (some 2) x10 fun t14=>
lLd (some false) (some 1) t14 h fun t15 i16=>
(i16=Hd 1)/\(
lLd (some true) (some 7) x12 h fun t17 _=>
aCall Try.prog (banL W Hd [1]) 29 [t17] h (fun t19 h20=>
eBSl (some (7,45,[.int .i64 0,.string ⟨#[]⟩,.slice none 0 0,.int .i64 0,.bool false,.int .u64 0,.int .u64 0])) 1 [(0,t19)] h20 fun t21 h22=>
eApp (some (7,80,45)) t15 t21 h22 W fun t23 h24=>
pFld (some 2) x10 fun t25=>
eStore (some 1) t25 t23 h24 W fun h26=>
F18.n6 W QR QN QE QP x4 x10 x56 x57 x58 h26) QP))
def F18.f7:KT:=fun s h=>F18.n7 W QR QN QE QP (s.tm 4) (s.tm 10) (s.tm 12) (s.tm 56) (s.tm 57) (s.tm 58) h
theorem F18.e7:F18.cw W (F18.d [1,1,1,1,0,1,0,0,1,1,0,0,1]) (blockQ 3 (thenQ (F18.f6 W QR QN QE QP) (F18.q1 QR QN QE))) QP s h=F18.f7 W QR QN QE QP s h:=by kernel_rfl
def F18.n8(W:WK)(QR QN:VK)(QE:EK)(QP:PK)(x4 x10 x56 x57 x58:AV)(h:AH):Prop:=
pIxA (some (7,none)) x56 x58 fun t27=>
lLd (some true) (some 7) t27 h fun t28 _=>
eAlloc (some [.int .i64 0,.string ⟨#[]⟩,.slice none 0 0,.int .i64 0,.bool false,.int .u64 0,.int .u64 0]) 7 45 h fun t30 h31=>
eStore (some 7) t30 t28 h31 W fun h32=>
F18.n7 W QR QN QE QP x4 x10 t30 x56 x57 x58 h32
def F18.f8:KT:=fun s h=>F18.n8 W QR QN QE QP (s.tm 4) (s.tm 10) (s.tm 56) (s.tm 57) (s.tm 58) h
theorem F18.e8:F18.cw W (F18.d [1,1,1,1,0,1,0,0,1,1,0,0]) (blockQ 3 (thenQ (F18.f6 W QR QN QE QP) (F18.q1 QR QN QE))) QP s h=F18.f8 W QR QN QE QP s h:=nd_seq (a:=(F18.d [1,1,1,1,0,1,0,0,1,1,0,0,0])) (b:=(F18.d [1,1,1,1,0,1,0,0,1,1,0,0,1])) (by kernel_rfl) (F18.e7 W QR QN QE QP) (by kernel_rfl)
theorem F18.o2:F18.cw W (F18.d [1,1,1,1,0,1,0,0,1,1,0]) (thenQ (F18.f6 W QR QN QE QP) (F18.q1 QR QN QE)) QP s h=F18.f8 W QR QN QE QP s h:=nd_block (a:=(F18.d [1,1,1,1,0,1,0,0,1,1,0,0])) (by kernel_rfl) (F18.e8 W QR QN QE QP s h)
theorem F18.o3:F18.cw W (F18.d [1,1,1,1,0,1,0,0,1,1]) (F18.q1 QR QN QE) QP s h=F18.f8 W QR QN QE QP s h:=nd_seq (a:=(F18.d [1,1,1,1,0,1,0,0,1,1,0])) (b:=(F18.d [1,1,1,1,0,1,0,0,1,1,1])) (by kernel_rfl) (F18.e6 W QR QN QE QP) (F18.o2 W QR QN QE QP s h)
def F18.n9(W:WK)(QR QN:VK)(QE:EK)(QP:PK)(x4 x10 x56 x57 x58 x59:AV)(h:AH):Prop:=
aIf x59 (
F18.n8 W QR QN QE QP x4 x10 x56 x57 x58 h) (
QE 2 [x4,x10] h)
def F18.f9:KT:=fun s h=>F18.n9 W QR QN QE QP (s.tm 4) (s.tm 10) (s.tm 56) (s.tm 57) (s.tm 58) (s.tm 59) h
theorem F18.e9:F18.cw W (F18.d [1,1,1,1,0,1,0,0,1,0]) (thenQ (F18.f8 W QR QN QE QP) (F18.q1 QR QN QE)) QP s h=F18.f9 W QR QN QE QP s h:=nd_cond (o:=(.tmp 59)) (a:=(F18.d [1,1,1,1,0,1,0,0,1,0,0])) (b:=(F18.d [1,1,1,1,0,1,0,0,1,0,1])) (by kernel_rfl) rfl rfl (by kernel_rfl)
theorem F18.o4:F18.cw W (F18.d [1,1,1,1,0,1,0,0,1]) (F18.q1 QR QN QE) QP s h=F18.f9 W QR QN QE QP s h:=nd_seq (a:=(F18.d [1,1,1,1,0,1,0,0,1,0])) (b:=(F18.d [1,1,1,1,0,1,0,0,1,1])) (by kernel_rfl) (F18.o3 W QR QN QE QP) (F18.e9 W QR QN QE QP s h)
def F18.n10(W:WK)(QR QN:VK)(QE:EK)(QP:PK)(x4 x10 x56 x57 x58:AV)(h:AH):Prop:=
pBin Try.prog .lss 3 false x58 x57 fun t33=>
F18.n9 W QR QN QE QP x4 x10 x56 x57 x58 t33 h
def F18.f10:KT:=fun s h=>F18.n10 W QR QN QE QP (s.tm 4) (s.tm 10) (s.tm 56) (s.tm 57) (s.tm 58) h
theorem F18.e10:F18.cw W (F18.d [1,1,1,1,0,1,0,0]) (F18.q1 QR QN QE) QP s h=F18.f10 W QR QN QE QP s h:=nd_seq (a:=(F18.d [1,1,1,1,0,1,0,0,0])) (b:=(F18.d [1,1,1,1,0,1,0,0,1])) (by kernel_rfl) (F18.o4 W QR QN QE QP) (by kernel_rfl)
noncomputable def F18.c1:Code:=(F18.d [1,1,1,1,0,1,0,0])
theorem F18.l1:aw Try.prog 80 W F18.pl F18.c1 (F18.q1 QR QN QE) (kP QP) s h=F18.f10 W QR QN QE QP s h:=F18.e10 W QR QN QE QP s h
def F18.g1_(W:WK)(QR QN:VK)(QE:EK)(QP:PK):VK->VK:=fun QN' vs h=>F18.n10 W QR QN' (fun(i:Nat) (vs:List AV) (h:AH)=>if i=2 then F18.n5 W QR QN QE QP (vs.getD 0 noA) (vs.getD 1 noA) h else QE i vs h) QP (vs.getD 0 noA) (vs.getD 1 noA) (vs.getD 2 noA) (vs.getD 3 noA) (vs.getD 4 noA) h
theorem F18.p1{Kn:VK}{KQ:KT}(hK:∀s h,KQ s h=Kn [s.tm 4,s.tm 10,s.tm 56,s.tm 57,s.tm 58] h):thenQ KQ (blockQ 2 (thenQ (F18.f5 W QR QN QE QP) (F18.q0 QR QN QE)))=F18.q1 QR Kn (fun(i:Nat) (vs:List AV) (h:AH)=>if i=2 then F18.n5 W QR QN QE QP (vs.getD 0 noA) (vs.getD 1 noA) h else QE i vs h):=by
 funext x s h
 cases x with
 |normal=>exact hK s h
 |ret=>kernel_rfl
 |goto l=>kernel_rfl
 |exit j=>
  by_cases h0:j=2
  ·subst h0;kernel_rfl
  simp only[thenQ,blockQ,noGotoQ,zW h0,F18.q1,F18.el1,F18.q0,F18.el0]
def F18.n11(W:WK)(QR QN:VK)(QE:EK)(QP:PK)(x4 x10 x56 x57 x58:AV)(h:AH):Prop:=
vLoop (F18.g1_ W QR QN QE QP) [x4,x10,x56,x57,x58] h
def F18.f11:KT:=fun s h=>F18.n11 W QR QN QE QP (s.tm 4) (s.tm 10) (s.tm 56) (s.tm 57) (s.tm 58) h
theorem F18.e11:F18.cw W (F18.d [1,1,1,1,0,1,0]) (blockQ 2 (thenQ (F18.f5 W QR QN QE QP) (F18.q0 QR QN QE))) QP s h=F18.f11 W QR QN QE QP s h:=(nd_loop (a:=F18.c1) (by kernel_rfl)).trans (vloopD (L:=fun tm=>[tm 4,tm 10,tm 56,tm 57,tm 58]) (G:=F18.g1_ W QR QN QE QP) (fun Kn KQ hK s h=>(congrArg (fun q=>aw Try.prog 80 W F18.pl F18.c1 q (kP QP) s h) (F18.p1 W QR QN QE QP hK)).trans (F18.l1 W QR Kn (fun(i:Nat) (vs:List AV) (h:AH)=>if i=2 then F18.n5 W QR QN QE QP (vs.getD 0 noA) (vs.getD 1 noA) h else QE i vs h) QP s h)) s h)
theorem F18.o5:F18.cw W (F18.d [1,1,1,1,0,1]) (thenQ (F18.f5 W QR QN QE QP) (F18.q0 QR QN QE)) QP s h=F18.f11 W QR QN QE QP s h:=nd_block (a:=(F18.d [1,1,1,1,0,1,0])) (by kernel_rfl) (F18.e11 W QR QN QE QP s h)
def F18.n12(W:WK)(QR QN:VK)(QE:EK)(QP:PK)(x2 x3 x4 x10:AV)(h:AH):Prop:=
pFld (some 2) x2 fun t34=>
lLd (some false) (some 1) t34 h fun t35 _=>
pFld (some 2) x3 fun t37=>
lLd (some false) (some 1) t37 h fun t38 _=>
eBSl (some (1,22,[.slice none 0 0,.slice none 0 0])) 2 [(0,t35),(1,t38)] h fun t40 h41=>
aCall Try.prog W 31 [t40] h41 (fun t42 h43=>
(strArg t42=false)/\pLen t42 fun t44=>
F18.n11 W QR QN QE QP x4 x10 t42 t44 (.sc (.int .i64 0)) h43) QP
def F18.f12:KT:=fun s h=>F18.n12 W QR QN QE QP (s.tm 2) (s.tm 3) (s.tm 4) (s.tm 10) h
theorem F18.e12:F18.cw W (F18.d [1,1,1,1,0]) (thenQ (F18.f5 W QR QN QE QP) (F18.q0 QR QN QE)) QP s h=F18.f12 W QR QN QE QP s h:=nd_seq (a:=(F18.d [1,1,1,1,0,0])) (b:=(F18.d [1,1,1,1,0,1])) (by kernel_rfl) (F18.o5 W QR QN QE QP) (by kernel_rfl)
theorem F18.o6:F18.cw W (F18.d [1,1,1,1]) (F18.q0 QR QN QE) QP s h=F18.f12 W QR QN QE QP s h:=nd_seq (a:=(F18.d [1,1,1,1,0])) (b:=(F18.d [1,1,1,1,1])) (by kernel_rfl) (F18.o1 W QR QN QE QP) (F18.e12 W QR QN QE QP s h)
def F18.n13(W:WK)(QR QN:VK)(QE:EK)(QP:PK)(x2 x3 x4:AV)(h:AH):Prop:=
pFld (some 0) x2 fun t45=>
lLd (some false) (some 1) t45 h fun t46 _=>
pFld (some 1) x2 fun t48=>
lLd (some false) (some 1) t48 h fun t49 _=>
pBld (some ([.int .i64 0,.int .i64 0,.slice none 0 0],.inl [(0,1),(1,1),(2,1)])) [(0,t46),(1,t49)] fun t51=>
eAlloc (some [.int .i64 0,.int .i64 0,.slice none 0 0]) 3 24 h fun t52 h53=>
eStore (some 3) t52 t51 h53 W fun h54=>
F18.n12 W QR QN QE QP x2 x3 x4 t52 h54
def F18.f13:KT:=fun s h=>F18.n13 W QR QN QE QP (s.tm 2) (s.tm 3) (s.tm 4) h
theorem F18.e13:F18.cw W (F18.d [1,1,1]) (F18.q0 QR QN QE) QP s h=F18.f13 W QR QN QE QP s h:=nd_seq (a:=(F18.d [1,1,1,0])) (b:=(F18.d [1,1,1,1])) (by kernel_rfl) (F18.o6 W QR QN QE QP) (by kernel_rfl)
def F18.n14(W:WK)(QR _:VK)(_:EK)(_:PK)(x4:AV)(h:AH):Prop:=
pBld (some ([.int .i64 0,.int .i64 0,.slice none 0 0],.inl [(0,1),(1,1),(2,1)])) [] fun t55=>
eStore (some 3) x4 t55 h W fun h56=>
QR [x4,(.sc (.int .i64 2))] h56
def F18.f14:KT:=fun s h=>F18.n14 W QR QN QE QP (s.tm 4) h
theorem F18.e14:F18.cw W (F18.d [1,1,0,1,0]) (thenQ (F18.f13 W QR QN QE QP) (F18.q0 QR QN QE)) QP s h=F18.f14 W QR QN QE QP s h:=nd_seq (a:=(F18.d [1,1,0,1,0,0])) (b:=(F18.d [1,1,0,1,0,1])) (by kernel_rfl) (fun _ _=>rfl) (by kernel_rfl)
def F18.n15(W:WK)(QR QN:VK)(QE:EK)(QP:PK)(x2 x3 x4 x44:AV)(h:AH):Prop:=
aIf x44 (
F18.n14 W QR QN QE QP x4 h) (
F18.n13 W QR QN QE QP x2 x3 x4 h)
def F18.f15:KT:=fun s h=>F18.n15 W QR QN QE QP (s.tm 2) (s.tm 3) (s.tm 4) (s.tm 44) h
theorem F18.e15:F18.cw W (F18.d [1,1,0,1]) (thenQ (F18.f13 W QR QN QE QP) (F18.q0 QR QN QE)) QP s h=F18.f15 W QR QN QE QP s h:=nd_cond (o:=(.tmp 44)) (a:=(F18.d [1,1,0,1,0])) (b:=(F18.d [1,1,0,1,1])) (by kernel_rfl) (F18.e14 W QR QN QE QP s h) rfl (by kernel_rfl)
def F18.n16(W:WK)(QR QN:VK)(QE:EK)(QP:PK)(x2 x3 x4 x38 x43:AV)(h:AH):Prop:=
pPick x38 (.sc (.bool true)) x43 fun t57=>
F18.n15 W QR QN QE QP x2 x3 x4 t57 h
def F18.f16:KT:=fun s h=>F18.n16 W QR QN QE QP (s.tm 2) (s.tm 3) (s.tm 4) (s.tm 38) (s.tm 43) h
theorem F18.e16:evG Try.prog 80 (fun _=>W) nobody (kP QP) (regOps (F18.d [1,1,0,0])) (F18.g1.drop 2) ((thenQ (F18.f15 W QR QN QE QP) (thenQ (F18.f13 W QR QN QE QP) (F18.q0 QR QN QE))) .normal) s h=F18.f16 W QR QN QE QP s h:=nd_g (is:=isAt F18.g1 2) (rest:=F18.g1.drop 3) (by kernel_rfl) (fun _ _=>rfl) (by kernel_rfl)
def F18.n17(W:WK)(QR QN:VK)(QE:EK)(QP:PK)(x2 x3 x4 x38:AV)(h:AH):Prop:=
aIg false x38 (
pFld (some 1) x2 fun t58=>
lLd (some false) (some 1) t58 h fun t59 _=>
pFld (some 1) x3 fun t61=>
lLd (some false) (some 1) t61 h fun t62 _=>
pBin Try.prog .neq 3 false t59 t62 fun t64=>
F18.n16 W QR QN QE QP x2 x3 x4 x38 t64 h) (
F18.n16 W QR QN QE QP x2 x3 x4 x38 noA h)
def F18.f17:KT:=fun s h=>F18.n17 W QR QN QE QP (s.tm 2) (s.tm 3) (s.tm 4) (s.tm 38) h
theorem F18.e17:evG Try.prog 80 (fun _=>W) nobody (kP QP) (regOps (F18.d [1,1,0,0])) (F18.g1.drop 1) ((thenQ (F18.f15 W QR QN QE QP) (thenQ (F18.f13 W QR QN QE QP) (F18.q0 QR QN QE))) .normal) s h=F18.f17 W QR QN QE QP s h:=nd_gw (want:=false) (j:=5) (is:=isAt F18.g1 1) (rest:=F18.g1.drop 2) (by kernel_rfl) (d:=38) (by kernel_rfl) (F18.e16 W QR QN QE QP) (by kernel_rfl)
def F18.n18(W:WK)(QR QN:VK)(QE:EK)(QP:PK)(x2 x3 x4:AV)(h:AH):Prop:=
pFld (some 0) x2 fun t65=>
lLd (some false) (some 1) t65 h fun t66 _=>
pFld (some 0) x3 fun t68=>
lLd (some false) (some 1) t68 h fun t69 _=>
pBin Try.prog .neq 3 false t66 t69 fun t71=>
F18.n17 W QR QN QE QP x2 x3 x4 t71 h
def F18.f18:KT:=fun s h=>F18.n18 W QR QN QE QP (s.tm 2) (s.tm 3) (s.tm 4) h
theorem F18.e18:evG Try.prog 80 (fun _=>W) nobody (kP QP) (regOps (F18.d [1,1,0,0])) (F18.g1.drop 0) ((thenQ (F18.f15 W QR QN QE QP) (thenQ (F18.f13 W QR QN QE QP) (F18.q0 QR QN QE))) .normal) s h=F18.f18 W QR QN QE QP s h:=nd_g (is:=isAt F18.g1 0) (rest:=F18.g1.drop 1) (by kernel_rfl) (F18.e17 W QR QN QE QP) (by kernel_rfl)
theorem F18.o7:F18.cw W (F18.d [1,1,0,0]) (thenQ (F18.f15 W QR QN QE QP) (thenQ (F18.f13 W QR QN QE QP) (F18.q0 QR QN QE))) QP s h=F18.f18 W QR QN QE QP s h:=nd_groups (id:=8) (draw:=false) (ops:=(regOps (F18.d [1,1,0,0]))) (gs:=F18.g1.drop 0) (by kernel_rfl) (by kernel_rfl) (F18.e18 W QR QN QE QP s h)
theorem F18.o8:F18.cw W (F18.d [1,1,0]) (thenQ (F18.f13 W QR QN QE QP) (F18.q0 QR QN QE)) QP s h=F18.f18 W QR QN QE QP s h:=nd_seq (a:=(F18.d [1,1,0,0])) (b:=(F18.d [1,1,0,1])) (by kernel_rfl) (F18.e15 W QR QN QE QP) (F18.o7 W QR QN QE QP s h)
theorem F18.o9:F18.cw W (F18.d [1,1]) (F18.q0 QR QN QE) QP s h=F18.f18 W QR QN QE QP s h:=nd_seq (a:=(F18.d [1,1,0])) (b:=(F18.d [1,1,1])) (by kernel_rfl) (F18.e13 W QR QN QE QP) (F18.o8 W QR QN QE QP s h)
def F18.el2(j:Nat)(tm:Nat->AV):List AV:=if j=0 then[tm 2,tm 3,tm 4] else[]
def F18.q2(QR QN:VK)(QE:Nat->VK):Post:=fun x s h=>match x with |.normal=>QN [s.tm 2,s.tm 3,s.tm 4,s.tm 17,s.tm 18,s.tm 19] h |.ret=>QR [s.tm 4,s.tm 5] h |.exit j=>QE j (F18.el2 j s.tm) h |.goto _=>False
def F18.n19(_:WK)(_ QN:VK)(_:EK)(_:PK)(x2 x3 x4 x17 x18 x19:AV)(h:AH):Prop:=
pBin Try.prog .add 3 true x19 (.sc (.int .i64 1)) fun t72=>
QN [x2,x3,x4,x17,x18,t72] h
def F18.f19:KT:=fun s h=>F18.n19 W QR QN QE QP (s.tm 2) (s.tm 3) (s.tm 4) (s.tm 17) (s.tm 18) (s.tm 19) h
theorem F18.e19:F18.cw W (F18.d [1,0,1,0,0,1,1,1]) (F18.q2 QR QN QE) QP s h=F18.f19 W QR QN QE QP s h:=by kernel_rfl
def F18.n20(W:WK)(QR _:VK)(_:EK)(_:PK)(x4 x9:AV)(h:AH):Prop:=
pBld (some ([.int .i64 0,.int .i64 0,.slice none 0 0],.inl [(0,1),(1,1),(2,1)])) [] fun t73=>
eStore (some 3) x4 t73 h W fun h74=>
QR [x4,x9] h74
def F18.f20:KT:=fun s h=>F18.n20 W QR QN QE QP (s.tm 4) (s.tm 9) h
theorem F18.e20:F18.cw W (F18.d [1,0,1,0,0,1,1,0,0,1,1,1,0]) (blockQ 1 (thenQ (F18.f19 W QR QN QE QP) (F18.q2 QR QN QE))) QP s h=F18.f20 W QR QN QE QP s h:=nd_seq (a:=(F18.d [1,0,1,0,0,1,1,0,0,1,1,1,0,0])) (b:=(F18.d [1,0,1,0,0,1,1,0,0,1,1,1,0,1])) (by kernel_rfl) (fun _ _=>rfl) (by kernel_rfl)
def F18.n21(W:WK)(QR QN:VK)(QE:EK)(QP:PK)(x2 x3 x4 x9 x17 x18 x19 x29:AV)(h:AH):Prop:=
aIf x29 (
F18.n20 W QR QN QE QP x4 x9 h) (
F18.n19 W QR QN QE QP x2 x3 x4 x17 x18 x19 h)
def F18.f21:KT:=fun s h=>F18.n21 W QR QN QE QP (s.tm 2) (s.tm 3) (s.tm 4) (s.tm 9) (s.tm 17) (s.tm 18) (s.tm 19) (s.tm 29) h
theorem F18.e21:F18.cw W (F18.d [1,0,1,0,0,1,1,0,0,1,1,1]) (blockQ 1 (thenQ (F18.f19 W QR QN QE QP) (F18.q2 QR QN QE))) QP s h=F18.f21 W QR QN QE QP s h:=nd_cond (o:=(.tmp 29)) (a:=(F18.d [1,0,1,0,0,1,1,0,0,1,1,1,0])) (b:=(F18.d [1,0,1,0,0,1,1,0,0,1,1,1,1])) (by kernel_rfl) (F18.e20 W QR QN QE QP s h) rfl (by kernel_rfl)
def F18.n22(W:WK)(QR QN:VK)(QE:EK)(QP:PK)(x2 x3 x4 x9 x17 x18 x19:AV)(h:AH):Prop:=
pBin Try.prog .neq 30 true x9 (.sc (.int .i64 0)) fun t75=>
F18.n21 W QR QN QE QP x2 x3 x4 x9 x17 x18 x19 t75 h
def F18.f22:KT:=fun s h=>F18.n22 W QR QN QE QP (s.tm 2) (s.tm 3) (s.tm 4) (s.tm 9) (s.tm 17) (s.tm 18) (s.tm 19) h
theorem F18.e22:F18.cw W (F18.d [1,0,1,0,0,1,1,0,0,1,1]) (blockQ 1 (thenQ (F18.f19 W QR QN QE QP) (F18.q2 QR QN QE))) QP s h=F18.f22 W QR QN QE QP s h:=nd_seq (a:=(F18.d [1,0,1,0,0,1,1,0,0,1,1,0])) (b:=(F18.d [1,0,1,0,0,1,1,0,0,1,1,1])) (by kernel_rfl) (F18.e21 W QR QN QE QP) (by kernel_rfl)
def F18.n23(W:WK)(QR QN:VK)(QE:EK)(QP:PK)(x2 x3 x4 x7 x17 x18 x19:AV)(h:AH):Prop:=
lLd (some true) (some 3) x7 h fun t76 _=>
aCall Try.prog W 22 [t76] h (fun t78 h79=>
pExt t78 0 fun t80=>
pExt t78 1 fun t81=>
F18.n22 W QR QN QE QP x2 x3 x4 t81 x17 x18 x19 h79) QP
def F18.f23:KT:=fun s h=>F18.n23 W QR QN QE QP (s.tm 2) (s.tm 3) (s.tm 4) (s.tm 7) (s.tm 17) (s.tm 18) (s.tm 19) h
theorem F18.e23:F18.cw W (F18.d [1,0,1,0,0,1,1,0,0,1]) (blockQ 1 (thenQ (F18.f19 W QR QN QE QP) (F18.q2 QR QN QE))) QP s h=F18.f23 W QR QN QE QP s h:=nd_seq (a:=(F18.d [1,0,1,0,0,1,1,0,0,1,0])) (b:=(F18.d [1,0,1,0,0,1,1,0,0,1,1])) (by kernel_rfl) (F18.e22 W QR QN QE QP) (by kernel_rfl)
def F18.n24(W:WK)(QR QN:VK)(QE:EK)(QP:PK)(x2 x3 x4 x17 x18 x19:AV)(h:AH):Prop:=
pIxA (some (3,none)) x17 x19 fun t82=>
lLd (some true) (some 3) t82 h fun t83 _=>
eAlloc (some [.int .i64 0,.int .i64 0,.slice none 0 0]) 3 24 h fun t85 h86=>
eStore (some 3) t85 t83 h86 W fun h87=>
F18.n23 W QR QN QE QP x2 x3 x4 t85 x17 x18 x19 h87
def F18.f24:KT:=fun s h=>F18.n24 W QR QN QE QP (s.tm 2) (s.tm 3) (s.tm 4) (s.tm 17) (s.tm 18) (s.tm 19) h
theorem F18.e24:F18.cw W (F18.d [1,0,1,0,0,1,1,0,0]) (blockQ 1 (thenQ (F18.f19 W QR QN QE QP) (F18.q2 QR QN QE))) QP s h=F18.f24 W QR QN QE QP s h:=nd_seq (a:=(F18.d [1,0,1,0,0,1,1,0,0,0])) (b:=(F18.d [1,0,1,0,0,1,1,0,0,1])) (by kernel_rfl) (F18.e23 W QR QN QE QP) (by kernel_rfl)
theorem F18.o10:F18.cw W (F18.d [1,0,1,0,0,1,1,0]) (thenQ (F18.f19 W QR QN QE QP) (F18.q2 QR QN QE)) QP s h=F18.f24 W QR QN QE QP s h:=nd_block (a:=(F18.d [1,0,1,0,0,1,1,0,0])) (by kernel_rfl) (F18.e24 W QR QN QE QP s h)
theorem F18.o11:F18.cw W (F18.d [1,0,1,0,0,1,1]) (F18.q2 QR QN QE) QP s h=F18.f24 W QR QN QE QP s h:=nd_seq (a:=(F18.d [1,0,1,0,0,1,1,0])) (b:=(F18.d [1,0,1,0,0,1,1,1])) (by kernel_rfl) (F18.e19 W QR QN QE QP) (F18.o10 W QR QN QE QP s h)
def F18.n25(W:WK)(QR QN:VK)(QE:EK)(QP:PK)(x2 x3 x4 x17 x18 x19 x20:AV)(h:AH):Prop:=
aIf x20 (
F18.n24 W QR QN QE QP x2 x3 x4 x17 x18 x19 h) (
QE 0 [x2,x3,x4] h)
def F18.f25:KT:=fun s h=>F18.n25 W QR QN QE QP (s.tm 2) (s.tm 3) (s.tm 4) (s.tm 17) (s.tm 18) (s.tm 19) (s.tm 20) h
theorem F18.e25:F18.cw W (F18.d [1,0,1,0,0,1,0]) (thenQ (F18.f24 W QR QN QE QP) (F18.q2 QR QN QE)) QP s h=F18.f25 W QR QN QE QP s h:=nd_cond (o:=(.tmp 20)) (a:=(F18.d [1,0,1,0,0,1,0,0])) (b:=(F18.d [1,0,1,0,0,1,0,1])) (by kernel_rfl) rfl rfl (by kernel_rfl)
theorem F18.o12:F18.cw W (F18.d [1,0,1,0,0,1]) (F18.q2 QR QN QE) QP s h=F18.f25 W QR QN QE QP s h:=nd_seq (a:=(F18.d [1,0,1,0,0,1,0])) (b:=(F18.d [1,0,1,0,0,1,1])) (by kernel_rfl) (F18.o11 W QR QN QE QP) (F18.e25 W QR QN QE QP s h)
def F18.n26(W:WK)(QR QN:VK)(QE:EK)(QP:PK)(x2 x3 x4 x17 x18 x19:AV)(h:AH):Prop:=
pBin Try.prog .lss 3 false x19 x18 fun t88=>
F18.n25 W QR QN QE QP x2 x3 x4 x17 x18 x19 t88 h
def F18.f26:KT:=fun s h=>F18.n26 W QR QN QE QP (s.tm 2) (s.tm 3) (s.tm 4) (s.tm 17) (s.tm 18) (s.tm 19) h
theorem F18.e26:F18.cw W (F18.d [1,0,1,0,0]) (F18.q2 QR QN QE) QP s h=F18.f26 W QR QN QE QP s h:=nd_seq (a:=(F18.d [1,0,1,0,0,0])) (b:=(F18.d [1,0,1,0,0,1])) (by kernel_rfl) (F18.o12 W QR QN QE QP) (by kernel_rfl)
noncomputable def F18.c2:Code:=(F18.d [1,0,1,0,0])
theorem F18.l2:aw Try.prog 80 W F18.pl F18.c2 (F18.q2 QR QN QE) (kP QP) s h=F18.f26 W QR QN QE QP s h:=F18.e26 W QR QN QE QP s h
def F18.g2_(W:WK)(QR QN:VK)(QE:EK)(QP:PK):VK->VK:=fun QN' vs h=>F18.n26 W QR QN' (fun(i:Nat) (vs:List AV) (h:AH)=>if i=0 then F18.n18 W QR QN QE QP (vs.getD 0 noA) (vs.getD 1 noA) (vs.getD 2 noA) h else QE i vs h) QP (vs.getD 0 noA) (vs.getD 1 noA) (vs.getD 2 noA) (vs.getD 3 noA) (vs.getD 4 noA) (vs.getD 5 noA) h
theorem F18.p2{Kn:VK}{KQ:KT}(hK:∀s h,KQ s h=Kn [s.tm 2,s.tm 3,s.tm 4,s.tm 17,s.tm 18,s.tm 19] h):thenQ KQ (blockQ 0 (thenQ (F18.f18 W QR QN QE QP) (F18.q0 QR QN QE)))=F18.q2 QR Kn (fun(i:Nat) (vs:List AV) (h:AH)=>if i=0 then F18.n18 W QR QN QE QP (vs.getD 0 noA) (vs.getD 1 noA) (vs.getD 2 noA) h else QE i vs h):=by
 funext x s h
 cases x with
 |normal=>exact hK s h
 |ret=>kernel_rfl
 |goto l=>kernel_rfl
 |exit j=>
  by_cases h0:j=0
  ·subst h0;kernel_rfl
  simp only[thenQ,blockQ,noGotoQ,zW h0,F18.q2,F18.el2,F18.q0,F18.el0]
def F18.n27(W:WK)(QR QN:VK)(QE:EK)(QP:PK)(x2 x3 x4 x17 x18 x19:AV)(h:AH):Prop:=
vLoop (F18.g2_ W QR QN QE QP) [x2,x3,x4,x17,x18,x19] h
def F18.f27:KT:=fun s h=>F18.n27 W QR QN QE QP (s.tm 2) (s.tm 3) (s.tm 4) (s.tm 17) (s.tm 18) (s.tm 19) h
theorem F18.e27:F18.cw W (F18.d [1,0,1,0]) (blockQ 0 (thenQ (F18.f18 W QR QN QE QP) (F18.q0 QR QN QE))) QP s h=F18.f27 W QR QN QE QP s h:=(nd_loop (a:=F18.c2) (by kernel_rfl)).trans (vloopD (L:=fun tm=>[tm 2,tm 3,tm 4,tm 17,tm 18,tm 19]) (G:=F18.g2_ W QR QN QE QP) (fun Kn KQ hK s h=>(congrArg (fun q=>aw Try.prog 80 W F18.pl F18.c2 q (kP QP) s h) (F18.p2 W QR QN QE QP hK)).trans (F18.l2 W QR Kn (fun(i:Nat) (vs:List AV) (h:AH)=>if i=0 then F18.n18 W QR QN QE QP (vs.getD 0 noA) (vs.getD 1 noA) (vs.getD 2 noA) h else QE i vs h) QP s h)) s h)
theorem F18.o13:F18.cw W (F18.d [1,0,1]) (thenQ (F18.f18 W QR QN QE QP) (F18.q0 QR QN QE)) QP s h=F18.f27 W QR QN QE QP s h:=nd_block (a:=(F18.d [1,0,1,0])) (by kernel_rfl) (F18.e27 W QR QN QE QP s h)
def F18.n28(W:WK)(QR QN:VK)(QE:EK)(QP:PK)(x2 x3 x4:AV)(h:AH):Prop:=
lLd (some true) (some 3) x2 h fun t89 _=>
lLd (some true) (some 3) x3 h fun t91 _=>
eBSl (some (3,24,[.int .i64 0,.int .i64 0,.slice none 0 0,.int .i64 0,.int .i64 0,.slice none 0 0])) 2 [(0,t89),(1,t91)] h fun t93 h94=>
(strArg t93=false)/\pLen t93 fun t95=>
F18.n27 W QR QN QE QP x2 x3 x4 t93 t95 (.sc (.int .i64 0)) h94
def F18.f28:KT:=fun s h=>F18.n28 W QR QN QE QP (s.tm 2) (s.tm 3) (s.tm 4) h
theorem F18.e28:F18.cw W (F18.d [1,0]) (thenQ (F18.f18 W QR QN QE QP) (F18.q0 QR QN QE)) QP s h=F18.f28 W QR QN QE QP s h:=nd_seq (a:=(F18.d [1,0,0])) (b:=(F18.d [1,0,1])) (by kernel_rfl) (F18.o13 W QR QN QE QP) (by kernel_rfl)
theorem F18.o14:F18.cw W (F18.d [1]) (F18.q0 QR QN QE) QP s h=F18.f28 W QR QN QE QP s h:=nd_seq (a:=(F18.d [1,0])) (b:=(F18.d [1,1])) (by kernel_rfl) (F18.o9 W QR QN QE QP) (F18.e28 W QR QN QE QP s h)
def F18.n29(W:WK)(QR QN:VK)(QE:EK)(QP:PK)(x0 x1:AV)(h:AH):Prop:=
eBox 3 24 x0 h fun t96 h97=>
eBox 3 24 x1 h97 fun t98 h99=>
eAlloc (some [.int .i64 0,.int .i64 0,.slice none 0 0]) 3 24 h99 fun t100 h101=>
F18.n28 W QR QN QE QP t96 t98 t100 h101
def F18.f29:KT:=fun s h=>F18.n29 W QR QN QE QP (s.tm 0) (s.tm 1) h
theorem F18.e29:F18.cw W (F18.d []) (F18.q0 QR QN QE) QP s h=F18.f29 W QR QN QE QP s h:=nd_seq (a:=(F18.d [0])) (b:=(F18.d [1])) (by kernel_rfl) (F18.o14 W QR QN QE QP) (by kernel_rfl)
end
theorem F18.callsN{x0 x1:AV}{h:AH}{M:Nat->Prop}{R:AE->AH->Prop}(hp:F18.n29 (fun id=>M id\/h.next<=id) (retV Try.prog [.cell 4 24,.tmp 5] R) (retV Try.prog [.cell 4 24,.tmp 5] R) (fun _ _ _=>False) (fun v h=>R (.pan v) h) x0 x1 h):ACalls Try.prog 18 [x0,x1] h M R:=
 acalls_of (c:=F18.code) Try.mixed Try.func18 (by kernel_rfl) (Nat.le_of_ble_eq_true rfl) F18.ok (by rw[show Try.f18.ntmps=80 from rfl,show Try.f18.results.toList=[.cell 4 24,.tmp 5] from rfl];exact body_D (q:=F18.q0 (retV Try.prog [.cell 4 24,.tmp 5] R) (retV Try.prog [.cell 4 24,.tmp 5] R) (fun _ _ _=>False)) (by kernel_rfl) (fun _ _=>rfl) (fun _ _=>rfl) (fun _ _ _ h=>h) (fun _ _ _ h=>h) rfl (Eq.mpr (F18.e29 (fun id=>M id\/h.next<=id) (retV Try.prog [.cell 4 24,.tmp 5] R) (retV Try.prog [.cell 4 24,.tmp 5] R) (fun _ _ _=>False) (fun v h=>R (.pan v) h) (s0 [x0,x1]) h) hp))
attribute [simp] F18.n1 F18.n2 F18.n3 F18.n4 F18.n5 F18.n6 F18.n7 F18.n8 F18.n9 F18.n10 F18.n12 F18.n13 F18.n14 F18.n15 F18.n16 F18.n17 F18.n18 F18.n19 F18.n20 F18.n21 F18.n22 F18.n23 F18.n24 F18.n25 F18.n26 F18.n28 F18.n29
section
variable (W:Nat->Prop) (QR QN:VK) (QE:Nat->VK) (QP:AV->AH->Prop) (s:St) (h:AH)
noncomputable def F25.code:Code:=Try.f25.body.getD .skip
def F25.pl:Plans:=[]
theorem F25.ok:okCode Try.prog F25.pl F25.code=true:=by kernel_rfl
noncomputable abbrev F25.d(p:List Nat):Code:=Code.at F25.code p
abbrev F25.cw(W:Nat->Prop)(c:Code)(q:Post)(QP:AV->AH->Prop):KT:=Go.Ab.aw Try.prog 21 W F25.pl c q (kP QP)
def F25.el0(_:Nat)(_:Nat->AV):List AV:=[]
def F25.q0(QR QN:VK)(QE:Nat->VK):Post:=fun x s h=>match x with |.normal=>QN [s.tm 4,s.tm 5] h |.ret=>QR [s.tm 4,s.tm 5] h |.exit j=>QE j (F25.el0 j s.tm) h |.goto _=>False
def F25.n1(W:WK)(QR _:VK)(_:EK)(QP:PK)(x2 x3:AV)(h:AH):Prop:=
pFld (some 2) x2 fun t1=>
lLd (some false) (some 1) t1 h fun t2 _=>
aCall Try.prog W 45 [t2,(.fn (.func 46) [] [x3])] h (fun t4 h5=>
pUn .not t4 fun t6=>
QR [t6,(.sc (.int .i64 0))] h5) QP
def F25.f1:KT:=fun s h=>F25.n1 W QR QN QE QP (s.tm 2) (s.tm 3) h
theorem F25.e1:F25.cw W (F25.d [1,1]) (F25.q0 QR QN QE) QP s h=F25.f1 W QR QN QE QP s h:=nd_seq (a:=(F25.d [1,1,0])) (b:=(F25.d [1,1,1])) (by kernel_rfl) (fun _ _=>rfl) (by kernel_rfl)
def F25.n2(_:WK)(QR _:VK)(_:EK)(_:PK)(x7:AV)(h:AH):Prop:=
QR [(.sc (.bool false)),x7] h
def F25.f2:KT:=fun s h=>F25.n2 W QR QN QE QP (s.tm 7) h
theorem F25.e2:F25.cw W (F25.d [1,0,1,1,0]) (thenQ (F25.f1 W QR QN QE QP) (F25.q0 QR QN QE)) QP s h=F25.f2 W QR QN QE QP s h:=nd_seq (a:=(F25.d [1,0,1,1,0,0])) (b:=(F25.d [1,0,1,1,0,1])) (by kernel_rfl) (fun _ _=>rfl) (by kernel_rfl)
def F25.n3(W:WK)(QR QN:VK)(QE:EK)(QP:PK)(x2 x3 x7 x14:AV)(h:AH):Prop:=
aIf x14 (
F25.n2 W QR QN QE QP x7 h) (
F25.n1 W QR QN QE QP x2 x3 h)
def F25.f3:KT:=fun s h=>F25.n3 W QR QN QE QP (s.tm 2) (s.tm 3) (s.tm 7) (s.tm 14) h
theorem F25.e3:F25.cw W (F25.d [1,0,1,1]) (thenQ (F25.f1 W QR QN QE QP) (F25.q0 QR QN QE)) QP s h=F25.f3 W QR QN QE QP s h:=nd_cond (o:=(.tmp 14)) (a:=(F25.d [1,0,1,1,0])) (b:=(F25.d [1,0,1,1,1])) (by kernel_rfl) (F25.e2 W QR QN QE QP s h) rfl (by kernel_rfl)
def F25.n4(W:WK)(QR QN:VK)(QE:EK)(QP:PK)(x2 x3 x7:AV)(h:AH):Prop:=
pBin Try.prog .neq 30 true x7 (.sc (.int .i64 0)) fun t7=>
F25.n3 W QR QN QE QP x2 x3 x7 t7 h
def F25.f4:KT:=fun s h=>F25.n4 W QR QN QE QP (s.tm 2) (s.tm 3) (s.tm 7) h
theorem F25.e4:F25.cw W (F25.d [1,0,1]) (thenQ (F25.f1 W QR QN QE QP) (F25.q0 QR QN QE)) QP s h=F25.f4 W QR QN QE QP s h:=nd_seq (a:=(F25.d [1,0,1,0])) (b:=(F25.d [1,0,1,1])) (by kernel_rfl) (F25.e3 W QR QN QE QP) (by kernel_rfl)
def F25.n5(W:WK)(QR QN:VK)(QE:EK)(QP:PK)(x2 x3:AV)(h:AH):Prop:=
lLd (some true) (some 3) x2 h fun t8 _=>
aCall Try.prog W 22 [t8] h (fun t10 h11=>
pExt t10 0 fun t12=>
pExt t10 1 fun t13=>
F25.n4 W QR QN QE QP x2 x3 t13 h11) QP
def F25.f5:KT:=fun s h=>F25.n5 W QR QN QE QP (s.tm 2) (s.tm 3) h
theorem F25.e5:F25.cw W (F25.d [1,0]) (thenQ (F25.f1 W QR QN QE QP) (F25.q0 QR QN QE)) QP s h=F25.f5 W QR QN QE QP s h:=nd_seq (a:=(F25.d [1,0,0])) (b:=(F25.d [1,0,1])) (by kernel_rfl) (F25.e4 W QR QN QE QP) (by kernel_rfl)
theorem F25.o1:F25.cw W (F25.d [1]) (F25.q0 QR QN QE) QP s h=F25.f5 W QR QN QE QP s h:=nd_seq (a:=(F25.d [1,0])) (b:=(F25.d [1,1])) (by kernel_rfl) (F25.e1 W QR QN QE QP) (F25.e5 W QR QN QE QP s h)
def F25.n6(W:WK)(QR QN:VK)(QE:EK)(QP:PK)(x0 x1:AV)(h:AH):Prop:=
eBox 3 24 x0 h fun t14 h15=>
eBox 1 59 x1 h15 fun t16 h17=>
F25.n5 W QR QN QE QP t14 t16 h17
def F25.f6:KT:=fun s h=>F25.n6 W QR QN QE QP (s.tm 0) (s.tm 1) h
theorem F25.e6:F25.cw W (F25.d []) (F25.q0 QR QN QE) QP s h=F25.f6 W QR QN QE QP s h:=nd_seq (a:=(F25.d [0])) (b:=(F25.d [1])) (by kernel_rfl) (F25.o1 W QR QN QE QP) (by kernel_rfl)
end
theorem F25.callsN{x0 x1:AV}{h:AH}{M:Nat->Prop}{R:AE->AH->Prop}(hp:F25.n6 (fun id=>M id\/h.next<=id) (retV Try.prog [.tmp 4,.tmp 5] R) (retV Try.prog [.tmp 4,.tmp 5] R) (fun _ _ _=>False) (fun v h=>R (.pan v) h) x0 x1 h):ACalls Try.prog 25 [x0,x1] h M R:=
 acalls_of (c:=F25.code) Try.mixed Try.func25 (by kernel_rfl) (Nat.le_of_ble_eq_true rfl) F25.ok (by rw[show Try.f25.ntmps=21 from rfl,show Try.f25.results.toList=[.tmp 4,.tmp 5] from rfl];exact body_D (q:=F25.q0 (retV Try.prog [.tmp 4,.tmp 5] R) (retV Try.prog [.tmp 4,.tmp 5] R) (fun _ _ _=>False)) (by kernel_rfl) (fun _ _=>rfl) (fun _ _=>rfl) (fun _ _ _ h=>h) (fun _ _ _ h=>h) rfl (Eq.mpr (F25.e6 (fun id=>M id\/h.next<=id) (retV Try.prog [.tmp 4,.tmp 5] R) (retV Try.prog [.tmp 4,.tmp 5] R) (fun _ _ _=>False) (fun v h=>R (.pan v) h) (s0 [x0,x1]) h) hp))
attribute [simp] F25.n1 F25.n2 F25.n3 F25.n4 F25.n5 F25.n6
section
variable (W:Nat->Prop) (QR QN:VK) (QE:Nat->VK) (QP:AV->AH->Prop) (s:St) (h:AH)
noncomputable def F26.code:Code:=Try.f26.body.getD .skip
def F26.g1:Grps:=[(none,[(0,false),(1,false),(2,false),(3,false)]),(some (3,true),[(4,false),(5,false),(6,false)]),(none,[(7,false),(8,false)])]
def F26.pl:Plans:=[(1,⟨F26.g1,false,[],[]⟩)]
theorem F26.ok:okCode Try.prog F26.pl F26.code=true:=by kernel_rfl
noncomputable abbrev F26.d(p:List Nat):Code:=Code.at F26.code p
abbrev F26.cw(W:Nat->Prop)(c:Code)(q:Post)(QP:AV->AH->Prop):KT:=Go.Ab.aw Try.prog 11 W F26.pl c q (kP QP)
def F26.el0(_:Nat)(_:Nat->AV):List AV:=[]
def F26.q0(QR QN:VK)(QE:Nat->VK):Post:=fun x s h=>match x with |.normal=>QN [s.tm 2] h |.ret=>QR [s.tm 2] h |.exit j=>QE j (F26.el0 j s.tm) h |.goto _=>False
def F26.n1(_:WK)(QR _:VK)(_:EK)(_:PK)(x2:AV)(h:AH):Prop:=
QR [x2] h
def F26.f1:KT:=fun s h=>F26.n1 W QR QN QE QP (s.tm 2) h
theorem F26.e1:F26.cw W (F26.d [1,1]) (F26.q0 QR QN QE) QP s h=F26.f1 W QR QN QE QP s h:=by kernel_rfl
def F26.n2(W:WK)(QR QN:VK)(QE:EK)(QP:PK)(x6 x9:AV)(h:AH):Prop:=
pPick x6 x9 (.sc (.bool false)) fun t1=>
F26.n1 W QR QN QE QP t1 h
def F26.f2:KT:=fun s h=>F26.n2 W QR QN QE QP (s.tm 6) (s.tm 9) h
theorem F26.e2:evG Try.prog 11 (fun _=>W) nobody (kP QP) (regOps (F26.d [1,0])) (F26.g1.drop 2) ((thenQ (F26.f1 W QR QN QE QP) (F26.q0 QR QN QE)) .normal) s h=F26.f2 W QR QN QE QP s h:=nd_g (is:=isAt F26.g1 2) (rest:=F26.g1.drop 3) (by kernel_rfl) (fun _ _=>rfl) (by kernel_rfl)
def F26.n3(W:WK)(QR QN:VK)(QE:EK)(QP:PK)(x1 x6:AV)(h:AH):Prop:=
aIg true x6 (
pFld (some 4) x1 fun t2=>
lLd (some false) (some 1) t2 h fun t3 _=>
pUn .not t3 fun t5=>
F26.n2 W QR QN QE QP x6 t5 h) (
F26.n2 W QR QN QE QP x6 noA h)
def F26.f3:KT:=fun s h=>F26.n3 W QR QN QE QP (s.tm 1) (s.tm 6) h
theorem F26.e3:evG Try.prog 11 (fun _=>W) nobody (kP QP) (regOps (F26.d [1,0])) (F26.g1.drop 1) ((thenQ (F26.f1 W QR QN QE QP) (F26.q0 QR QN QE)) .normal) s h=F26.f3 W QR QN QE QP s h:=nd_gw (want:=true) (j:=3) (is:=isAt F26.g1 1) (rest:=F26.g1.drop 2) (by kernel_rfl) (d:=6) (by kernel_rfl) (F26.e2 W QR QN QE QP) (by kernel_rfl)
def F26.n4(W:WK)(QR QN:VK)(QE:EK)(QP:PK)(x1:AV)(h:AH):Prop:=
pFld (some 0) x1 fun t6=>
lLd (some false) (some 1) t6 h fun t7 _=>
pBin Try.prog .eql 3 true t7 (.sc (.int .i64 1)) fun t9=>
F26.n3 W QR QN QE QP x1 t9 h
def F26.f4:KT:=fun s h=>F26.n4 W QR QN QE QP (s.tm 1) h
theorem F26.e4:evG Try.prog 11 (fun _=>W) nobody (kP QP) (regOps (F26.d [1,0])) (F26.g1.drop 0) ((thenQ (F26.f1 W QR QN QE QP) (F26.q0 QR QN QE)) .normal) s h=F26.f4 W QR QN QE QP s h:=nd_g (is:=isAt F26.g1 0) (rest:=F26.g1.drop 1) (by kernel_rfl) (F26.e3 W QR QN QE QP) (by kernel_rfl)
theorem F26.o1:F26.cw W (F26.d [1,0]) (thenQ (F26.f1 W QR QN QE QP) (F26.q0 QR QN QE)) QP s h=F26.f4 W QR QN QE QP s h:=nd_groups (id:=1) (draw:=false) (ops:=(regOps (F26.d [1,0]))) (gs:=F26.g1.drop 0) (by kernel_rfl) (by kernel_rfl) (F26.e4 W QR QN QE QP s h)
theorem F26.o2:F26.cw W (F26.d [1]) (F26.q0 QR QN QE) QP s h=F26.f4 W QR QN QE QP s h:=nd_seq (a:=(F26.d [1,0])) (b:=(F26.d [1,1])) (by kernel_rfl) (F26.e1 W QR QN QE QP) (F26.o1 W QR QN QE QP s h)
def F26.n5(W:WK)(QR QN:VK)(QE:EK)(QP:PK)(x0:AV)(h:AH):Prop:=
eBox 7 45 x0 h fun t10 h11=>
F26.n4 W QR QN QE QP t10 h11
def F26.f5:KT:=fun s h=>F26.n5 W QR QN QE QP (s.tm 0) h
theorem F26.e5:F26.cw W (F26.d []) (F26.q0 QR QN QE) QP s h=F26.f5 W QR QN QE QP s h:=nd_seq (a:=(F26.d [0])) (b:=(F26.d [1])) (by kernel_rfl) (F26.o2 W QR QN QE QP) (by kernel_rfl)
end
theorem F26.callsN{x0:AV}{h:AH}{M:Nat->Prop}{R:AE->AH->Prop}(hp:F26.n5 (fun id=>M id\/h.next<=id) (retV Try.prog [.tmp 2] R) (retV Try.prog [.tmp 2] R) (fun _ _ _=>False) (fun v h=>R (.pan v) h) x0 h):ACalls Try.prog 26 [x0] h M R:=
 acalls_of (c:=F26.code) Try.mixed Try.func26 (by kernel_rfl) (Nat.le_of_ble_eq_true rfl) F26.ok (by rw[show Try.f26.ntmps=11 from rfl,show Try.f26.results.toList=[.tmp 2] from rfl];exact body_D (q:=F26.q0 (retV Try.prog [.tmp 2] R) (retV Try.prog [.tmp 2] R) (fun _ _ _=>False)) (by kernel_rfl) (fun _ _=>rfl) (fun _ _=>rfl) (fun _ _ _ h=>h) (fun _ _ _ h=>h) rfl (Eq.mpr (F26.e5 (fun id=>M id\/h.next<=id) (retV Try.prog [.tmp 2] R) (retV Try.prog [.tmp 2] R) (fun _ _ _=>False) (fun v h=>R (.pan v) h) (s0 [x0]) h) hp))
attribute [simp] F26.n1 F26.n2 F26.n3 F26.n4 F26.n5
section
variable (W:Nat->Prop) (QR QN:VK) (QE:Nat->VK) (QP:AV->AH->Prop) (s:St) (h:AH)
noncomputable def F27.code:Code:=Try.f27.body.getD .skip
def F27.pl:Plans:=[]
theorem F27.ok:okCode Try.prog F27.pl F27.code=true:=by kernel_rfl
noncomputable abbrev F27.d(p:List Nat):Code:=Code.at F27.code p
abbrev F27.cw(W:Nat->Prop)(c:Code)(q:Post)(QP:AV->AH->Prop):KT:=Go.Ab.aw Try.prog 6 W F27.pl c q (kP QP)
def F27.el0(_:Nat)(_:Nat->AV):List AV:=[]
def F27.q0(QR QN:VK)(QE:Nat->VK):Post:=fun x s h=>match x with |.normal=>QN [s.tm 2] h |.ret=>QR [s.tm 2] h |.exit j=>QE j (F27.el0 j s.tm) h |.goto _=>False
def F27.n1(_:WK)(QR _:VK)(_:EK)(_:PK)(x1:AV)(h:AH):Prop:=
pFld (some 0) x1 fun t1=>
lLd (some false) (some 1) t1 h fun t2 _=>
pBin Try.prog .eql 3 true t2 (.sc (.int .i64 1)) fun t4=>
QR [t4] h
def F27.f1:KT:=fun s h=>F27.n1 W QR QN QE QP (s.tm 1) h
theorem F27.e1:F27.cw W (F27.d [1]) (F27.q0 QR QN QE) QP s h=F27.f1 W QR QN QE QP s h:=nd_seq (a:=(F27.d [1,0])) (b:=(F27.d [1,1])) (by kernel_rfl) (fun _ _=>rfl) (by kernel_rfl)
def F27.n2(W:WK)(QR QN:VK)(QE:EK)(QP:PK)(x0:AV)(h:AH):Prop:=
eBox 7 45 x0 h fun t5 h6=>
F27.n1 W QR QN QE QP t5 h6
def F27.f2:KT:=fun s h=>F27.n2 W QR QN QE QP (s.tm 0) h
theorem F27.e2:F27.cw W (F27.d []) (F27.q0 QR QN QE) QP s h=F27.f2 W QR QN QE QP s h:=nd_seq (a:=(F27.d [0])) (b:=(F27.d [1])) (by kernel_rfl) (F27.e1 W QR QN QE QP) (by kernel_rfl)
end
theorem F27.callsN{x0:AV}{h:AH}{M:Nat->Prop}{R:AE->AH->Prop}(hp:F27.n2 (fun id=>M id\/h.next<=id) (retV Try.prog [.tmp 2] R) (retV Try.prog [.tmp 2] R) (fun _ _ _=>False) (fun v h=>R (.pan v) h) x0 h):ACalls Try.prog 27 [x0] h M R:=
 acalls_of (c:=F27.code) Try.mixed Try.func27 (by kernel_rfl) (Nat.le_of_ble_eq_true rfl) F27.ok (by rw[show Try.f27.ntmps=6 from rfl,show Try.f27.results.toList=[.tmp 2] from rfl];exact body_D (q:=F27.q0 (retV Try.prog [.tmp 2] R) (retV Try.prog [.tmp 2] R) (fun _ _ _=>False)) (by kernel_rfl) (fun _ _=>rfl) (fun _ _=>rfl) (fun _ _ _ h=>h) (fun _ _ _ h=>h) rfl (Eq.mpr (F27.e2 (fun id=>M id\/h.next<=id) (retV Try.prog [.tmp 2] R) (retV Try.prog [.tmp 2] R) (fun _ _ _=>False) (fun v h=>R (.pan v) h) (s0 [x0]) h) hp))
attribute [simp] F27.n1 F27.n2
section
variable (W:Nat->Prop) (QR QN:VK) (QE:Nat->VK) (QP:AV->AH->Prop) (s:St) (h:AH)
noncomputable def F28.code:Code:=Try.f28.body.getD .skip
def F28.pl:Plans:=[]
theorem F28.ok:okCode Try.prog F28.pl F28.code=true:=by kernel_rfl
noncomputable abbrev F28.d(p:List Nat):Code:=Code.at F28.code p
abbrev F28.cw(W:Nat->Prop)(c:Code)(q:Post)(QP:AV->AH->Prop):KT:=Go.Ab.aw Try.prog 4 W F28.pl c q (kP QP)
def F28.el0(_:Nat)(_:Nat->AV):List AV:=[]
def F28.q0(QR QN:VK)(QE:Nat->VK):Post:=fun x s h=>match x with |.normal=>QN [s.tm 2] h |.ret=>QR [s.tm 2] h |.exit j=>QE j (F28.el0 j s.tm) h |.goto _=>False
def F28.n1(_:WK)(QR _:VK)(_:EK)(_:PK)(x1:AV)(h:AH):Prop:=
QR [(.fn (.func 47) [] [x1])] h
def F28.f1:KT:=fun s h=>F28.n1 W QR QN QE QP (s.tm 1) h
theorem F28.e1:F28.cw W (F28.d [1]) (F28.q0 QR QN QE) QP s h=F28.f1 W QR QN QE QP s h:=nd_seq (a:=(F28.d [1,0])) (b:=(F28.d [1,1])) (by kernel_rfl) (fun _ _=>rfl) (by kernel_rfl)
def F28.n2(W:WK)(QR QN:VK)(QE:EK)(QP:PK)(x0:AV)(h:AH):Prop:=
eBox 1 22 x0 h fun t1 h2=>
F28.n1 W QR QN QE QP t1 h2
def F28.f2:KT:=fun s h=>F28.n2 W QR QN QE QP (s.tm 0) h
theorem F28.e2:F28.cw W (F28.d []) (F28.q0 QR QN QE) QP s h=F28.f2 W QR QN QE QP s h:=nd_seq (a:=(F28.d [0])) (b:=(F28.d [1])) (by kernel_rfl) (F28.e1 W QR QN QE QP) (by kernel_rfl)
end
theorem F28.callsN{x0:AV}{h:AH}{M:Nat->Prop}{R:AE->AH->Prop}(hp:F28.n2 (fun id=>M id\/h.next<=id) (retV Try.prog [.tmp 2] R) (retV Try.prog [.tmp 2] R) (fun _ _ _=>False) (fun v h=>R (.pan v) h) x0 h):ACalls Try.prog 28 [x0] h M R:=
 acalls_of (c:=F28.code) Try.mixed Try.func28 (by kernel_rfl) (Nat.le_of_ble_eq_true rfl) F28.ok (by rw[show Try.f28.ntmps=4 from rfl,show Try.f28.results.toList=[.tmp 2] from rfl];exact body_D (q:=F28.q0 (retV Try.prog [.tmp 2] R) (retV Try.prog [.tmp 2] R) (fun _ _ _=>False)) (by kernel_rfl) (fun _ _=>rfl) (fun _ _=>rfl) (fun _ _ _ h=>h) (fun _ _ _ h=>h) rfl (Eq.mpr (F28.e2 (fun id=>M id\/h.next<=id) (retV Try.prog [.tmp 2] R) (retV Try.prog [.tmp 2] R) (fun _ _ _=>False) (fun v h=>R (.pan v) h) (s0 [x0]) h) hp))
attribute [simp] F28.n1 F28.n2
section
variable (W:Nat->Prop) (QR QN:VK) (QE:Nat->VK) (QP:AV->AH->Prop) (s:St) (h:AH)
noncomputable def F29.code:Code:=Try.f29.body.getD .skip
def F29.pl:Plans:=[]
theorem F29.ok:okCode Try.prog F29.pl F29.code=true:=by kernel_rfl
noncomputable abbrev F29.d(p:List Nat):Code:=Code.at F29.code p
abbrev F29.cw(W:Nat->Prop)(c:Code)(q:Post)(QP:AV->AH->Prop):KT:=Go.Ab.aw Try.prog 8 W F29.pl c q (kP QP)
def F29.el0(_:Nat)(_:Nat->AV):List AV:=[]
def F29.q0(QR QN:VK)(QE:Nat->VK):Post:=fun x s h=>match x with |.normal=>QN [s.tm 2] h |.ret=>QR [s.tm 2] h |.exit j=>QE j (F29.el0 j s.tm) h |.goto _=>False
def F29.n1(W:WK)(QR _:VK)(_:EK)(_:PK)(x1 x2:AV)(h:AH):Prop:=
lLd (some true) (some 7) x1 h fun t1 _=>
eStore (some 7) x2 t1 h W fun h3=>
QR [x2] h3
def F29.f1:KT:=fun s h=>F29.n1 W QR QN QE QP (s.tm 1) (s.tm 2) h
theorem F29.e1:F29.cw W (F29.d [1,1]) (F29.q0 QR QN QE) QP s h=F29.f1 W QR QN QE QP s h:=nd_seq (a:=(F29.d [1,1,0])) (b:=(F29.d [1,1,1])) (by kernel_rfl) (fun _ _=>rfl) (by kernel_rfl)
def F29.n2(W:WK)(QR QN:VK)(QE:EK)(QP:PK)(x1 x2:AV)(h:AH):Prop:=
pFld (some 2) x1 fun t4=>
lLd (some false) (some 1) t4 h fun t5 _=>
aCall Try.prog W 44 [t5] h (fun t7 h8=>
pFld (some 2) x1 fun t9=>
eStore (some 1) t9 t7 h8 W fun h10=>
F29.n1 W QR QN QE QP x1 x2 h10) QP
def F29.f2:KT:=fun s h=>F29.n2 W QR QN QE QP (s.tm 1) (s.tm 2) h
theorem F29.e2:F29.cw W (F29.d [1]) (F29.q0 QR QN QE) QP s h=F29.f2 W QR QN QE QP s h:=nd_seq (a:=(F29.d [1,0])) (b:=(F29.d [1,1])) (by kernel_rfl) (F29.e1 W QR QN QE QP) (by kernel_rfl)
def F29.n3(W:WK)(QR QN:VK)(QE:EK)(QP:PK)(x0:AV)(h:AH):Prop:=
eBox 7 45 x0 h fun t11 h12=>
eAlloc (some [.int .i64 0,.string ⟨#[]⟩,.slice none 0 0,.int .i64 0,.bool false,.int .u64 0,.int .u64 0]) 7 45 h12 fun t13 h14=>
F29.n2 W QR QN QE QP t11 t13 h14
def F29.f3:KT:=fun s h=>F29.n3 W QR QN QE QP (s.tm 0) h
theorem F29.e3:F29.cw W (F29.d []) (F29.q0 QR QN QE) QP s h=F29.f3 W QR QN QE QP s h:=nd_seq (a:=(F29.d [0])) (b:=(F29.d [1])) (by kernel_rfl) (F29.e2 W QR QN QE QP) (by kernel_rfl)
end
theorem F29.callsN{x0:AV}{h:AH}{M:Nat->Prop}{R:AE->AH->Prop}(hp:F29.n3 (fun id=>M id\/h.next<=id) (retV Try.prog [.cell 2 45] R) (retV Try.prog [.cell 2 45] R) (fun _ _ _=>False) (fun v h=>R (.pan v) h) x0 h):ACalls Try.prog 29 [x0] h M R:=
 acalls_of (c:=F29.code) Try.mixed Try.func29 (by kernel_rfl) (Nat.le_of_ble_eq_true rfl) F29.ok (by rw[show Try.f29.ntmps=8 from rfl,show Try.f29.results.toList=[.cell 2 45] from rfl];exact body_D (q:=F29.q0 (retV Try.prog [.cell 2 45] R) (retV Try.prog [.cell 2 45] R) (fun _ _ _=>False)) (by kernel_rfl) (fun _ _=>rfl) (fun _ _=>rfl) (fun _ _ _ h=>h) (fun _ _ _ h=>h) rfl (Eq.mpr (F29.e3 (fun id=>M id\/h.next<=id) (retV Try.prog [.cell 2 45] R) (retV Try.prog [.cell 2 45] R) (fun _ _ _=>False) (fun v h=>R (.pan v) h) (s0 [x0]) h) hp))
attribute [simp] F29.n1 F29.n2 F29.n3
section
variable (W:Nat->Prop) (QR QN:VK) (QE:Nat->VK) (QP:AV->AH->Prop) (s:St) (h:AH)
noncomputable def F31.code:Code:=Try.f31.body.getD .skip
def F31.pl:Plans:=[]
theorem F31.ok:okCode Try.prog F31.pl F31.code=true:=by kernel_rfl
noncomputable abbrev F31.d(p:List Nat):Code:=Code.at F31.code p
abbrev F31.cw(W:Nat->Prop)(c:Code)(q:Post)(QP:AV->AH->Prop):KT:=Go.Ab.aw Try.prog 36 W F31.pl c q (kP QP)
def F31.el0(_:Nat)(_:Nat->AV):List AV:=[]
def F31.q0(QR QN:VK)(QE:Nat->VK):Post:=fun x s h=>match x with |.normal=>QN [s.tm 2] h |.ret=>QR [s.tm 2] h |.exit j=>QE j (F31.el0 j s.tm) h |.goto _=>False
def F31.n1(_:WK)(QR _:VK)(_:EK)(_:PK)(x6:AV)(h:AH):Prop:=
QR [x6] h
def F31.f1:KT:=fun s h=>F31.n1 W QR QN QE QP (s.tm 6) h
theorem F31.e1:F31.cw W (F31.d [1,1,1,1,1]) (F31.q0 QR QN QE) QP s h=F31.f1 W QR QN QE QP s h:=nd_seq (a:=(F31.d [1,1,1,1,1,0])) (b:=(F31.d [1,1,1,1,1,1])) (by kernel_rfl) (fun _ _=>rfl) (by kernel_rfl)
def F31.el1(j:Nat)(tm:Nat->AV):List AV:=if j=2 then[tm 6] else[]
def F31.q1(QR QN:VK)(QE:Nat->VK):Post:=fun x s h=>match x with |.normal=>QN [s.tm 6,s.tm 25,s.tm 26,s.tm 27] h |.ret=>QR [s.tm 2] h |.exit j=>QE j (F31.el1 j s.tm) h |.goto _=>False
def F31.n2(_:WK)(_ QN:VK)(_:EK)(_:PK)(x6 x25 x26 x27:AV)(h:AH):Prop:=
pBin Try.prog .add 3 true x27 (.sc (.int .i64 1)) fun t1=>
QN [x6,x25,x26,t1] h
def F31.f2:KT:=fun s h=>F31.n2 W QR QN QE QP (s.tm 6) (s.tm 25) (s.tm 26) (s.tm 27) h
theorem F31.e2:F31.cw W (F31.d [1,1,1,1,0,1,0,0,1,1,1]) (F31.q1 QR QN QE) QP s h=F31.f2 W QR QN QE QP s h:=by kernel_rfl
def F31.n3(W:WK)(QR QN:VK)(QE:EK)(QP:PK)(x6 x8 x25 x26 x27:AV)(h:AH):Prop:=
eApp (some (7,80,45)) x6 x8 h W fun t2 h3=>
F31.n2 W QR QN QE QP t2 x25 x26 x27 h3
def F31.f3:KT:=fun s h=>F31.n3 W QR QN QE QP (s.tm 6) (s.tm 8) (s.tm 25) (s.tm 26) (s.tm 27) h
theorem F31.e3:F31.cw W (F31.d [1,1,1,1,0,1,0,0,1,1,0,0,1]) (blockQ 3 (thenQ (F31.f2 W QR QN QE QP) (F31.q1 QR QN QE))) QP s h=F31.f3 W QR QN QE QP s h:=by kernel_rfl
def F31.n4(W:WK)(QR QN:VK)(QE:EK)(QP:PK)(x6 x25 x26 x27:AV)(h:AH):Prop:=
pIxA (some (1,none)) x25 x27 fun t4=>
lLd (some false) (some 1) t4 h fun t5 _=>
F31.n3 W QR QN QE QP x6 t5 x25 x26 x27 h
def F31.f4:KT:=fun s h=>F31.n4 W QR QN QE QP (s.tm 6) (s.tm 25) (s.tm 26) (s.tm 27) h
theorem F31.e4:F31.cw W (F31.d [1,1,1,1,0,1,0,0,1,1,0,0]) (blockQ 3 (thenQ (F31.f2 W QR QN QE QP) (F31.q1 QR QN QE))) QP s h=F31.f4 W QR QN QE QP s h:=nd_seq (a:=(F31.d [1,1,1,1,0,1,0,0,1,1,0,0,0])) (b:=(F31.d [1,1,1,1,0,1,0,0,1,1,0,0,1])) (by kernel_rfl) (F31.e3 W QR QN QE QP) (by kernel_rfl)
theorem F31.o1:F31.cw W (F31.d [1,1,1,1,0,1,0,0,1,1,0]) (thenQ (F31.f2 W QR QN QE QP) (F31.q1 QR QN QE)) QP s h=F31.f4 W QR QN QE QP s h:=nd_block (a:=(F31.d [1,1,1,1,0,1,0,0,1,1,0,0])) (by kernel_rfl) (F31.e4 W QR QN QE QP s h)
theorem F31.o2:F31.cw W (F31.d [1,1,1,1,0,1,0,0,1,1]) (F31.q1 QR QN QE) QP s h=F31.f4 W QR QN QE QP s h:=nd_seq (a:=(F31.d [1,1,1,1,0,1,0,0,1,1,0])) (b:=(F31.d [1,1,1,1,0,1,0,0,1,1,1])) (by kernel_rfl) (F31.e2 W QR QN QE QP) (F31.o1 W QR QN QE QP s h)
def F31.n5(W:WK)(QR QN:VK)(QE:EK)(QP:PK)(x6 x25 x26 x27 x28:AV)(h:AH):Prop:=
aIf x28 (
F31.n4 W QR QN QE QP x6 x25 x26 x27 h) (
QE 2 [x6] h)
def F31.f5:KT:=fun s h=>F31.n5 W QR QN QE QP (s.tm 6) (s.tm 25) (s.tm 26) (s.tm 27) (s.tm 28) h
theorem F31.e5:F31.cw W (F31.d [1,1,1,1,0,1,0,0,1,0]) (thenQ (F31.f4 W QR QN QE QP) (F31.q1 QR QN QE)) QP s h=F31.f5 W QR QN QE QP s h:=nd_cond (o:=(.tmp 28)) (a:=(F31.d [1,1,1,1,0,1,0,0,1,0,0])) (b:=(F31.d [1,1,1,1,0,1,0,0,1,0,1])) (by kernel_rfl) rfl rfl (by kernel_rfl)
theorem F31.o3:F31.cw W (F31.d [1,1,1,1,0,1,0,0,1]) (F31.q1 QR QN QE) QP s h=F31.f5 W QR QN QE QP s h:=nd_seq (a:=(F31.d [1,1,1,1,0,1,0,0,1,0])) (b:=(F31.d [1,1,1,1,0,1,0,0,1,1])) (by kernel_rfl) (F31.o2 W QR QN QE QP) (F31.e5 W QR QN QE QP s h)
def F31.n6(W:WK)(QR QN:VK)(QE:EK)(QP:PK)(x6 x25 x26 x27:AV)(h:AH):Prop:=
pBin Try.prog .lss 3 false x27 x26 fun t7=>
F31.n5 W QR QN QE QP x6 x25 x26 x27 t7 h
def F31.f6:KT:=fun s h=>F31.n6 W QR QN QE QP (s.tm 6) (s.tm 25) (s.tm 26) (s.tm 27) h
theorem F31.e6:F31.cw W (F31.d [1,1,1,1,0,1,0,0]) (F31.q1 QR QN QE) QP s h=F31.f6 W QR QN QE QP s h:=nd_seq (a:=(F31.d [1,1,1,1,0,1,0,0,0])) (b:=(F31.d [1,1,1,1,0,1,0,0,1])) (by kernel_rfl) (F31.o3 W QR QN QE QP) (by kernel_rfl)
noncomputable def F31.c1:Code:=(F31.d [1,1,1,1,0,1,0,0])
theorem F31.l1:aw Try.prog 36 W F31.pl F31.c1 (F31.q1 QR QN QE) (kP QP) s h=F31.f6 W QR QN QE QP s h:=F31.e6 W QR QN QE QP s h
def F31.g1_(W:WK)(QR QN:VK)(QE:EK)(QP:PK):VK->VK:=fun QN' vs h=>F31.n6 W QR QN' (fun(i:Nat) (vs:List AV) (h:AH)=>if i=2 then F31.n1 W QR QN QE QP (vs.getD 0 noA) h else QE i vs h) QP (vs.getD 0 noA) (vs.getD 1 noA) (vs.getD 2 noA) (vs.getD 3 noA) h
theorem F31.p1{Kn:VK}{KQ:KT}(hK:∀s h,KQ s h=Kn [s.tm 6,s.tm 25,s.tm 26,s.tm 27] h):thenQ KQ (blockQ 2 (thenQ (F31.f1 W QR QN QE QP) (F31.q0 QR QN QE)))=F31.q1 QR Kn (fun(i:Nat) (vs:List AV) (h:AH)=>if i=2 then F31.n1 W QR QN QE QP (vs.getD 0 noA) h else QE i vs h):=by
 funext x s h
 cases x with
 |normal=>exact hK s h
 |ret=>kernel_rfl
 |goto l=>kernel_rfl
 |exit j=>
  by_cases h0:j=2
  ·subst h0;kernel_rfl
  simp only[thenQ,blockQ,noGotoQ,zW h0,F31.q1,F31.el1,F31.q0,F31.el0]
def F31.n7(W:WK)(QR QN:VK)(QE:EK)(QP:PK)(x6 x25 x26 x27:AV)(h:AH):Prop:=
vLoop (F31.g1_ W QR QN QE QP) [x6,x25,x26,x27] h
def F31.f7:KT:=fun s h=>F31.n7 W QR QN QE QP (s.tm 6) (s.tm 25) (s.tm 26) (s.tm 27) h
theorem F31.e7:F31.cw W (F31.d [1,1,1,1,0,1,0]) (blockQ 2 (thenQ (F31.f1 W QR QN QE QP) (F31.q0 QR QN QE))) QP s h=F31.f7 W QR QN QE QP s h:=(nd_loop (a:=F31.c1) (by kernel_rfl)).trans (vloopD (L:=fun tm=>[tm 6,tm 25,tm 26,tm 27]) (G:=F31.g1_ W QR QN QE QP) (fun Kn KQ hK s h=>(congrArg (fun q=>aw Try.prog 36 W F31.pl F31.c1 q (kP QP) s h) (F31.p1 W QR QN QE QP hK)).trans (F31.l1 W QR Kn (fun(i:Nat) (vs:List AV) (h:AH)=>if i=2 then F31.n1 W QR QN QE QP (vs.getD 0 noA) h else QE i vs h) QP s h)) s h)
theorem F31.o4:F31.cw W (F31.d [1,1,1,1,0,1]) (thenQ (F31.f1 W QR QN QE QP) (F31.q0 QR QN QE)) QP s h=F31.f7 W QR QN QE QP s h:=nd_block (a:=(F31.d [1,1,1,1,0,1,0])) (by kernel_rfl) (F31.e7 W QR QN QE QP s h)
def F31.n8(W:WK)(QR QN:VK)(QE:EK)(QP:PK)(x0 x6:AV)(h:AH):Prop:=
(strArg x0=false)/\pLen x0 fun t8=>
F31.n7 W QR QN QE QP x6 x0 t8 (.sc (.int .i64 0)) h
def F31.f8:KT:=fun s h=>F31.n8 W QR QN QE QP (s.tm 0) (s.tm 6) h
theorem F31.e8:F31.cw W (F31.d [1,1,1,1,0]) (thenQ (F31.f1 W QR QN QE QP) (F31.q0 QR QN QE)) QP s h=F31.f8 W QR QN QE QP s h:=nd_seq (a:=(F31.d [1,1,1,1,0,0])) (b:=(F31.d [1,1,1,1,0,1])) (by kernel_rfl) (F31.o4 W QR QN QE QP) (by kernel_rfl)
theorem F31.o5:F31.cw W (F31.d [1,1,1,1]) (F31.q0 QR QN QE) QP s h=F31.f8 W QR QN QE QP s h:=nd_seq (a:=(F31.d [1,1,1,1,0])) (b:=(F31.d [1,1,1,1,1])) (by kernel_rfl) (F31.e1 W QR QN QE QP) (F31.e8 W QR QN QE QP s h)
def F31.n9(W:WK)(QR QN:VK)(QE:EK)(QP:PK)(x0 x3:AV)(h:AH):Prop:=
aCall Try.prog W 49 [(.sc (.slice none 0 0)),x3] h (fun t9 h10=>
F31.n8 W QR QN QE QP x0 t9 h10) QP
def F31.f9:KT:=fun s h=>F31.n9 W QR QN QE QP (s.tm 0) (s.tm 3) h
theorem F31.e9:F31.cw W (F31.d [1,1,1]) (F31.q0 QR QN QE) QP s h=F31.f9 W QR QN QE QP s h:=nd_seq (a:=(F31.d [1,1,1,0])) (b:=(F31.d [1,1,1,1])) (by kernel_rfl) (F31.o5 W QR QN QE QP) (by kernel_rfl)
def F31.el2(j:Nat)(tm:Nat->AV):List AV:=if j=0 then[tm 0,tm 3] else[]
def F31.q2(QR QN:VK)(QE:Nat->VK):Post:=fun x s h=>match x with |.normal=>QN [s.tm 0,s.tm 3,s.tm 9,s.tm 10,s.tm 11] h |.ret=>QR [s.tm 2] h |.exit j=>QE j (F31.el2 j s.tm) h |.goto _=>False
def F31.n10(_:WK)(_ QN:VK)(_:EK)(_:PK)(x0 x3 x9 x10 x11:AV)(h:AH):Prop:=
pBin Try.prog .add 3 true x11 (.sc (.int .i64 1)) fun t11=>
QN [x0,x3,x9,x10,t11] h
def F31.f10:KT:=fun s h=>F31.n10 W QR QN QE QP (s.tm 0) (s.tm 3) (s.tm 9) (s.tm 10) (s.tm 11) h
theorem F31.e10:F31.cw W (F31.d [1,1,0,1,0,0,1,1,1]) (F31.q2 QR QN QE) QP s h=F31.f10 W QR QN QE QP s h:=by kernel_rfl
def F31.n11(W:WK)(QR QN:VK)(QE:EK)(QP:PK)(x0 x3 x9 x10 x11 x20:AV)(h:AH):Prop:=
aIf x20 (
pMkI (some false) 9 (.sc (.string ⟨#[108,101,110,32,111,117,116,32,111,102,32,114,97,110,103,101]⟩)) fun t12=>
aPan t12 h QP) (
F31.n10 W QR QN QE QP x0 x3 x9 x10 x11 h)
def F31.f11:KT:=fun s h=>F31.n11 W QR QN QE QP (s.tm 0) (s.tm 3) (s.tm 9) (s.tm 10) (s.tm 11) (s.tm 20) h
theorem F31.e11:F31.cw W (F31.d [1,1,0,1,0,0,1,1,0,0,1,1,1]) (blockQ 1 (thenQ (F31.f10 W QR QN QE QP) (F31.q2 QR QN QE))) QP s h=F31.f11 W QR QN QE QP s h:=nd_cond (o:=(.tmp 20)) (a:=(F31.d [1,1,0,1,0,0,1,1,0,0,1,1,1,0])) (b:=(F31.d [1,1,0,1,0,0,1,1,0,0,1,1,1,1])) (by kernel_rfl) rfl rfl (by kernel_rfl)
def F31.n12(W:WK)(QR QN:VK)(QE:EK)(QP:PK)(x0 x3 x9 x10 x11:AV)(h:AH):Prop:=
pBin Try.prog .lss 3 true x3 (.sc (.int .i64 0)) fun t13=>
F31.n11 W QR QN QE QP x0 x3 x9 x10 x11 t13 h
def F31.f12:KT:=fun s h=>F31.n12 W QR QN QE QP (s.tm 0) (s.tm 3) (s.tm 9) (s.tm 10) (s.tm 11) h
theorem F31.e12:F31.cw W (F31.d [1,1,0,1,0,0,1,1,0,0,1,1]) (blockQ 1 (thenQ (F31.f10 W QR QN QE QP) (F31.q2 QR QN QE))) QP s h=F31.f12 W QR QN QE QP s h:=nd_seq (a:=(F31.d [1,1,0,1,0,0,1,1,0,0,1,1,0])) (b:=(F31.d [1,1,0,1,0,0,1,1,0,0,1,1,1])) (by kernel_rfl) (F31.e11 W QR QN QE QP) (by kernel_rfl)
def F31.n13(W:WK)(QR QN:VK)(QE:EK)(QP:PK)(x0 x3 x5 x9 x10 x11:AV)(h:AH):Prop:=
(strArg x5=false)/\pLen x5 fun t14=>
pBin Try.prog .add 3 false x3 t14 fun t15=>
F31.n12 W QR QN QE QP x0 t15 x9 x10 x11 h
def F31.f13:KT:=fun s h=>F31.n13 W QR QN QE QP (s.tm 0) (s.tm 3) (s.tm 5) (s.tm 9) (s.tm 10) (s.tm 11) h
theorem F31.e13:F31.cw W (F31.d [1,1,0,1,0,0,1,1,0,0,1]) (blockQ 1 (thenQ (F31.f10 W QR QN QE QP) (F31.q2 QR QN QE))) QP s h=F31.f13 W QR QN QE QP s h:=nd_seq (a:=(F31.d [1,1,0,1,0,0,1,1,0,0,1,0])) (b:=(F31.d [1,1,0,1,0,0,1,1,0,0,1,1])) (by kernel_rfl) (F31.e12 W QR QN QE QP) (by kernel_rfl)
def F31.n14(W:WK)(QR QN:VK)(QE:EK)(QP:PK)(x0 x3 x9 x10 x11:AV)(h:AH):Prop:=
pIxA (some (1,none)) x9 x11 fun t16=>
lLd (some false) (some 1) t16 h fun t17 _=>
F31.n13 W QR QN QE QP x0 x3 t17 x9 x10 x11 h
def F31.f14:KT:=fun s h=>F31.n14 W QR QN QE QP (s.tm 0) (s.tm 3) (s.tm 9) (s.tm 10) (s.tm 11) h
theorem F31.e14:F31.cw W (F31.d [1,1,0,1,0,0,1,1,0,0]) (blockQ 1 (thenQ (F31.f10 W QR QN QE QP) (F31.q2 QR QN QE))) QP s h=F31.f14 W QR QN QE QP s h:=nd_seq (a:=(F31.d [1,1,0,1,0,0,1,1,0,0,0])) (b:=(F31.d [1,1,0,1,0,0,1,1,0,0,1])) (by kernel_rfl) (F31.e13 W QR QN QE QP) (by kernel_rfl)
theorem F31.o6:F31.cw W (F31.d [1,1,0,1,0,0,1,1,0]) (thenQ (F31.f10 W QR QN QE QP) (F31.q2 QR QN QE)) QP s h=F31.f14 W QR QN QE QP s h:=nd_block (a:=(F31.d [1,1,0,1,0,0,1,1,0,0])) (by kernel_rfl) (F31.e14 W QR QN QE QP s h)
theorem F31.o7:F31.cw W (F31.d [1,1,0,1,0,0,1,1]) (F31.q2 QR QN QE) QP s h=F31.f14 W QR QN QE QP s h:=nd_seq (a:=(F31.d [1,1,0,1,0,0,1,1,0])) (b:=(F31.d [1,1,0,1,0,0,1,1,1])) (by kernel_rfl) (F31.e10 W QR QN QE QP) (F31.o6 W QR QN QE QP s h)
def F31.n15(W:WK)(QR QN:VK)(QE:EK)(QP:PK)(x0 x3 x9 x10 x11 x12:AV)(h:AH):Prop:=
aIf x12 (
F31.n14 W QR QN QE QP x0 x3 x9 x10 x11 h) (
QE 0 [x0,x3] h)
def F31.f15:KT:=fun s h=>F31.n15 W QR QN QE QP (s.tm 0) (s.tm 3) (s.tm 9) (s.tm 10) (s.tm 11) (s.tm 12) h
theorem F31.e15:F31.cw W (F31.d [1,1,0,1,0,0,1,0]) (thenQ (F31.f14 W QR QN QE QP) (F31.q2 QR QN QE)) QP s h=F31.f15 W QR QN QE QP s h:=nd_cond (o:=(.tmp 12)) (a:=(F31.d [1,1,0,1,0,0,1,0,0])) (b:=(F31.d [1,1,0,1,0,0,1,0,1])) (by kernel_rfl) rfl rfl (by kernel_rfl)
theorem F31.o8:F31.cw W (F31.d [1,1,0,1,0,0,1]) (F31.q2 QR QN QE) QP s h=F31.f15 W QR QN QE QP s h:=nd_seq (a:=(F31.d [1,1,0,1,0,0,1,0])) (b:=(F31.d [1,1,0,1,0,0,1,1])) (by kernel_rfl) (F31.o7 W QR QN QE QP) (F31.e15 W QR QN QE QP s h)
def F31.n16(W:WK)(QR QN:VK)(QE:EK)(QP:PK)(x0 x3 x9 x10 x11:AV)(h:AH):Prop:=
pBin Try.prog .lss 3 false x11 x10 fun t19=>
F31.n15 W QR QN QE QP x0 x3 x9 x10 x11 t19 h
def F31.f16:KT:=fun s h=>F31.n16 W QR QN QE QP (s.tm 0) (s.tm 3) (s.tm 9) (s.tm 10) (s.tm 11) h
theorem F31.e16:F31.cw W (F31.d [1,1,0,1,0,0]) (F31.q2 QR QN QE) QP s h=F31.f16 W QR QN QE QP s h:=nd_seq (a:=(F31.d [1,1,0,1,0,0,0])) (b:=(F31.d [1,1,0,1,0,0,1])) (by kernel_rfl) (F31.o8 W QR QN QE QP) (by kernel_rfl)
noncomputable def F31.c2:Code:=(F31.d [1,1,0,1,0,0])
theorem F31.l2:aw Try.prog 36 W F31.pl F31.c2 (F31.q2 QR QN QE) (kP QP) s h=F31.f16 W QR QN QE QP s h:=F31.e16 W QR QN QE QP s h
def F31.g2_(W:WK)(QR QN:VK)(QE:EK)(QP:PK):VK->VK:=fun QN' vs h=>F31.n16 W QR QN' (fun(i:Nat) (vs:List AV) (h:AH)=>if i=0 then F31.n9 W QR QN QE QP (vs.getD 0 noA) (vs.getD 1 noA) h else QE i vs h) QP (vs.getD 0 noA) (vs.getD 1 noA) (vs.getD 2 noA) (vs.getD 3 noA) (vs.getD 4 noA) h
theorem F31.p2{Kn:VK}{KQ:KT}(hK:∀s h,KQ s h=Kn [s.tm 0,s.tm 3,s.tm 9,s.tm 10,s.tm 11] h):thenQ KQ (blockQ 0 (thenQ (F31.f9 W QR QN QE QP) (F31.q0 QR QN QE)))=F31.q2 QR Kn (fun(i:Nat) (vs:List AV) (h:AH)=>if i=0 then F31.n9 W QR QN QE QP (vs.getD 0 noA) (vs.getD 1 noA) h else QE i vs h):=by
 funext x s h
 cases x with
 |normal=>exact hK s h
 |ret=>kernel_rfl
 |goto l=>kernel_rfl
 |exit j=>
  by_cases h0:j=0
  ·subst h0;kernel_rfl
  simp only[thenQ,blockQ,noGotoQ,zW h0,F31.q2,F31.el2,F31.q0,F31.el0]
def F31.n17(W:WK)(QR QN:VK)(QE:EK)(QP:PK)(x0 x3 x9 x10 x11:AV)(h:AH):Prop:=
vLoop (F31.g2_ W QR QN QE QP) [x0,x3,x9,x10,x11] h
def F31.f17:KT:=fun s h=>F31.n17 W QR QN QE QP (s.tm 0) (s.tm 3) (s.tm 9) (s.tm 10) (s.tm 11) h
theorem F31.e17:F31.cw W (F31.d [1,1,0,1,0]) (blockQ 0 (thenQ (F31.f9 W QR QN QE QP) (F31.q0 QR QN QE))) QP s h=F31.f17 W QR QN QE QP s h:=(nd_loop (a:=F31.c2) (by kernel_rfl)).trans (vloopD (L:=fun tm=>[tm 0,tm 3,tm 9,tm 10,tm 11]) (G:=F31.g2_ W QR QN QE QP) (fun Kn KQ hK s h=>(congrArg (fun q=>aw Try.prog 36 W F31.pl F31.c2 q (kP QP) s h) (F31.p2 W QR QN QE QP hK)).trans (F31.l2 W QR Kn (fun(i:Nat) (vs:List AV) (h:AH)=>if i=0 then F31.n9 W QR QN QE QP (vs.getD 0 noA) (vs.getD 1 noA) h else QE i vs h) QP s h)) s h)
theorem F31.o9:F31.cw W (F31.d [1,1,0,1]) (thenQ (F31.f9 W QR QN QE QP) (F31.q0 QR QN QE)) QP s h=F31.f17 W QR QN QE QP s h:=nd_block (a:=(F31.d [1,1,0,1,0])) (by kernel_rfl) (F31.e17 W QR QN QE QP s h)
def F31.n18(W:WK)(QR QN:VK)(QE:EK)(QP:PK)(x0 x3:AV)(h:AH):Prop:=
(strArg x0=false)/\pLen x0 fun t20=>
F31.n17 W QR QN QE QP x0 x3 x0 t20 (.sc (.int .i64 0)) h
def F31.f18:KT:=fun s h=>F31.n18 W QR QN QE QP (s.tm 0) (s.tm 3) h
theorem F31.e18:F31.cw W (F31.d [1,1,0]) (thenQ (F31.f9 W QR QN QE QP) (F31.q0 QR QN QE)) QP s h=F31.f18 W QR QN QE QP s h:=nd_seq (a:=(F31.d [1,1,0,0])) (b:=(F31.d [1,1,0,1])) (by kernel_rfl) (F31.o9 W QR QN QE QP) (by kernel_rfl)
theorem F31.o10:F31.cw W (F31.d [1,1]) (F31.q0 QR QN QE) QP s h=F31.f18 W QR QN QE QP s h:=nd_seq (a:=(F31.d [1,1,0])) (b:=(F31.d [1,1,1])) (by kernel_rfl) (F31.e9 W QR QN QE QP) (F31.e18 W QR QN QE QP s h)
def F31.n19(W:WK)(QR QN:VK)(QE:EK)(QP:PK)(x0:AV)(h:AH):Prop:=
F31.n18 W QR QN QE QP x0 (.sc (.int .i64 0)) h
def F31.f19:KT:=fun s h=>F31.n19 W QR QN QE QP (s.tm 0) h
theorem F31.e19:F31.cw W (F31.d [1]) (F31.q0 QR QN QE) QP s h=F31.f19 W QR QN QE QP s h:=nd_seq (a:=(F31.d [1,0])) (b:=(F31.d [1,1])) (by kernel_rfl) (F31.o10 W QR QN QE QP) (by kernel_rfl)
def F31.n20(W:WK)(QR QN:VK)(QE:EK)(QP:PK)(x0:AV)(h:AH):Prop:=
F31.n19 W QR QN QE QP x0 h
def F31.f20:KT:=fun s h=>F31.n20 W QR QN QE QP (s.tm 0) h
theorem F31.e20:F31.cw W (F31.d []) (F31.q0 QR QN QE) QP s h=F31.f20 W QR QN QE QP s h:=nd_seq (a:=(F31.d [0])) (b:=(F31.d [1])) (by kernel_rfl) (F31.e19 W QR QN QE QP) (by kernel_rfl)
end
theorem F31.callsN{x0:AV}{h:AH}{M:Nat->Prop}{R:AE->AH->Prop}(hp:F31.n20 (fun id=>M id\/h.next<=id) (retV Try.prog [.tmp 2] R) (retV Try.prog [.tmp 2] R) (fun _ _ _=>False) (fun v h=>R (.pan v) h) x0 h):ACalls Try.prog 31 [x0] h M R:=
 acalls_of (c:=F31.code) Try.mixed Try.func31 (by kernel_rfl) (Nat.le_of_ble_eq_true rfl) F31.ok (by rw[show Try.f31.ntmps=36 from rfl,show Try.f31.results.toList=[.tmp 2] from rfl];exact body_D (q:=F31.q0 (retV Try.prog [.tmp 2] R) (retV Try.prog [.tmp 2] R) (fun _ _ _=>False)) (by kernel_rfl) (fun _ _=>rfl) (fun _ _=>rfl) (fun _ _ _ h=>h) (fun _ _ _ h=>h) rfl (Eq.mpr (F31.e20 (fun id=>M id\/h.next<=id) (retV Try.prog [.tmp 2] R) (retV Try.prog [.tmp 2] R) (fun _ _ _=>False) (fun v h=>R (.pan v) h) (s0 [x0]) h) hp))
attribute [simp] F31.n1 F31.n2 F31.n3 F31.n4 F31.n5 F31.n6 F31.n8 F31.n9 F31.n10 F31.n11 F31.n12 F31.n13 F31.n14 F31.n15 F31.n16 F31.n18 F31.n19 F31.n20
section
variable (W:Nat->Prop) (QR QN:VK) (QE:Nat->VK) (QP:AV->AH->Prop) (s:St) (h:AH)
noncomputable def F45.code:Code:=Try.f45.body.getD .skip
def F45.pl:Plans:=[]
theorem F45.ok:okCode Try.prog F45.pl F45.code=true:=by kernel_rfl
noncomputable abbrev F45.d(p:List Nat):Code:=Code.at F45.code p
abbrev F45.cw(W:Nat->Prop)(c:Code)(q:Post)(QP:AV->AH->Prop):KT:=Go.Ab.aw Try.prog 9 W F45.pl c q (kP QP)
def F45.el0(_:Nat)(_:Nat->AV):List AV:=[]
def F45.q0(QR QN:VK)(QE:Nat->VK):Post:=fun x s h=>match x with |.normal=>QN [s.tm 4] h |.ret=>QR [s.tm 4] h |.exit j=>QE j (F45.el0 j s.tm) h |.goto _=>False
def F45.n1(W:WK)(QR _:VK)(_:EK)(QP:PK)(x0 x1:AV)(h:AH):Prop:=
aCall Try.prog W 64 [x0,x1] h (fun t1 h2=>
pBin Try.prog .geq 3 true t1 (.sc (.int .i64 0)) fun t3=>
QR [t3] h2) QP
def F45.f1:KT:=fun s h=>F45.n1 W QR QN QE QP (s.tm 0) (s.tm 1) h
theorem F45.e1:F45.cw W (F45.d [1]) (F45.q0 QR QN QE) QP s h=F45.f1 W QR QN QE QP s h:=nd_seq (a:=(F45.d [1,0])) (b:=(F45.d [1,1])) (by kernel_rfl) (fun _ _=>rfl) (by kernel_rfl)
def F45.n2(W:WK)(QR QN:VK)(QE:EK)(QP:PK)(x0 x1:AV)(h:AH):Prop:=
F45.n1 W QR QN QE QP x0 x1 h
def F45.f2:KT:=fun s h=>F45.n2 W QR QN QE QP (s.tm 0) (s.tm 1) h
theorem F45.e2:F45.cw W (F45.d []) (F45.q0 QR QN QE) QP s h=F45.f2 W QR QN QE QP s h:=nd_seq (a:=(F45.d [0])) (b:=(F45.d [1])) (by kernel_rfl) (F45.e1 W QR QN QE QP) (by kernel_rfl)
end
theorem F45.callsN{x0 x1:AV}{h:AH}{M:Nat->Prop}{R:AE->AH->Prop}(hp:F45.n2 (fun id=>M id\/h.next<=id) (retV Try.prog [.tmp 4] R) (retV Try.prog [.tmp 4] R) (fun _ _ _=>False) (fun v h=>R (.pan v) h) x0 x1 h):ACalls Try.prog 45 [x0,x1] h M R:=
 acalls_of (c:=F45.code) Try.mixed Try.func45 (by kernel_rfl) (Nat.le_of_ble_eq_true rfl) F45.ok (by rw[show Try.f45.ntmps=9 from rfl,show Try.f45.results.toList=[.tmp 4] from rfl];exact body_D (q:=F45.q0 (retV Try.prog [.tmp 4] R) (retV Try.prog [.tmp 4] R) (fun _ _ _=>False)) (by kernel_rfl) (fun _ _=>rfl) (fun _ _=>rfl) (fun _ _ _ h=>h) (fun _ _ _ h=>h) rfl (Eq.mpr (F45.e2 (fun id=>M id\/h.next<=id) (retV Try.prog [.tmp 4] R) (retV Try.prog [.tmp 4] R) (fun _ _ _=>False) (fun v h=>R (.pan v) h) (s0 [x0,x1]) h) hp))
attribute [simp] F45.n1 F45.n2
section
variable (W:Nat->Prop) (QR QN:VK) (QE:Nat->VK) (QP:AV->AH->Prop) (s:St) (h:AH)
noncomputable def F46.code:Code:=Try.f46.body.getD .skip
def F46.pl:Plans:=[]
theorem F46.ok:okCode Try.prog F46.pl F46.code=true:=by kernel_rfl
noncomputable abbrev F46.d(p:List Nat):Code:=Code.at F46.code p
abbrev F46.cw(W:Nat->Prop)(c:Code)(q:Post)(QP:AV->AH->Prop):KT:=Go.Ab.aw Try.prog 8 W F46.pl c q (kP QP)
def F46.el0(_:Nat)(_:Nat->AV):List AV:=[]
def F46.q0(QR QN:VK)(QE:Nat->VK):Post:=fun x s h=>match x with |.normal=>QN [s.tm 3] h |.ret=>QR [s.tm 3] h |.exit j=>QE j (F46.el0 j s.tm) h |.goto _=>False
def F46.n1(W:WK)(QR _:VK)(_:EK)(QP:PK)(x1 x2:AV)(h:AH):Prop:=
lLd (some false) (some 1) x1 h fun t1 _=>
lLd (some true) (some 7) x2 h fun t3 _=>
aGo Try.prog W t1 [t3] h (fun t5 h6=>
pUn .not t5 fun t7=>
QR [t7] h6) QP
def F46.f1:KT:=fun s h=>F46.n1 W QR QN QE QP (s.tm 1) (s.tm 2) h
theorem F46.e1:F46.cw W (F46.d [1]) (F46.q0 QR QN QE) QP s h=F46.f1 W QR QN QE QP s h:=nd_seq (a:=(F46.d [1,0])) (b:=(F46.d [1,1])) (by kernel_rfl) (fun _ _=>rfl) (by kernel_rfl)
def F46.n2(W:WK)(QR QN:VK)(QE:EK)(QP:PK)(x0 x1:AV)(h:AH):Prop:=
eBox 7 45 x0 h fun t8 h9=>
F46.n1 W QR QN QE QP x1 t8 h9
def F46.f2:KT:=fun s h=>F46.n2 W QR QN QE QP (s.tm 0) (s.tm 1) h
theorem F46.e2:F46.cw W (F46.d []) (F46.q0 QR QN QE) QP s h=F46.f2 W QR QN QE QP s h:=nd_seq (a:=(F46.d [0])) (b:=(F46.d [1])) (by kernel_rfl) (F46.e1 W QR QN QE QP) (by kernel_rfl)
end
theorem F46.callsN{x0 x1:AV}{h:AH}{M:Nat->Prop}{R:AE->AH->Prop}(hp:F46.n2 (fun id=>M id\/h.next<=id) (retV Try.prog [.tmp 3] R) (retV Try.prog [.tmp 3] R) (fun _ _ _=>False) (fun v h=>R (.pan v) h) x0 x1 h):ACalls Try.prog 46 [x0,x1] h M R:=
 acalls_of (c:=F46.code) Try.mixed Try.func46 (by kernel_rfl) (Nat.le_of_ble_eq_true rfl) F46.ok (by rw[show Try.f46.ntmps=8 from rfl,show Try.f46.results.toList=[.tmp 3] from rfl];exact body_D (q:=F46.q0 (retV Try.prog [.tmp 3] R) (retV Try.prog [.tmp 3] R) (fun _ _ _=>False)) (by kernel_rfl) (fun _ _=>rfl) (fun _ _=>rfl) (fun _ _ _ h=>h) (fun _ _ _ h=>h) rfl (Eq.mpr (F46.e2 (fun id=>M id\/h.next<=id) (retV Try.prog [.tmp 3] R) (retV Try.prog [.tmp 3] R) (fun _ _ _=>False) (fun v h=>R (.pan v) h) (s0 [x0,x1]) h) hp))
attribute [simp] F46.n1 F46.n2
section
variable (W:Nat->Prop) (QR QN:VK) (QE:Nat->VK) (QP:AV->AH->Prop) (s:St) (h:AH)
noncomputable def F64.code:Code:=Try.f64.body.getD .skip
def F64.pl:Plans:=[]
theorem F64.ok:okCode Try.prog F64.pl F64.code=true:=by kernel_rfl
noncomputable abbrev F64.d(p:List Nat):Code:=Code.at F64.code p
abbrev F64.cw(W:Nat->Prop)(c:Code)(q:Post)(QP:AV->AH->Prop):KT:=Go.Ab.aw Try.prog 19 W F64.pl c q (kP QP)
def F64.el0(_:Nat)(_:Nat->AV):List AV:=[]
def F64.q0(QR QN:VK)(QE:Nat->VK):Post:=fun x s h=>match x with |.normal=>QN [s.tm 4] h |.ret=>QR [s.tm 4] h |.exit j=>QE j (F64.el0 j s.tm) h |.goto _=>False
def F64.n1(_:WK)(QR _:VK)(_:EK)(_:PK)(h:AH):Prop:=
QR [(.sc (.int .i64 (-1)))] h
def F64.f1:KT:=fun _ h=>F64.n1 W QR QN QE QP h
theorem F64.e1:F64.cw W (F64.d [1,1]) (F64.q0 QR QN QE) QP s h=F64.f1 W QR QN QE QP s h:=nd_seq (a:=(F64.d [1,1,0])) (b:=(F64.d [1,1,1])) (by kernel_rfl) (fun _ _=>rfl) (by kernel_rfl)
def F64.el1(j:Nat)(_:Nat->AV):List AV:=if j=0 then[] else[]
def F64.q1(QR QN:VK)(QE:Nat->VK):Post:=fun x s h=>match x with |.normal=>QN [s.tm 0,s.tm 1,s.tm 7,s.tm 8] h |.ret=>QR [s.tm 4] h |.exit j=>QE j (F64.el1 j s.tm) h |.goto _=>False
def F64.n2(_:WK)(_ QN:VK)(_:EK)(_:PK)(x0 x1 x7 x8:AV)(h:AH):Prop:=
pBin Try.prog .add 3 true x8 (.sc (.int .i64 1)) fun t1=>
QN [x0,x1,x7,t1] h
def F64.f2:KT:=fun s h=>F64.n2 W QR QN QE QP (s.tm 0) (s.tm 1) (s.tm 7) (s.tm 8) h
theorem F64.e2:F64.cw W (F64.d [1,0,1,0,0,1,1,1]) (F64.q1 QR QN QE) QP s h=F64.f2 W QR QN QE QP s h:=by kernel_rfl
def F64.n3(_:WK)(QR _:VK)(_:EK)(_:PK)(x5:AV)(h:AH):Prop:=
QR [x5] h
def F64.f3:KT:=fun s h=>F64.n3 W QR QN QE QP (s.tm 5) h
theorem F64.e3:F64.cw W (F64.d [1,0,1,0,0,1,1,0,0,1,1,0]) (blockQ 1 (thenQ (F64.f2 W QR QN QE QP) (F64.q1 QR QN QE))) QP s h=F64.f3 W QR QN QE QP s h:=nd_seq (a:=(F64.d [1,0,1,0,0,1,1,0,0,1,1,0,0])) (b:=(F64.d [1,0,1,0,0,1,1,0,0,1,1,0,1])) (by kernel_rfl) (fun _ _=>rfl) (by kernel_rfl)
def F64.n4(W:WK)(QR QN:VK)(QE:EK)(QP:PK)(x0 x1 x5 x7 x8 x16:AV)(h:AH):Prop:=
aIf x16 (
F64.n3 W QR QN QE QP x5 h) (
F64.n2 W QR QN QE QP x0 x1 x7 x8 h)
def F64.f4:KT:=fun s h=>F64.n4 W QR QN QE QP (s.tm 0) (s.tm 1) (s.tm 5) (s.tm 7) (s.tm 8) (s.tm 16) h
theorem F64.e4:F64.cw W (F64.d [1,0,1,0,0,1,1,0,0,1,1]) (blockQ 1 (thenQ (F64.f2 W QR QN QE QP) (F64.q1 QR QN QE))) QP s h=F64.f4 W QR QN QE QP s h:=nd_cond (o:=(.tmp 16)) (a:=(F64.d [1,0,1,0,0,1,1,0,0,1,1,0])) (b:=(F64.d [1,0,1,0,0,1,1,0,0,1,1,1])) (by kernel_rfl) (F64.e3 W QR QN QE QP s h) rfl (by kernel_rfl)
def F64.n5(W:WK)(QR QN:VK)(QE:EK)(QP:PK)(x0 x1 x5 x7 x8:AV)(h:AH):Prop:=
pIxA (some (7,none)) x0 x5 fun t2=>
lLd (some true) (some 7) t2 h fun t3 _=>
aGo Try.prog W x1 [t3] h (fun t5 h6=>
F64.n4 W QR QN QE QP x0 x1 x5 x7 x8 t5 h6) QP
def F64.f5:KT:=fun s h=>F64.n5 W QR QN QE QP (s.tm 0) (s.tm 1) (s.tm 5) (s.tm 7) (s.tm 8) h
theorem F64.e5:F64.cw W (F64.d [1,0,1,0,0,1,1,0,0,1]) (blockQ 1 (thenQ (F64.f2 W QR QN QE QP) (F64.q1 QR QN QE))) QP s h=F64.f5 W QR QN QE QP s h:=nd_seq (a:=(F64.d [1,0,1,0,0,1,1,0,0,1,0])) (b:=(F64.d [1,0,1,0,0,1,1,0,0,1,1])) (by kernel_rfl) (F64.e4 W QR QN QE QP) (by kernel_rfl)
def F64.n6(W:WK)(QR QN:VK)(QE:EK)(QP:PK)(x0 x1 x7 x8:AV)(h:AH):Prop:=
F64.n5 W QR QN QE QP x0 x1 x8 x7 x8 h
def F64.f6:KT:=fun s h=>F64.n6 W QR QN QE QP (s.tm 0) (s.tm 1) (s.tm 7) (s.tm 8) h
theorem F64.e6:F64.cw W (F64.d [1,0,1,0,0,1,1,0,0]) (blockQ 1 (thenQ (F64.f2 W QR QN QE QP) (F64.q1 QR QN QE))) QP s h=F64.f6 W QR QN QE QP s h:=nd_seq (a:=(F64.d [1,0,1,0,0,1,1,0,0,0])) (b:=(F64.d [1,0,1,0,0,1,1,0,0,1])) (by kernel_rfl) (F64.e5 W QR QN QE QP) (by kernel_rfl)
theorem F64.o1:F64.cw W (F64.d [1,0,1,0,0,1,1,0]) (thenQ (F64.f2 W QR QN QE QP) (F64.q1 QR QN QE)) QP s h=F64.f6 W QR QN QE QP s h:=nd_block (a:=(F64.d [1,0,1,0,0,1,1,0,0])) (by kernel_rfl) (F64.e6 W QR QN QE QP s h)
theorem F64.o2:F64.cw W (F64.d [1,0,1,0,0,1,1]) (F64.q1 QR QN QE) QP s h=F64.f6 W QR QN QE QP s h:=nd_seq (a:=(F64.d [1,0,1,0,0,1,1,0])) (b:=(F64.d [1,0,1,0,0,1,1,1])) (by kernel_rfl) (F64.e2 W QR QN QE QP) (F64.o1 W QR QN QE QP s h)
def F64.n7(W:WK)(QR QN:VK)(QE:EK)(QP:PK)(x0 x1 x7 x8 x9:AV)(h:AH):Prop:=
aIf x9 (
F64.n6 W QR QN QE QP x0 x1 x7 x8 h) (
QE 0 [] h)
def F64.f7:KT:=fun s h=>F64.n7 W QR QN QE QP (s.tm 0) (s.tm 1) (s.tm 7) (s.tm 8) (s.tm 9) h
theorem F64.e7:F64.cw W (F64.d [1,0,1,0,0,1,0]) (thenQ (F64.f6 W QR QN QE QP) (F64.q1 QR QN QE)) QP s h=F64.f7 W QR QN QE QP s h:=nd_cond (o:=(.tmp 9)) (a:=(F64.d [1,0,1,0,0,1,0,0])) (b:=(F64.d [1,0,1,0,0,1,0,1])) (by kernel_rfl) rfl rfl (by kernel_rfl)
theorem F64.o3:F64.cw W (F64.d [1,0,1,0,0,1]) (F64.q1 QR QN QE) QP s h=F64.f7 W QR QN QE QP s h:=nd_seq (a:=(F64.d [1,0,1,0,0,1,0])) (b:=(F64.d [1,0,1,0,0,1,1])) (by kernel_rfl) (F64.o2 W QR QN QE QP) (F64.e7 W QR QN QE QP s h)
def F64.n8(W:WK)(QR QN:VK)(QE:EK)(QP:PK)(x0 x1 x7 x8:AV)(h:AH):Prop:=
pBin Try.prog .lss 3 false x8 x7 fun t7=>
F64.n7 W QR QN QE QP x0 x1 x7 x8 t7 h
def F64.f8:KT:=fun s h=>F64.n8 W QR QN QE QP (s.tm 0) (s.tm 1) (s.tm 7) (s.tm 8) h
theorem F64.e8:F64.cw W (F64.d [1,0,1,0,0]) (F64.q1 QR QN QE) QP s h=F64.f8 W QR QN QE QP s h:=nd_seq (a:=(F64.d [1,0,1,0,0,0])) (b:=(F64.d [1,0,1,0,0,1])) (by kernel_rfl) (F64.o3 W QR QN QE QP) (by kernel_rfl)
noncomputable def F64.c1:Code:=(F64.d [1,0,1,0,0])
theorem F64.l1:aw Try.prog 19 W F64.pl F64.c1 (F64.q1 QR QN QE) (kP QP) s h=F64.f8 W QR QN QE QP s h:=F64.e8 W QR QN QE QP s h
def F64.g1_(W:WK)(QR QN:VK)(QE:EK)(QP:PK):VK->VK:=fun QN' vs h=>F64.n8 W QR QN' (fun(i:Nat) (vs:List AV) (h:AH)=>if i=0 then F64.n1 W QR QN QE QP h else QE i vs h) QP (vs.getD 0 noA) (vs.getD 1 noA) (vs.getD 2 noA) (vs.getD 3 noA) h
theorem F64.p1{Kn:VK}{KQ:KT}(hK:∀s h,KQ s h=Kn [s.tm 0,s.tm 1,s.tm 7,s.tm 8] h):thenQ KQ (blockQ 0 (thenQ (F64.f1 W QR QN QE QP) (F64.q0 QR QN QE)))=F64.q1 QR Kn (fun(i:Nat) (vs:List AV) (h:AH)=>if i=0 then F64.n1 W QR QN QE QP h else QE i vs h):=by
 funext x s h
 cases x with
 |normal=>exact hK s h
 |ret=>kernel_rfl
 |goto l=>kernel_rfl
 |exit j=>
  by_cases h0:j=0
  ·subst h0;kernel_rfl
  simp only[thenQ,blockQ,noGotoQ,zW h0,F64.q1,F64.el1,F64.q0,F64.el0]
def F64.n9(W:WK)(QR QN:VK)(QE:EK)(QP:PK)(x0 x1 x7 x8:AV)(h:AH):Prop:=
vLoop (F64.g1_ W QR QN QE QP) [x0,x1,x7,x8] h
def F64.f9:KT:=fun s h=>F64.n9 W QR QN QE QP (s.tm 0) (s.tm 1) (s.tm 7) (s.tm 8) h
theorem F64.e9:F64.cw W (F64.d [1,0,1,0]) (blockQ 0 (thenQ (F64.f1 W QR QN QE QP) (F64.q0 QR QN QE))) QP s h=F64.f9 W QR QN QE QP s h:=(nd_loop (a:=F64.c1) (by kernel_rfl)).trans (vloopD (L:=fun tm=>[tm 0,tm 1,tm 7,tm 8]) (G:=F64.g1_ W QR QN QE QP) (fun Kn KQ hK s h=>(congrArg (fun q=>aw Try.prog 19 W F64.pl F64.c1 q (kP QP) s h) (F64.p1 W QR QN QE QP hK)).trans (F64.l1 W QR Kn (fun(i:Nat) (vs:List AV) (h:AH)=>if i=0 then F64.n1 W QR QN QE QP h else QE i vs h) QP s h)) s h)
theorem F64.o4:F64.cw W (F64.d [1,0,1]) (thenQ (F64.f1 W QR QN QE QP) (F64.q0 QR QN QE)) QP s h=F64.f9 W QR QN QE QP s h:=nd_block (a:=(F64.d [1,0,1,0])) (by kernel_rfl) (F64.e9 W QR QN QE QP s h)
def F64.n10(W:WK)(QR QN:VK)(QE:EK)(QP:PK)(x0 x1:AV)(h:AH):Prop:=
(strArg x0=false)/\pLen x0 fun t8=>
F64.n9 W QR QN QE QP x0 x1 t8 (.sc (.int .i64 0)) h
def F64.f10:KT:=fun s h=>F64.n10 W QR QN QE QP (s.tm 0) (s.tm 1) h
theorem F64.e10:F64.cw W (F64.d [1,0]) (thenQ (F64.f1 W QR QN QE QP) (F64.q0 QR QN QE)) QP s h=F64.f10 W QR QN QE QP s h:=nd_seq (a:=(F64.d [1,0,0])) (b:=(F64.d [1,0,1])) (by kernel_rfl) (F64.o4 W QR QN QE QP) (by kernel_rfl)
theorem F64.o5:F64.cw W (F64.d [1]) (F64.q0 QR QN QE) QP s h=F64.f10 W QR QN QE QP s h:=nd_seq (a:=(F64.d [1,0])) (b:=(F64.d [1,1])) (by kernel_rfl) (F64.e1 W QR QN QE QP) (F64.e10 W QR QN QE QP s h)
def F64.n11(W:WK)(QR QN:VK)(QE:EK)(QP:PK)(x0 x1:AV)(h:AH):Prop:=
F64.n10 W QR QN QE QP x0 x1 h
def F64.f11:KT:=fun s h=>F64.n11 W QR QN QE QP (s.tm 0) (s.tm 1) h
theorem F64.e11:F64.cw W (F64.d []) (F64.q0 QR QN QE) QP s h=F64.f11 W QR QN QE QP s h:=nd_seq (a:=(F64.d [0])) (b:=(F64.d [1])) (by kernel_rfl) (F64.o5 W QR QN QE QP) (by kernel_rfl)
end
theorem F64.callsN{x0 x1:AV}{h:AH}{M:Nat->Prop}{R:AE->AH->Prop}(hp:F64.n11 (fun id=>M id\/h.next<=id) (retV Try.prog [.tmp 4] R) (retV Try.prog [.tmp 4] R) (fun _ _ _=>False) (fun v h=>R (.pan v) h) x0 x1 h):ACalls Try.prog 64 [x0,x1] h M R:=
 acalls_of (c:=F64.code) Try.mixed Try.func64 (by kernel_rfl) (Nat.le_of_ble_eq_true rfl) F64.ok (by rw[show Try.f64.ntmps=19 from rfl,show Try.f64.results.toList=[.tmp 4] from rfl];exact body_D (q:=F64.q0 (retV Try.prog [.tmp 4] R) (retV Try.prog [.tmp 4] R) (fun _ _ _=>False)) (by kernel_rfl) (fun _ _=>rfl) (fun _ _=>rfl) (fun _ _ _ h=>h) (fun _ _ _ h=>h) rfl (Eq.mpr (F64.e11 (fun id=>M id\/h.next<=id) (retV Try.prog [.tmp 4] R) (retV Try.prog [.tmp 4] R) (fun _ _ _=>False) (fun v h=>R (.pan v) h) (s0 [x0,x1]) h) hp))
attribute [simp] F64.n1 F64.n2 F64.n3 F64.n4 F64.n5 F64.n6 F64.n7 F64.n8 F64.n10 F64.n11
end Go.Proofs.Ytbdibjgoeeokoaa
