/- FlatBack answers true for every circuit. No condition. -/
import Derived.Test.YtjehibknlmehmaaGreatDoorRows
import Derived.Deep.SlicePairs
import Derived.Lib.LaidTab
import Derived.ProofKit
import Derived.Below
import Derived.ChangeSame
import Derived.ChangeMaps5
import Derived.Test.YtjehibknlmehmaaGreatDoorCards
import Derived.Test.YtjehibknlmehmaaGreatDoorTie
import Derived.WalkKit
import Derived.OpenShut
import Derived.WideKeyArgs
import Derived.SevenTiedAt
import Derived.Stop.LaidErr
import Derived.Deep.DeepHandedRow
import Derived.Test.YtjehibknlmehmaaGreatDoorBbk
set_option maxRecDepth 100000
namespace Go.Proofs.YtjehibknlmehmaaGreatDoor
section
open Go.Ab
namespace F4
abbrev rs:List Nat:=[2]
def n1:N1:=fun _ R _ _ _ x2 h=>
R [x2] h
def n2:N2:=fun W R N E P iI vV h=>
aT iI vV (.sc (.bool false)) fun t1=>
n1 W R N E P t1 h
def n3:N3:=fun W R N E P x1 x5 iI h=>
bE true iI (
al (some true) (some 3) x1 h fun t2 _=>
al (some true) (some 3) x5 h fun t4 _=>
aC Pg W 9 [t2,t4] h (fun t6 h7=>
n2 W R N E P iI t6 h7) P) (
n2 W R N E P iI aa h)
def n4:N4:=fun W R N E P x1 x5 eV ic h=>
aT eV ic (.sc (.bool false)) fun t8=>
n3 W R N E P x1 x5 t8 h
def n5:N4:=fun W R N E P x1 x5 x6 eV h=>
bE true eV (
ag Pg .eql 3 true x6 (.sc (.int .i64 0)) fun t9=>
n4 W R N E P x1 x5 eV t9 h) (
n4 W R N E P x1 x5 eV aa h)
def n6:N4:=fun W R N E P x1 x5 x6 x7 h=>
ag Pg .eql 28 true x7 (.sc (.int .i64 0)) fun t10=>
n5 W R N E P x1 x5 x6 t10 h
def n7:N2:=fun W R N E P x1 x3 h=>
aC Pg W 8 [x3] h (fun t11 qy=>
cf t11 0 fun t13=>
cf t11 1 fun t14=>
cf t11 2 fun t15=>
bn (some [.int .i64 0,.int .i64 0,.slice none 0 0]) 3 24 qy fun t16 vO=>
aE (some 3) t16 t13 vO W fun vN=>
n6 W R N E P x1 t16 t14 t15 vN) P
def n8:N1:=fun _ R _ _ _ x3 h=>
ag Pg .eql 9 true x3 (.sc (.string ⟨#[]⟩)) fun t19=>
R [t19] h
def n9:N3:=fun W R N E P x1 x3 dM h=>
aM dM (
n8 W R N E P x3 h) (
n7 W R N E P x1 x3 h)
def aZ:N3:=fun W R N E P x1 x3 x4 h=>
ag Pg .neq 28 true x4 (.sc (.int .i64 0)) fun t20=>
n9 W R N E P x1 x3 t20 h
def bc:N1:=fun W R N E P x1 h=>
al (some true) (some 3) x1 h fun t21 _=>
aC Pg W 7 [t21] h (fun t23 vH=>
cf t23 0 fun t25=>
cf t23 1 fun t26=>
aZ W R N E P x1 t25 t26 vH) P
def ba:N0:=fun _ R _ _ _ h=>
R [(.sc (.bool false))] h
def br:N2:=fun W R N E P x1 x9 h=>
aM x9 (
ba W R N E P h) (
bc W R N E P x1 h)
def bF:N1:=fun W R N E P x1 h=>
aC Pg W 5 [] h (fun t27 sF=>
gM .not t27 fun t29=>
br W R N E P x1 t29 sF) P
def bM:N1:=fun W R N E P x0 h=>
dS 3 24 x0 h fun t30 H3=>
bF W R N E P t30 H3
theorem aO{x0:AV}{h:AH}{M:WK}{R:RK}(hp:bM (fun id=>M id\/h.next<=id) (aK Pg [.tmp 2] R) (aK Pg [.tmp 2] R) (fun _ _ _=>False) (fun v h=>R (.b6 v) h) x0 h):aB Pg 4 [x0] h M R:=
 fin (n:=36) (pl:=[(7,⟨[(none,(fr 0 3)),(some (2,true),(fr 3 2)),(none,(fr 5 2)),(some (6,true),(fr 7 3)),(none,(fr 10 2))],false,[],[]⟩)]) (rs:=[.tmp 2]) (L:=rs) (fun c=>(a1 bM 0 c)) Tryz.mixed Tryz.func4 (fun c=>
(sq (a1 bM 0 c)
(sn
(sq (a1 bc 1 c)
(sn
(sq (a2 n7 1 3 c)
(sn
(sm (a1 n1 2 c))
(gr (gn (a4 n6 1 5 6 7 c) (gx (a4 n5 1 5 6 27 c) (gn (a4 n4 1 5 27 29 c) (gx (a3 n3 1 5 31 c) (gl (a2 n2 31 34 c)))))))))
(sq (a3 aZ 1 3 4 c)
(cd (a3 n9 1 3 16 c) (sl (a1 n8 3 c)) tr))))
(sq (a1 bF 1 c)
(cd (a2 br 1 9 c) (sl (a0 ba c)) tr))))) hp
attribute [simp] n1 n2 n3 n4 n5 n6 n7 n8 n9 aZ bc ba br bF bM
end F4
end
section
open Go.Ab
attribute [-simp] aH az
theorem GZ(e q b:Int)(l:List bq):(∃c,c≠0/\rX e q b l=[S [],I c])\/(e=0/\∃R,nS q b l=some R/\di 0 R=true/\(fK [] R).length<=65536/\rX e q b l=[S (fK [] R),I 0]):=by
 unfold rX
 by_cases k:e≠0
 ·rw[zX k];exact .inl ⟨e,k,rfl⟩
 rw[zW k]
 cases hR:nS q b l with
 |none=>exact .inl ⟨102,by decide,rfl⟩
 |some R=>
  simp only
  unfold rW
  by_cases c1:di 0 R=true
  ·rw[zX c1]
   by_cases c2:(fK [] R).length<=65536
   ·rw[zX c2];exact .inr ⟨by omega,R,rfl,c1,c2,rfl⟩
   ·rw[zW c2];exact .inl ⟨1,by decide,rfl⟩
  ·rw[zW c1];exact .inl ⟨100,by decide,rfl⟩
section
variable {h:AH} {M:Nat->Prop} {R:AE->AH->Prop} {q b:Int} {x:AV} {yl:List (bq×AV)}
theorem NM(hx:lZ h x yl)(ht:bS 0 h)(ol:0<h.next)(oK:∀y∈yl,y.1.aD.length<=9223372036854775807)(hm:∀o∈yl.map (·.1),zc o)
  (hR:∀h',Fr h h' (fun _=>False)->R (.ret (B true)) h'):aB Pg 4 [.agg [I q,I b,x]] h M R:=by
 apply F4.aO
 unfold F4.bM
 refine dF (cs:=[I q,I b,x]) (by show(true&&(true&&(cF x&&true)))=true;rw[hx.dQ.one.1];rfl) fun vc h1 f1 Ft oc=>?_
 unfold F4.bF
 refine⟨fun _=>False,fun _ h=>h.elim,O0 fun h2 f2=>?_⟩
 have bY:=f1.bQ f2
 simp only[d_,zS,F4.br,ap,zE,zC,zD,zH]
 unfold F4.bc
 refine dX (f2.bI oc) rfl fun _=>?_
 refine⟨fun _=>False,fun _ h=>h.elim,FZ (hx.be bY) (bS.be ht bY) (Nat.lt_of_lt_of_le ol bY.next) oK (fun e=>DT e) fun h3 f3=>?_⟩
 have fD:=bY.bQ f3
 have PR:=f3.bI (f2.bI oc)
 rcases GZ (eR q b (yl.map (·.1))).2 q b (yl.map (·.1)) with⟨c,hc,hs⟩ |⟨he,rs,da,cA,hl,hs⟩
 ·rw[hs]
  have gP:(c != 0)=true:=by simp[hc]
  simp only[c9,zA,zB,ab,F4.aZ,cy,gP,F4.n9,ap,zF,zC,zD,zI,F4.n8,cD]
  have e:(⟨([]:List UInt8).toArray⟩:ByteArray)=⟨#[]⟩:=rfl
  simp
  exact hR h3 fD
 ·rw[hs]
  obtain⟨new,hp,Dp⟩:=IH cA hl
  have abW:rs.map er=rs:=by
   have key:∀r∈rs,r.place=0:=by
    unfold nS at da
    obtain⟨A,hA,rfl⟩:=Option.map_eq_some_iff.1 da
    intro r hr
    rcases List.mem_append.1 hr with hr |hr
    ·unfold iO at hr
     rcases List.mem_append.1 hr with hr |hr
     ·split at hr
      ·simp only[List.mem_singleton]at hr;subst hr;rfl
      ·cases hr
     ·simp only[List.mem_map]at hr
      obtain⟨y,_,rfl⟩:=hr;rfl
    ·have opl:∀{l:List bq}{A:List Row},gQ (b5 (yl.map (·.1)) b.toNat) l=some A->∀r∈A,r.place=0:=by
      intro l
      induction l with
      |nil=>intro A h r hr;simp only[gQ,zQ]at h;subst h;cases hr
      |cons o l ih=>
       intro A h r hr
       simp only[gQ]at h
       by_cases c:32<(dA o (du (b5 (yl.map (·.1)) b.toNat))).length
       ·rw[zX c]at h;cases h
       rw[zW c]at h
       obtain⟨B,hB,rfl⟩:=Option.map_eq_some_iff.1 h
       rcases List.mem_append.1 hr with hr |hr
       ·unfold ul at hr
        rcases List.mem_append.1 hr with hr |hr
        ·simp only[jZ,List.mem_mapIdx]at hr
         obtain⟨i,hi,rfl⟩:=hr
         have hm:=List.getElem_mem hi
         generalize (dA o (du (b5 (yl.map (·.1)) b.toNat)))[i]=r at hm
         simp only[dA,List.mem_map]at hm
         obtain⟨y,_,rfl⟩:=hm;rfl
        ·simp only[List.mem_singleton]at hr
         subst hr
         unfold cp
         split
         ·rfl
         ·split<;>rfl
       ·exact ih hB r hr
     exact opl hA r hr
   have:∀r∈rs,er r=r:=fun r hr=>by
    have:=key r hr
    obtain⟨k1,n1,a1,u1,r1,p1⟩:=r
    simp only at this;subst this;rfl
   exact(List.map_congr_left this).trans (List.map_id _)
  have hf:=L9 hm he da (Dp.trans abW)
  simp only[c9,zA,zB,ab,F4.aZ,cy,bne_self_eq_false,F4.n9,ap,zE,zC,zD,zH]
  unfold F4.n7
  refine⟨fun _=>False,fun _ h=>h.elim,xK hp (M_ hp) fun xo zl h4 fa f4=>?_⟩
  rw[hf]at fa ⊢
  have jT:=fD.bQ f4
  have UY:=fa.o.dQ.one
  simp only[c9,zA,zB,ab]
  refine fV (cs:=[I q,I b,xo]) (by show(true&&(true&&(cF xo&&true)))=true;rw[UY.1];rfl) rfl rfl rfl (fun id hid=>.inr (zR jT.next hid)) fun v5 h5 f5 _ o5=>?_
  have oq:=jT.bQ f5
  have fe:zl.map (·.1)=yl.map (·.1):=fa.e
  have VJ:=DT he
  have hlen:=VJ.len
  rw[zZ]at hlen
  simp only[F4.n6,eO,beq_self_eq_true,F4.n5,dW,zS,zF,zC,zD,zI,F4.n4,c_,zV]
  unfold F4.n3
  simp only[dW,zS,zF,zC,zD,zI]
  refine dX ((f4.bQ f5).bI PR) rfl fun _=>?_
  refine dX o5 rfl fun _=>?_
  refine⟨fun _=>False,fun _ h=>h.elim,Kh (hx.be oq) (fa.o.be f5) fe.symm hlen (fun y hy=>⟨by have:=(VJ.op _ (List.mem_map_of_mem hy)).ql;omega,hm _ (List.mem_map_of_mem hy)⟩) fun h6 f6=>?_⟩
  simp only[F4.n2,c_,zV,F4.n1]
  simp
  exact hR h6 (oq.bQ f6)
end
end
section
open Go.Ab Go.Deep Go.ChangeShapes Go.WideShapes
instance:Inhabited bq:=⟨⟨0,⟨#[]⟩,[],0,false,0,0⟩⟩
def Xk(E:Env)(W:World)(b o:Nat)(cs:List AV):Prop:=∃arr T fz,W.heap[b]?=some (.cells arr T fz)/\BV E o cs arr
theorem Gq{W:World}{b o:Nat}{v:Value}(h:W.cell? ⟨b,o,none⟩=some v):∃arr T fz,W.heap[b]?=some (.cells arr T fz)/\arr[o]?=some v:=by
 unfold World.cell? at h
 split at h
 ·rename_i c T fz hc
  simp at h
  exact⟨c,T,fz,hc,h⟩
 ·cases h
theorem My{α:Type}{E:Env}{W:World}{b o sz:Nat}{f:α->List AV}{l:List α}(hf:∀y,(f y).length=sz)(hs:0<sz)(hl:l≠[])
  (h:∀q y,l[q]?=some y->∀j,j<sz->∃v c,W.cell? ⟨b,o+(q*sz+j),none⟩=some v/\(f y)[j]?=some c/\VR E c v/\v.oneCell'=true):Xk E W b o (l.flatMap f):=by
 have wM:0<l.length:=List.length_pos_iff.2 hl
 obtain⟨v0,_,h0,_⟩:=h 0 l[0] (zJ wM) 0 hs
 obtain⟨arr,T,fz,hb,_⟩:=Gq h0
 refine⟨arr,T,fz,hb,fun i c hi=>?_⟩
 have FF:i<l.length*sz:=by rw[<-gD hf l];exact(zM.1 hi).1
 have hq:i/sz<l.length:=Nat.div_lt_of_lt_mul (by rw[Nat.mul_comm];exact FF)
 have hj:i%sz<sz:=Nat.mod_lt _ hs
 have he:i/sz*sz+i%sz=i:=by rw[Nat.mul_comm];exact Nat.div_add_mod i sz
 obtain⟨v,c',h1,h2,h3,h4⟩:=h (i/sz) l[i/sz] (zJ hq) (i%sz) hj
 have hg:=fS hf l (i/sz) (i%sz) hj
 rw[he,zJ hq]at hg
 rw[hg]at hi
 simp only[Option.bind_some]at hi
 rw[h2]at hi
 cases hi
 obtain⟨pA,T',yU,nG,ha⟩:=Gq h1
 rw[hb]at nG;cases nG
 rw[he]at ha
 exact⟨v,ha,h3,h4⟩
section
variable {H:Type} {enc:TypeId×Value->H} {W:World}
def BT(W:World)(v:Value)(l:List Int):Prop:=
 (∃a c,v=.slice a 0 c/\l=[])\/∃b o cap,v=.slice (some ⟨b,o,none⟩) l.length cap/\l.length<=cap/\cap<=maxLen/\l≠[]/\∀E,Xk E W b o (l.flatMap dx)
theorem Lg{j7:Nat}{cs:List Value}{x:DataW H×List MemPlace}(h:DataW.trod enc Tryz.prog W 0 (fun _=>true) true j7 35 cs=some x) :
  ∃v l,cs=[v]/\BT W v l/\(∃a len cap,v=.slice a len cap):=by
 rcases open_slice Tryz.underlying35 h with⟨rfl,rfl⟩ |⟨a,len,cap,m,n,D,Pl,rfl,hb,hl,hm,Dk,rfl,hx⟩
 ·exact⟨_,[],rfl,.inl ⟨none,0,rfl,rfl⟩,⟨_,_,_,rfl⟩⟩
 ·simp only[zV]at Dk
  subst Dk
  rw[show Tryz.prog.cellsOf 3=1 by kernel_rfl]at hx
  have each:∀i,i<len->∃z:Int,W.cell? (a.add (i*1))=some (.int .i64 z):=by
   intro i hi
   obtain⟨xg,h1,h2⟩:=hx i (by omega)
   obtain⟨_,hlen,uD⟩:=World.cells?_some h1
   obtain⟨z,rfl,_,_⟩:=DataW.trod_int Tryz.underlying3 h2
   have:=uD 0 (by omega)
   rw[show(a.add (i*1)).add 0=a.add (i*1) by simp[Addr.add]]at this
   exact⟨z,by rw[this];rfl⟩
  obtain⟨g,hg⟩:=choose_lt (α:=Int) each
  refine⟨_,(List.range len).map g,rfl,?_,⟨_,_,_,rfl⟩⟩
  by_cases h0:len=0
  ·subst h0
   exact .inl ⟨_,_,rfl,rfl⟩
  ·right
   obtain⟨b,o,spot⟩:=a
   have c0:=hg 0 (by omega)
   have Je:spot=none:=by simpa[Addr.add] using World.cell?_spot c0
   subst Je
   refine⟨b,o,m,by rw[zZ,List.length_range],by rw[zZ,List.length_range];exact hl,hm,fun e=>h0 (by have:=congrArg List.length e;simpa using this),fun E=>?_⟩
   refine My (sz:=1) iR (by omega) (fun e=>h0 (by have:=congrArg List.length e;simpa using this)) fun q y hq j hj=>?_
   rw[List.getElem?_map]at hq
   obtain⟨q',jt,rfl⟩:=Option.map_eq_some_iff.1 hq
   have oK:q<len:=by have:=(zM.1 jt).1;simpa using this
   have U8:q'=q:=by rw[List.getElem?_range oK]at jt;exact(Option.some.inj jt).symm
   subst U8
   have a0:=hg q' oK
   rw[add_plain]at a0
   match j,hj with
   |0,_=>exact⟨_,_,by rw[Nat.add_zero];exact a0,rfl,.sc _,rfl⟩
def sJ(y:bq×Value):List Value:=[.int .i64 y.1.kind,.string y.1.name,y.2,.int .i64 y.1.bit,.bool y.1.cond,.int .u64 y.1.cR,.int .u64 y.1.value]
def qP(W:World)(v:Value)(l:List (bq×Value)):Prop:=
 (∀y∈l,BT W y.2 y.1.aD/\(∃a len cap,y.2=.slice a len cap)/\zc y.1) /\
 ((∃a c,v=.slice a 0 c/\l=[])\/∃b o cap,v=.slice (some ⟨b,o,none⟩) l.length cap/\l.length<=cap/\cap<=maxLen/\l≠[]/\∀q y,l[q]?=some y->∀j v,(sJ y)[j]?=some v->W.cell? ⟨b,o+(q*7+j),none⟩=some v)
theorem R9{j7:Nat}{cs:List Value}{x:DataW H×List MemPlace}(h:DataW.trod enc Tryz.prog W 0 (fun _=>true) true j7 38 cs=some x) :
  ∃y:bq×Value,cs=sJ y/\BT W y.2 y.1.aD/\(∃a len cap,y.2=.slice a len cap)/\zc y.1:=by
 obtain⟨xs,n,_,rfl,hl,Qi,hf⟩:=DataW.trod_struct Tryz.underlying38 h
 rw[show Tryz.prog.cellsOf 38=7 by kernel_rfl]at hl
 match cs,hl,xs,Qi with
 |[c0,c1,c2,c3,c4,c5,c6],_,[y0,y1,y2,y3,y4,y5,y6],_=>
  have t0:=hf 0 _ rfl
  have t1:=hf 1 _ rfl
  have t2:=hf 2 _ rfl
  have t3:=hf 3 _ rfl
  have t4:=hf 4 _ rfl
  have t5:=hf 5 _ rfl
  have t6:=hf 6 _ rfl
  have k9:Tryz.prog.cellsOf 9=1:=by kernel_rfl
  have yy:Tryz.prog.cellsOf 35=1:=by kernel_rfl
  have k3:Tryz.prog.cellsOf 3=1:=by kernel_rfl
  have k4:Tryz.prog.cellsOf 4=1:=by kernel_rfl
  have tA:Tryz.prog.cellsOf 36=1:=by kernel_rfl
  simp[k9,yy,k3,k4,tA]at t0 t1 t2 t3 t4 t5 t6
  obtain⟨z0,h0,_,_⟩:=DataW.trod_int Tryz.underlying3 t0
  obtain⟨s1,h1,_,_⟩:=DataW.trod_string Tryz.underlying9 t1
  obtain⟨v,l,h2,ha,hs⟩:=Lg t2
  obtain⟨z3,h3,_,_⟩:=DataW.trod_int Tryz.underlying3 t3
  obtain⟨b4,h4,_⟩:=DataW.trod_bool Tryz.underlying4 t4
  obtain⟨z5,h5,_,w5⟩:=DataW.trod_int Tryz.underlying36 t5
  obtain⟨z6,h6,_,w6⟩:=DataW.trod_int Tryz.underlying36 t6
  simp at h0 h1 h2 h3 h4 h5 h6
  subst h0 h1 h2 h3 h4 h5 h6
  refine⟨(⟨z0,s1,l,z3,b4,z5,z6⟩,c2),rfl,ha,hs,?_⟩
  simp[Lit.wf]at w5 w6
  have HO:IntKind.u64.max=18446744073709551615:=by decide
  have hmn:IntKind.u64.min=0:=by decide
  unfold zc
  simp only
  omega
theorem Ny{j7:Nat}{cs:List Value}{x:DataW H×List MemPlace}(h:DataW.trod enc Tryz.prog W 0 (fun _=>true) true j7 22 cs=some x) :
  ∃v l,cs=[v]/\qP W v l:=by
 rcases open_slice Tryz.underlying22 h with⟨rfl,rfl⟩ |⟨a,len,cap,m,n,D,Pl,rfl,hb,hl,hm,Dk,rfl,hx⟩
 ·exact⟨_,[],rfl,⟨by simp,.inl ⟨none,0,rfl,rfl⟩⟩⟩
 ·simp only[zV]at Dk
  subst Dk
  rw[show Tryz.prog.cellsOf 38=7 by kernel_rfl]at hx
  have each:∀i,i<len->∃y:bq×Value,(∀j v,(sJ y)[j]?=some v->W.cell? ((a.add (i*7)).add j)=some v)/\BT W y.2 y.1.aD/\(∃a len cap,y.2=.slice a len cap)/\zc y.1:=by
   intro i hi
   obtain⟨xg,h1,h2⟩:=hx i (by omega)
   obtain⟨_,hlen,uD⟩:=World.cells?_some h1
   obtain⟨y,rfl,h3,h4,h5⟩:=R9 h2
   refine⟨y,fun j v hj=>?_,h3,h4,h5⟩
   have:j<7:=by have:=(zM.1 hj).1;simpa[sJ] using this
   rw[uD j this,hj]
  obtain⟨g,hg⟩:=choose_lt (α:=bq×Value) each
  refine⟨_,(List.range len).map g,rfl,⟨fun y hy=>?_,?_⟩⟩
  ·obtain⟨i,hi,rfl⟩:=List.mem_map.1 hy
   exact(hg i (List.mem_range.1 hi)).2
  by_cases h0:len=0
  ·subst h0
   exact .inl ⟨_,_,rfl,rfl⟩
  ·right
   obtain⟨b,o,spot⟩:=a
   have c0:=(hg 0 (by omega)).1 0 _ rfl
   have Je:spot=none:=by simpa[Addr.add] using World.cell?_spot c0
   subst Je
   refine⟨b,o,m,by rw[zZ,List.length_range],by rw[zZ,List.length_range];exact hl,hm,fun e=>h0 (by have:=congrArg List.length e;simpa using this),fun q y hq j v hj=>?_⟩
   rw[List.getElem?_map]at hq
   obtain⟨q',jt,rfl⟩:=Option.map_eq_some_iff.1 hq
   have oK:q<len:=by have:=(zM.1 jt).1;simpa using this
   have U8:q'=q:=by rw[List.getElem?_range oK]at jt;exact(Option.some.inj jt).symm
   subst U8
   have:=(hg q' oK).1 j v hj
   rw[add_add,add_plain]at this
   exact this
theorem OS{j7:Nat}{cs:List Value}{x:DataW H×List MemPlace}(h:DataW.trod enc Tryz.prog W 0 (fun _=>true) true j7 24 cs=some x) :
  ∃q b v l,cs=[.int .i64 q,.int .i64 b,v]/\qP W v l:=by
 obtain⟨xs,n,_,rfl,hl,Qi,hf⟩:=DataW.trod_struct Tryz.underlying24 h
 rw[show Tryz.prog.cellsOf 24=3 by kernel_rfl]at hl
 match cs,hl,xs,Qi with
 |[c0,c1,c2],_,[y0,y1,y2],_=>
  have t0:=hf 0 _ rfl
  have t1:=hf 1 _ rfl
  have t2:=hf 2 _ rfl
  have oI:Tryz.prog.cellsOf 22=1:=by kernel_rfl
  have k3:Tryz.prog.cellsOf 3=1:=by kernel_rfl
  simp[oI,k3]at t0 t1 t2
  obtain⟨z0,h0,_,_⟩:=DataW.trod_int Tryz.underlying3 t0
  obtain⟨z1,h1,_,_⟩:=DataW.trod_int Tryz.underlying3 t1
  obtain⟨v,l,h2,ho⟩:=Ny t2
  simp at h0 h1 h2
  subst h0 h1 h2
  exact⟨z0,z1,c2,l,rfl,ho⟩
end
end
section
open Go.Ab Go.Deep
def zf(W:World)(b:Nat):TypeId:=match W.heap[b]? with |some (.cells _ T _)=>T |_=>0
theorem Hl{W:World}{b:Nat}{arr:Array Value}{T:TypeId}{fz:Nat×Nat}(h:W.heap[b]?=some (.cells arr T fz)):zf W b=T:=by unfold zf;rw[h]
def kc(v:Value)(sz:Nat):oE:=match v with |.slice (some a) _ cap=>⟨a.block,cap*sz,sz,a.off⟩ |_=>⟨0,0,0,0⟩
def EQ(i:Nat)(y:bq×Value):AV:=if y.1.aD.length=0 then .sc y.2 else .sl (i+2) 0 y.1.aD.length
def nQ(l:List (bq×Value)):List (bq×AV):=l.mapIdx fun i y=>(y.1,EQ i y)
def AK(v:Value)(l:List (bq×Value)):AV:=if l.length=0 then .sc v else .sl 1 0 l.length
def xI(W:World)(v:Value)(sz:Nat)(cells:List AV):AO:={ cells:=cells,sz:=sz,ty:=zf W (kc v sz).b,ro:=true,kind:=.row }
def xS(W:World)(v:Value)(l:List (bq×Value))(ty:TypeId)(fz:Nat×Nat):Nat->Option AO
 |0=>some (NA 0 (rj ty fz))
 |1=>if l.length=0 then none else some (xI W v 7 ((nQ l).flatMap cK))
 |i+2=>(l[i]?).bind fun y=>if y.1.aD.length=0 then none else some (xI W y.2 1 (y.1.aD.flatMap dx))
def Dc(v:Value)(l:List (bq×Value)):Env
 |0=>some ⟨0,0,0,0⟩
 |1=>some (kc v 7)
 |i+2=>(l[i]?).map fun y=>kc y.2 1
def Jc(W:World)(v:Value)(l:List (bq×Value))(ty:TypeId)(fz:Nat×Nat):AH where
 obj:=xS W v l ty fz
 next:=l.length+2
 lt:=by
  intro id o h
  match id with
  |0=>omega
  |1=>omega
  |i+2=>
   simp only[xS]at h
   obtain⟨y,hy,_⟩:=Option.bind_eq_some_iff.1 h
   have:=(zM.1 hy).1
   omega
theorem M0(l:List (bq×Value)):(nQ l).map (·.1)=l.map (·.1):=by
 unfold nQ
 apply List.ext_getElem?
 intro i
 simp
 cases l[i]?<;>rfl
theorem zi{l:List (bq×Value)}{i:Nat}:(nQ l)[i]?=(l[i]?).map fun y=>(y.1,EQ i y):=by
 unfold nQ;simp
theorem zh(l:List (bq×Value)):(nQ l).length=l.length:=by unfold nQ;simp
section
variable {W:World} {v:Value} {l:List (bq×Value)} {ty:TypeId} {fz:Nat×Nat}
theorem TY(eL:qP W v l){i:Nat}{y:bq×Value}(hy:l[i]?=some y):VR (Dc v l) (EQ i y) y.2:=by
 unfold EQ
 split
 ·exact .sc _
 ·rename_i b7
  rcases(eL.1 y (zP hy)).1 with⟨_,_,_,h⟩ |⟨b,o,cap,hv,h1,h2,_,_⟩
  ·exact absurd (by rw[h];rfl) b7
  ·rw[hv]
   exact .sl (B:=⟨b,cap*1,1,o⟩) (by simp only[Dc,hy,yB,kc,hv]) (.inl rfl) (by simp) h1 h2
theorem M3(eL:qP W v l):VR (Dc v l) (AK v l) v:=by
 unfold AK
 split
 ·exact .sc _
 ·rename_i b7
  rcases eL.2 with⟨_,_,_,h⟩ |⟨b,o,cap,hv,h1,h2,_,_⟩
  ·exact absurd (by rw[h];rfl) b7
  ·rw[hv]
   exact .sl (B:=⟨b,cap*7,7,o⟩) rfl (.inl rfl) (by simp) h1 h2
theorem UM(eL:qP W v l)(ht:W.heap[0]?=some (rj ty fz)):Rel (Dc v l) (Jc W v l ty fz) W:=by
 have Km:∀id o,xS W v l ty fz id=some o->o.ro=true:=by
  intro id o h
  match id with
  |0=>simp only[xS,zQ]at h;rw[<-h];rfl
  |1=>
   simp only[xS]at h
   split at h
   ·cases h
   ·simp only[zQ]at h;rw[<-h];rfl
  |i+2=>
   simp only[xS]at h
   obtain⟨y,hy,h2⟩:=Option.bind_eq_some_iff.1 h
   split at h2
   ·cases h2
   ·simp only[zQ]at h2;rw[<-h2];rfl
 refine⟨fun id o h=>?_,fun i j oi oj _ _ hi hj _ _ _=>.inr ⟨Km i oi hi,Km j oj hj⟩,fun id hid=>?_⟩
 ·match id with
  |0=>
   have h:some (NA 0 (rj ty fz))=some o:=h
   cases h
   exact⟨_,rfl,rfl,ht⟩
  |1=>
   have h:(if l.length=0 then none else some (xI W v 7 ((nQ l).flatMap cK)))=some o:=h
   split at h
   ·cases h
   ·rename_i b7
    cases h
    rcases eL.2 with⟨_,_,_,h⟩ |⟨b,o,cap,hv,h1,h2,h3,h4⟩
    ·exact absurd (by rw[h];rfl) b7
    ·have Bt:Xk (Dc v l) W b o ((nQ l).flatMap cK):=by
      refine My (sz:=7) fg (by omega) (fun e=>h3 (List.length_eq_zero_iff.1 (by have:=congrArg List.length e;rw[zh]at this;exact this))) fun q y hq j hj=>?_
      rw[zi]at hq
      obtain⟨y',sy,rfl⟩:=Option.map_eq_some_iff.1 hq
      have hc:=h4 q y' sy j
      match j,hj with
      |0,_=>exact⟨_,_,hc _ rfl,rfl,.sc _,rfl⟩
      |1,_=>exact⟨_,_,hc _ rfl,rfl,.sc _,rfl⟩
      |2,_=>
       refine⟨_,_,hc _ rfl,rfl,TY eL sy,?_⟩
       obtain⟨a,len,cap,hs⟩:=(eL.1 y' (zP sy)).2.1
       rw[hs];rfl
      |3,_=>exact⟨_,_,hc _ rfl,rfl,.sc _,rfl⟩
      |4,_=>exact⟨_,_,hc _ rfl,rfl,.sc _,rfl⟩
      |5,_=>exact⟨_,_,hc _ rfl,rfl,.sc _,rfl⟩
      |6,_=>exact⟨_,_,hc _ rfl,rfl,.sc _,rfl⟩
     obtain⟨arr,T,yU,hb,dJ⟩:=Bt
     have p5:kc v 7=⟨b,cap*7,7,o⟩:=by rw[hv];rfl
     refine⟨kc v 7,rfl,⟨arr,yU,?_,(fun fc=>by cases fc),?_,by rw[p5];rfl,by rw[p5];exact dJ⟩⟩
     ·show W.heap[(kc v 7).b]?=some (.cells arr (zf W (kc v 7).b) yU)
      rw[p5,Hl hb];exact hb
     ·show((nQ l).flatMap cK).length<=(kc v 7).n
      rw[p5,gD fg,zh]
      exact Nat.mul_le_mul_right _ h1
  |i+2=>
   have h:((l[i]?).bind fun y=>if y.1.aD.length=0 then none else some (xI W y.2 1 (y.1.aD.flatMap dx)))=some o:=h
   obtain⟨y,hy,h2⟩:=Option.bind_eq_some_iff.1 h
   split at h2
   ·cases h2
   ·rename_i b7
    cases h2
    rcases(eL.1 y (zP hy)).1 with⟨_,_,_,h⟩ |⟨b,o,cap,hv,h1,h2,h3,h4⟩
    ·exact absurd (by rw[h];rfl) b7
    ·obtain⟨arr,T,yU,hb,dJ⟩:=h4 (Dc v l)
     have p5:kc y.2 1=⟨b,cap*1,1,o⟩:=by rw[hv];rfl
     refine⟨kc y.2 1,by simp only[Dc,hy,yB],⟨arr,yU,?_,(fun fc=>by cases fc),?_,by rw[p5];rfl,by rw[p5];exact dJ⟩⟩
     ·show W.heap[(kc y.2 1).b]?=some (.cells arr (zf W (kc y.2 1).b) yU)
      rw[p5,Hl hb];exact hb
     ·show(y.1.aD.flatMap dx).length<=(kc y.2 1).n
      rw[p5,gD iR]
      exact Nat.mul_le_mul_right _ h1
 ·match id,hid with
  |i+2,hid=>
   have:l.length<=i:=by have hh:l.length+2<=i+2:=hid;omega
   simp only[Dc,List.getElem?_eq_none this,Option.map_none]
theorem UN(eL:qP W v l):lZ (Jc W v l ty fz) (AK v l) (nQ l):=by
 refine⟨?_,fun y hy=>?_⟩
 ·by_cases h0:l.length=0
  ·have:l=[]:=List.length_eq_zero_iff.1 h0
   subst this
   rcases eL.2 with⟨a,c,hv,_⟩ |⟨_,_,_,_,_,_,h,_⟩
   ·exact .inr (.inl ⟨a,c,by rw[hv];rfl,rfl⟩)
   ·exact absurd rfl h
  ·refine .inr (.inr ⟨1,[],true,zf W (kc v 7).b,?_,fun h=>(by cases h),?_⟩)
   ·unfold AK;rw[zW h0,zh]
   ·show(if l.length=0 then none else some (xI W v 7 ((nQ l).flatMap cK)))=_
    rw[zW h0,List.append_nil];rfl
 ·obtain⟨i,hi⟩:=List.mem_iff_getElem?.1 hy
  rw[zi]at hi
  obtain⟨y',sy,rfl⟩:=Option.map_eq_some_iff.1 hi
  show cb dx 1 3 _ (EQ i y') y'.1.aD
  by_cases h0:y'.1.aD.length=0
  ·have he:y'.1.aD=[]:=List.length_eq_zero_iff.1 h0
   unfold EQ
   rw[zX h0,he]
   rcases(eL.1 y' (zP sy)).1 with⟨a,c,hv,_⟩ |⟨_,_,_,_,_,_,h,_⟩
   ·exact .inr (.inl ⟨a,c,by rw[hv],rfl⟩)
   ·exact absurd he h
  ·refine .inr (.inr ⟨i+2,[],true,zf W (kc y'.2 1).b,?_,fun h=>(by cases h),?_⟩)
   ·unfold EQ;rw[zW h0]
   ·show((l[i]?).bind fun y=>if y.1.aD.length=0 then none else some (xI W y.2 1 (y.1.aD.flatMap dx)))=_
    rw[sy,Option.bind_some,zW h0,List.append_nil];rfl
theorem UL:bS 0 (Jc W v l ty fz):=⟨ty,fz,rfl⟩
end
end
end Go.Proofs.YtjehibknlmehmaaGreatDoor
namespace Go.Ab
open Go.RowKit
def AH.empty:AH:=⟨fun _=>none,0,fun _ _ h=>by cases h⟩
theorem Rel.empty(w:World):Rel (fun _=>none) AH.empty w:=⟨fun _ _ h=>(by cases h),fun _ _ _ _ _ _ h=>(by cases h),fun _ _=>rfl⟩
theorem Step.below{E E':Env}{h h':AH}{w w':World}(s:Step E h (fun _=>False) w E' h' w'):Below w.heap.size w w':=⟨s.os,s.tape,s.output,s.size,fun b hb=>s.frame b hb fun _ _ _ hm=>hm.elim⟩
end Go.Ab
namespace Go.Proofs.YtjehibknlmehmaaGreatDoor
section
open Go.ChangeShapes Go.WideShapes Go.ChangeAt Go.RowKit Go.ChangeMaps
section
variable {H:Type} {enc:TypeId×Value->H} {P:Program}
theorem D3{f:Func}{s:ChangeSpec}{apart fresh handsOn again:Bool}{W W':World}{args:Array Value}{v:Value}{ds gs:List (DataW H)}{before pa pv:List MemPlace}
  (hW:DataW.Whole enc P f.params.toList s.vars apart W args.toList ds gs before)
  (rC:∀(b:Nat)(sp:Nat->Bool)(hd:Bool),DataW.TrodAll enc P W' b sp hd f.resultTypes.toList (v.resultList f.resultTypes.size) (s.fn H (ds++gs)).results [])
  (pJ:∀sp:Nat->Bool,(∀p∈before,sp p.block=true)->DataW.TrodAll enc P W' 0 sp true f.params.toList args.toList (s.fn H (ds++gs)).args pa)
  (Ql:∀sp:Nat->Bool,(∀p∈before,sp p.block=true)->DataW.TrodVars enc P W' sp s.vars (s.fn H (ds++gs)).vars pv)
  (tF:before=pa++pv) (hb:Below W.heap.size W W')
  (cA:∀(j:Nat)(t:TypeId)(r:Value),f.resultTypes[j]?=some t->(v.resultList f.resultTypes.size)[j]?=some r->Value.okWide P W' .any 0 t r) :
  s.post enc P f apart fresh handsOn again W args v W':=by
 have aJ:∀p∈before,p.block<W.heap.size:=fun p hp=>hW.lt p hp
 have hold:∀p∈before,(fun b=>decide (b<W.heap.size)) p.block=true:=fun p hp=>by simpa using aJ p hp
 refine⟨ds,gs,before,[],pa,pv,hW,rC _ _ _,pJ _ hold,Ql _ hold,World.keptBut_mono (fun p hp=>⟨hp,?_⟩) (hb.frame (·∈before)),fun _=>?_⟩
 ·rw[tF,List.mem_append]at hp
  exact Or.inr hp
 ·obtain⟨_,_,_,_,_,hz,hn⟩:=hW
  refine⟨cA,_,_,([]++pa)++pv,⟨[]++pa,pv,trodAll_append (pJ _ (fun _ _=>rfl)) (rC _ _ _),Ql _ (fun _ _=>rfl),rfl,?_,?_⟩,?_⟩
  ·intro b off hp
   have eL:MemPlace.cell b off∈before:=by rw[tF];simpa using hp
   rw[hb.frozen (aJ _ eL)]
   exact hz b off eL
  ·intro ha
   have:=hn ha
   rw[tF]at this
   simpa using this
  ·intro p hp _
   rw[tF]
   simpa using hp
end
theorem Tryz.own:ownKnob Tryz.prog.godebug=none:=by kernel_rfl
theorem Tryz.laidOut:laidOutB Tryz.prog=true:=by kernel_rfl
end
section
open Go.ChangeShapes Go.WideShapes Go.ChangeAt Go.RowKit Go.ChangeMaps Go.Ab
theorem V5 : Tryz.prog.globalNamed "internal/strconv.uint64pow10" = some 0 := by kernel_rfl
theorem Ow:(Tryz.prog.globals[0]?).map (·.type)=some 178:=by kernel_rfl
theorem RL{H:Type}:(Rows.laid_internal_strconv_uint64pow10:DataW H)=Lib.tabData .u64 Lib.pow10Tab:=by kernel_rfl
theorem R8{W:World}{v:Value}{l:List (bq×Value)}(eL:qP W v l):∀y∈nQ l,y.1.aD.length<=9223372036854775807:=by
 intro y hy
 obtain⟨i,hi⟩:=List.mem_iff_getElem?.1 hy
 rw[zi]at hi
 obtain⟨y',sy,rfl⟩:=Option.map_eq_some_iff.1 hi
 have hm:(maxLen:Nat)<=9223372036854775807:=by decide
 rcases(eL.1 y' (zP sy)).1 with⟨_,_,_,h⟩ |⟨b,o,cap,hv,h1,h2,_,_⟩
 ·show y'.1.aD.length<=_
  rw[h];simp
 ·show y'.1.aD.length<=_
  omega
theorem R7{W:World}{v:Value}{l:List (bq×Value)}(eL:qP W v l):∀o∈(nQ l).map (·.1),zc o:=by
 intro o ho
 rw[M0]at ho
 obtain⟨y,hy,rfl⟩:=List.mem_map.1 ho
 exact(eL.1 y hy).2.2
theorem JB{W W':World}(hb:Below W.heap.size W W'){x:MemPlace}(hx:x.block<W.heap.size):W.sameAt W' x:=by
 cases x with
 |cell b off=>
  show W'.cell? ⟨b,off,none⟩=W.cell? ⟨b,off,none⟩
  unfold World.cell?
  rw[hb.block b hx]
 |map b=>exact hb.block b hx
theorem SM{W:World}{base:Nat}{v a b c:Value}(h:Value.okWide Tryz.prog W .any base 24 v)(hc:v.cells.toList=[a,b,c]):v=.agg #[a,b,c]:=by
 obtain⟨cs,rfl,_⟩:=okWide_struct Tryz.underlying24 h
 have:cs.toList=[a,b,c]:=hc
 rw[show cs=#[a,b,c] from by cases cs;simp_all]
end
section
open Go.ChangeShapes Go.WideShapes Go.ChangeAt Go.RowKit Go.ChangeMaps Go.Ab
def YB(l:List Int):Array Value:=(l.map fun z=>Value.int .u8 z).toArray
def Xm:Array Value:=YB [0,1,28,2,29,14,24,3,30,22,20,15,25,17,4,8,31,27,13,23,21,19,16,7,26,12,18,6,11,5,10,9]
def Xl:Array Value:=YB [0,1,56,2,57,49,28,3,61,58,42,50,38,29,17,4,62,47,59,36,45,43,51,22,53,39,33,30,24,18,12,5,63,55,48,27,60,41,37,16,46,35,44,21,52,32,23,11,54,26,40,15,34,20,31,10,25,14,19,9,13,8,7,6]
def aau:Array Value:=(Lib.pow10Tab.map fun z=>Value.int .u64 z).toArray
def I1(a:Array Value):Go.Obj->Go.Obj
 |.cells _ t frozen=>.cells a t frozen
 |o=>o
noncomputable def wE(os:Os):World:=
 { World.holding Tryz.prog os ⟨#[],#[],[]⟩ with heap:=(((World.holding Tryz.prog os ⟨#[],#[],[]⟩).heap.modify 0 (I1 aau)).modify 2 (I1 Xm)).modify 3 (I1 Xl) }
end
section
open Go.ChangeShapes Go.WideShapes Go.ChangeAt Go.RowKit Go.ChangeMaps Go.Ab
theorem IQ{W:World}(h:laidMetH Tryz.prog Rows.flatBackRow.laid W):∃ty fz,W.heap[0]?=some (rj ty fz):=by
 have h1:laidMet Tryz.prog Rows.flatBackRow.laid W:=h
 have h2 : laidMet Tryz.prog [("internal/strconv.uint64pow10", Rows.laid_internal_strconv_uint64pow10)] W := laidMet.tail (laidMet.tail h1)
 rw[RL]at h2
 have h3:=Lib.tabIs_of_head V5 Ow Tryz.underlying178 Tryz.underlying36 (by kernel_rfl) (by kernel_rfl) h2
 unfold Lib.TabIs World.var? at h3
 rw[V5,Option.bind_some]at h3
 split at h3
 ·rename_i cs T fz hc
  cases h3
  exact⟨T,fz,hc⟩
 ·cases h3
theorem OX{W:World}{q b:Int}{v:Value}{l:List (bq×Value)}{ty:TypeId}{fz:Nat×Nat}(eL:qP W v l)(ht:W.heap[0]?=some (rj ty fz)) :
  Calls Tryz.prog 4 #[.agg #[.int .i64 q,.int .i64 b,v]] W fun e w'=>e=.returned (.bool true)/\Below W.heap.size W w':=by
 have hc:aB Tryz.prog 4 [.agg [I q,I b,AK v l]] (Jc W v l ty fz) (fun _=>False) (fun ae _=>ae=.ret (B true)):=NM (UN eL) UL (Nat.succ_pos _) (R8 eL) (R7 eL) fun _ _=>rfl
 refine(hc _ W [.agg #[.int .i64 q,.int .i64 b,v]] (UM eL ht) (.cons (.agg (vs:=[.int .i64 q,.int .i64 b,v]) (.cons (.sc _) (.cons (.sc _) (.cons (M3 eL) .nil)))) .nil)).mono ?_
 rintro e w' ⟨E',h',ae,eA,he,rfl⟩
 refine⟨?_,eA.below⟩
 cases e<;>first |exact he.elim |skip
 cases he
 rfl
theorem D5(H:Type)(enc:TypeId×Value->H)(W:World)(base:Nat)(args:Array Value)(ds gs:List (DataW H))(before:List MemPlace)
  (Jd:∀(j:Nat) t v,Tryz.f4.params[j]?=some t->args[j]?=some v->Value.okWide Tryz.prog W .any base t v)
  (hW:DataW.Whole enc Tryz.prog Tryz.f4.params.toList Rows.flatBackSpec.vars false W args.toList ds gs before) (hL:laidMetH Tryz.prog Rows.flatBackRow.laid W) :
  Calls Tryz.prog 4 args W fun e W'=>∃v,e=.returned v/\Rows.flatBackSpec.post enc Tryz.prog Tryz.f4 false true false false W args v W':=by
 have VT:=hW
 obtain⟨p,q,ZP,hV,rfl,my,hnd⟩:=hW
 have hA:DataW.TrodAll enc Tryz.prog W 0 (fun _=>true) true Tryz.f4.params.toList args.toList ds p:=ZP
 rw[Tryz.params4]at hA Jd
 obtain⟨v0,d0,rfl,rfl,h0⟩:=trodAll_one hA
 obtain⟨rfl,rfl⟩:=trodVars_none hV
 clear ZP
 simp only[List.append_nil]at VT
 have ol:=h0
 obtain⟨j7,hf⟩:=h0
 obtain⟨q,b,v1,l,hc,eL⟩:=OS hf
 have hv:=SM (Jd 0 24 v0 rfl rfl) hc
 subst hv
 obtain⟨ty,fz,hb⟩:=IQ hL
 refine(OX eL hb).mono fun e W' ⟨he,HS⟩=>?_
 subst he
 have mi:∀x∈p,W.sameAt W' x:=fun x hx=>JB HS (VT.lt x hx)
 exact⟨_,rfl,D3 (pa:=p) (pv:=[]) VT (fun _ _ _=>trodAll_mk1 (shut_bool Tryz.underlying4 true)) (fun sp HM=>trodAll_mk1 (WideElems.Trod_stays (P:=Tryz.prog) Tryz.laidOut (by kernel_rfl) (of_decide_eq_true (by kernel_rfl)) ol mi HM)) (fun _ _=>rfl) (by simp) HS (ok_one (by kernel_rfl) rfl (okWide_bool_mk Tryz.underlying4 true))⟩
theorem Lc(os:Os):laidMet Tryz.prog Rows.flatBackRow.laid ((wE os).forCall (fun _ _=>0) ⟨#[],#[.agg #[.int .i64 0,.int .i64 0,.slice none 0 0]],[]⟩).memory:=
 laidMet_of_run' 80 (by kernel_rfl) (by kernel_rfl)
theorem JD(os:Os){H:Type}(enc:TypeId×Value->H):∃places,DataW.whole enc Tryz.prog ((wE os).forCall (fun _ _=>0) ⟨#[],#[.agg #[.int .i64 0,.int .i64 0,.slice none 0 0]],[]⟩).memory Tryz.f4.params.toList Rows.flatBackSpec.vars false #[Value.agg #[.int .i64 0,.int .i64 0,.slice none 0 0]].toList 8=some ([.agg [.lit (.int .i64 0),.lit (.int .i64 0),.nil]],[],places):=
 ⟨[],by kernel_rfl⟩
theorem He(os:Os)(started:os.Started)(H:Type)(enc:TypeId×Value->H)(F:Stop.Interp) :
  ReturnsInHanded {} Tryz.checked os 4 .any ((OpenSpec.ofChange Rows.flatBackSpec).preRow enc Tryz.prog Tryz.f4 Rows.flatBackRow.domain false Rows.flatBackRow.laid) (((OpenSpec.ofChange Rows.flatBackSpec).at F).post enc Tryz.prog Tryz.f4 false true false false):=by
 obtain⟨places,hx⟩:=JD os enc
 refine returnsInHanded_of_row (C:=Tryz.checked) (s:=OpenSpec.ofChange Rows.flatBackSpec) Tryz.own started (by kernel_rfl) Tryz.func4
  (witness_row_at (enc:=enc) (C:=Tryz.checked) false (wE os) #[.agg #[.int .i64 0,.int .i64 0,.slice none 0 0]] rfl (by kernel_rfl) (by kernel_rfl) (by kernel_rfl)
   (OpenSpec.preRow_of_cond 8 hx (by kernel_rfl) (fun k hk=>by cases hk) (by kernel_rfl) (Lc os))) ?_
 intro W base args ds gs before Jd hW _ Ee _ hL _ _
 exact D5 H enc W base args ds gs before Jd hW hL
theorem Mv:Rows.FlatBackSaid:=
 OpenClaim.holds_of_cond 4 Tryz.f4 rfl rfl rfl rfl rfl rfl rfl ⟨rfl,rfl,rfl,rfl,rfl⟩ rfl rfl rfl rfl rfl (by kernel_rfl) Tryz.func4 (by kernel_rfl)
  (of_decide_eq_true (by kernel_rfl)) (by unfold Func.isWrapper;first |(rw[zX (by decide +kernel)];kernel_rfl) |(rw[zW (by decide +kernel)];exact⟨rfl,rfl⟩))
  (fun os started H enc _ F=>by rw[OpenClaim.pre_eq_preRow];exact He os started H enc F)
theorem JE (f : FuncId) (fn : Func) (hf : Tryz.pinned.checked.prog.funcNamed "cubit/cubitlaw12.FlatBack" = some f) (hfn : Tryz.pinned.checked.prog.funcs[f]? = some fn) :
  true=Tryz.pinned.checked.prog.looks []/\∀(j:Nat) t,fn.params[j]?=some t->Tryz.pinned.checked.prog.wantsStandIn t=false:=by
 obtain rfl : f = 4 := Option.some.inj ((show Tryz.prog.funcNamed "cubit/cubitlaw12.FlatBack" = some 4 by kernel_rfl).symm.trans hf) |>.symm
 obtain rfl:fn=Tryz.f4:=(Option.some.inj (Tryz.func4.symm.trans hfn)).symm
 refine⟨by kernel_rfl,fun j t ht=>?_⟩
 rw[Tryz.params4]at ht
 obtain rfl:t=24:=by simpa using Array.mem_of_getElem? ht
 exact(show Tryz.prog.wantsStandIn 24=false by kernel_rfl)
theorem back_card:Rows.FlatBackCardSaid:=
 Claim7.holds_tied_plain_at .later [] _ _ _ _ Mv (fun _ h=>by cases h) (by kernel_rfl) (fun _ h=>by cases h) flatBack_row_tie rfl ⟨rfl,rfl⟩ (by kernel_rfl) rfl JE (by kernel_rfl)
end
end Go.Proofs.YtjehibknlmehmaaGreatDoor
