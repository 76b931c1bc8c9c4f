/- The registers of a circuit; the rows of an operation, the document's and the program's. No condition. -/
import Derived.Test.YtjehibknlmehmaaGreatDoorSbk
import Derived.Test.YtjehibknlmehmaaGreatDoorFbk
set_option maxRecDepth 100000
namespace Go.Proofs.YtjehibknlmehmaaGreatDoor
section
open Go.Ab
attribute [-simp] aH az
def cB(k:Nat):List UInt8:=99::Lib.decDigits k
section
variable {h:AH} {M:Nat->Prop} {R:AE->AH->Prop}
theorem uN{k:Nat}(hk:k<=1000)(ht:bS 0 h)(hR:R (.ret (S (cB k))) h):aB Pg 16 [I k] h M R:=by
 apply Rk.aO
 unfold Rk.n2 Rk.n1
 refine⟨fun _=>False,fun _ h=>h.elim,Ce (n:=k) (by omega) (by omega) ht ?_⟩
 rw[Lib.itoa_nonneg]
 have hlen:(Lib.decDigits k).length<=100:=by
  have:=Lib.itoa_length_le (k:Nat) (by omega) (by omega)
  rw[Lib.itoa_nonneg]at this
  omega
 show ag Pg .add 9 true (S [99]) (S _) _
 rw[Yc]
 exact⟨by simp;omega,by simpa[aK,ly,i_,cB] using hR⟩
end
end
section
open Go.Ab
attribute [-simp] aH az
def jF(m b:Int):Int:=lW (m.fdiv (2^(min b.toNat IntKind.u64.bits))) 1
def sT(b:Int)(o:bq):Bool:=jF o.cR b != jF o.cR (b-1)
def sY(ops:List bq)(l:List (Int×Int))(b:Int):List (Int×Int):=
 match l.getLast? with
 |none=>[(b,1)]
 |some g=>if g.2=32\/ops.any (sT b)=true then l++[(b,1)] else l.dropLast++[(g.1,g.2+1)]
def b5(ops:List bq):Nat->List (Int×Int)
 |0=>[]
 |n+1=>sY ops (b5 ops n) n
theorem xe(ops:List bq):∀n,(b5 ops n).length<=n/\(0<n->0<(b5 ops n).length)
 |0=>⟨zU _,fun h=>by omega⟩
 |n+1=>by
  have h1:=(xe ops n).1
  simp only[b5,sY]
  split
  ·exact⟨by simp,fun _=>by simp⟩
  ·rename_i g hg
   have b7:b5 ops n≠[]:=fun e=>by rw[e]at hg;cases hg
   have wM:=List.length_pos_iff.2 b7
   split
   ·exact⟨by simp;omega,fun _=>by simp⟩
   ·exact⟨by simp;omega,fun _=>by simp⟩
theorem pz(ops:List bq):∀n,∀g∈b5 ops n,1<=g.2/\g.2<=32
 |0,g,h=>by cases h
 |n+1,g,h=>by
  have ih:=pz ops n
  simp only[b5,sY]at h
  split at h
  ·simp at h;subst h;exact⟨Int.le_refl 1,by show(1:Int)<=32;decide⟩
  ·rename_i g0 hg
   have h0:=ih g0 (List.mem_of_getLast? hg)
   split at h
   ·rcases List.mem_append.1 h with h |h
    ·exact ih g h
    ·simp at h;subst h;exact⟨Int.le_refl 1,by show(1:Int)<=32;decide⟩
   ·rename_i hc
    rcases List.mem_append.1 h with h |h
    ·exact ih g (List.dropLast_subset _ h)
    ·simp at h;subst h
     simp only[not_or]at hc
     exact⟨by show 1<=g0.2+1;omega,by show g0.2+1<=32;have:=hc.1;omega⟩
def lU(g:Int×Int):List AV:=[I g.1,I g.2]
theorem lT(g:Int×Int):(lU g).length=2:=rfl
theorem uF(g:Int×Int):(lU g).all cF=true:=rfl
theorem ug{α:Type}{f:α->List AV}{k:Nat}(hf:∀x,(f x).length=k):∀{l:List α}{i o:Nat}{x y:α}{v:AV},l[i]?=some x->o<k->(f x).set o v=f y->putCells (l.flatMap f) (i*k+o) [v]=(l.set i y).flatMap f
 |[],i,o,x,y,v,h,_,_=>by simp at h
 |a::l,0,o,x,y,v,h,ho,hv=>by
  simp at h;subst h
  simp only[putCells,Nat.zero_mul,zG,List.set_cons_zero,List.flatMap_cons]
  rw[List.set_append_left _ _ (by rw[hf];exact ho),hv]
 |a::l,i+1,o,x,y,v,h,ho,hv=>by
  simp at h
  have ih:=ug hf (l:=l) (i:=i) (o:=o) (y:=y) (v:=v) h ho hv
  simp only[putCells]at ih ⊢
  simp only[List.set_cons_succ,List.flatMap_cons]
  have e:(i+1)*k+o=(f a).length+(i*k+o):=by rw[hf,Nat.succ_mul];omega
  rw[e,List.set_append_right _ _ (by omega),Nat.add_sub_cancel_left,ih]
theorem Nc{α:Type}{l:List α}{x y:α}(h:l.getLast?=some x):l.set (l.length-1) y=l.dropLast++[y]:=by
 have b7:l≠[]:=fun e=>by rw[e]at h;cases h
 obtain⟨m,z,rfl⟩:∃m z,l=m++[z]:=⟨l.dropLast,l.getLast b7,(List.dropLast_concat_getLast b7).symm⟩
 simp
theorem Ot{α:Type}{l:List α}{x:α}(h:l.getLast?=some x):l[l.length-1]?=some x:=by rw[<-List.getLast?_eq_getElem?];exact h
theorem wl{t:TypeId}{c:Bool}{x y:Int}{K:AV->Prop}:ag Pg .shr t c (U x) (I y) K=(0<=y/\K (U (x.fdiv (2^(min y.toNat IntKind.u64.bits))))):=rfl
theorem X9{a b:Int}:dU (fun i=>[(0,1),(1,1)][i]?) ([Value.int .i64 0,.int .i64 0].map .sc) [(0,I a),(1,I b)]=some [I a,I b]:=rfl
section
variable {W:Nat->Prop} {QR QN:VK} {QE:Nat->VK} {QP:AV->AH->Prop} {h:AH} {vc:Nat} {q b:Int} {x xo:AV} {yl:List (bq×AV)}
theorem IB{k:Nat}{a0:Bool}(hx:lZ h x yl)(ov:h.obj vc=some (aI [I q,I b,x] 3 24))(hl:yl.length<=4096)(hk:a0=false->1<=k)(pX:k<=64){x5 au:AV}
  (hR:e_.n5 W QR QN QE QP (.ptr vc 0) xo (I k) x5 au (I k) (B (a0||(yl.map (·.1)).any (sT k))) h):e_.bF W QR QN QE QP (.ptr vc 0) xo (I k) x5 (B a0) (I 0) au (I k) h:=by
 unfold e_.bF
 refine cJ (ι:=Nat×Bool) (fun s v h'=>v=[.ptr vc 0,xo,I k,x5,B s.2,I s.1,au,I k]/\s.1<=yl.length/\h'=h/\s.2=(a0||((yl.map (·.1)).take s.1).any (sT k))) (fun s=>yl.length-s.1) (0,a0) ⟨rfl,by omega,rfl,by simp⟩ ?_
 rintro K ⟨i,a⟩ v h' ⟨rfl,hi,rfl,ha⟩ step
 simp only at hi ha
 have w1:IntKind.i64.wrap ((i:Int)+1)=((i+1:Nat):Int):=by rw[aX (by omega) (by omega)];simp
 simp only[e_.ju,zN,zO,e_.br,aj,aF,ov,aA,zG,zA,zB,ab,hx.dQ.len.1,hx.dQ.len.2,zH,bu]
 by_cases aJ:i<yl.length
 ·have dZ:(i:Int)<yl.length:=by omega
  cases a with
  |true=>
   have oe:(a0||(yl.map (·.1)).any (sT k))=true:=by
    cases a0 with
    |true=>rfl
    |false=>
     rw[Bool.false_or]at ha ⊢
     obtain⟨o,ho,hs⟩:=List.any_eq_true.1 ha.symm
     exact List.any_eq_true.2 ⟨o,List.mem_of_mem_take ho,hs⟩
   rw[oe]at hR
   simp only[zL dZ,e_.ba,dW,zS,zD,zF,zC,zI,d_,e_.bc,c_,zV,e_.aZ,ap,zE,zH,e_.n6]
   exact hR
  |false=>
   have ZG:a0=false:=by cases a0 with
    |false=>rfl
    |true=>simp at ha
   have pW:=hk ZG
   have g0:yl[i]?=some yl[i]:=zJ aJ
   have iz:(yl.map (·.1)).take (i+1)=(yl.map (·.1)).take i++[yl[i].1]:=by
    rw[List.take_add_one,List.getElem?_map,g0];rfl
   generalize yl[i]=y at *
   have w2:IntKind.i64.wrap ((k:Int)-1)=(k:Int)-1:=aX (by omega) (by omega)
   simp only[zL dZ,e_.ba,dW,zS,zD,zF,zC,zI,d_,zT,e_.bc,c_,zV,e_.aZ,ap,e_.n9,aj,aF,ov,aA,zG,zA,zB,ab]
   refine jI (k:=5) hx.dQ fg g0 (by omega) rfl fun _=>?_
   simp only[e_.n8,wl,sd,kO,w2,wm,e_.n7,bg,w1]
   refine⟨by omega,by omega,?_⟩
   refine step (i+1,jF y.1.cR k != jF y.1.cR ((k:Int)-1)) _ _ (by show _<_;omega) ⟨rfl,by show i+1<=_;omega,rfl,?_⟩
   show(jF y.1.cR k != jF y.1.cR ((k:Int)-1))=_
   rw[ZG,Bool.false_or]at ha ⊢
   rw[iz,List.any_append,<-ha,Bool.false_or]
   simp[sT]
 ·have FF:i=yl.length:=by omega
  have eG:¬((i:Int)<yl.length):=by omega
  rw[FF,List.take_of_length_le (by rw[zZ];omega)]at ha
  rw[<-ha]at hR
  simp only[zK eG,e_.ba,dW,zS,zE,zD,zC,zH,e_.bc,c_,if_false,e_.aZ,ap,zV,e_.n6]
  exact hR
end
end
section
open Go.Ab
attribute [-simp] aH az
theorem Hx{sz id len k:Nat}{K:AV->Prop}(h:k<len)(hK:K (.ptr id (k*sz))):cj (some (sz,none)) (.sl id 0 len) (I k) K:=by
 refine⟨⟨by omega,by omega⟩,?_⟩
 simpa using hK
theorem oD{h h1 h2:AH}{S:Nat->Prop}(a:Fr h h1 fun _=>False)(b:Fr h1 h2 S)(hs:∀i,S i->h.next<=i):Fr h h2 fun _=>False:=a.trans (b.mono fun i hi=>.inr (hs i hi))
section
variable {h:AH} {M:Nat->Prop} {R:AE->AH->Prop} {q b:Int} {x:AV} {yl:List (bq×AV)}
theorem SK(hx:lZ h x yl)(hl:yl.length<=4096)(hb:0<=b/\b<=64)(hR:∀xo h',bC lU 2 56 h' xo (b5 (yl.map (·.1)) b.toNat)->df (h.next<=·) xo->Fr h h' (fun _=>False)->R (.ret xo) h') :
  aB Pg 15 [.agg [I q,I b,x]] h M R:=by
 apply e_.aO
 unfold e_.cE
 refine dF (by show(true&&(true&&(cF x&&true)))=true;rw[hx.dQ.one.1];rfl) fun vc h1 f1 Ft oc=>?_
 simp only[e_.cG,e_.cN,aj,aF,oc,aA,zG,zA,zB,ab]
 unfold e_.cL
 refine cJ (ι:=Nat×AV) (fun s v h'=>v=[.ptr vc 0,s.2,I b,I s.1]/\s.1<=b.toNat/\bC lU 2 56 h' s.2 (b5 (yl.map (·.1)) s.1)/\df (h1.next<=·) s.2/\Fr h1 h' (fun _=>False)) (fun s=>b.toNat-s.1) (0,aV) ⟨rfl,by omega,.nil,(fun _ _ _ e=>by cases e),Fr.refl⟩ ?_
 rintro K ⟨k,xo⟩ v h' ⟨rfl,hk,hS,HX,f2⟩ step
 simp only at hk hS HX
 have sA:=(hx.be f1).be f2
 have YT:=f2.bI oc
 have hlen:=xe (yl.map (·.1)) k
 simp only[e_.cT,zN,zO,e_.cq,bu]
 by_cases aJ:(k:Int)<b
 ·have FI:=hS.gy
  have hW:df (fun id=>M id\/h.next<=id) xo:=fun i o n e=>.inr (zR f1.next (HX i o n e))
  have w3:IntKind.i64.wrap ((k:Int)+1)=((k+1:Nat):Int):=by rw[aX (by omega) (by omega)];simp
  simp only[zL aJ,e_.cl,ap,zD,zF,zC,zI,e_.bX,e_.bT,FI.len.1,FI.len.2,zH,kO]
  have more:∀{x5:AV},sY (yl.map (·.1)) (b5 (yl.map (·.1)) k) k=b5 (yl.map (·.1)) k++[((k:Int),1)]->e_.n5 (fun id=>M id\/h.next<=id) (aK Pg [.tmp 2] R) K (fun(i:Nat) (vs:List AV) (h1:AH)=>if i=0 then e_.n1 (fun id=>M id\/h.next<=id) (aK Pg [.tmp 2] R) (aK Pg [.tmp 2] R) (fun _ _ _=>False) (fun v h=>R (.b6 v) h) (vs.getD 0 aa) h1 else False) (fun v h=>R (.b6 v) h) (.ptr vc 0) xo (I k) x5 (I b) (I k) (B true) h':=fun{x5} hc=>by
   simp only[e_.n5,ap,zD,zF,zC,zI,e_.n4]
   refine⟨_,X9,?_⟩
   refine sN (t:=((k:Int),(1:Int))) lT (by omega) rfl uF (by decide) hS hW (by omega) fun v y h2 rF abX f3=>?_
   simp only[e_.n2,bg,w3]
   refine step (k+1,y) _ _ (by show _<_;omega) ⟨rfl,by show k+1<=_;omega,?_,fun i o n e=>zR f2.next (abX i o n e),oD f2 f3 fun i hi=>?_⟩
   ·show bC lU 2 56 h2 y (sY _ _ _)
    rw[hc];exact rF
   ·obtain⟨o,n,e⟩:=hi;exact HX i o n e
  cases hg:(b5 (yl.map (·.1)) k).getLast? with
  |none=>
   have Oc:b5 (yl.map (·.1)) k=[]:=List.getLast?_eq_none_iff.1 hg
   have hc:sY (yl.map (·.1)) (b5 (yl.map (·.1)) k) k=b5 (yl.map (·.1)) k++[((k:Int),1)]:=by rw[Oc];rfl
   have w1:IntKind.i64.wrap (((b5 (yl.map (·.1)) k).length:Int)-1)=-1:=by rw[Oc,aX (by simp) (by simp)];rfl
   simp only[w1,e_.bW,bu,show decide ((-1:Int)<0)=true from rfl,e_.bN,dW,zT,zF,zD,zC,zH,e_.bP,c_,zV,e_.bM]
   refine IB (a0:=true) sA YT hl (fun h=>by cases h) (by omega) ?_
   exact more hc
  |some g=>
   have b7:0<(b5 (yl.map (·.1)) k).length:=List.length_pos_iff.2 fun e=>by rw[e]at hg;cases hg
   have Vw:=Ot hg
   have gO:=pz (yl.map (·.1)) k g (List.mem_of_getLast? hg)
   have VN:sY (yl.map (·.1)) (b5 (yl.map (·.1)) k) k=if g.2=32\/(yl.map (·.1)).any (sT k)=true then b5 (yl.map (·.1)) k++[((k:Int),1)] else(b5 (yl.map (·.1)) k).dropLast++[(g.1,g.2+1)]:=by unfold sY;rw[hg]
   have w1:IntKind.i64.wrap (((b5 (yl.map (·.1)) k).length:Int)-1)=(((b5 (yl.map (·.1)) k).length-1:Nat):Int):=by rw[aX (by omega) (by omega)];omega
   have yH:¬((((b5 (yl.map (·.1)) k).length-1:Nat):Int)<0):=by omega
   simp only[w1,e_.bW,bu,zK yH,e_.bN,dW,zT,zD,zE,zC,zI]
   refine jI (k:=1) FI lT Vw (by omega) rfl fun _=>?_
   simp only[eO,e_.bP,c_,zE,if_false,e_.bM]
   refine IB (a0:=(g.2==32)) sA YT hl (fun h=>by
    by_cases e:k=0
    ·subst e;exact absurd b7 (by simp[b5])
    ·omega) (by omega) ?_
   cases ha:((g.2==32)||(yl.map (·.1)).any (sT k)) with
   |true=>
    refine more ?_
    rw[VN,zX]
    rcases(Bool.or_eq_true _ _).mp ha with h |h
    ·exact .inl (by simpa using h)
    ·exact .inr h
   |false=>
    rw[Bool.or_eq_false_iff]at ha
    rw[zW (by simp[ha.2];simpa using ha.1)]at VN
    rcases hS with⟨_,e⟩ |⟨id,rfl,ho⟩
    ·rw[e]at b7;simp at b7
    have w4:IntKind.i64.wrap (g.2+1)=g.2+1:=aX (by omega) (by omega)
    have hid:=HX id _ _ rfl
    simp only[e_.n5,ap,zE,zD,zC,zH,e_.n3]
    refine jI (k:=1) FI lT Vw (by omega) rfl fun _=>?_
    simp only[bg,w4]
    refine Hx (by omega) ?_
    have mV:((b5 (yl.map (·.1)) k).length-1)*2+1<((b5 (yl.map (·.1)) k).flatMap lU).length:=by
     rw[gD lT];omega
    simp only[aj,az,ho,eY,cn]
    refine⟨⟨.inr (zR f1.next hid),rfl,rfl,by show _+1<=_;omega⟩,?_⟩
    have o1:=gW (off:=((b5 (yl.map (·.1)) k).length-1)*2+1) (cs:=[I (g.2+1)]) ho
    have f3:Fr h' (h'.put id (((b5 (yl.map (·.1)) k).length-1)*2+1) [I (g.2+1)]) (·=id):=Fr.refl.put (.inl rfl)
    generalize h'.put id (((b5 (yl.map (·.1)) k).length-1)*2+1) [I (g.2+1)]=h2 at *
    simp only[e_.n2,bg,w3]
    have e2:(b5 (yl.map (·.1)) (k+1))=(b5 (yl.map (·.1)) k).dropLast++[(g.1,g.2+1)]:=VN
    have e3:(b5 (yl.map (·.1)) (k+1)).length=(b5 (yl.map (·.1)) k).length:=by rw[e2];simp;omega
    refine step (k+1,_) _ _ (by show _<_;omega) ⟨rfl,by show k+1<=_;omega,.inr ⟨id,by rw[e3],?_⟩,HX,oD f2 f3 fun i hi=>by subst hi;exact hid⟩
    rw[o1,ug lT Vw (by omega) (y:=(g.1,g.2+1)) (by simp[lU]),Nc hg,e2]
 ·have vq:k=b.toNat:=by omega
  simp only[zK aJ,e_.cl,ap,zE,zD,zC,zH,zV,e_.n1]
  rw[vq]at hS
  have:=hR xo h' hS (fun i o n e=>zR f1.next (HX i o n e)) (f1.bQ f2)
  simpa[aK,ly,i_] using this
end
end
section
open Go.Ab
attribute [-simp] aH az
def We(y:Nat×(Int×Int)):List AV:=[S (cB y.1),I y.2.1,I y.2.2]
def du(l:List (Int×Int)):List (Nat×(Int×Int)):=l.mapIdx fun i g=>(i,g)
theorem ny{l:List (Int×Int)}:(du l).length=l.length:=by simp[du]
theorem nz{l:List (Int×Int)}{i:Nat}:(du l)[i]?=(l[i]?).map fun g=>(i,g):=by simp[du]
end
section
open Go.Ab
attribute [-simp] aH az
end
section
open Go.Ab
attribute [-simp] aH az
def cS(o:bq):List Arg:=o.aD.map fun q=>⟨bs [113],q⟩
def dL(b:Int)(l:List (Nat×(Int×Int))):List Arg:=l.flatMap fun y=>if y.2.1<=b/\b<y.2.1+y.2.2 then[⟨bs (cB y.1),b-y.2.1⟩] else[]
def cp(o:bq)(ao:List (Int×Int)):Row:=
 if o.kind=2 then⟨aQ,ByteArray.empty,cS o++dL o.bit (du ao),0,0,0⟩
 else if o.kind=3 then⟨bB,ByteArray.empty,cS o,0,0,0⟩
 else⟨bw,o.name,cS o,0,0,0⟩
def O7(x:AV):Prop:=x=aV\/∃i j l,x=.sl i j l
theorem bC.NT{α:Type}{f:α->List AV}{sz:Nat}{ty:TypeId}{h:AH}{x:AV}{l:List α}(hl:bC f sz ty h x l):O7 x:=by
 rcases hl with⟨rfl,_⟩ |⟨id,rfl,_⟩
 ·exact .inl rfl
 ·exact .inr ⟨_,_,_,rfl⟩
theorem Wu{k n:ByteArray}{x:AV}(hx:O7 x):dU (fun i=>[(0,1),(1,1),(2,1),(3,1),(4,1),(5,1)][i]?) ([Value.string ⟨#[]⟩,.string ⟨#[]⟩,.slice none 0 0,.int .i64 0,.int .i64 0,.int .i64 0].map .sc) [(0,Sb k),(1,Sb n),(2,x)]=some [Sb k,Sb n,x,I 0,I 0,I 0]:=by
 rcases hx with rfl |⟨i,j,l,rfl⟩<;>rfl
theorem Ih{k:ByteArray}{x:AV}(hx:O7 x):dU (fun i=>[(0,1),(1,1),(2,1),(3,1),(4,1),(5,1)][i]?) ([Value.string ⟨#[]⟩,.string ⟨#[]⟩,.slice none 0 0,.int .i64 0,.int .i64 0,.int .i64 0].map .sc) [(0,Sb k),(2,x)]=some [Sb k,Sb ByteArray.empty,x,I 0,I 0,I 0]:=by
 rcases hx with rfl |⟨i,j,l,rfl⟩<;>rfl
theorem Ms{s:List UInt8}{a:Int}:dU (fun i=>[(0,1),(1,1)][i]?) ([Value.string ⟨#[]⟩,.int .i64 0].map .sc) [(0,S s),(1,I a)]=some [S s,I a]:=rfl
theorem Xo{h:AH}{R:AE->AH->Prop}{v:Nat}{cs:List AV}(ho:h.obj v=some (aI cs 6 46))(hc:cs.length=6)(hR:R (.ret (.agg cs)) h):aK Pg [.cell 4 46] R [.ptr v 0] h:=by
 unfold aK ly
 rw[show ke Pg 46=some true by kernel_rfl,show eM Pg 46=some 6 by kernel_rfl]
 refine dX ho hc fun _=>?_
 simpa[ly,i_] using hR
section
variable {W:Nat->Prop} {QR QN:VK} {QE:Nat->VK} {QP:AV->AH->Prop} {h0 h:AH} {R:AE->AH->Prop} {v2 v4:Nat} {xq x5 xr:AV} {o:bq} {ao:List (Int×Int)}
structure SD (W:Nat->Prop) (h0 h:AH) (v2 v4:Nat) (o:bq) (xq xr:AV) (ao:List (Int×Int)):Prop where
 o2:h.obj v2=some (aI (cK (o,xq)) 7 38)
 o4:∃cs,h.obj v4=some (aI cs 6 46)/\cs.length=6
 n4:h0.next<=v4
 W:∀id,h0.next<=id->W id
 q:cb dx 1 3 h xq o.aD
 r:cb lU 2 56 h xr ao
 f:Fr h0 h (fun _=>False)
theorem Cd{cs:List AV}{r:Row}(d:SD W h0 h v2 v4 o xq xr ao)(hc:cs=ay (r,x5))(hx:cF x5=true)(hR:∀h',Fr h h' (·=v4)->R (.ret (.agg (ay (r,x5)))) h') :
  aE (some 6) (.ptr v4 0) (.agg cs) h W fun h5=>aK Pg [.cell 4 46] R [.ptr v4 0] h5:=by
 obtain⟨c0,ho,hl⟩:=d.o4
 subst hc
 simp only[az,ho,ib,cn]
 refine⟨⟨d.W _ d.n4,by show(true&&(true&&(cF x5&&(true&&(true&&(true&&true))))))=true;rw[hx];rfl,rfl,by rw[hl];exact zU _⟩,?_⟩
 refine Xo (cs:=ay (r,x5)) ?_ rfl (hR _ (Fr.refl.put (.inl rfl)))
 rw[gW ho,lX (by rw[hl];rfl)]
end
end
section
open Go.Ab
attribute [-simp] aH az
section
variable {W:Nat->Prop} {QR QN:VK} {QE:Nat->VK} {QP:AV->AH->Prop} {h0 h:AH} {R:AE->AH->Prop} {v2 v4:Nat} {xq x5 xr:AV} {o:bq} {ao:List (Int×Int)}
theorem SD.fr{h':AH}{S:Nat->Prop}(d:SD W h0 h v2 v4 o xq xr ao)(f:Fr h h' S)(hs:∀i,S i->h0.next<=i/\i≠v2/\i≠v4)(q':cb dx 1 3 h' xq o.aD)(r':cb lU 2 56 h' xr ao):SD W h0 h' v2 v4 o xq xr ao:=by
 obtain⟨c0,ho,hl⟩:=d.o4
 exact⟨f.obj d.o2 fun e=>(hs _ e).2.1 rfl,⟨c0,f.obj ho fun e=>(hs _ e).2.2 rfl,hl⟩,d.n4,d.W,q',r',oD d.f f fun i hi=>(hs i hi).1⟩
theorem SD.dY{h':AH}{l:List Arg}(d:SD W h0 h v2 v4 o xq xr ao)(hS:bC Arg.enc 2 67 h x5 l)(hI:df (h0.next<=·) x5)(f:Fr h h' (fun i=>∃off n,x5=.sl i off n)):SD W h0 h' v2 v4 o xq xr ao:=by
 have ty:∀i,(∃off n,x5=.sl i off n)->∃cs,h.obj i=some (aI cs 2 67):=fun i ⟨off,n,e⟩=>by
  rcases hS with⟨e2,_⟩ |⟨j,e2,ho⟩
  ·rw[e2]at e;cases e
  ·rw[e2]at e;cases e;exact⟨_,ho⟩
 obtain⟨c0,ho,hl⟩:=d.o4
 refine d.fr f (fun i hi=>⟨hI i _ _ hi.choose_spec.choose_spec,fun e=>?_,fun e=>?_⟩) (d.q.fr f fun i o hi ht e=>?_) (d.r.fr f fun i o hi ht e=>?_)
 ·obtain⟨cs,h1⟩:=ty i hi;rw[e,d.o2]at h1;cases h1
 ·obtain⟨cs,h1⟩:=ty i hi;rw[e,ho]at h1;cases h1
 ·obtain⟨cs,h1⟩:=ty i e;rw[hi]at h1;cases h1;exact absurd (ht rfl) (show(67:Nat)≠3 by decide)
 ·obtain⟨cs,h1⟩:=ty i e;rw[hi]at h1;cases h1;exact absurd (ht rfl) (show(67:Nat)≠56 by decide)
theorem bS.se{h':AH}{S:Nat->Prop}(ht:bS 0 h)(hn:h0.next<=h.next)(ol:0<h0.next)(f:Fr h h' S)(hs:∀i,S i->h0.next<=i):bS 0 h':=bS.fr ht f fun e=>by have:=hs 0 e;omega
end
end
section
open Go.Ab
attribute [-simp] aH az
theorem Hc{b:Int}{l m:List (Nat×(Int×Int))}:dL b (l++m)=dL b l++dL b m:=by simp[dL]
theorem s_{b:Int}:∀{l:List (Nat×(Int×Int))},(dL b l).length<=l.length
 |[]=>by simp[dL]
 |y::l=>by
  have ih:=s_ (b:=b) (l:=l)
  have e:dL b (y::l)=(if y.2.1<=b/\b<y.2.1+y.2.2 then[⟨bs (cB y.1),b-y.2.1⟩] else[])++dL b l:=rfl
  rw[e,List.length_append,List.length_cons]
  split<;>simp<;>omega
section
variable {W:Nat->Prop} {QR QN:VK} {QE:Nat->VK} {QP:AV->AH->Prop} {h0 h:AH} {R:AE->AH->Prop} {v2 v4:Nat} {xq x5 xr:AV} {o:bq} {ao:List (Int×Int)}
theorem Px(d:SD W h0 h v2 v4 o xq xr ao)(ht:bS 0 h)(ol:0<h0.next)(hS:bC Arg.enc 2 67 h x5 (cS o))(hI:df (h0.next<=·) x5)(hq:o.aD.length<=100)(hr:ao.length<=64)(hg:∀g∈ao,0<=g.1/\g.1<=100/\0<=g.2/\g.2<=100)(hb:0<=o.bit/\o.bit<=100)
  (hR:∀x5 h',bC Arg.enc 2 67 h' x5 (cS o++dL o.bit (du ao))->df (h0.next<=·) x5->SD W h0 h' v2 v4 o xq xr ao->fF.n2 W QR QN QE QP (.ptr v4 0) x5 h') :
  fF.ba W QR QN QE QP (.ptr v2 0) (.ptr v4 0) x5 xr (I ao.length) (I 0) h:=by
 unfold fF.ba
 refine cJ (ι:=Nat×AV) (fun s v h'=>v=[.ptr v2 0,.ptr v4 0,s.2,xr,I ao.length,I s.1]/\s.1<=ao.length/\bC Arg.enc 2 67 h' s.2 (cS o++dL o.bit ((du ao).take s.1))/\df (h0.next<=·) s.2/\SD W h0 h' v2 v4 o xq xr ao/\bS 0 h') (fun s=>ao.length-s.1) (0,x5) ⟨rfl,by omega,by simpa[dL] using hS,hI,d,ht⟩ ?_
 rintro K ⟨k,x5⟩ v h' ⟨rfl,hk,hS,hI,d,ht⟩ step
 simp only at hk hS hI
 have w3:IntKind.i64.wrap ((k:Int)+1)=((k+1:Nat):Int):=by rw[aX (by omega) (by omega)];simp
 simp only[fF.cT,zN,zO,fF.bc,bu]
 by_cases aJ:k<ao.length
 ·have dZ:(k:Int)<ao.length:=by omega
  have g0:ao[k]?=some ao[k]:=zJ aJ
  have Zy:=hg _ (List.getElem_mem aJ)
  generalize ao[k]=g at *
  have iz:(du ao).take (k+1)=(du ao).take k++[(k,g)]:=by
   rw[List.take_add_one,nz,g0];rfl
  have uC:dL o.bit ((du ao).take (k+1))=dL o.bit ((du ao).take k)++(if g.1<=o.bit/\o.bit<g.1+g.2 then[⟨bs (cB k),o.bit-g.1⟩] else[]):=by
   rw[iz,Hc];simp[dL]
  have hl1:(cS o++dL o.bit ((du ao).take k)).length<=200:=by
   have:=s_ (b:=o.bit) (l:=(du ao).take k)
   rw[List.length_append,cS,zZ]
   rw[yA]at this
   omega
  simp only[zL dZ,fF.aZ,ap,zD,zF,zC,zI,fF.n9]
  refine nT d.r lT g0 fun _=>?_
  refine fV (cs:=lU g) (uF g) rfl rfl rfl (fun id hid=>d.W id (zR d.f.next hid)) fun v9 h2 f2 Y_ o9=>?_
  have d2:SD W h0 h2 v2 v4 o xq xr ao:=d.fr f2 (fun _ h=>h.elim) (d.q.be f2) (d.r.be f2)
  have wJ:bS 0 h2:=bS.be ht f2
  have rF:bC Arg.enc 2 67 h2 x5 (cS o++dL o.bit ((du ao).take k)):=hS.frame fun i of n e=>by
   rcases hS with⟨e2,_⟩ |⟨j,e2,ho⟩
   ·rw[e2]at e;cases e
   ·rw[e2]at e;cases e
    rw[ho];exact f2.bI ho
  have wa:IntKind.i64.wrap (g.1+g.2)=g.1+g.2:=aX (by omega) (by omega)
  have wb:IntKind.i64.wrap (o.bit-g.1)=o.bit-g.1:=aX (by omega) (by omega)
  have pass:¬(g.1<=o.bit/\o.bit<g.1+g.2)->K [.ptr v2 0,.ptr v4 0,x5,xr,I ao.length,I (k+1:Nat)] h2:=fun hc=>by
   refine step (k+1,x5) _ _ (by show _<_;omega) ⟨rfl,by show k+1<=_;omega,?_,hI,d2,wJ⟩
   rw[uC,zW hc,List.append_nil];exact rF
  simp only[fF.n8,aj,aF,d2.o2,o9,aA,zG,cK,lU,zA,zB,ab,pb,ge_iff_le]
  by_cases c1:g.1<=o.bit
  ·simp only[zL c1,fF.n7,dW,zD,zS,zF,zC,zI,aj,aF,d2.o2,o9,aA,zG,cK,lU,zA,zB,ab,bg,wa,bu,fF.n6,c_,zV]
   by_cases c2:o.bit<g.1+g.2
   ·simp only[zL c2,fF.n5,ap,zD,zF,zC,zI,fF.n4,aj,aF,d2.o2,o9,aA,zG,cK,lU,zA,zB,ab,kO,wb]
    refine⟨fun _=>False,fun _ h=>h.elim,uN (by omega) wJ ?_⟩
    refine⟨_,Ms,?_⟩
    refine sN (f:=Arg.enc) (sz:=2) (bytes:=24) (ty:=67) (z:=[.string ⟨#[]⟩,.int .i64 0]) (t:=⟨bs (cB k),o.bit-g.1⟩) Arg.b8 (by omega) rfl Arg.h_ (by decide) rF (fun i of n e=>d2.W i (hI i of n e)) (by omega) fun v y h3 oP rG f3=>?_
    simp only[fF.n3,bg,w3]
    have d3:=d2.dY rF hI f3
    refine step (k+1,y) _ _ (by show _<_;omega) ⟨rfl,by show k+1<=_;omega,?_,fun i of n e=>zR d2.f.next (rG i of n e),d3,bS.se wJ d2.f.next ol f3 fun i hi=>hI i _ _ hi.choose_spec.choose_spec⟩
    rw[uC,zX ⟨c1,c2⟩,<-List.append_assoc];exact oP
   ·simp only[zK c2,fF.n5,ap,zE,zD,zC,zH,fF.n3,bg,w3]
    exact pass fun h=>c2 h.2
  ·simp only[zK c1,fF.n7,dW,zS,zE,zD,zC,zH,fF.n6,c_,if_false,fF.n5,ap,fF.n3,bg,w3]
   exact pass fun h=>c1 h.1
 ·have vq:k=ao.length:=by omega
  have eG:¬((k:Int)<ao.length):=by omega
  simp only[zK eG,fF.aZ,ap,zE,zD,zC,zH,zV]
  refine hR x5 h' ?_ hI d
  rw[vq,List.take_of_length_le (by rw[ny];omega)]at hS
  exact hS
end
end
section
open Go.Ab
attribute [-simp] aH az
section
variable {h:AH} {M:Nat->Prop} {R:AE->AH->Prop} {xq xr:AV} {o:bq} {ao:List (Int×Int)}
theorem FY(ht:bS 0 h)(ol:0<h.next)(hq:cb dx 1 3 h xq o.aD)(hr:cb lU 2 56 h xr ao)(oK:o.aD.length<=100)(rB:ao.length<=64)(hg:∀g∈ao,0<=g.1/\g.1<=100/\0<=g.2/\g.2<=100)(hb:0<=o.bit/\o.bit<=100)
  (hR:∀xa h',bC Arg.enc 2 67 h' xa (cp o ao).args->df (h.next<=·) xa->Fr h h' (fun _=>False)->R (.ret (.agg (ay (cp o ao,xa)))) h') :
  aB Pg 17 [.agg (cK (o,xq)),xr] h M R:=by
 apply fF.aO
 unfold fF.cX
 refine dF (cs:=cK (o,xq)) (lS hq.one.1) fun v2 h1 f1 Dg o2=>?_
 have hv:=AH.cg h1 (aI ([Value.string ⟨#[]⟩,.string ⟨#[]⟩,.slice none 0 0,.int .i64 0,.int .i64 0,.int .i64 0].map AV.sc) 6 46)
 rw[aH]
 refine⟨rfl,?_⟩
 have f2:Fr h1 (h1.alloc (aI ([Value.string ⟨#[]⟩,.string ⟨#[]⟩,.slice none 0 0,.int .i64 0,.int .i64 0,.int .i64 0].map AV.sc) 6 46)) (fun _=>False):=Fr.refl.alloc _
 generalize h1.alloc (aI ([Value.string ⟨#[]⟩,.string ⟨#[]⟩,.slice none 0 0,.int .i64 0,.int .i64 0,.int .i64 0].map AV.sc) 6 46)=h2 at *
 have vp:=f1.next
 obtain⟨v4,hv4⟩:∃v,v=h1.next:=⟨_,rfl⟩
 rw[<-hv4]at hv ⊢
 have bY:=f1.bQ f2
 have d:SD (fun id=>M id\/h.next<=id) h h2 v2 v4 o xq xr ao:=⟨f2.bI o2,⟨_,hv,rfl⟩,by omega,fun id hid=>.inr hid,hq.be bY,hr.be bY,bY⟩
 have wJ:bS 0 h2:=bS.be ht bY
 simp only[fF.cV,fF.cE,aj,aF,d.o2,aA,zG,cK,zA,zB,ab,d.q.len.1,d.q.len.2,zH]
 unfold fF.cG
 refine cJ (ι:=Nat×AV) (fun s v h'=>v=[xr,.ptr v2 0,.ptr v4 0,s.2,xq,I o.aD.length,I s.1]/\s.1<=o.aD.length/\bC Arg.enc 2 67 h' s.2 ((cS o).take s.1)/\df (h.next<=·) s.2/\SD (fun id=>M id\/h.next<=id) h h' v2 v4 o xq xr ao/\bS 0 h') (fun s=>o.aD.length-s.1) (0,aV) ⟨rfl,by omega,.nil,(fun _ _ _ e=>by cases e),d,wJ⟩ ?_
 clear d wJ
 rintro K ⟨k,x5⟩ v h' ⟨rfl,hk,hS,hI,d,Bl⟩ step
 simp only at hk hS hI
 have w3:IntKind.i64.wrap ((k:Int)+1)=((k+1:Nat):Int):=by rw[aX (by omega) (by omega)];simp
 simp only[fF.ju,zN,zO,fF.cN,bu]
 by_cases aJ:k<o.aD.length
 ·have dZ:(k:Int)<o.aD.length:=by omega
  have g0:o.aD[k]?=some o.aD[k]:=zJ aJ
  generalize o.aD[k]=q at *
  have iz:(cS o).take (k+1)=(cS o).take k++[⟨bs [113],q⟩]:=by
   rw[List.take_add_one,cS,List.getElem?_map,g0];rfl
  simp only[zL dZ,fF.cL,ap,zD,zF,zC,zI,fF.cq]
  refine ma d.q iR g0 rfl fun _=>?_
  simp only[fF.cl]
  refine⟨_,Ms (s:=[113]),?_⟩
  refine sN (f:=Arg.enc) (sz:=2) (bytes:=24) (ty:=67) (z:=[.string ⟨#[]⟩,.int .i64 0]) (t:=⟨bs [113],q⟩) Arg.b8 (by omega) rfl Arg.h_ (by decide) hS (fun i of n e=>d.W i (hI i of n e)) (by rw[yA];omega) fun v y h3 oP rG f3=>?_
  simp only[fF.bX,bg,w3]
  refine step (k+1,y) _ _ (by show _<_;omega) ⟨rfl,by show k+1<=_;omega,?_,fun i of n e=>zR d.f.next (rG i of n e),d.dY hS hI f3,bS.se Bl d.f.next ol f3 fun i hi=>hI i _ _ hi.choose_spec.choose_spec⟩
  rw[iz];exact oP
 ·have vq:k=o.aD.length:=by omega
  have eG:¬((k:Int)<o.aD.length):=by omega
  have oe:(cS o).take k=cS o:=List.take_of_length_le (by rw[cS,zZ];omega)
  rw[oe]at hS
  simp only[zK eG,fF.cL,ap,zE,zD,zC,zH,zV,zN,zO,fF.bT,aj,aF,d.o2,aA,zG,cK,zA,zB,ab,fF.bW,eO]
  by_cases k2:o.kind=2
  ·have e2:(o.kind==2)=true:=by simp[k2]
   have kR:cp o ao=⟨aQ,ByteArray.empty,cS o++dL o.bit (du ao),0,0,0⟩:=by unfold cp;rw[zX k2]
   simp only[e2,fF.bN,ap,zD,zF,zC,zI,fF.br,d.r.len.1,d.r.len.2,zH]
   refine Px d Bl ol hS hI oK rB hg hb fun x5 h4 HV hI4 d4=>?_
   unfold fF.n2
   refine⟨_,Ih (bC.NT HV),?_⟩
   refine Cd (r:=cp o ao) d4 (by rw[kR];rfl) HV.gy.one.1 fun h5 f5=>?_
   have fn:Fr h h5 fun _=>False:=oD d4.f f5 fun i hi=>by subst hi;exact d4.n4
   refine hR x5 h5 ?_ hI4 fn
   rw[kR]
   refine HV.frame fun i of n e=>?_
   obtain⟨cs,ho,_⟩:=d4.o4
   rcases HV with⟨e2,_⟩ |⟨j,e2,hj⟩
   ·rw[e2]at e;cases e
   ·rw[e2]at e;cases e
    rw[hj];exact f5.obj hj fun e=>by subst e;rw[ho]at hj;cases hj
  ·have e2:(o.kind==2)=false:=by simp[k2]
   have V4:(cp o ao).args=cS o->∀h5,Fr h' h5 (·=v4)->R (.ret (.agg (ay (cp o ao,x5)))) h5:=fun ha h5 f5=>by
    have fn:Fr h h5 fun _=>False:=oD d.f f5 fun i hi=>by subst hi;exact d.n4
    refine hR x5 h5 ?_ hI fn
    rw[ha]
    refine hS.frame fun i of n e=>?_
    obtain⟨cs,ho,_⟩:=d.o4
    rcases hS with⟨e2,_⟩ |⟨j,e2,hj⟩
    ·rw[e2]at e;cases e
    ·rw[e2]at e;cases e
     rw[hj];exact f5.obj hj fun e=>by subst e;rw[ho]at hj;cases hj
   simp only[e2,fF.bN,ap,zE,zD,zC,zH,fF.bP,eO]
   by_cases k3:o.kind=3
   ·have e3:(o.kind==3)=true:=by simp[k3]
    have kR:cp o ao=⟨bB,ByteArray.empty,cS o,0,0,0⟩:=by unfold cp;rw[zW k2,zX k3]
    simp only[e3,fF.bM,ap,zD,zF,zC,zI,fF.bF]
    refine⟨_,Ih (bC.NT hS),?_⟩
    exact Cd (r:=cp o ao) d (by rw[kR];rfl) hS.gy.one.1 (V4 (by rw[kR]))
   ·have e3:(o.kind==3)=false:=by simp[k3]
    have kR:cp o ao=⟨bw,o.name,cS o,0,0,0⟩:=by unfold cp;rw[zW k2,zW k3]
    simp only[e3,fF.bM,ap,zE,zD,zC,zH,fF.n1,aj,aF,d.o2,aA,zG,cK,zA,zB,ab]
    refine⟨_,Wu (bC.NT hS),?_⟩
    exact Cd (r:=cp o ao) d (by rw[kR];rfl) hS.gy.one.1 (V4 (by rw[kR]))
end
end
section
open Go.Ab
attribute [-simp] aH az
def fi:List (Int×Int)->Int->Int->Prop
 |[],a,b=>a=b
 |g::t,a,b=>g.1=a/\1<=g.2/\fi t (a+g.2) b
theorem fi.le:∀{l:List (Int×Int)}{a b:Int},fi l a b->a<=b
 |[],_,_,h=>Int.le_of_eq h
 |g::t,a,b,h=>by have:=fi.le h.2.2;have:=h.2.1;omega
theorem fi.dY:∀{l m:List (Int×Int)}{a b c:Int},fi l a b->fi m b c->fi (l++m) a c
 |[],_,_,_,_,h,k=>by cases h;exact k
 |_::_,_,_,_,_,h,k=>⟨h.1,h.2.1,fi.dY h.2.2 k⟩
theorem fi.split:∀{l:List (Int×Int)}{g:Int×Int}{a b:Int},fi (l++[g]) a b->fi l a g.1/\1<=g.2/\g.1+g.2=b
 |[],g,a,b,h=>by
  obtain⟨h1,h2,h3⟩:=h
  exact⟨h1.symm,h2,by have:a+g.2=b:=h3;omega⟩
 |x::l,g,a,b,h=>by
  obtain⟨h1,h2,h3⟩:=h
  have:=fi.split h3
  exact⟨⟨h1,h2,this.1⟩,this.2⟩
theorem xf(ops:List bq):∀n,fi (b5 ops n) 0 n
 |0=>rfl
 |n+1=>by
  have ih:=xf ops n
  have one:fi [((n:Int),1)] n ((n+1:Nat):Int):=⟨rfl,Int.le_refl 1,by show(n:Int)+1=((n+1:Nat):Int);omega⟩
  simp only[b5,sY]
  split
  ·rename_i hn
   rw[List.getLast?_eq_none_iff.1 hn]at ih
   exact fi.dY ih one
  ·rename_i g hg
   split
   ·exact fi.dY ih one
   ·have e:b5 ops n=(b5 ops n).dropLast++[g]:=by
     obtain⟨m,z,hm⟩:∃m z,b5 ops n=m++[z]:=by
      have b7:b5 ops n≠[]:=fun e=>by rw[e]at hg;cases hg
      exact⟨_,_,(List.dropLast_concat_getLast b7).symm⟩
     rw[hm]at hg ⊢;simp at hg;subst hg;simp
    rw[e]at ih
    obtain⟨h1,h2,h3⟩:=fi.split ih
    exact fi.dY h1 ⟨rfl,by show 1<=g.2+1;omega,by show g.1+(g.2+1)=((n+1:Nat):Int);omega⟩
theorem qS{l:List (Int×Int)}:(du l).map (·.2)=l:=by
 apply List.ext_getElem?;intro i
 rw[List.getElem?_map,nz,Option.map_map]
 exact congrFun Option.map_id _
def Lb(q x:Int)(L:List (Nat×(Int×Int)))(r:List Arg):List Arg:=L.foldl (fun r y=>if y.2.1<=x/\x<y.2.1+y.2.2 then[⟨bs [113],q⟩,⟨bs (cB y.1),x-y.2.1⟩] else r) r
theorem zb{x:Int}:∀{L:List (Nat×(Int×Int))}{a b:Int},fi (L.map (·.2)) a b->x<a->dL x L=[]/\∀q r,Lb q x L r=r
 |[],_,_,_,_=>⟨rfl,fun _ _=>rfl⟩
 |y::L,a,b,h,hx=>by
  obtain⟨h1,h2,h3⟩:=h
  replace h1:y.2.1=a:=h1
  replace h2:1<=y.2.2:=h2
  replace h3:fi (L.map (·.2)) (a+y.2.2) b:=h3
  have ih:=zb (x:=x) h3 (by omega)
  have hn:¬(y.2.1<=x/\x<y.2.1+y.2.2):=fun k=>by omega
  refine⟨?_,fun q r=>?_⟩
  ·have:=ih.1
   unfold dL at this ⊢
   rw[List.flatMap_cons,zW hn,this];rfl
  ·have:=ih.2 q r
   unfold Lb at this ⊢
   rw[List.foldl_cons,zW hn,this]
def E9(s:Int):Int:=2^s.toNat-1
theorem KJ{t:TypeId}{c:Bool}{x y:Int}{K:AV->Prop}:ag Pg .shl t c (U x) (I y) K=(0<=y/\K (U (IntKind.u64.wrap (x*2^(min y.toNat IntKind.u64.bits))))):=rfl
theorem Uw:∀s:_root_.Fin 33,1<=s.val->IntKind.u64.wrap (IntKind.u64.wrap (1*2^(min s.val IntKind.u64.bits))-1)=2^s.val-1/\IntKind.u64.wrap (IntKind.u64.wrap (IntKind.u64.wrap (1*2^(min (s.val-1) IntKind.u64.bits))*2)-1)=2^s.val-1:=by decide
theorem Sd{s:Int}(h:1<=s/\s<=32):IntKind.u64.wrap (IntKind.u64.wrap (1*2^(min s.toNat IntKind.u64.bits))-1)=E9 s:=(Uw ⟨s.toNat,by omega⟩ (by show 1<=s.toNat;omega)).1
end
section
open Go.Ab
attribute [-simp] aH az
section
variable {W:Nat->Prop} {QR QN:VK} {QE:Nat->VK} {QP:AV->AH->Prop} {h0 h:AH} {R:AE->AH->Prop} {v2 v6:Nat} {xq xa x5 xr:AV} {o:bq} {ao:List (Int×Int)} {r:Row}
structure SE (W:Nat->Prop) (h0 h:AH) (v2 v6:Nat) (o:bq) (xq xr:AV) (ao:List (Int×Int)) (r:Row) (xa:AV):Prop where
 o2:h.obj v2=some (aI (cK (o,xq)) 7 38)
 o6:h.obj v6=some (aI (ay (r,xa)) 6 46)
 n6:h0.next<=v6
 a:bC Arg.enc 2 67 h xa r.args
 ia:df (h0.next<=·) xa
 W:∀id,h0.next<=id->W id
 q:cb dx 1 3 h xq o.aD
 r:cb We 3 48 h xr (du ao)
 f:Fr h0 h (fun _=>False)
theorem kX{α:Type}{f:α->List AV}{sz:Nat}{ty:TypeId}{h h':AH}{S:Nat->Prop}{x:AV}{l:List α}(hl:bC f sz ty h x l)(hf:Fr h h' S)(hs:∀id cs,h.obj id=some (aI cs sz ty)->¬S id):bC f sz ty h' x l:=by
 rcases hl with hl |⟨id,h1,h2⟩
 ·exact .inl hl
 ·exact .inr ⟨id,h1,hf.obj h2 (hs _ _ h2)⟩
theorem SE.fr{h':AH}{S:Nat->Prop}(d:SE W h0 h v2 v6 o xq xr ao r xa)(f:Fr h h' S)(hs:∀i,S i->h0.next<=i/\i≠v6/\∀cs sz ty ro kd,h.obj i=some { cells:=cs,sz:=sz,ty:=ty,ro:=ro,kind:=kd }->ro=false/\ty≠38/\ty≠3/\ty≠48/\ty≠67):SE W h0 h' v2 v6 o xq xr ao r xa:=by
 refine⟨f.obj d.o2 fun e=>((hs _ e).2.2 _ _ _ _ _ d.o2).2.1 rfl,f.obj d.o6 fun e=>(hs _ e).2.1 rfl,d.n6,kX d.a f (fun i cs ho e=>((hs _ e).2.2 _ _ _ _ _ ho).2.2.2.2 rfl),d.ia,d.W,d.q.fr f fun i ob ho ht e=>?_,d.r.fr f fun i ob ho ht e=>?_,oD d.f f fun i hi=>(hs i hi).1⟩
 ·obtain⟨a,b,c,_⟩:=(hs _ e).2.2 _ _ _ _ _ (show h.obj i=some { cells:=ob.cells,sz:=ob.sz,ty:=ob.ty,ro:=ob.ro,kind:=ob.kind } from ho)
  exact c (ht a)
 ·obtain⟨a,b,_,c,_⟩:=(hs _ e).2.2 _ _ _ _ _ (show h.obj i=some { cells:=ob.cells,sz:=ob.sz,ty:=ob.ty,ro:=ob.ro,kind:=ob.kind } from ho)
  exact c (ht a)
theorem SE.be{h':AH}(d:SE W h0 h v2 v6 o xq xr ao r xa)(f:Fr h h' fun _=>False):SE W h0 h' v2 v6 o xq xr ao r xa:=d.fr f fun _ h=>h.elim
theorem SE.set{h1:AH}{S:Nat->Prop}{r':Row}{y:AV}(d:SE W h0 h v2 v6 o xq xr ao r xa)(f:Fr h h1 S)(hs:∀i,S i->i=v6)(o6:h1.obj v6=some (aI (ay (r',y)) 6 46))(ha:bC Arg.enc 2 67 h y r'.args)(ia:df (h0.next<=·) y):SE W h0 h1 v2 v6 o xq xr ao r' y:=by
 have mw:∀{i:Nat}{cs:List AV}{sz:Nat}{ty:TypeId}{ro:Bool}{kd},S i->h.obj i=some { cells:=cs,sz:=sz,ty:=ty,ro:=ro,kind:=kd }->ro=false/\ty=46:=fun hi ho=>by
  have e:=hs _ hi;subst e;rw[d.o6]at ho;cases ho;exact⟨rfl,rfl⟩
 refine⟨f.obj d.o2 fun e=>absurd (mw e d.o2).2 (show(38:Nat)≠46 by decide),o6,d.n6,kX ha f fun i cs ho e=>absurd (mw e ho).2 (show(67:Nat)≠46 by decide),ia,d.W,d.q.fr f fun i ob ho ht e=>?_,d.r.fr f fun i ob ho ht e=>?_,oD d.f f fun i hi=>by rw[hs i hi];exact d.n6⟩
 ·have:=mw e (show h.obj i=some { cells:=ob.cells,sz:=ob.sz,ty:=ob.ty,ro:=ob.ro,kind:=ob.kind } from ho)
  rw[ht this.1]at this;exact absurd this.2 (show(3:Nat)≠46 by decide)
 ·have:=mw e (show h.obj i=some { cells:=ob.cells,sz:=ob.sz,ty:=ob.ty,ro:=ob.ro,kind:=ob.kind } from ho)
  rw[ht this.1]at this;exact absurd this.2 (show(48:Nat)≠46 by decide)
end
end
section
open Go.Ab
attribute [-simp] aH az
def sw(o:bq)(y:Nat×(Int×Int)):Row:=⟨cz,bs (cB y.1),[],IntKind.i64.wrap (lW (o.value.fdiv (2^(min y.2.1.toNat IntKind.u64.bits))) (E9 y.2.2)),0,0⟩
def dA(o:bq)(L:List (Nat×(Int×Int))):List Row:=(L.filter fun y=>jF o.cR y.2.1==1).map (sw o)
theorem Fo{o:bq}{L M:List (Nat×(Int×Int))}:dA o (L++M)=dA o L++dA o M:=by simp[dA]
theorem Fm{o:bq}{L:List (Nat×(Int×Int))}:(dA o L).length<=L.length:=by rw[dA,zZ];exact List.length_filter_le _ _
def jE(r:Row):List AV:=ay (r,aV)
theorem rJ(r:Row):(jE r).length=6:=rfl
theorem Am(r:Row):(jE r).all cF=true:=rfl
theorem X7{s:List UInt8}{n:Int}:dU (fun i=>[(0,1),(1,1),(2,1),(3,1),(4,1),(5,1)][i]?) ([Value.string ⟨#[]⟩,.string ⟨#[]⟩,.slice none 0 0,.int .i64 0,.int .i64 0,.int .i64 0].map .sc) [(0,Sb cz),(1,S s),(3,I n)]=some [Sb cz,S s,aV,I n,I 0,I 0]:=rfl
theorem KG{n:Int}{K:AV->Prop}:qi (some .i64) (U n) K=K (I (IntKind.i64.wrap n)):=rfl
theorem KL{t:TypeId}{c:Bool}{x y:Int}{K:AV->Prop}:ag Pg .eql t c (U x) (U y) K=K (B (x==y)):=by simp
end
section
open Go.Ab
attribute [-simp] aH az
section
variable {W:Nat->Prop} {QR QN:VK} {QE:Nat->VK} {QP:AV->AH->Prop} {h0 h:AH} {R:AE->AH->Prop} {v2 v6:Nat} {xq xa x5 xr:AV} {o:bq} {ao:List (Int×Int)} {r:Row} {k:Nat} {g:Int×Int}
theorem SE.dY{h':AH}{L:List Row}(d:SE W h0 h v2 v6 o xq xr ao r xa)(hS:bC jE 6 46 h x5 L)(hI:df (fun i=>h0.next<=i/\i≠v6) x5)(f:Fr h h' (fun i=>∃off n,x5=.sl i off n)):SE W h0 h' v2 v6 o xq xr ao r xa:=by
 refine d.fr f fun i ⟨off,n,e⟩=>⟨(hI i _ _ e).1,(hI i _ _ e).2,fun cs sz ty ro kd ho=>?_⟩
 rcases hS with⟨e2,_⟩ |⟨j,e2,hj⟩
 ·rw[e2]at e;cases e
 ·rw[e2]at e;cases e
  rw[hj]at ho;cases ho
  exact⟨rfl,by decide,by decide,by decide,by decide⟩
end
end
section
open Go.Ab
attribute [-simp] aH az
def oW(r:Row)(n:Int):Row:=⟨r.kind,r.name,r.args,r.num,n,r.place⟩
def nV(j:Nat)(L:List Row):List Row:=L.mapIdx fun i r=>if i<j then oW r ((L.length:Int)-i) else r
def jZ(L:List Row):List Row:=L.mapIdx fun i r=>oW r ((L.length:Int)-i)
theorem nh{j:Nat}{L:List Row}:(nV j L).length=L.length:=by simp[nV]
theorem Un{L:List Row}:nV 0 L=L:=by
 apply List.ext_getElem?;intro i
 simp[nV]
theorem NE{L:List Row}:nV L.length L=jZ L:=by
 apply List.ext_getElem?;intro i
 simp only[nV,jZ,List.getElem?_mapIdx]
 by_cases h:i<L.length
 ·simp[h]
 ·rw[List.getElem?_eq_none (by omega)];rfl
theorem ND{j:Nat}{L:List Row}{r:Row}(h:L[j]?=some r):(nV j L)[j]?=some r:=by
 simp[nV,List.getElem?_mapIdx,h]
theorem NC{j:Nat}{L:List Row}{r:Row}(h:L[j]?=some r):(nV j L).set j (oW r ((L.length:Int)-j))=nV (j+1) L:=by
 have hl:=(zM.1 h).1
 apply List.ext_getElem?;intro i
 rw[List.getElem?_set]
 by_cases e:j=i
 ·subst e
  rw[zX rfl,zX (by rw[nh];exact hl)]
  simp[nV,List.getElem?_mapIdx,h]
 ·rw[zW e]
  simp only[nV,List.getElem?_mapIdx]
  congr 1;funext r
  by_cases c:i<j
  ·rw[zX c,zX (by omega)]
  ·rw[zW c,zW (by omega)]
theorem bC.Ty{h:AH}{x:AV}{L:List Row}(hS:bC jE 6 46 h x L):bC ay 6 46 h x (L.map fun r=>(r,aV)):=by
 rcases hS with⟨a,b⟩ |⟨id,a,b⟩
 ·exact .inl ⟨a,by rw[b];rfl⟩
 ·exact .inr ⟨id,by rw[zZ];exact a,by rw[b,List.flatMap_map];rfl⟩
end
section
open Go.Ab
attribute [-simp] aH az
end
end Go.Proofs.YtjehibknlmehmaaGreatDoor
