/- The registers of a circuit; the rows of an operation, the document's and the program's. No condition. -/
import Derived.Test.YtjehibknlmehmaaGreatDoorSb
import Derived.Test.YtjehibknlmehmaaGreatDoorFb
set_option maxRecDepth 100000
namespace Go.Proofs.YtjehibknlmehmaaGreatDoor
section
open Go.Ab
attribute [-simp] aN aD
theorem Ck:∀(k:Nat){n:Nat}{h:AH}{M:Nat->Prop}{R:AE->AH->Prop},n<k->n<=9223372036854775807->(∀h',Fr h h' (fun _=>False)->R (.ret (S (Lib.decDigits n))) h')->ay Pg 24 [I n] h M R
 |0,_,_,_,_,h,_,_=>by omega
 |k+1,n,h,M,R,hk,hn,hR=>by
  apply yM.aI
  by_cases kV:n<10
  ·have h1:(n:Int)<10:=by omega
   have w1:IntKind.i64.wrap (48+(n:Int))=((48+n:Nat):Int):=by rw[aL (by omega) (by omega)];simp
   have w2:IntKind.u8.wrap ((48+n:Nat):Int)=((48+n:Nat):Int):=IntWalk.u8_in _ (by omega)
   simp only[yM.n5,yM.n4,yM.n3,yM.n2,ba,ao,h1,decide_true,zF,zC,zD,zI,aR,w1,AF,w2]
   refine xD (by omega) fun h' hf=>?_
   have:=hR h' hf
   rw[Lib.decDigits_one kV]at this
   simpa[aH,jp,gN] using this
  ·have h1:¬(n:Int)<10:=by omega
   have q1:IntKind.i64.wrap ((n:Int).tdiv 10)=((n/10:Nat):Int):=by
    rw[show((n:Int).tdiv 10)=((n/10:Nat):Int) from by rw[Int.tdiv_eq_ediv_of_nonneg (by omega)];omega,aL (by omega) (by omega)]
   have q2:(n:Int).tmod 10=((n%10:Nat):Int):=by rw[Int.tmod_eq_emod_of_nonneg (by omega)];omega
   have hd:Lib.decDigits n=Lib.decDigits (n/10)++Lib.decDigits (n%10):=by
    rw[Lib.decDigits,dif_neg kV,Lib.decDigits_one (show n%10<10 by omega)]
   have hlen:(Lib.decDigits (n/10)).length+1<9223372036854775808:=by
    have:=Lib.itoa_length_le (n/10:Nat) (by omega) (by omega)
    rw[Lib.itoa_nonneg]at this
    omega
   have PJ:(Lib.decDigits (n%10)).length=1:=by rw[Lib.decDigits_one (show n%10<10 by omega)];rfl
   simp only[yM.n5,yM.n4,yM.n3,yM.n1,ba,ao,h1,decide_false,zE,zC,zD,zH,Es,Ep,q1,q2]
   refine⟨by omega,?_⟩
   refine⟨fun _=>False,fun _ h=>h.elim,Ck k (by omega) (by omega) fun h1 f1=>⟨by omega,?_⟩⟩
   refine⟨fun _=>False,fun _ h=>h.elim,Ck k (by omega) (by omega) fun h2 f2=>?_⟩
   show aa Pg .add 9 false (S _) (S _) _
   rw[jN,<-hd]
   have:=hR h2 (f1.bO f2)
   exact⟨by omega,by simpa[aH,jp,gN] using this⟩
def iM(k:Nat):List UInt8:=99::Lib.decDigits k
section
variable {h:AH} {M:Nat->Prop} {R:AE->AH->Prop}
theorem uP{k:Nat}(hk:k<=1000)(ht:cp 0 h)(hR:R (.ret (S (iM k))) h):ay Pg 16 [I k] h M R:=by
 apply QF.aI
 unfold QF.n2 QF.n1
 refine⟨fun _=>False,fun _ h=>h.elim,B8 (n:=k) (by omega) (by omega) ht ?_⟩
 rw[Lib.itoa_nonneg]
 have hlen:(Lib.decDigits k).length<=100:=by
  have:=Lib.itoa_length_le (k:Nat) (by omega) (by omega)
  rw[Lib.itoa_nonneg]at this
  omega
 show aa Pg .add 9 true (S [99]) (S _) _
 rw[jN]
 exact⟨by simp;omega,by simpa[aH,jp,gN,iM] using hR⟩
end
end
section
open Go.Ab
attribute [-simp] aN aD
def uO(m b:Int):Int:=nf (m.fdiv (2^(min b.toNat IntKind.u64.bits))) 1
def nD(b:Int)(o:bI):Bool:=uO o.cT b != uO o.cT (b-1)
def nJ(ops:List bI)(l:List (Int×Int))(b:Int):List (Int×Int):=
 match l.getLast? with
 |none=>[(b,1)]
 |some g=>if g.2=32\/ops.any (nD b)=true then l++[(b,1)] else l.dropLast++[(g.1,g.2+1)]
def bN(ops:List bI):Nat->List (Int×Int)
 |0=>[]
 |n+1=>nJ ops (bN ops n) n
theorem sY(ops:List bI):∀n,(bN ops n).length<=n/\(0<n->0<(bN ops n).length)
 |0=>⟨zU _,fun h=>by omega⟩
 |n+1=>by
  have h1:=(sY ops n).1
  simp only[bN,nJ]
  split
  ·exact⟨by simp,fun _=>by simp⟩
  ·rename_i g hg
   have cC:bN ops n≠[]:=fun e=>by rw[e]at hg;cases hg
   have wz:=List.length_pos_iff.2 cC
   split
   ·exact⟨by simp;omega,fun _=>by simp⟩
   ·exact⟨by simp;omega,fun _=>by simp⟩
theorem uL(ops:List bI):∀n,∀g∈bN ops n,1<=g.2/\g.2<=32
 |0,g,h=>by cases h
 |n+1,g,h=>by
  have ih:=uL ops n
  simp only[bN,nJ]at h
  split at h
  ·simp at h;subst h;exact⟨Int.le_refl 1,by show(1:Int)<=32;decide⟩
  ·rename_i g0 hg
   have h0:=ih g0 (List.mem_of_getLast? hg)
   split at h
   ·rcases List.mem_append.1 h with h |h
    ·exact ih g h
    ·simp at h;subst h;exact⟨Int.le_refl 1,by show(1:Int)<=32;decide⟩
   ·rename_i hc
    rcases List.mem_append.1 h with h |h
    ·exact ih g (List.dropLast_subset _ h)
    ·simp at h;subst h
     simp only[not_or]at hc
     exact⟨by show 1<=g0.2+1;omega,by show g0.2+1<=32;have:=hc.1;omega⟩
def mu(g:Int×Int):List AV:=[I g.1,I g.2]
theorem ms(g:Int×Int):(mu g).length=2:=rfl
theorem uH(g:Int×Int):(mu g).all cB=true:=rfl
theorem oA{α:Type}{f:α->List AV}{k:Nat}(hf:∀x,(f x).length=k):∀{l:List α}{i o:Nat}{x y:α}{v:AV},l[i]?=some x->o<k->(f x).set o v=f y->putCells (l.flatMap f) (i*k+o) [v]=(l.set i y).flatMap f
 |[],i,o,x,y,v,h,_,_=>by simp at h
 |a::l,0,o,x,y,v,h,ho,hv=>by
  simp at h;subst h
  simp only[putCells,Nat.zero_mul,zG,List.set_cons_zero,List.flatMap_cons]
  rw[List.set_append_left _ _ (by rw[hf];exact ho),hv]
 |a::l,i+1,o,x,y,v,h,ho,hv=>by
  simp at h
  have ih:=oA hf (l:=l) (i:=i) (o:=o) (y:=y) (v:=v) h ho hv
  simp only[putCells]at ih ⊢
  simp only[List.set_cons_succ,List.flatMap_cons]
  have e:(i+1)*k+o=(f a).length+(i*k+o):=by rw[hf,Nat.succ_mul];omega
  rw[e,List.set_append_right _ _ (by omega),Nat.add_sub_cancel_left,ih]
theorem Eb{α:Type}{l:List α}{x y:α}(h:l.getLast?=some x):l.set (l.length-1) y=l.dropLast++[y]:=by
 have cC:l≠[]:=fun e=>by rw[e]at h;cases h
 obtain⟨m,z,rfl⟩:∃m z,l=m++[z]:=⟨l.dropLast,l.getLast cC,(List.dropLast_concat_getLast cC).symm⟩
 simp
theorem zm{α:Type}{l:List α}{x:α}(h:l.getLast?=some x):l[l.length-1]?=some x:=by rw[<-List.getLast?_eq_getElem?];exact h
theorem nO{t:TypeId}{c:Bool}{x y:Int}{K:AV->Prop}:aa Pg .shr t c (U x) (I y) K=(0<=y/\K (U (x.fdiv (2^(min y.toNat IntKind.u64.bits))))):=rfl
theorem WW{a b:Int}:dS (fun i=>[(0,1),(1,1)][i]?) ([Value.int .i64 0,.int .i64 0].map .sc) [(0,I a),(1,I b)]=some [I a,I b]:=rfl
section
variable {W:Nat->Prop} {QR QN:VK} {QE:Nat->VK} {QP:AV->AH->Prop} {h:AH} {vc:Nat} {q b:Int} {x xo:AV} {yl:List (bI×AV)}
theorem H0{k:Nat}{a0:Bool}(hx:kN h x yl)(ov:h.obj vc=some (aO [I q,I b,x] 3 24))(hl:yl.length<=4096)(hk:a0=false->1<=k)(tQ:k<=64){x5 ap:AV}
  (hR:fy.n5 W QR QN QE QP (.ptr vc 0) xo (I k) x5 ap (I k) (B (a0||(yl.map (·.1)).any (nD k))) h):fy.bn W QR QN QE QP (.ptr vc 0) xo (I k) x5 (B a0) (I 0) ap (I k) h:=by
 unfold fy.bn
 refine bX (ι:=Nat×Bool) (fun s v h'=>v=[.ptr vc 0,xo,I k,x5,B s.2,I s.1,ap,I k]/\s.1<=yl.length/\h'=h/\s.2=(a0||((yl.map (·.1)).take s.1).any (nD k))) (fun s=>yl.length-s.1) (0,a0) ⟨rfl,by omega,rfl,by simp⟩ ?_
 rintro K ⟨i,a⟩ v h' ⟨rfl,hi,rfl,ha⟩ step
 simp only at hi ha
 have w1:IntKind.i64.wrap ((i:Int)+1)=((i+1:Nat):Int):=by rw[aL (by omega) (by omega)];simp
 simp only[fy.fI,zN,zO,fy.a_,al,aF,ov,aB,zG,zA,zB,ah,hx.dy.len.1,hx.dy.len.2,zH,ba]
 by_cases aM:i<yl.length
 ·have dh:(i:Int)<yl.length:=by omega
  cases a with
  |true=>
   have kH:(a0||(yl.map (·.1)).any (nD k))=true:=by
    cases a0 with
    |true=>rfl
    |false=>
     rw[Bool.false_or]at ha ⊢
     obtain⟨o,ho,hs⟩:=List.any_eq_true.1 ha.symm
     exact List.any_eq_true.2 ⟨o,List.mem_of_mem_take ho,hs⟩
   rw[kH]at hR
   simp only[zL dh,fy.aQ,dl,zS,zD,zF,zC,zI,dR,fy.aU,cD,zV,fy.aP,ao,zE,zH,fy.n6]
   exact hR
  |false=>
   have P4:a0=false:=by cases a0 with
    |false=>rfl
    |true=>simp at ha
   have lJ:=hk P4
   have g0:yl[i]?=some yl[i]:=zJ aM
   have fG:(yl.map (·.1)).take (i+1)=(yl.map (·.1)).take i++[yl[i].1]:=by
    rw[List.take_add_one,List.getElem?_map,g0];rfl
   generalize yl[i]=y at *
   have w2:IntKind.i64.wrap ((k:Int)-1)=(k:Int)-1:=aL (by omega) (by omega)
   simp only[zL dh,fy.aQ,dl,zS,zD,zF,zC,zI,dR,zT,fy.aU,cD,zV,fy.aP,ao,fy.n9,al,aF,ov,aB,zG,zA,zB,ah]
   refine dC (k:=5) hx.dy hG g0 (by omega) rfl fun _=>?_
   simp only[fy.n8,nO,l9,eX,w2,vW,fy.n7,aR,w1]
   refine⟨by omega,by omega,?_⟩
   refine step (i+1,uO y.1.cT k != uO y.1.cT ((k:Int)-1)) _ _ (by show _<_;omega) ⟨rfl,by show i+1<=_;omega,rfl,?_⟩
   show(uO y.1.cT k != uO y.1.cT ((k:Int)-1))=_
   rw[P4,Bool.false_or]at ha ⊢
   rw[fG,List.any_append,<-ha,Bool.false_or]
   simp[nD]
 ·have C9:i=yl.length:=by omega
  have df:¬((i:Int)<yl.length):=by omega
  rw[C9,List.take_of_length_le (by rw[zZ];omega)]at ha
  rw[<-ha]at hR
  simp only[zK df,fy.aQ,dl,zS,zE,zD,zC,zH,fy.aU,cD,if_false,fy.aP,ao,zV,fy.n6]
  exact hR
end
end
section
open Go.Ab
attribute [-simp] aN aD
theorem xC{sz id len k:Nat}{K:AV->Prop}(h:k<len)(hK:K (.ptr id (k*sz))):bM (some (sz,none)) (.sl id 0 len) (I k) K:=by
 refine⟨⟨by omega,by omega⟩,?_⟩
 simpa using hK
theorem lc{h h1 h2:AH}{S:Nat->Prop}(a:Fr h h1 fun _=>False)(b:Fr h1 h2 S)(hs:∀i,S i->h.next<=i):Fr h h2 fun _=>False:=a.trans (b.mono fun i hi=>.inr (hs i hi))
section
variable {h:AH} {M:Nat->Prop} {R:AE->AH->Prop} {q b:Int} {x:AV} {yl:List (bI×AV)}
theorem RU(hx:kN h x yl)(hl:yl.length<=4096)(hb:0<=b/\b<=64)(hR:∀xo h',bw mu 2 56 h' xo (bN (yl.map (·.1)) b.toNat)->cz (h.next<=·) xo->Fr h h' (fun _=>False)->R (.ret xo) h') :
  ay Pg 15 [.agg [I q,I b,x]] h M R:=by
 apply fy.aI
 unfold fy.bT
 refine cW (by show(true&&(true&&(cB x&&true)))=true;rw[hx.dy.one.1];rfl) fun vc h1 f1 tN oc=>?_
 simp only[fy.bY,fy.bZ,al,aF,oc,aB,zG,zA,zB,ah]
 unfold fy.bD
 refine bX (ι:=Nat×AV) (fun s v h'=>v=[.ptr vc 0,s.2,I b,I s.1]/\s.1<=b.toNat/\bw mu 2 56 h' s.2 (bN (yl.map (·.1)) s.1)/\cz (h1.next<=·) s.2/\Fr h1 h' (fun _=>False)) (fun s=>b.toNat-s.1) (0,aV) ⟨rfl,by omega,.nil,(fun _ _ _ e=>by cases e),Fr.refl⟩ ?_
 rintro K ⟨k,xo⟩ v h' ⟨rfl,hk,hS,vq,f2⟩ step
 simp only at hk hS vq
 have qd:=(hx.bp f1).bp f2
 have G_:=f2.bQ oc
 have hlen:=sY (yl.map (·.1)) k
 simp only[fy.cn,zN,zO,fy.bG,ba]
 by_cases aM:(k:Int)<b
 ·have mU:=hS.fl
  have hW:cz (fun id=>M id\/h.next<=id) xo:=fun i o n e=>.inr (zR f1.next (vq i o n e))
  have w3:IntKind.i64.wrap ((k:Int)+1)=((k+1:Nat):Int):=by rw[aL (by omega) (by omega)];simp
  simp only[zL aM,fy.bE,ao,zD,zF,zC,zI,fy.bC,fy.bz,mU.len.1,mU.len.2,zH,eX]
  have more:∀{x5:AV},nJ (yl.map (·.1)) (bN (yl.map (·.1)) k) k=bN (yl.map (·.1)) k++[((k:Int),1)]->fy.n5 (fun id=>M id\/h.next<=id) (aH Pg [.tmp 2] R) K (fun(i:Nat) (vs:List AV) (h1:AH)=>if i=0 then fy.n1 (fun id=>M id\/h.next<=id) (aH Pg [.tmp 2] R) (aH Pg [.tmp 2] R) (fun _ _ _=>False) (fun v h=>R (.bV v) h) (vs.getD 0 ab) h1 else False) (fun v h=>R (.bV v) h) (.ptr vc 0) xo (I k) x5 (I b) (I k) (B true) h':=fun{x5} hc=>by
   simp only[fy.n5,ao,zD,zF,zC,zI,fy.n4]
   refine⟨_,WW,?_⟩
   refine mP (t:=((k:Int),(1:Int))) ms (by omega) rfl uH (by decide) hS hW (by omega) fun v y h2 mo aaV f3=>?_
   simp only[fy.n2,aR,w3]
   refine step (k+1,y) _ _ (by show _<_;omega) ⟨rfl,by show k+1<=_;omega,?_,fun i o n e=>zR f2.next (aaV i o n e),lc f2 f3 fun i hi=>?_⟩
   ·show bw mu 2 56 h2 y (nJ _ _ _)
    rw[hc];exact mo
   ·obtain⟨o,n,e⟩:=hi;exact vq i o n e
  cases hg:(bN (yl.map (·.1)) k).getLast? with
  |none=>
   have Ca:bN (yl.map (·.1)) k=[]:=List.getLast?_eq_none_iff.1 hg
   have hc:nJ (yl.map (·.1)) (bN (yl.map (·.1)) k) k=bN (yl.map (·.1)) k++[((k:Int),1)]:=by rw[Ca];rfl
   have w1:IntKind.i64.wrap (((bN (yl.map (·.1)) k).length:Int)-1)=-1:=by rw[Ca,aL (by simp) (by simp)];rfl
   simp only[w1,fy.bu,ba,show decide ((-1:Int)<0)=true from rfl,fy.bg,dl,zT,zF,zD,zC,zH,fy.aZ,cD,zV,fy.bj]
   refine H0 (a0:=true) qd G_ hl (fun h=>by cases h) (by omega) ?_
   exact more hc
  |some g=>
   have cC:0<(bN (yl.map (·.1)) k).length:=List.length_pos_iff.2 fun e=>by rw[e]at hg;cases hg
   have C_:=zm hg
   have gZ:=uL (yl.map (·.1)) k g (List.mem_of_getLast? hg)
   have Fa:nJ (yl.map (·.1)) (bN (yl.map (·.1)) k) k=if g.2=32\/(yl.map (·.1)).any (nD k)=true then bN (yl.map (·.1)) k++[((k:Int),1)] else(bN (yl.map (·.1)) k).dropLast++[(g.1,g.2+1)]:=by unfold nJ;rw[hg]
   have w1:IntKind.i64.wrap (((bN (yl.map (·.1)) k).length:Int)-1)=(((bN (yl.map (·.1)) k).length-1:Nat):Int):=by rw[aL (by omega) (by omega)];omega
   have vi:¬((((bN (yl.map (·.1)) k).length-1:Nat):Int)<0):=by omega
   simp only[w1,fy.bu,ba,zK vi,fy.bg,dl,zT,zD,zE,zC,zI]
   refine dC (k:=1) mU ms C_ (by omega) rfl fun _=>?_
   simp only[dD,fy.aZ,cD,zE,if_false,fy.bj]
   refine H0 (a0:=(g.2==32)) qd G_ hl (fun h=>by
    by_cases e:k=0
    ·subst e;exact absurd cC (by simp[bN])
    ·omega) (by omega) ?_
   cases ha:((g.2==32)||(yl.map (·.1)).any (nD k)) with
   |true=>
    refine more ?_
    rw[Fa,zX]
    rcases(Bool.or_eq_true _ _).mp ha with h |h
    ·exact .inl (by simpa using h)
    ·exact .inr h
   |false=>
    rw[Bool.or_eq_false_iff]at ha
    rw[zW (by simp[ha.2];simpa using ha.1)]at Fa
    rcases hS with⟨_,e⟩ |⟨id,rfl,ho⟩
    ·rw[e]at cC;simp at cC
    have w4:IntKind.i64.wrap (g.2+1)=g.2+1:=aL (by omega) (by omega)
    have hid:=vq id _ _ rfl
    simp only[fy.n5,ao,zE,zD,zC,zH,fy.n3]
    refine dC (k:=1) mU ms C_ (by omega) rfl fun _=>?_
    simp only[aR,w4]
    refine xC (by omega) ?_
    have mm:((bN (yl.map (·.1)) k).length-1)*2+1<((bN (yl.map (·.1)) k).flatMap mu).length:=by
     rw[fR ms];omega
    simp only[al,aD,ho,eJ,cH]
    refine⟨⟨.inr (zR f1.next hid),rfl,rfl,by show _+1<=_;omega⟩,?_⟩
    have o1:=fF (off:=((bN (yl.map (·.1)) k).length-1)*2+1) (cs:=[I (g.2+1)]) ho
    have f3:Fr h' (h'.put id (((bN (yl.map (·.1)) k).length-1)*2+1) [I (g.2+1)]) (·=id):=Fr.refl.put (.inl rfl)
    generalize h'.put id (((bN (yl.map (·.1)) k).length-1)*2+1) [I (g.2+1)]=h2 at *
    simp only[fy.n2,aR,w3]
    have e2:(bN (yl.map (·.1)) (k+1))=(bN (yl.map (·.1)) k).dropLast++[(g.1,g.2+1)]:=Fa
    have e3:(bN (yl.map (·.1)) (k+1)).length=(bN (yl.map (·.1)) k).length:=by rw[e2];simp;omega
    refine step (k+1,_) _ _ (by show _<_;omega) ⟨rfl,by show k+1<=_;omega,.inr ⟨id,by rw[e3],?_⟩,vq,lc f2 f3 fun i hi=>by subst hi;exact hid⟩
    rw[o1,oA ms C_ (by omega) (y:=(g.1,g.2+1)) (by simp[mu]),Eb hg,e2]
 ·have mS:k=b.toNat:=by omega
  simp only[zK aM,fy.bE,ao,zE,zD,zC,zH,zV,fy.n1]
  rw[mS]at hS
  have:=hR xo h' hS (fun i o n e=>zR f1.next (vq i o n e)) (f1.bO f2)
  simpa[aH,jp,gN] using this
end
end
section
open Go.Ab
attribute [-simp] aN aD
def na(y:Nat×(Int×Int)):List AV:=[S (iM y.1),I y.2.1,I y.2.2]
theorem fS(y:Nat×(Int×Int)):(na y).length=3:=rfl
theorem NG(y:Nat×(Int×Int)):(na y).all cB=true:=rfl
def bS(l:List (Int×Int)):List (Nat×(Int×Int)):=l.mapIdx fun i g=>(i,g)
theorem dX{l:List (Int×Int)}:(bS l).length=l.length:=by simp[bS]
theorem jv{l:List (Int×Int)}{i:Nat}:(bS l)[i]?=(l[i]?).map fun g=>(i,g):=by simp[bS]
theorem Ro{l:List (Int×Int)}{g:Int×Int}:bS (l++[g])=bS l++[(l.length,g)]:=by simp[bS]
theorem Rn{l:List (Int×Int)}{g g':Int×Int}(h:l.getLast?=some g):(bS l).set (l.length-1) (l.length-1,g')=bS (l.dropLast++[g']):=by
 rw[<-Eb h]
 apply List.ext_getElem?
 intro i
 rw[jv,List.getElem?_set,List.getElem?_set,dX,jv]
 by_cases e:l.length-1=i
 ·subst e
  simp only[zV]
  split<;>rfl
 ·rw[zW e,zW e]
theorem WV{s:List UInt8}{a:Int}:dS (fun i=>[(0,1),(1,1),(2,1)][i]?) ([Value.string ⟨#[]⟩,.int .i64 0,.int .i64 0].map .sc) [(0,S s),(1,I a)]=some [S s,I a,I 0]:=rfl
section
variable {W:Nat->Prop} {QR QN:VK} {QE:Nat->VK} {QP:AV->AH->Prop} {h:AH} {vc:Nat} {q b:Int} {x xo:AV} {yl:List (bI×AV)}
theorem H3{k:Nat}{a0:Bool}(hx:kN h x yl)(ov:h.obj vc=some (aO [I q,I b,x] 3 24))(hl:yl.length<=4096)(hk:a0=false->1<=k)(tQ:k<=64)
  (hR:f_.n5 W QR QN QE QP (.ptr vc 0) xo (I k) (B (a0||(yl.map (·.1)).any (nD k))) h):f_.a_ W QR QN QE QP (.ptr vc 0) xo (I k) (B a0) (I 0) h:=by
 unfold f_.a_
 refine bX (ι:=Nat) (fun i v h'=>v=[.ptr vc 0,xo,I k,B (a0||((yl.map (·.1)).take i).any (nD k)),I i]/\i<=yl.length/\h'=h) (fun i=>yl.length-i) 0 ⟨by simp,by omega,rfl⟩ ?_
 rintro K i v h' ⟨rfl,hi,rfl⟩ step
 have w1:IntKind.i64.wrap ((i:Int)+1)=((i+1:Nat):Int):=by rw[aL (by omega) (by omega)];simp
 simp only[f_.fI,zN,zO,f_.aQ,al,aF,ov,aB,zG,zA,zB,ah,hx.dy.len.1,hx.dy.len.2,zH,ba]
 by_cases aM:i<yl.length
 ·have dh:(i:Int)<yl.length:=by omega
  have g0:yl[i]?=some yl[i]:=zJ aM
  have fG:(yl.map (·.1)).take (i+1)=(yl.map (·.1)).take i++[yl[i].1]:=by
   rw[List.take_add_one,List.getElem?_map,g0];rfl
  generalize yl[i]=y at *
  simp only[zL dh,f_.aU,ao,zD,zF,zC,zI,f_.aP,al,aF,ov,aB,zG,zA,zB,ah]
  refine dC (k:=5) hx.dy hG g0 (by omega) rfl fun _=>?_
  have I0:(a0||((yl.map (·.1)).take (i+1)).any (nD k))=((a0||((yl.map (·.1)).take i).any (nD k))||nD k y.1):=by
   rw[fG,List.any_append,<-Bool.or_assoc];simp
  simp only[f_.n9]
  cases ha:(a0||((yl.map (·.1)).take i).any (nD k)) with
  |true=>
   rw[ha,Bool.true_or]at I0
   simp only[f_.n8,dl,zT,zF,zD,zC,zH,f_.n7,cD,zV,f_.n6,aR,w1]
   exact step (i+1) _ _ (by omega) ⟨by rw[I0],by omega,rfl⟩
  |false=>
   have P4:a0=false:=by cases a0 with
    |false=>rfl
    |true=>simp at ha
   have lJ:=hk P4
   rw[ha,Bool.false_or]at I0
   have w2:IntKind.i64.wrap ((k:Int)-1)=(k:Int)-1:=aL (by omega) (by omega)
   simp only[f_.n8,dl,zT,zD,zE,zC,zI,nO,l9,eX,w2,vW,f_.n7,cD,if_false,f_.n6,aR,w1]
   refine⟨by omega,by omega,?_⟩
   exact step (i+1) _ _ (by omega) ⟨by rw[I0];rfl,by omega,rfl⟩
 ·have C9:i=yl.length:=by omega
  have df:¬((i:Int)<yl.length):=by omega
  rw[C9,List.take_of_length_le (by rw[zZ];omega)]
  rw[C9]at df
  simp only[zK df,f_.aU,ao,zE,zD,zC,zH,zV]
  exact hR
theorem OQ{k:Nat}{l:List (Int×Int)}{g:Int×Int}(hS:bw na 3 48 h xo (bS l))(hg:l.getLast?=some g)(A6:l.length<=1000)(hs:0<=g.2/\g.2<=100)(hk:k<=64)(hW:cz W xo)
  (hK:∀h',bw na 3 48 h' xo (bS (l.dropLast++[(g.1,g.2+1)]))->Fr h h' (fun i=>∃o n,xo=.sl i o n)->QN [.ptr vc 0,xo,I (k+1:Nat)] h'):f_.n3 W QR QN QE QP (.ptr vc 0) xo (I k) h:=by
 have cC:0<l.length:=List.length_pos_iff.2 fun e=>by rw[e]at hg;cases hg
 have C_:(bS l)[l.length-1]?=some (l.length-1,g):=by rw[jv,zm hg];rfl
 have mU:=hS.fl
 have w1:IntKind.i64.wrap (((bS l).length:Int)-1)=((l.length-1:Nat):Int):=by rw[dX,aL (by omega) (by omega)];omega
 have w3:IntKind.i64.wrap ((k:Int)+1)=((k+1:Nat):Int):=by rw[aL (by omega) (by omega)];simp
 have w4:IntKind.i64.wrap (g.2+1)=g.2+1:=aL (by omega) (by omega)
 rcases hS with⟨_,e⟩ |⟨id,rfl,ho⟩
 ·have:=congrArg List.length e;rw[dX,List.length_nil]at this;omega
 simp only[f_.n3,mU.len.1,mU.len.2,zH,eX,w1]
 refine dC (k:=2) mU fS C_ (by omega) rfl fun _=>?_
 simp only[aR,w4]
 refine xC (by rw[dX];omega) ?_
 have mm:(l.length-1)*3+2<((bS l).flatMap na).length:=by rw[fR fS,dX];omega
 simp only[al,aD,ho,eJ,cH]
 refine⟨⟨hW _ _ _ rfl,rfl,rfl,by show _+1<=_;omega⟩,?_⟩
 have o1:=fF (off:=(l.length-1)*3+2) (cs:=[I (g.2+1)]) ho
 have f3:Fr h (h.put id ((l.length-1)*3+2) [I (g.2+1)]) (fun i=>∃o n,AV.sl id 0 (bS l).length=.sl i o n):=Fr.refl.put (.inl ⟨_,_,rfl⟩)
 generalize h.put id ((l.length-1)*3+2) [I (g.2+1)]=h2 at *
 simp only[f_.n2,aR,w3]
 refine hK h2 (.inr ⟨id,?_,?_⟩) f3
 ·congr 1;rw[dX,dX];simp;omega
 ·rw[o1,oA fS C_ (by omega) (y:=(l.length-1,(g.1,g.2+1))) (by simp[na]),Rn hg]
end
end
section
open Go.Ab
attribute [-simp] aN aD
section
variable {h:AH} {M:Nat->Prop} {R:AE->AH->Prop} {q b:Int} {x:AV} {yl:List (bI×AV)}
theorem Im(hx:kN h x yl)(hl:yl.length<=4096)(hb:0<=b/\b<=64)(hR:∀xo h',bw na 3 48 h' xo (bS (bN (yl.map (·.1)) b.toNat))->cz (h.next<=·) xo->Fr h h' (fun _=>False)->R (.ret xo) h') :
  ay Pg 11 [.agg [I q,I b,x]] h M R:=by
 apply f_.aI
 unfold f_.bD
 refine cW (by show(true&&(true&&(cB x&&true)))=true;rw[hx.dy.one.1];rfl) fun vc h1 f1 tN oc=>?_
 unfold f_.bG f_.bE f_.bC
 refine bX (ι:=Nat×AV) (fun s v h'=>v=[.ptr vc 0,s.2,I s.1]/\s.1<=b.toNat/\bw na 3 48 h' s.2 (bS (bN (yl.map (·.1)) s.1))/\cz (h1.next<=·) s.2/\Fr h1 h' (fun _=>False)) (fun s=>b.toNat-s.1) (0,aV) ⟨rfl,by omega,.nil,(fun _ _ _ e=>by cases e),Fr.refl⟩ ?_
 rintro K ⟨k,xo⟩ v h' ⟨rfl,hk,hS,vq,f2⟩ step
 simp only at hk hS vq
 have qd:=(hx.bp f1).bp f2
 have G_:=f2.bQ oc
 have hlen:=sY (yl.map (·.1)) k
 simp only[f_.cn,zN,zO,f_.bz,al,aF,G_,aB,zG,zA,zB,ah,ba]
 by_cases aM:(k:Int)<b
 ·have mU:=hS.fl
  have hW:cz (fun id=>M id\/h.next<=id) xo:=fun i o n e=>.inr (zR f1.next (vq i o n e))
  simp only[zL aM,f_.bu,ao,zD,zF,zC,zI,f_.bg,dD]
  have grown:∀{l:List (Int×Int)}{g:Int×Int}{y:AV}{h2:AH},bw na 3 48 h2 y (bS l)->cz (h1.next<=·) y->Fr h1 h2 (fun _=>False)->l.getLast?=some g->l.length<=1000->0<=g.2/\g.2<=100->nJ (yl.map (·.1)) (bN (yl.map (·.1)) k) k=l.dropLast++[(g.1,g.2+1)] ->
    f_.n3 (fun id=>M id\/h.next<=id) (aH Pg [.tmp 2] R) K (fun(i:Nat) (vs:List AV) (h1:AH)=>if i=0 then f_.n1 (fun id=>M id\/h.next<=id) (aH Pg [.tmp 2] R) (aH Pg [.tmp 2] R) (fun _ _ _=>False) (fun v h=>R (.bV v) h) (vs.getD 0 ab) h1 else False) (fun v h=>R (.bV v) h) (.ptr vc 0) y (I k) h2:=fun{l g y h2} mo yu f3 hg A6 hs hc=>by
   refine OQ mo hg A6 hs (by omega) (fun i o n e=>.inr (zR f1.next (yu i o n e))) fun h3 iT f4=>?_
   refine step (k+1,y) _ _ (by show _<_;omega) ⟨rfl,by show k+1<=_;omega,?_,yu,lc f3 f4 fun i hi=>by obtain⟨o,n,e⟩:=hi;exact yu i o n e⟩
   show bw na 3 48 h3 y (bS (nJ _ _ _))
   rw[hc];exact iT
  have more:nJ (yl.map (·.1)) (bN (yl.map (·.1)) k) k=bN (yl.map (·.1)) k++[((k:Int),1)]->f_.n5 (fun id=>M id\/h.next<=id) (aH Pg [.tmp 2] R) K (fun(i:Nat) (vs:List AV) (h1:AH)=>if i=0 then f_.n1 (fun id=>M id\/h.next<=id) (aH Pg [.tmp 2] R) (aH Pg [.tmp 2] R) (fun _ _ _=>False) (fun v h=>R (.bV v) h) (vs.getD 0 ab) h1 else False) (fun v h=>R (.bV v) h) (.ptr vc 0) xo (I k) (B true) h':=fun hc=>by
   simp only[f_.n5,f_.n4,ao,zD,zF,zC,zI,mU.len.1,mU.len.2,zH]
   refine⟨fun _=>False,fun _ h=>h.elim,Ck ((bS (bN (yl.map (·.1)) k)).length+1) (Nat.lt_succ_self _) (by rw[dX];omega) fun h2 f3=>?_⟩
   show aa Pg .add 9 true (S [99]) (S _) _
   rw[jN]
   have hdl:(Lib.decDigits (bS (bN (yl.map (·.1)) k)).length).length<=100:=by
    have:=Lib.itoa_length_le ((bS (bN (yl.map (·.1)) k)).length:Nat) (by rw[dX];omega) (by rw[dX];omega)
    rw[Lib.itoa_nonneg]at this
    omega
   refine⟨by simp only[List.length_cons,List.length_nil];omega,?_⟩
   rw[show([99]++Lib.decDigits (bS (bN (yl.map (·.1)) k)).length)=iM (bS (bN (yl.map (·.1)) k)).length from rfl]
   refine⟨_,WV,?_⟩
   have mo:bw na 3 48 h2 xo (bS (bN (yl.map (·.1)) k)):=hS.frame fun i o n e=>by
    rcases hS with⟨e2,_⟩ |⟨j,e2,ho⟩
    ·rw[e2]at e;cases e
    ·rw[e2]at e;cases e
     rw[ho];exact f3.bQ ho
   refine mP (f:=na) (sz:=3) (bytes:=32) (ty:=48) (z:=[.string ⟨#[]⟩,.int .i64 0,.int .i64 0]) (t:=((bS (bN (yl.map (·.1)) k)).length,((k:Int),(0:Int)))) fS (by omega) rfl NG (by decide) mo hW (by rw[dX];omega) fun v y h3 iT aaU f4=>?_
   have e3:bS (bN (yl.map (·.1)) k)++[((bS (bN (yl.map (·.1)) k)).length,((k:Int),(0:Int)))]=bS (bN (yl.map (·.1)) k++[((k:Int),0)]):=by rw[Ro,dX]
   rw[e3]at iT
   have f23:Fr h1 h3 fun _=>False:=lc (f2.bO f3) f4 fun i hi=>by obtain⟨o,n,e⟩:=hi;exact vq i o n e
   refine grown (g:=((k:Int),0)) iT (fun i o n e=>zR (f2.bO f3).next (aaU i o n e)) f23 (by simp) (by simp;omega) ⟨by show(0:Int)<=0;omega,by show(0:Int)<=100;omega⟩ ?_
   rw[hc];simp
  cases hg:(bN (yl.map (·.1)) k).getLast? with
  |none=>
   have Ca:bN (yl.map (·.1)) k=[]:=List.getLast?_eq_none_iff.1 hg
   have E8:k=0:=by
    by_cases e:k=0
    ·exact e
    ·have:=hlen.2 (by omega);rw[Ca]at this;simp at this
   have hc:nJ (yl.map (·.1)) (bN (yl.map (·.1)) k) k=bN (yl.map (·.1)) k++[((k:Int),1)]:=by rw[Ca];rfl
   have e0:((k:Int)==0)=true:=by rw[E8];rfl
   simp only[e0,f_.aZ,dl,zT,zF,zD,zC,zH,f_.bj,cD,zV,f_.bn]
   refine H3 (a0:=true) qd G_ hl (fun h=>by cases h) (by omega) ?_
   exact more hc
  |some g=>
   have cC:0<(bN (yl.map (·.1)) k).length:=List.length_pos_iff.2 fun e=>by rw[e]at hg;cases hg
   have lJ:1<=k:=by
    by_cases e:k=0
    ·subst e;exact absurd cC (by simp[bN])
    ·omega
   have gZ:=uL (yl.map (·.1)) k g (List.mem_of_getLast? hg)
   have C_:(bS (bN (yl.map (·.1)) k))[(bN (yl.map (·.1)) k).length-1]?=some ((bN (yl.map (·.1)) k).length-1,g):=by rw[jv,zm hg];rfl
   have Fa:nJ (yl.map (·.1)) (bN (yl.map (·.1)) k) k=if g.2=32\/(yl.map (·.1)).any (nD k)=true then bN (yl.map (·.1)) k++[((k:Int),1)] else(bN (yl.map (·.1)) k).dropLast++[(g.1,g.2+1)]:=by unfold nJ;rw[hg]
   have w1:IntKind.i64.wrap (((bS (bN (yl.map (·.1)) k)).length:Int)-1)=(((bN (yl.map (·.1)) k).length-1:Nat):Int):=by rw[dX,aL (by omega) (by omega)];omega
   have e0:((k:Int)==0)=false:=by simp;omega
   simp only[e0,f_.aZ,dl,zT,zD,zE,zC,zI,mU.len.1,mU.len.2,zH,eX,w1]
   refine dC (k:=2) mU fS C_ (by omega) rfl fun _=>?_
   simp only[dD,f_.bj,cD,zE,if_false,f_.bn]
   refine H3 (a0:=(g.2==32)) qd G_ hl (fun _=>lJ) (by omega) ?_
   cases ha:((g.2==32)||(yl.map (·.1)).any (nD k)) with
   |true=>
    refine more ?_
    rw[Fa,zX]
    rcases(Bool.or_eq_true _ _).mp ha with h |h
    ·exact .inl (by simpa using h)
    ·exact .inr h
   |false=>
    rw[Bool.or_eq_false_iff]at ha
    rw[zW (by simp[ha.2];simpa using ha.1)]at Fa
    simp only[f_.n5,f_.n4,ao,zE,zD,zC,zH]
    exact grown hS vq f2 hg (by omega) ⟨by omega,by omega⟩ Fa
 ·have mS:k=b.toNat:=by omega
  simp only[zK aM,f_.bu,ao,zE,zD,zC,zH,zV,f_.n1]
  rw[mS]at hS
  have:=hR xo h' hS (fun i o n e=>zR f1.next (vq i o n e)) (f1.bO f2)
  simpa[aH,jp,gN] using this
end
end
section
open Go.Ab
attribute [-simp] aN aD
def dj(o:bI):List Arg:=o.az.map fun q=>⟨bs [113],q⟩
def d_(b:Int)(l:List (Nat×(Int×Int))):List Arg:=l.flatMap fun y=>if y.2.1<=b/\b<y.2.1+y.2.2 then[⟨bs (iM y.1),b-y.2.1⟩] else[]
def ee(o:bI)(aq:List (Int×Int)):Row:=
 if o.kind=2 then⟨be,ByteArray.empty,dj o++d_ o.bit (bS aq),0,0,0⟩
 else if o.kind=3 then⟨ch,ByteArray.empty,dj o,0,0,0⟩
 else⟨bP,o.name,dj o,0,0,0⟩
def Oa(x:AV):Prop:=x=aV\/∃i j l,x=.sl i j l
theorem bw.M5{α:Type}{f:α->List AV}{sz:Nat}{ty:TypeId}{h:AH}{x:AV}{l:List α}(hl:bw f sz ty h x l):Oa x:=by
 rcases hl with⟨rfl,_⟩ |⟨id,rfl,_⟩
 ·exact .inl rfl
 ·exact .inr ⟨_,_,_,rfl⟩
theorem Vk{k n:ByteArray}{x:AV}(hx:Oa x):dS (fun i=>[(0,1),(1,1),(2,1),(3,1),(4,1),(5,1)][i]?) ([Value.string ⟨#[]⟩,.string ⟨#[]⟩,.slice none 0 0,.int .i64 0,.int .i64 0,.int .i64 0].map .sc) [(0,Sb k),(1,Sb n),(2,x)]=some [Sb k,Sb n,x,I 0,I 0,I 0]:=by
 rcases hx with rfl |⟨i,j,l,rfl⟩<;>rfl
theorem Cm{k:ByteArray}{x:AV}(hx:Oa x):dS (fun i=>[(0,1),(1,1),(2,1),(3,1),(4,1),(5,1)][i]?) ([Value.string ⟨#[]⟩,.string ⟨#[]⟩,.slice none 0 0,.int .i64 0,.int .i64 0,.int .i64 0].map .sc) [(0,Sb k),(2,x)]=some [Sb k,Sb ByteArray.empty,x,I 0,I 0,I 0]:=by
 rcases hx with rfl |⟨i,j,l,rfl⟩<;>rfl
theorem w9{s:List UInt8}{a:Int}:dS (fun i=>[(0,1),(1,1)][i]?) ([Value.string ⟨#[]⟩,.int .i64 0].map .sc) [(0,S s),(1,I a)]=some [S s,I a]:=rfl
theorem V_{h:AH}{R:AE->AH->Prop}{v:Nat}{cs:List AV}(ho:h.obj v=some (aO cs 6 46))(hc:cs.length=6)(hR:R (.ret (.agg cs)) h):aH Pg [.cell 4 46] R [.ptr v 0] h:=by
 unfold aH jp
 rw[show kx Pg 46=some true by kernel_rfl,show eW Pg 46=some 6 by kernel_rfl]
 refine dN ho hc fun _=>?_
 simpa[jp,gN] using hR
section
variable {W:Nat->Prop} {QR QN:VK} {QE:Nat->VK} {QP:AV->AH->Prop} {h0 h:AH} {R:AE->AH->Prop} {v2 v4:Nat} {xq x5 xr:AV} {o:bI} {aq:List (Int×Int)}
structure SD (W:Nat->Prop) (h0 h:AH) (v2 v4:Nat) (o:bI) (xq xr:AV) (aq:List (Int×Int)):Prop where
 o2:h.obj v2=some (aO (b8 (o,xq)) 7 38)
 o4:∃cs,h.obj v4=some (aO cs 6 46)/\cs.length=6
 n4:h0.next<=v4
 W:∀id,h0.next<=id->W id
 q:cf di 1 3 h xq o.az
 r:cf mu 2 56 h xr aq
 f:Fr h0 h (fun _=>False)
theorem B7{cs:List AV}{r:Row}(d:SD W h0 h v2 v4 o xq xr aq)(hc:cs=au (r,x5))(hx:cB x5=true)(hR:∀h',Fr h h' (·=v4)->R (.ret (.agg (au (r,x5)))) h') :
  aG (some 6) (.ptr v4 0) (.agg cs) h W fun h5=>aH Pg [.cell 4 46] R [.ptr v4 0] h5:=by
 obtain⟨c0,ho,hl⟩:=d.o4
 subst hc
 simp only[aD,ho,jf,cH]
 refine⟨⟨d.W _ d.n4,by show(true&&(true&&(cB x5&&(true&&(true&&(true&&true))))))=true;rw[hx];rfl,rfl,by rw[hl];exact zU _⟩,?_⟩
 refine V_ (cs:=au (r,x5)) ?_ rfl (hR _ (Fr.refl.put (.inl rfl)))
 rw[fF ho,mz (by rw[hl];rfl)]
end
end
section
open Go.Ab
attribute [-simp] aN aD
section
variable {W:Nat->Prop} {QR QN:VK} {QE:Nat->VK} {QP:AV->AH->Prop} {h0 h:AH} {R:AE->AH->Prop} {v2 v4:Nat} {xq x5 xr:AV} {o:bI} {aq:List (Int×Int)}
theorem SD.fr{h':AH}{S:Nat->Prop}(d:SD W h0 h v2 v4 o xq xr aq)(f:Fr h h' S)(hs:∀i,S i->h0.next<=i/\i≠v2/\i≠v4)(q':cf di 1 3 h' xq o.az)(r':cf mu 2 56 h' xr aq):SD W h0 h' v2 v4 o xq xr aq:=by
 obtain⟨c0,ho,hl⟩:=d.o4
 exact⟨f.obj d.o2 fun e=>(hs _ e).2.1 rfl,⟨c0,f.obj ho fun e=>(hs _ e).2.2 rfl,hl⟩,d.n4,d.W,q',r',lc d.f f fun i hi=>(hs i hi).1⟩
theorem SD.mw{h':AH}{l:List Arg}(d:SD W h0 h v2 v4 o xq xr aq)(hS:bw Arg.enc 2 67 h x5 l)(hI:cz (h0.next<=·) x5)(f:Fr h h' (fun i=>∃off n,x5=.sl i off n)):SD W h0 h' v2 v4 o xq xr aq:=by
 have ty:∀i,(∃off n,x5=.sl i off n)->∃cs,h.obj i=some (aO cs 2 67):=fun i ⟨off,n,e⟩=>by
  rcases hS with⟨e2,_⟩ |⟨j,e2,ho⟩
  ·rw[e2]at e;cases e
  ·rw[e2]at e;cases e;exact⟨_,ho⟩
 obtain⟨c0,ho,hl⟩:=d.o4
 refine d.fr f (fun i hi=>⟨hI i _ _ hi.choose_spec.choose_spec,fun e=>?_,fun e=>?_⟩) (d.q.fr f fun i o hi ht e=>?_) (d.r.fr f fun i o hi ht e=>?_)
 ·obtain⟨cs,h1⟩:=ty i hi;rw[e,d.o2]at h1;cases h1
 ·obtain⟨cs,h1⟩:=ty i hi;rw[e,ho]at h1;cases h1
 ·obtain⟨cs,h1⟩:=ty i e;rw[hi]at h1;cases h1;exact absurd (ht rfl) (show(67:Nat)≠3 by decide)
 ·obtain⟨cs,h1⟩:=ty i e;rw[hi]at h1;cases h1;exact absurd (ht rfl) (show(67:Nat)≠56 by decide)
theorem cp.sA{h':AH}{S:Nat->Prop}(ht:cp 0 h)(hn:h0.next<=h.next)(oI:0<h0.next)(f:Fr h h' S)(hs:∀i,S i->h0.next<=i):cp 0 h':=cp.fr ht f fun e=>by have:=hs 0 e;omega
end
end
section
open Go.Ab
attribute [-simp] aN aD
theorem GP{b:Int}{l m:List (Nat×(Int×Int))}:d_ b (l++m)=d_ b l++d_ b m:=by simp[d_]
theorem tz{b:Int}:∀{l:List (Nat×(Int×Int))},(d_ b l).length<=l.length
 |[]=>by simp[d_]
 |y::l=>by
  have ih:=tz (b:=b) (l:=l)
  have e:d_ b (y::l)=(if y.2.1<=b/\b<y.2.1+y.2.2 then[⟨bs (iM y.1),b-y.2.1⟩] else[])++d_ b l:=rfl
  rw[e,List.length_append,List.length_cons]
  split<;>simp<;>omega
section
variable {W:Nat->Prop} {QR QN:VK} {QE:Nat->VK} {QP:AV->AH->Prop} {h0 h:AH} {R:AE->AH->Prop} {v2 v4:Nat} {xq x5 xr:AV} {o:bI} {aq:List (Int×Int)}
theorem OM(d:SD W h0 h v2 v4 o xq xr aq)(ht:cp 0 h)(oI:0<h0.next)(hS:bw Arg.enc 2 67 h x5 (dj o))(hI:cz (h0.next<=·) x5)(hq:o.az.length<=100)(hr:aq.length<=64)(hg:∀g∈aq,0<=g.1/\g.1<=100/\0<=g.2/\g.2<=100)(hb:0<=o.bit/\o.bit<=100)
  (hR:∀x5 h',bw Arg.enc 2 67 h' x5 (dj o++d_ o.bit (bS aq))->cz (h0.next<=·) x5->SD W h0 h' v2 v4 o xq xr aq->fZ.n2 W QR QN QE QP (.ptr v4 0) x5 h') :
  fZ.aQ W QR QN QE QP (.ptr v2 0) (.ptr v4 0) x5 xr (I aq.length) (I 0) h:=by
 unfold fZ.aQ
 refine bX (ι:=Nat×AV) (fun s v h'=>v=[.ptr v2 0,.ptr v4 0,s.2,xr,I aq.length,I s.1]/\s.1<=aq.length/\bw Arg.enc 2 67 h' s.2 (dj o++d_ o.bit ((bS aq).take s.1))/\cz (h0.next<=·) s.2/\SD W h0 h' v2 v4 o xq xr aq/\cp 0 h') (fun s=>aq.length-s.1) (0,x5) ⟨rfl,by omega,by simpa[d_] using hS,hI,d,ht⟩ ?_
 rintro K ⟨k,x5⟩ v h' ⟨rfl,hk,hS,hI,d,ht⟩ step
 simp only at hk hS hI
 have w3:IntKind.i64.wrap ((k:Int)+1)=((k+1:Nat):Int):=by rw[aL (by omega) (by omega)];simp
 simp only[fZ.cn,zN,zO,fZ.aU,ba]
 by_cases aM:k<aq.length
 ·have dh:(k:Int)<aq.length:=by omega
  have g0:aq[k]?=some aq[k]:=zJ aM
  have PR:=hg _ (List.getElem_mem aM)
  generalize aq[k]=g at *
  have fG:(bS aq).take (k+1)=(bS aq).take k++[(k,g)]:=by
   rw[List.take_add_one,jv,g0];rfl
  have A3:d_ o.bit ((bS aq).take (k+1))=d_ o.bit ((bS aq).take k)++(if g.1<=o.bit/\o.bit<g.1+g.2 then[⟨bs (iM k),o.bit-g.1⟩] else[]):=by
   rw[fG,GP];simp[d_]
  have PJ:(dj o++d_ o.bit ((bS aq).take k)).length<=200:=by
   have:=tz (b:=o.bit) (l:=(bS aq).take k)
   rw[List.length_append,dj,zZ]
   rw[yA]at this
   omega
  simp only[zL dh,fZ.aP,ao,zD,zF,zC,zI,fZ.n9]
  refine ll d.r ms g0 fun _=>?_
  refine gH (cs:=mu g) (uH g) rfl rfl rfl (fun id hid=>d.W id (zR d.f.next hid)) fun v9 h2 f2 X2 o9=>?_
  have d2:SD W h0 h2 v2 v4 o xq xr aq:=d.fr f2 (fun _ h=>h.elim) (d.q.bp f2) (d.r.bp f2)
  have wv:cp 0 h2:=cp.bp ht f2
  have mo:bw Arg.enc 2 67 h2 x5 (dj o++d_ o.bit ((bS aq).take k)):=hS.frame fun i of n e=>by
   rcases hS with⟨e2,_⟩ |⟨j,e2,ho⟩
   ·rw[e2]at e;cases e
   ·rw[e2]at e;cases e
    rw[ho];exact f2.bQ ho
  have wa:IntKind.i64.wrap (g.1+g.2)=g.1+g.2:=aL (by omega) (by omega)
  have wb:IntKind.i64.wrap (o.bit-g.1)=o.bit-g.1:=aL (by omega) (by omega)
  have pass:¬(g.1<=o.bit/\o.bit<g.1+g.2)->K [.ptr v2 0,.ptr v4 0,x5,xr,I aq.length,I (k+1:Nat)] h2:=fun hc=>by
   refine step (k+1,x5) _ _ (by show _<_;omega) ⟨rfl,by show k+1<=_;omega,?_,hI,d2,wv⟩
   rw[A3,zW hc,List.append_nil];exact mo
  simp only[fZ.n8,al,aF,d2.o2,o9,aB,zG,b8,mu,zA,zB,ah,nE,ge_iff_le]
  by_cases c1:g.1<=o.bit
  ·simp only[zL c1,fZ.n7,dl,zD,zS,zF,zC,zI,al,aF,d2.o2,o9,aB,zG,b8,mu,zA,zB,ah,aR,wa,ba,fZ.n6,cD,zV]
   by_cases c2:o.bit<g.1+g.2
   ·simp only[zL c2,fZ.n5,ao,zD,zF,zC,zI,fZ.n4,al,aF,d2.o2,o9,aB,zG,b8,mu,zA,zB,ah,eX,wb]
    refine⟨fun _=>False,fun _ h=>h.elim,uP (by omega) wv ?_⟩
    refine⟨_,w9,?_⟩
    refine mP (f:=Arg.enc) (sz:=2) (bytes:=24) (ty:=67) (z:=[.string ⟨#[]⟩,.int .i64 0]) (t:=⟨bs (iM k),o.bit-g.1⟩) Arg.ci (by omega) rfl Arg.gL (by decide) mo (fun i of n e=>d2.W i (hI i of n e)) (by omega) fun v y h3 iT lr f3=>?_
    simp only[fZ.n3,aR,w3]
    have d3:=d2.mw mo hI f3
    refine step (k+1,y) _ _ (by show _<_;omega) ⟨rfl,by show k+1<=_;omega,?_,fun i of n e=>zR d2.f.next (lr i of n e),d3,cp.sA wv d2.f.next oI f3 fun i hi=>hI i _ _ hi.choose_spec.choose_spec⟩
    rw[A3,zX ⟨c1,c2⟩,<-List.append_assoc];exact iT
   ·simp only[zK c2,fZ.n5,ao,zE,zD,zC,zH,fZ.n3,aR,w3]
    exact pass fun h=>c2 h.2
  ·simp only[zK c1,fZ.n7,dl,zS,zE,zD,zC,zH,fZ.n6,cD,if_false,fZ.n5,ao,fZ.n3,aR,w3]
   exact pass fun h=>c1 h.1
 ·have mS:k=aq.length:=by omega
  have df:¬((k:Int)<aq.length):=by omega
  simp only[zK df,fZ.aP,ao,zE,zD,zC,zH,zV]
  refine hR x5 h' ?_ hI d
  rw[mS,List.take_of_length_le (by rw[dX];omega)]at hS
  exact hS
end
end
section
open Go.Ab
attribute [-simp] aN aD
section
variable {h:AH} {M:Nat->Prop} {R:AE->AH->Prop} {xq xr:AV} {o:bI} {aq:List (Int×Int)}
theorem Fw(ht:cp 0 h)(oI:0<h.next)(hq:cf di 1 3 h xq o.az)(hr:cf mu 2 56 h xr aq)(ln:o.az.length<=100)(mR:aq.length<=64)(hg:∀g∈aq,0<=g.1/\g.1<=100/\0<=g.2/\g.2<=100)(hb:0<=o.bit/\o.bit<=100)
  (hR:∀xa h',bw Arg.enc 2 67 h' xa (ee o aq).args->cz (h.next<=·) xa->Fr h h' (fun _=>False)->R (.ret (.agg (au (ee o aq,xa)))) h') :
  ay Pg 17 [.agg (b8 (o,xq)),xr] h M R:=by
 apply fZ.aI
 unfold fZ.cj
 refine cW (cs:=b8 (o,xq)) (ki hq.one.1) fun v2 h1 f1 AU o2=>?_
 have hv:=AH.cK h1 (aO ([Value.string ⟨#[]⟩,.string ⟨#[]⟩,.slice none 0 0,.int .i64 0,.int .i64 0,.int .i64 0].map AV.sc) 6 46)
 rw[aN]
 refine⟨rfl,?_⟩
 have f2:Fr h1 (h1.alloc (aO ([Value.string ⟨#[]⟩,.string ⟨#[]⟩,.slice none 0 0,.int .i64 0,.int .i64 0,.int .i64 0].map AV.sc) 6 46)) (fun _=>False):=Fr.refl.alloc _
 generalize h1.alloc (aO ([Value.string ⟨#[]⟩,.string ⟨#[]⟩,.slice none 0 0,.int .i64 0,.int .i64 0,.int .i64 0].map AV.sc) 6 46)=h2 at *
 have rS:=f1.next
 obtain⟨v4,hv4⟩:∃v,v=h1.next:=⟨_,rfl⟩
 rw[<-hv4]at hv ⊢
 have cu:=f1.bO f2
 have d:SD (fun id=>M id\/h.next<=id) h h2 v2 v4 o xq xr aq:=⟨f2.bQ o2,⟨_,hv,rfl⟩,by omega,fun id hid=>.inr hid,hq.bp cu,hr.bp cu,cu⟩
 have wv:cp 0 h2:=cp.bp ht cu
 simp only[fZ.bW,fZ.bT,al,aF,d.o2,aB,zG,b8,zA,zB,ah,d.q.len.1,d.q.len.2,zH]
 unfold fZ.bY
 refine bX (ι:=Nat×AV) (fun s v h'=>v=[xr,.ptr v2 0,.ptr v4 0,s.2,xq,I o.az.length,I s.1]/\s.1<=o.az.length/\bw Arg.enc 2 67 h' s.2 ((dj o).take s.1)/\cz (h.next<=·) s.2/\SD (fun id=>M id\/h.next<=id) h h' v2 v4 o xq xr aq/\cp 0 h') (fun s=>o.az.length-s.1) (0,aV) ⟨rfl,by omega,.nil,(fun _ _ _ e=>by cases e),d,wv⟩ ?_
 clear d wv
 rintro K ⟨k,x5⟩ v h' ⟨rfl,hk,hS,hI,d,AW⟩ step
 simp only at hk hS hI
 have w3:IntKind.i64.wrap ((k:Int)+1)=((k+1:Nat):Int):=by rw[aL (by omega) (by omega)];simp
 simp only[fZ.fI,zN,zO,fZ.bZ,ba]
 by_cases aM:k<o.az.length
 ·have dh:(k:Int)<o.az.length:=by omega
  have g0:o.az[k]?=some o.az[k]:=zJ aM
  generalize o.az[k]=q at *
  have fG:(dj o).take (k+1)=(dj o).take k++[⟨bs [113],q⟩]:=by
   rw[List.take_add_one,dj,List.getElem?_map,g0];rfl
  simp only[zL dh,fZ.bD,ao,zD,zF,zC,zI,fZ.bG]
  refine ju d.q fT g0 rfl fun _=>?_
  simp only[fZ.bE]
  refine⟨_,w9 (s:=[113]),?_⟩
  refine mP (f:=Arg.enc) (sz:=2) (bytes:=24) (ty:=67) (z:=[.string ⟨#[]⟩,.int .i64 0]) (t:=⟨bs [113],q⟩) Arg.ci (by omega) rfl Arg.gL (by decide) hS (fun i of n e=>d.W i (hI i of n e)) (by rw[yA];omega) fun v y h3 iT lr f3=>?_
  simp only[fZ.bC,aR,w3]
  refine step (k+1,y) _ _ (by show _<_;omega) ⟨rfl,by show k+1<=_;omega,?_,fun i of n e=>zR d.f.next (lr i of n e),d.mw hS hI f3,cp.sA AW d.f.next oI f3 fun i hi=>hI i _ _ hi.choose_spec.choose_spec⟩
  rw[fG];exact iT
 ·have mS:k=o.az.length:=by omega
  have df:¬((k:Int)<o.az.length):=by omega
  have kH:(dj o).take k=dj o:=List.take_of_length_le (by rw[dj,zZ];omega)
  rw[kH]at hS
  simp only[zK df,fZ.bD,ao,zE,zD,zC,zH,zV,zN,zO,fZ.bz,al,aF,d.o2,aB,zG,b8,zA,zB,ah,fZ.bu,dD]
  by_cases k2:o.kind=2
  ·have e2:(o.kind==2)=true:=by simp[k2]
   have kE:ee o aq=⟨be,ByteArray.empty,dj o++d_ o.bit (bS aq),0,0,0⟩:=by unfold ee;rw[zX k2]
   simp only[e2,fZ.bg,ao,zD,zF,zC,zI,fZ.a_,d.r.len.1,d.r.len.2,zH]
   refine OM d AW oI hS hI ln mR hg hb fun x5 h4 yq Ff d4=>?_
   unfold fZ.n2
   refine⟨_,Cm (bw.M5 yq),?_⟩
   refine B7 (r:=ee o aq) d4 (by rw[kE];rfl) yq.fl.one.1 fun h5 f5=>?_
   have fn:Fr h h5 fun _=>False:=lc d4.f f5 fun i hi=>by subst hi;exact d4.n4
   refine hR x5 h5 ?_ Ff fn
   rw[kE]
   refine yq.frame fun i of n e=>?_
   obtain⟨cs,ho,_⟩:=d4.o4
   rcases yq with⟨e2,_⟩ |⟨j,e2,hj⟩
   ·rw[e2]at e;cases e
   ·rw[e2]at e;cases e
    rw[hj];exact f5.obj hj fun e=>by subst e;rw[ho]at hj;cases hj
  ·have e2:(o.kind==2)=false:=by simp[k2]
   have U1:(ee o aq).args=dj o->∀h5,Fr h' h5 (·=v4)->R (.ret (.agg (au (ee o aq,x5)))) h5:=fun ha h5 f5=>by
    have fn:Fr h h5 fun _=>False:=lc d.f f5 fun i hi=>by subst hi;exact d.n4
    refine hR x5 h5 ?_ hI fn
    rw[ha]
    refine hS.frame fun i of n e=>?_
    obtain⟨cs,ho,_⟩:=d.o4
    rcases hS with⟨e2,_⟩ |⟨j,e2,hj⟩
    ·rw[e2]at e;cases e
    ·rw[e2]at e;cases e
     rw[hj];exact f5.obj hj fun e=>by subst e;rw[ho]at hj;cases hj
   simp only[e2,fZ.bg,ao,zE,zD,zC,zH,fZ.aZ,dD]
   by_cases k3:o.kind=3
   ·have e3:(o.kind==3)=true:=by simp[k3]
    have kE:ee o aq=⟨ch,ByteArray.empty,dj o,0,0,0⟩:=by unfold ee;rw[zW k2,zX k3]
    simp only[e3,fZ.bj,ao,zD,zF,zC,zI,fZ.bn]
    refine⟨_,Cm (bw.M5 hS),?_⟩
    exact B7 (r:=ee o aq) d (by rw[kE];rfl) hS.fl.one.1 (U1 (by rw[kE]))
   ·have e3:(o.kind==3)=false:=by simp[k3]
    have kE:ee o aq=⟨bP,o.name,dj o,0,0,0⟩:=by unfold ee;rw[zW k2,zW k3]
    simp only[e3,fZ.bj,ao,zE,zD,zC,zH,fZ.n1,al,aF,d.o2,aB,zG,b8,zA,zB,ah]
    refine⟨_,Vk (bw.M5 hS),?_⟩
    exact B7 (r:=ee o aq) d (by rw[kE];rfl) hS.fl.one.1 (U1 (by rw[kE]))
end
end
section
open Go.Ab
attribute [-simp] aN aD
def jW:List (Int×Int)->Int->Int->Prop
 |[],a,b=>a=b
 |g::t,a,b=>g.1=a/\1<=g.2/\jW t (a+g.2) b
theorem jW.le:∀{l:List (Int×Int)}{a b:Int},jW l a b->a<=b
 |[],_,_,h=>Int.le_of_eq h
 |g::t,a,b,h=>by have:=jW.le h.2.2;have:=h.2.1;omega
theorem jW.mw:∀{l m:List (Int×Int)}{a b c:Int},jW l a b->jW m b c->jW (l++m) a c
 |[],_,_,_,_,h,k=>by cases h;exact k
 |_::_,_,_,_,_,h,k=>⟨h.1,h.2.1,jW.mw h.2.2 k⟩
theorem jW.split:∀{l:List (Int×Int)}{g:Int×Int}{a b:Int},jW (l++[g]) a b->jW l a g.1/\1<=g.2/\g.1+g.2=b
 |[],g,a,b,h=>by
  obtain⟨h1,h2,h3⟩:=h
  exact⟨h1.symm,h2,by have:a+g.2=b:=h3;omega⟩
 |x::l,g,a,b,h=>by
  obtain⟨h1,h2,h3⟩:=h
  have:=jW.split h3
  exact⟨⟨h1,h2,this.1⟩,this.2⟩
theorem Dv(ops:List bI):∀n,jW (bN ops n) 0 n
 |0=>rfl
 |n+1=>by
  have ih:=Dv ops n
  have one:jW [((n:Int),1)] n ((n+1:Nat):Int):=⟨rfl,Int.le_refl 1,by show(n:Int)+1=((n+1:Nat):Int);omega⟩
  simp only[bN,nJ]
  split
  ·rename_i hn
   rw[List.getLast?_eq_none_iff.1 hn]at ih
   exact jW.mw ih one
  ·rename_i g hg
   split
   ·exact jW.mw ih one
   ·have e:bN ops n=(bN ops n).dropLast++[g]:=by
     obtain⟨m,z,hm⟩:∃m z,bN ops n=m++[z]:=by
      have cC:bN ops n≠[]:=fun e=>by rw[e]at hg;cases hg
      exact⟨_,_,(List.dropLast_concat_getLast cC).symm⟩
     rw[hm]at hg ⊢;simp at hg;subst hg;simp
    rw[e]at ih
    obtain⟨h1,h2,h3⟩:=jW.split ih
    exact jW.mw h1 ⟨rfl,by show 1<=g.2+1;omega,by show g.1+(g.2+1)=((n+1:Nat):Int);omega⟩
theorem Rm{l:List (Int×Int)}:(bS l).map (·.2)=l:=by
 apply List.ext_getElem?;intro i
 rw[List.getElem?_map,jv,Option.map_map]
 exact congrFun Option.map_id _
def rN(q x:Int)(L:List (Nat×(Int×Int)))(r:List Arg):List Arg:=L.foldl (fun r y=>if y.2.1<=x/\x<y.2.1+y.2.2 then[⟨bs [113],q⟩,⟨bs (iM y.1),x-y.2.1⟩] else r) r
theorem yL{x:Int}:∀{L:List (Nat×(Int×Int))}{a b:Int},jW (L.map (·.2)) a b->x<a->d_ x L=[]/\∀q r,rN q x L r=r
 |[],_,_,_,_=>⟨rfl,fun _ _=>rfl⟩
 |y::L,a,b,h,hx=>by
  obtain⟨h1,h2,h3⟩:=h
  replace h1:y.2.1=a:=h1
  replace h2:1<=y.2.2:=h2
  replace h3:jW (L.map (·.2)) (a+y.2.2) b:=h3
  have ih:=yL (x:=x) h3 (by omega)
  have hn:¬(y.2.1<=x/\x<y.2.1+y.2.2):=fun k=>by omega
  refine⟨?_,fun q r=>?_⟩
  ·have:=ih.1
   unfold d_ at this ⊢
   rw[List.flatMap_cons,zW hn,this];rfl
  ·have:=ih.2 q r
   unfold rN at this ⊢
   rw[List.foldl_cons,zW hn,this]
theorem BC{x:Int}:∀{L:List (Nat×(Int×Int))}{a b:Int},jW (L.map (·.2)) a b->a<=x->x<b->∀q r,rN q x L r=⟨bs [113],q⟩::d_ x L
 |[],a,b,h,h1,h2=>by have:a=b:=h;omega
 |y::L,a,b,h,hx,hb=>by
  obtain⟨h1,h2,h3⟩:=h
  replace h1:y.2.1=a:=h1
  replace h2:1<=y.2.2:=h2
  replace h3:jW (L.map (·.2)) (a+y.2.2) b:=h3
  intro q r
  by_cases hy:y.2.1<=x/\x<y.2.1+y.2.2
  ·have ih:=yL h3 (x:=x) (by omega)
   have i1:=ih.1
   have i2:=ih.2 q [⟨bs [113],q⟩,⟨bs (iM y.1),x-y.2.1⟩]
   unfold rN at i2 ⊢
   unfold d_ at i1 ⊢
   rw[List.foldl_cons,zX hy,i2,List.flatMap_cons,zX hy,i1];rfl
  ·have ih:=BC h3 (x:=x) (by omega) hb q r
   unfold rN at ih ⊢
   unfold d_ at ih ⊢
   rw[List.foldl_cons,zW hy,ih,List.flatMap_cons,zW hy];rfl
def MP(s:Int):Int:=2^s.toNat-1
theorem CG{t:TypeId}{c:Bool}{x y:Int}{K:AV->Prop}:aa Pg .shl t c (U x) (I y) K=(0<=y/\K (U (IntKind.u64.wrap (x*2^(min y.toNat IntKind.u64.bits))))):=rfl
theorem Kv:∀s:_root_.Fin 33,1<=s.val->IntKind.u64.wrap (IntKind.u64.wrap (1*2^(min s.val IntKind.u64.bits))-1)=2^s.val-1/\IntKind.u64.wrap (IntKind.u64.wrap (IntKind.u64.wrap (1*2^(min (s.val-1) IntKind.u64.bits))*2)-1)=2^s.val-1:=by decide
theorem Rs{s:Int}(h:1<=s/\s<=32):IntKind.u64.wrap (IntKind.u64.wrap (1*2^(min s.toNat IntKind.u64.bits))-1)=MP s:=(Kv ⟨s.toNat,by omega⟩ (by show 1<=s.toNat;omega)).1
theorem Rr{s:Int}(h:1<=s/\s<=32):IntKind.u64.wrap (IntKind.u64.wrap (IntKind.u64.wrap (1*2^(min (s-1).toNat IntKind.u64.bits))*2)-1)=MP s:=by
 have e:(s-1).toNat=s.toNat-1:=by omega
 rw[e];exact(Kv ⟨s.toNat,by omega⟩ (by show 1<=s.toNat;omega)).2
end
section
open Go.Ab
attribute [-simp] aN aD
section
variable {W:Nat->Prop} {QR QN:VK} {QE:Nat->VK} {QP:AV->AH->Prop} {h0 h:AH} {R:AE->AH->Prop} {v2 v6:Nat} {xq xa x5 xr:AV} {o:bI} {aq:List (Int×Int)} {r:Row}
structure SE (W:Nat->Prop) (h0 h:AH) (v2 v6:Nat) (o:bI) (xq xr:AV) (aq:List (Int×Int)) (r:Row) (xa:AV):Prop where
 o2:h.obj v2=some (aO (b8 (o,xq)) 7 38)
 o6:h.obj v6=some (aO (au (r,xa)) 6 46)
 n6:h0.next<=v6
 a:bw Arg.enc 2 67 h xa r.args
 ia:cz (h0.next<=·) xa
 W:∀id,h0.next<=id->W id
 q:cf di 1 3 h xq o.az
 r:cf na 3 48 h xr (bS aq)
 f:Fr h0 h (fun _=>False)
theorem jz{α:Type}{f:α->List AV}{sz:Nat}{ty:TypeId}{h h':AH}{S:Nat->Prop}{x:AV}{l:List α}(hl:bw f sz ty h x l)(hf:Fr h h' S)(hs:∀id cs,h.obj id=some (aO cs sz ty)->¬S id):bw f sz ty h' x l:=by
 rcases hl with hl |⟨id,h1,h2⟩
 ·exact .inl hl
 ·exact .inr ⟨id,h1,hf.obj h2 (hs _ _ h2)⟩
theorem SE.fr{h':AH}{S:Nat->Prop}(d:SE W h0 h v2 v6 o xq xr aq r xa)(f:Fr h h' S)(hs:∀i,S i->h0.next<=i/\i≠v6/\∀cs sz ty ro kd,h.obj i=some { cells:=cs,sz:=sz,ty:=ty,ro:=ro,kind:=kd }->ro=false/\ty≠38/\ty≠3/\ty≠48/\ty≠67):SE W h0 h' v2 v6 o xq xr aq r xa:=by
 refine⟨f.obj d.o2 fun e=>((hs _ e).2.2 _ _ _ _ _ d.o2).2.1 rfl,f.obj d.o6 fun e=>(hs _ e).2.1 rfl,d.n6,jz d.a f (fun i cs ho e=>((hs _ e).2.2 _ _ _ _ _ ho).2.2.2.2 rfl),d.ia,d.W,d.q.fr f fun i ob ho ht e=>?_,d.r.fr f fun i ob ho ht e=>?_,lc d.f f fun i hi=>(hs i hi).1⟩
 ·obtain⟨a,b,c,_⟩:=(hs _ e).2.2 _ _ _ _ _ (show h.obj i=some { cells:=ob.cells,sz:=ob.sz,ty:=ob.ty,ro:=ob.ro,kind:=ob.kind } from ho)
  exact c (ht a)
 ·obtain⟨a,b,_,c,_⟩:=(hs _ e).2.2 _ _ _ _ _ (show h.obj i=some { cells:=ob.cells,sz:=ob.sz,ty:=ob.ty,ro:=ob.ro,kind:=ob.kind } from ho)
  exact c (ht a)
theorem SE.bp{h':AH}(d:SE W h0 h v2 v6 o xq xr aq r xa)(f:Fr h h' fun _=>False):SE W h0 h' v2 v6 o xq xr aq r xa:=d.fr f fun _ h=>h.elim
theorem SE.set{h1:AH}{S:Nat->Prop}{r':Row}{y:AV}(d:SE W h0 h v2 v6 o xq xr aq r xa)(f:Fr h h1 S)(hs:∀i,S i->i=v6)(o6:h1.obj v6=some (aO (au (r',y)) 6 46))(ha:bw Arg.enc 2 67 h y r'.args)(ia:cz (h0.next<=·) y):SE W h0 h1 v2 v6 o xq xr aq r' y:=by
 have gT:∀{i:Nat}{cs:List AV}{sz:Nat}{ty:TypeId}{ro:Bool}{kd},S i->h.obj i=some { cells:=cs,sz:=sz,ty:=ty,ro:=ro,kind:=kd }->ro=false/\ty=46:=fun hi ho=>by
  have e:=hs _ hi;subst e;rw[d.o6]at ho;cases ho;exact⟨rfl,rfl⟩
 refine⟨f.obj d.o2 fun e=>absurd (gT e d.o2).2 (show(38:Nat)≠46 by decide),o6,d.n6,jz ha f fun i cs ho e=>absurd (gT e ho).2 (show(67:Nat)≠46 by decide),ia,d.W,d.q.fr f fun i ob ho ht e=>?_,d.r.fr f fun i ob ho ht e=>?_,lc d.f f fun i hi=>by rw[hs i hi];exact d.n6⟩
 ·have:=gT e (show h.obj i=some { cells:=ob.cells,sz:=ob.sz,ty:=ob.ty,ro:=ob.ro,kind:=ob.kind } from ho)
  rw[ht this.1]at this;exact absurd this.2 (show(3:Nat)≠46 by decide)
 ·have:=gT e (show h.obj i=some { cells:=ob.cells,sz:=ob.sz,ty:=ob.ty,ro:=ob.ro,kind:=ob.kind } from ho)
  rw[ht this.1]at this;exact absurd this.2 (show(48:Nat)≠46 by decide)
theorem Js(d:SE W h0 h v2 v6 o xq xr aq ⟨bP,o.name,[],0,0,0⟩ aV)(hq:o.az.length<=100)
  (hR:∀xa h',SE W h0 h' v2 v6 o xq xr aq ⟨bP,o.name,dj o,0,0,0⟩ xa->dQ.bT W QR QN QE QP xr (.ptr v2 0) x5 (.ptr v6 0) h') :
  dQ.cX W QR QN QE QP xr (.ptr v2 0) x5 (.ptr v6 0) h:=by
 unfold dQ.cX dQ.cV
 refine bX (ι:=Nat×AV) (fun s v h'=>v=[xr,.ptr v2 0,x5,.ptr v6 0,I s.1]/\s.1<=o.az.length/\SE W h0 h' v2 v6 o xq xr aq ⟨bP,o.name,(dj o).take s.1,0,0,0⟩ s.2) (fun s=>o.az.length-s.1) (0,aV) ⟨rfl,by omega,d⟩ ?_
 clear d
 rintro K ⟨k,xa⟩ v h' ⟨rfl,hk,d⟩ step
 simp only at hk d
 have w3:IntKind.i64.wrap ((k:Int)+1)=((k+1:Nat):Int):=by rw[aL (by omega) (by omega)];simp
 simp only[dQ.rY,zN,zO,dQ.cN,al,aF,d.o2,aB,zG,b8,zA,zB,ah,d.q.len.1,d.q.len.2,zH,ba]
 by_cases aM:k<o.az.length
 ·have dh:(k:Int)<o.az.length:=by omega
  have g0:o.az[k]?=some o.az[k]:=zJ aM
  generalize o.az[k]=q at *
  have fG:(dj o).take (k+1)=(dj o).take k++[⟨bs [113],q⟩]:=by
   rw[List.take_add_one,dj,List.getElem?_map,g0];rfl
  simp only[zL dh,dQ.cq,ao,zD,zF,zC,zI,dQ.cj,al,aF,d.o2,d.o6,aB,zG,b8,au,zA,zB,ah]
  refine ju d.q fT g0 rfl fun _=>?_
  refine⟨_,w9 (s:=[113]),?_⟩
  refine mP (f:=Arg.enc) (sz:=2) (bytes:=24) (ty:=67) (z:=[.string ⟨#[]⟩,.int .i64 0]) (t:=⟨bs [113],q⟩) Arg.ci (by omega) rfl Arg.gL (by decide) d.a (fun i of n e=>d.W i (d.ia i of n e)) (by show(List.take k (dj o)).length<=_;rw[yA];omega) fun v y h3 iT lr f3=>?_
  have XW:∀i,(∃off n,xa=.sl i off n)->h0.next<=i/\∃cs,h'.obj i=some (aO cs 2 67):=fun i ⟨off,n,e⟩=>by
   refine⟨d.ia i _ _ e,?_⟩
   rcases d.a with⟨e2,_⟩ |⟨j,e2,ho⟩
   ·rw[e2]at e;cases e
   ·rw[e2]at e;cases e;exact⟨_,ho⟩
  have AJ:∀{i:Nat}{cs:List AV}{sz:Nat}{ty:TypeId}{ro:Bool}{kd},(∃off n,xa=.sl i off n)->h'.obj i=some { cells:=cs,sz:=sz,ty:=ty,ro:=ro,kind:=kd }->ro=false/\ty=67:=fun hi ho=>by
   obtain⟨_,cs,e⟩:=XW _ hi;rw[ho]at e;cases e;exact⟨rfl,rfl⟩
  have e2:=f3.obj d.o2 fun e=>absurd (AJ e d.o2).2 (show(38:Nat)≠67 by decide)
  have e6:=f3.obj d.o6 fun e=>absurd (AJ e d.o6).2 (show(46:Nat)≠67 by decide)
  have eq:cf di 1 3 h3 xq o.az:=d.q.fr f3 fun i ob ho ht e=>by
   have:=AJ e (show h'.obj i=some { cells:=ob.cells,sz:=ob.sz,ty:=ob.ty,ro:=ob.ro,kind:=ob.kind } from ho)
   rw[ht this.1]at this;exact absurd this.2 (show(3:Nat)≠67 by decide)
  have er:cf na 3 48 h3 xr (bS aq):=d.r.fr f3 fun i ob ho ht e=>by
   have:=AJ e (show h'.obj i=some { cells:=ob.cells,sz:=ob.sz,ty:=ob.ty,ro:=ob.ro,kind:=ob.kind } from ho)
   rw[ht this.1]at this;exact absurd this.2 (show(48:Nat)≠67 by decide)
  have ef:=lc d.f f3 fun i hi=>(XW i hi).1
  have Ff:cz (h0.next<=·) y:=fun i of n e=>zR d.f.next (lr i of n e)
  have kY:cB y=true:=iT.fl.one.1
  simp only[al,aD,e6,iT.fl.one.2,cH,au,zG]
  refine⟨⟨d.W _ d.n6,by show(cB y&&true)=true;rw[kY];rfl,rfl,by show 2+1<=6;omega⟩,?_⟩
  have o1:=fF (off:=2) (cs:=[y]) e6
  have f4:Fr h3 (h3.put v6 2 [y]) (·=v6):=Fr.refl.put (.inl rfl)
  generalize h3.put v6 2 [y]=h4 at *
  simp only[dQ.bW,aR,w3]
  refine step (k+1,y) _ _ (by show _<_;omega) ⟨rfl,by show k+1<=_;omega,?_⟩
  have e:bw Arg.enc 2 67 h3 y ((dj o).take (k+1)):=by rw[fG];exact iT
  have gT:∀{i:Nat}{cs:List AV}{sz:Nat}{ty:TypeId}{ro:Bool}{kd},i=v6->h3.obj i=some { cells:=cs,sz:=sz,ty:=ty,ro:=ro,kind:=kd }->ro=false/\ty=46:=fun hi ho=>by
   subst hi;rw[e6]at ho;cases ho;exact⟨rfl,rfl⟩
  refine⟨f4.obj e2 fun e=>absurd (gT e e2).2 (show(38:Nat)≠46 by decide),o1,d.n6,jz e f4 fun i cs ho e=>absurd (gT e ho).2 (show(67:Nat)≠46 by decide),Ff,d.W,eq.fr f4 fun i ob ho ht e=>?_,er.fr f4 fun i ob ho ht e=>?_,lc ef f4 fun i hi=>by rw[hi];exact d.n6⟩
  ·have:=gT e (show h3.obj i=some { cells:=ob.cells,sz:=ob.sz,ty:=ob.ty,ro:=ob.ro,kind:=ob.kind } from ho)
   rw[ht this.1]at this;exact absurd this.2 (show(3:Nat)≠46 by decide)
  ·have:=gT e (show h3.obj i=some { cells:=ob.cells,sz:=ob.sz,ty:=ob.ty,ro:=ob.ro,kind:=ob.kind } from ho)
   rw[ht this.1]at this;exact absurd this.2 (show(48:Nat)≠46 by decide)
 ·have df:¬((k:Int)<o.az.length):=by omega
  have kH:(dj o).take k=dj o:=List.take_of_length_le (by rw[dj,zZ];omega)
  rw[kH]at d
  simp only[zK df,dQ.cq,ao,zE,zD,zC,zH,zV,zN,zO]
  exact hR _ _ d
end
end
section
open Go.Ab
attribute [-simp] aN aD
def jA(o:bI)(q0:Int)(L:List (Nat×(Int×Int)))(r:Row):Row:=L.foldl (fun r y=>if o.kind=2/\y.2.1<=o.bit/\o.bit<y.2.1+y.2.2 then⟨be,ByteArray.empty,[⟨bs [113],q0⟩,⟨bs (iM y.1),o.bit-y.2.1⟩],0,0,0⟩ else r) r
theorem MB{o:bI}{q0:Int}{L M:List (Nat×(Int×Int))}{r:Row}:jA o q0 (L++M) r=jA o q0 M (jA o q0 L r):=List.foldl_append
def KL(o:bI)(y:Nat×(Int×Int)):Row:=⟨c9,bs (iM y.1),[],IntKind.i64.wrap (nf (o.value.fdiv (2^(min y.2.1.toNat IntKind.u64.bits))) (MP y.2.2)),0,0⟩
def dU(o:bI)(L:List (Nat×(Int×Int))):List Row:=(L.filter fun y=>uO o.cT y.2.1==1).map (KL o)
theorem zi{o:bI}{L M:List (Nat×(Int×Int))}:dU o (L++M)=dU o L++dU o M:=by simp[dU]
theorem rQ{o:bI}{L:List (Nat×(Int×Int))}:(dU o L).length<=L.length:=by rw[dU,zZ];exact List.length_filter_le _ _
def ew(r:Row):List AV:=au (r,aV)
theorem kh(r:Row):(ew r).length=6:=rfl
theorem pr(r:Row):(ew r).all cB=true:=rfl
theorem Qo{s:List UInt8}{n:Int}:dS (fun i=>[(0,1),(1,1),(2,1),(3,1),(4,1),(5,1)][i]?) ([Value.string ⟨#[]⟩,.string ⟨#[]⟩,.slice none 0 0,.int .i64 0,.int .i64 0,.int .i64 0].map .sc) [(0,Sb c9),(1,S s),(3,I n)]=some [Sb c9,S s,aV,I n,I 0,I 0]:=rfl
theorem CF{n:Int}{K:AV->Prop}:l8 (some .i64) (U n) K=K (I (IntKind.i64.wrap n)):=rfl
theorem CH{t:TypeId}{c:Bool}{x y:Int}{K:AV->Prop}:aa Pg .eql t c (U x) (U y) K=K (B (x==y)):=by simp
theorem Kh{t:TypeId}{c:Bool}{x y:Int}{K:AV->Prop}:aa Pg .mul t c (U x) (U y) K=K (U (IntKind.u64.wrap (x*y))):=by simp
section
variable {W:Nat->Prop} {QR QN:VK} {QE:Nat->VK} {QP:AV->AH->Prop} {h0 h:AH} {R:AE->AH->Prop} {v2 v6:Nat} {xq xa x5 xr:AV} {o:bI} {aq:List (Int×Int)} {r:Row} {k:Nat} {g:Int×Int}
theorem OP{q0:Int}(d:SE W h0 h v2 v6 o xq xr aq r xa)(g0:aq[k]?=some g)(hk:k<=64)(hg:0<=g.1/\g.1<=100/\0<=g.2/\g.2<=100)(hb:0<=o.bit/\o.bit<=100)(EV:o.kind=2->o.az[0]?=some q0)
  (hR:∀xa h',SE W h0 h' v2 v6 o xq xr aq (jA o q0 [(k,g)] r) xa->Fr h h' (·=v6)->QN [xr,.ptr v2 0,x5,.ptr v6 0,I (k+1:Nat)] h') :
  dQ.bu W QR QN QE QP xr (.ptr v2 0) x5 (.ptr v6 0) (I k) h:=by
 have w3:IntKind.i64.wrap ((k:Int)+1)=((k+1:Nat):Int):=by rw[aL (by omega) (by omega)];simp
 have wa:IntKind.i64.wrap (g.1+g.2)=g.1+g.2:=aL (by omega) (by omega)
 have wb:IntKind.i64.wrap (o.bit-g.1)=o.bit-g.1:=aL (by omega) (by omega)
 have oX:(bS aq)[k]?=some (k,g):=by rw[jv,g0];rfl
 have pass:¬(o.kind=2/\g.1<=o.bit/\o.bit<g.1+g.2)->dQ.aQ W QR QN QE QP xr (.ptr v2 0) x5 (.ptr v6 0) (I k) h:=fun hc=>by
  simp only[dQ.aQ,aR,w3]
  refine hR xa h ?_ Fr.refl
  have e:jA o q0 [(k,g)] r=r:=by simp only[jA,List.foldl_cons,List.foldl_nil];rw[zW hc]
  rw[e];exact d
 unfold dQ.bu
 refine eH d.o2 rfl fun _=>?_
 simp only[dD]
 by_cases k2:o.kind=2
 ·have e2:(o.kind==2)=true:=by simp[k2]
  simp only[e2,dQ.bg,dl,zD,zS,zF,zC,zI]
  refine eH d.o2 rfl fun _=>?_
  refine dC (k:=1) d.r fS oX (by omega) rfl fun _=>?_
  simp only[nE,ge_iff_le,dQ.aZ,cD,zV]
  by_cases c1:g.1<=o.bit
  ·simp only[zL c1,dQ.bj,dl,zD,zS,zF,zC,zI]
   refine eH d.o2 rfl fun _=>?_
   refine dC (k:=1) d.r fS oX (by omega) rfl fun _=>?_
   refine dC (k:=2) d.r fS oX (by omega) rfl fun _=>?_
   simp only[aR,wa,ba,dQ.bn,cD,zV]
   by_cases c2:o.bit<g.1+g.2
   ·simp only[zL c2,dQ.a_,ao,zD,zF,zC,zI]
    refine eH d.o2 rfl fun _=>?_
    refine ju (i:=0) d.q fT (EV k2) rfl fun _=>?_
    refine⟨_,w9 (s:=[113]),?_⟩
    refine dC (k:=0) d.r fS oX (by omega) rfl fun _=>?_
    refine eH d.o2 rfl fun _=>?_
    refine dC (k:=1) d.r fS oX (by omega) rfl fun _=>?_
    simp only[eX,wb]
    refine⟨_,w9,?_⟩
    refine ru (cells:=[S [113],I q0,S (iM k),I (o.bit-g.1)]) ⟨rfl,rfl⟩ fun id h1 f1 hid ho=>?_
    have d1:=d.bp f1
    have hx:bw Arg.enc 2 67 h1 (.sl id 0 2) [⟨bs [113],q0⟩,⟨bs (iM k),o.bit-g.1⟩]:=.inr ⟨id,rfl,ho⟩
    refine⟨_,Cm (.inr ⟨_,_,_,rfl⟩),?_⟩
    have e6:=d1.o6
    simp only[aD,e6,jf,cH]
    refine⟨⟨d.W _ d.n6,rfl,rfl,zU _⟩,?_⟩
    have o1:=fF (off:=0) (cs:=[Sb be,Sb ByteArray.empty,.sl id 0 2,I 0,I 0,I 0]) e6
    have f4:Fr h1 (h1.put v6 0 [Sb be,Sb ByteArray.empty,.sl id 0 2,I 0,I 0,I 0]) (·=v6):=Fr.refl.put (.inl rfl)
    rw[mz (by rfl)]at o1
    generalize h1.put v6 0 [Sb be,Sb ByteArray.empty,.sl id 0 2,I 0,I 0,I 0]=h2 at *
    simp only[dQ.aQ,aR,w3]
    have e:jA o q0 [(k,g)] r=⟨be,ByteArray.empty,[⟨bs [113],q0⟩,⟨bs (iM k),o.bit-g.1⟩],0,0,0⟩:=by simp only[jA,List.foldl_cons,List.foldl_nil];rw[zX ⟨k2,c1,c2⟩]
    refine hR (.sl id 0 2) h2 ?_ ((f1.mono fun _ h=>h.elim).trans (f4.mono fun _ h=>.inl h))
    rw[e]
    exact d1.set f4 (fun _ h=>h) o1 hx fun i of n e=>by cases e;exact zR d.f.next hid
   ·simp only[zK c2,dQ.a_,ao,zE,zD,zC,zH]
    exact pass fun h=>c2 h.2.2
  ·simp only[zK c1,dQ.bj,dl,zS,zE,zD,zC,zH,dQ.bn,cD,if_false,dQ.a_,ao]
   exact pass fun h=>c1 h.2.1
 ·have e2:(o.kind==2)=false:=by simp[k2]
  simp only[e2,dQ.bg,dl,zS,zE,zD,zC,zH,dQ.aZ,dQ.bj,dQ.bn,cD,if_false,dQ.a_,ao]
  exact pass fun h=>k2 h.1
end
end
section
open Go.Ab
attribute [-simp] aN aD
section
variable {W:Nat->Prop} {QR QN:VK} {QE:Nat->VK} {QP:AV->AH->Prop} {h0 h:AH} {R:AE->AH->Prop} {v2 v6:Nat} {xq xa x5 xr:AV} {o:bI} {aq:List (Int×Int)} {r:Row} {k:Nat} {g:Int×Int}
theorem SE.mw{h':AH}{L:List Row}(d:SE W h0 h v2 v6 o xq xr aq r xa)(hS:bw ew 6 46 h x5 L)(hI:cz (fun i=>h0.next<=i/\i≠v6) x5)(f:Fr h h' (fun i=>∃off n,x5=.sl i off n)):SE W h0 h' v2 v6 o xq xr aq r xa:=by
 refine d.fr f fun i ⟨off,n,e⟩=>⟨(hI i _ _ e).1,(hI i _ _ e).2,fun cs sz ty ro kd ho=>?_⟩
 rcases hS with⟨e2,_⟩ |⟨j,e2,hj⟩
 ·rw[e2]at e;cases e
 ·rw[e2]at e;cases e
  rw[hj]at ho;cases ho
  exact⟨rfl,by decide,by decide,by decide,by decide⟩
theorem V2{L:List Row}(d:SE W h0 h v2 v6 o xq xr aq r xa)(hS:bw ew 6 46 h x5 L)(hI:cz (fun i=>h0.next<=i/\i≠v6) x5)(hL:L.length<=1000)(g0:aq[k]?=some g)(hg:0<=g.1/\g.1<=100/\1<=g.2/\g.2<=32)
  (hR:∀x5 h',SE W h0 h' v2 v6 o xq xr aq r xa->bw ew 6 46 h' x5 (L++dU o [(k,g)])->cz (fun i=>h0.next<=i/\i≠v6) x5->dQ.bu W QR QN QE QP xr (.ptr v2 0) x5 (.ptr v6 0) (I k) h') :
  dQ.bG W QR QN QE QP xr (.ptr v2 0) x5 (.ptr v6 0) (I k) h:=by
 have oX:(bS aq)[k]?=some (k,g):=by rw[jv,g0];rfl
 have ws:IntKind.i64.wrap (g.2-1)=g.2-1:=aL (by omega) (by omega)
 unfold dQ.bG
 refine eH d.o2 rfl fun _=>?_
 refine dC (k:=1) d.r fS oX (by omega) rfl fun _=>?_
 simp only[nO,hg.1,zH,l9,CH]
 by_cases c:uO o.cT g.1=1
 ·have c':(nf (o.cT.fdiv (2^(min g.1.toNat IntKind.u64.bits))) 1==1)=true:=by rw[beq_iff_eq];exact c
  have wE:dU o [(k,g)]=[KL o (k,g)]:=by simp[dU,c]
  simp only[c',dQ.bE,ao,zD,zF,zC,zI]
  unfold dQ.bC
  refine eH d.o2 rfl fun _=>?_
  refine dC (k:=1) d.r fS oX (by omega) rfl fun _=>?_
  simp only[nO,hg.1,zH]
  refine dC (k:=2) d.r fS oX (by omega) rfl fun _=>?_
  simp only[eX,ws,CG,Kh,vV,Rr hg.2.2,l9]
  refine⟨by omega,?_⟩
  unfold dQ.bz
  refine dC (k:=0) d.r fS oX (by omega) rfl fun _=>?_
  simp only[CF]
  refine⟨_,Qo,?_⟩
  refine mP (f:=ew) (sz:=6) (bytes:=80) (ty:=46) (z:=[.string ⟨#[]⟩,.string ⟨#[]⟩,.slice none 0 0,.int .i64 0,.int .i64 0,.int .i64 0]) (t:=KL o (k,g)) kh (by omega) rfl pr (by decide) hS (fun i of n e=>d.W i (hI i of n e).1) (by omega) fun v y h3 iT lr f3=>?_
  refine hR y h3 (d.mw hS hI f3) (by rw[wE];exact iT) fun i of n e=>?_
  have h3n:=lr i of n e
  exact⟨zR d.f.next h3n,fun e=>by have:=h.lt _ _ d.o6;omega⟩
 ·have c':(nf (o.cT.fdiv (2^(min g.1.toNat IntKind.u64.bits))) 1==1)=false:=by rw[beq_eq_false_iff_ne];exact c
  have wE:dU o [(k,g)]=[]:=by simp[dU,c]
  simp only[c',dQ.bE,ao,zE,zD,zC,zH]
  exact hR x5 h d (by rw[wE,List.append_nil];exact hS) hI
theorem OO{q0:Int}(d:SE W h0 h v2 v6 o xq xr aq r xa)(mR:aq.length<=64)(hg:∀g∈aq,0<=g.1/\g.1<=100/\1<=g.2/\g.2<=32)(hb:0<=o.bit/\o.bit<=100)(EV:o.kind=2->o.az[0]?=some q0)
  (hR:∀x5 xa h',SE W h0 h' v2 v6 o xq xr aq (jA o q0 (bS aq) r) xa->bw ew 6 46 h' x5 (dU o (bS aq))->cz (fun i=>h0.next<=i/\i≠v6) x5->dQ.aU W QR QN QE QP (.ptr v2 0) x5 (.ptr v6 0) h') :
  dQ.bT W QR QN QE QP xr (.ptr v2 0) aV (.ptr v6 0) h:=by
 unfold dQ.bT dQ.bY
 refine bX (ι:=Nat×AV×AV) (fun s v h'=>v=[xr,.ptr v2 0,s.2.1,.ptr v6 0,I s.1]/\s.1<=aq.length/\SE W h0 h' v2 v6 o xq xr aq (jA o q0 ((bS aq).take s.1) r) s.2.2/\bw ew 6 46 h' s.2.1 (dU o ((bS aq).take s.1))/\cz (fun i=>h0.next<=i/\i≠v6) s.2.1) (fun s=>aq.length-s.1) (0,aV,xa) ⟨rfl,by omega,d,.nil,fun _ _ _ e=>by cases e⟩ ?_
 clear d
 rintro K ⟨k,x5,xa⟩ v h' ⟨rfl,hk,d,hS,hI⟩ step
 simp only at hk d hS hI
 simp only[dQ.fI,zN,zO,dQ.bZ,d.r.len.1,d.r.len.2,zH,dX,ba]
 by_cases aM:k<aq.length
 ·have dh:(k:Int)<aq.length:=by omega
  have g0:aq[k]?=some aq[k]:=zJ aM
  have PR:=hg _ (List.getElem_mem aM)
  generalize aq[k]=g at *
  have fG:(bS aq).take (k+1)=(bS aq).take k++[(k,g)]:=by
   rw[List.take_add_one,jv,g0];rfl
  simp only[zL dh,dQ.bD,ao,zD,zF,zC,zI]
  refine V2 d hS hI (by have:=rQ (o:=o) (L:=(bS aq).take k);rw[yA]at this;omega) g0 PR fun x5 h1 d1 sN qh=>?_
  refine OP (q0:=q0) d1 g0 (by omega) (by omega) hb EV fun xa h2 d2 f2=>?_
  refine step (k+1,x5,xa) _ _ (by show _<_;omega) ⟨rfl,by show k+1<=_;omega,?_,?_,qh⟩
  ·show SE W h0 h2 v2 v6 o xq xr aq (jA o q0 ((bS aq).take (k+1)) r) xa
   rw[fG,MB];exact d2
  ·show bw ew 6 46 h2 x5 (dU o ((bS aq).take (k+1)))
   rw[fG,zi]
   exact sN.frame fun i of n e=>by
    rcases sN with⟨e2,_⟩ |⟨j,e2,ho⟩
    ·rw[e2]at e;cases e
    ·have hi:=(qh i of n e).2
     rw[e2]at e;cases e
     rw[ho];exact f2.obj ho hi
 ·have mS:k=aq.length:=by omega
  have df:¬((k:Int)<aq.length):=by omega
  rw[mS,List.take_of_length_le (by rw[dX];omega)]at d hS
  simp only[zK df,dQ.bD,ao,zE,zD,zC,zH,zV,zN,zO]
  exact hR x5 xa h' d hS hI
end
end
section
open Go.Ab
attribute [-simp] aN aD
def ph(r:Row)(n:Int):Row:=⟨r.kind,r.name,r.args,r.num,n,r.place⟩
def mc(j:Nat)(L:List Row):List Row:=L.mapIdx fun i r=>if i<j then ph r ((L.length:Int)-i) else r
def kc(L:List Row):List Row:=L.mapIdx fun i r=>ph r ((L.length:Int)-i)
theorem gW{j:Nat}{L:List Row}:(mc j L).length=L.length:=by simp[mc]
theorem Kr{L:List Row}:mc 0 L=L:=by
 apply List.ext_getElem?;intro i
 simp[mc]
theorem EA{L:List Row}:mc L.length L=kc L:=by
 apply List.ext_getElem?;intro i
 simp only[mc,kc,List.getElem?_mapIdx]
 by_cases h:i<L.length
 ·simp[h]
 ·rw[List.getElem?_eq_none (by omega)];rfl
theorem Ez{j:Nat}{L:List Row}{r:Row}(h:L[j]?=some r):(mc j L)[j]?=some r:=by
 simp[mc,List.getElem?_mapIdx,h]
theorem Ey{j:Nat}{L:List Row}{r:Row}(h:L[j]?=some r):(mc j L).set j (ph r ((L.length:Int)-j))=mc (j+1) L:=by
 have hl:=(zM.1 h).1
 apply List.ext_getElem?;intro i
 rw[List.getElem?_set]
 by_cases e:j=i
 ·subst e
  rw[zX rfl,zX (by rw[gW];exact hl)]
  simp[mc,List.getElem?_mapIdx,h]
 ·rw[zW e]
  simp only[mc,List.getElem?_mapIdx]
  congr 1;funext r
  by_cases c:i<j
  ·rw[zX c,zX (by omega)]
  ·rw[zW c,zW (by omega)]
theorem bw.H8{h:AH}{x:AV}{L:List Row}(hS:bw ew 6 46 h x L):bw au 6 46 h x (L.map fun r=>(r,aV)):=by
 rcases hS with⟨a,b⟩ |⟨id,a,b⟩
 ·exact .inl ⟨a,by rw[b];rfl⟩
 ·exact .inr ⟨id,by rw[zZ];exact a,by rw[b,List.flatMap_map];rfl⟩
def qw(o:bI)(q0:Int)(L:List (Nat×(Int×Int))):Row:=
 let r:=jA o q0 L ⟨bP,o.name,dj o,0,0,0⟩
 if o.kind=3 then⟨ch,ByteArray.empty,r.args,r.num,r.rows,r.place⟩ else r
theorem G4{o:bI}{q0:Int}(h:o.kind≠2):∀{L:List (Nat×(Int×Int))}{r:Row},jA o q0 L r=r
 |[],_=>rfl
 |y::L,r=>by
  have ih:=G4 h (q0:=q0) (L:=L) (r:=r)
  unfold jA at ih ⊢
  rw[List.foldl_cons,zW fun k=>h k.1];exact ih
theorem yX{o:bI}{q0:Int}(h:o.kind=2):∀{L:List (Nat×(Int×Int))}{r:Row}{k n:ByteArray}{l:List Arg},(∃y∈L,y.2.1<=o.bit/\o.bit<y.2.1+y.2.2)\/r=⟨be,ByteArray.empty,l,0,0,0⟩->jA o q0 L r=⟨be,ByteArray.empty,rN q0 o.bit L l,0,0,0⟩
 |[],r,_,_,l,hp=>by
  rcases hp with⟨y,hy,_⟩ |e
  ·cases hy
  ·exact e
 |y::L,r,k,n,l,hp=>by
  unfold jA rN
  rw[List.foldl_cons,List.foldl_cons]
  by_cases c:y.2.1<=o.bit/\o.bit<y.2.1+y.2.2
  ·rw[zX ⟨h,c⟩,zX c]
   exact yX (k:=k) (n:=n) h (.inr rfl)
  ·rw[zW fun k=>c k.2,zW c]
   refine yX (k:=k) (n:=n) h ?_
   rcases hp with⟨z,hz,hc⟩ |e
   ·rcases List.mem_cons.1 hz with e |hz
    ·subst e;exact absurd hc c
    ·exact .inl ⟨z,hz,hc⟩
   ·exact .inr e
theorem HG{x:Int}:∀{L:List (Nat×(Int×Int))}{a b:Int},jW (L.map (·.2)) a b->a<=x->x<b->∃y∈L,y.2.1<=x/\x<y.2.1+y.2.2
 |[],a,b,h,h1,h2=>by have:a=b:=h;omega
 |y::L,a,b,h,hx,hb=>by
  obtain⟨h1,h2,h3⟩:=h
  replace h1:y.2.1=a:=h1
  replace h3:jW (L.map (·.2)) (a+y.2.2) b:=h3
  by_cases hy:x<y.2.1+y.2.2
  ·exact⟨y,by simp,by omega,hy⟩
  ·obtain⟨z,hz,hc⟩:=HG h3 (x:=x) (by omega) hb
   exact⟨z,by simp[hz],hc⟩
theorem Gt{o:bI}{q0 b:Int}{aq:List (Int×Int)}(hc:jW aq 0 b)(hb:o.kind=2->0<=o.bit/\o.bit<b)(hq:o.kind=2->o.az=[q0]):qw o q0 (bS aq)=ee o aq:=by
 unfold qw ee
 by_cases k2:o.kind=2
 ·have k3:¬o.kind=3:=by omega
  have qK:jW ((bS aq).map (·.2)) 0 b:=by rw[Rm];exact hc
  rw[zX k2,yX (k:=bP) (n:=bP) (l:=[]) k2 (.inl (HG qK (hb k2).1 (hb k2).2)),BC qK (hb k2).1 (hb k2).2]
  simp only[zW k3]
  rw[dj,hq k2];rfl
 ·rw[zW k2,G4 k2]
end
section
open Go.Ab
attribute [-simp] aN aD
section
variable {W:Nat->Prop} {QR QN:VK} {QE:Nat->VK} {QP:AV->AH->Prop} {h0 h:AH} {R:AE->AH->Prop} {v2 v6:Nat} {xq xa x5 xr:AV} {o:bI} {aq:List (Int×Int)} {r:Row}
theorem Gn{L:List Row}(d:SE W h0 h v2 v6 o xq xr aq r xa)(hS:bw ew 6 46 h x5 L)(hI:cz (fun i=>h0.next<=i/\i≠v6) x5)(hL:L.length<=1000)
  (hR:∀x h',bw au 6 46 h' x ((kc L).map (fun r=>(r,aV))++[(r,xa)])->cz (h0.next<=·) x->bw Arg.enc 2 67 h' xa r.args->cz (h0.next<=·) xa->Fr h0 h' (fun _=>False)->QR [x] h') :
  dQ.n7 W QR QN QE QP x5 (.ptr v6 0) h:=by
 unfold dQ.n7 dQ.n6
 refine bX (ι:=Nat) (fun s v h'=>v=[x5,.ptr v6 0,I s]/\s<=L.length/\SE W h0 h' v2 v6 o xq xr aq r xa/\bw ew 6 46 h' x5 (mc s L)) (fun s=>L.length-s) 0 ⟨rfl,by omega,d,by rw[Kr];exact hS⟩ ?_
 clear d hS
 rintro K j v h' ⟨rfl,hj,d,hS⟩ step
 have w3:IntKind.i64.wrap ((j:Int)+1)=((j+1:Nat):Int):=by rw[aL (by omega) (by omega)];simp
 have mU:=hS.fl
 simp only[dQ.cn,zN,zO,dQ.n5,mU.len.1,mU.len.2,zH,gW,ba]
 by_cases aM:j<L.length
 ·have dh:(j:Int)<L.length:=by omega
  have g0:L[j]?=some L[j]:=zJ aM
  generalize L[j]=y at *
  have gj:=Ez g0
  have w4:IntKind.i64.wrap ((L.length:Int)-j)=(L.length:Int)-j:=aL (by omega) (by omega)
  simp only[zL dh,dQ.n4,ao,zD,zF,zC,zI,dQ.n3,mU.len.1,mU.len.2,zH,gW,eX,w4]
  have hS':=hS
  rcases hS with⟨_,e⟩ |⟨id,rfl,ho⟩
  ·have:=congrArg List.length e;rw[gW,List.length_nil]at this;omega
  refine xC (by rw[gW];omega) ?_
  have mm:j*6+4<((mc j L).flatMap ew).length:=by rw[fR kh,gW];omega
  simp only[al,aD,ho,eJ,cH]
  refine⟨⟨d.W _ (hI _ _ _ rfl).1,rfl,rfl,by show _+1<=_;omega⟩,?_⟩
  have o1:=fF (off:=j*6+4) (cs:=[I ((L.length:Int)-j)]) ho
  have f3:Fr h' (h'.put id (j*6+4) [I ((L.length:Int)-j)]) (fun i=>∃o n,AV.sl id 0 (mc j L).length=.sl i o n):=Fr.refl.put (.inl ⟨_,_,rfl⟩)
  generalize h'.put id (j*6+4) [I ((L.length:Int)-j)]=h2 at *
  simp only[dQ.n2,aR,w3]
  refine step (j+1) _ _ (by show _<_;omega) ⟨rfl,by show j+1<=_;omega,d.mw hS' hI f3,.inr ⟨id,?_,?_⟩⟩
  ·congr 1;rw[gW,gW]
  ·rw[o1,oA kh gj (by omega) (y:=ph y ((L.length:Int)-j)) (by simp[ew,au,ph]),Ey g0]
 ·have mS:j=L.length:=by omega
  have df:¬((j:Int)<L.length):=by omega
  rw[mS,EA]at hS
  simp only[zK df,dQ.n4,ao,zE,zD,zC,zH,zV,zN,zO]
  unfold dQ.n1
  refine dN d.o6 rfl fun _=>?_
  have kY:(au (r,xa)).all cB=true:=by
   show(true&&(true&&(cB xa&&true)))=true
   rw[d.a.fl.one.1];rfl
  refine Jg (f:=au) (sz:=6) (bytes:=80) (ty:=46) (z:=[.string ⟨#[]⟩,.string ⟨#[]⟩,.slice none 0 0,.int .i64 0,.int .i64 0,.int .i64 0]) (t:=(r,xa)) eF (by omega) rfl (by decide) kY (bw.H8 hS) (fun i of n e=>d.W i (hI i of n e).1) (by rw[zZ];show(List.mapIdx _ L).length<=_;rw[List.length_mapIdx];omega) fun y h3 iT lr k3 n3=>?_
  have f3:Fr h' h3 (fun i=>∃off n,x5=.sl i off n):=⟨n3,fun i hi hs=>k3 i hi (fun off n he=>hs ⟨off,n,he⟩)⟩
  have d3:=d.mw hS hI f3
  exact hR y h3 iT (fun i of n e=>zR d.f.next (lr i of n e)) d3.a d3.ia d3.f
theorem Mc{q0:Int}{L:List Row}(d:SE W h0 h v2 v6 o xq xr aq (jA o q0 (bS aq) ⟨bP,o.name,dj o,0,0,0⟩) xa)(hS:bw ew 6 46 h x5 L)(hI:cz (fun i=>h0.next<=i/\i≠v6) x5)(hL:L.length<=1000)
  (hR:∀x h',bw au 6 46 h' x ((kc L).map (fun r=>(r,aV))++[(qw o q0 (bS aq),xa)])->cz (h0.next<=·) x->bw Arg.enc 2 67 h' xa (qw o q0 (bS aq)).args->cz (h0.next<=·) xa->Fr h0 h' (fun _=>False)->QR [x] h') :
  dQ.aU W QR QN QE QP (.ptr v2 0) x5 (.ptr v6 0) h:=by
 unfold dQ.aU
 refine eH d.o2 rfl fun _=>?_
 simp only[dD]
 by_cases k3:o.kind=3
 ·have e3:(o.kind==3)=true:=by simp[k3]
  have kE:qw o q0 (bS aq)=⟨ch,ByteArray.empty,(jA o q0 (bS aq) ⟨bP,o.name,dj o,0,0,0⟩).args,(jA o q0 (bS aq) ⟨bP,o.name,dj o,0,0,0⟩).num,(jA o q0 (bS aq) ⟨bP,o.name,dj o,0,0,0⟩).rows,(jA o q0 (bS aq) ⟨bP,o.name,dj o,0,0,0⟩).place⟩:=by unfold qw;simp only[zX k3]
  generalize jA o q0 (bS aq) ⟨bP,o.name,dj o,0,0,0⟩=r at *
  have set:∀(j:Nat)(s:ByteArray)(r1 r2:Row)(h1:AH),j<6->SE W h0 h1 v2 v6 o xq xr aq r1 xa->bw ew 6 46 h1 x5 L->(au (r1,xa)).set j (Sb s)=au (r2,xa)->r2.args=r1.args->∀K:AH->Prop,(∀h2,SE W h0 h2 v2 v6 o xq xr aq r2 xa->bw ew 6 46 h2 x5 L->K h2)->aG (some 1) (.ptr v6 (0+j)) (Sb s) h1 W K:=fun j s r1 r2 h1 hj d1 sN he ha K hK=>by
   have e6:=d1.o6
   simp only[aD,e6,pz,cH,zG]
   refine⟨⟨d1.W _ d1.n6,rfl,rfl,by show _+1<=6;omega⟩,?_⟩
   have o1:=fF (off:=j) (cs:=[Sb s]) e6
   have f4:Fr h1 (h1.put v6 j [Sb s]) (·=v6):=Fr.refl.put (.inl rfl)
   generalize h1.put v6 j [Sb s]=h2 at *
   have e:putCells (au (r1,xa)) j [Sb s]=au (r2,xa):=by rw[<-he];rfl
   rw[e]at o1
   refine hK h2 (d1.set f4 (fun _ h=>h) o1 (by rw[ha];exact d1.a) d1.ia) (sN.frame fun i of n e=>?_)
   rcases sN with⟨e2,_⟩ |⟨jj,e2,ho⟩
   ·rw[e2]at e;cases e
   ·have hi:=(hI i of n e).2
    rw[e2]at e;cases e
    rw[ho];exact f4.obj ho hi
  simp only[e3,dQ.aP,ao,zD,zF,zC,zI,dQ.n9,al]
  refine set 0 ch r ⟨ch,r.name,r.args,r.num,r.rows,r.place⟩ h (by omega) d hS rfl rfl _ fun h1 d1 sN=>?_
  simp only[dQ.n8,al]
  refine set 1 ByteArray.empty _ (qw o q0 (bS aq)) h1 (by omega) d1 sN (by rw[kE];rfl) (by rw[kE]) _ fun h2 d2 mo=>?_
  exact Gn d2 mo hI hL hR
 ·have e3:(o.kind==3)=false:=by simp[k3]
  have kE:qw o q0 (bS aq)=jA o q0 (bS aq) ⟨bP,o.name,dj o,0,0,0⟩:=by unfold qw;simp only[zW k3]
  simp only[e3,dQ.aP,ao,zE,zD,zC,zH]
  rw[<-kE]at d
  exact Gn d hS hI hL hR
end
theorem RY{k n:ByteArray}:dS (fun i=>[(0,1),(1,1),(2,1),(3,1),(4,1),(5,1)][i]?) ([Value.string ⟨#[]⟩,.string ⟨#[]⟩,.slice none 0 0,.int .i64 0,.int .i64 0,.int .i64 0].map .sc) [(0,Sb k),(1,Sb n)]=some [Sb k,Sb n,aV,I 0,I 0,I 0]:=rfl
section
variable {h:AH} {M:Nat->Prop} {R:AE->AH->Prop} {xq xr:AV} {o:bI} {aq:List (Int×Int)}
theorem Gu{q0:Int}(hq:cf di 1 3 h xq o.az)(hr:cf na 3 48 h xr (bS aq))(ln:o.az.length<=100)(mR:aq.length<=64)(hg:∀g∈aq,0<=g.1/\g.1<=100/\1<=g.2/\g.2<=32)(hb:0<=o.bit/\o.bit<=100)(EV:o.kind=2->o.az[0]?=some q0)
  (hR:∀x xa h',bw au 6 46 h' x ((kc (dU o (bS aq))).map (fun r=>(r,aV))++[(qw o q0 (bS aq),xa)])->cz (h.next<=·) x->bw Arg.enc 2 67 h' xa (qw o q0 (bS aq)).args->cz (h.next<=·) xa->Fr h h' (fun _=>False)->R (.ret x) h') :
  ay Pg 12 [.agg (b8 (o,xq)),xr] h M R:=by
 apply dQ.aI
 unfold dQ.ft
 refine cW (cs:=b8 (o,xq)) (ki hq.one.1) fun v2 h1 f1 AU o2=>?_
 simp only[dQ.eh]
 unfold dQ.dH
 refine eH o2 rfl fun _=>?_
 refine⟨_,RY (k:=bP) (n:=o.name),?_⟩
 refine gH (cs:=au (⟨bP,o.name,[],0,0,0⟩,aV)) rfl rfl rfl rfl (fun id hid=>.inr (zR f1.next hid)) fun v6 h2 f2 hv6 o6=>?_
 have cu:=f1.bO f2
 have rS:=f1.next
 have d:SE (fun id=>M id\/h.next<=id) h h2 v2 v6 o xq xr aq ⟨bP,o.name,[],0,0,0⟩ aV:=⟨f2.bQ o2,o6,by omega,.nil,(fun _ _ _ e=>by cases e),fun id hid=>.inr hid,hq.bp cu,hr.bp cu,cu⟩
 refine Js d ln fun xa h3 d3=>?_
 refine OO (q0:=q0) d3 mR hg hb EV fun x5 xa h4 d4 yq Ff=>?_
 refine Mc d4 yq Ff (by have:=rQ (o:=o) (L:=bS aq);rw[dX]at this;omega) fun x h5 P6 UP hA5 hI6 f5=>?_
 have:=hR x xa h5 P6 UP hA5 hI6 f5
 simpa[aH,jp,gN] using this
end
end
end Go.Proofs.YtjehibknlmehmaaGreatDoor
