/- The document looks as the plain form says. No condition. -/
import Derived.Test.YtjehibknlmehmaaGreatGr
import Derived.Test.YtjehibknlmehmaaGreatFb
set_option maxRecDepth 100000
namespace Go.Proofs.YtjehibknlmehmaaGreat
section
open Go.Ab
attribute [-simp] aV aE
def ke(r:gK):List AV:=[Sb r.name,I r.from_,I r.size]
theorem jL(r:gK):(ke r).length=3:=rfl
def la(y:bS×AV):List AV:=[Sb y.1.name,y.2,I y.1.from_,I y.1.Hv,I y.1.depth,I y.1.ops,B (!y.1.whole)]
theorem jw(y:bS×AV):(la y).length=7:=rfl
theorem vS{y:bS×AV}(h:cR y.2=true):(la y).all cR=true:=by
 show(true&&(cR y.2&&(true&&(true&&(true&&(true&&(true&&true)))))))=true
 rw[h];rfl
def TB(t:TypeId):Bool:=t==56||t==104||t==97
abbrev Fq(xr xq xb xd:AV)(pl er:Int)(many:Bool)(xo xp:AV):AO:=aP [xr,xq,xb,xd,I pl,I er,B many,xo,xp] 9 56
structure DT (h:AH) (xd:AV) (ds:List bS) (yl:List (bS×AV)):Prop where
 t:cl la 7 97 h xd yl
 e:yl.map (·.1)=ds
 p:∀y∈yl,cl iL 1 9 h y.2 y.1.params
structure RB (n0:Nat) (h:AH) (b:Nat) (xr:AV) (bk:Bk) (pl er:Int) (xq xb xd:AV) (yl:List (bS×AV)):Prop where
 n:n0<=b/\dC (n0<=·) xq/\dC (n0<=·) xb/\dC (n0<=·) xd
 b:h.obj b=some (Fq xr xq xb xd pl er false aQ aQ)
 q:cl ke 3 104 h xq bk.qs
 s:cl ke 3 104 h xb bk.bs
 d:DT h xd bk.ds yl
 sep:Sep xq xb
theorem DT.ba{h h':AH}{xd:AV}{ds:List bS}{yl:List (bS×AV)}(a:DT h xd ds yl)(f:Fr h h' fun _=>False):DT h' xd ds yl:=⟨a.t.aU f fun _ _ h=>h,a.e,fun y hy=>(a.p y hy).aU f fun _ _ h=>h⟩
theorem RB.ba{n0:Nat}{h h':AH}{b:Nat}{xr:AV}{bk:Bk}{pl er:Int}{xq xb xd:AV}{yl:List (bS×AV)}(a:RB n0 h b xr bk pl er xq xb xd yl)(f:Fr h h' fun _=>False):RB n0 h' b xr bk pl er xq xb xd yl:=
 ⟨a.n,f.bU a.b,a.q.aU f fun _ _ h=>h,a.s.aU f fun _ _ h=>h,a.d.ba f,a.sep⟩
theorem DT.at_{h:AH}{xd:AV}{ds:List bS}{yl:List (bS×AV)}(a:DT h xd ds yl){i:Nat}{d:bS}(hd:ds[i]?=some d):∃x,yl[i]?=some (d,x)/\cl iL 1 9 h x d.params:=by
 rw[<-a.e,List.getElem?_map]at hd
 cases hy:yl[i]? with
 |none=>rw[hy]at hd;cases hd
 |some y=>
  rw[hy]at hd
  cases hd
  exact⟨y.2,rfl,a.p y (zP hy)⟩
theorem DT.len{h:AH}{xd:AV}{ds:List bS}{yl:List (bS×AV)}(a:DT h xd ds yl):yl.length=ds.length:=by
 have:=congrArg List.length a.e
 simpa using this
section
variable {h:AH} {M:Nat->Prop} {R:AE->AH->Prop}
theorem uq(r:gK)(l:List gK):aK (r::l)=r.size+aK l:=by simp[aK]
theorem vk{x:AV}{l:List gK}(hx:cK ke 3 104 h x l)(hs:∀r∈l,0<=r.size)(ht:aK l<=64)(hl:l.length<=100000000)(hR:R (.ret (I (aK l))) h):aA Pg 17 [x] h M R:=by
 apply vj.aM
 unfold vj.n9 vj.n8 vj.n7 vj.n6
 refine cy (ι:=Nat×Int) (fun i v h'=>v=[x,I i.2,I i.1]/\i.1<=l.length/\h'=h/\0<=i.2/\i.2+aK (l.drop i.1)=aK l) (fun i=>l.length-i.1) (0,0) ⟨rfl,by omega,rfl,by simp,by simp⟩ ?_
 rintro K ⟨i,n⟩ v h' ⟨rfl,hi,rfl,hn,he⟩ step
 simp only at hi hn he
 simp only[vj.cG,zN,zO,vj.n5,hx.len.1,hx.len.2,zH,bc]
 by_cases aL:i<l.length
 ·have fH:(i:Int)<l.length:=by omega
  have g1:l[i]?=some l[i]:=zJ aL
  have w1:IntKind.i64.wrap ((i:Int)+1)=((i+1:Nat):Int):=by rw[aR (by omega) (by omega)];simp
  rw[List.drop_eq_getElem_cons aL,uq]at he
  have h0:=hs _ (List.getElem_mem aL)
  have BM:0<=aK (l.drop (i+1)):=by
   have key:∀m:List gK,(∀r∈m,0<=r.size)->0<=aK m:=by
    intro m
    induction m with
    |nil=>intro _;simp[aK]
    |cons r m ih=>
     intro hm
     rw[uq]
     have:=ih fun r hr=>hm r (List.mem_cons_of_mem _ hr)
     have:=hm r (List.mem_cons_self ..)
     omega
   exact key _ fun r hr=>hs r (List.mem_of_mem_drop hr)
  generalize l[i]=g at *
  have w2:IntKind.i64.wrap (n+g.size)=n+g.size:=aR (by omega) (by omega)
  simp only[zL fH,vj.n4,al,zD,zF,zC,zI,vj.n3]
  refine dJ (k:=2) hx jL g1 (by omega) rfl fun _=>?_
  simp only[aZ,w2,vj.n2,w1]
  exact step (i+1,n+g.size) _ _ (by simp only;omega) ⟨rfl,by simp only;omega,rfl,by simp only;omega,by simp only;omega⟩
 ·have eV:¬(i:Int)<l.length:=by omega
  rw[List.drop_of_length_le (by omega)]at he
  have e:n=aK l:=by simp[aK]at he ⊢;omega
  subst e
  simp only[zK eV,vj.n4,al,zE,zD,zC,zH,zV,vj.n1,zN]
  simpa using hR
theorem sy{x:AV}{l:List gK}{n:ByteArray}(hx:cK ke 3 104 h x l)(hl:l.length<=100000000)(h1:eF l n=none->R (.ret (I (-1))) h)(h2:∀(i:Nat) g,l[i]?=some g->eF l n=some g->R (.ret (I i)) h):aA Pg 46 [x,Sb n] h M R:=by
 apply tu.aM
 unfold tu.aS tu.n9 tu.n8
 refine cy (ι:=Nat) (fun i v h'=>v=[x,Sb n,I i]/\i<=l.length/\h'=h/\eF (l.drop i) n=eF l n) (fun i=>l.length-i) 0 ⟨rfl,by omega,rfl,by simp⟩ ?_
 rintro K i v h' ⟨rfl,hi,rfl,he⟩ step
 simp only[tu.cG,zN,zO,tu.n7,hx.len.1,hx.len.2,zH,bc]
 by_cases aL:i<l.length
 ·have fH:(i:Int)<l.length:=by omega
  have g1:l[i]?=some l[i]:=zJ aL
  have w1:IntKind.i64.wrap ((i:Int)+1)=((i+1:Nat):Int):=by rw[aR (by omega) (by omega)];simp
  rw[List.drop_eq_getElem_cons aL]at he
  unfold eF at he
  rw[List.find?_cons]at he
  generalize l[i]=g at *
  simp only[zL fH,tu.n6,al,zD,zF,zC,zI,tu.n5]
  refine dJ (k:=0) hx jL g1 (by omega) rfl fun _=>?_
  simp only[br]
  by_cases e:g.name=n
  ·rw[zL e]at he
   simp only[zL e,tu.n4,al,zD,zF,zC,zI,tu.n3]
   simpa using h2 i g g1 he.symm
  ·rw[zK e]at he
   simp only[zK e,tu.n4,al,zE,zD,zC,zH,tu.n2,aZ,w1]
   exact step (i+1) _ _ (by omega) ⟨rfl,by omega,rfl,he⟩
 ·have eV:¬(i:Int)<l.length:=by omega
  rw[List.drop_of_length_le (by omega)]at he
  simp only[zK eV,tu.n6,al,zE,zD,zC,zH,zV,tu.n1]
  simpa using h1 he.symm
theorem tI{b:Nat}{cs:List AV}{xd:AV}{ds:List bS}{yl:List (bS×AV)}{n:ByteArray}(hb:h.obj b=some (aP cs 9 56))(c3:cs[3]?=some xd)(hx:DT h xd ds yl)(hl:ds.length<=100000000)(h1:eB ds n=none->R (.ret (I (-1))) h)(h2:∀(i:Nat) d,ds[i]?=some d->eB ds n=some d->R (.ret (I i)) h):aA Pg 75 [.ptr b 0,Sb n] h M R:=by
 apply tl.aM
 unfold tl.aS tl.n9 tl.n8
 have hlen:=hx.len
 refine cy (ι:=Nat) (fun i v h'=>v=[.ptr b 0,Sb n,I i]/\i<=ds.length/\h'=h/\eB (ds.drop i) n=eB ds n) (fun i=>ds.length-i) 0 ⟨rfl,by omega,rfl,by simp⟩ ?_
 rintro K i v h' ⟨rfl,hi,rfl,he⟩ step
 simp only[tl.cG,zN,zO,tl.n7,aC,aj,au,hb,ap,zG,c3,aa,hx.t.dr.len.1,hx.t.dr.len.2,zH,bc,hlen]
 by_cases aL:i<ds.length
 ·have fH:(i:Int)<ds.length:=by omega
  have g1:ds[i]?=some ds[i]:=zJ aL
  have w1:IntKind.i64.wrap ((i:Int)+1)=((i+1:Nat):Int):=by rw[aR (by omega) (by omega)];simp
  rw[List.drop_eq_getElem_cons aL]at he
  unfold eB at he
  rw[List.find?_cons]at he
  generalize ds[i]=d at *
  obtain⟨x,g2,_⟩:=hx.at_ g1
  simp only[zL fH,tl.n6,al,zD,zF,zC,zI,tl.n5,aC,aj,au,hb,ap,zG,c3,aa]
  refine dJ (k:=0) hx.t.dr jw g2 (by omega) rfl fun _=>?_
  simp only[br]
  by_cases e:d.name=n
  ·rw[zL e]at he
   simp only[zL e,tl.n4,al,zD,zF,zC,zI,tl.n3]
   simpa using h2 i d g1 he.symm
  ·rw[zK e]at he
   simp only[zK e,tl.n4,al,zE,zD,zC,zH,tl.n2,aZ,w1]
   exact step (i+1) _ _ (by omega) ⟨rfl,by omega,rfl,he⟩
 ·have eV:¬(i:Int)<ds.length:=by omega
  rw[List.drop_of_length_le (by omega)]at he
  simp only[zK eV,tl.n6,al,zE,zD,zC,zH,zV,tl.n1]
  simpa using h1 he.symm
theorem Fg{x:AV}{l:List ByteArray}{q:ByteArray}(hx:cK iL 1 9 h x l)(hl:l.length<=100000000)(hR:R (.ret (I (match gy q l 0 with |some j=>j |none=>-1))) h):aA Pg 95 [x,Sb q] h M R:=by
 apply tj.aM
 unfold tj.aS tj.n9 tj.n8
 refine cy (ι:=Nat) (fun i v h'=>v=[x,Sb q,I i]/\i<=l.length/\h'=h/\gy q (l.drop i) i=gy q l 0) (fun i=>l.length-i) 0 ⟨rfl,by omega,rfl,rfl⟩ ?_
 rintro K i v h' ⟨rfl,hi,rfl,he⟩ step
 simp only[tj.cG,zN,zO,tj.n7,hx.len.1,hx.len.2,zH,bc]
 by_cases aL:i<l.length
 ·have fH:(i:Int)<l.length:=by omega
  have g1:l[i]?=some l[i]:=zJ aL
  have w1:IntKind.i64.wrap ((i:Int)+1)=((i+1:Nat):Int):=by rw[aR (by omega) (by omega)];simp
  rw[List.drop_eq_getElem_cons aL]at he
  simp only[gy]at he
  generalize l[i]=y at *
  simp only[zL fH,tj.n6,al,zD,zF,zC,zI,tj.n5]
  refine ja hx (fun _=>rfl) g1 rfl fun _=>?_
  simp only[br]
  by_cases e:q=y
  ·rw[zX e]at he
   rw[<-he]at hR
   simp only[zL e.symm,tj.n4,al,zD,zF,zC,zI,tj.n3]
   simpa using hR
  ·rw[zW e]at he
   simp only[zK (show ¬y=q from fun h=>e h.symm),tj.n4,al,zE,zD,zC,zH,tj.n2,aZ,w1]
   exact step (i+1) _ _ (by omega) ⟨rfl,by omega,rfl,he⟩
 ·have eV:¬(i:Int)<l.length:=by omega
  rw[List.drop_of_length_le (by omega)]at he
  rw[<-he]at hR
  simp only[zK eV,tj.n6,al,zE,zD,zC,zH,zV,tj.n1]
  simpa[gy] using hR
theorem FT{k:ByteArray}(hR:R (.ret (B (kX k))) h):aA Pg 39 [Sb k] h M R:=by
 apply YN.aM
 unfold kX at hR
 by_cases k1:k=bD
 ·subst k1;simpa[bD] using hR
 ·by_cases k2:k=aT
  ·subst k2;simpa[bD,aT] using hR
  ·by_cases k3:k=eZ
   ·subst k3;simpa[bD,aT,eZ] using hR
   ·simp[k1,k2,k3]at hR
    unfold bD at k1;unfold aT at k2;unfold eZ at k3
    simpa[k1,k2,k3] using hR
theorem R9{k:ByteArray}(hR:R (.ret (B (mi k))) h):aA Pg 38 [Sb k] h M R:=by
 apply YO.aM
 unfold mi kX at hR
 by_cases k1:k=bF
 ·subst k1;simpa[bF] using hR
 by_cases k2:k=cE
 ·subst k2;simpa[bF,cE] using hR
 by_cases k6:k=bD
 ·subst k6;simpa[bF,cE,bD,cn,bT,cV] using hR
 by_cases k7:k=aT
 ·subst k7;simpa[bF,cE,bD,aT,cn,bT,cV] using hR
 by_cases k8:k=eZ
 ·subst k8;simpa[bF,cE,bD,aT,eZ,cn,bT,cV] using hR
 by_cases k3:k=cn
 ·subst k3;simpa[bF,cE,bD,aT,eZ,cn,bT,cV] using hR
 by_cases k4:k=bT
 ·subst k4;simpa[bF,cE,bD,aT,eZ,cn,bT,cV] using hR
 by_cases k5:k=cV
 ·subst k5;simpa[bF,cE,bD,aT,eZ,cn,bT,cV] using hR
 simp[k1,k2,k3,k4,k5,k6,k7,k8]at hR
 unfold bF at k1;unfold cE at k2;unfold cn at k3;unfold bT at k4;unfold cV at k5;unfold bD at k6;unfold aT at k7;unfold eZ at k8
 simpa[k1,k2,k3,k4,k5,k6,k7,k8] using hR
end
end
section
open Go.Ab
attribute [-simp] aV aE
theorem FH{α:Type}[DecidableEq α]{x:α}:∀{l:List α}{i:Nat},(gy x l i).isSome=decide (x∈l)
 |[],i=>by simp[gy]
 |y::l,i=>by
  simp only[gy]
  by_cases e:x=y
  ·simp[e]
  ·rw[zW e,FH];simp[e]
theorem vH{α:Type}[DecidableEq α]{x:α}{l:List α}:fe x l=decide (x∈l):=FH
def BE(h:AH)(b:Nat)(pl e:Int):Prop:=∃cs,h.obj b=some (aP cs 9 56)/\cs[4]?=some (I pl)/\cs[5]?=some (I e)
section
variable {h:AH} {M:Nat->Prop} {R:AE->AH->Prop} {n0 b:Nat} {xr:AV} {bk:Bk} {pl er:Int} {xq xb xd:AV} {yl:List (bS×AV)} {rs:List (Row×AV)}
structure BN (n0:Nat) (h:AH) (b:Nat) (xr:AV):Prop where
 n:n0<=b
 b:∃xq xb xd pl er m xo xp,h.obj b=some (Fq xr xq xb xd pl er m xo xp)
theorem RB.bn(a:RB n0 h b xr bk pl er xq xb xd yl):BN n0 h b xr:=⟨a.n.1,_,_,_,_,_,_,_,_,a.b⟩
theorem BN.ba{h':AH}(a:BN n0 h b xr)(f:Fr h h' fun _=>False):BN n0 h' b xr:=by
 obtain⟨h1,xq,xb,xd,pl,er,m,xo,xp,h2⟩:=a
 exact⟨h1,xq,xb,xd,pl,er,m,xo,xp,f.bU h2⟩
theorem CA{i:Nat}{e:Int}{y:Row×AV}(bn:BN n0 h b xr)(rt:RT h xr rs)(hy:rs[i]?=some y)(hM:∀id,TW TB n0 h id->M id)(hR:∀h',BE h' b y.1.place e->Fr h h' (TW TB n0 h)->R (.ret (B false)) h'):aA Pg 40 [.ptr b 0,I i,I e] h M R:=by
 apply Mn.aM
 obtain⟨hn,xq,xb,xd,pl,er,m,xo,xp,ob⟩:=bn
 have mb:M b:=hM b ⟨hn,_,ob,rfl,rfl⟩
 simp only[Mn.n3,Mn.n2,aC,aj,au,ob,ap,zG,zA,aa]
 refine dJ (k:=5) rt.r dT hy (by omega) rfl fun _=>?_
 simp only[aC,aj,aE,ob,dt,bz,zG]
 refine⟨⟨.inl mb,rfl,rfl,by simp⟩,?_⟩
 have f1:Fr h (h.put b 4 [I y.1.place]) (·=b):=Fr.refl.put (.inl rfl)
 have o1:=dz (off:=4) (cs:=[I y.1.place]) ob
 generalize h.put b 4 [I y.1.place]=h1 at *
 simp only[o1,dt,bz]
 refine⟨⟨.inl mb,rfl,rfl,by simp⟩,?_⟩
 have f2:Fr h (h1.put b 5 [I e]) (·=b):=f1.put (.inl rfl)
 have o2:=dz (off:=5) (cs:=[I e]) o1
 generalize h1.put b 5 [I e]=h2 at *
 have:=hR h2 ⟨_,o2,rfl,rfl⟩ (TW.jm f2 hn ob rfl rfl)
 simpa[Mn.n1] using this
theorem CB{i:Nat}{x3:AV}{l:List gK}{a:Arg}{y:Row×AV}(bn:BN n0 h b xr)(rt:RT h xr rs)(hy:rs[i]?=some y)(hx:cK ke 3 104 h x3 l)(hl:l.length<=100000000)(hM:∀id,TW TB n0 h id->M id)
  (he:∀h',gU l a≠0->BE h' b y.1.place (gU l a)->Fr h h' (TW TB n0 h)->R (.ret (B false)) h')
  (hk:∀h',gU l a=0->Fr h h' (fun _=>False)->R (.ret (B true)) h'):aA Pg 74 [.ptr b 0,I i,.agg a.enc,x3] h M R:=by
 apply oH.aM
 unfold oH.bj
 refine dV (cs:=a.enc) (Arg.hZ a) fun va h1 f1 _ oa=>?_
 have bn1:=bn.ba f1
 have oS:=rt.ba f1
 have wD:=hx.ba f1
 have hW:∀id,TW TB n0 h1 id->(M id\/h.next<=id):=fun id hid=>(TW.back (TW.aU f1) hid).elim (fun h=>.inl (hM id h)) .inr
 have bad:∀e,gU l a=e->e≠0->∀(QR:VK)(QP:AV->AH->Prop),(∀h',R (.ret (B false)) h'->QR [B false] h')->aq Pg (fun id=>M id\/h.next<=id) 40 [.ptr b 0,I i,I e] h1 (fun t h=>QR [t] h) QP:=fun e e1 e2 QR QP hq=>by
  refine⟨TW TB n0 h1,fun id hs _=>hW id hs,CA bn1 oS hy (fun _ h=>h) fun h2 be f2=>?_⟩
  exact hq h2 (he h2 (by rw[e1];exact e2) (by rw[e1];exact be) (TW.trans (TW.aU f1) f2))
 simp only[oH.aS,aj,au,oa,ap,zG,Arg.enc,zA,aa]
 refine⟨fun _=>False,fun _ h=>h.elim,sy wD hl ?_ ?_⟩
 ·intro hr
  have ea:gU l a=110:=by unfold gU;rw[hr]
  simp only[oH.n9,bc,show decide ((-1:Int)<0)=true from rfl,oH.n8,al,zD,zF,zC,zI,oH.n7]
  exact bad 110 ea (by decide) _ _ (fun h' hh=>by simpa using hh)
 ·intro j g hj hr
  have h0:decide ((j:Int)<0)=false:=by simp
  have ea:gU l a=if a.index<0\/g.size<=a.index then 112 else 0:=by unfold gU;rw[hr]
  simp only[oH.n9,bc,h0,oH.n8,al,zE,zD,zC,zH,oH.n6,aj,au,oa,ap,zG,Arg.enc,zA,zB,aa]
  by_cases k1:a.index<0
  ·rw[zX (.inl k1)]at ea
   simp only[zL k1,oH.n5,cA,zT,zF,zD,zC,zI,zH,zE,oH.n4,bK,zV,oH.n3,al,oH.n2]
   exact bad 112 ea (by decide) _ _ (fun h' hh=>by simpa using hh)
  ·simp only[zK k1,oH.n5,cA,zT,zE,zD,zC,zI,aj,au,oa,ap,zG,Arg.enc,zA,zB,aa]
   refine dJ (k:=2) wD jL hj (by omega) rfl fun _=>?_
   simp only[iU,ge_iff_le]
   by_cases k2:g.size<=a.index
   ·rw[zX (.inr k2)]at ea
    simp only[zL k2,oH.n4,bK,zE,if_false,oH.n3,al,zD,zF,zC,zI,oH.n2]
    exact bad 112 ea (by decide) _ _ (fun h' hh=>by simpa using hh)
   ·rw[zW (by omega)]at ea
    simp only[zK k2,oH.n4,bK,zE,if_false,oH.n3,al,zD,zC,zH,oH.n1]
    simpa using hk h1 ea f1
theorem J5{n:ByteArray}(rb:RB n0 h b xr bk pl er xq xb xd yl)(hl:bk.qs.length<=100000000/\bk.bs.length<=100000000/\bk.ds.length<=100000000)(hR:∀h',Fr h h' (fun _=>False)->R (.ret (B (ia bk n))) h'):aA Pg 93 [.ptr b 0,Sb n] h M R:=by
 apply kG.aM
 unfold kG.n9 kG.n8
 refine⟨fun _=>False,fun _ h=>h.elim,oq ?_⟩
 have Bp:=rb
 have hR:=hR h Fr.refl
 have g0:∀i:Nat,decide ((i:Int)>=0)=true:=fun i=>by simp
 have gm:decide ((-1:Int)>=0)=false:=rfl
 simp only[ft,gt_iff_lt]
 have IN:∀t:Bool,ia bk n=(t||(eB bk.ds n).isSome)->kG.n3 (fun id=>M id\/h.next<=id) (aJ Pg [.tmp 4] R) (aJ Pg [.tmp 4] R) (fun _ _ _=>False) (fun v h=>R (.bW v) h) (.ptr b 0) (Sb n) (B t) h:=fun t ht=>by
  rw[ht]at hR
  cases t with
  |true=>simpa[kG.n3,kG.n2,kG.n1] using hR
  |false=>
   simp only[kG.n3,cA,zT,zE,zD,zC,zI]
   refine⟨fun _=>False,fun _ h=>h.elim,tI Bp.b rfl Bp.d hl.2.2 ?_ ?_⟩
   ·intro hd;rw[hd]at hR;simpa[kG.n2,kG.n1,gm] using hR
   ·intro i d _ hd;rw[hd]at hR;simpa[kG.n2,kG.n1,g0] using hR
 have IP:∀t:Bool,ia bk n=((t||(eF bk.bs n).isSome)||(eB bk.ds n).isSome)->kG.n5 (fun id=>M id\/h.next<=id) (aJ Pg [.tmp 4] R) (aJ Pg [.tmp 4] R) (fun _ _ _=>False) (fun v h=>R (.bW v) h) (.ptr b 0) (Sb n) (B t) h:=fun t ht=>by
  cases t with
  |true=>
   have:=IN true (by rw[ht];simp)
   simpa[-kG.n3,kG.n5,kG.n4] using this
  |false=>
   simp only[kG.n5,cA,zT,zE,zD,zC,zI,aC,aj,au,Bp.b,ap,zG,zA,zB,aa]
   refine⟨fun _=>False,fun _ h=>h.elim,sy Bp.s.dr hl.2.1 ?_ ?_⟩
   ·intro hd
    have:=IN false (by rw[ht,hd];rfl)
    simpa[-kG.n3,kG.n4,gm] using this
   ·intro i d _ hd
    have:=IN true (by rw[ht,hd];rfl)
    simpa[-kG.n3,kG.n4,g0] using this
 have Bg:∀t:Bool,ia bk n=(((t||(eF bk.qs n).isSome)||(eF bk.bs n).isSome)||(eB bk.ds n).isSome)->kG.n7 (fun id=>M id\/h.next<=id) (aJ Pg [.tmp 4] R) (aJ Pg [.tmp 4] R) (fun _ _ _=>False) (fun v h=>R (.bW v) h) (.ptr b 0) (Sb n) (B t) h:=fun t ht=>by
  cases t with
  |true=>
   have:=IP true (by rw[ht];simp)
   simpa[-kG.n5,kG.n7,kG.n6] using this
  |false=>
   simp only[kG.n7,cA,zT,zE,zD,zC,zI,aC,aj,au,Bp.b,ap,zG,zA,zB,aa]
   refine⟨fun _=>False,fun _ h=>h.elim,sy Bp.q.dr hl.1 ?_ ?_⟩
   ·intro hd
    have:=IP false (by rw[ht,hd];rfl)
    simpa[-kG.n5,kG.n6,gm] using this
   ·intro i d _ hd
    have:=IP true (by rw[ht,hd];rfl)
    simpa[-kG.n5,kG.n6,g0] using this
 refine Bg _ ?_
 unfold ia
 cases (eF bk.qs n).isSome<;>cases (eF bk.bs n).isSome<;>cases (eB bk.ds n).isSome<;>simp
theorem MO{x:AV}{l:List ByteArray}(hx:cK iL 1 9 h x l)(hl:l.length<=100000000)(hR:R (.ret (B (ux l))) h):aA Pg 94 [x] h M R:=by
 apply nT.aM
 unfold nT.bV nT.bP nT.bH
 refine cy (ι:=Nat) (fun i v h'=>v=[x,I i]/\i<=l.length/\h'=h/\∀j a,j<i->l[j]?=some a->fe a (l.take j)=false) (fun i=>l.length-i) 0 ⟨rfl,by omega,rfl,fun j a h=>by omega⟩ ?_
 rintro K i v h' ⟨rfl,hi,rfl,hb⟩ step
 simp only[nT.cG,zN,zO,nT.a_,hx.len.1,hx.len.2,zH,bc]
 by_cases aL:i<l.length
 ·have fH:(i:Int)<l.length:=by omega
  have g1:l[i]?=some l[i]:=zJ aL
  have w1:IntKind.i64.wrap ((i:Int)+1)=((i+1:Nat):Int):=by rw[aR (by omega) (by omega)];simp
  simp only[zL fH,nT.bj,al,zD,zF,zC,zI,nT.aS]
  unfold nT.n9
  refine cy (ι:=Nat) (fun k v h1=>v=[x,I i,I k]/\k<=i/\h1=h'/\fe l[i] (l.take k)=false) (fun k=>i-k) 0 ⟨rfl,by omega,rfl,rfl⟩ ?_
  rintro K2 k v h1 ⟨rfl,hk,rfl,hm⟩ Bg
  simp only[nT.iX,zN,zO,nT.n8,bc]
  by_cases hkl:k<i
  ·have rh:(k:Int)<i:=by omega
   have g2:l[k]?=some (l[k]'(by omega)):=zJ _
   have w2:IntKind.i64.wrap ((k:Int)+1)=((k+1:Nat):Int):=by rw[aR (by omega) (by omega)];simp
   have tk:l.take (k+1)=l.take k++[l[k]'(by omega)]:=List.take_succ_eq_append_getElem (by omega)
   have gA:l[k]'(by omega)∈l.take i:=List.mem_take_iff_getElem.2 ⟨k,by omega,rfl⟩
   generalize ez:l[k]'(by omega)=z at *
   generalize ea:l[i]=a at *
   simp only[zL rh,nT.n7,al,zD,zF,zC,zI,nT.n6]
   refine ja hx (fun _=>rfl) g1 rfl fun _=>?_
   refine ja hx (fun _=>rfl) g2 rfl fun _=>?_
   simp only[br]
   by_cases e:a=z
   ·have:ux l=true:=vf g1 (by rw[vH,e];simpa using gA)
    rw[this]at hR
    simp only[zL e,nT.n5,al,zD,zF,zC,zI,nT.n4]
    simpa using hR
   ·simp only[zK e,nT.n5,al,zE,zD,zC,zH,nT.n3,aZ,w2]
    refine Bg (k+1) _ _ (by omega) ⟨rfl,by omega,rfl,?_⟩
    rw[vH]at hm ⊢
    rw[tk]
    simp only[decide_eq_false_iff_not,List.mem_append,List.mem_singleton,not_or]at hm ⊢
    exact⟨hm,e⟩
  ·have eV:¬(k:Int)<i:=by omega
   have ek:k=i:=by omega
   subst ek
   simp only[zK eV,nT.n7,al,zE,zD,zC,zH,zV,nT.n2,zN,zO,aZ,w1]
   refine step (k+1) _ _ (by omega) ⟨rfl,by omega,rfl,fun j a hj ha=>?_⟩
   by_cases H2:j=k
   ·subst H2
    rw[g1]at ha;cases ha
    exact hm
   ·exact hb j a (by omega) ha
 ·have eV:¬(i:Int)<l.length:=by omega
  have:ux l=false:=yW fun j a hj=>hb j a (by have:=(zM.1 hj).1;omega) hj
  rw[this]at hR
  simp only[zK eV,nT.bj,al,zE,zD,zC,zH,zV,nT.n1]
  simpa using hR
end
end
section
open Go.Ab
attribute [-simp] aV aE
section
variable {W:Nat->Prop} {QR QN:VK} {QE:Nat->VK} {QP:AV->AH->Prop} {h:AH} {n0 b i vr:Nat} {xr:AV} {bk:Bk} {pl er:Int} {xq xb xd:AV} {yl:List (bS×AV)} {rs:List (Row×AV)} {y:Row×AV} {res:Er Bk}
structure DE (W:Nat->Prop) (QR:VK) (h:AH) (n0 b i vr:Nat) (xr:AV) (bk:Bk) (pl er:Int) (xq xb xd:AV) (yl:List (bS×AV)) (rs:List (Row×AV)) (y:Row×AV) (res:Er Bk):Prop where
 rb:RB n0 h b xr bk pl er xq xb xd yl
 rt:RT h xr rs
 hy:rs[i]?=some y
 bO:h.obj vr=some (aP (az y) 6 87)
 hW:∀id,TW TB n0 h id\/h.next<=id->W id
 bf:ms bk
 ln:bk.qs.length<=64/\bk.bs.length<=64/\bk.ds.length<=100000000
 he:∀e h',res=.error e->BE h' b y.1.place e->Fr h h' (TW TB n0 h)->QR [B false] h'
 hk:∀bN qO qQ qP l7 h',res=.ok bN->RB n0 h' b xr bN pl er qO qQ qP l7->Fr h h' (TW TB n0 h)->QR [B true] h'
theorem DE.ba{h':AH}(k:DE W QR h n0 b i vr xr bk pl er xq xb xd yl rs y res)(f:Fr h h' fun _=>False):DE W QR h' n0 b i vr xr bk pl er xq xb xd yl rs y res:=
 ⟨k.rb.ba f,k.rt.ba f,k.hy,f.bU k.bO,fun id hid=>hid.elim (fun hid=>(TW.back (TW.aU f) hid).elim (fun h=>k.hW id (.inl h)) (fun h=>k.hW id (.inr h))) (fun hid=>k.hW id (.inr (zR f.next hid))),k.bf,k.ln,
  fun e h2 h3 h4 f2=>k.he e h2 h3 h4 (TW.trans (TW.aU f) f2),fun bN qO qQ qP l7 h2 h3 h4 f2=>k.hk bN qO qQ qP l7 h2 h3 h4 (TW.trans (TW.aU f) f2)⟩
theorem DE.bad(k:DE W QR h n0 b i vr xr bk pl er xq xb xd yl rs y res){e:Int}(hr:res=.error e):aq Pg W 40 [.ptr b 0,I i,I e] h (fun t h=>QR [t] h) QP:=
 ⟨TW TB n0 h,fun id hs _=>k.hW id (.inl hs),CA k.rb.bn k.rt k.hy (fun _ h=>h) fun h2 be f2=>k.he e h2 hr be f2⟩
theorem RB.put{off:Nat}{x:AV}(rb:RB n0 h b xr bk pl er xq xb xd yl){cs:List AV}{h2:AH}(_:h2.obj b=some (aP cs 9 56))(hn:n0<=b):Fr h2 (h2.put b off [x]) (TW TB n0 h2):=TW.jm (T:=TB) (Fr.refl.put (.inl rfl)) hn (by assumption) rfl rfl
theorem DT.Ce{h':AH}{ds:List bS}{S:Nat->Prop}(a:DT h xd ds yl)(f:Fr h h' S)(hs:∀id o,h.obj id=some o->o.ty=97\/o.ty=9->¬S id):DT h' xd ds yl:=by
 refine⟨?_,a.e,fun y hy=>?_⟩
 ·rcases a.t with e |⟨j,e1,e2⟩
  ·exact .inl e
  ·exact .inr ⟨j,e1,f.obj e2 (hs _ _ e2 (.inl rfl))⟩
 ·rcases a.p y hy with e |⟨j,e1,e2⟩
  ·exact .inl e
  ·exact .inr ⟨j,e1,f.obj e2 (hs _ _ e2 (.inr rfl))⟩
theorem dy{α:Type}{f:α->List AV}{sz:Nat}{ty:TypeId}{h h':AH}{x:AV}{l:List α}{S:Nat->Prop}(a:cl f sz ty h x l)(hf:Fr h h' S)(hs:∀id o,h.obj id=some o->o.ty=ty->x=.sl id 0 l.length->¬S id):cl f sz ty h' x l:=by
 rcases a with e |⟨j,e1,e2⟩
 ·exact .inl e
 ·exact .inr ⟨j,e1,hf.obj e2 (hs _ _ e2 rfl e1)⟩
theorem Xe{t:Int}(k:DE W QR h n0 b i vr xr bk pl er xq xb xd yl rs y (.ok { bk with qs:=bk.qs++[⟨y.1.name,t,y.1.num⟩] })):eh.n2 W QR QN QE QP (.ptr b 0) (.ptr vr 0) (I t) h:=by
 have rb:=k.rb
 simp only[eh.n2,aC,aj,au,rb.b,k.bO,ap,zG,az,zA,zB,aa]
 refine⟨ke ⟨y.1.name,t,y.1.num⟩,by simp[dU,bt,dt,kQ,ke],?_⟩
 refine qA (f:=ke) (t:=⟨y.1.name,t,y.1.num⟩) jL (by omega) rfl (by omega) rfl rfl rb.q ?_ (by have:=k.ln.1;omega) fun z h1 hz mJ f1=>?_
 ·intro id off n e
  rcases rb.q with⟨e1,_⟩ |⟨j,e1,ho⟩
  ·rw[e1]at e;cases e
  ·rw[e1]at e;cases e
   exact k.hW _ (.inl ⟨rb.n.2.1 _ _ _ e1,_,ho,rfl,rfl⟩)
 ·have fT:Fr h h1 (TW TB n0 h):=f1.mono fun j ⟨off,n,e⟩=>by
   rcases rb.q with⟨e1,_⟩ |⟨j',e1,ho⟩
   ·rw[e1]at e;cases e
   ·rw[e1]at e;cases e
    exact⟨rb.n.2.1 _ _ _ e1,_,ho,rfl,rfl⟩
  have b1:=f1.obj rb.b (iS rb.q rb.b (show(56:Nat)≠104 by decide))
  have s1:cl ke 3 104 h1 xb bk.bs:=dy rb.s f1 fun id o ho ht e1 ⟨off,n,e⟩=>rb.sep _ _ _ _ _ e e1
  have d1:DT h1 xd bk.ds yl:=rb.d.Ce f1 fun id o ho ht he=>iS rb.q ho (by rcases ht with e |e<;>rw[e]<;>show _≠(104:Nat)<;>decide) he
  simp only[aC,aj,aE,b1,hz.dr.one.2,bz,zG]
  refine⟨⟨k.hW b (.inl ⟨rb.n.1,_,rb.b,rfl,rfl⟩),by show(cR z&&true)=true;rw[hz.dr.one.1];rfl,rfl,by simp⟩,?_⟩
  have f2:Fr h1 (h1.put b 1 [z]) (·=b):=Fr.refl.put (.inl rfl)
  have b2:=dz (off:=1) (cs:=[z]) b1
  generalize h1.put b 1 [z]=h2 at *
  have nb:∀{id:Nat}{o:AO},h1.obj id=some o->o.ty≠56->¬id=b:=fun ho ht e=>by subst e;rw[b1]at ho;cases ho;exact ht rfl
  have g2:=TW.trans fT (TW.jm (T:=TB) f2 rb.n.1 b1 rfl rfl)
  have bl:=h.lt _ _ rb.b
  have fin:=k.hk _ z xb xd yl h2 rfl ⟨⟨rb.n.1,fun id off n e=>by have:=mJ _ _ _ e;have:=rb.n.1;omega,rb.n.2.2⟩,b2,?_,?_,?_,CO mJ rb.s.dr⟩ g2
  ·simpa[eh.n1] using fin
  ·exact dy hz f2 fun id o ho ht _=>nb ho (by rw[ht];decide)
  ·exact dy s1 f2 fun id o ho ht _=>nb ho (by rw[ht];decide)
  ·exact d1.Ce f2 fun id o ho ht=>nb ho (by rcases ht with e |e<;>rw[e]<;>decide)
theorem Xh{t:Int}(k:DE W QR h n0 b i vr xr bk pl er xq xb xd yl rs y (.ok { bk with bs:=bk.bs++[⟨y.1.name,t,y.1.num⟩] })):eh.aS W QR QN QE QP (.ptr b 0) (.ptr vr 0) (I t) h:=by
 have rb:=k.rb
 simp only[eh.aS,aC,aj,au,rb.b,k.bO,ap,zG,az,zA,zB,aa]
 refine⟨ke ⟨y.1.name,t,y.1.num⟩,by simp[dU,bt,dt,kQ,ke],?_⟩
 refine qA (f:=ke) (t:=⟨y.1.name,t,y.1.num⟩) jL (by omega) rfl (by omega) rfl rfl rb.s ?_ (by have:=k.ln.2.1;omega) fun z h1 hz mJ f1=>?_
 ·intro id off n e
  rcases rb.s with⟨e1,_⟩ |⟨j,e1,ho⟩
  ·rw[e1]at e;cases e
  ·rw[e1]at e;cases e
   exact k.hW _ (.inl ⟨rb.n.2.2.1 _ _ _ e1,_,ho,rfl,rfl⟩)
 ·have fT:Fr h h1 (TW TB n0 h):=f1.mono fun j ⟨off,n,e⟩=>by
   rcases rb.s with⟨e1,_⟩ |⟨j',e1,ho⟩
   ·rw[e1]at e;cases e
   ·rw[e1]at e;cases e
    exact⟨rb.n.2.2.1 _ _ _ e1,_,ho,rfl,rfl⟩
  have b1:=f1.obj rb.b (iS rb.s rb.b (show(56:Nat)≠104 by decide))
  have q1:cl ke 3 104 h1 xq bk.qs:=dy rb.q f1 fun id o ho ht e1 ⟨off,n,e⟩=>rb.sep _ _ _ _ _ e1 e
  have d1:DT h1 xd bk.ds yl:=rb.d.Ce f1 fun id o ho ht he=>iS rb.s ho (by rcases ht with e |e<;>rw[e]<;>show _≠(104:Nat)<;>decide) he
  simp only[aC,aj,aE,b1,hz.dr.one.2,bz,zG]
  refine⟨⟨k.hW b (.inl ⟨rb.n.1,_,rb.b,rfl,rfl⟩),by show(cR z&&true)=true;rw[hz.dr.one.1];rfl,rfl,by simp⟩,?_⟩
  have f2:Fr h1 (h1.put b 2 [z]) (·=b):=Fr.refl.put (.inl rfl)
  have b2:=dz (off:=2) (cs:=[z]) b1
  generalize h1.put b 2 [z]=h2 at *
  have nb:∀{id:Nat}{o:AO},h1.obj id=some o->o.ty≠56->¬id=b:=fun ho ht e=>by subst e;rw[b1]at ho;cases ho;exact ht rfl
  have g2:=TW.trans fT (TW.jm (T:=TB) f2 rb.n.1 b1 rfl rfl)
  have bl:=h.lt _ _ rb.b
  have fin:=k.hk _ xq z xd yl h2 rfl ⟨⟨rb.n.1,rb.n.2.1,fun id off n e=>by have:=mJ _ _ _ e;have:=rb.n.1;omega,rb.n.2.2.2⟩,b2,?_,?_,?_,qj rb.q mJ⟩ g2
  ·simpa[eh.n1] using fin
  ·exact dy q1 f2 fun id o ho ht _=>nb ho (by rw[ht];decide)
  ·exact dy hz f2 fun id o ho ht _=>nb ho (by rw[ht];decide)
  ·exact d1.Ce f2 fun id o ho ht=>nb ho (by rcases ht with e |e<;>rw[e]<;>decide)
theorem V9(k:DE W QR h n0 b i vr xr bk pl er xq xb xd yl rs y (if y.1.num<1 then .error 112 else if 64-aK bk.qs<y.1.num then .error 1 else .ok { bk with qs:=bk.qs++[⟨y.1.name,aK bk.qs,y.1.num⟩] })):eh.n9 W QR QN QE QP (.ptr b 0) (I i) (.ptr vr 0) h:=by
 simp only[eh.n9,aj,au,k.bO,ap,zG,az,zA,zB,aa,bc]
 by_cases k1:y.1.num<1
 ·rw[zX k1]at k
  simp only[zL k1,eh.n8,al,zD,zF,zC,zI,eh.n7]
  exact k.bad rfl
 ·rw[zW k1]at k
  have ok:=k.bf.i.ok
  simp only[zK k1,eh.n8,al,zE,zD,zC,zH,eh.n6,aC,aj,au,k.rb.b,ap,zG,zA,zB,aa]
  refine⟨fun _=>False,fun _ h=>h.elim,vk k.rb.q.dr (fun r hr=>by have:=ok.sq r hr;omega) ok.tq.2 (by have:=k.ln.1;omega) ?_⟩
  have ht:=ok.tq
  have w1:IntKind.i64.wrap (64-aK bk.qs)=64-aK bk.qs:=aR (by omega) (by omega)
  simp only[eh.n5,aj,au,k.bO,ap,zG,az,zA,zB,aa,lW,w1,ft,gt_iff_lt]
  by_cases k2:64-aK bk.qs<y.1.num
  ·rw[zX k2]at k
   simp only[zL k2,eh.n4,al,zD,zF,zC,zI,eh.n3]
   exact k.bad rfl
  ·rw[zW k2]at k
   simp only[zK k2,eh.n4,al,zE,zD,zC,zH]
   exact Xe k
theorem V_(k:DE W QR h n0 b i vr xr bk pl er xq xb xd yl rs y (if y.1.num<1 then .error 112 else if 64-aK bk.bs<y.1.num then .error 1 else .ok { bk with bs:=bk.bs++[⟨y.1.name,aK bk.bs,y.1.num⟩] })):eh.b5 W QR QN QE QP (.ptr b 0) (I i) (.ptr vr 0) h:=by
 simp only[eh.b5,aj,au,k.bO,ap,zG,az,zA,zB,aa,bc]
 by_cases k1:y.1.num<1
 ·rw[zX k1]at k
  simp only[zL k1,eh.bR,al,zD,zF,zC,zI,eh.bV]
  exact k.bad rfl
 ·rw[zW k1]at k
  have ok:=k.bf.i.ok
  simp only[zK k1,eh.bR,al,zE,zD,zC,zH,eh.bP,aC,aj,au,k.rb.b,ap,zG,zA,zB,aa]
  refine⟨fun _=>False,fun _ h=>h.elim,vk k.rb.s.dr (fun r hr=>by have:=ok.sb r hr;omega) ok.tb.2 (by have:=k.ln.2.1;omega) ?_⟩
  have ht:=ok.tb
  have w1:IntKind.i64.wrap (64-aK bk.bs)=64-aK bk.bs:=aR (by omega) (by omega)
  simp only[eh.bH,aj,au,k.bO,ap,zG,az,zA,zB,aa,lW,w1,ft,gt_iff_lt]
  by_cases k2:64-aK bk.bs<y.1.num
  ·rw[zX k2]at k
   simp only[zL k2,eh.a_,al,zD,zF,zC,zI,eh.bj]
   exact k.bad rfl
  ·rw[zW k2]at k
   simp only[zK k2,eh.a_,al,zE,zD,zC,zH]
   exact Xh k
end
end
section
open Go.Ab
attribute [-simp] aV aE
section
variable {W:Nat->Prop} {QR QN:VK} {QE:Nat->VK} {QP:AV->AH->Prop} {h:AH} {n0 b i vr:Nat} {xr:AV} {bk:Bk} {pl er:Int} {xq xb xd:AV} {yl:List (bS×AV)} {rs:List (Row×AV)} {y:Row×AV} {res:Er Bk}
theorem Xg{vd:Nat}{d:bS}{xp:AV}(k:DE W QR h n0 b i vr xr bk pl er xq xb xd yl rs y (.ok { bk with ds:=bk.ds++[d] }))(ov:h.obj vd=some (aP (la (d,xp)) 7 97))(hp:cl iL 1 9 h xp d.params):eh.ck W QR QN QE QP (.ptr b 0) (.ptr vd 0) h:=by
 have rb:=k.rb
 simp only[eh.ck,aC,aj,au,rb.b,ap,zG,zA,zB,aa]
 refine dW ov rfl fun _=>?_
 refine qA (f:=la) (t:=(d,xp)) jw (by omega) rfl (by omega) rfl (vS hp.dr.one.1) rb.d.t ?_ (by rw[rb.d.len];exact k.ln.2.2) fun z h1 hz mJ f1=>?_
 ·intro id off n e
  rcases rb.d.t with⟨e1,_⟩ |⟨j,e1,ho⟩
  ·rw[e1]at e;cases e
  ·rw[e1]at e;cases e
   exact k.hW _ (.inl ⟨rb.n.2.2.2 _ _ _ e1,_,ho,rfl,rfl⟩)
 ·have fT:Fr h h1 (TW TB n0 h):=f1.mono fun j ⟨off,n,e⟩=>by
   rcases rb.d.t with⟨e1,_⟩ |⟨j',e1,ho⟩
   ·rw[e1]at e;cases e
   ·rw[e1]at e;cases e
    exact⟨rb.n.2.2.2 _ _ _ e1,_,ho,rfl,rfl⟩
  have b1:=f1.obj rb.b (iS rb.d.t rb.b (show(56:Nat)≠97 by decide))
  have q1:cl ke 3 104 h1 xq bk.qs:=dy rb.q f1 fun id o ho ht _=>iS rb.d.t ho (by rw[ht];show(104:Nat)≠97;decide)
  have s1:cl ke 3 104 h1 xb bk.bs:=dy rb.s f1 fun id o ho ht _=>iS rb.d.t ho (by rw[ht];show(104:Nat)≠97;decide)
  have p1:∀{z:AV}{l:List ByteArray},cl iL 1 9 h z l->cl iL 1 9 h1 z l:=fun hz=>dy hz f1 fun id o ho ht _=>iS rb.d.t ho (by rw[ht];show(9:Nat)≠97;decide)
  simp only[aC,aj,aE,b1,hz.dr.one.2,bz,zG]
  refine⟨⟨k.hW b (.inl ⟨rb.n.1,_,rb.b,rfl,rfl⟩),by show(cR z&&true)=true;rw[hz.dr.one.1];rfl,rfl,by simp⟩,?_⟩
  have f2:Fr h1 (h1.put b 3 [z]) (·=b):=Fr.refl.put (.inl rfl)
  have b2:=dz (off:=3) (cs:=[z]) b1
  generalize h1.put b 3 [z]=h2 at *
  have nb:∀{id:Nat}{o:AO},h1.obj id=some o->o.ty≠56->¬id=b:=fun ho ht e=>by subst e;rw[b1]at ho;cases ho;exact ht rfl
  have g2:=TW.trans fT (TW.jm (T:=TB) f2 rb.n.1 b1 rfl rfl)
  have bl:=h.lt _ _ rb.b
  have p2:∀{z:AV}{l:List ByteArray},cl iL 1 9 h1 z l->cl iL 1 9 h2 z l:=fun hz=>dy hz f2 fun id o ho ht _=>nb ho (by rw[ht];decide)
  have fin:=k.hk _ xq xb z (yl++[(d,xp)]) h2 rfl ⟨⟨rb.n.1,rb.n.2.1,rb.n.2.2.1,fun id off n e=>by have:=mJ _ _ _ e;have:=rb.n.1;omega⟩,b2,?_,?_,⟨?_,by rw[List.map_append,rb.d.e];rfl,fun v hv=>?_⟩,rb.sep⟩ g2
  ·simpa[eh.n1] using fin
  ·exact dy q1 f2 fun id o ho ht _=>nb ho (by rw[ht];decide)
  ·exact dy s1 f2 fun id o ho ht _=>nb ho (by rw[ht];decide)
  ·exact dy hz f2 fun id o ho ht _=>nb ho (by rw[ht];decide)
  ·rcases List.mem_append.1 hv with hv |hv
   ·exact p2 (p1 (rb.d.p v hv))
   ·have:=List.mem_singleton.1 hv
    subst this
    exact p2 (p1 hp)
def OE(bk:Bk)(r:Row)(i:Int):Er Bk:=if r.args.length=0 then .error 111
 else if r.args.any (fun a=>a.index != -1) then .error 112
 else if ux (r.args.map (·.name)) then .error 113
 else .ok { bk with ds:=bk.ds++[⟨r.name,r.args.map (·.name),i+1,i+1+r.rows,1,0,false⟩] }
theorem Xf(k:DE W QR h n0 b i vr xr bk pl er xq xb xd yl rs y (OE bk y.1 i))(hi:(i:Int)<=1000000000)(hr:0<=y.1.rows/\y.1.rows<=1000000000):eh.fl W QR QN QE QP (.ptr b 0) (I i) (.ptr vr 0) h:=by
 obtain⟨ha,hl⟩:=k.rt.a y (zP k.hy)
 unfold OE at k
 simp only[eh.fl,aj,au,k.bO,ap,zG,az,zA,zB,aa,ha.len.1,ha.len.2,zH,eG]
 by_cases k1:y.1.args.length=0
 ·rw[zX k1]at k
  have eI:((y.1.args.length:Int)==0)=true:=by simp[k1]
  simp only[eI,eh.eC,al,zD,zF,zC,zI,eh.dZ]
  exact k.bad rfl
 rw[zW k1]at k
 have eI:((y.1.args.length:Int)==0)=false:=by
  have:¬(y.1.args.length:Int)=0:=by omega
  simpa using this
 have w1:∀x:Int,0<=x/\x<=4000000000->IntKind.i64.wrap x=x:=fun x hx=>aR (by omega) (by omega)
 simp only[eI,eh.eC,al,zE,zD,zC,zH,eh.dS,aj,au,k.bO,ap,zG,az,zA,zB,aa,aZ,w1 ((i:Int)+1) (by omega),w1 ((i:Int)+1+y.1.rows) (by omega)]
 refine⟨[Sb y.1.name,aQ,I (i+1),I (i+1+y.1.rows),I 1,I 0,B true],by simp[dU,bt,dt,kQ,ns],?_⟩
 refine jt (cs:=[Sb y.1.name,aQ,I (i+1),I (i+1+y.1.rows),I 1,I 0,B true]) rfl rfl rfl rfl (fun id hid=>k.hW id (.inr hid)) fun vd h1 f1 UE ov=>?_
 unfold eh.dn eh.cU
 refine cy (ι:=Nat×AV) (fun j v h'=>v=[.ptr b 0,I i,.ptr vr 0,.ptr vd 0,I j.1]/\j.1<=y.1.args.length/\Fr h h' (fun _=>False)/\h'.obj vd=some (aP [Sb y.1.name,j.2,I (i+1),I (i+1+y.1.rows),I 1,I 0,B true] 7 97) /\
  cl iL 1 9 h' j.2 ((y.1.args.take j.1).map (·.name))/\dC (h.next<=·) j.2/\∀m a,m<j.1->y.1.args[m]?=some a->a.index=-1) (fun j=>y.1.args.length-j.1) (0,aQ) ⟨rfl,by omega,f1,ov,.nil,(fun _ _ _ e=>by cases e),fun m a h=>by omega⟩ ?_
 rintro K ⟨j,xp⟩ v h2 ⟨rfl,hj,f2,nJ,rf,NH,hb⟩ step
 simp only at hj nJ rf NH hb step
 have k2:=k.ba f2
 have ii:=ha.ba f2
 simp only[eh.cG,zN,zO,eh.c9,aj,au,k2.bO,ap,zG,az,zA,zB,aa,ii.len.1,ii.len.2,zH,bc]
 by_cases aL:j<y.1.args.length
 ·have fH:(j:Int)<y.1.args.length:=by omega
  have g1:y.1.args[j]?=some y.1.args[j]:=zJ aL
  have gA:=List.getElem_mem aL
  have lA:y.1.args.take (j+1)=y.1.args.take j++[y.1.args[j]]:=by rw[List.take_add_one,g1];rfl
  generalize y.1.args[j]=a at *
  simp only[zL fH,eh.cB,al,zD,zF,zC,zI,eh.cC,aj,au,k2.bO,ap,zG,az,zA,zB,aa]
  refine dJ (k:=1) ii Arg.bu g1 (by omega) rfl fun _=>?_
  simp only[cq]
  by_cases e:a.index=-1
  ·have e':(a.index != -1)=false:=by simp[e]
   simp only[e',eh.cF,al,zE,zD,zC,zH,eh.cL,aj,au,k2.bO,nJ,ap,zG,az,zA,zB,aa]
   refine dJ (k:=0) ii Arg.bu g1 (by omega) rfl fun _=>?_
   refine qA (f:=iL) (t:=a.name) AN (by omega) rfl (by omega) rfl rfl rf (fun id off n e=>k.hW id (.inr (NH _ _ _ e))) (by rw[zZ,yA];omega) fun z h3 hz mJ f3=>?_
   have eO:Fr h h3 fun _=>False:=f2.trans (f3.mono fun m ⟨off,n,e⟩=>.inr (NH m off n e))
   have lO:=f3.obj nJ (iS rf nJ (show(97:Nat)≠9 by decide))
   have UG:h.next<=vd:=UE
   simp only[aj,aE,lO,hz.dr.one.2,bz,zG]
   refine⟨⟨k.hW vd (.inr UG),by show(cR z&&true)=true;rw[hz.dr.one.1];rfl,rfl,by simp⟩,?_⟩
   have f4:Fr h3 (h3.put vd 1 [z]) (·=vd):=Fr.refl.put (.inl rfl)
   have iP:Fr h (h3.put vd 1 [z]) fun _=>False:=eO.put (.inr UG)
   have za:=dz (off:=1) (cs:=[z]) lO
   generalize h3.put vd 1 [z]=h4 at *
   have w2:IntKind.i64.wrap ((j:Int)+1)=((j+1:Nat):Int):=by rw[aR (by omega) (by omega)];simp
   simp only[eh.cw,aZ,w2]
   refine step (j+1,z) _ h4 (by simp only;omega) ⟨rfl,by simp only;omega,iP,za,?_,fun id off n e=>zR f2.next (mJ _ _ _ e),fun m c hm hc=>?_⟩
   ·rw[lA,List.map_append]
    exact dy hz f4 fun id o ho ht _ e=>by subst e;rw[lO]at ho;cases ho;exact absurd ht (show(97:Nat)≠9 by decide)
   ·by_cases hmj:m=j
    ·subst hmj;rw[g1]at hc;cases hc;exact e
    ·exact hb m c (by simp only at hm;omega) hc
  ·have e':(a.index != -1)=true:=by simpa using e
   have NT:y.1.args.any (fun a=>a.index != -1)=true:=List.any_eq_true.2 ⟨a,gA,e'⟩
   rw[zX NT]at k2
   simp only[e',eh.cF,al,zD,zF,zC,zI,eh.cS]
   exact k2.bad rfl
 ·have eV:¬(j:Int)<y.1.args.length:=by omega
  have ej:j=y.1.args.length:=by omega
  rw[ej,List.take_length]at rf
  have NT:¬y.1.args.any (fun a=>a.index != -1)=true:=fun hx=>by
   obtain⟨a,h1,h2⟩:=List.any_eq_true.1 hx
   obtain⟨m,hm⟩:=List.mem_iff_getElem?.1 h1
   have:=hb m a (by have:=(zM.1 hm).1;omega) hm
   simp[this]at h2
  rw[zW NT]at k2
  simp only[zK eV,eh.cB,al,zE,zD,zC,zH,zV,eh.cT,zN,zO,aj,au,nJ,ap,zG,zA,zB,aa]
  refine⟨fun _=>False,fun _ h=>h.elim,MO rf.dr (by rw[zZ];exact hl) ?_⟩
  cases hd:ux (y.1.args.map (·.name)) with
  |true=>
   rw[hd,zX rfl]at k2
   simp only[eh.cP,al,zD,zF,zC,zI,eh.cp]
   exact k2.bad rfl
  |false=>
   rw[hd,zW (by decide)]at k2
   simp only[eh.cP,al,zE,zD,zC,zH]
   exact Xg k2 nJ rf
theorem O8(k:DE W QR h n0 b i vr xr bk pl er xq xb xd yl rs y res)(hd:y.1.kind=bF\/y.1.kind=cE\/y.1.kind=bD)(hr:res=fO bk none i y.1)(hi:(i:Int)<=1000000000)(FO:0<=y.1.rows/\y.1.rows<=1000000000):eh.gf W QR QN QE QP (.ptr b 0) (I i) (.ptr vr 0) h:=by
 have ln:=k.ln
 simp only[eh.gf,aj,au,k.bO,ap,zG,az,zA,zB,aa]
 refine⟨fun _=>False,fun _ h=>h.elim,J5 k.rb ⟨by omega,by omega,ln.2.2⟩ fun h1 f1=>?_⟩
 have k1:=k.ba f1
 have n2:cE≠bF:=by decide
 have n3:bD≠bF:=by decide
 have n4:bD≠cE:=by decide
 have e1:(⟨#[113,117,98,105,116,115]⟩:ByteArray)=bF:=rfl
 have e2:(⟨#[98,105,116,115]⟩:ByteArray)=cE:=rfl
 cases ht:ia bk y.1.name with
 |true=>
  have zi:res=.error 110:=by
   rw[hr]
   unfold fO
   rcases hd with hd |hd |hd
   ·rw[hd,zX rfl];unfold fK;rw[zX ht];rfl
   ·rw[hd,zW n2,zX rfl];unfold fK;rw[zX ht];rfl
   ·rw[hd,zW n3,zW n4,zX rfl];unfold qy;rw[zX ht]
  simp only[eh.e_,al,zD,zF,zC,zI,eh.fQ]
  exact k1.bad zi
 |false=>
  have sN:¬ia bk y.1.name=true:=by rw[ht];decide
  simp only[eh.e_,al,zE,zD,zC,zH,eh.fk,aj,au,k1.bO,ap,zG,az,zA,zB,aa,eh.fL,br,e1]
  rcases hd with hd |hd |hd
  ·have zi:res=if y.1.num<1 then .error 112 else if 64-aK bk.qs<y.1.num then .error 1 else .ok { bk with qs:=bk.qs++[⟨y.1.name,aK bk.qs,y.1.num⟩] }:=by
    rw[hr]
    unfold fO
    rw[hd,zX rfl];unfold fK;rw[zW sN]
    split
    ·rfl
    ·split<;>rfl
   rw[zi]at k1
   simp only[zL hd,eh.fD,al,zD,zF,zC,zI]
   exact V9 k1
  ·have zi:res=if y.1.num<1 then .error 112 else if 64-aK bk.bs<y.1.num then .error 1 else .ok { bk with bs:=bk.bs++[⟨y.1.name,aK bk.bs,y.1.num⟩] }:=by
    rw[hr]
    unfold fO
    rw[hd,zW n2,zX rfl];unfold fK;rw[zW sN]
    split
    ·rfl
    ·split<;>rfl
   rw[zi]at k1
   simp only[hd,zK n2,eh.fD,al,zE,zD,zC,zH,eh.fu,br,e2,decide_true,eh.fM,zF,zI]
   exact V_ k1
  ·have zi:res=OE bk y.1 i:=by
    rw[hr]
    unfold fO
    rw[hd,zW n3,zW n4,zX rfl];unfold qy;rw[zW sN];rfl
   rw[zi]at k1
   simp only[hd,zK n3,eh.fD,al,zE,zD,zC,zH,eh.fu,br,e2,zK n4,eh.fM]
   exact Xf k1 hi FO
end
section
variable {h:AH} {M:Nat->Prop} {R:AE->AH->Prop} {n0 b i:Nat} {xr:AV} {bk:Bk} {pl er:Int} {xq xb xd:AV} {yl:List (bS×AV)} {rs:List (Row×AV)} {y:Row×AV}
theorem Ho(rb:RB n0 h b xr bk pl er xq xb xd yl)(rt:RT h xr rs)(hy:rs[i]?=some y)(bf:ms bk)(ln:bk.qs.length<=64/\bk.bs.length<=64/\bk.ds.length<=100000000)(hd:y.1.kind=bF\/y.1.kind=cE\/y.1.kind=bD)(FO:0<=y.1.rows/\y.1.rows<=1000000000)(hM:∀id,TW TB n0 h id->M id)
  (he:∀e h',fO bk none i y.1=.error e->BE h' b y.1.place e->Fr h h' (TW TB n0 h)->R (.ret (B false)) h')
  (hk:∀bN qO qQ qP l7 h',fO bk none i y.1=.ok bN->RB n0 h' b xr bN pl er qO qQ qP l7->Fr h h' (TW TB n0 h)->R (.ret (B true)) h'):aA Pg 72 [.ptr b 0,I i] h M R:=by
 apply eh.aM
 simp only[eh.fC,eh.fZ,aC,aj,au,rb.b,ap,zG,zA,aa]
 refine gD rt.r dT (rt.one hy) hy rfl rfl (fun id hid=>.inr hid) fun vr h1 f1 _ kI=>?_
 have hi:=(zM.1 hy).1
 have hn:=rt.n
 refine O8 (res:=fO bk none i y.1) ⟨rb.ba f1,rt.ba f1,hy,kI,fun id hid=>hid.elim (fun hid=>(TW.back (TW.aU f1) hid).elim (fun h=>.inl (hM id h)) .inr) (fun hid=>.inr (zR f1.next hid)),bf,ln,?_,?_⟩ hd rfl (by omega) FO
 ·intro e h' h2 h3 f2
  simpa using he e h' h2 h3 (TW.trans (TW.aU f1) f2)
 ·intro bN qO qQ qP l7 h' h2 h3 f2
  simpa using hk bN qO qQ qP l7 h' h2 h3 (TW.trans (TW.aU f1) f2)
end
end
section
open Go.Ab
attribute [-simp] aV aE
theorem DA{α:Type}{f:α->List AV}{k:Nat}(hf:∀x,(f x).length=k):∀{l:List α}{i o:Nat}{x y:α}{v:AV},l[i]?=some x->o<k->(f x).set o v=f y->bt (l.flatMap f) (i*k+o) [v]=(l.set i y).flatMap f
 |[],i,o,x,y,v,h,_,_=>by simp at h
 |a::l,0,o,x,y,v,h,ho,hv=>by
  simp at h;subst h
  simp only[bt,Nat.zero_mul,zG,List.set_cons_zero,List.flatMap_cons]
  rw[List.set_append_left _ _ (by rw[hf];exact ho),hv]
 |a::l,i+1,o,x,y,v,h,ho,hv=>by
  simp at h
  have ih:=DA hf (l:=l) (i:=i) (o:=o) (y:=y) (v:=v) h ho hv
  simp only[bt]at ih ⊢
  simp only[List.set_cons_succ,List.flatMap_cons]
  have e:(i+1)*k+o=(f a).length+(i*k+o):=by rw[hf,Nat.succ_mul];omega
  rw[e,List.set_append_right _ _ (by omega),Nat.add_sub_cancel_left,ih]
theorem DT.Zr{h:AH}{xd:AV}{ds:List bS}{yl:List (bS×AV)}(a:DT h xd ds yl){k:Nat}{d:bS}(hd:ds[k]?=some d){f:bS->bS}(hp:(f d).params=d.params){o:Nat}{v:AV}(ho:o<7)(hv:∀x,(la (d,x)).set o v=la (f d,x)) :
  ∃id,xd=.sl id 0 ds.length/\∃cells,h.obj id=some (aP cells 7 97)/\k*7+o<cells.length/\∀h',h'.obj id=some { cells:=bt cells (k*7+o) [v],sz:=7,ty:=97 }->Fr h h' (·=id)->∃l7,DT h' xd (ds.modify k f) l7:=by
 obtain⟨x,hy,xQ⟩:=a.at_ hd
 have hlen:=a.len
 rcases a.t with⟨_,e⟩ |⟨id,e1,e2⟩
 ·rw[e]at hy;simp at hy
 ·refine⟨id,by rw[e1,hlen],_,e2,?_,fun h' eu hf=>⟨yl.set k (f d,x),⟨?_,?_,fun y FK=>?_⟩⟩⟩
  ·have:=(zM.1 hy).1
   rw[lZ jw]
   omega
  ·refine .inr ⟨id,by rw[e1,List.length_set],?_⟩
   rw[eu,DA jw hy ho (hv x)]
  ·rw[List.map_set,a.e]
   apply List.ext_getElem?
   intro i
   rw[getElem?_modify',List.getElem?_set]
   by_cases hk:k=i
   ·subst hk
    rw[zX rfl,zX rfl,zX (zM.1 hd).1,hd];rfl
   ·rw[zW hk,zW hk]
  ·have dH:∀{z:AV}{l:List ByteArray},cl iL 1 9 h z l->cl iL 1 9 h' z l:=fun hz=>dy hz hf fun i o ho ht _ e=>by subst e;rw[e2]at ho;cases ho;exact absurd ht (show(97:Nat)≠9 by decide)
   rcases List.mem_or_eq_of_mem_set FK with h1 |h1
   ·exact dH (a.p y h1)
   ·subst h1
    rw[show(f d,x).1.params=(f d).params from rfl,hp]
    exact dH xQ
def pf(bk:Bk):Prop:=∀d∈bk.ds,d.depth<=32/\d.params≠[]
theorem W8:lE Pg 92=some [true,false]:=by kernel_rfl
theorem L5(a c:Arg):rq Pg 92 a.enc c.enc=some (decide (eJ a=eJ c)):=by
 unfold rq
 rw[W8]
 simp only[Option.bind_some,io,Arg.enc,yB,Bool.and_true]
 by_cases h1:a.name=c.name<;>by_cases h2:a.index=c.index<;>simp[eJ,h1,h2]
def iK(own:Option Nat):Int:=match own with |some k=>k |none=>-1
section
variable {W:Nat->Prop} {QR QN:VK} {QE:Nat->VK} {QP:AV->AH->Prop} {h:AH} {n0 b i vr:Nat} {xr:AV} {bk:Bk} {pl er:Int} {xq xb xd:AV} {yl:List (bS×AV)} {rs:List (Row×AV)} {y:Row×AV} {res:Er Bk} {own:Option Nat} {dp:Int}
theorem RB.Ap(rb:RB n0 h b xr bk pl er xq xb xd yl){k:Nat}{d:bS}(hd:bk.ds[k]?=some d){f:bS->bS}(hp:(f d).params=d.params){o:Nat}{v:AV}(ho:o<7)(hv:∀x,(la (d,x)).set o v=la (f d,x)) :
  ∃id,xd=.sl id 0 bk.ds.length/\∃cells,h.obj id=some (aP cells 7 97)/\k*7+o<cells.length/\n0<=id/\∀h',h'.obj id=some { cells:=bt cells (k*7+o) [v],sz:=7,ty:=97 }->Fr h h' (·=id)->∃l7,RB n0 h' b xr { bk with ds:=bk.ds.modify k f } pl er xq xb xd l7/\Fr h h' (TW TB n0 h):=by
 obtain⟨id,e1,cells,e2,e3,e4⟩:=rb.d.Zr hd hp ho hv
 have hn:=rb.n.2.2.2 _ _ _ e1
 refine⟨id,e1,cells,e2,e3,hn,fun h' eu hf=>?_⟩
 obtain⟨l7,hdt⟩:=e4 h' eu hf
 have ne:∀{j:Nat}{o:AO},h.obj j=some o->o.ty≠97->¬j=id:=fun ho ht e=>by subst e;rw[e2]at ho;cases ho;exact ht rfl
 exact⟨l7,⟨rb.n,hf.obj rb.b (ne rb.b (show(56:Nat)≠97 by decide)),dy rb.q hf fun _ _ ho ht _=>ne ho (by rw[ht];decide),dy rb.s hf fun _ _ ho ht _=>ne ho (by rw[ht];decide),hdt,rb.sep⟩,TW.jm hf hn e2 rfl rfl⟩
theorem L0{k:Nat}{d:bS}{n:Int}(hd:bk.ds[k]?=some d)(hn:n<=d.depth):kD bk (some k) n=bk:=by
 unfold kD
 simp only
 have:bk.ds.modify k (fun d=>{ d with depth:=max d.depth n })=bk.ds:=by
  apply List.ext_getElem?
  intro i
  rw[getElem?_modify']
  by_cases hk:k=i
  ·subst hk
   rw[zX rfl,hd]
   simp only[yB,zQ]
   rw[Int.max_eq_left hn]
  ·rw[zW hk]
 rw[this]
theorem O6(k:DE W QR h n0 b i vr xr bk pl er xq xb xd yl rs y (if own.isSome=true/\32<dp+1 then .error 102 else .ok (kD bk own (dp+1))))(hd:pf bk)(ho:∀k,own=some k->k<bk.ds.length)(wG:0<=dp/\dp<=1000) :
  cD.n9 W QR QN QE QP (.ptr b 0) (I i) (I (iK own)) (I dp) h:=by
 have w1:IntKind.i64.wrap (dp+1)=dp+1:=aR (by omega) (by omega)
 cases own with
 |none=>
  have e:decide ((-1:Int)>=0)=false:=rfl
  show cD.n9 W QR QN QE QP (.ptr b 0) (I i) (I (-1)) (I dp) h
  simp only[cD.n9,iU,e,cD.n8,cA,zS,zE,zD,zC,zH,cD.n7,bK,if_false,cD.n6,al,cD.n1]
  exact k.hk bk xq xb xd yl h (by simp[kD]) k.rb (TW.aU Fr.refl)
 |some j=>
  have e:(j:Int)>=0:=by omega
  show cD.n9 W QR QN QE QP (.ptr b 0) (I i) (I (j:Int)) (I dp) h
  have aL:=ho j rfl
  have xT:bk.ds[j]?=some bk.ds[j]:=zJ aL
  generalize bk.ds[j]=d at *
  obtain⟨x,wC,_⟩:=k.rb.d.at_ xT
  have wO:=(hd d (zP xT)).1
  simp only[cD.n9,iU,zL e,cD.n8,cA,zS,zD,zF,zC,zI,aZ,w1,aC,aj,au,k.rb.b,ap,zG,zA,zB,aa]
  refine dJ (k:=4) k.rb.d.t.dr jw wC (by omega) rfl fun _=>?_
  simp only[ft,gt_iff_lt]
  by_cases k1:d.depth<dp+1
  ·obtain⟨id,e1,cells,e2,e3,hn,e4⟩:=k.rb.Ap xT (f:=fun d=>{ d with depth:=max d.depth (dp+1) }) rfl (o:=4) (v:=I (dp+1)) (by omega) (fun x=>by simp[la];omega)
   simp only[zL k1,cD.n7,bK,zV,cD.n6,al,zD,zF,zC,zI,cD.n5,aC,aj,au,k.rb.b,ap,zG,zA,zB,aa,aZ,w1,e1,kN,zY,aE,e2,dt,bz]
   refine⟨⟨by omega,by omega⟩,⟨k.hW id (.inl ⟨hn,_,e2,rfl,rfl⟩),rfl,rfl,by omega⟩,?_⟩
   have f1:Fr h (h.put id (j*7+4) [I (dp+1)]) (·=id):=Fr.refl.put (.inl rfl)
   have o1:=dz (off:=j*7+4) (cs:=[I (dp+1)]) e2
   generalize h.put id (j*7+4) [I (dp+1)]=h1 at *
   obtain⟨l7,Bp,g1⟩:=e4 h1 o1 f1
   simp only[cD.n4,aZ,w1,ft,gt_iff_lt]
   by_cases k2:32<dp+1
   ·simp only[zL k2,cD.n3,al,zD,zF,zC,zI,cD.n2]
    refine⟨TW TB n0 h1,fun id hs _=>k.hW id (TW.back g1 hs),CA Bp.bn ?_ k.hy (fun _ h=>h) fun h2 be f2=>k.he 102 h2 (by rw[zX ⟨rfl,k2⟩]) be (TW.trans g1 f2)⟩
    exact⟨k.rt.r.pM g1 rfl,fun y hy=>⟨(k.rt.a y hy).1.pM g1 rfl,(k.rt.a y hy).2⟩,k.rt.n⟩
   ·simp only[zK k2,cD.n3,al,zE,zD,zC,zH,cD.n1]
    exact k.hk _ xq xb xd l7 h1 (by rw[zW (fun h=>k2 h.2)];rfl) Bp g1
  ·simp only[zK k1,cD.n7,bK,zV,cD.n6,al,zE,zD,zC,zH,cD.n1]
   refine k.hk bk xq xb xd yl h ?_ k.rb (TW.aU Fr.refl)
   rw[zW (by simp;omega),L0 xT (by omega)]
theorem SD(k:DE W QR h n0 b i vr xr bk pl er xq xb xd yl rs y (if uy y.1.args then .error 113 else if own.isSome=true/\32<dp+1 then .error 102 else .ok (kD bk own (dp+1))))(hd:pf bk)(ho:∀k,own=some k->k<bk.ds.length)(wG:0<=dp/\dp<=1000) :
  cD.cw W QR QN QE QP (.ptr b 0) (I i) (I (iK own)) (.ptr vr 0) (I y.1.args.length) (I dp) h:=by
 obtain⟨ha,hl⟩:=k.rt.a y (zP k.hy)
 unfold cD.cw cD.cT
 refine cy (ι:=Nat) (fun m v h'=>v=[.ptr b 0,I i,I (iK own),.ptr vr 0,I y.1.args.length,I dp,I m]/\m<=y.1.args.length/\h'=h/\∀j a,j<m->(y.1.args.map eJ)[j]?=some a->fe a ((y.1.args.map eJ).take j)=false) (fun m=>y.1.args.length-m) 0 ⟨rfl,by omega,rfl,fun j a h=>by omega⟩ ?_
 rintro K m v h' ⟨rfl,hm,rfl,hb⟩ step
 simp only[cD.cG,zN,zO,cD.cP,bc]
 by_cases aL:m<y.1.args.length
 ·have fH:(m:Int)<y.1.args.length:=by omega
  have g1:y.1.args[m]?=some y.1.args[m]:=zJ aL
  have w1:IntKind.i64.wrap ((m:Int)+1)=((m+1:Nat):Int):=by rw[aR (by omega) (by omega)];simp
  have gm:(y.1.args.map eJ)[m]?=some (eJ y.1.args[m]):=by rw[List.getElem?_map,g1];rfl
  simp only[zL fH,cD.cp,al,zD,zF,zC,zI,cD.ck]
  unfold cD.b5
  refine cy (ι:=Nat) (fun j v h1=>v=[.ptr b 0,I i,I (iK own),.ptr vr 0,I y.1.args.length,I dp,I m,I j]/\j<=m/\h1=h'/\fe (eJ y.1.args[m]) ((y.1.args.map eJ).take j)=false) (fun j=>m-j) 0 ⟨rfl,by omega,rfl,rfl⟩ ?_
  rintro K2 j v h1 ⟨rfl,hj,rfl,pX⟩ Bg
  simp only[cD.iX,zN,zO,cD.bR,bc]
  by_cases wF:j<m
  ·have mq:(j:Int)<m:=by omega
   have hjN:j<y.1.args.length:=by omega
   have g2:y.1.args[j]?=some y.1.args[j]:=zJ hjN
   have w2:IntKind.i64.wrap ((j:Int)+1)=((j+1:Nat):Int):=by rw[aR (by omega) (by omega)];simp
   have tk:(y.1.args.map eJ).take (j+1)=(y.1.args.map eJ).take j++[eJ y.1.args[j]]:=by
    rw[List.take_add_one,List.getElem?_map,g2];rfl
   have gA:eJ y.1.args[j]∈(y.1.args.map eJ).take m:=List.mem_take_iff_getElem.2 ⟨j,by simp;omega,by simp⟩
   generalize y.1.args[j]=c at *
   generalize y.1.args[m]=a at *
   simp only[zL mq,cD.bV,al,zD,zF,zC,zI,cD.bP,aj,au,k.bO,ap,zG,az,zA,zB,aa]
   refine jG ha Arg.bu g1 fun _=>?_
   refine jG ha Arg.bu g2 fun _=>?_
   refine⟨by rw[L5];rfl,?_⟩
   rw[L5]
   simp only[Option.getD_some]
   by_cases e:eJ a=eJ c
   ·have lD:uy y.1.args=true:=vf gm (by rw[vH,e];simpa using gA)
    rw[zX lD]at k
    simp only[zL e,cD.bH,al,zD,zF,zC,zI,cD.a_]
    exact k.bad rfl
   ·simp only[zK e,cD.bH,al,zE,zD,zC,zH,cD.bj,aZ,w2]
    refine Bg (j+1) _ _ (by omega) ⟨rfl,by omega,rfl,?_⟩
    rw[vH]at pX ⊢
    rw[tk]
    simp only[decide_eq_false_iff_not,List.mem_append,List.mem_singleton,not_or]at pX ⊢
    exact⟨pX,e⟩
  ·have eV:¬(j:Int)<m:=by omega
   have ek:j=m:=by omega
   subst ek
   simp only[zK eV,cD.bV,al,zE,zD,zC,zH,zV,cD.aS,zN,zO,aZ,w1]
   refine step (j+1) _ _ (by omega) ⟨rfl,by omega,rfl,fun q a hq ha=>?_⟩
   by_cases H2:q=j
   ·subst H2
    rw[gm]at ha;cases ha
    exact pX
   ·exact hb q a (by omega) ha
 ·have eV:¬(m:Int)<y.1.args.length:=by omega
  have lD:uy y.1.args=false:=yW fun j a hj=>hb j a (by have:=(zM.1 hj).1;rw[zZ]at this;omega) hj
  rw[lD,zW (by decide)]at k
  simp only[zK eV,cD.cp,al,zE,zD,zC,zH,zV,zN,zO]
  exact O6 k hd ho wG
end
end
section
open Go.Ab
attribute [-simp] aV aE
section
variable {W:Nat->Prop} {QR QN:VK} {QE:Nat->VK} {QP:AV->AH->Prop} {h:AH} {n0 b i vr:Nat} {xr:AV} {bk:Bk} {pl er:Int} {xq xb xd:AV} {yl:List (bS×AV)} {rs:List (Row×AV)} {y:Row×AV} {res:Er Bk} {own:Option Nat} {dp:Int}
def VB(bk:Bk)(own:Option Nat)(r:Row)(dp:Int):Er Bk:=if uy r.args then .error 113 else if own.isSome=true/\32<dp+1 then .error 102 else .ok (kD bk own (dp+1))
def GS(bk:Bk)(own:Option Nat)(r:Row)(dp:Int):Er Bk:=if gq (fh bk (gV bk own)) r.args≠0 then .error (gq (fh bk (gV bk own)) r.args) else VB bk own r dp
theorem O7(k:DE W QR h n0 b i vr xr bk pl er xq xb xd yl rs y (GS bk own y.1 dp))(hd:pf bk)(ho:∀k,own=some k->k<bk.ds.length)(wG:0<=dp/\dp<=1000) :
  cD.fQ W QR QN QE QP (.ptr b 0) (I i) (I (iK own)) (.ptr vr 0) (I y.1.args.length) (I dp) h:=by
 obtain⟨ha,hl⟩:=k.rt.a y (zP k.hy)
 unfold GS at k
 unfold cD.fQ cD.fk
 refine cy (ι:=Nat) (fun m v h'=>v=[.ptr b 0,I i,I (iK own),.ptr vr 0,I y.1.args.length,I dp,I m]/\m<=y.1.args.length/\Fr h h' (fun _=>False)/\∀j a,j<m->y.1.args[j]?=some a->fh bk (gV bk own) a=0) (fun m=>y.1.args.length-m) 0 ⟨rfl,by omega,Fr.refl,fun j a h=>by omega⟩ ?_
 rintro K m v h1 ⟨rfl,hm,f1,hb⟩ step
 simp only[cD.pL,zN,zO,cD.fL,bc]
 have k1:=k.ba f1
 by_cases aL:m<y.1.args.length
 ·have fH:(m:Int)<y.1.args.length:=by omega
  have g1:y.1.args[m]?=some y.1.args[m]:=zJ aL
  generalize y.1.args[m]=a at *
  have w1:IntKind.i64.wrap ((m:Int)+1)=((m+1:Nat):Int):=by rw[aR (by omega) (by omega)];simp
  simp only[zL fH,cD.fD,al,zD,zF,zC,zI,cD.fu,aj,au,k1.bO,ap,zG,az,zA,zB,aa]
  refine gD (ha.ba f1) Arg.bu (Arg.hZ a) g1 rfl rfl (fun id hid=>k1.hW id (.inr hid)) fun va h2 f2 _ oa=>?_
  have k2:=k1.ba f2
  have bX:=f1.cj f2
  have my:∀h3,Fr h h3 (fun _=>False)->fh bk (gV bk own) a=0->cD.cL W QR K (fun(XN:Nat) (vs:List AV) (h:AH)=>if XN=0 then cD.cw W QR QN QE QP (vs.getD 0 ab) (vs.getD 1 ab) (vs.getD 2 ab) (vs.getD 3 ab) (vs.getD 4 ab) (vs.getD 5 ab) h else QE XN vs h) QP (.ptr b 0) (I i) (I (iK own)) (.ptr vr 0) (I y.1.args.length) (I dp) (I m) h3:=fun h3 f3 hu=>by
   simp only[cD.cL,aZ,w1]
   refine step (m+1) _ h3 (by omega) ⟨rfl,by omega,f3,fun j c hj hc=>?_⟩
   by_cases hjm:j=m
   ·subst hjm;rw[g1]at hc;cases hc;exact hu
   ·exact hb j c (by omega) hc
  have oL:∀e,fh bk (gV bk own) a=e->e≠0->(if gq (fh bk (gV bk own)) y.1.args≠0 then Except.error (gq (fh bk (gV bk own)) y.1.args) else VB bk own y.1 dp:Er Bk)=.error e:=fun e h1 h2=>by
   have:=yd (f:=fh bk (gV bk own)) g1 (by rw[h1];exact h2) hb
   rw[this,h1,zX h2]
  cases own with
  |none=>
   show cD.fM _ _ _ _ _ _ _ (I (-1)) _ _ _ _ _ _
   have e:decide ((-1:Int)<0)=true:=rfl
   simp only[cD.fM,bc,e,cD.fl,al,zD,zF,zC,zI,cD.eC]
   refine dW oa rfl fun _=>?_
   simp only[aC,aj,au,k2.rb.b,ap,zG,zA,zB,aa]
   refine⟨TW TB n0 h2,fun id hs _=>k2.hW id (.inl hs),CB k2.rb.bn k2.rt k2.hy k2.rb.q.dr (by have:=k.ln.1;omega) (fun _ h=>h) ?_ ?_⟩
   ·intro h3 h0 be f3
    simp only[dA,zT,cD.dZ,al,zD,zF,zC,zI,cD.dS]
    exact k2.he _ h3 (oL _ rfl h0) be f3
   ·intro h3 h0 f3
    simp only[dA,zS,cD.dZ,al,zE,zD,zC,zH,cD.dn]
    exact my h3 (bX.cj f3) h0
  |some j=>
   show cD.fM _ _ _ _ _ _ _ (I (j:Int)) _ _ _ _ _ _
   have e:¬(j:Int)<0:=by omega
   have NL:=ho j rfl
   have xT:bk.ds[j]?=some bk.ds[j]:=zJ NL
   have iF:gV bk (some j)=some bk.ds[j]:=by unfold gV;simp only[Option.bind_some];exact xT
   rw[iF]at oL my
   generalize bk.ds[j]=d at *
   obtain⟨x,wC,xQ⟩:=k2.rb.d.at_ xT
   have iw:=(k.bf.i.ok.ds d (zP xT)).1
   unfold fh at oL my
   simp only at oL my
   simp only[cD.fM,bc,zK e,cD.fl,al,zE,zD,zC,zH,cD.cU,aj,au,oa,ap,zG,Arg.enc,zA,zB,aa,cq]
   by_cases e1:a.index=-1
   ·have GJ:(a.index != -1)=false:=by simp[e1]
    rw[zW (by simpa using e1)]at my
    simp only[GJ,cD.c9,al,zE,zD,zC,zH,cD.cC,aC,aj,au,k2.rb.b,ap,zG,zA,zB,aa]
    refine dJ (k:=1) k2.rb.d.t.dr jw wC (by omega) rfl fun _=>?_
    simp only[aj,au,oa,ap,zG,Arg.enc,zA,aa]
    refine⟨fun _=>False,fun _ h=>h.elim,Fg xQ.dr iw ?_⟩
    cases zo:gy a.name d.params 0 with
    |some q=>
     have pX:fe a.name d.params=true:=by unfold fe;rw[zo];rfl
     have e2:¬(q:Int)<0:=by omega
     simp only[bc,zK e2,cD.cF,al,zE,zD,zC,zH]
     exact my h2 bX (by rw[pX];rfl)
    |none=>
     have pX:fe a.name d.params=false:=by unfold fe;rw[zo];rfl
     have e2:(-1:Int)<0:=by omega
     simp only[bc,zL e2,cD.cF,al,zD,zF,zC,zI,cD.cS]
     refine k2.bad ?_
     rw[iF]
     exact oL 110 (by rw[zW (by simpa using e1),pX];rfl) (by decide)
   ·have GJ:(a.index != -1)=true:=by simpa using e1
    simp only[GJ,cD.c9,al,zD,zF,zC,zI,cD.cB]
    refine k2.bad ?_
    rw[iF]
    exact oL 112 (by rw[zX e1]) (by decide)
 ·have eV:¬(m:Int)<y.1.args.length:=by omega
  have je:gq (fh bk (gV bk own)) y.1.args=0:=yc fun j a hj=>hb j a (by have:=(zM.1 hj).1;omega) hj
  rw[zW (by simpa using je)]at k1
  simp only[zK eV,cD.fD,al,zE,zD,zC,zH,zV,zN,zO]
  exact SD k1 hd ho wG
theorem Iy{n:Int}(k:DE W QR h n0 b i vr xr bk pl er xq xb xd yl rs y (if (y.1.args.length:Int)≠n then .error 111 else GS bk own y.1 dp))(hd:pf bk)(ho:∀k,own=some k->k<bk.ds.length)(wG:0<=dp/\dp<=1000) :
  cD.fZ W QR QN QE QP (.ptr b 0) (I i) (I (iK own)) (.ptr vr 0) (I n) (I dp) h:=by
 obtain⟨ha,hl⟩:=k.rt.a y (zP k.hy)
 simp only[cD.fZ,aj,au,k.bO,ap,zG,az,zA,zB,aa,ha.len.1,ha.len.2,zH,cq]
 by_cases e:(y.1.args.length:Int)=n
 ·have e':((y.1.args.length:Int) != n)=false:=by simp[e]
  rw[zW (by simpa using e)]at k
  simp only[e',cD.gf,al,zE,zD,zC,zH]
  rw[<-e]
  exact O7 k hd ho wG
 ·have e':((y.1.args.length:Int) != n)=true:=by simpa using e
  rw[zX e]at k
  simp only[e',cD.gf,al,zD,zF,zC,zI,cD.e_]
  exact k.bad rfl
theorem G_(k:DE W QR h n0 b i vr xr bk pl er xq xb xd yl rs y (if (g_ bk y.1.name).1=0 then .error 80 else if (y.1.args.length:Int)≠(g_ bk y.1.name).1 then .error 111 else GS bk own y.1 (g_ bk y.1.name).2))(hd:pf bk)(ho:∀k,own=some k->k<bk.ds.length) :
  cD.jW W QR QN QE QP (.ptr b 0) (I i) (I (iK own)) (.ptr vr 0) h:=by
 simp only[cD.jW,aj,au,k.bO,ap,zG,az,zA,zB,aa]
 have F1:=yu y.1.name
 have rest:∀x:Int,((x=-1/\eB bk.ds y.1.name=none)\/∃(j:Nat)(d:bS),x=j/\bk.ds[j]?=some d/\eB bk.ds y.1.name=some d)->cD.oV W QR QN QE QP (.ptr b 0) (I i) (I (iK own)) (.ptr vr 0) (I x) h:=fun x hx=>by
  simp only[cD.oV,aj,au,k.bO,ap,zG,az,zA,zB,aa]
  refine⟨fun _=>False,fun _ h=>h.elim,oq ?_⟩
  simp only[cD.pr,eG]
  by_cases k0:cf y.1.name=0
  ·have Um:(cf y.1.name==0)=true:=by simp[k0]
   simp only[Um,cD.mh,al,zD,zF,zC,zI,cD.gQ,bc]
   rcases hx with⟨rfl,hn⟩ |⟨j,d,rfl,hj,lD⟩
   ·have hw:(g_ bk y.1.name).1=0:=by unfold g_;rw[hn];exact k0
    rw[zX hw]at k
    have e:(-1:Int)<0:=by omega
    simp only[zL e,cD.jH,cA,zT,zF,zD,zC,zI,zH,cD.lc,bK,zV,cD.gI,al,cD.jd]
    exact k.bad rfl
   ·have e:¬(j:Int)<0:=by omega
    obtain⟨x,wC,xQ⟩:=k.rb.d.at_ hj
    have gA:=zP hj
    have Lr:=hd d gA
    have hdb:=k.bf.i.ok.ds d gA
    simp only[zK e,cD.jH,cA,zT,zE,zD,zC,zI,aC,aj,au,k.rb.b,ap,zG,zA,zB,aa]
    refine dJ (k:=6) k.rb.d.t.dr jw wC (by omega) rfl fun _=>?_
    simp only[cD.lc,bK,zE,if_false,cD.gI]
    cases hw:d.whole with
    |false=>
     have Uy:(g_ bk y.1.name).1=0:=by unfold g_;rw[lD];simp only[hw,zE,if_false];exact k0
     rw[zX Uy]at k
     simp only[zT,al,zD,zF,zC,zI,cD.jd]
     exact k.bad rfl
    |true=>
     have Uy:g_ bk y.1.name=((d.params.length:Int),d.depth):=by unfold g_;rw[lD];simp only[hw,zV]
     have dx:¬((d.params.length:Int)=0):=fun e=>Lr.2 (List.length_eq_zero_iff.1 (by omega))
     rw[Uy]at k
     simp only at k
     rw[zW dx]at k
     simp only[zS,al,zE,zD,zC,zH,cD.fC,aC,aj,au,k.rb.b,ap,zG,zA,zB,aa]
     refine dJ (k:=1) k.rb.d.t.dr jw wC (by omega) rfl fun _=>?_
     simp only[xQ.dr.len.1,xQ.dr.len.2,zH]
     refine dJ (k:=4) k.rb.d.t.dr jw wC (by omega) rfl fun _=>?_
     exact Iy (dp:=d.depth) k hd ho (by omega)
  ·have Um:(cf y.1.name==0)=false:=by simpa using k0
   have hn:eB bk.ds y.1.name=none:=by
    cases lD:eB bk.ds y.1.name with
    |none=>rfl
    |some d=>
     obtain⟨j,g1,g2⟩:=vU lD
     have:=(k.bf.a d (zP g1)).1
     rw[g2]at this;exact absurd this k0
   have hw:g_ bk y.1.name=(cf y.1.name,0):=by unfold g_;rw[hn]
   rw[hw]at k
   simp only at k
   rw[zW k0]at k
   simp only[Um,cD.mh,al,zE,zD,zC,zH]
   exact Iy k hd ho (by omega)
 refine⟨fun _=>False,fun _ h=>h.elim,tI k.rb.b rfl k.rb.d k.ln.2.2 ?_ ?_⟩
 ·intro hn
  exact rest (-1) (.inl ⟨rfl,hn⟩)
 ·intro j d hj lD
  exact rest j (.inr ⟨j,d,rfl,hj,lD⟩)
theorem SB(k:DE W QR h n0 b i vr xr bk pl er xq xb xd yl rs y (kM bk own y.1))(hd:pf bk)(ho:∀k,own=some k->k<bk.ds.length) :
  cD.DJ W QR QN QE QP (.ptr b 0) (I i) (I (iK own)) (.ptr vr 0) h:=by
 have ue:kM bk own y.1=if mF bk own y.1.name then .error 114 else if (g_ bk y.1.name).1=0 then .error 80 else if (y.1.args.length:Int)≠(g_ bk y.1.name).1 then .error 111 else GS bk own y.1 (g_ bk y.1.name).2:=rfl
 rw[ue]at k
 cases own with
 |none=>
  have e:decide ((-1:Int)>=0)=false:=rfl
  have hl:¬mF bk none y.1.name=true:=by unfold mF gV;simp
  rw[zW hl]at k
  show cD.DJ W QR QN QE QP (.ptr b 0) (I i) (I (-1)) (.ptr vr 0) h
  simp only[cD.DJ,iU,e,cD.KO,cA,zS,zE,zD,zC,zH,cD.uM,bK,if_false,cD.rM,al]
  exact G_ (own:=none) k hd ho
 |some j=>
  have e:(j:Int)>=0:=by omega
  have NL:=ho j rfl
  have xT:bk.ds[j]?=some bk.ds[j]:=zJ NL
  have X9:mF bk (some j) y.1.name=decide (y.1.name=bk.ds[j].name):=by unfold mF gV;simp only[Option.bind_some,xT]
  generalize bk.ds[j]=d at *
  obtain⟨x,wC,xQ⟩:=k.rb.d.at_ xT
  show cD.DJ W QR QN QE QP (.ptr b 0) (I i) (I (j:Int)) (.ptr vr 0) h
  simp only[cD.DJ,iU,zL e,cD.KO,cA,zS,zD,zF,zC,zI,aC,aj,au,k.rb.b,ap,zG,zA,zB,aa]
  refine dJ (k:=0) k.rb.d.t.dr jw wC (by omega) rfl fun _=>?_
  simp only[aj,au,k.bO,ap,zG,az,zA,zB,aa,br]
  by_cases e1:d.name=y.1.name
  ·rw[X9,zL e1.symm,zX rfl]at k
   simp only[zL e1,cD.uM,bK,zV,cD.rM,al,zD,zF,zC,zI,cD.nL]
   exact k.bad rfl
  ·rw[X9,zK (fun h=>e1 h.symm),zW (by decide)]at k
   simp only[zK e1,cD.uM,bK,zV,cD.rM,al,zE,zD,zC,zH]
   exact G_ (own:=some j) k hd ho
end
section
variable {h:AH} {M:Nat->Prop} {R:AE->AH->Prop} {n0 b i:Nat} {xr:AV} {bk:Bk} {pl er:Int} {xq xb xd:AV} {yl:List (bS×AV)} {rs:List (Row×AV)} {y:Row×AV} {own:Option Nat}
theorem Rm(rb:RB n0 h b xr bk pl er xq xb xd yl)(rt:RT h xr rs)(hy:rs[i]?=some y)(bf:ms bk)(ln:bk.qs.length<=64/\bk.bs.length<=64/\bk.ds.length<=100000000)(hd:pf bk)(ho:∀k,own=some k->k<bk.ds.length)(hM:∀id,TW TB n0 h id->M id)
  (he:∀e h',kM bk own y.1=.error e->BE h' b y.1.place e->Fr h h' (TW TB n0 h)->R (.ret (B false)) h')
  (hk:∀bN qO qQ qP l7 h',kM bk own y.1=.ok bN->RB n0 h' b xr bN pl er qO qQ qP l7->Fr h h' (TW TB n0 h)->R (.ret (B true)) h'):aA Pg 73 [.ptr b 0,I i,I (iK own)] h M R:=by
 apply cD.aM
 simp only[cD.KN,cD.BC,aC,aj,au,rb.b,ap,zG,zA,aa]
 refine gD rt.r dT (rt.one hy) hy rfl rfl (fun id hid=>.inr hid) fun vr h1 f1 _ kI=>?_
 refine SB ⟨rb.ba f1,rt.ba f1,hy,kI,fun id hid=>hid.elim (fun hid=>(TW.back (TW.aU f1) hid).elim (fun h=>.inl (hM id h)) .inr) (fun hid=>.inr (zR f1.next hid)),bf,ln,?_,?_⟩ hd ho
 ·intro e h' h2 h3 f2
  simpa using he e h' h2 h3 (TW.trans (TW.aU f1) f2)
 ·intro bN qO qQ qP l7 h' h2 h3 f2
  simpa using hk bN qO qQ qP l7 h' h2 h3 (TW.trans (TW.aU f1) f2)
end
end
section
open Go.Ab
attribute [-simp] aV aE
section
variable {W:Nat->Prop} {QR QN:VK} {QE:Nat->VK} {QP:AV->AH->Prop} {h:AH} {n0 b i vr:Nat} {xr:AV} {bk:Bk} {pl er:Int} {xq xb xd:AV} {yl:List (bS×AV)} {rs:List (Row×AV)} {y:Row×AV} {res:Er Bk} {own:Option Nat} {dp:Int}
theorem DE.same(k:DE W QR h n0 b i vr xr bk pl er xq xb xd yl rs y (.ok bk)):QR [B true] h:=k.hk bk xq xb xd yl h rfl k.rb (TW.aU Fr.refl)
theorem SO(k:DE W QR h n0 b i vr xr bk pl er xq xb xd yl rs y (if y.1.num<0 then .error 112 else .ok bk)):db.n5 W QR QN QE QP (.ptr b 0) (I i) (.ptr vr 0) h:=by
 simp only[db.n5,aj,au,k.bO,ap,zG,az,zA,zB,aa,bc]
 by_cases k1:y.1.num<0
 ·rw[zX k1]at k
  simp only[zL k1,db.n4,al,zD,zF,zC,zI,db.n3]
  exact k.bad rfl
 ·rw[zW k1]at k
  simp only[zK k1,db.n4,al,zE,zD,zC,zH,db.n1]
  exact k.same
theorem Wa(k:DE W QR h n0 b i vr xr bk pl er xq xb xd yl rs y (uQ bk y.1)):db.bR W QR QN QE QP (.ptr b 0) (I i) (.ptr vr 0) h:=by
 simp only[db.bR,aC,aj,au,k.rb.b,k.bO,ap,zG,az,zA,zB,aa]
 refine⟨fun _=>False,fun _ h=>h.elim,sy k.rb.s.dr (by have:=k.ln.2.1;omega) ?_ ?_⟩
 ·intro hr
  have e:(-1:Int)<0:=by omega
  simp only[db.bV,bc,zL e,db.bP,al,zD,zF,zC,zI,db.bH]
  exact k.bad (by unfold uQ;rw[hr])
 ·intro j g hj hr
  have e:¬(j:Int)<0:=by omega
  have ei:uQ bk y.1=if y.1.num<0\/(g.size<63/\2^g.size.toNat<=y.1.num) then .error 112 else .ok bk:=by unfold uQ;rw[hr]
  rw[ei]at k
  have hg:=k.bf.i.ok.sb g (zP hj)
  simp only[db.bV,bc,zK e,db.bP,al,zE,zD,zC,zH,db.a_,aj,au,k.bO,ap,zG,az,zA,zB,aa]
  by_cases k1:y.1.num<0
  ·rw[zX (.inl k1)]at k
   simp only[zL k1,db.bj,cA,zT,zS,zF,zE,zD,zC,zI,zH,db.aS]
   have fin:∀t,db.n9 W QR QN QE QP (.ptr b 0) (I i) (B true) t ab h:=fun t=>by
    simp only[db.n9,cA,zT,zF,zD,zC,zI,zH,zE,db.n8,bK,zV,db.n7,al,db.n6]
    exact k.bad rfl
   exact fin ab
  ·simp only[zK k1,db.bj,cA,zT,zE,zD,zC,zI,aC,aj,au,k.rb.b,ap,zG,zA,zB,aa]
   refine dJ (k:=2) k.rb.s.dr jL hj (by omega) rfl fun _=>?_
   simp only[bc]
   by_cases k2:g.size<63
   ·have hp:IntKind.i64.wrap (1*2^(min g.size.toNat IntKind.i64.bits))=2^g.size.toNat:=by
     have e:IntKind.i64.bits=64:=rfl
     rw[e,Nat.min_eq_left (by omega),Int.one_mul]
     have h1:(2:Int)^g.size.toNat=((2^g.size.toNat:Nat):Int):=by simp
     have h2:2^g.size.toNat<=2^62:=Nat.pow_le_pow_right (by decide) (by omega)
     have hP:∀P:Nat,P<=2^62->IntKind.i64.wrap (P:Int)=P:=fun P h=>aR (by omega) (by omega)
     rw[h1]
     exact hP _ h2
    have k0:0<=g.size:=by omega
    simp only[zL k2,db.aS,cA,zS,zD,zF,zC,zI,aj,au,k.bO,k.rb.b,aC,ap,zG,az,zA,zB,aa]
    refine dJ (k:=2) k.rb.s.dr jL hj (by omega) rfl fun _=>?_
    simp only[qn,k0,zH,hp,iU,ge_iff_le]
    by_cases k3:2^g.size.toNat<=y.1.num
    ·rw[zX (.inr ⟨k2,k3⟩)]at k
     simp only[zL k3,db.n9,cA,zT,zE,zD,zC,zI,bK,zV,db.n8,if_false,db.n7,al,zF,db.n6]
     exact k.bad rfl
    ·rw[zW (fun h=>h.elim k1 (fun h=>k3 h.2))]at k
     simp only[zK k3,db.n9,cA,zT,zE,zD,zC,zI,zH,bK,zV,db.n8,if_false,db.n7,al,zF,db.n1]
     exact k.same
   ·rw[zW (fun h=>h.elim k1 (fun h=>k2 h.1))]at k
    simp only[zK k2,db.aS,cA,zS,zE,zD,zC,zH,db.n9,zT,zI,bK,if_false,db.n8,db.n7,al,db.n1]
    exact k.same
theorem Mm(k:DE W QR h n0 b i vr xr bk pl er xq xb xd yl rs y (mY bk y.1.args)):db.c9 W QR QN QE QP (.ptr b 0) (I i) (.ptr vr 0) h:=by
 obtain⟨ha,hl⟩:=k.rt.a y (zP k.hy)
 have hk:=k
 simp only[db.c9,aj,au,k.bO,ap,zG,az,zA,zB,aa,ha.len.1,ha.len.2,zH,cq,qt]
 match mL:y.1.args with
 |[]=>
  rw[mL]at hk
  have h1:¬((([]:List Arg).length:Nat):Int)=1:=by simp
  simp only[zK h1,zT,db.cB,al,zD,zF,zC,zI,db.cC]
  exact hk.bad rfl
 |a::c::l=>
  rw[mL]at hk
  have h1:¬(((a::c::l).length:Nat):Int)=1:=by simp only[List.length_cons];omega
  simp only[zK h1,zT,db.cB,al,zD,zF,zC,zI,db.cC]
  exact hk.bad rfl
 |[a]=>
  rw[mL]at hk ha
  have h1:(([a].length:Nat):Int)=1:=rfl
  simp only[zL h1,zS,db.cB,al,zE,zD,zC,zH,db.cF,aj,au,k.bO,ap,zG,az,zA,zB,aa]
  refine jG (i:=0) ha Arg.bu rfl fun _=>?_
  simp only[aC,aj,au,k.rb.b,ap,zG,zA,zB,aa]
  refine⟨TW TB n0 h,fun id hs _=>k.hW id (.inl hs),CB k.rb.bn k.rt k.hy k.rb.q.dr (by have:=k.ln.1;omega) (fun _ h=>h) ?_ ?_⟩
  ·intro h3 h0 be f3
   exact hk.he _ h3 (by simp only[mY,lF];rw[zX h0]) be f3
  ·intro h3 h0 f3
   exact hk.hk bk xq xb xd yl h3 (by simp only[mY,lF];rw[zW (by simpa using h0)]) (k.rb.ba f3) (TW.aU f3)
theorem Ph(k:DE W QR h n0 b i vr xr bk pl er xq xb xd yl rs y (kT bk y.1.args)):db.cS W QR QN QE QP (.ptr b 0) (I i) (.ptr vr 0) h:=by
 obtain⟨ha,hl⟩:=k.rt.a y (zP k.hy)
 have hk:=k
 simp only[db.cS,aj,au,k.bO,ap,zG,az,zA,zB,aa,ha.len.1,ha.len.2,zH,cq,qt]
 by_cases hlen:y.1.args.length=2
 ·match mL:y.1.args,hlen with
  |[a,c],_=>
   rw[mL]at hk ha
   have h1:(([a,c].length:Nat):Int)=2:=rfl
   simp only[zL h1,zS,db.cL,al,zE,zD,zC,zH,db.cT,aj,au,k.bO,ap,zG,az,zA,zB,aa]
   refine jG (i:=0) ha Arg.bu rfl fun _=>?_
   simp only[aC,aj,au,k.rb.b,ap,zG,zA,zB,aa]
   refine⟨TW TB n0 h,fun id hs _=>k.hW id (.inl hs),CB k.rb.bn k.rt k.hy k.rb.q.dr (by have:=k.ln.1;omega) (fun _ h=>h) ?_ ?_⟩
   ·intro h3 h0 be f3
    simp only[db.cP,cA,zS,zE,zD,zC,zH,db.cp,bK,if_false,db.ck]
    exact hk.he _ h3 (by simp only[kT];rw[zX h0]) be f3
   ·intro h3 h0 f3
    have k3:=k.ba f3
    simp only[db.cP,cA,zS,zD,zF,zC,zI,aj,au,k3.bO,ap,zG,az,zA,zB,aa]
    refine jG (i:=1) (ha.ba f3) Arg.bu rfl fun _=>?_
    simp only[aC,aj,au,k3.rb.b,ap,zG,zA,zB,aa]
    refine⟨TW TB n0 h3,fun id hs _=>k3.hW id (.inl hs),CB k3.rb.bn k3.rt k.hy k3.rb.s.dr (by have:=k.ln.2.1;omega) (fun _ h=>h) ?_ ?_⟩
    ·intro h4 sU be f4
     simp only[db.cp,bK,zV,db.ck]
     exact hk.he _ h4 (by simp only[kT];rw[zW (by simpa using h0)];unfold lF;rw[zX sU]) be (TW.trans (TW.aU f3) f4)
    ·intro h4 sU f4
     simp only[db.cp,bK,zV,db.ck]
     exact hk.hk bk xq xb xd yl h4 (by simp only[kT];rw[zW (by simpa using h0)];unfold lF;rw[zW (by simpa using sU)]) (k3.rb.ba f4) (TW.aU (f3.cj f4))
 ·have h1:¬((y.1.args.length:Nat):Int)=2:=by omega
  simp only[zK h1,zT,db.cL,al,zD,zF,zC,zI,db.cw]
  refine k.bad ?_
  unfold kT
  split
  ·rename_i hh;rw[hh]at hlen;exact absurd rfl hlen
  ·rfl
theorem Kc{i:Int}(hk:y.1.kind=bF\/y.1.kind=cE\/y.1.kind=bD):fO bk own i y.1=fO bk none i y.1:=by
 unfold fO
 have n2:cE≠bF:=by decide
 have n3:bD≠bF:=by decide
 have n4:bD≠cE:=by decide
 rcases hk with hk |hk |hk
 ·rw[hk,zX rfl,zX rfl]
 ·rw[hk,zW n2,zW n2,zX rfl,zX rfl]
 ·rw[hk,zW n3,zW n3,zW n4,zW n4,zX rfl,zX rfl]
theorem SP(k:DE W QR h n0 b i vr xr bk pl er xq xb xd yl rs y (fO bk own i y.1))(hd:pf bk)(ho:∀k,own=some k->k<bk.ds.length)(FO:0<=y.1.rows/\y.1.rows<=1000000000):db.fC W QR QN QE QP (.ptr b 0) (I i) (I (iK own)) (.ptr vr 0) h:=by
 have decl:y.1.kind=bF\/y.1.kind=cE\/y.1.kind=bD->db.n2 W QR QN QE QP (.ptr b 0) (I i) h:=fun hk=>by
  rw[Kc hk]at k
  exact⟨TW TB n0 h,fun id hs _=>k.hW id (.inl hs),Ho k.rb k.rt k.hy k.bf k.ln hk FO (fun _ h=>h) k.he k.hk⟩
 have e1:(⟨#[113,117,98,105,116,115]⟩:ByteArray)=bF:=rfl
 have e2:(⟨#[98,105,116,115]⟩:ByteArray)=cE:=rfl
 have e3:(⟨#[103,97,116,101]⟩:ByteArray)=bD:=rfl
 have e4:(⟨#[114,101,112,101,97,116]⟩:ByteArray)=aT:=rfl
 have e5:(⟨#[105,102]⟩:ByteArray)=eZ:=rfl
 have e6:(⟨#[117,115,101]⟩:ByteArray)=cn:=rfl
 have e7:(⟨#[109,101,97,115,117,114,101]⟩:ByteArray)=bT:=rfl
 have e8:(⟨#[114,101,115,101,116]⟩:ByteArray)=cV:=rfl
 simp only[db.fC,aj,au,k.bO,ap,zG,az,zA,zB,aa,db.fZ,br,e1]
 by_cases k1:y.1.kind=bF
 ·simp only[zL k1,db.gf,al,zD,zF,zC,zI,db.fk]
  exact decl (.inl k1)
 simp only[zK k1,db.gf,al,zE,zD,zC,zH,db.e_,br,e2]
 by_cases k2:y.1.kind=cE
 ·simp only[zL k2,db.fQ,al,zD,zF,zC,zI,db.fk]
  exact decl (.inr (.inl k2))
 simp only[zK k2,db.fQ,al,zE,zD,zC,zH,br,e3]
 by_cases k3:y.1.kind=bD
 ·simp only[zL k3,db.fk,al,zD,zF,zC,zI]
  exact decl (.inr (.inr k3))
 clear decl
 unfold fO at k
 rw[zW k1,zW k2,zW k3]at k
 simp only[zK k3,db.fk,al,zE,zD,zC,zH,db.fL,br,e4]
 by_cases k4:y.1.kind=aT
 ·rw[zX k4]at k
  simp only[zL k4,db.fD,al,zD,zF,zC,zI]
  exact SO k
 rw[zW k4]at k
 simp only[zK k4,db.fD,al,zE,zD,zC,zH,db.fu,br,e5]
 by_cases k5:y.1.kind=eZ
 ·rw[zX k5]at k
  simp only[zL k5,db.fM,al,zD,zF,zC,zI]
  exact Wa k
 rw[zW k5]at k
 simp only[zK k5,db.fM,al,zE,zD,zC,zH,db.fl,br,e6]
 by_cases k6:y.1.kind=cn
 ·rw[zX k6]at k
  simp only[zL k6,db.eC,al,zD,zF,zC,zI,db.b5]
  exact⟨TW TB n0 h,fun id hs _=>k.hW id (.inl hs),Rm k.rb k.rt k.hy k.bf k.ln hd ho (fun _ h=>h) k.he k.hk⟩
 rw[zW k6]at k
 simp only[zK k6,db.eC,al,zE,zD,zC,zH,db.dZ,br,e7]
 by_cases k7:y.1.kind=bT
 ·rw[zX k7]at k
  simp only[zL k7,db.dS,al,zD,zF,zC,zI]
  exact Ph k
 rw[zW k7]at k
 simp only[zK k7,db.dS,al,zE,zD,zC,zH,db.dn,br,e8]
 by_cases k8:y.1.kind=cV
 ·rw[zX k8]at k
  simp only[zL k8,db.cU,al,zD,zF,zC,zI]
  exact Mm k
 rw[zW k8]at k
 simp only[zK k8,db.cU,al,zE,zD,zC,zH,db.n1]
 exact k.same
end
section
variable {h:AH} {M:Nat->Prop} {R:AE->AH->Prop} {n0 b i:Nat} {xr:AV} {bk:Bk} {pl er:Int} {xq xb xd:AV} {yl:List (bS×AV)} {rs:List (Row×AV)} {y:Row×AV} {own:Option Nat}
theorem Rt(rb:RB n0 h b xr bk pl er xq xb xd yl)(rt:RT h xr rs)(hy:rs[i]?=some y)(bf:ms bk)(ln:bk.qs.length<=64/\bk.bs.length<=64/\bk.ds.length<=100000000)(hd:pf bk)(ho:∀k,own=some k->k<bk.ds.length)(FO:0<=y.1.rows/\y.1.rows<=1000000000)(hM:∀id,TW TB n0 h id->M id)
  (he:∀e h',fO bk own i y.1=.error e->BE h' b y.1.place e->Fr h h' (TW TB n0 h)->R (.ret (B false)) h')
  (hk:∀bN qO qQ qP l7 h',fO bk own i y.1=.ok bN->RB n0 h' b xr bN pl er qO qQ qP l7->Fr h h' (TW TB n0 h)->R (.ret (B true)) h'):aA Pg 41 [.ptr b 0,I i,I (iK own)] h M R:=by
 apply db.aM
 simp only[db.gI,db.jd,aC,aj,au,rb.b,ap,zG,zA,aa]
 refine gD rt.r dT (rt.one hy) hy rfl rfl (fun id hid=>.inr hid) fun vr h1 f1 _ kI=>?_
 refine SP ⟨rb.ba f1,rt.ba f1,hy,kI,fun id hid=>hid.elim (fun hid=>(TW.back (TW.aU f1) hid).elim (fun h=>.inl (hM id h)) .inr) (fun hid=>.inr (zR f1.next hid)),bf,ln,?_,?_⟩ hd ho FO
 ·intro e h' h2 h3 f2
  simpa using he e h' h2 h3 (TW.trans (TW.aU f1) f2)
 ·intro bN qO qQ qP l7 h' h2 h3 f2
  simpa using hk bN qO qQ qP l7 h' h2 h3 (TW.trans (TW.aU f1) f2)
end
end
section
open Go.Ab
attribute [-simp] aV aE
section
variable {b:Nat} {xr xd:AV} {bk:Bk} {yl:List (bS×AV)} {rs:List (Row×AV)}
structure MC (h:AH) (b:Nat) (xr xd:AV) (rs:List (Row×AV)) (ds:List bS) (yl:List (bS×AV)):Prop where
 p:∃cs,h.obj b=some (aP cs 9 56)/\cs[0]?=some xr/\cs[3]?=some xd
 r:RT h xr rs
 d:DT h xd ds yl
theorem MC.ba{h h':AH}{ds:List bS}(a:MC h b xr xd rs ds yl)(f:Fr h h' fun _=>False):MC h' b xr xd rs ds yl:=by
 obtain⟨cs,h1,h2⟩:=a.p
 exact⟨⟨cs,f.bU h1,h2⟩,a.r.ba f,a.d.ba f⟩
theorem L4{ds:List bS}(hd:∀d∈ds,0<=d.ops/\d.ops<=4097)(F1:∀d∈ds,cf d.name=0)(yQ:ds.length<=100000000)(n:Nat):∀{h:AH}{M:Nat->Prop}{R:AE->AH->Prop}{a:Nat}(_:MC h b xr xd rs ds yl)(_:a+n<=rs.length)(_:pQ (sg rs a n))
  (_:∀h',Fr h h' (fun _=>False)->R (.ret (I (countP ds (sg rs a n) 0))) h'),aA Pg 42 [.ptr b 0,I a,I (a+n)] h M R:=by
 induction n using Nat.strongRecOn with
 |ind n ih=>
 intro h M R a hc hn hs hR
 apply iQ.aM
 unfold iQ.cL iQ.cw iQ.cT iQ.cP
 have hlen:=hc.r.n
 refine cy (ι:=Nat×Int) (fun i v h'=>v=[.ptr b 0,I (a+n),I i.2,I (a+(n-i.1:Nat):Int)]/\i.1<=n/\(0<=i.2/\i.2<=4097)/\pQ (sg rs (a+(n-i.1)) i.1)/\countP ds (sg rs (a+(n-i.1)) i.1) i.2=countP ds (sg rs a n) 0/\Fr h h' (fun _=>False)) (fun i=>i.1) (n,0) ⟨by simp,zU _,by omega,by simpa using hs,by simp,Fr.refl⟩ ?_
 rintro K ⟨m,acc⟩ v h1 ⟨rfl,hm,nW,gp,bq,f1⟩ step
 simp only at hm nW gp bq
 have B6:=hc.ba f1
 unfold iQ.cG
 simp only[zN,zO,iQ.cp,bc]
 cases m with
 |zero=>
  have e1:decide ((a:Int)+(n-0:Nat)<a+n)=false:=by simp
  rw[vq,countP_nil]at bq
  simp only[e1,iQ.ck,al,zE,zD,zC,zH,zV,iQ.n1,zN]
  rw[bq]
  simpa using hR h1 f1
 |succ m=>
  obtain⟨j,hj⟩:∃j,j=a+(n-(m+1)):=⟨_,rfl⟩
  have ej:(a:Int)+(n-(m+1):Nat)=(j:Int):=by omega
  have e1:decide ((j:Int)<a+n)=true:=by simp;omega
  rw[<-hj]at gp bq
  obtain⟨y,hy⟩:∃y,rs[j]?=some y:=⟨rs[j]'(by omega),zJ _⟩
  rw[xj hy]at gp bq
  rw[countP_cons]at bq
  obtain⟨⟨b0,b1⟩,b2,b3,b4⟩:=gp.inv
  rw[qX (by omega)]at b1
  obtain⟨k,hk⟩:∃k:Nat,y.1.rows=k:=⟨y.1.rows.toNat,by omega⟩
  have lQ:k<=m:=by omega
  rw[hk,zY,jR lQ]at b3
  rw[hk,zY,jS]at b4
  rw[hk,zY,jR lQ,jS]at bq
  obtain⟨cs,hp,c0,c3⟩:=B6.p
  simp only[e1,ej,iQ.ck,al,zD,zF,zC,zI,iQ.b5,aC,aj,au,hp,ap,zG,c0,aa]
  refine gD B6.r.r dT (B6.r.one hy) hy rfl rfl (fun id hid=>.inr (zR f1.next hid)) fun vr h2 f2 _ bO=>?_
  have bX:=f1.cj f2
  have p_:=B6.ba f2
  have D2:=rm hd b3 0 (by omega)
  have Lo:=yi (ds:=ds) (r:=y.1) (c:=countP ds (sg rs (j+1) k) 0) hd D2 b2
  have w1:∀x:Int,0<=x/\x<=1000000000->IntKind.i64.wrap x=x:=fun x hx=>aR (by omega) (by omega)
  have LO:∀x:Int,(if (4097:Int)<x then 4097 else x)=min x 4097:=fun x=>by split<;>omega
  have last:∀(kr:Int) h3,min (acc+kr) 4097=min (acc+iY ds y.1 (countP ds (sg rs (j+1) k) 0)) 4097->0<=kr/\kr<=16785409->Fr h h3 (fun _=>False)->iQ.n3 (fun id=>M id\/h.next<=id) (aJ Pg [.tmp 6] R) K (fun(i:Nat) (vs:List AV) (h:AH)=>if i=0 then iQ.n1 (fun id=>M id\/h.next<=id) (aJ Pg [.tmp 6] R) (aJ Pg [.tmp 6] R) (fun _ _ _=>False) (fun v h=>R (.bW v) h) (vs.getD 0 ab) h else False) (fun v h=>R (.bW v) h) (.ptr b 0) (I (a+n)) (I acc) (I j) (I kr) h3:=fun kr h3 UW abJ f3=>by
   obtain⟨cs3,BQ,VD,c33⟩:=(hc.ba f3).p
   simp only[iQ.n3,aZ,w1 (acc+kr) (by omega),rL,zH,zV,LO,iQ.n2,aC,aj,au,BQ,ap,zG,VD,aa]
   refine dJ (k:=4) (hc.ba f3).r.r dT hy (by omega) rfl fun _=>?_
   rw[hk,UW]
   simp only[aZ,w1 (1+(k:Int)) (by omega),w1 ((j:Int)+(1+k)) (by omega)]
   refine step (m-k,min (acc+iY ds y.1 (countP ds (sg rs (j+1) k) 0)) 4097) _ h3 (by simp only;omega) ⟨?_,by simp only;omega,?_,?_,?_,f3⟩
   ·have e9:(j:Int)+(1+k)=a+(n-(m-k):Nat):=by omega
    rw[<-e9]
   ·simp only;omega
   ·have e8:j+1+k=a+(n-(m-k)):=by omega
    rw[e8]at b4;exact b4
   ·have e8:j+1+k=a+(n-(m-k)):=by omega
    rw[e8]at bq
    exact bq
  have e4:(⟨#[114,101,112,101,97,116]⟩:ByteArray)=aT:=rfl
  simp only[iQ.bR,iQ.bV,aj,au,bO,ap,zG,az,zA,zB,aa,br,e4]
  by_cases k1:y.1.kind=aT
  ·have sP:=b2 k1
   simp only[zL k1,iQ.bP,al,zD,zF,zC,zI,iQ.n8,aZ,aj,au,bO,ap,zG,az,zA,zB,aa,hk,w1 ((j:Int)+1) (by omega),w1 ((j:Int)+1+k) (by omega)]
   refine⟨fun _=>False,fun _ h=>h.elim,ih k (by omega) (a:=j+1) p_ (by omega) b3 fun h3 f3=>?_⟩
   have ko:=f3.bU bO
   have ec:iY ds y.1 (countP ds (sg rs (j+1) k) 0)=if 0<countP ds (sg rs (j+1) k) 0 then min y.1.num 4097*countP ds (sg rs (j+1) k) 0 else countP ds (sg rs (j+1) k) 0:=by unfold iY;rw[zX k1]
   have pX:=Fx (a:=min y.1.num 4097) (b:=countP ds (sg rs (j+1) k) 0) (by omega) (by omega) D2.1 D2.2
   rw[ec]at last
   have l3:=fun kr UW hb=>last kr h3 UW hb (bX.cj f3)
   have Zx:=Int.mul_comm (countP ds (sg rs (j+1) k) 0) (min y.1.num 4097)
   generalize rP:countP ds (sg rs (j+1) k) 0=c at *
   have tail:(0<c->¬4096<y.1.num)->iQ.n4 (fun id=>M id\/h.next<=id) (aJ Pg [.tmp 6] R) K (fun(i:Nat) (vs:List AV) (h:AH)=>if i=0 then iQ.n1 (fun id=>M id\/h.next<=id) (aJ Pg [.tmp 6] R) (aJ Pg [.tmp 6] R) (fun _ _ _=>False) (fun v h=>R (.bW v) h) (vs.getD 0 ab) h else False) (fun v h=>R (.bW v) h) (.ptr b 0) (I (a+n)) (I acc) (I j) (.ptr vr 0) (I c) (B false) h3:=fun je=>by
    simp only[iQ.n4,al,zE,zD,zC,zH,aj,au,ko,ap,zG,az,zA,zB,aa,rL,zV,LO,Av,Zx,w1 (min y.1.num 4097*c) (by omega)]
    refine l3 _ ?_ pX
    by_cases k2:0<c
    ·rw[zX k2]
    ·have:c=0:=by omega
     subst this
     simp
   simp only[iQ.n7,ft,gt_iff_lt]
   by_cases k2:0<c
   ·simp only[zL k2,iQ.n6,cA,zS,zD,zF,zC,zI,aj,au,ko,ap,zG,az,zA,zB,aa,ft,gt_iff_lt]
    by_cases k3:4096<y.1.num
    ·simp only[zL k3,iQ.n5,bK,zV,iQ.n4,al,zD,zF,zC,zI]
     refine l3 4097 ?_ (by omega)
     rw[zX k2,show min y.1.num 4097=4097 by omega]
     omega
    ·simp only[zK k3,iQ.n5,bK,zV]
     exact tail fun _=>k3
   ·simp only[zK k2,iQ.n6,cA,zS,zE,zD,zC,zH,iQ.n5,bK,if_false]
    exact tail fun h=>absurd h k2
  ·have ec:∀c,iY ds y.1 c=match eB ds y.1.name with |some d=>d.ops |none=>1:=fun c=>by unfold iY;rw[zW k1];rfl
   rw[ec]at last
   obtain⟨cs2,rf,c20,Q2⟩:=p_.p
   simp only[zK k1,iQ.bP,al,zE,zD,zC,zH,iQ.bH,aj,au,bO,ap,zG,az,zA,zB,aa]
   refine⟨fun _=>False,fun _ h=>h.elim,tI rf Q2 p_.d yQ ?_ ?_⟩
   ·intro je
    rw[je]at last
    have e:decide ((-1:Int)>=0)=false:=rfl
    simp only[iQ.a_,iU,e,iQ.bj,cA,zS,zE,zD,zC,zH,iQ.aS,bK,if_false,iQ.n9,al]
    exact last 1 h2 rfl (by omega) bX
   ·intro q d hq lD
    rw[lD]at last
    have e:(q:Int)>=0:=by omega
    obtain⟨g1,g2⟩:=zM.1 hq
    have gA:=zP hq
    have kJ:d.name=y.1.name:=by have:=List.find?_some lD;simpa using this
    have ha0:cf y.1.name=0:=by rw[<-kJ];exact F1 d gA
    obtain⟨x,hyq,_⟩:=p_.d.at_ hq
    have ld:=hd d gA
    simp only[iQ.a_,iU,zL e,iQ.bj,cA,zS,zD,zF,zC,zI,aj,au,bO,ap,zG,az,zA,zB,aa]
    refine⟨fun _=>False,fun _ h=>h.elim,oq ?_⟩
    have aaN:(cf y.1.name==0)=true:=by simp[ha0]
    simp only[eG,aaN,iQ.aS,bK,zV,iQ.n9,al,zD,zF,zC,zI,aC,aj,au,rf,ap,zG,Q2,aa]
    refine dJ (k:=5) p_.d.t.dr jw hyq (by omega) rfl fun _=>?_
    exact last d.ops h2 rfl (by omega) bX
end
end
section
open Go.Ab
attribute [-simp] aV aE
theorem lens{bk:Bk}(ok:yE bk):bk.qs.length<=64/\bk.bs.length<=64:=by
 have key:∀l:List gK,(∀r∈l,1<=r.size)->(l.length:Int)<=aK l:=by
  intro l
  induction l with
  |nil=>intro _;simp[aK]
  |cons r l ih=>
   intro hm
   rw[uq,List.length_cons]
   have:=ih fun r hr=>hm r (List.mem_cons_of_mem _ hr)
   have:=hm r (List.mem_cons_self ..)
   omega
 have h1:=key bk.qs fun r hr=>(ok.sq r hr).1
 have h2:=key bk.bs fun r hr=>(ok.sb r hr).1
 have h3:=ok.tq
 have h4:=ok.tb
 omega
theorem Kd{bk bN:Bk}{own:Option Nat}{i:Int}{r:Row}(a:pf bk)(h:fO bk own i r=.ok bN):pf bN:=by
 have same:∀e,lF e bk=.ok bN->pf bN:=fun e h=>by
  unfold lF at h
  split at h<;>cases h
  exact a
 unfold fO at h
 split at h
 ·cases hd:fK bk bk.qs 64 r with
  |error e=>rw[hd]at h;cases h
  |ok l=>rw[hd]at h;cases h;exact a
 split at h
 ·cases hd:fK bk bk.bs 64 r with
  |error e=>rw[hd]at h;cases h
  |ok l=>rw[hd]at h;cases h;exact a
 split at h
 ·unfold qy at h
  split at h
  ·cases h
  split at h
  ·cases h
  rename_i dx
  split at h
  ·cases h
  split at h
  ·cases h
  cases h
  intro d hd
  rcases List.mem_append.1 hd with hd |hd
  ·exact a d hd
  ·have:=List.mem_singleton.1 hd
   subst this
   exact⟨by simp only;omega,fun e=>dx (by simpa using e)⟩
 split at h
 ·split at h
  ·cases h
  ·cases h;exact a
 split at h
 ·unfold uQ at h
  split at h
  ·cases h
  ·split at h
   ·cases h
   ·cases h;exact a
 split at h
 ·unfold kM at h
  split at h
  ·cases h
  split at h
  ·cases h
  split at h
  ·cases h
  split at h
  ·cases h
  split at h
  ·cases h
  split at h
  ·cases h
  rename_i wG
  cases h
  unfold kD
  cases own with
  |none=>exact a
  |some k=>
   simp only[Option.isSome_some,zH]at wG
   intro d hd
   rcases mem_modify hd with h3 |⟨e,h3,rfl⟩
   ·exact a d h3
   ·have:=a e h3
    exact⟨by simp only;omega,this.2⟩
 split at h
 ·unfold kT at h
  split at h
  ·split at h
   ·cases h
   ·exact same _ h
  ·cases h
 split at h
 ·unfold mY at h
  split at h
  ·exact same _ h
  ·cases h
 cases h
 exact a
theorem Bn{bk:Bk}(a:pf bk){k:Nat}{n:Int}:pf { bk with ds:=j7 bk.ds k n }:=by
 intro d hd
 rcases mem_modify hd with h3 |⟨e,h3,rfl⟩
 ·exact a d h3
 ·exact a e h3
theorem R6(n:Nat):∀{deep:Nat}{own:Option Nat}{i:Nat}{rows:List Row}{bk bN:Bk}(_:rows.length=n)(_:pf bk)(_:eM deep own i rows bk=.ok bN),pf bN:=by
 induction n using Nat.strongRecOn with
 |ind n ih=>
 intro deep own i rows bk bN hn a h
 cases rows with
 |nil=>rw[jI]at h;cases h;exact a
 |cons r rest=>
  rw[kc]at h
  split at h
  ·cases h
  split at h
  ·cases h
  rename_i lS h1
  split at h
  ·cases h
  rename_i fc h2
  rw[List.length_cons]at hn
  have a2:=ih _ (by rw[yA];omega) rfl (Kd a h1) h2
  refine ih _ (by rw[List.length_drop];omega) rfl ?_ h
  split
  ·exact Bn a2
  ·exact a2
section
variable {W:Nat->Prop} {QR QN:VK} {QE:Nat->VK} {QP:AV->AH->Prop} {h:AH} {b j m deep vr:Nat} {x0 x2:AV} {y:Row×AV} {own:Option Nat}
theorem S1(bO:h.obj vr=some (aP (az y) 6 87)){c:Bool}
  (uw:(c||(own.isSome&&!decide (y.1.kind=cn)&&!decide (y.1.kind=aT)))=true->aq Pg W 40 [x0,I j,I 100] h (fun t h=>QR [t] h) QP)
  (nj:(c||(own.isSome&&!decide (y.1.kind=cn)&&!decide (y.1.kind=aT)))=false->cz.ck W QR QN QE QP x0 x2 (I deep) (I (iK own)) (I j) (.ptr vr 0) h) :
  cz.cC W QR QN QE QP x0 x2 (I deep) (I (iK own)) (I j) (.ptr vr 0) (B c) h:=by
 have e4:(⟨#[114,101,112,101,97,116]⟩:ByteArray)=aT:=rfl
 have e6:(⟨#[117,115,101]⟩:ByteArray)=cn:=rfl
 have fin:∀t,t=(c||(own.isSome&&!decide (y.1.kind=cn)&&!decide (y.1.kind=aT)))->cz.cP W QR QN QE QP x0 x2 (I deep) (I (iK own)) (I j) (.ptr vr 0) (B t) h:=fun t ht=>by
  cases t with
  |true=>simp only[cz.cP,al,zD,zF,zC,zI,cz.cp];exact uw ht.symm
  |false=>simp only[cz.cP,al,zE,zD,zC,zH];exact nj ht.symm
 cases c with
 |true=>
  have:=fin true rfl
  simpa[-cz.cP,cz.cC,cz.cF,cz.cS,cz.cL,cz.cw,cz.cT] using this
 |false=>
  have fin:=fin _ rfl
  cases own with
  |none=>
   have e:decide ((-1:Int)>=0)=false:=rfl
   show cz.cC W QR QN QE QP x0 x2 (I deep) (I (-1)) (I j) (.ptr vr 0) (B false) h
   simp only[cz.cC,cA,zT,zE,zD,zC,zI,iU,e,cz.cF,zS,zH,cz.cS,bK,if_false,cz.cL,cz.cw,cz.cT]
   exact fin
  |some q=>
   have e:(q:Int)>=0:=by omega
   show cz.cC W QR QN QE QP x0 x2 (I deep) (I (q:Int)) (I j) (.ptr vr 0) (B false) h
   simp only[cz.cC,cA,zT,zE,zD,zC,zI,iU,zL e,cz.cF,zS,zF,aj,au,bO,ap,zG,az,zA,aa,e6]
   revert fin
   by_cases k1:y.1.kind=cn<;>by_cases k2:y.1.kind=aT<;>intro fin<;>simp[-cz.cP,k1,k2]at fin<;>simp[-cz.cP,k1,k2,bO,az,e4,cz.cS,cz.cL,cz.cw,cz.cT]<;>exact fin
theorem Pt(bO:h.obj vr=some (aP (az y) 6 87))(BJ:x2=I ((j:Int)+1+m))(hb:j+1+m<=200000000)(wG:deep<=33)
  (uw:∀e,lj y.1 m deep own.isSome=e->e≠0->aq Pg W 40 [x0,I j,I e] h (fun t h=>QR [t] h) QP)
  (nj:lj y.1 m deep own.isSome=0->cz.ck W QR QN QE QP x0 x2 (I deep) (I (iK own)) (I j) (.ptr vr 0) h) :
  cz.jH W QR QN QE QP x0 x2 (I deep) (I (iK own)) (I j) (.ptr vr 0) h:=by
 have WT:lj y.1 m deep own.isSome=if !mi y.1.kind||(!kX y.1.kind&&y.1.rows != 0)||decide (y.1.rows<0)||decide ((m:Int)<y.1.rows) then 100 else Cf y.1 deep own.isSome:=rfl
 rw[WT]at uw nj
 have e1:(⟨#[113,117,98,105,116,115]⟩:ByteArray)=bF:=rfl
 have e2:(⟨#[98,105,116,115]⟩:ByteArray)=cE:=rfl
 have e3:(⟨#[103,97,116,101]⟩:ByteArray)=bD:=rfl
 have fin:∀t,t=(!mi y.1.kind||(!kX y.1.kind&&y.1.rows != 0)||decide (y.1.rows<0)||decide ((m:Int)<y.1.rows))->cz.fk W QR QN QE QP x0 x2 (I deep) (I (iK own)) (I j) (.ptr vr 0) (B t) h:=fun t ht=>by
  rw[<-ht]at uw nj
  cases t with
  |true=>simp only[cz.fk,al,zD,zF,zC,zI,cz.fL];exact uw 100 rfl (by decide)
  |false=>
   simp only[zE,if_false]at uw nj
   unfold Cf at uw nj
   simp only[cz.fk,al,zE,zD,zC,zH,cz.fD,ft,gt_iff_lt]
   by_cases k1:(32:Int)<deep
   ·simp only[zL k1,cz.fu,al,zD,zF,zC,zI,cz.fM]
    exact uw 102 (by rw[zX k1]) (by decide)
   ·rw[zW k1]at uw nj
    simp only[zK k1,cz.fu,al,zE,zD,zC,zH,cz.fl,aj,au,bO,ap,zG,az,zA,aa,br,e1]
    have AM:∀d,d=(decide (0<(deep:Int))&&qG y.1.kind)->cz.cC W QR QN QE QP x0 x2 (I deep) (I (iK own)) (I j) (.ptr vr 0) (B d) h:=fun d hd=>by
     refine S1 bO ?_ ?_
     ·intro hc
      refine uw 100 ?_ (by decide)
      rw[<-hd]
      cases d with
      |true=>rfl
      |false=>simp only[Bool.false_or]at hc;rw[hc];rfl
     ·intro hc
      refine nj ?_
      rw[<-hd]
      simp only[Bool.or_eq_false_iff]at hc
      rw[hc.1,hc.2];rfl
    have AM:=AM _ rfl
    unfold qG at AM
    revert AM
    by_cases k2:0<deep<;>by_cases k3:y.1.kind=bF<;>by_cases k4:y.1.kind=cE<;>by_cases k5:y.1.kind=bD<;>intro AM <;>
     simp[-cz.cC,k2,k3,k4,k5]at AM <;>
     simp[-cz.cC,k2,k3,k4,k5,cz.eC,cz.dZ,cz.dS,cz.dn,cz.cU,cz.c9,cz.cB,bO,az,e2,e3]<;>exact AM
 have fin:=fin _ rfl
 have eb:IntKind.i64.wrap ((j:Int)+1+m-j)=(m:Int)+1:=by
  have:(j:Int)+1+m-j=m+1:=by omega
  rw[this];exact aR (by omega) (by omega)
 have Vv:IntKind.i64.wrap (m:Int)=m:=aR (by omega) (by omega)
 simp only[cz.jH,aj,au,bO,ap,zG,az,zA,aa]
 refine⟨fun _=>False,fun _ h=>h.elim,R9 ?_⟩
 cases kn:mi y.1.kind with
 |false=>
  simp[-cz.fk,kn]at fin
  simpa[-cz.fk,cz.lc,cz.gI,cz.jd,cz.fC,cz.fZ,cz.gf,cz.e_,cz.fQ] using fin
 |true=>
  simp only[dA,zS,cz.lc,cA,zE,zT,zD,zF,zC,zI,aj,au,bO,ap,zG,az,zA,zB,aa]
  refine⟨fun _=>False,fun _ h=>h.elim,FT ?_⟩
  subst BJ
  cases bo:kX y.1.kind<;>cases k0:(y.1.rows != 0)<;>by_cases k1:y.1.rows<0<;>by_cases k2:(m:Int)<y.1.rows <;>
   simp[-cz.fk,kn,bo,k0,k1,k2]at fin <;>
   simp[-cz.fk,bO,az,k0,k1,k2,eb,Vv,cz.gI,cz.jd,cz.fC,cz.fZ,cz.gf,cz.e_,cz.fQ]<;>exact fin
end
end
section
open Go.Ab
attribute [-simp] aV aE
theorem RT.QT{h h':AH}{xr:AV}{rs:List (Row×AV)}{n0:Nat}(a:RT h xr rs)(f:Fr h h' (TW TB n0 h)):RT h' xr rs:=⟨a.r.pM f rfl,fun y hy=>⟨(a.a y hy).1.pM f rfl,(a.a y hy).2⟩,a.n⟩
theorem RB.ct{h:AH}{n0 b:Nat}{xr:AV}{bk:Bk}{pl er:Int}{xq xb xd:AV}{yl:List (bS×AV)}{rs:List (Row×AV)}(rb:RB n0 h b xr bk pl er xq xb xd yl)(rt:RT h xr rs):MC h b xr xd rs bk.ds yl:=⟨⟨_,rb.b,rfl,rfl⟩,rt,rb.d⟩
section
variable {b:Nat} {xr:AV} {rs:List (Row×AV)} {n0:Nat} {pl er:Int}
theorem Nn(n:Nat):∀{h:AH}{M:Nat->Prop}{R:AE->AH->Prop}{a deep:Nat}{own:Option Nat}{bk:Bk}{xq xb xd:AV}{yl:List (bS×AV)}
  (_:RB n0 h b xr bk pl er xq xb xd yl) (_:RT h xr rs) (_:ms bk) (_:pf bk) (_:bk.ds.length<=a) (_:∀k,own=some k->k+1=bk.ds.length/\0<deep) (_:a+n<=rs.length) (_:deep<=33) (_:∀id,TW TB n0 h id->M id)
  (_:∀fP e h',eM deep own a (sg rs a n) bk=.error (fP,e)->BE h' b fP e->Fr h h' (TW TB n0 h)->R (.ret (B false)) h')
  (_:∀bN qO qQ qP l7 h',eM deep own a (sg rs a n) bk=.ok bN->RB n0 h' b xr bN pl er qO qQ qP l7->Fr h h' (TW TB n0 h)->R (.ret (B true)) h'),
  aA Pg 15 [.ptr b 0,I a,I (a+n),I deep,I (iK own)] h M R:=by
 induction n using Nat.strongRecOn with
 |ind n ih=>
 intro h M R a deep own kL xq0 xb0 xd0 yl0 rb0 sE bf0 VQ aaE Qt hn QD hM he hk
 apply cz.aM
 unfold cz.nL cz.jW cz.oV
 have hlen:=sE.n
 have hL:∀r∈rs.map (·.1),r.args.length<=100000000:=fun r hr=>by
  obtain⟨z,hz,rfl⟩:=List.mem_map.1 hr
  exact(sE.a z hz).2
 refine cy (ι:=Nat×Bk×AV×AV×AV×List (bS×AV)) (fun i v h'=>v=[.ptr b 0,I (a+n),I deep,I (iK own),I (a+(n-i.1:Nat):Int)]/\i.1<=n/\RB n0 h' b xr i.2.1 pl er i.2.2.1 i.2.2.2.1 i.2.2.2.2.1 i.2.2.2.2.2/\ms i.2.1/\pf i.2.1/\i.2.1.ds.length<=a+(n-i.1)/\(∀k,own=some k->k+1=i.2.1.ds.length/\0<deep) /\
  eM deep own (a+(n-i.1)) (sg rs (a+(n-i.1)) i.1) i.2.1=eM deep own a (sg rs a n) kL/\Fr h h' (TW TB n0 h)) (fun i=>i.1) (n,kL,xq0,xb0,xd0,yl0) ⟨by simp,zU _,rb0,bf0,VQ,by simpa using aaE,Qt,by simp,TW.aU Fr.refl⟩ ?_
 rintro K ⟨m,bk,xq,xb,xd,yl⟩ v h1 ⟨rfl,hm,rb,bf,bd,H6,ho,bq,f1⟩ step
 simp only at hm rb bf bd H6 ho bq step
 have oS:=sE.QT f1
 unfold cz.cG
 simp only[zN,zO,cz.pr,bc]
 cases m with
 |zero=>
  have e1:decide ((a:Int)+(n-0:Nat)<a+n)=false:=by simp
  rw[vq,jI]at bq
  simp only[e1,cz.mh,al,zE,zD,zC,zH,zV,cz.n1]
  simpa using hk bk xq xb xd yl h1 bq.symm rb f1
 |succ m=>
  obtain⟨j,hj⟩:∃j,j=a+(n-(m+1)):=⟨_,rfl⟩
  have ej:(a:Int)+(n-(m+1):Nat)=(j:Int):=by omega
  have e1:decide ((j:Int)<a+n)=true:=by simp;omega
  rw[<-hj]at bq H6
  obtain⟨y,hy⟩:∃y,rs[j]?=some y:=⟨rs[j]'(by omega),zJ _⟩
  rw[xj hy,kc,qX (by omega)]at bq
  have zt:∀id,h1.next<=id->(M id\/h.next<=id):=fun id hid=>.inr (zR f1.next hid)
  have tS:∀{h2:AH},Fr h h2 (TW TB n0 h)->∀id,TW TB n0 h2 id->(M id\/h.next<=id):=fun f id hid=>(TW.back f hid).elim (fun h=>.inl (hM id h)) .inr
  have w1:∀x:Int,0<=x/\x<=1000000000->IntKind.i64.wrap x=x:=fun x hx=>aR (by omega) (by omega)
  simp only[e1,ej,cz.mh,al,zD,zF,zC,zI,cz.gQ,aC,aj,au,rb.b,ap,zG,zA,aa]
  refine gD oS.r dT (oS.one hy) hy rfl rfl zt fun vr h2 f2 _ jV=>?_
  have bX:=TW.trans f1 (TW.aU f2)
  have Xz:=rb.ba f2
  have q0:=sE.QT bX
  have Uv:=q0.a y (zP hy)
  have pY:=lens bf.i.ok
  refine Pt (m:=m) jV (by rw[show(a:Int)+n=(j:Int)+1+m by omega]) (by omega) QD ?_ ?_
  ·intro e hf h0
   rw[zX (by rw[hf];exact h0),hf]at bq
   refine⟨TW TB n0 h2,fun id hs _=>tS bX id hs,CA Xz.bn q0 hy (fun _ h=>h) fun h3 be f3=>?_⟩
   simpa using he _ _ h3 bq.symm be (TW.trans bX f3)
  intro hf
  rw[zW (by simpa using hf)]at bq
  obtain⟨_,Lt,b0,b1,bdp,hdc,_⟩:=u6 hf
  obtain⟨k,pH⟩:∃k:Nat,y.1.rows=k:=⟨y.1.rows.toNat,by omega⟩
  have lQ:k<=m:=by omega
  rw[pH,zY,jR lQ,jS]at bq
  simp only[cz.ck]
  refine⟨TW TB n0 h2,fun id hs _=>tS bX id hs,Rt Xz q0 hy bf ⟨pY.1,pY.2,by omega⟩ bd (fun q hq=>by have:=(ho q hq).1;omega) (by omega) (fun _ h=>h) ?_ ?_⟩
  ·intro e h3 hr be f3
   rw[hr]at bq
   simp only[dA,zT,cz.b5,al,zD,zF,zC,zI,cz.bR]
   simpa using he y.1.place e h3 bq.symm be (TW.trans bX f3)
  ·intro lS xq1 xb1 xd1 EE h3 hr wq f3
   rw[hr]at bq
   simp only at bq
   have eO:=TW.trans bX f3
   obtain⟨Ir,x1,_,g2,Ie⟩:=oT bf.i Uv.2 hr
   obtain⟨m1,Yu⟩:=Dw bf Uv.2 hr
   have Yx:=Kd bd hr
   have ko:h3.obj vr=some (aP (az y) 6 87):=TW.obj f3 jV rfl
   have wm:=sE.QT eO
   have lC:∀q,(if y.1.kind=bD then some bk.ds.length else own)=some q->q+1=lS.ds.length/\0<deep+1:=fun q hq=>by
    by_cases kg:y.1.kind=bD
    ·rw[zX kg]at hq
     cases hq
     rw[Ie kg]
     exact⟨by simp,by omega⟩
    ·rw[zW kg]at hq
     exact⟨by rw[g2 kg];exact(ho q hq).1,by omega⟩
   have FX:lS.ds.length<=j+1:=by
    by_cases kg:y.1.kind=bD
    ·rw[Ie kg];simp;omega
    ·rw[g2 kg];omega
   have last:∀lh S9 Ta S_ PI h7,RB n0 h7 b xr lh pl er S9 Ta S_ PI->ms lh->pf lh->lh.ds.length=lS.ds.length->eM deep own (j+1+k) (sg rs (j+1+k) (m-k)) lh=eM deep own a (sg rs a n) kL->Fr h h7 (TW TB n0 h) ->
     cz.n2 (fun id=>M id\/h.next<=id) (aJ Pg [.tmp 10] R) K (fun(i:Nat) (vs:List AV) (h:AH)=>if i=0 then cz.n1 (fun id=>M id\/h.next<=id) (aJ Pg [.tmp 10] R) (aJ Pg [.tmp 10] R) (fun _ _ _=>False) (fun v h=>R (.bW v) h) h else False) (fun v h=>R (.bW v) h) (.ptr b 0) (I (a+n)) (I deep) (I (iK own)) (I ((j:Int)+1+k)) h7:=fun lh S9 Ta S_ PI h7 HF Q4 bd7 Qw X7 Ck=>by
    simp only[cz.n2]
    have e8:j+1+k=a+(n-(m-k)):=by omega
    have e9:(j:Int)+1+k=a+(n-(m-k):Nat):=by omega
    rw[e8]at X7
    refine step (m-k,lh,S9,Ta,S_,PI) _ h7 (by simp only;omega) ⟨by rw[<-e9],by simp only;omega,HF,Q4,bd7,by simp only;omega,fun q hq=>?_,X7,Ck⟩
    obtain⟨z1,z2⟩:=ho q hq
    have kg:y.1.kind≠bD:=fun e=>by
     have:=hdc (by omega)
     unfold qG at this
     rw[e]at this
     simp at this
    exact⟨by simp only;rw[Qw,g2 kg];exact z1,z2⟩
   have eg:(⟨#[103,97,116,101]⟩:ByteArray)=bD:=rfl
   have after:∀inner fc PJ PN PL Hp h6,inner=(if y.1.kind=bD then some bk.ds.length else own)->eM (deep+1) inner (j+1) (sg rs (j+1) k) lS=.ok fc->RB n0 h6 b xr fc pl er PJ PN PL Hp->Fr h3 h6 (TW TB n0 h3) ->
     cz.n6 (fun id=>M id\/h.next<=id) (aJ Pg [.tmp 10] R) K (fun(i:Nat) (vs:List AV) (h:AH)=>if i=0 then cz.n1 (fun id=>M id\/h.next<=id) (aJ Pg [.tmp 10] R) (aJ Pg [.tmp 10] R) (fun _ _ _=>False) (fun v h=>R (.bW v) h) h else False) (fun v h=>R (.bW v) h) (.ptr b 0) (I (a+n)) (I deep) (I (iK own)) (I j) (.ptr vr 0) (I ((j:Int)+1+k)) (I (iK inner)) h6:=fun inner fc PJ PN PL Hp h6 uU oZ Kg f36=>by
    subst uU
    have sW:=TW.trans eO f36
    obtain⟨Is,m2,l2,_⟩:=vJ hL k (i:=j+1) (deep:=deep+1) (by simp;omega) Yu lC (by rw[<-po];exact oZ)
    have l2:=l2 (by omega)
    have Yw:=R6 _ rfl Yx oZ
    have s2:pQ (sg rs (j+1) k):=(qp _ rfl (fun r hr=>by
     unfold sg at hr
     obtain⟨z,hz,rfl⟩:=List.mem_map.1 hr
     exact(wm.a z (List.mem_of_mem_drop (List.mem_of_mem_take hz))).2) Ir oZ).2.2
    rw[oZ]at bq
    simp only at bq
    have Bx:h6.obj vr=some (aP (az y) 6 87):=TW.obj f36 ko rfl
    simp only[cz.n6,aj,au,Bx,ap,zG,az,zA,zB,aa,br,eg]
    by_cases kg:y.1.kind=bD
    ·simp only[zX kg]at bq
     have Vw:=Ie kg
     have HX:bk.ds.length<fc.ds.length:=by rw[l2,Vw];simp
     have rO:fc.ds[bk.ds.length]?=some fc.ds[bk.ds.length]:=zJ HX
     generalize fc.ds[bk.ds.length]=d2 at rO
     obtain⟨id,x1',cells,c2,c3,kJ,c4⟩:=Kg.Ap rO (f:=fun d=>{ d with whole:=true }) rfl (o:=6) (v:=B false) (by omega) (fun x=>by simp[la])
     rw[zX kg]
     have eo:iK (some bk.ds.length)=(bk.ds.length:Int):=rfl
     rw[eo]
     subst x1'
     simp only[zL kg,cz.n5,al,zD,zF,zC,zI,cz.n4,aC,aj,au,Kg.b,ap,zG,zA,zB,aa,kN,zY,aE,c2,ns,bz]
     refine⟨⟨by omega,by omega⟩,⟨tS sW id ⟨kJ,_,c2,rfl,rfl⟩,rfl,rfl,by omega⟩,?_⟩
     have f7:Fr h6 (h6.put id (bk.ds.length*7+6) [B false]) (·=id):=Fr.refl.put (.inl rfl)
     have o7:=dz (off:=bk.ds.length*7+6) (cs:=[B false]) c2
     generalize h6.put id (bk.ds.length*7+6) [B false]=h7 at *
     obtain⟨yl7,HF,g7⟩:=c4 h7 o7 f7
     have Ck:=TW.trans sW g7
     have QG:(fc.ds.modify bk.ds.length fun d=>{ d with whole:=true })[bk.ds.length]?=some { d2 with whole:=true }:=by rw[getElem?_modify',zX rfl,rO];rfl
     obtain⟨Q4,_⟩:=Is.modify (k:=bk.ds.length) (f:=fun d=>{ d with whole:=true }) (fun _=>rfl) (fun d hd=>(Is.i.ok.ds d hd).2)
     simp only[cz.n3]
     refine⟨fun _=>b,fun _ _=>by rw[HF.b];simp,?_⟩
     simp only[aC,aj,au,HF.b,ap,zG,zA,zB,aa,zH,aZ,w1 ((j:Int)+1) (by omega)]
     refine⟨fun _=>False,fun _ h=>h.elim,L4 (fun d hd=>(Q4.i.ok.ds d hd).2.2.2) (fun d hd=>(Q4.a d hd).1) (by simp only[List.length_modify];omega) k (a:=j+1) (HF.ct (sE.QT Ck)) (by omega) s2 fun h8 f8=>?_⟩
     have Vu:=wV (f:=fun d=>{ d with whole:=true }) (fun _=>rfl) (fun _=>rfl) (ds:=fc.ds) (k:=bk.ds.length) s2 0
     simp only[Vu]
     have LM:=TW.trans Ck (TW.aU f8)
     have rb8:=HF.ba f8
     have D2:=rm (ds:=fc.ds) (fun d hd=>(Is.i.ok.ds d hd).2.2.2) s2 0 (by omega)
     generalize hc:countP fc.ds (sg rs (j+1) k) 0=c at *
     obtain⟨mm,Xu,nn,VE,c3',aaw,c4'⟩:=rb8.Ap QG (f:=fun d=>{ d with ops:=c }) rfl (o:=5) (v:=I c) (by omega) (fun x=>by simp[la])
     have hid:id=mm:=by injection Xu
     subst hid
     simp only[List.length_modify]at Xu
     simp only[kN,zY,aj,zG,aE,VE,dt,bz]
     refine⟨⟨by omega,by omega⟩,⟨tS LM id ⟨aaw,_,VE,rfl,rfl⟩,rfl,rfl,by omega⟩,?_⟩
     have f9:Fr h8 (h8.put id (bk.ds.length*7+5) [I c]) (·=id):=Fr.refl.put (.inl rfl)
     have o9:=dz (off:=bk.ds.length*7+5) (cs:=[I c]) VE
     generalize h8.put id (bk.ds.length*7+5) [I c]=h9 at *
     obtain⟨yl9,TA,g9⟩:=c4' h9 o9 f9
     have e9:({ fc with ds:=(fc.ds.modify bk.ds.length fun d=>{ d with whole:=true }).modify bk.ds.length fun d=>{ d with ops:=c } }:Bk)={ fc with ds:=j7 fc.ds bk.ds.length c }:=by rw[xk]
     simp only at TA
     rw[e9]at TA
     obtain⟨bf9,_⟩:=Is.modify (k:=bk.ds.length) (f:=fun d=>{ d with whole:=true,ops:=c }) (fun _=>rfl) (fun d hd=>by have:=Is.i.ok.ds d hd;simp only;omega)
     exact last _ _ _ _ _ h9 TA bf9 (Bn Yw) (by simp[j7,l2]) bq (TW.trans LM g9)
    ·simp only[zW kg]at bq
     simp only[zK kg,cz.n5,al,zE,zD,zC,zH]
     exact last fc _ _ _ _ h6 Kg Is Yw l2 bq sW
   simp only[dA,zS,cz.b5,al,zE,zD,zC,zH,cz.bV,aZ,w1 ((j:Int)+1) (by omega),aj,au,ko,ap,zG,az,zA,zB,aa,pH,w1 ((j:Int)+1+k) (by omega),cz.bP,cz.bH,br,eg]
   have go:∀inner,inner=(if y.1.kind=bD then some bk.ds.length else own)->cz.bj (fun id=>M id\/h.next<=id) (aJ Pg [.tmp 10] R) K (fun(i:Nat) (vs:List AV) (h:AH)=>if i=0 then cz.n1 (fun id=>M id\/h.next<=id) (aJ Pg [.tmp 10] R) (aJ Pg [.tmp 10] R) (fun _ _ _=>False) (fun v h=>R (.bW v) h) h else False) (fun v h=>R (.bW v) h) (.ptr b 0) (I (a+n)) (I deep) (I (iK own)) (I j) (.ptr vr 0) (I ((j:Int)+1+k)) (I (iK inner)) h3:=fun inner uU=>by
    simp only[cz.bj,aj,au,ko,ap,zG,az,zA,zB,aa]
    refine⟨fun _=>False,fun _ h=>h.elim,FT ?_⟩
    cases hb:kX y.1.kind with
    |true=>
     simp only[cz.aS,cA,zS,zD,zF,zC,zI,aZ,w1 ((j:Int)+1) (by omega),w1 ((deep:Int)+1) (by omega)]
     refine⟨TW TB n0 h3,fun id hs _=>tS eO id hs,ih k (by omega) (a:=j+1) (deep:=deep+1) (own:=inner) wq wm Yu Yx FX (by rw[uU];exact lC) (by omega) (by omega) (fun _ h=>h) ?_ ?_⟩
     ·intro fP e h6 oZ be f6
      rw[uU]at oZ
      rw[oZ]at bq
      simp only[dA,zT,cz.n9,bK,zV,cz.n8,al,zD,zF,zC,zI,cz.n7]
      simpa using he fP e h6 bq.symm be (TW.trans eO f6)
     ·intro fc PJ PN PL Hp h6 oZ Kg f6
      simp only[dA,zS,cz.n9,bK,zV,cz.n8,al,zE,zD,zC,zH]
      exact after inner fc PJ PN PL Hp h6 uU oZ Kg f6
    |false=>
     have Lp:k=0:=by
      rcases Lt with Lt |Lt
      ·rw[hb]at Lt;cases Lt
      ·omega
     simp only[cz.aS,cA,zS,zE,zD,zC,zH,cz.n9,bK,if_false,cz.n8,al]
     exact after inner lS xq1 xb1 xd1 EE h3 uU (by rw[Lp,vq,jI]) wq (TW.aU Fr.refl)
   by_cases kg:y.1.kind=bD
   ·have WS:lS.ds.length=bk.ds.length+1:=by rw[Ie kg];simp
    have abL:=wq.d.len
    have w4:IntKind.i64.wrap ((EE.length:Int)-1)=iK (some bk.ds.length):=by
     have:(EE.length:Int)-1=bk.ds.length:=by omega
     rw[this];exact w1 _ (by omega)
    simp only[zL kg,cz.a_,al,zD,zF,zC,zI,aC,aj,au,wq.b,ap,zG,zA,zB,aa,wq.d.t.dr.len.1,wq.d.t.dr.len.2,zH,lW,w4]
    exact go (some bk.ds.length) (by rw[zX kg])
   ·simp only[zK kg,cz.a_,al,zE,zD,zC,zH]
    exact go own (by rw[zW kg])
end
end
end Go.Proofs.YtjehibknlmehmaaGreat
