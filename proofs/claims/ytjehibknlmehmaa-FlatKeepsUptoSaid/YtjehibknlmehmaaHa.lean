/- The document looks as the plain form says. No condition. -/
import Derived.Test.YtjehibknlmehmaaGr
import Derived.Test.YtjehibknlmehmaaFb
set_option maxRecDepth 100000
namespace Go.Proofs.Ytjehibknlmehmaa
section
open Go.Ab
attribute [-simp] aX aF
def jH(r:fZ):List AV:=[Sb r.name,I r.from_,I r.size]
theorem jk(r:fZ):(jH r).length=3:=rfl
def ky(y:bY×AV):List AV:=[Sb y.1.name,y.2,I y.1.from_,I y.1.GZ,I y.1.depth,I y.1.ops,B (!y.1.whole)]
theorem iY(y:bY×AV):(ky y).length=7:=rfl
theorem uT{y:bY×AV}(h:cG y.2=true):(ky y).all cG=true:=by
 show(true&&(cG y.2&&(true&&(true&&(true&&(true&&(true&&true)))))))=true
 rw[h];rfl
def TB(t:TypeId):Bool:=t==54||t==85||t==78
abbrev EQ(xr xq xb xd:AV)(pl er:Int)(many:Bool)(xo xp:AV):AO:=aN [xr,xq,xb,xd,I pl,I er,B many,xo,xp] 9 54
structure DT (h:AH) (xd:AV) (ds:List bY) (yl:List (bY×AV)):Prop where
 t:bN ky 7 78 h xd yl
 e:yl.map (·.1)=ds
 p:∀y∈yl,bN hZ 1 9 h y.2 y.1.params
structure RB (n0:Nat) (h:AH) (b:Nat) (xr:AV) (bk:Bk) (pl er:Int) (xq xb xd:AV) (yl:List (bY×AV)):Prop where
 n:n0<=b/\cP (n0<=·) xq/\cP (n0<=·) xb/\cP (n0<=·) xd
 b:h.obj b=some (EQ xr xq xb xd pl er false aW aW)
 q:bN jH 3 85 h xq bk.qs
 s:bN jH 3 85 h xb bk.bs
 d:DT h xd bk.ds yl
 sep:Sep xq xb
theorem DT.aU{h h':AH}{xd:AV}{ds:List bY}{yl:List (bY×AV)}(a:DT h xd ds yl)(f:Fr h h' fun _=>False):DT h' xd ds yl:=⟨a.t.aO f fun _ _ h=>h,a.e,fun y hy=>(a.p y hy).aO f fun _ _ h=>h⟩
theorem RB.aU{n0:Nat}{h h':AH}{b:Nat}{xr:AV}{bk:Bk}{pl er:Int}{xq xb xd:AV}{yl:List (bY×AV)}(a:RB n0 h b xr bk pl er xq xb xd yl)(f:Fr h h' fun _=>False):RB n0 h' b xr bk pl er xq xb xd yl:=
 ⟨a.n,f.bM a.b,a.q.aO f fun _ _ h=>h,a.s.aO f fun _ _ h=>h,a.d.aU f,a.sep⟩
theorem DT.at_{h:AH}{xd:AV}{ds:List bY}{yl:List (bY×AV)}(a:DT h xd ds yl){i:Nat}{d:bY}(hd:ds[i]?=some d):∃x,yl[i]?=some (d,x)/\bN hZ 1 9 h x d.params:=by
 rw[<-a.e,List.getElem?_map]at hd
 cases hy:yl[i]? with
 |none=>rw[hy]at hd;cases hd
 |some y=>
  rw[hy]at hd
  cases hd
  exact⟨y.2,rfl,a.p y (zP hy)⟩
theorem DT.len{h:AH}{xd:AV}{ds:List bY}{yl:List (bY×AV)}(a:DT h xd ds yl):yl.length=ds.length:=by
 have:=congrArg List.length a.e
 simpa using this
section
variable {h:AH} {M:Nat->Prop} {R:AE->AH->Prop}
theorem tl(r:fZ)(l:List fZ):aK (r::l)=r.size+aK l:=by simp[aK]
theorem uv{x:AV}{l:List fZ}(hx:cH jH 3 85 h x l)(hs:∀r∈l,0<=r.size)(ht:aK l<=64)(hl:l.length<=100000000)(hR:R (.ret (I (aK l))) h):aE Pg 18 [x] h M R:=by
 apply ur.aM
 unfold ur.n9 ur.n8 ur.n7 ur.n6
 refine bU (ι:=Nat×Int) (fun i v h'=>v=[x,I i.2,I i.1]/\i.1<=l.length/\h'=h/\0<=i.2/\i.2+aK (l.drop i.1)=aK l) (fun i=>l.length-i.1) (0,0) ⟨rfl,by omega,rfl,by simp,by simp⟩ ?_
 rintro K ⟨i,n⟩ v h' ⟨rfl,hi,rfl,hn,he⟩ step
 simp only at hi hn he
 simp only[ur.cB,zN,zO,ur.n5,hx.len.1,hx.len.2,zH,aZ]
 by_cases aR:i<l.length
 ·have eh:(i:Int)<l.length:=by omega
  have g1:l[i]?=some l[i]:=zJ aR
  have w1:IntKind.i64.wrap ((i:Int)+1)=((i+1:Nat):Int):=by rw[aS (by omega) (by omega)];simp
  rw[List.drop_eq_getElem_cons aR,tl]at he
  have h0:=hs _ (List.getElem_mem aR)
  have Bg:0<=aK (l.drop (i+1)):=by
   have key:∀m:List fZ,(∀r∈m,0<=r.size)->0<=aK m:=by
    intro m
    induction m with
    |nil=>intro _;simp[aK]
    |cons r m ih=>
     intro hm
     rw[tl]
     have:=ih fun r hr=>hm r (List.mem_cons_of_mem _ hr)
     have:=hm r (List.mem_cons_self ..)
     omega
   exact key _ fun r hr=>hs r (List.mem_of_mem_drop hr)
  generalize l[i]=g at *
  have w2:IntKind.i64.wrap (n+g.size)=n+g.size:=aS (by omega) (by omega)
  simp only[zL eh,ur.n4,aj,zD,zF,zC,zI,ur.n3]
  refine dn (k:=2) hx jk g1 (by omega) rfl fun _=>?_
  simp only[aT,w2,ur.n2,w1]
  exact step (i+1,n+g.size) _ _ (by simp only;omega) ⟨rfl,by simp only;omega,rfl,by simp only;omega,by simp only;omega⟩
 ·have dA:¬(i:Int)<l.length:=by omega
  rw[List.drop_of_length_le (by omega)]at he
  have e:n=aK l:=by simp[aK]at he ⊢;omega
  subst e
  simp only[zK dA,ur.n4,aj,zE,zD,zC,zH,zV,ur.n1,zN]
  simpa using hR
theorem rk{x:AV}{l:List fZ}{n:ByteArray}(hx:cH jH 3 85 h x l)(hl:l.length<=100000000)(h1:eF l n=none->R (.ret (I (-1))) h)(h2:∀(i:Nat) g,l[i]?=some g->eF l n=some g->R (.ret (I i)) h):aE Pg 35 [x,Sb n] h M R:=by
 apply sf.aM
 unfold sf.aQ sf.n9 sf.n8
 refine bU (ι:=Nat) (fun i v h'=>v=[x,Sb n,I i]/\i<=l.length/\h'=h/\eF (l.drop i) n=eF l n) (fun i=>l.length-i) 0 ⟨rfl,by omega,rfl,by simp⟩ ?_
 rintro K i v h' ⟨rfl,hi,rfl,he⟩ step
 simp only[sf.cB,zN,zO,sf.n7,hx.len.1,hx.len.2,zH,aZ]
 by_cases aR:i<l.length
 ·have eh:(i:Int)<l.length:=by omega
  have g1:l[i]?=some l[i]:=zJ aR
  have w1:IntKind.i64.wrap ((i:Int)+1)=((i+1:Nat):Int):=by rw[aS (by omega) (by omega)];simp
  rw[List.drop_eq_getElem_cons aR]at he
  unfold eF at he
  rw[List.find?_cons]at he
  generalize l[i]=g at *
  simp only[zL eh,sf.n6,aj,zD,zF,zC,zI,sf.n5]
  refine dn (k:=0) hx jk g1 (by omega) rfl fun _=>?_
  simp only[bB]
  by_cases e:g.name=n
  ·rw[zL e]at he
   simp only[zL e,sf.n4,aj,zD,zF,zC,zI,sf.n3]
   simpa using h2 i g g1 he.symm
  ·rw[zK e]at he
   simp only[zK e,sf.n4,aj,zE,zD,zC,zH,sf.n2,aT,w1]
   exact step (i+1) _ _ (by omega) ⟨rfl,by omega,rfl,he⟩
 ·have dA:¬(i:Int)<l.length:=by omega
  rw[List.drop_of_length_le (by omega)]at he
  simp only[zK dA,sf.n6,aj,zE,zD,zC,zH,zV,sf.n1]
  simpa using h1 he.symm
theorem sH{b:Nat}{cs:List AV}{xd:AV}{ds:List bY}{yl:List (bY×AV)}{n:ByteArray}(hb:h.obj b=some (aN cs 9 54))(c3:cs[3]?=some xd)(hx:DT h xd ds yl)(hl:ds.length<=100000000)(h1:eB ds n=none->R (.ret (I (-1))) h)(h2:∀(i:Nat) d,ds[i]?=some d->eB ds n=some d->R (.ret (I i)) h):aE Pg 53 [.ptr b 0,Sb n] h M R:=by
 apply se.aM
 unfold se.aQ se.n9 se.n8
 have hlen:=hx.len
 refine bU (ι:=Nat) (fun i v h'=>v=[.ptr b 0,Sb n,I i]/\i<=ds.length/\h'=h/\eB (ds.drop i) n=eB ds n) (fun i=>ds.length-i) 0 ⟨rfl,by omega,rfl,by simp⟩ ?_
 rintro K i v h' ⟨rfl,hi,rfl,he⟩ step
 simp only[se.cB,zN,zO,se.n7,aD,ag,au,hb,ao,zG,c3,ab,hx.t.cF.len.1,hx.t.cF.len.2,zH,aZ,hlen]
 by_cases aR:i<ds.length
 ·have eh:(i:Int)<ds.length:=by omega
  have g1:ds[i]?=some ds[i]:=zJ aR
  have w1:IntKind.i64.wrap ((i:Int)+1)=((i+1:Nat):Int):=by rw[aS (by omega) (by omega)];simp
  rw[List.drop_eq_getElem_cons aR]at he
  unfold eB at he
  rw[List.find?_cons]at he
  generalize ds[i]=d at *
  obtain⟨x,g2,_⟩:=hx.at_ g1
  simp only[zL eh,se.n6,aj,zD,zF,zC,zI,se.n5,aD,ag,au,hb,ao,zG,c3,ab]
  refine dn (k:=0) hx.t.cF iY g2 (by omega) rfl fun _=>?_
  simp only[bB]
  by_cases e:d.name=n
  ·rw[zL e]at he
   simp only[zL e,se.n4,aj,zD,zF,zC,zI,se.n3]
   simpa using h2 i d g1 he.symm
  ·rw[zK e]at he
   simp only[zK e,se.n4,aj,zE,zD,zC,zH,se.n2,aT,w1]
   exact step (i+1) _ _ (by omega) ⟨rfl,by omega,rfl,he⟩
 ·have dA:¬(i:Int)<ds.length:=by omega
  rw[List.drop_of_length_le (by omega)]at he
  simp only[zK dA,se.n6,aj,zE,zD,zC,zH,zV,se.n1]
  simpa using h1 he.symm
theorem EI{x:AV}{l:List ByteArray}{q:ByteArray}(hx:cH hZ 1 9 h x l)(hl:l.length<=100000000)(hR:R (.ret (I (match fQ q l 0 with |some j=>j |none=>-1))) h):aE Pg 82 [x,Sb q] h M R:=by
 apply r9.aM
 unfold r9.aQ r9.n9 r9.n8
 refine bU (ι:=Nat) (fun i v h'=>v=[x,Sb q,I i]/\i<=l.length/\h'=h/\fQ q (l.drop i) i=fQ q l 0) (fun i=>l.length-i) 0 ⟨rfl,by omega,rfl,rfl⟩ ?_
 rintro K i v h' ⟨rfl,hi,rfl,he⟩ step
 simp only[r9.cB,zN,zO,r9.n7,hx.len.1,hx.len.2,zH,aZ]
 by_cases aR:i<l.length
 ·have eh:(i:Int)<l.length:=by omega
  have g1:l[i]?=some l[i]:=zJ aR
  have w1:IntKind.i64.wrap ((i:Int)+1)=((i+1:Nat):Int):=by rw[aS (by omega) (by omega)];simp
  rw[List.drop_eq_getElem_cons aR]at he
  simp only[fQ]at he
  generalize l[i]=y at *
  simp only[zL eh,r9.n6,aj,zD,zF,zC,zI,r9.n5]
  refine gZ hx (fun _=>rfl) g1 rfl fun _=>?_
  simp only[bB]
  by_cases e:q=y
  ·rw[zX e]at he
   rw[<-he]at hR
   simp only[zL e.symm,r9.n4,aj,zD,zF,zC,zI,r9.n3]
   simpa using hR
  ·rw[zW e]at he
   simp only[zK (show ¬y=q from fun h=>e h.symm),r9.n4,aj,zE,zD,zC,zH,r9.n2,aT,w1]
   exact step (i+1) _ _ (by omega) ⟨rfl,by omega,rfl,he⟩
 ·have dA:¬(i:Int)<l.length:=by omega
  rw[List.drop_of_length_le (by omega)]at he
  rw[<-he]at hR
  simp only[zK dA,r9.n6,aj,zE,zD,zC,zH,zV,r9.n1]
  simpa[fQ] using hR
theorem Fj{k:ByteArray}(hR:R (.ret (B (kl k))) h):aE Pg 28 [Sb k] h M R:=by
 apply YX.aM
 unfold kl at hR
 by_cases k1:k=bJ
 ·subst k1;simpa[bJ] using hR
 ·by_cases k2:k=bj
  ·subst k2;simpa[bJ,bj] using hR
  ·by_cases k3:k=fK
   ·subst k3;simpa[bJ,bj,fK] using hR
   ·simp[k1,k2,k3]at hR
    unfold bJ at k1;unfold bj at k2;unfold fK at k3
    simpa[k1,k2,k3] using hR
theorem RH{k:ByteArray}(hR:R (.ret (B (lE k))) h):aE Pg 27 [Sb k] h M R:=by
 apply YY.aM
 unfold lE kl at hR
 by_cases k1:k=ch
 ·subst k1;simpa[ch] using hR
 by_cases k2:k=cZ
 ·subst k2;simpa[ch,cZ] using hR
 by_cases k6:k=bJ
 ·subst k6;simpa[ch,cZ,bJ,cQ,cD,dz] using hR
 by_cases k7:k=bj
 ·subst k7;simpa[ch,cZ,bJ,bj,cQ,cD,dz] using hR
 by_cases k8:k=fK
 ·subst k8;simpa[ch,cZ,bJ,bj,fK,cQ,cD,dz] using hR
 by_cases k3:k=cQ
 ·subst k3;simpa[ch,cZ,bJ,bj,fK,cQ,cD,dz] using hR
 by_cases k4:k=cD
 ·subst k4;simpa[ch,cZ,bJ,bj,fK,cQ,cD,dz] using hR
 by_cases k5:k=dz
 ·subst k5;simpa[ch,cZ,bJ,bj,fK,cQ,cD,dz] using hR
 simp[k1,k2,k3,k4,k5,k6,k7,k8]at hR
 unfold ch at k1;unfold cZ at k2;unfold cQ at k3;unfold cD at k4;unfold dz at k5;unfold bJ at k6;unfold bj at k7;unfold fK at k8
 simpa[k1,k2,k3,k4,k5,k6,k7,k8] using hR
end
end
section
open Go.Ab
attribute [-simp] aX aF
theorem E7{α:Type}[DecidableEq α]{x:α}:∀{l:List α}{i:Nat},(fQ x l i).isSome=decide (x∈l)
 |[],i=>by simp[fQ]
 |y::l,i=>by
  simp only[fQ]
  by_cases e:x=y
  ·simp[e]
  ·rw[zW e,E7];simp[e]
theorem uI{α:Type}[DecidableEq α]{x:α}{l:List α}:eV x l=decide (x∈l):=E7
def BE(h:AH)(b:Nat)(pl e:Int):Prop:=∃cs,h.obj b=some (aN cs 9 54)/\cs[4]?=some (I pl)/\cs[5]?=some (I e)
section
variable {h:AH} {M:Nat->Prop} {R:AE->AH->Prop} {n0 b:Nat} {xr:AV} {bk:Bk} {pl er:Int} {xq xb xd:AV} {yl:List (bY×AV)} {rs:List (Row×AV)}
structure BN (n0:Nat) (h:AH) (b:Nat) (xr:AV):Prop where
 n:n0<=b
 b:∃xq xb xd pl er m xo xp,h.obj b=some (EQ xr xq xb xd pl er m xo xp)
theorem RB.bn(a:RB n0 h b xr bk pl er xq xb xd yl):BN n0 h b xr:=⟨a.n.1,_,_,_,_,_,_,_,_,a.b⟩
theorem BN.aU{h':AH}(a:BN n0 h b xr)(f:Fr h h' fun _=>False):BN n0 h' b xr:=by
 obtain⟨h1,xq,xb,xd,pl,er,m,xo,xp,h2⟩:=a
 exact⟨h1,xq,xb,xd,pl,er,m,xo,xp,f.bM h2⟩
theorem BW{i:Nat}{e:Int}{y:Row×AV}(bn:BN n0 h b xr)(rt:RT h xr rs)(hy:rs[i]?=some y)(hM:∀id,TW TB n0 h id->M id)(hR:∀h',BE h' b y.1.place e->Fr h h' (TW TB n0 h)->R (.ret (B false)) h'):aE Pg 29 [.ptr b 0,I i,I e] h M R:=by
 apply LX.aM
 obtain⟨hn,xq,xb,xd,pl,er,m,xo,xp,ob⟩:=bn
 have mb:M b:=hM b ⟨hn,_,ob,rfl,rfl⟩
 simp only[LX.n3,LX.n2,aD,ag,au,ob,ao,zG,zA,ab]
 refine dn (k:=5) rt.r cO hy (by omega) rfl fun _=>?_
 simp only[aD,ag,aF,ob,dC,bG,zG]
 refine⟨⟨.inl mb,rfl,rfl,by simp⟩,?_⟩
 have f1:Fr h (h.put b 4 [I y.1.place]) (·=b):=Fr.refl.put (.inl rfl)
 have o1:=cX (off:=4) (cs:=[I y.1.place]) ob
 generalize h.put b 4 [I y.1.place]=h1 at *
 simp only[o1,dC,bG]
 refine⟨⟨.inl mb,rfl,rfl,by simp⟩,?_⟩
 have f2:Fr h (h1.put b 5 [I e]) (·=b):=f1.put (.inl rfl)
 have o2:=cX (off:=5) (cs:=[I e]) o1
 generalize h1.put b 5 [I e]=h2 at *
 have:=hR h2 ⟨_,o2,rfl,rfl⟩ (TW.iO f2 hn ob rfl rfl)
 simpa[LX.n1] using this
theorem BX{i:Nat}{x3:AV}{l:List fZ}{a:Arg}{y:Row×AV}(bn:BN n0 h b xr)(rt:RT h xr rs)(hy:rs[i]?=some y)(hx:cH jH 3 85 h x3 l)(hl:l.length<=100000000)(hM:∀id,TW TB n0 h id->M id)
  (he:∀h',gB l a≠0->BE h' b y.1.place (gB l a)->Fr h h' (TW TB n0 h)->R (.ret (B false)) h')
  (hk:∀h',gB l a=0->Fr h h' (fun _=>False)->R (.ret (B true)) h'):aE Pg 52 [.ptr b 0,I i,.agg a.enc,x3] h M R:=by
 apply nC.aM
 unfold nC.a_
 refine dB (cs:=a.enc) (Arg.iE a) fun va h1 f1 _ oa=>?_
 have bn1:=bn.aU f1
 have ic:=rt.aU f1
 have vF:=hx.aU f1
 have hW:∀id,TW TB n0 h1 id->(M id\/h.next<=id):=fun id hid=>(TW.back (TW.aO f1) hid).elim (fun h=>.inl (hM id h)) .inr
 have bad:∀e,gB l a=e->e≠0->∀(QR:VK)(QP:AV->AH->Prop),(∀h',R (.ret (B false)) h'->QR [B false] h')->aC Pg (fun id=>M id\/h.next<=id) 29 [.ptr b 0,I i,I e] h1 (fun t h=>QR [t] h) QP:=fun e e1 e2 QR QP hq=>by
  refine⟨TW TB n0 h1,fun id hs _=>hW id hs,BW bn1 ic hy (fun _ h=>h) fun h2 be f2=>?_⟩
  exact hq h2 (he h2 (by rw[e1];exact e2) (by rw[e1];exact be) (TW.trans (TW.aO f1) f2))
 simp only[nC.aQ,ag,au,oa,ao,zG,Arg.enc,zA,ab]
 refine⟨fun _=>False,fun _ h=>h.elim,rk vF hl ?_ ?_⟩
 ·intro hr
  have ea:gB l a=110:=by unfold gB;rw[hr]
  simp only[nC.n9,aZ,show decide ((-1:Int)<0)=true from rfl,nC.n8,aj,zD,zF,zC,zI,nC.n7]
  exact bad 110 ea (by decide) _ _ (fun h' hh=>by simpa using hh)
 ·intro j g hj hr
  have h0:decide ((j:Int)<0)=false:=by simp
  have ea:gB l a=if a.index<0\/g.size<=a.index then 112 else 0:=by unfold gB;rw[hr]
  simp only[nC.n9,aZ,h0,nC.n8,aj,zE,zD,zC,zH,nC.n6,ag,au,oa,ao,zG,Arg.enc,zA,zB,ab]
  by_cases k1:a.index<0
  ·rw[zX (.inl k1)]at ea
   simp only[zL k1,nC.n5,ck,zT,zF,zD,zC,zI,zH,zE,nC.n4,bu,zV,nC.n3,aj,nC.n2]
   exact bad 112 ea (by decide) _ _ (fun h' hh=>by simpa using hh)
  ·simp only[zK k1,nC.n5,ck,zT,zE,zD,zC,zI,ag,au,oa,ao,zG,Arg.enc,zA,zB,ab]
   refine dn (k:=2) vF jk hj (by omega) rfl fun _=>?_
   simp only[io,ge_iff_le]
   by_cases k2:g.size<=a.index
   ·rw[zX (.inr k2)]at ea
    simp only[zL k2,nC.n4,bu,zE,if_false,nC.n3,aj,zD,zF,zC,zI,nC.n2]
    exact bad 112 ea (by decide) _ _ (fun h' hh=>by simpa using hh)
   ·rw[zW (by omega)]at ea
    simp only[zK k2,nC.n4,bu,zE,if_false,nC.n3,aj,zD,zC,zH,nC.n1]
    simpa using hk h1 ea f1
theorem JB{n:ByteArray}(rb:RB n0 h b xr bk pl er xq xb xd yl)(hl:bk.qs.length<=100000000/\bk.bs.length<=100000000/\bk.ds.length<=100000000)(hR:∀h',Fr h h' (fun _=>False)->R (.ret (B (gN bk n))) h'):aE Pg 80 [.ptr b 0,Sb n] h M R:=by
 apply jY.aM
 unfold jY.n9 jY.n8
 refine⟨fun _=>False,fun _ h=>h.elim,nc ?_⟩
 have AJ:=rb
 have hR:=hR h Fr.refl
 have g0:∀i:Nat,decide ((i:Int)>=0)=true:=fun i=>by simp
 have gm:decide ((-1:Int)>=0)=false:=rfl
 simp only[eU,gt_iff_lt]
 have Ib:∀t:Bool,gN bk n=(t||(eB bk.ds n).isSome)->jY.n3 (fun id=>M id\/h.next<=id) (aJ Pg [.tmp 4] R) (aJ Pg [.tmp 4] R) (fun _ _ _=>False) (fun v h=>R (.cg v) h) (.ptr b 0) (Sb n) (B t) h:=fun t ht=>by
  rw[ht]at hR
  cases t with
  |true=>simpa[jY.n3,jY.n2,jY.n1] using hR
  |false=>
   simp only[jY.n3,ck,zT,zE,zD,zC,zI]
   refine⟨fun _=>False,fun _ h=>h.elim,sH AJ.b rfl AJ.d hl.2.2 ?_ ?_⟩
   ·intro hd;rw[hd]at hR;simpa[jY.n2,jY.n1,gm] using hR
   ·intro i d _ hd;rw[hd]at hR;simpa[jY.n2,jY.n1,g0] using hR
 have Ic:∀t:Bool,gN bk n=((t||(eF bk.bs n).isSome)||(eB bk.ds n).isSome)->jY.n5 (fun id=>M id\/h.next<=id) (aJ Pg [.tmp 4] R) (aJ Pg [.tmp 4] R) (fun _ _ _=>False) (fun v h=>R (.cg v) h) (.ptr b 0) (Sb n) (B t) h:=fun t ht=>by
  cases t with
  |true=>
   have:=Ib true (by rw[ht];simp)
   simpa[-jY.n3,jY.n5,jY.n4] using this
  |false=>
   simp only[jY.n5,ck,zT,zE,zD,zC,zI,aD,ag,au,AJ.b,ao,zG,zA,zB,ab]
   refine⟨fun _=>False,fun _ h=>h.elim,rk AJ.s.cF hl.2.1 ?_ ?_⟩
   ·intro hd
    have:=Ib false (by rw[ht,hd];rfl)
    simpa[-jY.n3,jY.n4,gm] using this
   ·intro i d _ hd
    have:=Ib true (by rw[ht,hd];rfl)
    simpa[-jY.n3,jY.n4,g0] using this
 have step2:∀t:Bool,gN bk n=(((t||(eF bk.qs n).isSome)||(eF bk.bs n).isSome)||(eB bk.ds n).isSome)->jY.n7 (fun id=>M id\/h.next<=id) (aJ Pg [.tmp 4] R) (aJ Pg [.tmp 4] R) (fun _ _ _=>False) (fun v h=>R (.cg v) h) (.ptr b 0) (Sb n) (B t) h:=fun t ht=>by
  cases t with
  |true=>
   have:=Ic true (by rw[ht];simp)
   simpa[-jY.n5,jY.n7,jY.n6] using this
  |false=>
   simp only[jY.n7,ck,zT,zE,zD,zC,zI,aD,ag,au,AJ.b,ao,zG,zA,zB,ab]
   refine⟨fun _=>False,fun _ h=>h.elim,rk AJ.q.cF hl.1 ?_ ?_⟩
   ·intro hd
    have:=Ic false (by rw[ht,hd];rfl)
    simpa[-jY.n5,jY.n6,gm] using this
   ·intro i d _ hd
    have:=Ic true (by rw[ht,hd];rfl)
    simpa[-jY.n5,jY.n6,g0] using this
 refine step2 _ ?_
 unfold gN
 cases (eF bk.qs n).isSome<;>cases (eF bk.bs n).isSome<;>cases (eB bk.ds n).isSome<;>simp
theorem Mp{x:AV}{l:List ByteArray}(hx:cH hZ 1 9 h x l)(hl:l.length<=100000000)(hR:R (.ret (B (tz l))) h):aE Pg 81 [x] h M R:=by
 apply mT.aM
 unfold mT.bC mT.bD mT.bt
 refine bU (ι:=Nat) (fun i v h'=>v=[x,I i]/\i<=l.length/\h'=h/\∀j a,j<i->l[j]?=some a->eV a (l.take j)=false) (fun i=>l.length-i) 0 ⟨rfl,by omega,rfl,fun j a h=>by omega⟩ ?_
 rintro K i v h' ⟨rfl,hi,rfl,hb⟩ step
 simp only[mT.cB,zN,zO,mT.bc,hx.len.1,hx.len.2,zH,aZ]
 by_cases aR:i<l.length
 ·have eh:(i:Int)<l.length:=by omega
  have g1:l[i]?=some l[i]:=zJ aR
  have w1:IntKind.i64.wrap ((i:Int)+1)=((i+1:Nat):Int):=by rw[aS (by omega) (by omega)];simp
  simp only[zL eh,mT.a_,aj,zD,zF,zC,zI,mT.aQ]
  unfold mT.n9
  refine bU (ι:=Nat) (fun k v h1=>v=[x,I i,I k]/\k<=i/\h1=h'/\eV l[i] (l.take k)=false) (fun k=>i-k) 0 ⟨rfl,by omega,rfl,rfl⟩ ?_
  rintro K2 k v h1 ⟨rfl,hk,rfl,hm⟩ step2
  simp only[mT.fY,zN,zO,mT.n8,aZ]
  by_cases hkl:k<i
  ·have qa:(k:Int)<i:=by omega
   have g2:l[k]?=some (l[k]'(by omega)):=zJ _
   have w2:IntKind.i64.wrap ((k:Int)+1)=((k+1:Nat):Int):=by rw[aS (by omega) (by omega)];simp
   have tk:l.take (k+1)=l.take k++[l[k]'(by omega)]:=List.take_succ_eq_append_getElem (by omega)
   have hY:l[k]'(by omega)∈l.take i:=List.mem_take_iff_getElem.2 ⟨k,by omega,rfl⟩
   generalize ez:l[k]'(by omega)=z at *
   generalize ea:l[i]=a at *
   simp only[zL qa,mT.n7,aj,zD,zF,zC,zI,mT.n6]
   refine gZ hx (fun _=>rfl) g1 rfl fun _=>?_
   refine gZ hx (fun _=>rfl) g2 rfl fun _=>?_
   simp only[bB]
   by_cases e:a=z
   ·have:tz l=true:=ul g1 (by rw[uI,e];simpa using hY)
    rw[this]at hR
    simp only[zL e,mT.n5,aj,zD,zF,zC,zI,mT.n4]
    simpa using hR
   ·simp only[zK e,mT.n5,aj,zE,zD,zC,zH,mT.n3,aT,w2]
    refine step2 (k+1) _ _ (by omega) ⟨rfl,by omega,rfl,?_⟩
    rw[uI]at hm ⊢
    rw[tk]
    simp only[decide_eq_false_iff_not,List.mem_append,List.mem_singleton,not_or]at hm ⊢
    exact⟨hm,e⟩
  ·have dA:¬(k:Int)<i:=by omega
   have ek:k=i:=by omega
   subst ek
   simp only[zK dA,mT.n7,aj,zE,zD,zC,zH,zV,mT.n2,zN,zO,aT,w1]
   refine step (k+1) _ _ (by omega) ⟨rfl,by omega,rfl,fun j a hj ha=>?_⟩
   by_cases Hn:j=k
   ·subst Hn
    rw[g1]at ha;cases ha
    exact hm
   ·exact hb j a (by omega) ha
 ·have dA:¬(i:Int)<l.length:=by omega
  have:tz l=false:=x_ fun j a hj=>hb j a (by have:=(zM.1 hj).1;omega) hj
  rw[this]at hR
  simp only[zK dA,mT.a_,aj,zE,zD,zC,zH,zV,mT.n1]
  simpa using hR
end
end
section
open Go.Ab
attribute [-simp] aX aF
section
variable {W:Nat->Prop} {QR QN:VK} {QE:Nat->VK} {QP:AV->AH->Prop} {h:AH} {n0 b i vr:Nat} {xr:AV} {bk:Bk} {pl er:Int} {xq xb xd:AV} {yl:List (bY×AV)} {rs:List (Row×AV)} {y:Row×AV} {res:Er Bk}
structure DE (W:Nat->Prop) (QR:VK) (h:AH) (n0 b i vr:Nat) (xr:AV) (bk:Bk) (pl er:Int) (xq xb xd:AV) (yl:List (bY×AV)) (rs:List (Row×AV)) (y:Row×AV) (res:Er Bk):Prop where
 rb:RB n0 h b xr bk pl er xq xb xd yl
 rt:RT h xr rs
 hy:rs[i]?=some y
 bS:h.obj vr=some (aN (ay y) 6 42)
 hW:∀id,TW TB n0 h id\/h.next<=id->W id
 bf:lL bk
 ln:bk.qs.length<=64/\bk.bs.length<=64/\bk.ds.length<=100000000
 he:∀e h',res=.error e->BE h' b y.1.place e->Fr h h' (TW TB n0 h)->QR [B false] h'
 hk:∀bR pN pP pO lx h',res=.ok bR->RB n0 h' b xr bR pl er pN pP pO lx->Fr h h' (TW TB n0 h)->QR [B true] h'
theorem DE.aU{h':AH}(k:DE W QR h n0 b i vr xr bk pl er xq xb xd yl rs y res)(f:Fr h h' fun _=>False):DE W QR h' n0 b i vr xr bk pl er xq xb xd yl rs y res:=
 ⟨k.rb.aU f,k.rt.aU f,k.hy,f.bM k.bS,fun id hid=>hid.elim (fun hid=>(TW.back (TW.aO f) hid).elim (fun h=>k.hW id (.inl h)) (fun h=>k.hW id (.inr h))) (fun hid=>k.hW id (.inr (zR f.next hid))),k.bf,k.ln,
  fun e h2 h3 h4 f2=>k.he e h2 h3 h4 (TW.trans (TW.aO f) f2),fun bR pN pP pO lx h2 h3 h4 f2=>k.hk bR pN pP pO lx h2 h3 h4 (TW.trans (TW.aO f) f2)⟩
theorem DE.bad(k:DE W QR h n0 b i vr xr bk pl er xq xb xd yl rs y res){e:Int}(hr:res=.error e):aC Pg W 29 [.ptr b 0,I i,I e] h (fun t h=>QR [t] h) QP:=
 ⟨TW TB n0 h,fun id hs _=>k.hW id (.inl hs),BW k.rb.bn k.rt k.hy (fun _ h=>h) fun h2 be f2=>k.he e h2 hr be f2⟩
theorem RB.put{off:Nat}{x:AV}(rb:RB n0 h b xr bk pl er xq xb xd yl){cs:List AV}{h2:AH}(_:h2.obj b=some (aN cs 9 54))(hn:n0<=b):Fr h2 (h2.put b off [x]) (TW TB n0 h2):=TW.iO (T:=TB) (Fr.refl.put (.inl rfl)) hn (by assumption) rfl rfl
theorem DT.BD{h':AH}{ds:List bY}{S:Nat->Prop}(a:DT h xd ds yl)(f:Fr h h' S)(hs:∀id o,h.obj id=some o->o.ty=78\/o.ty=9->¬S id):DT h' xd ds yl:=by
 refine⟨?_,a.e,fun y hy=>?_⟩
 ·rcases a.t with e |⟨j,e1,e2⟩
  ·exact .inl e
  ·exact .inr ⟨j,e1,f.obj e2 (hs _ _ e2 (.inl rfl))⟩
 ·rcases a.p y hy with e |⟨j,e1,e2⟩
  ·exact .inl e
  ·exact .inr ⟨j,e1,f.obj e2 (hs _ _ e2 (.inr rfl))⟩
theorem dw{α:Type}{f:α->List AV}{sz:Nat}{ty:TypeId}{h h':AH}{x:AV}{l:List α}{S:Nat->Prop}(a:bN f sz ty h x l)(hf:Fr h h' S)(hs:∀id o,h.obj id=some o->o.ty=ty->x=.sl id 0 l.length->¬S id):bN f sz ty h' x l:=by
 rcases a with e |⟨j,e1,e2⟩
 ·exact .inl e
 ·exact .inr ⟨j,e1,hf.obj e2 (hs _ _ e2 rfl e1)⟩
theorem Xk{t:Int}(k:DE W QR h n0 b i vr xr bk pl er xq xb xd yl rs y (.ok { bk with qs:=bk.qs++[⟨y.1.name,t,y.1.num⟩] })):ep.n2 W QR QN QE QP (.ptr b 0) (.ptr vr 0) (I t) h:=by
 have rb:=k.rb
 simp only[ep.n2,aD,ag,au,rb.b,k.bS,ao,zG,ay,zA,zB,ab]
 refine⟨jH ⟨y.1.name,t,y.1.num⟩,by simp[dM,putCells,dC,lP,jH],?_⟩
 refine pB (f:=jH) (t:=⟨y.1.name,t,y.1.num⟩) jk (by omega) rfl (by omega) rfl rfl rb.q ?_ (by have:=k.ln.1;omega) fun z h1 hz lF f1=>?_
 ·intro id off n e
  rcases rb.q with⟨e1,_⟩ |⟨j,e1,ho⟩
  ·rw[e1]at e;cases e
  ·rw[e1]at e;cases e
   exact k.hW _ (.inl ⟨rb.n.2.1 _ _ _ e1,_,ho,rfl,rfl⟩)
 ·have fT:Fr h h1 (TW TB n0 h):=f1.mono fun j ⟨off,n,e⟩=>by
   rcases rb.q with⟨e1,_⟩ |⟨j',e1,ho⟩
   ·rw[e1]at e;cases e
   ·rw[e1]at e;cases e
    exact⟨rb.n.2.1 _ _ _ e1,_,ho,rfl,rfl⟩
  have b1:=f1.obj rb.b (fM rb.q rb.b (show(54:Nat)≠85 by decide))
  have s1:bN jH 3 85 h1 xb bk.bs:=dw rb.s f1 fun id o ho ht e1 ⟨off,n,e⟩=>rb.sep _ _ _ _ _ e e1
  have d1:DT h1 xd bk.ds yl:=rb.d.BD f1 fun id o ho ht he=>fM rb.q ho (by rcases ht with e |e<;>rw[e]<;>show _≠(85:Nat)<;>decide) he
  simp only[aD,ag,aF,b1,hz.cF.one.2,bG,zG]
  refine⟨⟨k.hW b (.inl ⟨rb.n.1,_,rb.b,rfl,rfl⟩),by show(cG z&&true)=true;rw[hz.cF.one.1];rfl,rfl,by simp⟩,?_⟩
  have f2:Fr h1 (h1.put b 1 [z]) (·=b):=Fr.refl.put (.inl rfl)
  have b2:=cX (off:=1) (cs:=[z]) b1
  generalize h1.put b 1 [z]=h2 at *
  have nb:∀{id:Nat}{o:AO},h1.obj id=some o->o.ty≠54->¬id=b:=fun ho ht e=>by subst e;rw[b1]at ho;cases ho;exact ht rfl
  have g2:=TW.trans fT (TW.iO (T:=TB) f2 rb.n.1 b1 rfl rfl)
  have bl:=h.lt _ _ rb.b
  have fin:=k.hk _ z xb xd yl h2 rfl ⟨⟨rb.n.1,fun id off n e=>by have:=lF _ _ _ e;have:=rb.n.1;omega,rb.n.2.2⟩,b2,?_,?_,?_,B9 lF rb.s.cF⟩ g2
  ·simpa[ep.n1] using fin
  ·exact dw hz f2 fun id o ho ht _=>nb ho (by rw[ht];decide)
  ·exact dw s1 f2 fun id o ho ht _=>nb ho (by rw[ht];decide)
  ·exact d1.BD f2 fun id o ho ht=>nb ho (by rcases ht with e |e<;>rw[e]<;>decide)
theorem Xn{t:Int}(k:DE W QR h n0 b i vr xr bk pl er xq xb xd yl rs y (.ok { bk with bs:=bk.bs++[⟨y.1.name,t,y.1.num⟩] })):ep.aQ W QR QN QE QP (.ptr b 0) (.ptr vr 0) (I t) h:=by
 have rb:=k.rb
 simp only[ep.aQ,aD,ag,au,rb.b,k.bS,ao,zG,ay,zA,zB,ab]
 refine⟨jH ⟨y.1.name,t,y.1.num⟩,by simp[dM,putCells,dC,lP,jH],?_⟩
 refine pB (f:=jH) (t:=⟨y.1.name,t,y.1.num⟩) jk (by omega) rfl (by omega) rfl rfl rb.s ?_ (by have:=k.ln.2.1;omega) fun z h1 hz lF f1=>?_
 ·intro id off n e
  rcases rb.s with⟨e1,_⟩ |⟨j,e1,ho⟩
  ·rw[e1]at e;cases e
  ·rw[e1]at e;cases e
   exact k.hW _ (.inl ⟨rb.n.2.2.1 _ _ _ e1,_,ho,rfl,rfl⟩)
 ·have fT:Fr h h1 (TW TB n0 h):=f1.mono fun j ⟨off,n,e⟩=>by
   rcases rb.s with⟨e1,_⟩ |⟨j',e1,ho⟩
   ·rw[e1]at e;cases e
   ·rw[e1]at e;cases e
    exact⟨rb.n.2.2.1 _ _ _ e1,_,ho,rfl,rfl⟩
  have b1:=f1.obj rb.b (fM rb.s rb.b (show(54:Nat)≠85 by decide))
  have q1:bN jH 3 85 h1 xq bk.qs:=dw rb.q f1 fun id o ho ht e1 ⟨off,n,e⟩=>rb.sep _ _ _ _ _ e1 e
  have d1:DT h1 xd bk.ds yl:=rb.d.BD f1 fun id o ho ht he=>fM rb.s ho (by rcases ht with e |e<;>rw[e]<;>show _≠(85:Nat)<;>decide) he
  simp only[aD,ag,aF,b1,hz.cF.one.2,bG,zG]
  refine⟨⟨k.hW b (.inl ⟨rb.n.1,_,rb.b,rfl,rfl⟩),by show(cG z&&true)=true;rw[hz.cF.one.1];rfl,rfl,by simp⟩,?_⟩
  have f2:Fr h1 (h1.put b 2 [z]) (·=b):=Fr.refl.put (.inl rfl)
  have b2:=cX (off:=2) (cs:=[z]) b1
  generalize h1.put b 2 [z]=h2 at *
  have nb:∀{id:Nat}{o:AO},h1.obj id=some o->o.ty≠54->¬id=b:=fun ho ht e=>by subst e;rw[b1]at ho;cases ho;exact ht rfl
  have g2:=TW.trans fT (TW.iO (T:=TB) f2 rb.n.1 b1 rfl rfl)
  have bl:=h.lt _ _ rb.b
  have fin:=k.hk _ xq z xd yl h2 rfl ⟨⟨rb.n.1,rb.n.2.1,fun id off n e=>by have:=lF _ _ _ e;have:=rb.n.1;omega,rb.n.2.2.2⟩,b2,?_,?_,?_,tL rb.q lF⟩ g2
  ·simpa[ep.n1] using fin
  ·exact dw q1 f2 fun id o ho ht _=>nb ho (by rw[ht];decide)
  ·exact dw hz f2 fun id o ho ht _=>nb ho (by rw[ht];decide)
  ·exact d1.BD f2 fun id o ho ht=>nb ho (by rcases ht with e |e<;>rw[e]<;>decide)
theorem We(k:DE W QR h n0 b i vr xr bk pl er xq xb xd yl rs y (if y.1.num<1 then .error 112 else if 64-aK bk.qs<y.1.num then .error 1 else .ok { bk with qs:=bk.qs++[⟨y.1.name,aK bk.qs,y.1.num⟩] })):ep.n9 W QR QN QE QP (.ptr b 0) (I i) (.ptr vr 0) h:=by
 simp only[ep.n9,ag,au,k.bS,ao,zG,ay,zA,zB,ab,aZ]
 by_cases k1:y.1.num<1
 ·rw[zX k1]at k
  simp only[zL k1,ep.n8,aj,zD,zF,zC,zI,ep.n7]
  exact k.bad rfl
 ·rw[zW k1]at k
  have ok:=k.bf.i.ok
  simp only[zK k1,ep.n8,aj,zE,zD,zC,zH,ep.n6,aD,ag,au,k.rb.b,ao,zG,zA,zB,ab]
  refine⟨fun _=>False,fun _ h=>h.elim,uv k.rb.q.cF (fun r hr=>by have:=ok.sq r hr;omega) ok.tq.2 (by have:=k.ln.1;omega) ?_⟩
  have ht:=ok.tq
  have w1:IntKind.i64.wrap (64-aK bk.qs)=64-aK bk.qs:=aS (by omega) (by omega)
  simp only[ep.n5,ag,au,k.bS,ao,zG,ay,zA,zB,ab,jL,w1,eU,gt_iff_lt]
  by_cases k2:64-aK bk.qs<y.1.num
  ·rw[zX k2]at k
   simp only[zL k2,ep.n4,aj,zD,zF,zC,zI,ep.n3]
   exact k.bad rfl
  ·rw[zW k2]at k
   simp only[zK k2,ep.n4,aj,zE,zD,zC,zH]
   exact Xk k
theorem Wh(k:DE W QR h n0 b i vr xr bk pl er xq xb xd yl rs y (if y.1.num<1 then .error 112 else if 64-aK bk.bs<y.1.num then .error 1 else .ok { bk with bs:=bk.bs++[⟨y.1.name,aK bk.bs,y.1.num⟩] })):ep.bH W QR QN QE QP (.ptr b 0) (I i) (.ptr vr 0) h:=by
 simp only[ep.bH,ag,au,k.bS,ao,zG,ay,zA,zB,ab,aZ]
 by_cases k1:y.1.num<1
 ·rw[zX k1]at k
  simp only[zL k1,ep.bz,aj,zD,zF,zC,zI,ep.bC]
  exact k.bad rfl
 ·rw[zW k1]at k
  have ok:=k.bf.i.ok
  simp only[zK k1,ep.bz,aj,zE,zD,zC,zH,ep.bD,aD,ag,au,k.rb.b,ao,zG,zA,zB,ab]
  refine⟨fun _=>False,fun _ h=>h.elim,uv k.rb.s.cF (fun r hr=>by have:=ok.sb r hr;omega) ok.tb.2 (by have:=k.ln.2.1;omega) ?_⟩
  have ht:=ok.tb
  have w1:IntKind.i64.wrap (64-aK bk.bs)=64-aK bk.bs:=aS (by omega) (by omega)
  simp only[ep.bt,ag,au,k.bS,ao,zG,ay,zA,zB,ab,jL,w1,eU,gt_iff_lt]
  by_cases k2:64-aK bk.bs<y.1.num
  ·rw[zX k2]at k
   simp only[zL k2,ep.bc,aj,zD,zF,zC,zI,ep.a_]
   exact k.bad rfl
  ·rw[zW k2]at k
   simp only[zK k2,ep.bc,aj,zE,zD,zC,zH]
   exact Xn k
end
end
section
open Go.Ab
attribute [-simp] aX aF
section
variable {W:Nat->Prop} {QR QN:VK} {QE:Nat->VK} {QP:AV->AH->Prop} {h:AH} {n0 b i vr:Nat} {xr:AV} {bk:Bk} {pl er:Int} {xq xb xd:AV} {yl:List (bY×AV)} {rs:List (Row×AV)} {y:Row×AV} {res:Er Bk}
theorem Xm{vd:Nat}{d:bY}{xp:AV}(k:DE W QR h n0 b i vr xr bk pl er xq xb xd yl rs y (.ok { bk with ds:=bk.ds++[d] }))(ov:h.obj vd=some (aN (ky (d,xp)) 7 78))(hp:bN hZ 1 9 h xp d.params):ep.bO W QR QN QE QP (.ptr b 0) (.ptr vd 0) h:=by
 have rb:=k.rb
 simp only[ep.bO,aD,ag,au,rb.b,ao,zG,zA,zB,ab]
 refine di ov rfl fun _=>?_
 refine pB (f:=ky) (t:=(d,xp)) iY (by omega) rfl (by omega) rfl (uT hp.cF.one.1) rb.d.t ?_ (by rw[rb.d.len];exact k.ln.2.2) fun z h1 hz lF f1=>?_
 ·intro id off n e
  rcases rb.d.t with⟨e1,_⟩ |⟨j,e1,ho⟩
  ·rw[e1]at e;cases e
  ·rw[e1]at e;cases e
   exact k.hW _ (.inl ⟨rb.n.2.2.2 _ _ _ e1,_,ho,rfl,rfl⟩)
 ·have fT:Fr h h1 (TW TB n0 h):=f1.mono fun j ⟨off,n,e⟩=>by
   rcases rb.d.t with⟨e1,_⟩ |⟨j',e1,ho⟩
   ·rw[e1]at e;cases e
   ·rw[e1]at e;cases e
    exact⟨rb.n.2.2.2 _ _ _ e1,_,ho,rfl,rfl⟩
  have b1:=f1.obj rb.b (fM rb.d.t rb.b (show(54:Nat)≠78 by decide))
  have q1:bN jH 3 85 h1 xq bk.qs:=dw rb.q f1 fun id o ho ht _=>fM rb.d.t ho (by rw[ht];show(85:Nat)≠78;decide)
  have s1:bN jH 3 85 h1 xb bk.bs:=dw rb.s f1 fun id o ho ht _=>fM rb.d.t ho (by rw[ht];show(85:Nat)≠78;decide)
  have p1:∀{z:AV}{l:List ByteArray},bN hZ 1 9 h z l->bN hZ 1 9 h1 z l:=fun hz=>dw hz f1 fun id o ho ht _=>fM rb.d.t ho (by rw[ht];show(9:Nat)≠78;decide)
  simp only[aD,ag,aF,b1,hz.cF.one.2,bG,zG]
  refine⟨⟨k.hW b (.inl ⟨rb.n.1,_,rb.b,rfl,rfl⟩),by show(cG z&&true)=true;rw[hz.cF.one.1];rfl,rfl,by simp⟩,?_⟩
  have f2:Fr h1 (h1.put b 3 [z]) (·=b):=Fr.refl.put (.inl rfl)
  have b2:=cX (off:=3) (cs:=[z]) b1
  generalize h1.put b 3 [z]=h2 at *
  have nb:∀{id:Nat}{o:AO},h1.obj id=some o->o.ty≠54->¬id=b:=fun ho ht e=>by subst e;rw[b1]at ho;cases ho;exact ht rfl
  have g2:=TW.trans fT (TW.iO (T:=TB) f2 rb.n.1 b1 rfl rfl)
  have bl:=h.lt _ _ rb.b
  have p2:∀{z:AV}{l:List ByteArray},bN hZ 1 9 h1 z l->bN hZ 1 9 h2 z l:=fun hz=>dw hz f2 fun id o ho ht _=>nb ho (by rw[ht];decide)
  have fin:=k.hk _ xq xb z (yl++[(d,xp)]) h2 rfl ⟨⟨rb.n.1,rb.n.2.1,rb.n.2.2.1,fun id off n e=>by have:=lF _ _ _ e;have:=rb.n.1;omega⟩,b2,?_,?_,⟨?_,by rw[List.map_append,rb.d.e];rfl,fun v hv=>?_⟩,rb.sep⟩ g2
  ·simpa[ep.n1] using fin
  ·exact dw q1 f2 fun id o ho ht _=>nb ho (by rw[ht];decide)
  ·exact dw s1 f2 fun id o ho ht _=>nb ho (by rw[ht];decide)
  ·exact dw hz f2 fun id o ho ht _=>nb ho (by rw[ht];decide)
  ·rcases List.mem_append.1 hv with hv |hv
   ·exact p2 (p1 (rb.d.p v hv))
   ·have:=List.mem_singleton.1 hv
    subst this
    exact p2 (p1 hp)
def Od(bk:Bk)(r:Row)(i:Int):Er Bk:=if r.args.length=0 then .error 111
 else if r.args.any (fun a=>a.index != -1) then .error 112
 else if tz (r.args.map (·.name)) then .error 113
 else .ok { bk with ds:=bk.ds++[⟨r.name,r.args.map (·.name),i+1,i+1+r.rows,1,0,false⟩] }
theorem Xl(k:DE W QR h n0 b i vr xr bk pl er xq xb xd yl rs y (Od bk y.1 i))(hi:(i:Int)<=1000000000)(hr:0<=y.1.rows/\y.1.rows<=1000000000):ep.dW W QR QN QE QP (.ptr b 0) (I i) (.ptr vr 0) h:=by
 obtain⟨ha,hl⟩:=k.rt.a y (zP k.hy)
 unfold Od at k
 simp only[ep.dW,ag,au,k.bS,ao,zG,ay,zA,zB,ab,ha.len.1,ha.len.2,zH,eG]
 by_cases k1:y.1.args.length=0
 ·rw[zX k1]at k
  have eK:((y.1.args.length:Int)==0)=true:=by simp[k1]
  simp only[eK,ep.dx,aj,zD,zF,zC,zI,ep.cT]
  exact k.bad rfl
 rw[zW k1]at k
 have eK:((y.1.args.length:Int)==0)=false:=by
  have:¬(y.1.args.length:Int)=0:=by omega
  simpa using this
 have w1:∀x:Int,0<=x/\x<=4000000000->IntKind.i64.wrap x=x:=fun x hx=>aS (by omega) (by omega)
 simp only[eK,ep.dx,aj,zE,zD,zC,zH,ep.da,ag,au,k.bS,ao,zG,ay,zA,zB,ab,aT,w1 ((i:Int)+1) (by omega),w1 ((i:Int)+1+y.1.rows) (by omega)]
 refine⟨[Sb y.1.name,aW,I (i+1),I (i+1+y.1.rows),I 1,I 0,B true],by simp[dM,putCells,dC,lP,mw],?_⟩
 refine g_ (cs:=[Sb y.1.name,aW,I (i+1),I (i+1+y.1.rows),I 1,I 0,B true]) rfl rfl rfl rfl (fun id hid=>k.hW id (.inr hid)) fun vd h1 f1 Uu ov=>?_
 unfold ep.cK ep.cz
 refine bU (ι:=Nat×AV) (fun j v h'=>v=[.ptr b 0,I i,.ptr vr 0,.ptr vd 0,I j.1]/\j.1<=y.1.args.length/\Fr h h' (fun _=>False)/\h'.obj vd=some (aN [Sb y.1.name,j.2,I (i+1),I (i+1+y.1.rows),I 1,I 0,B true] 7 78) /\
  bN hZ 1 9 h' j.2 ((y.1.args.take j.1).map (·.name))/\cP (h.next<=·) j.2/\∀m a,m<j.1->y.1.args[m]?=some a->a.index=-1) (fun j=>y.1.args.length-j.1) (0,aW) ⟨rfl,by omega,f1,ov,.nil,(fun _ _ _ e=>by cases e),fun m a h=>by omega⟩ ?_
 rintro K ⟨j,xp⟩ v h2 ⟨rfl,hj,f2,sB,p_,Nl,hb⟩ step
 simp only at hj sB p_ Nl hb step
 have k2:=k.aU f2
 have ji:=ha.aU f2
 simp only[ep.cB,zN,zO,ep.cy,ag,au,k2.bS,ao,zG,ay,zA,zB,ab,ji.len.1,ji.len.2,zH,aZ]
 by_cases aR:j<y.1.args.length
 ·have eh:(j:Int)<y.1.args.length:=by omega
  have g1:y.1.args[j]?=some y.1.args[j]:=zJ aR
  have hY:=List.getElem_mem aR
  have j8:y.1.args.take (j+1)=y.1.args.take j++[y.1.args[j]]:=by rw[List.take_add_one,g1];rfl
  generalize y.1.args[j]=a at *
  simp only[zL eh,ep.bV,aj,zD,zF,zC,zI,ep.cl,ag,au,k2.bS,ao,zG,ay,zA,zB,ab]
  refine dn (k:=1) ji Arg.bL g1 (by omega) rfl fun _=>?_
  simp only[b5]
  by_cases e:a.index=-1
  ·have e':(a.index != -1)=false:=by simp[e]
   simp only[e',ep.cj,aj,zE,zD,zC,zH,ep.cb,ag,au,k2.bS,sB,ao,zG,ay,zA,zB,ab]
   refine dn (k:=0) ji Arg.bL g1 (by omega) rfl fun _=>?_
   refine pB (f:=hZ) (t:=a.name) Al (by omega) rfl (by omega) rfl rfl p_ (fun id off n e=>k.hW id (.inr (Nl _ _ _ e))) (by rw[zZ,yA];omega) fun z h3 hz lF f3=>?_
   have dR:Fr h h3 fun _=>False:=f2.trans (f3.mono fun m ⟨off,n,e⟩=>.inr (Nl m off n e))
   have nh:=f3.obj sB (fM p_ sB (show(78:Nat)≠9 by decide))
   have Uv:h.next<=vd:=Uu
   simp only[ag,aF,nh,hz.cF.one.2,bG,zG]
   refine⟨⟨k.hW vd (.inr Uv),by show(cG z&&true)=true;rw[hz.cF.one.1];rfl,rfl,by simp⟩,?_⟩
   have f4:Fr h3 (h3.put vd 1 [z]) (·=vd):=Fr.refl.put (.inl rfl)
   have iT:Fr h (h3.put vd 1 [z]) fun _=>False:=dR.put (.inr Uv)
   have yp:=cX (off:=1) (cs:=[z]) nh
   generalize h3.put vd 1 [z]=h4 at *
   have w2:IntKind.i64.wrap ((j:Int)+1)=((j+1:Nat):Int):=by rw[aS (by omega) (by omega)];simp
   simp only[ep.bW,aT,w2]
   refine step (j+1,z) _ h4 (by simp only;omega) ⟨rfl,by simp only;omega,iT,yp,?_,fun id off n e=>zR f2.next (lF _ _ _ e),fun m c hm hc=>?_⟩
   ·rw[j8,List.map_append]
    exact dw hz f4 fun id o ho ht _ e=>by subst e;rw[nh]at ho;cases ho;exact absurd ht (show(78:Nat)≠9 by decide)
   ·by_cases hmj:m=j
    ·subst hmj;rw[g1]at hc;cases hc;exact e
    ·exact hb m c (by simp only at hm;omega) hc
  ·have e':(a.index != -1)=true:=by simpa using e
   have Nv:y.1.args.any (fun a=>a.index != -1)=true:=List.any_eq_true.2 ⟨a,hY,e'⟩
   rw[zX Nv]at k2
   simp only[e',ep.cj,aj,zD,zF,zC,zI,ep.cn]
   exact k2.bad rfl
 ·have dA:¬(j:Int)<y.1.args.length:=by omega
  have ej:j=y.1.args.length:=by omega
  rw[ej,List.take_length]at p_
  have Nv:¬y.1.args.any (fun a=>a.index != -1)=true:=fun hx=>by
   obtain⟨a,h1,h2⟩:=List.any_eq_true.1 hx
   obtain⟨m,hm⟩:=List.mem_iff_getElem?.1 h1
   have:=hb m a (by have:=(zM.1 hm).1;omega) hm
   simp[this]at h2
  rw[zW Nv]at k2
  simp only[zK dA,ep.bV,aj,zE,zD,zC,zH,zV,ep.cp,zN,zO,ag,au,sB,ao,zG,zA,zB,ab]
  refine⟨fun _=>False,fun _ h=>h.elim,Mp p_.cF (by rw[zZ];exact hl) ?_⟩
  cases hd:tz (y.1.args.map (·.name)) with
  |true=>
   rw[hd,zX rfl]at k2
   simp only[ep.b_,aj,zD,zF,zC,zI,ep.bQ]
   exact k2.bad rfl
  |false=>
   rw[hd,zW (by decide)]at k2
   simp only[ep.b_,aj,zE,zD,zC,zH]
   exact Xm k2 sB p_
theorem OM(k:DE W QR h n0 b i vr xr bk pl er xq xb xd yl rs y res)(hd:y.1.kind=ch\/y.1.kind=cZ\/y.1.kind=bJ)(hr:res=fC bk none i y.1)(hi:(i:Int)<=1000000000)(Fc:0<=y.1.rows/\y.1.rows<=1000000000):ep.eC W QR QN QE QP (.ptr b 0) (I i) (.ptr vr 0) h:=by
 have ln:=k.ln
 simp only[ep.eC,ag,au,k.bS,ao,zG,ay,zA,zB,ab]
 refine⟨fun _=>False,fun _ h=>h.elim,JB k.rb ⟨by omega,by omega,ln.2.2⟩ fun h1 f1=>?_⟩
 have k1:=k.aU f1
 have n2:cZ≠ch:=by decide
 have n3:bJ≠ch:=by decide
 have n4:bJ≠cZ:=by decide
 have e1:(⟨#[113,117,98,105,116,115]⟩:ByteArray)=ch:=rfl
 have e2:(⟨#[98,105,116,115]⟩:ByteArray)=cZ:=rfl
 cases ht:gN bk y.1.name with
 |true=>
  have yH:res=.error 110:=by
   rw[hr]
   unfold fC
   rcases hd with hd |hd |hd
   ·rw[hd,zX rfl];unfold fA;rw[zX ht];rfl
   ·rw[hd,zW n2,zX rfl];unfold fA;rw[zX ht];rfl
   ·rw[hd,zW n3,zW n4,zX rfl];unfold pz;rw[zX ht]
  simp only[ep.dL,aj,zD,zF,zC,zI,ep.d_]
  exact k1.bad yH
 |false=>
  have tV:¬gN bk y.1.name=true:=by rw[ht];decide
  simp only[ep.dL,aj,zE,zD,zC,zH,ep.dF,ag,au,k1.bS,ao,zG,ay,zA,zB,ab,ep.eJ,bB,e1]
  rcases hd with hd |hd |hd
  ·have yH:res=if y.1.num<1 then .error 112 else if 64-aK bk.qs<y.1.num then .error 1 else .ok { bk with qs:=bk.qs++[⟨y.1.name,aK bk.qs,y.1.num⟩] }:=by
    rw[hr]
    unfold fC
    rw[hd,zX rfl];unfold fA;rw[zW tV]
    split
    ·rfl
    ·split<;>rfl
   rw[yH]at k1
   simp only[zL hd,ep.ed,aj,zD,zF,zC,zI]
   exact We k1
  ·have yH:res=if y.1.num<1 then .error 112 else if 64-aK bk.bs<y.1.num then .error 1 else .ok { bk with bs:=bk.bs++[⟨y.1.name,aK bk.bs,y.1.num⟩] }:=by
    rw[hr]
    unfold fC
    rw[hd,zW n2,zX rfl];unfold fA;rw[zW tV]
    split
    ·rfl
    ·split<;>rfl
   rw[yH]at k1
   simp only[hd,zK n2,ep.ed,aj,zE,zD,zC,zH,ep.dV,bB,e2,decide_true,ep.dT,zF,zI]
   exact Wh k1
  ·have yH:res=Od bk y.1 i:=by
    rw[hr]
    unfold fC
    rw[hd,zW n3,zW n4,zX rfl];unfold pz;rw[zW tV];rfl
   rw[yH]at k1
   simp only[hd,zK n3,ep.ed,aj,zE,zD,zC,zH,ep.dV,bB,e2,zK n4,ep.dT]
   exact Xl k1 hi Fc
end
section
variable {h:AH} {M:Nat->Prop} {R:AE->AH->Prop} {n0 b i:Nat} {xr:AV} {bk:Bk} {pl er:Int} {xq xb xd:AV} {yl:List (bY×AV)} {rs:List (Row×AV)} {y:Row×AV}
theorem GS(rb:RB n0 h b xr bk pl er xq xb xd yl)(rt:RT h xr rs)(hy:rs[i]?=some y)(bf:lL bk)(ln:bk.qs.length<=64/\bk.bs.length<=64/\bk.ds.length<=100000000)(hd:y.1.kind=ch\/y.1.kind=cZ\/y.1.kind=bJ)(Fc:0<=y.1.rows/\y.1.rows<=1000000000)(hM:∀id,TW TB n0 h id->M id)
  (he:∀e h',fC bk none i y.1=.error e->BE h' b y.1.place e->Fr h h' (TW TB n0 h)->R (.ret (B false)) h')
  (hk:∀bR pN pP pO lx h',fC bk none i y.1=.ok bR->RB n0 h' b xr bR pl er pN pP pO lx->Fr h h' (TW TB n0 h)->R (.ret (B true)) h'):aE Pg 50 [.ptr b 0,I i] h M R:=by
 apply ep.aM
 simp only[ep.dO,ep.eu,aD,ag,au,rb.b,ao,zG,zA,ab]
 refine fV rt.r cO (rt.one hy) hy rfl rfl (fun id hid=>.inr hid) fun vr h1 f1 _ j7=>?_
 have hi:=(zM.1 hy).1
 have hn:=rt.n
 refine OM (res:=fC bk none i y.1) ⟨rb.aU f1,rt.aU f1,hy,j7,fun id hid=>hid.elim (fun hid=>(TW.back (TW.aO f1) hid).elim (fun h=>.inl (hM id h)) .inr) (fun hid=>.inr (zR f1.next hid)),bf,ln,?_,?_⟩ hd rfl (by omega) Fc
 ·intro e h' h2 h3 f2
  simpa using he e h' h2 h3 (TW.trans (TW.aO f1) f2)
 ·intro bR pN pP pO lx h' h2 h3 f2
  simpa using hk bR pN pP pO lx h' h2 h3 (TW.trans (TW.aO f1) f2)
end
end
section
open Go.Ab
attribute [-simp] aX aF
theorem CX{α:Type}{f:α->List AV}{k:Nat}(hf:∀x,(f x).length=k):∀{l:List α}{i o:Nat}{x y:α}{v:AV},l[i]?=some x->o<k->(f x).set o v=f y->putCells (l.flatMap f) (i*k+o) [v]=(l.set i y).flatMap f
 |[],i,o,x,y,v,h,_,_=>by simp at h
 |a::l,0,o,x,y,v,h,ho,hv=>by
  simp at h;subst h
  simp only[putCells,Nat.zero_mul,zG,List.set_cons_zero,List.flatMap_cons]
  rw[List.set_append_left _ _ (by rw[hf];exact ho),hv]
 |a::l,i+1,o,x,y,v,h,ho,hv=>by
  simp at h
  have ih:=CX hf (l:=l) (i:=i) (o:=o) (y:=y) (v:=v) h ho hv
  simp only[putCells]at ih ⊢
  simp only[List.set_cons_succ,List.flatMap_cons]
  have e:(i+1)*k+o=(f a).length+(i*k+o):=by rw[hf,Nat.succ_mul];omega
  rw[e,List.set_append_right _ _ (by omega),Nat.add_sub_cancel_left,ih]
theorem DT.Zx{h:AH}{xd:AV}{ds:List bY}{yl:List (bY×AV)}(a:DT h xd ds yl){k:Nat}{d:bY}(hd:ds[k]?=some d){f:bY->bY}(hp:(f d).params=d.params){o:Nat}{v:AV}(ho:o<7)(hv:∀x,(ky (d,x)).set o v=ky (f d,x)) :
  ∃id,xd=.sl id 0 ds.length/\∃cells,h.obj id=some (aN cells 7 78)/\k*7+o<cells.length/\∀h',h'.obj id=some { cells:=putCells cells (k*7+o) [v],sz:=7,ty:=78 }->Fr h h' (·=id)->∃lx,DT h' xd (ds.modify k f) lx:=by
 obtain⟨x,hy,wY⟩:=a.at_ hd
 have hlen:=a.len
 rcases a.t with⟨_,e⟩ |⟨id,e1,e2⟩
 ·rw[e]at hy;simp at hy
 ·refine⟨id,by rw[e1,hlen],_,e2,?_,fun h' eO hf=>⟨yl.set k (f d,x),⟨?_,?_,fun y o_=>?_⟩⟩⟩
  ·have:=(zM.1 hy).1
   rw[fy iY]
   omega
  ·refine .inr ⟨id,by rw[e1,List.length_set],?_⟩
   rw[eO,CX iY hy ho (hv x)]
  ·rw[List.map_set,a.e]
   apply List.ext_getElem?
   intro i
   rw[getElem?_modify',List.getElem?_set]
   by_cases hk:k=i
   ·subst hk
    rw[zX rfl,zX rfl,zX (zM.1 hd).1,hd];rfl
   ·rw[zW hk,zW hk]
  ·have dH:∀{z:AV}{l:List ByteArray},bN hZ 1 9 h z l->bN hZ 1 9 h' z l:=fun hz=>dw hz hf fun i o ho ht _ e=>by subst e;rw[e2]at ho;cases ho;exact absurd ht (show(78:Nat)≠9 by decide)
   rcases List.mem_or_eq_of_mem_set o_ with h1 |h1
   ·exact dH (a.p y h1)
   ·subst h1
    rw[show(f d,x).1.params=(f d).params from rfl,hp]
    exact dH wY
def nZ(bk:Bk):Prop:=∀d∈bk.ds,d.depth<=32/\d.params≠[]
theorem Xb:kW Pg 44=some [true,false]:=by kernel_rfl
theorem Gc(a c:Arg):nB Pg 44 a.enc c.enc=some (decide (eM a=eM c)):=by
 unfold nB
 rw[Xb]
 simp only[Option.bind_some,gS,Arg.enc,yB,Bool.and_true]
 by_cases h1:a.name=c.name<;>by_cases h2:a.index=c.index<;>simp[eM,h1,h2]
def hU(own:Option Nat):Int:=match own with |some k=>k |none=>-1
section
variable {W:Nat->Prop} {QR QN:VK} {QE:Nat->VK} {QP:AV->AH->Prop} {h:AH} {n0 b i vr:Nat} {xr:AV} {bk:Bk} {pl er:Int} {xq xb xd:AV} {yl:List (bY×AV)} {rs:List (Row×AV)} {y:Row×AV} {res:Er Bk} {own:Option Nat} {dp:Int}
theorem RB.zq(rb:RB n0 h b xr bk pl er xq xb xd yl){k:Nat}{d:bY}(hd:bk.ds[k]?=some d){f:bY->bY}(hp:(f d).params=d.params){o:Nat}{v:AV}(ho:o<7)(hv:∀x,(ky (d,x)).set o v=ky (f d,x)) :
  ∃id,xd=.sl id 0 bk.ds.length/\∃cells,h.obj id=some (aN cells 7 78)/\k*7+o<cells.length/\n0<=id/\∀h',h'.obj id=some { cells:=putCells cells (k*7+o) [v],sz:=7,ty:=78 }->Fr h h' (·=id)->∃lx,RB n0 h' b xr { bk with ds:=bk.ds.modify k f } pl er xq xb xd lx/\Fr h h' (TW TB n0 h):=by
 obtain⟨id,e1,cells,e2,e3,e4⟩:=rb.d.Zx hd hp ho hv
 have hn:=rb.n.2.2.2 _ _ _ e1
 refine⟨id,e1,cells,e2,e3,hn,fun h' eO hf=>?_⟩
 obtain⟨lx,hdt⟩:=e4 h' eO hf
 have ne:∀{j:Nat}{o:AO},h.obj j=some o->o.ty≠78->¬j=id:=fun ho ht e=>by subst e;rw[e2]at ho;cases ho;exact ht rfl
 exact⟨lx,⟨rb.n,hf.obj rb.b (ne rb.b (show(54:Nat)≠78 by decide)),dw rb.q hf fun _ _ ho ht _=>ne ho (by rw[ht];decide),dw rb.s hf fun _ _ ho ht _=>ne ho (by rw[ht];decide),hdt,rb.sep⟩,TW.iO hf hn e2 rfl rfl⟩
theorem Lv{k:Nat}{d:bY}{n:Int}(hd:bk.ds[k]?=some d)(hn:n<=d.depth):jV bk (some k) n=bk:=by
 unfold jV
 simp only
 have:bk.ds.modify k (fun d=>{ d with depth:=max d.depth n })=bk.ds:=by
  apply List.ext_getElem?
  intro i
  rw[getElem?_modify']
  by_cases hk:k=i
  ·subst hk
   rw[zX rfl,hd]
   simp only[yB,zQ]
   rw[Int.max_eq_left hn]
  ·rw[zW hk]
 rw[this]
theorem OI(k:DE W QR h n0 b i vr xr bk pl er xq xb xd yl rs y (if own.isSome=true/\32<dp+1 then .error 102 else .ok (jV bk own (dp+1))))(hd:nZ bk)(ho:∀k,own=some k->k<bk.ds.length)(vI:0<=dp/\dp<=1000) :
  cJ.n9 W QR QN QE QP (.ptr b 0) (I i) (I (hU own)) (I dp) h:=by
 have w1:IntKind.i64.wrap (dp+1)=dp+1:=aS (by omega) (by omega)
 cases own with
 |none=>
  have e:decide ((-1:Int)>=0)=false:=rfl
  show cJ.n9 W QR QN QE QP (.ptr b 0) (I i) (I (-1)) (I dp) h
  simp only[cJ.n9,io,e,cJ.n8,ck,zS,zE,zD,zC,zH,cJ.n7,bu,if_false,cJ.n6,aj,cJ.n1]
  exact k.hk bk xq xb xd yl h (by simp[jV]) k.rb (TW.aO Fr.refl)
 |some j=>
  have e:(j:Int)>=0:=by omega
  show cJ.n9 W QR QN QE QP (.ptr b 0) (I i) (I (j:Int)) (I dp) h
  have aR:=ho j rfl
  have w7:bk.ds[j]?=some bk.ds[j]:=zJ aR
  generalize bk.ds[j]=d at *
  obtain⟨x,vE,_⟩:=k.rb.d.at_ w7
  have vN:=(hd d (zP w7)).1
  simp only[cJ.n9,io,zL e,cJ.n8,ck,zS,zD,zF,zC,zI,aT,w1,aD,ag,au,k.rb.b,ao,zG,zA,zB,ab]
  refine dn (k:=4) k.rb.d.t.cF iY vE (by omega) rfl fun _=>?_
  simp only[eU,gt_iff_lt]
  by_cases k1:d.depth<dp+1
  ·obtain⟨id,e1,cells,e2,e3,hn,e4⟩:=k.rb.zq w7 (f:=fun d=>{ d with depth:=max d.depth (dp+1) }) rfl (o:=4) (v:=I (dp+1)) (by omega) (fun x=>by simp[ky];omega)
   simp only[zL k1,cJ.n7,bu,zV,cJ.n6,aj,zD,zF,zC,zI,cJ.n5,aD,ag,au,k.rb.b,ao,zG,zA,zB,ab,aT,w1,e1,kL,zY,aF,e2,dC,bG]
   refine⟨⟨by omega,by omega⟩,⟨k.hW id (.inl ⟨hn,_,e2,rfl,rfl⟩),rfl,rfl,by omega⟩,?_⟩
   have f1:Fr h (h.put id (j*7+4) [I (dp+1)]) (·=id):=Fr.refl.put (.inl rfl)
   have o1:=cX (off:=j*7+4) (cs:=[I (dp+1)]) e2
   generalize h.put id (j*7+4) [I (dp+1)]=h1 at *
   obtain⟨lx,AJ,g1⟩:=e4 h1 o1 f1
   simp only[cJ.n4,aT,w1,eU,gt_iff_lt]
   by_cases k2:32<dp+1
   ·simp only[zL k2,cJ.n3,aj,zD,zF,zC,zI,cJ.n2]
    refine⟨TW TB n0 h1,fun id hs _=>k.hW id (TW.back g1 hs),BW AJ.bn ?_ k.hy (fun _ h=>h) fun h2 be f2=>k.he 102 h2 (by rw[zX ⟨rfl,k2⟩]) be (TW.trans g1 f2)⟩
    exact⟨k.rt.r.oO g1 rfl,fun y hy=>⟨(k.rt.a y hy).1.oO g1 rfl,(k.rt.a y hy).2⟩,k.rt.n⟩
   ·simp only[zK k2,cJ.n3,aj,zE,zD,zC,zH,cJ.n1]
    exact k.hk _ xq xb xd lx h1 (by rw[zW (fun h=>k2 h.2)];rfl) AJ g1
  ·simp only[zK k1,cJ.n7,bu,zV,cJ.n6,aj,zE,zD,zC,zH,cJ.n1]
   refine k.hk bk xq xb xd yl h ?_ k.rb (TW.aO Fr.refl)
   rw[zW (by simp;omega),Lv w7 (by omega)]
theorem Sk(k:DE W QR h n0 b i vr xr bk pl er xq xb xd yl rs y (if tA y.1.args then .error 113 else if own.isSome=true/\32<dp+1 then .error 102 else .ok (jV bk own (dp+1))))(hd:nZ bk)(ho:∀k,own=some k->k<bk.ds.length)(vI:0<=dp/\dp<=1000) :
  cJ.bW W QR QN QE QP (.ptr b 0) (I i) (I (hU own)) (.ptr vr 0) (I y.1.args.length) (I dp) h:=by
 obtain⟨ha,hl⟩:=k.rt.a y (zP k.hy)
 unfold cJ.bW cJ.cp
 refine bU (ι:=Nat) (fun m v h'=>v=[.ptr b 0,I i,I (hU own),.ptr vr 0,I y.1.args.length,I dp,I m]/\m<=y.1.args.length/\h'=h/\∀j a,j<m->(y.1.args.map eM)[j]?=some a->eV a ((y.1.args.map eM).take j)=false) (fun m=>y.1.args.length-m) 0 ⟨rfl,by omega,rfl,fun j a h=>by omega⟩ ?_
 rintro K m v h' ⟨rfl,hm,rfl,hb⟩ step
 simp only[cJ.cB,zN,zO,cJ.b_,aZ]
 by_cases aR:m<y.1.args.length
 ·have eh:(m:Int)<y.1.args.length:=by omega
  have g1:y.1.args[m]?=some y.1.args[m]:=zJ aR
  have w1:IntKind.i64.wrap ((m:Int)+1)=((m+1:Nat):Int):=by rw[aS (by omega) (by omega)];simp
  have gm:(y.1.args.map eM)[m]?=some (eM y.1.args[m]):=by rw[List.getElem?_map,g1];rfl
  simp only[zL eh,cJ.bQ,aj,zD,zF,zC,zI,cJ.bO]
  unfold cJ.bH
  refine bU (ι:=Nat) (fun j v h1=>v=[.ptr b 0,I i,I (hU own),.ptr vr 0,I y.1.args.length,I dp,I m,I j]/\j<=m/\h1=h'/\eV (eM y.1.args[m]) ((y.1.args.map eM).take j)=false) (fun j=>m-j) 0 ⟨rfl,by omega,rfl,rfl⟩ ?_
  rintro K2 j v h1 ⟨rfl,hj,rfl,kT⟩ step2
  simp only[cJ.fY,zN,zO,cJ.bz,aZ]
  by_cases qc:j<m
  ·have lH:(j:Int)<m:=by omega
   have hjN:j<y.1.args.length:=by omega
   have g2:y.1.args[j]?=some y.1.args[j]:=zJ hjN
   have w2:IntKind.i64.wrap ((j:Int)+1)=((j+1:Nat):Int):=by rw[aS (by omega) (by omega)];simp
   have tk:(y.1.args.map eM).take (j+1)=(y.1.args.map eM).take j++[eM y.1.args[j]]:=by
    rw[List.take_add_one,List.getElem?_map,g2];rfl
   have hY:eM y.1.args[j]∈(y.1.args.map eM).take m:=List.mem_take_iff_getElem.2 ⟨j,by simp;omega,by simp⟩
   generalize y.1.args[j]=c at *
   generalize y.1.args[m]=a at *
   simp only[zL lH,cJ.bC,aj,zD,zF,zC,zI,cJ.bD,ag,au,k.bS,ao,zG,ay,zA,zB,ab]
   refine gO ha Arg.bL g1 fun _=>?_
   refine gO ha Arg.bL g2 fun _=>?_
   refine⟨by rw[Gc];rfl,?_⟩
   rw[Gc]
   simp only[Option.getD_some]
   by_cases e:eM a=eM c
   ·have lI:tA y.1.args=true:=ul gm (by rw[uI,e];simpa using hY)
    rw[zX lI]at k
    simp only[zL e,cJ.bt,aj,zD,zF,zC,zI,cJ.bc]
    exact k.bad rfl
   ·simp only[zK e,cJ.bt,aj,zE,zD,zC,zH,cJ.a_,aT,w2]
    refine step2 (j+1) _ _ (by omega) ⟨rfl,by omega,rfl,?_⟩
    rw[uI]at kT ⊢
    rw[tk]
    simp only[decide_eq_false_iff_not,List.mem_append,List.mem_singleton,not_or]at kT ⊢
    exact⟨kT,e⟩
  ·have dA:¬(j:Int)<m:=by omega
   have ek:j=m:=by omega
   subst ek
   simp only[zK dA,cJ.bC,aj,zE,zD,zC,zH,zV,cJ.aQ,zN,zO,aT,w1]
   refine step (j+1) _ _ (by omega) ⟨rfl,by omega,rfl,fun q a hq ha=>?_⟩
   by_cases Hn:q=j
   ·subst Hn
    rw[gm]at ha;cases ha
    exact kT
   ·exact hb q a (by omega) ha
 ·have dA:¬(m:Int)<y.1.args.length:=by omega
  have lI:tA y.1.args=false:=x_ fun j a hj=>hb j a (by have:=(zM.1 hj).1;rw[zZ]at this;omega) hj
  rw[lI,zW (by decide)]at k
  simp only[zK dA,cJ.bQ,aj,zE,zD,zC,zH,zV,zN,zO]
  exact OI k hd ho vI
end
end
section
open Go.Ab
attribute [-simp] aX aF
section
variable {W:Nat->Prop} {QR QN:VK} {QE:Nat->VK} {QP:AV->AH->Prop} {h:AH} {n0 b i vr:Nat} {xr:AV} {bk:Bk} {pl er:Int} {xq xb xd:AV} {yl:List (bY×AV)} {rs:List (Row×AV)} {y:Row×AV} {res:Er Bk} {own:Option Nat} {dp:Int}
def VE(bk:Bk)(own:Option Nat)(r:Row)(dp:Int):Er Bk:=if tA r.args then .error 113 else if own.isSome=true/\32<dp+1 then .error 102 else .ok (jV bk own (dp+1))
def Gk(bk:Bk)(own:Option Nat)(r:Row)(dp:Int):Er Bk:=if fN (eZ bk (gC bk own)) r.args≠0 then .error (fN (eZ bk (gC bk own)) r.args) else VE bk own r dp
theorem OJ(k:DE W QR h n0 b i vr xr bk pl er xq xb xd yl rs y (Gk bk own y.1 dp))(hd:nZ bk)(ho:∀k,own=some k->k<bk.ds.length)(vI:0<=dp/\dp<=1000) :
  cJ.d_ W QR QN QE QP (.ptr b 0) (I i) (I (hU own)) (.ptr vr 0) (I y.1.args.length) (I dp) h:=by
 obtain⟨ha,hl⟩:=k.rt.a y (zP k.hy)
 unfold Gk at k
 unfold cJ.d_ cJ.dF
 refine bU (ι:=Nat) (fun m v h'=>v=[.ptr b 0,I i,I (hU own),.ptr vr 0,I y.1.args.length,I dp,I m]/\m<=y.1.args.length/\Fr h h' (fun _=>False)/\∀j a,j<m->y.1.args[j]?=some a->eZ bk (gC bk own) a=0) (fun m=>y.1.args.length-m) 0 ⟨rfl,by omega,Fr.refl,fun j a h=>by omega⟩ ?_
 rintro K m v h1 ⟨rfl,hm,f1,hb⟩ step
 simp only[cJ.kV,zN,zO,cJ.eJ,aZ]
 have k1:=k.aU f1
 by_cases aR:m<y.1.args.length
 ·have eh:(m:Int)<y.1.args.length:=by omega
  have g1:y.1.args[m]?=some y.1.args[m]:=zJ aR
  generalize y.1.args[m]=a at *
  have w1:IntKind.i64.wrap ((m:Int)+1)=((m+1:Nat):Int):=by rw[aS (by omega) (by omega)];simp
  simp only[zL eh,cJ.ed,aj,zD,zF,zC,zI,cJ.dV,ag,au,k1.bS,ao,zG,ay,zA,zB,ab]
  refine fV (ha.aU f1) Arg.bL (Arg.iE a) g1 rfl rfl (fun id hid=>k1.hW id (.inr hid)) fun va h2 f2 _ oa=>?_
  have k2:=k1.aU f2
  have cw:=f1.bX f2
  have lR:∀h3,Fr h h3 (fun _=>False)->eZ bk (gC bk own) a=0->cJ.cb W QR K (fun(XU:Nat) (vs:List AV) (h:AH)=>if XU=0 then cJ.bW W QR QN QE QP (vs.getD 0 aa) (vs.getD 1 aa) (vs.getD 2 aa) (vs.getD 3 aa) (vs.getD 4 aa) (vs.getD 5 aa) h else QE XU vs h) QP (.ptr b 0) (I i) (I (hU own)) (.ptr vr 0) (I y.1.args.length) (I dp) (I m) h3:=fun h3 f3 hu=>by
   simp only[cJ.cb,aT,w1]
   refine step (m+1) _ h3 (by omega) ⟨rfl,by omega,f3,fun j c hj hc=>?_⟩
   by_cases hjm:j=m
   ·subst hjm;rw[g1]at hc;cases hc;exact hu
   ·exact hb j c (by omega) hc
  have nF:∀e,eZ bk (gC bk own) a=e->e≠0->(if fN (eZ bk (gC bk own)) y.1.args≠0 then Except.error (fN (eZ bk (gC bk own)) y.1.args) else VE bk own y.1 dp:Er Bk)=.error e:=fun e h1 h2=>by
   have:=xj (f:=eZ bk (gC bk own)) g1 (by rw[h1];exact h2) hb
   rw[this,h1,zX h2]
  cases own with
  |none=>
   show cJ.dT _ _ _ _ _ _ _ (I (-1)) _ _ _ _ _ _
   have e:decide ((-1:Int)<0)=true:=rfl
   simp only[cJ.dT,aZ,e,cJ.dW,aj,zD,zF,zC,zI,cJ.dx]
   refine di oa rfl fun _=>?_
   simp only[aD,ag,au,k2.rb.b,ao,zG,zA,zB,ab]
   refine⟨TW TB n0 h2,fun id hs _=>k2.hW id (.inl hs),BX k2.rb.bn k2.rt k2.hy k2.rb.q.cF (by have:=k.ln.1;omega) (fun _ h=>h) ?_ ?_⟩
   ·intro h3 h0 be f3
    simp only[dq,zT,cJ.cT,aj,zD,zF,zC,zI,cJ.da]
    exact k2.he _ h3 (nF _ rfl h0) be f3
   ·intro h3 h0 f3
    simp only[dq,zS,cJ.cT,aj,zE,zD,zC,zH,cJ.cK]
    exact lR h3 (cw.bX f3) h0
  |some j=>
   show cJ.dT _ _ _ _ _ _ _ (I (j:Int)) _ _ _ _ _ _
   have e:¬(j:Int)<0:=by omega
   have Np:=ho j rfl
   have w7:bk.ds[j]?=some bk.ds[j]:=zJ Np
   have jg:gC bk (some j)=some bk.ds[j]:=by unfold gC;simp only[Option.bind_some];exact w7
   rw[jg]at nF lR
   generalize bk.ds[j]=d at *
   obtain⟨x,vE,wY⟩:=k2.rb.d.at_ w7
   have jJ:=(k.bf.i.ok.ds d (zP w7)).1
   unfold eZ at nF lR
   simp only at nF lR
   simp only[cJ.dT,aZ,zK e,cJ.dW,aj,zE,zD,zC,zH,cJ.cz,ag,au,oa,ao,zG,Arg.enc,zA,zB,ab,b5]
   by_cases e1:a.index=-1
   ·have VD:(a.index != -1)=false:=by simp[e1]
    rw[zW (by simpa using e1)]at lR
    simp only[VD,cJ.cy,aj,zE,zD,zC,zH,cJ.cl,aD,ag,au,k2.rb.b,ao,zG,zA,zB,ab]
    refine dn (k:=1) k2.rb.d.t.cF iY vE (by omega) rfl fun _=>?_
    simp only[ag,au,oa,ao,zG,Arg.enc,zA,ab]
    refine⟨fun _=>False,fun _ h=>h.elim,EI wY.cF jJ ?_⟩
    cases yL:fQ a.name d.params 0 with
    |some q=>
     have kT:eV a.name d.params=true:=by unfold eV;rw[yL];rfl
     have e2:¬(q:Int)<0:=by omega
     simp only[aZ,zK e2,cJ.cj,aj,zE,zD,zC,zH]
     exact lR h2 cw (by rw[kT];rfl)
    |none=>
     have kT:eV a.name d.params=false:=by unfold eV;rw[yL];rfl
     have e2:(-1:Int)<0:=by omega
     simp only[aZ,zL e2,cJ.cj,aj,zD,zF,zC,zI,cJ.cn]
     refine k2.bad ?_
     rw[jg]
     exact nF 110 (by rw[zW (by simpa using e1),kT];rfl) (by decide)
   ·have VD:(a.index != -1)=true:=by simpa using e1
    simp only[VD,cJ.cy,aj,zD,zF,zC,zI,cJ.bV]
    refine k2.bad ?_
    rw[jg]
    exact nF 112 (by rw[zX e1]) (by decide)
 ·have dA:¬(m:Int)<y.1.args.length:=by omega
  have jF:fN (eZ bk (gC bk own)) y.1.args=0:=xi fun j a hj=>hb j a (by have:=(zM.1 hj).1;omega) hj
  rw[zW (by simpa using jF)]at k1
  simp only[zK dA,cJ.ed,aj,zE,zD,zC,zH,zV,zN,zO]
  exact Sk k1 hd ho vI
theorem HZ{n:Int}(k:DE W QR h n0 b i vr xr bk pl er xq xb xd yl rs y (if (y.1.args.length:Int)≠n then .error 111 else Gk bk own y.1 dp))(hd:nZ bk)(ho:∀k,own=some k->k<bk.ds.length)(vI:0<=dp/\dp<=1000) :
  cJ.eu W QR QN QE QP (.ptr b 0) (I i) (I (hU own)) (.ptr vr 0) (I n) (I dp) h:=by
 obtain⟨ha,hl⟩:=k.rt.a y (zP k.hy)
 simp only[cJ.eu,ag,au,k.bS,ao,zG,ay,zA,zB,ab,ha.len.1,ha.len.2,zH,b5]
 by_cases e:(y.1.args.length:Int)=n
 ·have e':((y.1.args.length:Int) != n)=false:=by simp[e]
  rw[zW (by simpa using e)]at k
  simp only[e',cJ.eC,aj,zE,zD,zC,zH]
  rw[<-e]
  exact OJ k hd ho vI
 ·have e':((y.1.args.length:Int) != n)=true:=by simpa using e
  rw[zX e]at k
  simp only[e',cJ.eC,aj,zD,zF,zC,zI,cJ.dL]
  exact k.bad rfl
theorem GA(k:DE W QR h n0 b i vr xr bk pl er xq xb xd yl rs y (if (gF bk y.1.name).1=0 then .error 80 else if (y.1.args.length:Int)≠(gF bk y.1.name).1 then .error 111 else Gk bk own y.1 (gF bk y.1.name).2))(hd:nZ bk)(ho:∀k,own=some k->k<bk.ds.length) :
  cJ.ir W QR QN QE QP (.ptr b 0) (I i) (I (hU own)) (.ptr vr 0) h:=by
 simp only[cJ.ir,ag,au,k.bS,ao,zG,ay,zA,zB,ab]
 have Fu:=xD y.1.name
 have rest:∀x:Int,((x=-1/\eB bk.ds y.1.name=none)\/∃(j:Nat)(d:bY),x=j/\bk.ds[j]?=some d/\eB bk.ds y.1.name=some d)->cJ.jC W QR QN QE QP (.ptr b 0) (I i) (I (hU own)) (.ptr vr 0) (I x) h:=fun x hx=>by
  simp only[cJ.jC,ag,au,k.bS,ao,zG,ay,zA,zB,ab]
  refine⟨fun _=>False,fun _ h=>h.elim,nc ?_⟩
  simp only[cJ.jD,eG]
  by_cases k0:cu y.1.name=0
  ·have T_:(cu y.1.name==0)=true:=by simp[k0]
   simp only[T_,cJ.iu,aj,zD,zF,zC,zI,cJ.fq,aZ]
   rcases hx with⟨rfl,hn⟩ |⟨j,d,rfl,hj,lI⟩
   ·have hw:(gF bk y.1.name).1=0:=by unfold gF;rw[hn];exact k0
    rw[zX hw]at k
    have e:(-1:Int)<0:=by omega
    simp only[zL e,cJ.gg,ck,zT,zF,zD,zC,zI,zH,cJ.hG,bu,zV,cJ.fg,aj,cJ.e_]
    exact k.bad rfl
   ·have e:¬(j:Int)<0:=by omega
    obtain⟨x,vE,wY⟩:=k.rb.d.at_ hj
    have hY:=zP hj
    have KR:=hd d hY
    have hdb:=k.bf.i.ok.ds d hY
    simp only[zK e,cJ.gg,ck,zT,zE,zD,zC,zI,aD,ag,au,k.rb.b,ao,zG,zA,zB,ab]
    refine dn (k:=6) k.rb.d.t.cF iY vE (by omega) rfl fun _=>?_
    simp only[cJ.hG,bu,zE,if_false,cJ.fg]
    cases hw:d.whole with
    |false=>
     have Un:(gF bk y.1.name).1=0:=by unfold gF;rw[lI];simp only[hw,zE,if_false];exact k0
     rw[zX Un]at k
     simp only[zT,aj,zD,zF,zC,zI,cJ.e_]
     exact k.bad rfl
    |true=>
     have Un:gF bk y.1.name=((d.params.length:Int),d.depth):=by unfold gF;rw[lI];simp only[hw,zV]
     have du:¬((d.params.length:Int)=0):=fun e=>KR.2 (List.length_eq_zero_iff.1 (by omega))
     rw[Un]at k
     simp only at k
     rw[zW du]at k
     simp only[zS,aj,zE,zD,zC,zH,cJ.dO,aD,ag,au,k.rb.b,ao,zG,zA,zB,ab]
     refine dn (k:=1) k.rb.d.t.cF iY vE (by omega) rfl fun _=>?_
     simp only[wY.cF.len.1,wY.cF.len.2,zH]
     refine dn (k:=4) k.rb.d.t.cF iY vE (by omega) rfl fun _=>?_
     exact HZ (dp:=d.depth) k hd ho (by omega)
  ·have T_:(cu y.1.name==0)=false:=by simpa using k0
   have hn:eB bk.ds y.1.name=none:=by
    cases lI:eB bk.ds y.1.name with
    |none=>rfl
    |some d=>
     obtain⟨j,g1,g2⟩:=uV lI
     have:=(k.bf.a d (zP g1)).1
     rw[g2]at this;exact absurd this k0
   have hw:gF bk y.1.name=(cu y.1.name,0):=by unfold gF;rw[hn]
   rw[hw]at k
   simp only at k
   rw[zW k0]at k
   simp only[T_,cJ.iu,aj,zE,zD,zC,zH]
   exact HZ k hd ho (by omega)
 refine⟨fun _=>False,fun _ h=>h.elim,sH k.rb.b rfl k.rb.d k.ln.2.2 ?_ ?_⟩
 ·intro hn
  exact rest (-1) (.inl ⟨rfl,hn⟩)
 ·intro j d hj lI
  exact rest j (.inr ⟨j,d,rfl,hj,lI⟩)
theorem Sj(k:DE W QR h n0 b i vr xr bk pl er xq xb xd yl rs y (ka bk own y.1))(hd:nZ bk)(ho:∀k,own=some k->k<bk.ds.length) :
  cJ.qz W QR QN QE QP (.ptr b 0) (I i) (I (hU own)) (.ptr vr 0) h:=by
 have ue:ka bk own y.1=if lW bk own y.1.name then .error 114 else if (gF bk y.1.name).1=0 then .error 80 else if (y.1.args.length:Int)≠(gF bk y.1.name).1 then .error 111 else Gk bk own y.1 (gF bk y.1.name).2:=rfl
 rw[ue]at k
 cases own with
 |none=>
  have e:decide ((-1:Int)>=0)=false:=rfl
  have hl:¬lW bk none y.1.name=true:=by unfold lW gC;simp
  rw[zW hl]at k
  show cJ.qz W QR QN QE QP (.ptr b 0) (I i) (I (-1)) (.ptr vr 0) h
  simp only[cJ.qz,io,e,cJ.sF,ck,zS,zE,zD,zC,zH,cJ.mq,bu,if_false,cJ.mQ,aj]
  exact GA (own:=none) k hd ho
 |some j=>
  have e:(j:Int)>=0:=by omega
  have Np:=ho j rfl
  have w7:bk.ds[j]?=some bk.ds[j]:=zJ Np
  have UN:lW bk (some j) y.1.name=decide (y.1.name=bk.ds[j].name):=by unfold lW gC;simp only[Option.bind_some,w7]
  generalize bk.ds[j]=d at *
  obtain⟨x,vE,wY⟩:=k.rb.d.at_ w7
  show cJ.qz W QR QN QE QP (.ptr b 0) (I i) (I (j:Int)) (.ptr vr 0) h
  simp only[cJ.qz,io,zL e,cJ.sF,ck,zS,zD,zF,zC,zI,aD,ag,au,k.rb.b,ao,zG,zA,zB,ab]
  refine dn (k:=0) k.rb.d.t.cF iY vE (by omega) rfl fun _=>?_
  simp only[ag,au,k.bS,ao,zG,ay,zA,zB,ab,bB]
  by_cases e1:d.name=y.1.name
  ·rw[UN,zL e1.symm,zX rfl]at k
   simp only[zL e1,cJ.mq,bu,zV,cJ.mQ,aj,zD,zF,zC,zI,cJ.kO]
   exact k.bad rfl
  ·rw[UN,zK (fun h=>e1 h.symm),zW (by decide)]at k
   simp only[zK e1,cJ.mq,bu,zV,cJ.mQ,aj,zE,zD,zC,zH]
   exact GA (own:=some j) k hd ho
end
section
variable {h:AH} {M:Nat->Prop} {R:AE->AH->Prop} {n0 b i:Nat} {xr:AV} {bk:Bk} {pl er:Int} {xq xb xd:AV} {yl:List (bY×AV)} {rs:List (Row×AV)} {y:Row×AV} {own:Option Nat}
theorem Q2(rb:RB n0 h b xr bk pl er xq xb xd yl)(rt:RT h xr rs)(hy:rs[i]?=some y)(bf:lL bk)(ln:bk.qs.length<=64/\bk.bs.length<=64/\bk.ds.length<=100000000)(hd:nZ bk)(ho:∀k,own=some k->k<bk.ds.length)(hM:∀id,TW TB n0 h id->M id)
  (he:∀e h',ka bk own y.1=.error e->BE h' b y.1.place e->Fr h h' (TW TB n0 h)->R (.ret (B false)) h')
  (hk:∀bR pN pP pO lx h',ka bk own y.1=.ok bR->RB n0 h' b xr bR pl er pN pP pO lx->Fr h h' (TW TB n0 h)->R (.ret (B true)) h'):aE Pg 51 [.ptr b 0,I i,I (hU own)] h M R:=by
 apply cJ.aM
 simp only[cJ.pZ,cJ.sE,aD,ag,au,rb.b,ao,zG,zA,ab]
 refine fV rt.r cO (rt.one hy) hy rfl rfl (fun id hid=>.inr hid) fun vr h1 f1 _ j7=>?_
 refine Sj ⟨rb.aU f1,rt.aU f1,hy,j7,fun id hid=>hid.elim (fun hid=>(TW.back (TW.aO f1) hid).elim (fun h=>.inl (hM id h)) .inr) (fun hid=>.inr (zR f1.next hid)),bf,ln,?_,?_⟩ hd ho
 ·intro e h' h2 h3 f2
  simpa using he e h' h2 h3 (TW.trans (TW.aO f1) f2)
 ·intro bR pN pP pO lx h' h2 h3 f2
  simpa using hk bR pN pP pO lx h' h2 h3 (TW.trans (TW.aO f1) f2)
end
end
section
open Go.Ab
attribute [-simp] aX aF
section
variable {W:Nat->Prop} {QR QN:VK} {QE:Nat->VK} {QP:AV->AH->Prop} {h:AH} {n0 b i vr:Nat} {xr:AV} {bk:Bk} {pl er:Int} {xq xb xd:AV} {yl:List (bY×AV)} {rs:List (Row×AV)} {y:Row×AV} {res:Er Bk} {own:Option Nat} {dp:Int}
theorem DE.same(k:DE W QR h n0 b i vr xr bk pl er xq xb xd yl rs y (.ok bk)):QR [B true] h:=k.hk bk xq xb xd yl h rfl k.rb (TW.aO Fr.refl)
theorem Sv(k:DE W QR h n0 b i vr xr bk pl er xq xb xd yl rs y (if y.1.num<0 then .error 112 else .ok bk)):c9.n5 W QR QN QE QP (.ptr b 0) (I i) (.ptr vr 0) h:=by
 simp only[c9.n5,ag,au,k.bS,ao,zG,ay,zA,zB,ab,aZ]
 by_cases k1:y.1.num<0
 ·rw[zX k1]at k
  simp only[zL k1,c9.n4,aj,zD,zF,zC,zI,c9.n3]
  exact k.bad rfl
 ·rw[zW k1]at k
  simp only[zK k1,c9.n4,aj,zE,zD,zC,zH,c9.n1]
  exact k.same
theorem Wj(k:DE W QR h n0 b i vr xr bk pl er xq xb xd yl rs y (tU bk y.1)):c9.bz W QR QN QE QP (.ptr b 0) (I i) (.ptr vr 0) h:=by
 simp only[c9.bz,aD,ag,au,k.rb.b,k.bS,ao,zG,ay,zA,zB,ab]
 refine⟨fun _=>False,fun _ h=>h.elim,rk k.rb.s.cF (by have:=k.ln.2.1;omega) ?_ ?_⟩
 ·intro hr
  have e:(-1:Int)<0:=by omega
  simp only[c9.bC,aZ,zL e,c9.bD,aj,zD,zF,zC,zI,c9.bt]
  exact k.bad (by unfold tU;rw[hr])
 ·intro j g hj hr
  have e:¬(j:Int)<0:=by omega
  have ei:tU bk y.1=if y.1.num<0\/(g.size<63/\2^g.size.toNat<=y.1.num) then .error 112 else .ok bk:=by unfold tU;rw[hr]
  rw[ei]at k
  have hg:=k.bf.i.ok.sb g (zP hj)
  simp only[c9.bC,aZ,zK e,c9.bD,aj,zE,zD,zC,zH,c9.bc,ag,au,k.bS,ao,zG,ay,zA,zB,ab]
  by_cases k1:y.1.num<0
  ·rw[zX (.inl k1)]at k
   simp only[zL k1,c9.a_,ck,zT,zS,zF,zE,zD,zC,zI,zH,c9.aQ]
   have fin:∀t,c9.n9 W QR QN QE QP (.ptr b 0) (I i) (B true) t aa h:=fun t=>by
    simp only[c9.n9,ck,zT,zF,zD,zC,zI,zH,zE,c9.n8,bu,zV,c9.n7,aj,c9.n6]
    exact k.bad rfl
   exact fin aa
  ·simp only[zK k1,c9.a_,ck,zT,zE,zD,zC,zI,aD,ag,au,k.rb.b,ao,zG,zA,zB,ab]
   refine dn (k:=2) k.rb.s.cF jk hj (by omega) rfl fun _=>?_
   simp only[aZ]
   by_cases k2:g.size<63
   ·have hp:IntKind.i64.wrap (1*2^(min g.size.toNat IntKind.i64.bits))=2^g.size.toNat:=by
     have e:IntKind.i64.bits=64:=rfl
     rw[e,Nat.min_eq_left (by omega),Int.one_mul]
     have h1:(2:Int)^g.size.toNat=((2^g.size.toNat:Nat):Int):=by simp
     have h2:2^g.size.toNat<=2^62:=Nat.pow_le_pow_right (by decide) (by omega)
     have hP:∀P:Nat,P<=2^62->IntKind.i64.wrap (P:Int)=P:=fun P h=>aS (by omega) (by omega)
     rw[h1]
     exact hP _ h2
    have k0:0<=g.size:=by omega
    simp only[zL k2,c9.aQ,ck,zS,zD,zF,zC,zI,ag,au,k.bS,k.rb.b,aD,ao,zG,ay,zA,zB,ab]
    refine dn (k:=2) k.rb.s.cF jk hj (by omega) rfl fun _=>?_
    simp only[pk,k0,zH,hp,io,ge_iff_le]
    by_cases k3:2^g.size.toNat<=y.1.num
    ·rw[zX (.inr ⟨k2,k3⟩)]at k
     simp only[zL k3,c9.n9,ck,zT,zE,zD,zC,zI,bu,zV,c9.n8,if_false,c9.n7,aj,zF,c9.n6]
     exact k.bad rfl
    ·rw[zW (fun h=>h.elim k1 (fun h=>k3 h.2))]at k
     simp only[zK k3,c9.n9,ck,zT,zE,zD,zC,zI,zH,bu,zV,c9.n8,if_false,c9.n7,aj,zF,c9.n1]
     exact k.same
   ·rw[zW (fun h=>h.elim k1 (fun h=>k2 h.1))]at k
    simp only[zK k2,c9.aQ,ck,zS,zE,zD,zC,zH,c9.n9,zT,zI,bu,if_false,c9.n8,c9.n7,aj,c9.n1]
    exact k.same
theorem LW(k:DE W QR h n0 b i vr xr bk pl er xq xb xd yl rs y (mi bk y.1.args)):c9.cy W QR QN QE QP (.ptr b 0) (I i) (.ptr vr 0) h:=by
 obtain⟨ha,hl⟩:=k.rt.a y (zP k.hy)
 have hk:=k
 simp only[c9.cy,ag,au,k.bS,ao,zG,ay,zA,zB,ab,ha.len.1,ha.len.2,zH,b5,pq]
 match l0:y.1.args with
 |[]=>
  rw[l0]at hk
  have h1:¬((([]:List Arg).length:Nat):Int)=1:=by simp
  simp only[zK h1,zT,c9.bV,aj,zD,zF,zC,zI,c9.cl]
  exact hk.bad rfl
 |a::c::l=>
  rw[l0]at hk
  have h1:¬(((a::c::l).length:Nat):Int)=1:=by simp only[List.length_cons];omega
  simp only[zK h1,zT,c9.bV,aj,zD,zF,zC,zI,c9.cl]
  exact hk.bad rfl
 |[a]=>
  rw[l0]at hk ha
  have h1:(([a].length:Nat):Int)=1:=rfl
  simp only[zL h1,zS,c9.bV,aj,zE,zD,zC,zH,c9.cj,ag,au,k.bS,ao,zG,ay,zA,zB,ab]
  refine gO (i:=0) ha Arg.bL rfl fun _=>?_
  simp only[aD,ag,au,k.rb.b,ao,zG,zA,zB,ab]
  refine⟨TW TB n0 h,fun id hs _=>k.hW id (.inl hs),BX k.rb.bn k.rt k.hy k.rb.q.cF (by have:=k.ln.1;omega) (fun _ h=>h) ?_ ?_⟩
  ·intro h3 h0 be f3
   exact hk.he _ h3 (by simp only[mi,kY];rw[zX h0]) be f3
  ·intro h3 h0 f3
   exact hk.hk bk xq xb xd yl h3 (by simp only[mi,kY];rw[zW (by simpa using h0)]) (k.rb.aU f3) (TW.aO f3)
theorem OW(k:DE W QR h n0 b i vr xr bk pl er xq xb xd yl rs y (kj bk y.1.args)):c9.cn W QR QN QE QP (.ptr b 0) (I i) (.ptr vr 0) h:=by
 obtain⟨ha,hl⟩:=k.rt.a y (zP k.hy)
 have hk:=k
 simp only[c9.cn,ag,au,k.bS,ao,zG,ay,zA,zB,ab,ha.len.1,ha.len.2,zH,b5,pq]
 by_cases hlen:y.1.args.length=2
 ·match l0:y.1.args,hlen with
  |[a,c],_=>
   rw[l0]at hk ha
   have h1:(([a,c].length:Nat):Int)=2:=rfl
   simp only[zL h1,zS,c9.cb,aj,zE,zD,zC,zH,c9.cp,ag,au,k.bS,ao,zG,ay,zA,zB,ab]
   refine gO (i:=0) ha Arg.bL rfl fun _=>?_
   simp only[aD,ag,au,k.rb.b,ao,zG,zA,zB,ab]
   refine⟨TW TB n0 h,fun id hs _=>k.hW id (.inl hs),BX k.rb.bn k.rt k.hy k.rb.q.cF (by have:=k.ln.1;omega) (fun _ h=>h) ?_ ?_⟩
   ·intro h3 h0 be f3
    simp only[c9.b_,ck,zS,zE,zD,zC,zH,c9.bQ,bu,if_false,c9.bO]
    exact hk.he _ h3 (by simp only[kj];rw[zX h0]) be f3
   ·intro h3 h0 f3
    have k3:=k.aU f3
    simp only[c9.b_,ck,zS,zD,zF,zC,zI,ag,au,k3.bS,ao,zG,ay,zA,zB,ab]
    refine gO (i:=1) (ha.aU f3) Arg.bL rfl fun _=>?_
    simp only[aD,ag,au,k3.rb.b,ao,zG,zA,zB,ab]
    refine⟨TW TB n0 h3,fun id hs _=>k3.hW id (.inl hs),BX k3.rb.bn k3.rt k.hy k3.rb.s.cF (by have:=k.ln.2.1;omega) (fun _ h=>h) ?_ ?_⟩
    ·intro h4 rQ be f4
     simp only[c9.bQ,bu,zV,c9.bO]
     exact hk.he _ h4 (by simp only[kj];rw[zW (by simpa using h0)];unfold kY;rw[zX rQ]) be (TW.trans (TW.aO f3) f4)
    ·intro h4 rQ f4
     simp only[c9.bQ,bu,zV,c9.bO]
     exact hk.hk bk xq xb xd yl h4 (by simp only[kj];rw[zW (by simpa using h0)];unfold kY;rw[zW (by simpa using rQ)]) (k3.rb.aU f4) (TW.aO (f3.bX f4))
 ·have h1:¬((y.1.args.length:Nat):Int)=2:=by omega
  simp only[zK h1,zT,c9.cb,aj,zD,zF,zC,zI,c9.bW]
  refine k.bad ?_
  unfold kj
  split
  ·rename_i hh;rw[hh]at hlen;exact absurd rfl hlen
  ·rfl
theorem JL{i:Int}(hk:y.1.kind=ch\/y.1.kind=cZ\/y.1.kind=bJ):fC bk own i y.1=fC bk none i y.1:=by
 unfold fC
 have n2:cZ≠ch:=by decide
 have n3:bJ≠ch:=by decide
 have n4:bJ≠cZ:=by decide
 rcases hk with hk |hk |hk
 ·rw[hk,zX rfl,zX rfl]
 ·rw[hk,zW n2,zW n2,zX rfl,zX rfl]
 ·rw[hk,zW n3,zW n3,zW n4,zW n4,zX rfl,zX rfl]
theorem Sw(k:DE W QR h n0 b i vr xr bk pl er xq xb xd yl rs y (fC bk own i y.1))(hd:nZ bk)(ho:∀k,own=some k->k<bk.ds.length)(Fc:0<=y.1.rows/\y.1.rows<=1000000000):c9.dO W QR QN QE QP (.ptr b 0) (I i) (I (hU own)) (.ptr vr 0) h:=by
 have decl:y.1.kind=ch\/y.1.kind=cZ\/y.1.kind=bJ->c9.n2 W QR QN QE QP (.ptr b 0) (I i) h:=fun hk=>by
  rw[JL hk]at k
  exact⟨TW TB n0 h,fun id hs _=>k.hW id (.inl hs),GS k.rb k.rt k.hy k.bf k.ln hk Fc (fun _ h=>h) k.he k.hk⟩
 have e1:(⟨#[113,117,98,105,116,115]⟩:ByteArray)=ch:=rfl
 have e2:(⟨#[98,105,116,115]⟩:ByteArray)=cZ:=rfl
 have e3:(⟨#[103,97,116,101]⟩:ByteArray)=bJ:=rfl
 have e4:(⟨#[114,101,112,101,97,116]⟩:ByteArray)=bj:=rfl
 have e5:(⟨#[105,102]⟩:ByteArray)=fK:=rfl
 have e6:(⟨#[117,115,101]⟩:ByteArray)=cQ:=rfl
 have e7:(⟨#[109,101,97,115,117,114,101]⟩:ByteArray)=cD:=rfl
 have e8:(⟨#[114,101,115,101,116]⟩:ByteArray)=dz:=rfl
 simp only[c9.dO,ag,au,k.bS,ao,zG,ay,zA,zB,ab,c9.eu,bB,e1]
 by_cases k1:y.1.kind=ch
 ·simp only[zL k1,c9.eC,aj,zD,zF,zC,zI,c9.dF]
  exact decl (.inl k1)
 simp only[zK k1,c9.eC,aj,zE,zD,zC,zH,c9.dL,bB,e2]
 by_cases k2:y.1.kind=cZ
 ·simp only[zL k2,c9.d_,aj,zD,zF,zC,zI,c9.dF]
  exact decl (.inr (.inl k2))
 simp only[zK k2,c9.d_,aj,zE,zD,zC,zH,bB,e3]
 by_cases k3:y.1.kind=bJ
 ·simp only[zL k3,c9.dF,aj,zD,zF,zC,zI]
  exact decl (.inr (.inr k3))
 clear decl
 unfold fC at k
 rw[zW k1,zW k2,zW k3]at k
 simp only[zK k3,c9.dF,aj,zE,zD,zC,zH,c9.eJ,bB,e4]
 by_cases k4:y.1.kind=bj
 ·rw[zX k4]at k
  simp only[zL k4,c9.ed,aj,zD,zF,zC,zI]
  exact Sv k
 rw[zW k4]at k
 simp only[zK k4,c9.ed,aj,zE,zD,zC,zH,c9.dV,bB,e5]
 by_cases k5:y.1.kind=fK
 ·rw[zX k5]at k
  simp only[zL k5,c9.dT,aj,zD,zF,zC,zI]
  exact Wj k
 rw[zW k5]at k
 simp only[zK k5,c9.dT,aj,zE,zD,zC,zH,c9.dW,bB,e6]
 by_cases k6:y.1.kind=cQ
 ·rw[zX k6]at k
  simp only[zL k6,c9.dx,aj,zD,zF,zC,zI,c9.bH]
  exact⟨TW TB n0 h,fun id hs _=>k.hW id (.inl hs),Q2 k.rb k.rt k.hy k.bf k.ln hd ho (fun _ h=>h) k.he k.hk⟩
 rw[zW k6]at k
 simp only[zK k6,c9.dx,aj,zE,zD,zC,zH,c9.cT,bB,e7]
 by_cases k7:y.1.kind=cD
 ·rw[zX k7]at k
  simp only[zL k7,c9.da,aj,zD,zF,zC,zI]
  exact OW k
 rw[zW k7]at k
 simp only[zK k7,c9.da,aj,zE,zD,zC,zH,c9.cK,bB,e8]
 by_cases k8:y.1.kind=dz
 ·rw[zX k8]at k
  simp only[zL k8,c9.cz,aj,zD,zF,zC,zI]
  exact LW k
 rw[zW k8]at k
 simp only[zK k8,c9.cz,aj,zE,zD,zC,zH,c9.n1]
 exact k.same
end
section
variable {h:AH} {M:Nat->Prop} {R:AE->AH->Prop} {n0 b i:Nat} {xr:AV} {bk:Bk} {pl er:Int} {xq xb xd:AV} {yl:List (bY×AV)} {rs:List (Row×AV)} {y:Row×AV} {own:Option Nat}
theorem Ra(rb:RB n0 h b xr bk pl er xq xb xd yl)(rt:RT h xr rs)(hy:rs[i]?=some y)(bf:lL bk)(ln:bk.qs.length<=64/\bk.bs.length<=64/\bk.ds.length<=100000000)(hd:nZ bk)(ho:∀k,own=some k->k<bk.ds.length)(Fc:0<=y.1.rows/\y.1.rows<=1000000000)(hM:∀id,TW TB n0 h id->M id)
  (he:∀e h',fC bk own i y.1=.error e->BE h' b y.1.place e->Fr h h' (TW TB n0 h)->R (.ret (B false)) h')
  (hk:∀bR pN pP pO lx h',fC bk own i y.1=.ok bR->RB n0 h' b xr bR pl er pN pP pO lx->Fr h h' (TW TB n0 h)->R (.ret (B true)) h'):aE Pg 30 [.ptr b 0,I i,I (hU own)] h M R:=by
 apply c9.aM
 simp only[c9.fg,c9.e_,aD,ag,au,rb.b,ao,zG,zA,ab]
 refine fV rt.r cO (rt.one hy) hy rfl rfl (fun id hid=>.inr hid) fun vr h1 f1 _ j7=>?_
 refine Sw ⟨rb.aU f1,rt.aU f1,hy,j7,fun id hid=>hid.elim (fun hid=>(TW.back (TW.aO f1) hid).elim (fun h=>.inl (hM id h)) .inr) (fun hid=>.inr (zR f1.next hid)),bf,ln,?_,?_⟩ hd ho Fc
 ·intro e h' h2 h3 f2
  simpa using he e h' h2 h3 (TW.trans (TW.aO f1) f2)
 ·intro bR pN pP pO lx h' h2 h3 f2
  simpa using hk bR pN pP pO lx h' h2 h3 (TW.trans (TW.aO f1) f2)
end
end
section
open Go.Ab
attribute [-simp] aX aF
section
variable {b:Nat} {xr xd:AV} {bk:Bk} {yl:List (bY×AV)} {rs:List (Row×AV)}
structure Ma (h:AH) (b:Nat) (xr xd:AV) (rs:List (Row×AV)) (ds:List bY) (yl:List (bY×AV)):Prop where
 p:∃cs,h.obj b=some (aN cs 9 54)/\cs[0]?=some xr/\cs[3]?=some xd
 r:RT h xr rs
 d:DT h xd ds yl
theorem Ma.aU{h h':AH}{ds:List bY}(a:Ma h b xr xd rs ds yl)(f:Fr h h' fun _=>False):Ma h' b xr xd rs ds yl:=by
 obtain⟨cs,h1,h2⟩:=a.p
 exact⟨⟨cs,f.bM h1,h2⟩,a.r.aU f,a.d.aU f⟩
theorem Lz{ds:List bY}(hd:∀d∈ds,0<=d.ops/\d.ops<=4097)(Fu:∀d∈ds,cu d.name=0)(DV:ds.length<=100000000)(n:Nat):∀{h:AH}{M:Nat->Prop}{R:AE->AH->Prop}{a:Nat}(_:Ma h b xr xd rs ds yl)(_:a+n<=rs.length)(_:oS (sg rs a n))
  (_:∀h',Fr h h' (fun _=>False)->R (.ret (I (countP ds (sg rs a n) 0))) h'),aE Pg 31 [.ptr b 0,I a,I (a+n)] h M R:=by
 induction n using Nat.strongRecOn with
 |ind n ih=>
 intro h M R a hc hn hs hR
 apply ii.aM
 unfold ii.cb ii.bW ii.cp ii.b_
 have hlen:=hc.r.n
 refine bU (ι:=Nat×Int) (fun i v h'=>v=[.ptr b 0,I (a+n),I i.2,I (a+(n-i.1:Nat):Int)]/\i.1<=n/\(0<=i.2/\i.2<=4097)/\oS (sg rs (a+(n-i.1)) i.1)/\countP ds (sg rs (a+(n-i.1)) i.1) i.2=countP ds (sg rs a n) 0/\Fr h h' (fun _=>False)) (fun i=>i.1) (n,0) ⟨by simp,zU _,by omega,by simpa using hs,by simp,Fr.refl⟩ ?_
 rintro K ⟨m,acc⟩ v h1 ⟨rfl,hm,qt,lX,bq,f1⟩ step
 simp only at hm qt lX bq
 have Bv:=hc.aU f1
 unfold ii.cB
 simp only[zN,zO,ii.bQ,aZ]
 cases m with
 |zero=>
  have e1:decide ((a:Int)+(n-0:Nat)<a+n)=false:=by simp
  rw[uA,countP_nil]at bq
  simp only[e1,ii.bO,aj,zE,zD,zC,zH,zV,ii.n1,zN]
  rw[bq]
  simpa using hR h1 f1
 |succ m=>
  obtain⟨j,hj⟩:∃j,j=a+(n-(m+1)):=⟨_,rfl⟩
  have ej:(a:Int)+(n-(m+1):Nat)=(j:Int):=by omega
  have e1:decide ((j:Int)<a+n)=true:=by simp;omega
  rw[<-hj]at lX bq
  obtain⟨y,hy⟩:∃y,rs[j]?=some y:=⟨rs[j]'(by omega),zJ _⟩
  rw[wu hy]at lX bq
  rw[countP_cons]at bq
  obtain⟨⟨b0,b1⟩,b2,b3,b4⟩:=lX.inv
  rw[pV (by omega)]at b1
  obtain⟨k,hk⟩:∃k:Nat,y.1.rows=k:=⟨y.1.rows.toNat,by omega⟩
  have lj:k<=m:=by omega
  rw[hk,zY,jp lj]at b3
  rw[hk,zY,jq]at b4
  rw[hk,zY,jp lj,jq]at bq
  obtain⟨cs,hp,c0,c3⟩:=Bv.p
  simp only[e1,ej,ii.bO,aj,zD,zF,zC,zI,ii.bH,aD,ag,au,hp,ao,zG,c0,ab]
  refine fV Bv.r.r cO (Bv.r.one hy) hy rfl rfl (fun id hid=>.inr (zR f1.next hid)) fun vr h2 f2 _ bS=>?_
  have cw:=f1.bX f2
  have rO:=Bv.aU f2
  have Dr:=qf hd b3 0 (by omega)
  have KL:=xn (ds:=ds) (r:=y.1) (c:=countP ds (sg rs (j+1) k) 0) hd Dr b2
  have w1:∀x:Int,0<=x/\x<=1000000000->IntKind.i64.wrap x=x:=fun x hx=>aS (by omega) (by omega)
  have Lk:∀x:Int,(if (4097:Int)<x then 4097 else x)=min x 4097:=fun x=>by split<;>omega
  have last:∀(kr:Int) h3,min (acc+kr) 4097=min (acc+iC ds y.1 (countP ds (sg rs (j+1) k) 0)) 4097->0<=kr/\kr<=16785409->Fr h h3 (fun _=>False)->ii.n3 (fun id=>M id\/h.next<=id) (aJ Pg [.tmp 6] R) K (fun(i:Nat) (vs:List AV) (h:AH)=>if i=0 then ii.n1 (fun id=>M id\/h.next<=id) (aJ Pg [.tmp 6] R) (aJ Pg [.tmp 6] R) (fun _ _ _=>False) (fun v h=>R (.cg v) h) (vs.getD 0 aa) h else False) (fun v h=>R (.cg v) h) (.ptr b 0) (I (a+n)) (I acc) (I j) (I kr) h3:=fun kr h3 UO ab1 f3=>by
   obtain⟨cs3,Bm,VG,c33⟩:=(hc.aU f3).p
   simp only[ii.n3,aT,w1 (acc+kr) (by omega),qy,zH,zV,Lk,ii.n2,aD,ag,au,Bm,ao,zG,VG,ab]
   refine dn (k:=4) (hc.aU f3).r.r cO hy (by omega) rfl fun _=>?_
   rw[hk,UO]
   simp only[aT,w1 (1+(k:Int)) (by omega),w1 ((j:Int)+(1+k)) (by omega)]
   refine step (m-k,min (acc+iC ds y.1 (countP ds (sg rs (j+1) k) 0)) 4097) _ h3 (by simp only;omega) ⟨?_,by simp only;omega,?_,?_,?_,f3⟩
   ·have e9:(j:Int)+(1+k)=a+(n-(m-k):Nat):=by omega
    rw[<-e9]
   ·simp only;omega
   ·have e8:j+1+k=a+(n-(m-k)):=by omega
    rw[e8]at b4;exact b4
   ·have e8:j+1+k=a+(n-(m-k)):=by omega
    rw[e8]at bq
    exact bq
  have e4:(⟨#[114,101,112,101,97,116]⟩:ByteArray)=bj:=rfl
  simp only[ii.bz,ii.bC,ag,au,bS,ao,zG,ay,zA,zB,ab,bB,e4]
  by_cases k1:y.1.kind=bj
  ·have rN:=b2 k1
   simp only[zL k1,ii.bD,aj,zD,zF,zC,zI,ii.n8,aT,ag,au,bS,ao,zG,ay,zA,zB,ab,hk,w1 ((j:Int)+1) (by omega),w1 ((j:Int)+1+k) (by omega)]
   refine⟨fun _=>False,fun _ h=>h.elim,ih k (by omega) (a:=j+1) rO (by omega) b3 fun h3 f3=>?_⟩
   have jM:=f3.bM bS
   have ec:iC ds y.1 (countP ds (sg rs (j+1) k) 0)=if 0<countP ds (sg rs (j+1) k) 0 then min y.1.num 4097*countP ds (sg rs (j+1) k) 0 else countP ds (sg rs (j+1) k) 0:=by unfold iC;rw[zX k1]
   have kT:=EV (a:=min y.1.num 4097) (b:=countP ds (sg rs (j+1) k) 0) (by omega) (by omega) Dr.1 Dr.2
   rw[ec]at last
   have l3:=fun kr UO hb=>last kr h3 UO hb (cw.bX f3)
   have ZF:=Int.mul_comm (countP ds (sg rs (j+1) k) 0) (min y.1.num 4097)
   generalize qE:countP ds (sg rs (j+1) k) 0=c at *
   have tail:(0<c->¬4096<y.1.num)->ii.n4 (fun id=>M id\/h.next<=id) (aJ Pg [.tmp 6] R) K (fun(i:Nat) (vs:List AV) (h:AH)=>if i=0 then ii.n1 (fun id=>M id\/h.next<=id) (aJ Pg [.tmp 6] R) (aJ Pg [.tmp 6] R) (fun _ _ _=>False) (fun v h=>R (.cg v) h) (vs.getD 0 aa) h else False) (fun v h=>R (.cg v) h) (.ptr b 0) (I (a+n)) (I acc) (I j) (.ptr vr 0) (I c) (B false) h3:=fun jF=>by
    simp only[ii.n4,aj,zE,zD,zC,zH,ag,au,jM,ao,zG,ay,zA,zB,ab,qy,zV,Lk,zx,ZF,w1 (min y.1.num 4097*c) (by omega)]
    refine l3 _ ?_ kT
    by_cases k2:0<c
    ·rw[zX k2]
    ·have:c=0:=by omega
     subst this
     simp
   simp only[ii.n7,eU,gt_iff_lt]
   by_cases k2:0<c
   ·simp only[zL k2,ii.n6,ck,zS,zD,zF,zC,zI,ag,au,jM,ao,zG,ay,zA,zB,ab,eU,gt_iff_lt]
    by_cases k3:4096<y.1.num
    ·simp only[zL k3,ii.n5,bu,zV,ii.n4,aj,zD,zF,zC,zI]
     refine l3 4097 ?_ (by omega)
     rw[zX k2,show min y.1.num 4097=4097 by omega]
     omega
    ·simp only[zK k3,ii.n5,bu,zV]
     exact tail fun _=>k3
   ·simp only[zK k2,ii.n6,ck,zS,zE,zD,zC,zH,ii.n5,bu,if_false]
    exact tail fun h=>absurd h k2
  ·have ec:∀c,iC ds y.1 c=match eB ds y.1.name with |some d=>d.ops |none=>1:=fun c=>by unfold iC;rw[zW k1];rfl
   rw[ec]at last
   obtain⟨cs2,p_,c20,QC⟩:=rO.p
   simp only[zK k1,ii.bD,aj,zE,zD,zC,zH,ii.bt,ag,au,bS,ao,zG,ay,zA,zB,ab]
   refine⟨fun _=>False,fun _ h=>h.elim,sH p_ QC rO.d DV ?_ ?_⟩
   ·intro jF
    rw[jF]at last
    have e:decide ((-1:Int)>=0)=false:=rfl
    simp only[ii.bc,io,e,ii.a_,ck,zS,zE,zD,zC,zH,ii.aQ,bu,if_false,ii.n9,aj]
    exact last 1 h2 rfl (by omega) cw
   ·intro q d hq lI
    rw[lI]at last
    have e:(q:Int)>=0:=by omega
    obtain⟨g1,g2⟩:=zM.1 hq
    have hY:=zP hq
    have KI:d.name=y.1.name:=by have:=List.find?_some lI;simpa using this
    have ha0:cu y.1.name=0:=by rw[<-KI];exact Fu d hY
    obtain⟨x,hyq,_⟩:=rO.d.at_ hq
    have kB:=hd d hY
    simp only[ii.bc,io,zL e,ii.a_,ck,zS,zD,zF,zC,zI,ag,au,bS,ao,zG,ay,zA,zB,ab]
    refine⟨fun _=>False,fun _ h=>h.elim,nc ?_⟩
    have aa2:(cu y.1.name==0)=true:=by simp[ha0]
    simp only[eG,aa2,ii.aQ,bu,zV,ii.n9,aj,zD,zF,zC,zI,aD,ag,au,p_,ao,zG,QC,ab]
    refine dn (k:=5) rO.d.t.cF iY hyq (by omega) rfl fun _=>?_
    exact last d.ops h2 rfl (by omega) cw
end
end
section
open Go.Ab
attribute [-simp] aX aF
theorem lens{bk:Bk}(ok:xK bk):bk.qs.length<=64/\bk.bs.length<=64:=by
 have key:∀l:List fZ,(∀r∈l,1<=r.size)->(l.length:Int)<=aK l:=by
  intro l
  induction l with
  |nil=>intro _;simp[aK]
  |cons r l ih=>
   intro hm
   rw[tl,List.length_cons]
   have:=ih fun r hr=>hm r (List.mem_cons_of_mem _ hr)
   have:=hm r (List.mem_cons_self ..)
   omega
 have h1:=key bk.qs fun r hr=>(ok.sq r hr).1
 have h2:=key bk.bs fun r hr=>(ok.sb r hr).1
 have h3:=ok.tq
 have h4:=ok.tb
 omega
theorem JM{bk bR:Bk}{own:Option Nat}{i:Int}{r:Row}(a:nZ bk)(h:fC bk own i r=.ok bR):nZ bR:=by
 have same:∀e,kY e bk=.ok bR->nZ bR:=fun e h=>by
  unfold kY at h
  split at h<;>cases h
  exact a
 unfold fC at h
 split at h
 ·cases hd:fA bk bk.qs 64 r with
  |error e=>rw[hd]at h;cases h
  |ok l=>rw[hd]at h;cases h;exact a
 split at h
 ·cases hd:fA bk bk.bs 64 r with
  |error e=>rw[hd]at h;cases h
  |ok l=>rw[hd]at h;cases h;exact a
 split at h
 ·unfold pz at h
  split at h
  ·cases h
  split at h
  ·cases h
  rename_i du
  split at h
  ·cases h
  split at h
  ·cases h
  cases h
  intro d hd
  rcases List.mem_append.1 hd with hd |hd
  ·exact a d hd
  ·have:=List.mem_singleton.1 hd
   subst this
   exact⟨by simp only;omega,fun e=>du (by simpa using e)⟩
 split at h
 ·split at h
  ·cases h
  ·cases h;exact a
 split at h
 ·unfold tU at h
  split at h
  ·cases h
  ·split at h
   ·cases h
   ·cases h;exact a
 split at h
 ·unfold ka at h
  split at h
  ·cases h
  split at h
  ·cases h
  split at h
  ·cases h
  split at h
  ·cases h
  split at h
  ·cases h
  split at h
  ·cases h
  rename_i vI
  cases h
  unfold jV
  cases own with
  |none=>exact a
  |some k=>
   simp only[Option.isSome_some,zH]at vI
   intro d hd
   rcases mem_modify hd with h3 |⟨e,h3,rfl⟩
   ·exact a d h3
   ·have:=a e h3
    exact⟨by simp only;omega,this.2⟩
 split at h
 ·unfold kj at h
  split at h
  ·split at h
   ·cases h
   ·exact same _ h
  ·cases h
 split at h
 ·unfold mi at h
  split at h
  ·exact same _ h
  ·cases h
 cases h
 exact a
theorem AD{bk:Bk}(a:nZ bk){k:Nat}{n:Int}:nZ { bk with ds:=jy bk.ds k n }:=by
 intro d hd
 rcases mem_modify hd with h3 |⟨e,h3,rfl⟩
 ·exact a d h3
 ·exact a e h3
theorem RE(n:Nat):∀{deep:Nat}{own:Option Nat}{i:Nat}{rows:List Row}{bk bR:Bk}(_:rows.length=n)(_:nZ bk)(_:eN deep own i rows bk=.ok bR),nZ bR:=by
 induction n using Nat.strongRecOn with
 |ind n ih=>
 intro deep own i rows bk bR hn a h
 cases rows with
 |nil=>rw[jf]at h;cases h;exact a
 |cons r rest=>
  rw[jG]at h
  split at h
  ·cases h
  split at h
  ·cases h
  rename_i lm h1
  split at h
  ·cases h
  rename_i eT h2
  rw[List.length_cons]at hn
  have a2:=ih _ (by rw[yA];omega) rfl (JM a h1) h2
  refine ih _ (by rw[List.length_drop];omega) rfl ?_ h
  split
  ·exact AD a2
  ·exact a2
section
variable {W:Nat->Prop} {QR QN:VK} {QE:Nat->VK} {QP:AV->AH->Prop} {h:AH} {b j m deep vr:Nat} {x0 x2:AV} {y:Row×AV} {own:Option Nat}
theorem SK(bS:h.obj vr=some (aN (ay y) 6 42)){c:Bool}
  (tv:(c||(own.isSome&&!decide (y.1.kind=cQ)&&!decide (y.1.kind=bj)))=true->aC Pg W 29 [x0,I j,I 100] h (fun t h=>QR [t] h) QP)
  (ms:(c||(own.isSome&&!decide (y.1.kind=cQ)&&!decide (y.1.kind=bj)))=false->cE.bO W QR QN QE QP x0 x2 (I deep) (I (hU own)) (I j) (.ptr vr 0) h) :
  cE.cl W QR QN QE QP x0 x2 (I deep) (I (hU own)) (I j) (.ptr vr 0) (B c) h:=by
 have e4:(⟨#[114,101,112,101,97,116]⟩:ByteArray)=bj:=rfl
 have e6:(⟨#[117,115,101]⟩:ByteArray)=cQ:=rfl
 have fin:∀t,t=(c||(own.isSome&&!decide (y.1.kind=cQ)&&!decide (y.1.kind=bj)))->cE.b_ W QR QN QE QP x0 x2 (I deep) (I (hU own)) (I j) (.ptr vr 0) (B t) h:=fun t ht=>by
  cases t with
  |true=>simp only[cE.b_,aj,zD,zF,zC,zI,cE.bQ];exact tv ht.symm
  |false=>simp only[cE.b_,aj,zE,zD,zC,zH];exact ms ht.symm
 cases c with
 |true=>
  have:=fin true rfl
  simpa[-cE.b_,cE.cl,cE.cj,cE.cn,cE.cb,cE.bW,cE.cp] using this
 |false=>
  have fin:=fin _ rfl
  cases own with
  |none=>
   have e:decide ((-1:Int)>=0)=false:=rfl
   show cE.cl W QR QN QE QP x0 x2 (I deep) (I (-1)) (I j) (.ptr vr 0) (B false) h
   simp only[cE.cl,ck,zT,zE,zD,zC,zI,io,e,cE.cj,zS,zH,cE.cn,bu,if_false,cE.cb,cE.bW,cE.cp]
   exact fin
  |some q=>
   have e:(q:Int)>=0:=by omega
   show cE.cl W QR QN QE QP x0 x2 (I deep) (I (q:Int)) (I j) (.ptr vr 0) (B false) h
   simp only[cE.cl,ck,zT,zE,zD,zC,zI,io,zL e,cE.cj,zS,zF,ag,au,bS,ao,zG,ay,zA,ab,e6]
   revert fin
   by_cases k1:y.1.kind=cQ<;>by_cases k2:y.1.kind=bj<;>intro fin<;>simp[-cE.b_,k1,k2]at fin<;>simp[-cE.b_,k1,k2,bS,ay,e4,cE.cn,cE.cb,cE.bW,cE.cp]<;>exact fin
theorem O7(bS:h.obj vr=some (aN (ay y) 6 42))(hx2:x2=I ((j:Int)+1+m))(hb:j+1+m<=200000000)(vI:deep<=33)
  (tv:∀e,kH y.1 m deep own.isSome=e->e≠0->aC Pg W 29 [x0,I j,I e] h (fun t h=>QR [t] h) QP)
  (ms:kH y.1 m deep own.isSome=0->cE.bO W QR QN QE QP x0 x2 (I deep) (I (hU own)) (I j) (.ptr vr 0) h) :
  cE.gg W QR QN QE QP x0 x2 (I deep) (I (hU own)) (I j) (.ptr vr 0) h:=by
 have WX:kH y.1 m deep own.isSome=if !lE y.1.kind||(!kl y.1.kind&&y.1.rows != 0)||decide (y.1.rows<0)||decide ((m:Int)<y.1.rows) then 100 else BF y.1 deep own.isSome:=rfl
 rw[WX]at tv ms
 have e1:(⟨#[113,117,98,105,116,115]⟩:ByteArray)=ch:=rfl
 have e2:(⟨#[98,105,116,115]⟩:ByteArray)=cZ:=rfl
 have e3:(⟨#[103,97,116,101]⟩:ByteArray)=bJ:=rfl
 have fin:∀t,t=(!lE y.1.kind||(!kl y.1.kind&&y.1.rows != 0)||decide (y.1.rows<0)||decide ((m:Int)<y.1.rows))->cE.dF W QR QN QE QP x0 x2 (I deep) (I (hU own)) (I j) (.ptr vr 0) (B t) h:=fun t ht=>by
  rw[<-ht]at tv ms
  cases t with
  |true=>simp only[cE.dF,aj,zD,zF,zC,zI,cE.eJ];exact tv 100 rfl (by decide)
  |false=>
   simp only[zE,if_false]at tv ms
   unfold BF at tv ms
   simp only[cE.dF,aj,zE,zD,zC,zH,cE.ed,eU,gt_iff_lt]
   by_cases k1:(32:Int)<deep
   ·simp only[zL k1,cE.dV,aj,zD,zF,zC,zI,cE.dT]
    exact tv 102 (by rw[zX k1]) (by decide)
   ·rw[zW k1]at tv ms
    simp only[zK k1,cE.dV,aj,zE,zD,zC,zH,cE.dW,ag,au,bS,ao,zG,ay,zA,ab,bB,e1]
    have Ak:∀d,d=(decide (0<(deep:Int))&&pH y.1.kind)->cE.cl W QR QN QE QP x0 x2 (I deep) (I (hU own)) (I j) (.ptr vr 0) (B d) h:=fun d hd=>by
     refine SK bS ?_ ?_
     ·intro hc
      refine tv 100 ?_ (by decide)
      rw[<-hd]
      cases d with
      |true=>rfl
      |false=>simp only[Bool.false_or]at hc;rw[hc];rfl
     ·intro hc
      refine ms ?_
      rw[<-hd]
      simp only[Bool.or_eq_false_iff]at hc
      rw[hc.1,hc.2];rfl
    have Ak:=Ak _ rfl
    unfold pH at Ak
    revert Ak
    by_cases k2:0<deep<;>by_cases k3:y.1.kind=ch<;>by_cases k4:y.1.kind=cZ<;>by_cases k5:y.1.kind=bJ<;>intro Ak <;>
     simp[-cE.cl,k2,k3,k4,k5]at Ak <;>
     simp[-cE.cl,k2,k3,k4,k5,cE.dx,cE.cT,cE.da,cE.cK,cE.cz,cE.cy,cE.bV,bS,ay,e2,e3]<;>exact Ak
 have fin:=fin _ rfl
 have eb:IntKind.i64.wrap ((j:Int)+1+m-j)=(m:Int)+1:=by
  have:(j:Int)+1+m-j=m+1:=by omega
  rw[this];exact aS (by omega) (by omega)
 have Vz:IntKind.i64.wrap (m:Int)=m:=aS (by omega) (by omega)
 simp only[cE.gg,ag,au,bS,ao,zG,ay,zA,ab]
 refine⟨fun _=>False,fun _ h=>h.elim,RH ?_⟩
 cases kn:lE y.1.kind with
 |false=>
  simp[-cE.dF,kn]at fin
  simpa[-cE.dF,cE.hG,cE.fg,cE.e_,cE.dO,cE.eu,cE.eC,cE.dL,cE.d_] using fin
 |true=>
  simp only[dq,zS,cE.hG,ck,zE,zT,zD,zF,zC,zI,ag,au,bS,ao,zG,ay,zA,zB,ab]
  refine⟨fun _=>False,fun _ h=>h.elim,Fj ?_⟩
  subst hx2
  cases bo:kl y.1.kind<;>cases k0:(y.1.rows != 0)<;>by_cases k1:y.1.rows<0<;>by_cases k2:(m:Int)<y.1.rows <;>
   simp[-cE.dF,kn,bo,k0,k1,k2]at fin <;>
   simp[-cE.dF,bS,ay,k0,k1,k2,eb,Vz,cE.fg,cE.e_,cE.dO,cE.eu,cE.eC,cE.dL,cE.d_]<;>exact fin
end
end
section
open Go.Ab
attribute [-simp] aX aF
theorem RT.Qv{h h':AH}{xr:AV}{rs:List (Row×AV)}{n0:Nat}(a:RT h xr rs)(f:Fr h h' (TW TB n0 h)):RT h' xr rs:=⟨a.r.oO f rfl,fun y hy=>⟨(a.a y hy).1.oO f rfl,(a.a y hy).2⟩,a.n⟩
theorem RB.ct{h:AH}{n0 b:Nat}{xr:AV}{bk:Bk}{pl er:Int}{xq xb xd:AV}{yl:List (bY×AV)}{rs:List (Row×AV)}(rb:RB n0 h b xr bk pl er xq xb xd yl)(rt:RT h xr rs):Ma h b xr xd rs bk.ds yl:=⟨⟨_,rb.b,rfl,rfl⟩,rt,rb.d⟩
section
variable {b:Nat} {xr:AV} {rs:List (Row×AV)} {n0:Nat} {pl er:Int}
theorem MY(n:Nat):∀{h:AH}{M:Nat->Prop}{R:AE->AH->Prop}{a deep:Nat}{own:Option Nat}{bk:Bk}{xq xb xd:AV}{yl:List (bY×AV)}
  (_:RB n0 h b xr bk pl er xq xb xd yl) (_:RT h xr rs) (_:lL bk) (_:nZ bk) (_:bk.ds.length<=a) (_:∀k,own=some k->k+1=bk.ds.length/\0<deep) (_:a+n<=rs.length) (_:deep<=33) (_:∀id,TW TB n0 h id->M id)
  (_:∀fD e h',eN deep own a (sg rs a n) bk=.error (fD,e)->BE h' b fD e->Fr h h' (TW TB n0 h)->R (.ret (B false)) h')
  (_:∀bR pN pP pO lx h',eN deep own a (sg rs a n) bk=.ok bR->RB n0 h' b xr bR pl er pN pP pO lx->Fr h h' (TW TB n0 h)->R (.ret (B true)) h'),
  aE Pg 16 [.ptr b 0,I a,I (a+n),I deep,I (hU own)] h M R:=by
 induction n using Nat.strongRecOn with
 |ind n ih=>
 intro h M R a deep own j9 xq0 xb0 xd0 yl0 rb0 rA bf0 VT aaQ P5 hn Qk hM he hk
 apply cE.aM
 unfold cE.kO cE.ir cE.jC
 have hlen:=rA.n
 have hL:∀r∈rs.map (·.1),r.args.length<=100000000:=fun r hr=>by
  obtain⟨z,hz,rfl⟩:=List.mem_map.1 hr
  exact(rA.a z hz).2
 refine bU (ι:=Nat×Bk×AV×AV×AV×List (bY×AV)) (fun i v h'=>v=[.ptr b 0,I (a+n),I deep,I (hU own),I (a+(n-i.1:Nat):Int)]/\i.1<=n/\RB n0 h' b xr i.2.1 pl er i.2.2.1 i.2.2.2.1 i.2.2.2.2.1 i.2.2.2.2.2/\lL i.2.1/\nZ i.2.1/\i.2.1.ds.length<=a+(n-i.1)/\(∀k,own=some k->k+1=i.2.1.ds.length/\0<deep) /\
  eN deep own (a+(n-i.1)) (sg rs (a+(n-i.1)) i.1) i.2.1=eN deep own a (sg rs a n) j9/\Fr h h' (TW TB n0 h)) (fun i=>i.1) (n,j9,xq0,xb0,xd0,yl0) ⟨by simp,zU _,rb0,bf0,VT,by simpa using aaQ,P5,by simp,TW.aO Fr.refl⟩ ?_
 rintro K ⟨m,bk,xq,xb,xd,yl⟩ v h1 ⟨rfl,hm,rb,bf,bd,Hq,ho,bq,f1⟩ step
 simp only at hm rb bf bd Hq ho bq step
 have ic:=rA.Qv f1
 unfold cE.cB
 simp only[zN,zO,cE.jD,aZ]
 cases m with
 |zero=>
  have e1:decide ((a:Int)+(n-0:Nat)<a+n)=false:=by simp
  rw[uA,jf]at bq
  simp only[e1,cE.iu,aj,zE,zD,zC,zH,zV,cE.n1]
  simpa using hk bk xq xb xd yl h1 bq.symm rb f1
 |succ m=>
  obtain⟨j,hj⟩:∃j,j=a+(n-(m+1)):=⟨_,rfl⟩
  have ej:(a:Int)+(n-(m+1):Nat)=(j:Int):=by omega
  have e1:decide ((j:Int)<a+n)=true:=by simp;omega
  rw[<-hj]at bq Hq
  obtain⟨y,hy⟩:∃y,rs[j]?=some y:=⟨rs[j]'(by omega),zJ _⟩
  rw[wu hy,jG,pV (by omega)]at bq
  have yR:∀id,h1.next<=id->(M id\/h.next<=id):=fun id hid=>.inr (zR f1.next hid)
  have sS:∀{h2:AH},Fr h h2 (TW TB n0 h)->∀id,TW TB n0 h2 id->(M id\/h.next<=id):=fun f id hid=>(TW.back f hid).elim (fun h=>.inl (hM id h)) .inr
  have w1:∀x:Int,0<=x/\x<=1000000000->IntKind.i64.wrap x=x:=fun x hx=>aS (by omega) (by omega)
  simp only[e1,ej,cE.iu,aj,zD,zF,zC,zI,cE.fq,aD,ag,au,rb.b,ao,zG,zA,ab]
  refine fV ic.r cO (ic.one hy) hy rfl rfl yR fun vr h2 f2 _ ju=>?_
  have cw:=TW.trans f1 (TW.aO f2)
  have XF:=rb.aU f2
  have pX:=rA.Qv cw
  have Cp:=pX.a y (zP hy)
  have oK:=lens bf.i.ok
  refine O7 (m:=m) ju (by rw[show(a:Int)+n=(j:Int)+1+m by omega]) (by omega) Qk ?_ ?_
  ·intro e hf h0
   rw[zX (by rw[hf];exact h0),hf]at bq
   refine⟨TW TB n0 h2,fun id hs _=>sS cw id hs,BW XF.bn pX hy (fun _ h=>h) fun h3 be f3=>?_⟩
   simpa using he _ _ h3 bq.symm be (TW.trans cw f3)
  intro hf
  rw[zW (by simpa using hf)]at bq
  obtain⟨_,KV,b0,b1,bdp,hdc,_⟩:=ug hf
  obtain⟨k,sR⟩:∃k:Nat,y.1.rows=k:=⟨y.1.rows.toNat,by omega⟩
  have lj:k<=m:=by omega
  rw[sR,zY,jp lj,jq]at bq
  simp only[cE.bO]
  refine⟨TW TB n0 h2,fun id hs _=>sS cw id hs,Ra XF pX hy bf ⟨oK.1,oK.2,by omega⟩ bd (fun q hq=>by have:=(ho q hq).1;omega) (by omega) (fun _ h=>h) ?_ ?_⟩
  ·intro e h3 hr be f3
   rw[hr]at bq
   simp only[dq,zT,cE.bH,aj,zD,zF,zC,zI,cE.bz]
   simpa using he y.1.place e h3 bq.symm be (TW.trans cw f3)
  ·intro lm xq1 xb1 xd1 GU h3 hr vl f3
   rw[hr]at bq
   simp only at bq
   have dR:=TW.trans cw f3
   obtain⟨HQ,x1,_,g2,HC⟩:=nM bf.i Cp.2 hr
   obtain⟨m1,YF⟩:=CS bf Cp.2 hr
   have YI:=JM bd hr
   have jM:h3.obj vr=some (aN (ay y) 6 42):=TW.obj f3 ju rfl
   have rz:=rA.Qv dR
   have iB:∀q,(if y.1.kind=bJ then some bk.ds.length else own)=some q->q+1=lm.ds.length/\0<deep+1:=fun q hq=>by
    by_cases kg:y.1.kind=bJ
    ·rw[zX kg]at hq
     cases hq
     rw[HC kg]
     exact⟨by simp,by omega⟩
    ·rw[zW kg]at hq
     exact⟨by rw[g2 kg];exact(ho q hq).1,by omega⟩
   have Fp:lm.ds.length<=j+1:=by
    by_cases kg:y.1.kind=bJ
    ·rw[HC kg];simp;omega
    ·rw[g2 kg];omega
   have last:∀kD SN SP SO Pa h7,RB n0 h7 b xr kD pl er SN SP SO Pa->lL kD->nZ kD->kD.ds.length=lm.ds.length->eN deep own (j+1+k) (sg rs (j+1+k) (m-k)) kD=eN deep own a (sg rs a n) j9->Fr h h7 (TW TB n0 h) ->
     cE.n2 (fun id=>M id\/h.next<=id) (aJ Pg [.tmp 10] R) K (fun(i:Nat) (vs:List AV) (h:AH)=>if i=0 then cE.n1 (fun id=>M id\/h.next<=id) (aJ Pg [.tmp 10] R) (aJ Pg [.tmp 10] R) (fun _ _ _=>False) (fun v h=>R (.cg v) h) h else False) (fun v h=>R (.cg v) h) (.ptr b 0) (I (a+n)) (I deep) (I (hU own)) (I ((j:Int)+1+k)) h7:=fun kD SN SP SO Pa h7 G5 QH bd7 P_ Yd BI=>by
    simp only[cE.n2]
    have e8:j+1+k=a+(n-(m-k)):=by omega
    have e9:(j:Int)+1+k=a+(n-(m-k):Nat):=by omega
    rw[e8]at Yd
    refine step (m-k,kD,SN,SP,SO,Pa) _ h7 (by simp only;omega) ⟨by rw[<-e9],by simp only;omega,G5,QH,bd7,by simp only;omega,fun q hq=>?_,Yd,BI⟩
    obtain⟨z1,z2⟩:=ho q hq
    have kg:y.1.kind≠bJ:=fun e=>by
     have:=hdc (by omega)
     unfold pH at this
     rw[e]at this
     simp at this
    exact⟨by simp only;rw[P_,g2 kg];exact z1,z2⟩
   have eg:(⟨#[103,97,116,101]⟩:ByteArray)=bJ:=rfl
   have after:∀inner eT Pb Pd Pc Jp h6,inner=(if y.1.kind=bJ then some bk.ds.length else own)->eN (deep+1) inner (j+1) (sg rs (j+1) k) lm=.ok eT->RB n0 h6 b xr eT pl er Pb Pd Pc Jp->Fr h3 h6 (TW TB n0 h3) ->
     cE.n6 (fun id=>M id\/h.next<=id) (aJ Pg [.tmp 10] R) K (fun(i:Nat) (vs:List AV) (h:AH)=>if i=0 then cE.n1 (fun id=>M id\/h.next<=id) (aJ Pg [.tmp 10] R) (aJ Pg [.tmp 10] R) (fun _ _ _=>False) (fun v h=>R (.cg v) h) h else False) (fun v h=>R (.cg v) h) (.ptr b 0) (I (a+n)) (I deep) (I (hU own)) (I j) (.ptr vr 0) (I ((j:Int)+1+k)) (I (hU inner)) h6:=fun inner eT Pb Pd Pc Jp h6 tX nT JO f36=>by
    subst tX
    have nV:=TW.trans dR f36
    obtain⟨HR,m2,l2,_⟩:=uK hL k (i:=j+1) (deep:=deep+1) (by simp;omega) YF iB (by rw[<-oC];exact nT)
    have l2:=l2 (by omega)
    have YH:=RE _ rfl YI nT
    have s2:oS (sg rs (j+1) k):=(po _ rfl (fun r hr=>by
     unfold sg at hr
     obtain⟨z,hz,rfl⟩:=List.mem_map.1 hr
     exact(rz.a z (List.mem_of_mem_drop (List.mem_of_mem_take hz))).2) HQ nT).2.2
    rw[nT]at bq
    simp only at bq
    have AS:h6.obj vr=some (aN (ay y) 6 42):=TW.obj f36 jM rfl
    simp only[cE.n6,ag,au,AS,ao,zG,ay,zA,zB,ab,bB,eg]
    by_cases kg:y.1.kind=bJ
    ·simp only[zX kg]at bq
     have VA:=HC kg
     have Fe:bk.ds.length<eT.ds.length:=by rw[l2,VA];simp
     have qD:eT.ds[bk.ds.length]?=some eT.ds[bk.ds.length]:=zJ Fe
     generalize eT.ds[bk.ds.length]=d2 at qD
     obtain⟨id,x1',cells,c2,c3,KI,c4⟩:=JO.zq qD (f:=fun d=>{ d with whole:=true }) rfl (o:=6) (v:=B false) (by omega) (fun x=>by simp[ky])
     rw[zX kg]
     have eo:hU (some bk.ds.length)=(bk.ds.length:Int):=rfl
     rw[eo]
     subst x1'
     simp only[zL kg,cE.n5,aj,zD,zF,zC,zI,cE.n4,aD,ag,au,JO.b,ao,zG,zA,zB,ab,kL,zY,aF,c2,mw,bG]
     refine⟨⟨by omega,by omega⟩,⟨sS nV id ⟨KI,_,c2,rfl,rfl⟩,rfl,rfl,by omega⟩,?_⟩
     have f7:Fr h6 (h6.put id (bk.ds.length*7+6) [B false]) (·=id):=Fr.refl.put (.inl rfl)
     have o7:=cX (off:=bk.ds.length*7+6) (cs:=[B false]) c2
     generalize h6.put id (bk.ds.length*7+6) [B false]=h7 at *
     obtain⟨yl7,G5,g7⟩:=c4 h7 o7 f7
     have BI:=TW.trans nV g7
     have Qm:(eT.ds.modify bk.ds.length fun d=>{ d with whole:=true })[bk.ds.length]?=some { d2 with whole:=true }:=by rw[getElem?_modify',zX rfl,qD];rfl
     obtain⟨QH,_⟩:=HR.modify (k:=bk.ds.length) (f:=fun d=>{ d with whole:=true }) (fun _=>rfl) (fun d hd=>(HR.i.ok.ds d hd).2)
     simp only[cE.n3]
     refine⟨fun _=>b,fun _ _=>by rw[G5.b];simp,?_⟩
     simp only[aD,ag,au,G5.b,ao,zG,zA,zB,ab,zH,aT,w1 ((j:Int)+1) (by omega)]
     refine⟨fun _=>False,fun _ h=>h.elim,Lz (fun d hd=>(QH.i.ok.ds d hd).2.2.2) (fun d hd=>(QH.a d hd).1) (by simp only[List.length_modify];omega) k (a:=j+1) (G5.ct (rA.Qv BI)) (by omega) s2 fun h8 f8=>?_⟩
     have Vy:=vX (f:=fun d=>{ d with whole:=true }) (fun _=>rfl) (fun _=>rfl) (ds:=eT.ds) (k:=bk.ds.length) s2 0
     simp only[Vy]
     have Li:=TW.trans BI (TW.aO f8)
     have rb8:=G5.aU f8
     have Dr:=qf (ds:=eT.ds) (fun d hd=>(HR.i.ok.ds d hd).2.2.2) s2 0 (by omega)
     generalize hc:countP eT.ds (sg rs (j+1) k) 0=c at *
     obtain⟨o8,XA,mv,VH,c3',aaH,c4'⟩:=rb8.zq Qm (f:=fun d=>{ d with ops:=c }) rfl (o:=5) (v:=I c) (by omega) (fun x=>by simp[ky])
     have hid:id=o8:=by injection XA
     subst hid
     simp only[List.length_modify]at XA
     simp only[kL,zY,ag,zG,aF,VH,dC,bG]
     refine⟨⟨by omega,by omega⟩,⟨sS Li id ⟨aaH,_,VH,rfl,rfl⟩,rfl,rfl,by omega⟩,?_⟩
     have f9:Fr h8 (h8.put id (bk.ds.length*7+5) [I c]) (·=id):=Fr.refl.put (.inl rfl)
     have o9:=cX (off:=bk.ds.length*7+5) (cs:=[I c]) VH
     generalize h8.put id (bk.ds.length*7+5) [I c]=h9 at *
     obtain⟨yl9,Ti,g9⟩:=c4' h9 o9 f9
     have e9:({ eT with ds:=(eT.ds.modify bk.ds.length fun d=>{ d with whole:=true }).modify bk.ds.length fun d=>{ d with ops:=c } }:Bk)={ eT with ds:=jy eT.ds bk.ds.length c }:=by rw[wv]
     simp only at Ti
     rw[e9]at Ti
     obtain⟨bf9,_⟩:=HR.modify (k:=bk.ds.length) (f:=fun d=>{ d with whole:=true,ops:=c }) (fun _=>rfl) (fun d hd=>by have:=HR.i.ok.ds d hd;simp only;omega)
     exact last _ _ _ _ _ h9 Ti bf9 (AD YH) (by simp[jy,l2]) bq (TW.trans Li g9)
    ·simp only[zW kg]at bq
     simp only[zK kg,cE.n5,aj,zE,zD,zC,zH]
     exact last eT _ _ _ _ h6 JO HR YH l2 bq nV
   simp only[dq,zS,cE.bH,aj,zE,zD,zC,zH,cE.bC,aT,w1 ((j:Int)+1) (by omega),ag,au,jM,ao,zG,ay,zA,zB,ab,sR,w1 ((j:Int)+1+k) (by omega),cE.bD,cE.bt,bB,eg]
   have go:∀inner,inner=(if y.1.kind=bJ then some bk.ds.length else own)->cE.a_ (fun id=>M id\/h.next<=id) (aJ Pg [.tmp 10] R) K (fun(i:Nat) (vs:List AV) (h:AH)=>if i=0 then cE.n1 (fun id=>M id\/h.next<=id) (aJ Pg [.tmp 10] R) (aJ Pg [.tmp 10] R) (fun _ _ _=>False) (fun v h=>R (.cg v) h) h else False) (fun v h=>R (.cg v) h) (.ptr b 0) (I (a+n)) (I deep) (I (hU own)) (I j) (.ptr vr 0) (I ((j:Int)+1+k)) (I (hU inner)) h3:=fun inner tX=>by
    simp only[cE.a_,ag,au,jM,ao,zG,ay,zA,zB,ab]
    refine⟨fun _=>False,fun _ h=>h.elim,Fj ?_⟩
    cases hb:kl y.1.kind with
    |true=>
     simp only[cE.aQ,ck,zS,zD,zF,zC,zI,aT,w1 ((j:Int)+1) (by omega),w1 ((deep:Int)+1) (by omega)]
     refine⟨TW TB n0 h3,fun id hs _=>sS dR id hs,ih k (by omega) (a:=j+1) (deep:=deep+1) (own:=inner) vl rz YF YI Fp (by rw[tX];exact iB) (by omega) (by omega) (fun _ h=>h) ?_ ?_⟩
     ·intro fD e h6 nT be f6
      rw[tX]at nT
      rw[nT]at bq
      simp only[dq,zT,cE.n9,bu,zV,cE.n8,aj,zD,zF,zC,zI,cE.n7]
      simpa using he fD e h6 bq.symm be (TW.trans dR f6)
     ·intro eT Pb Pd Pc Jp h6 nT JO f6
      simp only[dq,zS,cE.n9,bu,zV,cE.n8,aj,zE,zD,zC,zH]
      exact after inner eT Pb Pd Pc Jp h6 tX nT JO f6
    |false=>
     have KM:k=0:=by
      rcases KV with KV |KV
      ·rw[hb]at KV;cases KV
      ·omega
     simp only[cE.aQ,ck,zS,zE,zD,zC,zH,cE.n9,bu,if_false,cE.n8,aj]
     exact after inner lm xq1 xb1 xd1 GU h3 tX (by rw[KM,uA,jf]) vl (TW.aO Fr.refl)
   by_cases kg:y.1.kind=bJ
   ·have WW:lm.ds.length=bk.ds.length+1:=by rw[HC kg];simp
    have ab4:=vl.d.len
    have w4:IntKind.i64.wrap ((GU.length:Int)-1)=hU (some bk.ds.length):=by
     have:(GU.length:Int)-1=bk.ds.length:=by omega
     rw[this];exact w1 _ (by omega)
    simp only[zL kg,cE.bc,aj,zD,zF,zC,zI,aD,ag,au,vl.b,ao,zG,zA,zB,ab,vl.d.t.cF.len.1,vl.d.t.cF.len.2,zH,jL,w4]
    exact go (some bk.ds.length) (by rw[zX kg])
   ·simp only[zK kg,cE.bc,aj,zE,zD,zC,zH]
    exact go own (by rw[zW kg])
end
end
end Go.Proofs.Ytjehibknlmehmaa
