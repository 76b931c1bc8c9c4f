/- Contracts of the reader of the document. No condition. -/
import Derived.Test.YtjehibknlmehmaaGreatGq
import Derived.Test.YtjehibknlmehmaaGreatWa
set_option maxRecDepth 100000
namespace Go.Proofs.YtjehibknlmehmaaGreat
section
open Go.Ab
abbrev oRf(tk n:Nat)(p en e o:Int)(rv:AV):AO:=aP [.sl tk 0 n,.sc (.int .i64 p),.sc (.int .i64 en),.sc (.int .i64 e),.sc (.int .i64 o),rv] 6 50
def rB{α β:Type}(X:dq α)(f:α->dq β):dq β:=match X with |.ok a=>f a |.error e=>.error e
@[simp] theorem dO {α β:Type} (a:α) (f:α->dq β):rB (.ok a) f=f a:=rfl
@[simp] theorem Fb {α β:Type} (e:Int×Int) (f:α->dq β):rB (.error e) f=.error e:=rfl
def Rf(X:dq Nat)(p e o:Int):Prop:=match X with |.ok q=>p=q/\e=0/\o=0 |.error x=>x.2≠0/\e=x.2/\o=x.1
def RF(h:AH)(r tk:Nat)(L:List Tok)(en:Int)(X:dq Nat)(rv:AV):Prop:=∃p e o,h.obj r=some (oRf tk L.length p en e o rv)/\Rf X p e o
def kW(L:List Tok)(en:Int)(p:Nat)(e:Int):Int×Int:=match L[p]? with |some t=>(t.at_,e) |none=>(en,101)
def oJ(L:List Tok)(X:dq Nat)(s:ByteArray):Bool:=match X with |.ok p=>gE L p s |.error _=>false
def ot(L:List Tok)(X:dq Nat):Bool:=match X with |.ok p=>ic L p |.error _=>false
section
variable {h:AH} {r tk:Nat} {L:List Tok} {en:Int} {rv:AV} {M:Nat->Prop} {R:AE->AH->Prop} {X:dq Nat}
theorem RF.fr{h':AH}(hr:RF h r tk L en X rv)(hf:Fr h h' fun _=>False):RF h' r tk L en X rv:=by
 obtain⟨p,e,o,ho,hx⟩:=hr
 exact⟨p,e,o,hf.obj ho (fun h=>h),hx⟩
theorem u_{e:Int}(hM:M r)(he:e≠0)(hr:RF h r tk L en X rv)(ht:h.obj tk=some (kS L))
  (hR:∀h',Fr h h' (·=r)->RF h' r tk L en (rB X fun p=>.error (kW L en p e)) rv->R (.ret (.dD [])) h'):aA Pg 30 [.ptr r 0,.sc (.int .i64 e)] h M R:=by
 obtain⟨p,e0,o,ho,hx⟩:=hr
 have BK:=bM ht ho (show(84:Nat)≠50 by decide)
 apply YR.calls
 cases X with
 |error x=>
  obtain⟨dx,rfl,rfl⟩:=hx
  simp[ho,dx]
  exact hR _ Fr.refl ⟨_,_,_,ho,dx,rfl,rfl⟩
 |ok q=>
  obtain⟨rfl,rfl,rfl⟩:=hx
  by_cases aL:q<L.length
  ·simp[ho,ht,aL,hM,AH.cg,BK,eT Tok.bu,ep Tok.bu,Tok.enc]
   refine hR _ ?_ ⟨q,e,L[q].at_,by simp[AH.cg,ho],?_⟩
   ·(repeat' first |exact Fr.refl |refine Fr.put ?_ ?_)<;>exact .inl rfl
   ·simp[rB,Rf,kW,aL,he]
  ·simp[ho,ht,aL,hM,AH.cg,BK]
   refine hR _ ?_ ⟨q,101,en,by simp[AH.cg,ho],?_⟩
   ·(repeat' first |exact Fr.refl |refine Fr.put ?_ ?_)<;>exact .inl rfl
   ·simp[rB,Rf,kW,aL]
theorem PW{s:ByteArray}(hR:R (.ret (.sc (.bool (uu s)))) h):aA Pg 31 [.sc (.string s)] h M R:=by
 apply YQ.calls
 unfold uu at hR
 by_cases h1:s=bF
 ·simp[h1]at hR;simp[h1,hR]
 by_cases h2:s=cE
 ·simp[h1,h2]at hR;simp[h1,h2,hR]
 by_cases h3:s=bD
 ·simp[h1,h2,h3]at hR;simp[h1,h2,h3,hR]
 by_cases h4:s=aT
 ·simp[h1,h2,h3,h4]at hR;simp[h1,h2,h3,h4,hR]
 by_cases h5:s=eZ
 ·simp[h1,h2,h3,h4,h5]at hR;simp[h1,h2,h3,h4,h5,hR]
 by_cases h6:s=bT
 ·simp[h1,h2,h3,h4,h5,h6]at hR;simp[h1,h2,h3,h4,h5,h6,hR]
 by_cases h7:s=cV
 ·simp[h1,h2,h3,h4,h5,h6,h7]at hR;simp[h1,h2,h3,h4,h5,h6,h7,hR]
 simp[h1,h2,h3,h4,h5,h6,h7]at hR;simp[h1,h2,h3,h4,h5,h6,h7,hR]
theorem Bm{sg:ByteArray}(hr:RF h r tk L en X rv)(ht:h.obj tk=some (kS L))(hR:R (.ret (.sc (.bool (oJ L X sg)))) h):aA Pg 71 [.ptr r 0,.sc (.string sg)] h M R:=by
 obtain⟨p,e0,o,ho,hx⟩:=hr
 apply YF.calls
 cases X with
 |error x=>
  obtain⟨dx,rfl,rfl⟩:=hx
  simp[ho,dx]
  exact hR
 |ok q=>
  obtain⟨rfl,rfl,rfl⟩:=hx
  simp only[oJ,gE]at hR
  by_cases aL:q<L.length
  ·by_cases hk:L[q].kind=3
   ·simp[aL,hk]at hR
    simp[ho,aL,ht,eT Tok.bu,ep Tok.bu,Tok.enc,hk]
    exact hR
   ·simp[aL,hk]at hR
    have pH:(L[q].kind==3)=false:=by simpa using hk
    rw[pH]at hR
    simp[ho,aL,ht,eT Tok.bu,ep Tok.bu,Tok.enc,hk]
    exact hR
  ·simp[aL]at hR
   simp[ho,aL]
   exact hR
theorem CX(hr:RF h r tk L en X rv)(ht:h.obj tk=some (kS L))(hR:R (.ret (.sc (.bool (ot L X)))) h):aA Pg 35 [.ptr r 0] h M R:=by
 obtain⟨p,e0,o,ho,hx⟩:=hr
 apply YP.calls
 cases X with
 |error x=>
  obtain⟨dx,rfl,rfl⟩:=hx
  simp[ho,dx]
  exact hR
 |ok q=>
  obtain⟨rfl,rfl,rfl⟩:=hx
  simp only[ot,ic]at hR
  by_cases aL:q<L.length
  ·by_cases hk:L[q].kind=1
   ·simp[aL,hk]at hR
    simp[ho,aL,ht,eT Tok.bu,ep Tok.bu,Tok.enc,hk]
    refine⟨fun _=>False,fun _ h=>h.elim,PW ?_⟩
    simp
    exact hR
   ·simp[aL,hk]at hR
    have pH:(L[q].kind==1)=false:=by simpa using hk
    rw[pH]at hR
    simp[ho,aL,ht,eT Tok.bu,ep Tok.bu,Tok.enc,hk]
    exact hR
  ·simp[aL]at hR
   simp[ho,aL]
   exact hR
theorem Ba{sg:ByteArray}(hM:M r)(hL:L.length<=65536)(hr:RF h r tk L en X rv)(ht:h.obj tk=some (kS L))
  (hR:∀h',Fr h h' (·=r)->RF h' r tk L en (rB X fun p=>(eE L en p sg).map fun _=>p+1) rv->R (.ret (.dD [])) h'):aA Pg 34 [.ptr r 0,.sc (.string sg)] h M R:=by
 apply Rh.calls
 simp only[Rh.k4]
 refine⟨fun _=>False,fun _ h=>h.elim,Bm hr ht ?_⟩
 cases hs:oJ L X sg with
 |true=>
  cases X with
  |error x=>cases hs
  |ok q=>
   obtain⟨p,e0,o,ho,rfl,rfl,rfl⟩:=hr
   simp only[oJ]at hs
   have aL:q<L.length:=by
    unfold gE at hs
    cases hg:L[q]? with
    |none=>rw[hg]at hs;cases hs
    |some t=>exact(zM.1 hg).1
   have hw:IntKind.i64.wrap ((q:Int)+1)=(q:Int)+1:=aR (by omega) (by omega)
   simp[ho,hw,hM]
   refine hR _ (Fr.refl.put (.inl rfl)) ⟨_,0,0,by simp[AH.cg,ho];rfl,?_⟩
   simp[rB,Rf,eE,dF,hs,aL,Except.map]
 |false=>
  simp[-Rh.k1]
  refine⟨(·=r),fun _ h _=>h ▸ .inl hM,u_ rfl (by decide) hr ht ?_⟩
  intro h' f1 r1
  simp
  refine hR _ f1 ?_
  cases X with
  |error x=>exact r1
  |ok q=>
   simp only[oJ]at hs
   have:(rB (.ok q) fun p=>(eE L en p sg).map fun _=>p+1)=(rB (.ok q) fun p=>(.error (kW L en p 100):dq Nat)):=by
    simp only[dO,eE,dF,kW,hs]
    cases L[q]?<;>rfl
   rw[this];exact r1
theorem Fv(hM:M r)(hL:L.length<=65536)(hr:RF h r tk L en X rv)(ht:h.obj tk=some (kS L))
  (hR:∀s h',Fr h h' (·=r)->RF h' r tk L en (rB X fun p=>(cO L en p).map fun _=>p+1) rv->(∀s',rB X (cO L en)=.ok s'->s'=s)->R (.ret (.sc (.string s))) h'):aA Pg 32 [.ptr r 0] h M R:=by
 apply Mo.calls
 simp only[Mo.k7,Mo.k6]
 refine⟨fun _=>False,fun _ h=>h.elim,CX hr ht ?_⟩
 cases hs:ot L X with
 |true=>
  cases X with
  |error x=>cases hs
  |ok q=>
   obtain⟨p,e0,o,ho,rfl,rfl,rfl⟩:=hr
   simp only[ot]at hs
   have aL:q<L.length:=Ff hs
   have BK:=bM ht ho (show(84:Nat)≠50 by decide)
   have hw:IntKind.i64.wrap ((q:Int)+1)=(q:Int)+1:=aR (by omega) (by omega)
   have uR:IntKind.i64.wrap (q:Int)=(q:Int):=aR (by omega) (by omega)
   simp[ho,hw,uR,hM,AH.cg,ht,BK,aL,eT Tok.bu,ep Tok.bu,Tok.enc]
   refine hR _ _ ?_ ?_ ?_
   ·exact Fr.refl.put (.inl rfl)
   ·refine⟨(q:Int)+1,0,0,by simp[AH.cg,ho],?_⟩
    simp[rB,Rf,cO,dF,hs,aL,Except.map]
   ·simp[rB,cO,dF,hs,aL,Except.map]
 |false=>
  simp[-Mo.k2]
  refine⟨(·=r),fun _ h _=>h ▸ .inl hM,u_ rfl (by decide) hr ht ?_⟩
  intro h' f1 r1
  simp
  cases X with
  |error x=>exact hR _ _ f1 r1 (by simp)
  |ok q=>
   simp only[ot]at hs
   have:∃e,cO L en q=.error e/\e=kW L en q 100:=by
    simp only[cO,dF,kW,hs]
    cases L[q]?<;>exact⟨_,rfl,rfl⟩
   obtain⟨e,h1,h2⟩:=this
   refine hR _ _ f1 ?_ (by simp[h1])
   simp only[dO,h1,h2,Except.map]
   exact r1
end
end
section
open Go.Ab
theorem xc:∀(l:List UInt8)(n m:Int),0<=n->(∀c∈l,48<=c.toNat)->jP l n=some m->0<=m
 |[],n,m,hn,_,h=>by simp[jP]at h;omega
 |c::l,n,m,hn,hd,h=>by
  simp only[jP]at h
  split at h
  ·cases h
  ·have:=hd c (by simp)
   exact xc l _ m (by omega) (fun c hc=>hd c (by simp[hc])) h
section
variable {h:AH} {M:Nat->Prop} {R:AE->AH->Prop}
theorem Rl{s:ByteArray}(hs:s.size<=65536)(hd:∀c∈s.data.toList,48<=c.toNat/\c.toNat<=57)(hR:R (.ret (.sc (.int .i64 ((jP s.data.toList 0).getD (-1))))) h):aA Pg 70 [.sc (.string s)] h M R:=by
 apply Mi.calls
 simp[-Mi.k9]
 unfold Mi.k9
 refine gY (ι:=Nat) (fun i s' h'=>s'.ds=[]/\h'=h/\s'.tm 0=.sc (.string s)/\s'.tm 4=.sc (.int .i64 i)/\i<=s.size /\
  ∃n:Int,0<=n/\n<=9007199254740991/\s'.tm 3=.sc (.int .i64 n)/\jP (s.data.toList.drop i) n=jP s.data.toList 0) (fun i=>s.size-i) 0 ?_ ?_
 ·exact⟨rfl,rfl,by simp,by simp,by omega,0,by omega,by omega,by simp,rfl⟩
 rintro i ⟨tm,ds⟩ h' ⟨rfl,rfl,e0,e4,hi,n,wE,iO,e3,hv⟩
 simp only at e0 e3 e4
 rw[Mi.l1]
 by_cases aL:i<s.size
 ·have gA:s[i]∈s.data.toList:=by
   have:s.data.toList.drop i=s[i]::s.data.toList.drop (i+1):=yX _ _ aL
   exact List.mem_of_mem_drop (i:=i) (by rw[this];simp)
  obtain⟨d0,d1⟩:=hd _ gA
  rw[yX _ _ aL]at hv
  simp only[jP]at hv
  have hg:s.data.toList[i]?=some s[i]:=by
   rw[zJ (by simpa using aL)];rfl
  generalize hc:s[i].toNat=c at *
  have w1:IntKind.i64.wrap (n*10)=n*10:=aR (by omega) (by omega)
  have w2:IntKind.u8.wrap ((c:Int)-48)=(c:Int)-48:=IntWalk.u8_in _ (by omega)
  have w3:IntKind.i64.wrap ((c:Int)-48)=(c:Int)-48:=aR (by omega) (by omega)
  have w4:IntKind.i64.wrap (n*10+((c:Int)-48))=n*10+((c:Int)-48):=aR (by omega) (by omega)
  have w5:IntKind.i64.wrap ((i:Int)+1)=(i:Int)+1:=aR (by omega) (by omega)
  have abI:(i:Int)<s.size:=by omega
  by_cases BX:n*10+((c:Int)-48) > 9007199254740991
  ·rw[zX BX]at hv
   rw[<-hv]at hR
   have AF:9007199254740991<n*10+((c:Int)-48):=BX
   simp[e0,e3,e4,aL,hc,w1,w2,w3,w4,AF]
   exact hR
  ·rw[zW BX]at hv
   have AF:¬9007199254740991<n*10+((c:Int)-48):=BX
   simp[e0,e3,e4,aL,hc,w1,w2,w3,w4,w5,AF]
   exact⟨i+1,by omega,by omega,by omega,n*10+((c:Int)-48),by omega,by omega,rfl,hv⟩
 ·have:s.data.toList.drop i=[]:=List.drop_eq_nil_of_le (by simp;omega)
  rw[this]at hv
  simp only[jP]at hv
  rw[<-hv]at hR
  simp[e0,e3,e4,aL]
  exact hR
end
section
variable {h:AH} {r tk:Nat} {L:List Tok} {en:Int} {rv:AV} {M:Nat->Prop} {R:AE->AH->Prop} {X:dq Nat}
theorem Fs(hM:M r)(hL:iB L)(hr:RF h r tk L en X rv)(ht:h.obj tk=some (kS L))
  (hR:∀n h',Fr h h' (·=r)->RF h' r tk L en (rB X fun p=>(bY L en p).map fun _=>p+1) rv->(∀n',rB X (bY L en)=.ok n'->n'=n)->R (.ret (.sc (.int .i64 n))) h'):aA Pg 33 [.ptr r 0] h M R:=by
 have nl:=hL.len
 have nh:=hr
 obtain⟨p,e0,o,ho,hx⟩:=hr
 have BK:=bM ht ho (show(84:Nat)≠50 by decide)
 apply Ak.calls
 have bad:∀tm:Nat->AV,tm 0=.ptr r 0->(∀q,X=.ok q->gh L q=false)->Ak.k9 (fun id=>M id\/h.next<=id) (Ab.bQ Pg [.tmp 2] R) (Ab.aW R) ⟨tm,[]⟩ h:=by
  intro tm e hb
  simp only[Ak.k9,e]
  refine⟨(·=r),fun _ h _=>h ▸ .inl hM,u_ rfl (by decide) nh ht ?_⟩
  intro h' f1 r1
  simp
  cases X with
  |error x=>exact hR _ _ f1 r1 (by simp)
  |ok q=>
   have hq:=hb q rfl
   have:∃e,bY L en q=.error e/\e=kW L en q 100:=by
    simp only[bY,dF,kW,hq]
    cases L[q]?<;>exact⟨_,rfl,rfl⟩
   obtain⟨e,h1,h2⟩:=this
   refine hR _ _ f1 ?_ (by simp[h1])
   simp only[dO,h1,h2,Except.map]
   exact r1
 cases X with
 |error x=>
  obtain⟨dx,rfl,rfl⟩:=hx
  simp[-Ak.k9,ho,dx]
  exact bad _ (by simp) (fun q he=>by cases he)
 |ok q=>
  obtain⟨rfl,rfl,rfl⟩:=hx
  by_cases aL:q<L.length
  ·have ka:¬(L.length:Int)<=q:=by omega
   by_cases hk:L[q].kind=2
   ·have DZ:gh L q=true:=by simp[gh,aL,hk]
    have gA:L[q]∈L:=List.getElem_mem aL
    simp[-Ak.k6,ho,ka,ht,aL,eT Tok.bu,ep Tok.bu,Tok.enc,hk]
    refine⟨fun _=>False,fun _ h=>h.elim,Rl (hL.Ht _ gA) (hL.GL _ gA hk) ?_⟩
    cases hv:jP L[q].text.data.toList 0 with
    |none=>
     simp[-Ak.k4]
     simp only[Ak.k4]
     refine⟨(·=r),fun _ h _=>h ▸ .inl hM,u_ (e:=1) rfl (by decide) nh ht ?_⟩
     intro h' f1 r1
     simp
     have h1:bY L en q=.error (kW L en q 1):=by simp[bY,dF,kW,DZ,aL,hv]
     refine hR _ _ f1 ?_ (by simp[h1])
     simp only[dO,h1,Except.map]
     exact r1
    |some n=>
     have wE:=xc _ _ _ (Int.le_refl 0) (fun c hc=>(hL.GL _ gA hk c hc).1) hv
     have hn':¬n<0:=by omega
     have hw:IntKind.i64.wrap ((q:Int)+1)=(q:Int)+1:=aR (by omega) (by omega)
     simp[hn',ho,hw,hM]
     have h1:bY L en q=.ok n:=by simp[bY,dF,DZ,aL,hv]
     refine hR _ _ ?_ ?_ ?_
     ·exact Fr.refl.put (.inl rfl)
     ·refine⟨(q:Int)+1,0,0,by simp[AH.cg,ho],?_⟩
      simp[rB,Rf,h1,Except.map]
     ·simp[h1]
   ·have DZ:gh L q=false:=by simp[gh,aL,hk]
    simp[-Ak.k9,ho,ka,ht,aL,eT Tok.bu,ep Tok.bu,Tok.enc,hk]
    exact bad _ (by simp) (fun q' he=>by cases he;exact DZ)
  ·have DZ:gh L q=false:=by simp[gh,aL]
   have ka:L.length<=q:=by omega
   simp[-Ak.k9,ho,ka]
   exact bad _ (by simp) (fun q' he=>by cases he;exact DZ)
end
end
section
open Go.Ab
section
variable {h:AH} {r tk:Nat} {L:List Tok} {en:Int} {rv:AV} {M:Nat->Prop} {R:AE->AH->Prop} {X:dq Nat}
theorem Jy(hM:M r)(hL:iB L)(hr:RF h r tk L en X rv)(ht:h.obj tk=some (kS L))
  (hR:∀a h',Fr h h' (·=r)->RF h' r tk L en (rB X fun p=>(dX L en p).map (·.2)) rv->(∀x,rB X (dX L en)=.ok x->x.1=a)->R (.ret (.agg a.enc)) h'):aA Pg 37 [.ptr r 0] h M R:=by
 have nl:=hL.len
 have kA:∃o,h.obj r=some o/\o.ty=50:=let ⟨_,_,_,ho,_⟩:=hr;⟨_,ho,rfl⟩
 obtain⟨orr,tM,ZN⟩:=kA
 have jJ:=h.lt _ _ tM
 have tK:=h.lt _ _ ht
 have BK:tk≠r:=bM ht tM (by rw[ZN];show(84:Nat)≠50;decide)
 apply rz.calls
 have QC:=(Fr.refl (h:=h) (S:=(·=r))).alloc (aP [.sc (.string ⟨#[]⟩),.sc (.int .i64 0)] 2 92)
 have aaB:=(Fr.refl (h:=h) (S:=fun _=>False)).alloc (aP [.sc (.string ⟨#[]⟩),.sc (.int .i64 0)] 2 92)
 have tail:∀(tm:Nat->AV)(h1:AH)(a:Nat)(x:Arg),tm 2=.ptr h.next 0->tm 3=.ptr a 0->h1.obj a=some (xE x)->(∃c1 c2,h1.obj h.next=some (aP [c1,c2] 2 92))->Fr h h1 (·=r)->RF h1 r tk L en (rB X fun p=>(dX L en p).map (·.2)) rv ->
   (∀y,rB X (dX L en)=.ok y->y.1=x)->rz.k1 (fun id=>M id\/h.next<=id) (Ab.bQ Pg [.cell 2 92] R) (Ab.aW R) ⟨tm,[]⟩ h1:=by
  intro tm h1 a x e2 e3 ha ⟨c1,c2,hq⟩ hf zj hv
  simp[e2,e3,ha,hq,V2,To,AH.cg]
  refine hR x _ (hf.put (.inr (zU _))) ?_ hv
  obtain⟨p,e,o,ho,hx⟩:=zj
  exact⟨p,e,o,by rw[AH.lr (nK jJ).1];exact ho,hx⟩
 simp only[rz.k8,rz.k7,aV]
 refine⟨rfl,?_⟩
 simp only[List.map_cons,List.map_nil,ag,fF,s0]
 simp[-rz.k6]
 refine⟨(·=r),fun _ h _=>h ▸ .inl hM,Fv rfl nl (hr.fr aaB) (by rw[AH.dM tK];exact ht) ?_⟩
 intro nm h1 f1 r1 zk
 have QV:=QC.trans (f1.mono fun _ h=>.inl h)
 have q1:=f1.obj (AH.b_ _ _) (nK jJ).2.1
 have n1:=f1.next
 simp only[AH.cm]at n1
 simp[-rz.k6,AH.da]
 have g2:Fr h1 ((h1.alloc (aP [.sc (.string ⟨#[]⟩),.sc (.int .i64 0)] 2 92)).put h1.next 0 [.sc (.string nm),.sc (.int .i64 (-1))]) (fun _=>False):=(Fr.refl.alloc _).put (.inr (zU _))
 have f2:=QV.trans (g2.mono fun _ h=>h.elim)
 have r2:=r1.fr g2
 have a2:((h1.alloc (aP [.sc (.string ⟨#[]⟩),.sc (.int .i64 0)] 2 92)).put h1.next 0 [.sc (.string nm),.sc (.int .i64 (-1))]).obj h1.next=some (xE ⟨nm,-1⟩):=by simp[AH.cg,AH.da]
 have q2:=g2.obj q1 (fun h=>h)
 have t2:=f2.obj ht BK
 have an:h.next<h1.next:=by omega
 generalize (h1.alloc (aP [.sc (.string ⟨#[]⟩),.sc (.int .i64 0)] 2 92)).put h1.next 0 [.sc (.string nm),.sc (.int .i64 (-1))]=h2 at *
 generalize h1.next=a at *
 have an2:=h2.lt _ _ a2
 refine⟨.inr (by omega),?_⟩
 simp only[rz.k6,ag,fF]
 simp[-rz.k5]
 refine⟨fun _=>False,fun _ h=>h.elim,Bm r2 t2 ?_⟩
 generalize zs:(rB X fun p=>(cO L en p).map fun _=>p+1)=X1 at *
 cases gp:oJ L X1 M6 with
 |false=>
  simp[-rz.k1]
  have key:(rB X fun p=>(dX L en p).map (·.2))=X1/\∀y,rB X (dX L en)=.ok y->y.1=⟨nm,-1⟩:=by
   subst zs
   cases X with
   |error x=>exact⟨rfl,by simp⟩
   |ok q=>
    simp only[dO]at zk gp ⊢
    unfold dX
    cases hn:cO L en q with
    |error e=>simp[Except.map]
    |ok s'=>
     rw[hn]at gp zk
     have:=zk s' rfl
     subst this
     simp only[Except.map,oJ]at gp
     simp[gp,Except.map]
  exact tail _ _ a ⟨nm,-1⟩ (by simp) (by simp) a2 ⟨_,_,q2⟩ f2 (by rw[key.1];exact r2) key.2
 |true=>
  cases X1 with
  |error x=>cases gp
  |ok q1'=>
   cases X with
   |error x=>simp at zs
   |ok q=>
    simp only[dO]at zs zk
    cases hn:cO L en q with
    |error e=>rw[hn]at zs;simp[Except.map]at zs
    |ok s'=>
     rw[hn]at zs zk
     have:=zk s' rfl
     subst this
     simp only[Except.map,Except.ok.injEq]at zs
     subst zs
     simp only[oJ]at gp
     obtain⟨pp,ee,oo,H0,rfl,rfl,rfl⟩:=r2
     have NM:q+1<L.length:=by
      unfold gE at gp
      cases hg:L[q+1]? with
      |none=>rw[hg]at gp;cases gp
      |some t=>exact(zM.1 hg).1
     have hw:IntKind.i64.wrap ((q:Int)+1+1)=((q+2:Nat):Int):=by rw[aR (by omega) (by omega)];omega
     simp[-rz.k3,H0,hM,hw]
     have g3:Fr h2 (h2.put r 1 [.sc (.int .i64 ((q:Int)+2))]) (·=r):=Fr.refl.put (.inl rfl)
     have f3:=f2.trans (g3.mono fun _ h=>.inl h)
     have r3:RF (h2.put r 1 [.sc (.int .i64 ((q:Int)+2))]) r tk L en (.ok (q+2)) rv:=⟨(q:Int)+2,0,0,by rw[js H0];rfl,by simp,rfl,rfl⟩
     have a3:=g3.obj a2 (by omega)
     have q3:=g3.obj q2 (by omega)
     have t3:=g3.obj t2 BK
     generalize h2.put r 1 [.sc (.int .i64 ((q:Int)+2))]=h3 at *
     have an3:=h3.lt _ _ a3
     simp only[rz.k3,ag,fF]
     simp[-rz.k2]
     refine⟨(·=r),fun _ h _=>h ▸ .inl hM,Fs rfl hL r3 t3 ?_⟩
     intro n h4 f4 r4 zm
     have a4:=f4.obj a3 (by omega)
     have q4:=f4.obj q3 (by omega)
     have t4:=f4.obj t3 BK
     have Cj:=f3.trans (f4.mono fun _ h=>.inl h)
     simp[-rz.k2,a4]
     have g5:Fr h4 (h4.put a 1 [.sc (.int .i64 n)]) (·=a):=Fr.refl.put (.inl rfl)
     have f5:=Cj.trans (g5.mono fun id (hid:id=a)=>.inr (by omega))
     have r5:RF (h4.put a 1 [.sc (.int .i64 n)]) r tk L en (rB (.ok (q+2)) fun p=>(bY L en p).map fun _=>p+1) rv:=by
      obtain⟨p5,e5,o5,Lj,hx5⟩:=r4
      exact⟨p5,e5,o5,g5.obj Lj (by omega),hx5⟩
     have a5:(h4.put a 1 [.sc (.int .i64 n)]).obj a=some (xE ⟨s',n⟩):=by simp[AH.cg,a4]
     have q5:=g5.obj q4 (by omega)
     have ta:tk≠a:=by have:=h.lt _ _ ht;omega
     have t5:=g5.obj t4 ta
     have BL:a<h4.next:=h4.lt _ _ a4
     refine⟨by omega,?_⟩
     generalize h4.put a 1 [.sc (.int .i64 n)]=h5 at *
     simp only[rz.k2,ag,fF]
     simp[-rz.k1]
     refine⟨(·=r),fun _ h _=>h ▸ .inl hM,Ba rfl nl r5 t5 ?_⟩
     intro h6 f6 r6
     simp[-rz.k1]
     have key:(rB (.ok q) fun p=>(dX L en p).map (·.2))=(rB (rB (.ok (q+2)) fun p=>(bY L en p).map fun _=>p+1) fun p=>(eE L en p CP).map fun _=>p+1)/\∀y,rB (.ok q) (dX L en)=.ok y->y.1=⟨s',n⟩:=by
      simp only[dO]at zm ⊢
      unfold dX
      rw[hn]
      simp only[gp,zV]
      cases hu:bY L en (q+2) with
      |error e=>simp[Except.map]
      |ok n'=>
       have:=zm n' hu
       subst this
       simp only[Except.map,dO]
       cases sO:eE L en (q+3) CP with
       |error e=>simp
       |ok t=>simp
     exact tail _ _ a ⟨s',n⟩ (by simp) (by simp) (f6.obj a5 (by omega)) ⟨_,_,f6.obj q5 (by omega)⟩ (f5.trans (f6.mono fun _ h=>.inl h)) (by rw[key.1];exact r6) key.2
end
end
section
open Go.Ab
theorem RF.ty{h:AH}{r tk:Nat}{L:List Tok}{en:Int}{X:dq Nat}{rv:AV}(hr:RF h r tk L en X rv):∃o,h.obj r=some o/\o.ty=50:=let ⟨_,_,_,ho,_⟩:=hr;⟨_,ho,rfl⟩
theorem RF.dH{h h':AH}{r tk:Nat}{L:List Tok}{en:Int}{X:dq Nat}{rv:AV}{S:Nat->Prop}(hr:RF h r tk L en X rv)(hf:Fr h h' S)(hS:¬S r):RF h' r tk L en X rv:=by
 obtain⟨p,e,o,ho,hx⟩:=hr
 exact⟨p,e,o,hf.obj ho hS,hx⟩
def Aj(L:List Tok)(X X':dq Nat):Prop:=∀p',X'=.ok p'->p'<=L.length/\∃p,X=.ok p/\p+1<=p'
theorem Aj.name{L:List Tok}{en:Int}{X:dq Nat}:Aj L X (rB X fun p=>(cO L en p).map fun _=>p+1):=by
 intro p' h
 cases X with
 |error x=>simp at h
 |ok p=>
  simp only[dO]at h
  cases hn:cO L en p with
  |error e=>rw[hn]at h;simp[Except.map]at h
  |ok s=>rw[hn]at h;simp[Except.map]at h;have:=(na hn).1;exact⟨by omega,p,rfl,by omega⟩
theorem Aj.number{L:List Tok}{en:Int}{X:dq Nat}:Aj L X (rB X fun p=>(bY L en p).map fun _=>p+1):=by
 intro p' h
 cases X with
 |error x=>simp at h
 |ok p=>
  simp only[dO]at h
  cases hn:bY L en p with
  |error e=>rw[hn]at h;simp[Except.map]at h
  |ok s=>rw[hn]at h;simp[Except.map]at h;have:=vF hn;exact⟨by omega,p,rfl,by omega⟩
theorem Aj.sign{L:List Tok}{en:Int}{X:dq Nat}{sg:ByteArray}:Aj L X (rB X fun p=>(eE L en p sg).map fun _=>p+1):=by
 intro p' h
 cases X with
 |error x=>simp at h
 |ok p=>
  simp only[dO]at h
  cases hn:eE L en p sg with
  |error e=>rw[hn]at h;simp[Except.map]at h
  |ok s=>rw[hn]at h;simp[Except.map]at h;have:=vp hn;exact⟨by omega,p,rfl,by omega⟩
theorem Aj.arg{L:List Tok}{en:Int}{X:dq Nat}:Aj L X (rB X fun p=>(dX L en p).map (·.2)):=by
 intro p' h
 cases X with
 |error x=>simp at h
 |ok p=>
  simp only[dO]at h
  cases hn:dX L en p with
  |error e=>rw[hn]at h;simp[Except.map]at h
  |ok s=>rw[hn]at h;simp[Except.map]at h;have:=j3 hn;exact⟨by omega,p,rfl,by omega⟩
structure lJ (h:AH) (r tk:Nat) (L:List Tok) (en:Int) (X:dq Nat) (rv:AV) (rs:List Row) (w:Nat):Prop where
 r:RF h r tk L en X rv
 t:h.obj tk=some (kS L)
 rows:fJ h rv rs
 b:rs.length<=L.length
 ok:∀p,X=.ok p->p<=L.length/\rs.length<=p+w
theorem lJ.BA{h:AH}{r tk:Nat}{L:List Tok}{en:Int}{X:dq Nat}{rv:AV}{rows:List Row}{w:Nat}(hs:lJ h r tk L en X rv rows w){id:Nat}{o:AO}(ho:h.obj id=some o)(ht:o.ty≠50):id≠r:=by
 obtain⟨o',eu,sN⟩:=hs.r.ty
 exact bM ho eu (by rw[sN];exact ht)
theorem lJ.step{h h':AH}{r tk:Nat}{L:List Tok}{en:Int}{X X':dq Nat}{rv:AV}{rows:List Row}{w:Nat}(hw:w<=1)(hs:lJ h r tk L en X rv rows w)(hf:Fr h h' (·=r))(hr:RF h' r tk L en X' rv)(hu:Aj L X X'):lJ h' r tk L en X' rv rows 0:=by
 refine⟨hr,hf.obj hs.t (hs.BA hs.t (show(84:Nat)≠50 by decide)),hs.rows.fr hf (fun id he hid=>?_) (fun id o ho kA hid=>?_),hs.b,fun p' he=>?_⟩
 ·obtain⟨_,_,o,ho,kA⟩:=hs.rows.id he
  exact hs.BA ho (by rw[kA];show(87:Nat)≠50;decide) hid
 ·exact hs.BA ho (by rw[kA];show(92:Nat)≠50;decide) hid
 ·obtain⟨a,p,b,c⟩:=hu p' he
  have:=hs.ok p b
  exact⟨a,by omega⟩
theorem lJ.still{h h':AH}{r tk:Nat}{L:List Tok}{en:Int}{X:dq Nat}{rv:AV}{rows:List Row}{w:Nat}(hs:lJ h r tk L en X rv rows w){v:Nat}(hf:Fr h h' (·=v))(hv:v≠r)(ng:∀id,rv=.sl id 0 rows.length->id≠v)(kA:∀o,h.obj v=some o->o.ty≠84/\o.ty≠92):lJ h' r tk L en X rv rows w:=by
 refine⟨hs.r.dH hf (Ne.symm hv),hf.obj hs.t (fun e=>(kA _ (e ▸ hs.t)).1 rfl),hs.rows.fr hf ng (fun id o ho ht hid=>?_),hs.b,hs.ok⟩
 subst hid
 exact(kA _ ho).2 ht
theorem lJ.ng{h:AH}{r tk:Nat}{L:List Tok}{en:Int}{X:dq Nat}{rv:AV}{rows:List Row}{w:Nat}(hs:lJ h r tk L en X rv rows w):∀{id off n},rv=.sl id off n->off=0/\n=rows.length/\id<h.next:=by
 intro id off n he
 obtain⟨a,b,o,ho,_⟩:=hs.rows.id he
 exact⟨a,b,h.lt _ _ ho⟩
def V5(h:AH)(r tk:Nat)(L:List Tok)(en:Int)(rv:AV)(rows:List Row)(ret:AH->Prop)(res:dq (Nat×List Row)):Prop:=
 ∀h' iT new X,lJ h' r tk L en X iT (rows++new) 0->X=res.map (·.1)->(∀x,res=.ok x->new=x.2)->Fr h h' (SS r rv)->dC (fun id=>SS r rv id\/h.next<=id) iT->ret h'
def CD(L:List Tok)(en:Int)(k:Nat):Prop:=∀{h:AH}{r tk:Nat}{rv:AV}{rows:List Row}{M:Nat->Prop}{R:AE->AH->Prop}{p:Nat}{d:Int},d=32-(k:Int)->(∀id,SS r rv id->M id)->lJ h r tk L en (.ok p) rv rows 0 ->
 V5 h r tk L en rv rows (fun h'=>R (.ret (.dD [])) h') (fm L en k p)->aA Pg 14 [.ptr r 0,.sc (.int .i64 d)] h M R
def ul(L:List Tok)(en:Int)(k:Nat):Prop:=∀{h:AH}{r tk:Nat}{rv:AV}{rows:List Row}{M:Nat->Prop}{R:AE->AH->Prop}{X:dq Nat}{d:Int},d=33-(k:Int)->(∀id,SS r rv id->M id)->lJ h r tk L en X rv rows 0 ->
 V5 h r tk L en rv rows (fun h'=>R (.ret (.dD [])) h') (rB X (lT L en k (fA L en k)))->aA Pg 36 [.ptr r 0,.sc (.int .i64 d)] h M R
structure SJ (h0 h:AH) (r tk:Nat) (L:List Tok) (en:Int) (bG:AV) (aI:List Row) (v:Nat) (X:dq Nat) (rv:AV) (d0:Row) (inner:List Row) (cells:List AV) (w:Nat):Prop where
 fr:Fr h0 h (SS r bG)
 rs:lJ h r tk L en X rv (aI++d0::inner) w
 ins:dC (fun id=>h0.next<=id/\id≠v) rv
 vo:h.obj v=some (aP cells 6 87)
 vn:h0.next<=v
 rn:r<h0.next
section
variable {h0 h h':AH} {r tk:Nat} {L:List Tok} {en:Int} {bG:AV} {aI:List Row} {v:Nat} {X X':dq Nat} {rv:AV} {d0:Row} {inner:List Row} {cells:List AV} {w:Nat}
theorem SJ.vr(s:SJ h0 h r tk L en bG aI v X rv d0 inner cells w):v≠r:=by have:=s.vn;have:=s.rn;omega
theorem SJ.call(hw:w<=1)(s:SJ h0 h r tk L en bG aI v X rv d0 inner cells w)(hf:Fr h h' (·=r))(hr:RF h' r tk L en X' rv)(hu:Aj L X X'):SJ h0 h' r tk L en bG aI v X' rv d0 inner cells 0:=
 ⟨s.fr.trans (hf.mono fun _ h=>.inl (.inl h)),s.rs.step hw hf hr hu,s.ins,hf.obj s.vo s.vr,s.vn,s.rn⟩
theorem SJ.quiet(s:SJ h0 h r tk L en bG aI v X rv d0 inner cells w)(hf:Fr h h' (fun _=>False)):SJ h0 h' r tk L en bG aI v X rv d0 inner cells w:=
 ⟨s.fr.trans (hf.mono fun _ h=>h.elim),⟨s.rs.r.fr hf,hf.obj s.rs.t (fun h=>h),s.rs.rows.fr hf (fun _ _ h=>h) (fun _ _ _ _ h=>h),s.rs.b,s.rs.ok⟩,s.ins,hf.obj s.vo (fun h=>h),s.vn,s.rn⟩
theorem SJ.set(s:SJ h0 h r tk L en bG aI v X rv d0 inner cells w)(off:Nat)(cs:List AV):SJ h0 (h.put v off cs) r tk L en bG aI v X rv d0 inner (bt cells off cs) w:=by
 have f:Fr h (h.put v off cs) (·=v):=Fr.refl.put (.inl rfl)
 refine⟨s.fr.trans (f.mono fun id (hid:id=v)=>.inr (hid ▸ s.vn)),s.rs.still f s.vr (fun id he=>(s.ins id 0 _ he).2) ?_,s.ins,js s.vo,s.vn,s.rn⟩
 intro o ho
 rw[s.vo]at ho;cases ho
 exact⟨show(87:Nat)≠84 by decide,show(87:Nat)≠92 by decide⟩
theorem SJ.body(s:SJ h0 h r tk L en bG aI v X rv d0 inner cells 0){iT:AV}{new:List Row}(gS:lJ h' r tk L en X' iT ((aI++d0::inner)++new) 0)(hf:Fr h h' (SS r rv))(hi:dC (fun id=>SS r rv id\/h.next<=id) iT) :
  SJ h0 h' r tk L en bG aI v X' iT d0 (inner++new) cells 0:=by
 have hv:¬SS r rv v:=by
  rintro(h1 |⟨n,h1⟩)
  ·exact s.vr h1
  ·exact(s.ins v 0 n h1).2 rfl
 have nO:=h.lt _ _ s.vo
 refine⟨s.fr.trans (hf.mono fun id hid=>?_),by simpa using gS,fun id off n he=>?_,hf.obj s.vo hv,s.vn,s.rn⟩
 ·rcases hid with h1 |⟨n,h1⟩
  ·exact .inl (.inl h1)
  ·exact .inr (s.ins id 0 n h1).1
 ·have h0:=(gS.ng he).1
  rcases hi id off n he with(h1 |⟨m,h1⟩) |h1
  ·obtain⟨_,_,o,ho,kA⟩:=gS.rows.id he
   exact(gS.BA ho (by rw[kA];show(87:Nat)≠50;decide) h1).elim
  ·exact s.ins id 0 m h1
  ·exact⟨zR s.vn (by omega),by omega⟩
theorem SJ.nt(s:SJ h0 h r tk L en bG aI v X rv d0 inner cells w):∀id o,h.obj id=some o->o.ty=92->¬id=r:=fun id o ho ht=>s.rs.BA ho (by rw[ht];show(92:Nat)≠50;decide)
theorem SJ.qK(s:SJ h0 h r tk L en bG aI v X rv d0 inner cells w):∀id o,h.obj id=some o->o.ty=92->¬id=v:=fun id o ho ht=>bM ho s.vo (by rw[ht];show(92:Nat)≠87;decide)
theorem SJ.GX(s:SJ h0 h r tk L en bG aI v X rv d0 inner cells w):∀id o,h.obj id=some o->o.ty=92->¬SS r rv id:=by
 rintro id o ho ht (h1 |⟨n,h1⟩)
 ·exact s.nt id o ho ht h1
 ·obtain⟨_,_,o',eu,kA⟩:=s.rs.rows.id h1
  exact bM ho eu (by rw[ht,kA];show(92:Nat)≠87;decide) rfl
end
section
variable {h0 h h':AH} {r tk:Nat} {L:List Tok} {en:Int} {bG:AV} {aI:List Row} {v:Nat} {X X':dq Nat} {rv:AV} {d0:Row} {inner:List Row} {cells:List AV} {a y:AV} {acc:List Arg} {w:Nat}
theorem fg.Q1(ra:fg h rv (aI++d0::inner) a)(s:SJ h0 h r tk L en bG aI v X rv d0 inner cells w)(hf:Fr h h' (·=r)):fg h' rv (aI++d0::inner) a:=
 ra.fr hf (fun id he hid=>by
  obtain⟨_,_,o,ho,kA⟩:=s.rs.rows.id he
  exact s.rs.BA ho (by rw[kA];show(87:Nat)≠50;decide) hid) s.nt
theorem fg.Zq(ra:fg h rv (aI++d0::inner) a)(s:SJ h0 h r tk L en bG aI v X rv d0 inner cells w)(off:Nat)(cs:List AV):fg (h.put v off cs) rv (aI++d0::inner) a:=
 ra.fr (Fr.refl.put (S:=(·=v)) (.inl rfl)) (fun id he=>(s.ins id 0 _ he).2) s.qK
theorem SJ.vh(s:SJ h0 h r tk L en bG aI v X rv d0 inner cells w)(ra:fg h rv (aI++d0::inner) a)(ha:cl Arg.enc 2 92 h a acc)(iF:dC (h0.next<=·) a)(hf:Fr h h' (fun i=>∃off n,a=.sl i off n))(hy:dC (h.next<=·) y) :
  SJ h0 h' r tk L en bG aI v X rv d0 inner cells w/\fg h' rv (aI++d0::inner) y:=by
 have VY:∀i,(∃off n,a=.sl i off n)->∃o,h.obj i=some o/\o.ty=92:=by
  rintro i ⟨off,n,he⟩
  rcases ha with⟨h1,_⟩ |⟨id,h1,ho⟩
  ·rw[h1]at he;cases he
  ·rw[h1]at he;cases he;exact⟨_,ho,rfl⟩
 have not:∀i o,h.obj i=some o->o.ty≠92->¬ ∃off n,a=.sl i off n:=fun i o ho dx he=>by
  obtain⟨o',eu,ht⟩:=VY i he
  rw[ho]at eu;cases eu;exact dx ht
 have Kh:fg h' rv (aI++d0::inner) y:=by
  obtain⟨l,h1,h2,h3⟩:=ra
  refine⟨l,h1.aU hf (fun id he=>?_),h2,fun z hz=>⟨?_,fun id off n uv n' he nk=>?_⟩⟩
  ·rcases h1 with⟨h4,_⟩ |⟨mm,h4,ho⟩
   ·rw[h4]at he;cases he
   ·rw[h4]at he;cases he;exact not _ _ ho (show(87:Nat)≠92 by decide)
  ·obtain⟨h4,h5⟩:=h3 z hz
   rcases h4 with h4 |⟨id,h4,ho⟩
   ·exact .inl h4
   ·refine .inr ⟨id,h4,hf.obj ho ?_⟩
    rintro⟨off,n,he⟩
    exact h5 id off n _ _ he h4
  ·have h6:=hy id off n he
   obtain⟨h4,_⟩:=h3 z hz
   rcases h4 with⟨h4,_⟩ |⟨mm,h4,ho⟩
   ·rw[h4]at nk;cases nk
   ·rw[h4]at nk;cases nk
    have:=h.lt _ _ ho
    omega
 obtain⟨ro,iu,hrt⟩:=s.rs.r.ty
 refine⟨⟨s.fr.trans (hf.mono fun id hid=>?_),⟨s.rs.r.dH hf (not _ _ iu (by rw[hrt];show(50:Nat)≠92;decide)),hf.obj s.rs.t (not _ _ s.rs.t (show(84:Nat)≠92 by decide)),Kh.to,s.rs.b,s.rs.ok⟩,s.ins,hf.obj s.vo (not _ _ s.vo (show(87:Nat)≠92 by decide)),s.vn,s.rn⟩,Kh⟩
 obtain⟨off,n,he⟩:=hid
 exact .inr (iF id off n he)
end
section
variable {h0 h:AH} {r tk:Nat} {L:List Tok} {en:Int} {bG:AV} {aI:List Row} {v:Nat} {X:dq Nat} {rv:AV} {d0:Row} {inner:List Row} {M:Nat->Prop} {R:AE->AH->Prop} {tm:Nat->AV} {a:AV} {row:Row}
def G8(h0:AH)(r tk:Nat)(L:List Tok)(en:Int)(bG:AV)(aI:List Row)(R:AE->AH->Prop)(X:dq Nat)(new:List Row):Prop:=
 ∀h' iT,lJ h' r tk L en X iT (aI++new) 0->Fr h0 h' (SS r bG)->dC (fun id=>SS r bG id\/h0.next<=id) iT->R (.ret (.dD [])) h'
def th(h0:AH)(r tk:Nat)(L:List Tok)(en:Int)(bG:AV)(aI:List Row)(R:AE->AH->Prop)(res:dq (Nat×List Row)):Prop:=V5 h0 r tk L en bG aI (fun h'=>R (.ret (.dD [])) h') res
theorem th.e{res:dq (Nat×List Row)}{new:List Row}(hR:th h0 r tk L en bG aI R res)(h1:X=res.map (·.1))(h2:∀x,res=.ok x->new=x.2):G8 h0 r tk L en bG aI R X new:=
 fun h' iT a b c=>hR h' iT new X a h1 h2 b c
structure TN (tm:Nat->AV) (r v:Nat) (d:Int) (n:Nat):Prop where
 e0:tm 0=.ptr r 0
 e1:tm 1=.sc (.int .i64 d)
 e5:tm 5=.sc (.int .i64 n)
 e6:tm 6=.ptr v 0
theorem TN.ag{tm:Nat->AV}{r v:Nat}{d:Int}{n:Nat}(t:TN tm r v d n):∀(l:List (Nat×AV)),(∀x∈l,6<x.1)->TN (ag tm l) r v d n
 |[],_=>t
 |x::l,h=>by
  have hx:=h x (by simp)
  exact TN.ag (tm:=Go.Ab.fF tm x.1 x.2) ⟨by rw[jF (by omega)];exact t.e0,by rw[jF (by omega)];exact t.e1,by rw[jF (by omega)];exact t.e5,by rw[jF (by omega)];exact t.e6⟩ l (fun y hy=>h y (by simp[hy]))
theorem Mt(s:SJ h0 h r tk L en bG aI v X rv d0 inner (az (row,a)) 0)(ha:cl Arg.enc 2 92 h a row.args){d:Int}(t:TN tm r v d aI.length)
  (hR:G8 h0 r tk L en bG aI R X (row::inner)):cM.k1 (fun id=>M id\/h0.next<=id) (Ab.bQ Pg [] R) (Ab.aW R) ⟨tm,[]⟩ h:=by
 obtain⟨l,h1,h2,h3⟩:=s.rs.rows
 rcases h1 with⟨_,h1⟩ |⟨id,hid,ho⟩
 ·subst h1;simp at h2
 obtain⟨A,l2,rfl,hA,pY⟩:=List.map_eq_append_iff.1 h2
 obtain⟨x,B,rfl,hx,hB⟩:=List.map_eq_cons_iff.1 pY
 have Vf:A.length=aI.length:=by rw[<-hA];simp
 obtain⟨i1,i2⟩:=s.ins id 0 _ hid
 have NP:id≠r:=by have:=s.rn;omega
 have AD:=wv dT A B x (row,a)
 have aL:(aI.length:Int)<((A++x::B).length:Nat):=by simp;omega
 have NS:aI.length*6+6<=((A++x::B).flatMap az).length:=by rw[lZ dT];simp;omega
 rw[Vf]at AD
 have f1:Fr h (h.put id (aI.length*6) (az (row,a))) (·=id):=Fr.refl.put (.inl rfl)
 have o1:(h.put id (aI.length*6) (az (row,a))).obj id=some (aP ((A++(row,a)::B).flatMap az) 6 87):=by rw[js ho,AD]
 have jk:lJ (h.put id (aI.length*6) (az (row,a))) r tk L en X rv (aI++row::inner) 0:=by
  have ak:∀mm o,h.obj mm=some o->o.ty=92->¬mm=id:=fun mm o eu ht=>bM eu ho (by rw[ht];show(92:Nat)≠87;decide)
  refine⟨s.rs.r.dH f1 (Ne.symm NP),f1.obj s.rs.t (bM s.rs.t ho (show(84:Nat)≠87 by decide)),⟨A++(row,a)::B,.inr ⟨id,by rw[hid];simp,o1⟩,by simp[hA,hB],fun y hy=>?_⟩,by have:=s.rs.b;simpa using this,fun p he=>by have:=s.rs.ok p he;simpa using this⟩
  rcases List.mem_append.1 hy with hy |hy
  ·exact ew (h3 y (by simp[hy])) f1 ak
  ·rcases List.mem_cons.1 hy with hy |hy
   ·subst hy;exact ew ha f1 ak
   ·exact ew (h3 y (by simp[hy])) f1 ak
 have jv:=hR _ _ jk (s.fr.trans (f1.mono fun i (hi:i=id)=>.inr (hi ▸ i1))) (fun i off n he=>.inr (s.ins i off n he).1)
 have hv:=s.vo
 obtain⟨p,e,o,hr,_⟩:=s.rs.r
 simp only[cM.k1,t.e0,t.e5,t.e6,aC,aj,au,kU,hr,hv,ap,jX]
 simp only[zG,zB,zA,aa,hid,kN,aE,ho,bz,eL]
 have B1:(az (row,a)).length=6:=rfl
 refine⟨by simp[B1],⟨by omega,aL⟩,?_⟩
 rw[show List.drop 0 (az (row,a))=az (row,a) from rfl,List.take_of_length_le (by simp[B1])]
 rw[zY]
 exact⟨⟨.inr i1,by rcases ha with⟨rfl,_⟩ |⟨mm,rfl,_⟩<;>rfl,rfl,NS⟩,rfl,jv⟩
theorem IH(hL:iB L)(s:SJ h0 h r tk L en bG aI v X rv d0 inner (az (row,a)) 0)(ha:cl Arg.enc 2 92 h a row.args){d:Int}(t:TN tm r v d aI.length)
  (hR:G8 h0 r tk L en bG aI R X ({ row with rows:=inner.length }::inner)):cM.k2 (fun id=>M id\/h0.next<=id) (Ab.bQ Pg [] R) (Ab.aW R) ⟨tm,[]⟩ h:=by
 have nl:=hL.len
 have hb:=s.rs.b
 rw[List.length_append,List.length_cons]at hb
 obtain⟨p,e,o,hr,_⟩:=s.rs.r
 have w1:IntKind.i64.wrap (((aI++d0::inner).length:Int)-aI.length)=(inner.length:Int)+1:=by rw[List.length_append,List.length_cons,aR (by omega) (by omega)];omega
 have w2:IntKind.i64.wrap ((inner.length:Int)+1-1)=inner.length:=by rw[aR (by omega) (by omega)];omega
 simp only[cM.k2,t.e0,t.e5,t.e6,aC,aj,au,hr,ap,zG,zB,zA,aa,s.rs.rows.len.1,s.rs.rows.len.2,lW,w1,w2,aE,s.vo,dt,bz,zH]
 refine⟨⟨.inr s.vn,rfl,rfl,by simp[az]⟩,?_⟩
 have s2:=s.set 4 [.sc (.int .i64 inner.length)]
 have a2:=ew ha (Fr.refl.put (h:=h) (S:=(·=v)) (id:=v) (off:=4) (cs:=[.sc (.int .i64 inner.length)]) (.inl rfl)) s.qK
 exact Mt (row:={ row with rows:=inner.length }) s2 a2 (t.ag _ (by simp)) hR
theorem UM{cells:List AV}{w:Nat}(s:SJ h0 h r tk L en bG aI v X rv d0 inner cells w)(hM:∀id,SS r bG id->M id):∀id,SS r rv id->M id\/h0.next<=id:=by
 rintro id (h1 |⟨n,h1⟩)
 ·exact .inl (hM _ (.inl h1))
 ·exact .inr (s.ins id 0 n h1).1
theorem wl(hL:iB L)(hM:∀id,SS r bG id->M id)(s:SJ h0 h r tk L en bG aI v X rv d0 inner (az (row,a)) 0)(ha:cl Arg.enc 2 92 h a row.args){d:Int}{dR:AV->Nat->AV}(t:∀u,TN (dR u) r v d aI.length)
  (hR:G8 h0 r tk L en bG aI R (rB X fun p=>(eE L en p r8).map fun _=>p+1) ({ row with rows:=inner.length }::inner)) :
  aq Pg (fun id=>M id\/h0.next<=id) 34 [.ptr r 0,.sc (.string ⟨#[59]⟩)] h (fun t h'=>cM.k2 (fun id=>M id\/h0.next<=id) (Ab.bQ Pg [] R) (Ab.aW R) ⟨dR t,[]⟩ h') (Ab.aW R []):=by
 refine⟨(·=r),fun _ h _=>h ▸ .inl (hM r (.inl rfl)),Ba rfl hL.len s.rs.r s.rs.t ?_⟩
 intro h' f1 r1
 exact IH hL (s.call (by omega) f1 r1 .sign) (ew ha f1 s.nt) (t _) hR
theorem AZ{k:Nat}{d d':Int}(hL:iB L)(hb:ul L en k)(hd:d'=33-(k:Int))(hM:∀id,SS r bG id->M id)(s:SJ h0 h r tk L en bG aI v X rv d0 [] (az (row,a)) 0)(ha:cl Arg.enc 2 92 h a row.args)
  {dR:AV->Nat->AV} (t:∀u,TN (dR u) r v d aI.length)
  (hR:∀X' new,X'=(rB X (lT L en k (fA L en k))).map (·.1)->(∀x,rB X (lT L en k (fA L en k))=.ok x->new=x.2)->G8 h0 r tk L en bG aI R X' ({ row with rows:=new.length }::new)) :
  aq Pg (fun id=>M id\/h0.next<=id) 36 [.ptr r 0,.sc (.int .i64 d')] h (fun t h'=>cM.k2 (fun id=>M id\/h0.next<=id) (Ab.bQ Pg [] R) (Ab.aW R) ⟨dR t,[]⟩ h') (Ab.aW R []):=by
 refine⟨SS r rv,fun id hid _=>UM s hM id hid,hb hd (fun _ h=>h) s.rs ?_⟩
 intro h' iT new X' lN hX hn f1 i1
 have s1:=s.body lN f1 i1
 have a1:=ew ha f1 s.GX
 exact IH hL s1 a1 (t _) (by simpa using hR X' new hX hn)
end
end
section
open Go.Ab
section
variable {h0 h:AH} {r tk:Nat} {L:List Tok} {en:Int} {bG:AV} {aI:List Row} {v:Nat} {X:dq Nat} {rv:AV} {d0:Row} {inner:List Row} {cells:List AV} {M:Nat->Prop} {R:AE->AH->Prop} {tm:Nat->AV}
theorem yG(hL:iB L)(hM:∀id,SS r bG id->M id){w:Nat}(hw:w<=1)(s:SJ h0 h r tk L en bG aI v X rv d0 inner cells w)(hc:cells.length=6){C:KT}{dR:AV->AV->Nat->AV}{off:Nat}(ho:off<6)
  (ed:∀nm u h',(∀s',rB X (cO L en)=.ok s'->s'=nm)->SJ h0 h' r tk L en bG aI v (rB X fun p=>(cO L en p).map fun _=>p+1) rv d0 inner (bt cells off [.sc (.string nm)]) 0->C ⟨dR (.sc (.string nm)) u,[]⟩ h') :
  aq Pg (fun id=>M id\/h0.next<=id) 32 [.ptr r 0] h (fun t h'=>ah (some off) (.ptr v 0) fun u=>aD (some 1) u t h' (fun id=>M id\/h0.next<=id) fun wR=>C ⟨dR t u,[]⟩ wR) (Ab.aW R []):=by
 refine⟨(·=r),fun _ h _=>h ▸ .inl (hM r (.inl rfl)),Fv rfl hL.len s.rs.r s.rs.t ?_⟩
 intro nm h' f1 r1 hn
 have s1:=s.call hw f1 r1 .name
 have s2:=s1.set off [.sc (.string nm)]
 show ah (some off) (.ptr v 0) _
 simp only[aj,aE,s1.vo,kQ,bz,zG]
 exact⟨⟨.inr s.vn,rfl,rfl,by omega⟩,ed nm _ _ hn s2⟩
theorem xi(hL:iB L)(hM:∀id,SS r bG id->M id){w:Nat}(hw:w<=1)(s:SJ h0 h r tk L en bG aI v X rv d0 inner cells w)(hc:cells.length=6){C:KT}{dR:AV->AV->Nat->AV}{off:Nat}(ho:off<6)
  (ed:∀n u h',(∀n',rB X (bY L en)=.ok n'->n'=n)->SJ h0 h' r tk L en bG aI v (rB X fun p=>(bY L en p).map fun _=>p+1) rv d0 inner (bt cells off [.sc (.int .i64 n)]) 0->C ⟨dR (.sc (.int .i64 n)) u,[]⟩ h') :
  aq Pg (fun id=>M id\/h0.next<=id) 33 [.ptr r 0] h (fun t h'=>ah (some off) (.ptr v 0) fun u=>aD (some 1) u t h' (fun id=>M id\/h0.next<=id) fun wR=>C ⟨dR t u,[]⟩ wR) (Ab.aW R []):=by
 refine⟨(·=r),fun _ h _=>h ▸ .inl (hM r (.inl rfl)),Fs rfl hL s.rs.r s.rs.t ?_⟩
 intro nm h' f1 r1 hn
 have s1:=s.call hw f1 r1 .number
 have s2:=s1.set off [.sc (.int .i64 nm)]
 show ah (some off) (.ptr v 0) _
 simp only[aj,aE,s1.vo,dt,bz,zG]
 exact⟨⟨.inr s.vn,rfl,rfl,by omega⟩,ed nm _ _ hn s2⟩
theorem Bl(hL:iB L)(hM:∀id,SS r bG id->M id){w:Nat}(hw:w<=1)(s:SJ h0 h r tk L en bG aI v X rv d0 inner cells w){C:KT}{dR:AV->AV->Nat->AV}{K:AV->AH->Prop}
  (hC:∀t h',(bx (some [.string ⟨#[]⟩,.int .i64 0]) 2 92 h' fun u h1=>aD (some 2) u t h1 (fun id=>M id\/h0.next<=id) fun h2=>C ⟨dR t u,[]⟩ h2)=K t h')
  (ed:∀a c h',(∀x,rB X (dX L en)=.ok x->x.1=a)->SJ h0 h' r tk L en bG aI v (rB X fun p=>(dX L en p).map (·.2)) rv d0 inner cells 0->Fr h h' (·=r)->h.next<=c->h'.obj c=some (xE a)->C ⟨dR (.agg a.enc) (.ptr c 0),[]⟩ h') :
  aq Pg (fun id=>M id\/h0.next<=id) 37 [.ptr r 0] h K (Ab.aW R []):=by
 refine⟨(·=r),fun _ h _=>h ▸ .inl (hM r (.inl rfl)),Jy rfl hL s.rs.r s.rs.t ?_⟩
 intro a h' f1 r1 hn
 have s1:=s.call hw f1 r1 .arg
 show K (.agg a.enc) h'
 rw[<-hC]
 simp only[aV]
 refine⟨rfl,?_⟩
 have hv:=AH.b_ h' (aP ([.string ⟨#[]⟩,.int .i64 0].map AV.sc) 2 92)
 have g:Fr h' ((h'.alloc (aP ([.string ⟨#[]⟩,.int .i64 0].map AV.sc) 2 92)).put h'.next 0 a.enc) (fun _=>False):=(Fr.refl.alloc _).put (.inr (zU _))
 simp only[aE,hv,eL,bz]
 refine⟨⟨.inr (zR s.fr.next f1.next),rfl,rfl,by simp[Arg.enc]⟩,?_⟩
 exact ed a _ _ hn (s1.quiet g) (f1.trans (g.mono fun _ h=>h.elim)) f1.next (by rw[js hv];rfl)
theorem Pu{d:Int}{p:Nat}(hL:iB L)(hM:∀id,SS r bG id->M id){k:ByteArray}{pl:Int}(s:SJ h0 h r tk L en bG aI v (.ok p) rv d0 [] (az (⟨k,bZ,[],0,0,pl⟩,aQ)) 0)(t:TN tm r v d aI.length)
  (hR:th h0 r tk L en bG aI R (match cO L en p with |.error e=>.error e |.ok nm=>match bY L en (p+1) with |.error e=>.error e |.ok n=>gg L en (p+2) ⟨k,nm,[],n,0,pl⟩)) :
  cM.k5 (fun id=>M id\/h0.next<=id) (Ab.bQ Pg [] R) (Ab.aW R) ⟨tm,[]⟩ h:=by
 simp only[cM.k5,t.e0,t.e6]
 refine yG hL hM (by decide) s rfl (dR:=fun t u=>ag tm [(98,.ptr r 0),(99,t),(100,u)]) (by decide) (fun nm u h1 hn s1=>?_)
 have t1:=t.ag [(98,.ptr r 0),(99,.sc (.string nm)),(100,u)] (by simp)
 generalize ag tm [(98,.ptr r 0),(99,.sc (.string nm)),(100,u)]=fG at *
 simp only[cM.k4,t1.e0,t1.e6]
 refine xi hL hM (by decide) s1 rfl (dR:=fun t u=>ag fG [(101,.ptr r 0),(102,t),(103,u)]) (by decide) (fun n u h2 kJ s2=>?_)
 have t2:=t1.ag [(101,.ptr r 0),(102,.sc (.int .i64 n)),(103,u)] (by simp)
 generalize ag fG [(101,.ptr r 0),(102,.sc (.int .i64 n)),(103,u)]=c_ at *
 simp only[cM.k3,t2.e0]
 refine wl (row:=⟨k,nm,[],n,0,pl⟩) (a:=aQ) hL hM s2 .nil (dR:=fun t=>ag c_ [(104,.ptr r 0),(105,t)]) (fun _=>t2.ag _ (by simp)) ?_
 simp only[dO]at hn kJ ⊢
 cases h1:cO L en p with
 |error e=>rw[h1]at hR;exact hR.e rfl (by simp)
 |ok KK=>
  rw[h1]at hR hn kJ
  have:=hn KK rfl
  subst this
  simp only[Except.map,dO]at kJ ⊢
  cases h2:bY L en (p+1) with
  |error e=>simp only[h2]at hR;exact hR.e rfl (by simp)
  |ok n'=>
   simp only[h2]at hR kJ
   have:=kJ n' rfl
   subst this
   simp only[dO]
   unfold gg at hR
   cases h3:eE L en (p+2) r8 with
   |error e=>simp only[h3]at hR;exact hR.e (by simp[h3,Except.map]) (by simp)
   |ok t=>simp only[h3]at hR;exact hR.e (by simp[h3,Except.map]) (by simp)
theorem S3{d:Int}{kk p:Nat}(hL:iB L)(hb:ul L en kk)(hd:d=32-(kk:Int))(fI:kk<=32)(hM:∀id,SS r bG id->M id){k:ByteArray}{pl:Int}(s:SJ h0 h r tk L en bG aI v (.ok p) rv d0 [] (az (⟨k,bZ,[],0,0,pl⟩,aQ)) 0)(t:TN tm r v d aI.length)
  (hR:th h0 r tk L en bG aI R (match bY L en p with |.error e=>.error e |.ok n=>iJ L en kk (fA L en kk) (p+1) ⟨k,bZ,[],n,0,pl⟩)) :
  cM.fi (fun id=>M id\/h0.next<=id) (Ab.bQ Pg [] R) (Ab.aW R) ⟨tm,[]⟩ h:=by
 have hw:IntKind.i64.wrap (d+1)=d+1:=aR (by omega) (by omega)
 simp only[cM.fi,t.e0,t.e6]
 refine xi hL hM (by decide) s rfl (dR:=fun t u=>ag tm [(127,.ptr r 0),(128,t),(129,u)]) (by decide) (fun n u h2 kJ s2=>?_)
 have t2:=t.ag [(127,.ptr r 0),(128,.sc (.int .i64 n)),(129,u)] (by simp)
 generalize ag tm [(127,.ptr r 0),(128,.sc (.int .i64 n)),(129,u)]=c_ at *
 simp only[cM.eU,t2.e0,t2.e1,aZ,hw]
 refine AZ (row:=⟨k,bZ,[],n,0,pl⟩) (a:=aQ) (d:=d) hL hb (by omega) hM s2 .nil (dR:=fun t=>ag c_ [(130,.ptr r 0),(131,.sc (.int .i64 d)),(132,.sc (.int .i64 (d+1))),(133,t)]) (fun _=>t2.ag _ (by simp)) ?_
 intro X' new hX lX
 simp only[dO]at kJ hX lX
 cases h1:bY L en p with
 |error e=>rw[h1]at hR hX;exact hR.e (by simpa[Except.map] using hX) (by simp)
 |ok n'=>
  simp only[h1]at hR kJ hX lX
  have:=kJ n' rfl
  subst this
  simp only[Except.map,dO]at hX lX
  unfold iJ at hR
  cases h3:lT L en kk (fA L en kk) (p+1) with
  |error e=>simp only[h3]at hR hX;exact hR.e (by simpa[Except.map] using hX) (by simp)
  |ok x=>
   simp only[h3]at hR hX lX
   have:=lX x rfl
   subst this
   exact hR.e (by simpa[Except.map] using hX) (by simp)
theorem We{d:Int}{kk p:Nat}(hL:iB L)(hb:ul L en kk)(hd:d=32-(kk:Int))(fI:kk<=32)(hM:∀id,SS r bG id->M id){k:ByteArray}{pl:Int}(s:SJ h0 h r tk L en bG aI v (.ok p) rv d0 [] (az (⟨k,bZ,[],0,0,pl⟩,aQ)) 0)(t:TN tm r v d aI.length)
  (hR:th h0 r tk L en bG aI R (match cO L en p with |.error e=>.error e |.ok nm=>match bY L en (p+1) with |.error e=>.error e |.ok n=>iJ L en kk (fA L en kk) (p+2) ⟨k,nm,[],n,0,pl⟩)) :
  cM.hH (fun id=>M id\/h0.next<=id) (Ab.bQ Pg [] R) (Ab.aW R) ⟨tm,[]⟩ h:=by
 have hw:IntKind.i64.wrap (d+1)=d+1:=aR (by omega) (by omega)
 simp only[cM.hH,t.e0,t.e6]
 refine yG hL hM (by decide) s rfl (dR:=fun t u=>ag tm [(136,.ptr r 0),(137,t),(138,u)]) (by decide) (fun nm u h1 hn s1=>?_)
 have t1:=t.ag [(136,.ptr r 0),(137,.sc (.string nm)),(138,u)] (by simp)
 generalize ag tm [(136,.ptr r 0),(137,.sc (.string nm)),(138,u)]=fG at *
 simp only[cM.iq,t1.e0,t1.e6]
 refine xi hL hM (by decide) s1 rfl (dR:=fun t u=>ag fG [(139,.ptr r 0),(140,t),(141,u)]) (by decide) (fun n u h2 kJ s2=>?_)
 have t2:=t1.ag [(139,.ptr r 0),(140,.sc (.int .i64 n)),(141,u)] (by simp)
 generalize ag fG [(139,.ptr r 0),(140,.sc (.int .i64 n)),(141,u)]=c_ at *
 simp only[cM.ir,t2.e0,t2.e1,aZ,hw]
 refine AZ (row:=⟨k,nm,[],n,0,pl⟩) (a:=aQ) (d:=d) hL hb (by omega) hM s2 .nil (dR:=fun t=>ag c_ [(142,.ptr r 0),(143,.sc (.int .i64 d)),(144,.sc (.int .i64 (d+1))),(145,t)]) (fun _=>t2.ag _ (by simp)) ?_
 intro X' new hX lX
 simp only[dO]at hn kJ hX lX
 cases h0:cO L en p with
 |error e=>rw[h0]at hR hX;exact hR.e (by simpa[Except.map] using hX) (by simp)
 |ok KK=>
  simp only[h0]at hR hn kJ hX lX
  have:=hn KK rfl
  subst this
  simp only[Except.map,dO]at kJ hX lX
  cases h1:bY L en (p+1) with
  |error e=>simp only[h1]at hR hX;exact hR.e (by simpa[Except.map] using hX) (by simp)
  |ok n'=>
   simp only[h1]at hR kJ hX lX
   have:=kJ n' rfl
   subst this
   simp only[dO]at hX lX
   unfold iJ at hR
   cases h3:lT L en kk (fA L en kk) (p+2) with
   |error e=>simp only[h3]at hR hX;exact hR.e (by simpa[Except.map,h3] using hX) (by simp)
   |ok x=>
    simp only[h3]at hR
    simp only[show p+1+1=p+2 from rfl,h3]at hX lX
    have:=lX x rfl
    subst this
    exact hR.e (by simpa[Except.map] using hX) (by simp)
end
end
end Go.Proofs.YtjehibknlmehmaaGreat
namespace Go.Ab
theorem aby{α:Type}{f:α->List AV}{sz:Nat}{ty:TypeId}{z:List Value}(hf:∀x,(f x).length=sz)(hz:z.length=sz)(h1:∀x,(f x).all cR=true)
  {h:AH} {t:α} {K:AV->AH->Prop}
  (hK:∀h',cl f sz ty h' (.sl h.next 0 1) [t]->Fr h h' (fun _=>False)->K (.sl h.next 0 1) h') :
  dG (some (sz,ty,z)) 1 [(0,.agg (f t))] h K:=by
 have jh:dU (fun i=>some (i*sz,sz)) (z.map .sc) [(0,.agg (f t))]=some (f t):=by
  simp only[dU,cJ,Nat.zero_mul,hf,zZ,hz,zG,zU,and_self,zV]
  rw[nu (by simp[hf,hz])]
 refine⟨f t,⟨jh,h1 t⟩,?_⟩
 refine hK _ (.inr ⟨_,rfl,?_⟩) (Fr.refl.alloc _)
 rw[AH.b_];simp[aP]
theorem abx{α:Type}{f:α->List AV}{sz:Nat}{ty:TypeId}{z:List Value}(hf:∀x,(f x).length=sz)(hz:z.length=sz+sz)(h1:∀x,(f x).all cR=true)
  {h:AH} {s t:α} {K:AV->AH->Prop}
  (hK:∀h',cl f sz ty h' (.sl h.next 0 2) [s,t]->Fr h h' (fun _=>False)->K (.sl h.next 0 2) h') :
  dG (some (sz,ty,z)) 2 [(0,.agg (f s)),(1,.agg (f t))] h K:=by
 have e1:bt (z.map AV.sc) 0 (f s)=f s++(z.map AV.sc).drop sz:=by
  conv=>lhs;rw[<-List.take_append_drop sz (z.map AV.sc)]
  rw[nC _ _ _ (by rw[hf];simp;omega)]
 have e2:bt (f s++(z.map AV.sc).drop sz) sz (f t)=f s++f t:=by
  have:=m7 (f s) (f t) ((z.map AV.sc).drop sz) 0
  rw[hf,Nat.add_zero]at this
  rw[this]
  have:=nC (f t) ((z.map AV.sc).drop sz) [] (by rw[hf];simp;omega)
  rw[List.append_nil,List.append_nil]at this
  rw[this]
 have jh:dU (fun i=>some (i*sz,sz)) (z.map .sc) [(0,.agg (f s)),(1,.agg (f t))]=some (f s++f t):=by
  simp only[dU,eL,Nat.zero_mul,Nat.one_mul,zG,hf,zH]
  rw[zX (by simp;omega),e1,zX (by simp[hf];omega),e2]
 refine⟨_,⟨jh,by simp only[List.all_append,h1,Bool.and_self]⟩,?_⟩
 refine hK _ (.inr ⟨_,rfl,?_⟩) (Fr.refl.alloc _)
 rw[AH.b_];simp[aP]
end Go.Ab
namespace Go.Proofs.YtjehibknlmehmaaGreat
section
open Go.Ab
section
variable {h0 h:AH} {r tk:Nat} {L:List Tok} {en:Int} {bG:AV} {aI:List Row} {v:Nat} {X:dq Nat} {rv:AV} {d0:Row} {M:Nat->Prop} {R:AE->AH->Prop} {tm:Nat->AV}
theorem HA{inner:List Row}{k nm:ByteArray}{acc:List Arg}{pl:Int}{a:AV}{x:Arg}{W:Nat->Prop}{K:AV->AV->AH->Prop}(hW:∀id,h0.next<=id->W id)(s:SJ h0 h r tk L en bG aI v X rv d0 inner (az (⟨k,nm,acc,0,0,pl⟩,a)) 0)
  (ra:fg h rv (aI++d0::inner) a) (ha:cl Arg.enc 2 92 h a acc) (iF:dC (h0.next<=·) a) (hn:acc.length<=65536)
  (hK:∀v1 y h',SJ h0 h' r tk L en bG aI v X rv d0 inner (az (⟨k,nm,acc++[x],0,0,pl⟩,y)) 0->fg h' rv (aI++d0::inner) y->cl Arg.enc 2 92 h' y (acc++[x])->dC (h0.next<=·) y->K v1 y h') :
  dG (some (2,92,[.string ⟨#[]⟩,.int .i64 0])) 1 [(0,.agg x.enc)] h fun v1 h4=>fE (some (2,24,92)) a v1 h4 W fun y h5=>aD (some 1) (.ptr v 2) y h5 W fun h6=>K v1 y h6:=by
 refine Q8 (f:=Arg.enc) (K:=fun v1 y h5=>aD (some 1) (.ptr v 2) y h5 W fun h6=>K v1 y h6) Arg.bu (by decide) rfl Arg.hZ (by decide) ha (fun id off n he=>hW _ (iF id off n he)) (by omega) ?_
 intro v1 y h5 hy iy f5
 obtain⟨s5,TD⟩:=s.vh ra ha iF f5 iy
 obtain⟨id,hid⟩:=hy.sl (by simp)
 have Un:dC (h0.next<=·) y:=fun i off n he=>zR (zR s.vn (by have:=h.lt _ _ s.vo;omega)) (iy i off n he)
 have s6:=s5.set 2 [y]
 have wu:=TD.Zq s5 2 [y]
 have sL:=ew hy (Fr.refl.put (h:=h5) (S:=(·=v)) (id:=v) (off:=2) (cs:=[y]) (.inl rfl)) s5.qK
 subst hid
 simp only[aE,s5.vo,yq,bz]
 exact⟨⟨hW _ s.vn,rfl,rfl,by simp[az]⟩,hK _ _ _ s6 wu sL Un⟩
theorem DC(h:ot L X=true):∃q,X=.ok q/\ic L q=true:=by
 cases X with
 |error x=>cases h
 |ok q=>exact⟨q,rfl,h⟩
theorem Px{d:Int}{kk p:Nat}(hL:iB L)(hb:ul L en kk)(hd:d=32-(kk:Int))(fI:kk<=32)(hM:∀id,SS r bG id->M id){k:ByteArray}{pl:Int}(s:SJ h0 h r tk L en bG aI v (.ok p) rv d0 [] (az (⟨k,bZ,[],0,0,pl⟩,aQ)) 0)(t:TN tm r v d aI.length)
  (hR:th h0 r tk L en bG aI R (match cO L en p with |.error e=>.error e |.ok nm=>match ie L en (L.length+1) (p+1) [] with |.error e=>.error e |.ok (l,p')=>iJ L en kk (fA L en kk) p' ⟨k,nm,l,0,0,pl⟩)) :
  cM.dB (fun id=>M id\/h0.next<=id) (Ab.bQ Pg [] R) (Ab.aW R) ⟨tm,[]⟩ h:=by
 have nl:=hL.len
 simp only[cM.dB,t.e0,t.e6]
 refine yG hL hM (by decide) s rfl (dR:=fun t u=>ag tm [(108,.ptr r 0),(109,t),(110,u)]) (by decide) (fun nm u h1 hn s1=>?_)
 have t1:=t.ag [(108,.ptr r 0),(109,.sc (.string nm)),(110,u)] (by simp)
 generalize ag tm [(108,.ptr r 0),(109,.sc (.string nm)),(110,u)]=fG at *
 unfold cM.cZ
 simp only[dO]at hn s1
 generalize zs:((cO L en p).map fun _=>p+1)=X1 at *
 generalize hY:(rB X1 fun q=>ie L en (L.length+1) q [])=Y
 refine gY (ι:=Nat×dq Nat×List Arg) (fun x s' h'=>s'.ds=[]/\TN s'.tm r v d aI.length/\(∀q,x.2.1=.ok q->L.length<q+x.1/\x.2.2.length<=q)/\(rB x.2.1 fun q=>ie L en x.1 q x.2.2)=Y /\
  ∃a,SJ h0 h' r tk L en bG aI v x.2.1 rv d0 [] (az (⟨k,nm,x.2.2,0,0,pl⟩,a)) 0/\fg h' rv (aI++d0::[]) a/\cl Arg.enc 2 92 h' a x.2.2/\dC (h0.next<=·) a) (fun x=>x.1) (L.length+1,X1,[]) ?_ ?_
 ·exact⟨rfl,t1,fun q hq=>⟨by simp only;omega,by simp⟩,hY,aQ,s1,.nil s1.rs.rows,.nil,fun _ _ _ he=>by cases he⟩
 rintro⟨n,Xq,acc⟩ ⟨c_,ds⟩ h2 ⟨rfl,t2,hq,eN,a,s2,xn,ii,vO⟩
 simp only at t2 hq eN s2 xn ii
 rw[cM.l1]
 simp only[cM.k9,t2.e0]
 refine⟨fun _=>False,fun _ h=>h.elim,CX s2.rs.r s2.rs.t ?_⟩
 have t3:=fun b=>t2.ag [(111,.ptr r 0),(112,.sc (.bool b))] (by simp)
 cases iw:ot L Xq with
 |false=>
  have sY:ag c_ [(111,.ptr r 0),(112,.sc (.bool false))] 112=.sc (.bool false):=by simp
  have t4:=t3 false
  show cM.k8 _ _ _ ⟨ag c_ [(111,.ptr r 0),(112,.sc (.bool false))],[]⟩ h2
  generalize ag c_ [(111,.ptr r 0),(112,.sc (.bool false))]=h_ at *
  have hw:IntKind.i64.wrap (d+1)=d+1:=aR (by omega) (by omega)
  simp only[cM.k8,sY,al,zE,zC,zH,zD,bJ,df,zV]
  simp only[cM.k6,t4.e0,t4.e1,aZ,hw]
  refine AZ (row:=⟨k,nm,acc,0,0,pl⟩) (a:=a) (d:=d) hL hb (by omega) hM s2 ii (dR:=fun t=>ag h_ [(121,.ptr r 0),(122,.sc (.int .i64 d)),(123,.sc (.int .i64 (d+1))),(124,t)]) (fun _=>t4.ag _ (by simp)) ?_
  have B9:Y=Xq.map fun q=>(acc,q):=by
   rw[<-eN]
   cases Xq with
   |error e=>rfl
   |ok q=>
    have:=(hq q rfl).1
    have HW:=(s2.rs.ok q rfl).1
    cases n with
    |zero=>omega
    |succ n=>
     simp only[ot]at iw
     simp[ie,iw,Except.map]
  intro X' new hX lX
  rw[<-hY,<-zs]at B9
  cases h0:cO L en p with
  |error e=>
   rw[h0]at hR B9
   cases Xq with
   |ok q=>simp[Except.map]at B9
   |error e'=>
    simp[Except.map]at B9
    subst B9
    exact hR.e (by simpa[Except.map] using hX) (by simp)
  |ok KK=>
   rw[h0]at hR B9 hn
   have:=hn KK rfl
   subst this
   simp only[Except.map,dO]at B9
   cases Xq with
   |error e'=>
    simp only[B9]at hR
    exact hR.e (by simpa[Except.map] using hX) (by simp)
   |ok q=>
    simp only[B9]at hR
    simp only[dO]at hX lX
    unfold iJ at hR
    cases h3:lT L en kk (fA L en kk) q with
    |error e=>simp only[h3]at hR hX;exact hR.e (by simpa[Except.map] using hX) (by simp)
    |ok x=>
     simp only[h3]at hR hX lX
     have:=lX x rfl
     subst this
     exact hR.e (by simpa[Except.map] using hX) (by simp)
 |true=>
  obtain⟨q,rfl,DX⟩:=DC iw
  obtain⟨uT,nW⟩:=hq q rfl
  have HW:=(s2.rs.ok q rfl).1
  simp only[dO]at eN
  cases n with
  |zero=>omega
  |succ n=>
   simp only[ie,DX,zV]at eN
   have sY:ag c_ [(111,.ptr r 0),(112,.sc (.bool true))] 112=.sc (.bool true):=by simp
   have t4:=t3 true
   show cM.k8 _ _ _ ⟨ag c_ [(111,.ptr r 0),(112,.sc (.bool true))],[]⟩ h2
   generalize ag c_ [(111,.ptr r 0),(112,.sc (.bool true))]=h_ at *
   simp only[cM.k8,sY,al,zF,zC,zI,zD]
   simp only[cM.k7]
   refine⟨fun _=>v,by simp[s2.vo],?_⟩
   simp only[t4.e6,t4.e0,aj,au,s2.vo,ap,zG]
   simp only[az,zB,zA,aa]
   refine⟨by simp,(·=r),fun id hid _=>?_,Fv rfl nl s2.rs.r s2.rs.t ?_⟩
   ·have:=s2.vr
    exact hid ▸ ⟨.inl (hM r (.inl rfl)),by simp;exact fun e=>this e.symm⟩
   intro zc h3 f3 r3 kJ
   have s3:=s2.call (by omega) f3 r3 .name
   have Fa:=xn.Q1 s2 f3
   have wH:=ew ii f3 s2.nt
   simp only[dO]at kJ s3
   have DZ:cO L en q=.ok zc:=by
    cases h5:cO L en q with
    |error e=>
     exfalso
     unfold ic at DX
     unfold cO dF at h5
     cases hg:L[q]? with
     |none=>rw[hg]at DX;cases DX
     |some t'=>
      have:ic L q=true:=by unfold ic;exact DX
      simp[hg,this,Except.map]at h5
    |ok s'=>rw[kJ s' h5]
   rw[DZ]at eN s3
   simp only[Except.map]at s3
   refine⟨Arg.enc ⟨zc,-1⟩,rfl,?_⟩
   show dG (some (2,92,[.string ⟨#[]⟩,.int .i64 0])) 1 [(0,.agg (Arg.enc ⟨zc,-1⟩))] h3 _
   refine HA (x:=⟨zc,-1⟩) (fun id hid=>Or.inr hid) s3 Fa wH vO (by omega) ?_
   intro v1 y h6 s6 wu sL DQ
   simp only[bJ]
   exact⟨(n,.ok (q+1),acc++[⟨zc,-1⟩]),by simp,trivial,t4.ag _ (by simp),fun q' he=>by cases he;exact⟨by simp only;omega,by simp;omega⟩,by simp only[dO];exact eN,y,s6,wu,sL,DQ⟩
end
end
section
open Go.Ab
section
variable {h0 h:AH} {r tk:Nat} {L:List Tok} {en:Int} {bG:AV} {aI:List Row} {v:Nat} {X:dq Nat} {rv:AV} {d0:Row} {M:Nat->Prop} {R:AE->AH->Prop} {tm:Nat->AV}
theorem Pv{d:Int}{p:Nat}(hL:iB L)(hM:∀id,SS r bG id->M id){k:ByteArray}{pl:Int}(s:SJ h0 h r tk L en bG aI v (.ok p) rv d0 [] (az (⟨k,bZ,[],0,0,pl⟩,aQ)) 0)(t:TN tm r v d aI.length)
  (hR:th h0 r tk L en bG aI R (match dX L en p with |.error e=>.error e |.ok (a,p1)=>match dX L en p1 with |.error e=>.error e |.ok (b,p2)=>gg L en p2 ⟨k,bZ,[a,b],0,0,pl⟩)) :
  cM.lP (fun id=>M id\/h0.next<=id) (Ab.bQ Pg [] R) (Ab.aW R) ⟨tm,[]⟩ h:=by
 simp only[cM.lP,t.e0]
 refine Bl hL hM (by decide) s (dR:=fun t u=>ag tm [(148,.ptr r 0),(149,t),(7,u)]) (fun _ _=>rfl) ?_
 intro a c1 h1 iO s1 f1 Ys o1
 have t1:=t.ag [(148,.ptr r 0),(149,.agg a.enc),(7,.ptr c1 0)] (by simp)
 have e7:ag tm [(148,.ptr r 0),(149,.agg a.enc),(7,.ptr c1 0)] 7=.ptr c1 0:=by simp
 show cM.ml _ _ _ ⟨ag tm [(148,.ptr r 0),(149,.agg a.enc),(7,.ptr c1 0)],[]⟩ h1
 generalize ag tm [(148,.ptr r 0),(149,.agg a.enc),(7,.ptr c1 0)]=fG at *
 simp only[cM.ml,t1.e0]
 refine Bl hL hM (by decide) s1 (dR:=fun t u=>ag fG [(150,.ptr r 0),(151,t),(8,u)]) (fun _ _=>rfl) ?_
 intro b c2 h2 kJ s2 f2 c2n o2
 have t2:=t1.ag [(150,.ptr r 0),(151,.agg b.enc),(8,.ptr c2 0)] (by simp)
 have g7:ag fG [(150,.ptr r 0),(151,.agg b.enc),(8,.ptr c2 0)] 7=.ptr c1 0:=by simp[e7]
 have g8:ag fG [(150,.ptr r 0),(151,.agg b.enc),(8,.ptr c2 0)] 8=.ptr c2 0:=by simp
 have c1r:c1≠r:=s1.rs.BA o1 (show(92:Nat)≠50 by decide)
 have o1':=f2.obj o1 c1r
 show cM.lx _ _ _ ⟨ag fG [(150,.ptr r 0),(151,.agg b.enc),(8,.ptr c2 0)],[]⟩ h2
 generalize ag fG [(150,.ptr r 0),(151,.agg b.enc),(8,.ptr c2 0)]=c_ at *
 simp only[cM.lx,g7,g8,t2.e6,kU,o1',o2,jX,aj,zG]
 refine⟨by simp,by simp,?_⟩
 show dG (some (2,92,[.string ⟨#[]⟩,.int .i64 0,.string ⟨#[]⟩,.int .i64 0])) 2 [(0,.agg a.enc),(1,.agg b.enc)] h2 _
 refine abx (f:=Arg.enc) Arg.bu rfl Arg.hZ ?_
 intro h3 hy f3
 have s3:=s2.quiet f3
 have s4:=s3.set 2 [.sl h2.next 0 2]
 have Uw:=ew hy (Fr.refl.put (h:=h3) (S:=(·=v)) (id:=v) (off:=2) (cs:=[.sl h2.next 0 2]) (.inl rfl)) s3.qK
 simp only[aE,s3.vo,yq,bz]
 refine⟨⟨.inr s.vn,rfl,rfl,by simp[az]⟩,?_⟩
 have t4:=t2.ag [(152,.agg a.enc),(153,.agg b.enc),(154,.sl h2.next 0 2),(155,.ptr v 2)] (by simp)
 show cM.jA _ _ _ ⟨ag c_ [(152,.agg a.enc),(153,.agg b.enc),(154,.sl h2.next 0 2),(155,.ptr v 2)],[]⟩ _
 generalize ag c_ [(152,.agg a.enc),(153,.agg b.enc),(154,.sl h2.next 0 2),(155,.ptr v 2)]=h_ at *
 simp only[cM.jA,t4.e0]
 refine wl (row:=⟨k,bZ,[a,b],0,0,pl⟩) (a:=.sl h2.next 0 2) hL hM s4 Uw (dR:=fun t=>ag h_ [(156,.ptr r 0),(157,t)]) (fun _=>t4.ag _ (by simp)) ?_
 simp only[dO]at iO kJ ⊢
 cases h1:dX L en p with
 |error e=>rw[h1]at hR;exact hR.e rfl (by simp)
 |ok x=>
  obtain⟨a',p1⟩:=x
  rw[h1]at hR iO kJ
  have:=iO _ rfl
  subst this
  simp only[Except.map,dO]at kJ ⊢
  cases h2:dX L en p1 with
  |error e=>simp only[h2]at hR;exact hR.e rfl (by simp)
  |ok x=>
   obtain⟨b',p2⟩:=x
   simp only[h2]at hR kJ
   have:=kJ _ rfl
   subst this
   simp only[dO]
   unfold gg at hR
   cases h3:eE L en p2 r8 with
   |error e=>simp only[h3]at hR;exact hR.e (by simp[Except.map]) (by simp)
   |ok t=>simp only[h3]at hR;exact hR.e (by simp[Except.map]) (by simp)
theorem Mu{d:Int}{p:Nat}(hL:iB L)(hM:∀id,SS r bG id->M id){k:ByteArray}{pl:Int}(s:SJ h0 h r tk L en bG aI v (.ok p) rv d0 [] (az (⟨k,bZ,[],0,0,pl⟩,aQ)) 0)(t:TN tm r v d aI.length)
  (hR:th h0 r tk L en bG aI R (match dX L en p with |.error e=>.error e |.ok (a,p1)=>gg L en p1 ⟨k,bZ,[a],0,0,pl⟩)) :
  cM.mj (fun id=>M id\/h0.next<=id) (Ab.bQ Pg [] R) (Ab.aW R) ⟨tm,[]⟩ h:=by
 simp only[cM.mj,t.e0]
 refine Bl hL hM (by decide) s (dR:=fun t u=>ag tm [(160,.ptr r 0),(161,t),(9,u)]) (fun _ _=>rfl) ?_
 intro a c1 h1 iO s1 f1 Ys o1
 have t1:=t.ag [(160,.ptr r 0),(161,.agg a.enc),(9,.ptr c1 0)] (by simp)
 have e9:ag tm [(160,.ptr r 0),(161,.agg a.enc),(9,.ptr c1 0)] 9=.ptr c1 0:=by simp
 show cM.kV _ _ _ ⟨ag tm [(160,.ptr r 0),(161,.agg a.enc),(9,.ptr c1 0)],[]⟩ h1
 generalize ag tm [(160,.ptr r 0),(161,.agg a.enc),(9,.ptr c1 0)]=fG at *
 simp only[cM.kV,e9,t1.e6,kU,o1,jX,aj,zG]
 refine⟨by simp,?_⟩
 show dG (some (2,92,[.string ⟨#[]⟩,.int .i64 0])) 1 [(0,.agg a.enc)] h1 _
 refine aby (f:=Arg.enc) Arg.bu rfl Arg.hZ ?_
 intro h3 hy f3
 have s3:=s1.quiet f3
 have s4:=s3.set 2 [.sl h1.next 0 1]
 have Uw:=ew hy (Fr.refl.put (h:=h3) (S:=(·=v)) (id:=v) (off:=2) (cs:=[.sl h1.next 0 1]) (.inl rfl)) s3.qK
 simp only[aE,s3.vo,yq,bz]
 refine⟨⟨.inr s.vn,rfl,rfl,by simp[az]⟩,?_⟩
 have t4:=t1.ag [(162,.agg a.enc),(163,.sl h1.next 0 1),(164,.ptr v 2)] (by simp)
 show cM.nf _ _ _ ⟨ag fG [(162,.agg a.enc),(163,.sl h1.next 0 1),(164,.ptr v 2)],[]⟩ _
 generalize ag fG [(162,.agg a.enc),(163,.sl h1.next 0 1),(164,.ptr v 2)]=h_ at *
 simp only[cM.nf,t4.e0]
 refine wl (row:=⟨k,bZ,[a],0,0,pl⟩) (a:=.sl h1.next 0 1) hL hM s4 Uw (dR:=fun t=>ag h_ [(165,.ptr r 0),(166,t)]) (fun _=>t4.ag _ (by simp)) ?_
 simp only[dO]at iO ⊢
 cases h1:dX L en p with
 |error e=>rw[h1]at hR;exact hR.e rfl (by simp)
 |ok x=>
  obtain⟨a',p1⟩:=x
  rw[h1]at hR iO
  have:=iO _ rfl
  subst this
  simp only[Except.map,dO]
  unfold gg at hR
  cases h3:eE L en p1 r8 with
  |error e=>simp only[h3]at hR;exact hR.e (by simp[Except.map]) (by simp)
  |ok t=>simp only[h3]at hR;exact hR.e (by simp[Except.map]) (by simp)
theorem S2{d:Int}{p:Nat}{tx:ByteArray}(hL:iB L)(hM:∀id,SS r bG id->M id)(zk:cO L en p=.ok tx){pl:Int}(s:SJ h0 h r tk L en bG aI v (.ok p) rv d0 [] (az (⟨cn,bZ,[],0,0,pl⟩,aQ)) 1)(t:TN tm r v d aI.length)
  (hR:th h0 r tk L en bG aI R (match jC L en (L.length+1) (p+1) [] with |.error e=>.error e |.ok (l,p')=>gg L en p' ⟨cn,tx,l,0,0,pl⟩)) :
  cM.mH (fun id=>M id\/h0.next<=id) (Ab.bQ Pg [] R) (Ab.aW R) ⟨tm,[]⟩ h:=by
 have nl:=hL.len
 simp only[cM.mH,t.e0,t.e6]
 refine yG hL hM (by decide) s rfl (dR:=fun t u=>ag tm [(80,.ptr r 0),(81,t),(82,u)]) (by decide) (fun nm u h1 hn s1=>?_)
 have t1:=t.ag [(80,.ptr r 0),(81,.sc (.string nm)),(82,u)] (by simp)
 generalize ag tm [(80,.ptr r 0),(81,.sc (.string nm)),(82,u)]=fG at *
 simp only[dO,zk,Except.map]at hn s1
 have:=hn tx rfl
 subst this
 unfold cM.pA
 generalize hY:jC L en (L.length+1) (p+1) []=Y at hR
 refine gY (ι:=Nat×dq Nat×List Arg) (fun x s' h'=>s'.ds=[]/\TN s'.tm r v d aI.length/\(∀q,x.2.1=.ok q->L.length<q+x.1/\x.2.2.length<=q)/\x.2.2.length<=65536/\(rB x.2.1 fun q=>jC L en x.1 q x.2.2)=Y /\
  ∃a,SJ h0 h' r tk L en bG aI v x.2.1 rv d0 [] (az (⟨cn,tx,x.2.2,0,0,pl⟩,a)) 0/\fg h' rv (aI++d0::[]) a/\cl Arg.enc 2 92 h' a x.2.2/\dC (h0.next<=·) a) (fun x=>x.1) (L.length+1,.ok (p+1),[]) ?_ ?_
 ·exact⟨rfl,t1,fun q hq=>⟨by simp only;omega,by simp⟩,by simp,hY,aQ,s1,.nil s1.rs.rows,.nil,fun _ _ _ he=>by cases he⟩
 rintro⟨n,Xq,acc⟩ ⟨c_,ds⟩ h2 ⟨rfl,t2,hq,hac,eN,a,s2,xn,ii,vO⟩
 simp only at t2 hq hac eN s2 xn ii
 rw[cM.l2]
 simp only[cM.oY,t2.e0]
 refine⟨fun _=>False,fun _ h=>h.elim,CX s2.rs.r s2.rs.t ?_⟩
 have t3:=fun b=>t2.ag [(83,.ptr r 0),(84,.sc (.bool b))] (by simp)
 cases iw:ot L Xq with
 |false=>
  have sY:ag c_ [(83,.ptr r 0),(84,.sc (.bool false))] 84=.sc (.bool false):=by simp
  have t4:=t3 false
  show cM.oB _ _ _ ⟨ag c_ [(83,.ptr r 0),(84,.sc (.bool false))],[]⟩ h2
  generalize ag c_ [(83,.ptr r 0),(84,.sc (.bool false))]=h_ at *
  simp only[cM.oB,sY,al,zE,zC,zH,zD,bJ,df,zV]
  simp only[cM.mI,t4.e0]
  refine wl (row:=⟨cn,tx,acc,0,0,pl⟩) (a:=a) hL hM s2 ii (dR:=fun t=>ag h_ [(93,.ptr r 0),(94,t)]) (fun _=>t4.ag _ (by simp)) ?_
  cases Xq with
  |error e=>
   simp only[Fb]at eN ⊢
   rw[<-eN]at hR
   exact hR.e rfl (by simp)
  |ok q=>
   have:=(hq q rfl).1
   have HW:=(s2.rs.ok q rfl).1
   cases n with
   |zero=>omega
   |succ n=>
    simp only[ot]at iw
    simp only[dO,jC,iw,zE,if_false]at eN ⊢
    rw[<-eN]at hR
    simp only at hR
    unfold gg at hR
    cases h3:eE L en q r8 with
    |error e=>simp only[h3]at hR;exact hR.e (by simp[Except.map]) (by simp)
    |ok t=>simp only[h3]at hR;exact hR.e (by simp[Except.map]) (by simp)
 |true=>
  obtain⟨q,rfl,DX⟩:=DC iw
  obtain⟨uT,nW⟩:=hq q rfl
  have HW:=(s2.rs.ok q rfl).1
  have abH:=Ff DX
  simp only[dO]at eN
  cases n with
  |zero=>omega
  |succ n=>
   simp only[jC,DX,zV]at eN
   have sY:ag c_ [(83,.ptr r 0),(84,.sc (.bool true))] 84=.sc (.bool true):=by simp
   have t4:=t3 true
   show cM.oB _ _ _ ⟨ag c_ [(83,.ptr r 0),(84,.sc (.bool true))],[]⟩ h2
   generalize ag c_ [(83,.ptr r 0),(84,.sc (.bool true))]=h_ at *
   simp only[cM.oB,sY,al,zF,zC,zI,zD]
   simp only[cM.pV,t4.e0]
   refine Bl hL hM (by decide) s2 (dR:=fun t u=>ag h_ [(85,.ptr r 0),(86,t),(10,u)]) (fun _ _=>rfl) ?_
   intro x c1 h3 US s3 f3 Ys o1
   have Fa:fg h3 rv (aI++d0::[]) a:=xn.Q1 s2 f3
   have wH:=ew ii f3 s2.nt
   have t5:=t4.ag [(85,.ptr r 0),(86,.agg x.enc),(10,.ptr c1 0)] (by simp)
   have QY:ag h_ [(85,.ptr r 0),(86,.agg x.enc),(10,.ptr c1 0)] 10=.ptr c1 0:=by simp
   show cM.pB _ _ _ ⟨ag h_ [(85,.ptr r 0),(86,.agg x.enc),(10,.ptr c1 0)],[]⟩ h3
   generalize ag h_ [(85,.ptr r 0),(86,.agg x.enc),(10,.ptr c1 0)]=Ds at *
   simp only[cM.pB,t5.e6,QY,aj,au,kU,s3.vo,o1,ap,jX,zG]
   simp only[az,zB,zA,aa]
   refine⟨by simp,?_⟩
   show dG (some (2,92,[.string ⟨#[]⟩,.int .i64 0])) 1 [(0,.agg x.enc)] h3 _
   refine HA (x:=x) (fun id hid=>Or.inr hid) s3 Fa wH vO (by omega) ?_
   intro v1 y h6 s6 wu sL DQ
   simp only[bJ]
   simp only[dO]at US s6
   refine⟨(n,(dX L en q).map (·.2),acc++[x]),by simp,trivial,t5.ag _ (by simp),fun q' he=>?_,by simp;omega,?_,y,s6,wu,sL,DQ⟩
   ·simp only at he ⊢
    cases h5:dX L en q with
    |error e=>rw[h5]at he;simp[Except.map]at he
    |ok z=>
     rw[h5]at he
     have:=j3 h5
     simp only[Except.map,Except.ok.injEq]at he
     subst he
     exact⟨by omega,by simp;omega⟩
   ·simp only
    cases h5:dX L en q with
    |error e=>rw[h5]at eN;exact eN
    |ok z=>
     rw[h5]at eN US
     have:=US z rfl
     subst this
     exact eN
end
end
section
open Go.Ab
structure TZ (tm:Nat->AV) (r v:Nat) (d:Int) (n:Nat) (kd:ByteArray):Prop where
 m:TN tm r v d n
 Ed:tm 79=.sc (.string kd)
theorem TZ.two{tm:Nat->AV}{r v:Nat}{d:Int}{n:Nat}{kd:ByteArray}(x:TZ tm r v d n kd){i j:Nat}(hi:79<i)(hj:79<j)(a b:AV):TZ (ag tm [(i,a),(j,b)]) r v d n kd/\ag tm [(i,a),(j,b)] j=b:=by
 refine⟨⟨x.m.ag _ (by simp;omega),?_⟩,by simp only[ag];exact EX _ _ _⟩
 simp only[ag];rw[jF (by omega),jF (by omega)];exact x.Ed
section
variable {h:AH} {r v:Nat} {d:Int} {n:Nat} {kd:ByteArray} {W:Nat->Prop} {Q:cH} {QP:cb} {tm:Nat->AV}
theorem CF(x0:TZ tm r v d n kd)
  (H5:(kd=bF\/kd=cE)->∀tm,TN tm r v d n->cM.k5 W Q QP ⟨tm,[]⟩ h)
  (H11:kd=bD->∀tm,TN tm r v d n->cM.dB W Q QP ⟨tm,[]⟩ h)
  (H13:kd=aT->∀tm,TN tm r v d n->cM.fi W Q QP ⟨tm,[]⟩ h)
  (H16:kd=eZ->∀tm,TN tm r v d n->cM.hH W Q QP ⟨tm,[]⟩ h)
  (H20:kd=bT->∀tm,TN tm r v d n->cM.lP W Q QP ⟨tm,[]⟩ h)
  (H23:kd=cV->∀tm,TN tm r v d n->cM.mj W Q QP ⟨tm,[]⟩ h)
  (H30:¬(kd=bF\/kd=cE)->kd≠bD->kd≠aT->kd≠eZ->kd≠bT->kd≠cV->∀tm,TN tm r v d n->cM.mH W Q QP ⟨tm,[]⟩ h) :
  cM.rN W Q QP ⟨tm,[]⟩ h:=by
 have At:∀(tm:Nat->AV),TZ tm r v d n kd->tm 95=.sc (.bool true)->(kd=bF\/kd=cE)->cM.pU W Q QP ⟨tm,[]⟩ h:=by
  intro tm x e tM
  simp only[cM.pU,e,al,zD,zF,zC,zI]
  exact H5 tM _ x.m
 simp only[cM.rN,x0.Ed,br]
 obtain⟨x1,e1⟩:=x0.two (i:=96) (j:=95) (by decide) (by decide) (.sc (.bool (decide (kd=bF)))) (.sc (.bool (decide (kd=bF))))
 generalize ag tm [(96,.sc (.bool (decide (kd=bF)))),(95,.sc (.bool (decide (kd=bF))))]=fG at *
 simp only[cM.lu,e1,al,x1.Ed,br]
 refine⟨fun h1=>At fG x1 (by rw[e1,h1]) (.inl (of_decide_eq_true h1)),fun h1=>?_⟩
 obtain⟨x2,e2⟩:=x1.two (i:=97) (j:=95) (by decide) (by decide) (.sc (.bool (decide (kd=cE)))) (.sc (.bool (decide (kd=cE))))
 generalize ag fG [(97,.sc (.bool (decide (kd=cE)))),(95,.sc (.bool (decide (kd=cE))))]=c_ at *
 by_cases h2:kd=cE
 ·exact At c_ x2 (by rw[e2,zL h2]) (.inr h2)
 clear At
 rw[zK h2]at e2
 simp only[cM.pU,e2,al,zE,zC,zD,zH]
 simp only[cM.oW,x2.Ed,br]
 obtain⟨x3,e3⟩:=x2.two (i:=107) (j:=106) (by decide) (by decide) (.sc (.bool (decide (kd=bD)))) (.sc (.bool (decide (kd=bD))))
 generalize ag c_ [(107,.sc (.bool (decide (kd=bD)))),(106,.sc (.bool (decide (kd=bD))))]=h_ at *
 simp only[cM.pt,e3,al]
 refine⟨fun h3=>H11 (of_decide_eq_true h3) _ x3.m,fun h3=>?_⟩
 simp only[cM.oA,x3.Ed,br]
 obtain⟨x4,e4⟩:=x3.two (i:=126) (j:=125) (by decide) (by decide) (.sc (.bool (decide (kd=aT)))) (.sc (.bool (decide (kd=aT))))
 generalize ag h_ [(126,.sc (.bool (decide (kd=aT)))),(125,.sc (.bool (decide (kd=aT))))]=Ds at *
 simp only[cM.q_,e4,al]
 refine⟨fun h3=>H13 (of_decide_eq_true h3) _ x4.m,fun h4=>?_⟩
 simp only[cM.nM,x4.Ed,br]
 obtain⟨x5,e5⟩:=x4.two (i:=135) (j:=134) (by decide) (by decide) (.sc (.bool (decide (kd=eZ)))) (.sc (.bool (decide (kd=eZ))))
 generalize ag Ds [(135,.sc (.bool (decide (kd=eZ)))),(134,.sc (.bool (decide (kd=eZ))))]=PP at *
 simp only[cM.re,e5,al]
 refine⟨fun h3=>H16 (of_decide_eq_true h3) _ x5.m,fun h5=>?_⟩
 simp only[cM.py,x5.Ed,br]
 obtain⟨x6,e6⟩:=x5.two (i:=147) (j:=146) (by decide) (by decide) (.sc (.bool (decide (kd=bT)))) (.sc (.bool (decide (kd=bT))))
 generalize ag PP [(147,.sc (.bool (decide (kd=bT)))),(146,.sc (.bool (decide (kd=bT))))]=Tn at *
 simp only[cM.pz,e6,al]
 refine⟨fun h3=>H20 (of_decide_eq_true h3) _ x6.m,fun h6=>?_⟩
 simp only[cM.nN,x6.Ed,br]
 obtain⟨x7,e7⟩:=x6.two (i:=159) (j:=158) (by decide) (by decide) (.sc (.bool (decide (kd=cV)))) (.sc (.bool (decide (kd=cV))))
 generalize ag Tn [(159,.sc (.bool (decide (kd=cV)))),(158,.sc (.bool (decide (kd=cV))))]=tm7 at *
 simp only[cM.oX,e7,al]
 refine⟨fun h3=>H23 (of_decide_eq_true h3) _ x7.m,fun h7=>?_⟩
 exact H30 (fun tM=>tM.elim (of_decide_eq_false h1) h2) (of_decide_eq_false h3) (of_decide_eq_false h4) (of_decide_eq_false h5) (of_decide_eq_false h6) (of_decide_eq_false h7) _ x7.m
end
section
variable {h0 h:AH} {r tk:Nat} {L:List Tok} {en:Int} {bG:AV} {aI:List Row} {v:Nat} {X:dq Nat} {rv:AV} {d0:Row} {M:Nat->Prop} {R:AE->AH->Prop} {tm:Nat->AV}
theorem Hb{d:Int}{kk p:Nat}{t:Tok}{kd:ByteArray}(hL:iB L)(hb:ul L en kk)(hd:d=32-(kk:Int))(fI:kk<=32)(hM:∀id,SS r bG id->M id)(hg:L[p]?=some t)(pG:t.kind=1)
  {w:Nat} (o8:(uu t.text=true/\kd=t.text/\X=.ok (p+1)/\w=0)\/(uu t.text=false/\kd=cn/\X=.ok p/\w=1))
  (s:SJ h0 h r tk L en bG aI v X rv d0 [] (az (⟨kd,bZ,[],0,0,t.at_⟩,aQ)) w) (t0:TN tm r v d aI.length)
  (hR:th h0 r tk L en bG aI R (mD L en kk (fA L en kk) p t)) :
  cM.xK (fun id=>M id\/h0.next<=id) (Ab.bQ Pg [] R) (Ab.aW R) ⟨tm,[]⟩ h:=by
 simp only[cM.xK,t0.e6,aj,au,s.vo,ap,zG]
 simp only[az,zA,aa]
 have x0:TZ (ag tm [(78,.ptr v 0),(79,.sc (.string kd))]) r v d aI.length kd:=⟨t0.ag _ (by simp),by simp⟩
 unfold mD at hR
 rcases o8 with⟨ho,rfl,rfl,rfl⟩ |⟨ho,rfl,rfl,rfl⟩
 ·refine CF x0 ?_ ?_ ?_ ?_ ?_ ?_ ?_
  ·intro h1 fG t1
   rw[zX h1]at hR
   exact Pu hL hM s t1 hR
  ·intro h1 fG t1
   rw[zW (by rw[h1];decide),zX h1]at hR
   exact Px hL hb hd fI hM s t1 hR
  ·intro h1 fG t1
   rw[zW (by rw[h1];decide),zW (by rw[h1];decide),zX h1]at hR
   exact S3 hL hb hd fI hM s t1 hR
  ·intro h1 fG t1
   rw[zW (by rw[h1];decide),zW (by rw[h1];decide),zW (by rw[h1];decide),zX h1]at hR
   exact We hL hb hd fI hM s t1 hR
  ·intro h1 fG t1
   rw[zW (by rw[h1];decide),zW (by rw[h1];decide),zW (by rw[h1];decide),zW (by rw[h1];decide),zX h1]at hR
   exact Pv hL hM s t1 hR
  ·intro h1 fG t1
   rw[zW (by rw[h1];decide),zW (by rw[h1];decide),zW (by rw[h1];decide),zW (by rw[h1];decide),zW (by rw[h1];decide),zX h1]at hR
   exact Mu hL hM s t1 hR
  ·intro n1 n2 n3 n4 n5 n6
   simp only[not_or]at n1
   simp[uu,n1.1,n1.2,n2,n3,n4,n5,n6]at ho
 ·have je:¬(t.text=bF\/t.text=cE)/\t.text≠bD/\t.text≠aT/\t.text≠eZ/\t.text≠bT/\t.text≠cV:=by
   simp only[uu,Bool.or_eq_false_iff,decide_eq_false_iff_not]at ho
   obtain⟨⟨⟨⟨⟨⟨a,b⟩,c⟩,d⟩,e⟩,f⟩,g⟩:=ho
   exact⟨fun h=>h.elim a b,c,d,e,f,g⟩
  rw[zW je.1,zW je.2.1,zW je.2.2.1,zW je.2.2.2.1,zW je.2.2.2.2.1,zW je.2.2.2.2.2]at hR
  have zk:cO L en p=.ok t.text:=by
   have:ic L p=true:=by simp[ic,hg,pG,ho]
   simp[cO,dF,hg,this,Except.map]
  refine CF x0 (fun h1=>absurd h1 (by decide)) (fun h1=>absurd h1 (by decide)) (fun h1=>absurd h1 (by decide)) (fun h1=>absurd h1 (by decide)) (fun h1=>absurd h1 (by decide)) (fun h1=>absurd h1 (by decide)) ?_
  intro _ _ _ _ _ _ fG t1
  exact S2 hL hM zk s t1 hR
end
end
section
open Go.Ab
section
variable {h:AH} {r tk:Nat} {L:List Tok} {en:Int} {rv:AV} {rows:List Row} {M:Nat->Prop} {R:AE->AH->Prop} {X:dq Nat} {tm:Nat->AV}
theorem CG{d:Int}{v:Nat}{kd:ByteArray}{pl:Int}{h2:AH}(hL:iB L)(hM:∀id,SS r rv id->M id)(jJ:r<h.next)(t0:TN tm r v d rows.length)
  (f2:Fr h h2 (·=r)) (eP:lJ h2 r tk L en X rv rows 0) {w:Nat} (pW:h2.obj v=some (aP (az (⟨kd,bZ,[],0,0,pl⟩,aQ)) 6 87)) (vn:h.next<=v)
  (hlen:rows.length+1<=L.length) (yQ:∀q,X=.ok q->rows.length+1<=q+w) (AC:∀id off n,rv=.sl id off n->id<h.next)
  (hK:∀fG h3 y,TN fG r v d rows.length->SJ h h3 r tk L en rv rows v X y ⟨kd,bZ,[],0,0,pl⟩ [] (az (⟨kd,bZ,[],0,0,pl⟩,aQ)) w->cM.xK (fun id=>M id\/h.next<=id) (Ab.bQ Pg [] R) (Ab.aW R) ⟨fG,[]⟩ h3) :
  cM.wA (fun id=>M id\/h.next<=id) (Ab.bQ Pg [] R) (Ab.aW R) ⟨tm,[]⟩ h2:=by
 have nl:=hL.len
 obtain⟨pp,ee,oo,tL,BJ⟩:=eP.r
 simp only[cM.wA,t0.e0,t0.e6,aC,aj,au,kU,tL,pW,ap,jX,zG,zB,zA,aa]
 have B1:(az (⟨kd,bZ,[],0,0,pl⟩,aQ)).length=6:=rfl
 refine⟨by rw[B1];exact zU _,?_⟩
 rw[show List.take 6 (List.drop 0 (az (⟨kd,bZ,[],0,0,pl⟩,aQ)))=az (⟨kd,bZ,[],0,0,pl⟩,aQ) from rfl]
 obtain⟨l,l1,l2,l3⟩:=eP.rows
 have UU:l.length=rows.length:=by rw[<-l2];simp
 have BL:cl az 6 87 h2 rv l:=l1
 refine Q7 (f:=az) (t:=(⟨kd,bZ,[],0,0,pl⟩,aQ)) dT (by decide) rfl (by decide) rfl BL ?_ (by omega) ?_
 ·intro id off n he
  exact .inl (hM id (.inr ⟨n,by rw[he,((eP.ng he).1)]⟩))
 intro y h3 hy iy k3 n3
 have f3:Fr h2 h3 (fun i=>∃off n,rv=.sl i off n):=⟨n3,fun i hi hs=>k3 i hi fun off n he=>hs ⟨off,n,he⟩⟩
 have not:∀i o,h2.obj i=some o->o.ty≠87->¬ ∃off n,rv=.sl i off n:=by
  rintro i o ho dx ⟨off,n,he⟩
  obtain⟨_,_,o',eu,ht⟩:=eP.rows.id he
  rw[ho]at eu;cases eu;exact dx ht
 have r3:=f3.obj tL (not _ _ tL (show(50:Nat)≠87 by decide))
 simp only[aC,aj,aE,r3,zG]
 obtain⟨yid,FJ⟩:=hy.sl (by simp)
 have ey:cJ y=some [y]:=by rw[FJ];rfl
 simp only[ey,bz]
 refine⟨⟨.inl (hM r (.inl rfl)),by rw[FJ];rfl,rfl,by simp⟩,?_⟩
 refine hK _ _ y (t0.ag _ (by simp)) ?_
 have f4:Fr h3 (h3.put r 5 [y]) (·=r):=Fr.refl.put (.inl rfl)
 have vr:v≠r:=by omega
 have Ql:v<h2.next:=h2.lt _ _ pW
 have h2n:=f2.next
 have yr:∀id,y=.sl id 0 (l++[((⟨kd,bZ,[],0,0,pl⟩:Row),aQ)]).length->¬id=r:=fun id he hid=>by
  have:=iy id _ _ he
  omega
 refine⟨f2.mono (fun _ h=>.inl h) |>.trans (f3.mono fun id ⟨off,n,he⟩=>.inl (.inr ⟨n,by rw[he,(eP.ng he).1]⟩)) |>.trans (f4.mono fun _ h=>.inl (.inl h)),⟨⟨pp,ee,oo,by rw[js r3];rfl,BJ⟩,?_,⟨l++[(⟨kd,bZ,[],0,0,pl⟩,aQ)],hy.aU f4 yr,by simp[l2],?_⟩,by simpa using hlen,?_⟩,?_,?_,vn,jJ⟩
 ·exact f4.obj (f3.obj eP.t (not _ _ eP.t (show(84:Nat)≠87 by decide))) (eP.BA eP.t (show(84:Nat)≠50 by decide))
 ·intro z hz
  rcases List.mem_append.1 hz with hz |hz
  ·rcases l3 z hz with h4 |⟨id,h4,ho⟩
   ·exact .inl h4
   ·exact .inr ⟨id,h4,f4.obj (f3.obj ho (not _ _ ho (show(92:Nat)≠87 by decide))) (eP.BA ho (show(92:Nat)≠50 by decide))⟩
  ·simp only[List.mem_singleton]at hz
   subst hz
   exact .nil
 ·intro q he
  have a1:=(eP.ok q he).1
  refine⟨a1,?_⟩
  simpa using yQ q he
 ·intro id off n he
  have:=iy id off n he
  omega
 ·refine f4.obj (f3.obj pW ?_) vr
  rintro⟨off,n,he⟩
  have:=AC v off n he
  omega
end
end
section
open Go.Ab
section
variable {h:AH} {r tk:Nat} {L:List Tok} {en:Int} {rv:AV} {rows:List Row} {M:Nat->Prop} {R:AE->AH->Prop} {tm:Nat->AV}
theorem Pw{d:Int}{kk tc p:Nat}{t:Tok}{h1:AH}(hL:iB L)(hb:ul L en kk)(hd:d=32-(kk:Int))(fI:kk<=32)(hM:∀id,SS r rv id->M id)(hg:L[p]?=some t)(pG:t.kind=1)(jJ:r<h.next)
  (e0:tm 0=.ptr r 0) (e1:tm 1=.sc (.int .i64 d)) (e4:tm 4=.ptr tc 0) (hc:h1.obj tc=some (vE t)) (QH:h.next<=tc) (f1:Fr h h1 (fun _=>False)) (jk:lJ h1 r tk L en (.ok p) rv rows 0)
  (AC:∀id off n,rv=.sl id off n->id<h.next)
  (hR:th h r tk L en rv rows R (mD L en kk (fA L en kk) p t)) :
  cM.ze (fun id=>M id\/h.next<=id) (Ab.bQ Pg [] R) (Ab.aW R) ⟨tm,[]⟩ h1:=by
 have nl:=hL.len
 have rR:=hM r (.inl rfl)
 have aL:p<L.length:=(zM.1 hg).1
 obtain⟨p1,GJ,o1,Qs,rfl,rfl,rfl⟩:=jk.r
 simp only[cM.ze,e0,aC,aj,au,Qs,ap,zG,zB,zA,aa,jk.rows.len.1,jk.rows.len.2,zH]
 generalize iN:ag tm _=fG
 have g0:fG 0=.ptr r 0:=by rw[<-iN];simp[e0]
 have g1:fG 1=.sc (.int .i64 d):=by rw[<-iN];simp[e1]
 have g4:fG 4=.ptr tc 0:=by rw[<-iN];simp[e4]
 have g5:fG 5=.sc (.int .i64 rows.length):=by rw[<-iN];simp
 clear iN
 simp only[cM.BH,g4,aj,au,hc,ap,zG,zB,zA,aa]
 refine⟨az (⟨cn,bZ,[],0,0,t.at_⟩,aQ),rfl,?_⟩
 simp only[aV]
 refine⟨rfl,?_⟩
 have hv:=AH.b_ h1 (aP ([.string ⟨#[]⟩,.string ⟨#[]⟩,.slice none 0 0,.int .i64 0,.int .i64 0,.int .i64 0].map AV.sc) 6 87)
 simp only[aE,hv,eL,bz]
 refine⟨⟨.inr f1.next,rfl,rfl,by simp⟩,?_⟩
 have f2:=((Fr.refl (h:=h1) (S:=fun _=>False)).alloc (aP ([.string ⟨#[]⟩,.string ⟨#[]⟩,.slice none 0 0,.int .i64 0,.int .i64 0,.int .i64 0].map AV.sc) 6 87)).put (id:=h1.next) (off:=0) (cs:=az (⟨cn,bZ,[],0,0,t.at_⟩,aQ)) (.inr (zU _))
 have pW:=js (off:=0) (cs:=az (⟨cn,bZ,[],0,0,t.at_⟩,aQ)) hv
 generalize (h1.alloc (aP ([.string ⟨#[]⟩,.string ⟨#[]⟩,.slice none 0 0,.int .i64 0,.int .i64 0,.int .i64 0].map AV.sc) 6 87)).put h1.next 0 (az (⟨cn,bZ,[],0,0,t.at_⟩,aQ))=h2 at *
 have pW:h2.obj h1.next=some (aP (az (⟨cn,bZ,[],0,0,t.at_⟩,aQ)) 6 87):=pW
 have eP:lJ h2 r tk L en (.ok p) rv rows 0:=⟨jk.r.fr f2,f2.obj jk.t (fun h=>h),jk.rows.fr f2 (fun _ _ h=>h) (fun _ _ _ _ h=>h),jk.b,jk.ok⟩
 have p_:=f2.obj hc fun h=>h
 have H0:=f2.obj Qs fun h=>h
 have Gx:Fr h h2 (·=r):=(f1.trans (f2.mono fun _ h=>h.elim)).mono fun _ h=>h.elim
 have vn:=f1.next
 have jp:h1.next≠r:=by omega
 have hvt:h1.next≠tk:=by have:=h1.lt _ _ jk.t;omega
 have abG:tc≠h1.next:=by have:=h1.lt _ _ hc;omega
 have ZI:∀id,rv=.sl id 0 rows.length->id≠h1.next:=fun id he=>by have:=AC _ _ _ he;omega
 generalize h1.next=v at *
 generalize iN:ag fG _=c_
 have t2:TN c_ r v d rows.length:=⟨by rw[<-iN];simp[g0],by rw[<-iN];simp[g1],by rw[<-iN];simp[g5],by rw[<-iN];simp⟩
 have k4:c_ 4=.ptr tc 0:=by rw[<-iN];simp[g4]
 clear iN
 simp only[cM.DP,k4,aj,au,p_,ap,zG,zB,zA,aa]
 refine⟨fun _=>False,fun _ h=>h.elim,PW ?_⟩
 have iw:=(jk.ok p rfl).2
 simp only[Nat.add_zero]at iw
 cases X0:uu t.text with
 |false=>
  have Vy:ag c_ [(55,.ptr tc 1),(56,.sc (.string t.text)),(57,.sc (.bool false))] 57=.sc (.bool false):=by simp
  have t3:=t2.ag [(55,.ptr tc 1),(56,.sc (.string t.text)),(57,.sc (.bool false))] (by simp)
  show cM.uO _ _ _ ⟨ag c_ [(55,.ptr tc 1),(56,.sc (.string t.text)),(57,.sc (.bool false))],[]⟩ h2
  generalize ag c_ [(55,.ptr tc 1),(56,.sc (.string t.text)),(57,.sc (.bool false))]=h_ at *
  simp only[cM.uO,Vy,al,zE,zC,zH,zD]
  refine CG (w:=1) hL hM jJ t3 Gx eP pW vn (by omega) (fun q he=>by cases he;omega) AC ?_
  intro Ds h3 y t4 s4
  exact Hb hL hb hd fI hM hg pG (.inr ⟨X0,rfl,rfl,rfl⟩) s4 t4 hR
 |true=>
  have Vy:ag c_ [(55,.ptr tc 1),(56,.sc (.string t.text)),(57,.sc (.bool true))] 57=.sc (.bool true):=by simp
  have FE:ag c_ [(55,.ptr tc 1),(56,.sc (.string t.text)),(57,.sc (.bool true))] 4=.ptr tc 0:=by simp[k4]
  have t3:=t2.ag [(55,.ptr tc 1),(56,.sc (.string t.text)),(57,.sc (.bool true))] (by simp)
  show cM.uO _ _ _ ⟨ag c_ [(55,.ptr tc 1),(56,.sc (.string t.text)),(57,.sc (.bool true))],[]⟩ h2
  generalize ag c_ [(55,.ptr tc 1),(56,.sc (.string t.text)),(57,.sc (.bool true))]=h_ at *
  simp only[cM.uO,Vy,al,zF,zC,zI,zD]
  simp only[cM.zf,FE,t3.e6,aj,au,p_,ap,zG,zB,zA,aa,aE,pW,kQ,bz]
  refine⟨⟨.inr vn,rfl,rfl,by simp[az]⟩,?_⟩
  have f3:Fr h2 (h2.put v 0 [.sc (.string t.text)]) (·=v):=Fr.refl.put (.inl rfl)
  have hv3:(h2.put v 0 [.sc (.string t.text)]).obj v=some (aP (az (⟨t.text,bZ,[],0,0,t.at_⟩,aQ)) 6 87):=by rw[js pW];rfl
  have mE:lJ (h2.put v 0 [.sc (.string t.text)]) r tk L en (.ok p) rv rows 0:=eP.still f3 jp ZI (fun o ho=>by
   rw[pW]at ho;cases ho
   exact⟨show(87:Nat)≠84 by decide,show(87:Nat)≠92 by decide⟩)
  have HZ:=f3.obj H0 (Ne.symm jp)
  have Gw:Fr h (h2.put v 0 [.sc (.string t.text)]) (·=r):=Gx.trans (f3.mono fun id (hid:id=v)=>.inr (by omega))
  generalize h2.put v 0 [.sc (.string t.text)]=h3 at *
  have t4:=t3.ag [(58,.ptr tc 1),(59,.sc (.string t.text)),(60,.ptr v 0)] (by simp)
  show cM.zg _ _ _ ⟨ag h_ [(58,.ptr tc 1),(59,.sc (.string t.text)),(60,.ptr v 0)],[]⟩ h3
  generalize ag h_ [(58,.ptr tc 1),(59,.sc (.string t.text)),(60,.ptr v 0)]=Ds at *
  have hw:IntKind.i64.wrap ((p:Int)+1)=(p:Int)+1:=aR (by omega) (by omega)
  simp only[cM.zg,t4.e0,aC,aj,au,HZ,ap,zG,zB,zA,aa,aZ,hw,aE,dt,bz]
  refine⟨⟨.inl rR,rfl,rfl,by simp⟩,?_⟩
  have f4:Fr h3 (h3.put r 1 [.sc (.int .i64 ((p:Int)+1))]) (·=r):=Fr.refl.put (.inl rfl)
  have r4:RF (h3.put r 1 [.sc (.int .i64 ((p:Int)+1))]) r tk L en (.ok (p+1)) rv:=⟨(p:Int)+1,0,0,by rw[js HZ];rfl,by simp,rfl,rfl⟩
  have Dv:=mE.step (by omega) f4 r4 (fun p' he=>by cases he;exact⟨by omega,p,rfl,by omega⟩)
  have hv4:=f4.obj hv3 jp
  have Cj:=Gw.trans (f4.mono fun _ h=>.inl h)
  refine CG (w:=0) hL hM jJ (t4.ag _ (by simp)) Cj Dv hv4 vn (by omega) (fun q he=>by cases he;omega) AC ?_
  intro PP h5 y t5 s5
  exact Hb hL hb hd fI hM hg pG (.inl ⟨X0,rfl,rfl,rfl⟩) s5 t5 hR
theorem J6{kk:Nat}(hL:iB L)(fI:kk<=32)(hb:ul L en kk):CD L en kk:=by
 intro h r tk rv rows M R p d hd hM gS hR
 have nl:=hL.len
 have rR:=hM r (.inl rfl)
 have nh:=gS.r
 obtain⟨p1,GJ,o1,hr,rfl,rfl,rfl⟩:=gS.r
 have ht:=gS.t
 have jJ:=h.lt _ _ hr
 have tK:=h.lt _ _ ht
 rw[qi]at hR
 apply cM.calls
 have bad:∀tm:Nat->AV,tm 0=.ptr r 0->eK L p=false->cM.uN (fun id=>M id\/h.next<=id) (Ab.bQ Pg [] R) (Ab.aW R) ⟨tm,[]⟩ h:=by
  intro tm e hb
  simp only[cM.uN,e]
  refine⟨(·=r),fun _ h _=>h ▸ .inl rR,u_ rfl (by decide) nh ht ?_⟩
  intro h' f1 r1
  simp
  have:dF L en p (eK L p)=.error (kW L en p 100):=by
   simp only[dF,kW,hb]
   cases L[p]?<;>rfl
  rw[this]at hR
  have lN:=gS.step (by omega) f1 r1 (fun p' he=>by cases he)
  refine hR h' rv [] (.error (kW L en p 100)) (by simpa using lN) rfl (by simp) (f1.mono fun _ h=>.inl h) (fun id off n he=>.inl (.inr ⟨n,?_⟩))
  rw[he,(gS.ng he).1]
 by_cases aL:p<L.length
 ·have ka:¬(L.length:Int)<=p:=by omega
  have hg:L[p]?=some L[p]:=zJ aL
  by_cases hk:L[p].kind=1
  ·have hw:eK L p=true:=by simp[eK,aL,hk]
   have hnx:dF L en p (eK L p)=.ok L[p]:=by simp[dF,hw,aL]
   rw[hnx]at hR
   simp[-cM.xJ,-cM.uN,hr,ka,ht,aL,eT Tok.bu,ep Tok.bu,hk,Tok.enc]
   simp[-cM.ze,hr,ht,aL,rj Tok.bu _ _ _ hg,Tok.enc,xe,AH.da]
   refine⟨by omega,?_⟩
   have f1:Fr h ((h.alloc (aP [.sc (.int .i64 0),.sc (.string ⟨#[]⟩),.sc (.int .i64 0)] 3 84)).put h.next 0 [.sc (.int .i64 L[p].kind),.sc (.string L[p].text),.sc (.int .i64 L[p].at_)]) (fun _=>False):=(Fr.refl.alloc _).put (.inr (zU _))
   have jk:lJ ((h.alloc (aP [.sc (.int .i64 0),.sc (.string ⟨#[]⟩),.sc (.int .i64 0)] 3 84)).put h.next 0 [.sc (.int .i64 L[p].kind),.sc (.string L[p].text),.sc (.int .i64 L[p].at_)]) r tk L en (.ok p) rv rows 0:=⟨gS.r.fr f1,f1.obj gS.t (fun h=>h),gS.rows.fr f1 (fun _ _ h=>h) (fun _ _ _ _ h=>h),gS.b,gS.ok⟩
   refine Pw (tc:=h.next) (t:=L[p]) hL hb hd fI hM hg hk jJ (by simp) (by simp) (by simp) ?_ (zU _) ?_ ?_ (fun id off n he=>(gS.ng he).2.2) hR
   ·simp[AH.cg,AH.da,hk]
   ·exact f1
   ·exact jk
  ·have hw:eK L p=false:=by simp[eK,aL,hk]
   simp[-cM.xJ,-cM.uN,hr,ka,ht,aL,eT Tok.bu,ep Tok.bu,hk,Tok.enc]
   exact bad _ (by simp) hw
 ·have hw:eK L p=false:=by simp[eK,aL]
  have ka:L.length<=p:=by omega
  simp[-cM.xJ,-cM.uN,hr,ka]
  exact bad _ (by simp) hw
end
end
section
open Go.Ab
section
variable {h:AH} {r tk:Nat} {L:List Tok} {en:Int} {rv:AV} {rows:List Row} {M:Nat->Prop} {R:AE->AH->Prop} {tm:Nat->AV} {X1:dq Nat}
theorem Pj{d:Int}{kk:Nat}{h1:AH}(hL:iB L)(hM:∀id,SS r rv id->M id)(hs:∀q,X1=.ok q->CD L en kk/\d=32-(kk:Int))(e0:tm 0=.ptr r 0)(e1:tm 1=.sc (.int .i64 d))
  (jk:lJ h1 r tk L en X1 rv rows 0) (f1:Fr h h1 (SS r rv)) (ng:dC (fun id=>SS r rv id\/h.next<=id) rv)
  (hR:∀h' iT new X',lJ h' r tk L en X' iT (rows++new) 0->X'=rB (rB X1 fun q=>fV L (fm L en kk) (L.length+1) q []) (fun x=>.ok (x.1+1))->(∀x,(rB X1 fun q=>fV L (fm L en kk) (L.length+1) q [])=.ok x->new=x.2)->Fr h h' (SS r rv)->dC (fun id=>SS r rv id\/h.next<=id) iT->R (.ret (.dD [])) h') :
  oI.k7 (fun id=>M id\/h.next<=id) (Ab.bQ Pg [] R) (Ab.aW R) ⟨tm,[]⟩ h1:=by
 have nl:=hL.len
 have rR:=hM r (.inl rfl)
 unfold oI.k7
 generalize hY:(rB X1 fun q=>fV L (fm L en kk) (L.length+1) q [])=Y at *
 refine gY (ι:=Nat×dq Nat×List Row) (fun x s' h'=>s'.ds=[]/\s'.tm 0=.ptr r 0/\s'.tm 1=.sc (.int .i64 d)/\(∀q,x.2.1=.ok q->L.length<q+x.1/\CD L en kk/\d=32-(kk:Int)) /\
  (rB x.2.1 fun q=>fV L (fm L en kk) x.1 q x.2.2)=Y /\
  ∃iT,lJ h' r tk L en x.2.1 iT (rows++x.2.2) 0/\Fr h h' (SS r rv)/\dC (fun id=>SS r rv id\/h.next<=id) iT) (fun x=>x.1) (L.length+1,X1,[]) ?_ ?_
 ·exact⟨rfl,e0,e1,fun q hq=>⟨by simp only;omega,hs q hq⟩,hY,rv,by simpa using jk,f1,ng⟩
 rintro⟨n,X,acc⟩ ⟨c_,ds⟩ h2 ⟨rfl,e0,e1,hq,eN,qZ,eP,f2,i2⟩
 simp only at e0 e1 hq eN eP
 rw[oI.l1]
 have out:∀h_,h_ 0=.ptr r 0->(∀q,X=.ok q->gE L q Eo=true)->oI.k1 (fun id=>M id\/h.next<=id) (Ab.bQ Pg [] R) (Ab.aW R) ⟨h_,[]⟩ h2:=by
  intro h_ g0 gp
  simp only[oI.k1,g0]
  refine⟨(·=r),fun _ h _=>h ▸ .inl rR,Ba rfl nl eP.r eP.t ?_⟩
  intro h' f3 r3
  have mE:=eP.step (by omega) f3 r3 .sign
  have Gw:Fr h h' (SS r rv):=oE f2 i2 (f3.mono fun _ h=>.inl h)
  simp
  refine hR h' qZ acc _ mE ?_ ?_ Gw i2
  ·rw[<-eN]
   cases X with
   |error e=>rfl
   |ok q=>
    have hg:=gp q rfl
    have hn:=(hq q rfl).1
    have:=(eP.ok q rfl).1
    cases n with
    |zero=>omega
    |succ n=>
     simp only[dO,fV,hg,zV,eE,dF]
     unfold gE at hg
     cases hgq:L[q]? with
     |none=>rw[hgq]at hg;cases hg
     |some t=>simp[Except.map]
  ·rw[<-eN]
   cases X with
   |error e=>simp
   |ok q=>
    have hg:=gp q rfl
    have hn:=(hq q rfl).1
    have:=(eP.ok q rfl).1
    cases n with
    |zero=>omega
    |succ n=>simp[fV,hg]
 obtain⟨pp,ee,oo,tL,BJ⟩:=eP.r
 cases X with
 |error e=>
  obtain⟨dx,rfl,rfl⟩:=BJ
  simp[-oI.k2,-oI.k1,e0,tL,dx]
  exact out _ (by simp[e0]) (fun q he=>by cases he)
 |ok q=>
  obtain⟨rfl,rfl,rfl⟩:=BJ
  obtain⟨uT,ig,lD⟩:=hq q rfl
  have BO:=eP.ok q rfl
  simp only[dO]at eN
  cases n with
  |zero=>omega
  |succ n=>
   simp only[fV]at eN
   simp[-oI.k4,-Prod.exists,-exists_and_left,-exists_and_right,e0,tL]
   refine⟨fun _=>False,fun _ h=>h.elim,Bm eP.r eP.t ?_⟩
   simp only[oJ]
   cases gp:gE L q Eo with
   |true=>
    simp[-oI.k2,-oI.k1]
    exact out _ (by simp[e0]) (fun q' he=>by cases he;exact gp)
   |false=>
    simp only[gp,zE,if_false]at eN
    simp[-oI.k1,-Prod.exists,-exists_and_left,-exists_and_right,e0,e1]
    refine⟨SS r qZ,fun id hid _=>?_,ig (rv:=qZ) (rows:=rows++acc) (p:=q) (by omega) (fun _ h=>h) eP ?_⟩
    ·rcases hid with hid |⟨m,hid⟩
     ·exact hid ▸ .inl rR
     ·rcases i2 id 0 m hid with h4 |h4
      ·exact .inl (hM _ h4)
      ·exact .inr h4
    intro h4 HB new X4 Dv pK zm f4 K9
    refine⟨(n,X4,acc++new),by simp,?_,?_,HB,by simpa using Dv,oE f2 i2 f4,xL f2.next i2 K9 (fun he=>(eP.ng he).1)⟩
    ·intro q2 he
     simp only at he ⊢
     rw[he]at pK
     cases h5:fm L en kk q with
     |error e=>rw[h5]at pK;simp[Except.map]at pK
     |ok x=>
      rw[h5]at pK
      simp only[Except.map,Except.ok.injEq]at pK
      obtain⟨b1,b2,b3⟩:=sD kk q x.1 x.2 h5
      exact⟨by omega,ig,lD⟩
    ·cases h5:fm L en kk q with
     |error e=>
      rw[h5]at pK eN
      subst pK
      exact eN
     |ok x=>
      rw[h5]at pK eN zm
      have:=zm x rfl
      subst this
      subst pK
      exact eN
end
end
section
open Go.Ab
section
variable {L:List Tok} {en:Int}
theorem VO(k:Nat)(step:Nat->dq (Nat×List Row))(p:Nat):lT L en (k+1) step p=rB ((eE L en p lV).map fun _=>p+1) fun q=>rB (fV L step (L.length+1) q []) fun x=>.ok (x.1+1,x.2):=by
 unfold lT
 cases eE L en p lV with
 |error e=>rfl
 |ok t=>
  simp only[Except.map,dO]
  cases fV L step (L.length+1) (p+1) []<;>rfl
theorem L7{k:Nat}(hL:iB L)(fI:k<=33)(hs:∀k',k=k'+1->CD L en k'):ul L en k:=by
 intro h r tk rv rows M R X d hd hM gS hR
 have nl:=hL.len
 have rR:=hM r (.inl rfl)
 have nh:=gS.r
 have ht:=gS.t
 apply oI.calls
 simp only[oI.fi]
 refine⟨fun _=>False,fun _ h=>h.elim,Bm nh ht ?_⟩
 have XM:dC (fun id=>SS r rv id\/h.next<=id) rv:=fun id off n he=>.inl (.inr ⟨n,by rw[he,(gS.ng he).1]⟩)
 have want:∀tm:Nat->AV,tm 0=.ptr r 0->tm 1=.sc (.int .i64 d)->(∀p,X=.ok p->gE L p lV=true->∃k',k=k'+1)->oI.k8 (fun id=>M id\/h.next<=id) (Ab.bQ Pg [] R) (Ab.aW R) ⟨tm,[]⟩ h:=by
  intro tm e0 e1 hk
  simp only[oI.k8,e0]
  refine⟨(·=r),fun _ h _=>h ▸ .inl rR,Ba rfl nl nh ht ?_⟩
  intro h1 f1 r1
  have jk:=gS.step (by omega) f1 r1 .sign
  have e0':ag tm [(12,.ptr r 0),(13,.dD [])] 0=.ptr r 0:=by simp[e0]
  have GJ:ag tm [(12,.ptr r 0),(13,.dD [])] 1=.sc (.int .i64 d):=by simp[e1]
  refine Pj (kk:=k-1) hL hM ?_ e0' GJ jk (f1.mono fun _ h=>.inl h) XM ?_
  ·intro q hq
   cases X with
   |error e=>simp at hq
   |ok p=>
    simp only[dO]at hq
    cases sO:eE L en p lV with
    |error e=>rw[sO]at hq;simp[Except.map]at hq
    |ok t=>
     have h3:=(kq sO).2.2
     obtain⟨k',rfl⟩:=hk p rfl h3
     exact⟨hs k' rfl,by rw[hd,Nat.add_sub_cancel];omega⟩
  intro h' iT new X' lN tR hn f' i'
  cases X with
  |error e=>
   refine hR h' iT new X' lN ?_ (by simp) f' i'
   rw[tR];rfl
  |ok p=>
   simp only[dO]at tR hn hR
   cases k with
   |zero=>
    have Lg:gE L p lV=false:=by
     cases hh:gE L p lV with
     |false=>rfl
     |true=>obtain⟨k',pH⟩:=hk p rfl hh;omega
    have:∃e,eE L en p lV=.error e:=by
     unfold eE dF
     rw[Lg]
     cases L[p]?<;>exact⟨_,rfl⟩
    obtain⟨e,he⟩:=this
    have hb:lT L en 0 (fA L en 0) p=.error e:=by unfold lT;rw[he]
    rw[hb]at hR
    refine hR h' iT new X' lN ?_ (by simp) f' i'
    rw[tR,he];rfl
   |succ k'=>
    rw[VO]at hR
    refine hR h' iT new X' lN ?_ ?_ f' i'
    ·rw[tR]
     cases eE L en p lV with
     |error e=>rfl
     |ok t=>
      simp only[Except.map,dO,Nat.add_sub_cancel]
      have:fA L en (k'+1)=fm L en k':=rfl
      rw[this]
      cases fV L (fm L en k') (L.length+1) (p+1) []<;>rfl
    ·intro x hx
     cases sO:eE L en p lV with
     |error e=>rw[sO]at hx;simp[Except.map]at hx
     |ok t=>
      rw[sO]at hx hn
      simp only[Except.map,dO,Nat.add_sub_cancel]at hx hn
      have:fA L en (k'+1)=fm L en k':=rfl
      rw[this]at hx
      cases hl:fV L (fm L en k') (L.length+1) (p+1) [] with
      |error e=>rw[hl]at hx;simp at hx
      |ok y=>
       rw[hl]at hx hn
       simp only[dO,Except.ok.injEq]at hx
       rw[<-hx]
       exact hn y rfl
 cases gp:oJ L X lV with
 |false=>
  simp[-oI.k8,-oI.k9]
  refine want _ (by simp) (by simp) (fun p he hp=>?_)
  subst he
  simp only[oJ]at gp
  rw[gp]at hp;cases hp
 |true=>
  cases X with
  |error e=>cases gp
  |ok p=>
   simp only[oJ]at gp
   cases k with
   |succ k'=>
    have tQ:¬(32:Int)<d:=by omega
    simp[-oI.k8,-oI.k9,tQ]
    exact want _ (by simp) (by simp) (fun _ _ _=>⟨k',rfl⟩)
   |zero=>
    have tQ:(32:Int)<d:=by omega
    simp[-oI.k8,tQ]
    refine⟨(·=r),fun _ h _=>h ▸ .inl rR,u_ rfl (by decide) nh ht ?_⟩
    intro h1 f1 r1
    have jk:=gS.step (by omega) f1 r1 (fun p' he=>by cases he)
    simp only[dO]at hR
    have hb:lT L en 0 (fA L en 0) p=.error (kW L en p 102):=by
     unfold lT eE dF kW
     rw[gp]
     unfold gE at gp
     cases hg:L[p]? with
     |none=>simp[hg]at gp
     |some t=>rfl
    rw[hb]at hR
    exact hR h1 rv [] (.error (kW L en p 102)) (by simpa using jk) rfl (by simp) (f1.mono fun _ h=>.inl h) XM
theorem MS(hL:iB L):∀kk,kk<=32->CD L en kk:=by
 intro kk
 induction kk with
 |zero=>intro hk;exact J6 hL hk (L7 hL (by omega) fun k' he=>by omega)
 |succ kk ih=>intro hk;exact J6 hL hk (L7 hL (by omega) fun k' he=>by cases he;exact ih (by omega))
end
end
section
open Go.Ab
def V4(h:AH)(R:AE->AH->Prop)(res:dq (List Row)):Prop:=
 rJ res (fun rows=>∀x h',fJ h' x rows->dC (h.next<=·) x->Fr h h' (fun _=>False)->R (.ret (.dD [x,.sc (.int .i64 0),.sc (.int .i64 0)])) h')
  (fun e=>∀h',Fr h h' (fun _=>False)->R (.ret (.dD [aQ,.sc (.int .i64 e.1),.sc (.int .i64 e.2)])) h')
section
variable {h:AH} {M:Nat->Prop} {R:AE->AH->Prop}
theorem V8{en:Int}{h1:AH}{tm:Nat->AV}{r:Nat}(f1:Fr h h1 (fun _=>False))(e8:tm 8=.ptr r 0)
  (hr:h1.obj r=some (aP [aQ,.sc (.int .i64 0),.sc (.int .i64 en),.sc (.int .i64 0),.sc (.int .i64 0),aQ] 6 50))
  (hR:V4 h R (.ok [])):F8.cZ (fun id=>M id\/h.next<=id) (Ab.bQ Pg [.tmp 2,.tmp 3,.tmp 4] R) (Ab.aW R) ⟨tm,[]⟩ h1:=by
 unfold F8.cZ
 refine gY (ι:=Nat) (fun x s' h'=>s'.ds=[]/\s'.tm 8=.ptr r 0/\h'=h1) (fun x=>x) 0 ⟨rfl,e8,rfl⟩ ?_
 rintro n ⟨c_,ds⟩ h2 ⟨rfl,e8,rfl⟩
 simp only at e8
 rw[F8.l1]
 have:=hR aQ h2 .nil (fun _ _ _ he=>by cases he) f1
 simp[-F8.k5,e8,hr]
 exact this
theorem Ss{L:List Tok}{en:Int}{h1:AH}{tm:Nat->AV}{r tk:Nat}(hL:iB L)(f1:Fr h h1 (fun _=>False))(e8:tm 8=.ptr r 0)(jJ:h.next<=r)
  (jk:lJ h1 r tk L en (.ok 0) aQ [] 0)
  (hR:V4 h R (lq L en (L.length+1) 0 [])):F8.cZ (fun id=>M id\/h.next<=id) (Ab.bQ Pg [.tmp 2,.tmp 3,.tmp 4] R) (Ab.aW R) ⟨tm,[]⟩ h1:=by
 have nl:=hL.len
 unfold F8.cZ
 generalize hY:lq L en (L.length+1) 0 []=Y at hR
 refine gY (ι:=Nat×dq Nat×List Row) (fun x s' h'=>s'.ds=[]/\s'.tm 8=.ptr r 0/\(∀q,x.2.1=.ok q->L.length<q+x.1)/\(rB x.2.1 fun q=>lq L en x.1 q x.2.2)=Y /\
  ∃iT,lJ h' r tk L en x.2.1 iT x.2.2 0/\Fr h h' (fun _=>False)/\dC (h.next<=·) iT) (fun x=>x.1) (L.length+1,.ok 0,[]) ?_ ?_
 ·exact⟨rfl,e8,fun q hq=>by cases hq;simp only;omega,hY,aQ,jk,f1,fun _ _ _ he=>by cases he⟩
 rintro⟨n,X,acc⟩ ⟨c_,ds⟩ h2 ⟨rfl,e8,hq,eN,qZ,eP,f2,i2⟩
 simp only at e8 hq eN eP
 rw[F8.l1]
 obtain⟨pp,ee,oo,tL,BJ⟩:=eP.r
 cases X with
 |error e=>
  obtain⟨dx,rfl,rfl⟩:=BJ
  simp only[Fb]at eN
  rw[<-eN]at hR
  have:=hR h2 f2
  simp[-F8.k5,e8,tL,dx]
  exact this
 |ok q=>
  obtain⟨rfl,rfl,rfl⟩:=BJ
  have uT:=hq q rfl
  have BO:=eP.ok q rfl
  simp only[dO]at eN
  cases n with
  |zero=>omega
  |succ n=>
   simp only[lq]at eN
   by_cases aL:q<L.length
   ·rw[zX aL]at eN
    simp[-F8.k4,-Prod.exists,-exists_and_left,-exists_and_right,e8,tL,aL]
    refine⟨SS r qZ,fun id hid _=>.inr ?_,MS (en:=en) hL 32 (by omega) (rv:=qZ) (rows:=acc) (p:=q) (by omega) (fun _ h=>h) eP ?_⟩
    ·rcases hid with hid |⟨m,hid⟩
     ·omega
     ·exact i2 id 0 m hid
    intro h4 HB new X4 Dv pK zm f4 K9
    have Cj:Fr h h4 (fun _=>False):=f2.trans (f4.mono fun id hid=>.inr (by
     rcases hid with hid |⟨m,hid⟩
     ·omega
     ·exact i2 id 0 m hid))
    have i4:dC (h.next<=·) HB:=fun id off m he=>by
     have h0:=(Dv.ng he).1
     rcases K9 id off m he with(hid |⟨m2,hid⟩) |hid
     ·omega
     ·exact i2 id 0 m2 hid
     ·exact zR f2.next hid
    refine⟨(n,X4,acc++new),by simp,?_,?_,HB,by simpa using Dv,Cj,i4⟩
    ·intro q2 he
     simp only at he ⊢
     rw[he]at pK
     cases h5:fm L en 32 q with
     |error e=>rw[h5]at pK;simp[Except.map]at pK
     |ok x=>
      rw[h5]at pK
      simp only[Except.map,Except.ok.injEq]at pK
      obtain⟨b1,b2,b3⟩:=sD 32 q x.1 x.2 h5
      omega
    ·cases h5:fm L en 32 q with
     |error e=>
      rw[h5]at pK eN
      subst pK
      exact eN
     |ok x=>
      rw[h5]at pK eN zm
      have:=zm x rfl
      subst this
      subst pK
      exact eN
   ·rw[zW aL]at eN
    rw[<-eN]at hR
    have:=hR qZ h2 eP.rows i2 f2
    simp[-F8.k5,e8,tL,aL]
    exact this
theorem HH{s:ByteArray}{h:AH}{M:Nat->Prop}{R:AE->AH->Prop}(hR:rr s h R):aA Pg 8 [.sc (.string s)] h M R:=by
 apply F8.calls
 simp only[F8.hH,F8.iq]
 refine⟨fun _=>False,fun _ h=>h.elim,MZ ?_⟩
 unfold rr jl at hR
 unfold y3
 by_cases hb:65536<s.size
 ·rw[zX hb]at hR ⊢
  intro h2 m1 m2
  have:=hR h2 ⟨m1,fun i hi _=>m2 i hi⟩
  simp[-F8.dB]
  exact this
 rw[zW hb]at hR ⊢
 cases dI:fB s 0 [] with
 |error p=>
  rw[dI]at hR
  intro h2 m1 m2
  have:=hR h2 ⟨m1,fun i hi _=>m2 i hi⟩
  simp[-F8.dB]
  exact this
 |ok L=>
  rw[dI]at hR
  simp only at hR
  have hL:=Aq (by omega) dI
  intro x h2 hx ix m1 m2
  have f2:Fr h h2 (fun _=>False):=⟨m1,fun i hi _=>m2 i hi⟩
  have f3:=f2.alloc (aP [x,.sc (.int .i64 0),.sc (.int .i64 s.size),.sc (.int .i64 0),.sc (.int .i64 0),aQ] 6 50)
  have g3:=(Fr.refl (h:=h2) (S:=fun _=>False)).alloc (aP [x,.sc (.int .i64 0),.sc (.int .i64 s.size),.sc (.int .i64 0),.sc (.int .i64 0),aQ] 6 50)
  have o3:=AH.b_ h2 (aP [x,.sc (.int .i64 0),.sc (.int .i64 s.size),.sc (.int .i64 0),.sc (.int .i64 0),aQ] 6 50)
  simp[-F8.dB]
  simp only[F8.dB]
  rcases hx with⟨rfl,rfl⟩ |⟨tk,rfl,ho⟩
  ·simp[-F8.cZ]
   refine⟨[aQ,.sc (.int .i64 0),.sc (.int .i64 s.size),.sc (.int .i64 0),.sc (.int .i64 0),aQ],rfl,rfl,?_⟩
   refine V8 (r:=h2.next) f3 ?_ o3 hR
   simp
  ·simp[-F8.cZ]
   refine⟨[.sl tk 0 L.length,.sc (.int .i64 0),.sc (.int .i64 s.size),.sc (.int .i64 0),.sc (.int .i64 0),aQ],rfl,rfl,?_⟩
   refine Ss (tk:=tk) (r:=h2.next) (en:=s.size) hL f3 ?_ m1 ⟨⟨0,0,0,o3,rfl,rfl,rfl⟩,g3.obj ho (fun h=>h),.nil,by simp,fun p he=>by cases he;simp⟩ hR
   simp
end
end
end Go.Proofs.YtjehibknlmehmaaGreat
