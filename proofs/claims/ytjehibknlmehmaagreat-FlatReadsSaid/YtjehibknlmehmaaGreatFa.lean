/- flat in plain Lean; its look at rows. No condition. -/
import Derived.Test.YtjehibknlmehmaaGreatGf
import Derived.Test.YtjehibknlmehmaaGreatEa
set_option maxRecDepth 100000
namespace Go.Proofs.YtjehibknlmehmaaGreat
section
open Go.Ab
structure gK where
 name:ByteArray
 from_:Int
 size:Int
structure bS where
 name:ByteArray
 params:List ByteArray
 from_:Int
 Hv:Int
 depth:Int
 ops:Int
 whole:Bool
structure Bk where
 qs:List gK
 bs:List gK
 ds:List bS
def eF(l:List gK)(n:ByteArray):Option gK:=l.find? fun r=>decide (r.name=n)
def eB(l:List bS)(n:ByteArray):Option bS:=l.find? fun d=>decide (d.name=n)
def aK(l:List gK):Int:=(l.map (·.size)).sum
def ia(bk:Bk)(n:ByteArray):Bool:=(eF bk.qs n).isSome||(eF bk.bs n).isSome||(eB bk.ds n).isSome||decide (0<cf n)
def kX(k:ByteArray):Bool:=decide (k=bD)||decide (k=aT)||decide (k=eZ)
def mi(k:ByteArray):Bool:=decide (k=bF)||decide (k=cE)||decide (k=cn)||decide (k=bT)||decide (k=cV)||kX k
def qG(k:ByteArray):Bool:=decide (k=bF)||decide (k=cE)||decide (k=bD)
def lj(r:Row)(behind deep:Int)(own:Bool):Int:=
 if !mi r.kind||(!kX r.kind&&r.rows != 0)||decide (r.rows<0)||decide (behind<r.rows) then 100
 else if 32<deep then 102
 else if decide (0<deep)&&qG r.kind then 100
 else if own&&!decide (r.kind=cn)&&!decide (r.kind=aT) then 100
 else 0
def gU(l:List gK)(a:Arg):Int:=
 match eF l a.name with
 |none=>110
 |some g=>if a.index<0\/g.size<=a.index then 112 else 0
abbrev Er(α:Type):=Except Int α
def fK(bk:Bk)(l:List gK)(nc:Int)(r:Row):Er (List gK):=
 if ia bk r.name then .error 110 else if r.num<1 then .error 112 else if nc-aK l<r.num then .error 1 else .ok (l++[⟨r.name,aK l,r.num⟩])
def Df{α:Type}[DecidableEq α](l:List α):Bool:=(List.range l.length).any fun i=>match l[i]? with |some a=>fe a (l.take i) |none=>false
theorem vf{α:Type}[DecidableEq α]{l:List α}{i:Nat}{a:α}(hi:l[i]?=some a)(h:fe a (l.take i)=true):Df l=true:=by
 unfold Df
 rw[List.any_eq_true]
 exact⟨i,List.mem_range.2 (zM.1 hi).1,by rw[hi];exact h⟩
theorem yW{α:Type}[DecidableEq α]{l:List α}(h:∀i a,l[i]?=some a->fe a (l.take i)=false):Df l=false:=by
 unfold Df
 rw[List.any_eq_false]
 intro i hi
 rw[zJ (List.mem_range.1 hi)]
 simp only[h i _ (zJ (List.mem_range.1 hi))]
 decide
def ux(l:List ByteArray):Bool:=Df l
def qy(bk:Bk)(r:Row)(i:Int):Er Bk:=
 if ia bk r.name then .error 110 else if r.args.length=0 then .error 111
 else if r.args.any (fun a=>a.index != -1) then .error 112
 else if ux (r.args.map (·.name)) then .error 113
 else .ok { bk with ds:=bk.ds++[⟨r.name,r.args.map (·.name),i+1,i+1+r.rows,1,0,false⟩] }
def fh(bk:Bk)(own:Option bS)(a:Arg):Int:=
 match own with
 |none=>gU bk.qs a
 |some d=>if a.index≠-1 then 112 else if fe a.name d.params then 0 else 110
def gq(f:Arg->Int):List Arg->Int
 |[]=>0
 |a::l=>if f a≠0 then f a else gq f l
def eJ(a:Arg):ByteArray×Int:=(a.name,a.index)
def uy(l:List Arg):Bool:=Df (l.map eJ)
def kD(bk:Bk)(own:Option Nat)(n:Int):Bk:=match own with |some k=>{ bk with ds:=bk.ds.modify k fun d=>{ d with depth:=max d.depth n } } |none=>bk
def gV(bk:Bk)(own:Option Nat):Option bS:=own.bind fun k=>bk.ds[k]?
def g_(bk:Bk)(n:ByteArray):Int×Int:=
 match eB bk.ds n with
 |some d=>if d.whole then(d.params.length,d.depth) else(cf n,0)
 |none=>(cf n,0)
def mF(bk:Bk)(own:Option Nat)(n:ByteArray):Bool:=match gV bk own with |some d=>decide (n=d.name) |none=>false
def kM(bk:Bk)(own:Option Nat)(r:Row):Er Bk:=
 if mF bk own r.name then .error 114
 else if (g_ bk r.name).1=0 then .error 80
 else if (r.args.length:Int)≠(g_ bk r.name).1 then .error 111
 else if gq (fh bk (gV bk own)) r.args≠0 then .error (gq (fh bk (gV bk own)) r.args)
 else if uy r.args then .error 113
 else if own.isSome=true/\32<(g_ bk r.name).2+1 then .error 102
 else .ok (kD bk own ((g_ bk r.name).2+1))
def lF(e:Int)(bk:Bk):Er Bk:=if e≠0 then .error e else .ok bk
def uQ(bk:Bk)(r:Row):Er Bk:=
 match eF bk.bs r.name with
 |none=>.error 110
 |some c=>if r.num<0\/(c.size<63/\2^c.size.toNat<=r.num) then .error 112 else .ok bk
def kT(bk:Bk)(l:List Arg):Er Bk:=match l with |[a,b]=>if gU bk.qs a≠0 then .error (gU bk.qs a) else lF (gU bk.bs b) bk |_=>.error 111
def mY(bk:Bk)(l:List Arg):Er Bk:=match l with |[a]=>lF (gU bk.qs a) bk |_=>.error 111
def fO(bk:Bk)(own:Option Nat)(i:Int)(r:Row):Er Bk:=
 if r.kind=bF then(fK bk bk.qs 64 r).map fun l=>{ bk with qs:=l }
 else if r.kind=cE then(fK bk bk.bs 64 r).map fun l=>{ bk with bs:=l }
 else if r.kind=bD then qy bk r i
 else if r.kind=aT then(if r.num<0 then .error 112 else .ok bk)
 else if r.kind=eZ then uQ bk r
 else if r.kind=cn then kM bk own r
 else if r.kind=bT then kT bk r.args
 else if r.kind=cV then mY bk r.args
 else .ok bk
def countP(ds:List bS)(rows:List Row)(n:Int):Int:=
 match rows with
 |[]=>n
 |r::rest=>
  let k:Int:=if r.kind=aT then(let c:=countP ds (rest.take r.rows.toNat) 0;if 0<c then min r.num 4097*c else c) else match eB ds r.name with |some d=>d.ops |none=>1
  countP ds (rest.drop r.rows.toNat) (min (n+k) 4097)
termination_by rows.length
decreasing_by all_goals (simp only[yA,List.length_drop,List.length_cons];omega)
def j7(ds:List bS)(k:Nat)(n:Int):List bS:=ds.modify k fun d=>{ d with whole:=true,ops:=n }
def eM(deep:Nat)(own:Option Nat)(i:Nat)(rows:List Row)(bk:Bk):Except (Int×Int) Bk:=
 match rows with
 |[]=>.ok bk
 |r::rest=>
  if lj r rest.length deep own.isSome≠0 then .error (r.place,lj r rest.length deep own.isSome)
  else match fO bk own i r with
   |.error e=>.error (r.place,e)
   |.ok lS=>
    let inner:=if r.kind=bD then some bk.ds.length else own
    match eM (deep+1) inner (i+1) (rest.take r.rows.toNat) lS with
    |.error e=>.error e
    |.ok fc=>
     let lh:=if r.kind=bD then{ fc with ds:=j7 fc.ds bk.ds.length (countP fc.ds (rest.take r.rows.toNat) 0) } else fc
     eM deep own (i+1+r.rows.toNat) (rest.drop r.rows.toNat) lh
termination_by rows.length
decreasing_by all_goals (simp only[yA,List.length_drop,List.length_cons];omega)
end
section
open Go.Ab
attribute [-simp] aV aE
def TP(t:TypeId):Bool:=t==73||t==74||t==76||t==116
def vR(r:gK):AV:=.agg [I r.from_,I r.size]
def sF(l:List gK):List (ByteArray×AV):=l.map fun r=>(r.name,vR r)
def l0(l:List bS)(ids:List Nat):List (ByteArray×AV):=(l.zip ids).map fun x=>(x.1.name,.ptr x.2 0)
abbrev C4(xr:AV)(qm bm gm:Nat)(xp:AV)(nq nb:Int)(xo:AV)(pl:Int):AO:=aP [xr,.mp qm,.mp bm,.mp gm,xp,I nq,I nb,xo,I pl] 9 76
abbrev xD(xp:AV)(d:bS):AO:=aP [Sb d.name,xp,I d.from_,I d.Hv,I d.depth,I d.ops,B d.whole] 7 116
def uk(h:AH)(id:Nat)(d:bS):Prop:=∃xp,h.obj id=some (xD xp d)/\cl iL 1 9 h xp d.params
structure PM (h:AH) (bk:Bk) (ids:List Nat) (qm bm gm:Nat):Prop where
 q:h.obj qm=some (mw Sb 73 (sF bk.qs))
 b:h.obj bm=some (mw Sb 73 (sF bk.bs))
 g:h.obj gm=some (mw Sb 74 (l0 bk.ds ids))
 len:ids.length=bk.ds.length
 d:∀(k:Nat)(d:bS)(id:Nat),bk.ds[k]?=some d->ids[k]?=some id->uk h id d
 nd:ids.Nodup
 qb:qm≠bm
structure PA (n0:Nat) (h:AH) (p:Nat) (xr:AV) (bk:Bk) (ids:List Nat) (qm bm gm:Nat) (pl:Int):Prop where
 n:n0<=p/\n0<=qm/\n0<=bm/\n0<=gm/\∀id∈ids,n0<=id
 p:h.obj p=some (C4 xr qm bm gm aQ (aK bk.qs) (aK bk.bs) aQ pl)
 m:PM h bk ids qm bm gm
theorem uk.fr{h h':AH}{id:Nat}{d:bS}(a:uk h id d){S:Nat->Prop}(hf:Fr h h' S)(hs:∀i o,h.obj i=some o->o.ty=116\/o.ty=9->¬S i):uk h' id d:=by
 obtain⟨xp,h1,h2⟩:=a
 refine⟨xp,hf.obj h1 (hs _ _ h1 (.inl rfl)),?_⟩
 rcases h2 with h2 |⟨i,h3,h4⟩
 ·exact .inl h2
 ·exact .inr ⟨i,h3,hf.obj h4 (hs _ _ h4 (.inr rfl))⟩
theorem PM.ba{h h':AH}{bk:Bk}{ids:List Nat}{qm bm gm:Nat}(a:PM h bk ids qm bm gm)(hf:Fr h h' fun _=>False):PM h' bk ids qm bm gm:=
 ⟨hf.bU a.q,hf.bU a.b,hf.bU a.g,a.len,fun k d id h1 h2=>(a.d k d id h1 h2).fr hf fun _ _ _ _ h=>h,a.nd,a.qb⟩
theorem PA.ba{n0:Nat}{h h':AH}{p:Nat}{xr:AV}{bk:Bk}{ids:List Nat}{qm bm gm:Nat}{pl:Int}(a:PA n0 h p xr bk ids qm bm gm pl)(hf:Fr h h' fun _=>False):PA n0 h' p xr bk ids qm bm gm pl:=
 ⟨a.n,hf.bU a.p,a.m.ba hf⟩
theorem lY{n:ByteArray}{l:List gK}:fw n (sF l)=(eF l n).map vR:=AL
theorem oN{n:ByteArray}:∀{l:List bS}{ids:List Nat},ids.length=l.length->(fw n (l0 l ids)=none/\eB l n=none)\/∃(k:Nat)(d:bS)(id:Nat),fw n (l0 l ids)=some (.ptr id 0)/\eB l n=some d/\l[k]?=some d/\ids[k]?=some id
 |[],ids,_=>.inl ⟨by simp[l0,fw],rfl⟩
 |d::l,[],h=>by simp at h
 |d::l,id::ids,h=>by
  have e:l0 (d::l) (id::ids)=(d.name,.ptr id 0)::l0 l ids:=rfl
  rw[e]
  unfold eB
  simp only[fw,List.find?_cons]
  by_cases hn:n=d.name
  ·rw[zX hn,zL hn.symm]
   exact .inr ⟨0,d,id,rfl,rfl,rfl,rfl⟩
  ·rw[zW hn,zK (fun h=>hn h.symm)]
   rcases oN (n:=n) (l:=l) (ids:=ids) (by simpa using h) with⟨h1,h2⟩ |⟨k,d',mm,h1,h2,h3,h4⟩
   ·exact .inl ⟨h1,h2⟩
   ·exact .inr ⟨k+1,d',mm,h1,h2,by simpa using h3,by simpa using h4⟩
theorem z93:pg Pg 118=some (.agg [I 0,I 0]):=by kernel_rfl
theorem z87:pg Pg 112=some (.sc (.pointer none)):=by kernel_rfl
section
variable {h:AH} {M:Nat->Prop} {R:AE->AH->Prop}
theorem Eh{k:ByteArray}(hR:R (.ret (B (kX k))) h):aA Pg 84 [Sb k] h M R:=by
 apply YA.aM
 unfold kX at hR
 by_cases k1:k=bD
 ·subst k1;simpa[bD] using hR
 ·by_cases k2:k=aT
  ·subst k2;simpa[bD,aT] using hR
  ·by_cases k3:k=eZ
   ·subst k3;simpa[bD,aT,eZ] using hR
   ·simp[k1,k2,k3]at hR
    unfold bD at k1;unfold aT at k2;unfold eZ at k3
    simpa[k1,k2,k3] using hR
theorem Nu{k:ByteArray}(hR:R (.ret (B (mi k))) h):aA Pg 83 [Sb k] h M R:=by
 apply Rg.aM
 unfold mi at hR
 by_cases k1:k=bF
 ·subst k1;simpa[bF] using hR
 by_cases k2:k=cE
 ·subst k2;simpa[bF,cE] using hR
 by_cases k3:k=cn
 ·subst k3;simpa[bF,cE,cn] using hR
 by_cases k4:k=bT
 ·subst k4;simpa[bF,cE,cn,bT] using hR
 by_cases k5:k=cV
 ·subst k5;simpa[bF,cE,cn,bT,cV] using hR
 simp[k1,k2,k3,k4,k5]at hR
 unfold bF at k1;unfold cE at k2;unfold cn at k3;unfold bT at k4;unfold cV at k5
 simp[-Rg.n1,k1,k2,k3,k4,k5]
 unfold Rg.n1
 refine⟨fun _=>False,fun _ h=>h.elim,Eh ?_⟩
 simpa using hR
end
section
variable {h:AH} {M:Nat->Prop} {R:AE->AH->Prop} {n0 p:Nat} {xr:AV} {bk:Bk} {ids:List Nat} {qm bm gm:Nat} {pl:Int}
theorem An{cs:List AV}{n:ByteArray}(hp:h.obj p=some (aP cs 9 76))(c1:cs[1]?=some (.mp qm))(c2:cs[2]?=some (.mp bm))(c3:cs[3]?=some (.mp gm))(hm:PM h bk ids qm bm gm)
  (hR:∀h',Fr h h' (fun _=>False)->R (.ret (B (ia bk n))) h'):aA Pg 98 [.ptr p 0,Sb n] h M R:=by
 apply vi.aM
 unfold vi.a_ vi.bj
 simp only[aC,aj,au,hp,ap,zG,c1,aa]
 refine jo (enc:=Sb) kz z93 hm.q fun _=>?_
 rw[lY]
 have hex:∀(o:Option gK),∃a b,im true (.agg [I 0,I 0]) (o.map vR)=.dD [.agg [I a,I b],B o.isSome]:=fun o=>by
  cases o with
  |none=>exact⟨_,_,rfl⟩
  |some r=>exact⟨_,_,rfl⟩
 obtain⟨a1,b1,e1⟩:=hex (eF bk.qs n)
 rw[e1]
 simp only[dE,zA,zB,aa]
 refine jt (cs:=[I a1,I b1]) rfl rfl rfl rfl (fun id hid=>.inr hid) fun v1 h1 f1 _ _=>?_
 unfold vi.aS
 simp only[aC,aj,au,f1.bU hp,ap,zG,c2,aa]
 have Qv:=hm.ba f1
 refine jo (enc:=Sb) kz z93 Qv.b fun _=>?_
 rw[lY]
 obtain⟨a2,b2,e2⟩:=hex (eF bk.bs n)
 rw[e2]
 simp only[dE,zA,zB,aa]
 refine jt (cs:=[I a2,I b2]) rfl rfl rfl rfl (fun id hid=>.inr (zR f1.next hid)) fun v2 h2 f2 _ _=>?_
 have bX:=f1.cj f2
 unfold vi.n9
 simp only[aC,aj,au,bX.bU hp,ap,zG,c3,aa]
 have hm2:=hm.ba bX
 refine jo (enc:=Sb) kz z87 hm2.g fun _=>?_
 have e3:∃z,im true (.sc (.pointer none)) (fw n (l0 bk.ds ids))=.dD [z,B (eB bk.ds n).isSome]:=by
  rcases oN (n:=n) hm.len with⟨h1,h2⟩ |⟨k,d,id,h1,h2,_⟩
  ·rw[h1,h2];exact⟨_,rfl⟩
  ·rw[h1,h2];exact⟨_,rfl⟩
 obtain⟨z,e3⟩:=e3
 rw[e3]
 simp only[dE,zA,zB,aa]
 unfold ia at hR
 generalize (eF bk.qs n).isSome=t1 at *
 generalize (eF bk.bs n).isSome=t2 at *
 generalize (eB bk.ds n).isSome=t3 at *
 have fin:∀b,b=(t1||t2||t3)->vi.n3 (fun id=>M id\/h.next<=id) (aJ Pg [.tmp 4] R) (aJ Pg [.tmp 4] R) (fun _ _ _=>False) (fun v h=>R (.bW v) h) (Sb n) (B b) h2:=fun b hb=>by
  rw[<-hb]at hR
  cases b with
  |true=>simpa[vi.n3,vi.n2] using hR h2 bX
  |false=>
   simp only[vi.n3,cA,zT,zE,zD,zC,zI]
   refine⟨fun _=>False,fun _ h=>h.elim,AT fun h3 f3=>?_⟩
   have:=hR h3 (bX.cj f3)
   simpa[vi.n2] using this
 have fin:=fin _ rfl
 revert fin
 cases t1<;>cases t2<;>cases t3<;>intro fin<;>simp[-vi.n3]at fin<;>simp[-vi.n3]<;>exact fin
end
end
section
open Go.Ab
attribute [-simp] aV aE
theorem r0(l:List gK)(r:gK):aK (l++[r])=aK l+r.size:=by simp[aK]
theorem E8(l:List gK)(r:gK):sF (l++[r])=sF l++[(r.name,vR r)]:=by simp[sF]
theorem qw{y:Row×AV}{l:List Arg}{f:Arg->List AV}{sz:Nat}{ty:TypeId}{h:AH}(ha:cK f sz ty h y.2 l):(az y).all cR=true:=by
 show(true&&(true&&(cR y.2&&(true&&(true&&(true&&true))))))=true
 rw[ha.one.1];rfl
section
variable {h:AH} {M:Nat->Prop} {R:AE->AH->Prop} {n0 p:Nat} {xr:AV} {bk:Bk} {ids:List Nat} {qm bm gm:Nat} {pl:Int}
theorem Ez{m:Nat}{l:List gK}{a:Arg}(hm:h.obj m=some (mw Sb 73 (sF l)))(hR:∀h',Fr h h' (fun _=>False)->R (.ret (I (gU l a))) h'):aA Pg 88 [.mp m,.agg a.enc] h M R:=by
 apply G9.aM
 unfold G9.bj
 refine dV (cs:=a.enc) (Arg.hZ a) fun va h1 f1 _ oa=>?_
 unfold G9.aS
 simp only[aj,au,oa,ap,zG,Arg.enc,zA,aa]
 refine jo (enc:=Sb) kz z93 (f1.bU hm) fun _=>?_
 rw[lY]
 unfold gU at hR
 cases hr:eF l a.name with
 |none=>
  rw[hr]at hR
  simp only[Option.map_none,im,zV,dE,zA,zB,aa]
  refine jt (cs:=[I 0,I 0]) rfl rfl rfl rfl (fun id hid=>.inr (zR f1.next hid)) fun v1 h2 f2 _ _=>?_
  have:=hR h2 (f1.cj f2)
  simpa[G9.n9,G9.n8,G9.n7] using this
 |some g=>
  rw[hr]at hR
  simp only[yB,im,zV,vR,dE,zA,zB,aa]
  refine jt (cs:=[I g.from_,I g.size]) rfl rfl rfl rfl (fun id hid=>.inr (zR f1.next hid)) fun v1 h2 f2 _ ov=>?_
  have:=hR h2 (f1.cj f2)
  have HM:=f2.bU oa
  by_cases k1:a.index<0
  ·simp[k1]at this
   simpa[HM,ov,Arg.enc,k1] using this
  ·by_cases k2:g.size<=a.index
   ·simp[k1,k2]at this
    simpa[HM,ov,Arg.enc,k1,k2] using this
   ·simp[k1,k2]at this
    simpa[HM,ov,Arg.enc,k1,k2] using this
theorem L1{nc:Int}{y:Row×AV}(pa:PA n0 h p xr bk ids qm bm gm pl)(ha:cK Arg.enc 2 92 h y.2 y.1.args)(wI:nc=64)(ht:0<=aK bk.qs/\aK bk.qs<=64)(hM:∀id,TW TP n0 h id->M id)
  (he:∀e h',fK bk bk.qs nc y.1=.error e->Fr h h' (fun _=>False)->R (.ret (I e)) h')
  (hk:∀l' h',fK bk bk.qs nc y.1=.ok l'->PA n0 h' p xr { bk with qs:=l' } ids qm bm gm pl->Fr h h' (TW TP n0 h)->R (.ret (I 0)) h') :
  aA Pg 85 [.ptr p 0,.agg (az y),.mp qm,.ptr p 5,I nc] h M R:=by
 apply jM.aM
 unfold jM.bH
 refine dV (qw ha) fun vr h1 f1 jp bO=>?_
 unfold jM.a_
 have me:=pa.ba f1
 simp only[aj,au,bO,ap,zG,az,zA,zB,aa]
 refine⟨fun _=>False,fun _ h=>h.elim,An me.p rfl rfl rfl me.m fun h2 f2=>?_⟩
 have bX:=f1.cj f2
 have eQ:=me.ba f2
 have jV:=f2.bU bO
 unfold fK at he hk
 cases lA:ia bk y.1.name with
 |true=>
  have:=he 110 h2 (by rw[lA];rfl) bX
  simpa[jM.bj,jM.n4] using this
 |false=>
  rw[lA]at he hk
  simp only[zE,if_false]at he hk
  simp only[jM.bj,al,zE,zC,zD,zH]
  by_cases k1:y.1.num<1
  ·have:=he 112 h2 (by rw[zX k1]) bX
   simpa[jM.aS,jM.n9,jM.n5,jV,az,k1] using this
  ·rw[zW k1]at he hk
   have w1:IntKind.i64.wrap (nc-aK bk.qs)=nc-aK bk.qs:=aR (by omega) (by omega)
   simp only[jM.aS,aj,au,jV,ap,zG,az,zA,zB,aa,bc,zK k1,jM.n9,al,zE,zC,zD,zH,jM.n8,aC,eQ.p,lW,w1,ft,gt_iff_lt]
   by_cases k2:nc-aK bk.qs<y.1.num
   ·have:=he 1 h2 (by rw[zX k2]) bX
    simpa[jM.n7,jM.n6,k2] using this
   ·rw[zW k2]at he hk
    simp only[zK k2,jM.n7,al,zE,zC,zD,zH]
    unfold jM.n3
    simp only[aj,au,jV,ap,zG,az,zA,zB,aa,aC,eQ.p]
    refine⟨_,rfl,?_⟩
    have BR:fw y.1.name (sF bk.qs)=none:=by
     rw[lY]
     unfold ia at lA
     simp only[Bool.or_eq_false_iff]at lA
     have:=lA.1.1.1
     cases hx:eF bk.qs y.1.name with
     |none=>rfl
     |some _=>rw[hx]at this;cases this
    have Lv:∀id,TW TP n0 h id->(M id\/h.next<=id):=fun id hid=>.inl (hM id hid)
    have m0:h.obj qm=some (mw Sb 73 (sF bk.qs)):=pa.m.q
    have p0:h.obj p=some (C4 xr qm bm gm aQ (aK bk.qs) (aK bk.bs) aQ pl):=pa.p
    refine vu (enc:=Sb) kz (Lv _ ⟨pa.n.2.1,_,m0,rfl,rfl⟩) eQ.m.q BR fun h3 Fm f3=>?_
    have KJ:p≠qm:=bM p0 m0 (show(76:Nat)≠73 by decide)
    have p3:h3.obj p=some (C4 xr qm bm gm aQ (aK bk.qs) (aK bk.bs) aQ pl):=f3.obj eQ.p KJ
    have ko:h3.obj vr=some (aP (az y) 6 87):=f3.obj jV (bM jV eQ.m.q (show(87:Nat)≠73 by decide))
    have w2:IntKind.i64.wrap (aK bk.qs+y.1.num)=aK bk.qs+y.1.num:=aR (by omega) (by omega)
    unfold jM.n2
    simp only[aC,aj,au,p3,ko,ap,zG,az,zA,zB,aa,aZ,w2,aE,dt,bz]
    refine⟨⟨Lv _ ⟨pa.n.1,_,p0,rfl,rfl⟩,rfl,rfl,by simp⟩,?_⟩
    have f4:Fr h3 (h3.put p 5 [I (aK bk.qs+y.1.num)]) (·=p):=Fr.refl.put (.inl rfl)
    have p4:=dz (off:=5) (cs:=[I (aK bk.qs+y.1.num)]) p3
    generalize h3.put p 5 [I (aK bk.qs+y.1.num)]=h4 at *
    have fz:Fr h h4 (TW TP n0 h):=TW.trans (TW.trans (TW.aU bX) (TW.jm f3 pa.n.2.1 eQ.m.q rfl rfl)) (TW.jm f4 pa.n.1 p3 rfl rfl)
    refine hk _ h4 rfl ⟨pa.n,?_,?_⟩ fz
    ·rw[p4,r0];rfl
    ·have dH:∀{i:Nat}{o:AO},h2.obj i=some o->i≠qm->i≠p->h4.obj i=some o:=fun ho h1 h2=>f4.obj (f3.obj ho h1) h2
     refine⟨by rw[E8];exact f4.obj Fm (Ne.symm KJ),dH eQ.m.b (Ne.symm eQ.m.qb) (bM eQ.m.b eQ.p (show(73:Nat)≠76 by decide)),dH eQ.m.g (bM eQ.m.g eQ.m.q (show(74:Nat)≠73 by decide)) (bM eQ.m.g eQ.p (show(74:Nat)≠76 by decide)),eQ.m.len,fun k d id h5 h6=>?_,eQ.m.nd,eQ.m.qb⟩
     obtain⟨xp,h7,h8⟩:=eQ.m.d k d id h5 h6
     refine⟨xp,dH h7 (bM h7 eQ.m.q (show(116:Nat)≠73 by decide)) (bM h7 eQ.p (show(116:Nat)≠76 by decide)),?_⟩
     rcases h8 with h8 |⟨i,h9,mP⟩
     ·exact .inl h8
     ·exact .inr ⟨i,h9,dH mP (bM mP eQ.m.q (show(9:Nat)≠73 by decide)) (bM mP eQ.p (show(9:Nat)≠76 by decide))⟩
theorem L2{nc:Int}{y:Row×AV}(pa:PA n0 h p xr bk ids qm bm gm pl)(ha:cK Arg.enc 2 92 h y.2 y.1.args)(wI:nc=64)(ht:0<=aK bk.bs/\aK bk.bs<=64)(hM:∀id,TW TP n0 h id->M id)
  (he:∀e h',fK bk bk.bs nc y.1=.error e->Fr h h' (fun _=>False)->R (.ret (I e)) h')
  (hk:∀l' h',fK bk bk.bs nc y.1=.ok l'->PA n0 h' p xr { bk with bs:=l' } ids qm bm gm pl->Fr h h' (TW TP n0 h)->R (.ret (I 0)) h') :
  aA Pg 85 [.ptr p 0,.agg (az y),.mp bm,.ptr p 6,I nc] h M R:=by
 apply jM.aM
 unfold jM.bH
 refine dV (qw ha) fun vr h1 f1 jp bO=>?_
 unfold jM.a_
 have me:=pa.ba f1
 simp only[aj,au,bO,ap,zG,az,zA,zB,aa]
 refine⟨fun _=>False,fun _ h=>h.elim,An me.p rfl rfl rfl me.m fun h2 f2=>?_⟩
 have bX:=f1.cj f2
 have eQ:=me.ba f2
 have jV:=f2.bU bO
 unfold fK at he hk
 cases lA:ia bk y.1.name with
 |true=>
  have:=he 110 h2 (by rw[lA];rfl) bX
  simpa[jM.bj,jM.n4] using this
 |false=>
  rw[lA]at he hk
  simp only[zE,if_false]at he hk
  simp only[jM.bj,al,zE,zC,zD,zH]
  by_cases k1:y.1.num<1
  ·have:=he 112 h2 (by rw[zX k1]) bX
   simpa[jM.aS,jM.n9,jM.n5,jV,az,k1] using this
  ·rw[zW k1]at he hk
   have w1:IntKind.i64.wrap (nc-aK bk.bs)=nc-aK bk.bs:=aR (by omega) (by omega)
   simp only[jM.aS,aj,au,jV,ap,zG,az,zA,zB,aa,bc,zK k1,jM.n9,al,zE,zC,zD,zH,jM.n8,aC,eQ.p,lW,w1,ft,gt_iff_lt]
   by_cases k2:nc-aK bk.bs<y.1.num
   ·have:=he 1 h2 (by rw[zX k2]) bX
    simpa[jM.n7,jM.n6,k2] using this
   ·rw[zW k2]at he hk
    simp only[zK k2,jM.n7,al,zE,zC,zD,zH]
    unfold jM.n3
    simp only[aj,au,jV,ap,zG,az,zA,zB,aa,aC,eQ.p]
    refine⟨_,rfl,?_⟩
    have BR:fw y.1.name (sF bk.bs)=none:=by
     rw[lY]
     unfold ia at lA
     simp only[Bool.or_eq_false_iff]at lA
     have:=lA.1.1.2
     cases hx:eF bk.bs y.1.name with
     |none=>rfl
     |some _=>rw[hx]at this;cases this
    have Lv:∀id,TW TP n0 h id->(M id\/h.next<=id):=fun id hid=>.inl (hM id hid)
    have m0:h.obj bm=some (mw Sb 73 (sF bk.bs)):=pa.m.b
    have p0:h.obj p=some (C4 xr qm bm gm aQ (aK bk.qs) (aK bk.bs) aQ pl):=pa.p
    refine vu (enc:=Sb) kz (Lv _ ⟨pa.n.2.2.1,_,m0,rfl,rfl⟩) eQ.m.b BR fun h3 Fm f3=>?_
    have KJ:p≠bm:=bM p0 m0 (show(76:Nat)≠73 by decide)
    have p3:h3.obj p=some (C4 xr qm bm gm aQ (aK bk.qs) (aK bk.bs) aQ pl):=f3.obj eQ.p KJ
    have ko:h3.obj vr=some (aP (az y) 6 87):=f3.obj jV (bM jV eQ.m.b (show(87:Nat)≠73 by decide))
    have w2:IntKind.i64.wrap (aK bk.bs+y.1.num)=aK bk.bs+y.1.num:=aR (by omega) (by omega)
    unfold jM.n2
    simp only[aC,aj,au,p3,ko,ap,zG,az,zA,zB,aa,aZ,w2,aE,dt,bz]
    refine⟨⟨Lv _ ⟨pa.n.1,_,p0,rfl,rfl⟩,rfl,rfl,by simp⟩,?_⟩
    have f4:Fr h3 (h3.put p 6 [I (aK bk.bs+y.1.num)]) (·=p):=Fr.refl.put (.inl rfl)
    have p4:=dz (off:=6) (cs:=[I (aK bk.bs+y.1.num)]) p3
    generalize h3.put p 6 [I (aK bk.bs+y.1.num)]=h4 at *
    have fz:Fr h h4 (TW TP n0 h):=TW.trans (TW.trans (TW.aU bX) (TW.jm f3 pa.n.2.2.1 eQ.m.b rfl rfl)) (TW.jm f4 pa.n.1 p3 rfl rfl)
    refine hk _ h4 rfl ⟨pa.n,?_,?_⟩ fz
    ·rw[p4,r0];rfl
    ·have dH:∀{i:Nat}{o:AO},h2.obj i=some o->i≠bm->i≠p->h4.obj i=some o:=fun ho h1 h2=>f4.obj (f3.obj ho h1) h2
     refine⟨dH eQ.m.q eQ.m.qb (bM eQ.m.q eQ.p (show(73:Nat)≠76 by decide)),by rw[E8];exact f4.obj Fm (Ne.symm KJ),dH eQ.m.g (bM eQ.m.g eQ.m.b (show(74:Nat)≠73 by decide)) (bM eQ.m.g eQ.p (show(74:Nat)≠76 by decide)),eQ.m.len,fun k d id h5 h6=>?_,eQ.m.nd,eQ.m.qb⟩
     obtain⟨xp,h7,h8⟩:=eQ.m.d k d id h5 h6
     refine⟨xp,dH h7 (bM h7 eQ.m.b (show(116:Nat)≠73 by decide)) (bM h7 eQ.p (show(116:Nat)≠76 by decide)),?_⟩
     rcases h8 with h8 |⟨i,h9,mP⟩
     ·exact .inl h8
     ·exact .inr ⟨i,h9,dH mP (bM mP eQ.m.b (show(9:Nat)≠73 by decide)) (bM mP eQ.p (show(9:Nat)≠76 by decide))⟩
end
end
section
open Go.Ab
attribute [-simp] aV aE
theorem mu{κ:Type}[DecidableEq κ]{n:κ}:∀{l:List (κ×AV)},(fw n l).isSome=fe n (l.map (·.1))
 |[]=>rfl
 |(k,v)::l=>by
  have ih:=mu (n:=n) (l:=l)
  unfold fe at *
  simp only[fw,List.map_cons,gy]
  by_cases e:n=k
  ·rw[zX e,zX e];rfl
  ·rw[zW e,zW e,ih]
   have sh:∀(l:List κ)(i j:Nat),(gy n l i).isSome=(gy n l j).isSome:=fun l=>by
    induction l with
    |nil=>intro i j;rfl
    |cons a l ih=>
     intro i j
     simp only[gy]
     split
     ·rfl
     ·exact ih _ _
   exact sh _ _ _
theorem DM{z:AV}(o:Option AV):∃a,im true z o=.dD [a,B o.isSome]:=by
 cases o with
 |none=>exact⟨_,rfl⟩
 |some v=>exact⟨_,rfl⟩
theorem Ow(s:ByteArray):(iL s).all cR=true:=rfl
theorem V1{α:Type}{f:α->Bool}{l:List α}{i:Nat}{a:α}(hi:l[i]?=some a)(h:f a=true):l.any f=true:=List.any_eq_true.2 ⟨a,zP hi,h⟩
theorem VZ{α:Type}{f:α->Bool}{l:List α}(h:∀(i:Nat)(a:α),l[i]?=some a->f a=false):l.any f=false:=by
 rw[List.any_eq_false]
 intro x hx
 obtain⟨i,hi,rfl⟩:=List.mem_iff_getElem.1 hx
 rw[h i _ (zJ hi)];decide
theorem z3:pg Pg 3=some (I 0):=by kernel_rfl
section
variable {W:Nat->Prop} {QR QN:VK} {QE:Nat->VK} {QP:AV->AH->Prop} {h:AH} {x0:AV} {vr dd:Nat} {y:Row×AV}
theorem Mh(hW:∀id,h.next<=id->W id)(bO:h.obj vr=some (aP (az y) 6 87))(ha:cK Arg.enc 2 92 h y.2 y.1.args)(hl:y.1.args.length<=100000000)
  (he:y.1.args.any (fun a=>a.index != -1)=true->∀h',Fr h h' (fun _=>False)->QR [I 112] h')
  (hk:y.1.args.any (fun a=>a.index != -1)=false->∀h',Fr h h' (fun _=>False)->gO.bV W QR QN QE QP x0 (.ptr vr 0) (.ptr dd 0) h'):gO.cS W QR QN QE QP x0 (.ptr vr 0) (.ptr dd 0) h:=by
 unfold gO.cS
 simp only[aj,au,bO,ap,zG,az,zA,zB,aa,ha.len.1,ha.len.2,zH]
 unfold gO.cL
 refine cy (ι:=Nat) (fun i v h'=>v=[x0,.ptr vr 0,.ptr dd 0,y.2,I y.1.args.length,I i]/\i<=y.1.args.length/\Fr h h' (fun _=>False)/\∀j a,j<i->y.1.args[j]?=some a->(a.index != -1)=false) (fun i=>y.1.args.length-i) 0 ⟨rfl,by omega,Fr.refl,fun j a h=>by omega⟩ ?_
 rintro K i v h' ⟨rfl,hi,hf,hb⟩ hK
 simp only[gO.iX,zN,zO]
 by_cases aL:i<y.1.args.length
 ·have fH:(i:Int)<y.1.args.length:=by omega
  have g1:y.1.args[i]?=some y.1.args[i]:=zJ aL
  have w1:IntKind.i64.wrap ((i:Int)+1)=((i+1:Nat):Int):=by rw[aR (by omega) (by omega)];simp
  generalize y.1.args[i]=g at *
  simp only[gO.cw,bc,zL fH,gO.cT,al,zD,zF,zC,zI,gO.cP]
  refine gD (ha.ba hf) Arg.bu (Arg.hZ g) g1 rfl rfl (fun id hid=>hW id (zR hf.next hid)) fun vn h1 f1 nO ov=>?_
  have Ig:=hf.cj f1
  simp only[gO.cp,aj,au,ov,ap,zG,Arg.enc,zA,zB,aa,cq]
  cases hx:(g.index != -1) with
  |true=>
   simp only[gO.ck,al,zD,zF,zC,zI]
   exact he (V1 g1 hx) h1 Ig
  |false=>
   simp only[gO.ck,al,zE,zD,zC,zH,gO.bR,aZ,w1]
   refine hK (i+1) _ _ (by omega) ⟨rfl,by omega,Ig,fun j a hj lB=>?_⟩
   rcases Nat.lt_succ_iff_lt_or_eq.1 hj with h1 |h1
   ·exact hb j a h1 lB
   ·subst h1;rw[g1]at lB;cases lB;exact hx
 ·have eV:¬(i:Int)<y.1.args.length:=by omega
  simp only[gO.cw,bc,zK eV,gO.cT,al,zD,zE,zC,zH,zV,zN,zO]
  exact hk (VZ fun j a lB=>hb j a (by have:=(zM.1 lB).1;omega) lB) h' hf
theorem JI(hW:∀id,h.next<=id->W id)(hWd:W dd)(bO:h.obj vr=some (aP (az y) 6 87))(ha:cK Arg.enc 2 92 h y.2 y.1.args)(hl:y.1.args.length<=100000000){d:bS}(hd:h.obj dd=some (xD aQ d))
  (he:ux (y.1.args.map (·.name))=true->∀h',Fr h h' (·=dd)->QR [I 113] h')
  (hk:ux (y.1.args.map (·.name))=false->∀xp h',h'.obj dd=some (xD xp d)->cl iL 1 9 h' xp (y.1.args.map (·.name))->Fr h h' (·=dd)->gO.n2 W QR QN QE QP x0 (.ptr vr 0) (.ptr dd 0) h'):gO.bV W QR QN QE QP x0 (.ptr vr 0) (.ptr dd 0) h:=by
 unfold gO.bV
 refine AA (enc:=Sb) fun sm h1 os Lf f1=>?_
 have kI:=f1.bU bO
 have D1:=f1.bU hd
 unfold gO.bP
 simp only[aj,au,kI,ap,zG,az,zA,zB,aa,ha.len.1,ha.len.2,zH]
 have pZ:dd<h.next:=h.lt _ _ hd
 unfold gO.bH
 refine cy (ι:=Nat) (fun i v h'=>v=[x0,.ptr vr 0,.ptr dd 0,.mp sm,y.2,I y.1.args.length,I i]/\i<=y.1.args.length/\Fr h h' (·=dd) /\
  (∃sl:List (ByteArray×AV),h'.obj sm=some (mw Sb 135 sl)/\sl.map (·.1)=(y.1.args.take i).map (·.name)) /\
  (∃xp,h'.obj dd=some (xD xp d)/\cl iL 1 9 h' xp ((y.1.args.take i).map (·.name))/\dC (fun id=>h.next<=id/\id≠sm) xp) /\
  ∀j a,j<i->(y.1.args.map (·.name))[j]?=some a->fe a ((y.1.args.map (·.name)).take j)=false) (fun i=>y.1.args.length-i) 0
  ⟨rfl,by omega,f1.mono fun _ h=>h.elim,⟨[],os,rfl⟩,⟨aQ,D1,.nil,fun _ _ _ he=>by cases he⟩,fun j a h=>by omega⟩ ?_
 rintro K i v h' ⟨rfl,hi,hf,⟨sl,pF,pE⟩,⟨xp,XZ,rf,BQ⟩,hb⟩ hK
 simp only[gO.cG,zN,zO]
 have hda:∀{h2},Fr h h2 (·=dd)->cK Arg.enc 2 92 h2 y.2 y.1.args:=fun hf=>ha.fr hf fun id o ho kA e=>by
  subst e;rw[hd]at ho;cases ho;exact absurd (kA rfl) (show ¬(116:Nat)=92 by decide)
 by_cases aL:i<y.1.args.length
 ·have fH:(i:Int)<y.1.args.length:=by omega
  have g1:y.1.args[i]?=some y.1.args[i]:=zJ aL
  have w1:IntKind.i64.wrap ((i:Int)+1)=((i+1:Nat):Int):=by rw[aR (by omega) (by omega)];simp
  have tk:(y.1.args.take (i+1)).map (·.name)=(y.1.args.take i).map (·.name)++[(y.1.args[i]).name]:=by rw[List.take_succ_eq_append_getElem aL,List.map_append];rfl
  have LJ:(y.1.args.map (·.name))[i]?=some (y.1.args[i]).name:=by rw[List.getElem?_map,g1];rfl
  generalize y.1.args[i]=g at *
  simp only[gO.a_,bc,zL fH,gO.bj,al,zD,zF,zC,zI,gO.aS]
  refine gD (hda hf) Arg.bu (Arg.hZ g) g1 rfl rfl (fun id hid=>hW id (zR hf.next hid)) fun vn h2 f2 nO ov=>?_
  have C9:=f2.bU pF
  unfold gO.n9
  simp only[aj,au,ov,ap,zG,Arg.enc,zA,aa]
  refine jo (enc:=Sb) kz z3 C9 fun _=>?_
  obtain⟨zz,ez⟩:=DM (z:=I 0) (fw g.name sl)
  rw[ez,mu,pE]
  simp only[dE,zA,zB,aa]
  rw[List.map_take]
  cases hx:fe g.name ((y.1.args.map (·.name)).take i) with
  |true=>
   simp only[gO.n8,gO.n7,al,zD,zF,zC,zI]
   exact he (vf LJ hx) h2 (hf.trans (f2.mono fun _ h=>h.elim))
  |false=>
   simp only[gO.n8,gO.n7,al,zE,zD,zC,zH,gO.n5,aj,au,ov,ap,zG,Arg.enc,zA,aa]
   have je:fw g.name sl=none:=by
    have:=mu (n:=g.name) (l:=sl)
    rw[pE,List.map_take,hx]at this
    cases hy:fw g.name sl with
    |none=>rfl
    |some _=>rw[hy]at this;cases this
   have hWm:∀{h3:AH},h.next<=h3.next->∀id,h.next<=id->W id:=fun _ id hid=>hW id hid
   refine vu (enc:=Sb) kz (hW sm Lf) C9 je fun h3 PZ f3=>?_
   have ZM:=f2.bU XZ
   have e3:dd≠sm:=by omega
   have UN:h3.obj dd=some (xD xp d):=f3.obj ZM e3
   have lO:h3.obj vn=some (aP g.enc 2 92):=f3.obj ov (bM ov C9 (show(92:Nat)≠135 by decide))
   simp only[gO.n4,aC,aj,au,UN,lO,ap,zG,Arg.enc,zA,zB,aa]
   have iw:cl iL 1 9 h3 xp ((y.1.args.take i).map (·.name)):=by
    rcases rf with rf |⟨id,e,ho⟩
    ·exact .inl rf
    ·exact .inr ⟨id,e,f3.obj (f2.bU ho) (BQ id 0 _ e).2⟩
   refine qA (f:=iL) AN (by decide) rfl (by decide) rfl (Ow _) iw (fun id off n e=>hW id (BQ id off n e).1) (by rw[zZ,yA];omega) fun y2 h4 Lb lC f4=>?_
   have Yn:h4.obj dd=some (xD xp d):=f4.obj UN fun⟨off,n,e⟩=>by have:=(BQ dd off n e).1;omega
   simp only[aC,aj,zG,aE,Yn,bz,Lb.dr.one.2]
   refine⟨⟨hWd,by rw[List.all_cons,Lb.dr.one.1];rfl,rfl,by simp⟩,?_⟩
   have f5:Fr h4 (h4.put dd 1 [y2]) (·=dd):=Fr.refl.put (.inl rfl)
   have o5:=dz (off:=1) (cs:=[y2]) Yn
   generalize h4.put dd 1 [y2]=h5 at *
   simp only[gO.n3,aZ,w1]
   have sm4:h4.obj sm=some (mw Sb 135 (sl++[(g.name,I i)])):=f4.obj PZ fun⟨off,n,e⟩=>(BQ sm off n e).2 rfl
   have n3:h.next<=h3.next:=zR (zR hf.next f2.next) f3.next
   have fz:Fr h h5 (·=dd):=by
    refine(((hf.trans (f2.mono fun _ h=>h.elim)).trans (f3.mono fun id e=>.inr (by rw[e];exact Lf))).trans (f4.mono fun id ⟨off,n,e⟩=>.inr (BQ id off n e).1)).trans (f5.mono fun id e=>.inl e)
   refine hK (i+1) _ _ (by omega) ⟨rfl,by omega,fz,⟨_,f5.obj sm4 (fun e=>e3 e.symm),by rw[List.map_append,pE,tk];rfl⟩,⟨y2,o5,?_,fun id off n e=>?_⟩,fun j a hj lB=>?_⟩
   ·rw[tk]
    rcases Lb with Lb |⟨id,e,ho⟩
    ·exact .inl Lb
    ·exact .inr ⟨id,e,f5.obj ho (by have:=lC id 0 _ e;omega)⟩
   ·have:=lC id off n e
    refine⟨by omega,?_⟩
    have:sm<h3.next:=h3.lt _ _ PZ
    have:=lC id off n e
    omega
   ·rcases Nat.lt_succ_iff_lt_or_eq.1 hj with h1 |h1
    ·exact hb j a h1 lB
    ·subst h1;rw[LJ]at lB;cases lB;exact hx
 ·have eV:¬(i:Int)<y.1.args.length:=by omega
  have ht:y.1.args.take i=y.1.args:=List.take_of_length_le (by omega)
  rw[ht]at rf
  simp only[gO.a_,bc,zK eV,gO.bj,al,zD,zE,zC,zH,zV,zN,zO]
  exact hk (yW fun j a lB=>hb j a (by have:=(zM.1 lB).1;rw[zZ]at this;omega) lB) xp h' XZ rf hf
end
end
section
open Go.Ab
attribute [-simp] aV aE
theorem OB{l:List bS}{ids:List Nat}{d:bS}{id:Nat}(h:ids.length=l.length):l0 (l++[d]) (ids++[id])=l0 l ids++[(d.name,.ptr id 0)]:=by
 unfold l0
 rw[List.zip_append h.symm,List.map_append];rfl
section
variable {h:AH} {M:Nat->Prop} {R:AE->AH->Prop} {n0 p:Nat} {xr:AV} {bk:Bk} {ids:List Nat} {qm bm gm:Nat} {pl:Int}
theorem LZ{y:Row×AV}{i:Int}(pa:PA n0 h p xr bk ids qm bm gm pl)(ha:cK Arg.enc 2 92 h y.2 y.1.args)(hl:y.1.args.length<=100000000)
  (hi:0<=i/\i<=1000000000) (hr:0<=y.1.rows/\y.1.rows<=1000000000) (hM:∀id,TW TP n0 h id->M id)
  (he:∀e h',qy bk y.1 i=.error e->Fr h h' (fun _=>False)->R (.ret (I e)) h')
  (hk:∀bN id h',qy bk y.1 i=.ok bN->PA n0 h' p xr bN (ids++[id]) qm bm gm pl->Fr h h' (TW TP n0 h)->R (.ret (I 0)) h') :
  aA Pg 86 [.ptr p 0,.agg (az y),I i] h M R:=by
 apply gO.aM
 unfold gO.dZ
 refine dV (qw ha) fun vr h1 f1 jp bO=>?_
 unfold gO.dS
 have me:=pa.ba f1
 simp only[aj,au,bO,ap,zG,az,zA,zB,aa]
 refine⟨fun _=>False,fun _ h=>h.elim,An me.p rfl rfl rfl me.m fun h2 f2=>?_⟩
 have bX:=f1.cj f2
 have eQ:=me.ba f2
 have jV:=f2.bU bO
 have ii:=ha.ba bX
 unfold qy at he hk
 cases lA:ia bk y.1.name with
 |true=>
  have:=he 110 h2 (by rw[lA];rfl) bX
  simpa[gO.dn,gO.cU] using this
 |false=>
  rw[lA]at he hk
  simp only[zE,if_false]at he hk
  simp only[gO.dn,al,zE,zC,zD,zH,gO.c9,aj,au,jV,ap,zG,az,zA,zB,aa,ii.len.1,ii.len.2,eG]
  by_cases k1:y.1.args.length=0
  ·have:=he 111 h2 (by rw[zX k1]) bX
   have eI:((y.1.args.length:Int)==0)=true:=by rw[k1];rfl
   simpa[gO.cB,gO.cC,eI] using this
  ·rw[zW k1]at he hk
   have eI:((y.1.args.length:Int)==0)=false:=by simpa using k1
   have w1:IntKind.i64.wrap (i+1)=i+1:=aR (by omega) (by omega)
   have w2:IntKind.i64.wrap (i+1+y.1.rows)=i+1+y.1.rows:=aR (by omega) (by omega)
   simp only[eI,gO.cB,al,zE,zC,zD,zH,gO.cF,aj,au,jV,ap,zG,az,zA,zB,aa,aZ,w1,w2]
   refine⟨_,rfl,?_⟩
   refine dV (cs:=[Sb y.1.name,aQ,I (i+1),I (i+1+y.1.rows),I 1,I 0,B false]) rfl fun dd h3 f3 lD od=>?_
   have eO:=bX.cj f3
   have ko:=f3.bU jV
   refine Mh (fun id hid=>.inr (zR eO.next hid)) ko (ha.ba eO) hl ?_ ?_
   ·intro hx h4 f4
    have:=he 112 h4 (by rw[zX hx]) (eO.cj f4)
    simpa using this
   ·intro hx h4 f4
    rw[zW (by rw[hx];decide)]at he hk
    have iP:=eO.cj f4
    have XI:h4.obj dd=some (xD aQ ⟨y.1.name,[],i+1,i+1+y.1.rows,1,0,false⟩):=f4.bU od
    have zq:h.next<=dd:=zR bX.next lD
    refine JI (fun id hid=>.inr (zR iP.next hid)) (.inr zq) (f4.bU ko) (ha.ba iP) hl XI ?_ ?_
    ·intro hx h5 f5
     have fz:Fr h h5 (fun _=>False):=iP.trans (f5.mono fun id e=>.inr (by rw[e];exact zq))
     have:=he 113 h5 (by rw[zX hx]) fz
     simpa using this
    ·intro hx xp h5 od5 hp5 f5
     rw[zW (by rw[hx];decide)]at hk
     have qg:Fr h h5 (fun _=>False):=iP.trans (f5.mono fun id e=>.inr (by rw[e];exact zq))
     have tE:=pa.ba qg
     have HL:h5.obj vr=some (aP (az y) 6 87):=f5.obj (f4.bU ko) (bM (f4.bU ko) XI (show(87:Nat)≠116 by decide))
     unfold gO.n2
     simp only[aC,aj,au,tE.p,HL,ap,zG,az,zA,zB,aa]
     have BR:fw y.1.name (l0 bk.ds ids)=none:=by
      unfold ia at lA
      simp only[Bool.or_eq_false_iff]at lA
      have h1:=lA.1.2
      rcases oN (n:=y.1.name) pa.m.len with⟨h2,_⟩ |⟨k,d,id,h2,h3,_⟩
      ·exact h2
      ·rw[h3]at h1;cases h1
     have g0:=pa.m.g
     refine vu (enc:=Sb) kz (.inl (hM _ ⟨pa.n.2.2.2.1,_,g0,rfl,rfl⟩)) tE.m.g BR fun h6 og f6=>?_
     have sW:Fr h h6 (TW TP n0 h):=TW.trans (TW.aU qg) (TW.jm f6 pa.n.2.2.2.1 tE.m.g rfl rfl)
     have NQ:∀id∈ids,id<h.next:=fun id hid=>by
      obtain⟨k,hk,rfl⟩:=List.mem_iff_getElem.1 hid
      obtain⟨xp,h1,_⟩:=pa.m.d k _ _ (zJ (by rw[<-pa.m.len];exact hk)) (zJ hk)
      exact h.lt _ _ h1
     have h0n:n0<=h.next:=zR pa.n.1 (Nat.le_of_lt (h.lt _ _ pa.p))
     have dH:∀{j:Nat}{o:AO},h5.obj j=some o->o.ty≠74->h6.obj j=some o:=fun ho dx=>f6.obj ho (bM ho tE.m.g dx)
     have:=hk _ dd h6 rfl ⟨⟨pa.n.1,pa.n.2.1,pa.n.2.2.1,pa.n.2.2.2.1,fun id hid=>?_⟩,dH tE.p (show(76:Nat)≠74 by decide),⟨dH tE.m.q (show(73:Nat)≠74 by decide),dH tE.m.b (show(73:Nat)≠74 by decide),by rw[OB pa.m.len];exact og,by rw[List.length_append,List.length_append,pa.m.len];rfl,fun k d id hd hi=>?_,?_,pa.m.qb⟩⟩ sW
     ·simpa using this
     ·rcases List.mem_append.1 hid with hid |hid
      ·exact pa.n.2.2.2.2 id hid
      ·simp only[List.mem_singleton]at hid;subst hid;exact zR h0n zq
     ·have mk:∀{id:Nat}{d:bS},uk h5 id d->uk h6 id d:=fun a=>a.fr f6 fun i o ho ht e=>by
       subst e
       rw[tE.m.g]at ho;cases ho
       rcases ht with ht |ht
       ·exact absurd ht (show ¬(74:Nat)=116 by decide)
       ·exact absurd ht (show ¬(74:Nat)=9 by decide)
      by_cases hk:k<bk.ds.length
      ·rw[List.getElem?_append_left hk]at hd
       rw[List.getElem?_append_left (by rw[pa.m.len];exact hk)]at hi
       exact mk (tE.m.d k d id hd hi)
      ·rw[List.getElem?_append_right (by omega)]at hd
       rw[List.getElem?_append_right (by rw[pa.m.len];omega),pa.m.len]at hi
       have Lp:k-bk.ds.length=0:=by
        have:=(zM.1 hd).1
        simp at this;omega
       rw[Lp]at hd hi
       simp only[zA,zQ]at hd hi
       subst hd;subst hi
       exact mk ⟨xp,od5,hp5⟩
     ·rw[List.nodup_append]
      refine⟨pa.m.nd,by simp,fun a ha b hb=>?_⟩
      simp only[List.mem_singleton]at hb
      subst hb
      have:=NQ a ha
      omega
end
end
section
open Go.Ab
attribute [-simp] aV aE
theorem Vm:lE Pg 92=some [true,false]:=by kernel_rfl
abbrev De(x:ByteArray×Int):AV:=.agg [Sb x.1,I x.2]
theorem Qb:wh Pg 92 De:=Sa Vm
theorem r9:sK Pg 112=true:=by kernel_rfl
def nw(ids:List Nat)(own:Option Nat)(x:AV):Prop:=match own with |none=>x=.sc (.pointer none) |some k=>∃id,ids[k]?=some id/\x=.ptr id 0
theorem yd{f:Arg->Int}:∀{l:List Arg}{i:Nat}{a:Arg},l[i]?=some a->f a≠0->(∀j b,j<i->l[j]?=some b->f b=0)->gq f l=f a
 |[],i,a,h,_,_=>by simp at h
 |b::l,0,a,h,h1,_=>by simp only[zA,zQ]at h;subst h;simp[gq,h1]
 |b::l,i+1,a,h,h1,h2=>by
  have:=h2 0 b (by omega) rfl
  simp only[gq,this]
  rw[zW (by decide)]
  exact yd (by simpa using h) h1 fun j c hj hc=>h2 (j+1) c (by omega) (by simpa using hc)
theorem yc{f:Arg->Int}:∀{l:List Arg},(∀(j:Nat)(b:Arg),l[j]?=some b->f b=0)->gq f l=0
 |[],_=>rfl
 |b::l,h=>by
  have:=h 0 b rfl
  simp only[gq,this]
  rw[zW (by decide)]
  exact yc fun j c hc=>h (j+1) c (by simpa using hc)
section
variable {W:Nat->Prop} {QR QN:VK} {QE:Nat->VK} {QP:AV->AH->Prop} {h:AH} {n0 p vr:Nat} {xr x2:AV} {bk:Bk} {ids:List Nat} {qm bm gm:Nat} {pl:Int} {y:Row×AV} {own:Option Nat} {n dp:Int}
theorem Sy(hW:∀id,h.next<=id->W id)(bO:h.obj vr=some (aP (az y) 6 87))(ha:cK Arg.enc 2 92 h y.2 y.1.args)(hl:y.1.args.length<=100000000)
  (he:uy y.1.args=true->∀h',Fr h h' (fun _=>False)->QR [I 113] h')
  (hk:uy y.1.args=false->∀h',Fr h h' (fun _=>False)->c7.n7 W QR QN QE QP x2 (I dp) h'):c7.cp W QR QN QE QP x2 (.ptr vr 0) (I dp) h:=by
 unfold c7.cp
 refine AA (enc:=De) fun sm h1 os Lf f1=>?_
 unfold c7.ck
 simp only[aj,au,f1.bU bO,ap,zG,az,zA,zB,aa,ha.len.1,ha.len.2,zH]
 unfold c7.b5
 refine cy (ι:=Nat) (fun i v h'=>v=[x2,I dp,.mp sm,y.2,I y.1.args.length,I i]/\i<=y.1.args.length/\Fr h h' (fun _=>False) /\
  (∃sl:List ((ByteArray×Int)×AV),h'.obj sm=some (mw De 143 sl)/\sl.map (·.1)=(y.1.args.take i).map eJ) /\
  ∀j a,j<i->(y.1.args.map eJ)[j]?=some a->fe a ((y.1.args.map eJ).take j)=false) (fun i=>y.1.args.length-i) 0
  ⟨rfl,by omega,f1,⟨[],os,rfl⟩,fun j a h=>by omega⟩ ?_
 rintro K i v h' ⟨rfl,hi,hf,⟨sl,pF,pE⟩,hb⟩ hK
 simp only[c7.cG,zN,zO]
 by_cases aL:i<y.1.args.length
 ·have fH:(i:Int)<y.1.args.length:=by omega
  have g1:y.1.args[i]?=some y.1.args[i]:=zJ aL
  have w1:IntKind.i64.wrap ((i:Int)+1)=((i+1:Nat):Int):=by rw[aR (by omega) (by omega)];simp
  have tk:(y.1.args.take (i+1)).map eJ=(y.1.args.take i).map eJ++[eJ y.1.args[i]]:=by rw[List.take_succ_eq_append_getElem aL,List.map_append];rfl
  have LJ:(y.1.args.map eJ)[i]?=some (eJ y.1.args[i]):=by rw[List.getElem?_map,g1];rfl
  generalize y.1.args[i]=g at *
  simp only[c7.bR,bc,zL fH,c7.bV,al,zD,zF,zC,zI,c7.bP]
  refine gD (ha.ba hf) Arg.bu (Arg.hZ g) g1 rfl rfl (fun id hid=>hW id (zR hf.next hid)) fun vn h2 f2 nO ov=>?_
  have C9:=f2.bU pF
  unfold c7.bH
  refine dW ov rfl fun _=>?_
  have ek:AV.agg g.enc=De (eJ g):=rfl
  rw[ek]
  refine jo (enc:=De) Qb z3 C9 fun _=>?_
  obtain⟨zz,ez⟩:=DM (z:=I 0) (fw (eJ g) sl)
  rw[ez,mu,pE]
  simp only[dE,zA,zB,aa]
  rw[List.map_take]
  cases hx:fe (eJ g) ((y.1.args.map eJ).take i) with
  |true=>
   simp only[c7.a_,c7.bj,al,zD,zF,zC,zI]
   exact he (vf LJ hx) h2 (hf.cj f2)
  |false=>
   simp only[c7.a_,c7.bj,al,zE,zD,zC,zH]
   unfold c7.n9
   refine dW ov rfl fun _=>?_
   have je:fw (eJ g) sl=none:=by
    have:=mu (n:=eJ g) (l:=sl)
    rw[pE,List.map_take,hx]at this
    cases hy:fw (eJ g) sl with
    |none=>rfl
    |some _=>rw[hy]at this;cases this
   refine vu (enc:=De) Qb (hW sm Lf) C9 je fun h3 PZ f3=>?_
   simp only[c7.n8,aZ,w1]
   refine hK (i+1) _ _ (by omega) ⟨rfl,by omega,?_,⟨_,PZ,by rw[List.map_append,pE,tk];rfl⟩,fun j a hj lB=>?_⟩
   ·exact(hf.cj f2).trans (f3.mono fun id e=>.inr (by rw[e];exact Lf))
   ·rcases Nat.lt_succ_iff_lt_or_eq.1 hj with h1 |h1
    ·exact hb j a h1 lB
    ·subst h1;rw[LJ]at lB;cases lB;exact hx
 ·have eV:¬(i:Int)<y.1.args.length:=by omega
  simp only[c7.bR,bc,zK eV,c7.bV,al,zD,zE,zC,zH,zV,zN,zO]
  exact hk (yW fun j a lB=>hb j a (by have:=(zM.1 lB).1;rw[zZ]at this;omega) lB) h' hf
theorem nw.cases(pm:PM h bk ids qm bm gm)(ho:nw ids own x2):(own=none/\gV bk own=none/\x2=.sc (.pointer none))\/∃k id d,own=some k/\gV bk own=some d/\bk.ds[k]?=some d/\ids[k]?=some id/\x2=.ptr id 0/\uk h id d:=by
 cases own with
 |none=>exact .inl ⟨rfl,rfl,ho⟩
 |some k=>
  obtain⟨id,h1,h2⟩:=ho
  have hk:k<bk.ds.length:=by rw[<-pm.len];exact(zM.1 h1).1
  have h3:=zJ hk
  exact .inr ⟨k,id,_,rfl,h3,h3,h1,h2,pm.d k _ id h3 h1⟩
theorem O3(hW:∀id,h.next<=id->W id)(pa:PA n0 h p xr bk ids qm bm gm pl)(ho:nw ids own x2)(bO:h.obj vr=some (aP (az y) 6 87))(ha:cK Arg.enc 2 92 h y.2 y.1.args)(hl:y.1.args.length<=100000000)
  (iw:∀d∈bk.ds,d.params.length<=100000000)
  (he:gq (fh bk (gV bk own)) y.1.args≠0->∀h',Fr h h' (fun _=>False)->QR [I (gq (fh bk (gV bk own)) y.1.args)] h')
  (hk:gq (fh bk (gV bk own)) y.1.args=0->∀h',Fr h h' (fun _=>False)->c7.cp W QR QN QE QP x2 (.ptr vr 0) (I dp) h'):c7.fL W QR QN QE QP (.ptr p 0) x2 (.ptr vr 0) (I dp) h:=by
 unfold c7.fL
 simp only[aj,au,bO,ap,zG,az,zA,zB,aa,ha.len.1,ha.len.2,zH]
 unfold c7.fD
 refine cy (ι:=Nat) (fun i v h'=>v=[.ptr p 0,x2,.ptr vr 0,I dp,y.2,I y.1.args.length,I i]/\i<=y.1.args.length/\Fr h h' (fun _=>False) /\
  ∀j a,j<i->y.1.args[j]?=some a->fh bk (gV bk own) a=0) (fun i=>y.1.args.length-i) 0 ⟨rfl,by omega,Fr.refl,fun j a h=>by omega⟩ ?_
 rintro K i v h' ⟨rfl,hi,hf,hb⟩ hK
 simp only[c7.iX,zN,zO]
 by_cases aL:i<y.1.args.length
 ·have fH:(i:Int)<y.1.args.length:=by omega
  have g1:y.1.args[i]?=some y.1.args[i]:=zJ aL
  have w1:IntKind.i64.wrap ((i:Int)+1)=((i+1:Nat):Int):=by rw[aR (by omega) (by omega)];simp
  generalize y.1.args[i]=g at *
  simp only[c7.fu,bc,zL fH,c7.fM,al,zD,zF,zC,zI,c7.fl]
  refine gD (ha.ba hf) Arg.bu (Arg.hZ g) g1 rfl rfl (fun id hid=>hW id (zR hf.next hid)) fun vn h2 f2 nO ov=>?_
  have bX:=hf.cj f2
  have eQ:=pa.ba bX
  have bad:∀h3,Fr h h3 (fun _=>False)->fh bk (gV bk own) g≠0->QR [I (fh bk (gV bk own) g)] h3:=fun h3 f3 dx=>by
   have e:=yd g1 dx hb
   have:=he (by rw[e];exact dx) h3 f3
   rwa [e]at this
  have my:∀h3,Fr h h3 (fun _=>False)->fh bk (gV bk own) g=0->∀Yy,c7.cP W QR K Yy QP (.ptr p 0) x2 (.ptr vr 0) (I dp) y.2 (I y.1.args.length) (I i) h3:=fun h3 f3 h0 Yy=>by
   simp only[c7.cP,aZ,w1]
   refine hK (i+1) _ _ (by omega) ⟨rfl,by omega,f3,fun j a hj lB=>?_⟩
   rcases Nat.lt_succ_iff_lt_or_eq.1 hj with h1 |h1
   ·exact hb j a h1 lB
   ·subst h1;rw[g1]at lB;cases lB;exact h0
  rcases ho.cases eQ.m with⟨_,e2,rfl⟩ |⟨k,id,d,_,e2,o8,_,rfl,xp,od,hp⟩
  ·rw[e2]at bad my
   unfold fh at bad my
   simp only at bad my
   simp only[c7.eC,ai,r9,zH,c7.dZ,al,zD,zF,zC,zI,c7.dS,aC,aj,au,eQ.p,ap,zG,zA,zB,aa]
   refine dW ov rfl fun _=>?_
   refine⟨fun _=>False,fun _ h=>h.elim,Ez eQ.m.q fun h3 f3=>?_⟩
   have eO:=bX.cj f3
   by_cases hz:gU bk.qs g=0
   ·have La:(gU bk.qs g != 0)=false:=by simp[hz]
    simp only[c7.dn,cq,La,c7.cU,al,zE,zD,zC,zH,c7.cB]
    exact my h3 eO hz _
   ·have La:(gU bk.qs g != 0)=true:=by simp[hz]
    simp only[c7.dn,cq,La,c7.cU,al,zD,zF,zC,zI]
    exact bad h3 eO hz
  ·rw[e2]at bad my
   unfold fh at bad my
   simp only at bad my
   have hdm:=iw d (zP o8)
   simp only[c7.eC,ai,r9,zH,c7.dZ,al,zE,zD,zC,c7.cC,aj,au,ov,ap,zG,Arg.enc,zA,zB,aa]
   by_cases hx:g.index=-1
   ·have xN:(g.index != -1)=false:=by simp[hx]
    rw[zW (by simpa using hx)]at bad my
    simp only[xN,c7.cF,al,zE,zD,zC,zH,c7.cL,aC,aj,au,od,ov,ap,zG,Arg.enc,zA,zB,aa]
    refine⟨fun _=>False,fun _ h=>h.elim,GN hp.dr (by omega) ?_⟩
    cases hm:fe g.name d.params with
    |true=>
     rw[hm]at bad my
     simp only[dA,zS,c7.cw,al,zE,zD,zC,zH]
     exact my h2 bX rfl _
    |false=>
     rw[hm]at bad my
     simp only[dA,zT,c7.cw,al,zD,zF,zC,zI]
     exact bad h2 bX (by decide)
   ·have xN:(g.index != -1)=true:=by simp[hx]
    rw[zX hx]at bad
    simp only[xN,c7.cF,al,zD,zF,zC,zI]
    exact bad h2 bX (by decide)
 ·have eV:¬(i:Int)<y.1.args.length:=by omega
  simp only[c7.fu,bc,zK eV,c7.fM,al,zD,zE,zC,zH,zV,zN,zO]
  exact hk (yc fun j a lB=>hb j a (by have:=(zM.1 lB).1;omega) lB) h' hf
end
end
section
open Go.Ab
attribute [-simp] aV aE
theorem yu(n:ByteArray):0<=cf n/\cf n<=3:=by
 unfold cf
 split
 ·rename_i x hx
  have key:∀x∈mv,0<=x.2.1/\x.2.1<=3:=by decide +kernel
  exact key x (List.mem_of_find?_eq_some hx)
 ·omega
theorem getElem?_modify'{α:Type}{f:α->α}{l:List α}{k j:Nat}:(l.modify k f)[j]?=if k=j then(l[j]?).map f else l[j]?:=by
 rw[List.getElem?_modify]
 by_cases h:k=j
 ·simp[h]
 ·simp[h]
theorem Ni{l:List Nat}(h:l.Nodup){i j:Nat}{a:Nat}(hi:l[i]?=some a)(hj:l[j]?=some a):i=j:=by
 obtain⟨h1,h2⟩:=zM.1 hi
 obtain⟨h3,h4⟩:=zM.1 hj
 have hp:=List.pairwise_iff_getElem.1 h
 rcases Nat.lt_trichotomy i j with aL |he |aL
 ·exact absurd (h2.trans h4.symm) (hp i j h1 h3 aL)
 ·exact he
 ·exact absurd (h4.trans h2.symm) (hp j i h3 h1 aL)
theorem Ag{f:bS->bS}(hf:∀d,(f d).name=d.name):∀{l:List bS}{ids:List Nat}{k:Nat},l0 (l.modify k f) ids=l0 l ids
 |[],_,k=>by simp[l0]
 |d::l,[],0=>by simp[l0]
 |d::l,[],k+1=>by simp[l0]
 |d::l,id::ids,0=>by simp[l0,hf]
 |d::l,id::ids,k+1=>by
  have:=Ag hf (l:=l) (ids:=ids) (k:=k)
  unfold l0 at *
  simp only[List.modify_succ_cons,List.zip_cons_cons,List.map_cons,this]
section
variable {h:AH} {n0 p:Nat} {xr:AV} {bk:Bk} {ids:List Nat} {qm bm gm:Nat} {pl:Int}
theorem PA.Ap{h':AH}{k id:Nat}{d:bS}{f:bS->bS}{xp:AV}(pa:PA n0 h p xr bk ids qm bm gm pl)(hd:bk.ds[k]?=some d)(hi:ids[k]?=some id)(hp:cl iL 1 9 h xp d.params)(hn:∀d,(f d).name=d.name)(hpr:(f d).params=d.params)
  (ho:h'.obj id=some (xD xp (f d))) (hf:Fr h h' (·=id)):PA n0 h' p xr { bk with ds:=bk.ds.modify k f } ids qm bm gm pl/\Fr h h' (TW TP n0 h):=by
 obtain⟨Xt,hid,_⟩:=pa.m.d k d id hd hi
 have dH:∀{j:Nat}{o:AO},h.obj j=some o->o.ty≠116->h'.obj j=some o:=fun ho dx=>hf.obj ho (bM ho hid dx)
 refine⟨⟨pa.n,dH pa.p (show(76:Nat)≠116 by decide),⟨dH pa.m.q (show(73:Nat)≠116 by decide),dH pa.m.b (show(73:Nat)≠116 by decide),?_,by simp[pa.m.len],fun j e i h1 h2=>?_,pa.m.nd,pa.m.qb⟩⟩,TW.jm hf (pa.n.2.2.2.2 id (zP hi)) hid rfl rfl⟩
 ·simp only
  rw[Ag hn]
  exact dH pa.m.g (show(74:Nat)≠116 by decide)
 ·simp only at h1
  rw[getElem?_modify']at h1
  have kp:∀{x:AV}{l:List ByteArray},cl iL 1 9 h x l->cl iL 1 9 h' x l:=fun hs=>by
   rcases hs with hs |⟨i,h3,h4⟩
   ·exact .inl hs
   ·exact .inr ⟨i,h3,dH h4 (show(9:Nat)≠116 by decide)⟩
  by_cases hk:k=j
  ·subst hk
   rw[zX rfl,hd]at h1
   cases h1
   rw[hi]at h2;cases h2
   exact⟨xp,ho,by rw[hpr];exact kp hp⟩
  ·rw[zW hk]at h1
   obtain⟨x2,h3,h4⟩:=pa.m.d j e i h1 h2
   have dx:i≠id:=fun e=>by
    subst e
    exact hk (Ni pa.m.nd hi h2)
   exact⟨x2,hf.obj h3 dx,kp h4⟩
end
section
variable {W:Nat->Prop} {QR QN:VK} {QE:Nat->VK} {QP:AV->AH->Prop} {h:AH} {n0 p vr:Nat} {xr x2:AV} {bk:Bk} {ids:List Nat} {qm bm gm:Nat} {pl:Int} {y:Row×AV} {own:Option Nat} {dp:Int}
theorem Sx(hM:∀id,TW TP n0 h id->W id)(pa:PA n0 h p xr bk ids qm bm gm pl)(ho:nw ids own x2)(wG:0<=dp/\dp<=1000)
  (he:own.isSome=true/\32<dp+1->QR [I 102] h)
  (hk:¬(own.isSome=true/\32<dp+1)->∀h',PA n0 h' p xr (kD bk own (dp+1)) ids qm bm gm pl->Fr h h' (TW TP n0 h)->QR [I 0] h'):c7.n7 W QR QN QE QP x2 (I dp) h:=by
 have w1:IntKind.i64.wrap (dp+1)=dp+1:=aR (by omega) (by omega)
 rcases ho.cases pa.m with⟨e1,e2,rfl⟩ |⟨k,id,d,e1,e2,o8,rh,rfl,xp,od,hp⟩
 ·subst e1
  simp only[c7.n7,ai,r9,zH,c7.n6,al,zE,zD,zC,c7.n1]
  exact hk (fun h=>by cases h.1) h pa (TW.aU Fr.refl)
 ·subst e1
  simp only[c7.n7,ai,r9,zH,c7.n6,al,zD,zF,zC,zI,c7.n5,w1]
  by_cases k1:32<dp+1
  ·simp only[gt_iff_lt,zL k1,c7.n4,al,zD,zF,zC,zI,c7.n3]
   exact he ⟨rfl,k1⟩
  ·simp only[gt_iff_lt,zK k1,c7.n4,al,zE,zD,zC,zH,c7.n2,aC,aj,au,od,ap,zG,zA,zB,aa,aZ,w1,rL,aE,dt,bz]
   have NQ:=pa.n.2.2.2.2 id (zP rh)
   refine⟨⟨hM id ⟨NQ,_,od,rfl,rfl⟩,rfl,rfl,by simp⟩,?_⟩
   have abu:(if d.depth<dp+1 then dp+1 else d.depth)=max d.depth (dp+1):=by
    by_cases hh:d.depth<dp+1
    ·rw[zX hh];omega
    ·rw[zW hh];omega
   simp only[zE,if_false,abu,c7.n1]
   have f1:Fr h (h.put id 4 [I (max d.depth (dp+1))]) (·=id):=Fr.refl.put (.inl rfl)
   have o1:=dz (off:=4) (cs:=[I (max d.depth (dp+1))]) od
   generalize h.put id 4 [I (max d.depth (dp+1))]=h1 at *
   obtain⟨me,fz⟩:=pa.Ap (f:=fun d=>{ d with depth:=max d.depth (dp+1) }) o8 rh hp (fun _=>rfl) rfl o1 f1
   exact hk (fun h=>k1 h.2) h1 me fz
theorem Sw(hW:∀id,h.next<=id->W id)(hM:∀id,TW TP n0 h id->W id)(pa:PA n0 h p xr bk ids qm bm gm pl)(ho:nw ids own x2)(bO:h.obj vr=some (aP (az y) 6 87))(ha:cK Arg.enc 2 92 h y.2 y.1.args)(hl:y.1.args.length<=100000000)
  (iw:∀d∈bk.ds,d.params.length<=100000000) {n:Int} (wG:0<=dp/\dp<=1000)
  (he:∀e h',(if n=0 then Except.error 80 else if (y.1.args.length:Int)≠n then .error 111 else if gq (fh bk (gV bk own)) y.1.args≠0 then .error (gq (fh bk (gV bk own)) y.1.args) else if uy y.1.args then .error 113 else if own.isSome=true/\32<dp+1 then .error 102 else .ok (kD bk own (dp+1)):Er Bk)=.error e->Fr h h' (fun _=>False)->QR [I e] h')
  (hk:∀bN h',(if n=0 then Except.error 80 else if (y.1.args.length:Int)≠n then .error 111 else if gq (fh bk (gV bk own)) y.1.args≠0 then .error (gq (fh bk (gV bk own)) y.1.args) else if uy y.1.args then .error 113 else if own.isSome=true/\32<dp+1 then .error 102 else .ok (kD bk own (dp+1)):Er Bk)=.ok bN->PA n0 h' p xr bN ids qm bm gm pl->Fr h h' (TW TP n0 h)->QR [I 0] h') :
  c7.fC W QR QN QE QP (.ptr p 0) x2 (.ptr vr 0) (I n) (I dp) h:=by
 unfold c7.fC
 simp only[eG]
 by_cases k1:n=0
 ·have:=he 80 h (by rw[zX k1]) Fr.refl
  simpa[c7.fZ,c7.gf,k1] using this
 rw[zW k1]at he hk
 have eI:(n==0)=false:=by simpa using k1
 simp only[eI,c7.fZ,al,zE,zD,zC,zH,c7.e_,aj,au,bO,ap,zG,az,zA,zB,aa,ha.len.1,ha.len.2,cq,qt]
 by_cases k2:(y.1.args.length:Int)=n
 ·rw[zW (by simpa using k2)]at he hk
  simp only[zL k2,zS,c7.fQ,al,zE,zD,zC,zH]
  refine O3 hW pa ho bO ha hl iw ?_ ?_
  ·intro h0 h1 f1
   exact he _ h1 (by rw[zX h0]) f1
  ·intro h0 h1 f1
   rw[zW (by simpa using h0)]at he hk
   refine Sy (fun id hid=>hW id (zR f1.next hid)) (f1.bU bO) (ha.ba f1) hl ?_ ?_
   ·intro hx h2 f2
    exact he _ h2 (by rw[zX hx]) (f1.cj f2)
   ·intro hx h2 f2
    rw[zW (by rw[hx];decide)]at he hk
    have bX:=f1.cj f2
    have back:∀id,TW TP n0 h2 id->W id:=fun id hid=>(TW.back (TW.aU bX) hid).elim (hM id) (hW id)
    refine Sx back (pa.ba bX) ho wG ?_ ?_
    ·intro hc
     exact he _ h2 (by rw[zX hc]) bX
    ·intro hc h3 Bu f3
     exact hk _ h3 (by rw[zW hc]) Bu (TW.trans (TW.aU bX) f3)
 ·have:=he 111 h (by rw[zX k2]) Fr.refl
  simpa[k2,c7.fQ,c7.fk] using this
theorem O2(hW:∀id,h.next<=id->W id)(hM:∀id,TW TP n0 h id->W id)(pa:PA n0 h p xr bk ids qm bm gm pl)(ho:nw ids own x2)(bO:h.obj vr=some (aP (az y) 6 87))(ha:cK Arg.enc 2 92 h y.2 y.1.args)(hl:y.1.args.length<=100000000)
  (iw:∀d∈bk.ds,d.params.length<=100000000/\0<=d.depth/\d.depth<=100)
  (he:∀e h',mF bk own y.1.name=false->kM bk own y.1=.error e->Fr h h' (fun _=>False)->QR [I e] h')
  (hk:∀bN h',mF bk own y.1.name=false->kM bk own y.1=.ok bN->PA n0 h' p xr bN ids qm bm gm pl->Fr h h' (TW TP n0 h)->QR [I 0] h') (oD:mF bk own y.1.name=false):c7.mh W QR QN QE QP (.ptr p 0) x2 (.ptr vr 0) h:=by
 unfold c7.mh
 simp only[aj,au,bO,ap,zG,az,zA,zB,aa]
 refine⟨fun _=>False,fun _ h=>h.elim,AT fun h1 f1=>?_⟩
 have me:=pa.ba f1
 unfold c7.gQ
 simp only[aC,aj,au,me.p,f1.bU bO,ap,zG,az,zA,zB,aa]
 refine jo (enc:=Sb) kz z87 me.m.g fun _=>?_
 have zt:∀id,h1.next<=id->W id:=fun id hid=>hW id (zR f1.next hid)
 have tS:∀id,TW TP n0 h1 id->W id:=fun id hid=>(TW.back (TW.aU f1) hid).elim (hM id) (hW id)
 have ue:kM bk own y.1=(if (g_ bk y.1.name).1=0 then Except.error 80 else if (y.1.args.length:Int)≠(g_ bk y.1.name).1 then .error 111 else if gq (fh bk (gV bk own)) y.1.args≠0 then .error (gq (fh bk (gV bk own)) y.1.args) else if uy y.1.args then .error 113 else if own.isSome=true/\32<(g_ bk y.1.name).2+1 then .error 102 else .ok (kD bk own ((g_ bk y.1.name).2+1)):Er Bk):=by
  unfold kM;rw[oD];rfl
 rw[ue]at he hk
 have go:∀n dp:Int,g_ bk y.1.name=(n,dp)->0<=dp/\dp<=1000->c7.fC W QR QN QE QP (.ptr p 0) x2 (.ptr vr 0) (I n) (I dp) h1:=fun n dp hw hd=>by
  rw[hw]at he hk
  exact Sw zt tS me ho (f1.bU bO) (ha.ba f1) hl (fun d hd=>(iw d hd).1) hd (fun e h' h2 f2=>he e h' oD h2 (f1.cj f2)) (fun bN h' h2 eQ f2=>hk bN h' oD h2 eQ (TW.trans (TW.aU f1) f2))
 unfold g_ at go
 rcases oN (n:=y.1.name) me.m.len with⟨e1,e2⟩ |⟨k,d,id,e1,e2,o8,rh⟩
 ·rw[e2]at go
  rw[e1]
  simp only[im,zV,dE,zA,zB,aa,c7.jH,c7.lc,cA,zE,zC,zD,zH,zS,c7.gI,bK,if_false,c7.jd,al]
  exact go _ _ rfl (by omega)
 ·rw[e2]at go
  rw[e1]
  obtain⟨xp,od,hp⟩:=me.m.d k d id o8 rh
  have hd:=iw d (zP o8)
  simp only[im,zV,dE,zA,zB,aa,c7.jH,c7.lc,cA,zD,zS,zF,zC,zI,aC,aj,au,od,ap,zG,c7.gI,bK,c7.jd]
  cases XS:d.whole with
  |true=>
   simp only[XS,zV]at go
   simp only[al,zD,zF,zC,zI,aC,aj,au,od,ap,zG,zA,zB,aa,hp.dr.len.1,hp.dr.len.2,zH]
   exact go _ _ rfl (by omega)
  |false=>
   simp only[XS,zE,if_false]at go
   simp only[al,zE,zD,zC,zH]
   exact go _ _ rfl (by omega)
end
section
variable {h:AH} {M:Nat->Prop} {R:AE->AH->Prop} {n0 p:Nat} {xr x2:AV} {bk:Bk} {ids:List Nat} {qm bm gm:Nat} {pl:Int} {own:Option Nat}
theorem Tl{y:Row×AV}(pa:PA n0 h p xr bk ids qm bm gm pl)(ho:nw ids own x2)(ha:cK Arg.enc 2 92 h y.2 y.1.args)(hl:y.1.args.length<=100000000)
  (iw:∀d∈bk.ds,d.params.length<=100000000/\0<=d.depth/\d.depth<=100) (hM:∀id,TW TP n0 h id->M id)
  (he:∀e h',kM bk own y.1=.error e->Fr h h' (fun _=>False)->R (.ret (I e)) h')
  (hk:∀bN h',kM bk own y.1=.ok bN->PA n0 h' p xr bN ids qm bm gm pl->Fr h h' (TW TP n0 h)->R (.ret (I 0)) h') :
  aA Pg 87 [.ptr p 0,.agg (az y),x2] h M R:=by
 apply c7.aM
 unfold c7.uM
 refine dV (qw ha) fun vr h1 f1 jp bO=>?_
 have me:=pa.ba f1
 have zt:∀id,h1.next<=id->(M id\/h.next<=id):=fun id hid=>.inr (zR f1.next hid)
 have tS:∀id,TW TP n0 h1 id->(M id\/h.next<=id):=fun id hid=>(TW.back (TW.aU f1) hid).elim (fun h=>.inl (hM id h)) .inr
 have go:mF bk own y.1.name=false->c7.mh (fun id=>M id\/h.next<=id) (aJ Pg [.tmp 6] R) (aJ Pg [.tmp 6] R) (fun _ _ _=>False) (fun v h=>R (.bW v) h) (.ptr p 0) x2 (.ptr vr 0) h1:=fun oD=>
  O2 zt tS me ho bO (ha.ba f1) hl iw (fun e h' _ h2 f2=>by simpa using he e h' h2 (f1.cj f2)) (fun bN h' _ h2 eQ f2=>by simpa using hk bN h' h2 eQ (TW.trans (TW.aU f1) f2)) oD
 unfold c7.rM
 rcases ho.cases me.m with⟨e1,e2,rfl⟩ |⟨k,id,d,e1,e2,o8,rh,rfl,xp,od,hp⟩
 ·simp only[ai,r9,zH,c7.nL,cA,zE,zS,zC,zD,c7.jW,bK,if_false,c7.oV,al]
  exact go (by unfold mF;rw[e2])
 ·by_cases k1:y.1.name=d.name
  ·have:=he 114 h1 (by unfold kM mF;rw[e2];simp[k1]) f1
   simp only[ai,r9,zH,c7.nL,cA,zS,zD,zF,zC,zI,aj,au,bO,ap,zG,az,zA,zB,aa,aC,od,zL k1,c7.jW,bK,zV,c7.oV,al,c7.pr]
   simpa using this
  ·simp only[ai,r9,zH,c7.nL,cA,zS,zD,zF,zC,zI,aj,au,bO,ap,zG,az,zA,zB,aa,aC,od,zK k1,c7.jW,bK,zV,c7.oV,al,zE]
   exact go (by unfold mF;rw[e2];simpa using k1)
end
end
section
open Go.Ab
attribute [-simp] aV aE
theorem qn{t:TypeId}{c:Bool}{k k':IntKind}{a b:Int}{K:AV->Prop}:ai Pg .shl t c (.sc (.int k a)) (.sc (.int k' b)) K=(0<=b/\K (.sc (.int k (k.wrap (a*2^(min b.toNat k.bits)))))):=rfl
structure yE (bk:Bk):Prop where
 tq:0<=aK bk.qs/\aK bk.qs<=64
 tb:0<=aK bk.bs/\aK bk.bs<=64
 sq:∀r∈bk.qs,1<=r.size/\0<=r.from_/\r.from_+r.size<=aK bk.qs
 sb:∀r∈bk.bs,1<=r.size/\0<=r.from_/\r.from_+r.size<=aK bk.bs
 ds:∀d∈bk.ds,d.params.length<=100000000/\0<=d.depth/\d.depth<=100/\0<=d.ops/\d.ops<=4097
theorem yE.d3{bk:Bk}(a:yE bk):∀d∈bk.ds,d.params.length<=100000000/\0<=d.depth/\d.depth<=100:=fun d hd=>⟨(a.ds d hd).1,(a.ds d hd).2.1,(a.ds d hd).2.2.1⟩
section
variable {W:Nat->Prop} {QR QN:VK} {QE:Nat->VK} {QP:AV->AH->Prop} {h:AH} {n0 p vr:Nat} {xr x3:AV} {bk:Bk} {ids:List Nat} {qm bm gm:Nat} {pl i:Int} {y:Row×AV} {own:Option Nat}
structure tg (W:Nat->Prop) (QR:VK) (h:AH) (n0 p:Nat) (xr:AV) (bk:Bk) (ids:List Nat) (qm bm gm:Nat) (pl:Int) (own:Option Nat) (x3:AV) (y:Row×AV) (vr:Nat) (res:Er Bk):Prop where
 pa:PA n0 h p xr bk ids qm bm gm pl
 ok:yE bk
 ow:nw ids own x3
 bO:h.obj vr=some (aP (az y) 6 87)
 ha:cK Arg.enc 2 92 h y.2 y.1.args
 hl:y.1.args.length<=100000000
 hW:∀id,h.next<=id->W id
 hM:∀id,TW TP n0 h id->W id
 he:∀e h',res=.error e->Fr h h' (fun _=>False)->QR [I e] h'
 hk:∀bN vM h',res=.ok bN->PA n0 h' p xr bN vM qm bm gm pl->(vM=ids\/∃id,vM=ids++[id])->Fr h h' (TW TP n0 h)->QR [I 0] h'
theorem Xl(k:tg W QR h n0 p xr bk ids qm bm gm pl own x3 y vr ((fK bk bk.qs 64 y.1).map fun l=>{ bk with qs:=l })):dh.n2 W QR QN QE QP (.ptr p 0) (.ptr vr 0) h:=by
 unfold dh.n2
 refine dW k.bO rfl fun _=>?_
 simp only[aC,aj,au,k.pa.p,ap,zG,Nat.add_zero,zA,zB,aa]
 refine⟨TW TP n0 h,fun id hs _=>k.hM id hs,L1 k.pa k.ha rfl k.ok.tq (fun _ h=>h) ?_ ?_⟩
 ·intro e h' h1 f1
  exact k.he e h' (by rw[h1];rfl) f1
 ·intro l' h' h1 Bv f1
  exact k.hk _ ids h' (by rw[h1];rfl) Bv (.inl rfl) f1
theorem Xp(k:tg W QR h n0 p xr bk ids qm bm gm pl own x3 y vr ((fK bk bk.bs 64 y.1).map fun l=>{ bk with bs:=l })):dh.n3 W QR QN QE QP (.ptr p 0) (.ptr vr 0) h:=by
 unfold dh.n3
 refine dW k.bO rfl fun _=>?_
 simp only[aC,aj,au,k.pa.p,ap,zG,Nat.add_zero,Nat.reduceAdd,zA,zB,aa]
 refine⟨TW TP n0 h,fun id hs _=>k.hM id hs,L2 k.pa k.ha rfl k.ok.tb (fun _ h=>h) ?_ ?_⟩
 ·intro e h' h1 f1
  exact k.he e h' (by rw[h1];rfl) f1
 ·intro l' h' h1 Bv f1
  exact k.hk _ ids h' (by rw[h1];rfl) Bv (.inl rfl) f1
theorem Xo(k:tg W QR h n0 p xr bk ids qm bm gm pl own x3 y vr (qy bk y.1 i))(hi:0<=i/\i<=1000000000)(hr:0<=y.1.rows/\y.1.rows<=1000000000):dh.n4 W QR QN QE QP (.ptr p 0) (I i) (.ptr vr 0) h:=by
 unfold dh.n4
 refine dW k.bO rfl fun _=>?_
 refine⟨TW TP n0 h,fun id hs _=>k.hM id hs,LZ k.pa k.ha k.hl hi hr (fun _ h=>h) k.he ?_⟩
 intro bN id h' h1 Bv f1
 exact k.hk _ _ h' h1 Bv (.inr ⟨id,rfl⟩) f1
theorem Xi(k:tg W QR h n0 p xr bk ids qm bm gm pl own x3 y vr (kM bk own y.1)):dh.cp W QR QN QE QP (.ptr p 0) x3 (.ptr vr 0) h:=by
 unfold dh.cp
 refine dW k.bO rfl fun _=>?_
 refine⟨TW TP n0 h,fun id hs _=>k.hM id hs,Tl k.pa k.ow k.ha k.hl k.ok.d3 (fun _ h=>h) k.he ?_⟩
 intro bN h' h1 Bv f1
 exact k.hk _ _ h' h1 Bv (.inl rfl) f1
theorem Pc(k:tg W QR h n0 p xr bk ids qm bm gm pl own x3 y vr (.ok bk)){h':AH}(f:Fr h h' fun _=>False):QR [I 0] h':=k.hk bk ids h' rfl (k.pa.ba f) (.inl rfl) (TW.aU f)
theorem Xk(k:tg W QR h n0 p xr bk ids qm bm gm pl own x3 y vr (if y.1.num<0 then .error 112 else .ok bk)):dh.n7 W QR QN QE QP (.ptr vr 0) h:=by
 simp only[dh.n7,aj,au,k.bO,ap,zG,az,zA,zB,aa,bc]
 by_cases h0:y.1.num<0
 ·have:=k.he 112 h (by rw[zX h0]) Fr.refl
  simp only[zL h0,dh.n6,al,zD,zF,zC,zI,dh.n5]
  exact this
 ·have:=k.hk bk ids h (by rw[zW h0]) k.pa (.inl rfl) (TW.aU Fr.refl)
  simp only[zK h0,dh.n6,al,zE,zD,zC,zH,dh.n1]
  exact this
theorem Xn(k:tg W QR h n0 p xr bk ids qm bm gm pl own x3 y vr (uQ bk y.1)):dh.ck W QR QN QE QP (.ptr p 0) (.ptr vr 0) h:=by
 unfold dh.ck
 simp only[aC,aj,au,k.pa.p,k.bO,ap,zG,az,zA,zB,aa]
 refine jo (enc:=Sb) kz z93 k.pa.m.b fun _=>?_
 rw[lY]
 have he:=k.he;have hk:=k.hk;have FN:=k.ok.sb
 unfold uQ at he hk
 cases hr:eF bk.bs y.1.name with
 |none=>
  rw[hr]at he
  simp only[Option.map_none,im,zV,dE,zA,zB,aa]
  refine jt (cs:=[I 0,I 0]) rfl rfl rfl rfl k.hW fun v1 h2 f2 _ _=>?_
  have:=he 110 h2 rfl f2
  simpa[dh.b5,dh.bR,dh.bV] using this
 |some g=>
  rw[hr]at he hk
  simp only at he hk
  have hg:=FN g (List.mem_of_find?_eq_some hr)
  simp only[yB,im,zV,vR,dE,zA,zB,aa]
  refine jt (cs:=[I g.from_,I g.size]) rfl rfl rfl rfl k.hW fun v1 h2 f2 _ ov=>?_
  have jV:=f2.bU k.bO
  have eQ:=k.pa.ba f2
  simp only[dh.b5,dA,zS,dh.bR,al,zE,zD,zC,zH]
  by_cases k1:y.1.num<0
  ·have:=he 112 h2 (by rw[zX (.inl k1)]) f2
   simpa[dh.bP,dh.bH,jV,az,k1] using this
  ·by_cases k2:g.size<63
   ·have hp:IntKind.i64.wrap (1*2^(min g.size.toNat IntKind.i64.bits))=2^g.size.toNat:=by
     have e:IntKind.i64.bits=64:=rfl
     rw[e,Nat.min_eq_left (by omega),Int.one_mul]
     have h1:(2:Int)^g.size.toNat=((2^g.size.toNat:Nat):Int):=by simp
     have h2:2^g.size.toNat<=2^62:=Nat.pow_le_pow_right (by decide) (by omega)
     have hP:∀P:Nat,P<=2^62->IntKind.i64.wrap (P:Int)=P:=fun P h=>aR (by omega) (by omega)
     rw[h1]
     exact hP _ h2
    have k0:0<=g.size:=by omega
    simp only[dh.bP,aj,au,jV,ov,ap,zG,az,zA,zB,aa,bc,zK k1,dh.bH,cA,zT,zS,zE,zF,zD,zC,zI,zL k2,dh.a_,qn,k0,zH,hp,iU,ge_iff_le]
    by_cases k3:2^g.size.toNat<=y.1.num
    ·have:=he 112 h2 (by rw[zX (.inr ⟨k2,k3⟩)]) f2
     simp only[zL k3,dh.bj,cA,zT,zE,zD,zC,zI,bK,zV,dh.aS,if_false,dh.n9,al,zF,dh.n8]
     exact this
    ·have:=hk bk ids h2 (by rw[zW (fun h=>h.elim k1 (fun h=>k3 h.2))]) eQ (.inl rfl) (TW.aU f2)
     simp only[zK k3,dh.bj,cA,zT,zE,zD,zC,zI,zH,bK,zV,dh.aS,if_false,dh.n9,al,zF,dh.n1]
     exact this
   ·have:=hk bk ids h2 (by rw[zW (fun h=>h.elim k1 (fun h=>k2 h.1))]) eQ (.inl rfl) (TW.aU f2)
    simp[dh.bP,dh.bH,dh.a_,dh.bj,dh.aS,dh.n9,dh.n1,jV,ov,az,k1,k2]
    exact this
theorem Ha{h1:AH}{res:Er Bk}(k:tg W QR h n0 p xr bk ids qm bm gm pl own x3 y vr res)(f1:Fr h h1 fun _=>False){e:Int}(hr:res=lF e bk):QR [I e] h1:=by
 unfold lF at hr
 by_cases h0:e=0
 ·rw[zW (by simpa using h0)]at hr
  rw[h0]
  exact k.hk bk ids h1 hr (k.pa.ba f1) (.inl rfl) (TW.aU f1)
 ·rw[zX h0]at hr
  exact k.he e h1 hr f1
theorem Xj(k:tg W QR h n0 p xr bk ids qm bm gm pl own x3 y vr (mY bk y.1.args)):dh.dS W QR QN QE QP (.ptr p 0) (.ptr vr 0) h:=by
 have hk:=k
 simp only[dh.dS,aj,au,k.bO,ap,zG,az,zA,zB,aa,k.ha.len.1,k.ha.len.2,zH,cq,qt]
 have hx:=k.ha
 cases ha:y.1.args with
 |nil=>
  rw[ha]at hk
  simpa[dh.dn,dh.cU] using hk.he 111 h rfl Fr.refl
 |cons a l=>
  cases l with
  |cons b l=>
   rw[ha]at hk
   have h1:¬(((a::b::l).length:Nat):Int)=1:=by simp only[List.length_cons];omega
   simp only[zK h1,zT,dh.dn,al,zD,zF,zC,zI,dh.cU]
   exact hk.he 111 h rfl Fr.refl
  |nil=>
   rw[ha]at hx hk
   have h1:(([a].length:Nat):Int)=1:=rfl
   simp only[zL h1,zS,dh.dn,al,zE,zD,zC,zH,dh.c9,aC,aj,au,k.pa.p,k.bO,ap,zG,az,zA,zB,aa]
   refine jG (i:=0) hx Arg.bu rfl fun _=>?_
   refine⟨fun _=>False,fun _ h=>h.elim,Ez k.pa.m.q fun h1 f1=>?_⟩
   exact Ha hk f1 rfl
theorem Xm(k:tg W QR h n0 p xr bk ids qm bm gm pl own x3 y vr (kT bk y.1.args)):dh.cB W QR QN QE QP (.ptr p 0) (.ptr vr 0) h:=by
 have hk:=k
 simp only[dh.cB,aj,au,k.bO,ap,zG,az,zA,zB,aa,k.ha.len.1,k.ha.len.2,zH,cq,qt]
 have hx:=k.ha
 have bad:y.1.args.length≠2->kT bk y.1.args=.error 111:=fun dx=>by
  unfold kT
  split
  ·rename_i h;rw[h]at dx;exact absurd rfl dx
  ·rfl
 by_cases hlen:y.1.args.length=2
 ·match ha:y.1.args,hlen with
  |[a,b],_=>
   rw[ha]at hx hk
   have h1:(([a,b].length:Nat):Int)=2:=rfl
   simp only[zL h1,zS,dh.cC,al,zE,zD,zC,zH,dh.cS,aC,aj,au,k.pa.p,k.bO,ap,zG,az,zA,zB,aa]
   refine jG (i:=0) hx Arg.bu rfl fun _=>?_
   refine⟨fun _=>False,fun _ h=>h.elim,Ez k.pa.m.q fun h1 f1=>?_⟩
   by_cases h0:gU bk.qs a=0
   ·have sU:(gU bk.qs a != 0)=false:=by simp[h0]
    have me:=k.pa.ba f1
    simp only[dh.cL,cq,sU,dh.cw,al,zE,zD,zC,zH,dh.cP,aC,aj,au,me.p,f1.bU k.bO,ap,zG,az,zA,zB,aa]
    refine jG (i:=1) (hx.ba f1) Arg.bu rfl fun _=>?_
    refine⟨fun _=>False,fun _ h=>h.elim,Ez me.m.b fun h2 f2=>?_⟩
    exact Ha hk (f1.cj f2) (by simp only[kT];rw[zW (by simpa using h0)])
   ·have sU:(gU bk.qs a != 0)=true:=by simp[h0]
    simp only[dh.cL,cq,sU,dh.cw,al,zD,zF,zC,zI,dh.cT]
    exact hk.he _ h1 (by simp only[kT];rw[zX h0]) f1
 ·have h1:¬((y.1.args.length:Nat):Int)=2:=by omega
  simp only[zK h1,zT,dh.cC,al,zD,zF,zC,zI,dh.cF]
  exact k.he 111 h (bad hlen) Fr.refl
theorem SH(k:tg W QR h n0 p xr bk ids qm bm gm pl own x3 y vr (fO bk own i y.1))(hi:0<=i/\i<=1000000000)(hr:0<=y.1.rows/\y.1.rows<=1000000000):dh.jH W QR QN QE QP (.ptr p 0) (I i) x3 (.ptr vr 0) h:=by
 simp only[dh.jH,aj,au,k.bO,ap,zG,az,zA,zB,aa]
 unfold fO at k
 have e1:(⟨#[113,117,98,105,116,115]⟩:ByteArray)=bF:=rfl
 have e2:(⟨#[98,105,116,115]⟩:ByteArray)=cE:=rfl
 have e3:(⟨#[103,97,116,101]⟩:ByteArray)=bD:=rfl
 have e4:(⟨#[114,101,112,101,97,116]⟩:ByteArray)=aT:=rfl
 have e5:(⟨#[105,102]⟩:ByteArray)=eZ:=rfl
 have e6:(⟨#[117,115,101]⟩:ByteArray)=cn:=rfl
 have e7:(⟨#[109,101,97,115,117,114,101]⟩:ByteArray)=bT:=rfl
 have e8:(⟨#[114,101,115,101,116]⟩:ByteArray)=cV:=rfl
 unfold dh.lc
 rw[br,e1]
 by_cases k1:y.1.kind=bF
 ·rw[zX k1]at k
  simp only[zL k1,dh.gI,al,zD,zF,zC,zI]
  exact Xl k
 rw[zW k1]at k
 simp only[zK k1,dh.gI,al,zE,zD,zC,zH,dh.jd,br,e2]
 by_cases k2:y.1.kind=cE
 ·rw[zX k2]at k
  simp only[zL k2,dh.fC,al,zD,zF,zC,zI]
  exact Xp k
 rw[zW k2]at k
 simp only[zK k2,dh.fC,al,zE,zD,zC,zH,dh.fZ,br,e3]
 by_cases k3:y.1.kind=bD
 ·rw[zX k3]at k
  simp only[zL k3,dh.gf,al,zD,zF,zC,zI]
  exact Xo k hi hr
 rw[zW k3]at k
 simp only[zK k3,dh.gf,al,zE,zD,zC,zH,dh.e_,br,e4]
 by_cases k4:y.1.kind=aT
 ·rw[zX k4]at k
  simp only[zL k4,dh.fQ,al,zD,zF,zC,zI]
  exact Xk k
 rw[zW k4]at k
 simp only[zK k4,dh.fQ,al,zE,zD,zC,zH,dh.fk,br,e5]
 by_cases k5:y.1.kind=eZ
 ·rw[zX k5]at k
  simp only[zL k5,dh.fL,al,zD,zF,zC,zI]
  exact Xn k
 rw[zW k5]at k
 simp only[zK k5,dh.fL,al,zE,zD,zC,zH,dh.fD,br,e6]
 by_cases k6:y.1.kind=cn
 ·rw[zX k6]at k
  simp only[zL k6,dh.fu,al,zD,zF,zC,zI]
  exact Xi k
 rw[zW k6]at k
 simp only[zK k6,dh.fu,al,zE,zD,zC,zH,dh.fM,br,e7]
 by_cases k7:y.1.kind=bT
 ·rw[zX k7]at k
  simp only[zL k7,dh.fl,al,zD,zF,zC,zI]
  exact Xm k
 rw[zW k7]at k
 simp only[zK k7,dh.fl,al,zE,zD,zC,zH,dh.eC,br,e8]
 by_cases k8:y.1.kind=cV
 ·rw[zX k8]at k
  simp only[zL k8,dh.dZ,al,zD,zF,zC,zI]
  exact Xj k
 rw[zW k8]at k
 simp only[zK k8,dh.dZ,al,zE,zD,zC,zH,dh.n1]
 exact Pc k Fr.refl
end
section
variable {h:AH} {M:Nat->Prop} {R:AE->AH->Prop} {n0 p:Nat} {xr x3:AV} {bk:Bk} {ids:List Nat} {qm bm gm:Nat} {pl i:Int} {own:Option Nat}
theorem Tx{y:Row×AV}(pa:PA n0 h p xr bk ids qm bm gm pl)(ok:yE bk)(ho:nw ids own x3)(ha:cK Arg.enc 2 92 h y.2 y.1.args)(hl:y.1.args.length<=100000000)
  (hi:0<=i/\i<=1000000000) (hr:0<=y.1.rows/\y.1.rows<=1000000000) (hM:∀id,TW TP n0 h id->M id)
  (he:∀e h',fO bk own i y.1=.error e->Fr h h' (fun _=>False)->R (.ret (I e)) h')
  (hk:∀bN vM h',fO bk own i y.1=.ok bN->PA n0 h' p xr bN vM qm bm gm pl->(vM=ids\/∃id,vM=ids++[id])->Fr h h' (TW TP n0 h)->R (.ret (I 0)) h') :
  aA Pg 63 [.ptr p 0,.agg (az y),I i,x3] h M R:=by
 apply dh.aM
 unfold dh.gQ
 refine dV (qw ha) fun vr h1 f1 jp bO=>?_
 refine SH ⟨pa.ba f1,ok,ho,bO,ha.ba f1,hl,fun id hid=>.inr (zR f1.next hid),fun id hid=>(TW.back (TW.aU f1) hid).elim (fun h=>.inl (hM id h)) .inr,?_,?_⟩ hi hr
 ·intro e h' h1 f2
  simpa using he e h' h1 (f1.cj f2)
 ·intro bN vM h' h1 Bv h2 f2
  simpa using hk bN vM h' h1 Bv h2 (TW.trans (TW.aU f1) f2)
end
end
section
open Go.Ab
attribute [-simp] aV aE
section
variable {W:Nat->Prop} {QR QN:VK} {QE:Nat->VK} {QP:AV->AH->Prop} {h:AH} {n0 p vr:Nat} {xr x4:AV} {bk:Bk} {ids:List Nat} {qm bm gm:Nat} {pl deep behind:Int} {y:Row×AV} {own:Option Nat}
def Cf(r:Row)(deep:Int)(own:Bool):Int:=
 if 32<deep then 102
 else if decide (0<deep)&&qG r.kind then 100
 else if own&&!decide (r.kind=cn)&&!decide (r.kind=aT) then 100
 else 0
theorem SK{h':AH}(pm:PM h' bk ids qm bm gm)(bO:h.obj vr=some (aP (az y) 6 87))(ho:nw ids own x4)(hR:QR [I (if own.isSome&&!decide (y.1.kind=cn)&&!decide (y.1.kind=aT) then 100 else 0)] h):dP.bj W QR QN QE QP x4 (.ptr vr 0) h:=by
 have e6:(⟨#[117,115,101]⟩:ByteArray)=cn:=rfl
 have e4:(⟨#[114,101,112,101,97,116]⟩:ByteArray)=aT:=rfl
 rcases ho.cases pm with⟨e1,e2,rfl⟩ |⟨k,id,d,e1,e2,o8,rh,rfl,xp,od,hp⟩
 ·subst e1
  simp only[Option.isSome_none,Bool.false_and,zE,if_false]at hR
  simp only[dP.bj,ai,r9,zH,dP.aS,cA,zE,zS,zC,zD,dP.n9,bK,if_false,dP.n8,dP.n7,dP.n6,al,dP.n1]
  exact hR
 ·subst e1
  simp only[Option.isSome_some,Bool.true_and]at hR
  simp only[dP.bj,ai,r9,zH,dP.aS,cA,zS,zD,zF,zC,zI,aj,au,bO,ap,zG,az,zA,zB,aa,e6,dP.n9,bK,zV,dP.n8]
  by_cases k1:y.1.kind=cn
  ·simp[k1]at hR
   simpa[k1,dP.n7,dP.n6,dP.n1] using hR
  ·by_cases k2:y.1.kind=aT
   ·simp[k1,k2]at hR
    simpa[k1,k2,bO,az,e4,dP.n7,dP.n6,dP.n1] using hR
   ·simp[k1,k2]at hR
    simpa[k1,k2,bO,az,e4,dP.n7,dP.n6,dP.n5] using hR
theorem Pd{h':AH}(pm:PM h' bk ids qm bm gm)(bO:h.obj vr=some (aP (az y) 6 87))(ho:nw ids own x4)(hR:QR [I (Cf y.1 deep own.isSome)] h):dP.cT W QR QN QE QP (I deep) x4 (.ptr vr 0) h:=by
 unfold Cf at hR
 have e1:(⟨#[113,117,98,105,116,115]⟩:ByteArray)=bF:=rfl
 have e2:(⟨#[98,105,116,115]⟩:ByteArray)=cE:=rfl
 have e3:(⟨#[103,97,116,101]⟩:ByteArray)=bD:=rfl
 simp only[dP.cT,ft,gt_iff_lt]
 by_cases k1:32<deep
 ·simp[k1]at hR
  simpa[k1,dP.cP,dP.n3] using hR
 simp only[k1,if_false]at hR
 simp only[zK k1,dP.cP,al,zE,zD,zC,zH,dP.cp,ft,gt_iff_lt]
 have Zu:=SK (W:=W) (QR:=QR) (QN:=QN) (QE:=QE) (QP:=QP) pm bO ho
 have fin:∀b,b=(decide (0<deep)&&qG y.1.kind)->dP.a_ W QR QN QE QP x4 (.ptr vr 0) (B b) h:=fun b hb=>by
  rw[<-hb]at hR
  cases b with
  |true=>simpa[dP.a_,dP.n4] using hR
  |false=>
   simp only[dP.a_,al,zE,zD,zC,zH]
   exact Zu (by simpa using hR)
 have fin:=fin _ rfl
 unfold qG at fin
 by_cases k2:0<deep
 ·by_cases k3:y.1.kind=bF<;>by_cases k4:y.1.kind=cE<;>by_cases k5:y.1.kind=bD <;>
   simp[-dP.a_,k2,k3,k4,k5]at fin <;>
   simp[-dP.a_,k2,k3,k4,k5,dP.ck,dP.b5,dP.bR,dP.bV,dP.bP,dP.bH,bO,az,e1,e2,e3]<;>exact fin
 ·simp[-dP.a_,k2]at fin
  simpa[-dP.a_,k2,dP.ck,dP.b5,dP.bR,dP.bV,dP.bP,dP.bH] using fin
end
section
variable {h:AH} {M:Nat->Prop} {R:AE->AH->Prop} {n0 p:Nat} {xr x4 x0:AV} {bk:Bk} {ids:List Nat} {qm bm gm:Nat} {pl deep behind:Int} {own:Option Nat}
theorem Sd{y:Row×AV}(pm:PM h bk ids qm bm gm)(ha:cK Arg.enc 2 92 h y.2 y.1.args)(ho:nw ids own x4)
  (hR:∀h',Fr h h' (fun _=>False)->R (.ret (I (lj y.1 behind deep own.isSome))) h'):aA Pg 62 [x0,.agg (az y),I behind,I deep,x4] h M R:=by
 apply dP.aM
 unfold dP.dZ
 refine dV (qw ha) fun vr h1 f1 jp bO=>?_
 have pm1:=pm.ba f1
 simp only[dP.dS,aj,au,bO,ap,zG,az,zA,zB,aa]
 refine⟨fun _=>False,fun _ h=>h.elim,Nu ?_⟩
 have hb:lj y.1 behind deep own.isSome=if !mi y.1.kind||(!kX y.1.kind&&y.1.rows != 0)||decide (y.1.rows<0)||decide (behind<y.1.rows) then 100 else Cf y.1 deep own.isSome:=rfl
 have hR:=hR h1 f1
 rw[hb]at hR
 have fin:∀b,b=(!mi y.1.kind||(!kX y.1.kind&&y.1.rows != 0)||decide (y.1.rows<0)||decide (behind<y.1.rows))->dP.cw (fun id=>M id\/h.next<=id) (aJ Pg [.tmp 10] R) (aJ Pg [.tmp 10] R) (fun _ _ _=>False) (fun v h=>R (.bW v) h) (I deep) x4 (.ptr vr 0) (B b) h1:=fun b hb=>by
  rw[<-hb]at hR
  cases b with
  |true=>simpa[dP.cw,dP.n2] using hR
  |false=>
   simp only[dP.cw,al,zE,zD,zC,zH]
   exact Pd pm1 bO ho (by simpa using hR)
 have fin:=fin _ rfl
 cases kn:mi y.1.kind with
 |false=>
  simp[-dP.cw,kn]at fin
  simpa[-dP.cw,kn,dP.dn,dP.cU,dP.c9,dP.cB,dP.cC,dP.cF,dP.cS,dP.cL] using fin
 |true=>
  simp only[dA,zS,dP.dn,cA,zE,zT,zD,zF,zC,zI,aj,au,bO,ap,zG,az,zA,zB,aa]
  refine⟨fun _=>False,fun _ h=>h.elim,Eh ?_⟩
  cases bo:kX y.1.kind<;>cases k0:(y.1.rows != 0)<;>by_cases k1:y.1.rows<0<;>by_cases k2:behind<y.1.rows <;>
   simp[-dP.cw,kn,bo,k0,k1,k2]at fin <;>
   simp[-dP.cw,bO,az,k0,k1,k2,dP.cU,dP.c9,dP.cB,dP.cC,dP.cF,dP.cS,dP.cL]<;>exact fin
end
end
section
open Go.Ab
attribute [-simp] aV aE
def sg(rs:List (Row×AV))(a n:Nat):List Row:=((rs.drop a).take n).map (·.1)
theorem vq{rs:List (Row×AV)}{a:Nat}:sg rs a 0=[]:=rfl
theorem xj{rs:List (Row×AV)}{a n:Nat}{y:Row×AV}(h:rs[a]?=some y):sg rs a (n+1)=y.1::sg rs (a+1) n:=by
 obtain⟨h1,h2⟩:=zM.1 h
 unfold sg
 rw[List.drop_eq_getElem_cons h1,h2,List.take_succ_cons,List.map_cons]
theorem jR{rs:List (Row×AV)}{a n k:Nat}(h:k<=n):(sg rs a n).take k=sg rs a k:=by
 unfold sg
 rw[<-List.map_take,List.take_take,Nat.min_eq_left h]
theorem jS{rs:List (Row×AV)}{a n k:Nat}:(sg rs a n).drop k=sg rs (a+k) (n-k):=by
 unfold sg
 rw[<-List.map_drop,List.drop_take,List.drop_drop]
theorem qX{rs:List (Row×AV)}{a n:Nat}(h:a+n<=rs.length):(sg rs a n).length=n:=by
 unfold sg
 rw[zZ,yA,List.length_drop];omega
inductive pQ:List Row->Prop
 |nil:pQ []
 |cons {r:Row} {l:List Row} (h0:0<=r.rows) (h1:r.rows<=l.length) (h2:r.kind=aT->0<=r.num) (h3:pQ (l.take r.rows.toNat)) (h4:pQ (l.drop r.rows.toNat)):pQ (r::l)
theorem pQ.inv{r:Row}{l:List Row}(h:pQ (r::l)):(0<=r.rows/\r.rows<=l.length)/\(r.kind=aT->0<=r.num)/\pQ (l.take r.rows.toNat)/\pQ (l.drop r.rows.toNat):=by
 cases h with |cons h0 h1 h2 h3 h4=>exact⟨⟨h0,h1⟩,h2,h3,h4⟩
def iY(ds:List bS)(r:Row)(c:Int):Int:=if r.kind=aT then(if 0<c then min r.num 4097*c else c) else match eB ds r.name with |some d=>d.ops |none=>1
theorem countP_nil{ds:List bS}{n:Int}:countP ds [] n=n:=by rw[countP]
theorem countP_cons{ds:List bS}{n:Int}{r:Row}{l:List Row}:countP ds (r::l) n=countP ds (l.drop r.rows.toNat) (min (n+iY ds r (countP ds (l.take r.rows.toNat) 0)) 4097):=by rw[countP];rfl
theorem Fx{a b:Int}(h1:0<=a)(h2:a<=4097)(h3:0<=b)(h4:b<=4097):0<=a*b/\a*b<=16785409:=⟨Int.mul_nonneg h1 h3,Int.le_trans (Int.mul_le_mul h2 h4 h3 (by omega)) (by decide)⟩
theorem yi{ds:List bS}{r:Row}{c:Int}(hd:∀d∈ds,0<=d.ops/\d.ops<=4097)(hc:0<=c/\c<=4097)(hr:r.kind=aT->0<=r.num):0<=iY ds r c/\iY ds r c<=16785409:=by
 unfold iY
 by_cases k:r.kind=aT
 ·rw[zX k]
  have hn:=hr k
  split
  ·have:=Fx (a:=min r.num 4097) (b:=c) (by omega) (by omega) hc.1 hc.2
   exact this
  ·omega
 ·rw[zW k]
  split
  ·rename_i d tQ
   have:=hd d (List.mem_of_find?_eq_some tQ)
   omega
  ·omega
theorem rm{ds:List bS}(hd:∀d∈ds,0<=d.ops/\d.ops<=4097){l:List Row}(hs:pQ l):∀n:Int,0<=n/\n<=4097->0<=countP ds l n/\countP ds l n<=4097:=by
 induction hs with
 |nil=>intro n h;rw[countP_nil];exact h
 |cons h0 h1 h2 h3 h4 Ur Uq=>
  intro n hn
  rw[countP_cons]
  have:=yi hd (Ur 0 (by omega)) h2
  exact Uq _ (by omega)
structure RT (h:AH) (xr:AV) (rs:List (Row×AV)):Prop where
 r:cK az 6 87 h xr rs
 a:∀y∈rs,cK Arg.enc 2 92 h y.2 y.1.args/\y.1.args.length<=100000000
 n:rs.length<=100000000
theorem RT.ba{h h':AH}{xr:AV}{rs:List (Row×AV)}(a:RT h xr rs)(f:Fr h h' fun _=>False):RT h' xr rs:=⟨a.r.ba f,fun y hy=>⟨(a.a y hy).1.ba f,(a.a y hy).2⟩,a.n⟩
theorem RT.pM{h h':AH}{xr:AV}{rs:List (Row×AV)}{n0:Nat}(a:RT h xr rs)(f:Fr h h' (TW TP n0 h)):RT h' xr rs:=⟨a.r.pM f rfl,fun y hy=>⟨(a.a y hy).1.pM f rfl,(a.a y hy).2⟩,a.n⟩
theorem RT.one{h:AH}{xr:AV}{rs:List (Row×AV)}(a:RT h xr rs){y:Row×AV}{i:Nat}(hy:rs[i]?=some y):(az y).all cR=true:=qw (a.a y (zP hy)).1
section
variable {M:Nat->Prop} {R:AE->AH->Prop} {p:Nat} {xr:AV} {bk:Bk} {ids:List Nat} {qm bm gm:Nat} {pl:Int} {rs:List (Row×AV)}
structure MD (h:AH) (p:Nat) (xr:AV) (rs:List (Row×AV)) (bk:Bk) (ids:List Nat) (qm bm gm:Nat):Prop where
 p:∃cs,h.obj p=some (aP cs 9 76)/\cs[0]?=some xr/\cs[3]?=some (.mp gm)
 r:RT h xr rs
 m:PM h bk ids qm bm gm
theorem MD.ba{h h':AH}(a:MD h p xr rs bk ids qm bm gm)(f:Fr h h' fun _=>False):MD h' p xr rs bk ids qm bm gm:=by
 obtain⟨cs,h1,h2⟩:=a.p
 exact⟨⟨cs,f.bU h1,h2⟩,a.r.ba f,a.m.ba f⟩
theorem OH(hd:∀d∈bk.ds,0<=d.ops/\d.ops<=4097)(n:Nat):∀{h:AH}{M:Nat->Prop}{R:AE->AH->Prop}{a:Nat}(_:MD h p xr rs bk ids qm bm gm)(_:a+n<=rs.length)(_:pQ (sg rs a n))
  (_:∀h',Fr h h' (fun _=>False)->R (.ret (I (countP bk.ds (sg rs a n) 0))) h'),aA Pg 64 [.ptr p 0,I a,I (a+n)] h M R:=by
 induction n using Nat.strongRecOn with
 |ind n ih=>
 intro h M R a hc hn hs hR
 apply kZ.aM
 unfold kZ.cp kZ.ck kZ.b5 kZ.bR
 have hlen:=hc.r.n
 refine cy (ι:=Nat×Int) (fun i v h'=>v=[.ptr p 0,I (a+n),I i.2,I (a+(n-i.1:Nat):Int)]/\i.1<=n/\(0<=i.2/\i.2<=4097)/\pQ (sg rs (a+(n-i.1)) i.1)/\countP bk.ds (sg rs (a+(n-i.1)) i.1) i.2=countP bk.ds (sg rs a n) 0/\Fr h h' (fun _=>False)) (fun i=>i.1) (n,0) ⟨by simp,zU _,by omega,by simpa using hs,by simp,Fr.refl⟩ ?_
 rintro K ⟨m,acc⟩ v h1 ⟨rfl,hm,nW,gp,bq,f1⟩ step
 simp only at hm nW gp bq
 have B6:=hc.ba f1
 unfold kZ.cG
 simp only[zN,zO,kZ.bV,bc]
 cases m with
 |zero=>
  have e1:decide ((a:Int)+(n-0:Nat)<a+n)=false:=by simp
  rw[vq,countP_nil]at bq
  simp only[e1,kZ.bP,al,zE,zD,zC,zH,zV,kZ.n1,zN]
  rw[bq]
  simpa using hR h1 f1
 |succ m=>
  obtain⟨j,hj⟩:∃j,j=a+(n-(m+1)):=⟨_,rfl⟩
  have ej:(a:Int)+(n-(m+1):Nat)=(j:Int):=by omega
  have e1:decide ((j:Int)<a+n)=true:=by simp;omega
  rw[<-hj]at gp bq
  obtain⟨y,hy⟩:∃y,rs[j]?=some y:=⟨rs[j]'(by omega),zJ _⟩
  rw[xj hy]at gp bq
  rw[countP_cons]at bq
  obtain⟨⟨b0,b1⟩,b2,b3,b4⟩:=gp.inv
  rw[qX (by omega)]at b1
  obtain⟨k,hk⟩:∃k:Nat,y.1.rows=k:=⟨y.1.rows.toNat,by omega⟩
  have lQ:k<=m:=by omega
  rw[hk,zY,jR lQ]at b3
  rw[hk,zY,jS]at b4
  rw[hk,zY,jR lQ,jS]at bq
  obtain⟨cs,hp,c0,c3⟩:=B6.p
  simp only[e1,ej,kZ.bP,al,zD,zF,zC,zI,kZ.bH,aC,aj,au,hp,ap,zG,c0,aa]
  refine gD B6.r.r dT (B6.r.one hy) hy rfl rfl (fun id hid=>.inr (zR f1.next hid)) fun vr h2 f2 _ bO=>?_
  have bX:=f1.cj f2
  have p_:=B6.ba f2
  have D2:=rm hd b3 0 (by omega)
  have Lo:=yi (ds:=bk.ds) (r:=y.1) (c:=countP bk.ds (sg rs (j+1) k) 0) hd D2 b2
  have w1:∀x:Int,0<=x/\x<=1000000000->IntKind.i64.wrap x=x:=fun x hx=>aR (by omega) (by omega)
  have LO:∀x:Int,(if (4097:Int)<x then 4097 else x)=min x 4097:=fun x=>by split<;>omega
  have last:∀h3,Fr h h3 (fun _=>False)->kZ.n3 (fun id=>M id\/h.next<=id) (aJ Pg [.tmp 6] R) K (fun(i:Nat) (vs:List AV) (h:AH)=>if i=0 then kZ.n1 (fun id=>M id\/h.next<=id) (aJ Pg [.tmp 6] R) (aJ Pg [.tmp 6] R) (fun _ _ _=>False) (fun v h=>R (.bW v) h) (vs.getD 0 ab) h else False) (fun v h=>R (.bW v) h) (.ptr p 0) (I (a+n)) (I acc) (I j) (I (iY bk.ds y.1 (countP bk.ds (sg rs (j+1) k) 0))) h3:=fun h3 f3=>by
   obtain⟨cs3,BQ,VD,c33⟩:=(hc.ba f3).p
   simp only[kZ.n3,aZ,w1 (acc+iY bk.ds y.1 (countP bk.ds (sg rs (j+1) k) 0)) (by omega),rL,zH,zV,LO,kZ.n2,aC,aj,au,BQ,ap,zG,VD,aa]
   refine dJ (k:=4) (hc.ba f3).r.r dT hy (by omega) rfl fun _=>?_
   rw[hk]
   simp only[aZ,w1 (1+(k:Int)) (by omega),w1 ((j:Int)+(1+k)) (by omega)]
   refine step (m-k,min (acc+iY bk.ds y.1 (countP bk.ds (sg rs (j+1) k) 0)) 4097) _ h3 (by simp only;omega) ⟨?_,by simp only;omega,?_,?_,?_,f3⟩
   ·have e9:(j:Int)+(1+k)=a+(n-(m-k):Nat):=by omega
    rw[<-e9]
   ·simp only;omega
   ·have e8:j+1+k=a+(n-(m-k)):=by omega
    rw[e8]at b4;exact b4
   ·have e8:j+1+k=a+(n-(m-k)):=by omega
    rw[e8]at bq
    exact bq
  have e4:(⟨#[114,101,112,101,97,116]⟩:ByteArray)=aT:=rfl
  simp only[kZ.a_,kZ.bj,aj,au,bO,ap,zG,az,zA,zB,aa,br,e4]
  by_cases k1:y.1.kind=aT
  ·have sP:=b2 k1
   simp only[zL k1,kZ.aS,al,zD,zF,zC,zI,kZ.n6,aZ,aj,au,bO,ap,zG,az,zA,zB,aa,hk,w1 ((j:Int)+1) (by omega),w1 ((j:Int)+1+k) (by omega)]
   refine⟨fun _=>False,fun _ h=>h.elim,ih k (by omega) (a:=j+1) p_ (by omega) b3 fun h3 f3=>?_⟩
   have l3:=last h3 (bX.cj f3)
   unfold iY at l3
   rw[zX k1]at l3
   simp only[kZ.n5,ft,gt_iff_lt]
   by_cases k2:0<countP bk.ds (sg rs (j+1) k) 0
   ·rw[zX k2]at l3
    have pX:=Fx (a:=min y.1.num 4097) (by omega) (by omega) D2.1 D2.2
    simp only[zL k2,kZ.n4,al,zD,zF,zC,zI,aj,au,f3.bU bO,ap,zG,az,zA,zB,aa,rL,zH,zV,LO,Av,w1 (min y.1.num 4097*countP bk.ds (sg rs (j+1) k) 0) (by omega)]
    exact l3
   ·rw[zW k2]at l3
    simp only[zK k2,kZ.n4,al,zE,zD,zC,zH]
    exact l3
  ·have l2:=last h2 bX
   unfold iY at l2
   rw[zW k1]at l2
   obtain⟨cs2,rf,c20,Q2⟩:=p_.p
   simp only[zK k1,kZ.aS,al,zE,zD,zC,zH,kZ.n9,aC,aj,au,rf,bO,ap,zG,Q2,az,zA,zB,aa]
   refine jo (enc:=Sb) kz z87 p_.m.g fun _=>?_
   rcases oN (n:=y.1.name) p_.m.len with⟨e1,e2⟩ |⟨kk,d,id,e1,e2,o8,rh⟩
   ·rw[e2]at l2
    rw[e1]
    simp only[im,zV,dE,zA,zB,aa,kZ.n8,kZ.n7,al,zE,zD,zC,zH]
    exact l2
   ·rw[e2]at l2
    rw[e1]
    obtain⟨xp,od,_⟩:=p_.m.d kk d id o8 rh
    simp only[im,zV,dE,zA,zB,aa,kZ.n8,kZ.n7,al,zD,zF,zC,zI,aC,aj,au,od,ap,zG]
    exact l2
end
end
section
open Go.Ab
def nX(d:bS):ByteArray×List ByteArray×Int×Int:=(d.name,d.params,d.from_,d.Hv)
structure li (bk:Bk):Prop where
 ok:yE bk
 nd:(bk.ds.map (·.name)).Nodup
def iD(bk bN:Bk):Prop:=∃l,bN.ds.map nX=bk.ds.map nX++l
theorem iD.refl{bk:Bk}:iD bk bk:=⟨[],by simp⟩
theorem iD.trans{a b c:Bk}(h1:iD a b)(h2:iD b c):iD a c:=by
 obtain⟨l1,e1⟩:=h1
 obtain⟨l2,e2⟩:=h2
 exact⟨l1++l2,by rw[e2,e1,List.append_assoc]⟩
theorem iD.at_{a b:Bk}(h:iD a b){k:Nat}{d:bS}(hd:a.ds[k]?=some d):∃d',b.ds[k]?=some d'/\nX d'=nX d:=by
 obtain⟨l,e⟩:=h
 have h1:(b.ds.map nX)[k]?=some (nX d):=by
  rw[e,List.getElem?_append_left (by rw[zZ];exact(zM.1 hd).1),List.getElem?_map,hd];rfl
 rw[List.getElem?_map]at h1
 cases hb:b.ds[k]? with
 |none=>rw[hb]at h1;cases h1
 |some d'=>rw[hb]at h1;exact⟨d',rfl,Option.some.inj h1⟩
theorem BD{β:Type}{f:bS->bS}{g:bS->β}(hf:∀d,g (f d)=g d)(l:List bS)(k:Nat):(l.modify k f).map g=l.map g:=by
 induction l generalizing k with
 |nil=>simp
 |cons d l ih=>cases k with
  |zero=>simp[hf]
  |succ k=>simp[ih]
theorem mem_modify{f:bS->bS}{l:List bS}{k:Nat}{d:bS}(h:d∈l.modify k f):d∈l\/∃e∈l,d=f e:=by
 obtain⟨i,hi⟩:=List.mem_iff_getElem?.1 h
 rw[getElem?_modify']at hi
 by_cases hk:k=i
 ·rw[zX hk]at hi
  cases he:l[i]? with
  |none=>rw[he]at hi;cases hi
  |some e=>rw[he]at hi;exact .inr ⟨e,zP he,(Option.some.inj hi).symm⟩
 ·rw[zW hk]at hi
  exact .inl (zP hi)
theorem li.modify{bk:Bk}(a:li bk){k:Nat}{f:bS->bS}(hf:∀d,nX (f d)=nX d)(hd:∀d∈bk.ds,0<=(f d).depth/\(f d).depth<=100/\0<=(f d).ops/\(f d).ops<=4097):li { bk with ds:=bk.ds.modify k f }/\iD bk { bk with ds:=bk.ds.modify k f }:=by
 have hn:∀d,(f d).name=d.name:=fun d=>congrArg (·.1) (hf d)
 have hp:∀d,(f d).params=d.params:=fun d=>congrArg (·.2.1) (hf d)
 refine⟨⟨⟨a.ok.tq,a.ok.tb,a.ok.sq,a.ok.sb,fun d h=>?_⟩,?_⟩,[],?_⟩
 ·rcases mem_modify h with h1 |⟨e,h1,rfl⟩
  ·exact a.ok.ds d h1
  ·rw[hp];exact⟨(a.ok.ds e h1).1,hd e h1⟩
 ·simp only
  rw[BD hn];exact a.nd
 ·simp only[List.append_nil]
  rw[BD hf]
theorem M9{l:List gK}{n:ByteArray}{s:Int}(ht:0<=aK l)(h:∀r∈l,1<=r.size/\0<=r.from_/\r.from_+r.size<=aK l)(hs:1<=s):∀r∈l++[⟨n,aK l,s⟩],1<=r.size/\0<=r.from_/\r.from_+r.size<=aK (l++[⟨n,aK l,s⟩]):=by
 intro r hr
 rw[r0]
 rcases List.mem_append.1 hr with hr |hr
 ·have:=h r hr;simp only;omega
 ·have:=List.mem_singleton.1 hr
  subst this
  simp only;omega
theorem GM{bk:Bk}{l l':List gK}{r:Row}(ht:0<=aK l/\aK l<=64)(h:∀r∈l,1<=r.size/\0<=r.from_/\r.from_+r.size<=aK l)(hd:fK bk l 64 r=.ok l'):(0<=aK l'/\aK l'<=64)/\∀r∈l',1<=r.size/\0<=r.from_/\r.from_+r.size<=aK l':=by
 unfold fK at hd
 split at hd
 ·cases hd
 split at hd
 ·cases hd
 split at hd
 ·cases hd
 cases hd
 refine⟨?_,M9 ht.1 h (by omega)⟩
 rw[r0];simp only;omega
theorem sj{l:List bS}{n:ByteArray}(h:eB l n=none):∀d∈l,d.name≠n:=fun d hd he=>by
 unfold eB at h
 rw[List.find?_eq_none]at h
 exact h d hd (by simpa using he)
theorem Dt{bk:Bk}{n:ByteArray}(h:ia bk n=false):eF bk.qs n=none/\eF bk.bs n=none/\eB bk.ds n=none/\¬0<cf n:=by
 unfold ia at h
 simp only[Bool.or_eq_false_iff,decide_eq_false_iff_not]at h
 refine⟨?_,?_,?_,h.2⟩
 ·simpa using h.1.1.1
 ·simpa using h.1.1.2
 ·simpa using h.1.2
theorem Il{bk bN:Bk}{r:Row}{i:Int}(a:li bk)(hl:r.args.length<=100000000)(h:qy bk r i=.ok bN):li bN/\iD bk bN/\bN={ bk with ds:=bk.ds++[⟨r.name,r.args.map (·.name),i+1,i+1+r.rows,1,0,false⟩] }/\ia bk r.name=false:=by
 unfold qy at h
 split at h
 ·cases h
 rename_i ht
 split at h
 ·cases h
 split at h
 ·cases h
 split at h
 ·cases h
 cases h
 have ht:ia bk r.name=false:=by simpa using ht
 refine⟨⟨⟨a.ok.tq,a.ok.tb,a.ok.sq,a.ok.sb,fun d hd=>?_⟩,?_⟩,⟨_,List.map_append⟩,rfl,ht⟩
 ·rcases List.mem_append.1 hd with hd |hd
  ·exact a.ok.ds d hd
  ·have:=List.mem_singleton.1 hd
   subst this
   refine⟨by simpa using hl,?_⟩
   simp only;omega
 ·simp only[List.map_append,List.map_cons,List.map_nil]
  rw[List.nodup_append]
  refine⟨a.nd,by simp,fun x hx y hy=>?_⟩
  have hy:=List.mem_singleton.1 hy
  subst hy
  obtain⟨d,hd,rfl⟩:=List.mem_map.1 hx
  exact sj (Dt ht).2.2.1 d hd
theorem Rn{bk bN:Bk}{r:Row}{own:Option Nat}(a:li bk)(h:kM bk own r=.ok bN):li bN/\iD bk bN/\bN.ds.length=bk.ds.length:=by
 unfold kM at h
 split at h
 ·cases h
 split at h
 ·cases h
 split at h
 ·cases h
 split at h
 ·cases h
 split at h
 ·cases h
 split at h
 ·cases h
 rename_i hd
 cases h
 unfold kD
 cases own with
 |none=>exact⟨a,iD.refl,rfl⟩
 |some k=>
  simp only[Option.isSome_some,zH]at hd
  have:=a.modify (k:=k) (f:=fun d=>{ d with depth:=max d.depth ((g_ bk r.name).2+1) }) (fun _=>rfl) (fun d h=>by have:=a.ok.ds d h;simp only;omega)
  exact⟨this.1,this.2,by simp⟩
theorem oT{bk bN:Bk}{own:Option Nat}{i:Int}{r:Row}(a:li bk)(hl:r.args.length<=100000000)(h:fO bk own i r=.ok bN):li bN/\iD bk bN/\(r.kind=aT->0<=r.num)/\(r.kind≠bD->bN.ds.length=bk.ds.length) /\
  (r.kind=bD->bN={ bk with ds:=bk.ds++[⟨r.name,r.args.map (·.name),i+1,i+1+r.rows,1,0,false⟩] }):=by
 unfold fO at h
 have n1:bF≠aT:=by decide
 have n2:cE≠aT:=by decide
 have n3:bD≠aT:=by decide
 have m1:bF≠bD:=by decide
 have m2:cE≠bD:=by decide
 have same:∀e,lF e bk=.ok bN->bN=bk:=fun e h=>by
  unfold lF at h
  split at h<;>cases h
  rfl
 by_cases k1:r.kind=bF
 ·rw[zX k1]at h
  cases hd:fK bk bk.qs 64 r with
  |error e=>rw[hd]at h;cases h
  |ok l=>
   rw[hd]at h
   cases h
   obtain⟨h1,h2⟩:=GM a.ok.tq a.ok.sq hd
   exact⟨⟨⟨h1,a.ok.tb,h2,a.ok.sb,a.ok.ds⟩,a.nd⟩,⟨[],by simp⟩,fun e=>absurd (k1.symm.trans e) n1,fun _=>rfl,fun e=>absurd (k1.symm.trans e) m1⟩
 rw[zW k1]at h
 by_cases k2:r.kind=cE
 ·rw[zX k2]at h
  cases hd:fK bk bk.bs 64 r with
  |error e=>rw[hd]at h;cases h
  |ok l=>
   rw[hd]at h
   cases h
   obtain⟨h1,h2⟩:=GM a.ok.tb a.ok.sb hd
   exact⟨⟨⟨a.ok.tq,h1,a.ok.sq,h2,a.ok.ds⟩,a.nd⟩,⟨[],by simp⟩,fun e=>absurd (k2.symm.trans e) n2,fun _=>rfl,fun e=>absurd (k2.symm.trans e) m2⟩
 rw[zW k2]at h
 by_cases k3:r.kind=bD
 ·rw[zX k3]at h
  obtain⟨h1,h2,h3,_⟩:=Il a hl h
  exact⟨h1,h2,fun e=>absurd (k3.symm.trans e) n3,fun e=>absurd k3 e,fun _=>h3⟩
 rw[zW k3]at h
 have fin:bN=bk->(r.kind=aT->0<=r.num)->li bN/\iD bk bN/\(r.kind=aT->0<=r.num)/\(r.kind≠bD->bN.ds.length=bk.ds.length)/\(r.kind=bD->bN={ bk with ds:=bk.ds++[⟨r.name,r.args.map (·.name),i+1,i+1+r.rows,1,0,false⟩] }):=fun e hn=>by
  subst e
  exact⟨a,iD.refl,hn,fun _=>rfl,fun e=>absurd e k3⟩
 by_cases k4:r.kind=aT
 ·rw[zX k4]at h
  split at h
  ·cases h
  ·cases h
   exact fin rfl (fun _=>by omega)
 rw[zW k4]at h
 have FE:r.kind=aT->0<=r.num:=fun e=>absurd e k4
 by_cases k5:r.kind=eZ
 ·rw[zX k5]at h
  unfold uQ at h
  split at h
  ·cases h
  ·split at h
   ·cases h
   ·cases h
    exact fin rfl FE
 rw[zW k5]at h
 by_cases k6:r.kind=cn
 ·rw[zX k6]at h
  obtain⟨h1,h2,h3⟩:=Rn a h
  exact⟨h1,h2,FE,fun _=>h3,fun e=>absurd e k3⟩
 rw[zW k6]at h
 by_cases k7:r.kind=bT
 ·rw[zX k7]at h
  unfold kT at h
  split at h
  ·split at h
   ·cases h
   ·exact fin (same _ h) FE
  ·cases h
 rw[zW k7]at h
 by_cases k8:r.kind=cV
 ·rw[zX k8]at h
  unfold mY at h
  split at h
  ·exact fin (same _ h) FE
  ·cases h
 rw[zW k8]at h
 cases h
 exact fin rfl FE
theorem u6{r:Row}{behind deep:Int}{own:Bool}(h:lj r behind deep own=0):mi r.kind=true/\(kX r.kind=true\/r.rows=0)/\0<=r.rows/\r.rows<=behind/\deep<=32/\(0<deep->qG r.kind=false)/\(own=true->r.kind=cn\/r.kind=aT):=by
 unfold lj at h
 split at h
 ·cases h
 rename_i h1
 split at h
 ·cases h
 rename_i h2
 split at h
 ·cases h
 rename_i h3
 split at h
 ·cases h
 rename_i h4
 simp at h1 h3 h4
 refine⟨h1.1.1.1,?_,h1.1.2,h1.2,by omega,h3,fun ho=>?_⟩
 ·cases hb:kX r.kind with
  |true=>exact .inl rfl
  |false=>exact .inr (h1.1.1.2 hb)
 ·by_cases hu:r.kind=cn
  ·exact .inl hu
  ·exact .inr (h4 ho hu)
theorem jI{deep:Nat}{own:Option Nat}{i:Nat}{bk:Bk}:eM deep own i [] bk=.ok bk:=by rw[eM]
theorem kc{deep:Nat}{own:Option Nat}{i:Nat}{r:Row}{rest:List Row}{bk:Bk}:eM deep own i (r::rest) bk =
  if lj r rest.length deep own.isSome≠0 then .error (r.place,lj r rest.length deep own.isSome)
  else match fO bk own i r with
   |.error e=>.error (r.place,e)
   |.ok lS=>match eM (deep+1) (if r.kind=bD then some bk.ds.length else own) (i+1) (rest.take r.rows.toNat) lS with
    |.error e=>.error e
    |.ok fc=>eM deep own (i+1+r.rows.toNat) (rest.drop r.rows.toNat) (if r.kind=bD then{ fc with ds:=j7 fc.ds bk.ds.length (countP fc.ds (rest.take r.rows.toNat) 0) } else fc):=by
 conv=>lhs;rw[eM]
 all_goals rfl
theorem ua{bk:Bk}(a:li bk){k:Nat}{l:List Row}(hs:pQ l):li { bk with ds:=j7 bk.ds k (countP bk.ds l 0) }/\iD bk { bk with ds:=j7 bk.ds k (countP bk.ds l 0) }:=by
 have hb:=rm (ds:=bk.ds) (fun d hd=>(a.ok.ds d hd).2.2.2) hs 0 (by omega)
 exact a.modify (fun _=>rfl) (fun d hd=>by have:=a.ok.ds d hd;simp only;omega)
theorem qp(n:Nat):∀{deep:Nat}{own:Option Nat}{i:Nat}{rows:List Row}{bk bN:Bk}(_:rows.length=n)(_:∀r∈rows,r.args.length<=100000000)(_:li bk)(_:eM deep own i rows bk=.ok bN),li bN/\iD bk bN/\pQ rows:=by
 induction n using Nat.strongRecOn with
 |ind n ih=>
 intro deep own i rows bk bN hn hl a h
 cases rows with
 |nil=>rw[jI]at h;cases h;exact⟨a,iD.refl,.nil⟩
 |cons r rest=>
  rw[kc]at h
  split at h
  ·cases h
  rename_i hf
  obtain⟨_,_,f1,f2,_⟩:=u6 (Classical.not_not.1 hf)
  split at h
  ·cases h
  rename_i lS h1
  split at h
  ·cases h
  rename_i fc h2
  obtain⟨a1,x1,g1,g2,g3⟩:=oT a (hl r (List.mem_cons_self ..)) h1
  rw[List.length_cons]at hn
  obtain⟨a2,x2,s2⟩:=ih _ (by rw[yA];omega) rfl (fun r' hr=>hl r' (List.mem_cons_of_mem _ (List.mem_of_mem_take hr))) a1 h2
  have key:∀lh,li lh->iD fc lh->eM deep own (i+1+r.rows.toNat) (rest.drop r.rows.toNat) lh=.ok bN->li bN/\iD bk bN/\pQ (r::rest):=fun lh a3 x3 h3=>by
   obtain⟨a4,x4,s4⟩:=ih _ (by rw[List.length_drop];omega) rfl (fun r' hr=>hl r' (List.mem_cons_of_mem _ (List.mem_of_mem_drop hr))) a3 h3
   exact⟨a4,x1.trans (x2.trans (x3.trans x4)),.cons f1 f2 g1 s2 s4⟩
  by_cases k:r.kind=bD
  ·rw[zX k]at h
   obtain⟨a3,x3⟩:=ua a2 (k:=bk.ds.length) s2
   exact key _ a3 x3 h
  ·rw[zW k]at h
   exact key _ a2 iD.refl h
end
section
open Go.Ab
attribute [-simp] aV aE
theorem Ef{f:bS->bS}(h1:∀d,(f d).name=d.name)(h2:∀d,(f d).ops=d.ops)(n:ByteArray):∀(l:List bS)(k:Nat),(eB (l.modify k f) n).map (·.ops)=(eB l n).map (·.ops)
 |[],k=>by simp
 |d::l,0=>by
  unfold eB
  simp only[List.modify_zero_cons,List.find?_cons,h1]
  cases decide (d.name=n)
  ·rfl
  ·simp[h2]
 |d::l,k+1=>by
  have ih:=Ef h1 h2 n l k
  unfold eB at ih ⊢
  simp only[List.modify_succ_cons,List.find?_cons]
  cases decide (d.name=n)
  ·exact ih
  ·rfl
theorem wV{f:bS->bS}(h1:∀d,(f d).name=d.name)(h2:∀d,(f d).ops=d.ops){ds:List bS}{k:Nat}{l:List Row}(hs:pQ l):∀n,countP (ds.modify k f) l n=countP ds l n:=by
 induction hs with
 |nil=>intro n;rw[countP_nil,countP_nil]
 |cons h0 eS gT h3 h4 Ur Uq=>
  rename_i r l
  intro n
  rw[countP_cons,countP_cons,Ur,Uq]
  have g:∀o o':Option bS,o.map (·.ops)=o'.map (·.ops)->(match o with |some d=>d.ops |none=>1)=(match o' with |some d=>d.ops |none=>(1:Int)):=by
   rintro(_ |a) (_ |b) h
   ·rfl
   ·cases h
   ·cases h
   ·exact Option.some.inj h
  have e:∀c,iY (ds.modify k f) r c=iY ds r c:=fun c=>by
   unfold iY
   by_cases kr:r.kind=aT
   ·rw[zX kr,zX kr]
   ·rw[zW kr,zW kr]
    exact g _ _ (Ef h1 h2 r.name ds k)
  rw[e]
theorem xk{ds:List bS}{k:Nat}{n:Int}:(ds.modify k (fun d=>{ d with whole:=true })).modify k (fun d=>{ d with ops:=n })=j7 ds k n:=by
 unfold j7
 apply List.ext_getElem?
 intro i
 simp only[getElem?_modify']
 by_cases h:k=i
 ·simp only[zX h,Option.map_map];rfl
 ·simp only[zW h]
theorem IX{l:List bS}(h:(l.map (·.name)).Nodup){i j:Nat}{a b:bS}(hi:l[i]?=some a)(hj:l[j]?=some b)(he:a.name=b.name):i=j:=by
 obtain⟨h1,h2⟩:=zM.1 hi
 obtain⟨h3,h4⟩:=zM.1 hj
 have hp:=List.pairwise_iff_getElem.1 h
 have g1:(l.map (·.name))[i]'(by simpa using h1)=a.name:=by simp[h2]
 have g2:(l.map (·.name))[j]'(by simpa using h3)=b.name:=by simp[h4]
 rcases Nat.lt_trichotomy i j with aL |nk |aL
 ·exact absurd (g1.trans (he.trans g2.symm)) (hp i j (by simpa using h1) (by simpa using h3) aL)
 ·exact nk
 ·exact absurd (g2.trans (he.symm.trans g1.symm)) (hp j i (by simpa using h3) (by simpa using h1) aL)
section
variable {h:AH} {n0 p:Nat} {xr x4:AV} {bk:Bk} {ids:List Nat} {qm bm gm:Nat} {pl:Int} {rs:List (Row×AV)} {own:Option Nat}
theorem C7(pm:PM h bk ids qm bm gm)(a:li bk){k:Nat}{d:bS}(hd:bk.ds[k]?=some d):∃id,ids[k]?=some id/\fw d.name (l0 bk.ds ids)=some (.ptr id 0)/\uk h id d:=by
 rcases oN (n:=d.name) pm.len with⟨_,e2⟩ |⟨k',d',id,e1,e2,o8,rh⟩
 ·exact absurd rfl (sj e2 d (zP hd))
 ·have hn:d'.name=d.name:=by
   have:=List.find?_some e2
   simpa using this
  have:=IX a.nd hd o8 hn.symm
  subst this
  rw[hd]at o8;cases o8
  exact⟨id,rh,e1,pm.d _ _ _ hd rh⟩
theorem PA.Wt(pa:PA n0 h p xr bk ids qm bm gm pl){x:Int}:PA n0 (h.put p 8 [I x]) p xr bk ids qm bm gm x/\Fr h (h.put p 8 [I x]) (TW TP n0 h)/\Fr h (h.put p 8 [I x]) (·=p):=by
 have f1:Fr h (h.put p 8 [I x]) (·=p):=Fr.refl.put (.inl rfl)
 have o1:=dz (off:=8) (cs:=[I x]) pa.p
 generalize h.put p 8 [I x]=h1 at *
 have dH:∀{j:Nat}{o:AO},h.obj j=some o->o.ty≠76->h1.obj j=some o:=fun ho dx=>f1.obj ho (bM ho pa.p dx)
 refine⟨⟨pa.n,o1,dH pa.m.q (show(73:Nat)≠76 by decide),dH pa.m.b (show(73:Nat)≠76 by decide),dH pa.m.g (show(74:Nat)≠76 by decide),pa.m.len,fun k d id h1 h2=>(pa.m.d k d id h1 h2).fr f1 fun i o ho ht=>?_,pa.m.nd,pa.m.qb⟩,TW.jm f1 pa.n.1 pa.p rfl rfl,f1⟩
 exact bM ho pa.p (by rcases ht with h |h<;>rw[h]<;>show _≠(76:Nat)<;>decide)
theorem nw.vh{l:List Nat}(ho:nw ids own x4):nw (ids++l) own x4:=by
 cases own with
 |none=>exact ho
 |some k=>
  obtain⟨id,h1,h2⟩:=ho
  exact⟨id,by rw[List.getElem?_append_left (zM.1 h1).1];exact h1,h2⟩
theorem PA.ct(pa:PA n0 h p xr bk ids qm bm gm pl)(rt:RT h xr rs):MD h p xr rs bk ids qm bm gm:=⟨⟨_,pa.p,rfl,rfl⟩,rt,pa.m⟩
end
def Dj(h:AH)(p:Nat)(pl:Int):Prop:=∃cs,h.obj p=some (aP cs 9 76)/\cs[8]?=some (I pl)
theorem PA.sH{h:AH}{n0 p:Nat}{xr:AV}{bk:Bk}{ids:List Nat}{qm bm gm:Nat}{pl:Int}(pa:PA n0 h p xr bk ids qm bm gm pl):Dj h p pl:=⟨_,pa.p,rfl⟩
theorem Dj.ba{h h':AH}{p:Nat}{pl:Int}(a:Dj h p pl)(f:Fr h h' fun _=>False):Dj h' p pl:=by
 obtain⟨cs,h1,h2⟩:=a
 exact⟨cs,f.bU h1,h2⟩
theorem E6{bk:Bk}{own:Option Nat}{i:Int}{r:Row}{e:Int}(h:fO bk own i r=.error e):e≠0:=by
 have de:∀(bk:Bk)(l:List gK){e:Int},fK bk l 64 r=.error e->e≠0:=fun bk l e h=>by
  unfold fK at h
  split at h
  ·cases h;decide
  split at h
  ·cases h;decide
  split at h
  ·cases h;decide
  cases h
 have er:∀x,lF x bk=.error e->e≠0:=fun x h=>by
  unfold lF at h
  split at h
  ·rename_i h0;cases h;exact h0
  ·cases h
 unfold fO at h
 split at h
 ·cases hd:fK bk bk.qs 64 r with
  |error e'=>rw[hd]at h;cases h;exact de bk _ hd
  |ok l=>rw[hd]at h;cases h
 split at h
 ·cases hd:fK bk bk.bs 64 r with
  |error e'=>rw[hd]at h;cases h;exact de bk _ hd
  |ok l=>rw[hd]at h;cases h
 split at h
 ·unfold qy at h
  split at h
  ·cases h;decide
  split at h
  ·cases h;decide
  split at h
  ·cases h;decide
  split at h
  ·cases h;decide
  cases h
 split at h
 ·split at h
  ·cases h;decide
  ·cases h
 split at h
 ·unfold uQ at h
  split at h
  ·cases h;decide
  ·split at h
   ·cases h;decide
   ·cases h
 split at h
 ·unfold kM at h
  split at h
  ·cases h;decide
  split at h
  ·cases h;decide
  split at h
  ·cases h;decide
  split at h
  ·rename_i h0;cases h;exact h0
  split at h
  ·cases h;decide
  split at h
  ·cases h;decide
  cases h
 split at h
 ·unfold kT at h
  split at h
  ·split at h
   ·rename_i h0;cases h;exact h0
   ·exact er _ h
  ·cases h;decide
 split at h
 ·unfold mY at h
  split at h
  ·exact er _ h
  ·cases h;decide
 cases h
theorem DN(n:Nat):∀{deep:Nat}{own:Option Nat}{i:Nat}{rows:List Row}{bk:Bk}{x:Int×Int}(_:rows.length=n)(_:eM deep own i rows bk=.error x),x.2≠0:=by
 induction n using Nat.strongRecOn with
 |ind n ih=>
 intro deep own i rows bk x hn h
 cases rows with
 |nil=>rw[jI]at h;cases h
 |cons r rest=>
  rw[List.length_cons]at hn
  rw[kc]at h
  split at h
  ·rename_i h0;cases h;exact h0
  split at h
  ·rename_i e he;cases h;exact E6 he
  split at h
  ·rename_i e he;cases h
   exact ih _ (by rw[yA];omega) rfl he
  ·exact ih _ (by rw[List.length_drop];omega) rfl h
section
variable {p:Nat} {xr:AV} {qm bm gm:Nat} {rs:List (Row×AV)} {n0:Nat}
theorem R2(n:Nat):∀{h:AH}{M:Nat->Prop}{R:AE->AH->Prop}{a deep:Nat}{own:Option Nat}{x4:AV}{bk:Bk}{ids:List Nat}{pl:Int}
  (_:PA n0 h p xr bk ids qm bm gm pl) (_:RT h xr rs) (_:li bk) (_:nw ids own x4) (_:a+n<=rs.length) (_:deep<=33) (_:∀id,TW TP n0 h id->M id)
  (_:∀fP e h',eM deep own a (sg rs a n) bk=.error (fP,e)->Dj h' p fP->Fr h h' (TW TP n0 h)->R (.ret (I e)) h')
  (_:∀bN l fP h',eM deep own a (sg rs a n) bk=.ok bN->PA n0 h' p xr bN (ids++l) qm bm gm fP->Fr h h' (TW TP n0 h)->R (.ret (I 0)) h'),
  aA Pg 23 [.ptr p 0,I a,I (a+n),I deep,x4] h M R:=by
 induction n using Nat.strongRecOn with
 |ind n ih=>
 intro h M R a deep own x4 kL FI pl0 TL sE bi0 Qt hn QD hM he hk
 apply gL.aM
 unfold gL.cU gL.c9 gL.cB
 have hlen:=sE.n
 refine cy (ι:=Nat×Bk×List Nat×Int) (fun i v h'=>v=[.ptr p 0,I (a+n),I deep,x4,I (a+(n-i.1:Nat):Int)]/\i.1<=n/\PA n0 h' p xr i.2.1 (FI++i.2.2.1) qm bm gm i.2.2.2/\li i.2.1/\eM deep own (a+(n-i.1)) (sg rs (a+(n-i.1)) i.1) i.2.1=eM deep own a (sg rs a n) kL/\Fr h h' (TW TP n0 h)) (fun i=>i.1) (n,kL,[],pl0) ⟨by simp,zU _,by simpa using TL,bi0,by simp,TW.aU Fr.refl⟩ ?_
 rintro K ⟨m,bk,FA,pl⟩ v h1 ⟨rfl,hm,pa,bi,bq,f1⟩ step
 simp only at hm pa bi bq
 have oS:=sE.pM f1
 have ho:=Qt.vh (l:=FA)
 unfold gL.cG
 simp only[zN,zO,gL.cC,bc]
 cases m with
 |zero=>
  have e1:decide ((a:Int)+(n-0:Nat)<a+n)=false:=by simp
  rw[vq,jI]at bq
  simp only[e1,gL.cF,al,zE,zD,zC,zH,zV,gL.n1]
  simpa using hk bk FA pl h1 bq.symm pa f1
 |succ m=>
  obtain⟨j,hj⟩:∃j,j=a+(n-(m+1)):=⟨_,rfl⟩
  have ej:(a:Int)+(n-(m+1):Nat)=(j:Int):=by omega
  have e1:decide ((j:Int)<a+n)=true:=by simp;omega
  rw[<-hj]at bq
  obtain⟨y,hy⟩:∃y,rs[j]?=some y:=⟨rs[j]'(by omega),zJ _⟩
  rw[xj hy,kc,qX (by omega)]at bq
  have hya:=oS.a y (zP hy)
  have zt:∀id,h1.next<=id->(M id\/h.next<=id):=fun id hid=>.inr (zR f1.next hid)
  have tS:∀{h2:AH},Fr h h2 (TW TP n0 h)->∀id,TW TP n0 h2 id->(M id\/h.next<=id):=fun f id hid=>(TW.back f hid).elim (fun h=>.inl (hM id h)) .inr
  have w1:∀x:Int,0<=x/\x<=1000000000->IntKind.i64.wrap x=x:=fun x hx=>aR (by omega) (by omega)
  simp only[e1,ej,gL.cF,al,zD,zF,zC,zI,gL.cS,aC,aj,au,pa.p,ap,zG,zA,aa]
  refine gD oS.r dT (oS.one hy) hy rfl rfl zt fun vr h2 f2 _ jV=>?_
  have bX:=TW.trans f1 (TW.aU f2)
  have eQ:=pa.ba f2
  simp only[gL.cL,aj,au,jV,ap,zG,az,zA,zB,aa,aC,aE,eQ.p,dt,bz]
  refine⟨⟨.inl (hM p ⟨TL.n.1,_,TL.p,rfl,rfl⟩),rfl,rfl,by simp⟩,?_⟩
  obtain⟨Bu,f3,g3⟩:=eQ.Wt (x:=y.1.place)
  generalize h2.put p 8 [I y.1.place]=h3 at *
  have eO:=TW.trans bX f3
  have ko:=g3.obj jV (bM jV eQ.p (show(87:Nat)≠76 by decide))
  have wm:=sE.pM eO
  have ZC:=wm.a y (zP hy)
  unfold gL.cw
  refine dW ko rfl fun _=>?_
  have eb:IntKind.i64.wrap ((a:Int)+n-j)=(m:Int)+1:=by
   have:(a:Int)+n-j=m+1:=by omega
   rw[this];exact w1 _ (by omega)
  have Vv:IntKind.i64.wrap ((m:Int)+1-1)=m:=by
   have:(m:Int)+1-1=m:=by omega
   rw[this];exact w1 _ (by omega)
  simp only[lW,eb,Vv]
  refine⟨fun _=>False,fun _ h=>h.elim,Sd Bu.m ZC.1 ho fun h4 f4=>?_⟩
  have iP:=TW.trans eO (TW.aU f4)
  simp only[gL.cT,cq]
  by_cases k1:lj y.1 m deep own.isSome=0
  ·rw[zW (by simpa using k1)]at bq
   have eI:(lj y.1 m deep own.isSome != 0)=false:=by simp[k1]
   obtain⟨_,_,b0,b1,bdp,_,_⟩:=u6 k1
   obtain⟨k,pH⟩:∃k:Nat,y.1.rows=k:=⟨y.1.rows.toNat,by omega⟩
   have lQ:k<=m:=by omega
   rw[pH,zY,jR lQ,jS]at bq
   have tF:=f4.bU ko
   have XC:=Bu.ba f4
   have rt4:=sE.pM iP
   have Nz:=rt4.a y (zP hy)
   simp only[eI,gL.cP,al,zE,zD,zC,zH,gL.ck]
   refine dW tF rfl fun _=>?_
   refine⟨TW TP n0 h4,fun id hs _=>tS iP id hs,Tx XC bi.ok ho Nz.1 Nz.2 (by omega) (by omega) (fun _ h=>h) ?_ ?_⟩
   ·intro e h5 hr f5
    rw[hr]at bq
    have qg:=TW.trans iP (TW.aU f5)
    have h0:e≠0:=E6 hr
    have sU:(e != 0)=true:=by simp[h0]
    simp only[gL.b5,cq,sU,gL.bR,al,zD,zF,zC,zI,gL.bV]
    simpa using he y.1.place e h5 bq.symm (XC.sH.ba f5) qg
   ·intro lS ZB h5 hr tE aaA f5
    rw[hr]at bq
    simp only at bq
    have qg:=TW.trans iP f5
    obtain⟨Ir,x1,_,g2,Ie⟩:=oT bi Nz.2 hr
    have HL:h5.obj vr=some (aP (az y) 6 87):=TW.obj f5 tF rfl
    have Tw:=sE.pM qg
    obtain⟨l1,rfl⟩:∃l1,ZB=FI++(FA++l1):=by
     rcases aaA with rfl |⟨id,rfl⟩
     ·exact⟨[],by simp⟩
     ·exact⟨[id],by simp⟩
    have Lj:=Qt.vh (l:=FA++l1)
    have last:∀lh l3 TH h7,PA n0 h7 p xr lh (FI++l3) qm bm gm TH->li lh->h7.obj vr=some (aP (az y) 6 87)->eM deep own (j+1+k) (sg rs (j+1+k) (m-k)) lh=eM deep own a (sg rs a n) kL->Fr h h7 (TW TP n0 h) ->
      gL.n2 (fun id=>M id\/h.next<=id) (aJ Pg [.tmp 10] R) K (fun(i:Nat) (vs:List AV) (h:AH)=>if i=0 then gL.n1 (fun id=>M id\/h.next<=id) (aJ Pg [.tmp 10] R) (aJ Pg [.tmp 10] R) (fun _ _ _=>False) (fun v h=>R (.bW v) h) h else False) (fun v h=>R (.bW v) h) (.ptr p 0) (I (a+n)) (I deep) x4 (I j) (.ptr vr 0) h7:=fun lh l3 TH h7 Km VM T3 Qw Ck=>by
     simp only[gL.n2,aj,au,T3,ap,zG,az,zA,zB,aa,pH,aZ,w1 (1+(k:Int)) (by omega),w1 ((j:Int)+(1+k)) (by omega)]
     have e8:j+1+k=a+(n-(m-k)):=by omega
     have e9:(j:Int)+(1+k)=a+(n-(m-k):Nat):=by omega
     rw[e8]at Qw
     refine step (m-k,lh,l3,TH) _ h7 (by simp only;omega) ⟨by rw[<-e9],by simp only;omega,Km,VM,Qw,Ck⟩
    have XL:∀inner bC,nw (FI++(FA++l1)) inner bC ->
      (∀e,eM (deep+1) inner (j+1) (sg rs (j+1) k) lS=.error e->eM deep own a (sg rs a n) kL=.error e) ->
      (∀fc l2 mc h6,eM (deep+1) inner (j+1) (sg rs (j+1) k) lS=.ok fc->PA n0 h6 p xr fc (FI++l2) qm bm gm mc->Fr h h6 (TW TP n0 h)->h6.obj vr=some (aP (az y) 6 87) ->
       gL.n7 (fun id=>M id\/h.next<=id) (aJ Pg [.tmp 10] R) K (fun(i:Nat) (vs:List AV) (h:AH)=>if i=0 then gL.n1 (fun id=>M id\/h.next<=id) (aJ Pg [.tmp 10] R) (aJ Pg [.tmp 10] R) (fun _ _ _=>False) (fun v h=>R (.bW v) h) h else False) (fun v h=>R (.bW v) h) (.ptr p 0) (I (a+n)) (I deep) x4 (I j) (.ptr vr 0) h6) ->
      gL.bj (fun id=>M id\/h.next<=id) (aJ Pg [.tmp 10] R) K (fun(i:Nat) (vs:List AV) (h:AH)=>if i=0 then gL.n1 (fun id=>M id\/h.next<=id) (aJ Pg [.tmp 10] R) (aJ Pg [.tmp 10] R) (fun _ _ _=>False) (fun v h=>R (.bW v) h) h else False) (fun v h=>R (.bW v) h) (.ptr p 0) (I (a+n)) (I deep) x4 (I j) (.ptr vr 0) bC h5:=fun inner bC NK oL ed=>by
     simp only[gL.bj,aZ,aj,au,HL,ap,zG,az,zA,zB,aa,pH,w1 ((j:Int)+1) (by omega),w1 ((j:Int)+1+k) (by omega),w1 ((deep:Int)+1) (by omega)]
     refine⟨TW TP n0 h5,fun id hs _=>tS qg id hs,ih k (by omega) (a:=j+1) (deep:=deep+1) tE Tw Ir NK (by omega) (by omega) (fun _ h=>h) ?_ ?_⟩
     ·intro fP e h6 oZ hp6 f6
      have h0:e≠0:=DN _ rfl oZ
      have sU:(e != 0)=true:=by simp[h0]
      simp only[gL.aS,cq,sU,gL.n9,al,zD,zF,zC,zI,gL.n8]
      simpa using he fP e h6 (oL _ oZ) hp6 (TW.trans qg f6)
     ·intro fc l2 mc h6 oZ y_ f6
      have sU:((0:Int) != 0)=false:=rfl
      simp only[gL.aS,cq,sU,gL.n9,al,zE,zD,zC,zH]
      rw[List.append_assoc]at y_
      exact ed fc _ mc h6 oZ y_ (TW.trans qg f6) (TW.obj f6 HL rfl)
    have eg:(⟨#[103,97,116,101]⟩:ByteArray)=bD:=rfl
    have x_:((0:Int) != 0)=false:=rfl
    simp only[gL.b5,cq,x_,gL.bR,al,zE,zD,zC,zH,gL.bP,gL.bH,aj,au,HL,ap,zG,az,zA,zB,aa,br,eg]
    by_cases kg:y.1.kind=bD
    ·rw[zX kg]at bq
     have Vw:=Ie kg
     obtain⟨d1,QX⟩:∃d1:bS,d1=⟨y.1.name,y.1.args.map (·.name),j+1,j+1+y.1.rows,1,0,false⟩:=⟨_,rfl⟩
     have D1:lS.ds[bk.ds.length]?=some d1:=by rw[Vw,QX];simp
     have iO:d1.name=y.1.name:=by rw[QX]
     obtain⟨id1,i1,i2,_⟩:=C7 tE.m Ir D1
     rw[iO]at i2
     simp only[zL kg,gL.a_,al,zD,zF,zC,zI,aC,aj,au,tE.p,HL,ap,zG,az,zA,zB,aa]
     refine jo (enc:=Sb) kz z87 tE.m.g fun _=>?_
     rw[i2]
     simp only[im,zE,if_false]
     refine XL (some bk.ds.length) _ ⟨id1,i1,rfl⟩ (fun e h6=>by rw[h6]at bq;exact bq.symm) fun fc l2 mc h6 oZ y_ sW Bx=>?_
     rw[oZ]at bq
     simp only[zX kg]at bq
     obtain⟨Iq,x2,s2⟩:=qp _ rfl (fun r hr=>by
      unfold sg at hr
      obtain⟨z,hz,rfl⟩:=List.mem_map.1 hr
      exact(Tw.a z (List.mem_of_mem_drop (List.mem_of_mem_take hz))).2) Ir oZ
     obtain⟨d2,rO,ec⟩:=x2.at_ D1
     have kJ:d2.name=y.1.name:=(congrArg (·.1) ec).trans iO
     have hf2:d2.from_=((j+1:Nat):Int):=by
      have:=congrArg (·.2.2.1) ec
      rw[QX]at this
      simp only[nX]at this
      omega
     have ht2:d2.Hv=((j+1:Nat):Int)+(k:Int):=by
      have:=congrArg (·.2.2.2) ec
      rw[QX]at this
      simp only[nX]at this
      omega
     obtain⟨BI,i3,i4,xp,od,hxp⟩:=C7 y_.m Iq rO
     rw[kJ]at i4
     simp only[gL.n7,aj,au,Bx,ap,zG,az,zA,zB,aa,br,eg,zL kg,gL.n6,al,zD,zF,zC,zI,gL.n5,aC,y_.p]
     refine jo (enc:=Sb) kz z87 y_.m.g fun _=>?_
     rw[i4]
     have UZ:=y_.n.2.2.2.2 BI (zP i3)
     simp only[im,zE,if_false,gL.n4,aC,aj,aE,od,ns,bz]
     refine⟨⟨tS sW BI ⟨UZ,_,od,rfl,rfl⟩,rfl,rfl,by simp⟩,?_⟩
     have g7:Fr h6 (h6.put BI 6 [B true]) (·=BI):=Fr.refl.put (.inl rfl)
     have o7:=dz (off:=6) (cs:=[B true]) od
     generalize h6.put BI 6 [B true]=h7 at *
     obtain⟨Km,f7⟩:=y_.Ap (f:=fun d=>{ d with whole:=true }) rO i3 hxp (fun _=>rfl) rfl o7 g7
     have Ck:=TW.trans sW f7
     have T3:h7.obj vr=some (aP (az y) 6 87):=TW.obj f7 Bx rfl
     obtain⟨VM,_⟩:=Iq.modify (k:=bk.ds.length) (f:=fun d=>{ d with whole:=true }) (fun _=>rfl) (fun d hd=>(Iq.ok.ds d hd).2)
     have QG:(fc.ds.modify bk.ds.length fun d=>{ d with whole:=true })[bk.ds.length]?=some { d2 with whole:=true }:=by rw[getElem?_modify',zX rfl,rO];rfl
     obtain⟨xp7,XH,ZE⟩:=Km.m.d _ _ _ QG i3
     simp only[gL.n3,aC,aj,au,XH,ap,zG,zA,zB,aa,hf2,ht2]
     refine⟨fun _=>False,fun _ h=>h.elim,OH (fun d hd=>(VM.ok.ds d hd).2.2.2) k (Km.ct (sE.pM Ck)) (by omega) s2 fun h8 f8=>?_⟩
     have Vu:=wV (f:=fun d=>{ d with whole:=true }) (fun _=>rfl) (fun _=>rfl) (ds:=fc.ds) (k:=bk.ds.length) s2 0
     simp only[Vu]
     have LM:=TW.trans Ck (TW.aU f8)
     have pa8:=Km.ba f8
     have T7:=f8.bU XH
     have or8:=f8.bU T3
     have ZD:cl iL 1 9 h8 xp7 d2.params:=ZE.aU f8 fun _ _ h=>h
     generalize hc:countP fc.ds (sg rs (j+1) k) 0=c at *
     simp only[aC,aj,aE,T7,dt,bz]
     refine⟨⟨tS LM BI ⟨UZ,_,T7,rfl,rfl⟩,rfl,rfl,by simp⟩,?_⟩
     have g9:Fr h8 (h8.put BI 5 [I c]) (·=BI):=Fr.refl.put (.inl rfl)
     have o9:=dz (off:=5) (cs:=[I c]) T7
     generalize h8.put BI 5 [I c]=h9 at *
     obtain⟨XB,f9⟩:=pa8.Ap (f:=fun d=>{ d with ops:=c }) QG i3 ZD (fun _=>rfl) rfl o9 g9
     have e9:({ fc with ds:=(fc.ds.modify bk.ds.length fun d=>{ d with whole:=true }).modify bk.ds.length fun d=>{ d with ops:=c } }:Bk)={ fc with ds:=j7 fc.ds bk.ds.length c }:=by rw[xk]
     rw[e9]at XB
     have Yt:=(ua Iq (k:=bk.ds.length) s2).1
     rw[hc]at Yt
     exact last _ _ _ h9 XB Yt (TW.obj f9 or8 rfl) bq (TW.trans LM f9)
    ·rw[zW kg]at bq
     simp only[zK kg,gL.a_,al,zE,zD,zC,zH]
     refine XL own x4 Lj (fun e h6=>by rw[h6]at bq;exact bq.symm) fun fc l2 mc h6 oZ y_ sW Bx=>?_
     rw[oZ]at bq
     simp only[zW kg]at bq
     obtain⟨Iq,x2,s2⟩:=qp _ rfl (fun r hr=>by
      unfold sg at hr
      obtain⟨z,hz,rfl⟩:=List.mem_map.1 hr
      exact(Tw.a z (List.mem_of_mem_drop (List.mem_of_mem_take hz))).2) Ir oZ
     simp only[gL.n7,aj,au,Bx,ap,zG,az,zA,zB,aa,br,eg,zK kg,gL.n6,al,zE,zD,zC,zH]
     exact last _ _ _ h6 y_ Iq Bx bq sW
  ·rw[zX k1]at bq
   have eI:(lj y.1 m deep own.isSome != 0)=true:=by simp[k1]
   simp only[eI,gL.cP,al,zD,zF,zC,zI,gL.cp]
   simpa using he _ _ h4 bq.symm (Bu.sH.ba f4) iP
end
end
end Go.Proofs.YtjehibknlmehmaaGreat
