/- flat in plain Lean; its look at rows. No condition. -/
import Derived.Test.YtjehibknlmehmaaGf
import Derived.Test.YtjehibknlmehmaaEa
set_option maxRecDepth 100000
namespace Go.Proofs.Ytjehibknlmehmaa
section
open Go.Ab
structure fZ where
 name:ByteArray
 from_:Int
 size:Int
structure bY where
 name:ByteArray
 params:List ByteArray
 from_:Int
 GZ:Int
 depth:Int
 ops:Int
 whole:Bool
structure Bk where
 qs:List fZ
 bs:List fZ
 ds:List bY
def eF(l:List fZ)(n:ByteArray):Option fZ:=l.find? fun r=>decide (r.name=n)
def eB(l:List bY)(n:ByteArray):Option bY:=l.find? fun d=>decide (d.name=n)
def aK(l:List fZ):Int:=(l.map (·.size)).sum
def gN(bk:Bk)(n:ByteArray):Bool:=(eF bk.qs n).isSome||(eF bk.bs n).isSome||(eB bk.ds n).isSome||decide (0<cu n)
def kl(k:ByteArray):Bool:=decide (k=bJ)||decide (k=bj)||decide (k=fK)
def lE(k:ByteArray):Bool:=decide (k=ch)||decide (k=cZ)||decide (k=cQ)||decide (k=cD)||decide (k=dz)||kl k
def pH(k:ByteArray):Bool:=decide (k=ch)||decide (k=cZ)||decide (k=bJ)
def kH(r:Row)(behind deep:Int)(own:Bool):Int:=
 if !lE r.kind||(!kl r.kind&&r.rows != 0)||decide (r.rows<0)||decide (behind<r.rows) then 100
 else if 32<deep then 102
 else if decide (0<deep)&&pH r.kind then 100
 else if own&&!decide (r.kind=cQ)&&!decide (r.kind=bj) then 100
 else 0
def gB(l:List fZ)(a:Arg):Int:=
 match eF l a.name with
 |none=>110
 |some g=>if a.index<0\/g.size<=a.index then 112 else 0
abbrev Er(α:Type):=Except Int α
def fA(bk:Bk)(l:List fZ)(mr:Int)(r:Row):Er (List fZ):=
 if gN bk r.name then .error 110 else if r.num<1 then .error 112 else if mr-aK l<r.num then .error 1 else .ok (l++[⟨r.name,aK l,r.num⟩])
def Cz{α:Type}[DecidableEq α](l:List α):Bool:=(List.range l.length).any fun i=>match l[i]? with |some a=>eV a (l.take i) |none=>false
theorem ul{α:Type}[DecidableEq α]{l:List α}{i:Nat}{a:α}(hi:l[i]?=some a)(h:eV a (l.take i)=true):Cz l=true:=by
 unfold Cz
 rw[List.any_eq_true]
 exact⟨i,List.mem_range.2 (zM.1 hi).1,by rw[hi];exact h⟩
theorem x_{α:Type}[DecidableEq α]{l:List α}(h:∀i a,l[i]?=some a->eV a (l.take i)=false):Cz l=false:=by
 unfold Cz
 rw[List.any_eq_false]
 intro i hi
 rw[zJ (List.mem_range.1 hi)]
 simp only[h i _ (zJ (List.mem_range.1 hi))]
 decide
def tz(l:List ByteArray):Bool:=Cz l
def pz(bk:Bk)(r:Row)(i:Int):Er Bk:=
 if gN bk r.name then .error 110 else if r.args.length=0 then .error 111
 else if r.args.any (fun a=>a.index != -1) then .error 112
 else if tz (r.args.map (·.name)) then .error 113
 else .ok { bk with ds:=bk.ds++[⟨r.name,r.args.map (·.name),i+1,i+1+r.rows,1,0,false⟩] }
def eZ(bk:Bk)(own:Option bY)(a:Arg):Int:=
 match own with
 |none=>gB bk.qs a
 |some d=>if a.index≠-1 then 112 else if eV a.name d.params then 0 else 110
def fN(f:Arg->Int):List Arg->Int
 |[]=>0
 |a::l=>if f a≠0 then f a else fN f l
def eM(a:Arg):ByteArray×Int:=(a.name,a.index)
def tA(l:List Arg):Bool:=Cz (l.map eM)
def jV(bk:Bk)(own:Option Nat)(n:Int):Bk:=match own with |some k=>{ bk with ds:=bk.ds.modify k fun d=>{ d with depth:=max d.depth n } } |none=>bk
def gC(bk:Bk)(own:Option Nat):Option bY:=own.bind fun k=>bk.ds[k]?
def gF(bk:Bk)(n:ByteArray):Int×Int:=
 match eB bk.ds n with
 |some d=>if d.whole then(d.params.length,d.depth) else(cu n,0)
 |none=>(cu n,0)
def lW(bk:Bk)(own:Option Nat)(n:ByteArray):Bool:=match gC bk own with |some d=>decide (n=d.name) |none=>false
def ka(bk:Bk)(own:Option Nat)(r:Row):Er Bk:=
 if lW bk own r.name then .error 114
 else if (gF bk r.name).1=0 then .error 80
 else if (r.args.length:Int)≠(gF bk r.name).1 then .error 111
 else if fN (eZ bk (gC bk own)) r.args≠0 then .error (fN (eZ bk (gC bk own)) r.args)
 else if tA r.args then .error 113
 else if own.isSome=true/\32<(gF bk r.name).2+1 then .error 102
 else .ok (jV bk own ((gF bk r.name).2+1))
def kY(e:Int)(bk:Bk):Er Bk:=if e≠0 then .error e else .ok bk
def tU(bk:Bk)(r:Row):Er Bk:=
 match eF bk.bs r.name with
 |none=>.error 110
 |some c=>if r.num<0\/(c.size<63/\2^c.size.toNat<=r.num) then .error 112 else .ok bk
def kj(bk:Bk)(l:List Arg):Er Bk:=match l with |[a,b]=>if gB bk.qs a≠0 then .error (gB bk.qs a) else kY (gB bk.bs b) bk |_=>.error 111
def mi(bk:Bk)(l:List Arg):Er Bk:=match l with |[a]=>kY (gB bk.qs a) bk |_=>.error 111
def fC(bk:Bk)(own:Option Nat)(i:Int)(r:Row):Er Bk:=
 if r.kind=ch then(fA bk bk.qs 64 r).map fun l=>{ bk with qs:=l }
 else if r.kind=cZ then(fA bk bk.bs 64 r).map fun l=>{ bk with bs:=l }
 else if r.kind=bJ then pz bk r i
 else if r.kind=bj then(if r.num<0 then .error 112 else .ok bk)
 else if r.kind=fK then tU bk r
 else if r.kind=cQ then ka bk own r
 else if r.kind=cD then kj bk r.args
 else if r.kind=dz then mi bk r.args
 else .ok bk
def countP(ds:List bY)(rows:List Row)(n:Int):Int:=
 match rows with
 |[]=>n
 |r::rest=>
  let k:Int:=if r.kind=bj then(let c:=countP ds (rest.take r.rows.toNat) 0;if 0<c then min r.num 4097*c else c) else match eB ds r.name with |some d=>d.ops |none=>1
  countP ds (rest.drop r.rows.toNat) (min (n+k) 4097)
termination_by rows.length
decreasing_by all_goals (simp only[yA,List.length_drop,List.length_cons];omega)
def jy(ds:List bY)(k:Nat)(n:Int):List bY:=ds.modify k fun d=>{ d with whole:=true,ops:=n }
def eN(deep:Nat)(own:Option Nat)(i:Nat)(rows:List Row)(bk:Bk):Except (Int×Int) Bk:=
 match rows with
 |[]=>.ok bk
 |r::rest=>
  if kH r rest.length deep own.isSome≠0 then .error (r.place,kH r rest.length deep own.isSome)
  else match fC bk own i r with
   |.error e=>.error (r.place,e)
   |.ok lm=>
    let inner:=if r.kind=bJ then some bk.ds.length else own
    match eN (deep+1) inner (i+1) (rest.take r.rows.toNat) lm with
    |.error e=>.error e
    |.ok eT=>
     let kD:=if r.kind=bJ then{ eT with ds:=jy eT.ds bk.ds.length (countP eT.ds (rest.take r.rows.toNat) 0) } else eT
     eN deep own (i+1+r.rows.toNat) (rest.drop r.rows.toNat) kD
termination_by rows.length
decreasing_by all_goals (simp only[yA,List.length_drop,List.length_cons];omega)
end
section
open Go.Ab
attribute [-simp] aX aF
def TP(t:TypeId):Bool:=t==63||t==64||t==66||t==91
def uS(r:fZ):AV:=.agg [I r.from_,I r.size]
def rB(l:List fZ):List (ByteArray×AV):=l.map fun r=>(r.name,uS r)
def ls(l:List bY)(ids:List Nat):List (ByteArray×AV):=(l.zip ids).map fun x=>(x.1.name,.ptr x.2 0)
abbrev Cl(xr:AV)(qm bm gm:Nat)(xp:AV)(nq nb:Int)(xo:AV)(pl:Int):AO:=aN [xr,.mp qm,.mp bm,.mp gm,xp,I nq,I nb,xo,I pl] 9 66
abbrev wL(xp:AV)(d:bY):AO:=aN [Sb d.name,xp,I d.from_,I d.GZ,I d.depth,I d.ops,B d.whole] 7 91
def tj(h:AH)(id:Nat)(d:bY):Prop:=∃xp,h.obj id=some (wL xp d)/\bN hZ 1 9 h xp d.params
structure PM (h:AH) (bk:Bk) (ids:List Nat) (qm bm gm:Nat):Prop where
 q:h.obj qm=some (lQ Sb 63 (rB bk.qs))
 b:h.obj bm=some (lQ Sb 63 (rB bk.bs))
 g:h.obj gm=some (lQ Sb 64 (ls bk.ds ids))
 len:ids.length=bk.ds.length
 d:∀(k:Nat)(d:bY)(id:Nat),bk.ds[k]?=some d->ids[k]?=some id->tj h id d
 nd:ids.Nodup
 qb:qm≠bm
structure PA (n0:Nat) (h:AH) (p:Nat) (xr:AV) (bk:Bk) (ids:List Nat) (qm bm gm:Nat) (pl:Int):Prop where
 n:n0<=p/\n0<=qm/\n0<=bm/\n0<=gm/\∀id∈ids,n0<=id
 p:h.obj p=some (Cl xr qm bm gm aW (aK bk.qs) (aK bk.bs) aW pl)
 m:PM h bk ids qm bm gm
theorem tj.fr{h h':AH}{id:Nat}{d:bY}(a:tj h id d){S:Nat->Prop}(hf:Fr h h' S)(hs:∀i o,h.obj i=some o->o.ty=91\/o.ty=9->¬S i):tj h' id d:=by
 obtain⟨xp,h1,h2⟩:=a
 refine⟨xp,hf.obj h1 (hs _ _ h1 (.inl rfl)),?_⟩
 rcases h2 with h2 |⟨i,h3,h4⟩
 ·exact .inl h2
 ·exact .inr ⟨i,h3,hf.obj h4 (hs _ _ h4 (.inr rfl))⟩
theorem PM.aU{h h':AH}{bk:Bk}{ids:List Nat}{qm bm gm:Nat}(a:PM h bk ids qm bm gm)(hf:Fr h h' fun _=>False):PM h' bk ids qm bm gm:=
 ⟨hf.bM a.q,hf.bM a.b,hf.bM a.g,a.len,fun k d id h1 h2=>(a.d k d id h1 h2).fr hf fun _ _ _ _ h=>h,a.nd,a.qb⟩
theorem PA.aU{n0:Nat}{h h':AH}{p:Nat}{xr:AV}{bk:Bk}{ids:List Nat}{qm bm gm:Nat}{pl:Int}(a:PA n0 h p xr bk ids qm bm gm pl)(hf:Fr h h' fun _=>False):PA n0 h' p xr bk ids qm bm gm pl:=
 ⟨a.n,hf.bM a.p,a.m.aU hf⟩
theorem lq{n:ByteArray}{l:List fZ}:fl n (rB l)=(eF l n).map uS:=Ai
theorem nH{n:ByteArray}:∀{l:List bY}{ids:List Nat},ids.length=l.length->(fl n (ls l ids)=none/\eB l n=none)\/∃(k:Nat)(d:bY)(id:Nat),fl n (ls l ids)=some (.ptr id 0)/\eB l n=some d/\l[k]?=some d/\ids[k]?=some id
 |[],ids,_=>.inl ⟨by simp[ls,fl],rfl⟩
 |d::l,[],h=>by simp at h
 |d::l,id::ids,h=>by
  have e:ls (d::l) (id::ids)=(d.name,.ptr id 0)::ls l ids:=rfl
  rw[e]
  unfold eB
  simp only[fl,List.find?_cons]
  by_cases hn:n=d.name
  ·rw[zX hn,zL hn.symm]
   exact .inr ⟨0,d,id,rfl,rfl,rfl,rfl⟩
  ·rw[zW hn,zK (fun h=>hn h.symm)]
   rcases nH (n:=n) (l:=l) (ids:=ids) (by simpa using h) with⟨h1,h2⟩ |⟨k,d',o8,h1,h2,h3,h4⟩
   ·exact .inl ⟨h1,h2⟩
   ·exact .inr ⟨k+1,d',o8,h1,h2,by simpa using h3,by simpa using h4⟩
theorem z93:n_ Pg 93=some (.agg [I 0,I 0]):=by kernel_rfl
theorem z87:n_ Pg 87=some (.sc (.pointer none)):=by kernel_rfl
section
variable {h:AH} {M:Nat->Prop} {R:AE->AH->Prop}
theorem DH{k:ByteArray}(hR:R (.ret (B (kl k))) h):aE Pg 59 [Sb k] h M R:=by
 apply YU.aM
 unfold kl at hR
 by_cases k1:k=bJ
 ·subst k1;simpa[bJ] using hR
 ·by_cases k2:k=bj
  ·subst k2;simpa[bJ,bj] using hR
  ·by_cases k3:k=fK
   ·subst k3;simpa[bJ,bj,fK] using hR
   ·simp[k1,k2,k3]at hR
    unfold bJ at k1;unfold bj at k2;unfold fK at k3
    simpa[k1,k2,k3] using hR
theorem M9{k:ByteArray}(hR:R (.ret (B (lE k))) h):aE Pg 58 [Sb k] h M R:=by
 apply QV.aM
 unfold lE at hR
 by_cases k1:k=ch
 ·subst k1;simpa[ch] using hR
 by_cases k2:k=cZ
 ·subst k2;simpa[ch,cZ] using hR
 by_cases k3:k=cQ
 ·subst k3;simpa[ch,cZ,cQ] using hR
 by_cases k4:k=cD
 ·subst k4;simpa[ch,cZ,cQ,cD] using hR
 by_cases k5:k=dz
 ·subst k5;simpa[ch,cZ,cQ,cD,dz] using hR
 simp[k1,k2,k3,k4,k5]at hR
 unfold ch at k1;unfold cZ at k2;unfold cQ at k3;unfold cD at k4;unfold dz at k5
 simp[-QV.n1,k1,k2,k3,k4,k5]
 unfold QV.n1
 refine⟨fun _=>False,fun _ h=>h.elim,DH ?_⟩
 simpa using hR
end
section
variable {h:AH} {M:Nat->Prop} {R:AE->AH->Prop} {n0 p:Nat} {xr:AV} {bk:Bk} {ids:List Nat} {qm bm gm:Nat} {pl:Int}
theorem zn{cs:List AV}{n:ByteArray}(hp:h.obj p=some (aN cs 9 66))(c1:cs[1]?=some (.mp qm))(c2:cs[2]?=some (.mp bm))(c3:cs[3]?=some (.mp gm))(hm:PM h bk ids qm bm gm)
  (hR:∀h',Fr h h' (fun _=>False)->R (.ret (B (gN bk n))) h'):aE Pg 84 [.ptr p 0,Sb n] h M R:=by
 apply uq.aM
 unfold uq.bc uq.a_
 simp only[aD,ag,au,hp,ao,zG,c1,ab]
 refine iQ (enc:=Sb) jP z93 hm.q fun _=>?_
 rw[lq]
 have hex:∀(o:Option fZ),∃a b,gR true (.agg [I 0,I 0]) (o.map uS)=.dY [.agg [I a,I b],B o.isSome]:=fun o=>by
  cases o with
  |none=>exact⟨_,_,rfl⟩
  |some r=>exact⟨_,_,rfl⟩
 obtain⟨a1,b1,e1⟩:=hex (eF bk.qs n)
 rw[e1]
 simp only[dN,zA,zB,ab]
 refine g_ (cs:=[I a1,I b1]) rfl rfl rfl rfl (fun id hid=>.inr hid) fun v1 h1 f1 _ _=>?_
 unfold uq.aQ
 simp only[aD,ag,au,f1.bM hp,ao,zG,c2,ab]
 have P8:=hm.aU f1
 refine iQ (enc:=Sb) jP z93 P8.b fun _=>?_
 rw[lq]
 obtain⟨a2,b2,e2⟩:=hex (eF bk.bs n)
 rw[e2]
 simp only[dN,zA,zB,ab]
 refine g_ (cs:=[I a2,I b2]) rfl rfl rfl rfl (fun id hid=>.inr (zR f1.next hid)) fun v2 h2 f2 _ _=>?_
 have cw:=f1.bX f2
 unfold uq.n9
 simp only[aD,ag,au,cw.bM hp,ao,zG,c3,ab]
 have hm2:=hm.aU cw
 refine iQ (enc:=Sb) jP z87 hm2.g fun _=>?_
 have e3:∃z,gR true (.sc (.pointer none)) (fl n (ls bk.ds ids))=.dY [z,B (eB bk.ds n).isSome]:=by
  rcases nH (n:=n) hm.len with⟨h1,h2⟩ |⟨k,d,id,h1,h2,_⟩
  ·rw[h1,h2];exact⟨_,rfl⟩
  ·rw[h1,h2];exact⟨_,rfl⟩
 obtain⟨z,e3⟩:=e3
 rw[e3]
 simp only[dN,zA,zB,ab]
 unfold gN at hR
 generalize (eF bk.qs n).isSome=t1 at *
 generalize (eF bk.bs n).isSome=t2 at *
 generalize (eB bk.ds n).isSome=t3 at *
 have fin:∀b,b=(t1||t2||t3)->uq.n3 (fun id=>M id\/h.next<=id) (aJ Pg [.tmp 4] R) (aJ Pg [.tmp 4] R) (fun _ _ _=>False) (fun v h=>R (.cg v) h) (Sb n) (B b) h2:=fun b hb=>by
  rw[<-hb]at hR
  cases b with
  |true=>simpa[uq.n3,uq.n2] using hR h2 cw
  |false=>
   simp only[uq.n3,ck,zT,zE,zD,zC,zI]
   refine⟨fun _=>False,fun _ h=>h.elim,Ap fun h3 f3=>?_⟩
   have:=hR h3 (cw.bX f3)
   simpa[uq.n2] using this
 have fin:=fin _ rfl
 revert fin
 cases t1<;>cases t2<;>cases t3<;>intro fin<;>simp[-uq.n3]at fin<;>simp[-uq.n3]<;>exact fin
end
end
section
open Go.Ab
attribute [-simp] aX aF
theorem qP(l:List fZ)(r:fZ):aK (l++[r])=aK l+r.size:=by simp[aK]
theorem EF(l:List fZ)(r:fZ):rB (l++[r])=rB l++[(r.name,uS r)]:=by simp[rB]
theorem pt{y:Row×AV}{l:List Arg}{f:Arg->List AV}{sz:Nat}{ty:TypeId}{h:AH}(ha:cH f sz ty h y.2 l):(ay y).all cG=true:=by
 show(true&&(true&&(cG y.2&&(true&&(true&&(true&&true))))))=true
 rw[ha.one.1];rfl
section
variable {h:AH} {M:Nat->Prop} {R:AE->AH->Prop} {n0 p:Nat} {xr:AV} {bk:Bk} {ids:List Nat} {qm bm gm:Nat} {pl:Int}
theorem DZ{m:Nat}{l:List fZ}{a:Arg}(hm:h.obj m=some (lQ Sb 63 (rB l)))(hR:∀h',Fr h h' (fun _=>False)->R (.ret (I (gB l a))) h'):aE Pg 63 [.mp m,.agg a.enc] h M R:=by
 apply Gz.aM
 unfold Gz.a_
 refine dB (cs:=a.enc) (Arg.iE a) fun va h1 f1 _ oa=>?_
 unfold Gz.aQ
 simp only[ag,au,oa,ao,zG,Arg.enc,zA,ab]
 refine iQ (enc:=Sb) jP z93 (f1.bM hm) fun _=>?_
 rw[lq]
 unfold gB at hR
 cases hr:eF l a.name with
 |none=>
  rw[hr]at hR
  simp only[Option.map_none,gR,zV,dN,zA,zB,ab]
  refine g_ (cs:=[I 0,I 0]) rfl rfl rfl rfl (fun id hid=>.inr (zR f1.next hid)) fun v1 h2 f2 _ _=>?_
  have:=hR h2 (f1.bX f2)
  simpa[Gz.n9,Gz.n8,Gz.n7] using this
 |some g=>
  rw[hr]at hR
  simp only[yB,gR,zV,uS,dN,zA,zB,ab]
  refine g_ (cs:=[I g.from_,I g.size]) rfl rfl rfl rfl (fun id hid=>.inr (zR f1.next hid)) fun v1 h2 f2 _ ov=>?_
  have:=hR h2 (f1.bX f2)
  have wJ:=f2.bM oa
  by_cases k1:a.index<0
  ·simp[k1]at this
   simpa[wJ,ov,Arg.enc,k1] using this
  ·by_cases k2:g.size<=a.index
   ·simp[k1,k2]at this
    simpa[wJ,ov,Arg.enc,k1,k2] using this
   ·simp[k1,k2]at this
    simpa[wJ,ov,Arg.enc,k1,k2] using this
theorem Lw{mr:Int}{y:Row×AV}(pa:PA n0 h p xr bk ids qm bm gm pl)(ha:cH Arg.enc 2 44 h y.2 y.1.args)(yS:mr=64)(ht:0<=aK bk.qs/\aK bk.qs<=64)(hM:∀id,TW TP n0 h id->M id)
  (he:∀e h',fA bk bk.qs mr y.1=.error e->Fr h h' (fun _=>False)->R (.ret (I e)) h')
  (hk:∀l' h',fA bk bk.qs mr y.1=.ok l'->PA n0 h' p xr { bk with qs:=l' } ids qm bm gm pl->Fr h h' (TW TP n0 h)->R (.ret (I 0)) h') :
  aE Pg 60 [.ptr p 0,.agg (ay y),.mp qm,.ptr p 5,I mr] h M R:=by
 apply jm.aM
 unfold jm.bt
 refine dB (pt ha) fun vr h1 f1 iz bS=>?_
 unfold jm.bc
 have lD:=pa.aU f1
 simp only[ag,au,bS,ao,zG,ay,zA,zB,ab]
 refine⟨fun _=>False,fun _ h=>h.elim,zn lD.p rfl rfl rfl lD.m fun h2 f2=>?_⟩
 have cw:=f1.bX f2
 have eP:=lD.aU f2
 have ju:=f2.bM bS
 unfold fA at he hk
 cases j8:gN bk y.1.name with
 |true=>
  have:=he 110 h2 (by rw[j8];rfl) cw
  simpa[jm.a_,jm.n4] using this
 |false=>
  rw[j8]at he hk
  simp only[zE,if_false]at he hk
  simp only[jm.a_,aj,zE,zC,zD,zH]
  by_cases k1:y.1.num<1
  ·have:=he 112 h2 (by rw[zX k1]) cw
   simpa[jm.aQ,jm.n9,jm.n5,ju,ay,k1] using this
  ·rw[zW k1]at he hk
   have w1:IntKind.i64.wrap (mr-aK bk.qs)=mr-aK bk.qs:=aS (by omega) (by omega)
   simp only[jm.aQ,ag,au,ju,ao,zG,ay,zA,zB,ab,aZ,zK k1,jm.n9,aj,zE,zC,zD,zH,jm.n8,aD,eP.p,jL,w1,eU,gt_iff_lt]
   by_cases k2:mr-aK bk.qs<y.1.num
   ·have:=he 1 h2 (by rw[zX k2]) cw
    simpa[jm.n7,jm.n6,k2] using this
   ·rw[zW k2]at he hk
    simp only[zK k2,jm.n7,aj,zE,zC,zD,zH]
    unfold jm.n3
    simp only[ag,au,ju,ao,zG,ay,zA,zB,ab,aD,eP.p]
    refine⟨_,rfl,?_⟩
    have Bo:fl y.1.name (rB bk.qs)=none:=by
     rw[lq]
     unfold gN at j8
     simp only[Bool.or_eq_false_iff]at j8
     have:=j8.1.1.1
     cases hx:eF bk.qs y.1.name with
     |none=>rfl
     |some _=>rw[hx]at this;cases this
    have KZ:∀id,TW TP n0 h id->(M id\/h.next<=id):=fun id hid=>.inl (hM id hid)
    have m0:h.obj qm=some (lQ Sb 63 (rB bk.qs)):=pa.m.q
    have p0:h.obj p=some (Cl xr qm bm gm aW (aK bk.qs) (aK bk.bs) aW pl):=pa.p
    refine uC (enc:=Sb) jP (KZ _ ⟨pa.n.2.1,_,m0,rfl,rfl⟩) eP.m.q Bo fun h3 EO f3=>?_
    have Ki:p≠qm:=ci p0 m0 (show(66:Nat)≠63 by decide)
    have p3:h3.obj p=some (Cl xr qm bm gm aW (aK bk.qs) (aK bk.bs) aW pl):=f3.obj eP.p Ki
    have jM:h3.obj vr=some (aN (ay y) 6 42):=f3.obj ju (ci ju eP.m.q (show(42:Nat)≠63 by decide))
    have w2:IntKind.i64.wrap (aK bk.qs+y.1.num)=aK bk.qs+y.1.num:=aS (by omega) (by omega)
    unfold jm.n2
    simp only[aD,ag,au,p3,jM,ao,zG,ay,zA,zB,ab,aT,w2,aF,dC,bG]
    refine⟨⟨KZ _ ⟨pa.n.1,_,p0,rfl,rfl⟩,rfl,rfl,by simp⟩,?_⟩
    have f4:Fr h3 (h3.put p 5 [I (aK bk.qs+y.1.num)]) (·=p):=Fr.refl.put (.inl rfl)
    have p4:=cX (off:=5) (cs:=[I (aK bk.qs+y.1.num)]) p3
    generalize h3.put p 5 [I (aK bk.qs+y.1.num)]=h4 at *
    have fz:Fr h h4 (TW TP n0 h):=TW.trans (TW.trans (TW.aO cw) (TW.iO f3 pa.n.2.1 eP.m.q rfl rfl)) (TW.iO f4 pa.n.1 p3 rfl rfl)
    refine hk _ h4 rfl ⟨pa.n,?_,?_⟩ fz
    ·rw[p4,qP];rfl
    ·have dH:∀{i:Nat}{o:AO},h2.obj i=some o->i≠qm->i≠p->h4.obj i=some o:=fun ho h1 h2=>f4.obj (f3.obj ho h1) h2
     refine⟨by rw[EF];exact f4.obj EO (Ne.symm Ki),dH eP.m.b (Ne.symm eP.m.qb) (ci eP.m.b eP.p (show(63:Nat)≠66 by decide)),dH eP.m.g (ci eP.m.g eP.m.q (show(64:Nat)≠63 by decide)) (ci eP.m.g eP.p (show(64:Nat)≠66 by decide)),eP.m.len,fun k d id h5 h6=>?_,eP.m.nd,eP.m.qb⟩
     obtain⟨xp,h7,h8⟩:=eP.m.d k d id h5 h6
     refine⟨xp,dH h7 (ci h7 eP.m.q (show(91:Nat)≠63 by decide)) (ci h7 eP.p (show(91:Nat)≠66 by decide)),?_⟩
     rcases h8 with h8 |⟨i,h9,pf⟩
     ·exact .inl h8
     ·exact .inr ⟨i,h9,dH pf (ci pf eP.m.q (show(9:Nat)≠63 by decide)) (ci pf eP.p (show(9:Nat)≠66 by decide))⟩
theorem Lx{mr:Int}{y:Row×AV}(pa:PA n0 h p xr bk ids qm bm gm pl)(ha:cH Arg.enc 2 44 h y.2 y.1.args)(yS:mr=64)(ht:0<=aK bk.bs/\aK bk.bs<=64)(hM:∀id,TW TP n0 h id->M id)
  (he:∀e h',fA bk bk.bs mr y.1=.error e->Fr h h' (fun _=>False)->R (.ret (I e)) h')
  (hk:∀l' h',fA bk bk.bs mr y.1=.ok l'->PA n0 h' p xr { bk with bs:=l' } ids qm bm gm pl->Fr h h' (TW TP n0 h)->R (.ret (I 0)) h') :
  aE Pg 60 [.ptr p 0,.agg (ay y),.mp bm,.ptr p 6,I mr] h M R:=by
 apply jm.aM
 unfold jm.bt
 refine dB (pt ha) fun vr h1 f1 iz bS=>?_
 unfold jm.bc
 have lD:=pa.aU f1
 simp only[ag,au,bS,ao,zG,ay,zA,zB,ab]
 refine⟨fun _=>False,fun _ h=>h.elim,zn lD.p rfl rfl rfl lD.m fun h2 f2=>?_⟩
 have cw:=f1.bX f2
 have eP:=lD.aU f2
 have ju:=f2.bM bS
 unfold fA at he hk
 cases j8:gN bk y.1.name with
 |true=>
  have:=he 110 h2 (by rw[j8];rfl) cw
  simpa[jm.a_,jm.n4] using this
 |false=>
  rw[j8]at he hk
  simp only[zE,if_false]at he hk
  simp only[jm.a_,aj,zE,zC,zD,zH]
  by_cases k1:y.1.num<1
  ·have:=he 112 h2 (by rw[zX k1]) cw
   simpa[jm.aQ,jm.n9,jm.n5,ju,ay,k1] using this
  ·rw[zW k1]at he hk
   have w1:IntKind.i64.wrap (mr-aK bk.bs)=mr-aK bk.bs:=aS (by omega) (by omega)
   simp only[jm.aQ,ag,au,ju,ao,zG,ay,zA,zB,ab,aZ,zK k1,jm.n9,aj,zE,zC,zD,zH,jm.n8,aD,eP.p,jL,w1,eU,gt_iff_lt]
   by_cases k2:mr-aK bk.bs<y.1.num
   ·have:=he 1 h2 (by rw[zX k2]) cw
    simpa[jm.n7,jm.n6,k2] using this
   ·rw[zW k2]at he hk
    simp only[zK k2,jm.n7,aj,zE,zC,zD,zH]
    unfold jm.n3
    simp only[ag,au,ju,ao,zG,ay,zA,zB,ab,aD,eP.p]
    refine⟨_,rfl,?_⟩
    have Bo:fl y.1.name (rB bk.bs)=none:=by
     rw[lq]
     unfold gN at j8
     simp only[Bool.or_eq_false_iff]at j8
     have:=j8.1.1.2
     cases hx:eF bk.bs y.1.name with
     |none=>rfl
     |some _=>rw[hx]at this;cases this
    have KZ:∀id,TW TP n0 h id->(M id\/h.next<=id):=fun id hid=>.inl (hM id hid)
    have m0:h.obj bm=some (lQ Sb 63 (rB bk.bs)):=pa.m.b
    have p0:h.obj p=some (Cl xr qm bm gm aW (aK bk.qs) (aK bk.bs) aW pl):=pa.p
    refine uC (enc:=Sb) jP (KZ _ ⟨pa.n.2.2.1,_,m0,rfl,rfl⟩) eP.m.b Bo fun h3 EO f3=>?_
    have Ki:p≠bm:=ci p0 m0 (show(66:Nat)≠63 by decide)
    have p3:h3.obj p=some (Cl xr qm bm gm aW (aK bk.qs) (aK bk.bs) aW pl):=f3.obj eP.p Ki
    have jM:h3.obj vr=some (aN (ay y) 6 42):=f3.obj ju (ci ju eP.m.b (show(42:Nat)≠63 by decide))
    have w2:IntKind.i64.wrap (aK bk.bs+y.1.num)=aK bk.bs+y.1.num:=aS (by omega) (by omega)
    unfold jm.n2
    simp only[aD,ag,au,p3,jM,ao,zG,ay,zA,zB,ab,aT,w2,aF,dC,bG]
    refine⟨⟨KZ _ ⟨pa.n.1,_,p0,rfl,rfl⟩,rfl,rfl,by simp⟩,?_⟩
    have f4:Fr h3 (h3.put p 6 [I (aK bk.bs+y.1.num)]) (·=p):=Fr.refl.put (.inl rfl)
    have p4:=cX (off:=6) (cs:=[I (aK bk.bs+y.1.num)]) p3
    generalize h3.put p 6 [I (aK bk.bs+y.1.num)]=h4 at *
    have fz:Fr h h4 (TW TP n0 h):=TW.trans (TW.trans (TW.aO cw) (TW.iO f3 pa.n.2.2.1 eP.m.b rfl rfl)) (TW.iO f4 pa.n.1 p3 rfl rfl)
    refine hk _ h4 rfl ⟨pa.n,?_,?_⟩ fz
    ·rw[p4,qP];rfl
    ·have dH:∀{i:Nat}{o:AO},h2.obj i=some o->i≠bm->i≠p->h4.obj i=some o:=fun ho h1 h2=>f4.obj (f3.obj ho h1) h2
     refine⟨dH eP.m.q eP.m.qb (ci eP.m.q eP.p (show(63:Nat)≠66 by decide)),by rw[EF];exact f4.obj EO (Ne.symm Ki),dH eP.m.g (ci eP.m.g eP.m.b (show(64:Nat)≠63 by decide)) (ci eP.m.g eP.p (show(64:Nat)≠66 by decide)),eP.m.len,fun k d id h5 h6=>?_,eP.m.nd,eP.m.qb⟩
     obtain⟨xp,h7,h8⟩:=eP.m.d k d id h5 h6
     refine⟨xp,dH h7 (ci h7 eP.m.b (show(91:Nat)≠63 by decide)) (ci h7 eP.p (show(91:Nat)≠66 by decide)),?_⟩
     rcases h8 with h8 |⟨i,h9,pf⟩
     ·exact .inl h8
     ·exact .inr ⟨i,h9,dH pf (ci pf eP.m.b (show(9:Nat)≠63 by decide)) (ci pf eP.p (show(9:Nat)≠66 by decide))⟩
end
end
section
open Go.Ab
attribute [-simp] aX aF
theorem lN{κ:Type}[DecidableEq κ]{n:κ}:∀{l:List (κ×AV)},(fl n l).isSome=eV n (l.map (·.1))
 |[]=>rfl
 |(k,v)::l=>by
  have ih:=lN (n:=n) (l:=l)
  unfold eV at *
  simp only[fl,List.map_cons,fQ]
  by_cases e:n=k
  ·rw[zX e,zX e];rfl
  ·rw[zW e,zW e,ih]
   have sh:∀(l:List κ)(i j:Nat),(fQ n l i).isSome=(fQ n l j).isSome:=fun l=>by
    induction l with
    |nil=>intro i j;rfl
    |cons a l ih=>
     intro i j
     simp only[fQ]
     split
     ·rfl
     ·exact ih _ _
   exact sh _ _ _
theorem C_{z:AV}(o:Option AV):∃a,gR true z o=.dY [a,B o.isSome]:=by
 cases o with
 |none=>exact⟨_,rfl⟩
 |some v=>exact⟨_,rfl⟩
theorem NW(s:ByteArray):(hZ s).all cG=true:=rfl
theorem V4{α:Type}{f:α->Bool}{l:List α}{i:Nat}{a:α}(hi:l[i]?=some a)(h:f a=true):l.any f=true:=List.any_eq_true.2 ⟨a,zP hi,h⟩
theorem V3{α:Type}{f:α->Bool}{l:List α}(h:∀(i:Nat)(a:α),l[i]?=some a->f a=false):l.any f=false:=by
 rw[List.any_eq_false]
 intro x hx
 obtain⟨i,hi,rfl⟩:=List.mem_iff_getElem.1 hx
 rw[h i _ (zJ hi)];decide
theorem z3:n_ Pg 3=some (I 0):=by kernel_rfl
section
variable {W:Nat->Prop} {QR QN:VK} {QE:Nat->VK} {QP:AV->AH->Prop} {h:AH} {x0:AV} {vr dd:Nat} {y:Row×AV}
theorem LQ(hW:∀id,h.next<=id->W id)(bS:h.obj vr=some (aN (ay y) 6 42))(ha:cH Arg.enc 2 44 h y.2 y.1.args)(hl:y.1.args.length<=100000000)
  (he:y.1.args.any (fun a=>a.index != -1)=true->∀h',Fr h h' (fun _=>False)->QR [I 112] h')
  (hk:y.1.args.any (fun a=>a.index != -1)=false->∀h',Fr h h' (fun _=>False)->gq.bC W QR QN QE QP x0 (.ptr vr 0) (.ptr dd 0) h'):gq.cn W QR QN QE QP x0 (.ptr vr 0) (.ptr dd 0) h:=by
 unfold gq.cn
 simp only[ag,au,bS,ao,zG,ay,zA,zB,ab,ha.len.1,ha.len.2,zH]
 unfold gq.cb
 refine bU (ι:=Nat) (fun i v h'=>v=[x0,.ptr vr 0,.ptr dd 0,y.2,I y.1.args.length,I i]/\i<=y.1.args.length/\Fr h h' (fun _=>False)/\∀j a,j<i->y.1.args[j]?=some a->(a.index != -1)=false) (fun i=>y.1.args.length-i) 0 ⟨rfl,by omega,Fr.refl,fun j a h=>by omega⟩ ?_
 rintro K i v h' ⟨rfl,hi,hf,hb⟩ hK
 simp only[gq.fY,zN,zO]
 by_cases aR:i<y.1.args.length
 ·have eh:(i:Int)<y.1.args.length:=by omega
  have g1:y.1.args[i]?=some y.1.args[i]:=zJ aR
  have w1:IntKind.i64.wrap ((i:Int)+1)=((i+1:Nat):Int):=by rw[aS (by omega) (by omega)];simp
  generalize y.1.args[i]=g at *
  simp only[gq.bW,aZ,zL eh,gq.cp,aj,zD,zF,zC,zI,gq.b_]
  refine fV (ha.aU hf) Arg.bL (Arg.iE g) g1 rfl rfl (fun id hid=>hW id (zR hf.next hid)) fun vn h1 f1 rM ov=>?_
  have HF:=hf.bX f1
  simp only[gq.bQ,ag,au,ov,ao,zG,Arg.enc,zA,zB,ab,b5]
  cases hx:(g.index != -1) with
  |true=>
   simp only[gq.bO,aj,zD,zF,zC,zI]
   exact he (V4 g1 hx) h1 HF
  |false=>
   simp only[gq.bO,aj,zE,zD,zC,zH,gq.bz,aT,w1]
   refine hK (i+1) _ _ (by omega) ⟨rfl,by omega,HF,fun j a hj kU=>?_⟩
   rcases Nat.lt_succ_iff_lt_or_eq.1 hj with h1 |h1
   ·exact hb j a h1 kU
   ·subst h1;rw[g1]at kU;cases kU;exact hx
 ·have dA:¬(i:Int)<y.1.args.length:=by omega
  simp only[gq.bW,aZ,zK dA,gq.cp,aj,zD,zE,zC,zH,zV,zN,zO]
  exact hk (V3 fun j a kU=>hb j a (by have:=(zM.1 kU).1;omega) kU) h' hf
theorem Jh(hW:∀id,h.next<=id->W id)(hWd:W dd)(bS:h.obj vr=some (aN (ay y) 6 42))(ha:cH Arg.enc 2 44 h y.2 y.1.args)(hl:y.1.args.length<=100000000){d:bY}(hd:h.obj dd=some (wL aW d))
  (he:tz (y.1.args.map (·.name))=true->∀h',Fr h h' (·=dd)->QR [I 113] h')
  (hk:tz (y.1.args.map (·.name))=false->∀xp h',h'.obj dd=some (wL xp d)->bN hZ 1 9 h' xp (y.1.args.map (·.name))->Fr h h' (·=dd)->gq.n2 W QR QN QE QP x0 (.ptr vr 0) (.ptr dd 0) h'):gq.bC W QR QN QE QP x0 (.ptr vr 0) (.ptr dd 0) h:=by
 unfold gq.bC
 refine Ac (enc:=Sb) fun sm h1 os KF f1=>?_
 have j7:=f1.bM bS
 have Dq:=f1.bM hd
 unfold gq.bD
 simp only[ag,au,j7,ao,zG,ay,zA,zB,ab,ha.len.1,ha.len.2,zH]
 have pd:dd<h.next:=h.lt _ _ hd
 unfold gq.bt
 refine bU (ι:=Nat) (fun i v h'=>v=[x0,.ptr vr 0,.ptr dd 0,.mp sm,y.2,I y.1.args.length,I i]/\i<=y.1.args.length/\Fr h h' (·=dd) /\
  (∃sl:List (ByteArray×AV),h'.obj sm=some (lQ Sb 120 sl)/\sl.map (·.1)=(y.1.args.take i).map (·.name)) /\
  (∃xp,h'.obj dd=some (wL xp d)/\bN hZ 1 9 h' xp ((y.1.args.take i).map (·.name))/\cP (fun id=>h.next<=id/\id≠sm) xp) /\
  ∀j a,j<i->(y.1.args.map (·.name))[j]?=some a->eV a ((y.1.args.map (·.name)).take j)=false) (fun i=>y.1.args.length-i) 0
  ⟨rfl,by omega,f1.mono fun _ h=>h.elim,⟨[],os,rfl⟩,⟨aW,Dq,.nil,fun _ _ _ he=>by cases he⟩,fun j a h=>by omega⟩ ?_
 rintro K i v h' ⟨rfl,hi,hf,⟨sl,oJ,oI⟩,⟨xp,X6,p_,Bm⟩,hb⟩ hK
 simp only[gq.cB,zN,zO]
 have hda:∀{h2},Fr h h2 (·=dd)->cH Arg.enc 2 44 h2 y.2 y.1.args:=fun hf=>ha.fr hf fun id o ho qC e=>by
  subst e;rw[hd]at ho;cases ho;exact absurd (qC rfl) (show ¬(91:Nat)=44 by decide)
 by_cases aR:i<y.1.args.length
 ·have eh:(i:Int)<y.1.args.length:=by omega
  have g1:y.1.args[i]?=some y.1.args[i]:=zJ aR
  have w1:IntKind.i64.wrap ((i:Int)+1)=((i+1:Nat):Int):=by rw[aS (by omega) (by omega)];simp
  have tk:(y.1.args.take (i+1)).map (·.name)=(y.1.args.take i).map (·.name)++[(y.1.args[i]).name]:=by rw[List.take_succ_eq_append_getElem aR,List.map_append];rfl
  have Ld:(y.1.args.map (·.name))[i]?=some (y.1.args[i]).name:=by rw[List.getElem?_map,g1];rfl
  generalize y.1.args[i]=g at *
  simp only[gq.bc,aZ,zL eh,gq.a_,aj,zD,zF,zC,zI,gq.aQ]
  refine fV (hda hf) Arg.bL (Arg.iE g) g1 rfl rfl (fun id hid=>hW id (zR hf.next hid)) fun vn h2 f2 rM ov=>?_
  have Cs:=f2.bM oJ
  unfold gq.n9
  simp only[ag,au,ov,ao,zG,Arg.enc,zA,ab]
  refine iQ (enc:=Sb) jP z3 Cs fun _=>?_
  obtain⟨zz,ez⟩:=C_ (z:=I 0) (fl g.name sl)
  rw[ez,lN,oI]
  simp only[dN,zA,zB,ab]
  rw[List.map_take]
  cases hx:eV g.name ((y.1.args.map (·.name)).take i) with
  |true=>
   simp only[gq.n8,gq.n7,aj,zD,zF,zC,zI]
   exact he (ul Ld hx) h2 (hf.trans (f2.mono fun _ h=>h.elim))
  |false=>
   simp only[gq.n8,gq.n7,aj,zE,zD,zC,zH,gq.n5,ag,au,ov,ao,zG,Arg.enc,zA,ab]
   have jF:fl g.name sl=none:=by
    have:=lN (n:=g.name) (l:=sl)
    rw[oI,List.map_take,hx]at this
    cases hy:fl g.name sl with
    |none=>rfl
    |some _=>rw[hy]at this;cases this
   have hWm:∀{h3:AH},h.next<=h3.next->∀id,h.next<=id->W id:=fun _ id hid=>hW id hid
   refine uC (enc:=Sb) jP (hW sm KF) Cs jF fun h3 Po f3=>?_
   have ZY:=f2.bM X6
   have e3:dd≠sm:=by omega
   have UF:h3.obj dd=some (wL xp d):=f3.obj ZY e3
   have nh:h3.obj vn=some (aN g.enc 2 44):=f3.obj ov (ci ov Cs (show(44:Nat)≠120 by decide))
   simp only[gq.n4,aD,ag,au,UF,nh,ao,zG,Arg.enc,zA,zB,ab]
   have jJ:bN hZ 1 9 h3 xp ((y.1.args.take i).map (·.name)):=by
    rcases p_ with p_ |⟨id,e,ho⟩
    ·exact .inl p_
    ·exact .inr ⟨id,e,f3.obj (f2.bM ho) (Bm id 0 _ e).2⟩
   refine pB (f:=hZ) Al (by decide) rfl (by decide) rfl (NW _) jJ (fun id off n e=>hW id (Bm id off n e).1) (by rw[zZ,yA];omega) fun y2 h4 KA iB f4=>?_
   have Yy:h4.obj dd=some (wL xp d):=f4.obj UF fun⟨off,n,e⟩=>by have:=(Bm dd off n e).1;omega
   simp only[aD,ag,zG,aF,Yy,bG,KA.cF.one.2]
   refine⟨⟨hWd,by rw[List.all_cons,KA.cF.one.1];rfl,rfl,by simp⟩,?_⟩
   have f5:Fr h4 (h4.put dd 1 [y2]) (·=dd):=Fr.refl.put (.inl rfl)
   have o5:=cX (off:=1) (cs:=[y2]) Yy
   generalize h4.put dd 1 [y2]=h5 at *
   simp only[gq.n3,aT,w1]
   have sm4:h4.obj sm=some (lQ Sb 120 (sl++[(g.name,I i)])):=f4.obj Po fun⟨off,n,e⟩=>(Bm sm off n e).2 rfl
   have n3:h.next<=h3.next:=zR (zR hf.next f2.next) f3.next
   have fz:Fr h h5 (·=dd):=by
    refine(((hf.trans (f2.mono fun _ h=>h.elim)).trans (f3.mono fun id e=>.inr (by rw[e];exact KF))).trans (f4.mono fun id ⟨off,n,e⟩=>.inr (Bm id off n e).1)).trans (f5.mono fun id e=>.inl e)
   refine hK (i+1) _ _ (by omega) ⟨rfl,by omega,fz,⟨_,f5.obj sm4 (fun e=>e3 e.symm),by rw[List.map_append,oI,tk];rfl⟩,⟨y2,o5,?_,fun id off n e=>?_⟩,fun j a hj kU=>?_⟩
   ·rw[tk]
    rcases KA with KA |⟨id,e,ho⟩
    ·exact .inl KA
    ·exact .inr ⟨id,e,f5.obj ho (by have:=iB id 0 _ e;omega)⟩
   ·have:=iB id off n e
    refine⟨by omega,?_⟩
    have:sm<h3.next:=h3.lt _ _ Po
    have:=iB id off n e
    omega
   ·rcases Nat.lt_succ_iff_lt_or_eq.1 hj with h1 |h1
    ·exact hb j a h1 kU
    ·subst h1;rw[Ld]at kU;cases kU;exact hx
 ·have dA:¬(i:Int)<y.1.args.length:=by omega
  have ht:y.1.args.take i=y.1.args:=List.take_of_length_le (by omega)
  rw[ht]at p_
  simp only[gq.bc,aZ,zK dA,gq.a_,aj,zD,zE,zC,zH,zV,zN,zO]
  exact hk (x_ fun j a kU=>hb j a (by have:=(zM.1 kU).1;rw[zZ]at this;omega) kU) xp h' X6 p_ hf
end
end
section
open Go.Ab
attribute [-simp] aX aF
theorem Oa{l:List bY}{ids:List Nat}{d:bY}{id:Nat}(h:ids.length=l.length):ls (l++[d]) (ids++[id])=ls l ids++[(d.name,.ptr id 0)]:=by
 unfold ls
 rw[List.zip_append h.symm,List.map_append];rfl
section
variable {h:AH} {M:Nat->Prop} {R:AE->AH->Prop} {n0 p:Nat} {xr:AV} {bk:Bk} {ids:List Nat} {qm bm gm:Nat} {pl:Int}
theorem Lu{y:Row×AV}{i:Int}(pa:PA n0 h p xr bk ids qm bm gm pl)(ha:cH Arg.enc 2 44 h y.2 y.1.args)(hl:y.1.args.length<=100000000)
  (hi:0<=i/\i<=1000000000) (hr:0<=y.1.rows/\y.1.rows<=1000000000) (hM:∀id,TW TP n0 h id->M id)
  (he:∀e h',pz bk y.1 i=.error e->Fr h h' (fun _=>False)->R (.ret (I e)) h')
  (hk:∀bR id h',pz bk y.1 i=.ok bR->PA n0 h' p xr bR (ids++[id]) qm bm gm pl->Fr h h' (TW TP n0 h)->R (.ret (I 0)) h') :
  aE Pg 61 [.ptr p 0,.agg (ay y),I i] h M R:=by
 apply gq.aM
 unfold gq.cT
 refine dB (pt ha) fun vr h1 f1 iz bS=>?_
 unfold gq.da
 have lD:=pa.aU f1
 simp only[ag,au,bS,ao,zG,ay,zA,zB,ab]
 refine⟨fun _=>False,fun _ h=>h.elim,zn lD.p rfl rfl rfl lD.m fun h2 f2=>?_⟩
 have cw:=f1.bX f2
 have eP:=lD.aU f2
 have ju:=f2.bM bS
 have ji:=ha.aU cw
 unfold pz at he hk
 cases j8:gN bk y.1.name with
 |true=>
  have:=he 110 h2 (by rw[j8];rfl) cw
  simpa[gq.cK,gq.cz] using this
 |false=>
  rw[j8]at he hk
  simp only[zE,if_false]at he hk
  simp only[gq.cK,aj,zE,zC,zD,zH,gq.cy,ag,au,ju,ao,zG,ay,zA,zB,ab,ji.len.1,ji.len.2,eG]
  by_cases k1:y.1.args.length=0
  ·have:=he 111 h2 (by rw[zX k1]) cw
   have eK:((y.1.args.length:Int)==0)=true:=by rw[k1];rfl
   simpa[gq.bV,gq.cl,eK] using this
  ·rw[zW k1]at he hk
   have eK:((y.1.args.length:Int)==0)=false:=by simpa using k1
   have w1:IntKind.i64.wrap (i+1)=i+1:=aS (by omega) (by omega)
   have w2:IntKind.i64.wrap (i+1+y.1.rows)=i+1+y.1.rows:=aS (by omega) (by omega)
   simp only[eK,gq.bV,aj,zE,zC,zD,zH,gq.cj,ag,au,ju,ao,zG,ay,zA,zB,ab,aT,w1,w2]
   refine⟨_,rfl,?_⟩
   refine dB (cs:=[Sb y.1.name,aW,I (i+1),I (i+1+y.1.rows),I 1,I 0,B false]) rfl fun dd h3 f3 lI od=>?_
   have dR:=cw.bX f3
   have jM:=f3.bM ju
   refine LQ (fun id hid=>.inr (zR dR.next hid)) jM (ha.aU dR) hl ?_ ?_
   ·intro hx h4 f4
    have:=he 112 h4 (by rw[zX hx]) (dR.bX f4)
    simpa using this
   ·intro hx h4 f4
    rw[zW (by rw[hx];decide)]at he hk
    have iT:=dR.bX f4
    have XO:h4.obj dd=some (wL aW ⟨y.1.name,[],i+1,i+1+y.1.rows,1,0,false⟩):=f4.bM od
    have yN:h.next<=dd:=zR cw.next lI
    refine Jh (fun id hid=>.inr (zR iT.next hid)) (.inr yN) (f4.bM jM) (ha.aU iT) hl XO ?_ ?_
    ·intro hx h5 f5
     have fz:Fr h h5 (fun _=>False):=iT.trans (f5.mono fun id e=>.inr (by rw[e];exact yN))
     have:=he 113 h5 (by rw[zX hx]) fz
     simpa using this
    ·intro hx xp h5 od5 hp5 f5
     rw[zW (by rw[hx];decide)]at hk
     have qM:Fr h h5 (fun _=>False):=iT.trans (f5.mono fun id e=>.inr (by rw[e];exact yN))
     have sA:=pa.aU qM
     have G_:h5.obj vr=some (aN (ay y) 6 42):=f5.obj (f4.bM jM) (ci (f4.bM jM) XO (show(42:Nat)≠91 by decide))
     unfold gq.n2
     simp only[aD,ag,au,sA.p,G_,ao,zG,ay,zA,zB,ab]
     have Bo:fl y.1.name (ls bk.ds ids)=none:=by
      unfold gN at j8
      simp only[Bool.or_eq_false_iff]at j8
      have h1:=j8.1.2
      rcases nH (n:=y.1.name) pa.m.len with⟨h2,_⟩ |⟨k,d,id,h2,h3,_⟩
      ·exact h2
      ·rw[h3]at h1;cases h1
     have g0:=pa.m.g
     refine uC (enc:=Sb) jP (.inl (hM _ ⟨pa.n.2.2.2.1,_,g0,rfl,rfl⟩)) sA.m.g Bo fun h6 og f6=>?_
     have nV:Fr h h6 (TW TP n0 h):=TW.trans (TW.aO qM) (TW.iO f6 pa.n.2.2.2.1 sA.m.g rfl rfl)
     have Ns:∀id∈ids,id<h.next:=fun id hid=>by
      obtain⟨k,hk,rfl⟩:=List.mem_iff_getElem.1 hid
      obtain⟨xp,h1,_⟩:=pa.m.d k _ _ (zJ (by rw[<-pa.m.len];exact hk)) (zJ hk)
      exact h.lt _ _ h1
     have h0n:n0<=h.next:=zR pa.n.1 (Nat.le_of_lt (h.lt _ _ pa.p))
     have dH:∀{j:Nat}{o:AO},h5.obj j=some o->o.ty≠64->h6.obj j=some o:=fun ho du=>f6.obj ho (ci ho sA.m.g du)
     have:=hk _ dd h6 rfl ⟨⟨pa.n.1,pa.n.2.1,pa.n.2.2.1,pa.n.2.2.2.1,fun id hid=>?_⟩,dH sA.p (show(66:Nat)≠64 by decide),⟨dH sA.m.q (show(63:Nat)≠64 by decide),dH sA.m.b (show(63:Nat)≠64 by decide),by rw[Oa pa.m.len];exact og,by rw[List.length_append,List.length_append,pa.m.len];rfl,fun k d id hd hi=>?_,?_,pa.m.qb⟩⟩ nV
     ·simpa using this
     ·rcases List.mem_append.1 hid with hid |hid
      ·exact pa.n.2.2.2.2 id hid
      ·simp only[List.mem_singleton]at hid;subst hid;exact zR h0n yN
     ·have mk:∀{id:Nat}{d:bY},tj h5 id d->tj h6 id d:=fun a=>a.fr f6 fun i o ho ht e=>by
       subst e
       rw[sA.m.g]at ho;cases ho
       rcases ht with ht |ht
       ·exact absurd ht (show ¬(64:Nat)=91 by decide)
       ·exact absurd ht (show ¬(64:Nat)=9 by decide)
      by_cases hk:k<bk.ds.length
      ·rw[List.getElem?_append_left hk]at hd
       rw[List.getElem?_append_left (by rw[pa.m.len];exact hk)]at hi
       exact mk (sA.m.d k d id hd hi)
      ·rw[List.getElem?_append_right (by omega)]at hd
       rw[List.getElem?_append_right (by rw[pa.m.len];omega),pa.m.len]at hi
       have KM:k-bk.ds.length=0:=by
        have:=(zM.1 hd).1
        simp at this;omega
       rw[KM]at hd hi
       simp only[zA,zQ]at hd hi
       subst hd;subst hi
       exact mk ⟨xp,od5,hp5⟩
     ·rw[List.nodup_append]
      refine⟨pa.m.nd,by simp,fun a ha b hb=>?_⟩
      simp only[List.mem_singleton]at hb
      subst hb
      have:=Ns a ha
      omega
end
end
section
open Go.Ab
attribute [-simp] aX aF
theorem Vo:kW Pg 44=some [true,false]:=by kernel_rfl
abbrev Cy(x:ByteArray×Int):AV:=.agg [Sb x.1,I x.2]
theorem PF:vg Pg 44 Cy:=RJ Vo
theorem qQ:rK Pg 87=true:=by kernel_rfl
def mz(ids:List Nat)(own:Option Nat)(x:AV):Prop:=match own with |none=>x=.sc (.pointer none) |some k=>∃id,ids[k]?=some id/\x=.ptr id 0
theorem xj{f:Arg->Int}:∀{l:List Arg}{i:Nat}{a:Arg},l[i]?=some a->f a≠0->(∀j b,j<i->l[j]?=some b->f b=0)->fN f l=f a
 |[],i,a,h,_,_=>by simp at h
 |b::l,0,a,h,h1,_=>by simp only[zA,zQ]at h;subst h;simp[fN,h1]
 |b::l,i+1,a,h,h1,h2=>by
  have:=h2 0 b (by omega) rfl
  simp only[fN,this]
  rw[zW (by decide)]
  exact xj (by simpa using h) h1 fun j c hj hc=>h2 (j+1) c (by omega) (by simpa using hc)
theorem xi{f:Arg->Int}:∀{l:List Arg},(∀(j:Nat)(b:Arg),l[j]?=some b->f b=0)->fN f l=0
 |[],_=>rfl
 |b::l,h=>by
  have:=h 0 b rfl
  simp only[fN,this]
  rw[zW (by decide)]
  exact xi fun j c hc=>h (j+1) c (by simpa using hc)
section
variable {W:Nat->Prop} {QR QN:VK} {QE:Nat->VK} {QP:AV->AH->Prop} {h:AH} {n0 p vr:Nat} {xr x2:AV} {bk:Bk} {ids:List Nat} {qm bm gm:Nat} {pl:Int} {y:Row×AV} {own:Option Nat} {n dp:Int}
theorem Sg(hW:∀id,h.next<=id->W id)(bS:h.obj vr=some (aN (ay y) 6 42))(ha:cH Arg.enc 2 44 h y.2 y.1.args)(hl:y.1.args.length<=100000000)
  (he:tA y.1.args=true->∀h',Fr h h' (fun _=>False)->QR [I 113] h')
  (hk:tA y.1.args=false->∀h',Fr h h' (fun _=>False)->cU.n7 W QR QN QE QP x2 (I dp) h'):cU.bQ W QR QN QE QP x2 (.ptr vr 0) (I dp) h:=by
 unfold cU.bQ
 refine Ac (enc:=Cy) fun sm h1 os KF f1=>?_
 unfold cU.bO
 simp only[ag,au,f1.bM bS,ao,zG,ay,zA,zB,ab,ha.len.1,ha.len.2,zH]
 unfold cU.bH
 refine bU (ι:=Nat) (fun i v h'=>v=[x2,I dp,.mp sm,y.2,I y.1.args.length,I i]/\i<=y.1.args.length/\Fr h h' (fun _=>False) /\
  (∃sl:List ((ByteArray×Int)×AV),h'.obj sm=some (lQ Cy 144 sl)/\sl.map (·.1)=(y.1.args.take i).map eM) /\
  ∀j a,j<i->(y.1.args.map eM)[j]?=some a->eV a ((y.1.args.map eM).take j)=false) (fun i=>y.1.args.length-i) 0
  ⟨rfl,by omega,f1,⟨[],os,rfl⟩,fun j a h=>by omega⟩ ?_
 rintro K i v h' ⟨rfl,hi,hf,⟨sl,oJ,oI⟩,hb⟩ hK
 simp only[cU.cB,zN,zO]
 by_cases aR:i<y.1.args.length
 ·have eh:(i:Int)<y.1.args.length:=by omega
  have g1:y.1.args[i]?=some y.1.args[i]:=zJ aR
  have w1:IntKind.i64.wrap ((i:Int)+1)=((i+1:Nat):Int):=by rw[aS (by omega) (by omega)];simp
  have tk:(y.1.args.take (i+1)).map eM=(y.1.args.take i).map eM++[eM y.1.args[i]]:=by rw[List.take_succ_eq_append_getElem aR,List.map_append];rfl
  have Ld:(y.1.args.map eM)[i]?=some (eM y.1.args[i]):=by rw[List.getElem?_map,g1];rfl
  generalize y.1.args[i]=g at *
  simp only[cU.bz,aZ,zL eh,cU.bC,aj,zD,zF,zC,zI,cU.bD]
  refine fV (ha.aU hf) Arg.bL (Arg.iE g) g1 rfl rfl (fun id hid=>hW id (zR hf.next hid)) fun vn h2 f2 rM ov=>?_
  have Cs:=f2.bM oJ
  unfold cU.bt
  refine di ov rfl fun _=>?_
  have ek:AV.agg g.enc=Cy (eM g):=rfl
  rw[ek]
  refine iQ (enc:=Cy) PF z3 Cs fun _=>?_
  obtain⟨zz,ez⟩:=C_ (z:=I 0) (fl (eM g) sl)
  rw[ez,lN,oI]
  simp only[dN,zA,zB,ab]
  rw[List.map_take]
  cases hx:eV (eM g) ((y.1.args.map eM).take i) with
  |true=>
   simp only[cU.bc,cU.a_,aj,zD,zF,zC,zI]
   exact he (ul Ld hx) h2 (hf.bX f2)
  |false=>
   simp only[cU.bc,cU.a_,aj,zE,zD,zC,zH]
   unfold cU.n9
   refine di ov rfl fun _=>?_
   have jF:fl (eM g) sl=none:=by
    have:=lN (n:=eM g) (l:=sl)
    rw[oI,List.map_take,hx]at this
    cases hy:fl (eM g) sl with
    |none=>rfl
    |some _=>rw[hy]at this;cases this
   refine uC (enc:=Cy) PF (hW sm KF) Cs jF fun h3 Po f3=>?_
   simp only[cU.n8,aT,w1]
   refine hK (i+1) _ _ (by omega) ⟨rfl,by omega,?_,⟨_,Po,by rw[List.map_append,oI,tk];rfl⟩,fun j a hj kU=>?_⟩
   ·exact(hf.bX f2).trans (f3.mono fun id e=>.inr (by rw[e];exact KF))
   ·rcases Nat.lt_succ_iff_lt_or_eq.1 hj with h1 |h1
    ·exact hb j a h1 kU
    ·subst h1;rw[Ld]at kU;cases kU;exact hx
 ·have dA:¬(i:Int)<y.1.args.length:=by omega
  simp only[cU.bz,aZ,zK dA,cU.bC,aj,zD,zE,zC,zH,zV,zN,zO]
  exact hk (x_ fun j a kU=>hb j a (by have:=(zM.1 kU).1;rw[zZ]at this;omega) kU) h' hf
theorem mz.cases(pm:PM h bk ids qm bm gm)(ho:mz ids own x2):(own=none/\gC bk own=none/\x2=.sc (.pointer none))\/∃k id d,own=some k/\gC bk own=some d/\bk.ds[k]?=some d/\ids[k]?=some id/\x2=.ptr id 0/\tj h id d:=by
 cases own with
 |none=>exact .inl ⟨rfl,rfl,ho⟩
 |some k=>
  obtain⟨id,h1,h2⟩:=ho
  have hk:k<bk.ds.length:=by rw[<-pm.len];exact(zM.1 h1).1
  have h3:=zJ hk
  exact .inr ⟨k,id,_,rfl,h3,h3,h1,h2,pm.d k _ id h3 h1⟩
theorem OE(hW:∀id,h.next<=id->W id)(pa:PA n0 h p xr bk ids qm bm gm pl)(ho:mz ids own x2)(bS:h.obj vr=some (aN (ay y) 6 42))(ha:cH Arg.enc 2 44 h y.2 y.1.args)(hl:y.1.args.length<=100000000)
  (jJ:∀d∈bk.ds,d.params.length<=100000000)
  (he:fN (eZ bk (gC bk own)) y.1.args≠0->∀h',Fr h h' (fun _=>False)->QR [I (fN (eZ bk (gC bk own)) y.1.args)] h')
  (hk:fN (eZ bk (gC bk own)) y.1.args=0->∀h',Fr h h' (fun _=>False)->cU.bQ W QR QN QE QP x2 (.ptr vr 0) (I dp) h'):cU.eJ W QR QN QE QP (.ptr p 0) x2 (.ptr vr 0) (I dp) h:=by
 unfold cU.eJ
 simp only[ag,au,bS,ao,zG,ay,zA,zB,ab,ha.len.1,ha.len.2,zH]
 unfold cU.ed
 refine bU (ι:=Nat) (fun i v h'=>v=[.ptr p 0,x2,.ptr vr 0,I dp,y.2,I y.1.args.length,I i]/\i<=y.1.args.length/\Fr h h' (fun _=>False) /\
  ∀j a,j<i->y.1.args[j]?=some a->eZ bk (gC bk own) a=0) (fun i=>y.1.args.length-i) 0 ⟨rfl,by omega,Fr.refl,fun j a h=>by omega⟩ ?_
 rintro K i v h' ⟨rfl,hi,hf,hb⟩ hK
 simp only[cU.fY,zN,zO]
 by_cases aR:i<y.1.args.length
 ·have eh:(i:Int)<y.1.args.length:=by omega
  have g1:y.1.args[i]?=some y.1.args[i]:=zJ aR
  have w1:IntKind.i64.wrap ((i:Int)+1)=((i+1:Nat):Int):=by rw[aS (by omega) (by omega)];simp
  generalize y.1.args[i]=g at *
  simp only[cU.dV,aZ,zL eh,cU.dT,aj,zD,zF,zC,zI,cU.dW]
  refine fV (ha.aU hf) Arg.bL (Arg.iE g) g1 rfl rfl (fun id hid=>hW id (zR hf.next hid)) fun vn h2 f2 rM ov=>?_
  have cw:=hf.bX f2
  have eP:=pa.aU cw
  have bad:∀h3,Fr h h3 (fun _=>False)->eZ bk (gC bk own) g≠0->QR [I (eZ bk (gC bk own) g)] h3:=fun h3 f3 du=>by
   have e:=xj g1 du hb
   have:=he (by rw[e];exact du) h3 f3
   rwa [e]at this
  have lR:∀h3,Fr h h3 (fun _=>False)->eZ bk (gC bk own) g=0->∀YJ,cU.b_ W QR K YJ QP (.ptr p 0) x2 (.ptr vr 0) (I dp) y.2 (I y.1.args.length) (I i) h3:=fun h3 f3 h0 YJ=>by
   simp only[cU.b_,aT,w1]
   refine hK (i+1) _ _ (by omega) ⟨rfl,by omega,f3,fun j a hj kU=>?_⟩
   rcases Nat.lt_succ_iff_lt_or_eq.1 hj with h1 |h1
   ·exact hb j a h1 kU
   ·subst h1;rw[g1]at kU;cases kU;exact h0
  rcases ho.cases eP.m with⟨_,e2,rfl⟩ |⟨k,id,d,_,e2,pb,_,rfl,xp,od,hp⟩
  ·rw[e2]at bad lR
   unfold eZ at bad lR
   simp only at bad lR
   simp only[cU.dx,ah,qQ,zH,cU.cT,aj,zD,zF,zC,zI,cU.da,aD,ag,au,eP.p,ao,zG,zA,zB,ab]
   refine di ov rfl fun _=>?_
   refine⟨fun _=>False,fun _ h=>h.elim,DZ eP.m.q fun h3 f3=>?_⟩
   have dR:=cw.bX f3
   by_cases hz:gB bk.qs g=0
   ·have Kz:(gB bk.qs g != 0)=false:=by simp[hz]
    simp only[cU.cK,b5,Kz,cU.cz,aj,zE,zD,zC,zH,cU.bV]
    exact lR h3 dR hz _
   ·have Kz:(gB bk.qs g != 0)=true:=by simp[hz]
    simp only[cU.cK,b5,Kz,cU.cz,aj,zD,zF,zC,zI]
    exact bad h3 dR hz
  ·rw[e2]at bad lR
   unfold eZ at bad lR
   simp only at bad lR
   have hdm:=jJ d (zP pb)
   simp only[cU.dx,ah,qQ,zH,cU.cT,aj,zE,zD,zC,cU.cl,ag,au,ov,ao,zG,Arg.enc,zA,zB,ab]
   by_cases hx:g.index=-1
   ·have wT:(g.index != -1)=false:=by simp[hx]
    rw[zW (by simpa using hx)]at bad lR
    simp only[wT,cU.cj,aj,zE,zD,zC,zH,cU.cb,aD,ag,au,od,ov,ao,zG,Arg.enc,zA,zB,ab]
    refine⟨fun _=>False,fun _ h=>h.elim,Ga hp.cF (by omega) ?_⟩
    cases hm:eV g.name d.params with
    |true=>
     rw[hm]at bad lR
     simp only[dq,zS,cU.bW,aj,zE,zD,zC,zH]
     exact lR h2 cw rfl _
    |false=>
     rw[hm]at bad lR
     simp only[dq,zT,cU.bW,aj,zD,zF,zC,zI]
     exact bad h2 cw (by decide)
   ·have wT:(g.index != -1)=true:=by simp[hx]
    rw[zX hx]at bad
    simp only[wT,cU.cj,aj,zD,zF,zC,zI]
    exact bad h2 cw (by decide)
 ·have dA:¬(i:Int)<y.1.args.length:=by omega
  simp only[cU.dV,aZ,zK dA,cU.dT,aj,zD,zE,zC,zH,zV,zN,zO]
  exact hk (xi fun j a kU=>hb j a (by have:=(zM.1 kU).1;omega) kU) h' hf
end
end
section
open Go.Ab
attribute [-simp] aX aF
theorem xD(n:ByteArray):0<=cu n/\cu n<=3:=by
 unfold cu
 split
 ·rename_i x hx
  have key:∀x∈lO,0<=x.2.1/\x.2.1<=3:=by decide +kernel
  exact key x (List.mem_of_find?_eq_some hx)
 ·omega
theorem getElem?_modify'{α:Type}{f:α->α}{l:List α}{k j:Nat}:(l.modify k f)[j]?=if k=j then(l[j]?).map f else l[j]?:=by
 rw[List.getElem?_modify]
 by_cases h:k=j
 ·simp[h]
 ·simp[h]
theorem MU{l:List Nat}(h:l.Nodup){i j:Nat}{a:Nat}(hi:l[i]?=some a)(hj:l[j]?=some a):i=j:=by
 obtain⟨h1,h2⟩:=zM.1 hi
 obtain⟨h3,h4⟩:=zM.1 hj
 have hp:=List.pairwise_iff_getElem.1 h
 rcases Nat.lt_trichotomy i j with aR |he |aR
 ·exact absurd (h2.trans h4.symm) (hp i j h1 h3 aR)
 ·exact he
 ·exact absurd (h4.trans h2.symm) (hp j i h3 h1 aR)
theorem ze{f:bY->bY}(hf:∀d,(f d).name=d.name):∀{l:List bY}{ids:List Nat}{k:Nat},ls (l.modify k f) ids=ls l ids
 |[],_,k=>by simp[ls]
 |d::l,[],0=>by simp[ls]
 |d::l,[],k+1=>by simp[ls]
 |d::l,id::ids,0=>by simp[ls,hf]
 |d::l,id::ids,k+1=>by
  have:=ze hf (l:=l) (ids:=ids) (k:=k)
  unfold ls at *
  simp only[List.modify_succ_cons,List.zip_cons_cons,List.map_cons,this]
section
variable {h:AH} {n0 p:Nat} {xr:AV} {bk:Bk} {ids:List Nat} {qm bm gm:Nat} {pl:Int}
theorem PA.zq{h':AH}{k id:Nat}{d:bY}{f:bY->bY}{xp:AV}(pa:PA n0 h p xr bk ids qm bm gm pl)(hd:bk.ds[k]?=some d)(hi:ids[k]?=some id)(hp:bN hZ 1 9 h xp d.params)(hn:∀d,(f d).name=d.name)(hpr:(f d).params=d.params)
  (ho:h'.obj id=some (wL xp (f d))) (hf:Fr h h' (·=id)):PA n0 h' p xr { bk with ds:=bk.ds.modify k f } ids qm bm gm pl/\Fr h h' (TW TP n0 h):=by
 obtain⟨Xy,hid,_⟩:=pa.m.d k d id hd hi
 have dH:∀{j:Nat}{o:AO},h.obj j=some o->o.ty≠91->h'.obj j=some o:=fun ho du=>hf.obj ho (ci ho hid du)
 refine⟨⟨pa.n,dH pa.p (show(66:Nat)≠91 by decide),⟨dH pa.m.q (show(63:Nat)≠91 by decide),dH pa.m.b (show(63:Nat)≠91 by decide),?_,by simp[pa.m.len],fun j e i h1 h2=>?_,pa.m.nd,pa.m.qb⟩⟩,TW.iO hf (pa.n.2.2.2.2 id (zP hi)) hid rfl rfl⟩
 ·simp only
  rw[ze hn]
  exact dH pa.m.g (show(64:Nat)≠91 by decide)
 ·simp only at h1
  rw[getElem?_modify']at h1
  have kp:∀{x:AV}{l:List ByteArray},bN hZ 1 9 h x l->bN hZ 1 9 h' x l:=fun hs=>by
   rcases hs with hs |⟨i,h3,h4⟩
   ·exact .inl hs
   ·exact .inr ⟨i,h3,dH h4 (show(9:Nat)≠91 by decide)⟩
  by_cases hk:k=j
  ·subst hk
   rw[zX rfl,hd]at h1
   cases h1
   rw[hi]at h2;cases h2
   exact⟨xp,ho,by rw[hpr];exact kp hp⟩
  ·rw[zW hk]at h1
   obtain⟨x2,h3,h4⟩:=pa.m.d j e i h1 h2
   have du:i≠id:=fun e=>by
    subst e
    exact hk (MU pa.m.nd hi h2)
   exact⟨x2,hf.obj h3 du,kp h4⟩
end
section
variable {W:Nat->Prop} {QR QN:VK} {QE:Nat->VK} {QP:AV->AH->Prop} {h:AH} {n0 p vr:Nat} {xr x2:AV} {bk:Bk} {ids:List Nat} {qm bm gm:Nat} {pl:Int} {y:Row×AV} {own:Option Nat} {dp:Int}
theorem Sf(hM:∀id,TW TP n0 h id->W id)(pa:PA n0 h p xr bk ids qm bm gm pl)(ho:mz ids own x2)(vI:0<=dp/\dp<=1000)
  (he:own.isSome=true/\32<dp+1->QR [I 102] h)
  (hk:¬(own.isSome=true/\32<dp+1)->∀h',PA n0 h' p xr (jV bk own (dp+1)) ids qm bm gm pl->Fr h h' (TW TP n0 h)->QR [I 0] h'):cU.n7 W QR QN QE QP x2 (I dp) h:=by
 have w1:IntKind.i64.wrap (dp+1)=dp+1:=aS (by omega) (by omega)
 rcases ho.cases pa.m with⟨e1,e2,rfl⟩ |⟨k,id,d,e1,e2,pb,qa,rfl,xp,od,hp⟩
 ·subst e1
  simp only[cU.n7,ah,qQ,zH,cU.n6,aj,zE,zD,zC,cU.n1]
  exact hk (fun h=>by cases h.1) h pa (TW.aO Fr.refl)
 ·subst e1
  simp only[cU.n7,ah,qQ,zH,cU.n6,aj,zD,zF,zC,zI,cU.n5,w1]
  by_cases k1:32<dp+1
  ·simp only[gt_iff_lt,zL k1,cU.n4,aj,zD,zF,zC,zI,cU.n3]
   exact he ⟨rfl,k1⟩
  ·simp only[gt_iff_lt,zK k1,cU.n4,aj,zE,zD,zC,zH,cU.n2,aD,ag,au,od,ao,zG,zA,zB,ab,aT,w1,qy,aF,dC,bG]
   have Ns:=pa.n.2.2.2.2 id (zP qa)
   refine⟨⟨hM id ⟨Ns,_,od,rfl,rfl⟩,rfl,rfl,by simp⟩,?_⟩
   have abQ:(if d.depth<dp+1 then dp+1 else d.depth)=max d.depth (dp+1):=by
    by_cases hh:d.depth<dp+1
    ·rw[zX hh];omega
    ·rw[zW hh];omega
   simp only[zE,if_false,abQ,cU.n1]
   have f1:Fr h (h.put id 4 [I (max d.depth (dp+1))]) (·=id):=Fr.refl.put (.inl rfl)
   have o1:=cX (off:=4) (cs:=[I (max d.depth (dp+1))]) od
   generalize h.put id 4 [I (max d.depth (dp+1))]=h1 at *
   obtain⟨lD,fz⟩:=pa.zq (f:=fun d=>{ d with depth:=max d.depth (dp+1) }) pb qa hp (fun _=>rfl) rfl o1 f1
   exact hk (fun h=>k1 h.2) h1 lD fz
theorem Se(hW:∀id,h.next<=id->W id)(hM:∀id,TW TP n0 h id->W id)(pa:PA n0 h p xr bk ids qm bm gm pl)(ho:mz ids own x2)(bS:h.obj vr=some (aN (ay y) 6 42))(ha:cH Arg.enc 2 44 h y.2 y.1.args)(hl:y.1.args.length<=100000000)
  (jJ:∀d∈bk.ds,d.params.length<=100000000) {n:Int} (vI:0<=dp/\dp<=1000)
  (he:∀e h',(if n=0 then Except.error 80 else if (y.1.args.length:Int)≠n then .error 111 else if fN (eZ bk (gC bk own)) y.1.args≠0 then .error (fN (eZ bk (gC bk own)) y.1.args) else if tA y.1.args then .error 113 else if own.isSome=true/\32<dp+1 then .error 102 else .ok (jV bk own (dp+1)):Er Bk)=.error e->Fr h h' (fun _=>False)->QR [I e] h')
  (hk:∀bR h',(if n=0 then Except.error 80 else if (y.1.args.length:Int)≠n then .error 111 else if fN (eZ bk (gC bk own)) y.1.args≠0 then .error (fN (eZ bk (gC bk own)) y.1.args) else if tA y.1.args then .error 113 else if own.isSome=true/\32<dp+1 then .error 102 else .ok (jV bk own (dp+1)):Er Bk)=.ok bR->PA n0 h' p xr bR ids qm bm gm pl->Fr h h' (TW TP n0 h)->QR [I 0] h') :
  cU.dO W QR QN QE QP (.ptr p 0) x2 (.ptr vr 0) (I n) (I dp) h:=by
 unfold cU.dO
 simp only[eG]
 by_cases k1:n=0
 ·have:=he 80 h (by rw[zX k1]) Fr.refl
  simpa[cU.eu,cU.eC,k1] using this
 rw[zW k1]at he hk
 have eK:(n==0)=false:=by simpa using k1
 simp only[eK,cU.eu,aj,zE,zD,zC,zH,cU.dL,ag,au,bS,ao,zG,ay,zA,zB,ab,ha.len.1,ha.len.2,b5,pq]
 by_cases k2:(y.1.args.length:Int)=n
 ·rw[zW (by simpa using k2)]at he hk
  simp only[zL k2,zS,cU.d_,aj,zE,zD,zC,zH]
  refine OE hW pa ho bS ha hl jJ ?_ ?_
  ·intro h0 h1 f1
   exact he _ h1 (by rw[zX h0]) f1
  ·intro h0 h1 f1
   rw[zW (by simpa using h0)]at he hk
   refine Sg (fun id hid=>hW id (zR f1.next hid)) (f1.bM bS) (ha.aU f1) hl ?_ ?_
   ·intro hx h2 f2
    exact he _ h2 (by rw[zX hx]) (f1.bX f2)
   ·intro hx h2 f2
    rw[zW (by rw[hx];decide)]at he hk
    have cw:=f1.bX f2
    have back:∀id,TW TP n0 h2 id->W id:=fun id hid=>(TW.back (TW.aO cw) hid).elim (hM id) (hW id)
    refine Sf back (pa.aU cw) ho vI ?_ ?_
    ·intro hc
     exact he _ h2 (by rw[zX hc]) cw
    ·intro hc h3 AP f3
     exact hk _ h3 (by rw[zW hc]) AP (TW.trans (TW.aO cw) f3)
 ·have:=he 111 h (by rw[zX k2]) Fr.refl
  simpa[k2,cU.d_,cU.dF] using this
theorem OD(hW:∀id,h.next<=id->W id)(hM:∀id,TW TP n0 h id->W id)(pa:PA n0 h p xr bk ids qm bm gm pl)(ho:mz ids own x2)(bS:h.obj vr=some (aN (ay y) 6 42))(ha:cH Arg.enc 2 44 h y.2 y.1.args)(hl:y.1.args.length<=100000000)
  (jJ:∀d∈bk.ds,d.params.length<=100000000/\0<=d.depth/\d.depth<=100)
  (he:∀e h',lW bk own y.1.name=false->ka bk own y.1=.error e->Fr h h' (fun _=>False)->QR [I e] h')
  (hk:∀bR h',lW bk own y.1.name=false->ka bk own y.1=.ok bR->PA n0 h' p xr bR ids qm bm gm pl->Fr h h' (TW TP n0 h)->QR [I 0] h') (ns:lW bk own y.1.name=false):cU.iu W QR QN QE QP (.ptr p 0) x2 (.ptr vr 0) h:=by
 unfold cU.iu
 simp only[ag,au,bS,ao,zG,ay,zA,zB,ab]
 refine⟨fun _=>False,fun _ h=>h.elim,Ap fun h1 f1=>?_⟩
 have lD:=pa.aU f1
 unfold cU.fq
 simp only[aD,ag,au,lD.p,f1.bM bS,ao,zG,ay,zA,zB,ab]
 refine iQ (enc:=Sb) jP z87 lD.m.g fun _=>?_
 have yR:∀id,h1.next<=id->W id:=fun id hid=>hW id (zR f1.next hid)
 have sS:∀id,TW TP n0 h1 id->W id:=fun id hid=>(TW.back (TW.aO f1) hid).elim (hM id) (hW id)
 have ue:ka bk own y.1=(if (gF bk y.1.name).1=0 then Except.error 80 else if (y.1.args.length:Int)≠(gF bk y.1.name).1 then .error 111 else if fN (eZ bk (gC bk own)) y.1.args≠0 then .error (fN (eZ bk (gC bk own)) y.1.args) else if tA y.1.args then .error 113 else if own.isSome=true/\32<(gF bk y.1.name).2+1 then .error 102 else .ok (jV bk own ((gF bk y.1.name).2+1)):Er Bk):=by
  unfold ka;rw[ns];rfl
 rw[ue]at he hk
 have go:∀n dp:Int,gF bk y.1.name=(n,dp)->0<=dp/\dp<=1000->cU.dO W QR QN QE QP (.ptr p 0) x2 (.ptr vr 0) (I n) (I dp) h1:=fun n dp hw hd=>by
  rw[hw]at he hk
  exact Se yR sS lD ho (f1.bM bS) (ha.aU f1) hl (fun d hd=>(jJ d hd).1) hd (fun e h' h2 f2=>he e h' ns h2 (f1.bX f2)) (fun bR h' h2 eP f2=>hk bR h' ns h2 eP (TW.trans (TW.aO f1) f2))
 unfold gF at go
 rcases nH (n:=y.1.name) lD.m.len with⟨e1,e2⟩ |⟨k,d,id,e1,e2,pb,qa⟩
 ·rw[e2]at go
  rw[e1]
  simp only[gR,zV,dN,zA,zB,ab,cU.gg,cU.hG,ck,zE,zC,zD,zH,zS,cU.fg,bu,if_false,cU.e_,aj]
  exact go _ _ rfl (by omega)
 ·rw[e2]at go
  rw[e1]
  obtain⟨xp,od,hp⟩:=lD.m.d k d id pb qa
  have hd:=jJ d (zP pb)
  simp only[gR,zV,dN,zA,zB,ab,cU.gg,cU.hG,ck,zD,zS,zF,zC,zI,aD,ag,au,od,ao,zG,cU.fg,bu,cU.e_]
  cases XZ:d.whole with
  |true=>
   simp only[XZ,zV]at go
   simp only[aj,zD,zF,zC,zI,aD,ag,au,od,ao,zG,zA,zB,ab,hp.cF.len.1,hp.cF.len.2,zH]
   exact go _ _ rfl (by omega)
  |false=>
   simp only[XZ,zE,if_false]at go
   simp only[aj,zE,zD,zC,zH]
   exact go _ _ rfl (by omega)
end
section
variable {h:AH} {M:Nat->Prop} {R:AE->AH->Prop} {n0 p:Nat} {xr x2:AV} {bk:Bk} {ids:List Nat} {qm bm gm:Nat} {pl:Int} {own:Option Nat}
theorem S4{y:Row×AV}(pa:PA n0 h p xr bk ids qm bm gm pl)(ho:mz ids own x2)(ha:cH Arg.enc 2 44 h y.2 y.1.args)(hl:y.1.args.length<=100000000)
  (jJ:∀d∈bk.ds,d.params.length<=100000000/\0<=d.depth/\d.depth<=100) (hM:∀id,TW TP n0 h id->M id)
  (he:∀e h',ka bk own y.1=.error e->Fr h h' (fun _=>False)->R (.ret (I e)) h')
  (hk:∀bR h',ka bk own y.1=.ok bR->PA n0 h' p xr bR ids qm bm gm pl->Fr h h' (TW TP n0 h)->R (.ret (I 0)) h') :
  aE Pg 62 [.ptr p 0,.agg (ay y),x2] h M R:=by
 apply cU.aM
 unfold cU.mq
 refine dB (pt ha) fun vr h1 f1 iz bS=>?_
 have lD:=pa.aU f1
 have yR:∀id,h1.next<=id->(M id\/h.next<=id):=fun id hid=>.inr (zR f1.next hid)
 have sS:∀id,TW TP n0 h1 id->(M id\/h.next<=id):=fun id hid=>(TW.back (TW.aO f1) hid).elim (fun h=>.inl (hM id h)) .inr
 have go:lW bk own y.1.name=false->cU.iu (fun id=>M id\/h.next<=id) (aJ Pg [.tmp 6] R) (aJ Pg [.tmp 6] R) (fun _ _ _=>False) (fun v h=>R (.cg v) h) (.ptr p 0) x2 (.ptr vr 0) h1:=fun ns=>
  OD yR sS lD ho bS (ha.aU f1) hl jJ (fun e h' _ h2 f2=>by simpa using he e h' h2 (f1.bX f2)) (fun bR h' _ h2 eP f2=>by simpa using hk bR h' h2 eP (TW.trans (TW.aO f1) f2)) ns
 unfold cU.mQ
 rcases ho.cases lD.m with⟨e1,e2,rfl⟩ |⟨k,id,d,e1,e2,pb,qa,rfl,xp,od,hp⟩
 ·simp only[ah,qQ,zH,cU.kO,ck,zE,zS,zC,zD,cU.ir,bu,if_false,cU.jC,aj]
  exact go (by unfold lW;rw[e2])
 ·by_cases k1:y.1.name=d.name
  ·have:=he 114 h1 (by unfold ka lW;rw[e2];simp[k1]) f1
   simp only[ah,qQ,zH,cU.kO,ck,zS,zD,zF,zC,zI,ag,au,bS,ao,zG,ay,zA,zB,ab,aD,od,zL k1,cU.ir,bu,zV,cU.jC,aj,cU.jD]
   simpa using this
  ·simp only[ah,qQ,zH,cU.kO,ck,zS,zD,zF,zC,zI,ag,au,bS,ao,zG,ay,zA,zB,ab,aD,od,zK k1,cU.ir,bu,zV,cU.jC,aj,zE]
   exact go (by unfold lW;rw[e2];simpa using k1)
end
end
section
open Go.Ab
attribute [-simp] aX aF
theorem pk{t:TypeId}{c:Bool}{k k':IntKind}{a b:Int}{K:AV->Prop}:ah Pg .shl t c (.sc (.int k a)) (.sc (.int k' b)) K=(0<=b/\K (.sc (.int k (k.wrap (a*2^(min b.toNat k.bits)))))):=rfl
structure xK (bk:Bk):Prop where
 tq:0<=aK bk.qs/\aK bk.qs<=64
 tb:0<=aK bk.bs/\aK bk.bs<=64
 sq:∀r∈bk.qs,1<=r.size/\0<=r.from_/\r.from_+r.size<=aK bk.qs
 sb:∀r∈bk.bs,1<=r.size/\0<=r.from_/\r.from_+r.size<=aK bk.bs
 ds:∀d∈bk.ds,d.params.length<=100000000/\0<=d.depth/\d.depth<=100/\0<=d.ops/\d.ops<=4097
theorem xK.d3{bk:Bk}(a:xK bk):∀d∈bk.ds,d.params.length<=100000000/\0<=d.depth/\d.depth<=100:=fun d hd=>⟨(a.ds d hd).1,(a.ds d hd).2.1,(a.ds d hd).2.2.1⟩
section
variable {W:Nat->Prop} {QR QN:VK} {QE:Nat->VK} {QP:AV->AH->Prop} {h:AH} {n0 p vr:Nat} {xr x3:AV} {bk:Bk} {ids:List Nat} {qm bm gm:Nat} {pl i:Int} {y:Row×AV} {own:Option Nat}
structure rX (W:Nat->Prop) (QR:VK) (h:AH) (n0 p:Nat) (xr:AV) (bk:Bk) (ids:List Nat) (qm bm gm:Nat) (pl:Int) (own:Option Nat) (x3:AV) (y:Row×AV) (vr:Nat) (res:Er Bk):Prop where
 pa:PA n0 h p xr bk ids qm bm gm pl
 ok:xK bk
 ow:mz ids own x3
 bS:h.obj vr=some (aN (ay y) 6 42)
 ha:cH Arg.enc 2 44 h y.2 y.1.args
 hl:y.1.args.length<=100000000
 hW:∀id,h.next<=id->W id
 hM:∀id,TW TP n0 h id->W id
 he:∀e h',res=.error e->Fr h h' (fun _=>False)->QR [I e] h'
 hk:∀bR uM h',res=.ok bR->PA n0 h' p xr bR uM qm bm gm pl->(uM=ids\/∃id,uM=ids++[id])->Fr h h' (TW TP n0 h)->QR [I 0] h'
theorem Xt(k:rX W QR h n0 p xr bk ids qm bm gm pl own x3 y vr ((fA bk bk.qs 64 y.1).map fun l=>{ bk with qs:=l })):df.n2 W QR QN QE QP (.ptr p 0) (.ptr vr 0) h:=by
 unfold df.n2
 refine di k.bS rfl fun _=>?_
 simp only[aD,ag,au,k.pa.p,ao,zG,Nat.add_zero,zA,zB,ab]
 refine⟨TW TP n0 h,fun id hs _=>k.hM id hs,Lw k.pa k.ha rfl k.ok.tq (fun _ h=>h) ?_ ?_⟩
 ·intro e h' h1 f1
  exact k.he e h' (by rw[h1];rfl) f1
 ·intro l' h' h1 AQ f1
  exact k.hk _ ids h' (by rw[h1];rfl) AQ (.inl rfl) f1
theorem Xx(k:rX W QR h n0 p xr bk ids qm bm gm pl own x3 y vr ((fA bk bk.bs 64 y.1).map fun l=>{ bk with bs:=l })):df.n3 W QR QN QE QP (.ptr p 0) (.ptr vr 0) h:=by
 unfold df.n3
 refine di k.bS rfl fun _=>?_
 simp only[aD,ag,au,k.pa.p,ao,zG,Nat.add_zero,Nat.reduceAdd,zA,zB,ab]
 refine⟨TW TP n0 h,fun id hs _=>k.hM id hs,Lx k.pa k.ha rfl k.ok.tb (fun _ h=>h) ?_ ?_⟩
 ·intro e h' h1 f1
  exact k.he e h' (by rw[h1];rfl) f1
 ·intro l' h' h1 AQ f1
  exact k.hk _ ids h' (by rw[h1];rfl) AQ (.inl rfl) f1
theorem Xw(k:rX W QR h n0 p xr bk ids qm bm gm pl own x3 y vr (pz bk y.1 i))(hi:0<=i/\i<=1000000000)(hr:0<=y.1.rows/\y.1.rows<=1000000000):df.n4 W QR QN QE QP (.ptr p 0) (I i) (.ptr vr 0) h:=by
 unfold df.n4
 refine di k.bS rfl fun _=>?_
 refine⟨TW TP n0 h,fun id hs _=>k.hM id hs,Lu k.pa k.ha k.hl hi hr (fun _ h=>h) k.he ?_⟩
 intro bR id h' h1 AQ f1
 exact k.hk _ _ h' h1 AQ (.inr ⟨id,rfl⟩) f1
theorem Xq(k:rX W QR h n0 p xr bk ids qm bm gm pl own x3 y vr (ka bk own y.1)):df.bQ W QR QN QE QP (.ptr p 0) x3 (.ptr vr 0) h:=by
 unfold df.bQ
 refine di k.bS rfl fun _=>?_
 refine⟨TW TP n0 h,fun id hs _=>k.hM id hs,S4 k.pa k.ow k.ha k.hl k.ok.d3 (fun _ h=>h) k.he ?_⟩
 intro bR h' h1 AQ f1
 exact k.hk _ _ h' h1 AQ (.inl rfl) f1
theorem OT(k:rX W QR h n0 p xr bk ids qm bm gm pl own x3 y vr (.ok bk)){h':AH}(f:Fr h h' fun _=>False):QR [I 0] h':=k.hk bk ids h' rfl (k.pa.aU f) (.inl rfl) (TW.aO f)
theorem Xs(k:rX W QR h n0 p xr bk ids qm bm gm pl own x3 y vr (if y.1.num<0 then .error 112 else .ok bk)):df.n7 W QR QN QE QP (.ptr vr 0) h:=by
 simp only[df.n7,ag,au,k.bS,ao,zG,ay,zA,zB,ab,aZ]
 by_cases h0:y.1.num<0
 ·have:=k.he 112 h (by rw[zX h0]) Fr.refl
  simp only[zL h0,df.n6,aj,zD,zF,zC,zI,df.n5]
  exact this
 ·have:=k.hk bk ids h (by rw[zW h0]) k.pa (.inl rfl) (TW.aO Fr.refl)
  simp only[zK h0,df.n6,aj,zE,zD,zC,zH,df.n1]
  exact this
theorem Xv(k:rX W QR h n0 p xr bk ids qm bm gm pl own x3 y vr (tU bk y.1)):df.bO W QR QN QE QP (.ptr p 0) (.ptr vr 0) h:=by
 unfold df.bO
 simp only[aD,ag,au,k.pa.p,k.bS,ao,zG,ay,zA,zB,ab]
 refine iQ (enc:=Sb) jP z93 k.pa.m.b fun _=>?_
 rw[lq]
 have he:=k.he;have hk:=k.hk;have PZ:=k.ok.sb
 unfold tU at he hk
 cases hr:eF bk.bs y.1.name with
 |none=>
  rw[hr]at he
  simp only[Option.map_none,gR,zV,dN,zA,zB,ab]
  refine g_ (cs:=[I 0,I 0]) rfl rfl rfl rfl k.hW fun v1 h2 f2 _ _=>?_
  have:=he 110 h2 rfl f2
  simpa[df.bH,df.bz,df.bC] using this
 |some g=>
  rw[hr]at he hk
  simp only at he hk
  have hg:=PZ g (List.mem_of_find?_eq_some hr)
  simp only[yB,gR,zV,uS,dN,zA,zB,ab]
  refine g_ (cs:=[I g.from_,I g.size]) rfl rfl rfl rfl k.hW fun v1 h2 f2 _ ov=>?_
  have ju:=f2.bM k.bS
  have eP:=k.pa.aU f2
  simp only[df.bH,dq,zS,df.bz,aj,zE,zD,zC,zH]
  by_cases k1:y.1.num<0
  ·have:=he 112 h2 (by rw[zX (.inl k1)]) f2
   simpa[df.bD,df.bt,ju,ay,k1] using this
  ·by_cases k2:g.size<63
   ·have hp:IntKind.i64.wrap (1*2^(min g.size.toNat IntKind.i64.bits))=2^g.size.toNat:=by
     have e:IntKind.i64.bits=64:=rfl
     rw[e,Nat.min_eq_left (by omega),Int.one_mul]
     have h1:(2:Int)^g.size.toNat=((2^g.size.toNat:Nat):Int):=by simp
     have h2:2^g.size.toNat<=2^62:=Nat.pow_le_pow_right (by decide) (by omega)
     have hP:∀P:Nat,P<=2^62->IntKind.i64.wrap (P:Int)=P:=fun P h=>aS (by omega) (by omega)
     rw[h1]
     exact hP _ h2
    have k0:0<=g.size:=by omega
    simp only[df.bD,ag,au,ju,ov,ao,zG,ay,zA,zB,ab,aZ,zK k1,df.bt,ck,zT,zS,zE,zF,zD,zC,zI,zL k2,df.bc,pk,k0,zH,hp,io,ge_iff_le]
    by_cases k3:2^g.size.toNat<=y.1.num
    ·have:=he 112 h2 (by rw[zX (.inr ⟨k2,k3⟩)]) f2
     simp only[zL k3,df.a_,ck,zT,zE,zD,zC,zI,bu,zV,df.aQ,if_false,df.n9,aj,zF,df.n8]
     exact this
    ·have:=hk bk ids h2 (by rw[zW (fun h=>h.elim k1 (fun h=>k3 h.2))]) eP (.inl rfl) (TW.aO f2)
     simp only[zK k3,df.a_,ck,zT,zE,zD,zC,zI,zH,bu,zV,df.aQ,if_false,df.n9,aj,zF,df.n1]
     exact this
   ·have:=hk bk ids h2 (by rw[zW (fun h=>h.elim k1 (fun h=>k2 h.1))]) eP (.inl rfl) (TW.aO f2)
    simp[df.bD,df.bt,df.bc,df.a_,df.aQ,df.n9,df.n1,ju,ov,ay,k1,k2]
    exact this
theorem GC{h1:AH}{res:Er Bk}(k:rX W QR h n0 p xr bk ids qm bm gm pl own x3 y vr res)(f1:Fr h h1 fun _=>False){e:Int}(hr:res=kY e bk):QR [I e] h1:=by
 unfold kY at hr
 by_cases h0:e=0
 ·rw[zW (by simpa using h0)]at hr
  rw[h0]
  exact k.hk bk ids h1 hr (k.pa.aU f1) (.inl rfl) (TW.aO f1)
 ·rw[zX h0]at hr
  exact k.he e h1 hr f1
theorem Xr(k:rX W QR h n0 p xr bk ids qm bm gm pl own x3 y vr (mi bk y.1.args)):df.da W QR QN QE QP (.ptr p 0) (.ptr vr 0) h:=by
 have hk:=k
 simp only[df.da,ag,au,k.bS,ao,zG,ay,zA,zB,ab,k.ha.len.1,k.ha.len.2,zH,b5,pq]
 have hx:=k.ha
 cases ha:y.1.args with
 |nil=>
  rw[ha]at hk
  simpa[df.cK,df.cz] using hk.he 111 h rfl Fr.refl
 |cons a l=>
  cases l with
  |cons b l=>
   rw[ha]at hk
   have h1:¬(((a::b::l).length:Nat):Int)=1:=by simp only[List.length_cons];omega
   simp only[zK h1,zT,df.cK,aj,zD,zF,zC,zI,df.cz]
   exact hk.he 111 h rfl Fr.refl
  |nil=>
   rw[ha]at hx hk
   have h1:(([a].length:Nat):Int)=1:=rfl
   simp only[zL h1,zS,df.cK,aj,zE,zD,zC,zH,df.cy,aD,ag,au,k.pa.p,k.bS,ao,zG,ay,zA,zB,ab]
   refine gO (i:=0) hx Arg.bL rfl fun _=>?_
   refine⟨fun _=>False,fun _ h=>h.elim,DZ k.pa.m.q fun h1 f1=>?_⟩
   exact GC hk f1 rfl
theorem Xu(k:rX W QR h n0 p xr bk ids qm bm gm pl own x3 y vr (kj bk y.1.args)):df.bV W QR QN QE QP (.ptr p 0) (.ptr vr 0) h:=by
 have hk:=k
 simp only[df.bV,ag,au,k.bS,ao,zG,ay,zA,zB,ab,k.ha.len.1,k.ha.len.2,zH,b5,pq]
 have hx:=k.ha
 have bad:y.1.args.length≠2->kj bk y.1.args=.error 111:=fun du=>by
  unfold kj
  split
  ·rename_i h;rw[h]at du;exact absurd rfl du
  ·rfl
 by_cases hlen:y.1.args.length=2
 ·match ha:y.1.args,hlen with
  |[a,b],_=>
   rw[ha]at hx hk
   have h1:(([a,b].length:Nat):Int)=2:=rfl
   simp only[zL h1,zS,df.cl,aj,zE,zD,zC,zH,df.cn,aD,ag,au,k.pa.p,k.bS,ao,zG,ay,zA,zB,ab]
   refine gO (i:=0) hx Arg.bL rfl fun _=>?_
   refine⟨fun _=>False,fun _ h=>h.elim,DZ k.pa.m.q fun h1 f1=>?_⟩
   by_cases h0:gB bk.qs a=0
   ·have rQ:(gB bk.qs a != 0)=false:=by simp[h0]
    have lD:=k.pa.aU f1
    simp only[df.cb,b5,rQ,df.bW,aj,zE,zD,zC,zH,df.b_,aD,ag,au,lD.p,f1.bM k.bS,ao,zG,ay,zA,zB,ab]
    refine gO (i:=1) (hx.aU f1) Arg.bL rfl fun _=>?_
    refine⟨fun _=>False,fun _ h=>h.elim,DZ lD.m.b fun h2 f2=>?_⟩
    exact GC hk (f1.bX f2) (by simp only[kj];rw[zW (by simpa using h0)])
   ·have rQ:(gB bk.qs a != 0)=true:=by simp[h0]
    simp only[df.cb,b5,rQ,df.bW,aj,zD,zF,zC,zI,df.cp]
    exact hk.he _ h1 (by simp only[kj];rw[zX h0]) f1
 ·have h1:¬((y.1.args.length:Nat):Int)=2:=by omega
  simp only[zK h1,zT,df.cl,aj,zD,zF,zC,zI,df.cj]
  exact k.he 111 h (bad hlen) Fr.refl
theorem Sp(k:rX W QR h n0 p xr bk ids qm bm gm pl own x3 y vr (fC bk own i y.1))(hi:0<=i/\i<=1000000000)(hr:0<=y.1.rows/\y.1.rows<=1000000000):df.gg W QR QN QE QP (.ptr p 0) (I i) x3 (.ptr vr 0) h:=by
 simp only[df.gg,ag,au,k.bS,ao,zG,ay,zA,zB,ab]
 unfold fC at k
 have e1:(⟨#[113,117,98,105,116,115]⟩:ByteArray)=ch:=rfl
 have e2:(⟨#[98,105,116,115]⟩:ByteArray)=cZ:=rfl
 have e3:(⟨#[103,97,116,101]⟩:ByteArray)=bJ:=rfl
 have e4:(⟨#[114,101,112,101,97,116]⟩:ByteArray)=bj:=rfl
 have e5:(⟨#[105,102]⟩:ByteArray)=fK:=rfl
 have e6:(⟨#[117,115,101]⟩:ByteArray)=cQ:=rfl
 have e7:(⟨#[109,101,97,115,117,114,101]⟩:ByteArray)=cD:=rfl
 have e8:(⟨#[114,101,115,101,116]⟩:ByteArray)=dz:=rfl
 unfold df.hG
 rw[bB,e1]
 by_cases k1:y.1.kind=ch
 ·rw[zX k1]at k
  simp only[zL k1,df.fg,aj,zD,zF,zC,zI]
  exact Xt k
 rw[zW k1]at k
 simp only[zK k1,df.fg,aj,zE,zD,zC,zH,df.e_,bB,e2]
 by_cases k2:y.1.kind=cZ
 ·rw[zX k2]at k
  simp only[zL k2,df.dO,aj,zD,zF,zC,zI]
  exact Xx k
 rw[zW k2]at k
 simp only[zK k2,df.dO,aj,zE,zD,zC,zH,df.eu,bB,e3]
 by_cases k3:y.1.kind=bJ
 ·rw[zX k3]at k
  simp only[zL k3,df.eC,aj,zD,zF,zC,zI]
  exact Xw k hi hr
 rw[zW k3]at k
 simp only[zK k3,df.eC,aj,zE,zD,zC,zH,df.dL,bB,e4]
 by_cases k4:y.1.kind=bj
 ·rw[zX k4]at k
  simp only[zL k4,df.d_,aj,zD,zF,zC,zI]
  exact Xs k
 rw[zW k4]at k
 simp only[zK k4,df.d_,aj,zE,zD,zC,zH,df.dF,bB,e5]
 by_cases k5:y.1.kind=fK
 ·rw[zX k5]at k
  simp only[zL k5,df.eJ,aj,zD,zF,zC,zI]
  exact Xv k
 rw[zW k5]at k
 simp only[zK k5,df.eJ,aj,zE,zD,zC,zH,df.ed,bB,e6]
 by_cases k6:y.1.kind=cQ
 ·rw[zX k6]at k
  simp only[zL k6,df.dV,aj,zD,zF,zC,zI]
  exact Xq k
 rw[zW k6]at k
 simp only[zK k6,df.dV,aj,zE,zD,zC,zH,df.dT,bB,e7]
 by_cases k7:y.1.kind=cD
 ·rw[zX k7]at k
  simp only[zL k7,df.dW,aj,zD,zF,zC,zI]
  exact Xu k
 rw[zW k7]at k
 simp only[zK k7,df.dW,aj,zE,zD,zC,zH,df.dx,bB,e8]
 by_cases k8:y.1.kind=dz
 ·rw[zX k8]at k
  simp only[zL k8,df.cT,aj,zD,zF,zC,zI]
  exact Xr k
 rw[zW k8]at k
 simp only[zK k8,df.cT,aj,zE,zD,zC,zH,df.n1]
 exact OT k Fr.refl
end
section
variable {h:AH} {M:Nat->Prop} {R:AE->AH->Prop} {n0 p:Nat} {xr x3:AV} {bk:Bk} {ids:List Nat} {qm bm gm:Nat} {pl i:Int} {own:Option Nat}
theorem Tf{y:Row×AV}(pa:PA n0 h p xr bk ids qm bm gm pl)(ok:xK bk)(ho:mz ids own x3)(ha:cH Arg.enc 2 44 h y.2 y.1.args)(hl:y.1.args.length<=100000000)
  (hi:0<=i/\i<=1000000000) (hr:0<=y.1.rows/\y.1.rows<=1000000000) (hM:∀id,TW TP n0 h id->M id)
  (he:∀e h',fC bk own i y.1=.error e->Fr h h' (fun _=>False)->R (.ret (I e)) h')
  (hk:∀bR uM h',fC bk own i y.1=.ok bR->PA n0 h' p xr bR uM qm bm gm pl->(uM=ids\/∃id,uM=ids++[id])->Fr h h' (TW TP n0 h)->R (.ret (I 0)) h') :
  aE Pg 39 [.ptr p 0,.agg (ay y),I i,x3] h M R:=by
 apply df.aM
 unfold df.fq
 refine dB (pt ha) fun vr h1 f1 iz bS=>?_
 refine Sp ⟨pa.aU f1,ok,ho,bS,ha.aU f1,hl,fun id hid=>.inr (zR f1.next hid),fun id hid=>(TW.back (TW.aO f1) hid).elim (fun h=>.inl (hM id h)) .inr,?_,?_⟩ hi hr
 ·intro e h' h1 f2
  simpa using he e h' h1 (f1.bX f2)
 ·intro bR uM h' h1 AQ h2 f2
  simpa using hk bR uM h' h1 AQ h2 (TW.trans (TW.aO f1) f2)
end
end
section
open Go.Ab
attribute [-simp] aX aF
section
variable {W:Nat->Prop} {QR QN:VK} {QE:Nat->VK} {QP:AV->AH->Prop} {h:AH} {n0 p vr:Nat} {xr x4:AV} {bk:Bk} {ids:List Nat} {qm bm gm:Nat} {pl deep behind:Int} {y:Row×AV} {own:Option Nat}
def BF(r:Row)(deep:Int)(own:Bool):Int:=
 if 32<deep then 102
 else if decide (0<deep)&&pH r.kind then 100
 else if own&&!decide (r.kind=cQ)&&!decide (r.kind=bj) then 100
 else 0
theorem Sq{h':AH}(pm:PM h' bk ids qm bm gm)(bS:h.obj vr=some (aN (ay y) 6 42))(ho:mz ids own x4)(hR:QR [I (if own.isSome&&!decide (y.1.kind=cQ)&&!decide (y.1.kind=bj) then 100 else 0)] h):dI.a_ W QR QN QE QP x4 (.ptr vr 0) h:=by
 have e6:(⟨#[117,115,101]⟩:ByteArray)=cQ:=rfl
 have e4:(⟨#[114,101,112,101,97,116]⟩:ByteArray)=bj:=rfl
 rcases ho.cases pm with⟨e1,e2,rfl⟩ |⟨k,id,d,e1,e2,pb,qa,rfl,xp,od,hp⟩
 ·subst e1
  simp only[Option.isSome_none,Bool.false_and,zE,if_false]at hR
  simp only[dI.a_,ah,qQ,zH,dI.aQ,ck,zE,zS,zC,zD,dI.n9,bu,if_false,dI.n8,dI.n7,dI.n6,aj,dI.n1]
  exact hR
 ·subst e1
  simp only[Option.isSome_some,Bool.true_and]at hR
  simp only[dI.a_,ah,qQ,zH,dI.aQ,ck,zS,zD,zF,zC,zI,ag,au,bS,ao,zG,ay,zA,zB,ab,e6,dI.n9,bu,zV,dI.n8]
  by_cases k1:y.1.kind=cQ
  ·simp[k1]at hR
   simpa[k1,dI.n7,dI.n6,dI.n1] using hR
  ·by_cases k2:y.1.kind=bj
   ·simp[k1,k2]at hR
    simpa[k1,k2,bS,ay,e4,dI.n7,dI.n6,dI.n1] using hR
   ·simp[k1,k2]at hR
    simpa[k1,k2,bS,ay,e4,dI.n7,dI.n6,dI.n5] using hR
theorem OU{h':AH}(pm:PM h' bk ids qm bm gm)(bS:h.obj vr=some (aN (ay y) 6 42))(ho:mz ids own x4)(hR:QR [I (BF y.1 deep own.isSome)] h):dI.cp W QR QN QE QP (I deep) x4 (.ptr vr 0) h:=by
 unfold BF at hR
 have e1:(⟨#[113,117,98,105,116,115]⟩:ByteArray)=ch:=rfl
 have e2:(⟨#[98,105,116,115]⟩:ByteArray)=cZ:=rfl
 have e3:(⟨#[103,97,116,101]⟩:ByteArray)=bJ:=rfl
 simp only[dI.cp,eU,gt_iff_lt]
 by_cases k1:32<deep
 ·simp[k1]at hR
  simpa[k1,dI.b_,dI.n3] using hR
 simp only[k1,if_false]at hR
 simp only[zK k1,dI.b_,aj,zE,zD,zC,zH,dI.bQ,eU,gt_iff_lt]
 have ZC:=Sq (W:=W) (QR:=QR) (QN:=QN) (QE:=QE) (QP:=QP) pm bS ho
 have fin:∀b,b=(decide (0<deep)&&pH y.1.kind)->dI.bc W QR QN QE QP x4 (.ptr vr 0) (B b) h:=fun b hb=>by
  rw[<-hb]at hR
  cases b with
  |true=>simpa[dI.bc,dI.n4] using hR
  |false=>
   simp only[dI.bc,aj,zE,zD,zC,zH]
   exact ZC (by simpa using hR)
 have fin:=fin _ rfl
 unfold pH at fin
 by_cases k2:0<deep
 ·by_cases k3:y.1.kind=ch<;>by_cases k4:y.1.kind=cZ<;>by_cases k5:y.1.kind=bJ <;>
   simp[-dI.bc,k2,k3,k4,k5]at fin <;>
   simp[-dI.bc,k2,k3,k4,k5,dI.bO,dI.bH,dI.bz,dI.bC,dI.bD,dI.bt,bS,ay,e1,e2,e3]<;>exact fin
 ·simp[-dI.bc,k2]at fin
  simpa[-dI.bc,k2,dI.bO,dI.bH,dI.bz,dI.bC,dI.bD,dI.bt] using fin
end
section
variable {h:AH} {M:Nat->Prop} {R:AE->AH->Prop} {n0 p:Nat} {xr x4 x0:AV} {bk:Bk} {ids:List Nat} {qm bm gm:Nat} {pl deep behind:Int} {own:Option Nat}
theorem RN{y:Row×AV}(pm:PM h bk ids qm bm gm)(ha:cH Arg.enc 2 44 h y.2 y.1.args)(ho:mz ids own x4)
  (hR:∀h',Fr h h' (fun _=>False)->R (.ret (I (kH y.1 behind deep own.isSome))) h'):aE Pg 38 [x0,.agg (ay y),I behind,I deep,x4] h M R:=by
 apply dI.aM
 unfold dI.cT
 refine dB (pt ha) fun vr h1 f1 iz bS=>?_
 have pm1:=pm.aU f1
 simp only[dI.da,ag,au,bS,ao,zG,ay,zA,zB,ab]
 refine⟨fun _=>False,fun _ h=>h.elim,M9 ?_⟩
 have hb:kH y.1 behind deep own.isSome=if !lE y.1.kind||(!kl y.1.kind&&y.1.rows != 0)||decide (y.1.rows<0)||decide (behind<y.1.rows) then 100 else BF y.1 deep own.isSome:=rfl
 have hR:=hR h1 f1
 rw[hb]at hR
 have fin:∀b,b=(!lE y.1.kind||(!kl y.1.kind&&y.1.rows != 0)||decide (y.1.rows<0)||decide (behind<y.1.rows))->dI.bW (fun id=>M id\/h.next<=id) (aJ Pg [.tmp 10] R) (aJ Pg [.tmp 10] R) (fun _ _ _=>False) (fun v h=>R (.cg v) h) (I deep) x4 (.ptr vr 0) (B b) h1:=fun b hb=>by
  rw[<-hb]at hR
  cases b with
  |true=>simpa[dI.bW,dI.n2] using hR
  |false=>
   simp only[dI.bW,aj,zE,zD,zC,zH]
   exact OU pm1 bS ho (by simpa using hR)
 have fin:=fin _ rfl
 cases kn:lE y.1.kind with
 |false=>
  simp[-dI.bW,kn]at fin
  simpa[-dI.bW,kn,dI.cK,dI.cz,dI.cy,dI.bV,dI.cl,dI.cj,dI.cn,dI.cb] using fin
 |true=>
  simp only[dq,zS,dI.cK,ck,zE,zT,zD,zF,zC,zI,ag,au,bS,ao,zG,ay,zA,zB,ab]
  refine⟨fun _=>False,fun _ h=>h.elim,DH ?_⟩
  cases bo:kl y.1.kind<;>cases k0:(y.1.rows != 0)<;>by_cases k1:y.1.rows<0<;>by_cases k2:behind<y.1.rows <;>
   simp[-dI.bW,kn,bo,k0,k1,k2]at fin <;>
   simp[-dI.bW,bS,ay,k0,k1,k2,dI.cz,dI.cy,dI.bV,dI.cl,dI.cj,dI.cn,dI.cb]<;>exact fin
end
end
section
open Go.Ab
attribute [-simp] aX aF
def sg(rs:List (Row×AV))(a n:Nat):List Row:=((rs.drop a).take n).map (·.1)
theorem uA{rs:List (Row×AV)}{a:Nat}:sg rs a 0=[]:=rfl
theorem wu{rs:List (Row×AV)}{a n:Nat}{y:Row×AV}(h:rs[a]?=some y):sg rs a (n+1)=y.1::sg rs (a+1) n:=by
 obtain⟨h1,h2⟩:=zM.1 h
 unfold sg
 rw[List.drop_eq_getElem_cons h1,h2,List.take_succ_cons,List.map_cons]
theorem jp{rs:List (Row×AV)}{a n k:Nat}(h:k<=n):(sg rs a n).take k=sg rs a k:=by
 unfold sg
 rw[<-List.map_take,List.take_take,Nat.min_eq_left h]
theorem jq{rs:List (Row×AV)}{a n k:Nat}:(sg rs a n).drop k=sg rs (a+k) (n-k):=by
 unfold sg
 rw[<-List.map_drop,List.drop_take,List.drop_drop]
theorem pV{rs:List (Row×AV)}{a n:Nat}(h:a+n<=rs.length):(sg rs a n).length=n:=by
 unfold sg
 rw[zZ,yA,List.length_drop];omega
inductive oS:List Row->Prop
 |nil:oS []
 |cons {r:Row} {l:List Row} (h0:0<=r.rows) (h1:r.rows<=l.length) (h2:r.kind=bj->0<=r.num) (h3:oS (l.take r.rows.toNat)) (h4:oS (l.drop r.rows.toNat)):oS (r::l)
theorem oS.inv{r:Row}{l:List Row}(h:oS (r::l)):(0<=r.rows/\r.rows<=l.length)/\(r.kind=bj->0<=r.num)/\oS (l.take r.rows.toNat)/\oS (l.drop r.rows.toNat):=by
 cases h with |cons h0 h1 h2 h3 h4=>exact⟨⟨h0,h1⟩,h2,h3,h4⟩
def iC(ds:List bY)(r:Row)(c:Int):Int:=if r.kind=bj then(if 0<c then min r.num 4097*c else c) else match eB ds r.name with |some d=>d.ops |none=>1
theorem countP_nil{ds:List bY}{n:Int}:countP ds [] n=n:=by rw[countP]
theorem countP_cons{ds:List bY}{n:Int}{r:Row}{l:List Row}:countP ds (r::l) n=countP ds (l.drop r.rows.toNat) (min (n+iC ds r (countP ds (l.take r.rows.toNat) 0)) 4097):=by rw[countP];rfl
theorem EV{a b:Int}(h1:0<=a)(h2:a<=4097)(h3:0<=b)(h4:b<=4097):0<=a*b/\a*b<=16785409:=⟨Int.mul_nonneg h1 h3,Int.le_trans (Int.mul_le_mul h2 h4 h3 (by omega)) (by decide)⟩
theorem xn{ds:List bY}{r:Row}{c:Int}(hd:∀d∈ds,0<=d.ops/\d.ops<=4097)(hc:0<=c/\c<=4097)(hr:r.kind=bj->0<=r.num):0<=iC ds r c/\iC ds r c<=16785409:=by
 unfold iC
 by_cases k:r.kind=bj
 ·rw[zX k]
  have hn:=hr k
  split
  ·have:=EV (a:=min r.num 4097) (b:=c) (by omega) (by omega) hc.1 hc.2
   exact this
  ·omega
 ·rw[zW k]
  split
  ·rename_i d yO
   have:=hd d (List.mem_of_find?_eq_some yO)
   omega
  ·omega
theorem qf{ds:List bY}(hd:∀d∈ds,0<=d.ops/\d.ops<=4097){l:List Row}(hs:oS l):∀n:Int,0<=n/\n<=4097->0<=countP ds l n/\countP ds l n<=4097:=by
 induction hs with
 |nil=>intro n h;rw[countP_nil];exact h
 |cons h0 h1 h2 h3 h4 Ue Ud=>
  intro n hn
  rw[countP_cons]
  have:=xn hd (Ue 0 (by omega)) h2
  exact Ud _ (by omega)
structure RT (h:AH) (xr:AV) (rs:List (Row×AV)):Prop where
 r:cH ay 6 42 h xr rs
 a:∀y∈rs,cH Arg.enc 2 44 h y.2 y.1.args/\y.1.args.length<=100000000
 n:rs.length<=100000000
theorem RT.aU{h h':AH}{xr:AV}{rs:List (Row×AV)}(a:RT h xr rs)(f:Fr h h' fun _=>False):RT h' xr rs:=⟨a.r.aU f,fun y hy=>⟨(a.a y hy).1.aU f,(a.a y hy).2⟩,a.n⟩
theorem RT.oO{h h':AH}{xr:AV}{rs:List (Row×AV)}{n0:Nat}(a:RT h xr rs)(f:Fr h h' (TW TP n0 h)):RT h' xr rs:=⟨a.r.oO f rfl,fun y hy=>⟨(a.a y hy).1.oO f rfl,(a.a y hy).2⟩,a.n⟩
theorem RT.one{h:AH}{xr:AV}{rs:List (Row×AV)}(a:RT h xr rs){y:Row×AV}{i:Nat}(hy:rs[i]?=some y):(ay y).all cG=true:=pt (a.a y (zP hy)).1
section
variable {M:Nat->Prop} {R:AE->AH->Prop} {p:Nat} {xr:AV} {bk:Bk} {ids:List Nat} {qm bm gm:Nat} {pl:Int} {rs:List (Row×AV)}
structure Mb (h:AH) (p:Nat) (xr:AV) (rs:List (Row×AV)) (bk:Bk) (ids:List Nat) (qm bm gm:Nat):Prop where
 p:∃cs,h.obj p=some (aN cs 9 66)/\cs[0]?=some xr/\cs[3]?=some (.mp gm)
 r:RT h xr rs
 m:PM h bk ids qm bm gm
theorem Mb.aU{h h':AH}(a:Mb h p xr rs bk ids qm bm gm)(f:Fr h h' fun _=>False):Mb h' p xr rs bk ids qm bm gm:=by
 obtain⟨cs,h1,h2⟩:=a.p
 exact⟨⟨cs,f.bM h1,h2⟩,a.r.aU f,a.m.aU f⟩
theorem Of(hd:∀d∈bk.ds,0<=d.ops/\d.ops<=4097)(n:Nat):∀{h:AH}{M:Nat->Prop}{R:AE->AH->Prop}{a:Nat}(_:Mb h p xr rs bk ids qm bm gm)(_:a+n<=rs.length)(_:oS (sg rs a n))
  (_:∀h',Fr h h' (fun _=>False)->R (.ret (I (countP bk.ds (sg rs a n) 0))) h'),aE Pg 40 [.ptr p 0,I a,I (a+n)] h M R:=by
 induction n using Nat.strongRecOn with
 |ind n ih=>
 intro h M R a hc hn hs hR
 apply kq.aM
 unfold kq.bQ kq.bO kq.bH kq.bz
 have hlen:=hc.r.n
 refine bU (ι:=Nat×Int) (fun i v h'=>v=[.ptr p 0,I (a+n),I i.2,I (a+(n-i.1:Nat):Int)]/\i.1<=n/\(0<=i.2/\i.2<=4097)/\oS (sg rs (a+(n-i.1)) i.1)/\countP bk.ds (sg rs (a+(n-i.1)) i.1) i.2=countP bk.ds (sg rs a n) 0/\Fr h h' (fun _=>False)) (fun i=>i.1) (n,0) ⟨by simp,zU _,by omega,by simpa using hs,by simp,Fr.refl⟩ ?_
 rintro K ⟨m,acc⟩ v h1 ⟨rfl,hm,qt,lX,bq,f1⟩ step
 simp only at hm qt lX bq
 have Bv:=hc.aU f1
 unfold kq.cB
 simp only[zN,zO,kq.bC,aZ]
 cases m with
 |zero=>
  have e1:decide ((a:Int)+(n-0:Nat)<a+n)=false:=by simp
  rw[uA,countP_nil]at bq
  simp only[e1,kq.bD,aj,zE,zD,zC,zH,zV,kq.n1,zN]
  rw[bq]
  simpa using hR h1 f1
 |succ m=>
  obtain⟨j,hj⟩:∃j,j=a+(n-(m+1)):=⟨_,rfl⟩
  have ej:(a:Int)+(n-(m+1):Nat)=(j:Int):=by omega
  have e1:decide ((j:Int)<a+n)=true:=by simp;omega
  rw[<-hj]at lX bq
  obtain⟨y,hy⟩:∃y,rs[j]?=some y:=⟨rs[j]'(by omega),zJ _⟩
  rw[wu hy]at lX bq
  rw[countP_cons]at bq
  obtain⟨⟨b0,b1⟩,b2,b3,b4⟩:=lX.inv
  rw[pV (by omega)]at b1
  obtain⟨k,hk⟩:∃k:Nat,y.1.rows=k:=⟨y.1.rows.toNat,by omega⟩
  have lj:k<=m:=by omega
  rw[hk,zY,jp lj]at b3
  rw[hk,zY,jq]at b4
  rw[hk,zY,jp lj,jq]at bq
  obtain⟨cs,hp,c0,c3⟩:=Bv.p
  simp only[e1,ej,kq.bD,aj,zD,zF,zC,zI,kq.bt,aD,ag,au,hp,ao,zG,c0,ab]
  refine fV Bv.r.r cO (Bv.r.one hy) hy rfl rfl (fun id hid=>.inr (zR f1.next hid)) fun vr h2 f2 _ bS=>?_
  have cw:=f1.bX f2
  have rO:=Bv.aU f2
  have Dr:=qf hd b3 0 (by omega)
  have KL:=xn (ds:=bk.ds) (r:=y.1) (c:=countP bk.ds (sg rs (j+1) k) 0) hd Dr b2
  have w1:∀x:Int,0<=x/\x<=1000000000->IntKind.i64.wrap x=x:=fun x hx=>aS (by omega) (by omega)
  have Lk:∀x:Int,(if (4097:Int)<x then 4097 else x)=min x 4097:=fun x=>by split<;>omega
  have last:∀h3,Fr h h3 (fun _=>False)->kq.n3 (fun id=>M id\/h.next<=id) (aJ Pg [.tmp 6] R) K (fun(i:Nat) (vs:List AV) (h:AH)=>if i=0 then kq.n1 (fun id=>M id\/h.next<=id) (aJ Pg [.tmp 6] R) (aJ Pg [.tmp 6] R) (fun _ _ _=>False) (fun v h=>R (.cg v) h) (vs.getD 0 aa) h else False) (fun v h=>R (.cg v) h) (.ptr p 0) (I (a+n)) (I acc) (I j) (I (iC bk.ds y.1 (countP bk.ds (sg rs (j+1) k) 0))) h3:=fun h3 f3=>by
   obtain⟨cs3,Bm,VG,c33⟩:=(hc.aU f3).p
   simp only[kq.n3,aT,w1 (acc+iC bk.ds y.1 (countP bk.ds (sg rs (j+1) k) 0)) (by omega),qy,zH,zV,Lk,kq.n2,aD,ag,au,Bm,ao,zG,VG,ab]
   refine dn (k:=4) (hc.aU f3).r.r cO hy (by omega) rfl fun _=>?_
   rw[hk]
   simp only[aT,w1 (1+(k:Int)) (by omega),w1 ((j:Int)+(1+k)) (by omega)]
   refine step (m-k,min (acc+iC bk.ds y.1 (countP bk.ds (sg rs (j+1) k) 0)) 4097) _ h3 (by simp only;omega) ⟨?_,by simp only;omega,?_,?_,?_,f3⟩
   ·have e9:(j:Int)+(1+k)=a+(n-(m-k):Nat):=by omega
    rw[<-e9]
   ·simp only;omega
   ·have e8:j+1+k=a+(n-(m-k)):=by omega
    rw[e8]at b4;exact b4
   ·have e8:j+1+k=a+(n-(m-k)):=by omega
    rw[e8]at bq
    exact bq
  have e4:(⟨#[114,101,112,101,97,116]⟩:ByteArray)=bj:=rfl
  simp only[kq.bc,kq.a_,ag,au,bS,ao,zG,ay,zA,zB,ab,bB,e4]
  by_cases k1:y.1.kind=bj
  ·have rN:=b2 k1
   simp only[zL k1,kq.aQ,aj,zD,zF,zC,zI,kq.n6,aT,ag,au,bS,ao,zG,ay,zA,zB,ab,hk,w1 ((j:Int)+1) (by omega),w1 ((j:Int)+1+k) (by omega)]
   refine⟨fun _=>False,fun _ h=>h.elim,ih k (by omega) (a:=j+1) rO (by omega) b3 fun h3 f3=>?_⟩
   have l3:=last h3 (cw.bX f3)
   unfold iC at l3
   rw[zX k1]at l3
   simp only[kq.n5,eU,gt_iff_lt]
   by_cases k2:0<countP bk.ds (sg rs (j+1) k) 0
   ·rw[zX k2]at l3
    have kT:=EV (a:=min y.1.num 4097) (by omega) (by omega) Dr.1 Dr.2
    simp only[zL k2,kq.n4,aj,zD,zF,zC,zI,ag,au,f3.bM bS,ao,zG,ay,zA,zB,ab,qy,zH,zV,Lk,zx,w1 (min y.1.num 4097*countP bk.ds (sg rs (j+1) k) 0) (by omega)]
    exact l3
   ·rw[zW k2]at l3
    simp only[zK k2,kq.n4,aj,zE,zD,zC,zH]
    exact l3
  ·have l2:=last h2 cw
   unfold iC at l2
   rw[zW k1]at l2
   obtain⟨cs2,p_,c20,QC⟩:=rO.p
   simp only[zK k1,kq.aQ,aj,zE,zD,zC,zH,kq.n9,aD,ag,au,p_,bS,ao,zG,QC,ay,zA,zB,ab]
   refine iQ (enc:=Sb) jP z87 rO.m.g fun _=>?_
   rcases nH (n:=y.1.name) rO.m.len with⟨e1,e2⟩ |⟨kk,d,id,e1,e2,pb,qa⟩
   ·rw[e2]at l2
    rw[e1]
    simp only[gR,zV,dN,zA,zB,ab,kq.n8,kq.n7,aj,zE,zD,zC,zH]
    exact l2
   ·rw[e2]at l2
    rw[e1]
    obtain⟨xp,od,_⟩:=rO.m.d kk d id pb qa
    simp only[gR,zV,dN,zA,zB,ab,kq.n8,kq.n7,aj,zD,zF,zC,zI,aD,ag,au,od,ao,zG]
    exact l2
end
end
section
open Go.Ab
def core(d:bY):ByteArray×List ByteArray×Int×Int:=(d.name,d.params,d.from_,d.GZ)
structure kF (bk:Bk):Prop where
 ok:xK bk
 nd:(bk.ds.map (·.name)).Nodup
def gW(bk bR:Bk):Prop:=∃l,bR.ds.map core=bk.ds.map core++l
theorem gW.refl{bk:Bk}:gW bk bk:=⟨[],by simp⟩
theorem gW.trans{a b c:Bk}(h1:gW a b)(h2:gW b c):gW a c:=by
 obtain⟨l1,e1⟩:=h1
 obtain⟨l2,e2⟩:=h2
 exact⟨l1++l2,by rw[e2,e1,List.append_assoc]⟩
theorem gW.at_{a b:Bk}(h:gW a b){k:Nat}{d:bY}(hd:a.ds[k]?=some d):∃d',b.ds[k]?=some d'/\core d'=core d:=by
 obtain⟨l,e⟩:=h
 have h1:(b.ds.map core)[k]?=some (core d):=by
  rw[e,List.getElem?_append_left (by rw[zZ];exact(zM.1 hd).1),List.getElem?_map,hd];rfl
 rw[List.getElem?_map]at h1
 cases hb:b.ds[k]? with
 |none=>rw[hb]at h1;cases h1
 |some d'=>rw[hb]at h1;exact⟨d',rfl,Option.some.inj h1⟩
theorem A4{β:Type}{f:bY->bY}{g:bY->β}(hf:∀d,g (f d)=g d)(l:List bY)(k:Nat):(l.modify k f).map g=l.map g:=by
 induction l generalizing k with
 |nil=>simp
 |cons d l ih=>cases k with
  |zero=>simp[hf]
  |succ k=>simp[ih]
theorem mem_modify{f:bY->bY}{l:List bY}{k:Nat}{d:bY}(h:d∈l.modify k f):d∈l\/∃e∈l,d=f e:=by
 obtain⟨i,hi⟩:=List.mem_iff_getElem?.1 h
 rw[getElem?_modify']at hi
 by_cases hk:k=i
 ·rw[zX hk]at hi
  cases he:l[i]? with
  |none=>rw[he]at hi;cases hi
  |some e=>rw[he]at hi;exact .inr ⟨e,zP he,(Option.some.inj hi).symm⟩
 ·rw[zW hk]at hi
  exact .inl (zP hi)
theorem kF.modify{bk:Bk}(a:kF bk){k:Nat}{f:bY->bY}(hf:∀d,core (f d)=core d)(hd:∀d∈bk.ds,0<=(f d).depth/\(f d).depth<=100/\0<=(f d).ops/\(f d).ops<=4097):kF { bk with ds:=bk.ds.modify k f }/\gW bk { bk with ds:=bk.ds.modify k f }:=by
 have hn:∀d,(f d).name=d.name:=fun d=>congrArg (·.1) (hf d)
 have hp:∀d,(f d).params=d.params:=fun d=>congrArg (·.2.1) (hf d)
 refine⟨⟨⟨a.ok.tq,a.ok.tb,a.ok.sq,a.ok.sb,fun d h=>?_⟩,?_⟩,[],?_⟩
 ·rcases mem_modify h with h1 |⟨e,h1,rfl⟩
  ·exact a.ok.ds d h1
  ·rw[hp];exact⟨(a.ok.ds e h1).1,hd e h1⟩
 ·simp only
  rw[A4 hn];exact a.nd
 ·simp only[List.append_nil]
  rw[A4 hf]
theorem MI{l:List fZ}{n:ByteArray}{s:Int}(ht:0<=aK l)(h:∀r∈l,1<=r.size/\0<=r.from_/\r.from_+r.size<=aK l)(hs:1<=s):∀r∈l++[⟨n,aK l,s⟩],1<=r.size/\0<=r.from_/\r.from_+r.size<=aK (l++[⟨n,aK l,s⟩]):=by
 intro r hr
 rw[qP]
 rcases List.mem_append.1 hr with hr |hr
 ·have:=h r hr;simp only;omega
 ·have:=List.mem_singleton.1 hr
  subst this
  simp only;omega
theorem F_{bk:Bk}{l l':List fZ}{r:Row}(ht:0<=aK l/\aK l<=64)(h:∀r∈l,1<=r.size/\0<=r.from_/\r.from_+r.size<=aK l)(hd:fA bk l 64 r=.ok l'):(0<=aK l'/\aK l'<=64)/\∀r∈l',1<=r.size/\0<=r.from_/\r.from_+r.size<=aK l':=by
 unfold fA at hd
 split at hd
 ·cases hd
 split at hd
 ·cases hd
 split at hd
 ·cases hd
 cases hd
 refine⟨?_,MI ht.1 h (by omega)⟩
 rw[qP];simp only;omega
theorem qX{l:List bY}{n:ByteArray}(h:eB l n=none):∀d∈l,d.name≠n:=fun d hd he=>by
 unfold eB at h
 rw[List.find?_eq_none]at h
 exact h d hd (by simpa using he)
theorem CM{bk:Bk}{n:ByteArray}(h:gN bk n=false):eF bk.qs n=none/\eF bk.bs n=none/\eB bk.ds n=none/\¬0<cu n:=by
 unfold gN at h
 simp only[Bool.or_eq_false_iff,decide_eq_false_iff_not]at h
 refine⟨?_,?_,?_,h.2⟩
 ·simpa using h.1.1.1
 ·simpa using h.1.1.2
 ·simpa using h.1.2
theorem HL{bk bR:Bk}{r:Row}{i:Int}(a:kF bk)(hl:r.args.length<=100000000)(h:pz bk r i=.ok bR):kF bR/\gW bk bR/\bR={ bk with ds:=bk.ds++[⟨r.name,r.args.map (·.name),i+1,i+1+r.rows,1,0,false⟩] }/\gN bk r.name=false:=by
 unfold pz at h
 split at h
 ·cases h
 rename_i ht
 split at h
 ·cases h
 split at h
 ·cases h
 split at h
 ·cases h
 cases h
 have ht:gN bk r.name=false:=by simpa using ht
 refine⟨⟨⟨a.ok.tq,a.ok.tb,a.ok.sq,a.ok.sb,fun d hd=>?_⟩,?_⟩,⟨_,List.map_append⟩,rfl,ht⟩
 ·rcases List.mem_append.1 hd with hd |hd
  ·exact a.ok.ds d hd
  ·have:=List.mem_singleton.1 hd
   subst this
   refine⟨by simpa using hl,?_⟩
   simp only;omega
 ·simp only[List.map_append,List.map_cons,List.map_nil]
  rw[List.nodup_append]
  refine⟨a.nd,by simp,fun x hx y hy=>?_⟩
  have hy:=List.mem_singleton.1 hy
  subst hy
  obtain⟨d,hd,rfl⟩:=List.mem_map.1 hx
  exact qX (CM ht).2.2.1 d hd
theorem Q3{bk bR:Bk}{r:Row}{own:Option Nat}(a:kF bk)(h:ka bk own r=.ok bR):kF bR/\gW bk bR/\bR.ds.length=bk.ds.length:=by
 unfold ka at h
 split at h
 ·cases h
 split at h
 ·cases h
 split at h
 ·cases h
 split at h
 ·cases h
 split at h
 ·cases h
 split at h
 ·cases h
 rename_i hd
 cases h
 unfold jV
 cases own with
 |none=>exact⟨a,gW.refl,rfl⟩
 |some k=>
  simp only[Option.isSome_some,zH]at hd
  have:=a.modify (k:=k) (f:=fun d=>{ d with depth:=max d.depth ((gF bk r.name).2+1) }) (fun _=>rfl) (fun d h=>by have:=a.ok.ds d h;simp only;omega)
  exact⟨this.1,this.2,by simp⟩
theorem nM{bk bR:Bk}{own:Option Nat}{i:Int}{r:Row}(a:kF bk)(hl:r.args.length<=100000000)(h:fC bk own i r=.ok bR):kF bR/\gW bk bR/\(r.kind=bj->0<=r.num)/\(r.kind≠bJ->bR.ds.length=bk.ds.length) /\
  (r.kind=bJ->bR={ bk with ds:=bk.ds++[⟨r.name,r.args.map (·.name),i+1,i+1+r.rows,1,0,false⟩] }):=by
 unfold fC at h
 have n1:ch≠bj:=by decide
 have n2:cZ≠bj:=by decide
 have n3:bJ≠bj:=by decide
 have m1:ch≠bJ:=by decide
 have m2:cZ≠bJ:=by decide
 have same:∀e,kY e bk=.ok bR->bR=bk:=fun e h=>by
  unfold kY at h
  split at h<;>cases h
  rfl
 by_cases k1:r.kind=ch
 ·rw[zX k1]at h
  cases hd:fA bk bk.qs 64 r with
  |error e=>rw[hd]at h;cases h
  |ok l=>
   rw[hd]at h
   cases h
   obtain⟨h1,h2⟩:=F_ a.ok.tq a.ok.sq hd
   exact⟨⟨⟨h1,a.ok.tb,h2,a.ok.sb,a.ok.ds⟩,a.nd⟩,⟨[],by simp⟩,fun e=>absurd (k1.symm.trans e) n1,fun _=>rfl,fun e=>absurd (k1.symm.trans e) m1⟩
 rw[zW k1]at h
 by_cases k2:r.kind=cZ
 ·rw[zX k2]at h
  cases hd:fA bk bk.bs 64 r with
  |error e=>rw[hd]at h;cases h
  |ok l=>
   rw[hd]at h
   cases h
   obtain⟨h1,h2⟩:=F_ a.ok.tb a.ok.sb hd
   exact⟨⟨⟨a.ok.tq,h1,a.ok.sq,h2,a.ok.ds⟩,a.nd⟩,⟨[],by simp⟩,fun e=>absurd (k2.symm.trans e) n2,fun _=>rfl,fun e=>absurd (k2.symm.trans e) m2⟩
 rw[zW k2]at h
 by_cases k3:r.kind=bJ
 ·rw[zX k3]at h
  obtain⟨h1,h2,h3,_⟩:=HL a hl h
  exact⟨h1,h2,fun e=>absurd (k3.symm.trans e) n3,fun e=>absurd k3 e,fun _=>h3⟩
 rw[zW k3]at h
 have fin:bR=bk->(r.kind=bj->0<=r.num)->kF bR/\gW bk bR/\(r.kind=bj->0<=r.num)/\(r.kind≠bJ->bR.ds.length=bk.ds.length)/\(r.kind=bJ->bR={ bk with ds:=bk.ds++[⟨r.name,r.args.map (·.name),i+1,i+1+r.rows,1,0,false⟩] }):=fun e hn=>by
  subst e
  exact⟨a,gW.refl,hn,fun _=>rfl,fun e=>absurd e k3⟩
 by_cases k4:r.kind=bj
 ·rw[zX k4]at h
  split at h
  ·cases h
  ·cases h
   exact fin rfl (fun _=>by omega)
 rw[zW k4]at h
 have Ku:r.kind=bj->0<=r.num:=fun e=>absurd e k4
 by_cases k5:r.kind=fK
 ·rw[zX k5]at h
  unfold tU at h
  split at h
  ·cases h
  ·split at h
   ·cases h
   ·cases h
    exact fin rfl Ku
 rw[zW k5]at h
 by_cases k6:r.kind=cQ
 ·rw[zX k6]at h
  obtain⟨h1,h2,h3⟩:=Q3 a h
  exact⟨h1,h2,Ku,fun _=>h3,fun e=>absurd e k3⟩
 rw[zW k6]at h
 by_cases k7:r.kind=cD
 ·rw[zX k7]at h
  unfold kj at h
  split at h
  ·split at h
   ·cases h
   ·exact fin (same _ h) Ku
  ·cases h
 rw[zW k7]at h
 by_cases k8:r.kind=dz
 ·rw[zX k8]at h
  unfold mi at h
  split at h
  ·exact fin (same _ h) Ku
  ·cases h
 rw[zW k8]at h
 cases h
 exact fin rfl Ku
theorem ug{r:Row}{behind deep:Int}{own:Bool}(h:kH r behind deep own=0):lE r.kind=true/\(kl r.kind=true\/r.rows=0)/\0<=r.rows/\r.rows<=behind/\deep<=32/\(0<deep->pH r.kind=false)/\(own=true->r.kind=cQ\/r.kind=bj):=by
 unfold kH at h
 split at h
 ·cases h
 rename_i h1
 split at h
 ·cases h
 rename_i h2
 split at h
 ·cases h
 rename_i h3
 split at h
 ·cases h
 rename_i h4
 simp at h1 h3 h4
 refine⟨h1.1.1.1,?_,h1.1.2,h1.2,by omega,h3,fun ho=>?_⟩
 ·cases hb:kl r.kind with
  |true=>exact .inl rfl
  |false=>exact .inr (h1.1.1.2 hb)
 ·by_cases hu:r.kind=cQ
  ·exact .inl hu
  ·exact .inr (h4 ho hu)
theorem jf{deep:Nat}{own:Option Nat}{i:Nat}{bk:Bk}:eN deep own i [] bk=.ok bk:=by rw[eN]
theorem jG{deep:Nat}{own:Option Nat}{i:Nat}{r:Row}{rest:List Row}{bk:Bk}:eN deep own i (r::rest) bk =
  if kH r rest.length deep own.isSome≠0 then .error (r.place,kH r rest.length deep own.isSome)
  else match fC bk own i r with
   |.error e=>.error (r.place,e)
   |.ok lm=>match eN (deep+1) (if r.kind=bJ then some bk.ds.length else own) (i+1) (rest.take r.rows.toNat) lm with
    |.error e=>.error e
    |.ok eT=>eN deep own (i+1+r.rows.toNat) (rest.drop r.rows.toNat) (if r.kind=bJ then{ eT with ds:=jy eT.ds bk.ds.length (countP eT.ds (rest.take r.rows.toNat) 0) } else eT):=by
 conv=>lhs;rw[eN]
 all_goals rfl
theorem td{bk:Bk}(a:kF bk){k:Nat}{l:List Row}(hs:oS l):kF { bk with ds:=jy bk.ds k (countP bk.ds l 0) }/\gW bk { bk with ds:=jy bk.ds k (countP bk.ds l 0) }:=by
 have hb:=qf (ds:=bk.ds) (fun d hd=>(a.ok.ds d hd).2.2.2) hs 0 (by omega)
 exact a.modify (fun _=>rfl) (fun d hd=>by have:=a.ok.ds d hd;simp only;omega)
theorem po(n:Nat):∀{deep:Nat}{own:Option Nat}{i:Nat}{rows:List Row}{bk bR:Bk}(_:rows.length=n)(_:∀r∈rows,r.args.length<=100000000)(_:kF bk)(_:eN deep own i rows bk=.ok bR),kF bR/\gW bk bR/\oS rows:=by
 induction n using Nat.strongRecOn with
 |ind n ih=>
 intro deep own i rows bk bR hn hl a h
 cases rows with
 |nil=>rw[jf]at h;cases h;exact⟨a,gW.refl,.nil⟩
 |cons r rest=>
  rw[jG]at h
  split at h
  ·cases h
  rename_i hf
  obtain⟨_,_,f1,f2,_⟩:=ug (Classical.not_not.1 hf)
  split at h
  ·cases h
  rename_i lm h1
  split at h
  ·cases h
  rename_i eT h2
  obtain⟨a1,x1,g1,g2,g3⟩:=nM a (hl r (List.mem_cons_self ..)) h1
  rw[List.length_cons]at hn
  obtain⟨a2,x2,s2⟩:=ih _ (by rw[yA];omega) rfl (fun r' hr=>hl r' (List.mem_cons_of_mem _ (List.mem_of_mem_take hr))) a1 h2
  have key:∀kD,kF kD->gW eT kD->eN deep own (i+1+r.rows.toNat) (rest.drop r.rows.toNat) kD=.ok bR->kF bR/\gW bk bR/\oS (r::rest):=fun kD a3 x3 h3=>by
   obtain⟨a4,x4,s4⟩:=ih _ (by rw[List.length_drop];omega) rfl (fun r' hr=>hl r' (List.mem_cons_of_mem _ (List.mem_of_mem_drop hr))) a3 h3
   exact⟨a4,x1.trans (x2.trans (x3.trans x4)),.cons f1 f2 g1 s2 s4⟩
  by_cases k:r.kind=bJ
  ·rw[zX k]at h
   obtain⟨a3,x3⟩:=td a2 (k:=bk.ds.length) s2
   exact key _ a3 x3 h
  ·rw[zW k]at h
   exact key _ a2 gW.refl h
end
section
open Go.Ab
attribute [-simp] aX aF
theorem DF{f:bY->bY}(h1:∀d,(f d).name=d.name)(h2:∀d,(f d).ops=d.ops)(n:ByteArray):∀(l:List bY)(k:Nat),(eB (l.modify k f) n).map (·.ops)=(eB l n).map (·.ops)
 |[],k=>by simp
 |d::l,0=>by
  unfold eB
  simp only[List.modify_zero_cons,List.find?_cons,h1]
  cases decide (d.name=n)
  ·rfl
  ·simp[h2]
 |d::l,k+1=>by
  have ih:=DF h1 h2 n l k
  unfold eB at ih ⊢
  simp only[List.modify_succ_cons,List.find?_cons]
  cases decide (d.name=n)
  ·exact ih
  ·rfl
theorem vX{f:bY->bY}(h1:∀d,(f d).name=d.name)(h2:∀d,(f d).ops=d.ops){ds:List bY}{k:Nat}{l:List Row}(hs:oS l):∀n,countP (ds.modify k f) l n=countP ds l n:=by
 induction hs with
 |nil=>intro n;rw[countP_nil,countP_nil]
 |cons h0 eL ft h3 h4 Ue Ud=>
  rename_i r l
  intro n
  rw[countP_cons,countP_cons,Ue,Ud]
  have g:∀o o':Option bY,o.map (·.ops)=o'.map (·.ops)->(match o with |some d=>d.ops |none=>1)=(match o' with |some d=>d.ops |none=>(1:Int)):=by
   rintro(_ |a) (_ |b) h
   ·rfl
   ·cases h
   ·cases h
   ·exact Option.some.inj h
  have e:∀c,iC (ds.modify k f) r c=iC ds r c:=fun c=>by
   unfold iC
   by_cases kr:r.kind=bj
   ·rw[zX kr,zX kr]
   ·rw[zW kr,zW kr]
    exact g _ _ (DF h1 h2 r.name ds k)
  rw[e]
theorem wv{ds:List bY}{k:Nat}{n:Int}:(ds.modify k (fun d=>{ d with whole:=true })).modify k (fun d=>{ d with ops:=n })=jy ds k n:=by
 unfold jy
 apply List.ext_getElem?
 intro i
 simp only[getElem?_modify']
 by_cases h:k=i
 ·simp only[zX h,Option.map_map];rfl
 ·simp only[zW h]
theorem Ir{l:List bY}(h:(l.map (·.name)).Nodup){i j:Nat}{a b:bY}(hi:l[i]?=some a)(hj:l[j]?=some b)(he:a.name=b.name):i=j:=by
 obtain⟨h1,h2⟩:=zM.1 hi
 obtain⟨h3,h4⟩:=zM.1 hj
 have hp:=List.pairwise_iff_getElem.1 h
 have g1:(l.map (·.name))[i]'(by simpa using h1)=a.name:=by simp[h2]
 have g2:(l.map (·.name))[j]'(by simpa using h3)=b.name:=by simp[h4]
 rcases Nat.lt_trichotomy i j with aR |pc |aR
 ·exact absurd (g1.trans (he.trans g2.symm)) (hp i j (by simpa using h1) (by simpa using h3) aR)
 ·exact pc
 ·exact absurd (g2.trans (he.symm.trans g1.symm)) (hp j i (by simpa using h3) (by simpa using h1) aR)
section
variable {h:AH} {n0 p:Nat} {xr x4:AV} {bk:Bk} {ids:List Nat} {qm bm gm:Nat} {pl:Int} {rs:List (Row×AV)} {own:Option Nat}
theorem Co(pm:PM h bk ids qm bm gm)(a:kF bk){k:Nat}{d:bY}(hd:bk.ds[k]?=some d):∃id,ids[k]?=some id/\fl d.name (ls bk.ds ids)=some (.ptr id 0)/\tj h id d:=by
 rcases nH (n:=d.name) pm.len with⟨_,e2⟩ |⟨k',d',id,e1,e2,pb,qa⟩
 ·exact absurd rfl (qX e2 d (zP hd))
 ·have hn:d'.name=d.name:=by
   have:=List.find?_some e2
   simpa using this
  have:=Ir a.nd hd pb hn.symm
  subst this
  rw[hd]at pb;cases pb
  exact⟨id,qa,e1,pm.d _ _ _ hd qa⟩
theorem PA.Wy(pa:PA n0 h p xr bk ids qm bm gm pl){x:Int}:PA n0 (h.put p 8 [I x]) p xr bk ids qm bm gm x/\Fr h (h.put p 8 [I x]) (TW TP n0 h)/\Fr h (h.put p 8 [I x]) (·=p):=by
 have f1:Fr h (h.put p 8 [I x]) (·=p):=Fr.refl.put (.inl rfl)
 have o1:=cX (off:=8) (cs:=[I x]) pa.p
 generalize h.put p 8 [I x]=h1 at *
 have dH:∀{j:Nat}{o:AO},h.obj j=some o->o.ty≠66->h1.obj j=some o:=fun ho du=>f1.obj ho (ci ho pa.p du)
 refine⟨⟨pa.n,o1,dH pa.m.q (show(63:Nat)≠66 by decide),dH pa.m.b (show(63:Nat)≠66 by decide),dH pa.m.g (show(64:Nat)≠66 by decide),pa.m.len,fun k d id h1 h2=>(pa.m.d k d id h1 h2).fr f1 fun i o ho ht=>?_,pa.m.nd,pa.m.qb⟩,TW.iO f1 pa.n.1 pa.p rfl rfl,f1⟩
 exact ci ho pa.p (by rcases ht with h |h<;>rw[h]<;>show _≠(66:Nat)<;>decide)
theorem mz.HV{l:List Nat}(ho:mz ids own x4):mz (ids++l) own x4:=by
 cases own with
 |none=>exact ho
 |some k=>
  obtain⟨id,h1,h2⟩:=ho
  exact⟨id,by rw[List.getElem?_append_left (zM.1 h1).1];exact h1,h2⟩
theorem PA.ct(pa:PA n0 h p xr bk ids qm bm gm pl)(rt:RT h xr rs):Mb h p xr rs bk ids qm bm gm:=⟨⟨_,pa.p,rfl,rfl⟩,rt,pa.m⟩
end
def CD(h:AH)(p:Nat)(pl:Int):Prop:=∃cs,h.obj p=some (aN cs 9 66)/\cs[8]?=some (I pl)
theorem PA.rD{h:AH}{n0 p:Nat}{xr:AV}{bk:Bk}{ids:List Nat}{qm bm gm:Nat}{pl:Int}(pa:PA n0 h p xr bk ids qm bm gm pl):CD h p pl:=⟨_,pa.p,rfl⟩
theorem CD.aU{h h':AH}{p:Nat}{pl:Int}(a:CD h p pl)(f:Fr h h' fun _=>False):CD h' p pl:=by
 obtain⟨cs,h1,h2⟩:=a
 exact⟨cs,f.bM h1,h2⟩
theorem EC{bk:Bk}{own:Option Nat}{i:Int}{r:Row}{e:Int}(h:fC bk own i r=.error e):e≠0:=by
 have de:∀(bk:Bk)(l:List fZ){e:Int},fA bk l 64 r=.error e->e≠0:=fun bk l e h=>by
  unfold fA at h
  split at h
  ·cases h;decide
  split at h
  ·cases h;decide
  split at h
  ·cases h;decide
  cases h
 have er:∀x,kY x bk=.error e->e≠0:=fun x h=>by
  unfold kY at h
  split at h
  ·rename_i h0;cases h;exact h0
  ·cases h
 unfold fC at h
 split at h
 ·cases hd:fA bk bk.qs 64 r with
  |error e'=>rw[hd]at h;cases h;exact de bk _ hd
  |ok l=>rw[hd]at h;cases h
 split at h
 ·cases hd:fA bk bk.bs 64 r with
  |error e'=>rw[hd]at h;cases h;exact de bk _ hd
  |ok l=>rw[hd]at h;cases h
 split at h
 ·unfold pz at h
  split at h
  ·cases h;decide
  split at h
  ·cases h;decide
  split at h
  ·cases h;decide
  split at h
  ·cases h;decide
  cases h
 split at h
 ·split at h
  ·cases h;decide
  ·cases h
 split at h
 ·unfold tU at h
  split at h
  ·cases h;decide
  ·split at h
   ·cases h;decide
   ·cases h
 split at h
 ·unfold ka at h
  split at h
  ·cases h;decide
  split at h
  ·cases h;decide
  split at h
  ·cases h;decide
  split at h
  ·rename_i h0;cases h;exact h0
  split at h
  ·cases h;decide
  split at h
  ·cases h;decide
  cases h
 split at h
 ·unfold kj at h
  split at h
  ·split at h
   ·rename_i h0;cases h;exact h0
   ·exact er _ h
  ·cases h;decide
 split at h
 ·unfold mi at h
  split at h
  ·exact er _ h
  ·cases h;decide
 cases h
theorem Da(n:Nat):∀{deep:Nat}{own:Option Nat}{i:Nat}{rows:List Row}{bk:Bk}{x:Int×Int}(_:rows.length=n)(_:eN deep own i rows bk=.error x),x.2≠0:=by
 induction n using Nat.strongRecOn with
 |ind n ih=>
 intro deep own i rows bk x hn h
 cases rows with
 |nil=>rw[jf]at h;cases h
 |cons r rest=>
  rw[List.length_cons]at hn
  rw[jG]at h
  split at h
  ·rename_i h0;cases h;exact h0
  split at h
  ·rename_i e he;cases h;exact EC he
  split at h
  ·rename_i e he;cases h
   exact ih _ (by rw[yA];omega) rfl he
  ·exact ih _ (by rw[List.length_drop];omega) rfl h
section
variable {p:Nat} {xr:AV} {qm bm gm:Nat} {rs:List (Row×AV)} {n0:Nat}
theorem RA(n:Nat):∀{h:AH}{M:Nat->Prop}{R:AE->AH->Prop}{a deep:Nat}{own:Option Nat}{x4:AV}{bk:Bk}{ids:List Nat}{pl:Int}
  (_:PA n0 h p xr bk ids qm bm gm pl) (_:RT h xr rs) (_:kF bk) (_:mz ids own x4) (_:a+n<=rs.length) (_:deep<=33) (_:∀id,TW TP n0 h id->M id)
  (_:∀fD e h',eN deep own a (sg rs a n) bk=.error (fD,e)->CD h' p fD->Fr h h' (TW TP n0 h)->R (.ret (I e)) h')
  (_:∀bR l fD h',eN deep own a (sg rs a n) bk=.ok bR->PA n0 h' p xr bR (ids++l) qm bm gm fD->Fr h h' (TW TP n0 h)->R (.ret (I 0)) h'),
  aE Pg 21 [.ptr p 0,I a,I (a+n),I deep,x4] h M R:=by
 induction n using Nat.strongRecOn with
 |ind n ih=>
 intro h M R a deep own x4 j9 E8 pl0 Tq rA bi0 P5 hn Qk hM he hk
 apply f_.aM
 unfold f_.cz f_.cy f_.bV
 have hlen:=rA.n
 refine bU (ι:=Nat×Bk×List Nat×Int) (fun i v h'=>v=[.ptr p 0,I (a+n),I deep,x4,I (a+(n-i.1:Nat):Int)]/\i.1<=n/\PA n0 h' p xr i.2.1 (E8++i.2.2.1) qm bm gm i.2.2.2/\kF i.2.1/\eN deep own (a+(n-i.1)) (sg rs (a+(n-i.1)) i.1) i.2.1=eN deep own a (sg rs a n) j9/\Fr h h' (TW TP n0 h)) (fun i=>i.1) (n,j9,[],pl0) ⟨by simp,zU _,by simpa using Tq,bi0,by simp,TW.aO Fr.refl⟩ ?_
 rintro K ⟨m,bk,EX,pl⟩ v h1 ⟨rfl,hm,pa,bi,bq,f1⟩ step
 simp only at hm pa bi bq
 have ic:=rA.oO f1
 have ho:=P5.HV (l:=EX)
 unfold f_.cB
 simp only[zN,zO,f_.cl,aZ]
 cases m with
 |zero=>
  have e1:decide ((a:Int)+(n-0:Nat)<a+n)=false:=by simp
  rw[uA,jf]at bq
  simp only[e1,f_.cj,aj,zE,zD,zC,zH,zV,f_.n1]
  simpa using hk bk EX pl h1 bq.symm pa f1
 |succ m=>
  obtain⟨j,hj⟩:∃j,j=a+(n-(m+1)):=⟨_,rfl⟩
  have ej:(a:Int)+(n-(m+1):Nat)=(j:Int):=by omega
  have e1:decide ((j:Int)<a+n)=true:=by simp;omega
  rw[<-hj]at bq
  obtain⟨y,hy⟩:∃y,rs[j]?=some y:=⟨rs[j]'(by omega),zJ _⟩
  rw[wu hy,jG,pV (by omega)]at bq
  have E_:=ic.a y (zP hy)
  have yR:∀id,h1.next<=id->(M id\/h.next<=id):=fun id hid=>.inr (zR f1.next hid)
  have sS:∀{h2:AH},Fr h h2 (TW TP n0 h)->∀id,TW TP n0 h2 id->(M id\/h.next<=id):=fun f id hid=>(TW.back f hid).elim (fun h=>.inl (hM id h)) .inr
  have w1:∀x:Int,0<=x/\x<=1000000000->IntKind.i64.wrap x=x:=fun x hx=>aS (by omega) (by omega)
  simp only[e1,ej,f_.cj,aj,zD,zF,zC,zI,f_.cn,aD,ag,au,pa.p,ao,zG,zA,ab]
  refine fV ic.r cO (ic.one hy) hy rfl rfl yR fun vr h2 f2 _ ju=>?_
  have cw:=TW.trans f1 (TW.aO f2)
  have eP:=pa.aU f2
  simp only[f_.cb,ag,au,ju,ao,zG,ay,zA,zB,ab,aD,aF,eP.p,dC,bG]
  refine⟨⟨.inl (hM p ⟨Tq.n.1,_,Tq.p,rfl,rfl⟩),rfl,rfl,by simp⟩,?_⟩
  obtain⟨AP,f3,g3⟩:=eP.Wy (x:=y.1.place)
  generalize h2.put p 8 [I y.1.place]=h3 at *
  have dR:=TW.trans cw f3
  have jM:=g3.obj ju (ci ju eP.p (show(42:Nat)≠66 by decide))
  have rz:=rA.oO dR
  have ZK:=rz.a y (zP hy)
  unfold f_.bW
  refine di jM rfl fun _=>?_
  have eb:IntKind.i64.wrap ((a:Int)+n-j)=(m:Int)+1:=by
   have:(a:Int)+n-j=m+1:=by omega
   rw[this];exact w1 _ (by omega)
  have Vz:IntKind.i64.wrap ((m:Int)+1-1)=m:=by
   have:(m:Int)+1-1=m:=by omega
   rw[this];exact w1 _ (by omega)
  simp only[jL,eb,Vz]
  refine⟨fun _=>False,fun _ h=>h.elim,RN AP.m ZK.1 ho fun h4 f4=>?_⟩
  have iT:=TW.trans dR (TW.aO f4)
  simp only[f_.cp,b5]
  by_cases k1:kH y.1 m deep own.isSome=0
  ·rw[zW (by simpa using k1)]at bq
   have eK:(kH y.1 m deep own.isSome != 0)=false:=by simp[k1]
   obtain⟨_,_,b0,b1,bdp,_,_⟩:=ug k1
   obtain⟨k,sR⟩:∃k:Nat,y.1.rows=k:=⟨y.1.rows.toNat,by omega⟩
   have lj:k<=m:=by omega
   rw[sR,zY,jp lj,jq]at bq
   have sC:=f4.bM jM
   have XJ:=AP.aU f4
   have rt4:=rA.oO iT
   have Nf:=rt4.a y (zP hy)
   simp only[eK,f_.b_,aj,zE,zD,zC,zH,f_.bO]
   refine di sC rfl fun _=>?_
   refine⟨TW TP n0 h4,fun id hs _=>sS iT id hs,Tf XJ bi.ok ho Nf.1 Nf.2 (by omega) (by omega) (fun _ h=>h) ?_ ?_⟩
   ·intro e h5 hr f5
    rw[hr]at bq
    have qM:=TW.trans iT (TW.aO f5)
    have h0:e≠0:=EC hr
    have rQ:(e != 0)=true:=by simp[h0]
    simp only[f_.bH,b5,rQ,f_.bz,aj,zD,zF,zC,zI,f_.bC]
    simpa using he y.1.place e h5 bq.symm (XJ.rD.aU f5) qM
   ·intro lm ZJ h5 hr sA aaM f5
    rw[hr]at bq
    simp only at bq
    have qM:=TW.trans iT f5
    obtain⟨HQ,x1,_,g2,HC⟩:=nM bi Nf.2 hr
    have G_:h5.obj vr=some (aN (ay y) 6 42):=TW.obj f5 sC rfl
    have Te:=rA.oO qM
    obtain⟨l1,rfl⟩:∃l1,ZJ=E8++(EX++l1):=by
     rcases aaM with rfl |⟨id,rfl⟩
     ·exact⟨[],by simp⟩
     ·exact⟨[id],by simp⟩
    have UI:=P5.HV (l:=EX++l1)
    have last:∀kD l3 Tm h7,PA n0 h7 p xr kD (E8++l3) qm bm gm Tm->kF kD->h7.obj vr=some (aN (ay y) 6 42)->eN deep own (j+1+k) (sg rs (j+1+k) (m-k)) kD=eN deep own a (sg rs a n) j9->Fr h h7 (TW TP n0 h) ->
      f_.n2 (fun id=>M id\/h.next<=id) (aJ Pg [.tmp 10] R) K (fun(i:Nat) (vs:List AV) (h:AH)=>if i=0 then f_.n1 (fun id=>M id\/h.next<=id) (aJ Pg [.tmp 10] R) (aJ Pg [.tmp 10] R) (fun _ _ _=>False) (fun v h=>R (.cg v) h) h else False) (fun v h=>R (.cg v) h) (.ptr p 0) (I (a+n)) (I deep) x4 (I j) (.ptr vr 0) h7:=fun kD l3 Tm h7 JU VQ TD P_ BI=>by
     simp only[f_.n2,ag,au,TD,ao,zG,ay,zA,zB,ab,sR,aT,w1 (1+(k:Int)) (by omega),w1 ((j:Int)+(1+k)) (by omega)]
     have e8:j+1+k=a+(n-(m-k)):=by omega
     have e9:(j:Int)+(1+k)=a+(n-(m-k):Nat):=by omega
     rw[e8]at P_
     refine step (m-k,kD,l3,Tm) _ h7 (by simp only;omega) ⟨by rw[<-e9],by simp only;omega,JU,VQ,P_,BI⟩
    have XT:∀inner aL,mz (E8++(EX++l1)) inner aL ->
      (∀e,eN (deep+1) inner (j+1) (sg rs (j+1) k) lm=.error e->eN deep own a (sg rs a n) j9=.error e) ->
      (∀eT l2 lC h6,eN (deep+1) inner (j+1) (sg rs (j+1) k) lm=.ok eT->PA n0 h6 p xr eT (E8++l2) qm bm gm lC->Fr h h6 (TW TP n0 h)->h6.obj vr=some (aN (ay y) 6 42) ->
       f_.n7 (fun id=>M id\/h.next<=id) (aJ Pg [.tmp 10] R) K (fun(i:Nat) (vs:List AV) (h:AH)=>if i=0 then f_.n1 (fun id=>M id\/h.next<=id) (aJ Pg [.tmp 10] R) (aJ Pg [.tmp 10] R) (fun _ _ _=>False) (fun v h=>R (.cg v) h) h else False) (fun v h=>R (.cg v) h) (.ptr p 0) (I (a+n)) (I deep) x4 (I j) (.ptr vr 0) h6) ->
      f_.a_ (fun id=>M id\/h.next<=id) (aJ Pg [.tmp 10] R) K (fun(i:Nat) (vs:List AV) (h:AH)=>if i=0 then f_.n1 (fun id=>M id\/h.next<=id) (aJ Pg [.tmp 10] R) (aJ Pg [.tmp 10] R) (fun _ _ _=>False) (fun v h=>R (.cg v) h) h else False) (fun v h=>R (.cg v) h) (.ptr p 0) (I (a+n)) (I deep) x4 (I j) (.ptr vr 0) aL h5:=fun inner aL No nF eQ=>by
     simp only[f_.a_,aT,ag,au,G_,ao,zG,ay,zA,zB,ab,sR,w1 ((j:Int)+1) (by omega),w1 ((j:Int)+1+k) (by omega),w1 ((deep:Int)+1) (by omega)]
     refine⟨TW TP n0 h5,fun id hs _=>sS qM id hs,ih k (by omega) (a:=j+1) (deep:=deep+1) sA Te HQ No (by omega) (by omega) (fun _ h=>h) ?_ ?_⟩
     ·intro fD e h6 nT hp6 f6
      have h0:e≠0:=Da _ rfl nT
      have rQ:(e != 0)=true:=by simp[h0]
      simp only[f_.aQ,b5,rQ,f_.n9,aj,zD,zF,zC,zI,f_.n8]
      simpa using he fD e h6 (nF _ nT) hp6 (TW.trans qM f6)
     ·intro eT l2 lC h6 nT yn f6
      have rQ:((0:Int) != 0)=false:=rfl
      simp only[f_.aQ,b5,rQ,f_.n9,aj,zE,zD,zC,zH]
      rw[List.append_assoc]at yn
      exact eQ eT _ lC h6 nT yn (TW.trans qM f6) (TW.obj f6 G_ rfl)
    have eg:(⟨#[103,97,116,101]⟩:ByteArray)=bJ:=rfl
    have FT:((0:Int) != 0)=false:=rfl
    simp only[f_.bH,b5,FT,f_.bz,aj,zE,zD,zC,zH,f_.bD,f_.bt,ag,au,G_,ao,zG,ay,zA,zB,ab,bB,eg]
    by_cases kg:y.1.kind=bJ
    ·rw[zX kg]at bq
     have VA:=HC kg
     obtain⟨d1,Qz⟩:∃d1:bY,d1=⟨y.1.name,y.1.args.map (·.name),j+1,j+1+y.1.rows,1,0,false⟩:=⟨_,rfl⟩
     have Dq:lm.ds[bk.ds.length]?=some d1:=by rw[VA,Qz];simp
     have jS:d1.name=y.1.name:=by rw[Qz]
     obtain⟨id1,i1,i2,_⟩:=Co sA.m HQ Dq
     rw[jS]at i2
     simp only[zL kg,f_.bc,aj,zD,zF,zC,zI,aD,ag,au,sA.p,G_,ao,zG,ay,zA,zB,ab]
     refine iQ (enc:=Sb) jP z87 sA.m.g fun _=>?_
     rw[i2]
     simp only[gR,zE,if_false]
     refine XT (some bk.ds.length) _ ⟨id1,i1,rfl⟩ (fun e h6=>by rw[h6]at bq;exact bq.symm) fun eT l2 lC h6 nT yn nV AS=>?_
     rw[nT]at bq
     simp only[zX kg]at bq
     obtain⟨HP,x2,s2⟩:=po _ rfl (fun r hr=>by
      unfold sg at hr
      obtain⟨z,hz,rfl⟩:=List.mem_map.1 hr
      exact(Te.a z (List.mem_of_mem_drop (List.mem_of_mem_take hz))).2) HQ nT
     obtain⟨d2,qD,ec⟩:=x2.at_ Dq
     have KI:d2.name=y.1.name:=(congrArg (·.1) ec).trans jS
     have hf2:d2.from_=((j+1:Nat):Int):=by
      have:=congrArg (·.2.2.1) ec
      rw[Qz]at this
      simp only[core]at this
      omega
     have ht2:d2.GZ=((j+1:Nat):Int)+(k:Int):=by
      have:=congrArg (·.2.2.2) ec
      rw[Qz]at this
      simp only[core]at this
      omega
     obtain⟨Bb,i3,i4,xp,od,hxp⟩:=Co yn.m HP qD
     rw[KI]at i4
     simp only[f_.n7,ag,au,AS,ao,zG,ay,zA,zB,ab,bB,eg,zL kg,f_.n6,aj,zD,zF,zC,zI,f_.n5,aD,yn.p]
     refine iQ (enc:=Sb) jP z87 yn.m.g fun _=>?_
     rw[i4]
     have US:=yn.n.2.2.2.2 Bb (zP i3)
     simp only[gR,zE,if_false,f_.n4,aD,ag,aF,od,mw,bG]
     refine⟨⟨sS nV Bb ⟨US,_,od,rfl,rfl⟩,rfl,rfl,by simp⟩,?_⟩
     have g7:Fr h6 (h6.put Bb 6 [B true]) (·=Bb):=Fr.refl.put (.inl rfl)
     have o7:=cX (off:=6) (cs:=[B true]) od
     generalize h6.put Bb 6 [B true]=h7 at *
     obtain⟨JU,f7⟩:=yn.zq (f:=fun d=>{ d with whole:=true }) qD i3 hxp (fun _=>rfl) rfl o7 g7
     have BI:=TW.trans nV f7
     have TD:h7.obj vr=some (aN (ay y) 6 42):=TW.obj f7 AS rfl
     obtain⟨VQ,_⟩:=HP.modify (k:=bk.ds.length) (f:=fun d=>{ d with whole:=true }) (fun _=>rfl) (fun d hd=>(HP.ok.ds d hd).2)
     have Qm:(eT.ds.modify bk.ds.length fun d=>{ d with whole:=true })[bk.ds.length]?=some { d2 with whole:=true }:=by rw[getElem?_modify',zX rfl,qD];rfl
     obtain⟨xp7,XN,ZM⟩:=JU.m.d _ _ _ Qm i3
     simp only[f_.n3,aD,ag,au,XN,ao,zG,zA,zB,ab,hf2,ht2]
     refine⟨fun _=>False,fun _ h=>h.elim,Of (fun d hd=>(VQ.ok.ds d hd).2.2.2) k (JU.ct (rA.oO BI)) (by omega) s2 fun h8 f8=>?_⟩
     have Vy:=vX (f:=fun d=>{ d with whole:=true }) (fun _=>rfl) (fun _=>rfl) (ds:=eT.ds) (k:=bk.ds.length) s2 0
     simp only[Vy]
     have Li:=TW.trans BI (TW.aO f8)
     have pa8:=JU.aU f8
     have TL:=f8.bM XN
     have or8:=f8.bM TD
     have ZL:bN hZ 1 9 h8 xp7 d2.params:=ZM.aO f8 fun _ _ h=>h
     generalize hc:countP eT.ds (sg rs (j+1) k) 0=c at *
     simp only[aD,ag,aF,TL,dC,bG]
     refine⟨⟨sS Li Bb ⟨US,_,TL,rfl,rfl⟩,rfl,rfl,by simp⟩,?_⟩
     have g9:Fr h8 (h8.put Bb 5 [I c]) (·=Bb):=Fr.refl.put (.inl rfl)
     have o9:=cX (off:=5) (cs:=[I c]) TL
     generalize h8.put Bb 5 [I c]=h9 at *
     obtain⟨XI,f9⟩:=pa8.zq (f:=fun d=>{ d with ops:=c }) Qm i3 ZL (fun _=>rfl) rfl o9 g9
     have e9:({ eT with ds:=(eT.ds.modify bk.ds.length fun d=>{ d with whole:=true }).modify bk.ds.length fun d=>{ d with ops:=c } }:Bk)={ eT with ds:=jy eT.ds bk.ds.length c }:=by rw[wv]
     rw[e9]at XI
     have YE:=(td HP (k:=bk.ds.length) s2).1
     rw[hc]at YE
     exact last _ _ _ h9 XI YE (TW.obj f9 or8 rfl) bq (TW.trans Li f9)
    ·rw[zW kg]at bq
     simp only[zK kg,f_.bc,aj,zE,zD,zC,zH]
     refine XT own x4 UI (fun e h6=>by rw[h6]at bq;exact bq.symm) fun eT l2 lC h6 nT yn nV AS=>?_
     rw[nT]at bq
     simp only[zW kg]at bq
     obtain⟨HP,x2,s2⟩:=po _ rfl (fun r hr=>by
      unfold sg at hr
      obtain⟨z,hz,rfl⟩:=List.mem_map.1 hr
      exact(Te.a z (List.mem_of_mem_drop (List.mem_of_mem_take hz))).2) HQ nT
     simp only[f_.n7,ag,au,AS,ao,zG,ay,zA,zB,ab,bB,eg,zK kg,f_.n6,aj,zE,zD,zC,zH]
     exact last _ _ _ h6 yn HP AS bq nV
  ·rw[zX k1]at bq
   have eK:(kH y.1 m deep own.isSome != 0)=true:=by simp[k1]
   simp only[eK,f_.b_,aj,zD,zF,zC,zI,f_.bQ]
   simpa using he _ _ h4 bq.symm (AP.rD.aU f4) iT
end
end
end Go.Proofs.Ytjehibknlmehmaa
