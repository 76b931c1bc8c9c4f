/- flat in plain Lean; its look at rows. No condition. -/
import Derived.Test.YtjehibknlmehmaaGreatDoorGf
import Derived.Test.YtjehibknlmehmaaGreatDoorEa
set_option maxRecDepth 100000
namespace Go.Proofs.YtjehibknlmehmaaGreatDoor
section
open Go.Ab
structure js where
 name:ByteArray
 from_:Int
 size:Int
structure dO where
 name:ByteArray
 params:List ByteArray
 from_:Int
 JF:Int
 depth:Int
 ops:Int
 whole:Bool
structure Bk where
 qs:List js
 bs:List js
 ds:List dO
def fA(l:List js)(n:ByteArray):Option js:=l.find? fun r=>decide (r.name=n)
def hH(l:List dO)(n:ByteArray):Option dO:=l.find? fun d=>decide (d.name=n)
def bq(l:List js):Int:=(l.map (·.size)).sum
def j7(bk:Bk)(n:ByteArray):Bool:=(fA bk.qs n).isSome||(fA bk.bs n).isSome||(hH bk.ds n).isSome||decide (0<b6 n)
def pL(k:ByteArray):Bool:=decide (k=aY)||decide (k=aK)||decide (k=c9)
def rO(k:ByteArray):Bool:=decide (k=aX)||decide (k=bK)||decide (k=bP)||decide (k=be)||decide (k=ch)||pL k
def uK(k:ByteArray):Bool:=decide (k=aX)||decide (k=bK)||decide (k=aY)
def mN(r:Row)(behind deep:Int)(own:Bool):Int:=
 if !rO r.kind||(!pL r.kind&&r.rows != 0)||decide (r.rows<0)||decide (behind<r.rows) then 100
 else if 32<deep then 102
 else if decide (0<deep)&&uK r.kind then 100
 else if own&&!decide (r.kind=bP)&&!decide (r.kind=aK) then 100
 else 0
def jT(l:List js)(a:Arg):Int:=
 match fA l a.name with
 |none=>110
 |some g=>if a.index<0\/g.size<=a.index then 112 else 0
abbrev Er(α:Type):=Except Int α
def ij(bk:Bk)(l:List js)(mh:Int)(r:Row):Er (List js):=
 if j7 bk r.name then .error 110 else if r.num<1 then .error 112 else if mh-bq l<r.num then .error 1 else .ok (l++[⟨r.name,bq l,r.num⟩])
def Ci{α:Type}[DecidableEq α](l:List α):Bool:=(List.range l.length).any fun i=>match l[i]? with |some a=>gB a (l.take i) |none=>false
theorem Ch{α:Type}[DecidableEq α]{l:List α}{i:Nat}{a:α}(hi:l[i]?=some a)(h:gB a (l.take i)=true):Ci l=true:=by
 unfold Ci
 rw[List.any_eq_true]
 exact⟨i,List.mem_range.2 (zM.1 hi).1,by rw[hi];exact h⟩
theorem HC{α:Type}[DecidableEq α]{l:List α}(h:∀i a,l[i]?=some a->gB a (l.take i)=false):Ci l=false:=by
 unfold Ci
 rw[List.any_eq_false]
 intro i hi
 rw[zJ (List.mem_range.1 hi)]
 simp only[h i _ (zJ (List.mem_range.1 hi))]
 decide
def FI(l:List ByteArray):Bool:=Ci l
def uJ(bk:Bk)(r:Row)(i:Int):Er Bk:=
 if j7 bk r.name then .error 110 else if r.args.length=0 then .error 111
 else if r.args.any (fun a=>a.index != -1) then .error 112
 else if FI (r.args.map (·.name)) then .error 113
 else .ok { bk with ds:=bk.ds++[⟨r.name,r.args.map (·.name),i+1,i+1+r.rows,1,0,false⟩] }
def io(bk:Bk)(own:Option dO)(a:Arg):Int:=
 match own with
 |none=>jT bk.qs a
 |some d=>if a.index≠-1 then 112 else if gB a.name d.params then 0 else 110
def hF(f:Arg->Int):List Arg->Int
 |[]=>0
 |a::l=>if f a≠0 then f a else hF f l
def jk(a:Arg):ByteArray×Int:=(a.name,a.index)
def Cj(l:List Arg):Bool:=Ci (l.map jk)
def r9(bk:Bk)(own:Option Nat)(n:Int):Bk:=match own with |some k=>{ bk with ds:=bk.ds.modify k fun d=>{ d with depth:=max d.depth n } } |none=>bk
def kz(bk:Bk)(own:Option Nat):Option dO:=own.bind fun k=>bk.ds[k]?
def nz(bk:Bk)(n:ByteArray):Int×Int:=
 match hH bk.ds n with
 |some d=>if d.whole then(d.params.length,d.depth) else(b6 n,0)
 |none=>(b6 n,0)
def qY(bk:Bk)(own:Option Nat)(n:ByteArray):Bool:=match kz bk own with |some d=>decide (n=d.name) |none=>false
def mY(bk:Bk)(own:Option Nat)(r:Row):Er Bk:=
 if qY bk own r.name then .error 114
 else if (nz bk r.name).1=0 then .error 80
 else if (r.args.length:Int)≠(nz bk r.name).1 then .error 111
 else if hF (io bk (kz bk own)) r.args≠0 then .error (hF (io bk (kz bk own)) r.args)
 else if Cj r.args then .error 113
 else if own.isSome=true/\32<(nz bk r.name).2+1 then .error 102
 else .ok (r9 bk own ((nz bk r.name).2+1))
def qB(e:Int)(bk:Bk):Er Bk:=if e≠0 then .error e else .ok bk
def EO(bk:Bk)(r:Row):Er Bk:=
 match fA bk.bs r.name with
 |none=>.error 110
 |some c=>if r.num<0\/(c.size<63/\2^c.size.toNat<=r.num) then .error 112 else .ok bk
def pI(bk:Bk)(l:List Arg):Er Bk:=match l with |[a,b]=>if jT bk.qs a≠0 then .error (jT bk.qs a) else qB (jT bk.bs b) bk |_=>.error 111
def tG(bk:Bk)(l:List Arg):Er Bk:=match l with |[a]=>qB (jT bk.qs a) bk |_=>.error 111
def lA(bk:Bk)(own:Option Nat)(i:Int)(r:Row):Er Bk:=
 if r.kind=aX then(ij bk bk.qs 64 r).map fun l=>{ bk with qs:=l }
 else if r.kind=bK then(ij bk bk.bs 64 r).map fun l=>{ bk with bs:=l }
 else if r.kind=aY then uJ bk r i
 else if r.kind=aK then(if r.num<0 then .error 112 else .ok bk)
 else if r.kind=c9 then EO bk r
 else if r.kind=bP then mY bk own r
 else if r.kind=be then pI bk r.args
 else if r.kind=ch then tG bk r.args
 else .ok bk
def countP(ds:List dO)(rows:List Row)(n:Int):Int:=
 match rows with
 |[]=>n
 |r::rest=>
  let k:Int:=if r.kind=aK then(let c:=countP ds (rest.take r.rows.toNat) 0;if 0<c then min r.num 4097*c else c) else match hH ds r.name with |some d=>d.ops |none=>1
  countP ds (rest.drop r.rows.toNat) (min (n+k) 4097)
termination_by rows.length
decreasing_by all_goals (simp only[yA,List.length_drop,List.length_cons];omega)
def l0(ds:List dO)(k:Nat)(n:Int):List dO:=ds.modify k fun d=>{ d with whole:=true,ops:=n }
def fB(deep:Nat)(own:Option Nat)(i:Nat)(rows:List Row)(bk:Bk):Except (Int×Int) Bk:=
 match rows with
 |[]=>.ok bk
 |r::rest=>
  if mN r rest.length deep own.isSome≠0 then .error (r.place,mN r rest.length deep own.isSome)
  else match lA bk own i r with
   |.error e=>.error (r.place,e)
   |.ok qO=>
    let inner:=if r.kind=aY then some bk.ds.length else own
    match fB (deep+1) inner (i+1) (rest.take r.rows.toNat) qO with
    |.error e=>.error e
    |.ok iK=>
     let nV:=if r.kind=aY then{ iK with ds:=l0 iK.ds bk.ds.length (countP iK.ds (rest.take r.rows.toNat) 0) } else iK
     fB deep own (i+1+r.rows.toNat) (rest.drop r.rows.toNat) nV
termination_by rows.length
decreasing_by all_goals (simp only[yA,List.length_drop,List.length_cons];omega)
end
section
open Go.Ab
attribute [-simp] aN aD
def TP(t:TypeId):Bool:=t==94||t==95||t==97||t==127
def uG(r:js):AV:=.agg [I r.from_,I r.size]
def rB(l:List js):List (ByteArray×AV):=l.map fun r=>(r.name,uG r)
def k_(l:List dO)(ids:List Nat):List (ByteArray×AV):=(l.zip ids).map fun x=>(x.1.name,.ptr x.2 0)
abbrev B1(xr:AV)(qm bm gm:Nat)(xp:AV)(nq nb:Int)(xo:AV)(pl:Int):AO:=aO [xr,.mp qm,.mp bm,.mp gm,xp,I nq,I nb,xo,I pl] 9 97
abbrev v_(xp:AV)(d:dO):AO:=aO [Sb d.name,xp,I d.from_,I d.JF,I d.depth,I d.ops,B d.whole] 7 127
def th(h:AH)(id:Nat)(d:dO):Prop:=∃xp,h.obj id=some (v_ xp d)/\bw nI 1 9 h xp d.params
structure PM (h:AH) (bk:Bk) (ids:List Nat) (qm bm gm:Nat):Prop where
 q:h.obj qm=some (lB Sb 94 (rB bk.qs))
 b:h.obj bm=some (lB Sb 94 (rB bk.bs))
 g:h.obj gm=some (lB Sb 95 (k_ bk.ds ids))
 len:ids.length=bk.ds.length
 d:∀(k:Nat)(d:dO)(id:Nat),bk.ds[k]?=some d->ids[k]?=some id->th h id d
 nd:ids.Nodup
 qb:qm≠bm
structure PA (n0:Nat) (h:AH) (p:Nat) (xr:AV) (bk:Bk) (ids:List Nat) (qm bm gm:Nat) (pl:Int):Prop where
 n:n0<=p/\n0<=qm/\n0<=bm/\n0<=gm/\∀id∈ids,n0<=id
 p:h.obj p=some (B1 xr qm bm gm aV (bq bk.qs) (bq bk.bs) aV pl)
 m:PM h bk ids qm bm gm
theorem th.fr{h h':AH}{id:Nat}{d:dO}(a:th h id d){S:Nat->Prop}(hf:Fr h h' S)(hs:∀i o,h.obj i=some o->o.ty=127\/o.ty=9->¬S i):th h' id d:=by
 obtain⟨xp,h1,h2⟩:=a
 refine⟨xp,hf.obj h1 (hs _ _ h1 (.inl rfl)),?_⟩
 rcases h2 with h2 |⟨i,h3,h4⟩
 ·exact .inl h2
 ·exact .inr ⟨i,h3,hf.obj h4 (hs _ _ h4 (.inr rfl))⟩
theorem PM.bp{h h':AH}{bk:Bk}{ids:List Nat}{qm bm gm:Nat}(a:PM h bk ids qm bm gm)(hf:Fr h h' fun _=>False):PM h' bk ids qm bm gm:=
 ⟨hf.bQ a.q,hf.bQ a.b,hf.bQ a.g,a.len,fun k d id h1 h2=>(a.d k d id h1 h2).fr hf fun _ _ _ _ h=>h,a.nd,a.qb⟩
theorem PA.bp{n0:Nat}{h h':AH}{p:Nat}{xr:AV}{bk:Bk}{ids:List Nat}{qm bm gm:Nat}{pl:Int}(a:PA n0 h p xr bk ids qm bm gm pl)(hf:Fr h h' fun _=>False):PA n0 h' p xr bk ids qm bm gm pl:=
 ⟨a.n,hf.bQ a.p,a.m.bp hf⟩
theorem kZ{n:ByteArray}{l:List js}:eu n (rB l)=(fA l n).map uG:=zn
theorem nG{n:ByteArray}:∀{l:List dO}{ids:List Nat},ids.length=l.length->(eu n (k_ l ids)=none/\hH l n=none)\/∃(k:Nat)(d:dO)(id:Nat),eu n (k_ l ids)=some (.ptr id 0)/\hH l n=some d/\l[k]?=some d/\ids[k]?=some id
 |[],ids,_=>.inl ⟨by simp[k_,eu],rfl⟩
 |d::l,[],h=>by simp at h
 |d::l,id::ids,h=>by
  have e:k_ (d::l) (id::ids)=(d.name,.ptr id 0)::k_ l ids:=rfl
  rw[e]
  unfold hH
  simp only[eu,List.find?_cons]
  by_cases hn:n=d.name
  ·rw[zX hn,zL hn.symm]
   exact .inr ⟨0,d,id,rfl,rfl,rfl,rfl⟩
  ·rw[zW hn,zK (fun h=>hn h.symm)]
   rcases nG (n:=n) (l:=l) (ids:=ids) (by simpa using h) with⟨h1,h2⟩ |⟨k,d',qc,h1,h2,h3,h4⟩
   ·exact .inl ⟨h1,h2⟩
   ·exact .inr ⟨k+1,d',qc,h1,h2,by simpa using h3,by simpa using h4⟩
theorem z93:nX Pg 56=some (.agg [I 0,I 0]):=by kernel_rfl
theorem z87:nX Pg 122=some (.sc (.pointer none)):=by kernel_rfl
section
variable {h:AH} {M:Nat->Prop} {R:AE->AH->Prop}
theorem DA{k:ByteArray}(hR:R (.ret (B (pL k))) h):ay Pg 89 [Sb k] h M R:=by
 apply YZ.aI
 unfold pL at hR
 by_cases k1:k=aY
 ·subst k1;simpa[aY] using hR
 ·by_cases k2:k=aK
  ·subst k2;simpa[aY,aK] using hR
  ·by_cases k3:k=c9
   ·subst k3;simpa[aY,aK,c9] using hR
   ·simp[k1,k2,k3]at hR
    unfold aY at k1;unfold aK at k2;unfold c9 at k3
    simpa[k1,k2,k3] using hR
theorem MZ{k:ByteArray}(hR:R (.ret (B (rO k))) h):ay Pg 88 [Sb k] h M R:=by
 apply Qw.aI
 unfold rO at hR
 by_cases k1:k=aX
 ·subst k1;simpa[aX] using hR
 by_cases k2:k=bK
 ·subst k2;simpa[aX,bK] using hR
 by_cases k3:k=bP
 ·subst k3;simpa[aX,bK,bP] using hR
 by_cases k4:k=be
 ·subst k4;simpa[aX,bK,bP,be] using hR
 by_cases k5:k=ch
 ·subst k5;simpa[aX,bK,bP,be,ch] using hR
 simp[k1,k2,k3,k4,k5]at hR
 unfold aX at k1;unfold bK at k2;unfold bP at k3;unfold be at k4;unfold ch at k5
 simp[-Qw.n1,k1,k2,k3,k4,k5]
 unfold Qw.n1
 refine⟨fun _=>False,fun _ h=>h.elim,DA ?_⟩
 simpa using hR
end
section
variable {h:AH} {M:Nat->Prop} {R:AE->AH->Prop} {n0 p:Nat} {xr:AV} {bk:Bk} {ids:List Nat} {qm bm gm:Nat} {pl:Int}
theorem yQ{cs:List AV}{n:ByteArray}(hp:h.obj p=some (aO cs 9 97))(c1:cs[1]?=some (.mp qm))(c2:cs[2]?=some (.mp bm))(c3:cs[3]?=some (.mp gm))(hm:PM h bk ids qm bm gm)
  (hR:∀h',Fr h h' (fun _=>False)->R (.ret (B (j7 bk n))) h'):ay Pg 113 [.ptr p 0,Sb n] h M R:=by
 apply pD.aI
 unfold pD.aQ pD.aU
 simp only[aT,al,aF,hp,aB,zG,c1,ah]
 refine ir (enc:=Sb) jD z93 hm.q fun _=>?_
 rw[kZ]
 have hex:∀(o:Option js),∃a b,gu true (.agg [I 0,I 0]) (o.map uG)=.cM [.agg [I a,I b],B o.isSome]:=fun o=>by
  cases o with
  |none=>exact⟨_,_,rfl⟩
  |some r=>exact⟨_,_,rfl⟩
 obtain⟨a1,b1,e1⟩:=hex (fA bk.qs n)
 rw[e1]
 simp only[dx,zA,zB,ah]
 refine gH (cs:=[I a1,I b1]) rfl rfl rfl rfl (fun id hid=>.inr hid) fun v1 h1 f1 _ _=>?_
 unfold pD.aP
 simp only[aT,al,aF,f1.bQ hp,aB,zG,c2,ah]
 have PG:=hm.bp f1
 refine ir (enc:=Sb) jD z93 PG.b fun _=>?_
 rw[kZ]
 obtain⟨a2,b2,e2⟩:=hex (fA bk.bs n)
 rw[e2]
 simp only[dx,zA,zB,ah]
 refine gH (cs:=[I a2,I b2]) rfl rfl rfl rfl (fun id hid=>.inr (zR f1.next hid)) fun v2 h2 f2 _ _=>?_
 have cu:=f1.bO f2
 unfold pD.n9
 simp only[aT,al,aF,cu.bQ hp,aB,zG,c3,ah]
 have hm2:=hm.bp cu
 refine ir (enc:=Sb) jD z87 hm2.g fun _=>?_
 have e3:∃z,gu true (.sc (.pointer none)) (eu n (k_ bk.ds ids))=.cM [z,B (hH bk.ds n).isSome]:=by
  rcases nG (n:=n) hm.len with⟨h1,h2⟩ |⟨k,d,id,h1,h2,_⟩
  ·rw[h1,h2];exact⟨_,rfl⟩
  ·rw[h1,h2];exact⟨_,rfl⟩
 obtain⟨z,e3⟩:=e3
 rw[e3]
 simp only[dx,zA,zB,ah]
 unfold j7 at hR
 generalize (fA bk.qs n).isSome=t1 at *
 generalize (fA bk.bs n).isSome=t2 at *
 generalize (hH bk.ds n).isSome=t3 at *
 have fin:∀b,b=(t1||t2||t3)->pD.n3 (fun id=>M id\/h.next<=id) (aH Pg [.tmp 4] R) (aH Pg [.tmp 4] R) (fun _ _ _=>False) (fun v h=>R (.bV v) h) (Sb n) (B b) h2:=fun b hb=>by
  rw[<-hb]at hR
  cases b with
  |true=>simpa[pD.n3,pD.n2] using hR h2 cu
  |false=>
   simp only[pD.n3,dl,zT,zE,zD,zC,zI]
   refine⟨fun _=>False,fun _ h=>h.elim,zu fun h3 f3=>?_⟩
   have:=hR h3 (cu.bO f3)
   simpa[pD.n2] using this
 have fin:=fin _ rfl
 revert fin
 cases t1<;>cases t2<;>cases t3<;>intro fin<;>simp[-pD.n3]at fin<;>simp[-pD.n3]<;>exact fin
end
end
section
open Go.Ab
attribute [-simp] aN aD
theorem qR(l:List js)(r:js):bq (l++[r])=bq l+r.size:=by simp[bq]
theorem Eg(l:List js)(r:js):rB (l++[r])=rB l++[(r.name,uG r)]:=by simp[rB]
theorem pq{y:Row×AV}{l:List Arg}{f:Arg->List AV}{sz:Nat}{ty:TypeId}{h:AH}(ha:cf f sz ty h y.2 l):(au y).all cB=true:=by
 show(true&&(true&&(cB y.2&&(true&&(true&&(true&&true))))))=true
 rw[ha.one.1];rfl
section
variable {h:AH} {M:Nat->Prop} {R:AE->AH->Prop} {n0 p:Nat} {xr:AV} {bk:Bk} {ids:List Nat} {qm bm gm:Nat} {pl:Int}
theorem DX{m:Nat}{l:List js}{a:Arg}(hm:h.obj m=some (lB Sb 94 (rB l)))(hR:∀h',Fr h h' (fun _=>False)->R (.ret (I (jT l a))) h'):ay Pg 93 [.mp m,.agg a.enc] h M R:=by
 apply Gi.aI
 unfold Gi.aU
 refine cW (cs:=a.enc) (Arg.gL a) fun va h1 f1 _ oa=>?_
 unfold Gi.aP
 simp only[al,aF,oa,aB,zG,Arg.enc,zA,ah]
 refine ir (enc:=Sb) jD z93 (f1.bQ hm) fun _=>?_
 rw[kZ]
 unfold jT at hR
 cases hr:fA l a.name with
 |none=>
  rw[hr]at hR
  simp only[Option.map_none,gu,zV,dx,zA,zB,ah]
  refine gH (cs:=[I 0,I 0]) rfl rfl rfl rfl (fun id hid=>.inr (zR f1.next hid)) fun v1 h2 f2 _ _=>?_
  have:=hR h2 (f1.bO f2)
  simpa[Gi.n9,Gi.n8,Gi.n7] using this
 |some g=>
  rw[hr]at hR
  simp only[yB,gu,zV,uG,dx,zA,zB,ah]
  refine gH (cs:=[I g.from_,I g.size]) rfl rfl rfl rfl (fun id hid=>.inr (zR f1.next hid)) fun v1 h2 f2 _ ov=>?_
  have:=hR h2 (f1.bO f2)
  have Tp:=f2.bQ oa
  by_cases k1:a.index<0
  ·simp[k1]at this
   simpa[Tp,ov,Arg.enc,k1] using this
  ·by_cases k2:g.size<=a.index
   ·simp[k1,k2]at this
    simpa[Tp,ov,Arg.enc,k1,k2] using this
   ·simp[k1,k2]at this
    simpa[Tp,ov,Arg.enc,k1,k2] using this
theorem LB{mh:Int}{y:Row×AV}(pa:PA n0 h p xr bk ids qm bm gm pl)(ha:cf Arg.enc 2 67 h y.2 y.1.args)(Fl:mh=64)(ht:0<=bq bk.qs/\bq bk.qs<=64)(hM:∀id,TW TP n0 h id->M id)
  (he:∀e h',ij bk bk.qs mh y.1=.error e->Fr h h' (fun _=>False)->R (.ret (I e)) h')
  (hk:∀l' h',ij bk bk.qs mh y.1=.ok l'->PA n0 h' p xr { bk with qs:=l' } ids qm bm gm pl->Fr h h' (TW TP n0 h)->R (.ret (I 0)) h') :
  ay Pg 90 [.ptr p 0,.agg (au y),.mp qm,.ptr p 5,I mh] h M R:=by
 apply iV.aI
 unfold iV.a_
 refine cW (pq ha) fun vr h1 f1 gK dq=>?_
 unfold iV.aQ
 have lm:=pa.bp f1
 simp only[al,aF,dq,aB,zG,au,zA,zB,ah]
 refine⟨fun _=>False,fun _ h=>h.elim,yQ lm.p rfl rfl rfl lm.m fun h2 f2=>?_⟩
 have cu:=f1.bO f2
 have dT:=lm.bp f2
 have l_:=f2.bQ dq
 unfold ij at he hk
 cases fG:j7 bk y.1.name with
 |true=>
  have:=he 110 h2 (by rw[fG];rfl) cu
  simpa[iV.aU,iV.n4] using this
 |false=>
  rw[fG]at he hk
  simp only[zE,if_false]at he hk
  simp only[iV.aU,ao,zE,zC,zD,zH]
  by_cases k1:y.1.num<1
  ·have:=he 112 h2 (by rw[zX k1]) cu
   simpa[iV.aP,iV.n9,iV.n5,l_,au,k1] using this
  ·rw[zW k1]at he hk
   have w1:IntKind.i64.wrap (mh-bq bk.qs)=mh-bq bk.qs:=aL (by omega) (by omega)
   simp only[iV.aP,al,aF,l_,aB,zG,au,zA,zB,ah,ba,zK k1,iV.n9,ao,zE,zC,zD,zH,iV.n8,aT,dT.p,eX,w1,dZ,gt_iff_lt]
   by_cases k2:mh-bq bk.qs<y.1.num
   ·have:=he 1 h2 (by rw[zX k2]) cu
    simpa[iV.n7,iV.n6,k2] using this
   ·rw[zW k2]at he hk
    simp only[zK k2,iV.n7,ao,zE,zC,zD,zH]
    unfold iV.n3
    simp only[al,aF,l_,aB,zG,au,zA,zB,ah,aT,dT.p]
    refine⟨_,rfl,?_⟩
    have q8:eu y.1.name (rB bk.qs)=none:=by
     rw[kZ]
     unfold j7 at fG
     simp only[Bool.or_eq_false_iff]at fG
     have:=fG.1.1.1
     cases hx:fA bk.qs y.1.name with
     |none=>rfl
     |some _=>rw[hx]at this;cases this
    have La:∀id,TW TP n0 h id->(M id\/h.next<=id):=fun id hid=>.inl (hM id hid)
    have m0:h.obj qm=some (lB Sb 94 (rB bk.qs)):=pa.m.q
    have p0:h.obj p=some (B1 xr qm bm gm aV (bq bk.qs) (bq bk.bs) aV pl):=pa.p
    refine uq (enc:=Sb) jD (La _ ⟨pa.n.2.1,_,m0,rfl,rfl⟩) dT.m.q q8 fun h3 Ev f3=>?_
    have Ks:p≠qm:=b5 p0 m0 (show(97:Nat)≠94 by decide)
    have p3:h3.obj p=some (B1 xr qm bm gm aV (bq bk.qs) (bq bk.bs) aV pl):=f3.obj dT.p Ks
    have oR:h3.obj vr=some (aO (au y) 6 46):=f3.obj l_ (b5 l_ dT.m.q (show(46:Nat)≠94 by decide))
    have w2:IntKind.i64.wrap (bq bk.qs+y.1.num)=bq bk.qs+y.1.num:=aL (by omega) (by omega)
    unfold iV.n2
    simp only[aT,al,aF,p3,oR,aB,zG,au,zA,zB,ah,aR,w2,aD,eJ,cH]
    refine⟨⟨La _ ⟨pa.n.1,_,p0,rfl,rfl⟩,rfl,rfl,by simp⟩,?_⟩
    have f4:Fr h3 (h3.put p 5 [I (bq bk.qs+y.1.num)]) (·=p):=Fr.refl.put (.inl rfl)
    have p4:=fF (off:=5) (cs:=[I (bq bk.qs+y.1.num)]) p3
    generalize h3.put p 5 [I (bq bk.qs+y.1.num)]=h4 at *
    have fz:Fr h h4 (TW TP n0 h):=TW.trans (TW.trans (TW.bJ cu) (TW.nk f3 pa.n.2.1 dT.m.q rfl rfl)) (TW.nk f4 pa.n.1 p3 rfl rfl)
    refine hk _ h4 rfl ⟨pa.n,?_,?_⟩ fz
    ·rw[p4,qR];rfl
    ·have dA:∀{i:Nat}{o:AO},h2.obj i=some o->i≠qm->i≠p->h4.obj i=some o:=fun ho h1 h2=>f4.obj (f3.obj ho h1) h2
     refine⟨by rw[Eg];exact f4.obj Ev (Ne.symm Ks),dA dT.m.b (Ne.symm dT.m.qb) (b5 dT.m.b dT.p (show(94:Nat)≠97 by decide)),dA dT.m.g (b5 dT.m.g dT.m.q (show(95:Nat)≠94 by decide)) (b5 dT.m.g dT.p (show(95:Nat)≠97 by decide)),dT.m.len,fun k d id h5 h6=>?_,dT.m.nd,dT.m.qb⟩
     obtain⟨xp,h7,h8⟩:=dT.m.d k d id h5 h6
     refine⟨xp,dA h7 (b5 h7 dT.m.q (show(127:Nat)≠94 by decide)) (b5 h7 dT.p (show(127:Nat)≠97 by decide)),?_⟩
     rcases h8 with h8 |⟨i,h9,kV⟩
     ·exact .inl h8
     ·exact .inr ⟨i,h9,dA kV (b5 kV dT.m.q (show(9:Nat)≠94 by decide)) (b5 kV dT.p (show(9:Nat)≠97 by decide))⟩
theorem LC{mh:Int}{y:Row×AV}(pa:PA n0 h p xr bk ids qm bm gm pl)(ha:cf Arg.enc 2 67 h y.2 y.1.args)(Fl:mh=64)(ht:0<=bq bk.bs/\bq bk.bs<=64)(hM:∀id,TW TP n0 h id->M id)
  (he:∀e h',ij bk bk.bs mh y.1=.error e->Fr h h' (fun _=>False)->R (.ret (I e)) h')
  (hk:∀l' h',ij bk bk.bs mh y.1=.ok l'->PA n0 h' p xr { bk with bs:=l' } ids qm bm gm pl->Fr h h' (TW TP n0 h)->R (.ret (I 0)) h') :
  ay Pg 90 [.ptr p 0,.agg (au y),.mp bm,.ptr p 6,I mh] h M R:=by
 apply iV.aI
 unfold iV.a_
 refine cW (pq ha) fun vr h1 f1 gK dq=>?_
 unfold iV.aQ
 have lm:=pa.bp f1
 simp only[al,aF,dq,aB,zG,au,zA,zB,ah]
 refine⟨fun _=>False,fun _ h=>h.elim,yQ lm.p rfl rfl rfl lm.m fun h2 f2=>?_⟩
 have cu:=f1.bO f2
 have dT:=lm.bp f2
 have l_:=f2.bQ dq
 unfold ij at he hk
 cases fG:j7 bk y.1.name with
 |true=>
  have:=he 110 h2 (by rw[fG];rfl) cu
  simpa[iV.aU,iV.n4] using this
 |false=>
  rw[fG]at he hk
  simp only[zE,if_false]at he hk
  simp only[iV.aU,ao,zE,zC,zD,zH]
  by_cases k1:y.1.num<1
  ·have:=he 112 h2 (by rw[zX k1]) cu
   simpa[iV.aP,iV.n9,iV.n5,l_,au,k1] using this
  ·rw[zW k1]at he hk
   have w1:IntKind.i64.wrap (mh-bq bk.bs)=mh-bq bk.bs:=aL (by omega) (by omega)
   simp only[iV.aP,al,aF,l_,aB,zG,au,zA,zB,ah,ba,zK k1,iV.n9,ao,zE,zC,zD,zH,iV.n8,aT,dT.p,eX,w1,dZ,gt_iff_lt]
   by_cases k2:mh-bq bk.bs<y.1.num
   ·have:=he 1 h2 (by rw[zX k2]) cu
    simpa[iV.n7,iV.n6,k2] using this
   ·rw[zW k2]at he hk
    simp only[zK k2,iV.n7,ao,zE,zC,zD,zH]
    unfold iV.n3
    simp only[al,aF,l_,aB,zG,au,zA,zB,ah,aT,dT.p]
    refine⟨_,rfl,?_⟩
    have q8:eu y.1.name (rB bk.bs)=none:=by
     rw[kZ]
     unfold j7 at fG
     simp only[Bool.or_eq_false_iff]at fG
     have:=fG.1.1.2
     cases hx:fA bk.bs y.1.name with
     |none=>rfl
     |some _=>rw[hx]at this;cases this
    have La:∀id,TW TP n0 h id->(M id\/h.next<=id):=fun id hid=>.inl (hM id hid)
    have m0:h.obj bm=some (lB Sb 94 (rB bk.bs)):=pa.m.b
    have p0:h.obj p=some (B1 xr qm bm gm aV (bq bk.qs) (bq bk.bs) aV pl):=pa.p
    refine uq (enc:=Sb) jD (La _ ⟨pa.n.2.2.1,_,m0,rfl,rfl⟩) dT.m.b q8 fun h3 Ev f3=>?_
    have Ks:p≠bm:=b5 p0 m0 (show(97:Nat)≠94 by decide)
    have p3:h3.obj p=some (B1 xr qm bm gm aV (bq bk.qs) (bq bk.bs) aV pl):=f3.obj dT.p Ks
    have oR:h3.obj vr=some (aO (au y) 6 46):=f3.obj l_ (b5 l_ dT.m.b (show(46:Nat)≠94 by decide))
    have w2:IntKind.i64.wrap (bq bk.bs+y.1.num)=bq bk.bs+y.1.num:=aL (by omega) (by omega)
    unfold iV.n2
    simp only[aT,al,aF,p3,oR,aB,zG,au,zA,zB,ah,aR,w2,aD,eJ,cH]
    refine⟨⟨La _ ⟨pa.n.1,_,p0,rfl,rfl⟩,rfl,rfl,by simp⟩,?_⟩
    have f4:Fr h3 (h3.put p 6 [I (bq bk.bs+y.1.num)]) (·=p):=Fr.refl.put (.inl rfl)
    have p4:=fF (off:=6) (cs:=[I (bq bk.bs+y.1.num)]) p3
    generalize h3.put p 6 [I (bq bk.bs+y.1.num)]=h4 at *
    have fz:Fr h h4 (TW TP n0 h):=TW.trans (TW.trans (TW.bJ cu) (TW.nk f3 pa.n.2.2.1 dT.m.b rfl rfl)) (TW.nk f4 pa.n.1 p3 rfl rfl)
    refine hk _ h4 rfl ⟨pa.n,?_,?_⟩ fz
    ·rw[p4,qR];rfl
    ·have dA:∀{i:Nat}{o:AO},h2.obj i=some o->i≠bm->i≠p->h4.obj i=some o:=fun ho h1 h2=>f4.obj (f3.obj ho h1) h2
     refine⟨dA dT.m.q dT.m.qb (b5 dT.m.q dT.p (show(94:Nat)≠97 by decide)),by rw[Eg];exact f4.obj Ev (Ne.symm Ks),dA dT.m.g (b5 dT.m.g dT.m.b (show(95:Nat)≠94 by decide)) (b5 dT.m.g dT.p (show(95:Nat)≠97 by decide)),dT.m.len,fun k d id h5 h6=>?_,dT.m.nd,dT.m.qb⟩
     obtain⟨xp,h7,h8⟩:=dT.m.d k d id h5 h6
     refine⟨xp,dA h7 (b5 h7 dT.m.b (show(127:Nat)≠94 by decide)) (b5 h7 dT.p (show(127:Nat)≠97 by decide)),?_⟩
     rcases h8 with h8 |⟨i,h9,kV⟩
     ·exact .inl h8
     ·exact .inr ⟨i,h9,dA kV (b5 kV dT.m.b (show(9:Nat)≠94 by decide)) (b5 kV dT.p (show(9:Nat)≠97 by decide))⟩
end
end
section
open Go.Ab
attribute [-simp] aN aD
theorem lz{κ:Type}[DecidableEq κ]{n:κ}:∀{l:List (κ×AV)},(eu n l).isSome=gB n (l.map (·.1))
 |[]=>rfl
 |(k,v)::l=>by
  have ih:=lz (n:=n) (l:=l)
  unfold gB at *
  simp only[eu,List.map_cons,jn]
  by_cases e:n=k
  ·rw[zX e,zX e];rfl
  ·rw[zW e,zW e,ih]
   have sh:∀(l:List κ)(i j:Nat),(jn n l i).isSome=(jn n l j).isSome:=fun l=>by
    induction l with
    |nil=>intro i j;rfl
    |cons a l ih=>
     intro i j
     simp only[jn]
     split
     ·rfl
     ·exact ih _ _
   exact sh _ _ _
theorem CO{z:AV}(o:Option AV):∃a,gu true z o=.cM [a,B o.isSome]:=by
 cases o with
 |none=>exact⟨_,rfl⟩
 |some v=>exact⟨_,rfl⟩
theorem NF(s:ByteArray):(nI s).all cB=true:=rfl
theorem VA{α:Type}{f:α->Bool}{l:List α}{i:Nat}{a:α}(hi:l[i]?=some a)(h:f a=true):l.any f=true:=List.any_eq_true.2 ⟨a,zP hi,h⟩
theorem Vz{α:Type}{f:α->Bool}{l:List α}(h:∀(i:Nat)(a:α),l[i]?=some a->f a=false):l.any f=false:=by
 rw[List.any_eq_false]
 intro x hx
 obtain⟨i,hi,rfl⟩:=List.mem_iff_getElem.1 hx
 rw[h i _ (zJ hi)];decide
theorem z3:nX Pg 3=some (I 0):=by kernel_rfl
section
variable {W:Nat->Prop} {QR QN:VK} {QE:Nat->VK} {QP:AV->AH->Prop} {h:AH} {x0:AV} {vr dd:Nat} {y:Row×AV}
theorem LZ(hW:∀id,h.next<=id->W id)(dq:h.obj vr=some (aO (au y) 6 46))(ha:cf Arg.enc 2 67 h y.2 y.1.args)(hl:y.1.args.length<=100000000)
  (he:y.1.args.any (fun a=>a.index != -1)=true->∀h',Fr h h' (fun _=>False)->QR [I 112] h')
  (hk:y.1.args.any (fun a=>a.index != -1)=false->∀h',Fr h h' (fun _=>False)->fO.bj W QR QN QE QP x0 (.ptr vr 0) (.ptr dd 0) h'):fO.bZ W QR QN QE QP x0 (.ptr vr 0) (.ptr dd 0) h:=by
 unfold fO.bZ
 simp only[al,aF,dq,aB,zG,au,zA,zB,ah,ha.len.1,ha.len.2,zH]
 unfold fO.bD
 refine bX (ι:=Nat) (fun i v h'=>v=[x0,.ptr vr 0,.ptr dd 0,y.2,I y.1.args.length,I i]/\i<=y.1.args.length/\Fr h h' (fun _=>False)/\∀j a,j<i->y.1.args[j]?=some a->(a.index != -1)=false) (fun i=>y.1.args.length-i) 0 ⟨rfl,by omega,Fr.refl,fun j a h=>by omega⟩ ?_
 rintro K i v h' ⟨rfl,hi,hf,hb⟩ hK
 simp only[fO.fI,zN,zO]
 by_cases aM:i<y.1.args.length
 ·have dh:(i:Int)<y.1.args.length:=by omega
  have g1:y.1.args[i]?=some y.1.args[i]:=zJ aM
  have w1:IntKind.i64.wrap ((i:Int)+1)=((i+1:Nat):Int):=by rw[aL (by omega) (by omega)];simp
  generalize y.1.args[i]=g at *
  simp only[fO.bG,ba,zL dh,fO.bE,ao,zD,zF,zC,zI,fO.bC]
  refine hZ (ha.bp hf) Arg.ci (Arg.gL g) g1 rfl rfl (fun id hid=>hW id (zR hf.next hid)) fun vn h1 f1 qe ov=>?_
  have Hx:=hf.bO f1
  simp only[fO.bz,al,aF,ov,aB,zG,Arg.enc,zA,zB,ah,cZ]
  cases hx:(g.index != -1) with
  |true=>
   simp only[fO.bu,ao,zD,zF,zC,zI]
   exact he (VA g1 hx) h1 Hx
  |false=>
   simp only[fO.bu,ao,zE,zD,zC,zH,fO.aZ,aR,w1]
   refine hK (i+1) _ _ (by omega) ⟨rfl,by omega,Hx,fun j a hj kG=>?_⟩
   rcases Nat.lt_succ_iff_lt_or_eq.1 hj with h1 |h1
   ·exact hb j a h1 kG
   ·subst h1;rw[g1]at kG;cases kG;exact hx
 ·have df:¬(i:Int)<y.1.args.length:=by omega
  simp only[fO.bG,ba,zK df,fO.bE,ao,zD,zE,zC,zH,zV,zN,zO]
  exact hk (Vz fun j a kG=>hb j a (by have:=(zM.1 kG).1;omega) kG) h' hf
theorem Jp(hW:∀id,h.next<=id->W id)(hWd:W dd)(dq:h.obj vr=some (aO (au y) 6 46))(ha:cf Arg.enc 2 67 h y.2 y.1.args)(hl:y.1.args.length<=100000000){d:dO}(hd:h.obj dd=some (v_ aV d))
  (he:FI (y.1.args.map (·.name))=true->∀h',Fr h h' (·=dd)->QR [I 113] h')
  (hk:FI (y.1.args.map (·.name))=false->∀xp h',h'.obj dd=some (v_ xp d)->bw nI 1 9 h' xp (y.1.args.map (·.name))->Fr h h' (·=dd)->fO.n2 W QR QN QE QP x0 (.ptr vr 0) (.ptr dd 0) h'):fO.bj W QR QN QE QP x0 (.ptr vr 0) (.ptr dd 0) h:=by
 unfold fO.bj
 refine zf (enc:=Sb) fun sm h1 os KW f1=>?_
 have ve:=f1.bQ dq
 have Dc:=f1.bQ hd
 unfold fO.bn
 simp only[al,aF,ve,aB,zG,au,zA,zB,ah,ha.len.1,ha.len.2,zH]
 have oZ:dd<h.next:=h.lt _ _ hd
 unfold fO.a_
 refine bX (ι:=Nat) (fun i v h'=>v=[x0,.ptr vr 0,.ptr dd 0,.mp sm,y.2,I y.1.args.length,I i]/\i<=y.1.args.length/\Fr h h' (·=dd) /\
  (∃sl:List (ByteArray×AV),h'.obj sm=some (lB Sb 157 sl)/\sl.map (·.1)=(y.1.args.take i).map (·.name)) /\
  (∃xp,h'.obj dd=some (v_ xp d)/\bw nI 1 9 h' xp ((y.1.args.take i).map (·.name))/\cz (fun id=>h.next<=id/\id≠sm) xp) /\
  ∀j a,j<i->(y.1.args.map (·.name))[j]?=some a->gB a ((y.1.args.map (·.name)).take j)=false) (fun i=>y.1.args.length-i) 0
  ⟨rfl,by omega,f1.mono fun _ h=>h.elim,⟨[],os,rfl⟩,⟨aV,Dc,.nil,fun _ _ _ he=>by cases he⟩,fun j a h=>by omega⟩ ?_
 rintro K i v h' ⟨rfl,hi,hf,⟨sl,qJ,nr⟩,⟨xp,Ya,EX,EW⟩,hb⟩ hK
 simp only[fO.cn,zN,zO]
 have hda:∀{h2},Fr h h2 (·=dd)->cf Arg.enc 2 67 h2 y.2 y.1.args:=fun hf=>ha.fr hf fun id o ho jF e=>by
  subst e;rw[hd]at ho;cases ho;exact absurd (jF rfl) (show ¬(127:Nat)=67 by decide)
 by_cases aM:i<y.1.args.length
 ·have dh:(i:Int)<y.1.args.length:=by omega
  have g1:y.1.args[i]?=some y.1.args[i]:=zJ aM
  have w1:IntKind.i64.wrap ((i:Int)+1)=((i+1:Nat):Int):=by rw[aL (by omega) (by omega)];simp
  have tk:(y.1.args.take (i+1)).map (·.name)=(y.1.args.take i).map (·.name)++[(y.1.args[i]).name]:=by rw[List.take_succ_eq_append_getElem aM,List.map_append];rfl
  have Lm:(y.1.args.map (·.name))[i]?=some (y.1.args[i]).name:=by rw[List.getElem?_map,g1];rfl
  generalize y.1.args[i]=g at *
  simp only[fO.aQ,ba,zL dh,fO.aU,ao,zD,zF,zC,zI,fO.aP]
  refine hZ (hda hf) Arg.ci (Arg.gL g) g1 rfl rfl (fun id hid=>hW id (zR hf.next hid)) fun vn h2 f2 qe ov=>?_
  have B_:=f2.bQ qJ
  unfold fO.n9
  simp only[al,aF,ov,aB,zG,Arg.enc,zA,ah]
  refine ir (enc:=Sb) jD z3 B_ fun _=>?_
  obtain⟨zz,ez⟩:=CO (z:=I 0) (eu g.name sl)
  rw[ez,lz,nr]
  simp only[dx,zA,zB,ah]
  rw[List.map_take]
  cases hx:gB g.name ((y.1.args.map (·.name)).take i) with
  |true=>
   simp only[fO.n8,fO.n7,ao,zD,zF,zC,zI]
   exact he (Ch Lm hx) h2 (hf.trans (f2.mono fun _ h=>h.elim))
  |false=>
   simp only[fO.n8,fO.n7,ao,zE,zD,zC,zH,fO.n5,al,aF,ov,aB,zG,Arg.enc,zA,ah]
   have mj:eu g.name sl=none:=by
    have:=lz (n:=g.name) (l:=sl)
    rw[nr,List.map_take,hx]at this
    cases hy:eu g.name sl with
    |none=>rfl
    |some _=>rw[hy]at this;cases this
   have hWm:∀{h3:AH},h.next<=h3.next->∀id,h.next<=id->W id:=fun _ id hid=>hW id hid
   refine uq (enc:=Sb) jD (hW sm KW) B_ mj fun h3 O8 f3=>?_
   have ZW:=f2.bQ Ya
   have e3:dd≠sm:=by omega
   have Uj:h3.obj dd=some (v_ xp d):=f3.obj ZW e3
   have nj:h3.obj vn=some (aO g.enc 2 67):=f3.obj ov (b5 ov B_ (show(67:Nat)≠157 by decide))
   simp only[fO.n4,aT,al,aF,Uj,nj,aB,zG,Arg.enc,zA,zB,ah]
   have jH:bw nI 1 9 h3 xp ((y.1.args.take i).map (·.name)):=by
    rcases EX with EX |⟨id,e,ho⟩
    ·exact .inl EX
    ·exact .inr ⟨id,e,f3.obj (f2.bQ ho) (EW id 0 _ e).2⟩
   refine FX (f:=nI) FC (by decide) rfl (by decide) rfl (NF _) jH (fun id off n e=>hW id (EW id off n e).1) (by rw[zZ,yA];omega) fun y2 h4 KM fe f4=>?_
   have YM:h4.obj dd=some (v_ xp d):=f4.obj Uj fun⟨off,n,e⟩=>by have:=(EW dd off n e).1;omega
   simp only[aT,al,zG,aD,YM,cH,KM.fl.one.2]
   refine⟨⟨hWd,by rw[List.all_cons,KM.fl.one.1];rfl,rfl,by simp⟩,?_⟩
   have f5:Fr h4 (h4.put dd 1 [y2]) (·=dd):=Fr.refl.put (.inl rfl)
   have o5:=fF (off:=1) (cs:=[y2]) YM
   generalize h4.put dd 1 [y2]=h5 at *
   simp only[fO.n3,aR,w1]
   have sm4:h4.obj sm=some (lB Sb 157 (sl++[(g.name,I i)])):=f4.obj O8 fun⟨off,n,e⟩=>(EW sm off n e).2 rfl
   have n3:h.next<=h3.next:=zR (zR hf.next f2.next) f3.next
   have fz:Fr h h5 (·=dd):=by
    refine(((hf.trans (f2.mono fun _ h=>h.elim)).trans (f3.mono fun id e=>.inr (by rw[e];exact KW))).trans (f4.mono fun id ⟨off,n,e⟩=>.inr (EW id off n e).1)).trans (f5.mono fun id e=>.inl e)
   refine hK (i+1) _ _ (by omega) ⟨rfl,by omega,fz,⟨_,f5.obj sm4 (fun e=>e3 e.symm),by rw[List.map_append,nr,tk];rfl⟩,⟨y2,o5,?_,fun id off n e=>?_⟩,fun j a hj kG=>?_⟩
   ·rw[tk]
    rcases KM with KM |⟨id,e,ho⟩
    ·exact .inl KM
    ·exact .inr ⟨id,e,f5.obj ho (by have:=fe id 0 _ e;omega)⟩
   ·have:=fe id off n e
    refine⟨by omega,?_⟩
    have:sm<h3.next:=h3.lt _ _ O8
    have:=fe id off n e
    omega
   ·rcases Nat.lt_succ_iff_lt_or_eq.1 hj with h1 |h1
    ·exact hb j a h1 kG
    ·subst h1;rw[Lm]at kG;cases kG;exact hx
 ·have df:¬(i:Int)<y.1.args.length:=by omega
  have ht:y.1.args.take i=y.1.args:=List.take_of_length_le (by omega)
  rw[ht]at EX
  simp only[fO.aQ,ba,zK df,fO.aU,ao,zD,zE,zC,zH,zV,zN,zO]
  exact hk (HC fun j a kG=>hb j a (by have:=(zM.1 kG).1;rw[zZ]at this;omega) kG) xp h' Ya EX hf
end
end
section
open Go.Ab
attribute [-simp] aN aD
theorem NK{l:List dO}{ids:List Nat}{d:dO}{id:Nat}(h:ids.length=l.length):k_ (l++[d]) (ids++[id])=k_ l ids++[(d.name,.ptr id 0)]:=by
 unfold k_
 rw[List.zip_append h.symm,List.map_append];rfl
section
variable {h:AH} {M:Nat->Prop} {R:AE->AH->Prop} {n0 p:Nat} {xr:AV} {bk:Bk} {ids:List Nat} {qm bm gm:Nat} {pl:Int}
theorem LA{y:Row×AV}{i:Int}(pa:PA n0 h p xr bk ids qm bm gm pl)(ha:cf Arg.enc 2 67 h y.2 y.1.args)(hl:y.1.args.length<=100000000)
  (hi:0<=i/\i<=1000000000) (hr:0<=y.1.rows/\y.1.rows<=1000000000) (hM:∀id,TW TP n0 h id->M id)
  (he:∀e h',uJ bk y.1 i=.error e->Fr h h' (fun _=>False)->R (.ret (I e)) h')
  (hk:∀cE id h',uJ bk y.1 i=.ok cE->PA n0 h' p xr cE (ids++[id]) qm bm gm pl->Fr h h' (TW TP n0 h)->R (.ret (I 0)) h') :
  ay Pg 91 [.ptr p 0,.agg (au y),I i] h M R:=by
 apply fO.aI
 unfold fO.cX
 refine cW (pq ha) fun vr h1 f1 gK dq=>?_
 unfold fO.cV
 have lm:=pa.bp f1
 simp only[al,aF,dq,aB,zG,au,zA,zB,ah]
 refine⟨fun _=>False,fun _ h=>h.elim,yQ lm.p rfl rfl rfl lm.m fun h2 f2=>?_⟩
 have cu:=f1.bO f2
 have dT:=lm.bp f2
 have l_:=f2.bQ dq
 have o_:=ha.bp cu
 unfold uJ at he hk
 cases fG:j7 bk y.1.name with
 |true=>
  have:=he 110 h2 (by rw[fG];rfl) cu
  simpa[fO.cN,fO.cq] using this
 |false=>
  rw[fG]at he hk
  simp only[zE,if_false]at he hk
  simp only[fO.cN,ao,zE,zC,zD,zH,fO.cj,al,aF,l_,aB,zG,au,zA,zB,ah,o_.len.1,o_.len.2,dD]
  by_cases k1:y.1.args.length=0
  ·have:=he 111 h2 (by rw[zX k1]) cu
   have iu:((y.1.args.length:Int)==0)=true:=by rw[k1];rfl
   simpa[fO.bW,fO.bT,iu] using this
  ·rw[zW k1]at he hk
   have iu:((y.1.args.length:Int)==0)=false:=by simpa using k1
   have w1:IntKind.i64.wrap (i+1)=i+1:=aL (by omega) (by omega)
   have w2:IntKind.i64.wrap (i+1+y.1.rows)=i+1+y.1.rows:=aL (by omega) (by omega)
   simp only[iu,fO.bW,ao,zE,zC,zD,zH,fO.bY,al,aF,l_,aB,zG,au,zA,zB,ah,aR,w1,w2]
   refine⟨_,rfl,?_⟩
   refine cW (cs:=[Sb y.1.name,aV,I (i+1),I (i+1+y.1.rows),I 1,I 0,B false]) rfl fun dd h3 f3 tT od=>?_
   have eO:=cu.bO f3
   have oR:=f3.bQ l_
   refine LZ (fun id hid=>.inr (zR eO.next hid)) oR (ha.bp eO) hl ?_ ?_
   ·intro hx h4 f4
    have:=he 112 h4 (by rw[zX hx]) (eO.bO f4)
    simpa using this
   ·intro hx h4 f4
    rw[zW (by rw[hx];decide)]at he hk
    have kl:=eO.bO f4
    have XK:h4.obj dd=some (v_ aV ⟨y.1.name,[],i+1,i+1+y.1.rows,1,0,false⟩):=f4.bQ od
    have Db:h.next<=dd:=zR cu.next tT
    refine Jp (fun id hid=>.inr (zR kl.next hid)) (.inr Db) (f4.bQ oR) (ha.bp kl) hl XK ?_ ?_
    ·intro hx h5 f5
     have fz:Fr h h5 (fun _=>False):=kl.trans (f5.mono fun id e=>.inr (by rw[e];exact Db))
     have:=he 113 h5 (by rw[zX hx]) fz
     simpa using this
    ·intro hx xp h5 od5 hp5 f5
     rw[zW (by rw[hx];decide)]at hk
     have qN:Fr h h5 (fun _=>False):=kl.trans (f5.mono fun id e=>.inr (by rw[e];exact Db))
     have sx:=pa.bp qN
     have G9:h5.obj vr=some (aO (au y) 6 46):=f5.obj (f4.bQ oR) (b5 (f4.bQ oR) XK (show(46:Nat)≠127 by decide))
     unfold fO.n2
     simp only[aT,al,aF,sx.p,G9,aB,zG,au,zA,zB,ah]
     have q8:eu y.1.name (k_ bk.ds ids)=none:=by
      unfold j7 at fG
      simp only[Bool.or_eq_false_iff]at fG
      have h1:=fG.1.2
      rcases nG (n:=y.1.name) pa.m.len with⟨h2,_⟩ |⟨k,d,id,h2,h3,_⟩
      ·exact h2
      ·rw[h3]at h1;cases h1
     have g0:=pa.m.g
     refine uq (enc:=Sb) jD (.inl (hM _ ⟨pa.n.2.2.2.1,_,g0,rfl,rfl⟩)) sx.m.g q8 fun h6 og f6=>?_
     have Dm:Fr h h6 (TW TP n0 h):=TW.trans (TW.bJ qN) (TW.nk f6 pa.n.2.2.2.1 sx.m.g rfl rfl)
     have IX:∀id∈ids,id<h.next:=fun id hid=>by
      obtain⟨k,hk,rfl⟩:=List.mem_iff_getElem.1 hid
      obtain⟨xp,h1,_⟩:=pa.m.d k _ _ (zJ (by rw[<-pa.m.len];exact hk)) (zJ hk)
      exact h.lt _ _ h1
     have h0n:n0<=h.next:=zR pa.n.1 (Nat.le_of_lt (h.lt _ _ pa.p))
     have dA:∀{j:Nat}{o:AO},h5.obj j=some o->o.ty≠95->h6.obj j=some o:=fun ho cC=>f6.obj ho (b5 ho sx.m.g cC)
     have:=hk _ dd h6 rfl ⟨⟨pa.n.1,pa.n.2.1,pa.n.2.2.1,pa.n.2.2.2.1,fun id hid=>?_⟩,dA sx.p (show(97:Nat)≠95 by decide),⟨dA sx.m.q (show(94:Nat)≠95 by decide),dA sx.m.b (show(94:Nat)≠95 by decide),by rw[NK pa.m.len];exact og,by rw[List.length_append,List.length_append,pa.m.len];rfl,fun k d id hd hi=>?_,?_,pa.m.qb⟩⟩ Dm
     ·simpa using this
     ·rcases List.mem_append.1 hid with hid |hid
      ·exact pa.n.2.2.2.2 id hid
      ·simp only[List.mem_singleton]at hid;subst hid;exact zR h0n Db
     ·have mk:∀{id:Nat}{d:dO},th h5 id d->th h6 id d:=fun a=>a.fr f6 fun i o ho ht e=>by
       subst e
       rw[sx.m.g]at ho;cases ho
       rcases ht with ht |ht
       ·exact absurd ht (show ¬(95:Nat)=127 by decide)
       ·exact absurd ht (show ¬(95:Nat)=9 by decide)
      by_cases hk:k<bk.ds.length
      ·rw[List.getElem?_append_left hk]at hd
       rw[List.getElem?_append_left (by rw[pa.m.len];exact hk)]at hi
       exact mk (sx.m.d k d id hd hi)
      ·rw[List.getElem?_append_right (by omega)]at hd
       rw[List.getElem?_append_right (by rw[pa.m.len];omega),pa.m.len]at hi
       have E8:k-bk.ds.length=0:=by
        have:=(zM.1 hd).1
        simp at this;omega
       rw[E8]at hd hi
       simp only[zA,zQ]at hd hi
       subst hd;subst hi
       exact mk ⟨xp,od5,hp5⟩
     ·rw[List.nodup_append]
      refine⟨pa.m.nd,by simp,fun a ha b hb=>?_⟩
      simp only[List.mem_singleton]at hb
      subst hb
      have:=IX a ha
      omega
end
end
section
open Go.Ab
attribute [-simp] aN aD
theorem U4:lu Pg 67=some [true,false]:=by kernel_rfl
abbrev Cg(x:ByteArray×Int):AV:=.agg [Sb x.1,I x.2]
theorem Pk:uY Pg 67 Cg:=RE U4
theorem qU:rP Pg 122=true:=by kernel_rfl
def mA(ids:List Nat)(own:Option Nat)(x:AV):Prop:=match own with |none=>x=.sc (.pointer none) |some k=>∃id,ids[k]?=some id/\x=.ptr id 0
theorem Dl{f:Arg->Int}:∀{l:List Arg}{i:Nat}{a:Arg},l[i]?=some a->f a≠0->(∀j b,j<i->l[j]?=some b->f b=0)->hF f l=f a
 |[],i,a,h,_,_=>by simp at h
 |b::l,0,a,h,h1,_=>by simp only[zA,zQ]at h;subst h;simp[hF,h1]
 |b::l,i+1,a,h,h1,h2=>by
  have:=h2 0 b (by omega) rfl
  simp only[hF,this]
  rw[zW (by decide)]
  exact Dl (by simpa using h) h1 fun j c hj hc=>h2 (j+1) c (by omega) (by simpa using hc)
theorem Dk{f:Arg->Int}:∀{l:List Arg},(∀(j:Nat)(b:Arg),l[j]?=some b->f b=0)->hF f l=0
 |[],_=>rfl
 |b::l,h=>by
  have:=h 0 b rfl
  simp only[hF,this]
  rw[zW (by decide)]
  exact Dk fun j c hc=>h (j+1) c (by simpa using hc)
section
variable {W:Nat->Prop} {QR QN:VK} {QE:Nat->VK} {QP:AV->AH->Prop} {h:AH} {n0 p vr:Nat} {xr x2:AV} {bk:Bk} {ids:List Nat} {qm bm gm:Nat} {pl:Int} {y:Row×AV} {own:Option Nat} {n dp:Int}
theorem R8(hW:∀id,h.next<=id->W id)(dq:h.obj vr=some (aO (au y) 6 46))(ha:cf Arg.enc 2 67 h y.2 y.1.args)(hl:y.1.args.length<=100000000)
  (he:Cj y.1.args=true->∀h',Fr h h' (fun _=>False)->QR [I 113] h')
  (hk:Cj y.1.args=false->∀h',Fr h h' (fun _=>False)->cF.n7 W QR QN QE QP x2 (I dp) h'):cF.bz W QR QN QE QP x2 (.ptr vr 0) (I dp) h:=by
 unfold cF.bz
 refine zf (enc:=Cg) fun sm h1 os KW f1=>?_
 unfold cF.bu
 simp only[al,aF,f1.bQ dq,aB,zG,au,zA,zB,ah,ha.len.1,ha.len.2,zH]
 unfold cF.bg
 refine bX (ι:=Nat) (fun i v h'=>v=[x2,I dp,.mp sm,y.2,I y.1.args.length,I i]/\i<=y.1.args.length/\Fr h h' (fun _=>False) /\
  (∃sl:List ((ByteArray×Int)×AV),h'.obj sm=some (lB Cg 173 sl)/\sl.map (·.1)=(y.1.args.take i).map jk) /\
  ∀j a,j<i->(y.1.args.map jk)[j]?=some a->gB a ((y.1.args.map jk).take j)=false) (fun i=>y.1.args.length-i) 0
  ⟨rfl,by omega,f1,⟨[],os,rfl⟩,fun j a h=>by omega⟩ ?_
 rintro K i v h' ⟨rfl,hi,hf,⟨sl,qJ,nr⟩,hb⟩ hK
 simp only[cF.cn,zN,zO]
 by_cases aM:i<y.1.args.length
 ·have dh:(i:Int)<y.1.args.length:=by omega
  have g1:y.1.args[i]?=some y.1.args[i]:=zJ aM
  have w1:IntKind.i64.wrap ((i:Int)+1)=((i+1:Nat):Int):=by rw[aL (by omega) (by omega)];simp
  have tk:(y.1.args.take (i+1)).map jk=(y.1.args.take i).map jk++[jk y.1.args[i]]:=by rw[List.take_succ_eq_append_getElem aM,List.map_append];rfl
  have Lm:(y.1.args.map jk)[i]?=some (jk y.1.args[i]):=by rw[List.getElem?_map,g1];rfl
  generalize y.1.args[i]=g at *
  simp only[cF.aZ,ba,zL dh,cF.bj,ao,zD,zF,zC,zI,cF.bn]
  refine hZ (ha.bp hf) Arg.ci (Arg.gL g) g1 rfl rfl (fun id hid=>hW id (zR hf.next hid)) fun vn h2 f2 qe ov=>?_
  have B_:=f2.bQ qJ
  unfold cF.a_
  refine dN ov rfl fun _=>?_
  have ek:AV.agg g.enc=Cg (jk g):=rfl
  rw[ek]
  refine ir (enc:=Cg) Pk z3 B_ fun _=>?_
  obtain⟨zz,ez⟩:=CO (z:=I 0) (eu (jk g) sl)
  rw[ez,lz,nr]
  simp only[dx,zA,zB,ah]
  rw[List.map_take]
  cases hx:gB (jk g) ((y.1.args.map jk).take i) with
  |true=>
   simp only[cF.aQ,cF.aU,ao,zD,zF,zC,zI]
   exact he (Ch Lm hx) h2 (hf.bO f2)
  |false=>
   simp only[cF.aQ,cF.aU,ao,zE,zD,zC,zH]
   unfold cF.n9
   refine dN ov rfl fun _=>?_
   have mj:eu (jk g) sl=none:=by
    have:=lz (n:=jk g) (l:=sl)
    rw[nr,List.map_take,hx]at this
    cases hy:eu (jk g) sl with
    |none=>rfl
    |some _=>rw[hy]at this;cases this
   refine uq (enc:=Cg) Pk (hW sm KW) B_ mj fun h3 O8 f3=>?_
   simp only[cF.n8,aR,w1]
   refine hK (i+1) _ _ (by omega) ⟨rfl,by omega,?_,⟨_,O8,by rw[List.map_append,nr,tk];rfl⟩,fun j a hj kG=>?_⟩
   ·exact(hf.bO f2).trans (f3.mono fun id e=>.inr (by rw[e];exact KW))
   ·rcases Nat.lt_succ_iff_lt_or_eq.1 hj with h1 |h1
    ·exact hb j a h1 kG
    ·subst h1;rw[Lm]at kG;cases kG;exact hx
 ·have df:¬(i:Int)<y.1.args.length:=by omega
  simp only[cF.aZ,ba,zK df,cF.bj,ao,zD,zE,zC,zH,zV,zN,zO]
  exact hk (HC fun j a kG=>hb j a (by have:=(zM.1 kG).1;rw[zZ]at this;omega) kG) h' hf
theorem mA.cases(pm:PM h bk ids qm bm gm)(ho:mA ids own x2):(own=none/\kz bk own=none/\x2=.sc (.pointer none))\/∃k id d,own=some k/\kz bk own=some d/\bk.ds[k]?=some d/\ids[k]?=some id/\x2=.ptr id 0/\th h id d:=by
 cases own with
 |none=>exact .inl ⟨rfl,rfl,ho⟩
 |some k=>
  obtain⟨id,h1,h2⟩:=ho
  have hk:k<bk.ds.length:=by rw[<-pm.len];exact(zM.1 h1).1
  have h3:=zJ hk
  exact .inr ⟨k,id,_,rfl,h3,h3,h1,h2,pm.d k _ id h3 h1⟩
theorem Od(hW:∀id,h.next<=id->W id)(pa:PA n0 h p xr bk ids qm bm gm pl)(ho:mA ids own x2)(dq:h.obj vr=some (aO (au y) 6 46))(ha:cf Arg.enc 2 67 h y.2 y.1.args)(hl:y.1.args.length<=100000000)
  (jH:∀d∈bk.ds,d.params.length<=100000000)
  (he:hF (io bk (kz bk own)) y.1.args≠0->∀h',Fr h h' (fun _=>False)->QR [I (hF (io bk (kz bk own)) y.1.args)] h')
  (hk:hF (io bk (kz bk own)) y.1.args=0->∀h',Fr h h' (fun _=>False)->cF.bz W QR QN QE QP x2 (.ptr vr 0) (I dp) h'):cF.fM W QR QN QE QP (.ptr p 0) x2 (.ptr vr 0) (I dp) h:=by
 unfold cF.fM
 simp only[al,aF,dq,aB,zG,au,zA,zB,ah,ha.len.1,ha.len.2,zH]
 unfold cF.fQ
 refine bX (ι:=Nat) (fun i v h'=>v=[.ptr p 0,x2,.ptr vr 0,I dp,y.2,I y.1.args.length,I i]/\i<=y.1.args.length/\Fr h h' (fun _=>False) /\
  ∀j a,j<i->y.1.args[j]?=some a->io bk (kz bk own) a=0) (fun i=>y.1.args.length-i) 0 ⟨rfl,by omega,Fr.refl,fun j a h=>by omega⟩ ?_
 rintro K i v h' ⟨rfl,hi,hf,hb⟩ hK
 simp only[cF.fI,zN,zO]
 by_cases aM:i<y.1.args.length
 ·have dh:(i:Int)<y.1.args.length:=by omega
  have g1:y.1.args[i]?=some y.1.args[i]:=zJ aM
  have w1:IntKind.i64.wrap ((i:Int)+1)=((i+1:Nat):Int):=by rw[aL (by omega) (by omega)];simp
  generalize y.1.args[i]=g at *
  simp only[cF.fc,ba,zL dh,cF.ft,ao,zD,zF,zC,zI,cF.eh]
  refine hZ (ha.bp hf) Arg.ci (Arg.gL g) g1 rfl rfl (fun id hid=>hW id (zR hf.next hid)) fun vn h2 f2 qe ov=>?_
  have cu:=hf.bO f2
  have dT:=pa.bp cu
  have bad:∀h3,Fr h h3 (fun _=>False)->io bk (kz bk own) g≠0->QR [I (io bk (kz bk own) g)] h3:=fun h3 f3 cC=>by
   have e:=Dl g1 cC hb
   have:=he (by rw[e];exact cC) h3 f3
   rwa [e]at this
  have rX:∀h3,Fr h h3 (fun _=>False)->io bk (kz bk own) g=0->∀YW,cF.bC W QR K YW QP (.ptr p 0) x2 (.ptr vr 0) (I dp) y.2 (I y.1.args.length) (I i) h3:=fun h3 f3 h0 YW=>by
   simp only[cF.bC,aR,w1]
   refine hK (i+1) _ _ (by omega) ⟨rfl,by omega,f3,fun j a hj kG=>?_⟩
   rcases Nat.lt_succ_iff_lt_or_eq.1 hj with h1 |h1
   ·exact hb j a h1 kG
   ·subst h1;rw[g1]at kG;cases kG;exact h0
  rcases ho.cases dT.m with⟨_,e2,rfl⟩ |⟨k,id,d,_,e2,oW,_,rfl,xp,od,hp⟩
  ·rw[e2]at bad rX
   unfold io at bad rX
   simp only at bad rX
   simp only[cF.dH,aa,qU,zH,cF.cX,ao,zD,zF,zC,zI,cF.cV,aT,al,aF,dT.p,aB,zG,zA,zB,ah]
   refine dN ov rfl fun _=>?_
   refine⟨fun _=>False,fun _ h=>h.elim,DX dT.m.q fun h3 f3=>?_⟩
   have eO:=cu.bO f3
   by_cases hz:jT bk.qs g=0
   ·have EQ:(jT bk.qs g != 0)=false:=by simp[hz]
    simp only[cF.cN,cZ,EQ,cF.cq,ao,zE,zD,zC,zH,cF.bW]
    exact rX h3 eO hz _
   ·have EQ:(jT bk.qs g != 0)=true:=by simp[hz]
    simp only[cF.cN,cZ,EQ,cF.cq,ao,zD,zF,zC,zI]
    exact bad h3 eO hz
  ·rw[e2]at bad rX
   unfold io at bad rX
   simp only at bad rX
   have hdm:=jH d (zP oW)
   simp only[cF.dH,aa,qU,zH,cF.cX,ao,zE,zD,zC,cF.bT,al,aF,ov,aB,zG,Arg.enc,zA,zB,ah]
   by_cases hx:g.index=-1
   ·have qd:(g.index != -1)=false:=by simp[hx]
    rw[zW (by simpa using hx)]at bad rX
    simp only[qd,cF.bY,ao,zE,zD,zC,zH,cF.bD,aT,al,aF,od,ov,aB,zG,Arg.enc,zA,zB,ah]
    refine⟨fun _=>False,fun _ h=>h.elim,FM hp.fl (by omega) ?_⟩
    cases hm:gB g.name d.params with
    |true=>
     rw[hm]at bad rX
     simp only[dR,zS,cF.bG,ao,zE,zD,zC,zH]
     exact rX h2 cu rfl _
    |false=>
     rw[hm]at bad rX
     simp only[dR,zT,cF.bG,ao,zD,zF,zC,zI]
     exact bad h2 cu (by decide)
   ·have qd:(g.index != -1)=true:=by simp[hx]
    rw[zX hx]at bad
    simp only[qd,cF.bY,ao,zD,zF,zC,zI]
    exact bad h2 cu (by decide)
 ·have df:¬(i:Int)<y.1.args.length:=by omega
  simp only[cF.fc,ba,zK df,cF.ft,ao,zD,zE,zC,zH,zV,zN,zO]
  exact hk (Dk fun j a kG=>hb j a (by have:=(zM.1 kG).1;omega) kG) h' hf
end
end
section
open Go.Ab
attribute [-simp] aN aD
theorem DC(n:ByteArray):0<=b6 n/\b6 n<=3:=by
 unfold b6
 split
 ·rename_i x hx
  have key:∀x∈j3,0<=x.2.1/\x.2.1<=3:=by decide +kernel
  exact key x (List.mem_of_find?_eq_some hx)
 ·omega
theorem getElem?_modify'{α:Type}{f:α->α}{l:List α}{k j:Nat}:(l.modify k f)[j]?=if k=j then(l[j]?).map f else l[j]?:=by
 rw[List.getElem?_modify]
 by_cases h:k=j
 ·simp[h]
 ·simp[h]
theorem MO{l:List Nat}(h:l.Nodup){i j:Nat}{a:Nat}(hi:l[i]?=some a)(hj:l[j]?=some a):i=j:=by
 obtain⟨h1,h2⟩:=zM.1 hi
 obtain⟨h3,h4⟩:=zM.1 hj
 have hp:=List.pairwise_iff_getElem.1 h
 rcases Nat.lt_trichotomy i j with aM |he |aM
 ·exact absurd (h2.trans h4.symm) (hp i j h1 h3 aM)
 ·exact he
 ·exact absurd (h4.trans h2.symm) (hp j i h3 h1 aM)
theorem yK{f:dO->dO}(hf:∀d,(f d).name=d.name):∀{l:List dO}{ids:List Nat}{k:Nat},k_ (l.modify k f) ids=k_ l ids
 |[],_,k=>by simp[k_]
 |d::l,[],0=>by simp[k_]
 |d::l,[],k+1=>by simp[k_]
 |d::l,id::ids,0=>by simp[k_,hf]
 |d::l,id::ids,k+1=>by
  have:=yK hf (l:=l) (ids:=ids) (k:=k)
  unfold k_ at *
  simp only[List.modify_succ_cons,List.zip_cons_cons,List.map_cons,this]
section
variable {h:AH} {n0 p:Nat} {xr:AV} {bk:Bk} {ids:List Nat} {qm bm gm:Nat} {pl:Int}
theorem PA.Ms{h':AH}{k id:Nat}{d:dO}{f:dO->dO}{xp:AV}(pa:PA n0 h p xr bk ids qm bm gm pl)(hd:bk.ds[k]?=some d)(hi:ids[k]?=some id)(hp:bw nI 1 9 h xp d.params)(hn:∀d,(f d).name=d.name)(hpr:(f d).params=d.params)
  (ho:h'.obj id=some (v_ xp (f d))) (hf:Fr h h' (·=id)):PA n0 h' p xr { bk with ds:=bk.ds.modify k f } ids qm bm gm pl/\Fr h h' (TW TP n0 h):=by
 obtain⟨xp0,hid,_⟩:=pa.m.d k d id hd hi
 have dA:∀{j:Nat}{o:AO},h.obj j=some o->o.ty≠127->h'.obj j=some o:=fun ho cC=>hf.obj ho (b5 ho hid cC)
 refine⟨⟨pa.n,dA pa.p (show(97:Nat)≠127 by decide),⟨dA pa.m.q (show(94:Nat)≠127 by decide),dA pa.m.b (show(94:Nat)≠127 by decide),?_,by simp[pa.m.len],fun j e i h1 h2=>?_,pa.m.nd,pa.m.qb⟩⟩,TW.nk hf (pa.n.2.2.2.2 id (zP hi)) hid rfl rfl⟩
 ·simp only
  rw[yK hn]
  exact dA pa.m.g (show(95:Nat)≠127 by decide)
 ·simp only at h1
  rw[getElem?_modify']at h1
  have kp:∀{x:AV}{l:List ByteArray},bw nI 1 9 h x l->bw nI 1 9 h' x l:=fun hs=>by
   rcases hs with hs |⟨i,h3,h4⟩
   ·exact .inl hs
   ·exact .inr ⟨i,h3,dA h4 (show(9:Nat)≠127 by decide)⟩
  by_cases hk:k=j
  ·subst hk
   rw[zX rfl,hd]at h1
   cases h1
   rw[hi]at h2;cases h2
   exact⟨xp,ho,by rw[hpr];exact kp hp⟩
  ·rw[zW hk]at h1
   obtain⟨x2,h3,h4⟩:=pa.m.d j e i h1 h2
   have cC:i≠id:=fun e=>by
    subst e
    exact hk (MO pa.m.nd hi h2)
   exact⟨x2,hf.obj h3 cC,kp h4⟩
end
section
variable {W:Nat->Prop} {QR QN:VK} {QE:Nat->VK} {QP:AV->AH->Prop} {h:AH} {n0 p vr:Nat} {xr x2:AV} {bk:Bk} {ids:List Nat} {qm bm gm:Nat} {pl:Int} {y:Row×AV} {own:Option Nat} {dp:Int}
theorem R7(hM:∀id,TW TP n0 h id->W id)(pa:PA n0 h p xr bk ids qm bm gm pl)(ho:mA ids own x2)(Yt:0<=dp/\dp<=1000)
  (he:own.isSome=true/\32<dp+1->QR [I 102] h)
  (hk:¬(own.isSome=true/\32<dp+1)->∀h',PA n0 h' p xr (r9 bk own (dp+1)) ids qm bm gm pl->Fr h h' (TW TP n0 h)->QR [I 0] h'):cF.n7 W QR QN QE QP x2 (I dp) h:=by
 have w1:IntKind.i64.wrap (dp+1)=dp+1:=aL (by omega) (by omega)
 rcases ho.cases pa.m with⟨e1,e2,rfl⟩ |⟨k,id,d,e1,e2,oW,rU,rfl,xp,od,hp⟩
 ·subst e1
  simp only[cF.n7,aa,qU,zH,cF.n6,ao,zE,zD,zC,cF.n1]
  exact hk (fun h=>by cases h.1) h pa (TW.bJ Fr.refl)
 ·subst e1
  simp only[cF.n7,aa,qU,zH,cF.n6,ao,zD,zF,zC,zI,cF.n5,w1]
  by_cases k1:32<dp+1
  ·simp only[gt_iff_lt,zL k1,cF.n4,ao,zD,zF,zC,zI,cF.n3]
   exact he ⟨rfl,k1⟩
  ·simp only[gt_iff_lt,zK k1,cF.n4,ao,zE,zD,zC,zH,cF.n2,aT,al,aF,od,aB,zG,zA,zB,ah,aR,w1,vd,aD,eJ,cH]
   have IX:=pa.n.2.2.2.2 id (zP rU)
   refine⟨⟨hM id ⟨IX,_,od,rfl,rfl⟩,rfl,rfl,by simp⟩,?_⟩
   have abv:(if d.depth<dp+1 then dp+1 else d.depth)=max d.depth (dp+1):=by
    by_cases hh:d.depth<dp+1
    ·rw[zX hh];omega
    ·rw[zW hh];omega
   simp only[zE,if_false,abv,cF.n1]
   have f1:Fr h (h.put id 4 [I (max d.depth (dp+1))]) (·=id):=Fr.refl.put (.inl rfl)
   have o1:=fF (off:=4) (cs:=[I (max d.depth (dp+1))]) od
   generalize h.put id 4 [I (max d.depth (dp+1))]=h1 at *
   obtain⟨lm,fz⟩:=pa.Ms (f:=fun d=>{ d with depth:=max d.depth (dp+1) }) oW rU hp (fun _=>rfl) rfl o1 f1
   exact hk (fun h=>k1 h.2) h1 lm fz
theorem R6(hW:∀id,h.next<=id->W id)(hM:∀id,TW TP n0 h id->W id)(pa:PA n0 h p xr bk ids qm bm gm pl)(ho:mA ids own x2)(dq:h.obj vr=some (aO (au y) 6 46))(ha:cf Arg.enc 2 67 h y.2 y.1.args)(hl:y.1.args.length<=100000000)
  (jH:∀d∈bk.ds,d.params.length<=100000000) {n:Int} (Yt:0<=dp/\dp<=1000)
  (he:∀e h',(if n=0 then Except.error 80 else if (y.1.args.length:Int)≠n then .error 111 else if hF (io bk (kz bk own)) y.1.args≠0 then .error (hF (io bk (kz bk own)) y.1.args) else if Cj y.1.args then .error 113 else if own.isSome=true/\32<dp+1 then .error 102 else .ok (r9 bk own (dp+1)):Er Bk)=.error e->Fr h h' (fun _=>False)->QR [I e] h')
  (hk:∀cE h',(if n=0 then Except.error 80 else if (y.1.args.length:Int)≠n then .error 111 else if hF (io bk (kz bk own)) y.1.args≠0 then .error (hF (io bk (kz bk own)) y.1.args) else if Cj y.1.args then .error 113 else if own.isSome=true/\32<dp+1 then .error 102 else .ok (r9 bk own (dp+1)):Er Bk)=.ok cE->PA n0 h' p xr cE ids qm bm gm pl->Fr h h' (TW TP n0 h)->QR [I 0] h') :
  cF.gv W QR QN QE QP (.ptr p 0) x2 (.ptr vr 0) (I n) (I dp) h:=by
 unfold cF.gv
 simp only[dD]
 by_cases k1:n=0
 ·have:=he 80 h (by rw[zX k1]) Fr.refl
  simpa[cF.gI,cF.gg,k1] using this
 rw[zW k1]at he hk
 have iu:(n==0)=false:=by simpa using k1
 simp only[iu,cF.gI,ao,zE,zD,zC,zH,cF.fp,al,aF,dq,aB,zG,au,zA,zB,ah,ha.len.1,ha.len.2,cZ,iE]
 by_cases k2:(y.1.args.length:Int)=n
 ·rw[zW (by simpa using k2)]at he hk
  simp only[zL k2,zS,cF.fq,ao,zE,zD,zC,zH]
  refine Od hW pa ho dq ha hl jH ?_ ?_
  ·intro h0 h1 f1
   exact he _ h1 (by rw[zX h0]) f1
  ·intro h0 h1 f1
   rw[zW (by simpa using h0)]at he hk
   refine R8 (fun id hid=>hW id (zR f1.next hid)) (f1.bQ dq) (ha.bp f1) hl ?_ ?_
   ·intro hx h2 f2
    exact he _ h2 (by rw[zX hx]) (f1.bO f2)
   ·intro hx h2 f2
    rw[zW (by rw[hx];decide)]at he hk
    have cu:=f1.bO f2
    have back:∀id,TW TP n0 h2 id->W id:=fun id hid=>(TW.back (TW.bJ cu) hid).elim (hM id) (hW id)
    refine R7 back (pa.bp cu) ho Yt ?_ ?_
    ·intro hc
     exact he _ h2 (by rw[zX hc]) cu
    ·intro hc h3 AC f3
     exact hk _ h3 (by rw[zW hc]) AC (TW.trans (TW.bJ cu) f3)
 ·have:=he 111 h (by rw[zX k2]) Fr.refl
  simpa[k2,cF.fq,cF.gh] using this
theorem Oc(hW:∀id,h.next<=id->W id)(hM:∀id,TW TP n0 h id->W id)(pa:PA n0 h p xr bk ids qm bm gm pl)(ho:mA ids own x2)(dq:h.obj vr=some (aO (au y) 6 46))(ha:cf Arg.enc 2 67 h y.2 y.1.args)(hl:y.1.args.length<=100000000)
  (jH:∀d∈bk.ds,d.params.length<=100000000/\0<=d.depth/\d.depth<=100)
  (he:∀e h',qY bk own y.1.name=false->mY bk own y.1=.error e->Fr h h' (fun _=>False)->QR [I e] h')
  (hk:∀cE h',qY bk own y.1.name=false->mY bk own y.1=.ok cE->PA n0 h' p xr cE ids qm bm gm pl->Fr h h' (TW TP n0 h)->QR [I 0] h') (ns:qY bk own y.1.name=false):cF.sE W QR QN QE QP (.ptr p 0) x2 (.ptr vr 0) h:=by
 unfold cF.sE
 simp only[al,aF,dq,aB,zG,au,zA,zB,ah]
 refine⟨fun _=>False,fun _ h=>h.elim,zu fun h1 f1=>?_⟩
 have lm:=pa.bp f1
 unfold cF.jB
 simp only[aT,al,aF,lm.p,f1.bQ dq,aB,zG,au,zA,zB,ah]
 refine ir (enc:=Sb) jD z87 lm.m.g fun _=>?_
 have De:∀id,h1.next<=id->W id:=fun id hid=>hW id (zR f1.next hid)
 have Df:∀id,TW TP n0 h1 id->W id:=fun id hid=>(TW.back (TW.bJ f1) hid).elim (hM id) (hW id)
 have ue:mY bk own y.1=(if (nz bk y.1.name).1=0 then Except.error 80 else if (y.1.args.length:Int)≠(nz bk y.1.name).1 then .error 111 else if hF (io bk (kz bk own)) y.1.args≠0 then .error (hF (io bk (kz bk own)) y.1.args) else if Cj y.1.args then .error 113 else if own.isSome=true/\32<(nz bk y.1.name).2+1 then .error 102 else .ok (r9 bk own ((nz bk y.1.name).2+1)):Er Bk):=by
  unfold mY;rw[ns];rfl
 rw[ue]at he hk
 have go:∀n dp:Int,nz bk y.1.name=(n,dp)->0<=dp/\dp<=1000->cF.gv W QR QN QE QP (.ptr p 0) x2 (.ptr vr 0) (I n) (I dp) h1:=fun n dp hw hd=>by
  rw[hw]at he hk
  exact R6 De Df lm ho (f1.bQ dq) (ha.bp f1) hl (fun d hd=>(jH d hd).1) hd (fun e h' h2 f2=>he e h' ns h2 (f1.bO f2)) (fun cE h' h2 dT f2=>hk cE h' ns h2 dT (TW.trans (TW.bJ f1) f2))
 unfold nz at go
 rcases nG (n:=y.1.name) lm.m.len with⟨e1,e2⟩ |⟨k,d,id,e1,e2,oW,rU⟩
 ·rw[e2]at go
  rw[e1]
  simp only[gu,zV,dx,zA,zB,ah,cF.nQ,cF.oS,dl,zE,zC,zD,zH,zS,cF.gT,cD,if_false,cF.iQ,ao]
  exact go _ _ rfl (by omega)
 ·rw[e2]at go
  rw[e1]
  obtain⟨xp,od,hp⟩:=lm.m.d k d id oW rU
  have hd:=jH d (zP oW)
  simp only[gu,zV,dx,zA,zB,ah,cF.nQ,cF.oS,dl,zD,zS,zF,zC,zI,aT,al,aF,od,aB,zG,cF.gT,cD,cF.iQ]
  cases XZ:d.whole with
  |true=>
   simp only[XZ,zV]at go
   simp only[ao,zD,zF,zC,zI,aT,al,aF,od,aB,zG,zA,zB,ah,hp.fl.len.1,hp.fl.len.2,zH]
   exact go _ _ rfl (by omega)
  |false=>
   simp only[XZ,zE,if_false]at go
   simp only[ao,zE,zD,zC,zH]
   exact go _ _ rfl (by omega)
end
section
variable {h:AH} {M:Nat->Prop} {R:AE->AH->Prop} {n0 p:Nat} {xr x2:AV} {bk:Bk} {ids:List Nat} {qm bm gm:Nat} {pl:Int} {own:Option Nat}
theorem SP{y:Row×AV}(pa:PA n0 h p xr bk ids qm bm gm pl)(ho:mA ids own x2)(ha:cf Arg.enc 2 67 h y.2 y.1.args)(hl:y.1.args.length<=100000000)
  (jH:∀d∈bk.ds,d.params.length<=100000000/\0<=d.depth/\d.depth<=100) (hM:∀id,TW TP n0 h id->M id)
  (he:∀e h',mY bk own y.1=.error e->Fr h h' (fun _=>False)->R (.ret (I e)) h')
  (hk:∀cE h',mY bk own y.1=.ok cE->PA n0 h' p xr cE ids qm bm gm pl->Fr h h' (TW TP n0 h)->R (.ret (I 0)) h') :
  ay Pg 92 [.ptr p 0,.agg (au y),x2] h M R:=by
 apply cF.aI
 unfold cF.AK
 refine cW (pq ha) fun vr h1 f1 gK dq=>?_
 have lm:=pa.bp f1
 have De:∀id,h1.next<=id->(M id\/h.next<=id):=fun id hid=>.inr (zR f1.next hid)
 have Df:∀id,TW TP n0 h1 id->(M id\/h.next<=id):=fun id hid=>(TW.back (TW.bJ f1) hid).elim (fun h=>.inl (hM id h)) .inr
 have go:qY bk own y.1.name=false->cF.sE (fun id=>M id\/h.next<=id) (aH Pg [.tmp 6] R) (aH Pg [.tmp 6] R) (fun _ _ _=>False) (fun v h=>R (.bV v) h) (.ptr p 0) x2 (.ptr vr 0) h1:=fun ns=>
  Oc De Df lm ho dq (ha.bp f1) hl jH (fun e h' _ h2 f2=>by simpa using he e h' h2 (f1.bO f2)) (fun cE h' _ h2 dT f2=>by simpa using hk cE h' h2 dT (TW.trans (TW.bJ f1) f2)) ns
 unfold cF.AL
 rcases ho.cases lm.m with⟨e1,e2,rfl⟩ |⟨k,id,d,e1,e2,oW,rU,rfl,xp,od,hp⟩
 ·simp only[aa,qU,zH,cF.we,dl,zE,zS,zC,zD,cF.pZ,cD,if_false,cF.sD,ao]
  exact go (by unfold qY;rw[e2])
 ·by_cases k1:y.1.name=d.name
  ·have:=he 114 h1 (by unfold mY qY;rw[e2];simp[k1]) f1
   simp only[aa,qU,zH,cF.we,dl,zS,zD,zF,zC,zI,al,aF,dq,aB,zG,au,zA,zB,ah,aT,od,zL k1,cF.pZ,cD,zV,cF.sD,ao,cF.vf]
   simpa using this
  ·simp only[aa,qU,zH,cF.we,dl,zS,zD,zF,zC,zI,al,aF,dq,aB,zG,au,zA,zB,ah,aT,od,zK k1,cF.pZ,cD,zV,cF.sD,ao,zE]
   exact go (by unfold qY;rw[e2];simpa using k1)
end
end
section
open Go.Ab
attribute [-simp] aN aD
theorem Eo{t:TypeId}{c:Bool}{k k':IntKind}{a b:Int}{K:AV->Prop}:aa Pg .shl t c (.sc (.int k a)) (.sc (.int k' b)) K=(0<=b/\K (.sc (.int k (k.wrap (a*2^(min b.toNat k.bits)))))):=rfl
structure Cq (bk:Bk):Prop where
 tq:0<=bq bk.qs/\bq bk.qs<=64
 tb:0<=bq bk.bs/\bq bk.bs<=64
 sq:∀r∈bk.qs,1<=r.size/\0<=r.from_/\r.from_+r.size<=bq bk.qs
 sb:∀r∈bk.bs,1<=r.size/\0<=r.from_/\r.from_+r.size<=bq bk.bs
 ds:∀d∈bk.ds,d.params.length<=100000000/\0<=d.depth/\d.depth<=100/\0<=d.ops/\d.ops<=4097
theorem Cq.d3{bk:Bk}(a:Cq bk):∀d∈bk.ds,d.params.length<=100000000/\0<=d.depth/\d.depth<=100:=fun d hd=>⟨(a.ds d hd).1,(a.ds d hd).2.1,(a.ds d hd).2.2.1⟩
section
variable {W:Nat->Prop} {QR QN:VK} {QE:Nat->VK} {QP:AV->AH->Prop} {h:AH} {n0 p vr:Nat} {xr x3:AV} {bk:Bk} {ids:List Nat} {qm bm gm:Nat} {pl i:Int} {y:Row×AV} {own:Option Nat}
structure se (W:Nat->Prop) (QR:VK) (h:AH) (n0 p:Nat) (xr:AV) (bk:Bk) (ids:List Nat) (qm bm gm:Nat) (pl:Int) (own:Option Nat) (x3:AV) (y:Row×AV) (vr:Nat) (res:Er Bk):Prop where
 pa:PA n0 h p xr bk ids qm bm gm pl
 ok:Cq bk
 ow:mA ids own x3
 dq:h.obj vr=some (aO (au y) 6 46)
 ha:cf Arg.enc 2 67 h y.2 y.1.args
 hl:y.1.args.length<=100000000
 hW:∀id,h.next<=id->W id
 hM:∀id,TW TP n0 h id->W id
 he:∀e h',res=.error e->Fr h h' (fun _=>False)->QR [I e] h'
 hk:∀cE uB h',res=.ok cE->PA n0 h' p xr cE uB qm bm gm pl->(uB=ids\/∃id,uB=ids++[id])->Fr h h' (TW TP n0 h)->QR [I 0] h'
theorem W7(k:se W QR h n0 p xr bk ids qm bm gm pl own x3 y vr ((ij bk bk.qs 64 y.1).map fun l=>{ bk with qs:=l })):cP.n2 W QR QN QE QP (.ptr p 0) (.ptr vr 0) h:=by
 unfold cP.n2
 refine dN k.dq rfl fun _=>?_
 simp only[aT,al,aF,k.pa.p,aB,zG,Nat.add_zero,zA,zB,ah]
 refine⟨TW TP n0 h,fun id hs _=>k.hM id hs,LB k.pa k.ha rfl k.ok.tq (fun _ h=>h) ?_ ?_⟩
 ·intro e h' h1 f1
  exact k.he e h' (by rw[h1];rfl) f1
 ·intro l' h' h1 AD f1
  exact k.hk _ ids h' (by rw[h1];rfl) AD (.inl rfl) f1
theorem Xa(k:se W QR h n0 p xr bk ids qm bm gm pl own x3 y vr ((ij bk bk.bs 64 y.1).map fun l=>{ bk with bs:=l })):cP.n3 W QR QN QE QP (.ptr p 0) (.ptr vr 0) h:=by
 unfold cP.n3
 refine dN k.dq rfl fun _=>?_
 simp only[aT,al,aF,k.pa.p,aB,zG,Nat.add_zero,Nat.reduceAdd,zA,zB,ah]
 refine⟨TW TP n0 h,fun id hs _=>k.hM id hs,LC k.pa k.ha rfl k.ok.tb (fun _ h=>h) ?_ ?_⟩
 ·intro e h' h1 f1
  exact k.he e h' (by rw[h1];rfl) f1
 ·intro l' h' h1 AD f1
  exact k.hk _ ids h' (by rw[h1];rfl) AD (.inl rfl) f1
theorem W_(k:se W QR h n0 p xr bk ids qm bm gm pl own x3 y vr (uJ bk y.1 i))(hi:0<=i/\i<=1000000000)(hr:0<=y.1.rows/\y.1.rows<=1000000000):cP.n4 W QR QN QE QP (.ptr p 0) (I i) (.ptr vr 0) h:=by
 unfold cP.n4
 refine dN k.dq rfl fun _=>?_
 refine⟨TW TP n0 h,fun id hs _=>k.hM id hs,LA k.pa k.ha k.hl hi hr (fun _ h=>h) k.he ?_⟩
 intro cE id h' h1 AD f1
 exact k.hk _ _ h' h1 AD (.inr ⟨id,rfl⟩) f1
theorem W4(k:se W QR h n0 p xr bk ids qm bm gm pl own x3 y vr (mY bk own y.1)):cP.bz W QR QN QE QP (.ptr p 0) x3 (.ptr vr 0) h:=by
 unfold cP.bz
 refine dN k.dq rfl fun _=>?_
 refine⟨TW TP n0 h,fun id hs _=>k.hM id hs,SP k.pa k.ow k.ha k.hl k.ok.d3 (fun _ h=>h) k.he ?_⟩
 intro cE h' h1 AD f1
 exact k.hk _ _ h' h1 AD (.inl rfl) f1
theorem Oe(k:se W QR h n0 p xr bk ids qm bm gm pl own x3 y vr (.ok bk)){h':AH}(f:Fr h h' fun _=>False):QR [I 0] h':=k.hk bk ids h' rfl (k.pa.bp f) (.inl rfl) (TW.bJ f)
theorem W6(k:se W QR h n0 p xr bk ids qm bm gm pl own x3 y vr (if y.1.num<0 then .error 112 else .ok bk)):cP.n7 W QR QN QE QP (.ptr vr 0) h:=by
 simp only[cP.n7,al,aF,k.dq,aB,zG,au,zA,zB,ah,ba]
 by_cases h0:y.1.num<0
 ·have:=k.he 112 h (by rw[zX h0]) Fr.refl
  simp only[zL h0,cP.n6,ao,zD,zF,zC,zI,cP.n5]
  exact this
 ·have:=k.hk bk ids h (by rw[zW h0]) k.pa (.inl rfl) (TW.bJ Fr.refl)
  simp only[zK h0,cP.n6,ao,zE,zD,zC,zH,cP.n1]
  exact this
theorem W9(k:se W QR h n0 p xr bk ids qm bm gm pl own x3 y vr (EO bk y.1)):cP.bu W QR QN QE QP (.ptr p 0) (.ptr vr 0) h:=by
 unfold cP.bu
 simp only[aT,al,aF,k.pa.p,k.dq,aB,zG,au,zA,zB,ah]
 refine ir (enc:=Sb) jD z93 k.pa.m.b fun _=>?_
 rw[kZ]
 have he:=k.he;have hk:=k.hk;have PB:=k.ok.sb
 unfold EO at he hk
 cases hr:fA bk.bs y.1.name with
 |none=>
  rw[hr]at he
  simp only[Option.map_none,gu,zV,dx,zA,zB,ah]
  refine gH (cs:=[I 0,I 0]) rfl rfl rfl rfl k.hW fun v1 h2 f2 _ _=>?_
  have:=he 110 h2 rfl f2
  simpa[cP.bg,cP.aZ,cP.bj] using this
 |some g=>
  rw[hr]at he hk
  simp only at he hk
  have hg:=PB g (List.mem_of_find?_eq_some hr)
  simp only[yB,gu,zV,uG,dx,zA,zB,ah]
  refine gH (cs:=[I g.from_,I g.size]) rfl rfl rfl rfl k.hW fun v1 h2 f2 _ ov=>?_
  have l_:=f2.bQ k.dq
  have dT:=k.pa.bp f2
  simp only[cP.bg,dR,zS,cP.aZ,ao,zE,zD,zC,zH]
  by_cases k1:y.1.num<0
  ·have:=he 112 h2 (by rw[zX (.inl k1)]) f2
   simpa[cP.bn,cP.a_,l_,au,k1] using this
  ·by_cases k2:g.size<63
   ·have hp:IntKind.i64.wrap (1*2^(min g.size.toNat IntKind.i64.bits))=2^g.size.toNat:=by
     have e:IntKind.i64.bits=64:=rfl
     rw[e,Nat.min_eq_left (by omega),Int.one_mul]
     have h1:(2:Int)^g.size.toNat=((2^g.size.toNat:Nat):Int):=by simp
     have h2:2^g.size.toNat<=2^62:=Nat.pow_le_pow_right (by decide) (by omega)
     have hP:∀P:Nat,P<=2^62->IntKind.i64.wrap (P:Int)=P:=fun P h=>aL (by omega) (by omega)
     rw[h1]
     exact hP _ h2
    have k0:0<=g.size:=by omega
    simp only[cP.bn,al,aF,l_,ov,aB,zG,au,zA,zB,ah,ba,zK k1,cP.a_,dl,zT,zS,zE,zF,zD,zC,zI,zL k2,cP.aQ,Eo,k0,zH,hp,nE,ge_iff_le]
    by_cases k3:2^g.size.toNat<=y.1.num
    ·have:=he 112 h2 (by rw[zX (.inr ⟨k2,k3⟩)]) f2
     simp only[zL k3,cP.aU,dl,zT,zE,zD,zC,zI,cD,zV,cP.aP,if_false,cP.n9,ao,zF,cP.n8]
     exact this
    ·have:=hk bk ids h2 (by rw[zW (fun h=>h.elim k1 (fun h=>k3 h.2))]) dT (.inl rfl) (TW.bJ f2)
     simp only[zK k3,cP.aU,dl,zT,zE,zD,zC,zI,zH,cD,zV,cP.aP,if_false,cP.n9,ao,zF,cP.n1]
     exact this
   ·have:=hk bk ids h2 (by rw[zW (fun h=>h.elim k1 (fun h=>k2 h.1))]) dT (.inl rfl) (TW.bJ f2)
    simp[cP.bn,cP.a_,cP.aQ,cP.aU,cP.aP,cP.n9,cP.n1,l_,ov,au,k1,k2]
    exact this
theorem Gj{h1:AH}{res:Er Bk}(k:se W QR h n0 p xr bk ids qm bm gm pl own x3 y vr res)(f1:Fr h h1 fun _=>False){e:Int}(hr:res=qB e bk):QR [I e] h1:=by
 unfold qB at hr
 by_cases h0:e=0
 ·rw[zW (by simpa using h0)]at hr
  rw[h0]
  exact k.hk bk ids h1 hr (k.pa.bp f1) (.inl rfl) (TW.bJ f1)
 ·rw[zX h0]at hr
  exact k.he e h1 hr f1
theorem W5(k:se W QR h n0 p xr bk ids qm bm gm pl own x3 y vr (tG bk y.1.args)):cP.cV W QR QN QE QP (.ptr p 0) (.ptr vr 0) h:=by
 have hk:=k
 simp only[cP.cV,al,aF,k.dq,aB,zG,au,zA,zB,ah,k.ha.len.1,k.ha.len.2,zH,cZ,iE]
 have hx:=k.ha
 cases ha:y.1.args with
 |nil=>
  rw[ha]at hk
  simpa[cP.cN,cP.cq] using hk.he 111 h rfl Fr.refl
 |cons a l=>
  cases l with
  |cons b l=>
   rw[ha]at hk
   have h1:¬(((a::b::l).length:Nat):Int)=1:=by simp only[List.length_cons];omega
   simp only[zK h1,zT,cP.cN,ao,zD,zF,zC,zI,cP.cq]
   exact hk.he 111 h rfl Fr.refl
  |nil=>
   rw[ha]at hx hk
   have h1:(([a].length:Nat):Int)=1:=rfl
   simp only[zL h1,zS,cP.cN,ao,zE,zD,zC,zH,cP.cj,aT,al,aF,k.pa.p,k.dq,aB,zG,au,zA,zB,ah]
   refine ll (i:=0) hx Arg.ci rfl fun _=>?_
   refine⟨fun _=>False,fun _ h=>h.elim,DX k.pa.m.q fun h1 f1=>?_⟩
   exact Gj hk f1 rfl
theorem W8(k:se W QR h n0 p xr bk ids qm bm gm pl own x3 y vr (pI bk y.1.args)):cP.bW W QR QN QE QP (.ptr p 0) (.ptr vr 0) h:=by
 have hk:=k
 simp only[cP.bW,al,aF,k.dq,aB,zG,au,zA,zB,ah,k.ha.len.1,k.ha.len.2,zH,cZ,iE]
 have hx:=k.ha
 have bad:y.1.args.length≠2->pI bk y.1.args=.error 111:=fun cC=>by
  unfold pI
  split
  ·rename_i h;rw[h]at cC;exact absurd rfl cC
  ·rfl
 by_cases hlen:y.1.args.length=2
 ·match ha:y.1.args,hlen with
  |[a,b],_=>
   rw[ha]at hx hk
   have h1:(([a,b].length:Nat):Int)=2:=rfl
   simp only[zL h1,zS,cP.bT,ao,zE,zD,zC,zH,cP.bZ,aT,al,aF,k.pa.p,k.dq,aB,zG,au,zA,zB,ah]
   refine ll (i:=0) hx Arg.ci rfl fun _=>?_
   refine⟨fun _=>False,fun _ h=>h.elim,DX k.pa.m.q fun h1 f1=>?_⟩
   by_cases h0:jT bk.qs a=0
   ·have wP:(jT bk.qs a != 0)=false:=by simp[h0]
    have lm:=k.pa.bp f1
    simp only[cP.bD,cZ,wP,cP.bG,ao,zE,zD,zC,zH,cP.bC,aT,al,aF,lm.p,f1.bQ k.dq,aB,zG,au,zA,zB,ah]
    refine ll (i:=1) (hx.bp f1) Arg.ci rfl fun _=>?_
    refine⟨fun _=>False,fun _ h=>h.elim,DX lm.m.b fun h2 f2=>?_⟩
    exact Gj hk (f1.bO f2) (by simp only[pI];rw[zW (by simpa using h0)])
   ·have wP:(jT bk.qs a != 0)=true:=by simp[h0]
    simp only[cP.bD,cZ,wP,cP.bG,ao,zD,zF,zC,zI,cP.bE]
    exact hk.he _ h1 (by simp only[pI];rw[zX h0]) f1
 ·have h1:¬((y.1.args.length:Nat):Int)=2:=by omega
  simp only[zK h1,zT,cP.bT,ao,zD,zF,zC,zI,cP.bY]
  exact k.he 111 h (bad hlen) Fr.refl
theorem Se(k:se W QR h n0 p xr bk ids qm bm gm pl own x3 y vr (lA bk own i y.1))(hi:0<=i/\i<=1000000000)(hr:0<=y.1.rows/\y.1.rows<=1000000000):cP.nQ W QR QN QE QP (.ptr p 0) (I i) x3 (.ptr vr 0) h:=by
 simp only[cP.nQ,al,aF,k.dq,aB,zG,au,zA,zB,ah]
 unfold lA at k
 have e1:(⟨#[113,117,98,105,116,115]⟩:ByteArray)=aX:=rfl
 have e2:(⟨#[98,105,116,115]⟩:ByteArray)=bK:=rfl
 have e3:(⟨#[103,97,116,101]⟩:ByteArray)=aY:=rfl
 have e4:(⟨#[114,101,112,101,97,116]⟩:ByteArray)=aK:=rfl
 have e5:(⟨#[105,102]⟩:ByteArray)=c9:=rfl
 have e6:(⟨#[117,115,101]⟩:ByteArray)=bP:=rfl
 have e7:(⟨#[109,101,97,115,117,114,101]⟩:ByteArray)=be:=rfl
 have e8:(⟨#[114,101,115,101,116]⟩:ByteArray)=ch:=rfl
 unfold cP.oS
 rw[cU,e1]
 by_cases k1:y.1.kind=aX
 ·rw[zX k1]at k
  simp only[zL k1,cP.gT,ao,zD,zF,zC,zI]
  exact W7 k
 rw[zW k1]at k
 simp only[zK k1,cP.gT,ao,zE,zD,zC,zH,cP.iQ,cU,e2]
 by_cases k2:y.1.kind=bK
 ·rw[zX k2]at k
  simp only[zL k2,cP.gv,ao,zD,zF,zC,zI]
  exact Xa k
 rw[zW k2]at k
 simp only[zK k2,cP.gv,ao,zE,zD,zC,zH,cP.gI,cU,e3]
 by_cases k3:y.1.kind=aY
 ·rw[zX k3]at k
  simp only[zL k3,cP.gg,ao,zD,zF,zC,zI]
  exact W_ k hi hr
 rw[zW k3]at k
 simp only[zK k3,cP.gg,ao,zE,zD,zC,zH,cP.fp,cU,e4]
 by_cases k4:y.1.kind=aK
 ·rw[zX k4]at k
  simp only[zL k4,cP.fq,ao,zD,zF,zC,zI]
  exact W6 k
 rw[zW k4]at k
 simp only[zK k4,cP.fq,ao,zE,zD,zC,zH,cP.gh,cU,e5]
 by_cases k5:y.1.kind=c9
 ·rw[zX k5]at k
  simp only[zL k5,cP.fM,ao,zD,zF,zC,zI]
  exact W9 k
 rw[zW k5]at k
 simp only[zK k5,cP.fM,ao,zE,zD,zC,zH,cP.fQ,cU,e6]
 by_cases k6:y.1.kind=bP
 ·rw[zX k6]at k
  simp only[zL k6,cP.fc,ao,zD,zF,zC,zI]
  exact W4 k
 rw[zW k6]at k
 simp only[zK k6,cP.fc,ao,zE,zD,zC,zH,cP.ft,cU,e7]
 by_cases k7:y.1.kind=be
 ·rw[zX k7]at k
  simp only[zL k7,cP.eh,ao,zD,zF,zC,zI]
  exact W8 k
 rw[zW k7]at k
 simp only[zK k7,cP.eh,ao,zE,zD,zC,zH,cP.dH,cU,e8]
 by_cases k8:y.1.kind=ch
 ·rw[zX k8]at k
  simp only[zL k8,cP.cX,ao,zD,zF,zC,zI]
  exact W5 k
 rw[zW k8]at k
 simp only[zK k8,cP.cX,ao,zE,zD,zC,zH,cP.n1]
 exact Oe k Fr.refl
end
section
variable {h:AH} {M:Nat->Prop} {R:AE->AH->Prop} {n0 p:Nat} {xr x3:AV} {bk:Bk} {ids:List Nat} {qm bm gm:Nat} {pl i:Int} {own:Option Nat}
theorem S5{y:Row×AV}(pa:PA n0 h p xr bk ids qm bm gm pl)(ok:Cq bk)(ho:mA ids own x3)(ha:cf Arg.enc 2 67 h y.2 y.1.args)(hl:y.1.args.length<=100000000)
  (hi:0<=i/\i<=1000000000) (hr:0<=y.1.rows/\y.1.rows<=1000000000) (hM:∀id,TW TP n0 h id->M id)
  (he:∀e h',lA bk own i y.1=.error e->Fr h h' (fun _=>False)->R (.ret (I e)) h')
  (hk:∀cE uB h',lA bk own i y.1=.ok cE->PA n0 h' p xr cE uB qm bm gm pl->(uB=ids\/∃id,uB=ids++[id])->Fr h h' (TW TP n0 h)->R (.ret (I 0)) h') :
  ay Pg 67 [.ptr p 0,.agg (au y),I i,x3] h M R:=by
 apply cP.aI
 unfold cP.jB
 refine cW (pq ha) fun vr h1 f1 gK dq=>?_
 refine Se ⟨pa.bp f1,ok,ho,dq,ha.bp f1,hl,fun id hid=>.inr (zR f1.next hid),fun id hid=>(TW.back (TW.bJ f1) hid).elim (fun h=>.inl (hM id h)) .inr,?_,?_⟩ hi hr
 ·intro e h' h1 f2
  simpa using he e h' h1 (f1.bO f2)
 ·intro cE uB h' h1 AD h2 f2
  simpa using hk cE uB h' h1 AD h2 (TW.trans (TW.bJ f1) f2)
end
end
section
open Go.Ab
attribute [-simp] aN aD
section
variable {W:Nat->Prop} {QR QN:VK} {QE:Nat->VK} {QP:AV->AH->Prop} {h:AH} {n0 p vr:Nat} {xr x4:AV} {bk:Bk} {ids:List Nat} {qm bm gm:Nat} {pl deep behind:Int} {y:Row×AV} {own:Option Nat}
def I2(r:Row)(deep:Int)(own:Bool):Int:=
 if 32<deep then 102
 else if decide (0<deep)&&uK r.kind then 100
 else if own&&!decide (r.kind=bP)&&!decide (r.kind=aK) then 100
 else 0
theorem Sf{h':AH}(pm:PM h' bk ids qm bm gm)(dq:h.obj vr=some (aO (au y) 6 46))(ho:mA ids own x4)(hR:QR [I (if own.isSome&&!decide (y.1.kind=bP)&&!decide (y.1.kind=aK) then 100 else 0)] h):du.aU W QR QN QE QP x4 (.ptr vr 0) h:=by
 have e6:(⟨#[117,115,101]⟩:ByteArray)=bP:=rfl
 have e4:(⟨#[114,101,112,101,97,116]⟩:ByteArray)=aK:=rfl
 rcases ho.cases pm with⟨e1,e2,rfl⟩ |⟨k,id,d,e1,e2,oW,rU,rfl,xp,od,hp⟩
 ·subst e1
  simp only[Option.isSome_none,Bool.false_and,zE,if_false]at hR
  simp only[du.aU,aa,qU,zH,du.aP,dl,zE,zS,zC,zD,du.n9,cD,if_false,du.n8,du.n7,du.n6,ao,du.n1]
  exact hR
 ·subst e1
  simp only[Option.isSome_some,Bool.true_and]at hR
  simp only[du.aU,aa,qU,zH,du.aP,dl,zS,zD,zF,zC,zI,al,aF,dq,aB,zG,au,zA,zB,ah,e6,du.n9,cD,zV,du.n8]
  by_cases k1:y.1.kind=bP
  ·simp[k1]at hR
   simpa[k1,du.n7,du.n6,du.n1] using hR
  ·by_cases k2:y.1.kind=aK
   ·simp[k1,k2]at hR
    simpa[k1,k2,dq,au,e4,du.n7,du.n6,du.n1] using hR
   ·simp[k1,k2]at hR
    simpa[k1,k2,dq,au,e4,du.n7,du.n6,du.n5] using hR
theorem Of{h':AH}(pm:PM h' bk ids qm bm gm)(dq:h.obj vr=some (aO (au y) 6 46))(ho:mA ids own x4)(hR:QR [I (I2 y.1 deep own.isSome)] h):du.bE W QR QN QE QP (I deep) x4 (.ptr vr 0) h:=by
 unfold I2 at hR
 have e1:(⟨#[113,117,98,105,116,115]⟩:ByteArray)=aX:=rfl
 have e2:(⟨#[98,105,116,115]⟩:ByteArray)=bK:=rfl
 have e3:(⟨#[103,97,116,101]⟩:ByteArray)=aY:=rfl
 simp only[du.bE,dZ,gt_iff_lt]
 by_cases k1:32<deep
 ·simp[k1]at hR
  simpa[k1,du.bC,du.n3] using hR
 simp only[k1,if_false]at hR
 simp only[zK k1,du.bC,ao,zE,zD,zC,zH,du.bz,dZ,gt_iff_lt]
 have ZE:=Sf (W:=W) (QR:=QR) (QN:=QN) (QE:=QE) (QP:=QP) pm dq ho
 have fin:∀b,b=(decide (0<deep)&&uK y.1.kind)->du.aQ W QR QN QE QP x4 (.ptr vr 0) (B b) h:=fun b hb=>by
  rw[<-hb]at hR
  cases b with
  |true=>simpa[du.aQ,du.n4] using hR
  |false=>
   simp only[du.aQ,ao,zE,zD,zC,zH]
   exact ZE (by simpa using hR)
 have fin:=fin _ rfl
 unfold uK at fin
 by_cases k2:0<deep
 ·by_cases k3:y.1.kind=aX<;>by_cases k4:y.1.kind=bK<;>by_cases k5:y.1.kind=aY <;>
   simp[-du.aQ,k2,k3,k4,k5]at fin <;>
   simp[-du.aQ,k2,k3,k4,k5,du.bu,du.bg,du.aZ,du.bj,du.bn,du.a_,dq,au,e1,e2,e3]<;>exact fin
 ·simp[-du.aQ,k2]at fin
  simpa[-du.aQ,k2,du.bu,du.bg,du.aZ,du.bj,du.bn,du.a_] using fin
end
section
variable {h:AH} {M:Nat->Prop} {R:AE->AH->Prop} {n0 p:Nat} {xr x4 x0:AV} {bk:Bk} {ids:List Nat} {qm bm gm:Nat} {pl deep behind:Int} {own:Option Nat}
theorem RH{y:Row×AV}(pm:PM h bk ids qm bm gm)(ha:cf Arg.enc 2 67 h y.2 y.1.args)(ho:mA ids own x4)
  (hR:∀h',Fr h h' (fun _=>False)->R (.ret (I (mN y.1 behind deep own.isSome))) h'):ay Pg 66 [x0,.agg (au y),I behind,I deep,x4] h M R:=by
 apply du.aI
 unfold du.cX
 refine cW (pq ha) fun vr h1 f1 gK dq=>?_
 have pm1:=pm.bp f1
 simp only[du.cV,al,aF,dq,aB,zG,au,zA,zB,ah]
 refine⟨fun _=>False,fun _ h=>h.elim,MZ ?_⟩
 have hb:mN y.1 behind deep own.isSome=if !rO y.1.kind||(!pL y.1.kind&&y.1.rows != 0)||decide (y.1.rows<0)||decide (behind<y.1.rows) then 100 else I2 y.1 deep own.isSome:=rfl
 have hR:=hR h1 f1
 rw[hb]at hR
 have fin:∀b,b=(!rO y.1.kind||(!pL y.1.kind&&y.1.rows != 0)||decide (y.1.rows<0)||decide (behind<y.1.rows))->du.bG (fun id=>M id\/h.next<=id) (aH Pg [.tmp 10] R) (aH Pg [.tmp 10] R) (fun _ _ _=>False) (fun v h=>R (.bV v) h) (I deep) x4 (.ptr vr 0) (B b) h1:=fun b hb=>by
  rw[<-hb]at hR
  cases b with
  |true=>simpa[du.bG,du.n2] using hR
  |false=>
   simp only[du.bG,ao,zE,zD,zC,zH]
   exact Of pm1 dq ho (by simpa using hR)
 have fin:=fin _ rfl
 cases kn:rO y.1.kind with
 |false=>
  simp[-du.bG,kn]at fin
  simpa[-du.bG,kn,du.cN,du.cq,du.cj,du.bW,du.bT,du.bY,du.bZ,du.bD] using fin
 |true=>
  simp only[dR,zS,du.cN,dl,zE,zT,zD,zF,zC,zI,al,aF,dq,aB,zG,au,zA,zB,ah]
  refine⟨fun _=>False,fun _ h=>h.elim,DA ?_⟩
  cases bo:pL y.1.kind<;>cases k0:(y.1.rows != 0)<;>by_cases k1:y.1.rows<0<;>by_cases k2:behind<y.1.rows <;>
   simp[-du.bG,kn,bo,k0,k1,k2]at fin <;>
   simp[-du.bG,dq,au,k0,k1,k2,du.cq,du.cj,du.bW,du.bT,du.bY,du.bZ,du.bD]<;>exact fin
end
end
section
open Go.Ab
attribute [-simp] aN aD
def sg(rs:List (Row×AV))(a n:Nat):List Row:=((rs.drop a).take n).map (·.1)
theorem If{rs:List (Row×AV)}{a:Nat}:sg rs a 0=[]:=rfl
theorem Ie{rs:List (Row×AV)}{a n:Nat}{y:Row×AV}(h:rs[a]?=some y):sg rs a (n+1)=y.1::sg rs (a+1) n:=by
 obtain⟨h1,h2⟩:=zM.1 h
 unfold sg
 rw[List.drop_eq_getElem_cons h1,h2,List.take_succ_cons,List.map_cons]
theorem pf{rs:List (Row×AV)}{a n k:Nat}(h:k<=n):(sg rs a n).take k=sg rs a k:=by
 unfold sg
 rw[<-List.map_take,List.take_take,Nat.min_eq_left h]
theorem pg{rs:List (Row×AV)}{a n k:Nat}:(sg rs a n).drop k=sg rs (a+k) (n-k):=by
 unfold sg
 rw[<-List.map_drop,List.drop_take,List.drop_drop]
theorem As{rs:List (Row×AV)}{a n:Nat}(h:a+n<=rs.length):(sg rs a n).length=n:=by
 unfold sg
 rw[zZ,yA,List.length_drop];omega
inductive qP:List Row->Prop
 |nil:qP []
 |cons {r:Row} {l:List Row} (h0:0<=r.rows) (h1:r.rows<=l.length) (h2:r.kind=aK->0<=r.num) (h3:qP (l.take r.rows.toNat)) (h4:qP (l.drop r.rows.toNat)):qP (r::l)
theorem qP.inv{r:Row}{l:List Row}(h:qP (r::l)):(0<=r.rows/\r.rows<=l.length)/\(r.kind=aK->0<=r.num)/\qP (l.take r.rows.toNat)/\qP (l.drop r.rows.toNat):=by
 cases h with |cons h0 h1 h2 h3 h4=>exact⟨⟨h0,h1⟩,h2,h3,h4⟩
def kJ(ds:List dO)(r:Row)(c:Int):Int:=if r.kind=aK then(if 0<c then min r.num 4097*c else c) else match hH ds r.name with |some d=>d.ops |none=>1
theorem countP_nil{ds:List dO}{n:Int}:countP ds [] n=n:=by rw[countP]
theorem countP_cons{ds:List dO}{n:Int}{r:Row}{l:List Row}:countP ds (r::l) n=countP ds (l.drop r.rows.toNat) (min (n+kJ ds r (countP ds (l.take r.rows.toNat) 0)) 4097):=by rw[countP];rfl
theorem Ku{a b:Int}(h1:0<=a)(h2:a<=4097)(h3:0<=b)(h4:b<=4097):0<=a*b/\a*b<=16785409:=⟨Int.mul_nonneg h1 h3,Int.le_trans (Int.mul_le_mul h2 h4 h3 (by omega)) (by decide)⟩
theorem Dw{ds:List dO}{r:Row}{c:Int}(hd:∀d∈ds,0<=d.ops/\d.ops<=4097)(hc:0<=c/\c<=4097)(hr:r.kind=aK->0<=r.num):0<=kJ ds r c/\kJ ds r c<=16785409:=by
 unfold kJ
 by_cases k:r.kind=aK
 ·rw[zX k]
  have hn:=hr k
  split
  ·have:=Ku (a:=min r.num 4097) (b:=c) (by omega) (by omega) hc.1 hc.2
   exact this
  ·omega
 ·rw[zW k]
  split
  ·rename_i d E_
   have:=hd d (List.mem_of_find?_eq_some E_)
   omega
  ·omega
theorem wW{ds:List dO}(hd:∀d∈ds,0<=d.ops/\d.ops<=4097){l:List Row}(hs:qP l):∀n:Int,0<=n/\n<=4097->0<=countP ds l n/\countP ds l n<=4097:=by
 induction hs with
 |nil=>intro n h;rw[countP_nil];exact h
 |cons h0 h1 h2 h3 h4 TZ TY=>
  intro n hn
  rw[countP_cons]
  have:=Dw hd (TZ 0 (by omega)) h2
  exact TY _ (by omega)
structure RT (h:AH) (xr:AV) (rs:List (Row×AV)):Prop where
 r:cf au 6 46 h xr rs
 a:∀y∈rs,cf Arg.enc 2 67 h y.2 y.1.args/\y.1.args.length<=100000000
 n:rs.length<=100000000
theorem RT.bp{h h':AH}{xr:AV}{rs:List (Row×AV)}(a:RT h xr rs)(f:Fr h h' fun _=>False):RT h' xr rs:=⟨a.r.bp f,fun y hy=>⟨(a.a y hy).1.bp f,(a.a y hy).2⟩,a.n⟩
theorem RT.wQ{h h':AH}{xr:AV}{rs:List (Row×AV)}{n0:Nat}(a:RT h xr rs)(f:Fr h h' (TW TP n0 h)):RT h' xr rs:=⟨a.r.wQ f rfl,fun y hy=>⟨(a.a y hy).1.wQ f rfl,(a.a y hy).2⟩,a.n⟩
theorem RT.one{h:AH}{xr:AV}{rs:List (Row×AV)}(a:RT h xr rs){y:Row×AV}{i:Nat}(hy:rs[i]?=some y):(au y).all cB=true:=pq (a.a y (zP hy)).1
section
variable {M:Nat->Prop} {R:AE->AH->Prop} {p:Nat} {xr:AV} {bk:Bk} {ids:List Nat} {qm bm gm:Nat} {pl:Int} {rs:List (Row×AV)}
structure Me (h:AH) (p:Nat) (xr:AV) (rs:List (Row×AV)) (bk:Bk) (ids:List Nat) (qm bm gm:Nat):Prop where
 p:∃cs,h.obj p=some (aO cs 9 97)/\cs[0]?=some xr/\cs[3]?=some (.mp gm)
 r:RT h xr rs
 m:PM h bk ids qm bm gm
theorem Me.bp{h h':AH}(a:Me h p xr rs bk ids qm bm gm)(f:Fr h h' fun _=>False):Me h' p xr rs bk ids qm bm gm:=by
 obtain⟨cs,h1,h2⟩:=a.p
 exact⟨⟨cs,f.bQ h1,h2⟩,a.r.bp f,a.m.bp f⟩
theorem NO(hd:∀d∈bk.ds,0<=d.ops/\d.ops<=4097)(n:Nat):∀{h:AH}{M:Nat->Prop}{R:AE->AH->Prop}{a:Nat}(_:Me h p xr rs bk ids qm bm gm)(_:a+n<=rs.length)(_:qP (sg rs a n))
  (_:∀h',Fr h h' (fun _=>False)->R (.ret (I (countP bk.ds (sg rs a n) 0))) h'),ay Pg 68 [.ptr p 0,I a,I (a+n)] h M R:=by
 induction n using Nat.strongRecOn with
 |ind n ih=>
 intro h M R a hc hn hs hR
 apply kb.aI
 unfold kb.bz kb.bu kb.bg kb.aZ
 have hlen:=hc.r.n
 refine bX (ι:=Nat×Int) (fun i v h'=>v=[.ptr p 0,I (a+n),I i.2,I (a+(n-i.1:Nat):Int)]/\i.1<=n/\(0<=i.2/\i.2<=4097)/\qP (sg rs (a+(n-i.1)) i.1)/\countP bk.ds (sg rs (a+(n-i.1)) i.1) i.2=countP bk.ds (sg rs a n) 0/\Fr h h' (fun _=>False)) (fun i=>i.1) (n,0) ⟨by simp,zU _,by omega,by simpa using hs,by simp,Fr.refl⟩ ?_
 rintro K ⟨m,acc⟩ v h1 ⟨rfl,hm,tp,oG,cJ,f1⟩ step
 simp only at hm tp oG cJ
 have PZ:=hc.bp f1
 unfold kb.cn
 simp only[zN,zO,kb.bj,ba]
 cases m with
 |zero=>
  have e1:decide ((a:Int)+(n-0:Nat)<a+n)=false:=by simp
  rw[If,countP_nil]at cJ
  simp only[e1,kb.bn,ao,zE,zD,zC,zH,zV,kb.n1,zN]
  rw[cJ]
  simpa using hR h1 f1
 |succ m=>
  obtain⟨j,hj⟩:∃j,j=a+(n-(m+1)):=⟨_,rfl⟩
  have ej:(a:Int)+(n-(m+1):Nat)=(j:Int):=by omega
  have e1:decide ((j:Int)<a+n)=true:=by simp;omega
  rw[<-hj]at oG cJ
  obtain⟨y,hy⟩:∃y,rs[j]?=some y:=⟨rs[j]'(by omega),zJ _⟩
  rw[Ie hy]at oG cJ
  rw[countP_cons]at cJ
  obtain⟨⟨b0,b1⟩,b2,b3,b4⟩:=oG.inv
  rw[As (by omega)]at b1
  obtain⟨k,hk⟩:∃k:Nat,y.1.rows=k:=⟨y.1.rows.toNat,by omega⟩
  have rT:k<=m:=by omega
  rw[hk,zY,pf rT]at b3
  rw[hk,zY,pg]at b4
  rw[hk,zY,pf rT,pg]at cJ
  obtain⟨cs,hp,c0,c3⟩:=PZ.p
  simp only[e1,ej,kb.bn,ao,zD,zF,zC,zI,kb.a_,aT,al,aF,hp,aB,zG,c0,ah]
  refine hZ PZ.r.r eF (PZ.r.one hy) hy rfl rfl (fun id hid=>.inr (zR f1.next hid)) fun vr h2 f2 _ dq=>?_
  have cu:=f1.bO f2
  have vl:=PZ.bp f2
  have UH:=wW hd b3 0 (by omega)
  have PL:=Dw (ds:=bk.ds) (r:=y.1) (c:=countP bk.ds (sg rs (j+1) k) 0) hd UH b2
  have w1:∀x:Int,0<=x/\x<=1000000000->IntKind.i64.wrap x=x:=fun x hx=>aL (by omega) (by omega)
  have YP:∀x:Int,(if (4097:Int)<x then 4097 else x)=min x 4097:=fun x=>by split<;>omega
  have last:∀h3,Fr h h3 (fun _=>False)->kb.n3 (fun id=>M id\/h.next<=id) (aH Pg [.tmp 6] R) K (fun(i:Nat) (vs:List AV) (h:AH)=>if i=0 then kb.n1 (fun id=>M id\/h.next<=id) (aH Pg [.tmp 6] R) (aH Pg [.tmp 6] R) (fun _ _ _=>False) (fun v h=>R (.bV v) h) (vs.getD 0 ab) h else False) (fun v h=>R (.bV v) h) (.ptr p 0) (I (a+n)) (I acc) (I j) (I (kJ bk.ds y.1 (countP bk.ds (sg rs (j+1) k) 0))) h3:=fun h3 f3=>by
   obtain⟨cs3,EW,c30,c33⟩:=(hc.bp f3).p
   simp only[kb.n3,aR,w1 (acc+kJ bk.ds y.1 (countP bk.ds (sg rs (j+1) k) 0)) (by omega),vd,zH,zV,YP,kb.n2,aT,al,aF,EW,aB,zG,c30,ah]
   refine dC (k:=4) (hc.bp f3).r.r eF hy (by omega) rfl fun _=>?_
   rw[hk]
   simp only[aR,w1 (1+(k:Int)) (by omega),w1 ((j:Int)+(1+k)) (by omega)]
   refine step (m-k,min (acc+kJ bk.ds y.1 (countP bk.ds (sg rs (j+1) k) 0)) 4097) _ h3 (by simp only;omega) ⟨?_,by simp only;omega,?_,?_,?_,f3⟩
   ·have e9:(j:Int)+(1+k)=a+(n-(m-k):Nat):=by omega
    rw[<-e9]
   ·simp only;omega
   ·have e8:j+1+k=a+(n-(m-k)):=by omega
    rw[e8]at b4;exact b4
   ·have e8:j+1+k=a+(n-(m-k)):=by omega
    rw[e8]at cJ
    exact cJ
  have e4:(⟨#[114,101,112,101,97,116]⟩:ByteArray)=aK:=rfl
  simp only[kb.aQ,kb.aU,al,aF,dq,aB,zG,au,zA,zB,ah,cU,e4]
  by_cases k1:y.1.kind=aK
  ·have qA:=b2 k1
   simp only[zL k1,kb.aP,ao,zD,zF,zC,zI,kb.n6,aR,al,aF,dq,aB,zG,au,zA,zB,ah,hk,w1 ((j:Int)+1) (by omega),w1 ((j:Int)+1+k) (by omega)]
   refine⟨fun _=>False,fun _ h=>h.elim,ih k (by omega) (a:=j+1) vl (by omega) b3 fun h3 f3=>?_⟩
   have l3:=last h3 (cu.bO f3)
   unfold kJ at l3
   rw[zX k1]at l3
   simp only[kb.n5,dZ,gt_iff_lt]
   by_cases k2:0<countP bk.ds (sg rs (j+1) k) 0
   ·rw[zX k2]at l3
    have wB:=Ku (a:=min y.1.num 4097) (by omega) (by omega) UH.1 UH.2
    simp only[zL k2,kb.n4,ao,zD,zF,zC,zI,al,aF,f3.bQ dq,aB,zG,au,zA,zB,ah,vd,zH,zV,YP,Et,w1 (min y.1.num 4097*countP bk.ds (sg rs (j+1) k) 0) (by omega)]
    exact l3
   ·rw[zW k2]at l3
    simp only[zK k2,kb.n4,ao,zE,zD,zC,zH]
    exact l3
  ·have l2:=last h2 cu
   unfold kJ at l2
   rw[zW k1]at l2
   obtain⟨cs2,EX,c20,c23⟩:=vl.p
   simp only[zK k1,kb.aP,ao,zE,zD,zC,zH,kb.n9,aT,al,aF,EX,dq,aB,zG,c23,au,zA,zB,ah]
   refine ir (enc:=Sb) jD z87 vl.m.g fun _=>?_
   rcases nG (n:=y.1.name) vl.m.len with⟨e1,e2⟩ |⟨kk,d,id,e1,e2,oW,rU⟩
   ·rw[e2]at l2
    rw[e1]
    simp only[gu,zV,dx,zA,zB,ah,kb.n8,kb.n7,ao,zE,zD,zC,zH]
    exact l2
   ·rw[e2]at l2
    rw[e1]
    obtain⟨xp,od,_⟩:=vl.m.d kk d id oW rU
    simp only[gu,zV,dx,zA,zB,ah,kb.n8,kb.n7,ao,zD,zF,zC,zI,aT,al,aF,od,aB,zG]
    exact l2
end
end
section
open Go.Ab
def core(d:dO):ByteArray×List ByteArray×Int×Int:=(d.name,d.params,d.from_,d.JF)
structure mD (bk:Bk):Prop where
 ok:Cq bk
 nd:(bk.ds.map (·.name)).Nodup
def gA(bk cE:Bk):Prop:=∃l,cE.ds.map core=bk.ds.map core++l
theorem gA.refl{bk:Bk}:gA bk bk:=⟨[],by simp⟩
theorem gA.trans{a b c:Bk}(h1:gA a b)(h2:gA b c):gA a c:=by
 obtain⟨l1,e1⟩:=h1
 obtain⟨l2,e2⟩:=h2
 exact⟨l1++l2,by rw[e2,e1,List.append_assoc]⟩
theorem gA.at_{a b:Bk}(h:gA a b){k:Nat}{d:dO}(hd:a.ds[k]?=some d):∃d',b.ds[k]?=some d'/\core d'=core d:=by
 obtain⟨l,e⟩:=h
 have h1:(b.ds.map core)[k]?=some (core d):=by
  rw[e,List.getElem?_append_left (by rw[zZ];exact(zM.1 hd).1),List.getElem?_map,hd];rfl
 rw[List.getElem?_map]at h1
 cases hb:b.ds[k]? with
 |none=>rw[hb]at h1;cases h1
 |some d'=>rw[hb]at h1;exact⟨d',rfl,Option.some.inj h1⟩
theorem AM{β:Type}{f:dO->dO}{g:dO->β}(hf:∀d,g (f d)=g d)(l:List dO)(k:Nat):(l.modify k f).map g=l.map g:=by
 induction l generalizing k with
 |nil=>simp
 |cons d l ih=>cases k with
  |zero=>simp[hf]
  |succ k=>simp[ih]
theorem mem_modify{f:dO->dO}{l:List dO}{k:Nat}{d:dO}(h:d∈l.modify k f):d∈l\/∃e∈l,d=f e:=by
 obtain⟨i,hi⟩:=List.mem_iff_getElem?.1 h
 rw[getElem?_modify']at hi
 by_cases hk:k=i
 ·rw[zX hk]at hi
  cases he:l[i]? with
  |none=>rw[he]at hi;cases hi
  |some e=>rw[he]at hi;exact .inr ⟨e,zP he,(Option.some.inj hi).symm⟩
 ·rw[zW hk]at hi
  exact .inl (zP hi)
theorem mD.modify{bk:Bk}(a:mD bk){k:Nat}{f:dO->dO}(hf:∀d,core (f d)=core d)(hd:∀d∈bk.ds,0<=(f d).depth/\(f d).depth<=100/\0<=(f d).ops/\(f d).ops<=4097):mD { bk with ds:=bk.ds.modify k f }/\gA bk { bk with ds:=bk.ds.modify k f }:=by
 have hn:∀d,(f d).name=d.name:=fun d=>congrArg (·.1) (hf d)
 have hp:∀d,(f d).params=d.params:=fun d=>congrArg (·.2.1) (hf d)
 refine⟨⟨⟨a.ok.tq,a.ok.tb,a.ok.sq,a.ok.sb,fun d h=>?_⟩,?_⟩,[],?_⟩
 ·rcases mem_modify h with h1 |⟨e,h1,rfl⟩
  ·exact a.ok.ds d h1
  ·rw[hp];exact⟨(a.ok.ds e h1).1,hd e h1⟩
 ·simp only
  rw[AM hn];exact a.nd
 ·simp only[List.append_nil]
  rw[AM hf]
theorem MD{l:List js}{n:ByteArray}{s:Int}(ht:0<=bq l)(h:∀r∈l,1<=r.size/\0<=r.from_/\r.from_+r.size<=bq l)(hs:1<=s):∀r∈l++[⟨n,bq l,s⟩],1<=r.size/\0<=r.from_/\r.from_+r.size<=bq (l++[⟨n,bq l,s⟩]):=by
 intro r hr
 rw[qR]
 rcases List.mem_append.1 hr with hr |hr
 ·have:=h r hr;simp only;omega
 ·have:=List.mem_singleton.1 hr
  subst this
  simp only;omega
theorem FK{bk:Bk}{l l':List js}{r:Row}(ht:0<=bq l/\bq l<=64)(h:∀r∈l,1<=r.size/\0<=r.from_/\r.from_+r.size<=bq l)(hd:ij bk l 64 r=.ok l'):(0<=bq l'/\bq l'<=64)/\∀r∈l',1<=r.size/\0<=r.from_/\r.from_+r.size<=bq l':=by
 unfold ij at hd
 split at hd
 ·cases hd
 split at hd
 ·cases hd
 split at hd
 ·cases hd
 cases hd
 refine⟨?_,MD ht.1 h (by omega)⟩
 rw[qR];simp only;omega
theorem uI{l:List dO}{n:ByteArray}(h:hH l n=none):∀d∈l,d.name≠n:=fun d hd he=>by
 unfold hH at h
 rw[List.find?_eq_none]at h
 exact h d hd (by simpa using he)
theorem Cu{bk:Bk}{n:ByteArray}(h:j7 bk n=false):fA bk.qs n=none/\fA bk.bs n=none/\hH bk.ds n=none/\¬0<b6 n:=by
 unfold j7 at h
 simp only[Bool.or_eq_false_iff,decide_eq_false_iff_not]at h
 refine⟨?_,?_,?_,h.2⟩
 ·simpa using h.1.1.1
 ·simpa using h.1.1.2
 ·simpa using h.1.2
theorem HF{bk cE:Bk}{r:Row}{i:Int}(a:mD bk)(hl:r.args.length<=100000000)(h:uJ bk r i=.ok cE):mD cE/\gA bk cE/\cE={ bk with ds:=bk.ds++[⟨r.name,r.args.map (·.name),i+1,i+1+r.rows,1,0,false⟩] }/\j7 bk r.name=false:=by
 unfold uJ at h
 split at h
 ·cases h
 rename_i ht
 split at h
 ·cases h
 split at h
 ·cases h
 split at h
 ·cases h
 cases h
 have ht:j7 bk r.name=false:=by simpa using ht
 refine⟨⟨⟨a.ok.tq,a.ok.tb,a.ok.sq,a.ok.sb,fun d hd=>?_⟩,?_⟩,⟨_,List.map_append⟩,rfl,ht⟩
 ·rcases List.mem_append.1 hd with hd |hd
  ·exact a.ok.ds d hd
  ·have:=List.mem_singleton.1 hd
   subst this
   refine⟨by simpa using hl,?_⟩
   simp only;omega
 ·simp only[List.map_append,List.map_cons,List.map_nil]
  rw[List.nodup_append]
  refine⟨a.nd,by simp,fun x hx y hy=>?_⟩
  have hy:=List.mem_singleton.1 hy
  subst hy
  obtain⟨d,hd,rfl⟩:=List.mem_map.1 hx
  exact uI (Cu ht).2.2.1 d hd
theorem QJ{bk cE:Bk}{r:Row}{own:Option Nat}(a:mD bk)(h:mY bk own r=.ok cE):mD cE/\gA bk cE/\cE.ds.length=bk.ds.length:=by
 unfold mY at h
 split at h
 ·cases h
 split at h
 ·cases h
 split at h
 ·cases h
 split at h
 ·cases h
 split at h
 ·cases h
 split at h
 ·cases h
 rename_i hd
 cases h
 unfold r9
 cases own with
 |none=>exact⟨a,gA.refl,rfl⟩
 |some k=>
  simp only[Option.isSome_some,zH]at hd
  have:=a.modify (k:=k) (f:=fun d=>{ d with depth:=max d.depth ((nz bk r.name).2+1) }) (fun _=>rfl) (fun d h=>by have:=a.ok.ds d h;simp only;omega)
  exact⟨this.1,this.2,by simp⟩
theorem xz{bk cE:Bk}{own:Option Nat}{i:Int}{r:Row}(a:mD bk)(hl:r.args.length<=100000000)(h:lA bk own i r=.ok cE):mD cE/\gA bk cE/\(r.kind=aK->0<=r.num)/\(r.kind≠aY->cE.ds.length=bk.ds.length) /\
  (r.kind=aY->cE={ bk with ds:=bk.ds++[⟨r.name,r.args.map (·.name),i+1,i+1+r.rows,1,0,false⟩] }):=by
 unfold lA at h
 have n1:aX≠aK:=by decide
 have n2:bK≠aK:=by decide
 have n3:aY≠aK:=by decide
 have m1:aX≠aY:=by decide
 have m2:bK≠aY:=by decide
 have same:∀e,qB e bk=.ok cE->cE=bk:=fun e h=>by
  unfold qB at h
  split at h<;>cases h
  rfl
 by_cases k1:r.kind=aX
 ·rw[zX k1]at h
  cases hd:ij bk bk.qs 64 r with
  |error e=>rw[hd]at h;cases h
  |ok l=>
   rw[hd]at h
   cases h
   obtain⟨h1,h2⟩:=FK a.ok.tq a.ok.sq hd
   exact⟨⟨⟨h1,a.ok.tb,h2,a.ok.sb,a.ok.ds⟩,a.nd⟩,⟨[],by simp⟩,fun e=>absurd (k1.symm.trans e) n1,fun _=>rfl,fun e=>absurd (k1.symm.trans e) m1⟩
 rw[zW k1]at h
 by_cases k2:r.kind=bK
 ·rw[zX k2]at h
  cases hd:ij bk bk.bs 64 r with
  |error e=>rw[hd]at h;cases h
  |ok l=>
   rw[hd]at h
   cases h
   obtain⟨h1,h2⟩:=FK a.ok.tb a.ok.sb hd
   exact⟨⟨⟨a.ok.tq,h1,a.ok.sq,h2,a.ok.ds⟩,a.nd⟩,⟨[],by simp⟩,fun e=>absurd (k2.symm.trans e) n2,fun _=>rfl,fun e=>absurd (k2.symm.trans e) m2⟩
 rw[zW k2]at h
 by_cases k3:r.kind=aY
 ·rw[zX k3]at h
  obtain⟨h1,h2,h3,_⟩:=HF a hl h
  exact⟨h1,h2,fun e=>absurd (k3.symm.trans e) n3,fun e=>absurd k3 e,fun _=>h3⟩
 rw[zW k3]at h
 have fin:cE=bk->(r.kind=aK->0<=r.num)->mD cE/\gA bk cE/\(r.kind=aK->0<=r.num)/\(r.kind≠aY->cE.ds.length=bk.ds.length)/\(r.kind=aY->cE={ bk with ds:=bk.ds++[⟨r.name,r.args.map (·.name),i+1,i+1+r.rows,1,0,false⟩] }):=fun e hn=>by
  subst e
  exact⟨a,gA.refl,hn,fun _=>rfl,fun e=>absurd e k3⟩
 by_cases k4:r.kind=aK
 ·rw[zX k4]at h
  split at h
  ·cases h
  ·cases h
   exact fin rfl (fun _=>by omega)
 rw[zW k4]at h
 have KF:r.kind=aK->0<=r.num:=fun e=>absurd e k4
 by_cases k5:r.kind=c9
 ·rw[zX k5]at h
  unfold EO at h
  split at h
  ·cases h
  ·split at h
   ·cases h
   ·cases h
    exact fin rfl KF
 rw[zW k5]at h
 by_cases k6:r.kind=bP
 ·rw[zX k6]at h
  obtain⟨h1,h2,h3⟩:=QJ a h
  exact⟨h1,h2,KF,fun _=>h3,fun e=>absurd e k3⟩
 rw[zW k6]at h
 by_cases k7:r.kind=be
 ·rw[zX k7]at h
  unfold pI at h
  split at h
  ·split at h
   ·cases h
   ·exact fin (same _ h) KF
  ·cases h
 rw[zW k7]at h
 by_cases k8:r.kind=ch
 ·rw[zX k8]at h
  unfold tG at h
  split at h
  ·exact fin (same _ h) KF
  ·cases h
 rw[zW k8]at h
 cases h
 exact fin rfl KF
theorem Ce{r:Row}{behind deep:Int}{own:Bool}(h:mN r behind deep own=0):rO r.kind=true/\(pL r.kind=true\/r.rows=0)/\0<=r.rows/\r.rows<=behind/\deep<=32/\(0<deep->uK r.kind=false)/\(own=true->r.kind=bP\/r.kind=aK):=by
 unfold mN at h
 split at h
 ·cases h
 rename_i h1
 split at h
 ·cases h
 rename_i h2
 split at h
 ·cases h
 rename_i h3
 split at h
 ·cases h
 rename_i h4
 simp at h1 h3 h4
 refine⟨h1.1.1.1,?_,h1.1.2,h1.2,by omega,h3,fun ho=>?_⟩
 ·cases hb:pL r.kind with
  |true=>exact .inl rfl
  |false=>exact .inr (h1.1.1.2 hb)
 ·by_cases hu:r.kind=bP
  ·exact .inl hu
  ·exact .inr (h4 ho hu)
theorem nR{deep:Nat}{own:Option Nat}{i:Nat}{bk:Bk}:fB deep own i [] bk=.ok bk:=by rw[fB]
theorem oD{deep:Nat}{own:Option Nat}{i:Nat}{r:Row}{rest:List Row}{bk:Bk}:fB deep own i (r::rest) bk =
  if mN r rest.length deep own.isSome≠0 then .error (r.place,mN r rest.length deep own.isSome)
  else match lA bk own i r with
   |.error e=>.error (r.place,e)
   |.ok qO=>match fB (deep+1) (if r.kind=aY then some bk.ds.length else own) (i+1) (rest.take r.rows.toNat) qO with
    |.error e=>.error e
    |.ok iK=>fB deep own (i+1+r.rows.toNat) (rest.drop r.rows.toNat) (if r.kind=aY then{ iK with ds:=l0 iK.ds bk.ds.length (countP iK.ds (rest.take r.rows.toNat) 0) } else iK):=by
 conv=>lhs;rw[fB]
 all_goals rfl
theorem Dx{bk:Bk}(a:mD bk){k:Nat}{l:List Row}(hs:qP l):mD { bk with ds:=l0 bk.ds k (countP bk.ds l 0) }/\gA bk { bk with ds:=l0 bk.ds k (countP bk.ds l 0) }:=by
 have hb:=wW (ds:=bk.ds) (fun d hd=>(a.ok.ds d hd).2.2.2) hs 0 (by omega)
 exact a.modify (fun _=>rfl) (fun d hd=>by have:=a.ok.ds d hd;simp only;omega)
theorem zh(n:Nat):∀{deep:Nat}{own:Option Nat}{i:Nat}{rows:List Row}{bk cE:Bk}(_:rows.length=n)(_:∀r∈rows,r.args.length<=100000000)(_:mD bk)(_:fB deep own i rows bk=.ok cE),mD cE/\gA bk cE/\qP rows:=by
 induction n using Nat.strongRecOn with
 |ind n ih=>
 intro deep own i rows bk cE hn hl a h
 cases rows with
 |nil=>rw[nR]at h;cases h;exact⟨a,gA.refl,.nil⟩
 |cons r rest=>
  rw[oD]at h
  split at h
  ·cases h
  rename_i hf
  obtain⟨_,_,f1,f2,_⟩:=Ce (Classical.not_not.1 hf)
  split at h
  ·cases h
  rename_i qO h1
  split at h
  ·cases h
  rename_i iK h2
  obtain⟨a1,x1,g1,g2,g3⟩:=xz a (hl r (List.mem_cons_self ..)) h1
  rw[List.length_cons]at hn
  obtain⟨a2,x2,s2⟩:=ih _ (by rw[yA];omega) rfl (fun r' hr=>hl r' (List.mem_cons_of_mem _ (List.mem_of_mem_take hr))) a1 h2
  have key:∀nV,mD nV->gA iK nV->fB deep own (i+1+r.rows.toNat) (rest.drop r.rows.toNat) nV=.ok cE->mD cE/\gA bk cE/\qP (r::rest):=fun nV a3 x3 h3=>by
   obtain⟨a4,x4,s4⟩:=ih _ (by rw[List.length_drop];omega) rfl (fun r' hr=>hl r' (List.mem_cons_of_mem _ (List.mem_of_mem_drop hr))) a3 h3
   exact⟨a4,x1.trans (x2.trans (x3.trans x4)),.cons f1 f2 g1 s2 s4⟩
  by_cases k:r.kind=aY
  ·rw[zX k]at h
   obtain⟨a3,x3⟩:=Dx a2 (k:=bk.ds.length) s2
   exact key _ a3 x3 h
  ·rw[zW k]at h
   exact key _ a2 gA.refl h
end
section
open Go.Ab
attribute [-simp] aN aD
theorem Du{f:dO->dO}(h1:∀d,(f d).name=d.name)(h2:∀d,(f d).ops=d.ops)(n:ByteArray):∀(l:List dO)(k:Nat),(hH (l.modify k f) n).map (·.ops)=(hH l n).map (·.ops)
 |[],k=>by simp
 |d::l,0=>by
  unfold hH
  simp only[List.modify_zero_cons,List.find?_cons,h1]
  cases decide (d.name=n)
  ·rfl
  ·simp[h2]
 |d::l,k+1=>by
  have ih:=Du h1 h2 n l k
  unfold hH at ih ⊢
  simp only[List.modify_succ_cons,List.find?_cons]
  cases decide (d.name=n)
  ·exact ih
  ·rfl
theorem DJ{f:dO->dO}(h1:∀d,(f d).name=d.name)(h2:∀d,(f d).ops=d.ops){ds:List dO}{k:Nat}{l:List Row}(hs:qP l):∀n,countP (ds.modify k f) l n=countP ds l n:=by
 induction hs with
 |nil=>intro n;rw[countP_nil,countP_nil]
 |cons h0 eN gp h3 h4 TZ TY=>
  rename_i r l
  intro n
  rw[countP_cons,countP_cons,TZ,TY]
  have g:∀o o':Option dO,o.map (·.ops)=o'.map (·.ops)->(match o with |some d=>d.ops |none=>1)=(match o' with |some d=>d.ops |none=>(1:Int)):=by
   rintro(_ |a) (_ |b) h
   ·rfl
   ·cases h
   ·cases h
   ·exact Option.some.inj h
  have e:∀c,kJ (ds.modify k f) r c=kJ ds r c:=fun c=>by
   unfold kJ
   by_cases kr:r.kind=aK
   ·rw[zX kr,zX kr]
   ·rw[zW kr,zW kr]
    exact g _ _ (Du h1 h2 r.name ds k)
  rw[e]
theorem Ec{ds:List dO}{k:Nat}{n:Int}:(ds.modify k (fun d=>{ d with whole:=true })).modify k (fun d=>{ d with ops:=n })=l0 ds k n:=by
 unfold l0
 apply List.ext_getElem?
 intro i
 simp only[getElem?_modify']
 by_cases h:k=i
 ·simp only[zX h,Option.map_map];rfl
 ·simp only[zW h]
theorem Wd{l:List dO}(h:(l.map (·.name)).Nodup){i j:Nat}{a b:dO}(hi:l[i]?=some a)(hj:l[j]?=some b)(he:a.name=b.name):i=j:=by
 obtain⟨h1,h2⟩:=zM.1 hi
 obtain⟨h3,h4⟩:=zM.1 hj
 have hp:=List.pairwise_iff_getElem.1 h
 have g1:(l.map (·.name))[i]'(by simpa using h1)=a.name:=by simp[h2]
 have g2:(l.map (·.name))[j]'(by simpa using h3)=b.name:=by simp[h4]
 rcases Nat.lt_trichotomy i j with aM |oY |aM
 ·exact absurd (g1.trans (he.trans g2.symm)) (hp i j (by simpa using h1) (by simpa using h3) aM)
 ·exact oY
 ·exact absurd (g2.trans (he.symm.trans g1.symm)) (hp j i (by simpa using h3) (by simpa using h1) aM)
section
variable {h:AH} {n0 p:Nat} {xr x4:AV} {bk:Bk} {ids:List Nat} {qm bm gm:Nat} {pl:Int} {rs:List (Row×AV)} {own:Option Nat}
theorem B6(pm:PM h bk ids qm bm gm)(a:mD bk){k:Nat}{d:dO}(hd:bk.ds[k]?=some d):∃id,ids[k]?=some id/\eu d.name (k_ bk.ds ids)=some (.ptr id 0)/\th h id d:=by
 rcases nG (n:=d.name) pm.len with⟨_,e2⟩ |⟨k',d',id,e1,e2,oW,rU⟩
 ·exact absurd rfl (uI e2 d (zP hd))
 ·have hn:d'.name=d.name:=by
   have:=List.find?_some e2
   simpa using this
  have:=Wd a.nd hd oW hn.symm
  subst this
  rw[hd]at oW;cases oW
  exact⟨id,rU,e1,pm.d _ _ _ hd rU⟩
theorem PA.V9(pa:PA n0 h p xr bk ids qm bm gm pl){x:Int}:PA n0 (h.put p 8 [I x]) p xr bk ids qm bm gm x/\Fr h (h.put p 8 [I x]) (TW TP n0 h)/\Fr h (h.put p 8 [I x]) (·=p):=by
 have f1:Fr h (h.put p 8 [I x]) (·=p):=Fr.refl.put (.inl rfl)
 have o1:=fF (off:=8) (cs:=[I x]) pa.p
 generalize h.put p 8 [I x]=h1 at *
 have dA:∀{j:Nat}{o:AO},h.obj j=some o->o.ty≠97->h1.obj j=some o:=fun ho cC=>f1.obj ho (b5 ho pa.p cC)
 refine⟨⟨pa.n,o1,dA pa.m.q (show(94:Nat)≠97 by decide),dA pa.m.b (show(94:Nat)≠97 by decide),dA pa.m.g (show(95:Nat)≠97 by decide),pa.m.len,fun k d id h1 h2=>(pa.m.d k d id h1 h2).fr f1 fun i o ho ht=>?_,pa.m.nd,pa.m.qb⟩,TW.nk f1 pa.n.1 pa.p rfl rfl,f1⟩
 exact b5 ho pa.p (by rcases ht with h |h<;>rw[h]<;>show _≠(97:Nat)<;>decide)
theorem mA.mw{l:List Nat}(ho:mA ids own x4):mA (ids++l) own x4:=by
 cases own with
 |none=>exact ho
 |some k=>
  obtain⟨id,h1,h2⟩:=ho
  exact⟨id,by rw[List.getElem?_append_left (zM.1 h1).1];exact h1,h2⟩
theorem PA.ct(pa:PA n0 h p xr bk ids qm bm gm pl)(rt:RT h xr rs):Me h p xr rs bk ids qm bm gm:=⟨⟨_,pa.p,rfl,rfl⟩,rt,pa.m⟩
end
def Co(h:AH)(p:Nat)(pl:Int):Prop:=∃cs,h.obj p=some (aO cs 9 97)/\cs[8]?=some (I pl)
theorem PA.rE{h:AH}{n0 p:Nat}{xr:AV}{bk:Bk}{ids:List Nat}{qm bm gm:Nat}{pl:Int}(pa:PA n0 h p xr bk ids qm bm gm pl):Co h p pl:=⟨_,pa.p,rfl⟩
theorem Co.bp{h h':AH}{p:Nat}{pl:Int}(a:Co h p pl)(f:Fr h h' fun _=>False):Co h' p pl:=by
 obtain⟨cs,h1,h2⟩:=a
 exact⟨cs,f.bQ h1,h2⟩
theorem Ee{bk:Bk}{own:Option Nat}{i:Int}{r:Row}{e:Int}(h:lA bk own i r=.error e):e≠0:=by
 have de:∀(bk:Bk)(l:List js){e:Int},ij bk l 64 r=.error e->e≠0:=fun bk l e h=>by
  unfold ij at h
  split at h
  ·cases h;decide
  split at h
  ·cases h;decide
  split at h
  ·cases h;decide
  cases h
 have er:∀x,qB x bk=.error e->e≠0:=fun x h=>by
  unfold qB at h
  split at h
  ·rename_i h0;cases h;exact h0
  ·cases h
 unfold lA at h
 split at h
 ·cases hd:ij bk bk.qs 64 r with
  |error e'=>rw[hd]at h;cases h;exact de bk _ hd
  |ok l=>rw[hd]at h;cases h
 split at h
 ·cases hd:ij bk bk.bs 64 r with
  |error e'=>rw[hd]at h;cases h;exact de bk _ hd
  |ok l=>rw[hd]at h;cases h
 split at h
 ·unfold uJ at h
  split at h
  ·cases h;decide
  split at h
  ·cases h;decide
  split at h
  ·cases h;decide
  split at h
  ·cases h;decide
  cases h
 split at h
 ·split at h
  ·cases h;decide
  ·cases h
 split at h
 ·unfold EO at h
  split at h
  ·cases h;decide
  ·split at h
   ·cases h;decide
   ·cases h
 split at h
 ·unfold mY at h
  split at h
  ·cases h;decide
  split at h
  ·cases h;decide
  split at h
  ·cases h;decide
  split at h
  ·rename_i h0;cases h;exact h0
  split at h
  ·cases h;decide
  split at h
  ·cases h;decide
  cases h
 split at h
 ·unfold pI at h
  split at h
  ·split at h
   ·rename_i h0;cases h;exact h0
   ·exact er _ h
  ·cases h;decide
 split at h
 ·unfold tG at h
  split at h
  ·exact er _ h
  ·cases h;decide
 cases h
theorem CP(n:Nat):∀{deep:Nat}{own:Option Nat}{i:Nat}{rows:List Row}{bk:Bk}{x:Int×Int}(_:rows.length=n)(_:fB deep own i rows bk=.error x),x.2≠0:=by
 induction n using Nat.strongRecOn with
 |ind n ih=>
 intro deep own i rows bk x hn h
 cases rows with
 |nil=>rw[nR]at h;cases h
 |cons r rest=>
  rw[List.length_cons]at hn
  rw[oD]at h
  split at h
  ·rename_i h0;cases h;exact h0
  split at h
  ·rename_i e he;cases h;exact Ee he
  split at h
  ·rename_i e he;cases h
   exact ih _ (by rw[yA];omega) rfl he
  ·exact ih _ (by rw[List.length_drop];omega) rfl h
section
variable {p:Nat} {xr:AV} {qm bm gm:Nat} {rs:List (Row×AV)} {n0:Nat}
theorem Rv(n:Nat):∀{h:AH}{M:Nat->Prop}{R:AE->AH->Prop}{a deep:Nat}{own:Option Nat}{x4:AV}{bk:Bk}{ids:List Nat}{pl:Int}
  (_:PA n0 h p xr bk ids qm bm gm pl) (_:RT h xr rs) (_:mD bk) (_:mA ids own x4) (_:a+n<=rs.length) (_:deep<=33) (_:∀id,TW TP n0 h id->M id)
  (_:∀ib e h',fB deep own a (sg rs a n) bk=.error (ib,e)->Co h' p ib->Fr h h' (TW TP n0 h)->R (.ret (I e)) h')
  (_:∀cE l ib h',fB deep own a (sg rs a n) bk=.ok cE->PA n0 h' p xr cE (ids++l) qm bm gm ib->Fr h h' (TW TP n0 h)->R (.ret (I 0)) h'),
  ay Pg 37 [.ptr p 0,I a,I (a+n),I deep,x4] h M R:=by
 induction n using Nat.strongRecOn with
 |ind n ih=>
 intro h M R a deep own x4 pc EP pl0 Tf G3 bi0 Yc hn abE hM he hk
 apply fJ.aI
 unfold fJ.cq fJ.cj fJ.bW
 have hlen:=G3.n
 refine bX (ι:=Nat×Bk×List Nat×Int) (fun i v h'=>v=[.ptr p 0,I (a+n),I deep,x4,I (a+(n-i.1:Nat):Int)]/\i.1<=n/\PA n0 h' p xr i.2.1 (EP++i.2.2.1) qm bm gm i.2.2.2/\mD i.2.1/\fB deep own (a+(n-i.1)) (sg rs (a+(n-i.1)) i.1) i.2.1=fB deep own a (sg rs a n) pc/\Fr h h' (TW TP n0 h)) (fun i=>i.1) (n,pc,[],pl0) ⟨by simp,zU _,by simpa using Tf,bi0,by simp,TW.bJ Fr.refl⟩ ?_
 rintro K ⟨m,bk,EF,pl⟩ v h1 ⟨rfl,hm,pa,bi,cJ,f1⟩ step
 simp only at hm pa bi cJ
 have JT:=G3.wQ f1
 have ho:=Yc.mw (l:=EF)
 unfold fJ.cn
 simp only[zN,zO,fJ.bT,ba]
 cases m with
 |zero=>
  have e1:decide ((a:Int)+(n-0:Nat)<a+n)=false:=by simp
  rw[If,nR]at cJ
  simp only[e1,fJ.bY,ao,zE,zD,zC,zH,zV,fJ.n1]
  simpa using hk bk EF pl h1 cJ.symm pa f1
 |succ m=>
  obtain⟨j,hj⟩:∃j,j=a+(n-(m+1)):=⟨_,rfl⟩
  have ej:(a:Int)+(n-(m+1):Nat)=(j:Int):=by omega
  have e1:decide ((j:Int)<a+n)=true:=by simp;omega
  rw[<-hj]at cJ
  obtain⟨y,hy⟩:∃y,rs[j]?=some y:=⟨rs[j]'(by omega),zJ _⟩
  rw[Ie hy,oD,As (by omega)]at cJ
  have yk:=JT.a y (zP hy)
  have De:∀id,h1.next<=id->(M id\/h.next<=id):=fun id hid=>.inr (zR f1.next hid)
  have Df:∀{h2:AH},Fr h h2 (TW TP n0 h)->∀id,TW TP n0 h2 id->(M id\/h.next<=id):=fun f id hid=>(TW.back f hid).elim (fun h=>.inl (hM id h)) .inr
  have w1:∀x:Int,0<=x/\x<=1000000000->IntKind.i64.wrap x=x:=fun x hx=>aL (by omega) (by omega)
  simp only[e1,ej,fJ.bY,ao,zD,zF,zC,zI,fJ.bZ,aT,al,aF,pa.p,aB,zG,zA,ah]
  refine hZ JT.r eF (JT.one hy) hy rfl rfl De fun vr h2 f2 _ l_=>?_
  have cu:=TW.trans f1 (TW.bJ f2)
  have dT:=pa.bp f2
  simp only[fJ.bD,al,aF,l_,aB,zG,au,zA,zB,ah,aT,aD,dT.p,eJ,cH]
  refine⟨⟨.inl (hM p ⟨Tf.n.1,_,Tf.p,rfl,rfl⟩),rfl,rfl,by simp⟩,?_⟩
  obtain⟨AC,f3,g3⟩:=dT.V9 (x:=y.1.place)
  generalize h2.put p 8 [I y.1.place]=h3 at *
  have eO:=TW.trans cu f3
  have oR:=g3.obj l_ (b5 l_ dT.p (show(46:Nat)≠97 by decide))
  have JS:=G3.wQ eO
  have ZJ:=JS.a y (zP hy)
  unfold fJ.bG
  refine dN oR rfl fun _=>?_
  have eb:IntKind.i64.wrap ((a:Int)+n-j)=(m:Int)+1:=by
   have:(a:Int)+n-j=m+1:=by omega
   rw[this];exact w1 _ (by omega)
  have eb2:IntKind.i64.wrap ((m:Int)+1-1)=m:=by
   have:(m:Int)+1-1=m:=by omega
   rw[this];exact w1 _ (by omega)
  simp only[eX,eb,eb2]
  refine⟨fun _=>False,fun _ h=>h.elim,RH AC.m ZJ.1 ho fun h4 f4=>?_⟩
  have kl:=TW.trans eO (TW.bJ f4)
  simp only[fJ.bE,cZ]
  by_cases k1:mN y.1 m deep own.isSome=0
  ·rw[zW (by simpa using k1)]at cJ
   have iu:(mN y.1 m deep own.isSome != 0)=false:=by simp[k1]
   obtain⟨_,_,b0,b1,bdp,_,_⟩:=Ce k1
   obtain⟨k,tQ⟩:∃k:Nat,y.1.rows=k:=⟨y.1.rows.toNat,by omega⟩
   have rT:k<=m:=by omega
   rw[tQ,zY,pf rT,pg]at cJ
   have XF:=f4.bQ oR
   have XD:=AC.bp f4
   have rt4:=G3.wQ kl
   have M7:=rt4.a y (zP hy)
   simp only[iu,fJ.bC,ao,zE,zD,zC,zH,fJ.bu]
   refine dN XF rfl fun _=>?_
   refine⟨TW TP n0 h4,fun id hs _=>Df kl id hs,S5 XD bi.ok ho M7.1 M7.2 (by omega) (by omega) (fun _ h=>h) ?_ ?_⟩
   ·intro e h5 hr f5
    rw[hr]at cJ
    have qN:=TW.trans kl (TW.bJ f5)
    have h0:e≠0:=Ee hr
    have wP:(e != 0)=true:=by simp[h0]
    simp only[fJ.bg,cZ,wP,fJ.aZ,ao,zD,zF,zC,zI,fJ.bj]
    simpa using he y.1.place e h5 cJ.symm (XD.rE.bp f5) qN
   ·intro qO ZH h5 hr sx aaJ f5
    rw[hr]at cJ
    simp only at cJ
    have qN:=TW.trans kl f5
    obtain⟨Qq,x1,_,g2,g3'⟩:=xz bi M7.2 hr
    have G9:h5.obj vr=some (aO (au y) 6 46):=TW.obj f5 XF rfl
    have S4:=G3.wQ qN
    obtain⟨l1,rfl⟩:∃l1,ZH=EP++(EF++l1):=by
     rcases aaJ with rfl |⟨id,rfl⟩
     ·exact⟨[],by simp⟩
     ·exact⟨[id],by simp⟩
    have Un:=Yc.mw (l:=EF++l1)
    have last:∀nV l3 Tb h7,PA n0 h7 p xr nV (EP++l3) qm bm gm Tb->mD nV->h7.obj vr=some (aO (au y) 6 46)->fB deep own (j+1+k) (sg rs (j+1+k) (m-k)) nV=fB deep own a (sg rs a n) pc->Fr h h7 (TW TP n0 h) ->
      fJ.n2 (fun id=>M id\/h.next<=id) (aH Pg [.tmp 10] R) K (fun(i:Nat) (vs:List AV) (h:AH)=>if i=0 then fJ.n1 (fun id=>M id\/h.next<=id) (aH Pg [.tmp 10] R) (aH Pg [.tmp 10] R) (fun _ _ _=>False) (fun v h=>R (.bV v) h) h else False) (fun v h=>R (.bV v) h) (.ptr p 0) (I (a+n)) (I deep) x4 (I j) (.ptr vr 0) h7:=fun nV l3 Tb h7 J4 Vo Tn PI Qh=>by
     simp only[fJ.n2,al,aF,Tn,aB,zG,au,zA,zB,ah,tQ,aR,w1 (1+(k:Int)) (by omega),w1 ((j:Int)+(1+k)) (by omega)]
     have e8:j+1+k=a+(n-(m-k)):=by omega
     have e9:(j:Int)+(1+k)=a+(n-(m-k):Nat):=by omega
     rw[e8]at PI
     refine step (m-k,nV,l3,Tb) _ h7 (by simp only;omega) ⟨by rw[<-e9],by simp only;omega,J4,Vo,PI,Qh⟩
    have XP:∀inner dn,mA (EP++(EF++l1)) inner dn ->
      (∀e,fB (deep+1) inner (j+1) (sg rs (j+1) k) qO=.error e->fB deep own a (sg rs a n) pc=.error e) ->
      (∀iK l2 ni h6,fB (deep+1) inner (j+1) (sg rs (j+1) k) qO=.ok iK->PA n0 h6 p xr iK (EP++l2) qm bm gm ni->Fr h h6 (TW TP n0 h)->h6.obj vr=some (aO (au y) 6 46) ->
       fJ.n7 (fun id=>M id\/h.next<=id) (aH Pg [.tmp 10] R) K (fun(i:Nat) (vs:List AV) (h:AH)=>if i=0 then fJ.n1 (fun id=>M id\/h.next<=id) (aH Pg [.tmp 10] R) (aH Pg [.tmp 10] R) (fun _ _ _=>False) (fun v h=>R (.bV v) h) h else False) (fun v h=>R (.bV v) h) (.ptr p 0) (I (a+n)) (I deep) x4 (I j) (.ptr vr 0) h6) ->
      fJ.aU (fun id=>M id\/h.next<=id) (aH Pg [.tmp 10] R) K (fun(i:Nat) (vs:List AV) (h:AH)=>if i=0 then fJ.n1 (fun id=>M id\/h.next<=id) (aH Pg [.tmp 10] R) (aH Pg [.tmp 10] R) (fun _ _ _=>False) (fun v h=>R (.bV v) h) h else False) (fun v h=>R (.bV v) h) (.ptr p 0) (I (a+n)) (I deep) x4 (I j) (.ptr vr 0) dn h5:=fun inner dn Nf wG cS=>by
     simp only[fJ.aU,aR,al,aF,G9,aB,zG,au,zA,zB,ah,tQ,w1 ((j:Int)+1) (by omega),w1 ((j:Int)+1+k) (by omega),w1 ((deep:Int)+1) (by omega)]
     refine⟨TW TP n0 h5,fun id hs _=>Df qN id hs,ih k (by omega) (a:=j+1) (deep:=deep+1) sx S4 Qq Nf (by omega) (by omega) (fun _ h=>h) ?_ ?_⟩
     ·intro ib e h6 sK hp6 f6
      have h0:e≠0:=CP _ rfl sK
      have wP:(e != 0)=true:=by simp[h0]
      simp only[fJ.aP,cZ,wP,fJ.n9,ao,zD,zF,zC,zI,fJ.n8]
      simpa using he ib e h6 (wG _ sK) hp6 (TW.trans qN f6)
     ·intro iK l2 ni h6 sK xY f6
      have wP:((0:Int) != 0)=false:=rfl
      simp only[fJ.aP,cZ,wP,fJ.n9,ao,zE,zD,zC,zH]
      rw[List.append_assoc]at xY
      exact cS iK _ ni h6 sK xY (TW.trans qN f6) (TW.obj f6 G9 rfl)
    have eg:(⟨#[103,97,116,101]⟩:ByteArray)=aY:=rfl
    have oI:((0:Int) != 0)=false:=rfl
    simp only[fJ.bg,cZ,oI,fJ.aZ,ao,zE,zD,zC,zH,fJ.bn,fJ.a_,al,aF,G9,aB,zG,au,zA,zB,ah,cU,eg]
    by_cases kg:y.1.kind=aY
    ·rw[zX kg]at cJ
     have eb1:=g3' kg
     obtain⟨d1,Qj⟩:∃d1:dO,d1=⟨y.1.name,y.1.args.map (·.name),j+1,j+1+y.1.rows,1,0,false⟩:=⟨_,rfl⟩
     have Dc:qO.ds[bk.ds.length]?=some d1:=by rw[eb1,Qj];simp
     have rS:d1.name=y.1.name:=by rw[Qj]
     obtain⟨id1,i1,i2,_⟩:=B6 sx.m Qq Dc
     rw[rS]at i2
     simp only[zL kg,fJ.aQ,ao,zD,zF,zC,zI,aT,al,aF,sx.p,G9,aB,zG,au,zA,zB,ah]
     refine ir (enc:=Sb) jD z87 sx.m.g fun _=>?_
     rw[i2]
     simp only[gu,zE,if_false]
     refine XP (some bk.ds.length) _ ⟨id1,i1,rfl⟩ (fun e h6=>by rw[h6]at cJ;exact cJ.symm) fun iK l2 ni h6 sK xY Dm Ko=>?_
     rw[sK]at cJ
     simp only[zX kg]at cJ
     obtain⟨HK,x2,s2⟩:=zh _ rfl (fun r hr=>by
      unfold sg at hr
      obtain⟨z,hz,rfl⟩:=List.mem_map.1 hr
      exact(S4.a z (List.mem_of_mem_drop (List.mem_of_mem_take hz))).2) Qq sK
     obtain⟨d2,vk,ec⟩:=x2.at_ Dc
     have Yf:d2.name=y.1.name:=(congrArg (·.1) ec).trans rS
     have K6:d2.from_=((j+1:Nat):Int):=by
      have:=congrArg (·.2.2.1) ec
      rw[Qj]at this
      simp only[core]at this
      omega
     have wv:d2.JF=((j+1:Nat):Int)+(k:Int):=by
      have:=congrArg (·.2.2.2) ec
      rw[Qj]at this
      simp only[core]at this
      omega
     obtain⟨AS,i3,i4,xp,od,hxp⟩:=B6 xY.m HK vk
     rw[Yf]at i4
     simp only[fJ.n7,al,aF,Ko,aB,zG,au,zA,zB,ah,cU,eg,zL kg,fJ.n6,ao,zD,zF,zC,zI,fJ.n5,aT,xY.p]
     refine ir (enc:=Sb) jD z87 xY.m.g fun _=>?_
     rw[i4]
     have Uu:=xY.n.2.2.2.2 AS (zP i3)
     simp only[gu,zE,if_false,fJ.n4,aT,al,aD,od,uR,cH]
     refine⟨⟨Df Dm AS ⟨Uu,_,od,rfl,rfl⟩,rfl,rfl,by simp⟩,?_⟩
     have g7:Fr h6 (h6.put AS 6 [B true]) (·=AS):=Fr.refl.put (.inl rfl)
     have o7:=fF (off:=6) (cs:=[B true]) od
     generalize h6.put AS 6 [B true]=h7 at *
     obtain⟨J4,f7⟩:=xY.Ms (f:=fun d=>{ d with whole:=true }) vk i3 hxp (fun _=>rfl) rfl o7 g7
     have Qh:=TW.trans Dm f7
     have Tn:h7.obj vr=some (aO (au y) 6 46):=TW.obj f7 Ko rfl
     obtain⟨Vo,_⟩:=HK.modify (k:=bk.ds.length) (f:=fun d=>{ d with whole:=true }) (fun _=>rfl) (fun d hd=>(HK.ok.ds d hd).2)
     have Yv:(iK.ds.modify bk.ds.length fun d=>{ d with whole:=true })[bk.ds.length]?=some { d2 with whole:=true }:=by rw[getElem?_modify',zX rfl,vk];rfl
     obtain⟨xp7,XJ,ZL⟩:=J4.m.d _ _ _ Yv i3
     simp only[fJ.n3,aT,al,aF,XJ,aB,zG,zA,zB,ah,K6,wv]
     refine⟨fun _=>False,fun _ h=>h.elim,NO (fun d hd=>(Vo.ok.ds d hd).2.2.2) k (J4.ct (G3.wQ Qh)) (by omega) s2 fun h8 f8=>?_⟩
     have ecn:=DJ (f:=fun d=>{ d with whole:=true }) (fun _=>rfl) (fun _=>rfl) (ds:=iK.ds) (k:=bk.ds.length) s2 0
     simp only[ecn]
     have YO:=TW.trans Qh (TW.bJ f8)
     have pa8:=J4.bp f8
     have To:=f8.bQ XJ
     have or8:=f8.bQ Tn
     have ZK:bw nI 1 9 h8 xp7 d2.params:=ZL.bJ f8 fun _ _ h=>h
     generalize hc:countP iK.ds (sg rs (j+1) k) 0=c at *
     simp only[aT,al,aD,To,eJ,cH]
     refine⟨⟨Df YO AS ⟨Uu,_,To,rfl,rfl⟩,rfl,rfl,by simp⟩,?_⟩
     have g9:Fr h8 (h8.put AS 5 [I c]) (·=AS):=Fr.refl.put (.inl rfl)
     have o9:=fF (off:=5) (cs:=[I c]) To
     generalize h8.put AS 5 [I c]=h9 at *
     obtain⟨XC,f9⟩:=pa8.Ms (f:=fun d=>{ d with ops:=c }) Yv i3 ZK (fun _=>rfl) rfl o9 g9
     have e9:({ iK with ds:=(iK.ds.modify bk.ds.length fun d=>{ d with whole:=true }).modify bk.ds.length fun d=>{ d with ops:=c } }:Bk)={ iK with ds:=l0 iK.ds bk.ds.length c }:=by rw[Ec]
     rw[e9]at XC
     have YU:=(Dx HK (k:=bk.ds.length) s2).1
     rw[hc]at YU
     exact last _ _ _ h9 XC YU (TW.obj f9 or8 rfl) cJ (TW.trans YO f9)
    ·rw[zW kg]at cJ
     simp only[zK kg,fJ.aQ,ao,zE,zD,zC,zH]
     refine XP own x4 Un (fun e h6=>by rw[h6]at cJ;exact cJ.symm) fun iK l2 ni h6 sK xY Dm Ko=>?_
     rw[sK]at cJ
     simp only[zW kg]at cJ
     obtain⟨HK,x2,s2⟩:=zh _ rfl (fun r hr=>by
      unfold sg at hr
      obtain⟨z,hz,rfl⟩:=List.mem_map.1 hr
      exact(S4.a z (List.mem_of_mem_drop (List.mem_of_mem_take hz))).2) Qq sK
     simp only[fJ.n7,al,aF,Ko,aB,zG,au,zA,zB,ah,cU,eg,zK kg,fJ.n6,ao,zE,zD,zC,zH]
     exact last _ _ _ h6 xY HK Ko cJ Dm
  ·rw[zX k1]at cJ
   have iu:(mN y.1 m deep own.isSome != 0)=true:=by simp[k1]
   simp only[iu,fJ.bC,ao,zD,zF,zC,zI,fJ.bz]
   simpa using he _ _ h4 cJ.symm (AC.rE.bp f4) kl
end
end
end Go.Proofs.YtjehibknlmehmaaGreatDoor
